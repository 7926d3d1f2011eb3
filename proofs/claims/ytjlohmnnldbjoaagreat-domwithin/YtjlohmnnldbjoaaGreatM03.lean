/- Part 4 of the proof: AiCode0, AiCode1. -/
import Derived.Test.YtjlohmnnldbjoaaGreatM00
set_option linter.unusedVariables false
set_option linter.unusedSimpArgs false
set_option linter.unusedSectionVars false

/- The small code of the program's functions: printed. -/
namespace Go.Proofs.YtjlohmnnldbjoaaGreat.AI
open Go

abbrev f_3 : Nat := 3
abbrev f_4 : Nat := 4
abbrev f_5 : Nat := 5
abbrev f_6 : Nat := 6
abbrev f_7 : Nat := 7
abbrev f_8 : Nat := 8
abbrev f_9 : Nat := 9
abbrev f_10 : Nat := 10
abbrev f_11 : Nat := 11
abbrev f_12 : Nat := 12
abbrev f_13 : Nat := 13
abbrev f_14 : Nat := 14
abbrev f_15 : Nat := 15
abbrev f_16 : Nat := 16
abbrev f_17 : Nat := 17
abbrev f_18 : Nat := 18
abbrev f_19 : Nat := 19
abbrev f_20 : Nat := 20
abbrev f_21 : Nat := 21
abbrev f_22 : Nat := 22
abbrev f_23 : Nat := 23
abbrev f_24 : Nat := 24
abbrev f_25 : Nat := 25
abbrev f_26 : Nat := 26
abbrev f_27 : Nat := 27
abbrev f_28 : Nat := 28
abbrev f_29 : Nat := 29
abbrev f_30 : Nat := 30
abbrev f_31 : Nat := 31
abbrev f_32 : Nat := 32
abbrev f_33 : Nat := 33
abbrev f_34 : Nat := 34
abbrev f_35 : Nat := 35
abbrev f_36 : Nat := 36
abbrev f_37 : Nat := 37
abbrev f_38 : Nat := 38
abbrev f_39 : Nat := 39
abbrev f_40 : Nat := 40
abbrev f_41 : Nat := 41
abbrev f_42 : Nat := 42
abbrev f_43 : Nat := 43
abbrev f_44 : Nat := 44
abbrev f_45 : Nat := 45
abbrev f_46 : Nat := 46
abbrev f_47 : Nat := 47
abbrev f_48 : Nat := 48
abbrev f_49 : Nat := 49
abbrev f_50 : Nat := 50
abbrev f_51 : Nat := 51
abbrev f_52 : Nat := 52
abbrev f_53 : Nat := 53
abbrev f_54 : Nat := 54
abbrev f_55 : Nat := 55
abbrev f_56 : Nat := 56
abbrev f_57 : Nat := 57
abbrev f_58 : Nat := 58
abbrev f_59 : Nat := 59
abbrev f_60 : Nat := 60
abbrev f_61 : Nat := 61
abbrev f_62 : Nat := 62
abbrev f_63 : Nat := 63
abbrev f_64 : Nat := 64
abbrev f_65 : Nat := 65
abbrev f_66 : Nat := 66
abbrev f_67 : Nat := 67
abbrev f_68 : Nat := 68
abbrev f_69 : Nat := 69
abbrev f_70 : Nat := 70
abbrev f_71 : Nat := 71
abbrev f_72 : Nat := 72
abbrev f_73 : Nat := 73
abbrev f_74 : Nat := 74
abbrev f_75 : Nat := 75
abbrev f_76 : Nat := 76
abbrev f_77 : Nat := 77
abbrev f_78 : Nat := 78
abbrev f_79 : Nat := 79
abbrev f_80 : Nat := 80
abbrev f_81 : Nat := 81
abbrev f_82 : Nat := 82
abbrev f_83 : Nat := 83
abbrev f_84 : Nat := 84
abbrev f_85 : Nat := 85
abbrev f_86 : Nat := 86
abbrev f_87 : Nat := 87
abbrev f_88 : Nat := 88
abbrev f_89 : Nat := 89
abbrev f_90 : Nat := 90
abbrev f_91 : Nat := 91
abbrev f_92 : Nat := 92
abbrev f_93 : Nat := 93
abbrev f_94 : Nat := 94
abbrev f_95 : Nat := 95
abbrev f_96 : Nat := 96
abbrev f_97 : Nat := 97
abbrev f_98 : Nat := 98
abbrev f_99 : Nat := 99
abbrev f_100 : Nat := 100
abbrev f_101 : Nat := 101
abbrev f_102 : Nat := 102
abbrev f_103 : Nat := 103
abbrev f_104 : Nat := 104
abbrev f_105 : Nat := 105
abbrev f_106 : Nat := 106
abbrev f_107 : Nat := 107
abbrev f_108 : Nat := 108
abbrev f_109 : Nat := 109
abbrev f_110 : Nat := 110
abbrev f_111 : Nat := 111
abbrev f_112 : Nat := 112
abbrev f_113 : Nat := 113
abbrev f_114 : Nat := 114
abbrev f_115 : Nat := 115
abbrev f_116 : Nat := 116
abbrev f_117 : Nat := 117
abbrev f_118 : Nat := 118
abbrev f_119 : Nat := 119
abbrev f_120 : Nat := 120
abbrev f_121 : Nat := 121
abbrev f_122 : Nat := 122
abbrev f_123 : Nat := 123
abbrev f_124 : Nat := 124
abbrev f_125 : Nat := 125
abbrev f_126 : Nat := 126
abbrev f_127 : Nat := 127
abbrev f_128 : Nat := 128
abbrev f_129 : Nat := 129
abbrev f_130 : Nat := 130
abbrev f_131 : Nat := 131
abbrev f_132 : Nat := 132
abbrev f_133 : Nat := 133
abbrev f_134 : Nat := 134
abbrev f_135 : Nat := 135
abbrev f_136 : Nat := 136
abbrev f_137 : Nat := 137
abbrev f_138 : Nat := 138
abbrev f_139 : Nat := 139
abbrev f_140 : Nat := 140
abbrev f_141 : Nat := 141
abbrev f_142 : Nat := 142
abbrev f_143 : Nat := 143
abbrev f_144 : Nat := 144
abbrev f_145 : Nat := 145
abbrev f_146 : Nat := 146
abbrev f_147 : Nat := 147
abbrev f_148 : Nat := 148
abbrev f_149 : Nat := 149
abbrev f_150 : Nat := 150
abbrev f_151 : Nat := 151
abbrev f_152 : Nat := 152
abbrev f_153 : Nat := 153
abbrev f_154 : Nat := 154
abbrev f_155 : Nat := 155
abbrev f_156 : Nat := 156
abbrev f_157 : Nat := 157
abbrev f_158 : Nat := 158
abbrev f_159 : Nat := 159
abbrev f_160 : Nat := 160
abbrev f_161 : Nat := 161
abbrev f_162 : Nat := 162
abbrev f_163 : Nat := 163
abbrev f_164 : Nat := 164
abbrev f_165 : Nat := 165
abbrev f_166 : Nat := 166
abbrev f_167 : Nat := 167
abbrev f_168 : Nat := 168
abbrev f_169 : Nat := 169
abbrev f_170 : Nat := 170
abbrev f_171 : Nat := 171
abbrev f_172 : Nat := 172
abbrev f_173 : Nat := 173
abbrev f_174 : Nat := 174
abbrev f_175 : Nat := 175
abbrev f_176 : Nat := 176
abbrev f_177 : Nat := 177
abbrev f_178 : Nat := 178
abbrev f_179 : Nat := 179
abbrev f_180 : Nat := 180
abbrev f_181 : Nat := 181
abbrev f_182 : Nat := 182
abbrev f_183 : Nat := 183
abbrev f_184 : Nat := 184
abbrev f_185 : Nat := 185
abbrev f_201 : Nat := 201
abbrev f_202 : Nat := 202
abbrev f_203 : Nat := 203
abbrev f_204 : Nat := 204
abbrev f_205 : Nat := 205
abbrev f_206 : Nat := 206
abbrev f_207 : Nat := 207
abbrev f_208 : Nat := 208
abbrev f_209 : Nat := 209
abbrev f_210 : Nat := 210
abbrev f_211 : Nat := 211
abbrev f_212 : Nat := 212
abbrev f_213 : Nat := 213
abbrev f_214 : Nat := 214
abbrev f_215 : Nat := 215
abbrev f_216 : Nat := 216
abbrev T_int64 : Nat := 2
abbrev T_int : Nat := 3
abbrev T_bool : Nat := 4
abbrev T_int8 : Nat := 22
abbrev T_api_Template : Nat := 25
abbrev T_api_Int : Nat := 30
abbrev T_api_Rat : Nat := 32
abbrev T_api_Ext : Nat := 34
abbrev T_sl_api_Rat : Nat := 37
abbrev T_api_Answer : Nat := 40
abbrev T_api_LP : Nat := 45
abbrev T_uint32 : Nat := 103
abbrev T_sl_api_Int : Nat := 123
abbrev T_simplex_scaled : Nat := 125
abbrev T_simplex_all : Nat := 131
abbrev T_simplex_few : Nat := 145
abbrev T_simplex_tableau_api_Int_simplex_all : Nat := 146
abbrev T_simplex_tableau_api_Int_simplex_all_150 : Nat := 150
abbrev T_simplex_tableau_int64_simplex_few : Nat := 163
abbrev T_simplex_tableau_int64_simplex_few_167 : Nat := 167
abbrev T_sl_int64 : Nat := 169
abbrev T_simplex_wide : Nat := 208
def r_8_0 : List SOper := [⟨some 6, none, .mv (.const (.bool false))⟩]
def r_8_1 : List SOper := [⟨some 10, none, .mv (.tmp 0)⟩,
  ⟨some 11, none, .len (.tmp 10)⟩,
  ⟨some 12, none, .mv (.tmp 1)⟩,
  ⟨some 13, none, .len (.tmp 12)⟩,
  ⟨some 14, none, .mv (.tmp 2)⟩,
  ⟨some 15, none, .len (.tmp 14)⟩,
  ⟨some 16, none, .mnx false (.tmp 11) [(.tmp 13), (.tmp 15), (.const (.int .i64 60))]⟩,
  ⟨some 7, none, .mv (.tmp 16)⟩]
def r_8_2 : List SOper := [⟨some 17, none, .mv (.tmp 0)⟩,
  ⟨some 18, none, .mv (.tmp 7)⟩,
  ⟨some 19, none, .sl T_api_Ext 5 (.tmp 17) none (some (.tmp 18)) none⟩,
  ⟨some 0, none, .mv (.tmp 19)⟩]
def r_8_3 : List SOper := [⟨some 20, none, .mv (.tmp 1)⟩,
  ⟨some 21, none, .mv (.tmp 7)⟩,
  ⟨some 22, none, .sl T_api_Ext 5 (.tmp 20) none (some (.tmp 21)) none⟩,
  ⟨some 1, none, .mv (.tmp 22)⟩]
def r_8_4 : List SOper := [⟨some 23, none, .mv (.tmp 2)⟩,
  ⟨some 24, none, .mv (.tmp 7)⟩,
  ⟨some 25, none, .sl T_api_Ext 5 (.tmp 23) none (some (.tmp 24)) none⟩,
  ⟨some 2, none, .mv (.tmp 25)⟩]
def r_8_5 : List SOper := [⟨some 26, none, .mv (.tmp 0)⟩,
  ⟨some 27, none, .call f_19 [(.tmp 26)] true⟩,
  ⟨some 28, none, .mv (.tmp 27)⟩,
  ⟨some 29, some (28, false), .mv (.tmp 1)⟩,
  ⟨some 30, some (28, false), .call f_19 [(.tmp 29)] true⟩,
  ⟨some 31, none, .pick (.tmp 28) (.const (.bool true)) (.tmp 30)⟩,
  ⟨some 32, none, .mv (.tmp 31)⟩,
  ⟨some 33, some (32, false), .mv (.tmp 2)⟩,
  ⟨some 34, some (32, false), .call f_19 [(.tmp 33)] true⟩,
  ⟨some 35, none, .pick (.tmp 32) (.const (.bool true)) (.tmp 34)⟩]
def r_8_6 : List SOper := [⟨some 36, none, .call f_17 [] true⟩,
  ⟨some 6, none, .mv (.tmp 36)⟩]
def r_8_7 : List SOper := [⟨some 37, none, .mv (.tmp 0)⟩,
  ⟨some 38, none, .mv (.tmp 1)⟩,
  ⟨some 39, none, .call f_31 [(.tmp 37), (.tmp 38)] true⟩,
  ⟨some 40, none, .mv (.tmp 0)⟩,
  ⟨some 41, none, .mv (.tmp 1)⟩,
  ⟨some 42, none, .call f_33 [(.tmp 40), (.tmp 41)] true⟩,
  ⟨some 8, none, .mv (.tmp 39)⟩,
  ⟨some 9, none, .mv (.tmp 42)⟩]
def r_8_8 : List SOper := [⟨some 43, none, .mv (.tmp 0)⟩,
  ⟨some 44, none, .mv (.tmp 8)⟩,
  ⟨some 45, none, .call f_28 [(.tmp 43), (.tmp 44)] true⟩,
  ⟨some 46, none, .un .not (.tmp 45)⟩,
  ⟨some 47, none, .mv (.tmp 46)⟩,
  ⟨some 48, some (47, false), .mv (.tmp 1)⟩,
  ⟨some 49, some (47, false), .mv (.tmp 8)⟩,
  ⟨some 50, some (47, false), .call f_28 [(.tmp 48), (.tmp 49)] true⟩,
  ⟨some 51, some (47, false), .un .not (.tmp 50)⟩,
  ⟨some 52, none, .pick (.tmp 47) (.const (.bool true)) (.tmp 51)⟩,
  ⟨some 53, none, .mv (.tmp 52)⟩,
  ⟨some 54, some (53, false), .mv (.tmp 9)⟩,
  ⟨some 55, some (53, false), .mv (.tmp 0)⟩,
  ⟨some 56, some (53, false), .call f_28 [(.tmp 54), (.tmp 55)] true⟩,
  ⟨some 57, some (53, false), .un .not (.tmp 56)⟩,
  ⟨some 58, none, .pick (.tmp 53) (.const (.bool true)) (.tmp 57)⟩,
  ⟨some 59, none, .mv (.tmp 58)⟩,
  ⟨some 60, some (59, false), .mv (.tmp 9)⟩,
  ⟨some 61, some (59, false), .mv (.tmp 1)⟩,
  ⟨some 62, some (59, false), .call f_28 [(.tmp 60), (.tmp 61)] true⟩,
  ⟨some 63, some (59, false), .un .not (.tmp 62)⟩,
  ⟨some 64, none, .pick (.tmp 59) (.const (.bool true)) (.tmp 63)⟩]
def r_8_9 : List SOper := [⟨some 6, none, .mv (.const (.bool false))⟩]
def r_8_10 : List SOper := [⟨some 65, none, .mv (.tmp 0)⟩,
  ⟨some 66, none, .mv (.tmp 2)⟩,
  ⟨some 67, none, .call f_28 [(.tmp 65), (.tmp 66)] true⟩,
  ⟨some 68, none, .mv (.tmp 67)⟩,
  ⟨some 69, some (68, true), .mv (.tmp 1)⟩,
  ⟨some 70, some (68, true), .mv (.tmp 2)⟩,
  ⟨some 71, some (68, true), .call f_28 [(.tmp 69), (.tmp 70)] true⟩,
  ⟨some 72, none, .pick (.tmp 68) (.tmp 71) (.const (.bool false))⟩,
  ⟨some 73, none, .mv (.tmp 72)⟩,
  ⟨some 74, some (73, true), .mv (.tmp 8)⟩,
  ⟨some 75, some (73, true), .mv (.tmp 2)⟩,
  ⟨some 76, some (73, true), .call f_28 [(.tmp 74), (.tmp 75)] true⟩,
  ⟨some 77, some (73, true), .un .not (.tmp 76)⟩,
  ⟨some 78, none, .pick (.tmp 73) (.tmp 77) (.const (.bool false))⟩,
  ⟨some 79, none, .mv (.tmp 78)⟩,
  ⟨some 80, some (79, false), .mv (.tmp 2)⟩,
  ⟨some 81, some (79, false), .mv (.tmp 0)⟩,
  ⟨some 82, some (79, false), .call f_28 [(.tmp 80), (.tmp 81)] true⟩,
  ⟨some 83, some (79, false), .mv (.tmp 82)⟩,
  ⟨some 84, some (83, true), .mv (.tmp 2)⟩,
  ⟨some 85, some (83, true), .mv (.tmp 1)⟩,
  ⟨some 86, some (83, true), .call f_28 [(.tmp 84), (.tmp 85)] true⟩,
  ⟨some 87, some (79, false), .pick (.tmp 83) (.tmp 86) (.const (.bool false))⟩,
  ⟨some 88, some (79, false), .mv (.tmp 87)⟩,
  ⟨some 89, some (88, true), .mv (.tmp 2)⟩,
  ⟨some 90, some (88, true), .mv (.tmp 9)⟩,
  ⟨some 91, some (88, true), .call f_28 [(.tmp 89), (.tmp 90)] true⟩,
  ⟨some 92, some (88, true), .un .not (.tmp 91)⟩,
  ⟨some 93, some (79, false), .pick (.tmp 88) (.tmp 92) (.const (.bool false))⟩,
  ⟨some 94, none, .pick (.tmp 79) (.const (.bool true)) (.tmp 93)⟩]
def r_8_11 : List SOper := [⟨some 6, none, .mv (.const (.bool false))⟩]
def r_8_12 : List SOper := [⟨some 95, none, .mv (.tmp 0)⟩,
  ⟨some 96, none, .mv (.tmp 1)⟩,
  ⟨some 97, none, .call f_28 [(.tmp 95), (.tmp 96)] true⟩,
  ⟨some 98, none, .mv (.tmp 8)⟩,
  ⟨some 99, none, .mv (.tmp 1)⟩,
  ⟨some 100, none, .mv (.tmp 1)⟩,
  ⟨some 101, none, .call f_31 [(.tmp 99), (.tmp 100)] true⟩,
  ⟨some 102, none, .call f_30 [(.tmp 98), (.tmp 101)] true⟩,
  ⟨some 103, none, .bin 1 .eql (.tmp 97) (.tmp 102)⟩,
  ⟨some 104, none, .mv (.tmp 103)⟩,
  ⟨some 105, some (104, true), .call f_17 [] true⟩,
  ⟨some 106, none, .pick (.tmp 104) (.tmp 105) (.const (.bool false))⟩,
  ⟨some 6, none, .mv (.tmp 106)⟩]
def s_8 : SFun := ⟨3, 107, [.tmp 6],
  (.seq (.reg r_8_0) (.seq (.reg r_8_1) (.seq (.reg r_8_2) (.seq (.reg r_8_3) (.seq (.reg r_8_4) (.seq (.seq (.reg r_8_5) (.cond (.tmp 35) (.seq (.reg r_8_6) .ret) .skip)) (.seq (.reg r_8_7) (.seq (.seq (.reg r_8_8) (.cond (.tmp 64) (.seq (.reg r_8_9) .ret) .skip)) (.seq (.seq (.reg r_8_10) (.cond (.tmp 94) (.seq (.reg r_8_11) .ret) .skip)) (.seq (.reg r_8_12) .ret))))))))))⟩

def r_9_0 : List SOper := [⟨some 4, none, .box T_api_Template (.tmp 0)⟩,
  ⟨some 8, none, .mv (.const (.bool false))⟩]
def r_9_1 : List SOper := [⟨some 11, none, .fa 0 (.tmp 4)⟩,
  ⟨some 12, none, .load false 1 (.tmp 11)⟩,
  ⟨some 13, none, .call f_18 [(.tmp 12)] true⟩,
  ⟨some 14, none, .mv (.tmp 13)⟩,
  ⟨some 15, some (14, false), .mv (.tmp 1)⟩,
  ⟨some 16, some (14, false), .call f_19 [(.tmp 15)] true⟩,
  ⟨some 17, none, .pick (.tmp 14) (.const (.bool true)) (.tmp 16)⟩,
  ⟨some 18, none, .mv (.tmp 17)⟩,
  ⟨some 19, some (18, false), .mv (.tmp 2)⟩,
  ⟨some 20, some (18, false), .call f_19 [(.tmp 19)] true⟩,
  ⟨some 21, none, .pick (.tmp 18) (.const (.bool true)) (.tmp 20)⟩,
  ⟨some 22, none, .mv (.tmp 21)⟩,
  ⟨some 23, some (22, false), .mv (.tmp 3)⟩,
  ⟨some 24, some (22, false), .lit T_sl_api_Rat [(.slice none 0 0)] 1 [(0, 1, (.tmp 23))]⟩,
  ⟨some 25, some (22, false), .call f_18 [(.tmp 24)] true⟩,
  ⟨some 26, none, .pick (.tmp 22) (.const (.bool true)) (.tmp 25)⟩,
  ⟨some 27, none, .mv (.tmp 26)⟩,
  ⟨some 28, some (27, false), .mv (.tmp 1)⟩,
  ⟨some 29, some (27, false), .len (.tmp 28)⟩,
  ⟨some 30, some (27, false), .mv (.tmp 2)⟩,
  ⟨some 31, some (27, false), .len (.tmp 30)⟩,
  ⟨some 32, some (27, false), .bin 0 .neq (.tmp 29) (.tmp 31)⟩,
  ⟨some 33, none, .pick (.tmp 27) (.const (.bool true)) (.tmp 32)⟩]
def r_9_2 : List SOper := [⟨some 34, none, .call f_17 [] true⟩,
  ⟨some 8, none, .mv (.tmp 34)⟩]
def r_9_3 : List SOper := [⟨some 35, none, .load true 1 (.tmp 4)⟩,
  ⟨some 36, none, .mv (.tmp 1)⟩,
  ⟨some 37, none, .mv (.tmp 3)⟩,
  ⟨some 38, none, .call f_21 [(.tmp 35), (.tmp 36), (.tmp 37)] false⟩,
  ⟨some 39, none, .load true 1 (.tmp 4)⟩,
  ⟨some 40, none, .mv (.tmp 2)⟩,
  ⟨some 41, none, .mv (.tmp 3)⟩,
  ⟨some 42, none, .call f_21 [(.tmp 39), (.tmp 40), (.tmp 41)] true⟩,
  ⟨some 9, none, .mv (.tmp 38)⟩,
  ⟨some 10, none, .mv (.tmp 42)⟩]
def r_9_4 : List SOper := [⟨some 43, none, .mv (.tmp 9)⟩,
  ⟨some 44, none, .un .not (.tmp 43)⟩,
  ⟨some 45, none, .mv (.tmp 44)⟩,
  ⟨some 46, some (45, true), .mv (.tmp 10)⟩,
  ⟨some 47, some (45, true), .un .not (.tmp 46)⟩,
  ⟨some 48, none, .pick (.tmp 45) (.tmp 47) (.const (.bool false))⟩,
  ⟨some 49, none, .mv (.tmp 48)⟩,
  ⟨some 50, some (49, false), .load true 1 (.tmp 4)⟩,
  ⟨some 51, some (49, false), .mv (.tmp 1)⟩,
  ⟨some 52, some (49, false), .mv (.tmp 2)⟩,
  ⟨some 53, some (49, false), .call f_31 [(.tmp 51), (.tmp 52)] false⟩,
  ⟨some 54, some (49, false), .mv (.tmp 3)⟩,
  ⟨some 55, some (49, false), .call f_21 [(.tmp 50), (.tmp 53), (.tmp 54)] true⟩,
  ⟨some 56, none, .pick (.tmp 49) (.const (.bool true)) (.tmp 55)⟩,
  ⟨some 57, none, .mv (.tmp 56)⟩,
  ⟨some 58, some (57, true), .mv (.tmp 9)⟩,
  ⟨some 59, some (57, true), .mv (.tmp 58)⟩,
  ⟨some 60, some (59, true), .mv (.tmp 10)⟩,
  ⟨some 61, some (57, true), .pick (.tmp 59) (.tmp 60) (.const (.bool false))⟩,
  ⟨some 62, some (57, true), .load true 1 (.tmp 4)⟩,
  ⟨some 63, some (57, true), .mv (.tmp 1)⟩,
  ⟨some 64, some (57, true), .mv (.tmp 2)⟩,
  ⟨some 65, some (57, true), .call f_33 [(.tmp 63), (.tmp 64)] false⟩,
  ⟨some 66, some (57, true), .mv (.tmp 3)⟩,
  ⟨some 67, some (57, true), .call f_21 [(.tmp 62), (.tmp 65), (.tmp 66)] true⟩,
  ⟨some 68, some (57, true), .bin 1 .eql (.tmp 61) (.tmp 67)⟩,
  ⟨some 69, none, .pick (.tmp 57) (.tmp 68) (.const (.bool false))⟩,
  ⟨some 70, none, .mv (.tmp 69)⟩,
  ⟨some 71, some (70, true), .call f_17 [] true⟩,
  ⟨some 72, none, .pick (.tmp 70) (.tmp 71) (.const (.bool false))⟩,
  ⟨some 8, none, .mv (.tmp 72)⟩]
def s_9 : SFun := ⟨4, 73, [.tmp 8],
  (.seq (.reg r_9_0) (.seq (.seq (.reg r_9_1) (.cond (.tmp 33) (.seq (.reg r_9_2) .ret) .skip)) (.seq (.draw r_9_3 [0, 0, 0, 7, 0, 0, 0, 127, 255, 511] []) (.seq (.draw r_9_4 [0, 1, 3, 7, 15, 31, 63, 127, 127, 127, 895, 127, 4095, 8191, 16383, 32767, 65535, 131071, 262143, 32767, 32767, 32767, 3276799, 32767, 16383999, 33554431, 67108863, 134217727, 268435455, 536870911, 1073741823] []) .ret))))⟩

def r_12_0 : List SOper := [⟨some 2, none, .alloc T_api_Rat [(.bool false), (.slice none 0 0), (.bool false), (.slice none 0 0)]⟩]
def r_12_1 : List SOper := [⟨some 3, none, .mv (.tmp 0)⟩,
  ⟨some 4, none, .call f_39 [(.tmp 3)] true⟩,
  ⟨some 5, none, .call f_39 [(.const (.int .i64 1))] true⟩,
  ⟨some 6, none, .build [(.bool false), (.slice none 0 0), (.bool false), (.slice none 0 0)] [(0, 2, (.tmp 4)), (2, 2, (.tmp 5))]⟩,
  ⟨none, none, .store 4 (.tmp 2) (.tmp 6)⟩]
def s_12 : SFun := ⟨1, 7, [.cell 2 true 4],
  (.seq (.reg r_12_0) (.seq (.reg r_12_1) .ret))⟩

def r_13_0 : List SOper := [⟨some 3, none, .box T_api_Template (.tmp 0)⟩,
  ⟨some 6, none, .mv (.const (.bool false))⟩,
  ⟨some 7, none, .alloc T_api_Answer [(.int .i64 0), (.bool false), (.slice none 0 0), (.bool false), (.slice none 0 0), (.slice none 0 0), (.slice none 0 0), (.slice none 0 0)]⟩,
  ⟨some 8, none, .mv (.const (.int .i64 0))⟩]
def r_13_1 : List SOper := [⟨some 14, none, .load true 1 (.tmp 3)⟩,
  ⟨some 15, none, .mv (.tmp 1)⟩,
  ⟨some 16, none, .mv (.tmp 2)⟩,
  ⟨some 17, none, .call f_27 [(.tmp 14), (.tmp 15), (.tmp 16)] true⟩,
  ⟨some 18, none, .un .not (.tmp 17)⟩]
def r_13_2 : List SOper := [⟨some 19, none, .build [(.int .i64 0), (.bool false), (.slice none 0 0), (.bool false), (.slice none 0 0), (.slice none 0 0), (.slice none 0 0), (.slice none 0 0)] []⟩,
  ⟨some 6, none, .mv (.const (.bool false))⟩,
  ⟨none, none, .store 8 (.tmp 7) (.tmp 19)⟩,
  ⟨some 8, none, .mv (.const (.int .i64 1))⟩]
def r_13_3 : List SOper := [⟨some 21, none, .load true 1 (.tmp 3)⟩,
  ⟨some 22, none, .mv (.tmp 1)⟩,
  ⟨some 23, none, .mv (.tmp 2)⟩,
  ⟨some 24, none, .call f_20 [(.tmp 21), (.tmp 22), (.tmp 23)] true⟩,
  ⟨some 20, none, .mv (.tmp 24)⟩,
  ⟨some 25, none, .ext (.tmp 20) 0⟩,
  ⟨some 26, none, .ext (.tmp 20) 1⟩,
  ⟨some 9, none, .alloc T_api_LP [(.int .i64 0), (.slice none 0 0), (.slice none 0 0), (.slice none 0 0)]⟩,
  ⟨none, none, .store 4 (.tmp 9) (.tmp 25)⟩,
  ⟨some 10, none, .mv (.tmp 26)⟩]
def r_13_4 : List SOper := [⟨some 27, none, .mv (.tmp 10)⟩,
  ⟨some 28, none, .un .not (.tmp 27)⟩]
def r_13_5 : List SOper := [⟨some 29, none, .build [(.int .i64 0), (.bool false), (.slice none 0 0), (.bool false), (.slice none 0 0), (.slice none 0 0), (.slice none 0 0), (.slice none 0 0)] []⟩,
  ⟨some 6, none, .mv (.const (.bool true))⟩,
  ⟨none, none, .store 8 (.tmp 7) (.tmp 29)⟩,
  ⟨some 8, none, .mv (.const (.int .i64 0))⟩]
def r_13_6 : List SOper := [⟨some 31, none, .load true 4 (.tmp 9)⟩,
  ⟨some 32, none, .call f_40 [(.tmp 31)] true⟩,
  ⟨some 30, none, .mv (.tmp 32)⟩,
  ⟨some 33, none, .ext (.tmp 30) 0⟩,
  ⟨some 34, none, .ext (.tmp 30) 1⟩,
  ⟨some 35, none, .ext (.tmp 30) 2⟩,
  ⟨some 11, none, .alloc T_api_Answer [(.int .i64 0), (.bool false), (.slice none 0 0), (.bool false), (.slice none 0 0), (.slice none 0 0), (.slice none 0 0), (.slice none 0 0)]⟩,
  ⟨none, none, .store 8 (.tmp 11) (.tmp 33)⟩,
  ⟨some 12, none, .mv (.tmp 34)⟩,
  ⟨some 13, none, .mv (.tmp 35)⟩]
def r_13_7 : List SOper := [⟨some 36, none, .fa 0 (.tmp 11)⟩,
  ⟨some 37, none, .load false 1 (.tmp 36)⟩,
  ⟨some 38, none, .bin 0 .eql (.tmp 37) (.const (.int .i64 2))⟩,
  ⟨some 39, none, .load true 8 (.tmp 11)⟩,
  ⟨some 40, none, .mv (.tmp 13)⟩,
  ⟨some 6, none, .mv (.tmp 38)⟩,
  ⟨none, none, .store 8 (.tmp 7) (.tmp 39)⟩,
  ⟨some 8, none, .mv (.tmp 40)⟩]
def s_13 : SFun := ⟨3, 41, [.tmp 6, .cell 7 true 8, .tmp 8],
  (.seq (.reg r_13_0) (.seq (.seq (.reg r_13_1) (.cond (.tmp 18) (.seq (.reg r_13_2) .ret) .skip)) (.seq (.reg r_13_3) (.seq (.seq (.reg r_13_4) (.cond (.tmp 28) (.seq (.reg r_13_5) .ret) .skip)) (.seq (.reg r_13_6) (.seq (.draw r_13_7 [0, 1, 3, 0, 0, 7, 47, 127] []) .ret))))))⟩

def r_15_0 : List SOper := [⟨some 2, none, .mv (.const (.int .i64 0))⟩]
def r_15_1 : List SOper := [⟨some 3, none, .mv (.tmp 0)⟩,
  ⟨some 2, none, .mv (.tmp 3)⟩]
def s_15 : SFun := ⟨1, 4, [.tmp 2],
  (.seq (.reg r_15_0) (.seq (.reg r_15_1) .ret))⟩

def r_17_0 : List SOper := [⟨some 0, none, .mv (.const (.bool false))⟩]
def r_17_1 : List SOper := [⟨some 5, none, .call f_26 [(.const (.int .i64 1))] true⟩,
  ⟨some 6, none, .call f_12 [(.const (.int .i64 3))] true⟩,
  ⟨some 7, none, .build [(.int .i64 0), (.bool false), (.slice none 0 0), (.bool false), (.slice none 0 0)] [(1, 4, (.tmp 6))]⟩,
  ⟨some 8, none, .call f_12 [(.const (.int .i64 (-4)))] true⟩,
  ⟨some 9, none, .build [(.int .i64 0), (.bool false), (.slice none 0 0), (.bool false), (.slice none 0 0)] [(1, 4, (.tmp 8))]⟩,
  ⟨some 10, none, .lit T_api_Ext [(.int .i64 0), (.bool false), (.slice none 0 0), (.bool false), (.slice none 0 0)] 2 [(0, 5, (.tmp 7)), (5, 5, (.tmp 9))]⟩,
  ⟨some 11, none, .call f_13 [(.tmp 5), (.const (.int .i64 1)), (.tmp 10)] true⟩,
  ⟨some 4, none, .mv (.tmp 11)⟩,
  ⟨some 12, none, .ext (.tmp 4) 0⟩,
  ⟨some 13, none, .ext (.tmp 4) 1⟩,
  ⟨some 14, none, .ext (.tmp 4) 2⟩,
  ⟨some 2, none, .alloc T_api_Answer [(.int .i64 0), (.bool false), (.slice none 0 0), (.bool false), (.slice none 0 0), (.slice none 0 0), (.slice none 0 0), (.slice none 0 0)]⟩,
  ⟨some 1, none, .mv (.tmp 12)⟩,
  ⟨none, none, .store 8 (.tmp 2) (.tmp 13)⟩,
  ⟨some 3, none, .mv (.tmp 14)⟩]
def r_17_2 : List SOper := [⟨some 15, none, .mv (.tmp 1)⟩,
  ⟨some 16, none, .mv (.tmp 15)⟩,
  ⟨some 17, some (16, true), .fa 0 (.tmp 2)⟩,
  ⟨some 18, some (16, true), .load false 1 (.tmp 17)⟩,
  ⟨some 19, some (16, true), .bin 0 .eql (.tmp 18) (.const (.int .i64 2))⟩,
  ⟨some 20, none, .pick (.tmp 16) (.tmp 19) (.const (.bool false))⟩,
  ⟨some 21, none, .mv (.tmp 20)⟩,
  ⟨some 22, some (21, true), .mv (.tmp 3)⟩,
  ⟨some 23, some (21, true), .call f_15 [(.tmp 22)] true⟩,
  ⟨some 24, some (21, true), .bin 0 .eql (.tmp 23) (.const (.int .i64 0))⟩,
  ⟨some 25, none, .pick (.tmp 21) (.tmp 24) (.const (.bool false))⟩,
  ⟨some 0, none, .mv (.tmp 25)⟩]
def s_17 : SFun := ⟨0, 26, [.tmp 0],
  (.seq (.reg r_17_0) (.seq (.reg r_17_1) (.seq (.reg r_17_2) .ret)))⟩

def r_18_0 : List SOper := [⟨some 2, none, .mv (.const (.bool false))⟩]
def r_18_1 : List SOper := [⟨some 3, none, .mv (.const (.int .i64 0))⟩]
def r_18_2 : List SOper := [⟨some 4, none, .mv (.const (.int .i64 0))⟩]
def r_18_3 : List SOper := [⟨some 5, none, .mv (.tmp 4)⟩,
  ⟨some 6, none, .mv (.tmp 0)⟩,
  ⟨some 7, none, .len (.tmp 6)⟩,
  ⟨some 8, none, .bin 0 .lss (.tmp 5) (.tmp 7)⟩,
  ⟨some 9, none, .mv (.tmp 8)⟩,
  ⟨some 10, some (9, true), .mv (.tmp 3)⟩,
  ⟨some 11, some (9, true), .bin 0 .leq (.tmp 10) (.const (.int .i64 200))⟩,
  ⟨some 12, none, .pick (.tmp 9) (.tmp 11) (.const (.bool false))⟩]
def r_18_4 : List SOper := [⟨some 15, none, .mv (.tmp 3)⟩,
  ⟨some 16, none, .bin 0 .add (.tmp 15) (.const (.int .i64 1))⟩,
  ⟨some 17, none, .mv (.tmp 0)⟩,
  ⟨some 18, none, .mv (.tmp 4)⟩,
  ⟨some 19, none, .ia 1 (.tmp 17) (.tmp 18)⟩,
  ⟨some 20, none, .load false 1 (.tmp 19)⟩,
  ⟨some 21, none, .len (.tmp 20)⟩,
  ⟨some 22, none, .mnx false (.tmp 21) [(.const (.int .i64 201))]⟩,
  ⟨some 23, none, .bin 0 .add (.tmp 16) (.tmp 22)⟩,
  ⟨some 3, none, .mv (.tmp 23)⟩]
def r_18_5 : List SOper := [⟨some 24, none, .mv (.tmp 0)⟩,
  ⟨some 25, none, .mv (.tmp 4)⟩,
  ⟨some 26, none, .ia 1 (.tmp 24) (.tmp 25)⟩,
  ⟨some 27, none, .load false 1 (.tmp 26)⟩,
  ⟨some 28, none, .len (.tmp 27)⟩,
  ⟨some 29, none, .bin 0 .leq (.tmp 28) (.const (.int .i64 200))⟩,
  ⟨some 30, none, .mv (.tmp 29)⟩,
  ⟨some 31, some (30, true), .mv (.tmp 0)⟩,
  ⟨some 32, some (30, true), .mv (.tmp 4)⟩,
  ⟨some 33, some (30, true), .ia 1 (.tmp 31) (.tmp 32)⟩,
  ⟨some 34, some (30, true), .load false 1 (.tmp 33)⟩,
  ⟨some 35, some (30, true), .call f_48 [(.tmp 34)] true⟩,
  ⟨some 36, none, .pick (.tmp 30) (.tmp 35) (.const (.bool false))⟩]
def r_18_6 : List SOper := [⟨some 2, none, .mv (.const (.bool true))⟩]
def r_18_7 : List SOper := [⟨some 13, none, .mv (.tmp 4)⟩,
  ⟨some 14, none, .bin 0 .add (.tmp 13) (.const (.int .i64 1))⟩,
  ⟨some 4, none, .mv (.tmp 14)⟩]
def r_18_8 : List SOper := [⟨some 37, none, .mv (.tmp 3)⟩,
  ⟨some 38, none, .bin 0 .gtr (.tmp 37) (.const (.int .i64 200))⟩,
  ⟨some 2, none, .mv (.tmp 38)⟩]
def s_18 : SFun := ⟨1, 39, [.tmp 2],
  (.seq (.reg r_18_0) (.seq (.reg r_18_1) (.seq (.seq (.reg r_18_2) (.block 0 (.loop (.seq (.seq (.reg r_18_3) (.cond (.tmp 12) .skip (.exit 0))) (.seq (.block 1 (.seq (.reg r_18_4) (.seq (.reg r_18_5) (.cond (.tmp 36) (.seq (.reg r_18_6) .ret) .skip)))) (.reg r_18_7)))))) (.seq (.reg r_18_8) .ret))))⟩

def r_19_0 : List SOper := [⟨some 2, none, .mv (.const (.bool false))⟩]
def r_19_1 : List SOper := [⟨some 4, none, .mv (.tmp 0)⟩,
  ⟨some 5, none, .len (.tmp 4)⟩,
  ⟨some 6, none, .bin 0 .gtr (.tmp 5) (.const (.int .i64 100))⟩]
def r_19_2 : List SOper := [⟨some 2, none, .mv (.const (.bool true))⟩]
def r_19_3 : List SOper := [⟨some 3, none, .mv (.const (.int .i64 0))⟩]
def r_19_4 : List SOper := [⟨some 7, none, .mv (.tmp 3)⟩,
  ⟨some 8, none, .mv (.tmp 0)⟩,
  ⟨some 9, none, .len (.tmp 8)⟩,
  ⟨some 10, none, .bin 0 .lss (.tmp 7) (.tmp 9)⟩]
def r_19_5 : List SOper := [⟨some 13, none, .mv (.tmp 0)⟩,
  ⟨some 14, none, .mv (.tmp 3)⟩,
  ⟨some 15, none, .ia 5 (.tmp 13) (.tmp 14)⟩,
  ⟨some 16, none, .fa 1 (.tmp 15)⟩,
  ⟨some 17, none, .load true 4 (.tmp 16)⟩,
  ⟨some 18, none, .lit T_api_Rat [(.bool false), (.slice none 0 0), (.bool false), (.slice none 0 0)] 1 [(0, 4, (.tmp 17))]⟩,
  ⟨some 19, none, .call f_48 [(.tmp 18)] true⟩]
def r_19_6 : List SOper := [⟨some 2, none, .mv (.const (.bool true))⟩]
def r_19_7 : List SOper := [⟨some 11, none, .mv (.tmp 3)⟩,
  ⟨some 12, none, .bin 0 .add (.tmp 11) (.const (.int .i64 1))⟩,
  ⟨some 3, none, .mv (.tmp 12)⟩]
def r_19_8 : List SOper := [⟨some 2, none, .mv (.const (.bool false))⟩]
def s_19 : SFun := ⟨1, 20, [.tmp 2],
  (.seq (.reg r_19_0) (.seq (.seq (.reg r_19_1) (.cond (.tmp 6) (.seq (.reg r_19_2) .ret) .skip)) (.seq (.seq (.reg r_19_3) (.block 0 (.loop (.seq (.seq (.reg r_19_4) (.cond (.tmp 10) .skip (.exit 0))) (.seq (.block 1 (.seq (.reg r_19_5) (.cond (.tmp 19) (.seq (.reg r_19_6) .ret) .skip))) (.reg r_19_7)))))) (.seq (.reg r_19_8) .ret))))⟩

def r_20_0 : List SOper := [⟨some 3, none, .box T_api_Template (.tmp 0)⟩,
  ⟨some 6, none, .alloc T_api_LP [(.int .i64 0), (.slice none 0 0), (.slice none 0 0), (.slice none 0 0)]⟩,
  ⟨some 7, none, .mv (.const (.bool false))⟩]
def r_20_1 : List SOper := [⟨some 11, none, .load true 1 (.tmp 3)⟩,
  ⟨some 12, none, .mv (.tmp 1)⟩,
  ⟨some 13, none, .mv (.tmp 2)⟩,
  ⟨some 14, none, .call f_27 [(.tmp 11), (.tmp 12), (.tmp 13)] true⟩,
  ⟨some 15, none, .un .not (.tmp 14)⟩,
  ⟨some 16, none, .mv (.tmp 15)⟩,
  ⟨some 17, some (16, false), .mv (.tmp 2)⟩,
  ⟨some 18, some (16, false), .call f_49 [(.tmp 17)] true⟩,
  ⟨some 19, none, .pick (.tmp 16) (.const (.bool true)) (.tmp 18)⟩]
def r_20_2 : List SOper := [⟨some 20, none, .build [(.int .i64 0), (.slice none 0 0), (.slice none 0 0), (.slice none 0 0)] []⟩,
  ⟨none, none, .store 4 (.tmp 6) (.tmp 20)⟩,
  ⟨some 7, none, .mv (.const (.bool false))⟩]
def r_20_3 : List SOper := [⟨some 21, none, .mv (.tmp 1)⟩,
  ⟨some 22, none, .mv (.tmp 1)⟩,
  ⟨some 23, none, .mk T_api_Rat 64 [(.bool false), (.slice none 0 0), (.bool false), (.slice none 0 0)] (.tmp 22) (.tmp 22)⟩,
  ⟨some 24, none, .call f_50 [(.tmp 23)] true⟩,
  ⟨some 25, none, .build [(.int .i64 0), (.slice none 0 0), (.slice none 0 0), (.slice none 0 0)] [(0, 1, (.tmp 21)), (3, 1, (.tmp 24))]⟩,
  ⟨some 8, none, .alloc T_api_LP [(.int .i64 0), (.slice none 0 0), (.slice none 0 0), (.slice none 0 0)]⟩,
  ⟨none, none, .store 4 (.tmp 8) (.tmp 25)⟩]
def r_20_4 : List SOper := [⟨some 26, none, .mv (.tmp 2)⟩,
  ⟨some 27, none, .len (.tmp 26)⟩,
  ⟨some 28, none, .mv (.const (.int .i64 0))⟩]
def r_20_5 : List SOper := [⟨some 29, none, .bin 0 .lss (.tmp 28) (.tmp 27)⟩]
def r_20_6 : List SOper := [⟨some 30, none, .mv (.tmp 28)⟩,
  ⟨some 31, none, .ia 5 (.tmp 26) (.tmp 28)⟩,
  ⟨some 32, none, .load true 5 (.tmp 31)⟩,
  ⟨some 10, none, .alloc T_api_Ext [(.int .i64 0), (.bool false), (.slice none 0 0), (.bool false), (.slice none 0 0)]⟩,
  ⟨some 9, none, .mv (.tmp 30)⟩,
  ⟨none, none, .store 5 (.tmp 10) (.tmp 32)⟩]
def r_20_7 : List SOper := [⟨some 33, none, .fa 0 (.tmp 10)⟩,
  ⟨some 34, none, .load false 1 (.tmp 33)⟩,
  ⟨some 35, none, .bin 0 .eql (.tmp 34) (.const (.int .i64 0))⟩]
def r_20_8 : List SOper := [⟨some 36, none, .fa 1 (.tmp 8)⟩,
  ⟨some 37, none, .load false 1 (.tmp 36)⟩,
  ⟨some 38, none, .fa 0 (.tmp 3)⟩,
  ⟨some 39, none, .load false 1 (.tmp 38)⟩,
  ⟨some 40, none, .mv (.tmp 9)⟩,
  ⟨some 41, none, .ia 1 (.tmp 39) (.tmp 40)⟩,
  ⟨some 42, none, .load false 1 (.tmp 41)⟩,
  ⟨some 43, none, .call f_50 [(.tmp 42)] false⟩,
  ⟨some 44, none, .lit T_sl_api_Rat [(.slice none 0 0)] 1 [(0, 1, (.tmp 43))]⟩,
  ⟨some 45, none, .app T_sl_api_Rat 1 24 (.tmp 37) (.tmp 44)⟩,
  ⟨some 46, none, .fa 2 (.tmp 8)⟩,
  ⟨some 47, none, .load false 1 (.tmp 46)⟩,
  ⟨some 48, none, .fa 1 (.tmp 10)⟩,
  ⟨some 49, none, .load true 4 (.tmp 48)⟩,
  ⟨some 50, none, .build [(.bool false), (.slice none 0 0), (.bool false), (.slice none 0 0)] []⟩,
  ⟨some 51, none, .call f_51 [(.tmp 49), (.tmp 50)] false⟩,
  ⟨some 52, none, .lit T_api_Rat [(.bool false), (.slice none 0 0), (.bool false), (.slice none 0 0)] 1 [(0, 4, (.tmp 51))]⟩,
  ⟨some 53, none, .app T_api_Rat 4 64 (.tmp 47) (.tmp 52)⟩,
  ⟨some 54, none, .fa 1 (.tmp 8)⟩,
  ⟨none, none, .store 1 (.tmp 54) (.tmp 45)⟩,
  ⟨some 55, none, .fa 2 (.tmp 8)⟩,
  ⟨none, none, .store 1 (.tmp 55) (.tmp 53)⟩]
def r_20_9 : List SOper := [⟨some 56, none, .bin 0 .add (.tmp 28) (.const (.int .i64 1))⟩,
  ⟨some 28, none, .mv (.tmp 56)⟩]
def r_20_10 : List SOper := [⟨some 57, none, .load true 4 (.tmp 8)⟩,
  ⟨none, none, .store 4 (.tmp 6) (.tmp 57)⟩,
  ⟨some 7, none, .mv (.const (.bool true))⟩]
def s_20 : SFun := ⟨3, 58, [.cell 6 true 4, .tmp 7],
  (.seq (.reg r_20_0) (.seq (.seq (.reg r_20_1) (.cond (.tmp 19) (.seq (.reg r_20_2) .ret) .skip)) (.seq (.reg r_20_3) (.seq (.seq (.reg r_20_4) (.block 0 (.loop (.seq (.reg r_20_5) (.seq (.cond (.tmp 29) .skip (.exit 0)) (.seq (.block 1 (.seq (.reg r_20_6) (.seq (.reg r_20_7) (.cond (.tmp 35) (.draw r_20_8 [0, 1, 0, 4, 0, 28, 60, 124, 252, 511, 0, 1024, 0, 4096, 0, 29695, 62463, 131071, 4095, 524287, 1048575, 2097151] [(9, 11), (9, 13)]) .skip)))) (.reg r_20_9))))))) (.seq (.reg r_20_10) .ret)))))⟩

def r_21_0 : List SOper := [⟨some 3, none, .box T_api_Template (.tmp 0)⟩,
  ⟨some 6, none, .mv (.const (.bool false))⟩]
def r_21_1 : List SOper := [⟨some 11, none, .mv (.tmp 1)⟩,
  ⟨some 12, none, .len (.tmp 11)⟩,
  ⟨some 13, none, .fa 0 (.tmp 3)⟩,
  ⟨some 14, none, .load false 1 (.tmp 13)⟩,
  ⟨some 15, none, .len (.tmp 14)⟩,
  ⟨some 16, none, .bin 0 .neq (.tmp 12) (.tmp 15)⟩]
def r_21_2 : List SOper := [⟨some 6, none, .mv (.const (.bool false))⟩]
def r_21_3 : List SOper := [⟨some 17, none, .fa 0 (.tmp 3)⟩,
  ⟨some 18, none, .load false 1 (.tmp 17)⟩,
  ⟨some 19, none, .len (.tmp 18)⟩,
  ⟨some 20, none, .mv (.const (.int .i64 0))⟩]
def r_21_4 : List SOper := [⟨some 21, none, .bin 0 .lss (.tmp 20) (.tmp 19)⟩]
def r_21_5 : List SOper := [⟨some 22, none, .mv (.tmp 20)⟩,
  ⟨some 23, none, .ia 1 (.tmp 18) (.tmp 20)⟩,
  ⟨some 24, none, .load false 1 (.tmp 23)⟩,
  ⟨some 7, none, .mv (.tmp 22)⟩,
  ⟨some 8, none, .mv (.tmp 24)⟩]
def r_21_6 : List SOper := [⟨some 26, none, .mv (.tmp 8)⟩,
  ⟨some 27, none, .mv (.tmp 2)⟩,
  ⟨some 28, none, .call f_52 [(.tmp 26), (.tmp 27)] true⟩,
  ⟨some 25, none, .mv (.tmp 28)⟩,
  ⟨some 29, none, .ext (.tmp 25) 0⟩,
  ⟨some 30, none, .ext (.tmp 25) 1⟩,
  ⟨some 9, none, .alloc T_api_Rat [(.bool false), (.slice none 0 0), (.bool false), (.slice none 0 0)]⟩,
  ⟨none, none, .store 4 (.tmp 9) (.tmp 29)⟩,
  ⟨some 10, none, .mv (.tmp 30)⟩]
def r_21_7 : List SOper := [⟨some 31, none, .mv (.tmp 10)⟩,
  ⟨some 32, none, .bin 0 .neq (.tmp 31) (.const (.int .i64 0))⟩,
  ⟨some 33, none, .mv (.tmp 32)⟩,
  ⟨some 34, some (33, false), .load true 4 (.tmp 9)⟩,
  ⟨some 35, some (33, false), .call f_54 [(.tmp 34)] false⟩,
  ⟨some 36, some (33, false), .mv (.tmp 1)⟩,
  ⟨some 37, some (33, false), .mv (.tmp 7)⟩,
  ⟨some 38, some (33, false), .ia 5 (.tmp 36) (.tmp 37)⟩,
  ⟨some 39, some (33, false), .load true 5 (.tmp 38)⟩,
  ⟨some 40, some (33, false), .call f_53 [(.tmp 35), (.tmp 39)] true⟩,
  ⟨some 41, some (33, false), .bin 0 .gtr (.tmp 40) (.const (.int .i64 0))⟩,
  ⟨some 42, none, .pick (.tmp 33) (.const (.bool true)) (.tmp 41)⟩]
def r_21_8 : List SOper := [⟨some 6, none, .mv (.const (.bool false))⟩]
def r_21_9 : List SOper := [⟨some 43, none, .bin 0 .add (.tmp 20) (.const (.int .i64 1))⟩,
  ⟨some 20, none, .mv (.tmp 43)⟩]
def r_21_10 : List SOper := [⟨some 6, none, .mv (.const (.bool true))⟩]
def s_21 : SFun := ⟨3, 44, [.tmp 6],
  (.seq (.reg r_21_0) (.seq (.seq (.reg r_21_1) (.cond (.tmp 16) (.seq (.reg r_21_2) .ret) .skip)) (.seq (.seq (.reg r_21_3) (.block 0 (.loop (.seq (.reg r_21_4) (.seq (.cond (.tmp 21) .skip (.exit 0)) (.seq (.block 1 (.seq (.reg r_21_5) (.seq (.reg r_21_6) (.seq (.draw r_21_7 [0, 1, 3, 7, 15, 7, 7, 103, 231, 511, 1023, 2047] []) (.cond (.tmp 42) (.seq (.reg r_21_8) .ret) .skip))))) (.reg r_21_9))))))) (.seq (.reg r_21_10) .ret))))⟩

def r_26_0 : List SOper := [⟨some 2, none, .alloc T_api_Template [(.slice none 0 0)]⟩]
def r_26_1 : List SOper := [⟨some 5, none, .mv (.tmp 0)⟩,
  ⟨some 6, none, .call f_35 [(.tmp 5)] true⟩,
  ⟨some 0, none, .mv (.tmp 6)⟩]
def r_26_2 : List SOper := [⟨some 3, none, .mv (.const (.slice none 0 0))⟩]
def r_26_3 : List SOper := [⟨some 4, none, .mv (.const (.int .i64 0))⟩]
def r_26_4 : List SOper := [⟨some 7, none, .mv (.tmp 4)⟩,
  ⟨some 8, none, .mv (.tmp 0)⟩,
  ⟨some 9, none, .bin 0 .lss (.tmp 7) (.tmp 8)⟩]
def r_26_5 : List SOper := [⟨some 12, none, .mv (.tmp 3)⟩,
  ⟨some 13, none, .mv (.tmp 0)⟩,
  ⟨some 14, none, .mv (.tmp 4)⟩,
  ⟨some 15, none, .call f_36 [(.tmp 13), (.tmp 14), (.const (.int .i64 1)), (.const (.int .i64 (-1))), (.const (.int .i64 0))] true⟩,
  ⟨some 16, none, .mv (.tmp 0)⟩,
  ⟨some 17, none, .mv (.tmp 4)⟩,
  ⟨some 18, none, .call f_36 [(.tmp 16), (.tmp 17), (.const (.int .i64 (-1))), (.const (.int .i64 (-1))), (.const (.int .i64 0))] true⟩,
  ⟨some 19, none, .lit T_sl_api_Rat [(.slice none 0 0)] 2 [(0, 1, (.tmp 15)), (1, 1, (.tmp 18))]⟩,
  ⟨some 20, none, .app T_sl_api_Rat 1 24 (.tmp 12) (.tmp 19)⟩,
  ⟨some 3, none, .mv (.tmp 20)⟩]
def r_26_6 : List SOper := [⟨some 10, none, .mv (.tmp 4)⟩,
  ⟨some 11, none, .bin 0 .add (.tmp 10) (.const (.int .i64 1))⟩,
  ⟨some 4, none, .mv (.tmp 11)⟩]
def r_26_7 : List SOper := [⟨some 21, none, .mv (.tmp 3)⟩,
  ⟨some 22, none, .call f_37 [(.tmp 21)] true⟩,
  ⟨none, none, .store 1 (.tmp 2) (.tmp 22)⟩]
def s_26 : SFun := ⟨1, 23, [.cell 2 true 1],
  (.seq (.reg r_26_0) (.seq (.reg r_26_1) (.seq (.reg r_26_2) (.seq (.seq (.reg r_26_3) (.block 0 (.loop (.seq (.seq (.reg r_26_4) (.cond (.tmp 9) .skip (.exit 0))) (.seq (.block 1 (.reg r_26_5)) (.reg r_26_6)))))) (.seq (.reg r_26_7) .ret)))))⟩

def r_27_0 : List SOper := [⟨some 3, none, .box T_api_Template (.tmp 0)⟩,
  ⟨some 6, none, .mv (.const (.bool false))⟩]
def r_27_1 : List SOper := [⟨some 7, none, .load true 1 (.tmp 3)⟩,
  ⟨some 8, none, .mv (.tmp 1)⟩,
  ⟨some 9, none, .call f_60 [(.tmp 7), (.tmp 8)] true⟩,
  ⟨some 10, none, .mv (.tmp 9)⟩,
  ⟨some 11, some (10, true), .mv (.tmp 2)⟩,
  ⟨some 12, some (10, true), .len (.tmp 11)⟩,
  ⟨some 13, some (10, true), .fa 0 (.tmp 3)⟩,
  ⟨some 14, some (10, true), .load false 1 (.tmp 13)⟩,
  ⟨some 15, some (10, true), .len (.tmp 14)⟩,
  ⟨some 16, some (10, true), .bin 0 .eql (.tmp 12) (.tmp 15)⟩,
  ⟨some 17, none, .pick (.tmp 10) (.tmp 16) (.const (.bool false))⟩,
  ⟨some 18, none, .mv (.tmp 17)⟩,
  ⟨some 19, some (18, true), .mv (.tmp 2)⟩,
  ⟨some 20, some (18, true), .call f_61 [(.tmp 19), (.fn f_62)] true⟩,
  ⟨some 21, some (18, true), .un .not (.tmp 20)⟩,
  ⟨some 22, none, .pick (.tmp 18) (.tmp 21) (.const (.bool false))⟩,
  ⟨some 6, none, .mv (.tmp 22)⟩]
def s_27 : SFun := ⟨3, 23, [.tmp 6],
  (.seq (.reg r_27_0) (.seq (.reg r_27_1) .ret))⟩

def r_28_0 : List SOper := [⟨some 4, none, .mv (.const (.bool false))⟩]
def r_28_1 : List SOper := [⟨some 5, none, .mv (.fn f_64)⟩]
def r_28_2 : List SOper := [⟨some 6, none, .mv (.tmp 0)⟩,
  ⟨some 7, none, .len (.tmp 6)⟩,
  ⟨some 8, none, .mv (.tmp 1)⟩,
  ⟨some 9, none, .len (.tmp 8)⟩,
  ⟨some 10, none, .bin 0 .eql (.tmp 7) (.tmp 9)⟩,
  ⟨some 11, none, .mv (.tmp 10)⟩,
  ⟨some 12, some (11, true), .mv (.tmp 0)⟩,
  ⟨some 13, some (11, true), .mv (.tmp 1)⟩,
  ⟨some 14, some (11, true), .mv (.tmp 5)⟩,
  ⟨some 15, some (11, true), .call f_66 [(.tmp 12), (.tmp 13), (.tmp 14)] true⟩,
  ⟨some 16, some (11, true), .call f_65 [(.tmp 15), (.const (.bool true))] true⟩,
  ⟨some 17, some (11, true), .un .not (.tmp 16)⟩,
  ⟨some 18, none, .pick (.tmp 11) (.tmp 17) (.const (.bool false))⟩,
  ⟨some 4, none, .mv (.tmp 18)⟩]
def s_28 : SFun := ⟨2, 19, [.tmp 4],
  (.seq (.reg r_28_0) (.seq (.reg r_28_1) (.seq (.reg r_28_2) .ret)))⟩

def r_30_0 : List SOper := [⟨some 4, none, .mv (.const (.bool false))⟩]
def r_30_1 : List SOper := [⟨some 6, none, .mv (.tmp 0)⟩,
  ⟨some 7, none, .len (.tmp 6)⟩,
  ⟨some 8, none, .mv (.tmp 1)⟩,
  ⟨some 9, none, .len (.tmp 8)⟩,
  ⟨some 10, none, .bin 0 .neq (.tmp 7) (.tmp 9)⟩]
def r_30_2 : List SOper := [⟨some 4, none, .mv (.const (.bool false))⟩]
def r_30_3 : List SOper := [⟨some 5, none, .mv (.const (.int .i64 0))⟩]
def r_30_4 : List SOper := [⟨some 11, none, .mv (.tmp 5)⟩,
  ⟨some 12, none, .mv (.tmp 0)⟩,
  ⟨some 13, none, .len (.tmp 12)⟩,
  ⟨some 14, none, .bin 0 .lss (.tmp 11) (.tmp 13)⟩]
def r_30_5 : List SOper := [⟨some 17, none, .mv (.tmp 0)⟩,
  ⟨some 18, none, .mv (.tmp 5)⟩,
  ⟨some 19, none, .ia 5 (.tmp 17) (.tmp 18)⟩,
  ⟨some 20, none, .load true 5 (.tmp 19)⟩,
  ⟨some 21, none, .mv (.tmp 1)⟩,
  ⟨some 22, none, .mv (.tmp 5)⟩,
  ⟨some 23, none, .ia 5 (.tmp 21) (.tmp 22)⟩,
  ⟨some 24, none, .load true 5 (.tmp 23)⟩,
  ⟨some 25, none, .call f_67 [(.tmp 20), (.tmp 24)] true⟩,
  ⟨some 26, none, .un .not (.tmp 25)⟩]
def r_30_6 : List SOper := [⟨some 4, none, .mv (.const (.bool false))⟩]
def r_30_7 : List SOper := [⟨some 15, none, .mv (.tmp 5)⟩,
  ⟨some 16, none, .bin 0 .add (.tmp 15) (.const (.int .i64 1))⟩,
  ⟨some 5, none, .mv (.tmp 16)⟩]
def r_30_8 : List SOper := [⟨some 4, none, .mv (.const (.bool true))⟩]
def s_30 : SFun := ⟨2, 27, [.tmp 4],
  (.seq (.reg r_30_0) (.seq (.seq (.reg r_30_1) (.cond (.tmp 10) (.seq (.reg r_30_2) .ret) .skip)) (.seq (.seq (.reg r_30_3) (.block 0 (.loop (.seq (.seq (.reg r_30_4) (.cond (.tmp 14) .skip (.exit 0))) (.seq (.block 1 (.seq (.draw r_30_5 [0, 0, 3, 7, 0, 0, 48, 112, 255, 511] []) (.cond (.tmp 26) (.seq (.reg r_30_6) .ret) .skip))) (.reg r_30_7)))))) (.seq (.reg r_30_8) .ret))))⟩

def r_31_0 : List SOper := [⟨some 4, none, .mv (.const (.slice none 0 0))⟩]
def r_31_1 : List SOper := [⟨some 5, none, .mv (.tmp 0)⟩,
  ⟨some 6, none, .mv (.tmp 1)⟩,
  ⟨some 7, none, .call f_68 [(.tmp 5), (.tmp 6), (.fn f_69)] true⟩,
  ⟨some 4, none, .mv (.tmp 7)⟩]
def s_31 : SFun := ⟨2, 8, [.tmp 4],
  (.seq (.reg r_31_0) (.seq (.reg r_31_1) .ret))⟩

def r_33_0 : List SOper := [⟨some 4, none, .mv (.const (.slice none 0 0))⟩]
def r_33_1 : List SOper := [⟨some 5, none, .mv (.tmp 0)⟩,
  ⟨some 6, none, .mv (.tmp 1)⟩,
  ⟨some 7, none, .call f_68 [(.tmp 5), (.tmp 6), (.fn f_71)] true⟩,
  ⟨some 4, none, .mv (.tmp 7)⟩]
def s_33 : SFun := ⟨2, 8, [.tmp 4],
  (.seq (.reg r_33_0) (.seq (.reg r_33_1) .ret))⟩

def r_35_0 : List SOper := [⟨some 2, none, .mv (.const (.int .i64 0))⟩]
def r_35_1 : List SOper := [⟨some 3, none, .mv (.tmp 0)⟩,
  ⟨some 4, none, .mnx false (.tmp 3) [(.const (.int .i64 6))]⟩,
  ⟨some 5, none, .mnx true (.const (.int .i64 0)) [(.tmp 4)]⟩,
  ⟨some 2, none, .mv (.tmp 5)⟩]
def s_35 : SFun := ⟨1, 6, [.tmp 2],
  (.seq (.reg r_35_0) (.seq (.reg r_35_1) .ret))⟩

def r_36_0 : List SOper := [⟨some 10, none, .mv (.const (.slice none 0 0))⟩]
def r_36_1 : List SOper := [⟨some 11, none, .mv (.const (.slice none 0 0))⟩]
def r_36_2 : List SOper := [⟨some 12, none, .mv (.const (.int .i64 0))⟩]
def r_36_3 : List SOper := [⟨some 14, none, .mv (.tmp 12)⟩,
  ⟨some 15, none, .mv (.tmp 0)⟩,
  ⟨some 16, none, .bin 0 .lss (.tmp 14) (.tmp 15)⟩]
def r_36_4 : List SOper := [⟨some 13, none, .mv (.const (.int .i64 0))⟩]
def r_36_5 : List SOper := [⟨some 19, none, .mv (.tmp 12)⟩,
  ⟨some 20, none, .mv (.tmp 1)⟩,
  ⟨some 21, none, .bin 0 .eql (.tmp 19) (.tmp 20)⟩]
def r_36_6 : List SOper := [⟨some 22, none, .mv (.tmp 2)⟩,
  ⟨some 13, none, .mv (.tmp 22)⟩]
def r_36_7 : List SOper := [⟨some 23, none, .mv (.tmp 12)⟩,
  ⟨some 24, none, .mv (.tmp 3)⟩,
  ⟨some 25, none, .bin 0 .eql (.tmp 23) (.tmp 24)⟩]
def r_36_8 : List SOper := [⟨some 26, none, .mv (.tmp 4)⟩,
  ⟨some 13, none, .mv (.tmp 26)⟩]
def r_36_9 : List SOper := [⟨some 27, none, .mv (.tmp 11)⟩,
  ⟨some 28, none, .mv (.tmp 13)⟩,
  ⟨some 29, none, .call f_12 [(.tmp 28)] true⟩,
  ⟨some 30, none, .lit T_api_Rat [(.bool false), (.slice none 0 0), (.bool false), (.slice none 0 0)] 1 [(0, 4, (.tmp 29))]⟩,
  ⟨some 31, none, .app T_api_Rat 4 64 (.tmp 27) (.tmp 30)⟩,
  ⟨some 11, none, .mv (.tmp 31)⟩]
def r_36_10 : List SOper := [⟨some 17, none, .mv (.tmp 12)⟩,
  ⟨some 18, none, .bin 0 .add (.tmp 17) (.const (.int .i64 1))⟩,
  ⟨some 12, none, .mv (.tmp 18)⟩]
def r_36_11 : List SOper := [⟨some 32, none, .mv (.tmp 11)⟩,
  ⟨some 10, none, .mv (.tmp 32)⟩]
def s_36 : SFun := ⟨5, 33, [.tmp 10],
  (.seq (.reg r_36_0) (.seq (.reg r_36_1) (.seq (.seq (.reg r_36_2) (.block 0 (.loop (.seq (.seq (.reg r_36_3) (.cond (.tmp 16) .skip (.exit 0))) (.seq (.block 1 (.seq (.reg r_36_4) (.seq (.seq (.reg r_36_5) (.cond (.tmp 21) (.reg r_36_6) .skip)) (.seq (.seq (.reg r_36_7) (.cond (.tmp 25) (.reg r_36_8) .skip)) (.reg r_36_9))))) (.reg r_36_10)))))) (.seq (.reg r_36_11) .ret))))⟩

def r_37_0 : List SOper := [⟨some 2, none, .alloc T_api_Template [(.slice none 0 0)]⟩]
def r_37_1 : List SOper := [⟨some 3, none, .mv (.tmp 0)⟩,
  ⟨some 4, none, .mv (.tmp 0)⟩,
  ⟨some 5, none, .len (.tmp 4)⟩,
  ⟨some 6, none, .mnx false (.tmp 5) [(.const (.int .i64 40))]⟩,
  ⟨some 7, none, .sl T_sl_api_Rat 1 (.tmp 3) none (some (.tmp 6)) none⟩,
  ⟨some 8, none, .build [(.slice none 0 0)] [(0, 1, (.tmp 7))]⟩,
  ⟨none, none, .store 1 (.tmp 2) (.tmp 8)⟩]
def s_37 : SFun := ⟨1, 9, [.cell 2 true 1],
  (.seq (.reg r_37_0) (.seq (.reg r_37_1) .ret))⟩

def r_39_0 : List SOper := [⟨some 2, none, .alloc T_api_Int [(.bool false), (.slice none 0 0)]⟩]
def r_39_1 : List SOper := [⟨some 4, none, .mv (.tmp 0)⟩,
  ⟨some 5, none, .conv .u64 (.tmp 4)⟩,
  ⟨some 3, none, .mv (.tmp 5)⟩]
def r_39_2 : List SOper := [⟨some 6, none, .mv (.tmp 0)⟩,
  ⟨some 7, none, .bin 0 .lss (.tmp 6) (.const (.int .i64 0))⟩]
def r_39_3 : List SOper := [⟨some 8, none, .mv (.tmp 3)⟩,
  ⟨some 9, none, .un .neg (.tmp 8)⟩,
  ⟨some 3, none, .mv (.tmp 9)⟩]
def r_39_4 : List SOper := [⟨some 10, none, .mv (.tmp 0)⟩,
  ⟨some 11, none, .bin 0 .lss (.tmp 10) (.const (.int .i64 0))⟩,
  ⟨some 12, none, .mv (.tmp 3)⟩,
  ⟨some 13, none, .conv .u32 (.tmp 12)⟩,
  ⟨some 14, none, .mv (.tmp 3)⟩,
  ⟨some 15, none, .bin 0 .shr (.tmp 14) (.const (.int .u64 32))⟩,
  ⟨some 16, none, .conv .u32 (.tmp 15)⟩,
  ⟨some 17, none, .lit T_uint32 [(.int .u32 0)] 2 [(0, 1, (.tmp 13)), (1, 1, (.tmp 16))]⟩,
  ⟨some 18, none, .call f_76 [(.tmp 11), (.tmp 17)] true⟩,
  ⟨none, none, .store 2 (.tmp 2) (.tmp 18)⟩]
def s_39 : SFun := ⟨1, 19, [.cell 2 true 2],
  (.seq (.reg r_39_0) (.seq (.reg r_39_1) (.seq (.seq (.reg r_39_2) (.cond (.tmp 7) (.reg r_39_3) .skip)) (.seq (.reg r_39_4) .ret))))⟩

def r_40_0 : List SOper := [⟨some 1, none, .box T_api_LP (.tmp 0)⟩,
  ⟨some 2, none, .alloc T_api_Answer [(.int .i64 0), (.bool false), (.slice none 0 0), (.bool false), (.slice none 0 0), (.slice none 0 0), (.slice none 0 0), (.slice none 0 0)]⟩,
  ⟨some 3, none, .mv (.const (.int .i64 0))⟩,
  ⟨some 4, none, .mv (.const (.int .i64 0))⟩]
def r_40_1 : List SOper := [⟨some 7, none, .load true 4 (.tmp 1)⟩,
  ⟨some 8, none, .call f_77 [(.tmp 7)] true⟩,
  ⟨some 9, none, .un .not (.tmp 8)⟩]
def r_40_2 : List SOper := [⟨some 10, none, .build [(.int .i64 0), (.bool false), (.slice none 0 0), (.bool false), (.slice none 0 0), (.slice none 0 0), (.slice none 0 0), (.slice none 0 0)] []⟩,
  ⟨none, none, .store 8 (.tmp 2) (.tmp 10)⟩,
  ⟨some 3, none, .mv (.const (.int .i64 0))⟩,
  ⟨some 4, none, .mv (.const (.int .i64 1))⟩]
def r_40_3 : List SOper := [⟨some 12, none, .load true 4 (.tmp 1)⟩,
  ⟨some 13, none, .call f_78 [(.tmp 12)] true⟩,
  ⟨some 11, none, .mv (.tmp 13)⟩,
  ⟨some 14, none, .ext (.tmp 11) 0⟩,
  ⟨some 15, none, .ext (.tmp 11) 1⟩,
  ⟨some 5, none, .alloc T_api_Answer [(.int .i64 0), (.bool false), (.slice none 0 0), (.bool false), (.slice none 0 0), (.slice none 0 0), (.slice none 0 0), (.slice none 0 0)]⟩,
  ⟨none, none, .store 8 (.tmp 5) (.tmp 14)⟩,
  ⟨some 6, none, .mv (.tmp 15)⟩]
def r_40_4 : List SOper := [⟨some 16, none, .load true 8 (.tmp 5)⟩,
  ⟨some 17, none, .mv (.tmp 6)⟩,
  ⟨none, none, .store 8 (.tmp 2) (.tmp 16)⟩,
  ⟨some 3, none, .mv (.tmp 17)⟩,
  ⟨some 4, none, .mv (.const (.int .i64 0))⟩]
def s_40 : SFun := ⟨1, 18, [.cell 2 true 8, .tmp 3, .tmp 4],
  (.seq (.reg r_40_0) (.seq (.seq (.reg r_40_1) (.cond (.tmp 9) (.seq (.reg r_40_2) .ret) .skip)) (.seq (.reg r_40_3) (.seq (.reg r_40_4) .ret))))⟩

def r_48_0 : List SOper := [⟨some 2, none, .mv (.const (.bool false))⟩]
def r_48_1 : List SOper := [⟨some 3, none, .mv (.const (.int .i64 0))⟩]
def r_48_2 : List SOper := [⟨some 4, none, .mv (.tmp 3)⟩,
  ⟨some 5, none, .mv (.tmp 0)⟩,
  ⟨some 6, none, .len (.tmp 5)⟩,
  ⟨some 7, none, .bin 0 .lss (.tmp 4) (.tmp 6)⟩]
def r_48_3 : List SOper := [⟨some 10, none, .mv (.tmp 0)⟩,
  ⟨some 11, none, .mv (.tmp 3)⟩,
  ⟨some 12, none, .ia 4 (.tmp 10) (.tmp 11)⟩,
  ⟨some 13, none, .fa 0 (.tmp 12)⟩,
  ⟨some 14, none, .fa 1 (.tmp 13)⟩,
  ⟨some 15, none, .load false 1 (.tmp 14)⟩,
  ⟨some 16, none, .len (.tmp 15)⟩,
  ⟨some 17, none, .bin 0 .gtr (.tmp 16) (.const (.int .i64 6))⟩,
  ⟨some 18, none, .mv (.tmp 17)⟩,
  ⟨some 19, some (18, false), .mv (.tmp 0)⟩,
  ⟨some 20, some (18, false), .mv (.tmp 3)⟩,
  ⟨some 21, some (18, false), .ia 4 (.tmp 19) (.tmp 20)⟩,
  ⟨some 22, some (18, false), .fa 2 (.tmp 21)⟩,
  ⟨some 23, some (18, false), .fa 1 (.tmp 22)⟩,
  ⟨some 24, some (18, false), .load false 1 (.tmp 23)⟩,
  ⟨some 25, some (18, false), .len (.tmp 24)⟩,
  ⟨some 26, some (18, false), .bin 0 .gtr (.tmp 25) (.const (.int .i64 6))⟩,
  ⟨some 27, none, .pick (.tmp 18) (.const (.bool true)) (.tmp 26)⟩]
def r_48_4 : List SOper := [⟨some 2, none, .mv (.const (.bool true))⟩]
def r_48_5 : List SOper := [⟨some 8, none, .mv (.tmp 3)⟩,
  ⟨some 9, none, .bin 0 .add (.tmp 8) (.const (.int .i64 1))⟩,
  ⟨some 3, none, .mv (.tmp 9)⟩]
def r_48_6 : List SOper := [⟨some 2, none, .mv (.const (.bool false))⟩]
def s_48 : SFun := ⟨1, 28, [.tmp 2],
  (.seq (.reg r_48_0) (.seq (.seq (.reg r_48_1) (.block 0 (.loop (.seq (.seq (.reg r_48_2) (.cond (.tmp 7) .skip (.exit 0))) (.seq (.block 1 (.seq (.reg r_48_3) (.cond (.tmp 27) (.seq (.reg r_48_4) .ret) .skip))) (.reg r_48_5)))))) (.seq (.reg r_48_6) .ret)))⟩

def r_49_0 : List SOper := [⟨some 2, none, .mv (.const (.bool false))⟩]
def r_49_1 : List SOper := [⟨some 3, none, .mv (.tmp 0)⟩,
  ⟨some 4, none, .call f_61 [(.tmp 3), (.fn f_84)] true⟩,
  ⟨some 2, none, .mv (.tmp 4)⟩]
def s_49 : SFun := ⟨1, 5, [.tmp 2],
  (.seq (.reg r_49_0) (.seq (.reg r_49_1) .ret))⟩

def r_50_0 : List SOper := [⟨some 2, none, .mv (.const (.slice none 0 0))⟩]
def r_50_1 : List SOper := [⟨some 3, none, .mv (.const (.slice none 0 0))⟩]
def r_50_2 : List SOper := [⟨some 6, none, .mv (.tmp 0)⟩,
  ⟨some 7, none, .len (.tmp 6)⟩,
  ⟨some 8, none, .mv (.const (.int .i64 0))⟩]
def r_50_3 : List SOper := [⟨some 9, none, .bin 0 .lss (.tmp 8) (.tmp 7)⟩]
def r_50_4 : List SOper := [⟨some 10, none, .ia 4 (.tmp 6) (.tmp 8)⟩,
  ⟨some 11, none, .load true 4 (.tmp 10)⟩,
  ⟨some 5, none, .alloc T_api_Rat [(.bool false), (.slice none 0 0), (.bool false), (.slice none 0 0)]⟩,
  ⟨none, none, .store 4 (.tmp 5) (.tmp 11)⟩]
def r_50_5 : List SOper := [⟨some 12, none, .mv (.tmp 3)⟩,
  ⟨some 13, none, .load true 4 (.tmp 5)⟩,
  ⟨some 14, none, .build [(.bool false), (.slice none 0 0), (.bool false), (.slice none 0 0)] []⟩,
  ⟨some 15, none, .call f_51 [(.tmp 13), (.tmp 14)] true⟩,
  ⟨some 16, none, .lit T_api_Rat [(.bool false), (.slice none 0 0), (.bool false), (.slice none 0 0)] 1 [(0, 4, (.tmp 15))]⟩,
  ⟨some 17, none, .app T_api_Rat 4 64 (.tmp 12) (.tmp 16)⟩,
  ⟨some 3, none, .mv (.tmp 17)⟩]
def r_50_6 : List SOper := [⟨some 18, none, .bin 0 .add (.tmp 8) (.const (.int .i64 1))⟩,
  ⟨some 8, none, .mv (.tmp 18)⟩]
def r_50_7 : List SOper := [⟨some 19, none, .mv (.tmp 3)⟩,
  ⟨some 2, none, .mv (.tmp 19)⟩]
def s_50 : SFun := ⟨1, 20, [.tmp 2],
  (.seq (.reg r_50_0) (.seq (.reg r_50_1) (.seq (.seq (.reg r_50_2) (.block 0 (.loop (.seq (.reg r_50_3) (.seq (.cond (.tmp 9) .skip (.exit 0)) (.seq (.block 1 (.seq (.reg r_50_4) (.reg r_50_5))) (.reg r_50_6))))))) (.seq (.reg r_50_7) .ret))))⟩

def r_51_0 : List SOper := [⟨some 2, none, .box T_api_Rat (.tmp 0)⟩,
  ⟨some 3, none, .box T_api_Rat (.tmp 1)⟩,
  ⟨some 4, none, .alloc T_api_Rat [(.bool false), (.slice none 0 0), (.bool false), (.slice none 0 0)]⟩]
def r_51_1 : List SOper := [⟨some 5, none, .load true 4 (.tmp 2)⟩,
  ⟨some 6, none, .call f_85 [(.tmp 5)] false⟩,
  ⟨some 7, none, .load true 4 (.tmp 3)⟩,
  ⟨some 8, none, .call f_85 [(.tmp 7)] true⟩,
  ⟨none, none, .store 4 (.tmp 2) (.tmp 6)⟩,
  ⟨none, none, .store 4 (.tmp 3) (.tmp 8)⟩]
def r_51_2 : List SOper := [⟨some 9, none, .fa 0 (.tmp 2)⟩,
  ⟨some 10, none, .load true 2 (.tmp 9)⟩,
  ⟨some 11, none, .fa 2 (.tmp 3)⟩,
  ⟨some 12, none, .load true 2 (.tmp 11)⟩,
  ⟨some 13, none, .call f_89 [(.tmp 10), (.tmp 12)] false⟩,
  ⟨some 14, none, .fa 0 (.tmp 3)⟩,
  ⟨some 15, none, .load true 2 (.tmp 14)⟩,
  ⟨some 16, none, .fa 2 (.tmp 2)⟩,
  ⟨some 17, none, .load true 2 (.tmp 16)⟩,
  ⟨some 18, none, .call f_89 [(.tmp 15), (.tmp 17)] false⟩,
  ⟨some 19, none, .lit T_api_Int [(.bool false), (.slice none 0 0)] 1 [(0, 2, (.tmp 18))]⟩,
  ⟨some 20, none, .call f_87 [(.fn f_88), (.tmp 13), (.tmp 19)] false⟩,
  ⟨some 21, none, .fa 2 (.tmp 2)⟩,
  ⟨some 22, none, .load true 2 (.tmp 21)⟩,
  ⟨some 23, none, .fa 2 (.tmp 3)⟩,
  ⟨some 24, none, .load true 2 (.tmp 23)⟩,
  ⟨some 25, none, .call f_89 [(.tmp 22), (.tmp 24)] true⟩,
  ⟨some 26, none, .call f_86 [(.tmp 20), (.tmp 25)] true⟩,
  ⟨none, none, .store 4 (.tmp 4) (.tmp 26)⟩]
def s_51 : SFun := ⟨2, 27, [.cell 4 true 4],
  (.seq (.reg r_51_0) (.seq (.draw r_51_1 [0, 1, 0, 7, 15, 31] []) (.seq (.draw r_51_2 [0, 1, 0, 4, 15, 0, 32, 0, 128, 511, 1023, 2047, 0, 4096, 0, 16384, 65535, 131071, 262143] []) .ret)))⟩


end Go.Proofs.YtjlohmnnldbjoaaGreat.AI

/- The small code of the program's functions: printed. -/
namespace Go.Proofs.YtjlohmnnldbjoaaGreat.AI
open Go

def r_52_0 : List SOper := [⟨some 4, none, .alloc T_api_Rat [(.bool false), (.slice none 0 0), (.bool false), (.slice none 0 0)]⟩,
  ⟨some 5, none, .mv (.const (.int .i64 0))⟩]
def r_52_1 : List SOper := [⟨some 8, none, .mv (.tmp 0)⟩,
  ⟨some 9, none, .len (.tmp 8)⟩,
  ⟨some 10, none, .mv (.tmp 1)⟩,
  ⟨some 11, none, .len (.tmp 10)⟩,
  ⟨some 12, none, .bin 0 .neq (.tmp 9) (.tmp 11)⟩]
def r_52_2 : List SOper := [⟨some 13, none, .build [(.bool false), (.slice none 0 0), (.bool false), (.slice none 0 0)] []⟩,
  ⟨none, none, .store 4 (.tmp 4) (.tmp 13)⟩,
  ⟨some 5, none, .mv (.const (.int .i64 1))⟩]
def r_52_3 : List SOper := [⟨some 14, none, .call f_90 [(.const (.int .i64 0))] true⟩,
  ⟨some 6, none, .alloc T_api_Rat [(.bool false), (.slice none 0 0), (.bool false), (.slice none 0 0)]⟩,
  ⟨none, none, .store 4 (.tmp 6) (.tmp 14)⟩]
def r_52_4 : List SOper := [⟨some 15, none, .mv (.tmp 0)⟩,
  ⟨some 16, none, .len (.tmp 15)⟩,
  ⟨some 17, none, .mv (.const (.int .i64 0))⟩]
def r_52_5 : List SOper := [⟨some 18, none, .bin 0 .lss (.tmp 17) (.tmp 16)⟩]
def r_52_6 : List SOper := [⟨some 19, none, .mv (.tmp 17)⟩,
  ⟨some 7, none, .mv (.tmp 19)⟩]
def r_52_7 : List SOper := [⟨some 20, none, .load true 4 (.tmp 6)⟩,
  ⟨some 21, none, .mv (.tmp 0)⟩,
  ⟨some 22, none, .mv (.tmp 7)⟩,
  ⟨some 23, none, .ia 4 (.tmp 21) (.tmp 22)⟩,
  ⟨some 24, none, .load true 4 (.tmp 23)⟩,
  ⟨some 25, none, .mv (.tmp 1)⟩,
  ⟨some 26, none, .mv (.tmp 7)⟩,
  ⟨some 27, none, .ia 4 (.tmp 25) (.tmp 26)⟩,
  ⟨some 28, none, .load true 4 (.tmp 27)⟩,
  ⟨some 29, none, .call f_91 [(.tmp 24), (.tmp 28)] false⟩,
  ⟨some 30, none, .call f_51 [(.tmp 20), (.tmp 29)] true⟩,
  ⟨none, none, .store 4 (.tmp 6) (.tmp 30)⟩]
def r_52_8 : List SOper := [⟨some 31, none, .bin 0 .add (.tmp 17) (.const (.int .i64 1))⟩,
  ⟨some 17, none, .mv (.tmp 31)⟩]
def r_52_9 : List SOper := [⟨some 32, none, .load true 4 (.tmp 6)⟩,
  ⟨none, none, .store 4 (.tmp 4) (.tmp 32)⟩,
  ⟨some 5, none, .mv (.const (.int .i64 0))⟩]
def s_52 : SFun := ⟨2, 33, [.cell 4 true 4, .tmp 5],
  (.seq (.reg r_52_0) (.seq (.seq (.reg r_52_1) (.cond (.tmp 12) (.seq (.reg r_52_2) .ret) .skip)) (.seq (.reg r_52_3) (.seq (.seq (.reg r_52_4) (.block 0 (.loop (.seq (.reg r_52_5) (.seq (.cond (.tmp 18) .skip (.exit 0)) (.seq (.block 1 (.seq (.reg r_52_6) (.draw r_52_7 [0, 0, 0, 6, 14, 0, 0, 96, 224, 510, 1023, 2047] []))) (.reg r_52_8))))))) (.seq (.reg r_52_9) .ret)))))⟩

def r_53_0 : List SOper := [⟨some 2, none, .box T_api_Ext (.tmp 0)⟩,
  ⟨some 3, none, .box T_api_Ext (.tmp 1)⟩,
  ⟨some 4, none, .mv (.const (.int .i64 0))⟩]
def r_53_1 : List SOper := [⟨some 5, none, .load true 5 (.tmp 2)⟩,
  ⟨some 6, none, .call f_92 [(.tmp 5)] false⟩,
  ⟨some 7, none, .load true 5 (.tmp 3)⟩,
  ⟨some 8, none, .call f_92 [(.tmp 7)] true⟩,
  ⟨none, none, .store 5 (.tmp 2) (.tmp 6)⟩,
  ⟨none, none, .store 5 (.tmp 3) (.tmp 8)⟩]
def r_53_2 : List SOper := [⟨some 10, none, .fa 0 (.tmp 2)⟩,
  ⟨some 11, none, .load false 1 (.tmp 10)⟩,
  ⟨some 12, none, .fa 0 (.tmp 3)⟩,
  ⟨some 13, none, .load false 1 (.tmp 12)⟩,
  ⟨some 14, none, .bin 0 .lss (.tmp 11) (.tmp 13)⟩,
  ⟨some 9, none, .mv (.tmp 14)⟩]
def r_53_3 : List SOper := [⟨some 4, none, .mv (.const (.int .i64 (-1)))⟩]
def r_53_4 : List SOper := [⟨some 16, none, .fa 0 (.tmp 2)⟩,
  ⟨some 17, none, .load false 1 (.tmp 16)⟩,
  ⟨some 18, none, .fa 0 (.tmp 3)⟩,
  ⟨some 19, none, .load false 1 (.tmp 18)⟩,
  ⟨some 20, none, .bin 0 .gtr (.tmp 17) (.tmp 19)⟩,
  ⟨some 15, none, .mv (.tmp 20)⟩]
def r_53_5 : List SOper := [⟨some 4, none, .mv (.const (.int .i64 1))⟩]
def r_53_6 : List SOper := [⟨some 22, none, .fa 0 (.tmp 2)⟩,
  ⟨some 23, none, .load false 1 (.tmp 22)⟩,
  ⟨some 24, none, .bin 0 .neq (.tmp 23) (.const (.int .i64 0))⟩,
  ⟨some 21, none, .mv (.tmp 24)⟩]
def r_53_7 : List SOper := [⟨some 4, none, .mv (.const (.int .i64 0))⟩]
def r_53_8 : List SOper := [⟨some 25, none, .fa 1 (.tmp 2)⟩,
  ⟨some 26, none, .load true 4 (.tmp 25)⟩,
  ⟨some 27, none, .fa 1 (.tmp 3)⟩,
  ⟨some 28, none, .load true 4 (.tmp 27)⟩,
  ⟨some 29, none, .call f_93 [(.tmp 26), (.tmp 28)] true⟩,
  ⟨some 4, none, .mv (.tmp 29)⟩]
def s_53 : SFun := ⟨2, 30, [.tmp 4],
  (.seq (.reg r_53_0) (.seq (.draw r_53_1 [0, 1, 0, 7, 15, 31] []) (.seq (.block 0 (.seq (.reg r_53_2) (.cond (.tmp 9) (.seq (.reg r_53_3) .ret) (.seq (.reg r_53_4) (.cond (.tmp 15) (.seq (.reg r_53_5) .ret) (.seq (.reg r_53_6) (.cond (.tmp 21) (.seq (.reg r_53_7) .ret) .skip))))))) (.seq (.reg r_53_8) .ret))))⟩

def r_54_0 : List SOper := [⟨some 1, none, .box T_api_Rat (.tmp 0)⟩,
  ⟨some 2, none, .alloc T_api_Ext [(.int .i64 0), (.bool false), (.slice none 0 0), (.bool false), (.slice none 0 0)]⟩]
def r_54_1 : List SOper := [⟨some 3, none, .load true 4 (.tmp 1)⟩,
  ⟨some 4, none, .build [(.bool false), (.slice none 0 0), (.bool false), (.slice none 0 0)] []⟩,
  ⟨some 5, none, .call f_51 [(.tmp 3), (.tmp 4)] true⟩,
  ⟨some 6, none, .build [(.int .i64 0), (.bool false), (.slice none 0 0), (.bool false), (.slice none 0 0)] [(1, 4, (.tmp 5))]⟩,
  ⟨none, none, .store 5 (.tmp 2) (.tmp 6)⟩]
def s_54 : SFun := ⟨1, 7, [.cell 2 true 5],
  (.seq (.reg r_54_0) (.seq (.reg r_54_1) .ret))⟩

def r_60_0 : List SOper := [⟨some 2, none, .box T_api_Template (.tmp 0)⟩,
  ⟨some 4, none, .mv (.const (.bool false))⟩]
def r_60_1 : List SOper := [⟨some 9, none, .mv (.tmp 1)⟩,
  ⟨some 10, none, .bin 0 .lss (.tmp 9) (.const (.int .i64 0))⟩,
  ⟨some 11, none, .mv (.tmp 10)⟩,
  ⟨some 12, some (11, false), .mv (.tmp 1)⟩,
  ⟨some 13, some (11, false), .bin 0 .gtr (.tmp 12) (.const (.int .i64 6))⟩,
  ⟨some 14, none, .pick (.tmp 11) (.const (.bool true)) (.tmp 13)⟩,
  ⟨some 15, none, .mv (.tmp 14)⟩,
  ⟨some 16, some (15, false), .fa 0 (.tmp 2)⟩,
  ⟨some 17, some (15, false), .load false 1 (.tmp 16)⟩,
  ⟨some 18, some (15, false), .len (.tmp 17)⟩,
  ⟨some 19, some (15, false), .bin 0 .gtr (.tmp 18) (.const (.int .i64 40))⟩,
  ⟨some 20, none, .pick (.tmp 15) (.const (.bool true)) (.tmp 19)⟩]
def r_60_2 : List SOper := [⟨some 4, none, .mv (.const (.bool false))⟩]
def r_60_3 : List SOper := [⟨some 21, none, .fa 0 (.tmp 2)⟩,
  ⟨some 22, none, .load false 1 (.tmp 21)⟩,
  ⟨some 23, none, .len (.tmp 22)⟩,
  ⟨some 24, none, .mv (.const (.int .i64 0))⟩]
def r_60_4 : List SOper := [⟨some 25, none, .bin 0 .lss (.tmp 24) (.tmp 23)⟩]
def r_60_5 : List SOper := [⟨some 26, none, .ia 1 (.tmp 22) (.tmp 24)⟩,
  ⟨some 27, none, .load false 1 (.tmp 26)⟩,
  ⟨some 6, none, .mv (.tmp 27)⟩]
def r_60_6 : List SOper := [⟨some 28, none, .mv (.tmp 6)⟩,
  ⟨some 29, none, .len (.tmp 28)⟩,
  ⟨some 30, none, .mv (.tmp 1)⟩,
  ⟨some 31, none, .bin 0 .neq (.tmp 29) (.tmp 30)⟩]
def r_60_7 : List SOper := [⟨some 4, none, .mv (.const (.bool false))⟩]
def r_60_8 : List SOper := [⟨some 32, none, .mv (.tmp 6)⟩,
  ⟨some 33, none, .len (.tmp 32)⟩,
  ⟨some 34, none, .mv (.const (.int .i64 0))⟩]
def r_60_9 : List SOper := [⟨some 35, none, .bin 0 .lss (.tmp 34) (.tmp 33)⟩]
def r_60_10 : List SOper := [⟨some 36, none, .ia 4 (.tmp 32) (.tmp 34)⟩,
  ⟨some 37, none, .load true 4 (.tmp 36)⟩,
  ⟨some 8, none, .alloc T_api_Rat [(.bool false), (.slice none 0 0), (.bool false), (.slice none 0 0)]⟩,
  ⟨none, none, .store 4 (.tmp 8) (.tmp 37)⟩]
def r_60_11 : List SOper := [⟨some 38, none, .load true 4 (.tmp 8)⟩,
  ⟨some 39, none, .call f_97 [(.tmp 38)] true⟩,
  ⟨some 40, none, .un .not (.tmp 39)⟩]
def r_60_12 : List SOper := [⟨some 4, none, .mv (.const (.bool false))⟩]
def r_60_13 : List SOper := [⟨some 41, none, .bin 0 .add (.tmp 34) (.const (.int .i64 1))⟩,
  ⟨some 34, none, .mv (.tmp 41)⟩]
def r_60_14 : List SOper := [⟨some 42, none, .bin 0 .add (.tmp 24) (.const (.int .i64 1))⟩,
  ⟨some 24, none, .mv (.tmp 42)⟩]
def r_60_15 : List SOper := [⟨some 4, none, .mv (.const (.bool true))⟩]
def s_60 : SFun := ⟨2, 43, [.tmp 4],
  (.seq (.reg r_60_0) (.seq (.seq (.reg r_60_1) (.cond (.tmp 20) (.seq (.reg r_60_2) .ret) .skip)) (.seq (.seq (.reg r_60_3) (.block 0 (.loop (.seq (.reg r_60_4) (.seq (.cond (.tmp 25) .skip (.exit 0)) (.seq (.block 1 (.seq (.reg r_60_5) (.seq (.seq (.reg r_60_6) (.cond (.tmp 31) (.seq (.reg r_60_7) .ret) .skip)) (.seq (.reg r_60_8) (.block 2 (.loop (.seq (.reg r_60_9) (.seq (.cond (.tmp 35) .skip (.exit 2)) (.seq (.block 3 (.seq (.reg r_60_10) (.seq (.reg r_60_11) (.cond (.tmp 40) (.seq (.reg r_60_12) .ret) .skip)))) (.reg r_60_13)))))))))) (.reg r_60_14))))))) (.seq (.reg r_60_15) .ret))))⟩

def r_61_0 : List SOper := [⟨some 4, none, .mv (.const (.bool false))⟩]
def r_61_1 : List SOper := [⟨some 5, none, .mv (.tmp 0)⟩,
  ⟨some 6, none, .mv (.tmp 1)⟩,
  ⟨some 7, none, .call f_98 [(.tmp 5), (.tmp 6)] true⟩,
  ⟨some 8, none, .bin 0 .geq (.tmp 7) (.const (.int .i64 0))⟩,
  ⟨some 4, none, .mv (.tmp 8)⟩]
def s_61 : SFun := ⟨2, 9, [.tmp 4],
  (.seq (.reg r_61_0) (.seq (.reg r_61_1) .ret))⟩

def r_62_0 : List SOper := [⟨some 1, none, .box T_api_Ext (.tmp 0)⟩,
  ⟨some 2, none, .mv (.const (.bool false))⟩]
def r_62_1 : List SOper := [⟨some 3, none, .load true 5 (.tmp 1)⟩,
  ⟨some 4, none, .call f_63 [(.tmp 3)] true⟩,
  ⟨some 5, none, .un .not (.tmp 4)⟩,
  ⟨some 2, none, .mv (.tmp 5)⟩]
def s_62 : SFun := ⟨1, 6, [.tmp 2],
  (.seq (.reg r_62_0) (.seq (.reg r_62_1) .ret))⟩

def r_63_0 : List SOper := [⟨some 1, none, .box T_api_Ext (.tmp 0)⟩,
  ⟨some 2, none, .mv (.const (.bool false))⟩]
def r_63_1 : List SOper := [⟨some 3, none, .fa 0 (.tmp 1)⟩,
  ⟨some 4, none, .load false 1 (.tmp 3)⟩]
def r_63_2 : List SOper := [⟨some 6, none, .bin 0 .eql (.tmp 4) (.const (.int .i64 (-1)))⟩,
  ⟨some 5, none, .mv (.tmp 6)⟩]
def r_63_3 : List SOper := [⟨some 7, none, .bin 0 .eql (.tmp 4) (.const (.int .i64 1))⟩,
  ⟨some 5, none, .mv (.tmp 7)⟩]
def r_63_4 : List SOper := [⟨some 8, none, .fa 1 (.tmp 1)⟩,
  ⟨some 9, none, .load true 4 (.tmp 8)⟩,
  ⟨some 10, none, .call f_99 [(.tmp 9)] true⟩,
  ⟨some 2, none, .mv (.tmp 10)⟩]
def r_63_5 : List SOper := [⟨some 12, none, .bin 0 .eql (.tmp 4) (.const (.int .i64 0))⟩,
  ⟨some 11, none, .mv (.tmp 12)⟩]
def r_63_6 : List SOper := [⟨some 13, none, .fa 1 (.tmp 1)⟩,
  ⟨some 14, none, .load true 4 (.tmp 13)⟩,
  ⟨some 15, none, .call f_97 [(.tmp 14)] true⟩,
  ⟨some 2, none, .mv (.tmp 15)⟩]
def r_63_7 : List SOper := [⟨some 2, none, .mv (.const (.bool false))⟩]
def s_63 : SFun := ⟨1, 16, [.tmp 2],
  (.seq (.reg r_63_0) (.seq (.seq (.reg r_63_1) (.block 0 (.seq (.seq (.reg r_63_2) (.cond (.tmp 5) .skip (.reg r_63_3))) (.cond (.tmp 5) (.seq (.reg r_63_4) .ret) (.seq (.reg r_63_5) (.cond (.tmp 11) (.seq (.reg r_63_6) .ret) .skip)))))) (.seq (.reg r_63_7) .ret)))⟩

def r_64_0 : List SOper := [⟨some 2, none, .box T_api_Ext (.tmp 0)⟩,
  ⟨some 3, none, .box T_api_Ext (.tmp 1)⟩,
  ⟨some 4, none, .mv (.const (.bool false))⟩]
def r_64_1 : List SOper := [⟨some 5, none, .load true 5 (.tmp 2)⟩,
  ⟨some 6, none, .load true 5 (.tmp 3)⟩,
  ⟨some 7, none, .call f_53 [(.tmp 5), (.tmp 6)] true⟩,
  ⟨some 8, none, .bin 0 .gtr (.tmp 7) (.const (.int .i64 0))⟩,
  ⟨some 4, none, .mv (.tmp 8)⟩]
def s_64 : SFun := ⟨2, 9, [.tmp 4],
  (.seq (.reg r_64_0) (.seq (.reg r_64_1) .ret))⟩

def r_65_0 : List SOper := [⟨some 4, none, .mv (.const (.bool false))⟩]
def r_65_1 : List SOper := [⟨some 5, none, .mv (.tmp 0)⟩,
  ⟨some 6, none, .mv (.tmp 1)⟩,
  ⟨some 7, none, .call f_100 [(.tmp 5), (.tmp 6)] true⟩,
  ⟨some 8, none, .bin 0 .geq (.tmp 7) (.const (.int .i64 0))⟩,
  ⟨some 4, none, .mv (.tmp 8)⟩]
def s_65 : SFun := ⟨2, 9, [.tmp 4],
  (.seq (.reg r_65_0) (.seq (.reg r_65_1) .ret))⟩

def r_66_0 : List SOper := [⟨some 6, none, .mv (.const (.slice none 0 0))⟩]
def r_66_1 : List SOper := [⟨some 7, none, .mv (.const (.slice none 0 0))⟩]
def r_66_2 : List SOper := [⟨some 9, none, .mv (.tmp 0)⟩,
  ⟨some 10, none, .len (.tmp 9)⟩,
  ⟨some 11, none, .mv (.tmp 1)⟩,
  ⟨some 12, none, .len (.tmp 11)⟩,
  ⟨some 13, none, .mnx false (.tmp 10) [(.tmp 12)]⟩,
  ⟨some 14, none, .mv (.const (.int .i64 0))⟩]
def r_66_3 : List SOper := [⟨some 15, none, .bin 0 .lss (.tmp 14) (.tmp 13)⟩]
def r_66_4 : List SOper := [⟨some 16, none, .mv (.tmp 14)⟩,
  ⟨some 8, none, .mv (.tmp 16)⟩]
def r_66_5 : List SOper := [⟨some 17, none, .mv (.tmp 7)⟩,
  ⟨some 18, none, .mv (.tmp 2)⟩,
  ⟨some 19, none, .mv (.tmp 0)⟩,
  ⟨some 20, none, .mv (.tmp 8)⟩,
  ⟨some 21, none, .ia 5 (.tmp 19) (.tmp 20)⟩,
  ⟨some 22, none, .load true 5 (.tmp 21)⟩,
  ⟨some 23, none, .mv (.tmp 1)⟩,
  ⟨some 24, none, .mv (.tmp 8)⟩,
  ⟨some 25, none, .ia 5 (.tmp 23) (.tmp 24)⟩,
  ⟨some 26, none, .load true 5 (.tmp 25)⟩,
  ⟨some 27, none, .callv (.tmp 18) [(.tmp 22), (.tmp 26)] true⟩,
  ⟨some 28, none, .lit T_bool [(.bool false)] 1 [(0, 1, (.tmp 27))]⟩,
  ⟨some 29, none, .app T_bool 1 1 (.tmp 17) (.tmp 28)⟩,
  ⟨some 7, none, .mv (.tmp 29)⟩]
def r_66_6 : List SOper := [⟨some 30, none, .bin 0 .add (.tmp 14) (.const (.int .i64 1))⟩,
  ⟨some 14, none, .mv (.tmp 30)⟩]
def r_66_7 : List SOper := [⟨some 31, none, .mv (.tmp 7)⟩,
  ⟨some 6, none, .mv (.tmp 31)⟩]
def s_66 : SFun := ⟨3, 32, [.tmp 6],
  (.seq (.reg r_66_0) (.seq (.reg r_66_1) (.seq (.seq (.reg r_66_2) (.block 0 (.loop (.seq (.reg r_66_3) (.seq (.cond (.tmp 15) .skip (.exit 0)) (.seq (.block 1 (.seq (.reg r_66_4) (.draw r_66_5 [0, 0, 0, 0, 12, 28, 0, 0, 192, 448, 1022, 2046, 4095, 8191] []))) (.reg r_66_6))))))) (.seq (.reg r_66_7) .ret))))⟩

def r_67_0 : List SOper := [⟨some 2, none, .box T_api_Ext (.tmp 0)⟩,
  ⟨some 3, none, .box T_api_Ext (.tmp 1)⟩,
  ⟨some 4, none, .mv (.const (.bool false))⟩]
def r_67_1 : List SOper := [⟨some 5, none, .fa 0 (.tmp 2)⟩,
  ⟨some 6, none, .load false 1 (.tmp 5)⟩,
  ⟨some 7, none, .fa 0 (.tmp 3)⟩,
  ⟨some 8, none, .load false 1 (.tmp 7)⟩,
  ⟨some 9, none, .bin 0 .eql (.tmp 6) (.tmp 8)⟩,
  ⟨some 10, none, .mv (.tmp 9)⟩,
  ⟨some 11, some (10, true), .fa 1 (.tmp 2)⟩,
  ⟨some 12, some (10, true), .load true 4 (.tmp 11)⟩,
  ⟨some 13, some (10, true), .fa 1 (.tmp 3)⟩,
  ⟨some 14, some (10, true), .load true 4 (.tmp 13)⟩,
  ⟨some 15, some (10, true), .call f_94 [(.tmp 12), (.tmp 14)] true⟩,
  ⟨some 16, none, .pick (.tmp 10) (.tmp 15) (.const (.bool false))⟩,
  ⟨some 4, none, .mv (.tmp 16)⟩]
def s_67 : SFun := ⟨2, 17, [.tmp 4],
  (.seq (.reg r_67_0) (.seq (.reg r_67_1) .ret))⟩

def r_68_0 : List SOper := [⟨some 6, none, .mv (.const (.slice none 0 0))⟩]
def r_68_1 : List SOper := [⟨some 7, none, .mv (.const (.slice none 0 0))⟩]
def r_68_2 : List SOper := [⟨some 9, none, .mv (.tmp 0)⟩,
  ⟨some 10, none, .len (.tmp 9)⟩,
  ⟨some 11, none, .mv (.tmp 1)⟩,
  ⟨some 12, none, .len (.tmp 11)⟩,
  ⟨some 13, none, .mnx false (.tmp 10) [(.tmp 12)]⟩,
  ⟨some 14, none, .mv (.const (.int .i64 0))⟩]
def r_68_3 : List SOper := [⟨some 15, none, .bin 0 .lss (.tmp 14) (.tmp 13)⟩]
def r_68_4 : List SOper := [⟨some 16, none, .mv (.tmp 14)⟩,
  ⟨some 8, none, .mv (.tmp 16)⟩]
def r_68_5 : List SOper := [⟨some 17, none, .mv (.tmp 7)⟩,
  ⟨some 18, none, .mv (.tmp 2)⟩,
  ⟨some 19, none, .mv (.tmp 0)⟩,
  ⟨some 20, none, .mv (.tmp 8)⟩,
  ⟨some 21, none, .ia 5 (.tmp 19) (.tmp 20)⟩,
  ⟨some 22, none, .load true 5 (.tmp 21)⟩,
  ⟨some 23, none, .mv (.tmp 1)⟩,
  ⟨some 24, none, .mv (.tmp 8)⟩,
  ⟨some 25, none, .ia 5 (.tmp 23) (.tmp 24)⟩,
  ⟨some 26, none, .load true 5 (.tmp 25)⟩,
  ⟨some 27, none, .callv (.tmp 18) [(.tmp 22), (.tmp 26)] true⟩,
  ⟨some 28, none, .lit T_api_Ext [(.int .i64 0), (.bool false), (.slice none 0 0), (.bool false), (.slice none 0 0)] 1 [(0, 5, (.tmp 27))]⟩,
  ⟨some 29, none, .app T_api_Ext 5 72 (.tmp 17) (.tmp 28)⟩,
  ⟨some 7, none, .mv (.tmp 29)⟩]
def r_68_6 : List SOper := [⟨some 30, none, .bin 0 .add (.tmp 14) (.const (.int .i64 1))⟩,
  ⟨some 14, none, .mv (.tmp 30)⟩]
def r_68_7 : List SOper := [⟨some 31, none, .mv (.tmp 7)⟩,
  ⟨some 6, none, .mv (.tmp 31)⟩]
def s_68 : SFun := ⟨3, 32, [.tmp 6],
  (.seq (.reg r_68_0) (.seq (.reg r_68_1) (.seq (.seq (.reg r_68_2) (.block 0 (.loop (.seq (.reg r_68_3) (.seq (.cond (.tmp 15) .skip (.exit 0)) (.seq (.block 1 (.seq (.reg r_68_4) (.draw r_68_5 [0, 0, 0, 0, 12, 28, 0, 0, 192, 448, 1022, 2046, 4095, 8191] []))) (.reg r_68_6))))))) (.seq (.reg r_68_7) .ret))))⟩

def r_69_0 : List SOper := [⟨some 2, none, .box T_api_Ext (.tmp 0)⟩,
  ⟨some 3, none, .box T_api_Ext (.tmp 1)⟩,
  ⟨some 4, none, .alloc T_api_Ext [(.int .i64 0), (.bool false), (.slice none 0 0), (.bool false), (.slice none 0 0)]⟩]
def r_69_1 : List SOper := [⟨some 5, none, .load true 5 (.tmp 2)⟩,
  ⟨some 6, none, .load true 5 (.tmp 3)⟩,
  ⟨some 7, none, .call f_101 [(.tmp 5), (.tmp 6), (.fn f_102)] true⟩,
  ⟨some 8, none, .call f_92 [(.tmp 7)] true⟩,
  ⟨none, none, .store 5 (.tmp 4) (.tmp 8)⟩]
def s_69 : SFun := ⟨2, 9, [.cell 4 true 5],
  (.seq (.reg r_69_0) (.seq (.reg r_69_1) .ret))⟩

def r_71_0 : List SOper := [⟨some 2, none, .box T_api_Ext (.tmp 0)⟩,
  ⟨some 3, none, .box T_api_Ext (.tmp 1)⟩,
  ⟨some 4, none, .alloc T_api_Ext [(.int .i64 0), (.bool false), (.slice none 0 0), (.bool false), (.slice none 0 0)]⟩]
def r_71_1 : List SOper := [⟨some 5, none, .load true 5 (.tmp 2)⟩,
  ⟨some 6, none, .load true 5 (.tmp 3)⟩,
  ⟨some 7, none, .call f_101 [(.tmp 5), (.tmp 6), (.fn f_103)] true⟩,
  ⟨some 8, none, .call f_92 [(.tmp 7)] true⟩,
  ⟨none, none, .store 5 (.tmp 4) (.tmp 8)⟩]
def s_71 : SFun := ⟨2, 9, [.cell 4 true 5],
  (.seq (.reg r_71_0) (.seq (.reg r_71_1) .ret))⟩

def r_76_0 : List SOper := [⟨some 4, none, .alloc T_api_Int [(.bool false), (.slice none 0 0)]⟩]
def r_76_1 : List SOper := [⟨some 5, none, .mv (.tmp 1)⟩,
  ⟨some 6, none, .call f_107 [(.tmp 5)] true⟩,
  ⟨some 1, none, .mv (.tmp 6)⟩]
def r_76_2 : List SOper := [⟨some 7, none, .mv (.tmp 1)⟩,
  ⟨some 8, none, .len (.tmp 7)⟩,
  ⟨some 9, none, .bin 0 .eql (.tmp 8) (.const (.int .i64 0))⟩]
def r_76_3 : List SOper := [⟨some 10, none, .build [(.bool false), (.slice none 0 0)] []⟩,
  ⟨none, none, .store 2 (.tmp 4) (.tmp 10)⟩]
def r_76_4 : List SOper := [⟨some 11, none, .mv (.tmp 0)⟩,
  ⟨some 12, none, .lit T_uint32 [(.int .u32 0)] 0 []⟩,
  ⟨some 13, none, .mv (.tmp 1)⟩,
  ⟨some 14, none, .app T_uint32 1 4 (.tmp 12) (.tmp 13)⟩,
  ⟨some 15, none, .build [(.bool false), (.slice none 0 0)] [(0, 1, (.tmp 11)), (1, 1, (.tmp 14))]⟩,
  ⟨none, none, .store 2 (.tmp 4) (.tmp 15)⟩]
def s_76 : SFun := ⟨2, 16, [.cell 4 true 2],
  (.seq (.reg r_76_0) (.seq (.reg r_76_1) (.seq (.seq (.reg r_76_2) (.cond (.tmp 9) (.seq (.reg r_76_3) .ret) .skip)) (.seq (.reg r_76_4) .ret))))⟩

def r_77_0 : List SOper := [⟨some 1, none, .box T_api_LP (.tmp 0)⟩,
  ⟨some 2, none, .mv (.const (.bool false))⟩]
def r_77_1 : List SOper := [⟨some 3, none, .fa 0 (.tmp 1)⟩,
  ⟨some 4, none, .load false 1 (.tmp 3)⟩,
  ⟨some 5, none, .bin 0 .lss (.tmp 4) (.const (.int .i64 0))⟩,
  ⟨some 6, none, .mv (.tmp 5)⟩,
  ⟨some 7, some (6, false), .fa 0 (.tmp 1)⟩,
  ⟨some 8, some (6, false), .load false 1 (.tmp 7)⟩,
  ⟨some 9, some (6, false), .bin 0 .gtr (.tmp 8) (.const (.int .i64 60))⟩,
  ⟨some 10, none, .pick (.tmp 6) (.const (.bool true)) (.tmp 9)⟩,
  ⟨some 11, none, .mv (.tmp 10)⟩,
  ⟨some 12, some (11, false), .fa 1 (.tmp 1)⟩,
  ⟨some 13, some (11, false), .load false 1 (.tmp 12)⟩,
  ⟨some 14, some (11, false), .len (.tmp 13)⟩,
  ⟨some 15, some (11, false), .bin 0 .gtr (.tmp 14) (.const (.int .i64 60))⟩,
  ⟨some 16, none, .pick (.tmp 11) (.const (.bool true)) (.tmp 15)⟩,
  ⟨some 17, none, .mv (.tmp 16)⟩,
  ⟨some 18, some (17, false), .fa 2 (.tmp 1)⟩,
  ⟨some 19, some (17, false), .load false 1 (.tmp 18)⟩,
  ⟨some 20, some (17, false), .len (.tmp 19)⟩,
  ⟨some 21, some (17, false), .fa 1 (.tmp 1)⟩,
  ⟨some 22, some (17, false), .load false 1 (.tmp 21)⟩,
  ⟨some 23, some (17, false), .len (.tmp 22)⟩,
  ⟨some 24, some (17, false), .bin 0 .neq (.tmp 20) (.tmp 23)⟩,
  ⟨some 25, none, .pick (.tmp 17) (.const (.bool true)) (.tmp 24)⟩,
  ⟨some 26, none, .mv (.tmp 25)⟩,
  ⟨some 27, some (26, false), .fa 3 (.tmp 1)⟩,
  ⟨some 28, some (26, false), .load false 1 (.tmp 27)⟩,
  ⟨some 29, some (26, false), .len (.tmp 28)⟩,
  ⟨some 30, some (26, false), .fa 0 (.tmp 1)⟩,
  ⟨some 31, some (26, false), .load false 1 (.tmp 30)⟩,
  ⟨some 32, some (26, false), .bin 0 .neq (.tmp 29) (.tmp 31)⟩,
  ⟨some 33, none, .pick (.tmp 26) (.const (.bool true)) (.tmp 32)⟩]
def r_77_2 : List SOper := [⟨some 2, none, .mv (.const (.bool false))⟩]
def r_77_3 : List SOper := [⟨some 34, none, .fa 1 (.tmp 1)⟩,
  ⟨some 35, none, .load false 1 (.tmp 34)⟩,
  ⟨some 36, none, .mkfn (.func f_109) [] [(.tmp 1)]⟩,
  ⟨some 37, none, .call f_108 [(.tmp 35), (.tmp 36)] true⟩,
  ⟨some 38, none, .un .not (.tmp 37)⟩,
  ⟨some 2, none, .mv (.tmp 38)⟩]
def s_77 : SFun := ⟨1, 39, [.tmp 2],
  (.seq (.reg r_77_0) (.seq (.seq (.reg r_77_1) (.cond (.tmp 33) (.seq (.reg r_77_2) .ret) .skip)) (.seq (.reg r_77_3) .ret)))⟩

def r_78_0 : List SOper := [⟨some 1, none, .box T_api_LP (.tmp 0)⟩,
  ⟨some 2, none, .alloc T_api_Answer [(.int .i64 0), (.bool false), (.slice none 0 0), (.bool false), (.slice none 0 0), (.slice none 0 0), (.slice none 0 0), (.slice none 0 0)]⟩,
  ⟨some 3, none, .mv (.const (.int .i64 0))⟩]
def r_78_1 : List SOper := [⟨some 8, none, .load true 4 (.tmp 1)⟩,
  ⟨some 9, none, .call f_110 [(.tmp 8)] true⟩,
  ⟨some 4, none, .alloc T_simplex_scaled [(.int .i64 0), (.slice none 0 0), (.slice none 0 0), (.slice none 0 0), (.bool false), (.slice none 0 0), (.bool false), (.slice none 0 0)]⟩,
  ⟨none, none, .store 8 (.tmp 4) (.tmp 9)⟩]
def r_78_2 : List SOper := [⟨some 11, none, .load true 4 (.tmp 1)⟩,
  ⟨some 12, none, .load true 8 (.tmp 4)⟩,
  ⟨some 13, none, .call f_111 [(.tmp 11), (.tmp 12)] true⟩,
  ⟨some 10, none, .mv (.tmp 13)⟩,
  ⟨some 14, none, .ext (.tmp 10) 0⟩,
  ⟨some 15, none, .ext (.tmp 10) 1⟩,
  ⟨some 16, none, .ext (.tmp 10) 2⟩,
  ⟨some 5, none, .alloc T_api_Answer [(.int .i64 0), (.bool false), (.slice none 0 0), (.bool false), (.slice none 0 0), (.slice none 0 0), (.slice none 0 0), (.slice none 0 0)]⟩,
  ⟨none, none, .store 8 (.tmp 5) (.tmp 14)⟩,
  ⟨some 6, none, .mv (.tmp 15)⟩,
  ⟨some 7, none, .mv (.tmp 16)⟩]
def r_78_3 : List SOper := [⟨some 17, none, .mv (.tmp 7)⟩]
def r_78_4 : List SOper := [⟨some 18, none, .load true 8 (.tmp 5)⟩,
  ⟨some 19, none, .mv (.tmp 6)⟩,
  ⟨none, none, .store 8 (.tmp 2) (.tmp 18)⟩,
  ⟨some 3, none, .mv (.tmp 19)⟩]
def r_78_5 : List SOper := [⟨some 20, none, .build [] []⟩,
  ⟨some 21, none, .load true 4 (.tmp 1)⟩,
  ⟨some 22, none, .load true 8 (.tmp 4)⟩,
  ⟨some 23, none, .call f_112 [(.tmp 20), (.tmp 21), (.tmp 22)] true⟩,
  ⟨some 24, none, .ext (.tmp 23) 0⟩,
  ⟨some 25, none, .ext (.tmp 23) 1⟩,
  ⟨none, none, .store 8 (.tmp 2) (.tmp 24)⟩,
  ⟨some 3, none, .mv (.tmp 25)⟩]
def s_78 : SFun := ⟨1, 26, [.cell 2 true 8, .tmp 3],
  (.seq (.reg r_78_0) (.seq (.reg r_78_1) (.seq (.seq (.reg r_78_2) (.seq (.reg r_78_3) (.cond (.tmp 17) (.seq (.reg r_78_4) .ret) .skip))) (.seq (.reg r_78_5) .ret))))⟩

def r_84_0 : List SOper := [⟨some 1, none, .box T_api_Ext (.tmp 0)⟩,
  ⟨some 2, none, .mv (.const (.bool false))⟩]
def r_84_1 : List SOper := [⟨some 3, none, .fa 0 (.tmp 1)⟩,
  ⟨some 4, none, .load false 1 (.tmp 3)⟩,
  ⟨some 5, none, .bin 0 .lss (.tmp 4) (.const (.int .i64 0))⟩,
  ⟨some 2, none, .mv (.tmp 5)⟩]
def s_84 : SFun := ⟨1, 6, [.tmp 2],
  (.seq (.reg r_84_0) (.seq (.reg r_84_1) .ret))⟩

def r_85_0 : List SOper := [⟨some 1, none, .box T_api_Rat (.tmp 0)⟩,
  ⟨some 2, none, .alloc T_api_Rat [(.bool false), (.slice none 0 0), (.bool false), (.slice none 0 0)]⟩]
def r_85_1 : List SOper := [⟨some 3, none, .load true 4 (.tmp 1)⟩,
  ⟨some 4, none, .call f_116 [(.tmp 3)] true⟩,
  ⟨some 5, none, .mv (.tmp 4)⟩,
  ⟨some 6, some (5, false), .load true 4 (.tmp 1)⟩,
  ⟨some 7, some (5, false), .call f_97 [(.tmp 6)] true⟩,
  ⟨some 8, some (5, false), .un .not (.tmp 7)⟩,
  ⟨some 9, none, .pick (.tmp 5) (.const (.bool true)) (.tmp 8)⟩]
def r_85_2 : List SOper := [⟨some 10, none, .call f_117 [] true⟩,
  ⟨some 11, none, .build [(.bool false), (.slice none 0 0), (.bool false), (.slice none 0 0)] [(2, 2, (.tmp 10))]⟩,
  ⟨none, none, .store 4 (.tmp 2) (.tmp 11)⟩]
def r_85_3 : List SOper := [⟨some 12, none, .fa 0 (.tmp 1)⟩,
  ⟨some 13, none, .load true 2 (.tmp 12)⟩,
  ⟨some 14, none, .build [(.bool false), (.slice none 0 0)] []⟩,
  ⟨some 15, none, .call f_88 [(.tmp 13), (.tmp 14)] false⟩,
  ⟨some 16, none, .fa 2 (.tmp 1)⟩,
  ⟨some 17, none, .load true 2 (.tmp 16)⟩,
  ⟨some 18, none, .build [(.bool false), (.slice none 0 0)] []⟩,
  ⟨some 19, none, .call f_88 [(.tmp 17), (.tmp 18)] true⟩,
  ⟨some 20, none, .build [(.bool false), (.slice none 0 0), (.bool false), (.slice none 0 0)] [(0, 2, (.tmp 15)), (2, 2, (.tmp 19))]⟩,
  ⟨none, none, .store 4 (.tmp 2) (.tmp 20)⟩]
def s_85 : SFun := ⟨1, 21, [.cell 2 true 4],
  (.seq (.reg r_85_0) (.seq (.seq (.reg r_85_1) (.cond (.tmp 9) (.seq (.reg r_85_2) .ret) .skip)) (.seq (.draw r_85_3 [0, 1, 0, 7, 0, 16, 0, 127, 255, 511] []) .ret)))⟩

def r_86_0 : List SOper := [⟨some 2, none, .box T_api_Int (.tmp 0)⟩,
  ⟨some 3, none, .box T_api_Int (.tmp 1)⟩,
  ⟨some 4, none, .alloc T_api_Rat [(.bool false), (.slice none 0 0), (.bool false), (.slice none 0 0)]⟩]
def r_86_1 : List SOper := [⟨some 8, none, .load true 2 (.tmp 2)⟩,
  ⟨some 9, none, .load true 2 (.tmp 3)⟩,
  ⟨some 10, none, .call f_118 [(.tmp 8), (.tmp 9)] true⟩,
  ⟨some 7, none, .mv (.tmp 10)⟩,
  ⟨some 11, none, .ext (.tmp 7) 0⟩,
  ⟨some 12, none, .ext (.tmp 7) 1⟩,
  ⟨some 5, none, .alloc T_api_Rat [(.bool false), (.slice none 0 0), (.bool false), (.slice none 0 0)]⟩,
  ⟨none, none, .store 4 (.tmp 5) (.tmp 11)⟩,
  ⟨some 6, none, .mv (.tmp 12)⟩]
def r_86_2 : List SOper := [⟨some 13, none, .load true 4 (.tmp 5)⟩,
  ⟨none, none, .store 4 (.tmp 4) (.tmp 13)⟩]
def s_86 : SFun := ⟨2, 14, [.cell 4 true 4],
  (.seq (.reg r_86_0) (.seq (.reg r_86_1) (.seq (.reg r_86_2) .ret)))⟩

def r_87_0 : List SOper := [⟨some 4, none, .box T_api_Int (.tmp 1)⟩,
  ⟨some 6, none, .alloc T_api_Int [(.bool false), (.slice none 0 0)]⟩]
def r_87_1 : List SOper := [⟨some 9, none, .mv (.tmp 2)⟩,
  ⟨some 10, none, .len (.tmp 9)⟩,
  ⟨some 11, none, .mv (.const (.int .i64 0))⟩]
def r_87_2 : List SOper := [⟨some 12, none, .bin 0 .lss (.tmp 11) (.tmp 10)⟩]
def r_87_3 : List SOper := [⟨some 13, none, .ia 2 (.tmp 9) (.tmp 11)⟩,
  ⟨some 14, none, .load true 2 (.tmp 13)⟩,
  ⟨some 8, none, .alloc T_api_Int [(.bool false), (.slice none 0 0)]⟩,
  ⟨none, none, .store 2 (.tmp 8) (.tmp 14)⟩]
def r_87_4 : List SOper := [⟨some 15, none, .mv (.tmp 0)⟩,
  ⟨some 16, none, .load true 2 (.tmp 4)⟩,
  ⟨some 17, none, .load true 2 (.tmp 8)⟩,
  ⟨some 18, none, .callv (.tmp 15) [(.tmp 16), (.tmp 17)] true⟩,
  ⟨none, none, .store 2 (.tmp 4) (.tmp 18)⟩]
def r_87_5 : List SOper := [⟨some 19, none, .bin 0 .add (.tmp 11) (.const (.int .i64 1))⟩,
  ⟨some 11, none, .mv (.tmp 19)⟩]
def r_87_6 : List SOper := [⟨some 20, none, .load true 2 (.tmp 4)⟩,
  ⟨none, none, .store 2 (.tmp 6) (.tmp 20)⟩]
def s_87 : SFun := ⟨3, 21, [.cell 6 true 2],
  (.seq (.reg r_87_0) (.seq (.seq (.reg r_87_1) (.block 0 (.loop (.seq (.reg r_87_2) (.seq (.cond (.tmp 12) .skip (.exit 0)) (.seq (.block 1 (.seq (.reg r_87_3) (.reg r_87_4))) (.reg r_87_5))))))) (.seq (.reg r_87_6) .ret)))⟩

def r_88_0 : List SOper := [⟨some 2, none, .box T_api_Int (.tmp 0)⟩,
  ⟨some 3, none, .box T_api_Int (.tmp 1)⟩,
  ⟨some 4, none, .alloc T_api_Int [(.bool false), (.slice none 0 0)]⟩]
def r_88_1 : List SOper := [⟨some 7, none, .load true 2 (.tmp 2)⟩,
  ⟨some 8, none, .call f_119 [(.tmp 7)] false⟩,
  ⟨some 9, none, .load true 2 (.tmp 3)⟩,
  ⟨some 10, none, .call f_119 [(.tmp 9)] true⟩,
  ⟨some 5, none, .mv (.tmp 8)⟩,
  ⟨some 6, none, .mv (.tmp 10)⟩]
def r_88_2 : List SOper := [⟨some 12, none, .load true 2 (.tmp 2)⟩,
  ⟨some 13, none, .call f_120 [(.tmp 12)] false⟩,
  ⟨some 14, none, .load true 2 (.tmp 3)⟩,
  ⟨some 15, none, .call f_120 [(.tmp 14)] true⟩,
  ⟨some 16, none, .bin 1 .eql (.tmp 13) (.tmp 15)⟩,
  ⟨some 11, none, .mv (.tmp 16)⟩]
def r_88_3 : List SOper := [⟨some 17, none, .load true 2 (.tmp 2)⟩,
  ⟨some 18, none, .call f_120 [(.tmp 17)] true⟩,
  ⟨some 19, none, .mv (.tmp 5)⟩,
  ⟨some 20, none, .mv (.tmp 6)⟩,
  ⟨some 21, none, .call f_122 [(.tmp 19), (.tmp 20)] true⟩,
  ⟨some 22, none, .call f_121 [(.tmp 18), (.tmp 21)] true⟩,
  ⟨none, none, .store 2 (.tmp 4) (.tmp 22)⟩]
def r_88_4 : List SOper := [⟨some 24, none, .mv (.tmp 5)⟩,
  ⟨some 25, none, .mv (.tmp 6)⟩,
  ⟨some 26, none, .call f_123 [(.tmp 24), (.tmp 25)] true⟩,
  ⟨some 27, none, .bin 0 .geq (.tmp 26) (.const (.int .i64 0))⟩,
  ⟨some 23, none, .mv (.tmp 27)⟩]
def r_88_5 : List SOper := [⟨some 28, none, .load true 2 (.tmp 2)⟩,
  ⟨some 29, none, .call f_120 [(.tmp 28)] true⟩,
  ⟨some 30, none, .mv (.tmp 5)⟩,
  ⟨some 31, none, .mv (.tmp 6)⟩,
  ⟨some 32, none, .call f_124 [(.tmp 30), (.tmp 31)] true⟩,
  ⟨some 33, none, .call f_121 [(.tmp 29), (.tmp 32)] true⟩,
  ⟨none, none, .store 2 (.tmp 4) (.tmp 33)⟩]
def r_88_6 : List SOper := [⟨some 34, none, .load true 2 (.tmp 3)⟩,
  ⟨some 35, none, .call f_120 [(.tmp 34)] true⟩,
  ⟨some 36, none, .mv (.tmp 6)⟩,
  ⟨some 37, none, .mv (.tmp 5)⟩,
  ⟨some 38, none, .call f_124 [(.tmp 36), (.tmp 37)] true⟩,
  ⟨some 39, none, .call f_121 [(.tmp 35), (.tmp 38)] true⟩,
  ⟨none, none, .store 2 (.tmp 4) (.tmp 39)⟩]
def s_88 : SFun := ⟨2, 40, [.cell 4 true 2],
  (.seq (.reg r_88_0) (.seq (.draw r_88_1 [0, 1, 0, 7, 15, 31] []) (.seq (.block 0 (.seq (.draw r_88_2 [0, 1, 0, 7, 15, 31] []) (.cond (.tmp 11) (.seq (.reg r_88_3) .ret) (.seq (.reg r_88_4) (.cond (.tmp 23) (.seq (.reg r_88_5) .ret) .skip))))) (.seq (.reg r_88_6) .ret))))⟩

def r_89_0 : List SOper := [⟨some 2, none, .box T_api_Int (.tmp 0)⟩,
  ⟨some 3, none, .box T_api_Int (.tmp 1)⟩,
  ⟨some 4, none, .alloc T_api_Int [(.bool false), (.slice none 0 0)]⟩]
def r_89_1 : List SOper := [⟨some 13, none, .load true 2 (.tmp 2)⟩,
  ⟨some 14, none, .call f_119 [(.tmp 13)] false⟩,
  ⟨some 15, none, .load true 2 (.tmp 3)⟩,
  ⟨some 16, none, .call f_119 [(.tmp 15)] true⟩,
  ⟨some 5, none, .mv (.tmp 14)⟩,
  ⟨some 6, none, .mv (.tmp 16)⟩]
def r_89_2 : List SOper := [⟨some 17, none, .mv (.tmp 5)⟩,
  ⟨some 18, none, .len (.tmp 17)⟩,
  ⟨some 19, none, .mv (.tmp 6)⟩,
  ⟨some 20, none, .len (.tmp 19)⟩,
  ⟨some 21, none, .bin 0 .add (.tmp 18) (.tmp 20)⟩,
  ⟨some 22, none, .mk T_uint32 4 [(.int .u32 0)] (.tmp 21) (.tmp 21)⟩,
  ⟨some 7, none, .mv (.tmp 22)⟩]
def r_89_3 : List SOper := [⟨some 23, none, .mv (.tmp 5)⟩,
  ⟨some 24, none, .len (.tmp 23)⟩,
  ⟨some 25, none, .mv (.const (.int .i64 0))⟩]
def r_89_4 : List SOper := [⟨some 26, none, .bin 0 .lss (.tmp 25) (.tmp 24)⟩]
def r_89_5 : List SOper := [⟨some 27, none, .mv (.tmp 25)⟩,
  ⟨some 28, none, .ia 1 (.tmp 23) (.tmp 25)⟩,
  ⟨some 29, none, .load false 1 (.tmp 28)⟩,
  ⟨some 8, none, .mv (.tmp 27)⟩,
  ⟨some 9, none, .mv (.tmp 29)⟩]
def r_89_6 : List SOper := [⟨some 10, none, .mv (.const (.int .u64 0))⟩]
def r_89_7 : List SOper := [⟨some 30, none, .mv (.tmp 6)⟩,
  ⟨some 31, none, .len (.tmp 30)⟩,
  ⟨some 32, none, .mv (.const (.int .i64 0))⟩]
def r_89_8 : List SOper := [⟨some 33, none, .bin 0 .lss (.tmp 32) (.tmp 31)⟩]
def r_89_9 : List SOper := [⟨some 34, none, .mv (.tmp 32)⟩,
  ⟨some 35, none, .ia 1 (.tmp 30) (.tmp 32)⟩,
  ⟨some 36, none, .load false 1 (.tmp 35)⟩,
  ⟨some 11, none, .mv (.tmp 34)⟩,
  ⟨some 12, none, .mv (.tmp 36)⟩]
def r_89_10 : List SOper := [⟨some 37, none, .mv (.tmp 10)⟩,
  ⟨some 38, none, .mv (.tmp 9)⟩,
  ⟨some 39, none, .conv .u64 (.tmp 38)⟩,
  ⟨some 40, none, .mv (.tmp 12)⟩,
  ⟨some 41, none, .conv .u64 (.tmp 40)⟩,
  ⟨some 42, none, .bin 0 .mul (.tmp 39) (.tmp 41)⟩,
  ⟨some 43, none, .mv (.tmp 7)⟩,
  ⟨some 44, none, .mv (.tmp 8)⟩,
  ⟨some 45, none, .mv (.tmp 11)⟩,
  ⟨some 46, none, .bin 0 .add (.tmp 44) (.tmp 45)⟩,
  ⟨some 47, none, .ia 1 (.tmp 43) (.tmp 46)⟩,
  ⟨some 48, none, .load false 1 (.tmp 47)⟩,
  ⟨some 49, none, .conv .u64 (.tmp 48)⟩,
  ⟨some 50, none, .bin 0 .add (.tmp 42) (.tmp 49)⟩,
  ⟨some 51, none, .bin 0 .add (.tmp 37) (.tmp 50)⟩,
  ⟨some 10, none, .mv (.tmp 51)⟩]
def r_89_11 : List SOper := [⟨some 52, none, .mv (.tmp 7)⟩,
  ⟨some 53, none, .mv (.tmp 8)⟩,
  ⟨some 54, none, .mv (.tmp 11)⟩,
  ⟨some 55, none, .bin 0 .add (.tmp 53) (.tmp 54)⟩,
  ⟨some 56, none, .mv (.tmp 10)⟩,
  ⟨some 57, none, .call f_125 [(.tmp 56)] true⟩,
  ⟨some 58, none, .ia 1 (.tmp 52) (.tmp 55)⟩,
  ⟨none, none, .store 1 (.tmp 58) (.tmp 57)⟩]
def r_89_12 : List SOper := [⟨some 59, none, .mv (.tmp 10)⟩,
  ⟨some 60, none, .bin 0 .shr (.tmp 59) (.const (.int .u64 32))⟩,
  ⟨some 10, none, .mv (.tmp 60)⟩]
def r_89_13 : List SOper := [⟨some 61, none, .bin 0 .add (.tmp 32) (.const (.int .i64 1))⟩,
  ⟨some 32, none, .mv (.tmp 61)⟩]
def r_89_14 : List SOper := [⟨some 62, none, .mv (.tmp 7)⟩,
  ⟨some 63, none, .mv (.tmp 8)⟩,
  ⟨some 64, none, .mv (.tmp 6)⟩,
  ⟨some 65, none, .len (.tmp 64)⟩,
  ⟨some 66, none, .bin 0 .add (.tmp 63) (.tmp 65)⟩,
  ⟨some 67, none, .mv (.tmp 10)⟩,
  ⟨some 68, none, .call f_125 [(.tmp 67)] true⟩,
  ⟨some 69, none, .ia 1 (.tmp 62) (.tmp 66)⟩,
  ⟨none, none, .store 1 (.tmp 69) (.tmp 68)⟩]
def r_89_15 : List SOper := [⟨some 70, none, .bin 0 .add (.tmp 25) (.const (.int .i64 1))⟩,
  ⟨some 25, none, .mv (.tmp 70)⟩]
def r_89_16 : List SOper := [⟨some 71, none, .load true 2 (.tmp 2)⟩,
  ⟨some 72, none, .call f_120 [(.tmp 71)] false⟩,
  ⟨some 73, none, .load true 2 (.tmp 3)⟩,
  ⟨some 74, none, .call f_120 [(.tmp 73)] true⟩,
  ⟨some 75, none, .bin 1 .neq (.tmp 72) (.tmp 74)⟩,
  ⟨some 76, none, .mv (.tmp 7)⟩,
  ⟨some 77, none, .call f_121 [(.tmp 75), (.tmp 76)] true⟩,
  ⟨none, none, .store 2 (.tmp 4) (.tmp 77)⟩]
def s_89 : SFun := ⟨2, 78, [.cell 4 true 2],
  (.seq (.reg r_89_0) (.seq (.draw r_89_1 [0, 1, 0, 7, 15, 31] []) (.seq (.reg r_89_2) (.seq (.seq (.reg r_89_3) (.block 0 (.loop (.seq (.reg r_89_4) (.seq (.cond (.tmp 26) .skip (.exit 0)) (.seq (.block 1 (.seq (.reg r_89_5) (.seq (.reg r_89_6) (.seq (.seq (.reg r_89_7) (.block 2 (.loop (.seq (.reg r_89_8) (.seq (.cond (.tmp 33) .skip (.exit 2)) (.seq (.block 3 (.seq (.reg r_89_9) (.seq (.reg r_89_10) (.seq (.reg r_89_11) (.reg r_89_12))))) (.reg r_89_13))))))) (.reg r_89_14))))) (.reg r_89_15))))))) (.seq (.draw r_89_16 [0, 1, 0, 7, 15, 0, 63, 127] []) .ret)))))⟩

def r_90_0 : List SOper := [⟨some 2, none, .alloc T_api_Rat [(.bool false), (.slice none 0 0), (.bool false), (.slice none 0 0)]⟩]
def r_90_1 : List SOper := [⟨some 3, none, .mv (.tmp 0)⟩,
  ⟨some 4, none, .call f_126 [(.tmp 3)] true⟩,
  ⟨some 5, none, .call f_117 [] true⟩,
  ⟨some 6, none, .build [(.bool false), (.slice none 0 0), (.bool false), (.slice none 0 0)] [(0, 2, (.tmp 4)), (2, 2, (.tmp 5))]⟩,
  ⟨none, none, .store 4 (.tmp 2) (.tmp 6)⟩]
def s_90 : SFun := ⟨1, 7, [.cell 2 true 4],
  (.seq (.reg r_90_0) (.seq (.reg r_90_1) .ret))⟩

def r_91_0 : List SOper := [⟨some 2, none, .box T_api_Rat (.tmp 0)⟩,
  ⟨some 3, none, .box T_api_Rat (.tmp 1)⟩,
  ⟨some 4, none, .alloc T_api_Rat [(.bool false), (.slice none 0 0), (.bool false), (.slice none 0 0)]⟩]
def r_91_1 : List SOper := [⟨some 5, none, .load true 4 (.tmp 2)⟩,
  ⟨some 6, none, .call f_85 [(.tmp 5)] false⟩,
  ⟨some 7, none, .load true 4 (.tmp 3)⟩,
  ⟨some 8, none, .call f_85 [(.tmp 7)] true⟩,
  ⟨none, none, .store 4 (.tmp 2) (.tmp 6)⟩,
  ⟨none, none, .store 4 (.tmp 3) (.tmp 8)⟩]
def r_91_2 : List SOper := [⟨some 9, none, .fa 0 (.tmp 2)⟩,
  ⟨some 10, none, .load true 2 (.tmp 9)⟩,
  ⟨some 11, none, .fa 0 (.tmp 3)⟩,
  ⟨some 12, none, .load true 2 (.tmp 11)⟩,
  ⟨some 13, none, .call f_89 [(.tmp 10), (.tmp 12)] false⟩,
  ⟨some 14, none, .fa 2 (.tmp 2)⟩,
  ⟨some 15, none, .load true 2 (.tmp 14)⟩,
  ⟨some 16, none, .fa 2 (.tmp 3)⟩,
  ⟨some 17, none, .load true 2 (.tmp 16)⟩,
  ⟨some 18, none, .call f_89 [(.tmp 15), (.tmp 17)] true⟩,
  ⟨some 19, none, .call f_86 [(.tmp 13), (.tmp 18)] true⟩,
  ⟨none, none, .store 4 (.tmp 4) (.tmp 19)⟩]
def s_91 : SFun := ⟨2, 20, [.cell 4 true 4],
  (.seq (.reg r_91_0) (.seq (.draw r_91_1 [0, 1, 0, 7, 15, 31] []) (.seq (.draw r_91_2 [0, 1, 0, 4, 15, 0, 32, 0, 128, 511, 1023, 2047] []) .ret)))⟩

def r_92_0 : List SOper := [⟨some 1, none, .box T_api_Ext (.tmp 0)⟩,
  ⟨some 2, none, .alloc T_api_Ext [(.int .i64 0), (.bool false), (.slice none 0 0), (.bool false), (.slice none 0 0)]⟩]
def r_92_1 : List SOper := [⟨some 4, none, .load true 5 (.tmp 1)⟩,
  ⟨some 5, none, .call f_63 [(.tmp 4)] true⟩,
  ⟨some 6, none, .un .not (.tmp 5)⟩,
  ⟨some 3, none, .mv (.tmp 6)⟩]
def r_92_2 : List SOper := [⟨some 7, none, .build [(.bool false), (.slice none 0 0), (.bool false), (.slice none 0 0)] []⟩,
  ⟨some 8, none, .call f_54 [(.tmp 7)] true⟩,
  ⟨none, none, .store 5 (.tmp 2) (.tmp 8)⟩]
def r_92_3 : List SOper := [⟨some 10, none, .fa 0 (.tmp 1)⟩,
  ⟨some 11, none, .load false 1 (.tmp 10)⟩,
  ⟨some 12, none, .bin 0 .eql (.tmp 11) (.const (.int .i64 0))⟩,
  ⟨some 9, none, .mv (.tmp 12)⟩]
def r_92_4 : List SOper := [⟨some 13, none, .fa 1 (.tmp 1)⟩,
  ⟨some 14, none, .load true 4 (.tmp 13)⟩,
  ⟨some 15, none, .call f_54 [(.tmp 14)] true⟩,
  ⟨none, none, .store 5 (.tmp 2) (.tmp 15)⟩]
def r_92_5 : List SOper := [⟨some 16, none, .fa 0 (.tmp 1)⟩,
  ⟨some 17, none, .load false 1 (.tmp 16)⟩,
  ⟨some 18, none, .build [(.int .i64 0), (.bool false), (.slice none 0 0), (.bool false), (.slice none 0 0)] [(0, 1, (.tmp 17))]⟩,
  ⟨none, none, .store 5 (.tmp 2) (.tmp 18)⟩]
def s_92 : SFun := ⟨1, 19, [.cell 2 true 5],
  (.seq (.reg r_92_0) (.seq (.block 0 (.seq (.reg r_92_1) (.cond (.tmp 3) (.seq (.reg r_92_2) .ret) (.seq (.reg r_92_3) (.cond (.tmp 9) (.seq (.reg r_92_4) .ret) .skip))))) (.seq (.reg r_92_5) .ret)))⟩

def r_93_0 : List SOper := [⟨some 2, none, .box T_api_Rat (.tmp 0)⟩,
  ⟨some 3, none, .box T_api_Rat (.tmp 1)⟩,
  ⟨some 4, none, .mv (.const (.int .i64 0))⟩]
def r_93_1 : List SOper := [⟨some 5, none, .load true 4 (.tmp 2)⟩,
  ⟨some 6, none, .call f_85 [(.tmp 5)] false⟩,
  ⟨some 7, none, .load true 4 (.tmp 3)⟩,
  ⟨some 8, none, .call f_85 [(.tmp 7)] true⟩,
  ⟨none, none, .store 4 (.tmp 2) (.tmp 6)⟩,
  ⟨none, none, .store 4 (.tmp 3) (.tmp 8)⟩]
def r_93_2 : List SOper := [⟨some 9, none, .fa 0 (.tmp 2)⟩,
  ⟨some 10, none, .load true 2 (.tmp 9)⟩,
  ⟨some 11, none, .fa 2 (.tmp 3)⟩,
  ⟨some 12, none, .load true 2 (.tmp 11)⟩,
  ⟨some 13, none, .call f_89 [(.tmp 10), (.tmp 12)] false⟩,
  ⟨some 14, none, .fa 0 (.tmp 3)⟩,
  ⟨some 15, none, .load true 2 (.tmp 14)⟩,
  ⟨some 16, none, .fa 2 (.tmp 2)⟩,
  ⟨some 17, none, .load true 2 (.tmp 16)⟩,
  ⟨some 18, none, .call f_89 [(.tmp 15), (.tmp 17)] true⟩,
  ⟨some 19, none, .call f_127 [(.tmp 13), (.tmp 18)] true⟩,
  ⟨some 4, none, .mv (.tmp 19)⟩]
def s_93 : SFun := ⟨2, 20, [.tmp 4],
  (.seq (.reg r_93_0) (.seq (.draw r_93_1 [0, 1, 0, 7, 15, 31] []) (.seq (.draw r_93_2 [0, 1, 0, 4, 15, 0, 32, 0, 128, 511, 1023, 2047] []) .ret)))⟩

def r_94_0 : List SOper := [⟨some 2, none, .box T_api_Rat (.tmp 0)⟩,
  ⟨some 3, none, .box T_api_Rat (.tmp 1)⟩,
  ⟨some 4, none, .mv (.const (.bool false))⟩]
def r_94_1 : List SOper := [⟨some 5, none, .fa 0 (.tmp 2)⟩,
  ⟨some 6, none, .load true 2 (.tmp 5)⟩,
  ⟨some 7, none, .fa 0 (.tmp 3)⟩,
  ⟨some 8, none, .load true 2 (.tmp 7)⟩,
  ⟨some 9, none, .call f_128 [(.tmp 6), (.tmp 8)] true⟩,
  ⟨some 10, none, .mv (.tmp 9)⟩,
  ⟨some 11, some (10, true), .fa 2 (.tmp 2)⟩,
  ⟨some 12, some (10, true), .load true 2 (.tmp 11)⟩,
  ⟨some 13, some (10, true), .fa 2 (.tmp 3)⟩,
  ⟨some 14, some (10, true), .load true 2 (.tmp 13)⟩,
  ⟨some 15, some (10, true), .call f_128 [(.tmp 12), (.tmp 14)] true⟩,
  ⟨some 16, none, .pick (.tmp 10) (.tmp 15) (.const (.bool false))⟩,
  ⟨some 4, none, .mv (.tmp 16)⟩]
def s_94 : SFun := ⟨2, 17, [.tmp 4],
  (.seq (.reg r_94_0) (.seq (.reg r_94_1) .ret))⟩

def r_97_0 : List SOper := [⟨some 1, none, .box T_api_Rat (.tmp 0)⟩,
  ⟨some 2, none, .mv (.const (.bool false))⟩]
def r_97_1 : List SOper := [⟨some 3, none, .load true 4 (.tmp 1)⟩,
  ⟨some 4, none, .call f_116 [(.tmp 3)] true⟩]
def r_97_2 : List SOper := [⟨some 2, none, .mv (.const (.bool true))⟩]
def r_97_3 : List SOper := [⟨some 5, none, .fa 0 (.tmp 1)⟩,
  ⟨some 6, none, .load true 2 (.tmp 5)⟩,
  ⟨some 7, none, .call f_131 [(.tmp 6)] true⟩,
  ⟨some 8, none, .mv (.tmp 7)⟩,
  ⟨some 9, some (8, true), .fa 2 (.tmp 1)⟩,
  ⟨some 10, some (8, true), .load true 2 (.tmp 9)⟩,
  ⟨some 11, some (8, true), .call f_131 [(.tmp 10)] true⟩,
  ⟨some 12, none, .pick (.tmp 8) (.tmp 11) (.const (.bool false))⟩,
  ⟨some 13, none, .mv (.tmp 12)⟩,
  ⟨some 14, some (13, true), .fa 2 (.tmp 1)⟩,
  ⟨some 15, some (13, true), .fa 0 (.tmp 14)⟩,
  ⟨some 16, some (13, true), .load false 1 (.tmp 15)⟩,
  ⟨some 17, some (13, true), .un .not (.tmp 16)⟩,
  ⟨some 18, none, .pick (.tmp 13) (.tmp 17) (.const (.bool false))⟩,
  ⟨some 19, none, .mv (.tmp 18)⟩,
  ⟨some 20, some (19, true), .fa 2 (.tmp 1)⟩,
  ⟨some 21, some (19, true), .load true 2 (.tmp 20)⟩,
  ⟨some 22, some (19, true), .call f_132 [(.tmp 21)] true⟩,
  ⟨some 23, some (19, true), .un .not (.tmp 22)⟩,
  ⟨some 24, none, .pick (.tmp 19) (.tmp 23) (.const (.bool false))⟩,
  ⟨some 25, none, .mv (.tmp 24)⟩,
  ⟨some 26, some (25, true), .fa 0 (.tmp 1)⟩,
  ⟨some 27, some (25, true), .load true 2 (.tmp 26)⟩,
  ⟨some 28, some (25, true), .fa 2 (.tmp 1)⟩,
  ⟨some 29, some (25, true), .load true 2 (.tmp 28)⟩,
  ⟨some 30, some (25, true), .call f_133 [(.tmp 27), (.tmp 29)] true⟩,
  ⟨some 31, some (25, true), .call f_117 [] true⟩,
  ⟨some 32, some (25, true), .call f_127 [(.tmp 30), (.tmp 31)] true⟩,
  ⟨some 33, some (25, true), .bin 0 .eql (.tmp 32) (.const (.int .i64 0))⟩,
  ⟨some 34, none, .pick (.tmp 25) (.tmp 33) (.const (.bool false))⟩,
  ⟨some 2, none, .mv (.tmp 34)⟩]
def s_97 : SFun := ⟨1, 35, [.tmp 2],
  (.seq (.reg r_97_0) (.seq (.seq (.reg r_97_1) (.cond (.tmp 4) (.seq (.reg r_97_2) .ret) .skip)) (.seq (.reg r_97_3) .ret)))⟩

def r_98_0 : List SOper := [⟨some 4, none, .mv (.const (.int .i64 0))⟩]
def r_98_1 : List SOper := [⟨some 6, none, .mv (.tmp 0)⟩,
  ⟨some 7, none, .len (.tmp 6)⟩,
  ⟨some 8, none, .mv (.const (.int .i64 0))⟩]
def r_98_2 : List SOper := [⟨some 9, none, .bin 0 .lss (.tmp 8) (.tmp 7)⟩]
def r_98_3 : List SOper := [⟨some 10, none, .mv (.tmp 8)⟩,
  ⟨some 5, none, .mv (.tmp 10)⟩]
def r_98_4 : List SOper := [⟨some 11, none, .mv (.tmp 1)⟩,
  ⟨some 12, none, .mv (.tmp 0)⟩,
  ⟨some 13, none, .mv (.tmp 5)⟩,
  ⟨some 14, none, .ia 5 (.tmp 12) (.tmp 13)⟩,
  ⟨some 15, none, .load true 5 (.tmp 14)⟩,
  ⟨some 16, none, .callv (.tmp 11) [(.tmp 15)] true⟩]
def r_98_5 : List SOper := [⟨some 17, none, .mv (.tmp 5)⟩,
  ⟨some 4, none, .mv (.tmp 17)⟩]
def r_98_6 : List SOper := [⟨some 18, none, .bin 0 .add (.tmp 8) (.const (.int .i64 1))⟩,
  ⟨some 8, none, .mv (.tmp 18)⟩]
def r_98_7 : List SOper := [⟨some 4, none, .mv (.const (.int .i64 (-1)))⟩]
def s_98 : SFun := ⟨2, 19, [.tmp 4],
  (.seq (.reg r_98_0) (.seq (.seq (.reg r_98_1) (.block 0 (.loop (.seq (.reg r_98_2) (.seq (.cond (.tmp 9) .skip (.exit 0)) (.seq (.block 1 (.seq (.reg r_98_3) (.seq (.reg r_98_4) (.cond (.tmp 16) (.seq (.reg r_98_5) .ret) .skip)))) (.reg r_98_6))))))) (.seq (.reg r_98_7) .ret)))⟩

def r_99_0 : List SOper := [⟨some 1, none, .box T_api_Rat (.tmp 0)⟩,
  ⟨some 2, none, .mv (.const (.bool false))⟩]
def r_99_1 : List SOper := [⟨some 3, none, .fa 0 (.tmp 1)⟩,
  ⟨some 4, none, .fa 0 (.tmp 3)⟩,
  ⟨some 5, none, .load false 1 (.tmp 4)⟩,
  ⟨some 6, none, .un .not (.tmp 5)⟩,
  ⟨some 7, none, .mv (.tmp 6)⟩,
  ⟨some 8, some (7, true), .fa 0 (.tmp 1)⟩,
  ⟨some 9, some (7, true), .fa 1 (.tmp 8)⟩,
  ⟨some 10, some (7, true), .load false 1 (.tmp 9)⟩,
  ⟨some 11, some (7, true), .len (.tmp 10)⟩,
  ⟨some 12, some (7, true), .bin 0 .eql (.tmp 11) (.const (.int .i64 0))⟩,
  ⟨some 13, none, .pick (.tmp 7) (.tmp 12) (.const (.bool false))⟩,
  ⟨some 14, none, .mv (.tmp 13)⟩,
  ⟨some 15, some (14, true), .fa 2 (.tmp 1)⟩,
  ⟨some 16, some (14, true), .fa 0 (.tmp 15)⟩,
  ⟨some 17, some (14, true), .load false 1 (.tmp 16)⟩,
  ⟨some 18, some (14, true), .un .not (.tmp 17)⟩,
  ⟨some 19, none, .pick (.tmp 14) (.tmp 18) (.const (.bool false))⟩,
  ⟨some 20, none, .mv (.tmp 19)⟩,
  ⟨some 21, some (20, true), .fa 2 (.tmp 1)⟩,
  ⟨some 22, some (20, true), .fa 1 (.tmp 21)⟩,
  ⟨some 23, some (20, true), .load false 1 (.tmp 22)⟩,
  ⟨some 24, some (20, true), .len (.tmp 23)⟩,
  ⟨some 25, some (20, true), .bin 0 .eql (.tmp 24) (.const (.int .i64 0))⟩,
  ⟨some 26, none, .pick (.tmp 20) (.tmp 25) (.const (.bool false))⟩,
  ⟨some 2, none, .mv (.tmp 26)⟩]
def s_99 : SFun := ⟨1, 27, [.tmp 2],
  (.seq (.reg r_99_0) (.seq (.reg r_99_1) .ret))⟩

def r_100_0 : List SOper := [⟨some 4, none, .mv (.const (.int .i64 0))⟩]
def r_100_1 : List SOper := [⟨some 6, none, .mv (.tmp 0)⟩,
  ⟨some 7, none, .len (.tmp 6)⟩,
  ⟨some 8, none, .mv (.const (.int .i64 0))⟩]
def r_100_2 : List SOper := [⟨some 9, none, .bin 0 .lss (.tmp 8) (.tmp 7)⟩]
def r_100_3 : List SOper := [⟨some 10, none, .mv (.tmp 8)⟩,
  ⟨some 5, none, .mv (.tmp 10)⟩]
def r_100_4 : List SOper := [⟨some 11, none, .mv (.tmp 1)⟩,
  ⟨some 12, none, .mv (.tmp 0)⟩,
  ⟨some 13, none, .mv (.tmp 5)⟩,
  ⟨some 14, none, .ia 1 (.tmp 12) (.tmp 13)⟩,
  ⟨some 15, none, .load false 1 (.tmp 14)⟩,
  ⟨some 16, none, .bin 1 .eql (.tmp 11) (.tmp 15)⟩]
def r_100_5 : List SOper := [⟨some 17, none, .mv (.tmp 5)⟩,
  ⟨some 4, none, .mv (.tmp 17)⟩]
def r_100_6 : List SOper := [⟨some 18, none, .bin 0 .add (.tmp 8) (.const (.int .i64 1))⟩,
  ⟨some 8, none, .mv (.tmp 18)⟩]
def r_100_7 : List SOper := [⟨some 4, none, .mv (.const (.int .i64 (-1)))⟩]
def s_100 : SFun := ⟨2, 19, [.tmp 4],
  (.seq (.reg r_100_0) (.seq (.seq (.reg r_100_1) (.block 0 (.loop (.seq (.reg r_100_2) (.seq (.cond (.tmp 9) .skip (.exit 0)) (.seq (.block 1 (.seq (.reg r_100_3) (.seq (.reg r_100_4) (.cond (.tmp 16) (.seq (.reg r_100_5) .ret) .skip)))) (.reg r_100_6))))))) (.seq (.reg r_100_7) .ret)))⟩

def r_101_0 : List SOper := [⟨some 3, none, .box T_api_Ext (.tmp 0)⟩,
  ⟨some 4, none, .box T_api_Ext (.tmp 1)⟩,
  ⟨some 6, none, .alloc T_api_Ext [(.int .i64 0), (.bool false), (.slice none 0 0), (.bool false), (.slice none 0 0)]⟩]
def r_101_1 : List SOper := [⟨some 7, none, .mv (.tmp 2)⟩,
  ⟨some 8, none, .load true 5 (.tmp 3)⟩,
  ⟨some 9, none, .load true 5 (.tmp 4)⟩,
  ⟨some 10, none, .callv (.tmp 7) [(.tmp 8), (.tmp 9)] true⟩]
def r_101_2 : List SOper := [⟨some 11, none, .load true 5 (.tmp 4)⟩,
  ⟨none, none, .store 5 (.tmp 6) (.tmp 11)⟩]
def r_101_3 : List SOper := [⟨some 12, none, .load true 5 (.tmp 3)⟩,
  ⟨none, none, .store 5 (.tmp 6) (.tmp 12)⟩]
def s_101 : SFun := ⟨3, 13, [.cell 6 true 5],
  (.seq (.reg r_101_0) (.seq (.seq (.reg r_101_1) (.cond (.tmp 10) (.seq (.reg r_101_2) .ret) .skip)) (.seq (.reg r_101_3) .ret)))⟩

def r_102_0 : List SOper := [⟨some 2, none, .box T_api_Ext (.tmp 0)⟩,
  ⟨some 3, none, .box T_api_Ext (.tmp 1)⟩,
  ⟨some 4, none, .mv (.const (.bool false))⟩]
def r_102_1 : List SOper := [⟨some 5, none, .load true 5 (.tmp 2)⟩,
  ⟨some 6, none, .load true 5 (.tmp 3)⟩,
  ⟨some 7, none, .call f_53 [(.tmp 5), (.tmp 6)] true⟩,
  ⟨some 8, none, .bin 0 .lss (.tmp 7) (.const (.int .i64 0))⟩,
  ⟨some 4, none, .mv (.tmp 8)⟩]
def s_102 : SFun := ⟨2, 9, [.tmp 4],
  (.seq (.reg r_102_0) (.seq (.reg r_102_1) .ret))⟩

def r_103_0 : List SOper := [⟨some 2, none, .box T_api_Ext (.tmp 0)⟩,
  ⟨some 3, none, .box T_api_Ext (.tmp 1)⟩,
  ⟨some 4, none, .mv (.const (.bool false))⟩]
def r_103_1 : List SOper := [⟨some 5, none, .load true 5 (.tmp 2)⟩,
  ⟨some 6, none, .load true 5 (.tmp 3)⟩,
  ⟨some 7, none, .call f_53 [(.tmp 5), (.tmp 6)] true⟩,
  ⟨some 8, none, .bin 0 .gtr (.tmp 7) (.const (.int .i64 0))⟩,
  ⟨some 4, none, .mv (.tmp 8)⟩]
def s_103 : SFun := ⟨2, 9, [.tmp 4],
  (.seq (.reg r_103_0) (.seq (.reg r_103_1) .ret))⟩

def r_107_0 : List SOper := [⟨some 2, none, .mv (.const (.slice none 0 0))⟩]
def r_107_1 : List SOper := [⟨some 4, none, .mv (.tmp 0)⟩,
  ⟨some 5, none, .len (.tmp 4)⟩,
  ⟨some 3, none, .mv (.tmp 5)⟩]
def r_107_2 : List SOper := [⟨some 6, none, .mv (.tmp 3)⟩,
  ⟨some 7, none, .bin 0 .gtr (.tmp 6) (.const (.int .i64 0))⟩,
  ⟨some 8, none, .mv (.tmp 7)⟩,
  ⟨some 9, some (8, true), .mv (.tmp 0)⟩,
  ⟨some 10, some (8, true), .mv (.tmp 3)⟩,
  ⟨some 11, some (8, true), .bin 0 .sub (.tmp 10) (.const (.int .i64 1))⟩,
  ⟨some 12, some (8, true), .ia 1 (.tmp 9) (.tmp 11)⟩,
  ⟨some 13, some (8, true), .load false 1 (.tmp 12)⟩,
  ⟨some 14, some (8, true), .bin 0 .eql (.tmp 13) (.const (.int .u32 0))⟩,
  ⟨some 15, none, .pick (.tmp 8) (.tmp 14) (.const (.bool false))⟩]
def r_107_3 : List SOper := [⟨some 16, none, .mv (.tmp 3)⟩,
  ⟨some 17, none, .bin 0 .sub (.tmp 16) (.const (.int .i64 1))⟩,
  ⟨some 3, none, .mv (.tmp 17)⟩]
def r_107_4 : List SOper := [⟨some 18, none, .mv (.tmp 0)⟩,
  ⟨some 19, none, .mv (.tmp 3)⟩,
  ⟨some 20, none, .sl T_uint32 1 (.tmp 18) none (some (.tmp 19)) none⟩,
  ⟨some 2, none, .mv (.tmp 20)⟩]
def s_107 : SFun := ⟨1, 21, [.tmp 2],
  (.seq (.reg r_107_0) (.seq (.reg r_107_1) (.seq (.block 0 (.loop (.seq (.seq (.reg r_107_2) (.cond (.tmp 15) .skip (.exit 0))) (.block 1 (.reg r_107_3))))) (.seq (.reg r_107_4) .ret))))⟩

def r_108_0 : List SOper := [⟨some 4, none, .mv (.const (.bool false))⟩]
def r_108_1 : List SOper := [⟨some 5, none, .mv (.tmp 0)⟩,
  ⟨some 6, none, .mv (.tmp 1)⟩,
  ⟨some 7, none, .call f_135 [(.tmp 5), (.tmp 6)] true⟩,
  ⟨some 8, none, .bin 0 .geq (.tmp 7) (.const (.int .i64 0))⟩,
  ⟨some 4, none, .mv (.tmp 8)⟩]
def s_108 : SFun := ⟨2, 9, [.tmp 4],
  (.seq (.reg r_108_0) (.seq (.reg r_108_1) .ret))⟩

def r_109_0 : List SOper := [⟨some 3, none, .mv (.const (.bool false))⟩]
def r_109_1 : List SOper := [⟨some 4, none, .mv (.tmp 0)⟩,
  ⟨some 5, none, .len (.tmp 4)⟩,
  ⟨some 6, none, .fa 0 (.tmp 1)⟩,
  ⟨some 7, none, .load false 1 (.tmp 6)⟩,
  ⟨some 8, none, .bin 0 .neq (.tmp 5) (.tmp 7)⟩,
  ⟨some 3, none, .mv (.tmp 8)⟩]
def s_109 : SFun := ⟨2, 9, [.tmp 3],
  (.seq (.reg r_109_0) (.seq (.reg r_109_1) .ret))⟩

def r_110_0 : List SOper := [⟨some 1, none, .box T_api_LP (.tmp 0)⟩,
  ⟨some 2, none, .alloc T_simplex_scaled [(.int .i64 0), (.slice none 0 0), (.slice none 0 0), (.slice none 0 0), (.bool false), (.slice none 0 0), (.bool false), (.slice none 0 0)]⟩]
def r_110_1 : List SOper := [⟨some 8, none, .fa 0 (.tmp 1)⟩,
  ⟨some 9, none, .load false 1 (.tmp 8)⟩,
  ⟨some 10, none, .build [(.int .i64 0), (.slice none 0 0), (.slice none 0 0), (.slice none 0 0), (.bool false), (.slice none 0 0), (.bool false), (.slice none 0 0)] [(0, 1, (.tmp 9))]⟩,
  ⟨some 3, none, .alloc T_simplex_scaled [(.int .i64 0), (.slice none 0 0), (.slice none 0 0), (.slice none 0 0), (.bool false), (.slice none 0 0), (.bool false), (.slice none 0 0)]⟩,
  ⟨none, none, .store 8 (.tmp 3) (.tmp 10)⟩]
def r_110_2 : List SOper := [⟨some 11, none, .fa 1 (.tmp 1)⟩,
  ⟨some 12, none, .load false 1 (.tmp 11)⟩,
  ⟨some 13, none, .len (.tmp 12)⟩,
  ⟨some 14, none, .mv (.const (.int .i64 0))⟩]
def r_110_3 : List SOper := [⟨some 15, none, .bin 0 .lss (.tmp 14) (.tmp 13)⟩]
def r_110_4 : List SOper := [⟨some 16, none, .mv (.tmp 14)⟩,
  ⟨some 17, none, .ia 1 (.tmp 12) (.tmp 14)⟩,
  ⟨some 18, none, .load false 1 (.tmp 17)⟩,
  ⟨some 4, none, .mv (.tmp 16)⟩,
  ⟨some 5, none, .mv (.tmp 18)⟩]
def r_110_5 : List SOper := [⟨some 20, none, .mv (.tmp 5)⟩,
  ⟨some 21, none, .call f_137 [(.tmp 20)] false⟩,
  ⟨some 22, none, .fa 2 (.tmp 1)⟩,
  ⟨some 23, none, .load false 1 (.tmp 22)⟩,
  ⟨some 24, none, .mv (.tmp 4)⟩,
  ⟨some 25, none, .ia 4 (.tmp 23) (.tmp 24)⟩,
  ⟨some 26, none, .load true 4 (.tmp 25)⟩,
  ⟨some 27, none, .build [(.bool false), (.slice none 0 0), (.bool false), (.slice none 0 0)] []⟩,
  ⟨some 28, none, .call f_51 [(.tmp 26), (.tmp 27)] false⟩,
  ⟨some 29, none, .lit T_api_Rat [(.bool false), (.slice none 0 0), (.bool false), (.slice none 0 0)] 1 [(0, 4, (.tmp 28))]⟩,
  ⟨some 30, none, .app T_api_Rat 4 64 (.tmp 21) (.tmp 29)⟩,
  ⟨some 31, none, .call f_136 [(.tmp 30)] false⟩,
  ⟨some 19, none, .mv (.tmp 31)⟩,
  ⟨some 32, none, .ext (.tmp 19) 0⟩,
  ⟨some 33, none, .ext (.tmp 19) 1⟩,
  ⟨some 7, none, .alloc T_api_Rat [(.bool false), (.slice none 0 0), (.bool false), (.slice none 0 0)]⟩,
  ⟨some 6, none, .mv (.tmp 32)⟩,
  ⟨none, none, .store 4 (.tmp 7) (.tmp 33)⟩]
def r_110_6 : List SOper := [⟨some 34, none, .fa 1 (.tmp 3)⟩,
  ⟨some 35, none, .load false 1 (.tmp 34)⟩,
  ⟨some 36, none, .mv (.tmp 6)⟩,
  ⟨some 37, none, .lit T_sl_api_Int [(.slice none 0 0)] 1 [(0, 1, (.tmp 36))]⟩,
  ⟨some 38, none, .app T_sl_api_Int 1 24 (.tmp 35) (.tmp 37)⟩,
  ⟨some 39, none, .fa 2 (.tmp 3)⟩,
  ⟨some 40, none, .load false 1 (.tmp 39)⟩,
  ⟨some 41, none, .load true 4 (.tmp 7)⟩,
  ⟨some 42, none, .lit T_api_Rat [(.bool false), (.slice none 0 0), (.bool false), (.slice none 0 0)] 1 [(0, 4, (.tmp 41))]⟩,
  ⟨some 43, none, .app T_api_Rat 4 64 (.tmp 40) (.tmp 42)⟩,
  ⟨some 44, none, .fa 1 (.tmp 3)⟩,
  ⟨none, none, .store 1 (.tmp 44) (.tmp 38)⟩,
  ⟨some 45, none, .fa 2 (.tmp 3)⟩,
  ⟨none, none, .store 1 (.tmp 45) (.tmp 43)⟩]
def r_110_7 : List SOper := [⟨some 46, none, .bin 0 .add (.tmp 14) (.const (.int .i64 1))⟩,
  ⟨some 14, none, .mv (.tmp 46)⟩]
def r_110_8 : List SOper := [⟨some 48, none, .fa 3 (.tmp 1)⟩,
  ⟨some 49, none, .load false 1 (.tmp 48)⟩,
  ⟨some 50, none, .call f_137 [(.tmp 49)] true⟩,
  ⟨some 51, none, .call f_136 [(.tmp 50)] true⟩,
  ⟨some 47, none, .mv (.tmp 51)⟩,
  ⟨some 52, none, .ext (.tmp 47) 0⟩,
  ⟨some 53, none, .ext (.tmp 47) 1⟩,
  ⟨some 54, none, .fa 3 (.tmp 3)⟩,
  ⟨none, none, .store 1 (.tmp 54) (.tmp 52)⟩,
  ⟨some 55, none, .fa 4 (.tmp 3)⟩,
  ⟨none, none, .store 4 (.tmp 55) (.tmp 53)⟩]
def r_110_9 : List SOper := [⟨some 56, none, .load true 8 (.tmp 3)⟩,
  ⟨none, none, .store 8 (.tmp 2) (.tmp 56)⟩]
def s_110 : SFun := ⟨1, 57, [.cell 2 true 8],
  (.seq (.reg r_110_0) (.seq (.reg r_110_1) (.seq (.seq (.reg r_110_2) (.block 0 (.loop (.seq (.reg r_110_3) (.seq (.cond (.tmp 15) .skip (.exit 0)) (.seq (.block 1 (.seq (.reg r_110_4) (.seq (.draw r_110_5 [0, 1, 0, 4, 0, 28, 60, 0, 255, 511, 1023, 2047, 4095, 8191, 8191, 0, 49151, 131071] [(10, 15)]) (.draw r_110_6 [0, 1, 0, 4, 15, 0, 32, 0, 128, 511, 127, 2047, 4095, 8191] [(4, 6), (4, 7), (4, 8)])))) (.reg r_110_7))))))) (.seq (.reg r_110_8) (.seq (.reg r_110_9) .ret)))))⟩

def r_112_0 : List SOper := [⟨some 3, none, .box T_simplex_all (.tmp 0)⟩,
  ⟨some 4, none, .box T_api_LP (.tmp 1)⟩,
  ⟨some 5, none, .box T_simplex_scaled (.tmp 2)⟩,
  ⟨some 6, none, .alloc T_api_Answer [(.int .i64 0), (.bool false), (.slice none 0 0), (.bool false), (.slice none 0 0), (.slice none 0 0), (.slice none 0 0), (.slice none 0 0)]⟩,
  ⟨some 7, none, .mv (.const (.int .i64 0))⟩]
def r_112_1 : List SOper := [⟨some 16, none, .load true 0 (.tmp 3)⟩,
  ⟨some 17, none, .load true 8 (.tmp 5)⟩,
  ⟨some 18, none, .call f_140 [(.tmp 16), (.tmp 17)] true⟩,
  ⟨some 8, none, .alloc T_simplex_tableau_api_Int_simplex_all [(.pointer none)]⟩,
  ⟨none, none, .store 1 (.tmp 8) (.tmp 18)⟩]
def r_112_2 : List SOper := [⟨some 19, none, .load false 1 (.tmp 8)⟩,
  ⟨some 20, none, .chk (.tmp 19)⟩,
  ⟨some 21, none, .fa 1 (.tmp 20)⟩,
  ⟨some 22, none, .load false 1 (.tmp 21)⟩,
  ⟨some 23, none, .load false 1 (.tmp 8)⟩,
  ⟨some 24, none, .chk (.tmp 23)⟩,
  ⟨some 25, none, .fa 1 (.tmp 24)⟩,
  ⟨some 26, none, .load false 1 (.tmp 25)⟩,
  ⟨some 27, none, .bin 0 .add (.tmp 26) (.const (.int .i64 1))⟩,
  ⟨some 9, none, .mv (.tmp 22)⟩,
  ⟨some 10, none, .mv (.tmp 27)⟩]
def r_112_3 : List SOper := [⟨some 28, none, .load false 1 (.tmp 8)⟩,
  ⟨some 29, none, .mv (.tmp 9)⟩,
  ⟨some 30, none, .call f_141 [(.tmp 28), (.tmp 29)] true⟩]
def r_112_4 : List SOper := [⟨some 31, none, .load false 1 (.tmp 8)⟩,
  ⟨some 32, none, .chk (.tmp 31)⟩,
  ⟨some 33, none, .fa0 T_simplex_tableau_api_Int_simplex_all_150 (.tmp 32)⟩,
  ⟨some 34, none, .load true 0 (.tmp 33)⟩,
  ⟨some 35, none, .iface T_simplex_all (.tmp 34)⟩,
  ⟨some 36, none, .load false 1 (.tmp 8)⟩,
  ⟨some 37, none, .chk (.tmp 36)⟩,
  ⟨some 38, none, .fa 3 (.tmp 37)⟩,
  ⟨some 39, none, .load false 1 (.tmp 38)⟩,
  ⟨some 40, none, .mv (.tmp 9)⟩,
  ⟨some 41, none, .ia 1 (.tmp 39) (.tmp 40)⟩,
  ⟨some 42, none, .load false 1 (.tmp 41)⟩,
  ⟨some 43, none, .load false 1 (.tmp 8)⟩,
  ⟨some 44, none, .chk (.tmp 43)⟩,
  ⟨some 45, none, .fa 2 (.tmp 44)⟩,
  ⟨some 46, none, .load false 1 (.tmp 45)⟩,
  ⟨some 47, none, .ia 2 (.tmp 42) (.tmp 46)⟩,
  ⟨some 48, none, .load true 2 (.tmp 47)⟩,
  ⟨some 49, none, .inv (.tmp 35) [(T_simplex_all, f_205), (T_simplex_few, f_212)] [(.tmp 48)] true⟩,
  ⟨some 50, none, .bin 0 .lss (.tmp 49) (.const (.int .i64 0))⟩]
def r_112_5 : List SOper := [⟨some 51, none, .call f_90 [(.const (.int .i64 0))] false⟩,
  ⟨some 52, none, .load false 1 (.tmp 8)⟩,
  ⟨some 53, none, .mv (.tmp 9)⟩,
  ⟨some 54, none, .load true 8 (.tmp 5)⟩,
  ⟨some 55, none, .call f_90 [(.const (.int .i64 1))] false⟩,
  ⟨some 56, none, .call f_142 [(.tmp 52), (.tmp 53), (.tmp 54), (.tmp 55)] false⟩,
  ⟨some 57, none, .build [(.int .i64 0), (.bool false), (.slice none 0 0), (.bool false), (.slice none 0 0), (.slice none 0 0), (.slice none 0 0), (.slice none 0 0)] [(0, 1, (.const (.int .i64 2))), (1, 4, (.tmp 51)), (6, 1, (.tmp 56))]⟩,
  ⟨some 58, none, .load false 1 (.tmp 8)⟩,
  ⟨some 59, none, .chk (.tmp 58)⟩,
  ⟨some 60, none, .fa 7 (.tmp 59)⟩,
  ⟨some 61, none, .load false 1 (.tmp 60)⟩,
  ⟨none, none, .store 8 (.tmp 6) (.tmp 57)⟩,
  ⟨some 7, none, .mv (.tmp 61)⟩]
def r_112_6 : List SOper := [⟨some 62, none, .load false 1 (.tmp 8)⟩,
  ⟨some 63, none, .call f_143 [(.tmp 62)] true⟩]
def r_112_7 : List SOper := [⟨some 64, none, .load false 1 (.tmp 8)⟩,
  ⟨some 65, none, .mv (.tmp 10)⟩,
  ⟨some 66, none, .call f_141 [(.tmp 64), (.tmp 65)] true⟩,
  ⟨some 11, none, .mv (.tmp 66)⟩]
def r_112_8 : List SOper := [⟨some 67, none, .load false 1 (.tmp 8)⟩,
  ⟨some 68, none, .mkfn (.func f_145) [] [(.tmp 8)]⟩,
  ⟨some 69, none, .call f_144 [(.tmp 67), (.tmp 68)] true⟩,
  ⟨some 12, none, .mv (.tmp 69)⟩]
def r_112_9 : List SOper := [⟨some 70, none, .mv (.tmp 11)⟩,
  ⟨some 71, none, .bin 0 .geq (.tmp 70) (.const (.int .i64 0))⟩]
def r_112_10 : List SOper := [⟨some 72, none, .call f_90 [(.const (.int .i64 0))] false⟩,
  ⟨some 73, none, .mv (.tmp 12)⟩,
  ⟨some 74, none, .load false 1 (.tmp 8)⟩,
  ⟨some 75, none, .mv (.tmp 11)⟩,
  ⟨some 76, none, .call f_146 [(.tmp 74), (.tmp 75)] false⟩,
  ⟨some 77, none, .build [(.int .i64 0), (.bool false), (.slice none 0 0), (.bool false), (.slice none 0 0), (.slice none 0 0), (.slice none 0 0), (.slice none 0 0)] [(0, 1, (.const (.int .i64 3))), (1, 4, (.tmp 72)), (5, 1, (.tmp 73)), (7, 1, (.tmp 76))]⟩,
  ⟨some 78, none, .load false 1 (.tmp 8)⟩,
  ⟨some 79, none, .chk (.tmp 78)⟩,
  ⟨some 80, none, .fa 7 (.tmp 79)⟩,
  ⟨some 81, none, .load false 1 (.tmp 80)⟩,
  ⟨none, none, .store 8 (.tmp 6) (.tmp 77)⟩,
  ⟨some 7, none, .mv (.tmp 81)⟩]
def r_112_11 : List SOper := [⟨some 82, none, .call f_90 [(.const (.int .i64 0))] true⟩,
  ⟨some 13, none, .alloc T_api_Rat [(.bool false), (.slice none 0 0), (.bool false), (.slice none 0 0)]⟩,
  ⟨none, none, .store 4 (.tmp 13) (.tmp 82)⟩]
def r_112_12 : List SOper := [⟨some 83, none, .fa 3 (.tmp 4)⟩,
  ⟨some 84, none, .load false 1 (.tmp 83)⟩,
  ⟨some 85, none, .len (.tmp 84)⟩,
  ⟨some 86, none, .mv (.const (.int .i64 0))⟩]
def r_112_13 : List SOper := [⟨some 87, none, .bin 0 .lss (.tmp 86) (.tmp 85)⟩]
def r_112_14 : List SOper := [⟨some 88, none, .mv (.tmp 86)⟩,
  ⟨some 89, none, .ia 4 (.tmp 84) (.tmp 86)⟩,
  ⟨some 90, none, .load true 4 (.tmp 89)⟩,
  ⟨some 15, none, .alloc T_api_Rat [(.bool false), (.slice none 0 0), (.bool false), (.slice none 0 0)]⟩,
  ⟨some 14, none, .mv (.tmp 88)⟩,
  ⟨none, none, .store 4 (.tmp 15) (.tmp 90)⟩]
def r_112_15 : List SOper := [⟨some 91, none, .load true 4 (.tmp 13)⟩,
  ⟨some 92, none, .load true 4 (.tmp 15)⟩,
  ⟨some 93, none, .mv (.tmp 12)⟩,
  ⟨some 94, none, .mv (.tmp 14)⟩,
  ⟨some 95, none, .ia 4 (.tmp 93) (.tmp 94)⟩,
  ⟨some 96, none, .load true 4 (.tmp 95)⟩,
  ⟨some 97, none, .call f_91 [(.tmp 92), (.tmp 96)] false⟩,
  ⟨some 98, none, .call f_51 [(.tmp 91), (.tmp 97)] true⟩,
  ⟨none, none, .store 4 (.tmp 13) (.tmp 98)⟩]
def r_112_16 : List SOper := [⟨some 99, none, .bin 0 .add (.tmp 86) (.const (.int .i64 1))⟩,
  ⟨some 86, none, .mv (.tmp 99)⟩]
def r_112_17 : List SOper := [⟨some 100, none, .load true 4 (.tmp 13)⟩,
  ⟨some 101, none, .mv (.tmp 12)⟩,
  ⟨some 102, none, .load false 1 (.tmp 8)⟩,
  ⟨some 103, none, .mv (.tmp 10)⟩,
  ⟨some 104, none, .load true 8 (.tmp 5)⟩,
  ⟨some 105, none, .fa 4 (.tmp 5)⟩,
  ⟨some 106, none, .load true 4 (.tmp 105)⟩,
  ⟨some 107, none, .call f_142 [(.tmp 102), (.tmp 103), (.tmp 104), (.tmp 106)] false⟩,
  ⟨some 108, none, .build [(.int .i64 0), (.bool false), (.slice none 0 0), (.bool false), (.slice none 0 0), (.slice none 0 0), (.slice none 0 0), (.slice none 0 0)] [(0, 1, (.const (.int .i64 1))), (1, 4, (.tmp 100)), (5, 1, (.tmp 101)), (6, 1, (.tmp 107))]⟩,
  ⟨some 109, none, .load false 1 (.tmp 8)⟩,
  ⟨some 110, none, .chk (.tmp 109)⟩,
  ⟨some 111, none, .fa 7 (.tmp 110)⟩,
  ⟨some 112, none, .load false 1 (.tmp 111)⟩,
  ⟨none, none, .store 8 (.tmp 6) (.tmp 108)⟩,
  ⟨some 7, none, .mv (.tmp 112)⟩]
def s_112 : SFun := ⟨3, 113, [.cell 6 true 8, .tmp 7],
  (.seq (.reg r_112_0) (.seq (.reg r_112_1) (.seq (.draw r_112_2 [0, 1, 3, 7, 0, 16, 48, 112, 240, 15, 1023] []) (.seq (.reg r_112_3) (.seq (.seq (.draw r_112_4 [0, 1, 3, 7, 15, 0, 32, 96, 224, 0, 992, 2016, 0, 4096, 12288, 28672, 65504, 131040, 262143, 524287] []) (.cond (.tmp 50) (.seq (.draw r_112_5 [0, 0, 0, 0, 1, 31, 63, 0, 128, 384, 896, 127, 4095] [(7, 11), (10, 11)]) .ret) .skip)) (.seq (.reg r_112_6) (.seq (.reg r_112_7) (.seq (.reg r_112_8) (.seq (.seq (.reg r_112_9) (.cond (.tmp 71) (.seq (.draw r_112_10 [0, 0, 0, 0, 13, 31, 0, 64, 192, 448, 63, 2047] [(6, 10), (9, 10)]) .ret) .skip)) (.seq (.reg r_112_11) (.seq (.seq (.reg r_112_12) (.block 0 (.loop (.seq (.reg r_112_13) (.seq (.cond (.tmp 87) .skip (.exit 0)) (.seq (.block 1 (.seq (.reg r_112_14) (.draw r_112_15 [0, 0, 0, 0, 12, 28, 62, 127, 255] []))) (.reg r_112_16))))))) (.seq (.draw r_112_17 [0, 0, 0, 0, 0, 0, 32, 124, 255, 0, 512, 1536, 3584, 511, 16383] [(9, 13), (12, 13)]) .ret))))))))))))⟩

def r_116_0 : List SOper := [⟨some 1, none, .box T_api_Rat (.tmp 0)⟩,
  ⟨some 2, none, .mv (.const (.bool false))⟩]
def r_116_1 : List SOper := [⟨some 3, none, .fa 0 (.tmp 1)⟩,
  ⟨some 4, none, .fa 0 (.tmp 3)⟩,
  ⟨some 5, none, .load false 1 (.tmp 4)⟩,
  ⟨some 6, none, .un .not (.tmp 5)⟩,
  ⟨some 7, none, .mv (.tmp 6)⟩,
  ⟨some 8, some (7, true), .fa 0 (.tmp 1)⟩,
  ⟨some 9, some (7, true), .fa 1 (.tmp 8)⟩,
  ⟨some 10, some (7, true), .load false 1 (.tmp 9)⟩,
  ⟨some 11, some (7, true), .len (.tmp 10)⟩,
  ⟨some 12, some (7, true), .bin 0 .eql (.tmp 11) (.const (.int .i64 0))⟩,
  ⟨some 13, none, .pick (.tmp 7) (.tmp 12) (.const (.bool false))⟩,
  ⟨some 14, none, .mv (.tmp 13)⟩,
  ⟨some 15, some (14, true), .fa 2 (.tmp 1)⟩,
  ⟨some 16, some (14, true), .fa 0 (.tmp 15)⟩,
  ⟨some 17, some (14, true), .load false 1 (.tmp 16)⟩,
  ⟨some 18, some (14, true), .un .not (.tmp 17)⟩,
  ⟨some 19, none, .pick (.tmp 14) (.tmp 18) (.const (.bool false))⟩,
  ⟨some 20, none, .mv (.tmp 19)⟩,
  ⟨some 21, some (20, true), .fa 2 (.tmp 1)⟩,
  ⟨some 22, some (20, true), .fa 1 (.tmp 21)⟩,
  ⟨some 23, some (20, true), .load false 1 (.tmp 22)⟩,
  ⟨some 24, some (20, true), .len (.tmp 23)⟩,
  ⟨some 25, some (20, true), .bin 0 .eql (.tmp 24) (.const (.int .i64 0))⟩,
  ⟨some 26, none, .pick (.tmp 20) (.tmp 25) (.const (.bool false))⟩,
  ⟨some 2, none, .mv (.tmp 26)⟩]
def s_116 : SFun := ⟨1, 27, [.tmp 2],
  (.seq (.reg r_116_0) (.seq (.reg r_116_1) .ret))⟩

def r_117_0 : List SOper := [⟨some 0, none, .alloc T_api_Int [(.bool false), (.slice none 0 0)]⟩]
def r_117_1 : List SOper := [⟨some 1, none, .call f_126 [(.const (.int .i64 1))] true⟩,
  ⟨none, none, .store 2 (.tmp 0) (.tmp 1)⟩]
def s_117 : SFun := ⟨0, 2, [.cell 0 true 2],
  (.seq (.reg r_117_0) (.seq (.reg r_117_1) .ret))⟩

def r_118_0 : List SOper := [⟨some 2, none, .box T_api_Int (.tmp 0)⟩,
  ⟨some 3, none, .box T_api_Int (.tmp 1)⟩,
  ⟨some 4, none, .alloc T_api_Rat [(.bool false), (.slice none 0 0), (.bool false), (.slice none 0 0)]⟩,
  ⟨some 5, none, .mv (.const (.int .i64 0))⟩]
def r_118_1 : List SOper := [⟨some 7, none, .load true 2 (.tmp 3)⟩,
  ⟨some 8, none, .call f_132 [(.tmp 7)] true⟩]
def r_118_2 : List SOper := [⟨some 9, none, .build [(.bool false), (.slice none 0 0), (.bool false), (.slice none 0 0)] []⟩,
  ⟨none, none, .store 4 (.tmp 4) (.tmp 9)⟩,
  ⟨some 5, none, .mv (.const (.int .i64 11))⟩]
def r_118_3 : List SOper := [⟨some 10, none, .load true 2 (.tmp 2)⟩,
  ⟨some 11, none, .load true 2 (.tmp 3)⟩,
  ⟨some 12, none, .call f_133 [(.tmp 10), (.tmp 11)] true⟩,
  ⟨some 6, none, .alloc T_api_Int [(.bool false), (.slice none 0 0)]⟩,
  ⟨none, none, .store 2 (.tmp 6) (.tmp 12)⟩]
def r_118_4 : List SOper := [⟨some 13, none, .load true 2 (.tmp 3)⟩,
  ⟨some 14, none, .build [(.bool false), (.slice none 0 0)] []⟩,
  ⟨some 15, none, .call f_127 [(.tmp 13), (.tmp 14)] true⟩,
  ⟨some 16, none, .bin 0 .lss (.tmp 15) (.const (.int .i64 0))⟩]
def r_118_5 : List SOper := [⟨some 17, none, .load true 2 (.tmp 6)⟩,
  ⟨some 18, none, .call f_151 [(.tmp 17)] true⟩,
  ⟨none, none, .store 2 (.tmp 6) (.tmp 18)⟩]
def r_118_6 : List SOper := [⟨some 20, none, .load true 2 (.tmp 2)⟩,
  ⟨some 21, none, .load true 2 (.tmp 6)⟩,
  ⟨some 22, none, .call f_152 [(.tmp 20), (.tmp 21)] true⟩,
  ⟨some 19, none, .mv (.tmp 22)⟩,
  ⟨some 23, none, .ext (.tmp 19) 0⟩,
  ⟨some 24, none, .ext (.tmp 19) 1⟩,
  ⟨some 25, none, .ext (.tmp 19) 2⟩,
  ⟨none, none, .store 2 (.tmp 2) (.tmp 23)⟩]
def r_118_7 : List SOper := [⟨some 27, none, .load true 2 (.tmp 3)⟩,
  ⟨some 28, none, .load true 2 (.tmp 6)⟩,
  ⟨some 29, none, .call f_152 [(.tmp 27), (.tmp 28)] true⟩,
  ⟨some 26, none, .mv (.tmp 29)⟩,
  ⟨some 30, none, .ext (.tmp 26) 0⟩,
  ⟨some 31, none, .ext (.tmp 26) 1⟩,
  ⟨some 32, none, .ext (.tmp 26) 2⟩,
  ⟨none, none, .store 2 (.tmp 3) (.tmp 30)⟩]
def r_118_8 : List SOper := [⟨some 33, none, .load true 2 (.tmp 2)⟩,
  ⟨some 34, none, .load true 2 (.tmp 3)⟩,
  ⟨some 35, none, .build [(.bool false), (.slice none 0 0), (.bool false), (.slice none 0 0)] [(0, 2, (.tmp 33)), (2, 2, (.tmp 34))]⟩,
  ⟨none, none, .store 4 (.tmp 4) (.tmp 35)⟩,
  ⟨some 5, none, .mv (.const (.int .i64 0))⟩]
def s_118 : SFun := ⟨2, 36, [.cell 4 true 4, .tmp 5],
  (.seq (.reg r_118_0) (.seq (.seq (.reg r_118_1) (.cond (.tmp 8) (.seq (.reg r_118_2) .ret) .skip)) (.seq (.reg r_118_3) (.seq (.seq (.reg r_118_4) (.cond (.tmp 16) (.reg r_118_5) .skip)) (.seq (.reg r_118_6) (.seq (.reg r_118_7) (.seq (.reg r_118_8) .ret)))))))⟩

def r_119_0 : List SOper := [⟨some 1, none, .box T_api_Int (.tmp 0)⟩,
  ⟨some 2, none, .mv (.const (.slice none 0 0))⟩]
def r_119_1 : List SOper := [⟨some 3, none, .load true 2 (.tmp 1)⟩,
  ⟨some 4, none, .call f_131 [(.tmp 3)] true⟩,
  ⟨some 5, none, .un .not (.tmp 4)⟩]
def r_119_2 : List SOper := [⟨some 2, none, .mv (.const (.slice none 0 0))⟩]
def r_119_3 : List SOper := [⟨some 6, none, .fa 1 (.tmp 1)⟩,
  ⟨some 7, none, .load false 1 (.tmp 6)⟩,
  ⟨some 2, none, .mv (.tmp 7)⟩]
def s_119 : SFun := ⟨1, 8, [.tmp 2],
  (.seq (.reg r_119_0) (.seq (.seq (.reg r_119_1) (.cond (.tmp 5) (.seq (.reg r_119_2) .ret) .skip)) (.seq (.reg r_119_3) .ret)))⟩

def r_120_0 : List SOper := [⟨some 1, none, .box T_api_Int (.tmp 0)⟩,
  ⟨some 2, none, .mv (.const (.bool false))⟩]
def r_120_1 : List SOper := [⟨some 3, none, .load true 2 (.tmp 1)⟩,
  ⟨some 4, none, .call f_131 [(.tmp 3)] true⟩,
  ⟨some 5, none, .mv (.tmp 4)⟩,
  ⟨some 6, some (5, true), .fa 0 (.tmp 1)⟩,
  ⟨some 7, some (5, true), .load false 1 (.tmp 6)⟩,
  ⟨some 8, none, .pick (.tmp 5) (.tmp 7) (.const (.bool false))⟩,
  ⟨some 2, none, .mv (.tmp 8)⟩]
def s_120 : SFun := ⟨1, 9, [.tmp 2],
  (.seq (.reg r_120_0) (.seq (.reg r_120_1) .ret))⟩

def r_121_0 : List SOper := [⟨some 4, none, .alloc T_api_Int [(.bool false), (.slice none 0 0)]⟩]
def r_121_1 : List SOper := [⟨some 6, none, .mv (.tmp 1)⟩,
  ⟨some 7, none, .len (.tmp 6)⟩,
  ⟨some 5, none, .mv (.tmp 7)⟩]
def r_121_2 : List SOper := [⟨some 8, none, .mv (.tmp 5)⟩,
  ⟨some 9, none, .bin 0 .gtr (.tmp 8) (.const (.int .i64 0))⟩,
  ⟨some 10, none, .mv (.tmp 9)⟩,
  ⟨some 11, some (10, true), .mv (.tmp 1)⟩,
  ⟨some 12, some (10, true), .mv (.tmp 5)⟩,
  ⟨some 13, some (10, true), .bin 0 .sub (.tmp 12) (.const (.int .i64 1))⟩,
  ⟨some 14, some (10, true), .ia 1 (.tmp 11) (.tmp 13)⟩,
  ⟨some 15, some (10, true), .load false 1 (.tmp 14)⟩,
  ⟨some 16, some (10, true), .bin 0 .eql (.tmp 15) (.const (.int .u32 0))⟩,
  ⟨some 17, none, .pick (.tmp 10) (.tmp 16) (.const (.bool false))⟩]
def r_121_3 : List SOper := [⟨some 18, none, .mv (.tmp 5)⟩,
  ⟨some 19, none, .bin 0 .sub (.tmp 18) (.const (.int .i64 1))⟩,
  ⟨some 5, none, .mv (.tmp 19)⟩]
def r_121_4 : List SOper := [⟨some 20, none, .mv (.tmp 5)⟩,
  ⟨some 21, none, .bin 0 .eql (.tmp 20) (.const (.int .i64 0))⟩]
def r_121_5 : List SOper := [⟨some 22, none, .build [(.bool false), (.slice none 0 0)] []⟩,
  ⟨none, none, .store 2 (.tmp 4) (.tmp 22)⟩]
def r_121_6 : List SOper := [⟨some 23, none, .mv (.tmp 0)⟩,
  ⟨some 24, none, .mv (.tmp 1)⟩,
  ⟨some 25, none, .mv (.tmp 5)⟩,
  ⟨some 26, none, .sl T_uint32 1 (.tmp 24) none (some (.tmp 25)) none⟩,
  ⟨some 27, none, .call f_153 [(.tmp 26)] true⟩,
  ⟨some 28, none, .build [(.bool false), (.slice none 0 0)] [(0, 1, (.tmp 23)), (1, 1, (.tmp 27))]⟩,
  ⟨none, none, .store 2 (.tmp 4) (.tmp 28)⟩]
def s_121 : SFun := ⟨2, 29, [.cell 4 true 2],
  (.seq (.reg r_121_0) (.seq (.reg r_121_1) (.seq (.block 0 (.loop (.seq (.seq (.reg r_121_2) (.cond (.tmp 17) .skip (.exit 0))) (.block 1 (.reg r_121_3))))) (.seq (.seq (.reg r_121_4) (.cond (.tmp 21) (.seq (.reg r_121_5) .ret) .skip)) (.seq (.reg r_121_6) .ret)))))⟩

def r_122_0 : List SOper := [⟨some 4, none, .mv (.const (.slice none 0 0))⟩]
def r_122_1 : List SOper := [⟨some 9, none, .mv (.tmp 0)⟩,
  ⟨some 10, none, .len (.tmp 9)⟩,
  ⟨some 11, none, .mv (.tmp 1)⟩,
  ⟨some 12, none, .len (.tmp 11)⟩,
  ⟨some 13, none, .bin 0 .lss (.tmp 10) (.tmp 12)⟩]
def r_122_2 : List SOper := [⟨some 14, none, .mv (.tmp 1)⟩,
  ⟨some 15, none, .mv (.tmp 0)⟩,
  ⟨some 0, none, .mv (.tmp 14)⟩,
  ⟨some 1, none, .mv (.tmp 15)⟩]
def r_122_3 : List SOper := [⟨some 16, none, .mv (.tmp 0)⟩,
  ⟨some 17, none, .len (.tmp 16)⟩,
  ⟨some 18, none, .bin 0 .add (.tmp 17) (.const (.int .i64 1))⟩,
  ⟨some 19, none, .mk T_uint32 4 [(.int .u32 0)] (.const (.int .i64 0)) (.tmp 18)⟩,
  ⟨some 5, none, .mv (.tmp 19)⟩]
def r_122_4 : List SOper := [⟨some 6, none, .mv (.const (.int .u64 0))⟩]
def r_122_5 : List SOper := [⟨some 20, none, .mv (.tmp 0)⟩,
  ⟨some 21, none, .len (.tmp 20)⟩,
  ⟨some 22, none, .mv (.const (.int .i64 0))⟩]
def r_122_6 : List SOper := [⟨some 23, none, .bin 0 .lss (.tmp 22) (.tmp 21)⟩]
def r_122_7 : List SOper := [⟨some 24, none, .mv (.tmp 22)⟩,
  ⟨some 25, none, .ia 1 (.tmp 20) (.tmp 22)⟩,
  ⟨some 26, none, .load false 1 (.tmp 25)⟩,
  ⟨some 7, none, .mv (.tmp 24)⟩,
  ⟨some 8, none, .mv (.tmp 26)⟩]
def r_122_8 : List SOper := [⟨some 27, none, .mv (.tmp 6)⟩,
  ⟨some 28, none, .mv (.tmp 8)⟩,
  ⟨some 29, none, .conv .u64 (.tmp 28)⟩,
  ⟨some 30, none, .bin 0 .add (.tmp 27) (.tmp 29)⟩,
  ⟨some 6, none, .mv (.tmp 30)⟩]
def r_122_9 : List SOper := [⟨some 31, none, .mv (.tmp 7)⟩,
  ⟨some 32, none, .mv (.tmp 1)⟩,
  ⟨some 33, none, .len (.tmp 32)⟩,
  ⟨some 34, none, .bin 0 .lss (.tmp 31) (.tmp 33)⟩]
def r_122_10 : List SOper := [⟨some 35, none, .mv (.tmp 6)⟩,
  ⟨some 36, none, .mv (.tmp 1)⟩,
  ⟨some 37, none, .mv (.tmp 7)⟩,
  ⟨some 38, none, .ia 1 (.tmp 36) (.tmp 37)⟩,
  ⟨some 39, none, .load false 1 (.tmp 38)⟩,
  ⟨some 40, none, .conv .u64 (.tmp 39)⟩,
  ⟨some 41, none, .bin 0 .add (.tmp 35) (.tmp 40)⟩,
  ⟨some 6, none, .mv (.tmp 41)⟩]
def r_122_11 : List SOper := [⟨some 42, none, .mv (.tmp 5)⟩,
  ⟨some 43, none, .mv (.tmp 6)⟩,
  ⟨some 44, none, .call f_125 [(.tmp 43)] true⟩,
  ⟨some 45, none, .lit T_uint32 [(.int .u32 0)] 1 [(0, 1, (.tmp 44))]⟩,
  ⟨some 46, none, .app T_uint32 1 4 (.tmp 42) (.tmp 45)⟩,
  ⟨some 5, none, .mv (.tmp 46)⟩]
def r_122_12 : List SOper := [⟨some 47, none, .mv (.tmp 6)⟩,
  ⟨some 48, none, .bin 0 .shr (.tmp 47) (.const (.int .u64 32))⟩,
  ⟨some 6, none, .mv (.tmp 48)⟩]
def r_122_13 : List SOper := [⟨some 49, none, .bin 0 .add (.tmp 22) (.const (.int .i64 1))⟩,
  ⟨some 22, none, .mv (.tmp 49)⟩]
def r_122_14 : List SOper := [⟨some 50, none, .mv (.tmp 5)⟩,
  ⟨some 51, none, .mv (.tmp 6)⟩,
  ⟨some 52, none, .call f_125 [(.tmp 51)] true⟩,
  ⟨some 53, none, .lit T_uint32 [(.int .u32 0)] 1 [(0, 1, (.tmp 52))]⟩,
  ⟨some 54, none, .app T_uint32 1 4 (.tmp 50) (.tmp 53)⟩,
  ⟨some 4, none, .mv (.tmp 54)⟩]
def s_122 : SFun := ⟨2, 55, [.tmp 4],
  (.seq (.reg r_122_0) (.seq (.seq (.reg r_122_1) (.cond (.tmp 13) (.reg r_122_2) .skip)) (.seq (.reg r_122_3) (.seq (.reg r_122_4) (.seq (.seq (.reg r_122_5) (.block 0 (.loop (.seq (.reg r_122_6) (.seq (.cond (.tmp 23) .skip (.exit 0)) (.seq (.block 1 (.seq (.reg r_122_7) (.seq (.reg r_122_8) (.seq (.seq (.reg r_122_9) (.cond (.tmp 34) (.reg r_122_10) .skip)) (.seq (.reg r_122_11) (.reg r_122_12)))))) (.reg r_122_13))))))) (.seq (.reg r_122_14) .ret))))))⟩

def r_123_0 : List SOper := [⟨some 4, none, .mv (.const (.int .i64 0))⟩]
def r_123_1 : List SOper := [⟨some 6, none, .mv (.tmp 0)⟩,
  ⟨some 7, none, .len (.tmp 6)⟩,
  ⟨some 8, none, .mv (.tmp 1)⟩,
  ⟨some 9, none, .len (.tmp 8)⟩,
  ⟨some 10, none, .bin 0 .neq (.tmp 7) (.tmp 9)⟩]
def r_123_2 : List SOper := [⟨some 11, none, .mv (.tmp 0)⟩,
  ⟨some 12, none, .len (.tmp 11)⟩,
  ⟨some 13, none, .mv (.tmp 1)⟩,
  ⟨some 14, none, .len (.tmp 13)⟩,
  ⟨some 15, none, .call f_154 [(.tmp 12), (.tmp 14)] true⟩,
  ⟨some 4, none, .mv (.tmp 15)⟩]
def r_123_3 : List SOper := [⟨some 16, none, .mv (.tmp 0)⟩,
  ⟨some 17, none, .len (.tmp 16)⟩,
  ⟨some 18, none, .bin 0 .sub (.tmp 17) (.const (.int .i64 1))⟩,
  ⟨some 5, none, .mv (.tmp 18)⟩]
def r_123_4 : List SOper := [⟨some 19, none, .mv (.tmp 5)⟩,
  ⟨some 20, none, .bin 0 .geq (.tmp 19) (.const (.int .i64 0))⟩]
def r_123_5 : List SOper := [⟨some 23, none, .mv (.tmp 0)⟩,
  ⟨some 24, none, .mv (.tmp 5)⟩,
  ⟨some 25, none, .ia 1 (.tmp 23) (.tmp 24)⟩,
  ⟨some 26, none, .load false 1 (.tmp 25)⟩,
  ⟨some 27, none, .mv (.tmp 1)⟩,
  ⟨some 28, none, .mv (.tmp 5)⟩,
  ⟨some 29, none, .ia 1 (.tmp 27) (.tmp 28)⟩,
  ⟨some 30, none, .load false 1 (.tmp 29)⟩,
  ⟨some 31, none, .bin 0 .neq (.tmp 26) (.tmp 30)⟩]
def r_123_6 : List SOper := [⟨some 32, none, .mv (.tmp 0)⟩,
  ⟨some 33, none, .mv (.tmp 5)⟩,
  ⟨some 34, none, .ia 1 (.tmp 32) (.tmp 33)⟩,
  ⟨some 35, none, .load false 1 (.tmp 34)⟩,
  ⟨some 36, none, .mv (.tmp 1)⟩,
  ⟨some 37, none, .mv (.tmp 5)⟩,
  ⟨some 38, none, .ia 1 (.tmp 36) (.tmp 37)⟩,
  ⟨some 39, none, .load false 1 (.tmp 38)⟩,
  ⟨some 40, none, .call f_155 [(.tmp 35), (.tmp 39)] true⟩,
  ⟨some 4, none, .mv (.tmp 40)⟩]
def r_123_7 : List SOper := [⟨some 21, none, .mv (.tmp 5)⟩,
  ⟨some 22, none, .bin 0 .sub (.tmp 21) (.const (.int .i64 1))⟩,
  ⟨some 5, none, .mv (.tmp 22)⟩]
def r_123_8 : List SOper := [⟨some 4, none, .mv (.const (.int .i64 0))⟩]
def s_123 : SFun := ⟨2, 41, [.tmp 4],
  (.seq (.reg r_123_0) (.seq (.seq (.reg r_123_1) (.cond (.tmp 10) (.seq (.reg r_123_2) .ret) .skip)) (.seq (.seq (.reg r_123_3) (.block 0 (.loop (.seq (.seq (.reg r_123_4) (.cond (.tmp 20) .skip (.exit 0))) (.seq (.block 1 (.seq (.draw r_123_5 [0, 0, 3, 7, 0, 0, 48, 112, 255] []) (.cond (.tmp 31) (.seq (.draw r_123_6 [0, 0, 3, 7, 0, 0, 48, 112, 255, 511] []) .ret) .skip))) (.reg r_123_7)))))) (.seq (.reg r_123_8) .ret))))⟩

def r_124_0 : List SOper := [⟨some 4, none, .mv (.const (.slice none 0 0))⟩]
def r_124_1 : List SOper := [⟨some 11, none, .mv (.tmp 0)⟩,
  ⟨some 12, none, .len (.tmp 11)⟩,
  ⟨some 13, none, .mk T_uint32 4 [(.int .u32 0)] (.const (.int .i64 0)) (.tmp 12)⟩,
  ⟨some 5, none, .mv (.tmp 13)⟩]
def r_124_2 : List SOper := [⟨some 6, none, .mv (.const (.int .u64 0))⟩]
def r_124_3 : List SOper := [⟨some 14, none, .mv (.tmp 0)⟩,
  ⟨some 15, none, .len (.tmp 14)⟩,
  ⟨some 16, none, .mv (.const (.int .i64 0))⟩]
def r_124_4 : List SOper := [⟨some 17, none, .bin 0 .lss (.tmp 16) (.tmp 15)⟩]
def r_124_5 : List SOper := [⟨some 18, none, .mv (.tmp 16)⟩,
  ⟨some 19, none, .ia 1 (.tmp 14) (.tmp 16)⟩,
  ⟨some 20, none, .load false 1 (.tmp 19)⟩,
  ⟨some 7, none, .mv (.tmp 18)⟩,
  ⟨some 8, none, .mv (.tmp 20)⟩]
def r_124_6 : List SOper := [⟨some 21, none, .mv (.tmp 6)⟩,
  ⟨some 9, none, .mv (.tmp 21)⟩]
def r_124_7 : List SOper := [⟨some 22, none, .mv (.tmp 7)⟩,
  ⟨some 23, none, .mv (.tmp 1)⟩,
  ⟨some 24, none, .len (.tmp 23)⟩,
  ⟨some 25, none, .bin 0 .lss (.tmp 22) (.tmp 24)⟩]
def r_124_8 : List SOper := [⟨some 26, none, .mv (.tmp 9)⟩,
  ⟨some 27, none, .mv (.tmp 1)⟩,
  ⟨some 28, none, .mv (.tmp 7)⟩,
  ⟨some 29, none, .ia 1 (.tmp 27) (.tmp 28)⟩,
  ⟨some 30, none, .load false 1 (.tmp 29)⟩,
  ⟨some 31, none, .conv .u64 (.tmp 30)⟩,
  ⟨some 32, none, .bin 0 .add (.tmp 26) (.tmp 31)⟩,
  ⟨some 9, none, .mv (.tmp 32)⟩]
def r_124_9 : List SOper := [⟨some 33, none, .mv (.tmp 8)⟩,
  ⟨some 34, none, .conv .u64 (.tmp 33)⟩,
  ⟨some 35, none, .mv (.tmp 9)⟩,
  ⟨some 36, none, .bin 0 .sub (.tmp 34) (.tmp 35)⟩,
  ⟨some 10, none, .mv (.tmp 36)⟩]
def r_124_10 : List SOper := [⟨some 37, none, .mv (.tmp 5)⟩,
  ⟨some 38, none, .mv (.tmp 10)⟩,
  ⟨some 39, none, .call f_125 [(.tmp 38)] true⟩,
  ⟨some 40, none, .lit T_uint32 [(.int .u32 0)] 1 [(0, 1, (.tmp 39))]⟩,
  ⟨some 41, none, .app T_uint32 1 4 (.tmp 37) (.tmp 40)⟩,
  ⟨some 5, none, .mv (.tmp 41)⟩]
def r_124_11 : List SOper := [⟨some 42, none, .mv (.tmp 10)⟩,
  ⟨some 43, none, .bin 0 .shr (.tmp 42) (.const (.int .u64 63))⟩,
  ⟨some 6, none, .mv (.tmp 43)⟩]
def r_124_12 : List SOper := [⟨some 44, none, .bin 0 .add (.tmp 16) (.const (.int .i64 1))⟩,
  ⟨some 16, none, .mv (.tmp 44)⟩]
def r_124_13 : List SOper := [⟨some 45, none, .mv (.tmp 5)⟩,
  ⟨some 4, none, .mv (.tmp 45)⟩]
def s_124 : SFun := ⟨2, 46, [.tmp 4],
  (.seq (.reg r_124_0) (.seq (.reg r_124_1) (.seq (.reg r_124_2) (.seq (.seq (.reg r_124_3) (.block 0 (.loop (.seq (.reg r_124_4) (.seq (.cond (.tmp 17) .skip (.exit 0)) (.seq (.block 1 (.seq (.reg r_124_5) (.seq (.reg r_124_6) (.seq (.seq (.reg r_124_7) (.cond (.tmp 25) (.reg r_124_8) .skip)) (.seq (.reg r_124_9) (.seq (.reg r_124_10) (.reg r_124_11))))))) (.reg r_124_12))))))) (.seq (.reg r_124_13) .ret)))))⟩

def r_125_0 : List SOper := [⟨some 2, none, .mv (.const (.int .u32 0))⟩]
def r_125_1 : List SOper := [⟨some 3, none, .mv (.tmp 0)⟩,
  ⟨some 4, none, .conv .u32 (.tmp 3)⟩,
  ⟨some 2, none, .mv (.tmp 4)⟩]
def s_125 : SFun := ⟨1, 5, [.tmp 2],
  (.seq (.reg r_125_0) (.seq (.reg r_125_1) .ret))⟩

def r_126_0 : List SOper := [⟨some 2, none, .alloc T_api_Int [(.bool false), (.slice none 0 0)]⟩]
def r_126_1 : List SOper := [⟨some 4, none, .mv (.tmp 0)⟩,
  ⟨some 5, none, .conv .u64 (.tmp 4)⟩,
  ⟨some 3, none, .mv (.tmp 5)⟩]
def r_126_2 : List SOper := [⟨some 6, none, .mv (.tmp 0)⟩,
  ⟨some 7, none, .bin 0 .lss (.tmp 6) (.const (.int .i64 0))⟩]
def r_126_3 : List SOper := [⟨some 8, none, .mv (.tmp 3)⟩,
  ⟨some 9, none, .un .neg (.tmp 8)⟩,
  ⟨some 3, none, .mv (.tmp 9)⟩]
def r_126_4 : List SOper := [⟨some 10, none, .mv (.tmp 0)⟩,
  ⟨some 11, none, .bin 0 .lss (.tmp 10) (.const (.int .i64 0))⟩,
  ⟨some 12, none, .mv (.tmp 3)⟩,
  ⟨some 13, none, .call f_125 [(.tmp 12)] true⟩,
  ⟨some 14, none, .mv (.tmp 3)⟩,
  ⟨some 15, none, .bin 0 .shr (.tmp 14) (.const (.int .u64 32))⟩,
  ⟨some 16, none, .call f_125 [(.tmp 15)] true⟩,
  ⟨some 17, none, .lit T_uint32 [(.int .u32 0)] 2 [(0, 1, (.tmp 13)), (1, 1, (.tmp 16))]⟩,
  ⟨some 18, none, .call f_121 [(.tmp 11), (.tmp 17)] true⟩,
  ⟨none, none, .store 2 (.tmp 2) (.tmp 18)⟩]
def s_126 : SFun := ⟨1, 19, [.cell 2 true 2],
  (.seq (.reg r_126_0) (.seq (.reg r_126_1) (.seq (.seq (.reg r_126_2) (.cond (.tmp 7) (.reg r_126_3) .skip)) (.seq (.reg r_126_4) .ret))))⟩

def r_127_0 : List SOper := [⟨some 2, none, .box T_api_Int (.tmp 0)⟩,
  ⟨some 3, none, .box T_api_Int (.tmp 1)⟩,
  ⟨some 4, none, .mv (.const (.int .i64 0))⟩]
def r_127_1 : List SOper := [⟨some 6, none, .load true 2 (.tmp 2)⟩,
  ⟨some 7, none, .call f_120 [(.tmp 6)] true⟩,
  ⟨some 8, none, .mv (.tmp 7)⟩,
  ⟨some 9, some (8, true), .load true 2 (.tmp 3)⟩,
  ⟨some 10, some (8, true), .call f_120 [(.tmp 9)] true⟩,
  ⟨some 11, some (8, true), .un .not (.tmp 10)⟩,
  ⟨some 12, none, .pick (.tmp 8) (.tmp 11) (.const (.bool false))⟩,
  ⟨some 5, none, .mv (.tmp 12)⟩]
def r_127_2 : List SOper := [⟨some 4, none, .mv (.const (.int .i64 (-1)))⟩]
def r_127_3 : List SOper := [⟨some 14, none, .load true 2 (.tmp 2)⟩,
  ⟨some 15, none, .call f_120 [(.tmp 14)] true⟩,
  ⟨some 16, none, .un .not (.tmp 15)⟩,
  ⟨some 17, none, .mv (.tmp 16)⟩,
  ⟨some 18, some (17, true), .load true 2 (.tmp 3)⟩,
  ⟨some 19, some (17, true), .call f_120 [(.tmp 18)] true⟩,
  ⟨some 20, none, .pick (.tmp 17) (.tmp 19) (.const (.bool false))⟩,
  ⟨some 13, none, .mv (.tmp 20)⟩]
def r_127_4 : List SOper := [⟨some 4, none, .mv (.const (.int .i64 1))⟩]
def r_127_5 : List SOper := [⟨some 22, none, .load true 2 (.tmp 2)⟩,
  ⟨some 23, none, .call f_120 [(.tmp 22)] true⟩,
  ⟨some 21, none, .mv (.tmp 23)⟩]
def r_127_6 : List SOper := [⟨some 24, none, .load true 2 (.tmp 3)⟩,
  ⟨some 25, none, .call f_119 [(.tmp 24)] false⟩,
  ⟨some 26, none, .load true 2 (.tmp 2)⟩,
  ⟨some 27, none, .call f_119 [(.tmp 26)] true⟩,
  ⟨some 28, none, .call f_123 [(.tmp 25), (.tmp 27)] true⟩,
  ⟨some 4, none, .mv (.tmp 28)⟩]
def r_127_7 : List SOper := [⟨some 29, none, .load true 2 (.tmp 2)⟩,
  ⟨some 30, none, .call f_119 [(.tmp 29)] false⟩,
  ⟨some 31, none, .load true 2 (.tmp 3)⟩,
  ⟨some 32, none, .call f_119 [(.tmp 31)] true⟩,
  ⟨some 33, none, .call f_123 [(.tmp 30), (.tmp 32)] true⟩,
  ⟨some 4, none, .mv (.tmp 33)⟩]
def s_127 : SFun := ⟨2, 34, [.tmp 4],
  (.seq (.reg r_127_0) (.seq (.block 0 (.seq (.reg r_127_1) (.cond (.tmp 5) (.seq (.reg r_127_2) .ret) (.seq (.reg r_127_3) (.cond (.tmp 13) (.seq (.reg r_127_4) .ret) (.seq (.reg r_127_5) (.cond (.tmp 21) (.seq (.draw r_127_6 [0, 1, 0, 7, 15, 31] []) .ret) .skip))))))) (.seq (.draw r_127_7 [0, 1, 0, 7, 15, 31] []) .ret)))⟩

def r_128_0 : List SOper := [⟨some 2, none, .box T_api_Int (.tmp 0)⟩,
  ⟨some 3, none, .box T_api_Int (.tmp 1)⟩,
  ⟨some 4, none, .mv (.const (.bool false))⟩]
def r_128_1 : List SOper := [⟨some 6, none, .fa 0 (.tmp 2)⟩,
  ⟨some 7, none, .load false 1 (.tmp 6)⟩,
  ⟨some 8, none, .fa 0 (.tmp 3)⟩,
  ⟨some 9, none, .load false 1 (.tmp 8)⟩,
  ⟨some 10, none, .bin 1 .neq (.tmp 7) (.tmp 9)⟩,
  ⟨some 11, none, .mv (.tmp 10)⟩,
  ⟨some 12, some (11, false), .fa 1 (.tmp 2)⟩,
  ⟨some 13, some (11, false), .load false 1 (.tmp 12)⟩,
  ⟨some 14, some (11, false), .len (.tmp 13)⟩,
  ⟨some 15, some (11, false), .fa 1 (.tmp 3)⟩,
  ⟨some 16, some (11, false), .load false 1 (.tmp 15)⟩,
  ⟨some 17, some (11, false), .len (.tmp 16)⟩,
  ⟨some 18, some (11, false), .bin 0 .neq (.tmp 14) (.tmp 17)⟩,
  ⟨some 19, none, .pick (.tmp 11) (.const (.bool true)) (.tmp 18)⟩]
def r_128_2 : List SOper := [⟨some 4, none, .mv (.const (.bool false))⟩]
def r_128_3 : List SOper := [⟨some 5, none, .mv (.const (.int .i64 0))⟩]
def r_128_4 : List SOper := [⟨some 20, none, .mv (.tmp 5)⟩,
  ⟨some 21, none, .fa 1 (.tmp 2)⟩,
  ⟨some 22, none, .load false 1 (.tmp 21)⟩,
  ⟨some 23, none, .len (.tmp 22)⟩,
  ⟨some 24, none, .bin 0 .lss (.tmp 20) (.tmp 23)⟩]
def r_128_5 : List SOper := [⟨some 27, none, .fa 1 (.tmp 2)⟩,
  ⟨some 28, none, .load false 1 (.tmp 27)⟩,
  ⟨some 29, none, .mv (.tmp 5)⟩,
  ⟨some 30, none, .ia 1 (.tmp 28) (.tmp 29)⟩,
  ⟨some 31, none, .load false 1 (.tmp 30)⟩,
  ⟨some 32, none, .fa 1 (.tmp 3)⟩,
  ⟨some 33, none, .load false 1 (.tmp 32)⟩,
  ⟨some 34, none, .mv (.tmp 5)⟩,
  ⟨some 35, none, .ia 1 (.tmp 33) (.tmp 34)⟩,
  ⟨some 36, none, .load false 1 (.tmp 35)⟩,
  ⟨some 37, none, .bin 0 .neq (.tmp 31) (.tmp 36)⟩]
def r_128_6 : List SOper := [⟨some 4, none, .mv (.const (.bool false))⟩]
def r_128_7 : List SOper := [⟨some 25, none, .mv (.tmp 5)⟩,
  ⟨some 26, none, .bin 0 .add (.tmp 25) (.const (.int .i64 1))⟩,
  ⟨some 5, none, .mv (.tmp 26)⟩]
def r_128_8 : List SOper := [⟨some 4, none, .mv (.const (.bool true))⟩]
def s_128 : SFun := ⟨2, 38, [.tmp 4],
  (.seq (.reg r_128_0) (.seq (.seq (.reg r_128_1) (.cond (.tmp 19) (.seq (.reg r_128_2) .ret) .skip)) (.seq (.seq (.reg r_128_3) (.block 0 (.loop (.seq (.seq (.reg r_128_4) (.cond (.tmp 24) .skip (.exit 0))) (.seq (.block 1 (.seq (.draw r_128_5 [0, 1, 0, 7, 15, 0, 32, 0, 224, 480, 1023] []) (.cond (.tmp 37) (.seq (.reg r_128_6) .ret) .skip))) (.reg r_128_7)))))) (.seq (.reg r_128_8) .ret))))⟩

def r_131_0 : List SOper := [⟨some 1, none, .box T_api_Int (.tmp 0)⟩,
  ⟨some 2, none, .mv (.const (.bool false))⟩]
def r_131_1 : List SOper := [⟨some 3, none, .fa 1 (.tmp 1)⟩,
  ⟨some 4, none, .load false 1 (.tmp 3)⟩,
  ⟨some 5, none, .len (.tmp 4)⟩,
  ⟨some 6, none, .bin 0 .eql (.tmp 5) (.const (.int .i64 0))⟩]
def r_131_2 : List SOper := [⟨some 7, none, .fa 0 (.tmp 1)⟩,
  ⟨some 8, none, .load false 1 (.tmp 7)⟩,
  ⟨some 9, none, .un .not (.tmp 8)⟩,
  ⟨some 2, none, .mv (.tmp 9)⟩]
def r_131_3 : List SOper := [⟨some 10, none, .fa 1 (.tmp 1)⟩,
  ⟨some 11, none, .load false 1 (.tmp 10)⟩,
  ⟨some 12, none, .fa 1 (.tmp 1)⟩,
  ⟨some 13, none, .load false 1 (.tmp 12)⟩,
  ⟨some 14, none, .len (.tmp 13)⟩,
  ⟨some 15, none, .bin 0 .sub (.tmp 14) (.const (.int .i64 1))⟩,
  ⟨some 16, none, .ia 1 (.tmp 11) (.tmp 15)⟩,
  ⟨some 17, none, .load false 1 (.tmp 16)⟩,
  ⟨some 18, none, .bin 0 .neq (.tmp 17) (.const (.int .u32 0))⟩,
  ⟨some 2, none, .mv (.tmp 18)⟩]
def s_131 : SFun := ⟨1, 19, [.tmp 2],
  (.seq (.reg r_131_0) (.seq (.seq (.reg r_131_1) (.cond (.tmp 6) (.seq (.reg r_131_2) .ret) .skip)) (.seq (.reg r_131_3) .ret)))⟩

def r_132_0 : List SOper := [⟨some 1, none, .box T_api_Int (.tmp 0)⟩,
  ⟨some 2, none, .mv (.const (.bool false))⟩]
def r_132_1 : List SOper := [⟨some 3, none, .load true 2 (.tmp 1)⟩,
  ⟨some 4, none, .build [(.bool false), (.slice none 0 0)] []⟩,
  ⟨some 5, none, .call f_127 [(.tmp 3), (.tmp 4)] true⟩,
  ⟨some 6, none, .bin 0 .eql (.tmp 5) (.const (.int .i64 0))⟩,
  ⟨some 2, none, .mv (.tmp 6)⟩]
def s_132 : SFun := ⟨1, 7, [.tmp 2],
  (.seq (.reg r_132_0) (.seq (.reg r_132_1) .ret))⟩

def r_133_0 : List SOper := [⟨some 2, none, .box T_api_Int (.tmp 0)⟩,
  ⟨some 3, none, .box T_api_Int (.tmp 1)⟩,
  ⟨some 4, none, .alloc T_api_Int [(.bool false), (.slice none 0 0)]⟩]
def r_133_1 : List SOper := [⟨some 10, none, .load true 2 (.tmp 2)⟩,
  ⟨some 11, none, .call f_119 [(.tmp 10)] false⟩,
  ⟨some 12, none, .call f_121 [(.const (.bool false)), (.tmp 11)] false⟩,
  ⟨some 13, none, .load true 2 (.tmp 3)⟩,
  ⟨some 14, none, .call f_119 [(.tmp 13)] false⟩,
  ⟨some 15, none, .call f_121 [(.const (.bool false)), (.tmp 14)] false⟩,
  ⟨some 5, none, .alloc T_api_Int [(.bool false), (.slice none 0 0)]⟩,
  ⟨some 6, none, .alloc T_api_Int [(.bool false), (.slice none 0 0)]⟩,
  ⟨none, none, .store 2 (.tmp 5) (.tmp 12)⟩,
  ⟨none, none, .store 2 (.tmp 6) (.tmp 15)⟩]
def r_133_2 : List SOper := [⟨some 16, none, .fa 1 (.tmp 6)⟩,
  ⟨some 17, none, .load false 1 (.tmp 16)⟩,
  ⟨some 18, none, .len (.tmp 17)⟩,
  ⟨some 19, none, .bin 0 .gtr (.tmp 18) (.const (.int .i64 0))⟩]
def r_133_3 : List SOper := [⟨some 21, none, .load true 2 (.tmp 5)⟩,
  ⟨some 22, none, .load true 2 (.tmp 6)⟩,
  ⟨some 23, none, .call f_152 [(.tmp 21), (.tmp 22)] true⟩,
  ⟨some 20, none, .mv (.tmp 23)⟩,
  ⟨some 24, none, .ext (.tmp 20) 0⟩,
  ⟨some 25, none, .ext (.tmp 20) 1⟩,
  ⟨some 26, none, .ext (.tmp 20) 2⟩,
  ⟨some 7, none, .alloc T_api_Int [(.bool false), (.slice none 0 0)]⟩,
  ⟨some 8, none, .alloc T_api_Int [(.bool false), (.slice none 0 0)]⟩,
  ⟨none, none, .store 2 (.tmp 7) (.tmp 24)⟩,
  ⟨none, none, .store 2 (.tmp 8) (.tmp 25)⟩,
  ⟨some 9, none, .mv (.tmp 26)⟩]
def r_133_4 : List SOper := [⟨some 27, none, .load true 2 (.tmp 6)⟩,
  ⟨some 28, none, .load true 2 (.tmp 8)⟩,
  ⟨none, none, .store 2 (.tmp 5) (.tmp 27)⟩,
  ⟨none, none, .store 2 (.tmp 6) (.tmp 28)⟩]
def r_133_5 : List SOper := [⟨some 29, none, .load true 2 (.tmp 5)⟩,
  ⟨none, none, .store 2 (.tmp 4) (.tmp 29)⟩]
def s_133 : SFun := ⟨2, 30, [.cell 4 true 2],
  (.seq (.reg r_133_0) (.seq (.draw r_133_1 [0, 1, 3, 0, 15, 31, 0, 0, 255, 511] []) (.seq (.block 0 (.loop (.seq (.seq (.reg r_133_2) (.cond (.tmp 19) .skip (.exit 0))) (.block 1 (.seq (.reg r_133_3) (.draw r_133_4 [0, 0, 1, 7] [(1, 2)])))))) (.seq (.reg r_133_5) .ret))))⟩


end Go.Proofs.YtjlohmnnldbjoaaGreat.AI
