/- Part 4 of the proof: AiCode0, AiCode1. -/
import Derived.Test.YtjlohmnnldbjoaaGreatM00
set_option linter.unusedVariables false
set_option linter.unusedSimpArgs false
set_option linter.unusedSectionVars false

/- The small code of the program's functions: printed. -/
namespace Go.Proofs.YtjlohmnnldbjoaaGreat.AI
open Go
abbrev o (d : Nat) (x : SOp) : SOper := ⟨some d, none, x⟩
abbrev og (d g : Nat) (b : Bool) (x : SOp) : SOper := ⟨some d, some (g, b), x⟩
abbrev t (n : Nat) : Opd := .tmp n
abbrev i (n : Int) : Opd := .const (.int .i64 n)

abbrev f_7 : Nat := 7
abbrev f_12 : Nat := 12
abbrev f_13 : Nat := 13
abbrev f_15 : Nat := 15
abbrev f_17 : Nat := 17
abbrev f_18 : Nat := 18
abbrev f_19 : Nat := 19
abbrev f_20 : Nat := 20
abbrev f_24 : Nat := 24
abbrev f_26 : Nat := 26
abbrev f_27 : Nat := 27
abbrev f_28 : Nat := 28
abbrev f_29 : Nat := 29
abbrev f_30 : Nat := 30
abbrev f_31 : Nat := 31
abbrev f_32 : Nat := 32
abbrev f_33 : Nat := 33
abbrev f_34 : Nat := 34
abbrev f_35 : Nat := 35
abbrev f_36 : Nat := 36
abbrev f_37 : Nat := 37
abbrev f_38 : Nat := 38
abbrev f_39 : Nat := 39
abbrev f_40 : Nat := 40
abbrev f_48 : Nat := 48
abbrev f_49 : Nat := 49
abbrev f_50 : Nat := 50
abbrev f_51 : Nat := 51
abbrev f_53 : Nat := 53
abbrev f_54 : Nat := 54
abbrev f_55 : Nat := 55
abbrev f_57 : Nat := 57
abbrev f_58 : Nat := 58
abbrev f_59 : Nat := 59
abbrev f_60 : Nat := 60
abbrev f_61 : Nat := 61
abbrev f_62 : Nat := 62
abbrev f_63 : Nat := 63
abbrev f_64 : Nat := 64
abbrev f_65 : Nat := 65
abbrev f_66 : Nat := 66
abbrev f_67 : Nat := 67
abbrev f_68 : Nat := 68
abbrev f_69 : Nat := 69
abbrev f_70 : Nat := 70
abbrev f_71 : Nat := 71
abbrev f_72 : Nat := 72
abbrev f_73 : Nat := 73
abbrev f_74 : Nat := 74
abbrev f_75 : Nat := 75
abbrev f_76 : Nat := 76
abbrev f_77 : Nat := 77
abbrev f_78 : Nat := 78
abbrev f_81 : Nat := 81
abbrev f_84 : Nat := 84
abbrev f_85 : Nat := 85
abbrev f_86 : Nat := 86
abbrev f_87 : Nat := 87
abbrev f_88 : Nat := 88
abbrev f_89 : Nat := 89
abbrev f_90 : Nat := 90
abbrev f_91 : Nat := 91
abbrev f_92 : Nat := 92
abbrev f_93 : Nat := 93
abbrev f_94 : Nat := 94
abbrev f_95 : Nat := 95
abbrev f_96 : Nat := 96
abbrev f_97 : Nat := 97
abbrev f_98 : Nat := 98
abbrev f_99 : Nat := 99
abbrev f_100 : Nat := 100
abbrev f_101 : Nat := 101
abbrev f_102 : Nat := 102
abbrev f_103 : Nat := 103
abbrev f_104 : Nat := 104
abbrev f_105 : Nat := 105
abbrev f_106 : Nat := 106
abbrev f_107 : Nat := 107
abbrev f_108 : Nat := 108
abbrev f_109 : Nat := 109
abbrev f_110 : Nat := 110
abbrev f_111 : Nat := 111
abbrev f_112 : Nat := 112
abbrev f_115 : Nat := 115
abbrev f_116 : Nat := 116
abbrev f_117 : Nat := 117
abbrev f_118 : Nat := 118
abbrev f_119 : Nat := 119
abbrev f_120 : Nat := 120
abbrev f_121 : Nat := 121
abbrev f_122 : Nat := 122
abbrev f_123 : Nat := 123
abbrev f_124 : Nat := 124
abbrev f_125 : Nat := 125
abbrev f_126 : Nat := 126
abbrev f_127 : Nat := 127
abbrev f_128 : Nat := 128
abbrev f_129 : Nat := 129
abbrev f_130 : Nat := 130
abbrev f_131 : Nat := 131
abbrev f_132 : Nat := 132
abbrev f_133 : Nat := 133
abbrev f_134 : Nat := 134
abbrev f_135 : Nat := 135
abbrev f_136 : Nat := 136
abbrev f_137 : Nat := 137
abbrev f_138 : Nat := 138
abbrev f_139 : Nat := 139
abbrev f_140 : Nat := 140
abbrev f_141 : Nat := 141
abbrev f_142 : Nat := 142
abbrev f_143 : Nat := 143
abbrev f_144 : Nat := 144
abbrev f_145 : Nat := 145
abbrev f_146 : Nat := 146
abbrev f_148 : Nat := 148
abbrev f_149 : Nat := 149
abbrev f_150 : Nat := 150
abbrev f_151 : Nat := 151
abbrev f_152 : Nat := 152
abbrev f_153 : Nat := 153
abbrev f_154 : Nat := 154
abbrev f_155 : Nat := 155
abbrev f_156 : Nat := 156
abbrev f_157 : Nat := 157
abbrev f_158 : Nat := 158
abbrev f_159 : Nat := 159
abbrev f_160 : Nat := 160
abbrev f_161 : Nat := 161
abbrev f_162 : Nat := 162
abbrev f_163 : Nat := 163
abbrev f_164 : Nat := 164
abbrev f_165 : Nat := 165
abbrev f_166 : Nat := 166
abbrev f_167 : Nat := 167
abbrev f_168 : Nat := 168
abbrev f_169 : Nat := 169
abbrev f_170 : Nat := 170
abbrev f_171 : Nat := 171
abbrev f_172 : Nat := 172
abbrev f_173 : Nat := 173
abbrev f_174 : Nat := 174
abbrev f_175 : Nat := 175
abbrev f_176 : Nat := 176
abbrev f_177 : Nat := 177
abbrev f_178 : Nat := 178
abbrev f_179 : Nat := 179
abbrev f_180 : Nat := 180
abbrev f_181 : Nat := 181
abbrev f_182 : Nat := 182
abbrev f_183 : Nat := 183
abbrev f_184 : Nat := 184
abbrev f_185 : Nat := 185
abbrev f_201 : Nat := 201
abbrev f_202 : Nat := 202
abbrev f_203 : Nat := 203
abbrev f_204 : Nat := 204
abbrev f_205 : Nat := 205
abbrev f_206 : Nat := 206
abbrev f_207 : Nat := 207
abbrev f_208 : Nat := 208
abbrev f_209 : Nat := 209
abbrev f_210 : Nat := 210
abbrev f_211 : Nat := 211
abbrev f_212 : Nat := 212
abbrev f_213 : Nat := 213
abbrev f_214 : Nat := 214
abbrev f_215 : Nat := 215
abbrev f_216 : Nat := 216
abbrev T_int64 : Nat := 2
abbrev T_int : Nat := 3
abbrev T_bool : Nat := 4
abbrev T_api_Template : Nat := 25
abbrev T_api_Int : Nat := 30
abbrev T_api_Rat : Nat := 32
abbrev T_api_Ext : Nat := 34
abbrev T_sl_api_Rat : Nat := 37
abbrev T_api_Answer : Nat := 40
abbrev T_api_LP : Nat := 45
abbrev T_uint32 : Nat := 103
abbrev T_sl_api_Int : Nat := 123
abbrev T_simplex_scaled : Nat := 125
abbrev T_simplex_all : Nat := 131
abbrev T_simplex_few : Nat := 145
abbrev T_simplex_tableau_api_Int_simplex_all : Nat := 146
abbrev T_simplex_tableau_api_Int_simplex_all_150 : Nat := 150
abbrev T_simplex_tableau_int64_simplex_few : Nat := 163
abbrev T_simplex_tableau_int64_simplex_few_167 : Nat := 167
abbrev T_sl_int64 : Nat := 169
abbrev T_simplex_wide : Nat := 208
def r_7_0 : List SOper := [o 4 (.box T_api_Template (t 0)),o 8 (.mv (.const (.bool false)))]
def r_7_1 : List SOper := [o 9 (.fa 0 (t 4)),o 10 (.load false 1 (t 9)),o 11 (.call f_18 [(t 10)] true),o 12 (.mv (t 11)),og 13 12 false (.mv (t 2)),og 14 12 false (.call f_19 [(t 13)] true),o 15 (.pick (t 12) (.const (.bool true)) (t 14)),o 16 (.mv (t 15)),og 17 16 false (.mv (t 3)),og 18 16 false (.call f_19 [(t 17)] true),o 19 (.pick (t 16) (.const (.bool true)) (t 18))]
def r_7_2 : List SOper := [o 20 (.call f_17 [] true),o 8 (.mv (t 20))]
def r_7_3 : List SOper := [o 21 (.load true 1 (t 4)),o 22 (.mv (t 1)),o 23 (.mv (t 2)),o 24 (.call f_27 [(t 21), (t 22), (t 23)] false),o 25 (.load true 1 (t 4)),o 26 (.mv (t 1)),o 27 (.mv (t 2)),o 28 (.call f_24 [(t 25), (t 26), (t 27)] true),o 29 (.bin 1 .eql (t 24) (t 28)),o 30 (.mv (t 29)),og 31 30 true (.mv (t 2)),og 32 30 true (.mv (t 3)),og 33 30 true (.call f_28 [(t 31), (t 32)] true),og 34 30 true (.mv (t 2)),og 35 30 true (.mv (t 3)),og 36 30 true (.call f_29 [(t 34), (t 35)] true),og 37 30 true (.bin 1 .eql (t 33) (t 36)),o 38 (.pick (t 30) (t 37) (.const (.bool false))),o 39 (.mv (t 38)),og 40 39 true (.mv (t 2)),og 41 39 true (.mv (t 3)),og 42 39 true (.call f_31 [(t 40), (t 41)] true),og 43 39 true (.mv (t 2)),og 44 39 true (.mv (t 3)),og 45 39 true (.call f_32 [(t 43), (t 44)] true),og 46 39 true (.call f_30 [(t 42), (t 45)] true),o 47 (.pick (t 39) (t 46) (.const (.bool false))),o 48 (.mv (t 47)),og 49 48 true (.mv (t 2)),og 50 48 true (.mv (t 3)),og 51 48 true (.call f_33 [(t 49), (t 50)] true),og 52 48 true (.mv (t 2)),og 53 48 true (.mv (t 3)),og 54 48 true (.call f_34 [(t 52), (t 53)] true),og 55 48 true (.call f_30 [(t 51), (t 54)] true),o 56 (.pick (t 48) (t 55) (.const (.bool false))),o 57 (.mv (t 56)),og 58 57 true (.call f_17 [] true),o 59 (.pick (t 57) (t 58) (.const (.bool false))),o 8 (.mv (t 59))]
def s_7 : SFun := ⟨4, 60, [.tmp 8],
  (.seq (.reg r_7_0) (.seq (.seq (.reg r_7_1) (.cond (t 19) (.seq (.reg r_7_2) .ret) .skip)) (.seq (.draw r_7_3 [0, 0, 0, 7, 0, 0, 0, 127, 255, 511, 1023, 1023, 4095, 1023, 1023, 32767, 65535, 131071, 262143, 524287, 524287, 2097151, 524287, 524287, 16777215, 33554431, 67108863, 134217727, 268435455, 268435455, 1073741823, 268435455, 268435455, 8589934591, 17179869183, 34359738367, 68719476735, 137438953471, 274877906943, 549755813887] []) .ret)))⟩

def r_12_0 : List SOper := [o 2 (.alloc T_api_Rat [(.bool false), (.slice none 0 0), (.bool false), (.slice none 0 0)])]
def r_12_1 : List SOper := [o 3 (.mv (t 0)),o 4 (.call f_39 [(t 3)] true),o 5 (.call f_39 [(i 1)] true),o 6 (.build [(.bool false), (.slice none 0 0), (.bool false), (.slice none 0 0)] [(0, 2, (t 4)), (2, 2, (t 5))]),
  ⟨none, none, .store 4 (t 2) (t 6)⟩]
def s_12 : SFun := ⟨1, 7, [.cell 2 true 4],
  (.seq (.reg r_12_0) (.seq (.reg r_12_1) .ret))⟩

def r_13_0 : List SOper := [o 3 (.box T_api_Template (t 0)),o 6 (.mv (.const (.bool false))),o 7 (.alloc T_api_Answer [(.int .i64 0), (.bool false), (.slice none 0 0), (.bool false), (.slice none 0 0), (.slice none 0 0), (.slice none 0 0), (.slice none 0 0)]),o 8 (.mv (i 0))]
def r_13_1 : List SOper := [o 14 (.load true 1 (t 3)),o 15 (.mv (t 1)),o 16 (.mv (t 2)),o 17 (.call f_27 [(t 14), (t 15), (t 16)] true),o 18 (.un .not (t 17))]
def r_13_2 : List SOper := [o 19 (.build [(.int .i64 0), (.bool false), (.slice none 0 0), (.bool false), (.slice none 0 0), (.slice none 0 0), (.slice none 0 0), (.slice none 0 0)] []),o 6 (.mv (.const (.bool false))),
  ⟨none, none, .store 8 (t 7) (t 19)⟩,o 8 (.mv (i 1))]
def r_13_3 : List SOper := [o 21 (.load true 1 (t 3)),o 22 (.mv (t 1)),o 23 (.mv (t 2)),o 24 (.call f_20 [(t 21), (t 22), (t 23)] true),o 20 (.mv (t 24)),o 25 (.ext (t 20) 0),o 26 (.ext (t 20) 1),o 9 (.alloc T_api_LP [(.int .i64 0), (.slice none 0 0), (.slice none 0 0), (.slice none 0 0)]),
  ⟨none, none, .store 4 (t 9) (t 25)⟩,o 10 (.mv (t 26))]
def r_13_4 : List SOper := [o 27 (.mv (t 10)),o 28 (.un .not (t 27))]
def r_13_5 : List SOper := [o 29 (.build [(.int .i64 0), (.bool false), (.slice none 0 0), (.bool false), (.slice none 0 0), (.slice none 0 0), (.slice none 0 0), (.slice none 0 0)] []),o 6 (.mv (.const (.bool true))),
  ⟨none, none, .store 8 (t 7) (t 29)⟩,o 8 (.mv (i 0))]
def r_13_6 : List SOper := [o 31 (.load true 4 (t 9)),o 32 (.call f_40 [(t 31)] true),o 30 (.mv (t 32)),o 33 (.ext (t 30) 0),o 34 (.ext (t 30) 1),o 35 (.ext (t 30) 2),o 11 (.alloc T_api_Answer [(.int .i64 0), (.bool false), (.slice none 0 0), (.bool false), (.slice none 0 0), (.slice none 0 0), (.slice none 0 0), (.slice none 0 0)]),
  ⟨none, none, .store 8 (t 11) (t 33)⟩,o 12 (.mv (t 34)),o 13 (.mv (t 35))]
def r_13_7 : List SOper := [o 36 (.fa 0 (t 11)),o 37 (.load false 1 (t 36)),o 38 (.bin 0 .eql (t 37) (i 2)),o 39 (.load true 8 (t 11)),o 40 (.mv (t 13)),o 6 (.mv (t 38)),
  ⟨none, none, .store 8 (t 7) (t 39)⟩,o 8 (.mv (t 40))]
def s_13 : SFun := ⟨3, 41, [.tmp 6, .cell 7 true 8, .tmp 8],
  (.seq (.reg r_13_0) (.seq (.seq (.reg r_13_1) (.cond (t 18) (.seq (.reg r_13_2) .ret) .skip)) (.seq (.reg r_13_3) (.seq (.seq (.reg r_13_4) (.cond (t 28) (.seq (.reg r_13_5) .ret) .skip)) (.seq (.reg r_13_6) (.seq (.draw r_13_7 [0, 1, 3, 0, 0, 7, 47, 127] []) .ret))))))⟩

def r_15_0 : List SOper := [o 2 (.mv (i 0))]
def r_15_1 : List SOper := [o 3 (.mv (t 0)),o 2 (.mv (t 3))]
def s_15 : SFun := ⟨1, 4, [.tmp 2],
  (.seq (.reg r_15_0) (.seq (.reg r_15_1) .ret))⟩

def r_17_0 : List SOper := [o 0 (.mv (.const (.bool false)))]
def r_17_1 : List SOper := [o 5 (.call f_26 [(i 1)] true),o 6 (.call f_12 [(i 3)] true),o 7 (.build [(.int .i64 0), (.bool false), (.slice none 0 0), (.bool false), (.slice none 0 0)] [(1, 4, (t 6))]),o 8 (.call f_12 [(.const (.int .i64 (-4)))] true),o 9 (.build [(.int .i64 0), (.bool false), (.slice none 0 0), (.bool false), (.slice none 0 0)] [(1, 4, (t 8))]),o 10 (.lit T_api_Ext [(.int .i64 0), (.bool false), (.slice none 0 0), (.bool false), (.slice none 0 0)] 2 [(0, 5, (t 7)), (5, 5, (t 9))]),o 11 (.call f_13 [(t 5), (i 1), (t 10)] true),o 4 (.mv (t 11)),o 12 (.ext (t 4) 0),o 13 (.ext (t 4) 1),o 14 (.ext (t 4) 2),o 2 (.alloc T_api_Answer [(.int .i64 0), (.bool false), (.slice none 0 0), (.bool false), (.slice none 0 0), (.slice none 0 0), (.slice none 0 0), (.slice none 0 0)]),o 1 (.mv (t 12)),
  ⟨none, none, .store 8 (t 2) (t 13)⟩,o 3 (.mv (t 14))]
def r_17_2 : List SOper := [o 15 (.mv (t 1)),o 16 (.mv (t 15)),og 17 16 true (.fa 0 (t 2)),og 18 16 true (.load false 1 (t 17)),og 19 16 true (.bin 0 .eql (t 18) (i 2)),o 20 (.pick (t 16) (t 19) (.const (.bool false))),o 21 (.mv (t 20)),og 22 21 true (.mv (t 3)),og 23 21 true (.call f_15 [(t 22)] true),og 24 21 true (.bin 0 .eql (t 23) (i 0)),o 25 (.pick (t 21) (t 24) (.const (.bool false))),o 0 (.mv (t 25))]
def s_17 : SFun := ⟨0, 26, [.tmp 0],
  (.seq (.reg r_17_0) (.seq (.reg r_17_1) (.seq (.reg r_17_2) .ret)))⟩

def r_18_0 : List SOper := [o 2 (.mv (.const (.bool false)))]
def r_18_1 : List SOper := [o 3 (.mv (i 0))]
def r_18_2 : List SOper := [o 4 (.mv (i 0))]
def r_18_3 : List SOper := [o 5 (.mv (t 4)),o 6 (.mv (t 0)),o 7 (.len (t 6)),o 8 (.bin 0 .lss (t 5) (t 7)),o 9 (.mv (t 8)),og 10 9 true (.mv (t 3)),og 11 9 true (.bin 0 .leq (t 10) (i 200)),o 12 (.pick (t 9) (t 11) (.const (.bool false)))]
def r_18_4 : List SOper := [o 15 (.mv (t 3)),o 16 (.bin 0 .add (t 15) (i 1)),o 17 (.mv (t 0)),o 18 (.mv (t 4)),o 19 (.ia 1 (t 17) (t 18)),o 20 (.load false 1 (t 19)),o 21 (.len (t 20)),o 22 (.mnx false (t 21) [(i 201)]),o 23 (.bin 0 .add (t 16) (t 22)),o 3 (.mv (t 23))]
def r_18_5 : List SOper := [o 24 (.mv (t 0)),o 25 (.mv (t 4)),o 26 (.ia 1 (t 24) (t 25)),o 27 (.load false 1 (t 26)),o 28 (.len (t 27)),o 29 (.bin 0 .leq (t 28) (i 200)),o 30 (.mv (t 29)),og 31 30 true (.mv (t 0)),og 32 30 true (.mv (t 4)),og 33 30 true (.ia 1 (t 31) (t 32)),og 34 30 true (.load false 1 (t 33)),og 35 30 true (.call f_48 [(t 34)] true),o 36 (.pick (t 30) (t 35) (.const (.bool false)))]
def r_18_6 : List SOper := [o 2 (.mv (.const (.bool true)))]
def r_18_7 : List SOper := [o 13 (.mv (t 4)),o 14 (.bin 0 .add (t 13) (i 1)),o 4 (.mv (t 14))]
def r_18_8 : List SOper := [o 37 (.mv (t 3)),o 38 (.bin 0 .gtr (t 37) (i 200)),o 2 (.mv (t 38))]
def s_18 : SFun := ⟨1, 39, [.tmp 2],
  (.seq (.reg r_18_0) (.seq (.reg r_18_1) (.seq (.seq (.reg r_18_2) (.block 0 (.loop (.seq (.seq (.reg r_18_3) (.cond (t 12) .skip (.exit 0))) (.seq (.block 1 (.seq (.reg r_18_4) (.seq (.reg r_18_5) (.cond (t 36) (.seq (.reg r_18_6) .ret) .skip)))) (.reg r_18_7)))))) (.seq (.reg r_18_8) .ret))))⟩

def r_19_0 : List SOper := [o 2 (.mv (.const (.bool false)))]
def r_19_1 : List SOper := [o 4 (.mv (t 0)),o 5 (.len (t 4)),o 6 (.bin 0 .gtr (t 5) (i 100))]
def r_19_2 : List SOper := [o 2 (.mv (.const (.bool true)))]
def r_19_3 : List SOper := [o 3 (.mv (i 0))]
def r_19_4 : List SOper := [o 7 (.mv (t 3)),o 8 (.mv (t 0)),o 9 (.len (t 8)),o 10 (.bin 0 .lss (t 7) (t 9))]
def r_19_5 : List SOper := [o 13 (.mv (t 0)),o 14 (.mv (t 3)),o 15 (.ia 5 (t 13) (t 14)),o 16 (.fa 1 (t 15)),o 17 (.load true 4 (t 16)),o 18 (.lit T_api_Rat [(.bool false), (.slice none 0 0), (.bool false), (.slice none 0 0)] 1 [(0, 4, (t 17))]),o 19 (.call f_48 [(t 18)] true)]
def r_19_6 : List SOper := [o 2 (.mv (.const (.bool true)))]
def r_19_7 : List SOper := [o 11 (.mv (t 3)),o 12 (.bin 0 .add (t 11) (i 1)),o 3 (.mv (t 12))]
def r_19_8 : List SOper := [o 2 (.mv (.const (.bool false)))]
def s_19 : SFun := ⟨1, 20, [.tmp 2],
  (.seq (.reg r_19_0) (.seq (.seq (.reg r_19_1) (.cond (t 6) (.seq (.reg r_19_2) .ret) .skip)) (.seq (.seq (.reg r_19_3) (.block 0 (.loop (.seq (.seq (.reg r_19_4) (.cond (t 10) .skip (.exit 0))) (.seq (.block 1 (.seq (.reg r_19_5) (.cond (t 19) (.seq (.reg r_19_6) .ret) .skip))) (.reg r_19_7)))))) (.seq (.reg r_19_8) .ret))))⟩

def r_20_0 : List SOper := [o 3 (.box T_api_Template (t 0)),o 6 (.alloc T_api_LP [(.int .i64 0), (.slice none 0 0), (.slice none 0 0), (.slice none 0 0)]),o 7 (.mv (.const (.bool false)))]
def r_20_1 : List SOper := [o 11 (.load true 1 (t 3)),o 12 (.mv (t 1)),o 13 (.mv (t 2)),o 14 (.call f_27 [(t 11), (t 12), (t 13)] true),o 15 (.un .not (t 14)),o 16 (.mv (t 15)),og 17 16 false (.mv (t 2)),og 18 16 false (.call f_49 [(t 17)] true),o 19 (.pick (t 16) (.const (.bool true)) (t 18))]
def r_20_2 : List SOper := [o 20 (.build [(.int .i64 0), (.slice none 0 0), (.slice none 0 0), (.slice none 0 0)] []),
  ⟨none, none, .store 4 (t 6) (t 20)⟩,o 7 (.mv (.const (.bool false)))]
def r_20_3 : List SOper := [o 21 (.mv (t 1)),o 22 (.mv (t 1)),o 23 (.mk T_api_Rat 64 [(.bool false), (.slice none 0 0), (.bool false), (.slice none 0 0)] (t 22) (t 22)),o 24 (.call f_50 [(t 23)] true),o 25 (.build [(.int .i64 0), (.slice none 0 0), (.slice none 0 0), (.slice none 0 0)] [(0, 1, (t 21)), (3, 1, (t 24))]),o 8 (.alloc T_api_LP [(.int .i64 0), (.slice none 0 0), (.slice none 0 0), (.slice none 0 0)]),
  ⟨none, none, .store 4 (t 8) (t 25)⟩]
def r_20_4 : List SOper := [o 26 (.mv (t 2)),o 27 (.len (t 26)),o 28 (.mv (i 0))]
def r_20_5 : List SOper := [o 29 (.bin 0 .lss (t 28) (t 27))]
def r_20_6 : List SOper := [o 30 (.mv (t 28)),o 31 (.ia 5 (t 26) (t 28)),o 32 (.load true 5 (t 31)),o 10 (.alloc T_api_Ext [(.int .i64 0), (.bool false), (.slice none 0 0), (.bool false), (.slice none 0 0)]),o 9 (.mv (t 30)),
  ⟨none, none, .store 5 (t 10) (t 32)⟩]
def r_20_7 : List SOper := [o 33 (.fa 0 (t 10)),o 34 (.load false 1 (t 33)),o 35 (.bin 0 .eql (t 34) (i 0))]
def r_20_8 : List SOper := [o 36 (.fa 1 (t 8)),o 37 (.load false 1 (t 36)),o 38 (.fa 0 (t 3)),o 39 (.load false 1 (t 38)),o 40 (.mv (t 9)),o 41 (.ia 1 (t 39) (t 40)),o 42 (.load false 1 (t 41)),o 43 (.call f_50 [(t 42)] false),o 44 (.lit T_sl_api_Rat [(.slice none 0 0)] 1 [(0, 1, (t 43))]),o 45 (.app T_sl_api_Rat 1 24 (t 37) (t 44)),o 46 (.fa 2 (t 8)),o 47 (.load false 1 (t 46)),o 48 (.fa 1 (t 10)),o 49 (.load true 4 (t 48)),o 50 (.build [(.bool false), (.slice none 0 0), (.bool false), (.slice none 0 0)] []),o 51 (.call f_51 [(t 49), (t 50)] false),o 52 (.lit T_api_Rat [(.bool false), (.slice none 0 0), (.bool false), (.slice none 0 0)] 1 [(0, 4, (t 51))]),o 53 (.app T_api_Rat 4 64 (t 47) (t 52)),o 54 (.fa 1 (t 8)),
  ⟨none, none, .store 1 (t 54) (t 45)⟩,o 55 (.fa 2 (t 8)),
  ⟨none, none, .store 1 (t 55) (t 53)⟩]
def r_20_9 : List SOper := [o 56 (.bin 0 .add (t 28) (i 1)),o 28 (.mv (t 56))]
def r_20_10 : List SOper := [o 57 (.load true 4 (t 8)),
  ⟨none, none, .store 4 (t 6) (t 57)⟩,o 7 (.mv (.const (.bool true)))]
def s_20 : SFun := ⟨3, 58, [.cell 6 true 4, .tmp 7],
  (.seq (.reg r_20_0) (.seq (.seq (.reg r_20_1) (.cond (t 19) (.seq (.reg r_20_2) .ret) .skip)) (.seq (.reg r_20_3) (.seq (.seq (.reg r_20_4) (.block 0 (.loop (.seq (.reg r_20_5) (.seq (.cond (t 29) .skip (.exit 0)) (.seq (.block 1 (.seq (.reg r_20_6) (.seq (.reg r_20_7) (.cond (t 35) (.draw r_20_8 [0, 1, 0, 4, 0, 28, 60, 124, 252, 511, 0, 1024, 0, 4096, 0, 29695, 62463, 131071, 4095, 524287, 1048575, 2097151] [(9, 11), (9, 13)]) .skip)))) (.reg r_20_9))))))) (.seq (.reg r_20_10) .ret)))))⟩

def r_24_0 : List SOper := [o 3 (.box T_api_Template (t 0)),o 6 (.mv (.const (.bool false)))]
def r_24_1 : List SOper := [o 8 (.load true 1 (t 3)),o 9 (.mv (t 1)),o 10 (.call f_57 [(t 8), (t 9)] true),o 11 (.un .not (t 10)),o 12 (.mv (t 11)),og 13 12 false (.mv (t 2)),og 14 12 false (.len (t 13)),og 15 12 false (.fa 0 (t 3)),og 16 12 false (.load false 1 (t 15)),og 17 12 false (.len (t 16)),og 18 12 false (.bin 0 .neq (t 14) (t 17)),o 19 (.pick (t 12) (.const (.bool true)) (t 18))]
def r_24_2 : List SOper := [o 6 (.mv (.const (.bool false)))]
def r_24_3 : List SOper := [o 7 (.mv (i 0))]
def r_24_4 : List SOper := [o 20 (.mv (t 7)),o 21 (.mv (t 2)),o 22 (.len (t 21)),o 23 (.bin 0 .lss (t 20) (t 22))]
def r_24_5 : List SOper := [o 26 (.mv (t 2)),o 27 (.mv (t 7)),o 28 (.ia 5 (t 26) (t 27)),o 29 (.load true 5 (t 28)),o 30 (.call f_58 [(t 29)] true),o 31 (.un .not (t 30))]
def r_24_6 : List SOper := [o 6 (.mv (.const (.bool false)))]
def r_24_7 : List SOper := [o 24 (.mv (t 7)),o 25 (.bin 0 .add (t 24) (i 1)),o 7 (.mv (t 25))]
def r_24_8 : List SOper := [o 6 (.mv (.const (.bool true)))]
def s_24 : SFun := ⟨3, 32, [.tmp 6],
  (.seq (.reg r_24_0) (.seq (.seq (.reg r_24_1) (.cond (t 19) (.seq (.reg r_24_2) .ret) .skip)) (.seq (.seq (.reg r_24_3) (.block 0 (.loop (.seq (.seq (.reg r_24_4) (.cond (t 23) .skip (.exit 0))) (.seq (.block 1 (.seq (.reg r_24_5) (.cond (t 31) (.seq (.reg r_24_6) .ret) .skip))) (.reg r_24_7)))))) (.seq (.reg r_24_8) .ret))))⟩

def r_26_0 : List SOper := [o 2 (.alloc T_api_Template [(.slice none 0 0)])]
def r_26_1 : List SOper := [o 5 (.mv (t 0)),o 6 (.call f_35 [(t 5)] true),o 0 (.mv (t 6))]
def r_26_2 : List SOper := [o 3 (.mv (.const (.slice none 0 0)))]
def r_26_3 : List SOper := [o 4 (.mv (i 0))]
def r_26_4 : List SOper := [o 7 (.mv (t 4)),o 8 (.mv (t 0)),o 9 (.bin 0 .lss (t 7) (t 8))]
def r_26_5 : List SOper := [o 12 (.mv (t 3)),o 13 (.mv (t 0)),o 14 (.mv (t 4)),o 15 (.call f_36 [(t 13), (t 14), (i 1), (.const (.int .i64 (-1))), (i 0)] true),o 16 (.mv (t 0)),o 17 (.mv (t 4)),o 18 (.call f_36 [(t 16), (t 17), (.const (.int .i64 (-1))), (.const (.int .i64 (-1))), (i 0)] true),o 19 (.lit T_sl_api_Rat [(.slice none 0 0)] 2 [(0, 1, (t 15)), (1, 1, (t 18))]),o 20 (.app T_sl_api_Rat 1 24 (t 12) (t 19)),o 3 (.mv (t 20))]
def r_26_6 : List SOper := [o 10 (.mv (t 4)),o 11 (.bin 0 .add (t 10) (i 1)),o 4 (.mv (t 11))]
def r_26_7 : List SOper := [o 21 (.mv (t 3)),o 22 (.call f_37 [(t 21)] true),
  ⟨none, none, .store 1 (t 2) (t 22)⟩]
def s_26 : SFun := ⟨1, 23, [.cell 2 true 1],
  (.seq (.reg r_26_0) (.seq (.reg r_26_1) (.seq (.reg r_26_2) (.seq (.seq (.reg r_26_3) (.block 0 (.loop (.seq (.seq (.reg r_26_4) (.cond (t 9) .skip (.exit 0))) (.seq (.block 1 (.reg r_26_5)) (.reg r_26_6)))))) (.seq (.reg r_26_7) .ret)))))⟩

def r_27_0 : List SOper := [o 3 (.box T_api_Template (t 0)),o 6 (.mv (.const (.bool false)))]
def r_27_1 : List SOper := [o 7 (.load true 1 (t 3)),o 8 (.mv (t 1)),o 9 (.call f_60 [(t 7), (t 8)] true),o 10 (.mv (t 9)),og 11 10 true (.mv (t 2)),og 12 10 true (.len (t 11)),og 13 10 true (.fa 0 (t 3)),og 14 10 true (.load false 1 (t 13)),og 15 10 true (.len (t 14)),og 16 10 true (.bin 0 .eql (t 12) (t 15)),o 17 (.pick (t 10) (t 16) (.const (.bool false))),o 18 (.mv (t 17)),og 19 18 true (.mv (t 2)),og 20 18 true (.call f_61 [(t 19), (.fn f_62)] true),og 21 18 true (.un .not (t 20)),o 22 (.pick (t 18) (t 21) (.const (.bool false))),o 6 (.mv (t 22))]
def s_27 : SFun := ⟨3, 23, [.tmp 6],
  (.seq (.reg r_27_0) (.seq (.reg r_27_1) .ret))⟩

def r_28_0 : List SOper := [o 4 (.mv (.const (.bool false)))]
def r_28_1 : List SOper := [o 5 (.mv (.fn f_64))]
def r_28_2 : List SOper := [o 6 (.mv (t 0)),o 7 (.len (t 6)),o 8 (.mv (t 1)),o 9 (.len (t 8)),o 10 (.bin 0 .eql (t 7) (t 9)),o 11 (.mv (t 10)),og 12 11 true (.mv (t 0)),og 13 11 true (.mv (t 1)),og 14 11 true (.mv (t 5)),og 15 11 true (.call f_66 [(t 12), (t 13), (t 14)] true),og 16 11 true (.call f_65 [(t 15), (.const (.bool true))] true),og 17 11 true (.un .not (t 16)),o 18 (.pick (t 11) (t 17) (.const (.bool false))),o 4 (.mv (t 18))]
def s_28 : SFun := ⟨2, 19, [.tmp 4],
  (.seq (.reg r_28_0) (.seq (.reg r_28_1) (.seq (.reg r_28_2) .ret)))⟩

def r_29_0 : List SOper := [o 4 (.mv (.const (.bool false)))]
def r_29_1 : List SOper := [o 6 (.mv (t 0)),o 7 (.len (t 6)),o 8 (.mv (t 1)),o 9 (.len (t 8)),o 10 (.bin 0 .neq (t 7) (t 9))]
def r_29_2 : List SOper := [o 4 (.mv (.const (.bool false)))]
def r_29_3 : List SOper := [o 5 (.mv (i 0))]
def r_29_4 : List SOper := [o 11 (.mv (t 5)),o 12 (.mv (t 0)),o 13 (.len (t 12)),o 14 (.bin 0 .lss (t 11) (t 13))]
def r_29_5 : List SOper := [o 17 (.mv (t 0)),o 18 (.mv (t 5)),o 19 (.ia 5 (t 17) (t 18)),o 20 (.load true 5 (t 19)),o 21 (.mv (t 1)),o 22 (.mv (t 5)),o 23 (.ia 5 (t 21) (t 22)),o 24 (.load true 5 (t 23)),o 25 (.call f_55 [(t 20), (t 24)] true),o 26 (.bin 0 .gtr (t 25) (i 0))]
def r_29_6 : List SOper := [o 4 (.mv (.const (.bool false)))]
def r_29_7 : List SOper := [o 15 (.mv (t 5)),o 16 (.bin 0 .add (t 15) (i 1)),o 5 (.mv (t 16))]
def r_29_8 : List SOper := [o 4 (.mv (.const (.bool true)))]
def s_29 : SFun := ⟨2, 27, [.tmp 4],
  (.seq (.reg r_29_0) (.seq (.seq (.reg r_29_1) (.cond (t 10) (.seq (.reg r_29_2) .ret) .skip)) (.seq (.seq (.reg r_29_3) (.block 0 (.loop (.seq (.seq (.reg r_29_4) (.cond (t 14) .skip (.exit 0))) (.seq (.block 1 (.seq (.draw r_29_5 [0, 0, 3, 7, 0, 0, 48, 112, 255, 511] []) (.cond (t 26) (.seq (.reg r_29_6) .ret) .skip))) (.reg r_29_7)))))) (.seq (.reg r_29_8) .ret))))⟩

def r_30_0 : List SOper := [o 4 (.mv (.const (.bool false)))]
def r_30_1 : List SOper := [o 6 (.mv (t 0)),o 7 (.len (t 6)),o 8 (.mv (t 1)),o 9 (.len (t 8)),o 10 (.bin 0 .neq (t 7) (t 9))]
def r_30_2 : List SOper := [o 4 (.mv (.const (.bool false)))]
def r_30_3 : List SOper := [o 5 (.mv (i 0))]
def r_30_4 : List SOper := [o 11 (.mv (t 5)),o 12 (.mv (t 0)),o 13 (.len (t 12)),o 14 (.bin 0 .lss (t 11) (t 13))]
def r_30_5 : List SOper := [o 17 (.mv (t 0)),o 18 (.mv (t 5)),o 19 (.ia 5 (t 17) (t 18)),o 20 (.load true 5 (t 19)),o 21 (.mv (t 1)),o 22 (.mv (t 5)),o 23 (.ia 5 (t 21) (t 22)),o 24 (.load true 5 (t 23)),o 25 (.call f_67 [(t 20), (t 24)] true),o 26 (.un .not (t 25))]
def r_30_6 : List SOper := [o 4 (.mv (.const (.bool false)))]
def r_30_7 : List SOper := [o 15 (.mv (t 5)),o 16 (.bin 0 .add (t 15) (i 1)),o 5 (.mv (t 16))]
def r_30_8 : List SOper := [o 4 (.mv (.const (.bool true)))]
def s_30 : SFun := ⟨2, 27, [.tmp 4],
  (.seq (.reg r_30_0) (.seq (.seq (.reg r_30_1) (.cond (t 10) (.seq (.reg r_30_2) .ret) .skip)) (.seq (.seq (.reg r_30_3) (.block 0 (.loop (.seq (.seq (.reg r_30_4) (.cond (t 14) .skip (.exit 0))) (.seq (.block 1 (.seq (.draw r_30_5 [0, 0, 3, 7, 0, 0, 48, 112, 255, 511] []) (.cond (t 26) (.seq (.reg r_30_6) .ret) .skip))) (.reg r_30_7)))))) (.seq (.reg r_30_8) .ret))))⟩

def r_31_0 : List SOper := [o 4 (.mv (.const (.slice none 0 0)))]
def r_31_1 : List SOper := [o 5 (.mv (t 0)),o 6 (.mv (t 1)),o 7 (.call f_68 [(t 5), (t 6), (.fn f_69)] true),o 4 (.mv (t 7))]
def s_31 : SFun := ⟨2, 8, [.tmp 4],
  (.seq (.reg r_31_0) (.seq (.reg r_31_1) .ret))⟩

def r_32_0 : List SOper := [o 4 (.mv (.const (.slice none 0 0)))]
def r_32_1 : List SOper := [o 5 (.mv (.const (.slice none 0 0)))]
def r_32_2 : List SOper := [o 6 (.mv (i 0))]
def r_32_3 : List SOper := [o 7 (.mv (t 6)),o 8 (.mv (t 0)),o 9 (.len (t 8)),o 10 (.bin 0 .lss (t 7) (t 9)),o 11 (.mv (t 10)),og 12 11 true (.mv (t 6)),og 13 11 true (.mv (t 1)),og 14 11 true (.len (t 13)),og 15 11 true (.bin 0 .lss (t 12) (t 14)),o 16 (.pick (t 11) (t 15) (.const (.bool false)))]
def r_32_4 : List SOper := [o 19 (.mv (t 5)),o 20 (.mv (t 0)),o 21 (.mv (t 6)),o 22 (.ia 5 (t 20) (t 21)),o 23 (.load true 5 (t 22)),o 24 (.mv (t 1)),o 25 (.mv (t 6)),o 26 (.ia 5 (t 24) (t 25)),o 27 (.load true 5 (t 26)),o 28 (.call f_70 [(t 23), (t 27)] true),o 29 (.lit T_api_Ext [(.int .i64 0), (.bool false), (.slice none 0 0), (.bool false), (.slice none 0 0)] 1 [(0, 5, (t 28))]),o 30 (.app T_api_Ext 5 72 (t 19) (t 29)),o 5 (.mv (t 30))]
def r_32_5 : List SOper := [o 17 (.mv (t 6)),o 18 (.bin 0 .add (t 17) (i 1)),o 6 (.mv (t 18))]
def r_32_6 : List SOper := [o 31 (.mv (t 5)),o 4 (.mv (t 31))]
def s_32 : SFun := ⟨2, 32, [.tmp 4],
  (.seq (.reg r_32_0) (.seq (.reg r_32_1) (.seq (.seq (.reg r_32_2) (.block 0 (.loop (.seq (.seq (.reg r_32_3) (.cond (t 16) .skip (.exit 0))) (.seq (.block 1 (.draw r_32_4 [0, 0, 0, 6, 14, 0, 0, 96, 224, 510, 1022, 2047, 4095] [])) (.reg r_32_5)))))) (.seq (.reg r_32_6) .ret))))⟩

def r_33_0 : List SOper := [o 4 (.mv (.const (.slice none 0 0)))]
def r_33_1 : List SOper := [o 5 (.mv (t 0)),o 6 (.mv (t 1)),o 7 (.call f_68 [(t 5), (t 6), (.fn f_71)] true),o 4 (.mv (t 7))]
def s_33 : SFun := ⟨2, 8, [.tmp 4],
  (.seq (.reg r_33_0) (.seq (.reg r_33_1) .ret))⟩

def r_34_0 : List SOper := [o 4 (.mv (.const (.slice none 0 0)))]
def r_34_1 : List SOper := [o 5 (.mv (.const (.slice none 0 0)))]
def r_34_2 : List SOper := [o 6 (.mv (i 0))]
def r_34_3 : List SOper := [o 7 (.mv (t 6)),o 8 (.mv (t 0)),o 9 (.len (t 8)),o 10 (.bin 0 .lss (t 7) (t 9)),o 11 (.mv (t 10)),og 12 11 true (.mv (t 6)),og 13 11 true (.mv (t 1)),og 14 11 true (.len (t 13)),og 15 11 true (.bin 0 .lss (t 12) (t 14)),o 16 (.pick (t 11) (t 15) (.const (.bool false)))]
def r_34_4 : List SOper := [o 19 (.mv (t 5)),o 20 (.mv (t 0)),o 21 (.mv (t 6)),o 22 (.ia 5 (t 20) (t 21)),o 23 (.load true 5 (t 22)),o 24 (.mv (t 1)),o 25 (.mv (t 6)),o 26 (.ia 5 (t 24) (t 25)),o 27 (.load true 5 (t 26)),o 28 (.call f_72 [(t 23), (t 27)] true),o 29 (.lit T_api_Ext [(.int .i64 0), (.bool false), (.slice none 0 0), (.bool false), (.slice none 0 0)] 1 [(0, 5, (t 28))]),o 30 (.app T_api_Ext 5 72 (t 19) (t 29)),o 5 (.mv (t 30))]
def r_34_5 : List SOper := [o 17 (.mv (t 6)),o 18 (.bin 0 .add (t 17) (i 1)),o 6 (.mv (t 18))]
def r_34_6 : List SOper := [o 31 (.mv (t 5)),o 4 (.mv (t 31))]
def s_34 : SFun := ⟨2, 32, [.tmp 4],
  (.seq (.reg r_34_0) (.seq (.reg r_34_1) (.seq (.seq (.reg r_34_2) (.block 0 (.loop (.seq (.seq (.reg r_34_3) (.cond (t 16) .skip (.exit 0))) (.seq (.block 1 (.draw r_34_4 [0, 0, 0, 6, 14, 0, 0, 96, 224, 510, 1022, 2047, 4095] [])) (.reg r_34_5)))))) (.seq (.reg r_34_6) .ret))))⟩

def r_35_0 : List SOper := [o 2 (.mv (i 0))]
def r_35_1 : List SOper := [o 3 (.mv (t 0)),o 4 (.mnx false (t 3) [(i 6)]),o 5 (.mnx true (i 0) [(t 4)]),o 2 (.mv (t 5))]
def s_35 : SFun := ⟨1, 6, [.tmp 2],
  (.seq (.reg r_35_0) (.seq (.reg r_35_1) .ret))⟩

def r_36_0 : List SOper := [o 10 (.mv (.const (.slice none 0 0)))]
def r_36_1 : List SOper := [o 11 (.mv (.const (.slice none 0 0)))]
def r_36_2 : List SOper := [o 12 (.mv (i 0))]
def r_36_3 : List SOper := [o 14 (.mv (t 12)),o 15 (.mv (t 0)),o 16 (.bin 0 .lss (t 14) (t 15))]
def r_36_4 : List SOper := [o 13 (.mv (i 0))]
def r_36_5 : List SOper := [o 19 (.mv (t 12)),o 20 (.mv (t 1)),o 21 (.bin 0 .eql (t 19) (t 20))]
def r_36_6 : List SOper := [o 22 (.mv (t 2)),o 13 (.mv (t 22))]
def r_36_7 : List SOper := [o 23 (.mv (t 12)),o 24 (.mv (t 3)),o 25 (.bin 0 .eql (t 23) (t 24))]
def r_36_8 : List SOper := [o 26 (.mv (t 4)),o 13 (.mv (t 26))]
def r_36_9 : List SOper := [o 27 (.mv (t 11)),o 28 (.mv (t 13)),o 29 (.call f_12 [(t 28)] true),o 30 (.lit T_api_Rat [(.bool false), (.slice none 0 0), (.bool false), (.slice none 0 0)] 1 [(0, 4, (t 29))]),o 31 (.app T_api_Rat 4 64 (t 27) (t 30)),o 11 (.mv (t 31))]
def r_36_10 : List SOper := [o 17 (.mv (t 12)),o 18 (.bin 0 .add (t 17) (i 1)),o 12 (.mv (t 18))]
def r_36_11 : List SOper := [o 32 (.mv (t 11)),o 10 (.mv (t 32))]
def s_36 : SFun := ⟨5, 33, [.tmp 10],
  (.seq (.reg r_36_0) (.seq (.reg r_36_1) (.seq (.seq (.reg r_36_2) (.block 0 (.loop (.seq (.seq (.reg r_36_3) (.cond (t 16) .skip (.exit 0))) (.seq (.block 1 (.seq (.reg r_36_4) (.seq (.seq (.reg r_36_5) (.cond (t 21) (.reg r_36_6) .skip)) (.seq (.seq (.reg r_36_7) (.cond (t 25) (.reg r_36_8) .skip)) (.reg r_36_9))))) (.reg r_36_10)))))) (.seq (.reg r_36_11) .ret))))⟩

def r_37_0 : List SOper := [o 2 (.alloc T_api_Template [(.slice none 0 0)])]
def r_37_1 : List SOper := [o 3 (.mv (t 0)),o 4 (.mv (t 0)),o 5 (.len (t 4)),o 6 (.mnx false (t 5) [(i 40)]),o 7 (.sl T_sl_api_Rat 1 (t 3) none (some (t 6)) none),o 8 (.build [(.slice none 0 0)] [(0, 1, (t 7))]),
  ⟨none, none, .store 1 (t 2) (t 8)⟩]
def s_37 : SFun := ⟨1, 9, [.cell 2 true 1],
  (.seq (.reg r_37_0) (.seq (.reg r_37_1) .ret))⟩

def r_38_0 : List SOper := [o 2 (.box T_api_Rat (t 0)),o 3 (.box T_api_Rat (t 1)),o 4 (.mv (i 0))]
def r_38_1 : List SOper := [o 5 (.load true 4 (t 2)),o 6 (.call f_73 [(t 5)] true),
  ⟨none, none, .store 4 (t 2) (t 6)⟩]
def r_38_2 : List SOper := [o 7 (.load true 4 (t 3)),o 8 (.call f_73 [(t 7)] true),
  ⟨none, none, .store 4 (t 3) (t 8)⟩]
def r_38_3 : List SOper := [o 9 (.fa 0 (t 2)),o 10 (.load true 2 (t 9)),o 11 (.fa 2 (t 3)),o 12 (.load true 2 (t 11)),o 13 (.call f_75 [(t 10), (t 12)] false),o 14 (.fa 0 (t 3)),o 15 (.load true 2 (t 14)),o 16 (.fa 2 (t 2)),o 17 (.load true 2 (t 16)),o 18 (.call f_75 [(t 15), (t 17)] true),o 19 (.call f_74 [(t 13), (t 18)] true),o 4 (.mv (t 19))]
def s_38 : SFun := ⟨2, 20, [.tmp 4],
  (.seq (.reg r_38_0) (.seq (.reg r_38_1) (.seq (.reg r_38_2) (.seq (.draw r_38_3 [0, 1, 0, 4, 15, 0, 32, 0, 128, 511, 1023, 2047] []) .ret))))⟩

def r_39_0 : List SOper := [o 2 (.alloc T_api_Int [(.bool false), (.slice none 0 0)])]
def r_39_1 : List SOper := [o 4 (.mv (t 0)),o 5 (.conv .u64 (t 4)),o 3 (.mv (t 5))]
def r_39_2 : List SOper := [o 6 (.mv (t 0)),o 7 (.bin 0 .lss (t 6) (i 0))]
def r_39_3 : List SOper := [o 8 (.mv (t 3)),o 9 (.un .neg (t 8)),o 3 (.mv (t 9))]
def r_39_4 : List SOper := [o 10 (.mv (t 0)),o 11 (.bin 0 .lss (t 10) (i 0)),o 12 (.mv (t 3)),o 13 (.conv .u32 (t 12)),o 14 (.mv (t 3)),o 15 (.bin 0 .shr (t 14) (.const (.int .u64 32))),o 16 (.conv .u32 (t 15)),o 17 (.lit T_uint32 [(.int .u32 0)] 2 [(0, 1, (t 13)), (1, 1, (t 16))]),o 18 (.call f_76 [(t 11), (t 17)] true),
  ⟨none, none, .store 2 (t 2) (t 18)⟩]
def s_39 : SFun := ⟨1, 19, [.cell 2 true 2],
  (.seq (.reg r_39_0) (.seq (.reg r_39_1) (.seq (.seq (.reg r_39_2) (.cond (t 7) (.reg r_39_3) .skip)) (.seq (.reg r_39_4) .ret))))⟩

def r_40_0 : List SOper := [o 1 (.box T_api_LP (t 0)),o 2 (.alloc T_api_Answer [(.int .i64 0), (.bool false), (.slice none 0 0), (.bool false), (.slice none 0 0), (.slice none 0 0), (.slice none 0 0), (.slice none 0 0)]),o 3 (.mv (i 0)),o 4 (.mv (i 0))]
def r_40_1 : List SOper := [o 7 (.load true 4 (t 1)),o 8 (.call f_77 [(t 7)] true),o 9 (.un .not (t 8))]
def r_40_2 : List SOper := [o 10 (.build [(.int .i64 0), (.bool false), (.slice none 0 0), (.bool false), (.slice none 0 0), (.slice none 0 0), (.slice none 0 0), (.slice none 0 0)] []),
  ⟨none, none, .store 8 (t 2) (t 10)⟩,o 3 (.mv (i 0)),o 4 (.mv (i 1))]
def r_40_3 : List SOper := [o 12 (.load true 4 (t 1)),o 13 (.call f_78 [(t 12)] true),o 11 (.mv (t 13)),o 14 (.ext (t 11) 0),o 15 (.ext (t 11) 1),o 5 (.alloc T_api_Answer [(.int .i64 0), (.bool false), (.slice none 0 0), (.bool false), (.slice none 0 0), (.slice none 0 0), (.slice none 0 0), (.slice none 0 0)]),
  ⟨none, none, .store 8 (t 5) (t 14)⟩,o 6 (.mv (t 15))]
def r_40_4 : List SOper := [o 16 (.load true 8 (t 5)),o 17 (.mv (t 6)),
  ⟨none, none, .store 8 (t 2) (t 16)⟩,o 3 (.mv (t 17)),o 4 (.mv (i 0))]
def s_40 : SFun := ⟨1, 18, [.cell 2 true 8, .tmp 3, .tmp 4],
  (.seq (.reg r_40_0) (.seq (.seq (.reg r_40_1) (.cond (t 9) (.seq (.reg r_40_2) .ret) .skip)) (.seq (.reg r_40_3) (.seq (.reg r_40_4) .ret))))⟩

def r_48_0 : List SOper := [o 2 (.mv (.const (.bool false)))]
def r_48_1 : List SOper := [o 3 (.mv (i 0))]
def r_48_2 : List SOper := [o 4 (.mv (t 3)),o 5 (.mv (t 0)),o 6 (.len (t 5)),o 7 (.bin 0 .lss (t 4) (t 6))]
def r_48_3 : List SOper := [o 10 (.mv (t 0)),o 11 (.mv (t 3)),o 12 (.ia 4 (t 10) (t 11)),o 13 (.fa 0 (t 12)),o 14 (.fa 1 (t 13)),o 15 (.load false 1 (t 14)),o 16 (.len (t 15)),o 17 (.bin 0 .gtr (t 16) (i 6)),o 18 (.mv (t 17)),og 19 18 false (.mv (t 0)),og 20 18 false (.mv (t 3)),og 21 18 false (.ia 4 (t 19) (t 20)),og 22 18 false (.fa 2 (t 21)),og 23 18 false (.fa 1 (t 22)),og 24 18 false (.load false 1 (t 23)),og 25 18 false (.len (t 24)),og 26 18 false (.bin 0 .gtr (t 25) (i 6)),o 27 (.pick (t 18) (.const (.bool true)) (t 26))]
def r_48_4 : List SOper := [o 2 (.mv (.const (.bool true)))]
def r_48_5 : List SOper := [o 8 (.mv (t 3)),o 9 (.bin 0 .add (t 8) (i 1)),o 3 (.mv (t 9))]
def r_48_6 : List SOper := [o 2 (.mv (.const (.bool false)))]
def s_48 : SFun := ⟨1, 28, [.tmp 2],
  (.seq (.reg r_48_0) (.seq (.seq (.reg r_48_1) (.block 0 (.loop (.seq (.seq (.reg r_48_2) (.cond (t 7) .skip (.exit 0))) (.seq (.block 1 (.seq (.reg r_48_3) (.cond (t 27) (.seq (.reg r_48_4) .ret) .skip))) (.reg r_48_5)))))) (.seq (.reg r_48_6) .ret)))⟩

def r_49_0 : List SOper := [o 2 (.mv (.const (.bool false)))]
def r_49_1 : List SOper := [o 3 (.mv (t 0)),o 4 (.call f_61 [(t 3), (.fn f_84)] true),o 2 (.mv (t 4))]
def s_49 : SFun := ⟨1, 5, [.tmp 2],
  (.seq (.reg r_49_0) (.seq (.reg r_49_1) .ret))⟩

def r_50_0 : List SOper := [o 2 (.mv (.const (.slice none 0 0)))]
def r_50_1 : List SOper := [o 3 (.mv (.const (.slice none 0 0)))]
def r_50_2 : List SOper := [o 6 (.mv (t 0)),o 7 (.len (t 6)),o 8 (.mv (i 0))]
def r_50_3 : List SOper := [o 9 (.bin 0 .lss (t 8) (t 7))]
def r_50_4 : List SOper := [o 10 (.ia 4 (t 6) (t 8)),o 11 (.load true 4 (t 10)),o 5 (.alloc T_api_Rat [(.bool false), (.slice none 0 0), (.bool false), (.slice none 0 0)]),
  ⟨none, none, .store 4 (t 5) (t 11)⟩]
def r_50_5 : List SOper := [o 12 (.mv (t 3)),o 13 (.load true 4 (t 5)),o 14 (.build [(.bool false), (.slice none 0 0), (.bool false), (.slice none 0 0)] []),o 15 (.call f_51 [(t 13), (t 14)] true),o 16 (.lit T_api_Rat [(.bool false), (.slice none 0 0), (.bool false), (.slice none 0 0)] 1 [(0, 4, (t 15))]),o 17 (.app T_api_Rat 4 64 (t 12) (t 16)),o 3 (.mv (t 17))]
def r_50_6 : List SOper := [o 18 (.bin 0 .add (t 8) (i 1)),o 8 (.mv (t 18))]
def r_50_7 : List SOper := [o 19 (.mv (t 3)),o 2 (.mv (t 19))]
def s_50 : SFun := ⟨1, 20, [.tmp 2],
  (.seq (.reg r_50_0) (.seq (.reg r_50_1) (.seq (.seq (.reg r_50_2) (.block 0 (.loop (.seq (.reg r_50_3) (.seq (.cond (t 9) .skip (.exit 0)) (.seq (.block 1 (.seq (.reg r_50_4) (.reg r_50_5))) (.reg r_50_6))))))) (.seq (.reg r_50_7) .ret))))⟩

def r_51_0 : List SOper := [o 2 (.box T_api_Rat (t 0)),o 3 (.box T_api_Rat (t 1)),o 4 (.alloc T_api_Rat [(.bool false), (.slice none 0 0), (.bool false), (.slice none 0 0)])]
def r_51_1 : List SOper := [o 5 (.load true 4 (t 2)),o 6 (.call f_85 [(t 5)] false),o 7 (.load true 4 (t 3)),o 8 (.call f_85 [(t 7)] true),
  ⟨none, none, .store 4 (t 2) (t 6)⟩,
  ⟨none, none, .store 4 (t 3) (t 8)⟩]
def r_51_2 : List SOper := [o 9 (.fa 0 (t 2)),o 10 (.load true 2 (t 9)),o 11 (.fa 2 (t 3)),o 12 (.load true 2 (t 11)),o 13 (.call f_89 [(t 10), (t 12)] false),o 14 (.fa 0 (t 3)),o 15 (.load true 2 (t 14)),o 16 (.fa 2 (t 2)),o 17 (.load true 2 (t 16)),o 18 (.call f_89 [(t 15), (t 17)] false),o 19 (.lit T_api_Int [(.bool false), (.slice none 0 0)] 1 [(0, 2, (t 18))]),o 20 (.call f_87 [(.fn f_88), (t 13), (t 19)] false),o 21 (.fa 2 (t 2)),o 22 (.load true 2 (t 21)),o 23 (.fa 2 (t 3)),o 24 (.load true 2 (t 23)),o 25 (.call f_89 [(t 22), (t 24)] true),o 26 (.call f_86 [(t 20), (t 25)] true),
  ⟨none, none, .store 4 (t 4) (t 26)⟩]
def s_51 : SFun := ⟨2, 27, [.cell 4 true 4],
  (.seq (.reg r_51_0) (.seq (.draw r_51_1 [0, 1, 0, 7, 15, 31] []) (.seq (.draw r_51_2 [0, 1, 0, 4, 15, 0, 32, 0, 128, 511, 1023, 2047, 0, 4096, 0, 16384, 65535, 131071, 262143] []) .ret)))⟩


end Go.Proofs.YtjlohmnnldbjoaaGreat.AI

/- The small code of the program's functions: printed. -/
namespace Go.Proofs.YtjlohmnnldbjoaaGreat.AI
open Go

def r_53_0 : List SOper := [o 2 (.box T_api_Ext (t 0)),o 3 (.box T_api_Ext (t 1)),o 4 (.mv (i 0))]
def r_53_1 : List SOper := [o 5 (.load true 5 (t 2)),o 6 (.call f_92 [(t 5)] false),o 7 (.load true 5 (t 3)),o 8 (.call f_92 [(t 7)] true),
  ⟨none, none, .store 5 (t 2) (t 6)⟩,
  ⟨none, none, .store 5 (t 3) (t 8)⟩]
def r_53_2 : List SOper := [o 10 (.fa 0 (t 2)),o 11 (.load false 1 (t 10)),o 12 (.fa 0 (t 3)),o 13 (.load false 1 (t 12)),o 14 (.bin 0 .lss (t 11) (t 13)),o 9 (.mv (t 14))]
def r_53_3 : List SOper := [o 4 (.mv (.const (.int .i64 (-1))))]
def r_53_4 : List SOper := [o 16 (.fa 0 (t 2)),o 17 (.load false 1 (t 16)),o 18 (.fa 0 (t 3)),o 19 (.load false 1 (t 18)),o 20 (.bin 0 .gtr (t 17) (t 19)),o 15 (.mv (t 20))]
def r_53_5 : List SOper := [o 4 (.mv (i 1))]
def r_53_6 : List SOper := [o 22 (.fa 0 (t 2)),o 23 (.load false 1 (t 22)),o 24 (.bin 0 .neq (t 23) (i 0)),o 21 (.mv (t 24))]
def r_53_7 : List SOper := [o 4 (.mv (i 0))]
def r_53_8 : List SOper := [o 25 (.fa 1 (t 2)),o 26 (.load true 4 (t 25)),o 27 (.fa 1 (t 3)),o 28 (.load true 4 (t 27)),o 29 (.call f_93 [(t 26), (t 28)] true),o 4 (.mv (t 29))]
def s_53 : SFun := ⟨2, 30, [.tmp 4],
  (.seq (.reg r_53_0) (.seq (.draw r_53_1 [0, 1, 0, 7, 15, 31] []) (.seq (.block 0 (.seq (.reg r_53_2) (.cond (t 9) (.seq (.reg r_53_3) .ret) (.seq (.reg r_53_4) (.cond (t 15) (.seq (.reg r_53_5) .ret) (.seq (.reg r_53_6) (.cond (t 21) (.seq (.reg r_53_7) .ret) .skip))))))) (.seq (.reg r_53_8) .ret))))⟩

def r_54_0 : List SOper := [o 1 (.box T_api_Rat (t 0)),o 2 (.alloc T_api_Ext [(.int .i64 0), (.bool false), (.slice none 0 0), (.bool false), (.slice none 0 0)])]
def r_54_1 : List SOper := [o 3 (.load true 4 (t 1)),o 4 (.build [(.bool false), (.slice none 0 0), (.bool false), (.slice none 0 0)] []),o 5 (.call f_51 [(t 3), (t 4)] true),o 6 (.build [(.int .i64 0), (.bool false), (.slice none 0 0), (.bool false), (.slice none 0 0)] [(1, 4, (t 5))]),
  ⟨none, none, .store 5 (t 2) (t 6)⟩]
def s_54 : SFun := ⟨1, 7, [.cell 2 true 5],
  (.seq (.reg r_54_0) (.seq (.reg r_54_1) .ret))⟩

def r_55_0 : List SOper := [o 2 (.box T_api_Ext (t 0)),o 3 (.box T_api_Ext (t 1)),o 4 (.mv (i 0))]
def r_55_1 : List SOper := [o 5 (.load true 5 (t 2)),o 6 (.call f_59 [(t 5)] true),
  ⟨none, none, .store 5 (t 2) (t 6)⟩]
def r_55_2 : List SOper := [o 7 (.load true 5 (t 3)),o 8 (.call f_59 [(t 7)] true),
  ⟨none, none, .store 5 (t 3) (t 8)⟩]
def r_55_3 : List SOper := [o 9 (.fa 0 (t 2)),o 10 (.load false 1 (t 9)),o 11 (.fa 0 (t 3)),o 12 (.load false 1 (t 11)),o 13 (.bin 0 .neq (t 10) (t 12))]
def r_55_4 : List SOper := [o 14 (.fa 0 (t 2)),o 15 (.load false 1 (t 14)),o 16 (.fa 0 (t 3)),o 17 (.load false 1 (t 16)),o 18 (.bin 0 .lss (t 15) (t 17))]
def r_55_5 : List SOper := [o 4 (.mv (.const (.int .i64 (-1))))]
def r_55_6 : List SOper := [o 4 (.mv (i 1))]
def r_55_7 : List SOper := [o 19 (.fa 0 (t 2)),o 20 (.load false 1 (t 19)),o 21 (.bin 0 .neq (t 20) (i 0))]
def r_55_8 : List SOper := [o 4 (.mv (i 0))]
def r_55_9 : List SOper := [o 22 (.fa 1 (t 2)),o 23 (.load true 4 (t 22)),o 24 (.fa 1 (t 3)),o 25 (.load true 4 (t 24)),o 26 (.call f_38 [(t 23), (t 25)] true),o 4 (.mv (t 26))]
def s_55 : SFun := ⟨2, 27, [.tmp 4],
  (.seq (.reg r_55_0) (.seq (.reg r_55_1) (.seq (.reg r_55_2) (.seq (.seq (.reg r_55_3) (.cond (t 13) (.seq (.seq (.reg r_55_4) (.cond (t 18) (.seq (.reg r_55_5) .ret) .skip)) (.seq (.reg r_55_6) .ret)) .skip)) (.seq (.seq (.reg r_55_7) (.cond (t 21) (.seq (.reg r_55_8) .ret) .skip)) (.seq (.reg r_55_9) .ret))))))⟩

def r_57_0 : List SOper := [o 2 (.box T_api_Template (t 0)),o 4 (.mv (.const (.bool false)))]
def r_57_1 : List SOper := [o 7 (.mv (t 1)),o 8 (.bin 0 .lss (t 7) (i 0)),o 9 (.mv (t 8)),og 10 9 false (.mv (t 1)),og 11 9 false (.bin 0 .gtr (t 10) (i 6)),o 12 (.pick (t 9) (.const (.bool true)) (t 11)),o 13 (.mv (t 12)),og 14 13 false (.fa 0 (t 2)),og 15 13 false (.load false 1 (t 14)),og 16 13 false (.len (t 15)),og 17 13 false (.bin 0 .gtr (t 16) (i 40)),o 18 (.pick (t 13) (.const (.bool true)) (t 17))]
def r_57_2 : List SOper := [o 4 (.mv (.const (.bool false)))]
def r_57_3 : List SOper := [o 5 (.mv (i 0))]
def r_57_4 : List SOper := [o 19 (.mv (t 5)),o 20 (.fa 0 (t 2)),o 21 (.load false 1 (t 20)),o 22 (.len (t 21)),o 23 (.bin 0 .lss (t 19) (t 22))]
def r_57_5 : List SOper := [o 26 (.fa 0 (t 2)),o 27 (.load false 1 (t 26)),o 28 (.mv (t 5)),o 29 (.ia 1 (t 27) (t 28)),o 30 (.load false 1 (t 29)),o 31 (.len (t 30)),o 32 (.mv (t 1)),o 33 (.bin 0 .neq (t 31) (t 32))]
def r_57_6 : List SOper := [o 4 (.mv (.const (.bool false)))]
def r_57_7 : List SOper := [o 6 (.mv (i 0))]
def r_57_8 : List SOper := [o 34 (.mv (t 6)),o 35 (.mv (t 1)),o 36 (.bin 0 .lss (t 34) (t 35))]
def r_57_9 : List SOper := [o 39 (.fa 0 (t 2)),o 40 (.load false 1 (t 39)),o 41 (.mv (t 5)),o 42 (.ia 1 (t 40) (t 41)),o 43 (.load false 1 (t 42)),o 44 (.mv (t 6)),o 45 (.ia 4 (t 43) (t 44)),o 46 (.load true 4 (t 45)),o 47 (.call f_95 [(t 46)] true),o 48 (.un .not (t 47))]
def r_57_10 : List SOper := [o 4 (.mv (.const (.bool false)))]
def r_57_11 : List SOper := [o 37 (.mv (t 6)),o 38 (.bin 0 .add (t 37) (i 1)),o 6 (.mv (t 38))]
def r_57_12 : List SOper := [o 24 (.mv (t 5)),o 25 (.bin 0 .add (t 24) (i 1)),o 5 (.mv (t 25))]
def r_57_13 : List SOper := [o 4 (.mv (.const (.bool true)))]
def s_57 : SFun := ⟨2, 49, [.tmp 4],
  (.seq (.reg r_57_0) (.seq (.seq (.reg r_57_1) (.cond (t 18) (.seq (.reg r_57_2) .ret) .skip)) (.seq (.seq (.reg r_57_3) (.block 0 (.loop (.seq (.seq (.reg r_57_4) (.cond (t 23) .skip (.exit 0))) (.seq (.block 1 (.seq (.seq (.reg r_57_5) (.cond (t 33) (.seq (.reg r_57_6) .ret) .skip)) (.seq (.reg r_57_7) (.block 2 (.loop (.seq (.seq (.reg r_57_8) (.cond (t 36) .skip (.exit 2))) (.seq (.block 3 (.seq (.reg r_57_9) (.cond (t 48) (.seq (.reg r_57_10) .ret) .skip))) (.reg r_57_11)))))))) (.reg r_57_12)))))) (.seq (.reg r_57_13) .ret))))⟩

def r_58_0 : List SOper := [o 1 (.box T_api_Ext (t 0)),o 2 (.mv (.const (.bool false)))]
def r_58_1 : List SOper := [o 3 (.fa 0 (t 1)),o 4 (.load false 1 (t 3)),o 5 (.bin 0 .eql (t 4) (i 0))]
def r_58_2 : List SOper := [o 6 (.fa 1 (t 1)),o 7 (.load true 4 (t 6)),o 8 (.call f_95 [(t 7)] true),o 2 (.mv (t 8))]
def r_58_3 : List SOper := [o 9 (.fa 0 (t 1)),o 10 (.load false 1 (t 9)),o 11 (.bin 0 .eql (t 10) (i 1)),o 12 (.mv (t 11)),og 13 12 false (.fa 0 (t 1)),og 14 12 false (.load false 1 (t 13)),og 15 12 false (.bin 0 .eql (t 14) (.const (.int .i64 (-1)))),o 16 (.pick (t 12) (.const (.bool true)) (t 15)),o 17 (.mv (t 16)),og 18 17 true (.fa 1 (t 1)),og 19 17 true (.load true 4 (t 18)),og 20 17 true (.call f_96 [(t 19)] true),o 21 (.pick (t 17) (t 20) (.const (.bool false))),o 2 (.mv (t 21))]
def s_58 : SFun := ⟨1, 22, [.tmp 2],
  (.seq (.reg r_58_0) (.seq (.seq (.reg r_58_1) (.cond (t 5) (.seq (.reg r_58_2) .ret) .skip)) (.seq (.reg r_58_3) .ret)))⟩

def r_59_0 : List SOper := [o 1 (.box T_api_Ext (t 0)),o 2 (.alloc T_api_Ext [(.int .i64 0), (.bool false), (.slice none 0 0), (.bool false), (.slice none 0 0)])]
def r_59_1 : List SOper := [o 3 (.load true 5 (t 1)),o 4 (.call f_58 [(t 3)] true),o 5 (.un .not (t 4))]
def r_59_2 : List SOper := [o 6 (.call f_81 [] true),o 7 (.build [(.int .i64 0), (.bool false), (.slice none 0 0), (.bool false), (.slice none 0 0)] [(1, 4, (t 6))]),
  ⟨none, none, .store 5 (t 2) (t 7)⟩]
def r_59_3 : List SOper := [o 8 (.fa 0 (t 1)),o 9 (.load false 1 (t 8)),o 10 (.bin 0 .neq (t 9) (i 0))]
def r_59_4 : List SOper := [o 11 (.load true 5 (t 1)),
  ⟨none, none, .store 5 (t 2) (t 11)⟩]
def r_59_5 : List SOper := [o 12 (.fa 1 (t 1)),o 13 (.load true 4 (t 12)),o 14 (.call f_73 [(t 13)] true),o 15 (.build [(.int .i64 0), (.bool false), (.slice none 0 0), (.bool false), (.slice none 0 0)] [(1, 4, (t 14))]),
  ⟨none, none, .store 5 (t 2) (t 15)⟩]
def s_59 : SFun := ⟨1, 16, [.cell 2 true 5],
  (.seq (.reg r_59_0) (.seq (.seq (.reg r_59_1) (.cond (t 5) (.seq (.reg r_59_2) .ret) .skip)) (.seq (.seq (.reg r_59_3) (.cond (t 10) (.seq (.reg r_59_4) .ret) .skip)) (.seq (.reg r_59_5) .ret))))⟩

def r_60_0 : List SOper := [o 2 (.box T_api_Template (t 0)),o 4 (.mv (.const (.bool false)))]
def r_60_1 : List SOper := [o 9 (.mv (t 1)),o 10 (.bin 0 .lss (t 9) (i 0)),o 11 (.mv (t 10)),og 12 11 false (.mv (t 1)),og 13 11 false (.bin 0 .gtr (t 12) (i 6)),o 14 (.pick (t 11) (.const (.bool true)) (t 13)),o 15 (.mv (t 14)),og 16 15 false (.fa 0 (t 2)),og 17 15 false (.load false 1 (t 16)),og 18 15 false (.len (t 17)),og 19 15 false (.bin 0 .gtr (t 18) (i 40)),o 20 (.pick (t 15) (.const (.bool true)) (t 19))]
def r_60_2 : List SOper := [o 4 (.mv (.const (.bool false)))]
def r_60_3 : List SOper := [o 21 (.fa 0 (t 2)),o 22 (.load false 1 (t 21)),o 23 (.len (t 22)),o 24 (.mv (i 0))]
def r_60_4 : List SOper := [o 25 (.bin 0 .lss (t 24) (t 23))]
def r_60_5 : List SOper := [o 26 (.ia 1 (t 22) (t 24)),o 27 (.load false 1 (t 26)),o 6 (.mv (t 27))]
def r_60_6 : List SOper := [o 28 (.mv (t 6)),o 29 (.len (t 28)),o 30 (.mv (t 1)),o 31 (.bin 0 .neq (t 29) (t 30))]
def r_60_7 : List SOper := [o 4 (.mv (.const (.bool false)))]
def r_60_8 : List SOper := [o 32 (.mv (t 6)),o 33 (.len (t 32)),o 34 (.mv (i 0))]
def r_60_9 : List SOper := [o 35 (.bin 0 .lss (t 34) (t 33))]
def r_60_10 : List SOper := [o 36 (.ia 4 (t 32) (t 34)),o 37 (.load true 4 (t 36)),o 8 (.alloc T_api_Rat [(.bool false), (.slice none 0 0), (.bool false), (.slice none 0 0)]),
  ⟨none, none, .store 4 (t 8) (t 37)⟩]
def r_60_11 : List SOper := [o 38 (.load true 4 (t 8)),o 39 (.call f_97 [(t 38)] true),o 40 (.un .not (t 39))]
def r_60_12 : List SOper := [o 4 (.mv (.const (.bool false)))]
def r_60_13 : List SOper := [o 41 (.bin 0 .add (t 34) (i 1)),o 34 (.mv (t 41))]
def r_60_14 : List SOper := [o 42 (.bin 0 .add (t 24) (i 1)),o 24 (.mv (t 42))]
def r_60_15 : List SOper := [o 4 (.mv (.const (.bool true)))]
def s_60 : SFun := ⟨2, 43, [.tmp 4],
  (.seq (.reg r_60_0) (.seq (.seq (.reg r_60_1) (.cond (t 20) (.seq (.reg r_60_2) .ret) .skip)) (.seq (.seq (.reg r_60_3) (.block 0 (.loop (.seq (.reg r_60_4) (.seq (.cond (t 25) .skip (.exit 0)) (.seq (.block 1 (.seq (.reg r_60_5) (.seq (.seq (.reg r_60_6) (.cond (t 31) (.seq (.reg r_60_7) .ret) .skip)) (.seq (.reg r_60_8) (.block 2 (.loop (.seq (.reg r_60_9) (.seq (.cond (t 35) .skip (.exit 2)) (.seq (.block 3 (.seq (.reg r_60_10) (.seq (.reg r_60_11) (.cond (t 40) (.seq (.reg r_60_12) .ret) .skip)))) (.reg r_60_13)))))))))) (.reg r_60_14))))))) (.seq (.reg r_60_15) .ret))))⟩

def r_61_0 : List SOper := [o 4 (.mv (.const (.bool false)))]
def r_61_1 : List SOper := [o 5 (.mv (t 0)),o 6 (.mv (t 1)),o 7 (.call f_98 [(t 5), (t 6)] true),o 8 (.bin 0 .geq (t 7) (i 0)),o 4 (.mv (t 8))]
def s_61 : SFun := ⟨2, 9, [.tmp 4],
  (.seq (.reg r_61_0) (.seq (.reg r_61_1) .ret))⟩

def r_62_0 : List SOper := [o 1 (.box T_api_Ext (t 0)),o 2 (.mv (.const (.bool false)))]
def r_62_1 : List SOper := [o 3 (.load true 5 (t 1)),o 4 (.call f_63 [(t 3)] true),o 5 (.un .not (t 4)),o 2 (.mv (t 5))]
def s_62 : SFun := ⟨1, 6, [.tmp 2],
  (.seq (.reg r_62_0) (.seq (.reg r_62_1) .ret))⟩

def r_63_0 : List SOper := [o 1 (.box T_api_Ext (t 0)),o 2 (.mv (.const (.bool false)))]
def r_63_1 : List SOper := [o 3 (.fa 0 (t 1)),o 4 (.load false 1 (t 3))]
def r_63_2 : List SOper := [o 6 (.bin 0 .eql (t 4) (.const (.int .i64 (-1)))),o 5 (.mv (t 6))]
def r_63_3 : List SOper := [o 7 (.bin 0 .eql (t 4) (i 1)),o 5 (.mv (t 7))]
def r_63_4 : List SOper := [o 8 (.fa 1 (t 1)),o 9 (.load true 4 (t 8)),o 10 (.call f_99 [(t 9)] true),o 2 (.mv (t 10))]
def r_63_5 : List SOper := [o 12 (.bin 0 .eql (t 4) (i 0)),o 11 (.mv (t 12))]
def r_63_6 : List SOper := [o 13 (.fa 1 (t 1)),o 14 (.load true 4 (t 13)),o 15 (.call f_97 [(t 14)] true),o 2 (.mv (t 15))]
def r_63_7 : List SOper := [o 2 (.mv (.const (.bool false)))]
def s_63 : SFun := ⟨1, 16, [.tmp 2],
  (.seq (.reg r_63_0) (.seq (.seq (.reg r_63_1) (.block 0 (.seq (.seq (.reg r_63_2) (.cond (t 5) .skip (.reg r_63_3))) (.cond (t 5) (.seq (.reg r_63_4) .ret) (.seq (.reg r_63_5) (.cond (t 11) (.seq (.reg r_63_6) .ret) .skip)))))) (.seq (.reg r_63_7) .ret)))⟩

def r_64_0 : List SOper := [o 2 (.box T_api_Ext (t 0)),o 3 (.box T_api_Ext (t 1)),o 4 (.mv (.const (.bool false)))]
def r_64_1 : List SOper := [o 5 (.load true 5 (t 2)),o 6 (.load true 5 (t 3)),o 7 (.call f_53 [(t 5), (t 6)] true),o 8 (.bin 0 .gtr (t 7) (i 0)),o 4 (.mv (t 8))]
def s_64 : SFun := ⟨2, 9, [.tmp 4],
  (.seq (.reg r_64_0) (.seq (.reg r_64_1) .ret))⟩

def r_65_0 : List SOper := [o 4 (.mv (.const (.bool false)))]
def r_65_1 : List SOper := [o 5 (.mv (t 0)),o 6 (.mv (t 1)),o 7 (.call f_100 [(t 5), (t 6)] true),o 8 (.bin 0 .geq (t 7) (i 0)),o 4 (.mv (t 8))]
def s_65 : SFun := ⟨2, 9, [.tmp 4],
  (.seq (.reg r_65_0) (.seq (.reg r_65_1) .ret))⟩

def r_66_0 : List SOper := [o 6 (.mv (.const (.slice none 0 0)))]
def r_66_1 : List SOper := [o 7 (.mv (.const (.slice none 0 0)))]
def r_66_2 : List SOper := [o 9 (.mv (t 0)),o 10 (.len (t 9)),o 11 (.mv (t 1)),o 12 (.len (t 11)),o 13 (.mnx false (t 10) [(t 12)]),o 14 (.mv (i 0))]
def r_66_3 : List SOper := [o 15 (.bin 0 .lss (t 14) (t 13))]
def r_66_4 : List SOper := [o 16 (.mv (t 14)),o 8 (.mv (t 16))]
def r_66_5 : List SOper := [o 17 (.mv (t 7)),o 18 (.mv (t 2)),o 19 (.mv (t 0)),o 20 (.mv (t 8)),o 21 (.ia 5 (t 19) (t 20)),o 22 (.load true 5 (t 21)),o 23 (.mv (t 1)),o 24 (.mv (t 8)),o 25 (.ia 5 (t 23) (t 24)),o 26 (.load true 5 (t 25)),o 27 (.callv (t 18) [(t 22), (t 26)] true),o 28 (.lit T_bool [(.bool false)] 1 [(0, 1, (t 27))]),o 29 (.app T_bool 1 1 (t 17) (t 28)),o 7 (.mv (t 29))]
def r_66_6 : List SOper := [o 30 (.bin 0 .add (t 14) (i 1)),o 14 (.mv (t 30))]
def r_66_7 : List SOper := [o 31 (.mv (t 7)),o 6 (.mv (t 31))]
def s_66 : SFun := ⟨3, 32, [.tmp 6],
  (.seq (.reg r_66_0) (.seq (.reg r_66_1) (.seq (.seq (.reg r_66_2) (.block 0 (.loop (.seq (.reg r_66_3) (.seq (.cond (t 15) .skip (.exit 0)) (.seq (.block 1 (.seq (.reg r_66_4) (.draw r_66_5 [0, 0, 0, 0, 12, 28, 0, 0, 192, 448, 1022, 2046, 4095, 8191] []))) (.reg r_66_6))))))) (.seq (.reg r_66_7) .ret))))⟩

def r_67_0 : List SOper := [o 2 (.box T_api_Ext (t 0)),o 3 (.box T_api_Ext (t 1)),o 4 (.mv (.const (.bool false)))]
def r_67_1 : List SOper := [o 5 (.fa 0 (t 2)),o 6 (.load false 1 (t 5)),o 7 (.fa 0 (t 3)),o 8 (.load false 1 (t 7)),o 9 (.bin 0 .eql (t 6) (t 8)),o 10 (.mv (t 9)),og 11 10 true (.fa 1 (t 2)),og 12 10 true (.load true 4 (t 11)),og 13 10 true (.fa 1 (t 3)),og 14 10 true (.load true 4 (t 13)),og 15 10 true (.call f_94 [(t 12), (t 14)] true),o 16 (.pick (t 10) (t 15) (.const (.bool false))),o 4 (.mv (t 16))]
def s_67 : SFun := ⟨2, 17, [.tmp 4],
  (.seq (.reg r_67_0) (.seq (.reg r_67_1) .ret))⟩

def r_68_0 : List SOper := [o 6 (.mv (.const (.slice none 0 0)))]
def r_68_1 : List SOper := [o 7 (.mv (.const (.slice none 0 0)))]
def r_68_2 : List SOper := [o 9 (.mv (t 0)),o 10 (.len (t 9)),o 11 (.mv (t 1)),o 12 (.len (t 11)),o 13 (.mnx false (t 10) [(t 12)]),o 14 (.mv (i 0))]
def r_68_3 : List SOper := [o 15 (.bin 0 .lss (t 14) (t 13))]
def r_68_4 : List SOper := [o 16 (.mv (t 14)),o 8 (.mv (t 16))]
def r_68_5 : List SOper := [o 17 (.mv (t 7)),o 18 (.mv (t 2)),o 19 (.mv (t 0)),o 20 (.mv (t 8)),o 21 (.ia 5 (t 19) (t 20)),o 22 (.load true 5 (t 21)),o 23 (.mv (t 1)),o 24 (.mv (t 8)),o 25 (.ia 5 (t 23) (t 24)),o 26 (.load true 5 (t 25)),o 27 (.callv (t 18) [(t 22), (t 26)] true),o 28 (.lit T_api_Ext [(.int .i64 0), (.bool false), (.slice none 0 0), (.bool false), (.slice none 0 0)] 1 [(0, 5, (t 27))]),o 29 (.app T_api_Ext 5 72 (t 17) (t 28)),o 7 (.mv (t 29))]
def r_68_6 : List SOper := [o 30 (.bin 0 .add (t 14) (i 1)),o 14 (.mv (t 30))]
def r_68_7 : List SOper := [o 31 (.mv (t 7)),o 6 (.mv (t 31))]
def s_68 : SFun := ⟨3, 32, [.tmp 6],
  (.seq (.reg r_68_0) (.seq (.reg r_68_1) (.seq (.seq (.reg r_68_2) (.block 0 (.loop (.seq (.reg r_68_3) (.seq (.cond (t 15) .skip (.exit 0)) (.seq (.block 1 (.seq (.reg r_68_4) (.draw r_68_5 [0, 0, 0, 0, 12, 28, 0, 0, 192, 448, 1022, 2046, 4095, 8191] []))) (.reg r_68_6))))))) (.seq (.reg r_68_7) .ret))))⟩

def r_69_0 : List SOper := [o 2 (.box T_api_Ext (t 0)),o 3 (.box T_api_Ext (t 1)),o 4 (.alloc T_api_Ext [(.int .i64 0), (.bool false), (.slice none 0 0), (.bool false), (.slice none 0 0)])]
def r_69_1 : List SOper := [o 5 (.load true 5 (t 2)),o 6 (.load true 5 (t 3)),o 7 (.call f_101 [(t 5), (t 6), (.fn f_102)] true),o 8 (.call f_92 [(t 7)] true),
  ⟨none, none, .store 5 (t 4) (t 8)⟩]
def s_69 : SFun := ⟨2, 9, [.cell 4 true 5],
  (.seq (.reg r_69_0) (.seq (.reg r_69_1) .ret))⟩

def r_70_0 : List SOper := [o 2 (.box T_api_Ext (t 0)),o 3 (.box T_api_Ext (t 1)),o 4 (.alloc T_api_Ext [(.int .i64 0), (.bool false), (.slice none 0 0), (.bool false), (.slice none 0 0)])]
def r_70_1 : List SOper := [o 5 (.load true 5 (t 2)),o 6 (.load true 5 (t 3)),o 7 (.call f_55 [(t 5), (t 6)] true),o 8 (.bin 0 .geq (t 7) (i 0))]
def r_70_2 : List SOper := [o 9 (.load true 5 (t 2)),o 10 (.call f_59 [(t 9)] true),
  ⟨none, none, .store 5 (t 4) (t 10)⟩]
def r_70_3 : List SOper := [o 11 (.load true 5 (t 3)),o 12 (.call f_59 [(t 11)] true),
  ⟨none, none, .store 5 (t 4) (t 12)⟩]
def s_70 : SFun := ⟨2, 13, [.cell 4 true 5],
  (.seq (.reg r_70_0) (.seq (.seq (.reg r_70_1) (.cond (t 8) (.seq (.reg r_70_2) .ret) .skip)) (.seq (.reg r_70_3) .ret)))⟩

def r_71_0 : List SOper := [o 2 (.box T_api_Ext (t 0)),o 3 (.box T_api_Ext (t 1)),o 4 (.alloc T_api_Ext [(.int .i64 0), (.bool false), (.slice none 0 0), (.bool false), (.slice none 0 0)])]
def r_71_1 : List SOper := [o 5 (.load true 5 (t 2)),o 6 (.load true 5 (t 3)),o 7 (.call f_101 [(t 5), (t 6), (.fn f_103)] true),o 8 (.call f_92 [(t 7)] true),
  ⟨none, none, .store 5 (t 4) (t 8)⟩]
def s_71 : SFun := ⟨2, 9, [.cell 4 true 5],
  (.seq (.reg r_71_0) (.seq (.reg r_71_1) .ret))⟩

def r_72_0 : List SOper := [o 2 (.box T_api_Ext (t 0)),o 3 (.box T_api_Ext (t 1)),o 4 (.alloc T_api_Ext [(.int .i64 0), (.bool false), (.slice none 0 0), (.bool false), (.slice none 0 0)])]
def r_72_1 : List SOper := [o 5 (.load true 5 (t 2)),o 6 (.load true 5 (t 3)),o 7 (.call f_55 [(t 5), (t 6)] true),o 8 (.bin 0 .leq (t 7) (i 0))]
def r_72_2 : List SOper := [o 9 (.load true 5 (t 2)),o 10 (.call f_59 [(t 9)] true),
  ⟨none, none, .store 5 (t 4) (t 10)⟩]
def r_72_3 : List SOper := [o 11 (.load true 5 (t 3)),o 12 (.call f_59 [(t 11)] true),
  ⟨none, none, .store 5 (t 4) (t 12)⟩]
def s_72 : SFun := ⟨2, 13, [.cell 4 true 5],
  (.seq (.reg r_72_0) (.seq (.seq (.reg r_72_1) (.cond (t 8) (.seq (.reg r_72_2) .ret) .skip)) (.seq (.reg r_72_3) .ret)))⟩

def r_73_0 : List SOper := [o 1 (.box T_api_Rat (t 0)),o 2 (.alloc T_api_Rat [(.bool false), (.slice none 0 0), (.bool false), (.slice none 0 0)])]
def r_73_1 : List SOper := [o 3 (.load true 4 (t 1)),o 4 (.call f_95 [(t 3)] true),o 5 (.un .not (t 4)),o 6 (.mv (t 5)),og 7 6 false (.fa 2 (t 1)),og 8 6 false (.fa 1 (t 7)),og 9 6 false (.load false 1 (t 8)),og 10 6 false (.len (t 9)),og 11 6 false (.bin 0 .eql (t 10) (i 0)),o 12 (.pick (t 6) (.const (.bool true)) (t 11))]
def r_73_2 : List SOper := [o 13 (.call f_81 [] true),
  ⟨none, none, .store 4 (t 2) (t 13)⟩]
def r_73_3 : List SOper := [o 14 (.fa 0 (t 1)),o 15 (.fa 0 (t 14)),o 16 (.load false 1 (t 15)),o 17 (.fa 0 (t 1)),o 18 (.fa 1 (t 17)),o 19 (.load false 1 (t 18)),o 20 (.call f_76 [(t 16), (t 19)] false),o 21 (.fa 2 (t 1)),o 22 (.fa 1 (t 21)),o 23 (.load false 1 (t 22)),o 24 (.call f_76 [(.const (.bool false)), (t 23)] true),o 25 (.build [(.bool false), (.slice none 0 0), (.bool false), (.slice none 0 0)] [(0, 2, (t 20)), (2, 2, (t 24))]),
  ⟨none, none, .store 4 (t 2) (t 25)⟩]
def s_73 : SFun := ⟨1, 26, [.cell 2 true 4],
  (.seq (.reg r_73_0) (.seq (.seq (.reg r_73_1) (.cond (t 12) (.seq (.reg r_73_2) .ret) .skip)) (.seq (.draw r_73_3 [0, 1, 3, 0, 8, 24, 63, 0, 128, 384, 1023, 2047, 4095] []) .ret)))⟩

def r_74_0 : List SOper := [o 2 (.box T_api_Int (t 0)),o 3 (.box T_api_Int (t 1)),o 4 (.mv (i 0))]
def r_74_1 : List SOper := [o 6 (.load true 2 (t 2)),o 7 (.load true 2 (t 3)),o 8 (.call f_104 [(t 6), (t 7)] true),o 5 (.alloc T_api_Int [(.bool false), (.slice none 0 0)]),
  ⟨none, none, .store 2 (t 5) (t 8)⟩]
def r_74_2 : List SOper := [o 9 (.fa 1 (t 5)),o 10 (.load false 1 (t 9)),o 11 (.len (t 10)),o 12 (.bin 0 .eql (t 11) (i 0))]
def r_74_3 : List SOper := [o 4 (.mv (i 0))]
def r_74_4 : List SOper := [o 13 (.fa 0 (t 5)),o 14 (.load false 1 (t 13))]
def r_74_5 : List SOper := [o 4 (.mv (.const (.int .i64 (-1))))]
def r_74_6 : List SOper := [o 4 (.mv (i 1))]
def s_74 : SFun := ⟨2, 15, [.tmp 4],
  (.seq (.reg r_74_0) (.seq (.reg r_74_1) (.seq (.seq (.reg r_74_2) (.cond (t 12) (.seq (.reg r_74_3) .ret) .skip)) (.seq (.seq (.reg r_74_4) (.cond (t 14) (.seq (.reg r_74_5) .ret) .skip)) (.seq (.reg r_74_6) .ret)))))⟩

def r_75_0 : List SOper := [o 2 (.box T_api_Int (t 0)),o 3 (.box T_api_Int (t 1)),o 4 (.alloc T_api_Int [(.bool false), (.slice none 0 0)])]
def r_75_1 : List SOper := [o 5 (.load true 2 (t 2)),o 6 (.call f_105 [(t 5)] true),
  ⟨none, none, .store 2 (t 2) (t 6)⟩]
def r_75_2 : List SOper := [o 7 (.load true 2 (t 3)),o 8 (.call f_105 [(t 7)] true),
  ⟨none, none, .store 2 (t 3) (t 8)⟩]
def r_75_3 : List SOper := [o 9 (.fa 0 (t 2)),o 10 (.load false 1 (t 9)),o 11 (.fa 0 (t 3)),o 12 (.load false 1 (t 11)),o 13 (.bin 1 .neq (t 10) (t 12)),o 14 (.fa 1 (t 2)),o 15 (.load false 1 (t 14)),o 16 (.fa 1 (t 3)),o 17 (.load false 1 (t 16)),o 18 (.call f_106 [(t 15), (t 17)] false),o 19 (.call f_76 [(t 13), (t 18)] true),
  ⟨none, none, .store 2 (t 4) (t 19)⟩]
def s_75 : SFun := ⟨2, 20, [.cell 4 true 2],
  (.seq (.reg r_75_0) (.seq (.reg r_75_1) (.seq (.reg r_75_2) (.seq (.draw r_75_3 [0, 1, 0, 4, 15, 0, 32, 0, 128, 480, 1023, 2047] []) .ret))))⟩

def r_76_0 : List SOper := [o 4 (.alloc T_api_Int [(.bool false), (.slice none 0 0)])]
def r_76_1 : List SOper := [o 5 (.mv (t 1)),o 6 (.call f_107 [(t 5)] true),o 1 (.mv (t 6))]
def r_76_2 : List SOper := [o 7 (.mv (t 1)),o 8 (.len (t 7)),o 9 (.bin 0 .eql (t 8) (i 0))]
def r_76_3 : List SOper := [o 10 (.build [(.bool false), (.slice none 0 0)] []),
  ⟨none, none, .store 2 (t 4) (t 10)⟩]
def r_76_4 : List SOper := [o 11 (.mv (t 0)),o 12 (.lit T_uint32 [(.int .u32 0)] 0 []),o 13 (.mv (t 1)),o 14 (.app T_uint32 1 4 (t 12) (t 13)),o 15 (.build [(.bool false), (.slice none 0 0)] [(0, 1, (t 11)), (1, 1, (t 14))]),
  ⟨none, none, .store 2 (t 4) (t 15)⟩]
def s_76 : SFun := ⟨2, 16, [.cell 4 true 2],
  (.seq (.reg r_76_0) (.seq (.reg r_76_1) (.seq (.seq (.reg r_76_2) (.cond (t 9) (.seq (.reg r_76_3) .ret) .skip)) (.seq (.reg r_76_4) .ret))))⟩

def r_77_0 : List SOper := [o 1 (.box T_api_LP (t 0)),o 2 (.mv (.const (.bool false)))]
def r_77_1 : List SOper := [o 3 (.fa 0 (t 1)),o 4 (.load false 1 (t 3)),o 5 (.bin 0 .lss (t 4) (i 0)),o 6 (.mv (t 5)),og 7 6 false (.fa 0 (t 1)),og 8 6 false (.load false 1 (t 7)),og 9 6 false (.bin 0 .gtr (t 8) (i 60)),o 10 (.pick (t 6) (.const (.bool true)) (t 9)),o 11 (.mv (t 10)),og 12 11 false (.fa 1 (t 1)),og 13 11 false (.load false 1 (t 12)),og 14 11 false (.len (t 13)),og 15 11 false (.bin 0 .gtr (t 14) (i 60)),o 16 (.pick (t 11) (.const (.bool true)) (t 15)),o 17 (.mv (t 16)),og 18 17 false (.fa 2 (t 1)),og 19 17 false (.load false 1 (t 18)),og 20 17 false (.len (t 19)),og 21 17 false (.fa 1 (t 1)),og 22 17 false (.load false 1 (t 21)),og 23 17 false (.len (t 22)),og 24 17 false (.bin 0 .neq (t 20) (t 23)),o 25 (.pick (t 17) (.const (.bool true)) (t 24)),o 26 (.mv (t 25)),og 27 26 false (.fa 3 (t 1)),og 28 26 false (.load false 1 (t 27)),og 29 26 false (.len (t 28)),og 30 26 false (.fa 0 (t 1)),og 31 26 false (.load false 1 (t 30)),og 32 26 false (.bin 0 .neq (t 29) (t 31)),o 33 (.pick (t 26) (.const (.bool true)) (t 32))]
def r_77_2 : List SOper := [o 2 (.mv (.const (.bool false)))]
def r_77_3 : List SOper := [o 34 (.fa 1 (t 1)),o 35 (.load false 1 (t 34)),o 36 (.mkfn (.func f_109) [] [(t 1)]),o 37 (.call f_108 [(t 35), (t 36)] true),o 38 (.un .not (t 37)),o 2 (.mv (t 38))]
def s_77 : SFun := ⟨1, 39, [.tmp 2],
  (.seq (.reg r_77_0) (.seq (.seq (.reg r_77_1) (.cond (t 33) (.seq (.reg r_77_2) .ret) .skip)) (.seq (.reg r_77_3) .ret)))⟩

def r_78_0 : List SOper := [o 1 (.box T_api_LP (t 0)),o 2 (.alloc T_api_Answer [(.int .i64 0), (.bool false), (.slice none 0 0), (.bool false), (.slice none 0 0), (.slice none 0 0), (.slice none 0 0), (.slice none 0 0)]),o 3 (.mv (i 0))]
def r_78_1 : List SOper := [o 8 (.load true 4 (t 1)),o 9 (.call f_110 [(t 8)] true),o 4 (.alloc T_simplex_scaled [(.int .i64 0), (.slice none 0 0), (.slice none 0 0), (.slice none 0 0), (.bool false), (.slice none 0 0), (.bool false), (.slice none 0 0)]),
  ⟨none, none, .store 8 (t 4) (t 9)⟩]
def r_78_2 : List SOper := [o 11 (.load true 4 (t 1)),o 12 (.load true 8 (t 4)),o 13 (.call f_111 [(t 11), (t 12)] true),o 10 (.mv (t 13)),o 14 (.ext (t 10) 0),o 15 (.ext (t 10) 1),o 16 (.ext (t 10) 2),o 5 (.alloc T_api_Answer [(.int .i64 0), (.bool false), (.slice none 0 0), (.bool false), (.slice none 0 0), (.slice none 0 0), (.slice none 0 0), (.slice none 0 0)]),
  ⟨none, none, .store 8 (t 5) (t 14)⟩,o 6 (.mv (t 15)),o 7 (.mv (t 16))]
def r_78_3 : List SOper := [o 17 (.mv (t 7))]
def r_78_4 : List SOper := [o 18 (.load true 8 (t 5)),o 19 (.mv (t 6)),
  ⟨none, none, .store 8 (t 2) (t 18)⟩,o 3 (.mv (t 19))]
def r_78_5 : List SOper := [o 20 (.build [] []),o 21 (.load true 4 (t 1)),o 22 (.load true 8 (t 4)),o 23 (.call f_112 [(t 20), (t 21), (t 22)] true),o 24 (.ext (t 23) 0),o 25 (.ext (t 23) 1),
  ⟨none, none, .store 8 (t 2) (t 24)⟩,o 3 (.mv (t 25))]
def s_78 : SFun := ⟨1, 26, [.cell 2 true 8, .tmp 3],
  (.seq (.reg r_78_0) (.seq (.reg r_78_1) (.seq (.seq (.reg r_78_2) (.seq (.reg r_78_3) (.cond (t 17) (.seq (.reg r_78_4) .ret) .skip))) (.seq (.reg r_78_5) .ret))))⟩

def r_81_0 : List SOper := [o 0 (.alloc T_api_Rat [(.bool false), (.slice none 0 0), (.bool false), (.slice none 0 0)])]
def r_81_1 : List SOper := [o 1 (.call f_39 [(i 1)] true),o 2 (.build [(.bool false), (.slice none 0 0), (.bool false), (.slice none 0 0)] [(2, 2, (t 1))]),
  ⟨none, none, .store 4 (t 0) (t 2)⟩]
def s_81 : SFun := ⟨0, 3, [.cell 0 true 4],
  (.seq (.reg r_81_0) (.seq (.reg r_81_1) .ret))⟩

def r_84_0 : List SOper := [o 1 (.box T_api_Ext (t 0)),o 2 (.mv (.const (.bool false)))]
def r_84_1 : List SOper := [o 3 (.fa 0 (t 1)),o 4 (.load false 1 (t 3)),o 5 (.bin 0 .lss (t 4) (i 0)),o 2 (.mv (t 5))]
def s_84 : SFun := ⟨1, 6, [.tmp 2],
  (.seq (.reg r_84_0) (.seq (.reg r_84_1) .ret))⟩

def r_85_0 : List SOper := [o 1 (.box T_api_Rat (t 0)),o 2 (.alloc T_api_Rat [(.bool false), (.slice none 0 0), (.bool false), (.slice none 0 0)])]
def r_85_1 : List SOper := [o 3 (.load true 4 (t 1)),o 4 (.call f_116 [(t 3)] true),o 5 (.mv (t 4)),og 6 5 false (.load true 4 (t 1)),og 7 5 false (.call f_97 [(t 6)] true),og 8 5 false (.un .not (t 7)),o 9 (.pick (t 5) (.const (.bool true)) (t 8))]
def r_85_2 : List SOper := [o 10 (.call f_117 [] true),o 11 (.build [(.bool false), (.slice none 0 0), (.bool false), (.slice none 0 0)] [(2, 2, (t 10))]),
  ⟨none, none, .store 4 (t 2) (t 11)⟩]
def r_85_3 : List SOper := [o 12 (.fa 0 (t 1)),o 13 (.load true 2 (t 12)),o 14 (.build [(.bool false), (.slice none 0 0)] []),o 15 (.call f_88 [(t 13), (t 14)] false),o 16 (.fa 2 (t 1)),o 17 (.load true 2 (t 16)),o 18 (.build [(.bool false), (.slice none 0 0)] []),o 19 (.call f_88 [(t 17), (t 18)] true),o 20 (.build [(.bool false), (.slice none 0 0), (.bool false), (.slice none 0 0)] [(0, 2, (t 15)), (2, 2, (t 19))]),
  ⟨none, none, .store 4 (t 2) (t 20)⟩]
def s_85 : SFun := ⟨1, 21, [.cell 2 true 4],
  (.seq (.reg r_85_0) (.seq (.seq (.reg r_85_1) (.cond (t 9) (.seq (.reg r_85_2) .ret) .skip)) (.seq (.draw r_85_3 [0, 1, 0, 7, 0, 16, 0, 127, 255, 511] []) .ret)))⟩

def r_86_0 : List SOper := [o 2 (.box T_api_Int (t 0)),o 3 (.box T_api_Int (t 1)),o 4 (.alloc T_api_Rat [(.bool false), (.slice none 0 0), (.bool false), (.slice none 0 0)])]
def r_86_1 : List SOper := [o 8 (.load true 2 (t 2)),o 9 (.load true 2 (t 3)),o 10 (.call f_118 [(t 8), (t 9)] true),o 7 (.mv (t 10)),o 11 (.ext (t 7) 0),o 12 (.ext (t 7) 1),o 5 (.alloc T_api_Rat [(.bool false), (.slice none 0 0), (.bool false), (.slice none 0 0)]),
  ⟨none, none, .store 4 (t 5) (t 11)⟩,o 6 (.mv (t 12))]
def r_86_2 : List SOper := [o 13 (.load true 4 (t 5)),
  ⟨none, none, .store 4 (t 4) (t 13)⟩]
def s_86 : SFun := ⟨2, 14, [.cell 4 true 4],
  (.seq (.reg r_86_0) (.seq (.reg r_86_1) (.seq (.reg r_86_2) .ret)))⟩

def r_87_0 : List SOper := [o 4 (.box T_api_Int (t 1)),o 6 (.alloc T_api_Int [(.bool false), (.slice none 0 0)])]
def r_87_1 : List SOper := [o 9 (.mv (t 2)),o 10 (.len (t 9)),o 11 (.mv (i 0))]
def r_87_2 : List SOper := [o 12 (.bin 0 .lss (t 11) (t 10))]
def r_87_3 : List SOper := [o 13 (.ia 2 (t 9) (t 11)),o 14 (.load true 2 (t 13)),o 8 (.alloc T_api_Int [(.bool false), (.slice none 0 0)]),
  ⟨none, none, .store 2 (t 8) (t 14)⟩]
def r_87_4 : List SOper := [o 15 (.mv (t 0)),o 16 (.load true 2 (t 4)),o 17 (.load true 2 (t 8)),o 18 (.callv (t 15) [(t 16), (t 17)] true),
  ⟨none, none, .store 2 (t 4) (t 18)⟩]
def r_87_5 : List SOper := [o 19 (.bin 0 .add (t 11) (i 1)),o 11 (.mv (t 19))]
def r_87_6 : List SOper := [o 20 (.load true 2 (t 4)),
  ⟨none, none, .store 2 (t 6) (t 20)⟩]
def s_87 : SFun := ⟨3, 21, [.cell 6 true 2],
  (.seq (.reg r_87_0) (.seq (.seq (.reg r_87_1) (.block 0 (.loop (.seq (.reg r_87_2) (.seq (.cond (t 12) .skip (.exit 0)) (.seq (.block 1 (.seq (.reg r_87_3) (.reg r_87_4))) (.reg r_87_5))))))) (.seq (.reg r_87_6) .ret)))⟩

def r_88_0 : List SOper := [o 2 (.box T_api_Int (t 0)),o 3 (.box T_api_Int (t 1)),o 4 (.alloc T_api_Int [(.bool false), (.slice none 0 0)])]
def r_88_1 : List SOper := [o 7 (.load true 2 (t 2)),o 8 (.call f_119 [(t 7)] false),o 9 (.load true 2 (t 3)),o 10 (.call f_119 [(t 9)] true),o 5 (.mv (t 8)),o 6 (.mv (t 10))]
def r_88_2 : List SOper := [o 12 (.load true 2 (t 2)),o 13 (.call f_120 [(t 12)] false),o 14 (.load true 2 (t 3)),o 15 (.call f_120 [(t 14)] true),o 16 (.bin 1 .eql (t 13) (t 15)),o 11 (.mv (t 16))]
def r_88_3 : List SOper := [o 17 (.load true 2 (t 2)),o 18 (.call f_120 [(t 17)] true),o 19 (.mv (t 5)),o 20 (.mv (t 6)),o 21 (.call f_122 [(t 19), (t 20)] true),o 22 (.call f_121 [(t 18), (t 21)] true),
  ⟨none, none, .store 2 (t 4) (t 22)⟩]
def r_88_4 : List SOper := [o 24 (.mv (t 5)),o 25 (.mv (t 6)),o 26 (.call f_123 [(t 24), (t 25)] true),o 27 (.bin 0 .geq (t 26) (i 0)),o 23 (.mv (t 27))]
def r_88_5 : List SOper := [o 28 (.load true 2 (t 2)),o 29 (.call f_120 [(t 28)] true),o 30 (.mv (t 5)),o 31 (.mv (t 6)),o 32 (.call f_124 [(t 30), (t 31)] true),o 33 (.call f_121 [(t 29), (t 32)] true),
  ⟨none, none, .store 2 (t 4) (t 33)⟩]
def r_88_6 : List SOper := [o 34 (.load true 2 (t 3)),o 35 (.call f_120 [(t 34)] true),o 36 (.mv (t 6)),o 37 (.mv (t 5)),o 38 (.call f_124 [(t 36), (t 37)] true),o 39 (.call f_121 [(t 35), (t 38)] true),
  ⟨none, none, .store 2 (t 4) (t 39)⟩]
def s_88 : SFun := ⟨2, 40, [.cell 4 true 2],
  (.seq (.reg r_88_0) (.seq (.draw r_88_1 [0, 1, 0, 7, 15, 31] []) (.seq (.block 0 (.seq (.draw r_88_2 [0, 1, 0, 7, 15, 31] []) (.cond (t 11) (.seq (.reg r_88_3) .ret) (.seq (.reg r_88_4) (.cond (t 23) (.seq (.reg r_88_5) .ret) .skip))))) (.seq (.reg r_88_6) .ret))))⟩

def r_89_0 : List SOper := [o 2 (.box T_api_Int (t 0)),o 3 (.box T_api_Int (t 1)),o 4 (.alloc T_api_Int [(.bool false), (.slice none 0 0)])]
def r_89_1 : List SOper := [o 13 (.load true 2 (t 2)),o 14 (.call f_119 [(t 13)] false),o 15 (.load true 2 (t 3)),o 16 (.call f_119 [(t 15)] true),o 5 (.mv (t 14)),o 6 (.mv (t 16))]
def r_89_2 : List SOper := [o 17 (.mv (t 5)),o 18 (.len (t 17)),o 19 (.mv (t 6)),o 20 (.len (t 19)),o 21 (.bin 0 .add (t 18) (t 20)),o 22 (.mk T_uint32 4 [(.int .u32 0)] (t 21) (t 21)),o 7 (.mv (t 22))]
def r_89_3 : List SOper := [o 23 (.mv (t 5)),o 24 (.len (t 23)),o 25 (.mv (i 0))]
def r_89_4 : List SOper := [o 26 (.bin 0 .lss (t 25) (t 24))]
def r_89_5 : List SOper := [o 27 (.mv (t 25)),o 28 (.ia 1 (t 23) (t 25)),o 29 (.load false 1 (t 28)),o 8 (.mv (t 27)),o 9 (.mv (t 29))]
def r_89_6 : List SOper := [o 10 (.mv (.const (.int .u64 0)))]
def r_89_7 : List SOper := [o 30 (.mv (t 6)),o 31 (.len (t 30)),o 32 (.mv (i 0))]
def r_89_8 : List SOper := [o 33 (.bin 0 .lss (t 32) (t 31))]
def r_89_9 : List SOper := [o 34 (.mv (t 32)),o 35 (.ia 1 (t 30) (t 32)),o 36 (.load false 1 (t 35)),o 11 (.mv (t 34)),o 12 (.mv (t 36))]
def r_89_10 : List SOper := [o 37 (.mv (t 10)),o 38 (.mv (t 9)),o 39 (.conv .u64 (t 38)),o 40 (.mv (t 12)),o 41 (.conv .u64 (t 40)),o 42 (.bin 0 .mul (t 39) (t 41)),o 43 (.mv (t 7)),o 44 (.mv (t 8)),o 45 (.mv (t 11)),o 46 (.bin 0 .add (t 44) (t 45)),o 47 (.ia 1 (t 43) (t 46)),o 48 (.load false 1 (t 47)),o 49 (.conv .u64 (t 48)),o 50 (.bin 0 .add (t 42) (t 49)),o 51 (.bin 0 .add (t 37) (t 50)),o 10 (.mv (t 51))]
def r_89_11 : List SOper := [o 52 (.mv (t 7)),o 53 (.mv (t 8)),o 54 (.mv (t 11)),o 55 (.bin 0 .add (t 53) (t 54)),o 56 (.mv (t 10)),o 57 (.call f_125 [(t 56)] true),o 58 (.ia 1 (t 52) (t 55)),
  ⟨none, none, .store 1 (t 58) (t 57)⟩]
def r_89_12 : List SOper := [o 59 (.mv (t 10)),o 60 (.bin 0 .shr (t 59) (.const (.int .u64 32))),o 10 (.mv (t 60))]
def r_89_13 : List SOper := [o 61 (.bin 0 .add (t 32) (i 1)),o 32 (.mv (t 61))]
def r_89_14 : List SOper := [o 62 (.mv (t 7)),o 63 (.mv (t 8)),o 64 (.mv (t 6)),o 65 (.len (t 64)),o 66 (.bin 0 .add (t 63) (t 65)),o 67 (.mv (t 10)),o 68 (.call f_125 [(t 67)] true),o 69 (.ia 1 (t 62) (t 66)),
  ⟨none, none, .store 1 (t 69) (t 68)⟩]
def r_89_15 : List SOper := [o 70 (.bin 0 .add (t 25) (i 1)),o 25 (.mv (t 70))]
def r_89_16 : List SOper := [o 71 (.load true 2 (t 2)),o 72 (.call f_120 [(t 71)] false),o 73 (.load true 2 (t 3)),o 74 (.call f_120 [(t 73)] true),o 75 (.bin 1 .neq (t 72) (t 74)),o 76 (.mv (t 7)),o 77 (.call f_121 [(t 75), (t 76)] true),
  ⟨none, none, .store 2 (t 4) (t 77)⟩]
def s_89 : SFun := ⟨2, 78, [.cell 4 true 2],
  (.seq (.reg r_89_0) (.seq (.draw r_89_1 [0, 1, 0, 7, 15, 31] []) (.seq (.reg r_89_2) (.seq (.seq (.reg r_89_3) (.block 0 (.loop (.seq (.reg r_89_4) (.seq (.cond (t 26) .skip (.exit 0)) (.seq (.block 1 (.seq (.reg r_89_5) (.seq (.reg r_89_6) (.seq (.seq (.reg r_89_7) (.block 2 (.loop (.seq (.reg r_89_8) (.seq (.cond (t 33) .skip (.exit 2)) (.seq (.block 3 (.seq (.reg r_89_9) (.seq (.reg r_89_10) (.seq (.reg r_89_11) (.reg r_89_12))))) (.reg r_89_13))))))) (.reg r_89_14))))) (.reg r_89_15))))))) (.seq (.draw r_89_16 [0, 1, 0, 7, 15, 0, 63, 127] []) .ret)))))⟩

def r_90_0 : List SOper := [o 2 (.alloc T_api_Rat [(.bool false), (.slice none 0 0), (.bool false), (.slice none 0 0)])]
def r_90_1 : List SOper := [o 3 (.mv (t 0)),o 4 (.call f_126 [(t 3)] true),o 5 (.call f_117 [] true),o 6 (.build [(.bool false), (.slice none 0 0), (.bool false), (.slice none 0 0)] [(0, 2, (t 4)), (2, 2, (t 5))]),
  ⟨none, none, .store 4 (t 2) (t 6)⟩]
def s_90 : SFun := ⟨1, 7, [.cell 2 true 4],
  (.seq (.reg r_90_0) (.seq (.reg r_90_1) .ret))⟩

def r_91_0 : List SOper := [o 2 (.box T_api_Rat (t 0)),o 3 (.box T_api_Rat (t 1)),o 4 (.alloc T_api_Rat [(.bool false), (.slice none 0 0), (.bool false), (.slice none 0 0)])]
def r_91_1 : List SOper := [o 5 (.load true 4 (t 2)),o 6 (.call f_85 [(t 5)] false),o 7 (.load true 4 (t 3)),o 8 (.call f_85 [(t 7)] true),
  ⟨none, none, .store 4 (t 2) (t 6)⟩,
  ⟨none, none, .store 4 (t 3) (t 8)⟩]
def r_91_2 : List SOper := [o 9 (.fa 0 (t 2)),o 10 (.load true 2 (t 9)),o 11 (.fa 0 (t 3)),o 12 (.load true 2 (t 11)),o 13 (.call f_89 [(t 10), (t 12)] false),o 14 (.fa 2 (t 2)),o 15 (.load true 2 (t 14)),o 16 (.fa 2 (t 3)),o 17 (.load true 2 (t 16)),o 18 (.call f_89 [(t 15), (t 17)] true),o 19 (.call f_86 [(t 13), (t 18)] true),
  ⟨none, none, .store 4 (t 4) (t 19)⟩]
def s_91 : SFun := ⟨2, 20, [.cell 4 true 4],
  (.seq (.reg r_91_0) (.seq (.draw r_91_1 [0, 1, 0, 7, 15, 31] []) (.seq (.draw r_91_2 [0, 1, 0, 4, 15, 0, 32, 0, 128, 511, 1023, 2047] []) .ret)))⟩

def r_92_0 : List SOper := [o 1 (.box T_api_Ext (t 0)),o 2 (.alloc T_api_Ext [(.int .i64 0), (.bool false), (.slice none 0 0), (.bool false), (.slice none 0 0)])]
def r_92_1 : List SOper := [o 4 (.load true 5 (t 1)),o 5 (.call f_63 [(t 4)] true),o 6 (.un .not (t 5)),o 3 (.mv (t 6))]
def r_92_2 : List SOper := [o 7 (.build [(.bool false), (.slice none 0 0), (.bool false), (.slice none 0 0)] []),o 8 (.call f_54 [(t 7)] true),
  ⟨none, none, .store 5 (t 2) (t 8)⟩]
def r_92_3 : List SOper := [o 10 (.fa 0 (t 1)),o 11 (.load false 1 (t 10)),o 12 (.bin 0 .eql (t 11) (i 0)),o 9 (.mv (t 12))]
def r_92_4 : List SOper := [o 13 (.fa 1 (t 1)),o 14 (.load true 4 (t 13)),o 15 (.call f_54 [(t 14)] true),
  ⟨none, none, .store 5 (t 2) (t 15)⟩]
def r_92_5 : List SOper := [o 16 (.fa 0 (t 1)),o 17 (.load false 1 (t 16)),o 18 (.build [(.int .i64 0), (.bool false), (.slice none 0 0), (.bool false), (.slice none 0 0)] [(0, 1, (t 17))]),
  ⟨none, none, .store 5 (t 2) (t 18)⟩]
def s_92 : SFun := ⟨1, 19, [.cell 2 true 5],
  (.seq (.reg r_92_0) (.seq (.block 0 (.seq (.reg r_92_1) (.cond (t 3) (.seq (.reg r_92_2) .ret) (.seq (.reg r_92_3) (.cond (t 9) (.seq (.reg r_92_4) .ret) .skip))))) (.seq (.reg r_92_5) .ret)))⟩

def r_93_0 : List SOper := [o 2 (.box T_api_Rat (t 0)),o 3 (.box T_api_Rat (t 1)),o 4 (.mv (i 0))]
def r_93_1 : List SOper := [o 5 (.load true 4 (t 2)),o 6 (.call f_85 [(t 5)] false),o 7 (.load true 4 (t 3)),o 8 (.call f_85 [(t 7)] true),
  ⟨none, none, .store 4 (t 2) (t 6)⟩,
  ⟨none, none, .store 4 (t 3) (t 8)⟩]
def r_93_2 : List SOper := [o 9 (.fa 0 (t 2)),o 10 (.load true 2 (t 9)),o 11 (.fa 2 (t 3)),o 12 (.load true 2 (t 11)),o 13 (.call f_89 [(t 10), (t 12)] false),o 14 (.fa 0 (t 3)),o 15 (.load true 2 (t 14)),o 16 (.fa 2 (t 2)),o 17 (.load true 2 (t 16)),o 18 (.call f_89 [(t 15), (t 17)] true),o 19 (.call f_127 [(t 13), (t 18)] true),o 4 (.mv (t 19))]
def s_93 : SFun := ⟨2, 20, [.tmp 4],
  (.seq (.reg r_93_0) (.seq (.draw r_93_1 [0, 1, 0, 7, 15, 31] []) (.seq (.draw r_93_2 [0, 1, 0, 4, 15, 0, 32, 0, 128, 511, 1023, 2047] []) .ret)))⟩

def r_94_0 : List SOper := [o 2 (.box T_api_Rat (t 0)),o 3 (.box T_api_Rat (t 1)),o 4 (.mv (.const (.bool false)))]
def r_94_1 : List SOper := [o 5 (.fa 0 (t 2)),o 6 (.load true 2 (t 5)),o 7 (.fa 0 (t 3)),o 8 (.load true 2 (t 7)),o 9 (.call f_128 [(t 6), (t 8)] true),o 10 (.mv (t 9)),og 11 10 true (.fa 2 (t 2)),og 12 10 true (.load true 2 (t 11)),og 13 10 true (.fa 2 (t 3)),og 14 10 true (.load true 2 (t 13)),og 15 10 true (.call f_128 [(t 12), (t 14)] true),o 16 (.pick (t 10) (t 15) (.const (.bool false))),o 4 (.mv (t 16))]
def s_94 : SFun := ⟨2, 17, [.tmp 4],
  (.seq (.reg r_94_0) (.seq (.reg r_94_1) .ret))⟩

def r_95_0 : List SOper := [o 1 (.box T_api_Rat (t 0)),o 2 (.mv (.const (.bool false)))]
def r_95_1 : List SOper := [o 4 (.fa 2 (t 1)),o 5 (.fa 1 (t 4)),o 6 (.load false 1 (t 5)),o 7 (.len (t 6)),o 8 (.bin 0 .eql (t 7) (i 0)),o 9 (.mv (t 8)),og 10 9 true (.fa 2 (t 1)),og 11 9 true (.fa 0 (t 10)),og 12 9 true (.load false 1 (t 11)),og 13 9 true (.un .not (t 12)),o 14 (.pick (t 9) (t 13) (.const (.bool false)))]
def r_95_2 : List SOper := [o 15 (.fa 0 (t 1)),o 16 (.fa 1 (t 15)),o 17 (.load false 1 (t 16)),o 18 (.len (t 17)),o 19 (.bin 0 .eql (t 18) (i 0)),o 20 (.mv (t 19)),og 21 20 true (.fa 0 (t 1)),og 22 20 true (.fa 0 (t 21)),og 23 20 true (.load false 1 (t 22)),og 24 20 true (.un .not (t 23)),o 25 (.pick (t 20) (t 24) (.const (.bool false))),o 2 (.mv (t 25))]
def r_95_3 : List SOper := [o 26 (.fa 0 (t 1)),o 27 (.load true 2 (t 26)),o 28 (.fa 2 (t 1)),o 29 (.load true 2 (t 28)),o 30 (.call f_129 [(t 27), (t 29)] true),o 3 (.alloc T_api_Int [(.bool false), (.slice none 0 0)]),
  ⟨none, none, .store 2 (t 3) (t 30)⟩]
def r_95_4 : List SOper := [o 31 (.fa 0 (t 1)),o 32 (.load true 2 (t 31)),o 33 (.call f_130 [(t 32)] true),o 34 (.mv (t 33)),og 35 34 true (.fa 2 (t 1)),og 36 34 true (.load true 2 (t 35)),og 37 34 true (.call f_130 [(t 36)] true),o 38 (.pick (t 34) (t 37) (.const (.bool false))),o 39 (.mv (t 38)),og 40 39 true (.fa 2 (t 1)),og 41 39 true (.fa 0 (t 40)),og 42 39 true (.load false 1 (t 41)),og 43 39 true (.un .not (t 42)),o 44 (.pick (t 39) (t 43) (.const (.bool false))),o 45 (.mv (t 44)),og 46 45 true (.fa 1 (t 3)),og 47 45 true (.load false 1 (t 46)),og 48 45 true (.len (t 47)),og 49 45 true (.bin 0 .eql (t 48) (i 1)),o 50 (.pick (t 45) (t 49) (.const (.bool false))),o 51 (.mv (t 50)),og 52 51 true (.fa 1 (t 3)),og 53 51 true (.load false 1 (t 52)),og 54 51 true (.ia 1 (t 53) (i 0)),og 55 51 true (.load false 1 (t 54)),og 56 51 true (.bin 0 .eql (t 55) (.const (.int .u32 1))),o 57 (.pick (t 51) (t 56) (.const (.bool false))),o 2 (.mv (t 57))]
def s_95 : SFun := ⟨1, 58, [.tmp 2],
  (.seq (.reg r_95_0) (.seq (.seq (.reg r_95_1) (.cond (t 14) (.seq (.reg r_95_2) .ret) .skip)) (.seq (.reg r_95_3) (.seq (.reg r_95_4) .ret))))⟩

def r_96_0 : List SOper := [o 1 (.box T_api_Rat (t 0)),o 2 (.mv (.const (.bool false)))]
def r_96_1 : List SOper := [o 3 (.fa 0 (t 1)),o 4 (.fa 1 (t 3)),o 5 (.load false 1 (t 4)),o 6 (.len (t 5)),o 7 (.bin 0 .eql (t 6) (i 0)),o 8 (.mv (t 7)),og 9 8 true (.fa 0 (t 1)),og 10 8 true (.fa 0 (t 9)),og 11 8 true (.load false 1 (t 10)),og 12 8 true (.un .not (t 11)),o 13 (.pick (t 8) (t 12) (.const (.bool false))),o 14 (.mv (t 13)),og 15 14 true (.fa 2 (t 1)),og 16 14 true (.fa 1 (t 15)),og 17 14 true (.load false 1 (t 16)),og 18 14 true (.len (t 17)),og 19 14 true (.bin 0 .eql (t 18) (i 0)),o 20 (.pick (t 14) (t 19) (.const (.bool false))),o 21 (.mv (t 20)),og 22 21 true (.fa 2 (t 1)),og 23 21 true (.fa 0 (t 22)),og 24 21 true (.load false 1 (t 23)),og 25 21 true (.un .not (t 24)),o 26 (.pick (t 21) (t 25) (.const (.bool false))),o 2 (.mv (t 26))]
def s_96 : SFun := ⟨1, 27, [.tmp 2],
  (.seq (.reg r_96_0) (.seq (.reg r_96_1) .ret))⟩

def r_97_0 : List SOper := [o 1 (.box T_api_Rat (t 0)),o 2 (.mv (.const (.bool false)))]
def r_97_1 : List SOper := [o 3 (.load true 4 (t 1)),o 4 (.call f_116 [(t 3)] true)]
def r_97_2 : List SOper := [o 2 (.mv (.const (.bool true)))]
def r_97_3 : List SOper := [o 5 (.fa 0 (t 1)),o 6 (.load true 2 (t 5)),o 7 (.call f_131 [(t 6)] true),o 8 (.mv (t 7)),og 9 8 true (.fa 2 (t 1)),og 10 8 true (.load true 2 (t 9)),og 11 8 true (.call f_131 [(t 10)] true),o 12 (.pick (t 8) (t 11) (.const (.bool false))),o 13 (.mv (t 12)),og 14 13 true (.fa 2 (t 1)),og 15 13 true (.fa 0 (t 14)),og 16 13 true (.load false 1 (t 15)),og 17 13 true (.un .not (t 16)),o 18 (.pick (t 13) (t 17) (.const (.bool false))),o 19 (.mv (t 18)),og 20 19 true (.fa 2 (t 1)),og 21 19 true (.load true 2 (t 20)),og 22 19 true (.call f_132 [(t 21)] true),og 23 19 true (.un .not (t 22)),o 24 (.pick (t 19) (t 23) (.const (.bool false))),o 25 (.mv (t 24)),og 26 25 true (.fa 0 (t 1)),og 27 25 true (.load true 2 (t 26)),og 28 25 true (.fa 2 (t 1)),og 29 25 true (.load true 2 (t 28)),og 30 25 true (.call f_133 [(t 27), (t 29)] true),og 31 25 true (.call f_117 [] true),og 32 25 true (.call f_127 [(t 30), (t 31)] true),og 33 25 true (.bin 0 .eql (t 32) (i 0)),o 34 (.pick (t 25) (t 33) (.const (.bool false))),o 2 (.mv (t 34))]
def s_97 : SFun := ⟨1, 35, [.tmp 2],
  (.seq (.reg r_97_0) (.seq (.seq (.reg r_97_1) (.cond (t 4) (.seq (.reg r_97_2) .ret) .skip)) (.seq (.reg r_97_3) .ret)))⟩

def r_98_0 : List SOper := [o 4 (.mv (i 0))]
def r_98_1 : List SOper := [o 6 (.mv (t 0)),o 7 (.len (t 6)),o 8 (.mv (i 0))]
def r_98_2 : List SOper := [o 9 (.bin 0 .lss (t 8) (t 7))]
def r_98_3 : List SOper := [o 10 (.mv (t 8)),o 5 (.mv (t 10))]
def r_98_4 : List SOper := [o 11 (.mv (t 1)),o 12 (.mv (t 0)),o 13 (.mv (t 5)),o 14 (.ia 5 (t 12) (t 13)),o 15 (.load true 5 (t 14)),o 16 (.callv (t 11) [(t 15)] true)]
def r_98_5 : List SOper := [o 17 (.mv (t 5)),o 4 (.mv (t 17))]
def r_98_6 : List SOper := [o 18 (.bin 0 .add (t 8) (i 1)),o 8 (.mv (t 18))]
def r_98_7 : List SOper := [o 4 (.mv (.const (.int .i64 (-1))))]
def s_98 : SFun := ⟨2, 19, [.tmp 4],
  (.seq (.reg r_98_0) (.seq (.seq (.reg r_98_1) (.block 0 (.loop (.seq (.reg r_98_2) (.seq (.cond (t 9) .skip (.exit 0)) (.seq (.block 1 (.seq (.reg r_98_3) (.seq (.reg r_98_4) (.cond (t 16) (.seq (.reg r_98_5) .ret) .skip)))) (.reg r_98_6))))))) (.seq (.reg r_98_7) .ret)))⟩

def r_99_0 : List SOper := [o 1 (.box T_api_Rat (t 0)),o 2 (.mv (.const (.bool false)))]
def r_99_1 : List SOper := [o 3 (.fa 0 (t 1)),o 4 (.fa 0 (t 3)),o 5 (.load false 1 (t 4)),o 6 (.un .not (t 5)),o 7 (.mv (t 6)),og 8 7 true (.fa 0 (t 1)),og 9 7 true (.fa 1 (t 8)),og 10 7 true (.load false 1 (t 9)),og 11 7 true (.len (t 10)),og 12 7 true (.bin 0 .eql (t 11) (i 0)),o 13 (.pick (t 7) (t 12) (.const (.bool false))),o 14 (.mv (t 13)),og 15 14 true (.fa 2 (t 1)),og 16 14 true (.fa 0 (t 15)),og 17 14 true (.load false 1 (t 16)),og 18 14 true (.un .not (t 17)),o 19 (.pick (t 14) (t 18) (.const (.bool false))),o 20 (.mv (t 19)),og 21 20 true (.fa 2 (t 1)),og 22 20 true (.fa 1 (t 21)),og 23 20 true (.load false 1 (t 22)),og 24 20 true (.len (t 23)),og 25 20 true (.bin 0 .eql (t 24) (i 0)),o 26 (.pick (t 20) (t 25) (.const (.bool false))),o 2 (.mv (t 26))]
def s_99 : SFun := ⟨1, 27, [.tmp 2],
  (.seq (.reg r_99_0) (.seq (.reg r_99_1) .ret))⟩

def r_100_0 : List SOper := [o 4 (.mv (i 0))]
def r_100_1 : List SOper := [o 6 (.mv (t 0)),o 7 (.len (t 6)),o 8 (.mv (i 0))]
def r_100_2 : List SOper := [o 9 (.bin 0 .lss (t 8) (t 7))]
def r_100_3 : List SOper := [o 10 (.mv (t 8)),o 5 (.mv (t 10))]
def r_100_4 : List SOper := [o 11 (.mv (t 1)),o 12 (.mv (t 0)),o 13 (.mv (t 5)),o 14 (.ia 1 (t 12) (t 13)),o 15 (.load false 1 (t 14)),o 16 (.bin 1 .eql (t 11) (t 15))]
def r_100_5 : List SOper := [o 17 (.mv (t 5)),o 4 (.mv (t 17))]
def r_100_6 : List SOper := [o 18 (.bin 0 .add (t 8) (i 1)),o 8 (.mv (t 18))]
def r_100_7 : List SOper := [o 4 (.mv (.const (.int .i64 (-1))))]
def s_100 : SFun := ⟨2, 19, [.tmp 4],
  (.seq (.reg r_100_0) (.seq (.seq (.reg r_100_1) (.block 0 (.loop (.seq (.reg r_100_2) (.seq (.cond (t 9) .skip (.exit 0)) (.seq (.block 1 (.seq (.reg r_100_3) (.seq (.reg r_100_4) (.cond (t 16) (.seq (.reg r_100_5) .ret) .skip)))) (.reg r_100_6))))))) (.seq (.reg r_100_7) .ret)))⟩

def r_101_0 : List SOper := [o 3 (.box T_api_Ext (t 0)),o 4 (.box T_api_Ext (t 1)),o 6 (.alloc T_api_Ext [(.int .i64 0), (.bool false), (.slice none 0 0), (.bool false), (.slice none 0 0)])]
def r_101_1 : List SOper := [o 7 (.mv (t 2)),o 8 (.load true 5 (t 3)),o 9 (.load true 5 (t 4)),o 10 (.callv (t 7) [(t 8), (t 9)] true)]
def r_101_2 : List SOper := [o 11 (.load true 5 (t 4)),
  ⟨none, none, .store 5 (t 6) (t 11)⟩]
def r_101_3 : List SOper := [o 12 (.load true 5 (t 3)),
  ⟨none, none, .store 5 (t 6) (t 12)⟩]
def s_101 : SFun := ⟨3, 13, [.cell 6 true 5],
  (.seq (.reg r_101_0) (.seq (.seq (.reg r_101_1) (.cond (t 10) (.seq (.reg r_101_2) .ret) .skip)) (.seq (.reg r_101_3) .ret)))⟩

def r_102_0 : List SOper := [o 2 (.box T_api_Ext (t 0)),o 3 (.box T_api_Ext (t 1)),o 4 (.mv (.const (.bool false)))]
def r_102_1 : List SOper := [o 5 (.load true 5 (t 2)),o 6 (.load true 5 (t 3)),o 7 (.call f_53 [(t 5), (t 6)] true),o 8 (.bin 0 .lss (t 7) (i 0)),o 4 (.mv (t 8))]
def s_102 : SFun := ⟨2, 9, [.tmp 4],
  (.seq (.reg r_102_0) (.seq (.reg r_102_1) .ret))⟩

def r_103_0 : List SOper := [o 2 (.box T_api_Ext (t 0)),o 3 (.box T_api_Ext (t 1)),o 4 (.mv (.const (.bool false)))]
def r_103_1 : List SOper := [o 5 (.load true 5 (t 2)),o 6 (.load true 5 (t 3)),o 7 (.call f_53 [(t 5), (t 6)] true),o 8 (.bin 0 .gtr (t 7) (i 0)),o 4 (.mv (t 8))]
def s_103 : SFun := ⟨2, 9, [.tmp 4],
  (.seq (.reg r_103_0) (.seq (.reg r_103_1) .ret))⟩

def r_104_0 : List SOper := [o 2 (.box T_api_Int (t 0)),o 3 (.box T_api_Int (t 1)),o 4 (.alloc T_api_Int [(.bool false), (.slice none 0 0)])]
def r_104_1 : List SOper := [o 5 (.load true 2 (t 2)),o 6 (.load true 2 (t 3)),o 7 (.call f_134 [(t 6)] false),o 8 (.call f_115 [(t 5), (t 7)] true),
  ⟨none, none, .store 2 (t 4) (t 8)⟩]
def s_104 : SFun := ⟨2, 9, [.cell 4 true 2],
  (.seq (.reg r_104_0) (.seq (.draw r_104_1 [0, 0, 2, 7, 15] []) .ret))⟩

def r_105_0 : List SOper := [o 1 (.box T_api_Int (t 0)),o 2 (.alloc T_api_Int [(.bool false), (.slice none 0 0)])]
def r_105_1 : List SOper := [o 3 (.load true 2 (t 1)),o 4 (.call f_130 [(t 3)] true),o 5 (.un .not (t 4))]
def r_105_2 : List SOper := [o 6 (.build [(.bool false), (.slice none 0 0)] []),
  ⟨none, none, .store 2 (t 2) (t 6)⟩]
def r_105_3 : List SOper := [o 7 (.load true 2 (t 1)),
  ⟨none, none, .store 2 (t 2) (t 7)⟩]
def s_105 : SFun := ⟨1, 8, [.cell 2 true 2],
  (.seq (.reg r_105_0) (.seq (.seq (.reg r_105_1) (.cond (t 5) (.seq (.reg r_105_2) .ret) .skip)) (.seq (.reg r_105_3) .ret)))⟩

def r_106_0 : List SOper := [o 4 (.mv (.const (.slice none 0 0)))]
def r_106_1 : List SOper := [o 10 (.mv (t 0)),o 11 (.len (t 10)),o 12 (.mv (t 1)),o 13 (.len (t 12)),o 14 (.bin 0 .add (t 11) (t 13)),o 15 (.mk T_uint32 4 [(.int .u32 0)] (t 14) (t 14)),o 5 (.mv (t 15))]
def r_106_2 : List SOper := [o 6 (.mv (i 0))]
def r_106_3 : List SOper := [o 16 (.mv (t 6)),o 17 (.mv (t 0)),o 18 (.len (t 17)),o 19 (.bin 0 .lss (t 16) (t 18))]
def r_106_4 : List SOper := [o 7 (.mv (.const (.int .u64 0)))]
def r_106_5 : List SOper := [o 8 (.mv (i 0))]
def r_106_6 : List SOper := [o 22 (.mv (t 8)),o 23 (.mv (t 1)),o 24 (.len (t 23)),o 25 (.bin 0 .lss (t 22) (t 24))]
def r_106_7 : List SOper := [o 28 (.mv (t 0)),o 29 (.mv (t 6)),o 30 (.ia 1 (t 28) (t 29)),o 31 (.load false 1 (t 30)),o 32 (.conv .u64 (t 31)),o 33 (.mv (t 1)),o 34 (.mv (t 8)),o 35 (.ia 1 (t 33) (t 34)),o 36 (.load false 1 (t 35)),o 37 (.conv .u64 (t 36)),o 38 (.bin 0 .mul (t 32) (t 37)),o 39 (.mv (t 5)),o 40 (.mv (t 6)),o 41 (.mv (t 8)),o 42 (.bin 0 .add (t 40) (t 41)),o 43 (.ia 1 (t 39) (t 42)),o 44 (.load false 1 (t 43)),o 45 (.conv .u64 (t 44)),o 46 (.bin 0 .add (t 38) (t 45)),o 47 (.mv (t 7)),o 48 (.bin 0 .add (t 46) (t 47)),o 9 (.mv (t 48))]
def r_106_8 : List SOper := [o 49 (.mv (t 5)),o 50 (.mv (t 6)),o 51 (.mv (t 8)),o 52 (.bin 0 .add (t 50) (t 51)),o 53 (.mv (t 9)),o 54 (.conv .u32 (t 53)),o 55 (.ia 1 (t 49) (t 52)),
  ⟨none, none, .store 1 (t 55) (t 54)⟩]
def r_106_9 : List SOper := [o 56 (.mv (t 9)),o 57 (.bin 0 .shr (t 56) (.const (.int .u64 32))),o 7 (.mv (t 57))]
def r_106_10 : List SOper := [o 26 (.mv (t 8)),o 27 (.bin 0 .add (t 26) (i 1)),o 8 (.mv (t 27))]
def r_106_11 : List SOper := [o 58 (.mv (t 5)),o 59 (.mv (t 6)),o 60 (.mv (t 1)),o 61 (.len (t 60)),o 62 (.bin 0 .add (t 59) (t 61)),o 63 (.mv (t 7)),o 64 (.conv .u32 (t 63)),o 65 (.ia 1 (t 58) (t 62)),
  ⟨none, none, .store 1 (t 65) (t 64)⟩]
def r_106_12 : List SOper := [o 20 (.mv (t 6)),o 21 (.bin 0 .add (t 20) (i 1)),o 6 (.mv (t 21))]
def r_106_13 : List SOper := [o 66 (.mv (t 5)),o 67 (.call f_107 [(t 66)] true),o 4 (.mv (t 67))]
def s_106 : SFun := ⟨2, 68, [.tmp 4],
  (.seq (.reg r_106_0) (.seq (.reg r_106_1) (.seq (.seq (.reg r_106_2) (.block 0 (.loop (.seq (.seq (.reg r_106_3) (.cond (t 19) .skip (.exit 0))) (.seq (.block 1 (.seq (.reg r_106_4) (.seq (.seq (.reg r_106_5) (.block 2 (.loop (.seq (.seq (.reg r_106_6) (.cond (t 25) .skip (.exit 2))) (.seq (.block 3 (.seq (.draw r_106_7 [0, 0, 3, 7, 15, 0, 0, 96, 224, 480, 1023, 0, 0, 0, 12288, 30720, 63488, 129024, 262143, 0, 1048575, 2097151] []) (.seq (.reg r_106_8) (.reg r_106_9)))) (.reg r_106_10)))))) (.reg r_106_11)))) (.reg r_106_12)))))) (.seq (.reg r_106_13) .ret))))⟩

def r_107_0 : List SOper := [o 2 (.mv (.const (.slice none 0 0)))]
def r_107_1 : List SOper := [o 4 (.mv (t 0)),o 5 (.len (t 4)),o 3 (.mv (t 5))]
def r_107_2 : List SOper := [o 6 (.mv (t 3)),o 7 (.bin 0 .gtr (t 6) (i 0)),o 8 (.mv (t 7)),og 9 8 true (.mv (t 0)),og 10 8 true (.mv (t 3)),og 11 8 true (.bin 0 .sub (t 10) (i 1)),og 12 8 true (.ia 1 (t 9) (t 11)),og 13 8 true (.load false 1 (t 12)),og 14 8 true (.bin 0 .eql (t 13) (.const (.int .u32 0))),o 15 (.pick (t 8) (t 14) (.const (.bool false)))]
def r_107_3 : List SOper := [o 16 (.mv (t 3)),o 17 (.bin 0 .sub (t 16) (i 1)),o 3 (.mv (t 17))]
def r_107_4 : List SOper := [o 18 (.mv (t 0)),o 19 (.mv (t 3)),o 20 (.sl T_uint32 1 (t 18) none (some (t 19)) none),o 2 (.mv (t 20))]
def s_107 : SFun := ⟨1, 21, [.tmp 2],
  (.seq (.reg r_107_0) (.seq (.reg r_107_1) (.seq (.block 0 (.loop (.seq (.seq (.reg r_107_2) (.cond (t 15) .skip (.exit 0))) (.block 1 (.reg r_107_3))))) (.seq (.reg r_107_4) .ret))))⟩

def r_108_0 : List SOper := [o 4 (.mv (.const (.bool false)))]
def r_108_1 : List SOper := [o 5 (.mv (t 0)),o 6 (.mv (t 1)),o 7 (.call f_135 [(t 5), (t 6)] true),o 8 (.bin 0 .geq (t 7) (i 0)),o 4 (.mv (t 8))]
def s_108 : SFun := ⟨2, 9, [.tmp 4],
  (.seq (.reg r_108_0) (.seq (.reg r_108_1) .ret))⟩

def r_109_0 : List SOper := [o 3 (.mv (.const (.bool false)))]
def r_109_1 : List SOper := [o 4 (.mv (t 0)),o 5 (.len (t 4)),o 6 (.fa 0 (t 1)),o 7 (.load false 1 (t 6)),o 8 (.bin 0 .neq (t 5) (t 7)),o 3 (.mv (t 8))]
def s_109 : SFun := ⟨2, 9, [.tmp 3],
  (.seq (.reg r_109_0) (.seq (.reg r_109_1) .ret))⟩

def r_110_0 : List SOper := [o 1 (.box T_api_LP (t 0)),o 2 (.alloc T_simplex_scaled [(.int .i64 0), (.slice none 0 0), (.slice none 0 0), (.slice none 0 0), (.bool false), (.slice none 0 0), (.bool false), (.slice none 0 0)])]
def r_110_1 : List SOper := [o 8 (.fa 0 (t 1)),o 9 (.load false 1 (t 8)),o 10 (.build [(.int .i64 0), (.slice none 0 0), (.slice none 0 0), (.slice none 0 0), (.bool false), (.slice none 0 0), (.bool false), (.slice none 0 0)] [(0, 1, (t 9))]),o 3 (.alloc T_simplex_scaled [(.int .i64 0), (.slice none 0 0), (.slice none 0 0), (.slice none 0 0), (.bool false), (.slice none 0 0), (.bool false), (.slice none 0 0)]),
  ⟨none, none, .store 8 (t 3) (t 10)⟩]
def r_110_2 : List SOper := [o 11 (.fa 1 (t 1)),o 12 (.load false 1 (t 11)),o 13 (.len (t 12)),o 14 (.mv (i 0))]
def r_110_3 : List SOper := [o 15 (.bin 0 .lss (t 14) (t 13))]
def r_110_4 : List SOper := [o 16 (.mv (t 14)),o 17 (.ia 1 (t 12) (t 14)),o 18 (.load false 1 (t 17)),o 4 (.mv (t 16)),o 5 (.mv (t 18))]
def r_110_5 : List SOper := [o 20 (.mv (t 5)),o 21 (.call f_137 [(t 20)] false),o 22 (.fa 2 (t 1)),o 23 (.load false 1 (t 22)),o 24 (.mv (t 4)),o 25 (.ia 4 (t 23) (t 24)),o 26 (.load true 4 (t 25)),o 27 (.build [(.bool false), (.slice none 0 0), (.bool false), (.slice none 0 0)] []),o 28 (.call f_51 [(t 26), (t 27)] false),o 29 (.lit T_api_Rat [(.bool false), (.slice none 0 0), (.bool false), (.slice none 0 0)] 1 [(0, 4, (t 28))]),o 30 (.app T_api_Rat 4 64 (t 21) (t 29)),o 31 (.call f_136 [(t 30)] false),o 19 (.mv (t 31)),o 32 (.ext (t 19) 0),o 33 (.ext (t 19) 1),o 7 (.alloc T_api_Rat [(.bool false), (.slice none 0 0), (.bool false), (.slice none 0 0)]),o 6 (.mv (t 32)),
  ⟨none, none, .store 4 (t 7) (t 33)⟩]
def r_110_6 : List SOper := [o 34 (.fa 1 (t 3)),o 35 (.load false 1 (t 34)),o 36 (.mv (t 6)),o 37 (.lit T_sl_api_Int [(.slice none 0 0)] 1 [(0, 1, (t 36))]),o 38 (.app T_sl_api_Int 1 24 (t 35) (t 37)),o 39 (.fa 2 (t 3)),o 40 (.load false 1 (t 39)),o 41 (.load true 4 (t 7)),o 42 (.lit T_api_Rat [(.bool false), (.slice none 0 0), (.bool false), (.slice none 0 0)] 1 [(0, 4, (t 41))]),o 43 (.app T_api_Rat 4 64 (t 40) (t 42)),o 44 (.fa 1 (t 3)),
  ⟨none, none, .store 1 (t 44) (t 38)⟩,o 45 (.fa 2 (t 3)),
  ⟨none, none, .store 1 (t 45) (t 43)⟩]
def r_110_7 : List SOper := [o 46 (.bin 0 .add (t 14) (i 1)),o 14 (.mv (t 46))]
def r_110_8 : List SOper := [o 48 (.fa 3 (t 1)),o 49 (.load false 1 (t 48)),o 50 (.call f_137 [(t 49)] true),o 51 (.call f_136 [(t 50)] true),o 47 (.mv (t 51)),o 52 (.ext (t 47) 0),o 53 (.ext (t 47) 1),o 54 (.fa 3 (t 3)),
  ⟨none, none, .store 1 (t 54) (t 52)⟩,o 55 (.fa 4 (t 3)),
  ⟨none, none, .store 4 (t 55) (t 53)⟩]
def r_110_9 : List SOper := [o 56 (.load true 8 (t 3)),
  ⟨none, none, .store 8 (t 2) (t 56)⟩]
def s_110 : SFun := ⟨1, 57, [.cell 2 true 8],
  (.seq (.reg r_110_0) (.seq (.reg r_110_1) (.seq (.seq (.reg r_110_2) (.block 0 (.loop (.seq (.reg r_110_3) (.seq (.cond (t 15) .skip (.exit 0)) (.seq (.block 1 (.seq (.reg r_110_4) (.seq (.draw r_110_5 [0, 1, 0, 4, 0, 28, 60, 0, 255, 511, 1023, 2047, 4095, 8191, 8191, 0, 49151, 131071] [(10, 15)]) (.draw r_110_6 [0, 1, 0, 4, 15, 0, 32, 0, 128, 511, 127, 2047, 4095, 8191] [(4, 6), (4, 7), (4, 8)])))) (.reg r_110_7))))))) (.seq (.reg r_110_8) (.seq (.reg r_110_9) .ret)))))⟩

def r_112_0 : List SOper := [o 3 (.box T_simplex_all (t 0)),o 4 (.box T_api_LP (t 1)),o 5 (.box T_simplex_scaled (t 2)),o 6 (.alloc T_api_Answer [(.int .i64 0), (.bool false), (.slice none 0 0), (.bool false), (.slice none 0 0), (.slice none 0 0), (.slice none 0 0), (.slice none 0 0)]),o 7 (.mv (i 0))]
def r_112_1 : List SOper := [o 16 (.load true 0 (t 3)),o 17 (.load true 8 (t 5)),o 18 (.call f_140 [(t 16), (t 17)] true),o 8 (.alloc T_simplex_tableau_api_Int_simplex_all [(.pointer none)]),
  ⟨none, none, .store 1 (t 8) (t 18)⟩]
def r_112_2 : List SOper := [o 19 (.load false 1 (t 8)),o 20 (.chk (t 19)),o 21 (.fa 1 (t 20)),o 22 (.load false 1 (t 21)),o 23 (.load false 1 (t 8)),o 24 (.chk (t 23)),o 25 (.fa 1 (t 24)),o 26 (.load false 1 (t 25)),o 27 (.bin 0 .add (t 26) (i 1)),o 9 (.mv (t 22)),o 10 (.mv (t 27))]
def r_112_3 : List SOper := [o 28 (.load false 1 (t 8)),o 29 (.mv (t 9)),o 30 (.call f_141 [(t 28), (t 29)] true)]
def r_112_4 : List SOper := [o 31 (.load false 1 (t 8)),o 32 (.chk (t 31)),o 33 (.fa0 T_simplex_tableau_api_Int_simplex_all_150 (t 32)),o 34 (.load true 0 (t 33)),o 35 (.iface T_simplex_all (t 34)),o 36 (.load false 1 (t 8)),o 37 (.chk (t 36)),o 38 (.fa 3 (t 37)),o 39 (.load false 1 (t 38)),o 40 (.mv (t 9)),o 41 (.ia 1 (t 39) (t 40)),o 42 (.load false 1 (t 41)),o 43 (.load false 1 (t 8)),o 44 (.chk (t 43)),o 45 (.fa 2 (t 44)),o 46 (.load false 1 (t 45)),o 47 (.ia 2 (t 42) (t 46)),o 48 (.load true 2 (t 47)),o 49 (.inv (t 35) [(T_simplex_all, f_205), (T_simplex_few, f_212)] [(t 48)] true),o 50 (.bin 0 .lss (t 49) (i 0))]
def r_112_5 : List SOper := [o 51 (.call f_90 [(i 0)] false),o 52 (.load false 1 (t 8)),o 53 (.mv (t 9)),o 54 (.load true 8 (t 5)),o 55 (.call f_90 [(i 1)] false),o 56 (.call f_142 [(t 52), (t 53), (t 54), (t 55)] false),o 57 (.build [(.int .i64 0), (.bool false), (.slice none 0 0), (.bool false), (.slice none 0 0), (.slice none 0 0), (.slice none 0 0), (.slice none 0 0)] [(0, 1, (i 2)), (1, 4, (t 51)), (6, 1, (t 56))]),o 58 (.load false 1 (t 8)),o 59 (.chk (t 58)),o 60 (.fa 7 (t 59)),o 61 (.load false 1 (t 60)),
  ⟨none, none, .store 8 (t 6) (t 57)⟩,o 7 (.mv (t 61))]
def r_112_6 : List SOper := [o 62 (.load false 1 (t 8)),o 63 (.call f_143 [(t 62)] true)]
def r_112_7 : List SOper := [o 64 (.load false 1 (t 8)),o 65 (.mv (t 10)),o 66 (.call f_141 [(t 64), (t 65)] true),o 11 (.mv (t 66))]
def r_112_8 : List SOper := [o 67 (.load false 1 (t 8)),o 68 (.mkfn (.func f_145) [] [(t 8)]),o 69 (.call f_144 [(t 67), (t 68)] true),o 12 (.mv (t 69))]
def r_112_9 : List SOper := [o 70 (.mv (t 11)),o 71 (.bin 0 .geq (t 70) (i 0))]
def r_112_10 : List SOper := [o 72 (.call f_90 [(i 0)] false),o 73 (.mv (t 12)),o 74 (.load false 1 (t 8)),o 75 (.mv (t 11)),o 76 (.call f_146 [(t 74), (t 75)] false),o 77 (.build [(.int .i64 0), (.bool false), (.slice none 0 0), (.bool false), (.slice none 0 0), (.slice none 0 0), (.slice none 0 0), (.slice none 0 0)] [(0, 1, (i 3)), (1, 4, (t 72)), (5, 1, (t 73)), (7, 1, (t 76))]),o 78 (.load false 1 (t 8)),o 79 (.chk (t 78)),o 80 (.fa 7 (t 79)),o 81 (.load false 1 (t 80)),
  ⟨none, none, .store 8 (t 6) (t 77)⟩,o 7 (.mv (t 81))]
def r_112_11 : List SOper := [o 82 (.call f_90 [(i 0)] true),o 13 (.alloc T_api_Rat [(.bool false), (.slice none 0 0), (.bool false), (.slice none 0 0)]),
  ⟨none, none, .store 4 (t 13) (t 82)⟩]
def r_112_12 : List SOper := [o 83 (.fa 3 (t 4)),o 84 (.load false 1 (t 83)),o 85 (.len (t 84)),o 86 (.mv (i 0))]
def r_112_13 : List SOper := [o 87 (.bin 0 .lss (t 86) (t 85))]
def r_112_14 : List SOper := [o 88 (.mv (t 86)),o 89 (.ia 4 (t 84) (t 86)),o 90 (.load true 4 (t 89)),o 15 (.alloc T_api_Rat [(.bool false), (.slice none 0 0), (.bool false), (.slice none 0 0)]),o 14 (.mv (t 88)),
  ⟨none, none, .store 4 (t 15) (t 90)⟩]
def r_112_15 : List SOper := [o 91 (.load true 4 (t 13)),o 92 (.load true 4 (t 15)),o 93 (.mv (t 12)),o 94 (.mv (t 14)),o 95 (.ia 4 (t 93) (t 94)),o 96 (.load true 4 (t 95)),o 97 (.call f_91 [(t 92), (t 96)] false),o 98 (.call f_51 [(t 91), (t 97)] true),
  ⟨none, none, .store 4 (t 13) (t 98)⟩]
def r_112_16 : List SOper := [o 99 (.bin 0 .add (t 86) (i 1)),o 86 (.mv (t 99))]
def r_112_17 : List SOper := [o 100 (.load true 4 (t 13)),o 101 (.mv (t 12)),o 102 (.load false 1 (t 8)),o 103 (.mv (t 10)),o 104 (.load true 8 (t 5)),o 105 (.fa 4 (t 5)),o 106 (.load true 4 (t 105)),o 107 (.call f_142 [(t 102), (t 103), (t 104), (t 106)] false),o 108 (.build [(.int .i64 0), (.bool false), (.slice none 0 0), (.bool false), (.slice none 0 0), (.slice none 0 0), (.slice none 0 0), (.slice none 0 0)] [(0, 1, (i 1)), (1, 4, (t 100)), (5, 1, (t 101)), (6, 1, (t 107))]),o 109 (.load false 1 (t 8)),o 110 (.chk (t 109)),o 111 (.fa 7 (t 110)),o 112 (.load false 1 (t 111)),
  ⟨none, none, .store 8 (t 6) (t 108)⟩,o 7 (.mv (t 112))]
def s_112 : SFun := ⟨3, 113, [.cell 6 true 8, .tmp 7],
  (.seq (.reg r_112_0) (.seq (.reg r_112_1) (.seq (.draw r_112_2 [0, 1, 3, 7, 0, 16, 48, 112, 240, 15, 1023] []) (.seq (.reg r_112_3) (.seq (.seq (.draw r_112_4 [0, 1, 3, 7, 15, 0, 32, 96, 224, 0, 992, 2016, 0, 4096, 12288, 28672, 65504, 131040, 262143, 524287] []) (.cond (t 50) (.seq (.draw r_112_5 [0, 0, 0, 0, 1, 31, 63, 0, 128, 384, 896, 127, 4095] [(7, 11), (10, 11)]) .ret) .skip)) (.seq (.reg r_112_6) (.seq (.reg r_112_7) (.seq (.reg r_112_8) (.seq (.seq (.reg r_112_9) (.cond (t 71) (.seq (.draw r_112_10 [0, 0, 0, 0, 13, 31, 0, 64, 192, 448, 63, 2047] [(6, 10), (9, 10)]) .ret) .skip)) (.seq (.reg r_112_11) (.seq (.seq (.reg r_112_12) (.block 0 (.loop (.seq (.reg r_112_13) (.seq (.cond (t 87) .skip (.exit 0)) (.seq (.block 1 (.seq (.reg r_112_14) (.draw r_112_15 [0, 0, 0, 0, 12, 28, 62, 127, 255] []))) (.reg r_112_16))))))) (.seq (.draw r_112_17 [0, 0, 0, 0, 0, 0, 32, 124, 255, 0, 512, 1536, 3584, 511, 16383] [(9, 13), (12, 13)]) .ret))))))))))))⟩

def r_115_0 : List SOper := [o 2 (.box T_api_Int (t 0)),o 3 (.box T_api_Int (t 1)),o 4 (.alloc T_api_Int [(.bool false), (.slice none 0 0)])]
def r_115_1 : List SOper := [o 5 (.load true 2 (t 2)),o 6 (.call f_105 [(t 5)] true),
  ⟨none, none, .store 2 (t 2) (t 6)⟩]
def r_115_2 : List SOper := [o 7 (.load true 2 (t 3)),o 8 (.call f_105 [(t 7)] true),
  ⟨none, none, .store 2 (t 3) (t 8)⟩]
def r_115_3 : List SOper := [o 9 (.fa 0 (t 2)),o 10 (.load false 1 (t 9)),o 11 (.fa 0 (t 3)),o 12 (.load false 1 (t 11)),o 13 (.bin 1 .eql (t 10) (t 12))]
def r_115_4 : List SOper := [o 14 (.fa 0 (t 2)),o 15 (.load false 1 (t 14)),o 16 (.fa 1 (t 2)),o 17 (.load false 1 (t 16)),o 18 (.fa 1 (t 3)),o 19 (.load false 1 (t 18)),o 20 (.call f_148 [(t 17), (t 19)] false),o 21 (.call f_76 [(t 15), (t 20)] true),
  ⟨none, none, .store 2 (t 4) (t 21)⟩]
def r_115_5 : List SOper := [o 22 (.fa 1 (t 2)),o 23 (.load false 1 (t 22)),o 24 (.fa 1 (t 3)),o 25 (.load false 1 (t 24)),o 26 (.call f_149 [(t 23), (t 25)] true),o 27 (.bin 0 .geq (t 26) (i 0))]
def r_115_6 : List SOper := [o 28 (.fa 0 (t 2)),o 29 (.load false 1 (t 28)),o 30 (.fa 1 (t 2)),o 31 (.load false 1 (t 30)),o 32 (.fa 1 (t 3)),o 33 (.load false 1 (t 32)),o 34 (.call f_150 [(t 31), (t 33)] false),o 35 (.call f_76 [(t 29), (t 34)] true),
  ⟨none, none, .store 2 (t 4) (t 35)⟩]
def r_115_7 : List SOper := [o 36 (.fa 0 (t 3)),o 37 (.load false 1 (t 36)),o 38 (.fa 1 (t 3)),o 39 (.load false 1 (t 38)),o 40 (.fa 1 (t 2)),o 41 (.load false 1 (t 40)),o 42 (.call f_150 [(t 39), (t 41)] false),o 43 (.call f_76 [(t 37), (t 42)] true),
  ⟨none, none, .store 2 (t 4) (t 43)⟩]
def s_115 : SFun := ⟨2, 44, [.cell 4 true 2],
  (.seq (.reg r_115_0) (.seq (.reg r_115_1) (.seq (.reg r_115_2) (.seq (.seq (.reg r_115_3) (.cond (t 13) (.seq (.draw r_115_4 [0, 1, 0, 4, 0, 16, 60, 127, 255] []) .ret) .skip)) (.seq (.seq (.reg r_115_5) (.cond (t 27) (.seq (.draw r_115_6 [0, 1, 0, 4, 0, 16, 60, 127, 255] []) .ret) .skip)) (.seq (.draw r_115_7 [0, 1, 0, 4, 0, 16, 60, 127, 255] []) .ret))))))⟩

def r_116_0 : List SOper := [o 1 (.box T_api_Rat (t 0)),o 2 (.mv (.const (.bool false)))]
def r_116_1 : List SOper := [o 3 (.fa 0 (t 1)),o 4 (.fa 0 (t 3)),o 5 (.load false 1 (t 4)),o 6 (.un .not (t 5)),o 7 (.mv (t 6)),og 8 7 true (.fa 0 (t 1)),og 9 7 true (.fa 1 (t 8)),og 10 7 true (.load false 1 (t 9)),og 11 7 true (.len (t 10)),og 12 7 true (.bin 0 .eql (t 11) (i 0)),o 13 (.pick (t 7) (t 12) (.const (.bool false))),o 14 (.mv (t 13)),og 15 14 true (.fa 2 (t 1)),og 16 14 true (.fa 0 (t 15)),og 17 14 true (.load false 1 (t 16)),og 18 14 true (.un .not (t 17)),o 19 (.pick (t 14) (t 18) (.const (.bool false))),o 20 (.mv (t 19)),og 21 20 true (.fa 2 (t 1)),og 22 20 true (.fa 1 (t 21)),og 23 20 true (.load false 1 (t 22)),og 24 20 true (.len (t 23)),og 25 20 true (.bin 0 .eql (t 24) (i 0)),o 26 (.pick (t 20) (t 25) (.const (.bool false))),o 2 (.mv (t 26))]
def s_116 : SFun := ⟨1, 27, [.tmp 2],
  (.seq (.reg r_116_0) (.seq (.reg r_116_1) .ret))⟩

def r_117_0 : List SOper := [o 0 (.alloc T_api_Int [(.bool false), (.slice none 0 0)])]
def r_117_1 : List SOper := [o 1 (.call f_126 [(i 1)] true),
  ⟨none, none, .store 2 (t 0) (t 1)⟩]
def s_117 : SFun := ⟨0, 2, [.cell 0 true 2],
  (.seq (.reg r_117_0) (.seq (.reg r_117_1) .ret))⟩

def r_118_0 : List SOper := [o 2 (.box T_api_Int (t 0)),o 3 (.box T_api_Int (t 1)),o 4 (.alloc T_api_Rat [(.bool false), (.slice none 0 0), (.bool false), (.slice none 0 0)]),o 5 (.mv (i 0))]
def r_118_1 : List SOper := [o 7 (.load true 2 (t 3)),o 8 (.call f_132 [(t 7)] true)]
def r_118_2 : List SOper := [o 9 (.build [(.bool false), (.slice none 0 0), (.bool false), (.slice none 0 0)] []),
  ⟨none, none, .store 4 (t 4) (t 9)⟩,o 5 (.mv (i 11))]
def r_118_3 : List SOper := [o 10 (.load true 2 (t 2)),o 11 (.load true 2 (t 3)),o 12 (.call f_133 [(t 10), (t 11)] true),o 6 (.alloc T_api_Int [(.bool false), (.slice none 0 0)]),
  ⟨none, none, .store 2 (t 6) (t 12)⟩]
def r_118_4 : List SOper := [o 13 (.load true 2 (t 3)),o 14 (.build [(.bool false), (.slice none 0 0)] []),o 15 (.call f_127 [(t 13), (t 14)] true),o 16 (.bin 0 .lss (t 15) (i 0))]
def r_118_5 : List SOper := [o 17 (.load true 2 (t 6)),o 18 (.call f_151 [(t 17)] true),
  ⟨none, none, .store 2 (t 6) (t 18)⟩]
def r_118_6 : List SOper := [o 20 (.load true 2 (t 2)),o 21 (.load true 2 (t 6)),o 22 (.call f_152 [(t 20), (t 21)] true),o 19 (.mv (t 22)),o 23 (.ext (t 19) 0),o 24 (.ext (t 19) 1),o 25 (.ext (t 19) 2),
  ⟨none, none, .store 2 (t 2) (t 23)⟩]
def r_118_7 : List SOper := [o 27 (.load true 2 (t 3)),o 28 (.load true 2 (t 6)),o 29 (.call f_152 [(t 27), (t 28)] true),o 26 (.mv (t 29)),o 30 (.ext (t 26) 0),o 31 (.ext (t 26) 1),o 32 (.ext (t 26) 2),
  ⟨none, none, .store 2 (t 3) (t 30)⟩]
def r_118_8 : List SOper := [o 33 (.load true 2 (t 2)),o 34 (.load true 2 (t 3)),o 35 (.build [(.bool false), (.slice none 0 0), (.bool false), (.slice none 0 0)] [(0, 2, (t 33)), (2, 2, (t 34))]),
  ⟨none, none, .store 4 (t 4) (t 35)⟩,o 5 (.mv (i 0))]
def s_118 : SFun := ⟨2, 36, [.cell 4 true 4, .tmp 5],
  (.seq (.reg r_118_0) (.seq (.seq (.reg r_118_1) (.cond (t 8) (.seq (.reg r_118_2) .ret) .skip)) (.seq (.reg r_118_3) (.seq (.seq (.reg r_118_4) (.cond (t 16) (.reg r_118_5) .skip)) (.seq (.reg r_118_6) (.seq (.reg r_118_7) (.seq (.reg r_118_8) .ret)))))))⟩

def r_119_0 : List SOper := [o 1 (.box T_api_Int (t 0)),o 2 (.mv (.const (.slice none 0 0)))]
def r_119_1 : List SOper := [o 3 (.load true 2 (t 1)),o 4 (.call f_131 [(t 3)] true),o 5 (.un .not (t 4))]
def r_119_2 : List SOper := [o 2 (.mv (.const (.slice none 0 0)))]
def r_119_3 : List SOper := [o 6 (.fa 1 (t 1)),o 7 (.load false 1 (t 6)),o 2 (.mv (t 7))]
def s_119 : SFun := ⟨1, 8, [.tmp 2],
  (.seq (.reg r_119_0) (.seq (.seq (.reg r_119_1) (.cond (t 5) (.seq (.reg r_119_2) .ret) .skip)) (.seq (.reg r_119_3) .ret)))⟩

def r_120_0 : List SOper := [o 1 (.box T_api_Int (t 0)),o 2 (.mv (.const (.bool false)))]
def r_120_1 : List SOper := [o 3 (.load true 2 (t 1)),o 4 (.call f_131 [(t 3)] true),o 5 (.mv (t 4)),og 6 5 true (.fa 0 (t 1)),og 7 5 true (.load false 1 (t 6)),o 8 (.pick (t 5) (t 7) (.const (.bool false))),o 2 (.mv (t 8))]
def s_120 : SFun := ⟨1, 9, [.tmp 2],
  (.seq (.reg r_120_0) (.seq (.reg r_120_1) .ret))⟩

def r_121_0 : List SOper := [o 4 (.alloc T_api_Int [(.bool false), (.slice none 0 0)])]
def r_121_1 : List SOper := [o 6 (.mv (t 1)),o 7 (.len (t 6)),o 5 (.mv (t 7))]
def r_121_2 : List SOper := [o 8 (.mv (t 5)),o 9 (.bin 0 .gtr (t 8) (i 0)),o 10 (.mv (t 9)),og 11 10 true (.mv (t 1)),og 12 10 true (.mv (t 5)),og 13 10 true (.bin 0 .sub (t 12) (i 1)),og 14 10 true (.ia 1 (t 11) (t 13)),og 15 10 true (.load false 1 (t 14)),og 16 10 true (.bin 0 .eql (t 15) (.const (.int .u32 0))),o 17 (.pick (t 10) (t 16) (.const (.bool false)))]
def r_121_3 : List SOper := [o 18 (.mv (t 5)),o 19 (.bin 0 .sub (t 18) (i 1)),o 5 (.mv (t 19))]
def r_121_4 : List SOper := [o 20 (.mv (t 5)),o 21 (.bin 0 .eql (t 20) (i 0))]
def r_121_5 : List SOper := [o 22 (.build [(.bool false), (.slice none 0 0)] []),
  ⟨none, none, .store 2 (t 4) (t 22)⟩]
def r_121_6 : List SOper := [o 23 (.mv (t 0)),o 24 (.mv (t 1)),o 25 (.mv (t 5)),o 26 (.sl T_uint32 1 (t 24) none (some (t 25)) none),o 27 (.call f_153 [(t 26)] true),o 28 (.build [(.bool false), (.slice none 0 0)] [(0, 1, (t 23)), (1, 1, (t 27))]),
  ⟨none, none, .store 2 (t 4) (t 28)⟩]
def s_121 : SFun := ⟨2, 29, [.cell 4 true 2],
  (.seq (.reg r_121_0) (.seq (.reg r_121_1) (.seq (.block 0 (.loop (.seq (.seq (.reg r_121_2) (.cond (t 17) .skip (.exit 0))) (.block 1 (.reg r_121_3))))) (.seq (.seq (.reg r_121_4) (.cond (t 21) (.seq (.reg r_121_5) .ret) .skip)) (.seq (.reg r_121_6) .ret)))))⟩

def r_122_0 : List SOper := [o 4 (.mv (.const (.slice none 0 0)))]
def r_122_1 : List SOper := [o 9 (.mv (t 0)),o 10 (.len (t 9)),o 11 (.mv (t 1)),o 12 (.len (t 11)),o 13 (.bin 0 .lss (t 10) (t 12))]
def r_122_2 : List SOper := [o 14 (.mv (t 1)),o 15 (.mv (t 0)),o 0 (.mv (t 14)),o 1 (.mv (t 15))]
def r_122_3 : List SOper := [o 16 (.mv (t 0)),o 17 (.len (t 16)),o 18 (.bin 0 .add (t 17) (i 1)),o 19 (.mk T_uint32 4 [(.int .u32 0)] (i 0) (t 18)),o 5 (.mv (t 19))]
def r_122_4 : List SOper := [o 6 (.mv (.const (.int .u64 0)))]
def r_122_5 : List SOper := [o 20 (.mv (t 0)),o 21 (.len (t 20)),o 22 (.mv (i 0))]
def r_122_6 : List SOper := [o 23 (.bin 0 .lss (t 22) (t 21))]
def r_122_7 : List SOper := [o 24 (.mv (t 22)),o 25 (.ia 1 (t 20) (t 22)),o 26 (.load false 1 (t 25)),o 7 (.mv (t 24)),o 8 (.mv (t 26))]
def r_122_8 : List SOper := [o 27 (.mv (t 6)),o 28 (.mv (t 8)),o 29 (.conv .u64 (t 28)),o 30 (.bin 0 .add (t 27) (t 29)),o 6 (.mv (t 30))]
def r_122_9 : List SOper := [o 31 (.mv (t 7)),o 32 (.mv (t 1)),o 33 (.len (t 32)),o 34 (.bin 0 .lss (t 31) (t 33))]
def r_122_10 : List SOper := [o 35 (.mv (t 6)),o 36 (.mv (t 1)),o 37 (.mv (t 7)),o 38 (.ia 1 (t 36) (t 37)),o 39 (.load false 1 (t 38)),o 40 (.conv .u64 (t 39)),o 41 (.bin 0 .add (t 35) (t 40)),o 6 (.mv (t 41))]
def r_122_11 : List SOper := [o 42 (.mv (t 5)),o 43 (.mv (t 6)),o 44 (.call f_125 [(t 43)] true),o 45 (.lit T_uint32 [(.int .u32 0)] 1 [(0, 1, (t 44))]),o 46 (.app T_uint32 1 4 (t 42) (t 45)),o 5 (.mv (t 46))]
def r_122_12 : List SOper := [o 47 (.mv (t 6)),o 48 (.bin 0 .shr (t 47) (.const (.int .u64 32))),o 6 (.mv (t 48))]
def r_122_13 : List SOper := [o 49 (.bin 0 .add (t 22) (i 1)),o 22 (.mv (t 49))]
def r_122_14 : List SOper := [o 50 (.mv (t 5)),o 51 (.mv (t 6)),o 52 (.call f_125 [(t 51)] true),o 53 (.lit T_uint32 [(.int .u32 0)] 1 [(0, 1, (t 52))]),o 54 (.app T_uint32 1 4 (t 50) (t 53)),o 4 (.mv (t 54))]
def s_122 : SFun := ⟨2, 55, [.tmp 4],
  (.seq (.reg r_122_0) (.seq (.seq (.reg r_122_1) (.cond (t 13) (.reg r_122_2) .skip)) (.seq (.reg r_122_3) (.seq (.reg r_122_4) (.seq (.seq (.reg r_122_5) (.block 0 (.loop (.seq (.reg r_122_6) (.seq (.cond (t 23) .skip (.exit 0)) (.seq (.block 1 (.seq (.reg r_122_7) (.seq (.reg r_122_8) (.seq (.seq (.reg r_122_9) (.cond (t 34) (.reg r_122_10) .skip)) (.seq (.reg r_122_11) (.reg r_122_12)))))) (.reg r_122_13))))))) (.seq (.reg r_122_14) .ret))))))⟩

def r_123_0 : List SOper := [o 4 (.mv (i 0))]
def r_123_1 : List SOper := [o 6 (.mv (t 0)),o 7 (.len (t 6)),o 8 (.mv (t 1)),o 9 (.len (t 8)),o 10 (.bin 0 .neq (t 7) (t 9))]
def r_123_2 : List SOper := [o 11 (.mv (t 0)),o 12 (.len (t 11)),o 13 (.mv (t 1)),o 14 (.len (t 13)),o 15 (.call f_154 [(t 12), (t 14)] true),o 4 (.mv (t 15))]
def r_123_3 : List SOper := [o 16 (.mv (t 0)),o 17 (.len (t 16)),o 18 (.bin 0 .sub (t 17) (i 1)),o 5 (.mv (t 18))]
def r_123_4 : List SOper := [o 19 (.mv (t 5)),o 20 (.bin 0 .geq (t 19) (i 0))]
def r_123_5 : List SOper := [o 23 (.mv (t 0)),o 24 (.mv (t 5)),o 25 (.ia 1 (t 23) (t 24)),o 26 (.load false 1 (t 25)),o 27 (.mv (t 1)),o 28 (.mv (t 5)),o 29 (.ia 1 (t 27) (t 28)),o 30 (.load false 1 (t 29)),o 31 (.bin 0 .neq (t 26) (t 30))]
def r_123_6 : List SOper := [o 32 (.mv (t 0)),o 33 (.mv (t 5)),o 34 (.ia 1 (t 32) (t 33)),o 35 (.load false 1 (t 34)),o 36 (.mv (t 1)),o 37 (.mv (t 5)),o 38 (.ia 1 (t 36) (t 37)),o 39 (.load false 1 (t 38)),o 40 (.call f_155 [(t 35), (t 39)] true),o 4 (.mv (t 40))]
def r_123_7 : List SOper := [o 21 (.mv (t 5)),o 22 (.bin 0 .sub (t 21) (i 1)),o 5 (.mv (t 22))]
def r_123_8 : List SOper := [o 4 (.mv (i 0))]
def s_123 : SFun := ⟨2, 41, [.tmp 4],
  (.seq (.reg r_123_0) (.seq (.seq (.reg r_123_1) (.cond (t 10) (.seq (.reg r_123_2) .ret) .skip)) (.seq (.seq (.reg r_123_3) (.block 0 (.loop (.seq (.seq (.reg r_123_4) (.cond (t 20) .skip (.exit 0))) (.seq (.block 1 (.seq (.draw r_123_5 [0, 0, 3, 7, 0, 0, 48, 112, 255] []) (.cond (t 31) (.seq (.draw r_123_6 [0, 0, 3, 7, 0, 0, 48, 112, 255, 511] []) .ret) .skip))) (.reg r_123_7)))))) (.seq (.reg r_123_8) .ret))))⟩

def r_124_0 : List SOper := [o 4 (.mv (.const (.slice none 0 0)))]
def r_124_1 : List SOper := [o 11 (.mv (t 0)),o 12 (.len (t 11)),o 13 (.mk T_uint32 4 [(.int .u32 0)] (i 0) (t 12)),o 5 (.mv (t 13))]
def r_124_2 : List SOper := [o 6 (.mv (.const (.int .u64 0)))]
def r_124_3 : List SOper := [o 14 (.mv (t 0)),o 15 (.len (t 14)),o 16 (.mv (i 0))]
def r_124_4 : List SOper := [o 17 (.bin 0 .lss (t 16) (t 15))]
def r_124_5 : List SOper := [o 18 (.mv (t 16)),o 19 (.ia 1 (t 14) (t 16)),o 20 (.load false 1 (t 19)),o 7 (.mv (t 18)),o 8 (.mv (t 20))]
def r_124_6 : List SOper := [o 21 (.mv (t 6)),o 9 (.mv (t 21))]
def r_124_7 : List SOper := [o 22 (.mv (t 7)),o 23 (.mv (t 1)),o 24 (.len (t 23)),o 25 (.bin 0 .lss (t 22) (t 24))]
def r_124_8 : List SOper := [o 26 (.mv (t 9)),o 27 (.mv (t 1)),o 28 (.mv (t 7)),o 29 (.ia 1 (t 27) (t 28)),o 30 (.load false 1 (t 29)),o 31 (.conv .u64 (t 30)),o 32 (.bin 0 .add (t 26) (t 31)),o 9 (.mv (t 32))]
def r_124_9 : List SOper := [o 33 (.mv (t 8)),o 34 (.conv .u64 (t 33)),o 35 (.mv (t 9)),o 36 (.bin 0 .sub (t 34) (t 35)),o 10 (.mv (t 36))]
def r_124_10 : List SOper := [o 37 (.mv (t 5)),o 38 (.mv (t 10)),o 39 (.call f_125 [(t 38)] true),o 40 (.lit T_uint32 [(.int .u32 0)] 1 [(0, 1, (t 39))]),o 41 (.app T_uint32 1 4 (t 37) (t 40)),o 5 (.mv (t 41))]
def r_124_11 : List SOper := [o 42 (.mv (t 10)),o 43 (.bin 0 .shr (t 42) (.const (.int .u64 63))),o 6 (.mv (t 43))]
def r_124_12 : List SOper := [o 44 (.bin 0 .add (t 16) (i 1)),o 16 (.mv (t 44))]
def r_124_13 : List SOper := [o 45 (.mv (t 5)),o 4 (.mv (t 45))]
def s_124 : SFun := ⟨2, 46, [.tmp 4],
  (.seq (.reg r_124_0) (.seq (.reg r_124_1) (.seq (.reg r_124_2) (.seq (.seq (.reg r_124_3) (.block 0 (.loop (.seq (.reg r_124_4) (.seq (.cond (t 17) .skip (.exit 0)) (.seq (.block 1 (.seq (.reg r_124_5) (.seq (.reg r_124_6) (.seq (.seq (.reg r_124_7) (.cond (t 25) (.reg r_124_8) .skip)) (.seq (.reg r_124_9) (.seq (.reg r_124_10) (.reg r_124_11))))))) (.reg r_124_12))))))) (.seq (.reg r_124_13) .ret)))))⟩

def r_125_0 : List SOper := [o 2 (.mv (.const (.int .u32 0)))]
def r_125_1 : List SOper := [o 3 (.mv (t 0)),o 4 (.conv .u32 (t 3)),o 2 (.mv (t 4))]
def s_125 : SFun := ⟨1, 5, [.tmp 2],
  (.seq (.reg r_125_0) (.seq (.reg r_125_1) .ret))⟩

def r_126_0 : List SOper := [o 2 (.alloc T_api_Int [(.bool false), (.slice none 0 0)])]
def r_126_1 : List SOper := [o 4 (.mv (t 0)),o 5 (.conv .u64 (t 4)),o 3 (.mv (t 5))]
def r_126_2 : List SOper := [o 6 (.mv (t 0)),o 7 (.bin 0 .lss (t 6) (i 0))]
def r_126_3 : List SOper := [o 8 (.mv (t 3)),o 9 (.un .neg (t 8)),o 3 (.mv (t 9))]
def r_126_4 : List SOper := [o 10 (.mv (t 0)),o 11 (.bin 0 .lss (t 10) (i 0)),o 12 (.mv (t 3)),o 13 (.call f_125 [(t 12)] true),o 14 (.mv (t 3)),o 15 (.bin 0 .shr (t 14) (.const (.int .u64 32))),o 16 (.call f_125 [(t 15)] true),o 17 (.lit T_uint32 [(.int .u32 0)] 2 [(0, 1, (t 13)), (1, 1, (t 16))]),o 18 (.call f_121 [(t 11), (t 17)] true),
  ⟨none, none, .store 2 (t 2) (t 18)⟩]
def s_126 : SFun := ⟨1, 19, [.cell 2 true 2],
  (.seq (.reg r_126_0) (.seq (.reg r_126_1) (.seq (.seq (.reg r_126_2) (.cond (t 7) (.reg r_126_3) .skip)) (.seq (.reg r_126_4) .ret))))⟩

def r_127_0 : List SOper := [o 2 (.box T_api_Int (t 0)),o 3 (.box T_api_Int (t 1)),o 4 (.mv (i 0))]
def r_127_1 : List SOper := [o 6 (.load true 2 (t 2)),o 7 (.call f_120 [(t 6)] true),o 8 (.mv (t 7)),og 9 8 true (.load true 2 (t 3)),og 10 8 true (.call f_120 [(t 9)] true),og 11 8 true (.un .not (t 10)),o 12 (.pick (t 8) (t 11) (.const (.bool false))),o 5 (.mv (t 12))]
def r_127_2 : List SOper := [o 4 (.mv (.const (.int .i64 (-1))))]
def r_127_3 : List SOper := [o 14 (.load true 2 (t 2)),o 15 (.call f_120 [(t 14)] true),o 16 (.un .not (t 15)),o 17 (.mv (t 16)),og 18 17 true (.load true 2 (t 3)),og 19 17 true (.call f_120 [(t 18)] true),o 20 (.pick (t 17) (t 19) (.const (.bool false))),o 13 (.mv (t 20))]
def r_127_4 : List SOper := [o 4 (.mv (i 1))]
def r_127_5 : List SOper := [o 22 (.load true 2 (t 2)),o 23 (.call f_120 [(t 22)] true),o 21 (.mv (t 23))]
def r_127_6 : List SOper := [o 24 (.load true 2 (t 3)),o 25 (.call f_119 [(t 24)] false),o 26 (.load true 2 (t 2)),o 27 (.call f_119 [(t 26)] true),o 28 (.call f_123 [(t 25), (t 27)] true),o 4 (.mv (t 28))]
def r_127_7 : List SOper := [o 29 (.load true 2 (t 2)),o 30 (.call f_119 [(t 29)] false),o 31 (.load true 2 (t 3)),o 32 (.call f_119 [(t 31)] true),o 33 (.call f_123 [(t 30), (t 32)] true),o 4 (.mv (t 33))]
def s_127 : SFun := ⟨2, 34, [.tmp 4],
  (.seq (.reg r_127_0) (.seq (.block 0 (.seq (.reg r_127_1) (.cond (t 5) (.seq (.reg r_127_2) .ret) (.seq (.reg r_127_3) (.cond (t 13) (.seq (.reg r_127_4) .ret) (.seq (.reg r_127_5) (.cond (t 21) (.seq (.draw r_127_6 [0, 1, 0, 7, 15, 31] []) .ret) .skip))))))) (.seq (.draw r_127_7 [0, 1, 0, 7, 15, 31] []) .ret)))⟩

def r_128_0 : List SOper := [o 2 (.box T_api_Int (t 0)),o 3 (.box T_api_Int (t 1)),o 4 (.mv (.const (.bool false)))]
def r_128_1 : List SOper := [o 6 (.fa 0 (t 2)),o 7 (.load false 1 (t 6)),o 8 (.fa 0 (t 3)),o 9 (.load false 1 (t 8)),o 10 (.bin 1 .neq (t 7) (t 9)),o 11 (.mv (t 10)),og 12 11 false (.fa 1 (t 2)),og 13 11 false (.load false 1 (t 12)),og 14 11 false (.len (t 13)),og 15 11 false (.fa 1 (t 3)),og 16 11 false (.load false 1 (t 15)),og 17 11 false (.len (t 16)),og 18 11 false (.bin 0 .neq (t 14) (t 17)),o 19 (.pick (t 11) (.const (.bool true)) (t 18))]
def r_128_2 : List SOper := [o 4 (.mv (.const (.bool false)))]
def r_128_3 : List SOper := [o 5 (.mv (i 0))]
def r_128_4 : List SOper := [o 20 (.mv (t 5)),o 21 (.fa 1 (t 2)),o 22 (.load false 1 (t 21)),o 23 (.len (t 22)),o 24 (.bin 0 .lss (t 20) (t 23))]
def r_128_5 : List SOper := [o 27 (.fa 1 (t 2)),o 28 (.load false 1 (t 27)),o 29 (.mv (t 5)),o 30 (.ia 1 (t 28) (t 29)),o 31 (.load false 1 (t 30)),o 32 (.fa 1 (t 3)),o 33 (.load false 1 (t 32)),o 34 (.mv (t 5)),o 35 (.ia 1 (t 33) (t 34)),o 36 (.load false 1 (t 35)),o 37 (.bin 0 .neq (t 31) (t 36))]
def r_128_6 : List SOper := [o 4 (.mv (.const (.bool false)))]
def r_128_7 : List SOper := [o 25 (.mv (t 5)),o 26 (.bin 0 .add (t 25) (i 1)),o 5 (.mv (t 26))]
def r_128_8 : List SOper := [o 4 (.mv (.const (.bool true)))]
def s_128 : SFun := ⟨2, 38, [.tmp 4],
  (.seq (.reg r_128_0) (.seq (.seq (.reg r_128_1) (.cond (t 19) (.seq (.reg r_128_2) .ret) .skip)) (.seq (.seq (.reg r_128_3) (.block 0 (.loop (.seq (.seq (.reg r_128_4) (.cond (t 24) .skip (.exit 0))) (.seq (.block 1 (.seq (.draw r_128_5 [0, 1, 0, 7, 15, 0, 32, 0, 224, 480, 1023] []) (.cond (t 37) (.seq (.reg r_128_6) .ret) .skip))) (.reg r_128_7)))))) (.seq (.reg r_128_8) .ret))))⟩

def r_129_0 : List SOper := [o 2 (.box T_api_Int (t 0)),o 3 (.box T_api_Int (t 1)),o 4 (.alloc T_api_Int [(.bool false), (.slice none 0 0)])]
def r_129_1 : List SOper := [o 9 (.load true 2 (t 2)),o 10 (.call f_105 [(t 9)] false),o 11 (.fld false 1 1 (t 10)),o 12 (.load true 2 (t 3)),o 13 (.call f_105 [(t 12)] true),o 14 (.fld false 1 1 (t 13)),o 5 (.mv (t 11)),o 6 (.mv (t 14))]
def r_129_2 : List SOper := [o 15 (.mv (t 6)),o 16 (.len (t 15)),o 17 (.bin 0 .gtr (t 16) (i 0))]
def r_129_3 : List SOper := [o 19 (.mv (t 5)),o 20 (.mv (t 6)),o 21 (.call f_156 [(t 19), (t 20)] true),o 18 (.mv (t 21)),o 22 (.ext (t 18) 0),o 23 (.ext (t 18) 1),o 7 (.mv (t 22)),o 8 (.mv (t 23))]
def r_129_4 : List SOper := [o 24 (.mv (t 6)),o 5 (.mv (t 24))]
def r_129_5 : List SOper := [o 25 (.mv (t 8)),o 6 (.mv (t 25))]
def r_129_6 : List SOper := [o 26 (.mv (t 5)),o 27 (.call f_76 [(.const (.bool false)), (t 26)] true),
  ⟨none, none, .store 2 (t 4) (t 27)⟩]
def s_129 : SFun := ⟨2, 28, [.cell 4 true 2],
  (.seq (.reg r_129_0) (.seq (.draw r_129_1 [0, 1, 3, 0, 11, 27, 31, 127] []) (.seq (.block 0 (.loop (.seq (.seq (.reg r_129_2) (.cond (t 17) .skip (.exit 0))) (.block 1 (.seq (.reg r_129_3) (.seq (.reg r_129_4) (.reg r_129_5))))))) (.seq (.reg r_129_6) .ret))))⟩

def r_130_0 : List SOper := [o 1 (.box T_api_Int (t 0)),o 2 (.mv (.const (.bool false)))]
def r_130_1 : List SOper := [o 4 (.fa 1 (t 1)),o 5 (.load false 1 (t 4)),o 6 (.len (t 5)),o 3 (.mv (t 6))]
def r_130_2 : List SOper := [o 7 (.mv (t 3)),o 8 (.bin 0 .eql (t 7) (i 0)),o 9 (.mv (t 8)),og 10 9 true (.fa 0 (t 1)),og 11 9 true (.load false 1 (t 10)),og 12 9 true (.un .not (t 11)),o 13 (.pick (t 9) (t 12) (.const (.bool false))),o 14 (.mv (t 13)),og 15 14 false (.mv (t 3)),og 16 14 false (.bin 0 .gtr (t 15) (i 0)),og 17 14 false (.mv (t 16)),og 18 17 true (.fa 1 (t 1)),og 19 17 true (.load false 1 (t 18)),og 20 17 true (.mv (t 3)),og 21 17 true (.bin 0 .sub (t 20) (i 1)),og 22 17 true (.ia 1 (t 19) (t 21)),og 23 17 true (.load false 1 (t 22)),og 24 17 true (.bin 0 .neq (t 23) (.const (.int .u32 0))),og 25 14 false (.pick (t 17) (t 24) (.const (.bool false))),o 26 (.pick (t 14) (.const (.bool true)) (t 25)),o 2 (.mv (t 26))]
def s_130 : SFun := ⟨1, 27, [.tmp 2],
  (.seq (.reg r_130_0) (.seq (.reg r_130_1) (.seq (.reg r_130_2) .ret)))⟩

def r_131_0 : List SOper := [o 1 (.box T_api_Int (t 0)),o 2 (.mv (.const (.bool false)))]
def r_131_1 : List SOper := [o 3 (.fa 1 (t 1)),o 4 (.load false 1 (t 3)),o 5 (.len (t 4)),o 6 (.bin 0 .eql (t 5) (i 0))]
def r_131_2 : List SOper := [o 7 (.fa 0 (t 1)),o 8 (.load false 1 (t 7)),o 9 (.un .not (t 8)),o 2 (.mv (t 9))]
def r_131_3 : List SOper := [o 10 (.fa 1 (t 1)),o 11 (.load false 1 (t 10)),o 12 (.fa 1 (t 1)),o 13 (.load false 1 (t 12)),o 14 (.len (t 13)),o 15 (.bin 0 .sub (t 14) (i 1)),o 16 (.ia 1 (t 11) (t 15)),o 17 (.load false 1 (t 16)),o 18 (.bin 0 .neq (t 17) (.const (.int .u32 0))),o 2 (.mv (t 18))]
def s_131 : SFun := ⟨1, 19, [.tmp 2],
  (.seq (.reg r_131_0) (.seq (.seq (.reg r_131_1) (.cond (t 6) (.seq (.reg r_131_2) .ret) .skip)) (.seq (.reg r_131_3) .ret)))⟩

def r_132_0 : List SOper := [o 1 (.box T_api_Int (t 0)),o 2 (.mv (.const (.bool false)))]
def r_132_1 : List SOper := [o 3 (.load true 2 (t 1)),o 4 (.build [(.bool false), (.slice none 0 0)] []),o 5 (.call f_127 [(t 3), (t 4)] true),o 6 (.bin 0 .eql (t 5) (i 0)),o 2 (.mv (t 6))]
def s_132 : SFun := ⟨1, 7, [.tmp 2],
  (.seq (.reg r_132_0) (.seq (.reg r_132_1) .ret))⟩

def r_133_0 : List SOper := [o 2 (.box T_api_Int (t 0)),o 3 (.box T_api_Int (t 1)),o 4 (.alloc T_api_Int [(.bool false), (.slice none 0 0)])]
def r_133_1 : List SOper := [o 10 (.load true 2 (t 2)),o 11 (.call f_119 [(t 10)] false),o 12 (.call f_121 [(.const (.bool false)), (t 11)] false),o 13 (.load true 2 (t 3)),o 14 (.call f_119 [(t 13)] false),o 15 (.call f_121 [(.const (.bool false)), (t 14)] false),o 5 (.alloc T_api_Int [(.bool false), (.slice none 0 0)]),o 6 (.alloc T_api_Int [(.bool false), (.slice none 0 0)]),
  ⟨none, none, .store 2 (t 5) (t 12)⟩,
  ⟨none, none, .store 2 (t 6) (t 15)⟩]
def r_133_2 : List SOper := [o 16 (.fa 1 (t 6)),o 17 (.load false 1 (t 16)),o 18 (.len (t 17)),o 19 (.bin 0 .gtr (t 18) (i 0))]
def r_133_3 : List SOper := [o 21 (.load true 2 (t 5)),o 22 (.load true 2 (t 6)),o 23 (.call f_152 [(t 21), (t 22)] true),o 20 (.mv (t 23)),o 24 (.ext (t 20) 0),o 25 (.ext (t 20) 1),o 26 (.ext (t 20) 2),o 7 (.alloc T_api_Int [(.bool false), (.slice none 0 0)]),o 8 (.alloc T_api_Int [(.bool false), (.slice none 0 0)]),
  ⟨none, none, .store 2 (t 7) (t 24)⟩,
  ⟨none, none, .store 2 (t 8) (t 25)⟩,o 9 (.mv (t 26))]
def r_133_4 : List SOper := [o 27 (.load true 2 (t 6)),o 28 (.load true 2 (t 8)),
  ⟨none, none, .store 2 (t 5) (t 27)⟩,
  ⟨none, none, .store 2 (t 6) (t 28)⟩]
def r_133_5 : List SOper := [o 29 (.load true 2 (t 5)),
  ⟨none, none, .store 2 (t 4) (t 29)⟩]
def s_133 : SFun := ⟨2, 30, [.cell 4 true 2],
  (.seq (.reg r_133_0) (.seq (.draw r_133_1 [0, 1, 3, 0, 15, 31, 0, 0, 255, 511] []) (.seq (.block 0 (.loop (.seq (.seq (.reg r_133_2) (.cond (t 19) .skip (.exit 0))) (.block 1 (.seq (.reg r_133_3) (.draw r_133_4 [0, 0, 1, 7] [(1, 2)])))))) (.seq (.reg r_133_5) .ret))))⟩


end Go.Proofs.YtjlohmnnldbjoaaGreat.AI
