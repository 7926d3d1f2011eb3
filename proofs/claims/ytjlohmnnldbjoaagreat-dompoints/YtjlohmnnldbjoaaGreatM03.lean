/- Part 4 of the proof: AiCode0, AiCode1. -/
import Derived.Test.YtjlohmnnldbjoaaGreatM00
set_option linter.unusedVariables false
set_option linter.unusedSimpArgs false
set_option linter.unusedSectionVars false

/- The small code of the program's functions: printed. -/
namespace Go.Proofs.YtjlohmnnldbjoaaGreat.AI
open Go
abbrev o (d : Nat) (x : SOp) : SOper := ⟨some d, none, x⟩
abbrev og (d g : Nat) (b : Bool) (x : SOp) : SOper := ⟨some d, some (g, b), x⟩
abbrev t (n : Nat) : Opd := .tmp n
abbrev i (n : Int) : Opd := .const (.int .i64 n)
abbrev mV (d s : Nat) : SOper := ⟨some d, none, .mv (.tmp s)⟩
abbrev lD (d s : Nat) : SOper := ⟨some d, none, .load false 1 (.tmp s)⟩
abbrev lA (d n s : Nat) : SOper := ⟨some d, none, .load true n (.tmp s)⟩
abbrev fA (d n s : Nat) : SOper := ⟨some d, none, .fa n (.tmp s)⟩
abbrev iA (d n x y : Nat) : SOper := ⟨some d, none, .ia n (.tmp x) (.tmp y)⟩
abbrev lN (d s : Nat) : SOper := ⟨some d, none, .len (.tmp s)⟩
abbrev cK (d s : Nat) : SOper := ⟨some d, none, .chk (.tmp s)⟩
abbrev SS : Type := List SOper
abbrev SF : Type := SFun
abbrev gR : List SOper → SCode := .reg
abbrev qS : SCode → SCode → SCode := .seq

abbrev f_4 : Nat := 4
abbrev f_12 : Nat := 12
abbrev f_13 : Nat := 13
abbrev f_14 : Nat := 14
abbrev f_15 : Nat := 15
abbrev f_17 : Nat := 17
abbrev f_18 : Nat := 18
abbrev f_19 : Nat := 19
abbrev f_20 : Nat := 20
abbrev f_21 : Nat := 21
abbrev f_22 : Nat := 22
abbrev f_23 : Nat := 23
abbrev f_24 : Nat := 24
abbrev f_25 : Nat := 25
abbrev f_26 : Nat := 26
abbrev f_27 : Nat := 27
abbrev f_35 : Nat := 35
abbrev f_36 : Nat := 36
abbrev f_37 : Nat := 37
abbrev f_38 : Nat := 38
abbrev f_39 : Nat := 39
abbrev f_40 : Nat := 40
abbrev f_41 : Nat := 41
abbrev f_45 : Nat := 45
abbrev f_48 : Nat := 48
abbrev f_49 : Nat := 49
abbrev f_50 : Nat := 50
abbrev f_51 : Nat := 51
abbrev f_52 : Nat := 52
abbrev f_53 : Nat := 53
abbrev f_54 : Nat := 54
abbrev f_55 : Nat := 55
abbrev f_56 : Nat := 56
abbrev f_57 : Nat := 57
abbrev f_58 : Nat := 58
abbrev f_59 : Nat := 59
abbrev f_60 : Nat := 60
abbrev f_61 : Nat := 61
abbrev f_62 : Nat := 62
abbrev f_63 : Nat := 63
abbrev f_73 : Nat := 73
abbrev f_74 : Nat := 74
abbrev f_75 : Nat := 75
abbrev f_76 : Nat := 76
abbrev f_77 : Nat := 77
abbrev f_78 : Nat := 78
abbrev f_79 : Nat := 79
abbrev f_81 : Nat := 81
abbrev f_82 : Nat := 82
abbrev f_83 : Nat := 83
abbrev f_84 : Nat := 84
abbrev f_85 : Nat := 85
abbrev f_86 : Nat := 86
abbrev f_87 : Nat := 87
abbrev f_88 : Nat := 88
abbrev f_89 : Nat := 89
abbrev f_90 : Nat := 90
abbrev f_91 : Nat := 91
abbrev f_92 : Nat := 92
abbrev f_93 : Nat := 93
abbrev f_94 : Nat := 94
abbrev f_95 : Nat := 95
abbrev f_96 : Nat := 96
abbrev f_97 : Nat := 97
abbrev f_98 : Nat := 98
abbrev f_99 : Nat := 99
abbrev f_104 : Nat := 104
abbrev f_105 : Nat := 105
abbrev f_106 : Nat := 106
abbrev f_107 : Nat := 107
abbrev f_108 : Nat := 108
abbrev f_109 : Nat := 109
abbrev f_110 : Nat := 110
abbrev f_111 : Nat := 111
abbrev f_112 : Nat := 112
abbrev f_114 : Nat := 114
abbrev f_115 : Nat := 115
abbrev f_116 : Nat := 116
abbrev f_117 : Nat := 117
abbrev f_118 : Nat := 118
abbrev f_119 : Nat := 119
abbrev f_120 : Nat := 120
abbrev f_121 : Nat := 121
abbrev f_122 : Nat := 122
abbrev f_123 : Nat := 123
abbrev f_124 : Nat := 124
abbrev f_125 : Nat := 125
abbrev f_126 : Nat := 126
abbrev f_127 : Nat := 127
abbrev f_128 : Nat := 128
abbrev f_129 : Nat := 129
abbrev f_130 : Nat := 130
abbrev f_131 : Nat := 131
abbrev f_132 : Nat := 132
abbrev f_133 : Nat := 133
abbrev f_134 : Nat := 134
abbrev f_135 : Nat := 135
abbrev f_136 : Nat := 136
abbrev f_137 : Nat := 137
abbrev f_138 : Nat := 138
abbrev f_139 : Nat := 139
abbrev f_140 : Nat := 140
abbrev f_141 : Nat := 141
abbrev f_142 : Nat := 142
abbrev f_143 : Nat := 143
abbrev f_144 : Nat := 144
abbrev f_145 : Nat := 145
abbrev f_146 : Nat := 146
abbrev f_147 : Nat := 147
abbrev f_148 : Nat := 148
abbrev f_149 : Nat := 149
abbrev f_150 : Nat := 150
abbrev f_151 : Nat := 151
abbrev f_152 : Nat := 152
abbrev f_153 : Nat := 153
abbrev f_154 : Nat := 154
abbrev f_155 : Nat := 155
abbrev f_156 : Nat := 156
abbrev f_157 : Nat := 157
abbrev f_158 : Nat := 158
abbrev f_159 : Nat := 159
abbrev f_160 : Nat := 160
abbrev f_161 : Nat := 161
abbrev f_162 : Nat := 162
abbrev f_163 : Nat := 163
abbrev f_164 : Nat := 164
abbrev f_165 : Nat := 165
abbrev f_166 : Nat := 166
abbrev f_167 : Nat := 167
abbrev f_168 : Nat := 168
abbrev f_169 : Nat := 169
abbrev f_170 : Nat := 170
abbrev f_171 : Nat := 171
abbrev f_172 : Nat := 172
abbrev f_173 : Nat := 173
abbrev f_174 : Nat := 174
abbrev f_175 : Nat := 175
abbrev f_176 : Nat := 176
abbrev f_177 : Nat := 177
abbrev f_178 : Nat := 178
abbrev f_179 : Nat := 179
abbrev f_180 : Nat := 180
abbrev f_181 : Nat := 181
abbrev f_182 : Nat := 182
abbrev f_183 : Nat := 183
abbrev f_184 : Nat := 184
abbrev f_185 : Nat := 185
abbrev f_201 : Nat := 201
abbrev f_202 : Nat := 202
abbrev f_203 : Nat := 203
abbrev f_204 : Nat := 204
abbrev f_205 : Nat := 205
abbrev f_206 : Nat := 206
abbrev f_207 : Nat := 207
abbrev f_208 : Nat := 208
abbrev f_209 : Nat := 209
abbrev f_210 : Nat := 210
abbrev f_211 : Nat := 211
abbrev f_212 : Nat := 212
abbrev f_213 : Nat := 213
abbrev f_214 : Nat := 214
abbrev f_215 : Nat := 215
abbrev f_216 : Nat := 216
abbrev T_int64 : Nat := 2
abbrev T_int : Nat := 3
abbrev T_bool : Nat := 4
abbrev T_api_Template : Nat := 25
abbrev T_api_Int : Nat := 30
abbrev T_api_Rat : Nat := 32
abbrev T_api_Ext : Nat := 34
abbrev T_sl_api_Rat : Nat := 37
abbrev T_api_Answer : Nat := 40
abbrev T_api_LP : Nat := 45
abbrev T_uint32 : Nat := 103
abbrev T_sl_api_Int : Nat := 123
abbrev T_simplex_scaled : Nat := 125
abbrev T_simplex_all : Nat := 131
abbrev T_simplex_few : Nat := 145
abbrev T_simplex_tableau_api_Int_simplex_all : Nat := 146
abbrev T_simplex_tableau_api_Int_simplex_all_150 : Nat := 150
abbrev T_simplex_tableau_int64_simplex_few : Nat := 163
abbrev T_simplex_tableau_int64_simplex_few_167 : Nat := 167
abbrev T_sl_int64 : Nat := 169
abbrev T_simplex_wide : Nat := 208
def r_4_0 : SS := [o 4 (.box T_api_Template (t 0)),o 8 (.mv (.const (.bool false)))]
def r_4_1 : SS := [fA 13 0 4,lD 14 13,o 15 (.call f_18 [(t 14)] true),mV 16 15,og 17 16 false (.mv (t 2)),og 18 16 false (.call f_19 [(t 17)] true),o 19 (.pick (t 16) (.const (.bool true)) (t 18)),mV 20 19,og 21 20 false (.mv (t 3)),og 22 20 false (.lit T_sl_api_Rat [(.slice none 0 0)] 1 [(0, 1, (t 21))]),og 23 20 false (.call f_18 [(t 22)] true),o 24 (.pick (t 20) (.const (.bool true)) (t 23))]
def r_4_2 : SS := [o 25 (.call f_17 [] true),mV 8 25]
def r_4_3 : SS := [lA 27 1 4,mV 28 1,mV 29 2,o 30 (.call f_20 [(t 27), (t 28), (t 29)] true),mV 26 30,o 31 (.ext (t 26) 0),o 32 (.ext (t 26) 1),o 9 (.alloc T_api_LP [(.int .i64 0), (.slice none 0 0), (.slice none 0 0), (.slice none 0 0)]),
  ⟨none, none, .store 4 (t 9) (t 31)⟩,mV 10 32]
def r_4_4 : SS := [lA 34 1 4,mV 35 1,mV 36 2,o 37 (.call f_14 [(t 34), (t 35), (t 36)] true),mV 33 37,o 38 (.ext (t 33) 0),o 39 (.ext (t 33) 1),o 11 (.alloc T_api_LP [(.int .i64 0), (.slice none 0 0), (.slice none 0 0), (.slice none 0 0)]),
  ⟨none, none, .store 4 (t 11) (t 38)⟩,mV 12 39]
def r_4_5 : SS := [lA 40 1 4,mV 41 2,mV 42 3,o 43 (.call f_21 [(t 40), (t 41), (t 42)] false),lA 44 1 4,mV 45 2,mV 46 3,o 47 (.call f_22 [(t 44), (t 45), (t 46)] true),o 48 (.bin 1 .eql (t 43) (t 47)),mV 49 48,og 50 49 true (.load true 4 (t 9)),og 51 49 true (.load true 4 (t 11)),og 52 49 true (.call f_23 [(t 50), (t 51)] true),o 53 (.pick (t 49) (t 52) (.const (.bool false))),mV 54 53,og 55 54 true (.mv (t 10)),og 56 54 true (.mv (t 12)),og 57 54 true (.bin 1 .eql (t 55) (t 56)),o 58 (.pick (t 54) (t 57) (.const (.bool false))),mV 59 58,og 60 59 true (.call f_17 [] true),o 61 (.pick (t 59) (t 60) (.const (.bool false))),mV 8 61]
def s_4 : SF := ⟨4, 62, [.tmp 8],
  (qS (gR r_4_0) (qS (qS (gR r_4_1) (.cond (t 24) (qS (gR r_4_2) .ret) .skip)) (qS (gR r_4_3) (qS (gR r_4_4) (qS (.draw r_4_5 [0, 0, 0, 7, 0, 0, 0, 127, 255, 511, 1023, 1023, 4095, 8191, 16383, 32767, 32767, 131071, 262143, 524287, 1048575, 2097151, 4194303] []) .ret)))))⟩

def r_12_0 : SS := [o 2 (.alloc T_api_Rat [(.bool false), (.slice none 0 0), (.bool false), (.slice none 0 0)])]
def r_12_1 : SS := [mV 3 0,o 4 (.call f_39 [(t 3)] true),o 5 (.call f_39 [(i 1)] true),o 6 (.build [(.bool false), (.slice none 0 0), (.bool false), (.slice none 0 0)] [(0, 2, (t 4)), (2, 2, (t 5))]),
  ⟨none, none, .store 4 (t 2) (t 6)⟩]
def s_12 : SF := ⟨1, 7, [.cell 2 true 4],
  (qS (gR r_12_0) (qS (gR r_12_1) .ret))⟩

def r_13_0 : SS := [o 3 (.box T_api_Template (t 0)),o 6 (.mv (.const (.bool false))),o 7 (.alloc T_api_Answer [(.int .i64 0), (.bool false), (.slice none 0 0), (.bool false), (.slice none 0 0), (.slice none 0 0), (.slice none 0 0), (.slice none 0 0)]),o 8 (.mv (i 0))]
def r_13_1 : SS := [lA 14 1 3,mV 15 1,mV 16 2,o 17 (.call f_27 [(t 14), (t 15), (t 16)] true),o 18 (.un .not (t 17))]
def r_13_2 : SS := [o 19 (.build [(.int .i64 0), (.bool false), (.slice none 0 0), (.bool false), (.slice none 0 0), (.slice none 0 0), (.slice none 0 0), (.slice none 0 0)] []),o 6 (.mv (.const (.bool false))),
  ⟨none, none, .store 8 (t 7) (t 19)⟩,o 8 (.mv (i 1))]
def r_13_3 : SS := [lA 21 1 3,mV 22 1,mV 23 2,o 24 (.call f_20 [(t 21), (t 22), (t 23)] true),mV 20 24,o 25 (.ext (t 20) 0),o 26 (.ext (t 20) 1),o 9 (.alloc T_api_LP [(.int .i64 0), (.slice none 0 0), (.slice none 0 0), (.slice none 0 0)]),
  ⟨none, none, .store 4 (t 9) (t 25)⟩,mV 10 26]
def r_13_4 : SS := [mV 27 10,o 28 (.un .not (t 27))]
def r_13_5 : SS := [o 29 (.build [(.int .i64 0), (.bool false), (.slice none 0 0), (.bool false), (.slice none 0 0), (.slice none 0 0), (.slice none 0 0), (.slice none 0 0)] []),o 6 (.mv (.const (.bool true))),
  ⟨none, none, .store 8 (t 7) (t 29)⟩,o 8 (.mv (i 0))]
def r_13_6 : SS := [lA 31 4 9,o 32 (.call f_40 [(t 31)] true),mV 30 32,o 33 (.ext (t 30) 0),o 34 (.ext (t 30) 1),o 35 (.ext (t 30) 2),o 11 (.alloc T_api_Answer [(.int .i64 0), (.bool false), (.slice none 0 0), (.bool false), (.slice none 0 0), (.slice none 0 0), (.slice none 0 0), (.slice none 0 0)]),
  ⟨none, none, .store 8 (t 11) (t 33)⟩,mV 12 34,mV 13 35]
def r_13_7 : SS := [fA 36 0 11,lD 37 36,o 38 (.bin 0 .eql (t 37) (i 2)),lA 39 8 11,mV 40 13,mV 6 38,
  ⟨none, none, .store 8 (t 7) (t 39)⟩,mV 8 40]
def s_13 : SF := ⟨3, 41, [.tmp 6, .cell 7 true 8, .tmp 8],
  (qS (gR r_13_0) (qS (qS (gR r_13_1) (.cond (t 18) (qS (gR r_13_2) .ret) .skip)) (qS (gR r_13_3) (qS (qS (gR r_13_4) (.cond (t 28) (qS (gR r_13_5) .ret) .skip)) (qS (gR r_13_6) (qS (.draw r_13_7 [0, 1, 3, 0, 0, 7, 47, 127] []) .ret))))))⟩

def r_14_0 : SS := [o 3 (.box T_api_Template (t 0)),o 6 (.alloc T_api_LP [(.int .i64 0), (.slice none 0 0), (.slice none 0 0), (.slice none 0 0)]),o 7 (.mv (.const (.bool false)))]
def r_14_1 : SS := [lA 8 1 3,mV 9 1,mV 10 2,o 11 (.call f_24 [(t 8), (t 9), (t 10)] true),o 12 (.un .not (t 11)),mV 13 12,og 14 13 false (.mv (t 2)),og 15 13 false (.call f_25 [(t 14)] true),o 16 (.pick (t 13) (.const (.bool true)) (t 15))]
def r_14_2 : SS := [o 17 (.build [(.int .i64 0), (.slice none 0 0), (.slice none 0 0), (.slice none 0 0)] []),
  ⟨none, none, .store 4 (t 6) (t 17)⟩,o 7 (.mv (.const (.bool false)))]
def r_14_3 : SS := [lA 18 1 3,mV 19 1,mV 20 2,o 21 (.call f_41 [(t 18), (t 19), (i 0), (t 20)] true),
  ⟨none, none, .store 4 (t 6) (t 21)⟩,o 7 (.mv (.const (.bool true)))]
def s_14 : SF := ⟨3, 22, [.cell 6 true 4, .tmp 7],
  (qS (gR r_14_0) (qS (qS (gR r_14_1) (.cond (t 16) (qS (gR r_14_2) .ret) .skip)) (qS (gR r_14_3) .ret)))⟩

def r_15_0 : SS := [o 2 (.mv (i 0))]
def r_15_1 : SS := [mV 3 0,mV 2 3]
def s_15 : SF := ⟨1, 4, [.tmp 2],
  (qS (gR r_15_0) (qS (gR r_15_1) .ret))⟩

def r_17_0 : SS := [o 0 (.mv (.const (.bool false)))]
def r_17_1 : SS := [o 5 (.call f_26 [(i 1)] true),o 6 (.call f_12 [(i 3)] true),o 7 (.build [(.int .i64 0), (.bool false), (.slice none 0 0), (.bool false), (.slice none 0 0)] [(1, 4, (t 6))]),o 8 (.call f_12 [(.const (.int .i64 (-4)))] true),o 9 (.build [(.int .i64 0), (.bool false), (.slice none 0 0), (.bool false), (.slice none 0 0)] [(1, 4, (t 8))]),o 10 (.lit T_api_Ext [(.int .i64 0), (.bool false), (.slice none 0 0), (.bool false), (.slice none 0 0)] 2 [(0, 5, (t 7)), (5, 5, (t 9))]),o 11 (.call f_13 [(t 5), (i 1), (t 10)] true),mV 4 11,o 12 (.ext (t 4) 0),o 13 (.ext (t 4) 1),o 14 (.ext (t 4) 2),o 2 (.alloc T_api_Answer [(.int .i64 0), (.bool false), (.slice none 0 0), (.bool false), (.slice none 0 0), (.slice none 0 0), (.slice none 0 0), (.slice none 0 0)]),mV 1 12,
  ⟨none, none, .store 8 (t 2) (t 13)⟩,mV 3 14]
def r_17_2 : SS := [mV 15 1,mV 16 15,og 17 16 true (.fa 0 (t 2)),og 18 16 true (.load false 1 (t 17)),og 19 16 true (.bin 0 .eql (t 18) (i 2)),o 20 (.pick (t 16) (t 19) (.const (.bool false))),mV 21 20,og 22 21 true (.mv (t 3)),og 23 21 true (.call f_15 [(t 22)] true),og 24 21 true (.bin 0 .eql (t 23) (i 0)),o 25 (.pick (t 21) (t 24) (.const (.bool false))),mV 0 25]
def s_17 : SF := ⟨0, 26, [.tmp 0],
  (qS (gR r_17_0) (qS (gR r_17_1) (qS (gR r_17_2) .ret)))⟩

def r_18_0 : SS := [o 2 (.mv (.const (.bool false)))]
def r_18_1 : SS := [o 3 (.mv (i 0))]
def r_18_2 : SS := [o 4 (.mv (i 0))]
def r_18_3 : SS := [mV 5 4,mV 6 0,lN 7 6,o 8 (.bin 0 .lss (t 5) (t 7)),mV 9 8,og 10 9 true (.mv (t 3)),og 11 9 true (.bin 0 .leq (t 10) (i 200)),o 12 (.pick (t 9) (t 11) (.const (.bool false)))]
def r_18_4 : SS := [mV 15 3,o 16 (.bin 0 .add (t 15) (i 1)),mV 17 0,mV 18 4,iA 19 1 17 18,lD 20 19,lN 21 20,o 22 (.mnx false (t 21) [(i 201)]),o 23 (.bin 0 .add (t 16) (t 22)),mV 3 23]
def r_18_5 : SS := [mV 24 0,mV 25 4,iA 26 1 24 25,lD 27 26,lN 28 27,o 29 (.bin 0 .leq (t 28) (i 200)),mV 30 29,og 31 30 true (.mv (t 0)),og 32 30 true (.mv (t 4)),og 33 30 true (.ia 1 (t 31) (t 32)),og 34 30 true (.load false 1 (t 33)),og 35 30 true (.call f_48 [(t 34)] true),o 36 (.pick (t 30) (t 35) (.const (.bool false)))]
def r_18_6 : SS := [o 2 (.mv (.const (.bool true)))]
def r_18_7 : SS := [mV 13 4,o 14 (.bin 0 .add (t 13) (i 1)),mV 4 14]
def r_18_8 : SS := [mV 37 3,o 38 (.bin 0 .gtr (t 37) (i 200)),mV 2 38]
def s_18 : SF := ⟨1, 39, [.tmp 2],
  (qS (gR r_18_0) (qS (gR r_18_1) (qS (qS (gR r_18_2) (.block 0 (.loop (qS (qS (gR r_18_3) (.cond (t 12) .skip (.exit 0))) (qS (.block 1 (qS (gR r_18_4) (qS (gR r_18_5) (.cond (t 36) (qS (gR r_18_6) .ret) .skip)))) (gR r_18_7)))))) (qS (gR r_18_8) .ret))))⟩

def r_19_0 : SS := [o 2 (.mv (.const (.bool false)))]
def r_19_1 : SS := [mV 4 0,lN 5 4,o 6 (.bin 0 .gtr (t 5) (i 100))]
def r_19_2 : SS := [o 2 (.mv (.const (.bool true)))]
def r_19_3 : SS := [o 3 (.mv (i 0))]
def r_19_4 : SS := [mV 7 3,mV 8 0,lN 9 8,o 10 (.bin 0 .lss (t 7) (t 9))]
def r_19_5 : SS := [mV 13 0,mV 14 3,iA 15 5 13 14,fA 16 1 15,lA 17 4 16,o 18 (.lit T_api_Rat [(.bool false), (.slice none 0 0), (.bool false), (.slice none 0 0)] 1 [(0, 4, (t 17))]),o 19 (.call f_48 [(t 18)] true)]
def r_19_6 : SS := [o 2 (.mv (.const (.bool true)))]
def r_19_7 : SS := [mV 11 3,o 12 (.bin 0 .add (t 11) (i 1)),mV 3 12]
def r_19_8 : SS := [o 2 (.mv (.const (.bool false)))]
def s_19 : SF := ⟨1, 20, [.tmp 2],
  (qS (gR r_19_0) (qS (qS (gR r_19_1) (.cond (t 6) (qS (gR r_19_2) .ret) .skip)) (qS (qS (gR r_19_3) (.block 0 (.loop (qS (qS (gR r_19_4) (.cond (t 10) .skip (.exit 0))) (qS (.block 1 (qS (gR r_19_5) (.cond (t 19) (qS (gR r_19_6) .ret) .skip))) (gR r_19_7)))))) (qS (gR r_19_8) .ret))))⟩

def r_20_0 : SS := [o 3 (.box T_api_Template (t 0)),o 6 (.alloc T_api_LP [(.int .i64 0), (.slice none 0 0), (.slice none 0 0), (.slice none 0 0)]),o 7 (.mv (.const (.bool false)))]
def r_20_1 : SS := [lA 11 1 3,mV 12 1,mV 13 2,o 14 (.call f_27 [(t 11), (t 12), (t 13)] true),o 15 (.un .not (t 14)),mV 16 15,og 17 16 false (.mv (t 2)),og 18 16 false (.call f_49 [(t 17)] true),o 19 (.pick (t 16) (.const (.bool true)) (t 18))]
def r_20_2 : SS := [o 20 (.build [(.int .i64 0), (.slice none 0 0), (.slice none 0 0), (.slice none 0 0)] []),
  ⟨none, none, .store 4 (t 6) (t 20)⟩,o 7 (.mv (.const (.bool false)))]
def r_20_3 : SS := [mV 21 1,mV 22 1,o 23 (.mk T_api_Rat 64 [(.bool false), (.slice none 0 0), (.bool false), (.slice none 0 0)] (t 22) (t 22)),o 24 (.call f_50 [(t 23)] true),o 25 (.build [(.int .i64 0), (.slice none 0 0), (.slice none 0 0), (.slice none 0 0)] [(0, 1, (t 21)), (3, 1, (t 24))]),o 8 (.alloc T_api_LP [(.int .i64 0), (.slice none 0 0), (.slice none 0 0), (.slice none 0 0)]),
  ⟨none, none, .store 4 (t 8) (t 25)⟩]
def r_20_4 : SS := [mV 26 2,lN 27 26,o 28 (.mv (i 0))]
def r_20_5 : SS := [o 29 (.bin 0 .lss (t 28) (t 27))]
def r_20_6 : SS := [mV 30 28,iA 31 5 26 28,lA 32 5 31,o 10 (.alloc T_api_Ext [(.int .i64 0), (.bool false), (.slice none 0 0), (.bool false), (.slice none 0 0)]),mV 9 30,
  ⟨none, none, .store 5 (t 10) (t 32)⟩]
def r_20_7 : SS := [fA 33 0 10,lD 34 33,o 35 (.bin 0 .eql (t 34) (i 0))]
def r_20_8 : SS := [fA 36 1 8,lD 37 36,fA 38 0 3,lD 39 38,mV 40 9,iA 41 1 39 40,lD 42 41,o 43 (.call f_50 [(t 42)] false),o 44 (.lit T_sl_api_Rat [(.slice none 0 0)] 1 [(0, 1, (t 43))]),o 45 (.app T_sl_api_Rat 1 24 (t 37) (t 44)),fA 46 2 8,lD 47 46,fA 48 1 10,lA 49 4 48,o 50 (.build [(.bool false), (.slice none 0 0), (.bool false), (.slice none 0 0)] []),o 51 (.call f_51 [(t 49), (t 50)] false),o 52 (.lit T_api_Rat [(.bool false), (.slice none 0 0), (.bool false), (.slice none 0 0)] 1 [(0, 4, (t 51))]),o 53 (.app T_api_Rat 4 64 (t 47) (t 52)),fA 54 1 8,
  ⟨none, none, .store 1 (t 54) (t 45)⟩,fA 55 2 8,
  ⟨none, none, .store 1 (t 55) (t 53)⟩]
def r_20_9 : SS := [o 56 (.bin 0 .add (t 28) (i 1)),mV 28 56]
def r_20_10 : SS := [lA 57 4 8,
  ⟨none, none, .store 4 (t 6) (t 57)⟩,o 7 (.mv (.const (.bool true)))]
def s_20 : SF := ⟨3, 58, [.cell 6 true 4, .tmp 7],
  (qS (gR r_20_0) (qS (qS (gR r_20_1) (.cond (t 19) (qS (gR r_20_2) .ret) .skip)) (qS (gR r_20_3) (qS (qS (gR r_20_4) (.block 0 (.loop (qS (gR r_20_5) (qS (.cond (t 29) .skip (.exit 0)) (qS (.block 1 (qS (gR r_20_6) (qS (gR r_20_7) (.cond (t 35) (.draw r_20_8 [0, 1, 0, 4, 0, 28, 60, 124, 252, 511, 0, 1024, 0, 4096, 0, 29695, 62463, 131071, 4095, 524287, 1048575, 2097151] [(9, 11), (9, 13)]) .skip)))) (gR r_20_9))))))) (qS (gR r_20_10) .ret)))))⟩

def r_21_0 : SS := [o 3 (.box T_api_Template (t 0)),o 6 (.mv (.const (.bool false)))]
def r_21_1 : SS := [mV 11 1,lN 12 11,fA 13 0 3,lD 14 13,lN 15 14,o 16 (.bin 0 .neq (t 12) (t 15))]
def r_21_2 : SS := [o 6 (.mv (.const (.bool false)))]
def r_21_3 : SS := [fA 17 0 3,lD 18 17,lN 19 18,o 20 (.mv (i 0))]
def r_21_4 : SS := [o 21 (.bin 0 .lss (t 20) (t 19))]
def r_21_5 : SS := [mV 22 20,iA 23 1 18 20,lD 24 23,mV 7 22,mV 8 24]
def r_21_6 : SS := [mV 26 8,mV 27 2,o 28 (.call f_52 [(t 26), (t 27)] true),mV 25 28,o 29 (.ext (t 25) 0),o 30 (.ext (t 25) 1),o 9 (.alloc T_api_Rat [(.bool false), (.slice none 0 0), (.bool false), (.slice none 0 0)]),
  ⟨none, none, .store 4 (t 9) (t 29)⟩,mV 10 30]
def r_21_7 : SS := [mV 31 10,o 32 (.bin 0 .neq (t 31) (i 0)),mV 33 32,og 34 33 false (.load true 4 (t 9)),og 35 33 false (.call f_54 [(t 34)] false),og 36 33 false (.mv (t 1)),og 37 33 false (.mv (t 7)),og 38 33 false (.ia 5 (t 36) (t 37)),og 39 33 false (.load true 5 (t 38)),og 40 33 false (.call f_53 [(t 35), (t 39)] true),og 41 33 false (.bin 0 .gtr (t 40) (i 0)),o 42 (.pick (t 33) (.const (.bool true)) (t 41))]
def r_21_8 : SS := [o 6 (.mv (.const (.bool false)))]
def r_21_9 : SS := [o 43 (.bin 0 .add (t 20) (i 1)),mV 20 43]
def r_21_10 : SS := [o 6 (.mv (.const (.bool true)))]
def s_21 : SF := ⟨3, 44, [.tmp 6],
  (qS (gR r_21_0) (qS (qS (gR r_21_1) (.cond (t 16) (qS (gR r_21_2) .ret) .skip)) (qS (qS (gR r_21_3) (.block 0 (.loop (qS (gR r_21_4) (qS (.cond (t 21) .skip (.exit 0)) (qS (.block 1 (qS (gR r_21_5) (qS (gR r_21_6) (qS (.draw r_21_7 [0, 1, 3, 7, 15, 7, 7, 103, 231, 511, 1023, 2047] []) (.cond (t 42) (qS (gR r_21_8) .ret) .skip))))) (gR r_21_9))))))) (qS (gR r_21_10) .ret))))⟩

def r_22_0 : SS := [o 3 (.box T_api_Template (t 0)),o 6 (.mv (.const (.bool false)))]
def r_22_1 : SS := [mV 10 1,lN 11 10,fA 12 0 3,lD 13 12,lN 14 13,o 15 (.bin 0 .neq (t 11) (t 14))]
def r_22_2 : SS := [o 6 (.mv (.const (.bool false)))]
def r_22_3 : SS := [o 7 (.mv (i 0))]
def r_22_4 : SS := [mV 16 7,mV 17 1,lN 18 17,o 19 (.bin 0 .lss (t 16) (t 18))]
def r_22_5 : SS := [fA 23 0 3,lD 24 23,mV 25 7,iA 26 1 24 25,lD 27 26,mV 28 2,o 29 (.call f_45 [(t 27), (t 28)] true),mV 22 29,o 30 (.ext (t 22) 0),o 31 (.ext (t 22) 1),o 8 (.alloc T_api_Rat [(.bool false), (.slice none 0 0), (.bool false), (.slice none 0 0)]),
  ⟨none, none, .store 4 (t 8) (t 30)⟩,mV 9 31]
def r_22_6 : SS := [mV 32 9,o 33 (.bin 0 .neq (t 32) (i 0)),mV 34 33,og 35 34 false (.load true 4 (t 8)),og 36 34 false (.build [(.int .i64 0), (.bool false), (.slice none 0 0), (.bool false), (.slice none 0 0)] [(1, 4, (t 35))]),og 37 34 false (.mv (t 1)),og 38 34 false (.mv (t 7)),og 39 34 false (.ia 5 (t 37) (t 38)),og 40 34 false (.load true 5 (t 39)),og 41 34 false (.call f_55 [(t 36), (t 40)] true),og 42 34 false (.bin 0 .gtr (t 41) (i 0)),o 43 (.pick (t 34) (.const (.bool true)) (t 42))]
def r_22_7 : SS := [o 6 (.mv (.const (.bool false)))]
def r_22_8 : SS := [mV 20 7,o 21 (.bin 0 .add (t 20) (i 1)),mV 7 21]
def r_22_9 : SS := [o 6 (.mv (.const (.bool true)))]
def s_22 : SF := ⟨3, 44, [.tmp 6],
  (qS (gR r_22_0) (qS (qS (gR r_22_1) (.cond (t 15) (qS (gR r_22_2) .ret) .skip)) (qS (qS (gR r_22_3) (.block 0 (.loop (qS (qS (gR r_22_4) (.cond (t 19) .skip (.exit 0))) (qS (.block 1 (qS (gR r_22_5) (qS (.draw r_22_6 [0, 1, 3, 7, 15, 7, 7, 103, 231, 511, 1023, 2047] []) (.cond (t 43) (qS (gR r_22_7) .ret) .skip)))) (gR r_22_8)))))) (qS (gR r_22_9) .ret))))⟩

def r_23_0 : SS := [o 2 (.box T_api_LP (t 0)),o 3 (.box T_api_LP (t 1)),o 4 (.mv (.const (.bool false)))]
def r_23_1 : SS := [fA 6 0 2,lD 7 6,fA 8 0 3,lD 9 8,o 10 (.bin 0 .neq (t 7) (t 9)),mV 11 10,og 12 11 false (.fa 1 (t 2)),og 13 11 false (.load false 1 (t 12)),og 14 11 false (.len (t 13)),og 15 11 false (.fa 1 (t 3)),og 16 11 false (.load false 1 (t 15)),og 17 11 false (.len (t 16)),og 18 11 false (.bin 0 .neq (t 14) (t 17)),o 19 (.pick (t 11) (.const (.bool true)) (t 18)),mV 20 19,og 21 20 false (.fa 2 (t 2)),og 22 20 false (.load false 1 (t 21)),og 23 20 false (.fa 2 (t 3)),og 24 20 false (.load false 1 (t 23)),og 25 20 false (.call f_56 [(t 22), (t 24)] true),og 26 20 false (.un .not (t 25)),o 27 (.pick (t 20) (.const (.bool true)) (t 26)),mV 28 27,og 29 28 false (.fa 3 (t 2)),og 30 28 false (.load false 1 (t 29)),og 31 28 false (.fa 3 (t 3)),og 32 28 false (.load false 1 (t 31)),og 33 28 false (.call f_56 [(t 30), (t 32)] true),og 34 28 false (.un .not (t 33)),o 35 (.pick (t 28) (.const (.bool true)) (t 34))]
def r_23_2 : SS := [o 4 (.mv (.const (.bool false)))]
def r_23_3 : SS := [o 5 (.mv (i 0))]
def r_23_4 : SS := [mV 36 5,fA 37 1 2,lD 38 37,lN 39 38,o 40 (.bin 0 .lss (t 36) (t 39))]
def r_23_5 : SS := [fA 43 1 2,lD 44 43,mV 45 5,iA 46 1 44 45,lD 47 46,fA 48 1 3,lD 49 48,mV 50 5,iA 51 1 49 50,lD 52 51,o 53 (.call f_56 [(t 47), (t 52)] true),o 54 (.un .not (t 53))]
def r_23_6 : SS := [o 4 (.mv (.const (.bool false)))]
def r_23_7 : SS := [mV 41 5,o 42 (.bin 0 .add (t 41) (i 1)),mV 5 42]
def r_23_8 : SS := [o 4 (.mv (.const (.bool true)))]
def s_23 : SF := ⟨2, 55, [.tmp 4],
  (qS (gR r_23_0) (qS (qS (gR r_23_1) (.cond (t 35) (qS (gR r_23_2) .ret) .skip)) (qS (qS (gR r_23_3) (.block 0 (.loop (qS (qS (gR r_23_4) (.cond (t 40) .skip (.exit 0))) (qS (.block 1 (qS (.draw r_23_5 [0, 1, 0, 7, 15, 0, 32, 0, 224, 480, 1023, 2047] []) (.cond (t 54) (qS (gR r_23_6) .ret) .skip))) (gR r_23_7)))))) (qS (gR r_23_8) .ret))))⟩

def r_24_0 : SS := [o 3 (.box T_api_Template (t 0)),o 6 (.mv (.const (.bool false)))]
def r_24_1 : SS := [lA 8 1 3,mV 9 1,o 10 (.call f_57 [(t 8), (t 9)] true),o 11 (.un .not (t 10)),mV 12 11,og 13 12 false (.mv (t 2)),og 14 12 false (.len (t 13)),og 15 12 false (.fa 0 (t 3)),og 16 12 false (.load false 1 (t 15)),og 17 12 false (.len (t 16)),og 18 12 false (.bin 0 .neq (t 14) (t 17)),o 19 (.pick (t 12) (.const (.bool true)) (t 18))]
def r_24_2 : SS := [o 6 (.mv (.const (.bool false)))]
def r_24_3 : SS := [o 7 (.mv (i 0))]
def r_24_4 : SS := [mV 20 7,mV 21 2,lN 22 21,o 23 (.bin 0 .lss (t 20) (t 22))]
def r_24_5 : SS := [mV 26 2,mV 27 7,iA 28 5 26 27,lA 29 5 28,o 30 (.call f_58 [(t 29)] true),o 31 (.un .not (t 30))]
def r_24_6 : SS := [o 6 (.mv (.const (.bool false)))]
def r_24_7 : SS := [mV 24 7,o 25 (.bin 0 .add (t 24) (i 1)),mV 7 25]
def r_24_8 : SS := [o 6 (.mv (.const (.bool true)))]
def s_24 : SF := ⟨3, 32, [.tmp 6],
  (qS (gR r_24_0) (qS (qS (gR r_24_1) (.cond (t 19) (qS (gR r_24_2) .ret) .skip)) (qS (qS (gR r_24_3) (.block 0 (.loop (qS (qS (gR r_24_4) (.cond (t 23) .skip (.exit 0))) (qS (.block 1 (qS (gR r_24_5) (.cond (t 31) (qS (gR r_24_6) .ret) .skip))) (gR r_24_7)))))) (qS (gR r_24_8) .ret))))⟩

def r_25_0 : SS := [o 2 (.mv (.const (.bool false)))]
def r_25_1 : SS := [o 3 (.mv (i 0))]
def r_25_2 : SS := [mV 4 3,mV 5 0,lN 6 5,o 7 (.bin 0 .lss (t 4) (t 6))]
def r_25_3 : SS := [mV 10 0,mV 11 3,iA 12 5 10 11,lA 13 5 12,o 14 (.call f_59 [(t 13)] true),o 15 (.fld false 0 1 (t 14)),o 16 (.bin 0 .lss (t 15) (i 0))]
def r_25_4 : SS := [o 2 (.mv (.const (.bool true)))]
def r_25_5 : SS := [mV 8 3,o 9 (.bin 0 .add (t 8) (i 1)),mV 3 9]
def r_25_6 : SS := [o 2 (.mv (.const (.bool false)))]
def s_25 : SF := ⟨1, 17, [.tmp 2],
  (qS (gR r_25_0) (qS (qS (gR r_25_1) (.block 0 (.loop (qS (qS (gR r_25_2) (.cond (t 7) .skip (.exit 0))) (qS (.block 1 (qS (gR r_25_3) (.cond (t 16) (qS (gR r_25_4) .ret) .skip))) (gR r_25_5)))))) (qS (gR r_25_6) .ret)))⟩

def r_26_0 : SS := [o 2 (.alloc T_api_Template [(.slice none 0 0)])]
def r_26_1 : SS := [mV 5 0,o 6 (.call f_35 [(t 5)] true),mV 0 6]
def r_26_2 : SS := [o 3 (.mv (.const (.slice none 0 0)))]
def r_26_3 : SS := [o 4 (.mv (i 0))]
def r_26_4 : SS := [mV 7 4,mV 8 0,o 9 (.bin 0 .lss (t 7) (t 8))]
def r_26_5 : SS := [mV 12 3,mV 13 0,mV 14 4,o 15 (.call f_36 [(t 13), (t 14), (i 1), (.const (.int .i64 (-1))), (i 0)] true),mV 16 0,mV 17 4,o 18 (.call f_36 [(t 16), (t 17), (.const (.int .i64 (-1))), (.const (.int .i64 (-1))), (i 0)] true),o 19 (.lit T_sl_api_Rat [(.slice none 0 0)] 2 [(0, 1, (t 15)), (1, 1, (t 18))]),o 20 (.app T_sl_api_Rat 1 24 (t 12) (t 19)),mV 3 20]
def r_26_6 : SS := [mV 10 4,o 11 (.bin 0 .add (t 10) (i 1)),mV 4 11]
def r_26_7 : SS := [mV 21 3,o 22 (.call f_37 [(t 21)] true),
  ⟨none, none, .store 1 (t 2) (t 22)⟩]
def s_26 : SF := ⟨1, 23, [.cell 2 true 1],
  (qS (gR r_26_0) (qS (gR r_26_1) (qS (gR r_26_2) (qS (qS (gR r_26_3) (.block 0 (.loop (qS (qS (gR r_26_4) (.cond (t 9) .skip (.exit 0))) (qS (.block 1 (gR r_26_5)) (gR r_26_6)))))) (qS (gR r_26_7) .ret)))))⟩

def r_27_0 : SS := [o 3 (.box T_api_Template (t 0)),o 6 (.mv (.const (.bool false)))]
def r_27_1 : SS := [lA 7 1 3,mV 8 1,o 9 (.call f_60 [(t 7), (t 8)] true),mV 10 9,og 11 10 true (.mv (t 2)),og 12 10 true (.len (t 11)),og 13 10 true (.fa 0 (t 3)),og 14 10 true (.load false 1 (t 13)),og 15 10 true (.len (t 14)),og 16 10 true (.bin 0 .eql (t 12) (t 15)),o 17 (.pick (t 10) (t 16) (.const (.bool false))),mV 18 17,og 19 18 true (.mv (t 2)),og 20 18 true (.call f_61 [(t 19), (.fn f_62)] true),og 21 18 true (.un .not (t 20)),o 22 (.pick (t 18) (t 21) (.const (.bool false))),mV 6 22]
def s_27 : SF := ⟨3, 23, [.tmp 6],
  (qS (gR r_27_0) (qS (gR r_27_1) .ret))⟩

def r_35_0 : SS := [o 2 (.mv (i 0))]
def r_35_1 : SS := [mV 3 0,o 4 (.mnx false (t 3) [(i 6)]),o 5 (.mnx true (i 0) [(t 4)]),mV 2 5]
def s_35 : SF := ⟨1, 6, [.tmp 2],
  (qS (gR r_35_0) (qS (gR r_35_1) .ret))⟩

def r_36_0 : SS := [o 10 (.mv (.const (.slice none 0 0)))]
def r_36_1 : SS := [o 11 (.mv (.const (.slice none 0 0)))]
def r_36_2 : SS := [o 12 (.mv (i 0))]
def r_36_3 : SS := [mV 14 12,mV 15 0,o 16 (.bin 0 .lss (t 14) (t 15))]
def r_36_4 : SS := [o 13 (.mv (i 0))]
def r_36_5 : SS := [mV 19 12,mV 20 1,o 21 (.bin 0 .eql (t 19) (t 20))]
def r_36_6 : SS := [mV 22 2,mV 13 22]
def r_36_7 : SS := [mV 23 12,mV 24 3,o 25 (.bin 0 .eql (t 23) (t 24))]
def r_36_8 : SS := [mV 26 4,mV 13 26]
def r_36_9 : SS := [mV 27 11,mV 28 13,o 29 (.call f_12 [(t 28)] true),o 30 (.lit T_api_Rat [(.bool false), (.slice none 0 0), (.bool false), (.slice none 0 0)] 1 [(0, 4, (t 29))]),o 31 (.app T_api_Rat 4 64 (t 27) (t 30)),mV 11 31]
def r_36_10 : SS := [mV 17 12,o 18 (.bin 0 .add (t 17) (i 1)),mV 12 18]
def r_36_11 : SS := [mV 32 11,mV 10 32]
def s_36 : SF := ⟨5, 33, [.tmp 10],
  (qS (gR r_36_0) (qS (gR r_36_1) (qS (qS (gR r_36_2) (.block 0 (.loop (qS (qS (gR r_36_3) (.cond (t 16) .skip (.exit 0))) (qS (.block 1 (qS (gR r_36_4) (qS (qS (gR r_36_5) (.cond (t 21) (gR r_36_6) .skip)) (qS (qS (gR r_36_7) (.cond (t 25) (gR r_36_8) .skip)) (gR r_36_9))))) (gR r_36_10)))))) (qS (gR r_36_11) .ret))))⟩

def r_37_0 : SS := [o 2 (.alloc T_api_Template [(.slice none 0 0)])]
def r_37_1 : SS := [mV 3 0,mV 4 0,lN 5 4,o 6 (.mnx false (t 5) [(i 40)]),o 7 (.sl T_sl_api_Rat 1 (t 3) none (some (t 6)) none),o 8 (.build [(.slice none 0 0)] [(0, 1, (t 7))]),
  ⟨none, none, .store 1 (t 2) (t 8)⟩]
def s_37 : SF := ⟨1, 9, [.cell 2 true 1],
  (qS (gR r_37_0) (qS (gR r_37_1) .ret))⟩

def r_38_0 : SS := [o 2 (.box T_api_Rat (t 0)),o 3 (.box T_api_Rat (t 1)),o 4 (.mv (i 0))]
def r_38_1 : SS := [lA 5 4 2,o 6 (.call f_73 [(t 5)] true),
  ⟨none, none, .store 4 (t 2) (t 6)⟩]
def r_38_2 : SS := [lA 7 4 3,o 8 (.call f_73 [(t 7)] true),
  ⟨none, none, .store 4 (t 3) (t 8)⟩]
def r_38_3 : SS := [fA 9 0 2,lA 10 2 9,fA 11 2 3,lA 12 2 11,o 13 (.call f_75 [(t 10), (t 12)] false),fA 14 0 3,lA 15 2 14,fA 16 2 2,lA 17 2 16,o 18 (.call f_75 [(t 15), (t 17)] true),o 19 (.call f_74 [(t 13), (t 18)] true),mV 4 19]
def s_38 : SF := ⟨2, 20, [.tmp 4],
  (qS (gR r_38_0) (qS (gR r_38_1) (qS (gR r_38_2) (qS (.draw r_38_3 [0, 1, 0, 4, 15, 0, 32, 0, 128, 511, 1023, 2047] []) .ret))))⟩

def r_39_0 : SS := [o 2 (.alloc T_api_Int [(.bool false), (.slice none 0 0)])]
def r_39_1 : SS := [mV 4 0,o 5 (.conv .u64 (t 4)),mV 3 5]
def r_39_2 : SS := [mV 6 0,o 7 (.bin 0 .lss (t 6) (i 0))]
def r_39_3 : SS := [mV 8 3,o 9 (.un .neg (t 8)),mV 3 9]
def r_39_4 : SS := [mV 10 0,o 11 (.bin 0 .lss (t 10) (i 0)),mV 12 3,o 13 (.conv .u32 (t 12)),mV 14 3,o 15 (.bin 0 .shr (t 14) (.const (.int .u64 32))),o 16 (.conv .u32 (t 15)),o 17 (.lit T_uint32 [(.int .u32 0)] 2 [(0, 1, (t 13)), (1, 1, (t 16))]),o 18 (.call f_76 [(t 11), (t 17)] true),
  ⟨none, none, .store 2 (t 2) (t 18)⟩]
def s_39 : SF := ⟨1, 19, [.cell 2 true 2],
  (qS (gR r_39_0) (qS (gR r_39_1) (qS (qS (gR r_39_2) (.cond (t 7) (gR r_39_3) .skip)) (qS (gR r_39_4) .ret))))⟩

def r_40_0 : SS := [o 1 (.box T_api_LP (t 0)),o 2 (.alloc T_api_Answer [(.int .i64 0), (.bool false), (.slice none 0 0), (.bool false), (.slice none 0 0), (.slice none 0 0), (.slice none 0 0), (.slice none 0 0)]),o 3 (.mv (i 0)),o 4 (.mv (i 0))]
def r_40_1 : SS := [lA 7 4 1,o 8 (.call f_77 [(t 7)] true),o 9 (.un .not (t 8))]
def r_40_2 : SS := [o 10 (.build [(.int .i64 0), (.bool false), (.slice none 0 0), (.bool false), (.slice none 0 0), (.slice none 0 0), (.slice none 0 0), (.slice none 0 0)] []),
  ⟨none, none, .store 8 (t 2) (t 10)⟩,o 3 (.mv (i 0)),o 4 (.mv (i 1))]
def r_40_3 : SS := [lA 12 4 1,o 13 (.call f_78 [(t 12)] true),mV 11 13,o 14 (.ext (t 11) 0),o 15 (.ext (t 11) 1),o 5 (.alloc T_api_Answer [(.int .i64 0), (.bool false), (.slice none 0 0), (.bool false), (.slice none 0 0), (.slice none 0 0), (.slice none 0 0), (.slice none 0 0)]),
  ⟨none, none, .store 8 (t 5) (t 14)⟩,mV 6 15]
def r_40_4 : SS := [lA 16 8 5,mV 17 6,
  ⟨none, none, .store 8 (t 2) (t 16)⟩,mV 3 17,o 4 (.mv (i 0))]
def s_40 : SF := ⟨1, 18, [.cell 2 true 8, .tmp 3, .tmp 4],
  (qS (gR r_40_0) (qS (qS (gR r_40_1) (.cond (t 9) (qS (gR r_40_2) .ret) .skip)) (qS (gR r_40_3) (qS (gR r_40_4) .ret))))⟩

def r_41_0 : SS := [o 4 (.box T_api_Template (t 0)),o 8 (.alloc T_api_LP [(.int .i64 0), (.slice none 0 0), (.slice none 0 0), (.slice none 0 0)])]
def r_41_1 : SS := [mV 14 1,mV 15 2,o 16 (.bin 0 .add (t 14) (t 15)),mV 17 1,mV 18 2,o 19 (.bin 0 .add (t 17) (t 18)),o 20 (.call f_79 [(t 19)] true),o 21 (.build [(.int .i64 0), (.slice none 0 0), (.slice none 0 0), (.slice none 0 0)] [(0, 1, (t 16)), (3, 1, (t 20))]),o 9 (.alloc T_api_LP [(.int .i64 0), (.slice none 0 0), (.slice none 0 0), (.slice none 0 0)]),
  ⟨none, none, .store 4 (t 9) (t 21)⟩]
def r_41_2 : SS := [o 10 (.mv (i 0))]
def r_41_3 : SS := [mV 22 10,mV 23 3,lN 24 23,o 25 (.bin 0 .lss (t 22) (t 24))]
def r_41_4 : SS := [mV 28 3,mV 29 10,iA 30 5 28 29,lA 31 5 30,o 32 (.call f_59 [(t 31)] true),o 11 (.alloc T_api_Ext [(.int .i64 0), (.bool false), (.slice none 0 0), (.bool false), (.slice none 0 0)]),
  ⟨none, none, .store 5 (t 11) (t 32)⟩]
def r_41_5 : SS := [fA 33 0 11,lD 34 33,o 35 (.bin 0 .neq (t 34) (i 0))]
def r_41_6 : SS := [o 12 (.mv (.const (.slice none 0 0)))]
def r_41_7 : SS := [o 13 (.mv (i 0))]
def r_41_8 : SS := [mV 36 13,mV 37 1,o 38 (.bin 0 .lss (t 36) (t 37))]
def r_41_9 : SS := [mV 41 12,fA 42 0 4,lD 43 42,mV 44 10,iA 45 1 43 44,lD 46 45,mV 47 13,iA 48 4 46 47,lA 49 4 48,o 50 (.call f_73 [(t 49)] true),o 51 (.lit T_api_Rat [(.bool false), (.slice none 0 0), (.bool false), (.slice none 0 0)] 1 [(0, 4, (t 50))]),o 52 (.app T_api_Rat 4 64 (t 41) (t 51)),mV 12 52]
def r_41_10 : SS := [mV 39 13,o 40 (.bin 0 .add (t 39) (i 1)),mV 13 40]
def r_41_11 : SS := [mV 53 12,mV 54 2,o 55 (.call f_79 [(t 54)] true),o 56 (.app T_api_Rat 4 64 (t 53) (t 55)),mV 12 56]
def r_41_12 : SS := [fA 57 1 9,lD 58 57,mV 59 12,o 60 (.lit T_sl_api_Rat [(.slice none 0 0)] 1 [(0, 1, (t 59))]),o 61 (.app T_sl_api_Rat 1 24 (t 58) (t 60)),fA 62 1 9,
  ⟨none, none, .store 1 (t 62) (t 61)⟩]
def r_41_13 : SS := [fA 63 2 9,lD 64 63,fA 65 1 11,lA 66 4 65,o 67 (.lit T_api_Rat [(.bool false), (.slice none 0 0), (.bool false), (.slice none 0 0)] 1 [(0, 4, (t 66))]),o 68 (.app T_api_Rat 4 64 (t 64) (t 67)),fA 69 2 9,
  ⟨none, none, .store 1 (t 69) (t 68)⟩]
def r_41_14 : SS := [mV 26 10,o 27 (.bin 0 .add (t 26) (i 1)),mV 10 27]
def r_41_15 : SS := [lA 70 4 9,
  ⟨none, none, .store 4 (t 8) (t 70)⟩]
def s_41 : SF := ⟨4, 71, [.cell 8 true 4],
  (qS (gR r_41_0) (qS (gR r_41_1) (qS (qS (gR r_41_2) (.block 0 (.loop (qS (qS (gR r_41_3) (.cond (t 25) .skip (.exit 0))) (qS (.block 1 (qS (gR r_41_4) (qS (qS (gR r_41_5) (.cond (t 35) (.exit 1) .skip)) (qS (gR r_41_6) (qS (qS (gR r_41_7) (.block 2 (.loop (qS (qS (gR r_41_8) (.cond (t 38) .skip (.exit 2))) (qS (.block 3 (gR r_41_9)) (gR r_41_10)))))) (qS (gR r_41_11) (qS (gR r_41_12) (gR r_41_13)))))))) (gR r_41_14)))))) (qS (gR r_41_15) .ret))))⟩

def r_45_0 : SS := [o 4 (.alloc T_api_Rat [(.bool false), (.slice none 0 0), (.bool false), (.slice none 0 0)]),o 5 (.mv (i 0))]
def r_45_1 : SS := [mV 8 0,lN 9 8,mV 10 1,lN 11 10,o 12 (.bin 0 .neq (t 9) (t 11))]
def r_45_2 : SS := [o 13 (.build [(.bool false), (.slice none 0 0), (.bool false), (.slice none 0 0)] []),
  ⟨none, none, .store 4 (t 4) (t 13)⟩,o 5 (.mv (i 1))]
def r_45_3 : SS := [o 14 (.call f_81 [] true),o 6 (.alloc T_api_Rat [(.bool false), (.slice none 0 0), (.bool false), (.slice none 0 0)]),
  ⟨none, none, .store 4 (t 6) (t 14)⟩]
def r_45_4 : SS := [o 7 (.mv (i 0))]
def r_45_5 : SS := [mV 15 7,mV 16 0,lN 17 16,o 18 (.bin 0 .lss (t 15) (t 17))]
def r_45_6 : SS := [mV 21 0,mV 22 7,iA 23 4 21 22,lA 24 4 23,o 25 (.call f_73 [(t 24)] true),o 26 (.fld true 0 2 (t 25)),o 27 (.fld false 1 1 (t 26)),lN 28 27,o 29 (.bin 0 .gtr (t 28) (i 0)),mV 30 29,og 31 30 true (.mv (t 1)),og 32 30 true (.mv (t 7)),og 33 30 true (.ia 4 (t 31) (t 32)),og 34 30 true (.load true 4 (t 33)),og 35 30 true (.call f_73 [(t 34)] true),og 36 30 true (.fld true 0 2 (t 35)),og 37 30 true (.fld false 1 1 (t 36)),og 38 30 true (.len (t 37)),og 39 30 true (.bin 0 .gtr (t 38) (i 0)),o 40 (.pick (t 30) (t 39) (.const (.bool false)))]
def r_45_7 : SS := [lA 41 4 6,mV 42 0,mV 43 7,iA 44 4 42 43,lA 45 4 44,mV 46 1,mV 47 7,iA 48 4 46 47,lA 49 4 48,o 50 (.call f_83 [(t 45), (t 49)] false),o 51 (.call f_82 [(t 41), (t 50)] true),
  ⟨none, none, .store 4 (t 6) (t 51)⟩]
def r_45_8 : SS := [mV 19 7,o 20 (.bin 0 .add (t 19) (i 1)),mV 7 20]
def r_45_9 : SS := [lA 52 4 6,
  ⟨none, none, .store 4 (t 4) (t 52)⟩,o 5 (.mv (i 0))]
def s_45 : SF := ⟨2, 53, [.cell 4 true 4, .tmp 5],
  (qS (gR r_45_0) (qS (qS (gR r_45_1) (.cond (t 12) (qS (gR r_45_2) .ret) .skip)) (qS (gR r_45_3) (qS (qS (gR r_45_4) (.block 0 (.loop (qS (qS (gR r_45_5) (.cond (t 18) .skip (.exit 0))) (qS (.block 1 (qS (gR r_45_6) (.cond (t 40) (.draw r_45_7 [0, 0, 0, 6, 14, 0, 0, 96, 224, 510, 1023, 2047] []) .skip))) (gR r_45_8)))))) (qS (gR r_45_9) .ret)))))⟩

def r_48_0 : SS := [o 2 (.mv (.const (.bool false)))]
def r_48_1 : SS := [o 3 (.mv (i 0))]
def r_48_2 : SS := [mV 4 3,mV 5 0,lN 6 5,o 7 (.bin 0 .lss (t 4) (t 6))]
def r_48_3 : SS := [mV 10 0,mV 11 3,iA 12 4 10 11,fA 13 0 12,fA 14 1 13,lD 15 14,lN 16 15,o 17 (.bin 0 .gtr (t 16) (i 6)),mV 18 17,og 19 18 false (.mv (t 0)),og 20 18 false (.mv (t 3)),og 21 18 false (.ia 4 (t 19) (t 20)),og 22 18 false (.fa 2 (t 21)),og 23 18 false (.fa 1 (t 22)),og 24 18 false (.load false 1 (t 23)),og 25 18 false (.len (t 24)),og 26 18 false (.bin 0 .gtr (t 25) (i 6)),o 27 (.pick (t 18) (.const (.bool true)) (t 26))]
def r_48_4 : SS := [o 2 (.mv (.const (.bool true)))]
def r_48_5 : SS := [mV 8 3,o 9 (.bin 0 .add (t 8) (i 1)),mV 3 9]
def r_48_6 : SS := [o 2 (.mv (.const (.bool false)))]
def s_48 : SF := ⟨1, 28, [.tmp 2],
  (qS (gR r_48_0) (qS (qS (gR r_48_1) (.block 0 (.loop (qS (qS (gR r_48_2) (.cond (t 7) .skip (.exit 0))) (qS (.block 1 (qS (gR r_48_3) (.cond (t 27) (qS (gR r_48_4) .ret) .skip))) (gR r_48_5)))))) (qS (gR r_48_6) .ret)))⟩

def r_49_0 : SS := [o 2 (.mv (.const (.bool false)))]
def r_49_1 : SS := [mV 3 0,o 4 (.call f_61 [(t 3), (.fn f_84)] true),mV 2 4]
def s_49 : SF := ⟨1, 5, [.tmp 2],
  (qS (gR r_49_0) (qS (gR r_49_1) .ret))⟩

def r_50_0 : SS := [o 2 (.mv (.const (.slice none 0 0)))]
def r_50_1 : SS := [o 3 (.mv (.const (.slice none 0 0)))]
def r_50_2 : SS := [mV 6 0,lN 7 6,o 8 (.mv (i 0))]
def r_50_3 : SS := [o 9 (.bin 0 .lss (t 8) (t 7))]
def r_50_4 : SS := [iA 10 4 6 8,lA 11 4 10,o 5 (.alloc T_api_Rat [(.bool false), (.slice none 0 0), (.bool false), (.slice none 0 0)]),
  ⟨none, none, .store 4 (t 5) (t 11)⟩]
def r_50_5 : SS := [mV 12 3,lA 13 4 5,o 14 (.build [(.bool false), (.slice none 0 0), (.bool false), (.slice none 0 0)] []),o 15 (.call f_51 [(t 13), (t 14)] true),o 16 (.lit T_api_Rat [(.bool false), (.slice none 0 0), (.bool false), (.slice none 0 0)] 1 [(0, 4, (t 15))]),o 17 (.app T_api_Rat 4 64 (t 12) (t 16)),mV 3 17]
def r_50_6 : SS := [o 18 (.bin 0 .add (t 8) (i 1)),mV 8 18]
def r_50_7 : SS := [mV 19 3,mV 2 19]
def s_50 : SF := ⟨1, 20, [.tmp 2],
  (qS (gR r_50_0) (qS (gR r_50_1) (qS (qS (gR r_50_2) (.block 0 (.loop (qS (gR r_50_3) (qS (.cond (t 9) .skip (.exit 0)) (qS (.block 1 (qS (gR r_50_4) (gR r_50_5))) (gR r_50_6))))))) (qS (gR r_50_7) .ret))))⟩

def r_51_0 : SS := [o 2 (.box T_api_Rat (t 0)),o 3 (.box T_api_Rat (t 1)),o 4 (.alloc T_api_Rat [(.bool false), (.slice none 0 0), (.bool false), (.slice none 0 0)])]
def r_51_1 : SS := [lA 5 4 2,o 6 (.call f_85 [(t 5)] false),lA 7 4 3,o 8 (.call f_85 [(t 7)] true),
  ⟨none, none, .store 4 (t 2) (t 6)⟩,
  ⟨none, none, .store 4 (t 3) (t 8)⟩]
def r_51_2 : SS := [fA 9 0 2,lA 10 2 9,fA 11 2 3,lA 12 2 11,o 13 (.call f_89 [(t 10), (t 12)] false),fA 14 0 3,lA 15 2 14,fA 16 2 2,lA 17 2 16,o 18 (.call f_89 [(t 15), (t 17)] false),o 19 (.lit T_api_Int [(.bool false), (.slice none 0 0)] 1 [(0, 2, (t 18))]),o 20 (.call f_87 [(.fn f_88), (t 13), (t 19)] false),fA 21 2 2,lA 22 2 21,fA 23 2 3,lA 24 2 23,o 25 (.call f_89 [(t 22), (t 24)] true),o 26 (.call f_86 [(t 20), (t 25)] true),
  ⟨none, none, .store 4 (t 4) (t 26)⟩]
def s_51 : SF := ⟨2, 27, [.cell 4 true 4],
  (qS (gR r_51_0) (qS (.draw r_51_1 [0, 1, 0, 7, 15, 31] []) (qS (.draw r_51_2 [0, 1, 0, 4, 15, 0, 32, 0, 128, 511, 1023, 2047, 0, 4096, 0, 16384, 65535, 131071, 262143] []) .ret)))⟩


end Go.Proofs.YtjlohmnnldbjoaaGreat.AI

/- The small code of the program's functions: printed. -/
namespace Go.Proofs.YtjlohmnnldbjoaaGreat.AI
open Go

def r_52_0 : SS := [o 4 (.alloc T_api_Rat [(.bool false), (.slice none 0 0), (.bool false), (.slice none 0 0)]),o 5 (.mv (i 0))]
def r_52_1 : SS := [mV 8 0,lN 9 8,mV 10 1,lN 11 10,o 12 (.bin 0 .neq (t 9) (t 11))]
def r_52_2 : SS := [o 13 (.build [(.bool false), (.slice none 0 0), (.bool false), (.slice none 0 0)] []),
  ⟨none, none, .store 4 (t 4) (t 13)⟩,o 5 (.mv (i 1))]
def r_52_3 : SS := [o 14 (.call f_90 [(i 0)] true),o 6 (.alloc T_api_Rat [(.bool false), (.slice none 0 0), (.bool false), (.slice none 0 0)]),
  ⟨none, none, .store 4 (t 6) (t 14)⟩]
def r_52_4 : SS := [mV 15 0,lN 16 15,o 17 (.mv (i 0))]
def r_52_5 : SS := [o 18 (.bin 0 .lss (t 17) (t 16))]
def r_52_6 : SS := [mV 19 17,mV 7 19]
def r_52_7 : SS := [lA 20 4 6,mV 21 0,mV 22 7,iA 23 4 21 22,lA 24 4 23,mV 25 1,mV 26 7,iA 27 4 25 26,lA 28 4 27,o 29 (.call f_91 [(t 24), (t 28)] false),o 30 (.call f_51 [(t 20), (t 29)] true),
  ⟨none, none, .store 4 (t 6) (t 30)⟩]
def r_52_8 : SS := [o 31 (.bin 0 .add (t 17) (i 1)),mV 17 31]
def r_52_9 : SS := [lA 32 4 6,
  ⟨none, none, .store 4 (t 4) (t 32)⟩,o 5 (.mv (i 0))]
def s_52 : SF := ⟨2, 33, [.cell 4 true 4, .tmp 5],
  (qS (gR r_52_0) (qS (qS (gR r_52_1) (.cond (t 12) (qS (gR r_52_2) .ret) .skip)) (qS (gR r_52_3) (qS (qS (gR r_52_4) (.block 0 (.loop (qS (gR r_52_5) (qS (.cond (t 18) .skip (.exit 0)) (qS (.block 1 (qS (gR r_52_6) (.draw r_52_7 [0, 0, 0, 6, 14, 0, 0, 96, 224, 510, 1023, 2047] []))) (gR r_52_8))))))) (qS (gR r_52_9) .ret)))))⟩

def r_53_0 : SS := [o 2 (.box T_api_Ext (t 0)),o 3 (.box T_api_Ext (t 1)),o 4 (.mv (i 0))]
def r_53_1 : SS := [lA 5 5 2,o 6 (.call f_92 [(t 5)] false),lA 7 5 3,o 8 (.call f_92 [(t 7)] true),
  ⟨none, none, .store 5 (t 2) (t 6)⟩,
  ⟨none, none, .store 5 (t 3) (t 8)⟩]
def r_53_2 : SS := [fA 10 0 2,lD 11 10,fA 12 0 3,lD 13 12,o 14 (.bin 0 .lss (t 11) (t 13)),mV 9 14]
def r_53_3 : SS := [o 4 (.mv (.const (.int .i64 (-1))))]
def r_53_4 : SS := [fA 16 0 2,lD 17 16,fA 18 0 3,lD 19 18,o 20 (.bin 0 .gtr (t 17) (t 19)),mV 15 20]
def r_53_5 : SS := [o 4 (.mv (i 1))]
def r_53_6 : SS := [fA 22 0 2,lD 23 22,o 24 (.bin 0 .neq (t 23) (i 0)),mV 21 24]
def r_53_7 : SS := [o 4 (.mv (i 0))]
def r_53_8 : SS := [fA 25 1 2,lA 26 4 25,fA 27 1 3,lA 28 4 27,o 29 (.call f_93 [(t 26), (t 28)] true),mV 4 29]
def s_53 : SF := ⟨2, 30, [.tmp 4],
  (qS (gR r_53_0) (qS (.draw r_53_1 [0, 1, 0, 7, 15, 31] []) (qS (.block 0 (qS (gR r_53_2) (.cond (t 9) (qS (gR r_53_3) .ret) (qS (gR r_53_4) (.cond (t 15) (qS (gR r_53_5) .ret) (qS (gR r_53_6) (.cond (t 21) (qS (gR r_53_7) .ret) .skip))))))) (qS (gR r_53_8) .ret))))⟩

def r_54_0 : SS := [o 1 (.box T_api_Rat (t 0)),o 2 (.alloc T_api_Ext [(.int .i64 0), (.bool false), (.slice none 0 0), (.bool false), (.slice none 0 0)])]
def r_54_1 : SS := [lA 3 4 1,o 4 (.build [(.bool false), (.slice none 0 0), (.bool false), (.slice none 0 0)] []),o 5 (.call f_51 [(t 3), (t 4)] true),o 6 (.build [(.int .i64 0), (.bool false), (.slice none 0 0), (.bool false), (.slice none 0 0)] [(1, 4, (t 5))]),
  ⟨none, none, .store 5 (t 2) (t 6)⟩]
def s_54 : SF := ⟨1, 7, [.cell 2 true 5],
  (qS (gR r_54_0) (qS (gR r_54_1) .ret))⟩

def r_55_0 : SS := [o 2 (.box T_api_Ext (t 0)),o 3 (.box T_api_Ext (t 1)),o 4 (.mv (i 0))]
def r_55_1 : SS := [lA 5 5 2,o 6 (.call f_59 [(t 5)] true),
  ⟨none, none, .store 5 (t 2) (t 6)⟩]
def r_55_2 : SS := [lA 7 5 3,o 8 (.call f_59 [(t 7)] true),
  ⟨none, none, .store 5 (t 3) (t 8)⟩]
def r_55_3 : SS := [fA 9 0 2,lD 10 9,fA 11 0 3,lD 12 11,o 13 (.bin 0 .neq (t 10) (t 12))]
def r_55_4 : SS := [fA 14 0 2,lD 15 14,fA 16 0 3,lD 17 16,o 18 (.bin 0 .lss (t 15) (t 17))]
def r_55_5 : SS := [o 4 (.mv (.const (.int .i64 (-1))))]
def r_55_6 : SS := [o 4 (.mv (i 1))]
def r_55_7 : SS := [fA 19 0 2,lD 20 19,o 21 (.bin 0 .neq (t 20) (i 0))]
def r_55_8 : SS := [o 4 (.mv (i 0))]
def r_55_9 : SS := [fA 22 1 2,lA 23 4 22,fA 24 1 3,lA 25 4 24,o 26 (.call f_38 [(t 23), (t 25)] true),mV 4 26]
def s_55 : SF := ⟨2, 27, [.tmp 4],
  (qS (gR r_55_0) (qS (gR r_55_1) (qS (gR r_55_2) (qS (qS (gR r_55_3) (.cond (t 13) (qS (qS (gR r_55_4) (.cond (t 18) (qS (gR r_55_5) .ret) .skip)) (qS (gR r_55_6) .ret)) .skip)) (qS (qS (gR r_55_7) (.cond (t 21) (qS (gR r_55_8) .ret) .skip)) (qS (gR r_55_9) .ret))))))⟩

def r_56_0 : SS := [o 4 (.mv (.const (.bool false)))]
def r_56_1 : SS := [mV 6 0,lN 7 6,mV 8 1,lN 9 8,o 10 (.bin 0 .neq (t 7) (t 9))]
def r_56_2 : SS := [o 4 (.mv (.const (.bool false)))]
def r_56_3 : SS := [o 5 (.mv (i 0))]
def r_56_4 : SS := [mV 11 5,mV 12 0,lN 13 12,o 14 (.bin 0 .lss (t 11) (t 13))]
def r_56_5 : SS := [mV 17 0,mV 18 5,iA 19 4 17 18,lA 20 4 19,mV 21 1,mV 22 5,iA 23 4 21 22,lA 24 4 23,o 25 (.call f_94 [(t 20), (t 24)] true),o 26 (.un .not (t 25))]
def r_56_6 : SS := [o 4 (.mv (.const (.bool false)))]
def r_56_7 : SS := [mV 15 5,o 16 (.bin 0 .add (t 15) (i 1)),mV 5 16]
def r_56_8 : SS := [o 4 (.mv (.const (.bool true)))]
def s_56 : SF := ⟨2, 27, [.tmp 4],
  (qS (gR r_56_0) (qS (qS (gR r_56_1) (.cond (t 10) (qS (gR r_56_2) .ret) .skip)) (qS (qS (gR r_56_3) (.block 0 (.loop (qS (qS (gR r_56_4) (.cond (t 14) .skip (.exit 0))) (qS (.block 1 (qS (.draw r_56_5 [0, 0, 3, 7, 0, 0, 48, 112, 255, 511] []) (.cond (t 26) (qS (gR r_56_6) .ret) .skip))) (gR r_56_7)))))) (qS (gR r_56_8) .ret))))⟩

def r_57_0 : SS := [o 2 (.box T_api_Template (t 0)),o 4 (.mv (.const (.bool false)))]
def r_57_1 : SS := [mV 7 1,o 8 (.bin 0 .lss (t 7) (i 0)),mV 9 8,og 10 9 false (.mv (t 1)),og 11 9 false (.bin 0 .gtr (t 10) (i 6)),o 12 (.pick (t 9) (.const (.bool true)) (t 11)),mV 13 12,og 14 13 false (.fa 0 (t 2)),og 15 13 false (.load false 1 (t 14)),og 16 13 false (.len (t 15)),og 17 13 false (.bin 0 .gtr (t 16) (i 40)),o 18 (.pick (t 13) (.const (.bool true)) (t 17))]
def r_57_2 : SS := [o 4 (.mv (.const (.bool false)))]
def r_57_3 : SS := [o 5 (.mv (i 0))]
def r_57_4 : SS := [mV 19 5,fA 20 0 2,lD 21 20,lN 22 21,o 23 (.bin 0 .lss (t 19) (t 22))]
def r_57_5 : SS := [fA 26 0 2,lD 27 26,mV 28 5,iA 29 1 27 28,lD 30 29,lN 31 30,mV 32 1,o 33 (.bin 0 .neq (t 31) (t 32))]
def r_57_6 : SS := [o 4 (.mv (.const (.bool false)))]
def r_57_7 : SS := [o 6 (.mv (i 0))]
def r_57_8 : SS := [mV 34 6,mV 35 1,o 36 (.bin 0 .lss (t 34) (t 35))]
def r_57_9 : SS := [fA 39 0 2,lD 40 39,mV 41 5,iA 42 1 40 41,lD 43 42,mV 44 6,iA 45 4 43 44,lA 46 4 45,o 47 (.call f_95 [(t 46)] true),o 48 (.un .not (t 47))]
def r_57_10 : SS := [o 4 (.mv (.const (.bool false)))]
def r_57_11 : SS := [mV 37 6,o 38 (.bin 0 .add (t 37) (i 1)),mV 6 38]
def r_57_12 : SS := [mV 24 5,o 25 (.bin 0 .add (t 24) (i 1)),mV 5 25]
def r_57_13 : SS := [o 4 (.mv (.const (.bool true)))]
def s_57 : SF := ⟨2, 49, [.tmp 4],
  (qS (gR r_57_0) (qS (qS (gR r_57_1) (.cond (t 18) (qS (gR r_57_2) .ret) .skip)) (qS (qS (gR r_57_3) (.block 0 (.loop (qS (qS (gR r_57_4) (.cond (t 23) .skip (.exit 0))) (qS (.block 1 (qS (qS (gR r_57_5) (.cond (t 33) (qS (gR r_57_6) .ret) .skip)) (qS (gR r_57_7) (.block 2 (.loop (qS (qS (gR r_57_8) (.cond (t 36) .skip (.exit 2))) (qS (.block 3 (qS (gR r_57_9) (.cond (t 48) (qS (gR r_57_10) .ret) .skip))) (gR r_57_11)))))))) (gR r_57_12)))))) (qS (gR r_57_13) .ret))))⟩

def r_58_0 : SS := [o 1 (.box T_api_Ext (t 0)),o 2 (.mv (.const (.bool false)))]
def r_58_1 : SS := [fA 3 0 1,lD 4 3,o 5 (.bin 0 .eql (t 4) (i 0))]
def r_58_2 : SS := [fA 6 1 1,lA 7 4 6,o 8 (.call f_95 [(t 7)] true),mV 2 8]
def r_58_3 : SS := [fA 9 0 1,lD 10 9,o 11 (.bin 0 .eql (t 10) (i 1)),mV 12 11,og 13 12 false (.fa 0 (t 1)),og 14 12 false (.load false 1 (t 13)),og 15 12 false (.bin 0 .eql (t 14) (.const (.int .i64 (-1)))),o 16 (.pick (t 12) (.const (.bool true)) (t 15)),mV 17 16,og 18 17 true (.fa 1 (t 1)),og 19 17 true (.load true 4 (t 18)),og 20 17 true (.call f_96 [(t 19)] true),o 21 (.pick (t 17) (t 20) (.const (.bool false))),mV 2 21]
def s_58 : SF := ⟨1, 22, [.tmp 2],
  (qS (gR r_58_0) (qS (qS (gR r_58_1) (.cond (t 5) (qS (gR r_58_2) .ret) .skip)) (qS (gR r_58_3) .ret)))⟩

def r_59_0 : SS := [o 1 (.box T_api_Ext (t 0)),o 2 (.alloc T_api_Ext [(.int .i64 0), (.bool false), (.slice none 0 0), (.bool false), (.slice none 0 0)])]
def r_59_1 : SS := [lA 3 5 1,o 4 (.call f_58 [(t 3)] true),o 5 (.un .not (t 4))]
def r_59_2 : SS := [o 6 (.call f_81 [] true),o 7 (.build [(.int .i64 0), (.bool false), (.slice none 0 0), (.bool false), (.slice none 0 0)] [(1, 4, (t 6))]),
  ⟨none, none, .store 5 (t 2) (t 7)⟩]
def r_59_3 : SS := [fA 8 0 1,lD 9 8,o 10 (.bin 0 .neq (t 9) (i 0))]
def r_59_4 : SS := [lA 11 5 1,
  ⟨none, none, .store 5 (t 2) (t 11)⟩]
def r_59_5 : SS := [fA 12 1 1,lA 13 4 12,o 14 (.call f_73 [(t 13)] true),o 15 (.build [(.int .i64 0), (.bool false), (.slice none 0 0), (.bool false), (.slice none 0 0)] [(1, 4, (t 14))]),
  ⟨none, none, .store 5 (t 2) (t 15)⟩]
def s_59 : SF := ⟨1, 16, [.cell 2 true 5],
  (qS (gR r_59_0) (qS (qS (gR r_59_1) (.cond (t 5) (qS (gR r_59_2) .ret) .skip)) (qS (qS (gR r_59_3) (.cond (t 10) (qS (gR r_59_4) .ret) .skip)) (qS (gR r_59_5) .ret))))⟩

def r_60_0 : SS := [o 2 (.box T_api_Template (t 0)),o 4 (.mv (.const (.bool false)))]
def r_60_1 : SS := [mV 9 1,o 10 (.bin 0 .lss (t 9) (i 0)),mV 11 10,og 12 11 false (.mv (t 1)),og 13 11 false (.bin 0 .gtr (t 12) (i 6)),o 14 (.pick (t 11) (.const (.bool true)) (t 13)),mV 15 14,og 16 15 false (.fa 0 (t 2)),og 17 15 false (.load false 1 (t 16)),og 18 15 false (.len (t 17)),og 19 15 false (.bin 0 .gtr (t 18) (i 40)),o 20 (.pick (t 15) (.const (.bool true)) (t 19))]
def r_60_2 : SS := [o 4 (.mv (.const (.bool false)))]
def r_60_3 : SS := [fA 21 0 2,lD 22 21,lN 23 22,o 24 (.mv (i 0))]
def r_60_4 : SS := [o 25 (.bin 0 .lss (t 24) (t 23))]
def r_60_5 : SS := [iA 26 1 22 24,lD 27 26,mV 6 27]
def r_60_6 : SS := [mV 28 6,lN 29 28,mV 30 1,o 31 (.bin 0 .neq (t 29) (t 30))]
def r_60_7 : SS := [o 4 (.mv (.const (.bool false)))]
def r_60_8 : SS := [mV 32 6,lN 33 32,o 34 (.mv (i 0))]
def r_60_9 : SS := [o 35 (.bin 0 .lss (t 34) (t 33))]
def r_60_10 : SS := [iA 36 4 32 34,lA 37 4 36,o 8 (.alloc T_api_Rat [(.bool false), (.slice none 0 0), (.bool false), (.slice none 0 0)]),
  ⟨none, none, .store 4 (t 8) (t 37)⟩]
def r_60_11 : SS := [lA 38 4 8,o 39 (.call f_97 [(t 38)] true),o 40 (.un .not (t 39))]
def r_60_12 : SS := [o 4 (.mv (.const (.bool false)))]
def r_60_13 : SS := [o 41 (.bin 0 .add (t 34) (i 1)),mV 34 41]
def r_60_14 : SS := [o 42 (.bin 0 .add (t 24) (i 1)),mV 24 42]
def r_60_15 : SS := [o 4 (.mv (.const (.bool true)))]
def s_60 : SF := ⟨2, 43, [.tmp 4],
  (qS (gR r_60_0) (qS (qS (gR r_60_1) (.cond (t 20) (qS (gR r_60_2) .ret) .skip)) (qS (qS (gR r_60_3) (.block 0 (.loop (qS (gR r_60_4) (qS (.cond (t 25) .skip (.exit 0)) (qS (.block 1 (qS (gR r_60_5) (qS (qS (gR r_60_6) (.cond (t 31) (qS (gR r_60_7) .ret) .skip)) (qS (gR r_60_8) (.block 2 (.loop (qS (gR r_60_9) (qS (.cond (t 35) .skip (.exit 2)) (qS (.block 3 (qS (gR r_60_10) (qS (gR r_60_11) (.cond (t 40) (qS (gR r_60_12) .ret) .skip)))) (gR r_60_13)))))))))) (gR r_60_14))))))) (qS (gR r_60_15) .ret))))⟩

def r_61_0 : SS := [o 4 (.mv (.const (.bool false)))]
def r_61_1 : SS := [mV 5 0,mV 6 1,o 7 (.call f_98 [(t 5), (t 6)] true),o 8 (.bin 0 .geq (t 7) (i 0)),mV 4 8]
def s_61 : SF := ⟨2, 9, [.tmp 4],
  (qS (gR r_61_0) (qS (gR r_61_1) .ret))⟩

def r_62_0 : SS := [o 1 (.box T_api_Ext (t 0)),o 2 (.mv (.const (.bool false)))]
def r_62_1 : SS := [lA 3 5 1,o 4 (.call f_63 [(t 3)] true),o 5 (.un .not (t 4)),mV 2 5]
def s_62 : SF := ⟨1, 6, [.tmp 2],
  (qS (gR r_62_0) (qS (gR r_62_1) .ret))⟩

def r_63_0 : SS := [o 1 (.box T_api_Ext (t 0)),o 2 (.mv (.const (.bool false)))]
def r_63_1 : SS := [fA 3 0 1,lD 4 3]
def r_63_2 : SS := [o 6 (.bin 0 .eql (t 4) (.const (.int .i64 (-1)))),mV 5 6]
def r_63_3 : SS := [o 7 (.bin 0 .eql (t 4) (i 1)),mV 5 7]
def r_63_4 : SS := [fA 8 1 1,lA 9 4 8,o 10 (.call f_99 [(t 9)] true),mV 2 10]
def r_63_5 : SS := [o 12 (.bin 0 .eql (t 4) (i 0)),mV 11 12]
def r_63_6 : SS := [fA 13 1 1,lA 14 4 13,o 15 (.call f_97 [(t 14)] true),mV 2 15]
def r_63_7 : SS := [o 2 (.mv (.const (.bool false)))]
def s_63 : SF := ⟨1, 16, [.tmp 2],
  (qS (gR r_63_0) (qS (qS (gR r_63_1) (.block 0 (qS (qS (gR r_63_2) (.cond (t 5) .skip (gR r_63_3))) (.cond (t 5) (qS (gR r_63_4) .ret) (qS (gR r_63_5) (.cond (t 11) (qS (gR r_63_6) .ret) .skip)))))) (qS (gR r_63_7) .ret)))⟩

def r_73_0 : SS := [o 1 (.box T_api_Rat (t 0)),o 2 (.alloc T_api_Rat [(.bool false), (.slice none 0 0), (.bool false), (.slice none 0 0)])]
def r_73_1 : SS := [lA 3 4 1,o 4 (.call f_95 [(t 3)] true),o 5 (.un .not (t 4)),mV 6 5,og 7 6 false (.fa 2 (t 1)),og 8 6 false (.fa 1 (t 7)),og 9 6 false (.load false 1 (t 8)),og 10 6 false (.len (t 9)),og 11 6 false (.bin 0 .eql (t 10) (i 0)),o 12 (.pick (t 6) (.const (.bool true)) (t 11))]
def r_73_2 : SS := [o 13 (.call f_81 [] true),
  ⟨none, none, .store 4 (t 2) (t 13)⟩]
def r_73_3 : SS := [fA 14 0 1,fA 15 0 14,lD 16 15,fA 17 0 1,fA 18 1 17,lD 19 18,o 20 (.call f_76 [(t 16), (t 19)] false),fA 21 2 1,fA 22 1 21,lD 23 22,o 24 (.call f_76 [(.const (.bool false)), (t 23)] true),o 25 (.build [(.bool false), (.slice none 0 0), (.bool false), (.slice none 0 0)] [(0, 2, (t 20)), (2, 2, (t 24))]),
  ⟨none, none, .store 4 (t 2) (t 25)⟩]
def s_73 : SF := ⟨1, 26, [.cell 2 true 4],
  (qS (gR r_73_0) (qS (qS (gR r_73_1) (.cond (t 12) (qS (gR r_73_2) .ret) .skip)) (qS (.draw r_73_3 [0, 1, 3, 0, 8, 24, 63, 0, 128, 384, 1023, 2047, 4095] []) .ret)))⟩

def r_74_0 : SS := [o 2 (.box T_api_Int (t 0)),o 3 (.box T_api_Int (t 1)),o 4 (.mv (i 0))]
def r_74_1 : SS := [lA 6 2 2,lA 7 2 3,o 8 (.call f_104 [(t 6), (t 7)] true),o 5 (.alloc T_api_Int [(.bool false), (.slice none 0 0)]),
  ⟨none, none, .store 2 (t 5) (t 8)⟩]
def r_74_2 : SS := [fA 9 1 5,lD 10 9,lN 11 10,o 12 (.bin 0 .eql (t 11) (i 0))]
def r_74_3 : SS := [o 4 (.mv (i 0))]
def r_74_4 : SS := [fA 13 0 5,lD 14 13]
def r_74_5 : SS := [o 4 (.mv (.const (.int .i64 (-1))))]
def r_74_6 : SS := [o 4 (.mv (i 1))]
def s_74 : SF := ⟨2, 15, [.tmp 4],
  (qS (gR r_74_0) (qS (gR r_74_1) (qS (qS (gR r_74_2) (.cond (t 12) (qS (gR r_74_3) .ret) .skip)) (qS (qS (gR r_74_4) (.cond (t 14) (qS (gR r_74_5) .ret) .skip)) (qS (gR r_74_6) .ret)))))⟩

def r_75_0 : SS := [o 2 (.box T_api_Int (t 0)),o 3 (.box T_api_Int (t 1)),o 4 (.alloc T_api_Int [(.bool false), (.slice none 0 0)])]
def r_75_1 : SS := [lA 5 2 2,o 6 (.call f_105 [(t 5)] true),
  ⟨none, none, .store 2 (t 2) (t 6)⟩]
def r_75_2 : SS := [lA 7 2 3,o 8 (.call f_105 [(t 7)] true),
  ⟨none, none, .store 2 (t 3) (t 8)⟩]
def r_75_3 : SS := [fA 9 0 2,lD 10 9,fA 11 0 3,lD 12 11,o 13 (.bin 1 .neq (t 10) (t 12)),fA 14 1 2,lD 15 14,fA 16 1 3,lD 17 16,o 18 (.call f_106 [(t 15), (t 17)] false),o 19 (.call f_76 [(t 13), (t 18)] true),
  ⟨none, none, .store 2 (t 4) (t 19)⟩]
def s_75 : SF := ⟨2, 20, [.cell 4 true 2],
  (qS (gR r_75_0) (qS (gR r_75_1) (qS (gR r_75_2) (qS (.draw r_75_3 [0, 1, 0, 4, 15, 0, 32, 0, 128, 480, 1023, 2047] []) .ret))))⟩

def r_76_0 : SS := [o 4 (.alloc T_api_Int [(.bool false), (.slice none 0 0)])]
def r_76_1 : SS := [mV 5 1,o 6 (.call f_107 [(t 5)] true),mV 1 6]
def r_76_2 : SS := [mV 7 1,lN 8 7,o 9 (.bin 0 .eql (t 8) (i 0))]
def r_76_3 : SS := [o 10 (.build [(.bool false), (.slice none 0 0)] []),
  ⟨none, none, .store 2 (t 4) (t 10)⟩]
def r_76_4 : SS := [mV 11 0,o 12 (.lit T_uint32 [(.int .u32 0)] 0 []),mV 13 1,o 14 (.app T_uint32 1 4 (t 12) (t 13)),o 15 (.build [(.bool false), (.slice none 0 0)] [(0, 1, (t 11)), (1, 1, (t 14))]),
  ⟨none, none, .store 2 (t 4) (t 15)⟩]
def s_76 : SF := ⟨2, 16, [.cell 4 true 2],
  (qS (gR r_76_0) (qS (gR r_76_1) (qS (qS (gR r_76_2) (.cond (t 9) (qS (gR r_76_3) .ret) .skip)) (qS (gR r_76_4) .ret))))⟩

def r_77_0 : SS := [o 1 (.box T_api_LP (t 0)),o 2 (.mv (.const (.bool false)))]
def r_77_1 : SS := [fA 3 0 1,lD 4 3,o 5 (.bin 0 .lss (t 4) (i 0)),mV 6 5,og 7 6 false (.fa 0 (t 1)),og 8 6 false (.load false 1 (t 7)),og 9 6 false (.bin 0 .gtr (t 8) (i 60)),o 10 (.pick (t 6) (.const (.bool true)) (t 9)),mV 11 10,og 12 11 false (.fa 1 (t 1)),og 13 11 false (.load false 1 (t 12)),og 14 11 false (.len (t 13)),og 15 11 false (.bin 0 .gtr (t 14) (i 60)),o 16 (.pick (t 11) (.const (.bool true)) (t 15)),mV 17 16,og 18 17 false (.fa 2 (t 1)),og 19 17 false (.load false 1 (t 18)),og 20 17 false (.len (t 19)),og 21 17 false (.fa 1 (t 1)),og 22 17 false (.load false 1 (t 21)),og 23 17 false (.len (t 22)),og 24 17 false (.bin 0 .neq (t 20) (t 23)),o 25 (.pick (t 17) (.const (.bool true)) (t 24)),mV 26 25,og 27 26 false (.fa 3 (t 1)),og 28 26 false (.load false 1 (t 27)),og 29 26 false (.len (t 28)),og 30 26 false (.fa 0 (t 1)),og 31 26 false (.load false 1 (t 30)),og 32 26 false (.bin 0 .neq (t 29) (t 31)),o 33 (.pick (t 26) (.const (.bool true)) (t 32))]
def r_77_2 : SS := [o 2 (.mv (.const (.bool false)))]
def r_77_3 : SS := [fA 34 1 1,lD 35 34,o 36 (.mkfn (.func f_109) [] [(t 1)]),o 37 (.call f_108 [(t 35), (t 36)] true),o 38 (.un .not (t 37)),mV 2 38]
def s_77 : SF := ⟨1, 39, [.tmp 2],
  (qS (gR r_77_0) (qS (qS (gR r_77_1) (.cond (t 33) (qS (gR r_77_2) .ret) .skip)) (qS (gR r_77_3) .ret)))⟩

def r_78_0 : SS := [o 1 (.box T_api_LP (t 0)),o 2 (.alloc T_api_Answer [(.int .i64 0), (.bool false), (.slice none 0 0), (.bool false), (.slice none 0 0), (.slice none 0 0), (.slice none 0 0), (.slice none 0 0)]),o 3 (.mv (i 0))]
def r_78_1 : SS := [lA 8 4 1,o 9 (.call f_110 [(t 8)] true),o 4 (.alloc T_simplex_scaled [(.int .i64 0), (.slice none 0 0), (.slice none 0 0), (.slice none 0 0), (.bool false), (.slice none 0 0), (.bool false), (.slice none 0 0)]),
  ⟨none, none, .store 8 (t 4) (t 9)⟩]
def r_78_2 : SS := [lA 11 4 1,lA 12 8 4,o 13 (.call f_111 [(t 11), (t 12)] true),mV 10 13,o 14 (.ext (t 10) 0),o 15 (.ext (t 10) 1),o 16 (.ext (t 10) 2),o 5 (.alloc T_api_Answer [(.int .i64 0), (.bool false), (.slice none 0 0), (.bool false), (.slice none 0 0), (.slice none 0 0), (.slice none 0 0), (.slice none 0 0)]),
  ⟨none, none, .store 8 (t 5) (t 14)⟩,mV 6 15,mV 7 16]
def r_78_3 : SS := [mV 17 7]
def r_78_4 : SS := [lA 18 8 5,mV 19 6,
  ⟨none, none, .store 8 (t 2) (t 18)⟩,mV 3 19]
def r_78_5 : SS := [o 20 (.build [] []),lA 21 4 1,lA 22 8 4,o 23 (.call f_112 [(t 20), (t 21), (t 22)] true),o 24 (.ext (t 23) 0),o 25 (.ext (t 23) 1),
  ⟨none, none, .store 8 (t 2) (t 24)⟩,mV 3 25]
def s_78 : SF := ⟨1, 26, [.cell 2 true 8, .tmp 3],
  (qS (gR r_78_0) (qS (gR r_78_1) (qS (qS (gR r_78_2) (qS (gR r_78_3) (.cond (t 17) (qS (gR r_78_4) .ret) .skip))) (qS (gR r_78_5) .ret))))⟩

def r_79_0 : SS := [o 2 (.mv (.const (.slice none 0 0)))]
def r_79_1 : SS := [o 3 (.mv (.const (.slice none 0 0)))]
def r_79_2 : SS := [o 4 (.mv (i 0))]
def r_79_3 : SS := [mV 5 4,mV 6 0,o 7 (.bin 0 .lss (t 5) (t 6))]
def r_79_4 : SS := [mV 10 3,o 11 (.call f_12 [(i 0)] true),o 12 (.lit T_api_Rat [(.bool false), (.slice none 0 0), (.bool false), (.slice none 0 0)] 1 [(0, 4, (t 11))]),o 13 (.app T_api_Rat 4 64 (t 10) (t 12)),mV 3 13]
def r_79_5 : SS := [mV 8 4,o 9 (.bin 0 .add (t 8) (i 1)),mV 4 9]
def r_79_6 : SS := [mV 14 3,mV 2 14]
def s_79 : SF := ⟨1, 15, [.tmp 2],
  (qS (gR r_79_0) (qS (gR r_79_1) (qS (qS (gR r_79_2) (.block 0 (.loop (qS (qS (gR r_79_3) (.cond (t 7) .skip (.exit 0))) (qS (.block 1 (gR r_79_4)) (gR r_79_5)))))) (qS (gR r_79_6) .ret))))⟩

def r_81_0 : SS := [o 0 (.alloc T_api_Rat [(.bool false), (.slice none 0 0), (.bool false), (.slice none 0 0)])]
def r_81_1 : SS := [o 1 (.call f_39 [(i 1)] true),o 2 (.build [(.bool false), (.slice none 0 0), (.bool false), (.slice none 0 0)] [(2, 2, (t 1))]),
  ⟨none, none, .store 4 (t 0) (t 2)⟩]
def s_81 : SF := ⟨0, 3, [.cell 0 true 4],
  (qS (gR r_81_0) (qS (gR r_81_1) .ret))⟩

def r_82_0 : SS := [o 2 (.box T_api_Rat (t 0)),o 3 (.box T_api_Rat (t 1)),o 4 (.alloc T_api_Rat [(.bool false), (.slice none 0 0), (.bool false), (.slice none 0 0)])]
def r_82_1 : SS := [lA 7 4 2,o 8 (.call f_73 [(t 7)] true),
  ⟨none, none, .store 4 (t 2) (t 8)⟩]
def r_82_2 : SS := [lA 9 4 3,o 10 (.call f_73 [(t 9)] true),
  ⟨none, none, .store 4 (t 3) (t 10)⟩]
def r_82_3 : SS := [fA 12 0 2,lA 13 2 12,fA 14 2 3,lA 15 2 14,o 16 (.call f_75 [(t 13), (t 15)] false),fA 17 0 3,lA 18 2 17,fA 19 2 2,lA 20 2 19,o 21 (.call f_75 [(t 18), (t 20)] false),o 22 (.call f_115 [(t 16), (t 21)] false),fA 23 2 2,lA 24 2 23,fA 25 2 3,lA 26 2 25,o 27 (.call f_75 [(t 24), (t 26)] false),o 28 (.call f_114 [(t 22), (t 27)] false),mV 11 28,o 29 (.ext (t 11) 0),o 30 (.ext (t 11) 1),o 5 (.alloc T_api_Rat [(.bool false), (.slice none 0 0), (.bool false), (.slice none 0 0)]),
  ⟨none, none, .store 4 (t 5) (t 29)⟩,mV 6 30]
def r_82_4 : SS := [lA 31 4 5,
  ⟨none, none, .store 4 (t 4) (t 31)⟩]
def s_82 : SF := ⟨2, 32, [.cell 4 true 4],
  (qS (gR r_82_0) (qS (gR r_82_1) (qS (gR r_82_2) (qS (.draw r_82_3 [0, 1, 0, 4, 15, 0, 32, 0, 128, 511, 1023, 0, 2048, 0, 8192, 32767, 65535, 131071, 262143, 262143, 0, 1572863, 4194303] []) (qS (gR r_82_4) .ret)))))⟩

def r_83_0 : SS := [o 2 (.box T_api_Rat (t 0)),o 3 (.box T_api_Rat (t 1)),o 4 (.alloc T_api_Rat [(.bool false), (.slice none 0 0), (.bool false), (.slice none 0 0)])]
def r_83_1 : SS := [lA 7 4 2,o 8 (.call f_73 [(t 7)] true),
  ⟨none, none, .store 4 (t 2) (t 8)⟩]
def r_83_2 : SS := [lA 9 4 3,o 10 (.call f_73 [(t 9)] true),
  ⟨none, none, .store 4 (t 3) (t 10)⟩]
def r_83_3 : SS := [fA 12 0 2,lA 13 2 12,fA 14 0 3,lA 15 2 14,o 16 (.call f_75 [(t 13), (t 15)] false),fA 17 2 2,lA 18 2 17,fA 19 2 3,lA 20 2 19,o 21 (.call f_75 [(t 18), (t 20)] false),o 22 (.call f_114 [(t 16), (t 21)] false),mV 11 22,o 23 (.ext (t 11) 0),o 24 (.ext (t 11) 1),o 5 (.alloc T_api_Rat [(.bool false), (.slice none 0 0), (.bool false), (.slice none 0 0)]),
  ⟨none, none, .store 4 (t 5) (t 23)⟩,mV 6 24]
def r_83_4 : SS := [lA 25 4 5,
  ⟨none, none, .store 4 (t 4) (t 25)⟩]
def s_83 : SF := ⟨2, 26, [.cell 4 true 4],
  (qS (gR r_83_0) (qS (gR r_83_1) (qS (gR r_83_2) (qS (.draw r_83_3 [0, 1, 0, 4, 15, 0, 32, 0, 128, 511, 1023, 2047, 4095, 4095, 0, 24575, 65535] []) (qS (gR r_83_4) .ret)))))⟩

def r_84_0 : SS := [o 1 (.box T_api_Ext (t 0)),o 2 (.mv (.const (.bool false)))]
def r_84_1 : SS := [fA 3 0 1,lD 4 3,o 5 (.bin 0 .lss (t 4) (i 0)),mV 2 5]
def s_84 : SF := ⟨1, 6, [.tmp 2],
  (qS (gR r_84_0) (qS (gR r_84_1) .ret))⟩

def r_85_0 : SS := [o 1 (.box T_api_Rat (t 0)),o 2 (.alloc T_api_Rat [(.bool false), (.slice none 0 0), (.bool false), (.slice none 0 0)])]
def r_85_1 : SS := [lA 3 4 1,o 4 (.call f_116 [(t 3)] true),mV 5 4,og 6 5 false (.load true 4 (t 1)),og 7 5 false (.call f_97 [(t 6)] true),og 8 5 false (.un .not (t 7)),o 9 (.pick (t 5) (.const (.bool true)) (t 8))]
def r_85_2 : SS := [o 10 (.call f_117 [] true),o 11 (.build [(.bool false), (.slice none 0 0), (.bool false), (.slice none 0 0)] [(2, 2, (t 10))]),
  ⟨none, none, .store 4 (t 2) (t 11)⟩]
def r_85_3 : SS := [fA 12 0 1,lA 13 2 12,o 14 (.build [(.bool false), (.slice none 0 0)] []),o 15 (.call f_88 [(t 13), (t 14)] false),fA 16 2 1,lA 17 2 16,o 18 (.build [(.bool false), (.slice none 0 0)] []),o 19 (.call f_88 [(t 17), (t 18)] true),o 20 (.build [(.bool false), (.slice none 0 0), (.bool false), (.slice none 0 0)] [(0, 2, (t 15)), (2, 2, (t 19))]),
  ⟨none, none, .store 4 (t 2) (t 20)⟩]
def s_85 : SF := ⟨1, 21, [.cell 2 true 4],
  (qS (gR r_85_0) (qS (qS (gR r_85_1) (.cond (t 9) (qS (gR r_85_2) .ret) .skip)) (qS (.draw r_85_3 [0, 1, 0, 7, 0, 16, 0, 127, 255, 511] []) .ret)))⟩

def r_86_0 : SS := [o 2 (.box T_api_Int (t 0)),o 3 (.box T_api_Int (t 1)),o 4 (.alloc T_api_Rat [(.bool false), (.slice none 0 0), (.bool false), (.slice none 0 0)])]
def r_86_1 : SS := [lA 8 2 2,lA 9 2 3,o 10 (.call f_118 [(t 8), (t 9)] true),mV 7 10,o 11 (.ext (t 7) 0),o 12 (.ext (t 7) 1),o 5 (.alloc T_api_Rat [(.bool false), (.slice none 0 0), (.bool false), (.slice none 0 0)]),
  ⟨none, none, .store 4 (t 5) (t 11)⟩,mV 6 12]
def r_86_2 : SS := [lA 13 4 5,
  ⟨none, none, .store 4 (t 4) (t 13)⟩]
def s_86 : SF := ⟨2, 14, [.cell 4 true 4],
  (qS (gR r_86_0) (qS (gR r_86_1) (qS (gR r_86_2) .ret)))⟩

def r_87_0 : SS := [o 4 (.box T_api_Int (t 1)),o 6 (.alloc T_api_Int [(.bool false), (.slice none 0 0)])]
def r_87_1 : SS := [mV 9 2,lN 10 9,o 11 (.mv (i 0))]
def r_87_2 : SS := [o 12 (.bin 0 .lss (t 11) (t 10))]
def r_87_3 : SS := [iA 13 2 9 11,lA 14 2 13,o 8 (.alloc T_api_Int [(.bool false), (.slice none 0 0)]),
  ⟨none, none, .store 2 (t 8) (t 14)⟩]
def r_87_4 : SS := [mV 15 0,lA 16 2 4,lA 17 2 8,o 18 (.callv (t 15) [(t 16), (t 17)] true),
  ⟨none, none, .store 2 (t 4) (t 18)⟩]
def r_87_5 : SS := [o 19 (.bin 0 .add (t 11) (i 1)),mV 11 19]
def r_87_6 : SS := [lA 20 2 4,
  ⟨none, none, .store 2 (t 6) (t 20)⟩]
def s_87 : SF := ⟨3, 21, [.cell 6 true 2],
  (qS (gR r_87_0) (qS (qS (gR r_87_1) (.block 0 (.loop (qS (gR r_87_2) (qS (.cond (t 12) .skip (.exit 0)) (qS (.block 1 (qS (gR r_87_3) (gR r_87_4))) (gR r_87_5))))))) (qS (gR r_87_6) .ret)))⟩

def r_88_0 : SS := [o 2 (.box T_api_Int (t 0)),o 3 (.box T_api_Int (t 1)),o 4 (.alloc T_api_Int [(.bool false), (.slice none 0 0)])]
def r_88_1 : SS := [lA 7 2 2,o 8 (.call f_119 [(t 7)] false),lA 9 2 3,o 10 (.call f_119 [(t 9)] true),mV 5 8,mV 6 10]
def r_88_2 : SS := [lA 12 2 2,o 13 (.call f_120 [(t 12)] false),lA 14 2 3,o 15 (.call f_120 [(t 14)] true),o 16 (.bin 1 .eql (t 13) (t 15)),mV 11 16]
def r_88_3 : SS := [lA 17 2 2,o 18 (.call f_120 [(t 17)] true),mV 19 5,mV 20 6,o 21 (.call f_122 [(t 19), (t 20)] true),o 22 (.call f_121 [(t 18), (t 21)] true),
  ⟨none, none, .store 2 (t 4) (t 22)⟩]
def r_88_4 : SS := [mV 24 5,mV 25 6,o 26 (.call f_123 [(t 24), (t 25)] true),o 27 (.bin 0 .geq (t 26) (i 0)),mV 23 27]
def r_88_5 : SS := [lA 28 2 2,o 29 (.call f_120 [(t 28)] true),mV 30 5,mV 31 6,o 32 (.call f_124 [(t 30), (t 31)] true),o 33 (.call f_121 [(t 29), (t 32)] true),
  ⟨none, none, .store 2 (t 4) (t 33)⟩]
def r_88_6 : SS := [lA 34 2 3,o 35 (.call f_120 [(t 34)] true),mV 36 6,mV 37 5,o 38 (.call f_124 [(t 36), (t 37)] true),o 39 (.call f_121 [(t 35), (t 38)] true),
  ⟨none, none, .store 2 (t 4) (t 39)⟩]
def s_88 : SF := ⟨2, 40, [.cell 4 true 2],
  (qS (gR r_88_0) (qS (.draw r_88_1 [0, 1, 0, 7, 15, 31] []) (qS (.block 0 (qS (.draw r_88_2 [0, 1, 0, 7, 15, 31] []) (.cond (t 11) (qS (gR r_88_3) .ret) (qS (gR r_88_4) (.cond (t 23) (qS (gR r_88_5) .ret) .skip))))) (qS (gR r_88_6) .ret))))⟩

def r_89_0 : SS := [o 2 (.box T_api_Int (t 0)),o 3 (.box T_api_Int (t 1)),o 4 (.alloc T_api_Int [(.bool false), (.slice none 0 0)])]
def r_89_1 : SS := [lA 13 2 2,o 14 (.call f_119 [(t 13)] false),lA 15 2 3,o 16 (.call f_119 [(t 15)] true),mV 5 14,mV 6 16]
def r_89_2 : SS := [mV 17 5,lN 18 17,mV 19 6,lN 20 19,o 21 (.bin 0 .add (t 18) (t 20)),o 22 (.mk T_uint32 4 [(.int .u32 0)] (t 21) (t 21)),mV 7 22]
def r_89_3 : SS := [mV 23 5,lN 24 23,o 25 (.mv (i 0))]
def r_89_4 : SS := [o 26 (.bin 0 .lss (t 25) (t 24))]
def r_89_5 : SS := [mV 27 25,iA 28 1 23 25,lD 29 28,mV 8 27,mV 9 29]
def r_89_6 : SS := [o 10 (.mv (.const (.int .u64 0)))]
def r_89_7 : SS := [mV 30 6,lN 31 30,o 32 (.mv (i 0))]
def r_89_8 : SS := [o 33 (.bin 0 .lss (t 32) (t 31))]
def r_89_9 : SS := [mV 34 32,iA 35 1 30 32,lD 36 35,mV 11 34,mV 12 36]
def r_89_10 : SS := [mV 37 10,mV 38 9,o 39 (.conv .u64 (t 38)),mV 40 12,o 41 (.conv .u64 (t 40)),o 42 (.bin 0 .mul (t 39) (t 41)),mV 43 7,mV 44 8,mV 45 11,o 46 (.bin 0 .add (t 44) (t 45)),iA 47 1 43 46,lD 48 47,o 49 (.conv .u64 (t 48)),o 50 (.bin 0 .add (t 42) (t 49)),o 51 (.bin 0 .add (t 37) (t 50)),mV 10 51]
def r_89_11 : SS := [mV 52 7,mV 53 8,mV 54 11,o 55 (.bin 0 .add (t 53) (t 54)),mV 56 10,o 57 (.call f_125 [(t 56)] true),iA 58 1 52 55,
  ⟨none, none, .store 1 (t 58) (t 57)⟩]
def r_89_12 : SS := [mV 59 10,o 60 (.bin 0 .shr (t 59) (.const (.int .u64 32))),mV 10 60]
def r_89_13 : SS := [o 61 (.bin 0 .add (t 32) (i 1)),mV 32 61]
def r_89_14 : SS := [mV 62 7,mV 63 8,mV 64 6,lN 65 64,o 66 (.bin 0 .add (t 63) (t 65)),mV 67 10,o 68 (.call f_125 [(t 67)] true),iA 69 1 62 66,
  ⟨none, none, .store 1 (t 69) (t 68)⟩]
def r_89_15 : SS := [o 70 (.bin 0 .add (t 25) (i 1)),mV 25 70]
def r_89_16 : SS := [lA 71 2 2,o 72 (.call f_120 [(t 71)] false),lA 73 2 3,o 74 (.call f_120 [(t 73)] true),o 75 (.bin 1 .neq (t 72) (t 74)),mV 76 7,o 77 (.call f_121 [(t 75), (t 76)] true),
  ⟨none, none, .store 2 (t 4) (t 77)⟩]
def s_89 : SF := ⟨2, 78, [.cell 4 true 2],
  (qS (gR r_89_0) (qS (.draw r_89_1 [0, 1, 0, 7, 15, 31] []) (qS (gR r_89_2) (qS (qS (gR r_89_3) (.block 0 (.loop (qS (gR r_89_4) (qS (.cond (t 26) .skip (.exit 0)) (qS (.block 1 (qS (gR r_89_5) (qS (gR r_89_6) (qS (qS (gR r_89_7) (.block 2 (.loop (qS (gR r_89_8) (qS (.cond (t 33) .skip (.exit 2)) (qS (.block 3 (qS (gR r_89_9) (qS (gR r_89_10) (qS (gR r_89_11) (gR r_89_12))))) (gR r_89_13))))))) (gR r_89_14))))) (gR r_89_15))))))) (qS (.draw r_89_16 [0, 1, 0, 7, 15, 0, 63, 127] []) .ret)))))⟩

def r_90_0 : SS := [o 2 (.alloc T_api_Rat [(.bool false), (.slice none 0 0), (.bool false), (.slice none 0 0)])]
def r_90_1 : SS := [mV 3 0,o 4 (.call f_126 [(t 3)] true),o 5 (.call f_117 [] true),o 6 (.build [(.bool false), (.slice none 0 0), (.bool false), (.slice none 0 0)] [(0, 2, (t 4)), (2, 2, (t 5))]),
  ⟨none, none, .store 4 (t 2) (t 6)⟩]
def s_90 : SF := ⟨1, 7, [.cell 2 true 4],
  (qS (gR r_90_0) (qS (gR r_90_1) .ret))⟩

def r_91_0 : SS := [o 2 (.box T_api_Rat (t 0)),o 3 (.box T_api_Rat (t 1)),o 4 (.alloc T_api_Rat [(.bool false), (.slice none 0 0), (.bool false), (.slice none 0 0)])]
def r_91_1 : SS := [lA 5 4 2,o 6 (.call f_85 [(t 5)] false),lA 7 4 3,o 8 (.call f_85 [(t 7)] true),
  ⟨none, none, .store 4 (t 2) (t 6)⟩,
  ⟨none, none, .store 4 (t 3) (t 8)⟩]
def r_91_2 : SS := [fA 9 0 2,lA 10 2 9,fA 11 0 3,lA 12 2 11,o 13 (.call f_89 [(t 10), (t 12)] false),fA 14 2 2,lA 15 2 14,fA 16 2 3,lA 17 2 16,o 18 (.call f_89 [(t 15), (t 17)] true),o 19 (.call f_86 [(t 13), (t 18)] true),
  ⟨none, none, .store 4 (t 4) (t 19)⟩]
def s_91 : SF := ⟨2, 20, [.cell 4 true 4],
  (qS (gR r_91_0) (qS (.draw r_91_1 [0, 1, 0, 7, 15, 31] []) (qS (.draw r_91_2 [0, 1, 0, 4, 15, 0, 32, 0, 128, 511, 1023, 2047] []) .ret)))⟩

def r_92_0 : SS := [o 1 (.box T_api_Ext (t 0)),o 2 (.alloc T_api_Ext [(.int .i64 0), (.bool false), (.slice none 0 0), (.bool false), (.slice none 0 0)])]
def r_92_1 : SS := [lA 4 5 1,o 5 (.call f_63 [(t 4)] true),o 6 (.un .not (t 5)),mV 3 6]
def r_92_2 : SS := [o 7 (.build [(.bool false), (.slice none 0 0), (.bool false), (.slice none 0 0)] []),o 8 (.call f_54 [(t 7)] true),
  ⟨none, none, .store 5 (t 2) (t 8)⟩]
def r_92_3 : SS := [fA 10 0 1,lD 11 10,o 12 (.bin 0 .eql (t 11) (i 0)),mV 9 12]
def r_92_4 : SS := [fA 13 1 1,lA 14 4 13,o 15 (.call f_54 [(t 14)] true),
  ⟨none, none, .store 5 (t 2) (t 15)⟩]
def r_92_5 : SS := [fA 16 0 1,lD 17 16,o 18 (.build [(.int .i64 0), (.bool false), (.slice none 0 0), (.bool false), (.slice none 0 0)] [(0, 1, (t 17))]),
  ⟨none, none, .store 5 (t 2) (t 18)⟩]
def s_92 : SF := ⟨1, 19, [.cell 2 true 5],
  (qS (gR r_92_0) (qS (.block 0 (qS (gR r_92_1) (.cond (t 3) (qS (gR r_92_2) .ret) (qS (gR r_92_3) (.cond (t 9) (qS (gR r_92_4) .ret) .skip))))) (qS (gR r_92_5) .ret)))⟩

def r_93_0 : SS := [o 2 (.box T_api_Rat (t 0)),o 3 (.box T_api_Rat (t 1)),o 4 (.mv (i 0))]
def r_93_1 : SS := [lA 5 4 2,o 6 (.call f_85 [(t 5)] false),lA 7 4 3,o 8 (.call f_85 [(t 7)] true),
  ⟨none, none, .store 4 (t 2) (t 6)⟩,
  ⟨none, none, .store 4 (t 3) (t 8)⟩]
def r_93_2 : SS := [fA 9 0 2,lA 10 2 9,fA 11 2 3,lA 12 2 11,o 13 (.call f_89 [(t 10), (t 12)] false),fA 14 0 3,lA 15 2 14,fA 16 2 2,lA 17 2 16,o 18 (.call f_89 [(t 15), (t 17)] true),o 19 (.call f_127 [(t 13), (t 18)] true),mV 4 19]
def s_93 : SF := ⟨2, 20, [.tmp 4],
  (qS (gR r_93_0) (qS (.draw r_93_1 [0, 1, 0, 7, 15, 31] []) (qS (.draw r_93_2 [0, 1, 0, 4, 15, 0, 32, 0, 128, 511, 1023, 2047] []) .ret)))⟩

def r_94_0 : SS := [o 2 (.box T_api_Rat (t 0)),o 3 (.box T_api_Rat (t 1)),o 4 (.mv (.const (.bool false)))]
def r_94_1 : SS := [fA 5 0 2,lA 6 2 5,fA 7 0 3,lA 8 2 7,o 9 (.call f_128 [(t 6), (t 8)] true),mV 10 9,og 11 10 true (.fa 2 (t 2)),og 12 10 true (.load true 2 (t 11)),og 13 10 true (.fa 2 (t 3)),og 14 10 true (.load true 2 (t 13)),og 15 10 true (.call f_128 [(t 12), (t 14)] true),o 16 (.pick (t 10) (t 15) (.const (.bool false))),mV 4 16]
def s_94 : SF := ⟨2, 17, [.tmp 4],
  (qS (gR r_94_0) (qS (gR r_94_1) .ret))⟩

def r_95_0 : SS := [o 1 (.box T_api_Rat (t 0)),o 2 (.mv (.const (.bool false)))]
def r_95_1 : SS := [fA 4 2 1,fA 5 1 4,lD 6 5,lN 7 6,o 8 (.bin 0 .eql (t 7) (i 0)),mV 9 8,og 10 9 true (.fa 2 (t 1)),og 11 9 true (.fa 0 (t 10)),og 12 9 true (.load false 1 (t 11)),og 13 9 true (.un .not (t 12)),o 14 (.pick (t 9) (t 13) (.const (.bool false)))]
def r_95_2 : SS := [fA 15 0 1,fA 16 1 15,lD 17 16,lN 18 17,o 19 (.bin 0 .eql (t 18) (i 0)),mV 20 19,og 21 20 true (.fa 0 (t 1)),og 22 20 true (.fa 0 (t 21)),og 23 20 true (.load false 1 (t 22)),og 24 20 true (.un .not (t 23)),o 25 (.pick (t 20) (t 24) (.const (.bool false))),mV 2 25]
def r_95_3 : SS := [fA 26 0 1,lA 27 2 26,fA 28 2 1,lA 29 2 28,o 30 (.call f_129 [(t 27), (t 29)] true),o 3 (.alloc T_api_Int [(.bool false), (.slice none 0 0)]),
  ⟨none, none, .store 2 (t 3) (t 30)⟩]
def r_95_4 : SS := [fA 31 0 1,lA 32 2 31,o 33 (.call f_130 [(t 32)] true),mV 34 33,og 35 34 true (.fa 2 (t 1)),og 36 34 true (.load true 2 (t 35)),og 37 34 true (.call f_130 [(t 36)] true),o 38 (.pick (t 34) (t 37) (.const (.bool false))),mV 39 38,og 40 39 true (.fa 2 (t 1)),og 41 39 true (.fa 0 (t 40)),og 42 39 true (.load false 1 (t 41)),og 43 39 true (.un .not (t 42)),o 44 (.pick (t 39) (t 43) (.const (.bool false))),mV 45 44,og 46 45 true (.fa 1 (t 3)),og 47 45 true (.load false 1 (t 46)),og 48 45 true (.len (t 47)),og 49 45 true (.bin 0 .eql (t 48) (i 1)),o 50 (.pick (t 45) (t 49) (.const (.bool false))),mV 51 50,og 52 51 true (.fa 1 (t 3)),og 53 51 true (.load false 1 (t 52)),og 54 51 true (.ia 1 (t 53) (i 0)),og 55 51 true (.load false 1 (t 54)),og 56 51 true (.bin 0 .eql (t 55) (.const (.int .u32 1))),o 57 (.pick (t 51) (t 56) (.const (.bool false))),mV 2 57]
def s_95 : SF := ⟨1, 58, [.tmp 2],
  (qS (gR r_95_0) (qS (qS (gR r_95_1) (.cond (t 14) (qS (gR r_95_2) .ret) .skip)) (qS (gR r_95_3) (qS (gR r_95_4) .ret))))⟩

def r_96_0 : SS := [o 1 (.box T_api_Rat (t 0)),o 2 (.mv (.const (.bool false)))]
def r_96_1 : SS := [fA 3 0 1,fA 4 1 3,lD 5 4,lN 6 5,o 7 (.bin 0 .eql (t 6) (i 0)),mV 8 7,og 9 8 true (.fa 0 (t 1)),og 10 8 true (.fa 0 (t 9)),og 11 8 true (.load false 1 (t 10)),og 12 8 true (.un .not (t 11)),o 13 (.pick (t 8) (t 12) (.const (.bool false))),mV 14 13,og 15 14 true (.fa 2 (t 1)),og 16 14 true (.fa 1 (t 15)),og 17 14 true (.load false 1 (t 16)),og 18 14 true (.len (t 17)),og 19 14 true (.bin 0 .eql (t 18) (i 0)),o 20 (.pick (t 14) (t 19) (.const (.bool false))),mV 21 20,og 22 21 true (.fa 2 (t 1)),og 23 21 true (.fa 0 (t 22)),og 24 21 true (.load false 1 (t 23)),og 25 21 true (.un .not (t 24)),o 26 (.pick (t 21) (t 25) (.const (.bool false))),mV 2 26]
def s_96 : SF := ⟨1, 27, [.tmp 2],
  (qS (gR r_96_0) (qS (gR r_96_1) .ret))⟩

def r_97_0 : SS := [o 1 (.box T_api_Rat (t 0)),o 2 (.mv (.const (.bool false)))]
def r_97_1 : SS := [lA 3 4 1,o 4 (.call f_116 [(t 3)] true)]
def r_97_2 : SS := [o 2 (.mv (.const (.bool true)))]
def r_97_3 : SS := [fA 5 0 1,lA 6 2 5,o 7 (.call f_131 [(t 6)] true),mV 8 7,og 9 8 true (.fa 2 (t 1)),og 10 8 true (.load true 2 (t 9)),og 11 8 true (.call f_131 [(t 10)] true),o 12 (.pick (t 8) (t 11) (.const (.bool false))),mV 13 12,og 14 13 true (.fa 2 (t 1)),og 15 13 true (.fa 0 (t 14)),og 16 13 true (.load false 1 (t 15)),og 17 13 true (.un .not (t 16)),o 18 (.pick (t 13) (t 17) (.const (.bool false))),mV 19 18,og 20 19 true (.fa 2 (t 1)),og 21 19 true (.load true 2 (t 20)),og 22 19 true (.call f_132 [(t 21)] true),og 23 19 true (.un .not (t 22)),o 24 (.pick (t 19) (t 23) (.const (.bool false))),mV 25 24,og 26 25 true (.fa 0 (t 1)),og 27 25 true (.load true 2 (t 26)),og 28 25 true (.fa 2 (t 1)),og 29 25 true (.load true 2 (t 28)),og 30 25 true (.call f_133 [(t 27), (t 29)] true),og 31 25 true (.call f_117 [] true),og 32 25 true (.call f_127 [(t 30), (t 31)] true),og 33 25 true (.bin 0 .eql (t 32) (i 0)),o 34 (.pick (t 25) (t 33) (.const (.bool false))),mV 2 34]
def s_97 : SF := ⟨1, 35, [.tmp 2],
  (qS (gR r_97_0) (qS (qS (gR r_97_1) (.cond (t 4) (qS (gR r_97_2) .ret) .skip)) (qS (gR r_97_3) .ret)))⟩

def r_98_0 : SS := [o 4 (.mv (i 0))]
def r_98_1 : SS := [mV 6 0,lN 7 6,o 8 (.mv (i 0))]
def r_98_2 : SS := [o 9 (.bin 0 .lss (t 8) (t 7))]
def r_98_3 : SS := [mV 10 8,mV 5 10]
def r_98_4 : SS := [mV 11 1,mV 12 0,mV 13 5,iA 14 5 12 13,lA 15 5 14,o 16 (.callv (t 11) [(t 15)] true)]
def r_98_5 : SS := [mV 17 5,mV 4 17]
def r_98_6 : SS := [o 18 (.bin 0 .add (t 8) (i 1)),mV 8 18]
def r_98_7 : SS := [o 4 (.mv (.const (.int .i64 (-1))))]
def s_98 : SF := ⟨2, 19, [.tmp 4],
  (qS (gR r_98_0) (qS (qS (gR r_98_1) (.block 0 (.loop (qS (gR r_98_2) (qS (.cond (t 9) .skip (.exit 0)) (qS (.block 1 (qS (gR r_98_3) (qS (gR r_98_4) (.cond (t 16) (qS (gR r_98_5) .ret) .skip)))) (gR r_98_6))))))) (qS (gR r_98_7) .ret)))⟩

def r_99_0 : SS := [o 1 (.box T_api_Rat (t 0)),o 2 (.mv (.const (.bool false)))]
def r_99_1 : SS := [fA 3 0 1,fA 4 0 3,lD 5 4,o 6 (.un .not (t 5)),mV 7 6,og 8 7 true (.fa 0 (t 1)),og 9 7 true (.fa 1 (t 8)),og 10 7 true (.load false 1 (t 9)),og 11 7 true (.len (t 10)),og 12 7 true (.bin 0 .eql (t 11) (i 0)),o 13 (.pick (t 7) (t 12) (.const (.bool false))),mV 14 13,og 15 14 true (.fa 2 (t 1)),og 16 14 true (.fa 0 (t 15)),og 17 14 true (.load false 1 (t 16)),og 18 14 true (.un .not (t 17)),o 19 (.pick (t 14) (t 18) (.const (.bool false))),mV 20 19,og 21 20 true (.fa 2 (t 1)),og 22 20 true (.fa 1 (t 21)),og 23 20 true (.load false 1 (t 22)),og 24 20 true (.len (t 23)),og 25 20 true (.bin 0 .eql (t 24) (i 0)),o 26 (.pick (t 20) (t 25) (.const (.bool false))),mV 2 26]
def s_99 : SF := ⟨1, 27, [.tmp 2],
  (qS (gR r_99_0) (qS (gR r_99_1) .ret))⟩

def r_104_0 : SS := [o 2 (.box T_api_Int (t 0)),o 3 (.box T_api_Int (t 1)),o 4 (.alloc T_api_Int [(.bool false), (.slice none 0 0)])]
def r_104_1 : SS := [lA 5 2 2,lA 6 2 3,o 7 (.call f_134 [(t 6)] false),o 8 (.call f_115 [(t 5), (t 7)] true),
  ⟨none, none, .store 2 (t 4) (t 8)⟩]
def s_104 : SF := ⟨2, 9, [.cell 4 true 2],
  (qS (gR r_104_0) (qS (.draw r_104_1 [0, 0, 2, 7, 15] []) .ret))⟩

def r_105_0 : SS := [o 1 (.box T_api_Int (t 0)),o 2 (.alloc T_api_Int [(.bool false), (.slice none 0 0)])]
def r_105_1 : SS := [lA 3 2 1,o 4 (.call f_130 [(t 3)] true),o 5 (.un .not (t 4))]
def r_105_2 : SS := [o 6 (.build [(.bool false), (.slice none 0 0)] []),
  ⟨none, none, .store 2 (t 2) (t 6)⟩]
def r_105_3 : SS := [lA 7 2 1,
  ⟨none, none, .store 2 (t 2) (t 7)⟩]
def s_105 : SF := ⟨1, 8, [.cell 2 true 2],
  (qS (gR r_105_0) (qS (qS (gR r_105_1) (.cond (t 5) (qS (gR r_105_2) .ret) .skip)) (qS (gR r_105_3) .ret)))⟩

def r_106_0 : SS := [o 4 (.mv (.const (.slice none 0 0)))]
def r_106_1 : SS := [mV 10 0,lN 11 10,mV 12 1,lN 13 12,o 14 (.bin 0 .add (t 11) (t 13)),o 15 (.mk T_uint32 4 [(.int .u32 0)] (t 14) (t 14)),mV 5 15]
def r_106_2 : SS := [o 6 (.mv (i 0))]
def r_106_3 : SS := [mV 16 6,mV 17 0,lN 18 17,o 19 (.bin 0 .lss (t 16) (t 18))]
def r_106_4 : SS := [o 7 (.mv (.const (.int .u64 0)))]
def r_106_5 : SS := [o 8 (.mv (i 0))]
def r_106_6 : SS := [mV 22 8,mV 23 1,lN 24 23,o 25 (.bin 0 .lss (t 22) (t 24))]
def r_106_7 : SS := [mV 28 0,mV 29 6,iA 30 1 28 29,lD 31 30,o 32 (.conv .u64 (t 31)),mV 33 1,mV 34 8,iA 35 1 33 34,lD 36 35,o 37 (.conv .u64 (t 36)),o 38 (.bin 0 .mul (t 32) (t 37)),mV 39 5,mV 40 6,mV 41 8,o 42 (.bin 0 .add (t 40) (t 41)),iA 43 1 39 42,lD 44 43,o 45 (.conv .u64 (t 44)),o 46 (.bin 0 .add (t 38) (t 45)),mV 47 7,o 48 (.bin 0 .add (t 46) (t 47)),mV 9 48]
def r_106_8 : SS := [mV 49 5,mV 50 6,mV 51 8,o 52 (.bin 0 .add (t 50) (t 51)),mV 53 9,o 54 (.conv .u32 (t 53)),iA 55 1 49 52,
  ⟨none, none, .store 1 (t 55) (t 54)⟩]
def r_106_9 : SS := [mV 56 9,o 57 (.bin 0 .shr (t 56) (.const (.int .u64 32))),mV 7 57]
def r_106_10 : SS := [mV 26 8,o 27 (.bin 0 .add (t 26) (i 1)),mV 8 27]
def r_106_11 : SS := [mV 58 5,mV 59 6,mV 60 1,lN 61 60,o 62 (.bin 0 .add (t 59) (t 61)),mV 63 7,o 64 (.conv .u32 (t 63)),iA 65 1 58 62,
  ⟨none, none, .store 1 (t 65) (t 64)⟩]
def r_106_12 : SS := [mV 20 6,o 21 (.bin 0 .add (t 20) (i 1)),mV 6 21]
def r_106_13 : SS := [mV 66 5,o 67 (.call f_107 [(t 66)] true),mV 4 67]
def s_106 : SF := ⟨2, 68, [.tmp 4],
  (qS (gR r_106_0) (qS (gR r_106_1) (qS (qS (gR r_106_2) (.block 0 (.loop (qS (qS (gR r_106_3) (.cond (t 19) .skip (.exit 0))) (qS (.block 1 (qS (gR r_106_4) (qS (qS (gR r_106_5) (.block 2 (.loop (qS (qS (gR r_106_6) (.cond (t 25) .skip (.exit 2))) (qS (.block 3 (qS (.draw r_106_7 [0, 0, 3, 7, 15, 0, 0, 96, 224, 480, 1023, 0, 0, 0, 12288, 30720, 63488, 129024, 262143, 0, 1048575, 2097151] []) (qS (gR r_106_8) (gR r_106_9)))) (gR r_106_10)))))) (gR r_106_11)))) (gR r_106_12)))))) (qS (gR r_106_13) .ret))))⟩

def r_107_0 : SS := [o 2 (.mv (.const (.slice none 0 0)))]
def r_107_1 : SS := [mV 4 0,lN 5 4,mV 3 5]
def r_107_2 : SS := [mV 6 3,o 7 (.bin 0 .gtr (t 6) (i 0)),mV 8 7,og 9 8 true (.mv (t 0)),og 10 8 true (.mv (t 3)),og 11 8 true (.bin 0 .sub (t 10) (i 1)),og 12 8 true (.ia 1 (t 9) (t 11)),og 13 8 true (.load false 1 (t 12)),og 14 8 true (.bin 0 .eql (t 13) (.const (.int .u32 0))),o 15 (.pick (t 8) (t 14) (.const (.bool false)))]
def r_107_3 : SS := [mV 16 3,o 17 (.bin 0 .sub (t 16) (i 1)),mV 3 17]
def r_107_4 : SS := [mV 18 0,mV 19 3,o 20 (.sl T_uint32 1 (t 18) none (some (t 19)) none),mV 2 20]
def s_107 : SF := ⟨1, 21, [.tmp 2],
  (qS (gR r_107_0) (qS (gR r_107_1) (qS (.block 0 (.loop (qS (qS (gR r_107_2) (.cond (t 15) .skip (.exit 0))) (.block 1 (gR r_107_3))))) (qS (gR r_107_4) .ret))))⟩

def r_108_0 : SS := [o 4 (.mv (.const (.bool false)))]
def r_108_1 : SS := [mV 5 0,mV 6 1,o 7 (.call f_135 [(t 5), (t 6)] true),o 8 (.bin 0 .geq (t 7) (i 0)),mV 4 8]
def s_108 : SF := ⟨2, 9, [.tmp 4],
  (qS (gR r_108_0) (qS (gR r_108_1) .ret))⟩

def r_109_0 : SS := [o 3 (.mv (.const (.bool false)))]
def r_109_1 : SS := [mV 4 0,lN 5 4,fA 6 0 1,lD 7 6,o 8 (.bin 0 .neq (t 5) (t 7)),mV 3 8]
def s_109 : SF := ⟨2, 9, [.tmp 3],
  (qS (gR r_109_0) (qS (gR r_109_1) .ret))⟩

def r_110_0 : SS := [o 1 (.box T_api_LP (t 0)),o 2 (.alloc T_simplex_scaled [(.int .i64 0), (.slice none 0 0), (.slice none 0 0), (.slice none 0 0), (.bool false), (.slice none 0 0), (.bool false), (.slice none 0 0)])]
def r_110_1 : SS := [fA 8 0 1,lD 9 8,o 10 (.build [(.int .i64 0), (.slice none 0 0), (.slice none 0 0), (.slice none 0 0), (.bool false), (.slice none 0 0), (.bool false), (.slice none 0 0)] [(0, 1, (t 9))]),o 3 (.alloc T_simplex_scaled [(.int .i64 0), (.slice none 0 0), (.slice none 0 0), (.slice none 0 0), (.bool false), (.slice none 0 0), (.bool false), (.slice none 0 0)]),
  ⟨none, none, .store 8 (t 3) (t 10)⟩]
def r_110_2 : SS := [fA 11 1 1,lD 12 11,lN 13 12,o 14 (.mv (i 0))]
def r_110_3 : SS := [o 15 (.bin 0 .lss (t 14) (t 13))]
def r_110_4 : SS := [mV 16 14,iA 17 1 12 14,lD 18 17,mV 4 16,mV 5 18]
def r_110_5 : SS := [mV 20 5,o 21 (.call f_137 [(t 20)] false),fA 22 2 1,lD 23 22,mV 24 4,iA 25 4 23 24,lA 26 4 25,o 27 (.build [(.bool false), (.slice none 0 0), (.bool false), (.slice none 0 0)] []),o 28 (.call f_51 [(t 26), (t 27)] false),o 29 (.lit T_api_Rat [(.bool false), (.slice none 0 0), (.bool false), (.slice none 0 0)] 1 [(0, 4, (t 28))]),o 30 (.app T_api_Rat 4 64 (t 21) (t 29)),o 31 (.call f_136 [(t 30)] false),mV 19 31,o 32 (.ext (t 19) 0),o 33 (.ext (t 19) 1),o 7 (.alloc T_api_Rat [(.bool false), (.slice none 0 0), (.bool false), (.slice none 0 0)]),mV 6 32,
  ⟨none, none, .store 4 (t 7) (t 33)⟩]
def r_110_6 : SS := [fA 34 1 3,lD 35 34,mV 36 6,o 37 (.lit T_sl_api_Int [(.slice none 0 0)] 1 [(0, 1, (t 36))]),o 38 (.app T_sl_api_Int 1 24 (t 35) (t 37)),fA 39 2 3,lD 40 39,lA 41 4 7,o 42 (.lit T_api_Rat [(.bool false), (.slice none 0 0), (.bool false), (.slice none 0 0)] 1 [(0, 4, (t 41))]),o 43 (.app T_api_Rat 4 64 (t 40) (t 42)),fA 44 1 3,
  ⟨none, none, .store 1 (t 44) (t 38)⟩,fA 45 2 3,
  ⟨none, none, .store 1 (t 45) (t 43)⟩]
def r_110_7 : SS := [o 46 (.bin 0 .add (t 14) (i 1)),mV 14 46]
def r_110_8 : SS := [fA 48 3 1,lD 49 48,o 50 (.call f_137 [(t 49)] true),o 51 (.call f_136 [(t 50)] true),mV 47 51,o 52 (.ext (t 47) 0),o 53 (.ext (t 47) 1),fA 54 3 3,
  ⟨none, none, .store 1 (t 54) (t 52)⟩,fA 55 4 3,
  ⟨none, none, .store 4 (t 55) (t 53)⟩]
def r_110_9 : SS := [lA 56 8 3,
  ⟨none, none, .store 8 (t 2) (t 56)⟩]
def s_110 : SF := ⟨1, 57, [.cell 2 true 8],
  (qS (gR r_110_0) (qS (gR r_110_1) (qS (qS (gR r_110_2) (.block 0 (.loop (qS (gR r_110_3) (qS (.cond (t 15) .skip (.exit 0)) (qS (.block 1 (qS (gR r_110_4) (qS (.draw r_110_5 [0, 1, 0, 4, 0, 28, 60, 0, 255, 511, 1023, 2047, 4095, 8191, 8191, 0, 49151, 131071] [(10, 15)]) (.draw r_110_6 [0, 1, 0, 4, 15, 0, 32, 0, 128, 511, 127, 2047, 4095, 8191] [(4, 6), (4, 7), (4, 8)])))) (gR r_110_7))))))) (qS (gR r_110_8) (qS (gR r_110_9) .ret)))))⟩

def r_112_0 : SS := [o 3 (.box T_simplex_all (t 0)),o 4 (.box T_api_LP (t 1)),o 5 (.box T_simplex_scaled (t 2)),o 6 (.alloc T_api_Answer [(.int .i64 0), (.bool false), (.slice none 0 0), (.bool false), (.slice none 0 0), (.slice none 0 0), (.slice none 0 0), (.slice none 0 0)]),o 7 (.mv (i 0))]
def r_112_1 : SS := [lA 16 0 3,lA 17 8 5,o 18 (.call f_140 [(t 16), (t 17)] true),o 8 (.alloc T_simplex_tableau_api_Int_simplex_all [(.pointer none)]),
  ⟨none, none, .store 1 (t 8) (t 18)⟩]
def r_112_2 : SS := [lD 19 8,cK 20 19,fA 21 1 20,lD 22 21,lD 23 8,cK 24 23,fA 25 1 24,lD 26 25,o 27 (.bin 0 .add (t 26) (i 1)),mV 9 22,mV 10 27]
def r_112_3 : SS := [lD 28 8,mV 29 9,o 30 (.call f_141 [(t 28), (t 29)] true)]
def r_112_4 : SS := [lD 31 8,cK 32 31,o 33 (.fa0 T_simplex_tableau_api_Int_simplex_all_150 (t 32)),lA 34 0 33,o 35 (.iface T_simplex_all (t 34)),lD 36 8,cK 37 36,fA 38 3 37,lD 39 38,mV 40 9,iA 41 1 39 40,lD 42 41,lD 43 8,cK 44 43,fA 45 2 44,lD 46 45,iA 47 2 42 46,lA 48 2 47,o 49 (.inv (t 35) [(T_simplex_all, f_205), (T_simplex_few, f_212)] [(t 48)] true),o 50 (.bin 0 .lss (t 49) (i 0))]
def r_112_5 : SS := [o 51 (.call f_90 [(i 0)] false),lD 52 8,mV 53 9,lA 54 8 5,o 55 (.call f_90 [(i 1)] false),o 56 (.call f_142 [(t 52), (t 53), (t 54), (t 55)] false),o 57 (.build [(.int .i64 0), (.bool false), (.slice none 0 0), (.bool false), (.slice none 0 0), (.slice none 0 0), (.slice none 0 0), (.slice none 0 0)] [(0, 1, (i 2)), (1, 4, (t 51)), (6, 1, (t 56))]),lD 58 8,cK 59 58,fA 60 7 59,lD 61 60,
  ⟨none, none, .store 8 (t 6) (t 57)⟩,mV 7 61]
def r_112_6 : SS := [lD 62 8,o 63 (.call f_143 [(t 62)] true)]
def r_112_7 : SS := [lD 64 8,mV 65 10,o 66 (.call f_141 [(t 64), (t 65)] true),mV 11 66]
def r_112_8 : SS := [lD 67 8,o 68 (.mkfn (.func f_145) [] [(t 8)]),o 69 (.call f_144 [(t 67), (t 68)] true),mV 12 69]
def r_112_9 : SS := [mV 70 11,o 71 (.bin 0 .geq (t 70) (i 0))]
def r_112_10 : SS := [o 72 (.call f_90 [(i 0)] false),mV 73 12,lD 74 8,mV 75 11,o 76 (.call f_146 [(t 74), (t 75)] false),o 77 (.build [(.int .i64 0), (.bool false), (.slice none 0 0), (.bool false), (.slice none 0 0), (.slice none 0 0), (.slice none 0 0), (.slice none 0 0)] [(0, 1, (i 3)), (1, 4, (t 72)), (5, 1, (t 73)), (7, 1, (t 76))]),lD 78 8,cK 79 78,fA 80 7 79,lD 81 80,
  ⟨none, none, .store 8 (t 6) (t 77)⟩,mV 7 81]
def r_112_11 : SS := [o 82 (.call f_90 [(i 0)] true),o 13 (.alloc T_api_Rat [(.bool false), (.slice none 0 0), (.bool false), (.slice none 0 0)]),
  ⟨none, none, .store 4 (t 13) (t 82)⟩]
def r_112_12 : SS := [fA 83 3 4,lD 84 83,lN 85 84,o 86 (.mv (i 0))]
def r_112_13 : SS := [o 87 (.bin 0 .lss (t 86) (t 85))]
def r_112_14 : SS := [mV 88 86,iA 89 4 84 86,lA 90 4 89,o 15 (.alloc T_api_Rat [(.bool false), (.slice none 0 0), (.bool false), (.slice none 0 0)]),mV 14 88,
  ⟨none, none, .store 4 (t 15) (t 90)⟩]
def r_112_15 : SS := [lA 91 4 13,lA 92 4 15,mV 93 12,mV 94 14,iA 95 4 93 94,lA 96 4 95,o 97 (.call f_91 [(t 92), (t 96)] false),o 98 (.call f_51 [(t 91), (t 97)] true),
  ⟨none, none, .store 4 (t 13) (t 98)⟩]
def r_112_16 : SS := [o 99 (.bin 0 .add (t 86) (i 1)),mV 86 99]
def r_112_17 : SS := [lA 100 4 13,mV 101 12,lD 102 8,mV 103 10,lA 104 8 5,fA 105 4 5,lA 106 4 105,o 107 (.call f_142 [(t 102), (t 103), (t 104), (t 106)] false),o 108 (.build [(.int .i64 0), (.bool false), (.slice none 0 0), (.bool false), (.slice none 0 0), (.slice none 0 0), (.slice none 0 0), (.slice none 0 0)] [(0, 1, (i 1)), (1, 4, (t 100)), (5, 1, (t 101)), (6, 1, (t 107))]),lD 109 8,cK 110 109,fA 111 7 110,lD 112 111,
  ⟨none, none, .store 8 (t 6) (t 108)⟩,mV 7 112]
def s_112 : SF := ⟨3, 113, [.cell 6 true 8, .tmp 7],
  (qS (gR r_112_0) (qS (gR r_112_1) (qS (.draw r_112_2 [0, 1, 3, 7, 0, 16, 48, 112, 240, 15, 1023] []) (qS (gR r_112_3) (qS (qS (.draw r_112_4 [0, 1, 3, 7, 15, 0, 32, 96, 224, 0, 992, 2016, 0, 4096, 12288, 28672, 65504, 131040, 262143, 524287] []) (.cond (t 50) (qS (.draw r_112_5 [0, 0, 0, 0, 1, 31, 63, 0, 128, 384, 896, 127, 4095] [(7, 11), (10, 11)]) .ret) .skip)) (qS (gR r_112_6) (qS (gR r_112_7) (qS (gR r_112_8) (qS (qS (gR r_112_9) (.cond (t 71) (qS (.draw r_112_10 [0, 0, 0, 0, 13, 31, 0, 64, 192, 448, 63, 2047] [(6, 10), (9, 10)]) .ret) .skip)) (qS (gR r_112_11) (qS (qS (gR r_112_12) (.block 0 (.loop (qS (gR r_112_13) (qS (.cond (t 87) .skip (.exit 0)) (qS (.block 1 (qS (gR r_112_14) (.draw r_112_15 [0, 0, 0, 0, 12, 28, 62, 127, 255] []))) (gR r_112_16))))))) (qS (.draw r_112_17 [0, 0, 0, 0, 0, 0, 32, 124, 255, 0, 512, 1536, 3584, 511, 16383] [(9, 13), (12, 13)]) .ret))))))))))))⟩

def r_114_0 : SS := [o 2 (.box T_api_Int (t 0)),o 3 (.box T_api_Int (t 1)),o 4 (.alloc T_api_Rat [(.bool false), (.slice none 0 0), (.bool false), (.slice none 0 0)]),o 5 (.mv (i 0))]
def r_114_1 : SS := [lA 13 2 2,o 14 (.call f_105 [(t 13)] true),
  ⟨none, none, .store 2 (t 2) (t 14)⟩]
def r_114_2 : SS := [lA 15 2 3,o 16 (.call f_105 [(t 15)] true),
  ⟨none, none, .store 2 (t 3) (t 16)⟩]
def r_114_3 : SS := [fA 17 1 3,lD 18 17,lN 19 18,o 20 (.bin 0 .eql (t 19) (i 0))]
def r_114_4 : SS := [o 21 (.build [(.bool false), (.slice none 0 0), (.bool false), (.slice none 0 0)] []),
  ⟨none, none, .store 4 (t 4) (t 21)⟩,o 5 (.mv (i 11))]
def r_114_5 : SS := [lA 22 2 2,lA 23 2 3,o 24 (.call f_129 [(t 22), (t 23)] true),o 6 (.alloc T_api_Int [(.bool false), (.slice none 0 0)]),
  ⟨none, none, .store 2 (t 6) (t 24)⟩]
def r_114_6 : SS := [lA 26 2 2,lA 27 2 6,o 28 (.call f_147 [(t 26), (t 27)] true),mV 25 28,o 29 (.ext (t 25) 0),o 30 (.ext (t 25) 1),o 31 (.ext (t 25) 2),o 7 (.alloc T_api_Int [(.bool false), (.slice none 0 0)]),o 8 (.alloc T_api_Int [(.bool false), (.slice none 0 0)]),
  ⟨none, none, .store 2 (t 7) (t 29)⟩,
  ⟨none, none, .store 2 (t 8) (t 30)⟩,mV 9 31]
def r_114_7 : SS := [lA 33 2 3,lA 34 2 6,o 35 (.call f_147 [(t 33), (t 34)] true),mV 32 35,o 36 (.ext (t 32) 0),o 37 (.ext (t 32) 1),o 38 (.ext (t 32) 2),o 10 (.alloc T_api_Int [(.bool false), (.slice none 0 0)]),o 11 (.alloc T_api_Int [(.bool false), (.slice none 0 0)]),
  ⟨none, none, .store 2 (t 10) (t 36)⟩,
  ⟨none, none, .store 2 (t 11) (t 37)⟩,mV 12 38]
def r_114_8 : SS := [fA 39 0 10,lD 40 39]
def r_114_9 : SS := [lA 41 2 7,o 42 (.call f_134 [(t 41)] true),
  ⟨none, none, .store 2 (t 7) (t 42)⟩]
def r_114_10 : SS := [lA 43 2 10,o 44 (.call f_134 [(t 43)] true),
  ⟨none, none, .store 2 (t 10) (t 44)⟩]
def r_114_11 : SS := [lA 45 2 7,lA 46 2 10,o 47 (.build [(.bool false), (.slice none 0 0), (.bool false), (.slice none 0 0)] [(0, 2, (t 45)), (2, 2, (t 46))]),
  ⟨none, none, .store 4 (t 4) (t 47)⟩,o 5 (.mv (i 0))]
def s_114 : SF := ⟨2, 48, [.cell 4 true 4, .tmp 5],
  (qS (gR r_114_0) (qS (gR r_114_1) (qS (gR r_114_2) (qS (qS (gR r_114_3) (.cond (t 20) (qS (gR r_114_4) .ret) .skip)) (qS (gR r_114_5) (qS (gR r_114_6) (qS (gR r_114_7) (qS (qS (gR r_114_8) (.cond (t 40) (qS (gR r_114_9) (gR r_114_10)) .skip)) (qS (gR r_114_11) .ret)))))))))⟩

def r_115_0 : SS := [o 2 (.box T_api_Int (t 0)),o 3 (.box T_api_Int (t 1)),o 4 (.alloc T_api_Int [(.bool false), (.slice none 0 0)])]
def r_115_1 : SS := [lA 5 2 2,o 6 (.call f_105 [(t 5)] true),
  ⟨none, none, .store 2 (t 2) (t 6)⟩]
def r_115_2 : SS := [lA 7 2 3,o 8 (.call f_105 [(t 7)] true),
  ⟨none, none, .store 2 (t 3) (t 8)⟩]
def r_115_3 : SS := [fA 9 0 2,lD 10 9,fA 11 0 3,lD 12 11,o 13 (.bin 1 .eql (t 10) (t 12))]
def r_115_4 : SS := [fA 14 0 2,lD 15 14,fA 16 1 2,lD 17 16,fA 18 1 3,lD 19 18,o 20 (.call f_148 [(t 17), (t 19)] false),o 21 (.call f_76 [(t 15), (t 20)] true),
  ⟨none, none, .store 2 (t 4) (t 21)⟩]
def r_115_5 : SS := [fA 22 1 2,lD 23 22,fA 24 1 3,lD 25 24,o 26 (.call f_149 [(t 23), (t 25)] true),o 27 (.bin 0 .geq (t 26) (i 0))]
def r_115_6 : SS := [fA 28 0 2,lD 29 28,fA 30 1 2,lD 31 30,fA 32 1 3,lD 33 32,o 34 (.call f_150 [(t 31), (t 33)] false),o 35 (.call f_76 [(t 29), (t 34)] true),
  ⟨none, none, .store 2 (t 4) (t 35)⟩]
def r_115_7 : SS := [fA 36 0 3,lD 37 36,fA 38 1 3,lD 39 38,fA 40 1 2,lD 41 40,o 42 (.call f_150 [(t 39), (t 41)] false),o 43 (.call f_76 [(t 37), (t 42)] true),
  ⟨none, none, .store 2 (t 4) (t 43)⟩]
def s_115 : SF := ⟨2, 44, [.cell 4 true 2],
  (qS (gR r_115_0) (qS (gR r_115_1) (qS (gR r_115_2) (qS (qS (gR r_115_3) (.cond (t 13) (qS (.draw r_115_4 [0, 1, 0, 4, 0, 16, 60, 127, 255] []) .ret) .skip)) (qS (qS (gR r_115_5) (.cond (t 27) (qS (.draw r_115_6 [0, 1, 0, 4, 0, 16, 60, 127, 255] []) .ret) .skip)) (qS (.draw r_115_7 [0, 1, 0, 4, 0, 16, 60, 127, 255] []) .ret))))))⟩

def r_116_0 : SS := [o 1 (.box T_api_Rat (t 0)),o 2 (.mv (.const (.bool false)))]
def r_116_1 : SS := [fA 3 0 1,fA 4 0 3,lD 5 4,o 6 (.un .not (t 5)),mV 7 6,og 8 7 true (.fa 0 (t 1)),og 9 7 true (.fa 1 (t 8)),og 10 7 true (.load false 1 (t 9)),og 11 7 true (.len (t 10)),og 12 7 true (.bin 0 .eql (t 11) (i 0)),o 13 (.pick (t 7) (t 12) (.const (.bool false))),mV 14 13,og 15 14 true (.fa 2 (t 1)),og 16 14 true (.fa 0 (t 15)),og 17 14 true (.load false 1 (t 16)),og 18 14 true (.un .not (t 17)),o 19 (.pick (t 14) (t 18) (.const (.bool false))),mV 20 19,og 21 20 true (.fa 2 (t 1)),og 22 20 true (.fa 1 (t 21)),og 23 20 true (.load false 1 (t 22)),og 24 20 true (.len (t 23)),og 25 20 true (.bin 0 .eql (t 24) (i 0)),o 26 (.pick (t 20) (t 25) (.const (.bool false))),mV 2 26]
def s_116 : SF := ⟨1, 27, [.tmp 2],
  (qS (gR r_116_0) (qS (gR r_116_1) .ret))⟩

def r_117_0 : SS := [o 0 (.alloc T_api_Int [(.bool false), (.slice none 0 0)])]
def r_117_1 : SS := [o 1 (.call f_126 [(i 1)] true),
  ⟨none, none, .store 2 (t 0) (t 1)⟩]
def s_117 : SF := ⟨0, 2, [.cell 0 true 2],
  (qS (gR r_117_0) (qS (gR r_117_1) .ret))⟩

def r_118_0 : SS := [o 2 (.box T_api_Int (t 0)),o 3 (.box T_api_Int (t 1)),o 4 (.alloc T_api_Rat [(.bool false), (.slice none 0 0), (.bool false), (.slice none 0 0)]),o 5 (.mv (i 0))]
def r_118_1 : SS := [lA 7 2 3,o 8 (.call f_132 [(t 7)] true)]
def r_118_2 : SS := [o 9 (.build [(.bool false), (.slice none 0 0), (.bool false), (.slice none 0 0)] []),
  ⟨none, none, .store 4 (t 4) (t 9)⟩,o 5 (.mv (i 11))]
def r_118_3 : SS := [lA 10 2 2,lA 11 2 3,o 12 (.call f_133 [(t 10), (t 11)] true),o 6 (.alloc T_api_Int [(.bool false), (.slice none 0 0)]),
  ⟨none, none, .store 2 (t 6) (t 12)⟩]
def r_118_4 : SS := [lA 13 2 3,o 14 (.build [(.bool false), (.slice none 0 0)] []),o 15 (.call f_127 [(t 13), (t 14)] true),o 16 (.bin 0 .lss (t 15) (i 0))]
def r_118_5 : SS := [lA 17 2 6,o 18 (.call f_151 [(t 17)] true),
  ⟨none, none, .store 2 (t 6) (t 18)⟩]
def r_118_6 : SS := [lA 20 2 2,lA 21 2 6,o 22 (.call f_152 [(t 20), (t 21)] true),mV 19 22,o 23 (.ext (t 19) 0),o 24 (.ext (t 19) 1),o 25 (.ext (t 19) 2),
  ⟨none, none, .store 2 (t 2) (t 23)⟩]
def r_118_7 : SS := [lA 27 2 3,lA 28 2 6,o 29 (.call f_152 [(t 27), (t 28)] true),mV 26 29,o 30 (.ext (t 26) 0),o 31 (.ext (t 26) 1),o 32 (.ext (t 26) 2),
  ⟨none, none, .store 2 (t 3) (t 30)⟩]
def r_118_8 : SS := [lA 33 2 2,lA 34 2 3,o 35 (.build [(.bool false), (.slice none 0 0), (.bool false), (.slice none 0 0)] [(0, 2, (t 33)), (2, 2, (t 34))]),
  ⟨none, none, .store 4 (t 4) (t 35)⟩,o 5 (.mv (i 0))]
def s_118 : SF := ⟨2, 36, [.cell 4 true 4, .tmp 5],
  (qS (gR r_118_0) (qS (qS (gR r_118_1) (.cond (t 8) (qS (gR r_118_2) .ret) .skip)) (qS (gR r_118_3) (qS (qS (gR r_118_4) (.cond (t 16) (gR r_118_5) .skip)) (qS (gR r_118_6) (qS (gR r_118_7) (qS (gR r_118_8) .ret)))))))⟩

def r_119_0 : SS := [o 1 (.box T_api_Int (t 0)),o 2 (.mv (.const (.slice none 0 0)))]
def r_119_1 : SS := [lA 3 2 1,o 4 (.call f_131 [(t 3)] true),o 5 (.un .not (t 4))]
def r_119_2 : SS := [o 2 (.mv (.const (.slice none 0 0)))]
def r_119_3 : SS := [fA 6 1 1,lD 7 6,mV 2 7]
def s_119 : SF := ⟨1, 8, [.tmp 2],
  (qS (gR r_119_0) (qS (qS (gR r_119_1) (.cond (t 5) (qS (gR r_119_2) .ret) .skip)) (qS (gR r_119_3) .ret)))⟩

def r_120_0 : SS := [o 1 (.box T_api_Int (t 0)),o 2 (.mv (.const (.bool false)))]
def r_120_1 : SS := [lA 3 2 1,o 4 (.call f_131 [(t 3)] true),mV 5 4,og 6 5 true (.fa 0 (t 1)),og 7 5 true (.load false 1 (t 6)),o 8 (.pick (t 5) (t 7) (.const (.bool false))),mV 2 8]
def s_120 : SF := ⟨1, 9, [.tmp 2],
  (qS (gR r_120_0) (qS (gR r_120_1) .ret))⟩

def r_121_0 : SS := [o 4 (.alloc T_api_Int [(.bool false), (.slice none 0 0)])]
def r_121_1 : SS := [mV 6 1,lN 7 6,mV 5 7]
def r_121_2 : SS := [mV 8 5,o 9 (.bin 0 .gtr (t 8) (i 0)),mV 10 9,og 11 10 true (.mv (t 1)),og 12 10 true (.mv (t 5)),og 13 10 true (.bin 0 .sub (t 12) (i 1)),og 14 10 true (.ia 1 (t 11) (t 13)),og 15 10 true (.load false 1 (t 14)),og 16 10 true (.bin 0 .eql (t 15) (.const (.int .u32 0))),o 17 (.pick (t 10) (t 16) (.const (.bool false)))]
def r_121_3 : SS := [mV 18 5,o 19 (.bin 0 .sub (t 18) (i 1)),mV 5 19]
def r_121_4 : SS := [mV 20 5,o 21 (.bin 0 .eql (t 20) (i 0))]
def r_121_5 : SS := [o 22 (.build [(.bool false), (.slice none 0 0)] []),
  ⟨none, none, .store 2 (t 4) (t 22)⟩]
def r_121_6 : SS := [mV 23 0,mV 24 1,mV 25 5,o 26 (.sl T_uint32 1 (t 24) none (some (t 25)) none),o 27 (.call f_153 [(t 26)] true),o 28 (.build [(.bool false), (.slice none 0 0)] [(0, 1, (t 23)), (1, 1, (t 27))]),
  ⟨none, none, .store 2 (t 4) (t 28)⟩]
def s_121 : SF := ⟨2, 29, [.cell 4 true 2],
  (qS (gR r_121_0) (qS (gR r_121_1) (qS (.block 0 (.loop (qS (qS (gR r_121_2) (.cond (t 17) .skip (.exit 0))) (.block 1 (gR r_121_3))))) (qS (qS (gR r_121_4) (.cond (t 21) (qS (gR r_121_5) .ret) .skip)) (qS (gR r_121_6) .ret)))))⟩

def r_122_0 : SS := [o 4 (.mv (.const (.slice none 0 0)))]
def r_122_1 : SS := [mV 9 0,lN 10 9,mV 11 1,lN 12 11,o 13 (.bin 0 .lss (t 10) (t 12))]
def r_122_2 : SS := [mV 14 1,mV 15 0,mV 0 14,mV 1 15]
def r_122_3 : SS := [mV 16 0,lN 17 16,o 18 (.bin 0 .add (t 17) (i 1)),o 19 (.mk T_uint32 4 [(.int .u32 0)] (i 0) (t 18)),mV 5 19]
def r_122_4 : SS := [o 6 (.mv (.const (.int .u64 0)))]
def r_122_5 : SS := [mV 20 0,lN 21 20,o 22 (.mv (i 0))]
def r_122_6 : SS := [o 23 (.bin 0 .lss (t 22) (t 21))]
def r_122_7 : SS := [mV 24 22,iA 25 1 20 22,lD 26 25,mV 7 24,mV 8 26]
def r_122_8 : SS := [mV 27 6,mV 28 8,o 29 (.conv .u64 (t 28)),o 30 (.bin 0 .add (t 27) (t 29)),mV 6 30]
def r_122_9 : SS := [mV 31 7,mV 32 1,lN 33 32,o 34 (.bin 0 .lss (t 31) (t 33))]
def r_122_10 : SS := [mV 35 6,mV 36 1,mV 37 7,iA 38 1 36 37,lD 39 38,o 40 (.conv .u64 (t 39)),o 41 (.bin 0 .add (t 35) (t 40)),mV 6 41]
def r_122_11 : SS := [mV 42 5,mV 43 6,o 44 (.call f_125 [(t 43)] true),o 45 (.lit T_uint32 [(.int .u32 0)] 1 [(0, 1, (t 44))]),o 46 (.app T_uint32 1 4 (t 42) (t 45)),mV 5 46]
def r_122_12 : SS := [mV 47 6,o 48 (.bin 0 .shr (t 47) (.const (.int .u64 32))),mV 6 48]
def r_122_13 : SS := [o 49 (.bin 0 .add (t 22) (i 1)),mV 22 49]
def r_122_14 : SS := [mV 50 5,mV 51 6,o 52 (.call f_125 [(t 51)] true),o 53 (.lit T_uint32 [(.int .u32 0)] 1 [(0, 1, (t 52))]),o 54 (.app T_uint32 1 4 (t 50) (t 53)),mV 4 54]
def s_122 : SF := ⟨2, 55, [.tmp 4],
  (qS (gR r_122_0) (qS (qS (gR r_122_1) (.cond (t 13) (gR r_122_2) .skip)) (qS (gR r_122_3) (qS (gR r_122_4) (qS (qS (gR r_122_5) (.block 0 (.loop (qS (gR r_122_6) (qS (.cond (t 23) .skip (.exit 0)) (qS (.block 1 (qS (gR r_122_7) (qS (gR r_122_8) (qS (qS (gR r_122_9) (.cond (t 34) (gR r_122_10) .skip)) (qS (gR r_122_11) (gR r_122_12)))))) (gR r_122_13))))))) (qS (gR r_122_14) .ret))))))⟩

def r_123_0 : SS := [o 4 (.mv (i 0))]
def r_123_1 : SS := [mV 6 0,lN 7 6,mV 8 1,lN 9 8,o 10 (.bin 0 .neq (t 7) (t 9))]
def r_123_2 : SS := [mV 11 0,lN 12 11,mV 13 1,lN 14 13,o 15 (.call f_154 [(t 12), (t 14)] true),mV 4 15]
def r_123_3 : SS := [mV 16 0,lN 17 16,o 18 (.bin 0 .sub (t 17) (i 1)),mV 5 18]
def r_123_4 : SS := [mV 19 5,o 20 (.bin 0 .geq (t 19) (i 0))]
def r_123_5 : SS := [mV 23 0,mV 24 5,iA 25 1 23 24,lD 26 25,mV 27 1,mV 28 5,iA 29 1 27 28,lD 30 29,o 31 (.bin 0 .neq (t 26) (t 30))]
def r_123_6 : SS := [mV 32 0,mV 33 5,iA 34 1 32 33,lD 35 34,mV 36 1,mV 37 5,iA 38 1 36 37,lD 39 38,o 40 (.call f_155 [(t 35), (t 39)] true),mV 4 40]
def r_123_7 : SS := [mV 21 5,o 22 (.bin 0 .sub (t 21) (i 1)),mV 5 22]
def r_123_8 : SS := [o 4 (.mv (i 0))]
def s_123 : SF := ⟨2, 41, [.tmp 4],
  (qS (gR r_123_0) (qS (qS (gR r_123_1) (.cond (t 10) (qS (gR r_123_2) .ret) .skip)) (qS (qS (gR r_123_3) (.block 0 (.loop (qS (qS (gR r_123_4) (.cond (t 20) .skip (.exit 0))) (qS (.block 1 (qS (.draw r_123_5 [0, 0, 3, 7, 0, 0, 48, 112, 255] []) (.cond (t 31) (qS (.draw r_123_6 [0, 0, 3, 7, 0, 0, 48, 112, 255, 511] []) .ret) .skip))) (gR r_123_7)))))) (qS (gR r_123_8) .ret))))⟩

def r_124_0 : SS := [o 4 (.mv (.const (.slice none 0 0)))]
def r_124_1 : SS := [mV 11 0,lN 12 11,o 13 (.mk T_uint32 4 [(.int .u32 0)] (i 0) (t 12)),mV 5 13]
def r_124_2 : SS := [o 6 (.mv (.const (.int .u64 0)))]
def r_124_3 : SS := [mV 14 0,lN 15 14,o 16 (.mv (i 0))]
def r_124_4 : SS := [o 17 (.bin 0 .lss (t 16) (t 15))]
def r_124_5 : SS := [mV 18 16,iA 19 1 14 16,lD 20 19,mV 7 18,mV 8 20]
def r_124_6 : SS := [mV 21 6,mV 9 21]
def r_124_7 : SS := [mV 22 7,mV 23 1,lN 24 23,o 25 (.bin 0 .lss (t 22) (t 24))]
def r_124_8 : SS := [mV 26 9,mV 27 1,mV 28 7,iA 29 1 27 28,lD 30 29,o 31 (.conv .u64 (t 30)),o 32 (.bin 0 .add (t 26) (t 31)),mV 9 32]
def r_124_9 : SS := [mV 33 8,o 34 (.conv .u64 (t 33)),mV 35 9,o 36 (.bin 0 .sub (t 34) (t 35)),mV 10 36]
def r_124_10 : SS := [mV 37 5,mV 38 10,o 39 (.call f_125 [(t 38)] true),o 40 (.lit T_uint32 [(.int .u32 0)] 1 [(0, 1, (t 39))]),o 41 (.app T_uint32 1 4 (t 37) (t 40)),mV 5 41]
def r_124_11 : SS := [mV 42 10,o 43 (.bin 0 .shr (t 42) (.const (.int .u64 63))),mV 6 43]
def r_124_12 : SS := [o 44 (.bin 0 .add (t 16) (i 1)),mV 16 44]
def r_124_13 : SS := [mV 45 5,mV 4 45]
def s_124 : SF := ⟨2, 46, [.tmp 4],
  (qS (gR r_124_0) (qS (gR r_124_1) (qS (gR r_124_2) (qS (qS (gR r_124_3) (.block 0 (.loop (qS (gR r_124_4) (qS (.cond (t 17) .skip (.exit 0)) (qS (.block 1 (qS (gR r_124_5) (qS (gR r_124_6) (qS (qS (gR r_124_7) (.cond (t 25) (gR r_124_8) .skip)) (qS (gR r_124_9) (qS (gR r_124_10) (gR r_124_11))))))) (gR r_124_12))))))) (qS (gR r_124_13) .ret)))))⟩

def r_125_0 : SS := [o 2 (.mv (.const (.int .u32 0)))]
def r_125_1 : SS := [mV 3 0,o 4 (.conv .u32 (t 3)),mV 2 4]
def s_125 : SF := ⟨1, 5, [.tmp 2],
  (qS (gR r_125_0) (qS (gR r_125_1) .ret))⟩

def r_126_0 : SS := [o 2 (.alloc T_api_Int [(.bool false), (.slice none 0 0)])]
def r_126_1 : SS := [mV 4 0,o 5 (.conv .u64 (t 4)),mV 3 5]
def r_126_2 : SS := [mV 6 0,o 7 (.bin 0 .lss (t 6) (i 0))]
def r_126_3 : SS := [mV 8 3,o 9 (.un .neg (t 8)),mV 3 9]
def r_126_4 : SS := [mV 10 0,o 11 (.bin 0 .lss (t 10) (i 0)),mV 12 3,o 13 (.call f_125 [(t 12)] true),mV 14 3,o 15 (.bin 0 .shr (t 14) (.const (.int .u64 32))),o 16 (.call f_125 [(t 15)] true),o 17 (.lit T_uint32 [(.int .u32 0)] 2 [(0, 1, (t 13)), (1, 1, (t 16))]),o 18 (.call f_121 [(t 11), (t 17)] true),
  ⟨none, none, .store 2 (t 2) (t 18)⟩]
def s_126 : SF := ⟨1, 19, [.cell 2 true 2],
  (qS (gR r_126_0) (qS (gR r_126_1) (qS (qS (gR r_126_2) (.cond (t 7) (gR r_126_3) .skip)) (qS (gR r_126_4) .ret))))⟩

def r_127_0 : SS := [o 2 (.box T_api_Int (t 0)),o 3 (.box T_api_Int (t 1)),o 4 (.mv (i 0))]
def r_127_1 : SS := [lA 6 2 2,o 7 (.call f_120 [(t 6)] true),mV 8 7,og 9 8 true (.load true 2 (t 3)),og 10 8 true (.call f_120 [(t 9)] true),og 11 8 true (.un .not (t 10)),o 12 (.pick (t 8) (t 11) (.const (.bool false))),mV 5 12]
def r_127_2 : SS := [o 4 (.mv (.const (.int .i64 (-1))))]
def r_127_3 : SS := [lA 14 2 2,o 15 (.call f_120 [(t 14)] true),o 16 (.un .not (t 15)),mV 17 16,og 18 17 true (.load true 2 (t 3)),og 19 17 true (.call f_120 [(t 18)] true),o 20 (.pick (t 17) (t 19) (.const (.bool false))),mV 13 20]
def r_127_4 : SS := [o 4 (.mv (i 1))]
def r_127_5 : SS := [lA 22 2 2,o 23 (.call f_120 [(t 22)] true),mV 21 23]
def r_127_6 : SS := [lA 24 2 3,o 25 (.call f_119 [(t 24)] false),lA 26 2 2,o 27 (.call f_119 [(t 26)] true),o 28 (.call f_123 [(t 25), (t 27)] true),mV 4 28]
def r_127_7 : SS := [lA 29 2 2,o 30 (.call f_119 [(t 29)] false),lA 31 2 3,o 32 (.call f_119 [(t 31)] true),o 33 (.call f_123 [(t 30), (t 32)] true),mV 4 33]
def s_127 : SF := ⟨2, 34, [.tmp 4],
  (qS (gR r_127_0) (qS (.block 0 (qS (gR r_127_1) (.cond (t 5) (qS (gR r_127_2) .ret) (qS (gR r_127_3) (.cond (t 13) (qS (gR r_127_4) .ret) (qS (gR r_127_5) (.cond (t 21) (qS (.draw r_127_6 [0, 1, 0, 7, 15, 31] []) .ret) .skip))))))) (qS (.draw r_127_7 [0, 1, 0, 7, 15, 31] []) .ret)))⟩

def r_128_0 : SS := [o 2 (.box T_api_Int (t 0)),o 3 (.box T_api_Int (t 1)),o 4 (.mv (.const (.bool false)))]
def r_128_1 : SS := [fA 6 0 2,lD 7 6,fA 8 0 3,lD 9 8,o 10 (.bin 1 .neq (t 7) (t 9)),mV 11 10,og 12 11 false (.fa 1 (t 2)),og 13 11 false (.load false 1 (t 12)),og 14 11 false (.len (t 13)),og 15 11 false (.fa 1 (t 3)),og 16 11 false (.load false 1 (t 15)),og 17 11 false (.len (t 16)),og 18 11 false (.bin 0 .neq (t 14) (t 17)),o 19 (.pick (t 11) (.const (.bool true)) (t 18))]
def r_128_2 : SS := [o 4 (.mv (.const (.bool false)))]
def r_128_3 : SS := [o 5 (.mv (i 0))]
def r_128_4 : SS := [mV 20 5,fA 21 1 2,lD 22 21,lN 23 22,o 24 (.bin 0 .lss (t 20) (t 23))]
def r_128_5 : SS := [fA 27 1 2,lD 28 27,mV 29 5,iA 30 1 28 29,lD 31 30,fA 32 1 3,lD 33 32,mV 34 5,iA 35 1 33 34,lD 36 35,o 37 (.bin 0 .neq (t 31) (t 36))]
def r_128_6 : SS := [o 4 (.mv (.const (.bool false)))]
def r_128_7 : SS := [mV 25 5,o 26 (.bin 0 .add (t 25) (i 1)),mV 5 26]
def r_128_8 : SS := [o 4 (.mv (.const (.bool true)))]
def s_128 : SF := ⟨2, 38, [.tmp 4],
  (qS (gR r_128_0) (qS (qS (gR r_128_1) (.cond (t 19) (qS (gR r_128_2) .ret) .skip)) (qS (qS (gR r_128_3) (.block 0 (.loop (qS (qS (gR r_128_4) (.cond (t 24) .skip (.exit 0))) (qS (.block 1 (qS (.draw r_128_5 [0, 1, 0, 7, 15, 0, 32, 0, 224, 480, 1023] []) (.cond (t 37) (qS (gR r_128_6) .ret) .skip))) (gR r_128_7)))))) (qS (gR r_128_8) .ret))))⟩

def r_129_0 : SS := [o 2 (.box T_api_Int (t 0)),o 3 (.box T_api_Int (t 1)),o 4 (.alloc T_api_Int [(.bool false), (.slice none 0 0)])]
def r_129_1 : SS := [lA 9 2 2,o 10 (.call f_105 [(t 9)] false),o 11 (.fld false 1 1 (t 10)),lA 12 2 3,o 13 (.call f_105 [(t 12)] true),o 14 (.fld false 1 1 (t 13)),mV 5 11,mV 6 14]
def r_129_2 : SS := [mV 15 6,lN 16 15,o 17 (.bin 0 .gtr (t 16) (i 0))]
def r_129_3 : SS := [mV 19 5,mV 20 6,o 21 (.call f_156 [(t 19), (t 20)] true),mV 18 21,o 22 (.ext (t 18) 0),o 23 (.ext (t 18) 1),mV 7 22,mV 8 23]
def r_129_4 : SS := [mV 24 6,mV 5 24]
def r_129_5 : SS := [mV 25 8,mV 6 25]
def r_129_6 : SS := [mV 26 5,o 27 (.call f_76 [(.const (.bool false)), (t 26)] true),
  ⟨none, none, .store 2 (t 4) (t 27)⟩]
def s_129 : SF := ⟨2, 28, [.cell 4 true 2],
  (qS (gR r_129_0) (qS (.draw r_129_1 [0, 1, 3, 0, 11, 27, 31, 127] []) (qS (.block 0 (.loop (qS (qS (gR r_129_2) (.cond (t 17) .skip (.exit 0))) (.block 1 (qS (gR r_129_3) (qS (gR r_129_4) (gR r_129_5))))))) (qS (gR r_129_6) .ret))))⟩

def r_130_0 : SS := [o 1 (.box T_api_Int (t 0)),o 2 (.mv (.const (.bool false)))]
def r_130_1 : SS := [fA 4 1 1,lD 5 4,lN 6 5,mV 3 6]
def r_130_2 : SS := [mV 7 3,o 8 (.bin 0 .eql (t 7) (i 0)),mV 9 8,og 10 9 true (.fa 0 (t 1)),og 11 9 true (.load false 1 (t 10)),og 12 9 true (.un .not (t 11)),o 13 (.pick (t 9) (t 12) (.const (.bool false))),mV 14 13,og 15 14 false (.mv (t 3)),og 16 14 false (.bin 0 .gtr (t 15) (i 0)),og 17 14 false (.mv (t 16)),og 18 17 true (.fa 1 (t 1)),og 19 17 true (.load false 1 (t 18)),og 20 17 true (.mv (t 3)),og 21 17 true (.bin 0 .sub (t 20) (i 1)),og 22 17 true (.ia 1 (t 19) (t 21)),og 23 17 true (.load false 1 (t 22)),og 24 17 true (.bin 0 .neq (t 23) (.const (.int .u32 0))),og 25 14 false (.pick (t 17) (t 24) (.const (.bool false))),o 26 (.pick (t 14) (.const (.bool true)) (t 25)),mV 2 26]
def s_130 : SF := ⟨1, 27, [.tmp 2],
  (qS (gR r_130_0) (qS (gR r_130_1) (qS (gR r_130_2) .ret)))⟩

def r_131_0 : SS := [o 1 (.box T_api_Int (t 0)),o 2 (.mv (.const (.bool false)))]
def r_131_1 : SS := [fA 3 1 1,lD 4 3,lN 5 4,o 6 (.bin 0 .eql (t 5) (i 0))]
def r_131_2 : SS := [fA 7 0 1,lD 8 7,o 9 (.un .not (t 8)),mV 2 9]
def r_131_3 : SS := [fA 10 1 1,lD 11 10,fA 12 1 1,lD 13 12,lN 14 13,o 15 (.bin 0 .sub (t 14) (i 1)),iA 16 1 11 15,lD 17 16,o 18 (.bin 0 .neq (t 17) (.const (.int .u32 0))),mV 2 18]
def s_131 : SF := ⟨1, 19, [.tmp 2],
  (qS (gR r_131_0) (qS (qS (gR r_131_1) (.cond (t 6) (qS (gR r_131_2) .ret) .skip)) (qS (gR r_131_3) .ret)))⟩

def r_132_0 : SS := [o 1 (.box T_api_Int (t 0)),o 2 (.mv (.const (.bool false)))]
def r_132_1 : SS := [lA 3 2 1,o 4 (.build [(.bool false), (.slice none 0 0)] []),o 5 (.call f_127 [(t 3), (t 4)] true),o 6 (.bin 0 .eql (t 5) (i 0)),mV 2 6]
def s_132 : SF := ⟨1, 7, [.tmp 2],
  (qS (gR r_132_0) (qS (gR r_132_1) .ret))⟩

def r_133_0 : SS := [o 2 (.box T_api_Int (t 0)),o 3 (.box T_api_Int (t 1)),o 4 (.alloc T_api_Int [(.bool false), (.slice none 0 0)])]
def r_133_1 : SS := [lA 10 2 2,o 11 (.call f_119 [(t 10)] false),o 12 (.call f_121 [(.const (.bool false)), (t 11)] false),lA 13 2 3,o 14 (.call f_119 [(t 13)] false),o 15 (.call f_121 [(.const (.bool false)), (t 14)] false),o 5 (.alloc T_api_Int [(.bool false), (.slice none 0 0)]),o 6 (.alloc T_api_Int [(.bool false), (.slice none 0 0)]),
  ⟨none, none, .store 2 (t 5) (t 12)⟩,
  ⟨none, none, .store 2 (t 6) (t 15)⟩]
def r_133_2 : SS := [fA 16 1 6,lD 17 16,lN 18 17,o 19 (.bin 0 .gtr (t 18) (i 0))]
def r_133_3 : SS := [lA 21 2 5,lA 22 2 6,o 23 (.call f_152 [(t 21), (t 22)] true),mV 20 23,o 24 (.ext (t 20) 0),o 25 (.ext (t 20) 1),o 26 (.ext (t 20) 2),o 7 (.alloc T_api_Int [(.bool false), (.slice none 0 0)]),o 8 (.alloc T_api_Int [(.bool false), (.slice none 0 0)]),
  ⟨none, none, .store 2 (t 7) (t 24)⟩,
  ⟨none, none, .store 2 (t 8) (t 25)⟩,mV 9 26]
def r_133_4 : SS := [lA 27 2 6,lA 28 2 8,
  ⟨none, none, .store 2 (t 5) (t 27)⟩,
  ⟨none, none, .store 2 (t 6) (t 28)⟩]
def r_133_5 : SS := [lA 29 2 5,
  ⟨none, none, .store 2 (t 4) (t 29)⟩]
def s_133 : SF := ⟨2, 30, [.cell 4 true 2],
  (qS (gR r_133_0) (qS (.draw r_133_1 [0, 1, 3, 0, 15, 31, 0, 0, 255, 511] []) (qS (.block 0 (.loop (qS (qS (gR r_133_2) (.cond (t 19) .skip (.exit 0))) (.block 1 (qS (gR r_133_3) (.draw r_133_4 [0, 0, 1, 7] [(1, 2)])))))) (qS (gR r_133_5) .ret))))⟩


end Go.Proofs.YtjlohmnnldbjoaaGreat.AI
