/- Part 4 of the proof: AiCode0, AiCode1, AiCode2. -/
import Derived.Test.YtjlohmnnldbjoaaGreatM00
set_option linter.unusedVariables false
set_option linter.unusedSimpArgs false
set_option linter.unusedSectionVars false
namespace Go.Proofs.YtjlohmnnldbjoaaGreat.AI
section
open Go
abbrev o (d:Nat) (x:SOp):a0L:=⟨some d,none,x⟩
abbrev og (d g:Nat) (b:Bool) (x:SOp):a0L:=⟨some d,some (g,b),x⟩
abbrev t (n:Nat):Opd:=.tmp n
abbrev i (n:Int):Opd:=.const (.int .i64 n)
abbrev mV (d s:Nat):a0L:=⟨some d,none,.mv (.tmp s)⟩
abbrev lD (d s:Nat):a0L:=⟨some d,none,.load false 1 (.tmp s)⟩
abbrev lA (d n s:Nat):a0L:=⟨some d,none,.load true n (.tmp s)⟩
abbrev fA (d n s:Nat):a0L:=⟨some d,none,.fa n (.tmp s)⟩
abbrev iA (d n x y:Nat):a0L:=⟨some d,none,.ia n (.tmp x) (.tmp y)⟩
abbrev lN (d s:Nat):a0L:=⟨some d,none,.len (.tmp s)⟩
abbrev cK (d s:Nat):a0L:=⟨some d,none,.chk (.tmp s)⟩
abbrev SS:Type:=List a0L
abbrev SF:Type:=v0o
abbrev gR:List a0L→SCode:=.reg
abbrev qS:SCode→SCode→SCode:=.seq
inductive RK where | few | all
def RK.p {α:Type}:RK→α→α→α | .few,a,_=>a | .all,_,b=>b
abbrev RK.w (F:RK):Nat:=F.p 1 2
abbrev RK.b (F:RK):Bool:=F.p false true
abbrev f_3:Nat:=3
abbrev X0j:Nat:=10
abbrev x0O:Nat:=11
abbrev K0m:Nat:=12
abbrev V0A:Nat:=13
abbrev X0k:Nat:=14
abbrev V0B:Nat:=15
abbrev X0l:Nat:=16
abbrev X0m:Nat:=17
abbrev X0n:Nat:=20
abbrev X0o:Nat:=24
abbrev X0p:Nat:=25
abbrev T0S:Nat:=26
abbrev V0C:Nat:=27
abbrev V0D:Nat:=35
abbrev T0T:Nat:=36
abbrev V0E:Nat:=37
abbrev K0n:Nat:=38
abbrev T0U:Nat:=39
abbrev X0q:Nat:=40
abbrev X0r:Nat:=41
abbrev V0F:Nat:=42
abbrev V0G:Nat:=43
abbrev V0H:Nat:=44
abbrev K0o:Nat:=45
abbrev X0s:Nat:=46
abbrev V0I:Nat:=47
abbrev X0t:Nat:=49
abbrev V0J:Nat:=50
abbrev z0a:Nat:=51
abbrev X0u:Nat:=57
abbrev V0K:Nat:=58
abbrev V0L:Nat:=59
abbrev X0v:Nat:=60
abbrev V0M:Nat:=61
abbrev X0w:Nat:=62
abbrev X0x:Nat:=63
abbrev v0J:Nat:=73
abbrev X0y:Nat:=74
abbrev A0e:Nat:=75
abbrev t0r:Nat:=76
abbrev X0z:Nat:=77
abbrev X0A:Nat:=78
abbrev V0N:Nat:=79
abbrev X0B:Nat:=80
abbrev M0V:Nat:=81
abbrev V0O:Nat:=82
abbrev V0P:Nat:=83
abbrev X0C:Nat:=84
abbrev A0f:Nat:=85
abbrev V0Q:Nat:=86
abbrev X0D:Nat:=87
abbrev J0G:Nat:=88
abbrev r0G:Nat:=89
abbrev A0g:Nat:=90
abbrev V0R:Nat:=91
abbrev T0V:Nat:=95
abbrev X0E:Nat:=96
abbrev T0W:Nat:=97
abbrev X0F:Nat:=98
abbrev X0G:Nat:=99
abbrev z0I:Nat:=104
abbrev i0t:Nat:=105
abbrev z0J:Nat:=106
abbrev l0S:Nat:=107
abbrev z0K:Nat:=108
abbrev z0L:Nat:=109
abbrev z0M:Nat:=110
abbrev p0y:Nat:=111
abbrev K0l:Nat:=112
abbrev z0N:Nat:=113
abbrev x0P:Nat:=114
abbrev x0Q:Nat:=115
abbrev x0R:Nat:=116
abbrev t0k:Nat:=117
abbrev p0z:Nat:=118
abbrev f0E:Nat:=119
abbrev e0f:Nat:=120
abbrev g0p:Nat:=121
abbrev z0O:Nat:=122
abbrev r0w:Nat:=123
abbrev x0S:Nat:=124
abbrev f0F:Nat:=125
abbrev k0Z:Nat:=126
abbrev n0y:Nat:=127
abbrev x0T:Nat:=129
abbrev t0l:Nat:=130
abbrev r0x:Nat:=131
abbrev x0U:Nat:=132
abbrev r0y:Nat:=133
abbrev t0m:Nat:=134
abbrev z0P:Nat:=135
abbrev x0V:Nat:=136
abbrev x0W:Nat:=137
abbrev d1r:Nat:=138
abbrev r0z:Nat:=139
abbrev T0A:Nat:=140
abbrev T0B:Nat:=141
abbrev T0C:Nat:=142
abbrev T0D:Nat:=143
abbrev T0E:Nat:=144
abbrev T0F:Nat:=145
abbrev T0G:Nat:=146
abbrev x0X:Nat:=147
abbrev z0Q:Nat:=148
abbrev t0n:Nat:=149
abbrev r0A:Nat:=150
abbrev r0B:Nat:=151
abbrev l0T:Nat:=152
abbrev z0R:Nat:=153
abbrev z0S:Nat:=154
abbrev z0T:Nat:=155
abbrev x0Y:Nat:=156
abbrev T0H:Nat:=157
abbrev T0I:Nat:=158
abbrev T0J:Nat:=159
abbrev T0K:Nat:=160
abbrev T0L:Nat:=161
abbrev T0M:Nat:=162
abbrev T0N:Nat:=163
abbrev n0z:Nat:=164
abbrev x0Z:Nat:=165
abbrev T0O:Nat:=166
abbrev t0o:Nat:=167
abbrev z0U:Nat:=168
abbrev r0C:Nat:=169
abbrev y0a:Nat:=170
abbrev T0P:Nat:=171
abbrev z0V:Nat:=172
abbrev z0W:Nat:=173
abbrev z0X:Nat:=174
abbrev n0A:Nat:=175
abbrev y0b:Nat:=176
abbrev T0Q:Nat:=177
abbrev t0p:Nat:=178
abbrev r0D:Nat:=179
abbrev T0R:Nat:=180
abbrev z0Y:Nat:=181
abbrev y0c:Nat:=182
abbrev z0Z:Nat:=183
abbrev A0a:Nat:=184
abbrev A0b:Nat:=185
abbrev y0d:Nat:=201
abbrev n0B:Nat:=202
abbrev r0E:Nat:=203
abbrev j0Z:Nat:=204
abbrev n0C:Nat:=205
abbrev p0A:Nat:=206
abbrev A0c:Nat:=207
abbrev y0e:Nat:=208
abbrev n0D:Nat:=209
abbrev r0F:Nat:=210
abbrev i0X:Nat:=211
abbrev n0E:Nat:=212
abbrev p0B:Nat:=213
abbrev y0f:Nat:=214
abbrev A0d:Nat:=215
abbrev t0q:Nat:=216
abbrev d0w:Nat:=2
abbrev g0n:Nat:=3
abbrev W0n:Nat:=4
abbrev M0P:Nat:=22
abbrev a0C:Nat:=25
abbrev a0a:Nat:=30
abbrev a0b:Nat:=32
abbrev b0F:Nat:=34
abbrev a0A:Nat:=37
abbrev b0J:Nat:=40
abbrev b0k:Nat:=45
abbrev a0j:Nat:=103
abbrev b0G:Nat:=123
abbrev a0O:Nat:=125
abbrev a0m:Nat:=131
abbrev a0n:Nat:=145
abbrev a0I:Nat:=146
abbrev a0c:Nat:=150
abbrev a0M:Nat:=163
abbrev a0d:Nat:=167
abbrev e0D:Nat:=169
abbrev f0f:Nat:=208
def Y0k:SS:=[o 6 (.mv (.const (.bool false)))]
def Y0l:SS:=[o 7 (.mv (i 3))]
def Y0m:SS:=[mV 19 7,o 20 (.call X0j [t 19] true),o 8 (.alloc a0C [.slice none 0 0]),⟨none,none,.store 1 (t 8) (t 20)⟩]
def Y0n:SS:=[o 9 (.mv (.const (.slice none 0 0)))]
def Y0o:SS:=[o 10 (.mv (i 0))]
def Y0p:SS:=[mV 21 10,fA 22 0 8,lD 23 22,lN 24 23,o 25 (.bin 0 .lss (t 21) (t 24))]
def Y0q:SS:=[mV 28 9,o 29 (.build [.int .i64 0,.bool false,.slice none 0 0,.bool false,.slice none 0 0] [(0,1,i 1)]),o 30 (.lit b0F [.int .i64 0,.bool false,.slice none 0 0,.bool false,.slice none 0 0] 1 [(0,5,t 29)]),o 31 (.app b0F 5 72 (t 28) (t 30)),mV 9 31]
def Y0r:SS:=[mV 26 10,o 27 (.bin 0 .add (t 26) (i 1)),mV 10 27]
def Y0s:SS:=[mV 32 0,mV 33 1,mV 34 2,o 35 (.lit M0P [.int .i8 0] 3 [(0,1,t 32),(1,1,t 33),(2,1,t 34)]),mV 11 35]
def Y0t:SS:=[o 12 (.mv (i 0))]
def O0O:SS:=[mV 36 12,fA 37 0 8,lD 38 37,lN 39 38,o 40 (.bin 0 .lss (t 36) (t 39))]
def O0P:SS:=[o 13 (.mv (i 0))]
def O0Q:SS:=[mV 43 13,o 44 (.bin 0 .lss (t 43) (i 3))]
def O0R:SS:=[fA 47 0 8,lD 48 47,mV 49 12,iA 50 1 48 49,lD 51 50,mV 52 13,iA 53 4 51 52,lA 54 4 53,o 55 (.call x0O [t 54] true),o 56 (.bin 0 .gtr (t 55) (i 0)),mV 57 56,og 58 57 true (.fa 0 (t 8)),og 59 57 true (.load false 1 (t 58)),og 60 57 true (.mv (t 12)),og 61 57 true (.ia 1 (t 59) (t 60)),og 62 57 true (.load false 1 (t 61)),og 63 57 true (.mv (t 13)),og 64 57 true (.bin 0 .add (t 63) (i 1)),og 65 57 true (.bin 0 .rem (t 64) (i 3)),og 66 57 true (.ia 4 (t 62) (t 65)),og 67 57 true (.load true 4 (t 66)),og 68 57 true (.call x0O [t 67] true),og 69 57 true (.bin 0 .lss (t 68) (i 0)),o 70 (.pick (t 57) (t 69) (.const (.bool false)))]
def O0S:SS:=[mV 71 9,mV 72 12,mV 73 11,mV 74 13,iA 75 1 73 74,lD 76 75,o 77 (.conv .i64 (t 76)),o 78 (.call K0m [t 77] true),o 79 (.build [.int .i64 0,.bool false,.slice none 0 0,.bool false,.slice none 0 0] [(1,4,t 78)]),iA 80 5 71 72,⟨none,none,.store 5 (t 80) (t 79)⟩]
def x0b:SS:=[mV 45 13,o 46 (.bin 0 .add (t 45) (i 1)),mV 13 46]
def O0T:SS:=[mV 41 12,o 42 (.bin 0 .add (t 41) (i 1)),mV 12 42]
def O0U:SS:=[lA 82 1 8,mV 83 7,mV 84 9,o 85 (.call V0A [t 82,t 83,t 84] true),mV 81 85,o 86 (.ext (t 81) 0),o 87 (.ext (t 81) 1),o 88 (.ext (t 81) 2),o 15 (.alloc b0J [.int .i64 0,.bool false,.slice none 0 0,.bool false,.slice none 0 0,.slice none 0 0,.slice none 0 0,.slice none 0 0]),mV 14 86,⟨none,none,.store 8 (t 15) (t 87)⟩,mV 16 88]
def O0V:SS:=[lA 90 1 8,mV 91 7,mV 92 9,o 93 (.call X0k [t 90,t 91,t 92] true),mV 89 93,o 94 (.ext (t 89) 0),o 95 (.ext (t 89) 1),o 17 (.alloc b0k [.int .i64 0,.slice none 0 0,.slice none 0 0,.slice none 0 0]),⟨none,none,.store 4 (t 17) (t 94)⟩,mV 18 95]
def O0W:SS:=[mV 96 16,o 97 (.call V0B [t 96] true),o 98 (.bin 0 .eql (t 97) (i 0)),mV 99 98,og 100 99 true (.load true 4 (t 17)),og 101 99 true (.load true 8 (t 15)),og 102 99 true (.call X0l [t 100,t 101] true),o 103 (.pick (t 99) (t 102) (.const (.bool false))),mV 104 103,og 105 104 true (.mv (t 14)),og 106 104 true (.mv (t 0)),og 107 104 true (.conv .i64 (t 106)),og 108 104 true (.mv (t 1)),og 109 104 true (.conv .i64 (t 108)),og 110 104 true (.bin 0 .add (t 107) (t 109)),og 111 104 true (.mv (t 2)),og 112 104 true (.conv .i64 (t 111)),og 113 104 true (.bin 0 .add (t 110) (t 112)),og 114 104 true (.bin 0 .lss (t 113) (i 0)),og 115 104 true (.bin 1 .eql (t 105) (t 114)),o 116 (.pick (t 104) (t 115) (.const (.bool false))),mV 117 116,og 118 117 true (.call X0m [] true),o 119 (.pick (t 117) (t 118) (.const (.bool false))),mV 6 119]
def s_3:SF:=⟨3,120,[.tmp 6],
 (qS (gR Y0k) (qS (gR Y0l) (qS (gR Y0m) (qS (gR Y0n) (qS (qS (gR Y0o) (.block 0 (.loop (qS (qS (gR Y0p) (.cond (t 25) .skip (.exit 0))) (qS (.block 1 (gR Y0q)) (gR Y0r)))))) (qS (gR Y0s) (qS (qS (gR Y0t) (.block 2 (.loop (qS (qS (gR O0O) (.cond (t 40) .skip (.exit 2))) (qS (.block 3 (qS (gR O0P) (.block 4 (.loop (qS (qS (gR O0Q) (.cond (t 44) .skip (.exit 4))) (qS (.block 5 (qS (gR O0R) (.cond (t 70) (gR O0S) .skip))) (gR x0b))))))) (gR O0T)))))) (qS (gR O0U) (qS (gR O0V) (qS (gR O0W) .ret))))))))))⟩
def N0i:SS:=[o 2 (.alloc a0C [.slice none 0 0])]
def N0j:SS:=[mV 6 0,o 7 (.call V0D [t 6] true),mV 0 7]
def N0k:SS:=[mV 8 0,o 9 (.call T0S [t 8] true),o 10 (.fld false 0 1 (t 9)),mV 3 10]
def N0l:SS:=[o 4 (.mv (i 0))]
def N0m:SS:=[mV 11 4,mV 12 0,o 13 (.bin 0 .lss (t 11) (t 12))]
def N0n:SS:=[o 5 (.mv (i 0))]
def N0o:SS:=[mV 16 5,mV 17 0,o 18 (.bin 0 .lss (t 16) (t 17))]
def B0T:SS:=[mV 21 5,mV 22 4,o 23 (.bin 0 .neq (t 21) (t 22))]
def N0p:SS:=[mV 24 3,mV 25 0,mV 26 4,mV 27 5,o 28 (.call T0T [t 25,t 26,i 1,t 27,(.const (.int .i64 (-1)))] true),o 29 (.lit a0A [.slice none 0 0] 1 [(0,1,t 28)]),o 30 (.app a0A 1 24 (t 24) (t 29)),mV 3 30]
def B0U:SS:=[mV 19 5,o 20 (.bin 0 .add (t 19) (i 1)),mV 5 20]
def B0R:SS:=[mV 14 4,o 15 (.bin 0 .add (t 14) (i 1)),mV 4 15]
def B0S:SS:=[mV 31 3,o 32 (.call V0E [t 31] true),⟨none,none,.store 1 (t 2) (t 32)⟩]
def Z0N:SF:=⟨1,33,[.cell 2 true 1],
 (qS (gR N0i) (qS (gR N0j) (qS (gR N0k) (qS (qS (gR N0l) (.block 0 (.loop (qS (qS (gR N0m) (.cond (t 13) .skip (.exit 0))) (qS (.block 1 (qS (gR N0n) (.block 2 (.loop (qS (qS (gR N0o) (.cond (t 18) .skip (.exit 2))) (qS (.block 3 (qS (gR B0T) (.cond (t 23) (gR N0p) .skip))) (gR B0U))))))) (gR B0R)))))) (qS (gR B0S) .ret)))))⟩
def N0q:SS:=[o 1 (.box a0b (t 0)),o 2 (.mv (i 0))]
def N0r:SS:=[lA 3 4 1,o 4 (.build [.bool false,.slice none 0 0,.bool false,.slice none 0 0] []),o 5 (.call K0n [t 3,t 4] true),mV 2 5]
def Z0O:SF:=⟨1,6,[.tmp 2],
 (qS (gR N0q) (qS (gR N0r) .ret))⟩
def N0s:SS:=[o 2 (.alloc a0b [.bool false,.slice none 0 0,.bool false,.slice none 0 0])]
def N0t:SS:=[mV 3 0,o 4 (.call T0U [t 3] true),o 5 (.call T0U [i 1] true),o 6 (.build [.bool false,.slice none 0 0,.bool false,.slice none 0 0] [(0,2,t 4),(2,2,t 5)]),⟨none,none,.store 4 (t 2) (t 6)⟩]
def Z0P:SF:=⟨1,7,[.cell 2 true 4],
 (qS (gR N0s) (qS (gR N0t) .ret))⟩
def N0u:SS:=[o 3 (.box a0C (t 0)),o 6 (.mv (.const (.bool false))),o 7 (.alloc b0J [.int .i64 0,.bool false,.slice none 0 0,.bool false,.slice none 0 0,.slice none 0 0,.slice none 0 0,.slice none 0 0]),o 8 (.mv (i 0))]
def N0v:SS:=[lA 14 1 3,mV 15 1,mV 16 2,o 17 (.call V0C [t 14,t 15,t 16] true),o 18 (.un .not (t 17))]
def N0w:SS:=[o 19 (.build [.int .i64 0,.bool false,.slice none 0 0,.bool false,.slice none 0 0,.slice none 0 0,.slice none 0 0,.slice none 0 0] []),o 6 (.mv (.const (.bool false))),⟨none,none,.store 8 (t 7) (t 19)⟩,o 8 (.mv (i 1))]
def N0x:SS:=[lA 21 1 3,mV 22 1,mV 23 2,o 24 (.call X0n [t 21,t 22,t 23] true),mV 20 24,o 25 (.ext (t 20) 0),o 26 (.ext (t 20) 1),o 9 (.alloc b0k [.int .i64 0,.slice none 0 0,.slice none 0 0,.slice none 0 0]),⟨none,none,.store 4 (t 9) (t 25)⟩,mV 10 26]
def E0q:SS:=[mV 27 10,o 28 (.un .not (t 27))]
def N0y:SS:=[o 29 (.build [.int .i64 0,.bool false,.slice none 0 0,.bool false,.slice none 0 0,.slice none 0 0,.slice none 0 0,.slice none 0 0] []),o 6 (.mv (.const (.bool true))),⟨none,none,.store 8 (t 7) (t 29)⟩,o 8 (.mv (i 0))]
def N0z:SS:=[lA 31 4 9,o 32 (.call X0q [t 31] true),mV 30 32,o 33 (.ext (t 30) 0),o 34 (.ext (t 30) 1),o 35 (.ext (t 30) 2),o 11 (.alloc b0J [.int .i64 0,.bool false,.slice none 0 0,.bool false,.slice none 0 0,.slice none 0 0,.slice none 0 0,.slice none 0 0]),⟨none,none,.store 8 (t 11) (t 33)⟩,mV 12 34,mV 13 35]
def N0A:SS:=[fA 36 0 11,lD 37 36,o 38 (.bin 0 .eql (t 37) (i 2)),lA 39 8 11,mV 40 13,mV 6 38,⟨none,none,.store 8 (t 7) (t 39)⟩,mV 8 40]
def Z0Q:SF:=⟨3,41,[.tmp 6,.cell 7 true 8,.tmp 8],
 (qS (gR N0u) (qS (qS (gR N0v) (.cond (t 18) (qS (gR N0w) .ret) .skip)) (qS (gR N0x) (qS (qS (gR E0q) (.cond (t 28) (qS (gR N0y) .ret) .skip)) (qS (gR N0z) (qS (.draw N0A [0,1,3,0,0,7,47,127] []) .ret))))))⟩
def N0B:SS:=[o 3 (.box a0C (t 0)),o 6 (.alloc b0k [.int .i64 0,.slice none 0 0,.slice none 0 0,.slice none 0 0]),o 7 (.mv (.const (.bool false)))]
def N0C:SS:=[lA 8 1 3,mV 9 1,mV 10 2,o 11 (.call X0o [t 8,t 9,t 10] true),o 12 (.un .not (t 11)),mV 13 12,og 14 13 false (.mv (t 2)),og 15 13 false (.call X0p [t 14] true),o 16 (.pick (t 13) (.const (.bool true)) (t 15))]
def E0H:SS:=[o 17 (.build [.int .i64 0,.slice none 0 0,.slice none 0 0,.slice none 0 0] []),⟨none,none,.store 4 (t 6) (t 17)⟩,o 7 (.mv (.const (.bool false)))]
def N0D:SS:=[lA 18 1 3,mV 19 1,mV 20 2,o 21 (.call X0r [t 18,t 19,i 0,t 20] true),⟨none,none,.store 4 (t 6) (t 21)⟩,o 7 (.mv (.const (.bool true)))]
def Z0R:SF:=⟨3,22,[.cell 6 true 4,.tmp 7],
 (qS (gR N0B) (qS (qS (gR N0C) (.cond (t 16) (qS (gR E0H) .ret) .skip)) (qS (gR N0D) .ret)))⟩
def N0E:SS:=[o 2 (.mv (i 0))]
def N0F:SS:=[mV 3 0,mV 2 3]
def Z0S:SF:=⟨1,4,[.tmp 2],
 (qS (gR N0E) (qS (gR N0F) .ret))⟩
def N0G:SS:=[o 2 (.box b0k (t 0)),o 3 (.box b0J (t 1)),o 4 (.mv (.const (.bool false)))]
def N0H:SS:=[lA 21 4 2,o 22 (.call V0F [t 21] true),o 23 (.un .not (t 22))]
def Y0g:SS:=[o 4 (.mv (.const (.bool false)))]
def G0c:SS:=[fA 24 0 3,lD 25 24]
def G0d:SS:=[o 27 (.bin 0 .eql (t 25) (i 1)),mV 26 27]
def N0I:SS:=[lA 29 4 2,fA 30 6 3,lD 31 30,o 32 (.call V0G [t 29,t 31] true),mV 28 32,o 33 (.ext (t 28) 0),o 34 (.ext (t 28) 1),mV 5 33,mV 6 34]
def N0J:SS:=[mV 35 6,o 36 (.un .not (t 35)),mV 37 36,og 38 37 false (.load true 4 (t 2)),og 39 37 false (.fa 5 (t 3)),og 40 37 false (.load false 1 (t 39)),og 41 37 false (.call V0H [t 38,t 40] true),og 42 37 false (.un .not (t 41)),o 43 (.pick (t 37) (.const (.bool true)) (t 42)),mV 44 43,og 45 44 false (.fa 7 (t 3)),og 46 44 false (.load false 1 (t 45)),og 47 44 false (.len (t 46)),og 48 44 false (.bin 0 .gtr (t 47) (i 0)),o 49 (.pick (t 44) (.const (.bool true)) (t 48))]
def Y0h:SS:=[o 4 (.mv (.const (.bool false)))]
def N0K:SS:=[fA 51 3 2,lD 52 51,fA 53 5 3,lD 54 53,o 55 (.call K0o [t 52,t 54] true),mV 50 55,o 56 (.ext (t 50) 0),o 57 (.ext (t 50) 1),o 7 (.alloc a0b [.bool false,.slice none 0 0,.bool false,.slice none 0 0]),⟨none,none,.store 4 (t 7) (t 56)⟩,mV 8 57]
def N0L:SS:=[fA 59 6 3,lD 60 59,fA 61 2 2,lD 62 61,o 63 (.call K0o [t 60,t 62] true),mV 58 63,o 64 (.ext (t 58) 0),o 65 (.ext (t 58) 1),o 9 (.alloc a0b [.bool false,.slice none 0 0,.bool false,.slice none 0 0]),⟨none,none,.store 4 (t 9) (t 64)⟩,mV 10 65]
def F0S:SS:=[mV 66 5,fA 67 3 2,lD 68 67,o 69 (.call X0s [t 66,t 68] true),mV 70 69,og 71 70 true (.load true 4 (t 7)),og 72 70 true (.fa 1 (t 3)),og 73 70 true (.load true 4 (t 72)),og 74 70 true (.call K0n [t 71,t 73] true),og 75 70 true (.bin 0 .eql (t 74) (i 0)),o 76 (.pick (t 70) (t 75) (.const (.bool false))),mV 77 76,og 78 77 true (.load true 4 (t 9)),og 79 77 true (.fa 1 (t 3)),og 80 77 true (.load true 4 (t 79)),og 81 77 true (.call K0n [t 78,t 80] true),og 82 77 true (.bin 0 .eql (t 81) (i 0)),o 83 (.pick (t 77) (t 82) (.const (.bool false))),mV 4 83]
def F0T:SS:=[o 85 (.bin 0 .eql (t 25) (i 2)),mV 84 85]
def F0U:SS:=[lA 87 4 2,fA 88 6 3,lD 89 88,o 90 (.call V0G [t 87,t 89] true),mV 86 90,o 91 (.ext (t 86) 0),o 92 (.ext (t 86) 1),mV 11 91,mV 12 92]
def F0V:SS:=[mV 93 12,o 94 (.un .not (t 93)),mV 95 94,og 96 95 false (.fa 5 (t 3)),og 97 95 false (.load false 1 (t 96)),og 98 95 false (.len (t 97)),og 99 95 false (.bin 0 .gtr (t 98) (i 0)),o 100 (.pick (t 95) (.const (.bool true)) (t 99)),mV 101 100,og 102 101 false (.fa 7 (t 3)),og 103 101 false (.load false 1 (t 102)),og 104 101 false (.len (t 103)),og 105 101 false (.bin 0 .gtr (t 104) (i 0)),o 106 (.pick (t 101) (.const (.bool true)) (t 105)),mV 107 106,og 108 107 false (.fa 1 (t 3)),og 109 107 false (.load true 4 (t 108)),og 110 107 false (.call x0O [t 109] true),og 111 107 false (.bin 0 .neq (t 110) (i 0)),o 112 (.pick (t 107) (.const (.bool true)) (t 111))]
def U0B:SS:=[o 4 (.mv (.const (.bool false)))]
def F0W:SS:=[fA 114 6 3,lD 115 114,fA 116 2 2,lD 117 116,o 118 (.call K0o [t 115,t 117] true),mV 113 118,o 119 (.ext (t 113) 0),o 120 (.ext (t 113) 1),o 13 (.alloc a0b [.bool false,.slice none 0 0,.bool false,.slice none 0 0]),⟨none,none,.store 4 (t 13) (t 119)⟩,mV 14 120]
def F0X:SS:=[o 15 (.mv (i 0))]
def F0Y:SS:=[mV 121 15,mV 122 11,lN 123 122,o 124 (.bin 0 .lss (t 121) (t 123))]
def F0Z:SS:=[mV 127 11,mV 128 15,iA 129 4 127 128,lA 130 4 129,o 131 (.call x0O [t 130] true),o 132 (.bin 0 .neq (t 131) (i 0))]
def U0C:SS:=[o 4 (.mv (.const (.bool false)))]
def G0a:SS:=[mV 125 15,o 126 (.bin 0 .add (t 125) (i 1)),mV 15 126]
def G0b:SS:=[lA 133 4 13,o 134 (.call x0O [t 133] true),o 135 (.bin 0 .lss (t 134) (i 0)),mV 4 135]
def U0D:SS:=[o 137 (.bin 0 .eql (t 25) (i 3)),mV 136 137]
def U0E:SS:=[lA 138 4 2,fA 139 5 3,lD 140 139,o 141 (.call V0H [t 138,t 140] true),o 142 (.un .not (t 141)),mV 143 142,og 144 143 false (.fa 7 (t 3)),og 145 143 false (.load false 1 (t 144)),og 146 143 false (.len (t 145)),og 147 143 false (.fa 0 (t 2)),og 148 143 false (.load false 1 (t 147)),og 149 143 false (.bin 0 .neq (t 146) (t 148)),o 150 (.pick (t 143) (.const (.bool true)) (t 149)),mV 151 150,og 152 151 false (.fa 6 (t 3)),og 153 151 false (.load false 1 (t 152)),og 154 151 false (.len (t 153)),og 155 151 false (.bin 0 .gtr (t 154) (i 0)),o 156 (.pick (t 151) (.const (.bool true)) (t 155)),mV 157 156,og 158 157 false (.fa 1 (t 3)),og 159 157 false (.load true 4 (t 158)),og 160 157 false (.call x0O [t 159] true),og 161 157 false (.bin 0 .neq (t 160) (i 0)),o 162 (.pick (t 157) (.const (.bool true)) (t 161))]
def U0F:SS:=[o 4 (.mv (.const (.bool false)))]
def U0G:SS:=[fA 164 1 2,lD 165 164,fA 166 7 3,lD 167 166,o 168 (.call V0I [t 165,t 167] true),mV 163 168,o 169 (.ext (t 163) 0),o 170 (.ext (t 163) 1),mV 16 169,mV 17 170]
def U0H:SS:=[o 18 (.mv (i 0))]
def U0I:SS:=[mV 171 18,mV 172 16,lN 173 172,o 174 (.bin 0 .lss (t 171) (t 173))]
def U0J:SS:=[mV 177 16,mV 178 18,iA 179 4 177 178,lA 180 4 179,o 181 (.call x0O [t 180] true),o 182 (.bin 0 .gtr (t 181) (i 0))]
def U0K:SS:=[o 4 (.mv (.const (.bool false)))]
def U0L:SS:=[mV 175 18,o 176 (.bin 0 .add (t 175) (i 1)),mV 18 176]
def U0M:SS:=[fA 184 3 2,lD 185 184,fA 186 7 3,lD 187 186,o 188 (.call K0o [t 185,t 187] true),mV 183 188,o 189 (.ext (t 183) 0),o 190 (.ext (t 183) 1),o 19 (.alloc a0b [.bool false,.slice none 0 0,.bool false,.slice none 0 0]),⟨none,none,.store 4 (t 19) (t 189)⟩,mV 20 190]
def U0N:SS:=[lA 191 4 19,o 192 (.call x0O [t 191] true),o 193 (.bin 0 .gtr (t 192) (i 0)),mV 4 193]
def U0O:SS:=[o 4 (.mv (.const (.bool false)))]
def Z0T:SF:=⟨2,194,[.tmp 4],
 (qS (gR N0G) (qS (qS (gR N0H) (.cond (t 23) (qS (gR Y0g) .ret) .skip)) (qS (qS (gR G0c) (.block 0 (qS (gR G0d) (.cond (t 26) (qS (gR N0I) (qS (qS (gR N0J) (.cond (t 49) (qS (gR Y0h) .ret) .skip)) (qS (gR N0K) (qS (gR N0L) (qS (gR F0S) .ret))))) (qS (gR F0T) (.cond (t 84) (qS (gR F0U) (qS (qS (gR F0V) (.cond (t 112) (qS (gR U0B) .ret) .skip)) (qS (gR F0W) (qS (qS (gR F0X) (.block 1 (.loop (qS (qS (gR F0Y) (.cond (t 124) .skip (.exit 1))) (qS (.block 2 (qS (gR F0Z) (.cond (t 132) (qS (gR U0C) .ret) .skip))) (gR G0a)))))) (qS (gR G0b) .ret))))) (qS (gR U0D) (.cond (t 136) (qS (qS (gR U0E) (.cond (t 162) (qS (gR U0F) .ret) .skip)) (qS (gR U0G) (qS (qS (gR U0H) (.block 3 (.loop (qS (qS (gR U0I) (.cond (t 174) .skip (.exit 3))) (qS (.block 4 (qS (gR U0J) (.cond (t 182) (qS (gR U0K) .ret) .skip))) (gR U0L)))))) (qS (gR U0M) (qS (gR U0N) .ret))))) .skip)))))))) (qS (gR U0O) .ret))))⟩
def N0M:SS:=[o 0 (.mv (.const (.bool false)))]
def N0N:SS:=[o 5 (.call T0S [i 1] true),o 6 (.call K0m [i 3] true),o 7 (.build [.int .i64 0,.bool false,.slice none 0 0,.bool false,.slice none 0 0] [(1,4,t 6)]),o 8 (.call K0m [(.const (.int .i64 (-4)))] true),o 9 (.build [.int .i64 0,.bool false,.slice none 0 0,.bool false,.slice none 0 0] [(1,4,t 8)]),o 10 (.lit b0F [.int .i64 0,.bool false,.slice none 0 0,.bool false,.slice none 0 0] 2 [(0,5,t 7),(5,5,t 9)]),o 11 (.call V0A [t 5,i 1,t 10] true),mV 4 11,o 12 (.ext (t 4) 0),o 13 (.ext (t 4) 1),o 14 (.ext (t 4) 2),o 2 (.alloc b0J [.int .i64 0,.bool false,.slice none 0 0,.bool false,.slice none 0 0,.slice none 0 0,.slice none 0 0,.slice none 0 0]),mV 1 12,⟨none,none,.store 8 (t 2) (t 13)⟩,mV 3 14]
def N0O:SS:=[mV 15 1,mV 16 15,og 17 16 true (.fa 0 (t 2)),og 18 16 true (.load false 1 (t 17)),og 19 16 true (.bin 0 .eql (t 18) (i 2)),o 20 (.pick (t 16) (t 19) (.const (.bool false))),mV 21 20,og 22 21 true (.mv (t 3)),og 23 21 true (.call V0B [t 22] true),og 24 21 true (.bin 0 .eql (t 23) (i 0)),o 25 (.pick (t 21) (t 24) (.const (.bool false))),mV 0 25]
def Z0U:SF:=⟨0,26,[.tmp 0],
 (qS (gR N0M) (qS (gR N0N) (qS (gR N0O) .ret)))⟩
def N0P:SS:=[o 3 (.box a0C (t 0)),o 6 (.alloc b0k [.int .i64 0,.slice none 0 0,.slice none 0 0,.slice none 0 0]),o 7 (.mv (.const (.bool false)))]
def N0Q:SS:=[lA 11 1 3,mV 12 1,mV 13 2,o 14 (.call V0C [t 11,t 12,t 13] true),o 15 (.un .not (t 14)),mV 16 15,og 17 16 false (.mv (t 2)),og 18 16 false (.call X0t [t 17] true),o 19 (.pick (t 16) (.const (.bool true)) (t 18))]
def H0H:SS:=[o 20 (.build [.int .i64 0,.slice none 0 0,.slice none 0 0,.slice none 0 0] []),⟨none,none,.store 4 (t 6) (t 20)⟩,o 7 (.mv (.const (.bool false)))]
def N0R:SS:=[mV 21 1,mV 22 1,o 23 (.mk a0b 64 [.bool false,.slice none 0 0,.bool false,.slice none 0 0] (t 22) (t 22)),o 24 (.call V0J [t 23] true),o 25 (.build [.int .i64 0,.slice none 0 0,.slice none 0 0,.slice none 0 0] [(0,1,t 21),(3,1,t 24)]),o 8 (.alloc b0k [.int .i64 0,.slice none 0 0,.slice none 0 0,.slice none 0 0]),⟨none,none,.store 4 (t 8) (t 25)⟩]
def N0S:SS:=[mV 26 2,lN 27 26,o 28 (.mv (i 0))]
def Y0i:SS:=[o 29 (.bin 0 .lss (t 28) (t 27))]
def N0T:SS:=[mV 30 28,iA 31 5 26 28,lA 32 5 31,o 10 (.alloc b0F [.int .i64 0,.bool false,.slice none 0 0,.bool false,.slice none 0 0]),mV 9 30,⟨none,none,.store 5 (t 10) (t 32)⟩]
def H0I:SS:=[fA 33 0 10,lD 34 33,o 35 (.bin 0 .eql (t 34) (i 0))]
def N0U:SS:=[fA 36 1 8,lD 37 36,fA 38 0 3,lD 39 38,mV 40 9,iA 41 1 39 40,lD 42 41,o 43 (.call V0J [t 42] false),o 44 (.lit a0A [.slice none 0 0] 1 [(0,1,t 43)]),o 45 (.app a0A 1 24 (t 37) (t 44)),fA 46 2 8,lD 47 46,fA 48 1 10,lA 49 4 48,o 50 (.build [.bool false,.slice none 0 0,.bool false,.slice none 0 0] []),o 51 (.call z0a [t 49,t 50] false),o 52 (.lit a0b [.bool false,.slice none 0 0,.bool false,.slice none 0 0] 1 [(0,4,t 51)]),o 53 (.app a0b 4 64 (t 47) (t 52)),fA 54 1 8,⟨none,none,.store 1 (t 54) (t 45)⟩,fA 55 2 8,⟨none,none,.store 1 (t 55) (t 53)⟩]
def Y0j:SS:=[o 56 (.bin 0 .add (t 28) (i 1)),mV 28 56]
def H0G:SS:=[lA 57 4 8,⟨none,none,.store 4 (t 6) (t 57)⟩,o 7 (.mv (.const (.bool true)))]
def Z0V:SF:=⟨3,58,[.cell 6 true 4,.tmp 7],
 (qS (gR N0P) (qS (qS (gR N0Q) (.cond (t 19) (qS (gR H0H) .ret) .skip)) (qS (gR N0R) (qS (qS (gR N0S) (.block 0 (.loop (qS (gR Y0i) (qS (.cond (t 29) .skip (.exit 0)) (qS (.block 1 (qS (gR N0T) (qS (gR H0I) (.cond (t 35) (.draw N0U [0,1,0,4,0,28,60,124,252,511,0,1024,0,4096,0,29695,62463,131071,4095,524287,1048575,2097151] [(9,11),(9,13)]) .skip)))) (gR Y0j))))))) (qS (gR H0G) .ret)))))⟩
def N0V:SS:=[o 3 (.box a0C (t 0)),o 6 (.mv (.const (.bool false)))]
def N0W:SS:=[lA 8 1 3,mV 9 1,o 10 (.call X0u [t 8,t 9] true),o 11 (.un .not (t 10)),mV 12 11,og 13 12 false (.mv (t 2)),og 14 12 false (.len (t 13)),og 15 12 false (.fa 0 (t 3)),og 16 12 false (.load false 1 (t 15)),og 17 12 false (.len (t 16)),og 18 12 false (.bin 0 .neq (t 14) (t 17)),o 19 (.pick (t 12) (.const (.bool true)) (t 18))]
def I0e:SS:=[o 6 (.mv (.const (.bool false)))]
def N0X:SS:=[o 7 (.mv (i 0))]
def N0Y:SS:=[mV 20 7,mV 21 2,lN 22 21,o 23 (.bin 0 .lss (t 20) (t 22))]
def N0Z:SS:=[mV 26 2,mV 27 7,iA 28 5 26 27,lA 29 5 28,o 30 (.call V0K [t 29] true),o 31 (.un .not (t 30))]
def O0a:SS:=[o 6 (.mv (.const (.bool false)))]
def O0b:SS:=[mV 24 7,o 25 (.bin 0 .add (t 24) (i 1)),mV 7 25]
def O0c:SS:=[o 6 (.mv (.const (.bool true)))]
def Z0W:SF:=⟨3,32,[.tmp 6],
 (qS (gR N0V) (qS (qS (gR N0W) (.cond (t 19) (qS (gR I0e) .ret) .skip)) (qS (qS (gR N0X) (.block 0 (.loop (qS (qS (gR N0Y) (.cond (t 23) .skip (.exit 0))) (qS (.block 1 (qS (gR N0Z) (.cond (t 31) (qS (gR O0a) .ret) .skip))) (gR O0b)))))) (qS (gR O0c) .ret))))⟩
def O0d:SS:=[o 2 (.mv (.const (.bool false)))]
def O0e:SS:=[o 3 (.mv (i 0))]
def O0f:SS:=[mV 4 3,mV 5 0,lN 6 5,o 7 (.bin 0 .lss (t 4) (t 6))]
def O0g:SS:=[mV 10 0,mV 11 3,iA 12 5 10 11,lA 13 5 12,o 14 (.call V0L [t 13] true),o 15 (.fld false 0 1 (t 14)),o 16 (.bin 0 .lss (t 15) (i 0))]
def O0h:SS:=[o 2 (.mv (.const (.bool true)))]
def O0i:SS:=[mV 8 3,o 9 (.bin 0 .add (t 8) (i 1)),mV 3 9]
def O0j:SS:=[o 2 (.mv (.const (.bool false)))]
def Z0X:SF:=⟨1,17,[.tmp 2],
 (qS (gR O0d) (qS (qS (gR O0e) (.block 0 (.loop (qS (qS (gR O0f) (.cond (t 7) .skip (.exit 0))) (qS (.block 1 (qS (gR O0g) (.cond (t 16) (qS (gR O0h) .ret) .skip))) (gR O0i)))))) (qS (gR O0j) .ret)))⟩
def O0k:SS:=[o 2 (.alloc a0C [.slice none 0 0])]
def O0l:SS:=[mV 5 0,o 6 (.call V0D [t 5] true),mV 0 6]
def O0m:SS:=[o 3 (.mv (.const (.slice none 0 0)))]
def O0n:SS:=[o 4 (.mv (i 0))]
def O0o:SS:=[mV 7 4,mV 8 0,o 9 (.bin 0 .lss (t 7) (t 8))]
def O0p:SS:=[mV 12 3,mV 13 0,mV 14 4,o 15 (.call T0T [t 13,t 14,i 1,(.const (.int .i64 (-1))),i 0] true),mV 16 0,mV 17 4,o 18 (.call T0T [t 16,t 17,(.const (.int .i64 (-1))),(.const (.int .i64 (-1))),i 0] true),o 19 (.lit a0A [.slice none 0 0] 2 [(0,1,t 15),(1,1,t 18)]),o 20 (.app a0A 1 24 (t 12) (t 19)),mV 3 20]
def O0q:SS:=[mV 10 4,o 11 (.bin 0 .add (t 10) (i 1)),mV 4 11]
def O0r:SS:=[mV 21 3,o 22 (.call V0E [t 21] true),⟨none,none,.store 1 (t 2) (t 22)⟩]
def Z0Y:SF:=⟨1,23,[.cell 2 true 1],
 (qS (gR O0k) (qS (gR O0l) (qS (gR O0m) (qS (qS (gR O0n) (.block 0 (.loop (qS (qS (gR O0o) (.cond (t 9) .skip (.exit 0))) (qS (.block 1 (gR O0p)) (gR O0q)))))) (qS (gR O0r) .ret)))))⟩
def O0s:SS:=[o 3 (.box a0C (t 0)),o 6 (.mv (.const (.bool false)))]
def O0t:SS:=[lA 7 1 3,mV 8 1,o 9 (.call X0v [t 7,t 8] true),mV 10 9,og 11 10 true (.mv (t 2)),og 12 10 true (.len (t 11)),og 13 10 true (.fa 0 (t 3)),og 14 10 true (.load false 1 (t 13)),og 15 10 true (.len (t 14)),og 16 10 true (.bin 0 .eql (t 12) (t 15)),o 17 (.pick (t 10) (t 16) (.const (.bool false))),mV 18 17,og 19 18 true (.mv (t 2)),og 20 18 true (.call V0M [t 19,.fn X0w] true),og 21 18 true (.un .not (t 20)),o 22 (.pick (t 18) (t 21) (.const (.bool false))),mV 6 22]
def Z0Z:SF:=⟨3,23,[.tmp 6],
 (qS (gR O0s) (qS (gR O0t) .ret))⟩
def O0u:SS:=[o 2 (.mv (i 0))]
def O0v:SS:=[mV 3 0,o 4 (.mnx false (t 3) [i 6]),o 5 (.mnx true (i 0) [t 4]),mV 2 5]
def a1a:SF:=⟨1,6,[.tmp 2],
 (qS (gR O0u) (qS (gR O0v) .ret))⟩
def O0w:SS:=[o 10 (.mv (.const (.slice none 0 0)))]
def O0x:SS:=[o 11 (.mv (.const (.slice none 0 0)))]
def O0y:SS:=[o 12 (.mv (i 0))]
def O0z:SS:=[mV 14 12,mV 15 0,o 16 (.bin 0 .lss (t 14) (t 15))]
def O0A:SS:=[o 13 (.mv (i 0))]
def O0B:SS:=[mV 19 12,mV 20 1,o 21 (.bin 0 .eql (t 19) (t 20))]
def O0C:SS:=[mV 22 2,mV 13 22]
def O0D:SS:=[mV 23 12,mV 24 3,o 25 (.bin 0 .eql (t 23) (t 24))]
def O0E:SS:=[mV 26 4,mV 13 26]
def O0F:SS:=[mV 27 11,mV 28 13,o 29 (.call K0m [t 28] true),o 30 (.lit a0b [.bool false,.slice none 0 0,.bool false,.slice none 0 0] 1 [(0,4,t 29)]),o 31 (.app a0b 4 64 (t 27) (t 30)),mV 11 31]
def I0f:SS:=[mV 17 12,o 18 (.bin 0 .add (t 17) (i 1)),mV 12 18]
def I0g:SS:=[mV 32 11,mV 10 32]
def a1b:SF:=⟨5,33,[.tmp 10],
 (qS (gR O0w) (qS (gR O0x) (qS (qS (gR O0y) (.block 0 (.loop (qS (qS (gR O0z) (.cond (t 16) .skip (.exit 0))) (qS (.block 1 (qS (gR O0A) (qS (qS (gR O0B) (.cond (t 21) (gR O0C) .skip)) (qS (qS (gR O0D) (.cond (t 25) (gR O0E) .skip)) (gR O0F))))) (gR I0f)))))) (qS (gR I0g) .ret))))⟩
def O0G:SS:=[o 2 (.alloc a0C [.slice none 0 0])]
def O0H:SS:=[mV 3 0,mV 4 0,lN 5 4,o 6 (.mnx false (t 5) [i 40]),o 7 (.sl a0A 1 (t 3) none (some (t 6)) none),o 8 (.build [.slice none 0 0] [(0,1,t 7)]),⟨none,none,.store 1 (t 2) (t 8)⟩]
def a1c:SF:=⟨1,9,[.cell 2 true 1],
 (qS (gR O0G) (qS (gR O0H) .ret))⟩
def O0I:SS:=[o 2 (.box a0b (t 0)),o 3 (.box a0b (t 1)),o 4 (.mv (i 0))]
def O0J:SS:=[lA 5 4 2,o 6 (.call v0J [t 5] true),⟨none,none,.store 4 (t 2) (t 6)⟩]
def O0K:SS:=[lA 7 4 3,o 8 (.call v0J [t 7] true),⟨none,none,.store 4 (t 3) (t 8)⟩]
def O0L:SS:=[fA 9 0 2,lA 10 2 9,fA 11 2 3,lA 12 2 11,o 13 (.call A0e [t 10,t 12] false),fA 14 0 3,lA 15 2 14,fA 16 2 2,lA 17 2 16,o 18 (.call A0e [t 15,t 17] true),o 19 (.call X0y [t 13,t 18] true),mV 4 19]
def a1d:SF:=⟨2,20,[.tmp 4],
 (qS (gR O0I) (qS (gR O0J) (qS (gR O0K) (qS (.draw O0L [0,1,0,4,15,0,32,0,128,511,1023,2047] []) .ret))))⟩
def O0M:SS:=[o 2 (.alloc a0a [.bool false,.slice none 0 0])]
def I0h:SS:=[mV 4 0,o 5 (.conv .u64 (t 4)),mV 3 5]
def I0i:SS:=[mV 6 0,o 7 (.bin 0 .lss (t 6) (i 0))]
def O0N:SS:=[mV 8 3,o 9 (.un .neg (t 8)),mV 3 9]
def I0j:SS:=[mV 10 0,o 11 (.bin 0 .lss (t 10) (i 0)),mV 12 3,o 13 (.conv .u32 (t 12)),mV 14 3,o 15 (.bin 0 .shr (t 14) (.const (.int .u64 32))),o 16 (.conv .u32 (t 15)),o 17 (.lit a0j [.int .u32 0] 2 [(0,1,t 13),(1,1,t 16)]),o 18 (.call t0r [t 11,t 17] true),⟨none,none,.store 2 (t 2) (t 18)⟩]
def a1e:SF:=⟨1,19,[.cell 2 true 2],
 (qS (gR O0M) (qS (gR I0h) (qS (qS (gR I0i) (.cond (t 7) (gR O0N) .skip)) (qS (gR I0j) .ret))))⟩
def O0X:SS:=[o 1 (.box b0k (t 0)),o 2 (.alloc b0J [.int .i64 0,.bool false,.slice none 0 0,.bool false,.slice none 0 0,.slice none 0 0,.slice none 0 0,.slice none 0 0]),o 3 (.mv (i 0)),o 4 (.mv (i 0))]
def O0Y:SS:=[lA 7 4 1,o 8 (.call X0z [t 7] true),o 9 (.un .not (t 8))]
def Y0u:SS:=[o 10 (.build [.int .i64 0,.bool false,.slice none 0 0,.bool false,.slice none 0 0,.slice none 0 0,.slice none 0 0,.slice none 0 0] []),⟨none,none,.store 8 (t 2) (t 10)⟩,o 3 (.mv (i 0)),o 4 (.mv (i 1))]
def O0Z:SS:=[lA 12 4 1,o 13 (.call X0A [t 12] true),mV 11 13,o 14 (.ext (t 11) 0),o 15 (.ext (t 11) 1),o 5 (.alloc b0J [.int .i64 0,.bool false,.slice none 0 0,.bool false,.slice none 0 0,.slice none 0 0,.slice none 0 0,.slice none 0 0]),⟨none,none,.store 8 (t 5) (t 14)⟩,mV 6 15]
def P0a:SS:=[lA 16 8 5,mV 17 6,⟨none,none,.store 8 (t 2) (t 16)⟩,mV 3 17,o 4 (.mv (i 0))]
def a1f:SF:=⟨1,18,[.cell 2 true 8,.tmp 3,.tmp 4],
 (qS (gR O0X) (qS (qS (gR O0Y) (.cond (t 9) (qS (gR Y0u) .ret) .skip)) (qS (gR O0Z) (qS (gR P0a) .ret))))⟩
def P0b:SS:=[o 4 (.box a0C (t 0)),o 8 (.alloc b0k [.int .i64 0,.slice none 0 0,.slice none 0 0,.slice none 0 0])]
def P0c:SS:=[mV 14 1,mV 15 2,o 16 (.bin 0 .add (t 14) (t 15)),mV 17 1,mV 18 2,o 19 (.bin 0 .add (t 17) (t 18)),o 20 (.call V0N [t 19] true),o 21 (.build [.int .i64 0,.slice none 0 0,.slice none 0 0,.slice none 0 0] [(0,1,t 16),(3,1,t 20)]),o 9 (.alloc b0k [.int .i64 0,.slice none 0 0,.slice none 0 0,.slice none 0 0]),⟨none,none,.store 4 (t 9) (t 21)⟩]
def P0d:SS:=[o 10 (.mv (i 0))]
def P0e:SS:=[mV 22 10,mV 23 3,lN 24 23,o 25 (.bin 0 .lss (t 22) (t 24))]
def P0f:SS:=[mV 28 3,mV 29 10,iA 30 5 28 29,lA 31 5 30,o 32 (.call V0L [t 31] true),o 11 (.alloc b0F [.int .i64 0,.bool false,.slice none 0 0,.bool false,.slice none 0 0]),⟨none,none,.store 5 (t 11) (t 32)⟩]
def I0p:SS:=[fA 33 0 11,lD 34 33,o 35 (.bin 0 .neq (t 34) (i 0))]
def P0g:SS:=[o 12 (.mv (.const (.slice none 0 0)))]
def P0h:SS:=[o 13 (.mv (i 0))]
def P0i:SS:=[mV 36 13,mV 37 1,o 38 (.bin 0 .lss (t 36) (t 37))]
def P0j:SS:=[mV 41 12,fA 42 0 4,lD 43 42,mV 44 10,iA 45 1 43 44,lD 46 45,mV 47 13,iA 48 4 46 47,lA 49 4 48,o 50 (.call v0J [t 49] true),o 51 (.lit a0b [.bool false,.slice none 0 0,.bool false,.slice none 0 0] 1 [(0,4,t 50)]),o 52 (.app a0b 4 64 (t 41) (t 51)),mV 12 52]
def I0k:SS:=[mV 39 13,o 40 (.bin 0 .add (t 39) (i 1)),mV 13 40]
def I0l:SS:=[mV 53 12,mV 54 2,o 55 (.call V0N [t 54] true),o 56 (.app a0b 4 64 (t 53) (t 55)),mV 12 56]
def I0m:SS:=[fA 57 1 9,lD 58 57,mV 59 12,o 60 (.lit a0A [.slice none 0 0] 1 [(0,1,t 59)]),o 61 (.app a0A 1 24 (t 58) (t 60)),fA 62 1 9,⟨none,none,.store 1 (t 62) (t 61)⟩]
def I0n:SS:=[fA 63 2 9,lD 64 63,fA 65 1 11,lA 66 4 65,o 67 (.lit a0b [.bool false,.slice none 0 0,.bool false,.slice none 0 0] 1 [(0,4,t 66)]),o 68 (.app a0b 4 64 (t 64) (t 67)),fA 69 2 9,⟨none,none,.store 1 (t 69) (t 68)⟩]
def v0a:SS:=[mV 26 10,o 27 (.bin 0 .add (t 26) (i 1)),mV 10 27]
def I0o:SS:=[lA 70 4 9,⟨none,none,.store 4 (t 8) (t 70)⟩]
def a1g:SF:=⟨4,71,[.cell 8 true 4],
 (qS (gR P0b) (qS (gR P0c) (qS (qS (gR P0d) (.block 0 (.loop (qS (qS (gR P0e) (.cond (t 25) .skip (.exit 0))) (qS (.block 1 (qS (gR P0f) (qS (qS (gR I0p) (.cond (t 35) (.exit 1) .skip)) (qS (gR P0g) (qS (qS (gR P0h) (.block 2 (.loop (qS (qS (gR P0i) (.cond (t 38) .skip (.exit 2))) (qS (.block 3 (gR P0j)) (gR I0k)))))) (qS (gR I0l) (qS (gR I0m) (gR I0n)))))))) (gR v0a)))))) (qS (gR I0o) .ret))))⟩
def P0k:SS:=[o 1 (.box b0k (t 0)),o 2 (.mv (.const (.bool false)))]
def P0l:SS:=[fA 4 0 1,lD 5 4,o 6 (.bin 0 .lss (t 5) (i 0)),mV 7 6,og 8 7 false (.fa 0 (t 1)),og 9 7 false (.load false 1 (t 8)),og 10 7 false (.bin 0 .gtr (t 9) (i 60)),o 11 (.pick (t 7) (.const (.bool true)) (t 10)),mV 12 11,og 13 12 false (.fa 1 (t 1)),og 14 12 false (.load false 1 (t 13)),og 15 12 false (.len (t 14)),og 16 12 false (.bin 0 .gtr (t 15) (i 60)),o 17 (.pick (t 12) (.const (.bool true)) (t 16)),mV 18 17,og 19 18 false (.fa 1 (t 1)),og 20 18 false (.load false 1 (t 19)),og 21 18 false (.len (t 20)),og 22 18 false (.fa 2 (t 1)),og 23 18 false (.load false 1 (t 22)),og 24 18 false (.len (t 23)),og 25 18 false (.bin 0 .neq (t 21) (t 24)),o 26 (.pick (t 18) (.const (.bool true)) (t 25)),mV 27 26,og 28 27 false (.fa 3 (t 1)),og 29 27 false (.load false 1 (t 28)),og 30 27 false (.len (t 29)),og 31 27 false (.fa 0 (t 1)),og 32 27 false (.load false 1 (t 31)),og 33 27 false (.bin 0 .neq (t 30) (t 32)),o 34 (.pick (t 27) (.const (.bool true)) (t 33))]
def Y0v:SS:=[o 2 (.mv (.const (.bool false)))]
def P0m:SS:=[o 3 (.mv (i 0))]
def P0n:SS:=[mV 35 3,fA 36 1 1,lD 37 36,lN 38 37,o 39 (.bin 0 .lss (t 35) (t 38))]
def P0o:SS:=[fA 42 1 1,lD 43 42,mV 44 3,iA 45 1 43 44,lD 46 45,lN 47 46,fA 48 0 1,lD 49 48,o 50 (.bin 0 .neq (t 47) (t 49))]
def Y0w:SS:=[o 2 (.mv (.const (.bool false)))]
def P0p:SS:=[mV 40 3,o 41 (.bin 0 .add (t 40) (i 1)),mV 3 41]
def P0q:SS:=[o 2 (.mv (.const (.bool true)))]
def a1h:SF:=⟨1,51,[.tmp 2],
 (qS (gR P0k) (qS (qS (gR P0l) (.cond (t 34) (qS (gR Y0v) .ret) .skip)) (qS (qS (gR P0m) (.block 0 (.loop (qS (qS (gR P0n) (.cond (t 39) .skip (.exit 0))) (qS (.block 1 (qS (.draw P0o [0,1,0,7,15,31,0,64,255] []) (.cond (t 50) (qS (gR Y0w) .ret) .skip))) (gR P0p)))))) (qS (gR P0q) .ret))))⟩
def P0r:SS:=[o 2 (.box b0k (t 0)),o 4 (.mv (.const (.slice none 0 0))),o 5 (.mv (.const (.bool false)))]
def P0s:SS:=[mV 9 1,lN 10 9,fA 11 1 2,lD 12 11,lN 13 12,o 14 (.bin 0 .neq (t 10) (t 13))]
def Y0x:SS:=[o 4 (.mv (.const (.slice none 0 0))),o 5 (.mv (.const (.bool false)))]
def P0t:SS:=[o 6 (.mv (i 0))]
def P0u:SS:=[mV 15 6,mV 16 1,lN 17 16,o 18 (.bin 0 .lss (t 15) (t 17))]
def P0v:SS:=[mV 21 1,mV 22 6,iA 23 4 21 22,lA 24 4 23,o 25 (.call x0O [t 24] true),o 26 (.bin 0 .lss (t 25) (i 0))]
def Y0y:SS:=[o 4 (.mv (.const (.slice none 0 0))),o 5 (.mv (.const (.bool false)))]
def P0w:SS:=[mV 19 6,o 20 (.bin 0 .add (t 19) (i 1)),mV 6 20]
def P0x:SS:=[mV 28 1,fA 29 1 2,lD 30 29,fA 31 0 2,lD 32 31,o 33 (.call X0B [t 28,t 30,t 32] true),mV 27 33,o 34 (.ext (t 27) 0),o 35 (.ext (t 27) 1),mV 7 34,mV 8 35]
def P0y:SS:=[mV 36 7,mV 37 8,o 38 (.bin 0 .eql (t 37) (i 0)),mV 4 36,mV 5 38]
def a1i:SF:=⟨2,39,[.tmp 4,.tmp 5],
 (qS (gR P0r) (qS (qS (gR P0s) (.cond (t 14) (qS (gR Y0x) .ret) .skip)) (qS (qS (gR P0t) (.block 0 (.loop (qS (qS (gR P0u) (.cond (t 18) .skip (.exit 0))) (qS (.block 1 (qS (gR P0v) (.cond (t 26) (qS (gR Y0y) .ret) .skip))) (gR P0w)))))) (qS (gR P0x) (qS (gR P0y) .ret)))))⟩
def P0z:SS:=[o 2 (.box b0k (t 0)),o 4 (.mv (.const (.bool false)))]
def P0A:SS:=[lA 8 4 2,o 9 (.call V0F [t 8] true),o 10 (.un .not (t 9)),mV 11 10,og 12 11 false (.mv (t 1)),og 13 11 false (.len (t 12)),og 14 11 false (.fa 0 (t 2)),og 15 11 false (.load false 1 (t 14)),og 16 11 false (.bin 0 .neq (t 13) (t 15)),o 17 (.pick (t 11) (.const (.bool true)) (t 16))]
def Y0z:SS:=[o 4 (.mv (.const (.bool false)))]
def P0B:SS:=[fA 19 1 2,lD 20 19,mV 21 1,o 22 (.call V0I [t 20,t 21] true),mV 18 22,o 23 (.ext (t 18) 0),o 24 (.ext (t 18) 1),mV 5 23,mV 6 24]
def P0C:SS:=[o 7 (.mv (i 0))]
def P0D:SS:=[mV 25 7,mV 26 5,lN 27 26,o 28 (.bin 0 .lss (t 25) (t 27))]
def P0E:SS:=[mV 31 5,mV 32 7,iA 33 4 31 32,lA 34 4 33,fA 35 2 2,lD 36 35,mV 37 7,iA 38 4 36 37,lA 39 4 38,o 40 (.call K0n [t 34,t 39] true),o 41 (.bin 0 .gtr (t 40) (i 0))]
def Y0A:SS:=[o 4 (.mv (.const (.bool false)))]
def P0F:SS:=[mV 29 7,o 30 (.bin 0 .add (t 29) (i 1)),mV 7 30]
def P0G:SS:=[o 4 (.mv (.const (.bool true)))]
def a1j:SF:=⟨2,42,[.tmp 4],
 (qS (gR P0z) (qS (qS (gR P0A) (.cond (t 17) (qS (gR Y0z) .ret) .skip)) (qS (gR P0B) (qS (qS (gR P0C) (.block 0 (.loop (qS (qS (gR P0D) (.cond (t 28) .skip (.exit 0))) (qS (.block 1 (qS (.draw P0E [0,0,3,7,0,16,0,112,240,511,1023] []) (.cond (t 41) (qS (gR Y0A) .ret) .skip))) (gR P0F)))))) (qS (gR P0G) .ret)))))⟩
def P0H:SS:=[o 4 (.alloc a0b [.bool false,.slice none 0 0,.bool false,.slice none 0 0]),o 5 (.mv (i 0))]
def P0I:SS:=[mV 8 0,lN 9 8,mV 10 1,lN 11 10,o 12 (.bin 0 .neq (t 9) (t 11))]
def Y0B:SS:=[o 13 (.build [.bool false,.slice none 0 0,.bool false,.slice none 0 0] []),⟨none,none,.store 4 (t 4) (t 13)⟩,o 5 (.mv (i 1))]
def P0J:SS:=[o 14 (.call M0V [] true),o 6 (.alloc a0b [.bool false,.slice none 0 0,.bool false,.slice none 0 0]),⟨none,none,.store 4 (t 6) (t 14)⟩]
def P0K:SS:=[o 7 (.mv (i 0))]
def P0L:SS:=[mV 15 7,mV 16 0,lN 17 16,o 18 (.bin 0 .lss (t 15) (t 17))]
def P0M:SS:=[mV 21 0,mV 22 7,iA 23 4 21 22,lA 24 4 23,o 25 (.call v0J [t 24] true),o 26 (.fld true 0 2 (t 25)),o 27 (.fld false 1 1 (t 26)),lN 28 27,o 29 (.bin 0 .gtr (t 28) (i 0)),mV 30 29,og 31 30 true (.mv (t 1)),og 32 30 true (.mv (t 7)),og 33 30 true (.ia 4 (t 31) (t 32)),og 34 30 true (.load true 4 (t 33)),og 35 30 true (.call v0J [t 34] true),og 36 30 true (.fld true 0 2 (t 35)),og 37 30 true (.fld false 1 1 (t 36)),og 38 30 true (.len (t 37)),og 39 30 true (.bin 0 .gtr (t 38) (i 0)),o 40 (.pick (t 30) (t 39) (.const (.bool false)))]
def P0N:SS:=[lA 41 4 6,mV 42 0,mV 43 7,iA 44 4 42 43,lA 45 4 44,mV 46 1,mV 47 7,iA 48 4 46 47,lA 49 4 48,o 50 (.call V0P [t 45,t 49] false),o 51 (.call V0O [t 41,t 50] true),⟨none,none,.store 4 (t 6) (t 51)⟩]
def x0c:SS:=[mV 19 7,o 20 (.bin 0 .add (t 19) (i 1)),mV 7 20]
def P0O:SS:=[lA 52 4 6,⟨none,none,.store 4 (t 4) (t 52)⟩,o 5 (.mv (i 0))]
def a1k:SF:=⟨2,53,[.cell 4 true 4,.tmp 5],
 (qS (gR P0H) (qS (qS (gR P0I) (.cond (t 12) (qS (gR Y0B) .ret) .skip)) (qS (gR P0J) (qS (qS (gR P0K) (.block 0 (.loop (qS (qS (gR P0L) (.cond (t 18) .skip (.exit 0))) (qS (.block 1 (qS (gR P0M) (.cond (t 40) (.draw P0N [0,0,0,6,14,0,0,96,224,510,1023,2047] []) .skip))) (gR x0c)))))) (qS (gR P0O) .ret)))))⟩
def P0P:SS:=[o 4 (.mv (.const (.bool false)))]
def P0Q:SS:=[mV 6 0,lN 7 6,mV 8 1,lN 9 8,o 10 (.bin 0 .neq (t 7) (t 9))]
def Y0C:SS:=[o 4 (.mv (.const (.bool false)))]
def P0R:SS:=[o 5 (.mv (i 0))]
def P0S:SS:=[mV 11 5,mV 12 0,lN 13 12,o 14 (.bin 0 .lss (t 11) (t 13))]
def P0T:SS:=[mV 17 0,mV 18 5,iA 19 4 17 18,lA 20 4 19,mV 21 1,mV 22 5,iA 23 4 21 22,lA 24 4 23,o 25 (.call K0n [t 20,t 24] true),o 26 (.bin 0 .neq (t 25) (i 0))]
def Y0D:SS:=[o 4 (.mv (.const (.bool false)))]
def P0U:SS:=[mV 15 5,o 16 (.bin 0 .add (t 15) (i 1)),mV 5 16]
def P0V:SS:=[o 4 (.mv (.const (.bool true)))]
def a1l:SF:=⟨2,27,[.tmp 4],
 (qS (gR P0P) (qS (qS (gR P0Q) (.cond (t 10) (qS (gR Y0C) .ret) .skip)) (qS (qS (gR P0R) (.block 0 (.loop (qS (qS (gR P0S) (.cond (t 14) .skip (.exit 0))) (qS (.block 1 (qS (.draw P0T [0,0,3,7,0,0,48,112,255,511] []) (.cond (t 26) (qS (gR Y0D) .ret) .skip))) (gR P0U)))))) (qS (gR P0V) .ret))))⟩
def P0W:SS:=[o 4 (.mv (.const (.slice none 0 0))),o 5 (.mv (i 0))]
def P0X:SS:=[o 6 (.mv (.const (.slice none 0 0)))]
def P0Y:SS:=[o 7 (.mv (i 0))]
def P0Z:SS:=[mV 10 7,mV 11 0,lN 12 11,o 13 (.bin 0 .lss (t 10) (t 12))]
def Q0a:SS:=[mV 17 0,mV 18 7,iA 19 1 17 18,lD 20 19,mV 21 1,o 22 (.call K0o [t 20,t 21] true),mV 16 22,o 23 (.ext (t 16) 0),o 24 (.ext (t 16) 1),o 8 (.alloc a0b [.bool false,.slice none 0 0,.bool false,.slice none 0 0]),⟨none,none,.store 4 (t 8) (t 23)⟩,mV 9 24]
def Q0b:SS:=[mV 25 9,o 26 (.bin 0 .neq (t 25) (i 0))]
def Y0E:SS:=[mV 27 9,o 4 (.mv (.const (.slice none 0 0))),mV 5 27]
def Q0c:SS:=[mV 28 6,lA 29 4 8,o 30 (.lit a0b [.bool false,.slice none 0 0,.bool false,.slice none 0 0] 1 [(0,4,t 29)]),o 31 (.app a0b 4 64 (t 28) (t 30)),mV 6 31]
def Q0d:SS:=[mV 14 7,o 15 (.bin 0 .add (t 14) (i 1)),mV 7 15]
def Q0e:SS:=[mV 32 6,mV 4 32,o 5 (.mv (i 0))]
def a1m:SF:=⟨2,33,[.tmp 4,.tmp 5],
 (qS (gR P0W) (qS (gR P0X) (qS (qS (gR P0Y) (.block 0 (.loop (qS (qS (gR P0Z) (.cond (t 13) .skip (.exit 0))) (qS (.block 1 (qS (gR Q0a) (qS (qS (gR Q0b) (.cond (t 26) (qS (gR Y0E) .ret) .skip)) (gR Q0c)))) (gR Q0d)))))) (qS (gR Q0e) .ret))))⟩
def Q0f:SS:=[o 2 (.mv (.const (.bool false)))]
def Q0g:SS:=[mV 3 0,o 4 (.call V0M [t 3,.fn X0C] true),mV 2 4]
def a1n:SF:=⟨1,5,[.tmp 2],
 (qS (gR Q0f) (qS (gR Q0g) .ret))⟩
def Q0h:SS:=[o 2 (.mv (.const (.slice none 0 0)))]
def Q0i:SS:=[o 3 (.mv (.const (.slice none 0 0)))]
def Q0j:SS:=[mV 6 0,lN 7 6,o 8 (.mv (i 0))]
def Y0F:SS:=[o 9 (.bin 0 .lss (t 8) (t 7))]
def Q0k:SS:=[iA 10 4 6 8,lA 11 4 10,o 5 (.alloc a0b [.bool false,.slice none 0 0,.bool false,.slice none 0 0]),⟨none,none,.store 4 (t 5) (t 11)⟩]
def Q0l:SS:=[mV 12 3,lA 13 4 5,o 14 (.build [.bool false,.slice none 0 0,.bool false,.slice none 0 0] []),o 15 (.call z0a [t 13,t 14] true),o 16 (.lit a0b [.bool false,.slice none 0 0,.bool false,.slice none 0 0] 1 [(0,4,t 15)]),o 17 (.app a0b 4 64 (t 12) (t 16)),mV 3 17]
def Y0G:SS:=[o 18 (.bin 0 .add (t 8) (i 1)),mV 8 18]
def Q0m:SS:=[mV 19 3,mV 2 19]
def a1o:SF:=⟨1,20,[.tmp 2],
 (qS (gR Q0h) (qS (gR Q0i) (qS (qS (gR Q0j) (.block 0 (.loop (qS (gR Y0F) (qS (.cond (t 9) .skip (.exit 0)) (qS (.block 1 (qS (gR Q0k) (gR Q0l))) (gR Y0G))))))) (qS (gR Q0m) .ret))))⟩
def Q0n:SS:=[o 2 (.box a0b (t 0)),o 3 (.box a0b (t 1)),o 4 (.alloc a0b [.bool false,.slice none 0 0,.bool false,.slice none 0 0])]
def Q0o:SS:=[lA 5 4 2,o 6 (.call A0f [t 5] false),lA 7 4 3,o 8 (.call A0f [t 7] true),⟨none,none,.store 4 (t 2) (t 6)⟩,⟨none,none,.store 4 (t 3) (t 8)⟩]
def Q0p:SS:=[fA 9 0 2,lA 10 2 9,fA 11 2 3,lA 12 2 11,o 13 (.call r0G [t 10,t 12] false),fA 14 0 3,lA 15 2 14,fA 16 2 2,lA 17 2 16,o 18 (.call r0G [t 15,t 17] false),o 19 (.lit a0a [.bool false,.slice none 0 0] 1 [(0,2,t 18)]),o 20 (.call X0D [.fn J0G,t 13,t 19] false),fA 21 2 2,lA 22 2 21,fA 23 2 3,lA 24 2 23,o 25 (.call r0G [t 22,t 24] true),o 26 (.call V0Q [t 20,t 25] true),⟨none,none,.store 4 (t 4) (t 26)⟩]
def a1p:SF:=⟨2,27,[.cell 4 true 4],
 (qS (gR Q0n) (qS (.draw Q0o [0,1,0,7,15,31] []) (qS (.draw Q0p [0,1,0,4,15,0,32,0,128,511,1023,2047,0,4096,0,16384,65535,131071,262143] []) .ret)))⟩
def Q0q:SS:=[o 2 (.box a0C (t 0)),o 4 (.mv (.const (.bool false)))]
def s0w:SS:=[mV 7 1,o 8 (.bin 0 .lss (t 7) (i 0)),mV 9 8,og 10 9 false (.mv (t 1)),og 11 9 false (.bin 0 .gtr (t 10) (i 6)),o 12 (.pick (t 9) (.const (.bool true)) (t 11)),mV 13 12,og 14 13 false (.fa 0 (t 2)),og 15 13 false (.load false 1 (t 14)),og 16 13 false (.len (t 15)),og 17 13 false (.bin 0 .gtr (t 16) (i 40)),o 18 (.pick (t 13) (.const (.bool true)) (t 17))]
def x0d:SS:=[o 4 (.mv (.const (.bool false)))]
def Q0r:SS:=[o 5 (.mv (i 0))]
def Q0s:SS:=[mV 19 5,fA 20 0 2,lD 21 20,lN 22 21,o 23 (.bin 0 .lss (t 19) (t 22))]
def I0u:SS:=[fA 26 0 2,lD 27 26,mV 28 5,iA 29 1 27 28,lD 30 29,lN 31 30,mV 32 1,o 33 (.bin 0 .neq (t 31) (t 32))]
def Q0t:SS:=[o 4 (.mv (.const (.bool false)))]
def Q0u:SS:=[o 6 (.mv (i 0))]
def Q0v:SS:=[mV 34 6,mV 35 1,o 36 (.bin 0 .lss (t 34) (t 35))]
def Q0w:SS:=[fA 39 0 2,lD 40 39,mV 41 5,iA 42 1 40 41,lD 43 42,mV 44 6,iA 45 4 43 44,lA 46 4 45,o 47 (.call T0V [t 46] true),o 48 (.un .not (t 47))]
def I0q:SS:=[o 4 (.mv (.const (.bool false)))]
def I0r:SS:=[mV 37 6,o 38 (.bin 0 .add (t 37) (i 1)),mV 6 38]
def I0s:SS:=[mV 24 5,o 25 (.bin 0 .add (t 24) (i 1)),mV 5 25]
def I0t:SS:=[o 4 (.mv (.const (.bool true)))]
def a1q:SF:=⟨2,49,[.tmp 4],
 (qS (gR Q0q) (qS (qS (gR s0w) (.cond (t 18) (qS (gR x0d) .ret) .skip)) (qS (qS (gR Q0r) (.block 0 (.loop (qS (qS (gR Q0s) (.cond (t 23) .skip (.exit 0))) (qS (.block 1 (qS (qS (gR I0u) (.cond (t 33) (qS (gR Q0t) .ret) .skip)) (qS (gR Q0u) (.block 2 (.loop (qS (qS (gR Q0v) (.cond (t 36) .skip (.exit 2))) (qS (.block 3 (qS (gR Q0w) (.cond (t 48) (qS (gR I0q) .ret) .skip))) (gR I0r)))))))) (gR I0s)))))) (qS (gR I0t) .ret))))⟩
def Q0x:SS:=[o 1 (.box b0F (t 0)),o 2 (.mv (.const (.bool false)))]
def s0x:SS:=[fA 3 0 1,lD 4 3,o 5 (.bin 0 .eql (t 4) (i 0))]
def Q0y:SS:=[fA 6 1 1,lA 7 4 6,o 8 (.call T0V [t 7] true),mV 2 8]
def x0e:SS:=[fA 9 0 1,lD 10 9,o 11 (.bin 0 .eql (t 10) (i 1)),mV 12 11,og 13 12 false (.fa 0 (t 1)),og 14 12 false (.load false 1 (t 13)),og 15 12 false (.bin 0 .eql (t 14) (.const (.int .i64 (-1)))),o 16 (.pick (t 12) (.const (.bool true)) (t 15)),mV 17 16,og 18 17 true (.fa 1 (t 1)),og 19 17 true (.load true 4 (t 18)),og 20 17 true (.call X0E [t 19] true),o 21 (.pick (t 17) (t 20) (.const (.bool false))),mV 2 21]
def a1r:SF:=⟨1,22,[.tmp 2],
 (qS (gR Q0x) (qS (qS (gR s0x) (.cond (t 5) (qS (gR Q0y) .ret) .skip)) (qS (gR x0e) .ret)))⟩
def Q0z:SS:=[o 1 (.box b0F (t 0)),o 2 (.alloc b0F [.int .i64 0,.bool false,.slice none 0 0,.bool false,.slice none 0 0])]
def Q0A:SS:=[lA 3 5 1,o 4 (.call V0K [t 3] true),o 5 (.un .not (t 4))]
def Q0B:SS:=[o 6 (.call M0V [] true),o 7 (.build [.int .i64 0,.bool false,.slice none 0 0,.bool false,.slice none 0 0] [(1,4,t 6)]),⟨none,none,.store 5 (t 2) (t 7)⟩]
def I0v:SS:=[fA 8 0 1,lD 9 8,o 10 (.bin 0 .neq (t 9) (i 0))]
def Q0C:SS:=[lA 11 5 1,⟨none,none,.store 5 (t 2) (t 11)⟩]
def Q0D:SS:=[fA 12 1 1,lA 13 4 12,o 14 (.call v0J [t 13] true),o 15 (.build [.int .i64 0,.bool false,.slice none 0 0,.bool false,.slice none 0 0] [(1,4,t 14)]),⟨none,none,.store 5 (t 2) (t 15)⟩]
def a1s:SF:=⟨1,16,[.cell 2 true 5],
 (qS (gR Q0z) (qS (qS (gR Q0A) (.cond (t 5) (qS (gR Q0B) .ret) .skip)) (qS (qS (gR I0v) (.cond (t 10) (qS (gR Q0C) .ret) .skip)) (qS (gR Q0D) .ret))))⟩
def Q0E:SS:=[o 2 (.box a0C (t 0)),o 4 (.mv (.const (.bool false)))]
def s0y:SS:=[mV 9 1,o 10 (.bin 0 .lss (t 9) (i 0)),mV 11 10,og 12 11 false (.mv (t 1)),og 13 11 false (.bin 0 .gtr (t 12) (i 6)),o 14 (.pick (t 11) (.const (.bool true)) (t 13)),mV 15 14,og 16 15 false (.fa 0 (t 2)),og 17 15 false (.load false 1 (t 16)),og 18 15 false (.len (t 17)),og 19 15 false (.bin 0 .gtr (t 18) (i 40)),o 20 (.pick (t 15) (.const (.bool true)) (t 19))]
def x0f:SS:=[o 4 (.mv (.const (.bool false)))]
def Q0F:SS:=[fA 21 0 2,lD 22 21,lN 23 22,o 24 (.mv (i 0))]
def Y0H:SS:=[o 25 (.bin 0 .lss (t 24) (t 23))]
def I0A:SS:=[iA 26 1 22 24,lD 27 26,mV 6 27]
def I0B:SS:=[mV 28 6,lN 29 28,mV 30 1,o 31 (.bin 0 .neq (t 29) (t 30))]
def Q0G:SS:=[o 4 (.mv (.const (.bool false)))]
def Q0H:SS:=[mV 32 6,lN 33 32,o 34 (.mv (i 0))]
def Y0I:SS:=[o 35 (.bin 0 .lss (t 34) (t 33))]
def I0w:SS:=[iA 36 4 32 34,lA 37 4 36,o 8 (.alloc a0b [.bool false,.slice none 0 0,.bool false,.slice none 0 0]),⟨none,none,.store 4 (t 8) (t 37)⟩]
def I0x:SS:=[lA 38 4 8,o 39 (.call T0W [t 38] true),o 40 (.un .not (t 39))]
def I0y:SS:=[o 4 (.mv (.const (.bool false)))]
def U0V:SS:=[o 41 (.bin 0 .add (t 34) (i 1)),mV 34 41]
def U0W:SS:=[o 42 (.bin 0 .add (t 24) (i 1)),mV 24 42]
def I0z:SS:=[o 4 (.mv (.const (.bool true)))]
def a1t:SF:=⟨2,43,[.tmp 4],
 (qS (gR Q0E) (qS (qS (gR s0y) (.cond (t 20) (qS (gR x0f) .ret) .skip)) (qS (qS (gR Q0F) (.block 0 (.loop (qS (gR Y0H) (qS (.cond (t 25) .skip (.exit 0)) (qS (.block 1 (qS (gR I0A) (qS (qS (gR I0B) (.cond (t 31) (qS (gR Q0G) .ret) .skip)) (qS (gR Q0H) (.block 2 (.loop (qS (gR Y0I) (qS (.cond (t 35) .skip (.exit 2)) (qS (.block 3 (qS (gR I0w) (qS (gR I0x) (.cond (t 40) (qS (gR I0y) .ret) .skip)))) (gR U0V)))))))))) (gR U0W))))))) (qS (gR I0z) .ret))))⟩
def Q0I:SS:=[o 4 (.mv (.const (.bool false)))]
def Q0J:SS:=[mV 5 0,mV 6 1,o 7 (.call X0F [t 5,t 6] true),o 8 (.bin 0 .geq (t 7) (i 0)),mV 4 8]
def a1u:SF:=⟨2,9,[.tmp 4],
 (qS (gR Q0I) (qS (gR Q0J) .ret))⟩
def Q0K:SS:=[o 1 (.box b0F (t 0)),o 2 (.mv (.const (.bool false)))]
def Q0L:SS:=[lA 3 5 1,o 4 (.call X0x [t 3] true),o 5 (.un .not (t 4)),mV 2 5]
def a1v:SF:=⟨1,6,[.tmp 2],
 (qS (gR Q0K) (qS (gR Q0L) .ret))⟩
def Q0M:SS:=[o 1 (.box b0F (t 0)),o 2 (.mv (.const (.bool false)))]
def Q0N:SS:=[fA 3 0 1,lD 4 3]
def Q0O:SS:=[o 6 (.bin 0 .eql (t 4) (.const (.int .i64 (-1)))),mV 5 6]
def x0g:SS:=[o 7 (.bin 0 .eql (t 4) (i 1)),mV 5 7]
def I0C:SS:=[fA 8 1 1,lA 9 4 8,o 10 (.call X0G [t 9] true),mV 2 10]
def I0D:SS:=[o 12 (.bin 0 .eql (t 4) (i 0)),mV 11 12]
def Q0P:SS:=[fA 13 1 1,lA 14 4 13,o 15 (.call T0W [t 14] true),mV 2 15]
def Q0Q:SS:=[o 2 (.mv (.const (.bool false)))]
def a1w:SF:=⟨1,16,[.tmp 2],
 (qS (gR Q0M) (qS (qS (gR Q0N) (.block 0 (qS (qS (gR Q0O) (.cond (t 5) .skip (gR x0g))) (.cond (t 5) (qS (gR I0C) .ret) (qS (gR I0D) (.cond (t 11) (qS (gR Q0P) .ret) .skip)))))) (qS (gR Q0Q) .ret)))⟩
def Q0R:SS:=[o 1 (.box a0b (t 0)),o 2 (.alloc a0b [.bool false,.slice none 0 0,.bool false,.slice none 0 0])]
def Q0S:SS:=[lA 3 4 1,o 4 (.call T0V [t 3] true),o 5 (.un .not (t 4)),mV 6 5,og 7 6 false (.fa 2 (t 1)),og 8 6 false (.fa 1 (t 7)),og 9 6 false (.load false 1 (t 8)),og 10 6 false (.len (t 9)),og 11 6 false (.bin 0 .eql (t 10) (i 0)),o 12 (.pick (t 6) (.const (.bool true)) (t 11))]
def I0E:SS:=[o 13 (.call M0V [] true),⟨none,none,.store 4 (t 2) (t 13)⟩]
def Q0T:SS:=[fA 14 0 1,fA 15 0 14,lD 16 15,fA 17 0 1,fA 18 1 17,lD 19 18,o 20 (.call t0r [t 16,t 19] false),fA 21 2 1,fA 22 1 21,lD 23 22,o 24 (.call t0r [(.const (.bool false)),t 23] true),o 25 (.build [.bool false,.slice none 0 0,.bool false,.slice none 0 0] [(0,2,t 20),(2,2,t 24)]),⟨none,none,.store 4 (t 2) (t 25)⟩]
def a1x:SF:=⟨1,26,[.cell 2 true 4],
 (qS (gR Q0R) (qS (qS (gR Q0S) (.cond (t 12) (qS (gR I0E) .ret) .skip)) (qS (.draw Q0T [0,1,3,0,8,24,63,0,128,384,1023,2047,4095] []) .ret)))⟩
def Q0U:SS:=[o 2 (.box a0a (t 0)),o 3 (.box a0a (t 1)),o 4 (.mv (i 0))]
def Q0V:SS:=[lA 6 2 2,lA 7 2 3,o 8 (.call z0I [t 6,t 7] true),o 5 (.alloc a0a [.bool false,.slice none 0 0]),⟨none,none,.store 2 (t 5) (t 8)⟩]
def x0h:SS:=[fA 9 1 5,lD 10 9,lN 11 10,o 12 (.bin 0 .eql (t 11) (i 0))]
def Q0W:SS:=[o 4 (.mv (i 0))]
def I0F:SS:=[fA 13 0 5,lD 14 13]
def Q0X:SS:=[o 4 (.mv (.const (.int .i64 (-1))))]
def Q0Y:SS:=[o 4 (.mv (i 1))]
def a1y:SF:=⟨2,15,[.tmp 4],
 (qS (gR Q0U) (qS (gR Q0V) (qS (qS (gR x0h) (.cond (t 12) (qS (gR Q0W) .ret) .skip)) (qS (qS (gR I0F) (.cond (t 14) (qS (gR Q0X) .ret) .skip)) (qS (gR Q0Y) .ret)))))⟩
def Q0Z:SS:=[o 2 (.box a0a (t 0)),o 3 (.box a0a (t 1)),o 4 (.alloc a0a [.bool false,.slice none 0 0])]
def R0a:SS:=[lA 5 2 2,o 6 (.call i0t [t 5] true),⟨none,none,.store 2 (t 2) (t 6)⟩]
def R0b:SS:=[lA 7 2 3,o 8 (.call i0t [t 7] true),⟨none,none,.store 2 (t 3) (t 8)⟩]
def R0c:SS:=[fA 9 0 2,lD 10 9,fA 11 0 3,lD 12 11,o 13 (.bin 1 .neq (t 10) (t 12)),fA 14 1 2,lD 15 14,fA 16 1 3,lD 17 16,o 18 (.call z0J [t 15,t 17] false),o 19 (.call t0r [t 13,t 18] true),⟨none,none,.store 2 (t 4) (t 19)⟩]
def a1z:SF:=⟨2,20,[.cell 4 true 2],
 (qS (gR Q0Z) (qS (gR R0a) (qS (gR R0b) (qS (.draw R0c [0,1,0,4,15,0,32,0,128,480,1023,2047] []) .ret))))⟩
def R0d:SS:=[o 4 (.alloc a0a [.bool false,.slice none 0 0])]
def R0e:SS:=[mV 5 1,o 6 (.call l0S [t 5] true),mV 1 6]
def I0G:SS:=[mV 7 1,lN 8 7,o 9 (.bin 0 .eql (t 8) (i 0))]
def R0f:SS:=[o 10 (.build [.bool false,.slice none 0 0] []),⟨none,none,.store 2 (t 4) (t 10)⟩]
def R0g:SS:=[mV 11 0,o 12 (.lit a0j [.int .u32 0] 0 []),mV 13 1,o 14 (.app a0j 1 4 (t 12) (t 13)),o 15 (.build [.bool false,.slice none 0 0] [(0,1,t 11),(1,1,t 14)]),⟨none,none,.store 2 (t 4) (t 15)⟩]
def a1A:SF:=⟨2,16,[.cell 4 true 2],
 (qS (gR R0d) (qS (gR R0e) (qS (qS (gR I0G) (.cond (t 9) (qS (gR R0f) .ret) .skip)) (qS (gR R0g) .ret))))⟩
def R0h:SS:=[o 1 (.box b0k (t 0)),o 2 (.mv (.const (.bool false)))]
def m0W:SS:=[fA 3 0 1,lD 4 3,o 5 (.bin 0 .lss (t 4) (i 0)),mV 6 5,og 7 6 false (.fa 0 (t 1)),og 8 6 false (.load false 1 (t 7)),og 9 6 false (.bin 0 .gtr (t 8) (i 60)),o 10 (.pick (t 6) (.const (.bool true)) (t 9)),mV 11 10,og 12 11 false (.fa 1 (t 1)),og 13 11 false (.load false 1 (t 12)),og 14 11 false (.len (t 13)),og 15 11 false (.bin 0 .gtr (t 14) (i 60)),o 16 (.pick (t 11) (.const (.bool true)) (t 15)),mV 17 16,og 18 17 false (.fa 2 (t 1)),og 19 17 false (.load false 1 (t 18)),og 20 17 false (.len (t 19)),og 21 17 false (.fa 1 (t 1)),og 22 17 false (.load false 1 (t 21)),og 23 17 false (.len (t 22)),og 24 17 false (.bin 0 .neq (t 20) (t 23)),o 25 (.pick (t 17) (.const (.bool true)) (t 24)),mV 26 25,og 27 26 false (.fa 3 (t 1)),og 28 26 false (.load false 1 (t 27)),og 29 26 false (.len (t 28)),og 30 26 false (.fa 0 (t 1)),og 31 26 false (.load false 1 (t 30)),og 32 26 false (.bin 0 .neq (t 29) (t 31)),o 33 (.pick (t 26) (.const (.bool true)) (t 32))]
def o0T:SS:=[o 2 (.mv (.const (.bool false)))]
def R0i:SS:=[fA 34 1 1,lD 35 34,o 36 (.mkfn (.func z0L) [] [t 1]),o 37 (.call z0K [t 35,t 36] true),o 38 (.un .not (t 37)),mV 2 38]
def a1B:SF:=⟨1,39,[.tmp 2],
 (qS (gR R0h) (qS (qS (gR m0W) (.cond (t 33) (qS (gR o0T) .ret) .skip)) (qS (gR R0i) .ret)))⟩
def R0j:SS:=[o 1 (.box b0k (t 0)),o 2 (.alloc b0J [.int .i64 0,.bool false,.slice none 0 0,.bool false,.slice none 0 0,.slice none 0 0,.slice none 0 0,.slice none 0 0]),o 3 (.mv (i 0))]
def R0k:SS:=[lA 8 4 1,o 9 (.call z0M [t 8] true),o 4 (.alloc a0O [.int .i64 0,.slice none 0 0,.slice none 0 0,.slice none 0 0,.bool false,.slice none 0 0,.bool false,.slice none 0 0]),⟨none,none,.store 8 (t 4) (t 9)⟩]
def R0l:SS:=[lA 11 4 1,lA 12 8 4,o 13 (.call p0y [t 11,t 12] true),mV 10 13,o 14 (.ext (t 10) 0),o 15 (.ext (t 10) 1),o 16 (.ext (t 10) 2),o 5 (.alloc b0J [.int .i64 0,.bool false,.slice none 0 0,.bool false,.slice none 0 0,.slice none 0 0,.slice none 0 0,.slice none 0 0]),⟨none,none,.store 8 (t 5) (t 14)⟩,mV 6 15,mV 7 16]
def I0H:SS:=[mV 17 7]
def R0m:SS:=[lA 18 8 5,mV 19 6,⟨none,none,.store 8 (t 2) (t 18)⟩,mV 3 19]
def R0n:SS:=[o 20 (.build [] []),lA 21 4 1,lA 22 8 4,o 23 (.call K0l [t 20,t 21,t 22] true),o 24 (.ext (t 23) 0),o 25 (.ext (t 23) 1),⟨none,none,.store 8 (t 2) (t 24)⟩,mV 3 25]
def a1C:SF:=⟨1,26,[.cell 2 true 8,.tmp 3],
 (qS (gR R0j) (qS (gR R0k) (qS (qS (gR R0l) (qS (gR I0H) (.cond (t 17) (qS (gR R0m) .ret) .skip))) (qS (gR R0n) .ret))))⟩
def R0o:SS:=[o 2 (.mv (.const (.slice none 0 0)))]
def R0p:SS:=[o 3 (.mv (.const (.slice none 0 0)))]
def R0q:SS:=[o 4 (.mv (i 0))]
def R0r:SS:=[mV 5 4,mV 6 0,o 7 (.bin 0 .lss (t 5) (t 6))]
def R0s:SS:=[mV 10 3,o 11 (.call K0m [i 0] true),o 12 (.lit a0b [.bool false,.slice none 0 0,.bool false,.slice none 0 0] 1 [(0,4,t 11)]),o 13 (.app a0b 4 64 (t 10) (t 12)),mV 3 13]
def R0t:SS:=[mV 8 4,o 9 (.bin 0 .add (t 8) (i 1)),mV 4 9]
def R0u:SS:=[mV 14 3,mV 2 14]
def a1D:SF:=⟨1,15,[.tmp 2],
 (qS (gR R0o) (qS (gR R0p) (qS (qS (gR R0q) (.block 0 (.loop (qS (qS (gR R0r) (.cond (t 7) .skip (.exit 0))) (qS (.block 1 (gR R0s)) (gR R0t)))))) (qS (gR R0u) .ret))))⟩
def R0v:SS:=[o 6 (.mv (.const (.slice none 0 0))),o 7 (.mv (i 0))]
def R0w:SS:=[mV 11 0,lN 12 11,mV 13 1,lN 14 13,o 15 (.bin 0 .neq (t 12) (t 14)),mV 16 15,og 17 16 false (.mv (t 2)),og 18 16 false (.bin 0 .lss (t 17) (i 0)),o 19 (.pick (t 16) (.const (.bool true)) (t 18)),mV 20 19,og 21 20 false (.mv (t 2)),og 22 20 false (.bin 0 .gtr (t 21) (i 1000)),o 23 (.pick (t 20) (.const (.bool true)) (t 22))]
def Y0J:SS:=[o 6 (.mv (.const (.slice none 0 0))),o 7 (.mv (i 1))]
def R0x:SS:=[o 8 (.mv (.const (.slice none 0 0)))]
def R0y:SS:=[o 9 (.mv (i 0))]
def R0z:SS:=[mV 24 9,mV 25 2,o 26 (.bin 0 .lss (t 24) (t 25))]
def R0A:SS:=[mV 29 8,o 30 (.call M0V [] true),o 31 (.lit a0b [.bool false,.slice none 0 0,.bool false,.slice none 0 0] 1 [(0,4,t 30)]),o 32 (.app a0b 4 64 (t 29) (t 31)),mV 8 32]
def R0B:SS:=[mV 27 9,o 28 (.bin 0 .add (t 27) (i 1)),mV 9 28]
def R0C:SS:=[o 10 (.mv (i 0))]
def R0D:SS:=[mV 33 10,mV 34 1,lN 35 34,o 36 (.bin 0 .lss (t 33) (t 35))]
def I0I:SS:=[mV 39 1,mV 40 10,iA 41 1 39 40,lD 42 41,lN 43 42,mV 44 2,o 45 (.bin 0 .neq (t 43) (t 44))]
def U0X:SS:=[o 6 (.mv (.const (.slice none 0 0))),o 7 (.mv (i 1))]
def I0J:SS:=[mV 47 8,mV 48 0,mV 49 10,iA 50 4 48 49,lA 51 4 50,mV 52 1,mV 53 10,iA 54 1 52 53,lD 55 54,o 56 (.call z0N [t 47,t 51,t 55] true),mV 46 56,o 57 (.ext (t 46) 0),o 58 (.ext (t 46) 1),mV 8 57]
def I0K:SS:=[mV 37 10,o 38 (.bin 0 .add (t 37) (i 1)),mV 10 38]
def I0L:SS:=[mV 59 8,mV 6 59,o 7 (.mv (i 0))]
def a1E:SF:=⟨3,60,[.tmp 6,.tmp 7],
 (qS (gR R0v) (qS (qS (gR R0w) (.cond (t 23) (qS (gR Y0J) .ret) .skip)) (qS (gR R0x) (qS (qS (gR R0y) (.block 0 (.loop (qS (qS (gR R0z) (.cond (t 26) .skip (.exit 0))) (qS (.block 1 (gR R0A)) (gR R0B)))))) (qS (qS (gR R0C) (.block 2 (.loop (qS (qS (gR R0D) (.cond (t 36) .skip (.exit 2))) (qS (.block 3 (qS (qS (gR I0I) (.cond (t 45) (qS (gR U0X) .ret) .skip)) (.draw I0J [0,0,0,6,14,0,0,96,224,511,1023,2047,2047,4095] []))) (gR I0K)))))) (qS (gR I0L) .ret))))))⟩
def R0E:SS:=[o 0 (.alloc a0b [.bool false,.slice none 0 0,.bool false,.slice none 0 0])]
def R0F:SS:=[o 1 (.call T0U [i 1] true),o 2 (.build [.bool false,.slice none 0 0,.bool false,.slice none 0 0] [(2,2,t 1)]),⟨none,none,.store 4 (t 0) (t 2)⟩]
def a1F:SF:=⟨0,3,[.cell 0 true 4],
 (qS (gR R0E) (qS (gR R0F) .ret))⟩
def R0G:SS:=[o 2 (.box a0b (t 0)),o 3 (.box a0b (t 1)),o 4 (.alloc a0b [.bool false,.slice none 0 0,.bool false,.slice none 0 0])]
def R0H:SS:=[lA 7 4 2,o 8 (.call v0J [t 7] true),⟨none,none,.store 4 (t 2) (t 8)⟩]
def R0I:SS:=[lA 9 4 3,o 10 (.call v0J [t 9] true),⟨none,none,.store 4 (t 3) (t 10)⟩]
def R0J:SS:=[fA 12 0 2,lA 13 2 12,fA 14 2 3,lA 15 2 14,o 16 (.call A0e [t 13,t 15] false),fA 17 0 3,lA 18 2 17,fA 19 2 2,lA 20 2 19,o 21 (.call A0e [t 18,t 20] false),o 22 (.call x0Q [t 16,t 21] false),fA 23 2 2,lA 24 2 23,fA 25 2 3,lA 26 2 25,o 27 (.call A0e [t 24,t 26] false),o 28 (.call x0P [t 22,t 27] false),mV 11 28,o 29 (.ext (t 11) 0),o 30 (.ext (t 11) 1),o 5 (.alloc a0b [.bool false,.slice none 0 0,.bool false,.slice none 0 0]),⟨none,none,.store 4 (t 5) (t 29)⟩,mV 6 30]
def R0K:SS:=[lA 31 4 5,⟨none,none,.store 4 (t 4) (t 31)⟩]
def a1G:SF:=⟨2,32,[.cell 4 true 4],
 (qS (gR R0G) (qS (gR R0H) (qS (gR R0I) (qS (.draw R0J [0,1,0,4,15,0,32,0,128,511,1023,0,2048,0,8192,32767,65535,131071,262143,262143,0,1572863,4194303] []) (qS (gR R0K) .ret)))))⟩
def R0L:SS:=[o 2 (.box a0b (t 0)),o 3 (.box a0b (t 1)),o 4 (.alloc a0b [.bool false,.slice none 0 0,.bool false,.slice none 0 0])]
def R0M:SS:=[lA 7 4 2,o 8 (.call v0J [t 7] true),⟨none,none,.store 4 (t 2) (t 8)⟩]
def R0N:SS:=[lA 9 4 3,o 10 (.call v0J [t 9] true),⟨none,none,.store 4 (t 3) (t 10)⟩]
def R0O:SS:=[fA 12 0 2,lA 13 2 12,fA 14 0 3,lA 15 2 14,o 16 (.call A0e [t 13,t 15] false),fA 17 2 2,lA 18 2 17,fA 19 2 3,lA 20 2 19,o 21 (.call A0e [t 18,t 20] false),o 22 (.call x0P [t 16,t 21] false),mV 11 22,o 23 (.ext (t 11) 0),o 24 (.ext (t 11) 1),o 5 (.alloc a0b [.bool false,.slice none 0 0,.bool false,.slice none 0 0]),⟨none,none,.store 4 (t 5) (t 23)⟩,mV 6 24]
def R0P:SS:=[lA 25 4 5,⟨none,none,.store 4 (t 4) (t 25)⟩]
def a1H:SF:=⟨2,26,[.cell 4 true 4],
 (qS (gR R0L) (qS (gR R0M) (qS (gR R0N) (qS (.draw R0O [0,1,0,4,15,0,32,0,128,511,1023,2047,4095,4095,0,24575,65535] []) (qS (gR R0P) .ret)))))⟩
def R0Q:SS:=[o 1 (.box b0F (t 0)),o 2 (.mv (.const (.bool false)))]
def R0R:SS:=[fA 3 0 1,lD 4 3,o 5 (.bin 0 .lss (t 4) (i 0)),mV 2 5]
def a1I:SF:=⟨1,6,[.tmp 2],
 (qS (gR R0Q) (qS (gR R0R) .ret))⟩
def R0S:SS:=[o 1 (.box a0b (t 0)),o 2 (.alloc a0b [.bool false,.slice none 0 0,.bool false,.slice none 0 0])]
def R0T:SS:=[lA 3 4 1,o 4 (.call x0R [t 3] true),mV 5 4,og 6 5 false (.load true 4 (t 1)),og 7 5 false (.call T0W [t 6] true),og 8 5 false (.un .not (t 7)),o 9 (.pick (t 5) (.const (.bool true)) (t 8))]
def I0M:SS:=[o 10 (.call t0k [] true),o 11 (.build [.bool false,.slice none 0 0,.bool false,.slice none 0 0] [(2,2,t 10)]),⟨none,none,.store 4 (t 2) (t 11)⟩]
def R0U:SS:=[fA 12 0 1,lA 13 2 12,o 14 (.build [.bool false,.slice none 0 0] []),o 15 (.call J0G [t 13,t 14] false),fA 16 2 1,lA 17 2 16,o 18 (.build [.bool false,.slice none 0 0] []),o 19 (.call J0G [t 17,t 18] true),o 20 (.build [.bool false,.slice none 0 0,.bool false,.slice none 0 0] [(0,2,t 15),(2,2,t 19)]),⟨none,none,.store 4 (t 2) (t 20)⟩]
def a1J:SF:=⟨1,21,[.cell 2 true 4],
 (qS (gR R0S) (qS (qS (gR R0T) (.cond (t 9) (qS (gR I0M) .ret) .skip)) (qS (.draw R0U [0,1,0,7,0,16,0,127,255,511] []) .ret)))⟩
def R0V:SS:=[o 2 (.box a0a (t 0)),o 3 (.box a0a (t 1)),o 4 (.alloc a0b [.bool false,.slice none 0 0,.bool false,.slice none 0 0])]
def R0W:SS:=[lA 8 2 2,lA 9 2 3,o 10 (.call p0z [t 8,t 9] true),mV 7 10,o 11 (.ext (t 7) 0),o 12 (.ext (t 7) 1),o 5 (.alloc a0b [.bool false,.slice none 0 0,.bool false,.slice none 0 0]),⟨none,none,.store 4 (t 5) (t 11)⟩,mV 6 12]
def R0X:SS:=[lA 13 4 5,⟨none,none,.store 4 (t 4) (t 13)⟩]
def a1K:SF:=⟨2,14,[.cell 4 true 4],
 (qS (gR R0V) (qS (gR R0W) (qS (gR R0X) .ret)))⟩
def R0Y:SS:=[o 4 (.box a0a (t 1)),o 6 (.alloc a0a [.bool false,.slice none 0 0])]
def R0Z:SS:=[mV 9 2,lN 10 9,o 11 (.mv (i 0))]
def I0N:SS:=[o 12 (.bin 0 .lss (t 11) (t 10))]
def S0a:SS:=[iA 13 2 9 11,lA 14 2 13,o 8 (.alloc a0a [.bool false,.slice none 0 0]),⟨none,none,.store 2 (t 8) (t 14)⟩]
def S0b:SS:=[mV 15 0,lA 16 2 4,lA 17 2 8,o 18 (.callv (t 15) [t 16,t 17] true),⟨none,none,.store 2 (t 4) (t 18)⟩]
def S0c:SS:=[o 19 (.bin 0 .add (t 11) (i 1)),mV 11 19]
def S0d:SS:=[lA 20 2 4,⟨none,none,.store 2 (t 6) (t 20)⟩]
def a1L:SF:=⟨3,21,[.cell 6 true 2],
 (qS (gR R0Y) (qS (qS (gR R0Z) (.block 0 (.loop (qS (gR I0N) (qS (.cond (t 12) .skip (.exit 0)) (qS (.block 1 (qS (gR S0a) (gR S0b))) (gR S0c))))))) (qS (gR S0d) .ret)))⟩
def S0e:SS:=[o 2 (.box a0a (t 0)),o 3 (.box a0a (t 1)),o 4 (.alloc a0a [.bool false,.slice none 0 0])]
def S0f:SS:=[lA 7 2 2,o 8 (.call f0E [t 7] false),lA 9 2 3,o 10 (.call f0E [t 9] true),mV 5 8,mV 6 10]
def S0g:SS:=[lA 12 2 2,o 13 (.call e0f [t 12] false),lA 14 2 3,o 15 (.call e0f [t 14] true),o 16 (.bin 1 .eql (t 13) (t 15)),mV 11 16]
def S0h:SS:=[lA 17 2 2,o 18 (.call e0f [t 17] true),mV 19 5,mV 20 6,o 21 (.call z0O [t 19,t 20] true),o 22 (.call g0p [t 18,t 21] true),⟨none,none,.store 2 (t 4) (t 22)⟩]
def S0i:SS:=[mV 24 5,mV 25 6,o 26 (.call r0w [t 24,t 25] true),o 27 (.bin 0 .geq (t 26) (i 0)),mV 23 27]
def S0j:SS:=[lA 28 2 2,o 29 (.call e0f [t 28] true),mV 30 5,mV 31 6,o 32 (.call x0S [t 30,t 31] true),o 33 (.call g0p [t 29,t 32] true),⟨none,none,.store 2 (t 4) (t 33)⟩]
def S0k:SS:=[lA 34 2 3,o 35 (.call e0f [t 34] true),mV 36 6,mV 37 5,o 38 (.call x0S [t 36,t 37] true),o 39 (.call g0p [t 35,t 38] true),⟨none,none,.store 2 (t 4) (t 39)⟩]
def a1M:SF:=⟨2,40,[.cell 4 true 2],
 (qS (gR S0e) (qS (.draw S0f [0,1,0,7,15,31] []) (qS (.block 0 (qS (.draw S0g [0,1,0,7,15,31] []) (.cond (t 11) (qS (gR S0h) .ret) (qS (gR S0i) (.cond (t 23) (qS (gR S0j) .ret) .skip))))) (qS (gR S0k) .ret))))⟩
def S0l:SS:=[o 2 (.box a0a (t 0)),o 3 (.box a0a (t 1)),o 4 (.alloc a0a [.bool false,.slice none 0 0])]
def S0m:SS:=[lA 13 2 2,o 14 (.call f0E [t 13] false),lA 15 2 3,o 16 (.call f0E [t 15] true),mV 5 14,mV 6 16]
def S0n:SS:=[mV 17 5,lN 18 17,mV 19 6,lN 20 19,o 21 (.bin 0 .add (t 18) (t 20)),o 22 (.mk a0j 4 [.int .u32 0] (t 21) (t 21)),mV 7 22]
def S0o:SS:=[mV 23 5,lN 24 23,o 25 (.mv (i 0))]
def I0V:SS:=[o 26 (.bin 0 .lss (t 25) (t 24))]
def S0p:SS:=[mV 27 25,iA 28 1 23 25,lD 29 28,mV 8 27,mV 9 29]
def S0q:SS:=[o 10 (.mv (.const (.int .u64 0)))]
def S0r:SS:=[mV 30 6,lN 31 30,o 32 (.mv (i 0))]
def I0W:SS:=[o 33 (.bin 0 .lss (t 32) (t 31))]
def S0s:SS:=[mV 34 32,iA 35 1 30 32,lD 36 35,mV 11 34,mV 12 36]
def I0O:SS:=[mV 37 10,mV 38 9,o 39 (.conv .u64 (t 38)),mV 40 12,o 41 (.conv .u64 (t 40)),o 42 (.bin 0 .mul (t 39) (t 41)),mV 43 7,mV 44 8,mV 45 11,o 46 (.bin 0 .add (t 44) (t 45)),iA 47 1 43 46,lD 48 47,o 49 (.conv .u64 (t 48)),o 50 (.bin 0 .add (t 42) (t 49)),o 51 (.bin 0 .add (t 37) (t 50)),mV 10 51]
def I0P:SS:=[mV 52 7,mV 53 8,mV 54 11,o 55 (.bin 0 .add (t 53) (t 54)),mV 56 10,o 57 (.call f0F [t 56] true),iA 58 1 52 55,⟨none,none,.store 1 (t 58) (t 57)⟩]
def I0Q:SS:=[mV 59 10,o 60 (.bin 0 .shr (t 59) (.const (.int .u64 32))),mV 10 60]
def I0R:SS:=[o 61 (.bin 0 .add (t 32) (i 1)),mV 32 61]
def I0S:SS:=[mV 62 7,mV 63 8,mV 64 6,lN 65 64,o 66 (.bin 0 .add (t 63) (t 65)),mV 67 10,o 68 (.call f0F [t 67] true),iA 69 1 62 66,⟨none,none,.store 1 (t 69) (t 68)⟩]
def I0T:SS:=[o 70 (.bin 0 .add (t 25) (i 1)),mV 25 70]
def I0U:SS:=[lA 71 2 2,o 72 (.call e0f [t 71] false),lA 73 2 3,o 74 (.call e0f [t 73] true),o 75 (.bin 1 .neq (t 72) (t 74)),mV 76 7,o 77 (.call g0p [t 75,t 76] true),⟨none,none,.store 2 (t 4) (t 77)⟩]
def a1N:SF:=⟨2,78,[.cell 4 true 2],
 (qS (gR S0l) (qS (.draw S0m [0,1,0,7,15,31] []) (qS (gR S0n) (qS (qS (gR S0o) (.block 0 (.loop (qS (gR I0V) (qS (.cond (t 26) .skip (.exit 0)) (qS (.block 1 (qS (gR S0p) (qS (gR S0q) (qS (qS (gR S0r) (.block 2 (.loop (qS (gR I0W) (qS (.cond (t 33) .skip (.exit 2)) (qS (.block 3 (qS (gR S0s) (qS (gR I0O) (qS (gR I0P) (gR I0Q))))) (gR I0R))))))) (gR I0S))))) (gR I0T))))))) (qS (.draw I0U [0,1,0,7,15,0,63,127] []) .ret)))))⟩
def S0t:SS:=[o 2 (.alloc a0b [.bool false,.slice none 0 0,.bool false,.slice none 0 0])]
def S0u:SS:=[mV 3 0,o 4 (.call k0Z [t 3] true),o 5 (.call t0k [] true),o 6 (.build [.bool false,.slice none 0 0,.bool false,.slice none 0 0] [(0,2,t 4),(2,2,t 5)]),⟨none,none,.store 4 (t 2) (t 6)⟩]
def a1O:SF:=⟨1,7,[.cell 2 true 4],
 (qS (gR S0t) (qS (gR S0u) .ret))⟩
def S0v:SS:=[o 2 (.box a0b (t 0)),o 3 (.box a0b (t 1)),o 4 (.alloc a0b [.bool false,.slice none 0 0,.bool false,.slice none 0 0])]
def S0w:SS:=[lA 5 4 2,o 6 (.call A0f [t 5] false),lA 7 4 3,o 8 (.call A0f [t 7] true),⟨none,none,.store 4 (t 2) (t 6)⟩,⟨none,none,.store 4 (t 3) (t 8)⟩]
def S0x:SS:=[fA 9 0 2,lA 10 2 9,fA 11 0 3,lA 12 2 11,o 13 (.call r0G [t 10,t 12] false),fA 14 2 2,lA 15 2 14,fA 16 2 3,lA 17 2 16,o 18 (.call r0G [t 15,t 17] true),o 19 (.call V0Q [t 13,t 18] true),⟨none,none,.store 4 (t 4) (t 19)⟩]
def a1P:SF:=⟨2,20,[.cell 4 true 4],
 (qS (gR S0v) (qS (.draw S0w [0,1,0,7,15,31] []) (qS (.draw S0x [0,1,0,4,15,0,32,0,128,511,1023,2047] []) .ret)))⟩
def S0y:SS:=[o 1 (.box a0b (t 0)),o 2 (.mv (.const (.bool false)))]
def x0i:SS:=[fA 4 2 1,fA 5 1 4,lD 6 5,lN 7 6,o 8 (.bin 0 .eql (t 7) (i 0)),mV 9 8,og 10 9 true (.fa 2 (t 1)),og 11 9 true (.fa 0 (t 10)),og 12 9 true (.load false 1 (t 11)),og 13 9 true (.un .not (t 12)),o 14 (.pick (t 9) (t 13) (.const (.bool false)))]
def I0X:SS:=[fA 15 0 1,fA 16 1 15,lD 17 16,lN 18 17,o 19 (.bin 0 .eql (t 18) (i 0)),mV 20 19,og 21 20 true (.fa 0 (t 1)),og 22 20 true (.fa 0 (t 21)),og 23 20 true (.load false 1 (t 22)),og 24 20 true (.un .not (t 23)),o 25 (.pick (t 20) (t 24) (.const (.bool false))),mV 2 25]
def I0Y:SS:=[fA 26 0 1,lA 27 2 26,fA 28 2 1,lA 29 2 28,o 30 (.call x0T [t 27,t 29] true),o 3 (.alloc a0a [.bool false,.slice none 0 0]),⟨none,none,.store 2 (t 3) (t 30)⟩]
def I0Z:SS:=[fA 31 0 1,lA 32 2 31,o 33 (.call t0l [t 32] true),mV 34 33,og 35 34 true (.fa 2 (t 1)),og 36 34 true (.load true 2 (t 35)),og 37 34 true (.call t0l [t 36] true),o 38 (.pick (t 34) (t 37) (.const (.bool false))),mV 39 38,og 40 39 true (.fa 2 (t 1)),og 41 39 true (.fa 0 (t 40)),og 42 39 true (.load false 1 (t 41)),og 43 39 true (.un .not (t 42)),o 44 (.pick (t 39) (t 43) (.const (.bool false))),mV 45 44,og 46 45 true (.fa 1 (t 3)),og 47 45 true (.load false 1 (t 46)),og 48 45 true (.len (t 47)),og 49 45 true (.bin 0 .eql (t 48) (i 1)),o 50 (.pick (t 45) (t 49) (.const (.bool false))),mV 51 50,og 52 51 true (.fa 1 (t 3)),og 53 51 true (.load false 1 (t 52)),og 54 51 true (.ia 1 (t 53) (i 0)),og 55 51 true (.load false 1 (t 54)),og 56 51 true (.bin 0 .eql (t 55) (.const (.int .u32 1))),o 57 (.pick (t 51) (t 56) (.const (.bool false))),mV 2 57]
def a1Q:SF:=⟨1,58,[.tmp 2],
 (qS (gR S0y) (qS (qS (gR x0i) (.cond (t 14) (qS (gR I0X) .ret) .skip)) (qS (gR I0Y) (qS (gR I0Z) .ret))))⟩
def S0z:SS:=[o 1 (.box a0b (t 0)),o 2 (.mv (.const (.bool false)))]
def s0z:SS:=[fA 3 0 1,fA 4 1 3,lD 5 4,lN 6 5,o 7 (.bin 0 .eql (t 6) (i 0)),mV 8 7,og 9 8 true (.fa 0 (t 1)),og 10 8 true (.fa 0 (t 9)),og 11 8 true (.load false 1 (t 10)),og 12 8 true (.un .not (t 11)),o 13 (.pick (t 8) (t 12) (.const (.bool false))),mV 14 13,og 15 14 true (.fa 2 (t 1)),og 16 14 true (.fa 1 (t 15)),og 17 14 true (.load false 1 (t 16)),og 18 14 true (.len (t 17)),og 19 14 true (.bin 0 .eql (t 18) (i 0)),o 20 (.pick (t 14) (t 19) (.const (.bool false))),mV 21 20,og 22 21 true (.fa 2 (t 1)),og 23 21 true (.fa 0 (t 22)),og 24 21 true (.load false 1 (t 23)),og 25 21 true (.un .not (t 24)),o 26 (.pick (t 21) (t 25) (.const (.bool false))),mV 2 26]
def a1R:SF:=⟨1,27,[.tmp 2],
 (qS (gR S0z) (qS (gR s0z) .ret))⟩
def S0A:SS:=[o 1 (.box a0b (t 0)),o 2 (.mv (.const (.bool false)))]
def S0B:SS:=[lA 3 4 1,o 4 (.call x0R [t 3] true)]
def S0C:SS:=[o 2 (.mv (.const (.bool true)))]
def S0D:SS:=[fA 5 0 1,lA 6 2 5,o 7 (.call r0x [t 6] true),mV 8 7,og 9 8 true (.fa 2 (t 1)),og 10 8 true (.load true 2 (t 9)),og 11 8 true (.call r0x [t 10] true),o 12 (.pick (t 8) (t 11) (.const (.bool false))),mV 13 12,og 14 13 true (.fa 2 (t 1)),og 15 13 true (.fa 0 (t 14)),og 16 13 true (.load false 1 (t 15)),og 17 13 true (.un .not (t 16)),o 18 (.pick (t 13) (t 17) (.const (.bool false))),mV 19 18,og 20 19 true (.fa 2 (t 1)),og 21 19 true (.load true 2 (t 20)),og 22 19 true (.call x0U [t 21] true),og 23 19 true (.un .not (t 22)),o 24 (.pick (t 19) (t 23) (.const (.bool false))),mV 25 24,og 26 25 true (.fa 0 (t 1)),og 27 25 true (.load true 2 (t 26)),og 28 25 true (.fa 2 (t 1)),og 29 25 true (.load true 2 (t 28)),og 30 25 true (.call r0y [t 27,t 29] true),og 31 25 true (.call t0k [] true),og 32 25 true (.call n0y [t 30,t 31] true),og 33 25 true (.bin 0 .eql (t 32) (i 0)),o 34 (.pick (t 25) (t 33) (.const (.bool false))),mV 2 34]
def a1S:SF:=⟨1,35,[.tmp 2],
 (qS (gR S0A) (qS (qS (gR S0B) (.cond (t 4) (qS (gR S0C) .ret) .skip)) (qS (gR S0D) .ret)))⟩
def S0E:SS:=[o 4 (.mv (i 0))]
def S0F:SS:=[mV 6 0,lN 7 6,o 8 (.mv (i 0))]
def Y0K:SS:=[o 9 (.bin 0 .lss (t 8) (t 7))]
def S0G:SS:=[mV 10 8,mV 5 10]
def S0H:SS:=[mV 11 1,mV 12 0,mV 13 5,iA 14 5 12 13,lA 15 5 14,o 16 (.callv (t 11) [t 15] true)]
def S0I:SS:=[mV 17 5,mV 4 17]
def Y0L:SS:=[o 18 (.bin 0 .add (t 8) (i 1)),mV 8 18]
def S0J:SS:=[o 4 (.mv (.const (.int .i64 (-1))))]
def a1T:SF:=⟨2,19,[.tmp 4],
 (qS (gR S0E) (qS (qS (gR S0F) (.block 0 (.loop (qS (gR Y0K) (qS (.cond (t 9) .skip (.exit 0)) (qS (.block 1 (qS (gR S0G) (qS (gR S0H) (.cond (t 16) (qS (gR S0I) .ret) .skip)))) (gR Y0L))))))) (qS (gR S0J) .ret)))⟩
def S0K:SS:=[o 1 (.box a0b (t 0)),o 2 (.mv (.const (.bool false)))]
def s0A:SS:=[fA 3 0 1,fA 4 0 3,lD 5 4,o 6 (.un .not (t 5)),mV 7 6,og 8 7 true (.fa 0 (t 1)),og 9 7 true (.fa 1 (t 8)),og 10 7 true (.load false 1 (t 9)),og 11 7 true (.len (t 10)),og 12 7 true (.bin 0 .eql (t 11) (i 0)),o 13 (.pick (t 7) (t 12) (.const (.bool false))),mV 14 13,og 15 14 true (.fa 2 (t 1)),og 16 14 true (.fa 0 (t 15)),og 17 14 true (.load false 1 (t 16)),og 18 14 true (.un .not (t 17)),o 19 (.pick (t 14) (t 18) (.const (.bool false))),mV 20 19,og 21 20 true (.fa 2 (t 1)),og 22 20 true (.fa 1 (t 21)),og 23 20 true (.load false 1 (t 22)),og 24 20 true (.len (t 23)),og 25 20 true (.bin 0 .eql (t 24) (i 0)),o 26 (.pick (t 20) (t 25) (.const (.bool false))),mV 2 26]
def a1U:SF:=⟨1,27,[.tmp 2],
 (qS (gR S0K) (qS (gR s0A) .ret))⟩
def B0t:SS:=[o 2 (.box a0a (t 0)),o 3 (.box a0a (t 1)),o 4 (.alloc a0a [.bool false,.slice none 0 0])]
def B0u:SS:=[lA 5 2 2,lA 6 2 3,o 7 (.call t0m [t 6] false),o 8 (.call x0Q [t 5,t 7] true),⟨none,none,.store 2 (t 4) (t 8)⟩]
def L0h:SF:=⟨2,9,[.cell 4 true 2],
 (qS (gR B0t) (qS (.draw B0u [0,0,2,7,15] []) .ret))⟩
def B0v:SS:=[o 1 (.box a0a (t 0)),o 2 (.alloc a0a [.bool false,.slice none 0 0])]
def B0w:SS:=[lA 3 2 1,o 4 (.call t0l [t 3] true),o 5 (.un .not (t 4))]
def B0x:SS:=[o 6 (.build [.bool false,.slice none 0 0] []),⟨none,none,.store 2 (t 2) (t 6)⟩]
def B0y:SS:=[lA 7 2 1,⟨none,none,.store 2 (t 2) (t 7)⟩]
def L0i:SF:=⟨1,8,[.cell 2 true 2],
 (qS (gR B0v) (qS (qS (gR B0w) (.cond (t 5) (qS (gR B0x) .ret) .skip)) (qS (gR B0y) .ret)))⟩
def B0z:SS:=[o 4 (.mv (.const (.slice none 0 0)))]
def B0A:SS:=[mV 10 0,lN 11 10,mV 12 1,lN 13 12,o 14 (.bin 0 .add (t 11) (t 13)),o 15 (.mk a0j 4 [.int .u32 0] (t 14) (t 14)),mV 5 15]
def B0B:SS:=[o 6 (.mv (i 0))]
def B0C:SS:=[mV 16 6,mV 17 0,lN 18 17,o 19 (.bin 0 .lss (t 16) (t 18))]
def B0D:SS:=[o 7 (.mv (.const (.int .u64 0)))]
def B0E:SS:=[o 8 (.mv (i 0))]
def B0F:SS:=[mV 22 8,mV 23 1,lN 24 23,o 25 (.bin 0 .lss (t 22) (t 24))]
def B0G:SS:=[mV 28 0,mV 29 6,iA 30 1 28 29,lD 31 30,o 32 (.conv .u64 (t 31)),mV 33 1,mV 34 8,iA 35 1 33 34,lD 36 35,o 37 (.conv .u64 (t 36)),o 38 (.bin 0 .mul (t 32) (t 37)),mV 39 5,mV 40 6,mV 41 8,o 42 (.bin 0 .add (t 40) (t 41)),iA 43 1 39 42,lD 44 43,o 45 (.conv .u64 (t 44)),o 46 (.bin 0 .add (t 38) (t 45)),mV 47 7,o 48 (.bin 0 .add (t 46) (t 47)),mV 9 48]
def B0H:SS:=[mV 49 5,mV 50 6,mV 51 8,o 52 (.bin 0 .add (t 50) (t 51)),mV 53 9,o 54 (.conv .u32 (t 53)),iA 55 1 49 52,⟨none,none,.store 1 (t 55) (t 54)⟩]
def B0I:SS:=[mV 56 9,o 57 (.bin 0 .shr (t 56) (.const (.int .u64 32))),mV 7 57]
def w0l:SS:=[mV 26 8,o 27 (.bin 0 .add (t 26) (i 1)),mV 8 27]
def w0m:SS:=[mV 58 5,mV 59 6,mV 60 1,lN 61 60,o 62 (.bin 0 .add (t 59) (t 61)),mV 63 7,o 64 (.conv .u32 (t 63)),iA 65 1 58 62,⟨none,none,.store 1 (t 65) (t 64)⟩]
def w0n:SS:=[mV 20 6,o 21 (.bin 0 .add (t 20) (i 1)),mV 6 21]
def w0o:SS:=[mV 66 5,o 67 (.call l0S [t 66] true),mV 4 67]
def L0j:SF:=⟨2,68,[.tmp 4],
 (qS (gR B0z) (qS (gR B0A) (qS (qS (gR B0B) (.block 0 (.loop (qS (qS (gR B0C) (.cond (t 19) .skip (.exit 0))) (qS (.block 1 (qS (gR B0D) (qS (qS (gR B0E) (.block 2 (.loop (qS (qS (gR B0F) (.cond (t 25) .skip (.exit 2))) (qS (.block 3 (qS (.draw B0G [0,0,3,7,15,0,0,96,224,480,1023,0,0,0,12288,30720,63488,129024,262143,0,1048575,2097151] []) (qS (gR B0H) (gR B0I)))) (gR w0l)))))) (gR w0m)))) (gR w0n)))))) (qS (gR w0o) .ret))))⟩
def B0J:SS:=[o 2 (.mv (.const (.slice none 0 0)))]
def B0K:SS:=[mV 4 0,lN 5 4,mV 3 5]
def t0L:SS:=[mV 6 3,o 7 (.bin 0 .gtr (t 6) (i 0)),mV 8 7,og 9 8 true (.mv (t 0)),og 10 8 true (.mv (t 3)),og 11 8 true (.bin 0 .sub (t 10) (i 1)),og 12 8 true (.ia 1 (t 9) (t 11)),og 13 8 true (.load false 1 (t 12)),og 14 8 true (.bin 0 .eql (t 13) (.const (.int .u32 0))),o 15 (.pick (t 8) (t 14) (.const (.bool false)))]
def B0L:SS:=[mV 16 3,o 17 (.bin 0 .sub (t 16) (i 1)),mV 3 17]
def B0M:SS:=[mV 18 0,mV 19 3,o 20 (.sl a0j 1 (t 18) none (some (t 19)) none),mV 2 20]
def L0k:SF:=⟨1,21,[.tmp 2],
 (qS (gR B0J) (qS (gR B0K) (qS (.block 0 (.loop (qS (qS (gR t0L) (.cond (t 15) .skip (.exit 0))) (.block 1 (gR B0L))))) (qS (gR B0M) .ret))))⟩
def B0N:SS:=[o 4 (.mv (.const (.bool false)))]
def B0O:SS:=[mV 5 0,mV 6 1,o 7 (.call z0P [t 5,t 6] true),o 8 (.bin 0 .geq (t 7) (i 0)),mV 4 8]
def L0l:SF:=⟨2,9,[.tmp 4],
 (qS (gR B0N) (qS (gR B0O) .ret))⟩
def B0P:SS:=[o 3 (.mv (.const (.bool false)))]
def B0Q:SS:=[mV 4 0,lN 5 4,fA 6 0 1,lD 7 6,o 8 (.bin 0 .neq (t 5) (t 7)),mV 3 8]
def L0m:SF:=⟨2,9,[.tmp 3],
 (qS (gR B0P) (qS (gR B0Q) .ret))⟩
def B0V:SS:=[o 1 (.box b0k (t 0)),o 2 (.alloc a0O [.int .i64 0,.slice none 0 0,.slice none 0 0,.slice none 0 0,.bool false,.slice none 0 0,.bool false,.slice none 0 0])]
def B0W:SS:=[fA 8 0 1,lD 9 8,o 10 (.build [.int .i64 0,.slice none 0 0,.slice none 0 0,.slice none 0 0,.bool false,.slice none 0 0,.bool false,.slice none 0 0] [(0,1,t 9)]),o 3 (.alloc a0O [.int .i64 0,.slice none 0 0,.slice none 0 0,.slice none 0 0,.bool false,.slice none 0 0,.bool false,.slice none 0 0]),⟨none,none,.store 8 (t 3) (t 10)⟩]
def B0X:SS:=[fA 11 1 1,lD 12 11,lN 13 12,o 14 (.mv (i 0))]
def U0k:SS:=[o 15 (.bin 0 .lss (t 14) (t 13))]
def B0Y:SS:=[mV 16 14,iA 17 1 12 14,lD 18 17,mV 4 16,mV 5 18]
def B0Z:SS:=[mV 20 5,o 21 (.call x0W [t 20] false),fA 22 2 1,lD 23 22,mV 24 4,iA 25 4 23 24,lA 26 4 25,o 27 (.build [.bool false,.slice none 0 0,.bool false,.slice none 0 0] []),o 28 (.call z0a [t 26,t 27] false),o 29 (.lit a0b [.bool false,.slice none 0 0,.bool false,.slice none 0 0] 1 [(0,4,t 28)]),o 30 (.app a0b 4 64 (t 21) (t 29)),o 31 (.call x0V [t 30] false),mV 19 31,o 32 (.ext (t 19) 0),o 33 (.ext (t 19) 1),o 7 (.alloc a0b [.bool false,.slice none 0 0,.bool false,.slice none 0 0]),mV 6 32,⟨none,none,.store 4 (t 7) (t 33)⟩]
def C0a:SS:=[fA 34 1 3,lD 35 34,mV 36 6,o 37 (.lit b0G [.slice none 0 0] 1 [(0,1,t 36)]),o 38 (.app b0G 1 24 (t 35) (t 37)),fA 39 2 3,lD 40 39,lA 41 4 7,o 42 (.lit a0b [.bool false,.slice none 0 0,.bool false,.slice none 0 0] 1 [(0,4,t 41)]),o 43 (.app a0b 4 64 (t 40) (t 42)),fA 44 1 3,⟨none,none,.store 1 (t 44) (t 38)⟩,fA 45 2 3,⟨none,none,.store 1 (t 45) (t 43)⟩]
def U0l:SS:=[o 46 (.bin 0 .add (t 14) (i 1)),mV 14 46]
def C0b:SS:=[fA 48 3 1,lD 49 48,o 50 (.call x0W [t 49] true),o 51 (.call x0V [t 50] true),mV 47 51,o 52 (.ext (t 47) 0),o 53 (.ext (t 47) 1),fA 54 3 3,⟨none,none,.store 1 (t 54) (t 52)⟩,fA 55 4 3,⟨none,none,.store 4 (t 55) (t 53)⟩]
def C0c:SS:=[lA 56 8 3,⟨none,none,.store 8 (t 2) (t 56)⟩]
def L0n:SF:=⟨1,57,[.cell 2 true 8],
 (qS (gR B0V) (qS (gR B0W) (qS (qS (gR B0X) (.block 0 (.loop (qS (gR U0k) (qS (.cond (t 15) .skip (.exit 0)) (qS (.block 1 (qS (gR B0Y) (qS (.draw B0Z [0,1,0,4,0,28,60,0,255,511,1023,2047,4095,8191,8191,0,49151,131071] [(10,15)]) (.draw C0a [0,1,0,4,15,0,32,0,128,511,127,2047,4095,8191] [(4,6),(4,7),(4,8)])))) (gR U0l))))))) (qS (gR C0b) (qS (gR C0c) .ret)))))⟩
def C0d:SS:=[o 4 (.box a0b (t 1)),o 6 (.mv (.const (.slice none 0 0))),o 7 (.mv (i 0))]
def C0e:SS:=[mV 10 0,lN 11 10,mV 12 2,lN 13 12,o 14 (.bin 0 .neq (t 11) (t 13))]
def U0m:SS:=[o 6 (.mv (.const (.slice none 0 0))),o 7 (.mv (i 1))]
def C0f:SS:=[o 8 (.mv (.const (.slice none 0 0)))]
def C0g:SS:=[o 9 (.mv (i 0))]
def C0h:SS:=[mV 15 9,mV 16 0,lN 17 16,o 18 (.bin 0 .lss (t 15) (t 17))]
def C0i:SS:=[mV 21 8,mV 22 0,mV 23 9,iA 24 4 22 23,lA 25 4 24,lA 26 4 4,mV 27 2,mV 28 9,iA 29 4 27 28,lA 30 4 29,o 31 (.call V0P [t 26,t 30] false),o 32 (.call V0O [t 25,t 31] true),o 33 (.lit a0b [.bool false,.slice none 0 0,.bool false,.slice none 0 0] 1 [(0,4,t 32)]),o 34 (.app a0b 4 64 (t 21) (t 33)),mV 8 34]
def C0j:SS:=[mV 19 9,o 20 (.bin 0 .add (t 19) (i 1)),mV 9 20]
def C0k:SS:=[mV 35 8,mV 6 35,o 7 (.mv (i 0))]
def L0o:SF:=⟨3,36,[.tmp 6,.tmp 7],
 (qS (gR C0d) (qS (qS (gR C0e) (.cond (t 14) (qS (gR U0m) .ret) .skip)) (qS (gR C0f) (qS (qS (gR C0g) (.block 0 (.loop (qS (qS (gR C0h) (.cond (t 18) .skip (.exit 0))) (qS (.block 1 (.draw C0i [0,0,0,6,14,0,0,0,192,448,992,2046,4094,8191,16383] [])) (gR C0j)))))) (qS (gR C0k) .ret)))))⟩
def C0l:SS:=[o 2 (.box a0a (t 0)),o 3 (.box a0a (t 1)),o 4 (.alloc a0b [.bool false,.slice none 0 0,.bool false,.slice none 0 0]),o 5 (.mv (i 0))]
def C0m:SS:=[lA 13 2 2,o 14 (.call i0t [t 13] true),⟨none,none,.store 2 (t 2) (t 14)⟩]
def C0n:SS:=[lA 15 2 3,o 16 (.call i0t [t 15] true),⟨none,none,.store 2 (t 3) (t 16)⟩]
def C0o:SS:=[fA 17 1 3,lD 18 17,lN 19 18,o 20 (.bin 0 .eql (t 19) (i 0))]
def U0n:SS:=[o 21 (.build [.bool false,.slice none 0 0,.bool false,.slice none 0 0] []),⟨none,none,.store 4 (t 4) (t 21)⟩,o 5 (.mv (i 11))]
def C0p:SS:=[lA 22 2 2,lA 23 2 3,o 24 (.call x0T [t 22,t 23] true),o 6 (.alloc a0a [.bool false,.slice none 0 0]),⟨none,none,.store 2 (t 6) (t 24)⟩]
def C0q:SS:=[lA 26 2 2,lA 27 2 6,o 28 (.call x0X [t 26,t 27] true),mV 25 28,o 29 (.ext (t 25) 0),o 30 (.ext (t 25) 1),o 31 (.ext (t 25) 2),o 7 (.alloc a0a [.bool false,.slice none 0 0]),o 8 (.alloc a0a [.bool false,.slice none 0 0]),⟨none,none,.store 2 (t 7) (t 29)⟩,⟨none,none,.store 2 (t 8) (t 30)⟩,mV 9 31]
def C0r:SS:=[lA 33 2 3,lA 34 2 6,o 35 (.call x0X [t 33,t 34] true),mV 32 35,o 36 (.ext (t 32) 0),o 37 (.ext (t 32) 1),o 38 (.ext (t 32) 2),o 10 (.alloc a0a [.bool false,.slice none 0 0]),o 11 (.alloc a0a [.bool false,.slice none 0 0]),⟨none,none,.store 2 (t 10) (t 36)⟩,⟨none,none,.store 2 (t 11) (t 37)⟩,mV 12 38]
def C0s:SS:=[fA 39 0 10,lD 40 39]
def C0t:SS:=[lA 41 2 7,o 42 (.call t0m [t 41] true),⟨none,none,.store 2 (t 7) (t 42)⟩]
def w0p:SS:=[lA 43 2 10,o 44 (.call t0m [t 43] true),⟨none,none,.store 2 (t 10) (t 44)⟩]
def q0n:SS:=[lA 45 2 7,lA 46 2 10,o 47 (.build [.bool false,.slice none 0 0,.bool false,.slice none 0 0] [(0,2,t 45),(2,2,t 46)]),⟨none,none,.store 4 (t 4) (t 47)⟩,o 5 (.mv (i 0))]
def L0p:SF:=⟨2,48,[.cell 4 true 4,.tmp 5],
 (qS (gR C0l) (qS (gR C0m) (qS (gR C0n) (qS (qS (gR C0o) (.cond (t 20) (qS (gR U0n) .ret) .skip)) (qS (gR C0p) (qS (gR C0q) (qS (gR C0r) (qS (qS (gR C0s) (.cond (t 40) (qS (gR C0t) (gR w0p)) .skip)) (qS (gR q0n) .ret)))))))))⟩
def C0u:SS:=[o 2 (.box a0a (t 0)),o 3 (.box a0a (t 1)),o 4 (.alloc a0a [.bool false,.slice none 0 0])]
def C0v:SS:=[lA 5 2 2,o 6 (.call i0t [t 5] true),⟨none,none,.store 2 (t 2) (t 6)⟩]
def C0w:SS:=[lA 7 2 3,o 8 (.call i0t [t 7] true),⟨none,none,.store 2 (t 3) (t 8)⟩]
def t0M:SS:=[fA 9 0 2,lD 10 9,fA 11 0 3,lD 12 11,o 13 (.bin 1 .eql (t 10) (t 12))]
def C0x:SS:=[fA 14 0 2,lD 15 14,fA 16 1 2,lD 17 16,fA 18 1 3,lD 19 18,o 20 (.call z0Q [t 17,t 19] false),o 21 (.call t0r [t 15,t 20] true),⟨none,none,.store 2 (t 4) (t 21)⟩]
def C0y:SS:=[fA 22 1 2,lD 23 22,fA 24 1 3,lD 25 24,o 26 (.call t0n [t 23,t 25] true),o 27 (.bin 0 .geq (t 26) (i 0))]
def C0z:SS:=[fA 28 0 2,lD 29 28,fA 30 1 2,lD 31 30,fA 32 1 3,lD 33 32,o 34 (.call r0A [t 31,t 33] false),o 35 (.call t0r [t 29,t 34] true),⟨none,none,.store 2 (t 4) (t 35)⟩]
def C0A:SS:=[fA 36 0 3,lD 37 36,fA 38 1 3,lD 39 38,fA 40 1 2,lD 41 40,o 42 (.call r0A [t 39,t 41] false),o 43 (.call t0r [t 37,t 42] true),⟨none,none,.store 2 (t 4) (t 43)⟩]
def L0q:SF:=⟨2,44,[.cell 4 true 2],
 (qS (gR C0u) (qS (gR C0v) (qS (gR C0w) (qS (qS (gR t0M) (.cond (t 13) (qS (.draw C0x [0,1,0,4,0,16,60,127,255] []) .ret) .skip)) (qS (qS (gR C0y) (.cond (t 27) (qS (.draw C0z [0,1,0,4,0,16,60,127,255] []) .ret) .skip)) (qS (.draw C0A [0,1,0,4,0,16,60,127,255] []) .ret))))))⟩
def C0B:SS:=[o 1 (.box a0b (t 0)),o 2 (.mv (.const (.bool false)))]
def m0P:SS:=[fA 3 0 1,fA 4 0 3,lD 5 4,o 6 (.un .not (t 5)),mV 7 6,og 8 7 true (.fa 0 (t 1)),og 9 7 true (.fa 1 (t 8)),og 10 7 true (.load false 1 (t 9)),og 11 7 true (.len (t 10)),og 12 7 true (.bin 0 .eql (t 11) (i 0)),o 13 (.pick (t 7) (t 12) (.const (.bool false))),mV 14 13,og 15 14 true (.fa 2 (t 1)),og 16 14 true (.fa 0 (t 15)),og 17 14 true (.load false 1 (t 16)),og 18 14 true (.un .not (t 17)),o 19 (.pick (t 14) (t 18) (.const (.bool false))),mV 20 19,og 21 20 true (.fa 2 (t 1)),og 22 20 true (.fa 1 (t 21)),og 23 20 true (.load false 1 (t 22)),og 24 20 true (.len (t 23)),og 25 20 true (.bin 0 .eql (t 24) (i 0)),o 26 (.pick (t 20) (t 25) (.const (.bool false))),mV 2 26]
def L0r:SF:=⟨1,27,[.tmp 2],
 (qS (gR C0B) (qS (gR m0P) .ret))⟩
def C0C:SS:=[o 0 (.alloc a0a [.bool false,.slice none 0 0])]
def C0D:SS:=[o 1 (.call k0Z [i 1] true),⟨none,none,.store 2 (t 0) (t 1)⟩]
def L0s:SF:=⟨0,2,[.cell 0 true 2],
 (qS (gR C0C) (qS (gR C0D) .ret))⟩
def C0E:SS:=[o 2 (.box a0a (t 0)),o 3 (.box a0a (t 1)),o 4 (.alloc a0b [.bool false,.slice none 0 0,.bool false,.slice none 0 0]),o 5 (.mv (i 0))]
def C0F:SS:=[lA 7 2 3,o 8 (.call x0U [t 7] true)]
def U0o:SS:=[o 9 (.build [.bool false,.slice none 0 0,.bool false,.slice none 0 0] []),⟨none,none,.store 4 (t 4) (t 9)⟩,o 5 (.mv (i 11))]
def C0G:SS:=[lA 10 2 2,lA 11 2 3,o 12 (.call r0y [t 10,t 11] true),o 6 (.alloc a0a [.bool false,.slice none 0 0]),⟨none,none,.store 2 (t 6) (t 12)⟩]
def C0H:SS:=[lA 13 2 3,o 14 (.build [.bool false,.slice none 0 0] []),o 15 (.call n0y [t 13,t 14] true),o 16 (.bin 0 .lss (t 15) (i 0))]
def C0I:SS:=[lA 17 2 6,o 18 (.call r0B [t 17] true),⟨none,none,.store 2 (t 6) (t 18)⟩]
def t0N:SS:=[lA 20 2 2,lA 21 2 6,o 22 (.call l0T [t 20,t 21] true),mV 19 22,o 23 (.ext (t 19) 0),o 24 (.ext (t 19) 1),o 25 (.ext (t 19) 2),⟨none,none,.store 2 (t 2) (t 23)⟩]
def t0O:SS:=[lA 27 2 3,lA 28 2 6,o 29 (.call l0T [t 27,t 28] true),mV 26 29,o 30 (.ext (t 26) 0),o 31 (.ext (t 26) 1),o 32 (.ext (t 26) 2),⟨none,none,.store 2 (t 3) (t 30)⟩]
def t0P:SS:=[lA 33 2 2,lA 34 2 3,o 35 (.build [.bool false,.slice none 0 0,.bool false,.slice none 0 0] [(0,2,t 33),(2,2,t 34)]),⟨none,none,.store 4 (t 4) (t 35)⟩,o 5 (.mv (i 0))]
def L0t:SF:=⟨2,36,[.cell 4 true 4,.tmp 5],
 (qS (gR C0E) (qS (qS (gR C0F) (.cond (t 8) (qS (gR U0o) .ret) .skip)) (qS (gR C0G) (qS (qS (gR C0H) (.cond (t 16) (gR C0I) .skip)) (qS (gR t0N) (qS (gR t0O) (qS (gR t0P) .ret)))))))⟩
def C0J:SS:=[o 1 (.box a0a (t 0)),o 2 (.mv (.const (.slice none 0 0)))]
def C0K:SS:=[lA 3 2 1,o 4 (.call r0x [t 3] true),o 5 (.un .not (t 4))]
def C0L:SS:=[o 2 (.mv (.const (.slice none 0 0)))]
def C0M:SS:=[fA 6 1 1,lD 7 6,mV 2 7]
def L0u:SF:=⟨1,8,[.tmp 2],
 (qS (gR C0J) (qS (qS (gR C0K) (.cond (t 5) (qS (gR C0L) .ret) .skip)) (qS (gR C0M) .ret)))⟩
def C0N:SS:=[o 1 (.box a0a (t 0)),o 2 (.mv (.const (.bool false)))]
def C0O:SS:=[lA 3 2 1,o 4 (.call r0x [t 3] true),mV 5 4,og 6 5 true (.fa 0 (t 1)),og 7 5 true (.load false 1 (t 6)),o 8 (.pick (t 5) (t 7) (.const (.bool false))),mV 2 8]
def L0v:SF:=⟨1,9,[.tmp 2],
 (qS (gR C0N) (qS (gR C0O) .ret))⟩
def C0P:SS:=[o 4 (.alloc a0a [.bool false,.slice none 0 0])]
def C0Q:SS:=[mV 6 1,lN 7 6,mV 5 7]
def t0Q:SS:=[mV 8 5,o 9 (.bin 0 .gtr (t 8) (i 0)),mV 10 9,og 11 10 true (.mv (t 1)),og 12 10 true (.mv (t 5)),og 13 10 true (.bin 0 .sub (t 12) (i 1)),og 14 10 true (.ia 1 (t 11) (t 13)),og 15 10 true (.load false 1 (t 14)),og 16 10 true (.bin 0 .eql (t 15) (.const (.int .u32 0))),o 17 (.pick (t 10) (t 16) (.const (.bool false)))]
def C0R:SS:=[mV 18 5,o 19 (.bin 0 .sub (t 18) (i 1)),mV 5 19]
def C0S:SS:=[mV 20 5,o 21 (.bin 0 .eql (t 20) (i 0))]
def C0T:SS:=[o 22 (.build [.bool false,.slice none 0 0] []),⟨none,none,.store 2 (t 4) (t 22)⟩]
def C0U:SS:=[mV 23 0,mV 24 1,mV 25 5,o 26 (.sl a0j 1 (t 24) none (some (t 25)) none),o 27 (.call z0R [t 26] true),o 28 (.build [.bool false,.slice none 0 0] [(0,1,t 23),(1,1,t 27)]),⟨none,none,.store 2 (t 4) (t 28)⟩]
def L0w:SF:=⟨2,29,[.cell 4 true 2],
 (qS (gR C0P) (qS (gR C0Q) (qS (.block 0 (.loop (qS (qS (gR t0Q) (.cond (t 17) .skip (.exit 0))) (.block 1 (gR C0R))))) (qS (qS (gR C0S) (.cond (t 21) (qS (gR C0T) .ret) .skip)) (qS (gR C0U) .ret)))))⟩
def C0V:SS:=[o 4 (.mv (.const (.slice none 0 0)))]
def C0W:SS:=[mV 9 0,lN 10 9,mV 11 1,lN 12 11,o 13 (.bin 0 .lss (t 10) (t 12))]
def C0X:SS:=[mV 14 1,mV 15 0,mV 0 14,mV 1 15]
def C0Y:SS:=[mV 16 0,lN 17 16,o 18 (.bin 0 .add (t 17) (i 1)),o 19 (.mk a0j 4 [.int .u32 0] (i 0) (t 18)),mV 5 19]
def C0Z:SS:=[o 6 (.mv (.const (.int .u64 0)))]
def D0a:SS:=[mV 20 0,lN 21 20,o 22 (.mv (i 0))]
def q0s:SS:=[o 23 (.bin 0 .lss (t 22) (t 21))]
def t0R:SS:=[mV 24 22,iA 25 1 20 22,lD 26 25,mV 7 24,mV 8 26]
def t0S:SS:=[mV 27 6,mV 28 8,o 29 (.conv .u64 (t 28)),o 30 (.bin 0 .add (t 27) (t 29)),mV 6 30]
def t0T:SS:=[mV 31 7,mV 32 1,lN 33 32,o 34 (.bin 0 .lss (t 31) (t 33))]
def q0o:SS:=[mV 35 6,mV 36 1,mV 37 7,iA 38 1 36 37,lD 39 38,o 40 (.conv .u64 (t 39)),o 41 (.bin 0 .add (t 35) (t 40)),mV 6 41]
def q0p:SS:=[mV 42 5,mV 43 6,o 44 (.call f0F [t 43] true),o 45 (.lit a0j [.int .u32 0] 1 [(0,1,t 44)]),o 46 (.app a0j 1 4 (t 42) (t 45)),mV 5 46]
def q0q:SS:=[mV 47 6,o 48 (.bin 0 .shr (t 47) (.const (.int .u64 32))),mV 6 48]
def q0r:SS:=[o 49 (.bin 0 .add (t 22) (i 1)),mV 22 49]
def w0q:SS:=[mV 50 5,mV 51 6,o 52 (.call f0F [t 51] true),o 53 (.lit a0j [.int .u32 0] 1 [(0,1,t 52)]),o 54 (.app a0j 1 4 (t 50) (t 53)),mV 4 54]
def L0x:SF:=⟨2,55,[.tmp 4],
 (qS (gR C0V) (qS (qS (gR C0W) (.cond (t 13) (gR C0X) .skip)) (qS (gR C0Y) (qS (gR C0Z) (qS (qS (gR D0a) (.block 0 (.loop (qS (gR q0s) (qS (.cond (t 23) .skip (.exit 0)) (qS (.block 1 (qS (gR t0R) (qS (gR t0S) (qS (qS (gR t0T) (.cond (t 34) (gR q0o) .skip)) (qS (gR q0p) (gR q0q)))))) (gR q0r))))))) (qS (gR w0q) .ret))))))⟩
def D0b:SS:=[o 4 (.mv (i 0))]
def D0c:SS:=[mV 6 0,lN 7 6,mV 8 1,lN 9 8,o 10 (.bin 0 .neq (t 7) (t 9))]
def D0d:SS:=[mV 11 0,lN 12 11,mV 13 1,lN 14 13,o 15 (.call z0S [t 12,t 14] true),mV 4 15]
def D0e:SS:=[mV 16 0,lN 17 16,o 18 (.bin 0 .sub (t 17) (i 1)),mV 5 18]
def t0U:SS:=[mV 19 5,o 20 (.bin 0 .geq (t 19) (i 0))]
def D0f:SS:=[mV 23 0,mV 24 5,iA 25 1 23 24,lD 26 25,mV 27 1,mV 28 5,iA 29 1 27 28,lD 30 29,o 31 (.bin 0 .neq (t 26) (t 30))]
def D0g:SS:=[mV 32 0,mV 33 5,iA 34 1 32 33,lD 35 34,mV 36 1,mV 37 5,iA 38 1 36 37,lD 39 38,o 40 (.call z0T [t 35,t 39] true),mV 4 40]
def D0h:SS:=[mV 21 5,o 22 (.bin 0 .sub (t 21) (i 1)),mV 5 22]
def D0i:SS:=[o 4 (.mv (i 0))]
def L0y:SF:=⟨2,41,[.tmp 4],
 (qS (gR D0b) (qS (qS (gR D0c) (.cond (t 10) (qS (gR D0d) .ret) .skip)) (qS (qS (gR D0e) (.block 0 (.loop (qS (qS (gR t0U) (.cond (t 20) .skip (.exit 0))) (qS (.block 1 (qS (.draw D0f [0,0,3,7,0,0,48,112,255] []) (.cond (t 31) (qS (.draw D0g [0,0,3,7,0,0,48,112,255,511] []) .ret) .skip))) (gR D0h)))))) (qS (gR D0i) .ret))))⟩
def D0j:SS:=[o 4 (.mv (.const (.slice none 0 0)))]
def D0k:SS:=[mV 11 0,lN 12 11,o 13 (.mk a0j 4 [.int .u32 0] (i 0) (t 12)),mV 5 13]
def D0l:SS:=[o 6 (.mv (.const (.int .u64 0)))]
def D0m:SS:=[mV 14 0,lN 15 14,o 16 (.mv (i 0))]
def q0w:SS:=[o 17 (.bin 0 .lss (t 16) (t 15))]
def t0V:SS:=[mV 18 16,iA 19 1 14 16,lD 20 19,mV 7 18,mV 8 20]
def t0W:SS:=[mV 21 6,mV 9 21]
def t0X:SS:=[mV 22 7,mV 23 1,lN 24 23,o 25 (.bin 0 .lss (t 22) (t 24))]
def t0Y:SS:=[mV 26 9,mV 27 1,mV 28 7,iA 29 1 27 28,lD 30 29,o 31 (.conv .u64 (t 30)),o 32 (.bin 0 .add (t 26) (t 31)),mV 9 32]
def t0Z:SS:=[mV 33 8,o 34 (.conv .u64 (t 33)),mV 35 9,o 36 (.bin 0 .sub (t 34) (t 35)),mV 10 36]
def q0t:SS:=[mV 37 5,mV 38 10,o 39 (.call f0F [t 38] true),o 40 (.lit a0j [.int .u32 0] 1 [(0,1,t 39)]),o 41 (.app a0j 1 4 (t 37) (t 40)),mV 5 41]
def q0u:SS:=[mV 42 10,o 43 (.bin 0 .shr (t 42) (.const (.int .u64 63))),mV 6 43]
def q0v:SS:=[o 44 (.bin 0 .add (t 16) (i 1)),mV 16 44]
def w0r:SS:=[mV 45 5,mV 4 45]
def L0z:SF:=⟨2,46,[.tmp 4],
 (qS (gR D0j) (qS (gR D0k) (qS (gR D0l) (qS (qS (gR D0m) (.block 0 (.loop (qS (gR q0w) (qS (.cond (t 17) .skip (.exit 0)) (qS (.block 1 (qS (gR t0V) (qS (gR t0W) (qS (qS (gR t0X) (.cond (t 25) (gR t0Y) .skip)) (qS (gR t0Z) (qS (gR q0t) (gR q0u))))))) (gR q0v))))))) (qS (gR w0r) .ret)))))⟩
def D0n:SS:=[o 2 (.mv (.const (.int .u32 0)))]
def D0o:SS:=[mV 3 0,o 4 (.conv .u32 (t 3)),mV 2 4]
def L0A:SF:=⟨1,5,[.tmp 2],
 (qS (gR D0n) (qS (gR D0o) .ret))⟩
def D0p:SS:=[o 2 (.alloc a0a [.bool false,.slice none 0 0])]
def D0q:SS:=[mV 4 0,o 5 (.conv .u64 (t 4)),mV 3 5]
def D0r:SS:=[mV 6 0,o 7 (.bin 0 .lss (t 6) (i 0))]
def D0s:SS:=[mV 8 3,o 9 (.un .neg (t 8)),mV 3 9]
def D0t:SS:=[mV 10 0,o 11 (.bin 0 .lss (t 10) (i 0)),mV 12 3,o 13 (.call f0F [t 12] true),mV 14 3,o 15 (.bin 0 .shr (t 14) (.const (.int .u64 32))),o 16 (.call f0F [t 15] true),o 17 (.lit a0j [.int .u32 0] 2 [(0,1,t 13),(1,1,t 16)]),o 18 (.call g0p [t 11,t 17] true),⟨none,none,.store 2 (t 2) (t 18)⟩]
def L0B:SF:=⟨1,19,[.cell 2 true 2],
 (qS (gR D0p) (qS (gR D0q) (qS (qS (gR D0r) (.cond (t 7) (gR D0s) .skip)) (qS (gR D0t) .ret))))⟩
def D0u:SS:=[o 2 (.box a0a (t 0)),o 3 (.box a0a (t 1)),o 4 (.mv (i 0))]
def D0v:SS:=[lA 6 2 2,o 7 (.call e0f [t 6] true),mV 8 7,og 9 8 true (.load true 2 (t 3)),og 10 8 true (.call e0f [t 9] true),og 11 8 true (.un .not (t 10)),o 12 (.pick (t 8) (t 11) (.const (.bool false))),mV 5 12]
def D0w:SS:=[o 4 (.mv (.const (.int .i64 (-1))))]
def u0a:SS:=[lA 14 2 2,o 15 (.call e0f [t 14] true),o 16 (.un .not (t 15)),mV 17 16,og 18 17 true (.load true 2 (t 3)),og 19 17 true (.call e0f [t 18] true),o 20 (.pick (t 17) (t 19) (.const (.bool false))),mV 13 20]
def D0x:SS:=[o 4 (.mv (i 1))]
def u0b:SS:=[lA 22 2 2,o 23 (.call e0f [t 22] true),mV 21 23]
def D0y:SS:=[lA 24 2 3,o 25 (.call f0E [t 24] false),lA 26 2 2,o 27 (.call f0E [t 26] true),o 28 (.call r0w [t 25,t 27] true),mV 4 28]
def D0z:SS:=[lA 29 2 2,o 30 (.call f0E [t 29] false),lA 31 2 3,o 32 (.call f0E [t 31] true),o 33 (.call r0w [t 30,t 32] true),mV 4 33]
def L0C:SF:=⟨2,34,[.tmp 4],
 (qS (gR D0u) (qS (.block 0 (qS (gR D0v) (.cond (t 5) (qS (gR D0w) .ret) (qS (gR u0a) (.cond (t 13) (qS (gR D0x) .ret) (qS (gR u0b) (.cond (t 21) (qS (.draw D0y [0,1,0,7,15,31] []) .ret) .skip))))))) (qS (.draw D0z [0,1,0,7,15,31] []) .ret)))⟩
def D0A:SS:=[o 2 (.box a0a (t 0)),o 3 (.box a0a (t 1)),o 4 (.alloc a0a [.bool false,.slice none 0 0])]
def D0B:SS:=[lA 9 2 2,o 10 (.call i0t [t 9] false),o 11 (.fld false 1 1 (t 10)),lA 12 2 3,o 13 (.call i0t [t 12] true),o 14 (.fld false 1 1 (t 13)),mV 5 11,mV 6 14]
def u0c:SS:=[mV 15 6,lN 16 15,o 17 (.bin 0 .gtr (t 16) (i 0))]
def D0C:SS:=[mV 19 5,mV 20 6,o 21 (.call x0Y [t 19,t 20] true),mV 18 21,o 22 (.ext (t 18) 0),o 23 (.ext (t 18) 1),mV 7 22,mV 8 23]
def D0D:SS:=[mV 24 6,mV 5 24]
def D0E:SS:=[mV 25 8,mV 6 25]
def D0F:SS:=[mV 26 5,o 27 (.call t0r [(.const (.bool false)),t 26] true),⟨none,none,.store 2 (t 4) (t 27)⟩]
def L0D:SF:=⟨2,28,[.cell 4 true 2],
 (qS (gR D0A) (qS (.draw D0B [0,1,3,0,11,27,31,127] []) (qS (.block 0 (.loop (qS (qS (gR u0c) (.cond (t 17) .skip (.exit 0))) (.block 1 (qS (gR D0C) (qS (gR D0D) (gR D0E))))))) (qS (gR D0F) .ret))))⟩
def D0G:SS:=[o 1 (.box a0a (t 0)),o 2 (.mv (.const (.bool false)))]
def D0H:SS:=[fA 4 1 1,lD 5 4,lN 6 5,mV 3 6]
def u0d:SS:=[mV 7 3,o 8 (.bin 0 .eql (t 7) (i 0)),mV 9 8,og 10 9 true (.fa 0 (t 1)),og 11 9 true (.load false 1 (t 10)),og 12 9 true (.un .not (t 11)),o 13 (.pick (t 9) (t 12) (.const (.bool false))),mV 14 13,og 15 14 false (.mv (t 3)),og 16 14 false (.bin 0 .gtr (t 15) (i 0)),og 17 14 false (.mv (t 16)),og 18 17 true (.fa 1 (t 1)),og 19 17 true (.load false 1 (t 18)),og 20 17 true (.mv (t 3)),og 21 17 true (.bin 0 .sub (t 20) (i 1)),og 22 17 true (.ia 1 (t 19) (t 21)),og 23 17 true (.load false 1 (t 22)),og 24 17 true (.bin 0 .neq (t 23) (.const (.int .u32 0))),og 25 14 false (.pick (t 17) (t 24) (.const (.bool false))),o 26 (.pick (t 14) (.const (.bool true)) (t 25)),mV 2 26]
def L0E:SF:=⟨1,27,[.tmp 2],
 (qS (gR D0G) (qS (gR D0H) (qS (gR u0d) .ret)))⟩
def D0I:SS:=[o 1 (.box a0a (t 0)),o 2 (.mv (.const (.bool false)))]
def D0J:SS:=[fA 3 1 1,lD 4 3,lN 5 4,o 6 (.bin 0 .eql (t 5) (i 0))]
def D0K:SS:=[fA 7 0 1,lD 8 7,o 9 (.un .not (t 8)),mV 2 9]
def D0L:SS:=[fA 10 1 1,lD 11 10,fA 12 1 1,lD 13 12,lN 14 13,o 15 (.bin 0 .sub (t 14) (i 1)),iA 16 1 11 15,lD 17 16,o 18 (.bin 0 .neq (t 17) (.const (.int .u32 0))),mV 2 18]
def L0F:SF:=⟨1,19,[.tmp 2],
 (qS (gR D0I) (qS (qS (gR D0J) (.cond (t 6) (qS (gR D0K) .ret) .skip)) (qS (gR D0L) .ret)))⟩
def D0M:SS:=[o 1 (.box a0a (t 0)),o 2 (.mv (.const (.bool false)))]
def D0N:SS:=[lA 3 2 1,o 4 (.build [.bool false,.slice none 0 0] []),o 5 (.call n0y [t 3,t 4] true),o 6 (.bin 0 .eql (t 5) (i 0)),mV 2 6]
def L0G:SF:=⟨1,7,[.tmp 2],
 (qS (gR D0M) (qS (gR D0N) .ret))⟩
def D0O:SS:=[o 2 (.box a0a (t 0)),o 3 (.box a0a (t 1)),o 4 (.alloc a0a [.bool false,.slice none 0 0])]
def D0P:SS:=[lA 10 2 2,o 11 (.call f0E [t 10] false),o 12 (.call g0p [(.const (.bool false)),t 11] false),lA 13 2 3,o 14 (.call f0E [t 13] false),o 15 (.call g0p [(.const (.bool false)),t 14] false),o 5 (.alloc a0a [.bool false,.slice none 0 0]),o 6 (.alloc a0a [.bool false,.slice none 0 0]),⟨none,none,.store 2 (t 5) (t 12)⟩,⟨none,none,.store 2 (t 6) (t 15)⟩]
def u0e:SS:=[fA 16 1 6,lD 17 16,lN 18 17,o 19 (.bin 0 .gtr (t 18) (i 0))]
def D0Q:SS:=[lA 21 2 5,lA 22 2 6,o 23 (.call l0T [t 21,t 22] true),mV 20 23,o 24 (.ext (t 20) 0),o 25 (.ext (t 20) 1),o 26 (.ext (t 20) 2),o 7 (.alloc a0a [.bool false,.slice none 0 0]),o 8 (.alloc a0a [.bool false,.slice none 0 0]),⟨none,none,.store 2 (t 7) (t 24)⟩,⟨none,none,.store 2 (t 8) (t 25)⟩,mV 9 26]
def D0R:SS:=[lA 27 2 6,lA 28 2 8,⟨none,none,.store 2 (t 5) (t 27)⟩,⟨none,none,.store 2 (t 6) (t 28)⟩]
def D0S:SS:=[lA 29 2 5,⟨none,none,.store 2 (t 4) (t 29)⟩]
def L0H:SF:=⟨2,30,[.cell 4 true 2],
 (qS (gR D0O) (qS (.draw D0P [0,1,3,0,15,31,0,0,255,511] []) (qS (.block 0 (.loop (qS (qS (gR u0e) (.cond (t 19) .skip (.exit 0))) (.block 1 (qS (gR D0Q) (.draw D0R [0,0,1,7] [(1,2)])))))) (qS (gR D0S) .ret))))⟩
def D0T:SS:=[o 1 (.box a0a (t 0)),o 2 (.alloc a0a [.bool false,.slice none 0 0])]
def D0U:SS:=[lA 3 2 1,o 4 (.call i0t [t 3] true),⟨none,none,.store 2 (t 1) (t 4)⟩]
def D0V:SS:=[fA 5 0 1,lD 6 5,o 7 (.un .not (t 6)),fA 8 1 1,lD 9 8,o 10 (.call t0r [t 7,t 9] true),⟨none,none,.store 2 (t 2) (t 10)⟩]
def L0I:SF:=⟨1,11,[.cell 2 true 2],
 (qS (gR D0T) (qS (gR D0U) (qS (gR D0V) .ret)))⟩
def D0W:SS:=[o 4 (.mv (i 0))]
def D0X:SS:=[mV 6 0,lN 7 6,o 8 (.mv (i 0))]
def U0p:SS:=[o 9 (.bin 0 .lss (t 8) (t 7))]
def D0Y:SS:=[mV 10 8,mV 5 10]
def D0Z:SS:=[mV 11 1,mV 12 0,mV 13 5,iA 14 1 12 13,lD 15 14,o 16 (.callv (t 11) [t 15] true)]
def E0a:SS:=[mV 17 5,mV 4 17]
def U0q:SS:=[o 18 (.bin 0 .add (t 8) (i 1)),mV 8 18]
def E0b:SS:=[o 4 (.mv (.const (.int .i64 (-1))))]
def L0J:SF:=⟨2,19,[.tmp 4],
 (qS (gR D0W) (qS (qS (gR D0X) (.block 0 (.loop (qS (gR U0p) (qS (.cond (t 9) .skip (.exit 0)) (qS (.block 1 (qS (gR D0Y) (qS (gR D0Z) (.cond (t 16) (qS (gR E0a) .ret) .skip)))) (gR U0q))))))) (qS (gR E0b) .ret)))⟩
def E0c:SS:=[o 2 (.mv (.const (.slice none 0 0))),o 3 (.alloc a0b [.bool false,.slice none 0 0,.bool false,.slice none 0 0])]
def E0d:SS:=[o 21 (.call k0Z [i 1] true),o 4 (.alloc a0a [.bool false,.slice none 0 0]),⟨none,none,.store 2 (t 4) (t 21)⟩]
def E0e:SS:=[mV 22 0,lN 23 22,o 24 (.mv (i 0))]
def U0r:SS:=[o 25 (.bin 0 .lss (t 24) (t 23))]
def E0f:SS:=[iA 26 4 22 24,lA 27 4 26,o 6 (.alloc a0b [.bool false,.slice none 0 0,.bool false,.slice none 0 0]),⟨none,none,.store 4 (t 6) (t 27)⟩]
def E0g:SS:=[fA 29 2 6,lA 30 2 29,lA 31 2 4,fA 32 2 6,lA 33 2 32,o 34 (.call r0y [t 31,t 33] false),o 35 (.call l0T [t 30,t 34] false),mV 28 35,o 36 (.ext (t 28) 0),o 37 (.ext (t 28) 1),o 38 (.ext (t 28) 2),o 7 (.alloc a0a [.bool false,.slice none 0 0]),o 8 (.alloc a0a [.bool false,.slice none 0 0]),⟨none,none,.store 2 (t 7) (t 36)⟩,⟨none,none,.store 2 (t 8) (t 37)⟩,mV 9 38]
def E0h:SS:=[lA 39 2 4,lA 40 2 7,o 41 (.call r0G [t 39,t 40] true),⟨none,none,.store 2 (t 4) (t 41)⟩]
def U0s:SS:=[o 42 (.bin 0 .add (t 24) (i 1)),mV 24 42]
def E0i:SS:=[o 10 (.mv (.const (.slice none 0 0)))]
def E0j:SS:=[o 43 (.build [.bool false,.slice none 0 0] []),o 11 (.alloc a0a [.bool false,.slice none 0 0]),⟨none,none,.store 2 (t 11) (t 43)⟩]
def w0s:SS:=[mV 44 0,lN 45 44,o 46 (.mv (i 0))]
def K0W:SS:=[o 47 (.bin 0 .lss (t 46) (t 45))]
def w0t:SS:=[iA 48 4 44 46,lA 49 4 48,o 13 (.alloc a0b [.bool false,.slice none 0 0,.bool false,.slice none 0 0]),⟨none,none,.store 4 (t 13) (t 49)⟩]
def w0u:SS:=[lA 51 2 4,fA 52 2 13,lA 53 2 52,o 54 (.call l0T [t 51,t 53] true),mV 50 54,o 55 (.ext (t 50) 0),o 56 (.ext (t 50) 1),o 57 (.ext (t 50) 2),o 14 (.alloc a0a [.bool false,.slice none 0 0]),o 15 (.alloc a0a [.bool false,.slice none 0 0]),⟨none,none,.store 2 (t 14) (t 55)⟩,⟨none,none,.store 2 (t 15) (t 56)⟩,mV 16 57]
def w0v:SS:=[fA 58 0 13,lA 59 2 58,lA 60 2 14,o 61 (.call r0G [t 59,t 60] true),o 17 (.alloc a0a [.bool false,.slice none 0 0]),⟨none,none,.store 2 (t 17) (t 61)⟩]
def w0w:SS:=[mV 62 10,lA 63 2 17,o 64 (.lit a0a [.bool false,.slice none 0 0] 1 [(0,2,t 63)]),o 65 (.app a0a 2 32 (t 62) (t 64)),mV 10 65]
def w0x:SS:=[lA 66 2 11,lA 67 2 17,o 68 (.call r0y [t 66,t 67] true),⟨none,none,.store 2 (t 11) (t 68)⟩]
def K0X:SS:=[o 69 (.bin 0 .add (t 46) (i 1)),mV 46 69]
def w0y:SS:=[lA 70 2 11,o 71 (.build [.bool false,.slice none 0 0] []),o 72 (.call n0y [t 70,t 71] true),o 73 (.bin 0 .eql (t 72) (i 0))]
def w0z:SS:=[o 74 (.call k0Z [i 1] true),⟨none,none,.store 2 (t 11) (t 74)⟩]
def q0x:SS:=[mV 75 10,lN 76 75,o 77 (.mv (i 0))]
def K0Y:SS:=[o 78 (.bin 0 .lss (t 77) (t 76))]
def q0y:SS:=[mV 79 77,mV 18 79]
def q0z:SS:=[mV 81 10,mV 82 18,mV 83 10,mV 84 18,iA 85 2 83 84,lA 86 2 85,lA 87 2 11,o 88 (.call l0T [t 86,t 87] true),mV 80 88,o 89 (.ext (t 80) 0),o 90 (.ext (t 80) 1),o 91 (.ext (t 80) 2),iA 92 2 81 82,⟨none,none,.store 2 (t 92) (t 89)⟩]
def K0Z:SS:=[o 93 (.bin 0 .add (t 77) (i 1)),mV 77 93]
def q0A:SS:=[lA 95 2 4,lA 96 2 11,o 97 (.call p0z [t 95,t 96] true),mV 94 97,o 98 (.ext (t 94) 0),o 99 (.ext (t 94) 1),o 19 (.alloc a0b [.bool false,.slice none 0 0,.bool false,.slice none 0 0]),⟨none,none,.store 4 (t 19) (t 98)⟩,mV 20 99]
def q0B:SS:=[mV 100 10,lA 101 4 19,mV 2 100,⟨none,none,.store 4 (t 3) (t 101)⟩]
def L0K:SF:=⟨1,102,[.tmp 2,.cell 3 true 4],
 (qS (gR E0c) (qS (gR E0d) (qS (qS (gR E0e) (.block 0 (.loop (qS (gR U0r) (qS (.cond (t 25) .skip (.exit 0)) (qS (.block 1 (qS (gR E0f) (qS (.draw E0g [0,1,0,0,8,28,63,127,255,255,255,0,0,6655,15359,32767] []) (gR E0h)))) (gR U0s))))))) (qS (gR E0i) (qS (gR E0j) (qS (qS (gR w0s) (.block 2 (.loop (qS (gR K0W) (qS (.cond (t 47) .skip (.exit 2)) (qS (.block 3 (qS (gR w0t) (qS (gR w0u) (qS (gR w0v) (qS (gR w0w) (gR w0x)))))) (gR K0X))))))) (qS (qS (gR w0y) (.cond (t 73) (gR w0z) .skip)) (qS (qS (gR q0x) (.block 4 (.loop (qS (gR K0Y) (qS (.cond (t 78) .skip (.exit 4)) (qS (.block 5 (qS (gR q0y) (.draw q0z [0,0,0,0,12,28,0,124,252,508,508,508,1023,5119] []))) (gR K0Z))))))) (qS (gR q0A) (qS (.draw q0B [0,0,1,7] []) .ret))))))))))⟩
def E0k:SS:=[o 2 (.mv (.const (.slice none 0 0)))]
def E0l:SS:=[mV 6 0,lN 7 6,o 8 (.bin 0 .add (t 7) (i 1)),o 9 (.mk a0b 64 [.bool false,.slice none 0 0,.bool false,.slice none 0 0] (i 0) (t 8)),mV 3 9]
def E0m:SS:=[mV 10 0,lN 11 10,o 12 (.mv (i 0))]
def U0t:SS:=[o 13 (.bin 0 .lss (t 12) (t 11))]
def E0n:SS:=[iA 14 4 10 12,lA 15 4 14,o 5 (.alloc a0b [.bool false,.slice none 0 0,.bool false,.slice none 0 0]),⟨none,none,.store 4 (t 5) (t 15)⟩]
def E0o:SS:=[mV 16 3,lA 17 4 5,o 18 (.build [.bool false,.slice none 0 0,.bool false,.slice none 0 0] []),o 19 (.call z0a [t 17,t 18] true),o 20 (.lit a0b [.bool false,.slice none 0 0,.bool false,.slice none 0 0] 1 [(0,4,t 19)]),o 21 (.app a0b 4 64 (t 16) (t 20)),mV 3 21]
def U0u:SS:=[o 22 (.bin 0 .add (t 12) (i 1)),mV 12 22]
def E0p:SS:=[mV 23 3,mV 2 23]
def L0L:SF:=⟨1,24,[.tmp 2],
 (qS (gR E0k) (qS (gR E0l) (qS (qS (gR E0m) (.block 0 (.loop (qS (gR U0t) (qS (.cond (t 13) .skip (.exit 0)) (qS (.block 1 (qS (gR E0n) (gR E0o))) (gR U0u))))))) (qS (gR E0p) .ret))))⟩
def E0r:SS:=[o 2 (.box a0a (t 0)),o 3 (.box a0a (t 1)),o 4 (.alloc a0a [.bool false,.slice none 0 0]),o 5 (.alloc a0a [.bool false,.slice none 0 0]),o 6 (.mv (i 0))]
def E0s:SS:=[lA 9 2 2,o 10 (.call i0t [t 9] true),⟨none,none,.store 2 (t 2) (t 10)⟩]
def E0t:SS:=[lA 11 2 3,o 12 (.call i0t [t 11] true),⟨none,none,.store 2 (t 3) (t 12)⟩]
def E0u:SS:=[fA 13 1 3,lD 14 13,lN 15 14,o 16 (.bin 0 .eql (t 15) (i 0))]
def U0v:SS:=[o 17 (.build [.bool false,.slice none 0 0] []),o 18 (.build [.bool false,.slice none 0 0] []),⟨none,none,.store 2 (t 4) (t 17)⟩,⟨none,none,.store 2 (t 5) (t 18)⟩,o 6 (.mv (i 1))]
def E0v:SS:=[fA 20 1 2,lD 21 20,fA 22 1 3,lD 23 22,o 24 (.call x0Y [t 21,t 23] true),mV 19 24,o 25 (.ext (t 19) 0),o 26 (.ext (t 19) 1),mV 7 25,mV 8 26]
def E0w:SS:=[fA 27 0 2,lD 28 27,fA 29 0 3,lD 30 29,o 31 (.bin 1 .neq (t 28) (t 30)),mV 32 7,o 33 (.call t0r [t 31,t 32] false),fA 34 0 2,lD 35 34,mV 36 8,o 37 (.call t0r [t 35,t 36] true),⟨none,none,.store 2 (t 4) (t 33)⟩,⟨none,none,.store 2 (t 5) (t 37)⟩,o 6 (.mv (i 0))]
def L0M:SF:=⟨2,38,[.cell 4 true 2,.cell 5 true 2,.tmp 6],
 (qS (gR E0r) (qS (gR E0s) (qS (gR E0t) (qS (qS (gR E0u) (.cond (t 16) (qS (gR U0v) .ret) .skip)) (qS (gR E0v) (qS (.draw E0w [0,1,0,4,15,0,63,0,128,0,1023,2047,4095,8191] []) .ret))))))⟩
def E0x:SS:=[o 4 (.mv (.const (.slice none 0 0)))]
def E0y:SS:=[o 5 (.mv (.const (.slice none 0 0)))]
def E0z:SS:=[o 6 (.mv (.const (.int .u64 0)))]
def E0A:SS:=[o 7 (.mv (i 0))]
def k0p:SS:=[mV 9 7,mV 10 0,lN 11 10,o 12 (.bin 0 .lss (t 9) (t 11)),mV 13 12,og 14 13 false (.mv (t 7)),og 15 13 false (.mv (t 1)),og 16 13 false (.len (t 15)),og 17 13 false (.bin 0 .lss (t 14) (t 16)),o 18 (.pick (t 13) (.const (.bool true)) (t 17)),mV 19 18,og 20 19 false (.mv (t 6)),og 21 19 false (.bin 0 .gtr (t 20) (.const (.int .u64 0))),o 22 (.pick (t 19) (.const (.bool true)) (t 21))]
def m0Q:SS:=[mV 25 6,mV 8 25]
def m0R:SS:=[mV 26 7,mV 27 0,lN 28 27,o 29 (.bin 0 .lss (t 26) (t 28))]
def m0S:SS:=[mV 30 8,mV 31 0,mV 32 7,iA 33 1 31 32,lD 34 33,o 35 (.conv .u64 (t 34)),o 36 (.bin 0 .add (t 30) (t 35)),mV 8 36]
def m0T:SS:=[mV 37 7,mV 38 1,lN 39 38,o 40 (.bin 0 .lss (t 37) (t 39))]
def m0U:SS:=[mV 41 8,mV 42 1,mV 43 7,iA 44 1 42 43,lD 45 44,o 46 (.conv .u64 (t 45)),o 47 (.bin 0 .add (t 41) (t 46)),mV 8 47]
def j0t:SS:=[mV 48 5,mV 49 8,o 50 (.conv .u32 (t 49)),o 51 (.lit a0j [.int .u32 0] 1 [(0,1,t 50)]),o 52 (.app a0j 1 4 (t 48) (t 51)),mV 5 52]
def j0u:SS:=[mV 53 8,o 54 (.bin 0 .shr (t 53) (.const (.int .u64 32))),mV 6 54]
def j0v:SS:=[mV 23 7,o 24 (.bin 0 .add (t 23) (i 1)),mV 7 24]
def w0A:SS:=[mV 55 5,o 56 (.call l0S [t 55] true),mV 4 56]
def L0N:SF:=⟨2,57,[.tmp 4],
 (qS (gR E0x) (qS (gR E0y) (qS (gR E0z) (qS (qS (gR E0A) (.block 0 (.loop (qS (qS (gR k0p) (.cond (t 22) .skip (.exit 0))) (qS (.block 1 (qS (gR m0Q) (qS (qS (gR m0R) (.cond (t 29) (gR m0S) .skip)) (qS (qS (gR m0T) (.cond (t 40) (gR m0U) .skip)) (qS (gR j0t) (gR j0u)))))) (gR j0v)))))) (qS (gR w0A) .ret)))))⟩
def q0C:SS:=[o 4 (.mv (i 0))]
def q0D:SS:=[mV 6 0,lN 7 6,mV 8 1,lN 9 8,o 10 (.bin 0 .neq (t 7) (t 9))]
def u0f:SS:=[mV 11 0,lN 12 11,mV 13 1,lN 14 13,o 15 (.bin 0 .lss (t 12) (t 14))]
def E0B:SS:=[o 4 (.mv (.const (.int .i64 (-1))))]
def E0C:SS:=[o 4 (.mv (i 1))]
def E0D:SS:=[mV 16 0,lN 17 16,o 18 (.bin 0 .sub (t 17) (i 1)),mV 5 18]
def u0g:SS:=[mV 19 5,o 20 (.bin 0 .geq (t 19) (i 0))]
def E0E:SS:=[mV 23 0,mV 24 5,iA 25 1 23 24,lD 26 25,mV 27 1,mV 28 5,iA 29 1 27 28,lD 30 29,o 31 (.bin 0 .lss (t 26) (t 30))]
def E0F:SS:=[o 4 (.mv (.const (.int .i64 (-1))))]
def E0G:SS:=[mV 32 0,mV 33 5,iA 34 1 32 33,lD 35 34,mV 36 1,mV 37 5,iA 38 1 36 37,lD 39 38,o 40 (.bin 0 .gtr (t 35) (t 39))]
def w0B:SS:=[o 4 (.mv (i 1))]
def w0C:SS:=[mV 21 5,o 22 (.bin 0 .sub (t 21) (i 1)),mV 5 22]
def w0D:SS:=[o 4 (.mv (i 0))]
def y0T:SF:=⟨2,41,[.tmp 4],
 (qS (gR q0C) (qS (qS (gR q0D) (.cond (t 10) (qS (qS (gR u0f) (.cond (t 15) (qS (gR E0B) .ret) .skip)) (qS (gR E0C) .ret)) .skip)) (qS (qS (gR E0D) (.block 0 (.loop (qS (qS (gR u0g) (.cond (t 20) .skip (.exit 0))) (qS (.block 1 (qS (qS (.draw E0E [0,0,3,7,0,0,48,112,255] []) (.cond (t 31) (qS (gR E0F) .ret) .skip)) (qS (.draw E0G [0,0,3,7,0,0,48,112,255] []) (.cond (t 40) (qS (gR w0B) .ret) .skip)))) (gR w0C)))))) (qS (gR w0D) .ret))))⟩
def E0I:SS:=[o 4 (.mv (.const (.slice none 0 0)))]
def E0J:SS:=[o 9 (.lit a0j [.int .u32 0] 0 []),mV 10 0,o 11 (.app a0j 1 4 (t 9) (t 10)),mV 5 11]
def E0K:SS:=[o 6 (.mv (.const (.int .u64 0)))]
def E0L:SS:=[o 7 (.mv (i 0))]
def E0M:SS:=[mV 12 7,mV 13 5,lN 14 13,o 15 (.bin 0 .lss (t 12) (t 14))]
def u0h:SS:=[mV 18 6,mV 8 18]
def u0i:SS:=[mV 19 7,mV 20 1,lN 21 20,o 22 (.bin 0 .lss (t 19) (t 21))]
def E0N:SS:=[mV 23 8,mV 24 1,mV 25 7,iA 26 1 24 25,lD 27 26,o 28 (.conv .u64 (t 27)),o 29 (.bin 0 .add (t 23) (t 28)),mV 8 29]
def m0V:SS:=[mV 30 5,mV 31 7,iA 32 1 30 31,lD 33 32,o 34 (.conv .u64 (t 33)),mV 35 8,o 36 (.bin 0 .geq (t 34) (t 35))]
def u0j:SS:=[mV 37 5,mV 38 7,mV 39 5,mV 40 7,iA 41 1 39 40,lD 42 41,o 43 (.conv .u64 (t 42)),mV 44 8,o 45 (.bin 0 .sub (t 43) (t 44)),o 46 (.conv .u32 (t 45)),iA 47 1 37 38,⟨none,none,.store 1 (t 47) (t 46)⟩]
def q0E:SS:=[o 6 (.mv (.const (.int .u64 0)))]
def q0F:SS:=[mV 48 5,mV 49 7,mV 50 5,mV 51 7,iA 52 1 50 51,lD 53 52,o 54 (.conv .u64 (t 53)),o 55 (.bin 0 .add (t 54) (.const (.int .u64 4294967296))),mV 56 8,o 57 (.bin 0 .sub (t 55) (t 56)),o 58 (.conv .u32 (t 57)),iA 59 1 48 49,⟨none,none,.store 1 (t 59) (t 58)⟩]
def q0G:SS:=[o 6 (.mv (.const (.int .u64 1)))]
def j0w:SS:=[mV 16 7,o 17 (.bin 0 .add (t 16) (i 1)),mV 7 17]
def w0E:SS:=[mV 60 5,o 61 (.call l0S [t 60] true),mV 4 61]
def L0O:SF:=⟨2,62,[.tmp 4],
 (qS (gR E0I) (qS (gR E0J) (qS (gR E0K) (qS (qS (gR E0L) (.block 0 (.loop (qS (qS (gR E0M) (.cond (t 15) .skip (.exit 0))) (qS (.block 1 (qS (gR u0h) (qS (qS (gR u0i) (.cond (t 22) (gR E0N) .skip)) (qS (gR m0V) (.cond (t 36) (qS (gR u0j) (gR q0E)) (qS (gR q0F) (gR q0G))))))) (gR j0w)))))) (qS (gR w0E) .ret)))))⟩
def E0O:SS:=[o 1 (.box a0a (t 0)),o 2 (.alloc a0a [.bool false,.slice none 0 0])]
def E0P:SS:=[lA 3 2 1,o 4 (.call e0f [t 3] false),o 5 (.un .not (t 4)),lA 6 2 1,o 7 (.call f0E [t 6] true),o 8 (.call g0p [t 5,t 7] true),⟨none,none,.store 2 (t 2) (t 8)⟩]
def L0P:SF:=⟨1,9,[.cell 2 true 2],
 (qS (gR E0O) (qS (.draw E0P [0,1,3,0,11,31,63] []) .ret))⟩
def E0Q:SS:=[o 2 (.box a0a (t 0)),o 3 (.box a0a (t 1)),o 4 (.alloc a0a [.bool false,.slice none 0 0]),o 5 (.alloc a0a [.bool false,.slice none 0 0]),o 6 (.mv (i 0))]
def E0R:SS:=[lA 13 2 2,o 14 (.call f0E [t 13] false),lA 15 2 3,o 16 (.call f0E [t 15] true),mV 7 14,mV 8 16]
def E0S:SS:=[mV 18 8,lN 19 18,o 20 (.bin 0 .eql (t 19) (i 0)),mV 17 20]
def U0w:SS:=[o 21 (.build [.bool false,.slice none 0 0] []),o 22 (.build [.bool false,.slice none 0 0] []),⟨none,none,.store 2 (t 4) (t 21)⟩,⟨none,none,.store 2 (t 5) (t 22)⟩,o 6 (.mv (i 1))]
def E0T:SS:=[mV 24 7,mV 25 8,o 26 (.call r0w [t 24,t 25] true),o 27 (.bin 0 .lss (t 26) (i 0)),mV 23 27]
def E0U:SS:=[o 28 (.build [.bool false,.slice none 0 0] []),lA 29 2 2,o 30 (.call e0f [t 29] true),mV 31 7,o 32 (.call g0p [t 30,t 31] true),⟨none,none,.store 2 (t 4) (t 28)⟩,⟨none,none,.store 2 (t 5) (t 32)⟩,o 6 (.mv (i 0))]
def u0k:SS:=[mV 34 8,lN 35 34,o 36 (.bin 0 .eql (t 35) (i 1)),mV 33 36]
def E0V:SS:=[mV 38 7,mV 39 8,o 40 (.ia 1 (t 39) (i 0)),lD 41 40,o 42 (.call z0V [t 38,t 41] true),mV 37 42,o 43 (.ext (t 37) 0),o 44 (.ext (t 37) 1),mV 9 43,mV 10 44]
def E0W:SS:=[lA 45 2 2,o 46 (.call e0f [t 45] false),lA 47 2 3,o 48 (.call e0f [t 47] false),o 49 (.bin 1 .neq (t 46) (t 48)),mV 50 9,o 51 (.call g0p [t 49,t 50] false),lA 52 2 2,o 53 (.call e0f [t 52] false),mV 54 10,o 55 (.lit a0j [.int .u32 0] 1 [(0,1,t 54)]),o 56 (.call g0p [t 53,t 55] true),⟨none,none,.store 2 (t 4) (t 51)⟩,⟨none,none,.store 2 (t 5) (t 56)⟩,o 6 (.mv (i 0))]
def E0X:SS:=[mV 58 7,mV 59 8,o 60 (.call z0W [t 58,t 59] true),mV 57 60,o 61 (.ext (t 57) 0),o 62 (.ext (t 57) 1),mV 11 61,mV 12 62]
def w0F:SS:=[lA 63 2 2,o 64 (.call e0f [t 63] false),lA 65 2 3,o 66 (.call e0f [t 65] false),o 67 (.bin 1 .neq (t 64) (t 66)),mV 68 11,o 69 (.call g0p [t 67,t 68] false),lA 70 2 2,o 71 (.call e0f [t 70] true),mV 72 12,o 73 (.call g0p [t 71,t 72] true),⟨none,none,.store 2 (t 4) (t 69)⟩,⟨none,none,.store 2 (t 5) (t 73)⟩,o 6 (.mv (i 0))]
def L0Q:SF:=⟨2,74,[.cell 4 true 2,.cell 5 true 2,.tmp 6],
 (qS (gR E0Q) (qS (.draw E0R [0,1,0,7,15,31] []) (qS (.block 0 (qS (gR E0S) (.cond (t 17) (qS (gR U0w) .ret) (qS (gR E0T) (.cond (t 23) (qS (gR E0U) .ret) (qS (gR u0k) (.cond (t 33) (qS (gR E0V) (qS (.draw E0W [0,1,0,7,15,0,63,0,255,0,512,2047,4095,8191,16383] []) .ret)) .skip))))))) (qS (gR E0X) (qS (.draw w0F [0,1,0,7,15,0,63,0,255,0,1023,2047,4095,8191] []) .ret)))))⟩
def E0Y:SS:=[o 2 (.mv (.const (.slice none 0 0)))]
def E0Z:SS:=[mV 3 0,o 4 (.bin 2 .eql (t 3) (.const (.slice none 0 0)))]
def F0a:SS:=[o 2 (.mv (.const (.slice none 0 0)))]
def F0b:SS:=[o 5 (.lit a0j [.int .u32 0] 0 []),mV 6 0,o 7 (.app a0j 1 4 (t 5) (t 6)),mV 2 7]
def L0R:SF:=⟨1,8,[.tmp 2],
 (qS (gR E0Y) (qS (qS (gR E0Z) (.cond (t 4) (qS (gR F0a) .ret) .skip)) (qS (gR F0b) .ret)))⟩
def F0c:SS:=[o 4 (.mv (i 0))]
def F0d:SS:=[mV 6 0,mV 7 1,o 8 (.bin 0 .lss (t 6) (t 7)),mV 5 8]
def F0e:SS:=[o 4 (.mv (.const (.int .i64 (-1))))]
def F0f:SS:=[mV 10 0,mV 11 1,o 12 (.bin 0 .gtr (t 10) (t 11)),mV 9 12]
def F0g:SS:=[o 4 (.mv (i 1))]
def F0h:SS:=[o 4 (.mv (i 0))]
def L0S:SF:=⟨2,13,[.tmp 4],
 (qS (gR F0c) (qS (.block 0 (qS (gR F0d) (.cond (t 5) (qS (gR F0e) .ret) (qS (gR F0f) (.cond (t 9) (qS (gR F0g) .ret) .skip))))) (qS (gR F0h) .ret)))⟩
def F0i:SS:=[o 4 (.mv (i 0))]
def F0j:SS:=[mV 6 0,mV 7 1,o 8 (.bin 0 .lss (t 6) (t 7)),mV 5 8]
def F0k:SS:=[o 4 (.mv (.const (.int .i64 (-1))))]
def F0l:SS:=[mV 10 0,mV 11 1,o 12 (.bin 0 .gtr (t 10) (t 11)),mV 9 12]
def F0m:SS:=[o 4 (.mv (i 1))]
def F0n:SS:=[o 4 (.mv (i 0))]
def L0T:SF:=⟨2,13,[.tmp 4],
 (qS (gR F0i) (qS (.block 0 (qS (gR F0j) (.cond (t 5) (qS (gR F0k) .ret) (qS (gR F0l) (.cond (t 9) (qS (gR F0m) .ret) .skip))))) (qS (gR F0n) .ret)))⟩
def F0o:SS:=[o 4 (.mv (.const (.slice none 0 0))),o 5 (.mv (.const (.slice none 0 0)))]
def F0p:SS:=[mV 10 0,mV 11 1,o 12 (.call t0n [t 10,t 11] true),o 13 (.bin 0 .lss (t 12) (i 0))]
def F0q:SS:=[mV 14 0,o 4 (.mv (.const (.slice none 0 0))),mV 5 14]
def F0r:SS:=[mV 15 0,lN 16 15,o 17 (.mk a0j 4 [.int .u32 0] (t 16) (t 16)),mV 6 17]
def F0s:SS:=[o 7 (.mv (.const (.slice none 0 0)))]
def F0t:SS:=[mV 18 0,lN 19 18,o 20 (.bin 0 .sub (t 19) (i 1)),mV 8 20]
def u0l:SS:=[mV 21 8,o 22 (.bin 0 .geq (t 21) (i 0))]
def F0u:SS:=[o 9 (.mv (i 31))]
def u0m:SS:=[mV 25 9,o 26 (.bin 0 .geq (t 25) (i 0))]
def F0v:SS:=[mV 29 7,mV 30 0,mV 31 8,iA 32 1 30 31,lD 33 32,mV 34 9,o 35 (.conv .u64 (t 34)),o 36 (.bin 0 .shr (t 33) (t 35)),o 37 (.bin 0 .and (t 36) (.const (.int .u32 1))),o 38 (.bin 0 .eql (t 37) (.const (.int .u32 1))),o 39 (.call z0X [t 29,t 38] true),mV 7 39]
def w0G:SS:=[mV 40 7,mV 41 1,o 42 (.call t0n [t 40,t 41] true),o 43 (.bin 0 .geq (t 42) (i 0))]
def w0H:SS:=[mV 44 7,mV 45 1,o 46 (.call r0A [t 44,t 45] true),mV 7 46]
def w0I:SS:=[mV 47 6,mV 48 8,mV 49 6,mV 50 8,iA 51 1 49 50,lD 52 51,mV 53 9,o 54 (.conv .u64 (t 53)),o 55 (.bin 0 .shl (.const (.int .u32 1)) (t 54)),o 56 (.bin 0 .or (t 52) (t 55)),iA 57 1 47 48,⟨none,none,.store 1 (t 57) (t 56)⟩]
def q0H:SS:=[mV 27 9,o 28 (.bin 0 .sub (t 27) (i 1)),mV 9 28]
def w0J:SS:=[mV 23 8,o 24 (.bin 0 .sub (t 23) (i 1)),mV 8 24]
def w0K:SS:=[mV 58 6,o 59 (.call l0S [t 58] true),mV 60 7,mV 4 59,mV 5 60]
def L0U:SF:=⟨2,61,[.tmp 4,.tmp 5],
 (qS (gR F0o) (qS (qS (gR F0p) (.cond (t 13) (qS (gR F0q) .ret) .skip)) (qS (gR F0r) (qS (gR F0s) (qS (qS (gR F0t) (.block 0 (.loop (qS (qS (gR u0l) (.cond (t 22) .skip (.exit 0))) (qS (.block 1 (qS (gR F0u) (.block 2 (.loop (qS (qS (gR u0m) (.cond (t 26) .skip (.exit 2))) (qS (.block 3 (qS (gR F0v) (qS (gR w0G) (.cond (t 43) (qS (gR w0H) (gR w0I)) .skip)))) (gR q0H))))))) (gR w0J)))))) (qS (gR w0K) .ret))))))⟩
def F0w:SS:=[o 2 (.mv (.const (.slice none 0 0)))]
def F0x:SS:=[lD 5 0,cK 6 5,fA 7 2 6,lD 8 7,o 9 (.bin 0 .add (t 8) (i 1)),o 10 (.mk a0a 32 [.bool false,.slice none 0 0] (t 9) (t 9)),mV 3 10]
def F0y:SS:=[mV 11 3,lN 12 11,o 13 (.mv (i 0))]
def U0x:SS:=[o 14 (.bin 0 .lss (t 13) (t 12))]
def F0z:SS:=[mV 15 13,mV 4 15]
def F0A:SS:=[mV 16 3,mV 17 4,lA 18 2 1,iA 19 2 16 17,⟨none,none,.store 2 (t 19) (t 18)⟩]
def U0y:SS:=[o 20 (.bin 0 .add (t 13) (i 1)),mV 13 20]
def F0B:SS:=[mV 21 3,mV 2 21]
def L0V:SF:=⟨2,22,[.tmp 2],
 (qS (gR F0w) (qS (gR F0x) (qS (qS (gR F0y) (.block 0 (.loop (qS (gR U0x) (qS (.cond (t 14) .skip (.exit 0)) (qS (.block 1 (qS (gR F0z) (gR F0A))) (gR U0y))))))) (qS (gR F0B) .ret))))⟩
def F0C:SS:=[o 4 (.box a0a (t 1)),o 5 (.box a0a (t 2)),o 6 (.alloc a0a [.bool false,.slice none 0 0])]
def F0D:SS:=[mV 8 0,cK 9 8,o 10 (.fa0 a0c (t 9)),lA 11 0 10,o 12 (.iface a0m (t 11)),o 13 (.call k0Z [i 1] false),o 14 (.inv (t 12) [(a0m,j0Z),(a0n,i0X)] [t 13] false),o 7 (.alloc a0a [.bool false,.slice none 0 0]),⟨none,none,.store 2 (t 7) (t 14)⟩]
def F0E:SS:=[mV 15 0,cK 16 15,o 17 (.fa0 a0c (t 16)),lA 18 0 17,o 19 (.iface a0m (t 18)),lA 20 2 4,lA 21 2 7,lA 22 2 5,lA 23 2 7,lA 24 2 7,o 25 (.inv (t 19) [(a0m,p0A),(a0n,p0B)] [t 20,t 21,t 22,t 23,t 24] true),⟨none,none,.store 2 (t 6) (t 25)⟩]
def L0W:SF:=⟨3,26,[.cell 6 true 2],
 (qS (gR F0C) (qS (.draw F0D [0,1,3,7,15,0,63,0,255] []) (qS (.draw F0E [0,1,3,7,15,0,0,0,0,0,1023,2047] []) .ret)))⟩
def F0F:SS:=[mV 12 0,cK 13 12,fA 14 7 13,lD 15 14,o 16 (.bin 0 .add (t 15) (i 1)),cK 17 12,fA 18 7 17,⟨none,none,.store 1 (t 18) (t 16)⟩]
def F0G:SS:=[mV 19 0,cK 20 19,fA 21 3 20,lD 22 21,mV 23 1,iA 24 1 22 23,lD 25 24,mV 26 2,iA 27 2 25 26,lA 28 2 27,mV 29 0,cK 30 29,fA 31 3 30,lD 32 31,mV 33 1,iA 34 1 32 33,lD 35 34,o 6 (.alloc a0a [.bool false,.slice none 0 0]),⟨none,none,.store 2 (t 6) (t 28)⟩,mV 7 35]
def F0H:SS:=[mV 36 0,cK 37 36,fA 38 3 37,lD 39 38,lN 40 39,o 41 (.mv (i 0))]
def U0z:SS:=[o 42 (.bin 0 .lss (t 41) (t 40))]
def F0I:SS:=[mV 43 41,iA 44 1 39 41,lD 45 44,mV 8 43,mV 9 45]
def u0n:SS:=[mV 46 8,mV 47 1,o 48 (.bin 0 .eql (t 46) (t 47))]
def F0J:SS:=[mV 49 9,mV 50 2,iA 51 2 49 50,lA 52 2 51,o 10 (.alloc a0a [.bool false,.slice none 0 0]),⟨none,none,.store 2 (t 10) (t 52)⟩]
def F0K:SS:=[mV 53 9,lN 54 53,o 55 (.mv (i 0))]
def U0A:SS:=[o 56 (.bin 0 .lss (t 55) (t 54))]
def F0L:SS:=[mV 57 55,mV 11 57]
def w0L:SS:=[mV 58 9,mV 59 11,mV 60 0,cK 61 60,o 62 (.fa0 a0c (t 61)),lA 63 0 62,o 64 (.iface a0m (t 63)),mV 65 9,mV 66 11,iA 67 2 65 66,lA 68 2 67,lA 69 2 6,lA 70 2 10,mV 71 7,mV 72 11,iA 73 2 71 72,lA 74 2 73,mV 75 0,cK 76 75,fA 77 4 76,lA 78 2 77,o 79 (.inv (t 64) [(a0m,p0A),(a0n,p0B)] [t 68,t 69,t 70,t 74,t 78] true),iA 80 2 58 59,⟨none,none,.store 2 (t 80) (t 79)⟩]
def L0a:SS:=[o 81 (.bin 0 .add (t 55) (i 1)),mV 55 81]
def L0b:SS:=[o 82 (.bin 0 .add (t 41) (i 1)),mV 41 82]
def w0M:SS:=[mV 83 0,mV 84 0,cK 85 84,fA 86 6 85,lD 87 86,mV 88 1,lA 89 2 6,mV 90 2,cK 91 83,fA 92 4 91,⟨none,none,.store 2 (t 92) (t 89)⟩,iA 93 1 87 88,⟨none,none,.store 1 (t 93) (t 90)⟩]
def L0X:SF:=⟨3,94,[],
 (qS (gR F0F) (qS (.draw F0G [0,1,3,7,0,31,63,0,255,511,0,1024,3072,7168,0,31744,64512,0,132095,524287] [(13,18),(16,18)]) (qS (qS (gR F0H) (.block 0 (.loop (qS (gR U0z) (qS (.cond (t 42) .skip (.exit 0)) (qS (.block 1 (qS (gR F0I) (qS (qS (gR u0n) (.cond (t 48) (.exit 1) .skip)) (qS (gR F0J) (qS (gR F0K) (.block 2 (.loop (qS (gR U0A) (qS (.cond (t 56) .skip (.exit 2)) (qS (.block 3 (qS (gR F0L) (.draw w0L [0,0,0,4,12,28,60,0,0,384,896,0,0,0,0,24576,57344,0,131072,393216,917504,2097148,4194303,8388607] []))) (gR L0a))))))))))) (gR L0b))))))) (.draw w0M [0,0,2,6,14,0,0,0,95,351,863,2047,4095] []))))⟩
end
end Go.Proofs.YtjlohmnnldbjoaaGreat.AI
