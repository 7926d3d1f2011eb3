/- Part 4 of the proof: AiCode0, AiCode1, AiCode2. -/
import Derived.Test.YtjlohmnnldbjoaaGreatM00
set_option linter.unusedVariables false
set_option linter.unusedSimpArgs false
set_option linter.unusedSectionVars false
namespace Go.Proofs.YtjlohmnnldbjoaaGreat.AI
section
open Go
abbrev o (d:Nat) (x:SOp):a0L:=⟨some d,none,x⟩
abbrev og (d g:Nat) (b:Bool) (x:SOp):a0L:=⟨some d,some (g,b),x⟩
abbrev t (n:Nat):Opd:=.tmp n
abbrev i (n:Int):Opd:=.const (.int .i64 n)
abbrev mV (d s:Nat):a0L:=⟨some d,none,.mv (.tmp s)⟩
abbrev lD (d s:Nat):a0L:=⟨some d,none,.load false 1 (.tmp s)⟩
abbrev lA (d n s:Nat):a0L:=⟨some d,none,.load true n (.tmp s)⟩
abbrev fA (d n s:Nat):a0L:=⟨some d,none,.fa n (.tmp s)⟩
abbrev iA (d n x y:Nat):a0L:=⟨some d,none,.ia n (.tmp x) (.tmp y)⟩
abbrev lN (d s:Nat):a0L:=⟨some d,none,.len (.tmp s)⟩
abbrev cK (d s:Nat):a0L:=⟨some d,none,.chk (.tmp s)⟩
abbrev SS:Type:=List a0L
abbrev SF:Type:=v0D
abbrev gR:List a0L→SCode:=.reg
abbrev qS:SCode→SCode→SCode:=.seq
inductive RK where | few | all
def RK.p {α:Type}:RK→α→α→α | .few,a,_=>a | .all,_,b=>b
abbrev RK.w (F:RK):Nat:=F.p 1 2
abbrev RK.b (F:RK):Bool:=F.p false true
abbrev f_5:Nat:=5
abbrev A0g:Nat:=11
abbrev N0K:Nat:=12
abbrev W0U:Nat:=13
abbrev Y0C:Nat:=14
abbrev N0L:Nat:=15
abbrev Y0D:Nat:=16
abbrev N0M:Nat:=17
abbrev Y0E:Nat:=18
abbrev Y0F:Nat:=19
abbrev Y0G:Nat:=20
abbrev Y0H:Nat:=21
abbrev W0V:Nat:=24
abbrev W0W:Nat:=25
abbrev W0X:Nat:=26
abbrev W0Y:Nat:=27
abbrev Y0I:Nat:=35
abbrev W0Z:Nat:=36
abbrev Y0J:Nat:=37
abbrev K0Z:Nat:=38
abbrev V0j:Nat:=39
abbrev Y0K:Nat:=40
abbrev Y0L:Nat:=41
abbrev X0a:Nat:=42
abbrev X0b:Nat:=43
abbrev X0c:Nat:=44
abbrev L0a:Nat:=45
abbrev Y0M:Nat:=46
abbrev X0d:Nat:=47
abbrev X0e:Nat:=48
abbrev Y0N:Nat:=49
abbrev X0f:Nat:=50
abbrev v0X:Nat:=51
abbrev X0g:Nat:=52
abbrev Y0O:Nat:=53
abbrev V0k:Nat:=54
abbrev Y0P:Nat:=57
abbrev X0h:Nat:=58
abbrev X0i:Nat:=59
abbrev Y0Q:Nat:=60
abbrev X0j:Nat:=61
abbrev Y0R:Nat:=62
abbrev X0k:Nat:=63
abbrev v0Y:Nat:=73
abbrev Y0S:Nat:=74
abbrev A0z:Nat:=75
abbrev t0C:Nat:=76
abbrev Y0T:Nat:=77
abbrev Y0U:Nat:=78
abbrev X0l:Nat:=79
abbrev Y0V:Nat:=80
abbrev N0N:Nat:=81
abbrev X0m:Nat:=82
abbrev X0n:Nat:=83
abbrev Y0W:Nat:=84
abbrev y0u:Nat:=85
abbrev X0o:Nat:=86
abbrev Y0X:Nat:=87
abbrev K0s:Nat:=88
abbrev p0M:Nat:=89
abbrev z0u:Nat:=90
abbrev V0l:Nat:=91
abbrev X0p:Nat:=92
abbrev Y0Y:Nat:=93
abbrev V0m:Nat:=95
abbrev Y0Z:Nat:=96
abbrev V0n:Nat:=97
abbrev Z0a:Nat:=98
abbrev Z0b:Nat:=99
abbrev A0c:Nat:=104
abbrev i0Q:Nat:=105
abbrev A0d:Nat:=106
abbrev m0e:Nat:=107
abbrev A0e:Nat:=108
abbrev A0f:Nat:=109
abbrev A0h:Nat:=110
abbrev p0I:Nat:=111
abbrev K0Y:Nat:=112
abbrev A0i:Nat:=113
abbrev y0d:Nat:=114
abbrev y0e:Nat:=115
abbrev y0f:Nat:=116
abbrev t0v:Nat:=117
abbrev p0J:Nat:=118
abbrev f0O:Nat:=119
abbrev e0j:Nat:=120
abbrev g0z:Nat:=121
abbrev A0j:Nat:=122
abbrev r0D:Nat:=123
abbrev y0g:Nat:=124
abbrev f0P:Nat:=125
abbrev l0m:Nat:=126
abbrev m0f:Nat:=127
abbrev y0h:Nat:=129
abbrev t0w:Nat:=130
abbrev r0E:Nat:=131
abbrev y0i:Nat:=132
abbrev r0F:Nat:=133
abbrev t0x:Nat:=134
abbrev A0k:Nat:=135
abbrev y0j:Nat:=136
abbrev y0k:Nat:=137
abbrev f1c:Nat:=138
abbrev r0G:Nat:=139
abbrev U0R:Nat:=140
abbrev U0S:Nat:=141
abbrev U0T:Nat:=142
abbrev U0U:Nat:=143
abbrev U0V:Nat:=144
abbrev U0W:Nat:=145
abbrev U0X:Nat:=146
abbrev y0l:Nat:=147
abbrev A0l:Nat:=148
abbrev t0y:Nat:=149
abbrev r0H:Nat:=150
abbrev r0I:Nat:=151
abbrev m0g:Nat:=152
abbrev A0m:Nat:=153
abbrev A0n:Nat:=154
abbrev A0o:Nat:=155
abbrev y0m:Nat:=156
abbrev U0Y:Nat:=157
abbrev U0Z:Nat:=158
abbrev V0a:Nat:=159
abbrev V0b:Nat:=160
abbrev V0c:Nat:=161
abbrev V0d:Nat:=162
abbrev V0e:Nat:=163
abbrev n0I:Nat:=164
abbrev y0n:Nat:=165
abbrev V0f:Nat:=166
abbrev t0z:Nat:=167
abbrev A0p:Nat:=168
abbrev r0J:Nat:=169
abbrev y0o:Nat:=170
abbrev V0g:Nat:=171
abbrev A0q:Nat:=172
abbrev A0r:Nat:=173
abbrev A0s:Nat:=174
abbrev n0J:Nat:=175
abbrev y0p:Nat:=176
abbrev V0h:Nat:=177
abbrev t0A:Nat:=178
abbrev r0K:Nat:=179
abbrev V0i:Nat:=180
abbrev A0t:Nat:=181
abbrev y0q:Nat:=182
abbrev A0u:Nat:=183
abbrev A0v:Nat:=184
abbrev A0w:Nat:=185
abbrev y0r:Nat:=201
abbrev n0K:Nat:=202
abbrev r0L:Nat:=203
abbrev k0n:Nat:=204
abbrev n0L:Nat:=205
abbrev p0K:Nat:=206
abbrev A0x:Nat:=207
abbrev y0s:Nat:=208
abbrev n0M:Nat:=209
abbrev r0M:Nat:=210
abbrev j0p:Nat:=211
abbrev n0N:Nat:=212
abbrev p0L:Nat:=213
abbrev y0t:Nat:=214
abbrev A0y:Nat:=215
abbrev t0B:Nat:=216
abbrev d0A:Nat:=2
abbrev g0x:Nat:=3
abbrev X0L:Nat:=4
abbrev a0J:Nat:=25
abbrev a0a:Nat:=30
abbrev a0b:Nat:=32
abbrev b0v:Nat:=34
abbrev a0R:Nat:=37
abbrev b0M:Nat:=40
abbrev b0j:Nat:=45
abbrev a0k:Nat:=103
abbrev b0G:Nat:=123
abbrev a0P:Nat:=125
abbrev a0m:Nat:=131
abbrev a0n:Nat:=145
abbrev a0H:Nat:=146
abbrev a0c:Nat:=150
abbrev a0M:Nat:=163
abbrev a0d:Nat:=167
abbrev e0K:Nat:=169
abbrev f0p:Nat:=208
def a1e:SS:=[o 3 (.box a0J (t 0)),o 6 (.mv (.const (.bool false)))]
def a1f:SS:=[fA 12 0 3,lD 13 12,o 14 (.call Y0E [t 13] true),mV 15 14,og 16 15 false (.mv (t 2)),og 17 15 false (.call Y0F [t 16] true),o 18 (.pick (t 15) (.const (.bool true)) (t 17)),mV 19 18,og 20 19 false (.mv (t 1)),og 21 19 false (.bin 0 .gtr (t 20) (i 4)),o 22 (.pick (t 19) (.const (.bool true)) (t 21)),mV 23 22,og 24 23 false (.fa 0 (t 3)),og 25 23 false (.load false 1 (t 24)),og 26 23 false (.len (t 25)),og 27 23 false (.bin 0 .gtr (t 26) (i 12)),o 28 (.pick (t 23) (.const (.bool true)) (t 27))]
def z0f:SS:=[o 29 (.call N0M [] true),mV 6 29]
def a1h:SS:=[lA 31 1 3,mV 32 1,mV 33 2,o 34 (.call W0U [t 31,t 32,t 33] true),mV 30 34,o 35 (.ext (t 30) 0),o 36 (.ext (t 30) 1),o 37 (.ext (t 30) 2),o 8 (.alloc b0M [.int .i64 0,.bool false,.slice none 0 0,.bool false,.slice none 0 0,.slice none 0 0,.slice none 0 0,.slice none 0 0]),mV 7 35,⟨none,none,.store 8 (t 8) (t 36)⟩,mV 9 37]
def L0V:SS:=[lA 38 1 3,mV 39 1,mV 40 2,o 41 (.call W0V [t 38,t 39,t 40] true),o 42 (.un .not (t 41))]
def a1i:SS:=[mV 43 9,o 44 (.call N0L [t 43] true),o 45 (.bin 0 .eql (t 44) (i 1)),mV 46 45,og 47 46 true (.mv (t 7)),og 48 46 true (.un .not (t 47)),o 49 (.pick (t 46) (t 48) (.const (.bool false))),mV 50 49,og 51 50 true (.fa 0 (t 8)),og 52 50 true (.load false 1 (t 51)),og 53 50 true (.bin 0 .eql (t 52) (i 0)),o 54 (.pick (t 50) (t 53) (.const (.bool false))),mV 55 54,og 56 55 true (.call N0M [] true),o 57 (.pick (t 55) (t 56) (.const (.bool false))),mV 6 57]
def W0o:SS:=[mV 58 2,o 59 (.call W0W [t 58] true)]
def a1j:SS:=[mV 60 9,o 61 (.call N0L [t 60] true),o 62 (.bin 0 .eql (t 61) (i 0)),mV 63 62,og 64 63 true (.mv (t 7)),o 65 (.pick (t 63) (t 64) (.const (.bool false))),mV 66 65,og 67 66 true (.fa 0 (t 8)),og 68 66 true (.load false 1 (t 67)),og 69 66 true (.bin 0 .eql (t 68) (i 0)),o 70 (.pick (t 66) (t 69) (.const (.bool false))),mV 71 70,og 72 71 true (.fa 6 (t 8)),og 73 71 true (.load false 1 (t 72)),og 74 71 true (.len (t 73)),og 75 71 true (.bin 0 .eql (t 74) (i 0)),o 76 (.pick (t 71) (t 75) (.const (.bool false))),mV 77 76,og 78 77 true (.call N0M [] true),o 79 (.pick (t 77) (t 78) (.const (.bool false))),mV 6 79]
def a1k:SS:=[lA 81 1 3,mV 82 1,mV 83 2,o 84 (.call Y0C [t 81,t 82,t 83] true),mV 80 84,o 85 (.ext (t 80) 0),o 86 (.ext (t 80) 1),o 10 (.alloc b0j [.int .i64 0,.slice none 0 0,.slice none 0 0,.slice none 0 0]),⟨none,none,.store 4 (t 10) (t 85)⟩,mV 11 86]
def a1l:SS:=[mV 87 9,o 88 (.call N0L [t 87] true),o 89 (.bin 0 .neq (t 88) (i 0)),mV 90 89,og 91 90 false (.load true 4 (t 10)),og 92 90 false (.load true 8 (t 8)),og 93 90 false (.call Y0D [t 91,t 92] true),og 94 90 false (.un .not (t 93)),o 95 (.pick (t 90) (.const (.bool true)) (t 94)),mV 96 95,og 97 96 false (.mv (t 7)),og 98 96 false (.fa 0 (t 8)),og 99 96 false (.load false 1 (t 98)),og 100 96 false (.bin 0 .eql (t 99) (i 2)),og 101 96 false (.bin 1 .neq (t 97) (t 100)),o 102 (.pick (t 96) (.const (.bool true)) (t 101)),mV 103 102,og 104 103 false (.fa 0 (t 8)),og 105 103 false (.load false 1 (t 104)),og 106 103 false (.bin 0 .eql (t 105) (i 3)),o 107 (.pick (t 103) (.const (.bool true)) (t 106))]
def a1g:SS:=[o 6 (.mv (.const (.bool false)))]
def J0f:SS:=[mV 108 7,mV 109 108,og 110 109 false (.load true 1 (t 3)),og 111 109 false (.mv (t 2)),og 112 109 false (.fa 5 (t 8)),og 113 109 false (.load false 1 (t 112)),og 114 109 false (.call Y0H [t 110,t 111,t 113] true),o 115 (.pick (t 109) (.const (.bool true)) (t 114)),mV 116 115,og 117 116 true (.call N0M [] true),o 118 (.pick (t 116) (t 117) (.const (.bool false))),mV 6 118]
def s_5:SF:=⟨3,119,[.tmp 6],
 (qS (gR a1e) (qS (qS (gR a1f) (.cond (t 28) (qS (gR z0f) .ret) .skip)) (qS (gR a1h) (qS (qS (gR L0V) (.cond (t 42) (qS (gR a1i) .ret) .skip)) (qS (qS (gR W0o) (.cond (t 59) (qS (gR a1j) .ret) .skip)) (qS (gR a1k) (qS (qS (gR a1l) (.cond (t 107) (qS (gR a1g) .ret) .skip)) (qS (gR J0f) .ret))))))))⟩
def O0a:SS:=[o 1 (.box a0b (t 0)),o 2 (.mv (i 0))]
def O0b:SS:=[lA 3 4 1,o 4 (.build [.bool false,.slice none 0 0,.bool false,.slice none 0 0] []),o 5 (.call K0Z [t 3,t 4] true),mV 2 5]
def b1s:SF:=⟨1,6,[.tmp 2],
 (qS (gR O0a) (qS (gR O0b) .ret))⟩
def O0c:SS:=[o 2 (.alloc a0b [.bool false,.slice none 0 0,.bool false,.slice none 0 0])]
def O0d:SS:=[mV 3 0,o 4 (.call V0j [t 3] true),o 5 (.call V0j [i 1] true),o 6 (.build [.bool false,.slice none 0 0,.bool false,.slice none 0 0] [(0,2,t 4),(2,2,t 5)]),⟨none,none,.store 4 (t 2) (t 6)⟩]
def b1t:SF:=⟨1,7,[.cell 2 true 4],
 (qS (gR O0c) (qS (gR O0d) .ret))⟩
def O0e:SS:=[o 3 (.box a0J (t 0)),o 6 (.mv (.const (.bool false))),o 7 (.alloc b0M [.int .i64 0,.bool false,.slice none 0 0,.bool false,.slice none 0 0,.slice none 0 0,.slice none 0 0,.slice none 0 0]),o 8 (.mv (i 0))]
def O0f:SS:=[lA 14 1 3,mV 15 1,mV 16 2,o 17 (.call W0Y [t 14,t 15,t 16] true),o 18 (.un .not (t 17))]
def O0g:SS:=[o 19 (.build [.int .i64 0,.bool false,.slice none 0 0,.bool false,.slice none 0 0,.slice none 0 0,.slice none 0 0,.slice none 0 0] []),o 6 (.mv (.const (.bool false))),⟨none,none,.store 8 (t 7) (t 19)⟩,o 8 (.mv (i 1))]
def O0h:SS:=[lA 21 1 3,mV 22 1,mV 23 2,o 24 (.call Y0G [t 21,t 22,t 23] true),mV 20 24,o 25 (.ext (t 20) 0),o 26 (.ext (t 20) 1),o 9 (.alloc b0j [.int .i64 0,.slice none 0 0,.slice none 0 0,.slice none 0 0]),⟨none,none,.store 4 (t 9) (t 25)⟩,mV 10 26]
def E0K:SS:=[mV 27 10,o 28 (.un .not (t 27))]
def O0i:SS:=[o 29 (.build [.int .i64 0,.bool false,.slice none 0 0,.bool false,.slice none 0 0,.slice none 0 0,.slice none 0 0,.slice none 0 0] []),o 6 (.mv (.const (.bool true))),⟨none,none,.store 8 (t 7) (t 29)⟩,o 8 (.mv (i 0))]
def O0j:SS:=[lA 31 4 9,o 32 (.call Y0K [t 31] true),mV 30 32,o 33 (.ext (t 30) 0),o 34 (.ext (t 30) 1),o 35 (.ext (t 30) 2),o 11 (.alloc b0M [.int .i64 0,.bool false,.slice none 0 0,.bool false,.slice none 0 0,.slice none 0 0,.slice none 0 0,.slice none 0 0]),⟨none,none,.store 8 (t 11) (t 33)⟩,mV 12 34,mV 13 35]
def O0k:SS:=[fA 36 0 11,lD 37 36,o 38 (.bin 0 .eql (t 37) (i 2)),lA 39 8 11,mV 40 13,mV 6 38,⟨none,none,.store 8 (t 7) (t 39)⟩,mV 8 40]
def b1u:SF:=⟨3,41,[.tmp 6,.cell 7 true 8,.tmp 8],
 (qS (gR O0e) (qS (qS (gR O0f) (.cond (t 18) (qS (gR O0g) .ret) .skip)) (qS (gR O0h) (qS (qS (gR E0K) (.cond (t 28) (qS (gR O0i) .ret) .skip)) (qS (gR O0j) (qS (.draw O0k [0,1,3,0,0,7,47,127] []) .ret))))))⟩
def O0l:SS:=[o 3 (.box a0J (t 0)),o 6 (.alloc b0j [.int .i64 0,.slice none 0 0,.slice none 0 0,.slice none 0 0]),o 7 (.mv (.const (.bool false)))]
def O0m:SS:=[lA 8 1 3,mV 9 1,mV 10 2,o 11 (.call W0V [t 8,t 9,t 10] true),o 12 (.un .not (t 11)),mV 13 12,og 14 13 false (.mv (t 2)),og 15 13 false (.call W0W [t 14] true),o 16 (.pick (t 13) (.const (.bool true)) (t 15))]
def F0b:SS:=[o 17 (.build [.int .i64 0,.slice none 0 0,.slice none 0 0,.slice none 0 0] []),⟨none,none,.store 4 (t 6) (t 17)⟩,o 7 (.mv (.const (.bool false)))]
def O0n:SS:=[lA 18 1 3,mV 19 1,mV 20 2,o 21 (.call Y0L [t 18,t 19,i 0,t 20] true),⟨none,none,.store 4 (t 6) (t 21)⟩,o 7 (.mv (.const (.bool true)))]
def b1v:SF:=⟨3,22,[.cell 6 true 4,.tmp 7],
 (qS (gR O0l) (qS (qS (gR O0m) (.cond (t 16) (qS (gR F0b) .ret) .skip)) (qS (gR O0n) .ret)))⟩
def O0o:SS:=[o 2 (.mv (i 0))]
def O0p:SS:=[mV 3 0,mV 2 3]
def b1w:SF:=⟨1,4,[.tmp 2],
 (qS (gR O0o) (qS (gR O0p) .ret))⟩
def O0q:SS:=[o 2 (.box b0j (t 0)),o 3 (.box b0M (t 1)),o 4 (.mv (.const (.bool false)))]
def O0r:SS:=[lA 21 4 2,o 22 (.call X0a [t 21] true),o 23 (.un .not (t 22))]
def Z0J:SS:=[o 4 (.mv (.const (.bool false)))]
def G0w:SS:=[fA 24 0 3,lD 25 24]
def G0x:SS:=[o 27 (.bin 0 .eql (t 25) (i 1)),mV 26 27]
def O0s:SS:=[lA 29 4 2,fA 30 6 3,lD 31 30,o 32 (.call X0b [t 29,t 31] true),mV 28 32,o 33 (.ext (t 28) 0),o 34 (.ext (t 28) 1),mV 5 33,mV 6 34]
def O0t:SS:=[mV 35 6,o 36 (.un .not (t 35)),mV 37 36,og 38 37 false (.load true 4 (t 2)),og 39 37 false (.fa 5 (t 3)),og 40 37 false (.load false 1 (t 39)),og 41 37 false (.call X0c [t 38,t 40] true),og 42 37 false (.un .not (t 41)),o 43 (.pick (t 37) (.const (.bool true)) (t 42)),mV 44 43,og 45 44 false (.fa 7 (t 3)),og 46 44 false (.load false 1 (t 45)),og 47 44 false (.len (t 46)),og 48 44 false (.bin 0 .gtr (t 47) (i 0)),o 49 (.pick (t 44) (.const (.bool true)) (t 48))]
def Z0K:SS:=[o 4 (.mv (.const (.bool false)))]
def O0u:SS:=[fA 51 3 2,lD 52 51,fA 53 5 3,lD 54 53,o 55 (.call L0a [t 52,t 54] true),mV 50 55,o 56 (.ext (t 50) 0),o 57 (.ext (t 50) 1),o 7 (.alloc a0b [.bool false,.slice none 0 0,.bool false,.slice none 0 0]),⟨none,none,.store 4 (t 7) (t 56)⟩,mV 8 57]
def O0v:SS:=[fA 59 6 3,lD 60 59,fA 61 2 2,lD 62 61,o 63 (.call L0a [t 60,t 62] true),mV 58 63,o 64 (.ext (t 58) 0),o 65 (.ext (t 58) 1),o 9 (.alloc a0b [.bool false,.slice none 0 0,.bool false,.slice none 0 0]),⟨none,none,.store 4 (t 9) (t 64)⟩,mV 10 65]
def G0m:SS:=[mV 66 5,fA 67 3 2,lD 68 67,o 69 (.call Y0M [t 66,t 68] true),mV 70 69,og 71 70 true (.load true 4 (t 7)),og 72 70 true (.fa 1 (t 3)),og 73 70 true (.load true 4 (t 72)),og 74 70 true (.call K0Z [t 71,t 73] true),og 75 70 true (.bin 0 .eql (t 74) (i 0)),o 76 (.pick (t 70) (t 75) (.const (.bool false))),mV 77 76,og 78 77 true (.load true 4 (t 9)),og 79 77 true (.fa 1 (t 3)),og 80 77 true (.load true 4 (t 79)),og 81 77 true (.call K0Z [t 78,t 80] true),og 82 77 true (.bin 0 .eql (t 81) (i 0)),o 83 (.pick (t 77) (t 82) (.const (.bool false))),mV 4 83]
def G0n:SS:=[o 85 (.bin 0 .eql (t 25) (i 2)),mV 84 85]
def G0o:SS:=[lA 87 4 2,fA 88 6 3,lD 89 88,o 90 (.call X0b [t 87,t 89] true),mV 86 90,o 91 (.ext (t 86) 0),o 92 (.ext (t 86) 1),mV 11 91,mV 12 92]
def G0p:SS:=[mV 93 12,o 94 (.un .not (t 93)),mV 95 94,og 96 95 false (.fa 5 (t 3)),og 97 95 false (.load false 1 (t 96)),og 98 95 false (.len (t 97)),og 99 95 false (.bin 0 .gtr (t 98) (i 0)),o 100 (.pick (t 95) (.const (.bool true)) (t 99)),mV 101 100,og 102 101 false (.fa 7 (t 3)),og 103 101 false (.load false 1 (t 102)),og 104 101 false (.len (t 103)),og 105 101 false (.bin 0 .gtr (t 104) (i 0)),o 106 (.pick (t 101) (.const (.bool true)) (t 105)),mV 107 106,og 108 107 false (.fa 1 (t 3)),og 109 107 false (.load true 4 (t 108)),og 110 107 false (.call A0g [t 109] true),og 111 107 false (.bin 0 .neq (t 110) (i 0)),o 112 (.pick (t 107) (.const (.bool true)) (t 111))]
def V0U:SS:=[o 4 (.mv (.const (.bool false)))]
def G0q:SS:=[fA 114 6 3,lD 115 114,fA 116 2 2,lD 117 116,o 118 (.call L0a [t 115,t 117] true),mV 113 118,o 119 (.ext (t 113) 0),o 120 (.ext (t 113) 1),o 13 (.alloc a0b [.bool false,.slice none 0 0,.bool false,.slice none 0 0]),⟨none,none,.store 4 (t 13) (t 119)⟩,mV 14 120]
def G0r:SS:=[o 15 (.mv (i 0))]
def G0s:SS:=[mV 121 15,mV 122 11,lN 123 122,o 124 (.bin 0 .lss (t 121) (t 123))]
def G0t:SS:=[mV 127 11,mV 128 15,iA 129 4 127 128,lA 130 4 129,o 131 (.call A0g [t 130] true),o 132 (.bin 0 .neq (t 131) (i 0))]
def V0V:SS:=[o 4 (.mv (.const (.bool false)))]
def G0u:SS:=[mV 125 15,o 126 (.bin 0 .add (t 125) (i 1)),mV 15 126]
def G0v:SS:=[lA 133 4 13,o 134 (.call A0g [t 133] true),o 135 (.bin 0 .lss (t 134) (i 0)),mV 4 135]
def V0W:SS:=[o 137 (.bin 0 .eql (t 25) (i 3)),mV 136 137]
def V0X:SS:=[lA 138 4 2,fA 139 5 3,lD 140 139,o 141 (.call X0c [t 138,t 140] true),o 142 (.un .not (t 141)),mV 143 142,og 144 143 false (.fa 7 (t 3)),og 145 143 false (.load false 1 (t 144)),og 146 143 false (.len (t 145)),og 147 143 false (.fa 0 (t 2)),og 148 143 false (.load false 1 (t 147)),og 149 143 false (.bin 0 .neq (t 146) (t 148)),o 150 (.pick (t 143) (.const (.bool true)) (t 149)),mV 151 150,og 152 151 false (.fa 6 (t 3)),og 153 151 false (.load false 1 (t 152)),og 154 151 false (.len (t 153)),og 155 151 false (.bin 0 .gtr (t 154) (i 0)),o 156 (.pick (t 151) (.const (.bool true)) (t 155)),mV 157 156,og 158 157 false (.fa 1 (t 3)),og 159 157 false (.load true 4 (t 158)),og 160 157 false (.call A0g [t 159] true),og 161 157 false (.bin 0 .neq (t 160) (i 0)),o 162 (.pick (t 157) (.const (.bool true)) (t 161))]
def V0Y:SS:=[o 4 (.mv (.const (.bool false)))]
def V0Z:SS:=[fA 164 1 2,lD 165 164,fA 166 7 3,lD 167 166,o 168 (.call X0d [t 165,t 167] true),mV 163 168,o 169 (.ext (t 163) 0),o 170 (.ext (t 163) 1),mV 16 169,mV 17 170]
def W0a:SS:=[o 18 (.mv (i 0))]
def W0b:SS:=[mV 171 18,mV 172 16,lN 173 172,o 174 (.bin 0 .lss (t 171) (t 173))]
def W0c:SS:=[mV 177 16,mV 178 18,iA 179 4 177 178,lA 180 4 179,o 181 (.call A0g [t 180] true),o 182 (.bin 0 .gtr (t 181) (i 0))]
def W0d:SS:=[o 4 (.mv (.const (.bool false)))]
def W0e:SS:=[mV 175 18,o 176 (.bin 0 .add (t 175) (i 1)),mV 18 176]
def W0f:SS:=[fA 184 3 2,lD 185 184,fA 186 7 3,lD 187 186,o 188 (.call L0a [t 185,t 187] true),mV 183 188,o 189 (.ext (t 183) 0),o 190 (.ext (t 183) 1),o 19 (.alloc a0b [.bool false,.slice none 0 0,.bool false,.slice none 0 0]),⟨none,none,.store 4 (t 19) (t 189)⟩,mV 20 190]
def W0g:SS:=[lA 191 4 19,o 192 (.call A0g [t 191] true),o 193 (.bin 0 .gtr (t 192) (i 0)),mV 4 193]
def W0h:SS:=[o 4 (.mv (.const (.bool false)))]
def b1x:SF:=⟨2,194,[.tmp 4],
 (qS (gR O0q) (qS (qS (gR O0r) (.cond (t 23) (qS (gR Z0J) .ret) .skip)) (qS (qS (gR G0w) (.block 0 (qS (gR G0x) (.cond (t 26) (qS (gR O0s) (qS (qS (gR O0t) (.cond (t 49) (qS (gR Z0K) .ret) .skip)) (qS (gR O0u) (qS (gR O0v) (qS (gR G0m) .ret))))) (qS (gR G0n) (.cond (t 84) (qS (gR G0o) (qS (qS (gR G0p) (.cond (t 112) (qS (gR V0U) .ret) .skip)) (qS (gR G0q) (qS (qS (gR G0r) (.block 1 (.loop (qS (qS (gR G0s) (.cond (t 124) .skip (.exit 1))) (qS (.block 2 (qS (gR G0t) (.cond (t 132) (qS (gR V0V) .ret) .skip))) (gR G0u)))))) (qS (gR G0v) .ret))))) (qS (gR V0W) (.cond (t 136) (qS (qS (gR V0X) (.cond (t 162) (qS (gR V0Y) .ret) .skip)) (qS (gR V0Z) (qS (qS (gR W0a) (.block 3 (.loop (qS (qS (gR W0b) (.cond (t 174) .skip (.exit 3))) (qS (.block 4 (qS (gR W0c) (.cond (t 182) (qS (gR W0d) .ret) .skip))) (gR W0e)))))) (qS (gR W0f) (qS (gR W0g) .ret))))) .skip)))))))) (qS (gR W0h) .ret))))⟩
def O0w:SS:=[o 0 (.mv (.const (.bool false)))]
def O0x:SS:=[o 5 (.call W0X [i 1] true),o 6 (.call N0K [i 3] true),o 7 (.build [.int .i64 0,.bool false,.slice none 0 0,.bool false,.slice none 0 0] [(1,4,t 6)]),o 8 (.call N0K [(.const (.int .i64 (-4)))] true),o 9 (.build [.int .i64 0,.bool false,.slice none 0 0,.bool false,.slice none 0 0] [(1,4,t 8)]),o 10 (.lit b0v [.int .i64 0,.bool false,.slice none 0 0,.bool false,.slice none 0 0] 2 [(0,5,t 7),(5,5,t 9)]),o 11 (.call W0U [t 5,i 1,t 10] true),mV 4 11,o 12 (.ext (t 4) 0),o 13 (.ext (t 4) 1),o 14 (.ext (t 4) 2),o 2 (.alloc b0M [.int .i64 0,.bool false,.slice none 0 0,.bool false,.slice none 0 0,.slice none 0 0,.slice none 0 0,.slice none 0 0]),mV 1 12,⟨none,none,.store 8 (t 2) (t 13)⟩,mV 3 14]
def O0y:SS:=[mV 15 1,mV 16 15,og 17 16 true (.fa 0 (t 2)),og 18 16 true (.load false 1 (t 17)),og 19 16 true (.bin 0 .eql (t 18) (i 2)),o 20 (.pick (t 16) (t 19) (.const (.bool false))),mV 21 20,og 22 21 true (.mv (t 3)),og 23 21 true (.call N0L [t 22] true),og 24 21 true (.bin 0 .eql (t 23) (i 0)),o 25 (.pick (t 21) (t 24) (.const (.bool false))),mV 0 25]
def b1y:SF:=⟨0,26,[.tmp 0],
 (qS (gR O0w) (qS (gR O0x) (qS (gR O0y) .ret)))⟩
def O0z:SS:=[o 2 (.mv (.const (.bool false)))]
def O0A:SS:=[o 3 (.mv (i 0))]
def O0B:SS:=[o 4 (.mv (i 0))]
def x0o:SS:=[mV 5 4,mV 6 0,lN 7 6,o 8 (.bin 0 .lss (t 5) (t 7)),mV 9 8,og 10 9 true (.mv (t 3)),og 11 9 true (.bin 0 .leq (t 10) (i 200)),o 12 (.pick (t 9) (t 11) (.const (.bool false)))]
def O0C:SS:=[mV 15 3,o 16 (.bin 0 .add (t 15) (i 1)),mV 17 0,mV 18 4,iA 19 1 17 18,lD 20 19,lN 21 20,o 22 (.mnx false (t 21) [i 201]),o 23 (.bin 0 .add (t 16) (t 22)),mV 3 23]
def H0H:SS:=[mV 24 0,mV 25 4,iA 26 1 24 25,lD 27 26,lN 28 27,o 29 (.bin 0 .leq (t 28) (i 200)),mV 30 29,og 31 30 true (.mv (t 0)),og 32 30 true (.mv (t 4)),og 33 30 true (.ia 1 (t 31) (t 32)),og 34 30 true (.load false 1 (t 33)),og 35 30 true (.call X0e [t 34] true),o 36 (.pick (t 30) (t 35) (.const (.bool false)))]
def O0D:SS:=[o 2 (.mv (.const (.bool true)))]
def H0I:SS:=[mV 13 4,o 14 (.bin 0 .add (t 13) (i 1)),mV 4 14]
def H0J:SS:=[mV 37 3,o 38 (.bin 0 .gtr (t 37) (i 200)),mV 2 38]
def b1z:SF:=⟨1,39,[.tmp 2],
 (qS (gR O0z) (qS (gR O0A) (qS (qS (gR O0B) (.block 0 (.loop (qS (qS (gR x0o) (.cond (t 12) .skip (.exit 0))) (qS (.block 1 (qS (gR O0C) (qS (gR H0H) (.cond (t 36) (qS (gR O0D) .ret) .skip)))) (gR H0I)))))) (qS (gR H0J) .ret))))⟩
def H0K:SS:=[o 2 (.mv (.const (.bool false)))]
def H0L:SS:=[mV 4 0,lN 5 4,o 6 (.bin 0 .gtr (t 5) (i 100))]
def O0E:SS:=[o 2 (.mv (.const (.bool true)))]
def O0F:SS:=[o 3 (.mv (i 0))]
def O0G:SS:=[mV 7 3,mV 8 0,lN 9 8,o 10 (.bin 0 .lss (t 7) (t 9))]
def O0H:SS:=[mV 13 0,mV 14 3,iA 15 5 13 14,fA 16 1 15,lA 17 4 16,o 18 (.lit a0b [.bool false,.slice none 0 0,.bool false,.slice none 0 0] 1 [(0,4,t 17)]),o 19 (.call X0e [t 18] true)]
def O0I:SS:=[o 2 (.mv (.const (.bool true)))]
def O0J:SS:=[mV 11 3,o 12 (.bin 0 .add (t 11) (i 1)),mV 3 12]
def O0K:SS:=[o 2 (.mv (.const (.bool false)))]
def a1w:SF:=⟨1,20,[.tmp 2],
 (qS (gR H0K) (qS (qS (gR H0L) (.cond (t 6) (qS (gR O0E) .ret) .skip)) (qS (qS (gR O0F) (.block 0 (.loop (qS (qS (gR O0G) (.cond (t 10) .skip (.exit 0))) (qS (.block 1 (qS (gR O0H) (.cond (t 19) (qS (gR O0I) .ret) .skip))) (gR O0J)))))) (qS (gR O0K) .ret))))⟩
def O0L:SS:=[o 3 (.box a0J (t 0)),o 6 (.alloc b0j [.int .i64 0,.slice none 0 0,.slice none 0 0,.slice none 0 0]),o 7 (.mv (.const (.bool false)))]
def O0M:SS:=[lA 11 1 3,mV 12 1,mV 13 2,o 14 (.call W0Y [t 11,t 12,t 13] true),o 15 (.un .not (t 14)),mV 16 15,og 17 16 false (.mv (t 2)),og 18 16 false (.call Y0N [t 17] true),o 19 (.pick (t 16) (.const (.bool true)) (t 18))]
def I0g:SS:=[o 20 (.build [.int .i64 0,.slice none 0 0,.slice none 0 0,.slice none 0 0] []),⟨none,none,.store 4 (t 6) (t 20)⟩,o 7 (.mv (.const (.bool false)))]
def O0N:SS:=[mV 21 1,mV 22 1,o 23 (.mk a0b 64 [.bool false,.slice none 0 0,.bool false,.slice none 0 0] (t 22) (t 22)),o 24 (.call X0f [t 23] true),o 25 (.build [.int .i64 0,.slice none 0 0,.slice none 0 0,.slice none 0 0] [(0,1,t 21),(3,1,t 24)]),o 8 (.alloc b0j [.int .i64 0,.slice none 0 0,.slice none 0 0,.slice none 0 0]),⟨none,none,.store 4 (t 8) (t 25)⟩]
def O0O:SS:=[mV 26 2,lN 27 26,o 28 (.mv (i 0))]
def Z0L:SS:=[o 29 (.bin 0 .lss (t 28) (t 27))]
def O0P:SS:=[mV 30 28,iA 31 5 26 28,lA 32 5 31,o 10 (.alloc b0v [.int .i64 0,.bool false,.slice none 0 0,.bool false,.slice none 0 0]),mV 9 30,⟨none,none,.store 5 (t 10) (t 32)⟩]
def I0h:SS:=[fA 33 0 10,lD 34 33,o 35 (.bin 0 .eql (t 34) (i 0))]
def O0Q:SS:=[fA 36 1 8,lD 37 36,fA 38 0 3,lD 39 38,mV 40 9,iA 41 1 39 40,lD 42 41,o 43 (.call X0f [t 42] false),o 44 (.lit a0R [.slice none 0 0] 1 [(0,1,t 43)]),o 45 (.app a0R 1 24 (t 37) (t 44)),fA 46 2 8,lD 47 46,fA 48 1 10,lA 49 4 48,o 50 (.build [.bool false,.slice none 0 0,.bool false,.slice none 0 0] []),o 51 (.call v0X [t 49,t 50] false),o 52 (.lit a0b [.bool false,.slice none 0 0,.bool false,.slice none 0 0] 1 [(0,4,t 51)]),o 53 (.app a0b 4 64 (t 47) (t 52)),fA 54 1 8,⟨none,none,.store 1 (t 54) (t 45)⟩,fA 55 2 8,⟨none,none,.store 1 (t 55) (t 53)⟩]
def Z0M:SS:=[o 56 (.bin 0 .add (t 28) (i 1)),mV 28 56]
def I0f:SS:=[lA 57 4 8,⟨none,none,.store 4 (t 6) (t 57)⟩,o 7 (.mv (.const (.bool true)))]
def b1A:SF:=⟨3,58,[.cell 6 true 4,.tmp 7],
 (qS (gR O0L) (qS (qS (gR O0M) (.cond (t 19) (qS (gR I0g) .ret) .skip)) (qS (gR O0N) (qS (qS (gR O0O) (.block 0 (.loop (qS (gR Z0L) (qS (.cond (t 29) .skip (.exit 0)) (qS (.block 1 (qS (gR O0P) (qS (gR I0h) (.cond (t 35) (.draw O0Q [0,1,0,4,0,28,60,124,252,511,0,1024,0,4096,0,29695,62463,131071,4095,524287,1048575,2097151] [(9,11),(9,13)]) .skip)))) (gR Z0M))))))) (qS (gR I0f) .ret)))))⟩
def O0R:SS:=[o 3 (.box a0J (t 0)),o 6 (.mv (.const (.bool false)))]
def I0D:SS:=[mV 11 1,lN 12 11,fA 13 0 3,lD 14 13,lN 15 14,o 16 (.bin 0 .neq (t 12) (t 15))]
def O0S:SS:=[o 6 (.mv (.const (.bool false)))]
def O0T:SS:=[fA 17 0 3,lD 18 17,lN 19 18,o 20 (.mv (i 0))]
def Z0N:SS:=[o 21 (.bin 0 .lss (t 20) (t 19))]
def I0F:SS:=[mV 22 20,iA 23 1 18 20,lD 24 23,mV 7 22,mV 8 24]
def I0G:SS:=[mV 26 8,mV 27 2,o 28 (.call X0g [t 26,t 27] true),mV 25 28,o 29 (.ext (t 25) 0),o 30 (.ext (t 25) 1),o 9 (.alloc a0b [.bool false,.slice none 0 0,.bool false,.slice none 0 0]),⟨none,none,.store 4 (t 9) (t 29)⟩,mV 10 30]
def I0H:SS:=[mV 31 10,o 32 (.bin 0 .neq (t 31) (i 0)),mV 33 32,og 34 33 false (.load true 4 (t 9)),og 35 33 false (.call V0k [t 34] false),og 36 33 false (.mv (t 1)),og 37 33 false (.mv (t 7)),og 38 33 false (.ia 5 (t 36) (t 37)),og 39 33 false (.load true 5 (t 38)),og 40 33 false (.call Y0O [t 35,t 39] true),og 41 33 false (.bin 0 .gtr (t 40) (i 0)),o 42 (.pick (t 33) (.const (.bool true)) (t 41))]
def I0I:SS:=[o 6 (.mv (.const (.bool false)))]
def Z0O:SS:=[o 43 (.bin 0 .add (t 20) (i 1)),mV 20 43]
def I0E:SS:=[o 6 (.mv (.const (.bool true)))]
def b1B:SF:=⟨3,44,[.tmp 6],
 (qS (gR O0R) (qS (qS (gR I0D) (.cond (t 16) (qS (gR O0S) .ret) .skip)) (qS (qS (gR O0T) (.block 0 (.loop (qS (gR Z0N) (qS (.cond (t 21) .skip (.exit 0)) (qS (.block 1 (qS (gR I0F) (qS (gR I0G) (qS (.draw I0H [0,1,3,7,15,7,7,103,231,511,1023,2047] []) (.cond (t 42) (qS (gR I0I) .ret) .skip))))) (gR Z0O))))))) (qS (gR I0E) .ret))))⟩
def O0U:SS:=[o 3 (.box a0J (t 0)),o 6 (.mv (.const (.bool false)))]
def O0V:SS:=[lA 8 1 3,mV 9 1,o 10 (.call Y0P [t 8,t 9] true),o 11 (.un .not (t 10)),mV 12 11,og 13 12 false (.mv (t 2)),og 14 12 false (.len (t 13)),og 15 12 false (.fa 0 (t 3)),og 16 12 false (.load false 1 (t 15)),og 17 12 false (.len (t 16)),og 18 12 false (.bin 0 .neq (t 14) (t 17)),o 19 (.pick (t 12) (.const (.bool true)) (t 18))]
def I0J:SS:=[o 6 (.mv (.const (.bool false)))]
def O0W:SS:=[o 7 (.mv (i 0))]
def O0X:SS:=[mV 20 7,mV 21 2,lN 22 21,o 23 (.bin 0 .lss (t 20) (t 22))]
def O0Y:SS:=[mV 26 2,mV 27 7,iA 28 5 26 27,lA 29 5 28,o 30 (.call X0h [t 29] true),o 31 (.un .not (t 30))]
def O0Z:SS:=[o 6 (.mv (.const (.bool false)))]
def P0a:SS:=[mV 24 7,o 25 (.bin 0 .add (t 24) (i 1)),mV 7 25]
def P0b:SS:=[o 6 (.mv (.const (.bool true)))]
def b1C:SF:=⟨3,32,[.tmp 6],
 (qS (gR O0U) (qS (qS (gR O0V) (.cond (t 19) (qS (gR I0J) .ret) .skip)) (qS (qS (gR O0W) (.block 0 (.loop (qS (qS (gR O0X) (.cond (t 23) .skip (.exit 0))) (qS (.block 1 (qS (gR O0Y) (.cond (t 31) (qS (gR O0Z) .ret) .skip))) (gR P0a)))))) (qS (gR P0b) .ret))))⟩
def P0c:SS:=[o 2 (.mv (.const (.bool false)))]
def P0d:SS:=[o 3 (.mv (i 0))]
def P0e:SS:=[mV 4 3,mV 5 0,lN 6 5,o 7 (.bin 0 .lss (t 4) (t 6))]
def P0f:SS:=[mV 10 0,mV 11 3,iA 12 5 10 11,lA 13 5 12,o 14 (.call X0i [t 13] true),o 15 (.fld false 0 1 (t 14)),o 16 (.bin 0 .lss (t 15) (i 0))]
def P0g:SS:=[o 2 (.mv (.const (.bool true)))]
def P0h:SS:=[mV 8 3,o 9 (.bin 0 .add (t 8) (i 1)),mV 3 9]
def P0i:SS:=[o 2 (.mv (.const (.bool false)))]
def b1D:SF:=⟨1,17,[.tmp 2],
 (qS (gR P0c) (qS (qS (gR P0d) (.block 0 (.loop (qS (qS (gR P0e) (.cond (t 7) .skip (.exit 0))) (qS (.block 1 (qS (gR P0f) (.cond (t 16) (qS (gR P0g) .ret) .skip))) (gR P0h)))))) (qS (gR P0i) .ret)))⟩
def P0j:SS:=[o 2 (.alloc a0J [.slice none 0 0])]
def P0k:SS:=[mV 5 0,o 6 (.call Y0I [t 5] true),mV 0 6]
def P0l:SS:=[o 3 (.mv (.const (.slice none 0 0)))]
def P0m:SS:=[o 4 (.mv (i 0))]
def P0n:SS:=[mV 7 4,mV 8 0,o 9 (.bin 0 .lss (t 7) (t 8))]
def P0o:SS:=[mV 12 3,mV 13 0,mV 14 4,o 15 (.call W0Z [t 13,t 14,i 1,(.const (.int .i64 (-1))),i 0] true),mV 16 0,mV 17 4,o 18 (.call W0Z [t 16,t 17,(.const (.int .i64 (-1))),(.const (.int .i64 (-1))),i 0] true),o 19 (.lit a0R [.slice none 0 0] 2 [(0,1,t 15),(1,1,t 18)]),o 20 (.app a0R 1 24 (t 12) (t 19)),mV 3 20]
def P0p:SS:=[mV 10 4,o 11 (.bin 0 .add (t 10) (i 1)),mV 4 11]
def P0q:SS:=[mV 21 3,o 22 (.call Y0J [t 21] true),⟨none,none,.store 1 (t 2) (t 22)⟩]
def b1E:SF:=⟨1,23,[.cell 2 true 1],
 (qS (gR P0j) (qS (gR P0k) (qS (gR P0l) (qS (qS (gR P0m) (.block 0 (.loop (qS (qS (gR P0n) (.cond (t 9) .skip (.exit 0))) (qS (.block 1 (gR P0o)) (gR P0p)))))) (qS (gR P0q) .ret)))))⟩
def P0r:SS:=[o 3 (.box a0J (t 0)),o 6 (.mv (.const (.bool false)))]
def P0s:SS:=[lA 7 1 3,mV 8 1,o 9 (.call Y0Q [t 7,t 8] true),mV 10 9,og 11 10 true (.mv (t 2)),og 12 10 true (.len (t 11)),og 13 10 true (.fa 0 (t 3)),og 14 10 true (.load false 1 (t 13)),og 15 10 true (.len (t 14)),og 16 10 true (.bin 0 .eql (t 12) (t 15)),o 17 (.pick (t 10) (t 16) (.const (.bool false))),mV 18 17,og 19 18 true (.mv (t 2)),og 20 18 true (.call X0j [t 19,.fn Y0R] true),og 21 18 true (.un .not (t 20)),o 22 (.pick (t 18) (t 21) (.const (.bool false))),mV 6 22]
def b1F:SF:=⟨3,23,[.tmp 6],
 (qS (gR P0r) (qS (gR P0s) .ret))⟩
def P0t:SS:=[o 2 (.mv (i 0))]
def P0u:SS:=[mV 3 0,o 4 (.mnx false (t 3) [i 6]),o 5 (.mnx true (i 0) [t 4]),mV 2 5]
def b1G:SF:=⟨1,6,[.tmp 2],
 (qS (gR P0t) (qS (gR P0u) .ret))⟩
def P0v:SS:=[o 10 (.mv (.const (.slice none 0 0)))]
def P0w:SS:=[o 11 (.mv (.const (.slice none 0 0)))]
def P0x:SS:=[o 12 (.mv (i 0))]
def P0y:SS:=[mV 14 12,mV 15 0,o 16 (.bin 0 .lss (t 14) (t 15))]
def P0z:SS:=[o 13 (.mv (i 0))]
def P0A:SS:=[mV 19 12,mV 20 1,o 21 (.bin 0 .eql (t 19) (t 20))]
def P0B:SS:=[mV 22 2,mV 13 22]
def P0C:SS:=[mV 23 12,mV 24 3,o 25 (.bin 0 .eql (t 23) (t 24))]
def P0D:SS:=[mV 26 4,mV 13 26]
def P0E:SS:=[mV 27 11,mV 28 13,o 29 (.call N0K [t 28] true),o 30 (.lit a0b [.bool false,.slice none 0 0,.bool false,.slice none 0 0] 1 [(0,4,t 29)]),o 31 (.app a0b 4 64 (t 27) (t 30)),mV 11 31]
def I0K:SS:=[mV 17 12,o 18 (.bin 0 .add (t 17) (i 1)),mV 12 18]
def I0L:SS:=[mV 32 11,mV 10 32]
def b1H:SF:=⟨5,33,[.tmp 10],
 (qS (gR P0v) (qS (gR P0w) (qS (qS (gR P0x) (.block 0 (.loop (qS (qS (gR P0y) (.cond (t 16) .skip (.exit 0))) (qS (.block 1 (qS (gR P0z) (qS (qS (gR P0A) (.cond (t 21) (gR P0B) .skip)) (qS (qS (gR P0C) (.cond (t 25) (gR P0D) .skip)) (gR P0E))))) (gR I0K)))))) (qS (gR I0L) .ret))))⟩
def P0F:SS:=[o 2 (.alloc a0J [.slice none 0 0])]
def P0G:SS:=[mV 3 0,mV 4 0,lN 5 4,o 6 (.mnx false (t 5) [i 40]),o 7 (.sl a0R 1 (t 3) none (some (t 6)) none),o 8 (.build [.slice none 0 0] [(0,1,t 7)]),⟨none,none,.store 1 (t 2) (t 8)⟩]
def b1I:SF:=⟨1,9,[.cell 2 true 1],
 (qS (gR P0F) (qS (gR P0G) .ret))⟩
def P0H:SS:=[o 2 (.box a0b (t 0)),o 3 (.box a0b (t 1)),o 4 (.mv (i 0))]
def P0I:SS:=[lA 5 4 2,o 6 (.call v0Y [t 5] true),⟨none,none,.store 4 (t 2) (t 6)⟩]
def P0J:SS:=[lA 7 4 3,o 8 (.call v0Y [t 7] true),⟨none,none,.store 4 (t 3) (t 8)⟩]
def P0K:SS:=[fA 9 0 2,lA 10 2 9,fA 11 2 3,lA 12 2 11,o 13 (.call A0z [t 10,t 12] false),fA 14 0 3,lA 15 2 14,fA 16 2 2,lA 17 2 16,o 18 (.call A0z [t 15,t 17] true),o 19 (.call Y0S [t 13,t 18] true),mV 4 19]
def b1J:SF:=⟨2,20,[.tmp 4],
 (qS (gR P0H) (qS (gR P0I) (qS (gR P0J) (qS (.draw P0K [0,1,0,4,15,0,32,0,128,511,1023,2047] []) .ret))))⟩
def P0L:SS:=[o 2 (.alloc a0a [.bool false,.slice none 0 0])]
def I0M:SS:=[mV 4 0,o 5 (.conv .u64 (t 4)),mV 3 5]
def I0N:SS:=[mV 6 0,o 7 (.bin 0 .lss (t 6) (i 0))]
def P0M:SS:=[mV 8 3,o 9 (.un .neg (t 8)),mV 3 9]
def I0O:SS:=[mV 10 0,o 11 (.bin 0 .lss (t 10) (i 0)),mV 12 3,o 13 (.conv .u32 (t 12)),mV 14 3,o 15 (.bin 0 .shr (t 14) (.const (.int .u64 32))),o 16 (.conv .u32 (t 15)),o 17 (.lit a0k [.int .u32 0] 2 [(0,1,t 13),(1,1,t 16)]),o 18 (.call t0C [t 11,t 17] true),⟨none,none,.store 2 (t 2) (t 18)⟩]
def b1K:SF:=⟨1,19,[.cell 2 true 2],
 (qS (gR P0L) (qS (gR I0M) (qS (qS (gR I0N) (.cond (t 7) (gR P0M) .skip)) (qS (gR I0O) .ret))))⟩
def P0N:SS:=[o 1 (.box b0j (t 0)),o 2 (.alloc b0M [.int .i64 0,.bool false,.slice none 0 0,.bool false,.slice none 0 0,.slice none 0 0,.slice none 0 0,.slice none 0 0]),o 3 (.mv (i 0)),o 4 (.mv (i 0))]
def P0O:SS:=[lA 7 4 1,o 8 (.call Y0T [t 7] true),o 9 (.un .not (t 8))]
def Z0P:SS:=[o 10 (.build [.int .i64 0,.bool false,.slice none 0 0,.bool false,.slice none 0 0,.slice none 0 0,.slice none 0 0,.slice none 0 0] []),⟨none,none,.store 8 (t 2) (t 10)⟩,o 3 (.mv (i 0)),o 4 (.mv (i 1))]
def P0P:SS:=[lA 12 4 1,o 13 (.call Y0U [t 12] true),mV 11 13,o 14 (.ext (t 11) 0),o 15 (.ext (t 11) 1),o 5 (.alloc b0M [.int .i64 0,.bool false,.slice none 0 0,.bool false,.slice none 0 0,.slice none 0 0,.slice none 0 0,.slice none 0 0]),⟨none,none,.store 8 (t 5) (t 14)⟩,mV 6 15]
def P0Q:SS:=[lA 16 8 5,mV 17 6,⟨none,none,.store 8 (t 2) (t 16)⟩,mV 3 17,o 4 (.mv (i 0))]
def b1L:SF:=⟨1,18,[.cell 2 true 8,.tmp 3,.tmp 4],
 (qS (gR P0N) (qS (qS (gR P0O) (.cond (t 9) (qS (gR Z0P) .ret) .skip)) (qS (gR P0P) (qS (gR P0Q) .ret))))⟩
def P0R:SS:=[o 4 (.box a0J (t 0)),o 8 (.alloc b0j [.int .i64 0,.slice none 0 0,.slice none 0 0,.slice none 0 0])]
def P0S:SS:=[mV 14 1,mV 15 2,o 16 (.bin 0 .add (t 14) (t 15)),mV 17 1,mV 18 2,o 19 (.bin 0 .add (t 17) (t 18)),o 20 (.call X0l [t 19] true),o 21 (.build [.int .i64 0,.slice none 0 0,.slice none 0 0,.slice none 0 0] [(0,1,t 16),(3,1,t 20)]),o 9 (.alloc b0j [.int .i64 0,.slice none 0 0,.slice none 0 0,.slice none 0 0]),⟨none,none,.store 4 (t 9) (t 21)⟩]
def P0T:SS:=[o 10 (.mv (i 0))]
def P0U:SS:=[mV 22 10,mV 23 3,lN 24 23,o 25 (.bin 0 .lss (t 22) (t 24))]
def P0V:SS:=[mV 28 3,mV 29 10,iA 30 5 28 29,lA 31 5 30,o 32 (.call X0i [t 31] true),o 11 (.alloc b0v [.int .i64 0,.bool false,.slice none 0 0,.bool false,.slice none 0 0]),⟨none,none,.store 5 (t 11) (t 32)⟩]
def I0U:SS:=[fA 33 0 11,lD 34 33,o 35 (.bin 0 .neq (t 34) (i 0))]
def P0W:SS:=[o 12 (.mv (.const (.slice none 0 0)))]
def P0X:SS:=[o 13 (.mv (i 0))]
def P0Y:SS:=[mV 36 13,mV 37 1,o 38 (.bin 0 .lss (t 36) (t 37))]
def P0Z:SS:=[mV 41 12,fA 42 0 4,lD 43 42,mV 44 10,iA 45 1 43 44,lD 46 45,mV 47 13,iA 48 4 46 47,lA 49 4 48,o 50 (.call v0Y [t 49] true),o 51 (.lit a0b [.bool false,.slice none 0 0,.bool false,.slice none 0 0] 1 [(0,4,t 50)]),o 52 (.app a0b 4 64 (t 41) (t 51)),mV 12 52]
def I0P:SS:=[mV 39 13,o 40 (.bin 0 .add (t 39) (i 1)),mV 13 40]
def I0Q:SS:=[mV 53 12,mV 54 2,o 55 (.call X0l [t 54] true),o 56 (.app a0b 4 64 (t 53) (t 55)),mV 12 56]
def I0R:SS:=[fA 57 1 9,lD 58 57,mV 59 12,o 60 (.lit a0R [.slice none 0 0] 1 [(0,1,t 59)]),o 61 (.app a0R 1 24 (t 58) (t 60)),fA 62 1 9,⟨none,none,.store 1 (t 62) (t 61)⟩]
def I0S:SS:=[fA 63 2 9,lD 64 63,fA 65 1 11,lA 66 4 65,o 67 (.lit a0b [.bool false,.slice none 0 0,.bool false,.slice none 0 0] 1 [(0,4,t 66)]),o 68 (.app a0b 4 64 (t 64) (t 67)),fA 69 2 9,⟨none,none,.store 1 (t 69) (t 68)⟩]
def v0p:SS:=[mV 26 10,o 27 (.bin 0 .add (t 26) (i 1)),mV 10 27]
def I0T:SS:=[lA 70 4 9,⟨none,none,.store 4 (t 8) (t 70)⟩]
def b1M:SF:=⟨4,71,[.cell 8 true 4],
 (qS (gR P0R) (qS (gR P0S) (qS (qS (gR P0T) (.block 0 (.loop (qS (qS (gR P0U) (.cond (t 25) .skip (.exit 0))) (qS (.block 1 (qS (gR P0V) (qS (qS (gR I0U) (.cond (t 35) (.exit 1) .skip)) (qS (gR P0W) (qS (qS (gR P0X) (.block 2 (.loop (qS (qS (gR P0Y) (.cond (t 38) .skip (.exit 2))) (qS (.block 3 (gR P0Z)) (gR I0P)))))) (qS (gR I0Q) (qS (gR I0R) (gR I0S)))))))) (gR v0p)))))) (qS (gR I0T) .ret))))⟩
def Q0a:SS:=[o 1 (.box b0j (t 0)),o 2 (.mv (.const (.bool false)))]
def Q0b:SS:=[fA 4 0 1,lD 5 4,o 6 (.bin 0 .lss (t 5) (i 0)),mV 7 6,og 8 7 false (.fa 0 (t 1)),og 9 7 false (.load false 1 (t 8)),og 10 7 false (.bin 0 .gtr (t 9) (i 60)),o 11 (.pick (t 7) (.const (.bool true)) (t 10)),mV 12 11,og 13 12 false (.fa 1 (t 1)),og 14 12 false (.load false 1 (t 13)),og 15 12 false (.len (t 14)),og 16 12 false (.bin 0 .gtr (t 15) (i 60)),o 17 (.pick (t 12) (.const (.bool true)) (t 16)),mV 18 17,og 19 18 false (.fa 1 (t 1)),og 20 18 false (.load false 1 (t 19)),og 21 18 false (.len (t 20)),og 22 18 false (.fa 2 (t 1)),og 23 18 false (.load false 1 (t 22)),og 24 18 false (.len (t 23)),og 25 18 false (.bin 0 .neq (t 21) (t 24)),o 26 (.pick (t 18) (.const (.bool true)) (t 25)),mV 27 26,og 28 27 false (.fa 3 (t 1)),og 29 27 false (.load false 1 (t 28)),og 30 27 false (.len (t 29)),og 31 27 false (.fa 0 (t 1)),og 32 27 false (.load false 1 (t 31)),og 33 27 false (.bin 0 .neq (t 30) (t 32)),o 34 (.pick (t 27) (.const (.bool true)) (t 33))]
def Z0Q:SS:=[o 2 (.mv (.const (.bool false)))]
def Q0c:SS:=[o 3 (.mv (i 0))]
def Q0d:SS:=[mV 35 3,fA 36 1 1,lD 37 36,lN 38 37,o 39 (.bin 0 .lss (t 35) (t 38))]
def Q0e:SS:=[fA 42 1 1,lD 43 42,mV 44 3,iA 45 1 43 44,lD 46 45,lN 47 46,fA 48 0 1,lD 49 48,o 50 (.bin 0 .neq (t 47) (t 49))]
def Z0R:SS:=[o 2 (.mv (.const (.bool false)))]
def Q0f:SS:=[mV 40 3,o 41 (.bin 0 .add (t 40) (i 1)),mV 3 41]
def Q0g:SS:=[o 2 (.mv (.const (.bool true)))]
def b1N:SF:=⟨1,51,[.tmp 2],
 (qS (gR Q0a) (qS (qS (gR Q0b) (.cond (t 34) (qS (gR Z0Q) .ret) .skip)) (qS (qS (gR Q0c) (.block 0 (.loop (qS (qS (gR Q0d) (.cond (t 39) .skip (.exit 0))) (qS (.block 1 (qS (.draw Q0e [0,1,0,7,15,31,0,64,255] []) (.cond (t 50) (qS (gR Z0R) .ret) .skip))) (gR Q0f)))))) (qS (gR Q0g) .ret))))⟩
def Q0h:SS:=[o 2 (.box b0j (t 0)),o 4 (.mv (.const (.slice none 0 0))),o 5 (.mv (.const (.bool false)))]
def Q0i:SS:=[mV 9 1,lN 10 9,fA 11 1 2,lD 12 11,lN 13 12,o 14 (.bin 0 .neq (t 10) (t 13))]
def Z0S:SS:=[o 4 (.mv (.const (.slice none 0 0))),o 5 (.mv (.const (.bool false)))]
def Q0j:SS:=[o 6 (.mv (i 0))]
def Q0k:SS:=[mV 15 6,mV 16 1,lN 17 16,o 18 (.bin 0 .lss (t 15) (t 17))]
def Q0l:SS:=[mV 21 1,mV 22 6,iA 23 4 21 22,lA 24 4 23,o 25 (.call A0g [t 24] true),o 26 (.bin 0 .lss (t 25) (i 0))]
def Z0T:SS:=[o 4 (.mv (.const (.slice none 0 0))),o 5 (.mv (.const (.bool false)))]
def Q0m:SS:=[mV 19 6,o 20 (.bin 0 .add (t 19) (i 1)),mV 6 20]
def Q0n:SS:=[mV 28 1,fA 29 1 2,lD 30 29,fA 31 0 2,lD 32 31,o 33 (.call Y0V [t 28,t 30,t 32] true),mV 27 33,o 34 (.ext (t 27) 0),o 35 (.ext (t 27) 1),mV 7 34,mV 8 35]
def Q0o:SS:=[mV 36 7,mV 37 8,o 38 (.bin 0 .eql (t 37) (i 0)),mV 4 36,mV 5 38]
def b1O:SF:=⟨2,39,[.tmp 4,.tmp 5],
 (qS (gR Q0h) (qS (qS (gR Q0i) (.cond (t 14) (qS (gR Z0S) .ret) .skip)) (qS (qS (gR Q0j) (.block 0 (.loop (qS (qS (gR Q0k) (.cond (t 18) .skip (.exit 0))) (qS (.block 1 (qS (gR Q0l) (.cond (t 26) (qS (gR Z0T) .ret) .skip))) (gR Q0m)))))) (qS (gR Q0n) (qS (gR Q0o) .ret)))))⟩
def Q0p:SS:=[o 2 (.box b0j (t 0)),o 4 (.mv (.const (.bool false)))]
def Q0q:SS:=[lA 8 4 2,o 9 (.call X0a [t 8] true),o 10 (.un .not (t 9)),mV 11 10,og 12 11 false (.mv (t 1)),og 13 11 false (.len (t 12)),og 14 11 false (.fa 0 (t 2)),og 15 11 false (.load false 1 (t 14)),og 16 11 false (.bin 0 .neq (t 13) (t 15)),o 17 (.pick (t 11) (.const (.bool true)) (t 16))]
def Z0U:SS:=[o 4 (.mv (.const (.bool false)))]
def Q0r:SS:=[fA 19 1 2,lD 20 19,mV 21 1,o 22 (.call X0d [t 20,t 21] true),mV 18 22,o 23 (.ext (t 18) 0),o 24 (.ext (t 18) 1),mV 5 23,mV 6 24]
def Q0s:SS:=[o 7 (.mv (i 0))]
def Q0t:SS:=[mV 25 7,mV 26 5,lN 27 26,o 28 (.bin 0 .lss (t 25) (t 27))]
def Q0u:SS:=[mV 31 5,mV 32 7,iA 33 4 31 32,lA 34 4 33,fA 35 2 2,lD 36 35,mV 37 7,iA 38 4 36 37,lA 39 4 38,o 40 (.call K0Z [t 34,t 39] true),o 41 (.bin 0 .gtr (t 40) (i 0))]
def Z0V:SS:=[o 4 (.mv (.const (.bool false)))]
def Q0v:SS:=[mV 29 7,o 30 (.bin 0 .add (t 29) (i 1)),mV 7 30]
def Q0w:SS:=[o 4 (.mv (.const (.bool true)))]
def b1P:SF:=⟨2,42,[.tmp 4],
 (qS (gR Q0p) (qS (qS (gR Q0q) (.cond (t 17) (qS (gR Z0U) .ret) .skip)) (qS (gR Q0r) (qS (qS (gR Q0s) (.block 0 (.loop (qS (qS (gR Q0t) (.cond (t 28) .skip (.exit 0))) (qS (.block 1 (qS (.draw Q0u [0,0,3,7,0,16,0,112,240,511,1023] []) (.cond (t 41) (qS (gR Z0V) .ret) .skip))) (gR Q0v)))))) (qS (gR Q0w) .ret)))))⟩
def Q0x:SS:=[o 4 (.alloc a0b [.bool false,.slice none 0 0,.bool false,.slice none 0 0]),o 5 (.mv (i 0))]
def Q0y:SS:=[mV 8 0,lN 9 8,mV 10 1,lN 11 10,o 12 (.bin 0 .neq (t 9) (t 11))]
def Z0W:SS:=[o 13 (.build [.bool false,.slice none 0 0,.bool false,.slice none 0 0] []),⟨none,none,.store 4 (t 4) (t 13)⟩,o 5 (.mv (i 1))]
def Q0z:SS:=[o 14 (.call N0N [] true),o 6 (.alloc a0b [.bool false,.slice none 0 0,.bool false,.slice none 0 0]),⟨none,none,.store 4 (t 6) (t 14)⟩]
def Q0A:SS:=[o 7 (.mv (i 0))]
def Q0B:SS:=[mV 15 7,mV 16 0,lN 17 16,o 18 (.bin 0 .lss (t 15) (t 17))]
def Q0C:SS:=[mV 21 0,mV 22 7,iA 23 4 21 22,lA 24 4 23,o 25 (.call v0Y [t 24] true),o 26 (.fld true 0 2 (t 25)),o 27 (.fld false 1 1 (t 26)),lN 28 27,o 29 (.bin 0 .gtr (t 28) (i 0)),mV 30 29,og 31 30 true (.mv (t 1)),og 32 30 true (.mv (t 7)),og 33 30 true (.ia 4 (t 31) (t 32)),og 34 30 true (.load true 4 (t 33)),og 35 30 true (.call v0Y [t 34] true),og 36 30 true (.fld true 0 2 (t 35)),og 37 30 true (.fld false 1 1 (t 36)),og 38 30 true (.len (t 37)),og 39 30 true (.bin 0 .gtr (t 38) (i 0)),o 40 (.pick (t 30) (t 39) (.const (.bool false)))]
def Q0D:SS:=[lA 41 4 6,mV 42 0,mV 43 7,iA 44 4 42 43,lA 45 4 44,mV 46 1,mV 47 7,iA 48 4 46 47,lA 49 4 48,o 50 (.call X0n [t 45,t 49] false),o 51 (.call X0m [t 41,t 50] true),⟨none,none,.store 4 (t 6) (t 51)⟩]
def x0s:SS:=[mV 19 7,o 20 (.bin 0 .add (t 19) (i 1)),mV 7 20]
def Q0E:SS:=[lA 52 4 6,⟨none,none,.store 4 (t 4) (t 52)⟩,o 5 (.mv (i 0))]
def b1Q:SF:=⟨2,53,[.cell 4 true 4,.tmp 5],
 (qS (gR Q0x) (qS (qS (gR Q0y) (.cond (t 12) (qS (gR Z0W) .ret) .skip)) (qS (gR Q0z) (qS (qS (gR Q0A) (.block 0 (.loop (qS (qS (gR Q0B) (.cond (t 18) .skip (.exit 0))) (qS (.block 1 (qS (gR Q0C) (.cond (t 40) (.draw Q0D [0,0,0,6,14,0,0,96,224,510,1023,2047] []) .skip))) (gR x0s)))))) (qS (gR Q0E) .ret)))))⟩
def Q0F:SS:=[o 4 (.mv (.const (.bool false)))]
def Q0G:SS:=[mV 6 0,lN 7 6,mV 8 1,lN 9 8,o 10 (.bin 0 .neq (t 7) (t 9))]
def Z0X:SS:=[o 4 (.mv (.const (.bool false)))]
def Q0H:SS:=[o 5 (.mv (i 0))]
def Q0I:SS:=[mV 11 5,mV 12 0,lN 13 12,o 14 (.bin 0 .lss (t 11) (t 13))]
def Q0J:SS:=[mV 17 0,mV 18 5,iA 19 4 17 18,lA 20 4 19,mV 21 1,mV 22 5,iA 23 4 21 22,lA 24 4 23,o 25 (.call K0Z [t 20,t 24] true),o 26 (.bin 0 .neq (t 25) (i 0))]
def Z0Y:SS:=[o 4 (.mv (.const (.bool false)))]
def Q0K:SS:=[mV 15 5,o 16 (.bin 0 .add (t 15) (i 1)),mV 5 16]
def Q0L:SS:=[o 4 (.mv (.const (.bool true)))]
def b1R:SF:=⟨2,27,[.tmp 4],
 (qS (gR Q0F) (qS (qS (gR Q0G) (.cond (t 10) (qS (gR Z0X) .ret) .skip)) (qS (qS (gR Q0H) (.block 0 (.loop (qS (qS (gR Q0I) (.cond (t 14) .skip (.exit 0))) (qS (.block 1 (qS (.draw Q0J [0,0,3,7,0,0,48,112,255,511] []) (.cond (t 26) (qS (gR Z0Y) .ret) .skip))) (gR Q0K)))))) (qS (gR Q0L) .ret))))⟩
def Q0M:SS:=[o 4 (.mv (.const (.slice none 0 0))),o 5 (.mv (i 0))]
def Q0N:SS:=[o 6 (.mv (.const (.slice none 0 0)))]
def Q0O:SS:=[o 7 (.mv (i 0))]
def Q0P:SS:=[mV 10 7,mV 11 0,lN 12 11,o 13 (.bin 0 .lss (t 10) (t 12))]
def Q0Q:SS:=[mV 17 0,mV 18 7,iA 19 1 17 18,lD 20 19,mV 21 1,o 22 (.call L0a [t 20,t 21] true),mV 16 22,o 23 (.ext (t 16) 0),o 24 (.ext (t 16) 1),o 8 (.alloc a0b [.bool false,.slice none 0 0,.bool false,.slice none 0 0]),⟨none,none,.store 4 (t 8) (t 23)⟩,mV 9 24]
def Q0R:SS:=[mV 25 9,o 26 (.bin 0 .neq (t 25) (i 0))]
def Z0Z:SS:=[mV 27 9,o 4 (.mv (.const (.slice none 0 0))),mV 5 27]
def Q0S:SS:=[mV 28 6,lA 29 4 8,o 30 (.lit a0b [.bool false,.slice none 0 0,.bool false,.slice none 0 0] 1 [(0,4,t 29)]),o 31 (.app a0b 4 64 (t 28) (t 30)),mV 6 31]
def Q0T:SS:=[mV 14 7,o 15 (.bin 0 .add (t 14) (i 1)),mV 7 15]
def Q0U:SS:=[mV 32 6,mV 4 32,o 5 (.mv (i 0))]
def b1S:SF:=⟨2,33,[.tmp 4,.tmp 5],
 (qS (gR Q0M) (qS (gR Q0N) (qS (qS (gR Q0O) (.block 0 (.loop (qS (qS (gR Q0P) (.cond (t 13) .skip (.exit 0))) (qS (.block 1 (qS (gR Q0Q) (qS (qS (gR Q0R) (.cond (t 26) (qS (gR Z0Z) .ret) .skip)) (gR Q0S)))) (gR Q0T)))))) (qS (gR Q0U) .ret))))⟩
def Q0V:SS:=[o 2 (.mv (.const (.bool false)))]
def Q0W:SS:=[o 3 (.mv (i 0))]
def Q0X:SS:=[mV 4 3,mV 5 0,lN 6 5,o 7 (.bin 0 .lss (t 4) (t 6))]
def x0t:SS:=[mV 10 0,mV 11 3,iA 12 4 10 11,fA 13 0 12,fA 14 1 13,lD 15 14,lN 16 15,o 17 (.bin 0 .gtr (t 16) (i 6)),mV 18 17,og 19 18 false (.mv (t 0)),og 20 18 false (.mv (t 3)),og 21 18 false (.ia 4 (t 19) (t 20)),og 22 18 false (.fa 2 (t 21)),og 23 18 false (.fa 1 (t 22)),og 24 18 false (.load false 1 (t 23)),og 25 18 false (.len (t 24)),og 26 18 false (.bin 0 .gtr (t 25) (i 6)),o 27 (.pick (t 18) (.const (.bool true)) (t 26))]
def I0V:SS:=[o 2 (.mv (.const (.bool true)))]
def Q0Y:SS:=[mV 8 3,o 9 (.bin 0 .add (t 8) (i 1)),mV 3 9]
def Q0Z:SS:=[o 2 (.mv (.const (.bool false)))]
def b1T:SF:=⟨1,28,[.tmp 2],
 (qS (gR Q0V) (qS (qS (gR Q0W) (.block 0 (.loop (qS (qS (gR Q0X) (.cond (t 7) .skip (.exit 0))) (qS (.block 1 (qS (gR x0t) (.cond (t 27) (qS (gR I0V) .ret) .skip))) (gR Q0Y)))))) (qS (gR Q0Z) .ret)))⟩
def R0a:SS:=[o 2 (.mv (.const (.bool false)))]
def R0b:SS:=[mV 3 0,o 4 (.call X0j [t 3,.fn Y0W] true),mV 2 4]
def b1U:SF:=⟨1,5,[.tmp 2],
 (qS (gR R0a) (qS (gR R0b) .ret))⟩
def R0c:SS:=[o 2 (.mv (.const (.slice none 0 0)))]
def R0d:SS:=[o 3 (.mv (.const (.slice none 0 0)))]
def R0e:SS:=[mV 6 0,lN 7 6,o 8 (.mv (i 0))]
def a1a:SS:=[o 9 (.bin 0 .lss (t 8) (t 7))]
def R0f:SS:=[iA 10 4 6 8,lA 11 4 10,o 5 (.alloc a0b [.bool false,.slice none 0 0,.bool false,.slice none 0 0]),⟨none,none,.store 4 (t 5) (t 11)⟩]
def R0g:SS:=[mV 12 3,lA 13 4 5,o 14 (.build [.bool false,.slice none 0 0,.bool false,.slice none 0 0] []),o 15 (.call v0X [t 13,t 14] true),o 16 (.lit a0b [.bool false,.slice none 0 0,.bool false,.slice none 0 0] 1 [(0,4,t 15)]),o 17 (.app a0b 4 64 (t 12) (t 16)),mV 3 17]
def a1b:SS:=[o 18 (.bin 0 .add (t 8) (i 1)),mV 8 18]
def R0h:SS:=[mV 19 3,mV 2 19]
def b1V:SF:=⟨1,20,[.tmp 2],
 (qS (gR R0c) (qS (gR R0d) (qS (qS (gR R0e) (.block 0 (.loop (qS (gR a1a) (qS (.cond (t 9) .skip (.exit 0)) (qS (.block 1 (qS (gR R0f) (gR R0g))) (gR a1b))))))) (qS (gR R0h) .ret))))⟩
def R0i:SS:=[o 2 (.box a0b (t 0)),o 3 (.box a0b (t 1)),o 4 (.alloc a0b [.bool false,.slice none 0 0,.bool false,.slice none 0 0])]
def R0j:SS:=[lA 5 4 2,o 6 (.call y0u [t 5] false),lA 7 4 3,o 8 (.call y0u [t 7] true),⟨none,none,.store 4 (t 2) (t 6)⟩,⟨none,none,.store 4 (t 3) (t 8)⟩]
def R0k:SS:=[fA 9 0 2,lA 10 2 9,fA 11 2 3,lA 12 2 11,o 13 (.call p0M [t 10,t 12] false),fA 14 0 3,lA 15 2 14,fA 16 2 2,lA 17 2 16,o 18 (.call p0M [t 15,t 17] false),o 19 (.lit a0a [.bool false,.slice none 0 0] 1 [(0,2,t 18)]),o 20 (.call Y0X [.fn K0s,t 13,t 19] false),fA 21 2 2,lA 22 2 21,fA 23 2 3,lA 24 2 23,o 25 (.call p0M [t 22,t 24] true),o 26 (.call X0o [t 20,t 25] true),⟨none,none,.store 4 (t 4) (t 26)⟩]
def b1W:SF:=⟨2,27,[.cell 4 true 4],
 (qS (gR R0i) (qS (.draw R0j [0,1,0,7,15,31] []) (qS (.draw R0k [0,1,0,4,15,0,32,0,128,511,1023,2047,0,4096,0,16384,65535,131071,262143] []) .ret)))⟩
def I0W:SS:=[o 4 (.alloc a0b [.bool false,.slice none 0 0,.bool false,.slice none 0 0]),o 5 (.mv (i 0))]
def I0X:SS:=[mV 8 0,lN 9 8,mV 10 1,lN 11 10,o 12 (.bin 0 .neq (t 9) (t 11))]
def R0l:SS:=[o 13 (.build [.bool false,.slice none 0 0,.bool false,.slice none 0 0] []),⟨none,none,.store 4 (t 4) (t 13)⟩,o 5 (.mv (i 1))]
def R0m:SS:=[o 14 (.call z0u [i 0] true),o 6 (.alloc a0b [.bool false,.slice none 0 0,.bool false,.slice none 0 0]),⟨none,none,.store 4 (t 6) (t 14)⟩]
def R0n:SS:=[mV 15 0,lN 16 15,o 17 (.mv (i 0))]
def a1c:SS:=[o 18 (.bin 0 .lss (t 17) (t 16))]
def R0o:SS:=[mV 19 17,mV 7 19]
def R0p:SS:=[lA 20 4 6,mV 21 0,mV 22 7,iA 23 4 21 22,lA 24 4 23,mV 25 1,mV 26 7,iA 27 4 25 26,lA 28 4 27,o 29 (.call V0l [t 24,t 28] false),o 30 (.call v0X [t 20,t 29] true),⟨none,none,.store 4 (t 6) (t 30)⟩]
def a1d:SS:=[o 31 (.bin 0 .add (t 17) (i 1)),mV 17 31]
def R0q:SS:=[lA 32 4 6,⟨none,none,.store 4 (t 4) (t 32)⟩,o 5 (.mv (i 0))]
def a1x:SF:=⟨2,33,[.cell 4 true 4,.tmp 5],
 (qS (gR I0W) (qS (qS (gR I0X) (.cond (t 12) (qS (gR R0l) .ret) .skip)) (qS (gR R0m) (qS (qS (gR R0n) (.block 0 (.loop (qS (gR a1c) (qS (.cond (t 18) .skip (.exit 0)) (qS (.block 1 (qS (gR R0o) (.draw R0p [0,0,0,6,14,0,0,96,224,510,1023,2047] []))) (gR a1d))))))) (qS (gR R0q) .ret)))))⟩
def R0r:SS:=[o 2 (.box b0v (t 0)),o 3 (.box b0v (t 1)),o 4 (.mv (i 0))]
def R0s:SS:=[lA 5 5 2,o 6 (.call X0p [t 5] false),lA 7 5 3,o 8 (.call X0p [t 7] true),⟨none,none,.store 5 (t 2) (t 6)⟩,⟨none,none,.store 5 (t 3) (t 8)⟩]
def R0t:SS:=[fA 10 0 2,lD 11 10,fA 12 0 3,lD 13 12,o 14 (.bin 0 .lss (t 11) (t 13)),mV 9 14]
def R0u:SS:=[o 4 (.mv (.const (.int .i64 (-1))))]
def x0u:SS:=[fA 16 0 2,lD 17 16,fA 18 0 3,lD 19 18,o 20 (.bin 0 .gtr (t 17) (t 19)),mV 15 20]
def R0v:SS:=[o 4 (.mv (i 1))]
def I0Y:SS:=[fA 22 0 2,lD 23 22,o 24 (.bin 0 .neq (t 23) (i 0)),mV 21 24]
def R0w:SS:=[o 4 (.mv (i 0))]
def R0x:SS:=[fA 25 1 2,lA 26 4 25,fA 27 1 3,lA 28 4 27,o 29 (.call Y0Y [t 26,t 28] true),mV 4 29]
def b1X:SF:=⟨2,30,[.tmp 4],
 (qS (gR R0r) (qS (.draw R0s [0,1,0,7,15,31] []) (qS (.block 0 (qS (gR R0t) (.cond (t 9) (qS (gR R0u) .ret) (qS (gR x0u) (.cond (t 15) (qS (gR R0v) .ret) (qS (gR I0Y) (.cond (t 21) (qS (gR R0w) .ret) .skip))))))) (qS (gR R0x) .ret))))⟩
def R0y:SS:=[o 1 (.box a0b (t 0)),o 2 (.alloc b0v [.int .i64 0,.bool false,.slice none 0 0,.bool false,.slice none 0 0])]
def R0z:SS:=[lA 3 4 1,o 4 (.build [.bool false,.slice none 0 0,.bool false,.slice none 0 0] []),o 5 (.call v0X [t 3,t 4] true),o 6 (.build [.int .i64 0,.bool false,.slice none 0 0,.bool false,.slice none 0 0] [(1,4,t 5)]),⟨none,none,.store 5 (t 2) (t 6)⟩]
def b1Y:SF:=⟨1,7,[.cell 2 true 5],
 (qS (gR R0y) (qS (gR R0z) .ret))⟩
def R0A:SS:=[o 2 (.box a0J (t 0)),o 4 (.mv (.const (.bool false)))]
def s0D:SS:=[mV 7 1,o 8 (.bin 0 .lss (t 7) (i 0)),mV 9 8,og 10 9 false (.mv (t 1)),og 11 9 false (.bin 0 .gtr (t 10) (i 6)),o 12 (.pick (t 9) (.const (.bool true)) (t 11)),mV 13 12,og 14 13 false (.fa 0 (t 2)),og 15 13 false (.load false 1 (t 14)),og 16 13 false (.len (t 15)),og 17 13 false (.bin 0 .gtr (t 16) (i 40)),o 18 (.pick (t 13) (.const (.bool true)) (t 17))]
def x0v:SS:=[o 4 (.mv (.const (.bool false)))]
def R0B:SS:=[o 5 (.mv (i 0))]
def R0C:SS:=[mV 19 5,fA 20 0 2,lD 21 20,lN 22 21,o 23 (.bin 0 .lss (t 19) (t 22))]
def J0d:SS:=[fA 26 0 2,lD 27 26,mV 28 5,iA 29 1 27 28,lD 30 29,lN 31 30,mV 32 1,o 33 (.bin 0 .neq (t 31) (t 32))]
def R0D:SS:=[o 4 (.mv (.const (.bool false)))]
def R0E:SS:=[o 6 (.mv (i 0))]
def R0F:SS:=[mV 34 6,mV 35 1,o 36 (.bin 0 .lss (t 34) (t 35))]
def R0G:SS:=[fA 39 0 2,lD 40 39,mV 41 5,iA 42 1 40 41,lD 43 42,mV 44 6,iA 45 4 43 44,lA 46 4 45,o 47 (.call V0m [t 46] true),o 48 (.un .not (t 47))]
def I0Z:SS:=[o 4 (.mv (.const (.bool false)))]
def J0a:SS:=[mV 37 6,o 38 (.bin 0 .add (t 37) (i 1)),mV 6 38]
def J0b:SS:=[mV 24 5,o 25 (.bin 0 .add (t 24) (i 1)),mV 5 25]
def J0c:SS:=[o 4 (.mv (.const (.bool true)))]
def b1Z:SF:=⟨2,49,[.tmp 4],
 (qS (gR R0A) (qS (qS (gR s0D) (.cond (t 18) (qS (gR x0v) .ret) .skip)) (qS (qS (gR R0B) (.block 0 (.loop (qS (qS (gR R0C) (.cond (t 23) .skip (.exit 0))) (qS (.block 1 (qS (qS (gR J0d) (.cond (t 33) (qS (gR R0D) .ret) .skip)) (qS (gR R0E) (.block 2 (.loop (qS (qS (gR R0F) (.cond (t 36) .skip (.exit 2))) (qS (.block 3 (qS (gR R0G) (.cond (t 48) (qS (gR I0Z) .ret) .skip))) (gR J0a)))))))) (gR J0b)))))) (qS (gR J0c) .ret))))⟩
def R0H:SS:=[o 1 (.box b0v (t 0)),o 2 (.mv (.const (.bool false)))]
def s0E:SS:=[fA 3 0 1,lD 4 3,o 5 (.bin 0 .eql (t 4) (i 0))]
def R0I:SS:=[fA 6 1 1,lA 7 4 6,o 8 (.call V0m [t 7] true),mV 2 8]
def x0w:SS:=[fA 9 0 1,lD 10 9,o 11 (.bin 0 .eql (t 10) (i 1)),mV 12 11,og 13 12 false (.fa 0 (t 1)),og 14 12 false (.load false 1 (t 13)),og 15 12 false (.bin 0 .eql (t 14) (.const (.int .i64 (-1)))),o 16 (.pick (t 12) (.const (.bool true)) (t 15)),mV 17 16,og 18 17 true (.fa 1 (t 1)),og 19 17 true (.load true 4 (t 18)),og 20 17 true (.call Y0Z [t 19] true),o 21 (.pick (t 17) (t 20) (.const (.bool false))),mV 2 21]
def c1a:SF:=⟨1,22,[.tmp 2],
 (qS (gR R0H) (qS (qS (gR s0E) (.cond (t 5) (qS (gR R0I) .ret) .skip)) (qS (gR x0w) .ret)))⟩
def R0J:SS:=[o 1 (.box b0v (t 0)),o 2 (.alloc b0v [.int .i64 0,.bool false,.slice none 0 0,.bool false,.slice none 0 0])]
def R0K:SS:=[lA 3 5 1,o 4 (.call X0h [t 3] true),o 5 (.un .not (t 4))]
def R0L:SS:=[o 6 (.call N0N [] true),o 7 (.build [.int .i64 0,.bool false,.slice none 0 0,.bool false,.slice none 0 0] [(1,4,t 6)]),⟨none,none,.store 5 (t 2) (t 7)⟩]
def J0e:SS:=[fA 8 0 1,lD 9 8,o 10 (.bin 0 .neq (t 9) (i 0))]
def R0M:SS:=[lA 11 5 1,⟨none,none,.store 5 (t 2) (t 11)⟩]
def R0N:SS:=[fA 12 1 1,lA 13 4 12,o 14 (.call v0Y [t 13] true),o 15 (.build [.int .i64 0,.bool false,.slice none 0 0,.bool false,.slice none 0 0] [(1,4,t 14)]),⟨none,none,.store 5 (t 2) (t 15)⟩]
def c1b:SF:=⟨1,16,[.cell 2 true 5],
 (qS (gR R0J) (qS (qS (gR R0K) (.cond (t 5) (qS (gR R0L) .ret) .skip)) (qS (qS (gR J0e) (.cond (t 10) (qS (gR R0M) .ret) .skip)) (qS (gR R0N) .ret))))⟩
def R0O:SS:=[o 2 (.box a0J (t 0)),o 4 (.mv (.const (.bool false)))]
def s0F:SS:=[mV 9 1,o 10 (.bin 0 .lss (t 9) (i 0)),mV 11 10,og 12 11 false (.mv (t 1)),og 13 11 false (.bin 0 .gtr (t 12) (i 6)),o 14 (.pick (t 11) (.const (.bool true)) (t 13)),mV 15 14,og 16 15 false (.fa 0 (t 2)),og 17 15 false (.load false 1 (t 16)),og 18 15 false (.len (t 17)),og 19 15 false (.bin 0 .gtr (t 18) (i 40)),o 20 (.pick (t 15) (.const (.bool true)) (t 19))]
def x0x:SS:=[o 4 (.mv (.const (.bool false)))]
def R0P:SS:=[fA 21 0 2,lD 22 21,lN 23 22,o 24 (.mv (i 0))]
def a1m:SS:=[o 25 (.bin 0 .lss (t 24) (t 23))]
def J0k:SS:=[iA 26 1 22 24,lD 27 26,mV 6 27]
def J0l:SS:=[mV 28 6,lN 29 28,mV 30 1,o 31 (.bin 0 .neq (t 29) (t 30))]
def R0Q:SS:=[o 4 (.mv (.const (.bool false)))]
def R0R:SS:=[mV 32 6,lN 33 32,o 34 (.mv (i 0))]
def a1n:SS:=[o 35 (.bin 0 .lss (t 34) (t 33))]
def J0g:SS:=[iA 36 4 32 34,lA 37 4 36,o 8 (.alloc a0b [.bool false,.slice none 0 0,.bool false,.slice none 0 0]),⟨none,none,.store 4 (t 8) (t 37)⟩]
def J0h:SS:=[lA 38 4 8,o 39 (.call V0n [t 38] true),o 40 (.un .not (t 39))]
def J0i:SS:=[o 4 (.mv (.const (.bool false)))]
def W0p:SS:=[o 41 (.bin 0 .add (t 34) (i 1)),mV 34 41]
def W0q:SS:=[o 42 (.bin 0 .add (t 24) (i 1)),mV 24 42]
def J0j:SS:=[o 4 (.mv (.const (.bool true)))]
def c1c:SF:=⟨2,43,[.tmp 4],
 (qS (gR R0O) (qS (qS (gR s0F) (.cond (t 20) (qS (gR x0x) .ret) .skip)) (qS (qS (gR R0P) (.block 0 (.loop (qS (gR a1m) (qS (.cond (t 25) .skip (.exit 0)) (qS (.block 1 (qS (gR J0k) (qS (qS (gR J0l) (.cond (t 31) (qS (gR R0Q) .ret) .skip)) (qS (gR R0R) (.block 2 (.loop (qS (gR a1n) (qS (.cond (t 35) .skip (.exit 2)) (qS (.block 3 (qS (gR J0g) (qS (gR J0h) (.cond (t 40) (qS (gR J0i) .ret) .skip)))) (gR W0p)))))))))) (gR W0q))))))) (qS (gR J0j) .ret))))⟩
def R0S:SS:=[o 4 (.mv (.const (.bool false)))]
def R0T:SS:=[mV 5 0,mV 6 1,o 7 (.call Z0a [t 5,t 6] true),o 8 (.bin 0 .geq (t 7) (i 0)),mV 4 8]
def c1d:SF:=⟨2,9,[.tmp 4],
 (qS (gR R0S) (qS (gR R0T) .ret))⟩
def R0U:SS:=[o 1 (.box b0v (t 0)),o 2 (.mv (.const (.bool false)))]
def R0V:SS:=[lA 3 5 1,o 4 (.call X0k [t 3] true),o 5 (.un .not (t 4)),mV 2 5]
def c1e:SF:=⟨1,6,[.tmp 2],
 (qS (gR R0U) (qS (gR R0V) .ret))⟩
def R0W:SS:=[o 1 (.box b0v (t 0)),o 2 (.mv (.const (.bool false)))]
def R0X:SS:=[fA 3 0 1,lD 4 3]
def R0Y:SS:=[o 6 (.bin 0 .eql (t 4) (.const (.int .i64 (-1)))),mV 5 6]
def x0y:SS:=[o 7 (.bin 0 .eql (t 4) (i 1)),mV 5 7]
def J0m:SS:=[fA 8 1 1,lA 9 4 8,o 10 (.call Z0b [t 9] true),mV 2 10]
def J0n:SS:=[o 12 (.bin 0 .eql (t 4) (i 0)),mV 11 12]
def R0Z:SS:=[fA 13 1 1,lA 14 4 13,o 15 (.call V0n [t 14] true),mV 2 15]
def S0a:SS:=[o 2 (.mv (.const (.bool false)))]
def c1f:SF:=⟨1,16,[.tmp 2],
 (qS (gR R0W) (qS (qS (gR R0X) (.block 0 (qS (qS (gR R0Y) (.cond (t 5) .skip (gR x0y))) (.cond (t 5) (qS (gR J0m) .ret) (qS (gR J0n) (.cond (t 11) (qS (gR R0Z) .ret) .skip)))))) (qS (gR S0a) .ret)))⟩
def S0b:SS:=[o 1 (.box a0b (t 0)),o 2 (.alloc a0b [.bool false,.slice none 0 0,.bool false,.slice none 0 0])]
def S0c:SS:=[lA 3 4 1,o 4 (.call V0m [t 3] true),o 5 (.un .not (t 4)),mV 6 5,og 7 6 false (.fa 2 (t 1)),og 8 6 false (.fa 1 (t 7)),og 9 6 false (.load false 1 (t 8)),og 10 6 false (.len (t 9)),og 11 6 false (.bin 0 .eql (t 10) (i 0)),o 12 (.pick (t 6) (.const (.bool true)) (t 11))]
def J0o:SS:=[o 13 (.call N0N [] true),⟨none,none,.store 4 (t 2) (t 13)⟩]
def S0d:SS:=[fA 14 0 1,fA 15 0 14,lD 16 15,fA 17 0 1,fA 18 1 17,lD 19 18,o 20 (.call t0C [t 16,t 19] false),fA 21 2 1,fA 22 1 21,lD 23 22,o 24 (.call t0C [(.const (.bool false)),t 23] true),o 25 (.build [.bool false,.slice none 0 0,.bool false,.slice none 0 0] [(0,2,t 20),(2,2,t 24)]),⟨none,none,.store 4 (t 2) (t 25)⟩]
def c1g:SF:=⟨1,26,[.cell 2 true 4],
 (qS (gR S0b) (qS (qS (gR S0c) (.cond (t 12) (qS (gR J0o) .ret) .skip)) (qS (.draw S0d [0,1,3,0,8,24,63,0,128,384,1023,2047,4095] []) .ret)))⟩
def S0e:SS:=[o 2 (.box a0a (t 0)),o 3 (.box a0a (t 1)),o 4 (.mv (i 0))]
def S0f:SS:=[lA 6 2 2,lA 7 2 3,o 8 (.call A0c [t 6,t 7] true),o 5 (.alloc a0a [.bool false,.slice none 0 0]),⟨none,none,.store 2 (t 5) (t 8)⟩]
def x0z:SS:=[fA 9 1 5,lD 10 9,lN 11 10,o 12 (.bin 0 .eql (t 11) (i 0))]
def S0g:SS:=[o 4 (.mv (i 0))]
def J0p:SS:=[fA 13 0 5,lD 14 13]
def S0h:SS:=[o 4 (.mv (.const (.int .i64 (-1))))]
def S0i:SS:=[o 4 (.mv (i 1))]
def c1h:SF:=⟨2,15,[.tmp 4],
 (qS (gR S0e) (qS (gR S0f) (qS (qS (gR x0z) (.cond (t 12) (qS (gR S0g) .ret) .skip)) (qS (qS (gR J0p) (.cond (t 14) (qS (gR S0h) .ret) .skip)) (qS (gR S0i) .ret)))))⟩
def S0j:SS:=[o 2 (.box a0a (t 0)),o 3 (.box a0a (t 1)),o 4 (.alloc a0a [.bool false,.slice none 0 0])]
def S0k:SS:=[lA 5 2 2,o 6 (.call i0Q [t 5] true),⟨none,none,.store 2 (t 2) (t 6)⟩]
def S0l:SS:=[lA 7 2 3,o 8 (.call i0Q [t 7] true),⟨none,none,.store 2 (t 3) (t 8)⟩]
def S0m:SS:=[fA 9 0 2,lD 10 9,fA 11 0 3,lD 12 11,o 13 (.bin 1 .neq (t 10) (t 12)),fA 14 1 2,lD 15 14,fA 16 1 3,lD 17 16,o 18 (.call A0d [t 15,t 17] false),o 19 (.call t0C [t 13,t 18] true),⟨none,none,.store 2 (t 4) (t 19)⟩]
def c1i:SF:=⟨2,20,[.cell 4 true 2],
 (qS (gR S0j) (qS (gR S0k) (qS (gR S0l) (qS (.draw S0m [0,1,0,4,15,0,32,0,128,480,1023,2047] []) .ret))))⟩
def S0n:SS:=[o 4 (.alloc a0a [.bool false,.slice none 0 0])]
def S0o:SS:=[mV 5 1,o 6 (.call m0e [t 5] true),mV 1 6]
def J0q:SS:=[mV 7 1,lN 8 7,o 9 (.bin 0 .eql (t 8) (i 0))]
def S0p:SS:=[o 10 (.build [.bool false,.slice none 0 0] []),⟨none,none,.store 2 (t 4) (t 10)⟩]
def S0q:SS:=[mV 11 0,o 12 (.lit a0k [.int .u32 0] 0 []),mV 13 1,o 14 (.app a0k 1 4 (t 12) (t 13)),o 15 (.build [.bool false,.slice none 0 0] [(0,1,t 11),(1,1,t 14)]),⟨none,none,.store 2 (t 4) (t 15)⟩]
def c1j:SF:=⟨2,16,[.cell 4 true 2],
 (qS (gR S0n) (qS (gR S0o) (qS (qS (gR J0q) (.cond (t 9) (qS (gR S0p) .ret) .skip)) (qS (gR S0q) .ret))))⟩
def S0r:SS:=[o 1 (.box b0j (t 0)),o 2 (.mv (.const (.bool false)))]
def n0j:SS:=[fA 3 0 1,lD 4 3,o 5 (.bin 0 .lss (t 4) (i 0)),mV 6 5,og 7 6 false (.fa 0 (t 1)),og 8 6 false (.load false 1 (t 7)),og 9 6 false (.bin 0 .gtr (t 8) (i 60)),o 10 (.pick (t 6) (.const (.bool true)) (t 9)),mV 11 10,og 12 11 false (.fa 1 (t 1)),og 13 11 false (.load false 1 (t 12)),og 14 11 false (.len (t 13)),og 15 11 false (.bin 0 .gtr (t 14) (i 60)),o 16 (.pick (t 11) (.const (.bool true)) (t 15)),mV 17 16,og 18 17 false (.fa 2 (t 1)),og 19 17 false (.load false 1 (t 18)),og 20 17 false (.len (t 19)),og 21 17 false (.fa 1 (t 1)),og 22 17 false (.load false 1 (t 21)),og 23 17 false (.len (t 22)),og 24 17 false (.bin 0 .neq (t 20) (t 23)),o 25 (.pick (t 17) (.const (.bool true)) (t 24)),mV 26 25,og 27 26 false (.fa 3 (t 1)),og 28 26 false (.load false 1 (t 27)),og 29 26 false (.len (t 28)),og 30 26 false (.fa 0 (t 1)),og 31 26 false (.load false 1 (t 30)),og 32 26 false (.bin 0 .neq (t 29) (t 31)),o 33 (.pick (t 26) (.const (.bool true)) (t 32))]
def p0f:SS:=[o 2 (.mv (.const (.bool false)))]
def S0s:SS:=[fA 34 1 1,lD 35 34,o 36 (.mkfn (.func A0f) [] [t 1]),o 37 (.call A0e [t 35,t 36] true),o 38 (.un .not (t 37)),mV 2 38]
def c1k:SF:=⟨1,39,[.tmp 2],
 (qS (gR S0r) (qS (qS (gR n0j) (.cond (t 33) (qS (gR p0f) .ret) .skip)) (qS (gR S0s) .ret)))⟩
def S0t:SS:=[o 1 (.box b0j (t 0)),o 2 (.alloc b0M [.int .i64 0,.bool false,.slice none 0 0,.bool false,.slice none 0 0,.slice none 0 0,.slice none 0 0,.slice none 0 0]),o 3 (.mv (i 0))]
def S0u:SS:=[lA 8 4 1,o 9 (.call A0h [t 8] true),o 4 (.alloc a0P [.int .i64 0,.slice none 0 0,.slice none 0 0,.slice none 0 0,.bool false,.slice none 0 0,.bool false,.slice none 0 0]),⟨none,none,.store 8 (t 4) (t 9)⟩]
def S0v:SS:=[lA 11 4 1,lA 12 8 4,o 13 (.call p0I [t 11,t 12] true),mV 10 13,o 14 (.ext (t 10) 0),o 15 (.ext (t 10) 1),o 16 (.ext (t 10) 2),o 5 (.alloc b0M [.int .i64 0,.bool false,.slice none 0 0,.bool false,.slice none 0 0,.slice none 0 0,.slice none 0 0,.slice none 0 0]),⟨none,none,.store 8 (t 5) (t 14)⟩,mV 6 15,mV 7 16]
def J0r:SS:=[mV 17 7]
def S0w:SS:=[lA 18 8 5,mV 19 6,⟨none,none,.store 8 (t 2) (t 18)⟩,mV 3 19]
def S0x:SS:=[o 20 (.build [] []),lA 21 4 1,lA 22 8 4,o 23 (.call K0Y [t 20,t 21,t 22] true),o 24 (.ext (t 23) 0),o 25 (.ext (t 23) 1),⟨none,none,.store 8 (t 2) (t 24)⟩,mV 3 25]
def c1l:SF:=⟨1,26,[.cell 2 true 8,.tmp 3],
 (qS (gR S0t) (qS (gR S0u) (qS (qS (gR S0v) (qS (gR J0r) (.cond (t 17) (qS (gR S0w) .ret) .skip))) (qS (gR S0x) .ret))))⟩
def S0y:SS:=[o 2 (.mv (.const (.slice none 0 0)))]
def S0z:SS:=[o 3 (.mv (.const (.slice none 0 0)))]
def S0A:SS:=[o 4 (.mv (i 0))]
def S0B:SS:=[mV 5 4,mV 6 0,o 7 (.bin 0 .lss (t 5) (t 6))]
def S0C:SS:=[mV 10 3,o 11 (.call N0K [i 0] true),o 12 (.lit a0b [.bool false,.slice none 0 0,.bool false,.slice none 0 0] 1 [(0,4,t 11)]),o 13 (.app a0b 4 64 (t 10) (t 12)),mV 3 13]
def S0D:SS:=[mV 8 4,o 9 (.bin 0 .add (t 8) (i 1)),mV 4 9]
def S0E:SS:=[mV 14 3,mV 2 14]
def c1m:SF:=⟨1,15,[.tmp 2],
 (qS (gR S0y) (qS (gR S0z) (qS (qS (gR S0A) (.block 0 (.loop (qS (qS (gR S0B) (.cond (t 7) .skip (.exit 0))) (qS (.block 1 (gR S0C)) (gR S0D)))))) (qS (gR S0E) .ret))))⟩
def S0F:SS:=[o 6 (.mv (.const (.slice none 0 0))),o 7 (.mv (i 0))]
def S0G:SS:=[mV 11 0,lN 12 11,mV 13 1,lN 14 13,o 15 (.bin 0 .neq (t 12) (t 14)),mV 16 15,og 17 16 false (.mv (t 2)),og 18 16 false (.bin 0 .lss (t 17) (i 0)),o 19 (.pick (t 16) (.const (.bool true)) (t 18)),mV 20 19,og 21 20 false (.mv (t 2)),og 22 20 false (.bin 0 .gtr (t 21) (i 1000)),o 23 (.pick (t 20) (.const (.bool true)) (t 22))]
def a1o:SS:=[o 6 (.mv (.const (.slice none 0 0))),o 7 (.mv (i 1))]
def S0H:SS:=[o 8 (.mv (.const (.slice none 0 0)))]
def S0I:SS:=[o 9 (.mv (i 0))]
def S0J:SS:=[mV 24 9,mV 25 2,o 26 (.bin 0 .lss (t 24) (t 25))]
def S0K:SS:=[mV 29 8,o 30 (.call N0N [] true),o 31 (.lit a0b [.bool false,.slice none 0 0,.bool false,.slice none 0 0] 1 [(0,4,t 30)]),o 32 (.app a0b 4 64 (t 29) (t 31)),mV 8 32]
def S0L:SS:=[mV 27 9,o 28 (.bin 0 .add (t 27) (i 1)),mV 9 28]
def S0M:SS:=[o 10 (.mv (i 0))]
def S0N:SS:=[mV 33 10,mV 34 1,lN 35 34,o 36 (.bin 0 .lss (t 33) (t 35))]
def J0s:SS:=[mV 39 1,mV 40 10,iA 41 1 39 40,lD 42 41,lN 43 42,mV 44 2,o 45 (.bin 0 .neq (t 43) (t 44))]
def W0r:SS:=[o 6 (.mv (.const (.slice none 0 0))),o 7 (.mv (i 1))]
def J0t:SS:=[mV 47 8,mV 48 0,mV 49 10,iA 50 4 48 49,lA 51 4 50,mV 52 1,mV 53 10,iA 54 1 52 53,lD 55 54,o 56 (.call A0i [t 47,t 51,t 55] true),mV 46 56,o 57 (.ext (t 46) 0),o 58 (.ext (t 46) 1),mV 8 57]
def J0u:SS:=[mV 37 10,o 38 (.bin 0 .add (t 37) (i 1)),mV 10 38]
def J0v:SS:=[mV 59 8,mV 6 59,o 7 (.mv (i 0))]
def c1n:SF:=⟨3,60,[.tmp 6,.tmp 7],
 (qS (gR S0F) (qS (qS (gR S0G) (.cond (t 23) (qS (gR a1o) .ret) .skip)) (qS (gR S0H) (qS (qS (gR S0I) (.block 0 (.loop (qS (qS (gR S0J) (.cond (t 26) .skip (.exit 0))) (qS (.block 1 (gR S0K)) (gR S0L)))))) (qS (qS (gR S0M) (.block 2 (.loop (qS (qS (gR S0N) (.cond (t 36) .skip (.exit 2))) (qS (.block 3 (qS (qS (gR J0s) (.cond (t 45) (qS (gR W0r) .ret) .skip)) (.draw J0t [0,0,0,6,14,0,0,96,224,511,1023,2047,2047,4095] []))) (gR J0u)))))) (qS (gR J0v) .ret))))))⟩
def S0O:SS:=[o 0 (.alloc a0b [.bool false,.slice none 0 0,.bool false,.slice none 0 0])]
def S0P:SS:=[o 1 (.call V0j [i 1] true),o 2 (.build [.bool false,.slice none 0 0,.bool false,.slice none 0 0] [(2,2,t 1)]),⟨none,none,.store 4 (t 0) (t 2)⟩]
def c1o:SF:=⟨0,3,[.cell 0 true 4],
 (qS (gR S0O) (qS (gR S0P) .ret))⟩
def S0Q:SS:=[o 2 (.box a0b (t 0)),o 3 (.box a0b (t 1)),o 4 (.alloc a0b [.bool false,.slice none 0 0,.bool false,.slice none 0 0])]
def S0R:SS:=[lA 7 4 2,o 8 (.call v0Y [t 7] true),⟨none,none,.store 4 (t 2) (t 8)⟩]
def S0S:SS:=[lA 9 4 3,o 10 (.call v0Y [t 9] true),⟨none,none,.store 4 (t 3) (t 10)⟩]
def S0T:SS:=[fA 12 0 2,lA 13 2 12,fA 14 2 3,lA 15 2 14,o 16 (.call A0z [t 13,t 15] false),fA 17 0 3,lA 18 2 17,fA 19 2 2,lA 20 2 19,o 21 (.call A0z [t 18,t 20] false),o 22 (.call y0e [t 16,t 21] false),fA 23 2 2,lA 24 2 23,fA 25 2 3,lA 26 2 25,o 27 (.call A0z [t 24,t 26] false),o 28 (.call y0d [t 22,t 27] false),mV 11 28,o 29 (.ext (t 11) 0),o 30 (.ext (t 11) 1),o 5 (.alloc a0b [.bool false,.slice none 0 0,.bool false,.slice none 0 0]),⟨none,none,.store 4 (t 5) (t 29)⟩,mV 6 30]
def S0U:SS:=[lA 31 4 5,⟨none,none,.store 4 (t 4) (t 31)⟩]
def c1p:SF:=⟨2,32,[.cell 4 true 4],
 (qS (gR S0Q) (qS (gR S0R) (qS (gR S0S) (qS (.draw S0T [0,1,0,4,15,0,32,0,128,511,1023,0,2048,0,8192,32767,65535,131071,262143,262143,0,1572863,4194303] []) (qS (gR S0U) .ret)))))⟩
def S0V:SS:=[o 2 (.box a0b (t 0)),o 3 (.box a0b (t 1)),o 4 (.alloc a0b [.bool false,.slice none 0 0,.bool false,.slice none 0 0])]
def S0W:SS:=[lA 7 4 2,o 8 (.call v0Y [t 7] true),⟨none,none,.store 4 (t 2) (t 8)⟩]
def S0X:SS:=[lA 9 4 3,o 10 (.call v0Y [t 9] true),⟨none,none,.store 4 (t 3) (t 10)⟩]
def S0Y:SS:=[fA 12 0 2,lA 13 2 12,fA 14 0 3,lA 15 2 14,o 16 (.call A0z [t 13,t 15] false),fA 17 2 2,lA 18 2 17,fA 19 2 3,lA 20 2 19,o 21 (.call A0z [t 18,t 20] false),o 22 (.call y0d [t 16,t 21] false),mV 11 22,o 23 (.ext (t 11) 0),o 24 (.ext (t 11) 1),o 5 (.alloc a0b [.bool false,.slice none 0 0,.bool false,.slice none 0 0]),⟨none,none,.store 4 (t 5) (t 23)⟩,mV 6 24]
def S0Z:SS:=[lA 25 4 5,⟨none,none,.store 4 (t 4) (t 25)⟩]
def c1q:SF:=⟨2,26,[.cell 4 true 4],
 (qS (gR S0V) (qS (gR S0W) (qS (gR S0X) (qS (.draw S0Y [0,1,0,4,15,0,32,0,128,511,1023,2047,4095,4095,0,24575,65535] []) (qS (gR S0Z) .ret)))))⟩
def T0a:SS:=[o 1 (.box b0v (t 0)),o 2 (.mv (.const (.bool false)))]
def T0b:SS:=[fA 3 0 1,lD 4 3,o 5 (.bin 0 .lss (t 4) (i 0)),mV 2 5]
def c1r:SF:=⟨1,6,[.tmp 2],
 (qS (gR T0a) (qS (gR T0b) .ret))⟩
def T0c:SS:=[o 1 (.box a0b (t 0)),o 2 (.alloc a0b [.bool false,.slice none 0 0,.bool false,.slice none 0 0])]
def T0d:SS:=[lA 3 4 1,o 4 (.call y0f [t 3] true),mV 5 4,og 6 5 false (.load true 4 (t 1)),og 7 5 false (.call V0n [t 6] true),og 8 5 false (.un .not (t 7)),o 9 (.pick (t 5) (.const (.bool true)) (t 8))]
def J0w:SS:=[o 10 (.call t0v [] true),o 11 (.build [.bool false,.slice none 0 0,.bool false,.slice none 0 0] [(2,2,t 10)]),⟨none,none,.store 4 (t 2) (t 11)⟩]
def T0e:SS:=[fA 12 0 1,lA 13 2 12,o 14 (.build [.bool false,.slice none 0 0] []),o 15 (.call K0s [t 13,t 14] false),fA 16 2 1,lA 17 2 16,o 18 (.build [.bool false,.slice none 0 0] []),o 19 (.call K0s [t 17,t 18] true),o 20 (.build [.bool false,.slice none 0 0,.bool false,.slice none 0 0] [(0,2,t 15),(2,2,t 19)]),⟨none,none,.store 4 (t 2) (t 20)⟩]
def c1s:SF:=⟨1,21,[.cell 2 true 4],
 (qS (gR T0c) (qS (qS (gR T0d) (.cond (t 9) (qS (gR J0w) .ret) .skip)) (qS (.draw T0e [0,1,0,7,0,16,0,127,255,511] []) .ret)))⟩
def T0f:SS:=[o 2 (.box a0a (t 0)),o 3 (.box a0a (t 1)),o 4 (.alloc a0b [.bool false,.slice none 0 0,.bool false,.slice none 0 0])]
def T0g:SS:=[lA 8 2 2,lA 9 2 3,o 10 (.call p0J [t 8,t 9] true),mV 7 10,o 11 (.ext (t 7) 0),o 12 (.ext (t 7) 1),o 5 (.alloc a0b [.bool false,.slice none 0 0,.bool false,.slice none 0 0]),⟨none,none,.store 4 (t 5) (t 11)⟩,mV 6 12]
def T0h:SS:=[lA 13 4 5,⟨none,none,.store 4 (t 4) (t 13)⟩]
def c1t:SF:=⟨2,14,[.cell 4 true 4],
 (qS (gR T0f) (qS (gR T0g) (qS (gR T0h) .ret)))⟩
def T0i:SS:=[o 4 (.box a0a (t 1)),o 6 (.alloc a0a [.bool false,.slice none 0 0])]
def T0j:SS:=[mV 9 2,lN 10 9,o 11 (.mv (i 0))]
def J0x:SS:=[o 12 (.bin 0 .lss (t 11) (t 10))]
def T0k:SS:=[iA 13 2 9 11,lA 14 2 13,o 8 (.alloc a0a [.bool false,.slice none 0 0]),⟨none,none,.store 2 (t 8) (t 14)⟩]
def T0l:SS:=[mV 15 0,lA 16 2 4,lA 17 2 8,o 18 (.callv (t 15) [t 16,t 17] true),⟨none,none,.store 2 (t 4) (t 18)⟩]
def T0m:SS:=[o 19 (.bin 0 .add (t 11) (i 1)),mV 11 19]
def T0n:SS:=[lA 20 2 4,⟨none,none,.store 2 (t 6) (t 20)⟩]
def c1u:SF:=⟨3,21,[.cell 6 true 2],
 (qS (gR T0i) (qS (qS (gR T0j) (.block 0 (.loop (qS (gR J0x) (qS (.cond (t 12) .skip (.exit 0)) (qS (.block 1 (qS (gR T0k) (gR T0l))) (gR T0m))))))) (qS (gR T0n) .ret)))⟩
def T0o:SS:=[o 2 (.box a0a (t 0)),o 3 (.box a0a (t 1)),o 4 (.alloc a0a [.bool false,.slice none 0 0])]
def T0p:SS:=[lA 7 2 2,o 8 (.call f0O [t 7] false),lA 9 2 3,o 10 (.call f0O [t 9] true),mV 5 8,mV 6 10]
def T0q:SS:=[lA 12 2 2,o 13 (.call e0j [t 12] false),lA 14 2 3,o 15 (.call e0j [t 14] true),o 16 (.bin 1 .eql (t 13) (t 15)),mV 11 16]
def T0r:SS:=[lA 17 2 2,o 18 (.call e0j [t 17] true),mV 19 5,mV 20 6,o 21 (.call A0j [t 19,t 20] true),o 22 (.call g0z [t 18,t 21] true),⟨none,none,.store 2 (t 4) (t 22)⟩]
def T0s:SS:=[mV 24 5,mV 25 6,o 26 (.call r0D [t 24,t 25] true),o 27 (.bin 0 .geq (t 26) (i 0)),mV 23 27]
def T0t:SS:=[lA 28 2 2,o 29 (.call e0j [t 28] true),mV 30 5,mV 31 6,o 32 (.call y0g [t 30,t 31] true),o 33 (.call g0z [t 29,t 32] true),⟨none,none,.store 2 (t 4) (t 33)⟩]
def T0u:SS:=[lA 34 2 3,o 35 (.call e0j [t 34] true),mV 36 6,mV 37 5,o 38 (.call y0g [t 36,t 37] true),o 39 (.call g0z [t 35,t 38] true),⟨none,none,.store 2 (t 4) (t 39)⟩]
def c1v:SF:=⟨2,40,[.cell 4 true 2],
 (qS (gR T0o) (qS (.draw T0p [0,1,0,7,15,31] []) (qS (.block 0 (qS (.draw T0q [0,1,0,7,15,31] []) (.cond (t 11) (qS (gR T0r) .ret) (qS (gR T0s) (.cond (t 23) (qS (gR T0t) .ret) .skip))))) (qS (gR T0u) .ret))))⟩
def T0v:SS:=[o 2 (.box a0a (t 0)),o 3 (.box a0a (t 1)),o 4 (.alloc a0a [.bool false,.slice none 0 0])]
def T0w:SS:=[lA 13 2 2,o 14 (.call f0O [t 13] false),lA 15 2 3,o 16 (.call f0O [t 15] true),mV 5 14,mV 6 16]
def T0x:SS:=[mV 17 5,lN 18 17,mV 19 6,lN 20 19,o 21 (.bin 0 .add (t 18) (t 20)),o 22 (.mk a0k 4 [.int .u32 0] (t 21) (t 21)),mV 7 22]
def T0y:SS:=[mV 23 5,lN 24 23,o 25 (.mv (i 0))]
def J0F:SS:=[o 26 (.bin 0 .lss (t 25) (t 24))]
def T0z:SS:=[mV 27 25,iA 28 1 23 25,lD 29 28,mV 8 27,mV 9 29]
def T0A:SS:=[o 10 (.mv (.const (.int .u64 0)))]
def T0B:SS:=[mV 30 6,lN 31 30,o 32 (.mv (i 0))]
def J0G:SS:=[o 33 (.bin 0 .lss (t 32) (t 31))]
def T0C:SS:=[mV 34 32,iA 35 1 30 32,lD 36 35,mV 11 34,mV 12 36]
def J0y:SS:=[mV 37 10,mV 38 9,o 39 (.conv .u64 (t 38)),mV 40 12,o 41 (.conv .u64 (t 40)),o 42 (.bin 0 .mul (t 39) (t 41)),mV 43 7,mV 44 8,mV 45 11,o 46 (.bin 0 .add (t 44) (t 45)),iA 47 1 43 46,lD 48 47,o 49 (.conv .u64 (t 48)),o 50 (.bin 0 .add (t 42) (t 49)),o 51 (.bin 0 .add (t 37) (t 50)),mV 10 51]
def J0z:SS:=[mV 52 7,mV 53 8,mV 54 11,o 55 (.bin 0 .add (t 53) (t 54)),mV 56 10,o 57 (.call f0P [t 56] true),iA 58 1 52 55,⟨none,none,.store 1 (t 58) (t 57)⟩]
def J0A:SS:=[mV 59 10,o 60 (.bin 0 .shr (t 59) (.const (.int .u64 32))),mV 10 60]
def J0B:SS:=[o 61 (.bin 0 .add (t 32) (i 1)),mV 32 61]
def J0C:SS:=[mV 62 7,mV 63 8,mV 64 6,lN 65 64,o 66 (.bin 0 .add (t 63) (t 65)),mV 67 10,o 68 (.call f0P [t 67] true),iA 69 1 62 66,⟨none,none,.store 1 (t 69) (t 68)⟩]
def J0D:SS:=[o 70 (.bin 0 .add (t 25) (i 1)),mV 25 70]
def J0E:SS:=[lA 71 2 2,o 72 (.call e0j [t 71] false),lA 73 2 3,o 74 (.call e0j [t 73] true),o 75 (.bin 1 .neq (t 72) (t 74)),mV 76 7,o 77 (.call g0z [t 75,t 76] true),⟨none,none,.store 2 (t 4) (t 77)⟩]
def c1w:SF:=⟨2,78,[.cell 4 true 2],
 (qS (gR T0v) (qS (.draw T0w [0,1,0,7,15,31] []) (qS (gR T0x) (qS (qS (gR T0y) (.block 0 (.loop (qS (gR J0F) (qS (.cond (t 26) .skip (.exit 0)) (qS (.block 1 (qS (gR T0z) (qS (gR T0A) (qS (qS (gR T0B) (.block 2 (.loop (qS (gR J0G) (qS (.cond (t 33) .skip (.exit 2)) (qS (.block 3 (qS (gR T0C) (qS (gR J0y) (qS (gR J0z) (gR J0A))))) (gR J0B))))))) (gR J0C))))) (gR J0D))))))) (qS (.draw J0E [0,1,0,7,15,0,63,127] []) .ret)))))⟩
def T0D:SS:=[o 2 (.alloc a0b [.bool false,.slice none 0 0,.bool false,.slice none 0 0])]
def T0E:SS:=[mV 3 0,o 4 (.call l0m [t 3] true),o 5 (.call t0v [] true),o 6 (.build [.bool false,.slice none 0 0,.bool false,.slice none 0 0] [(0,2,t 4),(2,2,t 5)]),⟨none,none,.store 4 (t 2) (t 6)⟩]
def c1x:SF:=⟨1,7,[.cell 2 true 4],
 (qS (gR T0D) (qS (gR T0E) .ret))⟩
def T0F:SS:=[o 2 (.box a0b (t 0)),o 3 (.box a0b (t 1)),o 4 (.alloc a0b [.bool false,.slice none 0 0,.bool false,.slice none 0 0])]
def T0G:SS:=[lA 5 4 2,o 6 (.call y0u [t 5] false),lA 7 4 3,o 8 (.call y0u [t 7] true),⟨none,none,.store 4 (t 2) (t 6)⟩,⟨none,none,.store 4 (t 3) (t 8)⟩]
def T0H:SS:=[fA 9 0 2,lA 10 2 9,fA 11 0 3,lA 12 2 11,o 13 (.call p0M [t 10,t 12] false),fA 14 2 2,lA 15 2 14,fA 16 2 3,lA 17 2 16,o 18 (.call p0M [t 15,t 17] true),o 19 (.call X0o [t 13,t 18] true),⟨none,none,.store 4 (t 4) (t 19)⟩]
def c1y:SF:=⟨2,20,[.cell 4 true 4],
 (qS (gR T0F) (qS (.draw T0G [0,1,0,7,15,31] []) (qS (.draw T0H [0,1,0,4,15,0,32,0,128,511,1023,2047] []) .ret)))⟩
def T0I:SS:=[o 1 (.box b0v (t 0)),o 2 (.alloc b0v [.int .i64 0,.bool false,.slice none 0 0,.bool false,.slice none 0 0])]
def T0J:SS:=[lA 4 5 1,o 5 (.call X0k [t 4] true),o 6 (.un .not (t 5)),mV 3 6]
def T0K:SS:=[o 7 (.build [.bool false,.slice none 0 0,.bool false,.slice none 0 0] []),o 8 (.call V0k [t 7] true),⟨none,none,.store 5 (t 2) (t 8)⟩]
def J0H:SS:=[fA 10 0 1,lD 11 10,o 12 (.bin 0 .eql (t 11) (i 0)),mV 9 12]
def T0L:SS:=[fA 13 1 1,lA 14 4 13,o 15 (.call V0k [t 14] true),⟨none,none,.store 5 (t 2) (t 15)⟩]
def T0M:SS:=[fA 16 0 1,lD 17 16,o 18 (.build [.int .i64 0,.bool false,.slice none 0 0,.bool false,.slice none 0 0] [(0,1,t 17)]),⟨none,none,.store 5 (t 2) (t 18)⟩]
def c1z:SF:=⟨1,19,[.cell 2 true 5],
 (qS (gR T0I) (qS (.block 0 (qS (gR T0J) (.cond (t 3) (qS (gR T0K) .ret) (qS (gR J0H) (.cond (t 9) (qS (gR T0L) .ret) .skip))))) (qS (gR T0M) .ret)))⟩
def T0N:SS:=[o 2 (.box a0b (t 0)),o 3 (.box a0b (t 1)),o 4 (.mv (i 0))]
def T0O:SS:=[lA 5 4 2,o 6 (.call y0u [t 5] false),lA 7 4 3,o 8 (.call y0u [t 7] true),⟨none,none,.store 4 (t 2) (t 6)⟩,⟨none,none,.store 4 (t 3) (t 8)⟩]
def T0P:SS:=[fA 9 0 2,lA 10 2 9,fA 11 2 3,lA 12 2 11,o 13 (.call p0M [t 10,t 12] false),fA 14 0 3,lA 15 2 14,fA 16 2 2,lA 17 2 16,o 18 (.call p0M [t 15,t 17] true),o 19 (.call m0f [t 13,t 18] true),mV 4 19]
def c1A:SF:=⟨2,20,[.tmp 4],
 (qS (gR T0N) (qS (.draw T0O [0,1,0,7,15,31] []) (qS (.draw T0P [0,1,0,4,15,0,32,0,128,511,1023,2047] []) .ret)))⟩
def T0Q:SS:=[o 1 (.box a0b (t 0)),o 2 (.mv (.const (.bool false)))]
def x0A:SS:=[fA 4 2 1,fA 5 1 4,lD 6 5,lN 7 6,o 8 (.bin 0 .eql (t 7) (i 0)),mV 9 8,og 10 9 true (.fa 2 (t 1)),og 11 9 true (.fa 0 (t 10)),og 12 9 true (.load false 1 (t 11)),og 13 9 true (.un .not (t 12)),o 14 (.pick (t 9) (t 13) (.const (.bool false)))]
def J0I:SS:=[fA 15 0 1,fA 16 1 15,lD 17 16,lN 18 17,o 19 (.bin 0 .eql (t 18) (i 0)),mV 20 19,og 21 20 true (.fa 0 (t 1)),og 22 20 true (.fa 0 (t 21)),og 23 20 true (.load false 1 (t 22)),og 24 20 true (.un .not (t 23)),o 25 (.pick (t 20) (t 24) (.const (.bool false))),mV 2 25]
def J0J:SS:=[fA 26 0 1,lA 27 2 26,fA 28 2 1,lA 29 2 28,o 30 (.call y0h [t 27,t 29] true),o 3 (.alloc a0a [.bool false,.slice none 0 0]),⟨none,none,.store 2 (t 3) (t 30)⟩]
def J0K:SS:=[fA 31 0 1,lA 32 2 31,o 33 (.call t0w [t 32] true),mV 34 33,og 35 34 true (.fa 2 (t 1)),og 36 34 true (.load true 2 (t 35)),og 37 34 true (.call t0w [t 36] true),o 38 (.pick (t 34) (t 37) (.const (.bool false))),mV 39 38,og 40 39 true (.fa 2 (t 1)),og 41 39 true (.fa 0 (t 40)),og 42 39 true (.load false 1 (t 41)),og 43 39 true (.un .not (t 42)),o 44 (.pick (t 39) (t 43) (.const (.bool false))),mV 45 44,og 46 45 true (.fa 1 (t 3)),og 47 45 true (.load false 1 (t 46)),og 48 45 true (.len (t 47)),og 49 45 true (.bin 0 .eql (t 48) (i 1)),o 50 (.pick (t 45) (t 49) (.const (.bool false))),mV 51 50,og 52 51 true (.fa 1 (t 3)),og 53 51 true (.load false 1 (t 52)),og 54 51 true (.ia 1 (t 53) (i 0)),og 55 51 true (.load false 1 (t 54)),og 56 51 true (.bin 0 .eql (t 55) (.const (.int .u32 1))),o 57 (.pick (t 51) (t 56) (.const (.bool false))),mV 2 57]
def c1B:SF:=⟨1,58,[.tmp 2],
 (qS (gR T0Q) (qS (qS (gR x0A) (.cond (t 14) (qS (gR J0I) .ret) .skip)) (qS (gR J0J) (qS (gR J0K) .ret))))⟩
def T0R:SS:=[o 1 (.box a0b (t 0)),o 2 (.mv (.const (.bool false)))]
def s0G:SS:=[fA 3 0 1,fA 4 1 3,lD 5 4,lN 6 5,o 7 (.bin 0 .eql (t 6) (i 0)),mV 8 7,og 9 8 true (.fa 0 (t 1)),og 10 8 true (.fa 0 (t 9)),og 11 8 true (.load false 1 (t 10)),og 12 8 true (.un .not (t 11)),o 13 (.pick (t 8) (t 12) (.const (.bool false))),mV 14 13,og 15 14 true (.fa 2 (t 1)),og 16 14 true (.fa 1 (t 15)),og 17 14 true (.load false 1 (t 16)),og 18 14 true (.len (t 17)),og 19 14 true (.bin 0 .eql (t 18) (i 0)),o 20 (.pick (t 14) (t 19) (.const (.bool false))),mV 21 20,og 22 21 true (.fa 2 (t 1)),og 23 21 true (.fa 0 (t 22)),og 24 21 true (.load false 1 (t 23)),og 25 21 true (.un .not (t 24)),o 26 (.pick (t 21) (t 25) (.const (.bool false))),mV 2 26]
def c1C:SF:=⟨1,27,[.tmp 2],
 (qS (gR T0R) (qS (gR s0G) .ret))⟩
def T0S:SS:=[o 1 (.box a0b (t 0)),o 2 (.mv (.const (.bool false)))]
def T0T:SS:=[lA 3 4 1,o 4 (.call y0f [t 3] true)]
def T0U:SS:=[o 2 (.mv (.const (.bool true)))]
def T0V:SS:=[fA 5 0 1,lA 6 2 5,o 7 (.call r0E [t 6] true),mV 8 7,og 9 8 true (.fa 2 (t 1)),og 10 8 true (.load true 2 (t 9)),og 11 8 true (.call r0E [t 10] true),o 12 (.pick (t 8) (t 11) (.const (.bool false))),mV 13 12,og 14 13 true (.fa 2 (t 1)),og 15 13 true (.fa 0 (t 14)),og 16 13 true (.load false 1 (t 15)),og 17 13 true (.un .not (t 16)),o 18 (.pick (t 13) (t 17) (.const (.bool false))),mV 19 18,og 20 19 true (.fa 2 (t 1)),og 21 19 true (.load true 2 (t 20)),og 22 19 true (.call y0i [t 21] true),og 23 19 true (.un .not (t 22)),o 24 (.pick (t 19) (t 23) (.const (.bool false))),mV 25 24,og 26 25 true (.fa 0 (t 1)),og 27 25 true (.load true 2 (t 26)),og 28 25 true (.fa 2 (t 1)),og 29 25 true (.load true 2 (t 28)),og 30 25 true (.call r0F [t 27,t 29] true),og 31 25 true (.call t0v [] true),og 32 25 true (.call m0f [t 30,t 31] true),og 33 25 true (.bin 0 .eql (t 32) (i 0)),o 34 (.pick (t 25) (t 33) (.const (.bool false))),mV 2 34]
def c1D:SF:=⟨1,35,[.tmp 2],
 (qS (gR T0S) (qS (qS (gR T0T) (.cond (t 4) (qS (gR T0U) .ret) .skip)) (qS (gR T0V) .ret)))⟩
def T0W:SS:=[o 4 (.mv (i 0))]
def T0X:SS:=[mV 6 0,lN 7 6,o 8 (.mv (i 0))]
def a1p:SS:=[o 9 (.bin 0 .lss (t 8) (t 7))]
def T0Y:SS:=[mV 10 8,mV 5 10]
def T0Z:SS:=[mV 11 1,mV 12 0,mV 13 5,iA 14 5 12 13,lA 15 5 14,o 16 (.callv (t 11) [t 15] true)]
def U0a:SS:=[mV 17 5,mV 4 17]
def a1q:SS:=[o 18 (.bin 0 .add (t 8) (i 1)),mV 8 18]
def U0b:SS:=[o 4 (.mv (.const (.int .i64 (-1))))]
def c1E:SF:=⟨2,19,[.tmp 4],
 (qS (gR T0W) (qS (qS (gR T0X) (.block 0 (.loop (qS (gR a1p) (qS (.cond (t 9) .skip (.exit 0)) (qS (.block 1 (qS (gR T0Y) (qS (gR T0Z) (.cond (t 16) (qS (gR U0a) .ret) .skip)))) (gR a1q))))))) (qS (gR U0b) .ret)))⟩
def U0c:SS:=[o 1 (.box a0b (t 0)),o 2 (.mv (.const (.bool false)))]
def s0H:SS:=[fA 3 0 1,fA 4 0 3,lD 5 4,o 6 (.un .not (t 5)),mV 7 6,og 8 7 true (.fa 0 (t 1)),og 9 7 true (.fa 1 (t 8)),og 10 7 true (.load false 1 (t 9)),og 11 7 true (.len (t 10)),og 12 7 true (.bin 0 .eql (t 11) (i 0)),o 13 (.pick (t 7) (t 12) (.const (.bool false))),mV 14 13,og 15 14 true (.fa 2 (t 1)),og 16 14 true (.fa 0 (t 15)),og 17 14 true (.load false 1 (t 16)),og 18 14 true (.un .not (t 17)),o 19 (.pick (t 14) (t 18) (.const (.bool false))),mV 20 19,og 21 20 true (.fa 2 (t 1)),og 22 20 true (.fa 1 (t 21)),og 23 20 true (.load false 1 (t 22)),og 24 20 true (.len (t 23)),og 25 20 true (.bin 0 .eql (t 24) (i 0)),o 26 (.pick (t 20) (t 25) (.const (.bool false))),mV 2 26]
def c1F:SF:=⟨1,27,[.tmp 2],
 (qS (gR U0c) (qS (gR s0H) .ret))⟩
def B0R:SS:=[o 2 (.box a0a (t 0)),o 3 (.box a0a (t 1)),o 4 (.alloc a0a [.bool false,.slice none 0 0])]
def B0S:SS:=[lA 5 2 2,lA 6 2 3,o 7 (.call t0x [t 6] false),o 8 (.call y0e [t 5,t 7] true),⟨none,none,.store 2 (t 4) (t 8)⟩]
def L0Z:SF:=⟨2,9,[.cell 4 true 2],
 (qS (gR B0R) (qS (.draw B0S [0,0,2,7,15] []) .ret))⟩
def B0T:SS:=[o 1 (.box a0a (t 0)),o 2 (.alloc a0a [.bool false,.slice none 0 0])]
def B0U:SS:=[lA 3 2 1,o 4 (.call t0w [t 3] true),o 5 (.un .not (t 4))]
def B0V:SS:=[o 6 (.build [.bool false,.slice none 0 0] []),⟨none,none,.store 2 (t 2) (t 6)⟩]
def B0W:SS:=[lA 7 2 1,⟨none,none,.store 2 (t 2) (t 7)⟩]
def M0a:SF:=⟨1,8,[.cell 2 true 2],
 (qS (gR B0T) (qS (qS (gR B0U) (.cond (t 5) (qS (gR B0V) .ret) .skip)) (qS (gR B0W) .ret)))⟩
def B0X:SS:=[o 4 (.mv (.const (.slice none 0 0)))]
def B0Y:SS:=[mV 10 0,lN 11 10,mV 12 1,lN 13 12,o 14 (.bin 0 .add (t 11) (t 13)),o 15 (.mk a0k 4 [.int .u32 0] (t 14) (t 14)),mV 5 15]
def B0Z:SS:=[o 6 (.mv (i 0))]
def C0a:SS:=[mV 16 6,mV 17 0,lN 18 17,o 19 (.bin 0 .lss (t 16) (t 18))]
def C0b:SS:=[o 7 (.mv (.const (.int .u64 0)))]
def C0c:SS:=[o 8 (.mv (i 0))]
def C0d:SS:=[mV 22 8,mV 23 1,lN 24 23,o 25 (.bin 0 .lss (t 22) (t 24))]
def C0e:SS:=[mV 28 0,mV 29 6,iA 30 1 28 29,lD 31 30,o 32 (.conv .u64 (t 31)),mV 33 1,mV 34 8,iA 35 1 33 34,lD 36 35,o 37 (.conv .u64 (t 36)),o 38 (.bin 0 .mul (t 32) (t 37)),mV 39 5,mV 40 6,mV 41 8,o 42 (.bin 0 .add (t 40) (t 41)),iA 43 1 39 42,lD 44 43,o 45 (.conv .u64 (t 44)),o 46 (.bin 0 .add (t 38) (t 45)),mV 47 7,o 48 (.bin 0 .add (t 46) (t 47)),mV 9 48]
def C0f:SS:=[mV 49 5,mV 50 6,mV 51 8,o 52 (.bin 0 .add (t 50) (t 51)),mV 53 9,o 54 (.conv .u32 (t 53)),iA 55 1 49 52,⟨none,none,.store 1 (t 55) (t 54)⟩]
def C0g:SS:=[mV 56 9,o 57 (.bin 0 .shr (t 56) (.const (.int .u64 32))),mV 7 57]
def w0B:SS:=[mV 26 8,o 27 (.bin 0 .add (t 26) (i 1)),mV 8 27]
def w0C:SS:=[mV 58 5,mV 59 6,mV 60 1,lN 61 60,o 62 (.bin 0 .add (t 59) (t 61)),mV 63 7,o 64 (.conv .u32 (t 63)),iA 65 1 58 62,⟨none,none,.store 1 (t 65) (t 64)⟩]
def w0D:SS:=[mV 20 6,o 21 (.bin 0 .add (t 20) (i 1)),mV 6 21]
def w0E:SS:=[mV 66 5,o 67 (.call m0e [t 66] true),mV 4 67]
def M0b:SF:=⟨2,68,[.tmp 4],
 (qS (gR B0X) (qS (gR B0Y) (qS (qS (gR B0Z) (.block 0 (.loop (qS (qS (gR C0a) (.cond (t 19) .skip (.exit 0))) (qS (.block 1 (qS (gR C0b) (qS (qS (gR C0c) (.block 2 (.loop (qS (qS (gR C0d) (.cond (t 25) .skip (.exit 2))) (qS (.block 3 (qS (.draw C0e [0,0,3,7,15,0,0,96,224,480,1023,0,0,0,12288,30720,63488,129024,262143,0,1048575,2097151] []) (qS (gR C0f) (gR C0g)))) (gR w0B)))))) (gR w0C)))) (gR w0D)))))) (qS (gR w0E) .ret))))⟩
def C0h:SS:=[o 2 (.mv (.const (.slice none 0 0)))]
def C0i:SS:=[mV 4 0,lN 5 4,mV 3 5]
def u0a:SS:=[mV 6 3,o 7 (.bin 0 .gtr (t 6) (i 0)),mV 8 7,og 9 8 true (.mv (t 0)),og 10 8 true (.mv (t 3)),og 11 8 true (.bin 0 .sub (t 10) (i 1)),og 12 8 true (.ia 1 (t 9) (t 11)),og 13 8 true (.load false 1 (t 12)),og 14 8 true (.bin 0 .eql (t 13) (.const (.int .u32 0))),o 15 (.pick (t 8) (t 14) (.const (.bool false)))]
def C0j:SS:=[mV 16 3,o 17 (.bin 0 .sub (t 16) (i 1)),mV 3 17]
def C0k:SS:=[mV 18 0,mV 19 3,o 20 (.sl a0k 1 (t 18) none (some (t 19)) none),mV 2 20]
def M0c:SF:=⟨1,21,[.tmp 2],
 (qS (gR C0h) (qS (gR C0i) (qS (.block 0 (.loop (qS (qS (gR u0a) (.cond (t 15) .skip (.exit 0))) (.block 1 (gR C0j))))) (qS (gR C0k) .ret))))⟩
def C0l:SS:=[o 4 (.mv (.const (.bool false)))]
def C0m:SS:=[mV 5 0,mV 6 1,o 7 (.call A0k [t 5,t 6] true),o 8 (.bin 0 .geq (t 7) (i 0)),mV 4 8]
def M0d:SF:=⟨2,9,[.tmp 4],
 (qS (gR C0l) (qS (gR C0m) .ret))⟩
def C0n:SS:=[o 3 (.mv (.const (.bool false)))]
def C0o:SS:=[mV 4 0,lN 5 4,fA 6 0 1,lD 7 6,o 8 (.bin 0 .neq (t 5) (t 7)),mV 3 8]
def M0e:SF:=⟨2,9,[.tmp 3],
 (qS (gR C0n) (qS (gR C0o) .ret))⟩
def C0p:SS:=[o 1 (.box b0j (t 0)),o 2 (.alloc a0P [.int .i64 0,.slice none 0 0,.slice none 0 0,.slice none 0 0,.bool false,.slice none 0 0,.bool false,.slice none 0 0])]
def C0q:SS:=[fA 8 0 1,lD 9 8,o 10 (.build [.int .i64 0,.slice none 0 0,.slice none 0 0,.slice none 0 0,.bool false,.slice none 0 0,.bool false,.slice none 0 0] [(0,1,t 9)]),o 3 (.alloc a0P [.int .i64 0,.slice none 0 0,.slice none 0 0,.slice none 0 0,.bool false,.slice none 0 0,.bool false,.slice none 0 0]),⟨none,none,.store 8 (t 3) (t 10)⟩]
def C0r:SS:=[fA 11 1 1,lD 12 11,lN 13 12,o 14 (.mv (i 0))]
def V0D:SS:=[o 15 (.bin 0 .lss (t 14) (t 13))]
def C0s:SS:=[mV 16 14,iA 17 1 12 14,lD 18 17,mV 4 16,mV 5 18]
def C0t:SS:=[mV 20 5,o 21 (.call y0k [t 20] false),fA 22 2 1,lD 23 22,mV 24 4,iA 25 4 23 24,lA 26 4 25,o 27 (.build [.bool false,.slice none 0 0,.bool false,.slice none 0 0] []),o 28 (.call v0X [t 26,t 27] false),o 29 (.lit a0b [.bool false,.slice none 0 0,.bool false,.slice none 0 0] 1 [(0,4,t 28)]),o 30 (.app a0b 4 64 (t 21) (t 29)),o 31 (.call y0j [t 30] false),mV 19 31,o 32 (.ext (t 19) 0),o 33 (.ext (t 19) 1),o 7 (.alloc a0b [.bool false,.slice none 0 0,.bool false,.slice none 0 0]),mV 6 32,⟨none,none,.store 4 (t 7) (t 33)⟩]
def C0u:SS:=[fA 34 1 3,lD 35 34,mV 36 6,o 37 (.lit b0G [.slice none 0 0] 1 [(0,1,t 36)]),o 38 (.app b0G 1 24 (t 35) (t 37)),fA 39 2 3,lD 40 39,lA 41 4 7,o 42 (.lit a0b [.bool false,.slice none 0 0,.bool false,.slice none 0 0] 1 [(0,4,t 41)]),o 43 (.app a0b 4 64 (t 40) (t 42)),fA 44 1 3,⟨none,none,.store 1 (t 44) (t 38)⟩,fA 45 2 3,⟨none,none,.store 1 (t 45) (t 43)⟩]
def V0E:SS:=[o 46 (.bin 0 .add (t 14) (i 1)),mV 14 46]
def C0v:SS:=[fA 48 3 1,lD 49 48,o 50 (.call y0k [t 49] true),o 51 (.call y0j [t 50] true),mV 47 51,o 52 (.ext (t 47) 0),o 53 (.ext (t 47) 1),fA 54 3 3,⟨none,none,.store 1 (t 54) (t 52)⟩,fA 55 4 3,⟨none,none,.store 4 (t 55) (t 53)⟩]
def C0w:SS:=[lA 56 8 3,⟨none,none,.store 8 (t 2) (t 56)⟩]
def M0f:SF:=⟨1,57,[.cell 2 true 8],
 (qS (gR C0p) (qS (gR C0q) (qS (qS (gR C0r) (.block 0 (.loop (qS (gR V0D) (qS (.cond (t 15) .skip (.exit 0)) (qS (.block 1 (qS (gR C0s) (qS (.draw C0t [0,1,0,4,0,28,60,0,255,511,1023,2047,4095,8191,8191,0,49151,131071] [(10,15)]) (.draw C0u [0,1,0,4,15,0,32,0,128,511,127,2047,4095,8191] [(4,6),(4,7),(4,8)])))) (gR V0E))))))) (qS (gR C0v) (qS (gR C0w) .ret)))))⟩
def C0x:SS:=[o 4 (.box a0b (t 1)),o 6 (.mv (.const (.slice none 0 0))),o 7 (.mv (i 0))]
def C0y:SS:=[mV 10 0,lN 11 10,mV 12 2,lN 13 12,o 14 (.bin 0 .neq (t 11) (t 13))]
def V0F:SS:=[o 6 (.mv (.const (.slice none 0 0))),o 7 (.mv (i 1))]
def C0z:SS:=[o 8 (.mv (.const (.slice none 0 0)))]
def C0A:SS:=[o 9 (.mv (i 0))]
def C0B:SS:=[mV 15 9,mV 16 0,lN 17 16,o 18 (.bin 0 .lss (t 15) (t 17))]
def C0C:SS:=[mV 21 8,mV 22 0,mV 23 9,iA 24 4 22 23,lA 25 4 24,lA 26 4 4,mV 27 2,mV 28 9,iA 29 4 27 28,lA 30 4 29,o 31 (.call X0n [t 26,t 30] false),o 32 (.call X0m [t 25,t 31] true),o 33 (.lit a0b [.bool false,.slice none 0 0,.bool false,.slice none 0 0] 1 [(0,4,t 32)]),o 34 (.app a0b 4 64 (t 21) (t 33)),mV 8 34]
def C0D:SS:=[mV 19 9,o 20 (.bin 0 .add (t 19) (i 1)),mV 9 20]
def C0E:SS:=[mV 35 8,mV 6 35,o 7 (.mv (i 0))]
def M0g:SF:=⟨3,36,[.tmp 6,.tmp 7],
 (qS (gR C0x) (qS (qS (gR C0y) (.cond (t 14) (qS (gR V0F) .ret) .skip)) (qS (gR C0z) (qS (qS (gR C0A) (.block 0 (.loop (qS (qS (gR C0B) (.cond (t 18) .skip (.exit 0))) (qS (.block 1 (.draw C0C [0,0,0,6,14,0,0,0,192,448,992,2046,4094,8191,16383] [])) (gR C0D)))))) (qS (gR C0E) .ret)))))⟩
def C0F:SS:=[o 2 (.box a0a (t 0)),o 3 (.box a0a (t 1)),o 4 (.alloc a0b [.bool false,.slice none 0 0,.bool false,.slice none 0 0]),o 5 (.mv (i 0))]
def C0G:SS:=[lA 13 2 2,o 14 (.call i0Q [t 13] true),⟨none,none,.store 2 (t 2) (t 14)⟩]
def C0H:SS:=[lA 15 2 3,o 16 (.call i0Q [t 15] true),⟨none,none,.store 2 (t 3) (t 16)⟩]
def C0I:SS:=[fA 17 1 3,lD 18 17,lN 19 18,o 20 (.bin 0 .eql (t 19) (i 0))]
def V0G:SS:=[o 21 (.build [.bool false,.slice none 0 0,.bool false,.slice none 0 0] []),⟨none,none,.store 4 (t 4) (t 21)⟩,o 5 (.mv (i 11))]
def C0J:SS:=[lA 22 2 2,lA 23 2 3,o 24 (.call y0h [t 22,t 23] true),o 6 (.alloc a0a [.bool false,.slice none 0 0]),⟨none,none,.store 2 (t 6) (t 24)⟩]
def C0K:SS:=[lA 26 2 2,lA 27 2 6,o 28 (.call y0l [t 26,t 27] true),mV 25 28,o 29 (.ext (t 25) 0),o 30 (.ext (t 25) 1),o 31 (.ext (t 25) 2),o 7 (.alloc a0a [.bool false,.slice none 0 0]),o 8 (.alloc a0a [.bool false,.slice none 0 0]),⟨none,none,.store 2 (t 7) (t 29)⟩,⟨none,none,.store 2 (t 8) (t 30)⟩,mV 9 31]
def C0L:SS:=[lA 33 2 3,lA 34 2 6,o 35 (.call y0l [t 33,t 34] true),mV 32 35,o 36 (.ext (t 32) 0),o 37 (.ext (t 32) 1),o 38 (.ext (t 32) 2),o 10 (.alloc a0a [.bool false,.slice none 0 0]),o 11 (.alloc a0a [.bool false,.slice none 0 0]),⟨none,none,.store 2 (t 10) (t 36)⟩,⟨none,none,.store 2 (t 11) (t 37)⟩,mV 12 38]
def C0M:SS:=[fA 39 0 10,lD 40 39]
def C0N:SS:=[lA 41 2 7,o 42 (.call t0x [t 41] true),⟨none,none,.store 2 (t 7) (t 42)⟩]
def w0F:SS:=[lA 43 2 10,o 44 (.call t0x [t 43] true),⟨none,none,.store 2 (t 10) (t 44)⟩]
def q0v:SS:=[lA 45 2 7,lA 46 2 10,o 47 (.build [.bool false,.slice none 0 0,.bool false,.slice none 0 0] [(0,2,t 45),(2,2,t 46)]),⟨none,none,.store 4 (t 4) (t 47)⟩,o 5 (.mv (i 0))]
def M0h:SF:=⟨2,48,[.cell 4 true 4,.tmp 5],
 (qS (gR C0F) (qS (gR C0G) (qS (gR C0H) (qS (qS (gR C0I) (.cond (t 20) (qS (gR V0G) .ret) .skip)) (qS (gR C0J) (qS (gR C0K) (qS (gR C0L) (qS (qS (gR C0M) (.cond (t 40) (qS (gR C0N) (gR w0F)) .skip)) (qS (gR q0v) .ret)))))))))⟩
def C0O:SS:=[o 2 (.box a0a (t 0)),o 3 (.box a0a (t 1)),o 4 (.alloc a0a [.bool false,.slice none 0 0])]
def C0P:SS:=[lA 5 2 2,o 6 (.call i0Q [t 5] true),⟨none,none,.store 2 (t 2) (t 6)⟩]
def C0Q:SS:=[lA 7 2 3,o 8 (.call i0Q [t 7] true),⟨none,none,.store 2 (t 3) (t 8)⟩]
def u0b:SS:=[fA 9 0 2,lD 10 9,fA 11 0 3,lD 12 11,o 13 (.bin 1 .eql (t 10) (t 12))]
def C0R:SS:=[fA 14 0 2,lD 15 14,fA 16 1 2,lD 17 16,fA 18 1 3,lD 19 18,o 20 (.call A0l [t 17,t 19] false),o 21 (.call t0C [t 15,t 20] true),⟨none,none,.store 2 (t 4) (t 21)⟩]
def C0S:SS:=[fA 22 1 2,lD 23 22,fA 24 1 3,lD 25 24,o 26 (.call t0y [t 23,t 25] true),o 27 (.bin 0 .geq (t 26) (i 0))]
def C0T:SS:=[fA 28 0 2,lD 29 28,fA 30 1 2,lD 31 30,fA 32 1 3,lD 33 32,o 34 (.call r0H [t 31,t 33] false),o 35 (.call t0C [t 29,t 34] true),⟨none,none,.store 2 (t 4) (t 35)⟩]
def C0U:SS:=[fA 36 0 3,lD 37 36,fA 38 1 3,lD 39 38,fA 40 1 2,lD 41 40,o 42 (.call r0H [t 39,t 41] false),o 43 (.call t0C [t 37,t 42] true),⟨none,none,.store 2 (t 4) (t 43)⟩]
def M0i:SF:=⟨2,44,[.cell 4 true 2],
 (qS (gR C0O) (qS (gR C0P) (qS (gR C0Q) (qS (qS (gR u0b) (.cond (t 13) (qS (.draw C0R [0,1,0,4,0,16,60,127,255] []) .ret) .skip)) (qS (qS (gR C0S) (.cond (t 27) (qS (.draw C0T [0,1,0,4,0,16,60,127,255] []) .ret) .skip)) (qS (.draw C0U [0,1,0,4,0,16,60,127,255] []) .ret))))))⟩
def C0V:SS:=[o 1 (.box a0b (t 0)),o 2 (.mv (.const (.bool false)))]
def n0c:SS:=[fA 3 0 1,fA 4 0 3,lD 5 4,o 6 (.un .not (t 5)),mV 7 6,og 8 7 true (.fa 0 (t 1)),og 9 7 true (.fa 1 (t 8)),og 10 7 true (.load false 1 (t 9)),og 11 7 true (.len (t 10)),og 12 7 true (.bin 0 .eql (t 11) (i 0)),o 13 (.pick (t 7) (t 12) (.const (.bool false))),mV 14 13,og 15 14 true (.fa 2 (t 1)),og 16 14 true (.fa 0 (t 15)),og 17 14 true (.load false 1 (t 16)),og 18 14 true (.un .not (t 17)),o 19 (.pick (t 14) (t 18) (.const (.bool false))),mV 20 19,og 21 20 true (.fa 2 (t 1)),og 22 20 true (.fa 1 (t 21)),og 23 20 true (.load false 1 (t 22)),og 24 20 true (.len (t 23)),og 25 20 true (.bin 0 .eql (t 24) (i 0)),o 26 (.pick (t 20) (t 25) (.const (.bool false))),mV 2 26]
def M0j:SF:=⟨1,27,[.tmp 2],
 (qS (gR C0V) (qS (gR n0c) .ret))⟩
def C0W:SS:=[o 0 (.alloc a0a [.bool false,.slice none 0 0])]
def C0X:SS:=[o 1 (.call l0m [i 1] true),⟨none,none,.store 2 (t 0) (t 1)⟩]
def M0k:SF:=⟨0,2,[.cell 0 true 2],
 (qS (gR C0W) (qS (gR C0X) .ret))⟩
def C0Y:SS:=[o 2 (.box a0a (t 0)),o 3 (.box a0a (t 1)),o 4 (.alloc a0b [.bool false,.slice none 0 0,.bool false,.slice none 0 0]),o 5 (.mv (i 0))]
def C0Z:SS:=[lA 7 2 3,o 8 (.call y0i [t 7] true)]
def V0H:SS:=[o 9 (.build [.bool false,.slice none 0 0,.bool false,.slice none 0 0] []),⟨none,none,.store 4 (t 4) (t 9)⟩,o 5 (.mv (i 11))]
def D0a:SS:=[lA 10 2 2,lA 11 2 3,o 12 (.call r0F [t 10,t 11] true),o 6 (.alloc a0a [.bool false,.slice none 0 0]),⟨none,none,.store 2 (t 6) (t 12)⟩]
def D0b:SS:=[lA 13 2 3,o 14 (.build [.bool false,.slice none 0 0] []),o 15 (.call m0f [t 13,t 14] true),o 16 (.bin 0 .lss (t 15) (i 0))]
def D0c:SS:=[lA 17 2 6,o 18 (.call r0I [t 17] true),⟨none,none,.store 2 (t 6) (t 18)⟩]
def u0c:SS:=[lA 20 2 2,lA 21 2 6,o 22 (.call m0g [t 20,t 21] true),mV 19 22,o 23 (.ext (t 19) 0),o 24 (.ext (t 19) 1),o 25 (.ext (t 19) 2),⟨none,none,.store 2 (t 2) (t 23)⟩]
def u0d:SS:=[lA 27 2 3,lA 28 2 6,o 29 (.call m0g [t 27,t 28] true),mV 26 29,o 30 (.ext (t 26) 0),o 31 (.ext (t 26) 1),o 32 (.ext (t 26) 2),⟨none,none,.store 2 (t 3) (t 30)⟩]
def u0e:SS:=[lA 33 2 2,lA 34 2 3,o 35 (.build [.bool false,.slice none 0 0,.bool false,.slice none 0 0] [(0,2,t 33),(2,2,t 34)]),⟨none,none,.store 4 (t 4) (t 35)⟩,o 5 (.mv (i 0))]
def M0l:SF:=⟨2,36,[.cell 4 true 4,.tmp 5],
 (qS (gR C0Y) (qS (qS (gR C0Z) (.cond (t 8) (qS (gR V0H) .ret) .skip)) (qS (gR D0a) (qS (qS (gR D0b) (.cond (t 16) (gR D0c) .skip)) (qS (gR u0c) (qS (gR u0d) (qS (gR u0e) .ret)))))))⟩
def D0d:SS:=[o 1 (.box a0a (t 0)),o 2 (.mv (.const (.slice none 0 0)))]
def D0e:SS:=[lA 3 2 1,o 4 (.call r0E [t 3] true),o 5 (.un .not (t 4))]
def D0f:SS:=[o 2 (.mv (.const (.slice none 0 0)))]
def D0g:SS:=[fA 6 1 1,lD 7 6,mV 2 7]
def M0m:SF:=⟨1,8,[.tmp 2],
 (qS (gR D0d) (qS (qS (gR D0e) (.cond (t 5) (qS (gR D0f) .ret) .skip)) (qS (gR D0g) .ret)))⟩
def D0h:SS:=[o 1 (.box a0a (t 0)),o 2 (.mv (.const (.bool false)))]
def D0i:SS:=[lA 3 2 1,o 4 (.call r0E [t 3] true),mV 5 4,og 6 5 true (.fa 0 (t 1)),og 7 5 true (.load false 1 (t 6)),o 8 (.pick (t 5) (t 7) (.const (.bool false))),mV 2 8]
def M0n:SF:=⟨1,9,[.tmp 2],
 (qS (gR D0h) (qS (gR D0i) .ret))⟩
def D0j:SS:=[o 4 (.alloc a0a [.bool false,.slice none 0 0])]
def D0k:SS:=[mV 6 1,lN 7 6,mV 5 7]
def u0f:SS:=[mV 8 5,o 9 (.bin 0 .gtr (t 8) (i 0)),mV 10 9,og 11 10 true (.mv (t 1)),og 12 10 true (.mv (t 5)),og 13 10 true (.bin 0 .sub (t 12) (i 1)),og 14 10 true (.ia 1 (t 11) (t 13)),og 15 10 true (.load false 1 (t 14)),og 16 10 true (.bin 0 .eql (t 15) (.const (.int .u32 0))),o 17 (.pick (t 10) (t 16) (.const (.bool false)))]
def D0l:SS:=[mV 18 5,o 19 (.bin 0 .sub (t 18) (i 1)),mV 5 19]
def D0m:SS:=[mV 20 5,o 21 (.bin 0 .eql (t 20) (i 0))]
def D0n:SS:=[o 22 (.build [.bool false,.slice none 0 0] []),⟨none,none,.store 2 (t 4) (t 22)⟩]
def D0o:SS:=[mV 23 0,mV 24 1,mV 25 5,o 26 (.sl a0k 1 (t 24) none (some (t 25)) none),o 27 (.call A0m [t 26] true),o 28 (.build [.bool false,.slice none 0 0] [(0,1,t 23),(1,1,t 27)]),⟨none,none,.store 2 (t 4) (t 28)⟩]
def M0o:SF:=⟨2,29,[.cell 4 true 2],
 (qS (gR D0j) (qS (gR D0k) (qS (.block 0 (.loop (qS (qS (gR u0f) (.cond (t 17) .skip (.exit 0))) (.block 1 (gR D0l))))) (qS (qS (gR D0m) (.cond (t 21) (qS (gR D0n) .ret) .skip)) (qS (gR D0o) .ret)))))⟩
def D0p:SS:=[o 4 (.mv (.const (.slice none 0 0)))]
def D0q:SS:=[mV 9 0,lN 10 9,mV 11 1,lN 12 11,o 13 (.bin 0 .lss (t 10) (t 12))]
def D0r:SS:=[mV 14 1,mV 15 0,mV 0 14,mV 1 15]
def D0s:SS:=[mV 16 0,lN 17 16,o 18 (.bin 0 .add (t 17) (i 1)),o 19 (.mk a0k 4 [.int .u32 0] (i 0) (t 18)),mV 5 19]
def D0t:SS:=[o 6 (.mv (.const (.int .u64 0)))]
def D0u:SS:=[mV 20 0,lN 21 20,o 22 (.mv (i 0))]
def q0A:SS:=[o 23 (.bin 0 .lss (t 22) (t 21))]
def u0g:SS:=[mV 24 22,iA 25 1 20 22,lD 26 25,mV 7 24,mV 8 26]
def u0h:SS:=[mV 27 6,mV 28 8,o 29 (.conv .u64 (t 28)),o 30 (.bin 0 .add (t 27) (t 29)),mV 6 30]
def u0i:SS:=[mV 31 7,mV 32 1,lN 33 32,o 34 (.bin 0 .lss (t 31) (t 33))]
def q0w:SS:=[mV 35 6,mV 36 1,mV 37 7,iA 38 1 36 37,lD 39 38,o 40 (.conv .u64 (t 39)),o 41 (.bin 0 .add (t 35) (t 40)),mV 6 41]
def q0x:SS:=[mV 42 5,mV 43 6,o 44 (.call f0P [t 43] true),o 45 (.lit a0k [.int .u32 0] 1 [(0,1,t 44)]),o 46 (.app a0k 1 4 (t 42) (t 45)),mV 5 46]
def q0y:SS:=[mV 47 6,o 48 (.bin 0 .shr (t 47) (.const (.int .u64 32))),mV 6 48]
def q0z:SS:=[o 49 (.bin 0 .add (t 22) (i 1)),mV 22 49]
def w0G:SS:=[mV 50 5,mV 51 6,o 52 (.call f0P [t 51] true),o 53 (.lit a0k [.int .u32 0] 1 [(0,1,t 52)]),o 54 (.app a0k 1 4 (t 50) (t 53)),mV 4 54]
def M0p:SF:=⟨2,55,[.tmp 4],
 (qS (gR D0p) (qS (qS (gR D0q) (.cond (t 13) (gR D0r) .skip)) (qS (gR D0s) (qS (gR D0t) (qS (qS (gR D0u) (.block 0 (.loop (qS (gR q0A) (qS (.cond (t 23) .skip (.exit 0)) (qS (.block 1 (qS (gR u0g) (qS (gR u0h) (qS (qS (gR u0i) (.cond (t 34) (gR q0w) .skip)) (qS (gR q0x) (gR q0y)))))) (gR q0z))))))) (qS (gR w0G) .ret))))))⟩
def D0v:SS:=[o 4 (.mv (i 0))]
def D0w:SS:=[mV 6 0,lN 7 6,mV 8 1,lN 9 8,o 10 (.bin 0 .neq (t 7) (t 9))]
def D0x:SS:=[mV 11 0,lN 12 11,mV 13 1,lN 14 13,o 15 (.call A0n [t 12,t 14] true),mV 4 15]
def D0y:SS:=[mV 16 0,lN 17 16,o 18 (.bin 0 .sub (t 17) (i 1)),mV 5 18]
def u0j:SS:=[mV 19 5,o 20 (.bin 0 .geq (t 19) (i 0))]
def D0z:SS:=[mV 23 0,mV 24 5,iA 25 1 23 24,lD 26 25,mV 27 1,mV 28 5,iA 29 1 27 28,lD 30 29,o 31 (.bin 0 .neq (t 26) (t 30))]
def D0A:SS:=[mV 32 0,mV 33 5,iA 34 1 32 33,lD 35 34,mV 36 1,mV 37 5,iA 38 1 36 37,lD 39 38,o 40 (.call A0o [t 35,t 39] true),mV 4 40]
def D0B:SS:=[mV 21 5,o 22 (.bin 0 .sub (t 21) (i 1)),mV 5 22]
def D0C:SS:=[o 4 (.mv (i 0))]
def M0q:SF:=⟨2,41,[.tmp 4],
 (qS (gR D0v) (qS (qS (gR D0w) (.cond (t 10) (qS (gR D0x) .ret) .skip)) (qS (qS (gR D0y) (.block 0 (.loop (qS (qS (gR u0j) (.cond (t 20) .skip (.exit 0))) (qS (.block 1 (qS (.draw D0z [0,0,3,7,0,0,48,112,255] []) (.cond (t 31) (qS (.draw D0A [0,0,3,7,0,0,48,112,255,511] []) .ret) .skip))) (gR D0B)))))) (qS (gR D0C) .ret))))⟩
def D0D:SS:=[o 4 (.mv (.const (.slice none 0 0)))]
def D0E:SS:=[mV 11 0,lN 12 11,o 13 (.mk a0k 4 [.int .u32 0] (i 0) (t 12)),mV 5 13]
def D0F:SS:=[o 6 (.mv (.const (.int .u64 0)))]
def D0G:SS:=[mV 14 0,lN 15 14,o 16 (.mv (i 0))]
def q0E:SS:=[o 17 (.bin 0 .lss (t 16) (t 15))]
def u0k:SS:=[mV 18 16,iA 19 1 14 16,lD 20 19,mV 7 18,mV 8 20]
def u0l:SS:=[mV 21 6,mV 9 21]
def u0m:SS:=[mV 22 7,mV 23 1,lN 24 23,o 25 (.bin 0 .lss (t 22) (t 24))]
def u0n:SS:=[mV 26 9,mV 27 1,mV 28 7,iA 29 1 27 28,lD 30 29,o 31 (.conv .u64 (t 30)),o 32 (.bin 0 .add (t 26) (t 31)),mV 9 32]
def u0o:SS:=[mV 33 8,o 34 (.conv .u64 (t 33)),mV 35 9,o 36 (.bin 0 .sub (t 34) (t 35)),mV 10 36]
def q0B:SS:=[mV 37 5,mV 38 10,o 39 (.call f0P [t 38] true),o 40 (.lit a0k [.int .u32 0] 1 [(0,1,t 39)]),o 41 (.app a0k 1 4 (t 37) (t 40)),mV 5 41]
def q0C:SS:=[mV 42 10,o 43 (.bin 0 .shr (t 42) (.const (.int .u64 63))),mV 6 43]
def q0D:SS:=[o 44 (.bin 0 .add (t 16) (i 1)),mV 16 44]
def w0H:SS:=[mV 45 5,mV 4 45]
def M0r:SF:=⟨2,46,[.tmp 4],
 (qS (gR D0D) (qS (gR D0E) (qS (gR D0F) (qS (qS (gR D0G) (.block 0 (.loop (qS (gR q0E) (qS (.cond (t 17) .skip (.exit 0)) (qS (.block 1 (qS (gR u0k) (qS (gR u0l) (qS (qS (gR u0m) (.cond (t 25) (gR u0n) .skip)) (qS (gR u0o) (qS (gR q0B) (gR q0C))))))) (gR q0D))))))) (qS (gR w0H) .ret)))))⟩
def D0H:SS:=[o 2 (.mv (.const (.int .u32 0)))]
def D0I:SS:=[mV 3 0,o 4 (.conv .u32 (t 3)),mV 2 4]
def M0s:SF:=⟨1,5,[.tmp 2],
 (qS (gR D0H) (qS (gR D0I) .ret))⟩
def D0J:SS:=[o 2 (.alloc a0a [.bool false,.slice none 0 0])]
def D0K:SS:=[mV 4 0,o 5 (.conv .u64 (t 4)),mV 3 5]
def D0L:SS:=[mV 6 0,o 7 (.bin 0 .lss (t 6) (i 0))]
def D0M:SS:=[mV 8 3,o 9 (.un .neg (t 8)),mV 3 9]
def D0N:SS:=[mV 10 0,o 11 (.bin 0 .lss (t 10) (i 0)),mV 12 3,o 13 (.call f0P [t 12] true),mV 14 3,o 15 (.bin 0 .shr (t 14) (.const (.int .u64 32))),o 16 (.call f0P [t 15] true),o 17 (.lit a0k [.int .u32 0] 2 [(0,1,t 13),(1,1,t 16)]),o 18 (.call g0z [t 11,t 17] true),⟨none,none,.store 2 (t 2) (t 18)⟩]
def M0t:SF:=⟨1,19,[.cell 2 true 2],
 (qS (gR D0J) (qS (gR D0K) (qS (qS (gR D0L) (.cond (t 7) (gR D0M) .skip)) (qS (gR D0N) .ret))))⟩
def D0O:SS:=[o 2 (.box a0a (t 0)),o 3 (.box a0a (t 1)),o 4 (.mv (i 0))]
def D0P:SS:=[lA 6 2 2,o 7 (.call e0j [t 6] true),mV 8 7,og 9 8 true (.load true 2 (t 3)),og 10 8 true (.call e0j [t 9] true),og 11 8 true (.un .not (t 10)),o 12 (.pick (t 8) (t 11) (.const (.bool false))),mV 5 12]
def D0Q:SS:=[o 4 (.mv (.const (.int .i64 (-1))))]
def u0p:SS:=[lA 14 2 2,o 15 (.call e0j [t 14] true),o 16 (.un .not (t 15)),mV 17 16,og 18 17 true (.load true 2 (t 3)),og 19 17 true (.call e0j [t 18] true),o 20 (.pick (t 17) (t 19) (.const (.bool false))),mV 13 20]
def D0R:SS:=[o 4 (.mv (i 1))]
def u0q:SS:=[lA 22 2 2,o 23 (.call e0j [t 22] true),mV 21 23]
def D0S:SS:=[lA 24 2 3,o 25 (.call f0O [t 24] false),lA 26 2 2,o 27 (.call f0O [t 26] true),o 28 (.call r0D [t 25,t 27] true),mV 4 28]
def D0T:SS:=[lA 29 2 2,o 30 (.call f0O [t 29] false),lA 31 2 3,o 32 (.call f0O [t 31] true),o 33 (.call r0D [t 30,t 32] true),mV 4 33]
def M0u:SF:=⟨2,34,[.tmp 4],
 (qS (gR D0O) (qS (.block 0 (qS (gR D0P) (.cond (t 5) (qS (gR D0Q) .ret) (qS (gR u0p) (.cond (t 13) (qS (gR D0R) .ret) (qS (gR u0q) (.cond (t 21) (qS (.draw D0S [0,1,0,7,15,31] []) .ret) .skip))))))) (qS (.draw D0T [0,1,0,7,15,31] []) .ret)))⟩
def D0U:SS:=[o 2 (.box a0a (t 0)),o 3 (.box a0a (t 1)),o 4 (.alloc a0a [.bool false,.slice none 0 0])]
def D0V:SS:=[lA 9 2 2,o 10 (.call i0Q [t 9] false),o 11 (.fld false 1 1 (t 10)),lA 12 2 3,o 13 (.call i0Q [t 12] true),o 14 (.fld false 1 1 (t 13)),mV 5 11,mV 6 14]
def u0r:SS:=[mV 15 6,lN 16 15,o 17 (.bin 0 .gtr (t 16) (i 0))]
def D0W:SS:=[mV 19 5,mV 20 6,o 21 (.call y0m [t 19,t 20] true),mV 18 21,o 22 (.ext (t 18) 0),o 23 (.ext (t 18) 1),mV 7 22,mV 8 23]
def D0X:SS:=[mV 24 6,mV 5 24]
def D0Y:SS:=[mV 25 8,mV 6 25]
def D0Z:SS:=[mV 26 5,o 27 (.call t0C [(.const (.bool false)),t 26] true),⟨none,none,.store 2 (t 4) (t 27)⟩]
def M0v:SF:=⟨2,28,[.cell 4 true 2],
 (qS (gR D0U) (qS (.draw D0V [0,1,3,0,11,27,31,127] []) (qS (.block 0 (.loop (qS (qS (gR u0r) (.cond (t 17) .skip (.exit 0))) (.block 1 (qS (gR D0W) (qS (gR D0X) (gR D0Y))))))) (qS (gR D0Z) .ret))))⟩
def E0a:SS:=[o 1 (.box a0a (t 0)),o 2 (.mv (.const (.bool false)))]
def E0b:SS:=[fA 4 1 1,lD 5 4,lN 6 5,mV 3 6]
def u0s:SS:=[mV 7 3,o 8 (.bin 0 .eql (t 7) (i 0)),mV 9 8,og 10 9 true (.fa 0 (t 1)),og 11 9 true (.load false 1 (t 10)),og 12 9 true (.un .not (t 11)),o 13 (.pick (t 9) (t 12) (.const (.bool false))),mV 14 13,og 15 14 false (.mv (t 3)),og 16 14 false (.bin 0 .gtr (t 15) (i 0)),og 17 14 false (.mv (t 16)),og 18 17 true (.fa 1 (t 1)),og 19 17 true (.load false 1 (t 18)),og 20 17 true (.mv (t 3)),og 21 17 true (.bin 0 .sub (t 20) (i 1)),og 22 17 true (.ia 1 (t 19) (t 21)),og 23 17 true (.load false 1 (t 22)),og 24 17 true (.bin 0 .neq (t 23) (.const (.int .u32 0))),og 25 14 false (.pick (t 17) (t 24) (.const (.bool false))),o 26 (.pick (t 14) (.const (.bool true)) (t 25)),mV 2 26]
def M0w:SF:=⟨1,27,[.tmp 2],
 (qS (gR E0a) (qS (gR E0b) (qS (gR u0s) .ret)))⟩
def E0c:SS:=[o 1 (.box a0a (t 0)),o 2 (.mv (.const (.bool false)))]
def E0d:SS:=[fA 3 1 1,lD 4 3,lN 5 4,o 6 (.bin 0 .eql (t 5) (i 0))]
def E0e:SS:=[fA 7 0 1,lD 8 7,o 9 (.un .not (t 8)),mV 2 9]
def E0f:SS:=[fA 10 1 1,lD 11 10,fA 12 1 1,lD 13 12,lN 14 13,o 15 (.bin 0 .sub (t 14) (i 1)),iA 16 1 11 15,lD 17 16,o 18 (.bin 0 .neq (t 17) (.const (.int .u32 0))),mV 2 18]
def M0x:SF:=⟨1,19,[.tmp 2],
 (qS (gR E0c) (qS (qS (gR E0d) (.cond (t 6) (qS (gR E0e) .ret) .skip)) (qS (gR E0f) .ret)))⟩
def E0g:SS:=[o 1 (.box a0a (t 0)),o 2 (.mv (.const (.bool false)))]
def E0h:SS:=[lA 3 2 1,o 4 (.build [.bool false,.slice none 0 0] []),o 5 (.call m0f [t 3,t 4] true),o 6 (.bin 0 .eql (t 5) (i 0)),mV 2 6]
def M0y:SF:=⟨1,7,[.tmp 2],
 (qS (gR E0g) (qS (gR E0h) .ret))⟩
def E0i:SS:=[o 2 (.box a0a (t 0)),o 3 (.box a0a (t 1)),o 4 (.alloc a0a [.bool false,.slice none 0 0])]
def E0j:SS:=[lA 10 2 2,o 11 (.call f0O [t 10] false),o 12 (.call g0z [(.const (.bool false)),t 11] false),lA 13 2 3,o 14 (.call f0O [t 13] false),o 15 (.call g0z [(.const (.bool false)),t 14] false),o 5 (.alloc a0a [.bool false,.slice none 0 0]),o 6 (.alloc a0a [.bool false,.slice none 0 0]),⟨none,none,.store 2 (t 5) (t 12)⟩,⟨none,none,.store 2 (t 6) (t 15)⟩]
def u0t:SS:=[fA 16 1 6,lD 17 16,lN 18 17,o 19 (.bin 0 .gtr (t 18) (i 0))]
def E0k:SS:=[lA 21 2 5,lA 22 2 6,o 23 (.call m0g [t 21,t 22] true),mV 20 23,o 24 (.ext (t 20) 0),o 25 (.ext (t 20) 1),o 26 (.ext (t 20) 2),o 7 (.alloc a0a [.bool false,.slice none 0 0]),o 8 (.alloc a0a [.bool false,.slice none 0 0]),⟨none,none,.store 2 (t 7) (t 24)⟩,⟨none,none,.store 2 (t 8) (t 25)⟩,mV 9 26]
def E0l:SS:=[lA 27 2 6,lA 28 2 8,⟨none,none,.store 2 (t 5) (t 27)⟩,⟨none,none,.store 2 (t 6) (t 28)⟩]
def E0m:SS:=[lA 29 2 5,⟨none,none,.store 2 (t 4) (t 29)⟩]
def M0z:SF:=⟨2,30,[.cell 4 true 2],
 (qS (gR E0i) (qS (.draw E0j [0,1,3,0,15,31,0,0,255,511] []) (qS (.block 0 (.loop (qS (qS (gR u0t) (.cond (t 19) .skip (.exit 0))) (.block 1 (qS (gR E0k) (.draw E0l [0,0,1,7] [(1,2)])))))) (qS (gR E0m) .ret))))⟩
def E0n:SS:=[o 1 (.box a0a (t 0)),o 2 (.alloc a0a [.bool false,.slice none 0 0])]
def E0o:SS:=[lA 3 2 1,o 4 (.call i0Q [t 3] true),⟨none,none,.store 2 (t 1) (t 4)⟩]
def E0p:SS:=[fA 5 0 1,lD 6 5,o 7 (.un .not (t 6)),fA 8 1 1,lD 9 8,o 10 (.call t0C [t 7,t 9] true),⟨none,none,.store 2 (t 2) (t 10)⟩]
def M0A:SF:=⟨1,11,[.cell 2 true 2],
 (qS (gR E0n) (qS (gR E0o) (qS (gR E0p) .ret)))⟩
def E0q:SS:=[o 4 (.mv (i 0))]
def E0r:SS:=[mV 6 0,lN 7 6,o 8 (.mv (i 0))]
def V0I:SS:=[o 9 (.bin 0 .lss (t 8) (t 7))]
def E0s:SS:=[mV 10 8,mV 5 10]
def E0t:SS:=[mV 11 1,mV 12 0,mV 13 5,iA 14 1 12 13,lD 15 14,o 16 (.callv (t 11) [t 15] true)]
def E0u:SS:=[mV 17 5,mV 4 17]
def V0J:SS:=[o 18 (.bin 0 .add (t 8) (i 1)),mV 8 18]
def E0v:SS:=[o 4 (.mv (.const (.int .i64 (-1))))]
def M0B:SF:=⟨2,19,[.tmp 4],
 (qS (gR E0q) (qS (qS (gR E0r) (.block 0 (.loop (qS (gR V0I) (qS (.cond (t 9) .skip (.exit 0)) (qS (.block 1 (qS (gR E0s) (qS (gR E0t) (.cond (t 16) (qS (gR E0u) .ret) .skip)))) (gR V0J))))))) (qS (gR E0v) .ret)))⟩
def E0w:SS:=[o 2 (.mv (.const (.slice none 0 0))),o 3 (.alloc a0b [.bool false,.slice none 0 0,.bool false,.slice none 0 0])]
def E0x:SS:=[o 21 (.call l0m [i 1] true),o 4 (.alloc a0a [.bool false,.slice none 0 0]),⟨none,none,.store 2 (t 4) (t 21)⟩]
def E0y:SS:=[mV 22 0,lN 23 22,o 24 (.mv (i 0))]
def V0K:SS:=[o 25 (.bin 0 .lss (t 24) (t 23))]
def E0z:SS:=[iA 26 4 22 24,lA 27 4 26,o 6 (.alloc a0b [.bool false,.slice none 0 0,.bool false,.slice none 0 0]),⟨none,none,.store 4 (t 6) (t 27)⟩]
def E0A:SS:=[fA 29 2 6,lA 30 2 29,lA 31 2 4,fA 32 2 6,lA 33 2 32,o 34 (.call r0F [t 31,t 33] false),o 35 (.call m0g [t 30,t 34] false),mV 28 35,o 36 (.ext (t 28) 0),o 37 (.ext (t 28) 1),o 38 (.ext (t 28) 2),o 7 (.alloc a0a [.bool false,.slice none 0 0]),o 8 (.alloc a0a [.bool false,.slice none 0 0]),⟨none,none,.store 2 (t 7) (t 36)⟩,⟨none,none,.store 2 (t 8) (t 37)⟩,mV 9 38]
def E0B:SS:=[lA 39 2 4,lA 40 2 7,o 41 (.call p0M [t 39,t 40] true),⟨none,none,.store 2 (t 4) (t 41)⟩]
def V0L:SS:=[o 42 (.bin 0 .add (t 24) (i 1)),mV 24 42]
def E0C:SS:=[o 10 (.mv (.const (.slice none 0 0)))]
def E0D:SS:=[o 43 (.build [.bool false,.slice none 0 0] []),o 11 (.alloc a0a [.bool false,.slice none 0 0]),⟨none,none,.store 2 (t 11) (t 43)⟩]
def w0I:SS:=[mV 44 0,lN 45 44,o 46 (.mv (i 0))]
def L0N:SS:=[o 47 (.bin 0 .lss (t 46) (t 45))]
def w0J:SS:=[iA 48 4 44 46,lA 49 4 48,o 13 (.alloc a0b [.bool false,.slice none 0 0,.bool false,.slice none 0 0]),⟨none,none,.store 4 (t 13) (t 49)⟩]
def w0K:SS:=[lA 51 2 4,fA 52 2 13,lA 53 2 52,o 54 (.call m0g [t 51,t 53] true),mV 50 54,o 55 (.ext (t 50) 0),o 56 (.ext (t 50) 1),o 57 (.ext (t 50) 2),o 14 (.alloc a0a [.bool false,.slice none 0 0]),o 15 (.alloc a0a [.bool false,.slice none 0 0]),⟨none,none,.store 2 (t 14) (t 55)⟩,⟨none,none,.store 2 (t 15) (t 56)⟩,mV 16 57]
def w0L:SS:=[fA 58 0 13,lA 59 2 58,lA 60 2 14,o 61 (.call p0M [t 59,t 60] true),o 17 (.alloc a0a [.bool false,.slice none 0 0]),⟨none,none,.store 2 (t 17) (t 61)⟩]
def w0M:SS:=[mV 62 10,lA 63 2 17,o 64 (.lit a0a [.bool false,.slice none 0 0] 1 [(0,2,t 63)]),o 65 (.app a0a 2 32 (t 62) (t 64)),mV 10 65]
def w0N:SS:=[lA 66 2 11,lA 67 2 17,o 68 (.call r0F [t 66,t 67] true),⟨none,none,.store 2 (t 11) (t 68)⟩]
def L0O:SS:=[o 69 (.bin 0 .add (t 46) (i 1)),mV 46 69]
def w0O:SS:=[lA 70 2 11,o 71 (.build [.bool false,.slice none 0 0] []),o 72 (.call m0f [t 70,t 71] true),o 73 (.bin 0 .eql (t 72) (i 0))]
def w0P:SS:=[o 74 (.call l0m [i 1] true),⟨none,none,.store 2 (t 11) (t 74)⟩]
def q0F:SS:=[mV 75 10,lN 76 75,o 77 (.mv (i 0))]
def L0P:SS:=[o 78 (.bin 0 .lss (t 77) (t 76))]
def q0G:SS:=[mV 79 77,mV 18 79]
def q0H:SS:=[mV 81 10,mV 82 18,mV 83 10,mV 84 18,iA 85 2 83 84,lA 86 2 85,lA 87 2 11,o 88 (.call m0g [t 86,t 87] true),mV 80 88,o 89 (.ext (t 80) 0),o 90 (.ext (t 80) 1),o 91 (.ext (t 80) 2),iA 92 2 81 82,⟨none,none,.store 2 (t 92) (t 89)⟩]
def L0Q:SS:=[o 93 (.bin 0 .add (t 77) (i 1)),mV 77 93]
def q0I:SS:=[lA 95 2 4,lA 96 2 11,o 97 (.call p0J [t 95,t 96] true),mV 94 97,o 98 (.ext (t 94) 0),o 99 (.ext (t 94) 1),o 19 (.alloc a0b [.bool false,.slice none 0 0,.bool false,.slice none 0 0]),⟨none,none,.store 4 (t 19) (t 98)⟩,mV 20 99]
def q0J:SS:=[mV 100 10,lA 101 4 19,mV 2 100,⟨none,none,.store 4 (t 3) (t 101)⟩]
def M0C:SF:=⟨1,102,[.tmp 2,.cell 3 true 4],
 (qS (gR E0w) (qS (gR E0x) (qS (qS (gR E0y) (.block 0 (.loop (qS (gR V0K) (qS (.cond (t 25) .skip (.exit 0)) (qS (.block 1 (qS (gR E0z) (qS (.draw E0A [0,1,0,0,8,28,63,127,255,255,255,0,0,6655,15359,32767] []) (gR E0B)))) (gR V0L))))))) (qS (gR E0C) (qS (gR E0D) (qS (qS (gR w0I) (.block 2 (.loop (qS (gR L0N) (qS (.cond (t 47) .skip (.exit 2)) (qS (.block 3 (qS (gR w0J) (qS (gR w0K) (qS (gR w0L) (qS (gR w0M) (gR w0N)))))) (gR L0O))))))) (qS (qS (gR w0O) (.cond (t 73) (gR w0P) .skip)) (qS (qS (gR q0F) (.block 4 (.loop (qS (gR L0P) (qS (.cond (t 78) .skip (.exit 4)) (qS (.block 5 (qS (gR q0G) (.draw q0H [0,0,0,0,12,28,0,124,252,508,508,508,1023,5119] []))) (gR L0Q))))))) (qS (gR q0I) (qS (.draw q0J [0,0,1,7] []) .ret))))))))))⟩
def E0E:SS:=[o 2 (.mv (.const (.slice none 0 0)))]
def E0F:SS:=[mV 6 0,lN 7 6,o 8 (.bin 0 .add (t 7) (i 1)),o 9 (.mk a0b 64 [.bool false,.slice none 0 0,.bool false,.slice none 0 0] (i 0) (t 8)),mV 3 9]
def E0G:SS:=[mV 10 0,lN 11 10,o 12 (.mv (i 0))]
def V0M:SS:=[o 13 (.bin 0 .lss (t 12) (t 11))]
def E0H:SS:=[iA 14 4 10 12,lA 15 4 14,o 5 (.alloc a0b [.bool false,.slice none 0 0,.bool false,.slice none 0 0]),⟨none,none,.store 4 (t 5) (t 15)⟩]
def E0I:SS:=[mV 16 3,lA 17 4 5,o 18 (.build [.bool false,.slice none 0 0,.bool false,.slice none 0 0] []),o 19 (.call v0X [t 17,t 18] true),o 20 (.lit a0b [.bool false,.slice none 0 0,.bool false,.slice none 0 0] 1 [(0,4,t 19)]),o 21 (.app a0b 4 64 (t 16) (t 20)),mV 3 21]
def V0N:SS:=[o 22 (.bin 0 .add (t 12) (i 1)),mV 12 22]
def E0J:SS:=[mV 23 3,mV 2 23]
def M0D:SF:=⟨1,24,[.tmp 2],
 (qS (gR E0E) (qS (gR E0F) (qS (qS (gR E0G) (.block 0 (.loop (qS (gR V0M) (qS (.cond (t 13) .skip (.exit 0)) (qS (.block 1 (qS (gR E0H) (gR E0I))) (gR V0N))))))) (qS (gR E0J) .ret))))⟩
def E0L:SS:=[o 2 (.box a0a (t 0)),o 3 (.box a0a (t 1)),o 4 (.alloc a0a [.bool false,.slice none 0 0]),o 5 (.alloc a0a [.bool false,.slice none 0 0]),o 6 (.mv (i 0))]
def E0M:SS:=[lA 9 2 2,o 10 (.call i0Q [t 9] true),⟨none,none,.store 2 (t 2) (t 10)⟩]
def E0N:SS:=[lA 11 2 3,o 12 (.call i0Q [t 11] true),⟨none,none,.store 2 (t 3) (t 12)⟩]
def E0O:SS:=[fA 13 1 3,lD 14 13,lN 15 14,o 16 (.bin 0 .eql (t 15) (i 0))]
def V0O:SS:=[o 17 (.build [.bool false,.slice none 0 0] []),o 18 (.build [.bool false,.slice none 0 0] []),⟨none,none,.store 2 (t 4) (t 17)⟩,⟨none,none,.store 2 (t 5) (t 18)⟩,o 6 (.mv (i 1))]
def E0P:SS:=[fA 20 1 2,lD 21 20,fA 22 1 3,lD 23 22,o 24 (.call y0m [t 21,t 23] true),mV 19 24,o 25 (.ext (t 19) 0),o 26 (.ext (t 19) 1),mV 7 25,mV 8 26]
def E0Q:SS:=[fA 27 0 2,lD 28 27,fA 29 0 3,lD 30 29,o 31 (.bin 1 .neq (t 28) (t 30)),mV 32 7,o 33 (.call t0C [t 31,t 32] false),fA 34 0 2,lD 35 34,mV 36 8,o 37 (.call t0C [t 35,t 36] true),⟨none,none,.store 2 (t 4) (t 33)⟩,⟨none,none,.store 2 (t 5) (t 37)⟩,o 6 (.mv (i 0))]
def M0E:SF:=⟨2,38,[.cell 4 true 2,.cell 5 true 2,.tmp 6],
 (qS (gR E0L) (qS (gR E0M) (qS (gR E0N) (qS (qS (gR E0O) (.cond (t 16) (qS (gR V0O) .ret) .skip)) (qS (gR E0P) (qS (.draw E0Q [0,1,0,4,15,0,63,0,128,0,1023,2047,4095,8191] []) .ret))))))⟩
def E0R:SS:=[o 4 (.mv (.const (.slice none 0 0)))]
def E0S:SS:=[o 5 (.mv (.const (.slice none 0 0)))]
def E0T:SS:=[o 6 (.mv (.const (.int .u64 0)))]
def E0U:SS:=[o 7 (.mv (i 0))]
def k0D:SS:=[mV 9 7,mV 10 0,lN 11 10,o 12 (.bin 0 .lss (t 9) (t 11)),mV 13 12,og 14 13 false (.mv (t 7)),og 15 13 false (.mv (t 1)),og 16 13 false (.len (t 15)),og 17 13 false (.bin 0 .lss (t 14) (t 16)),o 18 (.pick (t 13) (.const (.bool true)) (t 17)),mV 19 18,og 20 19 false (.mv (t 6)),og 21 19 false (.bin 0 .gtr (t 20) (.const (.int .u64 0))),o 22 (.pick (t 19) (.const (.bool true)) (t 21))]
def n0d:SS:=[mV 25 6,mV 8 25]
def n0e:SS:=[mV 26 7,mV 27 0,lN 28 27,o 29 (.bin 0 .lss (t 26) (t 28))]
def n0f:SS:=[mV 30 8,mV 31 0,mV 32 7,iA 33 1 31 32,lD 34 33,o 35 (.conv .u64 (t 34)),o 36 (.bin 0 .add (t 30) (t 35)),mV 8 36]
def n0g:SS:=[mV 37 7,mV 38 1,lN 39 38,o 40 (.bin 0 .lss (t 37) (t 39))]
def n0h:SS:=[mV 41 8,mV 42 1,mV 43 7,iA 44 1 42 43,lD 45 44,o 46 (.conv .u64 (t 45)),o 47 (.bin 0 .add (t 41) (t 46)),mV 8 47]
def j0K:SS:=[mV 48 5,mV 49 8,o 50 (.conv .u32 (t 49)),o 51 (.lit a0k [.int .u32 0] 1 [(0,1,t 50)]),o 52 (.app a0k 1 4 (t 48) (t 51)),mV 5 52]
def j0L:SS:=[mV 53 8,o 54 (.bin 0 .shr (t 53) (.const (.int .u64 32))),mV 6 54]
def j0M:SS:=[mV 23 7,o 24 (.bin 0 .add (t 23) (i 1)),mV 7 24]
def w0Q:SS:=[mV 55 5,o 56 (.call m0e [t 55] true),mV 4 56]
def M0F:SF:=⟨2,57,[.tmp 4],
 (qS (gR E0R) (qS (gR E0S) (qS (gR E0T) (qS (qS (gR E0U) (.block 0 (.loop (qS (qS (gR k0D) (.cond (t 22) .skip (.exit 0))) (qS (.block 1 (qS (gR n0d) (qS (qS (gR n0e) (.cond (t 29) (gR n0f) .skip)) (qS (qS (gR n0g) (.cond (t 40) (gR n0h) .skip)) (qS (gR j0K) (gR j0L)))))) (gR j0M)))))) (qS (gR w0Q) .ret)))))⟩
def q0K:SS:=[o 4 (.mv (i 0))]
def q0L:SS:=[mV 6 0,lN 7 6,mV 8 1,lN 9 8,o 10 (.bin 0 .neq (t 7) (t 9))]
def u0u:SS:=[mV 11 0,lN 12 11,mV 13 1,lN 14 13,o 15 (.bin 0 .lss (t 12) (t 14))]
def E0V:SS:=[o 4 (.mv (.const (.int .i64 (-1))))]
def E0W:SS:=[o 4 (.mv (i 1))]
def E0X:SS:=[mV 16 0,lN 17 16,o 18 (.bin 0 .sub (t 17) (i 1)),mV 5 18]
def u0v:SS:=[mV 19 5,o 20 (.bin 0 .geq (t 19) (i 0))]
def E0Y:SS:=[mV 23 0,mV 24 5,iA 25 1 23 24,lD 26 25,mV 27 1,mV 28 5,iA 29 1 27 28,lD 30 29,o 31 (.bin 0 .lss (t 26) (t 30))]
def E0Z:SS:=[o 4 (.mv (.const (.int .i64 (-1))))]
def F0a:SS:=[mV 32 0,mV 33 5,iA 34 1 32 33,lD 35 34,mV 36 1,mV 37 5,iA 38 1 36 37,lD 39 38,o 40 (.bin 0 .gtr (t 35) (t 39))]
def w0R:SS:=[o 4 (.mv (i 1))]
def w0S:SS:=[mV 21 5,o 22 (.bin 0 .sub (t 21) (i 1)),mV 5 22]
def w0T:SS:=[o 4 (.mv (i 0))]
def z0k:SF:=⟨2,41,[.tmp 4],
 (qS (gR q0K) (qS (qS (gR q0L) (.cond (t 10) (qS (qS (gR u0u) (.cond (t 15) (qS (gR E0V) .ret) .skip)) (qS (gR E0W) .ret)) .skip)) (qS (qS (gR E0X) (.block 0 (.loop (qS (qS (gR u0v) (.cond (t 20) .skip (.exit 0))) (qS (.block 1 (qS (qS (.draw E0Y [0,0,3,7,0,0,48,112,255] []) (.cond (t 31) (qS (gR E0Z) .ret) .skip)) (qS (.draw F0a [0,0,3,7,0,0,48,112,255] []) (.cond (t 40) (qS (gR w0R) .ret) .skip)))) (gR w0S)))))) (qS (gR w0T) .ret))))⟩
def F0c:SS:=[o 4 (.mv (.const (.slice none 0 0)))]
def F0d:SS:=[o 9 (.lit a0k [.int .u32 0] 0 []),mV 10 0,o 11 (.app a0k 1 4 (t 9) (t 10)),mV 5 11]
def F0e:SS:=[o 6 (.mv (.const (.int .u64 0)))]
def F0f:SS:=[o 7 (.mv (i 0))]
def F0g:SS:=[mV 12 7,mV 13 5,lN 14 13,o 15 (.bin 0 .lss (t 12) (t 14))]
def u0w:SS:=[mV 18 6,mV 8 18]
def u0x:SS:=[mV 19 7,mV 20 1,lN 21 20,o 22 (.bin 0 .lss (t 19) (t 21))]
def F0h:SS:=[mV 23 8,mV 24 1,mV 25 7,iA 26 1 24 25,lD 27 26,o 28 (.conv .u64 (t 27)),o 29 (.bin 0 .add (t 23) (t 28)),mV 8 29]
def n0i:SS:=[mV 30 5,mV 31 7,iA 32 1 30 31,lD 33 32,o 34 (.conv .u64 (t 33)),mV 35 8,o 36 (.bin 0 .geq (t 34) (t 35))]
def u0y:SS:=[mV 37 5,mV 38 7,mV 39 5,mV 40 7,iA 41 1 39 40,lD 42 41,o 43 (.conv .u64 (t 42)),mV 44 8,o 45 (.bin 0 .sub (t 43) (t 44)),o 46 (.conv .u32 (t 45)),iA 47 1 37 38,⟨none,none,.store 1 (t 47) (t 46)⟩]
def q0M:SS:=[o 6 (.mv (.const (.int .u64 0)))]
def q0N:SS:=[mV 48 5,mV 49 7,mV 50 5,mV 51 7,iA 52 1 50 51,lD 53 52,o 54 (.conv .u64 (t 53)),o 55 (.bin 0 .add (t 54) (.const (.int .u64 4294967296))),mV 56 8,o 57 (.bin 0 .sub (t 55) (t 56)),o 58 (.conv .u32 (t 57)),iA 59 1 48 49,⟨none,none,.store 1 (t 59) (t 58)⟩]
def q0O:SS:=[o 6 (.mv (.const (.int .u64 1)))]
def j0N:SS:=[mV 16 7,o 17 (.bin 0 .add (t 16) (i 1)),mV 7 17]
def w0U:SS:=[mV 60 5,o 61 (.call m0e [t 60] true),mV 4 61]
def M0G:SF:=⟨2,62,[.tmp 4],
 (qS (gR F0c) (qS (gR F0d) (qS (gR F0e) (qS (qS (gR F0f) (.block 0 (.loop (qS (qS (gR F0g) (.cond (t 15) .skip (.exit 0))) (qS (.block 1 (qS (gR u0w) (qS (qS (gR u0x) (.cond (t 22) (gR F0h) .skip)) (qS (gR n0i) (.cond (t 36) (qS (gR u0y) (gR q0M)) (qS (gR q0N) (gR q0O))))))) (gR j0N)))))) (qS (gR w0U) .ret)))))⟩
def F0i:SS:=[o 1 (.box a0a (t 0)),o 2 (.alloc a0a [.bool false,.slice none 0 0])]
def F0j:SS:=[lA 3 2 1,o 4 (.call e0j [t 3] false),o 5 (.un .not (t 4)),lA 6 2 1,o 7 (.call f0O [t 6] true),o 8 (.call g0z [t 5,t 7] true),⟨none,none,.store 2 (t 2) (t 8)⟩]
def M0H:SF:=⟨1,9,[.cell 2 true 2],
 (qS (gR F0i) (qS (.draw F0j [0,1,3,0,11,31,63] []) .ret))⟩
def F0k:SS:=[o 2 (.box a0a (t 0)),o 3 (.box a0a (t 1)),o 4 (.alloc a0a [.bool false,.slice none 0 0]),o 5 (.alloc a0a [.bool false,.slice none 0 0]),o 6 (.mv (i 0))]
def F0l:SS:=[lA 13 2 2,o 14 (.call f0O [t 13] false),lA 15 2 3,o 16 (.call f0O [t 15] true),mV 7 14,mV 8 16]
def F0m:SS:=[mV 18 8,lN 19 18,o 20 (.bin 0 .eql (t 19) (i 0)),mV 17 20]
def V0P:SS:=[o 21 (.build [.bool false,.slice none 0 0] []),o 22 (.build [.bool false,.slice none 0 0] []),⟨none,none,.store 2 (t 4) (t 21)⟩,⟨none,none,.store 2 (t 5) (t 22)⟩,o 6 (.mv (i 1))]
def F0n:SS:=[mV 24 7,mV 25 8,o 26 (.call r0D [t 24,t 25] true),o 27 (.bin 0 .lss (t 26) (i 0)),mV 23 27]
def F0o:SS:=[o 28 (.build [.bool false,.slice none 0 0] []),lA 29 2 2,o 30 (.call e0j [t 29] true),mV 31 7,o 32 (.call g0z [t 30,t 31] true),⟨none,none,.store 2 (t 4) (t 28)⟩,⟨none,none,.store 2 (t 5) (t 32)⟩,o 6 (.mv (i 0))]
def u0z:SS:=[mV 34 8,lN 35 34,o 36 (.bin 0 .eql (t 35) (i 1)),mV 33 36]
def F0p:SS:=[mV 38 7,mV 39 8,o 40 (.ia 1 (t 39) (i 0)),lD 41 40,o 42 (.call A0q [t 38,t 41] true),mV 37 42,o 43 (.ext (t 37) 0),o 44 (.ext (t 37) 1),mV 9 43,mV 10 44]
def F0q:SS:=[lA 45 2 2,o 46 (.call e0j [t 45] false),lA 47 2 3,o 48 (.call e0j [t 47] false),o 49 (.bin 1 .neq (t 46) (t 48)),mV 50 9,o 51 (.call g0z [t 49,t 50] false),lA 52 2 2,o 53 (.call e0j [t 52] false),mV 54 10,o 55 (.lit a0k [.int .u32 0] 1 [(0,1,t 54)]),o 56 (.call g0z [t 53,t 55] true),⟨none,none,.store 2 (t 4) (t 51)⟩,⟨none,none,.store 2 (t 5) (t 56)⟩,o 6 (.mv (i 0))]
def F0r:SS:=[mV 58 7,mV 59 8,o 60 (.call A0r [t 58,t 59] true),mV 57 60,o 61 (.ext (t 57) 0),o 62 (.ext (t 57) 1),mV 11 61,mV 12 62]
def w0V:SS:=[lA 63 2 2,o 64 (.call e0j [t 63] false),lA 65 2 3,o 66 (.call e0j [t 65] false),o 67 (.bin 1 .neq (t 64) (t 66)),mV 68 11,o 69 (.call g0z [t 67,t 68] false),lA 70 2 2,o 71 (.call e0j [t 70] true),mV 72 12,o 73 (.call g0z [t 71,t 72] true),⟨none,none,.store 2 (t 4) (t 69)⟩,⟨none,none,.store 2 (t 5) (t 73)⟩,o 6 (.mv (i 0))]
def M0I:SF:=⟨2,74,[.cell 4 true 2,.cell 5 true 2,.tmp 6],
 (qS (gR F0k) (qS (.draw F0l [0,1,0,7,15,31] []) (qS (.block 0 (qS (gR F0m) (.cond (t 17) (qS (gR V0P) .ret) (qS (gR F0n) (.cond (t 23) (qS (gR F0o) .ret) (qS (gR u0z) (.cond (t 33) (qS (gR F0p) (qS (.draw F0q [0,1,0,7,15,0,63,0,255,0,512,2047,4095,8191,16383] []) .ret)) .skip))))))) (qS (gR F0r) (qS (.draw w0V [0,1,0,7,15,0,63,0,255,0,1023,2047,4095,8191] []) .ret)))))⟩
def F0s:SS:=[o 2 (.mv (.const (.slice none 0 0)))]
def F0t:SS:=[mV 3 0,o 4 (.bin 2 .eql (t 3) (.const (.slice none 0 0)))]
def F0u:SS:=[o 2 (.mv (.const (.slice none 0 0)))]
def F0v:SS:=[o 5 (.lit a0k [.int .u32 0] 0 []),mV 6 0,o 7 (.app a0k 1 4 (t 5) (t 6)),mV 2 7]
def M0J:SF:=⟨1,8,[.tmp 2],
 (qS (gR F0s) (qS (qS (gR F0t) (.cond (t 4) (qS (gR F0u) .ret) .skip)) (qS (gR F0v) .ret)))⟩
def F0w:SS:=[o 4 (.mv (i 0))]
def F0x:SS:=[mV 6 0,mV 7 1,o 8 (.bin 0 .lss (t 6) (t 7)),mV 5 8]
def F0y:SS:=[o 4 (.mv (.const (.int .i64 (-1))))]
def F0z:SS:=[mV 10 0,mV 11 1,o 12 (.bin 0 .gtr (t 10) (t 11)),mV 9 12]
def F0A:SS:=[o 4 (.mv (i 1))]
def F0B:SS:=[o 4 (.mv (i 0))]
def M0K:SF:=⟨2,13,[.tmp 4],
 (qS (gR F0w) (qS (.block 0 (qS (gR F0x) (.cond (t 5) (qS (gR F0y) .ret) (qS (gR F0z) (.cond (t 9) (qS (gR F0A) .ret) .skip))))) (qS (gR F0B) .ret)))⟩
def F0C:SS:=[o 4 (.mv (i 0))]
def F0D:SS:=[mV 6 0,mV 7 1,o 8 (.bin 0 .lss (t 6) (t 7)),mV 5 8]
def F0E:SS:=[o 4 (.mv (.const (.int .i64 (-1))))]
def F0F:SS:=[mV 10 0,mV 11 1,o 12 (.bin 0 .gtr (t 10) (t 11)),mV 9 12]
def F0G:SS:=[o 4 (.mv (i 1))]
def F0H:SS:=[o 4 (.mv (i 0))]
def M0L:SF:=⟨2,13,[.tmp 4],
 (qS (gR F0C) (qS (.block 0 (qS (gR F0D) (.cond (t 5) (qS (gR F0E) .ret) (qS (gR F0F) (.cond (t 9) (qS (gR F0G) .ret) .skip))))) (qS (gR F0H) .ret)))⟩
def F0I:SS:=[o 4 (.mv (.const (.slice none 0 0))),o 5 (.mv (.const (.slice none 0 0)))]
def F0J:SS:=[mV 10 0,mV 11 1,o 12 (.call t0y [t 10,t 11] true),o 13 (.bin 0 .lss (t 12) (i 0))]
def F0K:SS:=[mV 14 0,o 4 (.mv (.const (.slice none 0 0))),mV 5 14]
def F0L:SS:=[mV 15 0,lN 16 15,o 17 (.mk a0k 4 [.int .u32 0] (t 16) (t 16)),mV 6 17]
def F0M:SS:=[o 7 (.mv (.const (.slice none 0 0)))]
def F0N:SS:=[mV 18 0,lN 19 18,o 20 (.bin 0 .sub (t 19) (i 1)),mV 8 20]
def u0A:SS:=[mV 21 8,o 22 (.bin 0 .geq (t 21) (i 0))]
def F0O:SS:=[o 9 (.mv (i 31))]
def u0B:SS:=[mV 25 9,o 26 (.bin 0 .geq (t 25) (i 0))]
def F0P:SS:=[mV 29 7,mV 30 0,mV 31 8,iA 32 1 30 31,lD 33 32,mV 34 9,o 35 (.conv .u64 (t 34)),o 36 (.bin 0 .shr (t 33) (t 35)),o 37 (.bin 0 .and (t 36) (.const (.int .u32 1))),o 38 (.bin 0 .eql (t 37) (.const (.int .u32 1))),o 39 (.call A0s [t 29,t 38] true),mV 7 39]
def w0W:SS:=[mV 40 7,mV 41 1,o 42 (.call t0y [t 40,t 41] true),o 43 (.bin 0 .geq (t 42) (i 0))]
def w0X:SS:=[mV 44 7,mV 45 1,o 46 (.call r0H [t 44,t 45] true),mV 7 46]
def w0Y:SS:=[mV 47 6,mV 48 8,mV 49 6,mV 50 8,iA 51 1 49 50,lD 52 51,mV 53 9,o 54 (.conv .u64 (t 53)),o 55 (.bin 0 .shl (.const (.int .u32 1)) (t 54)),o 56 (.bin 0 .or (t 52) (t 55)),iA 57 1 47 48,⟨none,none,.store 1 (t 57) (t 56)⟩]
def q0P:SS:=[mV 27 9,o 28 (.bin 0 .sub (t 27) (i 1)),mV 9 28]
def w0Z:SS:=[mV 23 8,o 24 (.bin 0 .sub (t 23) (i 1)),mV 8 24]
def x0a:SS:=[mV 58 6,o 59 (.call m0e [t 58] true),mV 60 7,mV 4 59,mV 5 60]
def M0M:SF:=⟨2,61,[.tmp 4,.tmp 5],
 (qS (gR F0I) (qS (qS (gR F0J) (.cond (t 13) (qS (gR F0K) .ret) .skip)) (qS (gR F0L) (qS (gR F0M) (qS (qS (gR F0N) (.block 0 (.loop (qS (qS (gR u0A) (.cond (t 22) .skip (.exit 0))) (qS (.block 1 (qS (gR F0O) (.block 2 (.loop (qS (qS (gR u0B) (.cond (t 26) .skip (.exit 2))) (qS (.block 3 (qS (gR F0P) (qS (gR w0W) (.cond (t 43) (qS (gR w0X) (gR w0Y)) .skip)))) (gR q0P))))))) (gR w0Z)))))) (qS (gR x0a) .ret))))))⟩
def F0Q:SS:=[o 2 (.mv (.const (.slice none 0 0)))]
def F0R:SS:=[lD 5 0,cK 6 5,fA 7 2 6,lD 8 7,o 9 (.bin 0 .add (t 8) (i 1)),o 10 (.mk a0a 32 [.bool false,.slice none 0 0] (t 9) (t 9)),mV 3 10]
def F0S:SS:=[mV 11 3,lN 12 11,o 13 (.mv (i 0))]
def V0Q:SS:=[o 14 (.bin 0 .lss (t 13) (t 12))]
def F0T:SS:=[mV 15 13,mV 4 15]
def F0U:SS:=[mV 16 3,mV 17 4,lA 18 2 1,iA 19 2 16 17,⟨none,none,.store 2 (t 19) (t 18)⟩]
def V0R:SS:=[o 20 (.bin 0 .add (t 13) (i 1)),mV 13 20]
def F0V:SS:=[mV 21 3,mV 2 21]
def M0N:SF:=⟨2,22,[.tmp 2],
 (qS (gR F0Q) (qS (gR F0R) (qS (qS (gR F0S) (.block 0 (.loop (qS (gR V0Q) (qS (.cond (t 14) .skip (.exit 0)) (qS (.block 1 (qS (gR F0T) (gR F0U))) (gR V0R))))))) (qS (gR F0V) .ret))))⟩
def F0W:SS:=[o 4 (.box a0a (t 1)),o 5 (.box a0a (t 2)),o 6 (.alloc a0a [.bool false,.slice none 0 0])]
def F0X:SS:=[mV 8 0,cK 9 8,o 10 (.fa0 a0c (t 9)),lA 11 0 10,o 12 (.iface a0m (t 11)),o 13 (.call l0m [i 1] false),o 14 (.inv (t 12) [(a0m,k0n),(a0n,j0p)] [t 13] false),o 7 (.alloc a0a [.bool false,.slice none 0 0]),⟨none,none,.store 2 (t 7) (t 14)⟩]
def F0Y:SS:=[mV 15 0,cK 16 15,o 17 (.fa0 a0c (t 16)),lA 18 0 17,o 19 (.iface a0m (t 18)),lA 20 2 4,lA 21 2 7,lA 22 2 5,lA 23 2 7,lA 24 2 7,o 25 (.inv (t 19) [(a0m,p0K),(a0n,p0L)] [t 20,t 21,t 22,t 23,t 24] true),⟨none,none,.store 2 (t 6) (t 25)⟩]
def M0O:SF:=⟨3,26,[.cell 6 true 2],
 (qS (gR F0W) (qS (.draw F0X [0,1,3,7,15,0,63,0,255] []) (qS (.draw F0Y [0,1,3,7,15,0,0,0,0,0,1023,2047] []) .ret)))⟩
def F0Z:SS:=[mV 12 0,cK 13 12,fA 14 7 13,lD 15 14,o 16 (.bin 0 .add (t 15) (i 1)),cK 17 12,fA 18 7 17,⟨none,none,.store 1 (t 18) (t 16)⟩]
def G0a:SS:=[mV 19 0,cK 20 19,fA 21 3 20,lD 22 21,mV 23 1,iA 24 1 22 23,lD 25 24,mV 26 2,iA 27 2 25 26,lA 28 2 27,mV 29 0,cK 30 29,fA 31 3 30,lD 32 31,mV 33 1,iA 34 1 32 33,lD 35 34,o 6 (.alloc a0a [.bool false,.slice none 0 0]),⟨none,none,.store 2 (t 6) (t 28)⟩,mV 7 35]
def G0b:SS:=[mV 36 0,cK 37 36,fA 38 3 37,lD 39 38,lN 40 39,o 41 (.mv (i 0))]
def V0S:SS:=[o 42 (.bin 0 .lss (t 41) (t 40))]
def G0c:SS:=[mV 43 41,iA 44 1 39 41,lD 45 44,mV 8 43,mV 9 45]
def u0C:SS:=[mV 46 8,mV 47 1,o 48 (.bin 0 .eql (t 46) (t 47))]
def G0d:SS:=[mV 49 9,mV 50 2,iA 51 2 49 50,lA 52 2 51,o 10 (.alloc a0a [.bool false,.slice none 0 0]),⟨none,none,.store 2 (t 10) (t 52)⟩]
def G0e:SS:=[mV 53 9,lN 54 53,o 55 (.mv (i 0))]
def V0T:SS:=[o 56 (.bin 0 .lss (t 55) (t 54))]
def G0f:SS:=[mV 57 55,mV 11 57]
def x0b:SS:=[mV 58 9,mV 59 11,mV 60 0,cK 61 60,o 62 (.fa0 a0c (t 61)),lA 63 0 62,o 64 (.iface a0m (t 63)),mV 65 9,mV 66 11,iA 67 2 65 66,lA 68 2 67,lA 69 2 6,lA 70 2 10,mV 71 7,mV 72 11,iA 73 2 71 72,lA 74 2 73,mV 75 0,cK 76 75,fA 77 4 76,lA 78 2 77,o 79 (.inv (t 64) [(a0m,p0K),(a0n,p0L)] [t 68,t 69,t 70,t 74,t 78] true),iA 80 2 58 59,⟨none,none,.store 2 (t 80) (t 79)⟩]
def L0R:SS:=[o 81 (.bin 0 .add (t 55) (i 1)),mV 55 81]
def L0S:SS:=[o 82 (.bin 0 .add (t 41) (i 1)),mV 41 82]
def x0c:SS:=[mV 83 0,mV 84 0,cK 85 84,fA 86 6 85,lD 87 86,mV 88 1,lA 89 2 6,mV 90 2,cK 91 83,fA 92 4 91,⟨none,none,.store 2 (t 92) (t 89)⟩,iA 93 1 87 88,⟨none,none,.store 1 (t 93) (t 90)⟩]
def M0P:SF:=⟨3,94,[],
 (qS (gR F0Z) (qS (.draw G0a [0,1,3,7,0,31,63,0,255,511,0,1024,3072,7168,0,31744,64512,0,132095,524287] [(13,18),(16,18)]) (qS (qS (gR G0b) (.block 0 (.loop (qS (gR V0S) (qS (.cond (t 42) .skip (.exit 0)) (qS (.block 1 (qS (gR G0c) (qS (qS (gR u0C) (.cond (t 48) (.exit 1) .skip)) (qS (gR G0d) (qS (gR G0e) (.block 2 (.loop (qS (gR V0T) (qS (.cond (t 56) .skip (.exit 2)) (qS (.block 3 (qS (gR G0f) (.draw x0b [0,0,0,4,12,28,60,0,0,384,896,0,0,0,0,24576,57344,0,131072,393216,917504,2097148,4194303,8388607] []))) (gR L0R))))))))))) (gR L0S))))))) (.draw x0c [0,0,2,6,14,0,0,0,95,351,863,2047,4095] []))))⟩
end
end Go.Proofs.YtjlohmnnldbjoaaGreat.AI
