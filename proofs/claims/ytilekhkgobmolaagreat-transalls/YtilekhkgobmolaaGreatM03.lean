/- Part 4 of the proof: AiCode0, AiCode1, AiCode2, AiCode3. -/
import Derived.Test.YtilekhkgobmolaaGreatM00
set_option linter.unusedVariables false
set_option linter.unusedSimpArgs false
set_option linter.unusedSectionVars false
namespace Go.Proofs.YtilekhkgobmolaaGreat.AI
section
open Go
abbrev o (d:Nat) (x:SOp):a0D:=⟨some d,none,x⟩
abbrev og (d g:Nat) (b:Bool) (x:SOp):a0D:=⟨some d,some (g,b),x⟩
abbrev t (n:Nat):Opd:=.tmp n
abbrev i (n:Int):Opd:=.const (.int .i64 n)
abbrev mV (d s:Nat):a0D:=⟨some d,none,.mv (.tmp s)⟩
abbrev lD (d s:Nat):a0D:=⟨some d,none,.load false 1 (.tmp s)⟩
abbrev lA (d n s:Nat):a0D:=⟨some d,none,.load true n (.tmp s)⟩
abbrev fA (d n s:Nat):a0D:=⟨some d,none,.fa n (.tmp s)⟩
abbrev iA (d n x y:Nat):a0D:=⟨some d,none,.ia n (.tmp x) (.tmp y)⟩
abbrev lN (d s:Nat):a0D:=⟨some d,none,.len (.tmp s)⟩
abbrev cK (d s:Nat):a0D:=⟨some d,none,.chk (.tmp s)⟩
abbrev SS:Type:=List a0D
abbrev SF:Type:=u0g
abbrev gR:List a0D→SCode:=.reg
abbrev qS:SCode→SCode→SCode:=.seq
inductive RK where | few | all
def RK.p {α:Type}:RK→α→α→α | .few,a,_=>a | .all,_,b=>b
abbrev RK.w (F:RK):Nat:=F.p 1 2
abbrev RK.b (F:RK):Bool:=F.p false true
abbrev f_3:Nat:=3
abbrev f_7:Nat:=7
abbrev f_8:Nat:=8
abbrev f_9:Nat:=9
abbrev T0s:Nat:=10
abbrev P0L:Nat:=11
abbrev H0m:Nat:=12
abbrev T0t:Nat:=13
abbrev T0u:Nat:=14
abbrev Q0e:Nat:=17
abbrev J0M:Nat:=21
abbrev R0R:Nat:=22
abbrev Q0f:Nat:=23
abbrev T0v:Nat:=24
abbrev T0w:Nat:=25
abbrev R0S:Nat:=26
abbrev R0T:Nat:=27
abbrev R0U:Nat:=28
abbrev T0x:Nat:=29
abbrev T0y:Nat:=30
abbrev T0z:Nat:=31
abbrev J0N:Nat:=32
abbrev R0V:Nat:=33
abbrev T0A:Nat:=39
abbrev T0B:Nat:=40
abbrev R0W:Nat:=41
abbrev T0C:Nat:=42
abbrev Q0g:Nat:=43
abbrev R0X:Nat:=44
abbrev T0D:Nat:=45
abbrev R0Y:Nat:=46
abbrev R0Z:Nat:=47
abbrev T0E:Nat:=48
abbrev T0F:Nat:=49
abbrev T0G:Nat:=50
abbrev T0H:Nat:=51
abbrev T0I:Nat:=52
abbrev T0J:Nat:=53
abbrev T0K:Nat:=54
abbrev T0L:Nat:=55
abbrev r0U:Nat:=56
abbrev S0a:Nat:=69
abbrev T0M:Nat:=70
abbrev T0N:Nat:=71
abbrev S0b:Nat:=72
abbrev T0O:Nat:=73
abbrev T0P:Nat:=74
abbrev T0Q:Nat:=75
abbrev u0A:Nat:=76
abbrev S0c:Nat:=77
abbrev J0O:Nat:=78
abbrev H0n:Nat:=79
abbrev J0P:Nat:=80
abbrev T0R:Nat:=81
abbrev T0S:Nat:=82
abbrev T0T:Nat:=83
abbrev H0o:Nat:=84
abbrev V0Y:Nat:=85
abbrev y0U:Nat:=86
abbrev S0d:Nat:=87
abbrev T0U:Nat:=88
abbrev y0V:Nat:=89
abbrev q0N:Nat:=90
abbrev s0q:Nat:=100
abbrev y0D:Nat:=101
abbrev y0E:Nat:=102
abbrev j0b:Nat:=103
abbrev s0r:Nat:=104
abbrev y0F:Nat:=105
abbrev g0f:Nat:=106
abbrev d0V:Nat:=107
abbrev f0D:Nat:=108
abbrev y0G:Nat:=109
abbrev w0B:Nat:=110
abbrev w0C:Nat:=111
abbrev Z0x:Nat:=112
abbrev q0F:Nat:=113
abbrev P0M:Nat:=114
abbrev P0N:Nat:=115
abbrev P0O:Nat:=116
abbrev P0P:Nat:=117
abbrev P0Q:Nat:=118
abbrev P0R:Nat:=119
abbrev P0S:Nat:=120
abbrev w0D:Nat:=121
abbrev o0C:Nat:=122
abbrev y0H:Nat:=123
abbrev q0G:Nat:=124
abbrev w0E:Nat:=125
abbrev f0E:Nat:=126
abbrev q0H:Nat:=130
abbrev w0F:Nat:=131
abbrev m0y:Nat:=132
abbrev q0I:Nat:=133
abbrev y0I:Nat:=134
abbrev k0U:Nat:=135
abbrev P0T:Nat:=136
abbrev P0U:Nat:=137
abbrev P0V:Nat:=138
abbrev P0W:Nat:=139
abbrev P0X:Nat:=140
abbrev P0Y:Nat:=141
abbrev P0Z:Nat:=142
abbrev m0z:Nat:=143
abbrev w0G:Nat:=144
abbrev Q0a:Nat:=145
abbrev s0s:Nat:=146
abbrev y0J:Nat:=147
abbrev q0J:Nat:=148
abbrev w0H:Nat:=149
abbrev Q0b:Nat:=150
abbrev y0K:Nat:=151
abbrev y0L:Nat:=152
abbrev y0M:Nat:=153
abbrev y0N:Nat:=154
abbrev m0A:Nat:=155
abbrev w0I:Nat:=156
abbrev Q0c:Nat:=157
abbrev s0t:Nat:=158
abbrev q0K:Nat:=159
abbrev Q0d:Nat:=160
abbrev y0O:Nat:=161
abbrev w0J:Nat:=162
abbrev y0P:Nat:=163
abbrev y0Q:Nat:=164
abbrev y0R:Nat:=165
abbrev w0K:Nat:=181
abbrev k0V:Nat:=182
abbrev q0L:Nat:=183
abbrev j0c:Nat:=184
abbrev m0B:Nat:=185
abbrev o0D:Nat:=186
abbrev y0S:Nat:=187
abbrev w0L:Nat:=188
abbrev k0W:Nat:=189
abbrev q0M:Nat:=190
abbrev i0n:Nat:=191
abbrev m0C:Nat:=192
abbrev o0E:Nat:=193
abbrev w0M:Nat:=194
abbrev y0T:Nat:=195
abbrev s0u:Nat:=196
abbrev d0r:Nat:=2
abbrev e0l:Nat:=3
abbrev u0i:Nat:=9
abbrev a0y:Nat:=24
abbrev b0B:Nat:=28
abbrev a0a:Nat:=38
abbrev a0b:Nat:=40
abbrev a0Z:Nat:=42
abbrev a0C:Nat:=43
abbrev b0H:Nat:=45
abbrev b0b:Nat:=54
abbrev f0k:Nat:=64
abbrev k0C:Nat:=75
abbrev b0G:Nat:=79
abbrev a0l:Nat:=96
abbrev a0G:Nat:=137
abbrev a0h:Nat:=143
abbrev a0i:Nat:=162
abbrev a0t:Nat:=163
abbrev a0c:Nat:=167
abbrev a0w:Nat:=179
abbrev a0d:Nat:=183
abbrev e0w:Nat:=185
abbrev f0b:Nat:=226
def U0C:SS:=[o 3 (.box a0y (t 0)),o 4 (.box b0B (t 1)),o 6 (.mv (.const (.bool false)))]
def U0D:SS:=[lA 13 1 3,lA 14 6 4,mV 15 2,o 16 (.call f_7 [t 13,t 14,t 15] true),mV 17 16,og 18 17 false (.load true 1 (t 3)),og 19 17 false (.load true 6 (t 4)),og 20 17 false (.call f_8 [t 18,t 19] true),og 21 17 false (.un .not (t 20)),o 22 (.pick (t 17) (.const (.bool true)) (t 21)),mV 23 22,og 24 23 false (.fa 0 (t 3)),og 25 23 false (.load false 1 (t 24)),og 26 23 false (.len (t 25)),og 27 23 false (.bin 0 .gtr (t 26) (i 6)),o 28 (.pick (t 23) (.const (.bool true)) (t 27))]
def I0c:SS:=[o 29 (.call f_9 [] true),mV 6 29]
def U0E:SS:=[lA 31 1 3,lA 32 6 4,mV 33 2,o 34 (.call T0s [t 31,t 32,t 33] true),mV 30 34,o 35 (.ext (t 30) 0),o 36 (.ext (t 30) 1),mV 7 35,mV 8 36]
def U0F:SS:=[o 9 (.mv (i 0))]
def U0G:SS:=[mV 37 9,fA 38 0 3,lD 39 38,lN 40 39,o 41 (.bin 0 .lss (t 37) (t 40))]
def U0H:SS:=[lA 45 1 3,lA 46 6 4,mV 47 2,mV 48 9,o 49 (.call P0L [t 45,t 46,t 47,t 48] true),mV 44 49,o 50 (.ext (t 44) 0),o 51 (.ext (t 44) 1),o 52 (.ext (t 44) 2),o 10 (.alloc a0Z [.int .i64 0,.bool false,.slice none 0 0,.bool false,.slice none 0 0]),o 11 (.alloc b0H [.int .i64 0,.bool false,.slice none 0 0,.bool false,.slice none 0 0,.slice none 0 0,.slice none 0 0,.slice none 0 0]),⟨none,none,.store 5 (t 10) (t 50)⟩,⟨none,none,.store 8 (t 11) (t 51)⟩,mV 12 52]
def U0I:SS:=[mV 53 12,o 54 (.call H0m [t 53] true),mV 55 8,o 56 (.call H0m [t 55] true),o 57 (.bin 0 .neq (t 54) (t 56)),mV 58 57,og 59 58 false (.mv (t 8)),og 60 58 false (.call H0m [t 59] true),og 61 58 false (.bin 0 .eql (t 60) (i 0)),og 62 58 false (.mv (t 61)),og 63 62 true (.mv (t 9)),og 64 62 true (.mv (t 7)),og 65 62 true (.len (t 64)),og 66 62 true (.bin 0 .geq (t 63) (t 65)),og 67 62 true (.mv (t 66)),og 68 67 false (.mv (t 7)),og 69 67 false (.mv (t 9)),og 70 67 false (.ia 5 (t 68) (t 69)),og 71 67 false (.load true 5 (t 70)),og 72 67 false (.load true 5 (t 10)),og 73 67 false (.call T0t [t 71,t 72] true),og 74 67 false (.un .not (t 73)),og 75 62 true (.pick (t 67) (.const (.bool true)) (t 74)),og 76 58 false (.pick (t 62) (t 75) (.const (.bool false))),o 77 (.pick (t 58) (.const (.bool true)) (t 76))]
def Z0R:SS:=[o 6 (.mv (.const (.bool false)))]
def Q0Z:SS:=[mV 42 9,o 43 (.bin 0 .add (t 42) (i 1)),mV 9 43]
def L0Q:SS:=[mV 78 8,o 79 (.call H0m [t 78] true),o 80 (.bin 0 .neq (t 79) (i 0)),mV 81 80,og 82 81 true (.mv (t 7)),og 83 81 true (.len (t 82)),og 84 81 true (.bin 0 .eql (t 83) (i 0)),o 85 (.pick (t 81) (t 84) (.const (.bool false))),mV 86 85,og 87 86 false (.mv (t 7)),og 88 86 false (.len (t 87)),og 89 86 false (.fa 0 (t 3)),og 90 86 false (.load false 1 (t 89)),og 91 86 false (.len (t 90)),og 92 86 false (.bin 0 .eql (t 88) (t 91)),o 93 (.pick (t 86) (.const (.bool true)) (t 92)),mV 94 93,og 95 94 true (.call f_9 [] true),o 96 (.pick (t 94) (t 95) (.const (.bool false))),mV 6 96]
def s_3:SF:=⟨3,97,[.tmp 6],
 (qS (gR U0C) (qS (qS (gR U0D) (.cond (t 28) (qS (gR I0c) .ret) .skip)) (qS (gR U0E) (qS (qS (gR U0F) (.block 0 (.loop (qS (qS (gR U0G) (.cond (t 41) .skip (.exit 0))) (qS (.block 1 (qS (gR U0H) (qS (.draw U0I [0,1,0,7,15,31,63,127,255,511,1023,1023,3071,8191,16383,32767,32767,131071,262143,32767,1048575,2097151,4194303,8388607,16777215] []) (.cond (t 77) (qS (gR Z0R) .ret) .skip)))) (gR Q0Z)))))) (qS (gR L0Q) .ret)))))⟩
def U0Z:SS:=[o 3 (.box a0y (t 0)),o 4 (.box b0B (t 1)),o 6 (.mv (.const (.bool false)))]
def V0a:SS:=[fA 7 0 3,lD 8 7,o 9 (.call T0v [t 8] true),mV 10 9,og 11 10 false (.mv (t 2)),og 12 10 false (.call T0u [t 11] true),o 13 (.pick (t 10) (.const (.bool true)) (t 12)),mV 14 13,og 15 14 false (.load true 6 (t 4)),og 16 14 false (.lit b0B [.int .i64 0,.int .i64 0,.int .i64 0,.slice none 0 0,.slice none 0 0,.slice none 0 0] 1 [(0,6,t 15)]),og 17 14 false (.build [.slice none 0 0,.slice none 0 0,.slice none 0 0,.slice none 0 0] [(2,1,t 16)]),og 18 14 false (.call T0w [t 17] true),o 19 (.pick (t 14) (.const (.bool true)) (t 18)),mV 6 19]
def s_7:SF:=⟨3,20,[.tmp 6],
 (qS (gR U0Z) (qS (gR V0a) .ret))⟩
def V0d:SS:=[o 2 (.box a0y (t 0)),o 3 (.box b0B (t 1)),o 4 (.mv (.const (.bool false)))]
def x0w:SS:=[fA 5 0 2,lD 6 5,lN 7 6,o 8 (.bin 0 .leq (t 7) (i 8)),mV 9 8,og 10 9 true (.fa 4 (t 3)),og 11 9 true (.load false 1 (t 10)),og 12 9 true (.len (t 11)),og 13 9 true (.bin 0 .leq (t 12) (i 3)),o 14 (.pick (t 9) (t 13) (.const (.bool false))),mV 15 14,og 16 15 true (.fa 2 (t 3)),og 17 15 true (.load false 1 (t 16)),og 18 15 true (.bin 0 .leq (t 17) (i 3)),o 19 (.pick (t 15) (t 18) (.const (.bool false))),mV 20 19,og 21 20 true (.fa 3 (t 3)),og 22 20 true (.load false 1 (t 21)),og 23 20 true (.len (t 22)),og 24 20 true (.bin 0 .leq (t 23) (i 6)),o 25 (.pick (t 20) (t 24) (.const (.bool false))),mV 4 25]
def s_8:SF:=⟨2,26,[.tmp 4],
 (qS (gR V0d) (qS (gR x0w) .ret))⟩
def V0e:SS:=[o 0 (.mv (.const (.bool false)))]
def V0f:SS:=[o 5 (.call J0M [i 1] true),o 6 (.lit a0a [.bool false,.slice none 0 0] 1 [(0,2,t 5)]),o 7 (.call J0M [i 1] true),o 8 (.build [.slice none 0 0,.slice none 0 0,.bool false,.slice none 0 0] [(0,1,t 6),(2,2,t 7)]),o 9 (.lit f0k [.slice none 0 0,.slice none 0 0,.bool false,.slice none 0 0] 1 [(0,4,t 8)]),o 10 (.build [.int .i64 0,.int .i64 0,.int .i64 0,.slice none 0 0,.slice none 0 0,.slice none 0 0] [(4,1,t 9)]),o 1 (.alloc b0B [.int .i64 0,.int .i64 0,.int .i64 0,.slice none 0 0,.slice none 0 0,.slice none 0 0]),⟨none,none,.store 6 (t 1) (t 10)⟩]
def V0g:SS:=[o 12 (.call R0R [i 1] false),lA 13 6 1,o 14 (.call Q0f [i 3] false),o 15 (.build [.int .i64 0,.bool false,.slice none 0 0,.bool false,.slice none 0 0] [(1,4,t 14)]),o 16 (.build [.int .i64 0,.bool false,.slice none 0 0,.bool false,.slice none 0 0] [(0,1,i 1)]),o 17 (.lit a0Z [.int .i64 0,.bool false,.slice none 0 0,.bool false,.slice none 0 0] 2 [(0,5,t 15),(5,5,t 16)]),o 18 (.call P0L [t 12,t 13,t 17,i 0] false),mV 11 18,o 19 (.ext (t 11) 0),o 20 (.ext (t 11) 1),o 21 (.ext (t 11) 2),o 2 (.alloc a0Z [.int .i64 0,.bool false,.slice none 0 0,.bool false,.slice none 0 0]),o 3 (.alloc b0H [.int .i64 0,.bool false,.slice none 0 0,.bool false,.slice none 0 0,.slice none 0 0,.slice none 0 0,.slice none 0 0]),⟨none,none,.store 5 (t 2) (t 19)⟩,⟨none,none,.store 8 (t 3) (t 20)⟩,mV 4 21]
def V0h:SS:=[mV 22 4,o 23 (.call H0m [t 22] true),o 24 (.bin 0 .eql (t 23) (i 0)),mV 25 24,og 26 25 true (.fa 0 (t 2)),og 27 25 true (.load false 1 (t 26)),og 28 25 true (.bin 0 .eql (t 27) (i 0)),o 29 (.pick (t 25) (t 28) (.const (.bool false))),mV 30 29,og 31 30 true (.fa 1 (t 2)),og 32 30 true (.load true 4 (t 31)),og 33 30 true (.call Q0f [i 4] false),og 34 30 true (.call R0S [t 32,t 33] true),o 35 (.pick (t 30) (t 34) (.const (.bool false))),mV 0 35]
def s_9:SF:=⟨0,36,[.tmp 0],
 (qS (gR V0e) (qS (gR V0f) (qS (.draw V0g [0,0,1,5,0,29,63,127,255,255,255,0,0,6655,15359,32767] []) (qS (.draw V0h [0,1,3,7,15,31,63,127,255,511,1023,511,4095,8191,16383] []) .ret))))⟩
def K0e:SS:=[o 3 (.box a0y (t 0)),o 4 (.box b0B (t 1)),o 6 (.mv (.const (.slice none 0 0))),o 7 (.mv (i 0))]
def K0f:SS:=[o 8 (.mv (.const (.slice none 0 0)))]
def K0g:SS:=[fA 13 0 3,lD 14 13,lN 15 14,o 16 (.mv (i 0))]
def U0w:SS:=[o 17 (.bin 0 .lss (t 16) (t 15))]
def K0h:SS:=[mV 18 16,mV 9 18]
def K0i:SS:=[lA 20 1 3,lA 21 6 4,mV 22 2,mV 23 9,o 24 (.call P0L [t 20,t 21,t 22,t 23] true),mV 19 24,o 25 (.ext (t 19) 0),o 26 (.ext (t 19) 1),o 27 (.ext (t 19) 2),o 10 (.alloc a0Z [.int .i64 0,.bool false,.slice none 0 0,.bool false,.slice none 0 0]),o 11 (.alloc b0H [.int .i64 0,.bool false,.slice none 0 0,.bool false,.slice none 0 0,.slice none 0 0,.slice none 0 0,.slice none 0 0]),⟨none,none,.store 5 (t 10) (t 25)⟩,⟨none,none,.store 8 (t 11) (t 26)⟩,mV 12 27]
def A0X:SS:=[mV 28 12,o 29 (.bin 0 .neq (t 28) (i 0))]
def K0j:SS:=[mV 30 12,o 6 (.mv (.const (.slice none 0 0))),mV 7 30]
def K0k:SS:=[mV 31 8,lA 32 5 10,o 33 (.lit a0Z [.int .i64 0,.bool false,.slice none 0 0,.bool false,.slice none 0 0] 1 [(0,5,t 32)]),o 34 (.app a0Z 5 72 (t 31) (t 33)),mV 8 34]
def U0x:SS:=[o 35 (.bin 0 .add (t 16) (i 1)),mV 16 35]
def A0W:SS:=[mV 36 8,mV 6 36,o 7 (.mv (i 0))]
def W0l:SF:=⟨3,37,[.tmp 6,.tmp 7],
 (qS (gR K0e) (qS (gR K0f) (qS (qS (gR K0g) (.block 0 (.loop (qS (gR U0w) (qS (.cond (t 17) .skip (.exit 0)) (qS (.block 1 (qS (gR K0h) (qS (gR K0i) (qS (qS (gR A0X) (.cond (t 29) (qS (gR K0j) .ret) .skip)) (gR K0k))))) (gR U0x))))))) (qS (gR A0W) .ret))))⟩
def K0l:SS:=[o 4 (.box a0y (t 0)),o 5 (.box b0B (t 1)),o 8 (.alloc a0Z [.int .i64 0,.bool false,.slice none 0 0,.bool false,.slice none 0 0]),o 9 (.alloc b0H [.int .i64 0,.bool false,.slice none 0 0,.bool false,.slice none 0 0,.slice none 0 0,.slice none 0 0,.slice none 0 0]),o 10 (.mv (i 0))]
def K0m:SS:=[lA 17 1 4,lA 18 6 5,mV 19 2,mV 20 3,o 21 (.call R0T [t 17,t 18,t 19,t 20] true),o 22 (.un .not (t 21))]
def K0n:SS:=[o 23 (.build [.int .i64 0,.bool false,.slice none 0 0,.bool false,.slice none 0 0] []),o 24 (.build [.int .i64 0,.bool false,.slice none 0 0,.bool false,.slice none 0 0,.slice none 0 0,.slice none 0 0,.slice none 0 0] []),⟨none,none,.store 5 (t 8) (t 23)⟩,⟨none,none,.store 8 (t 9) (t 24)⟩,o 10 (.mv (i 1))]
def K0o:SS:=[mV 25 2,o 26 (.call R0U [t 25] true)]
def K0p:SS:=[o 27 (.build [.int .i64 0,.bool false,.slice none 0 0,.bool false,.slice none 0 0] [(0,1,(.const (.int .i64 (-1))))]),o 28 (.build [.int .i64 0,.bool false,.slice none 0 0,.bool false,.slice none 0 0,.slice none 0 0,.slice none 0 0,.slice none 0 0] []),⟨none,none,.store 5 (t 8) (t 27)⟩,⟨none,none,.store 8 (t 9) (t 28)⟩,o 10 (.mv (i 0))]
def K0q:SS:=[lA 30 1 4,lA 31 6 5,mV 32 2,mV 33 3,o 34 (.call T0x [t 30,t 31,t 32,t 33] true),mV 29 34,o 35 (.ext (t 29) 0),o 36 (.ext (t 29) 1),o 37 (.ext (t 29) 2),o 11 (.alloc b0G [.int .i64 0,.slice none 0 0,.slice none 0 0,.slice none 0 0]),o 12 (.alloc a0b [.bool false,.slice none 0 0,.bool false,.slice none 0 0]),⟨none,none,.store 4 (t 11) (t 35)⟩,⟨none,none,.store 4 (t 12) (t 36)⟩,mV 13 37]
def K0r:SS:=[mV 38 13,o 39 (.un .not (t 38))]
def U0y:SS:=[o 40 (.build [.int .i64 0,.bool false,.slice none 0 0,.bool false,.slice none 0 0] []),o 41 (.build [.int .i64 0,.bool false,.slice none 0 0,.bool false,.slice none 0 0,.slice none 0 0,.slice none 0 0,.slice none 0 0] []),⟨none,none,.store 5 (t 8) (t 40)⟩,⟨none,none,.store 8 (t 9) (t 41)⟩,o 10 (.mv (i 1))]
def K0s:SS:=[lA 43 4 11,o 44 (.call T0y [t 43] true),mV 42 44,o 45 (.ext (t 42) 0),o 46 (.ext (t 42) 1),o 47 (.ext (t 42) 2),o 14 (.alloc b0H [.int .i64 0,.bool false,.slice none 0 0,.bool false,.slice none 0 0,.slice none 0 0,.slice none 0 0,.slice none 0 0]),⟨none,none,.store 8 (t 14) (t 45)⟩,mV 15 46,mV 16 47]
def K0t:SS:=[mV 49 16,o 50 (.bin 0 .neq (t 49) (i 0)),mV 48 50]
def Q0J:SS:=[o 51 (.build [.int .i64 0,.bool false,.slice none 0 0,.bool false,.slice none 0 0] []),o 52 (.build [.int .i64 0,.bool false,.slice none 0 0,.bool false,.slice none 0 0,.slice none 0 0,.slice none 0 0,.slice none 0 0] []),mV 53 16,⟨none,none,.store 5 (t 8) (t 51)⟩,⟨none,none,.store 8 (t 9) (t 52)⟩,mV 10 53]
def p0u:SS:=[fA 55 0 14,lD 56 55,o 57 (.bin 0 .eql (t 56) (i 2)),mV 54 57]
def B0m:SS:=[o 58 (.build [.int .i64 0,.bool false,.slice none 0 0,.bool false,.slice none 0 0] [(0,1,(.const (.int .i64 (-1))))]),lA 59 8 14,⟨none,none,.store 5 (t 8) (t 58)⟩,⟨none,none,.store 8 (t 9) (t 59)⟩,o 10 (.mv (i 0))]
def s0T:SS:=[fA 61 0 14,lD 62 61,o 63 (.bin 0 .eql (t 62) (i 3)),mV 60 63]
def B0n:SS:=[o 64 (.build [.int .i64 0,.bool false,.slice none 0 0,.bool false,.slice none 0 0] [(0,1,i 1)]),lA 65 8 14,⟨none,none,.store 5 (t 8) (t 64)⟩,⟨none,none,.store 8 (t 9) (t 65)⟩,o 10 (.mv (i 0))]
def B0o:SS:=[fA 66 1 14,lA 67 4 66,o 68 (.call J0N [t 67] false),lA 69 4 12,o 70 (.call T0z [t 68,t 69] false),lA 71 8 14,⟨none,none,.store 5 (t 8) (t 70)⟩,⟨none,none,.store 8 (t 9) (t 71)⟩,o 10 (.mv (i 0))]
def W0m:SF:=⟨4,72,[.cell 8 true 5,.cell 9 true 8,.tmp 10],
 (qS (gR K0l) (qS (qS (gR K0m) (.cond (t 22) (qS (gR K0n) .ret) .skip)) (qS (qS (gR K0o) (.cond (t 26) (qS (gR K0p) .ret) .skip)) (qS (gR K0q) (qS (qS (gR K0r) (.cond (t 39) (qS (gR U0y) .ret) .skip)) (qS (gR K0s) (qS (.block 0 (qS (gR K0t) (.cond (t 48) (qS (gR Q0J) .ret) (qS (gR p0u) (.cond (t 54) (qS (.draw B0m [0,0,1,7,15] [(1,2)]) .ret) (qS (gR s0T) (.cond (t 60) (qS (.draw B0n [0,0,1,7,15] [(1,2)]) .ret) .skip))))))) (qS (.draw B0o [0,1,3,0,15,0,31,127,255] [(5,6)]) .ret))))))))⟩
def K0u:SS:=[o 2 (.mv (i 0))]
def K0v:SS:=[mV 3 0,mV 2 3]
def W0n:SF:=⟨1,4,[.tmp 2],
 (qS (gR K0u) (qS (gR K0v) .ret))⟩
def K0w:SS:=[o 2 (.box a0Z (t 0)),o 3 (.box a0Z (t 1)),o 4 (.mv (.const (.bool false)))]
def K0x:SS:=[fA 5 0 2,lD 6 5,fA 7 0 3,lD 8 7,o 9 (.bin 0 .eql (t 6) (t 8)),mV 10 9,og 11 10 true (.fa 1 (t 2)),og 12 10 true (.load true 4 (t 11)),og 13 10 true (.fa 1 (t 3)),og 14 10 true (.load true 4 (t 13)),og 15 10 true (.call R0S [t 12,t 14] true),o 16 (.pick (t 10) (t 15) (.const (.bool false))),mV 4 16]
def W0o:SF:=⟨2,17,[.tmp 4],
 (qS (gR K0w) (qS (gR K0x) .ret))⟩
def C0Q:SS:=[o 2 (.mv (.const (.bool false)))]
def C0R:SS:=[mV 4 0,lN 5 4,o 6 (.bin 0 .gtr (t 5) (i 100))]
def K0y:SS:=[o 2 (.mv (.const (.bool true)))]
def K0z:SS:=[o 3 (.mv (i 0))]
def K0A:SS:=[mV 7 3,mV 8 0,lN 9 8,o 10 (.bin 0 .lss (t 7) (t 9))]
def K0B:SS:=[mV 13 0,mV 14 3,iA 15 5 13 14,fA 16 1 15,lA 17 4 16,o 18 (.lit a0b [.bool false,.slice none 0 0,.bool false,.slice none 0 0] 1 [(0,4,t 17)]),o 19 (.call R0V [t 18] true)]
def K0C:SS:=[o 2 (.mv (.const (.bool true)))]
def K0D:SS:=[mV 11 3,o 12 (.bin 0 .add (t 11) (i 1)),mV 3 12]
def K0E:SS:=[o 2 (.mv (.const (.bool false)))]
def V0l:SF:=⟨1,20,[.tmp 2],
 (qS (gR C0Q) (qS (qS (gR C0R) (.cond (t 6) (qS (gR K0y) .ret) .skip)) (qS (qS (gR K0z) (.block 0 (.loop (qS (qS (gR K0A) (.cond (t 10) .skip (.exit 0))) (qS (.block 1 (qS (gR K0B) (.cond (t 19) (qS (gR K0C) .ret) .skip))) (gR K0D)))))) (qS (gR K0E) .ret))))⟩
def K0F:SS:=[o 2 (.mv (.const (.bool false)))]
def K0G:SS:=[o 3 (.mv (i 0))]
def K0H:SS:=[mV 4 3,mV 5 0,lN 6 5,o 7 (.bin 0 .lss (t 4) (t 6))]
def E0g:SS:=[mV 10 0,mV 11 3,iA 12 2 10 11,fA 13 1 12,lD 14 13,lN 15 14,o 16 (.bin 0 .gtr (t 15) (i 40))]
def K0I:SS:=[o 2 (.mv (.const (.bool true)))]
def K0J:SS:=[mV 8 3,o 9 (.bin 0 .add (t 8) (i 1)),mV 3 9]
def K0K:SS:=[o 2 (.mv (.const (.bool false)))]
def W0p:SF:=⟨1,17,[.tmp 2],
 (qS (gR K0F) (qS (qS (gR K0G) (.block 0 (.loop (qS (qS (gR K0H) (.cond (t 7) .skip (.exit 0))) (qS (.block 1 (qS (gR E0g) (.cond (t 16) (qS (gR K0I) .ret) .skip))) (gR K0J)))))) (qS (gR K0K) .ret)))⟩
def K0L:SS:=[o 2 (.alloc a0a [.bool false,.slice none 0 0])]
def E0V:SS:=[mV 4 0,o 5 (.conv .u64 (t 4)),mV 3 5]
def E0W:SS:=[mV 6 0,o 7 (.bin 0 .lss (t 6) (i 0))]
def K0M:SS:=[mV 8 3,o 9 (.un .neg (t 8)),mV 3 9]
def E0X:SS:=[mV 10 0,o 11 (.bin 0 .lss (t 10) (i 0)),mV 12 3,o 13 (.conv .u32 (t 12)),mV 14 3,o 15 (.bin 0 .shr (t 14) (.const (.int .u64 32))),o 16 (.conv .u32 (t 15)),o 17 (.lit a0l [.int .u32 0] 2 [(0,1,t 13),(1,1,t 16)]),o 18 (.call T0A [t 11,t 17] true),⟨none,none,.store 2 (t 2) (t 18)⟩]
def W0q:SF:=⟨1,19,[.cell 2 true 2],
 (qS (gR K0L) (qS (gR E0V) (qS (qS (gR E0W) (.cond (t 7) (gR K0M) .skip)) (qS (gR E0X) .ret))))⟩
def K0N:SS:=[o 2 (.alloc a0y [.slice none 0 0])]
def K0O:SS:=[mV 5 0,o 6 (.call T0B [t 5] true),mV 0 6]
def K0P:SS:=[o 3 (.mv (.const (.slice none 0 0)))]
def K0Q:SS:=[o 4 (.mv (i 0))]
def K0R:SS:=[mV 7 4,mV 8 0,o 9 (.bin 0 .lss (t 7) (t 8))]
def K0S:SS:=[mV 12 3,mV 13 0,mV 14 4,o 15 (.call R0W [t 13,t 14,i 1,(.const (.int .i64 (-1))),i 0] true),mV 16 0,mV 17 4,o 18 (.call R0W [t 16,t 17,(.const (.int .i64 (-1))),(.const (.int .i64 (-1))),i 0] true),o 19 (.lit a0C [.slice none 0 0] 2 [(0,1,t 15),(1,1,t 18)]),o 20 (.app a0C 1 24 (t 12) (t 19)),mV 3 20]
def K0T:SS:=[mV 10 4,o 11 (.bin 0 .add (t 10) (i 1)),mV 4 11]
def K0U:SS:=[mV 21 3,o 22 (.call T0C [t 21] true),⟨none,none,.store 1 (t 2) (t 22)⟩]
def W0r:SF:=⟨1,23,[.cell 2 true 1],
 (qS (gR K0N) (qS (gR K0O) (qS (gR K0P) (qS (qS (gR K0Q) (.block 0 (.loop (qS (qS (gR K0R) (.cond (t 9) .skip (.exit 0))) (qS (.block 1 (gR K0S)) (gR K0T)))))) (qS (gR K0U) .ret)))))⟩
def K0V:SS:=[o 2 (.alloc a0b [.bool false,.slice none 0 0,.bool false,.slice none 0 0])]
def K0W:SS:=[mV 3 0,o 4 (.call J0M [t 3] true),o 5 (.call J0M [i 1] true),o 6 (.build [.bool false,.slice none 0 0,.bool false,.slice none 0 0] [(0,2,t 4),(2,2,t 5)]),⟨none,none,.store 4 (t 2) (t 6)⟩]
def W0s:SF:=⟨1,7,[.cell 2 true 4],
 (qS (gR K0V) (qS (gR K0W) .ret))⟩
def K0X:SS:=[o 2 (.mv (.const (.bool false)))]
def K0Y:SS:=[o 3 (.mv (i 0))]
def K0Z:SS:=[o 4 (.mv (i 0))]
def v0Q:SS:=[mV 5 4,mV 6 0,lN 7 6,o 8 (.bin 0 .lss (t 5) (t 7)),mV 9 8,og 10 9 true (.mv (t 3)),og 11 9 true (.bin 0 .leq (t 10) (i 200)),o 12 (.pick (t 9) (t 11) (.const (.bool false)))]
def L0a:SS:=[mV 15 3,o 16 (.bin 0 .add (t 15) (i 1)),mV 17 0,mV 18 4,iA 19 1 17 18,lD 20 19,lN 21 20,o 22 (.mnx false (t 21) [i 201]),o 23 (.bin 0 .add (t 16) (t 22)),mV 3 23]
def E0Y:SS:=[mV 24 0,mV 25 4,iA 26 1 24 25,lD 27 26,lN 28 27,o 29 (.bin 0 .leq (t 28) (i 200)),mV 30 29,og 31 30 true (.mv (t 0)),og 32 30 true (.mv (t 4)),og 33 30 true (.ia 1 (t 31) (t 32)),og 34 30 true (.load false 1 (t 33)),og 35 30 true (.call R0V [t 34] true),o 36 (.pick (t 30) (t 35) (.const (.bool false)))]
def L0b:SS:=[o 2 (.mv (.const (.bool true)))]
def E0Z:SS:=[mV 13 4,o 14 (.bin 0 .add (t 13) (i 1)),mV 4 14]
def F0a:SS:=[mV 37 3,o 38 (.bin 0 .gtr (t 37) (i 200)),mV 2 38]
def W0t:SF:=⟨1,39,[.tmp 2],
 (qS (gR K0X) (qS (gR K0Y) (qS (qS (gR K0Z) (.block 0 (.loop (qS (qS (gR v0Q) (.cond (t 12) .skip (.exit 0))) (qS (.block 1 (qS (gR L0a) (qS (gR E0Y) (.cond (t 36) (qS (gR L0b) .ret) .skip)))) (gR E0Z)))))) (qS (gR F0a) .ret))))⟩
def L0c:SS:=[o 1 (.box k0C (t 0)),o 2 (.mv (.const (.bool false)))]
def L0d:SS:=[fA 5 0 1,lD 6 5,lN 7 6,o 8 (.bin 0 .gtr (t 7) (i 60)),mV 9 8,og 10 9 false (.fa 1 (t 1)),og 11 9 false (.load false 1 (t 10)),og 12 9 false (.len (t 11)),og 13 9 false (.bin 0 .gtr (t 12) (i 10)),o 14 (.pick (t 9) (.const (.bool true)) (t 13)),mV 15 14,og 16 15 false (.fa 2 (t 1)),og 17 15 false (.load false 1 (t 16)),og 18 15 false (.len (t 17)),og 19 15 false (.bin 0 .gtr (t 18) (i 300)),o 20 (.pick (t 15) (.const (.bool true)) (t 19)),mV 21 20,og 22 21 false (.fa 3 (t 1)),og 23 21 false (.load false 1 (t 22)),og 24 21 false (.len (t 23)),og 25 21 false (.bin 0 .gtr (t 24) (i 300)),o 26 (.pick (t 21) (.const (.bool true)) (t 25))]
def U0z:SS:=[o 2 (.mv (.const (.bool true)))]
def L0e:SS:=[o 3 (.mv (i 0))]
def L0f:SS:=[mV 27 3,fA 28 2 1,lD 29 28,lN 30 29,o 31 (.bin 0 .lss (t 27) (t 30))]
def v0R:SS:=[fA 34 2 1,lD 35 34,mV 36 3,iA 37 6 35 36,fA 38 3 37,lD 39 38,lN 40 39,o 41 (.bin 0 .gtr (t 40) (i 100)),mV 42 41,og 43 42 false (.fa 2 (t 1)),og 44 42 false (.load false 1 (t 43)),og 45 42 false (.mv (t 3)),og 46 42 false (.ia 6 (t 44) (t 45)),og 47 42 false (.fa 4 (t 46)),og 48 42 false (.load false 1 (t 47)),og 49 42 false (.len (t 48)),og 50 42 false (.bin 0 .gtr (t 49) (i 20)),o 51 (.pick (t 42) (.const (.bool true)) (t 50)),mV 52 51,og 53 52 false (.fa 2 (t 1)),og 54 52 false (.load false 1 (t 53)),og 55 52 false (.mv (t 3)),og 56 52 false (.ia 6 (t 54) (t 55)),og 57 52 false (.fa 3 (t 56)),og 58 52 false (.load false 1 (t 57)),og 59 52 false (.call Q0g [t 58] true),o 60 (.pick (t 52) (.const (.bool true)) (t 59)),mV 61 60,og 62 61 false (.fa 2 (t 1)),og 63 61 false (.load false 1 (t 62)),og 64 61 false (.mv (t 3)),og 65 61 false (.ia 6 (t 63) (t 64)),og 66 61 false (.fa 4 (t 65)),og 67 61 false (.load false 1 (t 66)),og 68 61 false (.call Q0g [t 67] true),o 69 (.pick (t 61) (.const (.bool true)) (t 68))]
def r0D:SS:=[o 2 (.mv (.const (.bool true)))]
def L0g:SS:=[mV 32 3,o 33 (.bin 0 .add (t 32) (i 1)),mV 3 33]
def L0h:SS:=[o 4 (.mv (i 0))]
def L0i:SS:=[mV 70 4,fA 71 3 1,lD 72 71,lN 73 72,o 74 (.bin 0 .lss (t 70) (t 73))]
def Q0W:SS:=[fA 77 3 1,lD 78 77,mV 79 4,iA 80 4 78 79,fA 81 3 80,lD 82 81,lN 83 82,o 84 (.bin 0 .gtr (t 83) (i 100)),mV 85 84,og 86 85 false (.fa 3 (t 1)),og 87 85 false (.load false 1 (t 86)),og 88 85 false (.mv (t 4)),og 89 85 false (.ia 4 (t 87) (t 88)),og 90 85 false (.fa 3 (t 89)),og 91 85 false (.load false 1 (t 90)),og 92 85 false (.call Q0g [t 91] true),o 93 (.pick (t 85) (.const (.bool true)) (t 92))]
def Q0X:SS:=[o 2 (.mv (.const (.bool true)))]
def Q0Y:SS:=[mV 75 4,o 76 (.bin 0 .add (t 75) (i 1)),mV 4 76]
def F0b:SS:=[o 2 (.mv (.const (.bool false)))]
def W0u:SF:=⟨1,94,[.tmp 2],
 (qS (gR L0c) (qS (qS (gR L0d) (.cond (t 26) (qS (gR U0z) .ret) .skip)) (qS (qS (gR L0e) (.block 0 (.loop (qS (qS (gR L0f) (.cond (t 31) .skip (.exit 0))) (qS (.block 1 (qS (gR v0R) (.cond (t 69) (qS (gR r0D) .ret) .skip))) (gR L0g)))))) (qS (qS (gR L0h) (.block 2 (.loop (qS (qS (gR L0i) (.cond (t 74) .skip (.exit 2))) (qS (.block 3 (qS (gR Q0W) (.cond (t 93) (qS (gR Q0X) .ret) .skip))) (gR Q0Y)))))) (qS (gR F0b) .ret)))))⟩
def L0j:SS:=[o 2 (.box a0b (t 0)),o 3 (.box a0b (t 1)),o 4 (.mv (.const (.bool false)))]
def L0k:SS:=[fA 5 0 2,lA 6 2 5,fA 7 0 3,lA 8 2 7,o 9 (.call R0X [t 6,t 8] true),mV 10 9,og 11 10 true (.fa 2 (t 2)),og 12 10 true (.load true 2 (t 11)),og 13 10 true (.fa 2 (t 3)),og 14 10 true (.load true 2 (t 13)),og 15 10 true (.call R0X [t 12,t 14] true),o 16 (.pick (t 10) (t 15) (.const (.bool false))),mV 4 16]
def W0v:SF:=⟨2,17,[.tmp 4],
 (qS (gR L0j) (qS (gR L0k) .ret))⟩
def L0l:SS:=[o 4 (.box a0y (t 0)),o 5 (.box b0B (t 1)),o 8 (.mv (.const (.bool false)))]
def L0m:SS:=[fA 10 4 5,lD 11 10,lN 12 11,mV 9 12]
def L0n:SS:=[lA 13 1 4,mV 14 9,mV 15 2,o 16 (.call T0D [t 13,t 14,t 15] true),mV 17 16,og 18 17 true (.mv (t 3)),og 19 17 true (.bin 0 .geq (t 18) (i 0)),o 20 (.pick (t 17) (t 19) (.const (.bool false))),mV 21 20,og 22 21 true (.mv (t 3)),og 23 21 true (.fa 0 (t 4)),og 24 21 true (.load false 1 (t 23)),og 25 21 true (.len (t 24)),og 26 21 true (.bin 0 .lss (t 22) (t 25)),o 27 (.pick (t 21) (t 26) (.const (.bool false))),mV 28 27,og 29 28 true (.fa 2 (t 5)),og 30 28 true (.load false 1 (t 29)),og 31 28 true (.bin 0 .geq (t 30) (i 0)),o 32 (.pick (t 28) (t 31) (.const (.bool false))),mV 33 32,og 34 33 true (.fa 4 (t 5)),og 35 33 true (.load false 1 (t 34)),og 36 33 true (.mv (t 9)),og 37 33 true (.fa 2 (t 5)),og 38 33 true (.load false 1 (t 37)),og 39 33 true (.call R0Y [t 35,t 36,t 38] true),o 40 (.pick (t 33) (t 39) (.const (.bool false))),mV 41 40,og 42 41 true (.fa 3 (t 5)),og 43 41 true (.load false 1 (t 42)),og 44 41 true (.mv (t 9)),og 45 41 true (.fa 2 (t 5)),og 46 41 true (.load false 1 (t 45)),og 47 41 true (.call R0Y [t 43,t 44,t 46] true),o 48 (.pick (t 41) (t 47) (.const (.bool false))),mV 8 48]
def W0w:SF:=⟨4,49,[.tmp 8],
 (qS (gR L0l) (qS (gR L0m) (qS (gR L0n) .ret)))⟩
def L0o:SS:=[o 2 (.mv (.const (.bool false)))]
def L0p:SS:=[mV 3 0,o 4 (.call R0Z [t 3,.fn T0E] true),mV 2 4]
def W0x:SF:=⟨1,5,[.tmp 2],
 (qS (gR L0o) (qS (gR L0p) .ret))⟩
def L0q:SS:=[o 4 (.box a0y (t 0)),o 5 (.box b0B (t 1)),o 8 (.alloc b0G [.int .i64 0,.slice none 0 0,.slice none 0 0,.slice none 0 0]),o 9 (.alloc a0b [.bool false,.slice none 0 0,.bool false,.slice none 0 0]),o 10 (.mv (.const (.bool false)))]
def L0r:SS:=[lA 14 1 4,lA 15 6 5,mV 16 2,mV 17 3,o 18 (.call R0T [t 14,t 15,t 16,t 17] true),o 19 (.un .not (t 18)),mV 20 19,og 21 20 false (.load true 1 (t 4)),og 22 20 false (.load true 6 (t 5)),og 23 20 false (.mv (t 2)),og 24 20 false (.call T0F [t 21,t 22,t 23] true),og 25 20 false (.un .not (t 24)),o 26 (.pick (t 20) (.const (.bool true)) (t 25)),mV 27 26,og 28 27 false (.mv (t 2)),og 29 27 false (.call R0U [t 28] true),o 30 (.pick (t 27) (.const (.bool true)) (t 29))]
def U0A:SS:=[o 31 (.build [.int .i64 0,.slice none 0 0,.slice none 0 0,.slice none 0 0] []),o 32 (.build [.bool false,.slice none 0 0,.bool false,.slice none 0 0] []),⟨none,none,.store 4 (t 8) (t 31)⟩,⟨none,none,.store 4 (t 9) (t 32)⟩,o 10 (.mv (.const (.bool false)))]
def L0s:SS:=[lA 33 1 4,mV 34 2,fA 35 4 5,lD 36 35,lN 37 36,fA 38 2 5,lD 39 38,o 40 (.bin 0 .add (t 37) (t 39)),o 41 (.call T0G [t 33,t 34,t 40] true),o 11 (.alloc b0G [.int .i64 0,.slice none 0 0,.slice none 0 0,.slice none 0 0]),⟨none,none,.store 4 (t 11) (t 41)⟩]
def L0t:SS:=[fA 42 3 5,lD 43 42,o 44 (.call T0H [t 11,t 43] true)]
def L0u:SS:=[lA 46 1 4,lA 47 6 5,mV 48 3,o 49 (.call T0I [t 46,t 47,t 48] true),mV 45 49,o 50 (.ext (t 45) 0),o 51 (.ext (t 45) 1),o 13 (.alloc a0b [.bool false,.slice none 0 0,.bool false,.slice none 0 0]),mV 12 50,⟨none,none,.store 4 (t 13) (t 51)⟩]
def L0v:SS:=[mV 52 12,fA 53 3 11,⟨none,none,.store 1 (t 53) (t 52)⟩]
def L0w:SS:=[lA 54 4 11,lA 55 4 13,⟨none,none,.store 4 (t 8) (t 54)⟩,⟨none,none,.store 4 (t 9) (t 55)⟩,o 10 (.mv (.const (.bool true)))]
def W0y:SF:=⟨4,56,[.cell 8 true 4,.cell 9 true 4,.tmp 10],
 (qS (gR L0q) (qS (qS (gR L0r) (.cond (t 30) (qS (gR U0A) .ret) .skip)) (qS (gR L0s) (qS (gR L0t) (qS (gR L0u) (qS (gR L0v) (qS (.draw L0w [0,0,1,7,15] [(1,2)]) .ret)))))))⟩
def L0x:SS:=[o 1 (.box b0G (t 0)),o 2 (.alloc b0H [.int .i64 0,.bool false,.slice none 0 0,.bool false,.slice none 0 0,.slice none 0 0,.slice none 0 0,.slice none 0 0]),o 3 (.mv (i 0)),o 4 (.mv (i 0))]
def L0y:SS:=[lA 7 4 1,o 8 (.call T0J [t 7] true),o 9 (.un .not (t 8))]
def U0B:SS:=[o 10 (.build [.int .i64 0,.bool false,.slice none 0 0,.bool false,.slice none 0 0,.slice none 0 0,.slice none 0 0,.slice none 0 0] []),⟨none,none,.store 8 (t 2) (t 10)⟩,o 3 (.mv (i 0)),o 4 (.mv (i 1))]
def L0z:SS:=[lA 12 4 1,o 13 (.call T0K [t 12] true),mV 11 13,o 14 (.ext (t 11) 0),o 15 (.ext (t 11) 1),o 5 (.alloc b0H [.int .i64 0,.bool false,.slice none 0 0,.bool false,.slice none 0 0,.slice none 0 0,.slice none 0 0,.slice none 0 0]),⟨none,none,.store 8 (t 5) (t 14)⟩,mV 6 15]
def L0A:SS:=[lA 16 8 5,mV 17 6,⟨none,none,.store 8 (t 2) (t 16)⟩,mV 3 17,o 4 (.mv (i 0))]
def W0z:SF:=⟨1,18,[.cell 2 true 8,.tmp 3,.tmp 4],
 (qS (gR L0x) (qS (qS (gR L0y) (.cond (t 9) (qS (gR U0B) .ret) .skip)) (qS (gR L0z) (qS (gR L0A) .ret))))⟩
def L0B:SS:=[o 2 (.box a0Z (t 0)),o 3 (.box a0b (t 1)),o 4 (.alloc a0Z [.int .i64 0,.bool false,.slice none 0 0,.bool false,.slice none 0 0])]
def L0C:SS:=[lA 5 5 2,o 6 (.call T0L [t 5] true),⟨none,none,.store 5 (t 2) (t 6)⟩]
def F0c:SS:=[fA 7 0 2,lD 8 7,o 9 (.bin 0 .neq (t 8) (i 0))]
def L0D:SS:=[lA 10 5 2,⟨none,none,.store 5 (t 4) (t 10)⟩]
def L0E:SS:=[fA 11 1 2,lA 12 4 11,lA 13 4 3,o 14 (.call r0U [t 12,t 13] true),o 15 (.call J0N [t 14] true),⟨none,none,.store 5 (t 4) (t 15)⟩]
def W0A:SF:=⟨2,16,[.cell 4 true 5],
 (qS (gR L0B) (qS (gR L0C) (qS (qS (gR F0c) (.cond (t 9) (qS (gR L0D) .ret) .skip)) (qS (gR L0E) .ret))))⟩
def L0F:SS:=[o 1 (.box a0b (t 0)),o 2 (.alloc a0Z [.int .i64 0,.bool false,.slice none 0 0,.bool false,.slice none 0 0])]
def L0G:SS:=[lA 3 4 1,o 4 (.build [.bool false,.slice none 0 0,.bool false,.slice none 0 0] []),o 5 (.call r0U [t 3,t 4] true),o 6 (.build [.int .i64 0,.bool false,.slice none 0 0,.bool false,.slice none 0 0] [(1,4,t 5)]),⟨none,none,.store 5 (t 2) (t 6)⟩]
def W0B:SF:=⟨1,7,[.cell 2 true 5],
 (qS (gR L0F) (qS (gR L0G) .ret))⟩
def L0H:SS:=[o 2 (.mv (.const (.bool false)))]
def L0I:SS:=[o 3 (.mv (i 0))]
def L0J:SS:=[mV 4 3,mV 5 0,lN 6 5,o 7 (.bin 0 .lss (t 4) (t 6))]
def v0S:SS:=[mV 10 0,mV 11 3,iA 12 4 10 11,fA 13 0 12,fA 14 1 13,lD 15 14,lN 16 15,o 17 (.bin 0 .gtr (t 16) (i 6)),mV 18 17,og 19 18 false (.mv (t 0)),og 20 18 false (.mv (t 3)),og 21 18 false (.ia 4 (t 19) (t 20)),og 22 18 false (.fa 2 (t 21)),og 23 18 false (.fa 1 (t 22)),og 24 18 false (.load false 1 (t 23)),og 25 18 false (.len (t 24)),og 26 18 false (.bin 0 .gtr (t 25) (i 6)),o 27 (.pick (t 18) (.const (.bool true)) (t 26))]
def F0d:SS:=[o 2 (.mv (.const (.bool true)))]
def L0K:SS:=[mV 8 3,o 9 (.bin 0 .add (t 8) (i 1)),mV 3 9]
def L0L:SS:=[o 2 (.mv (.const (.bool false)))]
def W0C:SF:=⟨1,28,[.tmp 2],
 (qS (gR L0H) (qS (qS (gR L0I) (.block 0 (.loop (qS (qS (gR L0J) (.cond (t 7) .skip (.exit 0))) (qS (.block 1 (qS (gR v0S) (.cond (t 27) (qS (gR F0d) .ret) .skip))) (gR L0K)))))) (qS (gR L0L) .ret)))⟩
def L0M:SS:=[o 4 (.alloc a0a [.bool false,.slice none 0 0])]
def L0N:SS:=[mV 5 1,o 6 (.call S0a [t 5] true),mV 1 6]
def F0e:SS:=[mV 7 1,lN 8 7,o 9 (.bin 0 .eql (t 8) (i 0))]
def L0O:SS:=[o 10 (.build [.bool false,.slice none 0 0] []),⟨none,none,.store 2 (t 4) (t 10)⟩]
def L0P:SS:=[mV 11 0,o 12 (.lit a0l [.int .u32 0] 0 []),mV 13 1,o 14 (.app a0l 1 4 (t 12) (t 13)),o 15 (.build [.bool false,.slice none 0 0] [(0,1,t 11),(1,1,t 14)]),⟨none,none,.store 2 (t 4) (t 15)⟩]
def W0D:SF:=⟨2,16,[.cell 4 true 2],
 (qS (gR L0M) (qS (gR L0N) (qS (qS (gR F0e) (.cond (t 9) (qS (gR L0O) .ret) .skip)) (qS (gR L0P) .ret))))⟩
def L0R:SS:=[o 2 (.mv (i 0))]
def L0S:SS:=[mV 3 0,o 4 (.mnx false (t 3) [i 6]),o 5 (.mnx true (i 0) [t 4]),mV 2 5]
def W0E:SF:=⟨1,6,[.tmp 2],
 (qS (gR L0R) (qS (gR L0S) .ret))⟩
def L0T:SS:=[o 10 (.mv (.const (.slice none 0 0)))]
def L0U:SS:=[o 11 (.mv (.const (.slice none 0 0)))]
def L0V:SS:=[o 12 (.mv (i 0))]
def L0W:SS:=[mV 14 12,mV 15 0,o 16 (.bin 0 .lss (t 14) (t 15))]
def L0X:SS:=[o 13 (.mv (i 0))]
def L0Y:SS:=[mV 19 12,mV 20 1,o 21 (.bin 0 .eql (t 19) (t 20))]
def L0Z:SS:=[mV 22 2,mV 13 22]
def M0a:SS:=[mV 23 12,mV 24 3,o 25 (.bin 0 .eql (t 23) (t 24))]
def M0b:SS:=[mV 26 4,mV 13 26]
def M0c:SS:=[mV 27 11,mV 28 13,o 29 (.call Q0f [t 28] true),o 30 (.lit a0b [.bool false,.slice none 0 0,.bool false,.slice none 0 0] 1 [(0,4,t 29)]),o 31 (.app a0b 4 64 (t 27) (t 30)),mV 11 31]
def F0f:SS:=[mV 17 12,o 18 (.bin 0 .add (t 17) (i 1)),mV 12 18]
def F0g:SS:=[mV 32 11,mV 10 32]
def W0F:SF:=⟨5,33,[.tmp 10],
 (qS (gR L0T) (qS (gR L0U) (qS (qS (gR L0V) (.block 0 (.loop (qS (qS (gR L0W) (.cond (t 16) .skip (.exit 0))) (qS (.block 1 (qS (gR L0X) (qS (qS (gR L0Y) (.cond (t 21) (gR L0Z) .skip)) (qS (qS (gR M0a) (.cond (t 25) (gR M0b) .skip)) (gR M0c))))) (gR F0f)))))) (qS (gR F0g) .ret))))⟩
def M0d:SS:=[o 2 (.alloc a0y [.slice none 0 0])]
def M0e:SS:=[mV 3 0,mV 4 0,lN 5 4,o 6 (.mnx false (t 5) [i 40]),o 7 (.sl a0C 1 (t 3) none (some (t 6)) none),o 8 (.build [.slice none 0 0] [(0,1,t 7)]),⟨none,none,.store 1 (t 2) (t 8)⟩]
def W0G:SF:=⟨1,9,[.cell 2 true 1],
 (qS (gR M0d) (qS (gR M0e) .ret))⟩
def M0f:SS:=[o 2 (.mv (.const (.bool false)))]
def M0g:SS:=[o 3 (.mv (i 0))]
def M0h:SS:=[mV 4 3,mV 5 0,lN 6 5,o 7 (.bin 0 .lss (t 4) (t 6))]
def v0T:SS:=[mV 10 0,mV 11 3,iA 12 4 10 11,fA 13 0 12,lD 14 13,lN 15 14,o 16 (.bin 0 .gtr (t 15) (i 60)),mV 17 16,og 18 17 false (.mv (t 0)),og 19 17 false (.mv (t 3)),og 20 17 false (.ia 4 (t 18) (t 19)),og 21 17 false (.fa 1 (t 20)),og 22 17 false (.load false 1 (t 21)),og 23 17 false (.len (t 22)),og 24 17 false (.bin 0 .gtr (t 23) (i 60)),o 25 (.pick (t 17) (.const (.bool true)) (t 24)),mV 26 25,og 27 26 false (.mv (t 0)),og 28 26 false (.mv (t 3)),og 29 26 false (.ia 4 (t 27) (t 28)),og 30 26 false (.fa 2 (t 29)),og 31 26 false (.load true 2 (t 30)),og 32 26 false (.lit a0a [.bool false,.slice none 0 0] 1 [(0,2,t 31)]),og 33 26 false (.call Q0e [t 32] true),o 34 (.pick (t 26) (.const (.bool true)) (t 33)),mV 35 34,og 36 35 false (.mv (t 0)),og 37 35 false (.mv (t 3)),og 38 35 false (.ia 4 (t 36) (t 37)),og 39 35 false (.fa 0 (t 38)),og 40 35 false (.load false 1 (t 39)),og 41 35 false (.call Q0e [t 40] true),o 42 (.pick (t 35) (.const (.bool true)) (t 41)),mV 43 42,og 44 43 false (.mv (t 0)),og 45 43 false (.mv (t 3)),og 46 43 false (.ia 4 (t 44) (t 45)),og 47 43 false (.fa 1 (t 46)),og 48 43 false (.load false 1 (t 47)),og 49 43 false (.call Q0e [t 48] true),o 50 (.pick (t 43) (.const (.bool true)) (t 49))]
def n0Z:SS:=[o 2 (.mv (.const (.bool true)))]
def M0i:SS:=[mV 8 3,o 9 (.bin 0 .add (t 8) (i 1)),mV 3 9]
def M0j:SS:=[o 2 (.mv (.const (.bool false)))]
def W0H:SF:=⟨1,51,[.tmp 2],
 (qS (gR M0f) (qS (qS (gR M0g) (.block 0 (.loop (qS (qS (gR M0h) (.cond (t 7) .skip (.exit 0))) (qS (.block 1 (qS (gR v0T) (.cond (t 50) (qS (gR n0Z) .ret) .skip))) (gR M0i)))))) (qS (gR M0j) .ret)))⟩
def M0k:SS:=[o 2 (.box a0a (t 0)),o 3 (.box a0a (t 1)),o 4 (.mv (.const (.bool false)))]
def v0U:SS:=[fA 6 0 2,lD 7 6,fA 8 0 3,lD 9 8,o 10 (.bin 1 .neq (t 7) (t 9)),mV 11 10,og 12 11 false (.fa 1 (t 2)),og 13 11 false (.load false 1 (t 12)),og 14 11 false (.len (t 13)),og 15 11 false (.fa 1 (t 3)),og 16 11 false (.load false 1 (t 15)),og 17 11 false (.len (t 16)),og 18 11 false (.bin 0 .neq (t 14) (t 17)),o 19 (.pick (t 11) (.const (.bool true)) (t 18))]
def F0h:SS:=[o 4 (.mv (.const (.bool false)))]
def M0l:SS:=[o 5 (.mv (i 0))]
def M0m:SS:=[mV 20 5,fA 21 1 2,lD 22 21,lN 23 22,o 24 (.bin 0 .lss (t 20) (t 23))]
def M0n:SS:=[fA 27 1 2,lD 28 27,mV 29 5,iA 30 1 28 29,lD 31 30,fA 32 1 3,lD 33 32,mV 34 5,iA 35 1 33 34,lD 36 35,o 37 (.bin 0 .neq (t 31) (t 36))]
def M0o:SS:=[o 4 (.mv (.const (.bool false)))]
def M0p:SS:=[mV 25 5,o 26 (.bin 0 .add (t 25) (i 1)),mV 5 26]
def M0q:SS:=[o 4 (.mv (.const (.bool true)))]
def W0I:SF:=⟨2,38,[.tmp 4],
 (qS (gR M0k) (qS (qS (gR v0U) (.cond (t 19) (qS (gR F0h) .ret) .skip)) (qS (qS (gR M0l) (.block 0 (.loop (qS (qS (gR M0m) (.cond (t 24) .skip (.exit 0))) (qS (.block 1 (qS (.draw M0n [0,1,0,7,15,0,32,0,224,480,1023] []) (.cond (t 37) (qS (gR M0o) .ret) .skip))) (gR M0p)))))) (qS (gR M0q) .ret))))⟩
def M0r:SS:=[o 3 (.box a0y (t 0)),o 6 (.mv (.const (.bool false)))]
def M0s:SS:=[lA 7 1 3,mV 8 1,o 9 (.call T0M [t 7,t 8] true),mV 10 9,og 11 10 true (.mv (t 2)),og 12 10 true (.len (t 11)),og 13 10 true (.fa 0 (t 3)),og 14 10 true (.load false 1 (t 13)),og 15 10 true (.len (t 14)),og 16 10 true (.bin 0 .eql (t 12) (t 15)),o 17 (.pick (t 10) (t 16) (.const (.bool false))),mV 18 17,og 19 18 true (.mv (t 2)),og 20 18 true (.call R0Z [t 19,.fn T0N] true),og 21 18 true (.un .not (t 20)),o 22 (.pick (t 18) (t 21) (.const (.bool false))),mV 6 22]
def W0J:SF:=⟨3,23,[.tmp 6],
 (qS (gR M0r) (qS (gR M0s) .ret))⟩
def M0t:SS:=[o 4 (.box e0l (t 1)),o 5 (.box e0l (t 2)),o 6 (.mv (.const (.bool false)))]
def M0u:SS:=[mV 7 0,o 8 (.mkfn (.func T0P) [] [t 4,t 5]),o 9 (.call T0O [t 7,t 8] true),o 10 (.un .not (t 9)),mV 6 10]
def W0K:SF:=⟨3,11,[.tmp 6],
 (qS (gR M0t) (qS (gR M0u) .ret))⟩
def M0v:SS:=[o 4 (.mv (.const (.bool false)))]
def M0w:SS:=[mV 5 0,mV 6 1,o 7 (.call T0Q [t 5,t 6] true),o 8 (.bin 0 .geq (t 7) (i 0)),mV 4 8]
def W0L:SF:=⟨2,9,[.tmp 4],
 (qS (gR M0v) (qS (gR M0w) .ret))⟩
def M0x:SS:=[o 1 (.box a0Z (t 0)),o 2 (.mv (.const (.bool false)))]
def M0y:SS:=[fA 3 0 1,lD 4 3,o 5 (.bin 0 .lss (t 4) (i 0)),mV 2 5]
def W0M:SF:=⟨1,6,[.tmp 2],
 (qS (gR M0x) (qS (gR M0y) .ret))⟩
def M0z:SS:=[o 3 (.box a0y (t 0)),o 4 (.box b0B (t 1)),o 6 (.mv (.const (.bool false)))]
def M0A:SS:=[fA 10 3 4,lD 11 10,lN 12 11,mV 7 12]
def M0B:SS:=[mV 13 2,lN 14 13,o 15 (.mv (i 0))]
def U0J:SS:=[o 16 (.bin 0 .lss (t 15) (t 14))]
def M0C:SS:=[iA 17 5 13 15,lA 18 5 17,o 9 (.alloc a0Z [.int .i64 0,.bool false,.slice none 0 0,.bool false,.slice none 0 0]),⟨none,none,.store 5 (t 9) (t 18)⟩]
def F0i:SS:=[fA 19 0 9,lD 20 19,o 21 (.bin 0 .eql (t 20) (i 0))]
def M0D:SS:=[mV 22 7,o 23 (.bin 0 .add (t 22) (i 1)),mV 7 23]
def U0K:SS:=[o 24 (.bin 0 .add (t 15) (i 1)),mV 15 24]
def F0j:SS:=[mV 25 7,o 26 (.bin 0 .leq (t 25) (i 60)),mV 27 26,og 28 27 true (.fa 4 (t 4)),og 29 27 true (.load false 1 (t 28)),og 30 27 true (.len (t 29)),og 31 27 true (.fa 2 (t 4)),og 32 27 true (.load false 1 (t 31)),og 33 27 true (.bin 0 .add (t 30) (t 32)),og 34 27 true (.bin 0 .leq (t 33) (i 60)),o 35 (.pick (t 27) (t 34) (.const (.bool false))),mV 6 35]
def W0N:SF:=⟨3,36,[.tmp 6],
 (qS (gR M0z) (qS (gR M0A) (qS (qS (gR M0B) (.block 0 (.loop (qS (gR U0J) (qS (.cond (t 16) .skip (.exit 0)) (qS (.block 1 (qS (gR M0C) (qS (gR F0i) (.cond (t 21) (gR M0D) .skip)))) (gR U0K))))))) (qS (gR F0j) .ret))))⟩
def M0E:SS:=[o 3 (.box a0y (t 0)),o 6 (.alloc b0G [.int .i64 0,.slice none 0 0,.slice none 0 0,.slice none 0 0])]
def M0F:SS:=[mV 13 2,o 14 (.build [.int .i64 0,.slice none 0 0,.slice none 0 0,.slice none 0 0] [(0,1,t 13)]),o 7 (.alloc b0G [.int .i64 0,.slice none 0 0,.slice none 0 0,.slice none 0 0]),⟨none,none,.store 4 (t 7) (t 14)⟩]
def M0G:SS:=[mV 15 1,lN 16 15,o 17 (.mv (i 0))]
def U0L:SS:=[o 18 (.bin 0 .lss (t 17) (t 16))]
def M0H:SS:=[mV 19 17,iA 20 5 15 17,lA 21 5 20,o 9 (.alloc a0Z [.int .i64 0,.bool false,.slice none 0 0,.bool false,.slice none 0 0]),mV 8 19,⟨none,none,.store 5 (t 9) (t 21)⟩]
def F0p:SS:=[fA 22 0 9,lD 23 22,o 24 (.bin 0 .neq (t 23) (i 0))]
def M0I:SS:=[mV 25 2,o 26 (.mk a0b 64 [.bool false,.slice none 0 0,.bool false,.slice none 0 0] (i 0) (t 25)),mV 10 26]
def M0J:SS:=[fA 27 0 3,lD 28 27,mV 29 8,iA 30 1 28 29,lD 31 30,lN 32 31,o 33 (.mv (i 0))]
def U0M:SS:=[o 34 (.bin 0 .lss (t 33) (t 32))]
def M0K:SS:=[iA 35 4 31 33,lA 36 4 35,o 12 (.alloc a0b [.bool false,.slice none 0 0,.bool false,.slice none 0 0]),⟨none,none,.store 4 (t 12) (t 36)⟩]
def F0k:SS:=[mV 37 10,lA 38 4 12,o 39 (.build [.bool false,.slice none 0 0,.bool false,.slice none 0 0] []),o 40 (.call r0U [t 38,t 39] true),o 41 (.lit a0b [.bool false,.slice none 0 0,.bool false,.slice none 0 0] 1 [(0,4,t 40)]),o 42 (.app a0b 4 64 (t 37) (t 41)),mV 10 42]
def R0a:SS:=[o 43 (.bin 0 .add (t 33) (i 1)),mV 33 43]
def F0l:SS:=[mV 44 10,lN 45 44,mV 46 2,o 47 (.bin 0 .lss (t 45) (t 46))]
def F0m:SS:=[mV 48 10,o 49 (.call u0A [i 0] true),o 50 (.lit a0b [.bool false,.slice none 0 0,.bool false,.slice none 0 0] 1 [(0,4,t 49)]),o 51 (.app a0b 4 64 (t 48) (t 50)),mV 10 51]
def F0n:SS:=[fA 52 1 7,lD 53 52,mV 54 10,o 55 (.lit a0C [.slice none 0 0] 1 [(0,1,t 54)]),o 56 (.app a0C 1 24 (t 53) (t 55)),fA 57 2 7,lD 58 57,fA 59 1 9,lA 60 4 59,o 61 (.build [.bool false,.slice none 0 0,.bool false,.slice none 0 0] []),o 62 (.call r0U [t 60,t 61] false),o 63 (.lit a0b [.bool false,.slice none 0 0,.bool false,.slice none 0 0] 1 [(0,4,t 62)]),o 64 (.app a0b 4 64 (t 58) (t 63)),fA 65 1 7,⟨none,none,.store 1 (t 65) (t 56)⟩,fA 66 2 7,⟨none,none,.store 1 (t 66) (t 64)⟩]
def R0b:SS:=[o 67 (.bin 0 .add (t 17) (i 1)),mV 17 67]
def F0o:SS:=[lA 68 4 7,⟨none,none,.store 4 (t 6) (t 68)⟩]
def W0O:SF:=⟨3,69,[.cell 6 true 4],
 (qS (gR M0E) (qS (gR M0F) (qS (qS (gR M0G) (.block 0 (.loop (qS (gR U0L) (qS (.cond (t 18) .skip (.exit 0)) (qS (.block 1 (qS (gR M0H) (qS (qS (gR F0p) (.cond (t 24) (.exit 1) .skip)) (qS (gR M0I) (qS (qS (gR M0J) (.block 2 (.loop (qS (gR U0M) (qS (.cond (t 34) .skip (.exit 2)) (qS (.block 3 (qS (gR M0K) (gR F0k))) (gR R0a))))))) (qS (.block 4 (.loop (qS (qS (gR F0l) (.cond (t 47) .skip (.exit 4))) (.block 5 (gR F0m))))) (.draw F0n [0,1,0,4,15,0,32,0,128,0,927,1951,4095,127,16383,32767,65535] [(4,6),(4,8)]))))))) (gR R0b))))))) (qS (gR F0o) .ret))))⟩
def M0L:SS:=[mV 9 1,lN 10 9,o 11 (.mv (i 0))]
def U0N:SS:=[o 12 (.bin 0 .lss (t 11) (t 10))]
def M0M:SS:=[iA 13 4 9 11,lA 14 4 13,o 5 (.alloc f0k [.slice none 0 0,.slice none 0 0,.bool false,.slice none 0 0]),⟨none,none,.store 4 (t 5) (t 14)⟩]
def M0N:SS:=[o 6 (.mv (.const (.slice none 0 0)))]
def M0O:SS:=[fA 15 0 5,lD 16 15,fA 17 1 5,lD 18 17,o 19 (.lit b0b [.slice none 0 0] 2 [(0,1,t 16),(1,1,t 18)]),o 20 (.call S0c [t 19] true),lN 21 20,o 22 (.mv (i 0))]
def U0O:SS:=[o 23 (.bin 0 .lss (t 22) (t 21))]
def M0P:SS:=[iA 24 2 20 22,lA 25 2 24,o 8 (.alloc a0a [.bool false,.slice none 0 0]),⟨none,none,.store 2 (t 8) (t 25)⟩]
def M0Q:SS:=[mV 26 6,lA 27 2 8,o 28 (.call J0O [t 27] true),o 29 (.lit a0b [.bool false,.slice none 0 0,.bool false,.slice none 0 0] 1 [(0,4,t 28)]),o 30 (.app a0b 4 64 (t 26) (t 29)),mV 6 30]
def U0P:SS:=[o 31 (.bin 0 .add (t 22) (i 1)),mV 22 31]
def M0R:SS:=[mV 32 0,mV 33 0,mV 34 0,cK 35 34,fA 36 1 35,lD 37 36,mV 38 6,o 39 (.lit a0C [.slice none 0 0] 1 [(0,1,t 38)]),o 40 (.app a0C 1 24 (t 37) (t 39)),mV 41 0,cK 42 41,fA 43 2 42,lD 44 43,fA 45 2 5,lA 46 2 45,o 47 (.call H0n [t 46] false),o 48 (.call J0O [t 47] false),o 49 (.lit a0b [.bool false,.slice none 0 0,.bool false,.slice none 0 0] 1 [(0,4,t 48)]),o 50 (.app a0b 4 64 (t 44) (t 49)),cK 51 32,fA 52 1 51,⟨none,none,.store 1 (t 52) (t 40)⟩,cK 53 33,fA 54 2 53,⟨none,none,.store 1 (t 54) (t 50)⟩]
def R0c:SS:=[o 55 (.bin 0 .add (t 11) (i 1)),mV 11 55]
def W0P:SF:=⟨2,56,[],
 (qS (gR M0L) (.block 0 (.loop (qS (gR U0N) (qS (.cond (t 12) .skip (.exit 0)) (qS (.block 1 (qS (gR M0M) (qS (gR M0N) (qS (qS (gR M0O) (.block 2 (.loop (qS (gR U0O) (qS (.cond (t 23) .skip (.exit 2)) (qS (.block 3 (qS (gR M0P) (gR M0Q))) (gR U0P))))))) (.draw M0R [0,0,0,4,12,28,0,64,252,0,512,1536,3584,0,8192,25084,57852,123388,262140,524285,1048573,2097149,4194303,8388607,16777215] [(8,12),(8,14)]))))) (gR R0c)))))))⟩
def M0S:SS:=[o 3 (.box a0y (t 0)),o 4 (.box b0B (t 1)),o 6 (.mv (.const (.slice none 0 0))),o 7 (.alloc a0b [.bool false,.slice none 0 0,.bool false,.slice none 0 0])]
def M0T:SS:=[fA 17 4 4,lD 18 17,lN 19 18,mV 8 19]
def M0U:SS:=[mV 20 8,fA 21 2 4,lD 22 21,o 23 (.bin 0 .add (t 20) (t 22)),o 24 (.mk a0b 64 [.bool false,.slice none 0 0,.bool false,.slice none 0 0] (t 23) (t 23)),mV 9 24]
def M0V:SS:=[mV 25 9,lN 26 25,o 27 (.mv (i 0))]
def U0Q:SS:=[o 28 (.bin 0 .lss (t 27) (t 26))]
def M0W:SS:=[mV 29 27,mV 10 29]
def M0X:SS:=[mV 30 9,mV 31 10,o 32 (.call u0A [i 0] true),iA 33 4 30 31,⟨none,none,.store 4 (t 33) (t 32)⟩]
def U0R:SS:=[o 34 (.bin 0 .add (t 27) (i 1)),mV 27 34]
def M0Y:SS:=[o 35 (.call u0A [i 0] true),o 11 (.alloc a0b [.bool false,.slice none 0 0,.bool false,.slice none 0 0]),⟨none,none,.store 4 (t 11) (t 35)⟩]
def M0Z:SS:=[fA 36 4 4,lD 37 36,lN 38 37,o 39 (.mv (i 0))]
def R0d:SS:=[o 40 (.bin 0 .lss (t 39) (t 38))]
def F0q:SS:=[mV 41 39,iA 42 4 37 39,lA 43 4 42,o 13 (.alloc f0k [.slice none 0 0,.slice none 0 0,.bool false,.slice none 0 0]),mV 12 41,⟨none,none,.store 4 (t 13) (t 43)⟩]
def F0r:SS:=[fA 44 0 3,lD 45 44,mV 46 2,iA 47 1 45 46,lD 48 47,mV 49 12,iA 50 4 48 49,lA 51 4 50,o 14 (.alloc a0b [.bool false,.slice none 0 0,.bool false,.slice none 0 0]),⟨none,none,.store 4 (t 14) (t 51)⟩]
def F0s:SS:=[fA 52 0 13,lD 53 52,fA 54 1 13,lD 55 54,o 56 (.lit b0b [.slice none 0 0] 2 [(0,1,t 53),(1,1,t 55)]),o 57 (.call S0c [t 56] true),lN 58 57,o 59 (.mv (i 0))]
def R0e:SS:=[o 60 (.bin 0 .lss (t 59) (t 58))]
def F0t:SS:=[mV 61 59,iA 62 2 57 59,lA 63 2 62,o 16 (.alloc a0a [.bool false,.slice none 0 0]),mV 15 61,⟨none,none,.store 2 (t 16) (t 63)⟩]
def F0u:SS:=[mV 64 9,mV 65 15,mV 66 9,mV 67 15,iA 68 4 66 67,lA 69 4 68,lA 70 4 14,lA 71 2 16,o 72 (.call J0O [t 71] false),o 73 (.call J0P [t 70,t 72] false),o 74 (.call r0U [t 69,t 73] true),iA 75 4 64 65,⟨none,none,.store 4 (t 75) (t 74)⟩]
def R0f:SS:=[o 76 (.bin 0 .add (t 59) (i 1)),mV 59 76]
def F0v:SS:=[lA 77 4 11,lA 78 4 14,fA 79 2 13,lA 80 2 79,o 81 (.call J0O [t 80] false),o 82 (.call J0P [t 78,t 81] false),o 83 (.call r0U [t 77,t 82] true),⟨none,none,.store 4 (t 11) (t 83)⟩]
def R0g:SS:=[o 84 (.bin 0 .add (t 39) (i 1)),mV 39 84]
def F0w:SS:=[mV 85 9,lA 86 4 11,mV 6 85,⟨none,none,.store 4 (t 7) (t 86)⟩]
def W0Q:SF:=⟨3,87,[.tmp 6,.cell 7 true 4],
 (qS (gR M0S) (qS (gR M0T) (qS (gR M0U) (qS (qS (gR M0V) (.block 0 (.loop (qS (gR U0Q) (qS (.cond (t 28) .skip (.exit 0)) (qS (.block 1 (qS (gR M0W) (gR M0X))) (gR U0R))))))) (qS (gR M0Y) (qS (qS (gR M0Z) (.block 2 (.loop (qS (gR R0d) (qS (.cond (t 40) .skip (.exit 2)) (qS (.block 3 (qS (gR F0q) (qS (gR F0r) (qS (qS (gR F0s) (.block 4 (.loop (qS (gR R0e) (qS (.cond (t 60) .skip (.exit 4)) (qS (.block 5 (qS (gR F0t) (.draw F0u [0,0,0,0,12,28,0,0,128,448,1020,2047,4095] []))) (gR R0f))))))) (.draw F0v [0,0,0,4,12,30,63,127] []))))) (gR R0g))))))) (qS (.draw F0w [0,0,1,7] []) .ret)))))))⟩
def N0a:SS:=[o 1 (.box b0G (t 0)),o 2 (.mv (.const (.bool false)))]
def l0U:SS:=[fA 3 0 1,lD 4 3,o 5 (.bin 0 .lss (t 4) (i 0)),mV 6 5,og 7 6 false (.fa 0 (t 1)),og 8 6 false (.load false 1 (t 7)),og 9 6 false (.bin 0 .gtr (t 8) (i 60)),o 10 (.pick (t 6) (.const (.bool true)) (t 9)),mV 11 10,og 12 11 false (.fa 1 (t 1)),og 13 11 false (.load false 1 (t 12)),og 14 11 false (.len (t 13)),og 15 11 false (.bin 0 .gtr (t 14) (i 60)),o 16 (.pick (t 11) (.const (.bool true)) (t 15)),mV 17 16,og 18 17 false (.fa 2 (t 1)),og 19 17 false (.load false 1 (t 18)),og 20 17 false (.len (t 19)),og 21 17 false (.fa 1 (t 1)),og 22 17 false (.load false 1 (t 21)),og 23 17 false (.len (t 22)),og 24 17 false (.bin 0 .neq (t 20) (t 23)),o 25 (.pick (t 17) (.const (.bool true)) (t 24)),mV 26 25,og 27 26 false (.fa 3 (t 1)),og 28 26 false (.load false 1 (t 27)),og 29 26 false (.len (t 28)),og 30 26 false (.fa 0 (t 1)),og 31 26 false (.load false 1 (t 30)),og 32 26 false (.bin 0 .neq (t 29) (t 31)),o 33 (.pick (t 26) (.const (.bool true)) (t 32))]
def o0a:SS:=[o 2 (.mv (.const (.bool false)))]
def N0b:SS:=[fA 34 1 1,lD 35 34,o 36 (.mkfn (.func T0S) [] [t 1]),o 37 (.call T0R [t 35,t 36] true),o 38 (.un .not (t 37)),mV 2 38]
def W0R:SF:=⟨1,39,[.tmp 2],
 (qS (gR N0a) (qS (qS (gR l0U) (.cond (t 33) (qS (gR o0a) .ret) .skip)) (qS (gR N0b) .ret)))⟩
def N0c:SS:=[o 1 (.box b0G (t 0)),o 2 (.alloc b0H [.int .i64 0,.bool false,.slice none 0 0,.bool false,.slice none 0 0,.slice none 0 0,.slice none 0 0,.slice none 0 0]),o 3 (.mv (i 0))]
def N0d:SS:=[lA 8 4 1,o 9 (.call T0T [t 8] true),o 4 (.alloc a0G [.int .i64 0,.slice none 0 0,.slice none 0 0,.slice none 0 0,.bool false,.slice none 0 0,.bool false,.slice none 0 0]),⟨none,none,.store 8 (t 4) (t 9)⟩]
def N0e:SS:=[lA 11 4 1,lA 12 8 4,o 13 (.call H0o [t 11,t 12] true),mV 10 13,o 14 (.ext (t 10) 0),o 15 (.ext (t 10) 1),o 16 (.ext (t 10) 2),o 5 (.alloc b0H [.int .i64 0,.bool false,.slice none 0 0,.bool false,.slice none 0 0,.slice none 0 0,.slice none 0 0,.slice none 0 0]),⟨none,none,.store 8 (t 5) (t 14)⟩,mV 6 15,mV 7 16]
def F0x:SS:=[mV 17 7]
def N0f:SS:=[lA 18 8 5,mV 19 6,⟨none,none,.store 8 (t 2) (t 18)⟩,mV 3 19]
def N0g:SS:=[o 20 (.build [] []),lA 21 4 1,lA 22 8 4,o 23 (.call V0Y [t 20,t 21,t 22] true),o 24 (.ext (t 23) 0),o 25 (.ext (t 23) 1),⟨none,none,.store 8 (t 2) (t 24)⟩,mV 3 25]
def W0S:SF:=⟨1,26,[.cell 2 true 8,.tmp 3],
 (qS (gR N0c) (qS (gR N0d) (qS (qS (gR N0e) (qS (gR F0x) (.cond (t 17) (qS (gR N0f) .ret) .skip))) (qS (gR N0g) .ret))))⟩
def N0h:SS:=[o 1 (.box a0Z (t 0)),o 2 (.alloc a0Z [.int .i64 0,.bool false,.slice none 0 0,.bool false,.slice none 0 0])]
def N0i:SS:=[lA 4 5 1,o 5 (.call S0b [t 4] true),o 6 (.un .not (t 5)),mV 3 6]
def N0j:SS:=[o 7 (.build [.bool false,.slice none 0 0,.bool false,.slice none 0 0] []),o 8 (.call J0N [t 7] true),⟨none,none,.store 5 (t 2) (t 8)⟩]
def F0y:SS:=[fA 10 0 1,lD 11 10,o 12 (.bin 0 .eql (t 11) (i 0)),mV 9 12]
def N0k:SS:=[fA 13 1 1,lA 14 4 13,o 15 (.call J0N [t 14] true),⟨none,none,.store 5 (t 2) (t 15)⟩]
def N0l:SS:=[fA 16 0 1,lD 17 16,o 18 (.build [.int .i64 0,.bool false,.slice none 0 0,.bool false,.slice none 0 0] [(0,1,t 17)]),⟨none,none,.store 5 (t 2) (t 18)⟩]
def W0T:SF:=⟨1,19,[.cell 2 true 5],
 (qS (gR N0h) (qS (.block 0 (qS (gR N0i) (.cond (t 3) (qS (gR N0j) .ret) (qS (gR F0y) (.cond (t 9) (qS (gR N0k) .ret) .skip))))) (qS (gR N0l) .ret)))⟩
def N0m:SS:=[o 2 (.box a0b (t 0)),o 3 (.box a0b (t 1)),o 4 (.alloc a0b [.bool false,.slice none 0 0,.bool false,.slice none 0 0])]
def N0n:SS:=[lA 5 4 2,o 6 (.call y0U [t 5] false),lA 7 4 3,o 8 (.call y0U [t 7] true),⟨none,none,.store 4 (t 2) (t 6)⟩,⟨none,none,.store 4 (t 3) (t 8)⟩]
def N0o:SS:=[fA 9 0 2,lA 10 2 9,fA 11 2 3,lA 12 2 11,o 13 (.call q0N [t 10,t 12] false),fA 14 0 3,lA 15 2 14,fA 16 2 2,lA 17 2 16,o 18 (.call q0N [t 15,t 17] false),o 19 (.lit a0a [.bool false,.slice none 0 0] 1 [(0,2,t 18)]),o 20 (.call T0U [.fn y0V,t 13,t 19] false),fA 21 2 2,lA 22 2 21,fA 23 2 3,lA 24 2 23,o 25 (.call q0N [t 22,t 24] true),o 26 (.call S0d [t 20,t 25] true),⟨none,none,.store 4 (t 4) (t 26)⟩]
def W0U:SF:=⟨2,27,[.cell 4 true 4],
 (qS (gR N0m) (qS (.draw N0n [0,1,0,7,15,31] []) (qS (.draw N0o [0,1,0,4,15,0,32,0,128,511,1023,2047,0,4096,0,16384,65535,131071,262143] []) .ret)))⟩
def N0p:SS:=[o 2 (.mv (.const (.slice none 0 0)))]
def N0q:SS:=[mV 4 0,lN 5 4,mV 3 5]
def F0z:SS:=[mV 6 3,o 7 (.bin 0 .gtr (t 6) (i 0)),mV 8 7,og 9 8 true (.mv (t 0)),og 10 8 true (.mv (t 3)),og 11 8 true (.bin 0 .sub (t 10) (i 1)),og 12 8 true (.ia 1 (t 9) (t 11)),og 13 8 true (.load false 1 (t 12)),og 14 8 true (.bin 0 .eql (t 13) (.const (.int .u32 0))),o 15 (.pick (t 8) (t 14) (.const (.bool false)))]
def N0r:SS:=[mV 16 3,o 17 (.bin 0 .sub (t 16) (i 1)),mV 3 17]
def N0s:SS:=[mV 18 0,mV 19 3,o 20 (.sl a0l 1 (t 18) none (some (t 19)) none),mV 2 20]
def W0V:SF:=⟨1,21,[.tmp 2],
 (qS (gR N0p) (qS (gR N0q) (qS (.block 0 (.loop (qS (qS (gR F0z) (.cond (t 15) .skip (.exit 0))) (.block 1 (gR N0r))))) (qS (gR N0s) .ret))))⟩
def N0t:SS:=[o 2 (.box a0y (t 0)),o 4 (.mv (.const (.bool false)))]
def r0E:SS:=[mV 9 1,o 10 (.bin 0 .lss (t 9) (i 0)),mV 11 10,og 12 11 false (.mv (t 1)),og 13 11 false (.bin 0 .gtr (t 12) (i 6)),o 14 (.pick (t 11) (.const (.bool true)) (t 13)),mV 15 14,og 16 15 false (.fa 0 (t 2)),og 17 15 false (.load false 1 (t 16)),og 18 15 false (.len (t 17)),og 19 15 false (.bin 0 .gtr (t 18) (i 40)),o 20 (.pick (t 15) (.const (.bool true)) (t 19))]
def v0V:SS:=[o 4 (.mv (.const (.bool false)))]
def N0u:SS:=[fA 21 0 2,lD 22 21,lN 23 22,o 24 (.mv (i 0))]
def U0S:SS:=[o 25 (.bin 0 .lss (t 24) (t 23))]
def F0E:SS:=[iA 26 1 22 24,lD 27 26,mV 6 27]
def F0F:SS:=[mV 28 6,lN 29 28,mV 30 1,o 31 (.bin 0 .neq (t 29) (t 30))]
def N0v:SS:=[o 4 (.mv (.const (.bool false)))]
def N0w:SS:=[mV 32 6,lN 33 32,o 34 (.mv (i 0))]
def U0T:SS:=[o 35 (.bin 0 .lss (t 34) (t 33))]
def F0A:SS:=[iA 36 4 32 34,lA 37 4 36,o 8 (.alloc a0b [.bool false,.slice none 0 0,.bool false,.slice none 0 0]),⟨none,none,.store 4 (t 8) (t 37)⟩]
def F0B:SS:=[lA 38 4 8,o 39 (.call s0q [t 38] true),o 40 (.un .not (t 39))]
def F0C:SS:=[o 4 (.mv (.const (.bool false)))]
def R0h:SS:=[o 41 (.bin 0 .add (t 34) (i 1)),mV 34 41]
def R0i:SS:=[o 42 (.bin 0 .add (t 24) (i 1)),mV 24 42]
def F0D:SS:=[o 4 (.mv (.const (.bool true)))]
def W0W:SF:=⟨2,43,[.tmp 4],
 (qS (gR N0t) (qS (qS (gR r0E) (.cond (t 20) (qS (gR v0V) .ret) .skip)) (qS (qS (gR N0u) (.block 0 (.loop (qS (gR U0S) (qS (.cond (t 25) .skip (.exit 0)) (qS (.block 1 (qS (gR F0E) (qS (qS (gR F0F) (.cond (t 31) (qS (gR N0v) .ret) .skip)) (qS (gR N0w) (.block 2 (.loop (qS (gR U0T) (qS (.cond (t 35) .skip (.exit 2)) (qS (.block 3 (qS (gR F0A) (qS (gR F0B) (.cond (t 40) (qS (gR F0C) .ret) .skip)))) (gR R0h)))))))))) (gR R0i))))))) (qS (gR F0D) .ret))))⟩
def N0x:SS:=[o 1 (.box a0Z (t 0)),o 2 (.mv (.const (.bool false)))]
def N0y:SS:=[lA 3 5 1,o 4 (.call S0b [t 3] true),o 5 (.un .not (t 4)),mV 2 5]
def W0X:SF:=⟨1,6,[.tmp 2],
 (qS (gR N0x) (qS (gR N0y) .ret))⟩
def N0z:SS:=[o 1 (.box a0Z (t 0)),o 2 (.mv (.const (.bool false)))]
def N0A:SS:=[fA 3 0 1,lD 4 3]
def N0B:SS:=[o 6 (.bin 0 .eql (t 4) (.const (.int .i64 (-1)))),mV 5 6]
def v0W:SS:=[o 7 (.bin 0 .eql (t 4) (i 1)),mV 5 7]
def F0G:SS:=[fA 8 1 1,lA 9 4 8,o 10 (.call y0D [t 9] true),mV 2 10]
def F0H:SS:=[o 12 (.bin 0 .eql (t 4) (i 0)),mV 11 12]
def N0C:SS:=[fA 13 1 1,lA 14 4 13,o 15 (.call s0q [t 14] true),mV 2 15]
def N0D:SS:=[o 2 (.mv (.const (.bool false)))]
def W0Y:SF:=⟨1,16,[.tmp 2],
 (qS (gR N0z) (qS (qS (gR N0A) (.block 0 (qS (qS (gR N0B) (.cond (t 5) .skip (gR v0W))) (.cond (t 5) (qS (gR F0G) .ret) (qS (gR F0H) (.cond (t 11) (qS (gR N0C) .ret) .skip)))))) (qS (gR N0D) .ret)))⟩
def N0E:SS:=[o 4 (.mv (.const (.bool false)))]
def N0F:SS:=[mV 5 0,mV 6 1,o 7 (.call y0E [t 5,t 6] true),o 8 (.bin 0 .geq (t 7) (i 0)),mV 4 8]
def W0Z:SF:=⟨2,9,[.tmp 4],
 (qS (gR N0E) (qS (gR N0F) .ret))⟩
def N0G:SS:=[o 3 (.box f0k (t 0)),o 4 (.mv (.const (.bool false)))]
def N0H:SS:=[fA 5 0 3,lD 6 5,lN 7 6,lD 8 1,o 9 (.bin 0 .neq (t 7) (t 8)),mV 10 9,og 11 10 false (.fa 1 (t 3)),og 12 10 false (.load false 1 (t 11)),og 13 10 false (.len (t 12)),og 14 10 false (.load false 1 (t 2)),og 15 10 false (.bin 0 .neq (t 13) (t 14)),o 16 (.pick (t 10) (.const (.bool true)) (t 15)),mV 4 16]
def X0a:SF:=⟨3,17,[.tmp 4],
 (qS (gR N0G) (qS (gR N0H) .ret))⟩
def N0I:SS:=[o 4 (.mv (i 0))]
def N0J:SS:=[mV 6 0,lN 7 6,o 8 (.mv (i 0))]
def U0U:SS:=[o 9 (.bin 0 .lss (t 8) (t 7))]
def N0K:SS:=[mV 10 8,mV 5 10]
def N0L:SS:=[mV 11 1,mV 12 0,mV 13 5,iA 14 5 12 13,lA 15 5 14,o 16 (.callv (t 11) [t 15] true)]
def N0M:SS:=[mV 17 5,mV 4 17]
def U0V:SS:=[o 18 (.bin 0 .add (t 8) (i 1)),mV 8 18]
def N0N:SS:=[o 4 (.mv (.const (.int .i64 (-1))))]
def X0b:SF:=⟨2,19,[.tmp 4],
 (qS (gR N0I) (qS (qS (gR N0J) (.block 0 (.loop (qS (gR U0U) (qS (.cond (t 9) .skip (.exit 0)) (qS (.block 1 (qS (gR N0K) (qS (gR N0L) (.cond (t 16) (qS (gR N0M) .ret) .skip)))) (gR U0V))))))) (qS (gR N0N) .ret)))⟩
def N0O:SS:=[o 2 (.alloc a0b [.bool false,.slice none 0 0,.bool false,.slice none 0 0])]
def N0P:SS:=[mV 3 0,o 4 (.call j0b [t 3] true),o 5 (.call s0r [] true),o 6 (.build [.bool false,.slice none 0 0,.bool false,.slice none 0 0] [(0,2,t 4),(2,2,t 5)]),⟨none,none,.store 4 (t 2) (t 6)⟩]
def X0c:SF:=⟨1,7,[.cell 2 true 4],
 (qS (gR N0O) (qS (gR N0P) .ret))⟩
def N0Q:SS:=[o 2 (.mv (.const (.slice none 0 0)))]
def N0R:SS:=[o 3 (.mv (i 0))]
def N0S:SS:=[mV 9 0,lN 10 9,o 11 (.mv (i 0))]
def U0W:SS:=[o 12 (.bin 0 .lss (t 11) (t 10))]
def N0T:SS:=[iA 13 1 9 11,lD 14 13,mV 5 14]
def N0U:SS:=[mV 15 3,mV 16 5,lN 17 16,o 18 (.bin 0 .add (t 15) (t 17)),mV 3 18]
def N0V:SS:=[mV 19 3,o 20 (.bin 0 .lss (t 19) (i 0))]
def U0X:SS:=[o 21 (.iface u0i (.const (.string ⟨#[108,101,110,32,111,117,116,32,111,102,32,114,97,110,103,101]⟩))),⟨none,none,.pan (t 21)⟩]
def U0Y:SS:=[o 22 (.bin 0 .add (t 11) (i 1)),mV 11 22]
def N0W:SS:=[mV 23 3,o 24 (.call y0F [(.const (.slice none 0 0)),t 23] true),mV 6 24]
def F0I:SS:=[mV 25 0,lN 26 25,o 27 (.mv (i 0))]
def R0j:SS:=[o 28 (.bin 0 .lss (t 27) (t 26))]
def F0J:SS:=[iA 29 1 25 27,lD 30 29,mV 8 30]
def F0K:SS:=[mV 31 6,mV 32 8,o 33 (.app a0a 2 32 (t 31) (t 32)),mV 6 33]
def R0k:SS:=[o 34 (.bin 0 .add (t 27) (i 1)),mV 27 34]
def F0L:SS:=[mV 35 6,mV 2 35]
def X0d:SF:=⟨1,36,[.tmp 2],
 (qS (gR N0Q) (qS (gR N0R) (qS (qS (gR N0S) (.block 0 (.loop (qS (gR U0W) (qS (.cond (t 12) .skip (.exit 0)) (qS (.block 1 (qS (gR N0T) (qS (gR N0U) (qS (gR N0V) (.cond (t 20) (gR U0X) .skip))))) (gR U0Y))))))) (qS (gR N0W) (qS (qS (gR F0I) (.block 2 (.loop (qS (gR R0j) (qS (.cond (t 28) .skip (.exit 2)) (qS (.block 3 (qS (gR F0J) (gR F0K))) (gR R0k))))))) (qS (gR F0L) .ret))))))⟩
def N0X:SS:=[o 1 (.box a0a (t 0)),o 2 (.alloc a0b [.bool false,.slice none 0 0,.bool false,.slice none 0 0])]
def N0Y:SS:=[lA 3 2 1,o 4 (.build [.bool false,.slice none 0 0] []),o 5 (.call y0V [t 3,t 4] true),o 6 (.call j0b [i 1] true),o 7 (.build [.bool false,.slice none 0 0,.bool false,.slice none 0 0] [(0,2,t 5),(2,2,t 6)]),⟨none,none,.store 4 (t 2) (t 7)⟩]
def X0e:SF:=⟨1,8,[.cell 2 true 4],
 (qS (gR N0X) (qS (gR N0Y) .ret))⟩
def N0Z:SS:=[o 1 (.box a0a (t 0)),o 2 (.alloc a0a [.bool false,.slice none 0 0])]
def O0a:SS:=[lA 3 2 1,o 4 (.call d0V [t 3] false),o 5 (.un .not (t 4)),lA 6 2 1,o 7 (.call f0D [t 6] true),o 8 (.call g0f [t 5,t 7] true),⟨none,none,.store 2 (t 2) (t 8)⟩]
def X0f:SF:=⟨1,9,[.cell 2 true 2],
 (qS (gR N0Z) (qS (.draw O0a [0,1,3,0,11,31,63] []) .ret))⟩
def O0b:SS:=[o 2 (.box a0b (t 0)),o 3 (.box a0b (t 1)),o 4 (.alloc a0b [.bool false,.slice none 0 0,.bool false,.slice none 0 0])]
def O0c:SS:=[lA 5 4 2,o 6 (.call y0U [t 5] false),lA 7 4 3,o 8 (.call y0U [t 7] true),⟨none,none,.store 4 (t 2) (t 6)⟩,⟨none,none,.store 4 (t 3) (t 8)⟩]
def O0d:SS:=[fA 9 0 2,lA 10 2 9,fA 11 0 3,lA 12 2 11,o 13 (.call q0N [t 10,t 12] false),fA 14 2 2,lA 15 2 14,fA 16 2 3,lA 17 2 16,o 18 (.call q0N [t 15,t 17] true),o 19 (.call S0d [t 13,t 18] true),⟨none,none,.store 4 (t 4) (t 19)⟩]
def X0g:SF:=⟨2,20,[.cell 4 true 4],
 (qS (gR O0b) (qS (.draw O0c [0,1,0,7,15,31] []) (qS (.draw O0d [0,1,0,4,15,0,32,0,128,511,1023,2047] []) .ret)))⟩
def O0e:SS:=[o 4 (.mv (.const (.bool false)))]
def O0f:SS:=[mV 5 0,mV 6 1,o 7 (.call y0G [t 5,t 6] true),o 8 (.bin 0 .geq (t 7) (i 0)),mV 4 8]
def X0h:SF:=⟨2,9,[.tmp 4],
 (qS (gR O0e) (qS (gR O0f) .ret))⟩
def O0g:SS:=[o 3 (.mv (.const (.bool false)))]
def O0h:SS:=[mV 4 0,lN 5 4,fA 6 0 1,lD 7 6,o 8 (.bin 0 .neq (t 5) (t 7)),mV 3 8]
def X0i:SF:=⟨2,9,[.tmp 3],
 (qS (gR O0g) (qS (gR O0h) .ret))⟩
def O0i:SS:=[o 1 (.box b0G (t 0)),o 2 (.alloc a0G [.int .i64 0,.slice none 0 0,.slice none 0 0,.slice none 0 0,.bool false,.slice none 0 0,.bool false,.slice none 0 0])]
def O0j:SS:=[fA 8 0 1,lD 9 8,o 10 (.build [.int .i64 0,.slice none 0 0,.slice none 0 0,.slice none 0 0,.bool false,.slice none 0 0,.bool false,.slice none 0 0] [(0,1,t 9)]),o 3 (.alloc a0G [.int .i64 0,.slice none 0 0,.slice none 0 0,.slice none 0 0,.bool false,.slice none 0 0,.bool false,.slice none 0 0]),⟨none,none,.store 8 (t 3) (t 10)⟩]
def O0k:SS:=[fA 11 1 1,lD 12 11,lN 13 12,o 14 (.mv (i 0))]
def V0b:SS:=[o 15 (.bin 0 .lss (t 14) (t 13))]
def O0l:SS:=[mV 16 14,iA 17 1 12 14,lD 18 17,mV 4 16,mV 5 18]
def O0m:SS:=[mV 20 5,o 21 (.call w0C [t 20] false),fA 22 2 1,lD 23 22,mV 24 4,iA 25 4 23 24,lA 26 4 25,o 27 (.build [.bool false,.slice none 0 0,.bool false,.slice none 0 0] []),o 28 (.call r0U [t 26,t 27] false),o 29 (.lit a0b [.bool false,.slice none 0 0,.bool false,.slice none 0 0] 1 [(0,4,t 28)]),o 30 (.app a0b 4 64 (t 21) (t 29)),o 31 (.call w0B [t 30] false),mV 19 31,o 32 (.ext (t 19) 0),o 33 (.ext (t 19) 1),o 7 (.alloc a0b [.bool false,.slice none 0 0,.bool false,.slice none 0 0]),mV 6 32,⟨none,none,.store 4 (t 7) (t 33)⟩]
def O0n:SS:=[fA 34 1 3,lD 35 34,mV 36 6,o 37 (.lit b0b [.slice none 0 0] 1 [(0,1,t 36)]),o 38 (.app b0b 1 24 (t 35) (t 37)),fA 39 2 3,lD 40 39,lA 41 4 7,o 42 (.lit a0b [.bool false,.slice none 0 0,.bool false,.slice none 0 0] 1 [(0,4,t 41)]),o 43 (.app a0b 4 64 (t 40) (t 42)),fA 44 1 3,⟨none,none,.store 1 (t 44) (t 38)⟩,fA 45 2 3,⟨none,none,.store 1 (t 45) (t 43)⟩]
def V0c:SS:=[o 46 (.bin 0 .add (t 14) (i 1)),mV 14 46]
def O0o:SS:=[fA 48 3 1,lD 49 48,o 50 (.call w0C [t 49] true),o 51 (.call w0B [t 50] true),mV 47 51,o 52 (.ext (t 47) 0),o 53 (.ext (t 47) 1),fA 54 3 3,⟨none,none,.store 1 (t 54) (t 52)⟩,fA 55 4 3,⟨none,none,.store 4 (t 55) (t 53)⟩]
def O0p:SS:=[lA 56 8 3,⟨none,none,.store 8 (t 2) (t 56)⟩]
def X0j:SF:=⟨1,57,[.cell 2 true 8],
 (qS (gR O0i) (qS (gR O0j) (qS (qS (gR O0k) (.block 0 (.loop (qS (gR V0b) (qS (.cond (t 15) .skip (.exit 0)) (qS (.block 1 (qS (gR O0l) (qS (.draw O0m [0,1,0,4,0,28,60,0,255,511,1023,2047,4095,8191,8191,0,49151,131071] [(10,15)]) (.draw O0n [0,1,0,4,15,0,32,0,128,511,127,2047,4095,8191] [(4,6),(4,7),(4,8)])))) (gR V0c))))))) (qS (gR O0o) (qS (gR O0p) .ret)))))⟩
def O0q:SS:=[o 1 (.box a0b (t 0)),o 2 (.alloc a0b [.bool false,.slice none 0 0,.bool false,.slice none 0 0])]
def O0r:SS:=[lA 3 4 1,o 4 (.call w0D [t 3] true),mV 5 4,og 6 5 false (.load true 4 (t 1)),og 7 5 false (.call s0q [t 6] true),og 8 5 false (.un .not (t 7)),o 9 (.pick (t 5) (.const (.bool true)) (t 8))]
def F0M:SS:=[o 10 (.call s0r [] true),o 11 (.build [.bool false,.slice none 0 0,.bool false,.slice none 0 0] [(2,2,t 10)]),⟨none,none,.store 4 (t 2) (t 11)⟩]
def O0s:SS:=[fA 12 0 1,lA 13 2 12,o 14 (.build [.bool false,.slice none 0 0] []),o 15 (.call y0V [t 13,t 14] false),fA 16 2 1,lA 17 2 16,o 18 (.build [.bool false,.slice none 0 0] []),o 19 (.call y0V [t 17,t 18] true),o 20 (.build [.bool false,.slice none 0 0,.bool false,.slice none 0 0] [(0,2,t 15),(2,2,t 19)]),⟨none,none,.store 4 (t 2) (t 20)⟩]
def X0k:SF:=⟨1,21,[.cell 2 true 4],
 (qS (gR O0q) (qS (qS (gR O0r) (.cond (t 9) (qS (gR F0M) .ret) .skip)) (qS (.draw O0s [0,1,0,7,0,16,0,127,255,511] []) .ret)))⟩
def O0t:SS:=[o 2 (.box a0a (t 0)),o 3 (.box a0a (t 1)),o 4 (.alloc a0b [.bool false,.slice none 0 0,.bool false,.slice none 0 0])]
def O0u:SS:=[lA 8 2 2,lA 9 2 3,o 10 (.call o0C [t 8,t 9] true),mV 7 10,o 11 (.ext (t 7) 0),o 12 (.ext (t 7) 1),o 5 (.alloc a0b [.bool false,.slice none 0 0,.bool false,.slice none 0 0]),⟨none,none,.store 4 (t 5) (t 11)⟩,mV 6 12]
def O0v:SS:=[lA 13 4 5,⟨none,none,.store 4 (t 4) (t 13)⟩]
def X0l:SF:=⟨2,14,[.cell 4 true 4],
 (qS (gR O0t) (qS (gR O0u) (qS (gR O0v) .ret)))⟩
def O0w:SS:=[o 4 (.box a0a (t 1)),o 6 (.alloc a0a [.bool false,.slice none 0 0])]
def O0x:SS:=[mV 9 2,lN 10 9,o 11 (.mv (i 0))]
def F0N:SS:=[o 12 (.bin 0 .lss (t 11) (t 10))]
def O0y:SS:=[iA 13 2 9 11,lA 14 2 13,o 8 (.alloc a0a [.bool false,.slice none 0 0]),⟨none,none,.store 2 (t 8) (t 14)⟩]
def O0z:SS:=[mV 15 0,lA 16 2 4,lA 17 2 8,o 18 (.callv (t 15) [t 16,t 17] true),⟨none,none,.store 2 (t 4) (t 18)⟩]
def O0A:SS:=[o 19 (.bin 0 .add (t 11) (i 1)),mV 11 19]
def O0B:SS:=[lA 20 2 4,⟨none,none,.store 2 (t 6) (t 20)⟩]
def X0m:SF:=⟨3,21,[.cell 6 true 2],
 (qS (gR O0w) (qS (qS (gR O0x) (.block 0 (.loop (qS (gR F0N) (qS (.cond (t 12) .skip (.exit 0)) (qS (.block 1 (qS (gR O0y) (gR O0z))) (gR O0A))))))) (qS (gR O0B) .ret)))⟩
def O0C:SS:=[o 2 (.box a0a (t 0)),o 3 (.box a0a (t 1)),o 4 (.alloc a0a [.bool false,.slice none 0 0])]
def O0D:SS:=[lA 7 2 2,o 8 (.call f0D [t 7] false),lA 9 2 3,o 10 (.call f0D [t 9] true),mV 5 8,mV 6 10]
def O0E:SS:=[lA 12 2 2,o 13 (.call d0V [t 12] false),lA 14 2 3,o 15 (.call d0V [t 14] true),o 16 (.bin 1 .eql (t 13) (t 15)),mV 11 16]
def O0F:SS:=[lA 17 2 2,o 18 (.call d0V [t 17] true),mV 19 5,mV 20 6,o 21 (.call y0H [t 19,t 20] true),o 22 (.call g0f [t 18,t 21] true),⟨none,none,.store 2 (t 4) (t 22)⟩]
def O0G:SS:=[mV 24 5,mV 25 6,o 26 (.call q0G [t 24,t 25] true),o 27 (.bin 0 .geq (t 26) (i 0)),mV 23 27]
def O0H:SS:=[lA 28 2 2,o 29 (.call d0V [t 28] true),mV 30 5,mV 31 6,o 32 (.call w0E [t 30,t 31] true),o 33 (.call g0f [t 29,t 32] true),⟨none,none,.store 2 (t 4) (t 33)⟩]
def O0I:SS:=[lA 34 2 3,o 35 (.call d0V [t 34] true),mV 36 6,mV 37 5,o 38 (.call w0E [t 36,t 37] true),o 39 (.call g0f [t 35,t 38] true),⟨none,none,.store 2 (t 4) (t 39)⟩]
def X0n:SF:=⟨2,40,[.cell 4 true 2],
 (qS (gR O0C) (qS (.draw O0D [0,1,0,7,15,31] []) (qS (.block 0 (qS (.draw O0E [0,1,0,7,15,31] []) (.cond (t 11) (qS (gR O0F) .ret) (qS (gR O0G) (.cond (t 23) (qS (gR O0H) .ret) .skip))))) (qS (gR O0I) .ret))))⟩
def O0J:SS:=[o 2 (.box a0a (t 0)),o 3 (.box a0a (t 1)),o 4 (.alloc a0a [.bool false,.slice none 0 0])]
def O0K:SS:=[lA 13 2 2,o 14 (.call f0D [t 13] false),lA 15 2 3,o 16 (.call f0D [t 15] true),mV 5 14,mV 6 16]
def O0L:SS:=[mV 17 5,lN 18 17,mV 19 6,lN 20 19,o 21 (.bin 0 .add (t 18) (t 20)),o 22 (.mk a0l 4 [.int .u32 0] (t 21) (t 21)),mV 7 22]
def O0M:SS:=[mV 23 5,lN 24 23,o 25 (.mv (i 0))]
def F0V:SS:=[o 26 (.bin 0 .lss (t 25) (t 24))]
def O0N:SS:=[mV 27 25,iA 28 1 23 25,lD 29 28,mV 8 27,mV 9 29]
def O0O:SS:=[o 10 (.mv (.const (.int .u64 0)))]
def O0P:SS:=[mV 30 6,lN 31 30,o 32 (.mv (i 0))]
def F0W:SS:=[o 33 (.bin 0 .lss (t 32) (t 31))]
def O0Q:SS:=[mV 34 32,iA 35 1 30 32,lD 36 35,mV 11 34,mV 12 36]
def F0O:SS:=[mV 37 10,mV 38 9,o 39 (.conv .u64 (t 38)),mV 40 12,o 41 (.conv .u64 (t 40)),o 42 (.bin 0 .mul (t 39) (t 41)),mV 43 7,mV 44 8,mV 45 11,o 46 (.bin 0 .add (t 44) (t 45)),iA 47 1 43 46,lD 48 47,o 49 (.conv .u64 (t 48)),o 50 (.bin 0 .add (t 42) (t 49)),o 51 (.bin 0 .add (t 37) (t 50)),mV 10 51]
def F0P:SS:=[mV 52 7,mV 53 8,mV 54 11,o 55 (.bin 0 .add (t 53) (t 54)),mV 56 10,o 57 (.call f0E [t 56] true),iA 58 1 52 55,⟨none,none,.store 1 (t 58) (t 57)⟩]
def F0Q:SS:=[mV 59 10,o 60 (.bin 0 .shr (t 59) (.const (.int .u64 32))),mV 10 60]
def F0R:SS:=[o 61 (.bin 0 .add (t 32) (i 1)),mV 32 61]
def F0S:SS:=[mV 62 7,mV 63 8,mV 64 6,lN 65 64,o 66 (.bin 0 .add (t 63) (t 65)),mV 67 10,o 68 (.call f0E [t 67] true),iA 69 1 62 66,⟨none,none,.store 1 (t 69) (t 68)⟩]
def F0T:SS:=[o 70 (.bin 0 .add (t 25) (i 1)),mV 25 70]
def F0U:SS:=[lA 71 2 2,o 72 (.call d0V [t 71] false),lA 73 2 3,o 74 (.call d0V [t 73] true),o 75 (.bin 1 .neq (t 72) (t 74)),mV 76 7,o 77 (.call g0f [t 75,t 76] true),⟨none,none,.store 2 (t 4) (t 77)⟩]
def X0o:SF:=⟨2,78,[.cell 4 true 2],
 (qS (gR O0J) (qS (.draw O0K [0,1,0,7,15,31] []) (qS (gR O0L) (qS (qS (gR O0M) (.block 0 (.loop (qS (gR F0V) (qS (.cond (t 26) .skip (.exit 0)) (qS (.block 1 (qS (gR O0N) (qS (gR O0O) (qS (qS (gR O0P) (.block 2 (.loop (qS (gR F0W) (qS (.cond (t 33) .skip (.exit 2)) (qS (.block 3 (qS (gR O0Q) (qS (gR F0O) (qS (gR F0P) (gR F0Q))))) (gR F0R))))))) (gR F0S))))) (gR F0T))))))) (qS (.draw F0U [0,1,0,7,15,0,63,127] []) .ret)))))⟩
def A0h:SS:=[o 1 (.box a0b (t 0)),o 2 (.mv (.const (.bool false)))]
def A0i:SS:=[lA 3 4 1,o 4 (.call w0D [t 3] true)]
def A0j:SS:=[o 2 (.mv (.const (.bool true)))]
def A0k:SS:=[fA 5 0 1,lA 6 2 5,o 7 (.call q0H [t 6] true),mV 8 7,og 9 8 true (.fa 2 (t 1)),og 10 8 true (.load true 2 (t 9)),og 11 8 true (.call q0H [t 10] true),o 12 (.pick (t 8) (t 11) (.const (.bool false))),mV 13 12,og 14 13 true (.fa 2 (t 1)),og 15 13 true (.fa 0 (t 14)),og 16 13 true (.load false 1 (t 15)),og 17 13 true (.un .not (t 16)),o 18 (.pick (t 13) (t 17) (.const (.bool false))),mV 19 18,og 20 19 true (.fa 2 (t 1)),og 21 19 true (.load true 2 (t 20)),og 22 19 true (.call w0F [t 21] true),og 23 19 true (.un .not (t 22)),o 24 (.pick (t 19) (t 23) (.const (.bool false))),mV 25 24,og 26 25 true (.fa 0 (t 1)),og 27 25 true (.load true 2 (t 26)),og 28 25 true (.fa 2 (t 1)),og 29 25 true (.load true 2 (t 28)),og 30 25 true (.call q0I [t 27,t 29] true),og 31 25 true (.call s0r [] true),og 32 25 true (.call m0y [t 30,t 31] true),og 33 25 true (.bin 0 .eql (t 32) (i 0)),o 34 (.pick (t 25) (t 33) (.const (.bool false))),mV 2 34]
def I0i:SF:=⟨1,35,[.tmp 2],
 (qS (gR A0h) (qS (qS (gR A0i) (.cond (t 4) (qS (gR A0j) .ret) .skip)) (qS (gR A0k) .ret)))⟩
def A0l:SS:=[o 1 (.box a0b (t 0)),o 2 (.mv (.const (.bool false)))]
def l0S:SS:=[fA 3 0 1,fA 4 0 3,lD 5 4,o 6 (.un .not (t 5)),mV 7 6,og 8 7 true (.fa 0 (t 1)),og 9 7 true (.fa 1 (t 8)),og 10 7 true (.load false 1 (t 9)),og 11 7 true (.len (t 10)),og 12 7 true (.bin 0 .eql (t 11) (i 0)),o 13 (.pick (t 7) (t 12) (.const (.bool false))),mV 14 13,og 15 14 true (.fa 2 (t 1)),og 16 14 true (.fa 0 (t 15)),og 17 14 true (.load false 1 (t 16)),og 18 14 true (.un .not (t 17)),o 19 (.pick (t 14) (t 18) (.const (.bool false))),mV 20 19,og 21 20 true (.fa 2 (t 1)),og 22 20 true (.fa 1 (t 21)),og 23 20 true (.load false 1 (t 22)),og 24 20 true (.len (t 23)),og 25 20 true (.bin 0 .eql (t 24) (i 0)),o 26 (.pick (t 20) (t 25) (.const (.bool false))),mV 2 26]
def I0j:SF:=⟨1,27,[.tmp 2],
 (qS (gR A0l) (qS (gR l0S) .ret))⟩
def A0m:SS:=[o 4 (.mv (i 0))]
def A0n:SS:=[mV 6 0,lN 7 6,o 8 (.mv (i 0))]
def Q0A:SS:=[o 9 (.bin 0 .lss (t 8) (t 7))]
def A0o:SS:=[mV 10 8,mV 5 10]
def A0p:SS:=[mV 11 1,mV 12 0,mV 13 5,iA 14 4 12 13,lA 15 4 14,o 16 (.callv (t 11) [t 15] true)]
def A0q:SS:=[mV 17 5,mV 4 17]
def Q0B:SS:=[o 18 (.bin 0 .add (t 8) (i 1)),mV 8 18]
def A0r:SS:=[o 4 (.mv (.const (.int .i64 (-1))))]
def I0k:SF:=⟨2,19,[.tmp 4],
 (qS (gR A0m) (qS (qS (gR A0n) (.block 0 (.loop (qS (gR Q0A) (qS (.cond (t 9) .skip (.exit 0)) (qS (.block 1 (qS (gR A0o) (qS (gR A0p) (.cond (t 16) (qS (gR A0q) .ret) .skip)))) (gR Q0B))))))) (qS (gR A0r) .ret)))⟩
def A0s:SS:=[o 2 (.alloc a0a [.bool false,.slice none 0 0])]
def A0t:SS:=[mV 4 0,o 5 (.conv .u64 (t 4)),mV 3 5]
def A0u:SS:=[mV 6 0,o 7 (.bin 0 .lss (t 6) (i 0))]
def A0v:SS:=[mV 8 3,o 9 (.un .neg (t 8)),mV 3 9]
def A0w:SS:=[mV 10 0,o 11 (.bin 0 .lss (t 10) (i 0)),mV 12 3,o 13 (.call f0E [t 12] true),mV 14 3,o 15 (.bin 0 .shr (t 14) (.const (.int .u64 32))),o 16 (.call f0E [t 15] true),o 17 (.lit a0l [.int .u32 0] 2 [(0,1,t 13),(1,1,t 16)]),o 18 (.call g0f [t 11,t 17] true),⟨none,none,.store 2 (t 2) (t 18)⟩]
def I0l:SF:=⟨1,19,[.cell 2 true 2],
 (qS (gR A0s) (qS (gR A0t) (qS (qS (gR A0u) (.cond (t 7) (gR A0v) .skip)) (qS (gR A0w) .ret))))⟩
def A0x:SS:=[o 0 (.alloc a0a [.bool false,.slice none 0 0])]
def A0y:SS:=[o 1 (.call j0b [i 1] true),⟨none,none,.store 2 (t 0) (t 1)⟩]
def I0m:SF:=⟨0,2,[.cell 0 true 2],
 (qS (gR A0x) (qS (gR A0y) .ret))⟩
def A0z:SS:=[o 4 (.mv (.const (.slice none 0 0)))]
def A0A:SS:=[mV 5 1,o 6 (.bin 0 .lss (t 5) (i 0))]
def Q0C:SS:=[o 7 (.iface u0i (.const (.string ⟨#[99,97,110,110,111,116,32,98,101,32,110,101,103,97,116,105,118,101]⟩))),⟨none,none,.pan (t 7)⟩]
def A0B:SS:=[mV 8 1,mV 9 0,o 10 (.cap (t 9)),mV 11 0,lN 12 11,o 13 (.bin 0 .sub (t 10) (t 12)),o 14 (.bin 0 .sub (t 8) (t 13)),mV 1 14]
def A0C:SS:=[mV 15 1,o 16 (.bin 0 .gtr (t 15) (i 0))]
def A0D:SS:=[mV 17 0,mV 18 0,o 19 (.cap (t 18)),o 20 (.sl a0a 2 (t 17) none (some (t 19)) none),mV 21 1,o 22 (.appz a0a 32 [.bool false,.slice none 0 0] (t 20) (t 21)),mV 23 0,lN 24 23,o 25 (.sl a0a 2 (t 22) none (some (t 24)) none),mV 0 25]
def s0R:SS:=[mV 26 0,mV 4 26]
def I0n:SF:=⟨2,27,[.tmp 4],
 (qS (gR A0z) (qS (qS (gR A0A) (.cond (t 6) (gR Q0C) .skip)) (qS (qS (gR A0B) (qS (gR A0C) (.cond (t 16) (gR A0D) .skip))) (qS (gR s0R) .ret))))⟩
def A0E:SS:=[o 4 (.alloc a0a [.bool false,.slice none 0 0])]
def A0F:SS:=[mV 6 1,lN 7 6,mV 5 7]
def s0S:SS:=[mV 8 5,o 9 (.bin 0 .gtr (t 8) (i 0)),mV 10 9,og 11 10 true (.mv (t 1)),og 12 10 true (.mv (t 5)),og 13 10 true (.bin 0 .sub (t 12) (i 1)),og 14 10 true (.ia 1 (t 11) (t 13)),og 15 10 true (.load false 1 (t 14)),og 16 10 true (.bin 0 .eql (t 15) (.const (.int .u32 0))),o 17 (.pick (t 10) (t 16) (.const (.bool false)))]
def A0G:SS:=[mV 18 5,o 19 (.bin 0 .sub (t 18) (i 1)),mV 5 19]
def A0H:SS:=[mV 20 5,o 21 (.bin 0 .eql (t 20) (i 0))]
def A0I:SS:=[o 22 (.build [.bool false,.slice none 0 0] []),⟨none,none,.store 2 (t 4) (t 22)⟩]
def A0J:SS:=[mV 23 0,mV 24 1,mV 25 5,o 26 (.sl a0l 1 (t 24) none (some (t 25)) none),o 27 (.call y0I [t 26] true),o 28 (.build [.bool false,.slice none 0 0] [(0,1,t 23),(1,1,t 27)]),⟨none,none,.store 2 (t 4) (t 28)⟩]
def I0o:SF:=⟨2,29,[.cell 4 true 2],
 (qS (gR A0E) (qS (gR A0F) (qS (.block 0 (.loop (qS (qS (gR s0S) (.cond (t 17) .skip (.exit 0))) (.block 1 (gR A0G))))) (qS (qS (gR A0H) (.cond (t 21) (qS (gR A0I) .ret) .skip)) (qS (gR A0J) .ret)))))⟩
def A0K:SS:=[o 1 (.box a0a (t 0)),o 2 (.mv (.const (.bool false)))]
def A0L:SS:=[lA 3 2 1,o 4 (.call q0H [t 3] true),mV 5 4,og 6 5 true (.fa 0 (t 1)),og 7 5 true (.load false 1 (t 6)),o 8 (.pick (t 5) (t 7) (.const (.bool false))),mV 2 8]
def I0p:SF:=⟨1,9,[.tmp 2],
 (qS (gR A0K) (qS (gR A0L) .ret))⟩
def A0M:SS:=[o 1 (.box a0a (t 0)),o 2 (.mv (.const (.slice none 0 0)))]
def A0N:SS:=[lA 3 2 1,o 4 (.call q0H [t 3] true),o 5 (.un .not (t 4))]
def A0O:SS:=[o 2 (.mv (.const (.slice none 0 0)))]
def A0P:SS:=[fA 6 1 1,lD 7 6,mV 2 7]
def I0q:SF:=⟨1,8,[.tmp 2],
 (qS (gR A0M) (qS (qS (gR A0N) (.cond (t 5) (qS (gR A0O) .ret) .skip)) (qS (gR A0P) .ret)))⟩
def A0Q:SS:=[o 4 (.mv (i 0))]
def A0R:SS:=[mV 6 0,lN 7 6,o 8 (.mv (i 0))]
def Q0D:SS:=[o 9 (.bin 0 .lss (t 8) (t 7))]
def A0S:SS:=[mV 10 8,mV 5 10]
def A0T:SS:=[mV 11 1,mV 12 0,mV 13 5,iA 14 1 12 13,lD 15 14,o 16 (.callv (t 11) [t 15] true)]
def A0U:SS:=[mV 17 5,mV 4 17]
def Q0E:SS:=[o 18 (.bin 0 .add (t 8) (i 1)),mV 8 18]
def A0V:SS:=[o 4 (.mv (.const (.int .i64 (-1))))]
def I0r:SF:=⟨2,19,[.tmp 4],
 (qS (gR A0Q) (qS (qS (gR A0R) (.block 0 (.loop (qS (gR Q0D) (qS (.cond (t 9) .skip (.exit 0)) (qS (.block 1 (qS (gR A0S) (qS (gR A0T) (.cond (t 16) (qS (gR A0U) .ret) .skip)))) (gR Q0E))))))) (qS (gR A0V) .ret)))⟩
def A0Y:SS:=[o 2 (.mv (.const (.slice none 0 0))),o 3 (.alloc a0b [.bool false,.slice none 0 0,.bool false,.slice none 0 0])]
def A0Z:SS:=[o 21 (.call j0b [i 1] true),o 4 (.alloc a0a [.bool false,.slice none 0 0]),⟨none,none,.store 2 (t 4) (t 21)⟩]
def B0a:SS:=[mV 22 0,lN 23 22,o 24 (.mv (i 0))]
def Q0F:SS:=[o 25 (.bin 0 .lss (t 24) (t 23))]
def B0b:SS:=[iA 26 4 22 24,lA 27 4 26,o 6 (.alloc a0b [.bool false,.slice none 0 0,.bool false,.slice none 0 0]),⟨none,none,.store 4 (t 6) (t 27)⟩]
def B0c:SS:=[fA 29 2 6,lA 30 2 29,lA 31 2 4,fA 32 2 6,lA 33 2 32,o 34 (.call q0I [t 31,t 33] false),o 35 (.call k0U [t 30,t 34] false),mV 28 35,o 36 (.ext (t 28) 0),o 37 (.ext (t 28) 1),o 38 (.ext (t 28) 2),o 7 (.alloc a0a [.bool false,.slice none 0 0]),o 8 (.alloc a0a [.bool false,.slice none 0 0]),⟨none,none,.store 2 (t 7) (t 36)⟩,⟨none,none,.store 2 (t 8) (t 37)⟩,mV 9 38]
def B0d:SS:=[lA 39 2 4,lA 40 2 7,o 41 (.call q0N [t 39,t 40] true),⟨none,none,.store 2 (t 4) (t 41)⟩]
def Q0G:SS:=[o 42 (.bin 0 .add (t 24) (i 1)),mV 24 42]
def B0e:SS:=[o 10 (.mv (.const (.slice none 0 0)))]
def B0f:SS:=[o 43 (.build [.bool false,.slice none 0 0] []),o 11 (.alloc a0a [.bool false,.slice none 0 0]),⟨none,none,.store 2 (t 11) (t 43)⟩]
def v0p:SS:=[mV 44 0,lN 45 44,o 46 (.mv (i 0))]
def H0U:SS:=[o 47 (.bin 0 .lss (t 46) (t 45))]
def v0q:SS:=[iA 48 4 44 46,lA 49 4 48,o 13 (.alloc a0b [.bool false,.slice none 0 0,.bool false,.slice none 0 0]),⟨none,none,.store 4 (t 13) (t 49)⟩]
def v0r:SS:=[lA 51 2 4,fA 52 2 13,lA 53 2 52,o 54 (.call k0U [t 51,t 53] true),mV 50 54,o 55 (.ext (t 50) 0),o 56 (.ext (t 50) 1),o 57 (.ext (t 50) 2),o 14 (.alloc a0a [.bool false,.slice none 0 0]),o 15 (.alloc a0a [.bool false,.slice none 0 0]),⟨none,none,.store 2 (t 14) (t 55)⟩,⟨none,none,.store 2 (t 15) (t 56)⟩,mV 16 57]
def v0s:SS:=[fA 58 0 13,lA 59 2 58,lA 60 2 14,o 61 (.call q0N [t 59,t 60] true),o 17 (.alloc a0a [.bool false,.slice none 0 0]),⟨none,none,.store 2 (t 17) (t 61)⟩]
def v0t:SS:=[mV 62 10,lA 63 2 17,o 64 (.lit a0a [.bool false,.slice none 0 0] 1 [(0,2,t 63)]),o 65 (.app a0a 2 32 (t 62) (t 64)),mV 10 65]
def v0u:SS:=[lA 66 2 11,lA 67 2 17,o 68 (.call q0I [t 66,t 67] true),⟨none,none,.store 2 (t 11) (t 68)⟩]
def H0V:SS:=[o 69 (.bin 0 .add (t 46) (i 1)),mV 46 69]
def v0v:SS:=[lA 70 2 11,o 71 (.build [.bool false,.slice none 0 0] []),o 72 (.call m0y [t 70,t 71] true),o 73 (.bin 0 .eql (t 72) (i 0))]
def v0w:SS:=[o 74 (.call j0b [i 1] true),⟨none,none,.store 2 (t 11) (t 74)⟩]
def p0p:SS:=[mV 75 10,lN 76 75,o 77 (.mv (i 0))]
def H0W:SS:=[o 78 (.bin 0 .lss (t 77) (t 76))]
def p0q:SS:=[mV 79 77,mV 18 79]
def p0r:SS:=[mV 81 10,mV 82 18,mV 83 10,mV 84 18,iA 85 2 83 84,lA 86 2 85,lA 87 2 11,o 88 (.call k0U [t 86,t 87] true),mV 80 88,o 89 (.ext (t 80) 0),o 90 (.ext (t 80) 1),o 91 (.ext (t 80) 2),iA 92 2 81 82,⟨none,none,.store 2 (t 92) (t 89)⟩]
def H0X:SS:=[o 93 (.bin 0 .add (t 77) (i 1)),mV 77 93]
def p0s:SS:=[lA 95 2 4,lA 96 2 11,o 97 (.call o0C [t 95,t 96] true),mV 94 97,o 98 (.ext (t 94) 0),o 99 (.ext (t 94) 1),o 19 (.alloc a0b [.bool false,.slice none 0 0,.bool false,.slice none 0 0]),⟨none,none,.store 4 (t 19) (t 98)⟩,mV 20 99]
def p0t:SS:=[mV 100 10,lA 101 4 19,mV 2 100,⟨none,none,.store 4 (t 3) (t 101)⟩]
def I0s:SF:=⟨1,102,[.tmp 2,.cell 3 true 4],
 (qS (gR A0Y) (qS (gR A0Z) (qS (qS (gR B0a) (.block 0 (.loop (qS (gR Q0F) (qS (.cond (t 25) .skip (.exit 0)) (qS (.block 1 (qS (gR B0b) (qS (.draw B0c [0,1,0,0,8,28,63,127,255,255,255,0,0,6655,15359,32767] []) (gR B0d)))) (gR Q0G))))))) (qS (gR B0e) (qS (gR B0f) (qS (qS (gR v0p) (.block 2 (.loop (qS (gR H0U) (qS (.cond (t 47) .skip (.exit 2)) (qS (.block 3 (qS (gR v0q) (qS (gR v0r) (qS (gR v0s) (qS (gR v0t) (gR v0u)))))) (gR H0V))))))) (qS (qS (gR v0v) (.cond (t 73) (gR v0w) .skip)) (qS (qS (gR p0p) (.block 4 (.loop (qS (gR H0W) (qS (.cond (t 78) .skip (.exit 4)) (qS (.block 5 (qS (gR p0q) (.draw p0r [0,0,0,0,12,28,0,124,252,508,508,508,1023,5119] []))) (gR H0X))))))) (qS (gR p0s) (qS (.draw p0t [0,0,1,7] []) .ret))))))))))⟩
def B0g:SS:=[o 2 (.mv (.const (.slice none 0 0)))]
def B0h:SS:=[mV 6 0,lN 7 6,o 8 (.bin 0 .add (t 7) (i 1)),o 9 (.mk a0b 64 [.bool false,.slice none 0 0,.bool false,.slice none 0 0] (i 0) (t 8)),mV 3 9]
def B0i:SS:=[mV 10 0,lN 11 10,o 12 (.mv (i 0))]
def Q0H:SS:=[o 13 (.bin 0 .lss (t 12) (t 11))]
def B0j:SS:=[iA 14 4 10 12,lA 15 4 14,o 5 (.alloc a0b [.bool false,.slice none 0 0,.bool false,.slice none 0 0]),⟨none,none,.store 4 (t 5) (t 15)⟩]
def B0k:SS:=[mV 16 3,lA 17 4 5,o 18 (.build [.bool false,.slice none 0 0,.bool false,.slice none 0 0] []),o 19 (.call r0U [t 17,t 18] true),o 20 (.lit a0b [.bool false,.slice none 0 0,.bool false,.slice none 0 0] 1 [(0,4,t 19)]),o 21 (.app a0b 4 64 (t 16) (t 20)),mV 3 21]
def Q0I:SS:=[o 22 (.bin 0 .add (t 12) (i 1)),mV 12 22]
def B0l:SS:=[mV 23 3,mV 2 23]
def I0t:SF:=⟨1,24,[.tmp 2],
 (qS (gR B0g) (qS (gR B0h) (qS (qS (gR B0i) (.block 0 (.loop (qS (gR Q0H) (qS (.cond (t 13) .skip (.exit 0)) (qS (.block 1 (qS (gR B0j) (gR B0k))) (gR Q0I))))))) (qS (gR B0l) .ret))))⟩
def B0p:SS:=[o 1 (.box a0b (t 0)),o 2 (.mv (.const (.bool false)))]
def l0T:SS:=[fA 3 0 1,fA 4 0 3,lD 5 4,o 6 (.un .not (t 5)),mV 7 6,og 8 7 true (.fa 0 (t 1)),og 9 7 true (.fa 1 (t 8)),og 10 7 true (.load false 1 (t 9)),og 11 7 true (.len (t 10)),og 12 7 true (.bin 0 .eql (t 11) (i 0)),o 13 (.pick (t 7) (t 12) (.const (.bool false))),mV 14 13,og 15 14 true (.fa 2 (t 1)),og 16 14 true (.fa 0 (t 15)),og 17 14 true (.load false 1 (t 16)),og 18 14 true (.un .not (t 17)),o 19 (.pick (t 14) (t 18) (.const (.bool false))),mV 20 19,og 21 20 true (.fa 2 (t 1)),og 22 20 true (.fa 1 (t 21)),og 23 20 true (.load false 1 (t 22)),og 24 20 true (.len (t 23)),og 25 20 true (.bin 0 .eql (t 24) (i 0)),o 26 (.pick (t 20) (t 25) (.const (.bool false))),mV 2 26]
def I0u:SF:=⟨1,27,[.tmp 2],
 (qS (gR B0p) (qS (gR l0T) .ret))⟩
def B0q:SS:=[o 2 (.box a0a (t 0)),o 3 (.box a0a (t 1)),o 4 (.alloc a0b [.bool false,.slice none 0 0,.bool false,.slice none 0 0]),o 5 (.mv (i 0))]
def B0r:SS:=[lA 7 2 3,o 8 (.call w0F [t 7] true)]
def Q0K:SS:=[o 9 (.build [.bool false,.slice none 0 0,.bool false,.slice none 0 0] []),⟨none,none,.store 4 (t 4) (t 9)⟩,o 5 (.mv (i 11))]
def B0s:SS:=[lA 10 2 2,lA 11 2 3,o 12 (.call q0I [t 10,t 11] true),o 6 (.alloc a0a [.bool false,.slice none 0 0]),⟨none,none,.store 2 (t 6) (t 12)⟩]
def B0t:SS:=[lA 13 2 3,o 14 (.build [.bool false,.slice none 0 0] []),o 15 (.call m0y [t 13,t 14] true),o 16 (.bin 0 .lss (t 15) (i 0))]
def B0u:SS:=[lA 17 2 6,o 18 (.call H0n [t 17] true),⟨none,none,.store 2 (t 6) (t 18)⟩]
def s0U:SS:=[lA 20 2 2,lA 21 2 6,o 22 (.call k0U [t 20,t 21] true),mV 19 22,o 23 (.ext (t 19) 0),o 24 (.ext (t 19) 1),o 25 (.ext (t 19) 2),⟨none,none,.store 2 (t 2) (t 23)⟩]
def s0V:SS:=[lA 27 2 3,lA 28 2 6,o 29 (.call k0U [t 27,t 28] true),mV 26 29,o 30 (.ext (t 26) 0),o 31 (.ext (t 26) 1),o 32 (.ext (t 26) 2),⟨none,none,.store 2 (t 3) (t 30)⟩]
def s0W:SS:=[lA 33 2 2,lA 34 2 3,o 35 (.build [.bool false,.slice none 0 0,.bool false,.slice none 0 0] [(0,2,t 33),(2,2,t 34)]),⟨none,none,.store 4 (t 4) (t 35)⟩,o 5 (.mv (i 0))]
def I0v:SF:=⟨2,36,[.cell 4 true 4,.tmp 5],
 (qS (gR B0q) (qS (qS (gR B0r) (.cond (t 8) (qS (gR Q0K) .ret) .skip)) (qS (gR B0s) (qS (qS (gR B0t) (.cond (t 16) (gR B0u) .skip)) (qS (gR s0U) (qS (gR s0V) (qS (gR s0W) .ret)))))))⟩
def B0v:SS:=[o 4 (.mv (.const (.slice none 0 0)))]
def B0w:SS:=[mV 9 0,lN 10 9,mV 11 1,lN 12 11,o 13 (.bin 0 .lss (t 10) (t 12))]
def B0x:SS:=[mV 14 1,mV 15 0,mV 0 14,mV 1 15]
def B0y:SS:=[mV 16 0,lN 17 16,o 18 (.bin 0 .add (t 17) (i 1)),o 19 (.mk a0l 4 [.int .u32 0] (i 0) (t 18)),mV 5 19]
def B0z:SS:=[o 6 (.mv (.const (.int .u64 0)))]
def B0A:SS:=[mV 20 0,lN 21 20,o 22 (.mv (i 0))]
def p0z:SS:=[o 23 (.bin 0 .lss (t 22) (t 21))]
def s0X:SS:=[mV 24 22,iA 25 1 20 22,lD 26 25,mV 7 24,mV 8 26]
def s0Y:SS:=[mV 27 6,mV 28 8,o 29 (.conv .u64 (t 28)),o 30 (.bin 0 .add (t 27) (t 29)),mV 6 30]
def s0Z:SS:=[mV 31 7,mV 32 1,lN 33 32,o 34 (.bin 0 .lss (t 31) (t 33))]
def p0v:SS:=[mV 35 6,mV 36 1,mV 37 7,iA 38 1 36 37,lD 39 38,o 40 (.conv .u64 (t 39)),o 41 (.bin 0 .add (t 35) (t 40)),mV 6 41]
def p0w:SS:=[mV 42 5,mV 43 6,o 44 (.call f0E [t 43] true),o 45 (.lit a0l [.int .u32 0] 1 [(0,1,t 44)]),o 46 (.app a0l 1 4 (t 42) (t 45)),mV 5 46]
def p0x:SS:=[mV 47 6,o 48 (.bin 0 .shr (t 47) (.const (.int .u64 32))),mV 6 48]
def p0y:SS:=[o 49 (.bin 0 .add (t 22) (i 1)),mV 22 49]
def v0x:SS:=[mV 50 5,mV 51 6,o 52 (.call f0E [t 51] true),o 53 (.lit a0l [.int .u32 0] 1 [(0,1,t 52)]),o 54 (.app a0l 1 4 (t 50) (t 53)),mV 4 54]
def I0w:SF:=⟨2,55,[.tmp 4],
 (qS (gR B0v) (qS (qS (gR B0w) (.cond (t 13) (gR B0x) .skip)) (qS (gR B0y) (qS (gR B0z) (qS (qS (gR B0A) (.block 0 (.loop (qS (gR p0z) (qS (.cond (t 23) .skip (.exit 0)) (qS (.block 1 (qS (gR s0X) (qS (gR s0Y) (qS (qS (gR s0Z) (.cond (t 34) (gR p0v) .skip)) (qS (gR p0w) (gR p0x)))))) (gR p0y))))))) (qS (gR v0x) .ret))))))⟩
def B0B:SS:=[o 4 (.mv (i 0))]
def B0C:SS:=[mV 6 0,lN 7 6,mV 8 1,lN 9 8,o 10 (.bin 0 .neq (t 7) (t 9))]
def B0D:SS:=[mV 11 0,lN 12 11,mV 13 1,lN 14 13,o 15 (.call y0K [t 12,t 14] true),mV 4 15]
def B0E:SS:=[mV 16 0,lN 17 16,o 18 (.bin 0 .sub (t 17) (i 1)),mV 5 18]
def t0a:SS:=[mV 19 5,o 20 (.bin 0 .geq (t 19) (i 0))]
def B0F:SS:=[mV 23 0,mV 24 5,iA 25 1 23 24,lD 26 25,mV 27 1,mV 28 5,iA 29 1 27 28,lD 30 29,o 31 (.bin 0 .neq (t 26) (t 30))]
def B0G:SS:=[mV 32 0,mV 33 5,iA 34 1 32 33,lD 35 34,mV 36 1,mV 37 5,iA 38 1 36 37,lD 39 38,o 40 (.call y0L [t 35,t 39] true),mV 4 40]
def B0H:SS:=[mV 21 5,o 22 (.bin 0 .sub (t 21) (i 1)),mV 5 22]
def B0I:SS:=[o 4 (.mv (i 0))]
def I0x:SF:=⟨2,41,[.tmp 4],
 (qS (gR B0B) (qS (qS (gR B0C) (.cond (t 10) (qS (gR B0D) .ret) .skip)) (qS (qS (gR B0E) (.block 0 (.loop (qS (qS (gR t0a) (.cond (t 20) .skip (.exit 0))) (qS (.block 1 (qS (.draw B0F [0,0,3,7,0,0,48,112,255] []) (.cond (t 31) (qS (.draw B0G [0,0,3,7,0,0,48,112,255,511] []) .ret) .skip))) (gR B0H)))))) (qS (gR B0I) .ret))))⟩
def B0J:SS:=[o 4 (.mv (.const (.slice none 0 0)))]
def B0K:SS:=[mV 11 0,lN 12 11,o 13 (.mk a0l 4 [.int .u32 0] (i 0) (t 12)),mV 5 13]
def B0L:SS:=[o 6 (.mv (.const (.int .u64 0)))]
def B0M:SS:=[mV 14 0,lN 15 14,o 16 (.mv (i 0))]
def p0D:SS:=[o 17 (.bin 0 .lss (t 16) (t 15))]
def t0b:SS:=[mV 18 16,iA 19 1 14 16,lD 20 19,mV 7 18,mV 8 20]
def t0c:SS:=[mV 21 6,mV 9 21]
def t0d:SS:=[mV 22 7,mV 23 1,lN 24 23,o 25 (.bin 0 .lss (t 22) (t 24))]
def t0e:SS:=[mV 26 9,mV 27 1,mV 28 7,iA 29 1 27 28,lD 30 29,o 31 (.conv .u64 (t 30)),o 32 (.bin 0 .add (t 26) (t 31)),mV 9 32]
def t0f:SS:=[mV 33 8,o 34 (.conv .u64 (t 33)),mV 35 9,o 36 (.bin 0 .sub (t 34) (t 35)),mV 10 36]
def p0A:SS:=[mV 37 5,mV 38 10,o 39 (.call f0E [t 38] true),o 40 (.lit a0l [.int .u32 0] 1 [(0,1,t 39)]),o 41 (.app a0l 1 4 (t 37) (t 40)),mV 5 41]
def p0B:SS:=[mV 42 10,o 43 (.bin 0 .shr (t 42) (.const (.int .u64 63))),mV 6 43]
def p0C:SS:=[o 44 (.bin 0 .add (t 16) (i 1)),mV 16 44]
def v0y:SS:=[mV 45 5,mV 4 45]
def I0y:SF:=⟨2,46,[.tmp 4],
 (qS (gR B0J) (qS (gR B0K) (qS (gR B0L) (qS (qS (gR B0M) (.block 0 (.loop (qS (gR p0D) (qS (.cond (t 17) .skip (.exit 0)) (qS (.block 1 (qS (gR t0b) (qS (gR t0c) (qS (qS (gR t0d) (.cond (t 25) (gR t0e) .skip)) (qS (gR t0f) (qS (gR p0A) (gR p0B))))))) (gR p0C))))))) (qS (gR v0y) .ret)))))⟩
def B0N:SS:=[o 2 (.mv (.const (.int .u32 0)))]
def B0O:SS:=[mV 3 0,o 4 (.conv .u32 (t 3)),mV 2 4]
def I0z:SF:=⟨1,5,[.tmp 2],
 (qS (gR B0N) (qS (gR B0O) .ret))⟩
def B0P:SS:=[o 1 (.box a0a (t 0)),o 2 (.mv (.const (.bool false)))]
def B0Q:SS:=[fA 3 1 1,lD 4 3,lN 5 4,o 6 (.bin 0 .eql (t 5) (i 0))]
def B0R:SS:=[fA 7 0 1,lD 8 7,o 9 (.un .not (t 8)),mV 2 9]
def B0S:SS:=[fA 10 1 1,lD 11 10,fA 12 1 1,lD 13 12,lN 14 13,o 15 (.bin 0 .sub (t 14) (i 1)),iA 16 1 11 15,lD 17 16,o 18 (.bin 0 .neq (t 17) (.const (.int .u32 0))),mV 2 18]
def I0A:SF:=⟨1,19,[.tmp 2],
 (qS (gR B0P) (qS (qS (gR B0Q) (.cond (t 6) (qS (gR B0R) .ret) .skip)) (qS (gR B0S) .ret)))⟩
def B0T:SS:=[o 1 (.box a0a (t 0)),o 2 (.mv (.const (.bool false)))]
def B0U:SS:=[lA 3 2 1,o 4 (.build [.bool false,.slice none 0 0] []),o 5 (.call m0y [t 3,t 4] true),o 6 (.bin 0 .eql (t 5) (i 0)),mV 2 6]
def I0B:SF:=⟨1,7,[.tmp 2],
 (qS (gR B0T) (qS (gR B0U) .ret))⟩
def B0V:SS:=[o 2 (.box a0a (t 0)),o 3 (.box a0a (t 1)),o 4 (.mv (i 0))]
def B0W:SS:=[lA 6 2 2,o 7 (.call d0V [t 6] true),mV 8 7,og 9 8 true (.load true 2 (t 3)),og 10 8 true (.call d0V [t 9] true),og 11 8 true (.un .not (t 10)),o 12 (.pick (t 8) (t 11) (.const (.bool false))),mV 5 12]
def B0X:SS:=[o 4 (.mv (.const (.int .i64 (-1))))]
def t0g:SS:=[lA 14 2 2,o 15 (.call d0V [t 14] true),o 16 (.un .not (t 15)),mV 17 16,og 18 17 true (.load true 2 (t 3)),og 19 17 true (.call d0V [t 18] true),o 20 (.pick (t 17) (t 19) (.const (.bool false))),mV 13 20]
def B0Y:SS:=[o 4 (.mv (i 1))]
def t0h:SS:=[lA 22 2 2,o 23 (.call d0V [t 22] true),mV 21 23]
def B0Z:SS:=[lA 24 2 3,o 25 (.call f0D [t 24] false),lA 26 2 2,o 27 (.call f0D [t 26] true),o 28 (.call q0G [t 25,t 27] true),mV 4 28]
def C0a:SS:=[lA 29 2 2,o 30 (.call f0D [t 29] false),lA 31 2 3,o 32 (.call f0D [t 31] true),o 33 (.call q0G [t 30,t 32] true),mV 4 33]
def I0C:SF:=⟨2,34,[.tmp 4],
 (qS (gR B0V) (qS (.block 0 (qS (gR B0W) (.cond (t 5) (qS (gR B0X) .ret) (qS (gR t0g) (.cond (t 13) (qS (gR B0Y) .ret) (qS (gR t0h) (.cond (t 21) (qS (.draw B0Z [0,1,0,7,15,31] []) .ret) .skip))))))) (qS (.draw C0a [0,1,0,7,15,31] []) .ret)))⟩
def C0b:SS:=[o 2 (.box a0a (t 0)),o 3 (.box a0a (t 1)),o 4 (.alloc a0a [.bool false,.slice none 0 0])]
def C0c:SS:=[lA 10 2 2,o 11 (.call f0D [t 10] false),o 12 (.call g0f [(.const (.bool false)),t 11] false),lA 13 2 3,o 14 (.call f0D [t 13] false),o 15 (.call g0f [(.const (.bool false)),t 14] false),o 5 (.alloc a0a [.bool false,.slice none 0 0]),o 6 (.alloc a0a [.bool false,.slice none 0 0]),⟨none,none,.store 2 (t 5) (t 12)⟩,⟨none,none,.store 2 (t 6) (t 15)⟩]
def t0i:SS:=[fA 16 1 6,lD 17 16,lN 18 17,o 19 (.bin 0 .gtr (t 18) (i 0))]
def C0d:SS:=[lA 21 2 5,lA 22 2 6,o 23 (.call k0U [t 21,t 22] true),mV 20 23,o 24 (.ext (t 20) 0),o 25 (.ext (t 20) 1),o 26 (.ext (t 20) 2),o 7 (.alloc a0a [.bool false,.slice none 0 0]),o 8 (.alloc a0a [.bool false,.slice none 0 0]),⟨none,none,.store 2 (t 7) (t 24)⟩,⟨none,none,.store 2 (t 8) (t 25)⟩,mV 9 26]
def C0e:SS:=[lA 27 2 6,lA 28 2 8,⟨none,none,.store 2 (t 5) (t 27)⟩,⟨none,none,.store 2 (t 6) (t 28)⟩]
def C0f:SS:=[lA 29 2 5,⟨none,none,.store 2 (t 4) (t 29)⟩]
def I0D:SF:=⟨2,30,[.cell 4 true 2],
 (qS (gR C0b) (qS (.draw C0c [0,1,3,0,15,31,0,0,255,511] []) (qS (.block 0 (.loop (qS (qS (gR t0i) (.cond (t 19) .skip (.exit 0))) (.block 1 (qS (gR C0d) (.draw C0e [0,0,1,7] [(1,2)])))))) (qS (gR C0f) .ret))))⟩
def C0g:SS:=[o 2 (.mv (.const (.slice none 0 0)))]
def C0h:SS:=[mV 3 0,o 4 (.bin 2 .eql (t 3) (.const (.slice none 0 0)))]
def C0i:SS:=[o 2 (.mv (.const (.slice none 0 0)))]
def C0j:SS:=[o 5 (.lit a0l [.int .u32 0] 0 []),mV 6 0,o 7 (.app a0l 1 4 (t 5) (t 6)),mV 2 7]
def I0E:SF:=⟨1,8,[.tmp 2],
 (qS (gR C0g) (qS (qS (gR C0h) (.cond (t 4) (qS (gR C0i) .ret) .skip)) (qS (gR C0j) .ret)))⟩
def C0k:SS:=[o 2 (.box a0a (t 0)),o 3 (.box a0a (t 1)),o 4 (.alloc a0a [.bool false,.slice none 0 0]),o 5 (.alloc a0a [.bool false,.slice none 0 0]),o 6 (.mv (i 0))]
def C0l:SS:=[lA 13 2 2,o 14 (.call f0D [t 13] false),lA 15 2 3,o 16 (.call f0D [t 15] true),mV 7 14,mV 8 16]
def C0m:SS:=[mV 18 8,lN 19 18,o 20 (.bin 0 .eql (t 19) (i 0)),mV 17 20]
def Q0L:SS:=[o 21 (.build [.bool false,.slice none 0 0] []),o 22 (.build [.bool false,.slice none 0 0] []),⟨none,none,.store 2 (t 4) (t 21)⟩,⟨none,none,.store 2 (t 5) (t 22)⟩,o 6 (.mv (i 1))]
def C0n:SS:=[mV 24 7,mV 25 8,o 26 (.call q0G [t 24,t 25] true),o 27 (.bin 0 .lss (t 26) (i 0)),mV 23 27]
def C0o:SS:=[o 28 (.build [.bool false,.slice none 0 0] []),lA 29 2 2,o 30 (.call d0V [t 29] true),mV 31 7,o 32 (.call g0f [t 30,t 31] true),⟨none,none,.store 2 (t 4) (t 28)⟩,⟨none,none,.store 2 (t 5) (t 32)⟩,o 6 (.mv (i 0))]
def t0j:SS:=[mV 34 8,lN 35 34,o 36 (.bin 0 .eql (t 35) (i 1)),mV 33 36]
def C0p:SS:=[mV 38 7,mV 39 8,o 40 (.ia 1 (t 39) (i 0)),lD 41 40,o 42 (.call y0M [t 38,t 41] true),mV 37 42,o 43 (.ext (t 37) 0),o 44 (.ext (t 37) 1),mV 9 43,mV 10 44]
def C0q:SS:=[lA 45 2 2,o 46 (.call d0V [t 45] false),lA 47 2 3,o 48 (.call d0V [t 47] false),o 49 (.bin 1 .neq (t 46) (t 48)),mV 50 9,o 51 (.call g0f [t 49,t 50] false),lA 52 2 2,o 53 (.call d0V [t 52] false),mV 54 10,o 55 (.lit a0l [.int .u32 0] 1 [(0,1,t 54)]),o 56 (.call g0f [t 53,t 55] true),⟨none,none,.store 2 (t 4) (t 51)⟩,⟨none,none,.store 2 (t 5) (t 56)⟩,o 6 (.mv (i 0))]
def C0r:SS:=[mV 58 7,mV 59 8,o 60 (.call y0N [t 58,t 59] true),mV 57 60,o 61 (.ext (t 57) 0),o 62 (.ext (t 57) 1),mV 11 61,mV 12 62]
def v0z:SS:=[lA 63 2 2,o 64 (.call d0V [t 63] false),lA 65 2 3,o 66 (.call d0V [t 65] false),o 67 (.bin 1 .neq (t 64) (t 66)),mV 68 11,o 69 (.call g0f [t 67,t 68] false),lA 70 2 2,o 71 (.call d0V [t 70] true),mV 72 12,o 73 (.call g0f [t 71,t 72] true),⟨none,none,.store 2 (t 4) (t 69)⟩,⟨none,none,.store 2 (t 5) (t 73)⟩,o 6 (.mv (i 0))]
def I0F:SF:=⟨2,74,[.cell 4 true 2,.cell 5 true 2,.tmp 6],
 (qS (gR C0k) (qS (.draw C0l [0,1,0,7,15,31] []) (qS (.block 0 (qS (gR C0m) (.cond (t 17) (qS (gR Q0L) .ret) (qS (gR C0n) (.cond (t 23) (qS (gR C0o) .ret) (qS (gR t0j) (.cond (t 33) (qS (gR C0p) (qS (.draw C0q [0,1,0,7,15,0,63,0,255,0,512,2047,4095,8191,16383] []) .ret)) .skip))))))) (qS (gR C0r) (qS (.draw v0z [0,1,0,7,15,0,63,0,255,0,1023,2047,4095,8191] []) .ret)))))⟩
def C0s:SS:=[o 2 (.mv (.const (.slice none 0 0)))]
def C0t:SS:=[lD 5 0,cK 6 5,fA 7 2 6,lD 8 7,o 9 (.bin 0 .add (t 8) (i 1)),o 10 (.mk a0a 32 [.bool false,.slice none 0 0] (t 9) (t 9)),mV 3 10]
def C0u:SS:=[mV 11 3,lN 12 11,o 13 (.mv (i 0))]
def Q0M:SS:=[o 14 (.bin 0 .lss (t 13) (t 12))]
def C0v:SS:=[mV 15 13,mV 4 15]
def C0w:SS:=[mV 16 3,mV 17 4,lA 18 2 1,iA 19 2 16 17,⟨none,none,.store 2 (t 19) (t 18)⟩]
def Q0N:SS:=[o 20 (.bin 0 .add (t 13) (i 1)),mV 13 20]
def C0x:SS:=[mV 21 3,mV 2 21]
def I0G:SF:=⟨2,22,[.tmp 2],
 (qS (gR C0s) (qS (gR C0t) (qS (qS (gR C0u) (.block 0 (.loop (qS (gR Q0M) (qS (.cond (t 14) .skip (.exit 0)) (qS (.block 1 (qS (gR C0v) (gR C0w))) (gR Q0N))))))) (qS (gR C0x) .ret))))⟩
def C0y:SS:=[o 4 (.box a0a (t 1)),o 5 (.box a0a (t 2)),o 6 (.alloc a0a [.bool false,.slice none 0 0])]
def C0z:SS:=[mV 8 0,cK 9 8,o 10 (.fa0 a0c (t 9)),lA 11 0 10,o 12 (.iface a0h (t 11)),o 13 (.call j0b [i 1] false),o 14 (.inv (t 12) [(a0h,j0c),(a0i,i0n)] [t 13] false),o 7 (.alloc a0a [.bool false,.slice none 0 0]),⟨none,none,.store 2 (t 7) (t 14)⟩]
def C0A:SS:=[mV 15 0,cK 16 15,o 17 (.fa0 a0c (t 16)),lA 18 0 17,o 19 (.iface a0h (t 18)),lA 20 2 4,lA 21 2 7,lA 22 2 5,lA 23 2 7,lA 24 2 7,o 25 (.inv (t 19) [(a0h,o0D),(a0i,o0E)] [t 20,t 21,t 22,t 23,t 24] true),⟨none,none,.store 2 (t 6) (t 25)⟩]
def I0H:SF:=⟨3,26,[.cell 6 true 2],
 (qS (gR C0y) (qS (.draw C0z [0,1,3,7,15,0,63,0,255] []) (qS (.draw C0A [0,1,3,7,15,0,0,0,0,0,1023,2047] []) .ret)))⟩
def C0B:SS:=[mV 12 0,cK 13 12,fA 14 7 13,lD 15 14,o 16 (.bin 0 .add (t 15) (i 1)),cK 17 12,fA 18 7 17,⟨none,none,.store 1 (t 18) (t 16)⟩]
def C0C:SS:=[mV 19 0,cK 20 19,fA 21 3 20,lD 22 21,mV 23 1,iA 24 1 22 23,lD 25 24,mV 26 2,iA 27 2 25 26,lA 28 2 27,mV 29 0,cK 30 29,fA 31 3 30,lD 32 31,mV 33 1,iA 34 1 32 33,lD 35 34,o 6 (.alloc a0a [.bool false,.slice none 0 0]),⟨none,none,.store 2 (t 6) (t 28)⟩,mV 7 35]
def C0D:SS:=[mV 36 0,cK 37 36,fA 38 3 37,lD 39 38,lN 40 39,o 41 (.mv (i 0))]
def Q0O:SS:=[o 42 (.bin 0 .lss (t 41) (t 40))]
def C0E:SS:=[mV 43 41,iA 44 1 39 41,lD 45 44,mV 8 43,mV 9 45]
def t0k:SS:=[mV 46 8,mV 47 1,o 48 (.bin 0 .eql (t 46) (t 47))]
def C0F:SS:=[mV 49 9,mV 50 2,iA 51 2 49 50,lA 52 2 51,o 10 (.alloc a0a [.bool false,.slice none 0 0]),⟨none,none,.store 2 (t 10) (t 52)⟩]
def C0G:SS:=[mV 53 9,lN 54 53,o 55 (.mv (i 0))]
def Q0P:SS:=[o 56 (.bin 0 .lss (t 55) (t 54))]
def C0H:SS:=[mV 57 55,mV 11 57]
def v0A:SS:=[mV 58 9,mV 59 11,mV 60 0,cK 61 60,o 62 (.fa0 a0c (t 61)),lA 63 0 62,o 64 (.iface a0h (t 63)),mV 65 9,mV 66 11,iA 67 2 65 66,lA 68 2 67,lA 69 2 6,lA 70 2 10,mV 71 7,mV 72 11,iA 73 2 71 72,lA 74 2 73,mV 75 0,cK 76 75,fA 77 4 76,lA 78 2 77,o 79 (.inv (t 64) [(a0h,o0D),(a0i,o0E)] [t 68,t 69,t 70,t 74,t 78] true),iA 80 2 58 59,⟨none,none,.store 2 (t 80) (t 79)⟩]
def H0Y:SS:=[o 81 (.bin 0 .add (t 55) (i 1)),mV 55 81]
def H0Z:SS:=[o 82 (.bin 0 .add (t 41) (i 1)),mV 41 82]
def v0B:SS:=[mV 83 0,mV 84 0,cK 85 84,fA 86 6 85,lD 87 86,mV 88 1,lA 89 2 6,mV 90 2,cK 91 83,fA 92 4 91,⟨none,none,.store 2 (t 92) (t 89)⟩,iA 93 1 87 88,⟨none,none,.store 1 (t 93) (t 90)⟩]
def I0I:SF:=⟨3,94,[],
 (qS (gR C0B) (qS (.draw C0C [0,1,3,7,0,31,63,0,255,511,0,1024,3072,7168,0,31744,64512,0,132095,524287] [(13,18),(16,18)]) (qS (qS (gR C0D) (.block 0 (.loop (qS (gR Q0O) (qS (.cond (t 42) .skip (.exit 0)) (qS (.block 1 (qS (gR C0E) (qS (qS (gR t0k) (.cond (t 48) (.exit 1) .skip)) (qS (gR C0F) (qS (gR C0G) (.block 2 (.loop (qS (gR Q0P) (qS (.cond (t 56) .skip (.exit 2)) (qS (.block 3 (qS (gR C0H) (.draw v0A [0,0,0,4,12,28,60,0,0,384,896,0,0,0,0,24576,57344,0,131072,393216,917504,2097148,4194303,8388607] []))) (gR H0Y))))))))))) (gR H0Z))))))) (.draw v0B [0,0,2,6,14,0,0,0,95,351,863,2047,4095] []))))⟩
def C0I:SS:=[o 2 (.box a0b (t 0)),o 3 (.box a0b (t 1)),o 4 (.alloc a0b [.bool false,.slice none 0 0,.bool false,.slice none 0 0]),o 5 (.mv (i 0))]
def C0J:SS:=[lA 6 4 2,o 7 (.call y0U [t 6] false),lA 8 4 3,o 9 (.call y0U [t 8] true),⟨none,none,.store 4 (t 2) (t 7)⟩,⟨none,none,.store 4 (t 3) (t 9)⟩]
def C0K:SS:=[fA 10 0 2,lA 11 2 10,fA 12 2 3,lA 13 2 12,o 14 (.call q0N [t 11,t 13] false),fA 15 2 2,lA 16 2 15,fA 17 0 3,lA 18 2 17,o 19 (.call q0N [t 16,t 18] true),o 20 (.call o0C [t 14,t 19] true),o 21 (.ext (t 20) 0),o 22 (.ext (t 20) 1),⟨none,none,.store 4 (t 4) (t 21)⟩,mV 5 22]
def I0J:SF:=⟨2,23,[.cell 4 true 4,.tmp 5],
 (qS (gR C0I) (qS (.draw C0J [0,1,0,7,15,31] []) (qS (.draw C0K [0,1,0,4,15,0,32,0,128,511,1023,2047,2047,8191,16383] []) .ret)))⟩
def C0L:SS:=[o 3 (.box a0a (t 1)),o 4 (.alloc a0b [.bool false,.slice none 0 0,.bool false,.slice none 0 0])]
def C0M:SS:=[mV 8 0,cK 9 8,o 10 (.fa0 a0c (t 9)),lA 11 0 10,o 12 (.iface a0h (t 11)),lA 13 2 3,o 14 (.inv (t 12) [(a0h,q0L),(a0i,q0M)] [t 13] false),mV 15 0,cK 16 15,o 17 (.fa0 a0c (t 16)),lA 18 0 17,o 19 (.iface a0h (t 18)),mV 20 0,cK 21 20,fA 22 4 21,lA 23 2 22,o 24 (.inv (t 19) [(a0h,q0L),(a0i,q0M)] [t 23] false),o 25 (.call o0C [t 14,t 24] false),mV 7 25,o 26 (.ext (t 7) 0),o 27 (.ext (t 7) 1),o 5 (.alloc a0b [.bool false,.slice none 0 0,.bool false,.slice none 0 0]),⟨none,none,.store 4 (t 5) (t 26)⟩,mV 6 27]
def C0N:SS:=[lA 28 4 5,⟨none,none,.store 4 (t 4) (t 28)⟩]
def I0K:SF:=⟨2,29,[.cell 4 true 4],
 (qS (gR C0L) (qS (.draw C0M [0,1,3,7,15,0,63,0,128,384,896,1920,0,4096,12288,28672,65535,131071,262143,524287,524287,0,3145727,8388607] []) (qS (gR C0N) .ret)))⟩
def C0O:SS:=[o 2 (.box a0b (t 0)),o 3 (.box a0b (t 1)),o 4 (.alloc a0b [.bool false,.slice none 0 0,.bool false,.slice none 0 0])]
def C0P:SS:=[lA 5 4 2,lA 6 4 3,o 7 (.call y0U [t 6] false),o 8 (.call y0O [t 7] false),o 9 (.call r0U [t 5,t 8] true),⟨none,none,.store 4 (t 4) (t 9)⟩]
def I0L:SF:=⟨2,10,[.cell 4 true 4],
 (qS (gR C0O) (qS (.draw C0P [0,0,2,6,15,31] []) .ret))⟩
def C0S:SS:=[o 4 (.mv (i 0))]
def C0T:SS:=[mV 6 0,mV 7 1,o 8 (.bin 0 .lss (t 6) (t 7)),mV 5 8]
def C0U:SS:=[o 4 (.mv (.const (.int .i64 (-1))))]
def C0V:SS:=[mV 10 0,mV 11 1,o 12 (.bin 0 .gtr (t 10) (t 11)),mV 9 12]
def C0W:SS:=[o 4 (.mv (i 1))]
def C0X:SS:=[o 4 (.mv (i 0))]
def I0M:SF:=⟨2,13,[.tmp 4],
 (qS (gR C0S) (qS (.block 0 (qS (gR C0T) (.cond (t 5) (qS (gR C0U) .ret) (qS (gR C0V) (.cond (t 9) (qS (gR C0W) .ret) .skip))))) (qS (gR C0X) .ret)))⟩
def C0Y:SS:=[o 4 (.mv (i 0))]
def C0Z:SS:=[mV 6 0,mV 7 1,o 8 (.bin 0 .lss (t 6) (t 7)),mV 5 8]
def D0a:SS:=[o 4 (.mv (.const (.int .i64 (-1))))]
def D0b:SS:=[mV 10 0,mV 11 1,o 12 (.bin 0 .gtr (t 10) (t 11)),mV 9 12]
def D0c:SS:=[o 4 (.mv (i 1))]
def D0d:SS:=[o 4 (.mv (i 0))]
def I0N:SF:=⟨2,13,[.tmp 4],
 (qS (gR C0Y) (qS (.block 0 (qS (gR C0Z) (.cond (t 5) (qS (gR D0a) .ret) (qS (gR D0b) (.cond (t 9) (qS (gR D0c) .ret) .skip))))) (qS (gR D0d) .ret)))⟩
def D0e:SS:=[o 4 (.mv (.const (.slice none 0 0))),o 5 (.mv (.const (.int .u32 0)))]
def D0f:SS:=[mV 9 0,lN 10 9,o 11 (.mk a0l 4 [.int .u32 0] (t 10) (t 10)),mV 6 11]
def D0g:SS:=[o 7 (.mv (.const (.int .u64 0)))]
def D0h:SS:=[mV 12 0,lN 13 12,o 14 (.bin 0 .sub (t 13) (i 1)),mV 8 14]
def t0l:SS:=[mV 15 8,o 16 (.bin 0 .geq (t 15) (i 0))]
def D0i:SS:=[mV 19 7,o 20 (.bin 0 .shl (t 19) (.const (.int .u64 32))),mV 21 0,mV 22 8,iA 23 1 21 22,lD 24 23,o 25 (.conv .u64 (t 24)),o 26 (.bin 0 .or (t 20) (t 25)),mV 7 26]
def D0j:SS:=[mV 27 6,mV 28 8,mV 29 7,mV 30 1,o 31 (.conv .u64 (t 30)),o 32 (.bin 0 .quo (t 29) (t 31)),o 33 (.call f0E [t 32] true),iA 34 1 27 28,⟨none,none,.store 1 (t 34) (t 33)⟩]
def D0k:SS:=[mV 35 7,mV 36 1,o 37 (.conv .u64 (t 36)),o 38 (.bin 0 .rem (t 35) (t 37)),mV 7 38]
def D0l:SS:=[mV 17 8,o 18 (.bin 0 .sub (t 17) (i 1)),mV 8 18]
def D0m:SS:=[mV 39 6,mV 40 7,o 41 (.call f0E [t 40] true),mV 4 39,mV 5 41]
def I0O:SF:=⟨2,42,[.tmp 4,.tmp 5],
 (qS (gR D0e) (qS (gR D0f) (qS (gR D0g) (qS (qS (gR D0h) (.block 0 (.loop (qS (qS (gR t0l) (.cond (t 16) .skip (.exit 0))) (qS (.block 1 (qS (gR D0i) (qS (gR D0j) (gR D0k)))) (gR D0l)))))) (qS (gR D0m) .ret)))))⟩
def D0n:SS:=[o 4 (.mv (.const (.slice none 0 0))),o 5 (.mv (.const (.slice none 0 0)))]
def D0o:SS:=[o 6 (.mv (i 0))]
def t0m:SS:=[mV 16 1,mV 17 1,lN 18 17,o 19 (.bin 0 .sub (t 18) (i 1)),iA 20 1 16 19,lD 21 20,mV 22 6,o 23 (.bin 0 .shl (t 21) (t 22)),o 24 (.bin 0 .shr (t 23) (.const (.int .u64 31))),o 25 (.bin 0 .eql (t 24) (.const (.int .u32 0)))]
def t0n:SS:=[mV 26 6,o 27 (.bin 0 .add (t 26) (i 1)),mV 6 27]
def D0p:SS:=[mV 28 0,mV 29 6,o 30 (.call w0J [t 28,t 29] true),mV 31 1,mV 32 6,o 33 (.call w0J [t 31,t 32] true),mV 34 1,lN 35 34,o 36 (.sl a0l 1 (t 33) none (some (t 35)) none),mV 7 30,mV 8 36]
def D0q:SS:=[mV 37 8,lN 38 37,mV 9 38]
def D0r:SS:=[mV 39 7,lN 40 39,mV 41 9,o 42 (.bin 0 .sub (t 40) (t 41)),o 43 (.mnx true (t 42) [i 0]),o 44 (.mk a0l 4 [.int .u32 0] (t 43) (t 43)),mV 4 44]
def D0s:SS:=[mV 45 8,mV 46 9,o 47 (.bin 0 .sub (t 46) (i 1)),iA 48 1 45 47,lD 49 48,o 50 (.conv .u64 (t 49)),mV 51 8,mV 52 9,o 53 (.bin 0 .sub (t 52) (i 2)),iA 54 1 51 53,lD 55 54,o 56 (.conv .u64 (t 55)),mV 10 50,mV 11 56]
def D0t:SS:=[mV 57 7,lN 58 57,mV 59 9,o 60 (.bin 0 .sub (t 58) (t 59)),o 61 (.bin 0 .sub (t 60) (i 1)),mV 12 61]
def t0o:SS:=[mV 62 12,o 63 (.bin 0 .geq (t 62) (i 0))]
def v0C:SS:=[mV 66 7,mV 67 12,mV 68 9,o 69 (.bin 0 .add (t 67) (t 68)),iA 70 1 66 69,lD 71 70,o 72 (.conv .u64 (t 71)),o 73 (.bin 0 .shl (t 72) (.const (.int .u64 32))),mV 74 7,mV 75 12,mV 76 9,o 77 (.bin 0 .add (t 75) (t 76)),o 78 (.bin 0 .sub (t 77) (i 1)),iA 79 1 74 78,lD 80 79,o 81 (.conv .u64 (t 80)),o 82 (.bin 0 .or (t 73) (t 81)),mV 13 82]
def v0D:SS:=[mV 83 13,mV 84 10,o 85 (.bin 0 .quo (t 83) (t 84)),mV 86 13,mV 87 10,o 88 (.bin 0 .rem (t 86) (t 87)),mV 14 85,mV 15 88]
def k0u:SS:=[mV 89 14,o 90 (.bin 0 .geq (t 89) (.const (.int .u64 4294967296))),mV 91 90,og 92 91 false (.mv (t 14)),og 93 91 false (.mv (t 11)),og 94 91 false (.bin 0 .mul (t 92) (t 93)),og 95 91 false (.mv (t 15)),og 96 91 false (.bin 0 .shl (t 95) (.const (.int .u64 32))),og 97 91 false (.mv (t 7)),og 98 91 false (.mv (t 12)),og 99 91 false (.mv (t 9)),og 100 91 false (.bin 0 .add (t 98) (t 99)),og 101 91 false (.bin 0 .sub (t 100) (i 2)),og 102 91 false (.ia 1 (t 97) (t 101)),og 103 91 false (.load false 1 (t 102)),og 104 91 false (.conv .u64 (t 103)),og 105 91 false (.bin 0 .or (t 96) (t 104)),og 106 91 false (.bin 0 .gtr (t 94) (t 105)),o 107 (.pick (t 91) (.const (.bool true)) (t 106))]
def i0H:SS:=[mV 108 14,o 109 (.bin 0 .sub (t 108) (.const (.int .u64 1))),mV 14 109]
def i0I:SS:=[mV 110 15,mV 111 10,o 112 (.bin 0 .add (t 110) (t 111)),mV 15 112]
def i0J:SS:=[mV 113 15,o 114 (.bin 0 .geq (t 113) (.const (.int .u64 4294967296)))]
def v0E:SS:=[mV 115 7,mV 116 12,mV 117 12,mV 118 9,o 119 (.bin 0 .add (t 117) (t 118)),o 120 (.bin 0 .add (t 119) (i 1)),o 121 (.sl a0l 1 (t 115) (some (t 116)) (some (t 120)) none),mV 122 8,mV 123 14,o 124 (.call y0P [t 121,t 122,t 123] true)]
def v0F:SS:=[mV 125 14,o 126 (.bin 0 .sub (t 125) (.const (.int .u64 1))),mV 14 126]
def v0G:SS:=[mV 127 7,mV 128 12,mV 129 12,mV 130 9,o 131 (.bin 0 .add (t 129) (t 130)),o 132 (.bin 0 .add (t 131) (i 1)),o 133 (.sl a0l 1 (t 127) (some (t 128)) (some (t 132)) none),mV 134 8,o 135 (.call y0Q [t 133,t 134] true)]
def p0E:SS:=[mV 136 4,mV 137 12,mV 138 14,o 139 (.call f0E [t 138] true),iA 140 1 136 137,⟨none,none,.store 1 (t 140) (t 139)⟩]
def p0F:SS:=[mV 64 12,o 65 (.bin 0 .sub (t 64) (i 1)),mV 12 65]
def v0H:SS:=[mV 141 4,mV 142 7,mV 143 9,o 144 (.sl a0l 1 (t 142) none (some (t 143)) none),mV 145 6,o 146 (.call y0R [t 144,t 145] true),mV 4 141,mV 5 146]
def I0P:SF:=⟨2,147,[.tmp 4,.tmp 5],
 (qS (gR D0n) (qS (gR D0o) (qS (.block 0 (.loop (qS (qS (gR t0m) (.cond (t 25) .skip (.exit 0))) (.block 1 (gR t0n))))) (qS (.draw D0p [0,0,3,0,0,31,0,64,255,63,1023] []) (qS (gR D0q) (qS (gR D0r) (qS (.draw D0s [0,0,2,7,15,31,0,0,128,448,960,1984,63,8191] []) (qS (qS (gR D0t) (.block 2 (.loop (qS (qS (gR t0o) (.cond (t 63) .skip (.exit 2))) (qS (.block 3 (qS (.draw v0C [0,0,0,6,15,31,63,127,0,0,0,1536,3584,7936,16128,32512,65535,131071] []) (qS (.draw v0D [0,0,3,0,0,24,7,127] []) (qS (.block 4 (.loop (qS (qS (gR k0u) (.cond (t 107) .skip (.exit 4))) (.block 5 (qS (gR i0H) (qS (gR i0I) (qS (gR i0J) (.cond (t 114) (.exit 4) .skip)))))))) (qS (qS (gR v0E) (.cond (t 124) (qS (gR v0F) (gR v0G)) .skip)) (gR p0E)))))) (gR p0F)))))) (qS (gR v0H) .ret)))))))))⟩
def D0u:SS:=[o 2 (.mv (.const (.slice none 0 0)))]
def D0v:SS:=[lD 5 0,cK 6 5,fA 7 2 6,lD 8 7,o 9 (.bin 0 .add (t 8) (i 1)),o 10 (.mk d0r 8 [.int .i64 0] (t 9) (t 9)),mV 3 10]
def D0w:SS:=[mV 11 3,lN 12 11,o 13 (.mv (i 0))]
def Q0Q:SS:=[o 14 (.bin 0 .lss (t 13) (t 12))]
def D0x:SS:=[mV 15 13,mV 4 15]
def D0y:SS:=[mV 16 3,mV 17 4,lD 18 1,iA 19 1 16 17,⟨none,none,.store 1 (t 19) (t 18)⟩]
def Q0R:SS:=[o 20 (.bin 0 .add (t 13) (i 1)),mV 13 20]
def D0z:SS:=[mV 21 3,mV 2 21]
def I0Q:SF:=⟨2,22,[.tmp 2],
 (qS (gR D0u) (qS (gR D0v) (qS (qS (gR D0w) (.block 0 (.loop (qS (gR Q0Q) (qS (.cond (t 14) .skip (.exit 0)) (qS (.block 1 (qS (gR D0x) (gR D0y))) (gR Q0R))))))) (qS (gR D0z) .ret))))⟩
def D0A:SS:=[o 6 (.mv (i 0))]
def D0B:SS:=[mV 8 0,cK 9 8,o 10 (.fa0 a0d (t 9)),lA 11 0 10,o 12 (.iface a0i (t 11)),o 13 (.call j0b [i 1] false),o 14 (.inv (t 12) [(a0h,j0c),(a0i,i0n)] [t 13] true),mV 7 14]
def D0C:SS:=[mV 15 0,cK 16 15,o 17 (.fa0 a0d (t 16)),lA 18 0 17,o 19 (.iface a0i (t 18)),mV 20 1,mV 21 7,mV 22 2,mV 23 7,mV 24 7,o 25 (.inv (t 19) [(a0h,o0D),(a0i,o0E)] [t 20,t 21,t 22,t 23,t 24] true),mV 6 25]
def I0R:SF:=⟨3,26,[.tmp 6],
 (qS (gR D0A) (qS (.draw D0B [0,1,3,7,15,0,63,127] []) (qS (gR D0C) .ret)))⟩
def D0D:SS:=[mV 12 0,cK 13 12,fA 14 6 13,lD 15 14,o 16 (.bin 0 .add (t 15) (i 1)),cK 17 12,fA 18 6 17,⟨none,none,.store 1 (t 18) (t 16)⟩]
def D0E:SS:=[mV 19 0,cK 20 19,fA 21 3 20,lD 22 21,mV 23 1,iA 24 1 22 23,lD 25 24,mV 26 2,iA 27 1 25 26,lD 28 27,mV 29 0,cK 30 29,fA 31 3 30,lD 32 31,mV 33 1,iA 34 1 32 33,lD 35 34,mV 6 28,mV 7 35]
def D0F:SS:=[mV 36 0,cK 37 36,fA 38 3 37,lD 39 38,lN 40 39,o 41 (.mv (i 0))]
def Q0S:SS:=[o 42 (.bin 0 .lss (t 41) (t 40))]
def D0G:SS:=[mV 43 41,iA 44 1 39 41,lD 45 44,mV 8 43,mV 9 45]
def t0p:SS:=[mV 46 8,mV 47 1,o 48 (.bin 0 .eql (t 46) (t 47))]
def D0H:SS:=[mV 49 9,mV 50 2,iA 51 1 49 50,lD 52 51,mV 10 52]
def D0I:SS:=[mV 53 9,lN 54 53,o 55 (.mv (i 0))]
def Q0T:SS:=[o 56 (.bin 0 .lss (t 55) (t 54))]
def D0J:SS:=[mV 57 55,mV 11 57]
def v0I:SS:=[mV 58 9,mV 59 11,mV 60 0,cK 61 60,o 62 (.fa0 a0d (t 61)),lA 63 0 62,o 64 (.iface a0i (t 63)),mV 65 9,mV 66 11,iA 67 1 65 66,lD 68 67,mV 69 6,mV 70 10,mV 71 7,mV 72 11,iA 73 1 71 72,lD 74 73,mV 75 0,cK 76 75,fA 77 4 76,lD 78 77,o 79 (.inv (t 64) [(a0h,o0D),(a0i,o0E)] [t 68,t 69,t 70,t 74,t 78] true),iA 80 1 58 59,⟨none,none,.store 1 (t 80) (t 79)⟩]
def I0a:SS:=[o 81 (.bin 0 .add (t 55) (i 1)),mV 55 81]
def I0b:SS:=[o 82 (.bin 0 .add (t 41) (i 1)),mV 41 82]
def v0J:SS:=[mV 83 0,mV 84 0,cK 85 84,fA 86 5 85,lD 87 86,mV 88 1,mV 89 6,mV 90 2,cK 91 83,fA 92 4 91,⟨none,none,.store 1 (t 92) (t 89)⟩,iA 93 1 87 88,⟨none,none,.store 1 (t 93) (t 90)⟩]
def I0S:SF:=⟨3,94,[],
 (qS (gR D0D) (qS (.draw D0E [0,1,3,7,0,31,63,0,255,511,0,1024,3072,7168,0,31744,64512,1023,262143] []) (qS (qS (gR D0F) (.block 0 (.loop (qS (gR Q0S) (qS (.cond (t 42) .skip (.exit 0)) (qS (.block 1 (qS (gR D0G) (qS (qS (gR t0p) (.cond (t 48) (.exit 1) .skip)) (qS (gR D0H) (qS (gR D0I) (.block 2 (.loop (qS (gR Q0T) (qS (.cond (t 56) .skip (.exit 2)) (qS (.block 3 (qS (gR D0J) (.draw v0I [0,0,0,4,12,28,60,0,0,384,896,0,0,0,0,24576,57344,0,131072,393216,917504,2097148,4194303,8388607] []))) (gR I0a))))))))))) (gR I0b))))))) (gR v0J))))⟩
def D0K:SS:=[o 4 (.alloc a0b [.bool false,.slice none 0 0,.bool false,.slice none 0 0])]
def D0L:SS:=[mV 8 0,cK 9 8,o 10 (.fa0 a0d (t 9)),lA 11 0 10,o 12 (.iface a0i (t 11)),mV 13 1,o 14 (.inv (t 12) [(a0h,q0L),(a0i,q0M)] [t 13] false),mV 15 0,cK 16 15,o 17 (.fa0 a0d (t 16)),lA 18 0 17,o 19 (.iface a0i (t 18)),mV 20 0,cK 21 20,fA 22 4 21,lD 23 22,o 24 (.inv (t 19) [(a0h,q0L),(a0i,q0M)] [t 23] false),o 25 (.call o0C [t 14,t 24] false),mV 7 25,o 26 (.ext (t 7) 0),o 27 (.ext (t 7) 1),o 5 (.alloc a0b [.bool false,.slice none 0 0,.bool false,.slice none 0 0]),⟨none,none,.store 4 (t 5) (t 26)⟩,mV 6 27]
def D0M:SS:=[lA 28 4 5,⟨none,none,.store 4 (t 4) (t 28)⟩]
def I0T:SF:=⟨2,29,[.cell 4 true 4],
 (qS (gR D0K) (qS (.draw D0L [0,1,3,7,15,0,63,0,128,384,896,1920,0,4096,12288,28672,65535,131071,262143,524287,524287,0,3145727,8388607] []) (qS (gR D0M) .ret)))⟩
def D0N:SS:=[o 1 (.box a0b (t 0)),o 2 (.alloc a0b [.bool false,.slice none 0 0,.bool false,.slice none 0 0])]
def D0O:SS:=[fA 3 0 1,lA 4 2 3,o 5 (.call H0n [t 4] false),fA 6 2 1,lA 7 2 6,o 8 (.build [.bool false,.slice none 0 0,.bool false,.slice none 0 0] [(0,2,t 5),(2,2,t 7)]),⟨none,none,.store 4 (t 2) (t 8)⟩]
def I0U:SF:=⟨1,9,[.cell 2 true 4],
 (qS (gR D0N) (qS (.draw D0O [0,1,3,0,8,31,63] []) .ret))⟩
def D0P:SS:=[o 4 (.mv (.const (.slice none 0 0)))]
def D0Q:SS:=[mV 9 0,lN 10 9,o 11 (.bin 0 .add (t 10) (i 1)),o 12 (.mk a0l 4 [.int .u32 0] (i 0) (t 11)),mV 5 12]
def D0R:SS:=[o 6 (.mv (.const (.int .u64 0)))]
def D0S:SS:=[mV 13 0,lN 14 13,o 15 (.mv (i 0))]
def t0q:SS:=[o 16 (.bin 0 .lss (t 15) (t 14))]
def D0T:SS:=[iA 17 1 13 15,lD 18 17,mV 8 18]
def D0U:SS:=[mV 19 6,mV 20 8,o 21 (.conv .u64 (t 20)),mV 22 1,o 23 (.bin 0 .shl (t 21) (t 22)),o 24 (.bin 0 .or (t 19) (t 23)),mV 6 24]
def D0V:SS:=[mV 25 5,mV 26 6,o 27 (.call f0E [t 26] true),o 28 (.lit a0l [.int .u32 0] 1 [(0,1,t 27)]),o 29 (.app a0l 1 4 (t 25) (t 28)),mV 5 29]
def D0W:SS:=[mV 30 6,o 31 (.bin 0 .shr (t 30) (.const (.int .u64 32))),mV 6 31]
def D0X:SS:=[o 32 (.bin 0 .add (t 15) (i 1)),mV 15 32]
def v0K:SS:=[mV 33 5,mV 34 6,o 35 (.call f0E [t 34] true),o 36 (.lit a0l [.int .u32 0] 1 [(0,1,t 35)]),o 37 (.app a0l 1 4 (t 33) (t 36)),mV 4 37]
def I0V:SF:=⟨2,38,[.tmp 4],
 (qS (gR D0P) (qS (gR D0Q) (qS (gR D0R) (qS (qS (gR D0S) (.block 0 (.loop (qS (gR t0q) (qS (.cond (t 16) .skip (.exit 0)) (qS (.block 1 (qS (gR D0T) (qS (gR D0U) (qS (gR D0V) (gR D0W))))) (gR D0X))))))) (qS (gR v0K) .ret)))))⟩
def D0Y:SS:=[o 6 (.mv (.const (.bool false)))]
def D0Z:SS:=[o 7 (.mv (.const (.int .u64 0)))]
def E0a:SS:=[mV 10 0,lN 11 10,o 12 (.mv (i 0))]
def p0H:SS:=[o 13 (.bin 0 .lss (t 12) (t 11))]
def t0r:SS:=[mV 14 12,mV 8 14]
def t0s:SS:=[mV 15 8,mV 16 1,lN 17 16,o 18 (.bin 0 .lss (t 15) (t 17))]
def t0t:SS:=[mV 19 7,mV 20 1,mV 21 8,iA 22 1 20 21,lD 23 22,o 24 (.conv .u64 (t 23)),mV 25 2,o 26 (.bin 0 .mul (t 24) (t 25)),o 27 (.bin 0 .add (t 19) (t 26)),mV 7 27]
def t0u:SS:=[mV 28 0,mV 29 8,iA 30 1 28 29,lD 31 30,o 32 (.conv .u64 (t 31)),mV 33 7,o 34 (.bin 0 .and (t 33) (.const (.int .u64 4294967295))),o 35 (.bin 0 .sub (t 32) (t 34)),mV 9 35]
def t0v:SS:=[mV 36 0,mV 37 8,mV 38 9,o 39 (.call f0E [t 38] true),iA 40 1 36 37,⟨none,none,.store 1 (t 40) (t 39)⟩]
def t0w:SS:=[mV 41 7,o 42 (.bin 0 .shr (t 41) (.const (.int .u64 32))),mV 43 9,o 44 (.bin 0 .shr (t 43) (.const (.int .u64 63))),o 45 (.bin 0 .add (t 42) (t 44)),mV 7 45]
def p0G:SS:=[o 46 (.bin 0 .add (t 12) (i 1)),mV 12 46]
def v0L:SS:=[mV 47 7,o 48 (.bin 0 .neq (t 47) (.const (.int .u64 0))),mV 6 48]
def I0W:SF:=⟨3,49,[.tmp 6],
 (qS (gR D0Y) (qS (gR D0Z) (qS (qS (gR E0a) (.block 0 (.loop (qS (gR p0H) (qS (.cond (t 13) .skip (.exit 0)) (qS (.block 1 (qS (gR t0r) (qS (qS (gR t0s) (.cond (t 18) (gR t0t) .skip)) (qS (gR t0u) (qS (gR t0v) (gR t0w)))))) (gR p0G))))))) (qS (gR v0L) .ret))))⟩
def E0b:SS:=[o 4 (.mv (.const (.int .u64 0)))]
def E0c:SS:=[mV 6 0,lN 7 6,o 8 (.mv (i 0))]
def p0I:SS:=[o 9 (.bin 0 .lss (t 8) (t 7))]
def t0x:SS:=[mV 10 8,mV 5 10]
def t0y:SS:=[mV 11 4,mV 12 0,mV 13 5,iA 14 1 12 13,lD 15 14,o 16 (.conv .u64 (t 15)),o 17 (.bin 0 .add (t 11) (t 16)),mV 4 17]
def t0z:SS:=[mV 18 5,mV 19 1,lN 20 19,o 21 (.bin 0 .lss (t 18) (t 20))]
def t0A:SS:=[mV 22 4,mV 23 1,mV 24 5,iA 25 1 23 24,lD 26 25,o 27 (.conv .u64 (t 26)),o 28 (.bin 0 .add (t 22) (t 27)),mV 4 28]
def t0B:SS:=[mV 29 0,mV 30 5,mV 31 4,o 32 (.call f0E [t 31] true),iA 33 1 29 30,⟨none,none,.store 1 (t 33) (t 32)⟩]
def t0C:SS:=[mV 34 4,o 35 (.bin 0 .shr (t 34) (.const (.int .u64 32))),mV 4 35]
def t0D:SS:=[o 36 (.bin 0 .add (t 8) (i 1)),mV 8 36]
def I0X:SF:=⟨2,37,[],
 (qS (gR E0b) (qS (gR E0c) (.block 0 (.loop (qS (gR p0I) (qS (.cond (t 9) .skip (.exit 0)) (qS (.block 1 (qS (gR t0x) (qS (gR t0y) (qS (qS (gR t0z) (.cond (t 21) (gR t0A) .skip)) (qS (gR t0B) (gR t0C)))))) (gR t0D))))))))⟩
def E0d:SS:=[o 4 (.mv (.const (.slice none 0 0)))]
def E0e:SS:=[mV 8 0,lN 9 8,o 10 (.mk a0l 4 [.int .u32 0] (t 9) (t 9)),mV 5 10]
def E0f:SS:=[mV 11 0,lN 12 11,o 13 (.mv (i 0))]
def p0J:SS:=[o 14 (.bin 0 .lss (t 13) (t 12))]
def t0E:SS:=[mV 15 13,mV 6 15]
def t0F:SS:=[mV 16 0,mV 17 6,iA 18 1 16 17,lD 19 18,o 20 (.conv .u64 (t 19)),mV 7 20]
def t0G:SS:=[mV 21 6,o 22 (.bin 0 .add (t 21) (i 1)),mV 23 0,lN 24 23,o 25 (.bin 0 .lss (t 22) (t 24))]
def t0H:SS:=[mV 26 7,mV 27 0,mV 28 6,o 29 (.bin 0 .add (t 28) (i 1)),iA 30 1 27 29,lD 31 30,o 32 (.conv .u64 (t 31)),o 33 (.bin 0 .shl (t 32) (.const (.int .u64 32))),o 34 (.bin 0 .or (t 26) (t 33)),mV 7 34]
def t0I:SS:=[mV 35 5,mV 36 6,mV 37 7,mV 38 1,o 39 (.bin 0 .shr (t 37) (t 38)),o 40 (.call f0E [t 39] true),iA 41 1 35 36,⟨none,none,.store 1 (t 41) (t 40)⟩]
def t0J:SS:=[o 42 (.bin 0 .add (t 13) (i 1)),mV 13 42]
def v0M:SS:=[mV 43 5,mV 4 43]
def I0Y:SF:=⟨2,44,[.tmp 4],
 (qS (gR E0d) (qS (gR E0e) (qS (qS (gR E0f) (.block 0 (.loop (qS (gR p0J) (qS (.cond (t 14) .skip (.exit 0)) (qS (.block 1 (qS (gR t0E) (qS (gR t0F) (qS (qS (gR t0G) (.cond (t 25) (gR t0H) .skip)) (gR t0I))))) (gR t0J))))))) (qS (gR v0M) .ret))))⟩
def E0h:SS:=[o 5 (.box a0h (t 0)),o 6 (.box a0a (t 1)),o 7 (.box a0a (t 2)),o 8 (.box a0a (t 3)),o 9 (.box a0a (t 4)),o 10 (.mv (i 0))]
def E0i:SS:=[lA 11 2 6,lA 12 2 7,o 13 (.call q0N [t 11,t 12] false),lA 14 2 8,lA 15 2 9,o 16 (.call q0N [t 14,t 15] true),o 17 (.call m0y [t 13,t 16] true),mV 10 17]
def I0Z:SF:=⟨5,18,[.tmp 10],
 (qS (gR E0h) (qS (.draw E0i [0,0,3,0,0,31,63,127] []) .ret))⟩
def E0j:SS:=[o 2 (.box a0h (t 0)),o 3 (.box a0a (t 1)),o 4 (.alloc a0a [.bool false,.slice none 0 0])]
def E0k:SS:=[lA 5 2 3,o 6 (.call H0n [t 5] true),⟨none,none,.store 2 (t 4) (t 6)⟩]
def J0a:SF:=⟨2,7,[.cell 4 true 2],
 (qS (gR E0j) (qS (gR E0k) .ret))⟩
def E0l:SS:=[o 2 (.box a0h (t 0)),o 3 (.box a0a (t 1)),o 4 (.alloc a0a [.bool false,.slice none 0 0])]
def E0m:SS:=[lA 5 2 3,⟨none,none,.store 2 (t 4) (t 5)⟩]
def J0b:SF:=⟨2,6,[.cell 4 true 2],
 (qS (gR E0l) (qS (gR E0m) .ret))⟩
def E0n:SS:=[o 2 (.box a0h (t 0)),o 3 (.box a0a (t 1)),o 4 (.alloc a0a [.bool false,.slice none 0 0])]
def E0o:SS:=[lA 5 2 3,⟨none,none,.store 2 (t 4) (t 5)⟩]
def J0c:SF:=⟨2,6,[.cell 4 true 2],
 (qS (gR E0n) (qS (gR E0o) .ret))⟩
def E0p:SS:=[o 2 (.box a0h (t 0)),o 3 (.box a0a (t 1)),o 4 (.mv (i 0))]
def E0q:SS:=[lA 5 2 3,o 6 (.build [.bool false,.slice none 0 0] []),o 7 (.call m0y [t 5,t 6] true),mV 4 7]
def J0d:SF:=⟨2,8,[.tmp 4],
 (qS (gR E0p) (qS (gR E0q) .ret))⟩
def E0r:SS:=[o 6 (.box a0h (t 0)),o 7 (.box a0a (t 1)),o 8 (.box a0a (t 2)),o 9 (.box a0a (t 3)),o 10 (.box a0a (t 4)),o 11 (.box a0a (t 5)),o 12 (.alloc a0a [.bool false,.slice none 0 0])]
def E0s:SS:=[lA 17 2 7,lA 18 2 8,o 19 (.call q0N [t 17,t 18] false),lA 20 2 9,lA 21 2 10,o 22 (.call q0N [t 20,t 21] false),o 23 (.call y0S [t 19,t 22] false),lA 24 2 11,o 25 (.call k0U [t 23,t 24] false),mV 16 25,o 26 (.ext (t 16) 0),o 27 (.ext (t 16) 1),o 28 (.ext (t 16) 2),o 13 (.alloc a0a [.bool false,.slice none 0 0]),o 14 (.alloc a0a [.bool false,.slice none 0 0]),⟨none,none,.store 2 (t 13) (t 26)⟩,⟨none,none,.store 2 (t 14) (t 27)⟩,mV 15 28]
def E0t:SS:=[lA 29 2 13,⟨none,none,.store 2 (t 12) (t 29)⟩]
def J0e:SF:=⟨6,30,[.cell 12 true 2],
 (qS (gR E0r) (qS (.draw E0s [0,0,3,0,0,31,63,0,255,511,1023,1023,1023,0,0,26623,61439,131071] []) (qS (gR E0t) .ret)))⟩
def E0u:SS:=[o 2 (.box a0a (t 0)),o 3 (.box a0a (t 1)),o 4 (.alloc a0a [.bool false,.slice none 0 0])]
def E0v:SS:=[lA 5 2 2,lA 6 2 3,o 7 (.call H0n [t 6] false),o 8 (.call y0V [t 5,t 7] true),⟨none,none,.store 2 (t 4) (t 8)⟩]
def J0f:SF:=⟨2,9,[.cell 4 true 2],
 (qS (gR E0u) (qS (.draw E0v [0,0,2,7,15] []) .ret))⟩
def E0w:SS:=[o 5 (.box a0i (t 0)),o 10 (.mv (i 0))]
def E0x:SS:=[mV 11 1,mV 12 2,o 13 (.bin 0 .mul (t 11) (t 12)),mV 14 3,mV 15 4,o 16 (.bin 0 .mul (t 14) (t 15)),o 17 (.call w0M [t 13,t 16] true),mV 10 17]
def J0g:SF:=⟨5,18,[.tmp 10],
 (qS (gR E0w) (qS (gR E0x) .ret))⟩
def E0y:SS:=[o 2 (.box a0i (t 0)),o 4 (.mv (i 0))]
def E0z:SS:=[mV 5 1,o 6 (.un .neg (t 5)),mV 4 6]
def J0h:SF:=⟨2,7,[.tmp 4],
 (qS (gR E0y) (qS (gR E0z) .ret))⟩
def E0A:SS:=[o 2 (.box a0i (t 0)),o 4 (.alloc a0a [.bool false,.slice none 0 0])]
def E0B:SS:=[mV 5 1,o 6 (.call j0b [t 5] true),⟨none,none,.store 2 (t 4) (t 6)⟩]
def J0i:SF:=⟨2,7,[.cell 4 true 2],
 (qS (gR E0A) (qS (gR E0B) .ret))⟩
def t0K:SS:=[o 2 (.box a0i (t 0)),o 3 (.box a0a (t 1)),o 4 (.mv (i 0))]
def t0L:SS:=[lA 8 2 3,o 9 (.call y0T [t 8] true),mV 7 9,o 10 (.ext (t 7) 0),o 11 (.ext (t 7) 1),mV 5 10,mV 6 11]
def t0M:SS:=[mV 12 6,o 13 (.un .not (t 12))]
def E0C:SS:=[o 14 (.build [] []),o 15 (.iface f0b (t 14)),⟨none,none,.pan (t 15)⟩]
def t0N:SS:=[mV 16 5,o 17 (.call s0u [t 16] true),mV 4 17]
def G0h:SF:=⟨2,18,[.tmp 4],
 (qS (gR t0K) (qS (gR t0L) (qS (qS (gR t0M) (.cond (t 13) (gR E0C) .skip)) (qS (gR t0N) .ret))))⟩
def E0D:SS:=[o 2 (.box a0i (t 0)),o 4 (.mv (i 0))]
def E0E:SS:=[mV 5 1,o 6 (.call w0M [t 5,i 0] true),mV 4 6]
def J0j:SF:=⟨2,7,[.tmp 4],
 (qS (gR E0D) (qS (gR E0E) .ret))⟩
def E0F:SS:=[o 6 (.box a0i (t 0)),o 12 (.mv (i 0))]
def E0G:SS:=[mV 13 1,mV 14 2,o 15 (.bin 0 .mul (t 13) (t 14)),mV 16 3,mV 17 4,o 18 (.bin 0 .mul (t 16) (t 17)),o 19 (.bin 0 .sub (t 15) (t 18)),mV 20 5,o 21 (.bin 0 .quo (t 19) (t 20)),o 22 (.call s0u [t 21] true),mV 12 22]
def J0k:SF:=⟨6,23,[.tmp 12],
 (qS (gR E0F) (qS (gR E0G) .ret))⟩
def E0H:SS:=[o 4 (.mv (i 0))]
def E0I:SS:=[mV 6 0,mV 7 1,o 8 (.bin 0 .lss (t 6) (t 7)),mV 5 8]
def E0J:SS:=[o 4 (.mv (.const (.int .i64 (-1))))]
def E0K:SS:=[mV 10 0,mV 11 1,o 12 (.bin 0 .gtr (t 10) (t 11)),mV 9 12]
def E0L:SS:=[o 4 (.mv (i 1))]
def E0M:SS:=[o 4 (.mv (i 0))]
def J0l:SF:=⟨2,13,[.tmp 4],
 (qS (gR E0H) (qS (.block 0 (qS (gR E0I) (.cond (t 5) (qS (gR E0J) .ret) (qS (gR E0K) (.cond (t 9) (qS (gR E0L) .ret) .skip))))) (qS (gR E0M) .ret)))⟩
def E0N:SS:=[o 1 (.box a0a (t 0)),o 2 (.mv (i 0)),o 3 (.mv (.const (.bool false)))]
def E0O:SS:=[lA 8 2 1,o 9 (.call f0D [t 8] true),mV 4 9]
def E0P:SS:=[mV 10 4,lN 11 10,o 12 (.bin 0 .gtr (t 11) (i 2))]
def E0Q:SS:=[o 2 (.mv (i 0)),o 3 (.mv (.const (.bool false)))]
def E0R:SS:=[o 5 (.mv (.const (.int .u64 0)))]
def E0S:SS:=[mV 13 4,lN 14 13,o 15 (.mv (i 0))]
def Q0U:SS:=[o 16 (.bin 0 .lss (t 15) (t 14))]
def E0T:SS:=[mV 17 15,iA 18 1 13 15,lD 19 18,mV 6 17,mV 7 19]
def E0U:SS:=[mV 20 5,mV 21 7,o 22 (.conv .u64 (t 21)),mV 23 6,o 24 (.bin 0 .mul (i 32) (t 23)),o 25 (.bin 0 .shl (t 22) (t 24)),o 26 (.bin 0 .or (t 20) (t 25)),mV 5 26]
def Q0V:SS:=[o 27 (.bin 0 .add (t 15) (i 1)),mV 15 27]
def v0N:SS:=[lA 29 2 1,o 30 (.call d0V [t 29] true),mV 31 30,og 32 31 true (.mv (t 5)),og 33 31 true (.bin 0 .leq (t 32) (.const (.int .u64 9223372036854775808))),o 34 (.pick (t 31) (t 33) (.const (.bool false))),mV 28 34]
def v0O:SS:=[mV 35 5,o 36 (.un .neg (t 35)),o 37 (.conv .i64 (t 36)),mV 2 37,o 3 (.mv (.const (.bool true)))]
def p0K:SS:=[lA 39 2 1,o 40 (.call d0V [t 39] true),o 41 (.un .not (t 40)),mV 42 41,og 43 42 true (.mv (t 5)),og 44 42 true (.bin 0 .lss (t 43) (.const (.int .u64 9223372036854775808))),o 45 (.pick (t 42) (t 44) (.const (.bool false))),mV 38 45]
def v0P:SS:=[mV 46 5,o 47 (.conv .i64 (t 46)),mV 2 47,o 3 (.mv (.const (.bool true)))]
def p0L:SS:=[o 2 (.mv (i 0)),o 3 (.mv (.const (.bool false)))]
def J0m:SF:=⟨1,48,[.tmp 2,.tmp 3],
 (qS (gR E0N) (qS (gR E0O) (qS (qS (gR E0P) (.cond (t 12) (qS (gR E0Q) .ret) .skip)) (qS (gR E0R) (qS (qS (gR E0S) (.block 0 (.loop (qS (gR Q0U) (qS (.cond (t 16) .skip (.exit 0)) (qS (.block 1 (qS (gR E0T) (gR E0U))) (gR Q0V))))))) (qS (.block 2 (qS (gR v0N) (.cond (t 28) (qS (gR v0O) .ret) (qS (gR p0K) (.cond (t 38) (qS (gR v0P) .ret) .skip))))) (qS (gR p0L) .ret)))))))⟩
def t0O:SS:=[o 2 (.mv (i 0))]
def t0P:SS:=[mV 3 0,o 4 (.bin 0 .leq (t 3) (.const (.int .i64 (-2147483648)))),mV 5 4,og 6 5 false (.mv (t 0)),og 7 5 false (.bin 0 .geq (t 6) (i 2147483648)),o 8 (.pick (t 5) (.const (.bool true)) (t 7))]
def t0Q:SS:=[o 9 (.build [] []),o 10 (.iface f0b (t 9)),⟨none,none,.pan (t 10)⟩]
def t0R:SS:=[mV 11 0,mV 2 11]
def G0i:SF:=⟨1,12,[.tmp 2],
 (qS (gR t0O) (qS (qS (gR t0P) (.cond (t 8) (gR t0Q) .skip)) (qS (gR t0R) .ret)))⟩
end
end Go.Proofs.YtilekhkgobmolaaGreat.AI
