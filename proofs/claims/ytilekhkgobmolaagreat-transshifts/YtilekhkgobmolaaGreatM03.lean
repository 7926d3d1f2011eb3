/- Part 4 of the proof: AiCode0, AiCode1, AiCode2, AiCode3. -/
import Derived.Test.YtilekhkgobmolaaGreatM00
set_option linter.unusedVariables false
set_option linter.unusedSimpArgs false
set_option linter.unusedSectionVars false
namespace Go.Proofs.YtilekhkgobmolaaGreat.AI
section
open Go
abbrev o (d:Nat) (x:SOp):a0D:=⟨some d,none,x⟩
abbrev og (d g:Nat) (b:Bool) (x:SOp):a0D:=⟨some d,some (g,b),x⟩
abbrev t (n:Nat):Opd:=.tmp n
abbrev i (n:Int):Opd:=.const (.int .i64 n)
abbrev mV (d s:Nat):a0D:=⟨some d,none,.mv (.tmp s)⟩
abbrev lD (d s:Nat):a0D:=⟨some d,none,.load false 1 (.tmp s)⟩
abbrev lA (d n s:Nat):a0D:=⟨some d,none,.load true n (.tmp s)⟩
abbrev fA (d n s:Nat):a0D:=⟨some d,none,.fa n (.tmp s)⟩
abbrev iA (d n x y:Nat):a0D:=⟨some d,none,.ia n (.tmp x) (.tmp y)⟩
abbrev lN (d s:Nat):a0D:=⟨some d,none,.len (.tmp s)⟩
abbrev cK (d s:Nat):a0D:=⟨some d,none,.chk (.tmp s)⟩
abbrev SS:Type:=List a0D
abbrev SF:Type:=t0D
abbrev gR:List a0D→SCode:=.reg
abbrev qS:SCode→SCode→SCode:=.seq
inductive RK where | few | all
def RK.p {α:Type}:RK→α→α→α | .few,a,_=>a | .all,_,b=>b
abbrev RK.w (F:RK):Nat:=F.p 1 2
abbrev RK.b (F:RK):Bool:=F.p false true
abbrev f_6:Nat:=6
abbrev f_9:Nat:=9
abbrev R0L:Nat:=10
abbrev Q0i:Nat:=11
abbrev Q0j:Nat:=12
abbrev Q0k:Nat:=13
abbrev F0N:Nat:=21
abbrev O0s:Nat:=22
abbrev y0l:Nat:=23
abbrev Q0l:Nat:=26
abbrev Q0m:Nat:=27
abbrev Q0n:Nat:=28
abbrev R0M:Nat:=29
abbrev R0N:Nat:=30
abbrev R0O:Nat:=31
abbrev I0O:Nat:=32
abbrev R0P:Nat:=39
abbrev R0Q:Nat:=40
abbrev Q0o:Nat:=41
abbrev R0R:Nat:=42
abbrev Q0p:Nat:=44
abbrev R0S:Nat:=45
abbrev Q0q:Nat:=46
abbrev Q0r:Nat:=47
abbrev R0T:Nat:=48
abbrev R0U:Nat:=49
abbrev R0V:Nat:=50
abbrev R0W:Nat:=51
abbrev R0X:Nat:=52
abbrev R0Y:Nat:=53
abbrev R0Z:Nat:=54
abbrev S0a:Nat:=55
abbrev r0w:Nat:=56
abbrev Q0s:Nat:=69
abbrev S0b:Nat:=70
abbrev S0c:Nat:=71
abbrev Q0t:Nat:=72
abbrev S0d:Nat:=73
abbrev S0e:Nat:=74
abbrev S0f:Nat:=75
abbrev t0Z:Nat:=76
abbrev Q0u:Nat:=77
abbrev I0P:Nat:=78
abbrev G0t:Nat:=79
abbrev I0Q:Nat:=80
abbrev S0g:Nat:=81
abbrev S0h:Nat:=82
abbrev S0i:Nat:=83
abbrev G0u:Nat:=84
abbrev U0a:Nat:=85
abbrev y0m:Nat:=86
abbrev Q0v:Nat:=87
abbrev S0j:Nat:=88
abbrev y0n:Nat:=89
abbrev q0q:Nat:=90
abbrev r0P:Nat:=100
abbrev x0U:Nat:=101
abbrev x0V:Nat:=102
abbrev i0H:Nat:=103
abbrev r0Q:Nat:=104
abbrev x0W:Nat:=105
abbrev f0Y:Nat:=106
abbrev d0S:Nat:=107
abbrev f0y:Nat:=108
abbrev x0X:Nat:=109
abbrev v0X:Nat:=110
abbrev v0Y:Nat:=111
abbrev X0v:Nat:=112
abbrev q0i:Nat:=113
abbrev O0a:Nat:=114
abbrev O0b:Nat:=115
abbrev O0c:Nat:=116
abbrev O0d:Nat:=117
abbrev O0e:Nat:=118
abbrev O0f:Nat:=119
abbrev O0g:Nat:=120
abbrev v0Z:Nat:=121
abbrev o0l:Nat:=122
abbrev x0Y:Nat:=123
abbrev q0j:Nat:=124
abbrev w0a:Nat:=125
abbrev f0z:Nat:=126
abbrev q0k:Nat:=130
abbrev w0b:Nat:=131
abbrev m0g:Nat:=132
abbrev q0l:Nat:=133
abbrev x0Z:Nat:=134
abbrev k0B:Nat:=135
abbrev O0h:Nat:=136
abbrev O0i:Nat:=137
abbrev O0j:Nat:=138
abbrev O0k:Nat:=139
abbrev O0l:Nat:=140
abbrev O0m:Nat:=141
abbrev O0n:Nat:=142
abbrev m0h:Nat:=143
abbrev w0c:Nat:=144
abbrev O0o:Nat:=145
abbrev r0R:Nat:=146
abbrev y0a:Nat:=147
abbrev q0m:Nat:=148
abbrev w0d:Nat:=149
abbrev O0p:Nat:=150
abbrev y0b:Nat:=151
abbrev y0c:Nat:=152
abbrev y0d:Nat:=153
abbrev y0e:Nat:=154
abbrev m0i:Nat:=155
abbrev w0e:Nat:=156
abbrev O0q:Nat:=157
abbrev r0S:Nat:=158
abbrev q0n:Nat:=159
abbrev O0r:Nat:=160
abbrev y0f:Nat:=161
abbrev w0f:Nat:=162
abbrev y0g:Nat:=163
abbrev y0h:Nat:=164
abbrev y0i:Nat:=165
abbrev w0g:Nat:=181
abbrev k0C:Nat:=182
abbrev q0o:Nat:=183
abbrev i0I:Nat:=184
abbrev m0j:Nat:=185
abbrev o0m:Nat:=186
abbrev y0j:Nat:=187
abbrev w0h:Nat:=188
abbrev k0D:Nat:=189
abbrev q0p:Nat:=190
abbrev h0V:Nat:=191
abbrev m0k:Nat:=192
abbrev o0n:Nat:=193
abbrev w0i:Nat:=194
abbrev y0k:Nat:=195
abbrev r0T:Nat:=196
abbrev d0p:Nat:=2
abbrev e0i:Nat:=3
abbrev t0F:Nat:=9
abbrev a0R:Nat:=24
abbrev c0r:Nat:=28
abbrev a0a:Nat:=38
abbrev a0b:Nat:=40
abbrev a0Z:Nat:=42
abbrev a0C:Nat:=43
abbrev b0N:Nat:=45
abbrev b0b:Nat:=54
abbrev e0A:Nat:=64
abbrev b0G:Nat:=79
abbrev a0m:Nat:=96
abbrev a0G:Nat:=137
abbrev a0h:Nat:=143
abbrev a0i:Nat:=162
abbrev a0t:Nat:=163
abbrev a0c:Nat:=167
abbrev a0w:Nat:=179
abbrev a0d:Nat:=183
abbrev e0v:Nat:=185
abbrev f0a:Nat:=226
def P0q:SS:=[o 8 (.mv (.const (.bool false)))]
def P0r:SS:=[mV 16 0,mV 17 1,o 18 (.mnx false (t 16) [t 17]),o 19 (.conv .i64 (t 18)),mV 20 0,mV 21 1,o 22 (.mnx true (t 20) [t 21]),o 23 (.conv .i64 (t 22)),mV 9 19,mV 10 23]
def P0s:SS:=[o 11 (.mv (i 1))]
def P0t:SS:=[mV 24 3]
def S0V:SS:=[o 11 (.mv (.const (.int .i64 (-1))))]
def P0u:SS:=[mV 25 11,o 26 (.call F0N [t 25] true),o 27 (.lit a0a [.bool false,.slice none 0 0] 1 [(0,2,t 26)]),mV 28 2,o 29 (.conv .i64 (t 28)),o 30 (.call F0N [t 29] true),o 31 (.build [.slice none 0 0,.slice none 0 0,.bool false,.slice none 0 0] [(0,1,t 27),(2,2,t 30)]),o 32 (.lit e0A [.slice none 0 0,.slice none 0 0,.bool false,.slice none 0 0] 1 [(0,4,t 31)]),o 33 (.build [.int .i64 0,.int .i64 0,.int .i64 0,.slice none 0 0,.slice none 0 0,.slice none 0 0] [(4,1,t 32)]),o 12 (.alloc c0r [.int .i64 0,.int .i64 0,.int .i64 0,.slice none 0 0,.slice none 0 0,.slice none 0 0]),⟨none,none,.store 6 (t 12) (t 33)⟩]
def P0v:SS:=[o 35 (.call O0s [i 1] false),lA 36 6 12,mV 37 10,o 38 (.call y0l [t 37] false),o 39 (.build [.int .i64 0,.bool false,.slice none 0 0,.bool false,.slice none 0 0] [(1,4,t 38)]),mV 40 9,o 41 (.un .neg (t 40)),o 42 (.call y0l [t 41] false),o 43 (.build [.int .i64 0,.bool false,.slice none 0 0,.bool false,.slice none 0 0] [(1,4,t 42)]),o 44 (.lit a0Z [.int .i64 0,.bool false,.slice none 0 0,.bool false,.slice none 0 0] 2 [(0,5,t 39),(5,5,t 43)]),o 45 (.call R0L [t 35,t 36,t 44] true),mV 34 45,o 46 (.ext (t 34) 0),o 47 (.ext (t 34) 1),mV 13 46,mV 14 47]
def P0w:SS:=[mV 48 3]
def S0W:SS:=[mV 49 9,mV 15 49]
def S0X:SS:=[mV 50 10,o 51 (.un .neg (t 50)),mV 9 51]
def L0I:SS:=[mV 52 15,o 53 (.un .neg (t 52)),mV 10 53]
def E0J:SS:=[mV 54 14,o 55 (.call Q0j [t 54] true),o 56 (.bin 0 .eql (t 55) (i 0)),mV 57 56,og 58 57 true (.mv (t 13)),og 59 57 true (.len (t 58)),og 60 57 true (.bin 0 .eql (t 59) (i 2)),o 61 (.pick (t 57) (t 60) (.const (.bool false))),mV 62 61,og 63 62 true (.mv (t 13)),og 64 62 true (.ia 5 (t 63) (i 0)),og 65 62 true (.load true 5 (t 64)),og 66 62 true (.mv (t 10)),og 67 62 true (.mv (t 2)),og 68 62 true (.conv .i64 (t 67)),og 69 62 true (.bin 0 .add (t 66) (t 68)),og 70 62 true (.call y0l [t 69] false),og 71 62 true (.build [.int .i64 0,.bool false,.slice none 0 0,.bool false,.slice none 0 0] [(1,4,t 70)]),og 72 62 true (.call Q0k [t 65,t 71] true),o 73 (.pick (t 62) (t 72) (.const (.bool false))),mV 74 73,og 75 74 true (.mv (t 13)),og 76 74 true (.ia 5 (t 75) (i 1)),og 77 74 true (.load true 5 (t 76)),og 78 74 true (.mv (t 9)),og 79 74 true (.un .neg (t 78)),og 80 74 true (.mv (t 2)),og 81 74 true (.conv .i64 (t 80)),og 82 74 true (.bin 0 .sub (t 79) (t 81)),og 83 74 true (.call y0l [t 82] false),og 84 74 true (.build [.int .i64 0,.bool false,.slice none 0 0,.bool false,.slice none 0 0] [(1,4,t 83)]),og 85 74 true (.call Q0k [t 77,t 84] true),o 86 (.pick (t 74) (t 85) (.const (.bool false))),mV 87 86,og 88 87 true (.call f_9 [] true),o 89 (.pick (t 87) (t 88) (.const (.bool false))),mV 8 89]
def s_6:SF:=⟨4,90,[.tmp 8],
 (qS (gR P0q) (qS (gR P0r) (qS (gR P0s) (qS (qS (gR P0t) (.cond (t 24) (gR S0V) .skip)) (qS (gR P0u) (qS (.draw P0v [0,0,0,5,13,0,32,109,237,509,1023,2047,4095,4095,8191,32767] []) (qS (qS (gR P0w) (.cond (t 48) (qS (gR S0W) (qS (gR S0X) (gR L0I))) .skip)) (qS (.draw E0J [0,1,3,7,15,31,63,127,255,511,1023,2047,511,511,8703,29183,61951,127487,262143,524287,1048575,2097151,4194303,8388607,2097151,18874367,2097151,69206015,253755391,522190847,1059061759,2147483647,4294967295,8589934591,17179869183,34359738367,68719476735] []) .ret))))))))⟩
def T0h:SS:=[o 0 (.mv (.const (.bool false)))]
def T0i:SS:=[o 5 (.call F0N [i 1] true),o 6 (.lit a0a [.bool false,.slice none 0 0] 1 [(0,2,t 5)]),o 7 (.call F0N [i 1] true),o 8 (.build [.slice none 0 0,.slice none 0 0,.bool false,.slice none 0 0] [(0,1,t 6),(2,2,t 7)]),o 9 (.lit e0A [.slice none 0 0,.slice none 0 0,.bool false,.slice none 0 0] 1 [(0,4,t 8)]),o 10 (.build [.int .i64 0,.int .i64 0,.int .i64 0,.slice none 0 0,.slice none 0 0,.slice none 0 0] [(4,1,t 9)]),o 1 (.alloc c0r [.int .i64 0,.int .i64 0,.int .i64 0,.slice none 0 0,.slice none 0 0,.slice none 0 0]),⟨none,none,.store 6 (t 1) (t 10)⟩]
def T0j:SS:=[o 12 (.call O0s [i 1] false),lA 13 6 1,o 14 (.call y0l [i 3] false),o 15 (.build [.int .i64 0,.bool false,.slice none 0 0,.bool false,.slice none 0 0] [(1,4,t 14)]),o 16 (.build [.int .i64 0,.bool false,.slice none 0 0,.bool false,.slice none 0 0] [(0,1,i 1)]),o 17 (.lit a0Z [.int .i64 0,.bool false,.slice none 0 0,.bool false,.slice none 0 0] 2 [(0,5,t 15),(5,5,t 16)]),o 18 (.call Q0i [t 12,t 13,t 17,i 0] false),mV 11 18,o 19 (.ext (t 11) 0),o 20 (.ext (t 11) 1),o 21 (.ext (t 11) 2),o 2 (.alloc a0Z [.int .i64 0,.bool false,.slice none 0 0,.bool false,.slice none 0 0]),o 3 (.alloc b0N [.int .i64 0,.bool false,.slice none 0 0,.bool false,.slice none 0 0,.slice none 0 0,.slice none 0 0,.slice none 0 0]),⟨none,none,.store 5 (t 2) (t 19)⟩,⟨none,none,.store 8 (t 3) (t 20)⟩,mV 4 21]
def T0k:SS:=[mV 22 4,o 23 (.call Q0j [t 22] true),o 24 (.bin 0 .eql (t 23) (i 0)),mV 25 24,og 26 25 true (.fa 0 (t 2)),og 27 25 true (.load false 1 (t 26)),og 28 25 true (.bin 0 .eql (t 27) (i 0)),o 29 (.pick (t 25) (t 28) (.const (.bool false))),mV 30 29,og 31 30 true (.fa 1 (t 2)),og 32 30 true (.load true 4 (t 31)),og 33 30 true (.call y0l [i 4] false),og 34 30 true (.call Q0l [t 32,t 33] true),o 35 (.pick (t 30) (t 34) (.const (.bool false))),mV 0 35]
def s_9:SF:=⟨0,36,[.tmp 0],
 (qS (gR T0h) (qS (gR T0i) (qS (.draw T0j [0,0,1,5,0,29,63,127,255,255,255,0,0,6655,15359,32767] []) (qS (.draw T0k [0,1,3,7,15,31,63,127,255,511,1023,511,4095,8191,16383] []) .ret))))⟩
def J0d:SS:=[o 3 (.box a0R (t 0)),o 4 (.box c0r (t 1)),o 6 (.mv (.const (.slice none 0 0))),o 7 (.mv (i 0))]
def J0e:SS:=[o 8 (.mv (.const (.slice none 0 0)))]
def J0f:SS:=[fA 13 0 3,lD 14 13,lN 15 14,o 16 (.mv (i 0))]
def S0H:SS:=[o 17 (.bin 0 .lss (t 16) (t 15))]
def J0g:SS:=[mV 18 16,mV 9 18]
def J0h:SS:=[lA 20 1 3,lA 21 6 4,mV 22 2,mV 23 9,o 24 (.call Q0i [t 20,t 21,t 22,t 23] true),mV 19 24,o 25 (.ext (t 19) 0),o 26 (.ext (t 19) 1),o 27 (.ext (t 19) 2),o 10 (.alloc a0Z [.int .i64 0,.bool false,.slice none 0 0,.bool false,.slice none 0 0]),o 11 (.alloc b0N [.int .i64 0,.bool false,.slice none 0 0,.bool false,.slice none 0 0,.slice none 0 0,.slice none 0 0,.slice none 0 0]),⟨none,none,.store 5 (t 10) (t 25)⟩,⟨none,none,.store 8 (t 11) (t 26)⟩,mV 12 27]
def A0o:SS:=[mV 28 12,o 29 (.bin 0 .neq (t 28) (i 0))]
def J0i:SS:=[mV 30 12,o 6 (.mv (.const (.slice none 0 0))),mV 7 30]
def J0j:SS:=[mV 31 8,lA 32 5 10,o 33 (.lit a0Z [.int .i64 0,.bool false,.slice none 0 0,.bool false,.slice none 0 0] 1 [(0,5,t 32)]),o 34 (.app a0Z 5 72 (t 31) (t 33)),mV 8 34]
def S0I:SS:=[o 35 (.bin 0 .add (t 16) (i 1)),mV 16 35]
def A0n:SS:=[mV 36 8,mV 6 36,o 7 (.mv (i 0))]
def U0o:SF:=⟨3,37,[.tmp 6,.tmp 7],
 (qS (gR J0d) (qS (gR J0e) (qS (qS (gR J0f) (.block 0 (.loop (qS (gR S0H) (qS (.cond (t 17) .skip (.exit 0)) (qS (.block 1 (qS (gR J0g) (qS (gR J0h) (qS (qS (gR A0o) (.cond (t 29) (qS (gR J0i) .ret) .skip)) (gR J0j))))) (gR S0I))))))) (qS (gR A0n) .ret))))⟩
def J0k:SS:=[o 4 (.box a0R (t 0)),o 5 (.box c0r (t 1)),o 8 (.alloc a0Z [.int .i64 0,.bool false,.slice none 0 0,.bool false,.slice none 0 0]),o 9 (.alloc b0N [.int .i64 0,.bool false,.slice none 0 0,.bool false,.slice none 0 0,.slice none 0 0,.slice none 0 0,.slice none 0 0]),o 10 (.mv (i 0))]
def J0l:SS:=[lA 17 1 4,lA 18 6 5,mV 19 2,mV 20 3,o 21 (.call Q0m [t 17,t 18,t 19,t 20] true),o 22 (.un .not (t 21))]
def J0m:SS:=[o 23 (.build [.int .i64 0,.bool false,.slice none 0 0,.bool false,.slice none 0 0] []),o 24 (.build [.int .i64 0,.bool false,.slice none 0 0,.bool false,.slice none 0 0,.slice none 0 0,.slice none 0 0,.slice none 0 0] []),⟨none,none,.store 5 (t 8) (t 23)⟩,⟨none,none,.store 8 (t 9) (t 24)⟩,o 10 (.mv (i 1))]
def J0n:SS:=[mV 25 2,o 26 (.call Q0n [t 25] true)]
def J0o:SS:=[o 27 (.build [.int .i64 0,.bool false,.slice none 0 0,.bool false,.slice none 0 0] [(0,1,(.const (.int .i64 (-1))))]),o 28 (.build [.int .i64 0,.bool false,.slice none 0 0,.bool false,.slice none 0 0,.slice none 0 0,.slice none 0 0,.slice none 0 0] []),⟨none,none,.store 5 (t 8) (t 27)⟩,⟨none,none,.store 8 (t 9) (t 28)⟩,o 10 (.mv (i 0))]
def J0p:SS:=[lA 30 1 4,lA 31 6 5,mV 32 2,mV 33 3,o 34 (.call R0M [t 30,t 31,t 32,t 33] true),mV 29 34,o 35 (.ext (t 29) 0),o 36 (.ext (t 29) 1),o 37 (.ext (t 29) 2),o 11 (.alloc b0G [.int .i64 0,.slice none 0 0,.slice none 0 0,.slice none 0 0]),o 12 (.alloc a0b [.bool false,.slice none 0 0,.bool false,.slice none 0 0]),⟨none,none,.store 4 (t 11) (t 35)⟩,⟨none,none,.store 4 (t 12) (t 36)⟩,mV 13 37]
def J0q:SS:=[mV 38 13,o 39 (.un .not (t 38))]
def S0J:SS:=[o 40 (.build [.int .i64 0,.bool false,.slice none 0 0,.bool false,.slice none 0 0] []),o 41 (.build [.int .i64 0,.bool false,.slice none 0 0,.bool false,.slice none 0 0,.slice none 0 0,.slice none 0 0,.slice none 0 0] []),⟨none,none,.store 5 (t 8) (t 40)⟩,⟨none,none,.store 8 (t 9) (t 41)⟩,o 10 (.mv (i 1))]
def J0r:SS:=[lA 43 4 11,o 44 (.call R0N [t 43] true),mV 42 44,o 45 (.ext (t 42) 0),o 46 (.ext (t 42) 1),o 47 (.ext (t 42) 2),o 14 (.alloc b0N [.int .i64 0,.bool false,.slice none 0 0,.bool false,.slice none 0 0,.slice none 0 0,.slice none 0 0,.slice none 0 0]),⟨none,none,.store 8 (t 14) (t 45)⟩,mV 15 46,mV 16 47]
def J0s:SS:=[mV 49 16,o 50 (.bin 0 .neq (t 49) (i 0)),mV 48 50]
def O0W:SS:=[o 51 (.build [.int .i64 0,.bool false,.slice none 0 0,.bool false,.slice none 0 0] []),o 52 (.build [.int .i64 0,.bool false,.slice none 0 0,.bool false,.slice none 0 0,.slice none 0 0,.slice none 0 0,.slice none 0 0] []),mV 53 16,⟨none,none,.store 5 (t 8) (t 51)⟩,⟨none,none,.store 8 (t 9) (t 52)⟩,mV 10 53]
def p0f:SS:=[fA 55 0 14,lD 56 55,o 57 (.bin 0 .eql (t 56) (i 2)),mV 54 57]
def A0D:SS:=[o 58 (.build [.int .i64 0,.bool false,.slice none 0 0,.bool false,.slice none 0 0] [(0,1,(.const (.int .i64 (-1))))]),lA 59 8 14,⟨none,none,.store 5 (t 8) (t 58)⟩,⟨none,none,.store 8 (t 9) (t 59)⟩,o 10 (.mv (i 0))]
def s0q:SS:=[fA 61 0 14,lD 62 61,o 63 (.bin 0 .eql (t 62) (i 3)),mV 60 63]
def A0E:SS:=[o 64 (.build [.int .i64 0,.bool false,.slice none 0 0,.bool false,.slice none 0 0] [(0,1,i 1)]),lA 65 8 14,⟨none,none,.store 5 (t 8) (t 64)⟩,⟨none,none,.store 8 (t 9) (t 65)⟩,o 10 (.mv (i 0))]
def A0F:SS:=[fA 66 1 14,lA 67 4 66,o 68 (.call I0O [t 67] false),lA 69 4 12,o 70 (.call R0O [t 68,t 69] false),lA 71 8 14,⟨none,none,.store 5 (t 8) (t 70)⟩,⟨none,none,.store 8 (t 9) (t 71)⟩,o 10 (.mv (i 0))]
def U0p:SF:=⟨4,72,[.cell 8 true 5,.cell 9 true 8,.tmp 10],
 (qS (gR J0k) (qS (qS (gR J0l) (.cond (t 22) (qS (gR J0m) .ret) .skip)) (qS (qS (gR J0n) (.cond (t 26) (qS (gR J0o) .ret) .skip)) (qS (gR J0p) (qS (qS (gR J0q) (.cond (t 39) (qS (gR S0J) .ret) .skip)) (qS (gR J0r) (qS (.block 0 (qS (gR J0s) (.cond (t 48) (qS (gR O0W) .ret) (qS (gR p0f) (.cond (t 54) (qS (.draw A0D [0,0,1,7,15] [(1,2)]) .ret) (qS (gR s0q) (.cond (t 60) (qS (.draw A0E [0,0,1,7,15] [(1,2)]) .ret) .skip))))))) (qS (.draw A0F [0,1,3,0,15,0,31,127,255] [(5,6)]) .ret))))))))⟩
def J0t:SS:=[o 2 (.mv (i 0))]
def J0u:SS:=[mV 3 0,mV 2 3]
def U0q:SF:=⟨1,4,[.tmp 2],
 (qS (gR J0t) (qS (gR J0u) .ret))⟩
def J0v:SS:=[o 2 (.box a0Z (t 0)),o 3 (.box a0Z (t 1)),o 4 (.mv (.const (.bool false)))]
def J0w:SS:=[fA 5 0 2,lD 6 5,fA 7 0 3,lD 8 7,o 9 (.bin 0 .eql (t 6) (t 8)),mV 10 9,og 11 10 true (.fa 1 (t 2)),og 12 10 true (.load true 4 (t 11)),og 13 10 true (.fa 1 (t 3)),og 14 10 true (.load true 4 (t 13)),og 15 10 true (.call Q0l [t 12,t 14] true),o 16 (.pick (t 10) (t 15) (.const (.bool false))),mV 4 16]
def U0r:SF:=⟨2,17,[.tmp 4],
 (qS (gR J0v) (qS (gR J0w) .ret))⟩
def J0x:SS:=[o 2 (.alloc a0a [.bool false,.slice none 0 0])]
def E0j:SS:=[mV 4 0,o 5 (.conv .u64 (t 4)),mV 3 5]
def E0k:SS:=[mV 6 0,o 7 (.bin 0 .lss (t 6) (i 0))]
def J0y:SS:=[mV 8 3,o 9 (.un .neg (t 8)),mV 3 9]
def E0l:SS:=[mV 10 0,o 11 (.bin 0 .lss (t 10) (i 0)),mV 12 3,o 13 (.conv .u32 (t 12)),mV 14 3,o 15 (.bin 0 .shr (t 14) (.const (.int .u64 32))),o 16 (.conv .u32 (t 15)),o 17 (.lit a0m [.int .u32 0] 2 [(0,1,t 13),(1,1,t 16)]),o 18 (.call R0P [t 11,t 17] true),⟨none,none,.store 2 (t 2) (t 18)⟩]
def U0s:SF:=⟨1,19,[.cell 2 true 2],
 (qS (gR J0x) (qS (gR E0j) (qS (qS (gR E0k) (.cond (t 7) (gR J0y) .skip)) (qS (gR E0l) .ret))))⟩
def J0z:SS:=[o 2 (.alloc a0R [.slice none 0 0])]
def J0A:SS:=[mV 5 0,o 6 (.call R0Q [t 5] true),mV 0 6]
def J0B:SS:=[o 3 (.mv (.const (.slice none 0 0)))]
def J0C:SS:=[o 4 (.mv (i 0))]
def J0D:SS:=[mV 7 4,mV 8 0,o 9 (.bin 0 .lss (t 7) (t 8))]
def J0E:SS:=[mV 12 3,mV 13 0,mV 14 4,o 15 (.call Q0o [t 13,t 14,i 1,(.const (.int .i64 (-1))),i 0] true),mV 16 0,mV 17 4,o 18 (.call Q0o [t 16,t 17,(.const (.int .i64 (-1))),(.const (.int .i64 (-1))),i 0] true),o 19 (.lit a0C [.slice none 0 0] 2 [(0,1,t 15),(1,1,t 18)]),o 20 (.app a0C 1 24 (t 12) (t 19)),mV 3 20]
def J0F:SS:=[mV 10 4,o 11 (.bin 0 .add (t 10) (i 1)),mV 4 11]
def J0G:SS:=[mV 21 3,o 22 (.call R0R [t 21] true),⟨none,none,.store 1 (t 2) (t 22)⟩]
def U0t:SF:=⟨1,23,[.cell 2 true 1],
 (qS (gR J0z) (qS (gR J0A) (qS (gR J0B) (qS (qS (gR J0C) (.block 0 (.loop (qS (qS (gR J0D) (.cond (t 9) .skip (.exit 0))) (qS (.block 1 (gR J0E)) (gR J0F)))))) (qS (gR J0G) .ret)))))⟩
def J0H:SS:=[o 2 (.alloc a0b [.bool false,.slice none 0 0,.bool false,.slice none 0 0])]
def J0I:SS:=[mV 3 0,o 4 (.call F0N [t 3] true),o 5 (.call F0N [i 1] true),o 6 (.build [.bool false,.slice none 0 0,.bool false,.slice none 0 0] [(0,2,t 4),(2,2,t 5)]),⟨none,none,.store 4 (t 2) (t 6)⟩]
def U0u:SF:=⟨1,7,[.cell 2 true 4],
 (qS (gR J0H) (qS (gR J0I) .ret))⟩
def J0J:SS:=[o 2 (.box a0b (t 0)),o 3 (.box a0b (t 1)),o 4 (.mv (.const (.bool false)))]
def J0K:SS:=[fA 5 0 2,lA 6 2 5,fA 7 0 3,lA 8 2 7,o 9 (.call Q0p [t 6,t 8] true),mV 10 9,og 11 10 true (.fa 2 (t 2)),og 12 10 true (.load true 2 (t 11)),og 13 10 true (.fa 2 (t 3)),og 14 10 true (.load true 2 (t 13)),og 15 10 true (.call Q0p [t 12,t 14] true),o 16 (.pick (t 10) (t 15) (.const (.bool false))),mV 4 16]
def U0v:SF:=⟨2,17,[.tmp 4],
 (qS (gR J0J) (qS (gR J0K) .ret))⟩
def J0L:SS:=[o 4 (.box a0R (t 0)),o 5 (.box c0r (t 1)),o 8 (.mv (.const (.bool false)))]
def J0M:SS:=[fA 10 4 5,lD 11 10,lN 12 11,mV 9 12]
def J0N:SS:=[lA 13 1 4,mV 14 9,mV 15 2,o 16 (.call R0S [t 13,t 14,t 15] true),mV 17 16,og 18 17 true (.mv (t 3)),og 19 17 true (.bin 0 .geq (t 18) (i 0)),o 20 (.pick (t 17) (t 19) (.const (.bool false))),mV 21 20,og 22 21 true (.mv (t 3)),og 23 21 true (.fa 0 (t 4)),og 24 21 true (.load false 1 (t 23)),og 25 21 true (.len (t 24)),og 26 21 true (.bin 0 .lss (t 22) (t 25)),o 27 (.pick (t 21) (t 26) (.const (.bool false))),mV 28 27,og 29 28 true (.fa 2 (t 5)),og 30 28 true (.load false 1 (t 29)),og 31 28 true (.bin 0 .geq (t 30) (i 0)),o 32 (.pick (t 28) (t 31) (.const (.bool false))),mV 33 32,og 34 33 true (.fa 4 (t 5)),og 35 33 true (.load false 1 (t 34)),og 36 33 true (.mv (t 9)),og 37 33 true (.fa 2 (t 5)),og 38 33 true (.load false 1 (t 37)),og 39 33 true (.call Q0q [t 35,t 36,t 38] true),o 40 (.pick (t 33) (t 39) (.const (.bool false))),mV 41 40,og 42 41 true (.fa 3 (t 5)),og 43 41 true (.load false 1 (t 42)),og 44 41 true (.mv (t 9)),og 45 41 true (.fa 2 (t 5)),og 46 41 true (.load false 1 (t 45)),og 47 41 true (.call Q0q [t 43,t 44,t 46] true),o 48 (.pick (t 41) (t 47) (.const (.bool false))),mV 8 48]
def U0w:SF:=⟨4,49,[.tmp 8],
 (qS (gR J0L) (qS (gR J0M) (qS (gR J0N) .ret)))⟩
def J0O:SS:=[o 2 (.mv (.const (.bool false)))]
def J0P:SS:=[mV 3 0,o 4 (.call Q0r [t 3,.fn R0T] true),mV 2 4]
def U0x:SF:=⟨1,5,[.tmp 2],
 (qS (gR J0O) (qS (gR J0P) .ret))⟩
def J0Q:SS:=[o 4 (.box a0R (t 0)),o 5 (.box c0r (t 1)),o 8 (.alloc b0G [.int .i64 0,.slice none 0 0,.slice none 0 0,.slice none 0 0]),o 9 (.alloc a0b [.bool false,.slice none 0 0,.bool false,.slice none 0 0]),o 10 (.mv (.const (.bool false)))]
def J0R:SS:=[lA 14 1 4,lA 15 6 5,mV 16 2,mV 17 3,o 18 (.call Q0m [t 14,t 15,t 16,t 17] true),o 19 (.un .not (t 18)),mV 20 19,og 21 20 false (.load true 1 (t 4)),og 22 20 false (.load true 6 (t 5)),og 23 20 false (.mv (t 2)),og 24 20 false (.call R0U [t 21,t 22,t 23] true),og 25 20 false (.un .not (t 24)),o 26 (.pick (t 20) (.const (.bool true)) (t 25)),mV 27 26,og 28 27 false (.mv (t 2)),og 29 27 false (.call Q0n [t 28] true),o 30 (.pick (t 27) (.const (.bool true)) (t 29))]
def S0K:SS:=[o 31 (.build [.int .i64 0,.slice none 0 0,.slice none 0 0,.slice none 0 0] []),o 32 (.build [.bool false,.slice none 0 0,.bool false,.slice none 0 0] []),⟨none,none,.store 4 (t 8) (t 31)⟩,⟨none,none,.store 4 (t 9) (t 32)⟩,o 10 (.mv (.const (.bool false)))]
def J0S:SS:=[lA 33 1 4,mV 34 2,fA 35 4 5,lD 36 35,lN 37 36,fA 38 2 5,lD 39 38,o 40 (.bin 0 .add (t 37) (t 39)),o 41 (.call R0V [t 33,t 34,t 40] true),o 11 (.alloc b0G [.int .i64 0,.slice none 0 0,.slice none 0 0,.slice none 0 0]),⟨none,none,.store 4 (t 11) (t 41)⟩]
def J0T:SS:=[fA 42 3 5,lD 43 42,o 44 (.call R0W [t 11,t 43] true)]
def J0U:SS:=[lA 46 1 4,lA 47 6 5,mV 48 3,o 49 (.call R0X [t 46,t 47,t 48] true),mV 45 49,o 50 (.ext (t 45) 0),o 51 (.ext (t 45) 1),o 13 (.alloc a0b [.bool false,.slice none 0 0,.bool false,.slice none 0 0]),mV 12 50,⟨none,none,.store 4 (t 13) (t 51)⟩]
def J0V:SS:=[mV 52 12,fA 53 3 11,⟨none,none,.store 1 (t 53) (t 52)⟩]
def J0W:SS:=[lA 54 4 11,lA 55 4 13,⟨none,none,.store 4 (t 8) (t 54)⟩,⟨none,none,.store 4 (t 9) (t 55)⟩,o 10 (.mv (.const (.bool true)))]
def U0y:SF:=⟨4,56,[.cell 8 true 4,.cell 9 true 4,.tmp 10],
 (qS (gR J0Q) (qS (qS (gR J0R) (.cond (t 30) (qS (gR S0K) .ret) .skip)) (qS (gR J0S) (qS (gR J0T) (qS (gR J0U) (qS (gR J0V) (qS (.draw J0W [0,0,1,7,15] [(1,2)]) .ret)))))))⟩
def J0X:SS:=[o 1 (.box b0G (t 0)),o 2 (.alloc b0N [.int .i64 0,.bool false,.slice none 0 0,.bool false,.slice none 0 0,.slice none 0 0,.slice none 0 0,.slice none 0 0]),o 3 (.mv (i 0)),o 4 (.mv (i 0))]
def J0Y:SS:=[lA 7 4 1,o 8 (.call R0Y [t 7] true),o 9 (.un .not (t 8))]
def S0L:SS:=[o 10 (.build [.int .i64 0,.bool false,.slice none 0 0,.bool false,.slice none 0 0,.slice none 0 0,.slice none 0 0,.slice none 0 0] []),⟨none,none,.store 8 (t 2) (t 10)⟩,o 3 (.mv (i 0)),o 4 (.mv (i 1))]
def J0Z:SS:=[lA 12 4 1,o 13 (.call R0Z [t 12] true),mV 11 13,o 14 (.ext (t 11) 0),o 15 (.ext (t 11) 1),o 5 (.alloc b0N [.int .i64 0,.bool false,.slice none 0 0,.bool false,.slice none 0 0,.slice none 0 0,.slice none 0 0,.slice none 0 0]),⟨none,none,.store 8 (t 5) (t 14)⟩,mV 6 15]
def K0a:SS:=[lA 16 8 5,mV 17 6,⟨none,none,.store 8 (t 2) (t 16)⟩,mV 3 17,o 4 (.mv (i 0))]
def U0z:SF:=⟨1,18,[.cell 2 true 8,.tmp 3,.tmp 4],
 (qS (gR J0X) (qS (qS (gR J0Y) (.cond (t 9) (qS (gR S0L) .ret) .skip)) (qS (gR J0Z) (qS (gR K0a) .ret))))⟩
def K0b:SS:=[o 2 (.box a0Z (t 0)),o 3 (.box a0b (t 1)),o 4 (.alloc a0Z [.int .i64 0,.bool false,.slice none 0 0,.bool false,.slice none 0 0])]
def K0c:SS:=[lA 5 5 2,o 6 (.call S0a [t 5] true),⟨none,none,.store 5 (t 2) (t 6)⟩]
def E0m:SS:=[fA 7 0 2,lD 8 7,o 9 (.bin 0 .neq (t 8) (i 0))]
def K0d:SS:=[lA 10 5 2,⟨none,none,.store 5 (t 4) (t 10)⟩]
def K0e:SS:=[fA 11 1 2,lA 12 4 11,lA 13 4 3,o 14 (.call r0w [t 12,t 13] true),o 15 (.call I0O [t 14] true),⟨none,none,.store 5 (t 4) (t 15)⟩]
def U0A:SF:=⟨2,16,[.cell 4 true 5],
 (qS (gR K0b) (qS (gR K0c) (qS (qS (gR E0m) (.cond (t 9) (qS (gR K0d) .ret) .skip)) (qS (gR K0e) .ret))))⟩
def K0f:SS:=[o 1 (.box a0b (t 0)),o 2 (.alloc a0Z [.int .i64 0,.bool false,.slice none 0 0,.bool false,.slice none 0 0])]
def K0g:SS:=[lA 3 4 1,o 4 (.build [.bool false,.slice none 0 0,.bool false,.slice none 0 0] []),o 5 (.call r0w [t 3,t 4] true),o 6 (.build [.int .i64 0,.bool false,.slice none 0 0,.bool false,.slice none 0 0] [(1,4,t 5)]),⟨none,none,.store 5 (t 2) (t 6)⟩]
def U0B:SF:=⟨1,7,[.cell 2 true 5],
 (qS (gR K0f) (qS (gR K0g) .ret))⟩
def K0h:SS:=[o 4 (.alloc a0a [.bool false,.slice none 0 0])]
def K0i:SS:=[mV 5 1,o 6 (.call Q0s [t 5] true),mV 1 6]
def E0n:SS:=[mV 7 1,lN 8 7,o 9 (.bin 0 .eql (t 8) (i 0))]
def K0j:SS:=[o 10 (.build [.bool false,.slice none 0 0] []),⟨none,none,.store 2 (t 4) (t 10)⟩]
def K0k:SS:=[mV 11 0,o 12 (.lit a0m [.int .u32 0] 0 []),mV 13 1,o 14 (.app a0m 1 4 (t 12) (t 13)),o 15 (.build [.bool false,.slice none 0 0] [(0,1,t 11),(1,1,t 14)]),⟨none,none,.store 2 (t 4) (t 15)⟩]
def U0C:SF:=⟨2,16,[.cell 4 true 2],
 (qS (gR K0h) (qS (gR K0i) (qS (qS (gR E0n) (.cond (t 9) (qS (gR K0j) .ret) .skip)) (qS (gR K0k) .ret))))⟩
def K0l:SS:=[o 2 (.mv (i 0))]
def K0m:SS:=[mV 3 0,o 4 (.mnx false (t 3) [i 6]),o 5 (.mnx true (i 0) [t 4]),mV 2 5]
def U0D:SF:=⟨1,6,[.tmp 2],
 (qS (gR K0l) (qS (gR K0m) .ret))⟩
def K0n:SS:=[o 10 (.mv (.const (.slice none 0 0)))]
def K0o:SS:=[o 11 (.mv (.const (.slice none 0 0)))]
def K0p:SS:=[o 12 (.mv (i 0))]
def K0q:SS:=[mV 14 12,mV 15 0,o 16 (.bin 0 .lss (t 14) (t 15))]
def K0r:SS:=[o 13 (.mv (i 0))]
def K0s:SS:=[mV 19 12,mV 20 1,o 21 (.bin 0 .eql (t 19) (t 20))]
def K0t:SS:=[mV 22 2,mV 13 22]
def K0u:SS:=[mV 23 12,mV 24 3,o 25 (.bin 0 .eql (t 23) (t 24))]
def K0v:SS:=[mV 26 4,mV 13 26]
def K0w:SS:=[mV 27 11,mV 28 13,o 29 (.call y0l [t 28] true),o 30 (.lit a0b [.bool false,.slice none 0 0,.bool false,.slice none 0 0] 1 [(0,4,t 29)]),o 31 (.app a0b 4 64 (t 27) (t 30)),mV 11 31]
def E0o:SS:=[mV 17 12,o 18 (.bin 0 .add (t 17) (i 1)),mV 12 18]
def E0p:SS:=[mV 32 11,mV 10 32]
def U0E:SF:=⟨5,33,[.tmp 10],
 (qS (gR K0n) (qS (gR K0o) (qS (qS (gR K0p) (.block 0 (.loop (qS (qS (gR K0q) (.cond (t 16) .skip (.exit 0))) (qS (.block 1 (qS (gR K0r) (qS (qS (gR K0s) (.cond (t 21) (gR K0t) .skip)) (qS (qS (gR K0u) (.cond (t 25) (gR K0v) .skip)) (gR K0w))))) (gR E0o)))))) (qS (gR E0p) .ret))))⟩
def K0x:SS:=[o 2 (.alloc a0R [.slice none 0 0])]
def K0y:SS:=[mV 3 0,mV 4 0,lN 5 4,o 6 (.mnx false (t 5) [i 40]),o 7 (.sl a0C 1 (t 3) none (some (t 6)) none),o 8 (.build [.slice none 0 0] [(0,1,t 7)]),⟨none,none,.store 1 (t 2) (t 8)⟩]
def U0F:SF:=⟨1,9,[.cell 2 true 1],
 (qS (gR K0x) (qS (gR K0y) .ret))⟩
def K0z:SS:=[o 2 (.box a0a (t 0)),o 3 (.box a0a (t 1)),o 4 (.mv (.const (.bool false)))]
def v0n:SS:=[fA 6 0 2,lD 7 6,fA 8 0 3,lD 9 8,o 10 (.bin 1 .neq (t 7) (t 9)),mV 11 10,og 12 11 false (.fa 1 (t 2)),og 13 11 false (.load false 1 (t 12)),og 14 11 false (.len (t 13)),og 15 11 false (.fa 1 (t 3)),og 16 11 false (.load false 1 (t 15)),og 17 11 false (.len (t 16)),og 18 11 false (.bin 0 .neq (t 14) (t 17)),o 19 (.pick (t 11) (.const (.bool true)) (t 18))]
def E0q:SS:=[o 4 (.mv (.const (.bool false)))]
def K0A:SS:=[o 5 (.mv (i 0))]
def K0B:SS:=[mV 20 5,fA 21 1 2,lD 22 21,lN 23 22,o 24 (.bin 0 .lss (t 20) (t 23))]
def K0C:SS:=[fA 27 1 2,lD 28 27,mV 29 5,iA 30 1 28 29,lD 31 30,fA 32 1 3,lD 33 32,mV 34 5,iA 35 1 33 34,lD 36 35,o 37 (.bin 0 .neq (t 31) (t 36))]
def K0D:SS:=[o 4 (.mv (.const (.bool false)))]
def K0E:SS:=[mV 25 5,o 26 (.bin 0 .add (t 25) (i 1)),mV 5 26]
def K0F:SS:=[o 4 (.mv (.const (.bool true)))]
def U0G:SF:=⟨2,38,[.tmp 4],
 (qS (gR K0z) (qS (qS (gR v0n) (.cond (t 19) (qS (gR E0q) .ret) .skip)) (qS (qS (gR K0A) (.block 0 (.loop (qS (qS (gR K0B) (.cond (t 24) .skip (.exit 0))) (qS (.block 1 (qS (.draw K0C [0,1,0,7,15,0,32,0,224,480,1023] []) (.cond (t 37) (qS (gR K0D) .ret) .skip))) (gR K0E)))))) (qS (gR K0F) .ret))))⟩
def K0G:SS:=[o 3 (.box a0R (t 0)),o 6 (.mv (.const (.bool false)))]
def K0H:SS:=[lA 7 1 3,mV 8 1,o 9 (.call S0b [t 7,t 8] true),mV 10 9,og 11 10 true (.mv (t 2)),og 12 10 true (.len (t 11)),og 13 10 true (.fa 0 (t 3)),og 14 10 true (.load false 1 (t 13)),og 15 10 true (.len (t 14)),og 16 10 true (.bin 0 .eql (t 12) (t 15)),o 17 (.pick (t 10) (t 16) (.const (.bool false))),mV 18 17,og 19 18 true (.mv (t 2)),og 20 18 true (.call Q0r [t 19,.fn S0c] true),og 21 18 true (.un .not (t 20)),o 22 (.pick (t 18) (t 21) (.const (.bool false))),mV 6 22]
def U0H:SF:=⟨3,23,[.tmp 6],
 (qS (gR K0G) (qS (gR K0H) .ret))⟩
def K0I:SS:=[o 4 (.box e0i (t 1)),o 5 (.box e0i (t 2)),o 6 (.mv (.const (.bool false)))]
def K0J:SS:=[mV 7 0,o 8 (.mkfn (.func S0e) [] [t 4,t 5]),o 9 (.call S0d [t 7,t 8] true),o 10 (.un .not (t 9)),mV 6 10]
def U0I:SF:=⟨3,11,[.tmp 6],
 (qS (gR K0I) (qS (gR K0J) .ret))⟩
def K0K:SS:=[o 4 (.mv (.const (.bool false)))]
def K0L:SS:=[mV 5 0,mV 6 1,o 7 (.call S0f [t 5,t 6] true),o 8 (.bin 0 .geq (t 7) (i 0)),mV 4 8]
def U0J:SF:=⟨2,9,[.tmp 4],
 (qS (gR K0K) (qS (gR K0L) .ret))⟩
def K0M:SS:=[o 1 (.box a0Z (t 0)),o 2 (.mv (.const (.bool false)))]
def K0N:SS:=[fA 3 0 1,lD 4 3,o 5 (.bin 0 .lss (t 4) (i 0)),mV 2 5]
def U0K:SF:=⟨1,6,[.tmp 2],
 (qS (gR K0M) (qS (gR K0N) .ret))⟩
def K0O:SS:=[o 3 (.box a0R (t 0)),o 4 (.box c0r (t 1)),o 6 (.mv (.const (.bool false)))]
def K0P:SS:=[fA 10 3 4,lD 11 10,lN 12 11,mV 7 12]
def K0Q:SS:=[mV 13 2,lN 14 13,o 15 (.mv (i 0))]
def S0M:SS:=[o 16 (.bin 0 .lss (t 15) (t 14))]
def K0R:SS:=[iA 17 5 13 15,lA 18 5 17,o 9 (.alloc a0Z [.int .i64 0,.bool false,.slice none 0 0,.bool false,.slice none 0 0]),⟨none,none,.store 5 (t 9) (t 18)⟩]
def E0r:SS:=[fA 19 0 9,lD 20 19,o 21 (.bin 0 .eql (t 20) (i 0))]
def K0S:SS:=[mV 22 7,o 23 (.bin 0 .add (t 22) (i 1)),mV 7 23]
def S0N:SS:=[o 24 (.bin 0 .add (t 15) (i 1)),mV 15 24]
def E0s:SS:=[mV 25 7,o 26 (.bin 0 .leq (t 25) (i 60)),mV 27 26,og 28 27 true (.fa 4 (t 4)),og 29 27 true (.load false 1 (t 28)),og 30 27 true (.len (t 29)),og 31 27 true (.fa 2 (t 4)),og 32 27 true (.load false 1 (t 31)),og 33 27 true (.bin 0 .add (t 30) (t 32)),og 34 27 true (.bin 0 .leq (t 33) (i 60)),o 35 (.pick (t 27) (t 34) (.const (.bool false))),mV 6 35]
def U0L:SF:=⟨3,36,[.tmp 6],
 (qS (gR K0O) (qS (gR K0P) (qS (qS (gR K0Q) (.block 0 (.loop (qS (gR S0M) (qS (.cond (t 16) .skip (.exit 0)) (qS (.block 1 (qS (gR K0R) (qS (gR E0r) (.cond (t 21) (gR K0S) .skip)))) (gR S0N))))))) (qS (gR E0s) .ret))))⟩
def K0T:SS:=[o 3 (.box a0R (t 0)),o 6 (.alloc b0G [.int .i64 0,.slice none 0 0,.slice none 0 0,.slice none 0 0])]
def K0U:SS:=[mV 13 2,o 14 (.build [.int .i64 0,.slice none 0 0,.slice none 0 0,.slice none 0 0] [(0,1,t 13)]),o 7 (.alloc b0G [.int .i64 0,.slice none 0 0,.slice none 0 0,.slice none 0 0]),⟨none,none,.store 4 (t 7) (t 14)⟩]
def K0V:SS:=[mV 15 1,lN 16 15,o 17 (.mv (i 0))]
def S0O:SS:=[o 18 (.bin 0 .lss (t 17) (t 16))]
def K0W:SS:=[mV 19 17,iA 20 5 15 17,lA 21 5 20,o 9 (.alloc a0Z [.int .i64 0,.bool false,.slice none 0 0,.bool false,.slice none 0 0]),mV 8 19,⟨none,none,.store 5 (t 9) (t 21)⟩]
def E0y:SS:=[fA 22 0 9,lD 23 22,o 24 (.bin 0 .neq (t 23) (i 0))]
def K0X:SS:=[mV 25 2,o 26 (.mk a0b 64 [.bool false,.slice none 0 0,.bool false,.slice none 0 0] (i 0) (t 25)),mV 10 26]
def K0Y:SS:=[fA 27 0 3,lD 28 27,mV 29 8,iA 30 1 28 29,lD 31 30,lN 32 31,o 33 (.mv (i 0))]
def S0P:SS:=[o 34 (.bin 0 .lss (t 33) (t 32))]
def K0Z:SS:=[iA 35 4 31 33,lA 36 4 35,o 12 (.alloc a0b [.bool false,.slice none 0 0,.bool false,.slice none 0 0]),⟨none,none,.store 4 (t 12) (t 36)⟩]
def E0t:SS:=[mV 37 10,lA 38 4 12,o 39 (.build [.bool false,.slice none 0 0,.bool false,.slice none 0 0] []),o 40 (.call r0w [t 38,t 39] true),o 41 (.lit a0b [.bool false,.slice none 0 0,.bool false,.slice none 0 0] 1 [(0,4,t 40)]),o 42 (.app a0b 4 64 (t 37) (t 41)),mV 10 42]
def P0j:SS:=[o 43 (.bin 0 .add (t 33) (i 1)),mV 33 43]
def E0u:SS:=[mV 44 10,lN 45 44,mV 46 2,o 47 (.bin 0 .lss (t 45) (t 46))]
def E0v:SS:=[mV 48 10,o 49 (.call t0Z [i 0] true),o 50 (.lit a0b [.bool false,.slice none 0 0,.bool false,.slice none 0 0] 1 [(0,4,t 49)]),o 51 (.app a0b 4 64 (t 48) (t 50)),mV 10 51]
def E0w:SS:=[fA 52 1 7,lD 53 52,mV 54 10,o 55 (.lit a0C [.slice none 0 0] 1 [(0,1,t 54)]),o 56 (.app a0C 1 24 (t 53) (t 55)),fA 57 2 7,lD 58 57,fA 59 1 9,lA 60 4 59,o 61 (.build [.bool false,.slice none 0 0,.bool false,.slice none 0 0] []),o 62 (.call r0w [t 60,t 61] false),o 63 (.lit a0b [.bool false,.slice none 0 0,.bool false,.slice none 0 0] 1 [(0,4,t 62)]),o 64 (.app a0b 4 64 (t 58) (t 63)),fA 65 1 7,⟨none,none,.store 1 (t 65) (t 56)⟩,fA 66 2 7,⟨none,none,.store 1 (t 66) (t 64)⟩]
def P0k:SS:=[o 67 (.bin 0 .add (t 17) (i 1)),mV 17 67]
def E0x:SS:=[lA 68 4 7,⟨none,none,.store 4 (t 6) (t 68)⟩]
def U0M:SF:=⟨3,69,[.cell 6 true 4],
 (qS (gR K0T) (qS (gR K0U) (qS (qS (gR K0V) (.block 0 (.loop (qS (gR S0O) (qS (.cond (t 18) .skip (.exit 0)) (qS (.block 1 (qS (gR K0W) (qS (qS (gR E0y) (.cond (t 24) (.exit 1) .skip)) (qS (gR K0X) (qS (qS (gR K0Y) (.block 2 (.loop (qS (gR S0P) (qS (.cond (t 34) .skip (.exit 2)) (qS (.block 3 (qS (gR K0Z) (gR E0t))) (gR P0j))))))) (qS (.block 4 (.loop (qS (qS (gR E0u) (.cond (t 47) .skip (.exit 4))) (.block 5 (gR E0v))))) (.draw E0w [0,1,0,4,15,0,32,0,128,0,927,1951,4095,127,16383,32767,65535] [(4,6),(4,8)]))))))) (gR P0k))))))) (qS (gR E0x) .ret))))⟩
def L0a:SS:=[mV 9 1,lN 10 9,o 11 (.mv (i 0))]
def S0Q:SS:=[o 12 (.bin 0 .lss (t 11) (t 10))]
def L0b:SS:=[iA 13 4 9 11,lA 14 4 13,o 5 (.alloc e0A [.slice none 0 0,.slice none 0 0,.bool false,.slice none 0 0]),⟨none,none,.store 4 (t 5) (t 14)⟩]
def L0c:SS:=[o 6 (.mv (.const (.slice none 0 0)))]
def L0d:SS:=[fA 15 0 5,lD 16 15,fA 17 1 5,lD 18 17,o 19 (.lit b0b [.slice none 0 0] 2 [(0,1,t 16),(1,1,t 18)]),o 20 (.call Q0u [t 19] true),lN 21 20,o 22 (.mv (i 0))]
def S0R:SS:=[o 23 (.bin 0 .lss (t 22) (t 21))]
def L0e:SS:=[iA 24 2 20 22,lA 25 2 24,o 8 (.alloc a0a [.bool false,.slice none 0 0]),⟨none,none,.store 2 (t 8) (t 25)⟩]
def L0f:SS:=[mV 26 6,lA 27 2 8,o 28 (.call I0P [t 27] true),o 29 (.lit a0b [.bool false,.slice none 0 0,.bool false,.slice none 0 0] 1 [(0,4,t 28)]),o 30 (.app a0b 4 64 (t 26) (t 29)),mV 6 30]
def S0S:SS:=[o 31 (.bin 0 .add (t 22) (i 1)),mV 22 31]
def L0g:SS:=[mV 32 0,mV 33 0,mV 34 0,cK 35 34,fA 36 1 35,lD 37 36,mV 38 6,o 39 (.lit a0C [.slice none 0 0] 1 [(0,1,t 38)]),o 40 (.app a0C 1 24 (t 37) (t 39)),mV 41 0,cK 42 41,fA 43 2 42,lD 44 43,fA 45 2 5,lA 46 2 45,o 47 (.call G0t [t 46] false),o 48 (.call I0P [t 47] false),o 49 (.lit a0b [.bool false,.slice none 0 0,.bool false,.slice none 0 0] 1 [(0,4,t 48)]),o 50 (.app a0b 4 64 (t 44) (t 49)),cK 51 32,fA 52 1 51,⟨none,none,.store 1 (t 52) (t 40)⟩,cK 53 33,fA 54 2 53,⟨none,none,.store 1 (t 54) (t 50)⟩]
def P0l:SS:=[o 55 (.bin 0 .add (t 11) (i 1)),mV 11 55]
def U0N:SF:=⟨2,56,[],
 (qS (gR L0a) (.block 0 (.loop (qS (gR S0Q) (qS (.cond (t 12) .skip (.exit 0)) (qS (.block 1 (qS (gR L0b) (qS (gR L0c) (qS (qS (gR L0d) (.block 2 (.loop (qS (gR S0R) (qS (.cond (t 23) .skip (.exit 2)) (qS (.block 3 (qS (gR L0e) (gR L0f))) (gR S0S))))))) (.draw L0g [0,0,0,4,12,28,0,64,252,0,512,1536,3584,0,8192,25084,57852,123388,262140,524285,1048573,2097149,4194303,8388607,16777215] [(8,12),(8,14)]))))) (gR P0l)))))))⟩
def L0h:SS:=[o 3 (.box a0R (t 0)),o 4 (.box c0r (t 1)),o 6 (.mv (.const (.slice none 0 0))),o 7 (.alloc a0b [.bool false,.slice none 0 0,.bool false,.slice none 0 0])]
def L0i:SS:=[fA 17 4 4,lD 18 17,lN 19 18,mV 8 19]
def L0j:SS:=[mV 20 8,fA 21 2 4,lD 22 21,o 23 (.bin 0 .add (t 20) (t 22)),o 24 (.mk a0b 64 [.bool false,.slice none 0 0,.bool false,.slice none 0 0] (t 23) (t 23)),mV 9 24]
def L0k:SS:=[mV 25 9,lN 26 25,o 27 (.mv (i 0))]
def S0T:SS:=[o 28 (.bin 0 .lss (t 27) (t 26))]
def L0l:SS:=[mV 29 27,mV 10 29]
def L0m:SS:=[mV 30 9,mV 31 10,o 32 (.call t0Z [i 0] true),iA 33 4 30 31,⟨none,none,.store 4 (t 33) (t 32)⟩]
def S0U:SS:=[o 34 (.bin 0 .add (t 27) (i 1)),mV 27 34]
def L0n:SS:=[o 35 (.call t0Z [i 0] true),o 11 (.alloc a0b [.bool false,.slice none 0 0,.bool false,.slice none 0 0]),⟨none,none,.store 4 (t 11) (t 35)⟩]
def L0o:SS:=[fA 36 4 4,lD 37 36,lN 38 37,o 39 (.mv (i 0))]
def P0m:SS:=[o 40 (.bin 0 .lss (t 39) (t 38))]
def E0z:SS:=[mV 41 39,iA 42 4 37 39,lA 43 4 42,o 13 (.alloc e0A [.slice none 0 0,.slice none 0 0,.bool false,.slice none 0 0]),mV 12 41,⟨none,none,.store 4 (t 13) (t 43)⟩]
def E0A:SS:=[fA 44 0 3,lD 45 44,mV 46 2,iA 47 1 45 46,lD 48 47,mV 49 12,iA 50 4 48 49,lA 51 4 50,o 14 (.alloc a0b [.bool false,.slice none 0 0,.bool false,.slice none 0 0]),⟨none,none,.store 4 (t 14) (t 51)⟩]
def E0B:SS:=[fA 52 0 13,lD 53 52,fA 54 1 13,lD 55 54,o 56 (.lit b0b [.slice none 0 0] 2 [(0,1,t 53),(1,1,t 55)]),o 57 (.call Q0u [t 56] true),lN 58 57,o 59 (.mv (i 0))]
def P0n:SS:=[o 60 (.bin 0 .lss (t 59) (t 58))]
def E0C:SS:=[mV 61 59,iA 62 2 57 59,lA 63 2 62,o 16 (.alloc a0a [.bool false,.slice none 0 0]),mV 15 61,⟨none,none,.store 2 (t 16) (t 63)⟩]
def E0D:SS:=[mV 64 9,mV 65 15,mV 66 9,mV 67 15,iA 68 4 66 67,lA 69 4 68,lA 70 4 14,lA 71 2 16,o 72 (.call I0P [t 71] false),o 73 (.call I0Q [t 70,t 72] false),o 74 (.call r0w [t 69,t 73] true),iA 75 4 64 65,⟨none,none,.store 4 (t 75) (t 74)⟩]
def P0o:SS:=[o 76 (.bin 0 .add (t 59) (i 1)),mV 59 76]
def E0E:SS:=[lA 77 4 11,lA 78 4 14,fA 79 2 13,lA 80 2 79,o 81 (.call I0P [t 80] false),o 82 (.call I0Q [t 78,t 81] false),o 83 (.call r0w [t 77,t 82] true),⟨none,none,.store 4 (t 11) (t 83)⟩]
def P0p:SS:=[o 84 (.bin 0 .add (t 39) (i 1)),mV 39 84]
def E0F:SS:=[mV 85 9,lA 86 4 11,mV 6 85,⟨none,none,.store 4 (t 7) (t 86)⟩]
def U0O:SF:=⟨3,87,[.tmp 6,.cell 7 true 4],
 (qS (gR L0h) (qS (gR L0i) (qS (gR L0j) (qS (qS (gR L0k) (.block 0 (.loop (qS (gR S0T) (qS (.cond (t 28) .skip (.exit 0)) (qS (.block 1 (qS (gR L0l) (gR L0m))) (gR S0U))))))) (qS (gR L0n) (qS (qS (gR L0o) (.block 2 (.loop (qS (gR P0m) (qS (.cond (t 40) .skip (.exit 2)) (qS (.block 3 (qS (gR E0z) (qS (gR E0A) (qS (qS (gR E0B) (.block 4 (.loop (qS (gR P0n) (qS (.cond (t 60) .skip (.exit 4)) (qS (.block 5 (qS (gR E0C) (.draw E0D [0,0,0,0,12,28,0,0,128,448,1020,2047,4095] []))) (gR P0o))))))) (.draw E0E [0,0,0,4,12,30,63,127] []))))) (gR P0p))))))) (qS (.draw E0F [0,0,1,7] []) .ret)))))))⟩
def L0p:SS:=[o 1 (.box b0G (t 0)),o 2 (.mv (.const (.bool false)))]
def l0z:SS:=[fA 3 0 1,lD 4 3,o 5 (.bin 0 .lss (t 4) (i 0)),mV 6 5,og 7 6 false (.fa 0 (t 1)),og 8 6 false (.load false 1 (t 7)),og 9 6 false (.bin 0 .gtr (t 8) (i 60)),o 10 (.pick (t 6) (.const (.bool true)) (t 9)),mV 11 10,og 12 11 false (.fa 1 (t 1)),og 13 11 false (.load false 1 (t 12)),og 14 11 false (.len (t 13)),og 15 11 false (.bin 0 .gtr (t 14) (i 60)),o 16 (.pick (t 11) (.const (.bool true)) (t 15)),mV 17 16,og 18 17 false (.fa 2 (t 1)),og 19 17 false (.load false 1 (t 18)),og 20 17 false (.len (t 19)),og 21 17 false (.fa 1 (t 1)),og 22 17 false (.load false 1 (t 21)),og 23 17 false (.len (t 22)),og 24 17 false (.bin 0 .neq (t 20) (t 23)),o 25 (.pick (t 17) (.const (.bool true)) (t 24)),mV 26 25,og 27 26 false (.fa 3 (t 1)),og 28 26 false (.load false 1 (t 27)),og 29 26 false (.len (t 28)),og 30 26 false (.fa 0 (t 1)),og 31 26 false (.load false 1 (t 30)),og 32 26 false (.bin 0 .neq (t 29) (t 31)),o 33 (.pick (t 26) (.const (.bool true)) (t 32))]
def n0F:SS:=[o 2 (.mv (.const (.bool false)))]
def L0q:SS:=[fA 34 1 1,lD 35 34,o 36 (.mkfn (.func S0h) [] [t 1]),o 37 (.call S0g [t 35,t 36] true),o 38 (.un .not (t 37)),mV 2 38]
def U0P:SF:=⟨1,39,[.tmp 2],
 (qS (gR L0p) (qS (qS (gR l0z) (.cond (t 33) (qS (gR n0F) .ret) .skip)) (qS (gR L0q) .ret)))⟩
def L0r:SS:=[o 1 (.box b0G (t 0)),o 2 (.alloc b0N [.int .i64 0,.bool false,.slice none 0 0,.bool false,.slice none 0 0,.slice none 0 0,.slice none 0 0,.slice none 0 0]),o 3 (.mv (i 0))]
def L0s:SS:=[lA 8 4 1,o 9 (.call S0i [t 8] true),o 4 (.alloc a0G [.int .i64 0,.slice none 0 0,.slice none 0 0,.slice none 0 0,.bool false,.slice none 0 0,.bool false,.slice none 0 0]),⟨none,none,.store 8 (t 4) (t 9)⟩]
def L0t:SS:=[lA 11 4 1,lA 12 8 4,o 13 (.call G0u [t 11,t 12] true),mV 10 13,o 14 (.ext (t 10) 0),o 15 (.ext (t 10) 1),o 16 (.ext (t 10) 2),o 5 (.alloc b0N [.int .i64 0,.bool false,.slice none 0 0,.bool false,.slice none 0 0,.slice none 0 0,.slice none 0 0,.slice none 0 0]),⟨none,none,.store 8 (t 5) (t 14)⟩,mV 6 15,mV 7 16]
def E0G:SS:=[mV 17 7]
def L0u:SS:=[lA 18 8 5,mV 19 6,⟨none,none,.store 8 (t 2) (t 18)⟩,mV 3 19]
def L0v:SS:=[o 20 (.build [] []),lA 21 4 1,lA 22 8 4,o 23 (.call U0a [t 20,t 21,t 22] true),o 24 (.ext (t 23) 0),o 25 (.ext (t 23) 1),⟨none,none,.store 8 (t 2) (t 24)⟩,mV 3 25]
def U0Q:SF:=⟨1,26,[.cell 2 true 8,.tmp 3],
 (qS (gR L0r) (qS (gR L0s) (qS (qS (gR L0t) (qS (gR E0G) (.cond (t 17) (qS (gR L0u) .ret) .skip))) (qS (gR L0v) .ret))))⟩
def L0w:SS:=[o 1 (.box a0Z (t 0)),o 2 (.alloc a0Z [.int .i64 0,.bool false,.slice none 0 0,.bool false,.slice none 0 0])]
def L0x:SS:=[lA 4 5 1,o 5 (.call Q0t [t 4] true),o 6 (.un .not (t 5)),mV 3 6]
def L0y:SS:=[o 7 (.build [.bool false,.slice none 0 0,.bool false,.slice none 0 0] []),o 8 (.call I0O [t 7] true),⟨none,none,.store 5 (t 2) (t 8)⟩]
def E0H:SS:=[fA 10 0 1,lD 11 10,o 12 (.bin 0 .eql (t 11) (i 0)),mV 9 12]
def L0z:SS:=[fA 13 1 1,lA 14 4 13,o 15 (.call I0O [t 14] true),⟨none,none,.store 5 (t 2) (t 15)⟩]
def L0A:SS:=[fA 16 0 1,lD 17 16,o 18 (.build [.int .i64 0,.bool false,.slice none 0 0,.bool false,.slice none 0 0] [(0,1,t 17)]),⟨none,none,.store 5 (t 2) (t 18)⟩]
def U0R:SF:=⟨1,19,[.cell 2 true 5],
 (qS (gR L0w) (qS (.block 0 (qS (gR L0x) (.cond (t 3) (qS (gR L0y) .ret) (qS (gR E0H) (.cond (t 9) (qS (gR L0z) .ret) .skip))))) (qS (gR L0A) .ret)))⟩
def L0B:SS:=[o 2 (.box a0b (t 0)),o 3 (.box a0b (t 1)),o 4 (.alloc a0b [.bool false,.slice none 0 0,.bool false,.slice none 0 0])]
def L0C:SS:=[lA 5 4 2,o 6 (.call y0m [t 5] false),lA 7 4 3,o 8 (.call y0m [t 7] true),⟨none,none,.store 4 (t 2) (t 6)⟩,⟨none,none,.store 4 (t 3) (t 8)⟩]
def L0D:SS:=[fA 9 0 2,lA 10 2 9,fA 11 2 3,lA 12 2 11,o 13 (.call q0q [t 10,t 12] false),fA 14 0 3,lA 15 2 14,fA 16 2 2,lA 17 2 16,o 18 (.call q0q [t 15,t 17] false),o 19 (.lit a0a [.bool false,.slice none 0 0] 1 [(0,2,t 18)]),o 20 (.call S0j [.fn y0n,t 13,t 19] false),fA 21 2 2,lA 22 2 21,fA 23 2 3,lA 24 2 23,o 25 (.call q0q [t 22,t 24] true),o 26 (.call Q0v [t 20,t 25] true),⟨none,none,.store 4 (t 4) (t 26)⟩]
def U0S:SF:=⟨2,27,[.cell 4 true 4],
 (qS (gR L0B) (qS (.draw L0C [0,1,0,7,15,31] []) (qS (.draw L0D [0,1,0,4,15,0,32,0,128,511,1023,2047,0,4096,0,16384,65535,131071,262143] []) .ret)))⟩
def L0E:SS:=[o 2 (.mv (.const (.slice none 0 0)))]
def L0F:SS:=[mV 4 0,lN 5 4,mV 3 5]
def E0I:SS:=[mV 6 3,o 7 (.bin 0 .gtr (t 6) (i 0)),mV 8 7,og 9 8 true (.mv (t 0)),og 10 8 true (.mv (t 3)),og 11 8 true (.bin 0 .sub (t 10) (i 1)),og 12 8 true (.ia 1 (t 9) (t 11)),og 13 8 true (.load false 1 (t 12)),og 14 8 true (.bin 0 .eql (t 13) (.const (.int .u32 0))),o 15 (.pick (t 8) (t 14) (.const (.bool false)))]
def L0G:SS:=[mV 16 3,o 17 (.bin 0 .sub (t 16) (i 1)),mV 3 17]
def L0H:SS:=[mV 18 0,mV 19 3,o 20 (.sl a0m 1 (t 18) none (some (t 19)) none),mV 2 20]
def U0T:SF:=⟨1,21,[.tmp 2],
 (qS (gR L0E) (qS (gR L0F) (qS (.block 0 (.loop (qS (qS (gR E0I) (.cond (t 15) .skip (.exit 0))) (.block 1 (gR L0G))))) (qS (gR L0H) .ret))))⟩
def L0J:SS:=[o 2 (.box a0R (t 0)),o 4 (.mv (.const (.bool false)))]
def r0f:SS:=[mV 9 1,o 10 (.bin 0 .lss (t 9) (i 0)),mV 11 10,og 12 11 false (.mv (t 1)),og 13 11 false (.bin 0 .gtr (t 12) (i 6)),o 14 (.pick (t 11) (.const (.bool true)) (t 13)),mV 15 14,og 16 15 false (.fa 0 (t 2)),og 17 15 false (.load false 1 (t 16)),og 18 15 false (.len (t 17)),og 19 15 false (.bin 0 .gtr (t 18) (i 40)),o 20 (.pick (t 15) (.const (.bool true)) (t 19))]
def v0o:SS:=[o 4 (.mv (.const (.bool false)))]
def L0K:SS:=[fA 21 0 2,lD 22 21,lN 23 22,o 24 (.mv (i 0))]
def S0Y:SS:=[o 25 (.bin 0 .lss (t 24) (t 23))]
def E0O:SS:=[iA 26 1 22 24,lD 27 26,mV 6 27]
def E0P:SS:=[mV 28 6,lN 29 28,mV 30 1,o 31 (.bin 0 .neq (t 29) (t 30))]
def L0L:SS:=[o 4 (.mv (.const (.bool false)))]
def L0M:SS:=[mV 32 6,lN 33 32,o 34 (.mv (i 0))]
def S0Z:SS:=[o 35 (.bin 0 .lss (t 34) (t 33))]
def E0K:SS:=[iA 36 4 32 34,lA 37 4 36,o 8 (.alloc a0b [.bool false,.slice none 0 0,.bool false,.slice none 0 0]),⟨none,none,.store 4 (t 8) (t 37)⟩]
def E0L:SS:=[lA 38 4 8,o 39 (.call r0P [t 38] true),o 40 (.un .not (t 39))]
def E0M:SS:=[o 4 (.mv (.const (.bool false)))]
def P0x:SS:=[o 41 (.bin 0 .add (t 34) (i 1)),mV 34 41]
def P0y:SS:=[o 42 (.bin 0 .add (t 24) (i 1)),mV 24 42]
def E0N:SS:=[o 4 (.mv (.const (.bool true)))]
def U0U:SF:=⟨2,43,[.tmp 4],
 (qS (gR L0J) (qS (qS (gR r0f) (.cond (t 20) (qS (gR v0o) .ret) .skip)) (qS (qS (gR L0K) (.block 0 (.loop (qS (gR S0Y) (qS (.cond (t 25) .skip (.exit 0)) (qS (.block 1 (qS (gR E0O) (qS (qS (gR E0P) (.cond (t 31) (qS (gR L0L) .ret) .skip)) (qS (gR L0M) (.block 2 (.loop (qS (gR S0Z) (qS (.cond (t 35) .skip (.exit 2)) (qS (.block 3 (qS (gR E0K) (qS (gR E0L) (.cond (t 40) (qS (gR E0M) .ret) .skip)))) (gR P0x)))))))))) (gR P0y))))))) (qS (gR E0N) .ret))))⟩
def L0N:SS:=[o 1 (.box a0Z (t 0)),o 2 (.mv (.const (.bool false)))]
def L0O:SS:=[lA 3 5 1,o 4 (.call Q0t [t 3] true),o 5 (.un .not (t 4)),mV 2 5]
def U0V:SF:=⟨1,6,[.tmp 2],
 (qS (gR L0N) (qS (gR L0O) .ret))⟩
def L0P:SS:=[o 1 (.box a0Z (t 0)),o 2 (.mv (.const (.bool false)))]
def L0Q:SS:=[fA 3 0 1,lD 4 3]
def L0R:SS:=[o 6 (.bin 0 .eql (t 4) (.const (.int .i64 (-1)))),mV 5 6]
def v0p:SS:=[o 7 (.bin 0 .eql (t 4) (i 1)),mV 5 7]
def E0Q:SS:=[fA 8 1 1,lA 9 4 8,o 10 (.call x0U [t 9] true),mV 2 10]
def E0R:SS:=[o 12 (.bin 0 .eql (t 4) (i 0)),mV 11 12]
def L0S:SS:=[fA 13 1 1,lA 14 4 13,o 15 (.call r0P [t 14] true),mV 2 15]
def L0T:SS:=[o 2 (.mv (.const (.bool false)))]
def U0W:SF:=⟨1,16,[.tmp 2],
 (qS (gR L0P) (qS (qS (gR L0Q) (.block 0 (qS (qS (gR L0R) (.cond (t 5) .skip (gR v0p))) (.cond (t 5) (qS (gR E0Q) .ret) (qS (gR E0R) (.cond (t 11) (qS (gR L0S) .ret) .skip)))))) (qS (gR L0T) .ret)))⟩
def L0U:SS:=[o 4 (.mv (.const (.bool false)))]
def L0V:SS:=[mV 5 0,mV 6 1,o 7 (.call x0V [t 5,t 6] true),o 8 (.bin 0 .geq (t 7) (i 0)),mV 4 8]
def U0X:SF:=⟨2,9,[.tmp 4],
 (qS (gR L0U) (qS (gR L0V) .ret))⟩
def L0W:SS:=[o 3 (.box e0A (t 0)),o 4 (.mv (.const (.bool false)))]
def L0X:SS:=[fA 5 0 3,lD 6 5,lN 7 6,lD 8 1,o 9 (.bin 0 .neq (t 7) (t 8)),mV 10 9,og 11 10 false (.fa 1 (t 3)),og 12 10 false (.load false 1 (t 11)),og 13 10 false (.len (t 12)),og 14 10 false (.load false 1 (t 2)),og 15 10 false (.bin 0 .neq (t 13) (t 14)),o 16 (.pick (t 10) (.const (.bool true)) (t 15)),mV 4 16]
def U0Y:SF:=⟨3,17,[.tmp 4],
 (qS (gR L0W) (qS (gR L0X) .ret))⟩
def L0Y:SS:=[o 4 (.mv (i 0))]
def L0Z:SS:=[mV 6 0,lN 7 6,o 8 (.mv (i 0))]
def T0a:SS:=[o 9 (.bin 0 .lss (t 8) (t 7))]
def M0a:SS:=[mV 10 8,mV 5 10]
def M0b:SS:=[mV 11 1,mV 12 0,mV 13 5,iA 14 5 12 13,lA 15 5 14,o 16 (.callv (t 11) [t 15] true)]
def M0c:SS:=[mV 17 5,mV 4 17]
def T0b:SS:=[o 18 (.bin 0 .add (t 8) (i 1)),mV 8 18]
def M0d:SS:=[o 4 (.mv (.const (.int .i64 (-1))))]
def U0Z:SF:=⟨2,19,[.tmp 4],
 (qS (gR L0Y) (qS (qS (gR L0Z) (.block 0 (.loop (qS (gR T0a) (qS (.cond (t 9) .skip (.exit 0)) (qS (.block 1 (qS (gR M0a) (qS (gR M0b) (.cond (t 16) (qS (gR M0c) .ret) .skip)))) (gR T0b))))))) (qS (gR M0d) .ret)))⟩
def M0e:SS:=[o 2 (.alloc a0b [.bool false,.slice none 0 0,.bool false,.slice none 0 0])]
def M0f:SS:=[mV 3 0,o 4 (.call i0H [t 3] true),o 5 (.call r0Q [] true),o 6 (.build [.bool false,.slice none 0 0,.bool false,.slice none 0 0] [(0,2,t 4),(2,2,t 5)]),⟨none,none,.store 4 (t 2) (t 6)⟩]
def V0a:SF:=⟨1,7,[.cell 2 true 4],
 (qS (gR M0e) (qS (gR M0f) .ret))⟩
def M0g:SS:=[o 2 (.mv (.const (.slice none 0 0)))]
def M0h:SS:=[o 3 (.mv (i 0))]
def M0i:SS:=[mV 9 0,lN 10 9,o 11 (.mv (i 0))]
def T0c:SS:=[o 12 (.bin 0 .lss (t 11) (t 10))]
def M0j:SS:=[iA 13 1 9 11,lD 14 13,mV 5 14]
def M0k:SS:=[mV 15 3,mV 16 5,lN 17 16,o 18 (.bin 0 .add (t 15) (t 17)),mV 3 18]
def M0l:SS:=[mV 19 3,o 20 (.bin 0 .lss (t 19) (i 0))]
def T0d:SS:=[o 21 (.iface t0F (.const (.string ⟨#[108,101,110,32,111,117,116,32,111,102,32,114,97,110,103,101]⟩))),⟨none,none,.pan (t 21)⟩]
def T0e:SS:=[o 22 (.bin 0 .add (t 11) (i 1)),mV 11 22]
def M0m:SS:=[mV 23 3,o 24 (.call x0W [(.const (.slice none 0 0)),t 23] true),mV 6 24]
def E0S:SS:=[mV 25 0,lN 26 25,o 27 (.mv (i 0))]
def P0z:SS:=[o 28 (.bin 0 .lss (t 27) (t 26))]
def E0T:SS:=[iA 29 1 25 27,lD 30 29,mV 8 30]
def E0U:SS:=[mV 31 6,mV 32 8,o 33 (.app a0a 2 32 (t 31) (t 32)),mV 6 33]
def P0A:SS:=[o 34 (.bin 0 .add (t 27) (i 1)),mV 27 34]
def E0V:SS:=[mV 35 6,mV 2 35]
def V0b:SF:=⟨1,36,[.tmp 2],
 (qS (gR M0g) (qS (gR M0h) (qS (qS (gR M0i) (.block 0 (.loop (qS (gR T0c) (qS (.cond (t 12) .skip (.exit 0)) (qS (.block 1 (qS (gR M0j) (qS (gR M0k) (qS (gR M0l) (.cond (t 20) (gR T0d) .skip))))) (gR T0e))))))) (qS (gR M0m) (qS (qS (gR E0S) (.block 2 (.loop (qS (gR P0z) (qS (.cond (t 28) .skip (.exit 2)) (qS (.block 3 (qS (gR E0T) (gR E0U))) (gR P0A))))))) (qS (gR E0V) .ret))))))⟩
def M0n:SS:=[o 1 (.box a0a (t 0)),o 2 (.alloc a0b [.bool false,.slice none 0 0,.bool false,.slice none 0 0])]
def M0o:SS:=[lA 3 2 1,o 4 (.build [.bool false,.slice none 0 0] []),o 5 (.call y0n [t 3,t 4] true),o 6 (.call i0H [i 1] true),o 7 (.build [.bool false,.slice none 0 0,.bool false,.slice none 0 0] [(0,2,t 5),(2,2,t 6)]),⟨none,none,.store 4 (t 2) (t 7)⟩]
def V0c:SF:=⟨1,8,[.cell 2 true 4],
 (qS (gR M0n) (qS (gR M0o) .ret))⟩
def M0p:SS:=[o 1 (.box a0a (t 0)),o 2 (.alloc a0a [.bool false,.slice none 0 0])]
def M0q:SS:=[lA 3 2 1,o 4 (.call d0S [t 3] false),o 5 (.un .not (t 4)),lA 6 2 1,o 7 (.call f0y [t 6] true),o 8 (.call f0Y [t 5,t 7] true),⟨none,none,.store 2 (t 2) (t 8)⟩]
def V0d:SF:=⟨1,9,[.cell 2 true 2],
 (qS (gR M0p) (qS (.draw M0q [0,1,3,0,11,31,63] []) .ret))⟩
def M0r:SS:=[o 2 (.box a0b (t 0)),o 3 (.box a0b (t 1)),o 4 (.alloc a0b [.bool false,.slice none 0 0,.bool false,.slice none 0 0])]
def M0s:SS:=[lA 5 4 2,o 6 (.call y0m [t 5] false),lA 7 4 3,o 8 (.call y0m [t 7] true),⟨none,none,.store 4 (t 2) (t 6)⟩,⟨none,none,.store 4 (t 3) (t 8)⟩]
def M0t:SS:=[fA 9 0 2,lA 10 2 9,fA 11 0 3,lA 12 2 11,o 13 (.call q0q [t 10,t 12] false),fA 14 2 2,lA 15 2 14,fA 16 2 3,lA 17 2 16,o 18 (.call q0q [t 15,t 17] true),o 19 (.call Q0v [t 13,t 18] true),⟨none,none,.store 4 (t 4) (t 19)⟩]
def V0e:SF:=⟨2,20,[.cell 4 true 4],
 (qS (gR M0r) (qS (.draw M0s [0,1,0,7,15,31] []) (qS (.draw M0t [0,1,0,4,15,0,32,0,128,511,1023,2047] []) .ret)))⟩
def M0u:SS:=[o 4 (.mv (.const (.bool false)))]
def M0v:SS:=[mV 5 0,mV 6 1,o 7 (.call x0X [t 5,t 6] true),o 8 (.bin 0 .geq (t 7) (i 0)),mV 4 8]
def V0f:SF:=⟨2,9,[.tmp 4],
 (qS (gR M0u) (qS (gR M0v) .ret))⟩
def M0w:SS:=[o 3 (.mv (.const (.bool false)))]
def M0x:SS:=[mV 4 0,lN 5 4,fA 6 0 1,lD 7 6,o 8 (.bin 0 .neq (t 5) (t 7)),mV 3 8]
def V0g:SF:=⟨2,9,[.tmp 3],
 (qS (gR M0w) (qS (gR M0x) .ret))⟩
def M0y:SS:=[o 1 (.box b0G (t 0)),o 2 (.alloc a0G [.int .i64 0,.slice none 0 0,.slice none 0 0,.slice none 0 0,.bool false,.slice none 0 0,.bool false,.slice none 0 0])]
def M0z:SS:=[fA 8 0 1,lD 9 8,o 10 (.build [.int .i64 0,.slice none 0 0,.slice none 0 0,.slice none 0 0,.bool false,.slice none 0 0,.bool false,.slice none 0 0] [(0,1,t 9)]),o 3 (.alloc a0G [.int .i64 0,.slice none 0 0,.slice none 0 0,.slice none 0 0,.bool false,.slice none 0 0,.bool false,.slice none 0 0]),⟨none,none,.store 8 (t 3) (t 10)⟩]
def M0A:SS:=[fA 11 1 1,lD 12 11,lN 13 12,o 14 (.mv (i 0))]
def T0f:SS:=[o 15 (.bin 0 .lss (t 14) (t 13))]
def M0B:SS:=[mV 16 14,iA 17 1 12 14,lD 18 17,mV 4 16,mV 5 18]
def M0C:SS:=[mV 20 5,o 21 (.call v0Y [t 20] false),fA 22 2 1,lD 23 22,mV 24 4,iA 25 4 23 24,lA 26 4 25,o 27 (.build [.bool false,.slice none 0 0,.bool false,.slice none 0 0] []),o 28 (.call r0w [t 26,t 27] false),o 29 (.lit a0b [.bool false,.slice none 0 0,.bool false,.slice none 0 0] 1 [(0,4,t 28)]),o 30 (.app a0b 4 64 (t 21) (t 29)),o 31 (.call v0X [t 30] false),mV 19 31,o 32 (.ext (t 19) 0),o 33 (.ext (t 19) 1),o 7 (.alloc a0b [.bool false,.slice none 0 0,.bool false,.slice none 0 0]),mV 6 32,⟨none,none,.store 4 (t 7) (t 33)⟩]
def M0D:SS:=[fA 34 1 3,lD 35 34,mV 36 6,o 37 (.lit b0b [.slice none 0 0] 1 [(0,1,t 36)]),o 38 (.app b0b 1 24 (t 35) (t 37)),fA 39 2 3,lD 40 39,lA 41 4 7,o 42 (.lit a0b [.bool false,.slice none 0 0,.bool false,.slice none 0 0] 1 [(0,4,t 41)]),o 43 (.app a0b 4 64 (t 40) (t 42)),fA 44 1 3,⟨none,none,.store 1 (t 44) (t 38)⟩,fA 45 2 3,⟨none,none,.store 1 (t 45) (t 43)⟩]
def T0g:SS:=[o 46 (.bin 0 .add (t 14) (i 1)),mV 14 46]
def M0E:SS:=[fA 48 3 1,lD 49 48,o 50 (.call v0Y [t 49] true),o 51 (.call v0X [t 50] true),mV 47 51,o 52 (.ext (t 47) 0),o 53 (.ext (t 47) 1),fA 54 3 3,⟨none,none,.store 1 (t 54) (t 52)⟩,fA 55 4 3,⟨none,none,.store 4 (t 55) (t 53)⟩]
def M0F:SS:=[lA 56 8 3,⟨none,none,.store 8 (t 2) (t 56)⟩]
def V0h:SF:=⟨1,57,[.cell 2 true 8],
 (qS (gR M0y) (qS (gR M0z) (qS (qS (gR M0A) (.block 0 (.loop (qS (gR T0f) (qS (.cond (t 15) .skip (.exit 0)) (qS (.block 1 (qS (gR M0B) (qS (.draw M0C [0,1,0,4,0,28,60,0,255,511,1023,2047,4095,8191,8191,0,49151,131071] [(10,15)]) (.draw M0D [0,1,0,4,15,0,32,0,128,511,127,2047,4095,8191] [(4,6),(4,7),(4,8)])))) (gR T0g))))))) (qS (gR M0E) (qS (gR M0F) .ret)))))⟩
def M0G:SS:=[o 1 (.box a0b (t 0)),o 2 (.alloc a0b [.bool false,.slice none 0 0,.bool false,.slice none 0 0])]
def M0H:SS:=[lA 3 4 1,o 4 (.call v0Z [t 3] true),mV 5 4,og 6 5 false (.load true 4 (t 1)),og 7 5 false (.call r0P [t 6] true),og 8 5 false (.un .not (t 7)),o 9 (.pick (t 5) (.const (.bool true)) (t 8))]
def E0W:SS:=[o 10 (.call r0Q [] true),o 11 (.build [.bool false,.slice none 0 0,.bool false,.slice none 0 0] [(2,2,t 10)]),⟨none,none,.store 4 (t 2) (t 11)⟩]
def M0I:SS:=[fA 12 0 1,lA 13 2 12,o 14 (.build [.bool false,.slice none 0 0] []),o 15 (.call y0n [t 13,t 14] false),fA 16 2 1,lA 17 2 16,o 18 (.build [.bool false,.slice none 0 0] []),o 19 (.call y0n [t 17,t 18] true),o 20 (.build [.bool false,.slice none 0 0,.bool false,.slice none 0 0] [(0,2,t 15),(2,2,t 19)]),⟨none,none,.store 4 (t 2) (t 20)⟩]
def V0i:SF:=⟨1,21,[.cell 2 true 4],
 (qS (gR M0G) (qS (qS (gR M0H) (.cond (t 9) (qS (gR E0W) .ret) .skip)) (qS (.draw M0I [0,1,0,7,0,16,0,127,255,511] []) .ret)))⟩
def M0J:SS:=[o 2 (.box a0a (t 0)),o 3 (.box a0a (t 1)),o 4 (.alloc a0b [.bool false,.slice none 0 0,.bool false,.slice none 0 0])]
def M0K:SS:=[lA 8 2 2,lA 9 2 3,o 10 (.call o0l [t 8,t 9] true),mV 7 10,o 11 (.ext (t 7) 0),o 12 (.ext (t 7) 1),o 5 (.alloc a0b [.bool false,.slice none 0 0,.bool false,.slice none 0 0]),⟨none,none,.store 4 (t 5) (t 11)⟩,mV 6 12]
def M0L:SS:=[lA 13 4 5,⟨none,none,.store 4 (t 4) (t 13)⟩]
def V0j:SF:=⟨2,14,[.cell 4 true 4],
 (qS (gR M0J) (qS (gR M0K) (qS (gR M0L) .ret)))⟩
def M0M:SS:=[o 4 (.box a0a (t 1)),o 6 (.alloc a0a [.bool false,.slice none 0 0])]
def M0N:SS:=[mV 9 2,lN 10 9,o 11 (.mv (i 0))]
def E0X:SS:=[o 12 (.bin 0 .lss (t 11) (t 10))]
def M0O:SS:=[iA 13 2 9 11,lA 14 2 13,o 8 (.alloc a0a [.bool false,.slice none 0 0]),⟨none,none,.store 2 (t 8) (t 14)⟩]
def M0P:SS:=[mV 15 0,lA 16 2 4,lA 17 2 8,o 18 (.callv (t 15) [t 16,t 17] true),⟨none,none,.store 2 (t 4) (t 18)⟩]
def M0Q:SS:=[o 19 (.bin 0 .add (t 11) (i 1)),mV 11 19]
def M0R:SS:=[lA 20 2 4,⟨none,none,.store 2 (t 6) (t 20)⟩]
def V0k:SF:=⟨3,21,[.cell 6 true 2],
 (qS (gR M0M) (qS (qS (gR M0N) (.block 0 (.loop (qS (gR E0X) (qS (.cond (t 12) .skip (.exit 0)) (qS (.block 1 (qS (gR M0O) (gR M0P))) (gR M0Q))))))) (qS (gR M0R) .ret)))⟩
def M0S:SS:=[o 2 (.box a0a (t 0)),o 3 (.box a0a (t 1)),o 4 (.alloc a0a [.bool false,.slice none 0 0])]
def M0T:SS:=[lA 7 2 2,o 8 (.call f0y [t 7] false),lA 9 2 3,o 10 (.call f0y [t 9] true),mV 5 8,mV 6 10]
def M0U:SS:=[lA 12 2 2,o 13 (.call d0S [t 12] false),lA 14 2 3,o 15 (.call d0S [t 14] true),o 16 (.bin 1 .eql (t 13) (t 15)),mV 11 16]
def M0V:SS:=[lA 17 2 2,o 18 (.call d0S [t 17] true),mV 19 5,mV 20 6,o 21 (.call x0Y [t 19,t 20] true),o 22 (.call f0Y [t 18,t 21] true),⟨none,none,.store 2 (t 4) (t 22)⟩]
def M0W:SS:=[mV 24 5,mV 25 6,o 26 (.call q0j [t 24,t 25] true),o 27 (.bin 0 .geq (t 26) (i 0)),mV 23 27]
def M0X:SS:=[lA 28 2 2,o 29 (.call d0S [t 28] true),mV 30 5,mV 31 6,o 32 (.call w0a [t 30,t 31] true),o 33 (.call f0Y [t 29,t 32] true),⟨none,none,.store 2 (t 4) (t 33)⟩]
def M0Y:SS:=[lA 34 2 3,o 35 (.call d0S [t 34] true),mV 36 6,mV 37 5,o 38 (.call w0a [t 36,t 37] true),o 39 (.call f0Y [t 35,t 38] true),⟨none,none,.store 2 (t 4) (t 39)⟩]
def V0l:SF:=⟨2,40,[.cell 4 true 2],
 (qS (gR M0S) (qS (.draw M0T [0,1,0,7,15,31] []) (qS (.block 0 (qS (.draw M0U [0,1,0,7,15,31] []) (.cond (t 11) (qS (gR M0V) .ret) (qS (gR M0W) (.cond (t 23) (qS (gR M0X) .ret) .skip))))) (qS (gR M0Y) .ret))))⟩
def M0Z:SS:=[o 2 (.box a0a (t 0)),o 3 (.box a0a (t 1)),o 4 (.alloc a0a [.bool false,.slice none 0 0])]
def N0a:SS:=[lA 13 2 2,o 14 (.call f0y [t 13] false),lA 15 2 3,o 16 (.call f0y [t 15] true),mV 5 14,mV 6 16]
def N0b:SS:=[mV 17 5,lN 18 17,mV 19 6,lN 20 19,o 21 (.bin 0 .add (t 18) (t 20)),o 22 (.mk a0m 4 [.int .u32 0] (t 21) (t 21)),mV 7 22]
def N0c:SS:=[mV 23 5,lN 24 23,o 25 (.mv (i 0))]
def F0f:SS:=[o 26 (.bin 0 .lss (t 25) (t 24))]
def N0d:SS:=[mV 27 25,iA 28 1 23 25,lD 29 28,mV 8 27,mV 9 29]
def N0e:SS:=[o 10 (.mv (.const (.int .u64 0)))]
def N0f:SS:=[mV 30 6,lN 31 30,o 32 (.mv (i 0))]
def F0g:SS:=[o 33 (.bin 0 .lss (t 32) (t 31))]
def N0g:SS:=[mV 34 32,iA 35 1 30 32,lD 36 35,mV 11 34,mV 12 36]
def E0Y:SS:=[mV 37 10,mV 38 9,o 39 (.conv .u64 (t 38)),mV 40 12,o 41 (.conv .u64 (t 40)),o 42 (.bin 0 .mul (t 39) (t 41)),mV 43 7,mV 44 8,mV 45 11,o 46 (.bin 0 .add (t 44) (t 45)),iA 47 1 43 46,lD 48 47,o 49 (.conv .u64 (t 48)),o 50 (.bin 0 .add (t 42) (t 49)),o 51 (.bin 0 .add (t 37) (t 50)),mV 10 51]
def E0Z:SS:=[mV 52 7,mV 53 8,mV 54 11,o 55 (.bin 0 .add (t 53) (t 54)),mV 56 10,o 57 (.call f0z [t 56] true),iA 58 1 52 55,⟨none,none,.store 1 (t 58) (t 57)⟩]
def F0a:SS:=[mV 59 10,o 60 (.bin 0 .shr (t 59) (.const (.int .u64 32))),mV 10 60]
def F0b:SS:=[o 61 (.bin 0 .add (t 32) (i 1)),mV 32 61]
def F0c:SS:=[mV 62 7,mV 63 8,mV 64 6,lN 65 64,o 66 (.bin 0 .add (t 63) (t 65)),mV 67 10,o 68 (.call f0z [t 67] true),iA 69 1 62 66,⟨none,none,.store 1 (t 69) (t 68)⟩]
def F0d:SS:=[o 70 (.bin 0 .add (t 25) (i 1)),mV 25 70]
def F0e:SS:=[lA 71 2 2,o 72 (.call d0S [t 71] false),lA 73 2 3,o 74 (.call d0S [t 73] true),o 75 (.bin 1 .neq (t 72) (t 74)),mV 76 7,o 77 (.call f0Y [t 75,t 76] true),⟨none,none,.store 2 (t 4) (t 77)⟩]
def V0m:SF:=⟨2,78,[.cell 4 true 2],
 (qS (gR M0Z) (qS (.draw N0a [0,1,0,7,15,31] []) (qS (gR N0b) (qS (qS (gR N0c) (.block 0 (.loop (qS (gR F0f) (qS (.cond (t 26) .skip (.exit 0)) (qS (.block 1 (qS (gR N0d) (qS (gR N0e) (qS (qS (gR N0f) (.block 2 (.loop (qS (gR F0g) (qS (.cond (t 33) .skip (.exit 2)) (qS (.block 3 (qS (gR N0g) (qS (gR E0Y) (qS (gR E0Z) (gR F0a))))) (gR F0b))))))) (gR F0c))))) (gR F0d))))))) (qS (.draw F0e [0,1,0,7,15,0,63,127] []) .ret)))))⟩
def z0y:SS:=[o 1 (.box a0b (t 0)),o 2 (.mv (.const (.bool false)))]
def z0z:SS:=[lA 3 4 1,o 4 (.call v0Z [t 3] true)]
def z0A:SS:=[o 2 (.mv (.const (.bool true)))]
def z0B:SS:=[fA 5 0 1,lA 6 2 5,o 7 (.call q0k [t 6] true),mV 8 7,og 9 8 true (.fa 2 (t 1)),og 10 8 true (.load true 2 (t 9)),og 11 8 true (.call q0k [t 10] true),o 12 (.pick (t 8) (t 11) (.const (.bool false))),mV 13 12,og 14 13 true (.fa 2 (t 1)),og 15 13 true (.fa 0 (t 14)),og 16 13 true (.load false 1 (t 15)),og 17 13 true (.un .not (t 16)),o 18 (.pick (t 13) (t 17) (.const (.bool false))),mV 19 18,og 20 19 true (.fa 2 (t 1)),og 21 19 true (.load true 2 (t 20)),og 22 19 true (.call w0b [t 21] true),og 23 19 true (.un .not (t 22)),o 24 (.pick (t 19) (t 23) (.const (.bool false))),mV 25 24,og 26 25 true (.fa 0 (t 1)),og 27 25 true (.load true 2 (t 26)),og 28 25 true (.fa 2 (t 1)),og 29 25 true (.load true 2 (t 28)),og 30 25 true (.call q0l [t 27,t 29] true),og 31 25 true (.call r0Q [] true),og 32 25 true (.call m0g [t 30,t 31] true),og 33 25 true (.bin 0 .eql (t 32) (i 0)),o 34 (.pick (t 25) (t 33) (.const (.bool false))),mV 2 34]
def H0k:SF:=⟨1,35,[.tmp 2],
 (qS (gR z0y) (qS (qS (gR z0z) (.cond (t 4) (qS (gR z0A) .ret) .skip)) (qS (gR z0B) .ret)))⟩
def z0C:SS:=[o 1 (.box a0b (t 0)),o 2 (.mv (.const (.bool false)))]
def l0x:SS:=[fA 3 0 1,fA 4 0 3,lD 5 4,o 6 (.un .not (t 5)),mV 7 6,og 8 7 true (.fa 0 (t 1)),og 9 7 true (.fa 1 (t 8)),og 10 7 true (.load false 1 (t 9)),og 11 7 true (.len (t 10)),og 12 7 true (.bin 0 .eql (t 11) (i 0)),o 13 (.pick (t 7) (t 12) (.const (.bool false))),mV 14 13,og 15 14 true (.fa 2 (t 1)),og 16 14 true (.fa 0 (t 15)),og 17 14 true (.load false 1 (t 16)),og 18 14 true (.un .not (t 17)),o 19 (.pick (t 14) (t 18) (.const (.bool false))),mV 20 19,og 21 20 true (.fa 2 (t 1)),og 22 20 true (.fa 1 (t 21)),og 23 20 true (.load false 1 (t 22)),og 24 20 true (.len (t 23)),og 25 20 true (.bin 0 .eql (t 24) (i 0)),o 26 (.pick (t 20) (t 25) (.const (.bool false))),mV 2 26]
def H0l:SF:=⟨1,27,[.tmp 2],
 (qS (gR z0C) (qS (gR l0x) .ret))⟩
def z0D:SS:=[o 4 (.mv (i 0))]
def z0E:SS:=[mV 6 0,lN 7 6,o 8 (.mv (i 0))]
def O0N:SS:=[o 9 (.bin 0 .lss (t 8) (t 7))]
def z0F:SS:=[mV 10 8,mV 5 10]
def z0G:SS:=[mV 11 1,mV 12 0,mV 13 5,iA 14 4 12 13,lA 15 4 14,o 16 (.callv (t 11) [t 15] true)]
def z0H:SS:=[mV 17 5,mV 4 17]
def O0O:SS:=[o 18 (.bin 0 .add (t 8) (i 1)),mV 8 18]
def z0I:SS:=[o 4 (.mv (.const (.int .i64 (-1))))]
def H0m:SF:=⟨2,19,[.tmp 4],
 (qS (gR z0D) (qS (qS (gR z0E) (.block 0 (.loop (qS (gR O0N) (qS (.cond (t 9) .skip (.exit 0)) (qS (.block 1 (qS (gR z0F) (qS (gR z0G) (.cond (t 16) (qS (gR z0H) .ret) .skip)))) (gR O0O))))))) (qS (gR z0I) .ret)))⟩
def z0J:SS:=[o 2 (.alloc a0a [.bool false,.slice none 0 0])]
def z0K:SS:=[mV 4 0,o 5 (.conv .u64 (t 4)),mV 3 5]
def z0L:SS:=[mV 6 0,o 7 (.bin 0 .lss (t 6) (i 0))]
def z0M:SS:=[mV 8 3,o 9 (.un .neg (t 8)),mV 3 9]
def z0N:SS:=[mV 10 0,o 11 (.bin 0 .lss (t 10) (i 0)),mV 12 3,o 13 (.call f0z [t 12] true),mV 14 3,o 15 (.bin 0 .shr (t 14) (.const (.int .u64 32))),o 16 (.call f0z [t 15] true),o 17 (.lit a0m [.int .u32 0] 2 [(0,1,t 13),(1,1,t 16)]),o 18 (.call f0Y [t 11,t 17] true),⟨none,none,.store 2 (t 2) (t 18)⟩]
def H0n:SF:=⟨1,19,[.cell 2 true 2],
 (qS (gR z0J) (qS (gR z0K) (qS (qS (gR z0L) (.cond (t 7) (gR z0M) .skip)) (qS (gR z0N) .ret))))⟩
def z0O:SS:=[o 0 (.alloc a0a [.bool false,.slice none 0 0])]
def z0P:SS:=[o 1 (.call i0H [i 1] true),⟨none,none,.store 2 (t 0) (t 1)⟩]
def H0o:SF:=⟨0,2,[.cell 0 true 2],
 (qS (gR z0O) (qS (gR z0P) .ret))⟩
def z0Q:SS:=[o 4 (.mv (.const (.slice none 0 0)))]
def z0R:SS:=[mV 5 1,o 6 (.bin 0 .lss (t 5) (i 0))]
def O0P:SS:=[o 7 (.iface t0F (.const (.string ⟨#[99,97,110,110,111,116,32,98,101,32,110,101,103,97,116,105,118,101]⟩))),⟨none,none,.pan (t 7)⟩]
def z0S:SS:=[mV 8 1,mV 9 0,o 10 (.cap (t 9)),mV 11 0,lN 12 11,o 13 (.bin 0 .sub (t 10) (t 12)),o 14 (.bin 0 .sub (t 8) (t 13)),mV 1 14]
def z0T:SS:=[mV 15 1,o 16 (.bin 0 .gtr (t 15) (i 0))]
def z0U:SS:=[mV 17 0,mV 18 0,o 19 (.cap (t 18)),o 20 (.sl a0a 2 (t 17) none (some (t 19)) none),mV 21 1,o 22 (.appz a0a 32 [.bool false,.slice none 0 0] (t 20) (t 21)),mV 23 0,lN 24 23,o 25 (.sl a0a 2 (t 22) none (some (t 24)) none),mV 0 25]
def s0o:SS:=[mV 26 0,mV 4 26]
def H0p:SF:=⟨2,27,[.tmp 4],
 (qS (gR z0Q) (qS (qS (gR z0R) (.cond (t 6) (gR O0P) .skip)) (qS (qS (gR z0S) (qS (gR z0T) (.cond (t 16) (gR z0U) .skip))) (qS (gR s0o) .ret))))⟩
def z0V:SS:=[o 4 (.alloc a0a [.bool false,.slice none 0 0])]
def z0W:SS:=[mV 6 1,lN 7 6,mV 5 7]
def s0p:SS:=[mV 8 5,o 9 (.bin 0 .gtr (t 8) (i 0)),mV 10 9,og 11 10 true (.mv (t 1)),og 12 10 true (.mv (t 5)),og 13 10 true (.bin 0 .sub (t 12) (i 1)),og 14 10 true (.ia 1 (t 11) (t 13)),og 15 10 true (.load false 1 (t 14)),og 16 10 true (.bin 0 .eql (t 15) (.const (.int .u32 0))),o 17 (.pick (t 10) (t 16) (.const (.bool false)))]
def z0X:SS:=[mV 18 5,o 19 (.bin 0 .sub (t 18) (i 1)),mV 5 19]
def z0Y:SS:=[mV 20 5,o 21 (.bin 0 .eql (t 20) (i 0))]
def z0Z:SS:=[o 22 (.build [.bool false,.slice none 0 0] []),⟨none,none,.store 2 (t 4) (t 22)⟩]
def A0a:SS:=[mV 23 0,mV 24 1,mV 25 5,o 26 (.sl a0m 1 (t 24) none (some (t 25)) none),o 27 (.call x0Z [t 26] true),o 28 (.build [.bool false,.slice none 0 0] [(0,1,t 23),(1,1,t 27)]),⟨none,none,.store 2 (t 4) (t 28)⟩]
def H0q:SF:=⟨2,29,[.cell 4 true 2],
 (qS (gR z0V) (qS (gR z0W) (qS (.block 0 (.loop (qS (qS (gR s0p) (.cond (t 17) .skip (.exit 0))) (.block 1 (gR z0X))))) (qS (qS (gR z0Y) (.cond (t 21) (qS (gR z0Z) .ret) .skip)) (qS (gR A0a) .ret)))))⟩
def A0b:SS:=[o 1 (.box a0a (t 0)),o 2 (.mv (.const (.bool false)))]
def A0c:SS:=[lA 3 2 1,o 4 (.call q0k [t 3] true),mV 5 4,og 6 5 true (.fa 0 (t 1)),og 7 5 true (.load false 1 (t 6)),o 8 (.pick (t 5) (t 7) (.const (.bool false))),mV 2 8]
def H0r:SF:=⟨1,9,[.tmp 2],
 (qS (gR A0b) (qS (gR A0c) .ret))⟩
def A0d:SS:=[o 1 (.box a0a (t 0)),o 2 (.mv (.const (.slice none 0 0)))]
def A0e:SS:=[lA 3 2 1,o 4 (.call q0k [t 3] true),o 5 (.un .not (t 4))]
def A0f:SS:=[o 2 (.mv (.const (.slice none 0 0)))]
def A0g:SS:=[fA 6 1 1,lD 7 6,mV 2 7]
def H0s:SF:=⟨1,8,[.tmp 2],
 (qS (gR A0d) (qS (qS (gR A0e) (.cond (t 5) (qS (gR A0f) .ret) .skip)) (qS (gR A0g) .ret)))⟩
def A0h:SS:=[o 4 (.mv (i 0))]
def A0i:SS:=[mV 6 0,lN 7 6,o 8 (.mv (i 0))]
def O0Q:SS:=[o 9 (.bin 0 .lss (t 8) (t 7))]
def A0j:SS:=[mV 10 8,mV 5 10]
def A0k:SS:=[mV 11 1,mV 12 0,mV 13 5,iA 14 1 12 13,lD 15 14,o 16 (.callv (t 11) [t 15] true)]
def A0l:SS:=[mV 17 5,mV 4 17]
def O0R:SS:=[o 18 (.bin 0 .add (t 8) (i 1)),mV 8 18]
def A0m:SS:=[o 4 (.mv (.const (.int .i64 (-1))))]
def H0t:SF:=⟨2,19,[.tmp 4],
 (qS (gR A0h) (qS (qS (gR A0i) (.block 0 (.loop (qS (gR O0Q) (qS (.cond (t 9) .skip (.exit 0)) (qS (.block 1 (qS (gR A0j) (qS (gR A0k) (.cond (t 16) (qS (gR A0l) .ret) .skip)))) (gR O0R))))))) (qS (gR A0m) .ret)))⟩
def A0p:SS:=[o 2 (.mv (.const (.slice none 0 0))),o 3 (.alloc a0b [.bool false,.slice none 0 0,.bool false,.slice none 0 0])]
def A0q:SS:=[o 21 (.call i0H [i 1] true),o 4 (.alloc a0a [.bool false,.slice none 0 0]),⟨none,none,.store 2 (t 4) (t 21)⟩]
def A0r:SS:=[mV 22 0,lN 23 22,o 24 (.mv (i 0))]
def O0S:SS:=[o 25 (.bin 0 .lss (t 24) (t 23))]
def A0s:SS:=[iA 26 4 22 24,lA 27 4 26,o 6 (.alloc a0b [.bool false,.slice none 0 0,.bool false,.slice none 0 0]),⟨none,none,.store 4 (t 6) (t 27)⟩]
def A0t:SS:=[fA 29 2 6,lA 30 2 29,lA 31 2 4,fA 32 2 6,lA 33 2 32,o 34 (.call q0l [t 31,t 33] false),o 35 (.call k0B [t 30,t 34] false),mV 28 35,o 36 (.ext (t 28) 0),o 37 (.ext (t 28) 1),o 38 (.ext (t 28) 2),o 7 (.alloc a0a [.bool false,.slice none 0 0]),o 8 (.alloc a0a [.bool false,.slice none 0 0]),⟨none,none,.store 2 (t 7) (t 36)⟩,⟨none,none,.store 2 (t 8) (t 37)⟩,mV 9 38]
def A0u:SS:=[lA 39 2 4,lA 40 2 7,o 41 (.call q0q [t 39,t 40] true),⟨none,none,.store 2 (t 4) (t 41)⟩]
def O0T:SS:=[o 42 (.bin 0 .add (t 24) (i 1)),mV 24 42]
def A0v:SS:=[o 10 (.mv (.const (.slice none 0 0)))]
def A0w:SS:=[o 43 (.build [.bool false,.slice none 0 0] []),o 11 (.alloc a0a [.bool false,.slice none 0 0]),⟨none,none,.store 2 (t 11) (t 43)⟩]
def u0M:SS:=[mV 44 0,lN 45 44,o 46 (.mv (i 0))]
def G0X:SS:=[o 47 (.bin 0 .lss (t 46) (t 45))]
def u0N:SS:=[iA 48 4 44 46,lA 49 4 48,o 13 (.alloc a0b [.bool false,.slice none 0 0,.bool false,.slice none 0 0]),⟨none,none,.store 4 (t 13) (t 49)⟩]
def u0O:SS:=[lA 51 2 4,fA 52 2 13,lA 53 2 52,o 54 (.call k0B [t 51,t 53] true),mV 50 54,o 55 (.ext (t 50) 0),o 56 (.ext (t 50) 1),o 57 (.ext (t 50) 2),o 14 (.alloc a0a [.bool false,.slice none 0 0]),o 15 (.alloc a0a [.bool false,.slice none 0 0]),⟨none,none,.store 2 (t 14) (t 55)⟩,⟨none,none,.store 2 (t 15) (t 56)⟩,mV 16 57]
def u0P:SS:=[fA 58 0 13,lA 59 2 58,lA 60 2 14,o 61 (.call q0q [t 59,t 60] true),o 17 (.alloc a0a [.bool false,.slice none 0 0]),⟨none,none,.store 2 (t 17) (t 61)⟩]
def u0Q:SS:=[mV 62 10,lA 63 2 17,o 64 (.lit a0a [.bool false,.slice none 0 0] 1 [(0,2,t 63)]),o 65 (.app a0a 2 32 (t 62) (t 64)),mV 10 65]
def u0R:SS:=[lA 66 2 11,lA 67 2 17,o 68 (.call q0l [t 66,t 67] true),⟨none,none,.store 2 (t 11) (t 68)⟩]
def G0Y:SS:=[o 69 (.bin 0 .add (t 46) (i 1)),mV 46 69]
def u0S:SS:=[lA 70 2 11,o 71 (.build [.bool false,.slice none 0 0] []),o 72 (.call m0g [t 70,t 71] true),o 73 (.bin 0 .eql (t 72) (i 0))]
def u0T:SS:=[o 74 (.call i0H [i 1] true),⟨none,none,.store 2 (t 11) (t 74)⟩]
def p0a:SS:=[mV 75 10,lN 76 75,o 77 (.mv (i 0))]
def G0Z:SS:=[o 78 (.bin 0 .lss (t 77) (t 76))]
def p0b:SS:=[mV 79 77,mV 18 79]
def p0c:SS:=[mV 81 10,mV 82 18,mV 83 10,mV 84 18,iA 85 2 83 84,lA 86 2 85,lA 87 2 11,o 88 (.call k0B [t 86,t 87] true),mV 80 88,o 89 (.ext (t 80) 0),o 90 (.ext (t 80) 1),o 91 (.ext (t 80) 2),iA 92 2 81 82,⟨none,none,.store 2 (t 92) (t 89)⟩]
def H0a:SS:=[o 93 (.bin 0 .add (t 77) (i 1)),mV 77 93]
def p0d:SS:=[lA 95 2 4,lA 96 2 11,o 97 (.call o0l [t 95,t 96] true),mV 94 97,o 98 (.ext (t 94) 0),o 99 (.ext (t 94) 1),o 19 (.alloc a0b [.bool false,.slice none 0 0,.bool false,.slice none 0 0]),⟨none,none,.store 4 (t 19) (t 98)⟩,mV 20 99]
def p0e:SS:=[mV 100 10,lA 101 4 19,mV 2 100,⟨none,none,.store 4 (t 3) (t 101)⟩]
def H0u:SF:=⟨1,102,[.tmp 2,.cell 3 true 4],
 (qS (gR A0p) (qS (gR A0q) (qS (qS (gR A0r) (.block 0 (.loop (qS (gR O0S) (qS (.cond (t 25) .skip (.exit 0)) (qS (.block 1 (qS (gR A0s) (qS (.draw A0t [0,1,0,0,8,28,63,127,255,255,255,0,0,6655,15359,32767] []) (gR A0u)))) (gR O0T))))))) (qS (gR A0v) (qS (gR A0w) (qS (qS (gR u0M) (.block 2 (.loop (qS (gR G0X) (qS (.cond (t 47) .skip (.exit 2)) (qS (.block 3 (qS (gR u0N) (qS (gR u0O) (qS (gR u0P) (qS (gR u0Q) (gR u0R)))))) (gR G0Y))))))) (qS (qS (gR u0S) (.cond (t 73) (gR u0T) .skip)) (qS (qS (gR p0a) (.block 4 (.loop (qS (gR G0Z) (qS (.cond (t 78) .skip (.exit 4)) (qS (.block 5 (qS (gR p0b) (.draw p0c [0,0,0,0,12,28,0,124,252,508,508,508,1023,5119] []))) (gR H0a))))))) (qS (gR p0d) (qS (.draw p0e [0,0,1,7] []) .ret))))))))))⟩
def A0x:SS:=[o 2 (.mv (.const (.slice none 0 0)))]
def A0y:SS:=[mV 6 0,lN 7 6,o 8 (.bin 0 .add (t 7) (i 1)),o 9 (.mk a0b 64 [.bool false,.slice none 0 0,.bool false,.slice none 0 0] (i 0) (t 8)),mV 3 9]
def A0z:SS:=[mV 10 0,lN 11 10,o 12 (.mv (i 0))]
def O0U:SS:=[o 13 (.bin 0 .lss (t 12) (t 11))]
def A0A:SS:=[iA 14 4 10 12,lA 15 4 14,o 5 (.alloc a0b [.bool false,.slice none 0 0,.bool false,.slice none 0 0]),⟨none,none,.store 4 (t 5) (t 15)⟩]
def A0B:SS:=[mV 16 3,lA 17 4 5,o 18 (.build [.bool false,.slice none 0 0,.bool false,.slice none 0 0] []),o 19 (.call r0w [t 17,t 18] true),o 20 (.lit a0b [.bool false,.slice none 0 0,.bool false,.slice none 0 0] 1 [(0,4,t 19)]),o 21 (.app a0b 4 64 (t 16) (t 20)),mV 3 21]
def O0V:SS:=[o 22 (.bin 0 .add (t 12) (i 1)),mV 12 22]
def A0C:SS:=[mV 23 3,mV 2 23]
def H0v:SF:=⟨1,24,[.tmp 2],
 (qS (gR A0x) (qS (gR A0y) (qS (qS (gR A0z) (.block 0 (.loop (qS (gR O0U) (qS (.cond (t 13) .skip (.exit 0)) (qS (.block 1 (qS (gR A0A) (gR A0B))) (gR O0V))))))) (qS (gR A0C) .ret))))⟩
def A0G:SS:=[o 1 (.box a0b (t 0)),o 2 (.mv (.const (.bool false)))]
def l0y:SS:=[fA 3 0 1,fA 4 0 3,lD 5 4,o 6 (.un .not (t 5)),mV 7 6,og 8 7 true (.fa 0 (t 1)),og 9 7 true (.fa 1 (t 8)),og 10 7 true (.load false 1 (t 9)),og 11 7 true (.len (t 10)),og 12 7 true (.bin 0 .eql (t 11) (i 0)),o 13 (.pick (t 7) (t 12) (.const (.bool false))),mV 14 13,og 15 14 true (.fa 2 (t 1)),og 16 14 true (.fa 0 (t 15)),og 17 14 true (.load false 1 (t 16)),og 18 14 true (.un .not (t 17)),o 19 (.pick (t 14) (t 18) (.const (.bool false))),mV 20 19,og 21 20 true (.fa 2 (t 1)),og 22 20 true (.fa 1 (t 21)),og 23 20 true (.load false 1 (t 22)),og 24 20 true (.len (t 23)),og 25 20 true (.bin 0 .eql (t 24) (i 0)),o 26 (.pick (t 20) (t 25) (.const (.bool false))),mV 2 26]
def H0w:SF:=⟨1,27,[.tmp 2],
 (qS (gR A0G) (qS (gR l0y) .ret))⟩
def A0H:SS:=[o 2 (.box a0a (t 0)),o 3 (.box a0a (t 1)),o 4 (.alloc a0b [.bool false,.slice none 0 0,.bool false,.slice none 0 0]),o 5 (.mv (i 0))]
def A0I:SS:=[lA 7 2 3,o 8 (.call w0b [t 7] true)]
def O0X:SS:=[o 9 (.build [.bool false,.slice none 0 0,.bool false,.slice none 0 0] []),⟨none,none,.store 4 (t 4) (t 9)⟩,o 5 (.mv (i 11))]
def A0J:SS:=[lA 10 2 2,lA 11 2 3,o 12 (.call q0l [t 10,t 11] true),o 6 (.alloc a0a [.bool false,.slice none 0 0]),⟨none,none,.store 2 (t 6) (t 12)⟩]
def A0K:SS:=[lA 13 2 3,o 14 (.build [.bool false,.slice none 0 0] []),o 15 (.call m0g [t 13,t 14] true),o 16 (.bin 0 .lss (t 15) (i 0))]
def A0L:SS:=[lA 17 2 6,o 18 (.call G0t [t 17] true),⟨none,none,.store 2 (t 6) (t 18)⟩]
def s0r:SS:=[lA 20 2 2,lA 21 2 6,o 22 (.call k0B [t 20,t 21] true),mV 19 22,o 23 (.ext (t 19) 0),o 24 (.ext (t 19) 1),o 25 (.ext (t 19) 2),⟨none,none,.store 2 (t 2) (t 23)⟩]
def s0s:SS:=[lA 27 2 3,lA 28 2 6,o 29 (.call k0B [t 27,t 28] true),mV 26 29,o 30 (.ext (t 26) 0),o 31 (.ext (t 26) 1),o 32 (.ext (t 26) 2),⟨none,none,.store 2 (t 3) (t 30)⟩]
def s0t:SS:=[lA 33 2 2,lA 34 2 3,o 35 (.build [.bool false,.slice none 0 0,.bool false,.slice none 0 0] [(0,2,t 33),(2,2,t 34)]),⟨none,none,.store 4 (t 4) (t 35)⟩,o 5 (.mv (i 0))]
def H0x:SF:=⟨2,36,[.cell 4 true 4,.tmp 5],
 (qS (gR A0H) (qS (qS (gR A0I) (.cond (t 8) (qS (gR O0X) .ret) .skip)) (qS (gR A0J) (qS (qS (gR A0K) (.cond (t 16) (gR A0L) .skip)) (qS (gR s0r) (qS (gR s0s) (qS (gR s0t) .ret)))))))⟩
def A0M:SS:=[o 4 (.mv (.const (.slice none 0 0)))]
def A0N:SS:=[mV 9 0,lN 10 9,mV 11 1,lN 12 11,o 13 (.bin 0 .lss (t 10) (t 12))]
def A0O:SS:=[mV 14 1,mV 15 0,mV 0 14,mV 1 15]
def A0P:SS:=[mV 16 0,lN 17 16,o 18 (.bin 0 .add (t 17) (i 1)),o 19 (.mk a0m 4 [.int .u32 0] (i 0) (t 18)),mV 5 19]
def A0Q:SS:=[o 6 (.mv (.const (.int .u64 0)))]
def A0R:SS:=[mV 20 0,lN 21 20,o 22 (.mv (i 0))]
def p0k:SS:=[o 23 (.bin 0 .lss (t 22) (t 21))]
def s0u:SS:=[mV 24 22,iA 25 1 20 22,lD 26 25,mV 7 24,mV 8 26]
def s0v:SS:=[mV 27 6,mV 28 8,o 29 (.conv .u64 (t 28)),o 30 (.bin 0 .add (t 27) (t 29)),mV 6 30]
def s0w:SS:=[mV 31 7,mV 32 1,lN 33 32,o 34 (.bin 0 .lss (t 31) (t 33))]
def p0g:SS:=[mV 35 6,mV 36 1,mV 37 7,iA 38 1 36 37,lD 39 38,o 40 (.conv .u64 (t 39)),o 41 (.bin 0 .add (t 35) (t 40)),mV 6 41]
def p0h:SS:=[mV 42 5,mV 43 6,o 44 (.call f0z [t 43] true),o 45 (.lit a0m [.int .u32 0] 1 [(0,1,t 44)]),o 46 (.app a0m 1 4 (t 42) (t 45)),mV 5 46]
def p0i:SS:=[mV 47 6,o 48 (.bin 0 .shr (t 47) (.const (.int .u64 32))),mV 6 48]
def p0j:SS:=[o 49 (.bin 0 .add (t 22) (i 1)),mV 22 49]
def u0U:SS:=[mV 50 5,mV 51 6,o 52 (.call f0z [t 51] true),o 53 (.lit a0m [.int .u32 0] 1 [(0,1,t 52)]),o 54 (.app a0m 1 4 (t 50) (t 53)),mV 4 54]
def H0y:SF:=⟨2,55,[.tmp 4],
 (qS (gR A0M) (qS (qS (gR A0N) (.cond (t 13) (gR A0O) .skip)) (qS (gR A0P) (qS (gR A0Q) (qS (qS (gR A0R) (.block 0 (.loop (qS (gR p0k) (qS (.cond (t 23) .skip (.exit 0)) (qS (.block 1 (qS (gR s0u) (qS (gR s0v) (qS (qS (gR s0w) (.cond (t 34) (gR p0g) .skip)) (qS (gR p0h) (gR p0i)))))) (gR p0j))))))) (qS (gR u0U) .ret))))))⟩
def A0S:SS:=[o 4 (.mv (i 0))]
def A0T:SS:=[mV 6 0,lN 7 6,mV 8 1,lN 9 8,o 10 (.bin 0 .neq (t 7) (t 9))]
def A0U:SS:=[mV 11 0,lN 12 11,mV 13 1,lN 14 13,o 15 (.call y0b [t 12,t 14] true),mV 4 15]
def A0V:SS:=[mV 16 0,lN 17 16,o 18 (.bin 0 .sub (t 17) (i 1)),mV 5 18]
def s0x:SS:=[mV 19 5,o 20 (.bin 0 .geq (t 19) (i 0))]
def A0W:SS:=[mV 23 0,mV 24 5,iA 25 1 23 24,lD 26 25,mV 27 1,mV 28 5,iA 29 1 27 28,lD 30 29,o 31 (.bin 0 .neq (t 26) (t 30))]
def A0X:SS:=[mV 32 0,mV 33 5,iA 34 1 32 33,lD 35 34,mV 36 1,mV 37 5,iA 38 1 36 37,lD 39 38,o 40 (.call y0c [t 35,t 39] true),mV 4 40]
def A0Y:SS:=[mV 21 5,o 22 (.bin 0 .sub (t 21) (i 1)),mV 5 22]
def A0Z:SS:=[o 4 (.mv (i 0))]
def H0z:SF:=⟨2,41,[.tmp 4],
 (qS (gR A0S) (qS (qS (gR A0T) (.cond (t 10) (qS (gR A0U) .ret) .skip)) (qS (qS (gR A0V) (.block 0 (.loop (qS (qS (gR s0x) (.cond (t 20) .skip (.exit 0))) (qS (.block 1 (qS (.draw A0W [0,0,3,7,0,0,48,112,255] []) (.cond (t 31) (qS (.draw A0X [0,0,3,7,0,0,48,112,255,511] []) .ret) .skip))) (gR A0Y)))))) (qS (gR A0Z) .ret))))⟩
def B0a:SS:=[o 4 (.mv (.const (.slice none 0 0)))]
def B0b:SS:=[mV 11 0,lN 12 11,o 13 (.mk a0m 4 [.int .u32 0] (i 0) (t 12)),mV 5 13]
def B0c:SS:=[o 6 (.mv (.const (.int .u64 0)))]
def B0d:SS:=[mV 14 0,lN 15 14,o 16 (.mv (i 0))]
def p0o:SS:=[o 17 (.bin 0 .lss (t 16) (t 15))]
def s0y:SS:=[mV 18 16,iA 19 1 14 16,lD 20 19,mV 7 18,mV 8 20]
def s0z:SS:=[mV 21 6,mV 9 21]
def s0A:SS:=[mV 22 7,mV 23 1,lN 24 23,o 25 (.bin 0 .lss (t 22) (t 24))]
def s0B:SS:=[mV 26 9,mV 27 1,mV 28 7,iA 29 1 27 28,lD 30 29,o 31 (.conv .u64 (t 30)),o 32 (.bin 0 .add (t 26) (t 31)),mV 9 32]
def s0C:SS:=[mV 33 8,o 34 (.conv .u64 (t 33)),mV 35 9,o 36 (.bin 0 .sub (t 34) (t 35)),mV 10 36]
def p0l:SS:=[mV 37 5,mV 38 10,o 39 (.call f0z [t 38] true),o 40 (.lit a0m [.int .u32 0] 1 [(0,1,t 39)]),o 41 (.app a0m 1 4 (t 37) (t 40)),mV 5 41]
def p0m:SS:=[mV 42 10,o 43 (.bin 0 .shr (t 42) (.const (.int .u64 63))),mV 6 43]
def p0n:SS:=[o 44 (.bin 0 .add (t 16) (i 1)),mV 16 44]
def u0V:SS:=[mV 45 5,mV 4 45]
def H0A:SF:=⟨2,46,[.tmp 4],
 (qS (gR B0a) (qS (gR B0b) (qS (gR B0c) (qS (qS (gR B0d) (.block 0 (.loop (qS (gR p0o) (qS (.cond (t 17) .skip (.exit 0)) (qS (.block 1 (qS (gR s0y) (qS (gR s0z) (qS (qS (gR s0A) (.cond (t 25) (gR s0B) .skip)) (qS (gR s0C) (qS (gR p0l) (gR p0m))))))) (gR p0n))))))) (qS (gR u0V) .ret)))))⟩
def B0e:SS:=[o 2 (.mv (.const (.int .u32 0)))]
def B0f:SS:=[mV 3 0,o 4 (.conv .u32 (t 3)),mV 2 4]
def H0B:SF:=⟨1,5,[.tmp 2],
 (qS (gR B0e) (qS (gR B0f) .ret))⟩
def B0g:SS:=[o 1 (.box a0a (t 0)),o 2 (.mv (.const (.bool false)))]
def B0h:SS:=[fA 3 1 1,lD 4 3,lN 5 4,o 6 (.bin 0 .eql (t 5) (i 0))]
def B0i:SS:=[fA 7 0 1,lD 8 7,o 9 (.un .not (t 8)),mV 2 9]
def B0j:SS:=[fA 10 1 1,lD 11 10,fA 12 1 1,lD 13 12,lN 14 13,o 15 (.bin 0 .sub (t 14) (i 1)),iA 16 1 11 15,lD 17 16,o 18 (.bin 0 .neq (t 17) (.const (.int .u32 0))),mV 2 18]
def H0C:SF:=⟨1,19,[.tmp 2],
 (qS (gR B0g) (qS (qS (gR B0h) (.cond (t 6) (qS (gR B0i) .ret) .skip)) (qS (gR B0j) .ret)))⟩
def B0k:SS:=[o 1 (.box a0a (t 0)),o 2 (.mv (.const (.bool false)))]
def B0l:SS:=[lA 3 2 1,o 4 (.build [.bool false,.slice none 0 0] []),o 5 (.call m0g [t 3,t 4] true),o 6 (.bin 0 .eql (t 5) (i 0)),mV 2 6]
def H0D:SF:=⟨1,7,[.tmp 2],
 (qS (gR B0k) (qS (gR B0l) .ret))⟩
def B0m:SS:=[o 2 (.box a0a (t 0)),o 3 (.box a0a (t 1)),o 4 (.mv (i 0))]
def B0n:SS:=[lA 6 2 2,o 7 (.call d0S [t 6] true),mV 8 7,og 9 8 true (.load true 2 (t 3)),og 10 8 true (.call d0S [t 9] true),og 11 8 true (.un .not (t 10)),o 12 (.pick (t 8) (t 11) (.const (.bool false))),mV 5 12]
def B0o:SS:=[o 4 (.mv (.const (.int .i64 (-1))))]
def s0D:SS:=[lA 14 2 2,o 15 (.call d0S [t 14] true),o 16 (.un .not (t 15)),mV 17 16,og 18 17 true (.load true 2 (t 3)),og 19 17 true (.call d0S [t 18] true),o 20 (.pick (t 17) (t 19) (.const (.bool false))),mV 13 20]
def B0p:SS:=[o 4 (.mv (i 1))]
def s0E:SS:=[lA 22 2 2,o 23 (.call d0S [t 22] true),mV 21 23]
def B0q:SS:=[lA 24 2 3,o 25 (.call f0y [t 24] false),lA 26 2 2,o 27 (.call f0y [t 26] true),o 28 (.call q0j [t 25,t 27] true),mV 4 28]
def B0r:SS:=[lA 29 2 2,o 30 (.call f0y [t 29] false),lA 31 2 3,o 32 (.call f0y [t 31] true),o 33 (.call q0j [t 30,t 32] true),mV 4 33]
def H0E:SF:=⟨2,34,[.tmp 4],
 (qS (gR B0m) (qS (.block 0 (qS (gR B0n) (.cond (t 5) (qS (gR B0o) .ret) (qS (gR s0D) (.cond (t 13) (qS (gR B0p) .ret) (qS (gR s0E) (.cond (t 21) (qS (.draw B0q [0,1,0,7,15,31] []) .ret) .skip))))))) (qS (.draw B0r [0,1,0,7,15,31] []) .ret)))⟩
def B0s:SS:=[o 2 (.box a0a (t 0)),o 3 (.box a0a (t 1)),o 4 (.alloc a0a [.bool false,.slice none 0 0])]
def B0t:SS:=[lA 10 2 2,o 11 (.call f0y [t 10] false),o 12 (.call f0Y [(.const (.bool false)),t 11] false),lA 13 2 3,o 14 (.call f0y [t 13] false),o 15 (.call f0Y [(.const (.bool false)),t 14] false),o 5 (.alloc a0a [.bool false,.slice none 0 0]),o 6 (.alloc a0a [.bool false,.slice none 0 0]),⟨none,none,.store 2 (t 5) (t 12)⟩,⟨none,none,.store 2 (t 6) (t 15)⟩]
def s0F:SS:=[fA 16 1 6,lD 17 16,lN 18 17,o 19 (.bin 0 .gtr (t 18) (i 0))]
def B0u:SS:=[lA 21 2 5,lA 22 2 6,o 23 (.call k0B [t 21,t 22] true),mV 20 23,o 24 (.ext (t 20) 0),o 25 (.ext (t 20) 1),o 26 (.ext (t 20) 2),o 7 (.alloc a0a [.bool false,.slice none 0 0]),o 8 (.alloc a0a [.bool false,.slice none 0 0]),⟨none,none,.store 2 (t 7) (t 24)⟩,⟨none,none,.store 2 (t 8) (t 25)⟩,mV 9 26]
def B0v:SS:=[lA 27 2 6,lA 28 2 8,⟨none,none,.store 2 (t 5) (t 27)⟩,⟨none,none,.store 2 (t 6) (t 28)⟩]
def B0w:SS:=[lA 29 2 5,⟨none,none,.store 2 (t 4) (t 29)⟩]
def H0F:SF:=⟨2,30,[.cell 4 true 2],
 (qS (gR B0s) (qS (.draw B0t [0,1,3,0,15,31,0,0,255,511] []) (qS (.block 0 (.loop (qS (qS (gR s0F) (.cond (t 19) .skip (.exit 0))) (.block 1 (qS (gR B0u) (.draw B0v [0,0,1,7] [(1,2)])))))) (qS (gR B0w) .ret))))⟩
def B0x:SS:=[o 2 (.mv (.const (.slice none 0 0)))]
def B0y:SS:=[mV 3 0,o 4 (.bin 2 .eql (t 3) (.const (.slice none 0 0)))]
def B0z:SS:=[o 2 (.mv (.const (.slice none 0 0)))]
def B0A:SS:=[o 5 (.lit a0m [.int .u32 0] 0 []),mV 6 0,o 7 (.app a0m 1 4 (t 5) (t 6)),mV 2 7]
def H0G:SF:=⟨1,8,[.tmp 2],
 (qS (gR B0x) (qS (qS (gR B0y) (.cond (t 4) (qS (gR B0z) .ret) .skip)) (qS (gR B0A) .ret)))⟩
def B0B:SS:=[o 2 (.box a0a (t 0)),o 3 (.box a0a (t 1)),o 4 (.alloc a0a [.bool false,.slice none 0 0]),o 5 (.alloc a0a [.bool false,.slice none 0 0]),o 6 (.mv (i 0))]
def B0C:SS:=[lA 13 2 2,o 14 (.call f0y [t 13] false),lA 15 2 3,o 16 (.call f0y [t 15] true),mV 7 14,mV 8 16]
def B0D:SS:=[mV 18 8,lN 19 18,o 20 (.bin 0 .eql (t 19) (i 0)),mV 17 20]
def O0Y:SS:=[o 21 (.build [.bool false,.slice none 0 0] []),o 22 (.build [.bool false,.slice none 0 0] []),⟨none,none,.store 2 (t 4) (t 21)⟩,⟨none,none,.store 2 (t 5) (t 22)⟩,o 6 (.mv (i 1))]
def B0E:SS:=[mV 24 7,mV 25 8,o 26 (.call q0j [t 24,t 25] true),o 27 (.bin 0 .lss (t 26) (i 0)),mV 23 27]
def B0F:SS:=[o 28 (.build [.bool false,.slice none 0 0] []),lA 29 2 2,o 30 (.call d0S [t 29] true),mV 31 7,o 32 (.call f0Y [t 30,t 31] true),⟨none,none,.store 2 (t 4) (t 28)⟩,⟨none,none,.store 2 (t 5) (t 32)⟩,o 6 (.mv (i 0))]
def s0G:SS:=[mV 34 8,lN 35 34,o 36 (.bin 0 .eql (t 35) (i 1)),mV 33 36]
def B0G:SS:=[mV 38 7,mV 39 8,o 40 (.ia 1 (t 39) (i 0)),lD 41 40,o 42 (.call y0d [t 38,t 41] true),mV 37 42,o 43 (.ext (t 37) 0),o 44 (.ext (t 37) 1),mV 9 43,mV 10 44]
def B0H:SS:=[lA 45 2 2,o 46 (.call d0S [t 45] false),lA 47 2 3,o 48 (.call d0S [t 47] false),o 49 (.bin 1 .neq (t 46) (t 48)),mV 50 9,o 51 (.call f0Y [t 49,t 50] false),lA 52 2 2,o 53 (.call d0S [t 52] false),mV 54 10,o 55 (.lit a0m [.int .u32 0] 1 [(0,1,t 54)]),o 56 (.call f0Y [t 53,t 55] true),⟨none,none,.store 2 (t 4) (t 51)⟩,⟨none,none,.store 2 (t 5) (t 56)⟩,o 6 (.mv (i 0))]
def B0I:SS:=[mV 58 7,mV 59 8,o 60 (.call y0e [t 58,t 59] true),mV 57 60,o 61 (.ext (t 57) 0),o 62 (.ext (t 57) 1),mV 11 61,mV 12 62]
def u0W:SS:=[lA 63 2 2,o 64 (.call d0S [t 63] false),lA 65 2 3,o 66 (.call d0S [t 65] false),o 67 (.bin 1 .neq (t 64) (t 66)),mV 68 11,o 69 (.call f0Y [t 67,t 68] false),lA 70 2 2,o 71 (.call d0S [t 70] true),mV 72 12,o 73 (.call f0Y [t 71,t 72] true),⟨none,none,.store 2 (t 4) (t 69)⟩,⟨none,none,.store 2 (t 5) (t 73)⟩,o 6 (.mv (i 0))]
def H0H:SF:=⟨2,74,[.cell 4 true 2,.cell 5 true 2,.tmp 6],
 (qS (gR B0B) (qS (.draw B0C [0,1,0,7,15,31] []) (qS (.block 0 (qS (gR B0D) (.cond (t 17) (qS (gR O0Y) .ret) (qS (gR B0E) (.cond (t 23) (qS (gR B0F) .ret) (qS (gR s0G) (.cond (t 33) (qS (gR B0G) (qS (.draw B0H [0,1,0,7,15,0,63,0,255,0,512,2047,4095,8191,16383] []) .ret)) .skip))))))) (qS (gR B0I) (qS (.draw u0W [0,1,0,7,15,0,63,0,255,0,1023,2047,4095,8191] []) .ret)))))⟩
def B0J:SS:=[o 2 (.mv (.const (.slice none 0 0)))]
def B0K:SS:=[lD 5 0,cK 6 5,fA 7 2 6,lD 8 7,o 9 (.bin 0 .add (t 8) (i 1)),o 10 (.mk a0a 32 [.bool false,.slice none 0 0] (t 9) (t 9)),mV 3 10]
def B0L:SS:=[mV 11 3,lN 12 11,o 13 (.mv (i 0))]
def O0Z:SS:=[o 14 (.bin 0 .lss (t 13) (t 12))]
def B0M:SS:=[mV 15 13,mV 4 15]
def B0N:SS:=[mV 16 3,mV 17 4,lA 18 2 1,iA 19 2 16 17,⟨none,none,.store 2 (t 19) (t 18)⟩]
def P0a:SS:=[o 20 (.bin 0 .add (t 13) (i 1)),mV 13 20]
def B0O:SS:=[mV 21 3,mV 2 21]
def H0I:SF:=⟨2,22,[.tmp 2],
 (qS (gR B0J) (qS (gR B0K) (qS (qS (gR B0L) (.block 0 (.loop (qS (gR O0Z) (qS (.cond (t 14) .skip (.exit 0)) (qS (.block 1 (qS (gR B0M) (gR B0N))) (gR P0a))))))) (qS (gR B0O) .ret))))⟩
def B0P:SS:=[o 4 (.box a0a (t 1)),o 5 (.box a0a (t 2)),o 6 (.alloc a0a [.bool false,.slice none 0 0])]
def B0Q:SS:=[mV 8 0,cK 9 8,o 10 (.fa0 a0c (t 9)),lA 11 0 10,o 12 (.iface a0h (t 11)),o 13 (.call i0H [i 1] false),o 14 (.inv (t 12) [(a0h,i0I),(a0i,h0V)] [t 13] false),o 7 (.alloc a0a [.bool false,.slice none 0 0]),⟨none,none,.store 2 (t 7) (t 14)⟩]
def B0R:SS:=[mV 15 0,cK 16 15,o 17 (.fa0 a0c (t 16)),lA 18 0 17,o 19 (.iface a0h (t 18)),lA 20 2 4,lA 21 2 7,lA 22 2 5,lA 23 2 7,lA 24 2 7,o 25 (.inv (t 19) [(a0h,o0m),(a0i,o0n)] [t 20,t 21,t 22,t 23,t 24] true),⟨none,none,.store 2 (t 6) (t 25)⟩]
def H0J:SF:=⟨3,26,[.cell 6 true 2],
 (qS (gR B0P) (qS (.draw B0Q [0,1,3,7,15,0,63,0,255] []) (qS (.draw B0R [0,1,3,7,15,0,0,0,0,0,1023,2047] []) .ret)))⟩
def B0S:SS:=[mV 12 0,cK 13 12,fA 14 7 13,lD 15 14,o 16 (.bin 0 .add (t 15) (i 1)),cK 17 12,fA 18 7 17,⟨none,none,.store 1 (t 18) (t 16)⟩]
def B0T:SS:=[mV 19 0,cK 20 19,fA 21 3 20,lD 22 21,mV 23 1,iA 24 1 22 23,lD 25 24,mV 26 2,iA 27 2 25 26,lA 28 2 27,mV 29 0,cK 30 29,fA 31 3 30,lD 32 31,mV 33 1,iA 34 1 32 33,lD 35 34,o 6 (.alloc a0a [.bool false,.slice none 0 0]),⟨none,none,.store 2 (t 6) (t 28)⟩,mV 7 35]
def B0U:SS:=[mV 36 0,cK 37 36,fA 38 3 37,lD 39 38,lN 40 39,o 41 (.mv (i 0))]
def P0b:SS:=[o 42 (.bin 0 .lss (t 41) (t 40))]
def B0V:SS:=[mV 43 41,iA 44 1 39 41,lD 45 44,mV 8 43,mV 9 45]
def s0H:SS:=[mV 46 8,mV 47 1,o 48 (.bin 0 .eql (t 46) (t 47))]
def B0W:SS:=[mV 49 9,mV 50 2,iA 51 2 49 50,lA 52 2 51,o 10 (.alloc a0a [.bool false,.slice none 0 0]),⟨none,none,.store 2 (t 10) (t 52)⟩]
def B0X:SS:=[mV 53 9,lN 54 53,o 55 (.mv (i 0))]
def P0c:SS:=[o 56 (.bin 0 .lss (t 55) (t 54))]
def B0Y:SS:=[mV 57 55,mV 11 57]
def u0X:SS:=[mV 58 9,mV 59 11,mV 60 0,cK 61 60,o 62 (.fa0 a0c (t 61)),lA 63 0 62,o 64 (.iface a0h (t 63)),mV 65 9,mV 66 11,iA 67 2 65 66,lA 68 2 67,lA 69 2 6,lA 70 2 10,mV 71 7,mV 72 11,iA 73 2 71 72,lA 74 2 73,mV 75 0,cK 76 75,fA 77 4 76,lA 78 2 77,o 79 (.inv (t 64) [(a0h,o0m),(a0i,o0n)] [t 68,t 69,t 70,t 74,t 78] true),iA 80 2 58 59,⟨none,none,.store 2 (t 80) (t 79)⟩]
def H0b:SS:=[o 81 (.bin 0 .add (t 55) (i 1)),mV 55 81]
def H0c:SS:=[o 82 (.bin 0 .add (t 41) (i 1)),mV 41 82]
def u0Y:SS:=[mV 83 0,mV 84 0,cK 85 84,fA 86 6 85,lD 87 86,mV 88 1,lA 89 2 6,mV 90 2,cK 91 83,fA 92 4 91,⟨none,none,.store 2 (t 92) (t 89)⟩,iA 93 1 87 88,⟨none,none,.store 1 (t 93) (t 90)⟩]
def H0K:SF:=⟨3,94,[],
 (qS (gR B0S) (qS (.draw B0T [0,1,3,7,0,31,63,0,255,511,0,1024,3072,7168,0,31744,64512,0,132095,524287] [(13,18),(16,18)]) (qS (qS (gR B0U) (.block 0 (.loop (qS (gR P0b) (qS (.cond (t 42) .skip (.exit 0)) (qS (.block 1 (qS (gR B0V) (qS (qS (gR s0H) (.cond (t 48) (.exit 1) .skip)) (qS (gR B0W) (qS (gR B0X) (.block 2 (.loop (qS (gR P0c) (qS (.cond (t 56) .skip (.exit 2)) (qS (.block 3 (qS (gR B0Y) (.draw u0X [0,0,0,4,12,28,60,0,0,384,896,0,0,0,0,24576,57344,0,131072,393216,917504,2097148,4194303,8388607] []))) (gR H0b))))))))))) (gR H0c))))))) (.draw u0Y [0,0,2,6,14,0,0,0,95,351,863,2047,4095] []))))⟩
def B0Z:SS:=[o 2 (.box a0b (t 0)),o 3 (.box a0b (t 1)),o 4 (.alloc a0b [.bool false,.slice none 0 0,.bool false,.slice none 0 0]),o 5 (.mv (i 0))]
def C0a:SS:=[lA 6 4 2,o 7 (.call y0m [t 6] false),lA 8 4 3,o 9 (.call y0m [t 8] true),⟨none,none,.store 4 (t 2) (t 7)⟩,⟨none,none,.store 4 (t 3) (t 9)⟩]
def C0b:SS:=[fA 10 0 2,lA 11 2 10,fA 12 2 3,lA 13 2 12,o 14 (.call q0q [t 11,t 13] false),fA 15 2 2,lA 16 2 15,fA 17 0 3,lA 18 2 17,o 19 (.call q0q [t 16,t 18] true),o 20 (.call o0l [t 14,t 19] true),o 21 (.ext (t 20) 0),o 22 (.ext (t 20) 1),⟨none,none,.store 4 (t 4) (t 21)⟩,mV 5 22]
def H0L:SF:=⟨2,23,[.cell 4 true 4,.tmp 5],
 (qS (gR B0Z) (qS (.draw C0a [0,1,0,7,15,31] []) (qS (.draw C0b [0,1,0,4,15,0,32,0,128,511,1023,2047,2047,8191,16383] []) .ret)))⟩
def C0c:SS:=[o 3 (.box a0a (t 1)),o 4 (.alloc a0b [.bool false,.slice none 0 0,.bool false,.slice none 0 0])]
def C0d:SS:=[mV 8 0,cK 9 8,o 10 (.fa0 a0c (t 9)),lA 11 0 10,o 12 (.iface a0h (t 11)),lA 13 2 3,o 14 (.inv (t 12) [(a0h,q0o),(a0i,q0p)] [t 13] false),mV 15 0,cK 16 15,o 17 (.fa0 a0c (t 16)),lA 18 0 17,o 19 (.iface a0h (t 18)),mV 20 0,cK 21 20,fA 22 4 21,lA 23 2 22,o 24 (.inv (t 19) [(a0h,q0o),(a0i,q0p)] [t 23] false),o 25 (.call o0l [t 14,t 24] false),mV 7 25,o 26 (.ext (t 7) 0),o 27 (.ext (t 7) 1),o 5 (.alloc a0b [.bool false,.slice none 0 0,.bool false,.slice none 0 0]),⟨none,none,.store 4 (t 5) (t 26)⟩,mV 6 27]
def C0e:SS:=[lA 28 4 5,⟨none,none,.store 4 (t 4) (t 28)⟩]
def H0M:SF:=⟨2,29,[.cell 4 true 4],
 (qS (gR C0c) (qS (.draw C0d [0,1,3,7,15,0,63,0,128,384,896,1920,0,4096,12288,28672,65535,131071,262143,524287,524287,0,3145727,8388607] []) (qS (gR C0e) .ret)))⟩
def C0f:SS:=[o 2 (.box a0b (t 0)),o 3 (.box a0b (t 1)),o 4 (.alloc a0b [.bool false,.slice none 0 0,.bool false,.slice none 0 0])]
def C0g:SS:=[lA 5 4 2,lA 6 4 3,o 7 (.call y0m [t 6] false),o 8 (.call y0f [t 7] false),o 9 (.call r0w [t 5,t 8] true),⟨none,none,.store 4 (t 4) (t 9)⟩]
def H0N:SF:=⟨2,10,[.cell 4 true 4],
 (qS (gR C0f) (qS (.draw C0g [0,0,2,6,15,31] []) .ret))⟩
def C0h:SS:=[o 4 (.mv (i 0))]
def C0i:SS:=[mV 6 0,mV 7 1,o 8 (.bin 0 .lss (t 6) (t 7)),mV 5 8]
def C0j:SS:=[o 4 (.mv (.const (.int .i64 (-1))))]
def C0k:SS:=[mV 10 0,mV 11 1,o 12 (.bin 0 .gtr (t 10) (t 11)),mV 9 12]
def C0l:SS:=[o 4 (.mv (i 1))]
def C0m:SS:=[o 4 (.mv (i 0))]
def H0O:SF:=⟨2,13,[.tmp 4],
 (qS (gR C0h) (qS (.block 0 (qS (gR C0i) (.cond (t 5) (qS (gR C0j) .ret) (qS (gR C0k) (.cond (t 9) (qS (gR C0l) .ret) .skip))))) (qS (gR C0m) .ret)))⟩
def C0n:SS:=[o 4 (.mv (i 0))]
def C0o:SS:=[mV 6 0,mV 7 1,o 8 (.bin 0 .lss (t 6) (t 7)),mV 5 8]
def C0p:SS:=[o 4 (.mv (.const (.int .i64 (-1))))]
def C0q:SS:=[mV 10 0,mV 11 1,o 12 (.bin 0 .gtr (t 10) (t 11)),mV 9 12]
def C0r:SS:=[o 4 (.mv (i 1))]
def C0s:SS:=[o 4 (.mv (i 0))]
def H0P:SF:=⟨2,13,[.tmp 4],
 (qS (gR C0n) (qS (.block 0 (qS (gR C0o) (.cond (t 5) (qS (gR C0p) .ret) (qS (gR C0q) (.cond (t 9) (qS (gR C0r) .ret) .skip))))) (qS (gR C0s) .ret)))⟩
def C0t:SS:=[o 4 (.mv (.const (.slice none 0 0))),o 5 (.mv (.const (.int .u32 0)))]
def C0u:SS:=[mV 9 0,lN 10 9,o 11 (.mk a0m 4 [.int .u32 0] (t 10) (t 10)),mV 6 11]
def C0v:SS:=[o 7 (.mv (.const (.int .u64 0)))]
def C0w:SS:=[mV 12 0,lN 13 12,o 14 (.bin 0 .sub (t 13) (i 1)),mV 8 14]
def s0I:SS:=[mV 15 8,o 16 (.bin 0 .geq (t 15) (i 0))]
def C0x:SS:=[mV 19 7,o 20 (.bin 0 .shl (t 19) (.const (.int .u64 32))),mV 21 0,mV 22 8,iA 23 1 21 22,lD 24 23,o 25 (.conv .u64 (t 24)),o 26 (.bin 0 .or (t 20) (t 25)),mV 7 26]
def C0y:SS:=[mV 27 6,mV 28 8,mV 29 7,mV 30 1,o 31 (.conv .u64 (t 30)),o 32 (.bin 0 .quo (t 29) (t 31)),o 33 (.call f0z [t 32] true),iA 34 1 27 28,⟨none,none,.store 1 (t 34) (t 33)⟩]
def C0z:SS:=[mV 35 7,mV 36 1,o 37 (.conv .u64 (t 36)),o 38 (.bin 0 .rem (t 35) (t 37)),mV 7 38]
def C0A:SS:=[mV 17 8,o 18 (.bin 0 .sub (t 17) (i 1)),mV 8 18]
def C0B:SS:=[mV 39 6,mV 40 7,o 41 (.call f0z [t 40] true),mV 4 39,mV 5 41]
def H0Q:SF:=⟨2,42,[.tmp 4,.tmp 5],
 (qS (gR C0t) (qS (gR C0u) (qS (gR C0v) (qS (qS (gR C0w) (.block 0 (.loop (qS (qS (gR s0I) (.cond (t 16) .skip (.exit 0))) (qS (.block 1 (qS (gR C0x) (qS (gR C0y) (gR C0z)))) (gR C0A)))))) (qS (gR C0B) .ret)))))⟩
def C0C:SS:=[o 4 (.mv (.const (.slice none 0 0))),o 5 (.mv (.const (.slice none 0 0)))]
def C0D:SS:=[o 6 (.mv (i 0))]
def s0J:SS:=[mV 16 1,mV 17 1,lN 18 17,o 19 (.bin 0 .sub (t 18) (i 1)),iA 20 1 16 19,lD 21 20,mV 22 6,o 23 (.bin 0 .shl (t 21) (t 22)),o 24 (.bin 0 .shr (t 23) (.const (.int .u64 31))),o 25 (.bin 0 .eql (t 24) (.const (.int .u32 0)))]
def s0K:SS:=[mV 26 6,o 27 (.bin 0 .add (t 26) (i 1)),mV 6 27]
def C0E:SS:=[mV 28 0,mV 29 6,o 30 (.call w0f [t 28,t 29] true),mV 31 1,mV 32 6,o 33 (.call w0f [t 31,t 32] true),mV 34 1,lN 35 34,o 36 (.sl a0m 1 (t 33) none (some (t 35)) none),mV 7 30,mV 8 36]
def C0F:SS:=[mV 37 8,lN 38 37,mV 9 38]
def C0G:SS:=[mV 39 7,lN 40 39,mV 41 9,o 42 (.bin 0 .sub (t 40) (t 41)),o 43 (.mnx true (t 42) [i 0]),o 44 (.mk a0m 4 [.int .u32 0] (t 43) (t 43)),mV 4 44]
def C0H:SS:=[mV 45 8,mV 46 9,o 47 (.bin 0 .sub (t 46) (i 1)),iA 48 1 45 47,lD 49 48,o 50 (.conv .u64 (t 49)),mV 51 8,mV 52 9,o 53 (.bin 0 .sub (t 52) (i 2)),iA 54 1 51 53,lD 55 54,o 56 (.conv .u64 (t 55)),mV 10 50,mV 11 56]
def C0I:SS:=[mV 57 7,lN 58 57,mV 59 9,o 60 (.bin 0 .sub (t 58) (t 59)),o 61 (.bin 0 .sub (t 60) (i 1)),mV 12 61]
def s0L:SS:=[mV 62 12,o 63 (.bin 0 .geq (t 62) (i 0))]
def u0Z:SS:=[mV 66 7,mV 67 12,mV 68 9,o 69 (.bin 0 .add (t 67) (t 68)),iA 70 1 66 69,lD 71 70,o 72 (.conv .u64 (t 71)),o 73 (.bin 0 .shl (t 72) (.const (.int .u64 32))),mV 74 7,mV 75 12,mV 76 9,o 77 (.bin 0 .add (t 75) (t 76)),o 78 (.bin 0 .sub (t 77) (i 1)),iA 79 1 74 78,lD 80 79,o 81 (.conv .u64 (t 80)),o 82 (.bin 0 .or (t 73) (t 81)),mV 13 82]
def v0a:SS:=[mV 83 13,mV 84 10,o 85 (.bin 0 .quo (t 83) (t 84)),mV 86 13,mV 87 10,o 88 (.bin 0 .rem (t 86) (t 87)),mV 14 85,mV 15 88]
def k0c:SS:=[mV 89 14,o 90 (.bin 0 .geq (t 89) (.const (.int .u64 4294967296))),mV 91 90,og 92 91 false (.mv (t 14)),og 93 91 false (.mv (t 11)),og 94 91 false (.bin 0 .mul (t 92) (t 93)),og 95 91 false (.mv (t 15)),og 96 91 false (.bin 0 .shl (t 95) (.const (.int .u64 32))),og 97 91 false (.mv (t 7)),og 98 91 false (.mv (t 12)),og 99 91 false (.mv (t 9)),og 100 91 false (.bin 0 .add (t 98) (t 99)),og 101 91 false (.bin 0 .sub (t 100) (i 2)),og 102 91 false (.ia 1 (t 97) (t 101)),og 103 91 false (.load false 1 (t 102)),og 104 91 false (.conv .u64 (t 103)),og 105 91 false (.bin 0 .or (t 96) (t 104)),og 106 91 false (.bin 0 .gtr (t 94) (t 105)),o 107 (.pick (t 91) (.const (.bool true)) (t 106))]
def i0o:SS:=[mV 108 14,o 109 (.bin 0 .sub (t 108) (.const (.int .u64 1))),mV 14 109]
def i0p:SS:=[mV 110 15,mV 111 10,o 112 (.bin 0 .add (t 110) (t 111)),mV 15 112]
def i0q:SS:=[mV 113 15,o 114 (.bin 0 .geq (t 113) (.const (.int .u64 4294967296)))]
def v0b:SS:=[mV 115 7,mV 116 12,mV 117 12,mV 118 9,o 119 (.bin 0 .add (t 117) (t 118)),o 120 (.bin 0 .add (t 119) (i 1)),o 121 (.sl a0m 1 (t 115) (some (t 116)) (some (t 120)) none),mV 122 8,mV 123 14,o 124 (.call y0g [t 121,t 122,t 123] true)]
def v0c:SS:=[mV 125 14,o 126 (.bin 0 .sub (t 125) (.const (.int .u64 1))),mV 14 126]
def v0d:SS:=[mV 127 7,mV 128 12,mV 129 12,mV 130 9,o 131 (.bin 0 .add (t 129) (t 130)),o 132 (.bin 0 .add (t 131) (i 1)),o 133 (.sl a0m 1 (t 127) (some (t 128)) (some (t 132)) none),mV 134 8,o 135 (.call y0h [t 133,t 134] true)]
def p0p:SS:=[mV 136 4,mV 137 12,mV 138 14,o 139 (.call f0z [t 138] true),iA 140 1 136 137,⟨none,none,.store 1 (t 140) (t 139)⟩]
def p0q:SS:=[mV 64 12,o 65 (.bin 0 .sub (t 64) (i 1)),mV 12 65]
def v0e:SS:=[mV 141 4,mV 142 7,mV 143 9,o 144 (.sl a0m 1 (t 142) none (some (t 143)) none),mV 145 6,o 146 (.call y0i [t 144,t 145] true),mV 4 141,mV 5 146]
def H0R:SF:=⟨2,147,[.tmp 4,.tmp 5],
 (qS (gR C0C) (qS (gR C0D) (qS (.block 0 (.loop (qS (qS (gR s0J) (.cond (t 25) .skip (.exit 0))) (.block 1 (gR s0K))))) (qS (.draw C0E [0,0,3,0,0,31,0,64,255,63,1023] []) (qS (gR C0F) (qS (gR C0G) (qS (.draw C0H [0,0,2,7,15,31,0,0,128,448,960,1984,63,8191] []) (qS (qS (gR C0I) (.block 2 (.loop (qS (qS (gR s0L) (.cond (t 63) .skip (.exit 2))) (qS (.block 3 (qS (.draw u0Z [0,0,0,6,15,31,63,127,0,0,0,1536,3584,7936,16128,32512,65535,131071] []) (qS (.draw v0a [0,0,3,0,0,24,7,127] []) (qS (.block 4 (.loop (qS (qS (gR k0c) (.cond (t 107) .skip (.exit 4))) (.block 5 (qS (gR i0o) (qS (gR i0p) (qS (gR i0q) (.cond (t 114) (.exit 4) .skip)))))))) (qS (qS (gR v0b) (.cond (t 124) (qS (gR v0c) (gR v0d)) .skip)) (gR p0p)))))) (gR p0q)))))) (qS (gR v0e) .ret)))))))))⟩
def C0J:SS:=[o 2 (.mv (.const (.slice none 0 0)))]
def C0K:SS:=[lD 5 0,cK 6 5,fA 7 2 6,lD 8 7,o 9 (.bin 0 .add (t 8) (i 1)),o 10 (.mk d0p 8 [.int .i64 0] (t 9) (t 9)),mV 3 10]
def C0L:SS:=[mV 11 3,lN 12 11,o 13 (.mv (i 0))]
def P0d:SS:=[o 14 (.bin 0 .lss (t 13) (t 12))]
def C0M:SS:=[mV 15 13,mV 4 15]
def C0N:SS:=[mV 16 3,mV 17 4,lD 18 1,iA 19 1 16 17,⟨none,none,.store 1 (t 19) (t 18)⟩]
def P0e:SS:=[o 20 (.bin 0 .add (t 13) (i 1)),mV 13 20]
def C0O:SS:=[mV 21 3,mV 2 21]
def H0S:SF:=⟨2,22,[.tmp 2],
 (qS (gR C0J) (qS (gR C0K) (qS (qS (gR C0L) (.block 0 (.loop (qS (gR P0d) (qS (.cond (t 14) .skip (.exit 0)) (qS (.block 1 (qS (gR C0M) (gR C0N))) (gR P0e))))))) (qS (gR C0O) .ret))))⟩
def C0P:SS:=[o 6 (.mv (i 0))]
def C0Q:SS:=[mV 8 0,cK 9 8,o 10 (.fa0 a0d (t 9)),lA 11 0 10,o 12 (.iface a0i (t 11)),o 13 (.call i0H [i 1] false),o 14 (.inv (t 12) [(a0h,i0I),(a0i,h0V)] [t 13] true),mV 7 14]
def C0R:SS:=[mV 15 0,cK 16 15,o 17 (.fa0 a0d (t 16)),lA 18 0 17,o 19 (.iface a0i (t 18)),mV 20 1,mV 21 7,mV 22 2,mV 23 7,mV 24 7,o 25 (.inv (t 19) [(a0h,o0m),(a0i,o0n)] [t 20,t 21,t 22,t 23,t 24] true),mV 6 25]
def H0T:SF:=⟨3,26,[.tmp 6],
 (qS (gR C0P) (qS (.draw C0Q [0,1,3,7,15,0,63,127] []) (qS (gR C0R) .ret)))⟩
def C0S:SS:=[mV 12 0,cK 13 12,fA 14 6 13,lD 15 14,o 16 (.bin 0 .add (t 15) (i 1)),cK 17 12,fA 18 6 17,⟨none,none,.store 1 (t 18) (t 16)⟩]
def C0T:SS:=[mV 19 0,cK 20 19,fA 21 3 20,lD 22 21,mV 23 1,iA 24 1 22 23,lD 25 24,mV 26 2,iA 27 1 25 26,lD 28 27,mV 29 0,cK 30 29,fA 31 3 30,lD 32 31,mV 33 1,iA 34 1 32 33,lD 35 34,mV 6 28,mV 7 35]
def C0U:SS:=[mV 36 0,cK 37 36,fA 38 3 37,lD 39 38,lN 40 39,o 41 (.mv (i 0))]
def P0f:SS:=[o 42 (.bin 0 .lss (t 41) (t 40))]
def C0V:SS:=[mV 43 41,iA 44 1 39 41,lD 45 44,mV 8 43,mV 9 45]
def s0M:SS:=[mV 46 8,mV 47 1,o 48 (.bin 0 .eql (t 46) (t 47))]
def C0W:SS:=[mV 49 9,mV 50 2,iA 51 1 49 50,lD 52 51,mV 10 52]
def C0X:SS:=[mV 53 9,lN 54 53,o 55 (.mv (i 0))]
def P0g:SS:=[o 56 (.bin 0 .lss (t 55) (t 54))]
def C0Y:SS:=[mV 57 55,mV 11 57]
def v0f:SS:=[mV 58 9,mV 59 11,mV 60 0,cK 61 60,o 62 (.fa0 a0d (t 61)),lA 63 0 62,o 64 (.iface a0i (t 63)),mV 65 9,mV 66 11,iA 67 1 65 66,lD 68 67,mV 69 6,mV 70 10,mV 71 7,mV 72 11,iA 73 1 71 72,lD 74 73,mV 75 0,cK 76 75,fA 77 4 76,lD 78 77,o 79 (.inv (t 64) [(a0h,o0m),(a0i,o0n)] [t 68,t 69,t 70,t 74,t 78] true),iA 80 1 58 59,⟨none,none,.store 1 (t 80) (t 79)⟩]
def H0d:SS:=[o 81 (.bin 0 .add (t 55) (i 1)),mV 55 81]
def H0e:SS:=[o 82 (.bin 0 .add (t 41) (i 1)),mV 41 82]
def v0g:SS:=[mV 83 0,mV 84 0,cK 85 84,fA 86 5 85,lD 87 86,mV 88 1,mV 89 6,mV 90 2,cK 91 83,fA 92 4 91,⟨none,none,.store 1 (t 92) (t 89)⟩,iA 93 1 87 88,⟨none,none,.store 1 (t 93) (t 90)⟩]
def H0U:SF:=⟨3,94,[],
 (qS (gR C0S) (qS (.draw C0T [0,1,3,7,0,31,63,0,255,511,0,1024,3072,7168,0,31744,64512,1023,262143] []) (qS (qS (gR C0U) (.block 0 (.loop (qS (gR P0f) (qS (.cond (t 42) .skip (.exit 0)) (qS (.block 1 (qS (gR C0V) (qS (qS (gR s0M) (.cond (t 48) (.exit 1) .skip)) (qS (gR C0W) (qS (gR C0X) (.block 2 (.loop (qS (gR P0g) (qS (.cond (t 56) .skip (.exit 2)) (qS (.block 3 (qS (gR C0Y) (.draw v0f [0,0,0,4,12,28,60,0,0,384,896,0,0,0,0,24576,57344,0,131072,393216,917504,2097148,4194303,8388607] []))) (gR H0d))))))))))) (gR H0e))))))) (gR v0g))))⟩
def C0Z:SS:=[o 4 (.alloc a0b [.bool false,.slice none 0 0,.bool false,.slice none 0 0])]
def D0a:SS:=[mV 8 0,cK 9 8,o 10 (.fa0 a0d (t 9)),lA 11 0 10,o 12 (.iface a0i (t 11)),mV 13 1,o 14 (.inv (t 12) [(a0h,q0o),(a0i,q0p)] [t 13] false),mV 15 0,cK 16 15,o 17 (.fa0 a0d (t 16)),lA 18 0 17,o 19 (.iface a0i (t 18)),mV 20 0,cK 21 20,fA 22 4 21,lD 23 22,o 24 (.inv (t 19) [(a0h,q0o),(a0i,q0p)] [t 23] false),o 25 (.call o0l [t 14,t 24] false),mV 7 25,o 26 (.ext (t 7) 0),o 27 (.ext (t 7) 1),o 5 (.alloc a0b [.bool false,.slice none 0 0,.bool false,.slice none 0 0]),⟨none,none,.store 4 (t 5) (t 26)⟩,mV 6 27]
def D0b:SS:=[lA 28 4 5,⟨none,none,.store 4 (t 4) (t 28)⟩]
def H0V:SF:=⟨2,29,[.cell 4 true 4],
 (qS (gR C0Z) (qS (.draw D0a [0,1,3,7,15,0,63,0,128,384,896,1920,0,4096,12288,28672,65535,131071,262143,524287,524287,0,3145727,8388607] []) (qS (gR D0b) .ret)))⟩
def D0c:SS:=[o 1 (.box a0b (t 0)),o 2 (.alloc a0b [.bool false,.slice none 0 0,.bool false,.slice none 0 0])]
def D0d:SS:=[fA 3 0 1,lA 4 2 3,o 5 (.call G0t [t 4] false),fA 6 2 1,lA 7 2 6,o 8 (.build [.bool false,.slice none 0 0,.bool false,.slice none 0 0] [(0,2,t 5),(2,2,t 7)]),⟨none,none,.store 4 (t 2) (t 8)⟩]
def H0W:SF:=⟨1,9,[.cell 2 true 4],
 (qS (gR D0c) (qS (.draw D0d [0,1,3,0,8,31,63] []) .ret))⟩
def D0e:SS:=[o 4 (.mv (.const (.slice none 0 0)))]
def D0f:SS:=[mV 9 0,lN 10 9,o 11 (.bin 0 .add (t 10) (i 1)),o 12 (.mk a0m 4 [.int .u32 0] (i 0) (t 11)),mV 5 12]
def D0g:SS:=[o 6 (.mv (.const (.int .u64 0)))]
def D0h:SS:=[mV 13 0,lN 14 13,o 15 (.mv (i 0))]
def s0N:SS:=[o 16 (.bin 0 .lss (t 15) (t 14))]
def D0i:SS:=[iA 17 1 13 15,lD 18 17,mV 8 18]
def D0j:SS:=[mV 19 6,mV 20 8,o 21 (.conv .u64 (t 20)),mV 22 1,o 23 (.bin 0 .shl (t 21) (t 22)),o 24 (.bin 0 .or (t 19) (t 23)),mV 6 24]
def D0k:SS:=[mV 25 5,mV 26 6,o 27 (.call f0z [t 26] true),o 28 (.lit a0m [.int .u32 0] 1 [(0,1,t 27)]),o 29 (.app a0m 1 4 (t 25) (t 28)),mV 5 29]
def D0l:SS:=[mV 30 6,o 31 (.bin 0 .shr (t 30) (.const (.int .u64 32))),mV 6 31]
def D0m:SS:=[o 32 (.bin 0 .add (t 15) (i 1)),mV 15 32]
def v0h:SS:=[mV 33 5,mV 34 6,o 35 (.call f0z [t 34] true),o 36 (.lit a0m [.int .u32 0] 1 [(0,1,t 35)]),o 37 (.app a0m 1 4 (t 33) (t 36)),mV 4 37]
def H0X:SF:=⟨2,38,[.tmp 4],
 (qS (gR D0e) (qS (gR D0f) (qS (gR D0g) (qS (qS (gR D0h) (.block 0 (.loop (qS (gR s0N) (qS (.cond (t 16) .skip (.exit 0)) (qS (.block 1 (qS (gR D0i) (qS (gR D0j) (qS (gR D0k) (gR D0l))))) (gR D0m))))))) (qS (gR v0h) .ret)))))⟩
def D0n:SS:=[o 6 (.mv (.const (.bool false)))]
def D0o:SS:=[o 7 (.mv (.const (.int .u64 0)))]
def D0p:SS:=[mV 10 0,lN 11 10,o 12 (.mv (i 0))]
def p0s:SS:=[o 13 (.bin 0 .lss (t 12) (t 11))]
def s0O:SS:=[mV 14 12,mV 8 14]
def s0P:SS:=[mV 15 8,mV 16 1,lN 17 16,o 18 (.bin 0 .lss (t 15) (t 17))]
def s0Q:SS:=[mV 19 7,mV 20 1,mV 21 8,iA 22 1 20 21,lD 23 22,o 24 (.conv .u64 (t 23)),mV 25 2,o 26 (.bin 0 .mul (t 24) (t 25)),o 27 (.bin 0 .add (t 19) (t 26)),mV 7 27]
def s0R:SS:=[mV 28 0,mV 29 8,iA 30 1 28 29,lD 31 30,o 32 (.conv .u64 (t 31)),mV 33 7,o 34 (.bin 0 .and (t 33) (.const (.int .u64 4294967295))),o 35 (.bin 0 .sub (t 32) (t 34)),mV 9 35]
def s0S:SS:=[mV 36 0,mV 37 8,mV 38 9,o 39 (.call f0z [t 38] true),iA 40 1 36 37,⟨none,none,.store 1 (t 40) (t 39)⟩]
def s0T:SS:=[mV 41 7,o 42 (.bin 0 .shr (t 41) (.const (.int .u64 32))),mV 43 9,o 44 (.bin 0 .shr (t 43) (.const (.int .u64 63))),o 45 (.bin 0 .add (t 42) (t 44)),mV 7 45]
def p0r:SS:=[o 46 (.bin 0 .add (t 12) (i 1)),mV 12 46]
def v0i:SS:=[mV 47 7,o 48 (.bin 0 .neq (t 47) (.const (.int .u64 0))),mV 6 48]
def H0Y:SF:=⟨3,49,[.tmp 6],
 (qS (gR D0n) (qS (gR D0o) (qS (qS (gR D0p) (.block 0 (.loop (qS (gR p0s) (qS (.cond (t 13) .skip (.exit 0)) (qS (.block 1 (qS (gR s0O) (qS (qS (gR s0P) (.cond (t 18) (gR s0Q) .skip)) (qS (gR s0R) (qS (gR s0S) (gR s0T)))))) (gR p0r))))))) (qS (gR v0i) .ret))))⟩
def D0q:SS:=[o 4 (.mv (.const (.int .u64 0)))]
def D0r:SS:=[mV 6 0,lN 7 6,o 8 (.mv (i 0))]
def p0t:SS:=[o 9 (.bin 0 .lss (t 8) (t 7))]
def s0U:SS:=[mV 10 8,mV 5 10]
def s0V:SS:=[mV 11 4,mV 12 0,mV 13 5,iA 14 1 12 13,lD 15 14,o 16 (.conv .u64 (t 15)),o 17 (.bin 0 .add (t 11) (t 16)),mV 4 17]
def s0W:SS:=[mV 18 5,mV 19 1,lN 20 19,o 21 (.bin 0 .lss (t 18) (t 20))]
def s0X:SS:=[mV 22 4,mV 23 1,mV 24 5,iA 25 1 23 24,lD 26 25,o 27 (.conv .u64 (t 26)),o 28 (.bin 0 .add (t 22) (t 27)),mV 4 28]
def s0Y:SS:=[mV 29 0,mV 30 5,mV 31 4,o 32 (.call f0z [t 31] true),iA 33 1 29 30,⟨none,none,.store 1 (t 33) (t 32)⟩]
def s0Z:SS:=[mV 34 4,o 35 (.bin 0 .shr (t 34) (.const (.int .u64 32))),mV 4 35]
def t0a:SS:=[o 36 (.bin 0 .add (t 8) (i 1)),mV 8 36]
def H0Z:SF:=⟨2,37,[],
 (qS (gR D0q) (qS (gR D0r) (.block 0 (.loop (qS (gR p0t) (qS (.cond (t 9) .skip (.exit 0)) (qS (.block 1 (qS (gR s0U) (qS (gR s0V) (qS (qS (gR s0W) (.cond (t 21) (gR s0X) .skip)) (qS (gR s0Y) (gR s0Z)))))) (gR t0a))))))))⟩
def D0s:SS:=[o 4 (.mv (.const (.slice none 0 0)))]
def D0t:SS:=[mV 8 0,lN 9 8,o 10 (.mk a0m 4 [.int .u32 0] (t 9) (t 9)),mV 5 10]
def D0u:SS:=[mV 11 0,lN 12 11,o 13 (.mv (i 0))]
def p0u:SS:=[o 14 (.bin 0 .lss (t 13) (t 12))]
def t0b:SS:=[mV 15 13,mV 6 15]
def t0c:SS:=[mV 16 0,mV 17 6,iA 18 1 16 17,lD 19 18,o 20 (.conv .u64 (t 19)),mV 7 20]
def t0d:SS:=[mV 21 6,o 22 (.bin 0 .add (t 21) (i 1)),mV 23 0,lN 24 23,o 25 (.bin 0 .lss (t 22) (t 24))]
def t0e:SS:=[mV 26 7,mV 27 0,mV 28 6,o 29 (.bin 0 .add (t 28) (i 1)),iA 30 1 27 29,lD 31 30,o 32 (.conv .u64 (t 31)),o 33 (.bin 0 .shl (t 32) (.const (.int .u64 32))),o 34 (.bin 0 .or (t 26) (t 33)),mV 7 34]
def t0f:SS:=[mV 35 5,mV 36 6,mV 37 7,mV 38 1,o 39 (.bin 0 .shr (t 37) (t 38)),o 40 (.call f0z [t 39] true),iA 41 1 35 36,⟨none,none,.store 1 (t 41) (t 40)⟩]
def t0g:SS:=[o 42 (.bin 0 .add (t 13) (i 1)),mV 13 42]
def v0j:SS:=[mV 43 5,mV 4 43]
def I0a:SF:=⟨2,44,[.tmp 4],
 (qS (gR D0s) (qS (gR D0t) (qS (qS (gR D0u) (.block 0 (.loop (qS (gR p0u) (qS (.cond (t 14) .skip (.exit 0)) (qS (.block 1 (qS (gR t0b) (qS (gR t0c) (qS (qS (gR t0d) (.cond (t 25) (gR t0e) .skip)) (gR t0f))))) (gR t0g))))))) (qS (gR v0j) .ret))))⟩
def D0v:SS:=[o 5 (.box a0h (t 0)),o 6 (.box a0a (t 1)),o 7 (.box a0a (t 2)),o 8 (.box a0a (t 3)),o 9 (.box a0a (t 4)),o 10 (.mv (i 0))]
def D0w:SS:=[lA 11 2 6,lA 12 2 7,o 13 (.call q0q [t 11,t 12] false),lA 14 2 8,lA 15 2 9,o 16 (.call q0q [t 14,t 15] true),o 17 (.call m0g [t 13,t 16] true),mV 10 17]
def I0b:SF:=⟨5,18,[.tmp 10],
 (qS (gR D0v) (qS (.draw D0w [0,0,3,0,0,31,63,127] []) .ret))⟩
def D0x:SS:=[o 2 (.box a0h (t 0)),o 3 (.box a0a (t 1)),o 4 (.alloc a0a [.bool false,.slice none 0 0])]
def D0y:SS:=[lA 5 2 3,o 6 (.call G0t [t 5] true),⟨none,none,.store 2 (t 4) (t 6)⟩]
def I0c:SF:=⟨2,7,[.cell 4 true 2],
 (qS (gR D0x) (qS (gR D0y) .ret))⟩
def D0z:SS:=[o 2 (.box a0h (t 0)),o 3 (.box a0a (t 1)),o 4 (.alloc a0a [.bool false,.slice none 0 0])]
def D0A:SS:=[lA 5 2 3,⟨none,none,.store 2 (t 4) (t 5)⟩]
def I0d:SF:=⟨2,6,[.cell 4 true 2],
 (qS (gR D0z) (qS (gR D0A) .ret))⟩
def D0B:SS:=[o 2 (.box a0h (t 0)),o 3 (.box a0a (t 1)),o 4 (.alloc a0a [.bool false,.slice none 0 0])]
def D0C:SS:=[lA 5 2 3,⟨none,none,.store 2 (t 4) (t 5)⟩]
def I0e:SF:=⟨2,6,[.cell 4 true 2],
 (qS (gR D0B) (qS (gR D0C) .ret))⟩
def D0D:SS:=[o 2 (.box a0h (t 0)),o 3 (.box a0a (t 1)),o 4 (.mv (i 0))]
def D0E:SS:=[lA 5 2 3,o 6 (.build [.bool false,.slice none 0 0] []),o 7 (.call m0g [t 5,t 6] true),mV 4 7]
def I0f:SF:=⟨2,8,[.tmp 4],
 (qS (gR D0D) (qS (gR D0E) .ret))⟩
def D0F:SS:=[o 6 (.box a0h (t 0)),o 7 (.box a0a (t 1)),o 8 (.box a0a (t 2)),o 9 (.box a0a (t 3)),o 10 (.box a0a (t 4)),o 11 (.box a0a (t 5)),o 12 (.alloc a0a [.bool false,.slice none 0 0])]
def D0G:SS:=[lA 17 2 7,lA 18 2 8,o 19 (.call q0q [t 17,t 18] false),lA 20 2 9,lA 21 2 10,o 22 (.call q0q [t 20,t 21] false),o 23 (.call y0j [t 19,t 22] false),lA 24 2 11,o 25 (.call k0B [t 23,t 24] false),mV 16 25,o 26 (.ext (t 16) 0),o 27 (.ext (t 16) 1),o 28 (.ext (t 16) 2),o 13 (.alloc a0a [.bool false,.slice none 0 0]),o 14 (.alloc a0a [.bool false,.slice none 0 0]),⟨none,none,.store 2 (t 13) (t 26)⟩,⟨none,none,.store 2 (t 14) (t 27)⟩,mV 15 28]
def D0H:SS:=[lA 29 2 13,⟨none,none,.store 2 (t 12) (t 29)⟩]
def I0g:SF:=⟨6,30,[.cell 12 true 2],
 (qS (gR D0F) (qS (.draw D0G [0,0,3,0,0,31,63,0,255,511,1023,1023,1023,0,0,26623,61439,131071] []) (qS (gR D0H) .ret)))⟩
def D0I:SS:=[o 2 (.box a0a (t 0)),o 3 (.box a0a (t 1)),o 4 (.alloc a0a [.bool false,.slice none 0 0])]
def D0J:SS:=[lA 5 2 2,lA 6 2 3,o 7 (.call G0t [t 6] false),o 8 (.call y0n [t 5,t 7] true),⟨none,none,.store 2 (t 4) (t 8)⟩]
def I0h:SF:=⟨2,9,[.cell 4 true 2],
 (qS (gR D0I) (qS (.draw D0J [0,0,2,7,15] []) .ret))⟩
def D0K:SS:=[o 5 (.box a0i (t 0)),o 10 (.mv (i 0))]
def D0L:SS:=[mV 11 1,mV 12 2,o 13 (.bin 0 .mul (t 11) (t 12)),mV 14 3,mV 15 4,o 16 (.bin 0 .mul (t 14) (t 15)),o 17 (.call w0i [t 13,t 16] true),mV 10 17]
def I0i:SF:=⟨5,18,[.tmp 10],
 (qS (gR D0K) (qS (gR D0L) .ret))⟩
def D0M:SS:=[o 2 (.box a0i (t 0)),o 4 (.mv (i 0))]
def D0N:SS:=[mV 5 1,o 6 (.un .neg (t 5)),mV 4 6]
def I0j:SF:=⟨2,7,[.tmp 4],
 (qS (gR D0M) (qS (gR D0N) .ret))⟩
def D0O:SS:=[o 2 (.box a0i (t 0)),o 4 (.alloc a0a [.bool false,.slice none 0 0])]
def D0P:SS:=[mV 5 1,o 6 (.call i0H [t 5] true),⟨none,none,.store 2 (t 4) (t 6)⟩]
def I0k:SF:=⟨2,7,[.cell 4 true 2],
 (qS (gR D0O) (qS (gR D0P) .ret))⟩
def t0h:SS:=[o 2 (.box a0i (t 0)),o 3 (.box a0a (t 1)),o 4 (.mv (i 0))]
def t0i:SS:=[lA 8 2 3,o 9 (.call y0k [t 8] true),mV 7 9,o 10 (.ext (t 7) 0),o 11 (.ext (t 7) 1),mV 5 10,mV 6 11]
def t0j:SS:=[mV 12 6,o 13 (.un .not (t 12))]
def D0Q:SS:=[o 14 (.build [] []),o 15 (.iface f0a (t 14)),⟨none,none,.pan (t 15)⟩]
def t0k:SS:=[mV 16 5,o 17 (.call r0T [t 16] true),mV 4 17]
def F0o:SF:=⟨2,18,[.tmp 4],
 (qS (gR t0h) (qS (gR t0i) (qS (qS (gR t0j) (.cond (t 13) (gR D0Q) .skip)) (qS (gR t0k) .ret))))⟩
def D0R:SS:=[o 2 (.box a0i (t 0)),o 4 (.mv (i 0))]
def D0S:SS:=[mV 5 1,o 6 (.call w0i [t 5,i 0] true),mV 4 6]
def I0l:SF:=⟨2,7,[.tmp 4],
 (qS (gR D0R) (qS (gR D0S) .ret))⟩
def D0T:SS:=[o 6 (.box a0i (t 0)),o 12 (.mv (i 0))]
def D0U:SS:=[mV 13 1,mV 14 2,o 15 (.bin 0 .mul (t 13) (t 14)),mV 16 3,mV 17 4,o 18 (.bin 0 .mul (t 16) (t 17)),o 19 (.bin 0 .sub (t 15) (t 18)),mV 20 5,o 21 (.bin 0 .quo (t 19) (t 20)),o 22 (.call r0T [t 21] true),mV 12 22]
def I0m:SF:=⟨6,23,[.tmp 12],
 (qS (gR D0T) (qS (gR D0U) .ret))⟩
def D0V:SS:=[o 4 (.mv (i 0))]
def D0W:SS:=[mV 6 0,mV 7 1,o 8 (.bin 0 .lss (t 6) (t 7)),mV 5 8]
def D0X:SS:=[o 4 (.mv (.const (.int .i64 (-1))))]
def D0Y:SS:=[mV 10 0,mV 11 1,o 12 (.bin 0 .gtr (t 10) (t 11)),mV 9 12]
def D0Z:SS:=[o 4 (.mv (i 1))]
def E0a:SS:=[o 4 (.mv (i 0))]
def I0n:SF:=⟨2,13,[.tmp 4],
 (qS (gR D0V) (qS (.block 0 (qS (gR D0W) (.cond (t 5) (qS (gR D0X) .ret) (qS (gR D0Y) (.cond (t 9) (qS (gR D0Z) .ret) .skip))))) (qS (gR E0a) .ret)))⟩
def E0b:SS:=[o 1 (.box a0a (t 0)),o 2 (.mv (i 0)),o 3 (.mv (.const (.bool false)))]
def E0c:SS:=[lA 8 2 1,o 9 (.call f0y [t 8] true),mV 4 9]
def E0d:SS:=[mV 10 4,lN 11 10,o 12 (.bin 0 .gtr (t 11) (i 2))]
def E0e:SS:=[o 2 (.mv (i 0)),o 3 (.mv (.const (.bool false)))]
def E0f:SS:=[o 5 (.mv (.const (.int .u64 0)))]
def E0g:SS:=[mV 13 4,lN 14 13,o 15 (.mv (i 0))]
def P0h:SS:=[o 16 (.bin 0 .lss (t 15) (t 14))]
def E0h:SS:=[mV 17 15,iA 18 1 13 15,lD 19 18,mV 6 17,mV 7 19]
def E0i:SS:=[mV 20 5,mV 21 7,o 22 (.conv .u64 (t 21)),mV 23 6,o 24 (.bin 0 .mul (i 32) (t 23)),o 25 (.bin 0 .shl (t 22) (t 24)),o 26 (.bin 0 .or (t 20) (t 25)),mV 5 26]
def P0i:SS:=[o 27 (.bin 0 .add (t 15) (i 1)),mV 15 27]
def v0k:SS:=[lA 29 2 1,o 30 (.call d0S [t 29] true),mV 31 30,og 32 31 true (.mv (t 5)),og 33 31 true (.bin 0 .leq (t 32) (.const (.int .u64 9223372036854775808))),o 34 (.pick (t 31) (t 33) (.const (.bool false))),mV 28 34]
def v0l:SS:=[mV 35 5,o 36 (.un .neg (t 35)),o 37 (.conv .i64 (t 36)),mV 2 37,o 3 (.mv (.const (.bool true)))]
def p0v:SS:=[lA 39 2 1,o 40 (.call d0S [t 39] true),o 41 (.un .not (t 40)),mV 42 41,og 43 42 true (.mv (t 5)),og 44 42 true (.bin 0 .lss (t 43) (.const (.int .u64 9223372036854775808))),o 45 (.pick (t 42) (t 44) (.const (.bool false))),mV 38 45]
def v0m:SS:=[mV 46 5,o 47 (.conv .i64 (t 46)),mV 2 47,o 3 (.mv (.const (.bool true)))]
def p0w:SS:=[o 2 (.mv (i 0)),o 3 (.mv (.const (.bool false)))]
def I0o:SF:=⟨1,48,[.tmp 2,.tmp 3],
 (qS (gR E0b) (qS (gR E0c) (qS (qS (gR E0d) (.cond (t 12) (qS (gR E0e) .ret) .skip)) (qS (gR E0f) (qS (qS (gR E0g) (.block 0 (.loop (qS (gR P0h) (qS (.cond (t 16) .skip (.exit 0)) (qS (.block 1 (qS (gR E0h) (gR E0i))) (gR P0i))))))) (qS (.block 2 (qS (gR v0k) (.cond (t 28) (qS (gR v0l) .ret) (qS (gR p0v) (.cond (t 38) (qS (gR v0m) .ret) .skip))))) (qS (gR p0w) .ret)))))))⟩
def t0l:SS:=[o 2 (.mv (i 0))]
def t0m:SS:=[mV 3 0,o 4 (.bin 0 .leq (t 3) (.const (.int .i64 (-2147483648)))),mV 5 4,og 6 5 false (.mv (t 0)),og 7 5 false (.bin 0 .geq (t 6) (i 2147483648)),o 8 (.pick (t 5) (.const (.bool true)) (t 7))]
def t0n:SS:=[o 9 (.build [] []),o 10 (.iface f0a (t 9)),⟨none,none,.pan (t 10)⟩]
def t0o:SS:=[mV 11 0,mV 2 11]
def F0p:SF:=⟨1,12,[.tmp 2],
 (qS (gR t0l) (qS (qS (gR t0m) (.cond (t 8) (gR t0n) .skip)) (qS (gR t0o) .ret)))⟩
end
end Go.Proofs.YtilekhkgobmolaaGreat.AI
