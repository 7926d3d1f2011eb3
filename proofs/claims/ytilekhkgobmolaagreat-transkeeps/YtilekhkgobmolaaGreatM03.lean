/- Part 4 of the proof. -/
import Derived.Test.YtilekhkgobmolaaGreatM00
set_option linter.unusedVariables false
set_option linter.unusedSimpArgs false
set_option linter.unusedSectionVars false
namespace Go.Proofs.YtilekhkgobmolaaGreat.AI
section
open Go
abbrev o (d:Nat) (x:SOp):a0J:=⟨some d,none,x⟩
abbrev og (d g:Nat) (b:Bool) (x:SOp):a0J:=⟨some d,some (g,b),x⟩
abbrev t (n:Nat):Opd:=.tmp n
abbrev i (n:Int):Opd:=.const (.int .i64 n)
abbrev mV (d s:Nat):a0J:=⟨some d,none,.mv (.tmp s)⟩
abbrev lD (d s:Nat):a0J:=⟨some d,none,.load false 1 (.tmp s)⟩
abbrev lA (d n s:Nat):a0J:=⟨some d,none,.load true n (.tmp s)⟩
abbrev fA (d n s:Nat):a0J:=⟨some d,none,.fa n (.tmp s)⟩
abbrev iA (d n x y:Nat):a0J:=⟨some d,none,.ia n (.tmp x) (.tmp y)⟩
abbrev lN (d s:Nat):a0J:=⟨some d,none,.len (.tmp s)⟩
abbrev cK (d s:Nat):a0J:=⟨some d,none,.chk (.tmp s)⟩
abbrev gT (d g:Nat) (x:SOp):a0J:=⟨some d,some (g,true),x⟩
abbrev gF (d g:Nat) (x:SOp):a0J:=⟨some d,some (g,false),x⟩
abbrev lS (s:Nat):SOp:=.load false 1 (.tmp s)
abbrev aS (n s:Nat):SOp:=.load true n (.tmp s)
abbrev fS (n s:Nat):SOp:=.fa n (.tmp s)
abbrev iS (n x y:Nat):SOp:=.ia n (.tmp x) (.tmp y)
abbrev mS (s:Nat):SOp:=.mv (.tmp s)
abbrev nS (s:Nat):SOp:=.len (.tmp s)
abbrev bT (p:BinOp) (x y:Nat):SOp:=.bin 0 p (.tmp x) (.tmp y)
abbrev bI (p:BinOp) (x:Nat) (y:Int):SOp:=.bin 0 p (.tmp x) (.const (.int .i64 y))
abbrev pF (d x y:Nat):a0J:=⟨some d,none,.pick (.tmp x) (.tmp y) (.const (.bool false))⟩
abbrev pT (d x y:Nat):a0J:=⟨some d,none,.pick (.tmp x) (.const (.bool true)) (.tmp y)⟩
abbrev eX (d s k:Nat):a0J:=⟨some d,none,.ext (.tmp s) k⟩
abbrev bX (d e s:Nat):a0J:=⟨some d,none,.box e (.tmp s)⟩
abbrev cA (d f:Nat) (l:List Opd):a0J:=⟨some d,none,.call f l true⟩
abbrev cB (d f:Nat) (l:List Opd):a0J:=⟨some d,none,.call f l false⟩
abbrev cV (d:Nat) (k:IntKind) (s:Nat):a0J:=⟨some d,none,.conv k (.tmp s)⟩
abbrev mI (d:Nat) (n:Int):a0J:=⟨some d,none,.mv (.const (.int .i64 n))⟩
abbrev mB (d:Nat) (b:Bool):a0J:=⟨some d,none,.mv (.const (.bool b))⟩
abbrev mN (d:Nat):a0J:=⟨some d,none,.mv (.const (.slice none 0 0))⟩
abbrev nT (d s:Nat):a0J:=⟨some d,none,.un .not (.tmp s)⟩
abbrev sT (n x y:Nat):a0J:=⟨none,none,.store n (.tmp x) (.tmp y)⟩
abbrev zI:List Value:=[.bool false,.slice none 0 0]
abbrev zR:List Value:=[.bool false,.slice none 0 0,.bool false,.slice none 0 0]
abbrev zE:List Value:=[.int .i64 0,.bool false,.slice none 0 0,.bool false,.slice none 0 0]
abbrev zL:List Value:=[.int .i64 0,.slice none 0 0,.slice none 0 0,.slice none 0 0]
abbrev zA:List Value:=[.int .i64 0,.bool false,.slice none 0 0,.bool false,.slice none 0 0,.slice none 0 0,.slice none 0 0,.slice none 0 0]
attribute [simp] zI zR zE zL zA
abbrev SS:Type:=List a0J
abbrev SF:Type:=w0J
abbrev gR:List a0J->SCode:=.reg
abbrev qS:SCode->SCode->SCode:=.seq
inductive RK where | few | all
def RK.p {α:Type}:RK->α->α->α | .few,a,_=>a | .all,_,b=>b
abbrev RK.w (F:RK):Nat:=F.p 1 2
abbrev RK.b (F:RK):Bool:=F.p false true
abbrev f_5:Nat:=5
abbrev f_7:Nat:=7
abbrev f_8:Nat:=8
abbrev f_9:Nat:=9
abbrev a1H:Nat:=10
abbrev Y0W:Nat:=11
abbrev Y0X:Nat:=12
abbrev a1I:Nat:=14
abbrev L0s:Nat:=17
abbrev a1J:Nat:=18
abbrev Y0Y:Nat:=19
abbrev Y0Z:Nat:=20
abbrev K0I:Nat:=21
abbrev Z0a:Nat:=22
abbrev X0e:Nat:=23
abbrev a1K:Nat:=24
abbrev a1L:Nat:=25
abbrev a1M:Nat:=26
abbrev Z0b:Nat:=27
abbrev Z0c:Nat:=28
abbrev a1N:Nat:=29
abbrev a1O:Nat:=30
abbrev a1P:Nat:=31
abbrev N0Z:Nat:=32
abbrev Z0d:Nat:=33
abbrev a1Q:Nat:=35
abbrev Z0e:Nat:=36
abbrev Z0f:Nat:=37
abbrev X0f:Nat:=38
abbrev u0H:Nat:=39
abbrev a1R:Nat:=40
abbrev Z0g:Nat:=41
abbrev a1S:Nat:=42
abbrev X0g:Nat:=43
abbrev Z0h:Nat:=44
abbrev a1T:Nat:=45
abbrev Z0i:Nat:=46
abbrev Z0j:Nat:=47
abbrev a1U:Nat:=48
abbrev a1V:Nat:=49
abbrev a1W:Nat:=50
abbrev a1X:Nat:=51
abbrev a1Y:Nat:=52
abbrev a1Z:Nat:=53
abbrev b1a:Nat:=54
abbrev b1b:Nat:=55
abbrev u0c:Nat:=56
abbrev Z0k:Nat:=57
abbrev b1c:Nat:=58
abbrev L0t:Nat:=59
abbrev z0y:Nat:=60
abbrev X0h:Nat:=61
abbrev z0z:Nat:=62
abbrev b1d:Nat:=63
abbrev b1e:Nat:=64
abbrev u0I:Nat:=65
abbrev Z0l:Nat:=66
abbrev Z0m:Nat:=67
abbrev X0i:Nat:=68
abbrev B0J:Nat:=69
abbrev b1f:Nat:=70
abbrev b1g:Nat:=71
abbrev Z0n:Nat:=72
abbrev b1h:Nat:=73
abbrev b1i:Nat:=74
abbrev b1j:Nat:=75
abbrev x0e:Nat:=76
abbrev Z0o:Nat:=77
abbrev O0a:Nat:=78
abbrev L0u:Nat:=79
abbrev O0b:Nat:=80
abbrev b1k:Nat:=81
abbrev b1l:Nat:=82
abbrev b1m:Nat:=83
abbrev L0v:Nat:=84
abbrev d1B:Nat:=85
abbrev B0K:Nat:=86
abbrev Z0p:Nat:=87
abbrev b1n:Nat:=88
abbrev B0L:Nat:=89
abbrev s0G:Nat:=90
abbrev b1o:Nat:=91
abbrev b1p:Nat:=92
abbrev b1q:Nat:=93
abbrev X0j:Nat:=94
abbrev O0c:Nat:=95
abbrev b1r:Nat:=96
abbrev Z0q:Nat:=97
abbrev X0k:Nat:=98
abbrev Z0r:Nat:=99
abbrev u0C:Nat:=100
abbrev B0p:Nat:=101
abbrev B0q:Nat:=102
abbrev k0w:Nat:=103
abbrev u0D:Nat:=104
abbrev B0r:Nat:=105
abbrev g0W:Nat:=106
abbrev e0t:Nat:=107
abbrev g0i:Nat:=108
abbrev B0s:Nat:=109
abbrev z0m:Nat:=110
abbrev z0n:Nat:=111
abbrev h1B:Nat:=112
abbrev s0y:Nat:=113
abbrev W0M:Nat:=114
abbrev W0N:Nat:=115
abbrev W0O:Nat:=116
abbrev W0P:Nat:=117
abbrev W0Q:Nat:=118
abbrev W0R:Nat:=119
abbrev W0S:Nat:=120
abbrev z0o:Nat:=121
abbrev q0t:Nat:=122
abbrev B0t:Nat:=123
abbrev s0z:Nat:=124
abbrev z0p:Nat:=125
abbrev g0j:Nat:=126
abbrev B0u:Nat:=127
abbrev B0v:Nat:=128
abbrev B0w:Nat:=129
abbrev s0A:Nat:=130
abbrev z0q:Nat:=131
abbrev o0k:Nat:=132
abbrev s0B:Nat:=133
abbrev B0x:Nat:=134
abbrev m0x:Nat:=135
abbrev W0T:Nat:=136
abbrev W0U:Nat:=137
abbrev W0V:Nat:=138
abbrev W0W:Nat:=139
abbrev W0X:Nat:=140
abbrev W0Y:Nat:=141
abbrev W0Z:Nat:=142
abbrev o0l:Nat:=143
abbrev z0r:Nat:=144
abbrev X0a:Nat:=145
abbrev u0E:Nat:=146
abbrev B0y:Nat:=147
abbrev s0C:Nat:=148
abbrev z0s:Nat:=149
abbrev X0b:Nat:=150
abbrev B0z:Nat:=151
abbrev B0A:Nat:=152
abbrev B0B:Nat:=153
abbrev B0C:Nat:=154
abbrev o0m:Nat:=155
abbrev z0t:Nat:=156
abbrev X0c:Nat:=157
abbrev u0F:Nat:=158
abbrev s0D:Nat:=159
abbrev X0d:Nat:=160
abbrev B0D:Nat:=161
abbrev z0u:Nat:=162
abbrev B0E:Nat:=163
abbrev B0F:Nat:=164
abbrev B0G:Nat:=165
abbrev z0v:Nat:=181
abbrev m0y:Nat:=182
abbrev s0E:Nat:=183
abbrev k0x:Nat:=184
abbrev o0n:Nat:=185
abbrev q0u:Nat:=186
abbrev B0H:Nat:=187
abbrev z0w:Nat:=188
abbrev m0z:Nat:=189
abbrev s0F:Nat:=190
abbrev j0D:Nat:=191
abbrev o0o:Nat:=192
abbrev q0v:Nat:=193
abbrev z0x:Nat:=194
abbrev B0I:Nat:=195
abbrev u0G:Nat:=196
abbrev d0N:Nat:=2
abbrev e0L:Nat:=3
abbrev w0L:Nat:=9
abbrev a0M:Nat:=24
abbrev b0F:Nat:=28
abbrev a0a:Nat:=38
abbrev a0b:Nat:=40
abbrev a0Z:Nat:=42
abbrev a0N:Nat:=43
abbrev b0X:Nat:=45
abbrev b0i:Nat:=54
abbrev e0C:Nat:=64
abbrev m0d:Nat:=75
abbrev b0M:Nat:=79
abbrev a0l:Nat:=96
abbrev a0Q:Nat:=137
abbrev a0m:Nat:=143
abbrev a0n:Nat:=162
abbrev a0F:Nat:=163
abbrev a0c:Nat:=167
abbrev a0H:Nat:=179
abbrev a0d:Nat:=183
abbrev f0a:Nat:=185
abbrev f0I:Nat:=226
def c1l:SS:=[bX 5 a0M 0,bX 6 b0F 1,mB 10 false]
def c1m:SS:=[lA 15 1 5,lA 16 6 6,mV 17 2,cA 18 f_7 [t 15,t 16,t 17],mV 19 18,gF 20 19 (aS 1 5),gF 21 19 (aS 6 6),gF 22 19 (.call f_8 [t 20,t 21] true),gF 23 19 (.un .not (t 22)),pT 24 19 23,mV 25 24,gF 26 25 (fS 0 5),gF 27 25 (lS 26),gF 28 25 (nS 27),gF 29 25 (bI .gtr 28 6),pT 30 25 29,mV 31 30,gF 32 31 (mS 3),gF 33 31 (nS 32),gF 34 31 (bI .gtr 33 10),pT 35 31 34,mV 36 35,gF 37 36 (mS 4),gF 38 36 (nS 37),gF 39 36 (bI .gtr 38 10),pT 40 36 39,mV 41 40,gF 42 41 (mS 3),gF 43 41 (.call L0s [t 42] true),pT 44 41 43,mV 45 44,gF 46 45 (mS 4),gF 47 45 (.call L0s [t 46] true),pT 48 45 47]
def t0D:SS:=[cA 49 f_9 [],mV 10 49]
def c1n:SS:=[lA 51 6 6,mV 52 3,mV 53 4,cA 54 a1J [t 51,t 52,t 53],mV 50 54,eX 55 50 0,eX 56 50 1,mV 11 55,mV 12 56]
def c1o:SS:=[lA 58 1 5,lA 59 6 6,mV 60 2,cA 61 a1H [t 58,t 59,t 60],mV 57 61,eX 62 57 0,eX 63 57 1,mV 13 62,mV 14 63]
def Y0m:SS:=[mV 64 12,nT 65 64,mV 66 65,gF 67 66 (mS 14),gF 68 66 (.call Y0X [t 67] true),gF 69 66 (bI .neq 68 0),pT 70 66 69,mV 71 70,gF 72 71 (aS 1 5),gF 73 71 (mS 2),gF 74 71 (mS 3),gF 75 71 (.call Y0Z [t 74] false),gF 76 71 (.call Y0Y [t 72,t 73,t 75] true),gF 77 71 (.un .not (t 76)),pT 78 71 77]
def M0m:SS:=[cA 79 f_9 [],mV 10 79]
def c1p:SS:=[lA 80 1 5,mV 81 13,mV 82 11,cB 83 Y0Z [t 82],cA 84 Y0Y [t 80,t 81,t 83],mV 85 84,gT 86 85 (.call f_9 [] true),pF 87 85 86,mV 10 87]
def s_5:SF:=⟨5,88,[.tmp 10],
 (qS (gR c1l) (qS (qS (gR c1m) (.cond (t 48) (qS (gR t0D) .ret) .skip)) (qS (gR c1n) (qS (gR c1o) (qS (qS (.draw Y0m [0,1,3,7,15,31,63,127,255,255,255,1279,4095,8191,16383] []) (.cond (t 78) (qS (gR M0m) .ret) .skip)) (qS (.draw c1p [0,0,0,4,15,31,63,127,255] []) .ret))))))⟩
def c1y:SS:=[bX 3 a0M 0,bX 4 b0F 1,mB 6 false]
def c1z:SS:=[fA 7 0 3,lD 8 7,cA 9 a1K [t 8],mV 10 9,gF 11 10 (mS 2),gF 12 10 (.call a1I [t 11] true),pT 13 10 12,mV 14 13,gF 15 14 (aS 6 4),gF 16 14 (.lit b0F [.int .i64 0,.int .i64 0,.int .i64 0,.slice none 0 0,.slice none 0 0,.slice none 0 0] 1 [(0,6,t 15)]),gF 17 14 (.build [.slice none 0 0,.slice none 0 0,.slice none 0 0,.slice none 0 0] [(2,1,t 16)]),gF 18 14 (.call a1L [t 17] true),pT 19 14 18,mV 6 19]
def s_7:SF:=⟨3,20,[.tmp 6],
 (qS (gR c1y) (qS (gR c1z) .ret))⟩
def c1C:SS:=[bX 2 a0M 0,bX 3 b0F 1,mB 4 false]
def A0j:SS:=[fA 5 0 2,lD 6 5,lN 7 6,o 8 (bI .leq 7 8),mV 9 8,gT 10 9 (fS 4 3),gT 11 9 (lS 10),gT 12 9 (nS 11),gT 13 9 (bI .leq 12 3),pF 14 9 13,mV 15 14,gT 16 15 (fS 2 3),gT 17 15 (lS 16),gT 18 15 (bI .leq 17 3),pF 19 15 18,mV 20 19,gT 21 20 (fS 3 3),gT 22 20 (lS 21),gT 23 20 (nS 22),gT 24 20 (bI .leq 23 6),pF 25 20 24,mV 4 25]
def s_8:SF:=⟨2,26,[.tmp 4],
 (qS (gR c1C) (qS (gR A0j) .ret))⟩
def c1D:SS:=[mB 0 false]
def c1E:SS:=[cA 5 K0I [i 1],o 6 (.lit a0a zI 1 [(0,2,t 5)]),cA 7 K0I [i 1],o 8 (.build [.slice none 0 0,.slice none 0 0,.bool false,.slice none 0 0] [(0,1,t 6),(2,2,t 7)]),o 9 (.lit e0C [.slice none 0 0,.slice none 0 0,.bool false,.slice none 0 0] 1 [(0,4,t 8)]),o 10 (.build [.int .i64 0,.int .i64 0,.int .i64 0,.slice none 0 0,.slice none 0 0,.slice none 0 0] [(4,1,t 9)]),o 1 (.alloc b0F [.int .i64 0,.int .i64 0,.int .i64 0,.slice none 0 0,.slice none 0 0,.slice none 0 0]),sT 6 1 10]
def c1F:SS:=[cB 12 Z0a [i 1],lA 13 6 1,cB 14 X0e [i 3],o 15 (.build zE [(1,4,t 14)]),o 16 (.build zE [(0,1,i 1)]),o 17 (.lit a0Z zE 2 [(0,5,t 15),(5,5,t 16)]),cB 18 Y0W [t 12,t 13,t 17,i 0],mV 11 18,eX 19 11 0,eX 20 11 1,eX 21 11 2,o 2 (.alloc a0Z zE),o 3 (.alloc b0X zA),sT 5 2 19,sT 8 3 20,mV 4 21]
def c1G:SS:=[mV 22 4,cA 23 Y0X [t 22],o 24 (bI .eql 23 0),mV 25 24,gT 26 25 (fS 0 2),gT 27 25 (lS 26),gT 28 25 (bI .eql 27 0),pF 29 25 28,mV 30 29,gT 31 30 (fS 1 2),gT 32 30 (aS 4 31),gT 33 30 (.call X0e [i 4] false),gT 34 30 (.call a1M [t 32,t 33] true),pF 35 30 34,mV 0 35]
def s_9:SF:=⟨0,36,[.tmp 0],
 (qS (gR c1D) (qS (gR c1E) (qS (.draw c1F [0,0,1,5,0,29,63,127,255,255,255,0,0,6655,15359,32767] []) (qS (.draw c1G [0,1,3,7,15,31,63,127,255,511,1023,511,4095,8191,16383] []) .ret))))⟩
def O0s:SS:=[bX 3 a0M 0,bX 4 b0F 1,mN 6,mI 7 0]
def O0t:SS:=[mN 8]
def O0u:SS:=[fA 13 0 3,lD 14 13,lN 15 14,mI 16 0]
def b1V:SS:=[o 17 (bT .lss 16 15)]
def O0v:SS:=[mV 18 16,mV 9 18]
def O0w:SS:=[lA 20 1 3,lA 21 6 4,mV 22 2,mV 23 9,cA 24 Y0W [t 20,t 21,t 22,t 23],mV 19 24,eX 25 19 0,eX 26 19 1,eX 27 19 2,o 10 (.alloc a0Z zE),o 11 (.alloc b0X zA),sT 5 10 25,sT 8 11 26,mV 12 27]
def D0R:SS:=[mV 28 12,o 29 (bI .neq 28 0)]
def O0x:SS:=[mV 30 12,mN 6,mV 7 30]
def O0y:SS:=[mV 31 8,lA 32 5 10,o 33 (.lit a0Z zE 1 [(0,5,t 32)]),o 34 (.app a0Z 5 72 (t 31) (t 33)),mV 8 34]
def b1W:SS:=[o 35 (bI .add 16 1),mV 16 35]
def D0Q:SS:=[mV 36 8,mV 6 36,mI 7 0]
def d1M:SF:=⟨3,37,[.tmp 6,.tmp 7],
 (qS (gR O0s) (qS (gR O0t) (qS (qS (gR O0u) (.block 0 (.loop (qS (gR b1V) (qS (.cond (t 17) .skip (.exit 0)) (qS (.block 1 (qS (gR O0v) (qS (gR O0w) (qS (qS (gR D0R) (.cond (t 29) (qS (gR O0x) .ret) .skip)) (gR O0y))))) (gR b1W))))))) (qS (gR D0Q) .ret))))⟩
def O0z:SS:=[bX 4 a0M 0,bX 5 b0F 1,o 8 (.alloc a0Z zE),o 9 (.alloc b0X zA),mI 10 0]
def O0A:SS:=[lA 17 1 4,lA 18 6 5,mV 19 2,mV 20 3,cA 21 Z0b [t 17,t 18,t 19,t 20],nT 22 21]
def O0B:SS:=[o 23 (.build zE []),o 24 (.build zA []),sT 5 8 23,sT 8 9 24,mI 10 1]
def O0C:SS:=[mV 25 2,cA 26 Z0c [t 25]]
def O0D:SS:=[o 27 (.build zE [(0,1,(.const (.int .i64 (-1))))]),o 28 (.build zA []),sT 5 8 27,sT 8 9 28,mI 10 0]
def O0E:SS:=[lA 30 1 4,lA 31 6 5,mV 32 2,mV 33 3,cA 34 a1N [t 30,t 31,t 32,t 33],mV 29 34,eX 35 29 0,eX 36 29 1,eX 37 29 2,o 11 (.alloc b0M zL),o 12 (.alloc a0b zR),sT 4 11 35,sT 4 12 36,mV 13 37]
def O0F:SS:=[mV 38 13,nT 39 38]
def b1X:SS:=[o 40 (.build zE []),o 41 (.build zA []),sT 5 8 40,sT 8 9 41,mI 10 1]
def O0G:SS:=[lA 43 4 11,cA 44 a1O [t 43],mV 42 44,eX 45 42 0,eX 46 42 1,eX 47 42 2,o 14 (.alloc b0X zA),sT 8 14 45,mV 15 46,mV 16 47]
def O0H:SS:=[mV 49 16,o 50 (bI .neq 49 0),mV 48 50]
def X0P:SS:=[o 51 (.build zE []),o 52 (.build zA []),mV 53 16,sT 5 8 51,sT 8 9 52,mV 10 53]
def r0l:SS:=[fA 55 0 14,lD 56 55,o 57 (bI .eql 56 2),mV 54 57]
def E0g:SS:=[o 58 (.build zE [(0,1,(.const (.int .i64 (-1))))]),lA 59 8 14,sT 5 8 58,sT 8 9 59,mI 10 0]
def v0m:SS:=[fA 61 0 14,lD 62 61,o 63 (bI .eql 62 3),mV 60 63]
def E0h:SS:=[o 64 (.build zE [(0,1,i 1)]),lA 65 8 14,sT 5 8 64,sT 8 9 65,mI 10 0]
def E0i:SS:=[fA 66 1 14,lA 67 4 66,cB 68 N0Z [t 67],lA 69 4 12,cB 70 a1P [t 68,t 69],lA 71 8 14,sT 5 8 70,sT 8 9 71,mI 10 0]
def d1N:SF:=⟨4,72,[.cell 8 true 5,.cell 9 true 8,.tmp 10],
 (qS (gR O0z) (qS (qS (gR O0A) (.cond (t 22) (qS (gR O0B) .ret) .skip)) (qS (qS (gR O0C) (.cond (t 26) (qS (gR O0D) .ret) .skip)) (qS (gR O0E) (qS (qS (gR O0F) (.cond (t 39) (qS (gR b1X) .ret) .skip)) (qS (gR O0G) (qS (.block 0 (qS (gR O0H) (.cond (t 48) (qS (gR X0P) .ret) (qS (gR r0l) (.cond (t 54) (qS (.draw E0g [0,0,1,7,15] [(1,2)]) .ret) (qS (gR v0m) (.cond (t 60) (qS (.draw E0h [0,0,1,7,15] [(1,2)]) .ret) .skip))))))) (qS (.draw E0i [0,1,3,0,15,0,31,127,255] [(5,6)]) .ret))))))))⟩
def O0I:SS:=[mI 2 0]
def O0J:SS:=[mV 3 0,mV 2 3]
def d1O:SF:=⟨1,4,[.tmp 2],
 (qS (gR O0I) (qS (gR O0J) .ret))⟩
def F0S:SS:=[mB 2 false]
def F0T:SS:=[mV 4 0,lN 5 4,o 6 (bI .gtr 5 100)]
def O0K:SS:=[mB 2 true]
def O0L:SS:=[mI 3 0]
def O0M:SS:=[mV 7 3,mV 8 0,lN 9 8,o 10 (bT .lss 7 9)]
def O0N:SS:=[mV 13 0,mV 14 3,iA 15 5 13 14,fA 16 1 15,lA 17 4 16,o 18 (.lit a0b zR 1 [(0,4,t 17)]),cA 19 Z0d [t 18]]
def O0O:SS:=[mB 2 true]
def O0P:SS:=[mV 11 3,o 12 (bI .add 11 1),mV 3 12]
def O0Q:SS:=[mB 2 false]
def c1L:SF:=⟨1,20,[.tmp 2],
 (qS (gR F0S) (qS (qS (gR F0T) (.cond (t 6) (qS (gR O0K) .ret) .skip)) (qS (qS (gR O0L) (.block 0 (.loop (qS (qS (gR O0M) (.cond (t 10) .skip (.exit 0))) (qS (.block 1 (qS (gR O0N) (.cond (t 19) (qS (gR O0O) .ret) .skip))) (gR O0P)))))) (qS (gR O0Q) .ret))))⟩
def O0R:SS:=[mB 2 false]
def O0S:SS:=[mI 3 0]
def O0T:SS:=[mV 4 3,mV 5 0,lN 6 5,o 7 (bT .lss 4 6)]
def H0i:SS:=[mV 10 0,mV 11 3,iA 12 2 10 11,fA 13 1 12,lD 14 13,lN 15 14,o 16 (bI .gtr 15 40)]
def O0U:SS:=[mB 2 true]
def O0V:SS:=[mV 8 3,o 9 (bI .add 8 1),mV 3 9]
def O0W:SS:=[mB 2 false]
def d1P:SF:=⟨1,17,[.tmp 2],
 (qS (gR O0R) (qS (qS (gR O0S) (.block 0 (.loop (qS (qS (gR O0T) (.cond (t 7) .skip (.exit 0))) (qS (.block 1 (qS (gR H0i) (.cond (t 16) (qS (gR O0U) .ret) .skip))) (gR O0V)))))) (qS (gR O0W) .ret)))⟩
def O0X:SS:=[bX 3 b0F 0,mN 6,mB 7 false]
def y0p:SS:=[mV 15 2,lN 16 15,fA 17 2 3,lD 18 17,o 19 (bT .neq 16 18),mV 20 19,gF 21 20 (mS 1),gF 22 20 (nS 21),gF 23 20 (fS 4 3),gF 24 20 (lS 23),gF 25 20 (nS 24),gF 26 20 (bT .neq 22 25),pT 27 20 26]
def H0J:SS:=[mN 6,mB 7 false]
def O0Y:SS:=[mI 8 0]
def O0Z:SS:=[mV 28 8,fA 29 3 3,lD 30 29,lN 31 30,o 32 (bT .lss 28 31)]
def P0a:SS:=[fA 36 3 3,lD 37 36,mV 38 8,iA 39 4 37 38,lA 40 4 39,mV 41 1,mV 42 2,cA 43 Z0e [t 40,t 41,t 42],mV 35 43,eX 44 35 0,eX 45 35 1,o 9 (.alloc a0a zI),sT 2 9 44,mV 10 45]
def t0B:SS:=[mV 46 10,o 47 (bI .neq 46 0),mV 48 47,gF 49 48 (fS 1 9),gF 50 48 (lS 49),gF 51 48 (nS 50),gF 52 48 (bI .gtr 51 0),gF 53 48 (mS 52),gT 54 53 (fS 0 9),gT 55 53 (lS 54),gT 56 53 (.un .not (t 55)),gF 57 48 (.pick (t 53) (t 56) (.const (.bool false))),pT 58 48 57]
def H0K:SS:=[mN 6,mB 7 false]
def H0L:SS:=[mV 33 8,o 34 (bI .add 33 1),mV 8 34]
def P0b:SS:=[mN 11]
def H0C:SS:=[mI 12 0]
def H0D:SS:=[mV 59 12,fA 60 4 3,lD 61 60,lN 62 61,o 63 (bT .lss 59 62)]
def H0E:SS:=[fA 67 4 3,lD 68 67,mV 69 12,iA 70 4 68 69,lA 71 4 70,mV 72 1,mV 73 2,cA 74 Z0e [t 71,t 72,t 73],mV 66 74,eX 75 66 0,eX 76 66 1,o 13 (.alloc a0a zI),sT 2 13 75,mV 14 76]
def w0i:SS:=[mV 77 14,o 78 (bI .neq 77 0)]
def H0F:SS:=[mN 6,mB 7 false]
def H0G:SS:=[mV 79 11,lA 80 2 13,o 81 (.lit a0a zI 1 [(0,2,t 80)]),o 82 (.app a0a 2 32 (t 79) (t 81)),mV 11 82]
def H0H:SS:=[mV 64 12,o 65 (bI .add 64 1),mV 12 65]
def H0I:SS:=[mV 83 11,mV 6 83,mB 7 true]
def d1Q:SF:=⟨3,84,[.tmp 6,.tmp 7],
 (qS (gR O0X) (qS (qS (gR y0p) (.cond (t 27) (qS (gR H0J) .ret) .skip)) (qS (qS (gR O0Y) (.block 0 (.loop (qS (qS (gR O0Z) (.cond (t 32) .skip (.exit 0))) (qS (.block 1 (qS (gR P0a) (qS (gR t0B) (.cond (t 58) (qS (gR H0K) .ret) .skip)))) (gR H0L)))))) (qS (gR P0b) (qS (qS (gR H0C) (.block 2 (.loop (qS (qS (gR H0D) (.cond (t 63) .skip (.exit 2))) (qS (.block 3 (qS (gR H0E) (qS (qS (gR w0i) (.cond (t 78) (qS (gR H0F) .ret) .skip)) (gR H0G)))) (gR H0H)))))) (qS (gR H0I) .ret))))))⟩
def P0c:SS:=[bX 3 a0M 0,mB 6 false]
def I0h:SS:=[mV 10 1,lN 11 10,fA 12 0 3,lD 13 12,lN 14 13,o 15 (bT .neq 11 14)]
def P0d:SS:=[mB 6 false]
def P0e:SS:=[mI 7 0]
def P0f:SS:=[mV 16 7,mV 17 1,lN 18 17,o 19 (bT .lss 16 18)]
def I0i:SS:=[fA 23 0 3,lD 24 23,mV 25 7,iA 26 1 24 25,lD 27 26,mV 28 2,cA 29 Z0f [t 27,t 28],mV 22 29,eX 30 22 0,eX 31 22 1,o 8 (.alloc a0b zR),sT 4 8 30,mV 9 31]
def I0j:SS:=[mV 32 9,o 33 (bI .neq 32 0),mV 34 33,gF 35 34 (aS 4 8),gF 36 34 (.build zE [(1,4,t 35)]),gF 37 34 (mS 1),gF 38 34 (mS 7),gF 39 34 (iS 5 37 38),gF 40 34 (aS 5 39),gF 41 34 (.call a1Q [t 36,t 40] true),gF 42 34 (bI .gtr 41 0),pT 43 34 42]
def I0k:SS:=[mB 6 false]
def P0g:SS:=[mV 20 7,o 21 (bI .add 20 1),mV 7 21]
def P0h:SS:=[mB 6 true]
def d1R:SF:=⟨3,44,[.tmp 6],
 (qS (gR P0c) (qS (qS (gR I0h) (.cond (t 15) (qS (gR P0d) .ret) .skip)) (qS (qS (gR P0e) (.block 0 (.loop (qS (qS (gR P0f) (.cond (t 19) .skip (.exit 0))) (qS (.block 1 (qS (gR I0i) (qS (.draw I0j [0,1,3,7,15,7,7,103,231,511,1023,2047] []) (.cond (t 43) (qS (gR I0k) .ret) .skip)))) (gR P0g)))))) (qS (gR P0h) .ret))))⟩
def P0i:SS:=[mN 2]
def P0j:SS:=[mN 3]
def P0k:SS:=[mI 4 0]
def P0l:SS:=[mV 7 4,mV 8 0,lN 9 8,o 10 (bT .lss 7 9)]
def P0m:SS:=[mV 14 0,mV 15 4,iA 16 2 14 15,lA 17 2 16,cB 18 K0I [i 1],cB 19 X0f [t 17,t 18],mV 13 19,eX 20 13 0,eX 21 13 1,o 5 (.alloc a0b zR),sT 4 5 20,mV 6 21]
def P0n:SS:=[mV 22 3,lA 23 4 5,o 24 (.lit a0b zR 1 [(0,4,t 23)]),o 25 (.app a0b 4 64 (t 22) (t 24)),mV 3 25]
def P0o:SS:=[mV 11 4,o 12 (bI .add 11 1),mV 4 12]
def P0p:SS:=[mV 26 3,mV 2 26]
def d1S:SF:=⟨1,27,[.tmp 2],
 (qS (gR P0i) (qS (gR P0j) (qS (qS (gR P0k) (.block 0 (.loop (qS (qS (gR P0l) (.cond (t 10) .skip (.exit 0))) (qS (.block 1 (qS (.draw P0m [0,0,3,7,0,31,63,127,127,0,767,2047] []) (gR P0n))) (gR P0o)))))) (qS (gR P0p) .ret))))⟩
def P0q:SS:=[o 2 (.alloc a0a zI)]
def I0l:SS:=[mV 4 0,cV 5 .u64 4,mV 3 5]
def I0m:SS:=[mV 6 0,o 7 (bI .lss 6 0)]
def P0r:SS:=[mV 8 3,o 9 (.un .neg (t 8)),mV 3 9]
def I0n:SS:=[mV 10 0,o 11 (bI .lss 10 0),mV 12 3,cV 13 .u32 12,mV 14 3,o 15 (.bin 0 .shr (t 14) (.const (.int .u64 32))),cV 16 .u32 15,o 17 (.lit a0l [.int .u32 0] 2 [(0,1,t 13),(1,1,t 16)]),cA 18 u0H [t 11,t 17],sT 2 2 18]
def d1T:SF:=⟨1,19,[.cell 2 true 2],
 (qS (gR P0q) (qS (gR I0l) (qS (qS (gR I0m) (.cond (t 7) (gR P0r) .skip)) (qS (gR I0n) .ret))))⟩
def P0s:SS:=[o 2 (.alloc a0M [.slice none 0 0])]
def P0t:SS:=[mV 5 0,cA 6 a1R [t 5],mV 0 6]
def P0u:SS:=[mN 3]
def P0v:SS:=[mI 4 0]
def P0w:SS:=[mV 7 4,mV 8 0,o 9 (bT .lss 7 8)]
def P0x:SS:=[mV 12 3,mV 13 0,mV 14 4,o 15 (.call Z0g [t 13,t 14,i 1,(.const (.int .i64 (-1))),i 0] true),mV 16 0,mV 17 4,o 18 (.call Z0g [t 16,t 17,(.const (.int .i64 (-1))),(.const (.int .i64 (-1))),i 0] true),o 19 (.lit a0N [.slice none 0 0] 2 [(0,1,t 15),(1,1,t 18)]),o 20 (.app a0N 1 24 (t 12) (t 19)),mV 3 20]
def P0y:SS:=[mV 10 4,o 11 (bI .add 10 1),mV 4 11]
def P0z:SS:=[mV 21 3,cA 22 a1S [t 21],sT 1 2 22]
def d1U:SF:=⟨1,23,[.cell 2 true 1],
 (qS (gR P0s) (qS (gR P0t) (qS (gR P0u) (qS (qS (gR P0v) (.block 0 (.loop (qS (qS (gR P0w) (.cond (t 9) .skip (.exit 0))) (qS (.block 1 (gR P0x)) (gR P0y)))))) (qS (gR P0z) .ret)))))⟩
def P0A:SS:=[o 2 (.alloc a0b zR)]
def P0B:SS:=[mV 3 0,cA 4 K0I [t 3],cA 5 K0I [i 1],o 6 (.build zR [(0,2,t 4),(2,2,t 5)]),sT 4 2 6]
def d1V:SF:=⟨1,7,[.cell 2 true 4],
 (qS (gR P0A) (qS (gR P0B) .ret))⟩
def P0C:SS:=[mB 2 false]
def P0D:SS:=[mI 3 0]
def P0E:SS:=[mI 4 0]
def y0t:SS:=[mV 5 4,mV 6 0,lN 7 6,o 8 (bT .lss 5 7),mV 9 8,gT 10 9 (mS 3),gT 11 9 (bI .leq 10 200),pF 12 9 11]
def P0F:SS:=[mV 15 3,o 16 (bI .add 15 1),mV 17 0,mV 18 4,iA 19 1 17 18,lD 20 19,lN 21 20,o 22 (.mnx false (t 21) [i 201]),o 23 (bT .add 16 22),mV 3 23]
def I0o:SS:=[mV 24 0,mV 25 4,iA 26 1 24 25,lD 27 26,lN 28 27,o 29 (bI .leq 28 200),mV 30 29,gT 31 30 (mS 0),gT 32 30 (mS 4),gT 33 30 (iS 1 31 32),gT 34 30 (lS 33),gT 35 30 (.call Z0d [t 34] true),pF 36 30 35]
def P0G:SS:=[mB 2 true]
def I0p:SS:=[mV 13 4,o 14 (bI .add 13 1),mV 4 14]
def I0q:SS:=[mV 37 3,o 38 (bI .gtr 37 200),mV 2 38]
def d1W:SF:=⟨1,39,[.tmp 2],
 (qS (gR P0C) (qS (gR P0D) (qS (qS (gR P0E) (.block 0 (.loop (qS (qS (gR y0t) (.cond (t 12) .skip (.exit 0))) (qS (.block 1 (qS (gR P0F) (qS (gR I0o) (.cond (t 36) (qS (gR P0G) .ret) .skip)))) (gR I0p)))))) (qS (gR I0q) .ret))))⟩
def P0H:SS:=[bX 1 m0d 0,mB 2 false]
def P0I:SS:=[fA 5 0 1,lD 6 5,lN 7 6,o 8 (bI .gtr 7 60),mV 9 8,gF 10 9 (fS 1 1),gF 11 9 (lS 10),gF 12 9 (nS 11),gF 13 9 (bI .gtr 12 10),pT 14 9 13,mV 15 14,gF 16 15 (fS 2 1),gF 17 15 (lS 16),gF 18 15 (nS 17),gF 19 15 (bI .gtr 18 300),pT 20 15 19,mV 21 20,gF 22 21 (fS 3 1),gF 23 21 (lS 22),gF 24 21 (nS 23),gF 25 21 (bI .gtr 24 300),pT 26 21 25]
def b1Y:SS:=[mB 2 true]
def P0J:SS:=[mI 3 0]
def P0K:SS:=[mV 27 3,fA 28 2 1,lD 29 28,lN 30 29,o 31 (bT .lss 27 30)]
def y0u:SS:=[fA 34 2 1,lD 35 34,mV 36 3,iA 37 6 35 36,fA 38 3 37,lD 39 38,lN 40 39,o 41 (bI .gtr 40 100),mV 42 41,gF 43 42 (fS 2 1),gF 44 42 (lS 43),gF 45 42 (mS 3),gF 46 42 (iS 6 44 45),gF 47 42 (fS 4 46),gF 48 42 (lS 47),gF 49 42 (nS 48),gF 50 42 (bI .gtr 49 20),pT 51 42 50,mV 52 51,gF 53 52 (fS 2 1),gF 54 52 (lS 53),gF 55 52 (mS 3),gF 56 52 (iS 6 54 55),gF 57 52 (fS 3 56),gF 58 52 (lS 57),gF 59 52 (.call X0g [t 58] true),pT 60 52 59,mV 61 60,gF 62 61 (fS 2 1),gF 63 61 (lS 62),gF 64 61 (mS 3),gF 65 61 (iS 6 63 64),gF 66 61 (fS 4 65),gF 67 61 (lS 66),gF 68 61 (.call X0g [t 67] true),pT 69 61 68]
def t0C:SS:=[mB 2 true]
def P0L:SS:=[mV 32 3,o 33 (bI .add 32 1),mV 3 33]
def P0M:SS:=[mI 4 0]
def P0N:SS:=[mV 70 4,fA 71 3 1,lD 72 71,lN 73 72,o 74 (bT .lss 70 73)]
def Y0c:SS:=[fA 77 3 1,lD 78 77,mV 79 4,iA 80 4 78 79,fA 81 3 80,lD 82 81,lN 83 82,o 84 (bI .gtr 83 100),mV 85 84,gF 86 85 (fS 3 1),gF 87 85 (lS 86),gF 88 85 (mS 4),gF 89 85 (iS 4 87 88),gF 90 85 (fS 3 89),gF 91 85 (lS 90),gF 92 85 (.call X0g [t 91] true),pT 93 85 92]
def Y0d:SS:=[mB 2 true]
def Y0e:SS:=[mV 75 4,o 76 (bI .add 75 1),mV 4 76]
def I0r:SS:=[mB 2 false]
def d1X:SF:=⟨1,94,[.tmp 2],
 (qS (gR P0H) (qS (qS (gR P0I) (.cond (t 26) (qS (gR b1Y) .ret) .skip)) (qS (qS (gR P0J) (.block 0 (.loop (qS (qS (gR P0K) (.cond (t 31) .skip (.exit 0))) (qS (.block 1 (qS (gR y0u) (.cond (t 69) (qS (gR t0C) .ret) .skip))) (gR P0L)))))) (qS (qS (gR P0M) (.block 2 (.loop (qS (qS (gR P0N) (.cond (t 74) .skip (.exit 2))) (qS (.block 3 (qS (gR Y0c) (.cond (t 93) (qS (gR Y0d) .ret) .skip))) (gR Y0e)))))) (qS (gR I0r) .ret)))))⟩
def P0O:SS:=[bX 2 a0b 0,bX 3 a0b 1,mB 4 false]
def P0P:SS:=[fA 5 0 2,lA 6 2 5,fA 7 0 3,lA 8 2 7,cA 9 Z0h [t 6,t 8],mV 10 9,gT 11 10 (fS 2 2),gT 12 10 (aS 2 11),gT 13 10 (fS 2 3),gT 14 10 (aS 2 13),gT 15 10 (.call Z0h [t 12,t 14] true),pF 16 10 15,mV 4 16]
def d1Y:SF:=⟨2,17,[.tmp 4],
 (qS (gR P0O) (qS (gR P0P) .ret))⟩
def P0Q:SS:=[bX 4 a0M 0,bX 5 b0F 1,mB 8 false]
def P0R:SS:=[fA 10 4 5,lD 11 10,lN 12 11,mV 9 12]
def P0S:SS:=[lA 13 1 4,mV 14 9,mV 15 2,cA 16 a1T [t 13,t 14,t 15],mV 17 16,gT 18 17 (mS 3),gT 19 17 (bI .geq 18 0),pF 20 17 19,mV 21 20,gT 22 21 (mS 3),gT 23 21 (fS 0 4),gT 24 21 (lS 23),gT 25 21 (nS 24),gT 26 21 (bT .lss 22 25),pF 27 21 26,mV 28 27,gT 29 28 (fS 2 5),gT 30 28 (lS 29),gT 31 28 (bI .geq 30 0),pF 32 28 31,mV 33 32,gT 34 33 (fS 4 5),gT 35 33 (lS 34),gT 36 33 (mS 9),gT 37 33 (fS 2 5),gT 38 33 (lS 37),gT 39 33 (.call Z0i [t 35,t 36,t 38] true),pF 40 33 39,mV 41 40,gT 42 41 (fS 3 5),gT 43 41 (lS 42),gT 44 41 (mS 9),gT 45 41 (fS 2 5),gT 46 41 (lS 45),gT 47 41 (.call Z0i [t 43,t 44,t 46] true),pF 48 41 47,mV 8 48]
def d1Z:SF:=⟨4,49,[.tmp 8],
 (qS (gR P0Q) (qS (gR P0R) (qS (gR P0S) .ret)))⟩
def P0T:SS:=[mB 2 false]
def P0U:SS:=[mV 3 0,o 4 (.call Z0j [t 3,.fn a1U] true),mV 2 4]
def e1a:SF:=⟨1,5,[.tmp 2],
 (qS (gR P0T) (qS (gR P0U) .ret))⟩
def P0V:SS:=[bX 4 a0M 0,bX 5 b0F 1,o 8 (.alloc b0M zL),o 9 (.alloc a0b zR),mB 10 false]
def P0W:SS:=[lA 14 1 4,lA 15 6 5,mV 16 2,mV 17 3,cA 18 Z0b [t 14,t 15,t 16,t 17],nT 19 18,mV 20 19,gF 21 20 (aS 1 4),gF 22 20 (aS 6 5),gF 23 20 (mS 2),gF 24 20 (.call a1V [t 21,t 22,t 23] true),gF 25 20 (.un .not (t 24)),pT 26 20 25,mV 27 26,gF 28 27 (mS 2),gF 29 27 (.call Z0c [t 28] true),pT 30 27 29]
def b1Z:SS:=[o 31 (.build zL []),o 32 (.build zR []),sT 4 8 31,sT 4 9 32,mB 10 false]
def P0X:SS:=[lA 33 1 4,mV 34 2,fA 35 4 5,lD 36 35,lN 37 36,fA 38 2 5,lD 39 38,o 40 (bT .add 37 39),cA 41 a1W [t 33,t 34,t 40],o 11 (.alloc b0M zL),sT 4 11 41]
def P0Y:SS:=[fA 42 3 5,lD 43 42,cA 44 a1X [t 11,t 43]]
def P0Z:SS:=[lA 46 1 4,lA 47 6 5,mV 48 3,cA 49 a1Y [t 46,t 47,t 48],mV 45 49,eX 50 45 0,eX 51 45 1,o 13 (.alloc a0b zR),mV 12 50,sT 4 13 51]
def Q0a:SS:=[mV 52 12,fA 53 3 11,sT 1 53 52]
def Q0b:SS:=[lA 54 4 11,lA 55 4 13,sT 4 8 54,sT 4 9 55,mB 10 true]
def e1b:SF:=⟨4,56,[.cell 8 true 4,.cell 9 true 4,.tmp 10],
 (qS (gR P0V) (qS (qS (gR P0W) (.cond (t 30) (qS (gR b1Z) .ret) .skip)) (qS (gR P0X) (qS (gR P0Y) (qS (gR P0Z) (qS (gR Q0a) (qS (.draw Q0b [0,0,1,7,15] [(1,2)]) .ret)))))))⟩
def Q0c:SS:=[bX 1 b0M 0,o 2 (.alloc b0X zA),mI 3 0,mI 4 0]
def Q0d:SS:=[lA 7 4 1,cA 8 a1Z [t 7],nT 9 8]
def c1a:SS:=[o 10 (.build zA []),sT 8 2 10,mI 3 0,mI 4 1]
def Q0e:SS:=[lA 12 4 1,cA 13 b1a [t 12],mV 11 13,eX 14 11 0,eX 15 11 1,o 5 (.alloc b0X zA),sT 8 5 14,mV 6 15]
def Q0f:SS:=[lA 16 8 5,mV 17 6,sT 8 2 16,mV 3 17,mI 4 0]
def e1c:SF:=⟨1,18,[.cell 2 true 8,.tmp 3,.tmp 4],
 (qS (gR Q0c) (qS (qS (gR Q0d) (.cond (t 9) (qS (gR c1a) .ret) .skip)) (qS (gR Q0e) (qS (gR Q0f) .ret))))⟩
def Q0g:SS:=[bX 2 a0Z 0,bX 3 a0b 1,o 4 (.alloc a0Z zE)]
def Q0h:SS:=[lA 5 5 2,cA 6 b1b [t 5],sT 5 2 6]
def I0s:SS:=[fA 7 0 2,lD 8 7,o 9 (bI .neq 8 0)]
def Q0i:SS:=[lA 10 5 2,sT 5 4 10]
def Q0j:SS:=[fA 11 1 2,lA 12 4 11,lA 13 4 3,cA 14 u0c [t 12,t 13],cA 15 N0Z [t 14],sT 5 4 15]
def e1d:SF:=⟨2,16,[.cell 4 true 5],
 (qS (gR Q0g) (qS (gR Q0h) (qS (qS (gR I0s) (.cond (t 9) (qS (gR Q0i) .ret) .skip)) (qS (gR Q0j) .ret))))⟩
def Q0k:SS:=[bX 1 a0b 0,o 2 (.alloc a0Z zE)]
def Q0l:SS:=[lA 3 4 1,o 4 (.build zR []),cA 5 u0c [t 3,t 4],o 6 (.build zE [(1,4,t 5)]),sT 5 2 6]
def e1e:SF:=⟨1,7,[.cell 2 true 5],
 (qS (gR Q0k) (qS (gR Q0l) .ret))⟩
def Q0m:SS:=[mB 2 false]
def Q0n:SS:=[mI 3 0]
def Q0o:SS:=[mV 4 3,mV 5 0,lN 6 5,o 7 (bT .lss 4 6)]
def y0v:SS:=[mV 10 0,mV 11 3,iA 12 4 10 11,fA 13 0 12,fA 14 1 13,lD 15 14,lN 16 15,o 17 (bI .gtr 16 6),mV 18 17,gF 19 18 (mS 0),gF 20 18 (mS 3),gF 21 18 (iS 4 19 20),gF 22 18 (fS 2 21),gF 23 18 (fS 1 22),gF 24 18 (lS 23),gF 25 18 (nS 24),gF 26 18 (bI .gtr 25 6),pT 27 18 26]
def I0t:SS:=[mB 2 true]
def Q0p:SS:=[mV 8 3,o 9 (bI .add 8 1),mV 3 9]
def Q0q:SS:=[mB 2 false]
def e1f:SF:=⟨1,28,[.tmp 2],
 (qS (gR Q0m) (qS (qS (gR Q0n) (.block 0 (.loop (qS (qS (gR Q0o) (.cond (t 7) .skip (.exit 0))) (qS (.block 1 (qS (gR y0v) (.cond (t 27) (qS (gR I0t) .ret) .skip))) (gR Q0p)))))) (qS (gR Q0q) .ret)))⟩
def Q0r:SS:=[bX 2 a0Z 0,bX 3 a0Z 1,mI 4 0]
def Q0s:SS:=[lA 5 5 2,cA 6 Z0k [t 5],sT 5 2 6]
def Q0t:SS:=[lA 7 5 3,cA 8 Z0k [t 7],sT 5 3 8]
def Q0u:SS:=[fA 9 0 2,lD 10 9,fA 11 0 3,lD 12 11,o 13 (bT .neq 10 12)]
def I0u:SS:=[fA 14 0 2,lD 15 14,fA 16 0 3,lD 17 16,o 18 (bT .lss 15 17)]
def Q0v:SS:=[o 4 (.mv (.const (.int .i64 (-1))))]
def Q0w:SS:=[mI 4 1]
def I0v:SS:=[fA 19 0 2,lD 20 19,o 21 (bI .neq 20 0)]
def Q0x:SS:=[mI 4 0]
def Q0y:SS:=[fA 22 1 2,lA 23 4 22,fA 24 1 3,lA 25 4 24,cA 26 b1c [t 23,t 25],mV 4 26]
def e1g:SF:=⟨2,27,[.tmp 4],
 (qS (gR Q0r) (qS (gR Q0s) (qS (gR Q0t) (qS (qS (gR Q0u) (.cond (t 13) (qS (qS (gR I0u) (.cond (t 18) (qS (gR Q0v) .ret) .skip)) (qS (gR Q0w) .ret)) .skip)) (qS (qS (gR I0v) (.cond (t 21) (qS (gR Q0x) .ret) .skip)) (qS (gR Q0y) .ret))))))⟩
def Q0z:SS:=[bX 3 e0C 0,o 6 (.alloc a0a zI),mI 7 0]
def y0w:SS:=[fA 11 0 3,lD 12 11,lN 13 12,mV 14 1,lN 15 14,o 16 (bT .neq 13 15),mV 17 16,gF 18 17 (fS 1 3),gF 19 17 (lS 18),gF 20 17 (nS 19),gF 21 17 (mS 2),gF 22 17 (nS 21),gF 23 17 (bT .neq 20 22),pT 24 17 23]
def I0z:SS:=[o 25 (.build zI []),sT 2 6 25,mI 7 1]
def Q0A:SS:=[fA 26 2 3,lA 27 2 26,o 28 (.build zI []),cA 29 L0t [t 27,t 28],o 8 (.alloc a0a zI),sT 2 8 29]
def Q0B:SS:=[mI 9 0]
def Q0C:SS:=[mV 30 9,mV 31 1,lN 32 31,o 33 (bT .lss 30 32)]
def Q0D:SS:=[lA 36 2 8,fA 37 0 3,lD 38 37,mV 39 9,iA 40 2 38 39,lA 41 2 40,mV 42 1,mV 43 9,iA 44 2 42 43,lA 45 2 44,cB 46 z0y [t 41,t 45],cA 47 L0t [t 36,t 46],sT 2 8 47]
def Q0E:SS:=[mV 34 9,o 35 (bI .add 34 1),mV 9 35]
def Q0F:SS:=[mI 10 0]
def Q0G:SS:=[mV 48 10,mV 49 2,lN 50 49,o 51 (bT .lss 48 50)]
def I0w:SS:=[lA 54 2 8,fA 55 1 3,lD 56 55,mV 57 10,iA 58 2 56 57,lA 59 2 58,mV 60 2,mV 61 10,iA 62 2 60 61,lA 63 2 62,cB 64 z0y [t 59,t 63],cA 65 L0t [t 54,t 64],sT 2 8 65]
def I0x:SS:=[mV 52 10,o 53 (bI .add 52 1),mV 10 53]
def I0y:SS:=[lA 66 2 8,sT 2 6 66,mI 7 0]
def e1h:SF:=⟨3,67,[.cell 6 true 2,.tmp 7],
 (qS (gR Q0z) (qS (qS (gR y0w) (.cond (t 24) (qS (gR I0z) .ret) .skip)) (qS (gR Q0A) (qS (qS (gR Q0B) (.block 0 (.loop (qS (qS (gR Q0C) (.cond (t 33) .skip (.exit 0))) (qS (.block 1 (.draw Q0D [0,0,2,0,14,30,0,0,192,448,1022,2047,4095] [])) (gR Q0E)))))) (qS (qS (gR Q0F) (.block 2 (.loop (qS (qS (gR Q0G) (.cond (t 51) .skip (.exit 2))) (qS (.block 3 (.draw I0w [0,0,2,0,14,30,0,0,192,448,1022,2047,4095] [])) (gR I0x)))))) (qS (gR I0y) .ret))))))⟩
def I0A:SS:=[o 4 (.alloc a0b zR),mI 5 0]
def I0B:SS:=[mV 8 0,lN 9 8,mV 10 1,lN 11 10,o 12 (bT .neq 9 11)]
def Q0H:SS:=[o 13 (.build zR []),sT 4 4 13,mI 5 1]
def Q0I:SS:=[cA 14 X0h [],o 6 (.alloc a0b zR),sT 4 6 14]
def Q0J:SS:=[mI 7 0]
def Q0K:SS:=[mV 15 7,mV 16 0,lN 17 16,o 18 (bT .lss 15 17)]
def Q0L:SS:=[mV 21 0,mV 22 7,iA 23 4 21 22,lA 24 4 23,cA 25 z0z [t 24],o 26 (.fld true 0 2 (t 25)),o 27 (.fld false 1 1 (t 26)),lN 28 27,o 29 (bI .gtr 28 0),mV 30 29,gT 31 30 (mS 1),gT 32 30 (mS 7),gT 33 30 (iS 4 31 32),gT 34 30 (aS 4 33),gT 35 30 (.call z0z [t 34] true),gT 36 30 (.fld true 0 2 (t 35)),gT 37 30 (.fld false 1 1 (t 36)),gT 38 30 (nS 37),gT 39 30 (bI .gtr 38 0),pF 40 30 39]
def Q0M:SS:=[lA 41 4 6,mV 42 0,mV 43 7,iA 44 4 42 43,lA 45 4 44,mV 46 1,mV 47 7,iA 48 4 46 47,lA 49 4 48,cB 50 b1e [t 45,t 49],cA 51 b1d [t 41,t 50],sT 4 6 51]
def y0x:SS:=[mV 19 7,o 20 (bI .add 19 1),mV 7 20]
def Q0N:SS:=[lA 52 4 6,sT 4 4 52,mI 5 0]
def c1M:SF:=⟨2,53,[.cell 4 true 4,.tmp 5],
 (qS (gR I0A) (qS (qS (gR I0B) (.cond (t 12) (qS (gR Q0H) .ret) .skip)) (qS (gR Q0I) (qS (qS (gR Q0J) (.block 0 (.loop (qS (qS (gR Q0K) (.cond (t 18) .skip (.exit 0))) (qS (.block 1 (qS (gR Q0L) (.cond (t 40) (.draw Q0M [0,0,0,6,14,0,0,96,224,510,1023,2047] []) .skip))) (gR y0x)))))) (qS (gR Q0N) .ret)))))⟩
def Q0O:SS:=[bX 2 a0a 0,bX 3 a0a 1,o 4 (.alloc a0b zR),mI 5 0]
def Q0P:SS:=[lA 13 2 2,cA 14 u0I [t 13],sT 2 2 14]
def Q0Q:SS:=[lA 15 2 3,cA 16 u0I [t 15],sT 2 3 16]
def Q0R:SS:=[fA 17 1 3,lD 18 17,lN 19 18,o 20 (bI .eql 19 0)]
def c1b:SS:=[o 21 (.build zR []),sT 4 4 21,mI 5 11]
def Q0S:SS:=[lA 22 2 2,lA 23 2 3,cA 24 Z0l [t 22,t 23],o 6 (.alloc a0a zI),sT 2 6 24]
def Q0T:SS:=[lA 26 2 2,lA 27 2 6,cA 28 Z0m [t 26,t 27],mV 25 28,eX 29 25 0,eX 30 25 1,eX 31 25 2,o 7 (.alloc a0a zI),o 8 (.alloc a0a zI),sT 2 7 29,sT 2 8 30,mV 9 31]
def Q0U:SS:=[lA 33 2 3,lA 34 2 6,cA 35 Z0m [t 33,t 34],mV 32 35,eX 36 32 0,eX 37 32 1,eX 38 32 2,o 10 (.alloc a0a zI),o 11 (.alloc a0a zI),sT 2 10 36,sT 2 11 37,mV 12 38]
def Q0V:SS:=[fA 39 0 10,lD 40 39]
def Q0W:SS:=[lA 41 2 7,cA 42 X0i [t 41],sT 2 7 42]
def I0C:SS:=[lA 43 2 10,cA 44 X0i [t 43],sT 2 10 44]
def w0r:SS:=[lA 45 2 7,lA 46 2 10,o 47 (.build zR [(0,2,t 45),(2,2,t 46)]),sT 4 4 47,mI 5 0]
def e1i:SF:=⟨2,48,[.cell 4 true 4,.tmp 5],
 (qS (gR Q0O) (qS (gR Q0P) (qS (gR Q0Q) (qS (qS (gR Q0R) (.cond (t 20) (qS (gR c1b) .ret) .skip)) (qS (gR Q0S) (qS (gR Q0T) (qS (gR Q0U) (qS (qS (gR Q0V) (.cond (t 40) (qS (gR Q0W) (gR I0C)) .skip)) (qS (gR w0r) .ret)))))))))⟩
def Q0X:SS:=[o 4 (.alloc a0a zI)]
def Q0Y:SS:=[mV 5 1,cA 6 B0J [t 5],mV 1 6]
def I0D:SS:=[mV 7 1,lN 8 7,o 9 (bI .eql 8 0)]
def Q0Z:SS:=[o 10 (.build zI []),sT 2 4 10]
def R0a:SS:=[mV 11 0,o 12 (.lit a0l [.int .u32 0] 0 []),mV 13 1,o 14 (.app a0l 1 4 (t 12) (t 13)),o 15 (.build zI [(0,1,t 11),(1,1,t 14)]),sT 2 4 15]
def e1j:SF:=⟨2,16,[.cell 4 true 2],
 (qS (gR Q0X) (qS (gR Q0Y) (qS (qS (gR I0D) (.cond (t 9) (qS (gR Q0Z) .ret) .skip)) (qS (gR R0a) .ret))))⟩
def R0b:SS:=[mI 2 0]
def R0c:SS:=[mV 3 0,o 4 (.mnx false (t 3) [i 6]),o 5 (.mnx true (i 0) [t 4]),mV 2 5]
def e1k:SF:=⟨1,6,[.tmp 2],
 (qS (gR R0b) (qS (gR R0c) .ret))⟩
def R0d:SS:=[mN 10]
def R0e:SS:=[mN 11]
def R0f:SS:=[mI 12 0]
def R0g:SS:=[mV 14 12,mV 15 0,o 16 (bT .lss 14 15)]
def R0h:SS:=[mI 13 0]
def R0i:SS:=[mV 19 12,mV 20 1,o 21 (bT .eql 19 20)]
def R0j:SS:=[mV 22 2,mV 13 22]
def R0k:SS:=[mV 23 12,mV 24 3,o 25 (bT .eql 23 24)]
def R0l:SS:=[mV 26 4,mV 13 26]
def R0m:SS:=[mV 27 11,mV 28 13,cA 29 X0e [t 28],o 30 (.lit a0b zR 1 [(0,4,t 29)]),o 31 (.app a0b 4 64 (t 27) (t 30)),mV 11 31]
def I0E:SS:=[mV 17 12,o 18 (bI .add 17 1),mV 12 18]
def I0F:SS:=[mV 32 11,mV 10 32]
def e1l:SF:=⟨5,33,[.tmp 10],
 (qS (gR R0d) (qS (gR R0e) (qS (qS (gR R0f) (.block 0 (.loop (qS (qS (gR R0g) (.cond (t 16) .skip (.exit 0))) (qS (.block 1 (qS (gR R0h) (qS (qS (gR R0i) (.cond (t 21) (gR R0j) .skip)) (qS (qS (gR R0k) (.cond (t 25) (gR R0l) .skip)) (gR R0m))))) (gR I0E)))))) (qS (gR I0F) .ret))))⟩
def R0n:SS:=[o 2 (.alloc a0M [.slice none 0 0])]
def R0o:SS:=[mV 3 0,mV 4 0,lN 5 4,o 6 (.mnx false (t 5) [i 40]),o 7 (.sl a0N 1 (t 3) none (some (t 6)) none),o 8 (.build [.slice none 0 0] [(0,1,t 7)]),sT 1 2 8]
def e1m:SF:=⟨1,9,[.cell 2 true 1],
 (qS (gR R0n) (qS (gR R0o) .ret))⟩
def R0p:SS:=[mB 2 false]
def R0q:SS:=[mI 3 0]
def R0r:SS:=[mV 4 3,mV 5 0,lN 6 5,o 7 (bT .lss 4 6)]
def y0y:SS:=[mV 10 0,mV 11 3,iA 12 4 10 11,fA 13 0 12,lD 14 13,lN 15 14,o 16 (bI .gtr 15 60),mV 17 16,gF 18 17 (mS 0),gF 19 17 (mS 3),gF 20 17 (iS 4 18 19),gF 21 17 (fS 1 20),gF 22 17 (lS 21),gF 23 17 (nS 22),gF 24 17 (bI .gtr 23 60),pT 25 17 24,mV 26 25,gF 27 26 (mS 0),gF 28 26 (mS 3),gF 29 26 (iS 4 27 28),gF 30 26 (fS 2 29),gF 31 26 (aS 2 30),gF 32 26 (.lit a0a zI 1 [(0,2,t 31)]),gF 33 26 (.call L0s [t 32] true),pT 34 26 33,mV 35 34,gF 36 35 (mS 0),gF 37 35 (mS 3),gF 38 35 (iS 4 36 37),gF 39 35 (fS 0 38),gF 40 35 (lS 39),gF 41 35 (.call L0s [t 40] true),pT 42 35 41,mV 43 42,gF 44 43 (mS 0),gF 45 43 (mS 3),gF 46 43 (iS 4 44 45),gF 47 43 (fS 1 46),gF 48 43 (lS 47),gF 49 43 (.call L0s [t 48] true),pT 50 43 49]
def p0O:SS:=[mB 2 true]
def R0s:SS:=[mV 8 3,o 9 (bI .add 8 1),mV 3 9]
def R0t:SS:=[mB 2 false]
def e1n:SF:=⟨1,51,[.tmp 2],
 (qS (gR R0p) (qS (qS (gR R0q) (.block 0 (.loop (qS (qS (gR R0r) (.cond (t 7) .skip (.exit 0))) (qS (.block 1 (qS (gR y0y) (.cond (t 50) (qS (gR p0O) .ret) .skip))) (gR R0s)))))) (qS (gR R0t) .ret)))⟩
def R0u:SS:=[bX 2 a0a 0,bX 3 a0a 1,mB 4 false]
def y0z:SS:=[fA 6 0 2,lD 7 6,fA 8 0 3,lD 9 8,o 10 (.bin 1 .neq (t 7) (t 9)),mV 11 10,gF 12 11 (fS 1 2),gF 13 11 (lS 12),gF 14 11 (nS 13),gF 15 11 (fS 1 3),gF 16 11 (lS 15),gF 17 11 (nS 16),gF 18 11 (bT .neq 14 17),pT 19 11 18]
def I0G:SS:=[mB 4 false]
def R0v:SS:=[mI 5 0]
def R0w:SS:=[mV 20 5,fA 21 1 2,lD 22 21,lN 23 22,o 24 (bT .lss 20 23)]
def R0x:SS:=[fA 27 1 2,lD 28 27,mV 29 5,iA 30 1 28 29,lD 31 30,fA 32 1 3,lD 33 32,mV 34 5,iA 35 1 33 34,lD 36 35,o 37 (bT .neq 31 36)]
def R0y:SS:=[mB 4 false]
def R0z:SS:=[mV 25 5,o 26 (bI .add 25 1),mV 5 26]
def R0A:SS:=[mB 4 true]
def e1o:SF:=⟨2,38,[.tmp 4],
 (qS (gR R0u) (qS (qS (gR y0z) (.cond (t 19) (qS (gR I0G) .ret) .skip)) (qS (qS (gR R0v) (.block 0 (.loop (qS (qS (gR R0w) (.cond (t 24) .skip (.exit 0))) (qS (.block 1 (qS (.draw R0x [0,1,0,7,15,0,32,0,224,480,1023] []) (.cond (t 37) (qS (gR R0y) .ret) .skip))) (gR R0z)))))) (qS (gR R0A) .ret))))⟩
def R0B:SS:=[bX 3 a0M 0,mB 6 false]
def R0C:SS:=[lA 7 1 3,mV 8 1,cA 9 b1f [t 7,t 8],mV 10 9,gT 11 10 (mS 2),gT 12 10 (nS 11),gT 13 10 (fS 0 3),gT 14 10 (lS 13),gT 15 10 (nS 14),gT 16 10 (bT .eql 12 15),pF 17 10 16,mV 18 17,gT 19 18 (mS 2),gT 20 18 (.call Z0j [t 19,.fn b1g] true),gT 21 18 (.un .not (t 20)),pF 22 18 21,mV 6 22]
def e1p:SF:=⟨3,23,[.tmp 6],
 (qS (gR R0B) (qS (gR R0C) .ret))⟩
def R0D:SS:=[bX 4 e0L 1,bX 5 e0L 2,mB 6 false]
def R0E:SS:=[mV 7 0,o 8 (.mkfn (.func b1i) [] [t 4,t 5]),cA 9 b1h [t 7,t 8],nT 10 9,mV 6 10]
def e1q:SF:=⟨3,11,[.tmp 6],
 (qS (gR R0D) (qS (gR R0E) .ret))⟩
def R0F:SS:=[mB 4 false]
def R0G:SS:=[mV 5 0,mV 6 1,cA 7 b1j [t 5,t 6],o 8 (bI .geq 7 0),mV 4 8]
def e1r:SF:=⟨2,9,[.tmp 4],
 (qS (gR R0F) (qS (gR R0G) .ret))⟩
def R0H:SS:=[bX 1 a0Z 0,mB 2 false]
def R0I:SS:=[fA 3 0 1,lD 4 3,o 5 (bI .lss 4 0),mV 2 5]
def e1s:SF:=⟨1,6,[.tmp 2],
 (qS (gR R0H) (qS (gR R0I) .ret))⟩
def R0J:SS:=[bX 3 a0M 0,bX 4 b0F 1,mB 6 false]
def R0K:SS:=[fA 10 3 4,lD 11 10,lN 12 11,mV 7 12]
def R0L:SS:=[mV 13 2,lN 14 13,mI 15 0]
def c1c:SS:=[o 16 (bT .lss 15 14)]
def R0M:SS:=[iA 17 5 13 15,lA 18 5 17,o 9 (.alloc a0Z zE),sT 5 9 18]
def I0H:SS:=[fA 19 0 9,lD 20 19,o 21 (bI .eql 20 0)]
def R0N:SS:=[mV 22 7,o 23 (bI .add 22 1),mV 7 23]
def c1d:SS:=[o 24 (bI .add 15 1),mV 15 24]
def I0I:SS:=[mV 25 7,o 26 (bI .leq 25 60),mV 27 26,gT 28 27 (fS 4 4),gT 29 27 (lS 28),gT 30 27 (nS 29),gT 31 27 (fS 2 4),gT 32 27 (lS 31),gT 33 27 (bT .add 30 32),gT 34 27 (bI .leq 33 60),pF 35 27 34,mV 6 35]
def e1t:SF:=⟨3,36,[.tmp 6],
 (qS (gR R0J) (qS (gR R0K) (qS (qS (gR R0L) (.block 0 (.loop (qS (gR c1c) (qS (.cond (t 16) .skip (.exit 0)) (qS (.block 1 (qS (gR R0M) (qS (gR I0H) (.cond (t 21) (gR R0N) .skip)))) (gR c1d))))))) (qS (gR I0I) .ret))))⟩
def R0O:SS:=[bX 3 a0M 0,o 6 (.alloc b0M zL)]
def R0P:SS:=[mV 13 2,o 14 (.build zL [(0,1,t 13)]),o 7 (.alloc b0M zL),sT 4 7 14]
def R0Q:SS:=[mV 15 1,lN 16 15,mI 17 0]
def c1e:SS:=[o 18 (bT .lss 17 16)]
def R0R:SS:=[mV 19 17,iA 20 5 15 17,lA 21 5 20,o 9 (.alloc a0Z zE),mV 8 19,sT 5 9 21]
def I0O:SS:=[fA 22 0 9,lD 23 22,o 24 (bI .neq 23 0)]
def R0S:SS:=[mV 25 2,o 26 (.mk a0b 64 zR (i 0) (t 25)),mV 10 26]
def R0T:SS:=[fA 27 0 3,lD 28 27,mV 29 8,iA 30 1 28 29,lD 31 30,lN 32 31,mI 33 0]
def c1f:SS:=[o 34 (bT .lss 33 32)]
def R0U:SS:=[iA 35 4 31 33,lA 36 4 35,o 12 (.alloc a0b zR),sT 4 12 36]
def I0J:SS:=[mV 37 10,lA 38 4 12,o 39 (.build zR []),cA 40 u0c [t 38,t 39],o 41 (.lit a0b zR 1 [(0,4,t 40)]),o 42 (.app a0b 4 64 (t 37) (t 41)),mV 10 42]
def Y0f:SS:=[o 43 (bI .add 33 1),mV 33 43]
def I0K:SS:=[mV 44 10,lN 45 44,mV 46 2,o 47 (bT .lss 45 46)]
def I0L:SS:=[mV 48 10,cA 49 x0e [i 0],o 50 (.lit a0b zR 1 [(0,4,t 49)]),o 51 (.app a0b 4 64 (t 48) (t 50)),mV 10 51]
def I0M:SS:=[fA 52 1 7,lD 53 52,mV 54 10,o 55 (.lit a0N [.slice none 0 0] 1 [(0,1,t 54)]),o 56 (.app a0N 1 24 (t 53) (t 55)),fA 57 2 7,lD 58 57,fA 59 1 9,lA 60 4 59,o 61 (.build zR []),cB 62 u0c [t 60,t 61],o 63 (.lit a0b zR 1 [(0,4,t 62)]),o 64 (.app a0b 4 64 (t 58) (t 63)),fA 65 1 7,sT 1 65 56,fA 66 2 7,sT 1 66 64]
def Y0g:SS:=[o 67 (bI .add 17 1),mV 17 67]
def I0N:SS:=[lA 68 4 7,sT 4 6 68]
def e1u:SF:=⟨3,69,[.cell 6 true 4],
 (qS (gR R0O) (qS (gR R0P) (qS (qS (gR R0Q) (.block 0 (.loop (qS (gR c1e) (qS (.cond (t 18) .skip (.exit 0)) (qS (.block 1 (qS (gR R0R) (qS (qS (gR I0O) (.cond (t 24) (.exit 1) .skip)) (qS (gR R0S) (qS (qS (gR R0T) (.block 2 (.loop (qS (gR c1f) (qS (.cond (t 34) .skip (.exit 2)) (qS (.block 3 (qS (gR R0U) (gR I0J))) (gR Y0f))))))) (qS (.block 4 (.loop (qS (qS (gR I0K) (.cond (t 47) .skip (.exit 4))) (.block 5 (gR I0L))))) (.draw I0M [0,1,0,4,15,0,32,0,128,0,927,1951,4095,127,16383,32767,65535] [(4,6),(4,8)]))))))) (gR Y0g))))))) (qS (gR I0N) .ret))))⟩
def R0V:SS:=[mV 9 1,lN 10 9,mI 11 0]
def c1g:SS:=[o 12 (bT .lss 11 10)]
def R0W:SS:=[iA 13 4 9 11,lA 14 4 13,o 5 (.alloc e0C [.slice none 0 0,.slice none 0 0,.bool false,.slice none 0 0]),sT 4 5 14]
def R0X:SS:=[mN 6]
def R0Y:SS:=[fA 15 0 5,lD 16 15,fA 17 1 5,lD 18 17,o 19 (.lit b0i [.slice none 0 0] 2 [(0,1,t 16),(1,1,t 18)]),cA 20 Z0o [t 19],lN 21 20,mI 22 0]
def c1h:SS:=[o 23 (bT .lss 22 21)]
def R0Z:SS:=[iA 24 2 20 22,lA 25 2 24,o 8 (.alloc a0a zI),sT 2 8 25]
def S0a:SS:=[mV 26 6,lA 27 2 8,cA 28 O0a [t 27],o 29 (.lit a0b zR 1 [(0,4,t 28)]),o 30 (.app a0b 4 64 (t 26) (t 29)),mV 6 30]
def c1i:SS:=[o 31 (bI .add 22 1),mV 22 31]
def S0b:SS:=[mV 32 0,mV 33 0,mV 34 0,cK 35 34,fA 36 1 35,lD 37 36,mV 38 6,o 39 (.lit a0N [.slice none 0 0] 1 [(0,1,t 38)]),o 40 (.app a0N 1 24 (t 37) (t 39)),mV 41 0,cK 42 41,fA 43 2 42,lD 44 43,fA 45 2 5,lA 46 2 45,cB 47 L0u [t 46],cB 48 O0a [t 47],o 49 (.lit a0b zR 1 [(0,4,t 48)]),o 50 (.app a0b 4 64 (t 44) (t 49)),cK 51 32,fA 52 1 51,sT 1 52 40,cK 53 33,fA 54 2 53,sT 1 54 50]
def Y0h:SS:=[o 55 (bI .add 11 1),mV 11 55]
def e1v:SF:=⟨2,56,[],
 (qS (gR R0V) (.block 0 (.loop (qS (gR c1g) (qS (.cond (t 12) .skip (.exit 0)) (qS (.block 1 (qS (gR R0W) (qS (gR R0X) (qS (qS (gR R0Y) (.block 2 (.loop (qS (gR c1h) (qS (.cond (t 23) .skip (.exit 2)) (qS (.block 3 (qS (gR R0Z) (gR S0a))) (gR c1i))))))) (.draw S0b [0,0,0,4,12,28,0,64,252,0,512,1536,3584,0,8192,25084,57852,123388,262140,524285,1048573,2097149,4194303,8388607,16777215] [(8,12),(8,14)]))))) (gR Y0h)))))))⟩
def S0c:SS:=[bX 3 a0M 0,bX 4 b0F 1,mN 6,o 7 (.alloc a0b zR)]
def S0d:SS:=[fA 17 4 4,lD 18 17,lN 19 18,mV 8 19]
def S0e:SS:=[mV 20 8,fA 21 2 4,lD 22 21,o 23 (bT .add 20 22),o 24 (.mk a0b 64 zR (t 23) (t 23)),mV 9 24]
def S0f:SS:=[mV 25 9,lN 26 25,mI 27 0]
def c1j:SS:=[o 28 (bT .lss 27 26)]
def S0g:SS:=[mV 29 27,mV 10 29]
def S0h:SS:=[mV 30 9,mV 31 10,cA 32 x0e [i 0],iA 33 4 30 31,sT 4 33 32]
def c1k:SS:=[o 34 (bI .add 27 1),mV 27 34]
def S0i:SS:=[cA 35 x0e [i 0],o 11 (.alloc a0b zR),sT 4 11 35]
def S0j:SS:=[fA 36 4 4,lD 37 36,lN 38 37,mI 39 0]
def Y0i:SS:=[o 40 (bT .lss 39 38)]
def I0P:SS:=[mV 41 39,iA 42 4 37 39,lA 43 4 42,o 13 (.alloc e0C [.slice none 0 0,.slice none 0 0,.bool false,.slice none 0 0]),mV 12 41,sT 4 13 43]
def I0Q:SS:=[fA 44 0 3,lD 45 44,mV 46 2,iA 47 1 45 46,lD 48 47,mV 49 12,iA 50 4 48 49,lA 51 4 50,o 14 (.alloc a0b zR),sT 4 14 51]
def I0R:SS:=[fA 52 0 13,lD 53 52,fA 54 1 13,lD 55 54,o 56 (.lit b0i [.slice none 0 0] 2 [(0,1,t 53),(1,1,t 55)]),cA 57 Z0o [t 56],lN 58 57,mI 59 0]
def Y0j:SS:=[o 60 (bT .lss 59 58)]
def I0S:SS:=[mV 61 59,iA 62 2 57 59,lA 63 2 62,o 16 (.alloc a0a zI),mV 15 61,sT 2 16 63]
def I0T:SS:=[mV 64 9,mV 65 15,mV 66 9,mV 67 15,iA 68 4 66 67,lA 69 4 68,lA 70 4 14,lA 71 2 16,cB 72 O0a [t 71],cB 73 O0b [t 70,t 72],cA 74 u0c [t 69,t 73],iA 75 4 64 65,sT 4 75 74]
def Y0k:SS:=[o 76 (bI .add 59 1),mV 59 76]
def I0U:SS:=[lA 77 4 11,lA 78 4 14,fA 79 2 13,lA 80 2 79,cB 81 O0a [t 80],cB 82 O0b [t 78,t 81],cA 83 u0c [t 77,t 82],sT 4 11 83]
def Y0l:SS:=[o 84 (bI .add 39 1),mV 39 84]
def I0V:SS:=[mV 85 9,lA 86 4 11,mV 6 85,sT 4 7 86]
def e1w:SF:=⟨3,87,[.tmp 6,.cell 7 true 4],
 (qS (gR S0c) (qS (gR S0d) (qS (gR S0e) (qS (qS (gR S0f) (.block 0 (.loop (qS (gR c1j) (qS (.cond (t 28) .skip (.exit 0)) (qS (.block 1 (qS (gR S0g) (gR S0h))) (gR c1k))))))) (qS (gR S0i) (qS (qS (gR S0j) (.block 2 (.loop (qS (gR Y0i) (qS (.cond (t 40) .skip (.exit 2)) (qS (.block 3 (qS (gR I0P) (qS (gR I0Q) (qS (qS (gR I0R) (.block 4 (.loop (qS (gR Y0j) (qS (.cond (t 60) .skip (.exit 4)) (qS (.block 5 (qS (gR I0S) (.draw I0T [0,0,0,0,12,28,0,0,128,448,1020,2047,4095] []))) (gR Y0k))))))) (.draw I0U [0,0,0,4,12,30,63,127] []))))) (gR Y0l))))))) (qS (.draw I0V [0,0,1,7] []) .ret)))))))⟩
def S0k:SS:=[bX 1 b0M 0,mB 2 false]
def n0C:SS:=[fA 3 0 1,lD 4 3,o 5 (bI .lss 4 0),mV 6 5,gF 7 6 (fS 0 1),gF 8 6 (lS 7),gF 9 6 (bI .gtr 8 60),pT 10 6 9,mV 11 10,gF 12 11 (fS 1 1),gF 13 11 (lS 12),gF 14 11 (nS 13),gF 15 11 (bI .gtr 14 60),pT 16 11 15,mV 17 16,gF 18 17 (fS 2 1),gF 19 17 (lS 18),gF 20 17 (nS 19),gF 21 17 (fS 1 1),gF 22 17 (lS 21),gF 23 17 (nS 22),gF 24 17 (bT .neq 20 23),pT 25 17 24,mV 26 25,gF 27 26 (fS 3 1),gF 28 26 (lS 27),gF 29 26 (nS 28),gF 30 26 (fS 0 1),gF 31 26 (lS 30),gF 32 26 (bT .neq 29 31),pT 33 26 32]
def p0P:SS:=[mB 2 false]
def S0l:SS:=[fA 34 1 1,lD 35 34,o 36 (.mkfn (.func b1l) [] [t 1]),cA 37 b1k [t 35,t 36],nT 38 37,mV 2 38]
def e1x:SF:=⟨1,39,[.tmp 2],
 (qS (gR S0k) (qS (qS (gR n0C) (.cond (t 33) (qS (gR p0P) .ret) .skip)) (qS (gR S0l) .ret)))⟩
def S0m:SS:=[bX 1 b0M 0,o 2 (.alloc b0X zA),mI 3 0]
def S0n:SS:=[lA 8 4 1,cA 9 b1m [t 8],o 4 (.alloc a0Q [.int .i64 0,.slice none 0 0,.slice none 0 0,.slice none 0 0,.bool false,.slice none 0 0,.bool false,.slice none 0 0]),sT 8 4 9]
def S0o:SS:=[lA 11 4 1,lA 12 8 4,cA 13 L0v [t 11,t 12],mV 10 13,eX 14 10 0,eX 15 10 1,eX 16 10 2,o 5 (.alloc b0X zA),sT 8 5 14,mV 6 15,mV 7 16]
def I0W:SS:=[mV 17 7]
def S0p:SS:=[lA 18 8 5,mV 19 6,sT 8 2 18,mV 3 19]
def S0q:SS:=[o 20 (.build [] []),lA 21 4 1,lA 22 8 4,cA 23 d1B [t 20,t 21,t 22],eX 24 23 0,eX 25 23 1,sT 8 2 24,mV 3 25]
def e1y:SF:=⟨1,26,[.cell 2 true 8,.tmp 3],
 (qS (gR S0m) (qS (gR S0n) (qS (qS (gR S0o) (qS (gR I0W) (.cond (t 17) (qS (gR S0p) .ret) .skip))) (qS (gR S0q) .ret))))⟩
def S0r:SS:=[bX 1 a0Z 0,o 2 (.alloc a0Z zE)]
def S0s:SS:=[lA 4 5 1,cA 5 Z0n [t 4],nT 6 5,mV 3 6]
def S0t:SS:=[o 7 (.build zR []),cA 8 N0Z [t 7],sT 5 2 8]
def I0X:SS:=[fA 10 0 1,lD 11 10,o 12 (bI .eql 11 0),mV 9 12]
def S0u:SS:=[fA 13 1 1,lA 14 4 13,cA 15 N0Z [t 14],sT 5 2 15]
def S0v:SS:=[fA 16 0 1,lD 17 16,o 18 (.build zE [(0,1,t 17)]),sT 5 2 18]
def e1z:SF:=⟨1,19,[.cell 2 true 5],
 (qS (gR S0r) (qS (.block 0 (qS (gR S0s) (.cond (t 3) (qS (gR S0t) .ret) (qS (gR I0X) (.cond (t 9) (qS (gR S0u) .ret) .skip))))) (qS (gR S0v) .ret)))⟩
def S0w:SS:=[bX 2 a0b 0,bX 3 a0b 1,o 4 (.alloc a0b zR)]
def S0x:SS:=[lA 5 4 2,cB 6 B0K [t 5],lA 7 4 3,cA 8 B0K [t 7],sT 4 2 6,sT 4 3 8]
def S0y:SS:=[fA 9 0 2,lA 10 2 9,fA 11 2 3,lA 12 2 11,cB 13 s0G [t 10,t 12],fA 14 0 3,lA 15 2 14,fA 16 2 2,lA 17 2 16,cB 18 s0G [t 15,t 17],o 19 (.lit a0a zI 1 [(0,2,t 18)]),o 20 (.call b1n [.fn B0L,t 13,t 19] false),fA 21 2 2,lA 22 2 21,fA 23 2 3,lA 24 2 23,cA 25 s0G [t 22,t 24],cA 26 Z0p [t 20,t 25],sT 4 4 26]
def e1A:SF:=⟨2,27,[.cell 4 true 4],
 (qS (gR S0w) (qS (.draw S0x [0,1,0,7,15,31] []) (qS (.draw S0y [0,1,0,4,15,0,32,0,128,511,1023,2047,0,4096,0,16384,65535,131071,262143] []) .ret)))⟩
def S0z:SS:=[bX 1 a0Z 0,o 2 (.alloc a0Z zE)]
def S0A:SS:=[lA 3 5 1,cA 4 b1o [t 3],nT 5 4]
def S0B:SS:=[cA 6 X0h [],o 7 (.build zE [(1,4,t 6)]),sT 5 2 7]
def I0Y:SS:=[fA 8 0 1,lD 9 8,o 10 (bI .neq 9 0)]
def S0C:SS:=[lA 11 5 1,sT 5 2 11]
def S0D:SS:=[fA 12 1 1,lA 13 4 12,cA 14 z0z [t 13],o 15 (.build zE [(1,4,t 14)]),sT 5 2 15]
def e1B:SF:=⟨1,16,[.cell 2 true 5],
 (qS (gR S0z) (qS (qS (gR S0A) (.cond (t 5) (qS (gR S0B) .ret) .skip)) (qS (qS (gR I0Y) (.cond (t 10) (qS (gR S0C) .ret) .skip)) (qS (gR S0D) .ret))))⟩
def S0E:SS:=[bX 2 a0b 0,bX 3 a0b 1,mI 4 0]
def S0F:SS:=[lA 5 4 2,cA 6 z0z [t 5],sT 4 2 6]
def S0G:SS:=[lA 7 4 3,cA 8 z0z [t 7],sT 4 3 8]
def S0H:SS:=[fA 9 0 2,lA 10 2 9,fA 11 2 3,lA 12 2 11,cB 13 z0y [t 10,t 12],fA 14 0 3,lA 15 2 14,fA 16 2 2,lA 17 2 16,cA 18 z0y [t 15,t 17],cA 19 b1p [t 13,t 18],mV 4 19]
def e1C:SF:=⟨2,20,[.tmp 4],
 (qS (gR S0E) (qS (gR S0F) (qS (gR S0G) (qS (.draw S0H [0,1,0,4,15,0,32,0,128,511,1023,2047] []) .ret))))⟩
def S0I:SS:=[bX 2 a0a 0,bX 3 a0a 1,o 4 (.alloc a0a zI)]
def S0J:SS:=[lA 5 2 2,cA 6 u0I [t 5],sT 2 2 6]
def S0K:SS:=[lA 7 2 3,cA 8 u0I [t 7],sT 2 3 8]
def I0Z:SS:=[fA 9 0 2,lD 10 9,fA 11 0 3,lD 12 11,o 13 (.bin 1 .eql (t 10) (t 12))]
def S0L:SS:=[fA 14 0 2,lD 15 14,fA 16 1 2,lD 17 16,fA 18 1 3,lD 19 18,cB 20 b1q [t 17,t 19],cA 21 u0H [t 15,t 20],sT 2 4 21]
def S0M:SS:=[fA 22 1 2,lD 23 22,fA 24 1 3,lD 25 24,cA 26 X0j [t 23,t 25],o 27 (bI .geq 26 0)]
def S0N:SS:=[fA 28 0 2,lD 29 28,fA 30 1 2,lD 31 30,fA 32 1 3,lD 33 32,cB 34 O0c [t 31,t 33],cA 35 u0H [t 29,t 34],sT 2 4 35]
def S0O:SS:=[fA 36 0 3,lD 37 36,fA 38 1 3,lD 39 38,fA 40 1 2,lD 41 40,cB 42 O0c [t 39,t 41],cA 43 u0H [t 37,t 42],sT 2 4 43]
def e1D:SF:=⟨2,44,[.cell 4 true 2],
 (qS (gR S0I) (qS (gR S0J) (qS (gR S0K) (qS (qS (gR I0Z) (.cond (t 13) (qS (.draw S0L [0,1,0,4,0,16,60,127,255] []) .ret) .skip)) (qS (qS (gR S0M) (.cond (t 27) (qS (.draw S0N [0,1,0,4,0,16,60,127,255] []) .ret) .skip)) (qS (.draw S0O [0,1,0,4,0,16,60,127,255] []) .ret))))))⟩
def S0P:SS:=[bX 2 a0a 0,bX 3 a0a 1,o 4 (.alloc a0a zI)]
def S0Q:SS:=[lA 5 2 2,cA 6 u0I [t 5],sT 2 2 6]
def S0R:SS:=[lA 7 2 3,cA 8 u0I [t 7],sT 2 3 8]
def S0S:SS:=[fA 9 0 2,lD 10 9,fA 11 0 3,lD 12 11,o 13 (.bin 1 .neq (t 10) (t 12)),fA 14 1 2,lD 15 14,fA 16 1 3,lD 17 16,cB 18 b1r [t 15,t 17],cA 19 u0H [t 13,t 18],sT 2 4 19]
def e1E:SF:=⟨2,20,[.cell 4 true 2],
 (qS (gR S0P) (qS (gR S0Q) (qS (gR S0R) (qS (.draw S0S [0,1,0,4,15,0,32,0,128,480,1023,2047] []) .ret))))⟩
def S0T:SS:=[o 0 (.alloc a0b zR)]
def S0U:SS:=[cA 1 K0I [i 1],o 2 (.build zR [(2,2,t 1)]),sT 4 0 2]
def e1F:SF:=⟨0,3,[.cell 0 true 4],
 (qS (gR S0T) (qS (gR S0U) .ret))⟩
def S0V:SS:=[bX 1 a0b 0,o 2 (.alloc a0b zR)]
def S0W:SS:=[lA 3 4 1,cA 4 Z0q [t 3],nT 5 4,mV 6 5,gF 7 6 (fS 2 1),gF 8 6 (fS 1 7),gF 9 6 (lS 8),gF 10 6 (nS 9),gF 11 6 (bI .eql 10 0),pT 12 6 11]
def J0a:SS:=[cA 13 X0h [],sT 4 2 13]
def S0X:SS:=[fA 14 0 1,fA 15 0 14,lD 16 15,fA 17 0 1,fA 18 1 17,lD 19 18,cB 20 u0H [t 16,t 19],fA 21 2 1,fA 22 1 21,lD 23 22,o 24 (.call u0H [(.const (.bool false)),t 23] true),o 25 (.build zR [(0,2,t 20),(2,2,t 24)]),sT 4 2 25]
def e1G:SF:=⟨1,26,[.cell 2 true 4],
 (qS (gR S0V) (qS (qS (gR S0W) (.cond (t 12) (qS (gR J0a) .ret) .skip)) (qS (.draw S0X [0,1,3,0,8,24,63,0,128,384,1023,2047,4095] []) .ret)))⟩
def S0Y:SS:=[bX 2 a0b 0,bX 3 a0b 1,o 4 (.alloc a0b zR)]
def S0Z:SS:=[lA 7 4 2,cA 8 z0z [t 7],sT 4 2 8]
def T0a:SS:=[lA 9 4 3,cA 10 z0z [t 9],sT 4 3 10]
def T0b:SS:=[fA 12 0 2,lA 13 2 12,fA 14 2 3,lA 15 2 14,cB 16 z0y [t 13,t 15],fA 17 0 3,lA 18 2 17,fA 19 2 2,lA 20 2 19,cB 21 z0y [t 18,t 20],cB 22 L0t [t 16,t 21],fA 23 2 2,lA 24 2 23,fA 25 2 3,lA 26 2 25,cB 27 z0y [t 24,t 26],cB 28 X0f [t 22,t 27],mV 11 28,eX 29 11 0,eX 30 11 1,o 5 (.alloc a0b zR),sT 4 5 29,mV 6 30]
def T0c:SS:=[lA 31 4 5,sT 4 4 31]
def e1H:SF:=⟨2,32,[.cell 4 true 4],
 (qS (gR S0Y) (qS (gR S0Z) (qS (gR T0a) (qS (.draw T0b [0,1,0,4,15,0,32,0,128,511,1023,0,2048,0,8192,32767,65535,131071,262143,262143,0,1572863,4194303] []) (qS (gR T0c) .ret)))))⟩
def T0d:SS:=[bX 2 a0b 0,bX 3 a0b 1,o 4 (.alloc a0b zR)]
def T0e:SS:=[lA 7 4 2,cA 8 z0z [t 7],sT 4 2 8]
def T0f:SS:=[lA 9 4 3,cA 10 z0z [t 9],sT 4 3 10]
def T0g:SS:=[fA 12 0 2,lA 13 2 12,fA 14 0 3,lA 15 2 14,cB 16 z0y [t 13,t 15],fA 17 2 2,lA 18 2 17,fA 19 2 3,lA 20 2 19,cB 21 z0y [t 18,t 20],cB 22 X0f [t 16,t 21],mV 11 22,eX 23 11 0,eX 24 11 1,o 5 (.alloc a0b zR),sT 4 5 23,mV 6 24]
def T0h:SS:=[lA 25 4 5,sT 4 4 25]
def e1I:SF:=⟨2,26,[.cell 4 true 4],
 (qS (gR T0d) (qS (gR T0e) (qS (gR T0f) (qS (.draw T0g [0,1,0,4,15,0,32,0,128,511,1023,2047,4095,4095,0,24575,65535] []) (qS (gR T0h) .ret)))))⟩
def T0i:SS:=[bX 1 a0a 0,o 2 (.alloc a0a zI)]
def T0j:SS:=[lA 3 2 1,cA 4 X0k [t 3],nT 5 4]
def T0k:SS:=[o 6 (.build zI []),sT 2 2 6]
def T0l:SS:=[lA 7 2 1,sT 2 2 7]
def e1J:SF:=⟨1,8,[.cell 2 true 2],
 (qS (gR T0i) (qS (qS (gR T0j) (.cond (t 5) (qS (gR T0k) .ret) .skip)) (qS (gR T0l) .ret)))⟩
def T0m:SS:=[bX 2 a0a 0,bX 3 a0a 1,o 4 (.alloc a0a zI)]
def T0n:SS:=[lA 9 2 2,cB 10 u0I [t 9],o 11 (.fld false 1 1 (t 10)),lA 12 2 3,cA 13 u0I [t 12],o 14 (.fld false 1 1 (t 13)),mV 5 11,mV 6 14]
def J0b:SS:=[mV 15 6,lN 16 15,o 17 (bI .gtr 16 0)]
def T0o:SS:=[mV 19 5,mV 20 6,cA 21 Z0r [t 19,t 20],mV 18 21,eX 22 18 0,eX 23 18 1,mV 7 22,mV 8 23]
def T0p:SS:=[mV 24 6,mV 5 24]
def T0q:SS:=[mV 25 8,mV 6 25]
def T0r:SS:=[mV 26 5,o 27 (.call u0H [(.const (.bool false)),t 26] true),sT 2 4 27]
def e1K:SF:=⟨2,28,[.cell 4 true 2],
 (qS (gR T0m) (qS (.draw T0n [0,1,3,0,11,27,31,127] []) (qS (.block 0 (.loop (qS (qS (gR J0b) (.cond (t 17) .skip (.exit 0))) (.block 1 (qS (gR T0o) (qS (gR T0p) (gR T0q))))))) (qS (gR T0r) .ret))))⟩
def T0s:SS:=[bX 2 a0a 0,bX 3 a0a 1,o 4 (.alloc a0a zI),o 5 (.alloc a0a zI),mI 6 0]
def T0t:SS:=[lA 9 2 2,cA 10 u0I [t 9],sT 2 2 10]
def T0u:SS:=[lA 11 2 3,cA 12 u0I [t 11],sT 2 3 12]
def T0v:SS:=[fA 13 1 3,lD 14 13,lN 15 14,o 16 (bI .eql 15 0)]
def c1q:SS:=[o 17 (.build zI []),o 18 (.build zI []),sT 2 4 17,sT 2 5 18,mI 6 1]
def T0w:SS:=[fA 20 1 2,lD 21 20,fA 22 1 3,lD 23 22,cA 24 Z0r [t 21,t 23],mV 19 24,eX 25 19 0,eX 26 19 1,mV 7 25,mV 8 26]
def T0x:SS:=[fA 27 0 2,lD 28 27,fA 29 0 3,lD 30 29,o 31 (.bin 1 .neq (t 28) (t 30)),mV 32 7,cB 33 u0H [t 31,t 32],fA 34 0 2,lD 35 34,mV 36 8,cA 37 u0H [t 35,t 36],sT 2 4 33,sT 2 5 37,mI 6 0]
def e1L:SF:=⟨2,38,[.cell 4 true 2,.cell 5 true 2,.tmp 6],
 (qS (gR T0s) (qS (gR T0t) (qS (gR T0u) (qS (qS (gR T0v) (.cond (t 16) (qS (gR c1q) .ret) .skip)) (qS (gR T0w) (qS (.draw T0x [0,1,0,4,15,0,63,0,128,0,1023,2047,4095,8191] []) .ret))))))⟩
def T0y:SS:=[bX 1 a0a 0,o 2 (.alloc a0a zI)]
def T0z:SS:=[lA 3 2 1,cA 4 u0I [t 3],sT 2 1 4]
def T0A:SS:=[fA 5 0 1,lD 6 5,nT 7 6,fA 8 1 1,lD 9 8,cA 10 u0H [t 7,t 9],sT 2 2 10]
def e1M:SF:=⟨1,11,[.cell 2 true 2],
 (qS (gR T0y) (qS (gR T0z) (qS (gR T0A) .ret)))⟩
def T0B:SS:=[mN 2]
def T0C:SS:=[mV 4 0,lN 5 4,mV 3 5]
def J0c:SS:=[mV 6 3,o 7 (bI .gtr 6 0),mV 8 7,gT 9 8 (mS 0),gT 10 8 (mS 3),gT 11 8 (bI .sub 10 1),gT 12 8 (iS 1 9 11),gT 13 8 (lS 12),gT 14 8 (.bin 0 .eql (t 13) (.const (.int .u32 0))),pF 15 8 14]
def T0D:SS:=[mV 16 3,o 17 (bI .sub 16 1),mV 3 17]
def T0E:SS:=[mV 18 0,mV 19 3,o 20 (.sl a0l 1 (t 18) none (some (t 19)) none),mV 2 20]
def e1N:SF:=⟨1,21,[.tmp 2],
 (qS (gR T0B) (qS (gR T0C) (qS (.block 0 (.loop (qS (qS (gR J0c) (.cond (t 15) .skip (.exit 0))) (.block 1 (gR T0D))))) (qS (gR T0E) .ret))))⟩
def T0F:SS:=[bX 2 a0M 0,mB 4 false]
def t0E:SS:=[mV 9 1,o 10 (bI .lss 9 0),mV 11 10,gF 12 11 (mS 1),gF 13 11 (bI .gtr 12 6),pT 14 11 13,mV 15 14,gF 16 15 (fS 0 2),gF 17 15 (lS 16),gF 18 15 (nS 17),gF 19 15 (bI .gtr 18 40),pT 20 15 19]
def y0A:SS:=[mB 4 false]
def T0G:SS:=[fA 21 0 2,lD 22 21,lN 23 22,mI 24 0]
def c1r:SS:=[o 25 (bT .lss 24 23)]
def J0h:SS:=[iA 26 1 22 24,lD 27 26,mV 6 27]
def J0i:SS:=[mV 28 6,lN 29 28,mV 30 1,o 31 (bT .neq 29 30)]
def T0H:SS:=[mB 4 false]
def T0I:SS:=[mV 32 6,lN 33 32,mI 34 0]
def c1s:SS:=[o 35 (bT .lss 34 33)]
def J0d:SS:=[iA 36 4 32 34,lA 37 4 36,o 8 (.alloc a0b zR),sT 4 8 37]
def J0e:SS:=[lA 38 4 8,cA 39 u0C [t 38],nT 40 39]
def J0f:SS:=[mB 4 false]
def Y0n:SS:=[o 41 (bI .add 34 1),mV 34 41]
def Y0o:SS:=[o 42 (bI .add 24 1),mV 24 42]
def J0g:SS:=[mB 4 true]
def e1O:SF:=⟨2,43,[.tmp 4],
 (qS (gR T0F) (qS (qS (gR t0E) (.cond (t 20) (qS (gR y0A) .ret) .skip)) (qS (qS (gR T0G) (.block 0 (.loop (qS (gR c1r) (qS (.cond (t 25) .skip (.exit 0)) (qS (.block 1 (qS (gR J0h) (qS (qS (gR J0i) (.cond (t 31) (qS (gR T0H) .ret) .skip)) (qS (gR T0I) (.block 2 (.loop (qS (gR c1s) (qS (.cond (t 35) .skip (.exit 2)) (qS (.block 3 (qS (gR J0d) (qS (gR J0e) (.cond (t 40) (qS (gR J0f) .ret) .skip)))) (gR Y0n)))))))))) (gR Y0o))))))) (qS (gR J0g) .ret))))⟩
def T0J:SS:=[bX 1 a0Z 0,mB 2 false]
def T0K:SS:=[lA 3 5 1,cA 4 Z0n [t 3],nT 5 4,mV 2 5]
def e1P:SF:=⟨1,6,[.tmp 2],
 (qS (gR T0J) (qS (gR T0K) .ret))⟩
def T0L:SS:=[bX 1 a0Z 0,mB 2 false]
def T0M:SS:=[fA 3 0 1,lD 4 3]
def T0N:SS:=[o 6 (.bin 0 .eql (t 4) (.const (.int .i64 (-1)))),mV 5 6]
def y0B:SS:=[o 7 (bI .eql 4 1),mV 5 7]
def J0j:SS:=[fA 8 1 1,lA 9 4 8,cA 10 B0p [t 9],mV 2 10]
def J0k:SS:=[o 12 (bI .eql 4 0),mV 11 12]
def T0O:SS:=[fA 13 1 1,lA 14 4 13,cA 15 u0C [t 14],mV 2 15]
def T0P:SS:=[mB 2 false]
def e1Q:SF:=⟨1,16,[.tmp 2],
 (qS (gR T0L) (qS (qS (gR T0M) (.block 0 (qS (qS (gR T0N) (.cond (t 5) .skip (gR y0B))) (.cond (t 5) (qS (gR J0j) .ret) (qS (gR J0k) (.cond (t 11) (qS (gR T0O) .ret) .skip)))))) (qS (gR T0P) .ret)))⟩
def T0Q:SS:=[mB 4 false]
def T0R:SS:=[mV 5 0,mV 6 1,cA 7 B0q [t 5,t 6],o 8 (bI .geq 7 0),mV 4 8]
def e1R:SF:=⟨2,9,[.tmp 4],
 (qS (gR T0Q) (qS (gR T0R) .ret))⟩
def T0S:SS:=[bX 3 e0C 0,mB 4 false]
def T0T:SS:=[fA 5 0 3,lD 6 5,lN 7 6,lD 8 1,o 9 (bT .neq 7 8),mV 10 9,gF 11 10 (fS 1 3),gF 12 10 (lS 11),gF 13 10 (nS 12),gF 14 10 (lS 2),gF 15 10 (bT .neq 13 14),pT 16 10 15,mV 4 16]
def e1S:SF:=⟨3,17,[.tmp 4],
 (qS (gR T0S) (qS (gR T0T) .ret))⟩
def T0U:SS:=[mI 4 0]
def T0V:SS:=[mV 6 0,lN 7 6,mI 8 0]
def c1t:SS:=[o 9 (bT .lss 8 7)]
def T0W:SS:=[mV 10 8,mV 5 10]
def T0X:SS:=[mV 11 1,mV 12 0,mV 13 5,iA 14 5 12 13,lA 15 5 14,o 16 (.callv (t 11) [t 15] true)]
def T0Y:SS:=[mV 17 5,mV 4 17]
def c1u:SS:=[o 18 (bI .add 8 1),mV 8 18]
def T0Z:SS:=[o 4 (.mv (.const (.int .i64 (-1))))]
def e1T:SF:=⟨2,19,[.tmp 4],
 (qS (gR T0U) (qS (qS (gR T0V) (.block 0 (.loop (qS (gR c1t) (qS (.cond (t 9) .skip (.exit 0)) (qS (.block 1 (qS (gR T0W) (qS (gR T0X) (.cond (t 16) (qS (gR T0Y) .ret) .skip)))) (gR c1u))))))) (qS (gR T0Z) .ret)))⟩
def U0a:SS:=[o 2 (.alloc a0b zR)]
def U0b:SS:=[mV 3 0,cA 4 k0w [t 3],cA 5 u0D [],o 6 (.build zR [(0,2,t 4),(2,2,t 5)]),sT 4 2 6]
def e1U:SF:=⟨1,7,[.cell 2 true 4],
 (qS (gR U0a) (qS (gR U0b) .ret))⟩
def U0c:SS:=[mN 2]
def U0d:SS:=[mI 3 0]
def U0e:SS:=[mV 9 0,lN 10 9,mI 11 0]
def c1v:SS:=[o 12 (bT .lss 11 10)]
def U0f:SS:=[iA 13 1 9 11,lD 14 13,mV 5 14]
def U0g:SS:=[mV 15 3,mV 16 5,lN 17 16,o 18 (bT .add 15 17),mV 3 18]
def U0h:SS:=[mV 19 3,o 20 (bI .lss 19 0)]
def c1w:SS:=[o 21 (.iface w0L (.const (.string ⟨#[108,101,110,32,111,117,116,32,111,102,32,114,97,110,103,101]⟩))),⟨none,none,.pan (t 21)⟩]
def c1x:SS:=[o 22 (bI .add 11 1),mV 11 22]
def U0i:SS:=[mV 23 3,o 24 (.call B0r [(.const (.slice none 0 0)),t 23] true),mV 6 24]
def J0l:SS:=[mV 25 0,lN 26 25,mI 27 0]
def Y0p:SS:=[o 28 (bT .lss 27 26)]
def J0m:SS:=[iA 29 1 25 27,lD 30 29,mV 8 30]
def J0n:SS:=[mV 31 6,mV 32 8,o 33 (.app a0a 2 32 (t 31) (t 32)),mV 6 33]
def Y0q:SS:=[o 34 (bI .add 27 1),mV 27 34]
def J0o:SS:=[mV 35 6,mV 2 35]
def e1V:SF:=⟨1,36,[.tmp 2],
 (qS (gR U0c) (qS (gR U0d) (qS (qS (gR U0e) (.block 0 (.loop (qS (gR c1v) (qS (.cond (t 12) .skip (.exit 0)) (qS (.block 1 (qS (gR U0f) (qS (gR U0g) (qS (gR U0h) (.cond (t 20) (gR c1w) .skip))))) (gR c1x))))))) (qS (gR U0i) (qS (qS (gR J0l) (.block 2 (.loop (qS (gR Y0p) (qS (.cond (t 28) .skip (.exit 2)) (qS (.block 3 (qS (gR J0m) (gR J0n))) (gR Y0q))))))) (qS (gR J0o) .ret))))))⟩
def U0j:SS:=[bX 1 a0a 0,o 2 (.alloc a0b zR)]
def U0k:SS:=[lA 3 2 1,o 4 (.build zI []),cA 5 B0L [t 3,t 4],cA 6 k0w [i 1],o 7 (.build zR [(0,2,t 5),(2,2,t 6)]),sT 4 2 7]
def e1W:SF:=⟨1,8,[.cell 2 true 4],
 (qS (gR U0j) (qS (gR U0k) .ret))⟩
def U0l:SS:=[bX 1 a0a 0,o 2 (.alloc a0a zI)]
def U0m:SS:=[lA 3 2 1,cB 4 e0t [t 3],nT 5 4,lA 6 2 1,cA 7 g0i [t 6],cA 8 g0W [t 5,t 7],sT 2 2 8]
def e1X:SF:=⟨1,9,[.cell 2 true 2],
 (qS (gR U0l) (qS (.draw U0m [0,1,3,0,11,31,63] []) .ret))⟩
def U0n:SS:=[bX 2 a0b 0,bX 3 a0b 1,o 4 (.alloc a0b zR)]
def U0o:SS:=[lA 5 4 2,cB 6 B0K [t 5],lA 7 4 3,cA 8 B0K [t 7],sT 4 2 6,sT 4 3 8]
def U0p:SS:=[fA 9 0 2,lA 10 2 9,fA 11 0 3,lA 12 2 11,cB 13 s0G [t 10,t 12],fA 14 2 2,lA 15 2 14,fA 16 2 3,lA 17 2 16,cA 18 s0G [t 15,t 17],cA 19 Z0p [t 13,t 18],sT 4 4 19]
def e1Y:SF:=⟨2,20,[.cell 4 true 4],
 (qS (gR U0n) (qS (.draw U0o [0,1,0,7,15,31] []) (qS (.draw U0p [0,1,0,4,15,0,32,0,128,511,1023,2047] []) .ret)))⟩
def U0q:SS:=[mB 4 false]
def U0r:SS:=[mV 5 0,mV 6 1,cA 7 B0s [t 5,t 6],o 8 (bI .geq 7 0),mV 4 8]
def e1Z:SF:=⟨2,9,[.tmp 4],
 (qS (gR U0q) (qS (gR U0r) .ret))⟩
def U0s:SS:=[mB 3 false]
def U0t:SS:=[mV 4 0,lN 5 4,fA 6 0 1,lD 7 6,o 8 (bT .neq 5 7),mV 3 8]
def f1a:SF:=⟨2,9,[.tmp 3],
 (qS (gR U0s) (qS (gR U0t) .ret))⟩
def U0u:SS:=[bX 1 b0M 0,o 2 (.alloc a0Q [.int .i64 0,.slice none 0 0,.slice none 0 0,.slice none 0 0,.bool false,.slice none 0 0,.bool false,.slice none 0 0])]
def U0v:SS:=[fA 8 0 1,lD 9 8,o 10 (.build [.int .i64 0,.slice none 0 0,.slice none 0 0,.slice none 0 0,.bool false,.slice none 0 0,.bool false,.slice none 0 0] [(0,1,t 9)]),o 3 (.alloc a0Q [.int .i64 0,.slice none 0 0,.slice none 0 0,.slice none 0 0,.bool false,.slice none 0 0,.bool false,.slice none 0 0]),sT 8 3 10]
def U0w:SS:=[fA 11 1 1,lD 12 11,lN 13 12,mI 14 0]
def c1A:SS:=[o 15 (bT .lss 14 13)]
def U0x:SS:=[mV 16 14,iA 17 1 12 14,lD 18 17,mV 4 16,mV 5 18]
def U0y:SS:=[mV 20 5,cB 21 z0n [t 20],fA 22 2 1,lD 23 22,mV 24 4,iA 25 4 23 24,lA 26 4 25,o 27 (.build zR []),cB 28 u0c [t 26,t 27],o 29 (.lit a0b zR 1 [(0,4,t 28)]),o 30 (.app a0b 4 64 (t 21) (t 29)),cB 31 z0m [t 30],mV 19 31,eX 32 19 0,eX 33 19 1,o 7 (.alloc a0b zR),mV 6 32,sT 4 7 33]
def U0z:SS:=[fA 34 1 3,lD 35 34,mV 36 6,o 37 (.lit b0i [.slice none 0 0] 1 [(0,1,t 36)]),o 38 (.app b0i 1 24 (t 35) (t 37)),fA 39 2 3,lD 40 39,lA 41 4 7,o 42 (.lit a0b zR 1 [(0,4,t 41)]),o 43 (.app a0b 4 64 (t 40) (t 42)),fA 44 1 3,sT 1 44 38,fA 45 2 3,sT 1 45 43]
def c1B:SS:=[o 46 (bI .add 14 1),mV 14 46]
def U0A:SS:=[fA 48 3 1,lD 49 48,cA 50 z0n [t 49],cA 51 z0m [t 50],mV 47 51,eX 52 47 0,eX 53 47 1,fA 54 3 3,sT 1 54 52,fA 55 4 3,sT 4 55 53]
def U0B:SS:=[lA 56 8 3,sT 8 2 56]
def f1b:SF:=⟨1,57,[.cell 2 true 8],
 (qS (gR U0u) (qS (gR U0v) (qS (qS (gR U0w) (.block 0 (.loop (qS (gR c1A) (qS (.cond (t 15) .skip (.exit 0)) (qS (.block 1 (qS (gR U0x) (qS (.draw U0y [0,1,0,4,0,28,60,0,255,511,1023,2047,4095,8191,8191,0,49151,131071] [(10,15)]) (.draw U0z [0,1,0,4,15,0,32,0,128,511,127,2047,4095,8191] [(4,6),(4,7),(4,8)])))) (gR c1B))))))) (qS (gR U0A) (qS (gR U0B) .ret)))))⟩
def U0C:SS:=[bX 1 a0b 0,o 2 (.alloc a0b zR)]
def U0D:SS:=[lA 3 4 1,cA 4 z0o [t 3],mV 5 4,gF 6 5 (aS 4 1),gF 7 5 (.call u0C [t 6] true),gF 8 5 (.un .not (t 7)),pT 9 5 8]
def J0p:SS:=[cA 10 u0D [],o 11 (.build zR [(2,2,t 10)]),sT 4 2 11]
def U0E:SS:=[fA 12 0 1,lA 13 2 12,o 14 (.build zI []),cB 15 B0L [t 13,t 14],fA 16 2 1,lA 17 2 16,o 18 (.build zI []),cA 19 B0L [t 17,t 18],o 20 (.build zR [(0,2,t 15),(2,2,t 19)]),sT 4 2 20]
def f1c:SF:=⟨1,21,[.cell 2 true 4],
 (qS (gR U0C) (qS (qS (gR U0D) (.cond (t 9) (qS (gR J0p) .ret) .skip)) (qS (.draw U0E [0,1,0,7,0,16,0,127,255,511] []) .ret)))⟩
def U0F:SS:=[bX 2 a0a 0,bX 3 a0a 1,o 4 (.alloc a0b zR)]
def U0G:SS:=[lA 8 2 2,lA 9 2 3,cA 10 q0t [t 8,t 9],mV 7 10,eX 11 7 0,eX 12 7 1,o 5 (.alloc a0b zR),sT 4 5 11,mV 6 12]
def U0H:SS:=[lA 13 4 5,sT 4 4 13]
def f1d:SF:=⟨2,14,[.cell 4 true 4],
 (qS (gR U0F) (qS (gR U0G) (qS (gR U0H) .ret)))⟩
def U0I:SS:=[bX 4 a0a 1,o 6 (.alloc a0a zI)]
def U0J:SS:=[mV 9 2,lN 10 9,mI 11 0]
def J0q:SS:=[o 12 (bT .lss 11 10)]
def U0K:SS:=[iA 13 2 9 11,lA 14 2 13,o 8 (.alloc a0a zI),sT 2 8 14]
def U0L:SS:=[mV 15 0,lA 16 2 4,lA 17 2 8,o 18 (.callv (t 15) [t 16,t 17] true),sT 2 4 18]
def U0M:SS:=[o 19 (bI .add 11 1),mV 11 19]
def U0N:SS:=[lA 20 2 4,sT 2 6 20]
def f1e:SF:=⟨3,21,[.cell 6 true 2],
 (qS (gR U0I) (qS (qS (gR U0J) (.block 0 (.loop (qS (gR J0q) (qS (.cond (t 12) .skip (.exit 0)) (qS (.block 1 (qS (gR U0K) (gR U0L))) (gR U0M))))))) (qS (gR U0N) .ret)))⟩
def U0O:SS:=[bX 2 a0a 0,bX 3 a0a 1,o 4 (.alloc a0a zI)]
def U0P:SS:=[lA 7 2 2,cB 8 g0i [t 7],lA 9 2 3,cA 10 g0i [t 9],mV 5 8,mV 6 10]
def U0Q:SS:=[lA 12 2 2,cB 13 e0t [t 12],lA 14 2 3,cA 15 e0t [t 14],o 16 (.bin 1 .eql (t 13) (t 15)),mV 11 16]
def U0R:SS:=[lA 17 2 2,cA 18 e0t [t 17],mV 19 5,mV 20 6,cA 21 B0t [t 19,t 20],cA 22 g0W [t 18,t 21],sT 2 4 22]
def U0S:SS:=[mV 24 5,mV 25 6,cA 26 s0z [t 24,t 25],o 27 (bI .geq 26 0),mV 23 27]
def U0T:SS:=[lA 28 2 2,cA 29 e0t [t 28],mV 30 5,mV 31 6,cA 32 z0p [t 30,t 31],cA 33 g0W [t 29,t 32],sT 2 4 33]
def U0U:SS:=[lA 34 2 3,cA 35 e0t [t 34],mV 36 6,mV 37 5,cA 38 z0p [t 36,t 37],cA 39 g0W [t 35,t 38],sT 2 4 39]
def f1f:SF:=⟨2,40,[.cell 4 true 2],
 (qS (gR U0O) (qS (.draw U0P [0,1,0,7,15,31] []) (qS (.block 0 (qS (.draw U0Q [0,1,0,7,15,31] []) (.cond (t 11) (qS (gR U0R) .ret) (qS (gR U0S) (.cond (t 23) (qS (gR U0T) .ret) .skip))))) (qS (gR U0U) .ret))))⟩
def U0V:SS:=[bX 2 a0a 0,bX 3 a0a 1,o 4 (.alloc a0a zI)]
def U0W:SS:=[lA 13 2 2,cB 14 g0i [t 13],lA 15 2 3,cA 16 g0i [t 15],mV 5 14,mV 6 16]
def U0X:SS:=[mV 17 5,lN 18 17,mV 19 6,lN 20 19,o 21 (bT .add 18 20),o 22 (.mk a0l 4 [.int .u32 0] (t 21) (t 21)),mV 7 22]
def U0Y:SS:=[mV 23 5,lN 24 23,mI 25 0]
def J0y:SS:=[o 26 (bT .lss 25 24)]
def U0Z:SS:=[mV 27 25,iA 28 1 23 25,lD 29 28,mV 8 27,mV 9 29]
def V0a:SS:=[o 10 (.mv (.const (.int .u64 0)))]
def V0b:SS:=[mV 30 6,lN 31 30,mI 32 0]
def J0z:SS:=[o 33 (bT .lss 32 31)]
def V0c:SS:=[mV 34 32,iA 35 1 30 32,lD 36 35,mV 11 34,mV 12 36]
def J0r:SS:=[mV 37 10,mV 38 9,cV 39 .u64 38,mV 40 12,cV 41 .u64 40,o 42 (bT .mul 39 41),mV 43 7,mV 44 8,mV 45 11,o 46 (bT .add 44 45),iA 47 1 43 46,lD 48 47,cV 49 .u64 48,o 50 (bT .add 42 49),o 51 (bT .add 37 50),mV 10 51]
def J0s:SS:=[mV 52 7,mV 53 8,mV 54 11,o 55 (bT .add 53 54),mV 56 10,cA 57 g0j [t 56],iA 58 1 52 55,sT 1 58 57]
def J0t:SS:=[mV 59 10,o 60 (.bin 0 .shr (t 59) (.const (.int .u64 32))),mV 10 60]
def J0u:SS:=[o 61 (bI .add 32 1),mV 32 61]
def J0v:SS:=[mV 62 7,mV 63 8,mV 64 6,lN 65 64,o 66 (bT .add 63 65),mV 67 10,cA 68 g0j [t 67],iA 69 1 62 66,sT 1 69 68]
def J0w:SS:=[o 70 (bI .add 25 1),mV 25 70]
def J0x:SS:=[lA 71 2 2,cB 72 e0t [t 71],lA 73 2 3,cA 74 e0t [t 73],o 75 (.bin 1 .neq (t 72) (t 74)),mV 76 7,cA 77 g0W [t 75,t 76],sT 2 4 77]
def f1g:SF:=⟨2,78,[.cell 4 true 2],
 (qS (gR U0V) (qS (.draw U0W [0,1,0,7,15,31] []) (qS (gR U0X) (qS (qS (gR U0Y) (.block 0 (.loop (qS (gR J0y) (qS (.cond (t 26) .skip (.exit 0)) (qS (.block 1 (qS (gR U0Z) (qS (gR V0a) (qS (qS (gR V0b) (.block 2 (.loop (qS (gR J0z) (qS (.cond (t 33) .skip (.exit 2)) (qS (.block 3 (qS (gR V0c) (qS (gR J0r) (qS (gR J0s) (gR J0t))))) (gR J0u))))))) (gR J0v))))) (gR J0w))))))) (qS (.draw J0x [0,1,0,7,15,0,63,127] []) .ret)))))⟩
def V0d:SS:=[bX 1 a0Z 0,mB 2 false]
def t0F:SS:=[fA 3 0 1,lD 4 3,o 5 (bI .eql 4 0)]
def V0e:SS:=[fA 6 1 1,lA 7 4 6,cA 8 Z0q [t 7],mV 2 8]
def y0C:SS:=[fA 9 0 1,lD 10 9,o 11 (bI .eql 10 1),mV 12 11,gF 13 12 (fS 0 1),gF 14 12 (lS 13),gF 15 12 (.bin 0 .eql (t 14) (.const (.int .i64 (-1)))),pT 16 12 15,mV 17 16,gT 18 17 (fS 1 1),gT 19 17 (aS 4 18),gT 20 17 (.call B0u [t 19] true),pF 21 17 20,mV 2 21]
def f1h:SF:=⟨1,22,[.tmp 2],
 (qS (gR V0d) (qS (qS (gR t0F) (.cond (t 5) (qS (gR V0e) .ret) .skip)) (qS (gR y0C) .ret)))⟩
def V0f:SS:=[bX 2 a0a 0,bX 3 a0a 1,mI 4 0]
def V0g:SS:=[lA 6 2 2,lA 7 2 3,cA 8 B0v [t 6,t 7],o 5 (.alloc a0a zI),sT 2 5 8]
def y0D:SS:=[fA 9 1 5,lD 10 9,lN 11 10,o 12 (bI .eql 11 0)]
def V0h:SS:=[mI 4 0]
def J0A:SS:=[fA 13 0 5,lD 14 13]
def V0i:SS:=[o 4 (.mv (.const (.int .i64 (-1))))]
def V0j:SS:=[mI 4 1]
def f1i:SF:=⟨2,15,[.tmp 4],
 (qS (gR V0f) (qS (gR V0g) (qS (qS (gR y0D) (.cond (t 12) (qS (gR V0h) .ret) .skip)) (qS (qS (gR J0A) (.cond (t 14) (qS (gR V0i) .ret) .skip)) (qS (gR V0j) .ret)))))⟩
def V0k:SS:=[mN 4]
def V0l:SS:=[mN 5]
def V0m:SS:=[o 6 (.mv (.const (.int .u64 0)))]
def V0n:SS:=[mI 7 0]
def p0Q:SS:=[mV 9 7,mV 10 0,lN 11 10,o 12 (bT .lss 9 11),mV 13 12,gF 14 13 (mS 7),gF 15 13 (mS 1),gF 16 13 (nS 15),gF 17 13 (bT .lss 14 16),pT 18 13 17,mV 19 18,gF 20 19 (mS 6),gF 21 19 (.bin 0 .gtr (t 20) (.const (.int .u64 0))),pT 22 19 21]
def t0G:SS:=[mV 25 6,mV 8 25]
def t0H:SS:=[mV 26 7,mV 27 0,lN 28 27,o 29 (bT .lss 26 28)]
def t0I:SS:=[mV 30 8,mV 31 0,mV 32 7,iA 33 1 31 32,lD 34 33,cV 35 .u64 34,o 36 (bT .add 30 35),mV 8 36]
def t0J:SS:=[mV 37 7,mV 38 1,lN 39 38,o 40 (bT .lss 37 39)]
def t0K:SS:=[mV 41 8,mV 42 1,mV 43 7,iA 44 1 42 43,lD 45 44,cV 46 .u64 45,o 47 (bT .add 41 46),mV 8 47]
def n0D:SS:=[mV 48 5,mV 49 8,cV 50 .u32 49,o 51 (.lit a0l [.int .u32 0] 1 [(0,1,t 50)]),o 52 (.app a0l 1 4 (t 48) (t 51)),mV 5 52]
def n0E:SS:=[mV 53 8,o 54 (.bin 0 .shr (t 53) (.const (.int .u64 32))),mV 6 54]
def n0F:SS:=[mV 23 7,o 24 (bI .add 23 1),mV 7 24]
def J0B:SS:=[mV 55 5,cA 56 B0J [t 55],mV 4 56]
def f1j:SF:=⟨2,57,[.tmp 4],
 (qS (gR V0k) (qS (gR V0l) (qS (gR V0m) (qS (qS (gR V0n) (.block 0 (.loop (qS (qS (gR p0Q) (.cond (t 22) .skip (.exit 0))) (qS (.block 1 (qS (gR t0G) (qS (qS (gR t0H) (.cond (t 29) (gR t0I) .skip)) (qS (qS (gR t0J) (.cond (t 40) (gR t0K) .skip)) (qS (gR n0D) (gR n0E)))))) (gR n0F)))))) (qS (gR J0B) .ret)))))⟩
def y0E:SS:=[mI 4 0]
def y0F:SS:=[mV 6 0,lN 7 6,mV 8 1,lN 9 8,o 10 (bT .neq 7 9)]
def J0F:SS:=[mV 11 0,lN 12 11,mV 13 1,lN 14 13,o 15 (bT .lss 12 14)]
def V0o:SS:=[o 4 (.mv (.const (.int .i64 (-1))))]
def V0p:SS:=[mI 4 1]
def V0q:SS:=[mV 16 0,lN 17 16,o 18 (bI .sub 17 1),mV 5 18]
def J0G:SS:=[mV 19 5,o 20 (bI .geq 19 0)]
def V0r:SS:=[mV 23 0,mV 24 5,iA 25 1 23 24,lD 26 25,mV 27 1,mV 28 5,iA 29 1 27 28,lD 30 29,o 31 (bT .lss 26 30)]
def V0s:SS:=[o 4 (.mv (.const (.int .i64 (-1))))]
def V0t:SS:=[mV 32 0,mV 33 5,iA 34 1 32 33,lD 35 34,mV 36 1,mV 37 5,iA 38 1 36 37,lD 39 38,o 40 (bT .gtr 35 39)]
def J0C:SS:=[mI 4 1]
def J0D:SS:=[mV 21 5,o 22 (bI .sub 21 1),mV 5 22]
def J0E:SS:=[mI 4 0]
def Z0C:SF:=⟨2,41,[.tmp 4],
 (qS (gR y0E) (qS (qS (gR y0F) (.cond (t 10) (qS (qS (gR J0F) (.cond (t 15) (qS (gR V0o) .ret) .skip)) (qS (gR V0p) .ret)) .skip)) (qS (qS (gR V0q) (.block 0 (.loop (qS (qS (gR J0G) (.cond (t 20) .skip (.exit 0))) (qS (.block 1 (qS (qS (.draw V0r [0,0,3,7,0,0,48,112,255] []) (.cond (t 31) (qS (gR V0s) .ret) .skip)) (qS (.draw V0t [0,0,3,7,0,0,48,112,255] []) (.cond (t 40) (qS (gR J0C) .ret) .skip)))) (gR J0D)))))) (qS (gR J0E) .ret))))⟩
def V0u:SS:=[mN 4]
def V0v:SS:=[o 9 (.lit a0l [.int .u32 0] 0 []),mV 10 0,o 11 (.app a0l 1 4 (t 9) (t 10)),mV 5 11]
def V0w:SS:=[o 6 (.mv (.const (.int .u64 0)))]
def V0x:SS:=[mI 7 0]
def V0y:SS:=[mV 12 7,mV 13 5,lN 14 13,o 15 (bT .lss 12 14)]
def J0I:SS:=[mV 18 6,mV 8 18]
def J0J:SS:=[mV 19 7,mV 20 1,lN 21 20,o 22 (bT .lss 19 21)]
def V0z:SS:=[mV 23 8,mV 24 1,mV 25 7,iA 26 1 24 25,lD 27 26,cV 28 .u64 27,o 29 (bT .add 23 28),mV 8 29]
def t0L:SS:=[mV 30 5,mV 31 7,iA 32 1 30 31,lD 33 32,cV 34 .u64 33,mV 35 8,o 36 (bT .geq 34 35)]
def J0K:SS:=[mV 37 5,mV 38 7,mV 39 5,mV 40 7,iA 41 1 39 40,lD 42 41,cV 43 .u64 42,mV 44 8,o 45 (bT .sub 43 44),cV 46 .u32 45,iA 47 1 37 38,sT 1 47 46]
def w0s:SS:=[o 6 (.mv (.const (.int .u64 0)))]
def w0t:SS:=[mV 48 5,mV 49 7,mV 50 5,mV 51 7,iA 52 1 50 51,lD 53 52,cV 54 .u64 53,o 55 (.bin 0 .add (t 54) (.const (.int .u64 4294967296))),mV 56 8,o 57 (bT .sub 55 56),cV 58 .u32 57,iA 59 1 48 49,sT 1 59 58]
def w0u:SS:=[o 6 (.mv (.const (.int .u64 1)))]
def n0G:SS:=[mV 16 7,o 17 (bI .add 16 1),mV 7 17]
def J0H:SS:=[mV 60 5,cA 61 B0J [t 60],mV 4 61]
def f1k:SF:=⟨2,62,[.tmp 4],
 (qS (gR V0u) (qS (gR V0v) (qS (gR V0w) (qS (qS (gR V0x) (.block 0 (.loop (qS (qS (gR V0y) (.cond (t 15) .skip (.exit 0))) (qS (.block 1 (qS (gR J0I) (qS (qS (gR J0J) (.cond (t 22) (gR V0z) .skip)) (qS (gR t0L) (.cond (t 36) (qS (gR J0K) (gR w0s)) (qS (gR w0t) (gR w0u))))))) (gR n0G)))))) (qS (gR J0H) .ret)))))⟩
def V0A:SS:=[mN 4]
def V0B:SS:=[mV 10 0,lN 11 10,mV 12 1,lN 13 12,o 14 (bT .add 11 13),o 15 (.mk a0l 4 [.int .u32 0] (t 14) (t 14)),mV 5 15]
def V0C:SS:=[mI 6 0]
def V0D:SS:=[mV 16 6,mV 17 0,lN 18 17,o 19 (bT .lss 16 18)]
def V0E:SS:=[o 7 (.mv (.const (.int .u64 0)))]
def V0F:SS:=[mI 8 0]
def V0G:SS:=[mV 22 8,mV 23 1,lN 24 23,o 25 (bT .lss 22 24)]
def V0H:SS:=[mV 28 0,mV 29 6,iA 30 1 28 29,lD 31 30,cV 32 .u64 31,mV 33 1,mV 34 8,iA 35 1 33 34,lD 36 35,cV 37 .u64 36,o 38 (bT .mul 32 37),mV 39 5,mV 40 6,mV 41 8,o 42 (bT .add 40 41),iA 43 1 39 42,lD 44 43,cV 45 .u64 44,o 46 (bT .add 38 45),mV 47 7,o 48 (bT .add 46 47),mV 9 48]
def V0I:SS:=[mV 49 5,mV 50 6,mV 51 8,o 52 (bT .add 50 51),mV 53 9,cV 54 .u32 53,iA 55 1 49 52,sT 1 55 54]
def V0J:SS:=[mV 56 9,o 57 (.bin 0 .shr (t 56) (.const (.int .u64 32))),mV 7 57]
def J0L:SS:=[mV 26 8,o 27 (bI .add 26 1),mV 8 27]
def J0M:SS:=[mV 58 5,mV 59 6,mV 60 1,lN 61 60,o 62 (bT .add 59 61),mV 63 7,cV 64 .u32 63,iA 65 1 58 62,sT 1 65 64]
def J0N:SS:=[mV 20 6,o 21 (bI .add 20 1),mV 6 21]
def J0O:SS:=[mV 66 5,cA 67 B0J [t 66],mV 4 67]
def f1l:SF:=⟨2,68,[.tmp 4],
 (qS (gR V0A) (qS (gR V0B) (qS (qS (gR V0C) (.block 0 (.loop (qS (qS (gR V0D) (.cond (t 19) .skip (.exit 0))) (qS (.block 1 (qS (gR V0E) (qS (qS (gR V0F) (.block 2 (.loop (qS (qS (gR V0G) (.cond (t 25) .skip (.exit 2))) (qS (.block 3 (qS (.draw V0H [0,0,3,7,15,0,0,96,224,480,1023,0,0,0,12288,30720,63488,129024,262143,0,1048575,2097151] []) (qS (gR V0I) (gR V0J)))) (gR J0L)))))) (gR J0M)))) (gR J0N)))))) (qS (gR J0O) .ret))))⟩
def V0K:SS:=[bX 1 a0b 0,mB 2 false]
def y0G:SS:=[fA 4 2 1,fA 5 1 4,lD 6 5,lN 7 6,o 8 (bI .eql 7 0),mV 9 8,gT 10 9 (fS 2 1),gT 11 9 (fS 0 10),gT 12 9 (lS 11),gT 13 9 (.un .not (t 12)),pF 14 9 13]
def J0P:SS:=[fA 15 0 1,fA 16 1 15,lD 17 16,lN 18 17,o 19 (bI .eql 18 0),mV 20 19,gT 21 20 (fS 0 1),gT 22 20 (fS 0 21),gT 23 20 (lS 22),gT 24 20 (.un .not (t 23)),pF 25 20 24,mV 2 25]
def J0Q:SS:=[fA 26 0 1,lA 27 2 26,fA 28 2 1,lA 29 2 28,cA 30 Z0l [t 27,t 29],o 3 (.alloc a0a zI),sT 2 3 30]
def J0R:SS:=[fA 31 0 1,lA 32 2 31,cA 33 X0k [t 32],mV 34 33,gT 35 34 (fS 2 1),gT 36 34 (aS 2 35),gT 37 34 (.call X0k [t 36] true),pF 38 34 37,mV 39 38,gT 40 39 (fS 2 1),gT 41 39 (fS 0 40),gT 42 39 (lS 41),gT 43 39 (.un .not (t 42)),pF 44 39 43,mV 45 44,gT 46 45 (fS 1 3),gT 47 45 (lS 46),gT 48 45 (nS 47),gT 49 45 (bI .eql 48 1),pF 50 45 49,mV 51 50,gT 52 51 (fS 1 3),gT 53 51 (lS 52),gT 54 51 (.ia 1 (t 53) (i 0)),gT 55 51 (lS 54),gT 56 51 (.bin 0 .eql (t 55) (.const (.int .u32 1))),pF 57 51 56,mV 2 57]
def f1m:SF:=⟨1,58,[.tmp 2],
 (qS (gR V0K) (qS (qS (gR y0G) (.cond (t 14) (qS (gR J0P) .ret) .skip)) (qS (gR J0Q) (qS (gR J0R) .ret))))⟩
def V0L:SS:=[bX 1 a0a 0,mB 2 false]
def V0M:SS:=[fA 4 1 1,lD 5 4,lN 6 5,mV 3 6]
def J0S:SS:=[mV 7 3,o 8 (bI .eql 7 0),mV 9 8,gT 10 9 (fS 0 1),gT 11 9 (lS 10),gT 12 9 (.un .not (t 11)),pF 13 9 12,mV 14 13,gF 15 14 (mS 3),gF 16 14 (bI .gtr 15 0),gF 17 14 (mS 16),gT 18 17 (fS 1 1),gT 19 17 (lS 18),gT 20 17 (mS 3),gT 21 17 (bI .sub 20 1),gT 22 17 (iS 1 19 21),gT 23 17 (lS 22),gT 24 17 (.bin 0 .neq (t 23) (.const (.int .u32 0))),gF 25 14 (.pick (t 17) (t 24) (.const (.bool false))),pT 26 14 25,mV 2 26]
def f1n:SF:=⟨1,27,[.tmp 2],
 (qS (gR V0L) (qS (gR V0M) (qS (gR J0S) .ret)))⟩
def V0N:SS:=[mN 4,mN 5]
def V0O:SS:=[mV 10 0,mV 11 1,cA 12 X0j [t 10,t 11],o 13 (bI .lss 12 0)]
def V0P:SS:=[mV 14 0,mN 4,mV 5 14]
def V0Q:SS:=[mV 15 0,lN 16 15,o 17 (.mk a0l 4 [.int .u32 0] (t 16) (t 16)),mV 6 17]
def V0R:SS:=[mN 7]
def V0S:SS:=[mV 18 0,lN 19 18,o 20 (bI .sub 19 1),mV 8 20]
def J0Y:SS:=[mV 21 8,o 22 (bI .geq 21 0)]
def V0T:SS:=[mI 9 31]
def J0Z:SS:=[mV 25 9,o 26 (bI .geq 25 0)]
def V0U:SS:=[mV 29 7,mV 30 0,mV 31 8,iA 32 1 30 31,lD 33 32,mV 34 9,cV 35 .u64 34,o 36 (bT .shr 33 35),o 37 (.bin 0 .and (t 36) (.const (.int .u32 1))),o 38 (.bin 0 .eql (t 37) (.const (.int .u32 1))),cA 39 B0w [t 29,t 38],mV 7 39]
def J0T:SS:=[mV 40 7,mV 41 1,cA 42 X0j [t 40,t 41],o 43 (bI .geq 42 0)]
def J0U:SS:=[mV 44 7,mV 45 1,cA 46 O0c [t 44,t 45],mV 7 46]
def J0V:SS:=[mV 47 6,mV 48 8,mV 49 6,mV 50 8,iA 51 1 49 50,lD 52 51,mV 53 9,cV 54 .u64 53,o 55 (.bin 0 .shl (.const (.int .u32 1)) (t 54)),o 56 (bT .or 52 55),iA 57 1 47 48,sT 1 57 56]
def w0v:SS:=[mV 27 9,o 28 (bI .sub 27 1),mV 9 28]
def J0W:SS:=[mV 23 8,o 24 (bI .sub 23 1),mV 8 24]
def J0X:SS:=[mV 58 6,cA 59 B0J [t 58],mV 60 7,mV 4 59,mV 5 60]
def f1o:SF:=⟨2,61,[.tmp 4,.tmp 5],
 (qS (gR V0N) (qS (qS (gR V0O) (.cond (t 13) (qS (gR V0P) .ret) .skip)) (qS (gR V0Q) (qS (gR V0R) (qS (qS (gR V0S) (.block 0 (.loop (qS (qS (gR J0Y) (.cond (t 22) .skip (.exit 0))) (qS (.block 1 (qS (gR V0T) (.block 2 (.loop (qS (qS (gR J0Z) (.cond (t 26) .skip (.exit 2))) (qS (.block 3 (qS (gR V0U) (qS (gR J0T) (.cond (t 43) (qS (gR J0U) (gR J0V)) .skip)))) (gR w0v))))))) (gR J0W)))))) (qS (gR J0X) .ret))))))⟩
def D0b:SS:=[bX 1 a0b 0,mB 2 false]
def D0c:SS:=[lA 3 4 1,cA 4 z0o [t 3]]
def D0d:SS:=[mB 2 true]
def D0e:SS:=[fA 5 0 1,lA 6 2 5,cA 7 s0A [t 6],mV 8 7,gT 9 8 (fS 2 1),gT 10 8 (aS 2 9),gT 11 8 (.call s0A [t 10] true),pF 12 8 11,mV 13 12,gT 14 13 (fS 2 1),gT 15 13 (fS 0 14),gT 16 13 (lS 15),gT 17 13 (.un .not (t 16)),pF 18 13 17,mV 19 18,gT 20 19 (fS 2 1),gT 21 19 (aS 2 20),gT 22 19 (.call z0q [t 21] true),gT 23 19 (.un .not (t 22)),pF 24 19 23,mV 25 24,gT 26 25 (fS 0 1),gT 27 25 (aS 2 26),gT 28 25 (fS 2 1),gT 29 25 (aS 2 28),gT 30 25 (.call s0B [t 27,t 29] true),gT 31 25 (.call u0D [] true),gT 32 25 (.call o0k [t 30,t 31] true),gT 33 25 (bI .eql 32 0),pF 34 25 33,mV 2 34]
def M0s:SF:=⟨1,35,[.tmp 2],
 (qS (gR D0b) (qS (qS (gR D0c) (.cond (t 4) (qS (gR D0d) .ret) .skip)) (qS (gR D0e) .ret)))⟩
def D0f:SS:=[bX 1 a0b 0,mB 2 false]
def n0z:SS:=[fA 3 0 1,fA 4 0 3,lD 5 4,nT 6 5,mV 7 6,gT 8 7 (fS 0 1),gT 9 7 (fS 1 8),gT 10 7 (lS 9),gT 11 7 (nS 10),gT 12 7 (bI .eql 11 0),pF 13 7 12,mV 14 13,gT 15 14 (fS 2 1),gT 16 14 (fS 0 15),gT 17 14 (lS 16),gT 18 14 (.un .not (t 17)),pF 19 14 18,mV 20 19,gT 21 20 (fS 2 1),gT 22 20 (fS 1 21),gT 23 20 (lS 22),gT 24 20 (nS 23),gT 25 20 (bI .eql 24 0),pF 26 20 25,mV 2 26]
def M0t:SF:=⟨1,27,[.tmp 2],
 (qS (gR D0f) (qS (gR n0z) .ret))⟩
def D0g:SS:=[mI 4 0]
def D0h:SS:=[mV 6 0,lN 7 6,mI 8 0]
def X0G:SS:=[o 9 (bT .lss 8 7)]
def D0i:SS:=[mV 10 8,mV 5 10]
def D0j:SS:=[mV 11 1,mV 12 0,mV 13 5,iA 14 4 12 13,lA 15 4 14,o 16 (.callv (t 11) [t 15] true)]
def D0k:SS:=[mV 17 5,mV 4 17]
def X0H:SS:=[o 18 (bI .add 8 1),mV 8 18]
def D0l:SS:=[o 4 (.mv (.const (.int .i64 (-1))))]
def M0u:SF:=⟨2,19,[.tmp 4],
 (qS (gR D0g) (qS (qS (gR D0h) (.block 0 (.loop (qS (gR X0G) (qS (.cond (t 9) .skip (.exit 0)) (qS (.block 1 (qS (gR D0i) (qS (gR D0j) (.cond (t 16) (qS (gR D0k) .ret) .skip)))) (gR X0H))))))) (qS (gR D0l) .ret)))⟩
def D0m:SS:=[o 2 (.alloc a0a zI)]
def D0n:SS:=[mV 4 0,cV 5 .u64 4,mV 3 5]
def D0o:SS:=[mV 6 0,o 7 (bI .lss 6 0)]
def D0p:SS:=[mV 8 3,o 9 (.un .neg (t 8)),mV 3 9]
def D0q:SS:=[mV 10 0,o 11 (bI .lss 10 0),mV 12 3,cA 13 g0j [t 12],mV 14 3,o 15 (.bin 0 .shr (t 14) (.const (.int .u64 32))),cA 16 g0j [t 15],o 17 (.lit a0l [.int .u32 0] 2 [(0,1,t 13),(1,1,t 16)]),cA 18 g0W [t 11,t 17],sT 2 2 18]
def M0v:SF:=⟨1,19,[.cell 2 true 2],
 (qS (gR D0m) (qS (gR D0n) (qS (qS (gR D0o) (.cond (t 7) (gR D0p) .skip)) (qS (gR D0q) .ret))))⟩
def D0r:SS:=[o 0 (.alloc a0a zI)]
def D0s:SS:=[cA 1 k0w [i 1],sT 2 0 1]
def M0w:SF:=⟨0,2,[.cell 0 true 2],
 (qS (gR D0r) (qS (gR D0s) .ret))⟩
def D0t:SS:=[mN 4]
def D0u:SS:=[mV 5 1,o 6 (bI .lss 5 0)]
def X0I:SS:=[o 7 (.iface w0L (.const (.string ⟨#[99,97,110,110,111,116,32,98,101,32,110,101,103,97,116,105,118,101]⟩))),⟨none,none,.pan (t 7)⟩]
def D0v:SS:=[mV 8 1,mV 9 0,o 10 (.cap (t 9)),mV 11 0,lN 12 11,o 13 (bT .sub 10 12),o 14 (bT .sub 8 13),mV 1 14]
def D0w:SS:=[mV 15 1,o 16 (bI .gtr 15 0)]
def D0x:SS:=[mV 17 0,mV 18 0,o 19 (.cap (t 18)),o 20 (.sl a0a 2 (t 17) none (some (t 19)) none),mV 21 1,o 22 (.appz a0a 32 zI (t 20) (t 21)),mV 23 0,lN 24 23,o 25 (.sl a0a 2 (t 22) none (some (t 24)) none),mV 0 25]
def v0k:SS:=[mV 26 0,mV 4 26]
def M0x:SF:=⟨2,27,[.tmp 4],
 (qS (gR D0t) (qS (qS (gR D0u) (.cond (t 6) (gR X0I) .skip)) (qS (qS (gR D0v) (qS (gR D0w) (.cond (t 16) (gR D0x) .skip))) (qS (gR v0k) .ret))))⟩
def D0y:SS:=[o 4 (.alloc a0a zI)]
def D0z:SS:=[mV 6 1,lN 7 6,mV 5 7]
def v0l:SS:=[mV 8 5,o 9 (bI .gtr 8 0),mV 10 9,gT 11 10 (mS 1),gT 12 10 (mS 5),gT 13 10 (bI .sub 12 1),gT 14 10 (iS 1 11 13),gT 15 10 (lS 14),gT 16 10 (.bin 0 .eql (t 15) (.const (.int .u32 0))),pF 17 10 16]
def D0A:SS:=[mV 18 5,o 19 (bI .sub 18 1),mV 5 19]
def D0B:SS:=[mV 20 5,o 21 (bI .eql 20 0)]
def D0C:SS:=[o 22 (.build zI []),sT 2 4 22]
def D0D:SS:=[mV 23 0,mV 24 1,mV 25 5,o 26 (.sl a0l 1 (t 24) none (some (t 25)) none),cA 27 B0x [t 26],o 28 (.build zI [(0,1,t 23),(1,1,t 27)]),sT 2 4 28]
def M0y:SF:=⟨2,29,[.cell 4 true 2],
 (qS (gR D0y) (qS (gR D0z) (qS (.block 0 (.loop (qS (qS (gR v0l) (.cond (t 17) .skip (.exit 0))) (.block 1 (gR D0A))))) (qS (qS (gR D0B) (.cond (t 21) (qS (gR D0C) .ret) .skip)) (qS (gR D0D) .ret)))))⟩
def D0E:SS:=[bX 1 a0a 0,mB 2 false]
def D0F:SS:=[lA 3 2 1,cA 4 s0A [t 3],mV 5 4,gT 6 5 (fS 0 1),gT 7 5 (lS 6),pF 8 5 7,mV 2 8]
def M0z:SF:=⟨1,9,[.tmp 2],
 (qS (gR D0E) (qS (gR D0F) .ret))⟩
def D0G:SS:=[bX 1 a0a 0,mN 2]
def D0H:SS:=[lA 3 2 1,cA 4 s0A [t 3],nT 5 4]
def D0I:SS:=[mN 2]
def D0J:SS:=[fA 6 1 1,lD 7 6,mV 2 7]
def M0A:SF:=⟨1,8,[.tmp 2],
 (qS (gR D0G) (qS (qS (gR D0H) (.cond (t 5) (qS (gR D0I) .ret) .skip)) (qS (gR D0J) .ret)))⟩
def D0K:SS:=[mI 4 0]
def D0L:SS:=[mV 6 0,lN 7 6,mI 8 0]
def X0J:SS:=[o 9 (bT .lss 8 7)]
def D0M:SS:=[mV 10 8,mV 5 10]
def D0N:SS:=[mV 11 1,mV 12 0,mV 13 5,iA 14 1 12 13,lD 15 14,o 16 (.callv (t 11) [t 15] true)]
def D0O:SS:=[mV 17 5,mV 4 17]
def X0K:SS:=[o 18 (bI .add 8 1),mV 8 18]
def D0P:SS:=[o 4 (.mv (.const (.int .i64 (-1))))]
def M0B:SF:=⟨2,19,[.tmp 4],
 (qS (gR D0K) (qS (qS (gR D0L) (.block 0 (.loop (qS (gR X0J) (qS (.cond (t 9) .skip (.exit 0)) (qS (.block 1 (qS (gR D0M) (qS (gR D0N) (.cond (t 16) (qS (gR D0O) .ret) .skip)))) (gR X0K))))))) (qS (gR D0P) .ret)))⟩
def D0S:SS:=[mN 2,o 3 (.alloc a0b zR)]
def D0T:SS:=[cA 21 k0w [i 1],o 4 (.alloc a0a zI),sT 2 4 21]
def D0U:SS:=[mV 22 0,lN 23 22,mI 24 0]
def X0L:SS:=[o 25 (bT .lss 24 23)]
def D0V:SS:=[iA 26 4 22 24,lA 27 4 26,o 6 (.alloc a0b zR),sT 4 6 27]
def D0W:SS:=[fA 29 2 6,lA 30 2 29,lA 31 2 4,fA 32 2 6,lA 33 2 32,cB 34 s0B [t 31,t 33],cB 35 m0x [t 30,t 34],mV 28 35,eX 36 28 0,eX 37 28 1,eX 38 28 2,o 7 (.alloc a0a zI),o 8 (.alloc a0a zI),sT 2 7 36,sT 2 8 37,mV 9 38]
def D0X:SS:=[lA 39 2 4,lA 40 2 7,cA 41 s0G [t 39,t 40],sT 2 4 41]
def X0M:SS:=[o 42 (bI .add 24 1),mV 24 42]
def D0Y:SS:=[mN 10]
def D0Z:SS:=[o 43 (.build zI []),o 11 (.alloc a0a zI),sT 2 11 43]
def x0R:SS:=[mV 44 0,lN 45 44,mI 46 0]
def M0e:SS:=[o 47 (bT .lss 46 45)]
def x0S:SS:=[iA 48 4 44 46,lA 49 4 48,o 13 (.alloc a0b zR),sT 4 13 49]
def x0T:SS:=[lA 51 2 4,fA 52 2 13,lA 53 2 52,cA 54 m0x [t 51,t 53],mV 50 54,eX 55 50 0,eX 56 50 1,eX 57 50 2,o 14 (.alloc a0a zI),o 15 (.alloc a0a zI),sT 2 14 55,sT 2 15 56,mV 16 57]
def x0U:SS:=[fA 58 0 13,lA 59 2 58,lA 60 2 14,cA 61 s0G [t 59,t 60],o 17 (.alloc a0a zI),sT 2 17 61]
def x0V:SS:=[mV 62 10,lA 63 2 17,o 64 (.lit a0a zI 1 [(0,2,t 63)]),o 65 (.app a0a 2 32 (t 62) (t 64)),mV 10 65]
def x0W:SS:=[lA 66 2 11,lA 67 2 17,cA 68 s0B [t 66,t 67],sT 2 11 68]
def M0f:SS:=[o 69 (bI .add 46 1),mV 46 69]
def x0X:SS:=[lA 70 2 11,o 71 (.build zI []),cA 72 o0k [t 70,t 71],o 73 (bI .eql 72 0)]
def x0Y:SS:=[cA 74 k0w [i 1],sT 2 11 74]
def r0g:SS:=[mV 75 10,lN 76 75,mI 77 0]
def M0g:SS:=[o 78 (bT .lss 77 76)]
def r0h:SS:=[mV 79 77,mV 18 79]
def r0i:SS:=[mV 81 10,mV 82 18,mV 83 10,mV 84 18,iA 85 2 83 84,lA 86 2 85,lA 87 2 11,cA 88 m0x [t 86,t 87],mV 80 88,eX 89 80 0,eX 90 80 1,eX 91 80 2,iA 92 2 81 82,sT 2 92 89]
def M0h:SS:=[o 93 (bI .add 77 1),mV 77 93]
def r0j:SS:=[lA 95 2 4,lA 96 2 11,cA 97 q0t [t 95,t 96],mV 94 97,eX 98 94 0,eX 99 94 1,o 19 (.alloc a0b zR),sT 4 19 98,mV 20 99]
def r0k:SS:=[mV 100 10,lA 101 4 19,mV 2 100,sT 4 3 101]
def M0C:SF:=⟨1,102,[.tmp 2,.cell 3 true 4],
 (qS (gR D0S) (qS (gR D0T) (qS (qS (gR D0U) (.block 0 (.loop (qS (gR X0L) (qS (.cond (t 25) .skip (.exit 0)) (qS (.block 1 (qS (gR D0V) (qS (.draw D0W [0,1,0,0,8,28,63,127,255,255,255,0,0,6655,15359,32767] []) (gR D0X)))) (gR X0M))))))) (qS (gR D0Y) (qS (gR D0Z) (qS (qS (gR x0R) (.block 2 (.loop (qS (gR M0e) (qS (.cond (t 47) .skip (.exit 2)) (qS (.block 3 (qS (gR x0S) (qS (gR x0T) (qS (gR x0U) (qS (gR x0V) (gR x0W)))))) (gR M0f))))))) (qS (qS (gR x0X) (.cond (t 73) (gR x0Y) .skip)) (qS (qS (gR r0g) (.block 4 (.loop (qS (gR M0g) (qS (.cond (t 78) .skip (.exit 4)) (qS (.block 5 (qS (gR r0h) (.draw r0i [0,0,0,0,12,28,0,124,252,508,508,508,1023,5119] []))) (gR M0h))))))) (qS (gR r0j) (qS (.draw r0k [0,0,1,7] []) .ret))))))))))⟩
def E0a:SS:=[mN 2]
def E0b:SS:=[mV 6 0,lN 7 6,o 8 (bI .add 7 1),o 9 (.mk a0b 64 zR (i 0) (t 8)),mV 3 9]
def E0c:SS:=[mV 10 0,lN 11 10,mI 12 0]
def X0N:SS:=[o 13 (bT .lss 12 11)]
def E0d:SS:=[iA 14 4 10 12,lA 15 4 14,o 5 (.alloc a0b zR),sT 4 5 15]
def E0e:SS:=[mV 16 3,lA 17 4 5,o 18 (.build zR []),cA 19 u0c [t 17,t 18],o 20 (.lit a0b zR 1 [(0,4,t 19)]),o 21 (.app a0b 4 64 (t 16) (t 20)),mV 3 21]
def X0O:SS:=[o 22 (bI .add 12 1),mV 12 22]
def E0f:SS:=[mV 23 3,mV 2 23]
def M0D:SF:=⟨1,24,[.tmp 2],
 (qS (gR E0a) (qS (gR E0b) (qS (qS (gR E0c) (.block 0 (.loop (qS (gR X0N) (qS (.cond (t 13) .skip (.exit 0)) (qS (.block 1 (qS (gR E0d) (gR E0e))) (gR X0O))))))) (qS (gR E0f) .ret))))⟩
def E0j:SS:=[bX 1 a0b 0,mB 2 false]
def n0A:SS:=[fA 3 0 1,fA 4 0 3,lD 5 4,nT 6 5,mV 7 6,gT 8 7 (fS 0 1),gT 9 7 (fS 1 8),gT 10 7 (lS 9),gT 11 7 (nS 10),gT 12 7 (bI .eql 11 0),pF 13 7 12,mV 14 13,gT 15 14 (fS 2 1),gT 16 14 (fS 0 15),gT 17 14 (lS 16),gT 18 14 (.un .not (t 17)),pF 19 14 18,mV 20 19,gT 21 20 (fS 2 1),gT 22 20 (fS 1 21),gT 23 20 (lS 22),gT 24 20 (nS 23),gT 25 20 (bI .eql 24 0),pF 26 20 25,mV 2 26]
def M0E:SF:=⟨1,27,[.tmp 2],
 (qS (gR E0j) (qS (gR n0A) .ret))⟩
def E0k:SS:=[bX 2 a0a 0,bX 3 a0a 1,o 4 (.alloc a0b zR),mI 5 0]
def E0l:SS:=[lA 7 2 3,cA 8 z0q [t 7]]
def X0Q:SS:=[o 9 (.build zR []),sT 4 4 9,mI 5 11]
def E0m:SS:=[lA 10 2 2,lA 11 2 3,cA 12 s0B [t 10,t 11],o 6 (.alloc a0a zI),sT 2 6 12]
def E0n:SS:=[lA 13 2 3,o 14 (.build zI []),cA 15 o0k [t 13,t 14],o 16 (bI .lss 15 0)]
def E0o:SS:=[lA 17 2 6,cA 18 L0u [t 17],sT 2 6 18]
def v0n:SS:=[lA 20 2 2,lA 21 2 6,cA 22 m0x [t 20,t 21],mV 19 22,eX 23 19 0,eX 24 19 1,eX 25 19 2,sT 2 2 23]
def v0o:SS:=[lA 27 2 3,lA 28 2 6,cA 29 m0x [t 27,t 28],mV 26 29,eX 30 26 0,eX 31 26 1,eX 32 26 2,sT 2 3 30]
def v0p:SS:=[lA 33 2 2,lA 34 2 3,o 35 (.build zR [(0,2,t 33),(2,2,t 34)]),sT 4 4 35,mI 5 0]
def M0F:SF:=⟨2,36,[.cell 4 true 4,.tmp 5],
 (qS (gR E0k) (qS (qS (gR E0l) (.cond (t 8) (qS (gR X0Q) .ret) .skip)) (qS (gR E0m) (qS (qS (gR E0n) (.cond (t 16) (gR E0o) .skip)) (qS (gR v0n) (qS (gR v0o) (qS (gR v0p) .ret)))))))⟩
def E0p:SS:=[mN 4]
def E0q:SS:=[mV 9 0,lN 10 9,mV 11 1,lN 12 11,o 13 (bT .lss 10 12)]
def E0r:SS:=[mV 14 1,mV 15 0,mV 0 14,mV 1 15]
def E0s:SS:=[mV 16 0,lN 17 16,o 18 (bI .add 17 1),o 19 (.mk a0l 4 [.int .u32 0] (i 0) (t 18)),mV 5 19]
def E0t:SS:=[o 6 (.mv (.const (.int .u64 0)))]
def E0u:SS:=[mV 20 0,lN 21 20,mI 22 0]
def r0q:SS:=[o 23 (bT .lss 22 21)]
def v0q:SS:=[mV 24 22,iA 25 1 20 22,lD 26 25,mV 7 24,mV 8 26]
def v0r:SS:=[mV 27 6,mV 28 8,cV 29 .u64 28,o 30 (bT .add 27 29),mV 6 30]
def v0s:SS:=[mV 31 7,mV 32 1,lN 33 32,o 34 (bT .lss 31 33)]
def r0m:SS:=[mV 35 6,mV 36 1,mV 37 7,iA 38 1 36 37,lD 39 38,cV 40 .u64 39,o 41 (bT .add 35 40),mV 6 41]
def r0n:SS:=[mV 42 5,mV 43 6,cA 44 g0j [t 43],o 45 (.lit a0l [.int .u32 0] 1 [(0,1,t 44)]),o 46 (.app a0l 1 4 (t 42) (t 45)),mV 5 46]
def r0o:SS:=[mV 47 6,o 48 (.bin 0 .shr (t 47) (.const (.int .u64 32))),mV 6 48]
def r0p:SS:=[o 49 (bI .add 22 1),mV 22 49]
def x0Z:SS:=[mV 50 5,mV 51 6,cA 52 g0j [t 51],o 53 (.lit a0l [.int .u32 0] 1 [(0,1,t 52)]),o 54 (.app a0l 1 4 (t 50) (t 53)),mV 4 54]
def M0G:SF:=⟨2,55,[.tmp 4],
 (qS (gR E0p) (qS (qS (gR E0q) (.cond (t 13) (gR E0r) .skip)) (qS (gR E0s) (qS (gR E0t) (qS (qS (gR E0u) (.block 0 (.loop (qS (gR r0q) (qS (.cond (t 23) .skip (.exit 0)) (qS (.block 1 (qS (gR v0q) (qS (gR v0r) (qS (qS (gR v0s) (.cond (t 34) (gR r0m) .skip)) (qS (gR r0n) (gR r0o)))))) (gR r0p))))))) (qS (gR x0Z) .ret))))))⟩
def E0v:SS:=[mI 4 0]
def E0w:SS:=[mV 6 0,lN 7 6,mV 8 1,lN 9 8,o 10 (bT .neq 7 9)]
def E0x:SS:=[mV 11 0,lN 12 11,mV 13 1,lN 14 13,cA 15 B0z [t 12,t 14],mV 4 15]
def E0y:SS:=[mV 16 0,lN 17 16,o 18 (bI .sub 17 1),mV 5 18]
def v0t:SS:=[mV 19 5,o 20 (bI .geq 19 0)]
def E0z:SS:=[mV 23 0,mV 24 5,iA 25 1 23 24,lD 26 25,mV 27 1,mV 28 5,iA 29 1 27 28,lD 30 29,o 31 (bT .neq 26 30)]
def E0A:SS:=[mV 32 0,mV 33 5,iA 34 1 32 33,lD 35 34,mV 36 1,mV 37 5,iA 38 1 36 37,lD 39 38,cA 40 B0A [t 35,t 39],mV 4 40]
def E0B:SS:=[mV 21 5,o 22 (bI .sub 21 1),mV 5 22]
def E0C:SS:=[mI 4 0]
def M0H:SF:=⟨2,41,[.tmp 4],
 (qS (gR E0v) (qS (qS (gR E0w) (.cond (t 10) (qS (gR E0x) .ret) .skip)) (qS (qS (gR E0y) (.block 0 (.loop (qS (qS (gR v0t) (.cond (t 20) .skip (.exit 0))) (qS (.block 1 (qS (.draw E0z [0,0,3,7,0,0,48,112,255] []) (.cond (t 31) (qS (.draw E0A [0,0,3,7,0,0,48,112,255,511] []) .ret) .skip))) (gR E0B)))))) (qS (gR E0C) .ret))))⟩
def E0D:SS:=[mN 4]
def E0E:SS:=[mV 11 0,lN 12 11,o 13 (.mk a0l 4 [.int .u32 0] (i 0) (t 12)),mV 5 13]
def E0F:SS:=[o 6 (.mv (.const (.int .u64 0)))]
def E0G:SS:=[mV 14 0,lN 15 14,mI 16 0]
def r0u:SS:=[o 17 (bT .lss 16 15)]
def v0u:SS:=[mV 18 16,iA 19 1 14 16,lD 20 19,mV 7 18,mV 8 20]
def v0v:SS:=[mV 21 6,mV 9 21]
def v0w:SS:=[mV 22 7,mV 23 1,lN 24 23,o 25 (bT .lss 22 24)]
def v0x:SS:=[mV 26 9,mV 27 1,mV 28 7,iA 29 1 27 28,lD 30 29,cV 31 .u64 30,o 32 (bT .add 26 31),mV 9 32]
def v0y:SS:=[mV 33 8,cV 34 .u64 33,mV 35 9,o 36 (bT .sub 34 35),mV 10 36]
def r0r:SS:=[mV 37 5,mV 38 10,cA 39 g0j [t 38],o 40 (.lit a0l [.int .u32 0] 1 [(0,1,t 39)]),o 41 (.app a0l 1 4 (t 37) (t 40)),mV 5 41]
def r0s:SS:=[mV 42 10,o 43 (.bin 0 .shr (t 42) (.const (.int .u64 63))),mV 6 43]
def r0t:SS:=[o 44 (bI .add 16 1),mV 16 44]
def y0a:SS:=[mV 45 5,mV 4 45]
def M0I:SF:=⟨2,46,[.tmp 4],
 (qS (gR E0D) (qS (gR E0E) (qS (gR E0F) (qS (qS (gR E0G) (.block 0 (.loop (qS (gR r0u) (qS (.cond (t 17) .skip (.exit 0)) (qS (.block 1 (qS (gR v0u) (qS (gR v0v) (qS (qS (gR v0w) (.cond (t 25) (gR v0x) .skip)) (qS (gR v0y) (qS (gR r0r) (gR r0s))))))) (gR r0t))))))) (qS (gR y0a) .ret)))))⟩
def E0H:SS:=[o 2 (.mv (.const (.int .u32 0)))]
def E0I:SS:=[mV 3 0,cV 4 .u32 3,mV 2 4]
def M0J:SF:=⟨1,5,[.tmp 2],
 (qS (gR E0H) (qS (gR E0I) .ret))⟩
def E0J:SS:=[bX 1 a0b 0,mB 2 false]
def n0B:SS:=[fA 3 0 1,fA 4 1 3,lD 5 4,lN 6 5,o 7 (bI .eql 6 0),mV 8 7,gT 9 8 (fS 0 1),gT 10 8 (fS 0 9),gT 11 8 (lS 10),gT 12 8 (.un .not (t 11)),pF 13 8 12,mV 14 13,gT 15 14 (fS 2 1),gT 16 14 (fS 1 15),gT 17 14 (lS 16),gT 18 14 (nS 17),gT 19 14 (bI .eql 18 0),pF 20 14 19,mV 21 20,gT 22 21 (fS 2 1),gT 23 21 (fS 0 22),gT 24 21 (lS 23),gT 25 21 (.un .not (t 24)),pF 26 21 25,mV 2 26]
def M0K:SF:=⟨1,27,[.tmp 2],
 (qS (gR E0J) (qS (gR n0B) .ret))⟩
def E0K:SS:=[bX 2 a0a 0,bX 3 a0a 1,o 4 (.alloc a0a zI)]
def E0L:SS:=[lA 5 2 2,lA 6 2 3,cB 7 X0i [t 6],cA 8 L0t [t 5,t 7],sT 2 4 8]
def M0L:SF:=⟨2,9,[.cell 4 true 2],
 (qS (gR E0K) (qS (.draw E0L [0,0,2,7,15] []) .ret))⟩
def E0M:SS:=[mN 4]
def E0N:SS:=[mN 5]
def E0O:SS:=[o 6 (.mv (.const (.int .u32 0)))]
def E0P:SS:=[mV 8 1]
def E0Q:SS:=[o 6 (.mv (.const (.int .u32 1)))]
def v0z:SS:=[mI 7 0]
def v0A:SS:=[mV 9 7,mV 10 0,lN 11 10,o 12 (bT .lss 9 11)]
def v0B:SS:=[mV 15 5,mV 16 0,mV 17 7,iA 18 1 16 17,lD 19 18,o 20 (.bin 0 .shl (t 19) (.const (.int .u64 1))),mV 21 6,o 22 (bT .or 20 21),o 23 (.lit a0l [.int .u32 0] 1 [(0,1,t 22)]),o 24 (.app a0l 1 4 (t 15) (t 23)),mV 5 24]
def v0C:SS:=[mV 25 0,mV 26 7,iA 27 1 25 26,lD 28 27,o 29 (.bin 0 .shr (t 28) (.const (.int .u64 31))),mV 6 29]
def v0D:SS:=[mV 13 7,o 14 (bI .add 13 1),mV 7 14]
def r0v:SS:=[mV 30 5,mV 31 6,o 32 (.lit a0l [.int .u32 0] 1 [(0,1,t 31)]),o 33 (.app a0l 1 4 (t 30) (t 32)),mV 5 33]
def r0w:SS:=[mV 34 5,cA 35 B0J [t 34],mV 4 35]
def M0M:SF:=⟨2,36,[.tmp 4],
 (qS (gR E0M) (qS (gR E0N) (qS (gR E0O) (qS (qS (gR E0P) (.cond (t 8) (gR E0Q) .skip)) (qS (qS (gR v0z) (.block 0 (.loop (qS (qS (gR v0A) (.cond (t 12) .skip (.exit 0))) (qS (.block 1 (qS (gR v0B) (gR v0C))) (gR v0D)))))) (qS (gR r0v) (qS (gR r0w) .ret)))))))⟩
def E0R:SS:=[bX 1 a0a 0,mB 2 false]
def E0S:SS:=[fA 3 1 1,lD 4 3,lN 5 4,o 6 (bI .eql 5 0)]
def E0T:SS:=[fA 7 0 1,lD 8 7,nT 9 8,mV 2 9]
def E0U:SS:=[fA 10 1 1,lD 11 10,fA 12 1 1,lD 13 12,lN 14 13,o 15 (bI .sub 14 1),iA 16 1 11 15,lD 17 16,o 18 (.bin 0 .neq (t 17) (.const (.int .u32 0))),mV 2 18]
def M0N:SF:=⟨1,19,[.tmp 2],
 (qS (gR E0R) (qS (qS (gR E0S) (.cond (t 6) (qS (gR E0T) .ret) .skip)) (qS (gR E0U) .ret)))⟩
def E0V:SS:=[bX 1 a0a 0,mB 2 false]
def E0W:SS:=[lA 3 2 1,o 4 (.build zI []),cA 5 o0k [t 3,t 4],o 6 (bI .eql 5 0),mV 2 6]
def M0O:SF:=⟨1,7,[.tmp 2],
 (qS (gR E0V) (qS (gR E0W) .ret))⟩
def E0X:SS:=[bX 2 a0a 0,bX 3 a0a 1,mI 4 0]
def E0Y:SS:=[lA 6 2 2,cA 7 e0t [t 6],mV 8 7,gT 9 8 (aS 2 3),gT 10 8 (.call e0t [t 9] true),gT 11 8 (.un .not (t 10)),pF 12 8 11,mV 5 12]
def E0Z:SS:=[o 4 (.mv (.const (.int .i64 (-1))))]
def v0E:SS:=[lA 14 2 2,cA 15 e0t [t 14],nT 16 15,mV 17 16,gT 18 17 (aS 2 3),gT 19 17 (.call e0t [t 18] true),pF 20 17 19,mV 13 20]
def F0a:SS:=[mI 4 1]
def v0F:SS:=[lA 22 2 2,cA 23 e0t [t 22],mV 21 23]
def F0b:SS:=[lA 24 2 3,cB 25 g0i [t 24],lA 26 2 2,cA 27 g0i [t 26],cA 28 s0z [t 25,t 27],mV 4 28]
def F0c:SS:=[lA 29 2 2,cB 30 g0i [t 29],lA 31 2 3,cA 32 g0i [t 31],cA 33 s0z [t 30,t 32],mV 4 33]
def M0P:SF:=⟨2,34,[.tmp 4],
 (qS (gR E0X) (qS (.block 0 (qS (gR E0Y) (.cond (t 5) (qS (gR E0Z) .ret) (qS (gR v0E) (.cond (t 13) (qS (gR F0a) .ret) (qS (gR v0F) (.cond (t 21) (qS (.draw F0b [0,1,0,7,15,31] []) .ret) .skip))))))) (qS (.draw F0c [0,1,0,7,15,31] []) .ret)))⟩
def F0d:SS:=[bX 2 a0a 0,bX 3 a0a 1,o 4 (.alloc a0a zI)]
def F0e:SS:=[lA 10 2 2,cB 11 g0i [t 10],o 12 (.call g0W [(.const (.bool false)),t 11] false),lA 13 2 3,cB 14 g0i [t 13],o 15 (.call g0W [(.const (.bool false)),t 14] false),o 5 (.alloc a0a zI),o 6 (.alloc a0a zI),sT 2 5 12,sT 2 6 15]
def v0G:SS:=[fA 16 1 6,lD 17 16,lN 18 17,o 19 (bI .gtr 18 0)]
def F0f:SS:=[lA 21 2 5,lA 22 2 6,cA 23 m0x [t 21,t 22],mV 20 23,eX 24 20 0,eX 25 20 1,eX 26 20 2,o 7 (.alloc a0a zI),o 8 (.alloc a0a zI),sT 2 7 24,sT 2 8 25,mV 9 26]
def F0g:SS:=[lA 27 2 6,lA 28 2 8,sT 2 5 27,sT 2 6 28]
def F0h:SS:=[lA 29 2 5,sT 2 4 29]
def M0Q:SF:=⟨2,30,[.cell 4 true 2],
 (qS (gR F0d) (qS (.draw F0e [0,1,3,0,15,31,0,0,255,511] []) (qS (.block 0 (.loop (qS (qS (gR v0G) (.cond (t 19) .skip (.exit 0))) (.block 1 (qS (gR F0f) (.draw F0g [0,0,1,7] [(1,2)])))))) (qS (gR F0h) .ret))))⟩
def F0i:SS:=[mN 2]
def F0j:SS:=[mV 3 0,o 4 (.bin 2 .eql (t 3) (.const (.slice none 0 0)))]
def F0k:SS:=[mN 2]
def F0l:SS:=[o 5 (.lit a0l [.int .u32 0] 0 []),mV 6 0,o 7 (.app a0l 1 4 (t 5) (t 6)),mV 2 7]
def M0R:SF:=⟨1,8,[.tmp 2],
 (qS (gR F0i) (qS (qS (gR F0j) (.cond (t 4) (qS (gR F0k) .ret) .skip)) (qS (gR F0l) .ret)))⟩
def F0m:SS:=[bX 2 a0a 0,bX 3 a0a 1,o 4 (.alloc a0a zI),o 5 (.alloc a0a zI),mI 6 0]
def F0n:SS:=[lA 13 2 2,cB 14 g0i [t 13],lA 15 2 3,cA 16 g0i [t 15],mV 7 14,mV 8 16]
def F0o:SS:=[mV 18 8,lN 19 18,o 20 (bI .eql 19 0),mV 17 20]
def X0R:SS:=[o 21 (.build zI []),o 22 (.build zI []),sT 2 4 21,sT 2 5 22,mI 6 1]
def F0p:SS:=[mV 24 7,mV 25 8,cA 26 s0z [t 24,t 25],o 27 (bI .lss 26 0),mV 23 27]
def F0q:SS:=[o 28 (.build zI []),lA 29 2 2,cA 30 e0t [t 29],mV 31 7,cA 32 g0W [t 30,t 31],sT 2 4 28,sT 2 5 32,mI 6 0]
def v0H:SS:=[mV 34 8,lN 35 34,o 36 (bI .eql 35 1),mV 33 36]
def F0r:SS:=[mV 38 7,mV 39 8,o 40 (.ia 1 (t 39) (i 0)),lD 41 40,cA 42 B0B [t 38,t 41],mV 37 42,eX 43 37 0,eX 44 37 1,mV 9 43,mV 10 44]
def F0s:SS:=[lA 45 2 2,cB 46 e0t [t 45],lA 47 2 3,cB 48 e0t [t 47],o 49 (.bin 1 .neq (t 46) (t 48)),mV 50 9,cB 51 g0W [t 49,t 50],lA 52 2 2,cB 53 e0t [t 52],mV 54 10,o 55 (.lit a0l [.int .u32 0] 1 [(0,1,t 54)]),cA 56 g0W [t 53,t 55],sT 2 4 51,sT 2 5 56,mI 6 0]
def F0t:SS:=[mV 58 7,mV 59 8,cA 60 B0C [t 58,t 59],mV 57 60,eX 61 57 0,eX 62 57 1,mV 11 61,mV 12 62]
def y0b:SS:=[lA 63 2 2,cB 64 e0t [t 63],lA 65 2 3,cB 66 e0t [t 65],o 67 (.bin 1 .neq (t 64) (t 66)),mV 68 11,cB 69 g0W [t 67,t 68],lA 70 2 2,cA 71 e0t [t 70],mV 72 12,cA 73 g0W [t 71,t 72],sT 2 4 69,sT 2 5 73,mI 6 0]
def M0S:SF:=⟨2,74,[.cell 4 true 2,.cell 5 true 2,.tmp 6],
 (qS (gR F0m) (qS (.draw F0n [0,1,0,7,15,31] []) (qS (.block 0 (qS (gR F0o) (.cond (t 17) (qS (gR X0R) .ret) (qS (gR F0p) (.cond (t 23) (qS (gR F0q) .ret) (qS (gR v0H) (.cond (t 33) (qS (gR F0r) (qS (.draw F0s [0,1,0,7,15,0,63,0,255,0,512,2047,4095,8191,16383] []) .ret)) .skip))))))) (qS (gR F0t) (qS (.draw y0b [0,1,0,7,15,0,63,0,255,0,1023,2047,4095,8191] []) .ret)))))⟩
def F0u:SS:=[mN 2]
def F0v:SS:=[lD 5 0,cK 6 5,fA 7 2 6,lD 8 7,o 9 (bI .add 8 1),o 10 (.mk a0a 32 zI (t 9) (t 9)),mV 3 10]
def F0w:SS:=[mV 11 3,lN 12 11,mI 13 0]
def X0S:SS:=[o 14 (bT .lss 13 12)]
def F0x:SS:=[mV 15 13,mV 4 15]
def F0y:SS:=[mV 16 3,mV 17 4,lA 18 2 1,iA 19 2 16 17,sT 2 19 18]
def X0T:SS:=[o 20 (bI .add 13 1),mV 13 20]
def F0z:SS:=[mV 21 3,mV 2 21]
def M0T:SF:=⟨2,22,[.tmp 2],
 (qS (gR F0u) (qS (gR F0v) (qS (qS (gR F0w) (.block 0 (.loop (qS (gR X0S) (qS (.cond (t 14) .skip (.exit 0)) (qS (.block 1 (qS (gR F0x) (gR F0y))) (gR X0T))))))) (qS (gR F0z) .ret))))⟩
def F0A:SS:=[bX 4 a0a 1,bX 5 a0a 2,o 6 (.alloc a0a zI)]
def F0B:SS:=[mV 8 0,cK 9 8,o 10 (.fa0 a0c (t 9)),lA 11 0 10,o 12 (.iface a0m (t 11)),cB 13 k0w [i 1],o 14 (.inv (t 12) [(a0m,k0x),(a0n,j0D)] [t 13] false),o 7 (.alloc a0a zI),sT 2 7 14]
def F0C:SS:=[mV 15 0,cK 16 15,o 17 (.fa0 a0c (t 16)),lA 18 0 17,o 19 (.iface a0m (t 18)),lA 20 2 4,lA 21 2 7,lA 22 2 5,lA 23 2 7,lA 24 2 7,o 25 (.inv (t 19) [(a0m,q0u),(a0n,q0v)] [t 20,t 21,t 22,t 23,t 24] true),sT 2 6 25]
def M0U:SF:=⟨3,26,[.cell 6 true 2],
 (qS (gR F0A) (qS (.draw F0B [0,1,3,7,15,0,63,0,255] []) (qS (.draw F0C [0,1,3,7,15,0,0,0,0,0,1023,2047] []) .ret)))⟩
def F0D:SS:=[mV 12 0,cK 13 12,fA 14 7 13,lD 15 14,o 16 (bI .add 15 1),cK 17 12,fA 18 7 17,sT 1 18 16]
def F0E:SS:=[mV 19 0,cK 20 19,fA 21 3 20,lD 22 21,mV 23 1,iA 24 1 22 23,lD 25 24,mV 26 2,iA 27 2 25 26,lA 28 2 27,mV 29 0,cK 30 29,fA 31 3 30,lD 32 31,mV 33 1,iA 34 1 32 33,lD 35 34,o 6 (.alloc a0a zI),sT 2 6 28,mV 7 35]
def F0F:SS:=[mV 36 0,cK 37 36,fA 38 3 37,lD 39 38,lN 40 39,mI 41 0]
def X0U:SS:=[o 42 (bT .lss 41 40)]
def F0G:SS:=[mV 43 41,iA 44 1 39 41,lD 45 44,mV 8 43,mV 9 45]
def v0I:SS:=[mV 46 8,mV 47 1,o 48 (bT .eql 46 47)]
def F0H:SS:=[mV 49 9,mV 50 2,iA 51 2 49 50,lA 52 2 51,o 10 (.alloc a0a zI),sT 2 10 52]
def F0I:SS:=[mV 53 9,lN 54 53,mI 55 0]
def X0V:SS:=[o 56 (bT .lss 55 54)]
def F0J:SS:=[mV 57 55,mV 11 57]
def y0c:SS:=[mV 58 9,mV 59 11,mV 60 0,cK 61 60,o 62 (.fa0 a0c (t 61)),lA 63 0 62,o 64 (.iface a0m (t 63)),mV 65 9,mV 66 11,iA 67 2 65 66,lA 68 2 67,lA 69 2 6,lA 70 2 10,mV 71 7,mV 72 11,iA 73 2 71 72,lA 74 2 73,mV 75 0,cK 76 75,fA 77 4 76,lA 78 2 77,o 79 (.inv (t 64) [(a0m,q0u),(a0n,q0v)] [t 68,t 69,t 70,t 74,t 78] true),iA 80 2 58 59,sT 2 80 79]
def M0i:SS:=[o 81 (bI .add 55 1),mV 55 81]
def M0j:SS:=[o 82 (bI .add 41 1),mV 41 82]
def y0d:SS:=[mV 83 0,mV 84 0,cK 85 84,fA 86 6 85,lD 87 86,mV 88 1,lA 89 2 6,mV 90 2,cK 91 83,fA 92 4 91,sT 2 92 89,iA 93 1 87 88,sT 1 93 90]
def M0V:SF:=⟨3,94,[],
 (qS (gR F0D) (qS (.draw F0E [0,1,3,7,0,31,63,0,255,511,0,1024,3072,7168,0,31744,64512,0,132095,524287] [(13,18),(16,18)]) (qS (qS (gR F0F) (.block 0 (.loop (qS (gR X0U) (qS (.cond (t 42) .skip (.exit 0)) (qS (.block 1 (qS (gR F0G) (qS (qS (gR v0I) (.cond (t 48) (.exit 1) .skip)) (qS (gR F0H) (qS (gR F0I) (.block 2 (.loop (qS (gR X0V) (qS (.cond (t 56) .skip (.exit 2)) (qS (.block 3 (qS (gR F0J) (.draw y0c [0,0,0,4,12,28,60,0,0,384,896,0,0,0,0,24576,57344,0,131072,393216,917504,2097148,4194303,8388607] []))) (gR M0i))))))))))) (gR M0j))))))) (.draw y0d [0,0,2,6,14,0,0,0,95,351,863,2047,4095] []))))⟩
def F0K:SS:=[bX 2 a0b 0,bX 3 a0b 1,o 4 (.alloc a0b zR),mI 5 0]
def F0L:SS:=[lA 6 4 2,cB 7 B0K [t 6],lA 8 4 3,cA 9 B0K [t 8],sT 4 2 7,sT 4 3 9]
def F0M:SS:=[fA 10 0 2,lA 11 2 10,fA 12 2 3,lA 13 2 12,cB 14 s0G [t 11,t 13],fA 15 2 2,lA 16 2 15,fA 17 0 3,lA 18 2 17,cA 19 s0G [t 16,t 18],cA 20 q0t [t 14,t 19],eX 21 20 0,eX 22 20 1,sT 4 4 21,mV 5 22]
def M0W:SF:=⟨2,23,[.cell 4 true 4,.tmp 5],
 (qS (gR F0K) (qS (.draw F0L [0,1,0,7,15,31] []) (qS (.draw F0M [0,1,0,4,15,0,32,0,128,511,1023,2047,2047,8191,16383] []) .ret)))⟩
def F0N:SS:=[bX 3 a0a 1,o 4 (.alloc a0b zR)]
def F0O:SS:=[mV 8 0,cK 9 8,o 10 (.fa0 a0c (t 9)),lA 11 0 10,o 12 (.iface a0m (t 11)),lA 13 2 3,o 14 (.inv (t 12) [(a0m,s0E),(a0n,s0F)] [t 13] false),mV 15 0,cK 16 15,o 17 (.fa0 a0c (t 16)),lA 18 0 17,o 19 (.iface a0m (t 18)),mV 20 0,cK 21 20,fA 22 4 21,lA 23 2 22,o 24 (.inv (t 19) [(a0m,s0E),(a0n,s0F)] [t 23] false),cB 25 q0t [t 14,t 24],mV 7 25,eX 26 7 0,eX 27 7 1,o 5 (.alloc a0b zR),sT 4 5 26,mV 6 27]
def F0P:SS:=[lA 28 4 5,sT 4 4 28]
def M0X:SF:=⟨2,29,[.cell 4 true 4],
 (qS (gR F0N) (qS (.draw F0O [0,1,3,7,15,0,63,0,128,384,896,1920,0,4096,12288,28672,65535,131071,262143,524287,524287,0,3145727,8388607] []) (qS (gR F0P) .ret)))⟩
def F0Q:SS:=[bX 2 a0b 0,bX 3 a0b 1,o 4 (.alloc a0b zR)]
def F0R:SS:=[lA 5 4 2,lA 6 4 3,cB 7 B0K [t 6],cB 8 B0D [t 7],cA 9 u0c [t 5,t 8],sT 4 4 9]
def M0Y:SF:=⟨2,10,[.cell 4 true 4],
 (qS (gR F0Q) (qS (.draw F0R [0,0,2,6,15,31] []) .ret))⟩
def F0U:SS:=[mI 4 0]
def F0V:SS:=[mV 6 0,mV 7 1,o 8 (bT .lss 6 7),mV 5 8]
def F0W:SS:=[o 4 (.mv (.const (.int .i64 (-1))))]
def F0X:SS:=[mV 10 0,mV 11 1,o 12 (bT .gtr 10 11),mV 9 12]
def F0Y:SS:=[mI 4 1]
def F0Z:SS:=[mI 4 0]
def M0Z:SF:=⟨2,13,[.tmp 4],
 (qS (gR F0U) (qS (.block 0 (qS (gR F0V) (.cond (t 5) (qS (gR F0W) .ret) (qS (gR F0X) (.cond (t 9) (qS (gR F0Y) .ret) .skip))))) (qS (gR F0Z) .ret)))⟩
def G0a:SS:=[mI 4 0]
def G0b:SS:=[mV 6 0,mV 7 1,o 8 (bT .lss 6 7),mV 5 8]
def G0c:SS:=[o 4 (.mv (.const (.int .i64 (-1))))]
def G0d:SS:=[mV 10 0,mV 11 1,o 12 (bT .gtr 10 11),mV 9 12]
def G0e:SS:=[mI 4 1]
def G0f:SS:=[mI 4 0]
def N0a:SF:=⟨2,13,[.tmp 4],
 (qS (gR G0a) (qS (.block 0 (qS (gR G0b) (.cond (t 5) (qS (gR G0c) .ret) (qS (gR G0d) (.cond (t 9) (qS (gR G0e) .ret) .skip))))) (qS (gR G0f) .ret)))⟩
def G0g:SS:=[mN 4,o 5 (.mv (.const (.int .u32 0)))]
def G0h:SS:=[mV 9 0,lN 10 9,o 11 (.mk a0l 4 [.int .u32 0] (t 10) (t 10)),mV 6 11]
def G0i:SS:=[o 7 (.mv (.const (.int .u64 0)))]
def G0j:SS:=[mV 12 0,lN 13 12,o 14 (bI .sub 13 1),mV 8 14]
def v0J:SS:=[mV 15 8,o 16 (bI .geq 15 0)]
def G0k:SS:=[mV 19 7,o 20 (.bin 0 .shl (t 19) (.const (.int .u64 32))),mV 21 0,mV 22 8,iA 23 1 21 22,lD 24 23,cV 25 .u64 24,o 26 (bT .or 20 25),mV 7 26]
def G0l:SS:=[mV 27 6,mV 28 8,mV 29 7,mV 30 1,cV 31 .u64 30,o 32 (bT .quo 29 31),cA 33 g0j [t 32],iA 34 1 27 28,sT 1 34 33]
def G0m:SS:=[mV 35 7,mV 36 1,cV 37 .u64 36,o 38 (bT .rem 35 37),mV 7 38]
def G0n:SS:=[mV 17 8,o 18 (bI .sub 17 1),mV 8 18]
def G0o:SS:=[mV 39 6,mV 40 7,cA 41 g0j [t 40],mV 4 39,mV 5 41]
def N0b:SF:=⟨2,42,[.tmp 4,.tmp 5],
 (qS (gR G0g) (qS (gR G0h) (qS (gR G0i) (qS (qS (gR G0j) (.block 0 (.loop (qS (qS (gR v0J) (.cond (t 16) .skip (.exit 0))) (qS (.block 1 (qS (gR G0k) (qS (gR G0l) (gR G0m)))) (gR G0n)))))) (qS (gR G0o) .ret)))))⟩
def G0p:SS:=[mN 4,mN 5]
def G0q:SS:=[mI 6 0]
def v0K:SS:=[mV 16 1,mV 17 1,lN 18 17,o 19 (bI .sub 18 1),iA 20 1 16 19,lD 21 20,mV 22 6,o 23 (bT .shl 21 22),o 24 (.bin 0 .shr (t 23) (.const (.int .u64 31))),o 25 (.bin 0 .eql (t 24) (.const (.int .u32 0)))]
def v0L:SS:=[mV 26 6,o 27 (bI .add 26 1),mV 6 27]
def G0r:SS:=[mV 28 0,mV 29 6,cA 30 z0u [t 28,t 29],mV 31 1,mV 32 6,cA 33 z0u [t 31,t 32],mV 34 1,lN 35 34,o 36 (.sl a0l 1 (t 33) none (some (t 35)) none),mV 7 30,mV 8 36]
def G0s:SS:=[mV 37 8,lN 38 37,mV 9 38]
def G0t:SS:=[mV 39 7,lN 40 39,mV 41 9,o 42 (bT .sub 40 41),o 43 (.mnx true (t 42) [i 0]),o 44 (.mk a0l 4 [.int .u32 0] (t 43) (t 43)),mV 4 44]
def G0u:SS:=[mV 45 8,mV 46 9,o 47 (bI .sub 46 1),iA 48 1 45 47,lD 49 48,cV 50 .u64 49,mV 51 8,mV 52 9,o 53 (bI .sub 52 2),iA 54 1 51 53,lD 55 54,cV 56 .u64 55,mV 10 50,mV 11 56]
def G0v:SS:=[mV 57 7,lN 58 57,mV 59 9,o 60 (bT .sub 58 59),o 61 (bI .sub 60 1),mV 12 61]
def v0M:SS:=[mV 62 12,o 63 (bI .geq 62 0)]
def y0e:SS:=[mV 66 7,mV 67 12,mV 68 9,o 69 (bT .add 67 68),iA 70 1 66 69,lD 71 70,cV 72 .u64 71,o 73 (.bin 0 .shl (t 72) (.const (.int .u64 32))),mV 74 7,mV 75 12,mV 76 9,o 77 (bT .add 75 76),o 78 (bI .sub 77 1),iA 79 1 74 78,lD 80 79,cV 81 .u64 80,o 82 (bT .or 73 81),mV 13 82]
def y0f:SS:=[mV 83 13,mV 84 10,o 85 (bT .quo 83 84),mV 86 13,mV 87 10,o 88 (bT .rem 86 87),mV 14 85,mV 15 88]
def l0U:SS:=[mV 89 14,o 90 (.bin 0 .geq (t 89) (.const (.int .u64 4294967296))),mV 91 90,gF 92 91 (mS 14),gF 93 91 (mS 11),gF 94 91 (bT .mul 92 93),gF 95 91 (mS 15),gF 96 91 (.bin 0 .shl (t 95) (.const (.int .u64 32))),gF 97 91 (mS 7),gF 98 91 (mS 12),gF 99 91 (mS 9),gF 100 91 (bT .add 98 99),gF 101 91 (bI .sub 100 2),gF 102 91 (iS 1 97 101),gF 103 91 (lS 102),gF 104 91 (.conv .u64 (t 103)),gF 105 91 (bT .or 96 104),gF 106 91 (bT .gtr 94 105),pT 107 91 106]
def j0Y:SS:=[mV 108 14,o 109 (.bin 0 .sub (t 108) (.const (.int .u64 1))),mV 14 109]
def j0Z:SS:=[mV 110 15,mV 111 10,o 112 (bT .add 110 111),mV 15 112]
def k0a:SS:=[mV 113 15,o 114 (.bin 0 .geq (t 113) (.const (.int .u64 4294967296)))]
def y0g:SS:=[mV 115 7,mV 116 12,mV 117 12,mV 118 9,o 119 (bT .add 117 118),o 120 (bI .add 119 1),o 121 (.sl a0l 1 (t 115) (some (t 116)) (some (t 120)) none),mV 122 8,mV 123 14,cA 124 B0E [t 121,t 122,t 123]]
def y0h:SS:=[mV 125 14,o 126 (.bin 0 .sub (t 125) (.const (.int .u64 1))),mV 14 126]
def y0i:SS:=[mV 127 7,mV 128 12,mV 129 12,mV 130 9,o 131 (bT .add 129 130),o 132 (bI .add 131 1),o 133 (.sl a0l 1 (t 127) (some (t 128)) (some (t 132)) none),mV 134 8,cA 135 B0F [t 133,t 134]]
def r0x:SS:=[mV 136 4,mV 137 12,mV 138 14,cA 139 g0j [t 138],iA 140 1 136 137,sT 1 140 139]
def r0y:SS:=[mV 64 12,o 65 (bI .sub 64 1),mV 12 65]
def y0j:SS:=[mV 141 4,mV 142 7,mV 143 9,o 144 (.sl a0l 1 (t 142) none (some (t 143)) none),mV 145 6,cA 146 B0G [t 144,t 145],mV 4 141,mV 5 146]
def N0c:SF:=⟨2,147,[.tmp 4,.tmp 5],
 (qS (gR G0p) (qS (gR G0q) (qS (.block 0 (.loop (qS (qS (gR v0K) (.cond (t 25) .skip (.exit 0))) (.block 1 (gR v0L))))) (qS (.draw G0r [0,0,3,0,0,31,0,64,255,63,1023] []) (qS (gR G0s) (qS (gR G0t) (qS (.draw G0u [0,0,2,7,15,31,0,0,128,448,960,1984,63,8191] []) (qS (qS (gR G0v) (.block 2 (.loop (qS (qS (gR v0M) (.cond (t 63) .skip (.exit 2))) (qS (.block 3 (qS (.draw y0e [0,0,0,6,15,31,63,127,0,0,0,1536,3584,7936,16128,32512,65535,131071] []) (qS (.draw y0f [0,0,3,0,0,24,7,127] []) (qS (.block 4 (.loop (qS (qS (gR l0U) (.cond (t 107) .skip (.exit 4))) (.block 5 (qS (gR j0Y) (qS (gR j0Z) (qS (gR k0a) (.cond (t 114) (.exit 4) .skip)))))))) (qS (qS (gR y0g) (.cond (t 124) (qS (gR y0h) (gR y0i)) .skip)) (gR r0x)))))) (gR r0y)))))) (qS (gR y0j) .ret)))))))))⟩
def G0w:SS:=[mN 2]
def G0x:SS:=[lD 5 0,cK 6 5,fA 7 2 6,lD 8 7,o 9 (bI .add 8 1),o 10 (.mk d0N 8 [.int .i64 0] (t 9) (t 9)),mV 3 10]
def G0y:SS:=[mV 11 3,lN 12 11,mI 13 0]
def X0W:SS:=[o 14 (bT .lss 13 12)]
def G0z:SS:=[mV 15 13,mV 4 15]
def G0A:SS:=[mV 16 3,mV 17 4,lD 18 1,iA 19 1 16 17,sT 1 19 18]
def X0X:SS:=[o 20 (bI .add 13 1),mV 13 20]
def G0B:SS:=[mV 21 3,mV 2 21]
def N0d:SF:=⟨2,22,[.tmp 2],
 (qS (gR G0w) (qS (gR G0x) (qS (qS (gR G0y) (.block 0 (.loop (qS (gR X0W) (qS (.cond (t 14) .skip (.exit 0)) (qS (.block 1 (qS (gR G0z) (gR G0A))) (gR X0X))))))) (qS (gR G0B) .ret))))⟩
def G0C:SS:=[mI 6 0]
def G0D:SS:=[mV 8 0,cK 9 8,o 10 (.fa0 a0d (t 9)),lA 11 0 10,o 12 (.iface a0n (t 11)),cB 13 k0w [i 1],o 14 (.inv (t 12) [(a0m,k0x),(a0n,j0D)] [t 13] true),mV 7 14]
def G0E:SS:=[mV 15 0,cK 16 15,o 17 (.fa0 a0d (t 16)),lA 18 0 17,o 19 (.iface a0n (t 18)),mV 20 1,mV 21 7,mV 22 2,mV 23 7,mV 24 7,o 25 (.inv (t 19) [(a0m,q0u),(a0n,q0v)] [t 20,t 21,t 22,t 23,t 24] true),mV 6 25]
def N0e:SF:=⟨3,26,[.tmp 6],
 (qS (gR G0C) (qS (.draw G0D [0,1,3,7,15,0,63,127] []) (qS (gR G0E) .ret)))⟩
def G0F:SS:=[mV 12 0,cK 13 12,fA 14 6 13,lD 15 14,o 16 (bI .add 15 1),cK 17 12,fA 18 6 17,sT 1 18 16]
def G0G:SS:=[mV 19 0,cK 20 19,fA 21 3 20,lD 22 21,mV 23 1,iA 24 1 22 23,lD 25 24,mV 26 2,iA 27 1 25 26,lD 28 27,mV 29 0,cK 30 29,fA 31 3 30,lD 32 31,mV 33 1,iA 34 1 32 33,lD 35 34,mV 6 28,mV 7 35]
def G0H:SS:=[mV 36 0,cK 37 36,fA 38 3 37,lD 39 38,lN 40 39,mI 41 0]
def X0Y:SS:=[o 42 (bT .lss 41 40)]
def G0I:SS:=[mV 43 41,iA 44 1 39 41,lD 45 44,mV 8 43,mV 9 45]
def v0N:SS:=[mV 46 8,mV 47 1,o 48 (bT .eql 46 47)]
def G0J:SS:=[mV 49 9,mV 50 2,iA 51 1 49 50,lD 52 51,mV 10 52]
def G0K:SS:=[mV 53 9,lN 54 53,mI 55 0]
def X0Z:SS:=[o 56 (bT .lss 55 54)]
def G0L:SS:=[mV 57 55,mV 11 57]
def y0k:SS:=[mV 58 9,mV 59 11,mV 60 0,cK 61 60,o 62 (.fa0 a0d (t 61)),lA 63 0 62,o 64 (.iface a0n (t 63)),mV 65 9,mV 66 11,iA 67 1 65 66,lD 68 67,mV 69 6,mV 70 10,mV 71 7,mV 72 11,iA 73 1 71 72,lD 74 73,mV 75 0,cK 76 75,fA 77 4 76,lD 78 77,o 79 (.inv (t 64) [(a0m,q0u),(a0n,q0v)] [t 68,t 69,t 70,t 74,t 78] true),iA 80 1 58 59,sT 1 80 79]
def M0k:SS:=[o 81 (bI .add 55 1),mV 55 81]
def M0l:SS:=[o 82 (bI .add 41 1),mV 41 82]
def y0l:SS:=[mV 83 0,mV 84 0,cK 85 84,fA 86 5 85,lD 87 86,mV 88 1,mV 89 6,mV 90 2,cK 91 83,fA 92 4 91,sT 1 92 89,iA 93 1 87 88,sT 1 93 90]
def N0f:SF:=⟨3,94,[],
 (qS (gR G0F) (qS (.draw G0G [0,1,3,7,0,31,63,0,255,511,0,1024,3072,7168,0,31744,64512,1023,262143] []) (qS (qS (gR G0H) (.block 0 (.loop (qS (gR X0Y) (qS (.cond (t 42) .skip (.exit 0)) (qS (.block 1 (qS (gR G0I) (qS (qS (gR v0N) (.cond (t 48) (.exit 1) .skip)) (qS (gR G0J) (qS (gR G0K) (.block 2 (.loop (qS (gR X0Z) (qS (.cond (t 56) .skip (.exit 2)) (qS (.block 3 (qS (gR G0L) (.draw y0k [0,0,0,4,12,28,60,0,0,384,896,0,0,0,0,24576,57344,0,131072,393216,917504,2097148,4194303,8388607] []))) (gR M0k))))))))))) (gR M0l))))))) (gR y0l))))⟩
def G0M:SS:=[o 4 (.alloc a0b zR)]
def G0N:SS:=[mV 8 0,cK 9 8,o 10 (.fa0 a0d (t 9)),lA 11 0 10,o 12 (.iface a0n (t 11)),mV 13 1,o 14 (.inv (t 12) [(a0m,s0E),(a0n,s0F)] [t 13] false),mV 15 0,cK 16 15,o 17 (.fa0 a0d (t 16)),lA 18 0 17,o 19 (.iface a0n (t 18)),mV 20 0,cK 21 20,fA 22 4 21,lD 23 22,o 24 (.inv (t 19) [(a0m,s0E),(a0n,s0F)] [t 23] false),cB 25 q0t [t 14,t 24],mV 7 25,eX 26 7 0,eX 27 7 1,o 5 (.alloc a0b zR),sT 4 5 26,mV 6 27]
def G0O:SS:=[lA 28 4 5,sT 4 4 28]
def N0g:SF:=⟨2,29,[.cell 4 true 4],
 (qS (gR G0M) (qS (.draw G0N [0,1,3,7,15,0,63,0,128,384,896,1920,0,4096,12288,28672,65535,131071,262143,524287,524287,0,3145727,8388607] []) (qS (gR G0O) .ret)))⟩
def G0P:SS:=[bX 1 a0b 0,o 2 (.alloc a0b zR)]
def G0Q:SS:=[fA 3 0 1,lA 4 2 3,cB 5 L0u [t 4],fA 6 2 1,lA 7 2 6,o 8 (.build zR [(0,2,t 5),(2,2,t 7)]),sT 4 2 8]
def N0h:SF:=⟨1,9,[.cell 2 true 4],
 (qS (gR G0P) (qS (.draw G0Q [0,1,3,0,8,31,63] []) .ret))⟩
def G0R:SS:=[mN 4]
def G0S:SS:=[mV 9 0,lN 10 9,o 11 (bI .add 10 1),o 12 (.mk a0l 4 [.int .u32 0] (i 0) (t 11)),mV 5 12]
def G0T:SS:=[o 6 (.mv (.const (.int .u64 0)))]
def G0U:SS:=[mV 13 0,lN 14 13,mI 15 0]
def v0O:SS:=[o 16 (bT .lss 15 14)]
def G0V:SS:=[iA 17 1 13 15,lD 18 17,mV 8 18]
def G0W:SS:=[mV 19 6,mV 20 8,cV 21 .u64 20,mV 22 1,o 23 (bT .shl 21 22),o 24 (bT .or 19 23),mV 6 24]
def G0X:SS:=[mV 25 5,mV 26 6,cA 27 g0j [t 26],o 28 (.lit a0l [.int .u32 0] 1 [(0,1,t 27)]),o 29 (.app a0l 1 4 (t 25) (t 28)),mV 5 29]
def G0Y:SS:=[mV 30 6,o 31 (.bin 0 .shr (t 30) (.const (.int .u64 32))),mV 6 31]
def G0Z:SS:=[o 32 (bI .add 15 1),mV 15 32]
def y0m:SS:=[mV 33 5,mV 34 6,cA 35 g0j [t 34],o 36 (.lit a0l [.int .u32 0] 1 [(0,1,t 35)]),o 37 (.app a0l 1 4 (t 33) (t 36)),mV 4 37]
def N0i:SF:=⟨2,38,[.tmp 4],
 (qS (gR G0R) (qS (gR G0S) (qS (gR G0T) (qS (qS (gR G0U) (.block 0 (.loop (qS (gR v0O) (qS (.cond (t 16) .skip (.exit 0)) (qS (.block 1 (qS (gR G0V) (qS (gR G0W) (qS (gR G0X) (gR G0Y))))) (gR G0Z))))))) (qS (gR y0m) .ret)))))⟩
def H0a:SS:=[mB 6 false]
def H0b:SS:=[o 7 (.mv (.const (.int .u64 0)))]
def H0c:SS:=[mV 10 0,lN 11 10,mI 12 0]
def r0A:SS:=[o 13 (bT .lss 12 11)]
def v0P:SS:=[mV 14 12,mV 8 14]
def v0Q:SS:=[mV 15 8,mV 16 1,lN 17 16,o 18 (bT .lss 15 17)]
def v0R:SS:=[mV 19 7,mV 20 1,mV 21 8,iA 22 1 20 21,lD 23 22,cV 24 .u64 23,mV 25 2,o 26 (bT .mul 24 25),o 27 (bT .add 19 26),mV 7 27]
def v0S:SS:=[mV 28 0,mV 29 8,iA 30 1 28 29,lD 31 30,cV 32 .u64 31,mV 33 7,o 34 (.bin 0 .and (t 33) (.const (.int .u64 4294967295))),o 35 (bT .sub 32 34),mV 9 35]
def v0T:SS:=[mV 36 0,mV 37 8,mV 38 9,cA 39 g0j [t 38],iA 40 1 36 37,sT 1 40 39]
def v0U:SS:=[mV 41 7,o 42 (.bin 0 .shr (t 41) (.const (.int .u64 32))),mV 43 9,o 44 (.bin 0 .shr (t 43) (.const (.int .u64 63))),o 45 (bT .add 42 44),mV 7 45]
def r0z:SS:=[o 46 (bI .add 12 1),mV 12 46]
def y0n:SS:=[mV 47 7,o 48 (.bin 0 .neq (t 47) (.const (.int .u64 0))),mV 6 48]
def N0j:SF:=⟨3,49,[.tmp 6],
 (qS (gR H0a) (qS (gR H0b) (qS (qS (gR H0c) (.block 0 (.loop (qS (gR r0A) (qS (.cond (t 13) .skip (.exit 0)) (qS (.block 1 (qS (gR v0P) (qS (qS (gR v0Q) (.cond (t 18) (gR v0R) .skip)) (qS (gR v0S) (qS (gR v0T) (gR v0U)))))) (gR r0z))))))) (qS (gR y0n) .ret))))⟩
def H0d:SS:=[o 4 (.mv (.const (.int .u64 0)))]
def H0e:SS:=[mV 6 0,lN 7 6,mI 8 0]
def r0B:SS:=[o 9 (bT .lss 8 7)]
def v0V:SS:=[mV 10 8,mV 5 10]
def v0W:SS:=[mV 11 4,mV 12 0,mV 13 5,iA 14 1 12 13,lD 15 14,cV 16 .u64 15,o 17 (bT .add 11 16),mV 4 17]
def v0X:SS:=[mV 18 5,mV 19 1,lN 20 19,o 21 (bT .lss 18 20)]
def v0Y:SS:=[mV 22 4,mV 23 1,mV 24 5,iA 25 1 23 24,lD 26 25,cV 27 .u64 26,o 28 (bT .add 22 27),mV 4 28]
def v0Z:SS:=[mV 29 0,mV 30 5,mV 31 4,cA 32 g0j [t 31],iA 33 1 29 30,sT 1 33 32]
def w0a:SS:=[mV 34 4,o 35 (.bin 0 .shr (t 34) (.const (.int .u64 32))),mV 4 35]
def w0b:SS:=[o 36 (bI .add 8 1),mV 8 36]
def N0k:SF:=⟨2,37,[],
 (qS (gR H0d) (qS (gR H0e) (.block 0 (.loop (qS (gR r0B) (qS (.cond (t 9) .skip (.exit 0)) (qS (.block 1 (qS (gR v0V) (qS (gR v0W) (qS (qS (gR v0X) (.cond (t 21) (gR v0Y) .skip)) (qS (gR v0Z) (gR w0a)))))) (gR w0b))))))))⟩
def H0f:SS:=[mN 4]
def H0g:SS:=[mV 8 0,lN 9 8,o 10 (.mk a0l 4 [.int .u32 0] (t 9) (t 9)),mV 5 10]
def H0h:SS:=[mV 11 0,lN 12 11,mI 13 0]
def r0C:SS:=[o 14 (bT .lss 13 12)]
def w0c:SS:=[mV 15 13,mV 6 15]
def w0d:SS:=[mV 16 0,mV 17 6,iA 18 1 16 17,lD 19 18,cV 20 .u64 19,mV 7 20]
def w0e:SS:=[mV 21 6,o 22 (bI .add 21 1),mV 23 0,lN 24 23,o 25 (bT .lss 22 24)]
def w0f:SS:=[mV 26 7,mV 27 0,mV 28 6,o 29 (bI .add 28 1),iA 30 1 27 29,lD 31 30,cV 32 .u64 31,o 33 (.bin 0 .shl (t 32) (.const (.int .u64 32))),o 34 (bT .or 26 33),mV 7 34]
def w0g:SS:=[mV 35 5,mV 36 6,mV 37 7,mV 38 1,o 39 (bT .shr 37 38),cA 40 g0j [t 39],iA 41 1 35 36,sT 1 41 40]
def w0h:SS:=[o 42 (bI .add 13 1),mV 13 42]
def y0o:SS:=[mV 43 5,mV 4 43]
def N0l:SF:=⟨2,44,[.tmp 4],
 (qS (gR H0f) (qS (gR H0g) (qS (qS (gR H0h) (.block 0 (.loop (qS (gR r0C) (qS (.cond (t 14) .skip (.exit 0)) (qS (.block 1 (qS (gR w0c) (qS (gR w0d) (qS (qS (gR w0e) (.cond (t 25) (gR w0f) .skip)) (gR w0g))))) (gR w0h))))))) (qS (gR y0o) .ret))))⟩
def H0j:SS:=[bX 5 a0m 0,bX 6 a0a 1,bX 7 a0a 2,bX 8 a0a 3,bX 9 a0a 4,mI 10 0]
def H0k:SS:=[lA 11 2 6,lA 12 2 7,cB 13 s0G [t 11,t 12],lA 14 2 8,lA 15 2 9,cA 16 s0G [t 14,t 15],cA 17 o0k [t 13,t 16],mV 10 17]
def N0m:SF:=⟨5,18,[.tmp 10],
 (qS (gR H0j) (qS (.draw H0k [0,0,3,0,0,31,63,127] []) .ret))⟩
def H0l:SS:=[bX 2 a0m 0,bX 3 a0a 1,o 4 (.alloc a0a zI)]
def H0m:SS:=[lA 5 2 3,cA 6 L0u [t 5],sT 2 4 6]
def N0n:SF:=⟨2,7,[.cell 4 true 2],
 (qS (gR H0l) (qS (gR H0m) .ret))⟩
def H0n:SS:=[bX 2 a0m 0,bX 3 a0a 1,o 4 (.alloc a0a zI)]
def H0o:SS:=[lA 5 2 3,sT 2 4 5]
def N0o:SF:=⟨2,6,[.cell 4 true 2],
 (qS (gR H0n) (qS (gR H0o) .ret))⟩
def H0p:SS:=[bX 2 a0m 0,bX 3 a0a 1,o 4 (.alloc a0a zI)]
def H0q:SS:=[lA 5 2 3,sT 2 4 5]
def N0p:SF:=⟨2,6,[.cell 4 true 2],
 (qS (gR H0p) (qS (gR H0q) .ret))⟩
def H0r:SS:=[bX 2 a0m 0,bX 3 a0a 1,mI 4 0]
def H0s:SS:=[lA 5 2 3,o 6 (.build zI []),cA 7 o0k [t 5,t 6],mV 4 7]
def N0q:SF:=⟨2,8,[.tmp 4],
 (qS (gR H0r) (qS (gR H0s) .ret))⟩
def H0t:SS:=[bX 6 a0m 0,bX 7 a0a 1,bX 8 a0a 2,bX 9 a0a 3,bX 10 a0a 4,bX 11 a0a 5,o 12 (.alloc a0a zI)]
def H0u:SS:=[lA 17 2 7,lA 18 2 8,cB 19 s0G [t 17,t 18],lA 20 2 9,lA 21 2 10,cB 22 s0G [t 20,t 21],cB 23 B0H [t 19,t 22],lA 24 2 11,cB 25 m0x [t 23,t 24],mV 16 25,eX 26 16 0,eX 27 16 1,eX 28 16 2,o 13 (.alloc a0a zI),o 14 (.alloc a0a zI),sT 2 13 26,sT 2 14 27,mV 15 28]
def H0v:SS:=[lA 29 2 13,sT 2 12 29]
def N0r:SF:=⟨6,30,[.cell 12 true 2],
 (qS (gR H0t) (qS (.draw H0u [0,0,3,0,0,31,63,0,255,511,1023,1023,1023,0,0,26623,61439,131071] []) (qS (gR H0v) .ret)))⟩
def H0w:SS:=[bX 2 a0a 0,bX 3 a0a 1,o 4 (.alloc a0a zI)]
def H0x:SS:=[lA 5 2 2,lA 6 2 3,cB 7 L0u [t 6],cA 8 B0L [t 5,t 7],sT 2 4 8]
def N0s:SF:=⟨2,9,[.cell 4 true 2],
 (qS (gR H0w) (qS (.draw H0x [0,0,2,7,15] []) .ret))⟩
def H0y:SS:=[bX 5 a0n 0,mI 10 0]
def H0z:SS:=[mV 11 1,mV 12 2,o 13 (bT .mul 11 12),mV 14 3,mV 15 4,o 16 (bT .mul 14 15),cA 17 z0x [t 13,t 16],mV 10 17]
def N0t:SF:=⟨5,18,[.tmp 10],
 (qS (gR H0y) (qS (gR H0z) .ret))⟩
def H0A:SS:=[bX 2 a0n 0,mI 4 0]
def H0B:SS:=[mV 5 1,o 6 (.un .neg (t 5)),mV 4 6]
def N0u:SF:=⟨2,7,[.tmp 4],
 (qS (gR H0A) (qS (gR H0B) .ret))⟩
def H0M:SS:=[bX 2 a0n 0,o 4 (.alloc a0a zI)]
def H0N:SS:=[mV 5 1,cA 6 k0w [t 5],sT 2 4 6]
def N0v:SF:=⟨2,7,[.cell 4 true 2],
 (qS (gR H0M) (qS (gR H0N) .ret))⟩
def w0j:SS:=[bX 2 a0n 0,bX 3 a0a 1,mI 4 0]
def w0k:SS:=[lA 8 2 3,cA 9 B0I [t 8],mV 7 9,eX 10 7 0,eX 11 7 1,mV 5 10,mV 6 11]
def w0l:SS:=[mV 12 6,nT 13 12]
def H0O:SS:=[o 14 (.build [] []),o 15 (.iface f0I (t 14)),⟨none,none,.pan (t 15)⟩]
def w0m:SS:=[mV 16 5,cA 17 u0G [t 16],mV 4 17]
def K0k:SF:=⟨2,18,[.tmp 4],
 (qS (gR w0j) (qS (gR w0k) (qS (qS (gR w0l) (.cond (t 13) (gR H0O) .skip)) (qS (gR w0m) .ret))))⟩
def H0P:SS:=[bX 2 a0n 0,mI 4 0]
def H0Q:SS:=[mV 5 1,cA 6 z0x [t 5,i 0],mV 4 6]
def N0w:SF:=⟨2,7,[.tmp 4],
 (qS (gR H0P) (qS (gR H0Q) .ret))⟩
def H0R:SS:=[bX 6 a0n 0,mI 12 0]
def H0S:SS:=[mV 13 1,mV 14 2,o 15 (bT .mul 13 14),mV 16 3,mV 17 4,o 18 (bT .mul 16 17),o 19 (bT .sub 15 18),mV 20 5,o 21 (bT .quo 19 20),cA 22 u0G [t 21],mV 12 22]
def N0x:SF:=⟨6,23,[.tmp 12],
 (qS (gR H0R) (qS (gR H0S) .ret))⟩
def H0T:SS:=[mI 4 0]
def H0U:SS:=[mV 6 0,mV 7 1,o 8 (bT .lss 6 7),mV 5 8]
def H0V:SS:=[o 4 (.mv (.const (.int .i64 (-1))))]
def H0W:SS:=[mV 10 0,mV 11 1,o 12 (bT .gtr 10 11),mV 9 12]
def H0X:SS:=[mI 4 1]
def H0Y:SS:=[mI 4 0]
def N0y:SF:=⟨2,13,[.tmp 4],
 (qS (gR H0T) (qS (.block 0 (qS (gR H0U) (.cond (t 5) (qS (gR H0V) .ret) (qS (gR H0W) (.cond (t 9) (qS (gR H0X) .ret) .skip))))) (qS (gR H0Y) .ret)))⟩
def H0Z:SS:=[bX 1 a0a 0,mI 2 0,mB 3 false]
def I0a:SS:=[lA 8 2 1,cA 9 g0i [t 8],mV 4 9]
def I0b:SS:=[mV 10 4,lN 11 10,o 12 (bI .gtr 11 2)]
def I0c:SS:=[mI 2 0,mB 3 false]
def I0d:SS:=[o 5 (.mv (.const (.int .u64 0)))]
def I0e:SS:=[mV 13 4,lN 14 13,mI 15 0]
def Y0a:SS:=[o 16 (bT .lss 15 14)]
def I0f:SS:=[mV 17 15,iA 18 1 13 15,lD 19 18,mV 6 17,mV 7 19]
def I0g:SS:=[mV 20 5,mV 21 7,cV 22 .u64 21,mV 23 6,o 24 (.bin 0 .mul (i 32) (t 23)),o 25 (bT .shl 22 24),o 26 (bT .or 20 25),mV 5 26]
def Y0b:SS:=[o 27 (bI .add 15 1),mV 15 27]
def y0q:SS:=[lA 29 2 1,cA 30 e0t [t 29],mV 31 30,gT 32 31 (mS 5),gT 33 31 (.bin 0 .leq (t 32) (.const (.int .u64 9223372036854775808))),pF 34 31 33,mV 28 34]
def y0r:SS:=[mV 35 5,o 36 (.un .neg (t 35)),cV 37 .i64 36,mV 2 37,mB 3 true]
def r0D:SS:=[lA 39 2 1,cA 40 e0t [t 39],nT 41 40,mV 42 41,gT 43 42 (mS 5),gT 44 42 (.bin 0 .lss (t 43) (.const (.int .u64 9223372036854775808))),pF 45 42 44,mV 38 45]
def y0s:SS:=[mV 46 5,cV 47 .i64 46,mV 2 47,mB 3 true]
def r0E:SS:=[mI 2 0,mB 3 false]
def N0z:SF:=⟨1,48,[.tmp 2,.tmp 3],
 (qS (gR H0Z) (qS (gR I0a) (qS (qS (gR I0b) (.cond (t 12) (qS (gR I0c) .ret) .skip)) (qS (gR I0d) (qS (qS (gR I0e) (.block 0 (.loop (qS (gR Y0a) (qS (.cond (t 16) .skip (.exit 0)) (qS (.block 1 (qS (gR I0f) (gR I0g))) (gR Y0b))))))) (qS (.block 2 (qS (gR y0q) (.cond (t 28) (qS (gR y0r) .ret) (qS (gR r0D) (.cond (t 38) (qS (gR y0s) .ret) .skip))))) (qS (gR r0E) .ret)))))))⟩
def w0n:SS:=[mI 2 0]
def w0o:SS:=[mV 3 0,o 4 (.bin 0 .leq (t 3) (.const (.int .i64 (-2147483648)))),mV 5 4,gF 6 5 (mS 0),gF 7 5 (bI .geq 6 2147483648),pT 8 5 7]
def w0p:SS:=[o 9 (.build [] []),o 10 (.iface f0I (t 9)),⟨none,none,.pan (t 10)⟩]
def w0q:SS:=[mV 11 0,mV 2 11]
def K0l:SF:=⟨1,12,[.tmp 2],
 (qS (gR w0n) (qS (qS (gR w0o) (.cond (t 8) (gR w0p) .skip)) (qS (gR w0q) .ret)))⟩
