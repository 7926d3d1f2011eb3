/- Part 4 of the proof. -/
import Derived.Test.YtilekhkgobmolaaGreatM00
set_option linter.unusedVariables false
set_option linter.unusedSimpArgs false
set_option linter.unusedSectionVars false
namespace Go.Proofs.YtilekhkgobmolaaGreat.AI
section
open Go
abbrev o (d:Nat) (x:SOp):a0I:=⟨some d,none,x⟩
abbrev og (d g:Nat) (b:Bool) (x:SOp):a0I:=⟨some d,some (g,b),x⟩
abbrev t (n:Nat):Opd:=.tmp n
abbrev i (n:Int):Opd:=.const (.int .i64 n)
abbrev mV (d s:Nat):a0I:=⟨some d,none,.mv (.tmp s)⟩
abbrev lD (d s:Nat):a0I:=⟨some d,none,.load false 1 (.tmp s)⟩
abbrev lA (d n s:Nat):a0I:=⟨some d,none,.load true n (.tmp s)⟩
abbrev fA (d n s:Nat):a0I:=⟨some d,none,.fa n (.tmp s)⟩
abbrev iA (d n x y:Nat):a0I:=⟨some d,none,.ia n (.tmp x) (.tmp y)⟩
abbrev lN (d s:Nat):a0I:=⟨some d,none,.len (.tmp s)⟩
abbrev cK (d s:Nat):a0I:=⟨some d,none,.chk (.tmp s)⟩
abbrev gT (d g:Nat) (x:SOp):a0I:=⟨some d,some (g,true),x⟩
abbrev gF (d g:Nat) (x:SOp):a0I:=⟨some d,some (g,false),x⟩
abbrev lS (s:Nat):SOp:=.load false 1 (.tmp s)
abbrev aS (n s:Nat):SOp:=.load true n (.tmp s)
abbrev fS (n s:Nat):SOp:=.fa n (.tmp s)
abbrev iS (n x y:Nat):SOp:=.ia n (.tmp x) (.tmp y)
abbrev mS (s:Nat):SOp:=.mv (.tmp s)
abbrev nS (s:Nat):SOp:=.len (.tmp s)
abbrev bT (p:BinOp) (x y:Nat):SOp:=.bin 0 p (.tmp x) (.tmp y)
abbrev bI (p:BinOp) (x:Nat) (y:Int):SOp:=.bin 0 p (.tmp x) (.const (.int .i64 y))
abbrev pF (d x y:Nat):a0I:=⟨some d,none,.pick (.tmp x) (.tmp y) (.const (.bool false))⟩
abbrev pT (d x y:Nat):a0I:=⟨some d,none,.pick (.tmp x) (.const (.bool true)) (.tmp y)⟩
abbrev eX (d s k:Nat):a0I:=⟨some d,none,.ext (.tmp s) k⟩
abbrev bX (d e s:Nat):a0I:=⟨some d,none,.box e (.tmp s)⟩
abbrev cA (d f:Nat) (l:List Opd):a0I:=⟨some d,none,.call f l true⟩
abbrev cB (d f:Nat) (l:List Opd):a0I:=⟨some d,none,.call f l false⟩
abbrev cV (d:Nat) (k:IntKind) (s:Nat):a0I:=⟨some d,none,.conv k (.tmp s)⟩
abbrev mI (d:Nat) (n:Int):a0I:=⟨some d,none,.mv (.const (.int .i64 n))⟩
abbrev mB (d:Nat) (b:Bool):a0I:=⟨some d,none,.mv (.const (.bool b))⟩
abbrev mN (d:Nat):a0I:=⟨some d,none,.mv (.const (.slice none 0 0))⟩
abbrev nT (d s:Nat):a0I:=⟨some d,none,.un .not (.tmp s)⟩
abbrev sT (n x y:Nat):a0I:=⟨none,none,.store n (.tmp x) (.tmp y)⟩
abbrev zI:List Value:=[.bool false,.slice none 0 0]
abbrev zR:List Value:=[.bool false,.slice none 0 0,.bool false,.slice none 0 0]
abbrev zE:List Value:=[.int .i64 0,.bool false,.slice none 0 0,.bool false,.slice none 0 0]
abbrev zL:List Value:=[.int .i64 0,.slice none 0 0,.slice none 0 0,.slice none 0 0]
abbrev zA:List Value:=[.int .i64 0,.bool false,.slice none 0 0,.bool false,.slice none 0 0,.slice none 0 0,.slice none 0 0,.slice none 0 0]
attribute [simp] zI zR zE zL zA
abbrev SS:Type:=List a0I
abbrev SF:Type:=v0W
abbrev gR:List a0I→SCode:=.reg
abbrev qS:SCode→SCode→SCode:=.seq
inductive RK where | few | all
def RK.p {α:Type}:RK→α→α→α | .few,a,_=>a | .all,_,b=>b
abbrev RK.w (F:RK):Nat:=F.p 1 2
abbrev RK.b (F:RK):Bool:=F.p false true
abbrev f_4:Nat:=4
abbrev f_7:Nat:=7
abbrev f_8:Nat:=8
abbrev f_9:Nat:=9
abbrev W0X:Nat:=10
abbrev W0Y:Nat:=11
abbrev U0V:Nat:=12
abbrev W0Z:Nat:=14
abbrev Y0G:Nat:=15
abbrev Y0H:Nat:=16
abbrev V0i:Nat:=17
abbrev K0n:Nat:=21
abbrev X0a:Nat:=22
abbrev V0j:Nat:=23
abbrev Y0I:Nat:=24
abbrev Y0J:Nat:=25
abbrev Y0K:Nat:=26
abbrev X0b:Nat:=27
abbrev X0c:Nat:=28
abbrev Y0L:Nat:=29
abbrev Y0M:Nat:=30
abbrev Y0N:Nat:=31
abbrev M0R:Nat:=32
abbrev X0d:Nat:=33
abbrev Y0O:Nat:=34
abbrev X0e:Nat:=35
abbrev y0L:Nat:=39
abbrev Y0P:Nat:=40
abbrev X0f:Nat:=41
abbrev Y0Q:Nat:=42
abbrev V0k:Nat:=43
abbrev X0g:Nat:=44
abbrev Y0R:Nat:=45
abbrev X0h:Nat:=46
abbrev X0i:Nat:=47
abbrev Y0S:Nat:=48
abbrev Y0T:Nat:=49
abbrev Y0U:Nat:=50
abbrev Y0V:Nat:=51
abbrev Y0W:Nat:=52
abbrev Y0X:Nat:=53
abbrev Y0Y:Nat:=54
abbrev Y0Z:Nat:=55
abbrev t0x:Nat:=56
abbrev M0S:Nat:=57
abbrev Z0a:Nat:=58
abbrev Z0b:Nat:=59
abbrev X0j:Nat:=60
abbrev X0k:Nat:=61
abbrev V0l:Nat:=62
abbrev A0X:Nat:=65
abbrev Z0c:Nat:=66
abbrev Z0d:Nat:=68
abbrev A0Y:Nat:=69
abbrev Z0e:Nat:=70
abbrev Z0f:Nat:=71
abbrev X0l:Nat:=72
abbrev Z0g:Nat:=73
abbrev Z0h:Nat:=74
abbrev Z0i:Nat:=75
abbrev w0r:Nat:=76
abbrev X0m:Nat:=77
abbrev M0T:Nat:=78
abbrev K0o:Nat:=79
abbrev M0U:Nat:=80
abbrev Z0j:Nat:=81
abbrev Z0k:Nat:=82
abbrev Z0l:Nat:=83
abbrev K0p:Nat:=84
abbrev b1z:Nat:=85
abbrev A0Z:Nat:=86
abbrev X0n:Nat:=87
abbrev Z0m:Nat:=88
abbrev B0a:Nat:=89
abbrev s0f:Nat:=90
abbrev Z0n:Nat:=91
abbrev Z0o:Nat:=92
abbrev Z0p:Nat:=93
abbrev V0m:Nat:=94
abbrev M0V:Nat:=95
abbrev Z0q:Nat:=96
abbrev X0o:Nat:=97
abbrev V0n:Nat:=98
abbrev Z0r:Nat:=99
abbrev t0R:Nat:=100
abbrev A0D:Nat:=101
abbrev A0E:Nat:=102
abbrev k0d:Nat:=103
abbrev t0S:Nat:=104
abbrev A0F:Nat:=105
abbrev g0O:Nat:=106
abbrev e0o:Nat:=107
abbrev g0c:Nat:=108
abbrev A0G:Nat:=109
abbrev y0z:Nat:=110
abbrev y0A:Nat:=111
abbrev f1r:Nat:=112
abbrev r0X:Nat:=113
abbrev U0P:Nat:=114
abbrev U0Q:Nat:=115
abbrev U0R:Nat:=116
abbrev U0S:Nat:=117
abbrev U0T:Nat:=118
abbrev U0U:Nat:=119
abbrev U0W:Nat:=120
abbrev y0B:Nat:=121
abbrev p0T:Nat:=122
abbrev A0H:Nat:=123
abbrev r0Y:Nat:=124
abbrev y0C:Nat:=125
abbrev g0d:Nat:=126
abbrev A0I:Nat:=127
abbrev A0J:Nat:=128
abbrev A0K:Nat:=129
abbrev r0Z:Nat:=130
abbrev y0D:Nat:=131
abbrev n0O:Nat:=132
abbrev s0a:Nat:=133
abbrev A0L:Nat:=134
abbrev m0c:Nat:=135
abbrev U0X:Nat:=136
abbrev U0Y:Nat:=137
abbrev U0Z:Nat:=138
abbrev V0a:Nat:=139
abbrev V0b:Nat:=140
abbrev V0c:Nat:=141
abbrev V0d:Nat:=142
abbrev n0P:Nat:=143
abbrev y0E:Nat:=144
abbrev V0e:Nat:=145
abbrev t0T:Nat:=146
abbrev A0M:Nat:=147
abbrev s0b:Nat:=148
abbrev y0F:Nat:=149
abbrev V0f:Nat:=150
abbrev A0N:Nat:=151
abbrev A0O:Nat:=152
abbrev A0P:Nat:=153
abbrev A0Q:Nat:=154
abbrev n0Q:Nat:=155
abbrev y0G:Nat:=156
abbrev V0g:Nat:=157
abbrev t0U:Nat:=158
abbrev s0c:Nat:=159
abbrev V0h:Nat:=160
abbrev A0R:Nat:=161
abbrev y0H:Nat:=162
abbrev A0S:Nat:=163
abbrev A0T:Nat:=164
abbrev A0U:Nat:=165
abbrev y0I:Nat:=181
abbrev m0d:Nat:=182
abbrev s0d:Nat:=183
abbrev k0e:Nat:=184
abbrev n0R:Nat:=185
abbrev p0U:Nat:=186
abbrev A0V:Nat:=187
abbrev y0J:Nat:=188
abbrev m0e:Nat:=189
abbrev s0e:Nat:=190
abbrev j0q:Nat:=191
abbrev n0S:Nat:=192
abbrev p0V:Nat:=193
abbrev y0K:Nat:=194
abbrev A0W:Nat:=195
abbrev t0V:Nat:=196
abbrev d0J:Nat:=2
abbrev e0F:Nat:=3
abbrev v0Y:Nat:=9
abbrev a0L:Nat:=24
abbrev b0H:Nat:=28
abbrev a0a:Nat:=38
abbrev a0b:Nat:=40
abbrev a0F:Nat:=42
abbrev a0M:Nat:=43
abbrev b0U:Nat:=45
abbrev b0i:Nat:=54
abbrev f0K:Nat:=64
abbrev l0K:Nat:=75
abbrev b0J:Nat:=79
abbrev a0h:Nat:=96
abbrev a0O:Nat:=137
abbrev a0l:Nat:=143
abbrev a0m:Nat:=162
abbrev a0C:Nat:=163
abbrev a0c:Nat:=167
abbrev a0H:Nat:=179
abbrev a0d:Nat:=183
abbrev e0U:Nat:=185
abbrev f0B:Nat:=226
def a1c:SS:=[bX 4 a0L 0,bX 5 b0H 1,mB 8 false]
def a1d:SS:=[lA 13 1 4,lA 14 6 5,mV 15 2,cA 16 f_7 [t 13,t 14,t 15],mV 17 16,gF 18 17 (aS 1 4),gF 19 17 (aS 6 5),gF 20 17 (.call f_8 [t 18,t 19] true),gF 21 17 (.un .not (t 20)),pT 22 17 21,mV 23 22,gF 24 23 (mS 3),gF 25 23 (.call W0Z [t 24] true),pT 26 23 25,mV 27 26,gF 28 27 (mS 3),gF 29 27 (nS 28),gF 30 27 (mS 2),gF 31 27 (nS 30),gF 32 27 (bT .neq 29 31),pT 33 27 32,mV 34 33,gF 35 34 (fS 0 4),gF 36 34 (lS 35),gF 37 34 (nS 36),gF 38 34 (bI .gtr 37 6),pT 39 34 38]
def v0E:SS:=[cA 40 f_9 [],mV 8 40]
def a1e:SS:=[lA 42 1 4,lA 43 6 5,mV 44 2,cA 45 W0X [t 42,t 43,t 44],mV 41 45,eX 46 41 0,eX 47 41 1,mV 9 46,mV 10 47]
def a1f:SS:=[lA 49 1 4,lA 50 6 5,mV 51 2,mV 52 3,cB 53 Y0G [t 51,t 52],cA 54 W0X [t 49,t 50,t 53],mV 48 54,eX 55 48 0,eX 56 48 1,mV 11 55,mV 12 56]
def a1g:SS:=[mV 57 10,cA 58 U0V [t 57],o 59 (bI .neq 58 0),mV 60 59,gF 61 60 (mS 12),gF 62 60 (.call U0V [t 61] true),gF 63 60 (bI .neq 62 0),pT 64 60 63]
def W0h:SS:=[cA 65 f_9 [],mV 8 65]
def a1h:SS:=[mV 66 9,mV 67 11,cA 68 Y0H [t 66,t 67],mV 69 68,gT 70 69 (.call f_9 [] true),pF 71 69 70,mV 8 71]
def s_4:SF:=⟨4,72,[.tmp 8],
 (qS (gR a1c) (qS (qS (gR a1d) (.cond (t 39) (qS (gR v0E) .ret) .skip)) (qS (gR a1e) (qS (.draw a1f [0,0,0,0,12,31,63,127,127,255,1023] []) (qS (qS (gR a1g) (.cond (t 64) (qS (gR W0h) .ret) .skip)) (qS (gR a1h) .ret))))))⟩
def a1w:SS:=[bX 3 a0L 0,bX 4 b0H 1,mB 6 false]
def a1x:SS:=[fA 7 0 3,lD 8 7,cA 9 Y0I [t 8],mV 10 9,gF 11 10 (mS 2),gF 12 10 (.call W0Z [t 11] true),pT 13 10 12,mV 14 13,gF 15 14 (aS 6 4),gF 16 14 (.lit b0H [.int .i64 0,.int .i64 0,.int .i64 0,.slice none 0 0,.slice none 0 0,.slice none 0 0] 1 [(0,6,t 15)]),gF 17 14 (.build [.slice none 0 0,.slice none 0 0,.slice none 0 0,.slice none 0 0] [(2,1,t 16)]),gF 18 14 (.call Y0J [t 17] true),pT 19 14 18,mV 6 19]
def s_7:SF:=⟨3,20,[.tmp 6],
 (qS (gR a1w) (qS (gR a1x) .ret))⟩
def a1A:SS:=[bX 2 a0L 0,bX 3 b0H 1,mB 4 false]
def z0u:SS:=[fA 5 0 2,lD 6 5,lN 7 6,o 8 (bI .leq 7 8),mV 9 8,gT 10 9 (fS 4 3),gT 11 9 (lS 10),gT 12 9 (nS 11),gT 13 9 (bI .leq 12 3),pF 14 9 13,mV 15 14,gT 16 15 (fS 2 3),gT 17 15 (lS 16),gT 18 15 (bI .leq 17 3),pF 19 15 18,mV 20 19,gT 21 20 (fS 3 3),gT 22 20 (lS 21),gT 23 20 (nS 22),gT 24 20 (bI .leq 23 6),pF 25 20 24,mV 4 25]
def s_8:SF:=⟨2,26,[.tmp 4],
 (qS (gR a1A) (qS (gR z0u) .ret))⟩
def a1B:SS:=[mB 0 false]
def a1C:SS:=[cA 5 K0n [i 1],o 6 (.lit a0a zI 1 [(0,2,t 5)]),cA 7 K0n [i 1],o 8 (.build [.slice none 0 0,.slice none 0 0,.bool false,.slice none 0 0] [(0,1,t 6),(2,2,t 7)]),o 9 (.lit f0K [.slice none 0 0,.slice none 0 0,.bool false,.slice none 0 0] 1 [(0,4,t 8)]),o 10 (.build [.int .i64 0,.int .i64 0,.int .i64 0,.slice none 0 0,.slice none 0 0,.slice none 0 0] [(4,1,t 9)]),o 1 (.alloc b0H [.int .i64 0,.int .i64 0,.int .i64 0,.slice none 0 0,.slice none 0 0,.slice none 0 0]),sT 6 1 10]
def a1D:SS:=[cB 12 X0a [i 1],lA 13 6 1,cB 14 V0j [i 3],o 15 (.build zE [(1,4,t 14)]),o 16 (.build zE [(0,1,i 1)]),o 17 (.lit a0F zE 2 [(0,5,t 15),(5,5,t 16)]),cB 18 W0Y [t 12,t 13,t 17,i 0],mV 11 18,eX 19 11 0,eX 20 11 1,eX 21 11 2,o 2 (.alloc a0F zE),o 3 (.alloc b0U zA),sT 5 2 19,sT 8 3 20,mV 4 21]
def a1E:SS:=[mV 22 4,cA 23 U0V [t 22],o 24 (bI .eql 23 0),mV 25 24,gT 26 25 (fS 0 2),gT 27 25 (lS 26),gT 28 25 (bI .eql 27 0),pF 29 25 28,mV 30 29,gT 31 30 (fS 1 2),gT 32 30 (aS 4 31),gT 33 30 (.call V0j [i 4] false),gT 34 30 (.call Y0K [t 32,t 33] true),pF 35 30 34,mV 0 35]
def s_9:SF:=⟨0,36,[.tmp 0],
 (qS (gR a1B) (qS (gR a1C) (qS (.draw a1D [0,0,1,5,0,29,63,127,255,255,255,0,0,6655,15359,32767] []) (qS (.draw a1E [0,1,3,7,15,31,63,127,255,511,1023,511,4095,8191,16383] []) .ret))))⟩
def N0l:SS:=[bX 3 a0L 0,bX 4 b0H 1,mN 6,mI 7 0]
def N0m:SS:=[mN 8]
def N0n:SS:=[fA 13 0 3,lD 14 13,lN 15 14,mI 16 0]
def Z0U:SS:=[o 17 (bT .lss 16 15)]
def N0o:SS:=[mV 18 16,mV 9 18]
def N0p:SS:=[lA 20 1 3,lA 21 6 4,mV 22 2,mV 23 9,cA 24 W0Y [t 20,t 21,t 22,t 23],mV 19 24,eX 25 19 0,eX 26 19 1,eX 27 19 2,o 10 (.alloc a0F zE),o 11 (.alloc b0U zA),sT 5 10 25,sT 8 11 26,mV 12 27]
def D0d:SS:=[mV 28 12,o 29 (bI .neq 28 0)]
def N0q:SS:=[mV 30 12,mN 6,mV 7 30]
def N0r:SS:=[mV 31 8,lA 32 5 10,o 33 (.lit a0F zE 1 [(0,5,t 32)]),o 34 (.app a0F 5 72 (t 31) (t 33)),mV 8 34]
def Z0V:SS:=[o 35 (bI .add 16 1),mV 16 35]
def D0c:SS:=[mV 36 8,mV 6 36,mI 7 0]
def b1K:SF:=⟨3,37,[.tmp 6,.tmp 7],
 (qS (gR N0l) (qS (gR N0m) (qS (qS (gR N0n) (.block 0 (.loop (qS (gR Z0U) (qS (.cond (t 17) .skip (.exit 0)) (qS (.block 1 (qS (gR N0o) (qS (gR N0p) (qS (qS (gR D0d) (.cond (t 29) (qS (gR N0q) .ret) .skip)) (gR N0r))))) (gR Z0V))))))) (qS (gR D0c) .ret))))⟩
def N0s:SS:=[bX 4 a0L 0,bX 5 b0H 1,o 8 (.alloc a0F zE),o 9 (.alloc b0U zA),mI 10 0]
def N0t:SS:=[lA 17 1 4,lA 18 6 5,mV 19 2,mV 20 3,cA 21 X0b [t 17,t 18,t 19,t 20],nT 22 21]
def N0u:SS:=[o 23 (.build zE []),o 24 (.build zA []),sT 5 8 23,sT 8 9 24,mI 10 1]
def N0v:SS:=[mV 25 2,cA 26 X0c [t 25]]
def N0w:SS:=[o 27 (.build zE [(0,1,(.const (.int .i64 (-1))))]),o 28 (.build zA []),sT 5 8 27,sT 8 9 28,mI 10 0]
def N0x:SS:=[lA 30 1 4,lA 31 6 5,mV 32 2,mV 33 3,cA 34 Y0L [t 30,t 31,t 32,t 33],mV 29 34,eX 35 29 0,eX 36 29 1,eX 37 29 2,o 11 (.alloc b0J zL),o 12 (.alloc a0b zR),sT 4 11 35,sT 4 12 36,mV 13 37]
def N0y:SS:=[mV 38 13,nT 39 38]
def Z0W:SS:=[o 40 (.build zE []),o 41 (.build zA []),sT 5 8 40,sT 8 9 41,mI 10 1]
def N0z:SS:=[lA 43 4 11,cA 44 Y0M [t 43],mV 42 44,eX 45 42 0,eX 46 42 1,eX 47 42 2,o 14 (.alloc b0U zA),sT 8 14 45,mV 15 46,mV 16 47]
def N0A:SS:=[mV 49 16,o 50 (bI .neq 49 0),mV 48 50]
def V0R:SS:=[o 51 (.build zE []),o 52 (.build zA []),mV 53 16,sT 5 8 51,sT 8 9 52,mV 10 53]
def q0K:SS:=[fA 55 0 14,lD 56 55,o 57 (bI .eql 56 2),mV 54 57]
def D0s:SS:=[o 58 (.build zE [(0,1,(.const (.int .i64 (-1))))]),lA 59 8 14,sT 5 8 58,sT 8 9 59,mI 10 0]
def u0A:SS:=[fA 61 0 14,lD 62 61,o 63 (bI .eql 62 3),mV 60 63]
def D0t:SS:=[o 64 (.build zE [(0,1,i 1)]),lA 65 8 14,sT 5 8 64,sT 8 9 65,mI 10 0]
def D0u:SS:=[fA 66 1 14,lA 67 4 66,cB 68 M0R [t 67],lA 69 4 12,cB 70 Y0N [t 68,t 69],lA 71 8 14,sT 5 8 70,sT 8 9 71,mI 10 0]
def b1L:SF:=⟨4,72,[.cell 8 true 5,.cell 9 true 8,.tmp 10],
 (qS (gR N0s) (qS (qS (gR N0t) (.cond (t 22) (qS (gR N0u) .ret) .skip)) (qS (qS (gR N0v) (.cond (t 26) (qS (gR N0w) .ret) .skip)) (qS (gR N0x) (qS (qS (gR N0y) (.cond (t 39) (qS (gR Z0W) .ret) .skip)) (qS (gR N0z) (qS (.block 0 (qS (gR N0A) (.cond (t 48) (qS (gR V0R) .ret) (qS (gR q0K) (.cond (t 54) (qS (.draw D0s [0,0,1,7,15] [(1,2)]) .ret) (qS (gR u0A) (.cond (t 60) (qS (.draw D0t [0,0,1,7,15] [(1,2)]) .ret) .skip))))))) (qS (.draw D0u [0,1,3,0,15,0,31,127,255] [(5,6)]) .ret))))))))⟩
def N0B:SS:=[mI 2 0]
def N0C:SS:=[mV 3 0,mV 2 3]
def b1M:SF:=⟨1,4,[.tmp 2],
 (qS (gR N0B) (qS (gR N0C) .ret))⟩
def F0e:SS:=[mB 2 false]
def F0f:SS:=[mV 4 0,lN 5 4,o 6 (bI .gtr 5 100)]
def N0D:SS:=[mB 2 true]
def N0E:SS:=[mI 3 0]
def N0F:SS:=[mV 7 3,mV 8 0,lN 9 8,o 10 (bT .lss 7 9)]
def N0G:SS:=[mV 13 0,mV 14 3,iA 15 5 13 14,fA 16 1 15,lA 17 4 16,o 18 (.lit a0b zR 1 [(0,4,t 17)]),cA 19 X0d [t 18]]
def N0H:SS:=[mB 2 true]
def N0I:SS:=[mV 11 3,o 12 (bI .add 11 1),mV 3 12]
def N0J:SS:=[mB 2 false]
def a1I:SF:=⟨1,20,[.tmp 2],
 (qS (gR F0e) (qS (qS (gR F0f) (.cond (t 6) (qS (gR N0D) .ret) .skip)) (qS (qS (gR N0E) (.block 0 (.loop (qS (qS (gR N0F) (.cond (t 10) .skip (.exit 0))) (qS (.block 1 (qS (gR N0G) (.cond (t 19) (qS (gR N0H) .ret) .skip))) (gR N0I)))))) (qS (gR N0J) .ret))))⟩
def N0K:SS:=[mN 4]
def N0L:SS:=[mN 5]
def N0M:SS:=[mI 6 0]
def s0Y:SS:=[mV 7 6,mV 8 0,lN 9 8,o 10 (bT .lss 7 9),mV 11 10,gT 12 11 (mS 6),gT 13 11 (mS 1),gT 14 11 (nS 13),gT 15 11 (bT .lss 12 14),pF 16 11 15]
def N0N:SS:=[mV 19 5,mV 20 0,mV 21 6,iA 22 5 20 21,lA 23 5 22,mV 24 1,mV 25 6,iA 26 5 24 25,lA 27 5 26,cA 28 Y0O [t 23,t 27],o 29 (.lit a0F zE 1 [(0,5,t 28)]),o 30 (.app a0F 5 72 (t 19) (t 29)),mV 5 30]
def N0O:SS:=[mV 17 6,o 18 (bI .add 17 1),mV 6 18]
def N0P:SS:=[mV 31 5,mV 4 31]
def b1N:SF:=⟨2,32,[.tmp 4],
 (qS (gR N0K) (qS (gR N0L) (qS (qS (gR N0M) (.block 0 (.loop (qS (qS (gR s0Y) (.cond (t 16) .skip (.exit 0))) (qS (.block 1 (.draw N0N [0,0,0,6,14,0,0,96,224,510,1022,2047,4095] [])) (gR N0O)))))) (qS (gR N0P) .ret))))⟩
def G0u:SS:=[mB 4 false]
def G0v:SS:=[mV 6 0,lN 7 6,mV 8 1,lN 9 8,o 10 (bT .neq 7 9)]
def N0Q:SS:=[mB 4 false]
def N0R:SS:=[mI 5 0]
def N0S:SS:=[mV 11 5,mV 12 0,lN 13 12,o 14 (bT .lss 11 13)]
def N0T:SS:=[mV 17 0,mV 18 5,iA 19 5 17 18,lA 20 5 19,mV 21 1,mV 22 5,iA 23 5 21 22,lA 24 5 23,cA 25 X0e [t 20,t 24],o 26 (bI .gtr 25 0)]
def N0U:SS:=[mB 4 false]
def N0V:SS:=[mV 15 5,o 16 (bI .add 15 1),mV 5 16]
def N0W:SS:=[mB 4 true]
def a1J:SF:=⟨2,27,[.tmp 4],
 (qS (gR G0u) (qS (qS (gR G0v) (.cond (t 10) (qS (gR N0Q) .ret) .skip)) (qS (qS (gR N0R) (.block 0 (.loop (qS (qS (gR N0S) (.cond (t 14) .skip (.exit 0))) (qS (.block 1 (qS (.draw N0T [0,0,3,7,0,0,48,112,255,511] []) (.cond (t 26) (qS (gR N0U) .ret) .skip))) (gR N0V)))))) (qS (gR N0W) .ret))))⟩
def N0X:SS:=[mB 2 false]
def N0Y:SS:=[mI 3 0]
def N0Z:SS:=[mV 4 3,mV 5 0,lN 6 5,o 7 (bT .lss 4 6)]
def G0w:SS:=[mV 10 0,mV 11 3,iA 12 2 10 11,fA 13 1 12,lD 14 13,lN 15 14,o 16 (bI .gtr 15 40)]
def O0a:SS:=[mB 2 true]
def O0b:SS:=[mV 8 3,o 9 (bI .add 8 1),mV 3 9]
def O0c:SS:=[mB 2 false]
def b1O:SF:=⟨1,17,[.tmp 2],
 (qS (gR N0X) (qS (qS (gR N0Y) (.block 0 (.loop (qS (qS (gR N0Z) (.cond (t 7) .skip (.exit 0))) (qS (.block 1 (qS (gR G0w) (.cond (t 16) (qS (gR O0a) .ret) .skip))) (gR O0b)))))) (qS (gR O0c) .ret)))⟩
def O0d:SS:=[o 2 (.alloc a0a zI)]
def H0l:SS:=[mV 4 0,cV 5 .u64 4,mV 3 5]
def H0m:SS:=[mV 6 0,o 7 (bI .lss 6 0)]
def O0e:SS:=[mV 8 3,o 9 (.un .neg (t 8)),mV 3 9]
def H0n:SS:=[mV 10 0,o 11 (bI .lss 10 0),mV 12 3,cV 13 .u32 12,mV 14 3,o 15 (.bin 0 .shr (t 14) (.const (.int .u64 32))),cV 16 .u32 15,o 17 (.lit a0h [.int .u32 0] 2 [(0,1,t 13),(1,1,t 16)]),cA 18 y0L [t 11,t 17],sT 2 2 18]
def b1P:SF:=⟨1,19,[.cell 2 true 2],
 (qS (gR O0d) (qS (gR H0l) (qS (qS (gR H0m) (.cond (t 7) (gR O0e) .skip)) (qS (gR H0n) .ret))))⟩
def O0f:SS:=[o 2 (.alloc a0L [.slice none 0 0])]
def O0g:SS:=[mV 5 0,cA 6 Y0P [t 5],mV 0 6]
def O0h:SS:=[mN 3]
def O0i:SS:=[mI 4 0]
def O0j:SS:=[mV 7 4,mV 8 0,o 9 (bT .lss 7 8)]
def O0k:SS:=[mV 12 3,mV 13 0,mV 14 4,o 15 (.call X0f [t 13,t 14,i 1,(.const (.int .i64 (-1))),i 0] true),mV 16 0,mV 17 4,o 18 (.call X0f [t 16,t 17,(.const (.int .i64 (-1))),(.const (.int .i64 (-1))),i 0] true),o 19 (.lit a0M [.slice none 0 0] 2 [(0,1,t 15),(1,1,t 18)]),o 20 (.app a0M 1 24 (t 12) (t 19)),mV 3 20]
def O0l:SS:=[mV 10 4,o 11 (bI .add 10 1),mV 4 11]
def O0m:SS:=[mV 21 3,cA 22 Y0Q [t 21],sT 1 2 22]
def b1Q:SF:=⟨1,23,[.cell 2 true 1],
 (qS (gR O0f) (qS (gR O0g) (qS (gR O0h) (qS (qS (gR O0i) (.block 0 (.loop (qS (qS (gR O0j) (.cond (t 9) .skip (.exit 0))) (qS (.block 1 (gR O0k)) (gR O0l)))))) (qS (gR O0m) .ret)))))⟩
def O0n:SS:=[o 2 (.alloc a0b zR)]
def O0o:SS:=[mV 3 0,cA 4 K0n [t 3],cA 5 K0n [i 1],o 6 (.build zR [(0,2,t 4),(2,2,t 5)]),sT 4 2 6]
def b1R:SF:=⟨1,7,[.cell 2 true 4],
 (qS (gR O0n) (qS (gR O0o) .ret))⟩
def O0p:SS:=[mB 2 false]
def O0q:SS:=[mI 3 0]
def O0r:SS:=[mI 4 0]
def x0G:SS:=[mV 5 4,mV 6 0,lN 7 6,o 8 (bT .lss 5 7),mV 9 8,gT 10 9 (mS 3),gT 11 9 (bI .leq 10 200),pF 12 9 11]
def O0s:SS:=[mV 15 3,o 16 (bI .add 15 1),mV 17 0,mV 18 4,iA 19 1 17 18,lD 20 19,lN 21 20,o 22 (.mnx false (t 21) [i 201]),o 23 (bT .add 16 22),mV 3 23]
def H0o:SS:=[mV 24 0,mV 25 4,iA 26 1 24 25,lD 27 26,lN 28 27,o 29 (bI .leq 28 200),mV 30 29,gT 31 30 (mS 0),gT 32 30 (mS 4),gT 33 30 (iS 1 31 32),gT 34 30 (lS 33),gT 35 30 (.call X0d [t 34] true),pF 36 30 35]
def O0t:SS:=[mB 2 true]
def H0p:SS:=[mV 13 4,o 14 (bI .add 13 1),mV 4 14]
def H0q:SS:=[mV 37 3,o 38 (bI .gtr 37 200),mV 2 38]
def b1S:SF:=⟨1,39,[.tmp 2],
 (qS (gR O0p) (qS (gR O0q) (qS (qS (gR O0r) (.block 0 (.loop (qS (qS (gR x0G) (.cond (t 12) .skip (.exit 0))) (qS (.block 1 (qS (gR O0s) (qS (gR H0o) (.cond (t 36) (qS (gR O0t) .ret) .skip)))) (gR H0p)))))) (qS (gR H0q) .ret))))⟩
def O0u:SS:=[bX 1 l0K 0,mB 2 false]
def O0v:SS:=[fA 5 0 1,lD 6 5,lN 7 6,o 8 (bI .gtr 7 60),mV 9 8,gF 10 9 (fS 1 1),gF 11 9 (lS 10),gF 12 9 (nS 11),gF 13 9 (bI .gtr 12 10),pT 14 9 13,mV 15 14,gF 16 15 (fS 2 1),gF 17 15 (lS 16),gF 18 15 (nS 17),gF 19 15 (bI .gtr 18 300),pT 20 15 19,mV 21 20,gF 22 21 (fS 3 1),gF 23 21 (lS 22),gF 24 21 (nS 23),gF 25 21 (bI .gtr 24 300),pT 26 21 25]
def Z0X:SS:=[mB 2 true]
def O0w:SS:=[mI 3 0]
def O0x:SS:=[mV 27 3,fA 28 2 1,lD 29 28,lN 30 29,o 31 (bT .lss 27 30)]
def x0H:SS:=[fA 34 2 1,lD 35 34,mV 36 3,iA 37 6 35 36,fA 38 3 37,lD 39 38,lN 40 39,o 41 (bI .gtr 40 100),mV 42 41,gF 43 42 (fS 2 1),gF 44 42 (lS 43),gF 45 42 (mS 3),gF 46 42 (iS 6 44 45),gF 47 42 (fS 4 46),gF 48 42 (lS 47),gF 49 42 (nS 48),gF 50 42 (bI .gtr 49 20),pT 51 42 50,mV 52 51,gF 53 52 (fS 2 1),gF 54 52 (lS 53),gF 55 52 (mS 3),gF 56 52 (iS 6 54 55),gF 57 52 (fS 3 56),gF 58 52 (lS 57),gF 59 52 (.call V0k [t 58] true),pT 60 52 59,mV 61 60,gF 62 61 (fS 2 1),gF 63 61 (lS 62),gF 64 61 (mS 3),gF 65 61 (iS 6 63 64),gF 66 61 (fS 4 65),gF 67 61 (lS 66),gF 68 61 (.call V0k [t 67] true),pT 69 61 68]
def s0Z:SS:=[mB 2 true]
def O0y:SS:=[mV 32 3,o 33 (bI .add 32 1),mV 3 33]
def O0z:SS:=[mI 4 0]
def O0A:SS:=[mV 70 4,fA 71 3 1,lD 72 71,lN 73 72,o 74 (bT .lss 70 73)]
def W0e:SS:=[fA 77 3 1,lD 78 77,mV 79 4,iA 80 4 78 79,fA 81 3 80,lD 82 81,lN 83 82,o 84 (bI .gtr 83 100),mV 85 84,gF 86 85 (fS 3 1),gF 87 85 (lS 86),gF 88 85 (mS 4),gF 89 85 (iS 4 87 88),gF 90 85 (fS 3 89),gF 91 85 (lS 90),gF 92 85 (.call V0k [t 91] true),pT 93 85 92]
def W0f:SS:=[mB 2 true]
def W0g:SS:=[mV 75 4,o 76 (bI .add 75 1),mV 4 76]
def H0r:SS:=[mB 2 false]
def b1T:SF:=⟨1,94,[.tmp 2],
 (qS (gR O0u) (qS (qS (gR O0v) (.cond (t 26) (qS (gR Z0X) .ret) .skip)) (qS (qS (gR O0w) (.block 0 (.loop (qS (qS (gR O0x) (.cond (t 31) .skip (.exit 0))) (qS (.block 1 (qS (gR x0H) (.cond (t 69) (qS (gR s0Z) .ret) .skip))) (gR O0y)))))) (qS (qS (gR O0z) (.block 2 (.loop (qS (qS (gR O0A) (.cond (t 74) .skip (.exit 2))) (qS (.block 3 (qS (gR W0e) (.cond (t 93) (qS (gR W0f) .ret) .skip))) (gR W0g)))))) (qS (gR H0r) .ret)))))⟩
def O0B:SS:=[bX 2 a0b 0,bX 3 a0b 1,mB 4 false]
def O0C:SS:=[fA 5 0 2,lA 6 2 5,fA 7 0 3,lA 8 2 7,cA 9 X0g [t 6,t 8],mV 10 9,gT 11 10 (fS 2 2),gT 12 10 (aS 2 11),gT 13 10 (fS 2 3),gT 14 10 (aS 2 13),gT 15 10 (.call X0g [t 12,t 14] true),pF 16 10 15,mV 4 16]
def b1U:SF:=⟨2,17,[.tmp 4],
 (qS (gR O0B) (qS (gR O0C) .ret))⟩
def O0D:SS:=[bX 4 a0L 0,bX 5 b0H 1,mB 8 false]
def O0E:SS:=[fA 10 4 5,lD 11 10,lN 12 11,mV 9 12]
def O0F:SS:=[lA 13 1 4,mV 14 9,mV 15 2,cA 16 Y0R [t 13,t 14,t 15],mV 17 16,gT 18 17 (mS 3),gT 19 17 (bI .geq 18 0),pF 20 17 19,mV 21 20,gT 22 21 (mS 3),gT 23 21 (fS 0 4),gT 24 21 (lS 23),gT 25 21 (nS 24),gT 26 21 (bT .lss 22 25),pF 27 21 26,mV 28 27,gT 29 28 (fS 2 5),gT 30 28 (lS 29),gT 31 28 (bI .geq 30 0),pF 32 28 31,mV 33 32,gT 34 33 (fS 4 5),gT 35 33 (lS 34),gT 36 33 (mS 9),gT 37 33 (fS 2 5),gT 38 33 (lS 37),gT 39 33 (.call X0h [t 35,t 36,t 38] true),pF 40 33 39,mV 41 40,gT 42 41 (fS 3 5),gT 43 41 (lS 42),gT 44 41 (mS 9),gT 45 41 (fS 2 5),gT 46 41 (lS 45),gT 47 41 (.call X0h [t 43,t 44,t 46] true),pF 48 41 47,mV 8 48]
def b1V:SF:=⟨4,49,[.tmp 8],
 (qS (gR O0D) (qS (gR O0E) (qS (gR O0F) .ret)))⟩
def O0G:SS:=[mB 2 false]
def O0H:SS:=[mV 3 0,o 4 (.call X0i [t 3,.fn Y0S] true),mV 2 4]
def b1W:SF:=⟨1,5,[.tmp 2],
 (qS (gR O0G) (qS (gR O0H) .ret))⟩
def O0I:SS:=[bX 4 a0L 0,bX 5 b0H 1,o 8 (.alloc b0J zL),o 9 (.alloc a0b zR),mB 10 false]
def O0J:SS:=[lA 14 1 4,lA 15 6 5,mV 16 2,mV 17 3,cA 18 X0b [t 14,t 15,t 16,t 17],nT 19 18,mV 20 19,gF 21 20 (aS 1 4),gF 22 20 (aS 6 5),gF 23 20 (mS 2),gF 24 20 (.call Y0T [t 21,t 22,t 23] true),gF 25 20 (.un .not (t 24)),pT 26 20 25,mV 27 26,gF 28 27 (mS 2),gF 29 27 (.call X0c [t 28] true),pT 30 27 29]
def Z0Y:SS:=[o 31 (.build zL []),o 32 (.build zR []),sT 4 8 31,sT 4 9 32,mB 10 false]
def O0K:SS:=[lA 33 1 4,mV 34 2,fA 35 4 5,lD 36 35,lN 37 36,fA 38 2 5,lD 39 38,o 40 (bT .add 37 39),cA 41 Y0U [t 33,t 34,t 40],o 11 (.alloc b0J zL),sT 4 11 41]
def O0L:SS:=[fA 42 3 5,lD 43 42,cA 44 Y0V [t 11,t 43]]
def O0M:SS:=[lA 46 1 4,lA 47 6 5,mV 48 3,cA 49 Y0W [t 46,t 47,t 48],mV 45 49,eX 50 45 0,eX 51 45 1,o 13 (.alloc a0b zR),mV 12 50,sT 4 13 51]
def O0N:SS:=[mV 52 12,fA 53 3 11,sT 1 53 52]
def O0O:SS:=[lA 54 4 11,lA 55 4 13,sT 4 8 54,sT 4 9 55,mB 10 true]
def b1X:SF:=⟨4,56,[.cell 8 true 4,.cell 9 true 4,.tmp 10],
 (qS (gR O0I) (qS (qS (gR O0J) (.cond (t 30) (qS (gR Z0Y) .ret) .skip)) (qS (gR O0K) (qS (gR O0L) (qS (gR O0M) (qS (gR O0N) (qS (.draw O0O [0,0,1,7,15] [(1,2)]) .ret)))))))⟩
def O0P:SS:=[bX 1 b0J 0,o 2 (.alloc b0U zA),mI 3 0,mI 4 0]
def O0Q:SS:=[lA 7 4 1,cA 8 Y0X [t 7],nT 9 8]
def Z0Z:SS:=[o 10 (.build zA []),sT 8 2 10,mI 3 0,mI 4 1]
def O0R:SS:=[lA 12 4 1,cA 13 Y0Y [t 12],mV 11 13,eX 14 11 0,eX 15 11 1,o 5 (.alloc b0U zA),sT 8 5 14,mV 6 15]
def O0S:SS:=[lA 16 8 5,mV 17 6,sT 8 2 16,mV 3 17,mI 4 0]
def b1Y:SF:=⟨1,18,[.cell 2 true 8,.tmp 3,.tmp 4],
 (qS (gR O0P) (qS (qS (gR O0Q) (.cond (t 9) (qS (gR Z0Z) .ret) .skip)) (qS (gR O0R) (qS (gR O0S) .ret))))⟩
def O0T:SS:=[bX 2 a0F 0,bX 3 a0b 1,o 4 (.alloc a0F zE)]
def O0U:SS:=[lA 5 5 2,cA 6 Y0Z [t 5],sT 5 2 6]
def H0s:SS:=[fA 7 0 2,lD 8 7,o 9 (bI .neq 8 0)]
def O0V:SS:=[lA 10 5 2,sT 5 4 10]
def O0W:SS:=[fA 11 1 2,lA 12 4 11,lA 13 4 3,cA 14 t0x [t 12,t 13],cA 15 M0R [t 14],sT 5 4 15]
def b1Z:SF:=⟨2,16,[.cell 4 true 5],
 (qS (gR O0T) (qS (gR O0U) (qS (qS (gR H0s) (.cond (t 9) (qS (gR O0V) .ret) .skip)) (qS (gR O0W) .ret))))⟩
def O0X:SS:=[bX 1 a0b 0,o 2 (.alloc a0F zE)]
def O0Y:SS:=[lA 3 4 1,o 4 (.build zR []),cA 5 t0x [t 3,t 4],o 6 (.build zE [(1,4,t 5)]),sT 5 2 6]
def c1a:SF:=⟨1,7,[.cell 2 true 5],
 (qS (gR O0X) (qS (gR O0Y) .ret))⟩
def O0Z:SS:=[mB 2 false]
def P0a:SS:=[mI 3 0]
def P0b:SS:=[mV 4 3,mV 5 0,lN 6 5,o 7 (bT .lss 4 6)]
def x0I:SS:=[mV 10 0,mV 11 3,iA 12 4 10 11,fA 13 0 12,fA 14 1 13,lD 15 14,lN 16 15,o 17 (bI .gtr 16 6),mV 18 17,gF 19 18 (mS 0),gF 20 18 (mS 3),gF 21 18 (iS 4 19 20),gF 22 18 (fS 2 21),gF 23 18 (fS 1 22),gF 24 18 (lS 23),gF 25 18 (nS 24),gF 26 18 (bI .gtr 25 6),pT 27 18 26]
def H0t:SS:=[mB 2 true]
def P0c:SS:=[mV 8 3,o 9 (bI .add 8 1),mV 3 9]
def P0d:SS:=[mB 2 false]
def c1b:SF:=⟨1,28,[.tmp 2],
 (qS (gR O0Z) (qS (qS (gR P0a) (.block 0 (.loop (qS (qS (gR P0b) (.cond (t 7) .skip (.exit 0))) (qS (.block 1 (qS (gR x0I) (.cond (t 27) (qS (gR H0t) .ret) .skip))) (gR P0c)))))) (qS (gR P0d) .ret)))⟩
def P0e:SS:=[bX 2 a0F 0,bX 3 a0F 1,o 4 (.alloc a0F zE)]
def P0f:SS:=[lA 5 5 2,lA 6 5 3,cA 7 X0e [t 5,t 6],o 8 (bI .geq 7 0)]
def P0g:SS:=[lA 9 5 2,cA 10 M0S [t 9],sT 5 4 10]
def P0h:SS:=[lA 11 5 3,cA 12 M0S [t 11],sT 5 4 12]
def c1c:SF:=⟨2,13,[.cell 4 true 5],
 (qS (gR P0e) (qS (qS (gR P0f) (.cond (t 8) (qS (gR P0g) .ret) .skip)) (qS (gR P0h) .ret)))⟩
def P0i:SS:=[bX 2 a0F 0,bX 3 a0F 1,mI 4 0]
def P0j:SS:=[lA 5 5 2,cA 6 M0S [t 5],sT 5 2 6]
def P0k:SS:=[lA 7 5 3,cA 8 M0S [t 7],sT 5 3 8]
def P0l:SS:=[fA 9 0 2,lD 10 9,fA 11 0 3,lD 12 11,o 13 (bT .neq 10 12)]
def H0u:SS:=[fA 14 0 2,lD 15 14,fA 16 0 3,lD 17 16,o 18 (bT .lss 15 17)]
def P0m:SS:=[o 4 (.mv (.const (.int .i64 (-1))))]
def P0n:SS:=[mI 4 1]
def H0v:SS:=[fA 19 0 2,lD 20 19,o 21 (bI .neq 20 0)]
def P0o:SS:=[mI 4 0]
def P0p:SS:=[fA 22 1 2,lA 23 4 22,fA 24 1 3,lA 25 4 24,cA 26 Z0a [t 23,t 25],mV 4 26]
def c1d:SF:=⟨2,27,[.tmp 4],
 (qS (gR P0i) (qS (gR P0j) (qS (gR P0k) (qS (qS (gR P0l) (.cond (t 13) (qS (qS (gR H0u) (.cond (t 18) (qS (gR P0m) .ret) .skip)) (qS (gR P0n) .ret)) .skip)) (qS (qS (gR H0v) (.cond (t 21) (qS (gR P0o) .ret) .skip)) (qS (gR P0p) .ret))))))⟩
def P0q:SS:=[o 4 (.alloc a0a zI)]
def P0r:SS:=[mV 5 1,cA 6 A0Y [t 5],mV 1 6]
def H0w:SS:=[mV 7 1,lN 8 7,o 9 (bI .eql 8 0)]
def P0s:SS:=[o 10 (.build zI []),sT 2 4 10]
def P0t:SS:=[mV 11 0,o 12 (.lit a0h [.int .u32 0] 0 []),mV 13 1,o 14 (.app a0h 1 4 (t 12) (t 13)),o 15 (.build zI [(0,1,t 11),(1,1,t 14)]),sT 2 4 15]
def c1e:SF:=⟨2,16,[.cell 4 true 2],
 (qS (gR P0q) (qS (gR P0r) (qS (qS (gR H0w) (.cond (t 9) (qS (gR P0s) .ret) .skip)) (qS (gR P0t) .ret))))⟩
def P0u:SS:=[mI 2 0]
def P0v:SS:=[mV 3 0,o 4 (.mnx false (t 3) [i 6]),o 5 (.mnx true (i 0) [t 4]),mV 2 5]
def c1f:SF:=⟨1,6,[.tmp 2],
 (qS (gR P0u) (qS (gR P0v) .ret))⟩
def P0w:SS:=[mN 10]
def P0x:SS:=[mN 11]
def P0y:SS:=[mI 12 0]
def P0z:SS:=[mV 14 12,mV 15 0,o 16 (bT .lss 14 15)]
def P0A:SS:=[mI 13 0]
def P0B:SS:=[mV 19 12,mV 20 1,o 21 (bT .eql 19 20)]
def P0C:SS:=[mV 22 2,mV 13 22]
def P0D:SS:=[mV 23 12,mV 24 3,o 25 (bT .eql 23 24)]
def P0E:SS:=[mV 26 4,mV 13 26]
def P0F:SS:=[mV 27 11,mV 28 13,cA 29 V0j [t 28],o 30 (.lit a0b zR 1 [(0,4,t 29)]),o 31 (.app a0b 4 64 (t 27) (t 30)),mV 11 31]
def H0x:SS:=[mV 17 12,o 18 (bI .add 17 1),mV 12 18]
def H0y:SS:=[mV 32 11,mV 10 32]
def c1g:SF:=⟨5,33,[.tmp 10],
 (qS (gR P0w) (qS (gR P0x) (qS (qS (gR P0y) (.block 0 (.loop (qS (qS (gR P0z) (.cond (t 16) .skip (.exit 0))) (qS (.block 1 (qS (gR P0A) (qS (qS (gR P0B) (.cond (t 21) (gR P0C) .skip)) (qS (qS (gR P0D) (.cond (t 25) (gR P0E) .skip)) (gR P0F))))) (gR H0x)))))) (qS (gR H0y) .ret))))⟩
def P0G:SS:=[o 2 (.alloc a0L [.slice none 0 0])]
def P0H:SS:=[mV 3 0,mV 4 0,lN 5 4,o 6 (.mnx false (t 5) [i 40]),o 7 (.sl a0M 1 (t 3) none (some (t 6)) none),o 8 (.build [.slice none 0 0] [(0,1,t 7)]),sT 1 2 8]
def c1h:SF:=⟨1,9,[.cell 2 true 1],
 (qS (gR P0G) (qS (gR P0H) .ret))⟩
def P0I:SS:=[mB 2 false]
def P0J:SS:=[mI 3 0]
def P0K:SS:=[mV 4 3,mV 5 0,lN 6 5,o 7 (bT .lss 4 6)]
def x0J:SS:=[mV 10 0,mV 11 3,iA 12 4 10 11,fA 13 0 12,lD 14 13,lN 15 14,o 16 (bI .gtr 15 60),mV 17 16,gF 18 17 (mS 0),gF 19 17 (mS 3),gF 20 17 (iS 4 18 19),gF 21 17 (fS 1 20),gF 22 17 (lS 21),gF 23 17 (nS 22),gF 24 17 (bI .gtr 23 60),pT 25 17 24,mV 26 25,gF 27 26 (mS 0),gF 28 26 (mS 3),gF 29 26 (iS 4 27 28),gF 30 26 (fS 2 29),gF 31 26 (aS 2 30),gF 32 26 (.lit a0a zI 1 [(0,2,t 31)]),gF 33 26 (.call V0i [t 32] true),pT 34 26 33,mV 35 34,gF 36 35 (mS 0),gF 37 35 (mS 3),gF 38 35 (iS 4 36 37),gF 39 35 (fS 0 38),gF 40 35 (lS 39),gF 41 35 (.call V0i [t 40] true),pT 42 35 41,mV 43 42,gF 44 43 (mS 0),gF 45 43 (mS 3),gF 46 43 (iS 4 44 45),gF 47 43 (fS 1 46),gF 48 43 (lS 47),gF 49 43 (.call V0i [t 48] true),pT 50 43 49]
def p0r:SS:=[mB 2 true]
def P0L:SS:=[mV 8 3,o 9 (bI .add 8 1),mV 3 9]
def P0M:SS:=[mB 2 false]
def c1i:SF:=⟨1,51,[.tmp 2],
 (qS (gR P0I) (qS (qS (gR P0J) (.block 0 (.loop (qS (qS (gR P0K) (.cond (t 7) .skip (.exit 0))) (qS (.block 1 (qS (gR x0J) (.cond (t 50) (qS (gR p0r) .ret) .skip))) (gR P0L)))))) (qS (gR P0M) .ret)))⟩
def P0N:SS:=[bX 2 a0a 0,bX 3 a0a 1,mB 4 false]
def x0K:SS:=[fA 6 0 2,lD 7 6,fA 8 0 3,lD 9 8,o 10 (.bin 1 .neq (t 7) (t 9)),mV 11 10,gF 12 11 (fS 1 2),gF 13 11 (lS 12),gF 14 11 (nS 13),gF 15 11 (fS 1 3),gF 16 11 (lS 15),gF 17 11 (nS 16),gF 18 11 (bT .neq 14 17),pT 19 11 18]
def H0z:SS:=[mB 4 false]
def P0O:SS:=[mI 5 0]
def P0P:SS:=[mV 20 5,fA 21 1 2,lD 22 21,lN 23 22,o 24 (bT .lss 20 23)]
def P0Q:SS:=[fA 27 1 2,lD 28 27,mV 29 5,iA 30 1 28 29,lD 31 30,fA 32 1 3,lD 33 32,mV 34 5,iA 35 1 33 34,lD 36 35,o 37 (bT .neq 31 36)]
def P0R:SS:=[mB 4 false]
def P0S:SS:=[mV 25 5,o 26 (bI .add 25 1),mV 5 26]
def P0T:SS:=[mB 4 true]
def c1j:SF:=⟨2,38,[.tmp 4],
 (qS (gR P0N) (qS (qS (gR x0K) (.cond (t 19) (qS (gR H0z) .ret) .skip)) (qS (qS (gR P0O) (.block 0 (.loop (qS (qS (gR P0P) (.cond (t 24) .skip (.exit 0))) (qS (.block 1 (qS (.draw P0Q [0,1,0,7,15,0,32,0,224,480,1023] []) (.cond (t 37) (qS (gR P0R) .ret) .skip))) (gR P0S)))))) (qS (gR P0T) .ret))))⟩
def P0U:SS:=[bX 3 a0L 0,mB 6 false]
def P0V:SS:=[lA 7 1 3,mV 8 1,cA 9 Z0e [t 7,t 8],mV 10 9,gT 11 10 (mS 2),gT 12 10 (nS 11),gT 13 10 (fS 0 3),gT 14 10 (lS 13),gT 15 10 (nS 14),gT 16 10 (bT .eql 12 15),pF 17 10 16,mV 18 17,gT 19 18 (mS 2),gT 20 18 (.call X0i [t 19,.fn Z0f] true),gT 21 18 (.un .not (t 20)),pF 22 18 21,mV 6 22]
def c1k:SF:=⟨3,23,[.tmp 6],
 (qS (gR P0U) (qS (gR P0V) .ret))⟩
def P0W:SS:=[bX 4 e0F 1,bX 5 e0F 2,mB 6 false]
def P0X:SS:=[mV 7 0,o 8 (.mkfn (.func Z0h) [] [t 4,t 5]),cA 9 Z0g [t 7,t 8],nT 10 9,mV 6 10]
def c1l:SF:=⟨3,11,[.tmp 6],
 (qS (gR P0W) (qS (gR P0X) .ret))⟩
def P0Y:SS:=[mB 4 false]
def P0Z:SS:=[mV 5 0,mV 6 1,cA 7 Z0i [t 5,t 6],o 8 (bI .geq 7 0),mV 4 8]
def c1m:SF:=⟨2,9,[.tmp 4],
 (qS (gR P0Y) (qS (gR P0Z) .ret))⟩
def Q0a:SS:=[bX 1 a0F 0,mB 2 false]
def Q0b:SS:=[fA 3 0 1,lD 4 3,o 5 (bI .lss 4 0),mV 2 5]
def c1n:SF:=⟨1,6,[.tmp 2],
 (qS (gR Q0a) (qS (gR Q0b) .ret))⟩
def Q0c:SS:=[bX 3 a0L 0,bX 4 b0H 1,mB 6 false]
def Q0d:SS:=[fA 10 3 4,lD 11 10,lN 12 11,mV 7 12]
def Q0e:SS:=[mV 13 2,lN 14 13,mI 15 0]
def a1a:SS:=[o 16 (bT .lss 15 14)]
def Q0f:SS:=[iA 17 5 13 15,lA 18 5 17,o 9 (.alloc a0F zE),sT 5 9 18]
def H0A:SS:=[fA 19 0 9,lD 20 19,o 21 (bI .eql 20 0)]
def Q0g:SS:=[mV 22 7,o 23 (bI .add 22 1),mV 7 23]
def a1b:SS:=[o 24 (bI .add 15 1),mV 15 24]
def H0B:SS:=[mV 25 7,o 26 (bI .leq 25 60),mV 27 26,gT 28 27 (fS 4 4),gT 29 27 (lS 28),gT 30 27 (nS 29),gT 31 27 (fS 2 4),gT 32 27 (lS 31),gT 33 27 (bT .add 30 32),gT 34 27 (bI .leq 33 60),pF 35 27 34,mV 6 35]
def c1o:SF:=⟨3,36,[.tmp 6],
 (qS (gR Q0c) (qS (gR Q0d) (qS (qS (gR Q0e) (.block 0 (.loop (qS (gR a1a) (qS (.cond (t 16) .skip (.exit 0)) (qS (.block 1 (qS (gR Q0f) (qS (gR H0A) (.cond (t 21) (gR Q0g) .skip)))) (gR a1b))))))) (qS (gR H0B) .ret))))⟩
def Q0h:SS:=[bX 3 a0L 0,o 6 (.alloc b0J zL)]
def Q0i:SS:=[mV 13 2,o 14 (.build zL [(0,1,t 13)]),o 7 (.alloc b0J zL),sT 4 7 14]
def Q0j:SS:=[mV 15 1,lN 16 15,mI 17 0]
def a1i:SS:=[o 18 (bT .lss 17 16)]
def Q0k:SS:=[mV 19 17,iA 20 5 15 17,lA 21 5 20,o 9 (.alloc a0F zE),mV 8 19,sT 5 9 21]
def H0H:SS:=[fA 22 0 9,lD 23 22,o 24 (bI .neq 23 0)]
def Q0l:SS:=[mV 25 2,o 26 (.mk a0b 64 zR (i 0) (t 25)),mV 10 26]
def Q0m:SS:=[fA 27 0 3,lD 28 27,mV 29 8,iA 30 1 28 29,lD 31 30,lN 32 31,mI 33 0]
def a1j:SS:=[o 34 (bT .lss 33 32)]
def Q0n:SS:=[iA 35 4 31 33,lA 36 4 35,o 12 (.alloc a0b zR),sT 4 12 36]
def H0C:SS:=[mV 37 10,lA 38 4 12,o 39 (.build zR []),cA 40 t0x [t 38,t 39],o 41 (.lit a0b zR 1 [(0,4,t 40)]),o 42 (.app a0b 4 64 (t 37) (t 41)),mV 10 42]
def W0i:SS:=[o 43 (bI .add 33 1),mV 33 43]
def H0D:SS:=[mV 44 10,lN 45 44,mV 46 2,o 47 (bT .lss 45 46)]
def H0E:SS:=[mV 48 10,cA 49 w0r [i 0],o 50 (.lit a0b zR 1 [(0,4,t 49)]),o 51 (.app a0b 4 64 (t 48) (t 50)),mV 10 51]
def H0F:SS:=[fA 52 1 7,lD 53 52,mV 54 10,o 55 (.lit a0M [.slice none 0 0] 1 [(0,1,t 54)]),o 56 (.app a0M 1 24 (t 53) (t 55)),fA 57 2 7,lD 58 57,fA 59 1 9,lA 60 4 59,o 61 (.build zR []),cB 62 t0x [t 60,t 61],o 63 (.lit a0b zR 1 [(0,4,t 62)]),o 64 (.app a0b 4 64 (t 58) (t 63)),fA 65 1 7,sT 1 65 56,fA 66 2 7,sT 1 66 64]
def W0j:SS:=[o 67 (bI .add 17 1),mV 17 67]
def H0G:SS:=[lA 68 4 7,sT 4 6 68]
def c1p:SF:=⟨3,69,[.cell 6 true 4],
 (qS (gR Q0h) (qS (gR Q0i) (qS (qS (gR Q0j) (.block 0 (.loop (qS (gR a1i) (qS (.cond (t 18) .skip (.exit 0)) (qS (.block 1 (qS (gR Q0k) (qS (qS (gR H0H) (.cond (t 24) (.exit 1) .skip)) (qS (gR Q0l) (qS (qS (gR Q0m) (.block 2 (.loop (qS (gR a1j) (qS (.cond (t 34) .skip (.exit 2)) (qS (.block 3 (qS (gR Q0n) (gR H0C))) (gR W0i))))))) (qS (.block 4 (.loop (qS (qS (gR H0D) (.cond (t 47) .skip (.exit 4))) (.block 5 (gR H0E))))) (.draw H0F [0,1,0,4,15,0,32,0,128,0,927,1951,4095,127,16383,32767,65535] [(4,6),(4,8)]))))))) (gR W0j))))))) (qS (gR H0G) .ret))))⟩
def Q0o:SS:=[mV 9 1,lN 10 9,mI 11 0]
def a1k:SS:=[o 12 (bT .lss 11 10)]
def Q0p:SS:=[iA 13 4 9 11,lA 14 4 13,o 5 (.alloc f0K [.slice none 0 0,.slice none 0 0,.bool false,.slice none 0 0]),sT 4 5 14]
def Q0q:SS:=[mN 6]
def Q0r:SS:=[fA 15 0 5,lD 16 15,fA 17 1 5,lD 18 17,o 19 (.lit b0i [.slice none 0 0] 2 [(0,1,t 16),(1,1,t 18)]),cA 20 X0m [t 19],lN 21 20,mI 22 0]
def a1l:SS:=[o 23 (bT .lss 22 21)]
def Q0s:SS:=[iA 24 2 20 22,lA 25 2 24,o 8 (.alloc a0a zI),sT 2 8 25]
def Q0t:SS:=[mV 26 6,lA 27 2 8,cA 28 M0T [t 27],o 29 (.lit a0b zR 1 [(0,4,t 28)]),o 30 (.app a0b 4 64 (t 26) (t 29)),mV 6 30]
def a1m:SS:=[o 31 (bI .add 22 1),mV 22 31]
def Q0u:SS:=[mV 32 0,mV 33 0,mV 34 0,cK 35 34,fA 36 1 35,lD 37 36,mV 38 6,o 39 (.lit a0M [.slice none 0 0] 1 [(0,1,t 38)]),o 40 (.app a0M 1 24 (t 37) (t 39)),mV 41 0,cK 42 41,fA 43 2 42,lD 44 43,fA 45 2 5,lA 46 2 45,cB 47 K0o [t 46],cB 48 M0T [t 47],o 49 (.lit a0b zR 1 [(0,4,t 48)]),o 50 (.app a0b 4 64 (t 44) (t 49)),cK 51 32,fA 52 1 51,sT 1 52 40,cK 53 33,fA 54 2 53,sT 1 54 50]
def W0k:SS:=[o 55 (bI .add 11 1),mV 11 55]
def c1q:SF:=⟨2,56,[],
 (qS (gR Q0o) (.block 0 (.loop (qS (gR a1k) (qS (.cond (t 12) .skip (.exit 0)) (qS (.block 1 (qS (gR Q0p) (qS (gR Q0q) (qS (qS (gR Q0r) (.block 2 (.loop (qS (gR a1l) (qS (.cond (t 23) .skip (.exit 2)) (qS (.block 3 (qS (gR Q0s) (gR Q0t))) (gR a1m))))))) (.draw Q0u [0,0,0,4,12,28,0,64,252,0,512,1536,3584,0,8192,25084,57852,123388,262140,524285,1048573,2097149,4194303,8388607,16777215] [(8,12),(8,14)]))))) (gR W0k)))))))⟩
def Q0v:SS:=[bX 3 a0L 0,bX 4 b0H 1,mN 6,o 7 (.alloc a0b zR)]
def Q0w:SS:=[fA 17 4 4,lD 18 17,lN 19 18,mV 8 19]
def Q0x:SS:=[mV 20 8,fA 21 2 4,lD 22 21,o 23 (bT .add 20 22),o 24 (.mk a0b 64 zR (t 23) (t 23)),mV 9 24]
def Q0y:SS:=[mV 25 9,lN 26 25,mI 27 0]
def a1n:SS:=[o 28 (bT .lss 27 26)]
def Q0z:SS:=[mV 29 27,mV 10 29]
def Q0A:SS:=[mV 30 9,mV 31 10,cA 32 w0r [i 0],iA 33 4 30 31,sT 4 33 32]
def a1o:SS:=[o 34 (bI .add 27 1),mV 27 34]
def Q0B:SS:=[cA 35 w0r [i 0],o 11 (.alloc a0b zR),sT 4 11 35]
def Q0C:SS:=[fA 36 4 4,lD 37 36,lN 38 37,mI 39 0]
def W0l:SS:=[o 40 (bT .lss 39 38)]
def H0I:SS:=[mV 41 39,iA 42 4 37 39,lA 43 4 42,o 13 (.alloc f0K [.slice none 0 0,.slice none 0 0,.bool false,.slice none 0 0]),mV 12 41,sT 4 13 43]
def H0J:SS:=[fA 44 0 3,lD 45 44,mV 46 2,iA 47 1 45 46,lD 48 47,mV 49 12,iA 50 4 48 49,lA 51 4 50,o 14 (.alloc a0b zR),sT 4 14 51]
def H0K:SS:=[fA 52 0 13,lD 53 52,fA 54 1 13,lD 55 54,o 56 (.lit b0i [.slice none 0 0] 2 [(0,1,t 53),(1,1,t 55)]),cA 57 X0m [t 56],lN 58 57,mI 59 0]
def W0m:SS:=[o 60 (bT .lss 59 58)]
def H0L:SS:=[mV 61 59,iA 62 2 57 59,lA 63 2 62,o 16 (.alloc a0a zI),mV 15 61,sT 2 16 63]
def H0M:SS:=[mV 64 9,mV 65 15,mV 66 9,mV 67 15,iA 68 4 66 67,lA 69 4 68,lA 70 4 14,lA 71 2 16,cB 72 M0T [t 71],cB 73 M0U [t 70,t 72],cA 74 t0x [t 69,t 73],iA 75 4 64 65,sT 4 75 74]
def W0n:SS:=[o 76 (bI .add 59 1),mV 59 76]
def H0N:SS:=[lA 77 4 11,lA 78 4 14,fA 79 2 13,lA 80 2 79,cB 81 M0T [t 80],cB 82 M0U [t 78,t 81],cA 83 t0x [t 77,t 82],sT 4 11 83]
def W0o:SS:=[o 84 (bI .add 39 1),mV 39 84]
def H0O:SS:=[mV 85 9,lA 86 4 11,mV 6 85,sT 4 7 86]
def c1r:SF:=⟨3,87,[.tmp 6,.cell 7 true 4],
 (qS (gR Q0v) (qS (gR Q0w) (qS (gR Q0x) (qS (qS (gR Q0y) (.block 0 (.loop (qS (gR a1n) (qS (.cond (t 28) .skip (.exit 0)) (qS (.block 1 (qS (gR Q0z) (gR Q0A))) (gR a1o))))))) (qS (gR Q0B) (qS (qS (gR Q0C) (.block 2 (.loop (qS (gR W0l) (qS (.cond (t 40) .skip (.exit 2)) (qS (.block 3 (qS (gR H0I) (qS (gR H0J) (qS (qS (gR H0K) (.block 4 (.loop (qS (gR W0m) (qS (.cond (t 60) .skip (.exit 4)) (qS (.block 5 (qS (gR H0L) (.draw H0M [0,0,0,0,12,28,0,0,128,448,1020,2047,4095] []))) (gR W0n))))))) (.draw H0N [0,0,0,4,12,30,63,127] []))))) (gR W0o))))))) (qS (.draw H0O [0,0,1,7] []) .ret)))))))⟩
def Q0D:SS:=[bX 1 b0J 0,mB 2 false]
def n0e:SS:=[fA 3 0 1,lD 4 3,o 5 (bI .lss 4 0),mV 6 5,gF 7 6 (fS 0 1),gF 8 6 (lS 7),gF 9 6 (bI .gtr 8 60),pT 10 6 9,mV 11 10,gF 12 11 (fS 1 1),gF 13 11 (lS 12),gF 14 11 (nS 13),gF 15 11 (bI .gtr 14 60),pT 16 11 15,mV 17 16,gF 18 17 (fS 2 1),gF 19 17 (lS 18),gF 20 17 (nS 19),gF 21 17 (fS 1 1),gF 22 17 (lS 21),gF 23 17 (nS 22),gF 24 17 (bT .neq 20 23),pT 25 17 24,mV 26 25,gF 27 26 (fS 3 1),gF 28 26 (lS 27),gF 29 26 (nS 28),gF 30 26 (fS 0 1),gF 31 26 (lS 30),gF 32 26 (bT .neq 29 31),pT 33 26 32]
def p0s:SS:=[mB 2 false]
def Q0E:SS:=[fA 34 1 1,lD 35 34,o 36 (.mkfn (.func Z0k) [] [t 1]),cA 37 Z0j [t 35,t 36],nT 38 37,mV 2 38]
def c1s:SF:=⟨1,39,[.tmp 2],
 (qS (gR Q0D) (qS (qS (gR n0e) (.cond (t 33) (qS (gR p0s) .ret) .skip)) (qS (gR Q0E) .ret)))⟩
def Q0F:SS:=[bX 1 b0J 0,o 2 (.alloc b0U zA),mI 3 0]
def Q0G:SS:=[lA 8 4 1,cA 9 Z0l [t 8],o 4 (.alloc a0O [.int .i64 0,.slice none 0 0,.slice none 0 0,.slice none 0 0,.bool false,.slice none 0 0,.bool false,.slice none 0 0]),sT 8 4 9]
def Q0H:SS:=[lA 11 4 1,lA 12 8 4,cA 13 K0p [t 11,t 12],mV 10 13,eX 14 10 0,eX 15 10 1,eX 16 10 2,o 5 (.alloc b0U zA),sT 8 5 14,mV 6 15,mV 7 16]
def H0P:SS:=[mV 17 7]
def Q0I:SS:=[lA 18 8 5,mV 19 6,sT 8 2 18,mV 3 19]
def Q0J:SS:=[o 20 (.build [] []),lA 21 4 1,lA 22 8 4,cA 23 b1z [t 20,t 21,t 22],eX 24 23 0,eX 25 23 1,sT 8 2 24,mV 3 25]
def c1t:SF:=⟨1,26,[.cell 2 true 8,.tmp 3],
 (qS (gR Q0F) (qS (gR Q0G) (qS (qS (gR Q0H) (qS (gR H0P) (.cond (t 17) (qS (gR Q0I) .ret) .skip))) (qS (gR Q0J) .ret))))⟩
def Q0K:SS:=[bX 1 a0F 0,o 2 (.alloc a0F zE)]
def Q0L:SS:=[lA 4 5 1,cA 5 X0l [t 4],nT 6 5,mV 3 6]
def Q0M:SS:=[o 7 (.build zR []),cA 8 M0R [t 7],sT 5 2 8]
def H0Q:SS:=[fA 10 0 1,lD 11 10,o 12 (bI .eql 11 0),mV 9 12]
def Q0N:SS:=[fA 13 1 1,lA 14 4 13,cA 15 M0R [t 14],sT 5 2 15]
def Q0O:SS:=[fA 16 0 1,lD 17 16,o 18 (.build zE [(0,1,t 17)]),sT 5 2 18]
def c1u:SF:=⟨1,19,[.cell 2 true 5],
 (qS (gR Q0K) (qS (.block 0 (qS (gR Q0L) (.cond (t 3) (qS (gR Q0M) .ret) (qS (gR H0Q) (.cond (t 9) (qS (gR Q0N) .ret) .skip))))) (qS (gR Q0O) .ret)))⟩
def Q0P:SS:=[bX 2 a0b 0,bX 3 a0b 1,o 4 (.alloc a0b zR)]
def Q0Q:SS:=[lA 5 4 2,cB 6 A0Z [t 5],lA 7 4 3,cA 8 A0Z [t 7],sT 4 2 6,sT 4 3 8]
def Q0R:SS:=[fA 9 0 2,lA 10 2 9,fA 11 2 3,lA 12 2 11,cB 13 s0f [t 10,t 12],fA 14 0 3,lA 15 2 14,fA 16 2 2,lA 17 2 16,cB 18 s0f [t 15,t 17],o 19 (.lit a0a zI 1 [(0,2,t 18)]),o 20 (.call Z0m [.fn B0a,t 13,t 19] false),fA 21 2 2,lA 22 2 21,fA 23 2 3,lA 24 2 23,cA 25 s0f [t 22,t 24],cA 26 X0n [t 20,t 25],sT 4 4 26]
def c1v:SF:=⟨2,27,[.cell 4 true 4],
 (qS (gR Q0P) (qS (.draw Q0Q [0,1,0,7,15,31] []) (qS (.draw Q0R [0,1,0,4,15,0,32,0,128,511,1023,2047,0,4096,0,16384,65535,131071,262143] []) .ret)))⟩
def Q0S:SS:=[bX 1 a0F 0,o 2 (.alloc a0F zE)]
def Q0T:SS:=[lA 3 5 1,cA 4 Z0n [t 3],nT 5 4]
def Q0U:SS:=[cA 6 X0k [],o 7 (.build zE [(1,4,t 6)]),sT 5 2 7]
def H0R:SS:=[fA 8 0 1,lD 9 8,o 10 (bI .neq 9 0)]
def Q0V:SS:=[lA 11 5 1,sT 5 2 11]
def Q0W:SS:=[fA 12 1 1,lA 13 4 12,cA 14 V0l [t 13],o 15 (.build zE [(1,4,t 14)]),sT 5 2 15]
def c1w:SF:=⟨1,16,[.cell 2 true 5],
 (qS (gR Q0S) (qS (qS (gR Q0T) (.cond (t 5) (qS (gR Q0U) .ret) .skip)) (qS (qS (gR H0R) (.cond (t 10) (qS (gR Q0V) .ret) .skip)) (qS (gR Q0W) .ret))))⟩
def Q0X:SS:=[bX 2 a0b 0,bX 3 a0b 1,mI 4 0]
def Q0Y:SS:=[lA 5 4 2,cA 6 V0l [t 5],sT 4 2 6]
def Q0Z:SS:=[lA 7 4 3,cA 8 V0l [t 7],sT 4 3 8]
def R0a:SS:=[fA 9 0 2,lA 10 2 9,fA 11 2 3,lA 12 2 11,cB 13 X0j [t 10,t 12],fA 14 0 3,lA 15 2 14,fA 16 2 2,lA 17 2 16,cA 18 X0j [t 15,t 17],cA 19 Z0o [t 13,t 18],mV 4 19]
def c1x:SF:=⟨2,20,[.tmp 4],
 (qS (gR Q0X) (qS (gR Q0Y) (qS (gR Q0Z) (qS (.draw R0a [0,1,0,4,15,0,32,0,128,511,1023,2047] []) .ret))))⟩
def R0b:SS:=[bX 2 a0a 0,bX 3 a0a 1,o 4 (.alloc a0a zI)]
def R0c:SS:=[lA 5 2 2,cA 6 A0X [t 5],sT 2 2 6]
def R0d:SS:=[lA 7 2 3,cA 8 A0X [t 7],sT 2 3 8]
def H0S:SS:=[fA 9 0 2,lD 10 9,fA 11 0 3,lD 12 11,o 13 (.bin 1 .eql (t 10) (t 12))]
def R0e:SS:=[fA 14 0 2,lD 15 14,fA 16 1 2,lD 17 16,fA 18 1 3,lD 19 18,cB 20 Z0p [t 17,t 19],cA 21 y0L [t 15,t 20],sT 2 4 21]
def R0f:SS:=[fA 22 1 2,lD 23 22,fA 24 1 3,lD 25 24,cA 26 V0m [t 23,t 25],o 27 (bI .geq 26 0)]
def R0g:SS:=[fA 28 0 2,lD 29 28,fA 30 1 2,lD 31 30,fA 32 1 3,lD 33 32,cB 34 M0V [t 31,t 33],cA 35 y0L [t 29,t 34],sT 2 4 35]
def R0h:SS:=[fA 36 0 3,lD 37 36,fA 38 1 3,lD 39 38,fA 40 1 2,lD 41 40,cB 42 M0V [t 39,t 41],cA 43 y0L [t 37,t 42],sT 2 4 43]
def c1y:SF:=⟨2,44,[.cell 4 true 2],
 (qS (gR R0b) (qS (gR R0c) (qS (gR R0d) (qS (qS (gR H0S) (.cond (t 13) (qS (.draw R0e [0,1,0,4,0,16,60,127,255] []) .ret) .skip)) (qS (qS (gR R0f) (.cond (t 27) (qS (.draw R0g [0,1,0,4,0,16,60,127,255] []) .ret) .skip)) (qS (.draw R0h [0,1,0,4,0,16,60,127,255] []) .ret))))))⟩
def R0i:SS:=[bX 2 a0a 0,bX 3 a0a 1,o 4 (.alloc a0a zI)]
def R0j:SS:=[lA 5 2 2,cA 6 A0X [t 5],sT 2 2 6]
def R0k:SS:=[lA 7 2 3,cA 8 A0X [t 7],sT 2 3 8]
def R0l:SS:=[fA 9 0 2,lD 10 9,fA 11 0 3,lD 12 11,o 13 (.bin 1 .neq (t 10) (t 12)),fA 14 1 2,lD 15 14,fA 16 1 3,lD 17 16,cB 18 Z0q [t 15,t 17],cA 19 y0L [t 13,t 18],sT 2 4 19]
def c1z:SF:=⟨2,20,[.cell 4 true 2],
 (qS (gR R0i) (qS (gR R0j) (qS (gR R0k) (qS (.draw R0l [0,1,0,4,15,0,32,0,128,480,1023,2047] []) .ret))))⟩
def R0m:SS:=[o 0 (.alloc a0b zR)]
def R0n:SS:=[cA 1 K0n [i 1],o 2 (.build zR [(2,2,t 1)]),sT 4 0 2]
def c1A:SF:=⟨0,3,[.cell 0 true 4],
 (qS (gR R0m) (qS (gR R0n) .ret))⟩
def R0o:SS:=[bX 1 a0b 0,o 2 (.alloc a0b zR)]
def R0p:SS:=[lA 3 4 1,cA 4 X0o [t 3],nT 5 4,mV 6 5,gF 7 6 (fS 2 1),gF 8 6 (fS 1 7),gF 9 6 (lS 8),gF 10 6 (nS 9),gF 11 6 (bI .eql 10 0),pT 12 6 11]
def H0T:SS:=[cA 13 X0k [],sT 4 2 13]
def R0q:SS:=[fA 14 0 1,fA 15 0 14,lD 16 15,fA 17 0 1,fA 18 1 17,lD 19 18,cB 20 y0L [t 16,t 19],fA 21 2 1,fA 22 1 21,lD 23 22,o 24 (.call y0L [(.const (.bool false)),t 23] true),o 25 (.build zR [(0,2,t 20),(2,2,t 24)]),sT 4 2 25]
def c1B:SF:=⟨1,26,[.cell 2 true 4],
 (qS (gR R0o) (qS (qS (gR R0p) (.cond (t 12) (qS (gR H0T) .ret) .skip)) (qS (.draw R0q [0,1,3,0,8,24,63,0,128,384,1023,2047,4095] []) .ret)))⟩
def R0r:SS:=[bX 1 a0a 0,o 2 (.alloc a0a zI)]
def R0s:SS:=[lA 3 2 1,cA 4 V0n [t 3],nT 5 4]
def R0t:SS:=[o 6 (.build zI []),sT 2 2 6]
def R0u:SS:=[lA 7 2 1,sT 2 2 7]
def c1C:SF:=⟨1,8,[.cell 2 true 2],
 (qS (gR R0r) (qS (qS (gR R0s) (.cond (t 5) (qS (gR R0t) .ret) .skip)) (qS (gR R0u) .ret)))⟩
def R0v:SS:=[bX 2 a0a 0,bX 3 a0a 1,o 4 (.alloc a0a zI)]
def R0w:SS:=[lA 9 2 2,cB 10 A0X [t 9],o 11 (.fld false 1 1 (t 10)),lA 12 2 3,cA 13 A0X [t 12],o 14 (.fld false 1 1 (t 13)),mV 5 11,mV 6 14]
def H0U:SS:=[mV 15 6,lN 16 15,o 17 (bI .gtr 16 0)]
def R0x:SS:=[mV 19 5,mV 20 6,cA 21 Z0r [t 19,t 20],mV 18 21,eX 22 18 0,eX 23 18 1,mV 7 22,mV 8 23]
def R0y:SS:=[mV 24 6,mV 5 24]
def R0z:SS:=[mV 25 8,mV 6 25]
def R0A:SS:=[mV 26 5,o 27 (.call y0L [(.const (.bool false)),t 26] true),sT 2 4 27]
def c1D:SF:=⟨2,28,[.cell 4 true 2],
 (qS (gR R0v) (qS (.draw R0w [0,1,3,0,11,27,31,127] []) (qS (.block 0 (.loop (qS (qS (gR H0U) (.cond (t 17) .skip (.exit 0))) (.block 1 (qS (gR R0x) (qS (gR R0y) (gR R0z))))))) (qS (gR R0A) .ret))))⟩
def R0B:SS:=[bX 1 a0a 0,o 2 (.alloc a0a zI)]
def R0C:SS:=[lA 3 2 1,cA 4 A0X [t 3],sT 2 1 4]
def R0D:SS:=[fA 5 0 1,lD 6 5,nT 7 6,fA 8 1 1,lD 9 8,cA 10 y0L [t 7,t 9],sT 2 2 10]
def c1E:SF:=⟨1,11,[.cell 2 true 2],
 (qS (gR R0B) (qS (gR R0C) (qS (gR R0D) .ret)))⟩
def R0E:SS:=[mN 2]
def R0F:SS:=[mV 4 0,lN 5 4,mV 3 5]
def H0V:SS:=[mV 6 3,o 7 (bI .gtr 6 0),mV 8 7,gT 9 8 (mS 0),gT 10 8 (mS 3),gT 11 8 (bI .sub 10 1),gT 12 8 (iS 1 9 11),gT 13 8 (lS 12),gT 14 8 (.bin 0 .eql (t 13) (.const (.int .u32 0))),pF 15 8 14]
def R0G:SS:=[mV 16 3,o 17 (bI .sub 16 1),mV 3 17]
def R0H:SS:=[mV 18 0,mV 19 3,o 20 (.sl a0h 1 (t 18) none (some (t 19)) none),mV 2 20]
def c1F:SF:=⟨1,21,[.tmp 2],
 (qS (gR R0E) (qS (gR R0F) (qS (.block 0 (.loop (qS (qS (gR H0V) (.cond (t 15) .skip (.exit 0))) (.block 1 (gR R0G))))) (qS (gR R0H) .ret))))⟩
def R0I:SS:=[bX 2 a0L 0,mB 4 false]
def t0a:SS:=[mV 9 1,o 10 (bI .lss 9 0),mV 11 10,gF 12 11 (mS 1),gF 13 11 (bI .gtr 12 6),pT 14 11 13,mV 15 14,gF 16 15 (fS 0 2),gF 17 15 (lS 16),gF 18 15 (nS 17),gF 19 15 (bI .gtr 18 40),pT 20 15 19]
def x0L:SS:=[mB 4 false]
def R0J:SS:=[fA 21 0 2,lD 22 21,lN 23 22,mI 24 0]
def a1p:SS:=[o 25 (bT .lss 24 23)]
def I0a:SS:=[iA 26 1 22 24,lD 27 26,mV 6 27]
def I0b:SS:=[mV 28 6,lN 29 28,mV 30 1,o 31 (bT .neq 29 30)]
def R0K:SS:=[mB 4 false]
def R0L:SS:=[mV 32 6,lN 33 32,mI 34 0]
def a1q:SS:=[o 35 (bT .lss 34 33)]
def H0W:SS:=[iA 36 4 32 34,lA 37 4 36,o 8 (.alloc a0b zR),sT 4 8 37]
def H0X:SS:=[lA 38 4 8,cA 39 t0R [t 38],nT 40 39]
def H0Y:SS:=[mB 4 false]
def W0p:SS:=[o 41 (bI .add 34 1),mV 34 41]
def W0q:SS:=[o 42 (bI .add 24 1),mV 24 42]
def H0Z:SS:=[mB 4 true]
def c1G:SF:=⟨2,43,[.tmp 4],
 (qS (gR R0I) (qS (qS (gR t0a) (.cond (t 20) (qS (gR x0L) .ret) .skip)) (qS (qS (gR R0J) (.block 0 (.loop (qS (gR a1p) (qS (.cond (t 25) .skip (.exit 0)) (qS (.block 1 (qS (gR I0a) (qS (qS (gR I0b) (.cond (t 31) (qS (gR R0K) .ret) .skip)) (qS (gR R0L) (.block 2 (.loop (qS (gR a1q) (qS (.cond (t 35) .skip (.exit 2)) (qS (.block 3 (qS (gR H0W) (qS (gR H0X) (.cond (t 40) (qS (gR H0Y) .ret) .skip)))) (gR W0p)))))))))) (gR W0q))))))) (qS (gR H0Z) .ret))))⟩
def R0M:SS:=[bX 1 a0F 0,mB 2 false]
def R0N:SS:=[lA 3 5 1,cA 4 X0l [t 3],nT 5 4,mV 2 5]
def c1H:SF:=⟨1,6,[.tmp 2],
 (qS (gR R0M) (qS (gR R0N) .ret))⟩
def R0O:SS:=[bX 1 a0F 0,mB 2 false]
def R0P:SS:=[fA 3 0 1,lD 4 3]
def R0Q:SS:=[o 6 (.bin 0 .eql (t 4) (.const (.int .i64 (-1)))),mV 5 6]
def x0M:SS:=[o 7 (bI .eql 4 1),mV 5 7]
def I0c:SS:=[fA 8 1 1,lA 9 4 8,cA 10 A0D [t 9],mV 2 10]
def I0d:SS:=[o 12 (bI .eql 4 0),mV 11 12]
def R0R:SS:=[fA 13 1 1,lA 14 4 13,cA 15 t0R [t 14],mV 2 15]
def R0S:SS:=[mB 2 false]
def c1I:SF:=⟨1,16,[.tmp 2],
 (qS (gR R0O) (qS (qS (gR R0P) (.block 0 (qS (qS (gR R0Q) (.cond (t 5) .skip (gR x0M))) (.cond (t 5) (qS (gR I0c) .ret) (qS (gR I0d) (.cond (t 11) (qS (gR R0R) .ret) .skip)))))) (qS (gR R0S) .ret)))⟩
def R0T:SS:=[mB 4 false]
def R0U:SS:=[mV 5 0,mV 6 1,cA 7 A0E [t 5,t 6],o 8 (bI .geq 7 0),mV 4 8]
def c1J:SF:=⟨2,9,[.tmp 4],
 (qS (gR R0T) (qS (gR R0U) .ret))⟩
def R0V:SS:=[bX 3 f0K 0,mB 4 false]
def R0W:SS:=[fA 5 0 3,lD 6 5,lN 7 6,lD 8 1,o 9 (bT .neq 7 8),mV 10 9,gF 11 10 (fS 1 3),gF 12 10 (lS 11),gF 13 10 (nS 12),gF 14 10 (lS 2),gF 15 10 (bT .neq 13 14),pT 16 10 15,mV 4 16]
def c1K:SF:=⟨3,17,[.tmp 4],
 (qS (gR R0V) (qS (gR R0W) .ret))⟩
def R0X:SS:=[mI 4 0]
def R0Y:SS:=[mV 6 0,lN 7 6,mI 8 0]
def a1r:SS:=[o 9 (bT .lss 8 7)]
def R0Z:SS:=[mV 10 8,mV 5 10]
def S0a:SS:=[mV 11 1,mV 12 0,mV 13 5,iA 14 5 12 13,lA 15 5 14,o 16 (.callv (t 11) [t 15] true)]
def S0b:SS:=[mV 17 5,mV 4 17]
def a1s:SS:=[o 18 (bI .add 8 1),mV 8 18]
def S0c:SS:=[o 4 (.mv (.const (.int .i64 (-1))))]
def c1L:SF:=⟨2,19,[.tmp 4],
 (qS (gR R0X) (qS (qS (gR R0Y) (.block 0 (.loop (qS (gR a1r) (qS (.cond (t 9) .skip (.exit 0)) (qS (.block 1 (qS (gR R0Z) (qS (gR S0a) (.cond (t 16) (qS (gR S0b) .ret) .skip)))) (gR a1s))))))) (qS (gR S0c) .ret)))⟩
def S0d:SS:=[o 2 (.alloc a0b zR)]
def S0e:SS:=[mV 3 0,cA 4 k0d [t 3],cA 5 t0S [],o 6 (.build zR [(0,2,t 4),(2,2,t 5)]),sT 4 2 6]
def c1M:SF:=⟨1,7,[.cell 2 true 4],
 (qS (gR S0d) (qS (gR S0e) .ret))⟩
def S0f:SS:=[mN 2]
def S0g:SS:=[mI 3 0]
def S0h:SS:=[mV 9 0,lN 10 9,mI 11 0]
def a1t:SS:=[o 12 (bT .lss 11 10)]
def S0i:SS:=[iA 13 1 9 11,lD 14 13,mV 5 14]
def S0j:SS:=[mV 15 3,mV 16 5,lN 17 16,o 18 (bT .add 15 17),mV 3 18]
def S0k:SS:=[mV 19 3,o 20 (bI .lss 19 0)]
def a1u:SS:=[o 21 (.iface v0Y (.const (.string ⟨#[108,101,110,32,111,117,116,32,111,102,32,114,97,110,103,101]⟩))),⟨none,none,.pan (t 21)⟩]
def a1v:SS:=[o 22 (bI .add 11 1),mV 11 22]
def S0l:SS:=[mV 23 3,o 24 (.call A0F [(.const (.slice none 0 0)),t 23] true),mV 6 24]
def I0e:SS:=[mV 25 0,lN 26 25,mI 27 0]
def W0r:SS:=[o 28 (bT .lss 27 26)]
def I0f:SS:=[iA 29 1 25 27,lD 30 29,mV 8 30]
def I0g:SS:=[mV 31 6,mV 32 8,o 33 (.app a0a 2 32 (t 31) (t 32)),mV 6 33]
def W0s:SS:=[o 34 (bI .add 27 1),mV 27 34]
def I0h:SS:=[mV 35 6,mV 2 35]
def c1N:SF:=⟨1,36,[.tmp 2],
 (qS (gR S0f) (qS (gR S0g) (qS (qS (gR S0h) (.block 0 (.loop (qS (gR a1t) (qS (.cond (t 12) .skip (.exit 0)) (qS (.block 1 (qS (gR S0i) (qS (gR S0j) (qS (gR S0k) (.cond (t 20) (gR a1u) .skip))))) (gR a1v))))))) (qS (gR S0l) (qS (qS (gR I0e) (.block 2 (.loop (qS (gR W0r) (qS (.cond (t 28) .skip (.exit 2)) (qS (.block 3 (qS (gR I0f) (gR I0g))) (gR W0s))))))) (qS (gR I0h) .ret))))))⟩
def S0m:SS:=[bX 1 a0a 0,o 2 (.alloc a0b zR)]
def S0n:SS:=[lA 3 2 1,o 4 (.build zI []),cA 5 B0a [t 3,t 4],cA 6 k0d [i 1],o 7 (.build zR [(0,2,t 5),(2,2,t 6)]),sT 4 2 7]
def c1O:SF:=⟨1,8,[.cell 2 true 4],
 (qS (gR S0m) (qS (gR S0n) .ret))⟩
def S0o:SS:=[bX 1 a0a 0,o 2 (.alloc a0a zI)]
def S0p:SS:=[lA 3 2 1,cB 4 e0o [t 3],nT 5 4,lA 6 2 1,cA 7 g0c [t 6],cA 8 g0O [t 5,t 7],sT 2 2 8]
def c1P:SF:=⟨1,9,[.cell 2 true 2],
 (qS (gR S0o) (qS (.draw S0p [0,1,3,0,11,31,63] []) .ret))⟩
def S0q:SS:=[bX 2 a0b 0,bX 3 a0b 1,o 4 (.alloc a0b zR)]
def S0r:SS:=[lA 5 4 2,cB 6 A0Z [t 5],lA 7 4 3,cA 8 A0Z [t 7],sT 4 2 6,sT 4 3 8]
def S0s:SS:=[fA 9 0 2,lA 10 2 9,fA 11 0 3,lA 12 2 11,cB 13 s0f [t 10,t 12],fA 14 2 2,lA 15 2 14,fA 16 2 3,lA 17 2 16,cA 18 s0f [t 15,t 17],cA 19 X0n [t 13,t 18],sT 4 4 19]
def c1Q:SF:=⟨2,20,[.cell 4 true 4],
 (qS (gR S0q) (qS (.draw S0r [0,1,0,7,15,31] []) (qS (.draw S0s [0,1,0,4,15,0,32,0,128,511,1023,2047] []) .ret)))⟩
def S0t:SS:=[mB 4 false]
def S0u:SS:=[mV 5 0,mV 6 1,cA 7 A0G [t 5,t 6],o 8 (bI .geq 7 0),mV 4 8]
def c1R:SF:=⟨2,9,[.tmp 4],
 (qS (gR S0t) (qS (gR S0u) .ret))⟩
def S0v:SS:=[mB 3 false]
def S0w:SS:=[mV 4 0,lN 5 4,fA 6 0 1,lD 7 6,o 8 (bT .neq 5 7),mV 3 8]
def c1S:SF:=⟨2,9,[.tmp 3],
 (qS (gR S0v) (qS (gR S0w) .ret))⟩
def S0x:SS:=[bX 1 b0J 0,o 2 (.alloc a0O [.int .i64 0,.slice none 0 0,.slice none 0 0,.slice none 0 0,.bool false,.slice none 0 0,.bool false,.slice none 0 0])]
def S0y:SS:=[fA 8 0 1,lD 9 8,o 10 (.build [.int .i64 0,.slice none 0 0,.slice none 0 0,.slice none 0 0,.bool false,.slice none 0 0,.bool false,.slice none 0 0] [(0,1,t 9)]),o 3 (.alloc a0O [.int .i64 0,.slice none 0 0,.slice none 0 0,.slice none 0 0,.bool false,.slice none 0 0,.bool false,.slice none 0 0]),sT 8 3 10]
def S0z:SS:=[fA 11 1 1,lD 12 11,lN 13 12,mI 14 0]
def a1y:SS:=[o 15 (bT .lss 14 13)]
def S0A:SS:=[mV 16 14,iA 17 1 12 14,lD 18 17,mV 4 16,mV 5 18]
def S0B:SS:=[mV 20 5,cB 21 y0A [t 20],fA 22 2 1,lD 23 22,mV 24 4,iA 25 4 23 24,lA 26 4 25,o 27 (.build zR []),cB 28 t0x [t 26,t 27],o 29 (.lit a0b zR 1 [(0,4,t 28)]),o 30 (.app a0b 4 64 (t 21) (t 29)),cB 31 y0z [t 30],mV 19 31,eX 32 19 0,eX 33 19 1,o 7 (.alloc a0b zR),mV 6 32,sT 4 7 33]
def S0C:SS:=[fA 34 1 3,lD 35 34,mV 36 6,o 37 (.lit b0i [.slice none 0 0] 1 [(0,1,t 36)]),o 38 (.app b0i 1 24 (t 35) (t 37)),fA 39 2 3,lD 40 39,lA 41 4 7,o 42 (.lit a0b zR 1 [(0,4,t 41)]),o 43 (.app a0b 4 64 (t 40) (t 42)),fA 44 1 3,sT 1 44 38,fA 45 2 3,sT 1 45 43]
def a1z:SS:=[o 46 (bI .add 14 1),mV 14 46]
def S0D:SS:=[fA 48 3 1,lD 49 48,cA 50 y0A [t 49],cA 51 y0z [t 50],mV 47 51,eX 52 47 0,eX 53 47 1,fA 54 3 3,sT 1 54 52,fA 55 4 3,sT 4 55 53]
def S0E:SS:=[lA 56 8 3,sT 8 2 56]
def c1T:SF:=⟨1,57,[.cell 2 true 8],
 (qS (gR S0x) (qS (gR S0y) (qS (qS (gR S0z) (.block 0 (.loop (qS (gR a1y) (qS (.cond (t 15) .skip (.exit 0)) (qS (.block 1 (qS (gR S0A) (qS (.draw S0B [0,1,0,4,0,28,60,0,255,511,1023,2047,4095,8191,8191,0,49151,131071] [(10,15)]) (.draw S0C [0,1,0,4,15,0,32,0,128,511,127,2047,4095,8191] [(4,6),(4,7),(4,8)])))) (gR a1z))))))) (qS (gR S0D) (qS (gR S0E) .ret)))))⟩
def S0F:SS:=[bX 1 a0b 0,o 2 (.alloc a0b zR)]
def S0G:SS:=[lA 3 4 1,cA 4 y0B [t 3],mV 5 4,gF 6 5 (aS 4 1),gF 7 5 (.call t0R [t 6] true),gF 8 5 (.un .not (t 7)),pT 9 5 8]
def I0i:SS:=[cA 10 t0S [],o 11 (.build zR [(2,2,t 10)]),sT 4 2 11]
def S0H:SS:=[fA 12 0 1,lA 13 2 12,o 14 (.build zI []),cB 15 B0a [t 13,t 14],fA 16 2 1,lA 17 2 16,o 18 (.build zI []),cA 19 B0a [t 17,t 18],o 20 (.build zR [(0,2,t 15),(2,2,t 19)]),sT 4 2 20]
def c1U:SF:=⟨1,21,[.cell 2 true 4],
 (qS (gR S0F) (qS (qS (gR S0G) (.cond (t 9) (qS (gR I0i) .ret) .skip)) (qS (.draw S0H [0,1,0,7,0,16,0,127,255,511] []) .ret)))⟩
def S0I:SS:=[bX 2 a0a 0,bX 3 a0a 1,o 4 (.alloc a0b zR)]
def S0J:SS:=[lA 8 2 2,lA 9 2 3,cA 10 p0T [t 8,t 9],mV 7 10,eX 11 7 0,eX 12 7 1,o 5 (.alloc a0b zR),sT 4 5 11,mV 6 12]
def S0K:SS:=[lA 13 4 5,sT 4 4 13]
def c1V:SF:=⟨2,14,[.cell 4 true 4],
 (qS (gR S0I) (qS (gR S0J) (qS (gR S0K) .ret)))⟩
def S0L:SS:=[bX 4 a0a 1,o 6 (.alloc a0a zI)]
def S0M:SS:=[mV 9 2,lN 10 9,mI 11 0]
def I0j:SS:=[o 12 (bT .lss 11 10)]
def S0N:SS:=[iA 13 2 9 11,lA 14 2 13,o 8 (.alloc a0a zI),sT 2 8 14]
def S0O:SS:=[mV 15 0,lA 16 2 4,lA 17 2 8,o 18 (.callv (t 15) [t 16,t 17] true),sT 2 4 18]
def S0P:SS:=[o 19 (bI .add 11 1),mV 11 19]
def S0Q:SS:=[lA 20 2 4,sT 2 6 20]
def c1W:SF:=⟨3,21,[.cell 6 true 2],
 (qS (gR S0L) (qS (qS (gR S0M) (.block 0 (.loop (qS (gR I0j) (qS (.cond (t 12) .skip (.exit 0)) (qS (.block 1 (qS (gR S0N) (gR S0O))) (gR S0P))))))) (qS (gR S0Q) .ret)))⟩
def S0R:SS:=[bX 2 a0a 0,bX 3 a0a 1,o 4 (.alloc a0a zI)]
def S0S:SS:=[lA 7 2 2,cB 8 g0c [t 7],lA 9 2 3,cA 10 g0c [t 9],mV 5 8,mV 6 10]
def S0T:SS:=[lA 12 2 2,cB 13 e0o [t 12],lA 14 2 3,cA 15 e0o [t 14],o 16 (.bin 1 .eql (t 13) (t 15)),mV 11 16]
def S0U:SS:=[lA 17 2 2,cA 18 e0o [t 17],mV 19 5,mV 20 6,cA 21 A0H [t 19,t 20],cA 22 g0O [t 18,t 21],sT 2 4 22]
def S0V:SS:=[mV 24 5,mV 25 6,cA 26 r0Y [t 24,t 25],o 27 (bI .geq 26 0),mV 23 27]
def S0W:SS:=[lA 28 2 2,cA 29 e0o [t 28],mV 30 5,mV 31 6,cA 32 y0C [t 30,t 31],cA 33 g0O [t 29,t 32],sT 2 4 33]
def S0X:SS:=[lA 34 2 3,cA 35 e0o [t 34],mV 36 6,mV 37 5,cA 38 y0C [t 36,t 37],cA 39 g0O [t 35,t 38],sT 2 4 39]
def c1X:SF:=⟨2,40,[.cell 4 true 2],
 (qS (gR S0R) (qS (.draw S0S [0,1,0,7,15,31] []) (qS (.block 0 (qS (.draw S0T [0,1,0,7,15,31] []) (.cond (t 11) (qS (gR S0U) .ret) (qS (gR S0V) (.cond (t 23) (qS (gR S0W) .ret) .skip))))) (qS (gR S0X) .ret))))⟩
def S0Y:SS:=[bX 2 a0a 0,bX 3 a0a 1,o 4 (.alloc a0a zI)]
def S0Z:SS:=[lA 13 2 2,cB 14 g0c [t 13],lA 15 2 3,cA 16 g0c [t 15],mV 5 14,mV 6 16]
def T0a:SS:=[mV 17 5,lN 18 17,mV 19 6,lN 20 19,o 21 (bT .add 18 20),o 22 (.mk a0h 4 [.int .u32 0] (t 21) (t 21)),mV 7 22]
def T0b:SS:=[mV 23 5,lN 24 23,mI 25 0]
def I0r:SS:=[o 26 (bT .lss 25 24)]
def T0c:SS:=[mV 27 25,iA 28 1 23 25,lD 29 28,mV 8 27,mV 9 29]
def T0d:SS:=[o 10 (.mv (.const (.int .u64 0)))]
def T0e:SS:=[mV 30 6,lN 31 30,mI 32 0]
def I0s:SS:=[o 33 (bT .lss 32 31)]
def T0f:SS:=[mV 34 32,iA 35 1 30 32,lD 36 35,mV 11 34,mV 12 36]
def I0k:SS:=[mV 37 10,mV 38 9,cV 39 .u64 38,mV 40 12,cV 41 .u64 40,o 42 (bT .mul 39 41),mV 43 7,mV 44 8,mV 45 11,o 46 (bT .add 44 45),iA 47 1 43 46,lD 48 47,cV 49 .u64 48,o 50 (bT .add 42 49),o 51 (bT .add 37 50),mV 10 51]
def I0l:SS:=[mV 52 7,mV 53 8,mV 54 11,o 55 (bT .add 53 54),mV 56 10,cA 57 g0d [t 56],iA 58 1 52 55,sT 1 58 57]
def I0m:SS:=[mV 59 10,o 60 (.bin 0 .shr (t 59) (.const (.int .u64 32))),mV 10 60]
def I0n:SS:=[o 61 (bI .add 32 1),mV 32 61]
def I0o:SS:=[mV 62 7,mV 63 8,mV 64 6,lN 65 64,o 66 (bT .add 63 65),mV 67 10,cA 68 g0d [t 67],iA 69 1 62 66,sT 1 69 68]
def I0p:SS:=[o 70 (bI .add 25 1),mV 25 70]
def I0q:SS:=[lA 71 2 2,cB 72 e0o [t 71],lA 73 2 3,cA 74 e0o [t 73],o 75 (.bin 1 .neq (t 72) (t 74)),mV 76 7,cA 77 g0O [t 75,t 76],sT 2 4 77]
def c1Y:SF:=⟨2,78,[.cell 4 true 2],
 (qS (gR S0Y) (qS (.draw S0Z [0,1,0,7,15,31] []) (qS (gR T0a) (qS (qS (gR T0b) (.block 0 (.loop (qS (gR I0r) (qS (.cond (t 26) .skip (.exit 0)) (qS (.block 1 (qS (gR T0c) (qS (gR T0d) (qS (qS (gR T0e) (.block 2 (.loop (qS (gR I0s) (qS (.cond (t 33) .skip (.exit 2)) (qS (.block 3 (qS (gR T0f) (qS (gR I0k) (qS (gR I0l) (gR I0m))))) (gR I0n))))))) (gR I0o))))) (gR I0p))))))) (qS (.draw I0q [0,1,0,7,15,0,63,127] []) .ret)))))⟩
def T0g:SS:=[bX 1 a0F 0,mB 2 false]
def t0b:SS:=[fA 3 0 1,lD 4 3,o 5 (bI .eql 4 0)]
def T0h:SS:=[fA 6 1 1,lA 7 4 6,cA 8 X0o [t 7],mV 2 8]
def x0N:SS:=[fA 9 0 1,lD 10 9,o 11 (bI .eql 10 1),mV 12 11,gF 13 12 (fS 0 1),gF 14 12 (lS 13),gF 15 12 (.bin 0 .eql (t 14) (.const (.int .i64 (-1)))),pT 16 12 15,mV 17 16,gT 18 17 (fS 1 1),gT 19 17 (aS 4 18),gT 20 17 (.call A0I [t 19] true),pF 21 17 20,mV 2 21]
def c1Z:SF:=⟨1,22,[.tmp 2],
 (qS (gR T0g) (qS (qS (gR t0b) (.cond (t 5) (qS (gR T0h) .ret) .skip)) (qS (gR x0N) .ret)))⟩
def T0i:SS:=[bX 2 a0a 0,bX 3 a0a 1,mI 4 0]
def T0j:SS:=[lA 6 2 2,lA 7 2 3,cA 8 A0J [t 6,t 7],o 5 (.alloc a0a zI),sT 2 5 8]
def x0O:SS:=[fA 9 1 5,lD 10 9,lN 11 10,o 12 (bI .eql 11 0)]
def T0k:SS:=[mI 4 0]
def I0t:SS:=[fA 13 0 5,lD 14 13]
def T0l:SS:=[o 4 (.mv (.const (.int .i64 (-1))))]
def T0m:SS:=[mI 4 1]
def d1a:SF:=⟨2,15,[.tmp 4],
 (qS (gR T0i) (qS (gR T0j) (qS (qS (gR x0O) (.cond (t 12) (qS (gR T0k) .ret) .skip)) (qS (qS (gR I0t) (.cond (t 14) (qS (gR T0l) .ret) .skip)) (qS (gR T0m) .ret)))))⟩
def T0n:SS:=[mN 4]
def T0o:SS:=[mN 5]
def T0p:SS:=[o 6 (.mv (.const (.int .u64 0)))]
def T0q:SS:=[mI 7 0]
def p0t:SS:=[mV 9 7,mV 10 0,lN 11 10,o 12 (bT .lss 9 11),mV 13 12,gF 14 13 (mS 7),gF 15 13 (mS 1),gF 16 13 (nS 15),gF 17 13 (bT .lss 14 16),pT 18 13 17,mV 19 18,gF 20 19 (mS 6),gF 21 19 (.bin 0 .gtr (t 20) (.const (.int .u64 0))),pT 22 19 21]
def t0c:SS:=[mV 25 6,mV 8 25]
def t0d:SS:=[mV 26 7,mV 27 0,lN 28 27,o 29 (bT .lss 26 28)]
def t0e:SS:=[mV 30 8,mV 31 0,mV 32 7,iA 33 1 31 32,lD 34 33,cV 35 .u64 34,o 36 (bT .add 30 35),mV 8 36]
def t0f:SS:=[mV 37 7,mV 38 1,lN 39 38,o 40 (bT .lss 37 39)]
def t0g:SS:=[mV 41 8,mV 42 1,mV 43 7,iA 44 1 42 43,lD 45 44,cV 46 .u64 45,o 47 (bT .add 41 46),mV 8 47]
def n0f:SS:=[mV 48 5,mV 49 8,cV 50 .u32 49,o 51 (.lit a0h [.int .u32 0] 1 [(0,1,t 50)]),o 52 (.app a0h 1 4 (t 48) (t 51)),mV 5 52]
def n0g:SS:=[mV 53 8,o 54 (.bin 0 .shr (t 53) (.const (.int .u64 32))),mV 6 54]
def n0h:SS:=[mV 23 7,o 24 (bI .add 23 1),mV 7 24]
def I0u:SS:=[mV 55 5,cA 56 A0Y [t 55],mV 4 56]
def d1b:SF:=⟨2,57,[.tmp 4],
 (qS (gR T0n) (qS (gR T0o) (qS (gR T0p) (qS (qS (gR T0q) (.block 0 (.loop (qS (qS (gR p0t) (.cond (t 22) .skip (.exit 0))) (qS (.block 1 (qS (gR t0c) (qS (qS (gR t0d) (.cond (t 29) (gR t0e) .skip)) (qS (qS (gR t0f) (.cond (t 40) (gR t0g) .skip)) (qS (gR n0f) (gR n0g)))))) (gR n0h)))))) (qS (gR I0u) .ret)))))⟩
def x0P:SS:=[mI 4 0]
def x0Q:SS:=[mV 6 0,lN 7 6,mV 8 1,lN 9 8,o 10 (bT .neq 7 9)]
def I0y:SS:=[mV 11 0,lN 12 11,mV 13 1,lN 14 13,o 15 (bT .lss 12 14)]
def T0r:SS:=[o 4 (.mv (.const (.int .i64 (-1))))]
def T0s:SS:=[mI 4 1]
def T0t:SS:=[mV 16 0,lN 17 16,o 18 (bI .sub 17 1),mV 5 18]
def I0z:SS:=[mV 19 5,o 20 (bI .geq 19 0)]
def T0u:SS:=[mV 23 0,mV 24 5,iA 25 1 23 24,lD 26 25,mV 27 1,mV 28 5,iA 29 1 27 28,lD 30 29,o 31 (bT .lss 26 30)]
def T0v:SS:=[o 4 (.mv (.const (.int .i64 (-1))))]
def T0w:SS:=[mV 32 0,mV 33 5,iA 34 1 32 33,lD 35 34,mV 36 1,mV 37 5,iA 38 1 36 37,lD 39 38,o 40 (bT .gtr 35 39)]
def I0v:SS:=[mI 4 1]
def I0w:SS:=[mV 21 5,o 22 (bI .sub 21 1),mV 5 22]
def I0x:SS:=[mI 4 0]
def X0A:SF:=⟨2,41,[.tmp 4],
 (qS (gR x0P) (qS (qS (gR x0Q) (.cond (t 10) (qS (qS (gR I0y) (.cond (t 15) (qS (gR T0r) .ret) .skip)) (qS (gR T0s) .ret)) .skip)) (qS (qS (gR T0t) (.block 0 (.loop (qS (qS (gR I0z) (.cond (t 20) .skip (.exit 0))) (qS (.block 1 (qS (qS (.draw T0u [0,0,3,7,0,0,48,112,255] []) (.cond (t 31) (qS (gR T0v) .ret) .skip)) (qS (.draw T0w [0,0,3,7,0,0,48,112,255] []) (.cond (t 40) (qS (gR I0v) .ret) .skip)))) (gR I0w)))))) (qS (gR I0x) .ret))))⟩
def T0x:SS:=[mN 4]
def T0y:SS:=[o 9 (.lit a0h [.int .u32 0] 0 []),mV 10 0,o 11 (.app a0h 1 4 (t 9) (t 10)),mV 5 11]
def T0z:SS:=[o 6 (.mv (.const (.int .u64 0)))]
def T0A:SS:=[mI 7 0]
def T0B:SS:=[mV 12 7,mV 13 5,lN 14 13,o 15 (bT .lss 12 14)]
def I0B:SS:=[mV 18 6,mV 8 18]
def I0C:SS:=[mV 19 7,mV 20 1,lN 21 20,o 22 (bT .lss 19 21)]
def T0C:SS:=[mV 23 8,mV 24 1,mV 25 7,iA 26 1 24 25,lD 27 26,cV 28 .u64 27,o 29 (bT .add 23 28),mV 8 29]
def t0h:SS:=[mV 30 5,mV 31 7,iA 32 1 30 31,lD 33 32,cV 34 .u64 33,mV 35 8,o 36 (bT .geq 34 35)]
def I0D:SS:=[mV 37 5,mV 38 7,mV 39 5,mV 40 7,iA 41 1 39 40,lD 42 41,cV 43 .u64 42,mV 44 8,o 45 (bT .sub 43 44),cV 46 .u32 45,iA 47 1 37 38,sT 1 47 46]
def v0F:SS:=[o 6 (.mv (.const (.int .u64 0)))]
def v0G:SS:=[mV 48 5,mV 49 7,mV 50 5,mV 51 7,iA 52 1 50 51,lD 53 52,cV 54 .u64 53,o 55 (.bin 0 .add (t 54) (.const (.int .u64 4294967296))),mV 56 8,o 57 (bT .sub 55 56),cV 58 .u32 57,iA 59 1 48 49,sT 1 59 58]
def v0H:SS:=[o 6 (.mv (.const (.int .u64 1)))]
def n0i:SS:=[mV 16 7,o 17 (bI .add 16 1),mV 7 17]
def I0A:SS:=[mV 60 5,cA 61 A0Y [t 60],mV 4 61]
def d1c:SF:=⟨2,62,[.tmp 4],
 (qS (gR T0x) (qS (gR T0y) (qS (gR T0z) (qS (qS (gR T0A) (.block 0 (.loop (qS (qS (gR T0B) (.cond (t 15) .skip (.exit 0))) (qS (.block 1 (qS (gR I0B) (qS (qS (gR I0C) (.cond (t 22) (gR T0C) .skip)) (qS (gR t0h) (.cond (t 36) (qS (gR I0D) (gR v0F)) (qS (gR v0G) (gR v0H))))))) (gR n0i)))))) (qS (gR I0A) .ret)))))⟩
def T0D:SS:=[mN 4]
def T0E:SS:=[mV 10 0,lN 11 10,mV 12 1,lN 13 12,o 14 (bT .add 11 13),o 15 (.mk a0h 4 [.int .u32 0] (t 14) (t 14)),mV 5 15]
def T0F:SS:=[mI 6 0]
def T0G:SS:=[mV 16 6,mV 17 0,lN 18 17,o 19 (bT .lss 16 18)]
def T0H:SS:=[o 7 (.mv (.const (.int .u64 0)))]
def T0I:SS:=[mI 8 0]
def T0J:SS:=[mV 22 8,mV 23 1,lN 24 23,o 25 (bT .lss 22 24)]
def T0K:SS:=[mV 28 0,mV 29 6,iA 30 1 28 29,lD 31 30,cV 32 .u64 31,mV 33 1,mV 34 8,iA 35 1 33 34,lD 36 35,cV 37 .u64 36,o 38 (bT .mul 32 37),mV 39 5,mV 40 6,mV 41 8,o 42 (bT .add 40 41),iA 43 1 39 42,lD 44 43,cV 45 .u64 44,o 46 (bT .add 38 45),mV 47 7,o 48 (bT .add 46 47),mV 9 48]
def T0L:SS:=[mV 49 5,mV 50 6,mV 51 8,o 52 (bT .add 50 51),mV 53 9,cV 54 .u32 53,iA 55 1 49 52,sT 1 55 54]
def T0M:SS:=[mV 56 9,o 57 (.bin 0 .shr (t 56) (.const (.int .u64 32))),mV 7 57]
def I0E:SS:=[mV 26 8,o 27 (bI .add 26 1),mV 8 27]
def I0F:SS:=[mV 58 5,mV 59 6,mV 60 1,lN 61 60,o 62 (bT .add 59 61),mV 63 7,cV 64 .u32 63,iA 65 1 58 62,sT 1 65 64]
def I0G:SS:=[mV 20 6,o 21 (bI .add 20 1),mV 6 21]
def I0H:SS:=[mV 66 5,cA 67 A0Y [t 66],mV 4 67]
def d1d:SF:=⟨2,68,[.tmp 4],
 (qS (gR T0D) (qS (gR T0E) (qS (qS (gR T0F) (.block 0 (.loop (qS (qS (gR T0G) (.cond (t 19) .skip (.exit 0))) (qS (.block 1 (qS (gR T0H) (qS (qS (gR T0I) (.block 2 (.loop (qS (qS (gR T0J) (.cond (t 25) .skip (.exit 2))) (qS (.block 3 (qS (.draw T0K [0,0,3,7,15,0,0,96,224,480,1023,0,0,0,12288,30720,63488,129024,262143,0,1048575,2097151] []) (qS (gR T0L) (gR T0M)))) (gR I0E)))))) (gR I0F)))) (gR I0G)))))) (qS (gR I0H) .ret))))⟩
def T0N:SS:=[bX 1 a0b 0,mB 2 false]
def x0R:SS:=[fA 4 2 1,fA 5 1 4,lD 6 5,lN 7 6,o 8 (bI .eql 7 0),mV 9 8,gT 10 9 (fS 2 1),gT 11 9 (fS 0 10),gT 12 9 (lS 11),gT 13 9 (.un .not (t 12)),pF 14 9 13]
def I0I:SS:=[fA 15 0 1,fA 16 1 15,lD 17 16,lN 18 17,o 19 (bI .eql 18 0),mV 20 19,gT 21 20 (fS 0 1),gT 22 20 (fS 0 21),gT 23 20 (lS 22),gT 24 20 (.un .not (t 23)),pF 25 20 24,mV 2 25]
def I0J:SS:=[fA 26 0 1,lA 27 2 26,fA 28 2 1,lA 29 2 28,cA 30 Z0c [t 27,t 29],o 3 (.alloc a0a zI),sT 2 3 30]
def I0K:SS:=[fA 31 0 1,lA 32 2 31,cA 33 V0n [t 32],mV 34 33,gT 35 34 (fS 2 1),gT 36 34 (aS 2 35),gT 37 34 (.call V0n [t 36] true),pF 38 34 37,mV 39 38,gT 40 39 (fS 2 1),gT 41 39 (fS 0 40),gT 42 39 (lS 41),gT 43 39 (.un .not (t 42)),pF 44 39 43,mV 45 44,gT 46 45 (fS 1 3),gT 47 45 (lS 46),gT 48 45 (nS 47),gT 49 45 (bI .eql 48 1),pF 50 45 49,mV 51 50,gT 52 51 (fS 1 3),gT 53 51 (lS 52),gT 54 51 (.ia 1 (t 53) (i 0)),gT 55 51 (lS 54),gT 56 51 (.bin 0 .eql (t 55) (.const (.int .u32 1))),pF 57 51 56,mV 2 57]
def d1e:SF:=⟨1,58,[.tmp 2],
 (qS (gR T0N) (qS (qS (gR x0R) (.cond (t 14) (qS (gR I0I) .ret) .skip)) (qS (gR I0J) (qS (gR I0K) .ret))))⟩
def T0O:SS:=[bX 1 a0a 0,mB 2 false]
def T0P:SS:=[fA 4 1 1,lD 5 4,lN 6 5,mV 3 6]
def I0L:SS:=[mV 7 3,o 8 (bI .eql 7 0),mV 9 8,gT 10 9 (fS 0 1),gT 11 9 (lS 10),gT 12 9 (.un .not (t 11)),pF 13 9 12,mV 14 13,gF 15 14 (mS 3),gF 16 14 (bI .gtr 15 0),gF 17 14 (mS 16),gT 18 17 (fS 1 1),gT 19 17 (lS 18),gT 20 17 (mS 3),gT 21 17 (bI .sub 20 1),gT 22 17 (iS 1 19 21),gT 23 17 (lS 22),gT 24 17 (.bin 0 .neq (t 23) (.const (.int .u32 0))),gF 25 14 (.pick (t 17) (t 24) (.const (.bool false))),pT 26 14 25,mV 2 26]
def d1f:SF:=⟨1,27,[.tmp 2],
 (qS (gR T0O) (qS (gR T0P) (qS (gR I0L) .ret)))⟩
def T0Q:SS:=[mN 4,mN 5]
def T0R:SS:=[mV 10 0,mV 11 1,cA 12 V0m [t 10,t 11],o 13 (bI .lss 12 0)]
def T0S:SS:=[mV 14 0,mN 4,mV 5 14]
def T0T:SS:=[mV 15 0,lN 16 15,o 17 (.mk a0h 4 [.int .u32 0] (t 16) (t 16)),mV 6 17]
def T0U:SS:=[mN 7]
def T0V:SS:=[mV 18 0,lN 19 18,o 20 (bI .sub 19 1),mV 8 20]
def I0R:SS:=[mV 21 8,o 22 (bI .geq 21 0)]
def T0W:SS:=[mI 9 31]
def I0S:SS:=[mV 25 9,o 26 (bI .geq 25 0)]
def T0X:SS:=[mV 29 7,mV 30 0,mV 31 8,iA 32 1 30 31,lD 33 32,mV 34 9,cV 35 .u64 34,o 36 (bT .shr 33 35),o 37 (.bin 0 .and (t 36) (.const (.int .u32 1))),o 38 (.bin 0 .eql (t 37) (.const (.int .u32 1))),cA 39 A0K [t 29,t 38],mV 7 39]
def I0M:SS:=[mV 40 7,mV 41 1,cA 42 V0m [t 40,t 41],o 43 (bI .geq 42 0)]
def I0N:SS:=[mV 44 7,mV 45 1,cA 46 M0V [t 44,t 45],mV 7 46]
def I0O:SS:=[mV 47 6,mV 48 8,mV 49 6,mV 50 8,iA 51 1 49 50,lD 52 51,mV 53 9,cV 54 .u64 53,o 55 (.bin 0 .shl (.const (.int .u32 1)) (t 54)),o 56 (bT .or 52 55),iA 57 1 47 48,sT 1 57 56]
def v0I:SS:=[mV 27 9,o 28 (bI .sub 27 1),mV 9 28]
def I0P:SS:=[mV 23 8,o 24 (bI .sub 23 1),mV 8 24]
def I0Q:SS:=[mV 58 6,cA 59 A0Y [t 58],mV 60 7,mV 4 59,mV 5 60]
def d1g:SF:=⟨2,61,[.tmp 4,.tmp 5],
 (qS (gR T0Q) (qS (qS (gR T0R) (.cond (t 13) (qS (gR T0S) .ret) .skip)) (qS (gR T0T) (qS (gR T0U) (qS (qS (gR T0V) (.block 0 (.loop (qS (qS (gR I0R) (.cond (t 22) .skip (.exit 0))) (qS (.block 1 (qS (gR T0W) (.block 2 (.loop (qS (qS (gR I0S) (.cond (t 26) .skip (.exit 2))) (qS (.block 3 (qS (gR T0X) (qS (gR I0M) (.cond (t 43) (qS (gR I0N) (gR I0O)) .skip)))) (gR v0I))))))) (gR I0P)))))) (qS (gR I0Q) .ret))))))⟩
def C0n:SS:=[bX 1 a0b 0,mB 2 false]
def C0o:SS:=[lA 3 4 1,cA 4 y0B [t 3]]
def C0p:SS:=[mB 2 true]
def C0q:SS:=[fA 5 0 1,lA 6 2 5,cA 7 r0Z [t 6],mV 8 7,gT 9 8 (fS 2 1),gT 10 8 (aS 2 9),gT 11 8 (.call r0Z [t 10] true),pF 12 8 11,mV 13 12,gT 14 13 (fS 2 1),gT 15 13 (fS 0 14),gT 16 13 (lS 15),gT 17 13 (.un .not (t 16)),pF 18 13 17,mV 19 18,gT 20 19 (fS 2 1),gT 21 19 (aS 2 20),gT 22 19 (.call y0D [t 21] true),gT 23 19 (.un .not (t 22)),pF 24 19 23,mV 25 24,gT 26 25 (fS 0 1),gT 27 25 (aS 2 26),gT 28 25 (fS 2 1),gT 29 25 (aS 2 28),gT 30 25 (.call s0a [t 27,t 29] true),gT 31 25 (.call t0S [] true),gT 32 25 (.call n0O [t 30,t 31] true),gT 33 25 (bI .eql 32 0),pF 34 25 33,mV 2 34]
def L0k:SF:=⟨1,35,[.tmp 2],
 (qS (gR C0n) (qS (qS (gR C0o) (.cond (t 4) (qS (gR C0p) .ret) .skip)) (qS (gR C0q) .ret)))⟩
def C0r:SS:=[bX 1 a0b 0,mB 2 false]
def n0b:SS:=[fA 3 0 1,fA 4 0 3,lD 5 4,nT 6 5,mV 7 6,gT 8 7 (fS 0 1),gT 9 7 (fS 1 8),gT 10 7 (lS 9),gT 11 7 (nS 10),gT 12 7 (bI .eql 11 0),pF 13 7 12,mV 14 13,gT 15 14 (fS 2 1),gT 16 14 (fS 0 15),gT 17 14 (lS 16),gT 18 14 (.un .not (t 17)),pF 19 14 18,mV 20 19,gT 21 20 (fS 2 1),gT 22 20 (fS 1 21),gT 23 20 (lS 22),gT 24 20 (nS 23),gT 25 20 (bI .eql 24 0),pF 26 20 25,mV 2 26]
def L0l:SF:=⟨1,27,[.tmp 2],
 (qS (gR C0r) (qS (gR n0b) .ret))⟩
def C0s:SS:=[mI 4 0]
def C0t:SS:=[mV 6 0,lN 7 6,mI 8 0]
def V0I:SS:=[o 9 (bT .lss 8 7)]
def C0u:SS:=[mV 10 8,mV 5 10]
def C0v:SS:=[mV 11 1,mV 12 0,mV 13 5,iA 14 4 12 13,lA 15 4 14,o 16 (.callv (t 11) [t 15] true)]
def C0w:SS:=[mV 17 5,mV 4 17]
def V0J:SS:=[o 18 (bI .add 8 1),mV 8 18]
def C0x:SS:=[o 4 (.mv (.const (.int .i64 (-1))))]
def L0m:SF:=⟨2,19,[.tmp 4],
 (qS (gR C0s) (qS (qS (gR C0t) (.block 0 (.loop (qS (gR V0I) (qS (.cond (t 9) .skip (.exit 0)) (qS (.block 1 (qS (gR C0u) (qS (gR C0v) (.cond (t 16) (qS (gR C0w) .ret) .skip)))) (gR V0J))))))) (qS (gR C0x) .ret)))⟩
def C0y:SS:=[o 2 (.alloc a0a zI)]
def C0z:SS:=[mV 4 0,cV 5 .u64 4,mV 3 5]
def C0A:SS:=[mV 6 0,o 7 (bI .lss 6 0)]
def C0B:SS:=[mV 8 3,o 9 (.un .neg (t 8)),mV 3 9]
def C0C:SS:=[mV 10 0,o 11 (bI .lss 10 0),mV 12 3,cA 13 g0d [t 12],mV 14 3,o 15 (.bin 0 .shr (t 14) (.const (.int .u64 32))),cA 16 g0d [t 15],o 17 (.lit a0h [.int .u32 0] 2 [(0,1,t 13),(1,1,t 16)]),cA 18 g0O [t 11,t 17],sT 2 2 18]
def L0n:SF:=⟨1,19,[.cell 2 true 2],
 (qS (gR C0y) (qS (gR C0z) (qS (qS (gR C0A) (.cond (t 7) (gR C0B) .skip)) (qS (gR C0C) .ret))))⟩
def C0D:SS:=[o 0 (.alloc a0a zI)]
def C0E:SS:=[cA 1 k0d [i 1],sT 2 0 1]
def L0o:SF:=⟨0,2,[.cell 0 true 2],
 (qS (gR C0D) (qS (gR C0E) .ret))⟩
def C0F:SS:=[mN 4]
def C0G:SS:=[mV 5 1,o 6 (bI .lss 5 0)]
def V0K:SS:=[o 7 (.iface v0Y (.const (.string ⟨#[99,97,110,110,111,116,32,98,101,32,110,101,103,97,116,105,118,101]⟩))),⟨none,none,.pan (t 7)⟩]
def C0H:SS:=[mV 8 1,mV 9 0,o 10 (.cap (t 9)),mV 11 0,lN 12 11,o 13 (bT .sub 10 12),o 14 (bT .sub 8 13),mV 1 14]
def C0I:SS:=[mV 15 1,o 16 (bI .gtr 15 0)]
def C0J:SS:=[mV 17 0,mV 18 0,o 19 (.cap (t 18)),o 20 (.sl a0a 2 (t 17) none (some (t 19)) none),mV 21 1,o 22 (.appz a0a 32 zI (t 20) (t 21)),mV 23 0,lN 24 23,o 25 (.sl a0a 2 (t 22) none (some (t 24)) none),mV 0 25]
def u0y:SS:=[mV 26 0,mV 4 26]
def L0p:SF:=⟨2,27,[.tmp 4],
 (qS (gR C0F) (qS (qS (gR C0G) (.cond (t 6) (gR V0K) .skip)) (qS (qS (gR C0H) (qS (gR C0I) (.cond (t 16) (gR C0J) .skip))) (qS (gR u0y) .ret))))⟩
def C0K:SS:=[o 4 (.alloc a0a zI)]
def C0L:SS:=[mV 6 1,lN 7 6,mV 5 7]
def u0z:SS:=[mV 8 5,o 9 (bI .gtr 8 0),mV 10 9,gT 11 10 (mS 1),gT 12 10 (mS 5),gT 13 10 (bI .sub 12 1),gT 14 10 (iS 1 11 13),gT 15 10 (lS 14),gT 16 10 (.bin 0 .eql (t 15) (.const (.int .u32 0))),pF 17 10 16]
def C0M:SS:=[mV 18 5,o 19 (bI .sub 18 1),mV 5 19]
def C0N:SS:=[mV 20 5,o 21 (bI .eql 20 0)]
def C0O:SS:=[o 22 (.build zI []),sT 2 4 22]
def C0P:SS:=[mV 23 0,mV 24 1,mV 25 5,o 26 (.sl a0h 1 (t 24) none (some (t 25)) none),cA 27 A0L [t 26],o 28 (.build zI [(0,1,t 23),(1,1,t 27)]),sT 2 4 28]
def L0q:SF:=⟨2,29,[.cell 4 true 2],
 (qS (gR C0K) (qS (gR C0L) (qS (.block 0 (.loop (qS (qS (gR u0z) (.cond (t 17) .skip (.exit 0))) (.block 1 (gR C0M))))) (qS (qS (gR C0N) (.cond (t 21) (qS (gR C0O) .ret) .skip)) (qS (gR C0P) .ret)))))⟩
def C0Q:SS:=[bX 1 a0a 0,mB 2 false]
def C0R:SS:=[lA 3 2 1,cA 4 r0Z [t 3],mV 5 4,gT 6 5 (fS 0 1),gT 7 5 (lS 6),pF 8 5 7,mV 2 8]
def L0r:SF:=⟨1,9,[.tmp 2],
 (qS (gR C0Q) (qS (gR C0R) .ret))⟩
def C0S:SS:=[bX 1 a0a 0,mN 2]
def C0T:SS:=[lA 3 2 1,cA 4 r0Z [t 3],nT 5 4]
def C0U:SS:=[mN 2]
def C0V:SS:=[fA 6 1 1,lD 7 6,mV 2 7]
def L0s:SF:=⟨1,8,[.tmp 2],
 (qS (gR C0S) (qS (qS (gR C0T) (.cond (t 5) (qS (gR C0U) .ret) .skip)) (qS (gR C0V) .ret)))⟩
def C0W:SS:=[mI 4 0]
def C0X:SS:=[mV 6 0,lN 7 6,mI 8 0]
def V0L:SS:=[o 9 (bT .lss 8 7)]
def C0Y:SS:=[mV 10 8,mV 5 10]
def C0Z:SS:=[mV 11 1,mV 12 0,mV 13 5,iA 14 1 12 13,lD 15 14,o 16 (.callv (t 11) [t 15] true)]
def D0a:SS:=[mV 17 5,mV 4 17]
def V0M:SS:=[o 18 (bI .add 8 1),mV 8 18]
def D0b:SS:=[o 4 (.mv (.const (.int .i64 (-1))))]
def L0t:SF:=⟨2,19,[.tmp 4],
 (qS (gR C0W) (qS (qS (gR C0X) (.block 0 (.loop (qS (gR V0L) (qS (.cond (t 9) .skip (.exit 0)) (qS (.block 1 (qS (gR C0Y) (qS (gR C0Z) (.cond (t 16) (qS (gR D0a) .ret) .skip)))) (gR V0M))))))) (qS (gR D0b) .ret)))⟩
def D0e:SS:=[mN 2,o 3 (.alloc a0b zR)]
def D0f:SS:=[cA 21 k0d [i 1],o 4 (.alloc a0a zI),sT 2 4 21]
def D0g:SS:=[mV 22 0,lN 23 22,mI 24 0]
def V0N:SS:=[o 25 (bT .lss 24 23)]
def D0h:SS:=[iA 26 4 22 24,lA 27 4 26,o 6 (.alloc a0b zR),sT 4 6 27]
def D0i:SS:=[fA 29 2 6,lA 30 2 29,lA 31 2 4,fA 32 2 6,lA 33 2 32,cB 34 s0a [t 31,t 33],cB 35 m0c [t 30,t 34],mV 28 35,eX 36 28 0,eX 37 28 1,eX 38 28 2,o 7 (.alloc a0a zI),o 8 (.alloc a0a zI),sT 2 7 36,sT 2 8 37,mV 9 38]
def D0j:SS:=[lA 39 2 4,lA 40 2 7,cA 41 s0f [t 39,t 40],sT 2 4 41]
def V0O:SS:=[o 42 (bI .add 24 1),mV 24 42]
def D0k:SS:=[mN 10]
def D0l:SS:=[o 43 (.build zI []),o 11 (.alloc a0a zI),sT 2 11 43]
def x0f:SS:=[mV 44 0,lN 45 44,mI 46 0]
def K0X:SS:=[o 47 (bT .lss 46 45)]
def x0g:SS:=[iA 48 4 44 46,lA 49 4 48,o 13 (.alloc a0b zR),sT 4 13 49]
def x0h:SS:=[lA 51 2 4,fA 52 2 13,lA 53 2 52,cA 54 m0c [t 51,t 53],mV 50 54,eX 55 50 0,eX 56 50 1,eX 57 50 2,o 14 (.alloc a0a zI),o 15 (.alloc a0a zI),sT 2 14 55,sT 2 15 56,mV 16 57]
def x0i:SS:=[fA 58 0 13,lA 59 2 58,lA 60 2 14,cA 61 s0f [t 59,t 60],o 17 (.alloc a0a zI),sT 2 17 61]
def x0j:SS:=[mV 62 10,lA 63 2 17,o 64 (.lit a0a zI 1 [(0,2,t 63)]),o 65 (.app a0a 2 32 (t 62) (t 64)),mV 10 65]
def x0k:SS:=[lA 66 2 11,lA 67 2 17,cA 68 s0a [t 66,t 67],sT 2 11 68]
def K0Y:SS:=[o 69 (bI .add 46 1),mV 46 69]
def x0l:SS:=[lA 70 2 11,o 71 (.build zI []),cA 72 n0O [t 70,t 71],o 73 (bI .eql 72 0)]
def x0m:SS:=[cA 74 k0d [i 1],sT 2 11 74]
def q0F:SS:=[mV 75 10,lN 76 75,mI 77 0]
def K0Z:SS:=[o 78 (bT .lss 77 76)]
def q0G:SS:=[mV 79 77,mV 18 79]
def q0H:SS:=[mV 81 10,mV 82 18,mV 83 10,mV 84 18,iA 85 2 83 84,lA 86 2 85,lA 87 2 11,cA 88 m0c [t 86,t 87],mV 80 88,eX 89 80 0,eX 90 80 1,eX 91 80 2,iA 92 2 81 82,sT 2 92 89]
def L0a:SS:=[o 93 (bI .add 77 1),mV 77 93]
def q0I:SS:=[lA 95 2 4,lA 96 2 11,cA 97 p0T [t 95,t 96],mV 94 97,eX 98 94 0,eX 99 94 1,o 19 (.alloc a0b zR),sT 4 19 98,mV 20 99]
def q0J:SS:=[mV 100 10,lA 101 4 19,mV 2 100,sT 4 3 101]
def L0u:SF:=⟨1,102,[.tmp 2,.cell 3 true 4],
 (qS (gR D0e) (qS (gR D0f) (qS (qS (gR D0g) (.block 0 (.loop (qS (gR V0N) (qS (.cond (t 25) .skip (.exit 0)) (qS (.block 1 (qS (gR D0h) (qS (.draw D0i [0,1,0,0,8,28,63,127,255,255,255,0,0,6655,15359,32767] []) (gR D0j)))) (gR V0O))))))) (qS (gR D0k) (qS (gR D0l) (qS (qS (gR x0f) (.block 2 (.loop (qS (gR K0X) (qS (.cond (t 47) .skip (.exit 2)) (qS (.block 3 (qS (gR x0g) (qS (gR x0h) (qS (gR x0i) (qS (gR x0j) (gR x0k)))))) (gR K0Y))))))) (qS (qS (gR x0l) (.cond (t 73) (gR x0m) .skip)) (qS (qS (gR q0F) (.block 4 (.loop (qS (gR K0Z) (qS (.cond (t 78) .skip (.exit 4)) (qS (.block 5 (qS (gR q0G) (.draw q0H [0,0,0,0,12,28,0,124,252,508,508,508,1023,5119] []))) (gR L0a))))))) (qS (gR q0I) (qS (.draw q0J [0,0,1,7] []) .ret))))))))))⟩
def D0m:SS:=[mN 2]
def D0n:SS:=[mV 6 0,lN 7 6,o 8 (bI .add 7 1),o 9 (.mk a0b 64 zR (i 0) (t 8)),mV 3 9]
def D0o:SS:=[mV 10 0,lN 11 10,mI 12 0]
def V0P:SS:=[o 13 (bT .lss 12 11)]
def D0p:SS:=[iA 14 4 10 12,lA 15 4 14,o 5 (.alloc a0b zR),sT 4 5 15]
def D0q:SS:=[mV 16 3,lA 17 4 5,o 18 (.build zR []),cA 19 t0x [t 17,t 18],o 20 (.lit a0b zR 1 [(0,4,t 19)]),o 21 (.app a0b 4 64 (t 16) (t 20)),mV 3 21]
def V0Q:SS:=[o 22 (bI .add 12 1),mV 12 22]
def D0r:SS:=[mV 23 3,mV 2 23]
def L0v:SF:=⟨1,24,[.tmp 2],
 (qS (gR D0m) (qS (gR D0n) (qS (qS (gR D0o) (.block 0 (.loop (qS (gR V0P) (qS (.cond (t 13) .skip (.exit 0)) (qS (.block 1 (qS (gR D0p) (gR D0q))) (gR V0Q))))))) (qS (gR D0r) .ret))))⟩
def D0v:SS:=[bX 1 a0b 0,mB 2 false]
def n0c:SS:=[fA 3 0 1,fA 4 0 3,lD 5 4,nT 6 5,mV 7 6,gT 8 7 (fS 0 1),gT 9 7 (fS 1 8),gT 10 7 (lS 9),gT 11 7 (nS 10),gT 12 7 (bI .eql 11 0),pF 13 7 12,mV 14 13,gT 15 14 (fS 2 1),gT 16 14 (fS 0 15),gT 17 14 (lS 16),gT 18 14 (.un .not (t 17)),pF 19 14 18,mV 20 19,gT 21 20 (fS 2 1),gT 22 20 (fS 1 21),gT 23 20 (lS 22),gT 24 20 (nS 23),gT 25 20 (bI .eql 24 0),pF 26 20 25,mV 2 26]
def L0w:SF:=⟨1,27,[.tmp 2],
 (qS (gR D0v) (qS (gR n0c) .ret))⟩
def D0w:SS:=[bX 2 a0a 0,bX 3 a0a 1,o 4 (.alloc a0b zR),mI 5 0]
def D0x:SS:=[lA 7 2 3,cA 8 y0D [t 7]]
def V0S:SS:=[o 9 (.build zR []),sT 4 4 9,mI 5 11]
def D0y:SS:=[lA 10 2 2,lA 11 2 3,cA 12 s0a [t 10,t 11],o 6 (.alloc a0a zI),sT 2 6 12]
def D0z:SS:=[lA 13 2 3,o 14 (.build zI []),cA 15 n0O [t 13,t 14],o 16 (bI .lss 15 0)]
def D0A:SS:=[lA 17 2 6,cA 18 K0o [t 17],sT 2 6 18]
def u0B:SS:=[lA 20 2 2,lA 21 2 6,cA 22 m0c [t 20,t 21],mV 19 22,eX 23 19 0,eX 24 19 1,eX 25 19 2,sT 2 2 23]
def u0C:SS:=[lA 27 2 3,lA 28 2 6,cA 29 m0c [t 27,t 28],mV 26 29,eX 30 26 0,eX 31 26 1,eX 32 26 2,sT 2 3 30]
def u0D:SS:=[lA 33 2 2,lA 34 2 3,o 35 (.build zR [(0,2,t 33),(2,2,t 34)]),sT 4 4 35,mI 5 0]
def L0x:SF:=⟨2,36,[.cell 4 true 4,.tmp 5],
 (qS (gR D0w) (qS (qS (gR D0x) (.cond (t 8) (qS (gR V0S) .ret) .skip)) (qS (gR D0y) (qS (qS (gR D0z) (.cond (t 16) (gR D0A) .skip)) (qS (gR u0B) (qS (gR u0C) (qS (gR u0D) .ret)))))))⟩
def D0B:SS:=[mN 4]
def D0C:SS:=[mV 9 0,lN 10 9,mV 11 1,lN 12 11,o 13 (bT .lss 10 12)]
def D0D:SS:=[mV 14 1,mV 15 0,mV 0 14,mV 1 15]
def D0E:SS:=[mV 16 0,lN 17 16,o 18 (bI .add 17 1),o 19 (.mk a0h 4 [.int .u32 0] (i 0) (t 18)),mV 5 19]
def D0F:SS:=[o 6 (.mv (.const (.int .u64 0)))]
def D0G:SS:=[mV 20 0,lN 21 20,mI 22 0]
def q0P:SS:=[o 23 (bT .lss 22 21)]
def u0E:SS:=[mV 24 22,iA 25 1 20 22,lD 26 25,mV 7 24,mV 8 26]
def u0F:SS:=[mV 27 6,mV 28 8,cV 29 .u64 28,o 30 (bT .add 27 29),mV 6 30]
def u0G:SS:=[mV 31 7,mV 32 1,lN 33 32,o 34 (bT .lss 31 33)]
def q0L:SS:=[mV 35 6,mV 36 1,mV 37 7,iA 38 1 36 37,lD 39 38,cV 40 .u64 39,o 41 (bT .add 35 40),mV 6 41]
def q0M:SS:=[mV 42 5,mV 43 6,cA 44 g0d [t 43],o 45 (.lit a0h [.int .u32 0] 1 [(0,1,t 44)]),o 46 (.app a0h 1 4 (t 42) (t 45)),mV 5 46]
def q0N:SS:=[mV 47 6,o 48 (.bin 0 .shr (t 47) (.const (.int .u64 32))),mV 6 48]
def q0O:SS:=[o 49 (bI .add 22 1),mV 22 49]
def x0n:SS:=[mV 50 5,mV 51 6,cA 52 g0d [t 51],o 53 (.lit a0h [.int .u32 0] 1 [(0,1,t 52)]),o 54 (.app a0h 1 4 (t 50) (t 53)),mV 4 54]
def L0y:SF:=⟨2,55,[.tmp 4],
 (qS (gR D0B) (qS (qS (gR D0C) (.cond (t 13) (gR D0D) .skip)) (qS (gR D0E) (qS (gR D0F) (qS (qS (gR D0G) (.block 0 (.loop (qS (gR q0P) (qS (.cond (t 23) .skip (.exit 0)) (qS (.block 1 (qS (gR u0E) (qS (gR u0F) (qS (qS (gR u0G) (.cond (t 34) (gR q0L) .skip)) (qS (gR q0M) (gR q0N)))))) (gR q0O))))))) (qS (gR x0n) .ret))))))⟩
def D0H:SS:=[mI 4 0]
def D0I:SS:=[mV 6 0,lN 7 6,mV 8 1,lN 9 8,o 10 (bT .neq 7 9)]
def D0J:SS:=[mV 11 0,lN 12 11,mV 13 1,lN 14 13,cA 15 A0N [t 12,t 14],mV 4 15]
def D0K:SS:=[mV 16 0,lN 17 16,o 18 (bI .sub 17 1),mV 5 18]
def u0H:SS:=[mV 19 5,o 20 (bI .geq 19 0)]
def D0L:SS:=[mV 23 0,mV 24 5,iA 25 1 23 24,lD 26 25,mV 27 1,mV 28 5,iA 29 1 27 28,lD 30 29,o 31 (bT .neq 26 30)]
def D0M:SS:=[mV 32 0,mV 33 5,iA 34 1 32 33,lD 35 34,mV 36 1,mV 37 5,iA 38 1 36 37,lD 39 38,cA 40 A0O [t 35,t 39],mV 4 40]
def D0N:SS:=[mV 21 5,o 22 (bI .sub 21 1),mV 5 22]
def D0O:SS:=[mI 4 0]
def L0z:SF:=⟨2,41,[.tmp 4],
 (qS (gR D0H) (qS (qS (gR D0I) (.cond (t 10) (qS (gR D0J) .ret) .skip)) (qS (qS (gR D0K) (.block 0 (.loop (qS (qS (gR u0H) (.cond (t 20) .skip (.exit 0))) (qS (.block 1 (qS (.draw D0L [0,0,3,7,0,0,48,112,255] []) (.cond (t 31) (qS (.draw D0M [0,0,3,7,0,0,48,112,255,511] []) .ret) .skip))) (gR D0N)))))) (qS (gR D0O) .ret))))⟩
def D0P:SS:=[mN 4]
def D0Q:SS:=[mV 11 0,lN 12 11,o 13 (.mk a0h 4 [.int .u32 0] (i 0) (t 12)),mV 5 13]
def D0R:SS:=[o 6 (.mv (.const (.int .u64 0)))]
def D0S:SS:=[mV 14 0,lN 15 14,mI 16 0]
def q0T:SS:=[o 17 (bT .lss 16 15)]
def u0I:SS:=[mV 18 16,iA 19 1 14 16,lD 20 19,mV 7 18,mV 8 20]
def u0J:SS:=[mV 21 6,mV 9 21]
def u0K:SS:=[mV 22 7,mV 23 1,lN 24 23,o 25 (bT .lss 22 24)]
def u0L:SS:=[mV 26 9,mV 27 1,mV 28 7,iA 29 1 27 28,lD 30 29,cV 31 .u64 30,o 32 (bT .add 26 31),mV 9 32]
def u0M:SS:=[mV 33 8,cV 34 .u64 33,mV 35 9,o 36 (bT .sub 34 35),mV 10 36]
def q0Q:SS:=[mV 37 5,mV 38 10,cA 39 g0d [t 38],o 40 (.lit a0h [.int .u32 0] 1 [(0,1,t 39)]),o 41 (.app a0h 1 4 (t 37) (t 40)),mV 5 41]
def q0R:SS:=[mV 42 10,o 43 (.bin 0 .shr (t 42) (.const (.int .u64 63))),mV 6 43]
def q0S:SS:=[o 44 (bI .add 16 1),mV 16 44]
def x0o:SS:=[mV 45 5,mV 4 45]
def L0A:SF:=⟨2,46,[.tmp 4],
 (qS (gR D0P) (qS (gR D0Q) (qS (gR D0R) (qS (qS (gR D0S) (.block 0 (.loop (qS (gR q0T) (qS (.cond (t 17) .skip (.exit 0)) (qS (.block 1 (qS (gR u0I) (qS (gR u0J) (qS (qS (gR u0K) (.cond (t 25) (gR u0L) .skip)) (qS (gR u0M) (qS (gR q0Q) (gR q0R))))))) (gR q0S))))))) (qS (gR x0o) .ret)))))⟩
def D0T:SS:=[o 2 (.mv (.const (.int .u32 0)))]
def D0U:SS:=[mV 3 0,cV 4 .u32 3,mV 2 4]
def L0B:SF:=⟨1,5,[.tmp 2],
 (qS (gR D0T) (qS (gR D0U) .ret))⟩
def D0V:SS:=[bX 1 a0b 0,mB 2 false]
def n0d:SS:=[fA 3 0 1,fA 4 1 3,lD 5 4,lN 6 5,o 7 (bI .eql 6 0),mV 8 7,gT 9 8 (fS 0 1),gT 10 8 (fS 0 9),gT 11 8 (lS 10),gT 12 8 (.un .not (t 11)),pF 13 8 12,mV 14 13,gT 15 14 (fS 2 1),gT 16 14 (fS 1 15),gT 17 14 (lS 16),gT 18 14 (nS 17),gT 19 14 (bI .eql 18 0),pF 20 14 19,mV 21 20,gT 22 21 (fS 2 1),gT 23 21 (fS 0 22),gT 24 21 (lS 23),gT 25 21 (.un .not (t 24)),pF 26 21 25,mV 2 26]
def L0C:SF:=⟨1,27,[.tmp 2],
 (qS (gR D0V) (qS (gR n0d) .ret))⟩
def D0W:SS:=[bX 2 a0a 0,bX 3 a0a 1,o 4 (.alloc a0a zI)]
def D0X:SS:=[lA 5 2 2,lA 6 2 3,cB 7 Z0d [t 6],cA 8 Z0b [t 5,t 7],sT 2 4 8]
def L0D:SF:=⟨2,9,[.cell 4 true 2],
 (qS (gR D0W) (qS (.draw D0X [0,0,2,7,15] []) .ret))⟩
def D0Y:SS:=[mN 4]
def D0Z:SS:=[mN 5]
def E0a:SS:=[o 6 (.mv (.const (.int .u32 0)))]
def E0b:SS:=[mV 8 1]
def E0c:SS:=[o 6 (.mv (.const (.int .u32 1)))]
def u0N:SS:=[mI 7 0]
def u0O:SS:=[mV 9 7,mV 10 0,lN 11 10,o 12 (bT .lss 9 11)]
def u0P:SS:=[mV 15 5,mV 16 0,mV 17 7,iA 18 1 16 17,lD 19 18,o 20 (.bin 0 .shl (t 19) (.const (.int .u64 1))),mV 21 6,o 22 (bT .or 20 21),o 23 (.lit a0h [.int .u32 0] 1 [(0,1,t 22)]),o 24 (.app a0h 1 4 (t 15) (t 23)),mV 5 24]
def u0Q:SS:=[mV 25 0,mV 26 7,iA 27 1 25 26,lD 28 27,o 29 (.bin 0 .shr (t 28) (.const (.int .u64 31))),mV 6 29]
def u0R:SS:=[mV 13 7,o 14 (bI .add 13 1),mV 7 14]
def q0U:SS:=[mV 30 5,mV 31 6,o 32 (.lit a0h [.int .u32 0] 1 [(0,1,t 31)]),o 33 (.app a0h 1 4 (t 30) (t 32)),mV 5 33]
def q0V:SS:=[mV 34 5,cA 35 A0Y [t 34],mV 4 35]
def L0E:SF:=⟨2,36,[.tmp 4],
 (qS (gR D0Y) (qS (gR D0Z) (qS (gR E0a) (qS (qS (gR E0b) (.cond (t 8) (gR E0c) .skip)) (qS (qS (gR u0N) (.block 0 (.loop (qS (qS (gR u0O) (.cond (t 12) .skip (.exit 0))) (qS (.block 1 (qS (gR u0P) (gR u0Q))) (gR u0R)))))) (qS (gR q0U) (qS (gR q0V) .ret)))))))⟩
def E0d:SS:=[bX 1 a0a 0,mB 2 false]
def E0e:SS:=[fA 3 1 1,lD 4 3,lN 5 4,o 6 (bI .eql 5 0)]
def E0f:SS:=[fA 7 0 1,lD 8 7,nT 9 8,mV 2 9]
def E0g:SS:=[fA 10 1 1,lD 11 10,fA 12 1 1,lD 13 12,lN 14 13,o 15 (bI .sub 14 1),iA 16 1 11 15,lD 17 16,o 18 (.bin 0 .neq (t 17) (.const (.int .u32 0))),mV 2 18]
def L0F:SF:=⟨1,19,[.tmp 2],
 (qS (gR E0d) (qS (qS (gR E0e) (.cond (t 6) (qS (gR E0f) .ret) .skip)) (qS (gR E0g) .ret)))⟩
def E0h:SS:=[bX 1 a0a 0,mB 2 false]
def E0i:SS:=[lA 3 2 1,o 4 (.build zI []),cA 5 n0O [t 3,t 4],o 6 (bI .eql 5 0),mV 2 6]
def L0G:SF:=⟨1,7,[.tmp 2],
 (qS (gR E0h) (qS (gR E0i) .ret))⟩
def E0j:SS:=[bX 2 a0a 0,bX 3 a0a 1,mI 4 0]
def E0k:SS:=[lA 6 2 2,cA 7 e0o [t 6],mV 8 7,gT 9 8 (aS 2 3),gT 10 8 (.call e0o [t 9] true),gT 11 8 (.un .not (t 10)),pF 12 8 11,mV 5 12]
def E0l:SS:=[o 4 (.mv (.const (.int .i64 (-1))))]
def u0S:SS:=[lA 14 2 2,cA 15 e0o [t 14],nT 16 15,mV 17 16,gT 18 17 (aS 2 3),gT 19 17 (.call e0o [t 18] true),pF 20 17 19,mV 13 20]
def E0m:SS:=[mI 4 1]
def u0T:SS:=[lA 22 2 2,cA 23 e0o [t 22],mV 21 23]
def E0n:SS:=[lA 24 2 3,cB 25 g0c [t 24],lA 26 2 2,cA 27 g0c [t 26],cA 28 r0Y [t 25,t 27],mV 4 28]
def E0o:SS:=[lA 29 2 2,cB 30 g0c [t 29],lA 31 2 3,cA 32 g0c [t 31],cA 33 r0Y [t 30,t 32],mV 4 33]
def L0H:SF:=⟨2,34,[.tmp 4],
 (qS (gR E0j) (qS (.block 0 (qS (gR E0k) (.cond (t 5) (qS (gR E0l) .ret) (qS (gR u0S) (.cond (t 13) (qS (gR E0m) .ret) (qS (gR u0T) (.cond (t 21) (qS (.draw E0n [0,1,0,7,15,31] []) .ret) .skip))))))) (qS (.draw E0o [0,1,0,7,15,31] []) .ret)))⟩
def E0p:SS:=[bX 2 a0a 0,bX 3 a0a 1,o 4 (.alloc a0a zI)]
def E0q:SS:=[lA 10 2 2,cB 11 g0c [t 10],o 12 (.call g0O [(.const (.bool false)),t 11] false),lA 13 2 3,cB 14 g0c [t 13],o 15 (.call g0O [(.const (.bool false)),t 14] false),o 5 (.alloc a0a zI),o 6 (.alloc a0a zI),sT 2 5 12,sT 2 6 15]
def u0U:SS:=[fA 16 1 6,lD 17 16,lN 18 17,o 19 (bI .gtr 18 0)]
def E0r:SS:=[lA 21 2 5,lA 22 2 6,cA 23 m0c [t 21,t 22],mV 20 23,eX 24 20 0,eX 25 20 1,eX 26 20 2,o 7 (.alloc a0a zI),o 8 (.alloc a0a zI),sT 2 7 24,sT 2 8 25,mV 9 26]
def E0s:SS:=[lA 27 2 6,lA 28 2 8,sT 2 5 27,sT 2 6 28]
def E0t:SS:=[lA 29 2 5,sT 2 4 29]
def L0I:SF:=⟨2,30,[.cell 4 true 2],
 (qS (gR E0p) (qS (.draw E0q [0,1,3,0,15,31,0,0,255,511] []) (qS (.block 0 (.loop (qS (qS (gR u0U) (.cond (t 19) .skip (.exit 0))) (.block 1 (qS (gR E0r) (.draw E0s [0,0,1,7] [(1,2)])))))) (qS (gR E0t) .ret))))⟩
def E0u:SS:=[mN 2]
def E0v:SS:=[mV 3 0,o 4 (.bin 2 .eql (t 3) (.const (.slice none 0 0)))]
def E0w:SS:=[mN 2]
def E0x:SS:=[o 5 (.lit a0h [.int .u32 0] 0 []),mV 6 0,o 7 (.app a0h 1 4 (t 5) (t 6)),mV 2 7]
def L0J:SF:=⟨1,8,[.tmp 2],
 (qS (gR E0u) (qS (qS (gR E0v) (.cond (t 4) (qS (gR E0w) .ret) .skip)) (qS (gR E0x) .ret)))⟩
def E0y:SS:=[bX 2 a0a 0,bX 3 a0a 1,o 4 (.alloc a0a zI),o 5 (.alloc a0a zI),mI 6 0]
def E0z:SS:=[lA 13 2 2,cB 14 g0c [t 13],lA 15 2 3,cA 16 g0c [t 15],mV 7 14,mV 8 16]
def E0A:SS:=[mV 18 8,lN 19 18,o 20 (bI .eql 19 0),mV 17 20]
def V0T:SS:=[o 21 (.build zI []),o 22 (.build zI []),sT 2 4 21,sT 2 5 22,mI 6 1]
def E0B:SS:=[mV 24 7,mV 25 8,cA 26 r0Y [t 24,t 25],o 27 (bI .lss 26 0),mV 23 27]
def E0C:SS:=[o 28 (.build zI []),lA 29 2 2,cA 30 e0o [t 29],mV 31 7,cA 32 g0O [t 30,t 31],sT 2 4 28,sT 2 5 32,mI 6 0]
def u0V:SS:=[mV 34 8,lN 35 34,o 36 (bI .eql 35 1),mV 33 36]
def E0D:SS:=[mV 38 7,mV 39 8,o 40 (.ia 1 (t 39) (i 0)),lD 41 40,cA 42 A0P [t 38,t 41],mV 37 42,eX 43 37 0,eX 44 37 1,mV 9 43,mV 10 44]
def E0E:SS:=[lA 45 2 2,cB 46 e0o [t 45],lA 47 2 3,cB 48 e0o [t 47],o 49 (.bin 1 .neq (t 46) (t 48)),mV 50 9,cB 51 g0O [t 49,t 50],lA 52 2 2,cB 53 e0o [t 52],mV 54 10,o 55 (.lit a0h [.int .u32 0] 1 [(0,1,t 54)]),cA 56 g0O [t 53,t 55],sT 2 4 51,sT 2 5 56,mI 6 0]
def E0F:SS:=[mV 58 7,mV 59 8,cA 60 A0Q [t 58,t 59],mV 57 60,eX 61 57 0,eX 62 57 1,mV 11 61,mV 12 62]
def x0p:SS:=[lA 63 2 2,cB 64 e0o [t 63],lA 65 2 3,cB 66 e0o [t 65],o 67 (.bin 1 .neq (t 64) (t 66)),mV 68 11,cB 69 g0O [t 67,t 68],lA 70 2 2,cA 71 e0o [t 70],mV 72 12,cA 73 g0O [t 71,t 72],sT 2 4 69,sT 2 5 73,mI 6 0]
def L0K:SF:=⟨2,74,[.cell 4 true 2,.cell 5 true 2,.tmp 6],
 (qS (gR E0y) (qS (.draw E0z [0,1,0,7,15,31] []) (qS (.block 0 (qS (gR E0A) (.cond (t 17) (qS (gR V0T) .ret) (qS (gR E0B) (.cond (t 23) (qS (gR E0C) .ret) (qS (gR u0V) (.cond (t 33) (qS (gR E0D) (qS (.draw E0E [0,1,0,7,15,0,63,0,255,0,512,2047,4095,8191,16383] []) .ret)) .skip))))))) (qS (gR E0F) (qS (.draw x0p [0,1,0,7,15,0,63,0,255,0,1023,2047,4095,8191] []) .ret)))))⟩
def E0G:SS:=[mN 2]
def E0H:SS:=[lD 5 0,cK 6 5,fA 7 2 6,lD 8 7,o 9 (bI .add 8 1),o 10 (.mk a0a 32 zI (t 9) (t 9)),mV 3 10]
def E0I:SS:=[mV 11 3,lN 12 11,mI 13 0]
def V0U:SS:=[o 14 (bT .lss 13 12)]
def E0J:SS:=[mV 15 13,mV 4 15]
def E0K:SS:=[mV 16 3,mV 17 4,lA 18 2 1,iA 19 2 16 17,sT 2 19 18]
def V0V:SS:=[o 20 (bI .add 13 1),mV 13 20]
def E0L:SS:=[mV 21 3,mV 2 21]
def L0L:SF:=⟨2,22,[.tmp 2],
 (qS (gR E0G) (qS (gR E0H) (qS (qS (gR E0I) (.block 0 (.loop (qS (gR V0U) (qS (.cond (t 14) .skip (.exit 0)) (qS (.block 1 (qS (gR E0J) (gR E0K))) (gR V0V))))))) (qS (gR E0L) .ret))))⟩
def E0M:SS:=[bX 4 a0a 1,bX 5 a0a 2,o 6 (.alloc a0a zI)]
def E0N:SS:=[mV 8 0,cK 9 8,o 10 (.fa0 a0c (t 9)),lA 11 0 10,o 12 (.iface a0l (t 11)),cB 13 k0d [i 1],o 14 (.inv (t 12) [(a0l,k0e),(a0m,j0q)] [t 13] false),o 7 (.alloc a0a zI),sT 2 7 14]
def E0O:SS:=[mV 15 0,cK 16 15,o 17 (.fa0 a0c (t 16)),lA 18 0 17,o 19 (.iface a0l (t 18)),lA 20 2 4,lA 21 2 7,lA 22 2 5,lA 23 2 7,lA 24 2 7,o 25 (.inv (t 19) [(a0l,p0U),(a0m,p0V)] [t 20,t 21,t 22,t 23,t 24] true),sT 2 6 25]
def L0M:SF:=⟨3,26,[.cell 6 true 2],
 (qS (gR E0M) (qS (.draw E0N [0,1,3,7,15,0,63,0,255] []) (qS (.draw E0O [0,1,3,7,15,0,0,0,0,0,1023,2047] []) .ret)))⟩
def E0P:SS:=[mV 12 0,cK 13 12,fA 14 7 13,lD 15 14,o 16 (bI .add 15 1),cK 17 12,fA 18 7 17,sT 1 18 16]
def E0Q:SS:=[mV 19 0,cK 20 19,fA 21 3 20,lD 22 21,mV 23 1,iA 24 1 22 23,lD 25 24,mV 26 2,iA 27 2 25 26,lA 28 2 27,mV 29 0,cK 30 29,fA 31 3 30,lD 32 31,mV 33 1,iA 34 1 32 33,lD 35 34,o 6 (.alloc a0a zI),sT 2 6 28,mV 7 35]
def E0R:SS:=[mV 36 0,cK 37 36,fA 38 3 37,lD 39 38,lN 40 39,mI 41 0]
def V0W:SS:=[o 42 (bT .lss 41 40)]
def E0S:SS:=[mV 43 41,iA 44 1 39 41,lD 45 44,mV 8 43,mV 9 45]
def u0W:SS:=[mV 46 8,mV 47 1,o 48 (bT .eql 46 47)]
def E0T:SS:=[mV 49 9,mV 50 2,iA 51 2 49 50,lA 52 2 51,o 10 (.alloc a0a zI),sT 2 10 52]
def E0U:SS:=[mV 53 9,lN 54 53,mI 55 0]
def V0X:SS:=[o 56 (bT .lss 55 54)]
def E0V:SS:=[mV 57 55,mV 11 57]
def x0q:SS:=[mV 58 9,mV 59 11,mV 60 0,cK 61 60,o 62 (.fa0 a0c (t 61)),lA 63 0 62,o 64 (.iface a0l (t 63)),mV 65 9,mV 66 11,iA 67 2 65 66,lA 68 2 67,lA 69 2 6,lA 70 2 10,mV 71 7,mV 72 11,iA 73 2 71 72,lA 74 2 73,mV 75 0,cK 76 75,fA 77 4 76,lA 78 2 77,o 79 (.inv (t 64) [(a0l,p0U),(a0m,p0V)] [t 68,t 69,t 70,t 74,t 78] true),iA 80 2 58 59,sT 2 80 79]
def L0b:SS:=[o 81 (bI .add 55 1),mV 55 81]
def L0c:SS:=[o 82 (bI .add 41 1),mV 41 82]
def x0r:SS:=[mV 83 0,mV 84 0,cK 85 84,fA 86 6 85,lD 87 86,mV 88 1,lA 89 2 6,mV 90 2,cK 91 83,fA 92 4 91,sT 2 92 89,iA 93 1 87 88,sT 1 93 90]
def L0N:SF:=⟨3,94,[],
 (qS (gR E0P) (qS (.draw E0Q [0,1,3,7,0,31,63,0,255,511,0,1024,3072,7168,0,31744,64512,0,132095,524287] [(13,18),(16,18)]) (qS (qS (gR E0R) (.block 0 (.loop (qS (gR V0W) (qS (.cond (t 42) .skip (.exit 0)) (qS (.block 1 (qS (gR E0S) (qS (qS (gR u0W) (.cond (t 48) (.exit 1) .skip)) (qS (gR E0T) (qS (gR E0U) (.block 2 (.loop (qS (gR V0X) (qS (.cond (t 56) .skip (.exit 2)) (qS (.block 3 (qS (gR E0V) (.draw x0q [0,0,0,4,12,28,60,0,0,384,896,0,0,0,0,24576,57344,0,131072,393216,917504,2097148,4194303,8388607] []))) (gR L0b))))))))))) (gR L0c))))))) (.draw x0r [0,0,2,6,14,0,0,0,95,351,863,2047,4095] []))))⟩
def E0W:SS:=[bX 2 a0b 0,bX 3 a0b 1,o 4 (.alloc a0b zR),mI 5 0]
def E0X:SS:=[lA 6 4 2,cB 7 A0Z [t 6],lA 8 4 3,cA 9 A0Z [t 8],sT 4 2 7,sT 4 3 9]
def E0Y:SS:=[fA 10 0 2,lA 11 2 10,fA 12 2 3,lA 13 2 12,cB 14 s0f [t 11,t 13],fA 15 2 2,lA 16 2 15,fA 17 0 3,lA 18 2 17,cA 19 s0f [t 16,t 18],cA 20 p0T [t 14,t 19],eX 21 20 0,eX 22 20 1,sT 4 4 21,mV 5 22]
def L0O:SF:=⟨2,23,[.cell 4 true 4,.tmp 5],
 (qS (gR E0W) (qS (.draw E0X [0,1,0,7,15,31] []) (qS (.draw E0Y [0,1,0,4,15,0,32,0,128,511,1023,2047,2047,8191,16383] []) .ret)))⟩
def E0Z:SS:=[bX 3 a0a 1,o 4 (.alloc a0b zR)]
def F0a:SS:=[mV 8 0,cK 9 8,o 10 (.fa0 a0c (t 9)),lA 11 0 10,o 12 (.iface a0l (t 11)),lA 13 2 3,o 14 (.inv (t 12) [(a0l,s0d),(a0m,s0e)] [t 13] false),mV 15 0,cK 16 15,o 17 (.fa0 a0c (t 16)),lA 18 0 17,o 19 (.iface a0l (t 18)),mV 20 0,cK 21 20,fA 22 4 21,lA 23 2 22,o 24 (.inv (t 19) [(a0l,s0d),(a0m,s0e)] [t 23] false),cB 25 p0T [t 14,t 24],mV 7 25,eX 26 7 0,eX 27 7 1,o 5 (.alloc a0b zR),sT 4 5 26,mV 6 27]
def F0b:SS:=[lA 28 4 5,sT 4 4 28]
def L0P:SF:=⟨2,29,[.cell 4 true 4],
 (qS (gR E0Z) (qS (.draw F0a [0,1,3,7,15,0,63,0,128,384,896,1920,0,4096,12288,28672,65535,131071,262143,524287,524287,0,3145727,8388607] []) (qS (gR F0b) .ret)))⟩
def F0c:SS:=[bX 2 a0b 0,bX 3 a0b 1,o 4 (.alloc a0b zR)]
def F0d:SS:=[lA 5 4 2,lA 6 4 3,cB 7 A0Z [t 6],cB 8 A0R [t 7],cA 9 t0x [t 5,t 8],sT 4 4 9]
def L0Q:SF:=⟨2,10,[.cell 4 true 4],
 (qS (gR F0c) (qS (.draw F0d [0,0,2,6,15,31] []) .ret))⟩
def F0g:SS:=[mI 4 0]
def F0h:SS:=[mV 6 0,mV 7 1,o 8 (bT .lss 6 7),mV 5 8]
def F0i:SS:=[o 4 (.mv (.const (.int .i64 (-1))))]
def F0j:SS:=[mV 10 0,mV 11 1,o 12 (bT .gtr 10 11),mV 9 12]
def F0k:SS:=[mI 4 1]
def F0l:SS:=[mI 4 0]
def L0R:SF:=⟨2,13,[.tmp 4],
 (qS (gR F0g) (qS (.block 0 (qS (gR F0h) (.cond (t 5) (qS (gR F0i) .ret) (qS (gR F0j) (.cond (t 9) (qS (gR F0k) .ret) .skip))))) (qS (gR F0l) .ret)))⟩
def F0m:SS:=[mI 4 0]
def F0n:SS:=[mV 6 0,mV 7 1,o 8 (bT .lss 6 7),mV 5 8]
def F0o:SS:=[o 4 (.mv (.const (.int .i64 (-1))))]
def F0p:SS:=[mV 10 0,mV 11 1,o 12 (bT .gtr 10 11),mV 9 12]
def F0q:SS:=[mI 4 1]
def F0r:SS:=[mI 4 0]
def L0S:SF:=⟨2,13,[.tmp 4],
 (qS (gR F0m) (qS (.block 0 (qS (gR F0n) (.cond (t 5) (qS (gR F0o) .ret) (qS (gR F0p) (.cond (t 9) (qS (gR F0q) .ret) .skip))))) (qS (gR F0r) .ret)))⟩
def F0s:SS:=[mN 4,o 5 (.mv (.const (.int .u32 0)))]
def F0t:SS:=[mV 9 0,lN 10 9,o 11 (.mk a0h 4 [.int .u32 0] (t 10) (t 10)),mV 6 11]
def F0u:SS:=[o 7 (.mv (.const (.int .u64 0)))]
def F0v:SS:=[mV 12 0,lN 13 12,o 14 (bI .sub 13 1),mV 8 14]
def u0X:SS:=[mV 15 8,o 16 (bI .geq 15 0)]
def F0w:SS:=[mV 19 7,o 20 (.bin 0 .shl (t 19) (.const (.int .u64 32))),mV 21 0,mV 22 8,iA 23 1 21 22,lD 24 23,cV 25 .u64 24,o 26 (bT .or 20 25),mV 7 26]
def F0x:SS:=[mV 27 6,mV 28 8,mV 29 7,mV 30 1,cV 31 .u64 30,o 32 (bT .quo 29 31),cA 33 g0d [t 32],iA 34 1 27 28,sT 1 34 33]
def F0y:SS:=[mV 35 7,mV 36 1,cV 37 .u64 36,o 38 (bT .rem 35 37),mV 7 38]
def F0z:SS:=[mV 17 8,o 18 (bI .sub 17 1),mV 8 18]
def F0A:SS:=[mV 39 6,mV 40 7,cA 41 g0d [t 40],mV 4 39,mV 5 41]
def L0T:SF:=⟨2,42,[.tmp 4,.tmp 5],
 (qS (gR F0s) (qS (gR F0t) (qS (gR F0u) (qS (qS (gR F0v) (.block 0 (.loop (qS (qS (gR u0X) (.cond (t 16) .skip (.exit 0))) (qS (.block 1 (qS (gR F0w) (qS (gR F0x) (gR F0y)))) (gR F0z)))))) (qS (gR F0A) .ret)))))⟩
def F0B:SS:=[mN 4,mN 5]
def F0C:SS:=[mI 6 0]
def u0Y:SS:=[mV 16 1,mV 17 1,lN 18 17,o 19 (bI .sub 18 1),iA 20 1 16 19,lD 21 20,mV 22 6,o 23 (bT .shl 21 22),o 24 (.bin 0 .shr (t 23) (.const (.int .u64 31))),o 25 (.bin 0 .eql (t 24) (.const (.int .u32 0)))]
def u0Z:SS:=[mV 26 6,o 27 (bI .add 26 1),mV 6 27]
def F0D:SS:=[mV 28 0,mV 29 6,cA 30 y0H [t 28,t 29],mV 31 1,mV 32 6,cA 33 y0H [t 31,t 32],mV 34 1,lN 35 34,o 36 (.sl a0h 1 (t 33) none (some (t 35)) none),mV 7 30,mV 8 36]
def F0E:SS:=[mV 37 8,lN 38 37,mV 9 38]
def F0F:SS:=[mV 39 7,lN 40 39,mV 41 9,o 42 (bT .sub 40 41),o 43 (.mnx true (t 42) [i 0]),o 44 (.mk a0h 4 [.int .u32 0] (t 43) (t 43)),mV 4 44]
def F0G:SS:=[mV 45 8,mV 46 9,o 47 (bI .sub 46 1),iA 48 1 45 47,lD 49 48,cV 50 .u64 49,mV 51 8,mV 52 9,o 53 (bI .sub 52 2),iA 54 1 51 53,lD 55 54,cV 56 .u64 55,mV 10 50,mV 11 56]
def F0H:SS:=[mV 57 7,lN 58 57,mV 59 9,o 60 (bT .sub 58 59),o 61 (bI .sub 60 1),mV 12 61]
def v0a:SS:=[mV 62 12,o 63 (bI .geq 62 0)]
def x0s:SS:=[mV 66 7,mV 67 12,mV 68 9,o 69 (bT .add 67 68),iA 70 1 66 69,lD 71 70,cV 72 .u64 71,o 73 (.bin 0 .shl (t 72) (.const (.int .u64 32))),mV 74 7,mV 75 12,mV 76 9,o 77 (bT .add 75 76),o 78 (bI .sub 77 1),iA 79 1 74 78,lD 80 79,cV 81 .u64 80,o 82 (bT .or 73 81),mV 13 82]
def x0t:SS:=[mV 83 13,mV 84 10,o 85 (bT .quo 83 84),mV 86 13,mV 87 10,o 88 (bT .rem 86 87),mV 14 85,mV 15 88]
def l0A:SS:=[mV 89 14,o 90 (.bin 0 .geq (t 89) (.const (.int .u64 4294967296))),mV 91 90,gF 92 91 (mS 14),gF 93 91 (mS 11),gF 94 91 (bT .mul 92 93),gF 95 91 (mS 15),gF 96 91 (.bin 0 .shl (t 95) (.const (.int .u64 32))),gF 97 91 (mS 7),gF 98 91 (mS 12),gF 99 91 (mS 9),gF 100 91 (bT .add 98 99),gF 101 91 (bI .sub 100 2),gF 102 91 (iS 1 97 101),gF 103 91 (lS 102),gF 104 91 (.conv .u64 (t 103)),gF 105 91 (bT .or 96 104),gF 106 91 (bT .gtr 94 105),pT 107 91 106]
def j0J:SS:=[mV 108 14,o 109 (.bin 0 .sub (t 108) (.const (.int .u64 1))),mV 14 109]
def j0K:SS:=[mV 110 15,mV 111 10,o 112 (bT .add 110 111),mV 15 112]
def j0L:SS:=[mV 113 15,o 114 (.bin 0 .geq (t 113) (.const (.int .u64 4294967296)))]
def x0u:SS:=[mV 115 7,mV 116 12,mV 117 12,mV 118 9,o 119 (bT .add 117 118),o 120 (bI .add 119 1),o 121 (.sl a0h 1 (t 115) (some (t 116)) (some (t 120)) none),mV 122 8,mV 123 14,cA 124 A0S [t 121,t 122,t 123]]
def x0v:SS:=[mV 125 14,o 126 (.bin 0 .sub (t 125) (.const (.int .u64 1))),mV 14 126]
def x0w:SS:=[mV 127 7,mV 128 12,mV 129 12,mV 130 9,o 131 (bT .add 129 130),o 132 (bI .add 131 1),o 133 (.sl a0h 1 (t 127) (some (t 128)) (some (t 132)) none),mV 134 8,cA 135 A0T [t 133,t 134]]
def q0W:SS:=[mV 136 4,mV 137 12,mV 138 14,cA 139 g0d [t 138],iA 140 1 136 137,sT 1 140 139]
def q0X:SS:=[mV 64 12,o 65 (bI .sub 64 1),mV 12 65]
def x0x:SS:=[mV 141 4,mV 142 7,mV 143 9,o 144 (.sl a0h 1 (t 142) none (some (t 143)) none),mV 145 6,cA 146 A0U [t 144,t 145],mV 4 141,mV 5 146]
def L0U:SF:=⟨2,147,[.tmp 4,.tmp 5],
 (qS (gR F0B) (qS (gR F0C) (qS (.block 0 (.loop (qS (qS (gR u0Y) (.cond (t 25) .skip (.exit 0))) (.block 1 (gR u0Z))))) (qS (.draw F0D [0,0,3,0,0,31,0,64,255,63,1023] []) (qS (gR F0E) (qS (gR F0F) (qS (.draw F0G [0,0,2,7,15,31,0,0,128,448,960,1984,63,8191] []) (qS (qS (gR F0H) (.block 2 (.loop (qS (qS (gR v0a) (.cond (t 63) .skip (.exit 2))) (qS (.block 3 (qS (.draw x0s [0,0,0,6,15,31,63,127,0,0,0,1536,3584,7936,16128,32512,65535,131071] []) (qS (.draw x0t [0,0,3,0,0,24,7,127] []) (qS (.block 4 (.loop (qS (qS (gR l0A) (.cond (t 107) .skip (.exit 4))) (.block 5 (qS (gR j0J) (qS (gR j0K) (qS (gR j0L) (.cond (t 114) (.exit 4) .skip)))))))) (qS (qS (gR x0u) (.cond (t 124) (qS (gR x0v) (gR x0w)) .skip)) (gR q0W)))))) (gR q0X)))))) (qS (gR x0x) .ret)))))))))⟩
def F0I:SS:=[mN 2]
def F0J:SS:=[lD 5 0,cK 6 5,fA 7 2 6,lD 8 7,o 9 (bI .add 8 1),o 10 (.mk d0J 8 [.int .i64 0] (t 9) (t 9)),mV 3 10]
def F0K:SS:=[mV 11 3,lN 12 11,mI 13 0]
def V0Y:SS:=[o 14 (bT .lss 13 12)]
def F0L:SS:=[mV 15 13,mV 4 15]
def F0M:SS:=[mV 16 3,mV 17 4,lD 18 1,iA 19 1 16 17,sT 1 19 18]
def V0Z:SS:=[o 20 (bI .add 13 1),mV 13 20]
def F0N:SS:=[mV 21 3,mV 2 21]
def L0V:SF:=⟨2,22,[.tmp 2],
 (qS (gR F0I) (qS (gR F0J) (qS (qS (gR F0K) (.block 0 (.loop (qS (gR V0Y) (qS (.cond (t 14) .skip (.exit 0)) (qS (.block 1 (qS (gR F0L) (gR F0M))) (gR V0Z))))))) (qS (gR F0N) .ret))))⟩
def F0O:SS:=[mI 6 0]
def F0P:SS:=[mV 8 0,cK 9 8,o 10 (.fa0 a0d (t 9)),lA 11 0 10,o 12 (.iface a0m (t 11)),cB 13 k0d [i 1],o 14 (.inv (t 12) [(a0l,k0e),(a0m,j0q)] [t 13] true),mV 7 14]
def F0Q:SS:=[mV 15 0,cK 16 15,o 17 (.fa0 a0d (t 16)),lA 18 0 17,o 19 (.iface a0m (t 18)),mV 20 1,mV 21 7,mV 22 2,mV 23 7,mV 24 7,o 25 (.inv (t 19) [(a0l,p0U),(a0m,p0V)] [t 20,t 21,t 22,t 23,t 24] true),mV 6 25]
def L0W:SF:=⟨3,26,[.tmp 6],
 (qS (gR F0O) (qS (.draw F0P [0,1,3,7,15,0,63,127] []) (qS (gR F0Q) .ret)))⟩
def F0R:SS:=[mV 12 0,cK 13 12,fA 14 6 13,lD 15 14,o 16 (bI .add 15 1),cK 17 12,fA 18 6 17,sT 1 18 16]
def F0S:SS:=[mV 19 0,cK 20 19,fA 21 3 20,lD 22 21,mV 23 1,iA 24 1 22 23,lD 25 24,mV 26 2,iA 27 1 25 26,lD 28 27,mV 29 0,cK 30 29,fA 31 3 30,lD 32 31,mV 33 1,iA 34 1 32 33,lD 35 34,mV 6 28,mV 7 35]
def F0T:SS:=[mV 36 0,cK 37 36,fA 38 3 37,lD 39 38,lN 40 39,mI 41 0]
def W0a:SS:=[o 42 (bT .lss 41 40)]
def F0U:SS:=[mV 43 41,iA 44 1 39 41,lD 45 44,mV 8 43,mV 9 45]
def v0b:SS:=[mV 46 8,mV 47 1,o 48 (bT .eql 46 47)]
def F0V:SS:=[mV 49 9,mV 50 2,iA 51 1 49 50,lD 52 51,mV 10 52]
def F0W:SS:=[mV 53 9,lN 54 53,mI 55 0]
def W0b:SS:=[o 56 (bT .lss 55 54)]
def F0X:SS:=[mV 57 55,mV 11 57]
def x0y:SS:=[mV 58 9,mV 59 11,mV 60 0,cK 61 60,o 62 (.fa0 a0d (t 61)),lA 63 0 62,o 64 (.iface a0m (t 63)),mV 65 9,mV 66 11,iA 67 1 65 66,lD 68 67,mV 69 6,mV 70 10,mV 71 7,mV 72 11,iA 73 1 71 72,lD 74 73,mV 75 0,cK 76 75,fA 77 4 76,lD 78 77,o 79 (.inv (t 64) [(a0l,p0U),(a0m,p0V)] [t 68,t 69,t 70,t 74,t 78] true),iA 80 1 58 59,sT 1 80 79]
def L0d:SS:=[o 81 (bI .add 55 1),mV 55 81]
def L0e:SS:=[o 82 (bI .add 41 1),mV 41 82]
def x0z:SS:=[mV 83 0,mV 84 0,cK 85 84,fA 86 5 85,lD 87 86,mV 88 1,mV 89 6,mV 90 2,cK 91 83,fA 92 4 91,sT 1 92 89,iA 93 1 87 88,sT 1 93 90]
def L0X:SF:=⟨3,94,[],
 (qS (gR F0R) (qS (.draw F0S [0,1,3,7,0,31,63,0,255,511,0,1024,3072,7168,0,31744,64512,1023,262143] []) (qS (qS (gR F0T) (.block 0 (.loop (qS (gR W0a) (qS (.cond (t 42) .skip (.exit 0)) (qS (.block 1 (qS (gR F0U) (qS (qS (gR v0b) (.cond (t 48) (.exit 1) .skip)) (qS (gR F0V) (qS (gR F0W) (.block 2 (.loop (qS (gR W0b) (qS (.cond (t 56) .skip (.exit 2)) (qS (.block 3 (qS (gR F0X) (.draw x0y [0,0,0,4,12,28,60,0,0,384,896,0,0,0,0,24576,57344,0,131072,393216,917504,2097148,4194303,8388607] []))) (gR L0d))))))))))) (gR L0e))))))) (gR x0z))))⟩
def F0Y:SS:=[o 4 (.alloc a0b zR)]
def F0Z:SS:=[mV 8 0,cK 9 8,o 10 (.fa0 a0d (t 9)),lA 11 0 10,o 12 (.iface a0m (t 11)),mV 13 1,o 14 (.inv (t 12) [(a0l,s0d),(a0m,s0e)] [t 13] false),mV 15 0,cK 16 15,o 17 (.fa0 a0d (t 16)),lA 18 0 17,o 19 (.iface a0m (t 18)),mV 20 0,cK 21 20,fA 22 4 21,lD 23 22,o 24 (.inv (t 19) [(a0l,s0d),(a0m,s0e)] [t 23] false),cB 25 p0T [t 14,t 24],mV 7 25,eX 26 7 0,eX 27 7 1,o 5 (.alloc a0b zR),sT 4 5 26,mV 6 27]
def G0a:SS:=[lA 28 4 5,sT 4 4 28]
def L0Y:SF:=⟨2,29,[.cell 4 true 4],
 (qS (gR F0Y) (qS (.draw F0Z [0,1,3,7,15,0,63,0,128,384,896,1920,0,4096,12288,28672,65535,131071,262143,524287,524287,0,3145727,8388607] []) (qS (gR G0a) .ret)))⟩
def G0b:SS:=[bX 1 a0b 0,o 2 (.alloc a0b zR)]
def G0c:SS:=[fA 3 0 1,lA 4 2 3,cB 5 K0o [t 4],fA 6 2 1,lA 7 2 6,o 8 (.build zR [(0,2,t 5),(2,2,t 7)]),sT 4 2 8]
def L0Z:SF:=⟨1,9,[.cell 2 true 4],
 (qS (gR G0b) (qS (.draw G0c [0,1,3,0,8,31,63] []) .ret))⟩
def G0d:SS:=[mN 4]
def G0e:SS:=[mV 9 0,lN 10 9,o 11 (bI .add 10 1),o 12 (.mk a0h 4 [.int .u32 0] (i 0) (t 11)),mV 5 12]
def G0f:SS:=[o 6 (.mv (.const (.int .u64 0)))]
def G0g:SS:=[mV 13 0,lN 14 13,mI 15 0]
def v0c:SS:=[o 16 (bT .lss 15 14)]
def G0h:SS:=[iA 17 1 13 15,lD 18 17,mV 8 18]
def G0i:SS:=[mV 19 6,mV 20 8,cV 21 .u64 20,mV 22 1,o 23 (bT .shl 21 22),o 24 (bT .or 19 23),mV 6 24]
def G0j:SS:=[mV 25 5,mV 26 6,cA 27 g0d [t 26],o 28 (.lit a0h [.int .u32 0] 1 [(0,1,t 27)]),o 29 (.app a0h 1 4 (t 25) (t 28)),mV 5 29]
def G0k:SS:=[mV 30 6,o 31 (.bin 0 .shr (t 30) (.const (.int .u64 32))),mV 6 31]
def G0l:SS:=[o 32 (bI .add 15 1),mV 15 32]
def x0A:SS:=[mV 33 5,mV 34 6,cA 35 g0d [t 34],o 36 (.lit a0h [.int .u32 0] 1 [(0,1,t 35)]),o 37 (.app a0h 1 4 (t 33) (t 36)),mV 4 37]
def M0a:SF:=⟨2,38,[.tmp 4],
 (qS (gR G0d) (qS (gR G0e) (qS (gR G0f) (qS (qS (gR G0g) (.block 0 (.loop (qS (gR v0c) (qS (.cond (t 16) .skip (.exit 0)) (qS (.block 1 (qS (gR G0h) (qS (gR G0i) (qS (gR G0j) (gR G0k))))) (gR G0l))))))) (qS (gR x0A) .ret)))))⟩
def G0m:SS:=[mB 6 false]
def G0n:SS:=[o 7 (.mv (.const (.int .u64 0)))]
def G0o:SS:=[mV 10 0,lN 11 10,mI 12 0]
def q0Z:SS:=[o 13 (bT .lss 12 11)]
def v0d:SS:=[mV 14 12,mV 8 14]
def v0e:SS:=[mV 15 8,mV 16 1,lN 17 16,o 18 (bT .lss 15 17)]
def v0f:SS:=[mV 19 7,mV 20 1,mV 21 8,iA 22 1 20 21,lD 23 22,cV 24 .u64 23,mV 25 2,o 26 (bT .mul 24 25),o 27 (bT .add 19 26),mV 7 27]
def v0g:SS:=[mV 28 0,mV 29 8,iA 30 1 28 29,lD 31 30,cV 32 .u64 31,mV 33 7,o 34 (.bin 0 .and (t 33) (.const (.int .u64 4294967295))),o 35 (bT .sub 32 34),mV 9 35]
def v0h:SS:=[mV 36 0,mV 37 8,mV 38 9,cA 39 g0d [t 38],iA 40 1 36 37,sT 1 40 39]
def v0i:SS:=[mV 41 7,o 42 (.bin 0 .shr (t 41) (.const (.int .u64 32))),mV 43 9,o 44 (.bin 0 .shr (t 43) (.const (.int .u64 63))),o 45 (bT .add 42 44),mV 7 45]
def q0Y:SS:=[o 46 (bI .add 12 1),mV 12 46]
def x0B:SS:=[mV 47 7,o 48 (.bin 0 .neq (t 47) (.const (.int .u64 0))),mV 6 48]
def M0b:SF:=⟨3,49,[.tmp 6],
 (qS (gR G0m) (qS (gR G0n) (qS (qS (gR G0o) (.block 0 (.loop (qS (gR q0Z) (qS (.cond (t 13) .skip (.exit 0)) (qS (.block 1 (qS (gR v0d) (qS (qS (gR v0e) (.cond (t 18) (gR v0f) .skip)) (qS (gR v0g) (qS (gR v0h) (gR v0i)))))) (gR q0Y))))))) (qS (gR x0B) .ret))))⟩
def G0p:SS:=[o 4 (.mv (.const (.int .u64 0)))]
def G0q:SS:=[mV 6 0,lN 7 6,mI 8 0]
def r0a:SS:=[o 9 (bT .lss 8 7)]
def v0j:SS:=[mV 10 8,mV 5 10]
def v0k:SS:=[mV 11 4,mV 12 0,mV 13 5,iA 14 1 12 13,lD 15 14,cV 16 .u64 15,o 17 (bT .add 11 16),mV 4 17]
def v0l:SS:=[mV 18 5,mV 19 1,lN 20 19,o 21 (bT .lss 18 20)]
def v0m:SS:=[mV 22 4,mV 23 1,mV 24 5,iA 25 1 23 24,lD 26 25,cV 27 .u64 26,o 28 (bT .add 22 27),mV 4 28]
def v0n:SS:=[mV 29 0,mV 30 5,mV 31 4,cA 32 g0d [t 31],iA 33 1 29 30,sT 1 33 32]
def v0o:SS:=[mV 34 4,o 35 (.bin 0 .shr (t 34) (.const (.int .u64 32))),mV 4 35]
def v0p:SS:=[o 36 (bI .add 8 1),mV 8 36]
def M0c:SF:=⟨2,37,[],
 (qS (gR G0p) (qS (gR G0q) (.block 0 (.loop (qS (gR r0a) (qS (.cond (t 9) .skip (.exit 0)) (qS (.block 1 (qS (gR v0j) (qS (gR v0k) (qS (qS (gR v0l) (.cond (t 21) (gR v0m) .skip)) (qS (gR v0n) (gR v0o)))))) (gR v0p))))))))⟩
def G0r:SS:=[mN 4]
def G0s:SS:=[mV 8 0,lN 9 8,o 10 (.mk a0h 4 [.int .u32 0] (t 9) (t 9)),mV 5 10]
def G0t:SS:=[mV 11 0,lN 12 11,mI 13 0]
def r0b:SS:=[o 14 (bT .lss 13 12)]
def v0q:SS:=[mV 15 13,mV 6 15]
def v0r:SS:=[mV 16 0,mV 17 6,iA 18 1 16 17,lD 19 18,cV 20 .u64 19,mV 7 20]
def v0s:SS:=[mV 21 6,o 22 (bI .add 21 1),mV 23 0,lN 24 23,o 25 (bT .lss 22 24)]
def v0t:SS:=[mV 26 7,mV 27 0,mV 28 6,o 29 (bI .add 28 1),iA 30 1 27 29,lD 31 30,cV 32 .u64 31,o 33 (.bin 0 .shl (t 32) (.const (.int .u64 32))),o 34 (bT .or 26 33),mV 7 34]
def v0u:SS:=[mV 35 5,mV 36 6,mV 37 7,mV 38 1,o 39 (bT .shr 37 38),cA 40 g0d [t 39],iA 41 1 35 36,sT 1 41 40]
def v0v:SS:=[o 42 (bI .add 13 1),mV 13 42]
def x0C:SS:=[mV 43 5,mV 4 43]
def M0d:SF:=⟨2,44,[.tmp 4],
 (qS (gR G0r) (qS (gR G0s) (qS (qS (gR G0t) (.block 0 (.loop (qS (gR r0b) (qS (.cond (t 14) .skip (.exit 0)) (qS (.block 1 (qS (gR v0q) (qS (gR v0r) (qS (qS (gR v0s) (.cond (t 25) (gR v0t) .skip)) (gR v0u))))) (gR v0v))))))) (qS (gR x0C) .ret))))⟩
def G0x:SS:=[bX 5 a0l 0,bX 6 a0a 1,bX 7 a0a 2,bX 8 a0a 3,bX 9 a0a 4,mI 10 0]
def G0y:SS:=[lA 11 2 6,lA 12 2 7,cB 13 s0f [t 11,t 12],lA 14 2 8,lA 15 2 9,cA 16 s0f [t 14,t 15],cA 17 n0O [t 13,t 16],mV 10 17]
def M0e:SF:=⟨5,18,[.tmp 10],
 (qS (gR G0x) (qS (.draw G0y [0,0,3,0,0,31,63,127] []) .ret))⟩
def G0z:SS:=[bX 2 a0l 0,bX 3 a0a 1,o 4 (.alloc a0a zI)]
def G0A:SS:=[lA 5 2 3,cA 6 K0o [t 5],sT 2 4 6]
def M0f:SF:=⟨2,7,[.cell 4 true 2],
 (qS (gR G0z) (qS (gR G0A) .ret))⟩
def G0B:SS:=[bX 2 a0l 0,bX 3 a0a 1,o 4 (.alloc a0a zI)]
def G0C:SS:=[lA 5 2 3,sT 2 4 5]
def M0g:SF:=⟨2,6,[.cell 4 true 2],
 (qS (gR G0B) (qS (gR G0C) .ret))⟩
def G0D:SS:=[bX 2 a0l 0,bX 3 a0a 1,o 4 (.alloc a0a zI)]
def G0E:SS:=[lA 5 2 3,sT 2 4 5]
def M0h:SF:=⟨2,6,[.cell 4 true 2],
 (qS (gR G0D) (qS (gR G0E) .ret))⟩
def G0F:SS:=[bX 2 a0l 0,bX 3 a0a 1,mI 4 0]
def G0G:SS:=[lA 5 2 3,o 6 (.build zI []),cA 7 n0O [t 5,t 6],mV 4 7]
def M0i:SF:=⟨2,8,[.tmp 4],
 (qS (gR G0F) (qS (gR G0G) .ret))⟩
def G0H:SS:=[bX 6 a0l 0,bX 7 a0a 1,bX 8 a0a 2,bX 9 a0a 3,bX 10 a0a 4,bX 11 a0a 5,o 12 (.alloc a0a zI)]
def G0I:SS:=[lA 17 2 7,lA 18 2 8,cB 19 s0f [t 17,t 18],lA 20 2 9,lA 21 2 10,cB 22 s0f [t 20,t 21],cB 23 A0V [t 19,t 22],lA 24 2 11,cB 25 m0c [t 23,t 24],mV 16 25,eX 26 16 0,eX 27 16 1,eX 28 16 2,o 13 (.alloc a0a zI),o 14 (.alloc a0a zI),sT 2 13 26,sT 2 14 27,mV 15 28]
def G0J:SS:=[lA 29 2 13,sT 2 12 29]
def M0j:SF:=⟨6,30,[.cell 12 true 2],
 (qS (gR G0H) (qS (.draw G0I [0,0,3,0,0,31,63,0,255,511,1023,1023,1023,0,0,26623,61439,131071] []) (qS (gR G0J) .ret)))⟩
def G0K:SS:=[bX 2 a0a 0,bX 3 a0a 1,o 4 (.alloc a0a zI)]
def G0L:SS:=[lA 5 2 2,lA 6 2 3,cB 7 K0o [t 6],cA 8 B0a [t 5,t 7],sT 2 4 8]
def M0k:SF:=⟨2,9,[.cell 4 true 2],
 (qS (gR G0K) (qS (.draw G0L [0,0,2,7,15] []) .ret))⟩
def G0M:SS:=[bX 5 a0m 0,mI 10 0]
def G0N:SS:=[mV 11 1,mV 12 2,o 13 (bT .mul 11 12),mV 14 3,mV 15 4,o 16 (bT .mul 14 15),cA 17 y0K [t 13,t 16],mV 10 17]
def M0l:SF:=⟨5,18,[.tmp 10],
 (qS (gR G0M) (qS (gR G0N) .ret))⟩
def G0O:SS:=[bX 2 a0m 0,mI 4 0]
def G0P:SS:=[mV 5 1,o 6 (.un .neg (t 5)),mV 4 6]
def M0m:SF:=⟨2,7,[.tmp 4],
 (qS (gR G0O) (qS (gR G0P) .ret))⟩
def G0Q:SS:=[bX 2 a0m 0,o 4 (.alloc a0a zI)]
def G0R:SS:=[mV 5 1,cA 6 k0d [t 5],sT 2 4 6]
def M0n:SF:=⟨2,7,[.cell 4 true 2],
 (qS (gR G0Q) (qS (gR G0R) .ret))⟩
def v0w:SS:=[bX 2 a0m 0,bX 3 a0a 1,mI 4 0]
def v0x:SS:=[lA 8 2 3,cA 9 A0W [t 8],mV 7 9,eX 10 7 0,eX 11 7 1,mV 5 10,mV 6 11]
def v0y:SS:=[mV 12 6,nT 13 12]
def G0S:SS:=[o 14 (.build [] []),o 15 (.iface f0B (t 14)),⟨none,none,.pan (t 15)⟩]
def v0z:SS:=[mV 16 5,cA 17 t0V [t 16],mV 4 17]
def J0d:SF:=⟨2,18,[.tmp 4],
 (qS (gR v0w) (qS (gR v0x) (qS (qS (gR v0y) (.cond (t 13) (gR G0S) .skip)) (qS (gR v0z) .ret))))⟩
def G0T:SS:=[bX 2 a0m 0,mI 4 0]
def G0U:SS:=[mV 5 1,cA 6 y0K [t 5,i 0],mV 4 6]
def M0o:SF:=⟨2,7,[.tmp 4],
 (qS (gR G0T) (qS (gR G0U) .ret))⟩
def G0V:SS:=[bX 6 a0m 0,mI 12 0]
def G0W:SS:=[mV 13 1,mV 14 2,o 15 (bT .mul 13 14),mV 16 3,mV 17 4,o 18 (bT .mul 16 17),o 19 (bT .sub 15 18),mV 20 5,o 21 (bT .quo 19 20),cA 22 t0V [t 21],mV 12 22]
def M0p:SF:=⟨6,23,[.tmp 12],
 (qS (gR G0V) (qS (gR G0W) .ret))⟩
def G0X:SS:=[mI 4 0]
def G0Y:SS:=[mV 6 0,mV 7 1,o 8 (bT .lss 6 7),mV 5 8]
def G0Z:SS:=[o 4 (.mv (.const (.int .i64 (-1))))]
def H0a:SS:=[mV 10 0,mV 11 1,o 12 (bT .gtr 10 11),mV 9 12]
def H0b:SS:=[mI 4 1]
def H0c:SS:=[mI 4 0]
def M0q:SF:=⟨2,13,[.tmp 4],
 (qS (gR G0X) (qS (.block 0 (qS (gR G0Y) (.cond (t 5) (qS (gR G0Z) .ret) (qS (gR H0a) (.cond (t 9) (qS (gR H0b) .ret) .skip))))) (qS (gR H0c) .ret)))⟩
def H0d:SS:=[bX 1 a0a 0,mI 2 0,mB 3 false]
def H0e:SS:=[lA 8 2 1,cA 9 g0c [t 8],mV 4 9]
def H0f:SS:=[mV 10 4,lN 11 10,o 12 (bI .gtr 11 2)]
def H0g:SS:=[mI 2 0,mB 3 false]
def H0h:SS:=[o 5 (.mv (.const (.int .u64 0)))]
def H0i:SS:=[mV 13 4,lN 14 13,mI 15 0]
def W0c:SS:=[o 16 (bT .lss 15 14)]
def H0j:SS:=[mV 17 15,iA 18 1 13 15,lD 19 18,mV 6 17,mV 7 19]
def H0k:SS:=[mV 20 5,mV 21 7,cV 22 .u64 21,mV 23 6,o 24 (.bin 0 .mul (i 32) (t 23)),o 25 (bT .shl 22 24),o 26 (bT .or 20 25),mV 5 26]
def W0d:SS:=[o 27 (bI .add 15 1),mV 15 27]
def x0D:SS:=[lA 29 2 1,cA 30 e0o [t 29],mV 31 30,gT 32 31 (mS 5),gT 33 31 (.bin 0 .leq (t 32) (.const (.int .u64 9223372036854775808))),pF 34 31 33,mV 28 34]
def x0E:SS:=[mV 35 5,o 36 (.un .neg (t 35)),cV 37 .i64 36,mV 2 37,mB 3 true]
def r0c:SS:=[lA 39 2 1,cA 40 e0o [t 39],nT 41 40,mV 42 41,gT 43 42 (mS 5),gT 44 42 (.bin 0 .lss (t 43) (.const (.int .u64 9223372036854775808))),pF 45 42 44,mV 38 45]
def x0F:SS:=[mV 46 5,cV 47 .i64 46,mV 2 47,mB 3 true]
def r0d:SS:=[mI 2 0,mB 3 false]
def M0r:SF:=⟨1,48,[.tmp 2,.tmp 3],
 (qS (gR H0d) (qS (gR H0e) (qS (qS (gR H0f) (.cond (t 12) (qS (gR H0g) .ret) .skip)) (qS (gR H0h) (qS (qS (gR H0i) (.block 0 (.loop (qS (gR W0c) (qS (.cond (t 16) .skip (.exit 0)) (qS (.block 1 (qS (gR H0j) (gR H0k))) (gR W0d))))))) (qS (.block 2 (qS (gR x0D) (.cond (t 28) (qS (gR x0E) .ret) (qS (gR r0c) (.cond (t 38) (qS (gR x0F) .ret) .skip))))) (qS (gR r0d) .ret)))))))⟩
def v0A:SS:=[mI 2 0]
def v0B:SS:=[mV 3 0,o 4 (.bin 0 .leq (t 3) (.const (.int .i64 (-2147483648)))),mV 5 4,gF 6 5 (mS 0),gF 7 5 (bI .geq 6 2147483648),pT 8 5 7]
def v0C:SS:=[o 9 (.build [] []),o 10 (.iface f0B (t 9)),⟨none,none,.pan (t 10)⟩]
def v0D:SS:=[mV 11 0,mV 2 11]
def J0e:SF:=⟨1,12,[.tmp 2],
 (qS (gR v0A) (qS (qS (gR v0B) (.cond (t 8) (gR v0C) .skip)) (qS (gR v0D) .ret)))⟩
end
end Go.Proofs.YtilekhkgobmolaaGreat.AI
