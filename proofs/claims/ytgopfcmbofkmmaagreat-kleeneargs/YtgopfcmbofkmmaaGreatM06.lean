/- Part 7 of the proof. -/
import Derived.Test.YtgopfcmbofkmmaaGreatM05
set_option linter.unusedVariables false
set_option linter.unusedSimpArgs false
set_option linter.unusedSectionVars false
namespace Go.Proofs.YtgopfcmbofkmmaaGreat.AI
open Go
section
abbrev o (d:Nat) (x:SOp):a0v:=⟨some d,none,x⟩
abbrev og (d g:Nat) (b:Bool) (x:SOp):a0v:=⟨some d,some (g,b),x⟩
abbrev t (n:Nat):Opd:=.tmp n
abbrev i (n:Int):Opd:=.const (.int .i64 n)
abbrev mV (d s:Nat):a0v:=⟨some d,none,.mv (.tmp s)⟩
abbrev lD (d s:Nat):a0v:=⟨some d,none,.load false 1 (.tmp s)⟩
abbrev lA (d n s:Nat):a0v:=⟨some d,none,.load true n (.tmp s)⟩
abbrev fA (d n s:Nat):a0v:=⟨some d,none,.fa n (.tmp s)⟩
abbrev iA (d n x y:Nat):a0v:=⟨some d,none,.ia n (.tmp x) (.tmp y)⟩
abbrev lN (d s:Nat):a0v:=⟨some d,none,.len (.tmp s)⟩
abbrev cK (d s:Nat):a0v:=⟨some d,none,.chk (.tmp s)⟩
abbrev gT (d g:Nat) (x:SOp):a0v:=⟨some d,some (g,true),x⟩
abbrev gF (d g:Nat) (x:SOp):a0v:=⟨some d,some (g,false),x⟩
abbrev lS (s:Nat):SOp:=.load false 1 (.tmp s)
abbrev aS (n s:Nat):SOp:=.load true n (.tmp s)
abbrev fS (n s:Nat):SOp:=.fa n (.tmp s)
abbrev iS (n x y:Nat):SOp:=.ia n (.tmp x) (.tmp y)
abbrev mS (s:Nat):SOp:=.mv (.tmp s)
abbrev nS (s:Nat):SOp:=.len (.tmp s)
abbrev bT (p:BinOp) (x y:Nat):SOp:=.bin 0 p (.tmp x) (.tmp y)
abbrev bI (p:BinOp) (x:Nat) (y:Int):SOp:=.bin 0 p (.tmp x) (.const (.int .i64 y))
abbrev pF (d x y:Nat):a0v:=⟨some d,none,.pick (.tmp x) (.tmp y) (.const (.bool false))⟩
abbrev pT (d x y:Nat):a0v:=⟨some d,none,.pick (.tmp x) (.const (.bool true)) (.tmp y)⟩
abbrev eX (d s k:Nat):a0v:=⟨some d,none,.ext (.tmp s) k⟩
abbrev bX (d e s:Nat):a0v:=⟨some d,none,.box e (.tmp s)⟩
abbrev cA (d f:Nat) (l:List Opd):a0v:=⟨some d,none,.call f l true⟩
abbrev cB (d f:Nat) (l:List Opd):a0v:=⟨some d,none,.call f l false⟩
abbrev cV (d:Nat) (k:IntKind) (s:Nat):a0v:=⟨some d,none,.conv k (.tmp s)⟩
abbrev mI (d:Nat) (n:Int):a0v:=⟨some d,none,.mv (.const (.int .i64 n))⟩
abbrev mB (d:Nat) (b:Bool):a0v:=⟨some d,none,.mv (.const (.bool b))⟩
abbrev mN (d:Nat):a0v:=⟨some d,none,.mv (.const (.slice none 0 0))⟩
abbrev nT (d s:Nat):a0v:=⟨some d,none,.un .not (.tmp s)⟩
abbrev sT (n x y:Nat):a0v:=⟨none,none,.store n (.tmp x) (.tmp y)⟩
abbrev zI:List Value:=[.bool false,.slice none 0 0]
abbrev zR:List Value:=[.bool false,.slice none 0 0,.bool false,.slice none 0 0]
abbrev zE:List Value:=[.int .i64 0,.bool false,.slice none 0 0,.bool false,.slice none 0 0]
abbrev zL:List Value:=[.int .i64 0,.slice none 0 0,.slice none 0 0,.slice none 0 0]
abbrev zA:List Value:=[.int .i64 0,.bool false,.slice none 0 0,.bool false,.slice none 0 0,.slice none 0 0,.slice none 0 0,.slice none 0 0]
attribute [simp] zI zR zE zL zA
abbrev SS:Type:=List a0v
abbrev SF:Type:=n0v
abbrev gR:List a0v->SCode:=.reg
abbrev qS:SCode->SCode->SCode:=.seq
abbrev f_5:Nat:=5
abbrev F1Z:Nat:=11
abbrev V0T:Nat:=12
abbrev u1k:Nat:=16
abbrev x0R:Nat:=18
abbrev G1a:Nat:=19
abbrev G1b:Nat:=21
abbrev v1y:Nat:=23
abbrev v1z:Nat:=24
abbrev v1A:Nat:=25
abbrev v1C:Nat:=26
abbrev W0E:Nat:=27
abbrev u1l:Nat:=28
abbrev v1G:Nat:=39
abbrev v1H:Nat:=42
abbrev G1c:Nat:=43
abbrev v1I:Nat:=44
abbrev J1h:Nat:=45
abbrev H0d:Nat:=46
abbrev v1J:Nat:=47
abbrev G1d:Nat:=48
abbrev W0Y:Nat:=50
abbrev W0Z:Nat:=51
abbrev S0l:Nat:=52
abbrev S0m:Nat:=53
abbrev J1i:Nat:=54
abbrev J1j:Nat:=55
abbrev J1k:Nat:=56
abbrev s0Y:Nat:=57
abbrev G1i:Nat:=78
abbrev G1j:Nat:=81
abbrev X0a:Nat:=82
abbrev z0a:Nat:=83
abbrev X0b:Nat:=84
abbrev F0z:Nat:=85
abbrev F0A:Nat:=86
abbrev S0n:Nat:=87
abbrev v1K:Nat:=88
abbrev F0B:Nat:=89
abbrev z0b:Nat:=90
abbrev v1L:Nat:=91
abbrev H0e:Nat:=92
abbrev v1M:Nat:=93
abbrev x0T:Nat:=94
abbrev X0c:Nat:=95
abbrev u1n:Nat:=96
abbrev S0o:Nat:=97
abbrev S0p:Nat:=98
abbrev S0q:Nat:=99
abbrev q0T:Nat:=105
abbrev s0L:Nat:=132
abbrev s0M:Nat:=134
abbrev y0y:Nat:=137
abbrev d0x:Nat:=139
abbrev q0W:Nat:=140
abbrev g0b:Nat:=141
abbrev g0c:Nat:=142
abbrev m0o:Nat:=143
abbrev j0P:Nat:=144
abbrev l0v:Nat:=145
abbrev y0z:Nat:=146
abbrev q0X:Nat:=147
abbrev y0A:Nat:=148
abbrev G0u:Nat:=149
abbrev j0t:Nat:=150
abbrev G0v:Nat:=151
abbrev l0w:Nat:=152
abbrev m0p:Nat:=153
abbrev w0N:Nat:=154
abbrev w0O:Nat:=155
abbrev s0N:Nat:=156
abbrev w0P:Nat:=157
abbrev W0d:Nat:=161
abbrev G0w:Nat:=162
abbrev w0R:Nat:=191
abbrev j0Q:Nat:=192
abbrev h0Q:Nat:=193
abbrev y0E:Nat:=199
abbrev y0F:Nat:=200
abbrev y0G:Nat:=201
abbrev y0H:Nat:=202
abbrev y0I:Nat:=203
abbrev g0d:Nat:=204
abbrev r0a:Nat:=205
abbrev y0J:Nat:=206
abbrev r0b:Nat:=207
abbrev y0K:Nat:=208
abbrev G0F:Nat:=209
abbrev m0q:Nat:=210
abbrev w0S:Nat:=211
abbrev w0T:Nat:=212
abbrev r0c:Nat:=214
abbrev y0L:Nat:=215
abbrev w0V:Nat:=240
abbrev y0N:Nat:=241
abbrev y0O:Nat:=242
abbrev y0P:Nat:=243
abbrev s0P:Nat:=244
abbrev y0Q:Nat:=245
abbrev w0W:Nat:=246
abbrev G0K:Nat:=247
abbrev n0E:Nat:=267
abbrev y0Z:Nat:=349
abbrev x0c:Nat:=357
abbrev y0b:Nat:=2
abbrev c0h:Nat:=3
abbrev d0L:Nat:=4
abbrev c0n:Nat:=5
abbrev c0c:Nat:=9
abbrev a0Z:Nat:=27
abbrev a0w:Nat:=33
abbrev k0W:Nat:=42
abbrev b0E:Nat:=46
abbrev c0G:Nat:=48
abbrev a0a:Nat:=61
abbrev a0d:Nat:=63
abbrev a0m:Nat:=67
abbrev b0t:Nat:=72
abbrev F0J:Nat:=77
abbrev l0Z:Nat:=79
abbrev h0G:Nat:=82
abbrev b0b:Nat:=98
abbrev d0t:Nat:=101
abbrev j0p:Nat:=105
abbrev f0j:Nat:=123
abbrev b0G:Nat:=125
abbrev e0b:Nat:=127
abbrev b0L:Nat:=132
abbrev b0M:Nat:=138
abbrev d0o:Nat:=140
abbrev a0b:Nat:=160
abbrev f0q:Nat:=164
abbrev a0j:Nat:=166
abbrev e0D:Nat:=171
abbrev c0x:Nat:=183
abbrev b0a:Nat:=185
abbrev a0y:Nat:=205
abbrev b0N:Nat:=213
abbrev b0J:Nat:=229
abbrev e0Y:Nat:=248
abbrev e0C:Nat:=258
abbrev e0U:Nat:=261
abbrev d0e:Nat:=276
abbrev b0n:Nat:=298
abbrev a0u:Nat:=312
abbrev a0S:Nat:=332
abbrev b0v:Nat:=350
abbrev a0A:Nat:=356
abbrev a0e:Nat:=370
abbrev b0h:Nat:=381
abbrev a0f:Nat:=385
abbrev i0u:Nat:=387
abbrev i0V:Nat:=418
def z1k:SS:=[bX 3 a0Z 0,bX 4 a0w 1,bX 5 c0G 2,mB 6 false]
def z1l:SS:=[lA 10 4 3,cA 11 v1y [t 10],mV 12 11,gF 13 12 (fS 0 4),gF 14 12 (lS 13),gF 15 12 (.call u1k [t 14] true),pT 16 12 15,mV 17 16,gF 18 17 (aS 3 5),gF 19 17 (.call v1z [t 18] true),pT 20 17 19]
def R0j:SS:=[cA 21 x0R [],mV 6 21]
def z1m:SS:=[lA 22 4 3,cA 23 v1A [t 22],mV 24 23,gT 25 24 (aS 1 4),gT 26 24 (fS 1 3),gT 27 24 (lS 26),gT 28 24 (nS 27),gT 29 24 (.call v1C [t 25,t 28] true),pF 30 24 29]
def z1n:SS:=[cA 31 x0R [],mV 6 31]
def s1i:SS:=[lA 33 4 3,lA 34 1 4,lA 35 3 5,cA 36 W0E [t 33,t 34,t 35],mV 32 36,eX 37 32 0,eX 38 32 1,eX 39 32 2,mV 7 37,mV 8 38,mV 9 39]
def s1j:SS:=[mV 40 9,cA 41 V0T [t 40],o 42 (bI .eql 41 1),mV 43 42,gT 44 43 (mS 7),gT 45 43 (nS 44),gT 46 43 (bI .eql 45 0),pF 47 43 46,mV 48 47,gT 49 48 (mS 8),gT 50 48 (bI .eql 49 0),pF 51 48 50,mV 52 51,gT 53 52 (.call x0R [] true),pF 54 52 53,mV 6 54]
def s_5:SF:=⟨3,55,[.tmp 6],
 (qS (gR z1k) (qS (qS (gR z1l) (.cond (t 20) (qS (gR R0j) .ret) .skip)) (qS (qS (gR z1m) (.cond (t 30) (qS (gR z1n) .ret) .skip)) (qS (gR s1i) (qS (gR s1j) .ret)))))⟩
def S0I:SS:=[mI 2 0]
def S0J:SS:=[mV 3 0,mV 2 3]
def C1u:SF:=⟨1,4,[.tmp 2],
 (qS (gR S0I) (qS (gR S0J) .ret))⟩
def S0K:SS:=[mB 2 false]
def S0L:SS:=[mI 3 0]
def S0M:SS:=[mI 4 0]
def v0G:SS:=[mV 5 4,mV 6 0,lN 7 6,o 8 (bT .lss 5 7),mV 9 8,gT 10 9 (mS 3),gT 11 9 (bI .leq 10 200),pF 12 9 11]
def S0N:SS:=[mV 15 3,o 16 (bI .add 15 1),mV 17 0,mV 18 4,iA 19 1 17 18,lD 20 19,lN 21 20,o 22 (.mnx false (t 21) [i 201]),o 23 (bT .add 16 22),mV 3 23]
def B0x:SS:=[mV 24 0,mV 25 4,iA 26 1 24 25,lD 27 26,lN 28 27,o 29 (bI .leq 28 200),mV 30 29,gT 31 30 (mS 0),gT 32 30 (mS 4),gT 33 30 (iS 1 31 32),gT 34 30 (lS 33),gT 35 30 (.call v1H [t 34] true),pF 36 30 35]
def S0O:SS:=[mB 2 true]
def B0y:SS:=[mV 13 4,o 14 (bI .add 13 1),mV 4 14]
def B0z:SS:=[mV 37 3,o 38 (bI .gtr 37 200),mV 2 38]
def G1A:SF:=⟨1,39,[.tmp 2],
 (qS (gR S0K) (qS (gR S0L) (qS (qS (gR S0M) (.block 0 (.loop (qS (qS (gR v0G) (.cond (t 12) .skip (.exit 0))) (qS (.block 1 (qS (gR S0N) (qS (gR B0x) (.cond (t 36) (qS (gR S0O) .ret) .skip)))) (gR B0y)))))) (qS (gR B0z) .ret))))⟩
def w1N:SS:=[bX 1 c0G 0,mB 2 false]
def w1O:SS:=[o 3 (.mv (.fn G1c))]
def w1P:SS:=[mV 4 3,fA 5 0 1,lD 6 5,o 7 (.callv (t 4) [t 6] true),mV 8 7,gT 9 8 (mS 3),gT 10 8 (fS 2 1),gT 11 8 (lS 10),gT 12 8 (.callv (t 9) [t 11] true),pF 13 8 12,mV 14 13,gT 15 14 (fS 1 1),gT 16 14 (lS 15),gT 17 14 (nS 16),gT 18 14 (bI .leq 17 16),pF 19 14 18,mV 20 19,gT 21 20 (fS 1 1),gT 22 20 (lS 21),gT 23 20 (.call v1I [t 22,.fn J1h] true),gT 24 20 (.un .not (t 23)),pF 25 20 24,mV 2 25]
def K1v:SF:=⟨1,26,[.tmp 2],
 (qS (gR w1N) (qS (gR w1O) (qS (gR w1P) .ret)))⟩
def w1Q:SS:=[mN 6]
def w1R:SS:=[mN 7]
def w1S:SS:=[mV 9 0,lN 10 9,mV 11 1,lN 12 11,o 13 (.mnx false (t 10) [t 12]),mI 14 0]
def w1T:SS:=[o 15 (bT .lss 14 13)]
def w1U:SS:=[mV 16 14,mV 8 16]
def w1V:SS:=[mV 17 7,mV 18 0,mV 19 8,iA 20 5 18 19,lA 21 5 20,mV 22 1,mV 23 8,iA 24 5 22 23,lA 25 5 24,mV 26 2,cA 27 G1d [t 21,t 25,t 26],o 28 (.lit a0m zE 1 [(0,5,t 27)]),o 29 (.app a0m 5 72 (t 17) (t 28)),mV 7 29]
def w1W:SS:=[o 30 (bI .add 14 1),mV 14 30]
def w1X:SS:=[mV 31 7,mV 6 31]
def K1w:SF:=⟨3,32,[.tmp 6],
 (qS (gR w1Q) (qS (gR w1R) (qS (qS (gR w1S) (.block 0 (.loop (qS (gR w1T) (qS (.cond (t 15) .skip (.exit 0)) (qS (.block 1 (qS (gR w1U) (.draw w1V [0,0,0,6,14,0,0,96,224,0,1022,2046,4095,8191] []))) (gR w1W))))))) (qS (gR w1X) .ret))))⟩
def S0P:SS:=[bX 1 a0Z 0,mB 2 false]
def o0s:SS:=[fA 5 0 1,lD 6 5,lN 7 6,o 8 (bI .gtr 7 60),mV 9 8,gF 10 9 (fS 1 1),gF 11 9 (lS 10),gF 12 9 (nS 11),gF 13 9 (bI .gtr 12 10),pT 14 9 13,mV 15 14,gF 16 15 (fS 2 1),gF 17 15 (lS 16),gF 18 15 (nS 17),gF 19 15 (bI .gtr 18 300),pT 20 15 19,mV 21 20,gF 22 21 (fS 3 1),gF 23 21 (lS 22),gF 24 21 (nS 23),gF 25 21 (bI .gtr 24 300),pT 26 21 25]
def r0R:SS:=[mB 2 true]
def S0Q:SS:=[mI 3 0]
def S0R:SS:=[mV 27 3,fA 28 2 1,lD 29 28,lN 30 29,o 31 (bT .lss 27 30)]
def v0Y:SS:=[fA 34 2 1,lD 35 34,mV 36 3,iA 37 6 35 36,fA 38 3 37,lD 39 38,lN 40 39,o 41 (bI .gtr 40 100),mV 42 41,gF 43 42 (fS 2 1),gF 44 42 (lS 43),gF 45 42 (mS 3),gF 46 42 (iS 6 44 45),gF 47 42 (fS 4 46),gF 48 42 (lS 47),gF 49 42 (nS 48),gF 50 42 (bI .gtr 49 20),pT 51 42 50,mV 52 51,gF 53 52 (fS 2 1),gF 54 52 (lS 53),gF 55 52 (mS 3),gF 56 52 (iS 6 54 55),gF 57 52 (fS 3 56),gF 58 52 (lS 57),gF 59 52 (.call W0Y [t 58] true),pT 60 52 59,mV 61 60,gF 62 61 (fS 2 1),gF 63 61 (lS 62),gF 64 61 (mS 3),gF 65 61 (iS 6 63 64),gF 66 61 (fS 4 65),gF 67 61 (lS 66),gF 68 61 (.call W0Y [t 67] true),pT 69 61 68]
def r0S:SS:=[mB 2 true]
def S0S:SS:=[mV 32 3,o 33 (bI .add 32 1),mV 3 33]
def S0T:SS:=[mI 4 0]
def S0U:SS:=[mV 70 4,fA 71 3 1,lD 72 71,lN 73 72,o 74 (bT .lss 70 73)]
def t0Z:SS:=[fA 77 3 1,lD 78 77,mV 79 4,iA 80 4 78 79,fA 81 3 80,lD 82 81,lN 83 82,o 84 (bI .gtr 83 100),mV 85 84,gF 86 85 (fS 3 1),gF 87 85 (lS 86),gF 88 85 (mS 4),gF 89 85 (iS 4 87 88),gF 90 85 (fS 3 89),gF 91 85 (lS 90),gF 92 85 (.call W0Y [t 91] true),pT 93 85 92]
def u0a:SS:=[mB 2 true]
def D0e:SS:=[mV 75 4,o 76 (bI .add 75 1),mV 4 76]
def D0f:SS:=[mB 2 false]
def G1B:SF:=⟨1,94,[.tmp 2],
 (qS (gR S0P) (qS (qS (gR o0s) (.cond (t 26) (qS (gR r0R) .ret) .skip)) (qS (qS (gR S0Q) (.block 0 (.loop (qS (qS (gR S0R) (.cond (t 31) .skip (.exit 0))) (qS (.block 1 (qS (gR v0Y) (.cond (t 69) (qS (gR r0S) .ret) .skip))) (gR S0S)))))) (qS (qS (gR S0T) (.block 2 (.loop (qS (qS (gR S0U) (.cond (t 74) .skip (.exit 2))) (qS (.block 3 (qS (gR t0Z) (.cond (t 93) (qS (gR u0a) .ret) .skip))) (gR D0e)))))) (qS (gR D0f) .ret)))))⟩
def S0V:SS:=[bX 1 c0G 0,mB 2 false]
def S0W:SS:=[fA 3 0 1,lD 4 3,o 5 (bI .gtr 4 6),mV 6 5,gT 7 6 (fS 0 1),gT 8 6 (lS 7),gT 9 6 (bI .leq 8 20),pF 10 6 9,mV 11 10,gF 12 11 (fS 2 1),gF 13 11 (lS 12),gF 14 11 (bI .gtr 13 4),gF 15 11 (mS 14),gT 16 15 (fS 2 1),gT 17 15 (lS 16),gT 18 15 (bI .leq 17 20),gF 19 11 (.pick (t 15) (t 18) (.const (.bool false))),pT 20 11 19,mV 21 20,gF 22 21 (fS 1 1),gF 23 21 (lS 22),gF 24 21 (.lit b0E [.slice none 0 0] 1 [(0,1,t 23)]),gF 25 21 (.call u1k [t 24] true),pT 26 21 25,mV 2 26]
def G1C:SF:=⟨1,27,[.tmp 2],
 (qS (gR S0V) (qS (gR S0W) .ret))⟩
def S0X:SS:=[bX 1 a0Z 0,mB 2 false]
def S0Y:SS:=[fA 8 1 1,lD 9 8,lN 10 9,mV 3 10]
def m0U:SS:=[fA 11 0 1,lD 12 11,lN 13 12,o 14 (bI .lss 13 1),mV 15 14,gF 16 15 (fS 0 1),gF 17 15 (lS 16),gF 18 15 (nS 17),gF 19 15 (bI .gtr 18 40),pT 20 15 19,mV 21 20,gF 22 21 (mS 3),gF 23 21 (bI .gtr 22 6),pT 24 21 23,mV 25 24,gF 26 25 (fS 2 1),gF 27 25 (lS 26),gF 28 25 (nS 27),gF 29 25 (bI .gtr 28 200),pT 30 25 29,mV 31 30,gF 32 31 (fS 3 1),gF 33 31 (lS 32),gF 34 31 (nS 33),gF 35 31 (bI .gtr 34 200),pT 36 31 35]
def o0t:SS:=[mB 2 false]
def S0Z:SS:=[mI 4 0]
def T0a:SS:=[mV 37 4,fA 38 2 1,lD 39 38,lN 40 39,o 41 (bT .lss 37 40)]
def T0b:SS:=[fA 44 2 1,lD 45 44,mV 46 4,iA 47 6 45 46,lA 48 6 47,o 5 (.alloc b0b [.int .i64 0,.int .i64 0,.int .i64 0,.slice none 0 0,.slice none 0 0,.slice none 0 0]),sT 6 5 48]
def k0k:SS:=[fA 49 0 5,lD 50 49,o 51 (bI .lss 50 0),mV 52 51,gF 53 52 (fS 0 5),gF 54 52 (lS 53),gF 55 52 (fS 0 1),gF 56 52 (lS 55),gF 57 52 (nS 56),gF 58 52 (bT .geq 54 57),pT 59 52 58,mV 60 59,gF 61 60 (fS 1 5),gF 62 60 (lS 61),gF 63 60 (bI .lss 62 0),pT 64 60 63,mV 65 64,gF 66 65 (fS 1 5),gF 67 65 (lS 66),gF 68 65 (fS 0 1),gF 69 65 (lS 68),gF 70 65 (nS 69),gF 71 65 (bT .geq 67 70),pT 72 65 71,mV 73 72,gF 74 73 (fS 2 5),gF 75 73 (lS 74),gF 76 73 (bI .lss 75 0),pT 77 73 76,mV 78 77,gF 79 78 (fS 2 5),gF 80 78 (lS 79),gF 81 78 (bI .gtr 80 40),pT 82 78 81,mV 83 82,gF 84 83 (fS 4 5),gF 85 83 (lS 84),gF 86 83 (nS 85),gF 87 83 (mS 3),gF 88 83 (bT .neq 86 87),pT 89 83 88,mV 90 89,gF 91 90 (fS 3 5),gF 92 90 (lS 91),gF 93 90 (mS 3),gF 94 90 (fS 2 5),gF 95 90 (lS 94),gF 96 90 (.call W0Z [t 92,t 93,t 95] true),gF 97 90 (.un .not (t 96)),pT 98 90 97,mV 99 98,gF 100 99 (fS 4 5),gF 101 99 (lS 100),gF 102 99 (mS 3),gF 103 99 (fS 2 5),gF 104 99 (lS 103),gF 105 99 (.call W0Z [t 101,t 102,t 104] true),gF 106 99 (.un .not (t 105)),pT 107 99 106]
def j0i:SS:=[mB 2 false]
def T0c:SS:=[mV 42 4,o 43 (bI .add 42 1),mV 4 43]
def D0H:SS:=[mI 6 0]
def D0I:SS:=[mV 108 6,fA 109 3 1,lD 110 109,lN 111 110,o 112 (bT .lss 108 111)]
def D0J:SS:=[fA 115 3 1,lD 116 115,mV 117 6,iA 118 4 116 117,lA 119 4 118,o 7 (.alloc d0t [.int .i64 0,.int .i64 0,.int .i64 0,.slice none 0 0]),sT 4 7 119]
def k0J:SS:=[fA 120 0 7,lD 121 120,o 122 (bI .lss 121 0),mV 123 122,gF 124 123 (fS 0 7),gF 125 123 (lS 124),gF 126 123 (fS 0 1),gF 127 123 (lS 126),gF 128 123 (nS 127),gF 129 123 (bT .geq 125 128),pT 130 123 129,mV 131 130,gF 132 131 (fS 2 7),gF 133 131 (lS 132),gF 134 131 (bI .lss 133 0),pT 135 131 134,mV 136 135,gF 137 136 (fS 2 7),gF 138 136 (lS 137),gF 139 136 (bI .gtr 138 40),pT 140 136 139,mV 141 140,gF 142 141 (fS 3 7),gF 143 141 (lS 142),gF 144 141 (mS 3),gF 145 141 (fS 2 7),gF 146 141 (lS 145),gF 147 141 (.call W0Z [t 143,t 144,t 146] true),gF 148 141 (.un .not (t 147)),pT 149 141 148]
def k0K:SS:=[mB 2 false]
def D0K:SS:=[mV 113 6,o 114 (bI .add 113 1),mV 6 114]
def D0L:SS:=[mB 2 true]
def G1D:SF:=⟨1,150,[.tmp 2],
 (qS (gR S0X) (qS (gR S0Y) (qS (qS (gR m0U) (.cond (t 36) (qS (gR o0t) .ret) .skip)) (qS (qS (gR S0Z) (.block 0 (.loop (qS (qS (gR T0a) (.cond (t 41) .skip (.exit 0))) (qS (.block 1 (qS (gR T0b) (qS (gR k0k) (.cond (t 107) (qS (gR j0i) .ret) .skip)))) (gR T0c)))))) (qS (qS (gR D0H) (.block 2 (.loop (qS (qS (gR D0I) (.cond (t 112) .skip (.exit 2))) (qS (.block 3 (qS (gR D0J) (qS (gR k0J) (.cond (t 149) (qS (gR k0K) .ret) .skip)))) (gR D0K)))))) (qS (gR D0L) .ret))))))⟩
def T0d:SS:=[bX 2 a0w 0,mB 4 false]
def r0T:SS:=[mV 7 1,o 8 (bI .lss 7 0),mV 9 8,gF 10 9 (mS 1),gF 11 9 (bI .gtr 10 6),pT 12 9 11,mV 13 12,gF 14 13 (fS 0 2),gF 15 13 (lS 14),gF 16 13 (nS 15),gF 17 13 (bI .gtr 16 40),pT 18 13 17]
def w0e:SS:=[mB 4 false]
def T0e:SS:=[mI 5 0]
def T0f:SS:=[mV 19 5,fA 20 0 2,lD 21 20,lN 22 21,o 23 (bT .lss 19 22)]
def D0S:SS:=[fA 26 0 2,lD 27 26,mV 28 5,iA 29 1 27 28,lD 30 29,lN 31 30,mV 32 1,o 33 (bT .neq 31 32)]
def T0g:SS:=[mB 4 false]
def T0h:SS:=[mI 6 0]
def T0i:SS:=[mV 34 6,mV 35 1,o 36 (bT .lss 34 35)]
def T0j:SS:=[fA 39 0 2,lD 40 39,mV 41 5,iA 42 1 40 41,lD 43 42,mV 44 6,iA 45 4 43 44,lA 46 4 45,cA 47 v1J [t 46],nT 48 47]
def D0O:SS:=[mB 4 false]
def D0P:SS:=[mV 37 6,o 38 (bI .add 37 1),mV 6 38]
def D0Q:SS:=[mV 24 5,o 25 (bI .add 24 1),mV 5 25]
def D0R:SS:=[mB 4 true]
def G1E:SF:=⟨2,49,[.tmp 4],
 (qS (gR T0d) (qS (qS (gR r0T) (.cond (t 18) (qS (gR w0e) .ret) .skip)) (qS (qS (gR T0e) (.block 0 (.loop (qS (qS (gR T0f) (.cond (t 23) .skip (.exit 0))) (qS (.block 1 (qS (qS (gR D0S) (.cond (t 33) (qS (gR T0g) .ret) .skip)) (qS (gR T0h) (.block 2 (.loop (qS (qS (gR T0i) (.cond (t 36) .skip (.exit 2))) (qS (.block 3 (qS (gR T0j) (.cond (t 48) (qS (gR D0O) .ret) .skip))) (gR D0P)))))))) (gR D0Q)))))) (qS (gR D0R) .ret))))⟩
def T0k:SS:=[bX 3 a0Z 0,bX 4 a0w 1,bX 5 c0G 2,mN 6,mI 7 0,mI 8 0]
def T0l:SS:=[lA 12 4 3,cA 13 S0l [t 12],nT 14 13,mV 15 14,gF 16 15 (aS 1 4),gF 17 15 (fS 1 3),gF 18 15 (lS 17),gF 19 15 (nS 18),gF 20 15 (.call S0m [t 16,t 19] true),gF 21 15 (.un .not (t 20)),pT 22 15 21]
def D0T:SS:=[mN 6,mI 7 0,mI 8 1]
def w1Y:SS:=[lA 23 3 5,cA 24 G1a [t 23],nT 25 24]
def w1Z:SS:=[mN 6,mI 7 0,mI 8 13]
def x1a:SS:=[lA 26 4 3,lA 27 1 4,lA 28 3 5,lA 29 4 3,lA 30 1 4,cB 31 F1Z [t 29,t 30],fA 32 0 3,lD 33 32,lN 34 33,o 35 (.mk c0h 8 [.int .i64 0] (t 34) (t 34)),o 36 (.build [.slice none 0 0,.slice none 0 0,.slice none 0 0,.slice none 0 0,.slice none 0 0,.int .i64 0,.slice none 0 0,.int .i64 0,.slice none 0 0,.slice none 0 0,.slice none 0 0,.slice none 0 0] [(0,4,t 26),(4,1,t 27),(5,3,t 28),(8,1,t 31),(11,1,t 35)]),bX 37 j0p 36,mV 9 37]
def x1b:SS:=[mV 39 9,mV 40 9,lA 41 4 3,cA 42 J1i [t 41],mV 38 42,eX 43 38 0,eX 44 38 1,eX 45 38 2,cK 46 39,fA 47 9 46,sT 1 47 43,cK 48 40,fA 49 10 48,sT 1 49 44]
def x1c:SS:=[mB 10 true]
def x1d:SS:=[mV 50 10]
def x1e:SS:=[mV 54 9,cA 55 J1j [t 54],mV 53 55,eX 56 53 0,eX 57 53 1,mV 10 56,mV 8 57]
def m1z:SS:=[mV 58 8,o 59 (bI .neq 58 0)]
def m1A:SS:=[mV 60 8,mN 6,mI 7 0,mV 8 60]
def m1B:SS:=[mV 51 7,o 52 (bI .add 51 1),mV 7 52]
def m1C:SS:=[fA 61 2 5,lD 62 61,mI 63 0]
def m1D:SS:=[o 64 (bT .lss 63 62)]
def m1E:SS:=[mV 65 9,cA 66 J1k [t 65],mV 11 66]
def m1F:SS:=[mV 67 11,o 68 (bI .neq 67 0)]
def m1G:SS:=[mV 69 11,mN 6,mI 7 0,mV 8 69]
def m1H:SS:=[o 70 (bI .add 63 1),mV 63 70]
def m1I:SS:=[mV 71 9,cK 72 71,fA 73 8 72,lD 74 73,mV 75 7,mV 6 74,mV 7 75,mI 8 0]
def D1Z:SF:=⟨3,76,[.tmp 6,.tmp 7,.tmp 8],
 (qS (gR T0k) (qS (qS (gR T0l) (.cond (t 22) (qS (gR D0T) .ret) .skip)) (qS (qS (gR w1Y) (.cond (t 25) (qS (gR w1Z) .ret) .skip)) (qS (.draw x1a [0,0,0,0,0,24,0,64,192,448,1023,2047,4095] []) (qS (gR x1b) (qS (qS (gR x1c) (.block 0 (.loop (qS (qS (gR x1d) (.cond (t 50) .skip (.exit 0))) (qS (.block 1 (qS (gR x1e) (qS (gR m1z) (.cond (t 59) (qS (gR m1A) .ret) .skip)))) (gR m1B)))))) (qS (qS (gR m1C) (.block 2 (.loop (qS (gR m1D) (qS (.cond (t 64) .skip (.exit 2)) (qS (.block 3 (qS (gR m1E) (qS (gR m1F) (.cond (t 68) (qS (gR m1G) .ret) .skip)))) (gR m1H))))))) (qS (gR m1I) .ret))))))))⟩
def x1f:SS:=[o 2 (.alloc a0d zR)]
def x1g:SS:=[mV 3 0,cA 4 s0Y [t 3],cA 5 s0Y [i 1],o 6 (.build zR [(0,2,t 4),(2,2,t 5)]),sT 4 2 6]
def K1x:SF:=⟨1,7,[.cell 2 true 4],
 (qS (gR x1f) (qS (gR x1g) .ret))⟩
def x1W:SS:=[bX 2 a0m 0,bX 3 a0m 1,mB 4 false]
def x1X:SS:=[fA 5 0 2,lD 6 5,fA 7 0 3,lD 8 7,o 9 (bT .eql 6 8),mV 10 9,gT 11 10 (fS 1 2),gT 12 10 (aS 4 11),gT 13 10 (fS 1 3),gT 14 10 (aS 4 13),gT 15 10 (.call G1i [t 12,t 14] true),pF 16 10 15,mV 4 16]
def K1y:SF:=⟨2,17,[.tmp 4],
 (qS (gR x1W) (qS (gR x1X) .ret))⟩
def T0m:SS:=[mB 2 false]
def T0n:SS:=[mI 3 0]
def T0o:SS:=[mV 4 3,mV 5 0,lN 6 5,o 7 (bT .lss 4 6)]
def w0i:SS:=[mV 10 0,mV 11 3,iA 12 4 10 11,fA 13 0 12,fA 14 1 13,lD 15 14,lN 16 15,o 17 (bI .gtr 16 6),mV 18 17,gF 19 18 (mS 0),gF 20 18 (mS 3),gF 21 18 (iS 4 19 20),gF 22 18 (fS 2 21),gF 23 18 (fS 1 22),gF 24 18 (lS 23),gF 25 18 (nS 24),gF 26 18 (bI .gtr 25 6),pT 27 18 26]
def E0e:SS:=[mB 2 true]
def T0p:SS:=[mV 8 3,o 9 (bI .add 8 1),mV 3 9]
def T0q:SS:=[mB 2 false]
def G1F:SF:=⟨1,28,[.tmp 2],
 (qS (gR T0m) (qS (qS (gR T0n) (.block 0 (.loop (qS (qS (gR T0o) (.cond (t 7) .skip (.exit 0))) (qS (.block 1 (qS (gR w0i) (.cond (t 27) (qS (gR E0e) .ret) .skip))) (gR T0p)))))) (qS (gR T0q) .ret)))⟩
def x1Y:SS:=[mB 2 false]
def x1Z:SS:=[mV 3 0,o 4 (bI .geq 3 0),mV 5 4,gT 6 5 (mS 0),gT 7 5 (bI .leq 6 20),pF 8 5 7,mV 2 8]
def K1z:SF:=⟨1,9,[.tmp 2],
 (qS (gR x1Y) (qS (gR x1Z) .ret))⟩
def y1a:SS:=[mB 4 false]
def y1b:SS:=[mV 5 0,mV 6 1,cA 7 G1j [t 5,t 6],o 8 (bI .geq 7 0),mV 4 8]
def K1A:SF:=⟨2,9,[.tmp 4],
 (qS (gR y1a) (qS (gR y1b) .ret))⟩
def y1c:SS:=[bX 1 a0d 0,mB 2 false]
def y1d:SS:=[lA 3 4 1,cA 4 H0d [t 3],nT 5 4,mV 2 5]
def L1j:SF:=⟨1,6,[.tmp 2],
 (qS (gR y1c) (qS (gR y1d) .ret))⟩
def T0r:SS:=[bX 1 a0d 0,mB 2 false]
def T0s:SS:=[lA 3 4 1,cA 4 X0a [t 3]]
def T0t:SS:=[mB 2 true]
def T0u:SS:=[fA 5 0 1,lA 6 2 5,cA 7 z0a [t 6],mV 8 7,gT 9 8 (fS 2 1),gT 10 8 (aS 2 9),gT 11 8 (.call z0a [t 10] true),pF 12 8 11,mV 13 12,gT 14 13 (fS 2 1),gT 15 13 (fS 0 14),gT 16 13 (lS 15),gT 17 13 (.un .not (t 16)),pF 18 13 17,mV 19 18,gT 20 19 (fS 2 1),gT 21 19 (aS 2 20),gT 22 19 (.call X0b [t 21] true),gT 23 19 (.un .not (t 22)),pF 24 19 23,mV 25 24,gT 26 25 (fS 0 1),gT 27 25 (aS 2 26),gT 28 25 (fS 2 1),gT 29 25 (aS 2 28),gT 30 25 (.call F0A [t 27,t 29] true),gT 31 25 (.call S0n [] true),gT 32 25 (.call F0z [t 30,t 31] true),gT 33 25 (bI .eql 32 0),pF 34 25 33,mV 2 34]
def G1G:SF:=⟨1,35,[.tmp 2],
 (qS (gR T0r) (qS (qS (gR T0s) (.cond (t 4) (qS (gR T0t) .ret) .skip)) (qS (gR T0u) .ret)))⟩
def T0v:SS:=[bX 1 a0d 0,mB 2 false]
def w0j:SS:=[fA 4 2 1,fA 5 1 4,lD 6 5,lN 7 6,o 8 (bI .eql 7 0),mV 9 8,gT 10 9 (fS 2 1),gT 11 9 (fS 0 10),gT 12 9 (lS 11),gT 13 9 (.un .not (t 12)),pF 14 9 13]
def E0f:SS:=[fA 15 0 1,fA 16 1 15,lD 17 16,lN 18 17,o 19 (bI .eql 18 0),mV 20 19,gT 21 20 (fS 0 1),gT 22 20 (fS 0 21),gT 23 20 (lS 22),gT 24 20 (.un .not (t 23)),pF 25 20 24,mV 2 25]
def E0g:SS:=[fA 26 0 1,lA 27 2 26,fA 28 2 1,lA 29 2 28,cA 30 v1K [t 27,t 29],o 3 (.alloc a0a zI),sT 2 3 30]
def E0h:SS:=[fA 31 0 1,lA 32 2 31,cA 33 F0B [t 32],mV 34 33,gT 35 34 (fS 2 1),gT 36 34 (aS 2 35),gT 37 34 (.call F0B [t 36] true),pF 38 34 37,mV 39 38,gT 40 39 (fS 2 1),gT 41 39 (fS 0 40),gT 42 39 (lS 41),gT 43 39 (.un .not (t 42)),pF 44 39 43,mV 45 44,gT 46 45 (fS 1 3),gT 47 45 (lS 46),gT 48 45 (nS 47),gT 49 45 (bI .eql 48 1),pF 50 45 49,mV 51 50,gT 52 51 (fS 1 3),gT 53 51 (lS 52),gT 54 51 (.ia 1 (t 53) (i 0)),gT 55 51 (lS 54),gT 56 51 (.bin 0 .eql (t 55) (.const (.int .u32 1))),pF 57 51 56,mV 2 57]
def G1H:SF:=⟨1,58,[.tmp 2],
 (qS (gR T0v) (qS (qS (gR w0j) (.cond (t 14) (qS (gR E0f) .ret) .skip)) (qS (gR E0g) (qS (gR E0h) .ret))))⟩
def y1e:SS:=[bX 3 a0m 0,bX 4 a0m 1,o 6 (.alloc a0m zE)]
def y1f:SS:=[lA 11 5 4,lA 12 5 3,cA 13 z0b [t 11,t 12],o 14 (bI .leq 13 0),mV 15 14,gF 16 15 (aS 5 3),gF 17 15 (.build zE [(0,1,(.const (.int .i64 (-1))))]),gF 18 15 (.call z0b [t 16,t 17] true),gF 19 15 (bI .eql 18 0),pT 20 15 19,mV 21 20,gF 22 21 (aS 5 4),gF 23 21 (.build zE [(0,1,i 1)]),gF 24 21 (.call z0b [t 22,t 23] true),gF 25 21 (bI .eql 24 0),pT 26 21 25,mV 27 26,gF 28 27 (aS 5 4),gF 29 27 (.build zE [(0,1,(.const (.int .i64 (-1))))]),gF 30 27 (.call z0b [t 28,t 29] true),gF 31 27 (bI .eql 30 0),pT 32 27 31]
def y1g:SS:=[lA 33 5 4,lA 34 5 4,cA 35 v1L [t 33,t 34],sT 5 6 35]
def y1h:SS:=[o 36 (.build zE [(0,1,i 1)]),o 7 (.alloc a0m zE),sT 5 7 36]
def y1i:SS:=[mV 37 2,lN 38 37,mI 39 0]
def y1j:SS:=[o 40 (bT .lss 39 38)]
def y1k:SS:=[iA 41 4 37 39,lA 42 4 41,o 9 (.alloc a0d zR),sT 4 9 42]
def y1l:SS:=[lA 43 4 9,cA 44 H0e [t 43],o 10 (.alloc a0m zE),sT 5 10 44]
def y1m:SS:=[lA 45 5 10,lA 46 5 4,cA 47 z0b [t 45,t 46],o 48 (bI .geq 47 0)]
def y1n:SS:=[lA 49 5 7,lA 50 5 10,cA 51 v1M [t 49,t 50],sT 5 7 51]
def r1u:SS:=[o 52 (bI .add 39 1),mV 39 52]
def r1v:SS:=[lA 53 5 7,sT 5 6 53]
def K1B:SF:=⟨3,54,[.cell 6 true 5],
 (qS (gR y1e) (qS (qS (gR y1f) (.cond (t 32) (qS (gR y1g) .ret) .skip)) (qS (gR y1h) (qS (qS (gR y1i) (.block 0 (.loop (qS (gR y1j) (qS (.cond (t 40) .skip (.exit 0)) (qS (.block 1 (qS (gR y1k) (qS (gR y1l) (qS (gR y1m) (.cond (t 48) (gR y1n) .skip))))) (gR r1u))))))) (qS (gR r1v) .ret)))))⟩
def T0w:SS:=[mB 2 false]
def T0x:SS:=[mI 3 0]
def T0y:SS:=[mV 4 3,mV 5 0,lN 6 5,o 7 (bT .lss 4 6)]
def w0k:SS:=[mV 10 0,mV 11 3,iA 12 4 10 11,fA 13 0 12,lD 14 13,lN 15 14,o 16 (bI .gtr 15 60),mV 17 16,gF 18 17 (mS 0),gF 19 17 (mS 3),gF 20 17 (iS 4 18 19),gF 21 17 (fS 1 20),gF 22 17 (lS 21),gF 23 17 (nS 22),gF 24 17 (bI .gtr 23 60),pT 25 17 24,mV 26 25,gF 27 26 (mS 0),gF 28 26 (mS 3),gF 29 26 (iS 4 27 28),gF 30 26 (fS 2 29),gF 31 26 (aS 2 30),gF 32 26 (.lit a0a zI 1 [(0,2,t 31)]),gF 33 26 (.call X0c [t 32] true),pT 34 26 33,mV 35 34,gF 36 35 (mS 0),gF 37 35 (mS 3),gF 38 35 (iS 4 36 37),gF 39 35 (fS 0 38),gF 40 35 (lS 39),gF 41 35 (.call X0c [t 40] true),pT 42 35 41,mV 43 42,gF 44 43 (mS 0),gF 45 43 (mS 3),gF 46 43 (iS 4 44 45),gF 47 43 (fS 1 46),gF 48 43 (lS 47),gF 49 43 (.call X0c [t 48] true),pT 50 43 49]
def o0u:SS:=[mB 2 true]
def T0z:SS:=[mV 8 3,o 9 (bI .add 8 1),mV 3 9]
def T0A:SS:=[mB 2 false]
def G1I:SF:=⟨1,51,[.tmp 2],
 (qS (gR T0w) (qS (qS (gR T0x) (.block 0 (.loop (qS (qS (gR T0y) (.cond (t 7) .skip (.exit 0))) (qS (.block 1 (qS (gR w0k) (.cond (t 50) (qS (gR o0u) .ret) .skip))) (gR T0z)))))) (qS (gR T0A) .ret)))⟩
def T0B:SS:=[mB 6 false]
def T0C:SS:=[mI 7 0]
def T0D:SS:=[mV 9 7,mV 10 0,lN 11 10,o 12 (bT .lss 9 11)]
def T0E:SS:=[mV 15 0,mV 16 7,iA 17 4 15 16,lA 18 4 17,o 8 (.alloc a0j [.slice none 0 0,.slice none 0 0,.bool false,.slice none 0 0]),sT 4 8 18]
def w0l:SS:=[fA 19 0 8,lD 20 19,lN 21 20,mV 22 1,o 23 (bT .neq 21 22),mV 24 23,gF 25 24 (fS 1 8),gF 26 24 (lS 25),gF 27 24 (nS 26),gF 28 24 (mS 2),gF 29 24 (bT .neq 27 28),pT 30 24 29,mV 31 30,gF 32 31 (fS 2 8),gF 33 31 (aS 2 32),gF 34 31 (.call F0B [t 33] true),gF 35 31 (.un .not (t 34)),pT 36 31 35,mV 37 36,gF 38 37 (fS 0 8),gF 39 37 (lS 38),gF 40 37 (.call u1n [t 39] true),gF 41 37 (.un .not (t 40)),pT 42 37 41,mV 43 42,gF 44 43 (fS 1 8),gF 45 43 (lS 44),gF 46 43 (.call u1n [t 45] true),gF 47 43 (.un .not (t 46)),pT 48 43 47]
def o0v:SS:=[mB 6 false]
def T0F:SS:=[mV 13 7,o 14 (bI .add 13 1),mV 7 14]
def T0G:SS:=[mB 6 true]
def G1J:SF:=⟨3,49,[.tmp 6],
 (qS (gR T0B) (qS (qS (gR T0C) (.block 0 (.loop (qS (qS (gR T0D) (.cond (t 12) .skip (.exit 0))) (qS (.block 1 (qS (gR T0E) (qS (gR w0l) (.cond (t 48) (qS (gR o0v) .ret) .skip)))) (gR T0F)))))) (qS (gR T0G) .ret)))⟩
def T0H:SS:=[bX 1 a0Z 0,mB 2 false]
def T0I:SS:=[fA 11 0 1,lD 12 11,lN 13 12,fA 14 1 1,lD 15 14,lN 16 15,o 3 (.alloc c0h [.int .i64 0]),sT 1 3 13,mV 4 16]
def m0V:SS:=[lD 17 3,o 18 (bI .lss 17 1),mV 19 18,gF 20 19 (lS 3),gF 21 19 (bI .gtr 20 40),pT 22 19 21,mV 23 22,gF 24 23 (mS 4),gF 25 23 (bI .gtr 24 6),pT 26 23 25,mV 27 26,gF 28 27 (fS 2 1),gF 29 27 (lS 28),gF 30 27 (nS 29),gF 31 27 (bI .gtr 30 200),pT 32 27 31,mV 33 32,gF 34 33 (fS 3 1),gF 35 33 (lS 34),gF 36 33 (nS 35),gF 37 33 (bI .gtr 36 200),pT 38 33 37]
def o0w:SS:=[mB 2 false]
def T0J:SS:=[o 39 (.mkfn (.func S0o) [] [t 3]),mV 5 39]
def T0K:SS:=[o 6 (.mv (.fn S0p))]
def T0L:SS:=[fA 40 2 1,lD 41 40,lN 42 41,mI 43 0]
def y1o:SS:=[o 44 (bT .lss 43 42)]
def T0M:SS:=[iA 45 6 41 43,lA 46 6 45,o 8 (.alloc b0b [.int .i64 0,.int .i64 0,.int .i64 0,.slice none 0 0,.slice none 0 0,.slice none 0 0]),sT 6 8 46]
def T0N:SS:=[mV 47 5,fA 48 0 8,lD 49 48,o 50 (.callv (t 47) [t 49] true),nT 51 50,mV 52 51,gF 53 52 (mS 5),gF 54 52 (fS 1 8),gF 55 52 (lS 54),gF 56 52 (.callv (t 53) [t 55] true),gF 57 52 (.un .not (t 56)),pT 58 52 57,mV 59 58,gF 60 59 (mS 6),gF 61 59 (fS 2 8),gF 62 59 (lS 61),gF 63 59 (.callv (t 60) [t 62] true),gF 64 59 (.un .not (t 63)),pT 65 59 64,mV 66 65,gF 67 66 (fS 4 8),gF 68 66 (lS 67),gF 69 66 (nS 68),gF 70 66 (mS 4),gF 71 66 (bT .neq 69 70),pT 72 66 71,mV 73 72,gF 74 73 (fS 4 8),gF 75 73 (lS 74),gF 76 73 (mS 4),gF 77 73 (fS 2 8),gF 78 73 (lS 77),gF 79 73 (.call S0q [t 75,t 76,t 78] true),gF 80 73 (.un .not (t 79)),pT 81 73 80,mV 82 81,gF 83 82 (fS 3 8),gF 84 82 (lS 83),gF 85 82 (mS 4),gF 86 82 (fS 2 8),gF 87 82 (lS 86),gF 88 82 (.call S0q [t 84,t 85,t 87] true),gF 89 82 (.un .not (t 88)),pT 90 82 89]
def j0C:SS:=[mB 2 false]
def r1w:SS:=[o 91 (bI .add 43 1),mV 43 91]
def E0i:SS:=[fA 92 3 1,lD 93 92,lN 94 93,mI 95 0]
def r1x:SS:=[o 96 (bT .lss 95 94)]
def E0j:SS:=[iA 97 4 93 95,lA 98 4 97,o 10 (.alloc d0t [.int .i64 0,.int .i64 0,.int .i64 0,.slice none 0 0]),sT 4 10 98]
def E0k:SS:=[mV 99 5,fA 100 0 10,lD 101 100,o 102 (.callv (t 99) [t 101] true),nT 103 102,mV 104 103,gF 105 104 (mS 6),gF 106 104 (fS 2 10),gF 107 104 (lS 106),gF 108 104 (.callv (t 105) [t 107] true),gF 109 104 (.un .not (t 108)),pT 110 104 109,mV 111 110,gF 112 111 (fS 3 10),gF 113 111 (lS 112),gF 114 111 (mS 4),gF 115 111 (fS 2 10),gF 116 111 (lS 115),gF 117 111 (.call S0q [t 113,t 114,t 116] true),gF 118 111 (.un .not (t 117)),pT 119 111 118]
def q0g:SS:=[mB 2 false]
def r1y:SS:=[o 120 (bI .add 95 1),mV 95 120]
def E0l:SS:=[mB 2 true]
def E1V:SF:=⟨1,121,[.tmp 2],
 (qS (gR T0H) (qS (.draw T0I [0,1,3,0,8,24,0,71,255] [(4,7)]) (qS (qS (gR m0V) (.cond (t 38) (qS (gR o0w) .ret) .skip)) (qS (gR T0J) (qS (gR T0K) (qS (qS (gR T0L) (.block 0 (.loop (qS (gR y1o) (qS (.cond (t 44) .skip (.exit 0)) (qS (.block 1 (qS (gR T0M) (qS (gR T0N) (.cond (t 90) (qS (gR j0C) .ret) .skip)))) (gR r1w))))))) (qS (qS (gR E0i) (.block 2 (.loop (qS (gR r1x) (qS (.cond (t 96) .skip (.exit 2)) (qS (.block 3 (qS (gR E0j) (qS (gR E0k) (.cond (t 119) (qS (gR q0g) .ret) .skip)))) (gR r1y))))))) (qS (gR E0l) .ret))))))))⟩
def T0O:SS:=[bX 2 a0w 0,mB 4 false]
def r0U:SS:=[mV 9 1,o 10 (bI .lss 9 0),mV 11 10,gF 12 11 (mS 1),gF 13 11 (bI .gtr 12 6),pT 14 11 13,mV 15 14,gF 16 15 (fS 0 2),gF 17 15 (lS 16),gF 18 15 (nS 17),gF 19 15 (bI .gtr 18 40),pT 20 15 19]
def w0m:SS:=[mB 4 false]
def T0P:SS:=[fA 21 0 2,lD 22 21,lN 23 22,mI 24 0]
def y1p:SS:=[o 25 (bT .lss 24 23)]
def E0q:SS:=[iA 26 1 22 24,lD 27 26,mV 6 27]
def E0r:SS:=[mV 28 6,lN 29 28,mV 30 1,o 31 (bT .neq 29 30)]
def T0Q:SS:=[mB 4 false]
def T0R:SS:=[mV 32 6,lN 33 32,mI 34 0]
def y1q:SS:=[o 35 (bT .lss 34 33)]
def E0m:SS:=[iA 36 4 32 34,lA 37 4 36,o 8 (.alloc a0d zR),sT 4 8 37]
def E0n:SS:=[lA 38 4 8,cA 39 H0d [t 38],nT 40 39]
def E0o:SS:=[mB 4 false]
def r1z:SS:=[o 41 (bI .add 34 1),mV 34 41]
def r1A:SS:=[o 42 (bI .add 24 1),mV 24 42]
def E0p:SS:=[mB 4 true]
def E1W:SF:=⟨2,43,[.tmp 4],
 (qS (gR T0O) (qS (qS (gR r0U) (.cond (t 20) (qS (gR w0m) .ret) .skip)) (qS (qS (gR T0P) (.block 0 (.loop (qS (gR y1p) (qS (.cond (t 25) .skip (.exit 0)) (qS (.block 1 (qS (gR E0q) (qS (qS (gR E0r) (.cond (t 31) (qS (gR T0Q) .ret) .skip)) (qS (gR T0R) (.block 2 (.loop (qS (gR y1q) (qS (.cond (t 35) .skip (.exit 2)) (qS (.block 3 (qS (gR E0m) (qS (gR E0n) (.cond (t 40) (qS (gR E0o) .ret) .skip)))) (gR r1z)))))))))) (gR r1A))))))) (qS (gR E0p) .ret))))⟩
def y1V:SS:=[o 2 (.alloc a0a zI)]
def y1W:SS:=[mV 4 0,cV 5 .u64 4,mV 3 5]
def y1X:SS:=[mV 6 0,o 7 (bI .lss 6 0)]
def y1Y:SS:=[mV 8 3,o 9 (.un .neg (t 8)),mV 3 9]
def y1Z:SS:=[mV 10 0,o 11 (bI .lss 10 0),mV 12 3,cV 13 .u32 12,mV 14 3,o 15 (.bin 0 .shr (t 14) (.const (.int .u64 32))),cV 16 .u32 15,o 17 (.lit a0b [.int .u32 0] 2 [(0,1,t 13),(1,1,t 16)]),cA 18 x0T [t 11,t 17],sT 2 2 18]
def K1C:SF:=⟨1,19,[.cell 2 true 2],
 (qS (gR y1V) (qS (gR y1W) (qS (qS (gR y1X) (.cond (t 7) (gR y1Y) .skip)) (qS (gR y1Z) .ret))))⟩
def B1x:SS:=[bX 2 a0d 0,bX 3 a0d 1,mB 4 false]
def B1y:SS:=[fA 5 0 2,lA 6 2 5,fA 7 0 3,lA 8 2 7,cA 9 y0y [t 6,t 8],mV 10 9,gT 11 10 (fS 2 2),gT 12 10 (aS 2 11),gT 13 10 (fS 2 3),gT 14 10 (aS 2 13),gT 15 10 (.call y0y [t 12,t 14] true),pF 16 10 15,mV 4 16]
def K1D:SF:=⟨2,17,[.tmp 4],
 (qS (gR B1x) (qS (gR B1y) .ret))⟩
def B1z:SS:=[mI 4 0]
def B1A:SS:=[mV 6 0,lN 7 6,mI 8 0]
def B1B:SS:=[o 9 (bT .lss 8 7)]
def B1C:SS:=[mV 10 8,mV 5 10]
def B1D:SS:=[mV 11 1,mV 12 0,mV 13 5,iA 14 4 12 13,lA 15 4 14,o 16 (.callv (t 11) [t 15] true)]
def B1E:SS:=[mV 17 5,mV 4 17]
def B1F:SS:=[o 18 (bI .add 8 1),mV 8 18]
def B1G:SS:=[o 4 (.mv (.const (.int .i64 (-1))))]
def K1E:SF:=⟨2,19,[.tmp 4],
 (qS (gR B1z) (qS (qS (gR B1A) (.block 0 (.loop (qS (gR B1B) (qS (.cond (t 9) .skip (.exit 0)) (qS (.block 1 (qS (gR B1C) (qS (gR B1D) (.cond (t 16) (qS (gR B1E) .ret) .skip)))) (gR B1F))))))) (qS (gR B1G) .ret)))⟩
def T0S:SS:=[bX 1 a0d 0,mB 2 false]
def r0V:SS:=[fA 3 0 1,fA 4 0 3,lD 5 4,nT 6 5,mV 7 6,gT 8 7 (fS 0 1),gT 9 7 (fS 1 8),gT 10 7 (lS 9),gT 11 7 (nS 10),gT 12 7 (bI .eql 11 0),pF 13 7 12,mV 14 13,gT 15 14 (fS 2 1),gT 16 14 (fS 0 15),gT 17 14 (lS 16),gT 18 14 (.un .not (t 17)),pF 19 14 18,mV 20 19,gT 21 20 (fS 2 1),gT 22 20 (fS 1 21),gT 23 20 (lS 22),gT 24 20 (nS 23),gT 25 20 (bI .eql 24 0),pF 26 20 25,mV 2 26]
def G1K:SF:=⟨1,27,[.tmp 2],
 (qS (gR T0S) (qS (gR r0V) .ret))⟩
def T0T:SS:=[bX 1 a0a 0,mB 2 false]
def T0U:SS:=[fA 3 1 1,lD 4 3,lN 5 4,o 6 (bI .eql 5 0)]
def T0V:SS:=[fA 7 0 1,lD 8 7,nT 9 8,mV 2 9]
def T0W:SS:=[fA 10 1 1,lD 11 10,fA 12 1 1,lD 13 12,lN 14 13,o 15 (bI .sub 14 1),iA 16 1 11 15,lD 17 16,o 18 (.bin 0 .neq (t 17) (.const (.int .u32 0))),mV 2 18]
def G1L:SF:=⟨1,19,[.tmp 2],
 (qS (gR T0T) (qS (qS (gR T0U) (.cond (t 6) (qS (gR T0V) .ret) .skip)) (qS (gR T0W) .ret)))⟩
def T0X:SS:=[bX 1 a0a 0,mB 2 false]
def T0Y:SS:=[lA 3 2 1,o 4 (.build zI []),cA 5 F0z [t 3,t 4],o 6 (bI .eql 5 0),mV 2 6]
def G1M:SF:=⟨1,7,[.tmp 2],
 (qS (gR T0X) (qS (gR T0Y) .ret))⟩
def T0Z:SS:=[bX 2 a0a 0,bX 3 a0a 1,mI 4 0]
def U0a:SS:=[lA 6 2 2,cA 7 d0x [t 6],mV 8 7,gT 9 8 (aS 2 3),gT 10 8 (.call d0x [t 9] true),gT 11 8 (.un .not (t 10)),pF 12 8 11,mV 5 12]
def U0b:SS:=[o 4 (.mv (.const (.int .i64 (-1))))]
def E0s:SS:=[lA 14 2 2,cA 15 d0x [t 14],nT 16 15,mV 17 16,gT 18 17 (aS 2 3),gT 19 17 (.call d0x [t 18] true),pF 20 17 19,mV 13 20]
def U0c:SS:=[mI 4 1]
def E0t:SS:=[lA 22 2 2,cA 23 d0x [t 22],mV 21 23]
def U0d:SS:=[lA 24 2 3,cB 25 g0b [t 24],lA 26 2 2,cA 27 g0b [t 26],cA 28 q0W [t 25,t 27],mV 4 28]
def U0e:SS:=[lA 29 2 2,cB 30 g0b [t 29],lA 31 2 3,cA 32 g0b [t 31],cA 33 q0W [t 30,t 32],mV 4 33]
def G1N:SF:=⟨2,34,[.tmp 4],
 (qS (gR T0Z) (qS (.block 0 (qS (gR U0a) (.cond (t 5) (qS (gR U0b) .ret) (qS (gR E0s) (.cond (t 13) (qS (gR U0c) .ret) (qS (gR E0t) (.cond (t 21) (qS (.draw U0d [0,1,0,7,15,31] []) .ret) .skip))))))) (qS (.draw U0e [0,1,0,7,15,31] []) .ret)))⟩
def U0f:SS:=[bX 2 a0a 0,bX 3 a0a 1,o 4 (.alloc a0a zI)]
def U0g:SS:=[lA 10 2 2,cB 11 g0b [t 10],o 12 (.call g0c [(.const (.bool false)),t 11] false),lA 13 2 3,cB 14 g0b [t 13],o 15 (.call g0c [(.const (.bool false)),t 14] false),o 5 (.alloc a0a zI),o 6 (.alloc a0a zI),sT 2 5 12,sT 2 6 15]
def E0u:SS:=[fA 16 1 6,lD 17 16,lN 18 17,o 19 (bI .gtr 18 0)]
def U0h:SS:=[lA 21 2 5,lA 22 2 6,cA 23 m0o [t 21,t 22],mV 20 23,eX 24 20 0,eX 25 20 1,eX 26 20 2,o 7 (.alloc a0a zI),o 8 (.alloc a0a zI),sT 2 7 24,sT 2 8 25,mV 9 26]
def U0i:SS:=[lA 27 2 6,lA 28 2 8,sT 2 5 27,sT 2 6 28]
def U0j:SS:=[lA 29 2 5,sT 2 4 29]
def G1O:SF:=⟨2,30,[.cell 4 true 2],
 (qS (gR U0f) (qS (.draw U0g [0,1,3,0,15,31,0,0,255,511] []) (qS (.block 0 (.loop (qS (qS (gR E0u) (.cond (t 19) .skip (.exit 0))) (.block 1 (qS (gR U0h) (.draw U0i [0,0,1,7] [(1,2)])))))) (qS (gR U0j) .ret))))⟩
def U0k:SS:=[o 0 (.alloc a0a zI)]
def U0l:SS:=[cA 1 j0P [i 1],sT 2 0 1]
def E1X:SF:=⟨0,2,[.cell 0 true 2],
 (qS (gR U0k) (qS (gR U0l) .ret))⟩
def U0m:SS:=[bX 2 a0a 0,bX 3 a0a 1,o 4 (.alloc a0a zI)]
def U0n:SS:=[lA 9 2 2,cB 10 l0v [t 9],o 11 (.fld false 1 1 (t 10)),lA 12 2 3,cA 13 l0v [t 12],o 14 (.fld false 1 1 (t 13)),mV 5 11,mV 6 14]
def E0v:SS:=[mV 15 6,lN 16 15,o 17 (bI .gtr 16 0)]
def U0o:SS:=[mV 19 5,mV 20 6,cA 21 y0z [t 19,t 20],mV 18 21,eX 22 18 0,eX 23 18 1,mV 7 22,mV 8 23]
def U0p:SS:=[mV 24 6,mV 5 24]
def U0q:SS:=[mV 25 8,mV 6 25]
def U0r:SS:=[mV 26 5,o 27 (.call x0T [(.const (.bool false)),t 26] true),sT 2 4 27]
def G1P:SF:=⟨2,28,[.cell 4 true 2],
 (qS (gR U0m) (qS (.draw U0n [0,1,3,0,11,27,31,127] []) (qS (.block 0 (.loop (qS (qS (gR E0v) (.cond (t 17) .skip (.exit 0))) (.block 1 (qS (gR U0o) (qS (gR U0p) (gR U0q))))))) (qS (gR U0r) .ret))))⟩
def U0s:SS:=[bX 1 a0a 0,mB 2 false]
def U0t:SS:=[fA 4 1 1,lD 5 4,lN 6 5,mV 3 6]
def E0w:SS:=[mV 7 3,o 8 (bI .eql 7 0),mV 9 8,gT 10 9 (fS 0 1),gT 11 9 (lS 10),gT 12 9 (.un .not (t 11)),pF 13 9 12,mV 14 13,gF 15 14 (mS 3),gF 16 14 (bI .gtr 15 0),gF 17 14 (mS 16),gT 18 17 (fS 1 1),gT 19 17 (lS 18),gT 20 17 (mS 3),gT 21 17 (bI .sub 20 1),gT 22 17 (iS 1 19 21),gT 23 17 (lS 22),gT 24 17 (.bin 0 .neq (t 23) (.const (.int .u32 0))),gF 25 14 (.pick (t 17) (t 24) (.const (.bool false))),pT 26 14 25,mV 2 26]
def E1Y:SF:=⟨1,27,[.tmp 2],
 (qS (gR U0s) (qS (gR U0t) (qS (gR E0w) .ret)))⟩
def B1H:SS:=[bX 2 a0m 0,bX 3 a0m 1,mI 4 0]
def B1I:SS:=[lA 5 5 2,cB 6 q0X [t 5],lA 7 5 3,cA 8 q0X [t 7],sT 5 2 6,sT 5 3 8]
def B1J:SS:=[fA 10 0 2,lD 11 10,fA 12 0 3,lD 13 12,o 14 (bT .lss 11 13),mV 9 14]
def B1K:SS:=[o 4 (.mv (.const (.int .i64 (-1))))]
def B1L:SS:=[fA 16 0 2,lD 17 16,fA 18 0 3,lD 19 18,o 20 (bT .gtr 17 19),mV 15 20]
def B1M:SS:=[mI 4 1]
def B1N:SS:=[fA 22 0 2,lD 23 22,o 24 (bI .neq 23 0),mV 21 24]
def B1O:SS:=[mI 4 0]
def B1P:SS:=[fA 25 1 2,lA 26 4 25,fA 27 1 3,lA 28 4 27,cA 29 s0M [t 26,t 28],mV 4 29]
def K1F:SF:=⟨2,30,[.tmp 4],
 (qS (gR B1H) (qS (.draw B1I [0,1,0,7,15,31] []) (qS (.block 0 (qS (gR B1J) (.cond (t 9) (qS (gR B1K) .ret) (qS (gR B1L) (.cond (t 15) (qS (gR B1M) .ret) (qS (gR B1N) (.cond (t 21) (qS (gR B1O) .ret) .skip))))))) (qS (gR B1P) .ret))))⟩
def B1Q:SS:=[bX 2 a0m 0,bX 3 a0m 1,o 4 (.alloc a0m zE)]
def B1R:SS:=[lA 5 5 2,lA 6 5 3,o 7 (.call y0A [t 5,t 6,.fn G0u] true),cA 8 q0X [t 7],sT 5 4 8]
def K1G:SF:=⟨2,9,[.cell 4 true 5],
 (qS (gR B1Q) (qS (gR B1R) .ret))⟩
def B1S:SS:=[bX 1 a0d 0,o 2 (.alloc a0m zE)]
def B1T:SS:=[lA 3 4 1,o 4 (.build zR []),cA 5 j0t [t 3,t 4],o 6 (.build zE [(1,4,t 5)]),sT 5 2 6]
def K1H:SF:=⟨1,7,[.cell 2 true 5],
 (qS (gR B1S) (qS (gR B1T) .ret))⟩
def B1U:SS:=[bX 2 a0m 0,bX 3 a0m 1,o 4 (.alloc a0m zE)]
def B1V:SS:=[lA 5 5 2,lA 6 5 3,o 7 (.call y0A [t 5,t 6,.fn G0v] true),cA 8 q0X [t 7],sT 5 4 8]
def K1I:SF:=⟨2,9,[.cell 4 true 5],
 (qS (gR B1U) (qS (gR B1V) .ret))⟩
def U0u:SS:=[o 4 (.alloc a0a zI)]
def U0v:SS:=[mV 5 1,cA 6 l0w [t 5],mV 1 6]
def E0x:SS:=[mV 7 1,lN 8 7,o 9 (bI .eql 8 0)]
def U0w:SS:=[o 10 (.build zI []),sT 2 4 10]
def U0x:SS:=[mV 11 0,o 12 (.lit a0b [.int .u32 0] 0 []),mV 13 1,o 14 (.app a0b 1 4 (t 12) (t 13)),o 15 (.build zI [(0,1,t 11),(1,1,t 14)]),sT 2 4 15]
def E1Z:SF:=⟨2,16,[.cell 4 true 2],
 (qS (gR U0u) (qS (gR U0v) (qS (qS (gR E0x) (.cond (t 9) (qS (gR U0w) .ret) .skip)) (qS (gR U0x) .ret))))⟩
def U0y:SS:=[mB 2 false]
def U0z:SS:=[mI 3 0]
def U0A:SS:=[mV 4 3,mV 5 0,lN 6 5,o 7 (bT .lss 4 6)]
def E0y:SS:=[mV 10 0,mV 11 3,iA 12 2 10 11,fA 13 1 12,lD 14 13,lN 15 14,o 16 (bI .gtr 15 40)]
def U0B:SS:=[mB 2 true]
def U0C:SS:=[mV 8 3,o 9 (bI .add 8 1),mV 3 9]
def U0D:SS:=[mB 2 false]
def G1Q:SF:=⟨1,17,[.tmp 2],
 (qS (gR U0y) (qS (qS (gR U0z) (.block 0 (.loop (qS (qS (gR U0A) (.cond (t 7) .skip (.exit 0))) (qS (.block 1 (qS (gR E0y) (.cond (t 16) (qS (gR U0B) .ret) .skip))) (gR U0C)))))) (qS (gR U0D) .ret)))⟩
def U0E:SS:=[mB 2 false]
def U0F:SS:=[mI 3 0]
def U0G:SS:=[mV 4 3,mV 5 0,lN 6 5,o 7 (bT .lss 4 6)]
def U0H:SS:=[mV 10 0,mV 11 3,iA 12 2 10 11,lA 13 2 12,cA 14 F0B [t 13],nT 15 14]
def U0I:SS:=[mB 2 false]
def U0J:SS:=[mV 8 3,o 9 (bI .add 8 1),mV 3 9]
def U0K:SS:=[mB 2 true]
def G1R:SF:=⟨1,16,[.tmp 2],
 (qS (gR U0E) (qS (qS (gR U0F) (.block 0 (.loop (qS (qS (gR U0G) (.cond (t 7) .skip (.exit 0))) (qS (.block 1 (qS (gR U0H) (.cond (t 15) (qS (gR U0I) .ret) .skip))) (gR U0J)))))) (qS (gR U0K) .ret)))⟩
def E0z:SS:=[mB 3 false]
def E0A:SS:=[mV 4 0,o 5 (bI .geq 4 0),mV 6 5,gT 7 6 (mS 0),gT 8 6 (lS 1),gT 9 6 (bT .lss 7 8),pF 10 6 9,mV 3 10]
def u1v:SF:=⟨2,11,[.tmp 3],
 (qS (gR E0z) (qS (gR E0A) .ret))⟩
def E0B:SS:=[mB 2 false]
def E0C:SS:=[mV 3 0,o 4 (bI .geq 3 0),mV 5 4,gT 6 5 (mS 0),gT 7 5 (bI .leq 6 40),pF 8 5 7,mV 2 8]
def u1w:SF:=⟨1,9,[.tmp 2],
 (qS (gR E0B) (qS (gR E0C) .ret))⟩
def U0L:SS:=[bX 4 c0h 1,bX 5 c0h 2,mB 6 false]
def U0M:SS:=[o 7 (.alloc b0J [.nilFunc]),⟨none,none,.store 1 (t 7) (.fn m0p)⟩]
def U0N:SS:=[mV 8 0,o 9 (.mkfn (.func w0P) [] [t 7,t 4,t 5]),cA 10 s0N [t 8,t 9],nT 11 10,mV 6 11]
def F1a:SF:=⟨3,12,[.tmp 6],
 (qS (gR U0L) (qS (gR U0M) (qS (gR U0N) .ret)))⟩
def X0G:SS:=[bX 2 a0a 0,bX 3 a0a 1,o 4 (.alloc a0a zI)]
def X0H:SS:=[lA 5 2 2,cA 6 l0v [t 5],sT 2 2 6]
def X0I:SS:=[lA 7 2 3,cA 8 l0v [t 7],sT 2 3 8]
def X0J:SS:=[fA 9 0 2,lD 10 9,fA 11 0 3,lD 12 11,o 13 (.bin 1 .neq (t 10) (t 12)),fA 14 1 2,lD 15 14,fA 16 1 3,lD 17 16,cB 18 G0w [t 15,t 17],cA 19 x0T [t 13,t 18],sT 2 4 19]
def t1p:SF:=⟨2,20,[.cell 4 true 2],
 (qS (gR X0G) (qS (gR X0H) (qS (gR X0I) (qS (.draw X0J [0,1,0,4,15,0,32,0,128,480,1023,2047] []) .ret))))⟩
def A0k:SS:=[bX 1 a0m 0,mB 2 false]
def A0l:SS:=[fA 3 0 1,lD 4 3]
def A0m:SS:=[o 6 (.bin 0 .eql (t 4) (.const (.int .i64 (-1)))),mV 5 6]
def p0G:SS:=[o 7 (bI .eql 4 1),mV 5 7]
def t0y:SS:=[fA 8 1 1,lA 9 4 8,cA 10 w0R [t 9],mV 2 10]
def t0z:SS:=[o 12 (bI .eql 4 0),mV 11 12]
def A0n:SS:=[fA 13 1 1,lA 14 4 13,cA 15 H0d [t 14],mV 2 15]
def A0o:SS:=[mB 2 false]
def R0q:SF:=⟨1,16,[.tmp 2],
 (qS (gR A0k) (qS (qS (gR A0l) (.block 0 (qS (qS (gR A0m) (.cond (t 5) .skip (gR p0G))) (.cond (t 5) (qS (gR t0y) .ret) (qS (gR t0z) (.cond (t 11) (qS (gR A0n) .ret) .skip)))))) (qS (gR A0o) .ret)))⟩
def A0p:SS:=[bX 2 a0d 0,bX 3 a0d 1,mI 4 0]
def A0q:SS:=[lA 5 4 2,cB 6 j0Q [t 5],lA 7 4 3,cA 8 j0Q [t 7],sT 4 2 6,sT 4 3 8]
def A0r:SS:=[fA 9 0 2,lA 10 2 9,fA 11 2 3,lA 12 2 11,cB 13 h0Q [t 10,t 12],fA 14 0 3,lA 15 2 14,fA 16 2 2,lA 17 2 16,cA 18 h0Q [t 15,t 17],cA 19 F0z [t 13,t 18],mV 4 19]
def R0r:SF:=⟨2,20,[.tmp 4],
 (qS (gR A0p) (qS (.draw A0q [0,1,0,7,15,31] []) (qS (.draw A0r [0,1,0,4,15,0,32,0,128,511,1023,2047] []) .ret)))⟩
def b1w:SS:=[bX 2 a0a 0,bX 3 a0a 1,mB 4 false]
def b1x:SS:=[fA 6 0 2,lD 7 6,fA 8 0 3,lD 9 8,o 10 (.bin 1 .neq (t 7) (t 9)),mV 11 10,gF 12 11 (fS 1 2),gF 13 11 (lS 12),gF 14 11 (nS 13),gF 15 11 (fS 1 3),gF 16 11 (lS 15),gF 17 11 (nS 16),gF 18 11 (bT .neq 14 17),pT 19 11 18]
def b1y:SS:=[mB 4 false]
def b1z:SS:=[mI 5 0]
def b1A:SS:=[mV 20 5,fA 21 1 2,lD 22 21,lN 23 22,o 24 (bT .lss 20 23)]
def b1B:SS:=[fA 27 1 2,lD 28 27,mV 29 5,iA 30 1 28 29,lD 31 30,fA 32 1 3,lD 33 32,mV 34 5,iA 35 1 33 34,lD 36 35,o 37 (bT .neq 31 36)]
def b1C:SS:=[mB 4 false]
def b1D:SS:=[mV 25 5,o 26 (bI .add 25 1),mV 5 26]
def b1E:SS:=[mB 4 true]
def t1q:SF:=⟨2,38,[.tmp 4],
 (qS (gR b1w) (qS (qS (gR b1x) (.cond (t 19) (qS (gR b1y) .ret) .skip)) (qS (qS (gR b1z) (.block 0 (.loop (qS (qS (gR b1A) (.cond (t 24) .skip (.exit 0))) (qS (.block 1 (qS (.draw b1B [0,1,0,7,15,0,32,0,224,480,1023] []) (.cond (t 37) (qS (gR b1C) .ret) .skip))) (gR b1D)))))) (qS (gR b1E) .ret))))⟩
def A0s:SS:=[bX 1 a0a 0,mB 2 false]
def A0t:SS:=[lA 3 2 1,cA 4 z0a [t 3],mV 5 4,gT 6 5 (fS 0 1),gT 7 5 (lS 6),pF 8 5 7,mV 2 8]
def R0s:SF:=⟨1,9,[.tmp 2],
 (qS (gR A0s) (qS (gR A0t) .ret))⟩
def A0u:SS:=[mI 4 0]
def A0v:SS:=[mV 6 0,lN 7 6,mV 8 1,lN 9 8,o 10 (bT .neq 7 9)]
def A0w:SS:=[mV 11 0,lN 12 11,mV 13 1,lN 14 13,cA 15 y0E [t 12,t 14],mV 4 15]
def A0x:SS:=[mV 16 0,lN 17 16,o 18 (bI .sub 17 1),mV 5 18]
def t0A:SS:=[mV 19 5,o 20 (bI .geq 19 0)]
def A0y:SS:=[mV 23 0,mV 24 5,iA 25 1 23 24,lD 26 25,mV 27 1,mV 28 5,iA 29 1 27 28,lD 30 29,o 31 (bT .neq 26 30)]
def A0z:SS:=[mV 32 0,mV 33 5,iA 34 1 32 33,lD 35 34,mV 36 1,mV 37 5,iA 38 1 36 37,lD 39 38,cA 40 y0F [t 35,t 39],mV 4 40]
def A0A:SS:=[mV 21 5,o 22 (bI .sub 21 1),mV 5 22]
def A0B:SS:=[mI 4 0]
def R0t:SF:=⟨2,41,[.tmp 4],
 (qS (gR A0u) (qS (qS (gR A0v) (.cond (t 10) (qS (gR A0w) .ret) .skip)) (qS (qS (gR A0x) (.block 0 (.loop (qS (qS (gR t0A) (.cond (t 20) .skip (.exit 0))) (qS (.block 1 (qS (.draw A0y [0,0,3,7,0,0,48,112,255] []) (.cond (t 31) (qS (.draw A0z [0,0,3,7,0,0,48,112,255,511] []) .ret) .skip))) (gR A0A)))))) (qS (gR A0B) .ret))))⟩
def A0C:SS:=[bX 1 a0a 0,mN 2]
def A0D:SS:=[lA 3 2 1,cA 4 z0a [t 3],nT 5 4]
def A0E:SS:=[mN 2]
def A0F:SS:=[fA 6 1 1,lD 7 6,mV 2 7]
def R0u:SF:=⟨1,8,[.tmp 2],
 (qS (gR A0C) (qS (qS (gR A0D) (.cond (t 5) (qS (gR A0E) .ret) .skip)) (qS (gR A0F) .ret)))⟩
def A0G:SS:=[o 4 (.alloc a0a zI)]
def A0H:SS:=[mV 6 1,lN 7 6,mV 5 7]
def t0B:SS:=[mV 8 5,o 9 (bI .gtr 8 0),mV 10 9,gT 11 10 (mS 1),gT 12 10 (mS 5),gT 13 10 (bI .sub 12 1),gT 14 10 (iS 1 11 13),gT 15 10 (lS 14),gT 16 10 (.bin 0 .eql (t 15) (.const (.int .u32 0))),pF 17 10 16]
def A0I:SS:=[mV 18 5,o 19 (bI .sub 18 1),mV 5 19]
def A0J:SS:=[mV 20 5,o 21 (bI .eql 20 0)]
def A0K:SS:=[o 22 (.build zI []),sT 2 4 22]
def A0L:SS:=[mV 23 0,mV 24 1,mV 25 5,o 26 (.sl a0b 1 (t 24) none (some (t 25)) none),cA 27 y0G [t 26],o 28 (.build zI [(0,1,t 23),(1,1,t 27)]),sT 2 4 28]
def R0v:SF:=⟨2,29,[.cell 4 true 2],
 (qS (gR A0G) (qS (gR A0H) (qS (.block 0 (.loop (qS (qS (gR t0B) (.cond (t 17) .skip (.exit 0))) (.block 1 (gR A0I))))) (qS (qS (gR A0J) (.cond (t 21) (qS (gR A0K) .ret) .skip)) (qS (gR A0L) .ret)))))⟩
def A0M:SS:=[bX 2 a0a 0,bX 3 a0a 1,o 4 (.alloc a0a zI),o 5 (.alloc a0a zI),mI 6 0]
def A0N:SS:=[lA 13 2 2,cB 14 g0b [t 13],lA 15 2 3,cA 16 g0b [t 15],mV 7 14,mV 8 16]
def A0O:SS:=[mV 18 8,lN 19 18,o 20 (bI .eql 19 0),mV 17 20]
def b1F:SS:=[o 21 (.build zI []),o 22 (.build zI []),sT 2 4 21,sT 2 5 22,mI 6 1]
def A0P:SS:=[mV 24 7,mV 25 8,cA 26 q0W [t 24,t 25],o 27 (bI .lss 26 0),mV 23 27]
def A0Q:SS:=[o 28 (.build zI []),lA 29 2 2,cA 30 d0x [t 29],mV 31 7,cA 32 g0c [t 30,t 31],sT 2 4 28,sT 2 5 32,mI 6 0]
def t0C:SS:=[mV 34 8,lN 35 34,o 36 (bI .eql 35 1),mV 33 36]
def A0R:SS:=[mV 38 7,mV 39 8,o 40 (.ia 1 (t 39) (i 0)),lD 41 40,cA 42 y0H [t 38,t 41],mV 37 42,eX 43 37 0,eX 44 37 1,mV 9 43,mV 10 44]
def A0S:SS:=[lA 45 2 2,cB 46 d0x [t 45],lA 47 2 3,cB 48 d0x [t 47],o 49 (.bin 1 .neq (t 46) (t 48)),mV 50 9,cB 51 g0c [t 49,t 50],lA 52 2 2,cB 53 d0x [t 52],mV 54 10,o 55 (.lit a0b [.int .u32 0] 1 [(0,1,t 54)]),cA 56 g0c [t 53,t 55],sT 2 4 51,sT 2 5 56,mI 6 0]
def A0T:SS:=[mV 58 7,mV 59 8,cA 60 y0I [t 58,t 59],mV 57 60,eX 61 57 0,eX 62 57 1,mV 11 61,mV 12 62]
def v0A:SS:=[lA 63 2 2,cB 64 d0x [t 63],lA 65 2 3,cB 66 d0x [t 65],o 67 (.bin 1 .neq (t 64) (t 66)),mV 68 11,cB 69 g0c [t 67,t 68],lA 70 2 2,cA 71 d0x [t 70],mV 72 12,cA 73 g0c [t 71,t 72],sT 2 4 69,sT 2 5 73,mI 6 0]
def R0w:SF:=⟨2,74,[.cell 4 true 2,.cell 5 true 2,.tmp 6],
 (qS (gR A0M) (qS (.draw A0N [0,1,0,7,15,31] []) (qS (.block 0 (qS (gR A0O) (.cond (t 17) (qS (gR b1F) .ret) (qS (gR A0P) (.cond (t 23) (qS (gR A0Q) .ret) (qS (gR t0C) (.cond (t 33) (qS (gR A0R) (qS (.draw A0S [0,1,0,7,15,0,63,0,255,0,512,2047,4095,8191,16383] []) .ret)) .skip))))))) (qS (gR A0T) (qS (.draw v0A [0,1,0,7,15,0,63,0,255,0,1023,2047,4095,8191] []) .ret)))))⟩
def A0U:SS:=[o 2 (.alloc a0a zI)]
def A0V:SS:=[mV 4 0,cV 5 .u64 4,mV 3 5]
def A0W:SS:=[mV 6 0,o 7 (bI .lss 6 0)]
def A0X:SS:=[mV 8 3,o 9 (.un .neg (t 8)),mV 3 9]
def A0Y:SS:=[mV 10 0,o 11 (bI .lss 10 0),mV 12 3,cA 13 g0d [t 12],mV 14 3,o 15 (.bin 0 .shr (t 14) (.const (.int .u64 32))),cA 16 g0d [t 15],o 17 (.lit a0b [.int .u32 0] 2 [(0,1,t 13),(1,1,t 16)]),cA 18 g0c [t 11,t 17],sT 2 2 18]
def R0x:SF:=⟨1,19,[.cell 2 true 2],
 (qS (gR A0U) (qS (gR A0V) (qS (qS (gR A0W) (.cond (t 7) (gR A0X) .skip)) (qS (gR A0Y) .ret))))⟩
def A0Z:SS:=[bX 1 a0a 0,o 2 (.alloc a0a zI)]
def B0a:SS:=[lA 3 2 1,cA 4 F0B [t 3],nT 5 4]
def B0b:SS:=[o 6 (.build zI []),sT 2 2 6]
def B0c:SS:=[lA 7 2 1,sT 2 2 7]
def E0K:SF:=⟨1,8,[.cell 2 true 2],
 (qS (gR A0Z) (qS (qS (gR B0a) (.cond (t 5) (qS (gR B0b) .ret) .skip)) (qS (gR B0c) .ret)))⟩
def B0d:SS:=[mN 4,mN 5]
def B0e:SS:=[mV 10 0,mV 11 1,cA 12 r0a [t 10,t 11],o 13 (bI .lss 12 0)]
def B0f:SS:=[mV 14 0,mN 4,mV 5 14]
def B0g:SS:=[mV 15 0,lN 16 15,o 17 (.mk a0b 4 [.int .u32 0] (t 16) (t 16)),mV 6 17]
def B0h:SS:=[mN 7]
def B0i:SS:=[mV 18 0,lN 19 18,o 20 (bI .sub 19 1),mV 8 20]
def t0D:SS:=[mV 21 8,o 22 (bI .geq 21 0)]
def B0j:SS:=[mI 9 31]
def t0E:SS:=[mV 25 9,o 26 (bI .geq 25 0)]
def B0k:SS:=[mV 29 7,mV 30 0,mV 31 8,iA 32 1 30 31,lD 33 32,mV 34 9,cV 35 .u64 34,o 36 (bT .shr 33 35),o 37 (.bin 0 .and (t 36) (.const (.int .u32 1))),o 38 (.bin 0 .eql (t 37) (.const (.int .u32 1))),cA 39 y0J [t 29,t 38],mV 7 39]
def v0B:SS:=[mV 40 7,mV 41 1,cA 42 r0a [t 40,t 41],o 43 (bI .geq 42 0)]
def v0C:SS:=[mV 44 7,mV 45 1,cA 46 r0b [t 44,t 45],mV 7 46]
def v0D:SS:=[mV 47 6,mV 48 8,mV 49 6,mV 50 8,iA 51 1 49 50,lD 52 51,mV 53 9,cV 54 .u64 53,o 55 (.bin 0 .shl (.const (.int .u32 1)) (t 54)),o 56 (bT .or 52 55),iA 57 1 47 48,sT 1 57 56]
def p0H:SS:=[mV 27 9,o 28 (bI .sub 27 1),mV 9 28]
def v0E:SS:=[mV 23 8,o 24 (bI .sub 23 1),mV 8 24]
def v0F:SS:=[mV 58 6,cA 59 l0w [t 58],mV 60 7,mV 4 59,mV 5 60]
def R0y:SF:=⟨2,61,[.tmp 4,.tmp 5],
 (qS (gR B0d) (qS (qS (gR B0e) (.cond (t 13) (qS (gR B0f) .ret) .skip)) (qS (gR B0g) (qS (gR B0h) (qS (qS (gR B0i) (.block 0 (.loop (qS (qS (gR t0D) (.cond (t 22) .skip (.exit 0))) (qS (.block 1 (qS (gR B0j) (.block 2 (.loop (qS (qS (gR t0E) (.cond (t 26) .skip (.exit 2))) (qS (.block 3 (qS (gR B0k) (qS (gR v0B) (.cond (t 43) (qS (gR v0C) (gR v0D)) .skip)))) (gR p0H))))))) (gR v0E)))))) (qS (gR v0F) .ret))))))⟩
def b1G:SS:=[bX 1 a0m 0,o 2 (.alloc a0m zE)]
def b1H:SS:=[lA 4 5 1,cA 5 s0L [t 4],nT 6 5,mV 3 6]
def b1I:SS:=[o 7 (.build zR []),cA 8 H0e [t 7],sT 5 2 8]
def b1J:SS:=[fA 10 0 1,lD 11 10,o 12 (bI .eql 11 0),mV 9 12]
def b1K:SS:=[fA 13 1 1,lA 14 4 13,cA 15 H0e [t 14],sT 5 2 15]
def b1L:SS:=[fA 16 0 1,lD 17 16,o 18 (.build zE [(0,1,t 17)]),sT 5 2 18]
def t1r:SF:=⟨1,19,[.cell 2 true 5],
 (qS (gR b1G) (qS (.block 0 (qS (gR b1H) (.cond (t 3) (qS (gR b1I) .ret) (qS (gR b1J) (.cond (t 9) (qS (gR b1K) .ret) .skip))))) (qS (gR b1L) .ret)))⟩
def b1M:SS:=[bX 3 a0m 0,bX 4 a0m 1,o 6 (.alloc a0m zE)]
def b1N:SS:=[mV 7 2,lA 8 5 3,lA 9 5 4,o 10 (.callv (t 7) [t 8,t 9] true)]
def b1O:SS:=[lA 11 5 4,sT 5 6 11]
def b1P:SS:=[lA 12 5 3,sT 5 6 12]
def t1s:SF:=⟨3,13,[.cell 6 true 5],
 (qS (gR b1M) (qS (qS (gR b1N) (.cond (t 10) (qS (gR b1O) .ret) .skip)) (qS (gR b1P) .ret)))⟩
def b1Q:SS:=[bX 2 a0m 0,bX 3 a0m 1,mB 4 false]
def b1R:SS:=[lA 5 5 2,lA 6 5 3,cA 7 z0b [t 5,t 6],o 8 (bI .lss 7 0),mV 4 8]
def t1t:SF:=⟨2,9,[.tmp 4],
 (qS (gR b1Q) (qS (gR b1R) .ret))⟩
def b1S:SS:=[bX 2 a0d 0,bX 3 a0d 1,o 4 (.alloc a0d zR)]
def b1T:SS:=[lA 5 4 2,cB 6 j0Q [t 5],lA 7 4 3,cA 8 j0Q [t 7],sT 4 2 6,sT 4 3 8]
def b1U:SS:=[fA 9 0 2,lA 10 2 9,fA 11 2 3,lA 12 2 11,cB 13 h0Q [t 10,t 12],fA 14 0 3,lA 15 2 14,fA 16 2 2,lA 17 2 16,cB 18 h0Q [t 15,t 17],o 19 (.lit a0a zI 1 [(0,2,t 18)]),o 20 (.call G0F [.fn m0q,t 13,t 19] false),fA 21 2 2,lA 22 2 21,fA 23 2 3,lA 24 2 23,cA 25 h0Q [t 22,t 24],cA 26 y0K [t 20,t 25],sT 4 4 26]
def t1u:SF:=⟨2,27,[.cell 4 true 4],
 (qS (gR b1S) (qS (.draw b1T [0,1,0,7,15,31] []) (qS (.draw b1U [0,1,0,4,15,0,32,0,128,511,1023,2047,0,4096,0,16384,65535,131071,262143] []) .ret)))⟩
def b1V:SS:=[bX 2 a0m 0,bX 3 a0m 1,mB 4 false]
def b1W:SS:=[lA 5 5 2,lA 6 5 3,cA 7 z0b [t 5,t 6],o 8 (bI .gtr 7 0),mV 4 8]
def t1v:SF:=⟨2,9,[.tmp 4],
 (qS (gR b1V) (qS (gR b1W) .ret))⟩
def B0l:SS:=[mN 2]
def B0m:SS:=[mV 4 0,lN 5 4,mV 3 5]
def t0F:SS:=[mV 6 3,o 7 (bI .gtr 6 0),mV 8 7,gT 9 8 (mS 0),gT 10 8 (mS 3),gT 11 8 (bI .sub 10 1),gT 12 8 (iS 1 9 11),gT 13 8 (lS 12),gT 14 8 (.bin 0 .eql (t 13) (.const (.int .u32 0))),pF 15 8 14]
def B0n:SS:=[mV 16 3,o 17 (bI .sub 16 1),mV 3 17]
def B0o:SS:=[mV 18 0,mV 19 3,o 20 (.sl a0b 1 (t 18) none (some (t 19)) none),mV 2 20]
def E0L:SF:=⟨1,21,[.tmp 2],
 (qS (gR B0l) (qS (gR B0m) (qS (.block 0 (.loop (qS (qS (gR t0F) (.cond (t 15) .skip (.exit 0))) (.block 1 (gR B0n))))) (qS (gR B0o) .ret))))⟩
def t0G:SS:=[mB 4 false]
def t0H:SS:=[mV 5 0,lN 6 5,mV 7 1,o 8 (bT .eql 6 7),mV 9 8,gT 10 9 (mS 0),gT 11 9 (.call w0N [t 10,.fn w0O] true),gT 12 9 (.un .not (t 11)),pF 13 9 12,mV 4 13]
def x0E:SF:=⟨2,14,[.tmp 4],
 (qS (gR t0G) (qS (gR t0H) .ret))⟩
def B0p:SS:=[mB 4 false]
def B0q:SS:=[mV 5 0,mV 6 1,cA 7 w0S [t 5,t 6],o 8 (bI .geq 7 0),mV 4 8]
def E0M:SF:=⟨2,9,[.tmp 4],
 (qS (gR B0p) (qS (gR B0q) .ret))⟩
def B0r:SS:=[bX 1 a0a 0,mB 2 false]
def B0s:SS:=[lA 3 2 1,cA 4 z0a [t 3],nT 5 4,mV 2 5]
def E0N:SF:=⟨1,6,[.tmp 2],
 (qS (gR B0r) (qS (gR B0s) .ret))⟩
def B0t:SS:=[mB 4 false]
def B0u:SS:=[mV 5 0,mV 6 1,cA 7 w0T [t 5,t 6],o 8 (bI .geq 7 0),mV 4 8]
def E0O:SF:=⟨2,9,[.tmp 4],
 (qS (gR B0t) (qS (gR B0u) .ret))⟩
def B0v:SS:=[bX 4 a0j 0,mB 5 false]
def B0w:SS:=[lD 6 1,fA 7 0 4,lD 8 7,lD 9 2,o 10 (.callv (t 6) [t 8,t 9] true),nT 11 10,mV 12 11,gF 13 12 (lS 1),gF 14 12 (fS 1 4),gF 15 12 (lS 14),gF 16 12 (lS 3),gF 17 12 (.callv (t 13) [t 15,t 16] true),gF 18 12 (.un .not (t 17)),pT 19 12 18,mV 20 19,gF 21 20 (fS 2 4),gF 22 20 (aS 2 21),gF 23 20 (.call z0a [t 22] true),gF 24 20 (.un .not (t 23)),pT 25 20 24,mV 5 25]
def E0P:SF:=⟨4,26,[.tmp 5],
 (qS (gR B0v) (qS (gR B0w) .ret))⟩
def c1j:SS:=[bX 2 a0a 0,bX 3 a0a 1,o 4 (.alloc a0a zI)]
def c1k:SS:=[lA 5 2 2,lA 6 2 3,cB 7 y0L [t 6],cA 8 r0c [t 5,t 7],sT 2 4 8]
def C1M:SF:=⟨2,9,[.cell 4 true 2],
 (qS (gR c1j) (qS (.draw c1k [0,0,2,7,15] []) .ret))⟩
def c1l:SS:=[mN 4]
def c1m:SS:=[mV 10 0,lN 11 10,mV 12 1,lN 13 12,o 14 (bT .add 11 13),o 15 (.mk a0b 4 [.int .u32 0] (t 14) (t 14)),mV 5 15]
def c1n:SS:=[mI 6 0]
def c1o:SS:=[mV 16 6,mV 17 0,lN 18 17,o 19 (bT .lss 16 18)]
def c1p:SS:=[o 7 (.mv (.const (.int .u64 0)))]
def c1q:SS:=[mI 8 0]
def c1r:SS:=[mV 22 8,mV 23 1,lN 24 23,o 25 (bT .lss 22 24)]
def c1s:SS:=[mV 28 0,mV 29 6,iA 30 1 28 29,lD 31 30,cV 32 .u64 31,mV 33 1,mV 34 8,iA 35 1 33 34,lD 36 35,cV 37 .u64 36,o 38 (bT .mul 32 37),mV 39 5,mV 40 6,mV 41 8,o 42 (bT .add 40 41),iA 43 1 39 42,lD 44 43,cV 45 .u64 44,o 46 (bT .add 38 45),mV 47 7,o 48 (bT .add 46 47),mV 9 48]
def c1t:SS:=[mV 49 5,mV 50 6,mV 51 8,o 52 (bT .add 50 51),mV 53 9,cV 54 .u32 53,iA 55 1 49 52,sT 1 55 54]
def c1u:SS:=[mV 56 9,o 57 (.bin 0 .shr (t 56) (.const (.int .u64 32))),mV 7 57]
def J0y:SS:=[mV 26 8,o 27 (bI .add 26 1),mV 8 27]
def J0z:SS:=[mV 58 5,mV 59 6,mV 60 1,lN 61 60,o 62 (bT .add 59 61),mV 63 7,cV 64 .u32 63,iA 65 1 58 62,sT 1 65 64]
def J0A:SS:=[mV 20 6,o 21 (bI .add 20 1),mV 6 21]
def J0B:SS:=[mV 66 5,cA 67 l0w [t 66],mV 4 67]
def t1w:SF:=⟨2,68,[.tmp 4],
 (qS (gR c1l) (qS (gR c1m) (qS (qS (gR c1n) (.block 0 (.loop (qS (qS (gR c1o) (.cond (t 19) .skip (.exit 0))) (qS (.block 1 (qS (gR c1p) (qS (qS (gR c1q) (.block 2 (.loop (qS (qS (gR c1r) (.cond (t 25) .skip (.exit 2))) (qS (.block 3 (qS (.draw c1s [0,0,3,7,15,0,0,96,224,480,1023,0,0,0,12288,30720,63488,129024,262143,0,1048575,2097151] []) (qS (gR c1t) (gR c1u)))) (gR J0y)))))) (gR J0z)))) (gR J0A)))))) (qS (gR J0B) .ret))))⟩
def B0A:SS:=[bX 1 a0d 0,mB 2 false]
def m0S:SS:=[fA 3 0 1,fA 4 0 3,lD 5 4,nT 6 5,mV 7 6,gT 8 7 (fS 0 1),gT 9 7 (fS 1 8),gT 10 7 (lS 9),gT 11 7 (nS 10),gT 12 7 (bI .eql 11 0),pF 13 7 12,mV 14 13,gT 15 14 (fS 2 1),gT 16 14 (fS 0 15),gT 17 14 (lS 16),gT 18 14 (.un .not (t 17)),pF 19 14 18,mV 20 19,gT 21 20 (fS 2 1),gT 22 20 (fS 1 21),gT 23 20 (lS 22),gT 24 20 (nS 23),gT 25 20 (bI .eql 24 0),pF 26 20 25,mV 2 26]
def R0z:SF:=⟨1,27,[.tmp 2],
 (qS (gR B0A) (qS (gR m0S) .ret))⟩
def B0B:SS:=[bX 1 a0d 0,o 2 (.alloc a0d zR)]
def B0C:SS:=[lA 3 4 1,cA 4 X0a [t 3],mV 5 4,gF 6 5 (aS 4 1),gF 7 5 (.call H0d [t 6] true),gF 8 5 (.un .not (t 7)),pT 9 5 8]
def t0I:SS:=[cA 10 S0n [],o 11 (.build zR [(2,2,t 10)]),sT 4 2 11]
def B0D:SS:=[fA 12 0 1,lA 13 2 12,o 14 (.build zI []),cB 15 m0q [t 13,t 14],fA 16 2 1,lA 17 2 16,o 18 (.build zI []),cA 19 m0q [t 17,t 18],o 20 (.build zR [(0,2,t 15),(2,2,t 19)]),sT 4 2 20]
def E0Q:SF:=⟨1,21,[.cell 2 true 4],
 (qS (gR B0B) (qS (qS (gR B0C) (.cond (t 9) (qS (gR t0I) .ret) .skip)) (qS (.draw B0D [0,1,0,7,0,16,0,127,255,511] []) .ret)))⟩
def B0E:SS:=[bX 2 a0a 0,bX 3 a0a 1,o 4 (.alloc a0a zI)]
def B0F:SS:=[lA 13 2 2,cB 14 g0b [t 13],lA 15 2 3,cA 16 g0b [t 15],mV 5 14,mV 6 16]
def B0G:SS:=[mV 17 5,lN 18 17,mV 19 6,lN 20 19,o 21 (bT .add 18 20),o 22 (.mk a0b 4 [.int .u32 0] (t 21) (t 21)),mV 7 22]
def B0H:SS:=[mV 23 5,lN 24 23,mI 25 0]
def t0J:SS:=[o 26 (bT .lss 25 24)]
def B0I:SS:=[mV 27 25,iA 28 1 23 25,lD 29 28,mV 8 27,mV 9 29]
def B0J:SS:=[o 10 (.mv (.const (.int .u64 0)))]
def B0K:SS:=[mV 30 6,lN 31 30,mI 32 0]
def t0K:SS:=[o 33 (bT .lss 32 31)]
def B0L:SS:=[mV 34 32,iA 35 1 30 32,lD 36 35,mV 11 34,mV 12 36]
def v0H:SS:=[mV 37 10,mV 38 9,cV 39 .u64 38,mV 40 12,cV 41 .u64 40,o 42 (bT .mul 39 41),mV 43 7,mV 44 8,mV 45 11,o 46 (bT .add 44 45),iA 47 1 43 46,lD 48 47,cV 49 .u64 48,o 50 (bT .add 42 49),o 51 (bT .add 37 50),mV 10 51]
def v0I:SS:=[mV 52 7,mV 53 8,mV 54 11,o 55 (bT .add 53 54),mV 56 10,cA 57 g0d [t 56],iA 58 1 52 55,sT 1 58 57]
def v0J:SS:=[mV 59 10,o 60 (.bin 0 .shr (t 59) (.const (.int .u64 32))),mV 10 60]
def v0K:SS:=[o 61 (bI .add 32 1),mV 32 61]
def v0L:SS:=[mV 62 7,mV 63 8,mV 64 6,lN 65 64,o 66 (bT .add 63 65),mV 67 10,cA 68 g0d [t 67],iA 69 1 62 66,sT 1 69 68]
def v0M:SS:=[o 70 (bI .add 25 1),mV 25 70]
def v0N:SS:=[lA 71 2 2,cB 72 d0x [t 71],lA 73 2 3,cA 74 d0x [t 73],o 75 (.bin 1 .neq (t 72) (t 74)),mV 76 7,cA 77 g0c [t 75,t 76],sT 2 4 77]
def R0A:SF:=⟨2,78,[.cell 4 true 2],
 (qS (gR B0E) (qS (.draw B0F [0,1,0,7,15,31] []) (qS (gR B0G) (qS (qS (gR B0H) (.block 0 (.loop (qS (gR t0J) (qS (.cond (t 26) .skip (.exit 0)) (qS (.block 1 (qS (gR B0I) (qS (gR B0J) (qS (qS (gR B0K) (.block 2 (.loop (qS (gR t0K) (qS (.cond (t 33) .skip (.exit 2)) (qS (.block 3 (qS (gR B0L) (qS (gR v0H) (qS (gR v0I) (gR v0J))))) (gR v0K))))))) (gR v0L))))) (gR v0M))))))) (qS (.draw v0N [0,1,0,7,15,0,63,127] []) .ret)))))⟩
def B0M:SS:=[mI 4 0]
def B0N:SS:=[mV 6 0,mV 7 1,o 8 (bT .lss 6 7),mV 5 8]
def B0O:SS:=[o 4 (.mv (.const (.int .i64 (-1))))]
def B0P:SS:=[mV 10 0,mV 11 1,o 12 (bT .gtr 10 11),mV 9 12]
def B0Q:SS:=[mI 4 1]
def B0R:SS:=[mI 4 0]
def R0B:SF:=⟨2,13,[.tmp 4],
 (qS (gR B0M) (qS (.block 0 (qS (gR B0N) (.cond (t 5) (qS (gR B0O) .ret) (qS (gR B0P) (.cond (t 9) (qS (gR B0Q) .ret) .skip))))) (qS (gR B0R) .ret)))⟩
def B0S:SS:=[mI 4 0]
def B0T:SS:=[mV 6 0,mV 7 1,o 8 (bT .lss 6 7),mV 5 8]
def B0U:SS:=[o 4 (.mv (.const (.int .i64 (-1))))]
def B0V:SS:=[mV 10 0,mV 11 1,o 12 (bT .gtr 10 11),mV 9 12]
def B0W:SS:=[mI 4 1]
def B0X:SS:=[mI 4 0]
def R0C:SF:=⟨2,13,[.tmp 4],
 (qS (gR B0S) (qS (.block 0 (qS (gR B0T) (.cond (t 5) (qS (gR B0U) .ret) (qS (gR B0V) (.cond (t 9) (qS (gR B0W) .ret) .skip))))) (qS (gR B0X) .ret)))⟩
def B0Y:SS:=[mN 2]
def B0Z:SS:=[mV 3 0,o 4 (.bin 2 .eql (t 3) (.const (.slice none 0 0)))]
def C0a:SS:=[mN 2]
def C0b:SS:=[o 5 (.lit a0b [.int .u32 0] 0 []),mV 6 0,o 7 (.app a0b 1 4 (t 5) (t 6)),mV 2 7]
def R0D:SF:=⟨1,8,[.tmp 2],
 (qS (gR B0Y) (qS (qS (gR B0Z) (.cond (t 4) (qS (gR C0a) .ret) .skip)) (qS (gR C0b) .ret)))⟩
def C0c:SS:=[mN 4,o 5 (.mv (.const (.int .u32 0)))]
def C0d:SS:=[mV 9 0,lN 10 9,o 11 (.mk a0b 4 [.int .u32 0] (t 10) (t 10)),mV 6 11]
def C0e:SS:=[o 7 (.mv (.const (.int .u64 0)))]
def C0f:SS:=[mV 12 0,lN 13 12,o 14 (bI .sub 13 1),mV 8 14]
def t0L:SS:=[mV 15 8,o 16 (bI .geq 15 0)]
def C0g:SS:=[mV 19 7,o 20 (.bin 0 .shl (t 19) (.const (.int .u64 32))),mV 21 0,mV 22 8,iA 23 1 21 22,lD 24 23,cV 25 .u64 24,o 26 (bT .or 20 25),mV 7 26]
def C0h:SS:=[mV 27 6,mV 28 8,mV 29 7,mV 30 1,cV 31 .u64 30,o 32 (bT .quo 29 31),cA 33 g0d [t 32],iA 34 1 27 28,sT 1 34 33]
def C0i:SS:=[mV 35 7,mV 36 1,cV 37 .u64 36,o 38 (bT .rem 35 37),mV 7 38]
def C0j:SS:=[mV 17 8,o 18 (bI .sub 17 1),mV 8 18]
def C0k:SS:=[mV 39 6,mV 40 7,cA 41 g0d [t 40],mV 4 39,mV 5 41]
def R0E:SF:=⟨2,42,[.tmp 4,.tmp 5],
 (qS (gR C0c) (qS (gR C0d) (qS (gR C0e) (qS (qS (gR C0f) (.block 0 (.loop (qS (qS (gR t0L) (.cond (t 16) .skip (.exit 0))) (qS (.block 1 (qS (gR C0g) (qS (gR C0h) (gR C0i)))) (gR C0j)))))) (qS (gR C0k) .ret)))))⟩
def C0l:SS:=[mN 4,mN 5]
def C0m:SS:=[mI 6 0]
def t0M:SS:=[mV 16 1,mV 17 1,lN 18 17,o 19 (bI .sub 18 1),iA 20 1 16 19,lD 21 20,mV 22 6,o 23 (bT .shl 21 22),o 24 (.bin 0 .shr (t 23) (.const (.int .u64 31))),o 25 (.bin 0 .eql (t 24) (.const (.int .u32 0)))]
def t0N:SS:=[mV 26 6,o 27 (bI .add 26 1),mV 6 27]
def C0n:SS:=[mV 28 0,mV 29 6,cA 30 w0V [t 28,t 29],mV 31 1,mV 32 6,cA 33 w0V [t 31,t 32],mV 34 1,lN 35 34,o 36 (.sl a0b 1 (t 33) none (some (t 35)) none),mV 7 30,mV 8 36]
def C0o:SS:=[mV 37 8,lN 38 37,mV 9 38]
def C0p:SS:=[mV 39 7,lN 40 39,mV 41 9,o 42 (bT .sub 40 41),o 43 (.mnx true (t 42) [i 0]),o 44 (.mk a0b 4 [.int .u32 0] (t 43) (t 43)),mV 4 44]
def C0q:SS:=[mV 45 8,mV 46 9,o 47 (bI .sub 46 1),iA 48 1 45 47,lD 49 48,cV 50 .u64 49,mV 51 8,mV 52 9,o 53 (bI .sub 52 2),iA 54 1 51 53,lD 55 54,cV 56 .u64 55,mV 10 50,mV 11 56]
def C0r:SS:=[mV 57 7,lN 58 57,mV 59 9,o 60 (bT .sub 58 59),o 61 (bI .sub 60 1),mV 12 61]
def t0O:SS:=[mV 62 12,o 63 (bI .geq 62 0)]
def v0O:SS:=[mV 66 7,mV 67 12,mV 68 9,o 69 (bT .add 67 68),iA 70 1 66 69,lD 71 70,cV 72 .u64 71,o 73 (.bin 0 .shl (t 72) (.const (.int .u64 32))),mV 74 7,mV 75 12,mV 76 9,o 77 (bT .add 75 76),o 78 (bI .sub 77 1),iA 79 1 74 78,lD 80 79,cV 81 .u64 80,o 82 (bT .or 73 81),mV 13 82]
def v0P:SS:=[mV 83 13,mV 84 10,o 85 (bT .quo 83 84),mV 86 13,mV 87 10,o 88 (bT .rem 86 87),mV 14 85,mV 15 88]
def l0O:SS:=[mV 89 14,o 90 (.bin 0 .geq (t 89) (.const (.int .u64 4294967296))),mV 91 90,gF 92 91 (mS 14),gF 93 91 (mS 11),gF 94 91 (bT .mul 92 93),gF 95 91 (mS 15),gF 96 91 (.bin 0 .shl (t 95) (.const (.int .u64 32))),gF 97 91 (mS 7),gF 98 91 (mS 12),gF 99 91 (mS 9),gF 100 91 (bT .add 98 99),gF 101 91 (bI .sub 100 2),gF 102 91 (iS 1 97 101),gF 103 91 (lS 102),gF 104 91 (.conv .u64 (t 103)),gF 105 91 (bT .or 96 104),gF 106 91 (bT .gtr 94 105),pT 107 91 106]
def k0g:SS:=[mV 108 14,o 109 (.bin 0 .sub (t 108) (.const (.int .u64 1))),mV 14 109]
def k0h:SS:=[mV 110 15,mV 111 10,o 112 (bT .add 110 111),mV 15 112]
def k0i:SS:=[mV 113 15,o 114 (.bin 0 .geq (t 113) (.const (.int .u64 4294967296)))]
def v0Q:SS:=[mV 115 7,mV 116 12,mV 117 12,mV 118 9,o 119 (bT .add 117 118),o 120 (bI .add 119 1),o 121 (.sl a0b 1 (t 115) (some (t 116)) (some (t 120)) none),mV 122 8,mV 123 14,cA 124 y0N [t 121,t 122,t 123]]
def v0R:SS:=[mV 125 14,o 126 (.bin 0 .sub (t 125) (.const (.int .u64 1))),mV 14 126]
def v0S:SS:=[mV 127 7,mV 128 12,mV 129 12,mV 130 9,o 131 (bT .add 129 130),o 132 (bI .add 131 1),o 133 (.sl a0b 1 (t 127) (some (t 128)) (some (t 132)) none),mV 134 8,cA 135 y0O [t 133,t 134]]
def p0I:SS:=[mV 136 4,mV 137 12,mV 138 14,cA 139 g0d [t 138],iA 140 1 136 137,sT 1 140 139]
def p0J:SS:=[mV 64 12,o 65 (bI .sub 64 1),mV 12 65]
def v0T:SS:=[mV 141 4,mV 142 7,mV 143 9,o 144 (.sl a0b 1 (t 142) none (some (t 143)) none),mV 145 6,cA 146 y0P [t 144,t 145],mV 4 141,mV 5 146]
def R0F:SF:=⟨2,147,[.tmp 4,.tmp 5],
 (qS (gR C0l) (qS (gR C0m) (qS (.block 0 (.loop (qS (qS (gR t0M) (.cond (t 25) .skip (.exit 0))) (.block 1 (gR t0N))))) (qS (.draw C0n [0,0,3,0,0,31,0,64,255,63,1023] []) (qS (gR C0o) (qS (gR C0p) (qS (.draw C0q [0,0,2,7,15,31,0,0,128,448,960,1984,63,8191] []) (qS (qS (gR C0r) (.block 2 (.loop (qS (qS (gR t0O) (.cond (t 63) .skip (.exit 2))) (qS (.block 3 (qS (.draw v0O [0,0,0,6,15,31,63,127,0,0,0,1536,3584,7936,16128,32512,65535,131071] []) (qS (.draw v0P [0,0,3,0,0,24,7,127] []) (qS (.block 4 (.loop (qS (qS (gR l0O) (.cond (t 107) .skip (.exit 4))) (.block 5 (qS (gR k0g) (qS (gR k0h) (qS (gR k0i) (.cond (t 114) (.exit 4) .skip)))))))) (qS (qS (gR v0Q) (.cond (t 124) (qS (gR v0R) (gR v0S)) .skip)) (gR p0I)))))) (gR p0J)))))) (qS (gR v0T) .ret)))))))))⟩
def C0s:SS:=[o 2 (.mv (.const (.int .u32 0)))]
def C0t:SS:=[mV 3 0,cV 4 .u32 3,mV 2 4]
def R0G:SF:=⟨1,5,[.tmp 2],
 (qS (gR C0s) (qS (gR C0t) .ret))⟩
def p0K:SS:=[mI 4 0]
def p0L:SS:=[mV 6 0,lN 7 6,mV 8 1,lN 9 8,o 10 (bT .neq 7 9)]
def t0P:SS:=[mV 11 0,lN 12 11,mV 13 1,lN 14 13,o 15 (bT .lss 12 14)]
def C0u:SS:=[o 4 (.mv (.const (.int .i64 (-1))))]
def C0v:SS:=[mI 4 1]
def C0w:SS:=[mV 16 0,lN 17 16,o 18 (bI .sub 17 1),mV 5 18]
def t0Q:SS:=[mV 19 5,o 20 (bI .geq 19 0)]
def C0x:SS:=[mV 23 0,mV 24 5,iA 25 1 23 24,lD 26 25,mV 27 1,mV 28 5,iA 29 1 27 28,lD 30 29,o 31 (bT .lss 26 30)]
def C0y:SS:=[o 4 (.mv (.const (.int .i64 (-1))))]
def C0z:SS:=[mV 32 0,mV 33 5,iA 34 1 32 33,lD 35 34,mV 36 1,mV 37 5,iA 38 1 36 37,lD 39 38,o 40 (bT .gtr 35 39)]
def v0U:SS:=[mI 4 1]
def v0V:SS:=[mV 21 5,o 22 (bI .sub 21 1),mV 5 22]
def v0W:SS:=[mI 4 0]
def u0F:SF:=⟨2,41,[.tmp 4],
 (qS (gR p0K) (qS (qS (gR p0L) (.cond (t 10) (qS (qS (gR t0P) (.cond (t 15) (qS (gR C0u) .ret) .skip)) (qS (gR C0v) .ret)) .skip)) (qS (qS (gR C0w) (.block 0 (.loop (qS (qS (gR t0Q) (.cond (t 20) .skip (.exit 0))) (qS (.block 1 (qS (qS (.draw C0x [0,0,3,7,0,0,48,112,255] []) (.cond (t 31) (qS (gR C0y) .ret) .skip)) (qS (.draw C0z [0,0,3,7,0,0,48,112,255] []) (.cond (t 40) (qS (gR v0U) .ret) .skip)))) (gR v0V)))))) (qS (gR v0W) .ret))))⟩
def C0A:SS:=[mN 4]
def C0B:SS:=[mN 5]
def C0C:SS:=[o 6 (.mv (.const (.int .u32 0)))]
def C0D:SS:=[mV 8 1]
def C0E:SS:=[o 6 (.mv (.const (.int .u32 1)))]
def t0R:SS:=[mI 7 0]
def t0S:SS:=[mV 9 7,mV 10 0,lN 11 10,o 12 (bT .lss 9 11)]
def t0T:SS:=[mV 15 5,mV 16 0,mV 17 7,iA 18 1 16 17,lD 19 18,o 20 (.bin 0 .shl (t 19) (.const (.int .u64 1))),mV 21 6,o 22 (bT .or 20 21),o 23 (.lit a0b [.int .u32 0] 1 [(0,1,t 22)]),o 24 (.app a0b 1 4 (t 15) (t 23)),mV 5 24]
def t0U:SS:=[mV 25 0,mV 26 7,iA 27 1 25 26,lD 28 27,o 29 (.bin 0 .shr (t 28) (.const (.int .u64 31))),mV 6 29]
def t0V:SS:=[mV 13 7,o 14 (bI .add 13 1),mV 7 14]
def p0M:SS:=[mV 30 5,mV 31 6,o 32 (.lit a0b [.int .u32 0] 1 [(0,1,t 31)]),o 33 (.app a0b 1 4 (t 30) (t 32)),mV 5 33]
def p0N:SS:=[mV 34 5,cA 35 l0w [t 34],mV 4 35]
def R0H:SF:=⟨2,36,[.tmp 4],
 (qS (gR C0A) (qS (gR C0B) (qS (gR C0C) (qS (qS (gR C0D) (.cond (t 8) (gR C0E) .skip)) (qS (qS (gR t0R) (.block 0 (.loop (qS (qS (gR t0S) (.cond (t 12) .skip (.exit 0))) (qS (.block 1 (qS (gR t0T) (gR t0U))) (gR t0V)))))) (qS (gR p0M) (qS (gR p0N) .ret)))))))⟩
def C0F:SS:=[mN 4]
def C0G:SS:=[o 9 (.lit a0b [.int .u32 0] 0 []),mV 10 0,o 11 (.app a0b 1 4 (t 9) (t 10)),mV 5 11]
def C0H:SS:=[o 6 (.mv (.const (.int .u64 0)))]
def C0I:SS:=[mI 7 0]
def C0J:SS:=[mV 12 7,mV 13 5,lN 14 13,o 15 (bT .lss 12 14)]
def t0W:SS:=[mV 18 6,mV 8 18]
def t0X:SS:=[mV 19 7,mV 20 1,lN 21 20,o 22 (bT .lss 19 21)]
def C0K:SS:=[mV 23 8,mV 24 1,mV 25 7,iA 26 1 24 25,lD 27 26,cV 28 .u64 27,o 29 (bT .add 23 28),mV 8 29]
def m0T:SS:=[mV 30 5,mV 31 7,iA 32 1 30 31,lD 33 32,cV 34 .u64 33,mV 35 8,o 36 (bT .geq 34 35)]
def t0Y:SS:=[mV 37 5,mV 38 7,mV 39 5,mV 40 7,iA 41 1 39 40,lD 42 41,cV 43 .u64 42,mV 44 8,o 45 (bT .sub 43 44),cV 46 .u32 45,iA 47 1 37 38,sT 1 47 46]
def p0O:SS:=[o 6 (.mv (.const (.int .u64 0)))]
def p0P:SS:=[mV 48 5,mV 49 7,mV 50 5,mV 51 7,iA 52 1 50 51,lD 53 52,cV 54 .u64 53,o 55 (.bin 0 .add (t 54) (.const (.int .u64 4294967296))),mV 56 8,o 57 (bT .sub 55 56),cV 58 .u32 57,iA 59 1 48 49,sT 1 59 58]
def p0Q:SS:=[o 6 (.mv (.const (.int .u64 1)))]
def k0j:SS:=[mV 16 7,o 17 (bI .add 16 1),mV 7 17]
def v0X:SS:=[mV 60 5,cA 61 l0w [t 60],mV 4 61]
def E0R:SF:=⟨2,62,[.tmp 4],
 (qS (gR C0F) (qS (gR C0G) (qS (gR C0H) (qS (qS (gR C0I) (.block 0 (.loop (qS (qS (gR C0J) (.cond (t 15) .skip (.exit 0))) (qS (.block 1 (qS (gR t0W) (qS (qS (gR t0X) (.cond (t 22) (gR C0K) .skip)) (qS (gR m0T) (.cond (t 36) (qS (gR t0Y) (gR p0O)) (qS (gR p0P) (gR p0Q))))))) (gR k0j)))))) (qS (gR v0X) .ret)))))⟩
def g1g:SS:=[bX 2 a0a 0,bX 3 a0a 1,o 4 (.alloc a0d zR)]
def g1h:SS:=[lA 8 2 2,lA 9 2 3,cA 10 s0P [t 8,t 9],mV 7 10,eX 11 7 0,eX 12 7 1,o 5 (.alloc a0d zR),sT 4 5 11,mV 6 12]
def g1i:SS:=[lA 13 4 5,sT 4 4 13]
def t1x:SF:=⟨2,14,[.cell 4 true 4],
 (qS (gR g1g) (qS (gR g1h) (qS (gR g1i) .ret)))⟩
def g1j:SS:=[bX 4 a0a 1,o 6 (.alloc a0a zI)]
def g1k:SS:=[mV 9 2,lN 10 9,mI 11 0]
def g1l:SS:=[o 12 (bT .lss 11 10)]
def g1m:SS:=[iA 13 2 9 11,lA 14 2 13,o 8 (.alloc a0a zI),sT 2 8 14]
def g1n:SS:=[mV 15 0,lA 16 2 4,lA 17 2 8,o 18 (.callv (t 15) [t 16,t 17] true),sT 2 4 18]
def g1o:SS:=[o 19 (bI .add 11 1),mV 11 19]
def g1p:SS:=[lA 20 2 4,sT 2 6 20]
def t1y:SF:=⟨3,21,[.cell 6 true 2],
 (qS (gR g1j) (qS (qS (gR g1k) (.block 0 (.loop (qS (gR g1l) (qS (.cond (t 12) .skip (.exit 0)) (qS (.block 1 (qS (gR g1m) (gR g1n))) (gR g1o))))))) (qS (gR g1p) .ret)))⟩
def C0L:SS:=[bX 2 a0a 0,bX 3 a0a 1,o 4 (.alloc a0a zI)]
def C0M:SS:=[lA 7 2 2,cB 8 g0b [t 7],lA 9 2 3,cA 10 g0b [t 9],mV 5 8,mV 6 10]
def C0N:SS:=[lA 12 2 2,cB 13 d0x [t 12],lA 14 2 3,cA 15 d0x [t 14],o 16 (.bin 1 .eql (t 13) (t 15)),mV 11 16]
def C0O:SS:=[lA 17 2 2,cA 18 d0x [t 17],mV 19 5,mV 20 6,cA 21 y0Q [t 19,t 20],cA 22 g0c [t 18,t 21],sT 2 4 22]
def C0P:SS:=[mV 24 5,mV 25 6,cA 26 q0W [t 24,t 25],o 27 (bI .geq 26 0),mV 23 27]
def C0Q:SS:=[lA 28 2 2,cA 29 d0x [t 28],mV 30 5,mV 31 6,cA 32 w0W [t 30,t 31],cA 33 g0c [t 29,t 32],sT 2 4 33]
def C0R:SS:=[lA 34 2 3,cA 35 d0x [t 34],mV 36 6,mV 37 5,cA 38 w0W [t 36,t 37],cA 39 g0c [t 35,t 38],sT 2 4 39]
def R0I:SF:=⟨2,40,[.cell 4 true 2],
 (qS (gR C0L) (qS (.draw C0M [0,1,0,7,15,31] []) (qS (.block 0 (qS (.draw C0N [0,1,0,7,15,31] []) (.cond (t 11) (qS (gR C0O) .ret) (qS (gR C0P) (.cond (t 23) (qS (gR C0Q) .ret) .skip))))) (qS (gR C0R) .ret))))⟩
def C0S:SS:=[mI 4 0]
def C0T:SS:=[mV 6 0,lN 7 6,mI 8 0]
def g1q:SS:=[o 9 (bT .lss 8 7)]
def C0U:SS:=[mV 10 8,mV 5 10]
def C0V:SS:=[mV 11 1,mV 12 0,mV 13 5,iA 14 2 12 13,lA 15 2 14,o 16 (.callv (t 11) [t 15] true)]
def C0W:SS:=[mV 17 5,mV 4 17]
def g1r:SS:=[o 18 (bI .add 8 1),mV 8 18]
def C0X:SS:=[o 4 (.mv (.const (.int .i64 (-1))))]
def E0S:SF:=⟨2,19,[.tmp 4],
 (qS (gR C0S) (qS (qS (gR C0T) (.block 0 (.loop (qS (gR g1q) (qS (.cond (t 9) .skip (.exit 0)) (qS (.block 1 (qS (gR C0U) (qS (gR C0V) (.cond (t 16) (qS (gR C0W) .ret) .skip)))) (gR g1r))))))) (qS (gR C0X) .ret)))⟩
def C0Y:SS:=[mI 4 0]
def C0Z:SS:=[mV 6 0,lN 7 6,mI 8 0]
def g1s:SS:=[o 9 (bT .lss 8 7)]
def D0a:SS:=[mV 10 8,mV 5 10]
def D0b:SS:=[mV 11 1,mV 12 0,mV 13 5,iA 14 4 12 13,lA 15 4 14,o 16 (.callv (t 11) [t 15] true)]
def D0c:SS:=[mV 17 5,mV 4 17]
def g1t:SS:=[o 18 (bI .add 8 1),mV 8 18]
def D0d:SS:=[o 4 (.mv (.const (.int .i64 (-1))))]
def E0T:SF:=⟨2,19,[.tmp 4],
 (qS (gR C0Y) (qS (qS (gR C0Z) (.block 0 (.loop (qS (gR g1s) (qS (.cond (t 9) .skip (.exit 0)) (qS (.block 1 (qS (gR D0a) (qS (gR D0b) (.cond (t 16) (qS (gR D0c) .ret) .skip)))) (gR g1t))))))) (qS (gR D0d) .ret)))⟩
def g1C:SS:=[bX 2 a0a 0,bX 3 a0a 1,o 4 (.alloc a0a zI)]
def g1D:SS:=[lA 5 2 2,cA 6 l0v [t 5],sT 2 2 6]
def g1E:SS:=[lA 7 2 3,cA 8 l0v [t 7],sT 2 3 8]
def g1F:SS:=[fA 9 0 2,lD 10 9,fA 11 0 3,lD 12 11,o 13 (.bin 1 .eql (t 10) (t 12))]
def g1G:SS:=[fA 14 0 2,lD 15 14,fA 16 1 2,lD 17 16,fA 18 1 3,lD 19 18,cB 20 G0K [t 17,t 19],cA 21 x0T [t 15,t 20],sT 2 4 21]
def g1H:SS:=[fA 22 1 2,lD 23 22,fA 24 1 3,lD 25 24,cA 26 r0a [t 23,t 25],o 27 (bI .geq 26 0)]
def g1I:SS:=[fA 28 0 2,lD 29 28,fA 30 1 2,lD 31 30,fA 32 1 3,lD 33 32,cB 34 r0b [t 31,t 33],cA 35 x0T [t 29,t 34],sT 2 4 35]
def g1J:SS:=[fA 36 0 3,lD 37 36,fA 38 1 3,lD 39 38,fA 40 1 2,lD 41 40,cB 42 r0b [t 39,t 41],cA 43 x0T [t 37,t 42],sT 2 4 43]
def t1z:SF:=⟨2,44,[.cell 4 true 2],
 (qS (gR g1C) (qS (gR g1D) (qS (gR g1E) (qS (qS (gR g1F) (.cond (t 13) (qS (.draw g1G [0,1,0,4,0,16,60,127,255] []) .ret) .skip)) (qS (qS (gR g1H) (.cond (t 27) (qS (.draw g1I [0,1,0,4,0,16,60,127,255] []) .ret) .skip)) (qS (.draw g1J [0,1,0,4,0,16,60,127,255] []) .ret))))))⟩
def g1K:SS:=[bX 1 a0a 0,o 2 (.alloc a0a zI)]
def g1L:SS:=[lA 3 2 1,cA 4 l0v [t 3],sT 2 1 4]
def g1M:SS:=[fA 5 0 1,lD 6 5,nT 7 6,fA 8 1 1,lD 9 8,cA 10 x0T [t 7,t 9],sT 2 2 10]
def t1A:SF:=⟨1,11,[.cell 2 true 2],
 (qS (gR g1K) (qS (gR g1L) (qS (gR g1M) .ret)))⟩
def D0g:SS:=[mN 4]
def D0h:SS:=[mV 9 0,lN 10 9,o 11 (bI .add 10 1),o 12 (.mk a0b 4 [.int .u32 0] (i 0) (t 11)),mV 5 12]
def D0i:SS:=[o 6 (.mv (.const (.int .u64 0)))]
def D0j:SS:=[mV 13 0,lN 14 13,mI 15 0]
def u0b:SS:=[o 16 (bT .lss 15 14)]
def D0k:SS:=[iA 17 1 13 15,lD 18 17,mV 8 18]
def D0l:SS:=[mV 19 6,mV 20 8,cV 21 .u64 20,mV 22 1,o 23 (bT .shl 21 22),o 24 (bT .or 19 23),mV 6 24]
def D0m:SS:=[mV 25 5,mV 26 6,cA 27 g0d [t 26],o 28 (.lit a0b [.int .u32 0] 1 [(0,1,t 27)]),o 29 (.app a0b 1 4 (t 25) (t 28)),mV 5 29]
def D0n:SS:=[mV 30 6,o 31 (.bin 0 .shr (t 30) (.const (.int .u64 32))),mV 6 31]
def D0o:SS:=[o 32 (bI .add 15 1),mV 15 32]
def v0Z:SS:=[mV 33 5,mV 34 6,cA 35 g0d [t 34],o 36 (.lit a0b [.int .u32 0] 1 [(0,1,t 35)]),o 37 (.app a0b 1 4 (t 33) (t 36)),mV 4 37]
def R0J:SF:=⟨2,38,[.tmp 4],
 (qS (gR D0g) (qS (gR D0h) (qS (gR D0i) (qS (qS (gR D0j) (.block 0 (.loop (qS (gR u0b) (qS (.cond (t 16) .skip (.exit 0)) (qS (.block 1 (qS (gR D0k) (qS (gR D0l) (qS (gR D0m) (gR D0n))))) (gR D0o))))))) (qS (gR v0Z) .ret)))))⟩
def D0p:SS:=[mB 6 false]
def D0q:SS:=[o 7 (.mv (.const (.int .u64 0)))]
def D0r:SS:=[mV 10 0,lN 11 10,mI 12 0]
def p0S:SS:=[o 13 (bT .lss 12 11)]
def u0c:SS:=[mV 14 12,mV 8 14]
def u0d:SS:=[mV 15 8,mV 16 1,lN 17 16,o 18 (bT .lss 15 17)]
def u0e:SS:=[mV 19 7,mV 20 1,mV 21 8,iA 22 1 20 21,lD 23 22,cV 24 .u64 23,mV 25 2,o 26 (bT .mul 24 25),o 27 (bT .add 19 26),mV 7 27]
def u0f:SS:=[mV 28 0,mV 29 8,iA 30 1 28 29,lD 31 30,cV 32 .u64 31,mV 33 7,o 34 (.bin 0 .and (t 33) (.const (.int .u64 4294967295))),o 35 (bT .sub 32 34),mV 9 35]
def u0g:SS:=[mV 36 0,mV 37 8,mV 38 9,cA 39 g0d [t 38],iA 40 1 36 37,sT 1 40 39]
def u0h:SS:=[mV 41 7,o 42 (.bin 0 .shr (t 41) (.const (.int .u64 32))),mV 43 9,o 44 (.bin 0 .shr (t 43) (.const (.int .u64 63))),o 45 (bT .add 42 44),mV 7 45]
def p0R:SS:=[o 46 (bI .add 12 1),mV 12 46]
def w0a:SS:=[mV 47 7,o 48 (.bin 0 .neq (t 47) (.const (.int .u64 0))),mV 6 48]
def R0K:SF:=⟨3,49,[.tmp 6],
 (qS (gR D0p) (qS (gR D0q) (qS (qS (gR D0r) (.block 0 (.loop (qS (gR p0S) (qS (.cond (t 13) .skip (.exit 0)) (qS (.block 1 (qS (gR u0c) (qS (qS (gR u0d) (.cond (t 18) (gR u0e) .skip)) (qS (gR u0f) (qS (gR u0g) (gR u0h)))))) (gR p0R))))))) (qS (gR w0a) .ret))))⟩
def D0s:SS:=[o 4 (.mv (.const (.int .u64 0)))]
def D0t:SS:=[mV 6 0,lN 7 6,mI 8 0]
def p0T:SS:=[o 9 (bT .lss 8 7)]
def u0i:SS:=[mV 10 8,mV 5 10]
def u0j:SS:=[mV 11 4,mV 12 0,mV 13 5,iA 14 1 12 13,lD 15 14,cV 16 .u64 15,o 17 (bT .add 11 16),mV 4 17]
def u0k:SS:=[mV 18 5,mV 19 1,lN 20 19,o 21 (bT .lss 18 20)]
def u0l:SS:=[mV 22 4,mV 23 1,mV 24 5,iA 25 1 23 24,lD 26 25,cV 27 .u64 26,o 28 (bT .add 22 27),mV 4 28]
def u0m:SS:=[mV 29 0,mV 30 5,mV 31 4,cA 32 g0d [t 31],iA 33 1 29 30,sT 1 33 32]
def u0n:SS:=[mV 34 4,o 35 (.bin 0 .shr (t 34) (.const (.int .u64 32))),mV 4 35]
def u0o:SS:=[o 36 (bI .add 8 1),mV 8 36]
def R0L:SF:=⟨2,37,[],
 (qS (gR D0s) (qS (gR D0t) (.block 0 (.loop (qS (gR p0T) (qS (.cond (t 9) .skip (.exit 0)) (qS (.block 1 (qS (gR u0i) (qS (gR u0j) (qS (qS (gR u0k) (.cond (t 21) (gR u0l) .skip)) (qS (gR u0m) (gR u0n)))))) (gR u0o))))))))⟩
def D0u:SS:=[mN 4]
def D0v:SS:=[mV 8 0,lN 9 8,o 10 (.mk a0b 4 [.int .u32 0] (t 9) (t 9)),mV 5 10]
def D0w:SS:=[mV 11 0,lN 12 11,mI 13 0]
def p0U:SS:=[o 14 (bT .lss 13 12)]
def u0p:SS:=[mV 15 13,mV 6 15]
def u0q:SS:=[mV 16 0,mV 17 6,iA 18 1 16 17,lD 19 18,cV 20 .u64 19,mV 7 20]
def u0r:SS:=[mV 21 6,o 22 (bI .add 21 1),mV 23 0,lN 24 23,o 25 (bT .lss 22 24)]
def u0s:SS:=[mV 26 7,mV 27 0,mV 28 6,o 29 (bI .add 28 1),iA 30 1 27 29,lD 31 30,cV 32 .u64 31,o 33 (.bin 0 .shl (t 32) (.const (.int .u64 32))),o 34 (bT .or 26 33),mV 7 34]
def u0t:SS:=[mV 35 5,mV 36 6,mV 37 7,mV 38 1,o 39 (bT .shr 37 38),cA 40 g0d [t 39],iA 41 1 35 36,sT 1 41 40]
def u0u:SS:=[o 42 (bI .add 13 1),mV 13 42]
def w0b:SS:=[mV 43 5,mV 4 43]
def R0M:SF:=⟨2,44,[.tmp 4],
 (qS (gR D0u) (qS (gR D0v) (qS (qS (gR D0w) (.block 0 (.loop (qS (gR p0U) (qS (.cond (t 14) .skip (.exit 0)) (qS (.block 1 (qS (gR u0p) (qS (gR u0q) (qS (qS (gR u0r) (.cond (t 25) (gR u0s) .skip)) (gR u0t))))) (gR u0u))))))) (qS (gR w0b) .ret))))⟩
def j1v:SS:=[bX 2 a0a 0,bX 3 a0a 1,o 4 (.alloc a0d zR),mI 5 0]
def j1w:SS:=[lA 7 2 3,cA 8 X0b [t 7]]
def j1x:SS:=[o 9 (.build zR []),sT 4 4 9,mI 5 11]
def j1y:SS:=[lA 10 2 2,lA 11 2 3,cA 12 F0A [t 10,t 11],o 6 (.alloc a0a zI),sT 2 6 12]
def j1z:SS:=[lA 13 2 3,o 14 (.build zI []),cA 15 F0z [t 13,t 14],o 16 (bI .lss 15 0)]
def j1A:SS:=[lA 17 2 6,cA 18 n0E [t 17],sT 2 6 18]
def j1B:SS:=[lA 20 2 2,lA 21 2 6,cA 22 m0o [t 20,t 21],mV 19 22,eX 23 19 0,eX 24 19 1,eX 25 19 2,sT 2 2 23]
def j1C:SS:=[lA 27 2 3,lA 28 2 6,cA 29 m0o [t 27,t 28],mV 26 29,eX 30 26 0,eX 31 26 1,eX 32 26 2,sT 2 3 30]
def j1D:SS:=[lA 33 2 2,lA 34 2 3,o 35 (.build zR [(0,2,t 33),(2,2,t 34)]),sT 4 4 35,mI 5 0]
def t1B:SF:=⟨2,36,[.cell 4 true 4,.tmp 5],
 (qS (gR j1v) (qS (qS (gR j1w) (.cond (t 8) (qS (gR j1x) .ret) .skip)) (qS (gR j1y) (qS (qS (gR j1z) (.cond (t 16) (gR j1A) .skip)) (qS (gR j1B) (qS (gR j1C) (qS (gR j1D) .ret)))))))⟩
def D0x:SS:=[mN 4]
def D0y:SS:=[mV 9 0,lN 10 9,mV 11 1,lN 12 11,o 13 (bT .lss 10 12)]
def D0z:SS:=[mV 14 1,mV 15 0,mV 0 14,mV 1 15]
def D0A:SS:=[mV 16 0,lN 17 16,o 18 (bI .add 17 1),o 19 (.mk a0b 4 [.int .u32 0] (i 0) (t 18)),mV 5 19]
def D0B:SS:=[o 6 (.mv (.const (.int .u64 0)))]
def D0C:SS:=[mV 20 0,lN 21 20,mI 22 0]
def p0Z:SS:=[o 23 (bT .lss 22 21)]
def u0v:SS:=[mV 24 22,iA 25 1 20 22,lD 26 25,mV 7 24,mV 8 26]
def u0w:SS:=[mV 27 6,mV 28 8,cV 29 .u64 28,o 30 (bT .add 27 29),mV 6 30]
def u0x:SS:=[mV 31 7,mV 32 1,lN 33 32,o 34 (bT .lss 31 33)]
def p0V:SS:=[mV 35 6,mV 36 1,mV 37 7,iA 38 1 36 37,lD 39 38,cV 40 .u64 39,o 41 (bT .add 35 40),mV 6 41]
def p0W:SS:=[mV 42 5,mV 43 6,cA 44 g0d [t 43],o 45 (.lit a0b [.int .u32 0] 1 [(0,1,t 44)]),o 46 (.app a0b 1 4 (t 42) (t 45)),mV 5 46]
def p0X:SS:=[mV 47 6,o 48 (.bin 0 .shr (t 47) (.const (.int .u64 32))),mV 6 48]
def p0Y:SS:=[o 49 (bI .add 22 1),mV 22 49]
def w0c:SS:=[mV 50 5,mV 51 6,cA 52 g0d [t 51],o 53 (.lit a0b [.int .u32 0] 1 [(0,1,t 52)]),o 54 (.app a0b 1 4 (t 50) (t 53)),mV 4 54]
def R0N:SF:=⟨2,55,[.tmp 4],
 (qS (gR D0x) (qS (qS (gR D0y) (.cond (t 13) (gR D0z) .skip)) (qS (gR D0A) (qS (gR D0B) (qS (qS (gR D0C) (.block 0 (.loop (qS (gR p0Z) (qS (.cond (t 23) .skip (.exit 0)) (qS (.block 1 (qS (gR u0v) (qS (gR u0w) (qS (qS (gR u0x) (.cond (t 34) (gR p0V) .skip)) (qS (gR p0W) (gR p0X)))))) (gR p0Y))))))) (qS (gR w0c) .ret))))))⟩
def D0D:SS:=[mN 4]
def D0E:SS:=[mV 11 0,lN 12 11,o 13 (.mk a0b 4 [.int .u32 0] (i 0) (t 12)),mV 5 13]
def D0F:SS:=[o 6 (.mv (.const (.int .u64 0)))]
def D0G:SS:=[mV 14 0,lN 15 14,mI 16 0]
def q0d:SS:=[o 17 (bT .lss 16 15)]
def u0y:SS:=[mV 18 16,iA 19 1 14 16,lD 20 19,mV 7 18,mV 8 20]
def u0z:SS:=[mV 21 6,mV 9 21]
def u0A:SS:=[mV 22 7,mV 23 1,lN 24 23,o 25 (bT .lss 22 24)]
def u0B:SS:=[mV 26 9,mV 27 1,mV 28 7,iA 29 1 27 28,lD 30 29,cV 31 .u64 30,o 32 (bT .add 26 31),mV 9 32]
def u0C:SS:=[mV 33 8,cV 34 .u64 33,mV 35 9,o 36 (bT .sub 34 35),mV 10 36]
def q0a:SS:=[mV 37 5,mV 38 10,cA 39 g0d [t 38],o 40 (.lit a0b [.int .u32 0] 1 [(0,1,t 39)]),o 41 (.app a0b 1 4 (t 37) (t 40)),mV 5 41]
def q0b:SS:=[mV 42 10,o 43 (.bin 0 .shr (t 42) (.const (.int .u64 63))),mV 6 43]
def q0c:SS:=[o 44 (bI .add 16 1),mV 16 44]
def w0d:SS:=[mV 45 5,mV 4 45]
def R0O:SF:=⟨2,46,[.tmp 4],
 (qS (gR D0D) (qS (gR D0E) (qS (gR D0F) (qS (qS (gR D0G) (.block 0 (.loop (qS (gR q0d) (qS (.cond (t 17) .skip (.exit 0)) (qS (.block 1 (qS (gR u0y) (qS (gR u0z) (qS (qS (gR u0A) (.cond (t 25) (gR u0B) .skip)) (qS (gR u0C) (qS (gR q0a) (gR q0b))))))) (gR q0c))))))) (qS (gR w0d) .ret)))))⟩
def j1E:SS:=[mN 4]
def j1F:SS:=[mN 5]
def j1G:SS:=[o 6 (.mv (.const (.int .u64 0)))]
def j1H:SS:=[mI 7 0]
def j1I:SS:=[mV 9 7,mV 10 0,lN 11 10,o 12 (bT .lss 9 11),mV 13 12,gF 14 13 (mS 7),gF 15 13 (mS 1),gF 16 13 (nS 15),gF 17 13 (bT .lss 14 16),pT 18 13 17,mV 19 18,gF 20 19 (mS 6),gF 21 19 (.bin 0 .gtr (t 20) (.const (.int .u64 0))),pT 22 19 21]
def j1J:SS:=[mV 25 6,mV 8 25]
def j1K:SS:=[mV 26 7,mV 27 0,lN 28 27,o 29 (bT .lss 26 28)]
def j1L:SS:=[mV 30 8,mV 31 0,mV 32 7,iA 33 1 31 32,lD 34 33,cV 35 .u64 34,o 36 (bT .add 30 35),mV 8 36]
def j1M:SS:=[mV 37 7,mV 38 1,lN 39 38,o 40 (bT .lss 37 39)]
def j1N:SS:=[mV 41 8,mV 42 1,mV 43 7,iA 44 1 42 43,lD 45 44,cV 46 .u64 45,o 47 (bT .add 41 46),mV 8 47]
def O0d:SS:=[mV 48 5,mV 49 8,cV 50 .u32 49,o 51 (.lit a0b [.int .u32 0] 1 [(0,1,t 50)]),o 52 (.app a0b 1 4 (t 48) (t 51)),mV 5 52]
def O0e:SS:=[mV 53 8,o 54 (.bin 0 .shr (t 53) (.const (.int .u64 32))),mV 6 54]
def O0f:SS:=[mV 23 7,o 24 (bI .add 23 1),mV 7 24]
def O0g:SS:=[mV 55 5,cA 56 l0w [t 55],mV 4 56]
def t1C:SF:=⟨2,57,[.tmp 4],
 (qS (gR j1E) (qS (gR j1F) (qS (gR j1G) (qS (qS (gR j1H) (.block 0 (.loop (qS (qS (gR j1I) (.cond (t 22) .skip (.exit 0))) (qS (.block 1 (qS (gR j1J) (qS (qS (gR j1K) (.cond (t 29) (gR j1L) .skip)) (qS (qS (gR j1M) (.cond (t 40) (gR j1N) .skip)) (qS (gR O0d) (gR O0e)))))) (gR O0f)))))) (qS (gR O0g) .ret)))))⟩
def D0M:SS:=[bX 1 a0a 0,o 2 (.alloc a0a zI)]
def D0N:SS:=[lA 3 2 1,cB 4 d0x [t 3],nT 5 4,lA 6 2 1,cA 7 g0b [t 6],cA 8 g0c [t 5,t 7],sT 2 2 8]
def R0P:SF:=⟨1,9,[.cell 2 true 2],
 (qS (gR D0M) (qS (.draw D0N [0,1,3,0,11,31,63] []) .ret))⟩
def D0U:SS:=[bX 2 a0a 0,bX 3 a0a 1,o 4 (.alloc a0a zI)]
def D0V:SS:=[lA 5 2 2,lA 6 2 3,cB 7 n0E [t 6],cA 8 m0q [t 5,t 7],sT 2 4 8]
def R0Q:SF:=⟨2,9,[.cell 4 true 2],
 (qS (gR D0U) (qS (.draw D0V [0,0,2,7,15] []) .ret))⟩
def D0W:SS:=[bX 1 a0a 0,mI 2 0,mB 3 false]
def D0X:SS:=[lA 8 2 1,cA 9 g0b [t 8],mV 4 9]
def D0Y:SS:=[mV 10 4,lN 11 10,o 12 (bI .gtr 11 2)]
def D0Z:SS:=[mI 2 0,mB 3 false]
def E0a:SS:=[o 5 (.mv (.const (.int .u64 0)))]
def E0b:SS:=[mV 13 4,lN 14 13,mI 15 0]
def r1j:SS:=[o 16 (bT .lss 15 14)]
def E0c:SS:=[mV 17 15,iA 18 1 13 15,lD 19 18,mV 6 17,mV 7 19]
def E0d:SS:=[mV 20 5,mV 21 7,cV 22 .u64 21,mV 23 6,o 24 (.bin 0 .mul (i 32) (t 23)),o 25 (bT .shl 22 24),o 26 (bT .or 20 25),mV 5 26]
def r1k:SS:=[o 27 (bI .add 15 1),mV 15 27]
def w0f:SS:=[lA 29 2 1,cA 30 d0x [t 29],mV 31 30,gT 32 31 (mS 5),gT 33 31 (.bin 0 .leq (t 32) (.const (.int .u64 9223372036854775808))),pF 34 31 33,mV 28 34]
def w0g:SS:=[mV 35 5,o 36 (.un .neg (t 35)),cV 37 .i64 36,mV 2 37,mB 3 true]
def q0e:SS:=[lA 39 2 1,cA 40 d0x [t 39],nT 41 40,mV 42 41,gT 43 42 (mS 5),gT 44 42 (.bin 0 .lss (t 43) (.const (.int .u64 9223372036854775808))),pF 45 42 44,mV 38 45]
def w0h:SS:=[mV 46 5,cV 47 .i64 46,mV 2 47,mB 3 true]
def q0f:SS:=[mI 2 0,mB 3 false]
def R0R:SF:=⟨1,48,[.tmp 2,.tmp 3],
 (qS (gR D0W) (qS (gR D0X) (qS (qS (gR D0Y) (.cond (t 12) (qS (gR D0Z) .ret) .skip)) (qS (gR E0a) (qS (qS (gR E0b) (.block 0 (.loop (qS (gR r1j) (qS (.cond (t 16) .skip (.exit 0)) (qS (.block 1 (qS (gR E0c) (gR E0d))) (gR r1k))))))) (qS (.block 2 (qS (gR w0f) (.cond (t 28) (qS (gR w0g) .ret) (qS (gR q0e) (.cond (t 38) (qS (gR w0h) .ret) .skip))))) (qS (gR q0f) .ret)))))))⟩
def y0q:List (Nat × n0v):=[
 (f_5,s_5),
 (m0q,R0I),
 (y0Z,R0Q),
 (n0E,R0P),
 (j0P,R0x),
 (x0c,R0R),
 (F0A,G1O),
 (m0o,R0w),
 (h0Q,R0A),
 (X0a,G1K),
 (H0d,G1G),
 (X0b,G1M),
 (s0M,R0r),
 (s0L,R0q),
 (w0R,R0z),
 (u1k,G1A),
 (G1a,K1v),
 (G1b,K1w),
 (v1y,G1B),
 (v1z,G1C),
 (v1A,G1D),
 (v1C,G1E),
 (W0E,D1Z),
 (V0T,C1u),
 (u1l,K1x),
 (g0b,R0u),
 (d0x,R0s),
 (y0Q,R0N),
 (g0c,R0v),
 (q0W,R0t),
 (w0W,R0O),
 (g0d,R0G),
 (y0H,R0E),
 (y0I,R0F),
 (z0a,G1L),
 (S0n,E1X),
 (F0z,G1N),
 (j0Q,E0Q),
 (v1H,G1F),
 (G1c,K1z),
 (v1I,K1A),
 (J1h,L1j),
 (v1J,G1H),
 (G1d,K1B),
 (v1G,K1y),
 (W0Y,G1I),
 (W0Z,G1J),
 (S0l,E1V),
 (S0m,E1W),
 (s0Y,K1C),
 (y0G,R0D),
 (y0E,R0B),
 (y0F,R0C),
 (w0V,R0J),
 (y0N,R0K),
 (y0O,R0L),
 (y0P,R0M),
 (G1j,K1E),
 (v1K,G1P),
 (F0B,E1Y),
 (z0b,K1F),
 (v1L,K1G),
 (H0e,K1H),
 (v1M,K1I),
 (x0T,E1Z),
 (G1i,K1D),
 (X0c,G1Q),
 (u1n,G1R),
 (S0o,u1v),
 (S0p,u1w),
 (S0q,F1a),
 (q0T,t1p),
 (l0v,E0K),
 (y0z,R0y),
 (q0X,t1r),
 (y0A,t1s),
 (G0u,t1t),
 (j0t,t1u),
 (G0v,t1v),
 (l0w,E0L),
 (y0y,t1q),
 (m0p,x0E),
 (w0P,E0P),
 (s0N,E0O),
 (G0w,t1w),
 (W0d,C1M),
 (r0a,u0F),
 (y0J,R0H),
 (r0b,E0R),
 (G0F,t1y),
 (y0K,t1x),
 (w0N,E0M),
 (w0O,E0N),
 (w0T,E0T),
 (y0L,t1A),
 (r0c,t1z),
 (s0P,t1B),
 (w0S,E0S),
 (G0K,t1C)]
def env:Env:=⟨fun f=>y0q.lookup f,none,fun _ _ _ _=>none⟩
theorem e_5:env.code f_5=some s_5:=rfl
theorem I1t:env.code m0q=some R0I:=rfl
theorem I1D:env.code y0Z=some R0Q:=rfl
theorem I1C:env.code n0E=some R0P:=rfl
theorem H1Y:env.code j0P=some R0x:=rfl
theorem I1E:env.code x0c=some R0R:=rfl
theorem M1l:env.code F0A=some G1O:=rfl
theorem H1X:env.code m0o=some R0w:=rfl
theorem I1j:env.code h0Q=some R0A:=rfl
theorem M1h:env.code X0a=some G1K:=rfl
theorem M1b:env.code H0d=some G1G:=rfl
theorem M1j:env.code X0b=some G1M:=rfl
theorem H1S:env.code s0M=some R0r:=rfl
theorem H1R:env.code s0L=some R0q:=rfl
theorem I1h:env.code w0R=some R0z:=rfl
theorem L1U:env.code u1k=some G1A:=rfl
theorem L1V:env.code v1y=some G1B:=rfl
theorem L1W:env.code v1z=some G1C:=rfl
theorem L1X:env.code v1A=some G1D:=rfl
theorem L1Y:env.code v1C=some G1E:=rfl
theorem L1Z:env.code W0E=some D1Z:=rfl
theorem L1T:env.code V0T=some C1u:=rfl
theorem H1V:env.code g0b=some R0u:=rfl
theorem H1T:env.code d0x=some R0s:=rfl
theorem I1A:env.code y0Q=some R0N:=rfl
theorem H1W:env.code g0c=some R0v:=rfl
theorem H1U:env.code q0W=some R0t:=rfl
theorem I1B:env.code w0W=some R0O:=rfl
theorem I1p:env.code g0d=some R0G:=rfl
theorem I1n:env.code y0H=some R0E:=rfl
theorem I1o:env.code y0I=some R0F:=rfl
theorem M1i:env.code z0a=some G1L:=rfl
theorem M1m:env.code S0n=some E1X:=rfl
theorem M1k:env.code F0z=some G1N:=rfl
theorem I1i:env.code j0Q=some E0Q:=rfl
theorem M1a:env.code v1H=some G1F:=rfl
theorem M1c:env.code v1J=some G1H:=rfl
theorem M1d:env.code W0Y=some G1I:=rfl
theorem M1e:env.code W0Z=some G1J:=rfl
theorem M1f:env.code S0l=some E1V:=rfl
theorem M1g:env.code S0m=some E1W:=rfl
theorem I1m:env.code y0G=some R0D:=rfl
theorem I1k:env.code y0E=some R0B:=rfl
theorem I1l:env.code y0F=some R0C:=rfl
theorem I1w:env.code w0V=some R0J:=rfl
theorem I1x:env.code y0N=some R0K:=rfl
theorem I1y:env.code y0O=some R0L:=rfl
theorem I1z:env.code y0P=some R0M:=rfl
theorem M1n:env.code v1K=some G1P:=rfl
theorem M1o:env.code F0B=some E1Y:=rfl
theorem M1p:env.code x0T=some E1Z:=rfl
theorem M1q:env.code X0c=some G1Q:=rfl
theorem M1r:env.code u1n=some G1R:=rfl
theorem M1s:env.code S0o=some u1v:=rfl
theorem M1t:env.code S0p=some u1w:=rfl
theorem M1u:env.code S0q=some F1a:=rfl
theorem H1Z:env.code l0v=some E0K:=rfl
theorem I1a:env.code y0z=some R0y:=rfl
theorem I1b:env.code l0w=some E0L:=rfl
theorem I1c:env.code m0p=some x0E:=rfl
theorem I1g:env.code w0P=some E0P:=rfl
theorem I1f:env.code s0N=some E0O:=rfl
theorem I1q:env.code r0a=some u0F:=rfl
theorem I1r:env.code y0J=some R0H:=rfl
theorem I1s:env.code r0b=some E0R:=rfl
theorem I1d:env.code w0N=some E0M:=rfl
theorem I1e:env.code w0O=some E0N:=rfl
theorem I1v:env.code w0T=some E0T:=rfl
theorem I1u:env.code w0S=some E0S:=rfl
end
section
variable {E:Env} {fl:Nat} {t:a0U} {H G:a0c} {K:n0z} {R:a0P}
def Sl (H:a0c) (e sz:Nat) (v:Value) (n:Nat) (cs:List Value):Prop :=
 cs.length=n * sz/\((v=.slice none 0 0/\n=0) ∨
  ∃ b off cap ro cells,v=.slice (some ⟨b,off,none⟩) n cap/\H.bk b=.row ro e cells/\off + n * sz<=cells.length/\cs=(cells.drop off).take (n * sz))
variable {e sz n:Nat} {v:Value} {cs:List Value}
theorem Sl.mo (h:Sl H e sz v n cs) (s:Ext H G):Sl G e sz v n cs:=by
 obtain ⟨r,h⟩:=h
 refine ⟨r,?_⟩
 rcases h with h | ⟨b,off,cap,ro,cells,c,j,k,q⟩
 ·exact .inl h
 ·exact .inr ⟨b,off,cap,ro,cells,c,s.bk j,k,q⟩
theorem Sl.nil:Sl H e sz (.slice none 0 0) 0 []:=⟨by simp,.inl ⟨rfl,rfl⟩⟩
theorem Sl.slen (h:Sl H e sz v n cs):i0q v=some (.int .i64 n):=by
 obtain ⟨_,⟨rfl,rfl⟩ | ⟨b,off,cap,ro,cells,rfl,_⟩⟩:=h <;> simp [i0q]
theorem Sl.ia (h:Sl H e sz v n cs) {k:IntKind} {j:Nat} (c:j < n):iaV sz v (.int k j)=some (adr sz v j):=by
 obtain ⟨_,⟨rfl,rfl⟩ | ⟨b,off,cap,ro,cells,rfl,_⟩⟩:=h
 ·omega
 ·simp only [iaV,adr];rw [M1Z (by omega)];simp
theorem Sl.iaZ (h:Sl H e sz v n cs) {k:IntKind} {z:Int} (c:0<=z) (q:z < n):iaV sz v (.int k z)=some (adr sz v z.toNat):=by
 have:=h.ia (k:=k) (j:=z.toNat) (by omega)
 rwa [P1c c] at this
theorem Sl.load (h:Sl H e sz v n cs) (q:Ext H G) {j:Nat} (k:j < n) (hs:0 < sz):b0w G true sz (adr sz v j)=some (.agg ((cs.drop (j * sz)).take sz).toArray):=by
 obtain ⟨r,⟨rfl,rfl⟩ | ⟨b,off,cap,ro,cells,rfl,hb,ho,rfl⟩⟩:=h
 ·omega
 ·have c:(j + 1) * sz<=n * sz:=N1e sz k
  rw [N1t,O1e] at c
  have hc:=i0x (off:=off + j * sz) (n:=sz) (q.bk hb) (by omega)
  simp only [adr,b0w]
  rw [M1V (by omega),M1V (by simp)]
  simp only [N1E,hc]
  rw [O1q,O1r,O1p,N1J (by omega)]
theorem Sl.load1 (h:Sl H e 1 v n cs) (c:Ext H G) {j:Nat} (k:j < n):b0w G false 1 (adr 1 v j)=some (cs.getD j undef):=by
 obtain ⟨q,⟨rfl,rfl⟩ | ⟨b,off,cap,ro,cells,rfl,hb,ho,rfl⟩⟩:=h
 ·omega
 ·have hc:=i0x (off:=off + j * 1) (n:=1) (c.bk hb) (by omega)
  simp only [adr,b0w]
  rw [M1V (by simp),M1V (by simp)]
  simp only [hc,N1g,N1G]
  rw [List.head?_take,M1V (by simp),List.head?_drop,M1R,O1O,M1Z (by omega),O1A]
  simp only [N1W] at ho ⊢
  rw [M1X (by omega)]
  rfl
theorem Sl.elemOk (h:Sl H e sz v n cs) {G:a0c} (c:Ext H G):AI.elemOk G e v=true:=by
 obtain ⟨j,⟨rfl,rfl⟩ | ⟨b,off,cap,ro,cells,rfl,hb,ho,rfl⟩⟩:=h
 ·rfl
 ·unfold AI.elemOk
  simp only [c.bk hb]
  cases ro <;> simp
theorem Sl.cells (h:Sl H e sz v n cs):a0t v=[v]:=by
 obtain ⟨c,⟨rfl,rfl⟩ | ⟨b,off,cap,ro,cells,rfl,hb,ho,rfl⟩⟩:=h <;> rfl
theorem Sl.plain (h:Sl H e sz v n cs):a0n v=true:=by
 obtain ⟨c,⟨rfl,rfl⟩ | ⟨b,off,cap,ro,cells,rfl,hb,ho,rfl⟩⟩:=h <;> rfl
theorem Sl.slice (h:Sl H e sz v n cs) {lo hi:Nat} (r:lo<=hi) (c:hi<=n) {x y:Option Value} (k:bnd 0 x=some lo) (q:bnd n y=some hi) :
  ∃ v',d0s sz v x y none=some v'/\Sl H e sz v' (hi - lo) ((cs.drop (lo * sz)).take ((hi - lo) * sz)):=by
 obtain ⟨s,⟨rfl,rfl⟩ | ⟨b,off,cap,ro,cells,rfl,hb,ho,rfl⟩⟩:=h
 ·have:lo=0:=by omega
  have:hi=0:=by omega
  subst lo hi
  refine ⟨.slice none 0 0,?_,by simp,.inl ⟨rfl,rfl⟩⟩
  unfold d0s;simp [k,q];intro h;exact N1i h (by decide)
 ·refine ⟨_,by unfold d0s;simp only [k,q];rw [M1Z ⟨r,c⟩];rfl,?_,.inr ⟨b,off + lo * sz,_,ro,cells,rfl,hb,?_,?_⟩⟩
  ·simp only [N1Z,List.length_drop]
   have j:(hi - lo) * sz + lo * sz=hi * sz:=by rw [<- N1t];congr 1;omega
   have e2:hi * sz<=n * sz:=N1e sz c
   omega
  ·have j:(hi - lo) * sz + lo * sz=hi * sz:=by rw [<- N1t];congr 1;omega
   have e2:hi * sz<=n * sz:=N1e sz c
   omega
  ·have j:(hi - lo) * sz + lo * sz=hi * sz:=by rw [<- N1t];congr 1;omega
   have e2:hi * sz<=n * sz:=N1e sz c
   rw [O1q,O1r,O1p,N1J (by omega)]
theorem Sl.setT (h:Sl H e sz v n cs) {p:Nat} {ro:Bool} {q:TypeId} {j:List Value} {r:Blk} (hb:H.bk p=.row ro q j) (k:q ≠ e):Sl (H.setIfInBounds p r) e sz v n cs:=by
 obtain ⟨s,h | ⟨b,off,cap,ro,cells,rfl,c,ho,rfl⟩⟩:=h
 ·exact ⟨s,.inl h⟩
 ·refine ⟨s,.inr ⟨b,off,cap,ro,cells,rfl,?_,ho,rfl⟩⟩
  rw [a0Y];exact c
  rintro rfl
  rw [c] at hb;cases hb;exact k rfl
def b0C (l:List Nat):List Value:=l.map fun x=>.int .u32 (x:Nat)
@[simp] theorem m0t {l:List Nat}:(b0C l).length=l.length:=by simp [b0C]
def Lim (H:a0c) (v:Value) (l:List Nat):Prop:=Sl H a0b 1 v l.length (b0C l)/\∀ x ∈ l,x < 4294967296
variable {l:List Nat}
theorem Lim.mo (h:Lim H v l) (c:Ext H G):Lim G v l:=⟨h.1.mo c,h.2⟩
theorem Lim.nil:Lim H (.slice none 0 0) []:=⟨Sl.nil,by simp⟩
theorem Lim.slen (h:Lim H v l):i0q v=some (.int .i64 l.length):=h.1.slen
theorem Lim.ia (h:Lim H v l) {k:IntKind} {j:Nat} (c:j < l.length):iaV 1 v (.int k j)=some (adr 1 v j):=h.1.ia c
theorem Lim.iaZ (h:Lim H v l) {k:IntKind} {z:Int} (c:0<=z) (j:z < l.length):iaV 1 v (.int k z)=some (adr 1 v z.toNat):=h.1.iaZ c j
theorem Lim.load (h:Lim H v l) {j:Nat} (c:j < l.length) {G:a0c} (k:Ext H G):b0w G false 1 (adr 1 v j)=some (.int .u32 (l.getD j 0)):=by
 rw [h.1.load1 k c]
 simp [b0C,M1R,N1Q,c]
theorem Lim.setT (h:Lim H v l) {p:Nat} {ro:Bool} {k:TypeId} {c:List Value} {r:Blk} (hb:H.bk p=.row ro k c) (j:k ≠ a0b):Lim (H.setIfInBounds p r) v l:=⟨h.1.setT hb j,h.2⟩
theorem Lim.elemOk (h:Lim H v l) {G:a0c} (c:Ext H G):AI.elemOk G a0b v=true:=h.1.elemOk c
theorem Lim.cells (h:Lim H v l):a0t v=[v]:=h.1.cells
theorem Lim.plain (h:Lim H v l):a0n v=true:=h.1.plain
theorem Lim.take (h:Lim H v l) {k:Nat} (r:k<=l.length) {x:Option Value} (c:bnd 0 x=some 0) {y:Option Value} (s:bnd l.length y=some k):∃ v',d0s 1 v x y none=some v'/\Lim H v' (l.take k):=by
 obtain ⟨v',j,q⟩:=h.1.slice (N1K k) r c s
 refine ⟨v',j,?_,fun x c=>h.2 x (O1n c)⟩
 have:(l.take k).length=k:=by simp;omega
 rw [this]
 simpa [b0C,List.map_take] using q
def c0m (H:a0c) (v:Value) (i:Bool × List Nat):Prop:=∃ s,v=.agg #[.bool i.1,s]/\Lim H s i.2
theorem c0m.mo {i:Bool × List Nat} (h:c0m H v i) (k:Ext H G):c0m G v i:=by obtain ⟨s,c,j⟩:=h;exact ⟨s,c,j.mo k⟩
def rd:Blk->Nat->Option Value
 | .row _ _ cs,o=>cs[o]?
 | .dead,_=>none
def rdn:Blk->Nat->Nat->Option Value
 | .row _ _ cs,o,n=>if o + n<=cs.length then some (.agg ((cs.drop o).take n).toArray) else none
 | .dead,_,_=>none
@[simp] theorem B1X {ro:Bool} {e:TypeId} {cs:List Value} {o:Nat}:rd (.row ro e cs) o=cs[o]?:=nr rfl
@[simp] theorem t1o {ro:Bool} {e:TypeId} {cs:List Value} {o n:Nat}:rdn (.row ro e cs) o n=if o + n<=cs.length then some (.agg ((cs.drop o).take n).toArray) else none:=nr rfl
theorem z0p {b o:Nat}:b0w G false 1 (.pointer (some ⟨b,o,none⟩))=rd (G.bk b) o:=by
 simp only [b0w]
 rw [M1V (by simp),M1V (by simp)]
 unfold a0c.cells?
 cases G.bk b with
 | dead=>rfl
 | row ro e cs =>
  simp only [N1g,N1G,rd]
  by_cases h:o + 1<=cs.length
  ·rw [M1Z h];simp only [List.head?_take];rw [M1V (by simp),List.head?_drop]
  ·rw [M1V h,N1d (by omega)]
theorem x0j {b o n:Nat} (c:0 < n):b0w G true n (.pointer (some ⟨b,o,none⟩))=rdn (G.bk b) o n:=by
 simp only [b0w]
 rw [M1V (by omega),M1V (by simp)]
 unfold a0c.cells?
 cases G.bk b with
 | dead=>rfl
 | row ro e cs =>
  simp only [N1E,rdn]
  split <;> simp_all
def wr (G:a0c) (b o:Nat) (vs:List Value):Blk->Option a0c
 | .row false e cs=>if o + vs.length<=cs.length then some (G.setIfInBounds b (.row false e (b0e cs o vs))) else none
 | _=>none
@[simp] theorem L1K {b o:Nat} {vs:List Value} {e:TypeId} {cs:List Value}:wr G b o vs (.row false e cs)=if o + vs.length<=cs.length then some (G.setIfInBounds b (.row false e (b0e cs o vs))) else none:=nr rfl
theorem x0G {b o n:Nat} {x:Value} (j:fl<=b) (c:(a0t x).length=n) (hp:(a0t x).all a0n=true) :
  n0l fl G n (.pointer (some ⟨b,o,none⟩)) x=wr G b o (a0t x) (G.bk b):=by
 simp only [n0l]
 rw [M1V (by simp [c])]
 unfold a0c.write? wr
 split
 ·rename_i h;simp only [h];split <;> simp_all
 ·rename_i h;split <;> simp_all
theorem u0H {b o n:Nat} {e:TypeId} {cs:List Value} {x:Value} (h:G.bk b=.row false e cs) (c:fl<=b) (j:(a0t x).length=n) (ho:o + n<=cs.length) (hp:(a0t x).all a0n=true) :
  n0l fl G n (.pointer (some ⟨b,o,none⟩)) x=some (G.setIfInBounds b (.row false e (b0e cs o (a0t x)))):=by
 simp only [n0l]
 rw [M1V (by simp [j])]
 unfold a0c.write?
 simp only [h]
 rw [M1Z ⟨c,by omega,hp⟩]
theorem b0d {x:Int} (c:-9223372036854775808<=x) (h:x < 9223372036854775808):IntKind.i64.wrap x=x:=by
 show (if (true && decide (x % (2 ^ 64:Int) ≥ (2 ^ 63:Int)))=true then x % (2 ^ 64:Int) - (2 ^ 64:Int) else x % (2 ^ 64:Int))=x
 rw [show (2 ^ 64:Int)=18446744073709551616 from rfl,show (2 ^ 63:Int)=9223372036854775808 from rfl]
 simp only [O1H,N1s]
 split <;> omega
theorem a0x {x:Int}:IntKind.u64.wrap x=x % 18446744073709551616:=by
 simp [IntKind.wrap,IntKind.bits,IntKind.signed]
theorem k0R {x:Int}:IntKind.u32.wrap x=x % 4294967296:=by
 simp [IntKind.wrap,IntKind.bits,IntKind.signed]
def x0V (H:a0c) (t:a0U) (rs:List SRes) (P:Value->Prop):Prop:=∃ vs,c0N H t rs=some vs/\P (b0K vs)
theorem R0n {a:Nat} {P:Value->Prop}:x0V H t [.tmp a] P=P (get t a):=by simp [x0V,c0N,q0j,b0K]
theorem E0F {a n:Nat} {g:Bool} {P:Value->Prop}:x0V H t [.cell a g n] P=oo (b0w H g n (get t a)) P:=by
 unfold x0V;simp only [c0N,q0j];cases b0w H g n (get t a) <;> simp [b0K]
theorem R0o {r1 r2:SRes} {P:Value->Prop}:x0V H t [r1,r2] P=oo (q0j H t r1) fun a=>oo (q0j H t r2) fun b=>P (.tuple #[a,b]):=by
 unfold x0V;simp only [c0N];cases q0j H t r1 <;> cases q0j H t r2 <;> simp [b0K]
theorem x0B {r1 r2 h:SRes} {P:Value->Prop}:x0V H t [r1,r2,h] P=oo (q0j H t r1) fun a=>oo (q0j H t r2) fun b=>oo (q0j H t h) fun c=>P (.tuple #[a,b,c]):=by
 unfold x0V;simp only [c0N];cases q0j H t r1 <;> cases q0j H t r2 <;> cases q0j H t h <;> simp [b0K]
theorem R0m {a:Nat}:q0j H t (.tmp a)=some (get t a):=nr rfl
theorem E0E {a n:Nat} {g:Bool}:q0j H t (.cell a g n)=b0w H g n (get t a):=nr rfl
def F1X (P:a0U->a0c->Prop):d0K
 | .exit _,_,_=>False
 | .normal,t,H=>P t H
 | .ret,t,H=>P t H
@[simp] theorem V0G {P:a0U->a0c->Prop}:F1X P .normal t H=P t H:=nr rfl
@[simp] theorem F1Y {P:a0U->a0c->Prop}:F1X P .ret t H=P t H:=nr rfl
theorem a0i {f:FuncId} {args:List Value} {c:n0v} (hc:E.code f=some c) (w:fl<=H.size) (x:args.length=c.np:=by rfl) (q:args.length<=c.nt:=by exact of_decide_eq_true rfl)
  (h:∀ ρ:Nat->Value,(∀ i,ρ i=args.getD i undef)->W E H.size c.body (T c.nt ρ) H (F1X (fun t' H'=>x0V H' t' c.res fun v=>Ext H H'->K v H')) R) :
  b0k E fl f args H (fun v H'=>K v H'/\Ext H H') R:=by
 have j:=(v0g (K:=fun v H'=>Ext H H'->K v H') hc x q (fun t j u=>by
  have s:=h (get t) u
  rw [<- U0W j] at s
  refine s.mo fun e t' H' r=>?_
  cases e with
  | exit i=>exact N1i r id
  | normal=>exact ⟨trivial,r⟩
  | ret=>exact ⟨trivial,r⟩)).keep (M1U _)
 exact (j.mo fun v H' k=>⟨k.1 k.2.ext,k.2.ext⟩).floor w
end
section
section
variable {k:IntKind} {a b:Int} {tag:Nat}
@[simp] theorem F0U:c0k tag .add (.int k a) (.int k b)=some (.int k (k.wrap (a + b))):=by unfold c0k;simp
@[simp] theorem F1N:c0k tag .sub (.int k a) (.int k b)=some (.int k (k.wrap (a - b))):=by unfold c0k;simp
@[simp] theorem F1L:c0k tag .mul (.int k a) (.int k b)=some (.int k (k.wrap (a * b))):=by unfold c0k;simp
theorem F0X (h:b ≠ 0):c0k tag .quo (.int k a) (.int k b)=some (.int k (k.wrap (a.tdiv b))):=by unfold c0k;simp [h]
theorem F0Y (h:b ≠ 0):c0k tag .rem (.int k a) (.int k b)=some (.int k (a.tmod b)):=by unfold c0k;simp [h]
@[simp] theorem F0V:c0k tag .and (.int k a) (.int k b)=some (.int k (k.wrap (BitVec.ofInt k.bits a &&& BitVec.ofInt k.bits b).toNat)):=by unfold c0k;simp
@[simp] theorem k0v:c0k tag .or (.int k a) (.int k b)=some (.int k (k.wrap (BitVec.ofInt k.bits a ||| BitVec.ofInt k.bits b).toNat)):=by unfold c0k;simp
@[simp] theorem F1H:c0k tag .eql (.int k a) (.int k b)=some (.bool (a == b)):=by unfold c0k;simp
@[simp] theorem F1M:c0k tag .neq (.int k a) (.int k b)=some (.bool (a != b)):=by unfold c0k;simp
@[simp] theorem F0W:c0k tag .lss (.int k a) (.int k b)=some (.bool (decide (a < b))):=by unfold c0k;simp
@[simp] theorem F1K:c0k tag .leq (.int k a) (.int k b)=some (.bool (decide (a<=b))):=by unfold c0k;simp
@[simp] theorem F1J:c0k tag .gtr (.int k a) (.int k b)=some (.bool (decide (a > b))):=by unfold c0k;simp
@[simp] theorem F1I:c0k tag .geq (.int k a) (.int k b)=some (.bool (decide (a ≥ b))):=by unfold c0k;simp
@[simp] theorem v1b {x y:Bool}:c0k 1 .eql (.bool x) (.bool y)=some (.bool (x == y)):=by unfold c0k;simp
@[simp] theorem v1d {x y:Bool}:c0k 1 .neq (.bool x) (.bool y)=some (.bool (x != y)):=by unfold c0k;simp
@[simp] theorem v1c {x:Option Addr} {n c j h:Nat}:c0k 2 .eql (.slice x n c) (.slice none j h)=some (.bool x.isNone):=nr rfl
@[simp] theorem v1e {x:Option Addr} {n c j h:Nat}:c0k 2 .neq (.slice x n c) (.slice none j h)=some (.bool x.isSome):=nr rfl
theorem v0d {k':IntKind} (h:0<=b):c0k tag .shl (.int k a) (.int k' b)=some (.int k (k.wrap (a * 2 ^ (min b.toNat k.bits)))):=by unfold c0k;simp [h]
theorem l0J {k':IntKind} (h:0<=b):c0k tag .shr (.int k a) (.int k' b)=some (.int k (a.fdiv (2 ^ (min b.toNat k.bits)))):=by unfold c0k;simp [h]
theorem H0f {n m:Nat}:((n:Int).fdiv (m:Int))=((n / m:Nat):Int):=by
 rw [Int.fdiv_eq_ediv_of_nonneg _ (by omega)];rfl
@[simp] theorem M1J {n:Nat} {k':IntKind}:c0k tag .shr (.int .u64 (n:Int)) (.int k' 32)=some (.int .u64 ((n / 4294967296:Nat):Int)):=by
 rw [l0J (by omega)];exact congrArg (fun x=>some (Value.int .u64 x)) (H0f (n:=n) (m:=4294967296))
@[simp] theorem M1K {n:Nat} {k':IntKind}:c0k tag .shr (.int .u64 (n:Int)) (.int k' 63)=some (.int .u64 ((n / 9223372036854775808:Nat):Int)):=by
 rw [l0J (by omega)];exact congrArg (fun x=>some (Value.int .u64 x)) (H0f (n:=n) (m:=9223372036854775808))
@[simp] theorem K1L:unA .neg (.int k a)=some (.int k (k.wrap (0 - a))):=nr rfl
@[simp] theorem K1M {x:Bool}:unA .not (.bool x)=some (.bool !x):=nr rfl
end
@[simp] theorem G0c {a b:Nat}:((a:Int) == (b:Int))=(a == b):=by
 rw [O1d,beq_iff_eq,beq_iff_eq];omega
@[simp] theorem F1S {a b:Nat}:((a:Int) != (b:Int))=(a != b):=by simp only [bne,G0c]
@[simp] theorem y0m {a:Nat}:((a:Int) == 0)=(a == 0):=by
 rw [O1d,beq_iff_eq,beq_iff_eq];omega
@[simp] theorem v1j {a:Nat}:((a:Int) != 0)=(a != 0):=by simp only [bne,y0m]
@[simp] theorem v1k {a:Array Value}:a0t (.agg a)=a.toList:=nr rfl
@[simp] theorem v1l {k:IntKind} {n:Int}:a0t (.int k n)=[.int k n]:=nr rfl
@[simp] theorem u1g {b:Bool}:a0t (.bool b)=[.bool b]:=nr rfl
@[simp] theorem V0w {a:Option Addr} {n c:Nat}:a0t (.slice a n c)=[.slice a n c]:=nr rfl
@[simp] theorem v1m {a:Option Addr}:a0t (.pointer a)=[.pointer a]:=nr rfl
@[simp] theorem w1s {k:IntKind} {n:Int}:a0n (.int k n)=true:=nr rfl
@[simp] theorem u1u {b:Bool}:a0n (.bool b)=true:=nr rfl
@[simp] theorem X0q {a:Option Addr} {n c:Nat}:a0n (.slice a n c)=true:=nr rfl
@[simp] theorem w1t {a:Option Addr}:a0n (.pointer a)=true:=nr rfl
@[simp] theorem F1Q {d:Nat}:bnd d none=some d:=nr rfl
@[simp] theorem V0r {d n:Nat} {k:IntKind}:bnd d (some (.int k (n:Int)))=some n:=by simp [bnd]
@[simp] theorem L1O {n:Nat}:n + 1 + 1=n + 2:=by omega
@[simp] theorem L1P {n:Nat}:n + 2 + 1=n + 3:=by omega
@[simp] theorem L1Q {n:Nat}:n + 3 + 1=n + 4:=by omega
@[simp] theorem L1R {n:Nat}:n + 4 + 1=n + 5:=by omega
@[simp] theorem L1S {n:Nat}:n + 5 + 1=n + 6:=by omega
@[simp] theorem H1e {n:Nat}:n + 1 + 2=n + 3:=by omega
@[simp] theorem H1f {n:Nat}:n + 1 + 3=n + 4:=by omega
@[simp] theorem H1g {n:Nat}:n + 1 + 4=n + 5:=by omega
@[simp] theorem H1h {n:Nat}:n + 1 + 5=n + 6:=by omega
@[simp] theorem H1i {n:Nat}:n + 1 + 6=n + 7:=by omega
@[simp] theorem H1j {n:Nat}:n + 2 + 2=n + 4:=by omega
@[simp] theorem H1k {n:Nat}:n + 2 + 3=n + 5:=by omega
@[simp] theorem H1l {n:Nat}:n + 2 + 4=n + 6:=by omega
@[simp] theorem H1m {n:Nat}:n + 2 + 5=n + 7:=by omega
@[simp] theorem H1n {n:Nat}:n + 2 + 6=n + 8:=by omega
@[simp] theorem H1o {n:Nat}:n + 3 + 2=n + 5:=by omega
@[simp] theorem H1p {n:Nat}:n + 3 + 3=n + 6:=by omega
@[simp] theorem H1q {n:Nat}:n + 3 + 4=n + 7:=by omega
@[simp] theorem H1r {n:Nat}:n + 3 + 5=n + 8:=by omega
@[simp] theorem H1s {n:Nat}:n + 3 + 6=n + 9:=by omega
@[simp] theorem H1t {n:Nat}:n + 4 + 2=n + 6:=by omega
@[simp] theorem H1u {n:Nat}:n + 4 + 3=n + 7:=by omega
@[simp] theorem H1v {n:Nat}:n + 4 + 4=n + 8:=by omega
@[simp] theorem H1w {n:Nat}:n + 4 + 5=n + 9:=by omega
@[simp] theorem H1x {n:Nat}:n + 4 + 6=n + 10:=by omega
@[simp] theorem H1y {n:Nat}:n + 5 + 2=n + 7:=by omega
@[simp] theorem H1z {n:Nat}:n + 5 + 3=n + 8:=by omega
@[simp] theorem H1A {n:Nat}:n + 5 + 4=n + 9:=by omega
@[simp] theorem H1B {n:Nat}:n + 5 + 5=n + 10:=by omega
@[simp] theorem H1C {n:Nat}:n + 5 + 6=n + 11:=by omega
@[simp] theorem H1D {n:Nat}:n + 6 + 1=n + 7:=by omega
@[simp] theorem H1E {n:Nat}:n + 6 + 2=n + 8:=by omega
@[simp] theorem H1F {n:Nat}:n + 6 + 3=n + 9:=by omega
@[simp] theorem H1G {n:Nat}:n + 6 + 4=n + 10:=by omega
@[simp] theorem H1H {n:Nat}:n + 6 + 5=n + 11:=by omega
@[simp] theorem H1I {n:Nat}:n + 6 + 6=n + 12:=by omega
def u0M (w:Bool):Value->Bool
 | .bool b=>b == w
 | _=>false
@[simp] theorem u1z {w b:Bool}:u0M w (.bool b)=(b == w):=nr rfl
@[simp ↓] theorem M1O {E:Env} {fl:Nat} {t:a0U} {H:a0c} {R:a0P} {d:Option Nat} {op:SOp} {r:List a0v} {Z:a0U->a0c->Prop} {j:Nat} {w:Bool} :
  WR E fl (⟨d,some (j,w),op⟩ :: r) t H Z R=if u0M w (get t j)=true then WS E fl t H op (fun v H'=>WR E fl r (put t d v) H' Z R) R else WR E fl r (put t d undef) H Z R:=by
 have h:a0Q t (some (j,w))=u0M w (get t j):=by
  simp only [a0Q]
  generalize get t j=v
  cases v <;> rfl
 show (if a0Q t (some (j,w))=true then _ else _)=_
 rw [h]
attribute [simp ↓] u1Q V0d y0e H1c U0Z u1N u1K U0X F0P V0b G1Z u1L G1Y u1M F0O V0c F0M V0a u1P H1b F0L u1I u1O H1a F0Q u1H U0Y y0d s0w
attribute [simp ↓] u0X V0j V0i u1U V0h F0R u1T
attribute [simp] R0n E0F R0o x0B R0m E0E x0G a0C a0Y
attribute [simp] X0s v1Q t1V
attribute [simp] a0N f0X z0p x0j Ext.refl Ext.push Ext.set d0M b0c e0W b0e
attribute [simp low] a0z
attribute [congr] F0K w0A V0f F0N H0w
def p0h (i:Nat) (A M:a0U->a0c->Prop) (Q:d0K):d0K
 | .normal,t,H=>A t H
 | .exit j,t,H=>if j=i then M t H else Q (.exit j) t H
 | .ret,t,H=>Q .ret t H
section
variable {E:Env} {fl:Nat} {t:a0U} {H:a0c} {Q:d0K} {R:a0P}
@[simp] theorem S0A {i:Nat} {A M:a0U->a0c->Prop}:p0h i A M Q .normal t H=A t H:=nr rfl
@[simp] theorem u1r {i j:Nat} {A M:a0U->a0c->Prop}:p0h i A M Q (.exit j) t H=if j=i then M t H else Q (.exit j) t H:=nr rfl
@[simp] theorem w1a {i:Nat} {A M:a0U->a0c->Prop}:p0h i A M Q .ret t H=Q .ret t H:=nr rfl
theorem u1S {a:SCode} {Z:a0U->a0c->Prop} (M:a0U->a0c->Prop) (h:W E fl a t H (i0T M Q) R) (j:∀ t H,M t H->Z t H):W E fl a t H (i0T Z Q) R:=by
 refine h.mo fun e t' H' c=>?_
 cases e with
 | normal=>exact j _ _ c
 | exit i=>exact c
 | ret=>exact c
theorem b0X {c:SCode} {i:Nat} {Z:a0U->a0c->Prop} (I:Nat->a0U->a0c->Prop) (M:a0U->a0c->Prop) (k:Nat) (s:I k t H)
  (step:∀ k t H,I k t H->W E fl c t H (p0h i (fun t' H'=>∃ k',k' < k/\I k' t' H') M Q) R)
  (rest:∀ t H,M t H->Z t H):W E fl (.loop c) t H (f0t i (i0T Z Q)) R:=by
 refine S0j I (fun k t H h=>(step k t H h).mo fun e t' H' q=>?_) k s
 cases e with
 | normal=>exact q
 | ret=>exact q
 | exit j =>
  simp only [p0h] at q
  simp only [i0T,f0t]
  split
  ·rename_i r;rw [M1Z r] at q;exact rest _ _ q
  ·rename_i r;rw [M1V r] at q;exact q
end
end
section
variable {fl:Nat} {H G:a0c} {e e2 sz n m bytes:Nat} {s x:Value} {cs new:List Value}
def slB:Value->Option Nat
 | .slice (some p) _ _=>some p.block
 | _=>none
def Own (fl:Nat) (H:a0c) (e sz:Nat) (v:Value) (n:Nat) (cs:List Value):Prop :=
 cs.length=n * sz/\((v=.slice none 0 0/\n=0) ∨ ∃ b cap,v=.slice (some ⟨b,0,none⟩) n cap/\H.bk b=.row false e cs/\fl<=b)
theorem Own.nil:Own fl H e sz (.slice none 0 0) 0 []:=⟨by simp,.inl ⟨rfl,rfl⟩⟩
theorem Own.mk {b cap:Nat} (hb:H.bk b=.row false e cs) (h:cs.length=n * sz) (c:fl<=b):Own fl H e sz (.slice (some ⟨b,0,none⟩) n cap) n cs:=⟨h,.inr ⟨b,cap,rfl,hb,c⟩⟩
theorem Own.sl (h:Own fl H e sz s n cs):Sl H e sz s n cs:=by
 obtain ⟨c,h | ⟨b,cap,rfl,hb,j⟩⟩:=h
 ·exact ⟨c,.inl h⟩
 ·exact ⟨c,.inr ⟨b,0,cap,false,cs,rfl,hb,by omega,by rw [O1c,<- c,N1f]⟩⟩
theorem Own.mo (h:Own fl H e sz s n cs) (k:Ext H G):Own fl G e sz s n cs:=by
 obtain ⟨c,h | ⟨b,cap,rfl,hb,j⟩⟩:=h
 ·exact ⟨c,.inl h⟩
 ·exact ⟨c,.inr ⟨b,cap,rfl,k.bk hb,j⟩⟩
def j0m (o:Option Nat) (H G:a0c):Prop:=H.size<=G.size/\∀ b,b < H.size->o ≠ some b->G.bk b=H.bk b
theorem Ext.extB {o:Option Nat} (h:Ext H G):j0m o H G:=⟨h.1,fun b hb _=>h.2 b hb⟩
theorem o0Q (ho:Own fl G e sz s n cs) (N:Sl G e2 sz x m new) (hp:new.all a0n=true) (hn:n + m<=1073741824) (hb:bytes<=1024) (hs:0 < sz) (y:fl<=G.size) :
  ∃ v' J,n0w fl G e sz bytes s x=some (v',J)/\Own fl J e sz v' (n + m) (cs ++ new)/\j0m (slB s) G J/\(∀ L,L.size<=fl->Ext L G->Ext L J):=by
 obtain ⟨z,N⟩:=N
 have r:=ho.1
 by_cases H:m=0
 ·subst H
  have I:new=[]:=N1r.1 (by omega)
  subst I
  refine ⟨s,G,?_,by simpa using ho,(Ext.refl G).extB,fun _ _ h=>h⟩
  rcases N with ⟨rfl,_⟩ | ⟨b,off,cap,ro,cells,rfl,_⟩ <;> rcases ho.2 with ⟨rfl,rfl⟩ | ⟨M,j,rfl,_⟩ <;> simp [n0w]
 ·rcases N with ⟨_,Z⟩ | ⟨b,off,cap,ro,cells,rfl,O,S,U⟩
  ·exact N1i Z H
  have hc:=i0x O S
  rw [<- U] at hc
  rcases ho.2 with ⟨rfl,rfl⟩ | ⟨M,j,rfl,u,Q⟩
  ·have w:cs=[]:=N1r.1 (by omega)
   subst w
   refine ⟨.slice (some ⟨G.size,0,none⟩) m unk,G.push (.row false e new),?_,?_,(Ext.push (Ext.refl G)).extB,fun _ _ h=>h.push⟩
   ·unfold n0w
    simp only
    rw [M1V H,M1Z ⟨by omega,hb,hs⟩]
    simp only [hc,q0C,hp,P1f,N1G]
    rw [M1Z ⟨by trivial,by trivial⟩]
   ·rw [N1q];exact Own.mk a0N (by simpa using z) y
  ·have Y:=a0r u
   have F:G.cells? M 0 (n * sz)=some cs:=by
    rw [i0x u (by omega),O1c,<- r,N1f]
   by_cases q:j ≠ unk/\j < n + m
   ·refine ⟨.slice (some ⟨G.size,0,none⟩) (n + m) unk,G.push (.row false e (cs ++ new)),?_,?_,(Ext.push (Ext.refl G)).extB,fun _ _ h=>h.push⟩
    ·unfold n0w
     simp only
     rw [M1V H,M1Z ⟨by omega,hb,hs⟩]
     simp only [hc,q0C,hp,P1f,N1G,F]
     by_cases k:n=0/\j = 0
     ·rw [M1Z k]
      have w:cs=[]:=N1r.1 (by rw [r,k.1];simp)
      rw [w,k.1];simp
     ·rw [M1V k,M1Z q]
    ·exact Own.mk a0N (by rw [N1X,r,z,N1t]) y
   ·refine ⟨.slice (some ⟨G.size,0,none⟩) (n + m) unk,(G.setIfInBounds M .dead).push (.row false e (cs ++ new)),?_,?_,?_,?_⟩
    ·unfold n0w
     simp only
     rw [M1V H,M1Z ⟨by omega,hb,hs⟩]
     simp only [hc,q0C,hp,P1f,N1G,F]
     rw [M1V (fun k:n=0/\j = 0=>q ⟨by rw [k.2];decide,by omega⟩),M1V q]
     simp only [u]
     rw [M1Z ⟨trivial,Q⟩]
    ·exact Own.mk (by rw [a0z];simp) (by rw [N1X,r,z,N1t]) y
    ·refine ⟨by simp,fun c hc R=>?_⟩
     have:M ≠ c:=fun h=>R (by simp [slB,h])
     rw [f0X (by simpa using hc),a0Y this]
    ·intro L h1 h2
     exact (h2.set (by omega)).push
theorem e0c {c:Nat} (ho:Own fl G e sz s n cs) (H:new.length=sz) (hp:new.all a0n=true) (I:n < 1073741824) (hb:bytes<=1024) (hs:0 < sz) (x:fl<=G.size) :
  ∃ v' h,n0w fl (G.push (.row false e2 new)) e sz bytes s (.slice (some ⟨G.size,0,none⟩) 1 c)=some (v',h)/\Own fl h e sz v' (n + 1) (cs ++ new)/\j0m (slB s) G h/\(∀ j,j.size<=fl->Ext j G->Ext j h):=by
 have y:Sl (G.push (.row false e2 new)) e2 sz (.slice (some ⟨G.size,0,none⟩) 1 c) 1 new:=(Own.mk (fl:=0) a0N (by omega) (N1K _)).sl
 obtain ⟨v',h,r,u,q,w⟩:=o0Q (ho.mo (Ext.push (Ext.refl G))) y hp (by omega) hb hs (bytes:=bytes) (by simp;omega)
 refine ⟨v',h,r,u,⟨?_,fun b hb k=>?_⟩,fun j z F=>w j z F.push⟩
 ·have:=q.1;simp at this;omega
 ·rw [q.2 b (by simp;omega) k,f0X hb]
@[simp] theorem t1U {a b:List Nat}:b0C (a ++ b)=b0C a ++ b0C b:=by simp [b0C]
theorem k0H {l:List Nat}:(b0C l).all a0n=true:=by simp [b0C,a0n]
def l0s (m:Nat) (H:a0c) (s:Value) (l:List Nat):Prop:=Own m H a0b 1 s l.length (b0C l)/\∀ x ∈ l,x < 4294967296
theorem l0s.lim {l:List Nat} (h:l0s m H s l):Lim H s l:=⟨h.1.sl,h.2⟩
theorem l0s.nil:l0s m H (.slice none 0 0) []:=⟨Own.nil,by simp⟩
theorem l0s.mo {l:List Nat} (h:l0s m H s l) (c:Ext H G):l0s m G s l:=⟨h.1.mo c,h.2⟩
theorem l0s.slen {l:List Nat} (h:l0s m H s l):i0q s=some (.int .i64 l.length):=h.lim.slen
theorem l0s.cells {l:List Nat} (h:l0s m H s l):a0t s=[s]:=h.lim.cells
theorem l0s.plain {l:List Nat} (h:l0s m H s l):a0n s=true:=h.lim.plain
theorem l0s.setT {l:List Nat} (h:l0s m H s l) {p:Nat} {ro:Bool} {q:TypeId} {c:List Value} {r:Blk} (hb:H.bk p=.row ro q c) (j:q ≠ a0b):l0s m (H.setIfInBounds p r) s l:=by
 obtain ⟨⟨u,y | ⟨b,cap,rfl,w,z⟩⟩,x⟩:=h
 ·exact ⟨⟨u,.inl y⟩,x⟩
 ·have k:b ≠ p:=by rintro rfl;rw [w] at hb;cases hb;exact j rfl
  exact ⟨⟨u,.inr ⟨b,cap,rfl,by rw [a0I _ _ _ _ (a0r hb),M1V k];exact w,z⟩⟩,x⟩
theorem l0s.low {l:List Nat} {k:Nat} (h:l0s m H s l) (w:k<=m):l0s k H s l:=by
 obtain ⟨⟨c,q | ⟨b,cap,rfl,r,u⟩⟩,j⟩:=h
 ·exact ⟨⟨c,.inl q⟩,j⟩
 ·exact ⟨⟨c,.inr ⟨b,cap,rfl,r,by omega⟩⟩,j⟩
theorem l0s.lt {l:List Nat} (h:l0s m H s l) {x:Nat} (c:slB s=some x):m<=x/\x < H.size:=by
 obtain ⟨⟨q,⟨rfl,_⟩ | ⟨b,cap,rfl,j,k⟩⟩,_⟩:=h
 ·cases c
 ·simp only [slB,M1Q] at c;subst c;exact ⟨k,a0r j⟩
def j0G (m:Nat) (H:a0c) (s:Value) (l:List Nat):Prop:=l0s m H s l/\(l=[]->s=.slice none 0 0)
theorem j0G.lim {l:List Nat} (h:j0G m H s l):Lim H s l:=h.1.lim
theorem j0G.nil:j0G m H (.slice none 0 0) []:=⟨l0s.nil,fun _=>rfl⟩
theorem j0G.mo {l:List Nat} (h:j0G m H s l) (c:Ext H G):j0G m G s l:=⟨h.1.mo c,h.2⟩
theorem j0G.slen {l:List Nat} (h:j0G m H s l):i0q s=some (.int .i64 l.length):=h.lim.slen
theorem j0G.cells {l:List Nat} (h:j0G m H s l):a0t s=[s]:=h.lim.cells
theorem j0G.plain {l:List Nat} (h:j0G m H s l):a0n s=true:=h.lim.plain
theorem j0G.setT {l:List Nat} (h:j0G m H s l) {p:Nat} {ro:Bool} {k:TypeId} {c:List Value} {r:Blk} (hb:H.bk p=.row ro k c) (j:k ≠ a0b):j0G m (H.setIfInBounds p r) s l:=⟨h.1.setT hb j,h.2⟩
theorem j0G.low {l:List Nat} {k:Nat} (h:j0G m H s l) (c:k<=m):j0G k H s l:=⟨h.1.low c,h.2⟩
theorem j0G.lt {l:List Nat} (h:j0G m H s l) {x:Nat} (c:slB s=some x):m<=x/\x < H.size:=h.1.lt c
def L1H (q r:Value):Prop:=∀ a s b u x y,q=.agg #[a,s]->r=.agg #[b,u]->slB s=some x->slB u=some y->x ≠ y
def n0t (m:Nat) (H:a0c) (v:Value) (i:Bool × List Nat):Prop:=∃ s,v=.agg #[.bool i.1,s]/\j0G m H s i.2
theorem n0t.int {v:Value} {i:Bool × List Nat} (h:n0t m H v i):c0m H v i:=by obtain ⟨s,c,j⟩:=h;exact ⟨s,c,j.lim⟩
theorem n0t.mo {v:Value} {i:Bool × List Nat} (h:n0t m H v i) (k:Ext H G):n0t m G v i:=by obtain ⟨s,c,j⟩:=h;exact ⟨s,c,j.mo k⟩
theorem n0t.low {v:Value} {i:Bool × List Nat} {k:Nat} (h:n0t m H v i) (q:k<=m):n0t k H v i:=by obtain ⟨s,c,j⟩:=h;exact ⟨s,c,j.low q⟩
end
section
variable {fl:Nat} {H:a0c} {R:a0P} {v:Value} {i:Bool × List Nat}
def d0k (i:Bool × List Nat):Bool:=if i.2.length=0 then !i.1 else i.2.getD (i.2.length - 1) 0 != 0
theorem c0A (h:c0m H v i) (j:fl<=H.size) (q:i.2.length < 4611686018427387904) :
  b0k env fl z0a [v] H (fun r H'=>r=.bool (d0k i)/\Ext H H') R:=by
 obtain ⟨s,rfl,hs⟩:=h
 refine a0i M1i j (h:=?_)
 intro ρ c
 simp [G1L]
 simp [T0T,T0U,T0V,T0W,c]
 simp (disch:=first | omega | assumption | (simp;done) | (repeat (first | assumption | exact Ext.refl _ | apply Ext.push | apply Ext.set))) [hs.slen,hs.iaZ,hs.load,b0d]
 refine ⟨fun h=>by simp [d0k,h],fun h=>?_⟩
 have k:=List.length_pos_iff.2 h
 simp (disch:=first | omega | assumption | (simp;done) | (repeat (first | assumption | exact Ext.refl _ | apply Ext.push | apply Ext.set))) [hs.iaZ,hs.load,d0k,h]
def d0N (i:Bool × List Nat):List Nat:=if d0k i then i.2 else []
theorem n0I (h:c0m H v i) (k:fl<=H.size) (q:i.2.length < 4611686018427387904) :
  b0k env fl g0b [v] H (fun r H'=>Lim H' r (d0N i)/\Ext H H') R:=by
 obtain ⟨s,rfl,hs⟩:=h
 refine a0i H1V k (h:=?_)
 intro ρ j
 simp [R0u]
 simp [A0C,A0D,A0E,A0F,j]
 refine (c0A ⟨s,rfl,hs.mo (by simp)⟩ (by simp) q).mo ?_
 rintro _ G ⟨rfl,c⟩
 simp [c.2,d0N]
 exact ⟨fun h _=>by simp [h,Lim.nil],fun h c=>by simp [h,hs.mo c]⟩
def w1m (i:Bool × List Nat):Bool:=d0k i && i.1
theorem r0y (h:c0m H v i) (j:fl<=H.size) (k:i.2.length < 4611686018427387904) :
  b0k env fl d0x [v] H (fun r H'=>r=.bool (w1m i)/\Ext H H') R:=by
 obtain ⟨s,rfl,hs⟩:=h
 refine a0i H1T j (h:=?_)
 intro ρ c
 simp [R0s]
 simp [A0s,A0t,c]
 refine (c0A ⟨s,rfl,hs.mo (by simp)⟩ (by simp) k).mo ?_
 rintro _ G ⟨rfl,q⟩
 cases hm:d0k i <;> simp [q.2,w1m,c,hm]
theorem a0h {x:Nat} (j:fl<=H.size) :
  b0k env fl g0d [.int .u64 x] H (fun r H'=>r=.int .u32 ((x % 4294967296:Nat):Int)/\Ext H H') R:=by
 refine a0i I1p j (h:=?_)
 intro ρ c
 simp [R0G]
 simp [C0s,C0t,c,k0R]
def i0Y (a b:Int):Int:=if a < b then -1 else if a > b then 1 else 0
theorem j0Z {a b:Int} (q:fl<=H.size) :
  b0k env fl y0E [.int .i64 a,.int .i64 b] H (fun r H'=>r=.int .i64 (i0Y a b)/\Ext H H') R:=by
 refine a0i I1k q (h:=?_)
 intro ρ j
 simp [R0B]
 simp [B0M,B0N,B0O,B0P,B0Q,B0R,j,i0Y]
 refine ⟨fun k c=>?_,fun k=>⟨fun c=>?_,fun c=>?_⟩⟩ <;> (repeat' split) <;> omega
theorem h0V {a b:Int} (q:fl<=H.size) :
  b0k env fl y0F [.int .u32 a,.int .u32 b] H (fun r H'=>r=.int .i64 (i0Y a b)/\Ext H H') R:=by
 refine a0i I1l q (h:=?_)
 intro ρ j
 simp [R0C]
 simp [B0S,B0T,B0U,B0V,B0W,B0X,j,i0Y]
 refine ⟨fun k c=>?_,fun k=>⟨fun c=>?_,fun c=>?_⟩⟩ <;> (repeat' split) <;> omega
theorem x0X {l:List Nat} (h:Lim H v l) (w:fl<=H.size) (I:l.length<=1073741824) :
  b0k env fl y0G [v] H (fun r H'=>l0s H.size H' r l/\Ext H H') R:=by
 refine a0i I1m w (h:=?_)
 intro ρ k
 simp [R0D]
 simp [B0Y,B0Z,C0a,C0b,k]
 have u:=h
 obtain ⟨⟨G,⟨rfl,c⟩ | ⟨b,off,cap,ro,cells,rfl,hb,ho,s⟩⟩,x⟩:=h
 ·have:l=[]:=N1r.1 c
  subst this
  simp [l0s.nil]
 ·simp
  have j:Own H.size (H.push (.row false a0b [])) a0b 1 (.slice (some ⟨H.size,0,none⟩) 0 0) 0 []:=Own.mk a0N (by simp) (M1U _)
  obtain ⟨v',y,q,c,z,F⟩:=o0Q (bytes:=4) j ((u.mo (Ext.push (Ext.refl H))).1) k0H (by omega) (by omega) (by omega) (by simp)
  simp only [N1q,O1R] at c
  simp [q]
  exact fun _=>⟨c,x⟩
end
section
variable {fl:Nat} {H:a0c} {R:a0P} {v:Value} {i:Bool × List Nat} {l:List Nat}
def c0V (l:List Nat):List Nat:=(l.reverse.dropWhile (· == 0)).reverse
theorem s0l:c0V []=[]:=rfl
theorem n0n:c0V (l ++ [0])=c0V l:=by simp [c0V]
theorem k0O {x:Nat} (h:x ≠ 0):c0V (l ++ [x])=l ++ [x]:=by simp [c0V,h]
def mkI (neg:Bool) (l:List Nat):Bool × List Nat:=if c0V l=[] then (false,[]) else (neg,c0V l)
theorem d0J {n:Nat} (h:n < l.length):l.take (n + 1)=l.take n ++ [l.getD n 0]:=by
 rw [List.take_add_one,M1X h,M1R,M1X h];rfl
theorem l0h {b:Bool} (h:Lim H v l) (Y:fl<=H.size) (hn:l.length<=1073741824) :
  b0k env fl g0c [.bool b,v] H (fun r H'=>n0t H.size H' r (mkI b l)/\Ext H H') R:=by
 refine a0i H1W Y (h:=?_)
 intro ρ Q
 simp [R0v]
 simp [A0G,A0H,Q,h.slen]
 refine b0X (fun k t G=>G=H.push (.row false a0a [.bool false,.slice none 0 0])/\t.length=29/\get t 0=.bool b/\get t 1=v/\get t 4=.pointer (some ⟨H.size,0,none⟩) /\
   get t 5=.int .i64 k/\k<=l.length/\c0V (l.take k)=c0V l)
  (fun t G=>∃ k:Nat,G=H.push (.row false a0a [.bool false,.slice none 0 0])/\t.length=29/\get t 0=.bool b/\get t 1=v/\get t 4=.pointer (some ⟨H.size,0,none⟩) /\
   get t 5=.int .i64 k/\k<=l.length/\c0V l=l.take k) l.length (by simp [Q]) ?_ ?_
 ·rintro k t G ⟨rfl,M,u,w,z,F,I,j⟩
  obtain ⟨ρ,rfl⟩:=toT M
  simp only [b0H,Nat.reduceLT] at u w z F
  by_cases c:k=0
  ·subst c
   simp [t0B,u,w,z,F]
   exact ⟨0,by simp,by simp,by rw [<- j];rfl⟩
  ·have hp:0 < k:=by omega
   have Z:IntKind.i64.wrap ((k:Int) - 1)=((k - 1:Nat):Int):=by rw [b0d (by omega) (by omega)];omega
   simp [t0B,A0I,u,w,z,F,hp,Z,h.ia (show k - 1 < l.length by omega),h.load (show k - 1 < l.length by omega)]
   have q:l.take k=l.take (k - 1) ++ [l.getD (k - 1) 0]:=by rw [<- d0J (by omega)];congr 1;omega
   rw [M1R] at q
   refine ⟨fun O=>⟨k - 1,by omega,rfl,by omega,?_⟩,fun O=>⟨k,rfl,I,?_⟩⟩
   ·rw [<- j,q,O,n0n]
   ·rw [<- j,q,k0O O]
 ·rintro t G ⟨k,rfl,M,u,w,z,F,I,j⟩
  obtain ⟨ρ,rfl⟩:=toT M
  simp only [b0H,Nat.reduceLT] at u w z F
  obtain ⟨v',S,U⟩:=h.take I (x:=none) rfl (y:=some (.int .i64 (k:Int))) (by simp)
  simp [A0J,A0K,A0L,u,w,z,F,h.elemOk,S]
  refine ⟨fun c=>⟨.slice none 0 0,by simp [mkI,j,c],by simp [mkI,j,c,j0G.nil]⟩,fun c=>?_⟩
  refine (x0X (U.mo (by simp)) (by simp) (by simp;omega)).mo ?_
  rintro r G ⟨L,N⟩
  have J:H.size < G.size:=by have:=N.1;simp at this;omega
  simp [L.cells,L.plain,N.2,J]
  have s:l ≠ []:=by rintro rfl;exact c (by simpa using I)
  refine fun _=>⟨r,?_,?_⟩
  ·simp [mkI,j,c,s]
  ·have:(mkI b l).2=l.take k:=by simp [mkI,j,c,s]
   rw [this]
   refine ⟨(L.low (by simp)).setT (by rw [N.2 _ (by simp)];exact a0N) (by decide),fun h=>?_⟩
   rcases List.take_eq_nil_iff.1 h with h | h
   ·exact N1i h c
   ·exact N1i h s
end
section
def a0q:List Nat->Nat
 | []=>0
 | x :: l=>x + 4294967296 * a0q l
def b0g (l:List Nat):Prop:=∀ x ∈ l,x < 4294967296
theorem g0g:∀ (a b:List Nat),a0q (a ++ b)=a0q a + 4294967296 ^ a.length * a0q b
 | [],b=>by simp [a0q]
 | x :: a,b=>by
  simp only [O1y,a0q,g0g a b,N1I,N1m]
  rw [N1a,<- N1h,N1p (4294967296 ^ a.length) 4294967296,N1U]
theorem c0a (a:List Nat) (x:Nat):a0q (a ++ [x])=a0q a + 4294967296 ^ a.length * x:=by rw [g0g];simp [a0q]
theorem g0h:∀ (l:List Nat),b0g l->a0q l < 4294967296 ^ l.length
 | [],_=>by simp [a0q]
 | x :: l,h=>by
  have j:=g0h l (fun y c=>h y (O1f _ c))
  have k:=h x (O1B ..)
  simp only [a0q,N1I,N1m]
  omega
theorem o0H (x:Nat) (l:List Nat):c0V (x :: l)=if c0V l=[]/\x=0 then [] else x :: c0V l:=by
 unfold c0V
 rw [List.reverse_cons,List.dropWhile_append]
 by_cases h:(List.dropWhile (fun x=>x == 0) l.reverse).isEmpty=true
 ·rw [M1Z h]
  have c:List.dropWhile (fun x=>x == 0) l.reverse=[]:=by simpa using h
  rw [c]
  by_cases j:x=0 <;> simp [j]
 ·rw [M1V h]
  have c:List.dropWhile (fun x=>x == 0) l.reverse ≠ []:=by simpa using h
  rw [M1V (by simp [c])]
  simp
theorem j0W:∀ (l:List Nat),a0q l=0 <-> c0V l=[]
 | []=>by simp [a0q,s0l]
 | x :: l=>by
  rw [o0H]
  have:=j0W l
  by_cases h:c0V l=[]/\x=0
  ·rw [M1Z h];have:=this.2 h.1;simp [a0q,this,h.2]
  ·rw [M1V h]
   simp only [a0q,reduceCtorEq,iff_false]
   intro c
   exact h ⟨this.1 (by omega),by omega⟩
def a0l (n:Nat):List Nat:=if h:n=0 then [] else (n % 4294967296) :: a0l (n / 4294967296)
termination_by n
decreasing_by omega
theorem a0G:a0l 0=[]:=by unfold a0l;simp
theorem c0X {n:Nat} (h:n ≠ 0):a0l n=(n % 4294967296) :: a0l (n / 4294967296):=by rw [a0l];simp [h]
theorem c0b:∀ (l:List Nat),b0g l->c0V l=a0l (a0q l)
 | [],_=>by rw [s0l,a0q,a0G]
 | x :: l,h=>by
  have r:=c0b l (fun y q=>h y (O1f _ q))
  have s:=h x (O1B ..)
  rw [o0H]
  by_cases hc:c0V l=[]/\x=0
  ·rw [M1Z hc]
   have:=(j0W l).2 hc.1
   rw [a0q,this,hc.2,a0G]
  ·rw [M1V hc]
   have c:a0q (x :: l) ≠ 0:=by
    intro k
    simp only [a0q] at k
    exact hc ⟨(j0W l).1 (by omega),by omega⟩
   rw [c0X c]
   have j:a0q (x :: l) % 4294967296=x:=by simp only [a0q];omega
   have e2:a0q (x :: l) / 4294967296=a0q l:=by simp only [a0q];omega
   rw [j,e2,r]
theorem a0p (n:Nat):a0q (a0l n)=n:=by
 induction n using Nat.strongRecOn with
 | ind n ih =>
  by_cases h:n=0
  ·rw [h,a0G];rfl
  ·rw [c0X h,a0q,ih _ (by omega)];omega
theorem y0u (n:Nat):b0g (a0l n):=by
 induction n using Nat.strongRecOn with
 | ind n ih =>
  by_cases h:n=0
  ·rw [h,a0G];intro x c;simp at c
  ·rw [c0X h]
   intro x c
   rcases O1W.1 c with rfl | c
   ·omega
   ·exact ih _ (by omega) x c
theorem f0I {n k:Nat} (h:n < 4294967296 ^ k):(a0l n).length<=k:=by
 induction k generalizing n with
 | zero => have : n = 0 := by simpa using h
           rw [this,a0G];simp
 | succ k ih =>
  by_cases c:n=0
  ·rw [c,a0G];simp
  ·rw [c0X c,N1I]
   have:n / 4294967296 < 4294967296 ^ k:=by
    rw [O1b (by omega)];rw [N1m] at h;exact h
   have:=ih this
   omega
theorem j0S (n:Nat):n < 4294967296 ^ (a0l n).length:=by
 have:=g0h (a0l n) (y0u n)
 rwa [a0p] at this
theorem b0O {n:Nat}:a0l n=[] <-> n=0:=by
 constructor
 ·intro h;rw [<- a0p n,h];rfl
 ·rintro rfl;exact a0G
theorem m0j {n:Nat} (h:n ≠ 0):(a0l n).getD ((a0l n).length - 1) 0 ≠ 0:=by
 induction n using Nat.strongRecOn with
 | ind n ih =>
  rw [c0X h]
  by_cases c:n / 4294967296=0
  ·rw [c,a0G];simp;omega
  ·have:=ih (n / 4294967296) (by omega) c
   have k:(a0l (n / 4294967296)).length ≠ 0:=fun j=>c (b0O.1 (N1r.1 j))
   rw [N1I,show (a0l (n / 4294967296)).length + 1 - 1=((a0l (n / 4294967296)).length - 1) + 1 by omega,List.getD_cons_succ]
   exact this
def a0B (i:Bool × List Nat):Int:=if d0k i then (if i.1 then -(a0q i.2:Int) else a0q i.2) else 0
def a0J (z:Int):Bool × List Nat:=(decide (z < 0),a0l z.natAbs)
theorem z0y {b:Bool} {l:List Nat} (h:b0g l):mkI b l=a0J (if b then -(a0q l:Int) else a0q l):=by
 unfold mkI a0J
 rw [c0b l h]
 by_cases c:a0q l=0
 ·rw [c,a0G];cases b <;> simp [a0G]
 ·rw [M1V (by rw [b0O];exact c)]
  cases b <;> simp <;> omega
theorem z0w (z:Int):d0k (a0J z)=true:=by
 unfold d0k a0J
 by_cases h:z=0
 ·subst h;simp [a0G]
 ·have c:z.natAbs ≠ 0:=by omega
  have j:(a0l z.natAbs).length ≠ 0:=fun k=>c (b0O.1 (N1r.1 k))
  simp only
  rw [M1V j]
  simpa using m0j c
theorem b0m (z:Int):a0B (a0J z)=z:=by
 unfold a0B
 rw [z0w]
 simp only [a0J,a0p,N1E]
 by_cases h:z < 0 <;> simp [h] <;> omega
theorem n0Z:a0J 0=(false,[]):=by simp [a0J,a0G]
