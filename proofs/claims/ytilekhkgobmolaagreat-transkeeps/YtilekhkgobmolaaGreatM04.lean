/- Part 5 of the proof. -/
import Derived.Test.YtilekhkgobmolaaGreatM02
import Derived.Test.YtilekhkgobmolaaGreatM03
set_option linter.unusedVariables false
set_option linter.unusedSimpArgs false
set_option linter.unusedSectionVars false
set_option maxHeartbeats 4000000
namespace Go.Proofs.YtilekhkgobmolaaGreat.AI
open Go
section
abbrev u0A (F:RK):Nat:=F.p W0T W0M
abbrev m0w (F:RK):Nat:=F.p s0y d1B
abbrev k0v (F:RK):Nat:=F.p W0Y W0R
abbrev l0P (F:RK):Nat:=F.p W0V W0O
abbrev m0v (F:RK):Nat:=F.p X0c X0a
abbrev B0n (F:RK):Nat:=F.p W0W W0P
abbrev l0Q (F:RK):Nat:=F.p W0X W0Q
abbrev B0o (F:RK):Nat:=F.p W0Z W0S
abbrev u0B (F:RK):Nat:=F.p X0d X0b
abbrev x0d (F:RK):Nat:=F.p W0U W0N
def t0q (F:RK):SS:=[o 2 (.box (F.p a0n a0m) (t 0)),bX 3 a0Q 1,o 4 (.mv (.const (.pointer none)))]
def t0r:SS:=[fA 22 1 3,lD 23 22,lN 24 23,mV 5 24]
def h0H (F:RK):SS:=[lA 25 0 2,fA 26 0 3,lD 27 26,mV 28 5,fA 29 0 3,lD 30 29,o 31 (.bin 0 .mul (i 2) (t 30)),mV 32 5,o 33 (bT .add 31 32),lA 34 0 2,o 35 (.iface (F.p a0n a0m) (t 34)),cB 36 k0w [i 1],o 37 (.inv (t 35) [(a0m,k0x),(a0n,j0D)] [t 36] false)] ++ F.p [o 38 (.build [.int .i64 0,.int .i64 0,.int .i64 0,.slice none 0 0,.int .i64 0,.slice none 0 0,.int .i64 0] [(0,0,t 25),(0,1,t 27),(1,1,t 28),(2,1,t 33),(4,1,t 37)])] [o 38 (.build [.int .i64 0,.int .i64 0,.int .i64 0,.slice none 0 0,.bool false,.slice none 0 0,.slice none 0 0,.int .i64 0] [(0,0,t 25),(0,1,t 27),(1,1,t 28),(2,1,t 33),(4,2,t 37)])] ++ [o 39 (.box (F.p a0d a0c) (t 38)),o 6 (.alloc (F.p a0H a0F) [.pointer none]),sT 1 6 39]
def h0I (F:RK):SS:=[lA 40 0 2,o 41 (.iface (F.p a0n a0m) (t 40)),o 42 (.build zI []),o 43 (.inv (t 41) [(a0m,k0x),(a0n,j0D)] [t 42] true)] ++ F.p [o 7 (.alloc d0N [.int .i64 0])] [o 7 (.alloc a0a zI)] ++ [⟨none,none,.store F.w (t 7) (t 43)⟩]
def t0s (F:RK):SS:=[o 44 (.mkfn (.func (F.p o0m o0l)) [] [t 6,t 7]),mV 8 44]
def t0t:SS:=[mV 45 8,o 46 (.callv (t 45) [] true),mV 47 8,o 48 (.callv (t 47) [] true),mV 9 46,mV 10 48]
def t0u:SS:=[fA 49 3 3,lD 50 49,lN 51 50,mI 52 0]
def C0V:SS:=[o 53 (bT .lss 52 51)]
def t0v:SS:=[mV 54 52,iA 55 2 50 52,lA 56 2 55,o 12 (.alloc a0a zI),mV 11 54,sT 2 12 56]
def t0w (F:RK):SS:=[lA 57 0 2,o 58 (.iface (F.p a0n a0m) (t 57)),lA 59 2 12,o 60 (.inv (t 58) [(a0m,k0x),(a0n,j0D)] [t 59] true)] ++ F.p [mV 13 60] [o 13 (.alloc a0a zI),sT 2 13 60]
def p0o (F:RK):SS:=[mV 61 10,mV 62 11,mV 63 10,fA 64 0 3,lD 65 64,mV 66 11,o 67 (bT .add 65 66),lA 68 0 2,o 69 (.iface (F.p a0n a0m) (t 68))] ++ F.p [mV 70 13] [lA 70 2 13] ++ [o 71 (.inv (t 69) [(a0m,m0y),(a0n,m0z)] [t 70] false)] ++ F.p [mV 72 13] [lA 72 2 13] ++ [o 73 (.ia F.w (t 61) (t 62)),⟨none,none,.store F.w (t 73) (t 71)⟩,o 74 (.ia F.w (t 63) (t 67)),⟨none,none,.store F.w (t 74) (t 72)⟩]
def z0Z:SS:=[o 75 (bI .add 52 1),mV 52 75]
def p0p:SS:=[fA 76 1 3,lD 77 76,lN 78 77,mI 79 0]
def A0a:SS:=[o 80 (bT .lss 79 78)]
def p0q:SS:=[mV 81 79,iA 82 1 77 79,lD 83 82,mV 14 81,mV 15 83]
def p0r:SS:=[mV 84 8,o 85 (.callv (t 84) [] true),mV 16 85]
def p0s:SS:=[mV 86 15,fA 87 0 3,lD 88 87,o 89 (.sl a0a 2 (t 86) none (some (t 88)) none),lN 90 89,mI 91 0]
def A0b:SS:=[o 92 (bT .lss 91 90)]
def p0t:SS:=[mV 93 91,iA 94 2 89 91,lA 95 2 94,o 18 (.alloc a0a zI),mV 17 93,sT 2 18 95]
def p0u (F:RK):SS:=[lA 96 0 2,o 97 (.iface (F.p a0n a0m) (t 96)),lA 98 2 18,o 99 (.inv (t 97) [(a0m,k0x),(a0n,j0D)] [t 98] true)] ++ F.p [mV 19 99] [o 19 (.alloc a0a zI),sT 2 19 99]
def p0v (F:RK):SS:=[mV 100 16,mV 101 17,mV 102 16,fA 103 0 3,lD 104 103,mV 105 17,o 106 (bT .add 104 105)] ++ F.p [mV 107 19] [lA 107 2 19] ++ [lA 108 0 2,o 109 (.iface (F.p a0n a0m) (t 108))] ++ F.p [mV 110 19] [lA 110 2 19] ++ [o 111 (.inv (t 109) [(a0m,m0y),(a0n,m0z)] [t 110] false),o 112 (.ia F.w (t 100) (t 101)),⟨none,none,.store F.w (t 112) (t 107)⟩,o 113 (.ia F.w (t 102) (t 106)),⟨none,none,.store F.w (t 113) (t 111)⟩]
def A0c:SS:=[o 114 (bI .add 91 1),mV 91 114]
def p0w (F:RK):SS:=[mV 115 16,fA 116 0 3,lD 117 116,o 118 (.bin 0 .mul (i 2) (t 117)),mV 119 14,o 120 (bT .add 118 119),lD 121 6,cK 122 121,fA 123 4 122,o 124 (.load F.b F.w (t 123)),o 125 (.ia F.w (t 115) (t 120)),⟨none,none,.store F.w (t 125) (t 124)⟩]
def p0x (F:RK):SS:=[mV 126 16,lD 127 6,cK 128 127,fA 129 2 128,lD 130 129,lA 131 0 2,o 132 (.iface (F.p a0n a0m) (t 131)),mV 133 15,fA 134 0 3,lD 135 134,iA 136 2 133 135,lA 137 2 136,o 138 (.inv (t 132) [(a0m,k0x),(a0n,j0D)] [t 137] false),o 139 (.ia F.w (t 126) (t 130)),⟨none,none,.store F.w (t 139) (t 138)⟩]
def p0y:SS:=[fA 140 0 3,lD 141 140,o 142 (.bin 0 .mul (i 2) (t 141)),mV 143 14,o 144 (bT .add 142 143),mV 20 144]
def p0z (F:RK):SS:=[lA 145 0 2,o 146 (.iface (F.p a0n a0m) (t 145)),mV 147 16,lD 148 6,cK 149 148,fA 150 2 149,lD 151 150,o 152 (.ia F.w (t 147) (t 151)),o 153 (.load F.b F.w (t 152)),o 154 (.inv (t 146) [(a0m,o0n),(a0n,o0o)] [t 153] true),o 155 (bI .lss 154 0)]
def p0A:SS:=[lD 156 6,cK 157 156,fA 158 2 157,lD 159 158,mV 160 14,o 161 (bT .add 159 160),mV 20 161]
def p0B:SS:=[mV 162 16,lN 163 162,mI 164 0]
def A0d:SS:=[o 165 (bT .lss 164 163)]
def p0C:SS:=[mV 166 164,mV 21 166]
def p0D (F:RK):SS:=[mV 167 16,mV 168 21,lA 169 0 2,o 170 (.iface (F.p a0n a0m) (t 169)),mV 171 16,mV 172 21,o 173 (.ia F.w (t 171) (t 172)),o 174 (.load F.b F.w (t 173)),o 175 (.inv (t 170) [(a0m,m0y),(a0n,m0z)] [t 174] true),o 176 (.ia F.w (t 167) (t 168)),⟨none,none,.store F.w (t 176) (t 175)⟩]
def p0E (F:RK):SS:=[mV 177 9,mV 178 21,lD 179 6,mV 180 9,mV 181 21,o 182 (.ia F.w (t 180) (t 181)),o 183 (.load F.b F.w (t 182)),mV 184 16,mV 185 21,o 186 (.ia F.w (t 184) (t 185)),o 187 (.load F.b F.w (t 186)),o 188 (.call (F.p z0t z0r) [t 179,t 183,t 187] true),o 189 (.ia F.w (t 177) (t 178)),⟨none,none,.store F.w (t 189) (t 188)⟩]
def A0e:SS:=[o 190 (bI .add 164 1),mV 164 190]
def k0P (F:RK):SS:=[lD 191 6,lD 192 6,lD 193 6,cK 194 193,fA 195 3 194,lD 196 195,mV 197 16,o 198 (.lit (F.p f0a b0i) [.slice none 0 0] 1 [(0,1,t 197)]),o 199 (.app (F.p f0a b0i) 1 24 (t 196) (t 198)),lD 200 6,cK 201 200,o 202 (.fa (F.p 5 6) (t 201)),lD 203 202,mV 204 20,o 205 (.lit e0L [.int .i64 0] 1 [(0,1,t 204)]),o 206 (.app e0L 1 8 (t 203) (t 205)),cK 207 191,fA 208 3 207,sT 1 208 199,cK 209 192,o 210 (.fa (F.p 5 6) (t 209)),sT 1 210 206]
def A0f:SS:=[o 211 (bI .add 79 1),mV 79 211]
def p0F (F:RK):SS:=[lD 212 6,lD 213 6,cK 214 213,fA 215 3 214,lD 216 215,mV 217 9,mV 218 10,o 219 (.lit (F.p f0a b0i) [.slice none 0 0] 2 [(0,1,t 217),(1,1,t 218)]),o 220 (.app (F.p f0a b0i) 1 24 (t 216) (t 219)),cK 221 212,fA 222 3 221,sT 1 222 220]
def p0G:SS:=[lD 223 6,mV 4 223]
def k0S (F:RK):SF:=⟨2,224,[.tmp 4],
 (qS (gR (t0q F)) (qS (gR t0r) (qS (.draw (h0H F) [0,0,2,0,0,16,48,0,240,0,512,0,3584,8191,16383,0,65535] []) (qS (gR (h0I F)) (qS (gR (t0s F)) (qS (gR t0t) (qS (qS (gR t0u) (.block 0 (.loop (qS (gR C0V) (qS (.cond (t 53) .skip (.exit 0)) (qS (.block 1 (qS (gR t0v) (qS (gR (t0w F)) (.draw (p0o F) [0,0,0,0,8,0,56,0,128,0,896,0,1923,6019,16383,32767] (F.p [(4,13)] [(4,13),(11,13)]))))) (gR z0Z))))))) (qS (qS (gR p0p) (.block 2 (.loop (qS (gR A0a) (qS (.cond (t 80) .skip (.exit 2)) (qS (.block 3 (qS (gR p0q) (qS (gR p0r) (qS (qS (gR p0s) (.block 4 (.loop (qS (gR A0b) (qS (.cond (t 92) .skip (.exit 4)) (qS (.block 5 (qS (gR p0t) (qS (gR (p0u F)) (.draw (p0v F) [0,0,0,0,8,0,56,0,0,256,0,1792,3971,8067,16383,32767] [(4,13)])))) (gR A0c))))))) (qS (.draw (p0w F) [0,0,2,6,0,30,0,64,192,448,1023,2047] []) (qS (.draw (p0x F) [0,0,2,6,14,0,32,0,0,256,896,1920,4064,8191,16383] []) (qS (gR p0y) (qS (qS (.draw (p0z F) [0,1,0,0,8,24,56,124,252,511,1023] []) (.cond (t 155) (qS (gR p0A) (qS (gR p0B) (.block 6 (.loop (qS (gR A0d) (qS (.cond (t 165) .skip (.exit 6)) (qS (.block 7 (qS (gR p0C) (qS (.draw (p0D F) [0,0,0,4,0,0,48,112,252,511,1023] []) (.draw (p0E F) [0,0,0,0,0,24,56,0,0,384,896,2044,4095,8191] [])))) (gR A0e)))))))) .skip)) (.draw (k0P F) [0,0,0,4,12,28,0,64,252,0,512,1536,3584,0,8192,32764,65533,131069,262141,524287,1048575,2097151] [(0,8),(1,8),(8,9),(8,12),(8,14),(0,15),(1,15),(1,18)]))))))))) (gR A0f))))))) (qS (.draw (p0F F) [0,0,2,6,14,0,0,96,254,511,1023,2047] [(0,8)]) (qS (gR p0G) .ret))))))))))⟩
def n0q (F:RK):SS:=[o 3 (.box (F.p a0n a0m) (t 0)),bX 4 b0M 1,bX 5 a0Q 2,o 6 (.alloc b0X zA),mI 7 0]
def n0r (F:RK):SS:=[lA 16 0 3,lA 17 8 5,o 18 (.call (u0A F) [t 16,t 17] true),o 8 (.alloc (F.p a0H a0F) [.pointer none]),sT 1 8 18]
def n0s:SS:=[lD 19 8,cK 20 19,fA 21 1 20,lD 22 21,lD 23 8,cK 24 23,fA 25 1 24,lD 26 25,o 27 (bI .add 26 1),mV 9 22,mV 10 27]
def n0t (F:RK):SS:=[lD 28 8,mV 29 9,o 30 (.call (x0d F) [t 28,t 29] true)]
def n0u (F:RK):SS:=[lD 31 8,cK 32 31,o 33 (.fa0 (F.p a0d a0c) (t 32)),lA 34 0 33,o 35 (.iface (F.p a0n a0m) (t 34)),lD 36 8,cK 37 36,fA 38 3 37,lD 39 38,mV 40 9,iA 41 1 39 40,lD 42 41,lD 43 8,cK 44 43,fA 45 2 44,lD 46 45,o 47 (.ia F.w (t 42) (t 46)),o 48 (.load F.b F.w (t 47)),o 49 (.inv (t 35) [(a0m,o0n),(a0n,o0o)] [t 48] true),o 50 (bI .lss 49 0)]
def n0v (F:RK):SS:=[cB 51 x0e [i 0],lD 52 8,mV 53 9,lA 54 8 5,cB 55 x0e [i 1],o 56 (.call (l0P F) [t 52,t 53,t 54,t 55] false),o 57 (.build zA [(0,1,i 2),(1,4,t 51),(6,1,t 56)]),lD 58 8,cK 59 58,o 60 (.fa (F.p 6 7) (t 59)),lD 61 60,sT 8 6 57,mV 7 61]
def n0w (F:RK):SS:=[lD 62 8,o 63 (.call (B0n F) [t 62] true)]
def n0x (F:RK):SS:=[lD 64 8,mV 65 10,o 66 (.call (x0d F) [t 64,t 65] true),mV 11 66]
def n0y (F:RK):SS:=[lD 67 8,o 68 (.mkfn (.func (k0v F)) [] [t 8]),o 69 (.call (l0Q F) [t 67,t 68] true),mV 12 69]
def j0l:SS:=[mV 70 11,o 71 (bI .geq 70 0)]
def l0p (F:RK):SS:=[cB 72 x0e [i 0],mV 73 12,lD 74 8,mV 75 11,o 76 (.call (B0o F) [t 74,t 75] false),o 77 (.build zA [(0,1,i 3),(1,4,t 72),(5,1,t 73),(7,1,t 76)]),lD 78 8,cK 79 78,o 80 (.fa (F.p 6 7) (t 79)),lD 81 80,sT 8 6 77,mV 7 81]
def l0q:SS:=[cA 82 x0e [i 0],o 13 (.alloc a0b zR),sT 4 13 82]
def l0r:SS:=[fA 83 3 4,lD 84 83,lN 85 84,mI 86 0]
def t0z:SS:=[o 87 (bT .lss 86 85)]
def l0s:SS:=[mV 88 86,iA 89 4 84 86,lA 90 4 89,o 15 (.alloc a0b zR),mV 14 88,sT 4 15 90]
def l0t:SS:=[lA 91 4 13,lA 92 4 15,mV 93 12,mV 94 14,iA 95 4 93 94,lA 96 4 95,cB 97 O0b [t 92,t 96],cA 98 u0c [t 91,t 97],sT 4 13 98]
def t0A:SS:=[o 99 (bI .add 86 1),mV 86 99]
def l0u (F:RK):SS:=[lA 100 4 13,mV 101 12,lD 102 8,mV 103 10,lA 104 8 5,fA 105 4 5,lA 106 4 105,o 107 (.call (l0P F) [t 102,t 103,t 104,t 106] false),o 108 (.build zA [(0,1,i 1),(1,4,t 100),(5,1,t 101),(6,1,t 107)]),lD 109 8,cK 110 109,o 111 (.fa (F.p 6 7) (t 110)),lD 112 111,sT 8 6 108,mV 7 112]
def g0a (F:RK):SF:=⟨3,113,[.cell 6 true 8,.tmp 7],
 (qS (gR (n0q F)) (qS (gR (n0r F)) (qS (.draw n0s [0,1,3,7,0,16,48,112,240,15,1023] []) (qS (gR (n0t F)) (qS (qS (.draw (n0u F) [0,1,3,7,15,0,32,96,224,0,992,2016,0,4096,12288,28672,65504,131040,262143,524287] []) (.cond (t 50) (qS (.draw (n0v F) [0,0,0,0,1,31,63,0,128,384,896,127,4095] [(7,11),(10,11)]) .ret) .skip)) (qS (gR (n0w F)) (qS (gR (n0x F)) (qS (gR (n0y F)) (qS (qS (gR j0l) (.cond (t 71) (qS (.draw (l0p F) [0,0,0,0,13,31,0,64,192,448,63,2047] [(6,10),(9,10)]) .ret) .skip)) (qS (gR l0q) (qS (qS (gR l0r) (.block 0 (.loop (qS (gR t0z) (qS (.cond (t 87) .skip (.exit 0)) (qS (.block 1 (qS (gR l0s) (.draw l0t [0,0,0,0,12,28,62,127,255] []))) (gR t0A))))))) (qS (.draw (l0u F) [0,0,0,0,0,0,32,124,255,0,512,1536,3584,511,16383] [(9,13),(12,13)]) .ret))))))))))))⟩
def h0J (F:RK):SS:=F.p [mI 3 0] [o 3 (.alloc a0a zI)]
def h0K (F:RK):SS:=[lD 4 1,cK 5 4,fA 6 3 5,lD 7 6,mV 8 0,iA 9 1 7 8,lD 10 9,lD 11 1,cK 12 11,fA 13 2 12,lD 14 13,o 15 (.ia F.w (t 10) (t 14)),o 16 (.load F.b F.w (t 15))] ++ F.p [mV 3 16] [sT 2 3 16]
def e0x (F:RK):SF:=⟨2,17,(F.p [.tmp 3] [.cell 3 true 2]),
 (qS (gR (h0J F)) (qS (.draw (h0K F) [0,1,3,7,0,31,63,0,128,384,896,2047,4095,8191] []) .ret))⟩
def p0h:SS:=[bX 6 a0Q 2,bX 7 a0b 3,mN 8]
def p0i:SS:=[mN 9]
def p0j:SS:=[mV 13 0,cK 14 13,fA 15 1 14,lD 16 15,mI 17 0]
def z0X:SS:=[o 18 (bT .lss 17 16)]
def p0k:SS:=[mV 19 17,mV 10 19]
def p0l (F:RK):SS:=[mV 21 0,mV 22 0,cK 23 22,fA 24 3 23,lD 25 24,mV 26 1,iA 27 1 25 26,lD 28 27,mV 29 0,cK 30 29,fA 31 0 30,lD 32 31,o 33 (.bin 0 .mul (i 2) (t 32)),mV 34 10,o 35 (bT .add 33 34),o 36 (.ia F.w (t 28) (t 35)),o 37 (.load F.b F.w (t 36)),o 38 (.call (F.p s0D s0C) [t 21,t 37] false),fA 39 2 6,lD 40 39,mV 41 10,iA 42 4 40 41,lA 43 4 42,cB 44 O0b [t 38,t 43],lA 45 4 7,cB 46 B0y [t 44,t 45],mV 20 46,eX 47 20 0,eX 48 20 1,o 11 (.alloc a0b zR),sT 4 11 47,mV 12 48]
def p0m:SS:=[mV 49 9,lA 50 4 11,o 51 (.lit a0b zR 1 [(0,4,t 50)]),o 52 (.app a0b 4 64 (t 49) (t 51)),mV 9 52]
def z0Y:SS:=[o 53 (bI .add 17 1),mV 17 53]
def p0n:SS:=[mV 54 9,mV 8 54]
def i0g (F:RK):SF:=⟨4,55,[.tmp 8],
 (qS (gR p0h) (qS (gR p0i) (qS (qS (gR p0j) (.block 0 (.loop (qS (gR z0X) (qS (.cond (t 18) .skip (.exit 0)) (qS (.block 1 (qS (gR p0k) (qS (.draw (p0l F) [0,0,2,6,14,0,62,126,0,256,768,1792,3840,0,16128,32766,65534,131071,0,262144,0,1835008,3932160,8388607,0,33554431,67108863,134217727,134217727,0,805306367,2147483647] []) (gR p0m)))) (gR z0Y))))))) (qS (gR p0n) .ret))))⟩
def n0a:SS:=[mI 4 0]
def n0b:SS:=[o 5 (.mv (.const (.int .i64 (-1))))]
def n0c:SS:=[mV 8 0,cK 9 8,fA 10 1 9,lD 11 10,mI 12 0]
def v0i:SS:=[o 13 (bT .lss 12 11)]
def n0d:SS:=[mV 14 12,mV 6 14]
def n0e (F:RK):SS:=[mV 15 0,cK 16 15,o 17 (.fa0 (F.p a0d a0c) (t 16)),lA 18 0 17,o 19 (.iface (F.p a0n a0m) (t 18)),mV 20 0,cK 21 20,fA 22 3 21,lD 23 22,mV 24 6,iA 25 1 23 24,lD 26 25,mV 27 1,o 28 (.ia F.w (t 26) (t 27)),o 29 (.load F.b F.w (t 28)),o 30 (.inv (t 19) [(a0m,o0n),(a0n,o0o)] [t 29] true),o 31 (bI .leq 30 0)]
def n0f:SS:=[mV 32 5,o 33 (bI .lss 32 0)]
def n0g:SS:=[mV 34 6,mV 5 34]
def n0h (F:RK):SS:=[mV 35 0,cK 36 35,o 37 (.fa0 (F.p a0d a0c) (t 36)),lA 38 0 37,o 39 (.iface (F.p a0n a0m) (t 38)),mV 40 0,cK 41 40,fA 42 3 41,lD 43 42,mV 44 6,iA 45 1 43 44,lD 46 45,mV 47 0,cK 48 47,fA 49 2 48,lD 50 49,o 51 (.ia F.w (t 46) (t 50)),o 52 (.load F.b F.w (t 51)),mV 53 0,cK 54 53,fA 55 3 54,lD 56 55,mV 57 5,iA 58 1 56 57,lD 59 58,mV 60 1,o 61 (.ia F.w (t 59) (t 60)),o 62 (.load F.b F.w (t 61)),mV 63 0,cK 64 63,fA 65 3 64,lD 66 65,mV 67 5,iA 68 1 66 67,lD 69 68,mV 70 0,cK 71 70,fA 72 2 71,lD 73 72,o 74 (.ia F.w (t 69) (t 73)),o 75 (.load F.b F.w (t 74)),mV 76 0,cK 77 76,fA 78 3 77,lD 79 78,mV 80 6,iA 81 1 79 80,lD 82 81,mV 83 1,o 84 (.ia F.w (t 82) (t 83)),o 85 (.load F.b F.w (t 84)),o 86 (.inv (t 39) [(a0m,z0v),(a0n,z0w)] [t 52,t 62,t 75,t 85] true),mV 7 86]
def g0I (F:RK):SS:=[mV 87 7,o 88 (bI .lss 87 0),mV 89 88,gF 90 89 (mS 7),gF 91 89 (bI .eql 90 0),gF 92 89 (mS 91),gT 93 92 (mS 0),gT 94 92 (.chk (t 93)),gT 95 92 (.fa (F.p 5 6) (t 94)),gT 96 92 (lS 95),gT 97 92 (mS 6),gT 98 92 (iS 1 96 97),gT 99 92 (lS 98),gT 100 92 (mS 0),gT 101 92 (.chk (t 100)),gT 102 92 (.fa (F.p 5 6) (t 101)),gT 103 92 (lS 102),gT 104 92 (mS 5),gT 105 92 (iS 1 103 104),gT 106 92 (lS 105),gT 107 92 (bT .lss 99 106),gF 108 89 (.pick (t 92) (t 107) (.const (.bool false))),pT 109 89 108]
def h0G:SS:=[mV 110 6,mV 5 110]
def t0p:SS:=[o 111 (bI .add 12 1),mV 12 111]
def l0o:SS:=[mV 112 5,mV 4 112]
def f0Z (F:RK):SF:=⟨2,113,[.tmp 4],
 (qS (gR n0a) (qS (gR n0b) (qS (qS (gR n0c) (.block 0 (.loop (qS (gR v0i) (qS (.cond (t 13) .skip (.exit 0)) (qS (.block 1 (qS (gR n0d) (qS (qS (.draw (n0e F) [0,1,3,7,15,0,32,96,224,0,992,2016,0,8160,16352,32767,65535] []) (.cond (t 31) (.exit 1) .skip)) (qS (qS (gR n0f) (.cond (t 33) (qS (gR n0g) (.exit 1)) .skip)) (qS (.draw (n0h F) [0,1,3,7,15,0,32,96,224,0,992,2016,0,4096,12288,28672,65504,131040,0,262144,786432,1835008,0,8126464,16515072,0,66846720,133955584,0,268435456,805306368,1879048192,0,8321499136,16911433728,0,34359738368,103079215104,240518168576,549487378432,1099243192320,0,2199023255552,6597069766656,15393162788864,0,68169720922112,138538465099776,0,560750930165760,1123700883587072,2251799813685247,4503599627370495] []) (qS (.draw (g0I F) [0,1,3,7,15,31,63,127,255,511,63,2047,4095,63,8255,24639,57407,63,254015,516159,1048575,2097151,4194303] []) (.cond (t 109) (gR h0G) .skip))))))) (gR t0p))))))) (qS (gR l0o) .ret))))⟩
def x0z:SS:=[mV 7 0,cK 8 7,fA 9 1 8,lD 10 9,mI 11 0]
def M0c:SS:=[o 12 (bT .lss 11 10)]
def x0A:SS:=[mV 13 11,mV 2 13]
def r0a (F:RK):SS:=[mV 14 0,cK 15 14,o 16 (.fa (F.p 5 6) (t 15)),lD 17 16,mV 18 2,iA 19 1 17 18,lD 20 19,mV 21 0,cK 22 21,fA 23 2 22,lD 24 23,o 25 (bT .lss 20 24)]
def x0B:SS:=[mV 26 0,cK 27 26,fA 28 2 27,lD 29 28,mI 30 0]
def M0d:SS:=[o 31 (bT .lss 30 29)]
def x0C:SS:=[mV 32 30,mV 3 32]
def x0D (F:RK):SS:=[mV 33 0,cK 34 33,o 35 (.fa0 (F.p a0d a0c) (t 34)),lA 36 0 35,o 37 (.iface (F.p a0n a0m) (t 36)),mV 38 0,cK 39 38,fA 40 3 39,lD 41 40,mV 42 2,iA 43 1 41 42,lD 44 43,mV 45 3,o 46 (.ia F.w (t 44) (t 45)),o 47 (.load F.b F.w (t 46)),o 48 (.inv (t 37) [(a0m,o0n),(a0n,o0o)] [t 47] true),mV 4 48]
def l0S:SS:=[mV 49 4,o 50 (bI .eql 49 0)]
def r0b:SS:=[mV 51 4,o 52 (bI .lss 51 0)]
def t0x:SS:=[mV 53 0,cK 54 53,fA 55 3 54,lD 56 55,mV 57 2,iA 58 1 56 57,lD 59 58,lN 60 59,mI 61 0]
def C0W:SS:=[o 62 (bT .lss 61 60)]
def j0X (F:RK):SS:=[mV 63 61,o 64 (.ia F.w (t 59) (t 61)),o 65 (.load F.b F.w (t 64))] ++ F.p [] [o 6 (.alloc a0a zI)] ++ [mV 5 63] ++ F.p [mV 6 65] [sT 2 6 65]
def t0y (F:RK):SS:=[mV 66 0,cK 67 66,fA 68 3 67,lD 69 68,mV 70 2,iA 71 1 69 70,lD 72 71,mV 73 5,mV 74 0,cK 75 74,o 76 (.fa0 (F.p a0d a0c) (t 75)),lA 77 0 76,o 78 (.iface (F.p a0n a0m) (t 77))] ++ F.p [mV 79 6] [lA 79 2 6] ++ [o 80 (.inv (t 78) [(a0m,m0y),(a0n,m0z)] [t 79] false),o 81 (.ia F.w (t 72) (t 73)),⟨none,none,.store F.w (t 81) (t 80)⟩]
def C0X:SS:=[o 82 (bI .add 61 1),mV 61 82]
def n0i (F:RK):SS:=[mV 83 0,mV 84 2,mV 85 3,o 86 (.call (F.p u0F u0E) [t 83,t 84,t 85] true)]
def C0Y:SS:=[o 87 (bI .add 30 1),mV 30 87]
def C0Z:SS:=[o 88 (bI .add 11 1),mV 11 88]
def p0S (F:RK):SF:=⟨1,89,[],
 (qS (gR x0z) (.block 0 (.loop (qS (gR M0c) (qS (.cond (t 12) .skip (.exit 0)) (qS (.block 1 (qS (gR x0A) (qS (qS (.draw (r0a F) [0,1,3,7,0,31,63,0,128,384,896,2047] []) (.cond (t 25) (.exit 1) .skip)) (qS (gR x0B) (.block 2 (.loop (qS (gR M0d) (qS (.cond (t 31) .skip (.exit 2)) (qS (.block 3 (qS (gR x0C) (qS (.draw (x0D F) [0,1,3,7,15,0,32,96,224,0,992,2016,0,8160,16352,32767,65535] []) (qS (qS (gR l0S) (.cond (t 50) (.exit 3) .skip)) (qS (qS (gR r0b) (.cond (t 52) (qS (gR t0x) (.block 4 (.loop (qS (gR C0W) (qS (.cond (t 62) .skip (.exit 4)) (qS (.block 5 (qS (gR (j0X F)) (.draw (t0y F) [0,1,3,7,0,31,63,0,0,256,768,1792,3840,0,16128,32767,65535] []))) (gR C0X))))))) .skip)) (qS (gR (n0i F)) (.exit 2))))))) (gR C0Y)))))))))) (gR C0Z)))))))⟩
def p0H:SS:=[mN 4]
def p0I:SS:=[mV 9 0,cK 10 9,fA 11 0 10,lD 12 11,o 13 (.mk a0b 64 zR (t 12) (t 12)),mV 5 13]
def p0J:SS:=[mV 14 5,lN 15 14,mI 16 0]
def A0g:SS:=[o 17 (bT .lss 16 15)]
def p0K:SS:=[mV 18 16,mV 6 18]
def p0L:SS:=[mV 19 5,mV 20 6,cA 21 x0e [i 0],iA 22 4 19 20,sT 4 22 21]
def A0h:SS:=[o 23 (bI .add 16 1),mV 16 23]
def p0M (F:RK):SS:=[mV 24 0,cK 25 24,o 26 (.fa (F.p 5 6) (t 25)),lD 27 26,lN 28 27,mI 29 0]
def A0i:SS:=[o 30 (bT .lss 29 28)]
def p0N:SS:=[mV 31 29,iA 32 1 27 29,lD 33 32,mV 7 31,mV 8 33]
def n0j:SS:=[mV 35 8,mV 36 0,cK 37 36,fA 38 0 37,lD 39 38,o 40 (bT .lss 35 39),mV 34 40]
def n0k (F:RK):SS:=[mV 41 5,mV 42 8,mV 43 5,mV 44 8,iA 45 4 43 44,lA 46 4 45,mV 47 0,mV 48 1,mV 49 7,o 50 (.callv (t 48) [t 49] false),o 51 (.call (F.p s0D s0C) [t 47,t 50] false),cA 52 u0c [t 46,t 51],iA 53 4 41 42,sT 4 53 52]
def n0l:SS:=[mV 55 8,mV 56 0,cK 57 56,fA 58 0 57,lD 59 58,o 60 (.bin 0 .mul (i 2) (t 59)),o 61 (bT .lss 55 60),mV 54 61]
def n0m (F:RK):SS:=[mV 62 5,mV 63 8,mV 64 0,cK 65 64,fA 66 0 65,lD 67 66,o 68 (bT .sub 63 67),mV 69 5,mV 70 8,mV 71 0,cK 72 71,fA 73 0 72,lD 74 73,o 75 (bT .sub 70 74),iA 76 4 69 75,lA 77 4 76,mV 78 0,mV 79 1,mV 80 7,o 81 (.callv (t 79) [t 80] false),o 82 (.call (F.p s0D s0C) [t 78,t 81] false),cB 83 z0s [t 77,t 82],iA 84 4 62 68,sT 4 84 83]
def v0j:SS:=[o 85 (bI .add 29 1),mV 29 85]
def n0n:SS:=[mV 86 5,mV 4 86]
def i0h (F:RK):SF:=⟨2,87,[.tmp 4],
 (qS (gR p0H) (qS (gR p0I) (qS (qS (gR p0J) (.block 0 (.loop (qS (gR A0g) (qS (.cond (t 17) .skip (.exit 0)) (qS (.block 1 (qS (gR p0K) (gR p0L))) (gR A0h))))))) (qS (qS (gR (p0M F)) (.block 2 (.loop (qS (gR A0i) (qS (.cond (t 30) .skip (.exit 2)) (qS (.block 3 (qS (gR p0N) (.block 4 (qS (gR n0j) (.cond (t 34) (.draw (n0k F) [0,0,0,0,12,28,0,0,0,384,960,2044,4095,8191] []) (qS (gR n0l) (.cond (t 54) (.draw (n0m F) [0,0,0,4,12,28,62,0,0,0,512,1536,3584,7936,16256,32640,0,0,0,393216,983040,2097024,4194303,8388607] []) .skip))))))) (gR v0j))))))) (qS (gR n0n) .ret)))))⟩
def x0E (F:RK):SS:=[o 2 (.box (F.p a0H a0F) (t 0)),bX 3 e0L 1,mN 4]
def x0F (F:RK):SS:=[lD 6 2,o 7 (.mkfn (.func (u0B F)) [] [t 2,t 3]),o 8 (.call (l0Q F) [t 6,t 7] true),mV 5 8]
def x0G:SS:=[lD 10 3,lD 11 2,cK 12 11,fA 13 0 12,lD 14 13,o 15 (bT .lss 10 14),mV 9 15]
def x0H:SS:=[mV 16 5,lD 17 3,mV 18 5,lD 19 3,iA 20 4 18 19,lA 21 4 20,cB 22 x0e [i 1],cB 23 u0c [t 21,t 22],iA 24 4 16 17,sT 4 24 23]
def x0I:SS:=[lD 26 3,lD 27 2,cK 28 27,fA 29 0 28,lD 30 29,o 31 (.bin 0 .mul (i 2) (t 30)),o 32 (bT .lss 26 31),mV 25 32]
def x0J:SS:=[mV 33 5,lD 34 3,lD 35 2,cK 36 35,fA 37 0 36,lD 38 37,o 39 (bT .sub 34 38),mV 40 5,lD 41 3,lD 42 2,cK 43 42,fA 44 0 43,lD 45 44,o 46 (bT .sub 41 45),iA 47 4 40 46,lA 48 4 47,cB 49 x0e [i 1],cB 50 z0s [t 48,t 49],iA 51 4 33 39,sT 4 51 50]
def l0T:SS:=[mV 52 5,mV 4 52]
def p0T (F:RK):SF:=⟨2,53,[.tmp 4],
 (qS (gR (x0E F)) (qS (gR (x0F F)) (qS (.block 0 (qS (.draw x0G [0,0,2,6,14,31,63] []) (.cond (t 9) (.draw x0H [0,0,0,0,12,28,0,124,255,511] []) (qS (.draw x0I [0,0,2,6,14,30,63,127] []) (.cond (t 25) (.draw x0J [0,0,0,4,12,28,62,0,0,0,512,1536,3584,7936,16256,32640,0,130944,262143,524287] []) .skip))))) (qS (gR l0T) .ret))))⟩
def n0o (F:RK):SS:=F.p [mI 4 0] [o 4 (.alloc a0a zI)]
def n0p (F:RK):SS:=[lD 5 1,cK 6 5,o 7 (.fa0 (F.p a0d a0c) (t 6)),lA 8 0 7,o 9 (.iface (F.p a0n a0m) (t 8)),lD 10 1,cK 11 10,fA 12 3 11,lD 13 12,mV 14 0,iA 15 1 13 14,lD 16 15,lD 17 2,o 18 (.ia F.w (t 16) (t 17)),o 19 (.load F.b F.w (t 18)),o 20 (.inv (t 9) [(a0m,m0y),(a0n,m0z)] [t 19] true)] ++ F.p [mV 4 20] [sT 2 4 20]
def j0n (F:RK):SF:=⟨3,21,(F.p [.tmp 4] [.cell 4 true 2]),
 (qS (gR (n0o F)) (qS (.draw (n0p F) [0,1,3,7,15,0,32,96,224,0,992,2016,0,8160,16352,32767,65535] []) .ret))⟩
def x0K:SS:=[mI 4 0]
def x0L:SS:=[mI 5 0]
def r0c (F:RK):SS:=[mV 7 5,mV 8 0,cK 9 8,fA 10 2 9,lD 11 10,o 12 (bT .lss 7 11),mV 13 12,gT 14 13 (mS 0),gT 15 13 (.chk (t 14)),gT 16 13 (.fa0 (F.p a0d a0c) (t 15)),gT 17 13 (aS 0 16),gT 18 13 (.iface (F.p a0n a0m) (t 17)),gT 19 13 (mS 0),gT 20 13 (.chk (t 19)),gT 21 13 (fS 3 20),gT 22 13 (lS 21),gT 23 13 (mS 1),gT 24 13 (iS 1 22 23),gT 25 13 (lS 24),gT 26 13 (mS 5),gT 27 13 (.ia F.w (t 25) (t 26)),gT 28 13 (.load F.b F.w (t 27)),gT 29 13 (.inv (t 18) [(a0m,o0n),(a0n,o0o)] [t 28] true),gT 30 13 (bI .geq 29 0),pF 31 13 30]
def x0M:SS:=[mV 32 5,o 33 (bI .add 32 1),mV 5 33]
def r0d:SS:=[mV 34 5,mV 35 0,cK 36 35,fA 37 2 36,lD 38 37,o 39 (bT .eql 34 38)]
def x0N:SS:=[o 4 (.mv (.const (.int .i64 (-1))))]
def x0O (F:RK):SS:=[mV 40 0,mV 41 5,o 42 (.call (m0v F) [t 40,t 41] true),mV 6 42]
def r0e:SS:=[mV 43 6,o 44 (bI .lss 43 0)]
def x0P:SS:=[mV 45 5,mV 4 45]
def x0Q (F:RK):SS:=[mV 46 0,mV 47 6,mV 48 5,o 49 (.call (F.p u0F u0E) [t 46,t 47,t 48] true)]
def p0U (F:RK):SF:=⟨2,50,[.tmp 4],
 (qS (gR x0K) (.block 0 (.loop (.block 1 (qS (gR x0L) (qS (.block 2 (.loop (qS (qS (.draw (r0c F) [0,0,2,6,14,31,63,127,255,511,1023,2047,127,4223,12415,28799,127,127103,258175,127,1044607,2093183,4194303,8388607,16777215] []) (.cond (t 31) .skip (.exit 2))) (.block 3 (gR x0M))))) (qS (qS (gR r0d) (.cond (t 39) (qS (gR x0N) .ret) .skip)) (qS (gR (x0O F)) (qS (qS (gR r0e) (.cond (t 44) (qS (gR x0P) .ret) .skip)) (gR (x0Q F)))))))))))⟩
def u0u:List (Nat × w0J):=[
 (f_5,s_5),
 (f_7,s_7),
 (f_8,s_8),
 (a1H,d1M),
 (Y0W,d1N),
 (Y0X,d1O),
 (a1I,c1L),
 (L0s,d1P),
 (a1J,d1Q),
 (Y0Y,d1R),
 (Y0Z,d1S),
 (K0I,d1T),
 (Z0a,d1U),
 (X0e,d1V),
 (a1K,d1W),
 (a1L,d1X),
 (a1M,d1Y),
 (Z0b,d1Z),
 (Z0c,e1a),
 (a1N,e1b),
 (a1O,e1c),
 (a1P,e1d),
 (N0Z,e1e),
 (Z0d,e1f),
 (a1Q,e1g),
 (Z0e,e1h),
 (Z0f,c1M),
 (X0f,e1i),
 (u0H,e1j),
 (a1R,e1k),
 (Z0g,e1l),
 (a1S,e1m),
 (X0g,e1n),
 (Z0h,e1o),
 (a1T,e1p),
 (Z0i,e1q),
 (Z0j,e1r),
 (a1U,e1s),
 (a1V,e1t),
 (a1W,e1u),
 (a1X,e1v),
 (a1Y,e1w),
 (a1Z,e1x),
 (b1a,e1y),
 (b1b,e1z),
 (u0c,e1A),
 (Z0k,e1B),
 (b1c,e1C),
 (L0t,e1D),
 (z0y,e1E),
 (X0h,e1F),
 (z0z,e1G),
 (b1d,e1H),
 (b1e,e1I),
 (u0I,e1J),
 (Z0l,e1K),
 (Z0m,e1L),
 (X0i,e1M),
 (B0J,e1N),
 (b1f,e1O),
 (b1g,e1P),
 (Z0n,e1Q),
 (b1h,e1R),
 (b1i,e1S),
 (b1j,e1T),
 (x0e,e1U),
 (Z0o,e1V),
 (O0a,e1W),
 (L0u,e1X),
 (O0b,e1Y),
 (b1k,e1Z),
 (b1l,f1a),
 (b1m,f1b),
 (d1B,g0a .all),
 (B0K,f1c),
 (Z0p,f1d),
 (b1n,f1e),
 (B0L,f1f),
 (s0G,f1g),
 (b1o,f1h),
 (b1p,f1i),
 (b1q,f1j),
 (X0j,Z0C),
 (O0c,f1k),
 (b1r,f1l),
 (Z0q,f1m),
 (X0k,f1n),
 (Z0r,f1o),
 (u0C,M0s),
 (B0p,M0t),
 (B0q,M0u),
 (k0w,M0v),
 (u0D,M0w),
 (B0r,M0x),
 (g0W,M0y),
 (e0t,M0z),
 (g0i,M0A),
 (B0s,M0B),
 (z0m,M0C),
 (z0n,M0D),
 (s0y,g0a .few),
 (W0M,k0S .all),
 (W0N,p0U .all),
 (W0O,i0g .all),
 (W0P,p0S .all),
 (W0Q,i0h .all),
 (W0R,e0x .all),
 (W0S,p0T .all),
 (z0o,M0E),
 (q0t,M0F),
 (B0t,M0G),
 (s0z,M0H),
 (z0p,M0I),
 (g0j,M0J),
 (B0u,M0K),
 (B0v,M0L),
 (B0w,M0M),
 (s0A,M0N),
 (z0q,M0O),
 (o0k,M0P),
 (s0B,M0Q),
 (B0x,M0R),
 (m0x,M0S),
 (W0T,k0S .few),
 (W0U,p0U .few),
 (W0V,i0g .few),
 (W0W,p0S .few),
 (W0X,i0h .few),
 (W0Y,e0x .few),
 (W0Z,p0T .few),
 (o0l,M0T),
 (z0r,M0U),
 (X0a,f0Z .all),
 (u0E,M0V),
 (B0y,M0W),
 (s0C,M0X),
 (z0s,M0Y),
 (X0b,j0n .all),
 (B0z,M0Z),
 (B0A,N0a),
 (B0B,N0b),
 (B0C,N0c),
 (o0m,N0d),
 (z0t,N0e),
 (X0c,f0Z .few),
 (u0F,N0f),
 (s0D,N0g),
 (X0d,j0n .few),
 (B0D,N0h),
 (z0u,N0i),
 (B0E,N0j),
 (B0F,N0k),
 (B0G,N0l),
 (z0v,N0m),
 (m0y,N0n),
 (s0E,N0o),
 (k0x,N0p),
 (o0n,N0q),
 (q0u,N0r),
 (B0H,N0s),
 (z0w,N0t),
 (m0z,N0u),
 (s0F,N0v),
 (j0D,K0k),
 (o0o,N0w),
 (q0v,N0x),
 (z0x,N0y),
 (B0I,N0z),
 (u0G,K0l)]
def q0k:List (Nat × w0J):=[(f_9,s_9)]
def env:Env:=⟨fun f=>(u0u ++ q0k).lookup f,some ⟨L0v,s0y,[.int .i64 0,.bool false,.slice none 0 0,.bool false,.slice none 0 0,.slice none 0 0,.slice none 0 0,.slice none 0 0],4,8⟩,[]⟩
theorem e_5:env.code f_5=some s_5:=rfl
theorem e_7:env.code f_7=some s_7:=rfl
theorem e_8:env.code f_8=some s_8:=rfl
theorem i1G:env.code a1H=some d1M:=rfl
theorem i1H:env.code Y0W=some d1N:=rfl
theorem i1I:env.code Y0X=some d1O:=rfl
theorem i1J:env.code a1I=some c1L:=rfl
theorem i1K:env.code L0s=some d1P:=rfl
theorem i1L:env.code a1J=some d1Q:=rfl
theorem i1M:env.code Y0Y=some d1R:=rfl
theorem i1N:env.code Y0Z=some d1S:=rfl
theorem i1O:env.code K0I=some d1T:=rfl
theorem i1P:env.code Z0a=some d1U:=rfl
theorem i1Q:env.code X0e=some d1V:=rfl
theorem i1R:env.code a1K=some d1W:=rfl
theorem i1S:env.code a1L=some d1X:=rfl
theorem i1T:env.code a1M=some d1Y:=rfl
theorem i1U:env.code Z0b=some d1Z:=rfl
theorem i1V:env.code Z0c=some e1a:=rfl
theorem i1W:env.code a1N=some e1b:=rfl
theorem i1X:env.code a1O=some e1c:=rfl
theorem i1Y:env.code a1P=some e1d:=rfl
theorem i1Z:env.code N0Z=some e1e:=rfl
theorem j1a:env.code Z0d=some e1f:=rfl
theorem j1b:env.code a1Q=some e1g:=rfl
theorem j1c:env.code Z0e=some e1h:=rfl
theorem i1g:env.code Z0f=some c1M:=rfl
theorem j1d:env.code X0f=some e1i:=rfl
theorem j1e:env.code u0H=some e1j:=rfl
theorem j1f:env.code a1R=some e1k:=rfl
theorem j1g:env.code Z0g=some e1l:=rfl
theorem j1h:env.code a1S=some e1m:=rfl
theorem j1i:env.code X0g=some e1n:=rfl
theorem j1j:env.code Z0h=some e1o:=rfl
theorem j1k:env.code a1T=some e1p:=rfl
theorem j1l:env.code Z0i=some e1q:=rfl
theorem j1m:env.code Z0j=some e1r:=rfl
theorem j1n:env.code a1U=some e1s:=rfl
theorem j1o:env.code a1V=some e1t:=rfl
theorem j1p:env.code a1W=some e1u:=rfl
theorem j1q:env.code a1X=some e1v:=rfl
theorem j1r:env.code a1Y=some e1w:=rfl
theorem j1s:env.code a1Z=some e1x:=rfl
theorem j1t:env.code b1a=some e1y:=rfl
theorem j1u:env.code b1b=some e1z:=rfl
theorem j1v:env.code u0c=some e1A:=rfl
theorem j1w:env.code Z0k=some e1B:=rfl
theorem j1x:env.code b1c=some e1C:=rfl
theorem j1y:env.code L0t=some e1D:=rfl
theorem j1z:env.code z0y=some e1E:=rfl
theorem j1A:env.code X0h=some e1F:=rfl
theorem j1B:env.code z0z=some e1G:=rfl
theorem j1C:env.code b1d=some e1H:=rfl
theorem j1D:env.code b1e=some e1I:=rfl
theorem j1E:env.code u0I=some e1J:=rfl
theorem j1F:env.code Z0l=some e1K:=rfl
theorem j1G:env.code Z0m=some e1L:=rfl
theorem j1H:env.code X0i=some e1M:=rfl
theorem j1I:env.code B0J=some e1N:=rfl
theorem j1J:env.code b1f=some e1O:=rfl
theorem j1K:env.code b1g=some e1P:=rfl
theorem j1L:env.code Z0n=some e1Q:=rfl
theorem j1M:env.code b1h=some e1R:=rfl
theorem j1N:env.code b1i=some e1S:=rfl
theorem j1O:env.code b1j=some e1T:=rfl
theorem j1P:env.code x0e=some e1U:=rfl
theorem j1Q:env.code Z0o=some e1V:=rfl
theorem j1R:env.code O0a=some e1W:=rfl
theorem j1S:env.code L0u=some e1X:=rfl
theorem j1T:env.code O0b=some e1Y:=rfl
theorem j1U:env.code b1k=some e1Z:=rfl
theorem j1V:env.code b1l=some f1a:=rfl
theorem j1W:env.code b1m=some f1b:=rfl
theorem B0k {F:RK}:env.code (m0w F)=some (g0a F):=by cases F <;> rfl
theorem j1X:env.code B0K=some f1c:=rfl
theorem j1Y:env.code Z0p=some f1d:=rfl
theorem j1Z:env.code b1n=some f1e:=rfl
theorem k1a:env.code B0L=some f1f:=rfl
theorem k1b:env.code s0G=some f1g:=rfl
theorem k1c:env.code b1o=some f1h:=rfl
theorem k1d:env.code b1p=some f1i:=rfl
theorem k1e:env.code b1q=some f1j:=rfl
theorem k1f:env.code X0j=some Z0C:=rfl
theorem k1g:env.code O0c=some f1k:=rfl
theorem k1h:env.code b1r=some f1l:=rfl
theorem k1i:env.code Z0q=some f1m:=rfl
theorem k1j:env.code X0k=some f1n:=rfl
theorem k1k:env.code Z0r=some f1o:=rfl
theorem g1q:env.code u0C=some M0s:=rfl
theorem g1r:env.code B0p=some M0t:=rfl
theorem g1s:env.code B0q=some M0u:=rfl
theorem g1t:env.code k0w=some M0v:=rfl
theorem g1u:env.code u0D=some M0w:=rfl
theorem g1v:env.code B0r=some M0x:=rfl
theorem g1w:env.code g0W=some M0y:=rfl
theorem g1x:env.code e0t=some M0z:=rfl
theorem g1y:env.code g0i=some M0A:=rfl
theorem g1z:env.code B0s=some M0B:=rfl
theorem g1A:env.code z0m=some M0C:=rfl
theorem g1B:env.code z0n=some M0D:=rfl
theorem W0I {F:RK}:env.code (u0A F)=some (k0S F):=by cases F <;> rfl
theorem a1C {F:RK}:env.code (x0d F)=some (p0U F):=by cases F <;> rfl
theorem L0p {F:RK}:env.code (l0P F)=some (i0g F):=by cases F <;> rfl
theorem a1A {F:RK}:env.code (B0n F)=some (p0S F):=by cases F <;> rfl
theorem L0q {F:RK}:env.code (l0Q F)=some (i0h F):=by cases F <;> rfl
theorem z0k {F:RK}:env.code (k0v F)=some (e0x F):=by cases F <;> rfl
theorem a1B {F:RK}:env.code (B0o F)=some (p0T F):=by cases F <;> rfl
theorem g1C:env.code z0o=some M0E:=rfl
theorem g1D:env.code q0t=some M0F:=rfl
theorem g1E:env.code B0t=some M0G:=rfl
theorem g1F:env.code s0z=some M0H:=rfl
theorem g1G:env.code z0p=some M0I:=rfl
theorem g1H:env.code g0j=some M0J:=rfl
theorem g1I:env.code B0u=some M0K:=rfl
theorem g1J:env.code B0v=some M0L:=rfl
theorem g1K:env.code B0w=some M0M:=rfl
theorem g1L:env.code s0A=some M0N:=rfl
theorem g1M:env.code z0q=some M0O:=rfl
theorem g1N:env.code o0k=some M0P:=rfl
theorem g1O:env.code s0B=some M0Q:=rfl
theorem g1P:env.code B0x=some M0R:=rfl
theorem g1Q:env.code m0x=some M0S:=rfl
theorem g1R:env.code o0l=some M0T:=rfl
theorem g1S:env.code z0r=some M0U:=rfl
theorem B0j {F:RK}:env.code (m0v F)=some (f0Z F):=by cases F <;> rfl
theorem g1T:env.code u0E=some M0V:=rfl
theorem g1U:env.code B0y=some M0W:=rfl
theorem g1V:env.code s0C=some M0X:=rfl
theorem g1W:env.code z0s=some M0Y:=rfl
theorem W0J {F:RK}:env.code (u0B F)=some (j0n F):=by cases F <;> rfl
theorem g1X:env.code B0z=some M0Z:=rfl
theorem g1Y:env.code B0A=some N0a:=rfl
theorem g1Z:env.code B0B=some N0b:=rfl
theorem h1a:env.code B0C=some N0c:=rfl
theorem h1b:env.code o0m=some N0d:=rfl
theorem h1d:env.code z0t=some N0e:=rfl
theorem h1f:env.code u0F=some N0f:=rfl
theorem h1g:env.code s0D=some N0g:=rfl
theorem h1h:env.code B0D=some N0h:=rfl
theorem h1i:env.code z0u=some N0i:=rfl
theorem h1j:env.code B0E=some N0j:=rfl
theorem h1k:env.code B0F=some N0k:=rfl
theorem h1l:env.code B0G=some N0l:=rfl
theorem h1m:env.code z0v=some N0m:=rfl
theorem h1n:env.code m0y=some N0n:=rfl
theorem h1o:env.code s0E=some N0o:=rfl
theorem h1p:env.code k0x=some N0p:=rfl
theorem h1q:env.code o0n=some N0q:=rfl
theorem h1r:env.code q0u=some N0r:=rfl
theorem h1s:env.code B0H=some N0s:=rfl
theorem h1t:env.code z0w=some N0t:=rfl
theorem h1u:env.code m0z=some N0u:=rfl
theorem h1v:env.code s0F=some N0v:=rfl
theorem a1D:env.code j0D=some K0k:=rfl
theorem h1w:env.code o0o=some N0w:=rfl
theorem h1x:env.code q0v=some N0x:=rfl
theorem h1y:env.code z0x=some N0y:=rfl
theorem h1z:env.code B0I=some N0z:=rfl
theorem a1E:env.code u0G=some K0l:=rfl
theorem e_9:env.code f_9=some s_9:=rfl
end
section
variable {E:Env} {fl:Nat} {t:b0c} {H G:a0f} {K:o0d} {R:a0D}
def Sl (H:a0f) (e sz:Nat) (v:Value) (n:Nat) (cs:List Value):Prop :=
 cs.length=n * sz/\((v=.slice none 0 0/\n=0) ∨
  ∃ b off cap ro cells,v=.slice (some ⟨b,off,none⟩) n cap/\H.bk b=.row ro e cells/\off + n * sz<=cells.length/\cs=(cells.drop off).take (n * sz))
variable {e sz n:Nat} {v:Value} {cs:List Value}
theorem Sl.mo (h:Sl H e sz v n cs) (u:Ext H G):Sl G e sz v n cs:=by
 obtain ⟨s,h⟩:=h
 refine ⟨s,?_⟩
 rcases h with h | ⟨b,off,cap,ro,cells,c,j,k,q⟩
 ·exact .inl h
 ·exact .inr ⟨b,off,cap,ro,cells,c,u.bk j,k,q⟩
theorem Sl.nil:Sl H e sz (.slice none 0 0) 0 []:=⟨by simp,.inl ⟨rfl,rfl⟩⟩
theorem Sl.slen (h:Sl H e sz v n cs):g0b v=some (.int .i64 n):=by
 obtain ⟨_,⟨rfl,rfl⟩ | ⟨b,off,cap,ro,cells,rfl,_⟩⟩:=h <;> simp [g0b]
theorem Sl.ia (h:Sl H e sz v n cs) {k:IntKind} {j:Nat} (c:j < n):iaV sz v (.int k j)=some (adr sz v j):=by
 obtain ⟨_,⟨rfl,rfl⟩ | ⟨b,off,cap,ro,cells,rfl,_⟩⟩:=h
 ·omega
 ·simp only [iaV,adr];rw [k1B (by omega)];simp
theorem Sl.iaZ (h:Sl H e sz v n cs) {k:IntKind} {z:Int} (c:0<=z) (q:z < n):iaV sz v (.int k z)=some (adr sz v z.toNat):=by
 have:=h.ia (k:=k) (j:=z.toNat) (by omega)
 rwa [m1P c] at this
theorem Sl.load (h:Sl H e sz v n cs) (q:Ext H G) {j:Nat} (k:j < n) (hs:0 < sz):b0v G true sz (adr sz v j)=some (.agg ((cs.drop (j * sz)).take sz).toArray):=by
 obtain ⟨s,⟨rfl,rfl⟩ | ⟨b,off,cap,ro,cells,rfl,hb,ho,rfl⟩⟩:=h
 ·omega
 ·have c:(j + 1) * sz<=n * sz:=k1E sz k
  rw [k1R,l1l] at c
  have hc:=f0t (off:=off + j * sz) (n:=sz) (q.bk hb) (by omega)
  simp only [adr,b0v]
  rw [k1y (by omega),k1y (by simp)]
  simp only [l1o,hc]
  rw [m1S,m1H,m1g,l1x (by omega)]
theorem Sl.load1 (h:Sl H e 1 v n cs) (c:Ext H G) {j:Nat} (k:j < n):b0v G false 1 (adr 1 v j)=some (cs.getD j undef):=by
 obtain ⟨q,⟨rfl,rfl⟩ | ⟨b,off,cap,ro,cells,rfl,hb,ho,rfl⟩⟩:=h
 ·omega
 ·have hc:=f0t (off:=off + j * 1) (n:=1) (c.bk hb) (by omega)
  simp only [adr,b0v]
  rw [k1y (by simp),k1y (by simp)]
  simp only [hc,k1W,l1y]
  rw [List.head?_take,k1y (by simp),List.head?_drop,k1v,l1K,k1B (by omega),l1Q]
  simp only [l1H] at ho ⊢
  rw [k1A (by omega)]
  rfl
theorem Sl.elemOk (h:Sl H e sz v n cs) {G:a0f} (c:Ext H G):AI.elemOk G e v=true:=by
 obtain ⟨j,⟨rfl,rfl⟩ | ⟨b,off,cap,ro,cells,rfl,hb,ho,rfl⟩⟩:=h
 ·rfl
 ·unfold AI.elemOk
  simp only [c.bk hb]
  cases ro <;> simp
theorem Sl.cells (h:Sl H e sz v n cs):a0W v=[v]:=by
 obtain ⟨c,⟨rfl,rfl⟩ | ⟨b,off,cap,ro,cells,rfl,hb,ho,rfl⟩⟩:=h <;> rfl
theorem Sl.plain (h:Sl H e sz v n cs):a0v v=true:=by
 obtain ⟨c,⟨rfl,rfl⟩ | ⟨b,off,cap,ro,cells,rfl,hb,ho,rfl⟩⟩:=h <;> rfl
theorem Sl.slice (h:Sl H e sz v n cs) {lo hi:Nat} (s:lo<=hi) (c:hi<=n) {x y:Option Value} (k:bnd 0 x=some lo) (q:bnd n y=some hi) :
  ∃ v',e0g sz v x y none=some v'/\Sl H e sz v' (hi - lo) ((cs.drop (lo * sz)).take ((hi - lo) * sz)):=by
 obtain ⟨u,⟨rfl,rfl⟩ | ⟨b,off,cap,ro,cells,rfl,hb,ho,rfl⟩⟩:=h
 ·have:lo=0:=by omega
  have:hi=0:=by omega
  subst lo hi
  refine ⟨.slice none 0 0,?_,by simp,.inl ⟨rfl,rfl⟩⟩
  unfold e0g;simp [k,q];intro h;exact k1Q h (by decide)
 ·refine ⟨_,by unfold e0g;simp only [k,q];rw [k1B ⟨s,c⟩];rfl,?_,.inr ⟨b,off + lo * sz,_,ro,cells,rfl,hb,?_,?_⟩⟩
  ·simp only [l1v,List.length_drop]
   have j:(hi - lo) * sz + lo * sz=hi * sz:=by rw [<- k1R];congr 1;omega
   have e2:hi * sz<=n * sz:=k1E sz c
   omega
  ·have j:(hi - lo) * sz + lo * sz=hi * sz:=by rw [<- k1R];congr 1;omega
   have e2:hi * sz<=n * sz:=k1E sz c
   omega
  ·have j:(hi - lo) * sz + lo * sz=hi * sz:=by rw [<- k1R];congr 1;omega
   have e2:hi * sz<=n * sz:=k1E sz c
   rw [m1S,m1H,m1g,l1x (by omega)]
theorem Sl.setT (h:Sl H e sz v n cs) {p:Nat} {ro:Bool} {e':TypeId} {j:List Value} {r:Blk} (hb:H.bk p=.row ro e' j) (k:e' ≠ e):Sl (H.setIfInBounds p r) e sz v n cs:=by
 obtain ⟨q,h | ⟨b,off,cap,ro,cells,rfl,c,ho,rfl⟩⟩:=h
 ·exact ⟨q,.inl h⟩
 ·refine ⟨q,.inr ⟨b,off,cap,ro,cells,rfl,?_,ho,rfl⟩⟩
  rw [a0T];exact c
  rintro rfl
  rw [c] at hb;cases hb;exact k rfl
def c0e (l:List Nat):List Value:=l.map fun x=>.int .u32 (x:Nat)
@[simp] theorem j0b {l:List Nat}:(c0e l).length=l.length:=by simp [c0e]
def Lim (H:a0f) (v:Value) (l:List Nat):Prop:=Sl H a0l 1 v l.length (c0e l)/\∀ x ∈ l,x < 4294967296
variable {l:List Nat}
theorem Lim.mo (h:Lim H v l) (c:Ext H G):Lim G v l:=⟨h.1.mo c,h.2⟩
theorem Lim.nil:Lim H (.slice none 0 0) []:=⟨Sl.nil,by simp⟩
theorem Lim.slen (h:Lim H v l):g0b v=some (.int .i64 l.length):=h.1.slen
theorem Lim.ia (h:Lim H v l) {k:IntKind} {j:Nat} (c:j < l.length):iaV 1 v (.int k j)=some (adr 1 v j):=h.1.ia c
theorem Lim.iaZ (h:Lim H v l) {k:IntKind} {z:Int} (c:0<=z) (e:z < l.length):iaV 1 v (.int k z)=some (adr 1 v z.toNat):=h.1.iaZ c e
theorem Lim.load (h:Lim H v l) {j:Nat} (c:j < l.length) {G:a0f} (e:Ext H G):b0v G false 1 (adr 1 v j)=some (.int .u32 (l.getD j 0)):=by
 rw [h.1.load1 e c]
 simp [c0e,k1v,l1N,c]
theorem Lim.setT (h:Lim H v l) {p:Nat} {ro:Bool} {e':TypeId} {c:List Value} {r:Blk} (hb:H.bk p=.row ro e' c) (e:e' ≠ a0l):Lim (H.setIfInBounds p r) v l:=⟨h.1.setT hb e,h.2⟩
theorem Lim.elemOk (h:Lim H v l) {G:a0f} (c:Ext H G):AI.elemOk G a0l v=true:=h.1.elemOk c
theorem Lim.cells (h:Lim H v l):a0W v=[v]:=h.1.cells
theorem Lim.plain (h:Lim H v l):a0v v=true:=h.1.plain
theorem Lim.take (h:Lim H v l) {k:Nat} (q:k<=l.length) {x:Option Value} (c:bnd 0 x=some 0) {y:Option Value} (s:bnd l.length y=some k):∃ v',e0g 1 v x y none=some v'/\Lim H v' (l.take k):=by
 obtain ⟨v',e,j⟩:=h.1.slice (l1D k) q c s
 refine ⟨v',e,?_,fun x c=>h.2 x (m1s c)⟩
 have:(l.take k).length=k:=by simp;omega
 rw [this]
 simpa [c0e,List.map_take] using j
def b0g (H:a0f) (v:Value) (i:Bool × List Nat):Prop:=∃ s,v=.agg #[.bool i.1,s]/\Lim H s i.2
theorem b0g.mo {i:Bool × List Nat} (h:b0g H v i) (j:Ext H G):b0g G v i:=by obtain ⟨s,c,e⟩:=h;exact ⟨s,c,e.mo j⟩
def rd:Blk->Nat->Option Value
 | .row _ _ cs,o=>cs[o]?
 | .dead,_=>none
def rdn:Blk->Nat->Nat->Option Value
 | .row _ _ cs,o,n=>if o + n<=cs.length then some (.agg ((cs.drop o).take n).toArray) else none
 | .dead,_,_=>none
@[simp] theorem V0V {ro:Bool} {e:TypeId} {cs:List Value} {o:Nat}:rd (.row ro e cs) o=cs[o]?:=nr rfl
@[simp] theorem K0c {ro:Bool} {e:TypeId} {cs:List Value} {o n:Nat}:rdn (.row ro e cs) o n=if o + n<=cs.length then some (.agg ((cs.drop o).take n).toArray) else none:=nr rfl
theorem s0T {b o:Nat}:b0v G false 1 (.pointer (some ⟨b,o,none⟩))=rd (G.bk b) o:=by
 simp only [b0v]
 rw [k1y (by simp),k1y (by simp)]
 unfold a0f.cells?
 cases G.bk b with
 | dead=>rfl
 | row ro e cs =>
  simp only [k1W,l1y,rd]
  by_cases h:o + 1<=cs.length
  ·rw [k1B h];simp only [List.head?_take];rw [k1y (by simp),List.head?_drop]
  ·rw [k1y h,k1G (by omega)]
theorem o0X {b o n:Nat} (c:0 < n):b0v G true n (.pointer (some ⟨b,o,none⟩))=rdn (G.bk b) o n:=by
 simp only [b0v]
 rw [k1y (by omega),k1y (by simp)]
 unfold a0f.cells?
 cases G.bk b with
 | dead=>rfl
 | row ro e cs =>
  simp only [l1o,rdn]
  split <;> simp_all
def wr (G:a0f) (b o:Nat) (vs:List Value):Blk->Option a0f
 | .row false e cs=>if o + vs.length<=cs.length then some (G.setIfInBounds b (.row false e (b0x cs o vs))) else none
 | _=>none
@[simp] theorem i1u {b o:Nat} {vs:List Value} {e:TypeId} {cs:List Value}:wr G b o vs (.row false e cs)=if o + vs.length<=cs.length then some (G.setIfInBounds b (.row false e (b0x cs o vs))) else none:=nr rfl
theorem A0p {b o n:Nat} {x:Value} (e:fl<=b) (c:(a0W x).length=n) (hp:(a0W x).all a0v=true) :
  f0n fl G n (.pointer (some ⟨b,o,none⟩)) x=wr G b o (a0W x) (G.bk b):=by
 simp only [f0n]
 rw [k1y (by simp [c])]
 unfold a0f.write? wr
 split
 ·rename_i h;simp only [h];split <;> simp_all
 ·rename_i h;split <;> simp_all
theorem n0Q {b o n:Nat} {e:TypeId} {cs:List Value} {x:Value} (h:G.bk b=.row false e cs) (c:fl<=b) (j:(a0W x).length=n) (ho:o + n<=cs.length) (hp:(a0W x).all a0v=true) :
  f0n fl G n (.pointer (some ⟨b,o,none⟩)) x=some (G.setIfInBounds b (.row false e (b0x cs o (a0W x)))):=by
 simp only [f0n]
 rw [k1y (by simp [j])]
 unfold a0f.write?
 simp only [h]
 rw [k1B ⟨c,by omega,hp⟩]
theorem a0S {x:Int} (c:-9223372036854775808<=x) (e:x < 9223372036854775808):IntKind.i64.wrap x=x:=by
 show (if (true && decide (x % (2 ^ 64:Int) ≥ (2 ^ 63:Int)))=true then x % (2 ^ 64:Int) - (2 ^ 64:Int) else x % (2 ^ 64:Int))=x
 rw [show (2 ^ 64:Int)=18446744073709551616 from rfl,show (2 ^ 63:Int)=9223372036854775808 from rfl]
 simp only [n1A,l1k]
 split <;> omega
theorem a0z {x:Int}:IntKind.u64.wrap x=x % 18446744073709551616:=by
 simp [IntKind.wrap,IntKind.bits,IntKind.signed]
theorem f0q {x:Int}:IntKind.u32.wrap x=x % 4294967296:=by
 simp [IntKind.wrap,IntKind.bits,IntKind.signed]
def A0l (H:a0f) (t:b0c) (rs:List SRes) (P:Value->Prop):Prop:=∃ vs,e0S H t rs=some vs/\P (d0y vs)
theorem M0q {a:Nat} {P:Value->Prop}:A0l H t [.tmp a] P=P (get t a):=by simp [A0l,e0S,r0Z,d0y]
theorem K0f {a n:Nat} {g:Bool} {P:Value->Prop}:A0l H t [.cell a g n] P=oo (b0v H g n (get t a)) P:=by
 unfold A0l;simp only [e0S,r0Z];cases b0v H g n (get t a) <;> simp [d0y]
theorem M0r {r1 r2:SRes} {P:Value->Prop}:A0l H t [r1,r2] P=oo (r0Z H t r1) fun a=>oo (r0Z H t r2) fun b=>P (.tuple #[a,b]):=by
 unfold A0l;simp only [e0S];cases r0Z H t r1 <;> cases r0Z H t r2 <;> simp [d0y]
theorem A0m {r1 r2 e:SRes} {P:Value->Prop}:A0l H t [r1,r2,e] P=oo (r0Z H t r1) fun a=>oo (r0Z H t r2) fun b=>oo (r0Z H t e) fun c=>P (.tuple #[a,b,c]):=by
 unfold A0l;simp only [e0S];cases r0Z H t r1 <;> cases r0Z H t r2 <;> cases r0Z H t e <;> simp [d0y]
theorem M0p {a:Nat}:r0Z H t (.tmp a)=some (get t a):=nr rfl
theorem K0e {a n:Nat} {g:Bool}:r0Z H t (.cell a g n)=b0v H g n (get t a):=nr rfl
def a1F (P:b0c->a0f->Prop):e0c
 | .exit _,_,_=>False
 | .normal,t,H=>P t H
 | .ret,t,H=>P t H
@[simp] theorem W0L {P:b0c->a0f->Prop}:a1F P .normal t H=P t H:=nr rfl
@[simp] theorem d1A {P:b0c->a0f->Prop}:a1F P .ret t H=P t H:=nr rfl
theorem a0i {f:FuncId} {args:List Value} {c:w0J} (hc:E.code f=some c) (y:fl<=H.size) (z:args.length=c.np:=by rfl) (q:args.length<=c.nt:=by exact of_decide_eq_true rfl)
  (h:∀ ρ:Nat->Value,(∀ i,ρ i=args.getD i undef)->W E H.size c.body (T c.nt ρ) H (a1F (fun t' H'=>A0l H' t' c.res fun v=>Ext H H'->K v H')) R) :
  a0O E fl f args H (fun v H'=>K v H'/\Ext H H') R:=by
 have j:=(q0o (K:=fun v H'=>Ext H H'->K v H') hc z q (fun t j x=>by
  have u:=h (get t) x
  rw [<- K0M j] at u
  refine u.mo fun e t' H' s=>?_
  cases e with
  | exit i=>exact k1Q s id
  | normal=>exact ⟨trivial,s⟩
  | ret=>exact ⟨trivial,s⟩)).keep (k1x _)
 exact (j.mo fun v H' k=>⟨k.1 k.2.ext,k.2.ext⟩).floor y
end
section
section
variable {k:IntKind} {a b:Int} {tag:Nat}
@[simp] theorem L0e:d0p tag .add (.int k a) (.int k b)=some (.int k (k.wrap (a + b))):=by unfold d0p;simp
@[simp] theorem d1u:d0p tag .sub (.int k a) (.int k b)=some (.int k (k.wrap (a - b))):=by unfold d0p;simp
@[simp] theorem d1s:d0p tag .mul (.int k a) (.int k b)=some (.int k (k.wrap (a * b))):=by unfold d0p;simp
theorem w0T (h:b ≠ 0):d0p tag .quo (.int k a) (.int k b)=some (.int k (k.wrap (a.tdiv b))):=by unfold d0p;simp [h]
theorem L0h (h:b ≠ 0):d0p tag .rem (.int k a) (.int k b)=some (.int k (a.tmod b)):=by unfold d0p;simp [h]
@[simp] theorem L0f:d0p tag .and (.int k a) (.int k b)=some (.int k (k.wrap (BitVec.ofInt k.bits a &&& BitVec.ofInt k.bits b).toNat)):=by unfold d0p;simp
@[simp] theorem k0s:d0p tag .or (.int k a) (.int k b)=some (.int k (k.wrap (BitVec.ofInt k.bits a ||| BitVec.ofInt k.bits b).toNat)):=by unfold d0p;simp
@[simp] theorem d1o:d0p tag .eql (.int k a) (.int k b)=some (.bool (a == b)):=by unfold d0p;simp
@[simp] theorem d1t:d0p tag .neq (.int k a) (.int k b)=some (.bool (a != b)):=by unfold d0p;simp
@[simp] theorem L0g:d0p tag .lss (.int k a) (.int k b)=some (.bool (decide (a < b))):=by unfold d0p;simp
@[simp] theorem d1r:d0p tag .leq (.int k a) (.int k b)=some (.bool (decide (a<=b))):=by unfold d0p;simp
@[simp] theorem d1q:d0p tag .gtr (.int k a) (.int k b)=some (.bool (decide (a > b))):=by unfold d0p;simp
@[simp] theorem d1p:d0p tag .geq (.int k a) (.int k b)=some (.bool (decide (a ≥ b))):=by unfold d0p;simp
@[simp] theorem a1l {x y:Bool}:d0p 1 .eql (.bool x) (.bool y)=some (.bool (x == y)):=by unfold d0p;simp
@[simp] theorem a1n {x y:Bool}:d0p 1 .neq (.bool x) (.bool y)=some (.bool (x != y)):=by unfold d0p;simp
@[simp] theorem a1m {x:Option Addr} {n c h e:Nat}:d0p 2 .eql (.slice x n c) (.slice none h e)=some (.bool x.isNone):=nr rfl
@[simp] theorem a1o {x:Option Addr} {n c h e:Nat}:d0p 2 .neq (.slice x n c) (.slice none h e)=some (.bool x.isSome):=nr rfl
theorem w0U {k':IntKind} (h:0<=b):d0p tag .shl (.int k a) (.int k' b)=some (.int k (k.wrap (a * 2 ^ (min b.toNat k.bits)))):=by unfold d0p;simp [h]
theorem l0M {k':IntKind} (h:0<=b):d0p tag .shr (.int k a) (.int k' b)=some (.int k (a.fdiv (2 ^ (min b.toNat k.bits)))):=by unfold d0p;simp [h]
theorem L0w {n m:Nat}:((n:Int).fdiv (m:Int))=((n / m:Nat):Int):=by
 rw [Int.fdiv_eq_ediv_of_nonneg _ (by omega)];rfl
@[simp] theorem k1s {n:Nat} {k':IntKind}:d0p tag .shr (.int .u64 (n:Int)) (.int k' 32)=some (.int .u64 ((n / 4294967296:Nat):Int)):=by
 rw [l0M (by omega)];exact n1E (fun x=>some (Value.int .u64 x)) (L0w (n:=n) (m:=4294967296))
@[simp] theorem k1t {n:Nat} {k':IntKind}:d0p tag .shr (.int .u64 (n:Int)) (.int k' 63)=some (.int .u64 ((n / 9223372036854775808:Nat):Int)):=by
 rw [l0M (by omega)];exact n1E (fun x=>some (Value.int .u64 x)) (L0w (n:=n) (m:=9223372036854775808))
@[simp] theorem i1b:unA .neg (.int k a)=some (.int k (k.wrap (0 - a))):=nr rfl
@[simp] theorem i1c {x:Bool}:unA .not (.bool x)=some (.bool !x):=nr rfl
end
@[simp] theorem L0k {a b:Nat}:((a:Int) == (b:Int))=(a == b):=by
 rw [m1X,beq_iff_eq,beq_iff_eq];omega
@[simp] theorem d1y {a b:Nat}:((a:Int) != (b:Int))=(a != b):=by simp only [bne,L0k]
@[simp] theorem B0e {a:Nat}:((a:Int) == 0)=(a == 0):=by
 rw [m1X,beq_iff_eq,beq_iff_eq];omega
@[simp] theorem a1t {a:Nat}:((a:Int) != 0)=(a != 0):=by simp only [bne,B0e]
@[simp] theorem a1u {a:Array Value}:a0W (.agg a)=a.toList:=nr rfl
@[simp] theorem a1v {k:IntKind} {n:Int}:a0W (.int k n)=[.int k n]:=nr rfl
@[simp] theorem Y0T {b:Bool}:a0W (.bool b)=[.bool b]:=nr rfl
@[simp] theorem W0E {a:Option Addr} {n c:Nat}:a0W (.slice a n c)=[.slice a n c]:=nr rfl
@[simp] theorem a1w {a:Option Addr}:a0W (.pointer a)=[.pointer a]:=nr rfl
@[simp] theorem b1N {k:IntKind} {n:Int}:a0v (.int k n)=true:=nr rfl
@[simp] theorem Z0B {b:Bool}:a0v (.bool b)=true:=nr rfl
@[simp] theorem X0B {a:Option Addr} {n c:Nat}:a0v (.slice a n c)=true:=nr rfl
@[simp] theorem b1O {a:Option Addr}:a0v (.pointer a)=true:=nr rfl
@[simp] theorem d1w {d:Nat}:bnd d none=some d:=nr rfl
@[simp] theorem W0B {d n:Nat} {k:IntKind}:bnd d (some (.int k (n:Int)))=some n:=by simp [bnd]
@[simp] theorem i1A {n:Nat}:n + 1 + 1=n + 2:=by omega
@[simp] theorem i1B {n:Nat}:n + 2 + 1=n + 3:=by omega
@[simp] theorem i1C {n:Nat}:n + 3 + 1=n + 4:=by omega
@[simp] theorem i1D {n:Nat}:n + 4 + 1=n + 5:=by omega
@[simp] theorem i1E {n:Nat}:n + 5 + 1=n + 6:=by omega
@[simp] theorem f1F {n:Nat}:n + 1 + 2=n + 3:=by omega
@[simp] theorem f1G {n:Nat}:n + 1 + 3=n + 4:=by omega
@[simp] theorem f1H {n:Nat}:n + 1 + 4=n + 5:=by omega
@[simp] theorem f1I {n:Nat}:n + 1 + 5=n + 6:=by omega
@[simp] theorem f1J {n:Nat}:n + 1 + 6=n + 7:=by omega
@[simp] theorem f1K {n:Nat}:n + 2 + 2=n + 4:=by omega
@[simp] theorem f1L {n:Nat}:n + 2 + 3=n + 5:=by omega
@[simp] theorem f1M {n:Nat}:n + 2 + 4=n + 6:=by omega
@[simp] theorem f1N {n:Nat}:n + 2 + 5=n + 7:=by omega
@[simp] theorem f1O {n:Nat}:n + 2 + 6=n + 8:=by omega
@[simp] theorem f1P {n:Nat}:n + 3 + 2=n + 5:=by omega
@[simp] theorem f1Q {n:Nat}:n + 3 + 3=n + 6:=by omega
@[simp] theorem f1R {n:Nat}:n + 3 + 4=n + 7:=by omega
@[simp] theorem f1S {n:Nat}:n + 3 + 5=n + 8:=by omega
@[simp] theorem f1T {n:Nat}:n + 3 + 6=n + 9:=by omega
@[simp] theorem f1U {n:Nat}:n + 4 + 2=n + 6:=by omega
@[simp] theorem f1V {n:Nat}:n + 4 + 3=n + 7:=by omega
@[simp] theorem f1W {n:Nat}:n + 4 + 4=n + 8:=by omega
@[simp] theorem f1X {n:Nat}:n + 4 + 5=n + 9:=by omega
@[simp] theorem f1Y {n:Nat}:n + 4 + 6=n + 10:=by omega
@[simp] theorem f1Z {n:Nat}:n + 5 + 2=n + 7:=by omega
@[simp] theorem g1a {n:Nat}:n + 5 + 3=n + 8:=by omega
@[simp] theorem g1b {n:Nat}:n + 5 + 4=n + 9:=by omega
@[simp] theorem g1c {n:Nat}:n + 5 + 5=n + 10:=by omega
@[simp] theorem g1d {n:Nat}:n + 5 + 6=n + 11:=by omega
@[simp] theorem g1e {n:Nat}:n + 6 + 1=n + 7:=by omega
@[simp] theorem g1f {n:Nat}:n + 6 + 2=n + 8:=by omega
@[simp] theorem g1g {n:Nat}:n + 6 + 3=n + 9:=by omega
@[simp] theorem g1h {n:Nat}:n + 6 + 4=n + 10:=by omega
@[simp] theorem g1i {n:Nat}:n + 6 + 5=n + 11:=by omega
@[simp] theorem g1j {n:Nat}:n + 6 + 6=n + 12:=by omega
def A0t (w:Bool):Value->Bool
 | .bool b=>b == w
 | _=>false
@[simp] theorem Z0E {w b:Bool}:A0t w (.bool b)=(b == w):=nr rfl
@[simp ↓] theorem k1u {E:Env} {fl:Nat} {t:b0c} {H:a0f} {R:a0D} {d:Option Nat} {op:SOp} {r:List a0J} {Z:b0c->a0f->Prop} {j:Nat} {w:Bool} :
  WR E fl (⟨d,some (j,w),op⟩ :: r) t H Z R=if A0t w (get t j)=true then WS E fl t H op (fun v H'=>WR E fl r (put t d v) H' Z R) R else WR E fl r (put t d undef) H Z R:=by
 have h:b0k t (some (j,w))=A0t w (get t j):=by
  simp only [b0k]
  generalize get t j=v
  cases v <;> rfl
 show (if b0k t (some (j,w))=true then _ else _)=_
 rw [h]
attribute [simp ↓] K0T W0p A0R f1D W0n a1b Z0X W0l f1A Z0Z f1z a1a K0S W0o K0Q u0l a1d f1C K0P Z0V a1c f1B K0U Z0U W0m A0Q m0f
attribute [simp ↓] w0P W0v W0u a1h W0t K0V a1g
attribute [simp] M0q K0f M0r A0m M0p K0e A0p a0A a0T
attribute [simp] X0D b1u Y0K
attribute [simp] a0G d0P s0T o0X Ext.refl Ext.push Ext.set g0X b0D e0M b0x
attribute [simp low] a0L
attribute [congr] K0O y0W W0q K0R L0P
def m0G (i:Nat) (A M:b0c->a0f->Prop) (Q:e0c):e0c
 | .normal,t,H=>A t H
 | .exit j,t,H=>if j=i then M t H else Q (.exit j) t H
 | .ret,t,H=>Q .ret t H
section
variable {E:Env} {fl:Nat} {t:b0c} {H:a0f} {Q:e0c} {R:a0D}
@[simp] theorem O0i {i:Nat} {A M:b0c->a0f->Prop}:m0G i A M Q .normal t H=A t H:=nr rfl
@[simp] theorem Z0w {i j:Nat} {A M:b0c->a0f->Prop}:m0G i A M Q (.exit j) t H=if j=i then M t H else Q (.exit j) t H:=nr rfl
@[simp] theorem b1D {i:Nat} {A M:b0c->a0f->Prop}:m0G i A M Q .ret t H=Q .ret t H:=nr rfl
theorem a1e {a:SCode} {Z:b0c->a0f->Prop} (M:b0c->a0f->Prop) (h:W E fl a t H (h0P M Q) R) (j:∀ t H,M t H->Z t H):W E fl a t H (h0P Z Q) R:=by
 refine h.mo fun e t' H' c=>?_
 cases e with
 | normal=>exact j _ _ c
 | exit i=>exact c
 | ret=>exact c
theorem b0U {c:SCode} {i:Nat} {Z:b0c->a0f->Prop} (I:Nat->b0c->a0f->Prop) (M:b0c->a0f->Prop) (k:Nat) (u:I k t H)
  (step:∀ k t H,I k t H->W E fl c t H (m0G i (fun t' H'=>∃ k',k' < k/\I k' t' H') M Q) R)
  (rest:∀ t H,M t H->Z t H):W E fl (.loop c) t H (f0g i (h0P Z Q)) R:=by
 refine N0U I (fun k t H h=>(step k t H h).mo fun e t' H' q=>?_) k u
 cases e with
 | normal=>exact q
 | ret=>exact q
 | exit j =>
  simp only [m0G] at q
  simp only [h0P,f0g]
  split
  ·rename_i s;rw [k1B s] at q;exact rest _ _ q
  ·rename_i s;rw [k1y s] at q;exact q
end
end
section
variable {fl:Nat} {H G:a0f} {e e2 sz n m bytes:Nat} {s x:Value} {cs new:List Value}
def slB:Value->Option Nat
 | .slice (some p) _ _=>some p.block
 | _=>none
def Own (fl:Nat) (H:a0f) (e sz:Nat) (v:Value) (n:Nat) (cs:List Value):Prop :=
 cs.length=n * sz/\((v=.slice none 0 0/\n=0) ∨ ∃ b cap,v=.slice (some ⟨b,0,none⟩) n cap/\H.bk b=.row false e cs/\fl<=b)
theorem Own.nil:Own fl H e sz (.slice none 0 0) 0 []:=⟨by simp,.inl ⟨rfl,rfl⟩⟩
theorem Own.mk {b cap:Nat} (hb:H.bk b=.row false e cs) (h:cs.length=n * sz) (c:fl<=b):Own fl H e sz (.slice (some ⟨b,0,none⟩) n cap) n cs:=⟨h,.inr ⟨b,cap,rfl,hb,c⟩⟩
theorem Own.sl (h:Own fl H e sz s n cs):Sl H e sz s n cs:=by
 obtain ⟨c,h | ⟨b,cap,rfl,hb,j⟩⟩:=h
 ·exact ⟨c,.inl h⟩
 ·exact ⟨c,.inr ⟨b,0,cap,false,cs,rfl,hb,by omega,by rw [l1F,<- c,k1M]⟩⟩
theorem Own.mo (h:Own fl H e sz s n cs) (k:Ext H G):Own fl G e sz s n cs:=by
 obtain ⟨c,h | ⟨b,cap,rfl,hb,j⟩⟩:=h
 ·exact ⟨c,.inl h⟩
 ·exact ⟨c,.inr ⟨b,cap,rfl,k.bk hb,j⟩⟩
def d0o (o:Option Nat) (H G:a0f):Prop:=H.size<=G.size/\∀ b,b < H.size->o ≠ some b->G.bk b=H.bk b
theorem Ext.extB {o:Option Nat} (h:Ext H G):d0o o H G:=⟨h.1,fun b hb _=>h.2 b hb⟩
theorem k0r (ho:Own fl G e sz s n cs) (M:Sl G e2 sz x m new) (hp:new.all a0v=true) (hn:n + m<=1073741824) (hb:bytes<=1024) (hs:0 < sz) (z:fl<=G.size) :
  ∃ v' G',i0H fl G e sz bytes s x=some (v',G')/\Own fl G' e sz v' (n + m) (cs ++ new)/\d0o (slB s) G G'/\(∀ H0,H0.size<=fl->Ext H0 G->Ext H0 G'):=by
 obtain ⟨F,M⟩:=M
 have u:=ho.1
 by_cases I:m=0
 ·subst I
  have J:new=[]:=k1U.1 (by omega)
  subst J
  refine ⟨s,G,?_,by simpa using ho,(Ext.refl G).extB,fun _ _ h=>h⟩
  rcases M with ⟨rfl,_⟩ | ⟨b,off,cap,ro,cells,rfl,_⟩ <;> rcases ho.2 with ⟨rfl,rfl⟩ | ⟨L,j,rfl,_⟩ <;> simp [i0H]
 ·rcases M with ⟨_,h0⟩ | ⟨b,off,cap,ro,cells,rfl,N,U,Z⟩
  ·exact k1Q h0 I
  have hc:=f0t N U
  rw [<- Z] at hc
  rcases ho.2 with ⟨rfl,rfl⟩ | ⟨L,j,rfl,v,O⟩
  ·have y:cs=[]:=k1U.1 (by omega)
   subst y
   refine ⟨.slice (some ⟨G.size,0,none⟩) m unk,G.push (.row false e new),?_,?_,(Ext.push (Ext.refl G)).extB,fun _ _ h=>h.push⟩
   ·unfold i0H
    simp only
    rw [k1y I,k1B ⟨by omega,hb,hs⟩]
    simp only [hc,hp,m1V,l1y]
    rw [k1B ⟨by trivial,by trivial⟩]
   ·rw [l1e];exact Own.mk a0G (by simpa using F) z
  ·have a0:=a0k v
   have H:G.cells? L 0 (n * sz)=some cs:=by
    rw [f0t v (by omega),l1F,<- u,k1M]
   by_cases q:j ≠ unk/\j < n + m
   ·refine ⟨.slice (some ⟨G.size,0,none⟩) (n + m) unk,G.push (.row false e (cs ++ new)),?_,?_,(Ext.push (Ext.refl G)).extB,fun _ _ h=>h.push⟩
    ·unfold i0H
     simp only
     rw [k1y I,k1B ⟨by omega,hb,hs⟩]
     simp only [hc,hp,m1V,l1y,H]
     by_cases k:n=0/\j = 0
     ·rw [k1B k]
      have y:cs=[]:=k1U.1 (by rw [u,k.1];simp)
      rw [y,k.1];simp
     ·rw [k1y k,k1B q]
    ·exact Own.mk a0G (by rw [k1S,u,F,k1R]) z
   ·refine ⟨.slice (some ⟨G.size,0,none⟩) (n + m) unk,(G.setIfInBounds L .dead).push (.row false e (cs ++ new)),?_,?_,?_,?_⟩
    ·unfold i0H
     simp only
     rw [k1y I,k1B ⟨by omega,hb,hs⟩]
     simp only [hc,hp,m1V,l1y,H]
     rw [k1y (fun k:n=0/\j = 0=>q ⟨by rw [k.2];decide,by omega⟩),k1y q]
     simp only [v]
     rw [k1B ⟨trivial,O⟩]
    ·exact Own.mk (by rw [a0L];simp) (by rw [k1S,u,F,k1R]) z
    ·refine ⟨by simp,fun c hc R=>?_⟩
     have:L ≠ c:=fun h=>R (by simp [slB,h])
     rw [d0P (by simpa using hc),a0T this]
    ·intro H0 h1 h2
     exact (h2.set (by omega)).push
theorem e0m {c:Nat} (ho:Own fl G e sz s n cs) (F:new.length=sz) (hp:new.all a0v=true) (H:n < 1073741824) (hb:bytes<=1024) (hs:0 < sz) (v:fl<=G.size) :
  ∃ v' G',i0H fl (G.push (.row false e2 new)) e sz bytes s (.slice (some ⟨G.size,0,none⟩) 1 c)=some (v',G')/\Own fl G' e sz v' (n + 1) (cs ++ new)/\d0o (slB s) G G'/\(∀ H0,H0.size<=fl->Ext H0 G->Ext H0 G'):=by
 have x:Sl (G.push (.row false e2 new)) e2 sz (.slice (some ⟨G.size,0,none⟩) 1 c) 1 new:=(Own.mk (fl:=0) a0G (by omega) (l1D _)).sl
 obtain ⟨v',G',k,q,j,u⟩:=k0r (ho.mo (Ext.push (Ext.refl G))) x hp (by omega) hb hs (bytes:=bytes) (by simp;omega)
 refine ⟨v',G',k,q,⟨?_,fun b hb h=>?_⟩,fun H0 y z=>u H0 y z.push⟩
 ·have:=j.1;simp at this;omega
 ·rw [j.2 b (by simp;omega) h,d0P hb]
@[simp] theorem Y0J {a b:List Nat}:c0e (a ++ b)=c0e a ++ c0e b:=by simp [c0e]
theorem k0K {l:List Nat}:(c0e l).all a0v=true:=by simp [c0e,a0v]
end
section
variable {fl:Nat} {H:a0f} {R:a0D} {v:Value} {i:Bool × List Nat}
def g0n (i:Bool × List Nat):Bool:=if i.2.length=0 then !i.1 else i.2.getD (i.2.length - 1) 0 != 0
theorem f0y (h:b0g H v i) (e:fl<=H.size) (k:i.2.length < 4611686018427387904) :
  a0O env fl s0A [v] H (fun r H'=>r=.bool (g0n i)/\Ext H H') R:=by
 obtain ⟨s,rfl,hs⟩:=h
 refine a0i g1L e (h:=?_)
 intro ρ c
 simp [M0N]
 simp [E0R,E0S,E0T,E0U,c]
 simp (disch:=first | omega | assumption | (simp;done) | (repeat (first | assumption | exact Ext.refl _ | apply Ext.push | apply Ext.set))) [hs.slen,hs.iaZ,hs.load,a0S]
 refine ⟨fun h=>by simp [g0n,h],fun h=>?_⟩
 have j:=n1v.2 h
 simp (disch:=first | omega | assumption | (simp;done) | (repeat (first | assumption | exact Ext.refl _ | apply Ext.push | apply Ext.set))) [hs.iaZ,hs.load,g0n,h]
def f0h (i:Bool × List Nat):List Nat:=if g0n i then i.2 else []
theorem o0u (h:b0g H v i) (j:fl<=H.size) (k:i.2.length < 4611686018427387904) :
  a0O env fl g0i [v] H (fun r H'=>Lim H' r (f0h i)/\Ext H H') R:=by
 obtain ⟨s,rfl,hs⟩:=h
 refine a0i g1y j (h:=?_)
 intro ρ e
 simp [M0A]
 simp [D0G,D0H,D0I,D0J,e]
 refine (f0y ⟨s,rfl,hs.mo (by simp)⟩ (by simp) k).mo ?_
 rintro _ G ⟨rfl,c⟩
 simp [c.2,f0h]
 exact ⟨fun h _=>by simp [h,Lim.nil],fun h c=>by simp [h,hs.mo c]⟩
def b1G (i:Bool × List Nat):Bool:=g0n i && i.1
theorem t0c (h:b0g H v i) (e:fl<=H.size) (j:i.2.length < 4611686018427387904) :
  a0O env fl e0t [v] H (fun r H'=>r=.bool (b1G i)/\Ext H H') R:=by
 obtain ⟨s,rfl,hs⟩:=h
 refine a0i g1x e (h:=?_)
 intro ρ c
 simp [M0z]
 simp [D0E,D0F,c]
 refine (f0y ⟨s,rfl,hs.mo (by simp)⟩ (by simp) j).mo ?_
 rintro _ G ⟨rfl,k⟩
 cases hm:g0n i <;> simp [k.2,b1G,c,hm]
theorem a0t {x:Nat} (e:fl<=H.size) :
  a0O env fl g0j [.int .u64 x] H (fun r H'=>r=.int .u32 ((x % 4294967296:Nat):Int)/\Ext H H') R:=by
 refine a0i g1H e (h:=?_)
 intro ρ c
 simp [M0J]
 simp [E0H,E0I,c,f0q]
def c0L (a b:Int):Int:=if a < b then -1 else if a > b then 1 else 0
theorem j0N {a b:Int} (k:fl<=H.size) :
  a0O env fl B0z [.int .i64 a,.int .i64 b] H (fun r H'=>r=.int .i64 (c0L a b)/\Ext H H') R:=by
 refine a0i g1X k (h:=?_)
 intro ρ e
 simp [M0Z]
 simp [F0U,F0V,F0W,F0X,F0Y,F0Z,e,c0L]
 refine ⟨fun j c=>?_,fun j=>⟨fun c=>?_,fun c=>?_⟩⟩ <;> (repeat' split) <;> omega
theorem h0t {a b:Int} (k:fl<=H.size) :
  a0O env fl B0A [.int .u32 a,.int .u32 b] H (fun r H'=>r=.int .i64 (c0L a b)/\Ext H H') R:=by
 refine a0i g1Y k (h:=?_)
 intro ρ e
 simp [N0a]
 simp [G0a,G0b,G0c,G0d,G0e,G0f,e,c0L]
 refine ⟨fun j c=>?_,fun j=>⟨fun c=>?_,fun c=>?_⟩⟩ <;> (repeat' split) <;> omega
theorem y0V {l:List Nat} (h:Lim H v l) (u:fl<=H.size) (G:l.length<=1073741824) :
  a0O env fl B0x [v] H (fun r H'=>Lim H' r l/\Ext H H') R:=by
 refine a0i g1P u (h:=?_)
 intro ρ j
 simp [M0R]
 simp [F0i,F0j,F0k,F0l,j]
 have s:=h
 obtain ⟨⟨F,⟨rfl,c⟩ | ⟨b,off,cap,ro,cells,rfl,hb,ho,q⟩⟩,x⟩:=h
 ·have:l=[]:=k1U.1 c
  subst this
  simp [Lim.nil]
 ·simp
  have e:Own H.size (H.push (.row false a0l [])) a0l 1 (.slice (some ⟨H.size,0,none⟩) 0 0) 0 []:=Own.mk a0G (by simp) (k1x _)
  obtain ⟨v',G',k,c,y,z⟩:=k0r (bytes:=4) e ((s.mo (Ext.push (Ext.refl H))).1) k0K (by omega) (by omega) (by omega) (by simp)
  simp only [l1e,l1Z] at c
  simp [k]
  exact fun _=>⟨c.sl,x⟩
end
section
variable {fl:Nat} {H:a0f} {R:a0D} {v:Value} {i:Bool × List Nat} {l:List Nat}
def d0S (l:List Nat):List Nat:=(l.reverse.dropWhile (· == 0)).reverse
theorem t0Z:d0S []=[]:=rfl
theorem n0U:d0S (l ++ [0])=d0S l:=by simp [d0S]
theorem k0Z {x:Nat} (h:x ≠ 0):d0S (l ++ [x])=l ++ [x]:=by simp [d0S,h]
def mkI (neg:Bool) (l:List Nat):Bool × List Nat:=if d0S l=[] then (false,[]) else (neg,d0S l)
theorem e0B {n:Nat} (h:n < l.length):l.take (n + 1)=l.take n ++ [l.getD n 0]:=by
 rw [List.take_add_one,k1A h,k1v,k1A h];rfl
theorem q0K {b:Bool} (h:Lim H v l) (hf:fl<=H.size) (hn:l.length<=1073741824) :
  a0O env fl g0W [.bool b,v] H (fun r H'=>b0g H' r (mkI b l)/\Ext H H') R:=by
 refine a0i g1w hf (h:=?_)
 intro ρ U
 simp [M0y]
 simp [D0y,D0z,U,h.slen]
 refine b0U (fun k t G=>G=H.push (.row false a0a [.bool false,.slice none 0 0])/\t.length=29/\get t 0=.bool b/\get t 1=v/\get t 4=.pointer (some ⟨H.size,0,none⟩) /\
   get t 5=.int .i64 k/\k<=l.length/\d0S (l.take k)=d0S l)
  (fun t G=>∃ k:Nat,G=H.push (.row false a0a [.bool false,.slice none 0 0])/\t.length=29/\get t 0=.bool b/\get t 1=v/\get t 4=.pointer (some ⟨H.size,0,none⟩) /\
   get t 5=.int .i64 k/\k<=l.length/\d0S l=l.take k) l.length (by simp [U]) ?_ ?_
 ·rintro k t G ⟨rfl,M,q,s,u,z,I,e⟩
  obtain ⟨ρ,rfl⟩:=toT M
  simp only [b0T,Nat.reduceLT] at q s u z
  by_cases c:k=0
  ·subst c
   simp [v0l,q,s,u,z]
   exact ⟨0,by simp,by simp,by rw [<- e];rfl⟩
  ·have hp:0 < k:=by omega
   have w1:IntKind.i64.wrap ((k:Int) - 1)=((k - 1:Nat):Int):=by rw [a0S (by omega) (by omega)];omega
   simp [v0l,D0A,q,s,u,z,hp,w1,h.ia (show k - 1 < l.length by omega),h.load (show k - 1 < l.length by omega)]
   have j:l.take k=l.take (k - 1) ++ [l.getD (k - 1) 0]:=by rw [<- e0B (by omega)];congr 1;omega
   rw [k1v] at j
   refine ⟨fun O=>⟨k - 1,by omega,rfl,by omega,?_⟩,fun O=>⟨k,rfl,I,?_⟩⟩
   ·rw [<- e,j,O,n0U]
   ·rw [<- e,j,k0Z O]
 ·rintro t G ⟨k,rfl,M,q,s,u,z,I,e⟩
  obtain ⟨ρ,rfl⟩:=toT M
  simp only [b0T,Nat.reduceLT] at q s u z
  obtain ⟨v',Z,h2⟩:=h.take I (x:=none) rfl (y:=some (.int .i64 (k:Int))) (by simp)
  simp [D0B,D0C,D0D,q,s,u,z,h.elemOk,Z]
  refine ⟨fun c=>⟨.slice none 0 0,by simp [mkI,e,c],by simp [mkI,e,c,Lim.nil]⟩,fun c=>?_⟩
  refine (y0V (h2.mo (by simp)) (by simp) (by simp;omega)).mo ?_
  rintro r G ⟨L,N⟩
  have J:H.size < G.size:=by have:=N.1;simp at this;omega
  simp [L.cells,L.plain,N.2,J]
  have F:l ≠ []:=by rintro rfl;exact c (by simpa using I)
  refine fun _=>⟨r,?_,?_⟩
  ·simp [mkI,e,c,F]
  ·have:(mkI b l).2=l.take k:=by simp [mkI,e,c,F]
   rw [this]
   exact L.setT (by rw [N.2 _ (by simp)];exact a0G) (by decide)
end
section
def a0y:List Nat->Nat
 | []=>0
 | x :: l=>x + 4294967296 * a0y l
def b0u (l:List Nat):Prop:=∀ x ∈ l,x < 4294967296
theorem g0p:∀ (a b:List Nat),a0y (a ++ b)=a0y a + 4294967296 ^ a.length * a0y b
 | [],b=>by simp [a0y]
 | x :: a,b=>by
  simp only [m1B,a0y,g0p a b,l1p,k1V]
  rw [k1K,<- k1O,k1Z (4294967296 ^ a.length) 4294967296,l1R]
theorem c0n (a:List Nat) (x:Nat):a0y (a ++ [x])=a0y a + 4294967296 ^ a.length * x:=by rw [g0p];simp [a0y]
theorem g0q:∀ (l:List Nat),b0u l->a0y l < 4294967296 ^ l.length
 | [],_=>by simp [a0y]
 | x :: l,h=>by
  have e:=g0q l (fun y c=>h y (m1I _ c))
  have j:=h x (n1B ..)
  simp only [a0y,l1p,k1V]
  omega
theorem p0Z (x:Nat) (l:List Nat):d0S (x :: l)=if d0S l=[]/\x=0 then [] else x :: d0S l:=by
 unfold d0S
 rw [List.reverse_cons,List.dropWhile_append]
 by_cases h:(List.dropWhile (fun x=>x == 0) l.reverse).isEmpty=true
 ·rw [k1B h]
  have c:List.dropWhile (fun x=>x == 0) l.reverse=[]:=by simpa using h
  rw [c]
  by_cases e:x=0 <;> simp [e]
 ·rw [k1y h]
  have c:List.dropWhile (fun x=>x == 0) l.reverse ≠ []:=by simpa using h
  rw [k1y (by simp [c])]
  simp
theorem j0K:∀ (l:List Nat),a0y l=0 <-> d0S l=[]
 | []=>by simp [a0y,t0Z]
 | x :: l=>by
  rw [p0Z]
  have:=j0K l
  by_cases h:d0S l=[]/\x=0
  ·rw [k1B h];have:=this.2 h.1;simp [a0y,this,h.2]
  ·rw [k1y h]
   simp only [a0y,reduceCtorEq,iff_false]
   intro c
   exact h ⟨this.1 (by omega),by omega⟩
def a0p (n:Nat):List Nat:=if h:n=0 then [] else (n % 4294967296) :: a0p (n / 4294967296)
termination_by n
decreasing_by omega
theorem a0Y:a0p 0=[]:=by unfold a0p;simp
theorem e0s {n:Nat} (h:n ≠ 0):a0p n=(n % 4294967296) :: a0p (n / 4294967296):=by rw [a0p];simp [h]
theorem c0a:∀ (l:List Nat),b0u l->d0S l=a0p (a0y l)
 | [],_=>by rw [t0Z,a0y,a0Y]
 | x :: l,h=>by
  have q:=c0a l (fun y k=>h y (m1I _ k))
  have s:=h x (n1B ..)
  rw [p0Z]
  by_cases hc:d0S l=[]/\x=0
  ·rw [k1B hc]
   have:=(j0K l).2 hc.1
   rw [a0y,this,hc.2,a0Y]
  ·rw [k1y hc]
   have c:a0y (x :: l) ≠ 0:=by
    intro j
    simp only [a0y] at j
    exact hc ⟨(j0K l).1 (by omega),by omega⟩
   rw [e0s c]
   have e:a0y (x :: l) % 4294967296=x:=by simp only [a0y];omega
   have e2:a0y (x :: l) / 4294967296=a0y l:=by simp only [a0y];omega
   rw [e,e2,q]
theorem a0q (n:Nat):a0y (a0p n)=n:=by
 induction n using Nat.strongRecOn with
 | ind n ih =>
  by_cases h:n=0
  ·rw [h,a0Y];rfl
  ·rw [e0s h,a0y,ih _ (by omega)];omega
theorem c0t (n:Nat):b0u (a0p n):=by
 induction n using Nat.strongRecOn with
 | ind n ih =>
  by_cases h:n=0
  ·rw [h,a0Y];intro x c;simp at c
  ·rw [e0s h]
   intro x c
   rcases m1b.1 c with rfl | c
   ·omega
   ·exact ih _ (by omega) x c
theorem e0r {n k:Nat} (h:n < 4294967296 ^ k):(a0p n).length<=k:=by
 induction k generalizing n with
 | zero => have : n = 0 := by simpa using h
           rw [this,a0Y];simp
 | succ k ih =>
  by_cases c:n=0
  ·rw [c,a0Y];simp
  ·rw [e0s c,l1p]
   have:n / 4294967296 < 4294967296 ^ k:=by
    rw [m1p (by omega)];rw [k1V] at h;exact h
   have:=ih this
   omega
theorem e0E (n:Nat):n < 4294967296 ^ (a0p n).length:=by
 have:=g0q (a0p n) (c0t n)
 rwa [a0q] at this
theorem b0N {n:Nat}:a0p n=[] <-> n=0:=by
 constructor
 ·intro h;rw [<- a0q n,h];rfl
 ·rintro rfl;exact a0Y
theorem m0q {n:Nat} (h:n ≠ 0):(a0p n).getD ((a0p n).length - 1) 0 ≠ 0:=by
 induction n using Nat.strongRecOn with
 | ind n ih =>
  rw [e0s h]
  by_cases c:n / 4294967296=0
  ·rw [c,a0Y];simp;omega
  ·have:=ih (n / 4294967296) (by omega) c
   have j:(a0p (n / 4294967296)).length ≠ 0:=fun e=>c (b0N.1 (k1U.1 e))
   rw [l1p,show (a0p (n / 4294967296)).length + 1 - 1=((a0p (n / 4294967296)).length - 1) + 1 by omega,List.getD_cons_succ]
   exact this
def a0s (i:Bool × List Nat):Int:=if g0n i then (if i.1 then -(a0y i.2:Int) else a0y i.2) else 0
def a0g (z:Int):Bool × List Nat:=(decide (z < 0),a0p z.natAbs)
theorem O0m {b:Bool} {l:List Nat} (h:b0u l):mkI b l=a0g (if b then -(a0y l:Int) else a0y l):=by
 unfold mkI a0g
 rw [c0a l h]
 by_cases c:a0y l=0
 ·rw [c,a0Y];cases b <;> simp [a0Y]
 ·rw [k1y (by rw [b0N];exact c)]
  cases b <;> simp <;> omega
theorem s0W (z:Int):g0n (a0g z)=true:=by
 unfold g0n a0g
 by_cases h:z=0
 ·subst h;simp [a0Y]
 ·have c:z.natAbs ≠ 0:=by omega
  have e:(a0p z.natAbs).length ≠ 0:=fun j=>c (b0N.1 (k1U.1 j))
  simp only
  rw [k1y e]
  simpa using m0q c
theorem a0h (z:Int):a0s (a0g z)=z:=by
 unfold a0s
 rw [s0W]
 simp only [a0g,a0q,l1o]
 by_cases h:z < 0 <;> simp [h] <;> omega
theorem e0p:a0g 0=(false,[]):=by simp [a0g,a0Y]
end
section
variable {fl:Nat} {H:a0f} {R:a0D} {v w:Value} {a b:List Nat}
theorem Lim.ok {l:List Nat} (h:Lim H v l):b0u l:=h.2
theorem a0R {l:List Nat} {n:Nat} (h:n < l.length):a0y (l.take (n + 1))=a0y (l.take n) + 4294967296 ^ n * l.getD n 0:=by
 rw [e0B h,c0n,l1v,l1x (by omega)]
theorem q0L (ha:Lim H v a) (hb:Lim H w b) (hf:fl<=H.size) (a9:a.length < 1073741824) (b1:b.length < 1073741824) :
  a0O env fl B0t [v,w] H (fun r H'=>(∃ o,Lim H' r o/\a0y o=a0y a + a0y b/\o.length=max a.length b.length + 1)/\Ext H H') R:=by
 refine a0i g1E hf (h:=?_)
 intro ρ h0
 simp only [M0G]
 refine g0U (l0z ?_)
 simp [-w0P,E0p,h0]
 refine g0U (a1e (fun t G=>G=H/\t.length=55/\∃ v w j L,get t 0=v/\get t 1=w/\Lim H v j/\Lim H w L/\L.length<=j.length/\j.length=max a.length b.length/\a0y j + a0y L = a0y a + a0y b) ?_ ?_)
 ·simp [E0q,E0r,h0,ha.slen,hb.slen]
  exact ⟨fun h=>⟨b,hb,a,ha,by omega,by omega,by omega⟩,fun h=>⟨a,ha,b,hb,by omega,by omega,by omega⟩⟩
 clear h0 ρ
 rintro t G ⟨rfl,ht,v,w,j,L,g0,J,N,O,a8,a0,a1⟩
 obtain ⟨ρ,rfl⟩:=toT ht
 simp only [b0T,Nat.reduceLT] at g0 J
 have b4:j.length < 1073741824:=by omega
 rw [<- a0,<- a1]
 clear ha hb a9 b1 a0 a1 a b
 have w1:IntKind.i64.wrap ((j.length:Int) + 1)=(j.length:Int) + 1:=a0S (by omega) (by omega)
 have hm:=Z0x (bytes:=4) (k:=.i64) (k':=.i64) (l:=0) (c:=(j.length:Int) + 1) (by omega) (by omega) (by omega) (by omega)
 simp [E0s,E0t,E0u,g0,J,N.slen,w1,hm]
 refine b0U (fun k t G'=>∃ i c out s,i + k=j.length/\t.length=55/\get t 1=w/\get t 5=s/\get t 6=.int .u64 ((c:Nat):Int)/\get t 20=v/\get t 21=.int .i64 j.length/\get t 22=.int .i64 ((i:Nat):Int) /\
   Ext G G'/\Own G.size G' a0l 1 s i (c0e out)/\b0u out/\out.length=i/\c<=1/\a0y out + 4294967296 ^ i * c=a0y (j.take i) + a0y (L.take i))
  (fun t G'=>∃ c out s,t.length=55/\get t 5=s/\get t 6=.int .u64 ((c:Nat):Int) /\
   Ext G G'/\Own G.size G' a0l 1 s j.length (c0e out)/\b0u out/\out.length=j.length/\c<=1/\a0y out + 4294967296 ^ j.length * c=a0y j + a0y L) j.length ?_ ?_ ?_
 ·exact ⟨0,0,[],.slice (some ⟨G.size,0,none⟩) 0 (j.length + 1),by omega,by simp,by simp [J],by simp,by simp,by simp,by simp,by simp,by simp,
   Own.mk (by simp [c0e]) rfl (k1x _),by intro x e;simp at e,rfl,by omega,by simp [a0y]⟩
 ·clear g0 J hm w1 ht ρ
  rintro k t G' ⟨i,c,out,s,b5,ht,J,Z,g6,z,F,I,e,ho,U,u,hc,hs⟩
  obtain ⟨ρ,rfl⟩:=toT ht
  simp only [b0T,Nat.reduceLT] at J Z g6 z F I
  by_cases hi:i < j.length
  ·have a5:=N.load hi e
   have a2:=a0R hi
   have a7:j.getD i 0 < 4294967296:=N.2 _ (by rw [k1v,k1A hi];exact k1D hi)
   generalize j.getD i 0=A at a5 a2 a7
   have e1:IntKind.u64.wrap ((c:Int) + IntKind.u64.wrap (A:Int))=((c + A:Nat):Int):=by rw [a0z,a0z];omega
   have e9:IntKind.i64.wrap ((i:Int) + 1)=((i + 1:Nat):Int):=by rw [a0S (by omega) (by omega)];omega
   by_cases y:i < L.length
   ·have a6:=O.load y e
    have M:=a0R y
    have a3:L.getD i 0 < 4294967296:=O.2 _ (by rw [k1v,k1A y];exact k1D y)
    generalize L.getD i 0=B at a6 M a3
    have e2:IntKind.u64.wrap (((c + A:Nat):Int) + IntKind.u64.wrap (B:Int))=((c + A + B:Nat):Int):=by rw [a0z,a0z];omega
    simp [-Int.natCast_add,r0q,v0q,v0r,v0s,r0m,r0n,r0o,r0p,J,Z,g6,z,F,I,hi,N.ia hi,a5,O.slen,e1,y,O.ia y,a6,e2]
    generalize a4:c + A + B=c2
    refine (a0t e.1).mo ?_
    rintro _ G2 ⟨rfl,q⟩
    obtain ⟨s',G3,h1,h2,h3,h4⟩:=e0m (e2:=a0l) (new:=[.int .u32 ((c2 % 4294967296:Nat):Int)]) (c:=1) (bytes:=4) (ho.mo q) rfl rfl (by omega) (by omega) (by omega) (by have:=e.1;have:=q.1;omega)
    simp [-Int.natCast_emod,-Int.natCast_add,h1,J,Z,g6,z,F,I,e9]
    refine ⟨k - 1,by omega,i + 1,by omega,c2 / 4294967296,rfl,rfl,h4 _ (k1x _) (e.trans q),out ++ [c2 % 4294967296],by simpa [c0e] using h2,?_,by simp [u],by omega,?_⟩
    ·intro x e
     rcases k1T.1 e with e | e
     ·exact U x e
     ·simp at e;omega
    ·rw [c0n,u,a2,M,k1V]
     have e3:4294967296 ^ i * 4294967296 * (c2 / 4294967296)=4294967296 ^ i * (4294967296 * (c2 / 4294967296)):=k1O ..
     have e4:4294967296 ^ i * (c2 % 4294967296) + 4294967296 ^ i * (4294967296 * (c2 / 4294967296))=4294967296 ^ i * c2:=by rw [<- k1K,n1e]
     have e5:4294967296 ^ i * c2=4294967296 ^ i * c + 4294967296 ^ i * A + 4294967296 ^ i * B:=by rw [<- a4,k1K,k1K]
     omega
   ·have M:a0y (L.take (i + 1))=a0y (L.take i) + 4294967296 ^ i * 0:=by rw [k1J (by omega),k1J (by omega)];simp
    have a3:(0:Nat) < 4294967296:=by omega
    have e2:c + A=c + A + 0:=rfl
    rw [e2] at e1
    generalize (0:Nat)=B at M a3 e1
    simp [-Int.natCast_add,r0q,v0q,v0r,v0s,r0m,r0n,r0o,r0p,J,Z,g6,z,F,I,hi,N.ia hi,a5,O.slen,e1,y]
    generalize a4:c + A + B=c2
    refine (a0t e.1).mo ?_
    rintro _ G2 ⟨rfl,q⟩
    obtain ⟨s',G3,h1,h2,h3,h4⟩:=e0m (e2:=a0l) (new:=[.int .u32 ((c2 % 4294967296:Nat):Int)]) (c:=1) (bytes:=4) (ho.mo q) rfl rfl (by omega) (by omega) (by omega) (by have:=e.1;have:=q.1;omega)
    simp [-Int.natCast_emod,-Int.natCast_add,h1,J,Z,g6,z,F,I,e9]
    refine ⟨k - 1,by omega,i + 1,by omega,c2 / 4294967296,rfl,rfl,h4 _ (k1x _) (e.trans q),out ++ [c2 % 4294967296],by simpa [c0e] using h2,?_,by simp [u],by omega,?_⟩
    ·intro x e
     rcases k1T.1 e with e | e
     ·exact U x e
     ·simp at e;omega
    ·rw [c0n,u,a2,M,k1V]
     have e3:4294967296 ^ i * 4294967296 * (c2 / 4294967296)=4294967296 ^ i * (4294967296 * (c2 / 4294967296)):=k1O ..
     have e4:4294967296 ^ i * (c2 % 4294967296) + 4294967296 ^ i * (4294967296 * (c2 / 4294967296))=4294967296 ^ i * c2:=by rw [<- k1K,n1e]
     have e5:4294967296 ^ i * c2=4294967296 ^ i * c + 4294967296 ^ i * A + 4294967296 ^ i * B:=by rw [<- a4,k1K,k1K]
     omega
  ·simp [r0q,J,Z,g6,z,F,I,hi]
   have:i=j.length:=by omega
   subst this
   refine ⟨c,rfl,e,out,ho,U,u,hc,?_⟩
   rw [hs,k1J (k1x _),k1J a8]
 ·clear g0 J hm w1 ht ρ
  rintro t G' ⟨c,out,s,ht,Z,g6,e,ho,U,u,hc,hs⟩
  obtain ⟨ρ,rfl⟩:=toT ht
  simp only [b0T,Nat.reduceLT] at Z g6
  simp [x0Z,Z,g6]
  refine (a0t e.1).mo ?_
  rintro _ G2 ⟨rfl,q⟩
  obtain ⟨s',G3,h1,h2,h3,h4⟩:=e0m (e2:=a0l) (new:=[.int .u32 ((c % 4294967296:Nat):Int)]) (c:=1) (bytes:=4) (ho.mo q) rfl rfl (by omega) (by omega) (by omega) (by have:=e.1;have:=q.1;omega)
  simp [-Int.natCast_emod,-Int.natCast_add,h1]
  refine fun _=>⟨out ++ [c % 4294967296],⟨by simpa [u,c0e] using h2.sl,?_⟩,?_,by simp [u]⟩
  ·intro x e
   rcases k1T.1 e with e | e
   ·exact U x e
   ·simp at e;omega
  ·rw [c0n,u,k1Y (by omega)];exact hs
theorem i0L (ha:Lim H v a) (hb:Lim H w b) (hf:fl<=H.size) (a6:a.length < 1073741824) (a2:b.length<=a.length) (a3:a0y b<=a0y a) :
  a0O env fl z0p [v,w] H (fun r H'=>(∃ o,Lim H' r o/\a0y o=a0y a - a0y b/\o.length=a.length)/\Ext H H') R:=by
 refine a0i g1G hf (h:=?_)
 intro ρ h0
 simp only [M0I]
 have hm:=Z0x (bytes:=4) (k:=.i64) (k':=.i64) (l:=0) (c:=(a.length:Int)) (by omega) (by omega) (by omega) (by omega)
 simp [E0D,E0E,E0F,E0G,h0,ha.slen,hm]
 refine b0U (fun k t G'=>∃ i c out s,i + k=a.length/\t.length=46/\get t 1=w/\get t 5=s/\get t 6=.int .u64 ((c:Nat):Int)/\get t 14=v/\get t 15=.int .i64 a.length/\get t 16=.int .i64 ((i:Nat):Int) /\
   Ext H G'/\Own H.size G' a0l 1 s i (c0e out)/\b0u out/\out.length=i/\c<=1/\a0y out + a0y (b.take i)=a0y (a.take i) + 4294967296 ^ i * c)
  (fun t G'=>∃ c out s,t.length=46/\get t 5=s /\
   Ext H G'/\Own H.size G' a0l 1 s a.length (c0e out)/\b0u out/\out.length=a.length/\c<=1/\a0y out + a0y b=a0y a + 4294967296 ^ a.length * c) a.length ?_ ?_ ?_
 ·exact ⟨0,0,[],.slice (some ⟨H.size,0,none⟩) 0 a.length,by omega,by simp,by simp [h0],by simp,by simp,by simp [h0],by simp,by simp,by simp,
   Own.mk (by simp [c0e]) rfl (k1x _),by intro x e;simp at e,rfl,by omega,by simp [a0y]⟩
 ·clear hm h0 ρ
  rintro k t G' ⟨i,c,out,s,a5,ht,U,J,Z,y,z,F,e,ho,G,j,hc,hs⟩
  obtain ⟨ρ,rfl⟩:=toT ht
  simp only [b0T,Nat.reduceLT] at U J Z y z F
  by_cases hi:i < a.length
  ·have N:=ha.load hi e
   have L:=a0R hi
   have a1:a.getD i 0 < 4294967296:=ha.2 _ (by rw [k1v,k1A hi];exact k1D hi)
   generalize a.getD i 0=A at N L a1
   have e9:IntKind.i64.wrap ((i:Int) + 1)=((i + 1:Nat):Int):=by rw [a0S (by omega) (by omega)];omega
   by_cases q:i < b.length
   ·have a0:=hb.load q e
    have I:=a0R q
    have M:b.getD i 0 < 4294967296:=hb.2 _ (by rw [k1v,k1A q];exact k1D q)
    generalize b.getD i 0=B at a0 I M
    have e2:IntKind.u64.wrap ((c:Int) + IntKind.u64.wrap (B:Int))=((c + B:Nat):Int):=by rw [a0z,a0z];omega
    have O:IntKind.u64.wrap (IntKind.u64.wrap (A:Int) - ((c + B:Nat):Int))=(((A + 18446744073709551616 - (c + B)) % 18446744073709551616:Nat):Int):=by rw [a0z,a0z];omega
    simp [-Int.natCast_add,-Int.natCast_emod,r0u,v0u,v0v,v0w,v0x,v0y,r0r,r0s,r0t,U,J,Z,y,z,F,hi,ha.ia hi,N,hb.slen,q,hb.ia q,a0,e2,O]
    generalize hD:(A + 18446744073709551616 - (c + B)) % 18446744073709551616=D
    refine (a0t e.1).mo ?_
    rintro _ G2 ⟨rfl,u⟩
    obtain ⟨s',G3,h1,h2,h3,h4⟩:=e0m (e2:=a0l) (new:=[.int .u32 ((D % 4294967296:Nat):Int)]) (c:=1) (bytes:=4) (ho.mo u) rfl rfl (by omega) (by omega) (by omega) (by have:=e.1;have:=u.1;omega)
    simp [-Int.natCast_emod,-Int.natCast_add,h1,U,J,Z,y,z,F,e9]
    refine ⟨k - 1,by omega,i + 1,by omega,D / 9223372036854775808,rfl,rfl,h4 _ (k1x _) (e.trans u),out ++ [D % 4294967296],by simpa [c0e] using h2,?_,by simp [j],by omega,?_⟩
    ·intro x e
     rcases k1T.1 e with e | e
     ·exact G x e
     ·simp at e;omega
    ·rw [c0n,j,L,I,k1V]
     have O:4294967296 ^ i * 4294967296 * (D / 9223372036854775808)=4294967296 ^ i * (4294967296 * (D / 9223372036854775808)):=k1O ..
     have e4:D % 4294967296 + c + B=A + 4294967296 * (D / 9223372036854775808):=by omega
     have e5:4294967296 ^ i * (D % 4294967296) + 4294967296 ^ i * c + 4294967296 ^ i * B=4294967296 ^ i * A + 4294967296 ^ i * (4294967296 * (D / 9223372036854775808)):=by
      rw [<- k1K,<- k1K,<- k1K,e4]
     omega
   ·have I:a0y (b.take (i + 1))=a0y (b.take i) + 4294967296 ^ i * 0:=by rw [k1J (by omega),k1J (by omega)];simp
    have M:(0:Nat) < 4294967296:=by omega
    have O:IntKind.u64.wrap (IntKind.u64.wrap (A:Int) - (c:Int))=(((A + 18446744073709551616 - (c + 0)) % 18446744073709551616:Nat):Int):=by rw [a0z,a0z];omega
    generalize hB:(0:Nat)=B at I M O
    simp [-Int.natCast_add,-Int.natCast_emod,r0u,v0u,v0v,v0w,v0x,v0y,r0r,r0s,r0t,U,J,Z,y,z,F,hi,ha.ia hi,N,hb.slen,q,O]
    generalize hD:(A + 18446744073709551616 - (c + B)) % 18446744073709551616=D
    refine (a0t e.1).mo ?_
    rintro _ G2 ⟨rfl,u⟩
    obtain ⟨s',G3,h1,h2,h3,h4⟩:=e0m (e2:=a0l) (new:=[.int .u32 ((D % 4294967296:Nat):Int)]) (c:=1) (bytes:=4) (ho.mo u) rfl rfl (by omega) (by omega) (by omega) (by have:=e.1;have:=u.1;omega)
    simp [-Int.natCast_emod,-Int.natCast_add,h1,U,J,Z,y,z,F,e9]
    refine ⟨k - 1,by omega,i + 1,by omega,D / 9223372036854775808,rfl,rfl,h4 _ (k1x _) (e.trans u),out ++ [D % 4294967296],by simpa [c0e] using h2,?_,by simp [j],by omega,?_⟩
    ·intro x e
     rcases k1T.1 e with e | e
     ·exact G x e
     ·simp at e;omega
    ·rw [c0n,j,L,I,k1V]
     have O:4294967296 ^ i * 4294967296 * (D / 9223372036854775808)=4294967296 ^ i * (4294967296 * (D / 9223372036854775808)):=k1O ..
     have e4:D % 4294967296 + c + B=A + 4294967296 * (D / 9223372036854775808):=by omega
     have e5:4294967296 ^ i * (D % 4294967296) + 4294967296 ^ i * c + 4294967296 ^ i * B=4294967296 ^ i * A + 4294967296 ^ i * (4294967296 * (D / 9223372036854775808)):=by
      rw [<- k1K,<- k1K,<- k1K,e4]
     omega
  ·simp [r0u,U,J,Z,y,z,F,hi]
   have:i=a.length:=by omega
   subst this
   refine ⟨e,c,out,ho,G,j,hc,?_⟩
   rw [k1J (k1x _),k1J a2] at hs
   exact hs
 ·clear hm h0 ρ
  rintro t G' ⟨c,out,s,ht,J,e,ho,G,j,hc,hs⟩
  obtain ⟨ρ,rfl⟩:=toT ht
  simp only [b0T,Nat.reduceLT] at J
  simp [y0a,J]
  refine fun _=>⟨out,⟨by simpa [j] using ho.sl,G⟩,?_,j⟩
  have h2:=g0q out G
  rw [j] at h2
  have:c=0:=by
   refine Decidable.byContradiction fun a4=>?_
   have:c=1:=by omega
   subst this
   omega
  subst this
  omega
def z0h (a b:List Nat):Int:=if a.length ≠ b.length then c0L a.length b.length else c0L (a0y a) (a0y b)
theorem c0k {x y:Nat}:c0L (x:Int) (y:Int)=if x < y then -1 else if y < x then 1 else 0:=by
 unfold c0L;(repeat' split) <;> omega
theorem t0a {i:Nat} (u:a.length=b.length) (s:b0u a) (hb:b0u b) (hi:i < a.length) (v:a.drop (i + 1)=b.drop (i + 1)) (z:a.getD i 0 ≠ b.getD i 0) :
  c0L (a0y a:Int) (a0y b:Int)=c0L (a.getD i 0:Int) (b.getD i 0:Int):=by
 have h:a0y a=a0y (a.take i) + 4294967296 ^ i * a.getD i 0 + 4294967296 ^ (i + 1) * a0y (a.drop (i + 1)):=by
  have:=g0p (a.take (i + 1)) (a.drop (i + 1))
  rw [m1o,l1v,l1x (by omega)] at this
  rw [this,a0R hi]
 have j:a0y b=a0y (b.take i) + 4294967296 ^ i * b.getD i 0 + 4294967296 ^ (i + 1) * a0y (b.drop (i + 1)):=by
  have:=g0p (b.take (i + 1)) (b.drop (i + 1))
  rw [m1o,l1v,l1x (by omega)] at this
  rw [this,a0R (by omega)]
 have k:=g0q (a.take i) (fun x e=>s x (m1s e))
 have q:=g0q (b.take i) (fun x e=>hb x (m1s e))
 rw [l1v,l1x (by omega)] at k q
 rw [v] at h
 generalize 4294967296 ^ (i + 1) * a0y (b.drop (i + 1))=Z at h j
 generalize a.getD i 0=x at *
 generalize b.getD i 0=y at *
 generalize 4294967296 ^ i=P at *
 rw [c0k,c0k]
 by_cases c:x < y
 ·have:P * (x + 1)<=P * y:=l1c P c
  rw [k1K] at this
  rw [k1B (by omega),k1B c]
 ·have:P * (y + 1)<=P * x:=l1c P (by omega)
  rw [k1K] at this
  rw [k1y (by omega),k1B (by omega),k1y c,k1B (by omega)]
theorem f0z (J:Lim H v a) (hb:Lim H w b) (hf:fl<=H.size) (a1:a.length < 4611686018427387904) :
  a0O env fl s0z [v,w] H (fun r H'=>r=.int .i64 (z0h a b)/\Ext H H') R:=by
 refine a0i g1F hf (h:=?_)
 intro ρ I
 simp only [M0H]
 have w1:IntKind.i64.wrap ((a.length:Int) - 1)=(a.length:Int) - 1:=a0S (by omega) (by omega)
 simp [E0v,E0w,E0x,E0y,I,J.slen,hb.slen,w1]
 refine ⟨fun h=>?_,fun u=>?_⟩
 ·refine (j0N (k1x _)).mo ?_
  rintro _ G ⟨rfl,hx⟩
  simp [z0h,h]
 have L:z0h a b=c0L (a0y a) (a0y b):=by simp [z0h,u]
 rw [L]
 refine b0U (fun k t G'=>t.length=41/\get t 0=v/\get t 1=w/\get t 5=.int .i64 ((k:Int) - 1)/\G' = H/\k<=a.length/\a.drop k=b.drop k)
  (fun t G'=>t.length=41/\G' = H/\a=b) a.length (by simp [I,u]) ?_ ?_
 ·clear I ρ
  rintro k t G' ⟨Z,z,F,s,rfl,hk,M⟩
  obtain ⟨ρ,rfl⟩:=toT Z
  simp only [b0T,Nat.reduceLT] at z F s
  by_cases O:k=0
  ·subst O
   simp [v0t,z,F,s]
   simpa using M
  ·have e0:(k:Int) - 1=((k - 1:Nat):Int):=by omega
   have c:k - 1 < a.length:=by omega
   have e:k - 1 < b.length:=by omega
   have x:=J.load c (Ext.refl _)
   have y:=hb.load e (Ext.refl _)
   have w2:IntKind.i64.wrap (((k - 1:Nat):Int) - 1)=((k - 1:Nat):Int) - 1:=a0S (by omega) (by omega)
   rw [e0] at s
   have j:=J.ia (k:=.i64) c
   have q:=hb.ia (k:=.i64) e
   have N:=t0a u J.ok hb.ok c (by rw [show k - 1 + 1=k by omega];exact M)
   generalize hA:a.getD (k - 1) 0=A at x N
   generalize hB:b.getD (k - 1) 0=B at y N
   simp [v0t,z,F,s]
   refine a0C ?_
   simp [E0z,z,F,s,x,j,y,q]
   refine ⟨fun U=>?_,fun a0=>?_⟩
   ·refine a0C ?_
    simp [E0A,z,F,s,x,j,y,q]
    refine (h0t (k1x _)).mo ?_
    rintro _ G ⟨rfl,hx⟩
    simp [N U]
   ·simp [E0B,z,F,s,w2]
    refine ⟨k - 1,by omega,rfl,by omega,?_⟩
    rw [l1q c,l1q e,show k - 1 + 1=k by omega,M]
    congr 1
    rw [k1v,k1A c] at hA
    rw [k1v,k1A e] at hB
    simp at hA hB;omega
 ·clear I ρ
  rintro t G' ⟨Z,rfl,rfl⟩
  obtain ⟨ρ,rfl⟩:=toT Z
  simp [E0C,c0L]
end
section
variable {fl:Nat} {H:a0f} {R:a0D} {v:Value} {i:Bool × List Nat} {a b:List Nat}
theorem b0g.ok (h:b0g H v i):b0u i.2:=by obtain ⟨s,_,hs⟩:=h;exact hs.ok
theorem K0z {l:List Nat} (h:l.length=0 ∨ l.getD (l.length - 1) 0 ≠ 0):d0S l=l:=by
 rcases List.eq_nil_or_concat l with rfl | ⟨c,x,rfl⟩
 ·rfl
 ·have:x ≠ 0:=by
   rcases h with h | h
   ·simp at h
   ·simpa [k1v] using h
  rw [List.concat_eq_append];exact k0Z this
theorem m0F (i:Bool × List Nat):d0S (f0h i)=f0h i:=by
 unfold f0h
 by_cases h:g0n i=true
 ·rw [k1B h]
  refine K0z ?_
  unfold g0n at h
  by_cases c:i.2.length=0
  ·exact .inl c
  ·rw [k1y c] at h;exact .inr (by simpa using h)
 ·rw [k1y h];rfl
theorem C0d (h:b0u i.2):b0u (f0h i):=by
 unfold f0h;split
 ·exact h
 ·intro x c;simp at c
theorem N0M (i:Bool × List Nat):(a0s i).natAbs=a0y (f0h i):=by
 unfold a0s f0h
 by_cases h:g0n i=true
 ·rw [k1B h,k1B h];split <;> omega
 ·rw [k1y h,k1y h];rfl
theorem j0G (h:b0u i.2):f0h i=a0p (a0s i).natAbs:=by
 rw [N0M,<- c0a _ (C0d h),m0F]
theorem C0k (i:Bool × List Nat):b1G i=decide (a0s i < 0):=by
 unfold b1G a0s
 by_cases h:g0n i=true
 ·rw [k1B h,h,n1A]
  by_cases c:i.1=true
  ·have j:a0y i.2 ≠ 0:=by
    intro j
    have k:=(j0K i.2).1 j
    have e:=m0F i
    unfold f0h at e
    rw [k1B h,k] at e
    unfold g0n at h
    rw [<- e] at h
    simp [c] at h
   rw [k1B c,c];simp;omega
  ·rw [k1y c];simp [c]
 ·rw [k1y h];simp [h]
theorem z0H (i:Bool × List Nat):(f0h i).length<=i.2.length:=by unfold f0h;split <;> simp
theorem a0x (h:b0u i.2):(a0p (a0s i).natAbs).length<=i.2.length:=by rw [<- j0G h];exact z0H i
theorem a0X {m n:Nat} (h:m<=n):(a0p m).length<=(a0p n).length:=e0r (n1C h (e0E n))
theorem d0Q (m n:Nat):z0h (a0p m) (a0p n)=c0L m n:=by
 unfold z0h
 rw [a0q,a0q]
 split
 ·rename_i h
  rw [c0k,c0k]
  by_cases c:m < n
  ·have:=a0X (n1d c)
   rw [k1B c,k1B (by omega)]
  ·have:=a0X (show n<=m by omega)
   have j:m ≠ n:=fun e=>h (by rw [e])
   rw [k1y c,k1B (by omega:n < m),k1y (by omega),k1B (by omega)]
 ·rfl
theorem b0R (h:b0g H v i) (c:fl<=H.size) (e:i.2.length < 4611686018427387904) :
  a0O env fl g0i [v] H (fun r H'=>Lim H' r (a0p (a0s i).natAbs)/\Ext H H') R:=by
 rw [<- j0G h.ok];exact o0u h c e
theorem b0B (h:b0g H v i) (c:fl<=H.size) (e:i.2.length < 4611686018427387904) :
  a0O env fl e0t [v] H (fun r H'=>r=.bool (decide (a0s i < 0))/\Ext H H') R:=by
 rw [<- C0k];exact t0c h c e
theorem c0w {l:List Nat} {b:Bool} (z:Int) (h:Lim H v l) (c:fl<=H.size) (e:l.length<=1073741824) (j:(if b then -(a0y l:Int) else a0y l)=z) :
  a0O env fl g0W [.bool b,v] H (fun r H'=>b0g H' r (a0g z)/\Ext H H') R:=by
 rw [<- j,<- O0m h.ok];exact q0K h c e
theorem b0g.setT (h:b0g H v i) {p:Nat} {ro:Bool} {e':TypeId} {c:List Value} {r:Blk} (hb:H.bk p=.row ro e' c) (e:e' ≠ a0l):b0g (H.setIfInBounds p r) v i:=by
 obtain ⟨s,j,k⟩:=h;exact ⟨s,j,k.setT hb e⟩
end
section
variable {fl:Nat} {H:a0f} {R:a0D} {v w:Value} {i j:Bool × List Nat}
theorem e0H (h:b0g H v i) (I:fl<=H.size) (O:i.2.length<=1073741824) :
  a0O env fl L0u [v] H (fun r H'=>b0g H' r (a0g (-a0s i))/\Ext H H') R:=by
 have y:=h
 obtain ⟨s,rfl,hs⟩:=h
 refine a0i j1S I (h:=?_)
 intro ρ u
 simp [e1X,U0l,u]
 generalize x:(H.push _).push _=G
 have e:Ext H G:=by rw [<- x];simp
 have b0:a0f.bk G H.size=.row false a0a [.bool i.1,s]:=by rw [<- x];simp
 have c:a0f.bk G (H.size + 1)=.row false a0a [.bool false,.slice none 0 0]:=by rw [<- x];simp
 have F:H.size + 1 < G.size:=a0k c
 refine a0C ?_
 simp [U0m,u,b0,c]
 refine (b0B (y.mo e) (by omega) (by omega)).mo ?_
 rintro _ M ⟨rfl,k⟩
 replace b0:=k.bk b0
 replace c:=k.bk c
 replace e:=e.trans k
 simp [u,b0,c]
 refine (b0R (y.mo e) e.1 (by omega)).mo ?_
 rintro l G3 ⟨J,q⟩
 replace c:=q.bk c
 replace e:=e.trans q
 try simp [u]
 have:=a0x y.ok
 refine (c0w (-a0s i) J e.1 (by omega) (by rw [a0q];simp;split <;> omega)).mo ?_
 rintro _ N ⟨⟨L,rfl,j⟩,z⟩
 replace c:=z.bk c
 have F:=a0k c
 simp [c,j.cells,j.plain,F]
 exact fun _=>⟨L,rfl,j.setT c (by decide)⟩
theorem e0G (h:b0g H v i) (k:b0g H w j) (hf:fl<=H.size) (hn:i.2.length < 536870912) (hm:j.2.length < 536870912) :
  a0O env fl B0L [v,w] H (fun r H'=>b0g H' r (a0g (a0s i + a0s j))/\Ext H H') R:=by
 have hh:=h
 have kk:=k
 obtain ⟨s,rfl,hs⟩:=h
 obtain ⟨u,rfl,hu⟩:=k
 refine a0i k1a hf (h:=?_)
 intro ρ J
 simp [f1f,U0O,J]
 generalize Z:((H.push _).push _).push _=G
 have q:Ext H G:=by rw [<- Z];exact (Ext.refl H).push.push.push
 have b0:a0f.bk G H.size=.row false a0a [.bool i.1,s]:=by rw [<- Z];simp
 have z:a0f.bk G (H.size + 1)=.row false a0a [.bool j.1,u]:=by rw [<- Z];simp
 have b2:a0f.bk G (H.size + 2)=.row false a0a [.bool false,.slice none 0 0]:=by rw [<- Z];simp
 have U:H.size + 1 < G.size:=a0k z
 clear Z
 refine a0C ?_
 simp [U0P,J,b0,z]
 refine (b0R (hh.mo q) (by omega) (by omega)).mo ?_
 rintro x M ⟨F,c⟩
 replace b0:=c.bk b0
 replace z:=c.bk z
 replace b2:=c.bk b2
 replace q:=q.trans c
 try simp [J,b0,z]
 refine (b0R (kk.mo q) q.1 (by omega)).mo ?_
 rintro y G3 ⟨e,O⟩
 replace b0:=O.bk b0
 replace z:=O.bk z
 replace b2:=O.bk b2
 replace q:=q.trans O
 replace F:=F.mo O
 try simp [J]
 refine a0C ?_
 simp [U0Q,J,b0,z]
 refine (b0B (hh.mo q) (by have:=q.1;omega) (by omega)).mo ?_
 rintro _ M ⟨rfl,c⟩
 replace b0:=c.bk b0
 replace z:=c.bk z
 replace b2:=c.bk b2
 replace q:=q.trans c
 replace F:=F.mo c
 replace e:=e.mo c
 try simp [J,b0,z]
 refine (b0B (kk.mo q) q.1 (by omega)).mo ?_
 rintro _ M ⟨rfl,c⟩
 replace b0:=c.bk b0
 replace z:=c.bk z
 replace b2:=c.bk b2
 replace q:=q.trans c
 replace F:=F.mo c
 replace e:=e.mo c
 clear hs hu U c
 have l1:=a0x hh.ok
 have l2:=a0x kk.ok
 simp [J]
 refine ⟨fun a4=>?_,fun a1=>?_⟩
 ·simp [U0R,J,b0]
  refine (b0B (hh.mo q) q.1 (by omega)).mo ?_
  rintro _ M ⟨rfl,c⟩
  replace b0:=c.bk b0
  replace z:=c.bk z
  replace b2:=c.bk b2
  replace q:=q.trans c
  replace F:=F.mo c
  replace e:=e.mo c
  try simp [J]
  refine (q0L F e q.1 (by omega) (by omega)).mo ?_
  rintro r M ⟨⟨o,ho,L,a0⟩,c⟩
  replace b0:=c.bk b0
  replace z:=c.bk z
  replace b2:=c.bk b2
  replace q:=q.trans c
  replace F:=F.mo c
  replace e:=e.mo c
  try simp [J]
  rw [a0q,a0q] at L
  refine (c0w (a0s i + a0s j) ho q.1 (by omega) (by rw [L];simp;split <;> omega)).mo ?_
  rintro _ M ⟨⟨s',rfl,I⟩,c⟩
  replace b0:=c.bk b0
  replace z:=c.bk z
  replace b2:=c.bk b2
  replace q:=q.trans c
  replace F:=F.mo c
  replace e:=e.mo c
  have U:=a0k b2
  simp [b2,I.cells,I.plain,U]
  exact fun _=>⟨s',rfl,I.setT b2 (by decide)⟩
 ·simp [U0S,J]
  refine (f0z F e q.1 (by omega)).mo ?_
  rintro _ M ⟨rfl,c⟩
  replace b0:=c.bk b0
  replace z:=c.bk z
  replace b2:=c.bk b2
  replace q:=q.trans c
  replace F:=F.mo c
  replace e:=e.mo c
  rw [d0Q,c0k]
  try simp [J]
  refine ⟨fun a2=>?_,fun a3=>?_⟩
  ·have N:(a0s j).natAbs<=(a0s i).natAbs:=by
    (repeat' split at a2) <;> omega
   simp [U0T,J,b0]
   refine (b0B (hh.mo q) q.1 (by omega)).mo ?_
   rintro _ M ⟨rfl,c⟩
   replace b0:=c.bk b0
   replace z:=c.bk z
   replace b2:=c.bk b2
   replace q:=q.trans c
   replace F:=F.mo c
   replace e:=e.mo c
   try simp [J]
   refine (i0L F e q.1 (by omega) (a0X N) (by rw [a0q,a0q];exact N)).mo ?_
   rintro r M ⟨⟨o,ho,L,a0⟩,c⟩
   replace b0:=c.bk b0
   replace z:=c.bk z
   replace b2:=c.bk b2
   replace q:=q.trans c
   replace F:=F.mo c
   replace e:=e.mo c
   try simp [J]
   rw [a0q,a0q] at L
   refine (c0w (a0s i + a0s j) ho q.1 (by omega) (by rw [L];simp;split <;> omega)).mo ?_
   rintro _ M ⟨⟨s',rfl,I⟩,c⟩
   replace b0:=c.bk b0
   replace z:=c.bk z
   replace b2:=c.bk b2
   replace q:=q.trans c
   replace F:=F.mo c
   replace e:=e.mo c
   have U:=a0k b2
   simp [b2,I.cells,I.plain,U]
   exact fun _=>⟨s',rfl,I.setT b2 (by decide)⟩
  ·have N:(a0s i).natAbs<=(a0s j).natAbs:=by
    (repeat' split at a3) <;> omega
   simp [U0U,J,z]
   refine (b0B (kk.mo q) q.1 (by omega)).mo ?_
   rintro _ M ⟨rfl,c⟩
   replace b0:=c.bk b0
   replace z:=c.bk z
   replace b2:=c.bk b2
   replace q:=q.trans c
   replace F:=F.mo c
   replace e:=e.mo c
   try simp [J]
   refine (i0L e F q.1 (by omega) (a0X N) (by rw [a0q,a0q];exact N)).mo ?_
   rintro r M ⟨⟨o,ho,L,a0⟩,c⟩
   replace b0:=c.bk b0
   replace z:=c.bk z
   replace b2:=c.bk b2
   replace q:=q.trans c
   replace F:=F.mo c
   replace e:=e.mo c
   try simp [J]
   rw [a0q,a0q] at L
   refine (c0w (a0s i + a0s j) ho q.1 (by omega) (by rw [L];simp;split <;> omega)).mo ?_
   rintro _ M ⟨⟨s',rfl,I⟩,c⟩
   replace b0:=c.bk b0
   replace z:=c.bk z
   replace b2:=c.bk b2
   replace q:=q.trans c
   replace F:=F.mo c
   replace e:=e.mo c
   have U:=a0k b2
   simp [b2,I.cells,I.plain,U]
   exact fun _=>⟨s',rfl,I.setT b2 (by decide)⟩
theorem s0S (z:Int):(a0g z).2.length=(a0p z.natAbs).length:=rfl
theorem t0b (h:b0g H v i) (k:b0g H w j) (M:fl<=H.size) (U:i.2.length < 536870912) (hm:j.2.length < 536870912) :
  a0O env fl B0H [v,w] H (fun r H'=>b0g H' r (a0g (a0s i - a0s j))/\Ext H H') R:=by
 have N:=h
 have J:=k
 obtain ⟨s,rfl,hs⟩:=h
 obtain ⟨u,rfl,hu⟩:=k
 refine a0i h1s M (h:=?_)
 intro ρ I
 simp [N0s,H0w,I]
 generalize z:((H.push _).push _).push _=G
 have q:Ext H G:=by rw [<- z];exact (Ext.refl H).push.push.push
 have b0:a0f.bk G H.size=.row false a0a [.bool i.1,s]:=by rw [<- z];simp
 have y:a0f.bk G (H.size + 1)=.row false a0a [.bool j.1,u]:=by rw [<- z];simp
 have b2:a0f.bk G (H.size + 2)=.row false a0a [.bool false,.slice none 0 0]:=by rw [<- z];simp
 clear z
 refine a0C ?_
 simp [H0x,I,b0,y]
 refine (e0H (J.mo q) (by have:=q.1;omega) (by omega)).mo ?_
 rintro x L ⟨O,c⟩
 replace b0:=c.bk b0
 replace y:=c.bk y
 replace b2:=c.bk b2
 replace q:=q.trans c
 try simp [I]
 have F:(a0g (-a0s j)).2.length < 536870912:=by
  rw [s0S,Int.natAbs_neg];have:=a0x J.ok;omega
 refine (e0G (N.mo q) O q.1 U F).mo ?_
 rintro _ L ⟨⟨s',rfl,e⟩,c⟩
 replace b0:=c.bk b0
 replace y:=c.bk y
 replace b2:=c.bk b2
 replace q:=q.trans c
 have Z:=a0k b2
 simp [b2,e.cells,e.plain,Z]
 rw [a0h] at e ⊢
 exact fun _=>⟨s',by rw [m1D],by rw [m1D];exact e.setT b2 (by decide)⟩
theorem d0W (h:b0g H v i) (k:b0g H w j) (Z:fl<=H.size) (hn:i.2.length < 536870912) (hm:j.2.length < 536870912) :
  a0O env fl o0k [v,w] H (fun r H'=>r=.int .i64 (c0L (a0s i) (a0s j))/\Ext H H') R:=by
 have I:=h
 have O:=k
 obtain ⟨s,rfl,hs⟩:=h
 obtain ⟨u,rfl,hu⟩:=k
 refine a0i g1N Z (h:=?_)
 intro ρ z
 simp [M0P,E0X,z]
 generalize U:(H.push _).push _=G
 have e:Ext H G:=by rw [<- U];exact (Ext.refl H).push.push
 have b0:a0f.bk G H.size=.row false a0a [.bool i.1,s]:=by rw [<- U];simp
 have q:a0f.bk G (H.size + 1)=.row false a0a [.bool j.1,u]:=by rw [<- U];simp
 clear U
 simp [E0Y,z,b0,q]
 have l1:=a0x I.ok
 have l2:=a0x O.ok
 refine (b0B (I.mo e) e.1 (by omega)).mo ?_
 rintro _ F ⟨rfl,c⟩
 replace b0:=c.bk b0
 replace q:=c.bk q
 replace e:=e.trans c
 by_cases M:a0s i < 0
 ·simp [M,q]
  refine (b0B (O.mo e) e.1 (by omega)).mo ?_
  rintro _ F ⟨rfl,c⟩
  replace b0:=c.bk b0
  replace q:=c.bk q
  replace e:=e.trans c
  by_cases N:a0s j < 0
  ·simp [N,v0E,z,b0,q]
   refine (b0B (I.mo e) e.1 (by omega)).mo ?_
   rintro _ F ⟨rfl,c⟩
   replace b0:=c.bk b0
   replace q:=c.bk q
   replace e:=e.trans c
   simp [M,v0F,z,b0,q]
   refine (b0B (I.mo e) e.1 (by omega)).mo ?_
   rintro _ F ⟨rfl,c⟩
   replace b0:=c.bk b0
   replace q:=c.bk q
   replace e:=e.trans c
   simp [M,z]
   refine a0C ?_
   simp [F0b,z,b0,q]
   refine (b0R (O.mo e) (by have:=e.1;omega) (by omega)).mo ?_
   rintro x F ⟨J,c⟩
   replace b0:=c.bk b0
   replace q:=c.bk q
   replace e:=e.trans c
   try simp [z,b0]
   refine (b0R (I.mo e) e.1 (by omega)).mo ?_
   rintro y F ⟨L,c⟩
   replace J:=J.mo c
   replace b0:=c.bk b0
   replace q:=c.bk q
   replace e:=e.trans c
   try simp [z,b0]
   refine (f0z J L e.1 (by omega)).mo ?_
   rintro _ F ⟨rfl,c⟩
   rw [d0Q,c0k]
   have:(if (a0s j).natAbs < (a0s i).natAbs then (-1:Int) else if (a0s i).natAbs < (a0s j).natAbs then 1 else 0)=c0L (a0s i) (a0s j):=by
    unfold c0L;(repeat' split) <;> omega
   simp [this]
  ·simp [N,E0Z,z]
   have:c0L (a0s i) (a0s j) = -1:=by unfold c0L;rw [k1B (by omega)]
   simp [this]
 ·simp [M,v0E,z,b0,q]
  refine (b0B (I.mo e) e.1 (by omega)).mo ?_
  rintro _ F ⟨rfl,c⟩
  replace b0:=c.bk b0
  replace q:=c.bk q
  replace e:=e.trans c
  simp [M,z,q]
  refine (b0B (O.mo e) e.1 (by omega)).mo ?_
  rintro _ F ⟨rfl,c⟩
  replace b0:=c.bk b0
  replace q:=c.bk q
  replace e:=e.trans c
  by_cases N:a0s j < 0
  ·simp [N,F0a,z]
   have:c0L (a0s i) (a0s j)=1:=by unfold c0L;rw [k1y (by omega),k1B (by omega)]
   simp [this]
  ·simp [N,v0F,z,b0]
   refine (b0B (I.mo e) e.1 (by omega)).mo ?_
   rintro _ F ⟨rfl,c⟩
   replace b0:=c.bk b0
   replace q:=c.bk q
   replace e:=e.trans c
   simp [M,z]
   refine a0C ?_
   simp [F0c,z,b0,q]
   refine (b0R (I.mo e) (by have:=e.1;omega) (by omega)).mo ?_
   rintro x F ⟨J,c⟩
   replace b0:=c.bk b0
   replace q:=c.bk q
   replace e:=e.trans c
   try simp [z,q]
   refine (b0R (O.mo e) e.1 (by omega)).mo ?_
   rintro y F ⟨L,c⟩
   replace J:=J.mo c
   replace b0:=c.bk b0
   replace q:=c.bk q
   replace e:=e.trans c
   try simp [z,b0]
   refine (f0z J L e.1 (by omega)).mo ?_
   rintro _ F ⟨rfl,c⟩
   rw [d0Q,c0k]
   have:(if (a0s i).natAbs < (a0s j).natAbs then (-1:Int) else if (a0s j).natAbs < (a0s i).natAbs then 1 else 0)=c0L (a0s i) (a0s j):=by
    unfold c0L;(repeat' split) <;> omega
   simp [this]
theorem c0C {n:Int} (F:fl<=H.size) (N:-9223372036854775808<=n) (O:n < 9223372036854775808) :
  a0O env fl k0w [.int .i64 n] H (fun r H'=>b0g H' r (a0g n)/\Ext H H') R:=by
 refine a0i g1t F (h:=?_)
 intro ρ q
 simp only [M0v]
 refine g0U (l0z ?_)
 simp [-w0P,D0m,q]
 generalize y:H.push _=G
 have e:Ext H G:=by rw [<- y];exact (Ext.refl H).push
 have b2:a0f.bk G H.size=.row false a0a [.bool false,.slice none 0 0]:=by rw [<- y];simp
 clear y
 refine g0U (l0z ?_)
 simp [-w0P,D0n,q]
 refine g0U (a1e (fun t G'=>G' = G/\t.length=19/\get t 0=.int .i64 n/\get t 2=.pointer (some ⟨H.size,0,none⟩)/\get t 3=.int .u64 ((n.natAbs:Nat):Int)) ?_ ?_)
 ·have z:0<=n->IntKind.u64.wrap n=((n.natAbs:Nat):Int):=fun _=>by rw [a0z];omega
  have e2:n < 0->IntKind.u64.wrap (-IntKind.u64.wrap n)=((n.natAbs:Nat):Int):=fun _=>by rw [a0z,a0z];omega
  simp [D0o,D0p,q]
  exact ⟨e2,z⟩
 clear q ρ
 rintro t G' ⟨rfl,J,s,u,v⟩
 obtain ⟨ρ,rfl⟩:=toT J
 simp only [b0T,Nat.reduceLT] at s u v
 simp [D0q,s,u,v]
 refine (a0t e.1).mo ?_
 rintro _ j ⟨rfl,c⟩
 replace b2:=c.bk b2
 replace e:=e.trans c
 try simp [s,u,v]
 rw [show ((n.natAbs:Nat):Int) / 4294967296=((n.natAbs / 4294967296:Nat):Int) by omega]
 refine (a0t e.1).mo ?_
 rintro _ j ⟨rfl,c⟩
 replace b2:=c.bk b2
 replace e:=e.trans c
 simp
 have I:Lim (Array.push j (.row false a0l [.int .u32 (((n.natAbs:Nat):Int) % 4294967296),.int .u32 (((n.natAbs:Nat):Int) / 4294967296 % 4294967296)]))
   (.slice (some ⟨Array.size j,0,none⟩) 2 2) [n.natAbs % 4294967296,n.natAbs / 4294967296 % 4294967296]:=by
  refine ⟨(Own.mk (fl:=0) (n:=2) (sz:=1) (cs:=c0e [n.natAbs % 4294967296,n.natAbs / 4294967296 % 4294967296]) ?_ rfl (l1D _)).sl,?_⟩
  ·rw [a0G];simp [c0e]
  ·intro x e;simp at e;omega
 have c:Ext j (Array.push j (.row false a0l [.int .u32 (((n.natAbs:Nat):Int) % 4294967296),.int .u32 (((n.natAbs:Nat):Int) / 4294967296 % 4294967296)])):=(Ext.refl j).push
 replace b2:=c.bk b2
 replace e:=e.trans c
 refine (c0w n I e.1 (by simp) (by simp [a0y];split <;> omega)).mo ?_
 rintro _ j ⟨⟨M,rfl,k⟩,c⟩
 replace b2:=c.bk b2
 replace e:=e.trans c
 have L:=a0k b2
 simp [b2,k.cells,k.plain,L]
 exact fun _=>⟨M,rfl,k.setT b2 (by decide)⟩
theorem i0c:∀ (l:List Nat) (j z:Nat),j < l.length->a0y (l.set j z) + 4294967296 ^ j * l.getD j 0=a0y l + 4294967296 ^ j * z
 | [],j,z,h=>by simp at h
 | x :: l,0,z,_=>by simp [a0y];omega
 | x :: l,j + 1,z,h=>by
  have e:=i0c l j z (by simpa using h)
  rw [List.set_cons_succ,List.getD_cons_succ,a0y,a0y,k1V]
  have c:4294967296 ^ j * 4294967296 * l.getD j 0=4294967296 * (4294967296 ^ j * l.getD j 0):=by rw [k1Z (4294967296 ^ j),k1O]
  have e2:4294967296 ^ j * 4294967296 * z=4294967296 * (4294967296 ^ j * z):=by rw [k1Z (4294967296 ^ j),k1O]
  rw [c,e2];omega
theorem d0M (l:List Nat) (j z:Nat):c0e (l.set j z)=(c0e l).set j (.int .u32 (z:Nat)):=by simp [c0e,List.map_set]
theorem c0c {l:List Nat} {j z:Nat} (h:b0u l) (e:z < 4294967296):b0u (l.set j z):=by
 intro x c
 rcases List.mem_or_eq_of_mem_set c with c | rfl
 ·exact h x c
 ·exact e
theorem f0B {G:a0f} {e n p cap:Nat} {l:List Nat} (hb:G.bk p=.row false e (c0e l)) {k:IntKind} {z:Nat} (c:z < l.length) (h:l.length=n) :
  iaV 1 (.slice (some ⟨p,0,none⟩) n cap) (.int k (z:Int))=some (.pointer (some ⟨p,z,none⟩))/\rd (G.bk p) z=some (.int .u32 ((l.getD z 0:Nat):Int)):=by
 refine ⟨?_,?_⟩
 ·simp only [iaV];rw [k1B (by omega)];simp
 ·rw [hb];simp [c0e,k1v,c]
theorem b0P {l:List Nat} {a b z:Nat} (h:a ≠ b):(l.set a z).getD b 0=l.getD b 0:=by
 rw [k1v,k1v,List.getElem?_set_ne h]
theorem b0G (h:b0g H v i) (k:b0g H w j) (hf:fl<=H.size) (hn:i.2.length < 268435456) (hm:j.2.length < 268435456) :
  a0O env fl s0G [v,w] H (fun r H'=>b0g H' r (a0g (a0s i * a0s j))/\Ext H H') R:=by
 have hh:=h
 have kk:=k
 obtain ⟨s,rfl,hs⟩:=h
 obtain ⟨u,rfl,hu⟩:=k
 refine a0i k1b hf (h:=?_)
 intro ρ h0
 simp [f1g,U0V,h0]
 generalize hG:((H.push _).push _).push _=G
 have N:Ext H G:=by rw [<- hG];exact (Ext.refl H).push.push.push
 have b0:a0f.bk G H.size=.row false a0a [.bool i.1,s]:=by rw [<- hG];simp
 have b1:a0f.bk G (H.size + 1)=.row false a0a [.bool j.1,u]:=by rw [<- hG];simp
 have b2:a0f.bk G (H.size + 2)=.row false a0a [.bool false,.slice none 0 0]:=by rw [<- hG];simp
 clear hG
 have l1:=a0x hh.ok
 have l2:=a0x kk.ok
 refine a0C ?_
 simp [U0W,h0,b0,b1]
 refine (b0R (hh.mo N) (by have:=N.1;omega) (by omega)).mo ?_
 rintro x G2 ⟨hl,e⟩
 replace b0:=e.bk b0
 replace b1:=e.bk b1
 replace b2:=e.bk b2
 replace N:=N.trans e
 try simp [h0,b1]
 refine (b0R (kk.mo N) N.1 (by omega)).mo ?_
 rintro y G2 ⟨a1,e⟩
 replace hl:=hl.mo e
 replace b0:=e.bk b0
 replace b1:=e.bk b1
 replace b2:=e.bk b2
 replace N:=N.trans e
 generalize hA:a0p (a0s i).natAbs=A at hl l1
 generalize hB:a0p (a0s j).natAbs=B at a1 l2
 have w1:IntKind.i64.wrap ((A.length:Int) + (B.length:Int))=((A.length + B.length:Nat):Int):=by rw [a0S (by omega) (by omega)];omega
 have b9:=g0o (bytes:=4) (k:=.i64) (k':=.i64) (l:=A.length + B.length) (c:=A.length + B.length) (k1x _) (by omega) (by omega)
 simp [-Int.natCast_add,U0X,U0Y,h0,hl.slen,a1.slen,w1,b9]
 have hP:H.size<=G2.size:=N.1
 generalize d2:G2.size=P at hP
 generalize b5:Value.slice (some ⟨P,0,none⟩) (A.length + B.length) (A.length + B.length)=SL
 refine b0U (fun k t G'=>∃ a o,a + k=A.length/\t.length=78/\get t 2=.pointer (some ⟨H.size,0,none⟩)/\get t 3=.pointer (some ⟨H.size + 1,0,none⟩)/\get t 4=.pointer (some ⟨H.size + 2,0,none⟩) /\
   get t 6=y/\get t 7=SL/\get t 23=x/\get t 24=.int .i64 A.length/\get t 25=.int .i64 ((a:Nat):Int) /\
   Ext G2 G'/\a0f.bk G' P=.row false a0l (c0e o)/\o.length=A.length + B.length/\b0u o/\a0y o=a0y (A.take a) * a0y B/\∀ q,a + B.length<=q->o.getD q 0=0)
  (fun t G'=>∃ o,t.length=78/\get t 2=.pointer (some ⟨H.size,0,none⟩)/\get t 3=.pointer (some ⟨H.size + 1,0,none⟩)/\get t 4=.pointer (some ⟨H.size + 2,0,none⟩)/\get t 7=SL /\
   Ext G2 G'/\a0f.bk G' P=.row false a0l (c0e o)/\o.length=A.length + B.length/\b0u o/\a0y o=a0y A * a0y B) A.length ?_ ?_ ?_
 ·refine ⟨0,List.replicate (A.length + B.length) 0,by omega,by simp,by simp,by simp,by simp,by simp,by simp,by simp,by simp,by simp,Ext.push (Ext.refl _),?_,by simp,?_,?_,?_⟩
  ·rw [<- d2,a0G]
   congr 1
   generalize A.length + B.length=n
   induction n with
   | zero=>rfl
   | succ n ih=>rw [e0M,ih];rfl
  ·intro z hz;rw [m1W] at hz;omega
  ·simp only [n1n,a0y,n1H]
   generalize A.length + B.length=n
   induction n with
   | zero=>rfl
   | succ n ih=>rw [n1w,a0y,ih]
  ·intro q _;rw [k1v,m1h];split <;> rfl
 ·clear h0 ρ w1 b9
  rintro k t G' ⟨a,o,d7,ht,Z,g3,O,g6,g7,F,I,J,e,hb,L,M,hs,hz⟩
  obtain ⟨ρ,rfl⟩:=toT ht
  simp only [b0T,Nat.reduceLT] at Z g3 O g6 g7 F I J
  by_cases ha:a < A.length
  ·have a6:=hl.load ha e
   have hia:=hl.ia (k:=.i64) ha
   have c4:=a0R ha
   have c8:A.getD a 0 < 4294967296:=hl.2 _ (by rw [k1v,k1A ha];exact k1D ha)
   generalize A.getD a 0=U at a6 c4 c8
   simp [J0y,U0Z,V0a,V0b,Z,g3,O,g6,g7,F,I,J,ha,a6,hia,a1.slen]
   refine b0U (fun k2 t G'=>∃ q c o,q + k2=B.length/\t.length=78/\get t 2=.pointer (some ⟨H.size,0,none⟩)/\get t 3=.pointer (some ⟨H.size + 1,0,none⟩)/\get t 4=.pointer (some ⟨H.size + 2,0,none⟩) /\
     get t 6=y/\get t 7=SL/\get t 23=x/\get t 24=.int .i64 A.length/\get t 25=.int .i64 ((a:Nat):Int)/\get t 8=.int .i64 ((a:Nat):Int)/\get t 9=.int .u32 ((U:Nat):Int) /\
     get t 10=.int .u64 ((c:Nat):Int)/\get t 30=y/\get t 31=.int .i64 B.length/\get t 32=.int .i64 ((q:Nat):Int) /\
     Ext G2 G'/\a0f.bk G' P=.row false a0l (c0e o)/\o.length=A.length + B.length/\b0u o/\c < 4294967296 /\
     a0y o + 4294967296 ^ (a + q) * c=a0y (A.take a) * a0y B + 4294967296 ^ a * (U * a0y (B.take q))/\∀ q,a + B.length<=q->o.getD q 0=0)
    (fun t G'=>∃ c o,t.length=78/\get t 2=.pointer (some ⟨H.size,0,none⟩)/\get t 3=.pointer (some ⟨H.size + 1,0,none⟩)/\get t 4=.pointer (some ⟨H.size + 2,0,none⟩) /\
     get t 6=y/\get t 7=SL/\get t 23=x/\get t 24=.int .i64 A.length/\get t 25=.int .i64 ((a:Nat):Int)/\get t 8=.int .i64 ((a:Nat):Int) /\
     get t 10=.int .u64 ((c:Nat):Int) /\
     Ext G2 G'/\a0f.bk G' P=.row false a0l (c0e o)/\o.length=A.length + B.length/\b0u o/\c < 4294967296 /\
     a0y o + 4294967296 ^ (a + B.length) * c=a0y (A.take (a + 1)) * a0y B/\∀ q,a + B.length<=q->o.getD q 0=0) B.length ?_ ?_ ?_
   ·exact ⟨0,0,o,by omega,by simp,by simp [Z],by simp [g3],by simp [O],by simp [g6],by simp [g7],by simp [F],by simp [I],by simp [J],by simp,by simp,by simp,by simp,by simp,by simp,
     e,hb,L,M,by omega,by simp [hs,a0y],hz⟩
   ·clear hs hz M L hb e a6 o Z g3 O g6 g7 F I J ht ρ G'
    rintro k2 t G' ⟨q,c,o,d8,ht,Z,g3,O,g6,g7,F,I,J,g8,g9,a3,a7,a8,a9,e,hb,L,M,hc,hs,hz⟩
    obtain ⟨ρ,rfl⟩:=toT ht
    simp only [b0T,Nat.reduceLT] at Z g3 O g6 g7 F I J g8 g9 a3 a7 a8 a9
    by_cases hq:q < B.length
    ·have c6:=a1.load hq e
     have d5:=a1.ia (k:=.i64) hq
     have c5:=a0R hq
     have d0:B.getD q 0 < 4294967296:=a1.2 _ (by rw [k1v,k1A hq];exact k1D hq)
     generalize B.getD q 0=V at c6 c5 d0
     have a0:a + q < o.length:=by omega
     obtain ⟨a4,c0⟩:=f0B (k:=.i64) (cap:=A.length + B.length) hb a0 L
     rw [b5] at a4
     have a2:=i0c o (a + q) ((c + (U * V + o.getD (a + q) 0)) % 4294967296) a0
     have d3:o.getD (a + q) 0 < 4294967296:=M _ (by rw [k1v,k1A a0];exact k1D a0)
     generalize o.getD (a + q) 0=Wd at c0 a2 d3
     have d6:U * V<=4294967295 * 4294967295:=l1u (by omega) (by omega)
     have e1:IntKind.u64.wrap (U:Int)=(U:Int):=by rw [a0z];omega
     have e2:IntKind.u64.wrap (V:Int)=(V:Int):=by rw [a0z];omega
     have e3:IntKind.u64.wrap (Wd:Int)=(Wd:Int):=by rw [a0z];omega
     have e4:IntKind.u64.wrap ((U:Int) * (V:Int))=((U * V:Nat):Int):=by rw [a0z,<- l1Y];omega
     have e5:IntKind.u64.wrap (((U * V:Nat):Int) + (Wd:Int))=((U * V + Wd:Nat):Int):=by rw [a0z];omega
     have e6:IntKind.u64.wrap ((c:Int) + ((U * V + Wd:Nat):Int))=((c + (U * V + Wd):Nat):Int):=by rw [a0z];omega
     have e7:IntKind.i64.wrap ((a:Int) + (q:Int))=((a + q:Nat):Int):=by rw [a0S (by omega) (by omega)];omega
     have e8:IntKind.i64.wrap ((q:Int) + 1)=((q + 1:Nat):Int):=by rw [a0S (by omega) (by omega)];omega
     simp [-Int.natCast_add,-Int.natCast_mul,J0z,V0c,J0r,J0s,J0t,J0u,Z,g3,O,g6,g7,F,I,J,g8,g9,a3,a7,a8,a9,hq,c6,d5,e1,e2,e3,e4,e5,e6,e7,e8,a4,c0]
     refine (a0t (by have:=e.1;omega)).mo ?_
     rintro _ G3 ⟨rfl,a5⟩
     replace hb:=a5.bk hb
     have c3:=e.trans a5
     have b4:=a0k hb
     have b8:a + q + 1<=o.length:=a0
     generalize d4:c + (U * V + Wd)=c1 at *
     simp [-Int.natCast_emod,-Int.natCast_ediv,-Int.natCast_add,hb,hP,b8]
     refine ⟨k2 - 1,by omega,q + 1,by omega,c1 / 4294967296,by omega,rfl,c3.set (by omega),o.set (a + q) (c1 % 4294967296),by rw [a0A b4,d0M],by simp [L],c0c M (by omega),by omega,?_,?_⟩
     ·have f1:4294967296 ^ (a + (q + 1)) * (c1 / 4294967296)=4294967296 ^ (a + q) * (4294967296 * (c1 / 4294967296)):=by
       rw [show a + (q + 1)=a + q + 1 by omega,k1V,k1O]
      have f2:4294967296 ^ (a + q) * (c1 % 4294967296) + 4294967296 ^ (a + q) * (4294967296 * (c1 / 4294967296))=4294967296 ^ (a + q) * c1:=by rw [<- k1K,n1e]
      have f3:4294967296 ^ (a + q) * c1=4294967296 ^ (a + q) * c + (4294967296 ^ (a + q) * (U * V) + 4294967296 ^ (a + q) * Wd):=by rw [<- d4,k1K,k1K]
      have f4:4294967296 ^ a * (U * (a0y (List.take q B) + 4294967296 ^ q * V))=4294967296 ^ a * (U * a0y (List.take q B)) + 4294967296 ^ (a + q) * (U * V):=by
       rw [k1K,k1K,m1w]
       congr 1
       rw [k1O,m1v U]
      rw [c5,f4,f1]
      omega
     ·intro r hr
      have:=hz r hr
      rw [<- k1v,b0P (by omega)];exact this
    ·simp [J0z,Z,g3,O,g6,g7,F,I,J,g8,g9,a3,a7,a8,a9,hq]
     have:q=B.length:=by omega
     subst this
     refine ⟨c,rfl,e,o,hb,L,M,hc,?_,by simpa using hz⟩
     rw [hs,k1J (k1x _),c4,k1R,k1O]
   ·clear hs hz M L hb e a6 o Z g3 O g6 g7 F I J ht ρ G'
    rintro t G' ⟨c,o,ht,Z,g3,O,g6,g7,F,I,J,g8,a3,e,hb,L,M,hc,hs,hz⟩
    obtain ⟨ρ,rfl⟩:=toT ht
    simp only [b0T,Nat.reduceLT] at Z g3 O g6 g7 F I J g8 a3
    have a0:a + B.length < o.length:=by omega
    obtain ⟨a4,c0⟩:=f0B (k:=.i64) (cap:=A.length + B.length) hb a0 L
    rw [b5] at a4
    have a2:=i0c o (a + B.length) (c % 4294967296) a0
    rw [hz _ (k1x _)] at a2
    have e7:IntKind.i64.wrap ((a:Int) + (B.length:Int))=((a + B.length:Nat):Int):=by rw [a0S (by omega) (by omega)];omega
    have e8:IntKind.i64.wrap ((a:Int) + 1)=((a + 1:Nat):Int):=by rw [a0S (by omega) (by omega)];omega
    simp [-Int.natCast_add,J0v,Z,g3,O,g6,g7,F,I,J,g8,a3,a1.slen,e7,a4]
    refine (a0t (by have:=e.1;omega)).mo ?_
    rintro _ G3 ⟨rfl,a5⟩
    replace hb:=a5.bk hb
    have c3:=e.trans a5
    have b4:=a0k hb
    have b8:a + B.length + 1<=o.length:=a0
    simp [-Int.natCast_emod,-Int.natCast_ediv,-Int.natCast_add,J0w,Z,g3,O,g6,g7,F,I,J,hb,hP,b8,e8]
    refine ⟨k - 1,by omega,a + 1,by omega,rfl,c3.set (by omega),o.set (a + B.length) (c % 4294967296),by rw [a0A b4,d0M],by simp [L],c0c M (by omega),?_,?_⟩
    ·rw [k1Y hc] at a2 ⊢
     omega
    ·intro r hr
     have:=hz r (by omega)
     rw [<- k1v,b0P (by omega)];exact this
  ·simp [J0y,Z,g3,O,g6,g7,F,I,J,ha]
   have:a=A.length:=by omega
   subst this
   exact ⟨e,o,hb,L,M,by rw [hs,k1J (k1x _)]⟩
 ·clear h0 ρ w1 b9
  rintro t G' ⟨o,ht,Z,g3,O,g7,e,hb,L,M,hs⟩
  obtain ⟨ρ,rfl⟩:=toT ht
  simp only [b0T,Nat.reduceLT] at Z g3 O g7
  replace b0:=e.bk b0
  replace b1:=e.bk b1
  replace b2:=e.bk b2
  replace N:=N.trans e
  have hy:Lim G' SL o:=by
   rw [<- b5,<- L]
   exact ⟨(Own.mk (fl:=0) hb (by simp) (l1D _)).sl,M⟩
  refine a0C ?_
  simp [J0x,Z,g3,O,g7,b0,b1]
  refine (b0B (hh.mo N) (by have:=N.1;omega) (by omega)).mo ?_
  rintro _ G2 ⟨rfl,e⟩
  replace b0:=e.bk b0
  replace b1:=e.bk b1
  replace b2:=e.bk b2
  replace N:=N.trans e
  replace hy:=hy.mo e
  try simp [Z,g3,O,g7,b1]
  refine (b0B (kk.mo N) N.1 (by omega)).mo ?_
  rintro _ G2 ⟨rfl,e⟩
  replace b0:=e.bk b0
  replace b1:=e.bk b1
  replace b2:=e.bk b2
  replace N:=N.trans e
  replace hy:=hy.mo e
  try simp [Z,g3,O,g7,b1]
  have c9:a0y A=(a0s i).natAbs:=by rw [<- hA,a0q]
  have d1:a0y B=(a0s j).natAbs:=by rw [<- hB,a0q]
  rw [c9,d1,<- m1f] at hs
  have c7:(if (decide (a0s i < 0) != decide (a0s j < 0))=true then -((a0s i * a0s j).natAbs:Int) else ((a0s i * a0s j).natAbs:Int))=a0s i * a0s j:=by
   by_cases hi:a0s i < 0 <;> by_cases hj:a0s j < 0
   ·have:=Int.mul_pos_of_neg_of_neg hi hj
    simp [hi,hj];omega
   ·have:=l1C (Int.le_of_lt hi) (show 0<=a0s j by omega)
    simp [hi,hj];omega
   ·have:=Int.mul_nonpos_of_nonneg_of_nonpos (show 0<=a0s i by omega) (Int.le_of_lt hj)
    simp [hi,hj];omega
   ·have:=m1R (show 0<=a0s i by omega) (show 0<=a0s j by omega)
    simp [hi,hj];omega
  refine (c0w (a0s i * a0s j) hy N.1 (by omega) (by rw [hs];exact c7)).mo ?_
  rintro _ G2 ⟨⟨s',rfl,c2⟩,e⟩
  replace b0:=e.bk b0
  replace b1:=e.bk b1
  replace b2:=e.bk b2
  replace N:=N.trans e
  have hz:=a0k b2
  simp [b2,c2.cells,c2.plain,hz,O]
  exact fun _=>⟨s',rfl,c2.setT b2 (by decide)⟩
end
section
section
variable {tag:Nat}
theorem r0V (n:Nat):IntKind.u64.wrap (n:Int)=((n % 18446744073709551616:Nat):Int):=by rw [a0z];omega
theorem r0U (n:Nat):IntKind.u32.wrap (n:Int)=((n % 4294967296:Nat):Int):=by rw [f0q];omega
theorem K0n {n s:Nat} {k':IntKind} (hs:s<=64):d0p tag .shl (.int .u64 (n:Int)) (.int k' (s:Int))=some (.int .u64 ((n * 2 ^ s % 18446744073709551616:Nat):Int)):=by
 rw [w0U (by omega)]
 have:min (s:Int).toNat IntKind.u64.bits=s:=by show min (s:Int).toNat 64=s;omega
 rw [this]
 have e:(n:Int) * 2 ^ s=((n * 2 ^ s:Nat):Int):=by simp
 rw [e,r0V]
theorem r0N {n s:Nat} {k':IntKind} (hs:s<=32):d0p tag .shl (.int .u32 (n:Int)) (.int k' (s:Int))=some (.int .u32 ((n * 2 ^ s % 4294967296:Nat):Int)):=by
 rw [w0U (by omega)]
 have:min (s:Int).toNat IntKind.u32.bits=s:=by show min (s:Int).toNat 32=s;omega
 rw [this]
 have e:(n:Int) * 2 ^ s=((n * 2 ^ s:Nat):Int):=by simp
 rw [e,r0U]
theorem Y0u {n s:Nat} {k':IntKind} (hs:s<=64):d0p tag .shr (.int .u64 (n:Int)) (.int k' (s:Int))=some (.int .u64 ((n / 2 ^ s:Nat):Int)):=by
 rw [l0M (by omega)]
 have:min (s:Int).toNat IntKind.u64.bits=s:=by show min (s:Int).toNat 64=s;omega
 rw [this]
 have e:(2:Int) ^ s=((2 ^ s:Nat):Int):=by simp
 rw [e,L0w]
theorem r0O {n s:Nat} {k':IntKind} (hs:s<=32):d0p tag .shr (.int .u32 (n:Int)) (.int k' (s:Int))=some (.int .u32 ((n / 2 ^ s:Nat):Int)):=by
 rw [l0M (by omega)]
 have:min (s:Int).toNat IntKind.u32.bits=s:=by show min (s:Int).toNat 32=s;omega
 rw [this]
 have e:(2:Int) ^ s=((2 ^ s:Nat):Int):=by simp
 rw [e,L0w]
theorem b1J {a b:Nat} (e:a < 18446744073709551616) (hb:b < 18446744073709551616):d0p tag .or (.int .u64 (a:Int)) (.int .u64 (b:Int))=some (.int .u64 ((a ||| b:Nat):Int)):=by
 rw [k0s]
 have c:(BitVec.ofInt IntKind.u64.bits (a:Int) ||| BitVec.ofInt IntKind.u64.bits (b:Int)).toNat=a ||| b:=by
  show (BitVec.ofInt 64 (a:Int) ||| BitVec.ofInt 64 (b:Int)).toNat=a ||| b
  rw [BitVec.toNat_or]
  simp only [BitVec.ofInt_natCast,BitVec.toNat_ofNat]
  rw [k1Y (by omega),k1Y (by omega)]
 rw [c,r0V]
 have:a ||| b < 2 ^ 64:=Nat.or_lt_two_pow (by omega) (by omega)
 rw [k1Y (by omega)]
theorem a1j {a:Nat}:d0p tag .and (.int .u64 (a:Int)) (.int .u64 4294967295)=some (.int .u64 ((a % 4294967296:Nat):Int)):=by
 rw [L0f]
 have c:(BitVec.ofInt IntKind.u64.bits (a:Int) &&& BitVec.ofInt IntKind.u64.bits (4294967295:Int)).toNat=a % 4294967296:=by
  show (BitVec.ofInt 64 (a:Int) &&& BitVec.ofInt 64 (4294967295:Int)).toNat=a % 4294967296
  rw [BitVec.toNat_and]
  have:(BitVec.ofInt 64 (4294967295:Int)).toNat=2 ^ 32 - 1:=rfl
  rw [this,Nat.and_two_pow_sub_one_eq_mod]
  simp only [BitVec.ofInt_natCast,BitVec.toNat_ofNat]
  omega
 rw [c,r0V,k1Y (by omega)]
theorem x0t {x y:Nat} (h:y < 4294967296):x * 4294967296 ||| y=x * 4294967296 + y:=by
 have:=m1x (i:=32) (b:=y) (by omega) x
 rw [k1Z] at this
 exact this.symm
theorem b1T {a b:Nat} (c:a < 18446744073709551616) (hb:b ≠ 0):d0p tag .quo (.int .u64 (a:Int)) (.int .u64 (b:Int))=some (.int .u64 ((a / b:Nat):Int)):=by
 rw [w0T (by omega),l1U (by omega)]
 have:(a:Int) / (b:Int)=((a / b:Nat):Int):=rfl
 rw [this,r0V,k1Y (n1C (l1J a b) c)]
theorem c1H {a b:Nat} (hb:b ≠ 0):d0p tag .rem (.int .u64 (a:Int)) (.int .u64 (b:Int))=some (.int .u64 ((a % b:Nat):Int)):=by
 rw [L0h (by omega),Int.tmod_eq_emod_of_nonneg (by omega)]
 rfl
