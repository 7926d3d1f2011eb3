/- Part 5 of the proof. -/
import Derived.Test.YtilekhkgobmolaaGreatM02
import Derived.Test.YtilekhkgobmolaaGreatM03
set_option linter.unusedVariables false
set_option linter.unusedSimpArgs false
set_option linter.unusedSectionVars false
namespace Go.Proofs.YtilekhkgobmolaaGreat.AI
section
open Go
abbrev t0P (F:RK):Nat:=F.p U0X U0P
abbrev m0b (F:RK):Nat:=F.p r0X b1z
abbrev k0c (F:RK):Nat:=F.p V0c U0U
abbrev l0v (F:RK):Nat:=F.p U0Z U0R
abbrev m0a (F:RK):Nat:=F.p V0g V0e
abbrev A0B (F:RK):Nat:=F.p V0a U0S
abbrev l0w (F:RK):Nat:=F.p V0b U0T
abbrev A0C (F:RK):Nat:=F.p V0d U0W
abbrev t0Q (F:RK):Nat:=F.p V0h V0f
abbrev w0q (F:RK):Nat:=F.p U0Y U0Q
def s0N (F:RK):SS:=[o 2 (.box (F.p a0m a0l) (t 0)),bX 3 a0O 1,o 4 (.mv (.const (.pointer none)))]
def s0O:SS:=[fA 22 1 3,lD 23 22,lN 24 23,mV 5 24]
def h0y (F:RK):SS:=[lA 25 0 2,fA 26 0 3,lD 27 26,mV 28 5,fA 29 0 3,lD 30 29,o 31 (.bin 0 .mul (i 2) (t 30)),mV 32 5,o 33 (bT .add 31 32),lA 34 0 2,o 35 (.iface (F.p a0m a0l) (t 34)),cB 36 k0d [i 1],o 37 (.inv (t 35) [(a0l,k0e),(a0m,j0q)] [t 36] false)] ++ F.p [o 38 (.build [.int .i64 0,.int .i64 0,.int .i64 0,.slice none 0 0,.int .i64 0,.slice none 0 0,.int .i64 0] [(0,0,t 25),(0,1,t 27),(1,1,t 28),(2,1,t 33),(4,1,t 37)])] [o 38 (.build [.int .i64 0,.int .i64 0,.int .i64 0,.slice none 0 0,.bool false,.slice none 0 0,.slice none 0 0,.int .i64 0] [(0,0,t 25),(0,1,t 27),(1,1,t 28),(2,1,t 33),(4,2,t 37)])] ++ [o 39 (.box (F.p a0d a0c) (t 38)),o 6 (.alloc (F.p a0H a0C) [.pointer none]),sT 1 6 39]
def h0A (F:RK):SS:=[lA 40 0 2,o 41 (.iface (F.p a0m a0l) (t 40)),o 42 (.build zI []),o 43 (.inv (t 41) [(a0l,k0e),(a0m,j0q)] [t 42] true)] ++ F.p [o 7 (.alloc d0J [.int .i64 0])] [o 7 (.alloc a0a zI)] ++ [⟨none,none,.store F.w (t 7) (t 43)⟩]
def s0P (F:RK):SS:=[o 44 (.mkfn (.func (F.p n0Q n0P)) [] [t 6,t 7]),mV 8 44]
def s0Q:SS:=[mV 45 8,o 46 (.callv (t 45) [] true),mV 47 8,o 48 (.callv (t 47) [] true),mV 9 46,mV 10 48]
def s0R:SS:=[fA 49 3 3,lD 50 49,lN 51 50,mI 52 0]
def C0h:SS:=[o 53 (bT .lss 52 51)]
def s0S:SS:=[mV 54 52,iA 55 2 50 52,lA 56 2 55,o 12 (.alloc a0a zI),mV 11 54,sT 2 12 56]
def s0T (F:RK):SS:=[lA 57 0 2,o 58 (.iface (F.p a0m a0l) (t 57)),lA 59 2 12,o 60 (.inv (t 58) [(a0l,k0e),(a0m,j0q)] [t 59] true)] ++ F.p [mV 13 60] [o 13 (.alloc a0a zI),sT 2 13 60]
def o0R (F:RK):SS:=[mV 61 10,mV 62 11,mV 63 10,fA 64 0 3,lD 65 64,mV 66 11,o 67 (bT .add 65 66),lA 68 0 2,o 69 (.iface (F.p a0m a0l) (t 68))] ++ F.p [mV 70 13] [lA 70 2 13] ++ [o 71 (.inv (t 69) [(a0l,m0d),(a0m,m0e)] [t 70] false)] ++ F.p [mV 72 13] [lA 72 2 13] ++ [o 73 (.ia F.w (t 61) (t 62)),⟨none,none,.store F.w (t 73) (t 71)⟩,o 74 (.ia F.w (t 63) (t 67)),⟨none,none,.store F.w (t 74) (t 72)⟩]
def z0k:SS:=[o 75 (bI .add 52 1),mV 52 75]
def o0S:SS:=[fA 76 1 3,lD 77 76,lN 78 77,mI 79 0]
def z0l:SS:=[o 80 (bT .lss 79 78)]
def o0T:SS:=[mV 81 79,iA 82 1 77 79,lD 83 82,mV 14 81,mV 15 83]
def o0U:SS:=[mV 84 8,o 85 (.callv (t 84) [] true),mV 16 85]
def o0V:SS:=[mV 86 15,fA 87 0 3,lD 88 87,o 89 (.sl a0a 2 (t 86) none (some (t 88)) none),lN 90 89,mI 91 0]
def z0m:SS:=[o 92 (bT .lss 91 90)]
def o0W:SS:=[mV 93 91,iA 94 2 89 91,lA 95 2 94,o 18 (.alloc a0a zI),mV 17 93,sT 2 18 95]
def o0X (F:RK):SS:=[lA 96 0 2,o 97 (.iface (F.p a0m a0l) (t 96)),lA 98 2 18,o 99 (.inv (t 97) [(a0l,k0e),(a0m,j0q)] [t 98] true)] ++ F.p [mV 19 99] [o 19 (.alloc a0a zI),sT 2 19 99]
def o0Y (F:RK):SS:=[mV 100 16,mV 101 17,mV 102 16,fA 103 0 3,lD 104 103,mV 105 17,o 106 (bT .add 104 105)] ++ F.p [mV 107 19] [lA 107 2 19] ++ [lA 108 0 2,o 109 (.iface (F.p a0m a0l) (t 108))] ++ F.p [mV 110 19] [lA 110 2 19] ++ [o 111 (.inv (t 109) [(a0l,m0d),(a0m,m0e)] [t 110] false),o 112 (.ia F.w (t 100) (t 101)),⟨none,none,.store F.w (t 112) (t 107)⟩,o 113 (.ia F.w (t 102) (t 106)),⟨none,none,.store F.w (t 113) (t 111)⟩]
def z0n:SS:=[o 114 (bI .add 91 1),mV 91 114]
def o0Z (F:RK):SS:=[mV 115 16,fA 116 0 3,lD 117 116,o 118 (.bin 0 .mul (i 2) (t 117)),mV 119 14,o 120 (bT .add 118 119),lD 121 6,cK 122 121,fA 123 4 122,o 124 (.load F.b F.w (t 123)),o 125 (.ia F.w (t 115) (t 120)),⟨none,none,.store F.w (t 125) (t 124)⟩]
def p0a (F:RK):SS:=[mV 126 16,lD 127 6,cK 128 127,fA 129 2 128,lD 130 129,lA 131 0 2,o 132 (.iface (F.p a0m a0l) (t 131)),mV 133 15,fA 134 0 3,lD 135 134,iA 136 2 133 135,lA 137 2 136,o 138 (.inv (t 132) [(a0l,k0e),(a0m,j0q)] [t 137] false),o 139 (.ia F.w (t 126) (t 130)),⟨none,none,.store F.w (t 139) (t 138)⟩]
def p0b:SS:=[fA 140 0 3,lD 141 140,o 142 (.bin 0 .mul (i 2) (t 141)),mV 143 14,o 144 (bT .add 142 143),mV 20 144]
def p0c (F:RK):SS:=[lA 145 0 2,o 146 (.iface (F.p a0m a0l) (t 145)),mV 147 16,lD 148 6,cK 149 148,fA 150 2 149,lD 151 150,o 152 (.ia F.w (t 147) (t 151)),o 153 (.load F.b F.w (t 152)),o 154 (.inv (t 146) [(a0l,n0R),(a0m,n0S)] [t 153] true),o 155 (bI .lss 154 0)]
def p0d:SS:=[lD 156 6,cK 157 156,fA 158 2 157,lD 159 158,mV 160 14,o 161 (bT .add 159 160),mV 20 161]
def p0e:SS:=[mV 162 16,lN 163 162,mI 164 0]
def z0o:SS:=[o 165 (bT .lss 164 163)]
def p0f:SS:=[mV 166 164,mV 21 166]
def p0g (F:RK):SS:=[mV 167 16,mV 168 21,lA 169 0 2,o 170 (.iface (F.p a0m a0l) (t 169)),mV 171 16,mV 172 21,o 173 (.ia F.w (t 171) (t 172)),o 174 (.load F.b F.w (t 173)),o 175 (.inv (t 170) [(a0l,m0d),(a0m,m0e)] [t 174] true),o 176 (.ia F.w (t 167) (t 168)),⟨none,none,.store F.w (t 176) (t 175)⟩]
def p0h (F:RK):SS:=[mV 177 9,mV 178 21,lD 179 6,mV 180 9,mV 181 21,o 182 (.ia F.w (t 180) (t 181)),o 183 (.load F.b F.w (t 182)),mV 184 16,mV 185 21,o 186 (.ia F.w (t 184) (t 185)),o 187 (.load F.b F.w (t 186)),o 188 (.call (F.p y0G y0E) [t 179,t 183,t 187] true),o 189 (.ia F.w (t 177) (t 178)),⟨none,none,.store F.w (t 189) (t 188)⟩]
def z0p:SS:=[o 190 (bI .add 164 1),mV 164 190]
def k0v (F:RK):SS:=[lD 191 6,lD 192 6,lD 193 6,cK 194 193,fA 195 3 194,lD 196 195,mV 197 16,o 198 (.lit (F.p e0U b0i) [.slice none 0 0] 1 [(0,1,t 197)]),o 199 (.app (F.p e0U b0i) 1 24 (t 196) (t 198)),lD 200 6,cK 201 200,o 202 (.fa (F.p 5 6) (t 201)),lD 203 202,mV 204 20,o 205 (.lit e0F [.int .i64 0] 1 [(0,1,t 204)]),o 206 (.app e0F 1 8 (t 203) (t 205)),cK 207 191,fA 208 3 207,sT 1 208 199,cK 209 192,o 210 (.fa (F.p 5 6) (t 209)),sT 1 210 206]
def z0q:SS:=[o 211 (bI .add 79 1),mV 79 211]
def p0i (F:RK):SS:=[lD 212 6,lD 213 6,cK 214 213,fA 215 3 214,lD 216 215,mV 217 9,mV 218 10,o 219 (.lit (F.p e0U b0i) [.slice none 0 0] 2 [(0,1,t 217),(1,1,t 218)]),o 220 (.app (F.p e0U b0i) 1 24 (t 216) (t 219)),cK 221 212,fA 222 3 221,sT 1 222 220]
def p0j:SS:=[lD 223 6,mV 4 223]
def k0y (F:RK):SF:=⟨2,224,[.tmp 4],
 (qS (gR (s0N F)) (qS (gR s0O) (qS (.draw (h0y F) [0,0,2,0,0,16,48,0,240,0,512,0,3584,8191,16383,0,65535] []) (qS (gR (h0A F)) (qS (gR (s0P F)) (qS (gR s0Q) (qS (qS (gR s0R) (.block 0 (.loop (qS (gR C0h) (qS (.cond (t 53) .skip (.exit 0)) (qS (.block 1 (qS (gR s0S) (qS (gR (s0T F)) (.draw (o0R F) [0,0,0,0,8,0,56,0,128,0,896,0,1923,6019,16383,32767] (F.p [(4,13)] [(4,13),(11,13)]))))) (gR z0k))))))) (qS (qS (gR o0S) (.block 2 (.loop (qS (gR z0l) (qS (.cond (t 80) .skip (.exit 2)) (qS (.block 3 (qS (gR o0T) (qS (gR o0U) (qS (qS (gR o0V) (.block 4 (.loop (qS (gR z0m) (qS (.cond (t 92) .skip (.exit 4)) (qS (.block 5 (qS (gR o0W) (qS (gR (o0X F)) (.draw (o0Y F) [0,0,0,0,8,0,56,0,0,256,0,1792,3971,8067,16383,32767] [(4,13)])))) (gR z0n))))))) (qS (.draw (o0Z F) [0,0,2,6,0,30,0,64,192,448,1023,2047] []) (qS (.draw (p0a F) [0,0,2,6,14,0,32,0,0,256,896,1920,4064,8191,16383] []) (qS (gR p0b) (qS (qS (.draw (p0c F) [0,1,0,0,8,24,56,124,252,511,1023] []) (.cond (t 155) (qS (gR p0d) (qS (gR p0e) (.block 6 (.loop (qS (gR z0o) (qS (.cond (t 165) .skip (.exit 6)) (qS (.block 7 (qS (gR p0f) (qS (.draw (p0g F) [0,0,0,4,0,0,48,112,252,511,1023] []) (.draw (p0h F) [0,0,0,0,0,24,56,0,0,384,896,2044,4095,8191] [])))) (gR z0p)))))))) .skip)) (.draw (k0v F) [0,0,0,4,12,28,0,64,252,0,512,1536,3584,0,8192,32764,65533,131069,262141,524287,1048575,2097151] [(0,8),(1,8),(8,9),(8,12),(8,14),(0,15),(1,15),(1,18)]))))))))) (gR z0q))))))) (qS (.draw (p0i F) [0,0,2,6,14,0,0,96,254,511,1023,2047] [(0,8)]) (qS (gR p0j) .ret))))))))))⟩
def m0S (F:RK):SS:=[o 3 (.box (F.p a0m a0l) (t 0)),bX 4 b0J 1,bX 5 a0O 2,o 6 (.alloc b0U zA),mI 7 0]
def m0T (F:RK):SS:=[lA 16 0 3,lA 17 8 5,o 18 (.call (t0P F) [t 16,t 17] true),o 8 (.alloc (F.p a0H a0C) [.pointer none]),sT 1 8 18]
def m0U:SS:=[lD 19 8,cK 20 19,fA 21 1 20,lD 22 21,lD 23 8,cK 24 23,fA 25 1 24,lD 26 25,o 27 (bI .add 26 1),mV 9 22,mV 10 27]
def m0V (F:RK):SS:=[lD 28 8,mV 29 9,o 30 (.call (w0q F) [t 28,t 29] true)]
def m0W (F:RK):SS:=[lD 31 8,cK 32 31,o 33 (.fa0 (F.p a0d a0c) (t 32)),lA 34 0 33,o 35 (.iface (F.p a0m a0l) (t 34)),lD 36 8,cK 37 36,fA 38 3 37,lD 39 38,mV 40 9,iA 41 1 39 40,lD 42 41,lD 43 8,cK 44 43,fA 45 2 44,lD 46 45,o 47 (.ia F.w (t 42) (t 46)),o 48 (.load F.b F.w (t 47)),o 49 (.inv (t 35) [(a0l,n0R),(a0m,n0S)] [t 48] true),o 50 (bI .lss 49 0)]
def m0X (F:RK):SS:=[cB 51 w0r [i 0],lD 52 8,mV 53 9,lA 54 8 5,cB 55 w0r [i 1],o 56 (.call (l0v F) [t 52,t 53,t 54,t 55] false),o 57 (.build zA [(0,1,i 2),(1,4,t 51),(6,1,t 56)]),lD 58 8,cK 59 58,o 60 (.fa (F.p 6 7) (t 59)),lD 61 60,sT 8 6 57,mV 7 61]
def m0Y (F:RK):SS:=[lD 62 8,o 63 (.call (A0B F) [t 62] true)]
def m0Z (F:RK):SS:=[lD 64 8,mV 65 10,o 66 (.call (w0q F) [t 64,t 65] true),mV 11 66]
def n0a (F:RK):SS:=[lD 67 8,o 68 (.mkfn (.func (k0c F)) [] [t 8]),o 69 (.call (l0w F) [t 67,t 68] true),mV 12 69]
def i0Y:SS:=[mV 70 11,o 71 (bI .geq 70 0)]
def k0U (F:RK):SS:=[cB 72 w0r [i 0],mV 73 12,lD 74 8,mV 75 11,o 76 (.call (A0C F) [t 74,t 75] false),o 77 (.build zA [(0,1,i 3),(1,4,t 72),(5,1,t 73),(7,1,t 76)]),lD 78 8,cK 79 78,o 80 (.fa (F.p 6 7) (t 79)),lD 81 80,sT 8 6 77,mV 7 81]
def k0V:SS:=[cA 82 w0r [i 0],o 13 (.alloc a0b zR),sT 4 13 82]
def k0W:SS:=[fA 83 3 4,lD 84 83,lN 85 84,mI 86 0]
def s0W:SS:=[o 87 (bT .lss 86 85)]
def k0X:SS:=[mV 88 86,iA 89 4 84 86,lA 90 4 89,o 15 (.alloc a0b zR),mV 14 88,sT 4 15 90]
def k0Y:SS:=[lA 91 4 13,lA 92 4 15,mV 93 12,mV 94 14,iA 95 4 93 94,lA 96 4 95,cB 97 M0U [t 92,t 96],cA 98 t0x [t 91,t 97],sT 4 13 98]
def s0X:SS:=[o 99 (bI .add 86 1),mV 86 99]
def k0Z (F:RK):SS:=[lA 100 4 13,mV 101 12,lD 102 8,mV 103 10,lA 104 8 5,fA 105 4 5,lA 106 4 105,o 107 (.call (l0v F) [t 102,t 103,t 104,t 106] false),o 108 (.build zA [(0,1,i 1),(1,4,t 100),(5,1,t 101),(6,1,t 107)]),lD 109 8,cK 110 109,o 111 (.fa (F.p 6 7) (t 110)),lD 112 111,sT 8 6 108,mV 7 112]
def f0X (F:RK):SF:=⟨3,113,[.cell 6 true 8,.tmp 7],
 (qS (gR (m0S F)) (qS (gR (m0T F)) (qS (.draw m0U [0,1,3,7,0,16,48,112,240,15,1023] []) (qS (gR (m0V F)) (qS (qS (.draw (m0W F) [0,1,3,7,15,0,32,96,224,0,992,2016,0,4096,12288,28672,65504,131040,262143,524287] []) (.cond (t 50) (qS (.draw (m0X F) [0,0,0,0,1,31,63,0,128,384,896,127,4095] [(7,11),(10,11)]) .ret) .skip)) (qS (gR (m0Y F)) (qS (gR (m0Z F)) (qS (gR (n0a F)) (qS (qS (gR i0Y) (.cond (t 71) (qS (.draw (k0U F) [0,0,0,0,13,31,0,64,192,448,63,2047] [(6,10),(9,10)]) .ret) .skip)) (qS (gR k0V) (qS (qS (gR k0W) (.block 0 (.loop (qS (gR s0W) (qS (.cond (t 87) .skip (.exit 0)) (qS (.block 1 (qS (gR k0X) (.draw k0Y [0,0,0,0,12,28,62,127,255] []))) (gR s0X))))))) (qS (.draw (k0Z F) [0,0,0,0,0,0,32,124,255,0,512,1536,3584,511,16383] [(9,13),(12,13)]) .ret))))))))))))⟩
def h0B (F:RK):SS:=F.p [mI 3 0] [o 3 (.alloc a0a zI)]
def h0C (F:RK):SS:=[lD 4 1,cK 5 4,fA 6 3 5,lD 7 6,mV 8 0,iA 9 1 7 8,lD 10 9,lD 11 1,cK 12 11,fA 13 2 12,lD 14 13,o 15 (.ia F.w (t 10) (t 14)),o 16 (.load F.b F.w (t 15))] ++ F.p [mV 3 16] [sT 2 3 16]
def e0s (F:RK):SF:=⟨2,17,(F.p [.tmp 3] [.cell 3 true 2]),
 (qS (gR (h0B F)) (qS (.draw (h0C F) [0,1,3,7,0,31,63,0,128,384,896,2047,4095,8191] []) .ret))⟩
def o0K:SS:=[bX 6 a0O 2,bX 7 a0b 3,mN 8]
def o0L:SS:=[mN 9]
def o0M:SS:=[mV 13 0,cK 14 13,fA 15 1 14,lD 16 15,mI 17 0]
def z0i:SS:=[o 18 (bT .lss 17 16)]
def o0N:SS:=[mV 19 17,mV 10 19]
def o0O (F:RK):SS:=[mV 21 0,mV 22 0,cK 23 22,fA 24 3 23,lD 25 24,mV 26 1,iA 27 1 25 26,lD 28 27,mV 29 0,cK 30 29,fA 31 0 30,lD 32 31,o 33 (.bin 0 .mul (i 2) (t 32)),mV 34 10,o 35 (bT .add 33 34),o 36 (.ia F.w (t 28) (t 35)),o 37 (.load F.b F.w (t 36)),o 38 (.call (F.p s0c s0b) [t 21,t 37] false),fA 39 2 6,lD 40 39,mV 41 10,iA 42 4 40 41,lA 43 4 42,cB 44 M0U [t 38,t 43],lA 45 4 7,cB 46 A0M [t 44,t 45],mV 20 46,eX 47 20 0,eX 48 20 1,o 11 (.alloc a0b zR),sT 4 11 47,mV 12 48]
def o0P:SS:=[mV 49 9,lA 50 4 11,o 51 (.lit a0b zR 1 [(0,4,t 50)]),o 52 (.app a0b 4 64 (t 49) (t 51)),mV 9 52]
def z0j:SS:=[o 53 (bI .add 17 1),mV 17 53]
def o0Q:SS:=[mV 54 9,mV 8 54]
def h0X (F:RK):SF:=⟨4,55,[.tmp 8],
 (qS (gR o0K) (qS (gR o0L) (qS (qS (gR o0M) (.block 0 (.loop (qS (gR z0i) (qS (.cond (t 18) .skip (.exit 0)) (qS (.block 1 (qS (gR o0N) (qS (.draw (o0O F) [0,0,2,6,14,0,62,126,0,256,768,1792,3840,0,16128,32766,65534,131071,0,262144,0,1835008,3932160,8388607,0,33554431,67108863,134217727,134217727,0,805306367,2147483647] []) (gR o0P)))) (gR z0j))))))) (qS (gR o0Q) .ret))))⟩
def m0C:SS:=[mI 4 0]
def m0D:SS:=[o 5 (.mv (.const (.int .i64 (-1))))]
def m0E:SS:=[mV 8 0,cK 9 8,fA 10 1 9,lD 11 10,mI 12 0]
def u0w:SS:=[o 13 (bT .lss 12 11)]
def m0F:SS:=[mV 14 12,mV 6 14]
def m0G (F:RK):SS:=[mV 15 0,cK 16 15,o 17 (.fa0 (F.p a0d a0c) (t 16)),lA 18 0 17,o 19 (.iface (F.p a0m a0l) (t 18)),mV 20 0,cK 21 20,fA 22 3 21,lD 23 22,mV 24 6,iA 25 1 23 24,lD 26 25,mV 27 1,o 28 (.ia F.w (t 26) (t 27)),o 29 (.load F.b F.w (t 28)),o 30 (.inv (t 19) [(a0l,n0R),(a0m,n0S)] [t 29] true),o 31 (bI .leq 30 0)]
def m0H:SS:=[mV 32 5,o 33 (bI .lss 32 0)]
def m0I:SS:=[mV 34 6,mV 5 34]
def m0J (F:RK):SS:=[mV 35 0,cK 36 35,o 37 (.fa0 (F.p a0d a0c) (t 36)),lA 38 0 37,o 39 (.iface (F.p a0m a0l) (t 38)),mV 40 0,cK 41 40,fA 42 3 41,lD 43 42,mV 44 6,iA 45 1 43 44,lD 46 45,mV 47 0,cK 48 47,fA 49 2 48,lD 50 49,o 51 (.ia F.w (t 46) (t 50)),o 52 (.load F.b F.w (t 51)),mV 53 0,cK 54 53,fA 55 3 54,lD 56 55,mV 57 5,iA 58 1 56 57,lD 59 58,mV 60 1,o 61 (.ia F.w (t 59) (t 60)),o 62 (.load F.b F.w (t 61)),mV 63 0,cK 64 63,fA 65 3 64,lD 66 65,mV 67 5,iA 68 1 66 67,lD 69 68,mV 70 0,cK 71 70,fA 72 2 71,lD 73 72,o 74 (.ia F.w (t 69) (t 73)),o 75 (.load F.b F.w (t 74)),mV 76 0,cK 77 76,fA 78 3 77,lD 79 78,mV 80 6,iA 81 1 79 80,lD 82 81,mV 83 1,o 84 (.ia F.w (t 82) (t 83)),o 85 (.load F.b F.w (t 84)),o 86 (.inv (t 39) [(a0l,y0I),(a0m,y0J)] [t 52,t 62,t 75,t 85] true),mV 7 86]
def g0A (F:RK):SS:=[mV 87 7,o 88 (bI .lss 87 0),mV 89 88,gF 90 89 (mS 7),gF 91 89 (bI .eql 90 0),gF 92 89 (mS 91),gT 93 92 (mS 0),gT 94 92 (.chk (t 93)),gT 95 92 (.fa (F.p 5 6) (t 94)),gT 96 92 (lS 95),gT 97 92 (mS 6),gT 98 92 (iS 1 96 97),gT 99 92 (lS 98),gT 100 92 (mS 0),gT 101 92 (.chk (t 100)),gT 102 92 (.fa (F.p 5 6) (t 101)),gT 103 92 (lS 102),gT 104 92 (mS 5),gT 105 92 (iS 1 103 104),gT 106 92 (lS 105),gT 107 92 (bT .lss 99 106),gF 108 89 (.pick (t 92) (t 107) (.const (.bool false))),pT 109 89 108]
def h0w:SS:=[mV 110 6,mV 5 110]
def s0M:SS:=[o 111 (bI .add 12 1),mV 12 111]
def k0T:SS:=[mV 112 5,mV 4 112]
def f0W (F:RK):SF:=⟨2,113,[.tmp 4],
 (qS (gR m0C) (qS (gR m0D) (qS (qS (gR m0E) (.block 0 (.loop (qS (gR u0w) (qS (.cond (t 13) .skip (.exit 0)) (qS (.block 1 (qS (gR m0F) (qS (qS (.draw (m0G F) [0,1,3,7,15,0,32,96,224,0,992,2016,0,8160,16352,32767,65535] []) (.cond (t 31) (.exit 1) .skip)) (qS (qS (gR m0H) (.cond (t 33) (qS (gR m0I) (.exit 1)) .skip)) (qS (.draw (m0J F) [0,1,3,7,15,0,32,96,224,0,992,2016,0,4096,12288,28672,65504,131040,0,262144,786432,1835008,0,8126464,16515072,0,66846720,133955584,0,268435456,805306368,1879048192,0,8321499136,16911433728,0,34359738368,103079215104,240518168576,549487378432,1099243192320,0,2199023255552,6597069766656,15393162788864,0,68169720922112,138538465099776,0,560750930165760,1123700883587072,2251799813685247,4503599627370495] []) (qS (.draw (g0A F) [0,1,3,7,15,31,63,127,255,511,63,2047,4095,63,8255,24639,57407,63,254015,516159,1048575,2097151,4194303] []) (.cond (t 109) (gR h0w) .skip))))))) (gR s0M))))))) (qS (gR k0T) .ret))))⟩
def w0N:SS:=[mV 7 0,cK 8 7,fA 9 1 8,lD 10 9,mI 11 0]
def K0V:SS:=[o 12 (bT .lss 11 10)]
def w0O:SS:=[mV 13 11,mV 2 13]
def q0z (F:RK):SS:=[mV 14 0,cK 15 14,o 16 (.fa (F.p 5 6) (t 15)),lD 17 16,mV 18 2,iA 19 1 17 18,lD 20 19,mV 21 0,cK 22 21,fA 23 2 22,lD 24 23,o 25 (bT .lss 20 24)]
def w0P:SS:=[mV 26 0,cK 27 26,fA 28 2 27,lD 29 28,mI 30 0]
def K0W:SS:=[o 31 (bT .lss 30 29)]
def w0Q:SS:=[mV 32 30,mV 3 32]
def w0R (F:RK):SS:=[mV 33 0,cK 34 33,o 35 (.fa0 (F.p a0d a0c) (t 34)),lA 36 0 35,o 37 (.iface (F.p a0m a0l) (t 36)),mV 38 0,cK 39 38,fA 40 3 39,lD 41 40,mV 42 2,iA 43 1 41 42,lD 44 43,mV 45 3,o 46 (.ia F.w (t 44) (t 45)),o 47 (.load F.b F.w (t 46)),o 48 (.inv (t 37) [(a0l,n0R),(a0m,n0S)] [t 47] true),mV 4 48]
def l0y:SS:=[mV 49 4,o 50 (bI .eql 49 0)]
def q0A:SS:=[mV 51 4,o 52 (bI .lss 51 0)]
def s0U:SS:=[mV 53 0,cK 54 53,fA 55 3 54,lD 56 55,mV 57 2,iA 58 1 56 57,lD 59 58,lN 60 59,mI 61 0]
def C0i:SS:=[o 62 (bT .lss 61 60)]
def j0I (F:RK):SS:=[mV 63 61,o 64 (.ia F.w (t 59) (t 61)),o 65 (.load F.b F.w (t 64))] ++ F.p [] [o 6 (.alloc a0a zI)] ++ [mV 5 63] ++ F.p [mV 6 65] [sT 2 6 65]
def s0V (F:RK):SS:=[mV 66 0,cK 67 66,fA 68 3 67,lD 69 68,mV 70 2,iA 71 1 69 70,lD 72 71,mV 73 5,mV 74 0,cK 75 74,o 76 (.fa0 (F.p a0d a0c) (t 75)),lA 77 0 76,o 78 (.iface (F.p a0m a0l) (t 77))] ++ F.p [mV 79 6] [lA 79 2 6] ++ [o 80 (.inv (t 78) [(a0l,m0d),(a0m,m0e)] [t 79] false),o 81 (.ia F.w (t 72) (t 73)),⟨none,none,.store F.w (t 81) (t 80)⟩]
def C0j:SS:=[o 82 (bI .add 61 1),mV 61 82]
def m0K (F:RK):SS:=[mV 83 0,mV 84 2,mV 85 3,o 86 (.call (F.p t0U t0T) [t 83,t 84,t 85] true)]
def C0k:SS:=[o 87 (bI .add 30 1),mV 30 87]
def C0l:SS:=[o 88 (bI .add 11 1),mV 11 88]
def p0v (F:RK):SF:=⟨1,89,[],
 (qS (gR w0N) (.block 0 (.loop (qS (gR K0V) (qS (.cond (t 12) .skip (.exit 0)) (qS (.block 1 (qS (gR w0O) (qS (qS (.draw (q0z F) [0,1,3,7,0,31,63,0,128,384,896,2047] []) (.cond (t 25) (.exit 1) .skip)) (qS (gR w0P) (.block 2 (.loop (qS (gR K0W) (qS (.cond (t 31) .skip (.exit 2)) (qS (.block 3 (qS (gR w0Q) (qS (.draw (w0R F) [0,1,3,7,15,0,32,96,224,0,992,2016,0,8160,16352,32767,65535] []) (qS (qS (gR l0y) (.cond (t 50) (.exit 3) .skip)) (qS (qS (gR q0A) (.cond (t 52) (qS (gR s0U) (.block 4 (.loop (qS (gR C0i) (qS (.cond (t 62) .skip (.exit 4)) (qS (.block 5 (qS (gR (j0I F)) (.draw (s0V F) [0,1,3,7,0,31,63,0,0,256,768,1792,3840,0,16128,32767,65535] []))) (gR C0j))))))) .skip)) (qS (gR (m0K F)) (.exit 2))))))) (gR C0k)))))))))) (gR C0l)))))))⟩
def p0k:SS:=[mN 4]
def p0l:SS:=[mV 9 0,cK 10 9,fA 11 0 10,lD 12 11,o 13 (.mk a0b 64 zR (t 12) (t 12)),mV 5 13]
def p0m:SS:=[mV 14 5,lN 15 14,mI 16 0]
def z0r:SS:=[o 17 (bT .lss 16 15)]
def p0n:SS:=[mV 18 16,mV 6 18]
def p0o:SS:=[mV 19 5,mV 20 6,cA 21 w0r [i 0],iA 22 4 19 20,sT 4 22 21]
def z0s:SS:=[o 23 (bI .add 16 1),mV 16 23]
def p0p (F:RK):SS:=[mV 24 0,cK 25 24,o 26 (.fa (F.p 5 6) (t 25)),lD 27 26,lN 28 27,mI 29 0]
def z0t:SS:=[o 30 (bT .lss 29 28)]
def p0q:SS:=[mV 31 29,iA 32 1 27 29,lD 33 32,mV 7 31,mV 8 33]
def m0L:SS:=[mV 35 8,mV 36 0,cK 37 36,fA 38 0 37,lD 39 38,o 40 (bT .lss 35 39),mV 34 40]
def m0M (F:RK):SS:=[mV 41 5,mV 42 8,mV 43 5,mV 44 8,iA 45 4 43 44,lA 46 4 45,mV 47 0,mV 48 1,mV 49 7,o 50 (.callv (t 48) [t 49] false),o 51 (.call (F.p s0c s0b) [t 47,t 50] false),cA 52 t0x [t 46,t 51],iA 53 4 41 42,sT 4 53 52]
def m0N:SS:=[mV 55 8,mV 56 0,cK 57 56,fA 58 0 57,lD 59 58,o 60 (.bin 0 .mul (i 2) (t 59)),o 61 (bT .lss 55 60),mV 54 61]
def m0O (F:RK):SS:=[mV 62 5,mV 63 8,mV 64 0,cK 65 64,fA 66 0 65,lD 67 66,o 68 (bT .sub 63 67),mV 69 5,mV 70 8,mV 71 0,cK 72 71,fA 73 0 72,lD 74 73,o 75 (bT .sub 70 74),iA 76 4 69 75,lA 77 4 76,mV 78 0,mV 79 1,mV 80 7,o 81 (.callv (t 79) [t 80] false),o 82 (.call (F.p s0c s0b) [t 78,t 81] false),cB 83 y0F [t 77,t 82],iA 84 4 62 68,sT 4 84 83]
def u0x:SS:=[o 85 (bI .add 29 1),mV 29 85]
def m0P:SS:=[mV 86 5,mV 4 86]
def h0Y (F:RK):SF:=⟨2,87,[.tmp 4],
 (qS (gR p0k) (qS (gR p0l) (qS (qS (gR p0m) (.block 0 (.loop (qS (gR z0r) (qS (.cond (t 17) .skip (.exit 0)) (qS (.block 1 (qS (gR p0n) (gR p0o))) (gR z0s))))))) (qS (qS (gR (p0p F)) (.block 2 (.loop (qS (gR z0t) (qS (.cond (t 30) .skip (.exit 2)) (qS (.block 3 (qS (gR p0q) (.block 4 (qS (gR m0L) (.cond (t 34) (.draw (m0M F) [0,0,0,0,12,28,0,0,0,384,960,2044,4095,8191] []) (qS (gR m0N) (.cond (t 54) (.draw (m0O F) [0,0,0,4,12,28,62,0,0,0,512,1536,3584,7936,16256,32640,0,0,0,393216,983040,2097024,4194303,8388607] []) .skip))))))) (gR u0x))))))) (qS (gR m0P) .ret)))))⟩
def w0S (F:RK):SS:=[o 2 (.box (F.p a0H a0C) (t 0)),bX 3 e0F 1,mN 4]
def w0T (F:RK):SS:=[lD 6 2,o 7 (.mkfn (.func (t0Q F)) [] [t 2,t 3]),o 8 (.call (l0w F) [t 6,t 7] true),mV 5 8]
def w0U:SS:=[lD 10 3,lD 11 2,cK 12 11,fA 13 0 12,lD 14 13,o 15 (bT .lss 10 14),mV 9 15]
def w0V:SS:=[mV 16 5,lD 17 3,mV 18 5,lD 19 3,iA 20 4 18 19,lA 21 4 20,cB 22 w0r [i 1],cB 23 t0x [t 21,t 22],iA 24 4 16 17,sT 4 24 23]
def w0W:SS:=[lD 26 3,lD 27 2,cK 28 27,fA 29 0 28,lD 30 29,o 31 (.bin 0 .mul (i 2) (t 30)),o 32 (bT .lss 26 31),mV 25 32]
def w0X:SS:=[mV 33 5,lD 34 3,lD 35 2,cK 36 35,fA 37 0 36,lD 38 37,o 39 (bT .sub 34 38),mV 40 5,lD 41 3,lD 42 2,cK 43 42,fA 44 0 43,lD 45 44,o 46 (bT .sub 41 45),iA 47 4 40 46,lA 48 4 47,cB 49 w0r [i 1],cB 50 y0F [t 48,t 49],iA 51 4 33 39,sT 4 51 50]
def l0z:SS:=[mV 52 5,mV 4 52]
def p0w (F:RK):SF:=⟨2,53,[.tmp 4],
 (qS (gR (w0S F)) (qS (gR (w0T F)) (qS (.block 0 (qS (.draw w0U [0,0,2,6,14,31,63] []) (.cond (t 9) (.draw w0V [0,0,0,0,12,28,0,124,255,511] []) (qS (.draw w0W [0,0,2,6,14,30,63,127] []) (.cond (t 25) (.draw w0X [0,0,0,4,12,28,62,0,0,0,512,1536,3584,7936,16256,32640,0,130944,262143,524287] []) .skip))))) (qS (gR l0z) .ret))))⟩
def m0Q (F:RK):SS:=F.p [mI 4 0] [o 4 (.alloc a0a zI)]
def m0R (F:RK):SS:=[lD 5 1,cK 6 5,o 7 (.fa0 (F.p a0d a0c) (t 6)),lA 8 0 7,o 9 (.iface (F.p a0m a0l) (t 8)),lD 10 1,cK 11 10,fA 12 3 11,lD 13 12,mV 14 0,iA 15 1 13 14,lD 16 15,lD 17 2,o 18 (.ia F.w (t 16) (t 17)),o 19 (.load F.b F.w (t 18)),o 20 (.inv (t 9) [(a0l,m0d),(a0m,m0e)] [t 19] true)] ++ F.p [mV 4 20] [sT 2 4 20]
def i0Z (F:RK):SF:=⟨3,21,(F.p [.tmp 4] [.cell 4 true 2]),
 (qS (gR (m0Q F)) (qS (.draw (m0R F) [0,1,3,7,15,0,32,96,224,0,992,2016,0,8160,16352,32767,65535] []) .ret))⟩
def w0Y:SS:=[mI 4 0]
def w0Z:SS:=[mI 5 0]
def q0B (F:RK):SS:=[mV 7 5,mV 8 0,cK 9 8,fA 10 2 9,lD 11 10,o 12 (bT .lss 7 11),mV 13 12,gT 14 13 (mS 0),gT 15 13 (.chk (t 14)),gT 16 13 (.fa0 (F.p a0d a0c) (t 15)),gT 17 13 (aS 0 16),gT 18 13 (.iface (F.p a0m a0l) (t 17)),gT 19 13 (mS 0),gT 20 13 (.chk (t 19)),gT 21 13 (fS 3 20),gT 22 13 (lS 21),gT 23 13 (mS 1),gT 24 13 (iS 1 22 23),gT 25 13 (lS 24),gT 26 13 (mS 5),gT 27 13 (.ia F.w (t 25) (t 26)),gT 28 13 (.load F.b F.w (t 27)),gT 29 13 (.inv (t 18) [(a0l,n0R),(a0m,n0S)] [t 28] true),gT 30 13 (bI .geq 29 0),pF 31 13 30]
def x0a:SS:=[mV 32 5,o 33 (bI .add 32 1),mV 5 33]
def q0C:SS:=[mV 34 5,mV 35 0,cK 36 35,fA 37 2 36,lD 38 37,o 39 (bT .eql 34 38)]
def x0b:SS:=[o 4 (.mv (.const (.int .i64 (-1))))]
def x0c (F:RK):SS:=[mV 40 0,mV 41 5,o 42 (.call (m0a F) [t 40,t 41] true),mV 6 42]
def q0D:SS:=[mV 43 6,o 44 (bI .lss 43 0)]
def x0d:SS:=[mV 45 5,mV 4 45]
def x0e (F:RK):SS:=[mV 46 0,mV 47 6,mV 48 5,o 49 (.call (F.p t0U t0T) [t 46,t 47,t 48] true)]
def p0x (F:RK):SF:=⟨2,50,[.tmp 4],
 (qS (gR w0Y) (.block 0 (.loop (.block 1 (qS (gR w0Z) (qS (.block 2 (.loop (qS (qS (.draw (q0B F) [0,0,2,6,14,31,63,127,255,511,1023,2047,127,4223,12415,28799,127,127103,258175,127,1044607,2093183,4194303,8388607,16777215] []) (.cond (t 31) .skip (.exit 2))) (.block 3 (gR x0a))))) (qS (qS (gR q0C) (.cond (t 39) (qS (gR x0b) .ret) .skip)) (qS (gR (x0c F)) (qS (qS (gR q0D) (.cond (t 44) (qS (gR x0d) .ret) .skip)) (gR (x0e F)))))))))))⟩
def t0K:List (Nat × v0W):=[
 (f_4,s_4),
 (f_7,s_7),
 (f_8,s_8),
 (W0X,b1K),
 (W0Y,b1L),
 (U0V,b1M),
 (W0Z,a1I),
 (Y0G,b1N),
 (Y0H,a1J),
 (V0i,b1O),
 (K0n,b1P),
 (X0a,b1Q),
 (V0j,b1R),
 (Y0I,b1S),
 (Y0J,b1T),
 (Y0K,b1U),
 (X0b,b1V),
 (X0c,b1W),
 (Y0L,b1X),
 (Y0M,b1Y),
 (Y0N,b1Z),
 (M0R,c1a),
 (X0d,c1b),
 (Y0O,c1c),
 (X0e,c1d),
 (y0L,c1e),
 (Y0P,c1f),
 (X0f,c1g),
 (Y0Q,c1h),
 (V0k,c1i),
 (X0g,c1j),
 (Y0R,c1k),
 (X0h,c1l),
 (X0i,c1m),
 (Y0S,c1n),
 (Y0T,c1o),
 (Y0U,c1p),
 (Y0V,c1q),
 (Y0W,c1r),
 (Y0X,c1s),
 (Y0Y,c1t),
 (Y0Z,c1u),
 (t0x,c1v),
 (M0S,c1w),
 (Z0a,c1x),
 (Z0b,c1y),
 (X0j,c1z),
 (X0k,c1A),
 (V0l,c1B),
 (A0X,c1C),
 (Z0c,c1D),
 (Z0d,c1E),
 (A0Y,c1F),
 (Z0e,c1G),
 (Z0f,c1H),
 (X0l,c1I),
 (Z0g,c1J),
 (Z0h,c1K),
 (Z0i,c1L),
 (w0r,c1M),
 (X0m,c1N),
 (M0T,c1O),
 (K0o,c1P),
 (M0U,c1Q),
 (Z0j,c1R),
 (Z0k,c1S),
 (Z0l,c1T),
 (b1z,f0X .all),
 (A0Z,c1U),
 (X0n,c1V),
 (Z0m,c1W),
 (B0a,c1X),
 (s0f,c1Y),
 (Z0n,c1Z),
 (Z0o,d1a),
 (Z0p,d1b),
 (V0m,X0A),
 (M0V,d1c),
 (Z0q,d1d),
 (X0o,d1e),
 (V0n,d1f),
 (Z0r,d1g),
 (t0R,L0k),
 (A0D,L0l),
 (A0E,L0m),
 (k0d,L0n),
 (t0S,L0o),
 (A0F,L0p),
 (g0O,L0q),
 (e0o,L0r),
 (g0c,L0s),
 (A0G,L0t),
 (y0z,L0u),
 (y0A,L0v),
 (r0X,f0X .few),
 (U0P,k0y .all),
 (U0Q,p0x .all),
 (U0R,h0X .all),
 (U0S,p0v .all),
 (U0T,h0Y .all),
 (U0U,e0s .all),
 (U0W,p0w .all),
 (y0B,L0w),
 (p0T,L0x),
 (A0H,L0y),
 (r0Y,L0z),
 (y0C,L0A),
 (g0d,L0B),
 (A0I,L0C),
 (A0J,L0D),
 (A0K,L0E),
 (r0Z,L0F),
 (y0D,L0G),
 (n0O,L0H),
 (s0a,L0I),
 (A0L,L0J),
 (m0c,L0K),
 (U0X,k0y .few),
 (U0Y,p0x .few),
 (U0Z,h0X .few),
 (V0a,p0v .few),
 (V0b,h0Y .few),
 (V0c,e0s .few),
 (V0d,p0w .few),
 (n0P,L0L),
 (y0E,L0M),
 (V0e,f0W .all),
 (t0T,L0N),
 (A0M,L0O),
 (s0b,L0P),
 (y0F,L0Q),
 (V0f,i0Z .all),
 (A0N,L0R),
 (A0O,L0S),
 (A0P,L0T),
 (A0Q,L0U),
 (n0Q,L0V),
 (y0G,L0W),
 (V0g,f0W .few),
 (t0U,L0X),
 (s0c,L0Y),
 (V0h,i0Z .few),
 (A0R,L0Z),
 (y0H,M0a),
 (A0S,M0b),
 (A0T,M0c),
 (A0U,M0d),
 (y0I,M0e),
 (m0d,M0f),
 (s0d,M0g),
 (k0e,M0h),
 (n0R,M0i),
 (p0U,M0j),
 (A0V,M0k),
 (y0J,M0l),
 (m0e,M0m),
 (s0e,M0n),
 (j0q,J0d),
 (n0S,M0o),
 (p0V,M0p),
 (y0K,M0q),
 (A0W,M0r),
 (t0V,J0e)]
def p0K:List (Nat × v0W):=[(f_9,s_9)]
def env:Env:=⟨fun f=>(t0K ++ p0K).lookup f,some ⟨K0p,r0X,[.int .i64 0,.bool false,.slice none 0 0,.bool false,.slice none 0 0,.slice none 0 0,.slice none 0 0,.slice none 0 0],4,8⟩,[]⟩
theorem e_4:env.code f_4=some s_4:=rfl
theorem e_7:env.code f_7=some s_7:=rfl
theorem e_8:env.code f_8=some s_8:=rfl
theorem g1t:env.code W0X=some b1K:=rfl
theorem g1u:env.code W0Y=some b1L:=rfl
theorem g1v:env.code U0V=some b1M:=rfl
theorem g1w:env.code W0Z=some a1I:=rfl
theorem g1x:env.code Y0G=some b1N:=rfl
theorem g1y:env.code Y0H=some a1J:=rfl
theorem g1z:env.code V0i=some b1O:=rfl
theorem g1A:env.code K0n=some b1P:=rfl
theorem g1B:env.code X0a=some b1Q:=rfl
theorem g1C:env.code V0j=some b1R:=rfl
theorem g1D:env.code Y0I=some b1S:=rfl
theorem g1E:env.code Y0J=some b1T:=rfl
theorem g1F:env.code Y0K=some b1U:=rfl
theorem g1G:env.code X0b=some b1V:=rfl
theorem g1H:env.code X0c=some b1W:=rfl
theorem g1I:env.code Y0L=some b1X:=rfl
theorem g1J:env.code Y0M=some b1Y:=rfl
theorem g1K:env.code Y0N=some b1Z:=rfl
theorem g1L:env.code M0R=some c1a:=rfl
theorem g1M:env.code X0d=some c1b:=rfl
theorem g1N:env.code Y0O=some c1c:=rfl
theorem g1O:env.code X0e=some c1d:=rfl
theorem g1P:env.code y0L=some c1e:=rfl
theorem g1Q:env.code Y0P=some c1f:=rfl
theorem g1R:env.code X0f=some c1g:=rfl
theorem g1S:env.code Y0Q=some c1h:=rfl
theorem g1T:env.code V0k=some c1i:=rfl
theorem g1U:env.code X0g=some c1j:=rfl
theorem g1V:env.code Y0R=some c1k:=rfl
theorem g1W:env.code X0h=some c1l:=rfl
theorem g1X:env.code X0i=some c1m:=rfl
theorem g1Y:env.code Y0S=some c1n:=rfl
theorem g1Z:env.code Y0T=some c1o:=rfl
theorem h1a:env.code Y0U=some c1p:=rfl
theorem h1b:env.code Y0V=some c1q:=rfl
theorem h1f:env.code Y0W=some c1r:=rfl
theorem h1g:env.code Y0X=some c1s:=rfl
theorem h1h:env.code Y0Y=some c1t:=rfl
theorem h1i:env.code Y0Z=some c1u:=rfl
theorem h1j:env.code t0x=some c1v:=rfl
theorem h1k:env.code M0S=some c1w:=rfl
theorem h1l:env.code Z0a=some c1x:=rfl
theorem h1m:env.code Z0b=some c1y:=rfl
theorem h1n:env.code X0j=some c1z:=rfl
theorem h1o:env.code X0k=some c1A:=rfl
theorem h1p:env.code V0l=some c1B:=rfl
theorem h1q:env.code A0X=some c1C:=rfl
theorem h1r:env.code Z0c=some c1D:=rfl
theorem h1s:env.code Z0d=some c1E:=rfl
theorem h1t:env.code A0Y=some c1F:=rfl
theorem h1u:env.code Z0e=some c1G:=rfl
theorem h1v:env.code Z0f=some c1H:=rfl
theorem h1w:env.code X0l=some c1I:=rfl
theorem h1x:env.code Z0g=some c1J:=rfl
theorem h1y:env.code Z0h=some c1K:=rfl
theorem h1z:env.code Z0i=some c1L:=rfl
theorem h1A:env.code w0r=some c1M:=rfl
theorem h1B:env.code X0m=some c1N:=rfl
theorem h1C:env.code M0T=some c1O:=rfl
theorem h1D:env.code K0o=some c1P:=rfl
theorem h1E:env.code M0U=some c1Q:=rfl
theorem h1F:env.code Z0j=some c1R:=rfl
theorem h1G:env.code Z0k=some c1S:=rfl
theorem h1H:env.code Z0l=some c1T:=rfl
theorem A0y {F:RK}:env.code (m0b F)=some (f0X F):=by cases F <;> rfl
theorem h1I:env.code A0Z=some c1U:=rfl
theorem h1J:env.code X0n=some c1V:=rfl
theorem h1K:env.code Z0m=some c1W:=rfl
theorem h1M:env.code B0a=some c1X:=rfl
theorem h1N:env.code s0f=some c1Y:=rfl
theorem h1O:env.code Z0n=some c1Z:=rfl
theorem h1P:env.code Z0o=some d1a:=rfl
theorem h1Q:env.code Z0p=some d1b:=rfl
theorem h1R:env.code V0m=some X0A:=rfl
theorem h1S:env.code M0V=some d1c:=rfl
theorem h1T:env.code Z0q=some d1d:=rfl
theorem h1U:env.code X0o=some d1e:=rfl
theorem h1V:env.code V0n=some d1f:=rfl
theorem h1W:env.code Z0r=some d1g:=rfl
theorem e1i:env.code t0R=some L0k:=rfl
theorem e1j:env.code A0D=some L0l:=rfl
theorem e1k:env.code A0E=some L0m:=rfl
theorem e1l:env.code k0d=some L0n:=rfl
theorem e1m:env.code t0S=some L0o:=rfl
theorem e1n:env.code A0F=some L0p:=rfl
theorem e1o:env.code g0O=some L0q:=rfl
theorem e1p:env.code e0o=some L0r:=rfl
theorem e1q:env.code g0c=some L0s:=rfl
theorem e1r:env.code A0G=some L0t:=rfl
theorem e1s:env.code y0z=some L0u:=rfl
theorem e1t:env.code y0A=some L0v:=rfl
theorem U0L {F:RK}:env.code (t0P F)=some (k0y F):=by cases F <;> rfl
theorem Y0B {F:RK}:env.code (w0q F)=some (p0x F):=by cases F <;> rfl
theorem K0k {F:RK}:env.code (l0v F)=some (h0X F):=by cases F <;> rfl
theorem Y0z {F:RK}:env.code (A0B F)=some (p0v F):=by cases F <;> rfl
theorem K0l {F:RK}:env.code (l0w F)=some (h0Y F):=by cases F <;> rfl
theorem y0x {F:RK}:env.code (k0c F)=some (e0s F):=by cases F <;> rfl
theorem Y0A {F:RK}:env.code (A0C F)=some (p0w F):=by cases F <;> rfl
theorem e1u:env.code y0B=some L0w:=rfl
theorem e1v:env.code p0T=some L0x:=rfl
theorem e1w:env.code A0H=some L0y:=rfl
theorem e1x:env.code r0Y=some L0z:=rfl
theorem e1y:env.code y0C=some L0A:=rfl
theorem e1z:env.code g0d=some L0B:=rfl
theorem e1A:env.code A0I=some L0C:=rfl
theorem e1B:env.code A0J=some L0D:=rfl
theorem e1C:env.code A0K=some L0E:=rfl
theorem e1D:env.code r0Z=some L0F:=rfl
theorem e1E:env.code y0D=some L0G:=rfl
theorem e1F:env.code n0O=some L0H:=rfl
theorem e1G:env.code s0a=some L0I:=rfl
theorem e1H:env.code A0L=some L0J:=rfl
theorem e1I:env.code m0c=some L0K:=rfl
theorem e1J:env.code n0P=some L0L:=rfl
theorem e1K:env.code y0E=some L0M:=rfl
theorem A0x {F:RK}:env.code (m0a F)=some (f0W F):=by cases F <;> rfl
theorem e1L:env.code t0T=some L0N:=rfl
theorem e1M:env.code A0M=some L0O:=rfl
theorem e1N:env.code s0b=some L0P:=rfl
theorem e1O:env.code y0F=some L0Q:=rfl
theorem U0M {F:RK}:env.code (t0Q F)=some (i0Z F):=by cases F <;> rfl
theorem e1P:env.code A0N=some L0R:=rfl
theorem e1Q:env.code A0O=some L0S:=rfl
theorem e1R:env.code A0P=some L0T:=rfl
theorem e1S:env.code A0Q=some L0U:=rfl
theorem e1T:env.code n0Q=some L0V:=rfl
theorem e1U:env.code y0G=some L0W:=rfl
theorem e1V:env.code t0U=some L0X:=rfl
theorem e1W:env.code s0c=some L0Y:=rfl
theorem e1X:env.code A0R=some L0Z:=rfl
theorem e1Y:env.code y0H=some M0a:=rfl
theorem e1Z:env.code A0S=some M0b:=rfl
theorem f1a:env.code A0T=some M0c:=rfl
theorem f1b:env.code A0U=some M0d:=rfl
theorem f1c:env.code y0I=some M0e:=rfl
theorem f1d:env.code m0d=some M0f:=rfl
theorem f1e:env.code s0d=some M0g:=rfl
theorem f1f:env.code k0e=some M0h:=rfl
theorem f1g:env.code n0R=some M0i:=rfl
theorem f1h:env.code p0U=some M0j:=rfl
theorem f1i:env.code A0V=some M0k:=rfl
theorem f1j:env.code y0J=some M0l:=rfl
theorem f1k:env.code m0e=some M0m:=rfl
theorem f1l:env.code s0e=some M0n:=rfl
theorem Y0C:env.code j0q=some J0d:=rfl
theorem f1m:env.code n0S=some M0o:=rfl
theorem f1n:env.code p0V=some M0p:=rfl
theorem f1o:env.code y0K=some M0q:=rfl
theorem f1p:env.code A0W=some M0r:=rfl
theorem Y0D:env.code t0V=some J0e:=rfl
theorem e_9:env.code f_9=some s_9:=rfl
end
section
open Go
variable {E:Env} {fl:Nat} {t:b0b} {H G:a0e} {K:n0H} {R:a0E}
def Sl (H:a0e) (e sz:Nat) (v:Value) (n:Nat) (cs:List Value):Prop :=
 cs.length=n * sz∧((v=.slice none 0 0∧n=0) ∨
  ∃ b off cap ro cells,v=.slice (some ⟨b,off,none⟩) n cap∧H.blk b=.row ro e cells∧off + n * sz≤cells.length∧cs=(cells.drop off).take (n * sz))
variable {e sz n:Nat} {v:Value} {cs:List Value}
theorem Sl.mono (h:Sl H e sz v n cs) (hx:Ext H G):Sl G e sz v n cs:=by
 obtain ⟨hl,h⟩:=h
 refine ⟨hl,?_⟩
 rcases h with h | ⟨b,off,cap,ro,cells,h1,h2,h3,h4⟩
 ·exact .inl h
 ·exact .inr ⟨b,off,cap,ro,cells,h1,hx.blk h2,h3,h4⟩
theorem Sl.nil:Sl H e sz (.slice none 0 0) 0 []:=⟨by simp,.inl ⟨rfl,rfl⟩⟩
theorem Sl.slen (h:Sl H e sz v n cs):g0Z v=some (.int .i64 n):=by
 obtain ⟨_,⟨rfl,rfl⟩ | ⟨b,off,cap,ro,cells,rfl,_⟩⟩:=h <;> simp [g0Z]
theorem Sl.ia (h:Sl H e sz v n cs) {k:IntKind} {j:Nat} (hj:j < n):iaV sz v (.int k j)=some (adr sz v j):=by
 obtain ⟨_,⟨rfl,rfl⟩ | ⟨b,off,cap,ro,cells,rfl,_⟩⟩:=h
 ·omega
 ·simp only [iaV,adr];rw [i1n (by omega)];simp
theorem Sl.iaZ (h:Sl H e sz v n cs) {k:IntKind} {z:Int} (h0:0≤z) (hj:z < n):iaV sz v (.int k z)=some (adr sz v z.toNat):=by
 have:=h.ia (k:=k) (j:=z.toNat) (by omega)
 rwa [k1z h0] at this
theorem Sl.load (h:Sl H e sz v n cs) (hx:Ext H G) {j:Nat} (hj:j < n) (hs:0 < sz):b0r G true sz (adr sz v j)=some (.agg ((cs.drop (j * sz)).take sz).toArray):=by
 obtain ⟨hl,⟨rfl,rfl⟩ | ⟨b,off,cap,ro,cells,rfl,hb,ho,rfl⟩⟩:=h
 ·omega
 ·have hj2:(j + 1) * sz≤n * sz:=i1r sz hj
  rw [i1D,i1W] at hj2
  have hc:=f0m (off:=off + j * sz) (n:=sz) (hx.blk hb) (by omega)
  simp only [adr,b0r]
  rw [i1k (by omega),i1k (by simp)]
  simp only [i1X,hc]
  rw [k1B,k1q,j1S,j1g (by omega)]
theorem Sl.load1 (h:Sl H e 1 v n cs) (hx:Ext H G) {j:Nat} (hj:j < n):b0r G false 1 (adr 1 v j)=some (cs.getD j undef):=by
 obtain ⟨hl,⟨rfl,rfl⟩ | ⟨b,off,cap,ro,cells,rfl,hb,ho,rfl⟩⟩:=h
 ·omega
 ·have hc:=f0m (off:=off + j * 1) (n:=1) (hx.blk hb) (by omega)
  simp only [adr,b0r]
  rw [i1k (by simp),i1k (by simp)]
  simp only [hc,i1H,j1h]
  rw [List.head?_take,i1k (by simp),List.head?_drop,i1h,j1u,i1n (by omega),j1z]
  simp only [j1s] at ho ⊢
  rw [i1m (by omega)]
  rfl
theorem Sl.elemOk (h:Sl H e sz v n cs) {G:a0e} (hx:Ext H G):AI.elemOk G e v=true:=by
 obtain ⟨hl,⟨rfl,rfl⟩ | ⟨b,off,cap,ro,cells,rfl,hb,ho,rfl⟩⟩:=h
 ·rfl
 ·unfold AI.elemOk
  simp only [hx.blk hb]
  cases ro <;> simp
theorem Sl.cells (h:Sl H e sz v n cs):a0V v=[v]:=by
 obtain ⟨hl,⟨rfl,rfl⟩ | ⟨b,off,cap,ro,cells,rfl,hb,ho,rfl⟩⟩:=h <;> rfl
theorem Sl.plain (h:Sl H e sz v n cs):a0t v=true:=by
 obtain ⟨hl,⟨rfl,rfl⟩ | ⟨b,off,cap,ro,cells,rfl,hb,ho,rfl⟩⟩:=h <;> rfl
theorem Sl.slice (h:Sl H e sz v n cs) {lo hi:Nat} (h1:lo≤hi) (h2:hi≤n) {x y:Option Value} (hx:bnd 0 x=some lo) (hy:bnd n y=some hi) :
  ∃ v',e0c sz v x y none=some v'∧Sl H e sz v' (hi - lo) ((cs.drop (lo * sz)).take ((hi - lo) * sz)):=by
 obtain ⟨hl,⟨rfl,rfl⟩ | ⟨b,off,cap,ro,cells,rfl,hb,ho,rfl⟩⟩:=h
 ·have:lo=0:=by omega
  have:hi=0:=by omega
  subst lo hi
  refine ⟨.slice none 0 0,?_,by simp,.inl ⟨rfl,rfl⟩⟩
  unfold e0c;simp [hx,hy];intro h;exact i1A h (by decide)
 ·refine ⟨_,by unfold e0c;simp only [hx,hy];rw [i1n ⟨h1,h2⟩];rfl,?_,.inr ⟨b,off + lo * sz,_,ro,cells,rfl,hb,?_,?_⟩⟩
  ·simp only [j1m,List.length_drop]
   have e1:(hi - lo) * sz + lo * sz=hi * sz:=by rw [← i1D];congr 1;omega
   have e2:hi * sz≤n * sz:=i1r sz h2
   omega
  ·have e1:(hi - lo) * sz + lo * sz=hi * sz:=by rw [← i1D];congr 1;omega
   have e2:hi * sz≤n * sz:=i1r sz h2
   omega
  ·have e1:(hi - lo) * sz + lo * sz=hi * sz:=by rw [← i1D];congr 1;omega
   have e2:hi * sz≤n * sz:=i1r sz h2
   rw [k1B,k1q,j1S,j1g (by omega)]
theorem Sl.setT (h:Sl H e sz v n cs) {p:Nat} {ro:Bool} {e':TypeId} {cs':List Value} {r:Blk} (hb:H.blk p=.row ro e' cs') (hne:e' ≠ e):Sl (H.setIfInBounds p r) e sz v n cs:=by
 obtain ⟨hl,h | ⟨b,off,cap,ro,cells,rfl,hb',ho,rfl⟩⟩:=h
 ·exact ⟨hl,.inl h⟩
 ·refine ⟨hl,.inr ⟨b,off,cap,ro,cells,rfl,?_,ho,rfl⟩⟩
  rw [a0W];exact hb'
  rintro rfl
  rw [hb'] at hb;cases hb;exact hne rfl
def b0Y (l:List Nat):List Value:=l.map fun x=>.int .u32 (x:Nat)
@[simp] theorem i0P {l:List Nat}:(b0Y l).length=l.length:=by simp [b0Y]
def Lim (H:a0e) (v:Value) (l:List Nat):Prop:=Sl H a0h 1 v l.length (b0Y l)∧∀ x ∈ l,x < 4294967296
variable {l:List Nat}
theorem Lim.mono (h:Lim H v l) (hx:Ext H G):Lim G v l:=⟨h.1.mono hx,h.2⟩
theorem Lim.nil:Lim H (.slice none 0 0) []:=⟨Sl.nil,by simp⟩
theorem Lim.slen (h:Lim H v l):g0Z v=some (.int .i64 l.length):=h.1.slen
theorem Lim.ia (h:Lim H v l) {k:IntKind} {j:Nat} (hj:j < l.length):iaV 1 v (.int k j)=some (adr 1 v j):=h.1.ia hj
theorem Lim.iaZ (h:Lim H v l) {k:IntKind} {z:Int} (h0:0≤z) (hj:z < l.length):iaV 1 v (.int k z)=some (adr 1 v z.toNat):=h.1.iaZ h0 hj
theorem Lim.load (h:Lim H v l) {j:Nat} (hj:j < l.length) {G:a0e} (hx:Ext H G):b0r G false 1 (adr 1 v j)=some (.int .u32 (l.getD j 0)):=by
 rw [h.1.load1 hx hj]
 simp [b0Y,i1h,j1x,hj]
theorem Lim.setT (h:Lim H v l) {p:Nat} {ro:Bool} {e':TypeId} {cs':List Value} {r:Blk} (hb:H.blk p=.row ro e' cs') (hne:e' ≠ a0h):Lim (H.setIfInBounds p r) v l:=⟨h.1.setT hb hne,h.2⟩
theorem Lim.elemOk (h:Lim H v l) {G:a0e} (hx:Ext H G):AI.elemOk G a0h v=true:=h.1.elemOk hx
theorem Lim.cells (h:Lim H v l):a0V v=[v]:=h.1.cells
theorem Lim.plain (h:Lim H v l):a0t v=true:=h.1.plain
theorem Lim.take (h:Lim H v l) {k:Nat} (hk:k≤l.length) {x:Option Value} (hx:bnd 0 x=some 0) {y:Option Value} (hy:bnd l.length y=some k):∃ v',e0c 1 v x y none=some v'∧Lim H v' (l.take k):=by
 obtain ⟨v',h1,h2⟩:=h.1.slice (j1l k) hk hx hy
 refine ⟨v',h1,?_,fun x hx=>h.2 x (k1c hx)⟩
 have:(l.take k).length=k:=by simp;omega
 rw [this]
 simpa [b0Y,List.map_take] using h2
def b0q (H:a0e) (v:Value) (i:Bool × List Nat):Prop:=∃ s,v=.agg #[.bool i.1,s]∧Lim H s i.2
theorem b0q.mono {i:Bool × List Nat} (h:b0q H v i) (hx:Ext H G):b0q G v i:=by obtain ⟨s,h1,h2⟩:=h;exact ⟨s,h1,h2.mono hx⟩
def rd:Blk→Nat→Option Value
 | .row _ _ cs,o=>cs[o]?
 | .dead,_=>none
def rdn:Blk→Nat→Nat→Option Value
 | .row _ _ cs,o,n=>if o + n≤cs.length then some (.agg ((cs.drop o).take n).toArray) else none
 | .dead,_,_=>none
@[simp] theorem T0Y {ro:Bool} {e:TypeId} {cs:List Value} {o:Nat}:rd (.row ro e cs) o=cs[o]?:=nr rfl
@[simp] theorem I0V {ro:Bool} {e:TypeId} {cs:List Value} {o n:Nat}:rdn (.row ro e cs) o n=if o + n≤cs.length then some (.agg ((cs.drop o).take n).toArray) else none:=nr rfl
theorem s0q {b o:Nat}:b0r G false 1 (.pointer (some ⟨b,o,none⟩))=rd (G.blk b) o:=by
 simp only [b0r]
 rw [i1k (by simp),i1k (by simp)]
 unfold a0e.cells?
 cases G.blk b with
 | dead=>rfl
 | row ro e cs =>
  simp only [i1H,j1h,rd]
  by_cases h:o + 1≤cs.length
  ·rw [i1n h];simp only [List.head?_take];rw [i1k (by simp),List.head?_drop]
  ·rw [i1k h,i1s (by omega)]
theorem o0A {b o n:Nat} (hn:0 < n):b0r G true n (.pointer (some ⟨b,o,none⟩))=rdn (G.blk b) o n:=by
 simp only [b0r]
 rw [i1k (by omega),i1k (by simp)]
 unfold a0e.cells?
 cases G.blk b with
 | dead=>rfl
 | row ro e cs =>
  simp only [i1X,rdn]
  split <;> simp_all
def wr (G:a0e) (b o:Nat) (vs:List Value):Blk→Option a0e
 | .row false e cs=>if o + vs.length≤cs.length then some (G.setIfInBounds b (.row false e (b0t cs o vs))) else none
 | _=>none
@[simp] theorem g1i {b o:Nat} {vs:List Value} {e:TypeId} {cs:List Value}:wr G b o vs (.row false e cs)=if o + vs.length≤cs.length then some (G.setIfInBounds b (.row false e (b0t cs o vs))) else none:=nr rfl
theorem z0A {b o n:Nat} {x:Value} (hf:fl≤b) (hl:(a0V x).length=n) (hp:(a0V x).all a0t=true) :
  f0g fl G n (.pointer (some ⟨b,o,none⟩)) x=wr G b o (a0V x) (G.blk b):=by
 simp only [f0g]
 rw [i1k (by simp [hl])]
 unfold a0e.write? wr
 split
 ·rename_i h;simp only [h];split <;> simp_all
 ·rename_i h;split <;> simp_all
theorem n0t {b o n:Nat} {e:TypeId} {cs:List Value} {x:Value} (h:G.blk b=.row false e cs) (hf:fl≤b) (hl:(a0V x).length=n) (ho:o + n≤cs.length) (hp:(a0V x).all a0t=true) :
  f0g fl G n (.pointer (some ⟨b,o,none⟩)) x=some (G.setIfInBounds b (.row false e (b0t cs o (a0V x)))):=by
 simp only [f0g]
 rw [i1k (by simp [hl])]
 unfold a0e.write?
 simp only [h]
 rw [i1n ⟨hf,by omega,hp⟩]
theorem a0R {x:Int} (h1:-9223372036854775808≤x) (h2:x < 9223372036854775808):IntKind.i64.wrap x=x:=by
 show (if (true && decide (x % (2 ^ 64:Int) ≥ (2 ^ 63:Int)))=true then x % (2 ^ 64:Int) - (2 ^ 64:Int) else x % (2 ^ 64:Int))=x
 rw [show (2 ^ 64:Int)=18446744073709551616 from rfl,show (2 ^ 63:Int)=9223372036854775808 from rfl]
 simp only [Bool.true_and,j1n]
 split <;> omega
theorem a0x {x:Int}:IntKind.u64.wrap x=x % 18446744073709551616:=by
 simp [IntKind.wrap,IntKind.bits,IntKind.signed]
theorem f0j {x:Int}:IntKind.u32.wrap x=x % 4294967296:=by
 simp [IntKind.wrap,IntKind.bits,IntKind.signed]
def z0w (H:a0e) (t:b0b) (rs:List SRes) (P:Value→Prop):Prop:=∃ vs,e0O H t rs=some vs∧P (d0v vs)
theorem L0i {a:Nat} {P:Value→Prop}:z0w H t [.tmp a] P=P (get t a):=by simp [z0w,e0O,r0z,d0v]
theorem I0Y {a n:Nat} {g:Bool} {P:Value→Prop}:z0w H t [.cell a g n] P=oo (b0r H g n (get t a)) P:=by
 unfold z0w;simp only [e0O,r0z];cases b0r H g n (get t a) <;> simp [d0v]
theorem L0j {r1 r2:SRes} {P:Value→Prop}:z0w H t [r1,r2] P=oo (r0z H t r1) fun a=>oo (r0z H t r2) fun b=>P (.tuple #[a,b]):=by
 unfold z0w;simp only [e0O];cases r0z H t r1 <;> cases r0z H t r2 <;> simp [d0v]
theorem z0x {r1 r2 r3:SRes} {P:Value→Prop}:z0w H t [r1,r2,r3] P=oo (r0z H t r1) fun a=>oo (r0z H t r2) fun b=>oo (r0z H t r3) fun c=>P (.tuple #[a,b,c]):=by
 unfold z0w;simp only [e0O];cases r0z H t r1 <;> cases r0z H t r2 <;> cases r0z H t r3 <;> simp [d0v]
theorem L0h {a:Nat}:r0z H t (.tmp a)=some (get t a):=nr rfl
theorem I0X {a n:Nat} {g:Bool}:r0z H t (.cell a g n)=b0r H g n (get t a):=nr rfl
def Y0E (P:b0b→a0e→Prop):d0X
 | .exit _,_,_=>False
 | .normal,t,H=>P t H
 | .ret,t,H=>P t H
@[simp] theorem U0O {P:b0b→a0e→Prop}:Y0E P .normal t H=P t H:=nr rfl
@[simp] theorem b1y {P:b0b→a0e→Prop}:Y0E P .ret t H=P t H:=nr rfl
theorem a0g {f:FuncId} {args:List Value} {sf:v0W} (hc:E.code f=some sf) (hf:fl≤H.size) (hl:args.length=sf.np:=by rfl) (hnt:args.length≤sf.nt:=by exact of_decide_eq_true rfl)
  (h:∀ ρ:Nat→Value,(∀ i,ρ i=args.getD i undef)→W E H.size sf.body (T sf.nt ρ) H (Y0E (fun t' H'=>z0w H' t' sf.res fun v=>Ext H H'→K v H')) R) :
  a0S E fl f args H (fun v H'=>K v H'∧Ext H H') R:=by
 have h1:=(p0O (K:=fun v H'=>Ext H H'→K v H') hc hl hnt (fun t h1 h2=>by
  have h3:=h (get t) h2
  rw [← J0G h1] at h3
  refine h3.mono fun e t' H' hq=>?_
  cases e with
  | exit i=>exact i1A hq id
  | normal=>exact ⟨trivial,hq⟩
  | ret=>exact ⟨trivial,hq⟩)).keep (i1j _)
 exact (h1.mono fun v H' hh=>⟨hh.1 hh.2.ext,hh.2.ext⟩).floor hf
end
section
open Go
section
variable {k:IntKind} {a b:Int} {tag:Nat}
@[simp] theorem J0Y:d0m tag .add (.int k a) (.int k b)=some (.int k (k.wrap (a + b))):=by unfold d0m;simp
@[simp] theorem b1s:d0m tag .sub (.int k a) (.int k b)=some (.int k (k.wrap (a - b))):=by unfold d0m;simp
@[simp] theorem b1q:d0m tag .mul (.int k a) (.int k b)=some (.int k (k.wrap (a * b))):=by unfold d0m;simp
theorem w0h (h:b ≠ 0):d0m tag .quo (.int k a) (.int k b)=some (.int k (k.wrap (a.tdiv b))):=by unfold d0m;simp [h]
theorem K0b (h:b ≠ 0):d0m tag .rem (.int k a) (.int k b)=some (.int k (a.tmod b)):=by unfold d0m;simp [h]
@[simp] theorem J0Z:d0m tag .and (.int k a) (.int k b)=some (.int k (k.wrap (BitVec.ofInt k.bits a &&& BitVec.ofInt k.bits b).toNat)):=by unfold d0m;simp
@[simp] theorem j0Z:d0m tag .or (.int k a) (.int k b)=some (.int k (k.wrap (BitVec.ofInt k.bits a ||| BitVec.ofInt k.bits b).toNat)):=by unfold d0m;simp
@[simp] theorem b1m:d0m tag .eql (.int k a) (.int k b)=some (.bool (a == b)):=by unfold d0m;simp
@[simp] theorem b1r:d0m tag .neq (.int k a) (.int k b)=some (.bool (a != b)):=by unfold d0m;simp
@[simp] theorem K0a:d0m tag .lss (.int k a) (.int k b)=some (.bool (decide (a < b))):=by unfold d0m;simp
@[simp] theorem b1p:d0m tag .leq (.int k a) (.int k b)=some (.bool (decide (a≤b))):=by unfold d0m;simp
@[simp] theorem b1o:d0m tag .gtr (.int k a) (.int k b)=some (.bool (decide (a > b))):=by unfold d0m;simp
@[simp] theorem b1n:d0m tag .geq (.int k a) (.int k b)=some (.bool (decide (a ≥ b))):=by unfold d0m;simp
@[simp] theorem Y0j {x y:Bool}:d0m 1 .eql (.bool x) (.bool y)=some (.bool (x == y)):=by unfold d0m;simp
@[simp] theorem Y0l {x y:Bool}:d0m 1 .neq (.bool x) (.bool y)=some (.bool (x != y)):=by unfold d0m;simp
@[simp] theorem Y0k {x:Option Addr} {n c n2 c2:Nat}:d0m 2 .eql (.slice x n c) (.slice none n2 c2)=some (.bool x.isNone):=nr rfl
@[simp] theorem Y0m {x:Option Addr} {n c n2 c2:Nat}:d0m 2 .neq (.slice x n c) (.slice none n2 c2)=some (.bool x.isSome):=nr rfl
theorem w0i {k':IntKind} (h:0≤b):d0m tag .shl (.int k a) (.int k' b)=some (.int k (k.wrap (a * 2 ^ (min b.toNat k.bits)))):=by unfold d0m;simp [h]
theorem l0s {k':IntKind} (h:0≤b):d0m tag .shr (.int k a) (.int k' b)=some (.int k (a.fdiv (2 ^ (min b.toNat k.bits)))):=by unfold d0m;simp [h]
theorem K0q {n m:Nat}:((n:Int).fdiv (m:Int))=((n / m:Nat):Int):=by
 rw [Int.fdiv_eq_ediv_of_nonneg _ (by omega)];rfl
@[simp] theorem i1e {n:Nat} {k':IntKind}:d0m tag .shr (.int .u64 (n:Int)) (.int k' 32)=some (.int .u64 ((n / 4294967296:Nat):Int)):=by
 rw [l0s (by omega)];exact l1m (fun x=>some (Value.int .u64 x)) (K0q (n:=n) (m:=4294967296))
@[simp] theorem i1f {n:Nat} {k':IntKind}:d0m tag .shr (.int .u64 (n:Int)) (.int k' 63)=some (.int .u64 ((n / 9223372036854775808:Nat):Int)):=by
 rw [l0s (by omega)];exact l1m (fun x=>some (Value.int .u64 x)) (K0q (n:=n) (m:=9223372036854775808))
@[simp] theorem f1Q:unA .neg (.int k a)=some (.int k (k.wrap (0 - a))):=nr rfl
@[simp] theorem f1R {x:Bool}:unA .not (.bool x)=some (.bool !x):=nr rfl
end
@[simp] theorem K0f {a b:Nat}:((a:Int) == (b:Int))=(a == b):=by
 rw [k1G,beq_iff_eq,beq_iff_eq];omega
@[simp] theorem b1w {a b:Nat}:((a:Int) != (b:Int))=(a != b):=by simp only [bne,K0f]
@[simp] theorem A0q {a:Nat}:((a:Int) == 0)=(a == 0):=by
 rw [k1G,beq_iff_eq,beq_iff_eq];omega
@[simp] theorem Y0s {a:Nat}:((a:Int) != 0)=(a != 0):=by simp only [bne,A0q]
@[simp] theorem Y0t {a:Array Value}:a0V (.agg a)=a.toList:=nr rfl
@[simp] theorem Y0u {k:IntKind} {n:Int}:a0V (.int k n)=[.int k n]:=nr rfl
@[simp] theorem W0V {b:Bool}:a0V (.bool b)=[.bool b]:=nr rfl
@[simp] theorem U0G {a:Option Addr} {n c:Nat}:a0V (.slice a n c)=[.slice a n c]:=nr rfl
@[simp] theorem Y0v {a:Option Addr}:a0V (.pointer a)=[.pointer a]:=nr rfl
@[simp] theorem Z0M {k:IntKind} {n:Int}:a0t (.int k n)=true:=nr rfl
@[simp] theorem X0z {b:Bool}:a0t (.bool b)=true:=nr rfl
@[simp] theorem V0D {a:Option Addr} {n c:Nat}:a0t (.slice a n c)=true:=nr rfl
@[simp] theorem Z0N {a:Option Addr}:a0t (.pointer a)=true:=nr rfl
@[simp] theorem b1u {d:Nat}:bnd d none=some d:=nr rfl
@[simp] theorem U0D {d n:Nat} {k:IntKind}:bnd d (some (.int k (n:Int)))=some n:=by simp [bnd]
@[simp] theorem g1n {n:Nat}:n + 1 + 1=n + 2:=by omega
@[simp] theorem g1o {n:Nat}:n + 2 + 1=n + 3:=by omega
@[simp] theorem g1p {n:Nat}:n + 3 + 1=n + 4:=by omega
@[simp] theorem g1q {n:Nat}:n + 4 + 1=n + 5:=by omega
@[simp] theorem g1r {n:Nat}:n + 5 + 1=n + 6:=by omega
@[simp] theorem d1x {n:Nat}:n + 1 + 2=n + 3:=by omega
@[simp] theorem d1y {n:Nat}:n + 1 + 3=n + 4:=by omega
@[simp] theorem d1z {n:Nat}:n + 1 + 4=n + 5:=by omega
@[simp] theorem d1A {n:Nat}:n + 1 + 5=n + 6:=by omega
@[simp] theorem d1B {n:Nat}:n + 1 + 6=n + 7:=by omega
@[simp] theorem d1C {n:Nat}:n + 2 + 2=n + 4:=by omega
@[simp] theorem d1D {n:Nat}:n + 2 + 3=n + 5:=by omega
@[simp] theorem d1E {n:Nat}:n + 2 + 4=n + 6:=by omega
@[simp] theorem d1F {n:Nat}:n + 2 + 5=n + 7:=by omega
@[simp] theorem d1G {n:Nat}:n + 2 + 6=n + 8:=by omega
@[simp] theorem d1H {n:Nat}:n + 3 + 2=n + 5:=by omega
@[simp] theorem d1I {n:Nat}:n + 3 + 3=n + 6:=by omega
@[simp] theorem d1J {n:Nat}:n + 3 + 4=n + 7:=by omega
@[simp] theorem d1K {n:Nat}:n + 3 + 5=n + 8:=by omega
@[simp] theorem d1L {n:Nat}:n + 3 + 6=n + 9:=by omega
@[simp] theorem d1M {n:Nat}:n + 4 + 2=n + 6:=by omega
@[simp] theorem d1N {n:Nat}:n + 4 + 3=n + 7:=by omega
@[simp] theorem d1O {n:Nat}:n + 4 + 4=n + 8:=by omega
@[simp] theorem d1P {n:Nat}:n + 4 + 5=n + 9:=by omega
@[simp] theorem d1Q {n:Nat}:n + 4 + 6=n + 10:=by omega
@[simp] theorem d1R {n:Nat}:n + 5 + 2=n + 7:=by omega
@[simp] theorem d1S {n:Nat}:n + 5 + 3=n + 8:=by omega
@[simp] theorem d1T {n:Nat}:n + 5 + 4=n + 9:=by omega
@[simp] theorem d1U {n:Nat}:n + 5 + 5=n + 10:=by omega
@[simp] theorem d1V {n:Nat}:n + 5 + 6=n + 11:=by omega
@[simp] theorem d1W {n:Nat}:n + 6 + 1=n + 7:=by omega
@[simp] theorem d1X {n:Nat}:n + 6 + 2=n + 8:=by omega
@[simp] theorem d1Y {n:Nat}:n + 6 + 3=n + 9:=by omega
@[simp] theorem d1Z {n:Nat}:n + 6 + 4=n + 10:=by omega
@[simp] theorem e1a {n:Nat}:n + 6 + 5=n + 11:=by omega
@[simp] theorem e1b {n:Nat}:n + 6 + 6=n + 12:=by omega
def z0G (w:Bool):Value→Bool
 | .bool b=>b == w
 | _=>false
@[simp] theorem X0C {w b:Bool}:z0G w (.bool b)=(b == w):=nr rfl
@[simp ↓] theorem i1g {E:Env} {fl:Nat} {t:b0b} {H:a0e} {R:a0E} {d:Option Nat} {op:SOp} {r:List a0I} {Z:b0b→a0e→Prop} {j:Nat} {w:Bool} :
  WR E fl (⟨d,some (j,w),op⟩ :: r) t H Z R=if z0G w (get t j)=true then WS E fl t H op (fun v H'=>WR E fl r (put t d v) H' Z R) R else WR E fl r (put t d undef) H Z R:=by
 have h:b0j t (some (j,w))=z0G w (get t j):=by
  simp only [b0j]
  generalize get t j=v
  cases v <;> rfl
 show (if b0j t (some (j,w))=true then _ else _)=_
 rw [h]
attribute [simp ↓] J0N U0r A0c d1v U0p X0Z X0V U0n d1s X0X d1r X0Y J0M U0q J0K t0E Y0b d1u J0J X0T Y0a d1t J0O X0S U0o A0b l0M
attribute [simp ↓] w0c U0x U0w Y0f U0v J0P Y0e
attribute [simp] L0i I0Y L0j z0x L0h I0X z0A a0z a0W
attribute [simp] V0F Z0u W0M
attribute [simp] a0D d0K s0q o0A Ext.refl Ext.push Ext.set g0P b0y e0G b0t
attribute [simp low] a0K
attribute [congr] J0I y0g U0s J0L K0I
def m0j (i:Nat) (A M:b0b→a0e→Prop) (Q:d0X):d0X
 | .normal,t,H=>A t H
 | .exit j,t,H=>if j=i then M t H else Q (.exit j) t H
 | .ret,t,H=>Q .ret t H
section
variable {E:Env} {fl:Nat} {t:b0b} {H:a0e} {Q:d0X} {R:a0E}
@[simp] theorem N0b {i:Nat} {A M:b0b→a0e→Prop}:m0j i A M Q .normal t H=A t H:=nr rfl
@[simp] theorem X0u {i j:Nat} {A M:b0b→a0e→Prop}:m0j i A M Q (.exit j) t H=if j=i then M t H else Q (.exit j) t H:=nr rfl
@[simp] theorem Z0B {i:Nat} {A M:b0b→a0e→Prop}:m0j i A M Q .ret t H=Q .ret t H:=nr rfl
theorem Y0c {a:SCode} {Z:b0b→a0e→Prop} (M:b0b→a0e→Prop) (h:W E fl a t H (h0H M Q) R) (hz:∀ t H,M t H→Z t H):W E fl a t H (h0H Z Q) R:=by
 refine h.mono fun e t' H' hq=>?_
 cases e with
 | normal=>exact hz _ _ hq
 | exit i=>exact hq
 | ret=>exact hq
theorem b0R {c:SCode} {i:Nat} {Z:b0b→a0e→Prop} (I:Nat→b0b→a0e→Prop) (M:b0b→a0e→Prop) (k:Nat) (hI:I k t H)
  (step:∀ k t H,I k t H→W E fl c t H (m0j i (fun t' H'=>∃ k',k' < k∧I k' t' H') M Q) R)
  (rest:∀ t H,M t H→Z t H):W E fl (.loop c) t H (e0Z i (h0H Z Q)) R:=by
 refine M0L I (fun k t H h=>(step k t H h).mono fun e t' H' hq=>?_) k hI
 cases e with
 | normal=>exact hq
 | ret=>exact hq
 | exit j =>
  simp only [m0j] at hq
  simp only [h0H,e0Z]
  split
  ·rename_i hj;rw [i1n hj] at hq;exact rest _ _ hq
  ·rename_i hj;rw [i1k hj] at hq;exact hq
end
end
section
open Go
variable {fl:Nat} {H G:a0e} {e e2 sz n m bytes:Nat} {s x:Value} {cs new:List Value}
def slB:Value→Option Nat
 | .slice (some p) _ _=>some p.block
 | _=>none
def Own (fl:Nat) (H:a0e) (e sz:Nat) (v:Value) (n:Nat) (cs:List Value):Prop :=
 cs.length=n * sz∧((v=.slice none 0 0∧n=0) ∨ ∃ b cap,v=.slice (some ⟨b,0,none⟩) n cap∧H.blk b=.row false e cs∧fl≤b)
theorem Own.nil:Own fl H e sz (.slice none 0 0) 0 []:=⟨by simp,.inl ⟨rfl,rfl⟩⟩
theorem Own.mk {b cap:Nat} (hb:H.blk b=.row false e cs) (hl:cs.length=n * sz) (hf:fl≤b):Own fl H e sz (.slice (some ⟨b,0,none⟩) n cap) n cs:=⟨hl,.inr ⟨b,cap,rfl,hb,hf⟩⟩
theorem Own.sl (h:Own fl H e sz s n cs):Sl H e sz s n cs:=by
 obtain ⟨hl,h | ⟨b,cap,rfl,hb,hf⟩⟩:=h
 ·exact ⟨hl,.inl h⟩
 ·exact ⟨hl,.inr ⟨b,0,cap,false,cs,rfl,hb,by omega,by rw [j1q,← hl,i1x]⟩⟩
theorem Own.mono (h:Own fl H e sz s n cs) (hx:Ext H G):Own fl G e sz s n cs:=by
 obtain ⟨hl,h | ⟨b,cap,rfl,hb,hf⟩⟩:=h
 ·exact ⟨hl,.inl h⟩
 ·exact ⟨hl,.inr ⟨b,cap,rfl,hx.blk hb,hf⟩⟩
def d0l (o:Option Nat) (H G:a0e):Prop:=H.size≤G.size∧∀ b,b < H.size→o ≠ some b→G.blk b=H.blk b
theorem Ext.extB {o:Option Nat} (h:Ext H G):d0l o H G:=⟨h.1,fun b hb _=>h.2 b hb⟩
theorem j0Y (ho:Own fl G e sz s n cs) (hx:Sl G e2 sz x m new) (hp:new.all a0t=true) (hn:n + m≤1073741824) (hb:bytes≤1024) (hs:0 < sz) (hfl:fl≤G.size) :
  ∃ v' G',i0x fl G e sz bytes s x=some (v',G')∧Own fl G' e sz v' (n + m) (cs ++ new)∧d0l (slB s) G G'∧(∀ H0,H0.size≤fl→Ext H0 G→Ext H0 G'):=by
 obtain ⟨hxl,hx⟩:=hx
 have hol:=ho.1
 by_cases hm:m=0
 ·subst hm
  have hnew:new=[]:=i1I.1 (by omega)
  subst hnew
  refine ⟨s,G,?_,by simpa using ho,(Ext.refl G).extB,fun _ _ h=>h⟩
  rcases hx with ⟨rfl,_⟩ | ⟨b,off,cap,ro,cells,rfl,_⟩ <;> rcases ho.2 with ⟨rfl,rfl⟩ | ⟨b',cap',rfl,_⟩ <;> simp [i0x]
 ·rcases hx with ⟨_,h0⟩ | ⟨b,off,cap,ro,cells,rfl,hbk,ho1,ho2⟩
  ·exact i1A h0 hm
  have hc:=f0m hbk ho1
  rw [← ho2] at hc
  rcases ho.2 with ⟨rfl,rfl⟩ | ⟨b',cap',rfl,hb',hf'⟩
  ·have hcs:cs=[]:=i1I.1 (by omega)
   subst hcs
   refine ⟨.slice (some ⟨G.size,0,none⟩) m unk,G.push (.row false e new),?_,?_,(Ext.push (Ext.refl G)).extB,fun _ _ h=>h.push⟩
   ·unfold i0x
    simp only
    rw [i1k hm,i1n ⟨by omega,hb,hs⟩]
    simp only [hc,hp,k1E,j1h]
    rw [i1n ⟨by trivial,by trivial⟩]
   ·rw [i1P];exact Own.mk a0D (by simpa using hxl) hfl
  ·have hb'l:=a0i hb'
   have hc2:G.cells? b' 0 (n * sz)=some cs:=by
    rw [f0m hb' (by omega),j1q,← hol,i1x]
   by_cases hcap:cap' ≠ unk∧cap' < n + m
   ·refine ⟨.slice (some ⟨G.size,0,none⟩) (n + m) unk,G.push (.row false e (cs ++ new)),?_,?_,(Ext.push (Ext.refl G)).extB,fun _ _ h=>h.push⟩
    ·unfold i0x
     simp only
     rw [i1k hm,i1n ⟨by omega,hb,hs⟩]
     simp only [hc,hp,k1E,j1h,hc2]
     by_cases h00:n=0∧cap' = 0
     ·rw [i1n h00]
      have hcs:cs=[]:=i1I.1 (by rw [hol,h00.1];simp)
      rw [hcs,h00.1];simp
     ·rw [i1k h00,i1n hcap]
    ·exact Own.mk a0D (by rw [i1E,hol,hxl,i1D]) hfl
   ·refine ⟨.slice (some ⟨G.size,0,none⟩) (n + m) unk,(G.setIfInBounds b' .dead).push (.row false e (cs ++ new)),?_,?_,?_,?_⟩
    ·unfold i0x
     simp only
     rw [i1k hm,i1n ⟨by omega,hb,hs⟩]
     simp only [hc,hp,k1E,j1h,hc2]
     rw [i1k (fun h00:n=0∧cap' = 0=>hcap ⟨by rw [h00.2];decide,by omega⟩),i1k hcap]
     simp only [hb']
     rw [i1n ⟨trivial,hf'⟩]
    ·exact Own.mk (by rw [a0K];simp) (by rw [i1E,hol,hxl,i1D]) hfl
    ·refine ⟨by simp,fun c hc hne=>?_⟩
     have:b' ≠ c:=fun h=>hne (by simp [slB,h])
     rw [d0K (by simpa using hc),a0W this]
    ·intro H0 h1 h2
     exact (h2.set (by omega)).push
theorem e0h {c:Nat} (ho:Own fl G e sz s n cs) (hl:new.length=sz) (hp:new.all a0t=true) (hn:n < 1073741824) (hb:bytes≤1024) (hs:0 < sz) (hfl:fl≤G.size) :
  ∃ v' G',i0x fl (G.push (.row false e2 new)) e sz bytes s (.slice (some ⟨G.size,0,none⟩) 1 c)=some (v',G')∧Own fl G' e sz v' (n + 1) (cs ++ new)∧d0l (slB s) G G'∧(∀ H0,H0.size≤fl→Ext H0 G→Ext H0 G'):=by
 have hx:Sl (G.push (.row false e2 new)) e2 sz (.slice (some ⟨G.size,0,none⟩) 1 c) 1 new:=(Own.mk (fl:=0) a0D (by omega) (j1l _)).sl
 obtain ⟨v',G',h1,h2,h3,h4⟩:=j0Y (ho.mono (Ext.push (Ext.refl G))) hx hp (by omega) hb hs (bytes:=bytes) (by simp;omega)
 refine ⟨v',G',h1,h2,⟨?_,fun b hb hne=>?_⟩,fun H0 k1 k2=>h4 H0 k1 k2.push⟩
 ·have:=h3.1;simp at this;omega
 ·rw [h3.2 b (by simp;omega) hne,d0K hb]
@[simp] theorem W0L {a b:List Nat}:b0Y (a ++ b)=b0Y a ++ b0Y b:=by simp [b0Y]
theorem k0q {l:List Nat}:(b0Y l).all a0t=true:=by simp [b0Y,a0t]
end
section
open Go
variable {fl:Nat} {H:a0e} {R:a0E} {v:Value} {i:Bool × List Nat}
def g0h (i:Bool × List Nat):Bool:=if i.2.length=0 then !i.1 else i.2.getD (i.2.length - 1) 0 != 0
theorem f0r (h:b0q H v i) (hf:fl≤H.size) (hn:i.2.length < 4611686018427387904) :
  a0S env fl r0Z [v] H (fun r H'=>r=.bool (g0h i)∧Ext H H') R:=by
 obtain ⟨s,rfl,hs⟩:=h
 refine a0g e1D hf (h:=?_)
 intro ρ h0
 simp [L0F]
 simp [E0d,E0e,E0f,E0g,h0]
 simp (disch:=first | omega | assumption | (simp;done) | (repeat (first | assumption | exact Ext.refl _ | apply Ext.push | apply Ext.set))) [hs.slen,hs.iaZ,hs.load,a0R]
 refine ⟨fun h=>by simp [g0h,h],fun h=>?_⟩
 have hl:=l1d.2 h
 simp (disch:=first | omega | assumption | (simp;done) | (repeat (first | assumption | exact Ext.refl _ | apply Ext.push | apply Ext.set))) [hs.iaZ,hs.load,g0h,h]
def f0a (i:Bool × List Nat):List Nat:=if g0h i then i.2 else []
theorem o0a (h:b0q H v i) (hf:fl≤H.size) (hn:i.2.length < 4611686018427387904) :
  a0S env fl g0c [v] H (fun r H'=>Lim H' r (f0a i)∧Ext H H') R:=by
 obtain ⟨s,rfl,hs⟩:=h
 refine a0g e1q hf (h:=?_)
 intro ρ h0
 simp [L0s]
 simp [C0S,C0T,C0U,C0V,h0]
 refine (f0r ⟨s,rfl,hs.mono (by simp)⟩ (by simp) hn).mono ?_
 rintro _ G ⟨rfl,hx⟩
 simp [hx.2,f0a]
 exact ⟨fun h _=>by simp [h,Lim.nil],fun h hx=>by simp [h,hs.mono hx]⟩
def Z0F (i:Bool × List Nat):Bool:=g0h i && i.1
theorem s0A (h:b0q H v i) (hf:fl≤H.size) (hn:i.2.length < 4611686018427387904) :
  a0S env fl e0o [v] H (fun r H'=>r=.bool (Z0F i)∧Ext H H') R:=by
 obtain ⟨s,rfl,hs⟩:=h
 refine a0g e1p hf (h:=?_)
 intro ρ h0
 simp [L0r]
 simp [C0Q,C0R,h0]
 refine (f0r ⟨s,rfl,hs.mono (by simp)⟩ (by simp) hn).mono ?_
 rintro _ G ⟨rfl,hx⟩
 cases hm:g0h i <;> simp [hx.2,Z0F,h0,hm]
theorem a0r {x:Nat} (hf:fl≤H.size) :
  a0S env fl g0d [.int .u64 x] H (fun r H'=>r=.int .u32 ((x % 4294967296:Nat):Int)∧Ext H H') R:=by
 refine a0g e1z hf (h:=?_)
 intro ρ h0
 simp [L0B]
 simp [D0T,D0U,h0,f0j]
def c0A (a b:Int):Int:=if a < b then -1 else if a > b then 1 else 0
theorem j0y {a b:Int} (hf:fl≤H.size) :
  a0S env fl A0N [.int .i64 a,.int .i64 b] H (fun r H'=>r=.int .i64 (c0A a b)∧Ext H H') R:=by
 refine a0g e1P hf (h:=?_)
 intro ρ h0
 simp [L0R]
 simp [F0g,F0h,F0i,F0j,F0k,F0l,h0,c0A]
 refine ⟨fun h1 h2=>?_,fun h1=>⟨fun h2=>?_,fun h2=>?_⟩⟩ <;> (repeat' split) <;> omega
theorem h0n {a b:Int} (hf:fl≤H.size) :
  a0S env fl A0O [.int .u32 a,.int .u32 b] H (fun r H'=>r=.int .i64 (c0A a b)∧Ext H H') R:=by
 refine a0g e1Q hf (h:=?_)
 intro ρ h0
 simp [L0S]
 simp [F0m,F0n,F0o,F0p,F0q,F0r,h0,c0A]
 refine ⟨fun h1 h2=>?_,fun h1=>⟨fun h2=>?_,fun h2=>?_⟩⟩ <;> (repeat' split) <;> omega
theorem y0f {l:List Nat} (h:Lim H v l) (hf:fl≤H.size) (hn:l.length≤1073741824) :
  a0S env fl A0L [v] H (fun r H'=>Lim H' r l∧Ext H H') R:=by
 refine a0g e1H hf (h:=?_)
 intro ρ h0
 simp [L0J]
 simp [E0u,E0v,E0w,E0x,h0]
 have hd:=h
 obtain ⟨⟨hl,⟨rfl,h2⟩ | ⟨b,off,cap,ro,cells,rfl,hb,ho,hcs⟩⟩,hx⟩:=h
 ·have:l=[]:=i1I.1 h2
  subst this
  simp [Lim.nil]
 ·simp
  have ho2:Own H.size (H.push (.row false a0h [])) a0h 1 (.slice (some ⟨H.size,0,none⟩) 0 0) 0 []:=Own.mk a0D (by simp) (i1j _)
  obtain ⟨v',G',h1,h2,h3,h4⟩:=j0Y (bytes:=4) ho2 ((hd.mono (Ext.push (Ext.refl H))).1) k0q (by omega) (by omega) (by omega) (by simp)
  simp only [i1P,j1J] at h2
  simp [h1]
  exact fun _=>⟨h2.sl,hx⟩
end
section
open Go
variable {fl:Nat} {H:a0e} {R:a0E} {v:Value} {i:Bool × List Nat} {l:List Nat}
def d0N (l:List Nat):List Nat:=(l.reverse.dropWhile (· == 0)).reverse
theorem t0u:d0N []=[]:=rfl
theorem n0w:d0N (l ++ [0])=d0N l:=by simp [d0N]
theorem k0F {x:Nat} (h:x ≠ 0):d0N (l ++ [x])=l ++ [x]:=by simp [d0N,h]
def mkI (neg:Bool) (l:List Nat):Bool × List Nat:=if d0N l=[] then (false,[]) else (neg,d0N l)
theorem e0x {n:Nat} (h:n < l.length):l.take (n + 1)=l.take n ++ [l.getD n 0]:=by
 rw [List.take_add_one,i1m h,i1h,i1m h];rfl
theorem q0i {b:Bool} (h:Lim H v l) (hf:fl≤H.size) (hn:l.length≤1073741824) :
  a0S env fl g0O [.bool b,v] H (fun r H'=>b0q H' r (mkI b l)∧Ext H H') R:=by
 refine a0g e1o hf (h:=?_)
 intro ρ h0
 simp [L0q]
 simp [C0K,C0L,h0,h.slen]
 refine b0R (fun k t G=>G=H.push (.row false a0a [.bool false,.slice none 0 0])∧t.length=29∧get t 0=.bool b∧get t 1=v∧get t 4=.pointer (some ⟨H.size,0,none⟩) ∧
   get t 5=.int .i64 k∧k≤l.length∧d0N (l.take k)=d0N l)
  (fun t G=>∃ k:Nat,G=H.push (.row false a0a [.bool false,.slice none 0 0])∧t.length=29∧get t 0=.bool b∧get t 1=v∧get t 4=.pointer (some ⟨H.size,0,none⟩) ∧
   get t 5=.int .i64 k∧k≤l.length∧d0N l=l.take k) l.length (by simp [h0]) ?_ ?_
 ·rintro k t G ⟨rfl,ht,g0,g1,g4,g5,hk,htr⟩
  obtain ⟨ρ,rfl⟩:=toT ht
  simp only [b0Q,Nat.reduceLT] at g0 g1 g4 g5
  by_cases hk0:k=0
  ·subst hk0
   simp [u0z,g0,g1,g4,g5]
   exact ⟨0,by simp,by simp,by rw [← htr];rfl⟩
  ·have hp:0 < k:=by omega
   have w1:IntKind.i64.wrap ((k:Int) - 1)=((k - 1:Nat):Int):=by rw [a0R (by omega) (by omega)];omega
   simp [u0z,C0M,g0,g1,g4,g5,hp,w1,h.ia (show k - 1 < l.length by omega),h.load (show k - 1 < l.length by omega)]
   have hk1:l.take k=l.take (k - 1) ++ [l.getD (k - 1) 0]:=by rw [← e0x (by omega)];congr 1;omega
   rw [i1h] at hk1
   refine ⟨fun hz=>⟨k - 1,by omega,rfl,by omega,?_⟩,fun hz=>⟨k,rfl,hk,?_⟩⟩
   ·rw [← htr,hk1,hz,n0w]
   ·rw [← htr,hk1,k0F hz]
 ·rintro t G ⟨k,rfl,ht,g0,g1,g4,g5,hk,htr⟩
  obtain ⟨ρ,rfl⟩:=toT ht
  simp only [b0Q,Nat.reduceLT] at g0 g1 g4 g5
  obtain ⟨v',h1,h2⟩:=h.take hk (x:=none) rfl (y:=some (.int .i64 (k:Int))) (by simp)
  simp [C0N,C0O,C0P,g0,g1,g4,g5,h.elemOk,h1]
  refine ⟨fun hk0=>⟨.slice none 0 0,by simp [mkI,htr,hk0],by simp [mkI,htr,hk0,Lim.nil]⟩,fun hk0=>?_⟩
  refine (y0f (h2.mono (by simp)) (by simp) (by simp;omega)).mono ?_
  rintro r G ⟨hr,hx⟩
  have hlt:H.size < G.size:=by have:=hx.1;simp at this;omega
  simp [hr.cells,hr.plain,hx.2,hlt]
  have hl0:l ≠ []:=by rintro rfl;exact hk0 (by simpa using hk)
  refine fun _=>⟨r,?_,?_⟩
  ·simp [mkI,htr,hk0,hl0]
  ·have:(mkI b l).2=l.take k:=by simp [mkI,htr,hk0,hl0]
   rw [this]
   exact hr.setT (by rw [hx.2 _ (by simp)];exact a0D) (by decide)
end
section
open Go
def a0u:List Nat→Nat
 | []=>0
 | x :: l=>x + 4294967296 * a0u l
def b0a (l:List Nat):Prop:=∀ x ∈ l,x < 4294967296
theorem g0j:∀ (a b:List Nat),a0u (a ++ b)=a0u a + 4294967296 ^ a.length * a0u b
 | [],b=>by simp [a0u]
 | x :: a,b=>by
  simp only [k1l,a0u,g0j a b,i1Y,i1G]
  rw [i1w,← i1z,i1L (4294967296 ^ a.length) 4294967296,j1C]
theorem c0e (a:List Nat) (x:Nat):a0u (a ++ [x])=a0u a + 4294967296 ^ a.length * x:=by rw [g0j];simp [a0u]
theorem g0k:∀ (l:List Nat),b0a l→a0u l < 4294967296 ^ l.length
 | [],_=>by simp [a0u]
 | x :: l,h=>by
  have h1:=g0k l (fun y hy=>h y (k1r _ hy))
  have h2:=h x (l1j ..)
  simp only [a0u,i1Y,i1G]
  omega
theorem p0A (x:Nat) (l:List Nat):d0N (x :: l)=if d0N l=[]∧x=0 then [] else x :: d0N l:=by
 unfold d0N
 rw [List.reverse_cons,List.dropWhile_append]
 by_cases h:(List.dropWhile (fun x=>x == 0) l.reverse).isEmpty=true
 ·rw [i1n h]
  have h':List.dropWhile (fun x=>x == 0) l.reverse=[]:=by simpa using h
  rw [h']
  by_cases hx:x=0 <;> simp [hx]
 ·rw [i1k h]
  have h':List.dropWhile (fun x=>x == 0) l.reverse ≠ []:=by simpa using h
  rw [i1k (by simp [h'])]
  simp
theorem j0v:∀ (l:List Nat),a0u l=0 ↔ d0N l=[]
 | []=>by simp [a0u,t0u]
 | x :: l=>by
  rw [p0A]
  have:=j0v l
  by_cases h:d0N l=[]∧x=0
  ·rw [i1n h];have:=this.2 h.1;simp [a0u,this,h.2]
  ·rw [i1k h]
   simp only [a0u,reduceCtorEq,iff_false]
   intro h0
   exact h ⟨this.1 (by omega),by omega⟩
def a0o (n:Nat):List Nat:=if h:n=0 then [] else (n % 4294967296) :: a0o (n / 4294967296)
termination_by n
decreasing_by omega
theorem a0X:a0o 0=[]:=by unfold a0o;simp
theorem e0n {n:Nat} (h:n ≠ 0):a0o n=(n % 4294967296) :: a0o (n / 4294967296):=by rw [a0o];simp [h]
theorem b0W:∀ (l:List Nat),b0a l→d0N l=a0o (a0u l)
 | [],_=>by rw [t0u,a0u,a0X]
 | x :: l,h=>by
  have ih:=b0W l (fun y hy=>h y (k1r _ hy))
  have hx:=h x (l1j ..)
  rw [p0A]
  by_cases hc:d0N l=[]∧x=0
  ·rw [i1n hc]
   have:=(j0v l).2 hc.1
   rw [a0u,this,hc.2,a0X]
  ·rw [i1k hc]
   have hne:a0u (x :: l) ≠ 0:=by
    intro h0
    simp only [a0u] at h0
    exact hc ⟨(j0v l).1 (by omega),by omega⟩
   rw [e0n hne]
   have e1:a0u (x :: l) % 4294967296=x:=by simp only [a0u];omega
   have e2:a0u (x :: l) / 4294967296=a0u l:=by simp only [a0u];omega
   rw [e1,e2,ih]
theorem a0q (n:Nat):a0u (a0o n)=n:=by
 induction n using Nat.strongRecOn with
 | ind n ih =>
  by_cases h:n=0
  ·rw [h,a0X];rfl
  ·rw [e0n h,a0u,ih _ (by omega)];omega
theorem c0l (n:Nat):b0a (a0o n):=by
 induction n using Nat.strongRecOn with
 | ind n ih =>
  by_cases h:n=0
  ·rw [h,a0X];intro x hx;simp at hx
  ·rw [e0n h]
   intro x hx
   rcases j1M.1 hx with rfl | hx
   ·omega
   ·exact ih _ (by omega) x hx
theorem e0m {n k:Nat} (h:n < 4294967296 ^ k):(a0o n).length≤k:=by
 induction k generalizing n with
 | zero => have : n = 0 := by simpa using h
           rw [this,a0X];simp
 | succ k ih =>
  by_cases h0:n=0
  ·rw [h0,a0X];simp
  ·rw [e0n h0,i1Y]
   have:n / 4294967296 < 4294967296 ^ k:=by
    rw [j1Z (by omega)];rw [i1G] at h;exact h
   have:=ih this
   omega
theorem e0z (n:Nat):n < 4294967296 ^ (a0o n).length:=by
 have:=g0k (a0o n) (c0l n)
 rwa [a0q] at this
theorem b0K {n:Nat}:a0o n=[] ↔ n=0:=by
 constructor
 ·intro h;rw [← a0q n,h];rfl
 ·rintro rfl;exact a0X
theorem l0V {n:Nat} (h:n ≠ 0):(a0o n).getD ((a0o n).length - 1) 0 ≠ 0:=by
 induction n using Nat.strongRecOn with
 | ind n ih =>
  rw [e0n h]
  by_cases h2:n / 4294967296=0
  ·rw [h2,a0X];simp;omega
  ·have:=ih (n / 4294967296) (by omega) h2
   have hl:(a0o (n / 4294967296)).length ≠ 0:=fun h3=>h2 (b0K.1 (i1I.1 h3))
   rw [i1Y,show (a0o (n / 4294967296)).length + 1 - 1=((a0o (n / 4294967296)).length - 1) + 1 by omega,List.getD_cons_succ]
   exact this
def a0B (i:Bool × List Nat):Int:=if g0h i then (if i.1 then -(a0u i.2:Int) else a0u i.2) else 0
def a0k (z:Int):Bool × List Nat:=(decide (z < 0),a0o z.natAbs)
theorem N0f {b:Bool} {l:List Nat} (h:b0a l):mkI b l=a0k (if b then -(a0u l:Int) else a0u l):=by
 unfold mkI a0k
 rw [b0W l h]
 by_cases h0:a0u l=0
 ·rw [h0,a0X];cases b <;> simp [a0X]
 ·rw [i1k (by rw [b0K];exact h0)]
  cases b <;> simp <;> omega
theorem s0v (z:Int):g0h (a0k z)=true:=by
 unfold g0h a0k
 by_cases h:z=0
 ·subst h;simp [a0X]
 ·have h1:z.natAbs ≠ 0:=by omega
  have h2:(a0o z.natAbs).length ≠ 0:=fun h3=>h1 (b0K.1 (i1I.1 h3))
  simp only
  rw [i1k h2]
  simpa using l0V h1
theorem a0j (z:Int):a0B (a0k z)=z:=by
 unfold a0B
 rw [s0v]
 simp only [a0k,a0q,i1X]
 by_cases h:z < 0 <;> simp [h] <;> omega
theorem e0k:a0k 0=(false,[]):=by simp [a0k,a0X]
end
section
open Go
set_option maxHeartbeats 4000000
variable {fl:Nat} {H:a0e} {R:a0E} {v w:Value} {a b:List Nat}
theorem Lim.ok {l:List Nat} (h:Lim H v l):b0a l:=h.2
theorem a0P {l:List Nat} {n:Nat} (h:n < l.length):a0u (l.take (n + 1))=a0u (l.take n) + 4294967296 ^ n * l.getD n 0:=by
 rw [e0x h,c0e,j1m,j1g (by omega)]
theorem q0j (ha:Lim H v a) (hb:Lim H w b) (hf:fl≤H.size) (hna:a.length < 1073741824) (hnb:b.length < 1073741824) :
  a0S env fl A0H [v,w] H (fun r H'=>(∃ o,Lim H' r o∧a0u o=a0u a + a0u b∧o.length=max a.length b.length + 1)∧Ext H H') R:=by
 refine a0g e1w hf (h:=?_)
 intro ρ h0
 simp only [L0y]
 refine g0M (l0f ?_)
 simp [-w0c,D0B,h0]
 refine g0M (Y0c (fun t G=>G=H∧t.length=55∧∃ v w a' b',get t 0=v∧get t 1=w∧Lim H v a'∧Lim H w b'∧b'.length≤a'.length∧a'.length=max a.length b.length∧a0u a' + a0u b' = a0u a + a0u b) ?_ ?_)
 ·simp [D0C,D0D,h0,ha.slen,hb.slen]
  exact ⟨fun h=>⟨b,hb,a,ha,by omega,by omega,by omega⟩,fun h=>⟨a,ha,b,hb,by omega,by omega,by omega⟩⟩
 clear h0 ρ
 rintro t G ⟨rfl,ht,v,w,a',b',g0,g1,ha',hb',hle,hlen,hsum⟩
 obtain ⟨ρ,rfl⟩:=toT ht
 simp only [b0Q,Nat.reduceLT] at g0 g1
 have hna':a'.length < 1073741824:=by omega
 rw [← hlen,← hsum]
 clear ha hb hna hnb hlen hsum a b
 have w1:IntKind.i64.wrap ((a'.length:Int) + 1)=(a'.length:Int) + 1:=a0R (by omega) (by omega)
 have hm:=X0v (bytes:=4) (k:=.i64) (k':=.i64) (l:=0) (c:=(a'.length:Int) + 1) (by omega) (by omega) (by omega) (by omega)
 simp [D0E,D0F,D0G,g0,g1,ha'.slen,w1,hm]
 refine b0R (fun k t G'=>∃ i c out s,i + k=a'.length∧t.length=55∧get t 1=w∧get t 5=s∧get t 6=.int .u64 ((c:Nat):Int)∧get t 20=v∧get t 21=.int .i64 a'.length∧get t 22=.int .i64 ((i:Nat):Int) ∧
   Ext G G'∧Own G.size G' a0h 1 s i (b0Y out)∧b0a out∧out.length=i∧c≤1∧a0u out + 4294967296 ^ i * c=a0u (a'.take i) + a0u (b'.take i))
  (fun t G'=>∃ c out s,t.length=55∧get t 5=s∧get t 6=.int .u64 ((c:Nat):Int) ∧
   Ext G G'∧Own G.size G' a0h 1 s a'.length (b0Y out)∧b0a out∧out.length=a'.length∧c≤1∧a0u out + 4294967296 ^ a'.length * c=a0u a' + a0u b') a'.length ?_ ?_ ?_
 ·exact ⟨0,0,[],.slice (some ⟨G.size,0,none⟩) 0 (a'.length + 1),by omega,by simp,by simp [g1],by simp,by simp,by simp,by simp,by simp,by simp,
   Own.mk (by simp [b0Y]) rfl (i1j _),by intro x hx;simp at hx,rfl,by omega,by simp [a0u]⟩
 ·clear g0 g1 hm w1 ht ρ
  rintro k t G' ⟨i,c,out,s,hik,ht,g1,g5,g6,g20,g21,g22,hx,ho,hok,hol,hc,hs⟩
  obtain ⟨ρ,rfl⟩:=toT ht
  simp only [b0Q,Nat.reduceLT] at g1 g5 g6 g20 g21 g22
  by_cases hi:i < a'.length
  ·have hla:=ha'.load hi hx
   have hA2:=a0P hi
   have hA3:a'.getD i 0 < 4294967296:=ha'.2 _ (by rw [i1h,i1m hi];exact i1p hi)
   generalize a'.getD i 0=A at hla hA2 hA3
   have e1:IntKind.u64.wrap ((c:Int) + IntKind.u64.wrap (A:Int))=((c + A:Nat):Int):=by rw [a0x,a0x];omega
   have e9:IntKind.i64.wrap ((i:Int) + 1)=((i + 1:Nat):Int):=by rw [a0R (by omega) (by omega)];omega
   by_cases hib:i < b'.length
   ·have hlb:=hb'.load hib hx
    have hB2:=a0P hib
    have hB3:b'.getD i 0 < 4294967296:=hb'.2 _ (by rw [i1h,i1m hib];exact i1p hib)
    generalize b'.getD i 0=B at hlb hB2 hB3
    have e2:IntKind.u64.wrap (((c + A:Nat):Int) + IntKind.u64.wrap (B:Int))=((c + A + B:Nat):Int):=by rw [a0x,a0x];omega
    simp [-Int.natCast_add,q0P,u0E,u0F,u0G,q0L,q0M,q0N,q0O,g1,g5,g6,g20,g21,g22,hi,ha'.ia hi,hla,hb'.slen,e1,hib,hb'.ia hib,hlb,e2]
    generalize hc2:c + A + B=c2
    refine (a0r hx.1).mono ?_
    rintro _ G2 ⟨rfl,hx2⟩
    obtain ⟨s',G3,h1,h2,h3,h4⟩:=e0h (e2:=a0h) (new:=[.int .u32 ((c2 % 4294967296:Nat):Int)]) (c:=1) (bytes:=4) (ho.mono hx2) rfl rfl (by omega) (by omega) (by omega) (by have:=hx.1;have:=hx2.1;omega)
    simp [-Int.natCast_emod,-Int.natCast_add,h1,g1,g5,g6,g20,g21,g22,e9]
    refine ⟨k - 1,by omega,i + 1,by omega,c2 / 4294967296,rfl,rfl,h4 _ (i1j _) (hx.trans hx2),out ++ [c2 % 4294967296],by simpa [b0Y] using h2,?_,by simp [hol],by omega,?_⟩
    ·intro x hx
     rcases i1F.1 hx with hx | hx
     ·exact hok x hx
     ·simp at hx;omega
    ·rw [c0e,hol,hA2,hB2,i1G]
     have e3:4294967296 ^ i * 4294967296 * (c2 / 4294967296)=4294967296 ^ i * (4294967296 * (c2 / 4294967296)):=i1z ..
     have e4:4294967296 ^ i * (c2 % 4294967296) + 4294967296 ^ i * (4294967296 * (c2 / 4294967296))=4294967296 ^ i * c2:=by rw [← i1w,k1L]
     have e5:4294967296 ^ i * c2=4294967296 ^ i * c + 4294967296 ^ i * A + 4294967296 ^ i * B:=by rw [← hc2,i1w,i1w]
     omega
   ·have hB2:a0u (b'.take (i + 1))=a0u (b'.take i) + 4294967296 ^ i * 0:=by rw [i1v (by omega),i1v (by omega)];simp
    have hB3:(0:Nat) < 4294967296:=by omega
    have e2:c + A=c + A + 0:=rfl
    rw [e2] at e1
    generalize (0:Nat)=B at hB2 hB3 e1
    simp [-Int.natCast_add,q0P,u0E,u0F,u0G,q0L,q0M,q0N,q0O,g1,g5,g6,g20,g21,g22,hi,ha'.ia hi,hla,hb'.slen,e1,hib]
    generalize hc2:c + A + B=c2
    refine (a0r hx.1).mono ?_
    rintro _ G2 ⟨rfl,hx2⟩
    obtain ⟨s',G3,h1,h2,h3,h4⟩:=e0h (e2:=a0h) (new:=[.int .u32 ((c2 % 4294967296:Nat):Int)]) (c:=1) (bytes:=4) (ho.mono hx2) rfl rfl (by omega) (by omega) (by omega) (by have:=hx.1;have:=hx2.1;omega)
    simp [-Int.natCast_emod,-Int.natCast_add,h1,g1,g5,g6,g20,g21,g22,e9]
    refine ⟨k - 1,by omega,i + 1,by omega,c2 / 4294967296,rfl,rfl,h4 _ (i1j _) (hx.trans hx2),out ++ [c2 % 4294967296],by simpa [b0Y] using h2,?_,by simp [hol],by omega,?_⟩
    ·intro x hx
     rcases i1F.1 hx with hx | hx
     ·exact hok x hx
     ·simp at hx;omega
    ·rw [c0e,hol,hA2,hB2,i1G]
     have e3:4294967296 ^ i * 4294967296 * (c2 / 4294967296)=4294967296 ^ i * (4294967296 * (c2 / 4294967296)):=i1z ..
     have e4:4294967296 ^ i * (c2 % 4294967296) + 4294967296 ^ i * (4294967296 * (c2 / 4294967296))=4294967296 ^ i * c2:=by rw [← i1w,k1L]
     have e5:4294967296 ^ i * c2=4294967296 ^ i * c + 4294967296 ^ i * A + 4294967296 ^ i * B:=by rw [← hc2,i1w,i1w]
     omega
  ·simp [q0P,g1,g5,g6,g20,g21,g22,hi]
   have:i=a'.length:=by omega
   subst this
   refine ⟨c,rfl,hx,out,ho,hok,hol,hc,?_⟩
   rw [hs,i1v (i1j _),i1v hle]
 ·clear g0 g1 hm w1 ht ρ
  rintro t G' ⟨c,out,s,ht,g5,g6,hx,ho,hok,hol,hc,hs⟩
  obtain ⟨ρ,rfl⟩:=toT ht
  simp only [b0Q,Nat.reduceLT] at g5 g6
  simp [x0n,g5,g6]
  refine (a0r hx.1).mono ?_
  rintro _ G2 ⟨rfl,hx2⟩
  obtain ⟨s',G3,h1,h2,h3,h4⟩:=e0h (e2:=a0h) (new:=[.int .u32 ((c % 4294967296:Nat):Int)]) (c:=1) (bytes:=4) (ho.mono hx2) rfl rfl (by omega) (by omega) (by omega) (by have:=hx.1;have:=hx2.1;omega)
  simp [-Int.natCast_emod,-Int.natCast_add,h1]
  refine fun _=>⟨out ++ [c % 4294967296],⟨by simpa [hol,b0Y] using h2.sl,?_⟩,?_,by simp [hol]⟩
  ·intro x hx
   rcases i1F.1 hx with hx | hx
   ·exact hok x hx
   ·simp at hx;omega
  ·rw [c0e,hol,i1K (by omega)];exact hs
theorem i0A (ha:Lim H v a) (hb:Lim H w b) (hf:fl≤H.size) (hna:a.length < 1073741824) (hle:b.length≤a.length) (hnat:a0u b≤a0u a) :
  a0S env fl y0C [v,w] H (fun r H'=>(∃ o,Lim H' r o∧a0u o=a0u a - a0u b∧o.length=a.length)∧Ext H H') R:=by
 refine a0g e1y hf (h:=?_)
 intro ρ h0
 simp only [L0A]
 have hm:=X0v (bytes:=4) (k:=.i64) (k':=.i64) (l:=0) (c:=(a.length:Int)) (by omega) (by omega) (by omega) (by omega)
 simp [D0P,D0Q,D0R,D0S,h0,ha.slen,hm]
 refine b0R (fun k t G'=>∃ i c out s,i + k=a.length∧t.length=46∧get t 1=w∧get t 5=s∧get t 6=.int .u64 ((c:Nat):Int)∧get t 14=v∧get t 15=.int .i64 a.length∧get t 16=.int .i64 ((i:Nat):Int) ∧
   Ext H G'∧Own H.size G' a0h 1 s i (b0Y out)∧b0a out∧out.length=i∧c≤1∧a0u out + a0u (b.take i)=a0u (a.take i) + 4294967296 ^ i * c)
  (fun t G'=>∃ c out s,t.length=46∧get t 5=s ∧
   Ext H G'∧Own H.size G' a0h 1 s a.length (b0Y out)∧b0a out∧out.length=a.length∧c≤1∧a0u out + a0u b=a0u a + 4294967296 ^ a.length * c) a.length ?_ ?_ ?_
 ·exact ⟨0,0,[],.slice (some ⟨H.size,0,none⟩) 0 a.length,by omega,by simp,by simp [h0],by simp,by simp,by simp [h0],by simp,by simp,by simp,
   Own.mk (by simp [b0Y]) rfl (i1j _),by intro x hx;simp at hx,rfl,by omega,by simp [a0u]⟩
 ·clear hm h0 ρ
  rintro k t G' ⟨i,c,out,s,hik,ht,g1,g5,g6,g14,g15,g16,hx,ho,hok,hol,hc,hs⟩
  obtain ⟨ρ,rfl⟩:=toT ht
  simp only [b0Q,Nat.reduceLT] at g1 g5 g6 g14 g15 g16
  by_cases hi:i < a.length
  ·have hla:=ha.load hi hx
   have hA2:=a0P hi
   have hA3:a.getD i 0 < 4294967296:=ha.2 _ (by rw [i1h,i1m hi];exact i1p hi)
   generalize a.getD i 0=A at hla hA2 hA3
   have e9:IntKind.i64.wrap ((i:Int) + 1)=((i + 1:Nat):Int):=by rw [a0R (by omega) (by omega)];omega
   by_cases hib:i < b.length
   ·have hlb:=hb.load hib hx
    have hB2:=a0P hib
    have hB3:b.getD i 0 < 4294967296:=hb.2 _ (by rw [i1h,i1m hib];exact i1p hib)
    generalize b.getD i 0=B at hlb hB2 hB3
    have e2:IntKind.u64.wrap ((c:Int) + IntKind.u64.wrap (B:Int))=((c + B:Nat):Int):=by rw [a0x,a0x];omega
    have e3:IntKind.u64.wrap (IntKind.u64.wrap (A:Int) - ((c + B:Nat):Int))=(((A + 18446744073709551616 - (c + B)) % 18446744073709551616:Nat):Int):=by rw [a0x,a0x];omega
    simp [-Int.natCast_add,-Int.natCast_emod,q0T,u0I,u0J,u0K,u0L,u0M,q0Q,q0R,q0S,g1,g5,g6,g14,g15,g16,hi,ha.ia hi,hla,hb.slen,hib,hb.ia hib,hlb,e2,e3]
    generalize hD:(A + 18446744073709551616 - (c + B)) % 18446744073709551616=D
    refine (a0r hx.1).mono ?_
    rintro _ G2 ⟨rfl,hx2⟩
    obtain ⟨s',G3,h1,h2,h3,h4⟩:=e0h (e2:=a0h) (new:=[.int .u32 ((D % 4294967296:Nat):Int)]) (c:=1) (bytes:=4) (ho.mono hx2) rfl rfl (by omega) (by omega) (by omega) (by have:=hx.1;have:=hx2.1;omega)
    simp [-Int.natCast_emod,-Int.natCast_add,h1,g1,g5,g6,g14,g15,g16,e9]
    refine ⟨k - 1,by omega,i + 1,by omega,D / 9223372036854775808,rfl,rfl,h4 _ (i1j _) (hx.trans hx2),out ++ [D % 4294967296],by simpa [b0Y] using h2,?_,by simp [hol],by omega,?_⟩
    ·intro x hx
     rcases i1F.1 hx with hx | hx
     ·exact hok x hx
     ·simp at hx;omega
    ·rw [c0e,hol,hA2,hB2,i1G]
     have e3:4294967296 ^ i * 4294967296 * (D / 9223372036854775808)=4294967296 ^ i * (4294967296 * (D / 9223372036854775808)):=i1z ..
     have e4:D % 4294967296 + c + B=A + 4294967296 * (D / 9223372036854775808):=by omega
     have e5:4294967296 ^ i * (D % 4294967296) + 4294967296 ^ i * c + 4294967296 ^ i * B=4294967296 ^ i * A + 4294967296 ^ i * (4294967296 * (D / 9223372036854775808)):=by
      rw [← i1w,← i1w,← i1w,e4]
     omega
   ·have hB2:a0u (b.take (i + 1))=a0u (b.take i) + 4294967296 ^ i * 0:=by rw [i1v (by omega),i1v (by omega)];simp
    have hB3:(0:Nat) < 4294967296:=by omega
    have e3:IntKind.u64.wrap (IntKind.u64.wrap (A:Int) - (c:Int))=(((A + 18446744073709551616 - (c + 0)) % 18446744073709551616:Nat):Int):=by rw [a0x,a0x];omega
    generalize hB:(0:Nat)=B at hB2 hB3 e3
    simp [-Int.natCast_add,-Int.natCast_emod,q0T,u0I,u0J,u0K,u0L,u0M,q0Q,q0R,q0S,g1,g5,g6,g14,g15,g16,hi,ha.ia hi,hla,hb.slen,hib,e3]
    generalize hD:(A + 18446744073709551616 - (c + B)) % 18446744073709551616=D
    refine (a0r hx.1).mono ?_
    rintro _ G2 ⟨rfl,hx2⟩
    obtain ⟨s',G3,h1,h2,h3,h4⟩:=e0h (e2:=a0h) (new:=[.int .u32 ((D % 4294967296:Nat):Int)]) (c:=1) (bytes:=4) (ho.mono hx2) rfl rfl (by omega) (by omega) (by omega) (by have:=hx.1;have:=hx2.1;omega)
    simp [-Int.natCast_emod,-Int.natCast_add,h1,g1,g5,g6,g14,g15,g16,e9]
    refine ⟨k - 1,by omega,i + 1,by omega,D / 9223372036854775808,rfl,rfl,h4 _ (i1j _) (hx.trans hx2),out ++ [D % 4294967296],by simpa [b0Y] using h2,?_,by simp [hol],by omega,?_⟩
    ·intro x hx
     rcases i1F.1 hx with hx | hx
     ·exact hok x hx
     ·simp at hx;omega
    ·rw [c0e,hol,hA2,hB2,i1G]
     have e3:4294967296 ^ i * 4294967296 * (D / 9223372036854775808)=4294967296 ^ i * (4294967296 * (D / 9223372036854775808)):=i1z ..
     have e4:D % 4294967296 + c + B=A + 4294967296 * (D / 9223372036854775808):=by omega
     have e5:4294967296 ^ i * (D % 4294967296) + 4294967296 ^ i * c + 4294967296 ^ i * B=4294967296 ^ i * A + 4294967296 ^ i * (4294967296 * (D / 9223372036854775808)):=by
      rw [← i1w,← i1w,← i1w,e4]
     omega
  ·simp [q0T,g1,g5,g6,g14,g15,g16,hi]
   have:i=a.length:=by omega
   subst this
   refine ⟨hx,c,out,ho,hok,hol,hc,?_⟩
   rw [i1v (i1j _),i1v hle] at hs
   exact hs
 ·clear hm h0 ρ
  rintro t G' ⟨c,out,s,ht,g5,hx,ho,hok,hol,hc,hs⟩
  obtain ⟨ρ,rfl⟩:=toT ht
  simp only [b0Q,Nat.reduceLT] at g5
  simp [x0o,g5]
  refine fun _=>⟨out,⟨by simpa [hol] using ho.sl,hok⟩,?_,hol⟩
  have h2:=g0k out hok
  rw [hol] at h2
  have:c=0:=by
   refine Decidable.byContradiction fun hc0=>?_
   have:c=1:=by omega
   subst this
   omega
  subst this
  omega
def y0u (a b:List Nat):Int:=if a.length ≠ b.length then c0A a.length b.length else c0A (a0u a) (a0u b)
theorem c0b {x y:Nat}:c0A (x:Int) (y:Int)=if x < y then -1 else if y < x then 1 else 0:=by
 unfold c0A;(repeat' split) <;> omega
theorem s0y {i:Nat} (hab:a.length=b.length) (ha:b0a a) (hb:b0a b) (hi:i < a.length) (he:a.drop (i + 1)=b.drop (i + 1)) (hne:a.getD i 0 ≠ b.getD i 0) :
  c0A (a0u a:Int) (a0u b:Int)=c0A (a.getD i 0:Int) (b.getD i 0:Int):=by
 have h1:a0u a=a0u (a.take i) + 4294967296 ^ i * a.getD i 0 + 4294967296 ^ (i + 1) * a0u (a.drop (i + 1)):=by
  have:=g0j (a.take (i + 1)) (a.drop (i + 1))
  rw [j1Y,j1m,j1g (by omega)] at this
  rw [this,a0P hi]
 have h2:a0u b=a0u (b.take i) + 4294967296 ^ i * b.getD i 0 + 4294967296 ^ (i + 1) * a0u (b.drop (i + 1)):=by
  have:=g0j (b.take (i + 1)) (b.drop (i + 1))
  rw [j1Y,j1m,j1g (by omega)] at this
  rw [this,a0P (by omega)]
 have h3:=g0k (a.take i) (fun x hx=>ha x (k1c hx))
 have h4:=g0k (b.take i) (fun x hx=>hb x (k1c hx))
 rw [j1m,j1g (by omega)] at h3 h4
 rw [he] at h1
 generalize 4294967296 ^ (i + 1) * a0u (b.drop (i + 1))=Z at h1 h2
 generalize a.getD i 0=x at *
 generalize b.getD i 0=y at *
 generalize 4294967296 ^ i=P at *
 rw [c0b,c0b]
 by_cases hxy:x < y
 ·have:P * (x + 1)≤P * y:=i1N P hxy
  rw [i1w] at this
  rw [i1n (by omega),i1n hxy]
 ·have:P * (y + 1)≤P * x:=i1N P (by omega)
  rw [i1w] at this
  rw [i1k (by omega),i1n (by omega),i1k hxy,i1n (by omega)]
theorem f0s (ha:Lim H v a) (hb:Lim H w b) (hf:fl≤H.size) (hna:a.length < 4611686018427387904) :
  a0S env fl r0Y [v,w] H (fun r H'=>r=.int .i64 (y0u a b)∧Ext H H') R:=by
 refine a0g e1x hf (h:=?_)
 intro ρ h0
 simp only [L0z]
 have w1:IntKind.i64.wrap ((a.length:Int) - 1)=(a.length:Int) - 1:=a0R (by omega) (by omega)
 simp [D0H,D0I,D0J,D0K,h0,ha.slen,hb.slen,w1]
 refine ⟨fun h=>?_,fun hab=>?_⟩
 ·refine (j0y (i1j _)).mono ?_
  rintro _ G ⟨rfl,hx⟩
  simp [y0u,h]
 have hcl:y0u a b=c0A (a0u a) (a0u b):=by simp [y0u,hab]
 rw [hcl]
 refine b0R (fun k t G'=>t.length=41∧get t 0=v∧get t 1=w∧get t 5=.int .i64 ((k:Int) - 1)∧G' = H∧k≤a.length∧a.drop k=b.drop k)
  (fun t G'=>t.length=41∧G' = H∧a=b) a.length (by simp [h0,hab]) ?_ ?_
 ·clear h0 ρ
  rintro k t G' ⟨ht,g0,g1,g5,rfl,hk,hd⟩
  obtain ⟨ρ,rfl⟩:=toT ht
  simp only [b0Q,Nat.reduceLT] at g0 g1 g5
  by_cases hk0:k=0
  ·subst hk0
   simp [u0H,g0,g1,g5]
   simpa using hd
  ·have e0:(k:Int) - 1=((k - 1:Nat):Int):=by omega
   have hka:k - 1 < a.length:=by omega
   have hkb:k - 1 < b.length:=by omega
   have hla:=ha.load hka (Ext.refl _)
   have hlb:=hb.load hkb (Ext.refl _)
   have w2:IntKind.i64.wrap (((k - 1:Nat):Int) - 1)=((k - 1:Nat):Int) - 1:=a0R (by omega) (by omega)
   rw [e0] at g5
   have hla':=ha.ia (k:=.i64) hka
   have hlb':=hb.ia (k:=.i64) hkb
   have hh:=s0y hab ha.ok hb.ok hka (by rw [show k - 1 + 1=k by omega];exact hd)
   generalize hA:a.getD (k - 1) 0=A at hla hh
   generalize hB:b.getD (k - 1) 0=B at hlb hh
   simp [u0H,g0,g1,g5]
   refine a0G ?_
   simp [D0L,g0,g1,g5,hla,hla',hlb,hlb']
   refine ⟨fun hne=>?_,fun heq=>?_⟩
   ·refine a0G ?_
    simp [D0M,g0,g1,g5,hla,hla',hlb,hlb']
    refine (h0n (i1j _)).mono ?_
    rintro _ G ⟨rfl,hx⟩
    simp [hh hne]
   ·simp [D0N,g0,g1,g5,w2]
    refine ⟨k - 1,by omega,rfl,by omega,?_⟩
    rw [i1Z hka,i1Z hkb,show k - 1 + 1=k by omega,hd]
    congr 1
    rw [i1h,i1m hka] at hA
    rw [i1h,i1m hkb] at hB
    simp at hA hB;omega
 ·clear h0 ρ
  rintro t G' ⟨ht,rfl,rfl⟩
  obtain ⟨ρ,rfl⟩:=toT ht
  simp [D0O,c0A]
end
section
open Go
variable {fl:Nat} {H:a0e} {R:a0E} {v:Value} {i:Bool × List Nat} {a b:List Nat}
theorem b0q.ok (h:b0q H v i):b0a i.2:=by obtain ⟨s,_,hs⟩:=h;exact hs.ok
theorem J0t {l:List Nat} (h:l.length=0 ∨ l.getD (l.length - 1) 0 ≠ 0):d0N l=l:=by
 rcases List.eq_nil_or_concat l with rfl | ⟨l',x,rfl⟩
 ·rfl
 ·have:x ≠ 0:=by
   rcases h with h | h
   ·simp at h
   ·simpa [i1h] using h
  rw [List.concat_eq_append];exact k0F this
theorem m0i (i:Bool × List Nat):d0N (f0a i)=f0a i:=by
 unfold f0a
 by_cases h:g0h i=true
 ·rw [i1n h]
  refine J0t ?_
  unfold g0h at h
  by_cases h0:i.2.length=0
  ·exact .inl h0
  ·rw [i1k h0] at h;exact .inr (by simpa using h)
 ·rw [i1k h];rfl
theorem B0p (h:b0a i.2):b0a (f0a i):=by
 unfold f0a;split
 ·exact h
 ·intro x hx;simp at hx
theorem M0F (i:Bool × List Nat):(a0B i).natAbs=a0u (f0a i):=by
 unfold a0B f0a
 by_cases h:g0h i=true
 ·rw [i1n h,i1n h];split <;> omega
 ·rw [i1k h,i1k h];rfl
theorem j0s (h:b0a i.2):f0a i=a0o (a0B i).natAbs:=by
 rw [M0F,← b0W _ (B0p h),m0i]
theorem B0w (i:Bool × List Nat):Z0F i=decide (a0B i < 0):=by
 unfold Z0F a0B
 by_cases h:g0h i=true
 ·rw [i1n h,h,Bool.true_and]
  by_cases hn:i.1=true
  ·have h0:a0u i.2 ≠ 0:=by
    intro h0
    have h1:=(j0v i.2).1 h0
    have h2:=m0i i
    unfold f0a at h2
    rw [i1n h,h1] at h2
    unfold g0h at h
    rw [← h2] at h
    simp [hn] at h
   rw [i1n hn,hn];simp;omega
  ·rw [i1k hn];simp [hn]
 ·rw [i1k h];simp [h]
theorem y0S (i:Bool × List Nat):(f0a i).length≤i.2.length:=by unfold f0a;split <;> simp
theorem a0A (h:b0a i.2):(a0o (a0B i).natAbs).length≤i.2.length:=by rw [← j0s h];exact y0S i
theorem b0e {m n:Nat} (h:m≤n):(a0o m).length≤(a0o n).length:=e0m (l1k h (e0z n))
theorem d0L (m n:Nat):y0u (a0o m) (a0o n)=c0A m n:=by
 unfold y0u
 rw [a0q,a0q]
 split
 ·rename_i h
  rw [c0b,c0b]
  by_cases hmn:m < n
  ·have:=b0e (l1h hmn)
   rw [i1n hmn,i1n (by omega)]
  ·have:=b0e (show n≤m by omega)
   have hne:m ≠ n:=fun h2=>h (by rw [h2])
   rw [i1k hmn,i1n (by omega:n < m),i1k (by omega),i1n (by omega)]
 ·rfl
theorem b0M (h:b0q H v i) (hf:fl≤H.size) (hn:i.2.length < 4611686018427387904) :
  a0S env fl g0c [v] H (fun r H'=>Lim H' r (a0o (a0B i).natAbs)∧Ext H H') R:=by
 rw [← j0s h.ok];exact o0a h hf hn
theorem b0x (h:b0q H v i) (hf:fl≤H.size) (hn:i.2.length < 4611686018427387904) :
  a0S env fl e0o [v] H (fun r H'=>r=.bool (decide (a0B i < 0))∧Ext H H') R:=by
 rw [← B0w];exact s0A h hf hn
theorem c0n {l:List Nat} {b:Bool} (z:Int) (h:Lim H v l) (hf:fl≤H.size) (hn:l.length≤1073741824) (hz:(if b then -(a0u l:Int) else a0u l)=z) :
  a0S env fl g0O [.bool b,v] H (fun r H'=>b0q H' r (a0k z)∧Ext H H') R:=by
 rw [← hz,← N0f h.ok];exact q0i h hf hn
theorem b0q.setT (h:b0q H v i) {p:Nat} {ro:Bool} {e':TypeId} {cs':List Value} {r:Blk} (hb:H.blk p=.row ro e' cs') (hne:e' ≠ a0h):b0q (H.setIfInBounds p r) v i:=by
 obtain ⟨s,h1,h2⟩:=h;exact ⟨s,h1,h2.setT hb hne⟩
end
section
open Go
set_option maxHeartbeats 4000000
variable {fl:Nat} {H:a0e} {R:a0E} {v w:Value} {i j:Bool × List Nat}
theorem e0C (h:b0q H v i) (hf:fl≤H.size) (hn:i.2.length≤1073741824) :
  a0S env fl K0o [v] H (fun r H'=>b0q H' r (a0k (-a0B i))∧Ext H H') R:=by
 have hh:=h
 obtain ⟨s,rfl,hs⟩:=h
 refine a0g h1D hf (h:=?_)
 intro ρ h0
 simp [c1P,S0o,h0]
 generalize hG:Array.push (Array.push H _) _=G
 have hx:Ext H G:=by rw [← hG];simp
 have b0:a0e.blk G H.size=.row false a0a [.bool i.1,s]:=by rw [← hG];simp
 have b1:a0e.blk G (H.size + 1)=.row false a0a [.bool false,.slice none 0 0]:=by rw [← hG];simp
 have hz:H.size + 1 < G.size:=a0i b1
 refine a0G ?_
 simp [S0p,h0,b0,b1]
 refine (b0x (hh.mono hx) (by omega) (by omega)).mono ?_
 rintro _ G2 ⟨rfl,hx2⟩
 replace b0:=hx2.blk b0
 replace b1:=hx2.blk b1
 replace hx:=hx.trans hx2
 simp [h0,b0,b1]
 refine (b0M (hh.mono hx) hx.1 (by omega)).mono ?_
 rintro l G3 ⟨hl,hx3⟩
 replace b1:=hx3.blk b1
 replace hx:=hx.trans hx3
 try simp [h0]
 have:=a0A hh.ok
 refine (c0n (-a0B i) hl hx.1 (by omega) (by rw [a0q];simp;split <;> omega)).mono ?_
 rintro _ G4 ⟨⟨s',rfl,hs'⟩,hx4⟩
 replace b1:=hx4.blk b1
 have hz:=a0i b1
 simp [b1,hs'.cells,hs'.plain,hz]
 exact fun _=>⟨s',rfl,hs'.setT b1 (by decide)⟩
theorem e0B (h:b0q H v i) (k:b0q H w j) (hf:fl≤H.size) (hn:i.2.length < 536870912) (hm:j.2.length < 536870912) :
  a0S env fl B0a [v,w] H (fun r H'=>b0q H' r (a0k (a0B i + a0B j))∧Ext H H') R:=by
 have hh:=h
 have kk:=k
 obtain ⟨s,rfl,hs⟩:=h
 obtain ⟨u,rfl,hu⟩:=k
 refine a0g h1M hf (h:=?_)
 intro ρ h0
 simp [c1X,S0R,h0]
 generalize hG:Array.push (Array.push (Array.push H _) _) _=G
 have hx:Ext H G:=by rw [← hG];exact (Ext.refl H).push.push.push
 have b0:a0e.blk G H.size=.row false a0a [.bool i.1,s]:=by rw [← hG];simp
 have b1:a0e.blk G (H.size + 1)=.row false a0a [.bool j.1,u]:=by rw [← hG];simp
 have b2:a0e.blk G (H.size + 2)=.row false a0a [.bool false,.slice none 0 0]:=by rw [← hG];simp
 have hz:H.size + 1 < G.size:=a0i b1
 clear hG
 refine a0G ?_
 simp [S0S,h0,b0,b1]
 refine (b0M (hh.mono hx) (by omega) (by omega)).mono ?_
 rintro x G2 ⟨hl,hx2⟩
 replace b0:=hx2.blk b0
 replace b1:=hx2.blk b1
 replace b2:=hx2.blk b2
 replace hx:=hx.trans hx2
 try simp [h0,b0,b1]
 refine (b0M (kk.mono hx) hx.1 (by omega)).mono ?_
 rintro y G3 ⟨hl2,hx3⟩
 replace b0:=hx3.blk b0
 replace b1:=hx3.blk b1
 replace b2:=hx3.blk b2
 replace hx:=hx.trans hx3
 replace hl:=hl.mono hx3
 try simp [h0]
 refine a0G ?_
 simp [S0T,h0,b0,b1]
 refine (b0x (hh.mono hx) (by have:=hx.1;omega) (by omega)).mono ?_
 rintro _ G2 ⟨rfl,hx2⟩
 replace b0:=hx2.blk b0
 replace b1:=hx2.blk b1
 replace b2:=hx2.blk b2
 replace hx:=hx.trans hx2
 replace hl:=hl.mono hx2
 replace hl2:=hl2.mono hx2
 try simp [h0,b0,b1]
 refine (b0x (kk.mono hx) hx.1 (by omega)).mono ?_
 rintro _ G2 ⟨rfl,hx2⟩
 replace b0:=hx2.blk b0
 replace b1:=hx2.blk b1
 replace b2:=hx2.blk b2
 replace hx:=hx.trans hx2
 replace hl:=hl.mono hx2
 replace hl2:=hl2.mono hx2
 clear hs hu hz hx2
 have l1:=a0A hh.ok
 have l2:=a0A kk.ok
 simp [h0]
 refine ⟨fun hsame=>?_,fun hdiff=>?_⟩
 ·simp [S0U,h0,b0]
  refine (b0x (hh.mono hx) hx.1 (by omega)).mono ?_
  rintro _ G2 ⟨rfl,hx2⟩
  replace b0:=hx2.blk b0
  replace b1:=hx2.blk b1
  replace b2:=hx2.blk b2
  replace hx:=hx.trans hx2
  replace hl:=hl.mono hx2
  replace hl2:=hl2.mono hx2
  try simp [h0]
  refine (q0j hl hl2 hx.1 (by omega) (by omega)).mono ?_
  rintro r G2 ⟨⟨o,ho,hon,hol⟩,hx2⟩
  replace b0:=hx2.blk b0
  replace b1:=hx2.blk b1
  replace b2:=hx2.blk b2
  replace hx:=hx.trans hx2
  replace hl:=hl.mono hx2
  replace hl2:=hl2.mono hx2
  try simp [h0]
  rw [a0q,a0q] at hon
  refine (c0n (a0B i + a0B j) ho hx.1 (by omega) (by rw [hon];simp;split <;> omega)).mono ?_
  rintro _ G2 ⟨⟨s',rfl,hs'⟩,hx2⟩
  replace b0:=hx2.blk b0
  replace b1:=hx2.blk b1
  replace b2:=hx2.blk b2
  replace hx:=hx.trans hx2
  replace hl:=hl.mono hx2
  replace hl2:=hl2.mono hx2
  have hz:=a0i b2
  simp [b2,hs'.cells,hs'.plain,hz]
  exact fun _=>⟨s',rfl,hs'.setT b2 (by decide)⟩
 ·simp [S0V,h0]
  refine (f0s hl hl2 hx.1 (by omega)).mono ?_
  rintro _ G2 ⟨rfl,hx2⟩
  replace b0:=hx2.blk b0
  replace b1:=hx2.blk b1
  replace b2:=hx2.blk b2
  replace hx:=hx.trans hx2
  replace hl:=hl.mono hx2
  replace hl2:=hl2.mono hx2
  rw [d0L,c0b]
  try simp [h0]
  refine ⟨fun hge=>?_,fun hlt=>?_⟩
  ·have hab:(a0B j).natAbs≤(a0B i).natAbs:=by
    (repeat' split at hge) <;> omega
   simp [S0W,h0,b0]
   refine (b0x (hh.mono hx) hx.1 (by omega)).mono ?_
   rintro _ G2 ⟨rfl,hx2⟩
   replace b0:=hx2.blk b0
   replace b1:=hx2.blk b1
   replace b2:=hx2.blk b2
   replace hx:=hx.trans hx2
   replace hl:=hl.mono hx2
   replace hl2:=hl2.mono hx2
   try simp [h0]
   refine (i0A hl hl2 hx.1 (by omega) (b0e hab) (by rw [a0q,a0q];exact hab)).mono ?_
   rintro r G2 ⟨⟨o,ho,hon,hol⟩,hx2⟩
   replace b0:=hx2.blk b0
   replace b1:=hx2.blk b1
   replace b2:=hx2.blk b2
   replace hx:=hx.trans hx2
   replace hl:=hl.mono hx2
   replace hl2:=hl2.mono hx2
   try simp [h0]
   rw [a0q,a0q] at hon
   refine (c0n (a0B i + a0B j) ho hx.1 (by omega) (by rw [hon];simp;split <;> omega)).mono ?_
   rintro _ G2 ⟨⟨s',rfl,hs'⟩,hx2⟩
   replace b0:=hx2.blk b0
   replace b1:=hx2.blk b1
   replace b2:=hx2.blk b2
   replace hx:=hx.trans hx2
   replace hl:=hl.mono hx2
   replace hl2:=hl2.mono hx2
   have hz:=a0i b2
   simp [b2,hs'.cells,hs'.plain,hz]
   exact fun _=>⟨s',rfl,hs'.setT b2 (by decide)⟩
  ·have hab:(a0B i).natAbs≤(a0B j).natAbs:=by
    (repeat' split at hlt) <;> omega
   simp [S0X,h0,b1]
   refine (b0x (kk.mono hx) hx.1 (by omega)).mono ?_
   rintro _ G2 ⟨rfl,hx2⟩
   replace b0:=hx2.blk b0
   replace b1:=hx2.blk b1
   replace b2:=hx2.blk b2
   replace hx:=hx.trans hx2
   replace hl:=hl.mono hx2
   replace hl2:=hl2.mono hx2
   try simp [h0]
   refine (i0A hl2 hl hx.1 (by omega) (b0e hab) (by rw [a0q,a0q];exact hab)).mono ?_
   rintro r G2 ⟨⟨o,ho,hon,hol⟩,hx2⟩
   replace b0:=hx2.blk b0
   replace b1:=hx2.blk b1
   replace b2:=hx2.blk b2
   replace hx:=hx.trans hx2
   replace hl:=hl.mono hx2
   replace hl2:=hl2.mono hx2
   try simp [h0]
   rw [a0q,a0q] at hon
   refine (c0n (a0B i + a0B j) ho hx.1 (by omega) (by rw [hon];simp;split <;> omega)).mono ?_
   rintro _ G2 ⟨⟨s',rfl,hs'⟩,hx2⟩
   replace b0:=hx2.blk b0
   replace b1:=hx2.blk b1
   replace b2:=hx2.blk b2
   replace hx:=hx.trans hx2
   replace hl:=hl.mono hx2
   replace hl2:=hl2.mono hx2
   have hz:=a0i b2
   simp [b2,hs'.cells,hs'.plain,hz]
   exact fun _=>⟨s',rfl,hs'.setT b2 (by decide)⟩
theorem s0p (z:Int):(a0k z).2.length=(a0o z.natAbs).length:=rfl
theorem s0z (h:b0q H v i) (k:b0q H w j) (hf:fl≤H.size) (hn:i.2.length < 536870912) (hm:j.2.length < 536870912) :
  a0S env fl A0V [v,w] H (fun r H'=>b0q H' r (a0k (a0B i - a0B j))∧Ext H H') R:=by
 have hh:=h
 have kk:=k
 obtain ⟨s,rfl,hs⟩:=h
 obtain ⟨u,rfl,hu⟩:=k
 refine a0g f1i hf (h:=?_)
 intro ρ h0
 simp [M0k,G0K,h0]
 generalize hG:Array.push (Array.push (Array.push H _) _) _=G
 have hx:Ext H G:=by rw [← hG];exact (Ext.refl H).push.push.push
 have b0:a0e.blk G H.size=.row false a0a [.bool i.1,s]:=by rw [← hG];simp
 have b1:a0e.blk G (H.size + 1)=.row false a0a [.bool j.1,u]:=by rw [← hG];simp
 have b2:a0e.blk G (H.size + 2)=.row false a0a [.bool false,.slice none 0 0]:=by rw [← hG];simp
 clear hG
 refine a0G ?_
 simp [G0L,h0,b0,b1]
 refine (e0C (kk.mono hx) (by have:=hx.1;omega) (by omega)).mono ?_
 rintro x G2 ⟨hl,hx2⟩
 replace b0:=hx2.blk b0
 replace b1:=hx2.blk b1
 replace b2:=hx2.blk b2
 replace hx:=hx.trans hx2
 try simp [h0]
 have hlen:(a0k (-a0B j)).2.length < 536870912:=by
  rw [s0p,Int.natAbs_neg];have:=a0A kk.ok;omega
 refine (e0B (hh.mono hx) hl hx.1 hn hlen).mono ?_
 rintro _ G2 ⟨⟨s',rfl,hs'⟩,hx2⟩
 replace b0:=hx2.blk b0
 replace b1:=hx2.blk b1
 replace b2:=hx2.blk b2
 replace hx:=hx.trans hx2
 have hz:=a0i b2
 simp [b2,hs'.cells,hs'.plain,hz]
 rw [a0j] at hs' ⊢
 exact fun _=>⟨s',by rw [k1n],by rw [k1n];exact hs'.setT b2 (by decide)⟩
theorem d0R (h:b0q H v i) (k:b0q H w j) (hf:fl≤H.size) (hn:i.2.length < 536870912) (hm:j.2.length < 536870912) :
  a0S env fl n0O [v,w] H (fun r H'=>r=.int .i64 (c0A (a0B i) (a0B j))∧Ext H H') R:=by
 have hh:=h
 have kk:=k
 obtain ⟨s,rfl,hs⟩:=h
 obtain ⟨u,rfl,hu⟩:=k
 refine a0g e1F hf (h:=?_)
 intro ρ h0
 simp [L0H,E0j,h0]
 generalize hG:Array.push (Array.push H _) _=G
 have hx:Ext H G:=by rw [← hG];exact (Ext.refl H).push.push
 have b0:a0e.blk G H.size=.row false a0a [.bool i.1,s]:=by rw [← hG];simp
 have b1:a0e.blk G (H.size + 1)=.row false a0a [.bool j.1,u]:=by rw [← hG];simp
 clear hG
 simp [E0k,h0,b0,b1]
 have l1:=a0A hh.ok
 have l2:=a0A kk.ok
 refine (b0x (hh.mono hx) hx.1 (by omega)).mono ?_
 rintro _ G2 ⟨rfl,hx2⟩
 replace b0:=hx2.blk b0
 replace b1:=hx2.blk b1
 replace hx:=hx.trans hx2
 by_cases hI:a0B i < 0
 ·simp [hI,b1]
  refine (b0x (kk.mono hx) hx.1 (by omega)).mono ?_
  rintro _ G2 ⟨rfl,hx2⟩
  replace b0:=hx2.blk b0
  replace b1:=hx2.blk b1
  replace hx:=hx.trans hx2
  by_cases hJ:a0B j < 0
  ·simp [hJ,u0S,h0,b0,b1]
   refine (b0x (hh.mono hx) hx.1 (by omega)).mono ?_
   rintro _ G2 ⟨rfl,hx2⟩
   replace b0:=hx2.blk b0
   replace b1:=hx2.blk b1
   replace hx:=hx.trans hx2
   simp [hI,u0T,h0,b0,b1]
   refine (b0x (hh.mono hx) hx.1 (by omega)).mono ?_
   rintro _ G2 ⟨rfl,hx2⟩
   replace b0:=hx2.blk b0
   replace b1:=hx2.blk b1
   replace hx:=hx.trans hx2
   simp [hI,h0]
   refine a0G ?_
   simp [E0n,h0,b0,b1]
   refine (b0M (kk.mono hx) (by have:=hx.1;omega) (by omega)).mono ?_
   rintro x G2 ⟨hl,hx2⟩
   replace b0:=hx2.blk b0
   replace b1:=hx2.blk b1
   replace hx:=hx.trans hx2
   try simp [h0,b0]
   refine (b0M (hh.mono hx) hx.1 (by omega)).mono ?_
   rintro y G2 ⟨hl2,hx2⟩
   replace hl:=hl.mono hx2
   replace b0:=hx2.blk b0
   replace b1:=hx2.blk b1
   replace hx:=hx.trans hx2
   try simp [h0,b0]
   refine (f0s hl hl2 hx.1 (by omega)).mono ?_
   rintro _ G2 ⟨rfl,hx2⟩
   rw [d0L,c0b]
   have:(if (a0B j).natAbs < (a0B i).natAbs then (-1:Int) else if (a0B i).natAbs < (a0B j).natAbs then 1 else 0)=c0A (a0B i) (a0B j):=by
    unfold c0A;(repeat' split) <;> omega
   simp [this]
  ·simp [hJ,E0l,h0]
   have:c0A (a0B i) (a0B j) = -1:=by unfold c0A;rw [i1n (by omega)]
   simp [this]
 ·simp [hI,u0S,h0,b0,b1]
  refine (b0x (hh.mono hx) hx.1 (by omega)).mono ?_
  rintro _ G2 ⟨rfl,hx2⟩
  replace b0:=hx2.blk b0
  replace b1:=hx2.blk b1
  replace hx:=hx.trans hx2
  simp [hI,h0,b1]
  refine (b0x (kk.mono hx) hx.1 (by omega)).mono ?_
  rintro _ G2 ⟨rfl,hx2⟩
  replace b0:=hx2.blk b0
  replace b1:=hx2.blk b1
  replace hx:=hx.trans hx2
  by_cases hJ:a0B j < 0
  ·simp [hJ,E0m,h0]
   have:c0A (a0B i) (a0B j)=1:=by unfold c0A;rw [i1k (by omega),i1n (by omega)]
   simp [this]
  ·simp [hJ,u0T,h0,b0]
   refine (b0x (hh.mono hx) hx.1 (by omega)).mono ?_
   rintro _ G2 ⟨rfl,hx2⟩
   replace b0:=hx2.blk b0
   replace b1:=hx2.blk b1
   replace hx:=hx.trans hx2
   simp [hI,h0]
   refine a0G ?_
   simp [E0o,h0,b0,b1]
   refine (b0M (hh.mono hx) (by have:=hx.1;omega) (by omega)).mono ?_
   rintro x G2 ⟨hl,hx2⟩
   replace b0:=hx2.blk b0
   replace b1:=hx2.blk b1
   replace hx:=hx.trans hx2
   try simp [h0,b1]
   refine (b0M (kk.mono hx) hx.1 (by omega)).mono ?_
   rintro y G2 ⟨hl2,hx2⟩
   replace hl:=hl.mono hx2
   replace b0:=hx2.blk b0
   replace b1:=hx2.blk b1
   replace hx:=hx.trans hx2
   try simp [h0,b0]
   refine (f0s hl hl2 hx.1 (by omega)).mono ?_
   rintro _ G2 ⟨rfl,hx2⟩
   rw [d0L,c0b]
   have:(if (a0B i).natAbs < (a0B j).natAbs then (-1:Int) else if (a0B j).natAbs < (a0B i).natAbs then 1 else 0)=c0A (a0B i) (a0B j):=by
    unfold c0A;(repeat' split) <;> omega
   simp [this]
theorem c0r {n:Int} (hf:fl≤H.size) (h1:-9223372036854775808≤n) (h2:n < 9223372036854775808) :
  a0S env fl k0d [.int .i64 n] H (fun r H'=>b0q H' r (a0k n)∧Ext H H') R:=by
 refine a0g e1l hf (h:=?_)
 intro ρ h0
 simp only [L0n]
 refine g0M (l0f ?_)
 simp [-w0c,C0y,h0]
 generalize hG:Array.push H _=G
 have hx:Ext H G:=by rw [← hG];exact (Ext.refl H).push
 have b2:a0e.blk G H.size=.row false a0a [.bool false,.slice none 0 0]:=by rw [← hG];simp
 clear hG
 refine g0M (l0f ?_)
 simp [-w0c,C0z,h0]
 refine g0M (Y0c (fun t G'=>G' = G∧t.length=19∧get t 0=.int .i64 n∧get t 2=.pointer (some ⟨H.size,0,none⟩)∧get t 3=.int .u64 ((n.natAbs:Nat):Int)) ?_ ?_)
 ·have e1:0≤n→IntKind.u64.wrap n=((n.natAbs:Nat):Int):=fun _=>by rw [a0x];omega
  have e2:n < 0→IntKind.u64.wrap (-IntKind.u64.wrap n)=((n.natAbs:Nat):Int):=fun _=>by rw [a0x,a0x];omega
  simp [C0A,C0B,h0]
  exact ⟨e2,e1⟩
 clear h0 ρ
 rintro t G' ⟨rfl,ht,g0,g2,g3⟩
 obtain ⟨ρ,rfl⟩:=toT ht
 simp only [b0Q,Nat.reduceLT] at g0 g2 g3
 simp [C0C,g0,g2,g3]
 refine (a0r hx.1).mono ?_
 rintro _ G2 ⟨rfl,hx2⟩
 replace b2:=hx2.blk b2
 replace hx:=hx.trans hx2
 try simp [g0,g2,g3]
 rw [show ((n.natAbs:Nat):Int) / 4294967296=((n.natAbs / 4294967296:Nat):Int) by omega]
 refine (a0r hx.1).mono ?_
 rintro _ G2 ⟨rfl,hx2⟩
 replace b2:=hx2.blk b2
 replace hx:=hx.trans hx2
 simp
 have hl:Lim (Array.push G2 (.row false a0h [.int .u32 (((n.natAbs:Nat):Int) % 4294967296),.int .u32 (((n.natAbs:Nat):Int) / 4294967296 % 4294967296)]))
   (.slice (some ⟨Array.size G2,0,none⟩) 2 2) [n.natAbs % 4294967296,n.natAbs / 4294967296 % 4294967296]:=by
  refine ⟨(Own.mk (fl:=0) (n:=2) (sz:=1) (cs:=b0Y [n.natAbs % 4294967296,n.natAbs / 4294967296 % 4294967296]) ?_ rfl (j1l _)).sl,?_⟩
  ·rw [a0D];simp [b0Y]
  ·intro x hx;simp at hx;omega
 have hx2:Ext G2 (Array.push G2 (.row false a0h [.int .u32 (((n.natAbs:Nat):Int) % 4294967296),.int .u32 (((n.natAbs:Nat):Int) / 4294967296 % 4294967296)])):=(Ext.refl G2).push
 replace b2:=hx2.blk b2
 replace hx:=hx.trans hx2
 refine (c0n n hl hx.1 (by simp) (by simp [a0u];split <;> omega)).mono ?_
 rintro _ G2 ⟨⟨s',rfl,hs'⟩,hx2⟩
 replace b2:=hx2.blk b2
 replace hx:=hx.trans hx2
 have hz:=a0i b2
 simp [b2,hs'.cells,hs'.plain,hz]
 exact fun _=>⟨s',rfl,hs'.setT b2 (by decide)⟩
theorem h0T:∀ (l:List Nat) (j z:Nat),j < l.length→a0u (l.set j z) + 4294967296 ^ j * l.getD j 0=a0u l + 4294967296 ^ j * z
 | [],j,z,h=>by simp at h
 | x :: l,0,z,_=>by simp [a0u];omega
 | x :: l,j + 1,z,h=>by
  have ih:=h0T l j z (by simpa using h)
  rw [List.set_cons_succ,List.getD_cons_succ,a0u,a0u,i1G]
  have e1:4294967296 ^ j * 4294967296 * l.getD j 0=4294967296 * (4294967296 ^ j * l.getD j 0):=by rw [i1L (4294967296 ^ j),i1z]
  have e2:4294967296 ^ j * 4294967296 * z=4294967296 * (4294967296 ^ j * z):=by rw [i1L (4294967296 ^ j),i1z]
  rw [e1,e2];omega
theorem d0I (l:List Nat) (j z:Nat):b0Y (l.set j z)=(b0Y l).set j (.int .u32 (z:Nat)):=by simp [b0Y,List.map_set]
theorem b0X {l:List Nat} {j z:Nat} (h:b0a l) (hz:z < 4294967296):b0a (l.set j z):=by
 intro x hx
 rcases List.mem_or_eq_of_mem_set hx with hx | rfl
 ·exact h x hx
 ·exact hz
theorem f0u {G:a0e} {e n p cap:Nat} {l:List Nat} (hb:G.blk p=.row false e (b0Y l)) {k:IntKind} {z:Nat} (hz:z < l.length) (hn:l.length=n) :
  iaV 1 (.slice (some ⟨p,0,none⟩) n cap) (.int k (z:Int))=some (.pointer (some ⟨p,z,none⟩))∧rd (G.blk p) z=some (.int .u32 ((l.getD z 0:Nat):Int)):=by
 refine ⟨?_,?_⟩
 ·simp only [iaV];rw [i1n (by omega)];simp
 ·rw [hb];simp [b0Y,i1h,hz]
theorem b0L {l:List Nat} {a b z:Nat} (h:a ≠ b):(l.set a z).getD b 0=l.getD b 0:=by
 rw [i1h,i1h,List.getElem?_set_ne h]
theorem b0B (h:b0q H v i) (k:b0q H w j) (hf:fl≤H.size) (hn:i.2.length < 268435456) (hm:j.2.length < 268435456) :
  a0S env fl s0f [v,w] H (fun r H'=>b0q H' r (a0k (a0B i * a0B j))∧Ext H H') R:=by
 have hh:=h
 have kk:=k
 obtain ⟨s,rfl,hs⟩:=h
 obtain ⟨u,rfl,hu⟩:=k
 refine a0g h1N hf (h:=?_)
 intro ρ h0
 simp [c1Y,S0Y,h0]
 generalize hG:Array.push (Array.push (Array.push H _) _) _=G
 have hx:Ext H G:=by rw [← hG];exact (Ext.refl H).push.push.push
 have b0:a0e.blk G H.size=.row false a0a [.bool i.1,s]:=by rw [← hG];simp
 have b1:a0e.blk G (H.size + 1)=.row false a0a [.bool j.1,u]:=by rw [← hG];simp
 have b2:a0e.blk G (H.size + 2)=.row false a0a [.bool false,.slice none 0 0]:=by rw [← hG];simp
 clear hG
 have l1:=a0A hh.ok
 have l2:=a0A kk.ok
 refine a0G ?_
 simp [S0Z,h0,b0,b1]
 refine (b0M (hh.mono hx) (by have:=hx.1;omega) (by omega)).mono ?_
 rintro x G2 ⟨hl,hx2⟩
 replace b0:=hx2.blk b0
 replace b1:=hx2.blk b1
 replace b2:=hx2.blk b2
 replace hx:=hx.trans hx2
 try simp [h0,b1]
 refine (b0M (kk.mono hx) hx.1 (by omega)).mono ?_
 rintro y G2 ⟨hl2,hx2⟩
 replace hl:=hl.mono hx2
 replace b0:=hx2.blk b0
 replace b1:=hx2.blk b1
 replace b2:=hx2.blk b2
 replace hx:=hx.trans hx2
 generalize hA:a0o (a0B i).natAbs=A at hl l1
 generalize hB:a0o (a0B j).natAbs=B at hl2 l2
 have w1:IntKind.i64.wrap ((A.length:Int) + (B.length:Int))=((A.length + B.length:Nat):Int):=by rw [a0R (by omega) (by omega)];omega
 have hmk:=g0i (bytes:=4) (k:=.i64) (k':=.i64) (l:=A.length + B.length) (c:=A.length + B.length) (i1j _) (by omega) (by omega)
 simp [-Int.natCast_add,T0a,T0b,h0,hl.slen,hl2.slen,w1,hmk]
 have hP:H.size≤G2.size:=hx.1
 generalize hPd:G2.size=P at hP
 generalize hSL:Value.slice (some ⟨P,0,none⟩) (A.length + B.length) (A.length + B.length)=SL
 refine b0R (fun k t G'=>∃ a o,a + k=A.length∧t.length=78∧get t 2=.pointer (some ⟨H.size,0,none⟩)∧get t 3=.pointer (some ⟨H.size + 1,0,none⟩)∧get t 4=.pointer (some ⟨H.size + 2,0,none⟩) ∧
   get t 6=y∧get t 7=SL∧get t 23=x∧get t 24=.int .i64 A.length∧get t 25=.int .i64 ((a:Nat):Int) ∧
   Ext G2 G'∧a0e.blk G' P=.row false a0h (b0Y o)∧o.length=A.length + B.length∧b0a o∧a0u o=a0u (A.take a) * a0u B∧∀ q,a + B.length≤q→o.getD q 0=0)
  (fun t G'=>∃ o,t.length=78∧get t 2=.pointer (some ⟨H.size,0,none⟩)∧get t 3=.pointer (some ⟨H.size + 1,0,none⟩)∧get t 4=.pointer (some ⟨H.size + 2,0,none⟩)∧get t 7=SL ∧
   Ext G2 G'∧a0e.blk G' P=.row false a0h (b0Y o)∧o.length=A.length + B.length∧b0a o∧a0u o=a0u A * a0u B) A.length ?_ ?_ ?_
 ·refine ⟨0,List.replicate (A.length + B.length) 0,by omega,by simp,by simp,by simp,by simp,by simp,by simp,by simp,by simp,by simp,Ext.push (Ext.refl _),?_,by simp,?_,?_,?_⟩
  ·rw [← hPd,a0D]
   congr 1
   generalize A.length + B.length=n
   induction n with
   | zero=>rfl
   | succ n ih=>rw [e0G,ih];rfl
  ·intro z hz;rw [k1F] at hz;omega
  ·simp only [k1V,a0u,l1q]
   generalize A.length + B.length=n
   induction n with
   | zero=>rfl
   | succ n ih=>rw [l1e,a0u,ih]
  ·intro q _;rw [i1h,j1T];split <;> rfl
 ·clear h0 ρ w1 hmk
  rintro k t G' ⟨a,o,hak,ht,g2,g3,g4,g6,g7,g23,g24,g25,hx2,hb,hol,hok,hs,hz⟩
  obtain ⟨ρ,rfl⟩:=toT ht
  simp only [b0Q,Nat.reduceLT] at g2 g3 g4 g6 g7 g23 g24 g25
  by_cases ha:a < A.length
  ·have hla:=hl.load ha hx2
   have hia:=hl.ia (k:=.i64) ha
   have hA2:=a0P ha
   have hA3:A.getD a 0 < 4294967296:=hl.2 _ (by rw [i1h,i1m ha];exact i1p ha)
   generalize A.getD a 0=U at hla hA2 hA3
   simp [I0r,T0c,T0d,T0e,g2,g3,g4,g6,g7,g23,g24,g25,ha,hla,hia,hl2.slen]
   refine b0R (fun k2 t G'=>∃ q c o,q + k2=B.length∧t.length=78∧get t 2=.pointer (some ⟨H.size,0,none⟩)∧get t 3=.pointer (some ⟨H.size + 1,0,none⟩)∧get t 4=.pointer (some ⟨H.size + 2,0,none⟩) ∧
     get t 6=y∧get t 7=SL∧get t 23=x∧get t 24=.int .i64 A.length∧get t 25=.int .i64 ((a:Nat):Int)∧get t 8=.int .i64 ((a:Nat):Int)∧get t 9=.int .u32 ((U:Nat):Int) ∧
     get t 10=.int .u64 ((c:Nat):Int)∧get t 30=y∧get t 31=.int .i64 B.length∧get t 32=.int .i64 ((q:Nat):Int) ∧
     Ext G2 G'∧a0e.blk G' P=.row false a0h (b0Y o)∧o.length=A.length + B.length∧b0a o∧c < 4294967296 ∧
     a0u o + 4294967296 ^ (a + q) * c=a0u (A.take a) * a0u B + 4294967296 ^ a * (U * a0u (B.take q))∧∀ q,a + B.length≤q→o.getD q 0=0)
    (fun t G'=>∃ c o,t.length=78∧get t 2=.pointer (some ⟨H.size,0,none⟩)∧get t 3=.pointer (some ⟨H.size + 1,0,none⟩)∧get t 4=.pointer (some ⟨H.size + 2,0,none⟩) ∧
     get t 6=y∧get t 7=SL∧get t 23=x∧get t 24=.int .i64 A.length∧get t 25=.int .i64 ((a:Nat):Int)∧get t 8=.int .i64 ((a:Nat):Int) ∧
     get t 10=.int .u64 ((c:Nat):Int) ∧
     Ext G2 G'∧a0e.blk G' P=.row false a0h (b0Y o)∧o.length=A.length + B.length∧b0a o∧c < 4294967296 ∧
     a0u o + 4294967296 ^ (a + B.length) * c=a0u (A.take (a + 1)) * a0u B∧∀ q,a + B.length≤q→o.getD q 0=0) B.length ?_ ?_ ?_
   ·exact ⟨0,0,o,by omega,by simp,by simp [g2],by simp [g3],by simp [g4],by simp [g6],by simp [g7],by simp [g23],by simp [g24],by simp [g25],by simp,by simp,by simp,by simp,by simp,by simp,
     hx2,hb,hol,hok,by omega,by simp [hs,a0u],hz⟩
   ·clear hs hz hok hol hb hx2 hla o g2 g3 g4 g6 g7 g23 g24 g25 ht ρ G'
    rintro k2 t G' ⟨q,c,o,hqk,ht,g2,g3,g4,g6,g7,g23,g24,g25,g8,g9,g10,g30,g31,g32,hx2,hb,hol,hok,hc,hs,hz⟩
    obtain ⟨ρ,rfl⟩:=toT ht
    simp only [b0Q,Nat.reduceLT] at g2 g3 g4 g6 g7 g23 g24 g25 g8 g9 g10 g30 g31 g32
    by_cases hq:q < B.length
    ·have hlb:=hl2.load hq hx2
     have hib:=hl2.ia (k:=.i64) hq
     have hB2:=a0P hq
     have hB3:B.getD q 0 < 4294967296:=hl2.2 _ (by rw [i1h,i1m hq];exact i1p hq)
     generalize B.getD q 0=V at hlb hB2 hB3
     have hlo:a + q < o.length:=by omega
     obtain ⟨hio,hro⟩:=f0u (k:=.i64) (cap:=A.length + B.length) hb hlo hol
     rw [hSL] at hio
     have hset:=h0T o (a + q) ((c + (U * V + o.getD (a + q) 0)) % 4294967296) hlo
     have hW3:o.getD (a + q) 0 < 4294967296:=hok _ (by rw [i1h,i1m hlo];exact i1p hlo)
     generalize o.getD (a + q) 0=Wd at hro hset hW3
     have hUV:U * V≤4294967295 * 4294967295:=j1f (by omega) (by omega)
     have e1:IntKind.u64.wrap (U:Int)=(U:Int):=by rw [a0x];omega
     have e2:IntKind.u64.wrap (V:Int)=(V:Int):=by rw [a0x];omega
     have e3:IntKind.u64.wrap (Wd:Int)=(Wd:Int):=by rw [a0x];omega
     have e4:IntKind.u64.wrap ((U:Int) * (V:Int))=((U * V:Nat):Int):=by rw [a0x,← j1I];omega
     have e5:IntKind.u64.wrap (((U * V:Nat):Int) + (Wd:Int))=((U * V + Wd:Nat):Int):=by rw [a0x];omega
     have e6:IntKind.u64.wrap ((c:Int) + ((U * V + Wd:Nat):Int))=((c + (U * V + Wd):Nat):Int):=by rw [a0x];omega
     have e7:IntKind.i64.wrap ((a:Int) + (q:Int))=((a + q:Nat):Int):=by rw [a0R (by omega) (by omega)];omega
     have e8:IntKind.i64.wrap ((q:Int) + 1)=((q + 1:Nat):Int):=by rw [a0R (by omega) (by omega)];omega
     simp [-Int.natCast_add,-Int.natCast_mul,I0s,T0f,I0k,I0l,I0m,I0n,g2,g3,g4,g6,g7,g23,g24,g25,g8,g9,g10,g30,g31,g32,hq,hlb,hib,e1,e2,e3,e4,e5,e6,e7,e8,hio,hro]
     refine (a0r (by have:=hx2.1;omega)).mono ?_
     rintro _ G3 ⟨rfl,hx3⟩
     replace hb:=hx3.blk hb
     have hxx:=hx2.trans hx3
     have hPl:=a0i hb
     have hle:a + q + 1≤o.length:=hlo
     generalize hc1:c + (U * V + Wd)=c1 at *
     simp [-Int.natCast_emod,-Int.natCast_ediv,-Int.natCast_add,hb,hP,hle]
     refine ⟨k2 - 1,by omega,q + 1,by omega,c1 / 4294967296,by omega,rfl,hxx.set (by omega),o.set (a + q) (c1 % 4294967296),by rw [a0z hPl,d0I],by simp [hol],b0X hok (by omega),by omega,?_,?_⟩
     ·have f1:4294967296 ^ (a + (q + 1)) * (c1 / 4294967296)=4294967296 ^ (a + q) * (4294967296 * (c1 / 4294967296)):=by
       rw [show a + (q + 1)=a + q + 1 by omega,i1G,i1z]
      have f2:4294967296 ^ (a + q) * (c1 % 4294967296) + 4294967296 ^ (a + q) * (4294967296 * (c1 / 4294967296))=4294967296 ^ (a + q) * c1:=by rw [← i1w,k1L]
      have f3:4294967296 ^ (a + q) * c1=4294967296 ^ (a + q) * c + (4294967296 ^ (a + q) * (U * V) + 4294967296 ^ (a + q) * Wd):=by rw [← hc1,i1w,i1w]
      have f4:4294967296 ^ a * (U * (a0u (List.take q B) + 4294967296 ^ q * V))=4294967296 ^ a * (U * a0u (List.take q B)) + 4294967296 ^ (a + q) * (U * V):=by
       rw [i1w,i1w,k1h]
       congr 1
       rw [i1z,k1g U]
      rw [hB2,f4,f1]
      omega
     ·intro r hr
      have:=hz r hr
      rw [← i1h,b0L (by omega)];exact this
    ·simp [I0s,g2,g3,g4,g6,g7,g23,g24,g25,g8,g9,g10,g30,g31,g32,hq]
     have:q=B.length:=by omega
     subst this
     refine ⟨c,rfl,hx2,o,hb,hol,hok,hc,?_,by simpa using hz⟩
     rw [hs,i1v (i1j _),hA2,i1D,i1z]
   ·clear hs hz hok hol hb hx2 hla o g2 g3 g4 g6 g7 g23 g24 g25 ht ρ G'
    rintro t G' ⟨c,o,ht,g2,g3,g4,g6,g7,g23,g24,g25,g8,g10,hx2,hb,hol,hok,hc,hs,hz⟩
    obtain ⟨ρ,rfl⟩:=toT ht
    simp only [b0Q,Nat.reduceLT] at g2 g3 g4 g6 g7 g23 g24 g25 g8 g10
    have hlo:a + B.length < o.length:=by omega
    obtain ⟨hio,hro⟩:=f0u (k:=.i64) (cap:=A.length + B.length) hb hlo hol
    rw [hSL] at hio
    have hset:=h0T o (a + B.length) (c % 4294967296) hlo
    rw [hz _ (i1j _)] at hset
    have e7:IntKind.i64.wrap ((a:Int) + (B.length:Int))=((a + B.length:Nat):Int):=by rw [a0R (by omega) (by omega)];omega
    have e8:IntKind.i64.wrap ((a:Int) + 1)=((a + 1:Nat):Int):=by rw [a0R (by omega) (by omega)];omega
    simp [-Int.natCast_add,I0o,g2,g3,g4,g6,g7,g23,g24,g25,g8,g10,hl2.slen,e7,hio]
    refine (a0r (by have:=hx2.1;omega)).mono ?_
    rintro _ G3 ⟨rfl,hx3⟩
    replace hb:=hx3.blk hb
    have hxx:=hx2.trans hx3
    have hPl:=a0i hb
    have hle:a + B.length + 1≤o.length:=hlo
    simp [-Int.natCast_emod,-Int.natCast_ediv,-Int.natCast_add,I0p,g2,g3,g4,g6,g7,g23,g24,g25,hb,hP,hle,e8]
    refine ⟨k - 1,by omega,a + 1,by omega,rfl,hxx.set (by omega),o.set (a + B.length) (c % 4294967296),by rw [a0z hPl,d0I],by simp [hol],b0X hok (by omega),?_,?_⟩
    ·rw [i1K hc] at hset ⊢
     omega
    ·intro r hr
     have:=hz r (by omega)
     rw [← i1h,b0L (by omega)];exact this
  ·simp [I0r,g2,g3,g4,g6,g7,g23,g24,g25,ha]
   have:a=A.length:=by omega
   subst this
   exact ⟨hx2,o,hb,hol,hok,by rw [hs,i1v (i1j _)]⟩
 ·clear h0 ρ w1 hmk
  rintro t G' ⟨o,ht,g2,g3,g4,g7,hx2,hb,hol,hok,hs⟩
  obtain ⟨ρ,rfl⟩:=toT ht
  simp only [b0Q,Nat.reduceLT] at g2 g3 g4 g7
  replace b0:=hx2.blk b0
  replace b1:=hx2.blk b1
  replace b2:=hx2.blk b2
  replace hx:=hx.trans hx2
  have hy:Lim G' SL o:=by
   rw [← hSL,← hol]
   exact ⟨(Own.mk (fl:=0) hb (by simp) (j1l _)).sl,hok⟩
  refine a0G ?_
  simp [I0q,g2,g3,g4,g7,b0,b1]
  refine (b0x (hh.mono hx) (by have:=hx.1;omega) (by omega)).mono ?_
  rintro _ G2 ⟨rfl,hx2⟩
  replace b0:=hx2.blk b0
  replace b1:=hx2.blk b1
  replace b2:=hx2.blk b2
  replace hx:=hx.trans hx2
  replace hy:=hy.mono hx2
  try simp [g2,g3,g4,g7,b1]
  refine (b0x (kk.mono hx) hx.1 (by omega)).mono ?_
  rintro _ G2 ⟨rfl,hx2⟩
  replace b0:=hx2.blk b0
  replace b1:=hx2.blk b1
  replace b2:=hx2.blk b2
  replace hx:=hx.trans hx2
  replace hy:=hy.mono hx2
  try simp [g2,g3,g4,g7,b1]
  have hAn:a0u A=(a0B i).natAbs:=by rw [← hA,a0q]
  have hBn:a0u B=(a0B j).natAbs:=by rw [← hB,a0q]
  rw [hAn,hBn,← j1R] at hs
  have hsgn:(if (decide (a0B i < 0) != decide (a0B j < 0))=true then -((a0B i * a0B j).natAbs:Int) else ((a0B i * a0B j).natAbs:Int))=a0B i * a0B j:=by
   by_cases hi:a0B i < 0 <;> by_cases hj:a0B j < 0
   ·have:=Int.mul_pos_of_neg_of_neg hi hj
    simp [hi,hj];omega
   ·have:=j1k (Int.le_of_lt hi) (show 0≤a0B j by omega)
    simp [hi,hj];omega
   ·have:=Int.mul_nonpos_of_nonneg_of_nonpos (show 0≤a0B i by omega) (Int.le_of_lt hj)
    simp [hi,hj];omega
   ·have:=k1U (show 0≤a0B i by omega) (show 0≤a0B j by omega)
    simp [hi,hj];omega
  refine (c0n (a0B i * a0B j) hy hx.1 (by omega) (by rw [hs];exact hsgn)).mono ?_
  rintro _ G2 ⟨⟨s',rfl,hs'⟩,hx2⟩
  replace b0:=hx2.blk b0
  replace b1:=hx2.blk b1
  replace b2:=hx2.blk b2
  replace hx:=hx.trans hx2
  have hz:=a0i b2
  simp [b2,hs'.cells,hs'.plain,hz,g4]
  exact fun _=>⟨s',rfl,hs'.setT b2 (by decide)⟩
end
section
open Go
section
variable {tag:Nat}
theorem r0v (n:Nat):IntKind.u64.wrap (n:Int)=((n % 18446744073709551616:Nat):Int):=by rw [a0x];omega
theorem r0u (n:Nat):IntKind.u32.wrap (n:Int)=((n % 4294967296:Nat):Int):=by rw [f0j];omega
theorem J0g {n s:Nat} {k':IntKind} (hs:s≤64):d0m tag .shl (.int .u64 (n:Int)) (.int k' (s:Int))=some (.int .u64 ((n * 2 ^ s % 18446744073709551616:Nat):Int)):=by
 rw [w0i (by omega)]
 have:min (s:Int).toNat IntKind.u64.bits=s:=by show min (s:Int).toNat 64=s;omega
 rw [this]
 have e:(n:Int) * 2 ^ s=((n * 2 ^ s:Nat):Int):=by simp
 rw [e,r0v]
theorem r0m {n s:Nat} {k':IntKind} (hs:s≤32):d0m tag .shl (.int .u32 (n:Int)) (.int k' (s:Int))=some (.int .u32 ((n * 2 ^ s % 4294967296:Nat):Int)):=by
 rw [w0i (by omega)]
 have:min (s:Int).toNat IntKind.u32.bits=s:=by show min (s:Int).toNat 32=s;omega
 rw [this]
 have e:(n:Int) * 2 ^ s=((n * 2 ^ s:Nat):Int):=by simp
 rw [e,r0u]
theorem W0w {n s:Nat} {k':IntKind} (hs:s≤64):d0m tag .shr (.int .u64 (n:Int)) (.int k' (s:Int))=some (.int .u64 ((n / 2 ^ s:Nat):Int)):=by
 rw [l0s (by omega)]
 have:min (s:Int).toNat IntKind.u64.bits=s:=by show min (s:Int).toNat 64=s;omega
 rw [this]
 have e:(2:Int) ^ s=((2 ^ s:Nat):Int):=by simp
 rw [e,K0q]
theorem r0n {n s:Nat} {k':IntKind} (hs:s≤32):d0m tag .shr (.int .u32 (n:Int)) (.int k' (s:Int))=some (.int .u32 ((n / 2 ^ s:Nat):Int)):=by
 rw [l0s (by omega)]
 have:min (s:Int).toNat IntKind.u32.bits=s:=by show min (s:Int).toNat 32=s;omega
 rw [this]
 have e:(2:Int) ^ s=((2 ^ s:Nat):Int):=by simp
 rw [e,K0q]
theorem Z0I {a b:Nat} (ha:a < 18446744073709551616) (hb:b < 18446744073709551616):d0m tag .or (.int .u64 (a:Int)) (.int .u64 (b:Int))=some (.int .u64 ((a ||| b:Nat):Int)):=by
 rw [j0Z]
 have e1:(BitVec.ofInt IntKind.u64.bits (a:Int) ||| BitVec.ofInt IntKind.u64.bits (b:Int)).toNat=a ||| b:=by
  show (BitVec.ofInt 64 (a:Int) ||| BitVec.ofInt 64 (b:Int)).toNat=a ||| b
  rw [BitVec.toNat_or]
  simp only [BitVec.ofInt_natCast,BitVec.toNat_ofNat]
  rw [i1K (by omega),i1K (by omega)]
 rw [e1,r0v]
 have:a ||| b < 2 ^ 64:=Nat.or_lt_two_pow (by omega) (by omega)
 rw [i1K (by omega)]
theorem Y0h {a:Nat}:d0m tag .and (.int .u64 (a:Int)) (.int .u64 4294967295)=some (.int .u64 ((a % 4294967296:Nat):Int)):=by
 rw [J0Z]
 have e1:(BitVec.ofInt IntKind.u64.bits (a:Int) &&& BitVec.ofInt IntKind.u64.bits (4294967295:Int)).toNat=a % 4294967296:=by
  show (BitVec.ofInt 64 (a:Int) &&& BitVec.ofInt 64 (4294967295:Int)).toNat=a % 4294967296
  rw [BitVec.toNat_and]
  have:(BitVec.ofInt 64 (4294967295:Int)).toNat=2 ^ 32 - 1:=rfl
  rw [this,Nat.and_two_pow_sub_one_eq_mod]
  simp only [BitVec.ofInt_natCast,BitVec.toNat_ofNat]
  omega
 rw [e1,r0v,i1K (by omega)]
theorem w0H {x y:Nat} (h:y < 4294967296):x * 4294967296 ||| y=x * 4294967296 + y:=by
 have:=k1i (i:=32) (b:=y) (by omega) x
 rw [i1L] at this
 exact this.symm
theorem Z0S {a b:Nat} (ha:a < 18446744073709551616) (hb:b ≠ 0):d0m tag .quo (.int .u64 (a:Int)) (.int .u64 (b:Int))=some (.int .u64 ((a / b:Nat):Int)):=by
 rw [w0h (by omega),j1D (by omega)]
 have:(a:Int) / (b:Int)=((a / b:Nat):Int):=rfl
 rw [this,r0v,i1K (l1k (j1K a b) ha)]
theorem a1F {a b:Nat} (hb:b ≠ 0):d0m tag .rem (.int .u64 (a:Int)) (.int .u64 (b:Int))=some (.int .u64 ((a % b:Nat):Int)):=by
 rw [K0b (by omega),Int.tmod_eq_emod_of_nonneg (by omega)]
 rfl
end
end
end Go.Proofs.YtilekhkgobmolaaGreat.AI
