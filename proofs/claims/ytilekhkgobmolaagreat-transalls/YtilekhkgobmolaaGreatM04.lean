/- Part 5 of the proof: AiCodeG, AiEnv, AiHeap, AiSet, AiOwn, AiNum1, AiNum2, AiMath1, AiNum3, AiNum4, AiNum5, AiMath2, AiNum6, AiNum7, AiNum8, AiNum9. -/
import Derived.Test.YtilekhkgobmolaaGreatM02
import Derived.Test.YtilekhkgobmolaaGreatM03
set_option linter.unusedVariables false
set_option linter.unusedSimpArgs false
set_option linter.unusedSectionVars false
namespace Go.Proofs.YtilekhkgobmolaaGreat.AI
section
open Go
abbrev s0o (F:RK):Nat:=F.p P0T P0M
abbrev k0T (F:RK):Nat:=F.p q0F V0Y
abbrev j0a (F:RK):Nat:=F.p P0Y P0R
abbrev k0o (F:RK):Nat:=F.p P0V P0O
abbrev k0S (F:RK):Nat:=F.p Q0c Q0a
abbrev y0B (F:RK):Nat:=F.p P0W P0P
abbrev k0p (F:RK):Nat:=F.p P0X P0Q
abbrev y0C (F:RK):Nat:=F.p P0Z P0S
abbrev s0p (F:RK):Nat:=F.p Q0d Q0b
abbrev u0z (F:RK):Nat:=F.p P0U P0N
def r0s (F:RK):SS:=[o 2 (.box (F.p a0i a0h) (t 0)),o 3 (.box a0G (t 1)),o 4 (.mv (.const (.pointer none)))]
def r0t:SS:=[fA 22 1 3,lD 23 22,lN 24 23,mV 5 24]
def g0K (F:RK):SS:=[lA 25 0 2,fA 26 0 3,lD 27 26,mV 28 5,fA 29 0 3,lD 30 29,o 31 (.bin 0 .mul (i 2) (t 30)),mV 32 5,o 33 (.bin 0 .add (t 31) (t 32)),lA 34 0 2,o 35 (.iface (F.p a0i a0h) (t 34)),o 36 (.call j0b [i 1] false),o 37 (.inv (t 35) [(a0h,j0c),(a0i,i0n)] [t 36] false)] ++ F.p [o 38 (.build [.int .i64 0,.int .i64 0,.int .i64 0,.slice none 0 0,.int .i64 0,.slice none 0 0,.int .i64 0] [(0,0,t 25),(0,1,t 27),(1,1,t 28),(2,1,t 33),(4,1,t 37)])] [o 38 (.build [.int .i64 0,.int .i64 0,.int .i64 0,.slice none 0 0,.bool false,.slice none 0 0,.slice none 0 0,.int .i64 0] [(0,0,t 25),(0,1,t 27),(1,1,t 28),(2,1,t 33),(4,2,t 37)])] ++ [o 39 (.box (F.p a0d a0c) (t 38)),o 6 (.alloc (F.p a0w a0t) [.pointer none]),⟨none,none,.store 1 (t 6) (t 39)⟩]
def g0L (F:RK):SS:=[lA 40 0 2,o 41 (.iface (F.p a0i a0h) (t 40)),o 42 (.build [.bool false,.slice none 0 0] []),o 43 (.inv (t 41) [(a0h,j0c),(a0i,i0n)] [t 42] true)] ++ F.p [o 7 (.alloc d0r [.int .i64 0])] [o 7 (.alloc a0a [.bool false,.slice none 0 0])] ++ [⟨none,none,.store F.w (t 7) (t 43)⟩]
def r0u (F:RK):SS:=[o 44 (.mkfn (.func (F.p m0A m0z)) [] [t 6,t 7]),mV 8 44]
def r0v:SS:=[mV 45 8,o 46 (.callv (t 45) [] true),mV 47 8,o 48 (.callv (t 47) [] true),mV 9 46,mV 10 48]
def r0w:SS:=[fA 49 3 3,lD 50 49,lN 51 50,o 52 (.mv (i 0))]
def A0b:SS:=[o 53 (.bin 0 .lss (t 52) (t 51))]
def r0x:SS:=[mV 54 52,iA 55 2 50 52,lA 56 2 55,o 12 (.alloc a0a [.bool false,.slice none 0 0]),mV 11 54,⟨none,none,.store 2 (t 12) (t 56)⟩]
def r0y (F:RK):SS:=[lA 57 0 2,o 58 (.iface (F.p a0i a0h) (t 57)),lA 59 2 12,o 60 (.inv (t 58) [(a0h,j0c),(a0i,i0n)] [t 59] true)] ++ F.p [mV 13 60] [o 13 (.alloc a0a [.bool false,.slice none 0 0]),⟨none,none,.store 2 (t 13) (t 60)⟩]
def n0z (F:RK):SS:=[mV 61 10,mV 62 11,mV 63 10,fA 64 0 3,lD 65 64,mV 66 11,o 67 (.bin 0 .add (t 65) (t 66)),lA 68 0 2,o 69 (.iface (F.p a0i a0h) (t 68))] ++ F.p [mV 70 13] [lA 70 2 13] ++ [o 71 (.inv (t 69) [(a0h,k0V),(a0i,k0W)] [t 70] false)] ++ F.p [mV 72 13] [lA 72 2 13] ++ [o 73 (.ia F.w (t 61) (t 62)),⟨none,none,.store F.w (t 73) (t 71)⟩,o 74 (.ia F.w (t 63) (t 67)),⟨none,none,.store F.w (t 74) (t 72)⟩]
def x0m:SS:=[o 75 (.bin 0 .add (t 52) (i 1)),mV 52 75]
def n0A:SS:=[fA 76 1 3,lD 77 76,lN 78 77,o 79 (.mv (i 0))]
def x0n:SS:=[o 80 (.bin 0 .lss (t 79) (t 78))]
def n0B:SS:=[mV 81 79,iA 82 1 77 79,lD 83 82,mV 14 81,mV 15 83]
def n0C:SS:=[mV 84 8,o 85 (.callv (t 84) [] true),mV 16 85]
def n0D:SS:=[mV 86 15,fA 87 0 3,lD 88 87,o 89 (.sl a0a 2 (t 86) none (some (t 88)) none),lN 90 89,o 91 (.mv (i 0))]
def x0o:SS:=[o 92 (.bin 0 .lss (t 91) (t 90))]
def n0E:SS:=[mV 93 91,iA 94 2 89 91,lA 95 2 94,o 18 (.alloc a0a [.bool false,.slice none 0 0]),mV 17 93,⟨none,none,.store 2 (t 18) (t 95)⟩]
def n0F (F:RK):SS:=[lA 96 0 2,o 97 (.iface (F.p a0i a0h) (t 96)),lA 98 2 18,o 99 (.inv (t 97) [(a0h,j0c),(a0i,i0n)] [t 98] true)] ++ F.p [mV 19 99] [o 19 (.alloc a0a [.bool false,.slice none 0 0]),⟨none,none,.store 2 (t 19) (t 99)⟩]
def n0G (F:RK):SS:=[mV 100 16,mV 101 17,mV 102 16,fA 103 0 3,lD 104 103,mV 105 17,o 106 (.bin 0 .add (t 104) (t 105))] ++ F.p [mV 107 19] [lA 107 2 19] ++ [lA 108 0 2,o 109 (.iface (F.p a0i a0h) (t 108))] ++ F.p [mV 110 19] [lA 110 2 19] ++ [o 111 (.inv (t 109) [(a0h,k0V),(a0i,k0W)] [t 110] false),o 112 (.ia F.w (t 100) (t 101)),⟨none,none,.store F.w (t 112) (t 107)⟩,o 113 (.ia F.w (t 102) (t 106)),⟨none,none,.store F.w (t 113) (t 111)⟩]
def x0p:SS:=[o 114 (.bin 0 .add (t 91) (i 1)),mV 91 114]
def n0H (F:RK):SS:=[mV 115 16,fA 116 0 3,lD 117 116,o 118 (.bin 0 .mul (i 2) (t 117)),mV 119 14,o 120 (.bin 0 .add (t 118) (t 119)),lD 121 6,cK 122 121,fA 123 4 122,o 124 (.load F.b F.w (t 123)),o 125 (.ia F.w (t 115) (t 120)),⟨none,none,.store F.w (t 125) (t 124)⟩]
def n0I (F:RK):SS:=[mV 126 16,lD 127 6,cK 128 127,fA 129 2 128,lD 130 129,lA 131 0 2,o 132 (.iface (F.p a0i a0h) (t 131)),mV 133 15,fA 134 0 3,lD 135 134,iA 136 2 133 135,lA 137 2 136,o 138 (.inv (t 132) [(a0h,j0c),(a0i,i0n)] [t 137] false),o 139 (.ia F.w (t 126) (t 130)),⟨none,none,.store F.w (t 139) (t 138)⟩]
def n0J:SS:=[fA 140 0 3,lD 141 140,o 142 (.bin 0 .mul (i 2) (t 141)),mV 143 14,o 144 (.bin 0 .add (t 142) (t 143)),mV 20 144]
def n0K (F:RK):SS:=[lA 145 0 2,o 146 (.iface (F.p a0i a0h) (t 145)),mV 147 16,lD 148 6,cK 149 148,fA 150 2 149,lD 151 150,o 152 (.ia F.w (t 147) (t 151)),o 153 (.load F.b F.w (t 152)),o 154 (.inv (t 146) [(a0h,m0B),(a0i,m0C)] [t 153] true),o 155 (.bin 0 .lss (t 154) (i 0))]
def n0L:SS:=[lD 156 6,cK 157 156,fA 158 2 157,lD 159 158,mV 160 14,o 161 (.bin 0 .add (t 159) (t 160)),mV 20 161]
def n0M:SS:=[mV 162 16,lN 163 162,o 164 (.mv (i 0))]
def x0q:SS:=[o 165 (.bin 0 .lss (t 164) (t 163))]
def n0N:SS:=[mV 166 164,mV 21 166]
def n0O (F:RK):SS:=[mV 167 16,mV 168 21,lA 169 0 2,o 170 (.iface (F.p a0i a0h) (t 169)),mV 171 16,mV 172 21,o 173 (.ia F.w (t 171) (t 172)),o 174 (.load F.b F.w (t 173)),o 175 (.inv (t 170) [(a0h,k0V),(a0i,k0W)] [t 174] true),o 176 (.ia F.w (t 167) (t 168)),⟨none,none,.store F.w (t 176) (t 175)⟩]
def n0P (F:RK):SS:=[mV 177 9,mV 178 21,lD 179 6,mV 180 9,mV 181 21,o 182 (.ia F.w (t 180) (t 181)),o 183 (.load F.b F.w (t 182)),mV 184 16,mV 185 21,o 186 (.ia F.w (t 184) (t 185)),o 187 (.load F.b F.w (t 186)),o 188 (.call (F.p w0I w0G) [t 179,t 183,t 187] true),o 189 (.ia F.w (t 177) (t 178)),⟨none,none,.store F.w (t 189) (t 188)⟩]
def x0r:SS:=[o 190 (.bin 0 .add (t 164) (i 1)),mV 164 190]
def j0r (F:RK):SS:=[lD 191 6,lD 192 6,lD 193 6,cK 194 193,fA 195 3 194,lD 196 195,mV 197 16,o 198 (.lit (F.p e0w b0b) [.slice none 0 0] 1 [(0,1,t 197)]),o 199 (.app (F.p e0w b0b) 1 24 (t 196) (t 198)),lD 200 6,cK 201 200,o 202 (.fa (F.p 5 6) (t 201)),lD 203 202,mV 204 20,o 205 (.lit e0l [.int .i64 0] 1 [(0,1,t 204)]),o 206 (.app e0l 1 8 (t 203) (t 205)),cK 207 191,fA 208 3 207,⟨none,none,.store 1 (t 208) (t 199)⟩,cK 209 192,o 210 (.fa (F.p 5 6) (t 209)),⟨none,none,.store 1 (t 210) (t 206)⟩]
def x0s:SS:=[o 211 (.bin 0 .add (t 79) (i 1)),mV 79 211]
def n0Q (F:RK):SS:=[lD 212 6,lD 213 6,cK 214 213,fA 215 3 214,lD 216 215,mV 217 9,mV 218 10,o 219 (.lit (F.p e0w b0b) [.slice none 0 0] 2 [(0,1,t 217),(1,1,t 218)]),o 220 (.app (F.p e0w b0b) 1 24 (t 216) (t 219)),cK 221 212,fA 222 3 221,⟨none,none,.store 1 (t 222) (t 220)⟩]
def n0R:SS:=[lD 223 6,mV 4 223]
def j0u (F:RK):SF:=⟨2,224,[.tmp 4],
 (qS (gR (r0s F)) (qS (gR r0t) (qS (.draw (g0K F) [0,0,2,0,0,16,48,0,240,0,512,0,3584,8191,16383,0,65535] []) (qS (gR (g0L F)) (qS (gR (r0u F)) (qS (gR r0v) (qS (qS (gR r0w) (.block 0 (.loop (qS (gR A0b) (qS (.cond (t 53) .skip (.exit 0)) (qS (.block 1 (qS (gR r0x) (qS (gR (r0y F)) (.draw (n0z F) [0,0,0,0,8,0,56,0,128,0,896,0,1923,6019,16383,32767] (F.p [(4,13)] [(4,13),(11,13)]))))) (gR x0m))))))) (qS (qS (gR n0A) (.block 2 (.loop (qS (gR x0n) (qS (.cond (t 80) .skip (.exit 2)) (qS (.block 3 (qS (gR n0B) (qS (gR n0C) (qS (qS (gR n0D) (.block 4 (.loop (qS (gR x0o) (qS (.cond (t 92) .skip (.exit 4)) (qS (.block 5 (qS (gR n0E) (qS (gR (n0F F)) (.draw (n0G F) [0,0,0,0,8,0,56,0,0,256,0,1792,3971,8067,16383,32767] [(4,13)])))) (gR x0p))))))) (qS (.draw (n0H F) [0,0,2,6,0,30,0,64,192,448,1023,2047] []) (qS (.draw (n0I F) [0,0,2,6,14,0,32,0,0,256,896,1920,4064,8191,16383] []) (qS (gR n0J) (qS (qS (.draw (n0K F) [0,1,0,0,8,24,56,124,252,511,1023] []) (.cond (t 155) (qS (gR n0L) (qS (gR n0M) (.block 6 (.loop (qS (gR x0q) (qS (.cond (t 165) .skip (.exit 6)) (qS (.block 7 (qS (gR n0N) (qS (.draw (n0O F) [0,0,0,4,0,0,48,112,252,511,1023] []) (.draw (n0P F) [0,0,0,0,0,24,56,0,0,384,896,2044,4095,8191] [])))) (gR x0r)))))))) .skip)) (.draw (j0r F) [0,0,0,4,12,28,0,64,252,0,512,1536,3584,0,8192,32764,65533,131069,262141,524287,1048575,2097151] [(0,8),(1,8),(8,9),(8,12),(8,14),(0,15),(1,15),(1,18)]))))))))) (gR x0s))))))) (qS (.draw (n0Q F) [0,0,2,6,14,0,0,96,254,511,1023,2047] [(0,8)]) (qS (gR n0R) .ret))))))))))⟩
def l0J (F:RK):SS:=[o 3 (.box (F.p a0i a0h) (t 0)),o 4 (.box b0G (t 1)),o 5 (.box a0G (t 2)),o 6 (.alloc b0H [.int .i64 0,.bool false,.slice none 0 0,.bool false,.slice none 0 0,.slice none 0 0,.slice none 0 0,.slice none 0 0]),o 7 (.mv (i 0))]
def l0K (F:RK):SS:=[lA 16 0 3,lA 17 8 5,o 18 (.call (s0o F) [t 16,t 17] true),o 8 (.alloc (F.p a0w a0t) [.pointer none]),⟨none,none,.store 1 (t 8) (t 18)⟩]
def l0L:SS:=[lD 19 8,cK 20 19,fA 21 1 20,lD 22 21,lD 23 8,cK 24 23,fA 25 1 24,lD 26 25,o 27 (.bin 0 .add (t 26) (i 1)),mV 9 22,mV 10 27]
def l0M (F:RK):SS:=[lD 28 8,mV 29 9,o 30 (.call (u0z F) [t 28,t 29] true)]
def l0N (F:RK):SS:=[lD 31 8,cK 32 31,o 33 (.fa0 (F.p a0d a0c) (t 32)),lA 34 0 33,o 35 (.iface (F.p a0i a0h) (t 34)),lD 36 8,cK 37 36,fA 38 3 37,lD 39 38,mV 40 9,iA 41 1 39 40,lD 42 41,lD 43 8,cK 44 43,fA 45 2 44,lD 46 45,o 47 (.ia F.w (t 42) (t 46)),o 48 (.load F.b F.w (t 47)),o 49 (.inv (t 35) [(a0h,m0B),(a0i,m0C)] [t 48] true),o 50 (.bin 0 .lss (t 49) (i 0))]
def l0O (F:RK):SS:=[o 51 (.call u0A [i 0] false),lD 52 8,mV 53 9,lA 54 8 5,o 55 (.call u0A [i 1] false),o 56 (.call (k0o F) [t 52,t 53,t 54,t 55] false),o 57 (.build [.int .i64 0,.bool false,.slice none 0 0,.bool false,.slice none 0 0,.slice none 0 0,.slice none 0 0,.slice none 0 0] [(0,1,i 2),(1,4,t 51),(6,1,t 56)]),lD 58 8,cK 59 58,o 60 (.fa (F.p 6 7) (t 59)),lD 61 60,⟨none,none,.store 8 (t 6) (t 57)⟩,mV 7 61]
def l0P (F:RK):SS:=[lD 62 8,o 63 (.call (y0B F) [t 62] true)]
def l0Q (F:RK):SS:=[lD 64 8,mV 65 10,o 66 (.call (u0z F) [t 64,t 65] true),mV 11 66]
def l0R (F:RK):SS:=[lD 67 8,o 68 (.mkfn (.func (j0a F)) [] [t 8]),o 69 (.call (k0p F) [t 67,t 68] true),mV 12 69]
def h0U:SS:=[mV 70 11,o 71 (.bin 0 .geq (t 70) (i 0))]
def j0N (F:RK):SS:=[o 72 (.call u0A [i 0] false),mV 73 12,lD 74 8,mV 75 11,o 76 (.call (y0C F) [t 74,t 75] false),o 77 (.build [.int .i64 0,.bool false,.slice none 0 0,.bool false,.slice none 0 0,.slice none 0 0,.slice none 0 0,.slice none 0 0] [(0,1,i 3),(1,4,t 72),(5,1,t 73),(7,1,t 76)]),lD 78 8,cK 79 78,o 80 (.fa (F.p 6 7) (t 79)),lD 81 80,⟨none,none,.store 8 (t 6) (t 77)⟩,mV 7 81]
def j0O:SS:=[o 82 (.call u0A [i 0] true),o 13 (.alloc a0b [.bool false,.slice none 0 0,.bool false,.slice none 0 0]),⟨none,none,.store 4 (t 13) (t 82)⟩]
def j0P:SS:=[fA 83 3 4,lD 84 83,lN 85 84,o 86 (.mv (i 0))]
def r0B:SS:=[o 87 (.bin 0 .lss (t 86) (t 85))]
def j0Q:SS:=[mV 88 86,iA 89 4 84 86,lA 90 4 89,o 15 (.alloc a0b [.bool false,.slice none 0 0,.bool false,.slice none 0 0]),mV 14 88,⟨none,none,.store 4 (t 15) (t 90)⟩]
def j0R:SS:=[lA 91 4 13,lA 92 4 15,mV 93 12,mV 94 14,iA 95 4 93 94,lA 96 4 95,o 97 (.call J0P [t 92,t 96] false),o 98 (.call r0U [t 91,t 97] true),⟨none,none,.store 4 (t 13) (t 98)⟩]
def r0C:SS:=[o 99 (.bin 0 .add (t 86) (i 1)),mV 86 99]
def j0S (F:RK):SS:=[lA 100 4 13,mV 101 12,lD 102 8,mV 103 10,lA 104 8 5,fA 105 4 5,lA 106 4 105,o 107 (.call (k0o F) [t 102,t 103,t 104,t 106] false),o 108 (.build [.int .i64 0,.bool false,.slice none 0 0,.bool false,.slice none 0 0,.slice none 0 0,.slice none 0 0,.slice none 0 0] [(0,1,i 1),(1,4,t 100),(5,1,t 101),(6,1,t 107)]),lD 109 8,cK 110 109,o 111 (.fa (F.p 6 7) (t 110)),lD 112 111,⟨none,none,.store 8 (t 6) (t 108)⟩,mV 7 112]
def f0w (F:RK):SF:=⟨3,113,[.cell 6 true 8,.tmp 7],
 (qS (gR (l0J F)) (qS (gR (l0K F)) (qS (.draw l0L [0,1,3,7,0,16,48,112,240,15,1023] []) (qS (gR (l0M F)) (qS (qS (.draw (l0N F) [0,1,3,7,15,0,32,96,224,0,992,2016,0,4096,12288,28672,65504,131040,262143,524287] []) (.cond (t 50) (qS (.draw (l0O F) [0,0,0,0,1,31,63,0,128,384,896,127,4095] [(7,11),(10,11)]) .ret) .skip)) (qS (gR (l0P F)) (qS (gR (l0Q F)) (qS (gR (l0R F)) (qS (qS (gR h0U) (.cond (t 71) (qS (.draw (j0N F) [0,0,0,0,13,31,0,64,192,448,63,2047] [(6,10),(9,10)]) .ret) .skip)) (qS (gR j0O) (qS (qS (gR j0P) (.block 0 (.loop (qS (gR r0B) (qS (.cond (t 87) .skip (.exit 0)) (qS (.block 1 (qS (gR j0Q) (.draw j0R [0,0,0,0,12,28,62,127,255] []))) (gR r0C))))))) (qS (.draw (j0S F) [0,0,0,0,0,0,32,124,255,0,512,1536,3584,511,16383] [(9,13),(12,13)]) .ret))))))))))))⟩
def g0M (F:RK):SS:=F.p [o 3 (.mv (i 0))] [o 3 (.alloc a0a [.bool false,.slice none 0 0])]
def g0N (F:RK):SS:=[lD 4 1,cK 5 4,fA 6 3 5,lD 7 6,mV 8 0,iA 9 1 7 8,lD 10 9,lD 11 1,cK 12 11,fA 13 2 12,lD 14 13,o 15 (.ia F.w (t 10) (t 14)),o 16 (.load F.b F.w (t 15))] ++ F.p [mV 3 16] [⟨none,none,.store 2 (t 3) (t 16)⟩]
def d0Y (F:RK):SF:=⟨2,17,(F.p [.tmp 3] [.cell 3 true 2]),
 (qS (gR (g0M F)) (qS (.draw (g0N F) [0,1,3,7,0,31,63,0,128,384,896,2047,4095,8191] []) .ret))⟩
def n0s:SS:=[o 6 (.box a0G (t 2)),o 7 (.box a0b (t 3)),o 8 (.mv (.const (.slice none 0 0)))]
def n0t:SS:=[o 9 (.mv (.const (.slice none 0 0)))]
def n0u:SS:=[mV 13 0,cK 14 13,fA 15 1 14,lD 16 15,o 17 (.mv (i 0))]
def x0k:SS:=[o 18 (.bin 0 .lss (t 17) (t 16))]
def n0v:SS:=[mV 19 17,mV 10 19]
def n0w (F:RK):SS:=[mV 21 0,mV 22 0,cK 23 22,fA 24 3 23,lD 25 24,mV 26 1,iA 27 1 25 26,lD 28 27,mV 29 0,cK 30 29,fA 31 0 30,lD 32 31,o 33 (.bin 0 .mul (i 2) (t 32)),mV 34 10,o 35 (.bin 0 .add (t 33) (t 34)),o 36 (.ia F.w (t 28) (t 35)),o 37 (.load F.b F.w (t 36)),o 38 (.call (F.p q0K q0J) [t 21,t 37] false),fA 39 2 6,lD 40 39,mV 41 10,iA 42 4 40 41,lA 43 4 42,o 44 (.call J0P [t 38,t 43] false),lA 45 4 7,o 46 (.call y0J [t 44,t 45] false),mV 20 46,o 47 (.ext (t 20) 0),o 48 (.ext (t 20) 1),o 11 (.alloc a0b [.bool false,.slice none 0 0,.bool false,.slice none 0 0]),⟨none,none,.store 4 (t 11) (t 47)⟩,mV 12 48]
def n0x:SS:=[mV 49 9,lA 50 4 11,o 51 (.lit a0b [.bool false,.slice none 0 0,.bool false,.slice none 0 0] 1 [(0,4,t 50)]),o 52 (.app a0b 4 64 (t 49) (t 51)),mV 9 52]
def x0l:SS:=[o 53 (.bin 0 .add (t 17) (i 1)),mV 17 53]
def n0y:SS:=[mV 54 9,mV 8 54]
def h0m (F:RK):SF:=⟨4,55,[.tmp 8],
 (qS (gR n0s) (qS (gR n0t) (qS (qS (gR n0u) (.block 0 (.loop (qS (gR x0k) (qS (.cond (t 18) .skip (.exit 0)) (qS (.block 1 (qS (gR n0v) (qS (.draw (n0w F) [0,0,2,6,14,0,62,126,0,256,768,1792,3840,0,16128,32766,65534,131071,0,262144,0,1835008,3932160,8388607,0,33554431,67108863,134217727,134217727,0,805306367,2147483647] []) (gR n0x)))) (gR x0l))))))) (qS (gR n0y) .ret))))⟩
def l0t:SS:=[o 4 (.mv (i 0))]
def l0u:SS:=[o 5 (.mv (.const (.int .i64 (-1))))]
def l0v:SS:=[mV 8 0,cK 9 8,fA 10 1 9,lD 11 10,o 12 (.mv (i 0))]
def s0P:SS:=[o 13 (.bin 0 .lss (t 12) (t 11))]
def l0w:SS:=[mV 14 12,mV 6 14]
def l0x (F:RK):SS:=[mV 15 0,cK 16 15,o 17 (.fa0 (F.p a0d a0c) (t 16)),lA 18 0 17,o 19 (.iface (F.p a0i a0h) (t 18)),mV 20 0,cK 21 20,fA 22 3 21,lD 23 22,mV 24 6,iA 25 1 23 24,lD 26 25,mV 27 1,o 28 (.ia F.w (t 26) (t 27)),o 29 (.load F.b F.w (t 28)),o 30 (.inv (t 19) [(a0h,m0B),(a0i,m0C)] [t 29] true),o 31 (.bin 0 .leq (t 30) (i 0))]
def l0y:SS:=[mV 32 5,o 33 (.bin 0 .lss (t 32) (i 0))]
def l0z:SS:=[mV 34 6,mV 5 34]
def l0A (F:RK):SS:=[mV 35 0,cK 36 35,o 37 (.fa0 (F.p a0d a0c) (t 36)),lA 38 0 37,o 39 (.iface (F.p a0i a0h) (t 38)),mV 40 0,cK 41 40,fA 42 3 41,lD 43 42,mV 44 6,iA 45 1 43 44,lD 46 45,mV 47 0,cK 48 47,fA 49 2 48,lD 50 49,o 51 (.ia F.w (t 46) (t 50)),o 52 (.load F.b F.w (t 51)),mV 53 0,cK 54 53,fA 55 3 54,lD 56 55,mV 57 5,iA 58 1 56 57,lD 59 58,mV 60 1,o 61 (.ia F.w (t 59) (t 60)),o 62 (.load F.b F.w (t 61)),mV 63 0,cK 64 63,fA 65 3 64,lD 66 65,mV 67 5,iA 68 1 66 67,lD 69 68,mV 70 0,cK 71 70,fA 72 2 71,lD 73 72,o 74 (.ia F.w (t 69) (t 73)),o 75 (.load F.b F.w (t 74)),mV 76 0,cK 77 76,fA 78 3 77,lD 79 78,mV 80 6,iA 81 1 79 80,lD 82 81,mV 83 1,o 84 (.ia F.w (t 82) (t 83)),o 85 (.load F.b F.w (t 84)),o 86 (.inv (t 39) [(a0h,w0K),(a0i,w0L)] [t 52,t 62,t 75,t 85] true),mV 7 86]
def f0Q (F:RK):SS:=[mV 87 7,o 88 (.bin 0 .lss (t 87) (i 0)),mV 89 88,og 90 89 false (.mv (t 7)),og 91 89 false (.bin 0 .eql (t 90) (i 0)),og 92 89 false (.mv (t 91)),og 93 92 true (.mv (t 0)),og 94 92 true (.chk (t 93)),og 95 92 true (.fa (F.p 5 6) (t 94)),og 96 92 true (.load false 1 (t 95)),og 97 92 true (.mv (t 6)),og 98 92 true (.ia 1 (t 96) (t 97)),og 99 92 true (.load false 1 (t 98)),og 100 92 true (.mv (t 0)),og 101 92 true (.chk (t 100)),og 102 92 true (.fa (F.p 5 6) (t 101)),og 103 92 true (.load false 1 (t 102)),og 104 92 true (.mv (t 5)),og 105 92 true (.ia 1 (t 103) (t 104)),og 106 92 true (.load false 1 (t 105)),og 107 92 true (.bin 0 .lss (t 99) (t 106)),og 108 89 false (.pick (t 92) (t 107) (.const (.bool false))),o 109 (.pick (t 89) (.const (.bool true)) (t 108))]
def g0J:SS:=[mV 110 6,mV 5 110]
def r0r:SS:=[o 111 (.bin 0 .add (t 12) (i 1)),mV 12 111]
def j0M:SS:=[mV 112 5,mV 4 112]
def f0v (F:RK):SF:=⟨2,113,[.tmp 4],
 (qS (gR l0t) (qS (gR l0u) (qS (qS (gR l0v) (.block 0 (.loop (qS (gR s0P) (qS (.cond (t 13) .skip (.exit 0)) (qS (.block 1 (qS (gR l0w) (qS (qS (.draw (l0x F) [0,1,3,7,15,0,32,96,224,0,992,2016,0,8160,16352,32767,65535] []) (.cond (t 31) (.exit 1) .skip)) (qS (qS (gR l0y) (.cond (t 33) (qS (gR l0z) (.exit 1)) .skip)) (qS (.draw (l0A F) [0,1,3,7,15,0,32,96,224,0,992,2016,0,4096,12288,28672,65504,131040,0,262144,786432,1835008,0,8126464,16515072,0,66846720,133955584,0,268435456,805306368,1879048192,0,8321499136,16911433728,0,34359738368,103079215104,240518168576,549487378432,1099243192320,0,2199023255552,6597069766656,15393162788864,0,68169720922112,138538465099776,0,560750930165760,1123700883587072,2251799813685247,4503599627370495] []) (qS (.draw (f0Q F) [0,1,3,7,15,31,63,127,255,511,63,2047,4095,63,8255,24639,57407,63,254015,516159,1048575,2097151,4194303] []) (.cond (t 109) (gR g0J) .skip))))))) (gR r0r))))))) (qS (gR j0M) .ret))))⟩
def u0X:SS:=[mV 7 0,cK 8 7,fA 9 1 8,lD 10 9,o 11 (.mv (i 0))]
def H0S:SS:=[o 12 (.bin 0 .lss (t 11) (t 10))]
def u0Y:SS:=[mV 13 11,mV 2 13]
def p0j (F:RK):SS:=[mV 14 0,cK 15 14,o 16 (.fa (F.p 5 6) (t 15)),lD 17 16,mV 18 2,iA 19 1 17 18,lD 20 19,mV 21 0,cK 22 21,fA 23 2 22,lD 24 23,o 25 (.bin 0 .lss (t 20) (t 24))]
def u0Z:SS:=[mV 26 0,cK 27 26,fA 28 2 27,lD 29 28,o 30 (.mv (i 0))]
def H0T:SS:=[o 31 (.bin 0 .lss (t 30) (t 29))]
def v0a:SS:=[mV 32 30,mV 3 32]
def v0b (F:RK):SS:=[mV 33 0,cK 34 33,o 35 (.fa0 (F.p a0d a0c) (t 34)),lA 36 0 35,o 37 (.iface (F.p a0i a0h) (t 36)),mV 38 0,cK 39 38,fA 40 3 39,lD 41 40,mV 42 2,iA 43 1 41 42,lD 44 43,mV 45 3,o 46 (.ia F.w (t 44) (t 45)),o 47 (.load F.b F.w (t 46)),o 48 (.inv (t 37) [(a0h,m0B),(a0i,m0C)] [t 47] true),mV 4 48]
def k0s:SS:=[mV 49 4,o 50 (.bin 0 .eql (t 49) (i 0))]
def p0k:SS:=[mV 51 4,o 52 (.bin 0 .lss (t 51) (i 0))]
def r0z:SS:=[mV 53 0,cK 54 53,fA 55 3 54,lD 56 55,mV 57 2,iA 58 1 56 57,lD 59 58,lN 60 59,o 61 (.mv (i 0))]
def A0c:SS:=[o 62 (.bin 0 .lss (t 61) (t 60))]
def i0G (F:RK):SS:=[mV 63 61,o 64 (.ia F.w (t 59) (t 61)),o 65 (.load F.b F.w (t 64))] ++ F.p [] [o 6 (.alloc a0a [.bool false,.slice none 0 0])] ++ [mV 5 63] ++ F.p [mV 6 65] [⟨none,none,.store 2 (t 6) (t 65)⟩]
def r0A (F:RK):SS:=[mV 66 0,cK 67 66,fA 68 3 67,lD 69 68,mV 70 2,iA 71 1 69 70,lD 72 71,mV 73 5,mV 74 0,cK 75 74,o 76 (.fa0 (F.p a0d a0c) (t 75)),lA 77 0 76,o 78 (.iface (F.p a0i a0h) (t 77))] ++ F.p [mV 79 6] [lA 79 2 6] ++ [o 80 (.inv (t 78) [(a0h,k0V),(a0i,k0W)] [t 79] false),o 81 (.ia F.w (t 72) (t 73)),⟨none,none,.store F.w (t 81) (t 80)⟩]
def A0d:SS:=[o 82 (.bin 0 .add (t 61) (i 1)),mV 61 82]
def l0B (F:RK):SS:=[mV 83 0,mV 84 2,mV 85 3,o 86 (.call (F.p s0t s0s) [t 83,t 84,t 85] true)]
def A0e:SS:=[o 87 (.bin 0 .add (t 30) (i 1)),mV 30 87]
def A0f:SS:=[o 88 (.bin 0 .add (t 11) (i 1)),mV 11 88]
def o0c (F:RK):SF:=⟨1,89,[],
 (qS (gR u0X) (.block 0 (.loop (qS (gR H0S) (qS (.cond (t 12) .skip (.exit 0)) (qS (.block 1 (qS (gR u0Y) (qS (qS (.draw (p0j F) [0,1,3,7,0,31,63,0,128,384,896,2047] []) (.cond (t 25) (.exit 1) .skip)) (qS (gR u0Z) (.block 2 (.loop (qS (gR H0T) (qS (.cond (t 31) .skip (.exit 2)) (qS (.block 3 (qS (gR v0a) (qS (.draw (v0b F) [0,1,3,7,15,0,32,96,224,0,992,2016,0,8160,16352,32767,65535] []) (qS (qS (gR k0s) (.cond (t 50) (.exit 3) .skip)) (qS (qS (gR p0k) (.cond (t 52) (qS (gR r0z) (.block 4 (.loop (qS (gR A0c) (qS (.cond (t 62) .skip (.exit 4)) (qS (.block 5 (qS (gR (i0G F)) (.draw (r0A F) [0,1,3,7,0,31,63,0,0,256,768,1792,3840,0,16128,32767,65535] []))) (gR A0d))))))) .skip)) (qS (gR (l0B F)) (.exit 2))))))) (gR A0e)))))))))) (gR A0f)))))))⟩
def n0S:SS:=[o 4 (.mv (.const (.slice none 0 0)))]
def n0T:SS:=[mV 9 0,cK 10 9,fA 11 0 10,lD 12 11,o 13 (.mk a0b 64 [.bool false,.slice none 0 0,.bool false,.slice none 0 0] (t 12) (t 12)),mV 5 13]
def n0U:SS:=[mV 14 5,lN 15 14,o 16 (.mv (i 0))]
def x0t:SS:=[o 17 (.bin 0 .lss (t 16) (t 15))]
def n0V:SS:=[mV 18 16,mV 6 18]
def n0W:SS:=[mV 19 5,mV 20 6,o 21 (.call u0A [i 0] true),iA 22 4 19 20,⟨none,none,.store 4 (t 22) (t 21)⟩]
def x0u:SS:=[o 23 (.bin 0 .add (t 16) (i 1)),mV 16 23]
def n0X (F:RK):SS:=[mV 24 0,cK 25 24,o 26 (.fa (F.p 5 6) (t 25)),lD 27 26,lN 28 27,o 29 (.mv (i 0))]
def x0v:SS:=[o 30 (.bin 0 .lss (t 29) (t 28))]
def n0Y:SS:=[mV 31 29,iA 32 1 27 29,lD 33 32,mV 7 31,mV 8 33]
def l0C:SS:=[mV 35 8,mV 36 0,cK 37 36,fA 38 0 37,lD 39 38,o 40 (.bin 0 .lss (t 35) (t 39)),mV 34 40]
def l0D (F:RK):SS:=[mV 41 5,mV 42 8,mV 43 5,mV 44 8,iA 45 4 43 44,lA 46 4 45,mV 47 0,mV 48 1,mV 49 7,o 50 (.callv (t 48) [t 49] false),o 51 (.call (F.p q0K q0J) [t 47,t 50] false),o 52 (.call r0U [t 46,t 51] true),iA 53 4 41 42,⟨none,none,.store 4 (t 53) (t 52)⟩]
def l0E:SS:=[mV 55 8,mV 56 0,cK 57 56,fA 58 0 57,lD 59 58,o 60 (.bin 0 .mul (i 2) (t 59)),o 61 (.bin 0 .lss (t 55) (t 60)),mV 54 61]
def l0F (F:RK):SS:=[mV 62 5,mV 63 8,mV 64 0,cK 65 64,fA 66 0 65,lD 67 66,o 68 (.bin 0 .sub (t 63) (t 67)),mV 69 5,mV 70 8,mV 71 0,cK 72 71,fA 73 0 72,lD 74 73,o 75 (.bin 0 .sub (t 70) (t 74)),iA 76 4 69 75,lA 77 4 76,mV 78 0,mV 79 1,mV 80 7,o 81 (.callv (t 79) [t 80] false),o 82 (.call (F.p q0K q0J) [t 78,t 81] false),o 83 (.call w0H [t 77,t 82] false),iA 84 4 62 68,⟨none,none,.store 4 (t 84) (t 83)⟩]
def s0Q:SS:=[o 85 (.bin 0 .add (t 29) (i 1)),mV 29 85]
def l0G:SS:=[mV 86 5,mV 4 86]
def h0n (F:RK):SF:=⟨2,87,[.tmp 4],
 (qS (gR n0S) (qS (gR n0T) (qS (qS (gR n0U) (.block 0 (.loop (qS (gR x0t) (qS (.cond (t 17) .skip (.exit 0)) (qS (.block 1 (qS (gR n0V) (gR n0W))) (gR x0u))))))) (qS (qS (gR (n0X F)) (.block 2 (.loop (qS (gR x0v) (qS (.cond (t 30) .skip (.exit 2)) (qS (.block 3 (qS (gR n0Y) (.block 4 (qS (gR l0C) (.cond (t 34) (.draw (l0D F) [0,0,0,0,12,28,0,0,0,384,960,2044,4095,8191] []) (qS (gR l0E) (.cond (t 54) (.draw (l0F F) [0,0,0,4,12,28,62,0,0,0,512,1536,3584,7936,16256,32640,0,0,0,393216,983040,2097024,4194303,8388607] []) .skip))))))) (gR s0Q))))))) (qS (gR l0G) .ret)))))⟩
def v0c (F:RK):SS:=[o 2 (.box (F.p a0w a0t) (t 0)),o 3 (.box e0l (t 1)),o 4 (.mv (.const (.slice none 0 0)))]
def v0d (F:RK):SS:=[lD 6 2,o 7 (.mkfn (.func (s0p F)) [] [t 2,t 3]),o 8 (.call (k0p F) [t 6,t 7] true),mV 5 8]
def v0e:SS:=[lD 10 3,lD 11 2,cK 12 11,fA 13 0 12,lD 14 13,o 15 (.bin 0 .lss (t 10) (t 14)),mV 9 15]
def v0f:SS:=[mV 16 5,lD 17 3,mV 18 5,lD 19 3,iA 20 4 18 19,lA 21 4 20,o 22 (.call u0A [i 1] false),o 23 (.call r0U [t 21,t 22] false),iA 24 4 16 17,⟨none,none,.store 4 (t 24) (t 23)⟩]
def v0g:SS:=[lD 26 3,lD 27 2,cK 28 27,fA 29 0 28,lD 30 29,o 31 (.bin 0 .mul (i 2) (t 30)),o 32 (.bin 0 .lss (t 26) (t 31)),mV 25 32]
def v0h:SS:=[mV 33 5,lD 34 3,lD 35 2,cK 36 35,fA 37 0 36,lD 38 37,o 39 (.bin 0 .sub (t 34) (t 38)),mV 40 5,lD 41 3,lD 42 2,cK 43 42,fA 44 0 43,lD 45 44,o 46 (.bin 0 .sub (t 41) (t 45)),iA 47 4 40 46,lA 48 4 47,o 49 (.call u0A [i 1] false),o 50 (.call w0H [t 48,t 49] false),iA 51 4 33 39,⟨none,none,.store 4 (t 51) (t 50)⟩]
def k0t:SS:=[mV 52 5,mV 4 52]
def o0d (F:RK):SF:=⟨2,53,[.tmp 4],
 (qS (gR (v0c F)) (qS (gR (v0d F)) (qS (.block 0 (qS (.draw v0e [0,0,2,6,14,31,63] []) (.cond (t 9) (.draw v0f [0,0,0,0,12,28,0,124,255,511] []) (qS (.draw v0g [0,0,2,6,14,30,63,127] []) (.cond (t 25) (.draw v0h [0,0,0,4,12,28,62,0,0,0,512,1536,3584,7936,16256,32640,0,130944,262143,524287] []) .skip))))) (qS (gR k0t) .ret))))⟩
def l0H (F:RK):SS:=F.p [o 4 (.mv (i 0))] [o 4 (.alloc a0a [.bool false,.slice none 0 0])]
def l0I (F:RK):SS:=[lD 5 1,cK 6 5,o 7 (.fa0 (F.p a0d a0c) (t 6)),lA 8 0 7,o 9 (.iface (F.p a0i a0h) (t 8)),lD 10 1,cK 11 10,fA 12 3 11,lD 13 12,mV 14 0,iA 15 1 13 14,lD 16 15,lD 17 2,o 18 (.ia F.w (t 16) (t 17)),o 19 (.load F.b F.w (t 18)),o 20 (.inv (t 9) [(a0h,k0V),(a0i,k0W)] [t 19] true)] ++ F.p [mV 4 20] [⟨none,none,.store 2 (t 4) (t 20)⟩]
def h0V (F:RK):SF:=⟨3,21,(F.p [.tmp 4] [.cell 4 true 2]),
 (qS (gR (l0H F)) (qS (.draw (l0I F) [0,1,3,7,15,0,32,96,224,0,992,2016,0,8160,16352,32767,65535] []) .ret))⟩
def v0i:SS:=[o 4 (.mv (i 0))]
def v0j:SS:=[o 5 (.mv (i 0))]
def p0l (F:RK):SS:=[mV 7 5,mV 8 0,cK 9 8,fA 10 2 9,lD 11 10,o 12 (.bin 0 .lss (t 7) (t 11)),mV 13 12,og 14 13 true (.mv (t 0)),og 15 13 true (.chk (t 14)),og 16 13 true (.fa0 (F.p a0d a0c) (t 15)),og 17 13 true (.load true 0 (t 16)),og 18 13 true (.iface (F.p a0i a0h) (t 17)),og 19 13 true (.mv (t 0)),og 20 13 true (.chk (t 19)),og 21 13 true (.fa 3 (t 20)),og 22 13 true (.load false 1 (t 21)),og 23 13 true (.mv (t 1)),og 24 13 true (.ia 1 (t 22) (t 23)),og 25 13 true (.load false 1 (t 24)),og 26 13 true (.mv (t 5)),og 27 13 true (.ia F.w (t 25) (t 26)),og 28 13 true (.load F.b F.w (t 27)),og 29 13 true (.inv (t 18) [(a0h,m0B),(a0i,m0C)] [t 28] true),og 30 13 true (.bin 0 .geq (t 29) (i 0)),o 31 (.pick (t 13) (t 30) (.const (.bool false)))]
def v0k:SS:=[mV 32 5,o 33 (.bin 0 .add (t 32) (i 1)),mV 5 33]
def p0m:SS:=[mV 34 5,mV 35 0,cK 36 35,fA 37 2 36,lD 38 37,o 39 (.bin 0 .eql (t 34) (t 38))]
def v0l:SS:=[o 4 (.mv (.const (.int .i64 (-1))))]
def v0m (F:RK):SS:=[mV 40 0,mV 41 5,o 42 (.call (k0S F) [t 40,t 41] true),mV 6 42]
def p0n:SS:=[mV 43 6,o 44 (.bin 0 .lss (t 43) (i 0))]
def v0n:SS:=[mV 45 5,mV 4 45]
def v0o (F:RK):SS:=[mV 46 0,mV 47 6,mV 48 5,o 49 (.call (F.p s0t s0s) [t 46,t 47,t 48] true)]
def o0e (F:RK):SF:=⟨2,50,[.tmp 4],
 (qS (gR v0i) (.block 0 (.loop (.block 1 (qS (gR v0j) (qS (.block 2 (.loop (qS (qS (.draw (p0l F) [0,0,2,6,14,31,63,127,255,511,1023,2047,127,4223,12415,28799,127,127103,258175,127,1044607,2093183,4194303,8388607,16777215] []) (.cond (t 31) .skip (.exit 2))) (.block 3 (gR v0k))))) (qS (qS (gR p0m) (.cond (t 39) (qS (gR v0l) .ret) .skip)) (qS (gR (v0m F)) (qS (qS (gR p0n) (.cond (t 44) (qS (gR v0n) .ret) .skip)) (gR (v0o F)))))))))))⟩
def s0j:List (Nat × u0g):=[
 (f_3,s_3),
 (f_7,s_7),
 (f_8,s_8),
 (T0s,W0l),
 (P0L,W0m),
 (H0m,W0n),
 (T0t,W0o),
 (T0u,V0l),
 (Q0e,W0p),
 (J0M,W0q),
 (R0R,W0r),
 (Q0f,W0s),
 (T0v,W0t),
 (T0w,W0u),
 (R0S,W0v),
 (R0T,W0w),
 (R0U,W0x),
 (T0x,W0y),
 (T0y,W0z),
 (T0z,W0A),
 (J0N,W0B),
 (R0V,W0C),
 (T0A,W0D),
 (T0B,W0E),
 (R0W,W0F),
 (T0C,W0G),
 (Q0g,W0H),
 (R0X,W0I),
 (T0D,W0J),
 (R0Y,W0K),
 (R0Z,W0L),
 (T0E,W0M),
 (T0F,W0N),
 (T0G,W0O),
 (T0H,W0P),
 (T0I,W0Q),
 (T0J,W0R),
 (T0K,W0S),
 (T0L,W0T),
 (r0U,W0U),
 (S0a,W0V),
 (T0M,W0W),
 (T0N,W0X),
 (S0b,W0Y),
 (T0O,W0Z),
 (T0P,X0a),
 (T0Q,X0b),
 (u0A,X0c),
 (S0c,X0d),
 (J0O,X0e),
 (H0n,X0f),
 (J0P,X0g),
 (T0R,X0h),
 (T0S,X0i),
 (T0T,X0j),
 (V0Y,f0w .all),
 (y0U,X0k),
 (S0d,X0l),
 (T0U,X0m),
 (y0V,X0n),
 (q0N,X0o),
 (s0q,I0i),
 (y0D,I0j),
 (y0E,I0k),
 (j0b,I0l),
 (s0r,I0m),
 (y0F,I0n),
 (g0f,I0o),
 (d0V,I0p),
 (f0D,I0q),
 (y0G,I0r),
 (w0B,I0s),
 (w0C,I0t),
 (q0F,f0w .few),
 (P0M,j0u .all),
 (P0N,o0e .all),
 (P0O,h0m .all),
 (P0P,o0c .all),
 (P0Q,h0n .all),
 (P0R,d0Y .all),
 (P0S,o0d .all),
 (w0D,I0u),
 (o0C,I0v),
 (y0H,I0w),
 (q0G,I0x),
 (w0E,I0y),
 (f0E,I0z),
 (q0H,I0A),
 (w0F,I0B),
 (m0y,I0C),
 (q0I,I0D),
 (y0I,I0E),
 (k0U,I0F),
 (P0T,j0u .few),
 (P0U,o0e .few),
 (P0V,h0m .few),
 (P0W,o0c .few),
 (P0X,h0n .few),
 (P0Y,d0Y .few),
 (P0Z,o0d .few),
 (m0z,I0G),
 (w0G,I0H),
 (Q0a,f0v .all),
 (s0s,I0I),
 (y0J,I0J),
 (q0J,I0K),
 (w0H,I0L),
 (Q0b,h0V .all),
 (y0K,I0M),
 (y0L,I0N),
 (y0M,I0O),
 (y0N,I0P),
 (m0A,I0Q),
 (w0I,I0R),
 (Q0c,f0v .few),
 (s0t,I0S),
 (q0K,I0T),
 (Q0d,h0V .few),
 (y0O,I0U),
 (w0J,I0V),
 (y0P,I0W),
 (y0Q,I0X),
 (y0R,I0Y),
 (w0K,I0Z),
 (k0V,J0a),
 (q0L,J0b),
 (j0c,J0c),
 (m0B,J0d),
 (o0D,J0e),
 (y0S,J0f),
 (w0L,J0g),
 (k0W,J0h),
 (q0M,J0i),
 (i0n,G0h),
 (m0C,J0j),
 (o0E,J0k),
 (w0M,J0l),
 (y0T,J0m),
 (s0u,G0i)]
def o0t:List (Nat × u0g):=[(f_9,s_9)]
def env:Env:=⟨fun f=>(s0j ++ o0t).lookup f,some ⟨H0o,q0F,[.int .i64 0,.bool false,.slice none 0 0,.bool false,.slice none 0 0,.slice none 0 0,.slice none 0 0,.slice none 0 0],4,8⟩,[]⟩
theorem e_3:env.code f_3=some s_3:=rfl
theorem e_7:env.code f_7=some s_7:=rfl
theorem e_8:env.code f_8=some s_8:=rfl
theorem a1B:env.code T0s=some W0l:=rfl
theorem a1C:env.code P0L=some W0m:=rfl
theorem a1D:env.code H0m=some W0n:=rfl
theorem a1E:env.code T0t=some W0o:=rfl
theorem a1F:env.code T0u=some V0l:=rfl
theorem a1G:env.code Q0e=some W0p:=rfl
theorem a1H:env.code J0M=some W0q:=rfl
theorem a1I:env.code R0R=some W0r:=rfl
theorem a1J:env.code Q0f=some W0s:=rfl
theorem a1K:env.code T0v=some W0t:=rfl
theorem a1L:env.code T0w=some W0u:=rfl
theorem a1M:env.code R0S=some W0v:=rfl
theorem a1N:env.code R0T=some W0w:=rfl
theorem a1O:env.code R0U=some W0x:=rfl
theorem a1P:env.code T0x=some W0y:=rfl
theorem a1Q:env.code T0y=some W0z:=rfl
theorem a1R:env.code T0z=some W0A:=rfl
theorem a1S:env.code J0N=some W0B:=rfl
theorem a1T:env.code R0V=some W0C:=rfl
theorem a1U:env.code T0A=some W0D:=rfl
theorem a1V:env.code T0B=some W0E:=rfl
theorem a1W:env.code R0W=some W0F:=rfl
theorem a1X:env.code T0C=some W0G:=rfl
theorem a1Y:env.code Q0g=some W0H:=rfl
theorem a1Z:env.code R0X=some W0I:=rfl
theorem b1a:env.code T0D=some W0J:=rfl
theorem b1b:env.code R0Y=some W0K:=rfl
theorem b1c:env.code R0Z=some W0L:=rfl
theorem b1d:env.code T0E=some W0M:=rfl
theorem b1e:env.code T0F=some W0N:=rfl
theorem b1f:env.code T0G=some W0O:=rfl
theorem b1g:env.code T0H=some W0P:=rfl
theorem b1h:env.code T0I=some W0Q:=rfl
theorem b1i:env.code T0J=some W0R:=rfl
theorem b1j:env.code T0K=some W0S:=rfl
theorem b1k:env.code T0L=some W0T:=rfl
theorem b1l:env.code r0U=some W0U:=rfl
theorem b1m:env.code S0a=some W0V:=rfl
theorem b1n:env.code T0M=some W0W:=rfl
theorem b1o:env.code T0N=some W0X:=rfl
theorem b1p:env.code S0b=some W0Y:=rfl
theorem b1q:env.code T0O=some W0Z:=rfl
theorem b1r:env.code T0P=some X0a:=rfl
theorem b1s:env.code T0Q=some X0b:=rfl
theorem b1t:env.code u0A=some X0c:=rfl
theorem b1u:env.code S0c=some X0d:=rfl
theorem b1v:env.code J0O=some X0e:=rfl
theorem b1w:env.code H0n=some X0f:=rfl
theorem b1x:env.code J0P=some X0g:=rfl
theorem b1y:env.code T0R=some X0h:=rfl
theorem b1z:env.code T0S=some X0i:=rfl
theorem b1A:env.code T0T=some X0j:=rfl
theorem y0y {F:RK}:env.code (k0T F)=some (f0w F):=by cases F <;> rfl
theorem b1B:env.code y0U=some X0k:=rfl
theorem b1C:env.code S0d=some X0l:=rfl
theorem b1D:env.code T0U=some X0m:=rfl
theorem b1E:env.code y0V=some X0n:=rfl
theorem b1F:env.code q0N=some X0o:=rfl
theorem Y0r:env.code s0q=some I0i:=rfl
theorem Y0s:env.code y0D=some I0j:=rfl
theorem Y0t:env.code y0E=some I0k:=rfl
theorem Y0u:env.code j0b=some I0l:=rfl
theorem Y0v:env.code s0r=some I0m:=rfl
theorem Y0w:env.code y0F=some I0n:=rfl
theorem Y0x:env.code g0f=some I0o:=rfl
theorem Y0y:env.code d0V=some I0p:=rfl
theorem Y0z:env.code f0D=some I0q:=rfl
theorem Y0A:env.code y0G=some I0r:=rfl
theorem Y0B:env.code w0B=some I0s:=rfl
theorem Y0C:env.code w0C=some I0t:=rfl
theorem P0H {F:RK}:env.code (s0o F)=some (j0u F):=by cases F <;> rfl
theorem T0n {F:RK}:env.code (u0z F)=some (o0e F):=by cases F <;> rfl
theorem H0j {F:RK}:env.code (k0o F)=some (h0m F):=by cases F <;> rfl
theorem T0l {F:RK}:env.code (y0B F)=some (o0c F):=by cases F <;> rfl
theorem H0k {F:RK}:env.code (k0p F)=some (h0n F):=by cases F <;> rfl
theorem w0z {F:RK}:env.code (j0a F)=some (d0Y F):=by cases F <;> rfl
theorem T0m {F:RK}:env.code (y0C F)=some (o0d F):=by cases F <;> rfl
theorem Y0D:env.code w0D=some I0u:=rfl
theorem Y0E:env.code o0C=some I0v:=rfl
theorem Y0F:env.code y0H=some I0w:=rfl
theorem Y0G:env.code q0G=some I0x:=rfl
theorem Y0H:env.code w0E=some I0y:=rfl
theorem Y0I:env.code f0E=some I0z:=rfl
theorem Y0J:env.code q0H=some I0A:=rfl
theorem Y0K:env.code w0F=some I0B:=rfl
theorem Y0L:env.code m0y=some I0C:=rfl
theorem Y0M:env.code q0I=some I0D:=rfl
theorem Y0N:env.code y0I=some I0E:=rfl
theorem Y0O:env.code k0U=some I0F:=rfl
theorem Y0P:env.code m0z=some I0G:=rfl
theorem Y0Q:env.code w0G=some I0H:=rfl
theorem y0x {F:RK}:env.code (k0S F)=some (f0v F):=by cases F <;> rfl
theorem Y0R:env.code s0s=some I0I:=rfl
theorem Y0S:env.code y0J=some I0J:=rfl
theorem Y0T:env.code q0J=some I0K:=rfl
theorem Y0U:env.code w0H=some I0L:=rfl
theorem P0I {F:RK}:env.code (s0p F)=some (h0V F):=by cases F <;> rfl
theorem Y0V:env.code y0K=some I0M:=rfl
theorem Y0W:env.code y0L=some I0N:=rfl
theorem Y0X:env.code y0M=some I0O:=rfl
theorem Y0Y:env.code y0N=some I0P:=rfl
theorem Y0Z:env.code m0A=some I0Q:=rfl
theorem Z0a:env.code w0I=some I0R:=rfl
theorem Z0b:env.code s0t=some I0S:=rfl
theorem Z0c:env.code q0K=some I0T:=rfl
theorem Z0d:env.code y0O=some I0U:=rfl
theorem Z0e:env.code w0J=some I0V:=rfl
theorem Z0f:env.code y0P=some I0W:=rfl
theorem Z0g:env.code y0Q=some I0X:=rfl
theorem Z0h:env.code y0R=some I0Y:=rfl
theorem Z0i:env.code w0K=some I0Z:=rfl
theorem Z0j:env.code k0V=some J0a:=rfl
theorem Z0k:env.code q0L=some J0b:=rfl
theorem Z0l:env.code j0c=some J0c:=rfl
theorem Z0m:env.code m0B=some J0d:=rfl
theorem Z0n:env.code o0D=some J0e:=rfl
theorem Z0o:env.code y0S=some J0f:=rfl
theorem Z0p:env.code w0L=some J0g:=rfl
theorem Z0q:env.code k0W=some J0h:=rfl
theorem Z0r:env.code q0M=some J0i:=rfl
theorem T0o:env.code i0n=some G0h:=rfl
theorem Z0s:env.code m0C=some J0j:=rfl
theorem Z0t:env.code o0E=some J0k:=rfl
theorem Z0u:env.code w0M=some J0l:=rfl
theorem Z0v:env.code y0T=some J0m:=rfl
theorem T0p:env.code s0u=some G0i:=rfl
theorem e_9:env.code f_9=some s_9:=rfl
end
section
open Go
variable {E:Env} {fl:Nat} {t:a0W} {H G:a0e} {K:m0q} {R:a0u}
def Sl (H:a0e) (e sz:Nat) (v:Value) (n:Nat) (cs:List Value):Prop :=
 cs.length=n * sz∧((v=.slice none 0 0∧n=0) ∨
  ∃ b off cap ro cells,v=.slice (some ⟨b,off,none⟩) n cap∧H.blk b=.row ro e cells∧off + n * sz≤cells.length∧cs=(cells.drop off).take (n * sz))
variable {e sz n:Nat} {v:Value} {cs:List Value}
theorem Sl.mono (h:Sl H e sz v n cs) (hx:Ext H G):Sl G e sz v n cs:=by
 obtain ⟨hl,h⟩:=h
 refine ⟨hl,?_⟩
 rcases h with h | ⟨b,off,cap,ro,cells,h1,h2,h3,h4⟩
 ·exact .inl h
 ·exact .inr ⟨b,off,cap,ro,cells,h1,hx.blk h2,h3,h4⟩
theorem Sl.nil:Sl H e sz (.slice none 0 0) 0 []:=⟨by simp,.inl ⟨rfl,rfl⟩⟩
theorem Sl.slen (h:Sl H e sz v n cs):g0Q v=some (.int .i64 n):=by
 obtain ⟨_,⟨rfl,rfl⟩ | ⟨b,off,cap,ro,cells,rfl,_⟩⟩:=h <;> simp [g0Q]
theorem Sl.ia (h:Sl H e sz v n cs) {k:IntKind} {j:Nat} (hj:j < n):iaV sz v (.int k j)=some (adr sz v j):=by
 obtain ⟨_,⟨rfl,rfl⟩ | ⟨b,off,cap,ro,cells,rfl,_⟩⟩:=h
 ·omega
 ·simp only [iaV,adr];rw [b1W (by omega)];simp
theorem Sl.iaZ (h:Sl H e sz v n cs) {k:IntKind} {z:Int} (h0:0≤z) (hj:z < n):iaV sz v (.int k z)=some (adr sz v z.toNat):=by
 have:=h.ia (k:=k) (j:=z.toNat) (by omega)
 rwa [d1Y h0] at this
theorem Sl.load (h:Sl H e sz v n cs) (hx:Ext H G) {j:Nat} (hj:j < n) (hs:0 < sz):b0q G true sz (adr sz v j)=some (.agg ((cs.drop (j * sz)).take sz).toArray):=by
 obtain ⟨hl,⟨rfl,rfl⟩ | ⟨b,off,cap,ro,cells,rfl,hb,ho,rfl⟩⟩:=h
 ·omega
 ·have hj2:(j + 1) * sz≤n * sz:=b1Z sz hj
  rw [c1i,c1H] at hj2
  have hc:=e0M (off:=off + j * sz) (n:=sz) (hx.blk hb) (by omega)
  simp only [adr,b0q]
  rw [b1T (by omega),b1T (by simp)]
  simp only [c1F,hc]
  rw [e1b,d1P,d1s,c1N (by omega)]
theorem Sl.load1 (h:Sl H e 1 v n cs) (hx:Ext H G) {j:Nat} (hj:j < n):b0q G false 1 (adr 1 v j)=some (cs.getD j undef):=by
 obtain ⟨hl,⟨rfl,rfl⟩ | ⟨b,off,cap,ro,cells,rfl,hb,ho,rfl⟩⟩:=h
 ·omega
 ·have hc:=e0M (off:=off + j * 1) (n:=1) (hx.blk hb) (by omega)
  simp only [adr,b0q]
  rw [b1T (by simp),b1T (by simp)]
  simp only [hc,c1l,c1O]
  rw [List.head?_take,b1T (by simp),List.head?_drop,b1Q,c1Y,b1W (by omega),d1e]
  simp only [d1p] at ho ⊢
  rw [b1V (by omega)]
  rfl
theorem Sl.elemOk (h:Sl H e sz v n cs) {G:a0e} (hx:Ext H G):AI.elemOk G e v=true:=by
 obtain ⟨hl,⟨rfl,rfl⟩ | ⟨b,off,cap,ro,cells,rfl,hb,ho,rfl⟩⟩:=h
 ·rfl
 ·unfold AI.elemOk
  simp only [hx.blk hb]
  cases ro <;> simp
theorem Sl.cells (h:Sl H e sz v n cs):a0R v=[v]:=by
 obtain ⟨hl,⟨rfl,rfl⟩ | ⟨b,off,cap,ro,cells,rfl,hb,ho,rfl⟩⟩:=h <;> rfl
theorem Sl.plain (h:Sl H e sz v n cs):a0q v=true:=by
 obtain ⟨hl,⟨rfl,rfl⟩ | ⟨b,off,cap,ro,cells,rfl,hb,ho,rfl⟩⟩:=h <;> rfl
theorem Sl.slice (h:Sl H e sz v n cs) {lo hi:Nat} (h1:lo≤hi) (h2:hi≤n) {x y:Option Value} (hx:bnd 0 x=some lo) (hy:bnd n y=some hi) :
  ∃ v',d0K sz v x y none=some v'∧Sl H e sz v' (hi - lo) ((cs.drop (lo * sz)).take ((hi - lo) * sz)):=by
 obtain ⟨hl,⟨rfl,rfl⟩ | ⟨b,off,cap,ro,cells,rfl,hb,ho,rfl⟩⟩:=h
 ·have:lo=0:=by omega
  have:hi=0:=by omega
  subst lo hi
  refine ⟨.slice none 0 0,?_,by simp,.inl ⟨rfl,rfl⟩⟩
  unfold d0K;simp [hx,hy];intro h;exact c1j h (by decide)
 ·refine ⟨_,by unfold d0K;simp only [hx,hy];rw [b1W ⟨h1,h2⟩];rfl,?_,.inr ⟨b,off + lo * sz,_,ro,cells,rfl,hb,?_,?_⟩⟩
  ·simp only [c1T,List.length_drop]
   have e1:(hi - lo) * sz + lo * sz=hi * sz:=by rw [← c1i];congr 1;omega
   have e2:hi * sz≤n * sz:=b1Z sz h2
   omega
  ·have e1:(hi - lo) * sz + lo * sz=hi * sz:=by rw [← c1i];congr 1;omega
   have e2:hi * sz≤n * sz:=b1Z sz h2
   omega
  ·have e1:(hi - lo) * sz + lo * sz=hi * sz:=by rw [← c1i];congr 1;omega
   have e2:hi * sz≤n * sz:=b1Z sz h2
   rw [e1b,d1P,d1s,c1N (by omega)]
theorem Sl.setT (h:Sl H e sz v n cs) {p:Nat} {ro:Bool} {e':TypeId} {cs':List Value} {r:Blk} (hb:H.blk p=.row ro e' cs') (hne:e' ≠ e):Sl (H.setIfInBounds p r) e sz v n cs:=by
 obtain ⟨hl,h | ⟨b,off,cap,ro,cells,rfl,hb',ho,rfl⟩⟩:=h
 ·exact ⟨hl,.inl h⟩
 ·refine ⟨hl,.inr ⟨b,off,cap,ro,cells,rfl,?_,ho,rfl⟩⟩
  rw [a0Q];exact hb'
  rintro rfl
  rw [hb'] at hb;cases hb;exact hne rfl
def c0Y (l:List Nat):List Value:=l.map fun x=>.int .u32 (x:Nat)
@[simp] theorem Q0l {l:List Nat}:(c0Y l).length=l.length:=by simp [c0Y]
def Lim (H:a0e) (v:Value) (l:List Nat):Prop:=Sl H a0l 1 v l.length (c0Y l)∧∀ x ∈ l,x < 4294967296
variable {l:List Nat}
theorem Lim.mono (h:Lim H v l) (hx:Ext H G):Lim G v l:=⟨h.1.mono hx,h.2⟩
theorem Lim.nil:Lim H (.slice none 0 0) []:=⟨Sl.nil,by simp⟩
theorem Lim.slen (h:Lim H v l):g0Q v=some (.int .i64 l.length):=h.1.slen
theorem Lim.ia (h:Lim H v l) {k:IntKind} {j:Nat} (hj:j < l.length):iaV 1 v (.int k j)=some (adr 1 v j):=h.1.ia hj
theorem Lim.iaZ (h:Lim H v l) {k:IntKind} {z:Int} (h0:0≤z) (hj:z < l.length):iaV 1 v (.int k z)=some (adr 1 v z.toNat):=h.1.iaZ h0 hj
theorem Lim.load (h:Lim H v l) {j:Nat} (hj:j < l.length) {G:a0e} (hx:Ext H G):b0q G false 1 (adr 1 v j)=some (.int .u32 (l.getD j 0)):=by
 rw [h.1.load1 hx hj]
 simp [c0Y,b1Q,d1c,hj]
theorem Lim.setT (h:Lim H v l) {p:Nat} {ro:Bool} {e':TypeId} {cs':List Value} {r:Blk} (hb:H.blk p=.row ro e' cs') (hne:e' ≠ a0l):Lim (H.setIfInBounds p r) v l:=⟨h.1.setT hb hne,h.2⟩
theorem Lim.elemOk (h:Lim H v l) {G:a0e} (hx:Ext H G):AI.elemOk G a0l v=true:=h.1.elemOk hx
theorem Lim.cells (h:Lim H v l):a0R v=[v]:=h.1.cells
theorem Lim.plain (h:Lim H v l):a0q v=true:=h.1.plain
theorem Lim.take (h:Lim H v l) {k:Nat} (hk:k≤l.length) {x:Option Value} (hx:bnd 0 x=some 0) {y:Option Value} (hy:bnd l.length y=some k):∃ v',d0K 1 v x y none=some v'∧Lim H v' (l.take k):=by
 obtain ⟨v',h1,h2⟩:=h.1.slice (c1S k) hk hx hy
 refine ⟨v',h1,?_,fun x hx=>h.2 x (d1I hx)⟩
 have:(l.take k).length=k:=by simp;omega
 rw [this]
 simpa [c0Y,List.map_take] using h2
def b0r (H:a0e) (v:Value) (i:Bool × List Nat):Prop:=∃ s,v=.agg #[.bool i.1,s]∧Lim H s i.2
theorem b0r.mono {i:Bool × List Nat} (h:b0r H v i) (hx:Ext H G):b0r G v i:=by obtain ⟨s,h1,h2⟩:=h;exact ⟨s,h1,h2.mono hx⟩
def rd:Blk→Nat→Option Value
 | .row _ _ cs,o=>cs[o]?
 | .dead,_=>none
def rdn:Blk→Nat→Nat→Option Value
 | .row _ _ cs,o,n=>if o + n≤cs.length then some (.agg ((cs.drop o).take n).toArray) else none
 | .dead,_,_=>none
@[simp] theorem O0R {ro:Bool} {e:TypeId} {cs:List Value} {o:Nat}:rd (.row ro e cs) o=cs[o]?:=nr rfl
@[simp] theorem F0Z {ro:Bool} {e:TypeId} {cs:List Value} {o n:Nat}:rdn (.row ro e cs) o n=if o + n≤cs.length then some (.agg ((cs.drop o).take n).toArray) else none:=nr rfl
theorem q0V {b o:Nat}:b0q G false 1 (.pointer (some ⟨b,o,none⟩))=rd (G.blk b) o:=by
 simp only [b0q]
 rw [b1T (by simp),b1T (by simp)]
 unfold a0e.cells?
 cases G.blk b with
 | dead=>rfl
 | row ro e cs =>
  simp only [c1l,c1O,rd]
  by_cases h:o + 1≤cs.length
  ·rw [b1W h];simp only [List.head?_take];rw [b1T (by simp),List.head?_drop]
  ·rw [b1T h,c1d (by omega)]
theorem n0g {b o n:Nat} (hn:0 < n):b0q G true n (.pointer (some ⟨b,o,none⟩))=rdn (G.blk b) o n:=by
 simp only [b0q]
 rw [b1T (by omega),b1T (by simp)]
 unfold a0e.cells?
 cases G.blk b with
 | dead=>rfl
 | row ro e cs =>
  simp only [c1F,rdn]
  split <;> simp_all
def wr (G:a0e) (b o:Nat) (vs:List Value):Blk→Option a0e
 | .row false e cs=>if o + vs.length≤cs.length then some (G.setIfInBounds b (.row false e (b0s cs o vs))) else none
 | _=>none
@[simp] theorem a1q {b o:Nat} {vs:List Value} {e:TypeId} {cs:List Value}:wr G b o vs (.row false e cs)=if o + vs.length≤cs.length then some (G.setIfInBounds b (.row false e (b0s cs o vs))) else none:=nr rfl
theorem x0C {b o n:Nat} {x:Value} (hf:fl≤b) (hl:(a0R x).length=n) (hp:(a0R x).all a0q=true) :
  e0Z fl G n (.pointer (some ⟨b,o,none⟩)) x=wr G b o (a0R x) (G.blk b):=by
 simp only [e0Z]
 rw [b1T (by simp [hl])]
 unfold a0e.write? wr
 split
 ·rename_i h;simp only [h];split <;> simp_all
 ·rename_i h;split <;> simp_all
theorem t0V {b o n:Nat} {e:TypeId} {cs:List Value} {x:Value} (h:G.blk b=.row false e cs) (hf:fl≤b) (hl:(a0R x).length=n) (ho:o + n≤cs.length) (hp:(a0R x).all a0q=true) :
  e0Z fl G n (.pointer (some ⟨b,o,none⟩)) x=some (G.setIfInBounds b (.row false e (b0s cs o (a0R x)))):=by
 simp only [e0Z]
 rw [b1T (by simp [hl])]
 unfold a0e.write?
 simp only [h]
 rw [b1W ⟨hf,by omega,hp⟩]
theorem a0T {x:Int} (h1:-9223372036854775808≤x) (h2:x < 9223372036854775808):IntKind.i64.wrap x=x:=by
 show (if (true && decide (x % (2 ^ 64:Int) ≥ (2 ^ 63:Int)))=true then x % (2 ^ 64:Int) - (2 ^ 64:Int) else x % (2 ^ 64:Int))=x
 rw [show (2 ^ 64:Int)=18446744073709551616 from rfl,show (2 ^ 63:Int)=9223372036854775808 from rfl]
 simp only [Bool.true_and,c1X]
 split <;> omega
theorem a0N {x:Int}:IntKind.u64.wrap x=x % 18446744073709551616:=by
 simp [IntKind.wrap,IntKind.bits,IntKind.signed]
theorem q0b {x:Int}:IntKind.u32.wrap x=x % 4294967296:=by
 simp [IntKind.wrap,IntKind.bits,IntKind.signed]
def x0y (H:a0e) (t:a0W) (rs:List SRes) (P:Value→Prop):Prop:=∃ vs,e0s H t rs=some vs∧P (d0g vs)
theorem I0g {a:Nat} {P:Value→Prop}:x0y H t [.tmp a] P=P (get t a):=by simp [x0y,e0s,q0g,d0g]
theorem G0c {a n:Nat} {g:Bool} {P:Value→Prop}:x0y H t [.cell a g n] P=oo (b0q H g n (get t a)) P:=by
 unfold x0y;simp only [e0s,q0g];cases b0q H g n (get t a) <;> simp [d0g]
theorem I0h {r1 r2:SRes} {P:Value→Prop}:x0y H t [r1,r2] P=oo (q0g H t r1) fun a=>oo (q0g H t r2) fun b=>P (.tuple #[a,b]):=by
 unfold x0y;simp only [e0s];cases q0g H t r1 <;> cases q0g H t r2 <;> simp [d0g]
theorem x0z {r1 r2 r3:SRes} {P:Value→Prop}:x0y H t [r1,r2,r3] P=oo (q0g H t r1) fun a=>oo (q0g H t r2) fun b=>oo (q0g H t r3) fun c=>P (.tuple #[a,b,c]):=by
 unfold x0y;simp only [e0s];cases q0g H t r1 <;> cases q0g H t r2 <;> cases q0g H t r3 <;> simp [d0g]
theorem I0f {a:Nat}:q0g H t (.tmp a)=some (get t a):=nr rfl
theorem G0b {a n:Nat} {g:Bool}:q0g H t (.cell a g n)=b0q H g n (get t a):=nr rfl
def T0q (P:a0W→a0e→Prop):d0O
 | .exit _,_,_=>False
 | .normal,t,H=>P t H
 | .ret,t,H=>P t H
@[simp] theorem P0K {P:a0W→a0e→Prop}:T0q P .normal t H=P t H:=nr rfl
@[simp] theorem V0X {P:a0W→a0e→Prop}:T0q P .ret t H=P t H:=nr rfl
theorem a0g {f:FuncId} {args:List Value} {sf:u0g} (hc:E.code f=some sf) (hf:fl≤H.size) (hl:args.length=sf.np:=by rfl) (hnt:args.length≤sf.nt:=by exact of_decide_eq_true rfl)
  (h:∀ ρ:Nat→Value,(∀ i,ρ i=args.getD i undef)→W E H.size sf.body (T sf.nt ρ) H (T0q (fun t' H'=>x0y H' t' sf.res fun v=>Ext H H'→K v H')) R) :
  a0S E fl f args H (fun v H'=>K v H'∧Ext H H') R:=by
 have h1:=(o0x (K:=fun v H'=>Ext H H'→K v H') hc hl hnt (fun t h1 h2=>by
  have h3:=h (get t) h2
  rw [← G0I h1] at h3
  refine h3.mono fun e t' H' hq=>?_
  cases e with
  | exit i=>exact c1j hq id
  | normal=>exact ⟨trivial,hq⟩
  | ret=>exact ⟨trivial,hq⟩)).keep (b1S _)
 exact (h1.mono fun v H' hh=>⟨hh.1 hh.2.ext,hh.2.ext⟩).floor hf
end
section
open Go
section
variable {k:IntKind} {a b:Int} {tag:Nat}
@[simp] theorem H0a:d0M tag .add (.int k a) (.int k b)=some (.int k (k.wrap (a + b))):=by unfold d0M;simp
@[simp] theorem V0R:d0M tag .sub (.int k a) (.int k b)=some (.int k (k.wrap (a - b))):=by unfold d0M;simp
@[simp] theorem V0P:d0M tag .mul (.int k a) (.int k b)=some (.int k (k.wrap (a * b))):=by unfold d0M;simp
theorem u0q (h:b ≠ 0):d0M tag .quo (.int k a) (.int k b)=some (.int k (k.wrap (a.tdiv b))):=by unfold d0M;simp [h]
theorem H0d (h:b ≠ 0):d0M tag .rem (.int k a) (.int k b)=some (.int k (a.tmod b)):=by unfold d0M;simp [h]
@[simp] theorem H0b:d0M tag .and (.int k a) (.int k b)=some (.int k (k.wrap (BitVec.ofInt k.bits a &&& BitVec.ofInt k.bits b).toNat)):=by unfold d0M;simp
@[simp] theorem P0y:d0M tag .or (.int k a) (.int k b)=some (.int k (k.wrap (BitVec.ofInt k.bits a ||| BitVec.ofInt k.bits b).toNat)):=by unfold d0M;simp
@[simp] theorem V0L:d0M tag .eql (.int k a) (.int k b)=some (.bool (a == b)):=by unfold d0M;simp
@[simp] theorem V0Q:d0M tag .neq (.int k a) (.int k b)=some (.bool (a != b)):=by unfold d0M;simp
@[simp] theorem H0c:d0M tag .lss (.int k a) (.int k b)=some (.bool (decide (a < b))):=by unfold d0M;simp
@[simp] theorem V0O:d0M tag .leq (.int k a) (.int k b)=some (.bool (decide (a≤b))):=by unfold d0M;simp
@[simp] theorem V0N:d0M tag .gtr (.int k a) (.int k b)=some (.bool (decide (a > b))):=by unfold d0M;simp
@[simp] theorem V0M:d0M tag .geq (.int k a) (.int k b)=some (.bool (decide (a ≥ b))):=by unfold d0M;simp
@[simp] theorem S0W {x y:Bool}:d0M 1 .eql (.bool x) (.bool y)=some (.bool (x == y)):=by unfold d0M;simp
@[simp] theorem S0Y {x y:Bool}:d0M 1 .neq (.bool x) (.bool y)=some (.bool (x != y)):=by unfold d0M;simp
@[simp] theorem S0X {x:Option Addr} {n c n2 c2:Nat}:d0M 2 .eql (.slice x n c) (.slice none n2 c2)=some (.bool x.isNone):=nr rfl
@[simp] theorem S0Z {x:Option Addr} {n c n2 c2:Nat}:d0M 2 .neq (.slice x n c) (.slice none n2 c2)=some (.bool x.isSome):=nr rfl
theorem u0r {k':IntKind} (h:0≤b):d0M tag .shl (.int k a) (.int k' b)=some (.int k (k.wrap (a * 2 ^ (min b.toNat k.bits)))):=by unfold d0M;simp [h]
theorem k0l {k':IntKind} (h:0≤b):d0M tag .shr (.int k a) (.int k' b)=some (.int k (a.fdiv (2 ^ (min b.toNat k.bits)))):=by unfold d0M;simp [h]
theorem H0p {n m:Nat}:((n:Int).fdiv (m:Int))=((n / m:Nat):Int):=by
 rw [Int.fdiv_eq_ediv_of_nonneg _ (by omega)];rfl
@[simp] theorem b1N {n:Nat} {k':IntKind}:d0M tag .shr (.int .u64 (n:Int)) (.int k' 32)=some (.int .u64 ((n / 4294967296:Nat):Int)):=by
 rw [k0l (by omega)];exact e1K (fun x=>some (Value.int .u64 x)) (H0p (n:=n) (m:=4294967296))
@[simp] theorem b1O {n:Nat} {k':IntKind}:d0M tag .shr (.int .u64 (n:Int)) (.int k' 63)=some (.int .u64 ((n / 9223372036854775808:Nat):Int)):=by
 rw [k0l (by omega)];exact e1K (fun x=>some (Value.int .u64 x)) (H0p (n:=n) (m:=9223372036854775808))
@[simp] theorem Z0Y:unA .neg (.int k a)=some (.int k (k.wrap (0 - a))):=nr rfl
@[simp] theorem Z0Z {x:Bool}:unA .not (.bool x)=some (.bool !x):=nr rfl
end
@[simp] theorem H0f {a b:Nat}:((a:Int) == (b:Int))=(a == b):=by
 rw [e1G,beq_iff_eq,beq_iff_eq];omega
@[simp] theorem V0V {a b:Nat}:((a:Int) != (b:Int))=(a != b):=by simp only [bne,H0f]
@[simp] theorem y0q {a:Nat}:((a:Int) == 0)=(a == 0):=by
 rw [e1G,beq_iff_eq,beq_iff_eq];omega
@[simp] theorem T0e {a:Nat}:((a:Int) != 0)=(a != 0):=by simp only [bne,y0q]
@[simp] theorem T0f {a:Array Value}:a0R (.agg a)=a.toList:=nr rfl
@[simp] theorem T0g {k:IntKind} {n:Int}:a0R (.int k n)=[.int k n]:=nr rfl
@[simp] theorem R0P {b:Bool}:a0R (.bool b)=[.bool b]:=nr rfl
@[simp] theorem P0D {a:Option Addr} {n c:Nat}:a0R (.slice a n c)=[.slice a n c]:=nr rfl
@[simp] theorem T0h {a:Option Addr}:a0R (.pointer a)=[.pointer a]:=nr rfl
@[simp] theorem U0o {k:IntKind} {n:Int}:a0q (.int k n)=true:=nr rfl
@[simp] theorem S0m {b:Bool}:a0q (.bool b)=true:=nr rfl
@[simp] theorem Q0v {a:Option Addr} {n c:Nat}:a0q (.slice a n c)=true:=nr rfl
@[simp] theorem U0p {a:Option Addr}:a0q (.pointer a)=true:=nr rfl
@[simp] theorem V0T {d:Nat}:bnd d none=some d:=nr rfl
@[simp] theorem P0A {d n:Nat} {k:IntKind}:bnd d (some (.int k (n:Int)))=some n:=by simp [bnd]
@[simp] theorem a1v {n:Nat}:n + 1 + 1=n + 2:=by omega
@[simp] theorem a1w {n:Nat}:n + 2 + 1=n + 3:=by omega
@[simp] theorem a1x {n:Nat}:n + 3 + 1=n + 4:=by omega
@[simp] theorem a1y {n:Nat}:n + 4 + 1=n + 5:=by omega
@[simp] theorem a1z {n:Nat}:n + 5 + 1=n + 6:=by omega
@[simp] theorem X0F {n:Nat}:n + 1 + 2=n + 3:=by omega
@[simp] theorem X0G {n:Nat}:n + 1 + 3=n + 4:=by omega
@[simp] theorem X0H {n:Nat}:n + 1 + 4=n + 5:=by omega
@[simp] theorem X0I {n:Nat}:n + 1 + 5=n + 6:=by omega
@[simp] theorem X0J {n:Nat}:n + 1 + 6=n + 7:=by omega
@[simp] theorem X0K {n:Nat}:n + 2 + 2=n + 4:=by omega
@[simp] theorem X0L {n:Nat}:n + 2 + 3=n + 5:=by omega
@[simp] theorem X0M {n:Nat}:n + 2 + 4=n + 6:=by omega
@[simp] theorem X0N {n:Nat}:n + 2 + 5=n + 7:=by omega
@[simp] theorem X0O {n:Nat}:n + 2 + 6=n + 8:=by omega
@[simp] theorem X0P {n:Nat}:n + 3 + 2=n + 5:=by omega
@[simp] theorem X0Q {n:Nat}:n + 3 + 3=n + 6:=by omega
@[simp] theorem X0R {n:Nat}:n + 3 + 4=n + 7:=by omega
@[simp] theorem X0S {n:Nat}:n + 3 + 5=n + 8:=by omega
@[simp] theorem X0T {n:Nat}:n + 3 + 6=n + 9:=by omega
@[simp] theorem X0U {n:Nat}:n + 4 + 2=n + 6:=by omega
@[simp] theorem X0V {n:Nat}:n + 4 + 3=n + 7:=by omega
@[simp] theorem X0W {n:Nat}:n + 4 + 4=n + 8:=by omega
@[simp] theorem X0X {n:Nat}:n + 4 + 5=n + 9:=by omega
@[simp] theorem X0Y {n:Nat}:n + 4 + 6=n + 10:=by omega
@[simp] theorem X0Z {n:Nat}:n + 5 + 2=n + 7:=by omega
@[simp] theorem Y0a {n:Nat}:n + 5 + 3=n + 8:=by omega
@[simp] theorem Y0b {n:Nat}:n + 5 + 4=n + 9:=by omega
@[simp] theorem Y0c {n:Nat}:n + 5 + 5=n + 10:=by omega
@[simp] theorem Y0d {n:Nat}:n + 5 + 6=n + 11:=by omega
@[simp] theorem Y0e {n:Nat}:n + 6 + 1=n + 7:=by omega
@[simp] theorem Y0f {n:Nat}:n + 6 + 2=n + 8:=by omega
@[simp] theorem Y0g {n:Nat}:n + 6 + 3=n + 9:=by omega
@[simp] theorem Y0h {n:Nat}:n + 6 + 4=n + 10:=by omega
@[simp] theorem Y0i {n:Nat}:n + 6 + 5=n + 11:=by omega
@[simp] theorem Y0j {n:Nat}:n + 6 + 6=n + 12:=by omega
def x0I (w:Bool):Value→Bool
 | .bool b=>b == w
 | _=>false
@[simp] theorem S0o {w b:Bool}:x0I w (.bool b)=(b == w):=nr rfl
@[simp ↓] theorem b1P {E:Env} {fl:Nat} {t:a0W} {H:a0e} {R:a0u} {d:Option Nat} {op:SOp} {r:List a0D} {Z:a0W→a0e→Prop} {j:Nat} {w:Bool} :
  WR E fl (⟨d,some (j,w),op⟩ :: r) t H Z R=if x0I w (get t j)=true then WS E fl t H op (fun v H'=>WR E fl r (put t d v) H' Z R) R else WR E fl r (put t d undef) H Z R:=by
 have h:b0c t (some (j,w))=x0I w (get t j):=by
  simp only [b0c]
  generalize get t j=v
  cases v <;> rfl
 show (if b0c t (some (j,w))=true then _ else _)=_
 rw [h]
attribute [simp ↓] G0P P0m y0f X0D P0k S0L S0H P0i X0A S0J X0z S0K G0O P0l G0M s0c S0N X0C G0L S0F S0M X0B G0Q S0E P0j y0e k0D
attribute [simp ↓] u0l P0r P0q S0S P0p G0R S0R
attribute [simp] I0g G0c I0h x0z I0f G0b x0C a0I a0Q
attribute [simp] Q0x T0Y R0F
attribute [simp] a0v d0s q0V n0g Ext.refl Ext.push Ext.set g0g b0w e0r b0s
attribute [simp low] a0x
attribute [congr] G0K w0m P0n G0N H0F
def l0b (i:Nat) (A M:a0W→a0e→Prop) (Q:d0O):d0O
 | .normal,t,H=>A t H
 | .exit j,t,H=>if j=i then M t H else Q (.exit j) t H
 | .ret,t,H=>Q .ret t H
section
variable {E:Env} {fl:Nat} {t:a0W} {H:a0e} {Q:d0O} {R:a0u}
@[simp] theorem J0V {i:Nat} {A M:a0W→a0e→Prop}:l0b i A M Q .normal t H=A t H:=nr rfl
@[simp] theorem S0i {i j:Nat} {A M:a0W→a0e→Prop}:l0b i A M Q (.exit j) t H=if j=i then M t H else Q (.exit j) t H:=nr rfl
@[simp] theorem U0f {i:Nat} {A M:a0W→a0e→Prop}:l0b i A M Q .ret t H=Q .ret t H:=nr rfl
theorem S0O {a:SCode} {Z:a0W→a0e→Prop} (M:a0W→a0e→Prop) (h:W E fl a t H (g0U M Q) R) (hz:∀ t H,M t H→Z t H):W E fl a t H (g0U Z Q) R:=by
 refine h.mono fun e t' H' hq=>?_
 cases e with
 | normal=>exact hz _ _ hq
 | exit i=>exact hq
 | ret=>exact hq
theorem b0P {c:SCode} {i:Nat} {Z:a0W→a0e→Prop} (I:Nat→a0W→a0e→Prop) (M:a0W→a0e→Prop) (k:Nat) (hI:I k t H)
  (step:∀ k t H,I k t H→W E fl c t H (l0b i (fun t' H'=>∃ k',k' < k∧I k' t' H') M Q) R)
  (rest:∀ t H,M t H→Z t H):W E fl (.loop c) t H (e0L i (g0U Z Q)) R:=by
 refine J0G I (fun k t H h=>(step k t H h).mono fun e t' H' hq=>?_) k hI
 cases e with
 | normal=>exact hq
 | ret=>exact hq
 | exit j =>
  simp only [l0b] at hq
  simp only [g0U,e0L]
  split
  ·rename_i hj;rw [b1W hj] at hq;exact rest _ _ hq
  ·rename_i hj;rw [b1T hj] at hq;exact hq
end
end
section
open Go
variable {fl:Nat} {H G:a0e} {e e2 sz n m bytes:Nat} {s x:Value} {cs new:List Value}
def slB:Value→Option Nat
 | .slice (some p) _ _=>some p.block
 | _=>none
def Own (fl:Nat) (H:a0e) (e sz:Nat) (v:Value) (n:Nat) (cs:List Value):Prop :=
 cs.length=n * sz∧((v=.slice none 0 0∧n=0) ∨ ∃ b cap,v=.slice (some ⟨b,0,none⟩) n cap∧H.blk b=.row false e cs∧fl≤b)
theorem Own.nil:Own fl H e sz (.slice none 0 0) 0 []:=⟨by simp,.inl ⟨rfl,rfl⟩⟩
theorem Own.mk {b cap:Nat} (hb:H.blk b=.row false e cs) (hl:cs.length=n * sz) (hf:fl≤b):Own fl H e sz (.slice (some ⟨b,0,none⟩) n cap) n cs:=⟨hl,.inr ⟨b,cap,rfl,hb,hf⟩⟩
theorem Own.sl (h:Own fl H e sz s n cs):Sl H e sz s n cs:=by
 obtain ⟨hl,h | ⟨b,cap,rfl,hb,hf⟩⟩:=h
 ·exact ⟨hl,.inl h⟩
 ·exact ⟨hl,.inr ⟨b,0,cap,false,cs,rfl,hb,by omega,by rw [d1l,← hl,c1h]⟩⟩
theorem Own.mono (h:Own fl H e sz s n cs) (hx:Ext H G):Own fl G e sz s n cs:=by
 obtain ⟨hl,h | ⟨b,cap,rfl,hb,hf⟩⟩:=h
 ·exact ⟨hl,.inl h⟩
 ·exact ⟨hl,.inr ⟨b,cap,rfl,hx.blk hb,hf⟩⟩
def c0Z (o:Option Nat) (H G:a0e):Prop:=H.size≤G.size∧∀ b,b < H.size→o ≠ some b→G.blk b=H.blk b
theorem Ext.extB {o:Option Nat} (h:Ext H G):c0Z o H G:=⟨h.1,fun b hb _=>h.2 b hb⟩
theorem k0H (ho:Own fl G e sz s n cs) (hx:Sl G e2 sz x m new) (hp:new.all a0q=true) (hn:n + m≤1073741824) (hb:bytes≤1024) (hs:0 < sz) (hfl:fl≤G.size) :
  ∃ v' G',h0B fl G e sz bytes s x=some (v',G')∧Own fl G' e sz v' (n + m) (cs ++ new)∧c0Z (slB s) G G'∧(∀ H0,H0.size≤fl→Ext H0 G→Ext H0 G'):=by
 obtain ⟨hxl,hx⟩:=hx
 have hol:=ho.1
 by_cases hm:m=0
 ·subst hm
  have hnew:new=[]:=c1r.1 (by omega)
  subst hnew
  refine ⟨s,G,?_,by simpa using ho,(Ext.refl G).extB,fun _ _ h=>h⟩
  rcases hx with ⟨rfl,_⟩ | ⟨b,off,cap,ro,cells,rfl,_⟩ <;> rcases ho.2 with ⟨rfl,rfl⟩ | ⟨b',cap',rfl,_⟩ <;> simp [h0B]
 ·rcases hx with ⟨_,h0⟩ | ⟨b,off,cap,ro,cells,rfl,hbk,ho1,ho2⟩
  ·exact c1j h0 hm
  have hc:=e0M hbk ho1
  rw [← ho2] at hc
  rcases ho.2 with ⟨rfl,rfl⟩ | ⟨b',cap',rfl,hb',hf'⟩
  ·have hcs:cs=[]:=c1r.1 (by omega)
   subst hcs
   refine ⟨.slice (some ⟨G.size,0,none⟩) m unk,G.push (.row false e new),?_,?_,(Ext.push (Ext.refl G)).extB,fun _ _ h=>h.push⟩
   ·unfold h0B
    simp only
    rw [b1T hm,b1W ⟨by omega,hb,hs⟩]
    simp only [hc,hp,e1e,c1O]
    rw [b1W ⟨by trivial,by trivial⟩]
   ·rw [c1y];exact Own.mk a0v (by simpa using hxl) hfl
  ·have hb'l:=a0j hb'
   have hc2:G.cells? b' 0 (n * sz)=some cs:=by
    rw [e0M hb' (by omega),d1l,← hol,c1h]
   by_cases hcap:cap' ≠ unk∧cap' < n + m
   ·refine ⟨.slice (some ⟨G.size,0,none⟩) (n + m) unk,G.push (.row false e (cs ++ new)),?_,?_,(Ext.push (Ext.refl G)).extB,fun _ _ h=>h.push⟩
    ·unfold h0B
     simp only
     rw [b1T hm,b1W ⟨by omega,hb,hs⟩]
     simp only [hc,hp,e1e,c1O,hc2]
     by_cases h00:n=0∧cap' = 0
     ·rw [b1W h00]
      have hcs:cs=[]:=c1r.1 (by rw [hol,h00.1];simp)
      rw [hcs,h00.1];simp
     ·rw [b1T h00,b1W hcap]
    ·exact Own.mk a0v (by rw [c1g,hol,hxl,c1i]) hfl
   ·refine ⟨.slice (some ⟨G.size,0,none⟩) (n + m) unk,(G.setIfInBounds b' .dead).push (.row false e (cs ++ new)),?_,?_,?_,?_⟩
    ·unfold h0B
     simp only
     rw [b1T hm,b1W ⟨by omega,hb,hs⟩]
     simp only [hc,hp,e1e,c1O,hc2]
     rw [b1T (fun h00:n=0∧cap' = 0=>hcap ⟨by rw [h00.2];decide,by omega⟩),b1T hcap]
     simp only [hb']
     rw [b1W ⟨trivial,hf'⟩]
    ·exact Own.mk (by rw [a0x];simp) (by rw [c1g,hol,hxl,c1i]) hfl
    ·refine ⟨by simp,fun c hc hne=>?_⟩
     have:b' ≠ c:=fun h=>hne (by simp [slB,h])
     rw [d0s (by simpa using hc),a0Q this]
    ·intro H0 h1 h2
     exact (h2.set (by omega)).push
theorem g0s {c:Nat} (ho:Own fl G e sz s n cs) (hl:new.length=sz) (hp:new.all a0q=true) (hn:n < 1073741824) (hb:bytes≤1024) (hs:0 < sz) (hfl:fl≤G.size) :
  ∃ v' G',h0B fl (G.push (.row false e2 new)) e sz bytes s (.slice (some ⟨G.size,0,none⟩) 1 c)=some (v',G')∧Own fl G' e sz v' (n + 1) (cs ++ new)∧c0Z (slB s) G G'∧(∀ H0,H0.size≤fl→Ext H0 G→Ext H0 G'):=by
 have hx:Sl (G.push (.row false e2 new)) e2 sz (.slice (some ⟨G.size,0,none⟩) 1 c) 1 new:=(Own.mk (fl:=0) a0v (by omega) (c1S _)).sl
 obtain ⟨v',G',h1,h2,h3,h4⟩:=k0H (ho.mono (Ext.push (Ext.refl G))) hx hp (by omega) hb hs (bytes:=bytes) (by simp;omega)
 refine ⟨v',G',h1,h2,⟨?_,fun b hb hne=>?_⟩,fun H0 k1 k2=>h4 H0 k1 k2.push⟩
 ·have:=h3.1;simp at this;omega
 ·rw [h3.2 b (by simp;omega) hne,d0s hb]
@[simp] theorem R0E {a b:List Nat}:c0Y (a ++ b)=c0Y a ++ c0Y b:=by simp [c0Y]
theorem n0p {l:List Nat}:(c0Y l).all a0q=true:=by simp [c0Y,a0q]
end
section
open Go
variable {fl:Nat} {H:a0e} {R:a0u} {v:Value} {i:Bool × List Nat}
def l0e (i:Bool × List Nat):Bool:=if i.2.length=0 then !i.1 else i.2.getD (i.2.length - 1) 0 != 0
theorem e0S (h:b0r H v i) (hf:fl≤H.size) (hn:i.2.length < 4611686018427387904) :
  a0S env fl q0H [v] H (fun r H'=>r=.bool (l0e i)∧Ext H H') R:=by
 obtain ⟨s,rfl,hs⟩:=h
 refine a0g Y0J hf (h:=?_)
 intro ρ h0
 simp [I0A]
 simp [B0P,B0Q,B0R,B0S,h0]
 simp (disch:=first | omega | assumption | (simp;done) | (repeat (first | assumption | exact Ext.refl _ | apply Ext.push | apply Ext.set))) [hs.slen,hs.iaZ,hs.load,a0T]
 refine ⟨fun h=>by simp [l0e,h],fun h=>?_⟩
 have hl:=e1D.2 h
 simp (disch:=first | omega | assumption | (simp;done) | (repeat (first | assumption | exact Ext.refl _ | apply Ext.push | apply Ext.set))) [hs.iaZ,hs.load,l0e,h]
def f0p (i:Bool × List Nat):List Nat:=if l0e i then i.2 else []
theorem m0K (h:b0r H v i) (hf:fl≤H.size) (hn:i.2.length < 4611686018427387904) :
  a0S env fl f0D [v] H (fun r H'=>Lim H' r (f0p i)∧Ext H H') R:=by
 obtain ⟨s,rfl,hs⟩:=h
 refine a0g Y0z hf (h:=?_)
 intro ρ h0
 simp [I0q]
 simp [A0M,A0N,A0O,A0P,h0]
 refine (e0S ⟨s,rfl,hs.mono (by simp)⟩ (by simp) hn).mono ?_
 rintro _ G ⟨rfl,hx⟩
 simp [hx.2,f0p]
 exact ⟨fun h _=>by simp [h,Lim.nil],fun h hx=>by simp [h,hs.mono hx]⟩
def W0g (i:Bool × List Nat):Bool:=l0e i && i.1
theorem r0e (h:b0r H v i) (hf:fl≤H.size) (hn:i.2.length < 4611686018427387904) :
  a0S env fl d0V [v] H (fun r H'=>r=.bool (W0g i)∧Ext H H') R:=by
 obtain ⟨s,rfl,hs⟩:=h
 refine a0g Y0y hf (h:=?_)
 intro ρ h0
 simp [I0p]
 simp [A0K,A0L,h0]
 refine (e0S ⟨s,rfl,hs.mono (by simp)⟩ (by simp) hn).mono ?_
 rintro _ G ⟨rfl,hx⟩
 cases hm:l0e i <;> simp [hx.2,W0g,h0,hm]
theorem a0o {x:Nat} (hf:fl≤H.size) :
  a0S env fl f0E [.int .u64 x] H (fun r H'=>r=.int .u32 ((x % 4294967296:Nat):Int)∧Ext H H') R:=by
 refine a0g Y0I hf (h:=?_)
 intro ρ h0
 simp [I0z]
 simp [B0N,B0O,h0,q0b]
def c0V (a b:Int):Int:=if a < b then -1 else if a > b then 1 else 0
theorem i0w {a b:Int} (hf:fl≤H.size) :
  a0S env fl y0K [.int .i64 a,.int .i64 b] H (fun r H'=>r=.int .i64 (c0V a b)∧Ext H H') R:=by
 refine a0g Y0V hf (h:=?_)
 intro ρ h0
 simp [I0M]
 simp [C0S,C0T,C0U,C0V,C0W,C0X,h0,c0V]
 refine ⟨fun h1 h2=>?_,fun h1=>⟨fun h2=>?_,fun h2=>?_⟩⟩ <;> (repeat' split) <;> omega
theorem g0C {a b:Int} (hf:fl≤H.size) :
  a0S env fl y0L [.int .u32 a,.int .u32 b] H (fun r H'=>r=.int .i64 (c0V a b)∧Ext H H') R:=by
 refine a0g Y0W hf (h:=?_)
 intro ρ h0
 simp [I0N]
 simp [C0Y,C0Z,D0a,D0b,D0c,D0d,h0,c0V]
 refine ⟨fun h1 h2=>?_,fun h1=>⟨fun h2=>?_,fun h2=>?_⟩⟩ <;> (repeat' split) <;> omega
theorem w0l {l:List Nat} (h:Lim H v l) (hf:fl≤H.size) (hn:l.length≤1073741824) :
  a0S env fl y0I [v] H (fun r H'=>Lim H' r l∧Ext H H') R:=by
 refine a0g Y0N hf (h:=?_)
 intro ρ h0
 simp [I0E]
 simp [C0g,C0h,C0i,C0j,h0]
 have hd:=h
 obtain ⟨⟨hl,⟨rfl,h2⟩ | ⟨b,off,cap,ro,cells,rfl,hb,ho,hcs⟩⟩,hx⟩:=h
 ·have:l=[]:=c1r.1 h2
  subst this
  simp [Lim.nil]
 ·simp
  have ho2:Own H.size (H.push (.row false a0l [])) a0l 1 (.slice (some ⟨H.size,0,none⟩) 0 0) 0 []:=Own.mk a0v (by simp) (b1S _)
  obtain ⟨v',G',h1,h2,h3,h4⟩:=k0H (bytes:=4) ho2 ((hd.mono (Ext.push (Ext.refl H))).1) n0p (by omega) (by omega) (by omega) (by simp)
  simp only [c1y,d1v] at h2
  simp [h1]
  exact fun _=>⟨h2.sl,hx⟩
end
section
open Go
variable {fl:Nat} {H:a0e} {R:a0u} {v:Value} {i:Bool × List Nat} {l:List Nat}
def d0v (l:List Nat):List Nat:=(l.reverse.dropWhile (· == 0)).reverse
theorem r0R:d0v []=[]:=rfl
theorem m0h:d0v (l ++ [0])=d0v l:=by simp [d0v]
theorem j0A {x:Nat} (h:x ≠ 0):d0v (l ++ [x])=l ++ [x]:=by simp [d0v,h]
def mkI (neg:Bool) (l:List Nat):Bool × List Nat:=if d0v l=[] then (false,[]) else (neg,d0v l)
theorem e0b {n:Nat} (h:n < l.length):l.take (n + 1)=l.take n ++ [l.getD n 0]:=by
 rw [List.take_add_one,b1V h,b1Q,b1V h];rfl
theorem o0S {b:Bool} (h:Lim H v l) (hf:fl≤H.size) (hn:l.length≤1073741824) :
  a0S env fl g0f [.bool b,v] H (fun r H'=>b0r H' r (mkI b l)∧Ext H H') R:=by
 refine a0g Y0x hf (h:=?_)
 intro ρ h0
 simp [I0o]
 simp [A0E,A0F,h0,h.slen]
 refine b0P (fun k t G=>G=H.push (.row false a0a [.bool false,.slice none 0 0])∧t.length=29∧get t 0=.bool b∧get t 1=v∧get t 4=.pointer (some ⟨H.size,0,none⟩) ∧
   get t 5=.int .i64 k∧k≤l.length∧d0v (l.take k)=d0v l)
  (fun t G=>∃ k:Nat,G=H.push (.row false a0a [.bool false,.slice none 0 0])∧t.length=29∧get t 0=.bool b∧get t 1=v∧get t 4=.pointer (some ⟨H.size,0,none⟩) ∧
   get t 5=.int .i64 k∧k≤l.length∧d0v l=l.take k) l.length (by simp [h0]) ?_ ?_
 ·rintro k t G ⟨rfl,ht,g0,g1,g4,g5,hk,htr⟩
  obtain ⟨ρ,rfl⟩:=toT ht
  simp only [b0N,Nat.reduceLT] at g0 g1 g4 g5
  by_cases hk0:k=0
  ·subst hk0
   simp [s0S,g0,g1,g4,g5]
   exact ⟨0,by simp,by simp,by rw [← htr];rfl⟩
  ·have hp:0 < k:=by omega
   have w1:IntKind.i64.wrap ((k:Int) - 1)=((k - 1:Nat):Int):=by rw [a0T (by omega) (by omega)];omega
   simp [s0S,A0G,g0,g1,g4,g5,hp,w1,h.ia (show k - 1 < l.length by omega),h.load (show k - 1 < l.length by omega)]
   have hk1:l.take k=l.take (k - 1) ++ [l.getD (k - 1) 0]:=by rw [← e0b (by omega)];congr 1;omega
   rw [b1Q] at hk1
   refine ⟨fun hz=>⟨k - 1,by omega,rfl,by omega,?_⟩,fun hz=>⟨k,rfl,hk,?_⟩⟩
   ·rw [← htr,hk1,hz,m0h]
   ·rw [← htr,hk1,j0A hz]
 ·rintro t G ⟨k,rfl,ht,g0,g1,g4,g5,hk,htr⟩
  obtain ⟨ρ,rfl⟩:=toT ht
  simp only [b0N,Nat.reduceLT] at g0 g1 g4 g5
  obtain ⟨v',h1,h2⟩:=h.take hk (x:=none) rfl (y:=some (.int .i64 (k:Int))) (by simp)
  simp [A0H,A0I,A0J,g0,g1,g4,g5,h.elemOk,h1]
  refine ⟨fun hk0=>⟨.slice none 0 0,by simp [mkI,htr,hk0],by simp [mkI,htr,hk0,Lim.nil]⟩,fun hk0=>?_⟩
  refine (w0l (h2.mono (by simp)) (by simp) (by simp;omega)).mono ?_
  rintro r G ⟨hr,hx⟩
  have hlt:H.size < G.size:=by have:=hx.1;simp at this;omega
  simp [hr.cells,hr.plain,hx.2,hlt]
  have hl0:l ≠ []:=by rintro rfl;exact hk0 (by simpa using hk)
  refine fun _=>⟨r,?_,?_⟩
  ·simp [mkI,htr,hk0,hl0]
  ·have:(mkI b l).2=l.take k:=by simp [mkI,htr,hk0,hl0]
   rw [this]
   exact hr.setT (by rw [hx.2 _ (by simp)];exact a0v) (by decide)
end
section
open Go
def a0B:List Nat→Nat
 | []=>0
 | x :: l=>x + 4294967296 * a0B l
def b0t (l:List Nat):Prop:=∀ x ∈ l,x < 4294967296
theorem f0I:∀ (a b:List Nat),a0B (a ++ b)=a0B a + 4294967296 ^ a.length * a0B b
 | [],b=>by simp [a0B]
 | x :: a,b=>by
  simp only [d1N,a0B,f0I a b,c1G,c1E]
  rw [c1n,← c1t,c1q (4294967296 ^ a.length) 4294967296,d1h]
theorem d0H (a:List Nat) (x:Nat):a0B (a ++ [x])=a0B a + 4294967296 ^ a.length * x:=by rw [f0I];simp [a0B]
theorem g0B:∀ (l:List Nat),b0t l→a0B l < 4294967296 ^ l.length
 | [],_=>by simp [a0B]
 | x :: l,h=>by
  have h1:=g0B l (fun y hy=>h y (d1Q _ hy))
  have h2:=h x (e1I ..)
  simp only [a0B,c1G,c1E]
  omega
theorem o0i (x:Nat) (l:List Nat):d0v (x :: l)=if d0v l=[]∧x=0 then [] else x :: d0v l:=by
 unfold d0v
 rw [List.reverse_cons,List.dropWhile_append]
 by_cases h:(List.dropWhile (fun x=>x == 0) l.reverse).isEmpty=true
 ·rw [b1W h]
  have h':List.dropWhile (fun x=>x == 0) l.reverse=[]:=by simpa using h
  rw [h']
  by_cases hx:x=0 <;> simp [hx]
 ·rw [b1T h]
  have h':List.dropWhile (fun x=>x == 0) l.reverse ≠ []:=by simpa using h
  rw [b1T (by simp [h'])]
  simp
theorem i0t:∀ (l:List Nat),a0B l=0 ↔ d0v l=[]
 | []=>by simp [a0B,r0R]
 | x :: l=>by
  rw [o0i]
  have:=i0t l
  by_cases h:d0v l=[]∧x=0
  ·rw [b1W h];have:=this.2 h.1;simp [a0B,this,h.2]
  ·rw [b1T h]
   simp only [a0B,reduceCtorEq,iff_false]
   intro h0
   exact h ⟨this.1 (by omega),by omega⟩
def a0K (n:Nat):List Nat:=if h:n=0 then [] else (n % 4294967296) :: a0K (n / 4294967296)
termination_by n
decreasing_by omega
theorem b0p:a0K 0=[]:=by unfold a0K;simp
theorem e0z {n:Nat} (h:n ≠ 0):a0K n=(n % 4294967296) :: a0K (n / 4294967296):=by rw [a0K];simp [h]
theorem f0a:∀ (l:List Nat),b0t l→d0v l=a0K (a0B l)
 | [],_=>by rw [r0R,a0B,b0p]
 | x :: l,h=>by
  have ih:=f0a l (fun y hy=>h y (d1Q _ hy))
  have hx:=h x (e1I ..)
  rw [o0i]
  by_cases hc:d0v l=[]∧x=0
  ·rw [b1W hc]
   have:=(i0t l).2 hc.1
   rw [a0B,this,hc.2,b0p]
  ·rw [b1T hc]
   have hne:a0B (x :: l) ≠ 0:=by
    intro h0
    simp only [a0B] at h0
    exact hc ⟨(i0t l).1 (by omega),by omega⟩
   rw [e0z hne]
   have e1:a0B (x :: l) % 4294967296=x:=by simp only [a0B];omega
   have e2:a0B (x :: l) / 4294967296=a0B l:=by simp only [a0B];omega
   rw [e1,e2,ih]
theorem a0J (n:Nat):a0B (a0K n)=n:=by
 induction n using Nat.strongRecOn with
 | ind n ih =>
  by_cases h:n=0
  ·rw [h,b0p];rfl
  ·rw [e0z h,a0B,ih _ (by omega)];omega
theorem b0Z (n:Nat):b0t (a0K n):=by
 induction n using Nat.strongRecOn with
 | ind n ih =>
  by_cases h:n=0
  ·rw [h,b0p];intro x hx;simp at hx
  ·rw [e0z h]
   intro x hx
   rcases d1m.1 hx with rfl | hx
   ·omega
   ·exact ih _ (by omega) x hx
theorem h0e {n k:Nat} (h:n < 4294967296 ^ k):(a0K n).length≤k:=by
 induction k generalizing n with
 | zero => have : n = 0 := by simpa using h
           rw [this,b0p];simp
 | succ k ih =>
  by_cases h0:n=0
  ·rw [h0,b0p];simp
  ·rw [e0z h0,c1G]
   have:n / 4294967296 < 4294967296 ^ k:=by
    rw [d1G (by omega)];rw [c1E] at h;exact h
   have:=ih this
   omega
theorem l0d (n:Nat):n < 4294967296 ^ (a0K n).length:=by
 have:=g0B (a0K n) (b0Z n)
 rwa [a0J] at this
theorem b0Q {n:Nat}:a0K n=[] ↔ n=0:=by
 constructor
 ·intro h;rw [← a0J n,h];rfl
 ·rintro rfl;exact b0p
theorem k0N {n:Nat} (h:n ≠ 0):(a0K n).getD ((a0K n).length - 1) 0 ≠ 0:=by
 induction n using Nat.strongRecOn with
 | ind n ih =>
  rw [e0z h]
  by_cases h2:n / 4294967296=0
  ·rw [h2,b0p];simp;omega
  ·have:=ih (n / 4294967296) (by omega) h2
   have hl:(a0K (n / 4294967296)).length ≠ 0:=fun h3=>h2 (b0Q.1 (c1r.1 h3))
   rw [c1G,show (a0K (n / 4294967296)).length + 1 - 1=((a0K (n / 4294967296)).length - 1) + 1 by omega,List.getD_cons_succ]
   exact this
def a0P (i:Bool × List Nat):Int:=if l0e i then (if i.1 then -(a0B i.2:Int) else a0B i.2) else 0
def a0m (z:Int):Bool × List Nat:=(decide (z < 0),a0K z.natAbs)
theorem J0Z {b:Bool} {l:List Nat} (h:b0t l):mkI b l=a0m (if b then -(a0B l:Int) else a0B l):=by
 unfold mkI a0m
 rw [f0a l h]
 by_cases h0:a0B l=0
 ·rw [h0,b0p];cases b <;> simp [b0p]
 ·rw [b1T (by rw [b0Q];exact h0)]
  cases b <;> simp <;> omega
theorem r0a (z:Int):l0e (a0m z)=true:=by
 unfold l0e a0m
 by_cases h:z=0
 ·subst h;simp [b0p]
 ·have h1:z.natAbs ≠ 0:=by omega
  have h2:(a0K z.natAbs).length ≠ 0:=fun h3=>h1 (b0Q.1 (c1r.1 h3))
  simp only
  rw [b1T h2]
  simpa using k0N h1
theorem a0k (z:Int):a0P (a0m z)=z:=by
 unfold a0P
 rw [r0a]
 simp only [a0m,a0J,c1F]
 by_cases h:z < 0 <;> simp [h] <;> omega
theorem e0x:a0m 0=(false,[]):=by simp [a0m,b0p]
end
section
open Go
set_option maxHeartbeats 4000000
variable {fl:Nat} {H:a0e} {R:a0u} {v w:Value} {a b:List Nat}
theorem Lim.ok {l:List Nat} (h:Lim H v l):b0t l:=h.2
theorem b0j {l:List Nat} {n:Nat} (h:n < l.length):a0B (l.take (n + 1))=a0B (l.take n) + 4294967296 ^ n * l.getD n 0:=by
 rw [e0b h,d0H,c1T,c1N (by omega)]
theorem o0T (ha:Lim H v a) (hb:Lim H w b) (hf:fl≤H.size) (hna:a.length < 1073741824) (hnb:b.length < 1073741824) :
  a0S env fl y0H [v,w] H (fun r H'=>(∃ o,Lim H' r o∧a0B o=a0B a + a0B b∧o.length=max a.length b.length + 1)∧Ext H H') R:=by
 refine a0g Y0F hf (h:=?_)
 intro ρ h0
 simp only [I0w]
 refine g0d (j0Y ?_)
 simp [-u0l,B0v,h0]
 refine g0d (S0O (fun t G=>G=H∧t.length=55∧∃ v w a' b',get t 0=v∧get t 1=w∧Lim H v a'∧Lim H w b'∧b'.length≤a'.length∧a'.length=max a.length b.length∧a0B a' + a0B b' = a0B a + a0B b) ?_ ?_)
 ·simp [B0w,B0x,h0,ha.slen,hb.slen]
  exact ⟨fun h=>⟨b,hb,a,ha,by omega,by omega,by omega⟩,fun h=>⟨a,ha,b,hb,by omega,by omega,by omega⟩⟩
 clear h0 ρ
 rintro t G ⟨rfl,ht,v,w,a',b',g0,g1,ha',hb',hle,hlen,hsum⟩
 obtain ⟨ρ,rfl⟩:=toT ht
 simp only [b0N,Nat.reduceLT] at g0 g1
 have hna':a'.length < 1073741824:=by omega
 rw [← hlen,← hsum]
 clear ha hb hna hnb hlen hsum a b
 have w1:IntKind.i64.wrap ((a'.length:Int) + 1)=(a'.length:Int) + 1:=a0T (by omega) (by omega)
 have hm:=W0f (bytes:=4) (k:=.i64) (k':=.i64) (l:=0) (c:=(a'.length:Int) + 1) (by omega) (by omega) (by omega) (by omega)
 simp [B0y,B0z,B0A,g0,g1,ha'.slen,w1,hm]
 refine b0P (fun k t G'=>∃ i c out s,i + k=a'.length∧t.length=55∧get t 1=w∧get t 5=s∧get t 6=.int .u64 ((c:Nat):Int)∧get t 20=v∧get t 21=.int .i64 a'.length∧get t 22=.int .i64 ((i:Nat):Int) ∧
   Ext G G'∧Own G.size G' a0l 1 s i (c0Y out)∧b0t out∧out.length=i∧c≤1∧a0B out + 4294967296 ^ i * c=a0B (a'.take i) + a0B (b'.take i))
  (fun t G'=>∃ c out s,t.length=55∧get t 5=s∧get t 6=.int .u64 ((c:Nat):Int) ∧
   Ext G G'∧Own G.size G' a0l 1 s a'.length (c0Y out)∧b0t out∧out.length=a'.length∧c≤1∧a0B out + 4294967296 ^ a'.length * c=a0B a' + a0B b') a'.length ?_ ?_ ?_
 ·exact ⟨0,0,[],.slice (some ⟨G.size,0,none⟩) 0 (a'.length + 1),by omega,by simp,by simp [g1],by simp,by simp,by simp,by simp,by simp,by simp,
   Own.mk (by simp [c0Y]) rfl (b1S _),by intro x hx;simp at hx,rfl,by omega,by simp [a0B]⟩
 ·clear g0 g1 hm w1 ht ρ
  rintro k t G' ⟨i,c,out,s,hik,ht,g1,g5,g6,g20,g21,g22,hx,ho,hok,hol,hc,hs⟩
  obtain ⟨ρ,rfl⟩:=toT ht
  simp only [b0N,Nat.reduceLT] at g1 g5 g6 g20 g21 g22
  by_cases hi:i < a'.length
  ·have hla:=ha'.load hi hx
   have hA2:=b0j hi
   have hA3:a'.getD i 0 < 4294967296:=ha'.2 _ (by rw [b1Q,b1V hi];exact c1a hi)
   generalize a'.getD i 0=A at hla hA2 hA3
   have e1:IntKind.u64.wrap ((c:Int) + IntKind.u64.wrap (A:Int))=((c + A:Nat):Int):=by rw [a0N,a0N];omega
   have e9:IntKind.i64.wrap ((i:Int) + 1)=((i + 1:Nat):Int):=by rw [a0T (by omega) (by omega)];omega
   by_cases hib:i < b'.length
   ·have hlb:=hb'.load hib hx
    have hB2:=b0j hib
    have hB3:b'.getD i 0 < 4294967296:=hb'.2 _ (by rw [b1Q,b1V hib];exact c1a hib)
    generalize b'.getD i 0=B at hlb hB2 hB3
    have e2:IntKind.u64.wrap (((c + A:Nat):Int) + IntKind.u64.wrap (B:Int))=((c + A + B:Nat):Int):=by rw [a0N,a0N];omega
    simp [-Int.natCast_add,p0z,s0X,s0Y,s0Z,p0v,p0w,p0x,p0y,g1,g5,g6,g20,g21,g22,hi,ha'.ia hi,hla,hb'.slen,e1,hib,hb'.ia hib,hlb,e2]
    generalize hc2:c + A + B=c2
    refine (a0o hx.1).mono ?_
    rintro _ G2 ⟨rfl,hx2⟩
    obtain ⟨s',G3,h1,h2,h3,h4⟩:=g0s (e2:=a0l) (new:=[.int .u32 ((c2 % 4294967296:Nat):Int)]) (c:=1) (bytes:=4) (ho.mono hx2) rfl rfl (by omega) (by omega) (by omega) (by have:=hx.1;have:=hx2.1;omega)
    simp [-Int.natCast_emod,-Int.natCast_add,h1,g1,g5,g6,g20,g21,g22,e9]
    refine ⟨k - 1,by omega,i + 1,by omega,c2 / 4294967296,rfl,rfl,h4 _ (b1S _) (hx.trans hx2),out ++ [c2 % 4294967296],by simpa [c0Y] using h2,?_,by simp [hol],by omega,?_⟩
    ·intro x hx
     rcases c1s.1 hx with hx | hx
     ·exact hok x hx
     ·simp at hx;omega
    ·rw [d0H,hol,hA2,hB2,c1E]
     have e3:4294967296 ^ i * 4294967296 * (c2 / 4294967296)=4294967296 ^ i * (4294967296 * (c2 / 4294967296)):=c1t ..
     have e4:4294967296 ^ i * (c2 % 4294967296) + 4294967296 ^ i * (4294967296 * (c2 / 4294967296))=4294967296 ^ i * c2:=by rw [← c1n,Nat.mod_add_div]
     have e5:4294967296 ^ i * c2=4294967296 ^ i * c + 4294967296 ^ i * A + 4294967296 ^ i * B:=by rw [← hc2,c1n,c1n]
     omega
   ·have hB2:a0B (b'.take (i + 1))=a0B (b'.take i) + 4294967296 ^ i * 0:=by rw [c1f (by omega),c1f (by omega)];simp
    have hB3:(0:Nat) < 4294967296:=by omega
    have e2:c + A=c + A + 0:=rfl
    rw [e2] at e1
    generalize (0:Nat)=B at hB2 hB3 e1
    simp [-Int.natCast_add,p0z,s0X,s0Y,s0Z,p0v,p0w,p0x,p0y,g1,g5,g6,g20,g21,g22,hi,ha'.ia hi,hla,hb'.slen,e1,hib]
    generalize hc2:c + A + B=c2
    refine (a0o hx.1).mono ?_
    rintro _ G2 ⟨rfl,hx2⟩
    obtain ⟨s',G3,h1,h2,h3,h4⟩:=g0s (e2:=a0l) (new:=[.int .u32 ((c2 % 4294967296:Nat):Int)]) (c:=1) (bytes:=4) (ho.mono hx2) rfl rfl (by omega) (by omega) (by omega) (by have:=hx.1;have:=hx2.1;omega)
    simp [-Int.natCast_emod,-Int.natCast_add,h1,g1,g5,g6,g20,g21,g22,e9]
    refine ⟨k - 1,by omega,i + 1,by omega,c2 / 4294967296,rfl,rfl,h4 _ (b1S _) (hx.trans hx2),out ++ [c2 % 4294967296],by simpa [c0Y] using h2,?_,by simp [hol],by omega,?_⟩
    ·intro x hx
     rcases c1s.1 hx with hx | hx
     ·exact hok x hx
     ·simp at hx;omega
    ·rw [d0H,hol,hA2,hB2,c1E]
     have e3:4294967296 ^ i * 4294967296 * (c2 / 4294967296)=4294967296 ^ i * (4294967296 * (c2 / 4294967296)):=c1t ..
     have e4:4294967296 ^ i * (c2 % 4294967296) + 4294967296 ^ i * (4294967296 * (c2 / 4294967296))=4294967296 ^ i * c2:=by rw [← c1n,Nat.mod_add_div]
     have e5:4294967296 ^ i * c2=4294967296 ^ i * c + 4294967296 ^ i * A + 4294967296 ^ i * B:=by rw [← hc2,c1n,c1n]
     omega
  ·simp [p0z,g1,g5,g6,g20,g21,g22,hi]
   have:i=a'.length:=by omega
   subst this
   refine ⟨c,rfl,hx,out,ho,hok,hol,hc,?_⟩
   rw [hs,c1f (b1S _),c1f hle]
 ·clear g0 g1 hm w1 ht ρ
  rintro t G' ⟨c,out,s,ht,g5,g6,hx,ho,hok,hol,hc,hs⟩
  obtain ⟨ρ,rfl⟩:=toT ht
  simp only [b0N,Nat.reduceLT] at g5 g6
  simp [v0x,g5,g6]
  refine (a0o hx.1).mono ?_
  rintro _ G2 ⟨rfl,hx2⟩
  obtain ⟨s',G3,h1,h2,h3,h4⟩:=g0s (e2:=a0l) (new:=[.int .u32 ((c % 4294967296:Nat):Int)]) (c:=1) (bytes:=4) (ho.mono hx2) rfl rfl (by omega) (by omega) (by omega) (by have:=hx.1;have:=hx2.1;omega)
  simp [-Int.natCast_emod,-Int.natCast_add,h1]
  refine fun _=>⟨out ++ [c % 4294967296],⟨by simpa [hol,c0Y] using h2.sl,?_⟩,?_,by simp [hol]⟩
  ·intro x hx
   rcases c1s.1 hx with hx | hx
   ·exact hok x hx
   ·simp at hx;omega
  ·rw [d0H,hol,c1x (by omega)];exact hs
theorem h0E (ha:Lim H v a) (hb:Lim H w b) (hf:fl≤H.size) (hna:a.length < 1073741824) (hle:b.length≤a.length) (hnat:a0B b≤a0B a) :
  a0S env fl w0E [v,w] H (fun r H'=>(∃ o,Lim H' r o∧a0B o=a0B a - a0B b∧o.length=a.length)∧Ext H H') R:=by
 refine a0g Y0H hf (h:=?_)
 intro ρ h0
 simp only [I0y]
 have hm:=W0f (bytes:=4) (k:=.i64) (k':=.i64) (l:=0) (c:=(a.length:Int)) (by omega) (by omega) (by omega) (by omega)
 simp [B0J,B0K,B0L,B0M,h0,ha.slen,hm]
 refine b0P (fun k t G'=>∃ i c out s,i + k=a.length∧t.length=46∧get t 1=w∧get t 5=s∧get t 6=.int .u64 ((c:Nat):Int)∧get t 14=v∧get t 15=.int .i64 a.length∧get t 16=.int .i64 ((i:Nat):Int) ∧
   Ext H G'∧Own H.size G' a0l 1 s i (c0Y out)∧b0t out∧out.length=i∧c≤1∧a0B out + a0B (b.take i)=a0B (a.take i) + 4294967296 ^ i * c)
  (fun t G'=>∃ c out s,t.length=46∧get t 5=s ∧
   Ext H G'∧Own H.size G' a0l 1 s a.length (c0Y out)∧b0t out∧out.length=a.length∧c≤1∧a0B out + a0B b=a0B a + 4294967296 ^ a.length * c) a.length ?_ ?_ ?_
 ·exact ⟨0,0,[],.slice (some ⟨H.size,0,none⟩) 0 a.length,by omega,by simp,by simp [h0],by simp,by simp,by simp [h0],by simp,by simp,by simp,
   Own.mk (by simp [c0Y]) rfl (b1S _),by intro x hx;simp at hx,rfl,by omega,by simp [a0B]⟩
 ·clear hm h0 ρ
  rintro k t G' ⟨i,c,out,s,hik,ht,g1,g5,g6,g14,g15,g16,hx,ho,hok,hol,hc,hs⟩
  obtain ⟨ρ,rfl⟩:=toT ht
  simp only [b0N,Nat.reduceLT] at g1 g5 g6 g14 g15 g16
  by_cases hi:i < a.length
  ·have hla:=ha.load hi hx
   have hA2:=b0j hi
   have hA3:a.getD i 0 < 4294967296:=ha.2 _ (by rw [b1Q,b1V hi];exact c1a hi)
   generalize a.getD i 0=A at hla hA2 hA3
   have e9:IntKind.i64.wrap ((i:Int) + 1)=((i + 1:Nat):Int):=by rw [a0T (by omega) (by omega)];omega
   by_cases hib:i < b.length
   ·have hlb:=hb.load hib hx
    have hB2:=b0j hib
    have hB3:b.getD i 0 < 4294967296:=hb.2 _ (by rw [b1Q,b1V hib];exact c1a hib)
    generalize b.getD i 0=B at hlb hB2 hB3
    have e2:IntKind.u64.wrap ((c:Int) + IntKind.u64.wrap (B:Int))=((c + B:Nat):Int):=by rw [a0N,a0N];omega
    have e3:IntKind.u64.wrap (IntKind.u64.wrap (A:Int) - ((c + B:Nat):Int))=(((A + 18446744073709551616 - (c + B)) % 18446744073709551616:Nat):Int):=by rw [a0N,a0N];omega
    simp [-Int.natCast_add,-Int.natCast_emod,p0D,t0b,t0c,t0d,t0e,t0f,p0A,p0B,p0C,g1,g5,g6,g14,g15,g16,hi,ha.ia hi,hla,hb.slen,hib,hb.ia hib,hlb,e2,e3]
    generalize hD:(A + 18446744073709551616 - (c + B)) % 18446744073709551616=D
    refine (a0o hx.1).mono ?_
    rintro _ G2 ⟨rfl,hx2⟩
    obtain ⟨s',G3,h1,h2,h3,h4⟩:=g0s (e2:=a0l) (new:=[.int .u32 ((D % 4294967296:Nat):Int)]) (c:=1) (bytes:=4) (ho.mono hx2) rfl rfl (by omega) (by omega) (by omega) (by have:=hx.1;have:=hx2.1;omega)
    simp [-Int.natCast_emod,-Int.natCast_add,h1,g1,g5,g6,g14,g15,g16,e9]
    refine ⟨k - 1,by omega,i + 1,by omega,D / 9223372036854775808,rfl,rfl,h4 _ (b1S _) (hx.trans hx2),out ++ [D % 4294967296],by simpa [c0Y] using h2,?_,by simp [hol],by omega,?_⟩
    ·intro x hx
     rcases c1s.1 hx with hx | hx
     ·exact hok x hx
     ·simp at hx;omega
    ·rw [d0H,hol,hA2,hB2,c1E]
     have e3:4294967296 ^ i * 4294967296 * (D / 9223372036854775808)=4294967296 ^ i * (4294967296 * (D / 9223372036854775808)):=c1t ..
     have e4:D % 4294967296 + c + B=A + 4294967296 * (D / 9223372036854775808):=by omega
     have e5:4294967296 ^ i * (D % 4294967296) + 4294967296 ^ i * c + 4294967296 ^ i * B=4294967296 ^ i * A + 4294967296 ^ i * (4294967296 * (D / 9223372036854775808)):=by
      rw [← c1n,← c1n,← c1n,e4]
     omega
   ·have hB2:a0B (b.take (i + 1))=a0B (b.take i) + 4294967296 ^ i * 0:=by rw [c1f (by omega),c1f (by omega)];simp
    have hB3:(0:Nat) < 4294967296:=by omega
    have e3:IntKind.u64.wrap (IntKind.u64.wrap (A:Int) - (c:Int))=(((A + 18446744073709551616 - (c + 0)) % 18446744073709551616:Nat):Int):=by rw [a0N,a0N];omega
    generalize hB:(0:Nat)=B at hB2 hB3 e3
    simp [-Int.natCast_add,-Int.natCast_emod,p0D,t0b,t0c,t0d,t0e,t0f,p0A,p0B,p0C,g1,g5,g6,g14,g15,g16,hi,ha.ia hi,hla,hb.slen,hib,e3]
    generalize hD:(A + 18446744073709551616 - (c + B)) % 18446744073709551616=D
    refine (a0o hx.1).mono ?_
    rintro _ G2 ⟨rfl,hx2⟩
    obtain ⟨s',G3,h1,h2,h3,h4⟩:=g0s (e2:=a0l) (new:=[.int .u32 ((D % 4294967296:Nat):Int)]) (c:=1) (bytes:=4) (ho.mono hx2) rfl rfl (by omega) (by omega) (by omega) (by have:=hx.1;have:=hx2.1;omega)
    simp [-Int.natCast_emod,-Int.natCast_add,h1,g1,g5,g6,g14,g15,g16,e9]
    refine ⟨k - 1,by omega,i + 1,by omega,D / 9223372036854775808,rfl,rfl,h4 _ (b1S _) (hx.trans hx2),out ++ [D % 4294967296],by simpa [c0Y] using h2,?_,by simp [hol],by omega,?_⟩
    ·intro x hx
     rcases c1s.1 hx with hx | hx
     ·exact hok x hx
     ·simp at hx;omega
    ·rw [d0H,hol,hA2,hB2,c1E]
     have e3:4294967296 ^ i * 4294967296 * (D / 9223372036854775808)=4294967296 ^ i * (4294967296 * (D / 9223372036854775808)):=c1t ..
     have e4:D % 4294967296 + c + B=A + 4294967296 * (D / 9223372036854775808):=by omega
     have e5:4294967296 ^ i * (D % 4294967296) + 4294967296 ^ i * c + 4294967296 ^ i * B=4294967296 ^ i * A + 4294967296 ^ i * (4294967296 * (D / 9223372036854775808)):=by
      rw [← c1n,← c1n,← c1n,e4]
     omega
  ·simp [p0D,g1,g5,g6,g14,g15,g16,hi]
   have:i=a.length:=by omega
   subst this
   refine ⟨hx,c,out,ho,hok,hol,hc,?_⟩
   rw [c1f (b1S _),c1f hle] at hs
   exact hs
 ·clear hm h0 ρ
  rintro t G' ⟨c,out,s,ht,g5,hx,ho,hok,hol,hc,hs⟩
  obtain ⟨ρ,rfl⟩:=toT ht
  simp only [b0N,Nat.reduceLT] at g5
  simp [v0y,g5]
  refine fun _=>⟨out,⟨by simpa [hol] using ho.sl,hok⟩,?_,hol⟩
  have h2:=g0B out hok
  rw [hol] at h2
  have:c=0:=by
   refine Decidable.byContradiction fun hc0=>?_
   have:c=1:=by omega
   subst this
   omega
  subst this
  omega
def P0E (a b:List Nat):Int:=if a.length ≠ b.length then c0V a.length b.length else c0V (a0B a) (a0B b)
theorem e0f {x y:Nat}:c0V (x:Int) (y:Int)=if x < y then -1 else if y < x then 1 else 0:=by
 unfold c0V;(repeat' split) <;> omega
theorem z0q {i:Nat} (hab:a.length=b.length) (ha:b0t a) (hb:b0t b) (hi:i < a.length) (he:a.drop (i + 1)=b.drop (i + 1)) (hne:a.getD i 0 ≠ b.getD i 0) :
  c0V (a0B a:Int) (a0B b:Int)=c0V (a.getD i 0:Int) (b.getD i 0:Int):=by
 have h1:a0B a=a0B (a.take i) + 4294967296 ^ i * a.getD i 0 + 4294967296 ^ (i + 1) * a0B (a.drop (i + 1)):=by
  have:=f0I (a.take (i + 1)) (a.drop (i + 1))
  rw [d1F,c1T,c1N (by omega)] at this
  rw [this,b0j hi]
 have h2:a0B b=a0B (b.take i) + 4294967296 ^ i * b.getD i 0 + 4294967296 ^ (i + 1) * a0B (b.drop (i + 1)):=by
  have:=f0I (b.take (i + 1)) (b.drop (i + 1))
  rw [d1F,c1T,c1N (by omega)] at this
  rw [this,b0j (by omega)]
 have h3:=g0B (a.take i) (fun x hx=>ha x (d1I hx))
 have h4:=g0B (b.take i) (fun x hx=>hb x (d1I hx))
 rw [c1T,c1N (by omega)] at h3 h4
 rw [he] at h1
 generalize 4294967296 ^ (i + 1) * a0B (b.drop (i + 1))=Z at h1 h2
 generalize a.getD i 0=x at *
 generalize b.getD i 0=y at *
 generalize 4294967296 ^ i=P at *
 rw [e0f,e0f]
 by_cases hxy:x < y
 ·have:P * (x + 1)≤P * y:=c1v P hxy
  rw [c1n] at this
  rw [b1W (by omega),b1W hxy]
 ·have:P * (y + 1)≤P * x:=c1v P (by omega)
  rw [c1n] at this
  rw [b1T (by omega),b1W (by omega),b1T hxy,b1W (by omega)]
theorem e0T (ha:Lim H v a) (hb:Lim H w b) (hf:fl≤H.size) (hna:a.length < 4611686018427387904) :
  a0S env fl q0G [v,w] H (fun r H'=>r=.int .i64 (P0E a b)∧Ext H H') R:=by
 refine a0g Y0G hf (h:=?_)
 intro ρ h0
 simp only [I0x]
 have w1:IntKind.i64.wrap ((a.length:Int) - 1)=(a.length:Int) - 1:=a0T (by omega) (by omega)
 simp [B0B,B0C,B0D,B0E,h0,ha.slen,hb.slen,w1]
 refine ⟨fun h=>?_,fun hab=>?_⟩
 ·refine (i0w (b1S _)).mono ?_
  rintro _ G ⟨rfl,hx⟩
  simp [P0E,h]
 have hcl:P0E a b=c0V (a0B a) (a0B b):=by simp [P0E,hab]
 rw [hcl]
 refine b0P (fun k t G'=>t.length=41∧get t 0=v∧get t 1=w∧get t 5=.int .i64 ((k:Int) - 1)∧G' = H∧k≤a.length∧a.drop k=b.drop k)
  (fun t G'=>t.length=41∧G' = H∧a=b) a.length (by simp [h0,hab]) ?_ ?_
 ·clear h0 ρ
  rintro k t G' ⟨ht,g0,g1,g5,rfl,hk,hd⟩
  obtain ⟨ρ,rfl⟩:=toT ht
  simp only [b0N,Nat.reduceLT] at g0 g1 g5
  by_cases hk0:k=0
  ·subst hk0
   simp [t0a,g0,g1,g5]
   simpa using hd
  ·have e0:(k:Int) - 1=((k - 1:Nat):Int):=by omega
   have hka:k - 1 < a.length:=by omega
   have hkb:k - 1 < b.length:=by omega
   have hla:=ha.load hka (Ext.refl _)
   have hlb:=hb.load hkb (Ext.refl _)
   have w2:IntKind.i64.wrap (((k - 1:Nat):Int) - 1)=((k - 1:Nat):Int) - 1:=a0T (by omega) (by omega)
   rw [e0] at g5
   have hla':=ha.ia (k:=.i64) hka
   have hlb':=hb.ia (k:=.i64) hkb
   have hh:=z0q hab ha.ok hb.ok hka (by rw [show k - 1 + 1=k by omega];exact hd)
   generalize hA:a.getD (k - 1) 0=A at hla hh
   generalize hB:b.getD (k - 1) 0=B at hlb hh
   simp [t0a,g0,g1,g5]
   refine a0F ?_
   simp [B0F,g0,g1,g5,hla,hla',hlb,hlb']
   refine ⟨fun hne=>?_,fun heq=>?_⟩
   ·refine a0F ?_
    simp [B0G,g0,g1,g5,hla,hla',hlb,hlb']
    refine (g0C (b1S _)).mono ?_
    rintro _ G ⟨rfl,hx⟩
    simp [hh hne]
   ·simp [B0H,g0,g1,g5,w2]
    refine ⟨k - 1,by omega,rfl,by omega,?_⟩
    rw [c1V hka,c1V hkb,show k - 1 + 1=k by omega,hd]
    congr 1
    rw [b1Q,b1V hka] at hA
    rw [b1Q,b1V hkb] at hB
    simp at hA hB;omega
 ·clear h0 ρ
  rintro t G' ⟨ht,rfl,rfl⟩
  obtain ⟨ρ,rfl⟩:=toT ht
  simp [B0I,c0V]
end
section
open Go
variable {fl:Nat} {H:a0e} {R:a0u} {v:Value} {i:Bool × List Nat} {a b:List Nat}
theorem b0r.ok (h:b0r H v i):b0t i.2:=by obtain ⟨s,_,hs⟩:=h;exact hs.ok
theorem G0x {l:List Nat} (h:l.length=0 ∨ l.getD (l.length - 1) 0 ≠ 0):d0v l=l:=by
 rcases List.eq_nil_or_concat l with rfl | ⟨l',x,rfl⟩
 ·rfl
 ·have:x ≠ 0:=by
   rcases h with h | h
   ·simp at h
   ·simpa [b1Q] using h
  rw [List.concat_eq_append];exact j0A this
theorem l0a (i:Bool × List Nat):d0v (f0p i)=f0p i:=by
 unfold f0p
 by_cases h:l0e i=true
 ·rw [b1W h]
  refine G0x ?_
  unfold l0e at h
  by_cases h0:i.2.length=0
  ·exact .inl h0
  ·rw [b1T h0] at h;exact .inr (by simpa using h)
 ·rw [b1T h];rfl
theorem z0j (h:b0t i.2):b0t (f0p i):=by
 unfold f0p;split
 ·exact h
 ·intro x hx;simp at hx
theorem J0z (i:Bool × List Nat):(a0P i).natAbs=a0B (f0p i):=by
 unfold a0P f0p
 by_cases h:l0e i=true
 ·rw [b1W h,b1W h];split <;> omega
 ·rw [b1T h,b1T h];rfl
theorem q0U (h:b0t i.2):f0p i=a0K (a0P i).natAbs:=by
 rw [J0z,← f0a _ (z0j h),l0a]
theorem Q0q (i:Bool × List Nat):W0g i=decide (a0P i < 0):=by
 unfold W0g a0P
 by_cases h:l0e i=true
 ·rw [b1W h,h,Bool.true_and]
  by_cases hn:i.1=true
  ·have h0:a0B i.2 ≠ 0:=by
    intro h0
    have h1:=(i0t i.2).1 h0
    have h2:=l0a i
    unfold f0p at h2
    rw [b1W h,h1] at h2
    unfold l0e at h
    rw [← h2] at h
    simp [hn] at h
   rw [b1W hn,hn];simp;omega
  ·rw [b1T hn];simp [hn]
 ·rw [b1T h];simp [h]
theorem w0U (i:Bool × List Nat):(f0p i).length≤i.2.length:=by unfold f0p;split <;> simp
theorem a0V (h:b0t i.2):(a0K (a0P i).natAbs).length≤i.2.length:=by rw [← q0U h];exact w0U i
theorem b0o {m n:Nat} (h:m≤n):(a0K m).length≤(a0K n).length:=h0e (Nat.lt_of_le_of_lt h (l0d n))
theorem f0B (m n:Nat):P0E (a0K m) (a0K n)=c0V m n:=by
 unfold P0E
 rw [a0J,a0J]
 split
 ·rename_i h
  rw [e0f,e0f]
  by_cases hmn:m < n
  ·have:=b0o (Nat.le_of_lt hmn)
   rw [b1W hmn,b1W (by omega)]
  ·have:=b0o (show n≤m by omega)
   have hne:m ≠ n:=fun h2=>h (by rw [h2])
   rw [b1T hmn,b1W (by omega:n < m),b1T (by omega),b1W (by omega)]
 ·rfl
theorem b0J (h:b0r H v i) (hf:fl≤H.size) (hn:i.2.length < 4611686018427387904) :
  a0S env fl f0D [v] H (fun r H'=>Lim H' r (a0K (a0P i).natAbs)∧Ext H H') R:=by
 rw [← q0U h.ok];exact m0K h hf hn
theorem b0v (h:b0r H v i) (hf:fl≤H.size) (hn:i.2.length < 4611686018427387904) :
  a0S env fl d0V [v] H (fun r H'=>r=.bool (decide (a0P i < 0))∧Ext H H') R:=by
 rw [← Q0q];exact r0e h hf hn
theorem c0b {l:List Nat} {b:Bool} (z:Int) (h:Lim H v l) (hf:fl≤H.size) (hn:l.length≤1073741824) (hz:(if b then -(a0B l:Int) else a0B l)=z) :
  a0S env fl g0f [.bool b,v] H (fun r H'=>b0r H' r (a0m z)∧Ext H H') R:=by
 rw [← hz,← J0Z h.ok];exact o0S h hf hn
theorem b0r.setT (h:b0r H v i) {p:Nat} {ro:Bool} {e':TypeId} {cs':List Value} {r:Blk} (hb:H.blk p=.row ro e' cs') (hne:e' ≠ a0l):b0r (H.setIfInBounds p r) v i:=by
 obtain ⟨s,h1,h2⟩:=h;exact ⟨s,h1,h2.setT hb hne⟩
end
section
open Go
set_option maxHeartbeats 4000000
variable {fl:Nat} {H:a0e} {R:a0u} {v w:Value} {i j:Bool × List Nat}
theorem e0i (h:b0r H v i) (hf:fl≤H.size) (hn:i.2.length≤1073741824) :
  a0S env fl H0n [v] H (fun r H'=>b0r H' r (a0m (-a0P i))∧Ext H H') R:=by
 have hh:=h
 obtain ⟨s,rfl,hs⟩:=h
 refine a0g b1w hf (h:=?_)
 intro ρ h0
 simp [X0f,N0Z,h0]
 generalize hG:Array.push (Array.push H _) _=G
 have hx:Ext H G:=by rw [← hG];simp
 have b0:a0e.blk G H.size=.row false a0a [.bool i.1,s]:=by rw [← hG];simp
 have b1:a0e.blk G (H.size + 1)=.row false a0a [.bool false,.slice none 0 0]:=by rw [← hG];simp
 have hz:H.size + 1 < G.size:=a0j b1
 refine a0F ?_
 simp [O0a,h0,b0,b1]
 refine (b0v (hh.mono hx) (by omega) (by omega)).mono ?_
 rintro _ G2 ⟨rfl,hx2⟩
 replace b0:=hx2.blk b0
 replace b1:=hx2.blk b1
 replace hx:=hx.trans hx2
 simp [h0,b0,b1]
 refine (b0J (hh.mono hx) hx.1 (by omega)).mono ?_
 rintro l G3 ⟨hl,hx3⟩
 replace b1:=hx3.blk b1
 replace hx:=hx.trans hx3
 try simp [h0]
 have:=a0V hh.ok
 refine (c0b (-a0P i) hl hx.1 (by omega) (by rw [a0J];simp;split <;> omega)).mono ?_
 rintro _ G4 ⟨⟨s',rfl,hs'⟩,hx4⟩
 replace b1:=hx4.blk b1
 have hz:=a0j b1
 simp [b1,hs'.cells,hs'.plain,hz]
 exact fun _=>⟨s',rfl,hs'.setT b1 (by decide)⟩
theorem e0h (h:b0r H v i) (k:b0r H w j) (hf:fl≤H.size) (hn:i.2.length < 536870912) (hm:j.2.length < 536870912) :
  a0S env fl y0V [v,w] H (fun r H'=>b0r H' r (a0m (a0P i + a0P j))∧Ext H H') R:=by
 have hh:=h
 have kk:=k
 obtain ⟨s,rfl,hs⟩:=h
 obtain ⟨u,rfl,hu⟩:=k
 refine a0g b1E hf (h:=?_)
 intro ρ h0
 simp [X0n,O0C,h0]
 generalize hG:Array.push (Array.push (Array.push H _) _) _=G
 have hx:Ext H G:=by rw [← hG];exact (Ext.refl H).push.push.push
 have b0:a0e.blk G H.size=.row false a0a [.bool i.1,s]:=by rw [← hG];simp
 have b1:a0e.blk G (H.size + 1)=.row false a0a [.bool j.1,u]:=by rw [← hG];simp
 have b2:a0e.blk G (H.size + 2)=.row false a0a [.bool false,.slice none 0 0]:=by rw [← hG];simp
 have hz:H.size + 1 < G.size:=a0j b1
 clear hG
 refine a0F ?_
 simp [O0D,h0,b0,b1]
 refine (b0J (hh.mono hx) (by omega) (by omega)).mono ?_
 rintro x G2 ⟨hl,hx2⟩
 replace b0:=hx2.blk b0
 replace b1:=hx2.blk b1
 replace b2:=hx2.blk b2
 replace hx:=hx.trans hx2
 try simp [h0,b0,b1]
 refine (b0J (kk.mono hx) hx.1 (by omega)).mono ?_
 rintro y G3 ⟨hl2,hx3⟩
 replace b0:=hx3.blk b0
 replace b1:=hx3.blk b1
 replace b2:=hx3.blk b2
 replace hx:=hx.trans hx3
 replace hl:=hl.mono hx3
 try simp [h0]
 refine a0F ?_
 simp [O0E,h0,b0,b1]
 refine (b0v (hh.mono hx) (by have:=hx.1;omega) (by omega)).mono ?_
 rintro _ G2 ⟨rfl,hx2⟩
 replace b0:=hx2.blk b0
 replace b1:=hx2.blk b1
 replace b2:=hx2.blk b2
 replace hx:=hx.trans hx2
 replace hl:=hl.mono hx2
 replace hl2:=hl2.mono hx2
 try simp [h0,b0,b1]
 refine (b0v (kk.mono hx) hx.1 (by omega)).mono ?_
 rintro _ G2 ⟨rfl,hx2⟩
 replace b0:=hx2.blk b0
 replace b1:=hx2.blk b1
 replace b2:=hx2.blk b2
 replace hx:=hx.trans hx2
 replace hl:=hl.mono hx2
 replace hl2:=hl2.mono hx2
 clear hs hu hz hx2
 have l1:=a0V hh.ok
 have l2:=a0V kk.ok
 simp [h0]
 refine ⟨fun hsame=>?_,fun hdiff=>?_⟩
 ·simp [O0F,h0,b0]
  refine (b0v (hh.mono hx) hx.1 (by omega)).mono ?_
  rintro _ G2 ⟨rfl,hx2⟩
  replace b0:=hx2.blk b0
  replace b1:=hx2.blk b1
  replace b2:=hx2.blk b2
  replace hx:=hx.trans hx2
  replace hl:=hl.mono hx2
  replace hl2:=hl2.mono hx2
  try simp [h0]
  refine (o0T hl hl2 hx.1 (by omega) (by omega)).mono ?_
  rintro r G2 ⟨⟨o,ho,hon,hol⟩,hx2⟩
  replace b0:=hx2.blk b0
  replace b1:=hx2.blk b1
  replace b2:=hx2.blk b2
  replace hx:=hx.trans hx2
  replace hl:=hl.mono hx2
  replace hl2:=hl2.mono hx2
  try simp [h0]
  rw [a0J,a0J] at hon
  refine (c0b (a0P i + a0P j) ho hx.1 (by omega) (by rw [hon];simp;split <;> omega)).mono ?_
  rintro _ G2 ⟨⟨s',rfl,hs'⟩,hx2⟩
  replace b0:=hx2.blk b0
  replace b1:=hx2.blk b1
  replace b2:=hx2.blk b2
  replace hx:=hx.trans hx2
  replace hl:=hl.mono hx2
  replace hl2:=hl2.mono hx2
  have hz:=a0j b2
  simp [b2,hs'.cells,hs'.plain,hz]
  exact fun _=>⟨s',rfl,hs'.setT b2 (by decide)⟩
 ·simp [O0G,h0]
  refine (e0T hl hl2 hx.1 (by omega)).mono ?_
  rintro _ G2 ⟨rfl,hx2⟩
  replace b0:=hx2.blk b0
  replace b1:=hx2.blk b1
  replace b2:=hx2.blk b2
  replace hx:=hx.trans hx2
  replace hl:=hl.mono hx2
  replace hl2:=hl2.mono hx2
  rw [f0B,e0f]
  try simp [h0]
  refine ⟨fun hge=>?_,fun hlt=>?_⟩
  ·have hab:(a0P j).natAbs≤(a0P i).natAbs:=by
    (repeat' split at hge) <;> omega
   simp [O0H,h0,b0]
   refine (b0v (hh.mono hx) hx.1 (by omega)).mono ?_
   rintro _ G2 ⟨rfl,hx2⟩
   replace b0:=hx2.blk b0
   replace b1:=hx2.blk b1
   replace b2:=hx2.blk b2
   replace hx:=hx.trans hx2
   replace hl:=hl.mono hx2
   replace hl2:=hl2.mono hx2
   try simp [h0]
   refine (h0E hl hl2 hx.1 (by omega) (b0o hab) (by rw [a0J,a0J];exact hab)).mono ?_
   rintro r G2 ⟨⟨o,ho,hon,hol⟩,hx2⟩
   replace b0:=hx2.blk b0
   replace b1:=hx2.blk b1
   replace b2:=hx2.blk b2
   replace hx:=hx.trans hx2
   replace hl:=hl.mono hx2
   replace hl2:=hl2.mono hx2
   try simp [h0]
   rw [a0J,a0J] at hon
   refine (c0b (a0P i + a0P j) ho hx.1 (by omega) (by rw [hon];simp;split <;> omega)).mono ?_
   rintro _ G2 ⟨⟨s',rfl,hs'⟩,hx2⟩
   replace b0:=hx2.blk b0
   replace b1:=hx2.blk b1
   replace b2:=hx2.blk b2
   replace hx:=hx.trans hx2
   replace hl:=hl.mono hx2
   replace hl2:=hl2.mono hx2
   have hz:=a0j b2
   simp [b2,hs'.cells,hs'.plain,hz]
   exact fun _=>⟨s',rfl,hs'.setT b2 (by decide)⟩
  ·have hab:(a0P i).natAbs≤(a0P j).natAbs:=by
    (repeat' split at hlt) <;> omega
   simp [O0I,h0,b1]
   refine (b0v (kk.mono hx) hx.1 (by omega)).mono ?_
   rintro _ G2 ⟨rfl,hx2⟩
   replace b0:=hx2.blk b0
   replace b1:=hx2.blk b1
   replace b2:=hx2.blk b2
   replace hx:=hx.trans hx2
   replace hl:=hl.mono hx2
   replace hl2:=hl2.mono hx2
   try simp [h0]
   refine (h0E hl2 hl hx.1 (by omega) (b0o hab) (by rw [a0J,a0J];exact hab)).mono ?_
   rintro r G2 ⟨⟨o,ho,hon,hol⟩,hx2⟩
   replace b0:=hx2.blk b0
   replace b1:=hx2.blk b1
   replace b2:=hx2.blk b2
   replace hx:=hx.trans hx2
   replace hl:=hl.mono hx2
   replace hl2:=hl2.mono hx2
   try simp [h0]
   rw [a0J,a0J] at hon
   refine (c0b (a0P i + a0P j) ho hx.1 (by omega) (by rw [hon];simp;split <;> omega)).mono ?_
   rintro _ G2 ⟨⟨s',rfl,hs'⟩,hx2⟩
   replace b0:=hx2.blk b0
   replace b1:=hx2.blk b1
   replace b2:=hx2.blk b2
   replace hx:=hx.trans hx2
   replace hl:=hl.mono hx2
   replace hl2:=hl2.mono hx2
   have hz:=a0j b2
   simp [b2,hs'.cells,hs'.plain,hz]
   exact fun _=>⟨s',rfl,hs'.setT b2 (by decide)⟩
theorem z0h (z:Int):(a0m z).2.length=(a0K z.natAbs).length:=rfl
theorem r0d (h:b0r H v i) (k:b0r H w j) (hf:fl≤H.size) (hn:i.2.length < 536870912) (hm:j.2.length < 536870912) :
  a0S env fl y0S [v,w] H (fun r H'=>b0r H' r (a0m (a0P i - a0P j))∧Ext H H') R:=by
 have hh:=h
 have kk:=k
 obtain ⟨s,rfl,hs⟩:=h
 obtain ⟨u,rfl,hu⟩:=k
 refine a0g Z0o hf (h:=?_)
 intro ρ h0
 simp [J0f,E0u,h0]
 generalize hG:Array.push (Array.push (Array.push H _) _) _=G
 have hx:Ext H G:=by rw [← hG];exact (Ext.refl H).push.push.push
 have b0:a0e.blk G H.size=.row false a0a [.bool i.1,s]:=by rw [← hG];simp
 have b1:a0e.blk G (H.size + 1)=.row false a0a [.bool j.1,u]:=by rw [← hG];simp
 have b2:a0e.blk G (H.size + 2)=.row false a0a [.bool false,.slice none 0 0]:=by rw [← hG];simp
 clear hG
 refine a0F ?_
 simp [E0v,h0,b0,b1]
 refine (e0i (kk.mono hx) (by have:=hx.1;omega) (by omega)).mono ?_
 rintro x G2 ⟨hl,hx2⟩
 replace b0:=hx2.blk b0
 replace b1:=hx2.blk b1
 replace b2:=hx2.blk b2
 replace hx:=hx.trans hx2
 try simp [h0]
 have hlen:(a0m (-a0P j)).2.length < 536870912:=by
  rw [z0h,Int.natAbs_neg];have:=a0V kk.ok;omega
 refine (e0h (hh.mono hx) hl hx.1 hn hlen).mono ?_
 rintro _ G2 ⟨⟨s',rfl,hs'⟩,hx2⟩
 replace b0:=hx2.blk b0
 replace b1:=hx2.blk b1
 replace b2:=hx2.blk b2
 replace hx:=hx.trans hx2
 have hz:=a0j b2
 simp [b2,hs'.cells,hs'.plain,hz]
 rw [a0k] at hs' ⊢
 exact fun _=>⟨s',by rw [e1f],by rw [e1f];exact hs'.setT b2 (by decide)⟩
theorem d0y (h:b0r H v i) (k:b0r H w j) (hf:fl≤H.size) (hn:i.2.length < 536870912) (hm:j.2.length < 536870912) :
  a0S env fl m0y [v,w] H (fun r H'=>r=.int .i64 (c0V (a0P i) (a0P j))∧Ext H H') R:=by
 have hh:=h
 have kk:=k
 obtain ⟨s,rfl,hs⟩:=h
 obtain ⟨u,rfl,hu⟩:=k
 refine a0g Y0L hf (h:=?_)
 intro ρ h0
 simp [I0C,B0V,h0]
 generalize hG:Array.push (Array.push H _) _=G
 have hx:Ext H G:=by rw [← hG];exact (Ext.refl H).push.push
 have b0:a0e.blk G H.size=.row false a0a [.bool i.1,s]:=by rw [← hG];simp
 have b1:a0e.blk G (H.size + 1)=.row false a0a [.bool j.1,u]:=by rw [← hG];simp
 clear hG
 simp [B0W,h0,b0,b1]
 have l1:=a0V hh.ok
 have l2:=a0V kk.ok
 refine (b0v (hh.mono hx) hx.1 (by omega)).mono ?_
 rintro _ G2 ⟨rfl,hx2⟩
 replace b0:=hx2.blk b0
 replace b1:=hx2.blk b1
 replace hx:=hx.trans hx2
 by_cases hI:a0P i < 0
 ·simp [hI,b1]
  refine (b0v (kk.mono hx) hx.1 (by omega)).mono ?_
  rintro _ G2 ⟨rfl,hx2⟩
  replace b0:=hx2.blk b0
  replace b1:=hx2.blk b1
  replace hx:=hx.trans hx2
  by_cases hJ:a0P j < 0
  ·simp [hJ,t0g,h0,b0,b1]
   refine (b0v (hh.mono hx) hx.1 (by omega)).mono ?_
   rintro _ G2 ⟨rfl,hx2⟩
   replace b0:=hx2.blk b0
   replace b1:=hx2.blk b1
   replace hx:=hx.trans hx2
   simp [hI,t0h,h0,b0,b1]
   refine (b0v (hh.mono hx) hx.1 (by omega)).mono ?_
   rintro _ G2 ⟨rfl,hx2⟩
   replace b0:=hx2.blk b0
   replace b1:=hx2.blk b1
   replace hx:=hx.trans hx2
   simp [hI,h0]
   refine a0F ?_
   simp [B0Z,h0,b0,b1]
   refine (b0J (kk.mono hx) (by have:=hx.1;omega) (by omega)).mono ?_
   rintro x G2 ⟨hl,hx2⟩
   replace b0:=hx2.blk b0
   replace b1:=hx2.blk b1
   replace hx:=hx.trans hx2
   try simp [h0,b0]
   refine (b0J (hh.mono hx) hx.1 (by omega)).mono ?_
   rintro y G2 ⟨hl2,hx2⟩
   replace hl:=hl.mono hx2
   replace b0:=hx2.blk b0
   replace b1:=hx2.blk b1
   replace hx:=hx.trans hx2
   try simp [h0,b0]
   refine (e0T hl hl2 hx.1 (by omega)).mono ?_
   rintro _ G2 ⟨rfl,hx2⟩
   rw [f0B,e0f]
   have:(if (a0P j).natAbs < (a0P i).natAbs then (-1:Int) else if (a0P i).natAbs < (a0P j).natAbs then 1 else 0)=c0V (a0P i) (a0P j):=by
    unfold c0V;(repeat' split) <;> omega
   simp [this]
  ·simp [hJ,B0X,h0]
   have:c0V (a0P i) (a0P j) = -1:=by unfold c0V;rw [b1W (by omega)]
   simp [this]
 ·simp [hI,t0g,h0,b0,b1]
  refine (b0v (hh.mono hx) hx.1 (by omega)).mono ?_
  rintro _ G2 ⟨rfl,hx2⟩
  replace b0:=hx2.blk b0
  replace b1:=hx2.blk b1
  replace hx:=hx.trans hx2
  simp [hI,h0,b1]
  refine (b0v (kk.mono hx) hx.1 (by omega)).mono ?_
  rintro _ G2 ⟨rfl,hx2⟩
  replace b0:=hx2.blk b0
  replace b1:=hx2.blk b1
  replace hx:=hx.trans hx2
  by_cases hJ:a0P j < 0
  ·simp [hJ,B0Y,h0]
   have:c0V (a0P i) (a0P j)=1:=by unfold c0V;rw [b1T (by omega),b1W (by omega)]
   simp [this]
  ·simp [hJ,t0h,h0,b0]
   refine (b0v (hh.mono hx) hx.1 (by omega)).mono ?_
   rintro _ G2 ⟨rfl,hx2⟩
   replace b0:=hx2.blk b0
   replace b1:=hx2.blk b1
   replace hx:=hx.trans hx2
   simp [hI,h0]
   refine a0F ?_
   simp [C0a,h0,b0,b1]
   refine (b0J (hh.mono hx) (by have:=hx.1;omega) (by omega)).mono ?_
   rintro x G2 ⟨hl,hx2⟩
   replace b0:=hx2.blk b0
   replace b1:=hx2.blk b1
   replace hx:=hx.trans hx2
   try simp [h0,b1]
   refine (b0J (kk.mono hx) hx.1 (by omega)).mono ?_
   rintro y G2 ⟨hl2,hx2⟩
   replace hl:=hl.mono hx2
   replace b0:=hx2.blk b0
   replace b1:=hx2.blk b1
   replace hx:=hx.trans hx2
   try simp [h0,b0]
   refine (e0T hl hl2 hx.1 (by omega)).mono ?_
   rintro _ G2 ⟨rfl,hx2⟩
   rw [f0B,e0f]
   have:(if (a0P i).natAbs < (a0P j).natAbs then (-1:Int) else if (a0P j).natAbs < (a0P i).natAbs then 1 else 0)=c0V (a0P i) (a0P j):=by
    unfold c0V;(repeat' split) <;> omega
   simp [this]
theorem c0f {n:Int} (hf:fl≤H.size) (h1:-9223372036854775808≤n) (h2:n < 9223372036854775808) :
  a0S env fl j0b [.int .i64 n] H (fun r H'=>b0r H' r (a0m n)∧Ext H H') R:=by
 refine a0g Y0u hf (h:=?_)
 intro ρ h0
 simp only [I0l]
 refine g0d (j0Y ?_)
 simp [-u0l,A0s,h0]
 generalize hG:Array.push H _=G
 have hx:Ext H G:=by rw [← hG];exact (Ext.refl H).push
 have b2:a0e.blk G H.size=.row false a0a [.bool false,.slice none 0 0]:=by rw [← hG];simp
 clear hG
 refine g0d (j0Y ?_)
 simp [-u0l,A0t,h0]
 refine g0d (S0O (fun t G'=>G' = G∧t.length=19∧get t 0=.int .i64 n∧get t 2=.pointer (some ⟨H.size,0,none⟩)∧get t 3=.int .u64 ((n.natAbs:Nat):Int)) ?_ ?_)
 ·have e1:0≤n→IntKind.u64.wrap n=((n.natAbs:Nat):Int):=fun _=>by rw [a0N];omega
  have e2:n < 0→IntKind.u64.wrap (-IntKind.u64.wrap n)=((n.natAbs:Nat):Int):=fun _=>by rw [a0N,a0N];omega
  simp [A0u,A0v,h0]
  exact ⟨e2,e1⟩
 clear h0 ρ
 rintro t G' ⟨rfl,ht,g0,g2,g3⟩
 obtain ⟨ρ,rfl⟩:=toT ht
 simp only [b0N,Nat.reduceLT] at g0 g2 g3
 simp [A0w,g0,g2,g3]
 refine (a0o hx.1).mono ?_
 rintro _ G2 ⟨rfl,hx2⟩
 replace b2:=hx2.blk b2
 replace hx:=hx.trans hx2
 try simp [g0,g2,g3]
 rw [show ((n.natAbs:Nat):Int) / 4294967296=((n.natAbs / 4294967296:Nat):Int) by omega]
 refine (a0o hx.1).mono ?_
 rintro _ G2 ⟨rfl,hx2⟩
 replace b2:=hx2.blk b2
 replace hx:=hx.trans hx2
 simp
 have hl:Lim (Array.push G2 (.row false a0l [.int .u32 (((n.natAbs:Nat):Int) % 4294967296),.int .u32 (((n.natAbs:Nat):Int) / 4294967296 % 4294967296)]))
   (.slice (some ⟨Array.size G2,0,none⟩) 2 2) [n.natAbs % 4294967296,n.natAbs / 4294967296 % 4294967296]:=by
  refine ⟨(Own.mk (fl:=0) (n:=2) (sz:=1) (cs:=c0Y [n.natAbs % 4294967296,n.natAbs / 4294967296 % 4294967296]) ?_ rfl (c1S _)).sl,?_⟩
  ·rw [a0v];simp [c0Y]
  ·intro x hx;simp at hx;omega
 have hx2:Ext G2 (Array.push G2 (.row false a0l [.int .u32 (((n.natAbs:Nat):Int) % 4294967296),.int .u32 (((n.natAbs:Nat):Int) / 4294967296 % 4294967296)])):=(Ext.refl G2).push
 replace b2:=hx2.blk b2
 replace hx:=hx.trans hx2
 refine (c0b n hl hx.1 (by simp) (by simp [a0B];split <;> omega)).mono ?_
 rintro _ G2 ⟨⟨s',rfl,hs'⟩,hx2⟩
 replace b2:=hx2.blk b2
 replace hx:=hx.trans hx2
 have hz:=a0j b2
 simp [b2,hs'.cells,hs'.plain,hz]
 exact fun _=>⟨s',rfl,hs'.setT b2 (by decide)⟩
theorem o0P:∀ (l:List Nat) (j z:Nat),j < l.length→a0B (l.set j z) + 4294967296 ^ j * l.getD j 0=a0B l + 4294967296 ^ j * z
 | [],j,z,h=>by simp at h
 | x :: l,0,z,_=>by simp [a0B];omega
 | x :: l,j + 1,z,h=>by
  have ih:=o0P l j z (by simpa using h)
  rw [List.set_cons_succ,List.getD_cons_succ,a0B,a0B,c1E]
  have e1:4294967296 ^ j * 4294967296 * l.getD j 0=4294967296 * (4294967296 ^ j * l.getD j 0):=by rw [c1q (4294967296 ^ j),c1t]
  have e2:4294967296 ^ j * 4294967296 * z=4294967296 * (4294967296 ^ j * z):=by rw [c1q (4294967296 ^ j),c1t]
  rw [e1,e2];omega
theorem d0L (l:List Nat) (j z:Nat):c0Y (l.set j z)=(c0Y l).set j (.int .u32 (z:Nat)):=by simp [c0Y,List.map_set]
theorem e0c {l:List Nat} {j z:Nat} (h:b0t l) (hz:z < 4294967296):b0t (l.set j z):=by
 intro x hx
 rcases List.mem_or_eq_of_mem_set hx with hx | rfl
 ·exact h x hx
 ·exact hz
theorem k0r {G:a0e} {e n p cap:Nat} {l:List Nat} (hb:G.blk p=.row false e (c0Y l)) {k:IntKind} {z:Nat} (hz:z < l.length) (hn:l.length=n) :
  iaV 1 (.slice (some ⟨p,0,none⟩) n cap) (.int k (z:Int))=some (.pointer (some ⟨p,z,none⟩))∧rd (G.blk p) z=some (.int .u32 ((l.getD z 0:Nat):Int)):=by
 refine ⟨?_,?_⟩
 ·simp only [iaV];rw [b1W (by omega)];simp
 ·rw [hb];simp [c0Y,b1Q,hz]
theorem e0P {l:List Nat} {a b z:Nat} (h:a ≠ b):(l.set a z).getD b 0=l.getD b 0:=by
 rw [b1Q,b1Q,List.getElem?_set_ne h]
theorem b0y (h:b0r H v i) (k:b0r H w j) (hf:fl≤H.size) (hn:i.2.length < 268435456) (hm:j.2.length < 268435456) :
  a0S env fl q0N [v,w] H (fun r H'=>b0r H' r (a0m (a0P i * a0P j))∧Ext H H') R:=by
 have hh:=h
 have kk:=k
 obtain ⟨s,rfl,hs⟩:=h
 obtain ⟨u,rfl,hu⟩:=k
 refine a0g b1F hf (h:=?_)
 intro ρ h0
 simp [X0o,O0J,h0]
 generalize hG:Array.push (Array.push (Array.push H _) _) _=G
 have hx:Ext H G:=by rw [← hG];exact (Ext.refl H).push.push.push
 have b0:a0e.blk G H.size=.row false a0a [.bool i.1,s]:=by rw [← hG];simp
 have b1:a0e.blk G (H.size + 1)=.row false a0a [.bool j.1,u]:=by rw [← hG];simp
 have b2:a0e.blk G (H.size + 2)=.row false a0a [.bool false,.slice none 0 0]:=by rw [← hG];simp
 clear hG
 have l1:=a0V hh.ok
 have l2:=a0V kk.ok
 refine a0F ?_
 simp [O0K,h0,b0,b1]
 refine (b0J (hh.mono hx) (by have:=hx.1;omega) (by omega)).mono ?_
 rintro x G2 ⟨hl,hx2⟩
 replace b0:=hx2.blk b0
 replace b1:=hx2.blk b1
 replace b2:=hx2.blk b2
 replace hx:=hx.trans hx2
 try simp [h0,b1]
 refine (b0J (kk.mono hx) hx.1 (by omega)).mono ?_
 rintro y G2 ⟨hl2,hx2⟩
 replace hl:=hl.mono hx2
 replace b0:=hx2.blk b0
 replace b1:=hx2.blk b1
 replace b2:=hx2.blk b2
 replace hx:=hx.trans hx2
 generalize hA:a0K (a0P i).natAbs=A at hl l1
 generalize hB:a0K (a0P j).natAbs=B at hl2 l2
 have w1:IntKind.i64.wrap ((A.length:Int) + (B.length:Int))=((A.length + B.length:Nat):Int):=by rw [a0T (by omega) (by omega)];omega
 have hmk:=f0H (bytes:=4) (k:=.i64) (k':=.i64) (l:=A.length + B.length) (c:=A.length + B.length) (b1S _) (by omega) (by omega)
 simp [-Int.natCast_add,O0L,O0M,h0,hl.slen,hl2.slen,w1,hmk]
 have hP:H.size≤G2.size:=hx.1
 generalize hPd:G2.size=P at hP
 generalize hSL:Value.slice (some ⟨P,0,none⟩) (A.length + B.length) (A.length + B.length)=SL
 refine b0P (fun k t G'=>∃ a o,a + k=A.length∧t.length=78∧get t 2=.pointer (some ⟨H.size,0,none⟩)∧get t 3=.pointer (some ⟨H.size + 1,0,none⟩)∧get t 4=.pointer (some ⟨H.size + 2,0,none⟩) ∧
   get t 6=y∧get t 7=SL∧get t 23=x∧get t 24=.int .i64 A.length∧get t 25=.int .i64 ((a:Nat):Int) ∧
   Ext G2 G'∧a0e.blk G' P=.row false a0l (c0Y o)∧o.length=A.length + B.length∧b0t o∧a0B o=a0B (A.take a) * a0B B∧∀ q,a + B.length≤q→o.getD q 0=0)
  (fun t G'=>∃ o,t.length=78∧get t 2=.pointer (some ⟨H.size,0,none⟩)∧get t 3=.pointer (some ⟨H.size + 1,0,none⟩)∧get t 4=.pointer (some ⟨H.size + 2,0,none⟩)∧get t 7=SL ∧
   Ext G2 G'∧a0e.blk G' P=.row false a0l (c0Y o)∧o.length=A.length + B.length∧b0t o∧a0B o=a0B A * a0B B) A.length ?_ ?_ ?_
 ·refine ⟨0,List.replicate (A.length + B.length) 0,by omega,by simp,by simp,by simp,by simp,by simp,by simp,by simp,by simp,by simp,Ext.push (Ext.refl _),?_,by simp,?_,?_,?_⟩
  ·rw [← hPd,a0v]
   congr 1
   generalize A.length + B.length=n
   induction n with
   | zero=>rfl
   | succ n ih=>rw [e0r,ih];rfl
  ·intro z hz;rw [e1g] at hz;omega
  ·simp only [e1v,a0B,e1O]
   generalize A.length + B.length=n
   induction n with
   | zero=>rfl
   | succ n ih=>rw [List.replicate_succ,a0B,ih]
  ·intro q _;rw [b1Q,d1Z];split <;> rfl
 ·clear h0 ρ w1 hmk
  rintro k t G' ⟨a,o,hak,ht,g2,g3,g4,g6,g7,g23,g24,g25,hx2,hb,hol,hok,hs,hz⟩
  obtain ⟨ρ,rfl⟩:=toT ht
  simp only [b0N,Nat.reduceLT] at g2 g3 g4 g6 g7 g23 g24 g25
  by_cases ha:a < A.length
  ·have hla:=hl.load ha hx2
   have hia:=hl.ia (k:=.i64) ha
   have hA2:=b0j ha
   have hA3:A.getD a 0 < 4294967296:=hl.2 _ (by rw [b1Q,b1V ha];exact c1a ha)
   generalize A.getD a 0=U at hla hA2 hA3
   simp [F0V,O0N,O0O,O0P,g2,g3,g4,g6,g7,g23,g24,g25,ha,hla,hia,hl2.slen]
   refine b0P (fun k2 t G'=>∃ q c o,q + k2=B.length∧t.length=78∧get t 2=.pointer (some ⟨H.size,0,none⟩)∧get t 3=.pointer (some ⟨H.size + 1,0,none⟩)∧get t 4=.pointer (some ⟨H.size + 2,0,none⟩) ∧
     get t 6=y∧get t 7=SL∧get t 23=x∧get t 24=.int .i64 A.length∧get t 25=.int .i64 ((a:Nat):Int)∧get t 8=.int .i64 ((a:Nat):Int)∧get t 9=.int .u32 ((U:Nat):Int) ∧
     get t 10=.int .u64 ((c:Nat):Int)∧get t 30=y∧get t 31=.int .i64 B.length∧get t 32=.int .i64 ((q:Nat):Int) ∧
     Ext G2 G'∧a0e.blk G' P=.row false a0l (c0Y o)∧o.length=A.length + B.length∧b0t o∧c < 4294967296 ∧
     a0B o + 4294967296 ^ (a + q) * c=a0B (A.take a) * a0B B + 4294967296 ^ a * (U * a0B (B.take q))∧∀ q,a + B.length≤q→o.getD q 0=0)
    (fun t G'=>∃ c o,t.length=78∧get t 2=.pointer (some ⟨H.size,0,none⟩)∧get t 3=.pointer (some ⟨H.size + 1,0,none⟩)∧get t 4=.pointer (some ⟨H.size + 2,0,none⟩) ∧
     get t 6=y∧get t 7=SL∧get t 23=x∧get t 24=.int .i64 A.length∧get t 25=.int .i64 ((a:Nat):Int)∧get t 8=.int .i64 ((a:Nat):Int) ∧
     get t 10=.int .u64 ((c:Nat):Int) ∧
     Ext G2 G'∧a0e.blk G' P=.row false a0l (c0Y o)∧o.length=A.length + B.length∧b0t o∧c < 4294967296 ∧
     a0B o + 4294967296 ^ (a + B.length) * c=a0B (A.take (a + 1)) * a0B B∧∀ q,a + B.length≤q→o.getD q 0=0) B.length ?_ ?_ ?_
   ·exact ⟨0,0,o,by omega,by simp,by simp [g2],by simp [g3],by simp [g4],by simp [g6],by simp [g7],by simp [g23],by simp [g24],by simp [g25],by simp,by simp,by simp,by simp,by simp,by simp,
     hx2,hb,hol,hok,by omega,by simp [hs,a0B],hz⟩
   ·clear hs hz hok hol hb hx2 hla o g2 g3 g4 g6 g7 g23 g24 g25 ht ρ G'
    rintro k2 t G' ⟨q,c,o,hqk,ht,g2,g3,g4,g6,g7,g23,g24,g25,g8,g9,g10,g30,g31,g32,hx2,hb,hol,hok,hc,hs,hz⟩
    obtain ⟨ρ,rfl⟩:=toT ht
    simp only [b0N,Nat.reduceLT] at g2 g3 g4 g6 g7 g23 g24 g25 g8 g9 g10 g30 g31 g32
    by_cases hq:q < B.length
    ·have hlb:=hl2.load hq hx2
     have hib:=hl2.ia (k:=.i64) hq
     have hB2:=b0j hq
     have hB3:B.getD q 0 < 4294967296:=hl2.2 _ (by rw [b1Q,b1V hq];exact c1a hq)
     generalize B.getD q 0=V at hlb hB2 hB3
     have hlo:a + q < o.length:=by omega
     obtain ⟨hio,hro⟩:=k0r (k:=.i64) (cap:=A.length + B.length) hb hlo hol
     rw [hSL] at hio
     have hset:=o0P o (a + q) ((c + (U * V + o.getD (a + q) 0)) % 4294967296) hlo
     have hW3:o.getD (a + q) 0 < 4294967296:=hok _ (by rw [b1Q,b1V hlo];exact c1a hlo)
     generalize o.getD (a + q) 0=Wd at hro hset hW3
     have hUV:U * V≤4294967295 * 4294967295:=c1R (by omega) (by omega)
     have e1:IntKind.u64.wrap (U:Int)=(U:Int):=by rw [a0N];omega
     have e2:IntKind.u64.wrap (V:Int)=(V:Int):=by rw [a0N];omega
     have e3:IntKind.u64.wrap (Wd:Int)=(Wd:Int):=by rw [a0N];omega
     have e4:IntKind.u64.wrap ((U:Int) * (V:Int))=((U * V:Nat):Int):=by rw [a0N,← d1t];omega
     have e5:IntKind.u64.wrap (((U * V:Nat):Int) + (Wd:Int))=((U * V + Wd:Nat):Int):=by rw [a0N];omega
     have e6:IntKind.u64.wrap ((c:Int) + ((U * V + Wd:Nat):Int))=((c + (U * V + Wd):Nat):Int):=by rw [a0N];omega
     have e7:IntKind.i64.wrap ((a:Int) + (q:Int))=((a + q:Nat):Int):=by rw [a0T (by omega) (by omega)];omega
     have e8:IntKind.i64.wrap ((q:Int) + 1)=((q + 1:Nat):Int):=by rw [a0T (by omega) (by omega)];omega
     simp [-Int.natCast_add,-Int.natCast_mul,F0W,O0Q,F0O,F0P,F0Q,F0R,g2,g3,g4,g6,g7,g23,g24,g25,g8,g9,g10,g30,g31,g32,hq,hlb,hib,e1,e2,e3,e4,e5,e6,e7,e8,hio,hro]
     refine (a0o (by have:=hx2.1;omega)).mono ?_
     rintro _ G3 ⟨rfl,hx3⟩
     replace hb:=hx3.blk hb
     have hxx:=hx2.trans hx3
     have hPl:=a0j hb
     have hle:a + q + 1≤o.length:=hlo
     generalize hc1:c + (U * V + Wd)=c1 at *
     simp [-Int.natCast_emod,-Int.natCast_ediv,-Int.natCast_add,hb,hP,hle]
     refine ⟨k2 - 1,by omega,q + 1,by omega,c1 / 4294967296,by omega,rfl,hxx.set (by omega),o.set (a + q) (c1 % 4294967296),by rw [a0I hPl,d0L],by simp [hol],e0c hok (by omega),by omega,?_,?_⟩
     ·have f1:4294967296 ^ (a + (q + 1)) * (c1 / 4294967296)=4294967296 ^ (a + q) * (4294967296 * (c1 / 4294967296)):=by
       rw [show a + (q + 1)=a + q + 1 by omega,c1E,c1t]
      have f2:4294967296 ^ (a + q) * (c1 % 4294967296) + 4294967296 ^ (a + q) * (4294967296 * (c1 / 4294967296))=4294967296 ^ (a + q) * c1:=by rw [← c1n,Nat.mod_add_div]
      have f3:4294967296 ^ (a + q) * c1=4294967296 ^ (a + q) * c + (4294967296 ^ (a + q) * (U * V) + 4294967296 ^ (a + q) * Wd):=by rw [← hc1,c1n,c1n]
      have f4:4294967296 ^ a * (U * (a0B (List.take q B) + 4294967296 ^ q * V))=4294967296 ^ a * (U * a0B (List.take q B)) + 4294967296 ^ (a + q) * (U * V):=by
       rw [c1n,c1n,e1m]
       congr 1
       rw [c1t,Nat.mul_left_comm U]
      rw [hB2,f4,f1]
      omega
     ·intro r hr
      have:=hz r hr
      rw [← b1Q,e0P (by omega)];exact this
    ·simp [F0W,g2,g3,g4,g6,g7,g23,g24,g25,g8,g9,g10,g30,g31,g32,hq]
     have:q=B.length:=by omega
     subst this
     refine ⟨c,rfl,hx2,o,hb,hol,hok,hc,?_,by simpa using hz⟩
     rw [hs,c1f (b1S _),hA2,c1i,c1t]
   ·clear hs hz hok hol hb hx2 hla o g2 g3 g4 g6 g7 g23 g24 g25 ht ρ G'
    rintro t G' ⟨c,o,ht,g2,g3,g4,g6,g7,g23,g24,g25,g8,g10,hx2,hb,hol,hok,hc,hs,hz⟩
    obtain ⟨ρ,rfl⟩:=toT ht
    simp only [b0N,Nat.reduceLT] at g2 g3 g4 g6 g7 g23 g24 g25 g8 g10
    have hlo:a + B.length < o.length:=by omega
    obtain ⟨hio,hro⟩:=k0r (k:=.i64) (cap:=A.length + B.length) hb hlo hol
    rw [hSL] at hio
    have hset:=o0P o (a + B.length) (c % 4294967296) hlo
    rw [hz _ (b1S _)] at hset
    have e7:IntKind.i64.wrap ((a:Int) + (B.length:Int))=((a + B.length:Nat):Int):=by rw [a0T (by omega) (by omega)];omega
    have e8:IntKind.i64.wrap ((a:Int) + 1)=((a + 1:Nat):Int):=by rw [a0T (by omega) (by omega)];omega
    simp [-Int.natCast_add,F0S,g2,g3,g4,g6,g7,g23,g24,g25,g8,g10,hl2.slen,e7,hio]
    refine (a0o (by have:=hx2.1;omega)).mono ?_
    rintro _ G3 ⟨rfl,hx3⟩
    replace hb:=hx3.blk hb
    have hxx:=hx2.trans hx3
    have hPl:=a0j hb
    have hle:a + B.length + 1≤o.length:=hlo
    simp [-Int.natCast_emod,-Int.natCast_ediv,-Int.natCast_add,F0T,g2,g3,g4,g6,g7,g23,g24,g25,hb,hP,hle,e8]
    refine ⟨k - 1,by omega,a + 1,by omega,rfl,hxx.set (by omega),o.set (a + B.length) (c % 4294967296),by rw [a0I hPl,d0L],by simp [hol],e0c hok (by omega),?_,?_⟩
    ·rw [c1x hc] at hset ⊢
     omega
    ·intro r hr
     have:=hz r (by omega)
     rw [← b1Q,e0P (by omega)];exact this
  ·simp [F0V,g2,g3,g4,g6,g7,g23,g24,g25,ha]
   have:a=A.length:=by omega
   subst this
   exact ⟨hx2,o,hb,hol,hok,by rw [hs,c1f (b1S _)]⟩
 ·clear h0 ρ w1 hmk
  rintro t G' ⟨o,ht,g2,g3,g4,g7,hx2,hb,hol,hok,hs⟩
  obtain ⟨ρ,rfl⟩:=toT ht
  simp only [b0N,Nat.reduceLT] at g2 g3 g4 g7
  replace b0:=hx2.blk b0
  replace b1:=hx2.blk b1
  replace b2:=hx2.blk b2
  replace hx:=hx.trans hx2
  have hy:Lim G' SL o:=by
   rw [← hSL,← hol]
   exact ⟨(Own.mk (fl:=0) hb (by simp) (c1S _)).sl,hok⟩
  refine a0F ?_
  simp [F0U,g2,g3,g4,g7,b0,b1]
  refine (b0v (hh.mono hx) (by have:=hx.1;omega) (by omega)).mono ?_
  rintro _ G2 ⟨rfl,hx2⟩
  replace b0:=hx2.blk b0
  replace b1:=hx2.blk b1
  replace b2:=hx2.blk b2
  replace hx:=hx.trans hx2
  replace hy:=hy.mono hx2
  try simp [g2,g3,g4,g7,b1]
  refine (b0v (kk.mono hx) hx.1 (by omega)).mono ?_
  rintro _ G2 ⟨rfl,hx2⟩
  replace b0:=hx2.blk b0
  replace b1:=hx2.blk b1
  replace b2:=hx2.blk b2
  replace hx:=hx.trans hx2
  replace hy:=hy.mono hx2
  try simp [g2,g3,g4,g7,b1]
  have hAn:a0B A=(a0P i).natAbs:=by rw [← hA,a0J]
  have hBn:a0B B=(a0P j).natAbs:=by rw [← hB,a0J]
  rw [hAn,hBn,← d1D] at hs
  have hsgn:(if (decide (a0P i < 0) != decide (a0P j < 0))=true then -((a0P i * a0P j).natAbs:Int) else ((a0P i * a0P j).natAbs:Int))=a0P i * a0P j:=by
   by_cases hi:a0P i < 0 <;> by_cases hj:a0P j < 0
   ·have:=Int.mul_pos_of_neg_of_neg hi hj
    simp [hi,hj];omega
   ·have:=d1b (Int.le_of_lt hi) (show 0≤a0P j by omega)
    simp [hi,hj];omega
   ·have:=Int.mul_nonpos_of_nonneg_of_nonpos (show 0≤a0P i by omega) (Int.le_of_lt hj)
    simp [hi,hj];omega
   ·have:=e1N (show 0≤a0P i by omega) (show 0≤a0P j by omega)
    simp [hi,hj];omega
  refine (c0b (a0P i * a0P j) hy hx.1 (by omega) (by rw [hs];exact hsgn)).mono ?_
  rintro _ G2 ⟨⟨s',rfl,hs'⟩,hx2⟩
  replace b0:=hx2.blk b0
  replace b1:=hx2.blk b1
  replace b2:=hx2.blk b2
  replace hx:=hx.trans hx2
  have hz:=a0j b2
  simp [b2,hs'.cells,hs'.plain,hz,g4]
  exact fun _=>⟨s',rfl,hs'.setT b2 (by decide)⟩
end
end Go.Proofs.YtilekhkgobmolaaGreat.AI
