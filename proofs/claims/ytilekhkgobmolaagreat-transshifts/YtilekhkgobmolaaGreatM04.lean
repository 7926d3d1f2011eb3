/- Part 5 of the proof: AiCodeG, AiEnv, AiHeap, AiSet, AiOwn, AiNum1, AiNum2, AiMath1, AiNum3, AiNum4, AiNum5, AiMath2, AiNum6, AiNum7, AiNum8, AiNum9, AiBits. -/
import Derived.Test.YtilekhkgobmolaaGreatM02
import Derived.Test.YtilekhkgobmolaaGreatM03
set_option linter.unusedVariables false
set_option linter.unusedSimpArgs false
set_option linter.unusedSectionVars false
namespace Go.Proofs.YtilekhkgobmolaaGreat.AI
section
open Go
abbrev r0N (F:RK):Nat:=F.p O0h O0a
abbrev k0A (F:RK):Nat:=F.p q0i U0a
abbrev i0G (F:RK):Nat:=F.p O0m O0f
abbrev j0W (F:RK):Nat:=F.p O0j O0c
abbrev k0z (F:RK):Nat:=F.p O0q O0o
abbrev x0S (F:RK):Nat:=F.p O0k O0d
abbrev j0X (F:RK):Nat:=F.p O0l O0e
abbrev x0T (F:RK):Nat:=F.p O0n O0g
abbrev r0O (F:RK):Nat:=F.p O0r O0p
abbrev t0Y (F:RK):Nat:=F.p O0i O0b
def q0U (F:RK):SS:=[o 2 (.box (F.p a0i a0h) (t 0)),o 3 (.box a0G (t 1)),o 4 (.mv (.const (.pointer none)))]
def q0V:SS:=[fA 22 1 3,lD 23 22,lN 24 23,mV 5 24]
def g0w (F:RK):SS:=[lA 25 0 2,fA 26 0 3,lD 27 26,mV 28 5,fA 29 0 3,lD 30 29,o 31 (.bin 0 .mul (i 2) (t 30)),mV 32 5,o 33 (.bin 0 .add (t 31) (t 32)),lA 34 0 2,o 35 (.iface (F.p a0i a0h) (t 34)),o 36 (.call i0H [i 1] false),o 37 (.inv (t 35) [(a0h,i0I),(a0i,h0V)] [t 36] false)] ++ F.p [o 38 (.build [.int .i64 0,.int .i64 0,.int .i64 0,.slice none 0 0,.int .i64 0,.slice none 0 0,.int .i64 0] [(0,0,t 25),(0,1,t 27),(1,1,t 28),(2,1,t 33),(4,1,t 37)])] [o 38 (.build [.int .i64 0,.int .i64 0,.int .i64 0,.slice none 0 0,.bool false,.slice none 0 0,.slice none 0 0,.int .i64 0] [(0,0,t 25),(0,1,t 27),(1,1,t 28),(2,1,t 33),(4,2,t 37)])] ++ [o 39 (.box (F.p a0d a0c) (t 38)),o 6 (.alloc (F.p a0w a0t) [.pointer none]),⟨none,none,.store 1 (t 6) (t 39)⟩]
def g0x (F:RK):SS:=[lA 40 0 2,o 41 (.iface (F.p a0i a0h) (t 40)),o 42 (.build [.bool false,.slice none 0 0] []),o 43 (.inv (t 41) [(a0h,i0I),(a0i,h0V)] [t 42] true)] ++ F.p [o 7 (.alloc d0p [.int .i64 0])] [o 7 (.alloc a0a [.bool false,.slice none 0 0])] ++ [⟨none,none,.store F.w (t 7) (t 43)⟩]
def q0W (F:RK):SS:=[o 44 (.mkfn (.func (F.p m0i m0h)) [] [t 6,t 7]),mV 8 44]
def q0X:SS:=[mV 45 8,o 46 (.callv (t 45) [] true),mV 47 8,o 48 (.callv (t 47) [] true),mV 9 46,mV 10 48]
def q0Y:SS:=[fA 49 3 3,lD 50 49,lN 51 50,o 52 (.mv (i 0))]
def z0s:SS:=[o 53 (.bin 0 .lss (t 52) (t 51))]
def q0Z:SS:=[mV 54 52,iA 55 2 50 52,lA 56 2 55,o 12 (.alloc a0a [.bool false,.slice none 0 0]),mV 11 54,⟨none,none,.store 2 (t 12) (t 56)⟩]
def r0a (F:RK):SS:=[lA 57 0 2,o 58 (.iface (F.p a0i a0h) (t 57)),lA 59 2 12,o 60 (.inv (t 58) [(a0h,i0I),(a0i,h0V)] [t 59] true)] ++ F.p [mV 13 60] [o 13 (.alloc a0a [.bool false,.slice none 0 0]),⟨none,none,.store 2 (t 13) (t 60)⟩]
def n0f (F:RK):SS:=[mV 61 10,mV 62 11,mV 63 10,fA 64 0 3,lD 65 64,mV 66 11,o 67 (.bin 0 .add (t 65) (t 66)),lA 68 0 2,o 69 (.iface (F.p a0i a0h) (t 68))] ++ F.p [mV 70 13] [lA 70 2 13] ++ [o 71 (.inv (t 69) [(a0h,k0C),(a0i,k0D)] [t 70] false)] ++ F.p [mV 72 13] [lA 72 2 13] ++ [o 73 (.ia F.w (t 61) (t 62)),⟨none,none,.store F.w (t 73) (t 71)⟩,o 74 (.ia F.w (t 63) (t 67)),⟨none,none,.store F.w (t 74) (t 72)⟩]
def w0F:SS:=[o 75 (.bin 0 .add (t 52) (i 1)),mV 52 75]
def n0g:SS:=[fA 76 1 3,lD 77 76,lN 78 77,o 79 (.mv (i 0))]
def w0G:SS:=[o 80 (.bin 0 .lss (t 79) (t 78))]
def n0h:SS:=[mV 81 79,iA 82 1 77 79,lD 83 82,mV 14 81,mV 15 83]
def n0i:SS:=[mV 84 8,o 85 (.callv (t 84) [] true),mV 16 85]
def n0j:SS:=[mV 86 15,fA 87 0 3,lD 88 87,o 89 (.sl a0a 2 (t 86) none (some (t 88)) none),lN 90 89,o 91 (.mv (i 0))]
def w0H:SS:=[o 92 (.bin 0 .lss (t 91) (t 90))]
def n0k:SS:=[mV 93 91,iA 94 2 89 91,lA 95 2 94,o 18 (.alloc a0a [.bool false,.slice none 0 0]),mV 17 93,⟨none,none,.store 2 (t 18) (t 95)⟩]
def n0l (F:RK):SS:=[lA 96 0 2,o 97 (.iface (F.p a0i a0h) (t 96)),lA 98 2 18,o 99 (.inv (t 97) [(a0h,i0I),(a0i,h0V)] [t 98] true)] ++ F.p [mV 19 99] [o 19 (.alloc a0a [.bool false,.slice none 0 0]),⟨none,none,.store 2 (t 19) (t 99)⟩]
def n0m (F:RK):SS:=[mV 100 16,mV 101 17,mV 102 16,fA 103 0 3,lD 104 103,mV 105 17,o 106 (.bin 0 .add (t 104) (t 105))] ++ F.p [mV 107 19] [lA 107 2 19] ++ [lA 108 0 2,o 109 (.iface (F.p a0i a0h) (t 108))] ++ F.p [mV 110 19] [lA 110 2 19] ++ [o 111 (.inv (t 109) [(a0h,k0C),(a0i,k0D)] [t 110] false),o 112 (.ia F.w (t 100) (t 101)),⟨none,none,.store F.w (t 112) (t 107)⟩,o 113 (.ia F.w (t 102) (t 106)),⟨none,none,.store F.w (t 113) (t 111)⟩]
def w0I:SS:=[o 114 (.bin 0 .add (t 91) (i 1)),mV 91 114]
def n0n (F:RK):SS:=[mV 115 16,fA 116 0 3,lD 117 116,o 118 (.bin 0 .mul (i 2) (t 117)),mV 119 14,o 120 (.bin 0 .add (t 118) (t 119)),lD 121 6,cK 122 121,fA 123 4 122,o 124 (.load F.b F.w (t 123)),o 125 (.ia F.w (t 115) (t 120)),⟨none,none,.store F.w (t 125) (t 124)⟩]
def n0o (F:RK):SS:=[mV 126 16,lD 127 6,cK 128 127,fA 129 2 128,lD 130 129,lA 131 0 2,o 132 (.iface (F.p a0i a0h) (t 131)),mV 133 15,fA 134 0 3,lD 135 134,iA 136 2 133 135,lA 137 2 136,o 138 (.inv (t 132) [(a0h,i0I),(a0i,h0V)] [t 137] false),o 139 (.ia F.w (t 126) (t 130)),⟨none,none,.store F.w (t 139) (t 138)⟩]
def n0p:SS:=[fA 140 0 3,lD 141 140,o 142 (.bin 0 .mul (i 2) (t 141)),mV 143 14,o 144 (.bin 0 .add (t 142) (t 143)),mV 20 144]
def n0q (F:RK):SS:=[lA 145 0 2,o 146 (.iface (F.p a0i a0h) (t 145)),mV 147 16,lD 148 6,cK 149 148,fA 150 2 149,lD 151 150,o 152 (.ia F.w (t 147) (t 151)),o 153 (.load F.b F.w (t 152)),o 154 (.inv (t 146) [(a0h,m0j),(a0i,m0k)] [t 153] true),o 155 (.bin 0 .lss (t 154) (i 0))]
def n0r:SS:=[lD 156 6,cK 157 156,fA 158 2 157,lD 159 158,mV 160 14,o 161 (.bin 0 .add (t 159) (t 160)),mV 20 161]
def n0s:SS:=[mV 162 16,lN 163 162,o 164 (.mv (i 0))]
def w0J:SS:=[o 165 (.bin 0 .lss (t 164) (t 163))]
def n0t:SS:=[mV 166 164,mV 21 166]
def n0u (F:RK):SS:=[mV 167 16,mV 168 21,lA 169 0 2,o 170 (.iface (F.p a0i a0h) (t 169)),mV 171 16,mV 172 21,o 173 (.ia F.w (t 171) (t 172)),o 174 (.load F.b F.w (t 173)),o 175 (.inv (t 170) [(a0h,k0C),(a0i,k0D)] [t 174] true),o 176 (.ia F.w (t 167) (t 168)),⟨none,none,.store F.w (t 176) (t 175)⟩]
def n0v (F:RK):SS:=[mV 177 9,mV 178 21,lD 179 6,mV 180 9,mV 181 21,o 182 (.ia F.w (t 180) (t 181)),o 183 (.load F.b F.w (t 182)),mV 184 16,mV 185 21,o 186 (.ia F.w (t 184) (t 185)),o 187 (.load F.b F.w (t 186)),o 188 (.call (F.p w0e w0c) [t 179,t 183,t 187] true),o 189 (.ia F.w (t 177) (t 178)),⟨none,none,.store F.w (t 189) (t 188)⟩]
def w0K:SS:=[o 190 (.bin 0 .add (t 164) (i 1)),mV 164 190]
def i0W (F:RK):SS:=[lD 191 6,lD 192 6,lD 193 6,cK 194 193,fA 195 3 194,lD 196 195,mV 197 16,o 198 (.lit (F.p e0v b0b) [.slice none 0 0] 1 [(0,1,t 197)]),o 199 (.app (F.p e0v b0b) 1 24 (t 196) (t 198)),lD 200 6,cK 201 200,o 202 (.fa (F.p 5 6) (t 201)),lD 203 202,mV 204 20,o 205 (.lit e0i [.int .i64 0] 1 [(0,1,t 204)]),o 206 (.app e0i 1 8 (t 203) (t 205)),cK 207 191,fA 208 3 207,⟨none,none,.store 1 (t 208) (t 199)⟩,cK 209 192,o 210 (.fa (F.p 5 6) (t 209)),⟨none,none,.store 1 (t 210) (t 206)⟩]
def w0L:SS:=[o 211 (.bin 0 .add (t 79) (i 1)),mV 79 211]
def n0w (F:RK):SS:=[lD 212 6,lD 213 6,cK 214 213,fA 215 3 214,lD 216 215,mV 217 9,mV 218 10,o 219 (.lit (F.p e0v b0b) [.slice none 0 0] 2 [(0,1,t 217),(1,1,t 218)]),o 220 (.app (F.p e0v b0b) 1 24 (t 216) (t 219)),cK 221 212,fA 222 3 221,⟨none,none,.store 1 (t 222) (t 220)⟩]
def n0x:SS:=[lD 223 6,mV 4 223]
def i0Z (F:RK):SF:=⟨2,224,[.tmp 4],
 (qS (gR (q0U F)) (qS (gR q0V) (qS (.draw (g0w F) [0,0,2,0,0,16,48,0,240,0,512,0,3584,8191,16383,0,65535] []) (qS (gR (g0x F)) (qS (gR (q0W F)) (qS (gR q0X) (qS (qS (gR q0Y) (.block 0 (.loop (qS (gR z0s) (qS (.cond (t 53) .skip (.exit 0)) (qS (.block 1 (qS (gR q0Z) (qS (gR (r0a F)) (.draw (n0f F) [0,0,0,0,8,0,56,0,128,0,896,0,1923,6019,16383,32767] (F.p [(4,13)] [(4,13),(11,13)]))))) (gR w0F))))))) (qS (qS (gR n0g) (.block 2 (.loop (qS (gR w0G) (qS (.cond (t 80) .skip (.exit 2)) (qS (.block 3 (qS (gR n0h) (qS (gR n0i) (qS (qS (gR n0j) (.block 4 (.loop (qS (gR w0H) (qS (.cond (t 92) .skip (.exit 4)) (qS (.block 5 (qS (gR n0k) (qS (gR (n0l F)) (.draw (n0m F) [0,0,0,0,8,0,56,0,0,256,0,1792,3971,8067,16383,32767] [(4,13)])))) (gR w0I))))))) (qS (.draw (n0n F) [0,0,2,6,0,30,0,64,192,448,1023,2047] []) (qS (.draw (n0o F) [0,0,2,6,14,0,32,0,0,256,896,1920,4064,8191,16383] []) (qS (gR n0p) (qS (qS (.draw (n0q F) [0,1,0,0,8,24,56,124,252,511,1023] []) (.cond (t 155) (qS (gR n0r) (qS (gR n0s) (.block 6 (.loop (qS (gR w0J) (qS (.cond (t 165) .skip (.exit 6)) (qS (.block 7 (qS (gR n0t) (qS (.draw (n0u F) [0,0,0,4,0,0,48,112,252,511,1023] []) (.draw (n0v F) [0,0,0,0,0,24,56,0,0,384,896,2044,4095,8191] [])))) (gR w0K)))))))) .skip)) (.draw (i0W F) [0,0,0,4,12,28,0,64,252,0,512,1536,3584,0,8192,32764,65533,131069,262141,524287,1048575,2097151] [(0,8),(1,8),(8,9),(8,12),(8,14),(0,15),(1,15),(1,18)]))))))))) (gR w0L))))))) (qS (.draw (n0w F) [0,0,2,6,14,0,0,96,254,511,1023,2047] [(0,8)]) (qS (gR n0x) .ret))))))))))⟩
def l0o (F:RK):SS:=[o 3 (.box (F.p a0i a0h) (t 0)),o 4 (.box b0G (t 1)),o 5 (.box a0G (t 2)),o 6 (.alloc b0N [.int .i64 0,.bool false,.slice none 0 0,.bool false,.slice none 0 0,.slice none 0 0,.slice none 0 0,.slice none 0 0]),o 7 (.mv (i 0))]
def l0p (F:RK):SS:=[lA 16 0 3,lA 17 8 5,o 18 (.call (r0N F) [t 16,t 17] true),o 8 (.alloc (F.p a0w a0t) [.pointer none]),⟨none,none,.store 1 (t 8) (t 18)⟩]
def l0q:SS:=[lD 19 8,cK 20 19,fA 21 1 20,lD 22 21,lD 23 8,cK 24 23,fA 25 1 24,lD 26 25,o 27 (.bin 0 .add (t 26) (i 1)),mV 9 22,mV 10 27]
def l0r (F:RK):SS:=[lD 28 8,mV 29 9,o 30 (.call (t0Y F) [t 28,t 29] true)]
def l0s (F:RK):SS:=[lD 31 8,cK 32 31,o 33 (.fa0 (F.p a0d a0c) (t 32)),lA 34 0 33,o 35 (.iface (F.p a0i a0h) (t 34)),lD 36 8,cK 37 36,fA 38 3 37,lD 39 38,mV 40 9,iA 41 1 39 40,lD 42 41,lD 43 8,cK 44 43,fA 45 2 44,lD 46 45,o 47 (.ia F.w (t 42) (t 46)),o 48 (.load F.b F.w (t 47)),o 49 (.inv (t 35) [(a0h,m0j),(a0i,m0k)] [t 48] true),o 50 (.bin 0 .lss (t 49) (i 0))]
def l0t (F:RK):SS:=[o 51 (.call t0Z [i 0] false),lD 52 8,mV 53 9,lA 54 8 5,o 55 (.call t0Z [i 1] false),o 56 (.call (j0W F) [t 52,t 53,t 54,t 55] false),o 57 (.build [.int .i64 0,.bool false,.slice none 0 0,.bool false,.slice none 0 0,.slice none 0 0,.slice none 0 0,.slice none 0 0] [(0,1,i 2),(1,4,t 51),(6,1,t 56)]),lD 58 8,cK 59 58,o 60 (.fa (F.p 6 7) (t 59)),lD 61 60,⟨none,none,.store 8 (t 6) (t 57)⟩,mV 7 61]
def l0u (F:RK):SS:=[lD 62 8,o 63 (.call (x0S F) [t 62] true)]
def l0v (F:RK):SS:=[lD 64 8,mV 65 10,o 66 (.call (t0Y F) [t 64,t 65] true),mV 11 66]
def l0w (F:RK):SS:=[lD 67 8,o 68 (.mkfn (.func (i0G F)) [] [t 8]),o 69 (.call (j0X F) [t 67,t 68] true),mV 12 69]
def h0D:SS:=[mV 70 11,o 71 (.bin 0 .geq (t 70) (i 0))]
def j0v (F:RK):SS:=[o 72 (.call t0Z [i 0] false),mV 73 12,lD 74 8,mV 75 11,o 76 (.call (x0T F) [t 74,t 75] false),o 77 (.build [.int .i64 0,.bool false,.slice none 0 0,.bool false,.slice none 0 0,.slice none 0 0,.slice none 0 0,.slice none 0 0] [(0,1,i 3),(1,4,t 72),(5,1,t 73),(7,1,t 76)]),lD 78 8,cK 79 78,o 80 (.fa (F.p 6 7) (t 79)),lD 81 80,⟨none,none,.store 8 (t 6) (t 77)⟩,mV 7 81]
def j0w:SS:=[o 82 (.call t0Z [i 0] true),o 13 (.alloc a0b [.bool false,.slice none 0 0,.bool false,.slice none 0 0]),⟨none,none,.store 4 (t 13) (t 82)⟩]
def j0x:SS:=[fA 83 3 4,lD 84 83,lN 85 84,o 86 (.mv (i 0))]
def r0d:SS:=[o 87 (.bin 0 .lss (t 86) (t 85))]
def j0y:SS:=[mV 88 86,iA 89 4 84 86,lA 90 4 89,o 15 (.alloc a0b [.bool false,.slice none 0 0,.bool false,.slice none 0 0]),mV 14 88,⟨none,none,.store 4 (t 15) (t 90)⟩]
def j0z:SS:=[lA 91 4 13,lA 92 4 15,mV 93 12,mV 94 14,iA 95 4 93 94,lA 96 4 95,o 97 (.call I0Q [t 92,t 96] false),o 98 (.call r0w [t 91,t 97] true),⟨none,none,.store 4 (t 13) (t 98)⟩]
def r0e:SS:=[o 99 (.bin 0 .add (t 86) (i 1)),mV 86 99]
def j0A (F:RK):SS:=[lA 100 4 13,mV 101 12,lD 102 8,mV 103 10,lA 104 8 5,fA 105 4 5,lA 106 4 105,o 107 (.call (j0W F) [t 102,t 103,t 104,t 106] false),o 108 (.build [.int .i64 0,.bool false,.slice none 0 0,.bool false,.slice none 0 0,.slice none 0 0,.slice none 0 0,.slice none 0 0] [(0,1,i 1),(1,4,t 100),(5,1,t 101),(6,1,t 107)]),lD 109 8,cK 110 109,o 111 (.fa (F.p 6 7) (t 110)),lD 112 111,⟨none,none,.store 8 (t 6) (t 108)⟩,mV 7 112]
def f0r (F:RK):SF:=⟨3,113,[.cell 6 true 8,.tmp 7],
 (qS (gR (l0o F)) (qS (gR (l0p F)) (qS (.draw l0q [0,1,3,7,0,16,48,112,240,15,1023] []) (qS (gR (l0r F)) (qS (qS (.draw (l0s F) [0,1,3,7,15,0,32,96,224,0,992,2016,0,4096,12288,28672,65504,131040,262143,524287] []) (.cond (t 50) (qS (.draw (l0t F) [0,0,0,0,1,31,63,0,128,384,896,127,4095] [(7,11),(10,11)]) .ret) .skip)) (qS (gR (l0u F)) (qS (gR (l0v F)) (qS (gR (l0w F)) (qS (qS (gR h0D) (.cond (t 71) (qS (.draw (j0v F) [0,0,0,0,13,31,0,64,192,448,63,2047] [(6,10),(9,10)]) .ret) .skip)) (qS (gR j0w) (qS (qS (gR j0x) (.block 0 (.loop (qS (gR r0d) (qS (.cond (t 87) .skip (.exit 0)) (qS (.block 1 (qS (gR j0y) (.draw j0z [0,0,0,0,12,28,62,127,255] []))) (gR r0e))))))) (qS (.draw (j0A F) [0,0,0,0,0,0,32,124,255,0,512,1536,3584,511,16383] [(9,13),(12,13)]) .ret))))))))))))⟩
def g0y (F:RK):SS:=F.p [o 3 (.mv (i 0))] [o 3 (.alloc a0a [.bool false,.slice none 0 0])]
def g0z (F:RK):SS:=[lD 4 1,cK 5 4,fA 6 3 5,lD 7 6,mV 8 0,iA 9 1 7 8,lD 10 9,lD 11 1,cK 12 11,fA 13 2 12,lD 14 13,o 15 (.ia F.w (t 10) (t 14)),o 16 (.load F.b F.w (t 15))] ++ F.p [mV 3 16] [⟨none,none,.store 2 (t 3) (t 16)⟩]
def d0W (F:RK):SF:=⟨2,17,(F.p [.tmp 3] [.cell 3 true 2]),
 (qS (gR (g0y F)) (qS (.draw (g0z F) [0,1,3,7,0,31,63,0,128,384,896,2047,4095,8191] []) .ret))⟩
def m0Y:SS:=[o 6 (.box a0G (t 2)),o 7 (.box a0b (t 3)),o 8 (.mv (.const (.slice none 0 0)))]
def m0Z:SS:=[o 9 (.mv (.const (.slice none 0 0)))]
def n0a:SS:=[mV 13 0,cK 14 13,fA 15 1 14,lD 16 15,o 17 (.mv (i 0))]
def w0D:SS:=[o 18 (.bin 0 .lss (t 17) (t 16))]
def n0b:SS:=[mV 19 17,mV 10 19]
def n0c (F:RK):SS:=[mV 21 0,mV 22 0,cK 23 22,fA 24 3 23,lD 25 24,mV 26 1,iA 27 1 25 26,lD 28 27,mV 29 0,cK 30 29,fA 31 0 30,lD 32 31,o 33 (.bin 0 .mul (i 2) (t 32)),mV 34 10,o 35 (.bin 0 .add (t 33) (t 34)),o 36 (.ia F.w (t 28) (t 35)),o 37 (.load F.b F.w (t 36)),o 38 (.call (F.p q0n q0m) [t 21,t 37] false),fA 39 2 6,lD 40 39,mV 41 10,iA 42 4 40 41,lA 43 4 42,o 44 (.call I0Q [t 38,t 43] false),lA 45 4 7,o 46 (.call y0a [t 44,t 45] false),mV 20 46,o 47 (.ext (t 20) 0),o 48 (.ext (t 20) 1),o 11 (.alloc a0b [.bool false,.slice none 0 0,.bool false,.slice none 0 0]),⟨none,none,.store 4 (t 11) (t 47)⟩,mV 12 48]
def n0d:SS:=[mV 49 9,lA 50 4 11,o 51 (.lit a0b [.bool false,.slice none 0 0,.bool false,.slice none 0 0] 1 [(0,4,t 50)]),o 52 (.app a0b 4 64 (t 49) (t 51)),mV 9 52]
def w0E:SS:=[o 53 (.bin 0 .add (t 17) (i 1)),mV 17 53]
def n0e:SS:=[mV 54 9,mV 8 54]
def g0T (F:RK):SF:=⟨4,55,[.tmp 8],
 (qS (gR m0Y) (qS (gR m0Z) (qS (qS (gR n0a) (.block 0 (.loop (qS (gR w0D) (qS (.cond (t 18) .skip (.exit 0)) (qS (.block 1 (qS (gR n0b) (qS (.draw (n0c F) [0,0,2,6,14,0,62,126,0,256,768,1792,3840,0,16128,32766,65534,131071,0,262144,0,1835008,3932160,8388607,0,33554431,67108863,134217727,134217727,0,805306367,2147483647] []) (gR n0d)))) (gR w0E))))))) (qS (gR n0e) .ret))))⟩
def k0Y:SS:=[o 4 (.mv (i 0))]
def k0Z:SS:=[o 5 (.mv (.const (.int .i64 (-1))))]
def l0a:SS:=[mV 8 0,cK 9 8,fA 10 1 9,lD 11 10,o 12 (.mv (i 0))]
def s0m:SS:=[o 13 (.bin 0 .lss (t 12) (t 11))]
def l0b:SS:=[mV 14 12,mV 6 14]
def l0c (F:RK):SS:=[mV 15 0,cK 16 15,o 17 (.fa0 (F.p a0d a0c) (t 16)),lA 18 0 17,o 19 (.iface (F.p a0i a0h) (t 18)),mV 20 0,cK 21 20,fA 22 3 21,lD 23 22,mV 24 6,iA 25 1 23 24,lD 26 25,mV 27 1,o 28 (.ia F.w (t 26) (t 27)),o 29 (.load F.b F.w (t 28)),o 30 (.inv (t 19) [(a0h,m0j),(a0i,m0k)] [t 29] true),o 31 (.bin 0 .leq (t 30) (i 0))]
def l0d:SS:=[mV 32 5,o 33 (.bin 0 .lss (t 32) (i 0))]
def l0e:SS:=[mV 34 6,mV 5 34]
def l0f (F:RK):SS:=[mV 35 0,cK 36 35,o 37 (.fa0 (F.p a0d a0c) (t 36)),lA 38 0 37,o 39 (.iface (F.p a0i a0h) (t 38)),mV 40 0,cK 41 40,fA 42 3 41,lD 43 42,mV 44 6,iA 45 1 43 44,lD 46 45,mV 47 0,cK 48 47,fA 49 2 48,lD 50 49,o 51 (.ia F.w (t 46) (t 50)),o 52 (.load F.b F.w (t 51)),mV 53 0,cK 54 53,fA 55 3 54,lD 56 55,mV 57 5,iA 58 1 56 57,lD 59 58,mV 60 1,o 61 (.ia F.w (t 59) (t 60)),o 62 (.load F.b F.w (t 61)),mV 63 0,cK 64 63,fA 65 3 64,lD 66 65,mV 67 5,iA 68 1 66 67,lD 69 68,mV 70 0,cK 71 70,fA 72 2 71,lD 73 72,o 74 (.ia F.w (t 69) (t 73)),o 75 (.load F.b F.w (t 74)),mV 76 0,cK 77 76,fA 78 3 77,lD 79 78,mV 80 6,iA 81 1 79 80,lD 82 81,mV 83 1,o 84 (.ia F.w (t 82) (t 83)),o 85 (.load F.b F.w (t 84)),o 86 (.inv (t 39) [(a0h,w0g),(a0i,w0h)] [t 52,t 62,t 75,t 85] true),mV 7 86]
def f0H (F:RK):SS:=[mV 87 7,o 88 (.bin 0 .lss (t 87) (i 0)),mV 89 88,og 90 89 false (.mv (t 7)),og 91 89 false (.bin 0 .eql (t 90) (i 0)),og 92 89 false (.mv (t 91)),og 93 92 true (.mv (t 0)),og 94 92 true (.chk (t 93)),og 95 92 true (.fa (F.p 5 6) (t 94)),og 96 92 true (.load false 1 (t 95)),og 97 92 true (.mv (t 6)),og 98 92 true (.ia 1 (t 96) (t 97)),og 99 92 true (.load false 1 (t 98)),og 100 92 true (.mv (t 0)),og 101 92 true (.chk (t 100)),og 102 92 true (.fa (F.p 5 6) (t 101)),og 103 92 true (.load false 1 (t 102)),og 104 92 true (.mv (t 5)),og 105 92 true (.ia 1 (t 103) (t 104)),og 106 92 true (.load false 1 (t 105)),og 107 92 true (.bin 0 .lss (t 99) (t 106)),og 108 89 false (.pick (t 92) (t 107) (.const (.bool false))),o 109 (.pick (t 89) (.const (.bool true)) (t 108))]
def g0v:SS:=[mV 110 6,mV 5 110]
def q0T:SS:=[o 111 (.bin 0 .add (t 12) (i 1)),mV 12 111]
def j0u:SS:=[mV 112 5,mV 4 112]
def f0q (F:RK):SF:=⟨2,113,[.tmp 4],
 (qS (gR k0Y) (qS (gR k0Z) (qS (qS (gR l0a) (.block 0 (.loop (qS (gR s0m) (qS (.cond (t 13) .skip (.exit 0)) (qS (.block 1 (qS (gR l0b) (qS (qS (.draw (l0c F) [0,1,3,7,15,0,32,96,224,0,992,2016,0,8160,16352,32767,65535] []) (.cond (t 31) (.exit 1) .skip)) (qS (qS (gR l0d) (.cond (t 33) (qS (gR l0e) (.exit 1)) .skip)) (qS (.draw (l0f F) [0,1,3,7,15,0,32,96,224,0,992,2016,0,4096,12288,28672,65504,131040,0,262144,786432,1835008,0,8126464,16515072,0,66846720,133955584,0,268435456,805306368,1879048192,0,8321499136,16911433728,0,34359738368,103079215104,240518168576,549487378432,1099243192320,0,2199023255552,6597069766656,15393162788864,0,68169720922112,138538465099776,0,560750930165760,1123700883587072,2251799813685247,4503599627370495] []) (qS (.draw (f0H F) [0,1,3,7,15,31,63,127,255,511,63,2047,4095,63,8255,24639,57407,63,254015,516159,1048575,2097151,4194303] []) (.cond (t 109) (gR g0v) .skip))))))) (gR q0T))))))) (qS (gR j0u) .ret))))⟩
def u0u:SS:=[mV 7 0,cK 8 7,fA 9 1 8,lD 10 9,o 11 (.mv (i 0))]
def G0V:SS:=[o 12 (.bin 0 .lss (t 11) (t 10))]
def u0v:SS:=[mV 13 11,mV 2 13]
def o0U (F:RK):SS:=[mV 14 0,cK 15 14,o 16 (.fa (F.p 5 6) (t 15)),lD 17 16,mV 18 2,iA 19 1 17 18,lD 20 19,mV 21 0,cK 22 21,fA 23 2 22,lD 24 23,o 25 (.bin 0 .lss (t 20) (t 24))]
def u0w:SS:=[mV 26 0,cK 27 26,fA 28 2 27,lD 29 28,o 30 (.mv (i 0))]
def G0W:SS:=[o 31 (.bin 0 .lss (t 30) (t 29))]
def u0x:SS:=[mV 32 30,mV 3 32]
def u0y (F:RK):SS:=[mV 33 0,cK 34 33,o 35 (.fa0 (F.p a0d a0c) (t 34)),lA 36 0 35,o 37 (.iface (F.p a0i a0h) (t 36)),mV 38 0,cK 39 38,fA 40 3 39,lD 41 40,mV 42 2,iA 43 1 41 42,lD 44 43,mV 45 3,o 46 (.ia F.w (t 44) (t 45)),o 47 (.load F.b F.w (t 46)),o 48 (.inv (t 37) [(a0h,m0j),(a0i,m0k)] [t 47] true),mV 4 48]
def k0a:SS:=[mV 49 4,o 50 (.bin 0 .eql (t 49) (i 0))]
def o0V:SS:=[mV 51 4,o 52 (.bin 0 .lss (t 51) (i 0))]
def r0b:SS:=[mV 53 0,cK 54 53,fA 55 3 54,lD 56 55,mV 57 2,iA 58 1 56 57,lD 59 58,lN 60 59,o 61 (.mv (i 0))]
def z0t:SS:=[o 62 (.bin 0 .lss (t 61) (t 60))]
def i0n (F:RK):SS:=[mV 63 61,o 64 (.ia F.w (t 59) (t 61)),o 65 (.load F.b F.w (t 64))] ++ F.p [] [o 6 (.alloc a0a [.bool false,.slice none 0 0])] ++ [mV 5 63] ++ F.p [mV 6 65] [⟨none,none,.store 2 (t 6) (t 65)⟩]
def r0c (F:RK):SS:=[mV 66 0,cK 67 66,fA 68 3 67,lD 69 68,mV 70 2,iA 71 1 69 70,lD 72 71,mV 73 5,mV 74 0,cK 75 74,o 76 (.fa0 (F.p a0d a0c) (t 75)),lA 77 0 76,o 78 (.iface (F.p a0i a0h) (t 77))] ++ F.p [mV 79 6] [lA 79 2 6] ++ [o 80 (.inv (t 78) [(a0h,k0C),(a0i,k0D)] [t 79] false),o 81 (.ia F.w (t 72) (t 73)),⟨none,none,.store F.w (t 81) (t 80)⟩]
def z0u:SS:=[o 82 (.bin 0 .add (t 61) (i 1)),mV 61 82]
def l0g (F:RK):SS:=[mV 83 0,mV 84 2,mV 85 3,o 86 (.call (F.p r0S r0R) [t 83,t 84,t 85] true)]
def z0v:SS:=[o 87 (.bin 0 .add (t 30) (i 1)),mV 30 87]
def z0w:SS:=[o 88 (.bin 0 .add (t 11) (i 1)),mV 11 88]
def n0H (F:RK):SF:=⟨1,89,[],
 (qS (gR u0u) (.block 0 (.loop (qS (gR G0V) (qS (.cond (t 12) .skip (.exit 0)) (qS (.block 1 (qS (gR u0v) (qS (qS (.draw (o0U F) [0,1,3,7,0,31,63,0,128,384,896,2047] []) (.cond (t 25) (.exit 1) .skip)) (qS (gR u0w) (.block 2 (.loop (qS (gR G0W) (qS (.cond (t 31) .skip (.exit 2)) (qS (.block 3 (qS (gR u0x) (qS (.draw (u0y F) [0,1,3,7,15,0,32,96,224,0,992,2016,0,8160,16352,32767,65535] []) (qS (qS (gR k0a) (.cond (t 50) (.exit 3) .skip)) (qS (qS (gR o0V) (.cond (t 52) (qS (gR r0b) (.block 4 (.loop (qS (gR z0t) (qS (.cond (t 62) .skip (.exit 4)) (qS (.block 5 (qS (gR (i0n F)) (.draw (r0c F) [0,1,3,7,0,31,63,0,0,256,768,1792,3840,0,16128,32767,65535] []))) (gR z0u))))))) .skip)) (qS (gR (l0g F)) (.exit 2))))))) (gR z0v)))))))))) (gR z0w)))))))⟩
def n0y:SS:=[o 4 (.mv (.const (.slice none 0 0)))]
def n0z:SS:=[mV 9 0,cK 10 9,fA 11 0 10,lD 12 11,o 13 (.mk a0b 64 [.bool false,.slice none 0 0,.bool false,.slice none 0 0] (t 12) (t 12)),mV 5 13]
def n0A:SS:=[mV 14 5,lN 15 14,o 16 (.mv (i 0))]
def w0M:SS:=[o 17 (.bin 0 .lss (t 16) (t 15))]
def n0B:SS:=[mV 18 16,mV 6 18]
def n0C:SS:=[mV 19 5,mV 20 6,o 21 (.call t0Z [i 0] true),iA 22 4 19 20,⟨none,none,.store 4 (t 22) (t 21)⟩]
def w0N:SS:=[o 23 (.bin 0 .add (t 16) (i 1)),mV 16 23]
def n0D (F:RK):SS:=[mV 24 0,cK 25 24,o 26 (.fa (F.p 5 6) (t 25)),lD 27 26,lN 28 27,o 29 (.mv (i 0))]
def w0O:SS:=[o 30 (.bin 0 .lss (t 29) (t 28))]
def n0E:SS:=[mV 31 29,iA 32 1 27 29,lD 33 32,mV 7 31,mV 8 33]
def l0h:SS:=[mV 35 8,mV 36 0,cK 37 36,fA 38 0 37,lD 39 38,o 40 (.bin 0 .lss (t 35) (t 39)),mV 34 40]
def l0i (F:RK):SS:=[mV 41 5,mV 42 8,mV 43 5,mV 44 8,iA 45 4 43 44,lA 46 4 45,mV 47 0,mV 48 1,mV 49 7,o 50 (.callv (t 48) [t 49] false),o 51 (.call (F.p q0n q0m) [t 47,t 50] false),o 52 (.call r0w [t 46,t 51] true),iA 53 4 41 42,⟨none,none,.store 4 (t 53) (t 52)⟩]
def l0j:SS:=[mV 55 8,mV 56 0,cK 57 56,fA 58 0 57,lD 59 58,o 60 (.bin 0 .mul (i 2) (t 59)),o 61 (.bin 0 .lss (t 55) (t 60)),mV 54 61]
def l0k (F:RK):SS:=[mV 62 5,mV 63 8,mV 64 0,cK 65 64,fA 66 0 65,lD 67 66,o 68 (.bin 0 .sub (t 63) (t 67)),mV 69 5,mV 70 8,mV 71 0,cK 72 71,fA 73 0 72,lD 74 73,o 75 (.bin 0 .sub (t 70) (t 74)),iA 76 4 69 75,lA 77 4 76,mV 78 0,mV 79 1,mV 80 7,o 81 (.callv (t 79) [t 80] false),o 82 (.call (F.p q0n q0m) [t 78,t 81] false),o 83 (.call w0d [t 77,t 82] false),iA 84 4 62 68,⟨none,none,.store 4 (t 84) (t 83)⟩]
def s0n:SS:=[o 85 (.bin 0 .add (t 29) (i 1)),mV 29 85]
def l0l:SS:=[mV 86 5,mV 4 86]
def g0U (F:RK):SF:=⟨2,87,[.tmp 4],
 (qS (gR n0y) (qS (gR n0z) (qS (qS (gR n0A) (.block 0 (.loop (qS (gR w0M) (qS (.cond (t 17) .skip (.exit 0)) (qS (.block 1 (qS (gR n0B) (gR n0C))) (gR w0N))))))) (qS (qS (gR (n0D F)) (.block 2 (.loop (qS (gR w0O) (qS (.cond (t 30) .skip (.exit 2)) (qS (.block 3 (qS (gR n0E) (.block 4 (qS (gR l0h) (.cond (t 34) (.draw (l0i F) [0,0,0,0,12,28,0,0,0,384,960,2044,4095,8191] []) (qS (gR l0j) (.cond (t 54) (.draw (l0k F) [0,0,0,4,12,28,62,0,0,0,512,1536,3584,7936,16256,32640,0,0,0,393216,983040,2097024,4194303,8388607] []) .skip))))))) (gR s0n))))))) (qS (gR l0l) .ret)))))⟩
def u0z (F:RK):SS:=[o 2 (.box (F.p a0w a0t) (t 0)),o 3 (.box e0i (t 1)),o 4 (.mv (.const (.slice none 0 0)))]
def u0A (F:RK):SS:=[lD 6 2,o 7 (.mkfn (.func (r0O F)) [] [t 2,t 3]),o 8 (.call (j0X F) [t 6,t 7] true),mV 5 8]
def u0B:SS:=[lD 10 3,lD 11 2,cK 12 11,fA 13 0 12,lD 14 13,o 15 (.bin 0 .lss (t 10) (t 14)),mV 9 15]
def u0C:SS:=[mV 16 5,lD 17 3,mV 18 5,lD 19 3,iA 20 4 18 19,lA 21 4 20,o 22 (.call t0Z [i 1] false),o 23 (.call r0w [t 21,t 22] false),iA 24 4 16 17,⟨none,none,.store 4 (t 24) (t 23)⟩]
def u0D:SS:=[lD 26 3,lD 27 2,cK 28 27,fA 29 0 28,lD 30 29,o 31 (.bin 0 .mul (i 2) (t 30)),o 32 (.bin 0 .lss (t 26) (t 31)),mV 25 32]
def u0E:SS:=[mV 33 5,lD 34 3,lD 35 2,cK 36 35,fA 37 0 36,lD 38 37,o 39 (.bin 0 .sub (t 34) (t 38)),mV 40 5,lD 41 3,lD 42 2,cK 43 42,fA 44 0 43,lD 45 44,o 46 (.bin 0 .sub (t 41) (t 45)),iA 47 4 40 46,lA 48 4 47,o 49 (.call t0Z [i 1] false),o 50 (.call w0d [t 48,t 49] false),iA 51 4 33 39,⟨none,none,.store 4 (t 51) (t 50)⟩]
def k0b:SS:=[mV 52 5,mV 4 52]
def n0I (F:RK):SF:=⟨2,53,[.tmp 4],
 (qS (gR (u0z F)) (qS (gR (u0A F)) (qS (.block 0 (qS (.draw u0B [0,0,2,6,14,31,63] []) (.cond (t 9) (.draw u0C [0,0,0,0,12,28,0,124,255,511] []) (qS (.draw u0D [0,0,2,6,14,30,63,127] []) (.cond (t 25) (.draw u0E [0,0,0,4,12,28,62,0,0,0,512,1536,3584,7936,16256,32640,0,130944,262143,524287] []) .skip))))) (qS (gR k0b) .ret))))⟩
def l0m (F:RK):SS:=F.p [o 4 (.mv (i 0))] [o 4 (.alloc a0a [.bool false,.slice none 0 0])]
def l0n (F:RK):SS:=[lD 5 1,cK 6 5,o 7 (.fa0 (F.p a0d a0c) (t 6)),lA 8 0 7,o 9 (.iface (F.p a0i a0h) (t 8)),lD 10 1,cK 11 10,fA 12 3 11,lD 13 12,mV 14 0,iA 15 1 13 14,lD 16 15,lD 17 2,o 18 (.ia F.w (t 16) (t 17)),o 19 (.load F.b F.w (t 18)),o 20 (.inv (t 9) [(a0h,k0C),(a0i,k0D)] [t 19] true)] ++ F.p [mV 4 20] [⟨none,none,.store 2 (t 4) (t 20)⟩]
def h0E (F:RK):SF:=⟨3,21,(F.p [.tmp 4] [.cell 4 true 2]),
 (qS (gR (l0m F)) (qS (.draw (l0n F) [0,1,3,7,15,0,32,96,224,0,992,2016,0,8160,16352,32767,65535] []) .ret))⟩
def u0F:SS:=[o 4 (.mv (i 0))]
def u0G:SS:=[o 5 (.mv (i 0))]
def o0W (F:RK):SS:=[mV 7 5,mV 8 0,cK 9 8,fA 10 2 9,lD 11 10,o 12 (.bin 0 .lss (t 7) (t 11)),mV 13 12,og 14 13 true (.mv (t 0)),og 15 13 true (.chk (t 14)),og 16 13 true (.fa0 (F.p a0d a0c) (t 15)),og 17 13 true (.load true 0 (t 16)),og 18 13 true (.iface (F.p a0i a0h) (t 17)),og 19 13 true (.mv (t 0)),og 20 13 true (.chk (t 19)),og 21 13 true (.fa 3 (t 20)),og 22 13 true (.load false 1 (t 21)),og 23 13 true (.mv (t 1)),og 24 13 true (.ia 1 (t 22) (t 23)),og 25 13 true (.load false 1 (t 24)),og 26 13 true (.mv (t 5)),og 27 13 true (.ia F.w (t 25) (t 26)),og 28 13 true (.load F.b F.w (t 27)),og 29 13 true (.inv (t 18) [(a0h,m0j),(a0i,m0k)] [t 28] true),og 30 13 true (.bin 0 .geq (t 29) (i 0)),o 31 (.pick (t 13) (t 30) (.const (.bool false)))]
def u0H:SS:=[mV 32 5,o 33 (.bin 0 .add (t 32) (i 1)),mV 5 33]
def o0X:SS:=[mV 34 5,mV 35 0,cK 36 35,fA 37 2 36,lD 38 37,o 39 (.bin 0 .eql (t 34) (t 38))]
def u0I:SS:=[o 4 (.mv (.const (.int .i64 (-1))))]
def u0J (F:RK):SS:=[mV 40 0,mV 41 5,o 42 (.call (k0z F) [t 40,t 41] true),mV 6 42]
def o0Y:SS:=[mV 43 6,o 44 (.bin 0 .lss (t 43) (i 0))]
def u0K:SS:=[mV 45 5,mV 4 45]
def u0L (F:RK):SS:=[mV 46 0,mV 47 6,mV 48 5,o 49 (.call (F.p r0S r0R) [t 46,t 47,t 48] true)]
def n0J (F:RK):SF:=⟨2,50,[.tmp 4],
 (qS (gR u0F) (.block 0 (.loop (.block 1 (qS (gR u0G) (qS (.block 2 (.loop (qS (qS (.draw (o0W F) [0,0,2,6,14,31,63,127,255,511,1023,2047,127,4223,12415,28799,127,127103,258175,127,1044607,2093183,4194303,8388607,16777215] []) (.cond (t 31) .skip (.exit 2))) (.block 3 (gR u0H))))) (qS (qS (gR o0X) (.cond (t 39) (qS (gR u0I) .ret) .skip)) (qS (gR (u0J F)) (qS (qS (gR o0Y) (.cond (t 44) (qS (gR u0K) .ret) .skip)) (gR (u0L F)))))))))))⟩
def r0I:List (Nat × t0D):=[
 (f_6,s_6),
 (R0L,U0o),
 (Q0i,U0p),
 (Q0j,U0q),
 (Q0k,U0r),
 (F0N,U0s),
 (O0s,U0t),
 (y0l,U0u),
 (Q0l,U0v),
 (Q0m,U0w),
 (Q0n,U0x),
 (R0M,U0y),
 (R0N,U0z),
 (R0O,U0A),
 (I0O,U0B),
 (R0P,U0C),
 (R0Q,U0D),
 (Q0o,U0E),
 (R0R,U0F),
 (Q0p,U0G),
 (R0S,U0H),
 (Q0q,U0I),
 (Q0r,U0J),
 (R0T,U0K),
 (R0U,U0L),
 (R0V,U0M),
 (R0W,U0N),
 (R0X,U0O),
 (R0Y,U0P),
 (R0Z,U0Q),
 (S0a,U0R),
 (r0w,U0S),
 (Q0s,U0T),
 (S0b,U0U),
 (S0c,U0V),
 (Q0t,U0W),
 (S0d,U0X),
 (S0e,U0Y),
 (S0f,U0Z),
 (t0Z,V0a),
 (Q0u,V0b),
 (I0P,V0c),
 (G0t,V0d),
 (I0Q,V0e),
 (S0g,V0f),
 (S0h,V0g),
 (S0i,V0h),
 (U0a,f0r .all),
 (y0m,V0i),
 (Q0v,V0j),
 (S0j,V0k),
 (y0n,V0l),
 (q0q,V0m),
 (r0P,H0k),
 (x0U,H0l),
 (x0V,H0m),
 (i0H,H0n),
 (r0Q,H0o),
 (x0W,H0p),
 (f0Y,H0q),
 (d0S,H0r),
 (f0y,H0s),
 (x0X,H0t),
 (v0X,H0u),
 (v0Y,H0v),
 (q0i,f0r .few),
 (O0a,i0Z .all),
 (O0b,n0J .all),
 (O0c,g0T .all),
 (O0d,n0H .all),
 (O0e,g0U .all),
 (O0f,d0W .all),
 (O0g,n0I .all),
 (v0Z,H0w),
 (o0l,H0x),
 (x0Y,H0y),
 (q0j,H0z),
 (w0a,H0A),
 (f0z,H0B),
 (q0k,H0C),
 (w0b,H0D),
 (m0g,H0E),
 (q0l,H0F),
 (x0Z,H0G),
 (k0B,H0H),
 (O0h,i0Z .few),
 (O0i,n0J .few),
 (O0j,g0T .few),
 (O0k,n0H .few),
 (O0l,g0U .few),
 (O0m,d0W .few),
 (O0n,n0I .few),
 (m0h,H0I),
 (w0c,H0J),
 (O0o,f0q .all),
 (r0R,H0K),
 (y0a,H0L),
 (q0m,H0M),
 (w0d,H0N),
 (O0p,h0E .all),
 (y0b,H0O),
 (y0c,H0P),
 (y0d,H0Q),
 (y0e,H0R),
 (m0i,H0S),
 (w0e,H0T),
 (O0q,f0q .few),
 (r0S,H0U),
 (q0n,H0V),
 (O0r,h0E .few),
 (y0f,H0W),
 (w0f,H0X),
 (y0g,H0Y),
 (y0h,H0Z),
 (y0i,I0a),
 (w0g,I0b),
 (k0C,I0c),
 (q0o,I0d),
 (i0I,I0e),
 (m0j,I0f),
 (o0m,I0g),
 (y0j,I0h),
 (w0h,I0i),
 (k0D,I0j),
 (q0p,I0k),
 (h0V,F0o),
 (m0k,I0l),
 (o0n,I0m),
 (w0i,I0n),
 (y0k,I0o),
 (r0T,F0p)]
def o0c:List (Nat × t0D):=[(f_9,s_9)]
def env:Env:=⟨fun f=>(r0I ++ o0c).lookup f,some ⟨G0u,q0i,[.int .i64 0,.bool false,.slice none 0 0,.bool false,.slice none 0 0,.slice none 0 0,.slice none 0 0,.slice none 0 0],4,8⟩,[]⟩
theorem e_6:env.code f_6=some s_6:=rfl
theorem Y0t:env.code R0L=some U0o:=rfl
theorem Y0u:env.code Q0i=some U0p:=rfl
theorem Y0v:env.code Q0j=some U0q:=rfl
theorem Y0w:env.code Q0k=some U0r:=rfl
theorem Y0x:env.code F0N=some U0s:=rfl
theorem Y0y:env.code O0s=some U0t:=rfl
theorem Y0z:env.code y0l=some U0u:=rfl
theorem Y0A:env.code Q0l=some U0v:=rfl
theorem Y0B:env.code Q0m=some U0w:=rfl
theorem Y0C:env.code Q0n=some U0x:=rfl
theorem Y0D:env.code R0M=some U0y:=rfl
theorem Y0E:env.code R0N=some U0z:=rfl
theorem Y0F:env.code R0O=some U0A:=rfl
theorem Y0G:env.code I0O=some U0B:=rfl
theorem Y0H:env.code R0P=some U0C:=rfl
theorem Y0I:env.code R0Q=some U0D:=rfl
theorem Y0J:env.code Q0o=some U0E:=rfl
theorem Y0K:env.code R0R=some U0F:=rfl
theorem Y0L:env.code Q0p=some U0G:=rfl
theorem Y0M:env.code R0S=some U0H:=rfl
theorem Y0N:env.code Q0q=some U0I:=rfl
theorem Y0O:env.code Q0r=some U0J:=rfl
theorem Y0P:env.code R0T=some U0K:=rfl
theorem Y0Q:env.code R0U=some U0L:=rfl
theorem Y0R:env.code R0V=some U0M:=rfl
theorem Y0S:env.code R0W=some U0N:=rfl
theorem Y0T:env.code R0X=some U0O:=rfl
theorem Y0U:env.code R0Y=some U0P:=rfl
theorem Y0V:env.code R0Z=some U0Q:=rfl
theorem Y0W:env.code S0a=some U0R:=rfl
theorem Y0X:env.code r0w=some U0S:=rfl
theorem Y0Y:env.code Q0s=some U0T:=rfl
theorem Y0Z:env.code S0b=some U0U:=rfl
theorem Z0a:env.code S0c=some U0V:=rfl
theorem Z0b:env.code Q0t=some U0W:=rfl
theorem Z0c:env.code S0d=some U0X:=rfl
theorem Z0d:env.code S0e=some U0Y:=rfl
theorem Z0e:env.code S0f=some U0Z:=rfl
theorem Z0f:env.code t0Z=some V0a:=rfl
theorem Z0g:env.code Q0u=some V0b:=rfl
theorem Z0h:env.code I0P=some V0c:=rfl
theorem Z0i:env.code G0t=some V0d:=rfl
theorem Z0j:env.code I0Q=some V0e:=rfl
theorem Z0k:env.code S0g=some V0f:=rfl
theorem Z0l:env.code S0h=some V0g:=rfl
theorem Z0m:env.code S0i=some V0h:=rfl
theorem x0P {F:RK}:env.code (k0A F)=some (f0r F):=by cases F <;> rfl
theorem Z0n:env.code y0m=some V0i:=rfl
theorem Z0o:env.code Q0v=some V0j:=rfl
theorem Z0p:env.code S0j=some V0k:=rfl
theorem Z0q:env.code y0n=some V0l:=rfl
theorem Z0r:env.code q0q=some V0m:=rfl
theorem W0p:env.code r0P=some H0k:=rfl
theorem W0q:env.code x0U=some H0l:=rfl
theorem W0r:env.code x0V=some H0m:=rfl
theorem W0s:env.code i0H=some H0n:=rfl
theorem W0t:env.code r0Q=some H0o:=rfl
theorem W0u:env.code x0W=some H0p:=rfl
theorem W0v:env.code f0Y=some H0q:=rfl
theorem W0w:env.code d0S=some H0r:=rfl
theorem W0x:env.code f0y=some H0s:=rfl
theorem W0y:env.code x0X=some H0t:=rfl
theorem W0z:env.code v0X=some H0u:=rfl
theorem W0A:env.code v0Y=some H0v:=rfl
theorem N0W {F:RK}:env.code (r0N F)=some (i0Z F):=by cases F <;> rfl
theorem R0G {F:RK}:env.code (t0Y F)=some (n0J F):=by cases F <;> rfl
theorem G0q {F:RK}:env.code (j0W F)=some (g0T F):=by cases F <;> rfl
theorem R0E {F:RK}:env.code (x0S F)=some (n0H F):=by cases F <;> rfl
theorem G0r {F:RK}:env.code (j0X F)=some (g0U F):=by cases F <;> rfl
theorem v0V {F:RK}:env.code (i0G F)=some (d0W F):=by cases F <;> rfl
theorem R0F {F:RK}:env.code (x0T F)=some (n0I F):=by cases F <;> rfl
theorem W0B:env.code v0Z=some H0w:=rfl
theorem W0C:env.code o0l=some H0x:=rfl
theorem W0D:env.code x0Y=some H0y:=rfl
theorem W0E:env.code q0j=some H0z:=rfl
theorem W0F:env.code w0a=some H0A:=rfl
theorem W0G:env.code f0z=some H0B:=rfl
theorem W0H:env.code q0k=some H0C:=rfl
theorem W0I:env.code w0b=some H0D:=rfl
theorem W0J:env.code m0g=some H0E:=rfl
theorem W0K:env.code q0l=some H0F:=rfl
theorem W0L:env.code x0Z=some H0G:=rfl
theorem W0M:env.code k0B=some H0H:=rfl
theorem W0N:env.code m0h=some H0I:=rfl
theorem W0O:env.code w0c=some H0J:=rfl
theorem x0O {F:RK}:env.code (k0z F)=some (f0q F):=by cases F <;> rfl
theorem W0P:env.code r0R=some H0K:=rfl
theorem W0Q:env.code y0a=some H0L:=rfl
theorem W0R:env.code q0m=some H0M:=rfl
theorem W0S:env.code w0d=some H0N:=rfl
theorem N0X {F:RK}:env.code (r0O F)=some (h0E F):=by cases F <;> rfl
theorem W0T:env.code y0b=some H0O:=rfl
theorem W0U:env.code y0c=some H0P:=rfl
theorem W0V:env.code y0d=some H0Q:=rfl
theorem W0W:env.code y0e=some H0R:=rfl
theorem W0X:env.code m0i=some H0S:=rfl
theorem W0Y:env.code w0e=some H0T:=rfl
theorem W0Z:env.code r0S=some H0U:=rfl
theorem X0a:env.code q0n=some H0V:=rfl
theorem X0b:env.code y0f=some H0W:=rfl
theorem X0c:env.code w0f=some H0X:=rfl
theorem X0d:env.code y0g=some H0Y:=rfl
theorem X0e:env.code y0h=some H0Z:=rfl
theorem X0f:env.code y0i=some I0a:=rfl
theorem X0g:env.code w0g=some I0b:=rfl
theorem X0h:env.code k0C=some I0c:=rfl
theorem X0i:env.code q0o=some I0d:=rfl
theorem X0j:env.code i0I=some I0e:=rfl
theorem X0k:env.code m0j=some I0f:=rfl
theorem X0l:env.code o0m=some I0g:=rfl
theorem X0m:env.code y0j=some I0h:=rfl
theorem X0n:env.code w0h=some I0i:=rfl
theorem X0o:env.code k0D=some I0j:=rfl
theorem X0p:env.code q0p=some I0k:=rfl
theorem R0H:env.code h0V=some F0o:=rfl
theorem X0q:env.code m0k=some I0l:=rfl
theorem X0r:env.code o0n=some I0m:=rfl
theorem X0s:env.code w0i=some I0n:=rfl
theorem X0t:env.code y0k=some I0o:=rfl
theorem R0I:env.code r0T=some F0p:=rfl
theorem e_9:env.code f_9=some s_9:=rfl
end
section
open Go
variable {E:Env} {fl:Nat} {t:a0W} {H G:a0e} {K:l0X} {R:a0u}
def Sl (H:a0e) (e sz:Nat) (v:Value) (n:Nat) (cs:List Value):Prop :=
 cs.length=n * sz∧((v=.slice none 0 0∧n=0) ∨
  ∃ b off cap ro cells,v=.slice (some ⟨b,off,none⟩) n cap∧H.blk b=.row ro e cells∧off + n * sz≤cells.length∧cs=(cells.drop off).take (n * sz))
variable {e sz n:Nat} {v:Value} {cs:List Value}
theorem Sl.mono (h:Sl H e sz v n cs) (hx:Ext H G):Sl G e sz v n cs:=by
 obtain ⟨hl,h⟩:=h
 refine ⟨hl,?_⟩
 rcases h with h | ⟨b,off,cap,ro,cells,h1,h2,h3,h4⟩
 ·exact .inl h
 ·exact .inr ⟨b,off,cap,ro,cells,h1,hx.blk h2,h3,h4⟩
theorem Sl.nil:Sl H e sz (.slice none 0 0) 0 []:=⟨by simp,.inl ⟨rfl,rfl⟩⟩
theorem Sl.slen (h:Sl H e sz v n cs):g0C v=some (.int .i64 n):=by
 obtain ⟨_,⟨rfl,rfl⟩ | ⟨b,off,cap,ro,cells,rfl,_⟩⟩:=h <;> simp [g0C]
theorem Sl.ia (h:Sl H e sz v n cs) {k:IntKind} {j:Nat} (hj:j < n):iaV sz v (.int k j)=some (adr sz v j):=by
 obtain ⟨_,⟨rfl,rfl⟩ | ⟨b,off,cap,ro,cells,rfl,_⟩⟩:=h
 ·omega
 ·simp only [iaV,adr];rw [Z0I (by omega)];simp
theorem Sl.iaZ (h:Sl H e sz v n cs) {k:IntKind} {z:Int} (h0:0≤z) (hj:z < n):iaV sz v (.int k z)=some (adr sz v z.toNat):=by
 have:=h.ia (k:=k) (j:=z.toNat) (by omega)
 rwa [c1i h0] at this
theorem Sl.load (h:Sl H e sz v n cs) (hx:Ext H G) {j:Nat} (hj:j < n) (hs:0 < sz):b0o G true sz (adr sz v j)=some (.agg ((cs.drop (j * sz)).take sz).toArray):=by
 obtain ⟨hl,⟨rfl,rfl⟩ | ⟨b,off,cap,ro,cells,rfl,hb,ho,rfl⟩⟩:=h
 ·omega
 ·have hj2:(j + 1) * sz≤n * sz:=Z0L sz hj
  rw [Z0U,a1w] at hj2
  have hc:=e0K (off:=off + j * sz) (n:=sz) (hx.blk hb) (by omega)
  simp only [adr,b0o]
  rw [Z0F (by omega),Z0F (by simp)]
  simp only [a1p,hc]
  rw [c1v,c1c,b1t,a1I (by omega)]
theorem Sl.load1 (h:Sl H e 1 v n cs) (hx:Ext H G) {j:Nat} (hj:j < n):b0o G false 1 (adr 1 v j)=some (cs.getD j undef):=by
 obtain ⟨hl,⟨rfl,rfl⟩ | ⟨b,off,cap,ro,cells,rfl,hb,ho,rfl⟩⟩:=h
 ·omega
 ·have hc:=e0K (off:=off + j * 1) (n:=1) (hx.blk hb) (by omega)
  simp only [adr,b0o]
  rw [Z0F (by simp),Z0F (by simp)]
  simp only [hc,Z0V,a1v]
  rw [List.head?_take,Z0F (by simp),List.head?_drop,Z0C,a1O,Z0I (by omega),a1T]
  simp only [b1f] at ho ⊢
  rw [Z0H (by omega)]
  rfl
theorem Sl.elemOk (h:Sl H e sz v n cs) {G:a0e} (hx:Ext H G):AI.elemOk G e v=true:=by
 obtain ⟨hl,⟨rfl,rfl⟩ | ⟨b,off,cap,ro,cells,rfl,hb,ho,rfl⟩⟩:=h
 ·rfl
 ·unfold AI.elemOk
  simp only [hx.blk hb]
  cases ro <;> simp
theorem Sl.cells (h:Sl H e sz v n cs):a0S v=[v]:=by
 obtain ⟨hl,⟨rfl,rfl⟩ | ⟨b,off,cap,ro,cells,rfl,hb,ho,rfl⟩⟩:=h <;> rfl
theorem Sl.plain (h:Sl H e sz v n cs):a0q v=true:=by
 obtain ⟨hl,⟨rfl,rfl⟩ | ⟨b,off,cap,ro,cells,rfl,hb,ho,rfl⟩⟩:=h <;> rfl
theorem Sl.slice (h:Sl H e sz v n cs) {lo hi:Nat} (h1:lo≤hi) (h2:hi≤n) {x y:Option Value} (hx:bnd 0 x=some lo) (hy:bnd n y=some hi) :
  ∃ v',d0G sz v x y none=some v'∧Sl H e sz v' (hi - lo) ((cs.drop (lo * sz)).take ((hi - lo) * sz)):=by
 obtain ⟨hl,⟨rfl,rfl⟩ | ⟨b,off,cap,ro,cells,rfl,hb,ho,rfl⟩⟩:=h
 ·have:lo=0:=by omega
  have:hi=0:=by omega
  subst lo hi
  refine ⟨.slice none 0 0,?_,by simp,.inl ⟨rfl,rfl⟩⟩
  unfold d0G;simp [hx,hy];intro h;exact Z0T h (by decide)
 ·refine ⟨_,by unfold d0G;simp only [hx,hy];rw [Z0I ⟨h1,h2⟩];rfl,?_,.inr ⟨b,off + lo * sz,_,ro,cells,rfl,hb,?_,?_⟩⟩
  ·simp only [a1H,List.length_drop]
   have e1:(hi - lo) * sz + lo * sz=hi * sz:=by rw [← Z0U];congr 1;omega
   have e2:hi * sz≤n * sz:=Z0L sz h2
   omega
  ·have e1:(hi - lo) * sz + lo * sz=hi * sz:=by rw [← Z0U];congr 1;omega
   have e2:hi * sz≤n * sz:=Z0L sz h2
   omega
  ·have e1:(hi - lo) * sz + lo * sz=hi * sz:=by rw [← Z0U];congr 1;omega
   have e2:hi * sz≤n * sz:=Z0L sz h2
   rw [c1v,c1c,b1t,a1I (by omega)]
theorem Sl.setT (h:Sl H e sz v n cs) {p:Nat} {ro:Bool} {e':TypeId} {cs':List Value} {r:Blk} (hb:H.blk p=.row ro e' cs') (hne:e' ≠ e):Sl (H.setIfInBounds p r) e sz v n cs:=by
 obtain ⟨hl,h | ⟨b,off,cap,ro,cells,rfl,hb',ho,rfl⟩⟩:=h
 ·exact ⟨hl,.inl h⟩
 ·refine ⟨hl,.inr ⟨b,off,cap,ro,cells,rfl,?_,ho,rfl⟩⟩
  rw [a0Q];exact hb'
  rintro rfl
  rw [hb'] at hb;cases hb;exact hne rfl
def d0f (l:List Nat):List Value:=l.map fun x=>.int .u32 (x:Nat)
@[simp] theorem O0w {l:List Nat}:(d0f l).length=l.length:=by simp [d0f]
def Lim (H:a0e) (v:Value) (l:List Nat):Prop:=Sl H a0m 1 v l.length (d0f l)∧∀ x ∈ l,x < 4294967296
variable {l:List Nat}
theorem Lim.mono (h:Lim H v l) (hx:Ext H G):Lim G v l:=⟨h.1.mono hx,h.2⟩
theorem Lim.nil:Lim H (.slice none 0 0) []:=⟨Sl.nil,by simp⟩
theorem Lim.slen (h:Lim H v l):g0C v=some (.int .i64 l.length):=h.1.slen
theorem Lim.ia (h:Lim H v l) {k:IntKind} {j:Nat} (hj:j < l.length):iaV 1 v (.int k j)=some (adr 1 v j):=h.1.ia hj
theorem Lim.iaZ (h:Lim H v l) {k:IntKind} {z:Int} (h0:0≤z) (hj:z < l.length):iaV 1 v (.int k z)=some (adr 1 v z.toNat):=h.1.iaZ h0 hj
theorem Lim.load (h:Lim H v l) {j:Nat} (hj:j < l.length) {G:a0e} (hx:Ext H G):b0o G false 1 (adr 1 v j)=some (.int .u32 (l.getD j 0)):=by
 rw [h.1.load1 hx hj]
 simp [d0f,Z0C,a1M,hj]
theorem Lim.setT (h:Lim H v l) {p:Nat} {ro:Bool} {e':TypeId} {cs':List Value} {r:Blk} (hb:H.blk p=.row ro e' cs') (hne:e' ≠ a0m):Lim (H.setIfInBounds p r) v l:=⟨h.1.setT hb hne,h.2⟩
theorem Lim.elemOk (h:Lim H v l) {G:a0e} (hx:Ext H G):AI.elemOk G a0m v=true:=h.1.elemOk hx
theorem Lim.cells (h:Lim H v l):a0S v=[v]:=h.1.cells
theorem Lim.plain (h:Lim H v l):a0q v=true:=h.1.plain
theorem Lim.take (h:Lim H v l) {k:Nat} (hk:k≤l.length) {x:Option Value} (hx:bnd 0 x=some 0) {y:Option Value} (hy:bnd l.length y=some k):∃ v',d0G 1 v x y none=some v'∧Lim H v' (l.take k):=by
 obtain ⟨v',h1,h2⟩:=h.1.slice (a1x k) hk hx hy
 refine ⟨v',h1,?_,fun x hx=>h.2 x (b1r hx)⟩
 have:(l.take k).length=k:=by simp;omega
 rw [this]
 simpa [d0f,List.map_take] using h2
def b0q (H:a0e) (v:Value) (i:Bool × List Nat):Prop:=∃ s,v=.agg #[.bool i.1,s]∧Lim H s i.2
theorem b0q.mono {i:Bool × List Nat} (h:b0q H v i) (hx:Ext H G):b0q G v i:=by obtain ⟨s,h1,h2⟩:=h;exact ⟨s,h1,h2.mono hx⟩
def rd:Blk→Nat→Option Value
 | .row _ _ cs,o=>cs[o]?
 | .dead,_=>none
def rdn:Blk→Nat→Nat→Option Value
 | .row _ _ cs,o,n=>if o + n≤cs.length then some (.agg ((cs.drop o).take n).toArray) else none
 | .dead,_,_=>none
@[simp] theorem T0l {ro:Bool} {e:TypeId} {cs:List Value} {o:Nat}:rd (.row ro e cs) o=cs[o]?:=nr rfl
@[simp] theorem P0C {ro:Bool} {e:TypeId} {cs:List Value} {o n:Nat}:rdn (.row ro e cs) o n=if o + n≤cs.length then some (.agg ((cs.drop o).take n).toArray) else none:=nr rfl
theorem q0y {b o:Nat}:b0o G false 1 (.pointer (some ⟨b,o,none⟩))=rd (G.blk b) o:=by
 simp only [b0o]
 rw [Z0F (by simp),Z0F (by simp)]
 unfold a0e.cells?
 cases G.blk b with
 | dead=>rfl
 | row ro e cs =>
  simp only [Z0V,a1v,rd]
  by_cases h:o + 1≤cs.length
  ·rw [Z0I h];simp only [List.head?_take];rw [Z0F (by simp),List.head?_drop]
  ·rw [Z0F h,Z0P (by omega)]
theorem m0M {b o n:Nat} (hn:0 < n):b0o G true n (.pointer (some ⟨b,o,none⟩))=rdn (G.blk b) o n:=by
 simp only [b0o]
 rw [Z0F (by omega),Z0F (by simp)]
 unfold a0e.cells?
 cases G.blk b with
 | dead=>rfl
 | row ro e cs =>
  simp only [a1p,rdn]
  split <;> simp_all
def wr (G:a0e) (b o:Nat) (vs:List Value):Blk→Option a0e
 | .row false e cs=>if o + vs.length≤cs.length then some (G.setIfInBounds b (.row false e (b0r cs o vs))) else none
 | _=>none
@[simp] theorem Y0j {b o:Nat} {vs:List Value} {e:TypeId} {cs:List Value}:wr G b o vs (.row false e cs)=if o + vs.length≤cs.length then some (G.setIfInBounds b (.row false e (b0r cs o vs))) else none:=nr rfl
theorem w0S {b o n:Nat} {x:Value} (hf:fl≤b) (hl:(a0S x).length=n) (hp:(a0S x).all a0q=true) :
  e0Y fl G n (.pointer (some ⟨b,o,none⟩)) x=wr G b o (a0S x) (G.blk b):=by
 simp only [e0Y]
 rw [Z0F (by simp [hl])]
 unfold a0e.write? wr
 split
 ·rename_i h;simp only [h];split <;> simp_all
 ·rename_i h;split <;> simp_all
theorem t0t {b o n:Nat} {e:TypeId} {cs:List Value} {x:Value} (h:G.blk b=.row false e cs) (hf:fl≤b) (hl:(a0S x).length=n) (ho:o + n≤cs.length) (hp:(a0S x).all a0q=true) :
  e0Y fl G n (.pointer (some ⟨b,o,none⟩)) x=some (G.setIfInBounds b (.row false e (b0r cs o (a0S x)))):=by
 simp only [e0Y]
 rw [Z0F (by simp [hl])]
 unfold a0e.write?
 simp only [h]
 rw [Z0I ⟨hf,by omega,hp⟩]
theorem a0F {x:Int} (h1:-9223372036854775808≤x) (h2:x < 9223372036854775808):IntKind.i64.wrap x=x:=by
 show (if (true && decide (x % (2 ^ 64:Int) ≥ (2 ^ 63:Int)))=true then x % (2 ^ 64:Int) - (2 ^ 64:Int) else x % (2 ^ 64:Int))=x
 rw [show (2 ^ 64:Int)=18446744073709551616 from rfl,show (2 ^ 63:Int)=9223372036854775808 from rfl]
 simp only [Bool.true_and,a1E]
 split <;> omega
theorem a0N {x:Int}:IntKind.u64.wrap x=x % 18446744073709551616:=by
 simp [IntKind.wrap,IntKind.bits,IntKind.signed]
theorem p0M {x:Int}:IntKind.u32.wrap x=x % 4294967296:=by
 simp [IntKind.wrap,IntKind.bits,IntKind.signed]
def w0Q (H:a0e) (t:a0W) (rs:List SRes) (P:Value→Prop):Prop:=∃ vs,e0r H t rs=some vs∧P (d0c vs)
theorem H0i {a:Nat} {P:Value→Prop}:w0Q H t [.tmp a] P=P (get t a):=by simp [w0Q,e0r,p0Q,d0c]
theorem F0k {a n:Nat} {g:Bool} {P:Value→Prop}:w0Q H t [.cell a g n] P=oo (b0o H g n (get t a)) P:=by
 unfold w0Q;simp only [e0r,p0Q];cases b0o H g n (get t a) <;> simp [d0c]
theorem H0j {r1 r2:SRes} {P:Value→Prop}:w0Q H t [r1,r2] P=oo (p0Q H t r1) fun a=>oo (p0Q H t r2) fun b=>P (.tuple #[a,b]):=by
 unfold w0Q;simp only [e0r];cases p0Q H t r1 <;> cases p0Q H t r2 <;> simp [d0c]
theorem w0R {r1 r2 r3:SRes} {P:Value→Prop}:w0Q H t [r1,r2,r3] P=oo (p0Q H t r1) fun a=>oo (p0Q H t r2) fun b=>oo (p0Q H t r3) fun c=>P (.tuple #[a,b,c]):=by
 unfold w0Q;simp only [e0r];cases p0Q H t r1 <;> cases p0Q H t r2 <;> cases p0Q H t r3 <;> simp [d0c]
theorem H0h {a:Nat}:p0Q H t (.tmp a)=some (get t a):=nr rfl
theorem F0j {a n:Nat} {g:Bool}:p0Q H t (.cell a g n)=b0o H g n (get t a):=nr rfl
def R0J (P:a0W→a0e→Prop):d0K
 | .exit _,_,_=>False
 | .normal,t,H=>P t H
 | .ret,t,H=>P t H
@[simp] theorem N0Z {P:a0W→a0e→Prop}:R0J P .normal t H=P t H:=nr rfl
@[simp] theorem T0Z {P:a0W→a0e→Prop}:R0J P .ret t H=P t H:=nr rfl
theorem a0k {f:FuncId} {args:List Value} {sf:t0D} (hc:E.code f=some sf) (hf:fl≤H.size) (hl:args.length=sf.np:=by rfl) (hnt:args.length≤sf.nt:=by exact of_decide_eq_true rfl)
  (h:∀ ρ:Nat→Value,(∀ i,ρ i=args.getD i undef)→W E H.size sf.body (T sf.nt ρ) H (R0J (fun t' H'=>w0Q H' t' sf.res fun v=>Ext H H'→K v H')) R) :
  a0V E fl f args H (fun v H'=>K v H'∧Ext H H') R:=by
 have h1:=(o0g (K:=fun v H'=>Ext H H'→K v H') hc hl hnt (fun t h1 h2=>by
  have h3:=h (get t) h2
  rw [← F0R h1] at h3
  refine h3.mono fun e t' H' hq=>?_
  cases e with
  | exit i=>exact Z0T hq id
  | normal=>exact ⟨trivial,hq⟩
  | ret=>exact ⟨trivial,hq⟩)).keep (Z0E _)
 exact (h1.mono fun v H' hh=>⟨hh.1 hh.2.ext,hh.2.ext⟩).floor hf
end
section
open Go
section
variable {k:IntKind} {a b:Int} {tag:Nat}
@[simp] theorem G0h:d0I tag .add (.int k a) (.int k b)=some (.int k (k.wrap (a + b))):=by unfold d0I;simp
@[simp] theorem T0T:d0I tag .sub (.int k a) (.int k b)=some (.int k (k.wrap (a - b))):=by unfold d0I;simp
@[simp] theorem T0R:d0I tag .mul (.int k a) (.int k b)=some (.int k (k.wrap (a * b))):=by unfold d0I;simp
theorem t0P (h:b ≠ 0):d0I tag .quo (.int k a) (.int k b)=some (.int k (k.wrap (a.tdiv b))):=by unfold d0I;simp [h]
theorem G0k (h:b ≠ 0):d0I tag .rem (.int k a) (.int k b)=some (.int k (a.tmod b)):=by unfold d0I;simp [h]
@[simp] theorem G0i:d0I tag .and (.int k a) (.int k b)=some (.int k (k.wrap (BitVec.ofInt k.bits a &&& BitVec.ofInt k.bits b).toNat)):=by unfold d0I;simp
@[simp] theorem N0N:d0I tag .or (.int k a) (.int k b)=some (.int k (k.wrap (BitVec.ofInt k.bits a ||| BitVec.ofInt k.bits b).toNat)):=by unfold d0I;simp
@[simp] theorem T0N:d0I tag .eql (.int k a) (.int k b)=some (.bool (a == b)):=by unfold d0I;simp
@[simp] theorem T0S:d0I tag .neq (.int k a) (.int k b)=some (.bool (a != b)):=by unfold d0I;simp
@[simp] theorem G0j:d0I tag .lss (.int k a) (.int k b)=some (.bool (decide (a < b))):=by unfold d0I;simp
@[simp] theorem T0Q:d0I tag .leq (.int k a) (.int k b)=some (.bool (decide (a≤b))):=by unfold d0I;simp
@[simp] theorem T0P:d0I tag .gtr (.int k a) (.int k b)=some (.bool (decide (a > b))):=by unfold d0I;simp
@[simp] theorem T0O:d0I tag .geq (.int k a) (.int k b)=some (.bool (decide (a ≥ b))):=by unfold d0I;simp
@[simp] theorem R0p {x y:Bool}:d0I 1 .eql (.bool x) (.bool y)=some (.bool (x == y)):=by unfold d0I;simp
@[simp] theorem R0r {x y:Bool}:d0I 1 .neq (.bool x) (.bool y)=some (.bool (x != y)):=by unfold d0I;simp
@[simp] theorem R0q {x:Option Addr} {n c n2 c2:Nat}:d0I 2 .eql (.slice x n c) (.slice none n2 c2)=some (.bool x.isNone):=nr rfl
@[simp] theorem R0s {x:Option Addr} {n c n2 c2:Nat}:d0I 2 .neq (.slice x n c) (.slice none n2 c2)=some (.bool x.isSome):=nr rfl
theorem t0Q {k':IntKind} (h:0≤b):d0I tag .shl (.int k a) (.int k' b)=some (.int k (k.wrap (a * 2 ^ (min b.toNat k.bits)))):=by unfold d0I;simp [h]
theorem j0T {k':IntKind} (h:0≤b):d0I tag .shr (.int k a) (.int k' b)=some (.int k (a.fdiv (2 ^ (min b.toNat k.bits)))):=by unfold d0I;simp [h]
theorem G0v {n m:Nat}:((n:Int).fdiv (m:Int))=((n / m:Nat):Int):=by
 rw [Int.fdiv_eq_ediv_of_nonneg _ (by omega)];rfl
@[simp] theorem Z0z {n:Nat} {k':IntKind}:d0I tag .shr (.int .u64 (n:Int)) (.int k' 32)=some (.int .u64 ((n / 4294967296:Nat):Int)):=by
 rw [j0T (by omega)];exact congrArg (fun x=>some (Value.int .u64 x)) (G0v (n:=n) (m:=4294967296))
@[simp] theorem Z0A {n:Nat} {k':IntKind}:d0I tag .shr (.int .u64 (n:Int)) (.int k' 63)=some (.int .u64 ((n / 9223372036854775808:Nat):Int)):=by
 rw [j0T (by omega)];exact congrArg (fun x=>some (Value.int .u64 x)) (G0v (n:=n) (m:=9223372036854775808))
@[simp] theorem X0O:unA .neg (.int k a)=some (.int k (k.wrap (0 - a))):=nr rfl
@[simp] theorem X0P {x:Bool}:unA .not (.bool x)=some (.bool !x):=nr rfl
end
@[simp] theorem G0m {a b:Nat}:((a:Int) == (b:Int))=(a == b):=by
 rw [c1o,beq_iff_eq,beq_iff_eq];omega
@[simp] theorem T0X {a b:Nat}:((a:Int) != (b:Int))=(a != b):=by simp only [bne,G0m]
@[simp] theorem x0H {a:Nat}:((a:Int) == 0)=(a == 0):=by
 rw [c1o,beq_iff_eq,beq_iff_eq];omega
@[simp] theorem R0x {a:Nat}:((a:Int) != 0)=(a != 0):=by simp only [bne,x0H]
@[simp] theorem R0y {a:Array Value}:a0S (.agg a)=a.toList:=nr rfl
@[simp] theorem R0z {k:IntKind} {n:Int}:a0S (.int k n)=[.int k n]:=nr rfl
@[simp] theorem Q0g {b:Bool}:a0S (.bool b)=[.bool b]:=nr rfl
@[simp] theorem N0S {a:Option Addr} {n c:Nat}:a0S (.slice a n c)=[.slice a n c]:=nr rfl
@[simp] theorem R0A {a:Option Addr}:a0S (.pointer a)=[.pointer a]:=nr rfl
@[simp] theorem S0z {k:IntKind} {n:Int}:a0q (.int k n)=true:=nr rfl
@[simp] theorem Q0E {b:Bool}:a0q (.bool b)=true:=nr rfl
@[simp] theorem O0I {a:Option Addr} {n c:Nat}:a0q (.slice a n c)=true:=nr rfl
@[simp] theorem S0A {a:Option Addr}:a0q (.pointer a)=true:=nr rfl
@[simp] theorem T0V {d:Nat}:bnd d none=some d:=nr rfl
@[simp] theorem N0P {d n:Nat} {k:IntKind}:bnd d (some (.int k (n:Int)))=some n:=by simp [bnd]
@[simp] theorem Y0n {n:Nat}:n + 1 + 1=n + 2:=by omega
@[simp] theorem Y0o {n:Nat}:n + 2 + 1=n + 3:=by omega
@[simp] theorem Y0p {n:Nat}:n + 3 + 1=n + 4:=by omega
@[simp] theorem Y0q {n:Nat}:n + 4 + 1=n + 5:=by omega
@[simp] theorem Y0r {n:Nat}:n + 5 + 1=n + 6:=by omega
@[simp] theorem V0C {n:Nat}:n + 1 + 2=n + 3:=by omega
@[simp] theorem V0D {n:Nat}:n + 1 + 3=n + 4:=by omega
@[simp] theorem V0E {n:Nat}:n + 1 + 4=n + 5:=by omega
@[simp] theorem V0F {n:Nat}:n + 1 + 5=n + 6:=by omega
@[simp] theorem V0G {n:Nat}:n + 1 + 6=n + 7:=by omega
@[simp] theorem V0H {n:Nat}:n + 2 + 2=n + 4:=by omega
@[simp] theorem V0I {n:Nat}:n + 2 + 3=n + 5:=by omega
@[simp] theorem V0J {n:Nat}:n + 2 + 4=n + 6:=by omega
@[simp] theorem V0K {n:Nat}:n + 2 + 5=n + 7:=by omega
@[simp] theorem V0L {n:Nat}:n + 2 + 6=n + 8:=by omega
@[simp] theorem V0M {n:Nat}:n + 3 + 2=n + 5:=by omega
@[simp] theorem V0N {n:Nat}:n + 3 + 3=n + 6:=by omega
@[simp] theorem V0O {n:Nat}:n + 3 + 4=n + 7:=by omega
@[simp] theorem V0P {n:Nat}:n + 3 + 5=n + 8:=by omega
@[simp] theorem V0Q {n:Nat}:n + 3 + 6=n + 9:=by omega
@[simp] theorem V0R {n:Nat}:n + 4 + 2=n + 6:=by omega
@[simp] theorem V0S {n:Nat}:n + 4 + 3=n + 7:=by omega
@[simp] theorem V0T {n:Nat}:n + 4 + 4=n + 8:=by omega
@[simp] theorem V0U {n:Nat}:n + 4 + 5=n + 9:=by omega
@[simp] theorem V0V {n:Nat}:n + 4 + 6=n + 10:=by omega
@[simp] theorem V0W {n:Nat}:n + 5 + 2=n + 7:=by omega
@[simp] theorem V0X {n:Nat}:n + 5 + 3=n + 8:=by omega
@[simp] theorem V0Y {n:Nat}:n + 5 + 4=n + 9:=by omega
@[simp] theorem V0Z {n:Nat}:n + 5 + 5=n + 10:=by omega
@[simp] theorem W0a {n:Nat}:n + 5 + 6=n + 11:=by omega
@[simp] theorem W0b {n:Nat}:n + 6 + 1=n + 7:=by omega
@[simp] theorem W0c {n:Nat}:n + 6 + 2=n + 8:=by omega
@[simp] theorem W0d {n:Nat}:n + 6 + 3=n + 9:=by omega
@[simp] theorem W0e {n:Nat}:n + 6 + 4=n + 10:=by omega
@[simp] theorem W0f {n:Nat}:n + 6 + 5=n + 11:=by omega
@[simp] theorem W0g {n:Nat}:n + 6 + 6=n + 12:=by omega
def w0Y (w:Bool):Value→Bool
 | .bool b=>b == w
 | _=>false
@[simp] theorem Q0G {w b:Bool}:w0Y w (.bool b)=(b == w):=nr rfl
@[simp ↓] theorem Z0B {E:Env} {fl:Nat} {t:a0W} {H:a0e} {R:a0u} {d:Option Nat} {op:SOp} {r:List a0D} {Z:a0W→a0e→Prop} {j:Nat} {w:Bool} :
  WR E fl (⟨d,some (j,w),op⟩ :: r) t H Z R=if w0Y w (get t j)=true then WS E fl t H op (fun v H'=>WR E fl r (put t d v) H' Z R) R else WR E fl r (put t d undef) H Z R:=by
 have h:b0c t (some (j,w))=w0Y w (get t j):=by
  simp only [b0c]
  generalize get t j=v
  cases v <;> rfl
 show (if b0c t (some (j,w))=true then _ else _)=_
 rw [h]
attribute [simp ↓] F0Y N0E x0u V0A N0C R0e R0a N0A V0x R0c V0w R0d F0X N0D F0V r0C R0g V0z F0U Q0Y R0f V0y F0Z Q0X N0B x0t k0k
attribute [simp ↓] t0K N0J N0I R0k N0H G0a R0j
attribute [simp] H0i F0k H0j w0R H0h F0j w0S a0H a0Q
attribute [simp] O0K S0n P0W
attribute [simp] a0v d0q q0y m0M Ext.refl Ext.push Ext.set f0Z b0u e0q b0r
attribute [simp low] a0y
attribute [congr] F0T v0G N0F F0W G0I
def o0x (i:Nat) (A M:a0W→a0e→Prop) (Q:d0K):d0K
 | .normal,t,H=>A t H
 | .exit j,t,H=>if j=i then M t H else Q (.exit j) t H
 | .ret,t,H=>Q .ret t H
section
variable {E:Env} {fl:Nat} {t:a0W} {H:a0e} {Q:d0K} {R:a0u}
@[simp] theorem I0U {i:Nat} {A M:a0W→a0e→Prop}:o0x i A M Q .normal t H=A t H:=nr rfl
@[simp] theorem Q0A {i j:Nat} {A M:a0W→a0e→Prop}:o0x i A M Q (.exit j) t H=if j=i then M t H else Q (.exit j) t H:=nr rfl
@[simp] theorem S0q {i:Nat} {A M:a0W→a0e→Prop}:o0x i A M Q .ret t H=Q .ret t H:=nr rfl
theorem R0h {a:SCode} {Z:a0W→a0e→Prop} (M:a0W→a0e→Prop) (h:W E fl a t H (h0H M Q) R) (hz:∀ t H,M t H→Z t H):W E fl a t H (h0H Z Q) R:=by
 refine h.mono fun e t' H' hq=>?_
 cases e with
 | normal=>exact hz _ _ hq
 | exit i=>exact hq
 | ret=>exact hq
theorem b0U {c:SCode} {i:Nat} {Z:a0W→a0e→Prop} (I:Nat→a0W→a0e→Prop) (M:a0W→a0e→Prop) (k:Nat) (hI:I k t H)
  (step:∀ k t H,I k t H→W E fl c t H (o0x i (fun t' H'=>∃ k',k' < k∧I k' t' H') M Q) R)
  (rest:∀ t H,M t H→Z t H):W E fl (.loop c) t H (f0h i (h0H Z Q)) R:=by
 refine I0I I (fun k t H h=>(step k t H h).mono fun e t' H' hq=>?_) k hI
 cases e with
 | normal=>exact hq
 | ret=>exact hq
 | exit j =>
  simp only [o0x] at hq
  simp only [h0H,f0h]
  split
  ·rename_i hj;rw [Z0I hj] at hq;exact rest _ _ hq
  ·rename_i hj;rw [Z0F hj] at hq;exact hq
end
end
section
open Go
variable {fl:Nat} {H G:a0e} {e e2 sz n m bytes:Nat} {s x:Value} {cs new:List Value}
def slB:Value→Option Nat
 | .slice (some p) _ _=>some p.block
 | _=>none
def Own (fl:Nat) (H:a0e) (e sz:Nat) (v:Value) (n:Nat) (cs:List Value):Prop :=
 cs.length=n * sz∧((v=.slice none 0 0∧n=0) ∨ ∃ b cap,v=.slice (some ⟨b,0,none⟩) n cap∧H.blk b=.row false e cs∧fl≤b)
theorem Own.nil:Own fl H e sz (.slice none 0 0) 0 []:=⟨by simp,.inl ⟨rfl,rfl⟩⟩
theorem Own.mk {b cap:Nat} (hb:H.blk b=.row false e cs) (hl:cs.length=n * sz) (hf:fl≤b):Own fl H e sz (.slice (some ⟨b,0,none⟩) n cap) n cs:=⟨hl,.inr ⟨b,cap,rfl,hb,hf⟩⟩
theorem Own.sl (h:Own fl H e sz s n cs):Sl H e sz s n cs:=by
 obtain ⟨hl,h | ⟨b,cap,rfl,hb,hf⟩⟩:=h
 ·exact ⟨hl,.inl h⟩
 ·exact ⟨hl,.inr ⟨b,0,cap,false,cs,rfl,hb,by omega,by rw [b1n,← hl,a1a]⟩⟩
theorem Own.mono (h:Own fl H e sz s n cs) (hx:Ext H G):Own fl G e sz s n cs:=by
 obtain ⟨hl,h | ⟨b,cap,rfl,hb,hf⟩⟩:=h
 ·exact ⟨hl,.inl h⟩
 ·exact ⟨hl,.inr ⟨b,cap,rfl,hx.blk hb,hf⟩⟩
def c0V (o:Option Nat) (H G:a0e):Prop:=H.size≤G.size∧∀ b,b < H.size→o ≠ some b→G.blk b=H.blk b
theorem Ext.extB {o:Option Nat} (h:Ext H G):c0V o H G:=⟨h.1,fun b hb _=>h.2 b hb⟩
theorem k0p (ho:Own fl G e sz s n cs) (hx:Sl G e2 sz x m new) (hp:new.all a0q=true) (hn:n + m≤1073741824) (hb:bytes≤1024) (hs:0 < sz) (hfl:fl≤G.size) :
  ∃ v' G',h0g fl G e sz bytes s x=some (v',G')∧Own fl G' e sz v' (n + m) (cs ++ new)∧c0V (slB s) G G'∧(∀ H0,H0.size≤fl→Ext H0 G→Ext H0 G'):=by
 obtain ⟨hxl,hx⟩:=hx
 have hol:=ho.1
 by_cases hm:m=0
 ·subst hm
  have hnew:new=[]:=a1c.1 (by omega)
  subst hnew
  refine ⟨s,G,?_,by simpa using ho,(Ext.refl G).extB,fun _ _ h=>h⟩
  rcases hx with ⟨rfl,_⟩ | ⟨b,off,cap,ro,cells,rfl,_⟩ <;> rcases ho.2 with ⟨rfl,rfl⟩ | ⟨b',cap',rfl,_⟩ <;> simp [h0g]
 ·rcases hx with ⟨_,h0⟩ | ⟨b,off,cap,ro,cells,rfl,hbk,ho1,ho2⟩
  ·exact Z0T h0 hm
  have hc:=e0K hbk ho1
  rw [← ho2] at hc
  rcases ho.2 with ⟨rfl,rfl⟩ | ⟨b',cap',rfl,hb',hf'⟩
  ·have hcs:cs=[]:=a1c.1 (by omega)
   subst hcs
   refine ⟨.slice (some ⟨G.size,0,none⟩) m unk,G.push (.row false e new),?_,?_,(Ext.push (Ext.refl G)).extB,fun _ _ h=>h.push⟩
   ·unfold h0g
    simp only
    rw [Z0F hm,Z0I ⟨by omega,hb,hs⟩]
    simp only [hc,hp,b1L,a1v]
    rw [Z0I ⟨by trivial,by trivial⟩]
   ·rw [a1i];exact Own.mk a0v (by simpa using hxl) hfl
  ·have hb'l:=a0g hb'
   have hc2:G.cells? b' 0 (n * sz)=some cs:=by
    rw [e0K hb' (by omega),b1n,← hol,a1a]
   by_cases hcap:cap' ≠ unk∧cap' < n + m
   ·refine ⟨.slice (some ⟨G.size,0,none⟩) (n + m) unk,G.push (.row false e (cs ++ new)),?_,?_,(Ext.push (Ext.refl G)).extB,fun _ _ h=>h.push⟩
    ·unfold h0g
     simp only
     rw [Z0F hm,Z0I ⟨by omega,hb,hs⟩]
     simp only [hc,hp,b1L,a1v,hc2]
     by_cases h00:n=0∧cap' = 0
     ·rw [Z0I h00]
      have hcs:cs=[]:=a1c.1 (by rw [hol,h00.1];simp)
      rw [hcs,h00.1];simp
     ·rw [Z0F h00,Z0I hcap]
    ·exact Own.mk a0v (by rw [Z0S,hol,hxl,Z0U]) hfl
   ·refine ⟨.slice (some ⟨G.size,0,none⟩) (n + m) unk,(G.setIfInBounds b' .dead).push (.row false e (cs ++ new)),?_,?_,?_,?_⟩
    ·unfold h0g
     simp only
     rw [Z0F hm,Z0I ⟨by omega,hb,hs⟩]
     simp only [hc,hp,b1L,a1v,hc2]
     rw [Z0F (fun h00:n=0∧cap' = 0=>hcap ⟨by rw [h00.2];decide,by omega⟩),Z0F hcap]
     simp only [hb']
     rw [Z0I ⟨trivial,hf'⟩]
    ·exact Own.mk (by rw [a0y];simp) (by rw [Z0S,hol,hxl,Z0U]) hfl
    ·refine ⟨by simp,fun c hc hne=>?_⟩
     have:b' ≠ c:=fun h=>hne (by simp [slB,h])
     rw [d0q (by simpa using hc),a0Q this]
    ·intro H0 h1 h2
     exact (h2.set (by omega)).push
theorem g0f {c:Nat} (ho:Own fl G e sz s n cs) (hl:new.length=sz) (hp:new.all a0q=true) (hn:n < 1073741824) (hb:bytes≤1024) (hs:0 < sz) (hfl:fl≤G.size) :
  ∃ v' G',h0g fl (G.push (.row false e2 new)) e sz bytes s (.slice (some ⟨G.size,0,none⟩) 1 c)=some (v',G')∧Own fl G' e sz v' (n + 1) (cs ++ new)∧c0V (slB s) G G'∧(∀ H0,H0.size≤fl→Ext H0 G→Ext H0 G'):=by
 have hx:Sl (G.push (.row false e2 new)) e2 sz (.slice (some ⟨G.size,0,none⟩) 1 c) 1 new:=(Own.mk (fl:=0) a0v (by omega) (a1x _)).sl
 obtain ⟨v',G',h1,h2,h3,h4⟩:=k0p (ho.mono (Ext.push (Ext.refl G))) hx hp (by omega) hb hs (bytes:=bytes) (by simp;omega)
 refine ⟨v',G',h1,h2,⟨?_,fun b hb hne=>?_⟩,fun H0 k1 k2=>h4 H0 k1 k2.push⟩
 ·have:=h3.1;simp at this;omega
 ·rw [h3.2 b (by simp;omega) hne,d0q hb]
@[simp] theorem P0V {a b:List Nat}:d0f (a ++ b)=d0f a ++ d0f b:=by simp [d0f]
theorem m0V {l:List Nat}:(d0f l).all a0q=true:=by simp [d0f,a0q]
end
section
open Go
variable {fl:Nat} {H:a0e} {R:a0u} {v:Value} {i:Bool × List Nat}
def k0J (i:Bool × List Nat):Bool:=if i.2.length=0 then !i.1 else i.2.getD (i.2.length - 1) 0 != 0
theorem e0R (h:b0q H v i) (hf:fl≤H.size) (hn:i.2.length < 4611686018427387904) :
  a0V env fl q0k [v] H (fun r H'=>r=.bool (k0J i)∧Ext H H') R:=by
 obtain ⟨s,rfl,hs⟩:=h
 refine a0k W0H hf (h:=?_)
 intro ρ h0
 simp [H0C]
 simp [B0g,B0h,B0i,B0j,h0]
 simp (disch:=first | omega | assumption | (simp;done) | (repeat (first | assumption | exact Ext.refl _ | apply Ext.push | apply Ext.set))) [hs.slen,hs.iaZ,hs.load,a0F]
 refine ⟨fun h=>by simp [k0J,h],fun h=>?_⟩
 have hl:=c1k.2 h
 simp (disch:=first | omega | assumption | (simp;done) | (repeat (first | assumption | exact Ext.refl _ | apply Ext.push | apply Ext.set))) [hs.iaZ,hs.load,k0J,h]
def f0l (i:Bool × List Nat):List Nat:=if k0J i then i.2 else []
theorem m0r (h:b0q H v i) (hf:fl≤H.size) (hn:i.2.length < 4611686018427387904) :
  a0V env fl f0y [v] H (fun r H'=>Lim H' r (f0l i)∧Ext H H') R:=by
 obtain ⟨s,rfl,hs⟩:=h
 refine a0k W0x hf (h:=?_)
 intro ρ h0
 simp [H0s]
 simp [A0d,A0e,A0f,A0g,h0]
 refine (e0R ⟨s,rfl,hs.mono (by simp)⟩ (by simp) hn).mono ?_
 rintro _ G ⟨rfl,hx⟩
 simp [hx.2,f0l]
 exact ⟨fun h _=>by simp [h,Lim.nil],fun h hx=>by simp [h,hs.mono hx]⟩
def U0i (i:Bool × List Nat):Bool:=k0J i && i.1
theorem q0G (h:b0q H v i) (hf:fl≤H.size) (hn:i.2.length < 4611686018427387904) :
  a0V env fl d0S [v] H (fun r H'=>r=.bool (U0i i)∧Ext H H') R:=by
 obtain ⟨s,rfl,hs⟩:=h
 refine a0k W0w hf (h:=?_)
 intro ρ h0
 simp [H0r]
 simp [A0b,A0c,h0]
 refine (e0R ⟨s,rfl,hs.mono (by simp)⟩ (by simp) hn).mono ?_
 rintro _ G ⟨rfl,hx⟩
 cases hm:k0J i <;> simp [hx.2,U0i,h0,hm]
theorem a0o {x:Nat} (hf:fl≤H.size) :
  a0V env fl f0z [.int .u64 x] H (fun r H'=>r=.int .u32 ((x % 4294967296:Nat):Int)∧Ext H H') R:=by
 refine a0k W0G hf (h:=?_)
 intro ρ h0
 simp [H0B]
 simp [B0e,B0f,h0,p0M]
def c0Q (a b:Int):Int:=if a < b then -1 else if a > b then 1 else 0
theorem i0d {a b:Int} (hf:fl≤H.size) :
  a0V env fl y0b [.int .i64 a,.int .i64 b] H (fun r H'=>r=.int .i64 (c0Q a b)∧Ext H H') R:=by
 refine a0k W0T hf (h:=?_)
 intro ρ h0
 simp [H0O]
 simp [C0h,C0i,C0j,C0k,C0l,C0m,h0,c0Q]
 refine ⟨fun h1 h2=>?_,fun h1=>⟨fun h2=>?_,fun h2=>?_⟩⟩ <;> (repeat' split) <;> omega
theorem g0p {a b:Int} (hf:fl≤H.size) :
  a0V env fl y0c [.int .u32 a,.int .u32 b] H (fun r H'=>r=.int .i64 (c0Q a b)∧Ext H H') R:=by
 refine a0k W0U hf (h:=?_)
 intro ρ h0
 simp [H0P]
 simp [C0n,C0o,C0p,C0q,C0r,C0s,h0,c0Q]
 refine ⟨fun h1 h2=>?_,fun h1=>⟨fun h2=>?_,fun h2=>?_⟩⟩ <;> (repeat' split) <;> omega
theorem v0F {l:List Nat} (h:Lim H v l) (hf:fl≤H.size) (hn:l.length≤1073741824) :
  a0V env fl x0Z [v] H (fun r H'=>Lim H' r l∧Ext H H') R:=by
 refine a0k W0L hf (h:=?_)
 intro ρ h0
 simp [H0G]
 simp [B0x,B0y,B0z,B0A,h0]
 have hd:=h
 obtain ⟨⟨hl,⟨rfl,h2⟩ | ⟨b,off,cap,ro,cells,rfl,hb,ho,hcs⟩⟩,hx⟩:=h
 ·have:l=[]:=a1c.1 h2
  subst this
  simp [Lim.nil]
 ·simp
  have ho2:Own H.size (H.push (.row false a0m [])) a0m 1 (.slice (some ⟨H.size,0,none⟩) 0 0) 0 []:=Own.mk a0v (by simp) (Z0E _)
  obtain ⟨v',G',h1,h2,h3,h4⟩:=k0p (bytes:=4) ho2 ((hd.mono (Ext.push (Ext.refl H))).1) m0V (by omega) (by omega) (by omega) (by simp)
  simp only [a1i,b1d] at h2
  simp [h1]
  exact fun _=>⟨h2.sl,hx⟩
end
section
open Go
variable {fl:Nat} {H:a0e} {R:a0u} {v:Value} {i:Bool × List Nat} {l:List Nat}
def d0t (l:List Nat):List Nat:=(l.reverse.dropWhile (· == 0)).reverse
theorem r0t:d0t []=[]:=rfl
theorem l0M:d0t (l ++ [0])=d0t l:=by simp [d0t]
theorem j0g {x:Nat} (h:x ≠ 0):d0t (l ++ [x])=l ++ [x]:=by simp [d0t,h]
def mkI (neg:Bool) (l:List Nat):Bool × List Nat:=if d0t l=[] then (false,[]) else (neg,d0t l)
theorem d0Z {n:Nat} (h:n < l.length):l.take (n + 1)=l.take n ++ [l.getD n 0]:=by
 rw [List.take_add_one,Z0H h,Z0C,Z0H h];rfl
theorem o0D {b:Bool} (h:Lim H v l) (hf:fl≤H.size) (hn:l.length≤1073741824) :
  a0V env fl f0Y [.bool b,v] H (fun r H'=>b0q H' r (mkI b l)∧Ext H H') R:=by
 refine a0k W0v hf (h:=?_)
 intro ρ h0
 simp [H0q]
 simp [z0V,z0W,h0,h.slen]
 refine b0U (fun k t G=>G=H.push (.row false a0a [.bool false,.slice none 0 0])∧t.length=29∧get t 0=.bool b∧get t 1=v∧get t 4=.pointer (some ⟨H.size,0,none⟩) ∧
   get t 5=.int .i64 k∧k≤l.length∧d0t (l.take k)=d0t l)
  (fun t G=>∃ k:Nat,G=H.push (.row false a0a [.bool false,.slice none 0 0])∧t.length=29∧get t 0=.bool b∧get t 1=v∧get t 4=.pointer (some ⟨H.size,0,none⟩) ∧
   get t 5=.int .i64 k∧k≤l.length∧d0t l=l.take k) l.length (by simp [h0]) ?_ ?_
 ·rintro k t G ⟨rfl,ht,g0,g1,g4,g5,hk,htr⟩
  obtain ⟨ρ,rfl⟩:=toT ht
  simp only [b0Q,Nat.reduceLT] at g0 g1 g4 g5
  by_cases hk0:k=0
  ·subst hk0
   simp [s0p,g0,g1,g4,g5]
   exact ⟨0,by simp,by simp,by rw [← htr];rfl⟩
  ·have hp:0 < k:=by omega
   have w1:IntKind.i64.wrap ((k:Int) - 1)=((k - 1:Nat):Int):=by rw [a0F (by omega) (by omega)];omega
   simp [s0p,z0X,g0,g1,g4,g5,hp,w1,h.ia (show k - 1 < l.length by omega),h.load (show k - 1 < l.length by omega)]
   have hk1:l.take k=l.take (k - 1) ++ [l.getD (k - 1) 0]:=by rw [← d0Z (by omega)];congr 1;omega
   rw [Z0C] at hk1
   refine ⟨fun hz=>⟨k - 1,by omega,rfl,by omega,?_⟩,fun hz=>⟨k,rfl,hk,?_⟩⟩
   ·rw [← htr,hk1,hz,l0M]
   ·rw [← htr,hk1,j0g hz]
 ·rintro t G ⟨k,rfl,ht,g0,g1,g4,g5,hk,htr⟩
  obtain ⟨ρ,rfl⟩:=toT ht
  simp only [b0Q,Nat.reduceLT] at g0 g1 g4 g5
  obtain ⟨v',h1,h2⟩:=h.take hk (x:=none) rfl (y:=some (.int .i64 (k:Int))) (by simp)
  simp [z0Y,z0Z,A0a,g0,g1,g4,g5,h.elemOk,h1]
  refine ⟨fun hk0=>⟨.slice none 0 0,by simp [mkI,htr,hk0],by simp [mkI,htr,hk0,Lim.nil]⟩,fun hk0=>?_⟩
  refine (v0F (h2.mono (by simp)) (by simp) (by simp;omega)).mono ?_
  rintro r G ⟨hr,hx⟩
  have hlt:H.size < G.size:=by have:=hx.1;simp at this;omega
  simp [hr.cells,hr.plain,hx.2,hlt]
  have hl0:l ≠ []:=by rintro rfl;exact hk0 (by simpa using hk)
  refine fun _=>⟨r,?_,?_⟩
  ·simp [mkI,htr,hk0,hl0]
  ·have:(mkI b l).2=l.take k:=by simp [mkI,htr,hk0,hl0]
   rw [this]
   exact hr.setT (by rw [hx.2 _ (by simp)];exact a0v) (by decide)
end
section
open Go
def a0B:List Nat→Nat
 | []=>0
 | x :: l=>x + 4294967296 * a0B l
def b0x (l:List Nat):Prop:=∀ x ∈ l,x < 4294967296
theorem f0D:∀ (a b:List Nat),a0B (a ++ b)=a0B a + 4294967296 ^ a.length * a0B b
 | [],b=>by simp [a0B]
 | x :: a,b=>by
  simp only [b1J,a0B,f0D a b,a1s,a1r]
  rw [Z0X,← a1e,a1b (4294967296 ^ a.length) 4294967296,a1R]
theorem d0D (a:List Nat) (x:Nat):a0B (a ++ [x])=a0B a + 4294967296 ^ a.length * x:=by rw [f0D];simp [a0B]
theorem g0o:∀ (l:List Nat),b0x l→a0B l < 4294967296 ^ l.length
 | [],_=>by simp [a0B]
 | x :: l,h=>by
  have h1:=g0o l (fun y hy=>h y (b1z _ hy))
  have h2:=h x (c1p ..)
  simp only [a0B,a1s,a1r]
  omega
theorem n0N (x:Nat) (l:List Nat):d0t (x :: l)=if d0t l=[]∧x=0 then [] else x :: d0t l:=by
 unfold d0t
 rw [List.reverse_cons,List.dropWhile_append]
 by_cases h:(List.dropWhile (fun x=>x == 0) l.reverse).isEmpty=true
 ·rw [Z0I h]
  have h':List.dropWhile (fun x=>x == 0) l.reverse=[]:=by simpa using h
  rw [h']
  by_cases hx:x=0 <;> simp [hx]
 ·rw [Z0F h]
  have h':List.dropWhile (fun x=>x == 0) l.reverse ≠ []:=by simpa using h
  rw [Z0F (by simp [h'])]
  simp
theorem i0a:∀ (l:List Nat),a0B l=0 ↔ d0t l=[]
 | []=>by simp [a0B,r0t]
 | x :: l=>by
  rw [n0N]
  have:=i0a l
  by_cases h:d0t l=[]∧x=0
  ·rw [Z0I h];have:=this.2 h.1;simp [a0B,this,h.2]
  ·rw [Z0F h]
   simp only [a0B,reduceCtorEq,iff_false]
   intro h0
   exact h ⟨this.1 (by omega),by omega⟩
def a0K (n:Nat):List Nat:=if h:n=0 then [] else (n % 4294967296) :: a0K (n / 4294967296)
termination_by n
decreasing_by omega
theorem b0n:a0K 0=[]:=by unfold a0K;simp
theorem e0y {n:Nat} (h:n ≠ 0):a0K n=(n % 4294967296) :: a0K (n / 4294967296):=by rw [a0K];simp [h]
theorem e0Z:∀ (l:List Nat),b0x l→d0t l=a0K (a0B l)
 | [],_=>by rw [r0t,a0B,b0n]
 | x :: l,h=>by
  have ih:=e0Z l (fun y hy=>h y (b1z _ hy))
  have hx:=h x (c1p ..)
  rw [n0N]
  by_cases hc:d0t l=[]∧x=0
  ·rw [Z0I hc]
   have:=(i0a l).2 hc.1
   rw [a0B,this,hc.2,b0n]
  ·rw [Z0F hc]
   have hne:a0B (x :: l) ≠ 0:=by
    intro h0
    simp only [a0B] at h0
    exact hc ⟨(i0a l).1 (by omega),by omega⟩
   rw [e0y hne]
   have e1:a0B (x :: l) % 4294967296=x:=by simp only [a0B];omega
   have e2:a0B (x :: l) / 4294967296=a0B l:=by simp only [a0B];omega
   rw [e1,e2,ih]
theorem a0J (n:Nat):a0B (a0K n)=n:=by
 induction n using Nat.strongRecOn with
 | ind n ih =>
  by_cases h:n=0
  ·rw [h,b0n];rfl
  ·rw [e0y h,a0B,ih _ (by omega)];omega
theorem b0H (n:Nat):b0x (a0K n):=by
 induction n using Nat.strongRecOn with
 | ind n ih =>
  by_cases h:n=0
  ·rw [h,b0n];intro x hx;simp at hx
  ·rw [e0y h]
   intro x hx
   rcases a1W.1 hx with rfl | hx
   ·omega
   ·exact ih _ (by omega) x hx
theorem g0N {n k:Nat} (h:n < 4294967296 ^ k):(a0K n).length≤k:=by
 induction k generalizing n with
 | zero => have : n = 0 := by simpa using h
           rw [this,b0n];simp
 | succ k ih =>
  by_cases h0:n=0
  ·rw [h0,b0n];simp
  ·rw [e0y h0,a1s]
   have:n / 4294967296 < 4294967296 ^ k:=by
    rw [b1q (by omega)];rw [a1r] at h;exact h
   have:=ih this
   omega
theorem k0I (n:Nat):n < 4294967296 ^ (a0K n).length:=by
 have:=g0o (a0K n) (b0H n)
 rwa [a0J] at this
theorem b0S {n:Nat}:a0K n=[] ↔ n=0:=by
 constructor
 ·intro h;rw [← a0J n,h];rfl
 ·rintro rfl;exact b0n
theorem k0v {n:Nat} (h:n ≠ 0):(a0K n).getD ((a0K n).length - 1) 0 ≠ 0:=by
 induction n using Nat.strongRecOn with
 | ind n ih =>
  rw [e0y h]
  by_cases h2:n / 4294967296=0
  ·rw [h2,b0n];simp;omega
  ·have:=ih (n / 4294967296) (by omega) h2
   have hl:(a0K (n / 4294967296)).length ≠ 0:=fun h3=>h2 (b0S.1 (a1c.1 h3))
   rw [a1s,show (a0K (n / 4294967296)).length + 1 - 1=((a0K (n / 4294967296)).length - 1) + 1 by omega,List.getD_cons_succ]
   exact this
def a0P (i:Bool × List Nat):Int:=if k0J i then (if i.1 then -(a0B i.2:Int) else a0B i.2) else 0
def a0l (z:Int):Bool × List Nat:=(decide (z < 0),a0K z.natAbs)
theorem I0Y {b:Bool} {l:List Nat} (h:b0x l):mkI b l=a0l (if b then -(a0B l:Int) else a0B l):=by
 unfold mkI a0l
 rw [e0Z l h]
 by_cases h0:a0B l=0
 ·rw [h0,b0n];cases b <;> simp [b0n]
 ·rw [Z0F (by rw [b0S];exact h0)]
  cases b <;> simp <;> omega
theorem q0C (z:Int):k0J (a0l z)=true:=by
 unfold k0J a0l
 by_cases h:z=0
 ·subst h;simp [b0n]
 ·have h1:z.natAbs ≠ 0:=by omega
  have h2:(a0K z.natAbs).length ≠ 0:=fun h3=>h1 (b0S.1 (a1c.1 h3))
  simp only
  rw [Z0F h2]
  simpa using k0v h1
theorem a0j (z:Int):a0P (a0l z)=z:=by
 unfold a0P
 rw [q0C]
 simp only [a0l,a0J,a1p]
 by_cases h:z < 0 <;> simp [h] <;> omega
theorem e0w:a0l 0=(false,[]):=by simp [a0l,b0n]
end
section
open Go
set_option maxHeartbeats 4000000
variable {fl:Nat} {H:a0e} {R:a0u} {v w:Value} {a b:List Nat}
theorem Lim.ok {l:List Nat} (h:Lim H v l):b0x l:=h.2
theorem b0i {l:List Nat} {n:Nat} (h:n < l.length):a0B (l.take (n + 1))=a0B (l.take n) + 4294967296 ^ n * l.getD n 0:=by
 rw [d0Z h,d0D,a1H,a1I (by omega)]
theorem o0E (ha:Lim H v a) (hb:Lim H w b) (hf:fl≤H.size) (hna:a.length < 1073741824) (hnb:b.length < 1073741824) :
  a0V env fl x0Y [v,w] H (fun r H'=>(∃ o,Lim H' r o∧a0B o=a0B a + a0B b∧o.length=max a.length b.length + 1)∧Ext H H') R:=by
 refine a0k W0D hf (h:=?_)
 intro ρ h0
 simp only [H0y]
 refine h0q (l0Z ?_)
 simp [-t0K,A0M,h0]
 refine h0q (R0h (fun t G=>G=H∧t.length=55∧∃ v w a' b',get t 0=v∧get t 1=w∧Lim H v a'∧Lim H w b'∧b'.length≤a'.length∧a'.length=max a.length b.length∧a0B a' + a0B b' = a0B a + a0B b) ?_ ?_)
 ·simp [A0N,A0O,h0,ha.slen,hb.slen]
  exact ⟨fun h=>⟨b,hb,a,ha,by omega,by omega,by omega⟩,fun h=>⟨a,ha,b,hb,by omega,by omega,by omega⟩⟩
 clear h0 ρ
 rintro t G ⟨rfl,ht,v,w,a',b',g0,g1,ha',hb',hle,hlen,hsum⟩
 obtain ⟨ρ,rfl⟩:=toT ht
 simp only [b0Q,Nat.reduceLT] at g0 g1
 have hna':a'.length < 1073741824:=by omega
 rw [← hlen,← hsum]
 clear ha hb hna hnb hlen hsum a b
 have w1:IntKind.i64.wrap ((a'.length:Int) + 1)=(a'.length:Int) + 1:=a0F (by omega) (by omega)
 have hm:=U0h (bytes:=4) (k:=.i64) (k':=.i64) (l:=0) (c:=(a'.length:Int) + 1) (by omega) (by omega) (by omega) (by omega)
 simp [A0P,A0Q,A0R,g0,g1,ha'.slen,w1,hm]
 refine b0U (fun k t G'=>∃ i c out s,i + k=a'.length∧t.length=55∧get t 1=w∧get t 5=s∧get t 6=.int .u64 ((c:Nat):Int)∧get t 20=v∧get t 21=.int .i64 a'.length∧get t 22=.int .i64 ((i:Nat):Int) ∧
   Ext G G'∧Own G.size G' a0m 1 s i (d0f out)∧b0x out∧out.length=i∧c≤1∧a0B out + 4294967296 ^ i * c=a0B (a'.take i) + a0B (b'.take i))
  (fun t G'=>∃ c out s,t.length=55∧get t 5=s∧get t 6=.int .u64 ((c:Nat):Int) ∧
   Ext G G'∧Own G.size G' a0m 1 s a'.length (d0f out)∧b0x out∧out.length=a'.length∧c≤1∧a0B out + 4294967296 ^ a'.length * c=a0B a' + a0B b') a'.length ?_ ?_ ?_
 ·exact ⟨0,0,[],.slice (some ⟨G.size,0,none⟩) 0 (a'.length + 1),by omega,by simp,by simp [g1],by simp,by simp,by simp,by simp,by simp,by simp,
   Own.mk (by simp [d0f]) rfl (Z0E _),by intro x hx;simp at hx,rfl,by omega,by simp [a0B]⟩
 ·clear g0 g1 hm w1 ht ρ
  rintro k t G' ⟨i,c,out,s,hik,ht,g1,g5,g6,g20,g21,g22,hx,ho,hok,hol,hc,hs⟩
  obtain ⟨ρ,rfl⟩:=toT ht
  simp only [b0Q,Nat.reduceLT] at g1 g5 g6 g20 g21 g22
  by_cases hi:i < a'.length
  ·have hla:=ha'.load hi hx
   have hA2:=b0i hi
   have hA3:a'.getD i 0 < 4294967296:=ha'.2 _ (by rw [Z0C,Z0H hi];exact Z0M hi)
   generalize a'.getD i 0=A at hla hA2 hA3
   have e1:IntKind.u64.wrap ((c:Int) + IntKind.u64.wrap (A:Int))=((c + A:Nat):Int):=by rw [a0N,a0N];omega
   have e9:IntKind.i64.wrap ((i:Int) + 1)=((i + 1:Nat):Int):=by rw [a0F (by omega) (by omega)];omega
   by_cases hib:i < b'.length
   ·have hlb:=hb'.load hib hx
    have hB2:=b0i hib
    have hB3:b'.getD i 0 < 4294967296:=hb'.2 _ (by rw [Z0C,Z0H hib];exact Z0M hib)
    generalize b'.getD i 0=B at hlb hB2 hB3
    have e2:IntKind.u64.wrap (((c + A:Nat):Int) + IntKind.u64.wrap (B:Int))=((c + A + B:Nat):Int):=by rw [a0N,a0N];omega
    simp [-Int.natCast_add,p0k,s0u,s0v,s0w,p0g,p0h,p0i,p0j,g1,g5,g6,g20,g21,g22,hi,ha'.ia hi,hla,hb'.slen,e1,hib,hb'.ia hib,hlb,e2]
    generalize hc2:c + A + B=c2
    refine (a0o hx.1).mono ?_
    rintro _ G2 ⟨rfl,hx2⟩
    obtain ⟨s',G3,h1,h2,h3,h4⟩:=g0f (e2:=a0m) (new:=[.int .u32 ((c2 % 4294967296:Nat):Int)]) (c:=1) (bytes:=4) (ho.mono hx2) rfl rfl (by omega) (by omega) (by omega) (by have:=hx.1;have:=hx2.1;omega)
    simp [-Int.natCast_emod,-Int.natCast_add,h1,g1,g5,g6,g20,g21,g22,e9]
    refine ⟨k - 1,by omega,i + 1,by omega,c2 / 4294967296,rfl,rfl,h4 _ (Z0E _) (hx.trans hx2),out ++ [c2 % 4294967296],by simpa [d0f] using h2,?_,by simp [hol],by omega,?_⟩
    ·intro x hx
     rcases a1g.1 hx with hx | hx
     ·exact hok x hx
     ·simp at hx;omega
    ·rw [d0D,hol,hA2,hB2,a1r]
     have e3:4294967296 ^ i * 4294967296 * (c2 / 4294967296)=4294967296 ^ i * (4294967296 * (c2 / 4294967296)):=a1e ..
     have e4:4294967296 ^ i * (c2 % 4294967296) + 4294967296 ^ i * (4294967296 * (c2 / 4294967296))=4294967296 ^ i * c2:=by rw [← Z0X,Nat.mod_add_div]
     have e5:4294967296 ^ i * c2=4294967296 ^ i * c + 4294967296 ^ i * A + 4294967296 ^ i * B:=by rw [← hc2,Z0X,Z0X]
     omega
   ·have hB2:a0B (b'.take (i + 1))=a0B (b'.take i) + 4294967296 ^ i * 0:=by rw [Z0R (by omega),Z0R (by omega)];simp
    have hB3:(0:Nat) < 4294967296:=by omega
    have e2:c + A=c + A + 0:=rfl
    rw [e2] at e1
    generalize (0:Nat)=B at hB2 hB3 e1
    simp [-Int.natCast_add,p0k,s0u,s0v,s0w,p0g,p0h,p0i,p0j,g1,g5,g6,g20,g21,g22,hi,ha'.ia hi,hla,hb'.slen,e1,hib]
    generalize hc2:c + A + B=c2
    refine (a0o hx.1).mono ?_
    rintro _ G2 ⟨rfl,hx2⟩
    obtain ⟨s',G3,h1,h2,h3,h4⟩:=g0f (e2:=a0m) (new:=[.int .u32 ((c2 % 4294967296:Nat):Int)]) (c:=1) (bytes:=4) (ho.mono hx2) rfl rfl (by omega) (by omega) (by omega) (by have:=hx.1;have:=hx2.1;omega)
    simp [-Int.natCast_emod,-Int.natCast_add,h1,g1,g5,g6,g20,g21,g22,e9]
    refine ⟨k - 1,by omega,i + 1,by omega,c2 / 4294967296,rfl,rfl,h4 _ (Z0E _) (hx.trans hx2),out ++ [c2 % 4294967296],by simpa [d0f] using h2,?_,by simp [hol],by omega,?_⟩
    ·intro x hx
     rcases a1g.1 hx with hx | hx
     ·exact hok x hx
     ·simp at hx;omega
    ·rw [d0D,hol,hA2,hB2,a1r]
     have e3:4294967296 ^ i * 4294967296 * (c2 / 4294967296)=4294967296 ^ i * (4294967296 * (c2 / 4294967296)):=a1e ..
     have e4:4294967296 ^ i * (c2 % 4294967296) + 4294967296 ^ i * (4294967296 * (c2 / 4294967296))=4294967296 ^ i * c2:=by rw [← Z0X,Nat.mod_add_div]
     have e5:4294967296 ^ i * c2=4294967296 ^ i * c + 4294967296 ^ i * A + 4294967296 ^ i * B:=by rw [← hc2,Z0X,Z0X]
     omega
  ·simp [p0k,g1,g5,g6,g20,g21,g22,hi]
   have:i=a'.length:=by omega
   subst this
   refine ⟨c,rfl,hx,out,ho,hok,hol,hc,?_⟩
   rw [hs,Z0R (Z0E _),Z0R hle]
 ·clear g0 g1 hm w1 ht ρ
  rintro t G' ⟨c,out,s,ht,g5,g6,hx,ho,hok,hol,hc,hs⟩
  obtain ⟨ρ,rfl⟩:=toT ht
  simp only [b0Q,Nat.reduceLT] at g5 g6
  simp [u0U,g5,g6]
  refine (a0o hx.1).mono ?_
  rintro _ G2 ⟨rfl,hx2⟩
  obtain ⟨s',G3,h1,h2,h3,h4⟩:=g0f (e2:=a0m) (new:=[.int .u32 ((c % 4294967296:Nat):Int)]) (c:=1) (bytes:=4) (ho.mono hx2) rfl rfl (by omega) (by omega) (by omega) (by have:=hx.1;have:=hx2.1;omega)
  simp [-Int.natCast_emod,-Int.natCast_add,h1]
  refine fun _=>⟨out ++ [c % 4294967296],⟨by simpa [hol,d0f] using h2.sl,?_⟩,?_,by simp [hol]⟩
  ·intro x hx
   rcases a1g.1 hx with hx | hx
   ·exact hok x hx
   ·simp at hx;omega
  ·rw [d0D,hol,a1k (by omega)];exact hs
theorem h0i (ha:Lim H v a) (hb:Lim H w b) (hf:fl≤H.size) (hna:a.length < 1073741824) (hle:b.length≤a.length) (hnat:a0B b≤a0B a) :
  a0V env fl w0a [v,w] H (fun r H'=>(∃ o,Lim H' r o∧a0B o=a0B a - a0B b∧o.length=a.length)∧Ext H H') R:=by
 refine a0k W0F hf (h:=?_)
 intro ρ h0
 simp only [H0A]
 have hm:=U0h (bytes:=4) (k:=.i64) (k':=.i64) (l:=0) (c:=(a.length:Int)) (by omega) (by omega) (by omega) (by omega)
 simp [B0a,B0b,B0c,B0d,h0,ha.slen,hm]
 refine b0U (fun k t G'=>∃ i c out s,i + k=a.length∧t.length=46∧get t 1=w∧get t 5=s∧get t 6=.int .u64 ((c:Nat):Int)∧get t 14=v∧get t 15=.int .i64 a.length∧get t 16=.int .i64 ((i:Nat):Int) ∧
   Ext H G'∧Own H.size G' a0m 1 s i (d0f out)∧b0x out∧out.length=i∧c≤1∧a0B out + a0B (b.take i)=a0B (a.take i) + 4294967296 ^ i * c)
  (fun t G'=>∃ c out s,t.length=46∧get t 5=s ∧
   Ext H G'∧Own H.size G' a0m 1 s a.length (d0f out)∧b0x out∧out.length=a.length∧c≤1∧a0B out + a0B b=a0B a + 4294967296 ^ a.length * c) a.length ?_ ?_ ?_
 ·exact ⟨0,0,[],.slice (some ⟨H.size,0,none⟩) 0 a.length,by omega,by simp,by simp [h0],by simp,by simp,by simp [h0],by simp,by simp,by simp,
   Own.mk (by simp [d0f]) rfl (Z0E _),by intro x hx;simp at hx,rfl,by omega,by simp [a0B]⟩
 ·clear hm h0 ρ
  rintro k t G' ⟨i,c,out,s,hik,ht,g1,g5,g6,g14,g15,g16,hx,ho,hok,hol,hc,hs⟩
  obtain ⟨ρ,rfl⟩:=toT ht
  simp only [b0Q,Nat.reduceLT] at g1 g5 g6 g14 g15 g16
  by_cases hi:i < a.length
  ·have hla:=ha.load hi hx
   have hA2:=b0i hi
   have hA3:a.getD i 0 < 4294967296:=ha.2 _ (by rw [Z0C,Z0H hi];exact Z0M hi)
   generalize a.getD i 0=A at hla hA2 hA3
   have e9:IntKind.i64.wrap ((i:Int) + 1)=((i + 1:Nat):Int):=by rw [a0F (by omega) (by omega)];omega
   by_cases hib:i < b.length
   ·have hlb:=hb.load hib hx
    have hB2:=b0i hib
    have hB3:b.getD i 0 < 4294967296:=hb.2 _ (by rw [Z0C,Z0H hib];exact Z0M hib)
    generalize b.getD i 0=B at hlb hB2 hB3
    have e2:IntKind.u64.wrap ((c:Int) + IntKind.u64.wrap (B:Int))=((c + B:Nat):Int):=by rw [a0N,a0N];omega
    have e3:IntKind.u64.wrap (IntKind.u64.wrap (A:Int) - ((c + B:Nat):Int))=(((A + 18446744073709551616 - (c + B)) % 18446744073709551616:Nat):Int):=by rw [a0N,a0N];omega
    simp [-Int.natCast_add,-Int.natCast_emod,p0o,s0y,s0z,s0A,s0B,s0C,p0l,p0m,p0n,g1,g5,g6,g14,g15,g16,hi,ha.ia hi,hla,hb.slen,hib,hb.ia hib,hlb,e2,e3]
    generalize hD:(A + 18446744073709551616 - (c + B)) % 18446744073709551616=D
    refine (a0o hx.1).mono ?_
    rintro _ G2 ⟨rfl,hx2⟩
    obtain ⟨s',G3,h1,h2,h3,h4⟩:=g0f (e2:=a0m) (new:=[.int .u32 ((D % 4294967296:Nat):Int)]) (c:=1) (bytes:=4) (ho.mono hx2) rfl rfl (by omega) (by omega) (by omega) (by have:=hx.1;have:=hx2.1;omega)
    simp [-Int.natCast_emod,-Int.natCast_add,h1,g1,g5,g6,g14,g15,g16,e9]
    refine ⟨k - 1,by omega,i + 1,by omega,D / 9223372036854775808,rfl,rfl,h4 _ (Z0E _) (hx.trans hx2),out ++ [D % 4294967296],by simpa [d0f] using h2,?_,by simp [hol],by omega,?_⟩
    ·intro x hx
     rcases a1g.1 hx with hx | hx
     ·exact hok x hx
     ·simp at hx;omega
    ·rw [d0D,hol,hA2,hB2,a1r]
     have e3:4294967296 ^ i * 4294967296 * (D / 9223372036854775808)=4294967296 ^ i * (4294967296 * (D / 9223372036854775808)):=a1e ..
     have e4:D % 4294967296 + c + B=A + 4294967296 * (D / 9223372036854775808):=by omega
     have e5:4294967296 ^ i * (D % 4294967296) + 4294967296 ^ i * c + 4294967296 ^ i * B=4294967296 ^ i * A + 4294967296 ^ i * (4294967296 * (D / 9223372036854775808)):=by
      rw [← Z0X,← Z0X,← Z0X,e4]
     omega
   ·have hB2:a0B (b.take (i + 1))=a0B (b.take i) + 4294967296 ^ i * 0:=by rw [Z0R (by omega),Z0R (by omega)];simp
    have hB3:(0:Nat) < 4294967296:=by omega
    have e3:IntKind.u64.wrap (IntKind.u64.wrap (A:Int) - (c:Int))=(((A + 18446744073709551616 - (c + 0)) % 18446744073709551616:Nat):Int):=by rw [a0N,a0N];omega
    generalize hB:(0:Nat)=B at hB2 hB3 e3
    simp [-Int.natCast_add,-Int.natCast_emod,p0o,s0y,s0z,s0A,s0B,s0C,p0l,p0m,p0n,g1,g5,g6,g14,g15,g16,hi,ha.ia hi,hla,hb.slen,hib,e3]
    generalize hD:(A + 18446744073709551616 - (c + B)) % 18446744073709551616=D
    refine (a0o hx.1).mono ?_
    rintro _ G2 ⟨rfl,hx2⟩
    obtain ⟨s',G3,h1,h2,h3,h4⟩:=g0f (e2:=a0m) (new:=[.int .u32 ((D % 4294967296:Nat):Int)]) (c:=1) (bytes:=4) (ho.mono hx2) rfl rfl (by omega) (by omega) (by omega) (by have:=hx.1;have:=hx2.1;omega)
    simp [-Int.natCast_emod,-Int.natCast_add,h1,g1,g5,g6,g14,g15,g16,e9]
    refine ⟨k - 1,by omega,i + 1,by omega,D / 9223372036854775808,rfl,rfl,h4 _ (Z0E _) (hx.trans hx2),out ++ [D % 4294967296],by simpa [d0f] using h2,?_,by simp [hol],by omega,?_⟩
    ·intro x hx
     rcases a1g.1 hx with hx | hx
     ·exact hok x hx
     ·simp at hx;omega
    ·rw [d0D,hol,hA2,hB2,a1r]
     have e3:4294967296 ^ i * 4294967296 * (D / 9223372036854775808)=4294967296 ^ i * (4294967296 * (D / 9223372036854775808)):=a1e ..
     have e4:D % 4294967296 + c + B=A + 4294967296 * (D / 9223372036854775808):=by omega
     have e5:4294967296 ^ i * (D % 4294967296) + 4294967296 ^ i * c + 4294967296 ^ i * B=4294967296 ^ i * A + 4294967296 ^ i * (4294967296 * (D / 9223372036854775808)):=by
      rw [← Z0X,← Z0X,← Z0X,e4]
     omega
  ·simp [p0o,g1,g5,g6,g14,g15,g16,hi]
   have:i=a.length:=by omega
   subst this
   refine ⟨hx,c,out,ho,hok,hol,hc,?_⟩
   rw [Z0R (Z0E _),Z0R hle] at hs
   exact hs
 ·clear hm h0 ρ
  rintro t G' ⟨c,out,s,ht,g5,hx,ho,hok,hol,hc,hs⟩
  obtain ⟨ρ,rfl⟩:=toT ht
  simp only [b0Q,Nat.reduceLT] at g5
  simp [u0V,g5]
  refine fun _=>⟨out,⟨by simpa [hol] using ho.sl,hok⟩,?_,hol⟩
  have h2:=g0o out hok
  rw [hol] at h2
  have:c=0:=by
   refine Decidable.byContradiction fun hc0=>?_
   have:c=1:=by omega
   subst this
   omega
  subst this
  omega
def N0T (a b:List Nat):Int:=if a.length ≠ b.length then c0Q a.length b.length else c0Q (a0B a) (a0B b)
theorem e0c {x y:Nat}:c0Q (x:Int) (y:Int)=if x < y then -1 else if y < x then 1 else 0:=by
 unfold c0Q;(repeat' split) <;> omega
theorem y0H {i:Nat} (hab:a.length=b.length) (ha:b0x a) (hb:b0x b) (hi:i < a.length) (he:a.drop (i + 1)=b.drop (i + 1)) (hne:a.getD i 0 ≠ b.getD i 0) :
  c0Q (a0B a:Int) (a0B b:Int)=c0Q (a.getD i 0:Int) (b.getD i 0:Int):=by
 have h1:a0B a=a0B (a.take i) + 4294967296 ^ i * a.getD i 0 + 4294967296 ^ (i + 1) * a0B (a.drop (i + 1)):=by
  have:=f0D (a.take (i + 1)) (a.drop (i + 1))
  rw [b1p,a1H,a1I (by omega)] at this
  rw [this,b0i hi]
 have h2:a0B b=a0B (b.take i) + 4294967296 ^ i * b.getD i 0 + 4294967296 ^ (i + 1) * a0B (b.drop (i + 1)):=by
  have:=f0D (b.take (i + 1)) (b.drop (i + 1))
  rw [b1p,a1H,a1I (by omega)] at this
  rw [this,b0i (by omega)]
 have h3:=g0o (a.take i) (fun x hx=>ha x (b1r hx))
 have h4:=g0o (b.take i) (fun x hx=>hb x (b1r hx))
 rw [a1H,a1I (by omega)] at h3 h4
 rw [he] at h1
 generalize 4294967296 ^ (i + 1) * a0B (b.drop (i + 1))=Z at h1 h2
 generalize a.getD i 0=x at *
 generalize b.getD i 0=y at *
 generalize 4294967296 ^ i=P at *
 rw [e0c,e0c]
 by_cases hxy:x < y
 ·have:P * (x + 1)≤P * y:=a1h P hxy
  rw [Z0X] at this
  rw [Z0I (by omega),Z0I hxy]
 ·have:P * (y + 1)≤P * x:=a1h P (by omega)
  rw [Z0X] at this
  rw [Z0F (by omega),Z0I (by omega),Z0F hxy,Z0I (by omega)]
theorem e0S (ha:Lim H v a) (hb:Lim H w b) (hf:fl≤H.size) (hna:a.length < 4611686018427387904) :
  a0V env fl q0j [v,w] H (fun r H'=>r=.int .i64 (N0T a b)∧Ext H H') R:=by
 refine a0k W0E hf (h:=?_)
 intro ρ h0
 simp only [H0z]
 have w1:IntKind.i64.wrap ((a.length:Int) - 1)=(a.length:Int) - 1:=a0F (by omega) (by omega)
 simp [A0S,A0T,A0U,A0V,h0,ha.slen,hb.slen,w1]
 refine ⟨fun h=>?_,fun hab=>?_⟩
 ·refine (i0d (Z0E _)).mono ?_
  rintro _ G ⟨rfl,hx⟩
  simp [N0T,h]
 have hcl:N0T a b=c0Q (a0B a) (a0B b):=by simp [N0T,hab]
 rw [hcl]
 refine b0U (fun k t G'=>t.length=41∧get t 0=v∧get t 1=w∧get t 5=.int .i64 ((k:Int) - 1)∧G' = H∧k≤a.length∧a.drop k=b.drop k)
  (fun t G'=>t.length=41∧G' = H∧a=b) a.length (by simp [h0,hab]) ?_ ?_
 ·clear h0 ρ
  rintro k t G' ⟨ht,g0,g1,g5,rfl,hk,hd⟩
  obtain ⟨ρ,rfl⟩:=toT ht
  simp only [b0Q,Nat.reduceLT] at g0 g1 g5
  by_cases hk0:k=0
  ·subst hk0
   simp [s0x,g0,g1,g5]
   simpa using hd
  ·have e0:(k:Int) - 1=((k - 1:Nat):Int):=by omega
   have hka:k - 1 < a.length:=by omega
   have hkb:k - 1 < b.length:=by omega
   have hla:=ha.load hka (Ext.refl _)
   have hlb:=hb.load hkb (Ext.refl _)
   have w2:IntKind.i64.wrap (((k - 1:Nat):Int) - 1)=((k - 1:Nat):Int) - 1:=a0F (by omega) (by omega)
   rw [e0] at g5
   have hla':=ha.ia (k:=.i64) hka
   have hlb':=hb.ia (k:=.i64) hkb
   have hh:=y0H hab ha.ok hb.ok hka (by rw [show k - 1 + 1=k by omega];exact hd)
   generalize hA:a.getD (k - 1) 0=A at hla hh
   generalize hB:b.getD (k - 1) 0=B at hlb hh
   simp [s0x,g0,g1,g5]
   refine a0A ?_
   simp [A0W,g0,g1,g5,hla,hla',hlb,hlb']
   refine ⟨fun hne=>?_,fun heq=>?_⟩
   ·refine a0A ?_
    simp [A0X,g0,g1,g5,hla,hla',hlb,hlb']
    refine (g0p (Z0E _)).mono ?_
    rintro _ G ⟨rfl,hx⟩
    simp [hh hne]
   ·simp [A0Y,g0,g1,g5,w2]
    refine ⟨k - 1,by omega,rfl,by omega,?_⟩
    rw [a1L hka,a1L hkb,show k - 1 + 1=k by omega,hd]
    congr 1
    rw [Z0C,Z0H hka] at hA
    rw [Z0C,Z0H hkb] at hB
    simp at hA hB;omega
 ·clear h0 ρ
  rintro t G' ⟨ht,rfl,rfl⟩
  obtain ⟨ρ,rfl⟩:=toT ht
  simp [A0Z,c0Q]
end
section
open Go
variable {fl:Nat} {H:a0e} {R:a0u} {v:Value} {i:Bool × List Nat} {a b:List Nat}
theorem b0q.ok (h:b0q H v i):b0x i.2:=by obtain ⟨s,_,hs⟩:=h;exact hs.ok
theorem F0F {l:List Nat} (h:l.length=0 ∨ l.getD (l.length - 1) 0 ≠ 0):d0t l=l:=by
 rcases List.eq_nil_or_concat l with rfl | ⟨l',x,rfl⟩
 ·rfl
 ·have:x ≠ 0:=by
   rcases h with h | h
   ·simp at h
   ·simpa [Z0C] using h
  rw [List.concat_eq_append];exact j0g this
theorem k0G (i:Bool × List Nat):d0t (f0l i)=f0l i:=by
 unfold f0l
 by_cases h:k0J i=true
 ·rw [Z0I h]
  refine F0F ?_
  unfold k0J at h
  by_cases h0:i.2.length=0
  ·exact .inl h0
  ·rw [Z0F h0] at h;exact .inr (by simpa using h)
 ·rw [Z0F h];rfl
theorem y0B (h:b0x i.2):b0x (f0l i):=by
 unfold f0l;split
 ·exact h
 ·intro x hx;simp at hx
theorem I0A (i:Bool × List Nat):(a0P i).natAbs=a0B (f0l i):=by
 unfold a0P f0l
 by_cases h:k0J i=true
 ·rw [Z0I h,Z0I h];split <;> omega
 ·rw [Z0F h,Z0F h];rfl
theorem q0x (h:b0x i.2):f0l i=a0K (a0P i).natAbs:=by
 rw [I0A,← e0Z _ (y0B h),k0G]
theorem O0B (i:Bool × List Nat):U0i i=decide (a0P i < 0):=by
 unfold U0i a0P
 by_cases h:k0J i=true
 ·rw [Z0I h,h,Bool.true_and]
  by_cases hn:i.1=true
  ·have h0:a0B i.2 ≠ 0:=by
    intro h0
    have h1:=(i0a i.2).1 h0
    have h2:=k0G i
    unfold f0l at h2
    rw [Z0I h,h1] at h2
    unfold k0J at h
    rw [← h2] at h
    simp [hn] at h
   rw [Z0I hn,hn];simp;omega
  ·rw [Z0F hn];simp [hn]
 ·rw [Z0F h];simp [h]
theorem w0n (i:Bool × List Nat):(f0l i).length≤i.2.length:=by unfold f0l;split <;> simp
theorem a0U (h:b0x i.2):(a0K (a0P i).natAbs).length≤i.2.length:=by rw [← q0x h];exact w0n i
theorem b0m {m n:Nat} (h:m≤n):(a0K m).length≤(a0K n).length:=g0N (Nat.lt_of_le_of_lt h (k0I n))
theorem f0w (m n:Nat):N0T (a0K m) (a0K n)=c0Q m n:=by
 unfold N0T
 rw [a0J,a0J]
 split
 ·rename_i h
  rw [e0c,e0c]
  by_cases hmn:m < n
  ·have:=b0m (Nat.le_of_lt hmn)
   rw [Z0I hmn,Z0I (by omega)]
  ·have:=b0m (show n≤m by omega)
   have hne:m ≠ n:=fun h2=>h (by rw [h2])
   rw [Z0F hmn,Z0I (by omega:n < m),Z0F (by omega),Z0I (by omega)]
 ·rfl
theorem b0K (h:b0q H v i) (hf:fl≤H.size) (hn:i.2.length < 4611686018427387904) :
  a0V env fl f0y [v] H (fun r H'=>Lim H' r (a0K (a0P i).natAbs)∧Ext H H') R:=by
 rw [← q0x h.ok];exact m0r h hf hn
theorem b0t (h:b0q H v i) (hf:fl≤H.size) (hn:i.2.length < 4611686018427387904) :
  a0V env fl d0S [v] H (fun r H'=>r=.bool (decide (a0P i < 0))∧Ext H H') R:=by
 rw [← O0B];exact q0G h hf hn
theorem b0Z {l:List Nat} {b:Bool} (z:Int) (h:Lim H v l) (hf:fl≤H.size) (hn:l.length≤1073741824) (hz:(if b then -(a0B l:Int) else a0B l)=z) :
  a0V env fl f0Y [.bool b,v] H (fun r H'=>b0q H' r (a0l z)∧Ext H H') R:=by
 rw [← hz,← I0Y h.ok];exact o0D h hf hn
theorem b0q.setT (h:b0q H v i) {p:Nat} {ro:Bool} {e':TypeId} {cs':List Value} {r:Blk} (hb:H.blk p=.row ro e' cs') (hne:e' ≠ a0m):b0q (H.setIfInBounds p r) v i:=by
 obtain ⟨s,h1,h2⟩:=h;exact ⟨s,h1,h2.setT hb hne⟩
end
section
open Go
set_option maxHeartbeats 4000000
variable {fl:Nat} {H:a0e} {R:a0u} {v w:Value} {i j:Bool × List Nat}
theorem e0f (h:b0q H v i) (hf:fl≤H.size) (hn:i.2.length≤1073741824) :
  a0V env fl G0t [v] H (fun r H'=>b0q H' r (a0l (-a0P i))∧Ext H H') R:=by
 have hh:=h
 obtain ⟨s,rfl,hs⟩:=h
 refine a0k Z0i hf (h:=?_)
 intro ρ h0
 simp [V0d,M0p,h0]
 generalize hG:Array.push (Array.push H _) _=G
 have hx:Ext H G:=by rw [← hG];simp
 have b0:a0e.blk G H.size=.row false a0a [.bool i.1,s]:=by rw [← hG];simp
 have b1:a0e.blk G (H.size + 1)=.row false a0a [.bool false,.slice none 0 0]:=by rw [← hG];simp
 have hz:H.size + 1 < G.size:=a0g b1
 refine a0A ?_
 simp [M0q,h0,b0,b1]
 refine (b0t (hh.mono hx) (by omega) (by omega)).mono ?_
 rintro _ G2 ⟨rfl,hx2⟩
 replace b0:=hx2.blk b0
 replace b1:=hx2.blk b1
 replace hx:=hx.trans hx2
 simp [h0,b0,b1]
 refine (b0K (hh.mono hx) hx.1 (by omega)).mono ?_
 rintro l G3 ⟨hl,hx3⟩
 replace b1:=hx3.blk b1
 replace hx:=hx.trans hx3
 try simp [h0]
 have:=a0U hh.ok
 refine (b0Z (-a0P i) hl hx.1 (by omega) (by rw [a0J];simp;split <;> omega)).mono ?_
 rintro _ G4 ⟨⟨s',rfl,hs'⟩,hx4⟩
 replace b1:=hx4.blk b1
 have hz:=a0g b1
 simp [b1,hs'.cells,hs'.plain,hz]
 exact fun _=>⟨s',rfl,hs'.setT b1 (by decide)⟩
theorem e0e (h:b0q H v i) (k:b0q H w j) (hf:fl≤H.size) (hn:i.2.length < 536870912) (hm:j.2.length < 536870912) :
  a0V env fl y0n [v,w] H (fun r H'=>b0q H' r (a0l (a0P i + a0P j))∧Ext H H') R:=by
 have hh:=h
 have kk:=k
 obtain ⟨s,rfl,hs⟩:=h
 obtain ⟨u,rfl,hu⟩:=k
 refine a0k Z0q hf (h:=?_)
 intro ρ h0
 simp [V0l,M0S,h0]
 generalize hG:Array.push (Array.push (Array.push H _) _) _=G
 have hx:Ext H G:=by rw [← hG];exact (Ext.refl H).push.push.push
 have b0:a0e.blk G H.size=.row false a0a [.bool i.1,s]:=by rw [← hG];simp
 have b1:a0e.blk G (H.size + 1)=.row false a0a [.bool j.1,u]:=by rw [← hG];simp
 have b2:a0e.blk G (H.size + 2)=.row false a0a [.bool false,.slice none 0 0]:=by rw [← hG];simp
 have hz:H.size + 1 < G.size:=a0g b1
 clear hG
 refine a0A ?_
 simp [M0T,h0,b0,b1]
 refine (b0K (hh.mono hx) (by omega) (by omega)).mono ?_
 rintro x G2 ⟨hl,hx2⟩
 replace b0:=hx2.blk b0
 replace b1:=hx2.blk b1
 replace b2:=hx2.blk b2
 replace hx:=hx.trans hx2
 try simp [h0,b0,b1]
 refine (b0K (kk.mono hx) hx.1 (by omega)).mono ?_
 rintro y G3 ⟨hl2,hx3⟩
 replace b0:=hx3.blk b0
 replace b1:=hx3.blk b1
 replace b2:=hx3.blk b2
 replace hx:=hx.trans hx3
 replace hl:=hl.mono hx3
 try simp [h0]
 refine a0A ?_
 simp [M0U,h0,b0,b1]
 refine (b0t (hh.mono hx) (by have:=hx.1;omega) (by omega)).mono ?_
 rintro _ G2 ⟨rfl,hx2⟩
 replace b0:=hx2.blk b0
 replace b1:=hx2.blk b1
 replace b2:=hx2.blk b2
 replace hx:=hx.trans hx2
 replace hl:=hl.mono hx2
 replace hl2:=hl2.mono hx2
 try simp [h0,b0,b1]
 refine (b0t (kk.mono hx) hx.1 (by omega)).mono ?_
 rintro _ G2 ⟨rfl,hx2⟩
 replace b0:=hx2.blk b0
 replace b1:=hx2.blk b1
 replace b2:=hx2.blk b2
 replace hx:=hx.trans hx2
 replace hl:=hl.mono hx2
 replace hl2:=hl2.mono hx2
 clear hs hu hz hx2
 have l1:=a0U hh.ok
 have l2:=a0U kk.ok
 simp [h0]
 refine ⟨fun hsame=>?_,fun hdiff=>?_⟩
 ·simp [M0V,h0,b0]
  refine (b0t (hh.mono hx) hx.1 (by omega)).mono ?_
  rintro _ G2 ⟨rfl,hx2⟩
  replace b0:=hx2.blk b0
  replace b1:=hx2.blk b1
  replace b2:=hx2.blk b2
  replace hx:=hx.trans hx2
  replace hl:=hl.mono hx2
  replace hl2:=hl2.mono hx2
  try simp [h0]
  refine (o0E hl hl2 hx.1 (by omega) (by omega)).mono ?_
  rintro r G2 ⟨⟨o,ho,hon,hol⟩,hx2⟩
  replace b0:=hx2.blk b0
  replace b1:=hx2.blk b1
  replace b2:=hx2.blk b2
  replace hx:=hx.trans hx2
  replace hl:=hl.mono hx2
  replace hl2:=hl2.mono hx2
  try simp [h0]
  rw [a0J,a0J] at hon
  refine (b0Z (a0P i + a0P j) ho hx.1 (by omega) (by rw [hon];simp;split <;> omega)).mono ?_
  rintro _ G2 ⟨⟨s',rfl,hs'⟩,hx2⟩
  replace b0:=hx2.blk b0
  replace b1:=hx2.blk b1
  replace b2:=hx2.blk b2
  replace hx:=hx.trans hx2
  replace hl:=hl.mono hx2
  replace hl2:=hl2.mono hx2
  have hz:=a0g b2
  simp [b2,hs'.cells,hs'.plain,hz]
  exact fun _=>⟨s',rfl,hs'.setT b2 (by decide)⟩
 ·simp [M0W,h0]
  refine (e0S hl hl2 hx.1 (by omega)).mono ?_
  rintro _ G2 ⟨rfl,hx2⟩
  replace b0:=hx2.blk b0
  replace b1:=hx2.blk b1
  replace b2:=hx2.blk b2
  replace hx:=hx.trans hx2
  replace hl:=hl.mono hx2
  replace hl2:=hl2.mono hx2
  rw [f0w,e0c]
  try simp [h0]
  refine ⟨fun hge=>?_,fun hlt=>?_⟩
  ·have hab:(a0P j).natAbs≤(a0P i).natAbs:=by
    (repeat' split at hge) <;> omega
   simp [M0X,h0,b0]
   refine (b0t (hh.mono hx) hx.1 (by omega)).mono ?_
   rintro _ G2 ⟨rfl,hx2⟩
   replace b0:=hx2.blk b0
   replace b1:=hx2.blk b1
   replace b2:=hx2.blk b2
   replace hx:=hx.trans hx2
   replace hl:=hl.mono hx2
   replace hl2:=hl2.mono hx2
   try simp [h0]
   refine (h0i hl hl2 hx.1 (by omega) (b0m hab) (by rw [a0J,a0J];exact hab)).mono ?_
   rintro r G2 ⟨⟨o,ho,hon,hol⟩,hx2⟩
   replace b0:=hx2.blk b0
   replace b1:=hx2.blk b1
   replace b2:=hx2.blk b2
   replace hx:=hx.trans hx2
   replace hl:=hl.mono hx2
   replace hl2:=hl2.mono hx2
   try simp [h0]
   rw [a0J,a0J] at hon
   refine (b0Z (a0P i + a0P j) ho hx.1 (by omega) (by rw [hon];simp;split <;> omega)).mono ?_
   rintro _ G2 ⟨⟨s',rfl,hs'⟩,hx2⟩
   replace b0:=hx2.blk b0
   replace b1:=hx2.blk b1
   replace b2:=hx2.blk b2
   replace hx:=hx.trans hx2
   replace hl:=hl.mono hx2
   replace hl2:=hl2.mono hx2
   have hz:=a0g b2
   simp [b2,hs'.cells,hs'.plain,hz]
   exact fun _=>⟨s',rfl,hs'.setT b2 (by decide)⟩
  ·have hab:(a0P i).natAbs≤(a0P j).natAbs:=by
    (repeat' split at hlt) <;> omega
   simp [M0Y,h0,b1]
   refine (b0t (kk.mono hx) hx.1 (by omega)).mono ?_
   rintro _ G2 ⟨rfl,hx2⟩
   replace b0:=hx2.blk b0
   replace b1:=hx2.blk b1
   replace b2:=hx2.blk b2
   replace hx:=hx.trans hx2
   replace hl:=hl.mono hx2
   replace hl2:=hl2.mono hx2
   try simp [h0]
   refine (h0i hl2 hl hx.1 (by omega) (b0m hab) (by rw [a0J,a0J];exact hab)).mono ?_
   rintro r G2 ⟨⟨o,ho,hon,hol⟩,hx2⟩
   replace b0:=hx2.blk b0
   replace b1:=hx2.blk b1
   replace b2:=hx2.blk b2
   replace hx:=hx.trans hx2
   replace hl:=hl.mono hx2
   replace hl2:=hl2.mono hx2
   try simp [h0]
   rw [a0J,a0J] at hon
   refine (b0Z (a0P i + a0P j) ho hx.1 (by omega) (by rw [hon];simp;split <;> omega)).mono ?_
   rintro _ G2 ⟨⟨s',rfl,hs'⟩,hx2⟩
   replace b0:=hx2.blk b0
   replace b1:=hx2.blk b1
   replace b2:=hx2.blk b2
   replace hx:=hx.trans hx2
   replace hl:=hl.mono hx2
   replace hl2:=hl2.mono hx2
   have hz:=a0g b2
   simp [b2,hs'.cells,hs'.plain,hz]
   exact fun _=>⟨s',rfl,hs'.setT b2 (by decide)⟩
theorem y0z (z:Int):(a0l z).2.length=(a0K z.natAbs).length:=rfl
theorem q0F (h:b0q H v i) (k:b0q H w j) (hf:fl≤H.size) (hn:i.2.length < 536870912) (hm:j.2.length < 536870912) :
  a0V env fl y0j [v,w] H (fun r H'=>b0q H' r (a0l (a0P i - a0P j))∧Ext H H') R:=by
 have hh:=h
 have kk:=k
 obtain ⟨s,rfl,hs⟩:=h
 obtain ⟨u,rfl,hu⟩:=k
 refine a0k X0m hf (h:=?_)
 intro ρ h0
 simp [I0h,D0I,h0]
 generalize hG:Array.push (Array.push (Array.push H _) _) _=G
 have hx:Ext H G:=by rw [← hG];exact (Ext.refl H).push.push.push
 have b0:a0e.blk G H.size=.row false a0a [.bool i.1,s]:=by rw [← hG];simp
 have b1:a0e.blk G (H.size + 1)=.row false a0a [.bool j.1,u]:=by rw [← hG];simp
 have b2:a0e.blk G (H.size + 2)=.row false a0a [.bool false,.slice none 0 0]:=by rw [← hG];simp
 clear hG
 refine a0A ?_
 simp [D0J,h0,b0,b1]
 refine (e0f (kk.mono hx) (by have:=hx.1;omega) (by omega)).mono ?_
 rintro x G2 ⟨hl,hx2⟩
 replace b0:=hx2.blk b0
 replace b1:=hx2.blk b1
 replace b2:=hx2.blk b2
 replace hx:=hx.trans hx2
 try simp [h0]
 have hlen:(a0l (-a0P j)).2.length < 536870912:=by
  rw [y0z,Int.natAbs_neg];have:=a0U kk.ok;omega
 refine (e0e (hh.mono hx) hl hx.1 hn hlen).mono ?_
 rintro _ G2 ⟨⟨s',rfl,hs'⟩,hx2⟩
 replace b0:=hx2.blk b0
 replace b1:=hx2.blk b1
 replace b2:=hx2.blk b2
 replace hx:=hx.trans hx2
 have hz:=a0g b2
 simp [b2,hs'.cells,hs'.plain,hz]
 rw [a0j] at hs' ⊢
 exact fun _=>⟨s',by rw [b1M],by rw [b1M];exact hs'.setT b2 (by decide)⟩
theorem d0v (h:b0q H v i) (k:b0q H w j) (hf:fl≤H.size) (hn:i.2.length < 536870912) (hm:j.2.length < 536870912) :
  a0V env fl m0g [v,w] H (fun r H'=>r=.int .i64 (c0Q (a0P i) (a0P j))∧Ext H H') R:=by
 have hh:=h
 have kk:=k
 obtain ⟨s,rfl,hs⟩:=h
 obtain ⟨u,rfl,hu⟩:=k
 refine a0k W0J hf (h:=?_)
 intro ρ h0
 simp [H0E,B0m,h0]
 generalize hG:Array.push (Array.push H _) _=G
 have hx:Ext H G:=by rw [← hG];exact (Ext.refl H).push.push
 have b0:a0e.blk G H.size=.row false a0a [.bool i.1,s]:=by rw [← hG];simp
 have b1:a0e.blk G (H.size + 1)=.row false a0a [.bool j.1,u]:=by rw [← hG];simp
 clear hG
 simp [B0n,h0,b0,b1]
 have l1:=a0U hh.ok
 have l2:=a0U kk.ok
 refine (b0t (hh.mono hx) hx.1 (by omega)).mono ?_
 rintro _ G2 ⟨rfl,hx2⟩
 replace b0:=hx2.blk b0
 replace b1:=hx2.blk b1
 replace hx:=hx.trans hx2
 by_cases hI:a0P i < 0
 ·simp [hI,b1]
  refine (b0t (kk.mono hx) hx.1 (by omega)).mono ?_
  rintro _ G2 ⟨rfl,hx2⟩
  replace b0:=hx2.blk b0
  replace b1:=hx2.blk b1
  replace hx:=hx.trans hx2
  by_cases hJ:a0P j < 0
  ·simp [hJ,s0D,h0,b0,b1]
   refine (b0t (hh.mono hx) hx.1 (by omega)).mono ?_
   rintro _ G2 ⟨rfl,hx2⟩
   replace b0:=hx2.blk b0
   replace b1:=hx2.blk b1
   replace hx:=hx.trans hx2
   simp [hI,s0E,h0,b0,b1]
   refine (b0t (hh.mono hx) hx.1 (by omega)).mono ?_
   rintro _ G2 ⟨rfl,hx2⟩
   replace b0:=hx2.blk b0
   replace b1:=hx2.blk b1
   replace hx:=hx.trans hx2
   simp [hI,h0]
   refine a0A ?_
   simp [B0q,h0,b0,b1]
   refine (b0K (kk.mono hx) (by have:=hx.1;omega) (by omega)).mono ?_
   rintro x G2 ⟨hl,hx2⟩
   replace b0:=hx2.blk b0
   replace b1:=hx2.blk b1
   replace hx:=hx.trans hx2
   try simp [h0,b0]
   refine (b0K (hh.mono hx) hx.1 (by omega)).mono ?_
   rintro y G2 ⟨hl2,hx2⟩
   replace hl:=hl.mono hx2
   replace b0:=hx2.blk b0
   replace b1:=hx2.blk b1
   replace hx:=hx.trans hx2
   try simp [h0,b0]
   refine (e0S hl hl2 hx.1 (by omega)).mono ?_
   rintro _ G2 ⟨rfl,hx2⟩
   rw [f0w,e0c]
   have:(if (a0P j).natAbs < (a0P i).natAbs then (-1:Int) else if (a0P i).natAbs < (a0P j).natAbs then 1 else 0)=c0Q (a0P i) (a0P j):=by
    unfold c0Q;(repeat' split) <;> omega
   simp [this]
  ·simp [hJ,B0o,h0]
   have:c0Q (a0P i) (a0P j) = -1:=by unfold c0Q;rw [Z0I (by omega)]
   simp [this]
 ·simp [hI,s0D,h0,b0,b1]
  refine (b0t (hh.mono hx) hx.1 (by omega)).mono ?_
  rintro _ G2 ⟨rfl,hx2⟩
  replace b0:=hx2.blk b0
  replace b1:=hx2.blk b1
  replace hx:=hx.trans hx2
  simp [hI,h0,b1]
  refine (b0t (kk.mono hx) hx.1 (by omega)).mono ?_
  rintro _ G2 ⟨rfl,hx2⟩
  replace b0:=hx2.blk b0
  replace b1:=hx2.blk b1
  replace hx:=hx.trans hx2
  by_cases hJ:a0P j < 0
  ·simp [hJ,B0p,h0]
   have:c0Q (a0P i) (a0P j)=1:=by unfold c0Q;rw [Z0F (by omega),Z0I (by omega)]
   simp [this]
  ·simp [hJ,s0E,h0,b0]
   refine (b0t (hh.mono hx) hx.1 (by omega)).mono ?_
   rintro _ G2 ⟨rfl,hx2⟩
   replace b0:=hx2.blk b0
   replace b1:=hx2.blk b1
   replace hx:=hx.trans hx2
   simp [hI,h0]
   refine a0A ?_
   simp [B0r,h0,b0,b1]
   refine (b0K (hh.mono hx) (by have:=hx.1;omega) (by omega)).mono ?_
   rintro x G2 ⟨hl,hx2⟩
   replace b0:=hx2.blk b0
   replace b1:=hx2.blk b1
   replace hx:=hx.trans hx2
   try simp [h0,b1]
   refine (b0K (kk.mono hx) hx.1 (by omega)).mono ?_
   rintro y G2 ⟨hl2,hx2⟩
   replace hl:=hl.mono hx2
   replace b0:=hx2.blk b0
   replace b1:=hx2.blk b1
   replace hx:=hx.trans hx2
   try simp [h0,b0]
   refine (e0S hl hl2 hx.1 (by omega)).mono ?_
   rintro _ G2 ⟨rfl,hx2⟩
   rw [f0w,e0c]
   have:(if (a0P i).natAbs < (a0P j).natAbs then (-1:Int) else if (a0P j).natAbs < (a0P i).natAbs then 1 else 0)=c0Q (a0P i) (a0P j):=by
    unfold c0Q;(repeat' split) <;> omega
   simp [this]
theorem c0e {n:Int} (hf:fl≤H.size) (h1:-9223372036854775808≤n) (h2:n < 9223372036854775808) :
  a0V env fl i0H [.int .i64 n] H (fun r H'=>b0q H' r (a0l n)∧Ext H H') R:=by
 refine a0k W0s hf (h:=?_)
 intro ρ h0
 simp only [H0n]
 refine h0q (l0Z ?_)
 simp [-t0K,z0J,h0]
 generalize hG:Array.push H _=G
 have hx:Ext H G:=by rw [← hG];exact (Ext.refl H).push
 have b2:a0e.blk G H.size=.row false a0a [.bool false,.slice none 0 0]:=by rw [← hG];simp
 clear hG
 refine h0q (l0Z ?_)
 simp [-t0K,z0K,h0]
 refine h0q (R0h (fun t G'=>G' = G∧t.length=19∧get t 0=.int .i64 n∧get t 2=.pointer (some ⟨H.size,0,none⟩)∧get t 3=.int .u64 ((n.natAbs:Nat):Int)) ?_ ?_)
 ·have e1:0≤n→IntKind.u64.wrap n=((n.natAbs:Nat):Int):=fun _=>by rw [a0N];omega
  have e2:n < 0→IntKind.u64.wrap (-IntKind.u64.wrap n)=((n.natAbs:Nat):Int):=fun _=>by rw [a0N,a0N];omega
  simp [z0L,z0M,h0]
  exact ⟨e2,e1⟩
 clear h0 ρ
 rintro t G' ⟨rfl,ht,g0,g2,g3⟩
 obtain ⟨ρ,rfl⟩:=toT ht
 simp only [b0Q,Nat.reduceLT] at g0 g2 g3
 simp [z0N,g0,g2,g3]
 refine (a0o hx.1).mono ?_
 rintro _ G2 ⟨rfl,hx2⟩
 replace b2:=hx2.blk b2
 replace hx:=hx.trans hx2
 try simp [g0,g2,g3]
 rw [show ((n.natAbs:Nat):Int) / 4294967296=((n.natAbs / 4294967296:Nat):Int) by omega]
 refine (a0o hx.1).mono ?_
 rintro _ G2 ⟨rfl,hx2⟩
 replace b2:=hx2.blk b2
 replace hx:=hx.trans hx2
 simp
 have hl:Lim (Array.push G2 (.row false a0m [.int .u32 (((n.natAbs:Nat):Int) % 4294967296),.int .u32 (((n.natAbs:Nat):Int) / 4294967296 % 4294967296)]))
   (.slice (some ⟨Array.size G2,0,none⟩) 2 2) [n.natAbs % 4294967296,n.natAbs / 4294967296 % 4294967296]:=by
  refine ⟨(Own.mk (fl:=0) (n:=2) (sz:=1) (cs:=d0f [n.natAbs % 4294967296,n.natAbs / 4294967296 % 4294967296]) ?_ rfl (a1x _)).sl,?_⟩
  ·rw [a0v];simp [d0f]
  ·intro x hx;simp at hx;omega
 have hx2:Ext G2 (Array.push G2 (.row false a0m [.int .u32 (((n.natAbs:Nat):Int) % 4294967296),.int .u32 (((n.natAbs:Nat):Int) / 4294967296 % 4294967296)])):=(Ext.refl G2).push
 replace b2:=hx2.blk b2
 replace hx:=hx.trans hx2
 refine (b0Z n hl hx.1 (by simp) (by simp [a0B];split <;> omega)).mono ?_
 rintro _ G2 ⟨⟨s',rfl,hs'⟩,hx2⟩
 replace b2:=hx2.blk b2
 replace hx:=hx.trans hx2
 have hz:=a0g b2
 simp [b2,hs'.cells,hs'.plain,hz]
 exact fun _=>⟨s',rfl,hs'.setT b2 (by decide)⟩
theorem o0A:∀ (l:List Nat) (j z:Nat),j < l.length→a0B (l.set j z) + 4294967296 ^ j * l.getD j 0=a0B l + 4294967296 ^ j * z
 | [],j,z,h=>by simp at h
 | x :: l,0,z,_=>by simp [a0B];omega
 | x :: l,j + 1,z,h=>by
  have ih:=o0A l j z (by simpa using h)
  rw [List.set_cons_succ,List.getD_cons_succ,a0B,a0B,a1r]
  have e1:4294967296 ^ j * 4294967296 * l.getD j 0=4294967296 * (4294967296 ^ j * l.getD j 0):=by rw [a1b (4294967296 ^ j),a1e]
  have e2:4294967296 ^ j * 4294967296 * z=4294967296 * (4294967296 ^ j * z):=by rw [a1b (4294967296 ^ j),a1e]
  rw [e1,e2];omega
theorem d0H (l:List Nat) (j z:Nat):d0f (l.set j z)=(d0f l).set j (.int .u32 (z:Nat)):=by simp [d0f,List.map_set]
theorem e0a {l:List Nat} {j z:Nat} (h:b0x l) (hz:z < 4294967296):b0x (l.set j z):=by
 intro x hx
 rcases List.mem_or_eq_of_mem_set hx with hx | rfl
 ·exact h x hx
 ·exact hz
theorem j0Z {G:a0e} {e n p cap:Nat} {l:List Nat} (hb:G.blk p=.row false e (d0f l)) {k:IntKind} {z:Nat} (hz:z < l.length) (hn:l.length=n) :
  iaV 1 (.slice (some ⟨p,0,none⟩) n cap) (.int k (z:Int))=some (.pointer (some ⟨p,z,none⟩))∧rd (G.blk p) z=some (.int .u32 ((l.getD z 0:Nat):Int)):=by
 refine ⟨?_,?_⟩
 ·simp only [iaV];rw [Z0I (by omega)];simp
 ·rw [hb];simp [d0f,Z0C,hz]
theorem e0N {l:List Nat} {a b z:Nat} (h:a ≠ b):(l.set a z).getD b 0=l.getD b 0:=by
 rw [Z0C,Z0C,List.getElem?_set_ne h]
theorem b0w (h:b0q H v i) (k:b0q H w j) (hf:fl≤H.size) (hn:i.2.length < 268435456) (hm:j.2.length < 268435456) :
  a0V env fl q0q [v,w] H (fun r H'=>b0q H' r (a0l (a0P i * a0P j))∧Ext H H') R:=by
 have hh:=h
 have kk:=k
 obtain ⟨s,rfl,hs⟩:=h
 obtain ⟨u,rfl,hu⟩:=k
 refine a0k Z0r hf (h:=?_)
 intro ρ h0
 simp [V0m,M0Z,h0]
 generalize hG:Array.push (Array.push (Array.push H _) _) _=G
 have hx:Ext H G:=by rw [← hG];exact (Ext.refl H).push.push.push
 have b0:a0e.blk G H.size=.row false a0a [.bool i.1,s]:=by rw [← hG];simp
 have b1:a0e.blk G (H.size + 1)=.row false a0a [.bool j.1,u]:=by rw [← hG];simp
 have b2:a0e.blk G (H.size + 2)=.row false a0a [.bool false,.slice none 0 0]:=by rw [← hG];simp
 clear hG
 have l1:=a0U hh.ok
 have l2:=a0U kk.ok
 refine a0A ?_
 simp [N0a,h0,b0,b1]
 refine (b0K (hh.mono hx) (by have:=hx.1;omega) (by omega)).mono ?_
 rintro x G2 ⟨hl,hx2⟩
 replace b0:=hx2.blk b0
 replace b1:=hx2.blk b1
 replace b2:=hx2.blk b2
 replace hx:=hx.trans hx2
 try simp [h0,b1]
 refine (b0K (kk.mono hx) hx.1 (by omega)).mono ?_
 rintro y G2 ⟨hl2,hx2⟩
 replace hl:=hl.mono hx2
 replace b0:=hx2.blk b0
 replace b1:=hx2.blk b1
 replace b2:=hx2.blk b2
 replace hx:=hx.trans hx2
 generalize hA:a0K (a0P i).natAbs=A at hl l1
 generalize hB:a0K (a0P j).natAbs=B at hl2 l2
 have w1:IntKind.i64.wrap ((A.length:Int) + (B.length:Int))=((A.length + B.length:Nat):Int):=by rw [a0F (by omega) (by omega)];omega
 have hmk:=f0C (bytes:=4) (k:=.i64) (k':=.i64) (l:=A.length + B.length) (c:=A.length + B.length) (Z0E _) (by omega) (by omega)
 simp [-Int.natCast_add,N0b,N0c,h0,hl.slen,hl2.slen,w1,hmk]
 have hP:H.size≤G2.size:=hx.1
 generalize hPd:G2.size=P at hP
 generalize hSL:Value.slice (some ⟨P,0,none⟩) (A.length + B.length) (A.length + B.length)=SL
 refine b0U (fun k t G'=>∃ a o,a + k=A.length∧t.length=78∧get t 2=.pointer (some ⟨H.size,0,none⟩)∧get t 3=.pointer (some ⟨H.size + 1,0,none⟩)∧get t 4=.pointer (some ⟨H.size + 2,0,none⟩) ∧
   get t 6=y∧get t 7=SL∧get t 23=x∧get t 24=.int .i64 A.length∧get t 25=.int .i64 ((a:Nat):Int) ∧
   Ext G2 G'∧a0e.blk G' P=.row false a0m (d0f o)∧o.length=A.length + B.length∧b0x o∧a0B o=a0B (A.take a) * a0B B∧∀ q,a + B.length≤q→o.getD q 0=0)
  (fun t G'=>∃ o,t.length=78∧get t 2=.pointer (some ⟨H.size,0,none⟩)∧get t 3=.pointer (some ⟨H.size + 1,0,none⟩)∧get t 4=.pointer (some ⟨H.size + 2,0,none⟩)∧get t 7=SL ∧
   Ext G2 G'∧a0e.blk G' P=.row false a0m (d0f o)∧o.length=A.length + B.length∧b0x o∧a0B o=a0B A * a0B B) A.length ?_ ?_ ?_
 ·refine ⟨0,List.replicate (A.length + B.length) 0,by omega,by simp,by simp,by simp,by simp,by simp,by simp,by simp,by simp,by simp,Ext.push (Ext.refl _),?_,by simp,?_,?_,?_⟩
  ·rw [← hPd,a0v]
   congr 1
   generalize A.length + B.length=n
   induction n with
   | zero=>rfl
   | succ n ih=>rw [e0q,ih];rfl
  ·intro z hz;rw [b1N] at hz;omega
  ·simp only [c1d,a0B,Nat.zero_mul]
   generalize A.length + B.length=n
   induction n with
   | zero=>rfl
   | succ n ih=>rw [List.replicate_succ,a0B,ih]
  ·intro q _;rw [Z0C,b1H];split <;> rfl
 ·clear h0 ρ w1 hmk
  rintro k t G' ⟨a,o,hak,ht,g2,g3,g4,g6,g7,g23,g24,g25,hx2,hb,hol,hok,hs,hz⟩
  obtain ⟨ρ,rfl⟩:=toT ht
  simp only [b0Q,Nat.reduceLT] at g2 g3 g4 g6 g7 g23 g24 g25
  by_cases ha:a < A.length
  ·have hla:=hl.load ha hx2
   have hia:=hl.ia (k:=.i64) ha
   have hA2:=b0i ha
   have hA3:A.getD a 0 < 4294967296:=hl.2 _ (by rw [Z0C,Z0H ha];exact Z0M ha)
   generalize A.getD a 0=U at hla hA2 hA3
   simp [F0f,N0d,N0e,N0f,g2,g3,g4,g6,g7,g23,g24,g25,ha,hla,hia,hl2.slen]
   refine b0U (fun k2 t G'=>∃ q c o,q + k2=B.length∧t.length=78∧get t 2=.pointer (some ⟨H.size,0,none⟩)∧get t 3=.pointer (some ⟨H.size + 1,0,none⟩)∧get t 4=.pointer (some ⟨H.size + 2,0,none⟩) ∧
     get t 6=y∧get t 7=SL∧get t 23=x∧get t 24=.int .i64 A.length∧get t 25=.int .i64 ((a:Nat):Int)∧get t 8=.int .i64 ((a:Nat):Int)∧get t 9=.int .u32 ((U:Nat):Int) ∧
     get t 10=.int .u64 ((c:Nat):Int)∧get t 30=y∧get t 31=.int .i64 B.length∧get t 32=.int .i64 ((q:Nat):Int) ∧
     Ext G2 G'∧a0e.blk G' P=.row false a0m (d0f o)∧o.length=A.length + B.length∧b0x o∧c < 4294967296 ∧
     a0B o + 4294967296 ^ (a + q) * c=a0B (A.take a) * a0B B + 4294967296 ^ a * (U * a0B (B.take q))∧∀ q,a + B.length≤q→o.getD q 0=0)
    (fun t G'=>∃ c o,t.length=78∧get t 2=.pointer (some ⟨H.size,0,none⟩)∧get t 3=.pointer (some ⟨H.size + 1,0,none⟩)∧get t 4=.pointer (some ⟨H.size + 2,0,none⟩) ∧
     get t 6=y∧get t 7=SL∧get t 23=x∧get t 24=.int .i64 A.length∧get t 25=.int .i64 ((a:Nat):Int)∧get t 8=.int .i64 ((a:Nat):Int) ∧
     get t 10=.int .u64 ((c:Nat):Int) ∧
     Ext G2 G'∧a0e.blk G' P=.row false a0m (d0f o)∧o.length=A.length + B.length∧b0x o∧c < 4294967296 ∧
     a0B o + 4294967296 ^ (a + B.length) * c=a0B (A.take (a + 1)) * a0B B∧∀ q,a + B.length≤q→o.getD q 0=0) B.length ?_ ?_ ?_
   ·exact ⟨0,0,o,by omega,by simp,by simp [g2],by simp [g3],by simp [g4],by simp [g6],by simp [g7],by simp [g23],by simp [g24],by simp [g25],by simp,by simp,by simp,by simp,by simp,by simp,
     hx2,hb,hol,hok,by omega,by simp [hs,a0B],hz⟩
   ·clear hs hz hok hol hb hx2 hla o g2 g3 g4 g6 g7 g23 g24 g25 ht ρ G'
    rintro k2 t G' ⟨q,c,o,hqk,ht,g2,g3,g4,g6,g7,g23,g24,g25,g8,g9,g10,g30,g31,g32,hx2,hb,hol,hok,hc,hs,hz⟩
    obtain ⟨ρ,rfl⟩:=toT ht
    simp only [b0Q,Nat.reduceLT] at g2 g3 g4 g6 g7 g23 g24 g25 g8 g9 g10 g30 g31 g32
    by_cases hq:q < B.length
    ·have hlb:=hl2.load hq hx2
     have hib:=hl2.ia (k:=.i64) hq
     have hB2:=b0i hq
     have hB3:B.getD q 0 < 4294967296:=hl2.2 _ (by rw [Z0C,Z0H hq];exact Z0M hq)
     generalize B.getD q 0=V at hlb hB2 hB3
     have hlo:a + q < o.length:=by omega
     obtain ⟨hio,hro⟩:=j0Z (k:=.i64) (cap:=A.length + B.length) hb hlo hol
     rw [hSL] at hio
     have hset:=o0A o (a + q) ((c + (U * V + o.getD (a + q) 0)) % 4294967296) hlo
     have hW3:o.getD (a + q) 0 < 4294967296:=hok _ (by rw [Z0C,Z0H hlo];exact Z0M hlo)
     generalize o.getD (a + q) 0=Wd at hro hset hW3
     have hUV:U * V≤4294967295 * 4294967295:=a1D (by omega) (by omega)
     have e1:IntKind.u64.wrap (U:Int)=(U:Int):=by rw [a0N];omega
     have e2:IntKind.u64.wrap (V:Int)=(V:Int):=by rw [a0N];omega
     have e3:IntKind.u64.wrap (Wd:Int)=(Wd:Int):=by rw [a0N];omega
     have e4:IntKind.u64.wrap ((U:Int) * (V:Int))=((U * V:Nat):Int):=by rw [a0N,← b1b];omega
     have e5:IntKind.u64.wrap (((U * V:Nat):Int) + (Wd:Int))=((U * V + Wd:Nat):Int):=by rw [a0N];omega
     have e6:IntKind.u64.wrap ((c:Int) + ((U * V + Wd:Nat):Int))=((c + (U * V + Wd):Nat):Int):=by rw [a0N];omega
     have e7:IntKind.i64.wrap ((a:Int) + (q:Int))=((a + q:Nat):Int):=by rw [a0F (by omega) (by omega)];omega
     have e8:IntKind.i64.wrap ((q:Int) + 1)=((q + 1:Nat):Int):=by rw [a0F (by omega) (by omega)];omega
     simp [-Int.natCast_add,-Int.natCast_mul,F0g,N0g,E0Y,E0Z,F0a,F0b,g2,g3,g4,g6,g7,g23,g24,g25,g8,g9,g10,g30,g31,g32,hq,hlb,hib,e1,e2,e3,e4,e5,e6,e7,e8,hio,hro]
     refine (a0o (by have:=hx2.1;omega)).mono ?_
     rintro _ G3 ⟨rfl,hx3⟩
     replace hb:=hx3.blk hb
     have hxx:=hx2.trans hx3
     have hPl:=a0g hb
     have hle:a + q + 1≤o.length:=hlo
     generalize hc1:c + (U * V + Wd)=c1 at *
     simp [-Int.natCast_emod,-Int.natCast_ediv,-Int.natCast_add,hb,hP,hle]
     refine ⟨k2 - 1,by omega,q + 1,by omega,c1 / 4294967296,by omega,rfl,hxx.set (by omega),o.set (a + q) (c1 % 4294967296),by rw [a0H hPl,d0H],by simp [hol],e0a hok (by omega),by omega,?_,?_⟩
     ·have f1:4294967296 ^ (a + (q + 1)) * (c1 / 4294967296)=4294967296 ^ (a + q) * (4294967296 * (c1 / 4294967296)):=by
       rw [show a + (q + 1)=a + q + 1 by omega,a1r,a1e]
      have f2:4294967296 ^ (a + q) * (c1 % 4294967296) + 4294967296 ^ (a + q) * (4294967296 * (c1 / 4294967296))=4294967296 ^ (a + q) * c1:=by rw [← Z0X,Nat.mod_add_div]
      have f3:4294967296 ^ (a + q) * c1=4294967296 ^ (a + q) * c + (4294967296 ^ (a + q) * (U * V) + 4294967296 ^ (a + q) * Wd):=by rw [← hc1,Z0X,Z0X]
      have f4:4294967296 ^ a * (U * (a0B (List.take q B) + 4294967296 ^ q * V))=4294967296 ^ a * (U * a0B (List.take q B)) + 4294967296 ^ (a + q) * (U * V):=by
       rw [Z0X,Z0X,b1T]
       congr 1
       rw [a1e,Nat.mul_left_comm U]
      rw [hB2,f4,f1]
      omega
     ·intro r hr
      have:=hz r hr
      rw [← Z0C,e0N (by omega)];exact this
    ·simp [F0g,g2,g3,g4,g6,g7,g23,g24,g25,g8,g9,g10,g30,g31,g32,hq]
     have:q=B.length:=by omega
     subst this
     refine ⟨c,rfl,hx2,o,hb,hol,hok,hc,?_,by simpa using hz⟩
     rw [hs,Z0R (Z0E _),hA2,Z0U,a1e]
   ·clear hs hz hok hol hb hx2 hla o g2 g3 g4 g6 g7 g23 g24 g25 ht ρ G'
    rintro t G' ⟨c,o,ht,g2,g3,g4,g6,g7,g23,g24,g25,g8,g10,hx2,hb,hol,hok,hc,hs,hz⟩
    obtain ⟨ρ,rfl⟩:=toT ht
    simp only [b0Q,Nat.reduceLT] at g2 g3 g4 g6 g7 g23 g24 g25 g8 g10
    have hlo:a + B.length < o.length:=by omega
    obtain ⟨hio,hro⟩:=j0Z (k:=.i64) (cap:=A.length + B.length) hb hlo hol
    rw [hSL] at hio
    have hset:=o0A o (a + B.length) (c % 4294967296) hlo
    rw [hz _ (Z0E _)] at hset
    have e7:IntKind.i64.wrap ((a:Int) + (B.length:Int))=((a + B.length:Nat):Int):=by rw [a0F (by omega) (by omega)];omega
    have e8:IntKind.i64.wrap ((a:Int) + 1)=((a + 1:Nat):Int):=by rw [a0F (by omega) (by omega)];omega
    simp [-Int.natCast_add,F0c,g2,g3,g4,g6,g7,g23,g24,g25,g8,g10,hl2.slen,e7,hio]
    refine (a0o (by have:=hx2.1;omega)).mono ?_
    rintro _ G3 ⟨rfl,hx3⟩
    replace hb:=hx3.blk hb
    have hxx:=hx2.trans hx3
    have hPl:=a0g hb
    have hle:a + B.length + 1≤o.length:=hlo
    simp [-Int.natCast_emod,-Int.natCast_ediv,-Int.natCast_add,F0d,g2,g3,g4,g6,g7,g23,g24,g25,hb,hP,hle,e8]
    refine ⟨k - 1,by omega,a + 1,by omega,rfl,hxx.set (by omega),o.set (a + B.length) (c % 4294967296),by rw [a0H hPl,d0H],by simp [hol],e0a hok (by omega),?_,?_⟩
    ·rw [a1k hc] at hset ⊢
     omega
    ·intro r hr
     have:=hz r (by omega)
     rw [← Z0C,e0N (by omega)];exact this
  ·simp [F0f,g2,g3,g4,g6,g7,g23,g24,g25,ha]
   have:a=A.length:=by omega
   subst this
   exact ⟨hx2,o,hb,hol,hok,by rw [hs,Z0R (Z0E _)]⟩
 ·clear h0 ρ w1 hmk
  rintro t G' ⟨o,ht,g2,g3,g4,g7,hx2,hb,hol,hok,hs⟩
  obtain ⟨ρ,rfl⟩:=toT ht
  simp only [b0Q,Nat.reduceLT] at g2 g3 g4 g7
  replace b0:=hx2.blk b0
  replace b1:=hx2.blk b1
  replace b2:=hx2.blk b2
  replace hx:=hx.trans hx2
  have hy:Lim G' SL o:=by
   rw [← hSL,← hol]
   exact ⟨(Own.mk (fl:=0) hb (by simp) (a1x _)).sl,hok⟩
  refine a0A ?_
  simp [F0e,g2,g3,g4,g7,b0,b1]
  refine (b0t (hh.mono hx) (by have:=hx.1;omega) (by omega)).mono ?_
  rintro _ G2 ⟨rfl,hx2⟩
  replace b0:=hx2.blk b0
  replace b1:=hx2.blk b1
  replace b2:=hx2.blk b2
  replace hx:=hx.trans hx2
  replace hy:=hy.mono hx2
  try simp [g2,g3,g4,g7,b1]
  refine (b0t (kk.mono hx) hx.1 (by omega)).mono ?_
  rintro _ G2 ⟨rfl,hx2⟩
  replace b0:=hx2.blk b0
  replace b1:=hx2.blk b1
  replace b2:=hx2.blk b2
  replace hx:=hx.trans hx2
  replace hy:=hy.mono hx2
  try simp [g2,g3,g4,g7,b1]
  have hAn:a0B A=(a0P i).natAbs:=by rw [← hA,a0J]
  have hBn:a0B B=(a0P j).natAbs:=by rw [← hB,a0J]
  rw [hAn,hBn,← b1m] at hs
  have hsgn:(if (decide (a0P i < 0) != decide (a0P j < 0))=true then -((a0P i * a0P j).natAbs:Int) else ((a0P i * a0P j).natAbs:Int))=a0P i * a0P j:=by
   by_cases hi:a0P i < 0 <;> by_cases hj:a0P j < 0
   ·have:=Int.mul_pos_of_neg_of_neg hi hj
    simp [hi,hj];omega
   ·have:=a1K (Int.le_of_lt hi) (show 0≤a0P j by omega)
    simp [hi,hj];omega
   ·have:=Int.mul_nonpos_of_nonneg_of_nonpos (show 0≤a0P i by omega) (Int.le_of_lt hj)
    simp [hi,hj];omega
   ·have:=c1u (show 0≤a0P i by omega) (show 0≤a0P j by omega)
    simp [hi,hj];omega
  refine (b0Z (a0P i * a0P j) hy hx.1 (by omega) (by rw [hs];exact hsgn)).mono ?_
  rintro _ G2 ⟨⟨s',rfl,hs'⟩,hx2⟩
  replace b0:=hx2.blk b0
  replace b1:=hx2.blk b1
  replace b2:=hx2.blk b2
  replace hx:=hx.trans hx2
  have hz:=a0g b2
  simp [b2,hs'.cells,hs'.plain,hz,g4]
  exact fun _=>⟨s',rfl,hs'.setT b2 (by decide)⟩
end
section
open Go
section
variable {tag:Nat}
theorem p0L (n:Nat):IntKind.u64.wrap (n:Int)=((n % 18446744073709551616:Nat):Int):=by rw [a0N];omega
theorem Q0a (n:Nat):IntKind.u32.wrap (n:Int)=((n % 4294967296:Nat):Int):=by rw [p0M];omega
theorem F0s {n s:Nat} {k':IntKind} (hs:s≤64):d0I tag .shl (.int .u64 (n:Int)) (.int k' (s:Int))=some (.int .u64 ((n * 2 ^ s % 18446744073709551616:Nat):Int)):=by
 rw [t0Q (by omega)]
 have:min (s:Int).toNat IntKind.u64.bits=s:=by show min (s:Int).toNat 64=s;omega
 rw [this]
 have e:(n:Int) * 2 ^ s=((n * 2 ^ s:Nat):Int):=by simp
 rw [e,p0L]
theorem P0E {n s:Nat} {k':IntKind} (hs:s≤32):d0I tag .shl (.int .u32 (n:Int)) (.int k' (s:Int))=some (.int .u32 ((n * 2 ^ s % 4294967296:Nat):Int)):=by
 rw [t0Q (by omega)]
 have:min (s:Int).toNat IntKind.u32.bits=s:=by show min (s:Int).toNat 32=s;omega
 rw [this]
 have e:(n:Int) * 2 ^ s=((n * 2 ^ s:Nat):Int):=by simp
 rw [e,Q0a]
theorem P0F {n s:Nat} {k':IntKind} (hs:s≤64):d0I tag .shr (.int .u64 (n:Int)) (.int k' (s:Int))=some (.int .u64 ((n / 2 ^ s:Nat):Int)):=by
 rw [j0T (by omega)]
 have:min (s:Int).toNat IntKind.u64.bits=s:=by show min (s:Int).toNat 64=s;omega
 rw [this]
 have e:(2:Int) ^ s=((2 ^ s:Nat):Int):=by simp
 rw [e,G0v]
theorem P0G {n s:Nat} {k':IntKind} (hs:s≤32):d0I tag .shr (.int .u32 (n:Int)) (.int k' (s:Int))=some (.int .u32 ((n / 2 ^ s:Nat):Int)):=by
 rw [j0T (by omega)]
 have:min (s:Int).toNat IntKind.u32.bits=s:=by show min (s:Int).toNat 32=s;omega
 rw [this]
 have e:(2:Int) ^ s=((2 ^ s:Nat):Int):=by simp
 rw [e,G0v]
theorem S0w {a b:Nat} (ha:a < 18446744073709551616) (hb:b < 18446744073709551616):d0I tag .or (.int .u64 (a:Int)) (.int .u64 (b:Int))=some (.int .u64 ((a ||| b:Nat):Int)):=by
 rw [N0N]
 have e1:(BitVec.ofInt IntKind.u64.bits (a:Int) ||| BitVec.ofInt IntKind.u64.bits (b:Int)).toNat=a ||| b:=by
  show (BitVec.ofInt 64 (a:Int) ||| BitVec.ofInt 64 (b:Int)).toNat=a ||| b
  rw [BitVec.toNat_or]
  simp only [BitVec.ofInt_natCast,BitVec.toNat_ofNat]
  rw [a1k (by omega),a1k (by omega)]
 rw [e1,p0L]
 have:a ||| b < 2 ^ 64:=Nat.or_lt_two_pow (by omega) (by omega)
 rw [a1k (by omega)]
theorem R0m {a:Nat}:d0I tag .and (.int .u64 (a:Int)) (.int .u64 4294967295)=some (.int .u64 ((a % 4294967296:Nat):Int)):=by
 rw [G0i]
 have e1:(BitVec.ofInt IntKind.u64.bits (a:Int) &&& BitVec.ofInt IntKind.u64.bits (4294967295:Int)).toNat=a % 4294967296:=by
  show (BitVec.ofInt 64 (a:Int) &&& BitVec.ofInt 64 (4294967295:Int)).toNat=a % 4294967296
  rw [BitVec.toNat_and]
  have:(BitVec.ofInt 64 (4294967295:Int)).toNat=2 ^ 32 - 1:=rfl
  rw [this,Nat.and_two_pow_sub_one_eq_mod]
  simp only [BitVec.ofInt_natCast,BitVec.toNat_ofNat]
  omega
 rw [e1,p0L,a1k (by omega)]
theorem u0o {x y:Nat} (h:y < 4294967296):x * 4294967296 ||| y=x * 4294967296 + y:=by
 have:=Nat.two_pow_add_eq_or_of_lt (i:=32) (b:=y) (by omega) x
 rw [a1b] at this
 exact this.symm
theorem S0F {a b:Nat} (ha:a < 18446744073709551616) (hb:b ≠ 0):d0I tag .quo (.int .u64 (a:Int)) (.int .u64 (b:Int))=some (.int .u64 ((a / b:Nat):Int)):=by
 rw [t0P (by omega),a1S (by omega)]
 have:(a:Int) / (b:Int)=((a / b:Nat):Int):=rfl
 rw [this,p0L,a1k (Nat.lt_of_le_of_lt (b1e a b) ha)]
theorem T0m {a b:Nat} (hb:b ≠ 0):d0I tag .rem (.int .u64 (a:Int)) (.int .u64 (b:Int))=some (.int .u64 ((a % b:Nat):Int)):=by
 rw [G0k (by omega),Int.tmod_eq_emod_of_nonneg (by omega)]
 rfl
end
end
end Go.Proofs.YtilekhkgobmolaaGreat.AI
