/- Part 5 of the proof: AiCode3, AiCodeG, AiEnv, AiHeap, AiSet, AiOwn, AiNum1, AiNum2, AiMath1, AiNum3, AiNum4, AiNum5, AiMath2, AiNum6. -/
import Derived.Test.YtjlohmnnldbjoaaGreatM02
import Derived.Test.YtjlohmnnldbjoaaGreatM03
set_option linter.unusedVariables false
set_option linter.unusedSimpArgs false
set_option linter.unusedSectionVars false
namespace Go.Proofs.YtjlohmnnldbjoaaGreat.AI
section
open Go
def F0M:SS:=[o 2 (.box a0b (t 0)),o 3 (.box a0b (t 1)),o 4 (.alloc a0b [.bool false,.slice none 0 0,.bool false,.slice none 0 0]),o 5 (.mv (i 0))]
def F0N:SS:=[lA 6 4 2,o 7 (.call A0f [t 6] false),lA 8 4 3,o 9 (.call A0f [t 8] true),⟨none,none,.store 4 (t 2) (t 7)⟩,⟨none,none,.store 4 (t 3) (t 9)⟩]
def F0O:SS:=[fA 10 0 2,lA 11 2 10,fA 12 2 3,lA 13 2 12,o 14 (.call r0G [t 11,t 13] false),fA 15 2 2,lA 16 2 15,fA 17 0 3,lA 18 2 17,o 19 (.call r0G [t 16,t 18] true),o 20 (.call p0z [t 14,t 19] true),o 21 (.ext (t 20) 0),o 22 (.ext (t 20) 1),⟨none,none,.store 4 (t 4) (t 21)⟩,mV 5 22]
def L0Y:SF:=⟨2,23,[.cell 4 true 4,.tmp 5],
 (qS (gR F0M) (qS (.draw F0N [0,1,0,7,15,31] []) (qS (.draw F0O [0,1,0,4,15,0,32,0,128,511,1023,2047,2047,8191,16383] []) .ret)))⟩
def F0P:SS:=[o 3 (.box a0a (t 1)),o 4 (.alloc a0b [.bool false,.slice none 0 0,.bool false,.slice none 0 0])]
def F0Q:SS:=[mV 8 0,cK 9 8,o 10 (.fa0 a0c (t 9)),lA 11 0 10,o 12 (.iface a0m (t 11)),lA 13 2 3,o 14 (.inv (t 12) [(a0m,r0E),(a0n,r0F)] [t 13] false),mV 15 0,cK 16 15,o 17 (.fa0 a0c (t 16)),lA 18 0 17,o 19 (.iface a0m (t 18)),mV 20 0,cK 21 20,fA 22 4 21,lA 23 2 22,o 24 (.inv (t 19) [(a0m,r0E),(a0n,r0F)] [t 23] false),o 25 (.call p0z [t 14,t 24] false),mV 7 25,o 26 (.ext (t 7) 0),o 27 (.ext (t 7) 1),o 5 (.alloc a0b [.bool false,.slice none 0 0,.bool false,.slice none 0 0]),⟨none,none,.store 4 (t 5) (t 26)⟩,mV 6 27]
def F0R:SS:=[lA 28 4 5,⟨none,none,.store 4 (t 4) (t 28)⟩]
def L0Z:SF:=⟨2,29,[.cell 4 true 4],
 (qS (gR F0P) (qS (.draw F0Q [0,1,3,7,15,0,63,0,128,384,896,1920,0,4096,12288,28672,65535,131071,262143,524287,524287,0,3145727,8388607] []) (qS (gR F0R) .ret)))⟩
def G0e:SS:=[o 2 (.box a0b (t 0)),o 3 (.box a0b (t 1)),o 4 (.alloc a0b [.bool false,.slice none 0 0,.bool false,.slice none 0 0])]
def G0f:SS:=[lA 5 4 2,lA 6 4 3,o 7 (.call A0f [t 6] false),o 8 (.call z0Y [t 7] false),o 9 (.call z0a [t 5,t 8] true),⟨none,none,.store 4 (t 4) (t 9)⟩]
def M0a:SF:=⟨2,10,[.cell 4 true 4],
 (qS (gR G0e) (qS (.draw G0f [0,0,2,6,15,31] []) .ret))⟩
def G0g:SS:=[o 4 (.mv (.const (.slice none 0 0))),o 5 (.mv (.const (.int .u32 0)))]
def G0h:SS:=[mV 9 0,lN 10 9,o 11 (.mk a0j 4 [.int .u32 0] (t 10) (t 10)),mV 6 11]
def G0i:SS:=[o 7 (.mv (.const (.int .u64 0)))]
def G0j:SS:=[mV 12 0,lN 13 12,o 14 (.bin 0 .sub (t 13) (i 1)),mV 8 14]
def u0o:SS:=[mV 15 8,o 16 (.bin 0 .geq (t 15) (i 0))]
def G0k:SS:=[mV 19 7,o 20 (.bin 0 .shl (t 19) (.const (.int .u64 32))),mV 21 0,mV 22 8,iA 23 1 21 22,lD 24 23,o 25 (.conv .u64 (t 24)),o 26 (.bin 0 .or (t 20) (t 25)),mV 7 26]
def G0l:SS:=[mV 27 6,mV 28 8,mV 29 7,mV 30 1,o 31 (.conv .u64 (t 30)),o 32 (.bin 0 .quo (t 29) (t 31)),o 33 (.call f0F [t 32] true),iA 34 1 27 28,⟨none,none,.store 1 (t 34) (t 33)⟩]
def G0m:SS:=[mV 35 7,mV 36 1,o 37 (.conv .u64 (t 36)),o 38 (.bin 0 .rem (t 35) (t 37)),mV 7 38]
def G0n:SS:=[mV 17 8,o 18 (.bin 0 .sub (t 17) (i 1)),mV 8 18]
def G0o:SS:=[mV 39 6,mV 40 7,o 41 (.call f0F [t 40] true),mV 4 39,mV 5 41]
def M0b:SF:=⟨2,42,[.tmp 4,.tmp 5],
 (qS (gR G0g) (qS (gR G0h) (qS (gR G0i) (qS (qS (gR G0j) (.block 0 (.loop (qS (qS (gR u0o) (.cond (t 16) .skip (.exit 0))) (qS (.block 1 (qS (gR G0k) (qS (gR G0l) (gR G0m)))) (gR G0n)))))) (qS (gR G0o) .ret)))))⟩
def G0p:SS:=[o 4 (.mv (.const (.slice none 0 0))),o 5 (.mv (.const (.slice none 0 0)))]
def G0q:SS:=[o 6 (.mv (i 0))]
def u0p:SS:=[mV 16 1,mV 17 1,lN 18 17,o 19 (.bin 0 .sub (t 18) (i 1)),iA 20 1 16 19,lD 21 20,mV 22 6,o 23 (.bin 0 .shl (t 21) (t 22)),o 24 (.bin 0 .shr (t 23) (.const (.int .u64 31))),o 25 (.bin 0 .eql (t 24) (.const (.int .u32 0)))]
def u0q:SS:=[mV 26 6,o 27 (.bin 0 .add (t 26) (i 1)),mV 6 27]
def G0r:SS:=[mV 28 0,mV 29 6,o 30 (.call y0c [t 28,t 29] true),mV 31 1,mV 32 6,o 33 (.call y0c [t 31,t 32] true),mV 34 1,lN 35 34,o 36 (.sl a0j 1 (t 33) none (some (t 35)) none),mV 7 30,mV 8 36]
def G0s:SS:=[mV 37 8,lN 38 37,mV 9 38]
def G0t:SS:=[mV 39 7,lN 40 39,mV 41 9,o 42 (.bin 0 .sub (t 40) (t 41)),o 43 (.mnx true (t 42) [i 0]),o 44 (.mk a0j 4 [.int .u32 0] (t 43) (t 43)),mV 4 44]
def G0u:SS:=[mV 45 8,mV 46 9,o 47 (.bin 0 .sub (t 46) (i 1)),iA 48 1 45 47,lD 49 48,o 50 (.conv .u64 (t 49)),mV 51 8,mV 52 9,o 53 (.bin 0 .sub (t 52) (i 2)),iA 54 1 51 53,lD 55 54,o 56 (.conv .u64 (t 55)),mV 10 50,mV 11 56]
def G0v:SS:=[mV 57 7,lN 58 57,mV 59 9,o 60 (.bin 0 .sub (t 58) (t 59)),o 61 (.bin 0 .sub (t 60) (i 1)),mV 12 61]
def u0r:SS:=[mV 62 12,o 63 (.bin 0 .geq (t 62) (i 0))]
def w0N:SS:=[mV 66 7,mV 67 12,mV 68 9,o 69 (.bin 0 .add (t 67) (t 68)),iA 70 1 66 69,lD 71 70,o 72 (.conv .u64 (t 71)),o 73 (.bin 0 .shl (t 72) (.const (.int .u64 32))),mV 74 7,mV 75 12,mV 76 9,o 77 (.bin 0 .add (t 75) (t 76)),o 78 (.bin 0 .sub (t 77) (i 1)),iA 79 1 74 78,lD 80 79,o 81 (.conv .u64 (t 80)),o 82 (.bin 0 .or (t 73) (t 81)),mV 13 82]
def w0O:SS:=[mV 83 13,mV 84 10,o 85 (.bin 0 .quo (t 83) (t 84)),mV 86 13,mV 87 10,o 88 (.bin 0 .rem (t 86) (t 87)),mV 14 85,mV 15 88]
def l0v:SS:=[mV 89 14,o 90 (.bin 0 .geq (t 89) (.const (.int .u64 4294967296))),mV 91 90,og 92 91 false (.mv (t 14)),og 93 91 false (.mv (t 11)),og 94 91 false (.bin 0 .mul (t 92) (t 93)),og 95 91 false (.mv (t 15)),og 96 91 false (.bin 0 .shl (t 95) (.const (.int .u64 32))),og 97 91 false (.mv (t 7)),og 98 91 false (.mv (t 12)),og 99 91 false (.mv (t 9)),og 100 91 false (.bin 0 .add (t 98) (t 99)),og 101 91 false (.bin 0 .sub (t 100) (i 2)),og 102 91 false (.ia 1 (t 97) (t 101)),og 103 91 false (.load false 1 (t 102)),og 104 91 false (.conv .u64 (t 103)),og 105 91 false (.bin 0 .or (t 96) (t 104)),og 106 91 false (.bin 0 .gtr (t 94) (t 105)),o 107 (.pick (t 91) (.const (.bool true)) (t 106))]
def j0x:SS:=[mV 108 14,o 109 (.bin 0 .sub (t 108) (.const (.int .u64 1))),mV 14 109]
def j0y:SS:=[mV 110 15,mV 111 10,o 112 (.bin 0 .add (t 110) (t 111)),mV 15 112]
def j0z:SS:=[mV 113 15,o 114 (.bin 0 .geq (t 113) (.const (.int .u64 4294967296)))]
def w0P:SS:=[mV 115 7,mV 116 12,mV 117 12,mV 118 9,o 119 (.bin 0 .add (t 117) (t 118)),o 120 (.bin 0 .add (t 119) (i 1)),o 121 (.sl a0j 1 (t 115) (some (t 116)) (some (t 120)) none),mV 122 8,mV 123 14,o 124 (.call z0Z [t 121,t 122,t 123] true)]
def w0Q:SS:=[mV 125 14,o 126 (.bin 0 .sub (t 125) (.const (.int .u64 1))),mV 14 126]
def w0R:SS:=[mV 127 7,mV 128 12,mV 129 12,mV 130 9,o 131 (.bin 0 .add (t 129) (t 130)),o 132 (.bin 0 .add (t 131) (i 1)),o 133 (.sl a0j 1 (t 127) (some (t 128)) (some (t 132)) none),mV 134 8,o 135 (.call A0a [t 133,t 134] true)]
def q0I:SS:=[mV 136 4,mV 137 12,mV 138 14,o 139 (.call f0F [t 138] true),iA 140 1 136 137,⟨none,none,.store 1 (t 140) (t 139)⟩]
def q0J:SS:=[mV 64 12,o 65 (.bin 0 .sub (t 64) (i 1)),mV 12 65]
def w0S:SS:=[mV 141 4,mV 142 7,mV 143 9,o 144 (.sl a0j 1 (t 142) none (some (t 143)) none),mV 145 6,o 146 (.call A0b [t 144,t 145] true),mV 4 141,mV 5 146]
def M0c:SF:=⟨2,147,[.tmp 4,.tmp 5],
 (qS (gR G0p) (qS (gR G0q) (qS (.block 0 (.loop (qS (qS (gR u0p) (.cond (t 25) .skip (.exit 0))) (.block 1 (gR u0q))))) (qS (.draw G0r [0,0,3,0,0,31,0,64,255,63,1023] []) (qS (gR G0s) (qS (gR G0t) (qS (.draw G0u [0,0,2,7,15,31,0,0,128,448,960,1984,63,8191] []) (qS (qS (gR G0v) (.block 2 (.loop (qS (qS (gR u0r) (.cond (t 63) .skip (.exit 2))) (qS (.block 3 (qS (.draw w0N [0,0,0,6,15,31,63,127,0,0,0,1536,3584,7936,16128,32512,65535,131071] []) (qS (.draw w0O [0,0,3,0,0,24,7,127] []) (qS (.block 4 (.loop (qS (qS (gR l0v) (.cond (t 107) .skip (.exit 4))) (.block 5 (qS (gR j0x) (qS (gR j0y) (qS (gR j0z) (.cond (t 114) (.exit 4) .skip)))))))) (qS (qS (gR w0P) (.cond (t 124) (qS (gR w0Q) (gR w0R)) .skip)) (gR q0I)))))) (gR q0J)))))) (qS (gR w0S) .ret)))))))))⟩
def G0w:SS:=[o 4 (.mv (.const (.slice none 0 0)))]
def G0x:SS:=[o 5 (.mv (.const (.slice none 0 0)))]
def G0y:SS:=[o 6 (.mv (.const (.int .u32 0)))]
def G0z:SS:=[mV 8 1]
def G0A:SS:=[o 6 (.mv (.const (.int .u32 1)))]
def u0s:SS:=[o 7 (.mv (i 0))]
def u0t:SS:=[mV 9 7,mV 10 0,lN 11 10,o 12 (.bin 0 .lss (t 9) (t 11))]
def u0u:SS:=[mV 15 5,mV 16 0,mV 17 7,iA 18 1 16 17,lD 19 18,o 20 (.bin 0 .shl (t 19) (.const (.int .u64 1))),mV 21 6,o 22 (.bin 0 .or (t 20) (t 21)),o 23 (.lit a0j [.int .u32 0] 1 [(0,1,t 22)]),o 24 (.app a0j 1 4 (t 15) (t 23)),mV 5 24]
def u0v:SS:=[mV 25 0,mV 26 7,iA 27 1 25 26,lD 28 27,o 29 (.bin 0 .shr (t 28) (.const (.int .u64 31))),mV 6 29]
def u0w:SS:=[mV 13 7,o 14 (.bin 0 .add (t 13) (i 1)),mV 7 14]
def q0K:SS:=[mV 30 5,mV 31 6,o 32 (.lit a0j [.int .u32 0] 1 [(0,1,t 31)]),o 33 (.app a0j 1 4 (t 30) (t 32)),mV 5 33]
def q0L:SS:=[mV 34 5,o 35 (.call l0S [t 34] true),mV 4 35]
def M0d:SF:=⟨2,36,[.tmp 4],
 (qS (gR G0w) (qS (gR G0x) (qS (gR G0y) (qS (qS (gR G0z) (.cond (t 8) (gR G0A) .skip)) (qS (qS (gR u0s) (.block 0 (.loop (qS (qS (gR u0t) (.cond (t 12) .skip (.exit 0))) (qS (.block 1 (qS (gR u0u) (gR u0v))) (gR u0w)))))) (qS (gR q0K) (qS (gR q0L) .ret)))))))⟩
def G0B:SS:=[o 2 (.mv (.const (.slice none 0 0)))]
def G0C:SS:=[lD 5 0,cK 6 5,fA 7 2 6,lD 8 7,o 9 (.bin 0 .add (t 8) (i 1)),o 10 (.mk d0w 8 [.int .i64 0] (t 9) (t 9)),mV 3 10]
def G0D:SS:=[mV 11 3,lN 12 11,o 13 (.mv (i 0))]
def U0P:SS:=[o 14 (.bin 0 .lss (t 13) (t 12))]
def G0E:SS:=[mV 15 13,mV 4 15]
def G0F:SS:=[mV 16 3,mV 17 4,lD 18 1,iA 19 1 16 17,⟨none,none,.store 1 (t 19) (t 18)⟩]
def U0Q:SS:=[o 20 (.bin 0 .add (t 13) (i 1)),mV 13 20]
def G0G:SS:=[mV 21 3,mV 2 21]
def M0e:SF:=⟨2,22,[.tmp 2],
 (qS (gR G0B) (qS (gR G0C) (qS (qS (gR G0D) (.block 0 (.loop (qS (gR U0P) (qS (.cond (t 14) .skip (.exit 0)) (qS (.block 1 (qS (gR G0E) (gR G0F))) (gR U0Q))))))) (qS (gR G0G) .ret))))⟩
def G0H:SS:=[o 6 (.mv (i 0))]
def G0I:SS:=[mV 8 0,cK 9 8,o 10 (.fa0 a0d (t 9)),lA 11 0 10,o 12 (.iface a0n (t 11)),o 13 (.call k0Z [i 1] false),o 14 (.inv (t 12) [(a0m,j0Z),(a0n,i0X)] [t 13] true),mV 7 14]
def G0J:SS:=[mV 15 0,cK 16 15,o 17 (.fa0 a0d (t 16)),lA 18 0 17,o 19 (.iface a0n (t 18)),mV 20 1,mV 21 7,mV 22 2,mV 23 7,mV 24 7,o 25 (.inv (t 19) [(a0m,p0A),(a0n,p0B)] [t 20,t 21,t 22,t 23,t 24] true),mV 6 25]
def M0f:SF:=⟨3,26,[.tmp 6],
 (qS (gR G0H) (qS (.draw G0I [0,1,3,7,15,0,63,127] []) (qS (gR G0J) .ret)))⟩
def G0K:SS:=[mV 12 0,cK 13 12,fA 14 6 13,lD 15 14,o 16 (.bin 0 .add (t 15) (i 1)),cK 17 12,fA 18 6 17,⟨none,none,.store 1 (t 18) (t 16)⟩]
def G0L:SS:=[mV 19 0,cK 20 19,fA 21 3 20,lD 22 21,mV 23 1,iA 24 1 22 23,lD 25 24,mV 26 2,iA 27 1 25 26,lD 28 27,mV 29 0,cK 30 29,fA 31 3 30,lD 32 31,mV 33 1,iA 34 1 32 33,lD 35 34,mV 6 28,mV 7 35]
def G0M:SS:=[mV 36 0,cK 37 36,fA 38 3 37,lD 39 38,lN 40 39,o 41 (.mv (i 0))]
def U0R:SS:=[o 42 (.bin 0 .lss (t 41) (t 40))]
def G0N:SS:=[mV 43 41,iA 44 1 39 41,lD 45 44,mV 8 43,mV 9 45]
def u0x:SS:=[mV 46 8,mV 47 1,o 48 (.bin 0 .eql (t 46) (t 47))]
def G0O:SS:=[mV 49 9,mV 50 2,iA 51 1 49 50,lD 52 51,mV 10 52]
def G0P:SS:=[mV 53 9,lN 54 53,o 55 (.mv (i 0))]
def U0S:SS:=[o 56 (.bin 0 .lss (t 55) (t 54))]
def G0Q:SS:=[mV 57 55,mV 11 57]
def w0T:SS:=[mV 58 9,mV 59 11,mV 60 0,cK 61 60,o 62 (.fa0 a0d (t 61)),lA 63 0 62,o 64 (.iface a0n (t 63)),mV 65 9,mV 66 11,iA 67 1 65 66,lD 68 67,mV 69 6,mV 70 10,mV 71 7,mV 72 11,iA 73 1 71 72,lD 74 73,mV 75 0,cK 76 75,fA 77 4 76,lD 78 77,o 79 (.inv (t 64) [(a0m,p0A),(a0n,p0B)] [t 68,t 69,t 70,t 74,t 78] true),iA 80 1 58 59,⟨none,none,.store 1 (t 80) (t 79)⟩]
def L0c:SS:=[o 81 (.bin 0 .add (t 55) (i 1)),mV 55 81]
def L0d:SS:=[o 82 (.bin 0 .add (t 41) (i 1)),mV 41 82]
def w0U:SS:=[mV 83 0,mV 84 0,cK 85 84,fA 86 5 85,lD 87 86,mV 88 1,mV 89 6,mV 90 2,cK 91 83,fA 92 4 91,⟨none,none,.store 1 (t 92) (t 89)⟩,iA 93 1 87 88,⟨none,none,.store 1 (t 93) (t 90)⟩]
def M0g:SF:=⟨3,94,[],
 (qS (gR G0K) (qS (.draw G0L [0,1,3,7,0,31,63,0,255,511,0,1024,3072,7168,0,31744,64512,1023,262143] []) (qS (qS (gR G0M) (.block 0 (.loop (qS (gR U0R) (qS (.cond (t 42) .skip (.exit 0)) (qS (.block 1 (qS (gR G0N) (qS (qS (gR u0x) (.cond (t 48) (.exit 1) .skip)) (qS (gR G0O) (qS (gR G0P) (.block 2 (.loop (qS (gR U0S) (qS (.cond (t 56) .skip (.exit 2)) (qS (.block 3 (qS (gR G0Q) (.draw w0T [0,0,0,4,12,28,60,0,0,384,896,0,0,0,0,24576,57344,0,131072,393216,917504,2097148,4194303,8388607] []))) (gR L0c))))))))))) (gR L0d))))))) (gR w0U))))⟩
def G0R:SS:=[o 4 (.alloc a0b [.bool false,.slice none 0 0,.bool false,.slice none 0 0])]
def G0S:SS:=[mV 8 0,cK 9 8,o 10 (.fa0 a0d (t 9)),lA 11 0 10,o 12 (.iface a0n (t 11)),mV 13 1,o 14 (.inv (t 12) [(a0m,r0E),(a0n,r0F)] [t 13] false),mV 15 0,cK 16 15,o 17 (.fa0 a0d (t 16)),lA 18 0 17,o 19 (.iface a0n (t 18)),mV 20 0,cK 21 20,fA 22 4 21,lD 23 22,o 24 (.inv (t 19) [(a0m,r0E),(a0n,r0F)] [t 23] false),o 25 (.call p0z [t 14,t 24] false),mV 7 25,o 26 (.ext (t 7) 0),o 27 (.ext (t 7) 1),o 5 (.alloc a0b [.bool false,.slice none 0 0,.bool false,.slice none 0 0]),⟨none,none,.store 4 (t 5) (t 26)⟩,mV 6 27]
def G0T:SS:=[lA 28 4 5,⟨none,none,.store 4 (t 4) (t 28)⟩]
def M0h:SF:=⟨2,29,[.cell 4 true 4],
 (qS (gR G0R) (qS (.draw G0S [0,1,3,7,15,0,63,0,128,384,896,1920,0,4096,12288,28672,65535,131071,262143,524287,524287,0,3145727,8388607] []) (qS (gR G0T) .ret)))⟩
def G0U:SS:=[o 1 (.box a0b (t 0)),o 2 (.alloc a0b [.bool false,.slice none 0 0,.bool false,.slice none 0 0])]
def G0V:SS:=[fA 3 0 1,lA 4 2 3,o 5 (.call r0B [t 4] false),fA 6 2 1,lA 7 2 6,o 8 (.build [.bool false,.slice none 0 0,.bool false,.slice none 0 0] [(0,2,t 5),(2,2,t 7)]),⟨none,none,.store 4 (t 2) (t 8)⟩]
def M0i:SF:=⟨1,9,[.cell 2 true 4],
 (qS (gR G0U) (qS (.draw G0V [0,1,3,0,8,31,63] []) .ret))⟩
def G0W:SS:=[o 4 (.mv (.const (.slice none 0 0)))]
def G0X:SS:=[mV 9 0,lN 10 9,o 11 (.bin 0 .add (t 10) (i 1)),o 12 (.mk a0j 4 [.int .u32 0] (i 0) (t 11)),mV 5 12]
def G0Y:SS:=[o 6 (.mv (.const (.int .u64 0)))]
def G0Z:SS:=[mV 13 0,lN 14 13,o 15 (.mv (i 0))]
def u0y:SS:=[o 16 (.bin 0 .lss (t 15) (t 14))]
def H0a:SS:=[iA 17 1 13 15,lD 18 17,mV 8 18]
def H0b:SS:=[mV 19 6,mV 20 8,o 21 (.conv .u64 (t 20)),mV 22 1,o 23 (.bin 0 .shl (t 21) (t 22)),o 24 (.bin 0 .or (t 19) (t 23)),mV 6 24]
def H0c:SS:=[mV 25 5,mV 26 6,o 27 (.call f0F [t 26] true),o 28 (.lit a0j [.int .u32 0] 1 [(0,1,t 27)]),o 29 (.app a0j 1 4 (t 25) (t 28)),mV 5 29]
def H0d:SS:=[mV 30 6,o 31 (.bin 0 .shr (t 30) (.const (.int .u64 32))),mV 6 31]
def H0e:SS:=[o 32 (.bin 0 .add (t 15) (i 1)),mV 15 32]
def w0V:SS:=[mV 33 5,mV 34 6,o 35 (.call f0F [t 34] true),o 36 (.lit a0j [.int .u32 0] 1 [(0,1,t 35)]),o 37 (.app a0j 1 4 (t 33) (t 36)),mV 4 37]
def M0j:SF:=⟨2,38,[.tmp 4],
 (qS (gR G0W) (qS (gR G0X) (qS (gR G0Y) (qS (qS (gR G0Z) (.block 0 (.loop (qS (gR u0y) (qS (.cond (t 16) .skip (.exit 0)) (qS (.block 1 (qS (gR H0a) (qS (gR H0b) (qS (gR H0c) (gR H0d))))) (gR H0e))))))) (qS (gR w0V) .ret)))))⟩
def H0f:SS:=[o 6 (.mv (.const (.bool false)))]
def H0g:SS:=[o 7 (.mv (.const (.int .u64 0)))]
def H0h:SS:=[mV 10 0,lN 11 10,o 12 (.mv (i 0))]
def q0N:SS:=[o 13 (.bin 0 .lss (t 12) (t 11))]
def u0z:SS:=[mV 14 12,mV 8 14]
def u0A:SS:=[mV 15 8,mV 16 1,lN 17 16,o 18 (.bin 0 .lss (t 15) (t 17))]
def u0B:SS:=[mV 19 7,mV 20 1,mV 21 8,iA 22 1 20 21,lD 23 22,o 24 (.conv .u64 (t 23)),mV 25 2,o 26 (.bin 0 .mul (t 24) (t 25)),o 27 (.bin 0 .add (t 19) (t 26)),mV 7 27]
def u0C:SS:=[mV 28 0,mV 29 8,iA 30 1 28 29,lD 31 30,o 32 (.conv .u64 (t 31)),mV 33 7,o 34 (.bin 0 .and (t 33) (.const (.int .u64 4294967295))),o 35 (.bin 0 .sub (t 32) (t 34)),mV 9 35]
def u0D:SS:=[mV 36 0,mV 37 8,mV 38 9,o 39 (.call f0F [t 38] true),iA 40 1 36 37,⟨none,none,.store 1 (t 40) (t 39)⟩]
def u0E:SS:=[mV 41 7,o 42 (.bin 0 .shr (t 41) (.const (.int .u64 32))),mV 43 9,o 44 (.bin 0 .shr (t 43) (.const (.int .u64 63))),o 45 (.bin 0 .add (t 42) (t 44)),mV 7 45]
def q0M:SS:=[o 46 (.bin 0 .add (t 12) (i 1)),mV 12 46]
def w0W:SS:=[mV 47 7,o 48 (.bin 0 .neq (t 47) (.const (.int .u64 0))),mV 6 48]
def M0k:SF:=⟨3,49,[.tmp 6],
 (qS (gR H0f) (qS (gR H0g) (qS (qS (gR H0h) (.block 0 (.loop (qS (gR q0N) (qS (.cond (t 13) .skip (.exit 0)) (qS (.block 1 (qS (gR u0z) (qS (qS (gR u0A) (.cond (t 18) (gR u0B) .skip)) (qS (gR u0C) (qS (gR u0D) (gR u0E)))))) (gR q0M))))))) (qS (gR w0W) .ret))))⟩
def H0i:SS:=[o 4 (.mv (.const (.int .u64 0)))]
def H0j:SS:=[mV 6 0,lN 7 6,o 8 (.mv (i 0))]
def q0O:SS:=[o 9 (.bin 0 .lss (t 8) (t 7))]
def u0F:SS:=[mV 10 8,mV 5 10]
def u0G:SS:=[mV 11 4,mV 12 0,mV 13 5,iA 14 1 12 13,lD 15 14,o 16 (.conv .u64 (t 15)),o 17 (.bin 0 .add (t 11) (t 16)),mV 4 17]
def u0H:SS:=[mV 18 5,mV 19 1,lN 20 19,o 21 (.bin 0 .lss (t 18) (t 20))]
def u0I:SS:=[mV 22 4,mV 23 1,mV 24 5,iA 25 1 23 24,lD 26 25,o 27 (.conv .u64 (t 26)),o 28 (.bin 0 .add (t 22) (t 27)),mV 4 28]
def u0J:SS:=[mV 29 0,mV 30 5,mV 31 4,o 32 (.call f0F [t 31] true),iA 33 1 29 30,⟨none,none,.store 1 (t 33) (t 32)⟩]
def u0K:SS:=[mV 34 4,o 35 (.bin 0 .shr (t 34) (.const (.int .u64 32))),mV 4 35]
def u0L:SS:=[o 36 (.bin 0 .add (t 8) (i 1)),mV 8 36]
def M0l:SF:=⟨2,37,[],
 (qS (gR H0i) (qS (gR H0j) (.block 0 (.loop (qS (gR q0O) (qS (.cond (t 9) .skip (.exit 0)) (qS (.block 1 (qS (gR u0F) (qS (gR u0G) (qS (qS (gR u0H) (.cond (t 21) (gR u0I) .skip)) (qS (gR u0J) (gR u0K)))))) (gR u0L))))))))⟩
def H0k:SS:=[o 4 (.mv (.const (.slice none 0 0)))]
def H0l:SS:=[mV 8 0,lN 9 8,o 10 (.mk a0j 4 [.int .u32 0] (t 9) (t 9)),mV 5 10]
def H0m:SS:=[mV 11 0,lN 12 11,o 13 (.mv (i 0))]
def q0P:SS:=[o 14 (.bin 0 .lss (t 13) (t 12))]
def u0M:SS:=[mV 15 13,mV 6 15]
def u0N:SS:=[mV 16 0,mV 17 6,iA 18 1 16 17,lD 19 18,o 20 (.conv .u64 (t 19)),mV 7 20]
def u0O:SS:=[mV 21 6,o 22 (.bin 0 .add (t 21) (i 1)),mV 23 0,lN 24 23,o 25 (.bin 0 .lss (t 22) (t 24))]
def u0P:SS:=[mV 26 7,mV 27 0,mV 28 6,o 29 (.bin 0 .add (t 28) (i 1)),iA 30 1 27 29,lD 31 30,o 32 (.conv .u64 (t 31)),o 33 (.bin 0 .shl (t 32) (.const (.int .u64 32))),o 34 (.bin 0 .or (t 26) (t 33)),mV 7 34]
def u0Q:SS:=[mV 35 5,mV 36 6,mV 37 7,mV 38 1,o 39 (.bin 0 .shr (t 37) (t 38)),o 40 (.call f0F [t 39] true),iA 41 1 35 36,⟨none,none,.store 1 (t 41) (t 40)⟩]
def u0R:SS:=[o 42 (.bin 0 .add (t 13) (i 1)),mV 13 42]
def w0X:SS:=[mV 43 5,mV 4 43]
def M0m:SF:=⟨2,44,[.tmp 4],
 (qS (gR H0k) (qS (gR H0l) (qS (qS (gR H0m) (.block 0 (.loop (qS (gR q0P) (qS (.cond (t 14) .skip (.exit 0)) (qS (.block 1 (qS (gR u0M) (qS (gR u0N) (qS (qS (gR u0O) (.cond (t 25) (gR u0P) .skip)) (gR u0Q))))) (gR u0R))))))) (qS (gR w0X) .ret))))⟩
def H0n:SS:=[o 5 (.box a0m (t 0)),o 6 (.box a0a (t 1)),o 7 (.box a0a (t 2)),o 8 (.box a0a (t 3)),o 9 (.box a0a (t 4)),o 10 (.mv (i 0))]
def H0o:SS:=[lA 11 2 6,lA 12 2 7,o 13 (.call r0G [t 11,t 12] false),lA 14 2 8,lA 15 2 9,o 16 (.call r0G [t 14,t 15] true),o 17 (.call n0y [t 13,t 16] true),mV 10 17]
def M0n:SF:=⟨5,18,[.tmp 10],
 (qS (gR H0n) (qS (.draw H0o [0,0,3,0,0,31,63,127] []) .ret))⟩
def H0p:SS:=[o 2 (.box a0m (t 0)),o 3 (.box a0a (t 1)),o 4 (.alloc a0a [.bool false,.slice none 0 0])]
def H0q:SS:=[lA 5 2 3,o 6 (.call r0B [t 5] true),⟨none,none,.store 2 (t 4) (t 6)⟩]
def M0o:SF:=⟨2,7,[.cell 4 true 2],
 (qS (gR H0p) (qS (gR H0q) .ret))⟩
def H0r:SS:=[o 2 (.box a0m (t 0)),o 3 (.box a0a (t 1)),o 4 (.alloc a0a [.bool false,.slice none 0 0])]
def H0s:SS:=[lA 5 2 3,⟨none,none,.store 2 (t 4) (t 5)⟩]
def M0p:SF:=⟨2,6,[.cell 4 true 2],
 (qS (gR H0r) (qS (gR H0s) .ret))⟩
def H0t:SS:=[o 2 (.box a0m (t 0)),o 3 (.box a0a (t 1)),o 4 (.alloc a0a [.bool false,.slice none 0 0])]
def H0u:SS:=[lA 5 2 3,⟨none,none,.store 2 (t 4) (t 5)⟩]
def M0q:SF:=⟨2,6,[.cell 4 true 2],
 (qS (gR H0t) (qS (gR H0u) .ret))⟩
def H0v:SS:=[o 2 (.box a0m (t 0)),o 3 (.box a0a (t 1)),o 4 (.mv (i 0))]
def H0w:SS:=[lA 5 2 3,o 6 (.build [.bool false,.slice none 0 0] []),o 7 (.call n0y [t 5,t 6] true),mV 4 7]
def M0r:SF:=⟨2,8,[.tmp 4],
 (qS (gR H0v) (qS (gR H0w) .ret))⟩
def H0x:SS:=[o 6 (.box a0m (t 0)),o 7 (.box a0a (t 1)),o 8 (.box a0a (t 2)),o 9 (.box a0a (t 3)),o 10 (.box a0a (t 4)),o 11 (.box a0a (t 5)),o 12 (.alloc a0a [.bool false,.slice none 0 0])]
def H0y:SS:=[lA 17 2 7,lA 18 2 8,o 19 (.call r0G [t 17,t 18] false),lA 20 2 9,lA 21 2 10,o 22 (.call r0G [t 20,t 21] false),o 23 (.call A0c [t 19,t 22] false),lA 24 2 11,o 25 (.call l0T [t 23,t 24] false),mV 16 25,o 26 (.ext (t 16) 0),o 27 (.ext (t 16) 1),o 28 (.ext (t 16) 2),o 13 (.alloc a0a [.bool false,.slice none 0 0]),o 14 (.alloc a0a [.bool false,.slice none 0 0]),⟨none,none,.store 2 (t 13) (t 26)⟩,⟨none,none,.store 2 (t 14) (t 27)⟩,mV 15 28]
def H0z:SS:=[lA 29 2 13,⟨none,none,.store 2 (t 12) (t 29)⟩]
def M0s:SF:=⟨6,30,[.cell 12 true 2],
 (qS (gR H0x) (qS (.draw H0y [0,0,3,0,0,31,63,0,255,511,1023,1023,1023,0,0,26623,61439,131071] []) (qS (gR H0z) .ret)))⟩
def H0A:SS:=[o 2 (.box a0a (t 0)),o 3 (.box a0a (t 1)),o 4 (.alloc a0a [.bool false,.slice none 0 0])]
def H0B:SS:=[lA 5 2 2,lA 6 2 3,o 7 (.call r0B [t 6] false),o 8 (.call J0G [t 5,t 7] true),⟨none,none,.store 2 (t 4) (t 8)⟩]
def M0t:SF:=⟨2,9,[.cell 4 true 2],
 (qS (gR H0A) (qS (.draw H0B [0,0,2,7,15] []) .ret))⟩
def H0C:SS:=[o 5 (.box a0n (t 0)),o 10 (.mv (i 0))]
def H0D:SS:=[mV 11 1,mV 12 2,o 13 (.bin 0 .mul (t 11) (t 12)),mV 14 3,mV 15 4,o 16 (.bin 0 .mul (t 14) (t 15)),o 17 (.call y0f [t 13,t 16] true),mV 10 17]
def M0u:SF:=⟨5,18,[.tmp 10],
 (qS (gR H0C) (qS (gR H0D) .ret))⟩
def H0E:SS:=[o 2 (.box a0n (t 0)),o 4 (.mv (i 0))]
def H0F:SS:=[mV 5 1,o 6 (.un .neg (t 5)),mV 4 6]
def M0v:SF:=⟨2,7,[.tmp 4],
 (qS (gR H0E) (qS (gR H0F) .ret))⟩
def H0J:SS:=[o 2 (.box a0n (t 0)),o 4 (.alloc a0a [.bool false,.slice none 0 0])]
def H0K:SS:=[mV 5 1,o 6 (.call k0Z [t 5] true),⟨none,none,.store 2 (t 4) (t 6)⟩]
def M0w:SF:=⟨2,7,[.cell 4 true 2],
 (qS (gR H0J) (qS (gR H0K) .ret))⟩
def u0S:SS:=[o 2 (.box a0n (t 0)),o 3 (.box a0a (t 1)),o 4 (.mv (i 0))]
def u0T:SS:=[lA 8 2 3,o 9 (.call A0d [t 8] true),mV 7 9,o 10 (.ext (t 7) 0),o 11 (.ext (t 7) 1),mV 5 10,mV 6 11]
def u0U:SS:=[mV 12 6,o 13 (.un .not (t 12))]
def H0L:SS:=[o 14 (.build [] []),o 15 (.iface f0f (t 14)),⟨none,none,.pan (t 15)⟩]
def u0V:SS:=[mV 16 5,o 17 (.call t0q [t 16] true),mV 4 17]
def J0i:SF:=⟨2,18,[.tmp 4],
 (qS (gR u0S) (qS (gR u0T) (qS (qS (gR u0U) (.cond (t 13) (gR H0L) .skip)) (qS (gR u0V) .ret))))⟩
def H0M:SS:=[o 2 (.box a0n (t 0)),o 4 (.mv (i 0))]
def H0N:SS:=[mV 5 1,o 6 (.call y0f [t 5,i 0] true),mV 4 6]
def M0x:SF:=⟨2,7,[.tmp 4],
 (qS (gR H0M) (qS (gR H0N) .ret))⟩
def H0O:SS:=[o 6 (.box a0n (t 0)),o 12 (.mv (i 0))]
def H0P:SS:=[mV 13 1,mV 14 2,o 15 (.bin 0 .mul (t 13) (t 14)),mV 16 3,mV 17 4,o 18 (.bin 0 .mul (t 16) (t 17)),o 19 (.bin 0 .sub (t 15) (t 18)),mV 20 5,o 21 (.bin 0 .quo (t 19) (t 20)),o 22 (.call t0q [t 21] true),mV 12 22]
def M0y:SF:=⟨6,23,[.tmp 12],
 (qS (gR H0O) (qS (gR H0P) .ret))⟩
def H0Q:SS:=[o 4 (.mv (i 0))]
def H0R:SS:=[mV 6 0,mV 7 1,o 8 (.bin 0 .lss (t 6) (t 7)),mV 5 8]
def H0S:SS:=[o 4 (.mv (.const (.int .i64 (-1))))]
def H0T:SS:=[mV 10 0,mV 11 1,o 12 (.bin 0 .gtr (t 10) (t 11)),mV 9 12]
def H0U:SS:=[o 4 (.mv (i 1))]
def H0V:SS:=[o 4 (.mv (i 0))]
def M0z:SF:=⟨2,13,[.tmp 4],
 (qS (gR H0Q) (qS (.block 0 (qS (gR H0R) (.cond (t 5) (qS (gR H0S) .ret) (qS (gR H0T) (.cond (t 9) (qS (gR H0U) .ret) .skip))))) (qS (gR H0V) .ret)))⟩
def H0W:SS:=[o 1 (.box a0a (t 0)),o 2 (.mv (i 0)),o 3 (.mv (.const (.bool false)))]
def H0X:SS:=[lA 8 2 1,o 9 (.call f0E [t 8] true),mV 4 9]
def H0Y:SS:=[mV 10 4,lN 11 10,o 12 (.bin 0 .gtr (t 11) (i 2))]
def H0Z:SS:=[o 2 (.mv (i 0)),o 3 (.mv (.const (.bool false)))]
def I0a:SS:=[o 5 (.mv (.const (.int .u64 0)))]
def I0b:SS:=[mV 13 4,lN 14 13,o 15 (.mv (i 0))]
def U0T:SS:=[o 16 (.bin 0 .lss (t 15) (t 14))]
def I0c:SS:=[mV 17 15,iA 18 1 13 15,lD 19 18,mV 6 17,mV 7 19]
def I0d:SS:=[mV 20 5,mV 21 7,o 22 (.conv .u64 (t 21)),mV 23 6,o 24 (.bin 0 .mul (i 32) (t 23)),o 25 (.bin 0 .shl (t 22) (t 24)),o 26 (.bin 0 .or (t 20) (t 25)),mV 5 26]
def U0U:SS:=[o 27 (.bin 0 .add (t 15) (i 1)),mV 15 27]
def w0Y:SS:=[lA 29 2 1,o 30 (.call e0f [t 29] true),mV 31 30,og 32 31 true (.mv (t 5)),og 33 31 true (.bin 0 .leq (t 32) (.const (.int .u64 9223372036854775808))),o 34 (.pick (t 31) (t 33) (.const (.bool false))),mV 28 34]
def w0Z:SS:=[mV 35 5,o 36 (.un .neg (t 35)),o 37 (.conv .i64 (t 36)),mV 2 37,o 3 (.mv (.const (.bool true)))]
def q0Q:SS:=[lA 39 2 1,o 40 (.call e0f [t 39] true),o 41 (.un .not (t 40)),mV 42 41,og 43 42 true (.mv (t 5)),og 44 42 true (.bin 0 .lss (t 43) (.const (.int .u64 9223372036854775808))),o 45 (.pick (t 42) (t 44) (.const (.bool false))),mV 38 45]
def x0a:SS:=[mV 46 5,o 47 (.conv .i64 (t 46)),mV 2 47,o 3 (.mv (.const (.bool true)))]
def q0R:SS:=[o 2 (.mv (i 0)),o 3 (.mv (.const (.bool false)))]
def M0A:SF:=⟨1,48,[.tmp 2,.tmp 3],
 (qS (gR H0W) (qS (gR H0X) (qS (qS (gR H0Y) (.cond (t 12) (qS (gR H0Z) .ret) .skip)) (qS (gR I0a) (qS (qS (gR I0b) (.block 0 (.loop (qS (gR U0T) (qS (.cond (t 16) .skip (.exit 0)) (qS (.block 1 (qS (gR I0c) (gR I0d))) (gR U0U))))))) (qS (.block 2 (qS (gR w0Y) (.cond (t 28) (qS (gR w0Z) .ret) (qS (gR q0Q) (.cond (t 38) (qS (gR x0a) .ret) .skip))))) (qS (gR q0R) .ret)))))))⟩
def u0W:SS:=[o 2 (.mv (i 0))]
def u0X:SS:=[mV 3 0,o 4 (.bin 0 .leq (t 3) (.const (.int .i64 (-2147483648)))),mV 5 4,og 6 5 false (.mv (t 0)),og 7 5 false (.bin 0 .geq (t 6) (i 2147483648)),o 8 (.pick (t 5) (.const (.bool true)) (t 7))]
def u0Y:SS:=[o 9 (.build [] []),o 10 (.iface f0f (t 9)),⟨none,none,.pan (t 10)⟩]
def u0Z:SS:=[mV 11 0,mV 2 11]
def J0j:SF:=⟨1,12,[.tmp 2],
 (qS (gR u0W) (qS (qS (gR u0X) (.cond (t 8) (gR u0Y) .skip)) (qS (gR u0Z) .ret)))⟩
abbrev t0j (F:RK):Nat:=F.p T0H T0A
abbrev l0R (F:RK):Nat:=F.p r0z K0l
abbrev j0Y (F:RK):Nat:=F.p T0M T0F
abbrev l0p (F:RK):Nat:=F.p T0J T0C
abbrev l0Q (F:RK):Nat:=F.p T0Q T0O
abbrev z0H (F:RK):Nat:=F.p T0K T0D
abbrev l0q (F:RK):Nat:=F.p T0L T0E
abbrev X0i (F:RK):Nat:=F.p T0N T0G
abbrev T0z (F:RK):Nat:=F.p T0R T0P
abbrev v0I (F:RK):Nat:=F.p T0I T0B
def s0k (F:RK):SS:=[o 2 (.box (F.p a0n a0m) (t 0)),o 3 (.box a0O (t 1)),o 4 (.mv (.const (.pointer none)))]
def s0l:SS:=[fA 22 1 3,lD 23 22,lN 24 23,mV 5 24]
def h0g (F:RK):SS:=[lA 25 0 2,fA 26 0 3,lD 27 26,mV 28 5,fA 29 0 3,lD 30 29,o 31 (.bin 0 .mul (i 2) (t 30)),mV 32 5,o 33 (.bin 0 .add (t 31) (t 32)),lA 34 0 2,o 35 (.iface (F.p a0n a0m) (t 34)),o 36 (.call k0Z [i 1] false),o 37 (.inv (t 35) [(a0m,j0Z),(a0n,i0X)] [t 36] false)] ++ F.p [o 38 (.build [.int .i64 0,.int .i64 0,.int .i64 0,.slice none 0 0,.int .i64 0,.slice none 0 0,.int .i64 0] [(0,0,t 25),(0,1,t 27),(1,1,t 28),(2,1,t 33),(4,1,t 37)])] [o 38 (.build [.int .i64 0,.int .i64 0,.int .i64 0,.slice none 0 0,.bool false,.slice none 0 0,.slice none 0 0,.int .i64 0] [(0,0,t 25),(0,1,t 27),(1,1,t 28),(2,1,t 33),(4,2,t 37)])] ++ [o 39 (.box (F.p a0d a0c) (t 38)),o 6 (.alloc (F.p a0M a0I) [.pointer none]),⟨none,none,.store 1 (t 6) (t 39)⟩]
def h0h (F:RK):SS:=[lA 40 0 2,o 41 (.iface (F.p a0n a0m) (t 40)),o 42 (.build [.bool false,.slice none 0 0] []),o 43 (.inv (t 41) [(a0m,j0Z),(a0n,i0X)] [t 42] true)] ++ F.p [o 7 (.alloc d0w [.int .i64 0])] [o 7 (.alloc a0a [.bool false,.slice none 0 0])] ++ [⟨none,none,.store F.w (t 7) (t 43)⟩]
def s0m (F:RK):SS:=[o 44 (.mkfn (.func (F.p n0A n0z)) [] [t 6,t 7]),mV 8 44]
def s0n:SS:=[mV 45 8,o 46 (.callv (t 45) [] true),mV 47 8,o 48 (.callv (t 47) [] true),mV 9 46,mV 10 48]
def s0o:SS:=[fA 49 3 3,lD 50 49,lN 51 50,o 52 (.mv (i 0))]
def B0l:SS:=[o 53 (.bin 0 .lss (t 52) (t 51))]
def s0p:SS:=[mV 54 52,iA 55 2 50 52,lA 56 2 55,o 12 (.alloc a0a [.bool false,.slice none 0 0]),mV 11 54,⟨none,none,.store 2 (t 12) (t 56)⟩]
def s0q (F:RK):SS:=[lA 57 0 2,o 58 (.iface (F.p a0n a0m) (t 57)),lA 59 2 12,o 60 (.inv (t 58) [(a0m,j0Z),(a0n,i0X)] [t 59] true)] ++ F.p [mV 13 60] [o 13 (.alloc a0a [.bool false,.slice none 0 0]),⟨none,none,.store 2 (t 13) (t 60)⟩]
def o0t (F:RK):SS:=[mV 61 10,mV 62 11,mV 63 10,fA 64 0 3,lD 65 64,mV 66 11,o 67 (.bin 0 .add (t 65) (t 66)),lA 68 0 2,o 69 (.iface (F.p a0n a0m) (t 68))] ++ F.p [mV 70 13] [lA 70 2 13] ++ [o 71 (.inv (t 69) [(a0m,n0B),(a0n,n0D)] [t 70] false)] ++ F.p [mV 72 13] [lA 72 2 13] ++ [o 73 (.ia F.w (t 61) (t 62)),⟨none,none,.store F.w (t 73) (t 71)⟩,o 74 (.ia F.w (t 63) (t 67)),⟨none,none,.store F.w (t 74) (t 72)⟩]
def y0H:SS:=[o 75 (.bin 0 .add (t 52) (i 1)),mV 52 75]
def o0u:SS:=[fA 76 1 3,lD 77 76,lN 78 77,o 79 (.mv (i 0))]
def y0I:SS:=[o 80 (.bin 0 .lss (t 79) (t 78))]
def o0v:SS:=[mV 81 79,iA 82 1 77 79,lD 83 82,mV 14 81,mV 15 83]
def o0w:SS:=[mV 84 8,o 85 (.callv (t 84) [] true),mV 16 85]
def o0x:SS:=[mV 86 15,fA 87 0 3,lD 88 87,o 89 (.sl a0a 2 (t 86) none (some (t 88)) none),lN 90 89,o 91 (.mv (i 0))]
def y0J:SS:=[o 92 (.bin 0 .lss (t 91) (t 90))]
def o0y:SS:=[mV 93 91,iA 94 2 89 91,lA 95 2 94,o 18 (.alloc a0a [.bool false,.slice none 0 0]),mV 17 93,⟨none,none,.store 2 (t 18) (t 95)⟩]
def o0z (F:RK):SS:=[lA 96 0 2,o 97 (.iface (F.p a0n a0m) (t 96)),lA 98 2 18,o 99 (.inv (t 97) [(a0m,j0Z),(a0n,i0X)] [t 98] true)] ++ F.p [mV 19 99] [o 19 (.alloc a0a [.bool false,.slice none 0 0]),⟨none,none,.store 2 (t 19) (t 99)⟩]
def o0A (F:RK):SS:=[mV 100 16,mV 101 17,mV 102 16,fA 103 0 3,lD 104 103,mV 105 17,o 106 (.bin 0 .add (t 104) (t 105))] ++ F.p [mV 107 19] [lA 107 2 19] ++ [lA 108 0 2,o 109 (.iface (F.p a0n a0m) (t 108))] ++ F.p [mV 110 19] [lA 110 2 19] ++ [o 111 (.inv (t 109) [(a0m,n0B),(a0n,n0D)] [t 110] false),o 112 (.ia F.w (t 100) (t 101)),⟨none,none,.store F.w (t 112) (t 107)⟩,o 113 (.ia F.w (t 102) (t 106)),⟨none,none,.store F.w (t 113) (t 111)⟩]
def y0K:SS:=[o 114 (.bin 0 .add (t 91) (i 1)),mV 91 114]
def o0B (F:RK):SS:=[mV 115 16,fA 116 0 3,lD 117 116,o 118 (.bin 0 .mul (i 2) (t 117)),mV 119 14,o 120 (.bin 0 .add (t 118) (t 119)),lD 121 6,cK 122 121,fA 123 4 122,o 124 (.load F.b F.w (t 123)),o 125 (.ia F.w (t 115) (t 120)),⟨none,none,.store F.w (t 125) (t 124)⟩]
def o0C (F:RK):SS:=[mV 126 16,lD 127 6,cK 128 127,fA 129 2 128,lD 130 129,lA 131 0 2,o 132 (.iface (F.p a0n a0m) (t 131)),mV 133 15,fA 134 0 3,lD 135 134,iA 136 2 133 135,lA 137 2 136,o 138 (.inv (t 132) [(a0m,j0Z),(a0n,i0X)] [t 137] false),o 139 (.ia F.w (t 126) (t 130)),⟨none,none,.store F.w (t 139) (t 138)⟩]
def o0D:SS:=[fA 140 0 3,lD 141 140,o 142 (.bin 0 .mul (i 2) (t 141)),mV 143 14,o 144 (.bin 0 .add (t 142) (t 143)),mV 20 144]
def o0E (F:RK):SS:=[lA 145 0 2,o 146 (.iface (F.p a0n a0m) (t 145)),mV 147 16,lD 148 6,cK 149 148,fA 150 2 149,lD 151 150,o 152 (.ia F.w (t 147) (t 151)),o 153 (.load F.b F.w (t 152)),o 154 (.inv (t 146) [(a0m,n0C),(a0n,n0E)] [t 153] true),o 155 (.bin 0 .lss (t 154) (i 0))]
def o0F:SS:=[lD 156 6,cK 157 156,fA 158 2 157,lD 159 158,mV 160 14,o 161 (.bin 0 .add (t 159) (t 160)),mV 20 161]
def o0G:SS:=[mV 162 16,lN 163 162,o 164 (.mv (i 0))]
def y0L:SS:=[o 165 (.bin 0 .lss (t 164) (t 163))]
def o0H:SS:=[mV 166 164,mV 21 166]
def o0I (F:RK):SS:=[mV 167 16,mV 168 21,lA 169 0 2,o 170 (.iface (F.p a0n a0m) (t 169)),mV 171 16,mV 172 21,o 173 (.ia F.w (t 171) (t 172)),o 174 (.load F.b F.w (t 173)),o 175 (.inv (t 170) [(a0m,n0B),(a0n,n0D)] [t 174] true),o 176 (.ia F.w (t 167) (t 168)),⟨none,none,.store F.w (t 176) (t 175)⟩]
def o0J (F:RK):SS:=[mV 177 9,mV 178 21,lD 179 6,mV 180 9,mV 181 21,o 182 (.ia F.w (t 180) (t 181)),o 183 (.load F.b F.w (t 182)),mV 184 16,mV 185 21,o 186 (.ia F.w (t 184) (t 185)),o 187 (.load F.b F.w (t 186)),o 188 (.call (F.p y0b x0Z) [t 179,t 183,t 187] true),o 189 (.ia F.w (t 177) (t 178)),⟨none,none,.store F.w (t 189) (t 188)⟩]
def y0M:SS:=[o 190 (.bin 0 .add (t 164) (i 1)),mV 164 190]
def k0o (F:RK):SS:=[lD 191 6,lD 192 6,lD 193 6,cK 194 193,fA 195 3 194,lD 196 195,mV 197 16,o 198 (.lit (F.p e0D b0G) [.slice none 0 0] 1 [(0,1,t 197)]),o 199 (.app (F.p e0D b0G) 1 24 (t 196) (t 198)),lD 200 6,cK 201 200,o 202 (.fa (F.p 5 6) (t 201)),lD 203 202,mV 204 20,o 205 (.lit g0n [.int .i64 0] 1 [(0,1,t 204)]),o 206 (.app g0n 1 8 (t 203) (t 205)),cK 207 191,fA 208 3 207,⟨none,none,.store 1 (t 208) (t 199)⟩,cK 209 192,o 210 (.fa (F.p 5 6) (t 209)),⟨none,none,.store 1 (t 210) (t 206)⟩]
def y0N:SS:=[o 211 (.bin 0 .add (t 79) (i 1)),mV 79 211]
def o0K (F:RK):SS:=[lD 212 6,lD 213 6,cK 214 213,fA 215 3 214,lD 216 215,mV 217 9,mV 218 10,o 219 (.lit (F.p e0D b0G) [.slice none 0 0] 2 [(0,1,t 217),(1,1,t 218)]),o 220 (.app (F.p e0D b0G) 1 24 (t 216) (t 219)),cK 221 212,fA 222 3 221,⟨none,none,.store 1 (t 222) (t 220)⟩]
def o0L:SS:=[lD 223 6,mV 4 223]
def k0s (F:RK):SF:=⟨2,224,[.tmp 4],
 (qS (gR (s0k F)) (qS (gR s0l) (qS (.draw (h0g F) [0,0,2,0,0,16,48,0,240,0,512,0,3584,8191,16383,0,65535] []) (qS (gR (h0h F)) (qS (gR (s0m F)) (qS (gR s0n) (qS (qS (gR s0o) (.block 0 (.loop (qS (gR B0l) (qS (.cond (t 53) .skip (.exit 0)) (qS (.block 1 (qS (gR s0p) (qS (gR (s0q F)) (.draw (o0t F) [0,0,0,0,8,0,56,0,128,0,896,0,1923,6019,16383,32767] (F.p [(4,13)] [(4,13),(11,13)]))))) (gR y0H))))))) (qS (qS (gR o0u) (.block 2 (.loop (qS (gR y0I) (qS (.cond (t 80) .skip (.exit 2)) (qS (.block 3 (qS (gR o0v) (qS (gR o0w) (qS (qS (gR o0x) (.block 4 (.loop (qS (gR y0J) (qS (.cond (t 92) .skip (.exit 4)) (qS (.block 5 (qS (gR o0y) (qS (gR (o0z F)) (.draw (o0A F) [0,0,0,0,8,0,56,0,0,256,0,1792,3971,8067,16383,32767] [(4,13)])))) (gR y0K))))))) (qS (.draw (o0B F) [0,0,2,6,0,30,0,64,192,448,1023,2047] []) (qS (.draw (o0C F) [0,0,2,6,14,0,32,0,0,256,896,1920,4064,8191,16383] []) (qS (gR o0D) (qS (qS (.draw (o0E F) [0,1,0,0,8,24,56,124,252,511,1023] []) (.cond (t 155) (qS (gR o0F) (qS (gR o0G) (.block 6 (.loop (qS (gR y0L) (qS (.cond (t 165) .skip (.exit 6)) (qS (.block 7 (qS (gR o0H) (qS (.draw (o0I F) [0,0,0,4,0,0,48,112,252,511,1023] []) (.draw (o0J F) [0,0,0,0,0,24,56,0,0,384,896,2044,4095,8191] [])))) (gR y0M)))))))) .skip)) (.draw (k0o F) [0,0,0,4,12,28,0,64,252,0,512,1536,3584,0,8192,32764,65533,131069,262141,524287,1048575,2097151] [(0,8),(1,8),(8,9),(8,12),(8,14),(0,15),(1,15),(1,18)]))))))))) (gR y0N))))))) (qS (.draw (o0K F) [0,0,2,6,14,0,0,96,254,511,1023,2047] [(0,8)]) (qS (gR o0L) .ret))))))))))⟩
def m0F (F:RK):SS:=[o 3 (.box (F.p a0n a0m) (t 0)),o 4 (.box b0k (t 1)),o 5 (.box a0O (t 2)),o 6 (.alloc b0J [.int .i64 0,.bool false,.slice none 0 0,.bool false,.slice none 0 0,.slice none 0 0,.slice none 0 0,.slice none 0 0]),o 7 (.mv (i 0))]
def m0G (F:RK):SS:=[lA 16 0 3,lA 17 8 5,o 18 (.call (t0j F) [t 16,t 17] true),o 8 (.alloc (F.p a0M a0I) [.pointer none]),⟨none,none,.store 1 (t 8) (t 18)⟩]
def m0H:SS:=[lD 19 8,cK 20 19,fA 21 1 20,lD 22 21,lD 23 8,cK 24 23,fA 25 1 24,lD 26 25,o 27 (.bin 0 .add (t 26) (i 1)),mV 9 22,mV 10 27]
def m0I (F:RK):SS:=[lD 28 8,mV 29 9,o 30 (.call (v0I F) [t 28,t 29] true)]
def m0J (F:RK):SS:=[lD 31 8,cK 32 31,o 33 (.fa0 (F.p a0d a0c) (t 32)),lA 34 0 33,o 35 (.iface (F.p a0n a0m) (t 34)),lD 36 8,cK 37 36,fA 38 3 37,lD 39 38,mV 40 9,iA 41 1 39 40,lD 42 41,lD 43 8,cK 44 43,fA 45 2 44,lD 46 45,o 47 (.ia F.w (t 42) (t 46)),o 48 (.load F.b F.w (t 47)),o 49 (.inv (t 35) [(a0m,n0C),(a0n,n0E)] [t 48] true),o 50 (.bin 0 .lss (t 49) (i 0))]
def m0K (F:RK):SS:=[o 51 (.call A0g [i 0] false),lD 52 8,mV 53 9,lA 54 8 5,o 55 (.call A0g [i 1] false),o 56 (.call (l0p F) [t 52,t 53,t 54,t 55] false),o 57 (.build [.int .i64 0,.bool false,.slice none 0 0,.bool false,.slice none 0 0,.slice none 0 0,.slice none 0 0,.slice none 0 0] [(0,1,i 2),(1,4,t 51),(6,1,t 56)]),lD 58 8,cK 59 58,o 60 (.fa (F.p 6 7) (t 59)),lD 61 60,⟨none,none,.store 8 (t 6) (t 57)⟩,mV 7 61]
def m0L (F:RK):SS:=[lD 62 8,o 63 (.call (z0H F) [t 62] true)]
def m0M (F:RK):SS:=[lD 64 8,mV 65 10,o 66 (.call (v0I F) [t 64,t 65] true),mV 11 66]
def m0N (F:RK):SS:=[lD 67 8,o 68 (.mkfn (.func (j0Y F)) [] [t 8]),o 69 (.call (l0q F) [t 67,t 68] true),mV 12 69]
def m0O:SS:=[mV 70 11,o 71 (.bin 0 .geq (t 70) (i 0))]
def s0t (F:RK):SS:=[o 72 (.call A0g [i 0] false),mV 73 12,lD 74 8,mV 75 11,o 76 (.call (X0i F) [t 74,t 75] false),o 77 (.build [.int .i64 0,.bool false,.slice none 0 0,.bool false,.slice none 0 0,.slice none 0 0,.slice none 0 0,.slice none 0 0] [(0,1,i 3),(1,4,t 72),(5,1,t 73),(7,1,t 76)]),lD 78 8,cK 79 78,o 80 (.fa (F.p 6 7) (t 79)),lD 81 80,⟨none,none,.store 8 (t 6) (t 77)⟩,mV 7 81]
def k0N:SS:=[o 82 (.call A0g [i 0] true),o 13 (.alloc a0b [.bool false,.slice none 0 0,.bool false,.slice none 0 0]),⟨none,none,.store 4 (t 13) (t 82)⟩]
def k0O:SS:=[fA 83 3 4,lD 84 83,lN 85 84,o 86 (.mv (i 0))]
def s0u:SS:=[o 87 (.bin 0 .lss (t 86) (t 85))]
def k0P:SS:=[mV 88 86,iA 89 4 84 86,lA 90 4 89,o 15 (.alloc a0b [.bool false,.slice none 0 0,.bool false,.slice none 0 0]),mV 14 88,⟨none,none,.store 4 (t 15) (t 90)⟩]
def k0Q:SS:=[lA 91 4 13,lA 92 4 15,mV 93 12,mV 94 14,iA 95 4 93 94,lA 96 4 95,o 97 (.call V0R [t 92,t 96] false),o 98 (.call z0a [t 91,t 97] true),⟨none,none,.store 4 (t 13) (t 98)⟩]
def s0v:SS:=[o 99 (.bin 0 .add (t 86) (i 1)),mV 86 99]
def k0R (F:RK):SS:=[lA 100 4 13,mV 101 12,lD 102 8,mV 103 10,lA 104 8 5,fA 105 4 5,lA 106 4 105,o 107 (.call (l0p F) [t 102,t 103,t 104,t 106] false),o 108 (.build [.int .i64 0,.bool false,.slice none 0 0,.bool false,.slice none 0 0,.slice none 0 0,.slice none 0 0,.slice none 0 0] [(0,1,i 1),(1,4,t 100),(5,1,t 101),(6,1,t 107)]),lD 109 8,cK 110 109,o 111 (.fa (F.p 6 7) (t 110)),lD 112 111,⟨none,none,.store 8 (t 6) (t 108)⟩,mV 7 112]
def f0z (F:RK):SF:=⟨3,113,[.cell 6 true 8,.tmp 7],
 (qS (gR (m0F F)) (qS (gR (m0G F)) (qS (.draw m0H [0,1,3,7,0,16,48,112,240,15,1023] []) (qS (gR (m0I F)) (qS (qS (.draw (m0J F) [0,1,3,7,15,0,32,96,224,0,992,2016,0,4096,12288,28672,65504,131040,262143,524287] []) (.cond (t 50) (qS (.draw (m0K F) [0,0,0,0,1,31,63,0,128,384,896,127,4095] [(7,11),(10,11)]) .ret) .skip)) (qS (gR (m0L F)) (qS (gR (m0M F)) (qS (gR (m0N F)) (qS (qS (gR m0O) (.cond (t 71) (qS (.draw (s0t F) [0,0,0,0,13,31,0,64,192,448,63,2047] [(6,10),(9,10)]) .ret) .skip)) (qS (gR k0N) (qS (qS (gR k0O) (.block 0 (.loop (qS (gR s0u) (qS (.cond (t 87) .skip (.exit 0)) (qS (.block 1 (qS (gR k0P) (.draw k0Q [0,0,0,0,12,28,62,127,255] []))) (gR s0v))))))) (qS (.draw (k0R F) [0,0,0,0,0,0,32,124,255,0,512,1536,3584,511,16383] [(9,13),(12,13)]) .ret))))))))))))⟩
def h0i (F:RK):SS:=F.p [o 3 (.mv (i 0))] [o 3 (.alloc a0a [.bool false,.slice none 0 0])]
def h0j (F:RK):SS:=[lD 4 1,cK 5 4,fA 6 3 5,lD 7 6,mV 8 0,iA 9 1 7 8,lD 10 9,lD 11 1,cK 12 11,fA 13 2 12,lD 14 13,o 15 (.ia F.w (t 10) (t 14)),o 16 (.load F.b F.w (t 15))] ++ F.p [mV 3 16] [⟨none,none,.store 2 (t 3) (t 16)⟩]
def e0j (F:RK):SF:=⟨2,17,(F.p [.tmp 3] [.cell 3 true 2]),
 (qS (gR (h0i F)) (qS (.draw (h0j F) [0,1,3,7,0,31,63,0,128,384,896,2047,4095,8191] []) .ret))⟩
def o0m:SS:=[o 6 (.box a0O (t 2)),o 7 (.box a0b (t 3)),o 8 (.mv (.const (.slice none 0 0)))]
def o0n:SS:=[o 9 (.mv (.const (.slice none 0 0)))]
def o0o:SS:=[mV 13 0,cK 14 13,fA 15 1 14,lD 16 15,o 17 (.mv (i 0))]
def y0F:SS:=[o 18 (.bin 0 .lss (t 17) (t 16))]
def o0p:SS:=[mV 19 17,mV 10 19]
def o0q (F:RK):SS:=[mV 21 0,mV 22 0,cK 23 22,fA 24 3 23,lD 25 24,mV 26 1,iA 27 1 25 26,lD 28 27,mV 29 0,cK 30 29,fA 31 0 30,lD 32 31,o 33 (.bin 0 .mul (i 2) (t 32)),mV 34 10,o 35 (.bin 0 .add (t 33) (t 34)),o 36 (.ia F.w (t 28) (t 35)),o 37 (.load F.b F.w (t 36)),o 38 (.call (F.p r0D r0C) [t 21,t 37] false),fA 39 2 6,lD 40 39,mV 41 10,iA 42 4 40 41,lA 43 4 42,o 44 (.call V0R [t 38,t 43] false),lA 45 4 7,o 46 (.call z0U [t 44,t 45] false),mV 20 46,o 47 (.ext (t 20) 0),o 48 (.ext (t 20) 1),o 11 (.alloc a0b [.bool false,.slice none 0 0,.bool false,.slice none 0 0]),⟨none,none,.store 4 (t 11) (t 47)⟩,mV 12 48]
def o0r:SS:=[mV 49 9,lA 50 4 11,o 51 (.lit a0b [.bool false,.slice none 0 0,.bool false,.slice none 0 0] 1 [(0,4,t 50)]),o 52 (.app a0b 4 64 (t 49) (t 51)),mV 9 52]
def y0G:SS:=[o 53 (.bin 0 .add (t 17) (i 1)),mV 17 53]
def o0s:SS:=[mV 54 9,mV 8 54]
def h0E (F:RK):SF:=⟨4,55,[.tmp 8],
 (qS (gR o0m) (qS (gR o0n) (qS (qS (gR o0o) (.block 0 (.loop (qS (gR y0F) (qS (.cond (t 18) .skip (.exit 0)) (qS (.block 1 (qS (gR o0p) (qS (.draw (o0q F) [0,0,2,6,14,0,62,126,0,256,768,1792,3840,0,16128,32766,65534,131071,0,262144,0,1835008,3932160,8388607,0,33554431,67108863,134217727,134217727,0,805306367,2147483647] []) (gR o0r)))) (gR y0G))))))) (qS (gR o0s) .ret))))⟩
def m0r:SS:=[o 4 (.mv (i 0))]
def m0s:SS:=[o 5 (.mv (.const (.int .i64 (-1))))]
def m0t:SS:=[mV 8 0,cK 9 8,fA 10 1 9,lD 11 10,o 12 (.mv (i 0))]
def t0J:SS:=[o 13 (.bin 0 .lss (t 12) (t 11))]
def m0u:SS:=[mV 14 12,mV 6 14]
def m0v (F:RK):SS:=[mV 15 0,cK 16 15,o 17 (.fa0 (F.p a0d a0c) (t 16)),lA 18 0 17,o 19 (.iface (F.p a0n a0m) (t 18)),mV 20 0,cK 21 20,fA 22 3 21,lD 23 22,mV 24 6,iA 25 1 23 24,lD 26 25,mV 27 1,o 28 (.ia F.w (t 26) (t 27)),o 29 (.load F.b F.w (t 28)),o 30 (.inv (t 19) [(a0m,n0C),(a0n,n0E)] [t 29] true),o 31 (.bin 0 .leq (t 30) (i 0))]
def m0w:SS:=[mV 32 5,o 33 (.bin 0 .lss (t 32) (i 0))]
def m0x:SS:=[mV 34 6,mV 5 34]
def m0y (F:RK):SS:=[mV 35 0,cK 36 35,o 37 (.fa0 (F.p a0d a0c) (t 36)),lA 38 0 37,o 39 (.iface (F.p a0n a0m) (t 38)),mV 40 0,cK 41 40,fA 42 3 41,lD 43 42,mV 44 6,iA 45 1 43 44,lD 46 45,mV 47 0,cK 48 47,fA 49 2 48,lD 50 49,o 51 (.ia F.w (t 46) (t 50)),o 52 (.load F.b F.w (t 51)),mV 53 0,cK 54 53,fA 55 3 54,lD 56 55,mV 57 5,iA 58 1 56 57,lD 59 58,mV 60 1,o 61 (.ia F.w (t 59) (t 60)),o 62 (.load F.b F.w (t 61)),mV 63 0,cK 64 63,fA 65 3 64,lD 66 65,mV 67 5,iA 68 1 66 67,lD 69 68,mV 70 0,cK 71 70,fA 72 2 71,lD 73 72,o 74 (.ia F.w (t 69) (t 73)),o 75 (.load F.b F.w (t 74)),mV 76 0,cK 77 76,fA 78 3 77,lD 79 78,mV 80 6,iA 81 1 79 80,lD 82 81,mV 83 1,o 84 (.ia F.w (t 82) (t 83)),o 85 (.load F.b F.w (t 84)),o 86 (.inv (t 39) [(a0m,y0d),(a0n,y0e)] [t 52,t 62,t 75,t 85] true),mV 7 86]
def f0Y (F:RK):SS:=[mV 87 7,o 88 (.bin 0 .lss (t 87) (i 0)),mV 89 88,og 90 89 false (.mv (t 7)),og 91 89 false (.bin 0 .eql (t 90) (i 0)),og 92 89 false (.mv (t 91)),og 93 92 true (.mv (t 0)),og 94 92 true (.chk (t 93)),og 95 92 true (.fa (F.p 5 6) (t 94)),og 96 92 true (.load false 1 (t 95)),og 97 92 true (.mv (t 6)),og 98 92 true (.ia 1 (t 96) (t 97)),og 99 92 true (.load false 1 (t 98)),og 100 92 true (.mv (t 0)),og 101 92 true (.chk (t 100)),og 102 92 true (.fa (F.p 5 6) (t 101)),og 103 92 true (.load false 1 (t 102)),og 104 92 true (.mv (t 5)),og 105 92 true (.ia 1 (t 103) (t 104)),og 106 92 true (.load false 1 (t 105)),og 107 92 true (.bin 0 .lss (t 99) (t 106)),og 108 89 false (.pick (t 92) (t 107) (.const (.bool false))),o 109 (.pick (t 89) (.const (.bool true)) (t 108))]
def h0f:SS:=[mV 110 6,mV 5 110]
def s0j:SS:=[o 111 (.bin 0 .add (t 12) (i 1)),mV 12 111]
def k0M:SS:=[mV 112 5,mV 4 112]
def f0y (F:RK):SF:=⟨2,113,[.tmp 4],
 (qS (gR m0r) (qS (gR m0s) (qS (qS (gR m0t) (.block 0 (.loop (qS (gR t0J) (qS (.cond (t 13) .skip (.exit 0)) (qS (.block 1 (qS (gR m0u) (qS (qS (.draw (m0v F) [0,1,3,7,15,0,32,96,224,0,992,2016,0,8160,16352,32767,65535] []) (.cond (t 31) (.exit 1) .skip)) (qS (qS (gR m0w) (.cond (t 33) (qS (gR m0x) (.exit 1)) .skip)) (qS (.draw (m0y F) [0,1,3,7,15,0,32,96,224,0,992,2016,0,4096,12288,28672,65504,131040,0,262144,786432,1835008,0,8126464,16515072,0,66846720,133955584,0,268435456,805306368,1879048192,0,8321499136,16911433728,0,34359738368,103079215104,240518168576,549487378432,1099243192320,0,2199023255552,6597069766656,15393162788864,0,68169720922112,138538465099776,0,560750930165760,1123700883587072,2251799813685247,4503599627370495] []) (qS (.draw (f0Y F) [0,1,3,7,15,31,63,127,255,511,63,2047,4095,63,8255,24639,57407,63,254015,516159,1048575,2097151,4194303] []) (.cond (t 109) (gR h0f) .skip))))))) (gR s0j))))))) (qS (gR k0M) .ret))))⟩
def v0Z:SS:=[mV 7 0,cK 8 7,fA 9 1 8,lD 10 9,o 11 (.mv (i 0))]
def K0N:SS:=[o 12 (.bin 0 .lss (t 11) (t 10))]
def w0a:SS:=[mV 13 11,mV 2 13]
def q0h (F:RK):SS:=[mV 14 0,cK 15 14,o 16 (.fa (F.p 5 6) (t 15)),lD 17 16,mV 18 2,iA 19 1 17 18,lD 20 19,mV 21 0,cK 22 21,fA 23 2 22,lD 24 23,o 25 (.bin 0 .lss (t 20) (t 24))]
def w0b:SS:=[mV 26 0,cK 27 26,fA 28 2 27,lD 29 28,o 30 (.mv (i 0))]
def K0O:SS:=[o 31 (.bin 0 .lss (t 30) (t 29))]
def w0c:SS:=[mV 32 30,mV 3 32]
def w0d (F:RK):SS:=[mV 33 0,cK 34 33,o 35 (.fa0 (F.p a0d a0c) (t 34)),lA 36 0 35,o 37 (.iface (F.p a0n a0m) (t 36)),mV 38 0,cK 39 38,fA 40 3 39,lD 41 40,mV 42 2,iA 43 1 41 42,lD 44 43,mV 45 3,o 46 (.ia F.w (t 44) (t 45)),o 47 (.load F.b F.w (t 46)),o 48 (.inv (t 37) [(a0m,n0C),(a0n,n0E)] [t 47] true),mV 4 48]
def l0u:SS:=[mV 49 4,o 50 (.bin 0 .eql (t 49) (i 0))]
def q0i:SS:=[mV 51 4,o 52 (.bin 0 .lss (t 51) (i 0))]
def s0r:SS:=[mV 53 0,cK 54 53,fA 55 3 54,lD 56 55,mV 57 2,iA 58 1 56 57,lD 59 58,lN 60 59,o 61 (.mv (i 0))]
def B0m:SS:=[o 62 (.bin 0 .lss (t 61) (t 60))]
def j0s (F:RK):SS:=[mV 63 61,o 64 (.ia F.w (t 59) (t 61)),o 65 (.load F.b F.w (t 64))] ++ F.p [] [o 6 (.alloc a0a [.bool false,.slice none 0 0])] ++ [mV 5 63] ++ F.p [mV 6 65] [⟨none,none,.store 2 (t 6) (t 65)⟩]
def s0s (F:RK):SS:=[mV 66 0,cK 67 66,fA 68 3 67,lD 69 68,mV 70 2,iA 71 1 69 70,lD 72 71,mV 73 5,mV 74 0,cK 75 74,o 76 (.fa0 (F.p a0d a0c) (t 75)),lA 77 0 76,o 78 (.iface (F.p a0n a0m) (t 77))] ++ F.p [mV 79 6] [lA 79 2 6] ++ [o 80 (.inv (t 78) [(a0m,n0B),(a0n,n0D)] [t 79] false),o 81 (.ia F.w (t 72) (t 73)),⟨none,none,.store F.w (t 81) (t 80)⟩]
def B0n:SS:=[o 82 (.bin 0 .add (t 61) (i 1)),mV 61 82]
def m0z (F:RK):SS:=[mV 83 0,mV 84 2,mV 85 3,o 86 (.call (F.p t0p t0o) [t 83,t 84,t 85] true)]
def B0o:SS:=[o 87 (.bin 0 .add (t 30) (i 1)),mV 30 87]
def B0p:SS:=[o 88 (.bin 0 .add (t 11) (i 1)),mV 11 88]
def o0V (F:RK):SF:=⟨1,89,[],
 (qS (gR v0Z) (.block 0 (.loop (qS (gR K0N) (qS (.cond (t 12) .skip (.exit 0)) (qS (.block 1 (qS (gR w0a) (qS (qS (.draw (q0h F) [0,1,3,7,0,31,63,0,128,384,896,2047] []) (.cond (t 25) (.exit 1) .skip)) (qS (gR w0b) (.block 2 (.loop (qS (gR K0O) (qS (.cond (t 31) .skip (.exit 2)) (qS (.block 3 (qS (gR w0c) (qS (.draw (w0d F) [0,1,3,7,15,0,32,96,224,0,992,2016,0,8160,16352,32767,65535] []) (qS (qS (gR l0u) (.cond (t 50) (.exit 3) .skip)) (qS (qS (gR q0i) (.cond (t 52) (qS (gR s0r) (.block 4 (.loop (qS (gR B0m) (qS (.cond (t 62) .skip (.exit 4)) (qS (.block 5 (qS (gR (j0s F)) (.draw (s0s F) [0,1,3,7,0,31,63,0,0,256,768,1792,3840,0,16128,32767,65535] []))) (gR B0n))))))) .skip)) (qS (gR (m0z F)) (.exit 2))))))) (gR B0o)))))))))) (gR B0p)))))))⟩
def o0M:SS:=[o 4 (.mv (.const (.slice none 0 0)))]
def o0N:SS:=[mV 9 0,cK 10 9,fA 11 0 10,lD 12 11,o 13 (.mk a0b 64 [.bool false,.slice none 0 0,.bool false,.slice none 0 0] (t 12) (t 12)),mV 5 13]
def o0O:SS:=[mV 14 5,lN 15 14,o 16 (.mv (i 0))]
def y0O:SS:=[o 17 (.bin 0 .lss (t 16) (t 15))]
def o0P:SS:=[mV 18 16,mV 6 18]
def o0Q:SS:=[mV 19 5,mV 20 6,o 21 (.call A0g [i 0] true),iA 22 4 19 20,⟨none,none,.store 4 (t 22) (t 21)⟩]
def y0P:SS:=[o 23 (.bin 0 .add (t 16) (i 1)),mV 16 23]
def o0R (F:RK):SS:=[mV 24 0,cK 25 24,o 26 (.fa (F.p 5 6) (t 25)),lD 27 26,lN 28 27,o 29 (.mv (i 0))]
def y0Q:SS:=[o 30 (.bin 0 .lss (t 29) (t 28))]
def o0S:SS:=[mV 31 29,iA 32 1 27 29,lD 33 32,mV 7 31,mV 8 33]
def m0A:SS:=[mV 35 8,mV 36 0,cK 37 36,fA 38 0 37,lD 39 38,o 40 (.bin 0 .lss (t 35) (t 39)),mV 34 40]
def m0B (F:RK):SS:=[mV 41 5,mV 42 8,mV 43 5,mV 44 8,iA 45 4 43 44,lA 46 4 45,mV 47 0,mV 48 1,mV 49 7,o 50 (.callv (t 48) [t 49] false),o 51 (.call (F.p r0D r0C) [t 47,t 50] false),o 52 (.call z0a [t 46,t 51] true),iA 53 4 41 42,⟨none,none,.store 4 (t 53) (t 52)⟩]
def m0C:SS:=[mV 55 8,mV 56 0,cK 57 56,fA 58 0 57,lD 59 58,o 60 (.bin 0 .mul (i 2) (t 59)),o 61 (.bin 0 .lss (t 55) (t 60)),mV 54 61]
def m0D (F:RK):SS:=[mV 62 5,mV 63 8,mV 64 0,cK 65 64,fA 66 0 65,lD 67 66,o 68 (.bin 0 .sub (t 63) (t 67)),mV 69 5,mV 70 8,mV 71 0,cK 72 71,fA 73 0 72,lD 74 73,o 75 (.bin 0 .sub (t 70) (t 74)),iA 76 4 69 75,lA 77 4 76,mV 78 0,mV 79 1,mV 80 7,o 81 (.callv (t 79) [t 80] false),o 82 (.call (F.p r0D r0C) [t 78,t 81] false),o 83 (.call y0a [t 77,t 82] false),iA 84 4 62 68,⟨none,none,.store 4 (t 84) (t 83)⟩]
def t0K:SS:=[o 85 (.bin 0 .add (t 29) (i 1)),mV 29 85]
def m0E:SS:=[mV 86 5,mV 4 86]
def h0F (F:RK):SF:=⟨2,87,[.tmp 4],
 (qS (gR o0M) (qS (gR o0N) (qS (qS (gR o0O) (.block 0 (.loop (qS (gR y0O) (qS (.cond (t 17) .skip (.exit 0)) (qS (.block 1 (qS (gR o0P) (gR o0Q))) (gR y0P))))))) (qS (qS (gR (o0R F)) (.block 2 (.loop (qS (gR y0Q) (qS (.cond (t 30) .skip (.exit 2)) (qS (.block 3 (qS (gR o0S) (.block 4 (qS (gR m0A) (.cond (t 34) (.draw (m0B F) [0,0,0,0,12,28,0,0,0,384,960,2044,4095,8191] []) (qS (gR m0C) (.cond (t 54) (.draw (m0D F) [0,0,0,4,12,28,62,0,0,0,512,1536,3584,7936,16256,32640,0,0,0,393216,983040,2097024,4194303,8388607] []) .skip))))))) (gR t0K))))))) (qS (gR m0E) .ret)))))⟩
def K0P (F:RK):SS:=[o 2 (.box (F.p a0M a0I) (t 0)),o 3 (.box g0n (t 1)),o 4 (.mv (.const (.slice none 0 0)))]
def K0Q (F:RK):SS:=[lD 6 2,o 7 (.mkfn (.func (T0z F)) [] [t 2,t 3]),o 8 (.call (l0q F) [t 6,t 7] true),mV 5 8]
def K0R:SS:=[lD 10 3,lD 11 2,cK 12 11,fA 13 0 12,lD 14 13,o 15 (.bin 0 .lss (t 10) (t 14)),mV 9 15]
def K0S:SS:=[mV 16 5,lD 17 3,mV 18 5,lD 19 3,iA 20 4 18 19,lA 21 4 20,o 22 (.call A0g [i 1] false),o 23 (.call z0a [t 21,t 22] false),iA 24 4 16 17,⟨none,none,.store 4 (t 24) (t 23)⟩]
def K0T:SS:=[lD 26 3,lD 27 2,cK 28 27,fA 29 0 28,lD 30 29,o 31 (.bin 0 .mul (i 2) (t 30)),o 32 (.bin 0 .lss (t 26) (t 31)),mV 25 32]
def K0U:SS:=[mV 33 5,lD 34 3,lD 35 2,cK 36 35,fA 37 0 36,lD 38 37,o 39 (.bin 0 .sub (t 34) (t 38)),mV 40 5,lD 41 3,lD 42 2,cK 43 42,fA 44 0 43,lD 45 44,o 46 (.bin 0 .sub (t 41) (t 45)),iA 47 4 40 46,lA 48 4 47,o 49 (.call A0g [i 1] false),o 50 (.call y0a [t 48,t 49] false),iA 51 4 33 39,⟨none,none,.store 4 (t 51) (t 50)⟩]
def K0V:SS:=[mV 52 5,mV 4 52]
def x0m (F:RK):SF:=⟨2,53,[.tmp 4],
 (qS (gR (K0P F)) (qS (gR (K0Q F)) (qS (.block 0 (qS (.draw K0R [0,0,2,6,14,31,63] []) (.cond (t 9) (.draw K0S [0,0,0,0,12,28,0,124,255,511] []) (qS (.draw K0T [0,0,2,6,14,30,63,127] []) (.cond (t 25) (.draw K0U [0,0,0,4,12,28,62,0,0,0,512,1536,3584,7936,16256,32640,0,130944,262143,524287] []) .skip))))) (qS (gR K0V) .ret))))⟩
def B0q (F:RK):SS:=F.p [o 4 (.mv (i 0))] [o 4 (.alloc a0a [.bool false,.slice none 0 0])]
def B0r (F:RK):SS:=[lD 5 1,cK 6 5,o 7 (.fa0 (F.p a0d a0c) (t 6)),lA 8 0 7,o 9 (.iface (F.p a0n a0m) (t 8)),lD 10 1,cK 11 10,fA 12 3 11,lD 13 12,mV 14 0,iA 15 1 13 14,lD 16 15,lD 17 2,o 18 (.ia F.w (t 16) (t 17)),o 19 (.load F.b F.w (t 18)),o 20 (.inv (t 9) [(a0m,n0B),(a0n,n0D)] [t 19] true)] ++ F.p [mV 4 20] [⟨none,none,.store 2 (t 4) (t 20)⟩]
def q0W (F:RK):SF:=⟨3,21,(F.p [.tmp 4] [.cell 4 true 2]),
 (qS (gR (B0q F)) (qS (.draw (B0r F) [0,1,3,7,15,0,32,96,224,0,992,2016,0,8160,16352,32767,65535] []) .ret))⟩
def w0e:SS:=[o 4 (.mv (i 0))]
def w0f:SS:=[o 5 (.mv (i 0))]
def q0j (F:RK):SS:=[mV 7 5,mV 8 0,cK 9 8,fA 10 2 9,lD 11 10,o 12 (.bin 0 .lss (t 7) (t 11)),mV 13 12,og 14 13 true (.mv (t 0)),og 15 13 true (.chk (t 14)),og 16 13 true (.fa0 (F.p a0d a0c) (t 15)),og 17 13 true (.load true 0 (t 16)),og 18 13 true (.iface (F.p a0n a0m) (t 17)),og 19 13 true (.mv (t 0)),og 20 13 true (.chk (t 19)),og 21 13 true (.fa 3 (t 20)),og 22 13 true (.load false 1 (t 21)),og 23 13 true (.mv (t 1)),og 24 13 true (.ia 1 (t 22) (t 23)),og 25 13 true (.load false 1 (t 24)),og 26 13 true (.mv (t 5)),og 27 13 true (.ia F.w (t 25) (t 26)),og 28 13 true (.load F.b F.w (t 27)),og 29 13 true (.inv (t 18) [(a0m,n0C),(a0n,n0E)] [t 28] true),og 30 13 true (.bin 0 .geq (t 29) (i 0)),o 31 (.pick (t 13) (t 30) (.const (.bool false)))]
def w0g:SS:=[mV 32 5,o 33 (.bin 0 .add (t 32) (i 1)),mV 5 33]
def q0k:SS:=[mV 34 5,mV 35 0,cK 36 35,fA 37 2 36,lD 38 37,o 39 (.bin 0 .eql (t 34) (t 38))]
def w0h:SS:=[o 4 (.mv (.const (.int .i64 (-1))))]
def w0i (F:RK):SS:=[mV 40 0,mV 41 5,o 42 (.call (l0Q F) [t 40,t 41] true),mV 6 42]
def q0l:SS:=[mV 43 6,o 44 (.bin 0 .lss (t 43) (i 0))]
def w0j:SS:=[mV 45 5,mV 4 45]
def w0k (F:RK):SS:=[mV 46 0,mV 47 6,mV 48 5,o 49 (.call (F.p t0p t0o) [t 46,t 47,t 48] true)]
def o0W (F:RK):SF:=⟨2,50,[.tmp 4],
 (qS (gR w0e) (.block 0 (.loop (.block 1 (qS (gR w0f) (qS (.block 2 (.loop (qS (qS (.draw (q0j F) [0,0,2,6,14,31,63,127,255,511,1023,2047,127,4223,12415,28799,127,127103,258175,127,1044607,2093183,4194303,8388607,16777215] []) (.cond (t 31) .skip (.exit 2))) (.block 3 (gR w0g))))) (qS (qS (gR q0k) (.cond (t 39) (qS (gR w0h) .ret) .skip)) (qS (gR (w0i F)) (qS (qS (gR q0l) (.cond (t 44) (qS (gR w0j) .ret) .skip)) (gR (w0k F)))))))))))⟩
def t0e:List (Nat × v0o):=[
 (f_3,s_3),
 (X0j,Z0N),
 (x0O,Z0O),
 (K0m,Z0P),
 (V0A,Z0Q),
 (X0k,Z0R),
 (V0B,Z0S),
 (X0l,Z0T),
 (X0n,Z0V),
 (X0o,Z0W),
 (X0p,Z0X),
 (T0S,Z0Y),
 (V0C,Z0Z),
 (V0D,a1a),
 (T0T,a1b),
 (V0E,a1c),
 (K0n,a1d),
 (T0U,a1e),
 (X0q,a1f),
 (X0r,a1g),
 (V0F,a1h),
 (V0G,a1i),
 (V0H,a1j),
 (K0o,a1k),
 (X0s,a1l),
 (V0I,a1m),
 (X0t,a1n),
 (V0J,a1o),
 (z0a,a1p),
 (X0u,a1q),
 (V0K,a1r),
 (V0L,a1s),
 (X0v,a1t),
 (V0M,a1u),
 (X0w,a1v),
 (X0x,a1w),
 (v0J,a1x),
 (X0y,a1y),
 (A0e,a1z),
 (t0r,a1A),
 (X0z,a1B),
 (X0A,a1C),
 (V0N,a1D),
 (X0B,a1E),
 (M0V,a1F),
 (V0O,a1G),
 (V0P,a1H),
 (X0C,a1I),
 (A0f,a1J),
 (V0Q,a1K),
 (X0D,a1L),
 (J0G,a1M),
 (r0G,a1N),
 (A0g,a1O),
 (V0R,a1P),
 (T0V,a1Q),
 (X0E,a1R),
 (T0W,a1S),
 (X0F,a1T),
 (X0G,a1U),
 (z0I,L0h),
 (i0t,L0i),
 (z0J,L0j),
 (l0S,L0k),
 (z0K,L0l),
 (z0L,L0m),
 (z0M,L0n),
 (K0l,f0z .all),
 (z0N,L0o),
 (x0P,L0p),
 (x0Q,L0q),
 (x0R,L0r),
 (t0k,L0s),
 (p0z,L0t),
 (f0E,L0u),
 (e0f,L0v),
 (g0p,L0w),
 (z0O,L0x),
 (r0w,L0y),
 (x0S,L0z),
 (f0F,L0A),
 (k0Z,L0B),
 (n0y,L0C),
 (x0T,L0D),
 (t0l,L0E),
 (r0x,L0F),
 (x0U,L0G),
 (r0y,L0H),
 (t0m,L0I),
 (z0P,L0J),
 (x0V,L0K),
 (x0W,L0L),
 (r0z,f0z .few),
 (T0A,k0s .all),
 (T0B,o0W .all),
 (T0C,h0E .all),
 (T0D,o0V .all),
 (T0E,h0F .all),
 (T0F,e0j .all),
 (T0G,x0m .all),
 (x0X,L0M),
 (z0Q,L0N),
 (t0n,y0T),
 (r0A,L0O),
 (r0B,L0P),
 (l0T,L0Q),
 (z0R,L0R),
 (z0S,L0S),
 (z0T,L0T),
 (x0Y,L0U),
 (T0H,k0s .few),
 (T0I,o0W .few),
 (T0J,h0E .few),
 (T0K,o0V .few),
 (T0L,h0F .few),
 (T0M,e0j .few),
 (T0N,x0m .few),
 (n0z,L0V),
 (x0Z,L0W),
 (T0O,f0y .all),
 (t0o,L0X),
 (z0U,L0Y),
 (r0C,L0Z),
 (y0a,M0a),
 (T0P,q0W .all),
 (z0V,M0b),
 (z0W,M0c),
 (z0X,M0d),
 (n0A,M0e),
 (y0b,M0f),
 (T0Q,f0y .few),
 (t0p,M0g),
 (r0D,M0h),
 (T0R,q0W .few),
 (z0Y,M0i),
 (y0c,M0j),
 (z0Z,M0k),
 (A0a,M0l),
 (A0b,M0m),
 (y0d,M0n),
 (n0B,M0o),
 (r0E,M0p),
 (j0Z,M0q),
 (n0C,M0r),
 (p0A,M0s),
 (A0c,M0t),
 (y0e,M0u),
 (n0D,M0v),
 (r0F,M0w),
 (i0X,J0i),
 (n0E,M0x),
 (p0B,M0y),
 (y0f,M0z),
 (A0d,M0A),
 (t0q,J0j)]
def p0n:List (Nat × v0o):=[(X0m,Z0U)]
def env:Env:=⟨fun f=>(t0e ++ p0n).lookup f,some ⟨p0y,r0z,[.int .i64 0,.bool false,.slice none 0 0,.bool false,.slice none 0 0,.slice none 0 0,.slice none 0 0,.slice none 0 0],4,8⟩,[]⟩
theorem e_3:env.code f_3=some s_3:=rfl
theorem e1o:env.code X0j=some Z0N:=rfl
theorem e1p:env.code x0O=some Z0O:=rfl
theorem e1q:env.code K0m=some Z0P:=rfl
theorem e1r:env.code V0A=some Z0Q:=rfl
theorem e1s:env.code X0k=some Z0R:=rfl
theorem e1t:env.code V0B=some Z0S:=rfl
theorem e1u:env.code X0l=some Z0T:=rfl
theorem e1w:env.code X0n=some Z0V:=rfl
theorem e1x:env.code X0o=some Z0W:=rfl
theorem e1y:env.code X0p=some Z0X:=rfl
theorem e1z:env.code T0S=some Z0Y:=rfl
theorem e1A:env.code V0C=some Z0Z:=rfl
theorem e1B:env.code V0D=some a1a:=rfl
theorem e1C:env.code T0T=some a1b:=rfl
theorem e1D:env.code V0E=some a1c:=rfl
theorem e1E:env.code K0n=some a1d:=rfl
theorem e1F:env.code T0U=some a1e:=rfl
theorem e1G:env.code X0q=some a1f:=rfl
theorem e1H:env.code X0r=some a1g:=rfl
theorem e1I:env.code V0F=some a1h:=rfl
theorem e1J:env.code V0G=some a1i:=rfl
theorem e1K:env.code V0H=some a1j:=rfl
theorem e1L:env.code K0o=some a1k:=rfl
theorem e1M:env.code X0s=some a1l:=rfl
theorem e1N:env.code V0I=some a1m:=rfl
theorem e1O:env.code X0t=some a1n:=rfl
theorem e1P:env.code V0J=some a1o:=rfl
theorem e1Q:env.code z0a=some a1p:=rfl
theorem e1R:env.code X0u=some a1q:=rfl
theorem e1S:env.code V0K=some a1r:=rfl
theorem e1T:env.code V0L=some a1s:=rfl
theorem e1U:env.code X0v=some a1t:=rfl
theorem e1V:env.code V0M=some a1u:=rfl
theorem e1W:env.code X0w=some a1v:=rfl
theorem e1X:env.code X0x=some a1w:=rfl
theorem e1Y:env.code v0J=some a1x:=rfl
theorem e1Z:env.code X0y=some a1y:=rfl
theorem f1a:env.code A0e=some a1z:=rfl
theorem f1b:env.code t0r=some a1A:=rfl
theorem f1c:env.code X0z=some a1B:=rfl
theorem f1d:env.code X0A=some a1C:=rfl
theorem f1e:env.code V0N=some a1D:=rfl
theorem f1f:env.code X0B=some a1E:=rfl
theorem f1g:env.code M0V=some a1F:=rfl
theorem f1h:env.code V0O=some a1G:=rfl
theorem f1i:env.code V0P=some a1H:=rfl
theorem f1j:env.code X0C=some a1I:=rfl
theorem f1k:env.code A0f=some a1J:=rfl
theorem f1l:env.code V0Q=some a1K:=rfl
theorem f1m:env.code X0D=some a1L:=rfl
theorem f1n:env.code J0G=some a1M:=rfl
theorem f1o:env.code r0G=some a1N:=rfl
theorem f1p:env.code A0g=some a1O:=rfl
theorem f1q:env.code V0R=some a1P:=rfl
theorem f1r:env.code T0V=some a1Q:=rfl
theorem f1s:env.code X0E=some a1R:=rfl
theorem f1t:env.code T0W=some a1S:=rfl
theorem f1u:env.code X0F=some a1T:=rfl
theorem f1v:env.code X0G=some a1U:=rfl
theorem b1V:env.code z0I=some L0h:=rfl
theorem b1W:env.code i0t=some L0i:=rfl
theorem b1X:env.code z0J=some L0j:=rfl
theorem b1Y:env.code l0S=some L0k:=rfl
theorem b1Z:env.code z0K=some L0l:=rfl
theorem c1a:env.code z0L=some L0m:=rfl
theorem c1b:env.code z0M=some L0n:=rfl
theorem z0F {F:RK}:env.code (l0R F)=some (f0z F):=by cases F <;> rfl
theorem c1c:env.code z0N=some L0o:=rfl
theorem c1d:env.code x0P=some L0p:=rfl
theorem c1e:env.code x0Q=some L0q:=rfl
theorem c1f:env.code x0R=some L0r:=rfl
theorem c1g:env.code t0k=some L0s:=rfl
theorem c1h:env.code p0z=some L0t:=rfl
theorem c1i:env.code f0E=some L0u:=rfl
theorem c1j:env.code e0f=some L0v:=rfl
theorem c1k:env.code g0p=some L0w:=rfl
theorem c1l:env.code z0O=some L0x:=rfl
theorem c1m:env.code r0w=some L0y:=rfl
theorem c1n:env.code x0S=some L0z:=rfl
theorem c1o:env.code f0F=some L0A:=rfl
theorem c1p:env.code k0Z=some L0B:=rfl
theorem c1q:env.code n0y=some L0C:=rfl
theorem c1r:env.code x0T=some L0D:=rfl
theorem c1s:env.code t0l=some L0E:=rfl
theorem c1t:env.code r0x=some L0F:=rfl
theorem c1u:env.code x0U=some L0G:=rfl
theorem c1v:env.code r0y=some L0H:=rfl
theorem c1w:env.code t0m=some L0I:=rfl
theorem c1x:env.code z0P=some L0J:=rfl
theorem c1y:env.code x0V=some L0K:=rfl
theorem c1z:env.code x0W=some L0L:=rfl
theorem T0w {F:RK}:env.code (t0j F)=some (k0s F):=by cases F <;> rfl
theorem X0d {F:RK}:env.code (v0I F)=some (o0W F):=by cases F <;> rfl
theorem K0i {F:RK}:env.code (l0p F)=some (h0E F):=by cases F <;> rfl
theorem X0c {F:RK}:env.code (z0H F)=some (o0V F):=by cases F <;> rfl
theorem K0j {F:RK}:env.code (l0q F)=some (h0F F):=by cases F <;> rfl
theorem x0M {F:RK}:env.code (j0Y F)=some (e0j F):=by cases F <;> rfl
theorem c1A:env.code x0X=some L0M:=rfl
theorem c1B:env.code z0Q=some L0N:=rfl
theorem c1C:env.code t0n=some y0T:=rfl
theorem c1D:env.code r0A=some L0O:=rfl
theorem c1E:env.code r0B=some L0P:=rfl
theorem c1F:env.code l0T=some L0Q:=rfl
theorem c1G:env.code z0R=some L0R:=rfl
theorem c1H:env.code z0S=some L0S:=rfl
theorem c1I:env.code z0T=some L0T:=rfl
theorem c1J:env.code x0Y=some L0U:=rfl
theorem c1K:env.code n0z=some L0V:=rfl
theorem c1L:env.code x0Z=some L0W:=rfl
theorem z0E {F:RK}:env.code (l0Q F)=some (f0y F):=by cases F <;> rfl
theorem c1M:env.code t0o=some L0X:=rfl
theorem c1N:env.code z0U=some L0Y:=rfl
theorem c1O:env.code r0C=some L0Z:=rfl
theorem c1P:env.code y0a=some M0a:=rfl
theorem c1Q:env.code z0V=some M0b:=rfl
theorem c1R:env.code z0W=some M0c:=rfl
theorem c1S:env.code z0X=some M0d:=rfl
theorem c1T:env.code n0A=some M0e:=rfl
theorem c1U:env.code y0b=some M0f:=rfl
theorem c1V:env.code t0p=some M0g:=rfl
theorem c1W:env.code r0D=some M0h:=rfl
theorem c1X:env.code z0Y=some M0i:=rfl
theorem c1Y:env.code y0c=some M0j:=rfl
theorem c1Z:env.code z0Z=some M0k:=rfl
theorem d1a:env.code A0a=some M0l:=rfl
theorem d1b:env.code A0b=some M0m:=rfl
theorem d1c:env.code y0d=some M0n:=rfl
theorem d1d:env.code n0B=some M0o:=rfl
theorem d1e:env.code r0E=some M0p:=rfl
theorem d1f:env.code j0Z=some M0q:=rfl
theorem d1g:env.code n0C=some M0r:=rfl
theorem d1h:env.code p0A=some M0s:=rfl
theorem d1i:env.code A0c=some M0t:=rfl
theorem d1j:env.code y0e=some M0u:=rfl
theorem d1k:env.code n0D=some M0v:=rfl
theorem d1l:env.code r0F=some M0w:=rfl
theorem X0e:env.code i0X=some J0i:=rfl
theorem d1m:env.code n0E=some M0x:=rfl
theorem d1n:env.code p0B=some M0y:=rfl
theorem d1o:env.code y0f=some M0z:=rfl
theorem d1p:env.code A0d=some M0A:=rfl
theorem X0f:env.code t0q=some J0j:=rfl
theorem e1v:env.code X0m=some Z0U:=rfl
end
section
open Go
variable {E:Env} {fl:Nat} {t:b0c} {H G:a0f} {K:n0t} {R:a0E}
def Sl (H:a0f) (e sz:Nat) (v:Value) (n:Nat) (cs:List Value):Prop :=
 cs.length=n * sz∧((v=.slice none 0 0∧n=0) ∨
  ∃ b off cap ro cells,v=.slice (some ⟨b,off,none⟩) n cap∧H.blk b=.row ro e cells∧off + n * sz≤cells.length∧cs=(cells.drop off).take (n * sz))
variable {e sz n:Nat} {v:Value} {cs:List Value}
theorem Sl.mono (h:Sl H e sz v n cs) (hx:Ext H G):Sl G e sz v n cs:=by
 obtain ⟨hl,h⟩:=h
 refine ⟨hl,?_⟩
 rcases h with h | ⟨b,off,cap,ro,cells,h1,h2,h3,h4⟩
 ·exact .inl h
 ·exact .inr ⟨b,off,cap,ro,cells,h1,hx.blk h2,h3,h4⟩
theorem Sl.nil:Sl H e sz (.slice none 0 0) 0 []:=⟨by simp,.inl ⟨rfl,rfl⟩⟩
theorem Sl.slen (h:Sl H e sz v n cs):i0H v=some (.int .i64 n):=by
 obtain ⟨_,⟨rfl,rfl⟩ | ⟨b,off,cap,ro,cells,rfl,_⟩⟩:=h <;> simp [i0H]
theorem Sl.ia (h:Sl H e sz v n cs) {k:IntKind} {j:Nat} (hj:j < n):iaV sz v (.int k j)=some (adr sz v j):=by
 obtain ⟨_,⟨rfl,rfl⟩ | ⟨b,off,cap,ro,cells,rfl,_⟩⟩:=h
 ·omega
 ·simp only [iaV,adr];rw [f1N (by omega)];simp
theorem Sl.iaZ (h:Sl H e sz v n cs) {k:IntKind} {z:Int} (h0:0≤z) (hj:z < n):iaV sz v (.int k z)=some (adr sz v z.toNat):=by
 have:=h.ia (k:=k) (j:=z.toNat) (by omega)
 rwa [i1u h0] at this
theorem Sl.load (h:Sl H e sz v n cs) (hx:Ext H G) {j:Nat} (hj:j < n) (hs:0 < sz):b0y G true sz (adr sz v j)=some (.agg ((cs.drop (j * sz)).take sz).toArray):=by
 obtain ⟨hl,⟨rfl,rfl⟩ | ⟨b,off,cap,ro,cells,rfl,hb,ho,rfl⟩⟩:=h
 ·omega
 ·have hj2:(j + 1) * sz≤n * sz:=f1S sz hj
  rw [g1e,g1A] at hj2
  have hc:=h0v (off:=off + j * sz) (n:=sz) (hx.blk hb) (by omega)
  simp only [adr,b0y]
  rw [f1K (by omega),f1K (by simp)]
  simp only [g1y,hc]
  rw [i1M,i1o,h1R,g1R (by omega)]
theorem Sl.load1 (h:Sl H e 1 v n cs) (hx:Ext H G) {j:Nat} (hj:j < n):b0y G false 1 (adr 1 v j)=some (cs.getD j undef):=by
 obtain ⟨hl,⟨rfl,rfl⟩ | ⟨b,off,cap,ro,cells,rfl,hb,ho,rfl⟩⟩:=h
 ·omega
 ·have hc:=h0v (off:=off + j * 1) (n:=1) (hx.blk hb) (by omega)
  simp only [adr,b0y]
  rw [f1K (by simp),f1K (by simp)]
  simp only [hc,g1h,g1L]
  rw [List.head?_take,f1K (by simp),List.head?_drop,f1H,g1X,f1N (by omega),h1g]
  simp only [g1S] at ho ⊢
  rw [f1M (by omega)]
  rfl
theorem Sl.elemOk (h:Sl H e sz v n cs) {G:a0f} (hx:Ext H G):AI.elemOk G e v=true:=by
 obtain ⟨hl,⟨rfl,rfl⟩ | ⟨b,off,cap,ro,cells,rfl,hb,ho,rfl⟩⟩:=h
 ·rfl
 ·unfold AI.elemOk
  simp only [hx.blk hb]
  cases ro <;> simp
theorem Sl.cells (h:Sl H e sz v n cs):a0W v=[v]:=by
 obtain ⟨hl,⟨rfl,rfl⟩ | ⟨b,off,cap,ro,cells,rfl,hb,ho,rfl⟩⟩:=h <;> rfl
theorem Sl.plain (h:Sl H e sz v n cs):a0F v=true:=by
 obtain ⟨hl,⟨rfl,rfl⟩ | ⟨b,off,cap,ro,cells,rfl,hb,ho,rfl⟩⟩:=h <;> rfl
theorem Sl.slice (h:Sl H e sz v n cs) {lo hi:Nat} (h1:lo≤hi) (h2:hi≤n) {x y:Option Value} (hx:bnd 0 x=some lo) (hy:bnd n y=some hi) :
  ∃ v',d0V sz v x y none=some v'∧Sl H e sz v' (hi - lo) ((cs.drop (lo * sz)).take ((hi - lo) * sz)):=by
 obtain ⟨hl,⟨rfl,rfl⟩ | ⟨b,off,cap,ro,cells,rfl,hb,ho,rfl⟩⟩:=h
 ·have:lo=0:=by omega
  have:hi=0:=by omega
  subst lo hi
  refine ⟨.slice none 0 0,?_,by simp,.inl ⟨rfl,rfl⟩⟩
  unfold d0V;simp [hx,hy];intro h;exact g1g h (by decide)
 ·refine ⟨_,by unfold d0V;simp only [hx,hy];rw [f1N ⟨h1,h2⟩];rfl,?_,.inr ⟨b,off + lo * sz,_,ro,cells,rfl,hb,?_,?_⟩⟩
  ·simp only [g1P,List.length_drop]
   have e1:(hi - lo) * sz + lo * sz=hi * sz:=by rw [← g1e];congr 1;omega
   have e2:hi * sz≤n * sz:=f1S sz h2
   omega
  ·have e1:(hi - lo) * sz + lo * sz=hi * sz:=by rw [← g1e];congr 1;omega
   have e2:hi * sz≤n * sz:=f1S sz h2
   omega
  ·have e1:(hi - lo) * sz + lo * sz=hi * sz:=by rw [← g1e];congr 1;omega
   have e2:hi * sz≤n * sz:=f1S sz h2
   rw [i1M,i1o,h1R,g1R (by omega)]
theorem Sl.setT (h:Sl H e sz v n cs) {p:Nat} {ro:Bool} {e':TypeId} {cs':List Value} {r:Blk} (hb:H.blk p=.row ro e' cs') (hne:e' ≠ e):Sl (H.setIfInBounds p r) e sz v n cs:=by
 obtain ⟨hl,h | ⟨b,off,cap,ro,cells,rfl,hb',ho,rfl⟩⟩:=h
 ·exact ⟨hl,.inl h⟩
 ·refine ⟨hl,.inr ⟨b,off,cap,ro,cells,rfl,?_,ho,rfl⟩⟩
  rw [b0h];exact hb'
  rintro rfl
  rw [hb'] at hb;cases hb;exact hne rfl
def c0b (l:List Nat):List Value:=l.map fun x=>.int .u32 (x:Nat)
@[simp] theorem i0v {l:List Nat}:(c0b l).length=l.length:=by simp [c0b]
def Lim (H:a0f) (v:Value) (l:List Nat):Prop:=Sl H a0j 1 v l.length (c0b l)∧∀ x ∈ l,x < 4294967296
variable {l:List Nat}
theorem Lim.mono (h:Lim H v l) (hx:Ext H G):Lim G v l:=⟨h.1.mono hx,h.2⟩
theorem Lim.nil:Lim H (.slice none 0 0) []:=⟨Sl.nil,by simp⟩
theorem Lim.slen (h:Lim H v l):i0H v=some (.int .i64 l.length):=h.1.slen
theorem Lim.ia (h:Lim H v l) {k:IntKind} {j:Nat} (hj:j < l.length):iaV 1 v (.int k j)=some (adr 1 v j):=h.1.ia hj
theorem Lim.iaZ (h:Lim H v l) {k:IntKind} {z:Int} (h0:0≤z) (hj:z < l.length):iaV 1 v (.int k z)=some (adr 1 v z.toNat):=h.1.iaZ h0 hj
theorem Lim.load (h:Lim H v l) {j:Nat} (hj:j < l.length) {G:a0f} (hx:Ext H G):b0y G false 1 (adr 1 v j)=some (.int .u32 (l.getD j 0)):=by
 rw [h.1.load1 hx hj]
 simp [c0b,f1H,g1V,hj]
theorem Lim.setT (h:Lim H v l) {p:Nat} {ro:Bool} {e':TypeId} {cs':List Value} {r:Blk} (hb:H.blk p=.row ro e' cs') (hne:e' ≠ a0j):Lim (H.setIfInBounds p r) v l:=⟨h.1.setT hb hne,h.2⟩
theorem Lim.elemOk (h:Lim H v l) {G:a0f} (hx:Ext H G):AI.elemOk G a0j v=true:=h.1.elemOk hx
theorem Lim.cells (h:Lim H v l):a0W v=[v]:=h.1.cells
theorem Lim.plain (h:Lim H v l):a0F v=true:=h.1.plain
theorem Lim.take (h:Lim H v l) {k:Nat} (hk:k≤l.length) {x:Option Value} (hx:bnd 0 x=some 0) {y:Option Value} (hy:bnd l.length y=some k):∃ v',d0V 1 v x y none=some v'∧Lim H v' (l.take k):=by
 obtain ⟨v',h1,h2⟩:=h.1.slice (g1I k) hk hx hy
 refine ⟨v',h1,?_,fun x hx=>h.2 x (h1A hx)⟩
 have:(l.take k).length=k:=by simp;omega
 rw [this]
 simpa [c0b,List.map_take] using h2
def b0f (H:a0f) (v:Value) (i:Bool × List Nat):Prop:=∃ s,v=.agg #[.bool i.1,s]∧Lim H s i.2
theorem b0f.mono {i:Bool × List Nat} (h:b0f H v i) (hx:Ext H G):b0f G v i:=by obtain ⟨s,h1,h2⟩:=h;exact ⟨s,h1,h2.mono hx⟩
def rd:Blk→Nat→Option Value
 | .row _ _ cs,o=>cs[o]?
 | .dead,_=>none
def rdn:Blk→Nat→Nat→Option Value
 | .row _ _ cs,o,n=>if o + n≤cs.length then some (.agg ((cs.drop o).take n).toArray) else none
 | .dead,_,_=>none
@[simp] theorem Y0M {ro:Bool} {e:TypeId} {cs:List Value} {o:Nat}:rd (.row ro e cs) o=cs[o]?:=nr rfl
@[simp] theorem U0Y {ro:Bool} {e:TypeId} {cs:List Value} {o n:Nat}:rdn (.row ro e cs) o n=if o + n≤cs.length then some (.agg ((cs.drop o).take n).toArray) else none:=nr rfl
theorem r0P {b o:Nat}:b0y G false 1 (.pointer (some ⟨b,o,none⟩))=rd (G.blk b) o:=by
 simp only [b0y]
 rw [f1K (by simp),f1K (by simp)]
 unfold a0f.cells?
 cases G.blk b with
 | dead=>rfl
 | row ro e cs =>
  simp only [g1h,g1L,rd]
  by_cases h:o + 1≤cs.length
  ·rw [f1N h];simp only [List.head?_take];rw [f1K (by simp),List.head?_drop]
  ·rw [f1K h,f1T (by omega)]
theorem o0c {b o n:Nat} (hn:0 < n):b0y G true n (.pointer (some ⟨b,o,none⟩))=rdn (G.blk b) o n:=by
 simp only [b0y]
 rw [f1K (by omega),f1K (by simp)]
 unfold a0f.cells?
 cases G.blk b with
 | dead=>rfl
 | row ro e cs =>
  simp only [g1y,rdn]
  split <;> simp_all
def wr (G:a0f) (b o:Nat) (vs:List Value):Blk→Option a0f
 | .row false e cs=>if o + vs.length≤cs.length then some (G.setIfInBounds b (.row false e (b0v cs o vs))) else none
 | _=>none
@[simp] theorem e1d {b o:Nat} {vs:List Value} {e:TypeId} {cs:List Value}:wr G b o vs (.row false e cs)=if o + vs.length≤cs.length then some (G.setIfInBounds b (.row false e (b0v cs o vs))) else none:=nr rfl
theorem y0U {b o n:Nat} {x:Value} (hf:fl≤b) (hl:(a0W x).length=n) (hp:(a0W x).all a0F=true) :
  e0N fl G n (.pointer (some ⟨b,o,none⟩)) x=wr G b o (a0W x) (G.blk b):=by
 simp only [e0N]
 rw [f1K (by simp [hl])]
 unfold a0f.write? wr
 split
 ·rename_i h;simp only [h];split <;> simp_all
 ·rename_i h;split <;> simp_all
theorem n0h {b o n:Nat} {e:TypeId} {cs:List Value} {x:Value} (h:G.blk b=.row false e cs) (hf:fl≤b) (hl:(a0W x).length=n) (ho:o + n≤cs.length) (hp:(a0W x).all a0F=true) :
  e0N fl G n (.pointer (some ⟨b,o,none⟩)) x=some (G.setIfInBounds b (.row false e (b0v cs o (a0W x)))):=by
 simp only [e0N]
 rw [f1K (by simp [hl])]
 unfold a0f.write?
 simp only [h]
 rw [f1N ⟨hf,by omega,hp⟩]
theorem a0Q {x:Int} (h1:-9223372036854775808≤x) (h2:x < 9223372036854775808):IntKind.i64.wrap x=x:=by
 show (if (true && decide (x % (2 ^ 64:Int) ≥ (2 ^ 63:Int)))=true then x % (2 ^ 64:Int) - (2 ^ 64:Int) else x % (2 ^ 64:Int))=x
 rw [show (2 ^ 64:Int)=18446744073709551616 from rfl,show (2 ^ 63:Int)=9223372036854775808 from rfl]
 simp only [Bool.true_and,g1T]
 split <;> omega
theorem a0x {x:Int}:IntKind.u64.wrap x=x % 18446744073709551616:=by
 simp [IntKind.wrap,IntKind.bits,IntKind.signed]
theorem e0O {x:Int}:IntKind.u32.wrap x=x % 4294967296:=by
 simp [IntKind.wrap,IntKind.bits,IntKind.signed]
def y0R (H:a0f) (t:b0c) (rs:List SRes) (P:Value→Prop):Prop:=∃ vs,e0y H t rs=some vs∧P (d0h vs)
theorem L0f {a:Nat} {P:Value→Prop}:y0R H t [.tmp a] P=P (get t a):=by simp [y0R,e0y,r0f,d0h]
theorem J0e {a n:Nat} {g:Bool} {P:Value→Prop}:y0R H t [.cell a g n] P=oo (b0y H g n (get t a)) P:=by
 unfold y0R;simp only [e0y,r0f];cases b0y H g n (get t a) <;> simp [d0h]
theorem L0g {r1 r2:SRes} {P:Value→Prop}:y0R H t [r1,r2] P=oo (r0f H t r1) fun a=>oo (r0f H t r2) fun b=>P (.tuple #[a,b]):=by
 unfold y0R;simp only [e0y];cases r0f H t r1 <;> cases r0f H t r2 <;> simp [d0h]
theorem y0S {r1 r2 r3:SRes} {P:Value→Prop}:y0R H t [r1,r2,r3] P=oo (r0f H t r1) fun a=>oo (r0f H t r2) fun b=>oo (r0f H t r3) fun c=>P (.tuple #[a,b,c]):=by
 unfold y0R;simp only [e0y];cases r0f H t r1 <;> cases r0f H t r2 <;> cases r0f H t r3 <;> simp [d0h]
theorem L0e {a:Nat}:r0f H t (.tmp a)=some (get t a):=nr rfl
theorem J0d {a n:Nat} {g:Bool}:r0f H t (.cell a g n)=b0y H g n (get t a):=nr rfl
def X0g (P:b0c→a0f→Prop):d0R
 | .exit _,_,_=>False
 | .normal,t,H=>P t H
 | .ret,t,H=>P t H
@[simp] theorem T0y {P:b0c→a0f→Prop}:X0g P .normal t H=P t H:=nr rfl
@[simp] theorem Z0C {P:b0c→a0f→Prop}:X0g P .ret t H=P t H:=nr rfl
theorem a0i {f:FuncId} {args:List Value} {sf:v0o} (hc:E.code f=some sf) (hf:fl≤H.size) (hl:args.length=sf.np:=by rfl) (hnt:args.length≤sf.nt:=by exact of_decide_eq_true rfl)
  (h:∀ ρ:Nat→Value,(∀ i,ρ i=args.getD i undef)→W E H.size sf.body (T sf.nt ρ) H (X0g (fun t' H'=>y0R H' t' sf.res fun v=>Ext H H'→K v H')) R) :
  a0U E fl f args H (fun v H'=>K v H'∧Ext H H') R:=by
 have h1:=(p0r (K:=fun v H'=>Ext H H'→K v H') hc hl hnt (fun t h1 h2=>by
  have h3:=h (get t) h2
  rw [← J0K h1] at h3
  refine h3.mono fun e t' H' hq=>?_
  cases e with
  | exit i=>exact g1g hq id
  | normal=>exact ⟨trivial,hq⟩
  | ret=>exact ⟨trivial,hq⟩)).keep (f1I _)
 exact (h1.mono fun v H' hh=>⟨hh.1 hh.2.ext,hh.2.ext⟩).floor hf
end
section
open Go
section
variable {k:IntKind} {a b:Int} {tag:Nat}
@[simp] theorem J0U:d0a tag .add (.int k a) (.int k b)=some (.int k (k.wrap (a + b))):=by unfold d0a;simp
@[simp] theorem Z0x:d0a tag .sub (.int k a) (.int k b)=some (.int k (k.wrap (a - b))):=by unfold d0a;simp
@[simp] theorem Z0v:d0a tag .mul (.int k a) (.int k b)=some (.int k (k.wrap (a * b))):=by unfold d0a;simp
theorem v0w (h:b ≠ 0):d0a tag .quo (.int k a) (.int k b)=some (.int k (k.wrap (a.tdiv b))):=by unfold d0a;simp [h]
theorem J0X (h:b ≠ 0):d0a tag .rem (.int k a) (.int k b)=some (.int k (a.tmod b)):=by unfold d0a;simp [h]
@[simp] theorem J0V:d0a tag .and (.int k a) (.int k b)=some (.int k (k.wrap (BitVec.ofInt k.bits a &&& BitVec.ofInt k.bits b).toNat)):=by unfold d0a;simp
@[simp] theorem j0S:d0a tag .or (.int k a) (.int k b)=some (.int k (k.wrap (BitVec.ofInt k.bits a ||| BitVec.ofInt k.bits b).toNat)):=by unfold d0a;simp
@[simp] theorem Z0r:d0a tag .eql (.int k a) (.int k b)=some (.bool (a == b)):=by unfold d0a;simp
@[simp] theorem Z0w:d0a tag .neq (.int k a) (.int k b)=some (.bool (a != b)):=by unfold d0a;simp
@[simp] theorem J0W:d0a tag .lss (.int k a) (.int k b)=some (.bool (decide (a < b))):=by unfold d0a;simp
@[simp] theorem Z0u:d0a tag .leq (.int k a) (.int k b)=some (.bool (decide (a≤b))):=by unfold d0a;simp
@[simp] theorem Z0t:d0a tag .gtr (.int k a) (.int k b)=some (.bool (decide (a > b))):=by unfold d0a;simp
@[simp] theorem Z0s:d0a tag .geq (.int k a) (.int k b)=some (.bool (decide (a ≥ b))):=by unfold d0a;simp
@[simp] theorem W0F {x y:Bool}:d0a 1 .eql (.bool x) (.bool y)=some (.bool (x == y)):=by unfold d0a;simp
@[simp] theorem W0H {x y:Bool}:d0a 1 .neq (.bool x) (.bool y)=some (.bool (x != y)):=by unfold d0a;simp
@[simp] theorem W0G {x:Option Addr} {n c n2 c2:Nat}:d0a 2 .eql (.slice x n c) (.slice none n2 c2)=some (.bool x.isNone):=nr rfl
@[simp] theorem W0I {x:Option Addr} {n c n2 c2:Nat}:d0a 2 .neq (.slice x n c) (.slice none n2 c2)=some (.bool x.isSome):=nr rfl
theorem v0x {k':IntKind} (h:0≤b):d0a tag .shl (.int k a) (.int k' b)=some (.int k (k.wrap (a * 2 ^ (min b.toNat k.bits)))):=by unfold d0a;simp [h]
theorem l0n {k':IntKind} (h:0≤b):d0a tag .shr (.int k a) (.int k' b)=some (.int k (a.fdiv (2 ^ (min b.toNat k.bits)))):=by unfold d0a;simp [h]
theorem K0p {n m:Nat}:((n:Int).fdiv (m:Int))=((n / m:Nat):Int):=by
 rw [Int.fdiv_eq_ediv_of_nonneg _ (by omega)];rfl
@[simp] theorem f1D {n:Nat} {k':IntKind}:d0a tag .shr (.int .u64 (n:Int)) (.int k' 32)=some (.int .u64 ((n / 4294967296:Nat):Int)):=by
 rw [l0n (by omega)];exact congrArg (fun x=>some (Value.int .u64 x)) (K0p (n:=n) (m:=4294967296))
@[simp] theorem f1E {n:Nat} {k':IntKind}:d0a tag .shr (.int .u64 (n:Int)) (.int k' 63)=some (.int .u64 ((n / 9223372036854775808:Nat):Int)):=by
 rw [l0n (by omega)];exact congrArg (fun x=>some (Value.int .u64 x)) (K0p (n:=n) (m:=9223372036854775808))
@[simp] theorem d1K:unA .neg (.int k a)=some (.int k (k.wrap (0 - a))):=nr rfl
@[simp] theorem d1L {x:Bool}:unA .not (.bool x)=some (.bool !x):=nr rfl
end
@[simp] theorem K0c {a b:Nat}:((a:Int) == (b:Int))=(a == b):=by
 rw [i1y,beq_iff_eq,beq_iff_eq];omega
@[simp] theorem Z0A {a b:Nat}:((a:Int) != (b:Int))=(a != b):=by simp only [bne,K0c]
@[simp] theorem z0y {a:Nat}:((a:Int) == 0)=(a == 0):=by
 rw [i1y,beq_iff_eq,beq_iff_eq];omega
@[simp] theorem W0Q {a:Nat}:((a:Int) != 0)=(a != 0):=by simp only [bne,z0y]
@[simp] theorem W0R {a:Array Value}:a0W (.agg a)=a.toList:=nr rfl
@[simp] theorem W0S {k:IntKind} {n:Int}:a0W (.int k n)=[.int k n]:=nr rfl
@[simp] theorem V0y {b:Bool}:a0W (.bool b)=[.bool b]:=nr rfl
@[simp] theorem T0p {a:Option Addr} {n c:Nat}:a0W (.slice a n c)=[.slice a n c]:=nr rfl
@[simp] theorem W0T {a:Option Addr}:a0W (.pointer a)=[.pointer a]:=nr rfl
@[simp] theorem X0Y {k:IntKind} {n:Int}:a0F (.int k n)=true:=nr rfl
@[simp] theorem W0b {b:Bool}:a0F (.bool b)=true:=nr rfl
@[simp] theorem U0g {a:Option Addr} {n c:Nat}:a0F (.slice a n c)=true:=nr rfl
@[simp] theorem X0Z {a:Option Addr}:a0F (.pointer a)=true:=nr rfl
@[simp] theorem Z0z {d:Nat}:bnd d none=some d:=nr rfl
@[simp] theorem T0m {d n:Nat} {k:IntKind}:bnd d (some (.int k (n:Int)))=some n:=by simp [bnd]
@[simp] theorem e1j {n:Nat}:n + 1 + 1=n + 2:=by omega
@[simp] theorem e1k {n:Nat}:n + 2 + 1=n + 3:=by omega
@[simp] theorem e1l {n:Nat}:n + 3 + 1=n + 4:=by omega
@[simp] theorem e1m {n:Nat}:n + 4 + 1=n + 5:=by omega
@[simp] theorem e1n {n:Nat}:n + 5 + 1=n + 6:=by omega
@[simp] theorem b1j {n:Nat}:n + 1 + 2=n + 3:=by omega
@[simp] theorem b1k {n:Nat}:n + 1 + 3=n + 4:=by omega
@[simp] theorem b1l {n:Nat}:n + 1 + 4=n + 5:=by omega
@[simp] theorem b1m {n:Nat}:n + 1 + 5=n + 6:=by omega
@[simp] theorem b1n {n:Nat}:n + 1 + 6=n + 7:=by omega
@[simp] theorem b1o {n:Nat}:n + 2 + 2=n + 4:=by omega
@[simp] theorem b1p {n:Nat}:n + 2 + 3=n + 5:=by omega
@[simp] theorem b1q {n:Nat}:n + 2 + 4=n + 6:=by omega
@[simp] theorem b1r {n:Nat}:n + 2 + 5=n + 7:=by omega
@[simp] theorem b1s {n:Nat}:n + 2 + 6=n + 8:=by omega
@[simp] theorem b1t {n:Nat}:n + 3 + 2=n + 5:=by omega
@[simp] theorem b1u {n:Nat}:n + 3 + 3=n + 6:=by omega
@[simp] theorem b1v {n:Nat}:n + 3 + 4=n + 7:=by omega
@[simp] theorem b1w {n:Nat}:n + 3 + 5=n + 8:=by omega
@[simp] theorem b1x {n:Nat}:n + 3 + 6=n + 9:=by omega
@[simp] theorem b1y {n:Nat}:n + 4 + 2=n + 6:=by omega
@[simp] theorem b1z {n:Nat}:n + 4 + 3=n + 7:=by omega
@[simp] theorem b1A {n:Nat}:n + 4 + 4=n + 8:=by omega
@[simp] theorem b1B {n:Nat}:n + 4 + 5=n + 9:=by omega
@[simp] theorem b1C {n:Nat}:n + 4 + 6=n + 10:=by omega
@[simp] theorem b1D {n:Nat}:n + 5 + 2=n + 7:=by omega
@[simp] theorem b1E {n:Nat}:n + 5 + 3=n + 8:=by omega
@[simp] theorem b1F {n:Nat}:n + 5 + 4=n + 9:=by omega
@[simp] theorem b1G {n:Nat}:n + 5 + 5=n + 10:=by omega
@[simp] theorem b1H {n:Nat}:n + 5 + 6=n + 11:=by omega
@[simp] theorem b1I {n:Nat}:n + 6 + 1=n + 7:=by omega
@[simp] theorem b1J {n:Nat}:n + 6 + 2=n + 8:=by omega
@[simp] theorem b1K {n:Nat}:n + 6 + 3=n + 9:=by omega
@[simp] theorem b1L {n:Nat}:n + 6 + 4=n + 10:=by omega
@[simp] theorem b1M {n:Nat}:n + 6 + 5=n + 11:=by omega
@[simp] theorem b1N {n:Nat}:n + 6 + 6=n + 12:=by omega
def y0Y (w:Bool):Value→Bool
 | .bool b=>b == w
 | _=>false
@[simp] theorem W0d {w b:Bool}:y0Y w (.bool b)=(b == w):=nr rfl
@[simp ↓] theorem f1G {E:Env} {fl:Nat} {t:b0c} {H:a0f} {R:a0E} {d:Option Nat} {op:SOp} {r:List a0L} {Z:b0c→a0f→Prop} {j:Nat} {w:Bool} :
  WR E fl (⟨d,some (j,w),op⟩ :: r) t H Z R=if y0Y w (get t j)=true then WS E fl t H op (fun v H'=>WR E fl r (put t d v) H' Z R) R else WR E fl r (put t d undef) H Z R:=by
 have h:b0g t (some (j,w))=y0Y w (get t j):=by
  simp only [b0g]
  generalize get t j=v
  cases v <;> rfl
 show (if b0g t (some (j,w))=true then _ else _)=_
 rw [h]
attribute [simp ↓] J0R T0c z0q b1h T0a W0x b1e W0v b1d W0w J0Q T0b J0O s0Y W0z b1g J0N W0s W0y b1f J0S W0r S0Z z0p l0B
attribute [simp ↓] v0t T0i T0h W0C T0g J0T W0B
attribute [simp] L0f J0e L0g y0S L0e J0d y0U a0B b0h
attribute [simp] U0h X0K V0q
attribute [simp] a0D d0Y r0P o0c Ext.refl Ext.push Ext.set g0q b0C f0n b0v
attribute [simp low] a0K
attribute [congr] J0M x0y T0d J0P K0D
def n0J (i:Nat) (A M:b0c→a0f→Prop) (Q:d0R):d0R
 | .normal,t,H=>A t H
 | .exit j,t,H=>if j=i then M t H else Q (.exit j) t H
 | .ret,t,H=>Q .ret t H
section
variable {E:Env} {fl:Nat} {t:b0c} {H:a0f} {Q:d0R} {R:a0E}
@[simp] theorem M0Z {i:Nat} {A M:b0c→a0f→Prop}:n0J i A M Q .normal t H=A t H:=nr rfl
@[simp] theorem V0W {i j:Nat} {A M:b0c→a0f→Prop}:n0J i A M Q (.exit j) t H=if j=i then M t H else Q (.exit j) t H:=nr rfl
@[simp] theorem X0M {i:Nat} {A M:b0c→a0f→Prop}:n0J i A M Q .ret t H=Q .ret t H:=nr rfl
theorem W0A {a:SCode} {Z:b0c→a0f→Prop} (M:b0c→a0f→Prop) (h:W E fl a t H (h0Z M Q) R) (hz:∀ t H,M t H→Z t H):W E fl a t H (h0Z Z Q) R:=by
 refine h.mono fun e t' H' hq=>?_
 cases e with
 | normal=>exact hz _ _ hq
 | exit i=>exact hq
 | ret=>exact hq
theorem b0Z {c:SCode} {i:Nat} {Z:b0c→a0f→Prop} (I:Nat→b0c→a0f→Prop) (M:b0c→a0f→Prop) (k:Nat) (hI:I k t H)
  (step:∀ k t H,I k t H→W E fl c t H (n0J i (fun t' H'=>∃ k',k' < k∧I k' t' H') M Q) R)
  (rest:∀ t H,M t H→Z t H):W E fl (.loop c) t H (e0H i (h0Z Z Q)) R:=by
 refine M0Q I (fun k t H h=>(step k t H h).mono fun e t' H' hq=>?_) k hI
 cases e with
 | normal=>exact hq
 | ret=>exact hq
 | exit j =>
  simp only [n0J] at hq
  simp only [h0Z,e0H]
  split
  ·rename_i hj;rw [f1N hj] at hq;exact rest _ _ hq
  ·rename_i hj;rw [f1K hj] at hq;exact hq
end
end
section
open Go
variable {fl:Nat} {H G:a0f} {e e2 sz n m bytes:Nat} {s x:Value} {cs new:List Value}
def slB:Value→Option Nat
 | .slice (some p) _ _=>some p.block
 | _=>none
def Own (fl:Nat) (H:a0f) (e sz:Nat) (v:Value) (n:Nat) (cs:List Value):Prop :=
 cs.length=n * sz∧((v=.slice none 0 0∧n=0) ∨ ∃ b cap,v=.slice (some ⟨b,0,none⟩) n cap∧H.blk b=.row false e cs∧fl≤b)
theorem Own.nil:Own fl H e sz (.slice none 0 0) 0 []:=⟨by simp,.inl ⟨rfl,rfl⟩⟩
theorem Own.mk {b cap:Nat} (hb:H.blk b=.row false e cs) (hl:cs.length=n * sz) (hf:fl≤b):Own fl H e sz (.slice (some ⟨b,0,none⟩) n cap) n cs:=⟨hl,.inr ⟨b,cap,rfl,hb,hf⟩⟩
theorem Own.sl (h:Own fl H e sz s n cs):Sl H e sz s n cs:=by
 obtain ⟨hl,h | ⟨b,cap,rfl,hb,hf⟩⟩:=h
 ·exact ⟨hl,.inl h⟩
 ·exact ⟨hl,.inr ⟨b,0,cap,false,cs,rfl,hb,by omega,by rw [h1o,← hl,g1d]⟩⟩
theorem Own.mono (h:Own fl H e sz s n cs) (hx:Ext H G):Own fl G e sz s n cs:=by
 obtain ⟨hl,h | ⟨b,cap,rfl,hb,hf⟩⟩:=h
 ·exact ⟨hl,.inl h⟩
 ·exact ⟨hl,.inr ⟨b,cap,rfl,hx.blk hb,hf⟩⟩
def e0l (o:Option Nat) (H G:a0f):Prop:=H.size≤G.size∧∀ b,b < H.size→o ≠ some b→G.blk b=H.blk b
theorem Ext.extB {o:Option Nat} (h:Ext H G):e0l o H G:=⟨h.1,fun b hb _=>h.2 b hb⟩
theorem j0R (ho:Own fl G e sz s n cs) (hx:Sl G e2 sz x m new) (hp:new.all a0F=true) (hn:n + m≤1073741824) (hb:bytes≤1024) (hs:0 < sz) (hfl:fl≤G.size) :
  ∃ v' G',j0M fl G e sz bytes s x=some (v',G')∧Own fl G' e sz v' (n + m) (cs ++ new)∧e0l (slB s) G G'∧(∀ H0,H0.size≤fl→Ext H0 G→Ext H0 G'):=by
 obtain ⟨hxl,hx⟩:=hx
 have hol:=ho.1
 by_cases hm:m=0
 ·subst hm
  have hnew:new=[]:=g1p.1 (by omega)
  subst hnew
  refine ⟨s,G,?_,by simpa using ho,(Ext.refl G).extB,fun _ _ h=>h⟩
  rcases hx with ⟨rfl,_⟩ | ⟨b,off,cap,ro,cells,rfl,_⟩ <;> rcases ho.2 with ⟨rfl,rfl⟩ | ⟨b',cap',rfl,_⟩ <;> simp [j0M]
 ·rcases hx with ⟨_,h0⟩ | ⟨b,off,cap,ro,cells,rfl,hbk,ho1,ho2⟩
  ·exact g1g h0 hm
  have hc:=h0v hbk ho1
  rw [← ho2] at hc
  rcases ho.2 with ⟨rfl,rfl⟩ | ⟨b',cap',rfl,hb',hf'⟩
  ·have hcs:cs=[]:=g1p.1 (by omega)
   subst hcs
   refine ⟨.slice (some ⟨G.size,0,none⟩) m unk,G.push (.row false e new),?_,?_,(Ext.push (Ext.refl G)).extB,fun _ _ h=>h.push⟩
   ·unfold j0M
    simp only
    rw [f1K hm,f1N ⟨by omega,hb,hs⟩]
    simp only [hc,hp,Bool.true_eq_false,g1L]
    rw [f1N ⟨by trivial,by trivial⟩]
   ·rw [g1v];exact Own.mk a0D (by simpa using hxl) hfl
  ·have hb'l:=a0l hb'
   have hc2:G.cells? b' 0 (n * sz)=some cs:=by
    rw [h0v hb' (by omega),h1o,← hol,g1d]
   by_cases hcap:cap' ≠ unk∧cap' < n + m
   ·refine ⟨.slice (some ⟨G.size,0,none⟩) (n + m) unk,G.push (.row false e (cs ++ new)),?_,?_,(Ext.push (Ext.refl G)).extB,fun _ _ h=>h.push⟩
    ·unfold j0M
     simp only
     rw [f1K hm,f1N ⟨by omega,hb,hs⟩]
     simp only [hc,hp,Bool.true_eq_false,g1L,hc2]
     by_cases h00:n=0∧cap' = 0
     ·rw [f1N h00]
      have hcs:cs=[]:=g1p.1 (by rw [hol,h00.1];simp)
      rw [hcs,h00.1];simp
     ·rw [f1K h00,f1N hcap]
    ·exact Own.mk a0D (by rw [g1n,hol,hxl,g1e]) hfl
   ·refine ⟨.slice (some ⟨G.size,0,none⟩) (n + m) unk,(G.setIfInBounds b' .dead).push (.row false e (cs ++ new)),?_,?_,?_,?_⟩
    ·unfold j0M
     simp only
     rw [f1K hm,f1N ⟨by omega,hb,hs⟩]
     simp only [hc,hp,Bool.true_eq_false,g1L,hc2]
     rw [f1K (fun h00:n=0∧cap' = 0=>hcap ⟨by rw [h00.2];decide,by omega⟩),f1K hcap]
     simp only [hb']
     rw [f1N ⟨trivial,hf'⟩]
    ·exact Own.mk (by rw [a0K];simp) (by rw [g1n,hol,hxl,g1e]) hfl
    ·refine ⟨by simp,fun c hc hne=>?_⟩
     have:b' ≠ c:=fun h=>hne (by simp [slB,h])
     rw [d0Y (by simpa using hc),b0h this]
    ·intro H0 h1 h2
     exact (h2.set (by omega)).push
theorem d0X {c:Nat} (ho:Own fl G e sz s n cs) (hl:new.length=sz) (hp:new.all a0F=true) (hn:n < 1073741824) (hb:bytes≤1024) (hs:0 < sz) (hfl:fl≤G.size) :
  ∃ v' G',j0M fl (G.push (.row false e2 new)) e sz bytes s (.slice (some ⟨G.size,0,none⟩) 1 c)=some (v',G')∧Own fl G' e sz v' (n + 1) (cs ++ new)∧e0l (slB s) G G'∧(∀ H0,H0.size≤fl→Ext H0 G→Ext H0 G'):=by
 have hx:Sl (G.push (.row false e2 new)) e2 sz (.slice (some ⟨G.size,0,none⟩) 1 c) 1 new:=(Own.mk (fl:=0) a0D (by omega) (g1I _)).sl
 obtain ⟨v',G',h1,h2,h3,h4⟩:=j0R (ho.mono (Ext.push (Ext.refl G))) hx hp (by omega) hb hs (bytes:=bytes) (by simp;omega)
 refine ⟨v',G',h1,h2,⟨?_,fun b hb hne=>?_⟩,fun H0 k1 k2=>h4 H0 k1 k2.push⟩
 ·have:=h3.1;simp at this;omega
 ·rw [h3.2 b (by simp;omega) hne,d0Y hb]
@[simp] theorem V0p {a b:List Nat}:c0b (a ++ b)=c0b a ++ c0b b:=by simp [c0b]
theorem k0j {l:List Nat}:(c0b l).all a0F=true:=by simp [c0b,a0F]
end
section
open Go
variable {fl:Nat} {H:a0f} {R:a0E} {v:Value} {i:Bool × List Nat}
def f0H (i:Bool × List Nat):Bool:=if i.2.length=0 then !i.1 else i.2.getD (i.2.length - 1) 0 != 0
theorem e0V (h:b0f H v i) (hf:fl≤H.size) (hn:i.2.length < 4611686018427387904) :
  a0U env fl r0x [v] H (fun r H'=>r=.bool (f0H i)∧Ext H H') R:=by
 obtain ⟨s,rfl,hs⟩:=h
 refine a0i c1t hf (h:=?_)
 intro ρ h0
 simp [L0F]
 simp [D0I,D0J,D0K,D0L,h0]
 simp (disch:=first | omega | assumption | (simp;done) | (repeat (first | assumption | exact Ext.refl _ | apply Ext.push | apply Ext.set))) [hs.slen,hs.iaZ,hs.load,a0Q]
 refine ⟨fun h=>by simp [f0H,h],fun h=>?_⟩
 have hl:=List.length_pos_iff.2 h
 simp (disch:=first | omega | assumption | (simp;done) | (repeat (first | assumption | exact Ext.refl _ | apply Ext.push | apply Ext.set))) [hs.iaZ,hs.load,f0H,h]
def e0I (i:Bool × List Nat):List Nat:=if f0H i then i.2 else []
theorem n0K (h:b0f H v i) (hf:fl≤H.size) (hn:i.2.length < 4611686018427387904) :
  a0U env fl f0E [v] H (fun r H'=>Lim H' r (e0I i)∧Ext H H') R:=by
 obtain ⟨s,rfl,hs⟩:=h
 refine a0i c1i hf (h:=?_)
 intro ρ h0
 simp [L0u]
 simp [C0J,C0K,C0L,C0M,h0]
 refine (e0V ⟨s,rfl,hs.mono (by simp)⟩ (by simp) hn).mono ?_
 rintro _ G ⟨rfl,hx⟩
 simp [hx.2,e0I]
 exact ⟨fun h _=>by simp [h,Lim.nil],fun h hx=>by simp [h,hs.mono hx]⟩
def X0Q (i:Bool × List Nat):Bool:=f0H i && i.1
theorem r0Z (h:b0f H v i) (hf:fl≤H.size) (hn:i.2.length < 4611686018427387904) :
  a0U env fl e0f [v] H (fun r H'=>r=.bool (X0Q i)∧Ext H H') R:=by
 obtain ⟨s,rfl,hs⟩:=h
 refine a0i c1j hf (h:=?_)
 intro ρ h0
 simp [L0v]
 simp [C0N,C0O,h0]
 refine (e0V ⟨s,rfl,hs.mono (by simp)⟩ (by simp) hn).mono ?_
 rintro _ G ⟨rfl,hx⟩
 cases hm:f0H i <;> simp [hx.2,X0Q,h0,hm]
theorem a0r {x:Nat} (hf:fl≤H.size) :
  a0U env fl f0F [.int .u64 x] H (fun r H'=>r=.int .u32 ((x % 4294967296:Nat):Int)∧Ext H H') R:=by
 refine a0i c1o hf (h:=?_)
 intro ρ h0
 simp [L0A]
 simp [D0n,D0o,h0,e0O]
def c0x (a b:Int):Int:=if a < b then -1 else if a > b then 1 else 0
theorem j0f {a b:Int} (hf:fl≤H.size) :
  a0U env fl z0S [.int .i64 a,.int .i64 b] H (fun r H'=>r=.int .i64 (c0x a b)∧Ext H H') R:=by
 refine a0i c1H hf (h:=?_)
 intro ρ h0
 simp [L0S]
 simp [F0c,F0d,F0e,F0f,F0g,F0h,h0,c0x]
 refine ⟨fun h1 h2=>?_,fun h1=>⟨fun h2=>?_,fun h2=>?_⟩⟩ <;> (repeat' split) <;> omega
theorem g0R {a b:Int} (hf:fl≤H.size) :
  a0U env fl z0T [.int .u32 a,.int .u32 b] H (fun r H'=>r=.int .i64 (c0x a b)∧Ext H H') R:=by
 refine a0i c1I hf (h:=?_)
 intro ρ h0
 simp [L0T]
 simp [F0i,F0j,F0k,F0l,F0m,F0n,h0,c0x]
 refine ⟨fun h1 h2=>?_,fun h1=>⟨fun h2=>?_,fun h2=>?_⟩⟩ <;> (repeat' split) <;> omega
theorem x0x {l:List Nat} (h:Lim H v l) (hf:fl≤H.size) (hn:l.length≤1073741824) :
  a0U env fl z0R [v] H (fun r H'=>Lim H' r l∧Ext H H') R:=by
 refine a0i c1G hf (h:=?_)
 intro ρ h0
 simp [L0R]
 simp [E0Y,E0Z,F0a,F0b,h0]
 have hd:=h
 obtain ⟨⟨hl,⟨rfl,h2⟩ | ⟨b,off,cap,ro,cells,rfl,hb,ho,hcs⟩⟩,hx⟩:=h
 ·have:l=[]:=g1p.1 h2
  subst this
  simp [Lim.nil]
 ·simp
  have ho2:Own H.size (H.push (.row false a0j [])) a0j 1 (.slice (some ⟨H.size,0,none⟩) 0 0) 0 []:=Own.mk a0D (by simp) (f1I _)
  obtain ⟨v',G',h1,h2,h3,h4⟩:=j0R (bytes:=4) ho2 ((hd.mono (Ext.push (Ext.refl H))).1) k0j (by omega) (by omega) (by omega) (by simp)
  simp only [g1v,h1u] at h2
  simp [h1]
  exact fun _=>⟨h2.sl,hx⟩
end
section
open Go
variable {fl:Nat} {H:a0f} {R:a0E} {v:Value} {i:Bool × List Nat} {l:List Nat}
def d0A (l:List Nat):List Nat:=(l.reverse.dropWhile (· == 0)).reverse
theorem s0N:d0A []=[]:=rfl
theorem n0i:d0A (l ++ [0])=d0A l:=by simp [d0A]
theorem k0x {x:Nat} (h:x ≠ 0):d0A (l ++ [x])=l ++ [x]:=by simp [d0A,h]
def mkI (neg:Bool) (l:List Nat):Bool × List Nat:=if d0A l=[] then (false,[]) else (neg,d0A l)
theorem e0p {n:Nat} (h:n < l.length):l.take (n + 1)=l.take n ++ [l.getD n 0]:=by
 rw [List.take_add_one,f1M h,f1H,f1M h];rfl
theorem p0O {b:Bool} (h:Lim H v l) (hf:fl≤H.size) (hn:l.length≤1073741824) :
  a0U env fl g0p [.bool b,v] H (fun r H'=>b0f H' r (mkI b l)∧Ext H H') R:=by
 refine a0i c1k hf (h:=?_)
 intro ρ h0
 simp [L0w]
 simp [C0P,C0Q,h0,h.slen]
 refine b0Z (fun k t G=>G=H.push (.row false a0a [.bool false,.slice none 0 0])∧t.length=29∧get t 0=.bool b∧get t 1=v∧get t 4=.pointer (some ⟨H.size,0,none⟩) ∧
   get t 5=.int .i64 k∧k≤l.length∧d0A (l.take k)=d0A l)
  (fun t G=>∃ k:Nat,G=H.push (.row false a0a [.bool false,.slice none 0 0])∧t.length=29∧get t 0=.bool b∧get t 1=v∧get t 4=.pointer (some ⟨H.size,0,none⟩) ∧
   get t 5=.int .i64 k∧k≤l.length∧d0A l=l.take k) l.length (by simp [h0]) ?_ ?_
 ·rintro k t G ⟨rfl,ht,g0,g1,g4,g5,hk,htr⟩
  obtain ⟨ρ,rfl⟩:=toT ht
  simp only [b0U,Nat.reduceLT] at g0 g1 g4 g5
  by_cases hk0:k=0
  ·subst hk0
   simp [t0Q,g0,g1,g4,g5]
   exact ⟨0,by simp,by simp,by rw [← htr];rfl⟩
  ·have hp:0 < k:=by omega
   have w1:IntKind.i64.wrap ((k:Int) - 1)=((k - 1:Nat):Int):=by rw [a0Q (by omega) (by omega)];omega
   simp [t0Q,C0R,g0,g1,g4,g5,hp,w1,h.ia (show k - 1 < l.length by omega),h.load (show k - 1 < l.length by omega)]
   have hk1:l.take k=l.take (k - 1) ++ [l.getD (k - 1) 0]:=by rw [← e0p (by omega)];congr 1;omega
   rw [f1H] at hk1
   refine ⟨fun hz=>⟨k - 1,by omega,rfl,by omega,?_⟩,fun hz=>⟨k,rfl,hk,?_⟩⟩
   ·rw [← htr,hk1,hz,n0i]
   ·rw [← htr,hk1,k0x hz]
 ·rintro t G ⟨k,rfl,ht,g0,g1,g4,g5,hk,htr⟩
  obtain ⟨ρ,rfl⟩:=toT ht
  simp only [b0U,Nat.reduceLT] at g0 g1 g4 g5
  obtain ⟨v',h1,h2⟩:=h.take hk (x:=none) rfl (y:=some (.int .i64 (k:Int))) (by simp)
  simp [C0S,C0T,C0U,g0,g1,g4,g5,h.elemOk,h1]
  refine ⟨fun hk0=>⟨.slice none 0 0,by simp [mkI,htr,hk0],by simp [mkI,htr,hk0,Lim.nil]⟩,fun hk0=>?_⟩
  refine (x0x (h2.mono (by simp)) (by simp) (by simp;omega)).mono ?_
  rintro r G ⟨hr,hx⟩
  have hlt:H.size < G.size:=by have:=hx.1;simp at this;omega
  simp [hr.cells,hr.plain,hx.2,hlt]
  have hl0:l ≠ []:=by rintro rfl;exact hk0 (by simpa using hk)
  refine fun _=>⟨r,?_,?_⟩
  ·simp [mkI,htr,hk0,hl0]
  ·have:(mkI b l).2=l.take k:=by simp [mkI,htr,hk0,hl0]
   rw [this]
   exact hr.setT (by rw [hx.2 _ (by simp)];exact a0D) (by decide)
end
section
open Go
def a0w:List Nat→Nat
 | []=>0
 | x :: l=>x + 4294967296 * a0w l
def b0s (l:List Nat):Prop:=∀ x ∈ l,x < 4294967296
theorem f0I:∀ (a b:List Nat),a0w (a ++ b)=a0w a + 4294967296 ^ a.length * a0w b
 | [],b=>by simp [a0w]
 | x :: a,b=>by
  simp only [i1p,a0w,f0I a b,g1O,g1f]
  rw [f1V,← f1Z,g1k (4294967296 ^ a.length) 4294967296,h1d]
theorem c0g (a:List Nat) (x:Nat):a0w (a ++ [x])=a0w a + 4294967296 ^ a.length * x:=by rw [f0I];simp [a0w]
theorem f0J:∀ (l:List Nat),b0s l→a0w l < 4294967296 ^ l.length
 | [],_=>by simp [a0w]
 | x :: l,h=>by
  have h1:=f0J l (fun y hy=>h y (h1S _ hy))
  have h2:=h x (i1F ..)
  simp only [a0w,g1O,g1f]
  omega
theorem p0b (x:Nat) (l:List Nat):d0A (x :: l)=if d0A l=[]∧x=0 then [] else x :: d0A l:=by
 unfold d0A
 rw [List.reverse_cons,List.dropWhile_append]
 by_cases h:(List.dropWhile (fun x=>x == 0) l.reverse).isEmpty=true
 ·rw [f1N h]
  have h':List.dropWhile (fun x=>x == 0) l.reverse=[]:=by simpa using h
  rw [h']
  by_cases hx:x=0 <;> simp [hx]
 ·rw [f1K h]
  have h':List.dropWhile (fun x=>x == 0) l.reverse ≠ []:=by simpa using h
  rw [f1K (by simp [h'])]
  simp
theorem j0d:∀ (l:List Nat),a0w l=0 ↔ d0A l=[]
 | []=>by simp [a0w,s0N]
 | x :: l=>by
  rw [p0b]
  have:=j0d l
  by_cases h:d0A l=[]∧x=0
  ·rw [f1N h];have:=this.2 h.1;simp [a0w,this,h.2]
  ·rw [f1K h]
   simp only [a0w,reduceCtorEq,iff_false]
   intro h0
   exact h ⟨this.1 (by omega),by omega⟩
def a0p (n:Nat):List Nat:=if h:n=0 then [] else (n % 4294967296) :: a0p (n / 4294967296)
termination_by n
decreasing_by omega
theorem a0Y:a0p 0=[]:=by unfold a0p;simp
theorem e0e {n:Nat} (h:n ≠ 0):a0p n=(n % 4294967296) :: a0p (n / 4294967296):=by rw [a0p];simp [h]
theorem b0S:∀ (l:List Nat),b0s l→d0A l=a0p (a0w l)
 | [],_=>by rw [s0N,a0w,a0Y]
 | x :: l,h=>by
  have ih:=b0S l (fun y hy=>h y (h1S _ hy))
  have hx:=h x (i1F ..)
  rw [p0b]
  by_cases hc:d0A l=[]∧x=0
  ·rw [f1N hc]
   have:=(j0d l).2 hc.1
   rw [a0w,this,hc.2,a0Y]
  ·rw [f1K hc]
   have hne:a0w (x :: l) ≠ 0:=by
    intro h0
    simp only [a0w] at h0
    exact hc ⟨(j0d l).1 (by omega),by omega⟩
   rw [e0e hne]
   have e1:a0w (x :: l) % 4294967296=x:=by simp only [a0w];omega
   have e2:a0w (x :: l) / 4294967296=a0w l:=by simp only [a0w];omega
   rw [e1,e2,ih]
theorem a0q (n:Nat):a0w (a0p n)=n:=by
 induction n using Nat.strongRecOn with
 | ind n ih =>
  by_cases h:n=0
  ·rw [h,a0Y];rfl
  ·rw [e0e h,a0w,ih _ (by omega)];omega
theorem b0q (n:Nat):b0s (a0p n):=by
 induction n using Nat.strongRecOn with
 | ind n ih =>
  by_cases h:n=0
  ·rw [h,a0Y];intro x hx;simp at hx
  ·rw [e0e h]
   intro x hx
   rcases h1O.1 hx with rfl | hx
   ·omega
   ·exact ih _ (by omega) x hx
theorem e0d {n k:Nat} (h:n < 4294967296 ^ k):(a0p n).length≤k:=by
 induction k generalizing n with
 | zero => have : n = 0 := by simpa using h
           rw [this,a0Y];simp
 | succ k ih =>
  by_cases h0:n=0
  ·rw [h0,a0Y];simp
  ·rw [e0e h0,g1O]
   have:n / 4294967296 < 4294967296 ^ k:=by
    rw [h1v (by omega)];rw [g1f] at h;exact h
   have:=ih this
   omega
theorem e0q (n:Nat):n < 4294967296 ^ (a0p n).length:=by
 have:=f0J (a0p n) (b0q n)
 rwa [a0q] at this
theorem b0I {n:Nat}:a0p n=[] ↔ n=0:=by
 constructor
 ·intro h;rw [← a0q n,h];rfl
 ·rintro rfl;exact a0Y
theorem l0L {n:Nat} (h:n ≠ 0):(a0p n).getD ((a0p n).length - 1) 0 ≠ 0:=by
 induction n using Nat.strongRecOn with
 | ind n ih =>
  rw [e0e h]
  by_cases h2:n / 4294967296=0
  ·rw [h2,a0Y];simp;omega
  ·have:=ih (n / 4294967296) (by omega) h2
   have hl:(a0p (n / 4294967296)).length ≠ 0:=fun h3=>h2 (b0I.1 (g1p.1 h3))
   rw [g1O,show (a0p (n / 4294967296)).length + 1 - 1=((a0p (n / 4294967296)).length - 1) + 1 by omega,List.getD_cons_succ]
   exact this
def a0z (i:Bool × List Nat):Int:=if f0H i then (if i.1 then -(a0w i.2:Int) else a0w i.2) else 0
def a0k (z:Int):Bool × List Nat:=(decide (z < 0),a0p z.natAbs)
theorem N0d {b:Bool} {l:List Nat} (h:b0s l):mkI b l=a0k (if b then -(a0w l:Int) else a0w l):=by
 unfold mkI a0k
 rw [b0S l h]
 by_cases h0:a0w l=0
 ·rw [h0,a0Y];cases b <;> simp [a0Y]
 ·rw [f1K (by rw [b0I];exact h0)]
  cases b <;> simp <;> omega
theorem r0U (z:Int):f0H (a0k z)=true:=by
 unfold f0H a0k
 by_cases h:z=0
 ·subst h;simp [a0Y]
 ·have h1:z.natAbs ≠ 0:=by omega
  have h2:(a0p z.natAbs).length ≠ 0:=fun h3=>h1 (b0I.1 (g1p.1 h3))
  simp only
  rw [f1K h2]
  simpa using l0L h1
theorem a0h (z:Int):a0z (a0k z)=z:=by
 unfold a0z
 rw [r0U]
 simp only [a0k,a0q,g1y]
 by_cases h:z < 0 <;> simp [h] <;> omega
theorem e0b:a0k 0=(false,[]):=by simp [a0k,a0Y]
end
section
open Go
set_option maxHeartbeats 4000000
variable {fl:Nat} {H:a0f} {R:a0E} {v w:Value} {a b:List Nat}
theorem Lim.ok {l:List Nat} (h:Lim H v l):b0s l:=h.2
theorem a0P {l:List Nat} {n:Nat} (h:n < l.length):a0w (l.take (n + 1))=a0w (l.take n) + 4294967296 ^ n * l.getD n 0:=by
 rw [e0p h,c0g,g1P,g1R (by omega)]
theorem p0P (ha:Lim H v a) (hb:Lim H w b) (hf:fl≤H.size) (hna:a.length < 1073741824) (hnb:b.length < 1073741824) :
  a0U env fl z0O [v,w] H (fun r H'=>(∃ o,Lim H' r o∧a0w o=a0w a + a0w b∧o.length=max a.length b.length + 1)∧Ext H H') R:=by
 refine a0i c1l hf (h:=?_)
 intro ρ h0
 simp only [L0x]
 refine h0H (l0F ?_)
 simp [-v0t,C0V,h0]
 refine h0H (W0A (fun t G=>G=H∧t.length=55∧∃ v w a' b',get t 0=v∧get t 1=w∧Lim H v a'∧Lim H w b'∧b'.length≤a'.length∧a'.length=max a.length b.length∧a0w a' + a0w b' = a0w a + a0w b) ?_ ?_)
 ·simp [C0W,C0X,h0,ha.slen,hb.slen]
  exact ⟨fun h=>⟨b,hb,a,ha,by omega,by omega,by omega⟩,fun h=>⟨a,ha,b,hb,by omega,by omega,by omega⟩⟩
 clear h0 ρ
 rintro t G ⟨rfl,ht,v,w,a',b',g0,g1,ha',hb',hle,hlen,hsum⟩
 obtain ⟨ρ,rfl⟩:=toT ht
 simp only [b0U,Nat.reduceLT] at g0 g1
 have hna':a'.length < 1073741824:=by omega
 rw [← hlen,← hsum]
 clear ha hb hna hnb hlen hsum a b
 have w1:IntKind.i64.wrap ((a'.length:Int) + 1)=(a'.length:Int) + 1:=a0Q (by omega) (by omega)
 have hm:=V0X (bytes:=4) (k:=.i64) (k':=.i64) (l:=0) (c:=(a'.length:Int) + 1) (by omega) (by omega) (by omega) (by omega)
 simp [C0Y,C0Z,D0a,g0,g1,ha'.slen,w1,hm]
 refine b0Z (fun k t G'=>∃ i c out s,i + k=a'.length∧t.length=55∧get t 1=w∧get t 5=s∧get t 6=.int .u64 ((c:Nat):Int)∧get t 20=v∧get t 21=.int .i64 a'.length∧get t 22=.int .i64 ((i:Nat):Int) ∧
   Ext G G'∧Own G.size G' a0j 1 s i (c0b out)∧b0s out∧out.length=i∧c≤1∧a0w out + 4294967296 ^ i * c=a0w (a'.take i) + a0w (b'.take i))
  (fun t G'=>∃ c out s,t.length=55∧get t 5=s∧get t 6=.int .u64 ((c:Nat):Int) ∧
   Ext G G'∧Own G.size G' a0j 1 s a'.length (c0b out)∧b0s out∧out.length=a'.length∧c≤1∧a0w out + 4294967296 ^ a'.length * c=a0w a' + a0w b') a'.length ?_ ?_ ?_
 ·exact ⟨0,0,[],.slice (some ⟨G.size,0,none⟩) 0 (a'.length + 1),by omega,by simp,by simp [g1],by simp,by simp,by simp,by simp,by simp,by simp,
   Own.mk (by simp [c0b]) rfl (f1I _),by intro x hx;simp at hx,rfl,by omega,by simp [a0w]⟩
 ·clear g0 g1 hm w1 ht ρ
  rintro k t G' ⟨i,c,out,s,hik,ht,g1,g5,g6,g20,g21,g22,hx,ho,hok,hol,hc,hs⟩
  obtain ⟨ρ,rfl⟩:=toT ht
  simp only [b0U,Nat.reduceLT] at g1 g5 g6 g20 g21 g22
  by_cases hi:i < a'.length
  ·have hla:=ha'.load hi hx
   have hA2:=a0P hi
   have hA3:a'.getD i 0 < 4294967296:=ha'.2 _ (by rw [f1H,f1M hi];exact f1Q hi)
   generalize a'.getD i 0=A at hla hA2 hA3
   have e1:IntKind.u64.wrap ((c:Int) + IntKind.u64.wrap (A:Int))=((c + A:Nat):Int):=by rw [a0x,a0x];omega
   have e9:IntKind.i64.wrap ((i:Int) + 1)=((i + 1:Nat):Int):=by rw [a0Q (by omega) (by omega)];omega
   by_cases hib:i < b'.length
   ·have hlb:=hb'.load hib hx
    have hB2:=a0P hib
    have hB3:b'.getD i 0 < 4294967296:=hb'.2 _ (by rw [f1H,f1M hib];exact f1Q hib)
    generalize b'.getD i 0=B at hlb hB2 hB3
    have e2:IntKind.u64.wrap (((c + A:Nat):Int) + IntKind.u64.wrap (B:Int))=((c + A + B:Nat):Int):=by rw [a0x,a0x];omega
    simp [-Int.natCast_add,q0s,t0R,t0S,t0T,q0o,q0p,q0q,q0r,g1,g5,g6,g20,g21,g22,hi,ha'.ia hi,hla,hb'.slen,e1,hib,hb'.ia hib,hlb,e2]
    generalize hc2:c + A + B=c2
    refine (a0r hx.1).mono ?_
    rintro _ G2 ⟨rfl,hx2⟩
    obtain ⟨s',G3,h1,h2,h3,h4⟩:=d0X (e2:=a0j) (new:=[.int .u32 ((c2 % 4294967296:Nat):Int)]) (c:=1) (bytes:=4) (ho.mono hx2) rfl rfl (by omega) (by omega) (by omega) (by have:=hx.1;have:=hx2.1;omega)
    simp [-Int.natCast_emod,-Int.natCast_add,h1,g1,g5,g6,g20,g21,g22,e9]
    refine ⟨k - 1,by omega,i + 1,by omega,c2 / 4294967296,rfl,rfl,h4 _ (f1I _) (hx.trans hx2),out ++ [c2 % 4294967296],by simpa [c0b] using h2,?_,by simp [hol],by omega,?_⟩
    ·intro x hx
     rcases g1o.1 hx with hx | hx
     ·exact hok x hx
     ·simp at hx;omega
    ·rw [c0g,hol,hA2,hB2,g1f]
     have e3:4294967296 ^ i * 4294967296 * (c2 / 4294967296)=4294967296 ^ i * (4294967296 * (c2 / 4294967296)):=f1Z ..
     have e4:4294967296 ^ i * (c2 % 4294967296) + 4294967296 ^ i * (4294967296 * (c2 / 4294967296))=4294967296 ^ i * c2:=by rw [← f1V,i1h]
     have e5:4294967296 ^ i * c2=4294967296 ^ i * c + 4294967296 ^ i * A + 4294967296 ^ i * B:=by rw [← hc2,f1V,f1V]
     omega
   ·have hB2:a0w (b'.take (i + 1))=a0w (b'.take i) + 4294967296 ^ i * 0:=by rw [f1W (by omega),f1W (by omega)];simp
    have hB3:(0:Nat) < 4294967296:=by omega
    have e2:c + A=c + A + 0:=rfl
    rw [e2] at e1
    generalize (0:Nat)=B at hB2 hB3 e1
    simp [-Int.natCast_add,q0s,t0R,t0S,t0T,q0o,q0p,q0q,q0r,g1,g5,g6,g20,g21,g22,hi,ha'.ia hi,hla,hb'.slen,e1,hib]
    generalize hc2:c + A + B=c2
    refine (a0r hx.1).mono ?_
    rintro _ G2 ⟨rfl,hx2⟩
    obtain ⟨s',G3,h1,h2,h3,h4⟩:=d0X (e2:=a0j) (new:=[.int .u32 ((c2 % 4294967296:Nat):Int)]) (c:=1) (bytes:=4) (ho.mono hx2) rfl rfl (by omega) (by omega) (by omega) (by have:=hx.1;have:=hx2.1;omega)
    simp [-Int.natCast_emod,-Int.natCast_add,h1,g1,g5,g6,g20,g21,g22,e9]
    refine ⟨k - 1,by omega,i + 1,by omega,c2 / 4294967296,rfl,rfl,h4 _ (f1I _) (hx.trans hx2),out ++ [c2 % 4294967296],by simpa [c0b] using h2,?_,by simp [hol],by omega,?_⟩
    ·intro x hx
     rcases g1o.1 hx with hx | hx
     ·exact hok x hx
     ·simp at hx;omega
    ·rw [c0g,hol,hA2,hB2,g1f]
     have e3:4294967296 ^ i * 4294967296 * (c2 / 4294967296)=4294967296 ^ i * (4294967296 * (c2 / 4294967296)):=f1Z ..
     have e4:4294967296 ^ i * (c2 % 4294967296) + 4294967296 ^ i * (4294967296 * (c2 / 4294967296))=4294967296 ^ i * c2:=by rw [← f1V,i1h]
     have e5:4294967296 ^ i * c2=4294967296 ^ i * c + 4294967296 ^ i * A + 4294967296 ^ i * B:=by rw [← hc2,f1V,f1V]
     omega
  ·simp [q0s,g1,g5,g6,g20,g21,g22,hi]
   have:i=a'.length:=by omega
   subst this
   refine ⟨c,rfl,hx,out,ho,hok,hol,hc,?_⟩
   rw [hs,f1W (f1I _),f1W hle]
 ·clear g0 g1 hm w1 ht ρ
  rintro t G' ⟨c,out,s,ht,g5,g6,hx,ho,hok,hol,hc,hs⟩
  obtain ⟨ρ,rfl⟩:=toT ht
  simp only [b0U,Nat.reduceLT] at g5 g6
  simp [w0q,g5,g6]
  refine (a0r hx.1).mono ?_
  rintro _ G2 ⟨rfl,hx2⟩
  obtain ⟨s',G3,h1,h2,h3,h4⟩:=d0X (e2:=a0j) (new:=[.int .u32 ((c % 4294967296:Nat):Int)]) (c:=1) (bytes:=4) (ho.mono hx2) rfl rfl (by omega) (by omega) (by omega) (by have:=hx.1;have:=hx2.1;omega)
  simp [-Int.natCast_emod,-Int.natCast_add,h1]
  refine fun _=>⟨out ++ [c % 4294967296],⟨by simpa [hol,c0b] using h2.sl,?_⟩,?_,by simp [hol]⟩
  ·intro x hx
   rcases g1o.1 hx with hx | hx
   ·exact hok x hx
   ·simp at hx;omega
  ·rw [c0g,hol,g1j (by omega)];exact hs
theorem i0g (ha:Lim H v a) (hb:Lim H w b) (hf:fl≤H.size) (hna:a.length < 1073741824) (hle:b.length≤a.length) (hnat:a0w b≤a0w a) :
  a0U env fl x0S [v,w] H (fun r H'=>(∃ o,Lim H' r o∧a0w o=a0w a - a0w b∧o.length=a.length)∧Ext H H') R:=by
 refine a0i c1n hf (h:=?_)
 intro ρ h0
 simp only [L0z]
 have hm:=V0X (bytes:=4) (k:=.i64) (k':=.i64) (l:=0) (c:=(a.length:Int)) (by omega) (by omega) (by omega) (by omega)
 simp [D0j,D0k,D0l,D0m,h0,ha.slen,hm]
 refine b0Z (fun k t G'=>∃ i c out s,i + k=a.length∧t.length=46∧get t 1=w∧get t 5=s∧get t 6=.int .u64 ((c:Nat):Int)∧get t 14=v∧get t 15=.int .i64 a.length∧get t 16=.int .i64 ((i:Nat):Int) ∧
   Ext H G'∧Own H.size G' a0j 1 s i (c0b out)∧b0s out∧out.length=i∧c≤1∧a0w out + a0w (b.take i)=a0w (a.take i) + 4294967296 ^ i * c)
  (fun t G'=>∃ c out s,t.length=46∧get t 5=s ∧
   Ext H G'∧Own H.size G' a0j 1 s a.length (c0b out)∧b0s out∧out.length=a.length∧c≤1∧a0w out + a0w b=a0w a + 4294967296 ^ a.length * c) a.length ?_ ?_ ?_
 ·exact ⟨0,0,[],.slice (some ⟨H.size,0,none⟩) 0 a.length,by omega,by simp,by simp [h0],by simp,by simp,by simp [h0],by simp,by simp,by simp,
   Own.mk (by simp [c0b]) rfl (f1I _),by intro x hx;simp at hx,rfl,by omega,by simp [a0w]⟩
 ·clear hm h0 ρ
  rintro k t G' ⟨i,c,out,s,hik,ht,g1,g5,g6,g14,g15,g16,hx,ho,hok,hol,hc,hs⟩
  obtain ⟨ρ,rfl⟩:=toT ht
  simp only [b0U,Nat.reduceLT] at g1 g5 g6 g14 g15 g16
  by_cases hi:i < a.length
  ·have hla:=ha.load hi hx
   have hA2:=a0P hi
   have hA3:a.getD i 0 < 4294967296:=ha.2 _ (by rw [f1H,f1M hi];exact f1Q hi)
   generalize a.getD i 0=A at hla hA2 hA3
   have e9:IntKind.i64.wrap ((i:Int) + 1)=((i + 1:Nat):Int):=by rw [a0Q (by omega) (by omega)];omega
   by_cases hib:i < b.length
   ·have hlb:=hb.load hib hx
    have hB2:=a0P hib
    have hB3:b.getD i 0 < 4294967296:=hb.2 _ (by rw [f1H,f1M hib];exact f1Q hib)
    generalize b.getD i 0=B at hlb hB2 hB3
    have e2:IntKind.u64.wrap ((c:Int) + IntKind.u64.wrap (B:Int))=((c + B:Nat):Int):=by rw [a0x,a0x];omega
    have e3:IntKind.u64.wrap (IntKind.u64.wrap (A:Int) - ((c + B:Nat):Int))=(((A + 18446744073709551616 - (c + B)) % 18446744073709551616:Nat):Int):=by rw [a0x,a0x];omega
    simp [-Int.natCast_add,-Int.natCast_emod,q0w,t0V,t0W,t0X,t0Y,t0Z,q0t,q0u,q0v,g1,g5,g6,g14,g15,g16,hi,ha.ia hi,hla,hb.slen,hib,hb.ia hib,hlb,e2,e3]
    generalize hD:(A + 18446744073709551616 - (c + B)) % 18446744073709551616=D
    refine (a0r hx.1).mono ?_
    rintro _ G2 ⟨rfl,hx2⟩
    obtain ⟨s',G3,h1,h2,h3,h4⟩:=d0X (e2:=a0j) (new:=[.int .u32 ((D % 4294967296:Nat):Int)]) (c:=1) (bytes:=4) (ho.mono hx2) rfl rfl (by omega) (by omega) (by omega) (by have:=hx.1;have:=hx2.1;omega)
    simp [-Int.natCast_emod,-Int.natCast_add,h1,g1,g5,g6,g14,g15,g16,e9]
    refine ⟨k - 1,by omega,i + 1,by omega,D / 9223372036854775808,rfl,rfl,h4 _ (f1I _) (hx.trans hx2),out ++ [D % 4294967296],by simpa [c0b] using h2,?_,by simp [hol],by omega,?_⟩
    ·intro x hx
     rcases g1o.1 hx with hx | hx
     ·exact hok x hx
     ·simp at hx;omega
    ·rw [c0g,hol,hA2,hB2,g1f]
     have e3:4294967296 ^ i * 4294967296 * (D / 9223372036854775808)=4294967296 ^ i * (4294967296 * (D / 9223372036854775808)):=f1Z ..
     have e4:D % 4294967296 + c + B=A + 4294967296 * (D / 9223372036854775808):=by omega
     have e5:4294967296 ^ i * (D % 4294967296) + 4294967296 ^ i * c + 4294967296 ^ i * B=4294967296 ^ i * A + 4294967296 ^ i * (4294967296 * (D / 9223372036854775808)):=by
      rw [← f1V,← f1V,← f1V,e4]
     omega
   ·have hB2:a0w (b.take (i + 1))=a0w (b.take i) + 4294967296 ^ i * 0:=by rw [f1W (by omega),f1W (by omega)];simp
    have hB3:(0:Nat) < 4294967296:=by omega
    have e3:IntKind.u64.wrap (IntKind.u64.wrap (A:Int) - (c:Int))=(((A + 18446744073709551616 - (c + 0)) % 18446744073709551616:Nat):Int):=by rw [a0x,a0x];omega
    generalize hB:(0:Nat)=B at hB2 hB3 e3
    simp [-Int.natCast_add,-Int.natCast_emod,q0w,t0V,t0W,t0X,t0Y,t0Z,q0t,q0u,q0v,g1,g5,g6,g14,g15,g16,hi,ha.ia hi,hla,hb.slen,hib,e3]
    generalize hD:(A + 18446744073709551616 - (c + B)) % 18446744073709551616=D
    refine (a0r hx.1).mono ?_
    rintro _ G2 ⟨rfl,hx2⟩
    obtain ⟨s',G3,h1,h2,h3,h4⟩:=d0X (e2:=a0j) (new:=[.int .u32 ((D % 4294967296:Nat):Int)]) (c:=1) (bytes:=4) (ho.mono hx2) rfl rfl (by omega) (by omega) (by omega) (by have:=hx.1;have:=hx2.1;omega)
    simp [-Int.natCast_emod,-Int.natCast_add,h1,g1,g5,g6,g14,g15,g16,e9]
    refine ⟨k - 1,by omega,i + 1,by omega,D / 9223372036854775808,rfl,rfl,h4 _ (f1I _) (hx.trans hx2),out ++ [D % 4294967296],by simpa [c0b] using h2,?_,by simp [hol],by omega,?_⟩
    ·intro x hx
     rcases g1o.1 hx with hx | hx
     ·exact hok x hx
     ·simp at hx;omega
    ·rw [c0g,hol,hA2,hB2,g1f]
     have e3:4294967296 ^ i * 4294967296 * (D / 9223372036854775808)=4294967296 ^ i * (4294967296 * (D / 9223372036854775808)):=f1Z ..
     have e4:D % 4294967296 + c + B=A + 4294967296 * (D / 9223372036854775808):=by omega
     have e5:4294967296 ^ i * (D % 4294967296) + 4294967296 ^ i * c + 4294967296 ^ i * B=4294967296 ^ i * A + 4294967296 ^ i * (4294967296 * (D / 9223372036854775808)):=by
      rw [← f1V,← f1V,← f1V,e4]
     omega
  ·simp [q0w,g1,g5,g6,g14,g15,g16,hi]
   have:i=a.length:=by omega
   subst this
   refine ⟨hx,c,out,ho,hok,hol,hc,?_⟩
   rw [f1W (f1I _),f1W hle] at hs
   exact hs
 ·clear hm h0 ρ
  rintro t G' ⟨c,out,s,ht,g5,hx,ho,hok,hol,hc,hs⟩
  obtain ⟨ρ,rfl⟩:=toT ht
  simp only [b0U,Nat.reduceLT] at g5
  simp [w0r,g5]
  refine fun _=>⟨out,⟨by simpa [hol] using ho.sl,hok⟩,?_,hol⟩
  have h2:=f0J out hok
  rw [hol] at h2
  have:c=0:=by
   refine Decidable.byContradiction fun hc0=>?_
   have:c=1:=by omega
   subst this
   omega
  subst this
  omega
def x0J (a b:List Nat):Int:=if a.length ≠ b.length then c0x a.length b.length else c0x (a0w a) (a0w b)
theorem c0d {x y:Nat}:c0x (x:Int) (y:Int)=if x < y then -1 else if y < x then 1 else 0:=by
 unfold c0x;(repeat' split) <;> omega
theorem r0X {i:Nat} (hab:a.length=b.length) (ha:b0s a) (hb:b0s b) (hi:i < a.length) (he:a.drop (i + 1)=b.drop (i + 1)) (hne:a.getD i 0 ≠ b.getD i 0) :
  c0x (a0w a:Int) (a0w b:Int)=c0x (a.getD i 0:Int) (b.getD i 0:Int):=by
 have h1:a0w a=a0w (a.take i) + 4294967296 ^ i * a.getD i 0 + 4294967296 ^ (i + 1) * a0w (a.drop (i + 1)):=by
  have:=f0I (a.take (i + 1)) (a.drop (i + 1))
  rw [i1f,g1P,g1R (by omega)] at this
  rw [this,a0P hi]
 have h2:a0w b=a0w (b.take i) + 4294967296 ^ i * b.getD i 0 + 4294967296 ^ (i + 1) * a0w (b.drop (i + 1)):=by
  have:=f0I (b.take (i + 1)) (b.drop (i + 1))
  rw [i1f,g1P,g1R (by omega)] at this
  rw [this,a0P (by omega)]
 have h3:=f0J (a.take i) (fun x hx=>ha x (h1A hx))
 have h4:=f0J (b.take i) (fun x hx=>hb x (h1A hx))
 rw [g1P,g1R (by omega)] at h3 h4
 rw [he] at h1
 generalize 4294967296 ^ (i + 1) * a0w (b.drop (i + 1))=Z at h1 h2
 generalize a.getD i 0=x at *
 generalize b.getD i 0=y at *
 generalize 4294967296 ^ i=P at *
 rw [c0d,c0d]
 by_cases hxy:x < y
 ·have:P * (x + 1)≤P * y:=g1l P hxy
  rw [f1V] at this
  rw [f1N (by omega),f1N hxy]
 ·have:P * (y + 1)≤P * x:=g1l P (by omega)
  rw [f1V] at this
  rw [f1K (by omega),f1N (by omega),f1K hxy,f1N (by omega)]
theorem e0X (ha:Lim H v a) (hb:Lim H w b) (hf:fl≤H.size) (hna:a.length < 4611686018427387904) :
  a0U env fl r0w [v,w] H (fun r H'=>r=.int .i64 (x0J a b)∧Ext H H') R:=by
 refine a0i c1m hf (h:=?_)
 intro ρ h0
 simp only [L0y]
 have w1:IntKind.i64.wrap ((a.length:Int) - 1)=(a.length:Int) - 1:=a0Q (by omega) (by omega)
 simp [D0b,D0c,D0d,D0e,h0,ha.slen,hb.slen,w1]
 refine ⟨fun h=>?_,fun hab=>?_⟩
 ·refine (j0f (f1I _)).mono ?_
  rintro _ G ⟨rfl,hx⟩
  simp [x0J,h]
 have hcl:x0J a b=c0x (a0w a) (a0w b):=by simp [x0J,hab]
 rw [hcl]
 refine b0Z (fun k t G'=>t.length=41∧get t 0=v∧get t 1=w∧get t 5=.int .i64 ((k:Int) - 1)∧G' = H∧k≤a.length∧a.drop k=b.drop k)
  (fun t G'=>t.length=41∧G' = H∧a=b) a.length (by simp [h0,hab]) ?_ ?_
 ·clear h0 ρ
  rintro k t G' ⟨ht,g0,g1,g5,rfl,hk,hd⟩
  obtain ⟨ρ,rfl⟩:=toT ht
  simp only [b0U,Nat.reduceLT] at g0 g1 g5
  by_cases hk0:k=0
  ·subst hk0
   simp [t0U,g0,g1,g5]
   simpa using hd
  ·have e0:(k:Int) - 1=((k - 1:Nat):Int):=by omega
   have hka:k - 1 < a.length:=by omega
   have hkb:k - 1 < b.length:=by omega
   have hla:=ha.load hka (Ext.refl _)
   have hlb:=hb.load hkb (Ext.refl _)
   have w2:IntKind.i64.wrap (((k - 1:Nat):Int) - 1)=((k - 1:Nat):Int) - 1:=a0Q (by omega) (by omega)
   rw [e0] at g5
   have hla':=ha.ia (k:=.i64) hka
   have hlb':=hb.ia (k:=.i64) hkb
   have hh:=r0X hab ha.ok hb.ok hka (by rw [show k - 1 + 1=k by omega];exact hd)
   generalize hA:a.getD (k - 1) 0=A at hla hh
   generalize hB:b.getD (k - 1) 0=B at hlb hh
   simp [t0U,g0,g1,g5]
   refine a0G ?_
   simp [D0f,g0,g1,g5,hla,hla',hlb,hlb']
   refine ⟨fun hne=>?_,fun heq=>?_⟩
   ·refine a0G ?_
    simp [D0g,g0,g1,g5,hla,hla',hlb,hlb']
    refine (g0R (f1I _)).mono ?_
    rintro _ G ⟨rfl,hx⟩
    simp [hh hne]
   ·simp [D0h,g0,g1,g5,w2]
    refine ⟨k - 1,by omega,rfl,by omega,?_⟩
    rw [g1E hka,g1E hkb,show k - 1 + 1=k by omega,hd]
    congr 1
    rw [f1H,f1M hka] at hA
    rw [f1H,f1M hkb] at hB
    simp at hA hB;omega
 ·clear h0 ρ
  rintro t G' ⟨ht,rfl,rfl⟩
  obtain ⟨ρ,rfl⟩:=toT ht
  simp [D0i,c0x]
end
section
open Go
variable {fl:Nat} {H:a0f} {R:a0E} {v:Value} {i:Bool × List Nat} {a b:List Nat}
theorem b0f.ok (h:b0f H v i):b0s i.2:=by obtain ⟨s,_,hs⟩:=h;exact hs.ok
theorem J0w {l:List Nat} (h:l.length=0 ∨ l.getD (l.length - 1) 0 ≠ 0):d0A l=l:=by
 rcases List.eq_nil_or_concat l with rfl | ⟨l',x,rfl⟩
 ·rfl
 ·have:x ≠ 0:=by
   rcases h with h | h
   ·simp at h
   ·simpa [f1H] using h
  rw [List.concat_eq_append];exact k0x this
theorem l0X (i:Bool × List Nat):d0A (e0I i)=e0I i:=by
 unfold e0I
 by_cases h:f0H i=true
 ·rw [f1N h]
  refine J0w ?_
  unfold f0H at h
  by_cases h0:i.2.length=0
  ·exact .inl h0
  ·rw [f1K h0] at h;exact .inr (by simpa using h)
 ·rw [f1K h];rfl
theorem A0t (h:b0s i.2):b0s (e0I i):=by
 unfold e0I;split
 ·exact h
 ·intro x hx;simp at hx
theorem M0L (i:Bool × List Nat):(a0z i).natAbs=a0w (e0I i):=by
 unfold a0z e0I
 by_cases h:f0H i=true
 ·rw [f1N h,f1N h];split <;> omega
 ·rw [f1K h,f1K h];rfl
theorem j0a (h:b0s i.2):e0I i=a0p (a0z i).natAbs:=by
 rw [M0L,← b0S _ (A0t h),l0X]
theorem A0B (i:Bool × List Nat):X0Q i=decide (a0z i < 0):=by
 unfold X0Q a0z
 by_cases h:f0H i=true
 ·rw [f1N h,h,Bool.true_and]
  by_cases hn:i.1=true
  ·have h0:a0w i.2 ≠ 0:=by
    intro h0
    have h1:=(j0d i.2).1 h0
    have h2:=l0X i
    unfold e0I at h2
    rw [f1N h,h1] at h2
    unfold f0H at h
    rw [← h2] at h
    simp [hn] at h
   rw [f1N hn,hn];simp;omega
  ·rw [f1K hn];simp [hn]
 ·rw [f1K h];simp [h]
theorem y0k (i:Bool × List Nat):(e0I i).length≤i.2.length:=by unfold e0I;split <;> simp
theorem a0v (h:b0s i.2):(a0p (a0z i).natAbs).length≤i.2.length:=by rw [← j0a h];exact y0k i
theorem a0X {m n:Nat} (h:m≤n):(a0p m).length≤(a0p n).length:=e0d (i1I h (e0q n))
theorem d0x (m n:Nat):x0J (a0p m) (a0p n)=c0x m n:=by
 unfold x0J
 rw [a0q,a0q]
 split
 ·rename_i h
  rw [c0d,c0d]
  by_cases hmn:m < n
  ·have:=a0X (i1g hmn)
   rw [f1N hmn,f1N (by omega)]
  ·have:=a0X (show n≤m by omega)
   have hne:m ≠ n:=fun h2=>h (by rw [h2])
   rw [f1K hmn,f1N (by omega:n < m),f1K (by omega),f1N (by omega)]
 ·rfl
theorem b0P (h:b0f H v i) (hf:fl≤H.size) (hn:i.2.length < 4611686018427387904) :
  a0U env fl f0E [v] H (fun r H'=>Lim H' r (a0p (a0z i).natAbs)∧Ext H H') R:=by
 rw [← j0a h.ok];exact n0K h hf hn
theorem b0B (h:b0f H v i) (hf:fl≤H.size) (hn:i.2.length < 4611686018427387904) :
  a0U env fl e0f [v] H (fun r H'=>r=.bool (decide (a0z i < 0))∧Ext H H') R:=by
 rw [← A0B];exact r0Z h hf hn
theorem c0n {l:List Nat} {b:Bool} (z:Int) (h:Lim H v l) (hf:fl≤H.size) (hn:l.length≤1073741824) (hz:(if b then -(a0w l:Int) else a0w l)=z) :
  a0U env fl g0p [.bool b,v] H (fun r H'=>b0f H' r (a0k z)∧Ext H H') R:=by
 rw [← hz,← N0d h.ok];exact p0O h hf hn
theorem b0f.setT (h:b0f H v i) {p:Nat} {ro:Bool} {e':TypeId} {cs':List Value} {r:Blk} (hb:H.blk p=.row ro e' cs') (hne:e' ≠ a0j):b0f (H.setIfInBounds p r) v i:=by
 obtain ⟨s,h1,h2⟩:=h;exact ⟨s,h1,h2.setT hb hne⟩
end
section
open Go
set_option maxHeartbeats 4000000
variable {fl:Nat} {H:a0f} {R:a0E} {v w:Value} {i j:Bool × List Nat}
theorem e0W (h:b0f H v i) (hf:fl≤H.size) (hn:i.2.length≤1073741824) :
  a0U env fl r0B [v] H (fun r H'=>b0f H' r (a0k (-a0z i))∧Ext H H') R:=by
 have hh:=h
 obtain ⟨s,rfl,hs⟩:=h
 refine a0i c1E hf (h:=?_)
 intro ρ h0
 simp [L0P,E0O,h0]
 generalize hG:Array.push (Array.push H _) _=G
 have hx:Ext H G:=by rw [← hG];simp
 have b0:a0f.blk G H.size=.row false a0a [.bool i.1,s]:=by rw [← hG];simp
 have b1:a0f.blk G (H.size + 1)=.row false a0a [.bool false,.slice none 0 0]:=by rw [← hG];simp
 have hz:H.size + 1 < G.size:=a0l b1
 refine a0G ?_
 simp [E0P,h0,b0,b1]
 refine (b0B (hh.mono hx) (by omega) (by omega)).mono ?_
 rintro _ G2 ⟨rfl,hx2⟩
 replace b0:=hx2.blk b0
 replace b1:=hx2.blk b1
 replace hx:=hx.trans hx2
 simp [h0,b0,b1]
 refine (b0P (hh.mono hx) hx.1 (by omega)).mono ?_
 rintro l G3 ⟨hl,hx3⟩
 replace b1:=hx3.blk b1
 replace hx:=hx.trans hx3
 try simp [h0]
 have:=a0v hh.ok
 refine (c0n (-a0z i) hl hx.1 (by omega) (by rw [a0q];simp;split <;> omega)).mono ?_
 rintro _ G4 ⟨⟨s',rfl,hs'⟩,hx4⟩
 replace b1:=hx4.blk b1
 have hz:=a0l b1
 simp [b1,hs'.cells,hs'.plain,hz]
 exact fun _=>⟨s',rfl,hs'.setT b1 (by decide)⟩
theorem e0T (h:b0f H v i) (k:b0f H w j) (hf:fl≤H.size) (hn:i.2.length < 536870912) (hm:j.2.length < 536870912) :
  a0U env fl J0G [v,w] H (fun r H'=>b0f H' r (a0k (a0z i + a0z j))∧Ext H H') R:=by
 have hh:=h
 have kk:=k
 obtain ⟨s,rfl,hs⟩:=h
 obtain ⟨u,rfl,hu⟩:=k
 refine a0i f1n hf (h:=?_)
 intro ρ h0
 simp [a1M,S0e,h0]
 generalize hG:Array.push (Array.push (Array.push H _) _) _=G
 have hx:Ext H G:=by rw [← hG];exact (Ext.refl H).push.push.push
 have b0:a0f.blk G H.size=.row false a0a [.bool i.1,s]:=by rw [← hG];simp
 have b1:a0f.blk G (H.size + 1)=.row false a0a [.bool j.1,u]:=by rw [← hG];simp
 have b2:a0f.blk G (H.size + 2)=.row false a0a [.bool false,.slice none 0 0]:=by rw [← hG];simp
 have hz:H.size + 1 < G.size:=a0l b1
 clear hG
 refine a0G ?_
 simp [S0f,h0,b0,b1]
 refine (b0P (hh.mono hx) (by omega) (by omega)).mono ?_
 rintro x G2 ⟨hl,hx2⟩
 replace b0:=hx2.blk b0
 replace b1:=hx2.blk b1
 replace b2:=hx2.blk b2
 replace hx:=hx.trans hx2
 try simp [h0,b0,b1]
 refine (b0P (kk.mono hx) hx.1 (by omega)).mono ?_
 rintro y G3 ⟨hl2,hx3⟩
 replace b0:=hx3.blk b0
 replace b1:=hx3.blk b1
 replace b2:=hx3.blk b2
 replace hx:=hx.trans hx3
 replace hl:=hl.mono hx3
 try simp [h0]
 refine a0G ?_
 simp [S0g,h0,b0,b1]
 refine (b0B (hh.mono hx) (by have:=hx.1;omega) (by omega)).mono ?_
 rintro _ G2 ⟨rfl,hx2⟩
 replace b0:=hx2.blk b0
 replace b1:=hx2.blk b1
 replace b2:=hx2.blk b2
 replace hx:=hx.trans hx2
 replace hl:=hl.mono hx2
 replace hl2:=hl2.mono hx2
 try simp [h0,b0,b1]
 refine (b0B (kk.mono hx) hx.1 (by omega)).mono ?_
 rintro _ G2 ⟨rfl,hx2⟩
 replace b0:=hx2.blk b0
 replace b1:=hx2.blk b1
 replace b2:=hx2.blk b2
 replace hx:=hx.trans hx2
 replace hl:=hl.mono hx2
 replace hl2:=hl2.mono hx2
 clear hs hu hz hx2
 have l1:=a0v hh.ok
 have l2:=a0v kk.ok
 simp [h0]
 refine ⟨fun hsame=>?_,fun hdiff=>?_⟩
 ·simp [S0h,h0,b0]
  refine (b0B (hh.mono hx) hx.1 (by omega)).mono ?_
  rintro _ G2 ⟨rfl,hx2⟩
  replace b0:=hx2.blk b0
  replace b1:=hx2.blk b1
  replace b2:=hx2.blk b2
  replace hx:=hx.trans hx2
  replace hl:=hl.mono hx2
  replace hl2:=hl2.mono hx2
  try simp [h0]
  refine (p0P hl hl2 hx.1 (by omega) (by omega)).mono ?_
  rintro r G2 ⟨⟨o,ho,hon,hol⟩,hx2⟩
  replace b0:=hx2.blk b0
  replace b1:=hx2.blk b1
  replace b2:=hx2.blk b2
  replace hx:=hx.trans hx2
  replace hl:=hl.mono hx2
  replace hl2:=hl2.mono hx2
  try simp [h0]
  rw [a0q,a0q] at hon
  refine (c0n (a0z i + a0z j) ho hx.1 (by omega) (by rw [hon];simp;split <;> omega)).mono ?_
  rintro _ G2 ⟨⟨s',rfl,hs'⟩,hx2⟩
  replace b0:=hx2.blk b0
  replace b1:=hx2.blk b1
  replace b2:=hx2.blk b2
  replace hx:=hx.trans hx2
  replace hl:=hl.mono hx2
  replace hl2:=hl2.mono hx2
  have hz:=a0l b2
  simp [b2,hs'.cells,hs'.plain,hz]
  exact fun _=>⟨s',rfl,hs'.setT b2 (by decide)⟩
 ·simp [S0i,h0]
  refine (e0X hl hl2 hx.1 (by omega)).mono ?_
  rintro _ G2 ⟨rfl,hx2⟩
  replace b0:=hx2.blk b0
  replace b1:=hx2.blk b1
  replace b2:=hx2.blk b2
  replace hx:=hx.trans hx2
  replace hl:=hl.mono hx2
  replace hl2:=hl2.mono hx2
  rw [d0x,c0d]
  try simp [h0]
  refine ⟨fun hge=>?_,fun hlt=>?_⟩
  ·have hab:(a0z j).natAbs≤(a0z i).natAbs:=by
    (repeat' split at hge) <;> omega
   simp [S0j,h0,b0]
   refine (b0B (hh.mono hx) hx.1 (by omega)).mono ?_
   rintro _ G2 ⟨rfl,hx2⟩
   replace b0:=hx2.blk b0
   replace b1:=hx2.blk b1
   replace b2:=hx2.blk b2
   replace hx:=hx.trans hx2
   replace hl:=hl.mono hx2
   replace hl2:=hl2.mono hx2
   try simp [h0]
   refine (i0g hl hl2 hx.1 (by omega) (a0X hab) (by rw [a0q,a0q];exact hab)).mono ?_
   rintro r G2 ⟨⟨o,ho,hon,hol⟩,hx2⟩
   replace b0:=hx2.blk b0
   replace b1:=hx2.blk b1
   replace b2:=hx2.blk b2
   replace hx:=hx.trans hx2
   replace hl:=hl.mono hx2
   replace hl2:=hl2.mono hx2
   try simp [h0]
   rw [a0q,a0q] at hon
   refine (c0n (a0z i + a0z j) ho hx.1 (by omega) (by rw [hon];simp;split <;> omega)).mono ?_
   rintro _ G2 ⟨⟨s',rfl,hs'⟩,hx2⟩
   replace b0:=hx2.blk b0
   replace b1:=hx2.blk b1
   replace b2:=hx2.blk b2
   replace hx:=hx.trans hx2
   replace hl:=hl.mono hx2
   replace hl2:=hl2.mono hx2
   have hz:=a0l b2
   simp [b2,hs'.cells,hs'.plain,hz]
   exact fun _=>⟨s',rfl,hs'.setT b2 (by decide)⟩
  ·have hab:(a0z i).natAbs≤(a0z j).natAbs:=by
    (repeat' split at hlt) <;> omega
   simp [S0k,h0,b1]
   refine (b0B (kk.mono hx) hx.1 (by omega)).mono ?_
   rintro _ G2 ⟨rfl,hx2⟩
   replace b0:=hx2.blk b0
   replace b1:=hx2.blk b1
   replace b2:=hx2.blk b2
   replace hx:=hx.trans hx2
   replace hl:=hl.mono hx2
   replace hl2:=hl2.mono hx2
   try simp [h0]
   refine (i0g hl2 hl hx.1 (by omega) (a0X hab) (by rw [a0q,a0q];exact hab)).mono ?_
   rintro r G2 ⟨⟨o,ho,hon,hol⟩,hx2⟩
   replace b0:=hx2.blk b0
   replace b1:=hx2.blk b1
   replace b2:=hx2.blk b2
   replace hx:=hx.trans hx2
   replace hl:=hl.mono hx2
   replace hl2:=hl2.mono hx2
   try simp [h0]
   rw [a0q,a0q] at hon
   refine (c0n (a0z i + a0z j) ho hx.1 (by omega) (by rw [hon];simp;split <;> omega)).mono ?_
   rintro _ G2 ⟨⟨s',rfl,hs'⟩,hx2⟩
   replace b0:=hx2.blk b0
   replace b1:=hx2.blk b1
   replace b2:=hx2.blk b2
   replace hx:=hx.trans hx2
   replace hl:=hl.mono hx2
   replace hl2:=hl2.mono hx2
   have hz:=a0l b2
   simp [b2,hs'.cells,hs'.plain,hz]
   exact fun _=>⟨s',rfl,hs'.setT b2 (by decide)⟩
end
end Go.Proofs.YtjlohmnnldbjoaaGreat.AI
