/- Part 5 of the proof: AiCode3, AiCodeG, AiEnv, AiHeap, AiSet, AiOwn, AiNum1, AiNum2, AiMath1, AiNum3, AiNum4, AiNum5, AiMath2, AiNum6. -/
import Derived.Test.YtjlohmnnldbjoaaGreatM02
import Derived.Test.YtjlohmnnldbjoaaGreatM03
set_option linter.unusedVariables false
set_option linter.unusedSimpArgs false
set_option linter.unusedSectionVars false
namespace Go.Proofs.YtjlohmnnldbjoaaGreat.AI
section
open Go
def G0g:SS:=[o 2 (.box a0b (t 0)),o 3 (.box a0b (t 1)),o 4 (.alloc a0b [.bool false,.slice none 0 0,.bool false,.slice none 0 0]),o 5 (.mv (i 0))]
def G0h:SS:=[lA 6 4 2,o 7 (.call y0u [t 6] false),lA 8 4 3,o 9 (.call y0u [t 8] true),⟨none,none,.store 4 (t 2) (t 7)⟩,⟨none,none,.store 4 (t 3) (t 9)⟩]
def G0i:SS:=[fA 10 0 2,lA 11 2 10,fA 12 2 3,lA 13 2 12,o 14 (.call p0M [t 11,t 13] false),fA 15 2 2,lA 16 2 15,fA 17 0 3,lA 18 2 17,o 19 (.call p0M [t 16,t 18] true),o 20 (.call p0J [t 14,t 19] true),o 21 (.ext (t 20) 0),o 22 (.ext (t 20) 1),⟨none,none,.store 4 (t 4) (t 21)⟩,mV 5 22]
def M0Q:SF:=⟨2,23,[.cell 4 true 4,.tmp 5],
 (qS (gR G0g) (qS (.draw G0h [0,1,0,7,15,31] []) (qS (.draw G0i [0,1,0,4,15,0,32,0,128,511,1023,2047,2047,8191,16383] []) .ret)))⟩
def G0j:SS:=[o 3 (.box a0a (t 1)),o 4 (.alloc a0b [.bool false,.slice none 0 0,.bool false,.slice none 0 0])]
def G0k:SS:=[mV 8 0,cK 9 8,o 10 (.fa0 a0c (t 9)),lA 11 0 10,o 12 (.iface a0m (t 11)),lA 13 2 3,o 14 (.inv (t 12) [(a0m,r0L),(a0n,r0M)] [t 13] false),mV 15 0,cK 16 15,o 17 (.fa0 a0c (t 16)),lA 18 0 17,o 19 (.iface a0m (t 18)),mV 20 0,cK 21 20,fA 22 4 21,lA 23 2 22,o 24 (.inv (t 19) [(a0m,r0L),(a0n,r0M)] [t 23] false),o 25 (.call p0J [t 14,t 24] false),mV 7 25,o 26 (.ext (t 7) 0),o 27 (.ext (t 7) 1),o 5 (.alloc a0b [.bool false,.slice none 0 0,.bool false,.slice none 0 0]),⟨none,none,.store 4 (t 5) (t 26)⟩,mV 6 27]
def G0l:SS:=[lA 28 4 5,⟨none,none,.store 4 (t 4) (t 28)⟩]
def M0R:SF:=⟨2,29,[.cell 4 true 4],
 (qS (gR G0j) (qS (.draw G0k [0,1,3,7,15,0,63,0,128,384,896,1920,0,4096,12288,28672,65535,131071,262143,524287,524287,0,3145727,8388607] []) (qS (gR G0l) .ret)))⟩
def G0y:SS:=[o 2 (.box a0b (t 0)),o 3 (.box a0b (t 1)),o 4 (.alloc a0b [.bool false,.slice none 0 0,.bool false,.slice none 0 0])]
def G0z:SS:=[lA 5 4 2,lA 6 4 3,o 7 (.call y0u [t 6] false),o 8 (.call A0t [t 7] false),o 9 (.call v0X [t 5,t 8] true),⟨none,none,.store 4 (t 4) (t 9)⟩]
def M0S:SF:=⟨2,10,[.cell 4 true 4],
 (qS (gR G0y) (qS (.draw G0z [0,0,2,6,15,31] []) .ret))⟩
def G0A:SS:=[o 4 (.mv (.const (.slice none 0 0))),o 5 (.mv (.const (.int .u32 0)))]
def G0B:SS:=[mV 9 0,lN 10 9,o 11 (.mk a0k 4 [.int .u32 0] (t 10) (t 10)),mV 6 11]
def G0C:SS:=[o 7 (.mv (.const (.int .u64 0)))]
def G0D:SS:=[mV 12 0,lN 13 12,o 14 (.bin 0 .sub (t 13) (i 1)),mV 8 14]
def u0D:SS:=[mV 15 8,o 16 (.bin 0 .geq (t 15) (i 0))]
def G0E:SS:=[mV 19 7,o 20 (.bin 0 .shl (t 19) (.const (.int .u64 32))),mV 21 0,mV 22 8,iA 23 1 21 22,lD 24 23,o 25 (.conv .u64 (t 24)),o 26 (.bin 0 .or (t 20) (t 25)),mV 7 26]
def G0F:SS:=[mV 27 6,mV 28 8,mV 29 7,mV 30 1,o 31 (.conv .u64 (t 30)),o 32 (.bin 0 .quo (t 29) (t 31)),o 33 (.call f0P [t 32] true),iA 34 1 27 28,⟨none,none,.store 1 (t 34) (t 33)⟩]
def G0G:SS:=[mV 35 7,mV 36 1,o 37 (.conv .u64 (t 36)),o 38 (.bin 0 .rem (t 35) (t 37)),mV 7 38]
def G0H:SS:=[mV 17 8,o 18 (.bin 0 .sub (t 17) (i 1)),mV 8 18]
def G0I:SS:=[mV 39 6,mV 40 7,o 41 (.call f0P [t 40] true),mV 4 39,mV 5 41]
def M0T:SF:=⟨2,42,[.tmp 4,.tmp 5],
 (qS (gR G0A) (qS (gR G0B) (qS (gR G0C) (qS (qS (gR G0D) (.block 0 (.loop (qS (qS (gR u0D) (.cond (t 16) .skip (.exit 0))) (qS (.block 1 (qS (gR G0E) (qS (gR G0F) (gR G0G)))) (gR G0H)))))) (qS (gR G0I) .ret)))))⟩
def G0J:SS:=[o 4 (.mv (.const (.slice none 0 0))),o 5 (.mv (.const (.slice none 0 0)))]
def G0K:SS:=[o 6 (.mv (i 0))]
def u0E:SS:=[mV 16 1,mV 17 1,lN 18 17,o 19 (.bin 0 .sub (t 18) (i 1)),iA 20 1 16 19,lD 21 20,mV 22 6,o 23 (.bin 0 .shl (t 21) (t 22)),o 24 (.bin 0 .shr (t 23) (.const (.int .u64 31))),o 25 (.bin 0 .eql (t 24) (.const (.int .u32 0)))]
def u0F:SS:=[mV 26 6,o 27 (.bin 0 .add (t 26) (i 1)),mV 6 27]
def G0L:SS:=[mV 28 0,mV 29 6,o 30 (.call y0q [t 28,t 29] true),mV 31 1,mV 32 6,o 33 (.call y0q [t 31,t 32] true),mV 34 1,lN 35 34,o 36 (.sl a0k 1 (t 33) none (some (t 35)) none),mV 7 30,mV 8 36]
def G0M:SS:=[mV 37 8,lN 38 37,mV 9 38]
def G0N:SS:=[mV 39 7,lN 40 39,mV 41 9,o 42 (.bin 0 .sub (t 40) (t 41)),o 43 (.mnx true (t 42) [i 0]),o 44 (.mk a0k 4 [.int .u32 0] (t 43) (t 43)),mV 4 44]
def G0O:SS:=[mV 45 8,mV 46 9,o 47 (.bin 0 .sub (t 46) (i 1)),iA 48 1 45 47,lD 49 48,o 50 (.conv .u64 (t 49)),mV 51 8,mV 52 9,o 53 (.bin 0 .sub (t 52) (i 2)),iA 54 1 51 53,lD 55 54,o 56 (.conv .u64 (t 55)),mV 10 50,mV 11 56]
def G0P:SS:=[mV 57 7,lN 58 57,mV 59 9,o 60 (.bin 0 .sub (t 58) (t 59)),o 61 (.bin 0 .sub (t 60) (i 1)),mV 12 61]
def u0G:SS:=[mV 62 12,o 63 (.bin 0 .geq (t 62) (i 0))]
def x0d:SS:=[mV 66 7,mV 67 12,mV 68 9,o 69 (.bin 0 .add (t 67) (t 68)),iA 70 1 66 69,lD 71 70,o 72 (.conv .u64 (t 71)),o 73 (.bin 0 .shl (t 72) (.const (.int .u64 32))),mV 74 7,mV 75 12,mV 76 9,o 77 (.bin 0 .add (t 75) (t 76)),o 78 (.bin 0 .sub (t 77) (i 1)),iA 79 1 74 78,lD 80 79,o 81 (.conv .u64 (t 80)),o 82 (.bin 0 .or (t 73) (t 81)),mV 13 82]
def x0e:SS:=[mV 83 13,mV 84 10,o 85 (.bin 0 .quo (t 83) (t 84)),mV 86 13,mV 87 10,o 88 (.bin 0 .rem (t 86) (t 87)),mV 14 85,mV 15 88]
def l0F:SS:=[mV 89 14,o 90 (.bin 0 .geq (t 89) (.const (.int .u64 4294967296))),mV 91 90,og 92 91 false (.mv (t 14)),og 93 91 false (.mv (t 11)),og 94 91 false (.bin 0 .mul (t 92) (t 93)),og 95 91 false (.mv (t 15)),og 96 91 false (.bin 0 .shl (t 95) (.const (.int .u64 32))),og 97 91 false (.mv (t 7)),og 98 91 false (.mv (t 12)),og 99 91 false (.mv (t 9)),og 100 91 false (.bin 0 .add (t 98) (t 99)),og 101 91 false (.bin 0 .sub (t 100) (i 2)),og 102 91 false (.ia 1 (t 97) (t 101)),og 103 91 false (.load false 1 (t 102)),og 104 91 false (.conv .u64 (t 103)),og 105 91 false (.bin 0 .or (t 96) (t 104)),og 106 91 false (.bin 0 .gtr (t 94) (t 105)),o 107 (.pick (t 91) (.const (.bool true)) (t 106))]
def j0O:SS:=[mV 108 14,o 109 (.bin 0 .sub (t 108) (.const (.int .u64 1))),mV 14 109]
def j0P:SS:=[mV 110 15,mV 111 10,o 112 (.bin 0 .add (t 110) (t 111)),mV 15 112]
def j0Q:SS:=[mV 113 15,o 114 (.bin 0 .geq (t 113) (.const (.int .u64 4294967296)))]
def x0f:SS:=[mV 115 7,mV 116 12,mV 117 12,mV 118 9,o 119 (.bin 0 .add (t 117) (t 118)),o 120 (.bin 0 .add (t 119) (i 1)),o 121 (.sl a0k 1 (t 115) (some (t 116)) (some (t 120)) none),mV 122 8,mV 123 14,o 124 (.call A0u [t 121,t 122,t 123] true)]
def x0g:SS:=[mV 125 14,o 126 (.bin 0 .sub (t 125) (.const (.int .u64 1))),mV 14 126]
def x0h:SS:=[mV 127 7,mV 128 12,mV 129 12,mV 130 9,o 131 (.bin 0 .add (t 129) (t 130)),o 132 (.bin 0 .add (t 131) (i 1)),o 133 (.sl a0k 1 (t 127) (some (t 128)) (some (t 132)) none),mV 134 8,o 135 (.call A0v [t 133,t 134] true)]
def q0Q:SS:=[mV 136 4,mV 137 12,mV 138 14,o 139 (.call f0P [t 138] true),iA 140 1 136 137,⟨none,none,.store 1 (t 140) (t 139)⟩]
def q0R:SS:=[mV 64 12,o 65 (.bin 0 .sub (t 64) (i 1)),mV 12 65]
def x0i:SS:=[mV 141 4,mV 142 7,mV 143 9,o 144 (.sl a0k 1 (t 142) none (some (t 143)) none),mV 145 6,o 146 (.call A0w [t 144,t 145] true),mV 4 141,mV 5 146]
def M0U:SF:=⟨2,147,[.tmp 4,.tmp 5],
 (qS (gR G0J) (qS (gR G0K) (qS (.block 0 (.loop (qS (qS (gR u0E) (.cond (t 25) .skip (.exit 0))) (.block 1 (gR u0F))))) (qS (.draw G0L [0,0,3,0,0,31,0,64,255,63,1023] []) (qS (gR G0M) (qS (gR G0N) (qS (.draw G0O [0,0,2,7,15,31,0,0,128,448,960,1984,63,8191] []) (qS (qS (gR G0P) (.block 2 (.loop (qS (qS (gR u0G) (.cond (t 63) .skip (.exit 2))) (qS (.block 3 (qS (.draw x0d [0,0,0,6,15,31,63,127,0,0,0,1536,3584,7936,16128,32512,65535,131071] []) (qS (.draw x0e [0,0,3,0,0,24,7,127] []) (qS (.block 4 (.loop (qS (qS (gR l0F) (.cond (t 107) .skip (.exit 4))) (.block 5 (qS (gR j0O) (qS (gR j0P) (qS (gR j0Q) (.cond (t 114) (.exit 4) .skip)))))))) (qS (qS (gR x0f) (.cond (t 124) (qS (gR x0g) (gR x0h)) .skip)) (gR q0Q)))))) (gR q0R)))))) (qS (gR x0i) .ret)))))))))⟩
def G0Q:SS:=[o 4 (.mv (.const (.slice none 0 0)))]
def G0R:SS:=[o 5 (.mv (.const (.slice none 0 0)))]
def G0S:SS:=[o 6 (.mv (.const (.int .u32 0)))]
def G0T:SS:=[mV 8 1]
def G0U:SS:=[o 6 (.mv (.const (.int .u32 1)))]
def u0H:SS:=[o 7 (.mv (i 0))]
def u0I:SS:=[mV 9 7,mV 10 0,lN 11 10,o 12 (.bin 0 .lss (t 9) (t 11))]
def u0J:SS:=[mV 15 5,mV 16 0,mV 17 7,iA 18 1 16 17,lD 19 18,o 20 (.bin 0 .shl (t 19) (.const (.int .u64 1))),mV 21 6,o 22 (.bin 0 .or (t 20) (t 21)),o 23 (.lit a0k [.int .u32 0] 1 [(0,1,t 22)]),o 24 (.app a0k 1 4 (t 15) (t 23)),mV 5 24]
def u0K:SS:=[mV 25 0,mV 26 7,iA 27 1 25 26,lD 28 27,o 29 (.bin 0 .shr (t 28) (.const (.int .u64 31))),mV 6 29]
def u0L:SS:=[mV 13 7,o 14 (.bin 0 .add (t 13) (i 1)),mV 7 14]
def q0S:SS:=[mV 30 5,mV 31 6,o 32 (.lit a0k [.int .u32 0] 1 [(0,1,t 31)]),o 33 (.app a0k 1 4 (t 30) (t 32)),mV 5 33]
def q0T:SS:=[mV 34 5,o 35 (.call m0e [t 34] true),mV 4 35]
def M0V:SF:=⟨2,36,[.tmp 4],
 (qS (gR G0Q) (qS (gR G0R) (qS (gR G0S) (qS (qS (gR G0T) (.cond (t 8) (gR G0U) .skip)) (qS (qS (gR u0H) (.block 0 (.loop (qS (qS (gR u0I) (.cond (t 12) .skip (.exit 0))) (qS (.block 1 (qS (gR u0J) (gR u0K))) (gR u0L)))))) (qS (gR q0S) (qS (gR q0T) .ret)))))))⟩
def G0V:SS:=[o 2 (.mv (.const (.slice none 0 0)))]
def G0W:SS:=[lD 5 0,cK 6 5,fA 7 2 6,lD 8 7,o 9 (.bin 0 .add (t 8) (i 1)),o 10 (.mk d0A 8 [.int .i64 0] (t 9) (t 9)),mV 3 10]
def G0X:SS:=[mV 11 3,lN 12 11,o 13 (.mv (i 0))]
def W0i:SS:=[o 14 (.bin 0 .lss (t 13) (t 12))]
def G0Y:SS:=[mV 15 13,mV 4 15]
def G0Z:SS:=[mV 16 3,mV 17 4,lD 18 1,iA 19 1 16 17,⟨none,none,.store 1 (t 19) (t 18)⟩]
def W0j:SS:=[o 20 (.bin 0 .add (t 13) (i 1)),mV 13 20]
def H0a:SS:=[mV 21 3,mV 2 21]
def M0W:SF:=⟨2,22,[.tmp 2],
 (qS (gR G0V) (qS (gR G0W) (qS (qS (gR G0X) (.block 0 (.loop (qS (gR W0i) (qS (.cond (t 14) .skip (.exit 0)) (qS (.block 1 (qS (gR G0Y) (gR G0Z))) (gR W0j))))))) (qS (gR H0a) .ret))))⟩
def H0b:SS:=[o 6 (.mv (i 0))]
def H0c:SS:=[mV 8 0,cK 9 8,o 10 (.fa0 a0d (t 9)),lA 11 0 10,o 12 (.iface a0n (t 11)),o 13 (.call l0m [i 1] false),o 14 (.inv (t 12) [(a0m,k0n),(a0n,j0p)] [t 13] true),mV 7 14]
def H0d:SS:=[mV 15 0,cK 16 15,o 17 (.fa0 a0d (t 16)),lA 18 0 17,o 19 (.iface a0n (t 18)),mV 20 1,mV 21 7,mV 22 2,mV 23 7,mV 24 7,o 25 (.inv (t 19) [(a0m,p0K),(a0n,p0L)] [t 20,t 21,t 22,t 23,t 24] true),mV 6 25]
def M0X:SF:=⟨3,26,[.tmp 6],
 (qS (gR H0b) (qS (.draw H0c [0,1,3,7,15,0,63,127] []) (qS (gR H0d) .ret)))⟩
def H0e:SS:=[mV 12 0,cK 13 12,fA 14 6 13,lD 15 14,o 16 (.bin 0 .add (t 15) (i 1)),cK 17 12,fA 18 6 17,⟨none,none,.store 1 (t 18) (t 16)⟩]
def H0f:SS:=[mV 19 0,cK 20 19,fA 21 3 20,lD 22 21,mV 23 1,iA 24 1 22 23,lD 25 24,mV 26 2,iA 27 1 25 26,lD 28 27,mV 29 0,cK 30 29,fA 31 3 30,lD 32 31,mV 33 1,iA 34 1 32 33,lD 35 34,mV 6 28,mV 7 35]
def H0g:SS:=[mV 36 0,cK 37 36,fA 38 3 37,lD 39 38,lN 40 39,o 41 (.mv (i 0))]
def W0k:SS:=[o 42 (.bin 0 .lss (t 41) (t 40))]
def H0h:SS:=[mV 43 41,iA 44 1 39 41,lD 45 44,mV 8 43,mV 9 45]
def u0M:SS:=[mV 46 8,mV 47 1,o 48 (.bin 0 .eql (t 46) (t 47))]
def H0i:SS:=[mV 49 9,mV 50 2,iA 51 1 49 50,lD 52 51,mV 10 52]
def H0j:SS:=[mV 53 9,lN 54 53,o 55 (.mv (i 0))]
def W0l:SS:=[o 56 (.bin 0 .lss (t 55) (t 54))]
def H0k:SS:=[mV 57 55,mV 11 57]
def x0j:SS:=[mV 58 9,mV 59 11,mV 60 0,cK 61 60,o 62 (.fa0 a0d (t 61)),lA 63 0 62,o 64 (.iface a0n (t 63)),mV 65 9,mV 66 11,iA 67 1 65 66,lD 68 67,mV 69 6,mV 70 10,mV 71 7,mV 72 11,iA 73 1 71 72,lD 74 73,mV 75 0,cK 76 75,fA 77 4 76,lD 78 77,o 79 (.inv (t 64) [(a0m,p0K),(a0n,p0L)] [t 68,t 69,t 70,t 74,t 78] true),iA 80 1 58 59,⟨none,none,.store 1 (t 80) (t 79)⟩]
def L0T:SS:=[o 81 (.bin 0 .add (t 55) (i 1)),mV 55 81]
def L0U:SS:=[o 82 (.bin 0 .add (t 41) (i 1)),mV 41 82]
def x0k:SS:=[mV 83 0,mV 84 0,cK 85 84,fA 86 5 85,lD 87 86,mV 88 1,mV 89 6,mV 90 2,cK 91 83,fA 92 4 91,⟨none,none,.store 1 (t 92) (t 89)⟩,iA 93 1 87 88,⟨none,none,.store 1 (t 93) (t 90)⟩]
def M0Y:SF:=⟨3,94,[],
 (qS (gR H0e) (qS (.draw H0f [0,1,3,7,0,31,63,0,255,511,0,1024,3072,7168,0,31744,64512,1023,262143] []) (qS (qS (gR H0g) (.block 0 (.loop (qS (gR W0k) (qS (.cond (t 42) .skip (.exit 0)) (qS (.block 1 (qS (gR H0h) (qS (qS (gR u0M) (.cond (t 48) (.exit 1) .skip)) (qS (gR H0i) (qS (gR H0j) (.block 2 (.loop (qS (gR W0l) (qS (.cond (t 56) .skip (.exit 2)) (qS (.block 3 (qS (gR H0k) (.draw x0j [0,0,0,4,12,28,60,0,0,384,896,0,0,0,0,24576,57344,0,131072,393216,917504,2097148,4194303,8388607] []))) (gR L0T))))))))))) (gR L0U))))))) (gR x0k))))⟩
def H0l:SS:=[o 4 (.alloc a0b [.bool false,.slice none 0 0,.bool false,.slice none 0 0])]
def H0m:SS:=[mV 8 0,cK 9 8,o 10 (.fa0 a0d (t 9)),lA 11 0 10,o 12 (.iface a0n (t 11)),mV 13 1,o 14 (.inv (t 12) [(a0m,r0L),(a0n,r0M)] [t 13] false),mV 15 0,cK 16 15,o 17 (.fa0 a0d (t 16)),lA 18 0 17,o 19 (.iface a0n (t 18)),mV 20 0,cK 21 20,fA 22 4 21,lD 23 22,o 24 (.inv (t 19) [(a0m,r0L),(a0n,r0M)] [t 23] false),o 25 (.call p0J [t 14,t 24] false),mV 7 25,o 26 (.ext (t 7) 0),o 27 (.ext (t 7) 1),o 5 (.alloc a0b [.bool false,.slice none 0 0,.bool false,.slice none 0 0]),⟨none,none,.store 4 (t 5) (t 26)⟩,mV 6 27]
def H0n:SS:=[lA 28 4 5,⟨none,none,.store 4 (t 4) (t 28)⟩]
def M0Z:SF:=⟨2,29,[.cell 4 true 4],
 (qS (gR H0l) (qS (.draw H0m [0,1,3,7,15,0,63,0,128,384,896,1920,0,4096,12288,28672,65535,131071,262143,524287,524287,0,3145727,8388607] []) (qS (gR H0n) .ret)))⟩
def H0o:SS:=[o 1 (.box a0b (t 0)),o 2 (.alloc a0b [.bool false,.slice none 0 0,.bool false,.slice none 0 0])]
def H0p:SS:=[fA 3 0 1,lA 4 2 3,o 5 (.call r0I [t 4] false),fA 6 2 1,lA 7 2 6,o 8 (.build [.bool false,.slice none 0 0,.bool false,.slice none 0 0] [(0,2,t 5),(2,2,t 7)]),⟨none,none,.store 4 (t 2) (t 8)⟩]
def N0a:SF:=⟨1,9,[.cell 2 true 4],
 (qS (gR H0o) (qS (.draw H0p [0,1,3,0,8,31,63] []) .ret))⟩
def H0q:SS:=[o 4 (.mv (.const (.slice none 0 0)))]
def H0r:SS:=[mV 9 0,lN 10 9,o 11 (.bin 0 .add (t 10) (i 1)),o 12 (.mk a0k 4 [.int .u32 0] (i 0) (t 11)),mV 5 12]
def H0s:SS:=[o 6 (.mv (.const (.int .u64 0)))]
def H0t:SS:=[mV 13 0,lN 14 13,o 15 (.mv (i 0))]
def u0N:SS:=[o 16 (.bin 0 .lss (t 15) (t 14))]
def H0u:SS:=[iA 17 1 13 15,lD 18 17,mV 8 18]
def H0v:SS:=[mV 19 6,mV 20 8,o 21 (.conv .u64 (t 20)),mV 22 1,o 23 (.bin 0 .shl (t 21) (t 22)),o 24 (.bin 0 .or (t 19) (t 23)),mV 6 24]
def H0w:SS:=[mV 25 5,mV 26 6,o 27 (.call f0P [t 26] true),o 28 (.lit a0k [.int .u32 0] 1 [(0,1,t 27)]),o 29 (.app a0k 1 4 (t 25) (t 28)),mV 5 29]
def H0x:SS:=[mV 30 6,o 31 (.bin 0 .shr (t 30) (.const (.int .u64 32))),mV 6 31]
def H0y:SS:=[o 32 (.bin 0 .add (t 15) (i 1)),mV 15 32]
def x0l:SS:=[mV 33 5,mV 34 6,o 35 (.call f0P [t 34] true),o 36 (.lit a0k [.int .u32 0] 1 [(0,1,t 35)]),o 37 (.app a0k 1 4 (t 33) (t 36)),mV 4 37]
def N0b:SF:=⟨2,38,[.tmp 4],
 (qS (gR H0q) (qS (gR H0r) (qS (gR H0s) (qS (qS (gR H0t) (.block 0 (.loop (qS (gR u0N) (qS (.cond (t 16) .skip (.exit 0)) (qS (.block 1 (qS (gR H0u) (qS (gR H0v) (qS (gR H0w) (gR H0x))))) (gR H0y))))))) (qS (gR x0l) .ret)))))⟩
def H0z:SS:=[o 6 (.mv (.const (.bool false)))]
def H0A:SS:=[o 7 (.mv (.const (.int .u64 0)))]
def H0B:SS:=[mV 10 0,lN 11 10,o 12 (.mv (i 0))]
def q0V:SS:=[o 13 (.bin 0 .lss (t 12) (t 11))]
def u0O:SS:=[mV 14 12,mV 8 14]
def u0P:SS:=[mV 15 8,mV 16 1,lN 17 16,o 18 (.bin 0 .lss (t 15) (t 17))]
def u0Q:SS:=[mV 19 7,mV 20 1,mV 21 8,iA 22 1 20 21,lD 23 22,o 24 (.conv .u64 (t 23)),mV 25 2,o 26 (.bin 0 .mul (t 24) (t 25)),o 27 (.bin 0 .add (t 19) (t 26)),mV 7 27]
def u0R:SS:=[mV 28 0,mV 29 8,iA 30 1 28 29,lD 31 30,o 32 (.conv .u64 (t 31)),mV 33 7,o 34 (.bin 0 .and (t 33) (.const (.int .u64 4294967295))),o 35 (.bin 0 .sub (t 32) (t 34)),mV 9 35]
def u0S:SS:=[mV 36 0,mV 37 8,mV 38 9,o 39 (.call f0P [t 38] true),iA 40 1 36 37,⟨none,none,.store 1 (t 40) (t 39)⟩]
def u0T:SS:=[mV 41 7,o 42 (.bin 0 .shr (t 41) (.const (.int .u64 32))),mV 43 9,o 44 (.bin 0 .shr (t 43) (.const (.int .u64 63))),o 45 (.bin 0 .add (t 42) (t 44)),mV 7 45]
def q0U:SS:=[o 46 (.bin 0 .add (t 12) (i 1)),mV 12 46]
def x0m:SS:=[mV 47 7,o 48 (.bin 0 .neq (t 47) (.const (.int .u64 0))),mV 6 48]
def N0c:SF:=⟨3,49,[.tmp 6],
 (qS (gR H0z) (qS (gR H0A) (qS (qS (gR H0B) (.block 0 (.loop (qS (gR q0V) (qS (.cond (t 13) .skip (.exit 0)) (qS (.block 1 (qS (gR u0O) (qS (qS (gR u0P) (.cond (t 18) (gR u0Q) .skip)) (qS (gR u0R) (qS (gR u0S) (gR u0T)))))) (gR q0U))))))) (qS (gR x0m) .ret))))⟩
def H0C:SS:=[o 4 (.mv (.const (.int .u64 0)))]
def H0D:SS:=[mV 6 0,lN 7 6,o 8 (.mv (i 0))]
def q0W:SS:=[o 9 (.bin 0 .lss (t 8) (t 7))]
def u0U:SS:=[mV 10 8,mV 5 10]
def u0V:SS:=[mV 11 4,mV 12 0,mV 13 5,iA 14 1 12 13,lD 15 14,o 16 (.conv .u64 (t 15)),o 17 (.bin 0 .add (t 11) (t 16)),mV 4 17]
def u0W:SS:=[mV 18 5,mV 19 1,lN 20 19,o 21 (.bin 0 .lss (t 18) (t 20))]
def u0X:SS:=[mV 22 4,mV 23 1,mV 24 5,iA 25 1 23 24,lD 26 25,o 27 (.conv .u64 (t 26)),o 28 (.bin 0 .add (t 22) (t 27)),mV 4 28]
def u0Y:SS:=[mV 29 0,mV 30 5,mV 31 4,o 32 (.call f0P [t 31] true),iA 33 1 29 30,⟨none,none,.store 1 (t 33) (t 32)⟩]
def u0Z:SS:=[mV 34 4,o 35 (.bin 0 .shr (t 34) (.const (.int .u64 32))),mV 4 35]
def v0a:SS:=[o 36 (.bin 0 .add (t 8) (i 1)),mV 8 36]
def N0d:SF:=⟨2,37,[],
 (qS (gR H0C) (qS (gR H0D) (.block 0 (.loop (qS (gR q0W) (qS (.cond (t 9) .skip (.exit 0)) (qS (.block 1 (qS (gR u0U) (qS (gR u0V) (qS (qS (gR u0W) (.cond (t 21) (gR u0X) .skip)) (qS (gR u0Y) (gR u0Z)))))) (gR v0a))))))))⟩
def H0E:SS:=[o 4 (.mv (.const (.slice none 0 0)))]
def H0F:SS:=[mV 8 0,lN 9 8,o 10 (.mk a0k 4 [.int .u32 0] (t 9) (t 9)),mV 5 10]
def H0G:SS:=[mV 11 0,lN 12 11,o 13 (.mv (i 0))]
def q0X:SS:=[o 14 (.bin 0 .lss (t 13) (t 12))]
def v0b:SS:=[mV 15 13,mV 6 15]
def v0c:SS:=[mV 16 0,mV 17 6,iA 18 1 16 17,lD 19 18,o 20 (.conv .u64 (t 19)),mV 7 20]
def v0d:SS:=[mV 21 6,o 22 (.bin 0 .add (t 21) (i 1)),mV 23 0,lN 24 23,o 25 (.bin 0 .lss (t 22) (t 24))]
def v0e:SS:=[mV 26 7,mV 27 0,mV 28 6,o 29 (.bin 0 .add (t 28) (i 1)),iA 30 1 27 29,lD 31 30,o 32 (.conv .u64 (t 31)),o 33 (.bin 0 .shl (t 32) (.const (.int .u64 32))),o 34 (.bin 0 .or (t 26) (t 33)),mV 7 34]
def v0f:SS:=[mV 35 5,mV 36 6,mV 37 7,mV 38 1,o 39 (.bin 0 .shr (t 37) (t 38)),o 40 (.call f0P [t 39] true),iA 41 1 35 36,⟨none,none,.store 1 (t 41) (t 40)⟩]
def v0g:SS:=[o 42 (.bin 0 .add (t 13) (i 1)),mV 13 42]
def x0n:SS:=[mV 43 5,mV 4 43]
def N0e:SF:=⟨2,44,[.tmp 4],
 (qS (gR H0E) (qS (gR H0F) (qS (qS (gR H0G) (.block 0 (.loop (qS (gR q0X) (qS (.cond (t 14) .skip (.exit 0)) (qS (.block 1 (qS (gR v0b) (qS (gR v0c) (qS (qS (gR v0d) (.cond (t 25) (gR v0e) .skip)) (gR v0f))))) (gR v0g))))))) (qS (gR x0n) .ret))))⟩
def H0M:SS:=[o 5 (.box a0m (t 0)),o 6 (.box a0a (t 1)),o 7 (.box a0a (t 2)),o 8 (.box a0a (t 3)),o 9 (.box a0a (t 4)),o 10 (.mv (i 0))]
def H0N:SS:=[lA 11 2 6,lA 12 2 7,o 13 (.call p0M [t 11,t 12] false),lA 14 2 8,lA 15 2 9,o 16 (.call p0M [t 14,t 15] true),o 17 (.call m0f [t 13,t 16] true),mV 10 17]
def N0f:SF:=⟨5,18,[.tmp 10],
 (qS (gR H0M) (qS (.draw H0N [0,0,3,0,0,31,63,127] []) .ret))⟩
def H0O:SS:=[o 2 (.box a0m (t 0)),o 3 (.box a0a (t 1)),o 4 (.alloc a0a [.bool false,.slice none 0 0])]
def H0P:SS:=[lA 5 2 3,o 6 (.call r0I [t 5] true),⟨none,none,.store 2 (t 4) (t 6)⟩]
def N0g:SF:=⟨2,7,[.cell 4 true 2],
 (qS (gR H0O) (qS (gR H0P) .ret))⟩
def H0Q:SS:=[o 2 (.box a0m (t 0)),o 3 (.box a0a (t 1)),o 4 (.alloc a0a [.bool false,.slice none 0 0])]
def H0R:SS:=[lA 5 2 3,⟨none,none,.store 2 (t 4) (t 5)⟩]
def N0h:SF:=⟨2,6,[.cell 4 true 2],
 (qS (gR H0Q) (qS (gR H0R) .ret))⟩
def H0S:SS:=[o 2 (.box a0m (t 0)),o 3 (.box a0a (t 1)),o 4 (.alloc a0a [.bool false,.slice none 0 0])]
def H0T:SS:=[lA 5 2 3,⟨none,none,.store 2 (t 4) (t 5)⟩]
def N0i:SF:=⟨2,6,[.cell 4 true 2],
 (qS (gR H0S) (qS (gR H0T) .ret))⟩
def H0U:SS:=[o 2 (.box a0m (t 0)),o 3 (.box a0a (t 1)),o 4 (.mv (i 0))]
def H0V:SS:=[lA 5 2 3,o 6 (.build [.bool false,.slice none 0 0] []),o 7 (.call m0f [t 5,t 6] true),mV 4 7]
def N0j:SF:=⟨2,8,[.tmp 4],
 (qS (gR H0U) (qS (gR H0V) .ret))⟩
def H0W:SS:=[o 6 (.box a0m (t 0)),o 7 (.box a0a (t 1)),o 8 (.box a0a (t 2)),o 9 (.box a0a (t 3)),o 10 (.box a0a (t 4)),o 11 (.box a0a (t 5)),o 12 (.alloc a0a [.bool false,.slice none 0 0])]
def H0X:SS:=[lA 17 2 7,lA 18 2 8,o 19 (.call p0M [t 17,t 18] false),lA 20 2 9,lA 21 2 10,o 22 (.call p0M [t 20,t 21] false),o 23 (.call A0x [t 19,t 22] false),lA 24 2 11,o 25 (.call m0g [t 23,t 24] false),mV 16 25,o 26 (.ext (t 16) 0),o 27 (.ext (t 16) 1),o 28 (.ext (t 16) 2),o 13 (.alloc a0a [.bool false,.slice none 0 0]),o 14 (.alloc a0a [.bool false,.slice none 0 0]),⟨none,none,.store 2 (t 13) (t 26)⟩,⟨none,none,.store 2 (t 14) (t 27)⟩,mV 15 28]
def H0Y:SS:=[lA 29 2 13,⟨none,none,.store 2 (t 12) (t 29)⟩]
def N0k:SF:=⟨6,30,[.cell 12 true 2],
 (qS (gR H0W) (qS (.draw H0X [0,0,3,0,0,31,63,0,255,511,1023,1023,1023,0,0,26623,61439,131071] []) (qS (gR H0Y) .ret)))⟩
def H0Z:SS:=[o 2 (.box a0a (t 0)),o 3 (.box a0a (t 1)),o 4 (.alloc a0a [.bool false,.slice none 0 0])]
def I0a:SS:=[lA 5 2 2,lA 6 2 3,o 7 (.call r0I [t 6] false),o 8 (.call K0s [t 5,t 7] true),⟨none,none,.store 2 (t 4) (t 8)⟩]
def N0l:SF:=⟨2,9,[.cell 4 true 2],
 (qS (gR H0Z) (qS (.draw I0a [0,0,2,7,15] []) .ret))⟩
def I0b:SS:=[o 5 (.box a0n (t 0)),o 10 (.mv (i 0))]
def I0c:SS:=[mV 11 1,mV 12 2,o 13 (.bin 0 .mul (t 11) (t 12)),mV 14 3,mV 15 4,o 16 (.bin 0 .mul (t 14) (t 15)),o 17 (.call y0t [t 13,t 16] true),mV 10 17]
def N0m:SF:=⟨5,18,[.tmp 10],
 (qS (gR I0b) (qS (gR I0c) .ret))⟩
def I0d:SS:=[o 2 (.box a0n (t 0)),o 4 (.mv (i 0))]
def I0e:SS:=[mV 5 1,o 6 (.un .neg (t 5)),mV 4 6]
def N0n:SF:=⟨2,7,[.tmp 4],
 (qS (gR I0d) (qS (gR I0e) .ret))⟩
def I0i:SS:=[o 2 (.box a0n (t 0)),o 4 (.alloc a0a [.bool false,.slice none 0 0])]
def I0j:SS:=[mV 5 1,o 6 (.call l0m [t 5] true),⟨none,none,.store 2 (t 4) (t 6)⟩]
def N0o:SF:=⟨2,7,[.cell 4 true 2],
 (qS (gR I0i) (qS (gR I0j) .ret))⟩
def v0h:SS:=[o 2 (.box a0n (t 0)),o 3 (.box a0a (t 1)),o 4 (.mv (i 0))]
def v0i:SS:=[lA 8 2 3,o 9 (.call A0y [t 8] true),mV 7 9,o 10 (.ext (t 7) 0),o 11 (.ext (t 7) 1),mV 5 10,mV 6 11]
def v0j:SS:=[mV 12 6,o 13 (.un .not (t 12))]
def I0k:SS:=[o 14 (.build [] []),o 15 (.iface f0p (t 14)),⟨none,none,.pan (t 15)⟩]
def v0k:SS:=[mV 16 5,o 17 (.call t0B [t 16] true),mV 4 17]
def J0U:SF:=⟨2,18,[.tmp 4],
 (qS (gR v0h) (qS (gR v0i) (qS (qS (gR v0j) (.cond (t 13) (gR I0k) .skip)) (qS (gR v0k) .ret))))⟩
def I0l:SS:=[o 2 (.box a0n (t 0)),o 4 (.mv (i 0))]
def I0m:SS:=[mV 5 1,o 6 (.call y0t [t 5,i 0] true),mV 4 6]
def N0p:SF:=⟨2,7,[.tmp 4],
 (qS (gR I0l) (qS (gR I0m) .ret))⟩
def I0n:SS:=[o 6 (.box a0n (t 0)),o 12 (.mv (i 0))]
def I0o:SS:=[mV 13 1,mV 14 2,o 15 (.bin 0 .mul (t 13) (t 14)),mV 16 3,mV 17 4,o 18 (.bin 0 .mul (t 16) (t 17)),o 19 (.bin 0 .sub (t 15) (t 18)),mV 20 5,o 21 (.bin 0 .quo (t 19) (t 20)),o 22 (.call t0B [t 21] true),mV 12 22]
def N0q:SF:=⟨6,23,[.tmp 12],
 (qS (gR I0n) (qS (gR I0o) .ret))⟩
def I0p:SS:=[o 4 (.mv (i 0))]
def I0q:SS:=[mV 6 0,mV 7 1,o 8 (.bin 0 .lss (t 6) (t 7)),mV 5 8]
def I0r:SS:=[o 4 (.mv (.const (.int .i64 (-1))))]
def I0s:SS:=[mV 10 0,mV 11 1,o 12 (.bin 0 .gtr (t 10) (t 11)),mV 9 12]
def I0t:SS:=[o 4 (.mv (i 1))]
def I0u:SS:=[o 4 (.mv (i 0))]
def N0r:SF:=⟨2,13,[.tmp 4],
 (qS (gR I0p) (qS (.block 0 (qS (gR I0q) (.cond (t 5) (qS (gR I0r) .ret) (qS (gR I0s) (.cond (t 9) (qS (gR I0t) .ret) .skip))))) (qS (gR I0u) .ret)))⟩
def I0v:SS:=[o 1 (.box a0a (t 0)),o 2 (.mv (i 0)),o 3 (.mv (.const (.bool false)))]
def I0w:SS:=[lA 8 2 1,o 9 (.call f0O [t 8] true),mV 4 9]
def I0x:SS:=[mV 10 4,lN 11 10,o 12 (.bin 0 .gtr (t 11) (i 2))]
def I0y:SS:=[o 2 (.mv (i 0)),o 3 (.mv (.const (.bool false)))]
def I0z:SS:=[o 5 (.mv (.const (.int .u64 0)))]
def I0A:SS:=[mV 13 4,lN 14 13,o 15 (.mv (i 0))]
def W0m:SS:=[o 16 (.bin 0 .lss (t 15) (t 14))]
def I0B:SS:=[mV 17 15,iA 18 1 13 15,lD 19 18,mV 6 17,mV 7 19]
def I0C:SS:=[mV 20 5,mV 21 7,o 22 (.conv .u64 (t 21)),mV 23 6,o 24 (.bin 0 .mul (i 32) (t 23)),o 25 (.bin 0 .shl (t 22) (t 24)),o 26 (.bin 0 .or (t 20) (t 25)),mV 5 26]
def W0n:SS:=[o 27 (.bin 0 .add (t 15) (i 1)),mV 15 27]
def x0p:SS:=[lA 29 2 1,o 30 (.call e0j [t 29] true),mV 31 30,og 32 31 true (.mv (t 5)),og 33 31 true (.bin 0 .leq (t 32) (.const (.int .u64 9223372036854775808))),o 34 (.pick (t 31) (t 33) (.const (.bool false))),mV 28 34]
def x0q:SS:=[mV 35 5,o 36 (.un .neg (t 35)),o 37 (.conv .i64 (t 36)),mV 2 37,o 3 (.mv (.const (.bool true)))]
def q0Y:SS:=[lA 39 2 1,o 40 (.call e0j [t 39] true),o 41 (.un .not (t 40)),mV 42 41,og 43 42 true (.mv (t 5)),og 44 42 true (.bin 0 .lss (t 43) (.const (.int .u64 9223372036854775808))),o 45 (.pick (t 42) (t 44) (.const (.bool false))),mV 38 45]
def x0r:SS:=[mV 46 5,o 47 (.conv .i64 (t 46)),mV 2 47,o 3 (.mv (.const (.bool true)))]
def q0Z:SS:=[o 2 (.mv (i 0)),o 3 (.mv (.const (.bool false)))]
def N0s:SF:=⟨1,48,[.tmp 2,.tmp 3],
 (qS (gR I0v) (qS (gR I0w) (qS (qS (gR I0x) (.cond (t 12) (qS (gR I0y) .ret) .skip)) (qS (gR I0z) (qS (qS (gR I0A) (.block 0 (.loop (qS (gR W0m) (qS (.cond (t 16) .skip (.exit 0)) (qS (.block 1 (qS (gR I0B) (gR I0C))) (gR W0n))))))) (qS (.block 2 (qS (gR x0p) (.cond (t 28) (qS (gR x0q) .ret) (qS (gR q0Y) (.cond (t 38) (qS (gR x0r) .ret) .skip))))) (qS (gR q0Z) .ret)))))))⟩
def v0l:SS:=[o 2 (.mv (i 0))]
def v0m:SS:=[mV 3 0,o 4 (.bin 0 .leq (t 3) (.const (.int .i64 (-2147483648)))),mV 5 4,og 6 5 false (.mv (t 0)),og 7 5 false (.bin 0 .geq (t 6) (i 2147483648)),o 8 (.pick (t 5) (.const (.bool true)) (t 7))]
def v0n:SS:=[o 9 (.build [] []),o 10 (.iface f0p (t 9)),⟨none,none,.pan (t 10)⟩]
def v0o:SS:=[mV 11 0,mV 2 11]
def J0V:SF:=⟨1,12,[.tmp 2],
 (qS (gR v0l) (qS (qS (gR v0m) (.cond (t 8) (gR v0n) .skip)) (qS (gR v0o) .ret)))⟩
abbrev t0u (F:RK):Nat:=F.p U0Y U0R
abbrev m0d (F:RK):Nat:=F.p r0G K0Y
abbrev k0m (F:RK):Nat:=F.p V0d U0W
abbrev l0A (F:RK):Nat:=F.p V0a U0T
abbrev m0c (F:RK):Nat:=F.p V0h V0f
abbrev A0b (F:RK):Nat:=F.p V0b U0U
abbrev l0B (F:RK):Nat:=F.p V0c U0V
abbrev Y0B (F:RK):Nat:=F.p V0e U0X
abbrev U0Q (F:RK):Nat:=F.p V0i V0g
abbrev v0W (F:RK):Nat:=F.p U0Z U0S
def s0r (F:RK):SS:=[o 2 (.box (F.p a0n a0m) (t 0)),o 3 (.box a0P (t 1)),o 4 (.mv (.const (.pointer none)))]
def s0s:SS:=[fA 22 1 3,lD 23 22,lN 24 23,mV 5 24]
def h0r (F:RK):SS:=[lA 25 0 2,fA 26 0 3,lD 27 26,mV 28 5,fA 29 0 3,lD 30 29,o 31 (.bin 0 .mul (i 2) (t 30)),mV 32 5,o 33 (.bin 0 .add (t 31) (t 32)),lA 34 0 2,o 35 (.iface (F.p a0n a0m) (t 34)),o 36 (.call l0m [i 1] false),o 37 (.inv (t 35) [(a0m,k0n),(a0n,j0p)] [t 36] false)] ++ F.p [o 38 (.build [.int .i64 0,.int .i64 0,.int .i64 0,.slice none 0 0,.int .i64 0,.slice none 0 0,.int .i64 0] [(0,0,t 25),(0,1,t 27),(1,1,t 28),(2,1,t 33),(4,1,t 37)])] [o 38 (.build [.int .i64 0,.int .i64 0,.int .i64 0,.slice none 0 0,.bool false,.slice none 0 0,.slice none 0 0,.int .i64 0] [(0,0,t 25),(0,1,t 27),(1,1,t 28),(2,1,t 33),(4,2,t 37)])] ++ [o 39 (.box (F.p a0d a0c) (t 38)),o 6 (.alloc (F.p a0M a0H) [.pointer none]),⟨none,none,.store 1 (t 6) (t 39)⟩]
def h0s (F:RK):SS:=[lA 40 0 2,o 41 (.iface (F.p a0n a0m) (t 40)),o 42 (.build [.bool false,.slice none 0 0] []),o 43 (.inv (t 41) [(a0m,k0n),(a0n,j0p)] [t 42] true)] ++ F.p [o 7 (.alloc d0A [.int .i64 0])] [o 7 (.alloc a0a [.bool false,.slice none 0 0])] ++ [⟨none,none,.store F.w (t 7) (t 43)⟩]
def s0t (F:RK):SS:=[o 44 (.mkfn (.func (F.p n0J n0I)) [] [t 6,t 7]),mV 8 44]
def s0u:SS:=[mV 45 8,o 46 (.callv (t 45) [] true),mV 47 8,o 48 (.callv (t 47) [] true),mV 9 46,mV 10 48]
def s0v:SS:=[fA 49 3 3,lD 50 49,lN 51 50,o 52 (.mv (i 0))]
def B0J:SS:=[o 53 (.bin 0 .lss (t 52) (t 51))]
def s0w:SS:=[mV 54 52,iA 55 2 50 52,lA 56 2 55,o 12 (.alloc a0a [.bool false,.slice none 0 0]),mV 11 54,⟨none,none,.store 2 (t 12) (t 56)⟩]
def s0x (F:RK):SS:=[lA 57 0 2,o 58 (.iface (F.p a0n a0m) (t 57)),lA 59 2 12,o 60 (.inv (t 58) [(a0m,k0n),(a0n,j0p)] [t 59] true)] ++ F.p [mV 13 60] [o 13 (.alloc a0a [.bool false,.slice none 0 0]),⟨none,none,.store 2 (t 13) (t 60)⟩]
def o0F (F:RK):SS:=[mV 61 10,mV 62 11,mV 63 10,fA 64 0 3,lD 65 64,mV 66 11,o 67 (.bin 0 .add (t 65) (t 66)),lA 68 0 2,o 69 (.iface (F.p a0n a0m) (t 68))] ++ F.p [mV 70 13] [lA 70 2 13] ++ [o 71 (.inv (t 69) [(a0m,n0K),(a0n,n0M)] [t 70] false)] ++ F.p [mV 72 13] [lA 72 2 13] ++ [o 73 (.ia F.w (t 61) (t 62)),⟨none,none,.store F.w (t 73) (t 71)⟩,o 74 (.ia F.w (t 63) (t 67)),⟨none,none,.store F.w (t 74) (t 72)⟩]
def y0V:SS:=[o 75 (.bin 0 .add (t 52) (i 1)),mV 52 75]
def o0G:SS:=[fA 76 1 3,lD 77 76,lN 78 77,o 79 (.mv (i 0))]
def y0W:SS:=[o 80 (.bin 0 .lss (t 79) (t 78))]
def o0H:SS:=[mV 81 79,iA 82 1 77 79,lD 83 82,mV 14 81,mV 15 83]
def o0I:SS:=[mV 84 8,o 85 (.callv (t 84) [] true),mV 16 85]
def o0J:SS:=[mV 86 15,fA 87 0 3,lD 88 87,o 89 (.sl a0a 2 (t 86) none (some (t 88)) none),lN 90 89,o 91 (.mv (i 0))]
def y0X:SS:=[o 92 (.bin 0 .lss (t 91) (t 90))]
def o0K:SS:=[mV 93 91,iA 94 2 89 91,lA 95 2 94,o 18 (.alloc a0a [.bool false,.slice none 0 0]),mV 17 93,⟨none,none,.store 2 (t 18) (t 95)⟩]
def o0L (F:RK):SS:=[lA 96 0 2,o 97 (.iface (F.p a0n a0m) (t 96)),lA 98 2 18,o 99 (.inv (t 97) [(a0m,k0n),(a0n,j0p)] [t 98] true)] ++ F.p [mV 19 99] [o 19 (.alloc a0a [.bool false,.slice none 0 0]),⟨none,none,.store 2 (t 19) (t 99)⟩]
def o0M (F:RK):SS:=[mV 100 16,mV 101 17,mV 102 16,fA 103 0 3,lD 104 103,mV 105 17,o 106 (.bin 0 .add (t 104) (t 105))] ++ F.p [mV 107 19] [lA 107 2 19] ++ [lA 108 0 2,o 109 (.iface (F.p a0n a0m) (t 108))] ++ F.p [mV 110 19] [lA 110 2 19] ++ [o 111 (.inv (t 109) [(a0m,n0K),(a0n,n0M)] [t 110] false),o 112 (.ia F.w (t 100) (t 101)),⟨none,none,.store F.w (t 112) (t 107)⟩,o 113 (.ia F.w (t 102) (t 106)),⟨none,none,.store F.w (t 113) (t 111)⟩]
def y0Y:SS:=[o 114 (.bin 0 .add (t 91) (i 1)),mV 91 114]
def o0N (F:RK):SS:=[mV 115 16,fA 116 0 3,lD 117 116,o 118 (.bin 0 .mul (i 2) (t 117)),mV 119 14,o 120 (.bin 0 .add (t 118) (t 119)),lD 121 6,cK 122 121,fA 123 4 122,o 124 (.load F.b F.w (t 123)),o 125 (.ia F.w (t 115) (t 120)),⟨none,none,.store F.w (t 125) (t 124)⟩]
def o0O (F:RK):SS:=[mV 126 16,lD 127 6,cK 128 127,fA 129 2 128,lD 130 129,lA 131 0 2,o 132 (.iface (F.p a0n a0m) (t 131)),mV 133 15,fA 134 0 3,lD 135 134,iA 136 2 133 135,lA 137 2 136,o 138 (.inv (t 132) [(a0m,k0n),(a0n,j0p)] [t 137] false),o 139 (.ia F.w (t 126) (t 130)),⟨none,none,.store F.w (t 139) (t 138)⟩]
def o0P:SS:=[fA 140 0 3,lD 141 140,o 142 (.bin 0 .mul (i 2) (t 141)),mV 143 14,o 144 (.bin 0 .add (t 142) (t 143)),mV 20 144]
def o0Q (F:RK):SS:=[lA 145 0 2,o 146 (.iface (F.p a0n a0m) (t 145)),mV 147 16,lD 148 6,cK 149 148,fA 150 2 149,lD 151 150,o 152 (.ia F.w (t 147) (t 151)),o 153 (.load F.b F.w (t 152)),o 154 (.inv (t 146) [(a0m,n0L),(a0n,n0N)] [t 153] true),o 155 (.bin 0 .lss (t 154) (i 0))]
def o0R:SS:=[lD 156 6,cK 157 156,fA 158 2 157,lD 159 158,mV 160 14,o 161 (.bin 0 .add (t 159) (t 160)),mV 20 161]
def o0S:SS:=[mV 162 16,lN 163 162,o 164 (.mv (i 0))]
def y0Z:SS:=[o 165 (.bin 0 .lss (t 164) (t 163))]
def o0T:SS:=[mV 166 164,mV 21 166]
def o0U (F:RK):SS:=[mV 167 16,mV 168 21,lA 169 0 2,o 170 (.iface (F.p a0n a0m) (t 169)),mV 171 16,mV 172 21,o 173 (.ia F.w (t 171) (t 172)),o 174 (.load F.b F.w (t 173)),o 175 (.inv (t 170) [(a0m,n0K),(a0n,n0M)] [t 174] true),o 176 (.ia F.w (t 167) (t 168)),⟨none,none,.store F.w (t 176) (t 175)⟩]
def o0V (F:RK):SS:=[mV 177 9,mV 178 21,lD 179 6,mV 180 9,mV 181 21,o 182 (.ia F.w (t 180) (t 181)),o 183 (.load F.b F.w (t 182)),mV 184 16,mV 185 21,o 186 (.ia F.w (t 184) (t 185)),o 187 (.load F.b F.w (t 186)),o 188 (.call (F.p y0p y0n) [t 179,t 183,t 187] true),o 189 (.ia F.w (t 177) (t 178)),⟨none,none,.store F.w (t 189) (t 188)⟩]
def z0a:SS:=[o 190 (.bin 0 .add (t 164) (i 1)),mV 164 190]
def k0C (F:RK):SS:=[lD 191 6,lD 192 6,lD 193 6,cK 194 193,fA 195 3 194,lD 196 195,mV 197 16,o 198 (.lit (F.p e0K b0G) [.slice none 0 0] 1 [(0,1,t 197)]),o 199 (.app (F.p e0K b0G) 1 24 (t 196) (t 198)),lD 200 6,cK 201 200,o 202 (.fa (F.p 5 6) (t 201)),lD 203 202,mV 204 20,o 205 (.lit g0x [.int .i64 0] 1 [(0,1,t 204)]),o 206 (.app g0x 1 8 (t 203) (t 205)),cK 207 191,fA 208 3 207,⟨none,none,.store 1 (t 208) (t 199)⟩,cK 209 192,o 210 (.fa (F.p 5 6) (t 209)),⟨none,none,.store 1 (t 210) (t 206)⟩]
def z0b:SS:=[o 211 (.bin 0 .add (t 79) (i 1)),mV 79 211]
def o0W (F:RK):SS:=[lD 212 6,lD 213 6,cK 214 213,fA 215 3 214,lD 216 215,mV 217 9,mV 218 10,o 219 (.lit (F.p e0K b0G) [.slice none 0 0] 2 [(0,1,t 217),(1,1,t 218)]),o 220 (.app (F.p e0K b0G) 1 24 (t 216) (t 219)),cK 221 212,fA 222 3 221,⟨none,none,.store 1 (t 222) (t 220)⟩]
def o0X:SS:=[lD 223 6,mV 4 223]
def k0H (F:RK):SF:=⟨2,224,[.tmp 4],
 (qS (gR (s0r F)) (qS (gR s0s) (qS (.draw (h0r F) [0,0,2,0,0,16,48,0,240,0,512,0,3584,8191,16383,0,65535] []) (qS (gR (h0s F)) (qS (gR (s0t F)) (qS (gR s0u) (qS (qS (gR s0v) (.block 0 (.loop (qS (gR B0J) (qS (.cond (t 53) .skip (.exit 0)) (qS (.block 1 (qS (gR s0w) (qS (gR (s0x F)) (.draw (o0F F) [0,0,0,0,8,0,56,0,128,0,896,0,1923,6019,16383,32767] (F.p [(4,13)] [(4,13),(11,13)]))))) (gR y0V))))))) (qS (qS (gR o0G) (.block 2 (.loop (qS (gR y0W) (qS (.cond (t 80) .skip (.exit 2)) (qS (.block 3 (qS (gR o0H) (qS (gR o0I) (qS (qS (gR o0J) (.block 4 (.loop (qS (gR y0X) (qS (.cond (t 92) .skip (.exit 4)) (qS (.block 5 (qS (gR o0K) (qS (gR (o0L F)) (.draw (o0M F) [0,0,0,0,8,0,56,0,0,256,0,1792,3971,8067,16383,32767] [(4,13)])))) (gR y0Y))))))) (qS (.draw (o0N F) [0,0,2,6,0,30,0,64,192,448,1023,2047] []) (qS (.draw (o0O F) [0,0,2,6,14,0,32,0,0,256,896,1920,4064,8191,16383] []) (qS (gR o0P) (qS (qS (.draw (o0Q F) [0,1,0,0,8,24,56,124,252,511,1023] []) (.cond (t 155) (qS (gR o0R) (qS (gR o0S) (.block 6 (.loop (qS (gR y0Z) (qS (.cond (t 165) .skip (.exit 6)) (qS (.block 7 (qS (gR o0T) (qS (.draw (o0U F) [0,0,0,4,0,0,48,112,252,511,1023] []) (.draw (o0V F) [0,0,0,0,0,24,56,0,0,384,896,2044,4095,8191] [])))) (gR z0a)))))))) .skip)) (.draw (k0C F) [0,0,0,4,12,28,0,64,252,0,512,1536,3584,0,8192,32764,65533,131069,262141,524287,1048575,2097151] [(0,8),(1,8),(8,9),(8,12),(8,14),(0,15),(1,15),(1,18)]))))))))) (gR z0b))))))) (qS (.draw (o0W F) [0,0,2,6,14,0,0,96,254,511,1023,2047] [(0,8)]) (qS (gR o0X) .ret))))))))))⟩
def m0S (F:RK):SS:=[o 3 (.box (F.p a0n a0m) (t 0)),o 4 (.box b0j (t 1)),o 5 (.box a0P (t 2)),o 6 (.alloc b0M [.int .i64 0,.bool false,.slice none 0 0,.bool false,.slice none 0 0,.slice none 0 0,.slice none 0 0,.slice none 0 0]),o 7 (.mv (i 0))]
def m0T (F:RK):SS:=[lA 16 0 3,lA 17 8 5,o 18 (.call (t0u F) [t 16,t 17] true),o 8 (.alloc (F.p a0M a0H) [.pointer none]),⟨none,none,.store 1 (t 8) (t 18)⟩]
def m0U:SS:=[lD 19 8,cK 20 19,fA 21 1 20,lD 22 21,lD 23 8,cK 24 23,fA 25 1 24,lD 26 25,o 27 (.bin 0 .add (t 26) (i 1)),mV 9 22,mV 10 27]
def m0V (F:RK):SS:=[lD 28 8,mV 29 9,o 30 (.call (v0W F) [t 28,t 29] true)]
def m0W (F:RK):SS:=[lD 31 8,cK 32 31,o 33 (.fa0 (F.p a0d a0c) (t 32)),lA 34 0 33,o 35 (.iface (F.p a0n a0m) (t 34)),lD 36 8,cK 37 36,fA 38 3 37,lD 39 38,mV 40 9,iA 41 1 39 40,lD 42 41,lD 43 8,cK 44 43,fA 45 2 44,lD 46 45,o 47 (.ia F.w (t 42) (t 46)),o 48 (.load F.b F.w (t 47)),o 49 (.inv (t 35) [(a0m,n0L),(a0n,n0N)] [t 48] true),o 50 (.bin 0 .lss (t 49) (i 0))]
def m0X (F:RK):SS:=[o 51 (.call z0u [i 0] false),lD 52 8,mV 53 9,lA 54 8 5,o 55 (.call z0u [i 1] false),o 56 (.call (l0A F) [t 52,t 53,t 54,t 55] false),o 57 (.build [.int .i64 0,.bool false,.slice none 0 0,.bool false,.slice none 0 0,.slice none 0 0,.slice none 0 0,.slice none 0 0] [(0,1,i 2),(1,4,t 51),(6,1,t 56)]),lD 58 8,cK 59 58,o 60 (.fa (F.p 6 7) (t 59)),lD 61 60,⟨none,none,.store 8 (t 6) (t 57)⟩,mV 7 61]
def m0Y (F:RK):SS:=[lD 62 8,o 63 (.call (A0b F) [t 62] true)]
def m0Z (F:RK):SS:=[lD 64 8,mV 65 10,o 66 (.call (v0W F) [t 64,t 65] true),mV 11 66]
def n0a (F:RK):SS:=[lD 67 8,o 68 (.mkfn (.func (k0m F)) [] [t 8]),o 69 (.call (l0B F) [t 67,t 68] true),mV 12 69]
def n0b:SS:=[mV 70 11,o 71 (.bin 0 .geq (t 70) (i 0))]
def s0A (F:RK):SS:=[o 72 (.call z0u [i 0] false),mV 73 12,lD 74 8,mV 75 11,o 76 (.call (Y0B F) [t 74,t 75] false),o 77 (.build [.int .i64 0,.bool false,.slice none 0 0,.bool false,.slice none 0 0,.slice none 0 0,.slice none 0 0,.slice none 0 0] [(0,1,i 3),(1,4,t 72),(5,1,t 73),(7,1,t 76)]),lD 78 8,cK 79 78,o 80 (.fa (F.p 6 7) (t 79)),lD 81 80,⟨none,none,.store 8 (t 6) (t 77)⟩,mV 7 81]
def l0b:SS:=[o 82 (.call z0u [i 0] true),o 13 (.alloc a0b [.bool false,.slice none 0 0,.bool false,.slice none 0 0]),⟨none,none,.store 4 (t 13) (t 82)⟩]
def l0c:SS:=[fA 83 3 4,lD 84 83,lN 85 84,o 86 (.mv (i 0))]
def s0B:SS:=[o 87 (.bin 0 .lss (t 86) (t 85))]
def l0d:SS:=[mV 88 86,iA 89 4 84 86,lA 90 4 89,o 15 (.alloc a0b [.bool false,.slice none 0 0,.bool false,.slice none 0 0]),mV 14 88,⟨none,none,.store 4 (t 15) (t 90)⟩]
def l0e:SS:=[lA 91 4 13,lA 92 4 15,mV 93 12,mV 94 14,iA 95 4 93 94,lA 96 4 95,o 97 (.call V0l [t 92,t 96] false),o 98 (.call v0X [t 91,t 97] true),⟨none,none,.store 4 (t 13) (t 98)⟩]
def s0C:SS:=[o 99 (.bin 0 .add (t 86) (i 1)),mV 86 99]
def l0f (F:RK):SS:=[lA 100 4 13,mV 101 12,lD 102 8,mV 103 10,lA 104 8 5,fA 105 4 5,lA 106 4 105,o 107 (.call (l0A F) [t 102,t 103,t 104,t 106] false),o 108 (.build [.int .i64 0,.bool false,.slice none 0 0,.bool false,.slice none 0 0,.slice none 0 0,.slice none 0 0,.slice none 0 0] [(0,1,i 1),(1,4,t 100),(5,1,t 101),(6,1,t 107)]),lD 109 8,cK 110 109,o 111 (.fa (F.p 6 7) (t 110)),lD 112 111,⟨none,none,.store 8 (t 6) (t 108)⟩,mV 7 112]
def f0J (F:RK):SF:=⟨3,113,[.cell 6 true 8,.tmp 7],
 (qS (gR (m0S F)) (qS (gR (m0T F)) (qS (.draw m0U [0,1,3,7,0,16,48,112,240,15,1023] []) (qS (gR (m0V F)) (qS (qS (.draw (m0W F) [0,1,3,7,15,0,32,96,224,0,992,2016,0,4096,12288,28672,65504,131040,262143,524287] []) (.cond (t 50) (qS (.draw (m0X F) [0,0,0,0,1,31,63,0,128,384,896,127,4095] [(7,11),(10,11)]) .ret) .skip)) (qS (gR (m0Y F)) (qS (gR (m0Z F)) (qS (gR (n0a F)) (qS (qS (gR n0b) (.cond (t 71) (qS (.draw (s0A F) [0,0,0,0,13,31,0,64,192,448,63,2047] [(6,10),(9,10)]) .ret) .skip)) (qS (gR l0b) (qS (qS (gR l0c) (.block 0 (.loop (qS (gR s0B) (qS (.cond (t 87) .skip (.exit 0)) (qS (.block 1 (qS (gR l0d) (.draw l0e [0,0,0,0,12,28,62,127,255] []))) (gR s0C))))))) (qS (.draw (l0f F) [0,0,0,0,0,0,32,124,255,0,512,1536,3584,511,16383] [(9,13),(12,13)]) .ret))))))))))))⟩
def h0t (F:RK):SS:=F.p [o 3 (.mv (i 0))] [o 3 (.alloc a0a [.bool false,.slice none 0 0])]
def h0u (F:RK):SS:=[lD 4 1,cK 5 4,fA 6 3 5,lD 7 6,mV 8 0,iA 9 1 7 8,lD 10 9,lD 11 1,cK 12 11,fA 13 2 12,lD 14 13,o 15 (.ia F.w (t 10) (t 14)),o 16 (.load F.b F.w (t 15))] ++ F.p [mV 3 16] [⟨none,none,.store 2 (t 3) (t 16)⟩]
def e0n (F:RK):SF:=⟨2,17,(F.p [.tmp 3] [.cell 3 true 2]),
 (qS (gR (h0t F)) (qS (.draw (h0u F) [0,1,3,7,0,31,63,0,128,384,896,2047,4095,8191] []) .ret))⟩
def o0y:SS:=[o 6 (.box a0P (t 2)),o 7 (.box a0b (t 3)),o 8 (.mv (.const (.slice none 0 0)))]
def o0z:SS:=[o 9 (.mv (.const (.slice none 0 0)))]
def o0A:SS:=[mV 13 0,cK 14 13,fA 15 1 14,lD 16 15,o 17 (.mv (i 0))]
def y0T:SS:=[o 18 (.bin 0 .lss (t 17) (t 16))]
def o0B:SS:=[mV 19 17,mV 10 19]
def o0C (F:RK):SS:=[mV 21 0,mV 22 0,cK 23 22,fA 24 3 23,lD 25 24,mV 26 1,iA 27 1 25 26,lD 28 27,mV 29 0,cK 30 29,fA 31 0 30,lD 32 31,o 33 (.bin 0 .mul (i 2) (t 32)),mV 34 10,o 35 (.bin 0 .add (t 33) (t 34)),o 36 (.ia F.w (t 28) (t 35)),o 37 (.load F.b F.w (t 36)),o 38 (.call (F.p r0K r0J) [t 21,t 37] false),fA 39 2 6,lD 40 39,mV 41 10,iA 42 4 40 41,lA 43 4 42,o 44 (.call V0l [t 38,t 43] false),lA 45 4 7,o 46 (.call A0p [t 44,t 45] false),mV 20 46,o 47 (.ext (t 20) 0),o 48 (.ext (t 20) 1),o 11 (.alloc a0b [.bool false,.slice none 0 0,.bool false,.slice none 0 0]),⟨none,none,.store 4 (t 11) (t 47)⟩,mV 12 48]
def o0D:SS:=[mV 49 9,lA 50 4 11,o 51 (.lit a0b [.bool false,.slice none 0 0,.bool false,.slice none 0 0] 1 [(0,4,t 50)]),o 52 (.app a0b 4 64 (t 49) (t 51)),mV 9 52]
def y0U:SS:=[o 53 (.bin 0 .add (t 17) (i 1)),mV 17 53]
def o0E:SS:=[mV 54 9,mV 8 54]
def h0T (F:RK):SF:=⟨4,55,[.tmp 8],
 (qS (gR o0y) (qS (gR o0z) (qS (qS (gR o0A) (.block 0 (.loop (qS (gR y0T) (qS (.cond (t 18) .skip (.exit 0)) (qS (.block 1 (qS (gR o0B) (qS (.draw (o0C F) [0,0,2,6,14,0,62,126,0,256,768,1792,3840,0,16128,32766,65534,131071,0,262144,0,1835008,3932160,8388607,0,33554431,67108863,134217727,134217727,0,805306367,2147483647] []) (gR o0D)))) (gR y0U))))))) (qS (gR o0E) .ret))))⟩
def m0E:SS:=[o 4 (.mv (i 0))]
def m0F:SS:=[o 5 (.mv (.const (.int .i64 (-1))))]
def m0G:SS:=[mV 8 0,cK 9 8,fA 10 1 9,lD 11 10,o 12 (.mv (i 0))]
def t0Y:SS:=[o 13 (.bin 0 .lss (t 12) (t 11))]
def m0H:SS:=[mV 14 12,mV 6 14]
def m0I (F:RK):SS:=[mV 15 0,cK 16 15,o 17 (.fa0 (F.p a0d a0c) (t 16)),lA 18 0 17,o 19 (.iface (F.p a0n a0m) (t 18)),mV 20 0,cK 21 20,fA 22 3 21,lD 23 22,mV 24 6,iA 25 1 23 24,lD 26 25,mV 27 1,o 28 (.ia F.w (t 26) (t 27)),o 29 (.load F.b F.w (t 28)),o 30 (.inv (t 19) [(a0m,n0L),(a0n,n0N)] [t 29] true),o 31 (.bin 0 .leq (t 30) (i 0))]
def m0J:SS:=[mV 32 5,o 33 (.bin 0 .lss (t 32) (i 0))]
def m0K:SS:=[mV 34 6,mV 5 34]
def m0L (F:RK):SS:=[mV 35 0,cK 36 35,o 37 (.fa0 (F.p a0d a0c) (t 36)),lA 38 0 37,o 39 (.iface (F.p a0n a0m) (t 38)),mV 40 0,cK 41 40,fA 42 3 41,lD 43 42,mV 44 6,iA 45 1 43 44,lD 46 45,mV 47 0,cK 48 47,fA 49 2 48,lD 50 49,o 51 (.ia F.w (t 46) (t 50)),o 52 (.load F.b F.w (t 51)),mV 53 0,cK 54 53,fA 55 3 54,lD 56 55,mV 57 5,iA 58 1 56 57,lD 59 58,mV 60 1,o 61 (.ia F.w (t 59) (t 60)),o 62 (.load F.b F.w (t 61)),mV 63 0,cK 64 63,fA 65 3 64,lD 66 65,mV 67 5,iA 68 1 66 67,lD 69 68,mV 70 0,cK 71 70,fA 72 2 71,lD 73 72,o 74 (.ia F.w (t 69) (t 73)),o 75 (.load F.b F.w (t 74)),mV 76 0,cK 77 76,fA 78 3 77,lD 79 78,mV 80 6,iA 81 1 79 80,lD 82 81,mV 83 1,o 84 (.ia F.w (t 82) (t 83)),o 85 (.load F.b F.w (t 84)),o 86 (.inv (t 39) [(a0m,y0r),(a0n,y0s)] [t 52,t 62,t 75,t 85] true),mV 7 86]
def g0l (F:RK):SS:=[mV 87 7,o 88 (.bin 0 .lss (t 87) (i 0)),mV 89 88,og 90 89 false (.mv (t 7)),og 91 89 false (.bin 0 .eql (t 90) (i 0)),og 92 89 false (.mv (t 91)),og 93 92 true (.mv (t 0)),og 94 92 true (.chk (t 93)),og 95 92 true (.fa (F.p 5 6) (t 94)),og 96 92 true (.load false 1 (t 95)),og 97 92 true (.mv (t 6)),og 98 92 true (.ia 1 (t 96) (t 97)),og 99 92 true (.load false 1 (t 98)),og 100 92 true (.mv (t 0)),og 101 92 true (.chk (t 100)),og 102 92 true (.fa (F.p 5 6) (t 101)),og 103 92 true (.load false 1 (t 102)),og 104 92 true (.mv (t 5)),og 105 92 true (.ia 1 (t 103) (t 104)),og 106 92 true (.load false 1 (t 105)),og 107 92 true (.bin 0 .lss (t 99) (t 106)),og 108 89 false (.pick (t 92) (t 107) (.const (.bool false))),o 109 (.pick (t 89) (.const (.bool true)) (t 108))]
def h0q:SS:=[mV 110 6,mV 5 110]
def s0q:SS:=[o 111 (.bin 0 .add (t 12) (i 1)),mV 12 111]
def l0a:SS:=[mV 112 5,mV 4 112]
def f0I (F:RK):SF:=⟨2,113,[.tmp 4],
 (qS (gR m0E) (qS (gR m0F) (qS (qS (gR m0G) (.block 0 (.loop (qS (gR t0Y) (qS (.cond (t 13) .skip (.exit 0)) (qS (.block 1 (qS (gR m0H) (qS (qS (.draw (m0I F) [0,1,3,7,15,0,32,96,224,0,992,2016,0,8160,16352,32767,65535] []) (.cond (t 31) (.exit 1) .skip)) (qS (qS (gR m0J) (.cond (t 33) (qS (gR m0K) (.exit 1)) .skip)) (qS (.draw (m0L F) [0,1,3,7,15,0,32,96,224,0,992,2016,0,4096,12288,28672,65504,131040,0,262144,786432,1835008,0,8126464,16515072,0,66846720,133955584,0,268435456,805306368,1879048192,0,8321499136,16911433728,0,34359738368,103079215104,240518168576,549487378432,1099243192320,0,2199023255552,6597069766656,15393162788864,0,68169720922112,138538465099776,0,560750930165760,1123700883587072,2251799813685247,4503599627370495] []) (qS (.draw (g0l F) [0,1,3,7,15,31,63,127,255,511,63,2047,4095,63,8255,24639,57407,63,254015,516159,1048575,2097151,4194303] []) (.cond (t 109) (gR h0q) .skip))))))) (gR s0q))))))) (qS (gR l0a) .ret))))⟩
def w0p:SS:=[mV 7 0,cK 8 7,fA 9 1 8,lD 10 9,o 11 (.mv (i 0))]
def L0E:SS:=[o 12 (.bin 0 .lss (t 11) (t 10))]
def w0q:SS:=[mV 13 11,mV 2 13]
def q0p (F:RK):SS:=[mV 14 0,cK 15 14,o 16 (.fa (F.p 5 6) (t 15)),lD 17 16,mV 18 2,iA 19 1 17 18,lD 20 19,mV 21 0,cK 22 21,fA 23 2 22,lD 24 23,o 25 (.bin 0 .lss (t 20) (t 24))]
def w0r:SS:=[mV 26 0,cK 27 26,fA 28 2 27,lD 29 28,o 30 (.mv (i 0))]
def L0F:SS:=[o 31 (.bin 0 .lss (t 30) (t 29))]
def w0s:SS:=[mV 32 30,mV 3 32]
def w0t (F:RK):SS:=[mV 33 0,cK 34 33,o 35 (.fa0 (F.p a0d a0c) (t 34)),lA 36 0 35,o 37 (.iface (F.p a0n a0m) (t 36)),mV 38 0,cK 39 38,fA 40 3 39,lD 41 40,mV 42 2,iA 43 1 41 42,lD 44 43,mV 45 3,o 46 (.ia F.w (t 44) (t 45)),o 47 (.load F.b F.w (t 46)),o 48 (.inv (t 37) [(a0m,n0L),(a0n,n0N)] [t 47] true),mV 4 48]
def l0E:SS:=[mV 49 4,o 50 (.bin 0 .eql (t 49) (i 0))]
def q0q:SS:=[mV 51 4,o 52 (.bin 0 .lss (t 51) (i 0))]
def s0y:SS:=[mV 53 0,cK 54 53,fA 55 3 54,lD 56 55,mV 57 2,iA 58 1 56 57,lD 59 58,lN 60 59,o 61 (.mv (i 0))]
def B0K:SS:=[o 62 (.bin 0 .lss (t 61) (t 60))]
def j0J (F:RK):SS:=[mV 63 61,o 64 (.ia F.w (t 59) (t 61)),o 65 (.load F.b F.w (t 64))] ++ F.p [] [o 6 (.alloc a0a [.bool false,.slice none 0 0])] ++ [mV 5 63] ++ F.p [mV 6 65] [⟨none,none,.store 2 (t 6) (t 65)⟩]
def s0z (F:RK):SS:=[mV 66 0,cK 67 66,fA 68 3 67,lD 69 68,mV 70 2,iA 71 1 69 70,lD 72 71,mV 73 5,mV 74 0,cK 75 74,o 76 (.fa0 (F.p a0d a0c) (t 75)),lA 77 0 76,o 78 (.iface (F.p a0n a0m) (t 77))] ++ F.p [mV 79 6] [lA 79 2 6] ++ [o 80 (.inv (t 78) [(a0m,n0K),(a0n,n0M)] [t 79] false),o 81 (.ia F.w (t 72) (t 73)),⟨none,none,.store F.w (t 81) (t 80)⟩]
def B0L:SS:=[o 82 (.bin 0 .add (t 61) (i 1)),mV 61 82]
def m0M (F:RK):SS:=[mV 83 0,mV 84 2,mV 85 3,o 86 (.call (F.p t0A t0z) [t 83,t 84,t 85] true)]
def B0M:SS:=[o 87 (.bin 0 .add (t 30) (i 1)),mV 30 87]
def B0N:SS:=[o 88 (.bin 0 .add (t 11) (i 1)),mV 11 88]
def p0h (F:RK):SF:=⟨1,89,[],
 (qS (gR w0p) (.block 0 (.loop (qS (gR L0E) (qS (.cond (t 12) .skip (.exit 0)) (qS (.block 1 (qS (gR w0q) (qS (qS (.draw (q0p F) [0,1,3,7,0,31,63,0,128,384,896,2047] []) (.cond (t 25) (.exit 1) .skip)) (qS (gR w0r) (.block 2 (.loop (qS (gR L0F) (qS (.cond (t 31) .skip (.exit 2)) (qS (.block 3 (qS (gR w0s) (qS (.draw (w0t F) [0,1,3,7,15,0,32,96,224,0,992,2016,0,8160,16352,32767,65535] []) (qS (qS (gR l0E) (.cond (t 50) (.exit 3) .skip)) (qS (qS (gR q0q) (.cond (t 52) (qS (gR s0y) (.block 4 (.loop (qS (gR B0K) (qS (.cond (t 62) .skip (.exit 4)) (qS (.block 5 (qS (gR (j0J F)) (.draw (s0z F) [0,1,3,7,0,31,63,0,0,256,768,1792,3840,0,16128,32767,65535] []))) (gR B0L))))))) .skip)) (qS (gR (m0M F)) (.exit 2))))))) (gR B0M)))))))))) (gR B0N)))))))⟩
def o0Y:SS:=[o 4 (.mv (.const (.slice none 0 0)))]
def o0Z:SS:=[mV 9 0,cK 10 9,fA 11 0 10,lD 12 11,o 13 (.mk a0b 64 [.bool false,.slice none 0 0,.bool false,.slice none 0 0] (t 12) (t 12)),mV 5 13]
def p0a:SS:=[mV 14 5,lN 15 14,o 16 (.mv (i 0))]
def z0c:SS:=[o 17 (.bin 0 .lss (t 16) (t 15))]
def p0b:SS:=[mV 18 16,mV 6 18]
def p0c:SS:=[mV 19 5,mV 20 6,o 21 (.call z0u [i 0] true),iA 22 4 19 20,⟨none,none,.store 4 (t 22) (t 21)⟩]
def z0d:SS:=[o 23 (.bin 0 .add (t 16) (i 1)),mV 16 23]
def p0d (F:RK):SS:=[mV 24 0,cK 25 24,o 26 (.fa (F.p 5 6) (t 25)),lD 27 26,lN 28 27,o 29 (.mv (i 0))]
def z0e:SS:=[o 30 (.bin 0 .lss (t 29) (t 28))]
def p0e:SS:=[mV 31 29,iA 32 1 27 29,lD 33 32,mV 7 31,mV 8 33]
def m0N:SS:=[mV 35 8,mV 36 0,cK 37 36,fA 38 0 37,lD 39 38,o 40 (.bin 0 .lss (t 35) (t 39)),mV 34 40]
def m0O (F:RK):SS:=[mV 41 5,mV 42 8,mV 43 5,mV 44 8,iA 45 4 43 44,lA 46 4 45,mV 47 0,mV 48 1,mV 49 7,o 50 (.callv (t 48) [t 49] false),o 51 (.call (F.p r0K r0J) [t 47,t 50] false),o 52 (.call v0X [t 46,t 51] true),iA 53 4 41 42,⟨none,none,.store 4 (t 53) (t 52)⟩]
def m0P:SS:=[mV 55 8,mV 56 0,cK 57 56,fA 58 0 57,lD 59 58,o 60 (.bin 0 .mul (i 2) (t 59)),o 61 (.bin 0 .lss (t 55) (t 60)),mV 54 61]
def m0Q (F:RK):SS:=[mV 62 5,mV 63 8,mV 64 0,cK 65 64,fA 66 0 65,lD 67 66,o 68 (.bin 0 .sub (t 63) (t 67)),mV 69 5,mV 70 8,mV 71 0,cK 72 71,fA 73 0 72,lD 74 73,o 75 (.bin 0 .sub (t 70) (t 74)),iA 76 4 69 75,lA 77 4 76,mV 78 0,mV 79 1,mV 80 7,o 81 (.callv (t 79) [t 80] false),o 82 (.call (F.p r0K r0J) [t 78,t 81] false),o 83 (.call y0o [t 77,t 82] false),iA 84 4 62 68,⟨none,none,.store 4 (t 84) (t 83)⟩]
def t0Z:SS:=[o 85 (.bin 0 .add (t 29) (i 1)),mV 29 85]
def m0R:SS:=[mV 86 5,mV 4 86]
def h0U (F:RK):SF:=⟨2,87,[.tmp 4],
 (qS (gR o0Y) (qS (gR o0Z) (qS (qS (gR p0a) (.block 0 (.loop (qS (gR z0c) (qS (.cond (t 17) .skip (.exit 0)) (qS (.block 1 (qS (gR p0b) (gR p0c))) (gR z0d))))))) (qS (qS (gR (p0d F)) (.block 2 (.loop (qS (gR z0e) (qS (.cond (t 30) .skip (.exit 2)) (qS (.block 3 (qS (gR p0e) (.block 4 (qS (gR m0N) (.cond (t 34) (.draw (m0O F) [0,0,0,0,12,28,0,0,0,384,960,2044,4095,8191] []) (qS (gR m0P) (.cond (t 54) (.draw (m0Q F) [0,0,0,4,12,28,62,0,0,0,512,1536,3584,7936,16256,32640,0,0,0,393216,983040,2097024,4194303,8388607] []) .skip))))))) (gR t0Z))))))) (qS (gR m0R) .ret)))))⟩
def L0G (F:RK):SS:=[o 2 (.box (F.p a0M a0H) (t 0)),o 3 (.box g0x (t 1)),o 4 (.mv (.const (.slice none 0 0)))]
def L0H (F:RK):SS:=[lD 6 2,o 7 (.mkfn (.func (U0Q F)) [] [t 2,t 3]),o 8 (.call (l0B F) [t 6,t 7] true),mV 5 8]
def L0I:SS:=[lD 10 3,lD 11 2,cK 12 11,fA 13 0 12,lD 14 13,o 15 (.bin 0 .lss (t 10) (t 14)),mV 9 15]
def L0J:SS:=[mV 16 5,lD 17 3,mV 18 5,lD 19 3,iA 20 4 18 19,lA 21 4 20,o 22 (.call z0u [i 1] false),o 23 (.call v0X [t 21,t 22] false),iA 24 4 16 17,⟨none,none,.store 4 (t 24) (t 23)⟩]
def L0K:SS:=[lD 26 3,lD 27 2,cK 28 27,fA 29 0 28,lD 30 29,o 31 (.bin 0 .mul (i 2) (t 30)),o 32 (.bin 0 .lss (t 26) (t 31)),mV 25 32]
def L0L:SS:=[mV 33 5,lD 34 3,lD 35 2,cK 36 35,fA 37 0 36,lD 38 37,o 39 (.bin 0 .sub (t 34) (t 38)),mV 40 5,lD 41 3,lD 42 2,cK 43 42,fA 44 0 43,lD 45 44,o 46 (.bin 0 .sub (t 41) (t 45)),iA 47 4 40 46,lA 48 4 47,o 49 (.call z0u [i 1] false),o 50 (.call y0o [t 48,t 49] false),iA 51 4 33 39,⟨none,none,.store 4 (t 51) (t 50)⟩]
def L0M:SS:=[mV 52 5,mV 4 52]
def x0E (F:RK):SF:=⟨2,53,[.tmp 4],
 (qS (gR (L0G F)) (qS (gR (L0H F)) (qS (.block 0 (qS (.draw L0I [0,0,2,6,14,31,63] []) (.cond (t 9) (.draw L0J [0,0,0,0,12,28,0,124,255,511] []) (qS (.draw L0K [0,0,2,6,14,30,63,127] []) (.cond (t 25) (.draw L0L [0,0,0,4,12,28,62,0,0,0,512,1536,3584,7936,16256,32640,0,130944,262143,524287] []) .skip))))) (qS (gR L0M) .ret))))⟩
def B0O (F:RK):SS:=F.p [o 4 (.mv (i 0))] [o 4 (.alloc a0a [.bool false,.slice none 0 0])]
def B0P (F:RK):SS:=[lD 5 1,cK 6 5,o 7 (.fa0 (F.p a0d a0c) (t 6)),lA 8 0 7,o 9 (.iface (F.p a0n a0m) (t 8)),lD 10 1,cK 11 10,fA 12 3 11,lD 13 12,mV 14 0,iA 15 1 13 14,lD 16 15,lD 17 2,o 18 (.ia F.w (t 16) (t 17)),o 19 (.load F.b F.w (t 18)),o 20 (.inv (t 9) [(a0m,n0K),(a0n,n0M)] [t 19] true)] ++ F.p [mV 4 20] [⟨none,none,.store 2 (t 4) (t 20)⟩]
def r0e (F:RK):SF:=⟨3,21,(F.p [.tmp 4] [.cell 4 true 2]),
 (qS (gR (B0O F)) (qS (.draw (B0P F) [0,1,3,7,15,0,32,96,224,0,992,2016,0,8160,16352,32767,65535] []) .ret))⟩
def w0u:SS:=[o 4 (.mv (i 0))]
def w0v:SS:=[o 5 (.mv (i 0))]
def q0r (F:RK):SS:=[mV 7 5,mV 8 0,cK 9 8,fA 10 2 9,lD 11 10,o 12 (.bin 0 .lss (t 7) (t 11)),mV 13 12,og 14 13 true (.mv (t 0)),og 15 13 true (.chk (t 14)),og 16 13 true (.fa0 (F.p a0d a0c) (t 15)),og 17 13 true (.load true 0 (t 16)),og 18 13 true (.iface (F.p a0n a0m) (t 17)),og 19 13 true (.mv (t 0)),og 20 13 true (.chk (t 19)),og 21 13 true (.fa 3 (t 20)),og 22 13 true (.load false 1 (t 21)),og 23 13 true (.mv (t 1)),og 24 13 true (.ia 1 (t 22) (t 23)),og 25 13 true (.load false 1 (t 24)),og 26 13 true (.mv (t 5)),og 27 13 true (.ia F.w (t 25) (t 26)),og 28 13 true (.load F.b F.w (t 27)),og 29 13 true (.inv (t 18) [(a0m,n0L),(a0n,n0N)] [t 28] true),og 30 13 true (.bin 0 .geq (t 29) (i 0)),o 31 (.pick (t 13) (t 30) (.const (.bool false)))]
def w0w:SS:=[mV 32 5,o 33 (.bin 0 .add (t 32) (i 1)),mV 5 33]
def q0s:SS:=[mV 34 5,mV 35 0,cK 36 35,fA 37 2 36,lD 38 37,o 39 (.bin 0 .eql (t 34) (t 38))]
def w0x:SS:=[o 4 (.mv (.const (.int .i64 (-1))))]
def w0y (F:RK):SS:=[mV 40 0,mV 41 5,o 42 (.call (m0c F) [t 40,t 41] true),mV 6 42]
def q0t:SS:=[mV 43 6,o 44 (.bin 0 .lss (t 43) (i 0))]
def w0z:SS:=[mV 45 5,mV 4 45]
def w0A (F:RK):SS:=[mV 46 0,mV 47 6,mV 48 5,o 49 (.call (F.p t0A t0z) [t 46,t 47,t 48] true)]
def p0i (F:RK):SF:=⟨2,50,[.tmp 4],
 (qS (gR w0u) (.block 0 (.loop (.block 1 (qS (gR w0v) (qS (.block 2 (.loop (qS (qS (.draw (q0r F) [0,0,2,6,14,31,63,127,255,511,1023,2047,127,4223,12415,28799,127,127103,258175,127,1044607,2093183,4194303,8388607,16777215] []) (.cond (t 31) .skip (.exit 2))) (.block 3 (gR w0w))))) (qS (qS (gR q0s) (.cond (t 39) (qS (gR w0x) .ret) .skip)) (qS (gR (w0y F)) (qS (qS (gR q0t) (.cond (t 44) (qS (gR w0z) .ret) .skip)) (gR (w0A F)))))))))))⟩
def t0p:List (Nat × v0D):=[
 (f_5,s_5),
 (A0g,b1s),
 (N0K,b1t),
 (W0U,b1u),
 (Y0C,b1v),
 (N0L,b1w),
 (Y0D,b1x),
 (Y0E,b1z),
 (Y0F,a1w),
 (Y0G,b1A),
 (Y0H,b1B),
 (W0V,b1C),
 (W0W,b1D),
 (W0X,b1E),
 (W0Y,b1F),
 (Y0I,b1G),
 (W0Z,b1H),
 (Y0J,b1I),
 (K0Z,b1J),
 (V0j,b1K),
 (Y0K,b1L),
 (Y0L,b1M),
 (X0a,b1N),
 (X0b,b1O),
 (X0c,b1P),
 (L0a,b1Q),
 (Y0M,b1R),
 (X0d,b1S),
 (X0e,b1T),
 (Y0N,b1U),
 (X0f,b1V),
 (v0X,b1W),
 (X0g,a1x),
 (Y0O,b1X),
 (V0k,b1Y),
 (Y0P,b1Z),
 (X0h,c1a),
 (X0i,c1b),
 (Y0Q,c1c),
 (X0j,c1d),
 (Y0R,c1e),
 (X0k,c1f),
 (v0Y,c1g),
 (Y0S,c1h),
 (A0z,c1i),
 (t0C,c1j),
 (Y0T,c1k),
 (Y0U,c1l),
 (X0l,c1m),
 (Y0V,c1n),
 (N0N,c1o),
 (X0m,c1p),
 (X0n,c1q),
 (Y0W,c1r),
 (y0u,c1s),
 (X0o,c1t),
 (Y0X,c1u),
 (K0s,c1v),
 (p0M,c1w),
 (z0u,c1x),
 (V0l,c1y),
 (X0p,c1z),
 (Y0Y,c1A),
 (V0m,c1B),
 (Y0Z,c1C),
 (V0n,c1D),
 (Z0a,c1E),
 (Z0b,c1F),
 (A0c,L0Z),
 (i0Q,M0a),
 (A0d,M0b),
 (m0e,M0c),
 (A0e,M0d),
 (A0f,M0e),
 (A0h,M0f),
 (K0Y,f0J .all),
 (A0i,M0g),
 (y0d,M0h),
 (y0e,M0i),
 (y0f,M0j),
 (t0v,M0k),
 (p0J,M0l),
 (f0O,M0m),
 (e0j,M0n),
 (g0z,M0o),
 (A0j,M0p),
 (r0D,M0q),
 (y0g,M0r),
 (f0P,M0s),
 (l0m,M0t),
 (m0f,M0u),
 (y0h,M0v),
 (t0w,M0w),
 (r0E,M0x),
 (y0i,M0y),
 (r0F,M0z),
 (t0x,M0A),
 (A0k,M0B),
 (y0j,M0C),
 (y0k,M0D),
 (r0G,f0J .few),
 (U0R,k0H .all),
 (U0S,p0i .all),
 (U0T,h0T .all),
 (U0U,p0h .all),
 (U0V,h0U .all),
 (U0W,e0n .all),
 (U0X,x0E .all),
 (y0l,M0E),
 (A0l,M0F),
 (t0y,z0k),
 (r0H,M0G),
 (r0I,M0H),
 (m0g,M0I),
 (A0m,M0J),
 (A0n,M0K),
 (A0o,M0L),
 (y0m,M0M),
 (U0Y,k0H .few),
 (U0Z,p0i .few),
 (V0a,h0T .few),
 (V0b,p0h .few),
 (V0c,h0U .few),
 (V0d,e0n .few),
 (V0e,x0E .few),
 (n0I,M0N),
 (y0n,M0O),
 (V0f,f0I .all),
 (t0z,M0P),
 (A0p,M0Q),
 (r0J,M0R),
 (y0o,M0S),
 (V0g,r0e .all),
 (A0q,M0T),
 (A0r,M0U),
 (A0s,M0V),
 (n0J,M0W),
 (y0p,M0X),
 (V0h,f0I .few),
 (t0A,M0Y),
 (r0K,M0Z),
 (V0i,r0e .few),
 (A0t,N0a),
 (y0q,N0b),
 (A0u,N0c),
 (A0v,N0d),
 (A0w,N0e),
 (y0r,N0f),
 (n0K,N0g),
 (r0L,N0h),
 (k0n,N0i),
 (n0L,N0j),
 (p0K,N0k),
 (A0x,N0l),
 (y0s,N0m),
 (n0M,N0n),
 (r0M,N0o),
 (j0p,J0U),
 (n0N,N0p),
 (p0L,N0q),
 (y0t,N0r),
 (A0y,N0s),
 (t0B,J0V)]
def p0y:List (Nat × v0D):=[(N0M,b1y)]
def env:Env:=⟨fun f=>(t0p ++ p0y).lookup f,some ⟨p0I,r0G,[.int .i64 0,.bool false,.slice none 0 0,.bool false,.slice none 0 0,.slice none 0 0,.slice none 0 0,.slice none 0 0],4,8⟩,[]⟩
theorem e_5:env.code f_5=some s_5:=rfl
theorem f1Z:env.code A0g=some b1s:=rfl
theorem g1a:env.code N0K=some b1t:=rfl
theorem g1b:env.code W0U=some b1u:=rfl
theorem g1c:env.code Y0C=some b1v:=rfl
theorem g1d:env.code N0L=some b1w:=rfl
theorem g1e:env.code Y0D=some b1x:=rfl
theorem g1g:env.code Y0E=some b1z:=rfl
theorem g1h:env.code Y0F=some a1w:=rfl
theorem g1i:env.code Y0G=some b1A:=rfl
theorem g1j:env.code Y0H=some b1B:=rfl
theorem g1k:env.code W0V=some b1C:=rfl
theorem g1l:env.code W0W=some b1D:=rfl
theorem g1m:env.code W0X=some b1E:=rfl
theorem g1n:env.code W0Y=some b1F:=rfl
theorem g1o:env.code Y0I=some b1G:=rfl
theorem g1p:env.code W0Z=some b1H:=rfl
theorem g1q:env.code Y0J=some b1I:=rfl
theorem g1r:env.code K0Z=some b1J:=rfl
theorem g1s:env.code V0j=some b1K:=rfl
theorem g1t:env.code Y0K=some b1L:=rfl
theorem g1u:env.code Y0L=some b1M:=rfl
theorem g1v:env.code X0a=some b1N:=rfl
theorem g1w:env.code X0b=some b1O:=rfl
theorem g1x:env.code X0c=some b1P:=rfl
theorem g1y:env.code L0a=some b1Q:=rfl
theorem g1z:env.code Y0M=some b1R:=rfl
theorem g1A:env.code X0d=some b1S:=rfl
theorem g1B:env.code X0e=some b1T:=rfl
theorem g1C:env.code Y0N=some b1U:=rfl
theorem g1D:env.code X0f=some b1V:=rfl
theorem g1E:env.code v0X=some b1W:=rfl
theorem f1C:env.code X0g=some a1x:=rfl
theorem g1F:env.code Y0O=some b1X:=rfl
theorem g1G:env.code V0k=some b1Y:=rfl
theorem g1H:env.code Y0P=some b1Z:=rfl
theorem g1I:env.code X0h=some c1a:=rfl
theorem g1J:env.code X0i=some c1b:=rfl
theorem g1K:env.code Y0Q=some c1c:=rfl
theorem g1L:env.code X0j=some c1d:=rfl
theorem g1M:env.code Y0R=some c1e:=rfl
theorem g1N:env.code X0k=some c1f:=rfl
theorem g1O:env.code v0Y=some c1g:=rfl
theorem g1P:env.code Y0S=some c1h:=rfl
theorem g1Q:env.code A0z=some c1i:=rfl
theorem g1R:env.code t0C=some c1j:=rfl
theorem g1S:env.code Y0T=some c1k:=rfl
theorem g1T:env.code Y0U=some c1l:=rfl
theorem g1U:env.code X0l=some c1m:=rfl
theorem g1V:env.code Y0V=some c1n:=rfl
theorem g1W:env.code N0N=some c1o:=rfl
theorem g1X:env.code X0m=some c1p:=rfl
theorem g1Y:env.code X0n=some c1q:=rfl
theorem g1Z:env.code Y0W=some c1r:=rfl
theorem h1a:env.code y0u=some c1s:=rfl
theorem h1b:env.code X0o=some c1t:=rfl
theorem h1d:env.code Y0X=some c1u:=rfl
theorem h1e:env.code K0s=some c1v:=rfl
theorem h1f:env.code p0M=some c1w:=rfl
theorem h1g:env.code z0u=some c1x:=rfl
theorem h1h:env.code V0l=some c1y:=rfl
theorem h1i:env.code X0p=some c1z:=rfl
theorem h1j:env.code Y0Y=some c1A:=rfl
theorem h1k:env.code V0m=some c1B:=rfl
theorem h1l:env.code Y0Z=some c1C:=rfl
theorem h1m:env.code V0n=some c1D:=rfl
theorem h1n:env.code Z0a=some c1E:=rfl
theorem h1o:env.code Z0b=some c1F:=rfl
theorem d1G:env.code A0c=some L0Z:=rfl
theorem d1H:env.code i0Q=some M0a:=rfl
theorem d1I:env.code A0d=some M0b:=rfl
theorem d1J:env.code m0e=some M0c:=rfl
theorem d1K:env.code A0e=some M0d:=rfl
theorem d1L:env.code A0f=some M0e:=rfl
theorem d1M:env.code A0h=some M0f:=rfl
theorem z0Y {F:RK}:env.code (m0d F)=some (f0J F):=by cases F <;> rfl
theorem d1N:env.code A0i=some M0g:=rfl
theorem d1O:env.code y0d=some M0h:=rfl
theorem d1P:env.code y0e=some M0i:=rfl
theorem d1Q:env.code y0f=some M0j:=rfl
theorem d1R:env.code t0v=some M0k:=rfl
theorem d1S:env.code p0J=some M0l:=rfl
theorem d1T:env.code f0O=some M0m:=rfl
theorem d1U:env.code e0j=some M0n:=rfl
theorem d1V:env.code g0z=some M0o:=rfl
theorem d1W:env.code A0j=some M0p:=rfl
theorem d1X:env.code r0D=some M0q:=rfl
theorem d1Y:env.code y0g=some M0r:=rfl
theorem d1Z:env.code f0P=some M0s:=rfl
theorem e1a:env.code l0m=some M0t:=rfl
theorem e1b:env.code m0f=some M0u:=rfl
theorem e1c:env.code y0h=some M0v:=rfl
theorem e1d:env.code t0w=some M0w:=rfl
theorem e1e:env.code r0E=some M0x:=rfl
theorem e1f:env.code y0i=some M0y:=rfl
theorem e1g:env.code r0F=some M0z:=rfl
theorem e1h:env.code t0x=some M0A:=rfl
theorem e1i:env.code A0k=some M0B:=rfl
theorem e1j:env.code y0j=some M0C:=rfl
theorem e1k:env.code y0k=some M0D:=rfl
theorem U0N {F:RK}:env.code (t0u F)=some (k0H F):=by cases F <;> rfl
theorem Y0w {F:RK}:env.code (v0W F)=some (p0i F):=by cases F <;> rfl
theorem K0V {F:RK}:env.code (l0A F)=some (h0T F):=by cases F <;> rfl
theorem Y0v {F:RK}:env.code (A0b F)=some (p0h F):=by cases F <;> rfl
theorem K0W {F:RK}:env.code (l0B F)=some (h0U F):=by cases F <;> rfl
theorem y0b {F:RK}:env.code (k0m F)=some (e0n F):=by cases F <;> rfl
theorem e1l:env.code y0l=some M0E:=rfl
theorem e1m:env.code A0l=some M0F:=rfl
theorem e1n:env.code t0y=some z0k:=rfl
theorem e1o:env.code r0H=some M0G:=rfl
theorem e1p:env.code r0I=some M0H:=rfl
theorem e1q:env.code m0g=some M0I:=rfl
theorem e1r:env.code A0m=some M0J:=rfl
theorem e1s:env.code A0n=some M0K:=rfl
theorem e1t:env.code A0o=some M0L:=rfl
theorem e1u:env.code y0m=some M0M:=rfl
theorem e1v:env.code n0I=some M0N:=rfl
theorem e1w:env.code y0n=some M0O:=rfl
theorem z0X {F:RK}:env.code (m0c F)=some (f0I F):=by cases F <;> rfl
theorem e1x:env.code t0z=some M0P:=rfl
theorem e1y:env.code A0p=some M0Q:=rfl
theorem e1z:env.code r0J=some M0R:=rfl
theorem e1A:env.code y0o=some M0S:=rfl
theorem e1B:env.code A0q=some M0T:=rfl
theorem e1C:env.code A0r=some M0U:=rfl
theorem e1D:env.code A0s=some M0V:=rfl
theorem e1E:env.code n0J=some M0W:=rfl
theorem e1F:env.code y0p=some M0X:=rfl
theorem e1G:env.code t0A=some M0Y:=rfl
theorem e1H:env.code r0K=some M0Z:=rfl
theorem e1I:env.code A0t=some N0a:=rfl
theorem e1J:env.code y0q=some N0b:=rfl
theorem e1K:env.code A0u=some N0c:=rfl
theorem e1L:env.code A0v=some N0d:=rfl
theorem e1M:env.code A0w=some N0e:=rfl
theorem e1N:env.code y0r=some N0f:=rfl
theorem e1O:env.code n0K=some N0g:=rfl
theorem e1P:env.code r0L=some N0h:=rfl
theorem e1Q:env.code k0n=some N0i:=rfl
theorem e1R:env.code n0L=some N0j:=rfl
theorem e1S:env.code p0K=some N0k:=rfl
theorem e1T:env.code A0x=some N0l:=rfl
theorem e1U:env.code y0s=some N0m:=rfl
theorem e1V:env.code n0M=some N0n:=rfl
theorem e1W:env.code r0M=some N0o:=rfl
theorem Y0x:env.code j0p=some J0U:=rfl
theorem e1X:env.code n0N=some N0p:=rfl
theorem e1Y:env.code p0L=some N0q:=rfl
theorem e1Z:env.code y0t=some N0r:=rfl
theorem f1a:env.code A0y=some N0s:=rfl
theorem Y0y:env.code t0B=some J0V:=rfl
theorem g1f:env.code N0M=some b1y:=rfl
end
section
open Go
variable {E:Env} {fl:Nat} {t:b0b} {H G:a0f} {K:n0C} {R:a0G}
def Sl (H:a0f) (e sz:Nat) (v:Value) (n:Nat) (cs:List Value):Prop :=
 cs.length=n * sz∧((v=.slice none 0 0∧n=0) ∨
  ∃ b off cap ro cells,v=.slice (some ⟨b,off,none⟩) n cap∧H.blk b=.row ro e cells∧off + n * sz≤cells.length∧cs=(cells.drop off).take (n * sz))
variable {e sz n:Nat} {v:Value} {cs:List Value}
theorem Sl.mono (h:Sl H e sz v n cs) (hx:Ext H G):Sl G e sz v n cs:=by
 obtain ⟨hl,h⟩:=h
 refine ⟨hl,?_⟩
 rcases h with h | ⟨b,off,cap,ro,cells,h1,h2,h3,h4⟩
 ·exact .inl h
 ·exact .inr ⟨b,off,cap,ro,cells,h1,hx.blk h2,h3,h4⟩
theorem Sl.nil:Sl H e sz (.slice none 0 0) 0 []:=⟨by simp,.inl ⟨rfl,rfl⟩⟩
theorem Sl.slen (h:Sl H e sz v n cs):i0r v=some (.int .i64 n):=by
 obtain ⟨_,⟨rfl,rfl⟩ | ⟨b,off,cap,ro,cells,rfl,_⟩⟩:=h <;> simp [i0r]
theorem Sl.ia (h:Sl H e sz v n cs) {k:IntKind} {j:Nat} (hj:j < n):iaV sz v (.int k j)=some (adr sz v j):=by
 obtain ⟨_,⟨rfl,rfl⟩ | ⟨b,off,cap,ro,cells,rfl,_⟩⟩:=h
 ·omega
 ·simp only [iaV,adr];rw [h1F (by omega)];simp
theorem Sl.iaZ (h:Sl H e sz v n cs) {k:IntKind} {z:Int} (h0:0≤z) (hj:z < n):iaV sz v (.int k z)=some (adr sz v z.toNat):=by
 have:=h.ia (k:=k) (j:=z.toNat) (by omega)
 rwa [j1R h0] at this
theorem Sl.load (h:Sl H e sz v n cs) (hx:Ext H G) {j:Nat} (hj:j < n) (hs:0 < sz):b0x G true sz (adr sz v j)=some (.agg ((cs.drop (j * sz)).take sz).toArray):=by
 obtain ⟨hl,⟨rfl,rfl⟩ | ⟨b,off,cap,ro,cells,rfl,hb,ho,rfl⟩⟩:=h
 ·omega
 ·have hj2:(j + 1) * sz≤n * sz:=h1J sz hj
  rw [h1X,i1r] at hj2
  have hc:=h0J (off:=off + j * sz) (n:=sz) (hx.blk hb) (by omega)
  simp only [adr,b0x]
  rw [h1C (by omega),h1C (by simp)]
  simp only [i1s,hc]
  rw [k1C,k1f,j1J,i1N (by omega)]
theorem Sl.load1 (h:Sl H e 1 v n cs) (hx:Ext H G) {j:Nat} (hj:j < n):b0x G false 1 (adr 1 v j)=some (cs.getD j undef):=by
 obtain ⟨hl,⟨rfl,rfl⟩ | ⟨b,off,cap,ro,cells,rfl,hb,ho,rfl⟩⟩:=h
 ·omega
 ·have hc:=h0J (off:=off + j * 1) (n:=1) (hx.blk hb) (by omega)
  simp only [adr,b0x]
  rw [h1C (by simp),h1C (by simp)]
  simp only [hc,i1a,i1F]
  rw [List.head?_take,h1C (by simp),List.head?_drop,h1z,i1S,h1F (by omega),i1Z]
  simp only [i1H] at ho ⊢
  rw [h1E (by omega)]
  rfl
theorem Sl.elemOk (h:Sl H e sz v n cs) {G:a0f} (hx:Ext H G):AI.elemOk G e v=true:=by
 obtain ⟨hl,⟨rfl,rfl⟩ | ⟨b,off,cap,ro,cells,rfl,hb,ho,rfl⟩⟩:=h
 ·rfl
 ·unfold AI.elemOk
  simp only [hx.blk hb]
  cases ro <;> simp
theorem Sl.cells (h:Sl H e sz v n cs):a0U v=[v]:=by
 obtain ⟨hl,⟨rfl,rfl⟩ | ⟨b,off,cap,ro,cells,rfl,hb,ho,rfl⟩⟩:=h <;> rfl
theorem Sl.plain (h:Sl H e sz v n cs):a0F v=true:=by
 obtain ⟨hl,⟨rfl,rfl⟩ | ⟨b,off,cap,ro,cells,rfl,hb,ho,rfl⟩⟩:=h <;> rfl
theorem Sl.slice (h:Sl H e sz v n cs) {lo hi:Nat} (h1:lo≤hi) (h2:hi≤n) {x y:Option Value} (hx:bnd 0 x=some lo) (hy:bnd n y=some hi) :
  ∃ v',e0a sz v x y none=some v'∧Sl H e sz v' (hi - lo) ((cs.drop (lo * sz)).take ((hi - lo) * sz)):=by
 obtain ⟨hl,⟨rfl,rfl⟩ | ⟨b,off,cap,ro,cells,rfl,hb,ho,rfl⟩⟩:=h
 ·have:lo=0:=by omega
  have:hi=0:=by omega
  subst lo hi
  refine ⟨.slice none 0 0,?_,by simp,.inl ⟨rfl,rfl⟩⟩
  unfold e0a;simp [hx,hy];intro h;exact h1Y h (by decide)
 ·refine ⟨_,by unfold e0a;simp only [hx,hy];rw [h1F ⟨h1,h2⟩];rfl,?_,.inr ⟨b,off + lo * sz,_,ro,cells,rfl,hb,?_,?_⟩⟩
  ·simp only [i1E,List.length_drop]
   have e1:(hi - lo) * sz + lo * sz=hi * sz:=by rw [← h1X];congr 1;omega
   have e2:hi * sz≤n * sz:=h1J sz h2
   omega
  ·have e1:(hi - lo) * sz + lo * sz=hi * sz:=by rw [← h1X];congr 1;omega
   have e2:hi * sz≤n * sz:=h1J sz h2
   omega
  ·have e1:(hi - lo) * sz + lo * sz=hi * sz:=by rw [← h1X];congr 1;omega
   have e2:hi * sz≤n * sz:=h1J sz h2
   rw [k1C,k1f,j1J,i1N (by omega)]
theorem Sl.setT (h:Sl H e sz v n cs) {p:Nat} {ro:Bool} {e':TypeId} {cs':List Value} {r:Blk} (hb:H.blk p=.row ro e' cs') (hne:e' ≠ e):Sl (H.setIfInBounds p r) e sz v n cs:=by
 obtain ⟨hl,h | ⟨b,off,cap,ro,cells,rfl,hb',ho,rfl⟩⟩:=h
 ·exact ⟨hl,.inl h⟩
 ·refine ⟨hl,.inr ⟨b,off,cap,ro,cells,rfl,?_,ho,rfl⟩⟩
  rw [b0h];exact hb'
  rintro rfl
  rw [hb'] at hb;cases hb;exact hne rfl
def c0c (l:List Nat):List Value:=l.map fun x=>.int .u32 (x:Nat)
@[simp] theorem i0S {l:List Nat}:(c0c l).length=l.length:=by simp [c0c]
def Lim (H:a0f) (v:Value) (l:List Nat):Prop:=Sl H a0k 1 v l.length (c0c l)∧∀ x ∈ l,x < 4294967296
variable {l:List Nat}
theorem Lim.mono (h:Lim H v l) (hx:Ext H G):Lim G v l:=⟨h.1.mono hx,h.2⟩
theorem Lim.nil:Lim H (.slice none 0 0) []:=⟨Sl.nil,by simp⟩
theorem Lim.slen (h:Lim H v l):i0r v=some (.int .i64 l.length):=h.1.slen
theorem Lim.ia (h:Lim H v l) {k:IntKind} {j:Nat} (hj:j < l.length):iaV 1 v (.int k j)=some (adr 1 v j):=h.1.ia hj
theorem Lim.iaZ (h:Lim H v l) {k:IntKind} {z:Int} (h0:0≤z) (hj:z < l.length):iaV 1 v (.int k z)=some (adr 1 v z.toNat):=h.1.iaZ h0 hj
theorem Lim.load (h:Lim H v l) {j:Nat} (hj:j < l.length) {G:a0f} (hx:Ext H G):b0x G false 1 (adr 1 v j)=some (.int .u32 (l.getD j 0)):=by
 rw [h.1.load1 hx hj]
 simp [c0c,h1z,i1Q,hj]
theorem Lim.setT (h:Lim H v l) {p:Nat} {ro:Bool} {e':TypeId} {cs':List Value} {r:Blk} (hb:H.blk p=.row ro e' cs') (hne:e' ≠ a0k):Lim (H.setIfInBounds p r) v l:=⟨h.1.setT hb hne,h.2⟩
theorem Lim.elemOk (h:Lim H v l) {G:a0f} (hx:Ext H G):AI.elemOk G a0k v=true:=h.1.elemOk hx
theorem Lim.cells (h:Lim H v l):a0U v=[v]:=h.1.cells
theorem Lim.plain (h:Lim H v l):a0F v=true:=h.1.plain
theorem Lim.take (h:Lim H v l) {k:Nat} (hk:k≤l.length) {x:Option Value} (hx:bnd 0 x=some 0) {y:Option Value} (hy:bnd l.length y=some k):∃ v',e0a 1 v x y none=some v'∧Lim H v' (l.take k):=by
 obtain ⟨v',h1,h2⟩:=h.1.slice (i1C k) hk hx hy
 refine ⟨v',h1,?_,fun x hx=>h.2 x (j1u hx)⟩
 have:(l.take k).length=k:=by simp;omega
 rw [this]
 simpa [c0c,List.map_take] using h2
def b0d (H:a0f) (v:Value) (i:Bool × List Nat):Prop:=∃ s,v=.agg #[.bool i.1,s]∧Lim H s i.2
theorem b0d.mono {i:Bool × List Nat} (h:b0d H v i) (hx:Ext H G):b0d G v i:=by obtain ⟨s,h1,h2⟩:=h;exact ⟨s,h1,h2.mono hx⟩
def rd:Blk→Nat→Option Value
 | .row _ _ cs,o=>cs[o]?
 | .dead,_=>none
def rdn:Blk→Nat→Nat→Option Value
 | .row _ _ cs,o,n=>if o + n≤cs.length then some (.agg ((cs.drop o).take n).toArray) else none
 | .dead,_,_=>none
@[simp] theorem a1r {ro:Bool} {e:TypeId} {cs:List Value} {o:Nat}:rd (.row ro e cs) o=cs[o]?:=nr rfl
@[simp] theorem W0s {ro:Bool} {e:TypeId} {cs:List Value} {o n:Nat}:rdn (.row ro e cs) o n=if o + n≤cs.length then some (.agg ((cs.drop o).take n).toArray) else none:=nr rfl
theorem r0W {b o:Nat}:b0x G false 1 (.pointer (some ⟨b,o,none⟩))=rd (G.blk b) o:=by
 simp only [b0x]
 rw [h1C (by simp),h1C (by simp)]
 unfold a0f.cells?
 cases G.blk b with
 | dead=>rfl
 | row ro e cs =>
  simp only [i1a,i1F,rd]
  by_cases h:o + 1≤cs.length
  ·rw [h1F h];simp only [List.head?_take];rw [h1C (by simp),List.head?_drop]
  ·rw [h1C h,h1M (by omega)]
theorem o0o {b o n:Nat} (hn:0 < n):b0x G true n (.pointer (some ⟨b,o,none⟩))=rdn (G.blk b) o n:=by
 simp only [b0x]
 rw [h1C (by omega),h1C (by simp)]
 unfold a0f.cells?
 cases G.blk b with
 | dead=>rfl
 | row ro e cs =>
  simp only [i1s,rdn]
  split <;> simp_all
def wr (G:a0f) (b o:Nat) (vs:List Value):Blk→Option a0f
 | .row false e cs=>if o + vs.length≤cs.length then some (G.setIfInBounds b (.row false e (b0t cs o vs))) else none
 | _=>none
@[simp] theorem f1Q {b o:Nat} {vs:List Value} {e:TypeId} {cs:List Value}:wr G b o vs (.row false e cs)=if o + vs.length≤cs.length then some (G.setIfInBounds b (.row false e (b0t cs o vs))) else none:=nr rfl
theorem z0l {b o n:Nat} {x:Value} (hf:fl≤b) (hl:(a0U x).length=n) (hp:(a0U x).all a0F=true) :
  e0X fl G n (.pointer (some ⟨b,o,none⟩)) x=wr G b o (a0U x) (G.blk b):=by
 simp only [e0X]
 rw [h1C (by simp [hl])]
 unfold a0f.write? wr
 split
 ·rename_i h;simp only [h];split <;> simp_all
 ·rename_i h;split <;> simp_all
theorem n0u {b o n:Nat} {e:TypeId} {cs:List Value} {x:Value} (h:G.blk b=.row false e cs) (hf:fl≤b) (hl:(a0U x).length=n) (ho:o + n≤cs.length) (hp:(a0U x).all a0F=true) :
  e0X fl G n (.pointer (some ⟨b,o,none⟩)) x=some (G.setIfInBounds b (.row false e (b0t cs o (a0U x)))):=by
 simp only [e0X]
 rw [h1C (by simp [hl])]
 unfold a0f.write?
 simp only [h]
 rw [h1F ⟨hf,by omega,hp⟩]
theorem a0Y {x:Int} (h1:-9223372036854775808≤x) (h2:x < 9223372036854775808):IntKind.i64.wrap x=x:=by
 show (if (true && decide (x % (2 ^ 64:Int) ≥ (2 ^ 63:Int)))=true then x % (2 ^ 64:Int) - (2 ^ 64:Int) else x % (2 ^ 64:Int))=x
 rw [show (2 ^ 64:Int)=18446744073709551616 from rfl,show (2 ^ 63:Int)=9223372036854775808 from rfl]
 simp only [Bool.true_and,i1w]
 split <;> omega
theorem a0x {x:Int}:IntKind.u64.wrap x=x % 18446744073709551616:=by
 simp [IntKind.wrap,IntKind.bits,IntKind.signed]
theorem e0Y {x:Int}:IntKind.u32.wrap x=x % 4294967296:=by
 simp [IntKind.wrap,IntKind.bits,IntKind.signed]
def z0g (H:a0f) (t:b0b) (rs:List SRes) (P:Value→Prop):Prop:=∃ vs,e0C H t rs=some vs∧P (d0k vs)
theorem L0X {a:Nat} {P:Value→Prop}:z0g H t [.tmp a] P=P (get t a):=by simp [z0g,e0C,r0m,d0k]
theorem J0Q {a n:Nat} {g:Bool} {P:Value→Prop}:z0g H t [.cell a g n] P=oo (b0x H g n (get t a)) P:=by
 unfold z0g;simp only [e0C,r0m];cases b0x H g n (get t a) <;> simp [d0k]
theorem L0Y {r1 r2:SRes} {P:Value→Prop}:z0g H t [r1,r2] P=oo (r0m H t r1) fun a=>oo (r0m H t r2) fun b=>P (.tuple #[a,b]):=by
 unfold z0g;simp only [e0C];cases r0m H t r1 <;> cases r0m H t r2 <;> simp [d0k]
theorem z0h {r1 r2 r3:SRes} {P:Value→Prop}:z0g H t [r1,r2,r3] P=oo (r0m H t r1) fun a=>oo (r0m H t r2) fun b=>oo (r0m H t r3) fun c=>P (.tuple #[a,b,c]):=by
 unfold z0g;simp only [e0C];cases r0m H t r1 <;> cases r0m H t r2 <;> cases r0m H t r3 <;> simp [d0k]
theorem L0W {a:Nat}:r0m H t (.tmp a)=some (get t a):=nr rfl
theorem J0P {a n:Nat} {g:Bool}:r0m H t (.cell a g n)=b0x H g n (get t a):=nr rfl
def Y0z (P:b0b→a0f→Prop):d0X
 | .exit _,_,_=>False
 | .normal,t,H=>P t H
 | .ret,t,H=>P t H
@[simp] theorem U0P {P:b0b→a0f→Prop}:Y0z P .normal t H=P t H:=nr rfl
@[simp] theorem b1h {P:b0b→a0f→Prop}:Y0z P .ret t H=P t H:=nr rfl
theorem a0i {f:FuncId} {args:List Value} {sf:v0D} (hc:E.code f=some sf) (hf:fl≤H.size) (hl:args.length=sf.np:=by rfl) (hnt:args.length≤sf.nt:=by exact of_decide_eq_true rfl)
  (h:∀ ρ:Nat→Value,(∀ i,ρ i=args.getD i undef)→W E H.size sf.body (T sf.nt ρ) H (Y0z (fun t' H'=>z0g H' t' sf.res fun v=>Ext H H'→K v H')) R) :
  a0S E fl f args H (fun v H'=>K v H'∧Ext H H') R:=by
 have h1:=(p0C (K:=fun v H'=>Ext H H'→K v H') hc hl hnt (fun t h1 h2=>by
  have h3:=h (get t) h2
  rw [← K0v h1] at h3
  refine h3.mono fun e t' H' hq=>?_
  cases e with
  | exit i=>exact h1Y hq id
  | normal=>exact ⟨trivial,hq⟩
  | ret=>exact ⟨trivial,hq⟩)).keep (h1A _)
 exact (h1.mono fun v H' hh=>⟨hh.1 hh.2.ext,hh.2.ext⟩).floor hf
end
section
open Go
section
variable {k:IntKind} {a b:Int} {tag:Nat}
@[simp] theorem K0H:d0d tag .add (.int k a) (.int k b)=some (.int k (k.wrap (a + b))):=by unfold d0d;simp
@[simp] theorem b1c:d0d tag .sub (.int k a) (.int k b)=some (.int k (k.wrap (a - b))):=by unfold d0d;simp
@[simp] theorem b1a:d0d tag .mul (.int k a) (.int k b)=some (.int k (k.wrap (a * b))):=by unfold d0d;simp
theorem v0M (h:b ≠ 0):d0d tag .quo (.int k a) (.int k b)=some (.int k (k.wrap (a.tdiv b))):=by unfold d0d;simp [h]
theorem K0K (h:b ≠ 0):d0d tag .rem (.int k a) (.int k b)=some (.int k (a.tmod b)):=by unfold d0d;simp [h]
@[simp] theorem K0I:d0d tag .and (.int k a) (.int k b)=some (.int k (k.wrap (BitVec.ofInt k.bits a &&& BitVec.ofInt k.bits b).toNat)):=by unfold d0d;simp
@[simp] theorem k0f:d0d tag .or (.int k a) (.int k b)=some (.int k (k.wrap (BitVec.ofInt k.bits a ||| BitVec.ofInt k.bits b).toNat)):=by unfold d0d;simp
@[simp] theorem a1W:d0d tag .eql (.int k a) (.int k b)=some (.bool (a == b)):=by unfold d0d;simp
@[simp] theorem b1b:d0d tag .neq (.int k a) (.int k b)=some (.bool (a != b)):=by unfold d0d;simp
@[simp] theorem K0J:d0d tag .lss (.int k a) (.int k b)=some (.bool (decide (a < b))):=by unfold d0d;simp
@[simp] theorem a1Z:d0d tag .leq (.int k a) (.int k b)=some (.bool (decide (a≤b))):=by unfold d0d;simp
@[simp] theorem a1Y:d0d tag .gtr (.int k a) (.int k b)=some (.bool (decide (a > b))):=by unfold d0d;simp
@[simp] theorem a1X:d0d tag .geq (.int k a) (.int k b)=some (.bool (decide (a ≥ b))):=by unfold d0d;simp
@[simp] theorem Y0d {x y:Bool}:d0d 1 .eql (.bool x) (.bool y)=some (.bool (x == y)):=by unfold d0d;simp
@[simp] theorem Y0f {x y:Bool}:d0d 1 .neq (.bool x) (.bool y)=some (.bool (x != y)):=by unfold d0d;simp
@[simp] theorem Y0e {x:Option Addr} {n c n2 c2:Nat}:d0d 2 .eql (.slice x n c) (.slice none n2 c2)=some (.bool x.isNone):=nr rfl
@[simp] theorem Y0g {x:Option Addr} {n c n2 c2:Nat}:d0d 2 .neq (.slice x n c) (.slice none n2 c2)=some (.bool x.isSome):=nr rfl
theorem v0N {k':IntKind} (h:0≤b):d0d tag .shl (.int k a) (.int k' b)=some (.int k (k.wrap (a * 2 ^ (min b.toNat k.bits)))):=by unfold d0d;simp [h]
theorem l0y {k':IntKind} (h:0≤b):d0d tag .shr (.int k a) (.int k' b)=some (.int k (a.fdiv (2 ^ (min b.toNat k.bits)))):=by unfold d0d;simp [h]
theorem L0b {n m:Nat}:((n:Int).fdiv (m:Int))=((n / m:Nat):Int):=by
 rw [Int.fdiv_eq_ediv_of_nonneg _ (by omega)];rfl
@[simp] theorem h1w {n:Nat} {k':IntKind}:d0d tag .shr (.int .u64 (n:Int)) (.int k' 32)=some (.int .u64 ((n / 4294967296:Nat):Int)):=by
 rw [l0y (by omega)];exact congrArg (fun x=>some (Value.int .u64 x)) (L0b (n:=n) (m:=4294967296))
@[simp] theorem h1x {n:Nat} {k':IntKind}:d0d tag .shr (.int .u64 (n:Int)) (.int k' 63)=some (.int .u64 ((n / 9223372036854775808:Nat):Int)):=by
 rw [l0y (by omega)];exact congrArg (fun x=>some (Value.int .u64 x)) (L0b (n:=n) (m:=9223372036854775808))
@[simp] theorem f1x:unA .neg (.int k a)=some (.int k (k.wrap (0 - a))):=nr rfl
@[simp] theorem f1y {x:Bool}:unA .not (.bool x)=some (.bool !x):=nr rfl
end
@[simp] theorem K0P {a b:Nat}:((a:Int) == (b:Int))=(a == b):=by
 rw [k1o,beq_iff_eq,beq_iff_eq];omega
@[simp] theorem b1f {a b:Nat}:((a:Int) != (b:Int))=(a != b):=by simp only [bne,K0P]
@[simp] theorem z0R {a:Nat}:((a:Int) == 0)=(a == 0):=by
 rw [k1o,beq_iff_eq,beq_iff_eq];omega
@[simp] theorem Y0o {a:Nat}:((a:Int) != 0)=(a != 0):=by simp only [bne,z0R]
@[simp] theorem Y0p {a:Array Value}:a0U (.agg a)=a.toList:=nr rfl
@[simp] theorem Y0q {k:IntKind} {n:Int}:a0U (.int k n)=[.int k n]:=nr rfl
@[simp] theorem W0S {b:Bool}:a0U (.bool b)=[.bool b]:=nr rfl
@[simp] theorem U0I {a:Option Addr} {n c:Nat}:a0U (.slice a n c)=[.slice a n c]:=nr rfl
@[simp] theorem Y0r {a:Option Addr}:a0U (.pointer a)=[.pointer a]:=nr rfl
@[simp] theorem Z0B {k:IntKind} {n:Int}:a0F (.int k n)=true:=nr rfl
@[simp] theorem X0z {b:Bool}:a0F (.bool b)=true:=nr rfl
@[simp] theorem V0z {a:Option Addr} {n c:Nat}:a0F (.slice a n c)=true:=nr rfl
@[simp] theorem Z0C {a:Option Addr}:a0F (.pointer a)=true:=nr rfl
@[simp] theorem b1e {d:Nat}:bnd d none=some d:=nr rfl
@[simp] theorem U0F {d n:Nat} {k:IntKind}:bnd d (some (.int k (n:Int)))=some n:=by simp [bnd]
@[simp] theorem f1U {n:Nat}:n + 1 + 1=n + 2:=by omega
@[simp] theorem f1V {n:Nat}:n + 2 + 1=n + 3:=by omega
@[simp] theorem f1W {n:Nat}:n + 3 + 1=n + 4:=by omega
@[simp] theorem f1X {n:Nat}:n + 4 + 1=n + 5:=by omega
@[simp] theorem f1Y {n:Nat}:n + 5 + 1=n + 6:=by omega
@[simp] theorem c1U {n:Nat}:n + 1 + 2=n + 3:=by omega
@[simp] theorem c1V {n:Nat}:n + 1 + 3=n + 4:=by omega
@[simp] theorem c1W {n:Nat}:n + 1 + 4=n + 5:=by omega
@[simp] theorem c1X {n:Nat}:n + 1 + 5=n + 6:=by omega
@[simp] theorem c1Y {n:Nat}:n + 1 + 6=n + 7:=by omega
@[simp] theorem c1Z {n:Nat}:n + 2 + 2=n + 4:=by omega
@[simp] theorem d1a {n:Nat}:n + 2 + 3=n + 5:=by omega
@[simp] theorem d1b {n:Nat}:n + 2 + 4=n + 6:=by omega
@[simp] theorem d1c {n:Nat}:n + 2 + 5=n + 7:=by omega
@[simp] theorem d1d {n:Nat}:n + 2 + 6=n + 8:=by omega
@[simp] theorem d1e {n:Nat}:n + 3 + 2=n + 5:=by omega
@[simp] theorem d1f {n:Nat}:n + 3 + 3=n + 6:=by omega
@[simp] theorem d1g {n:Nat}:n + 3 + 4=n + 7:=by omega
@[simp] theorem d1h {n:Nat}:n + 3 + 5=n + 8:=by omega
@[simp] theorem d1i {n:Nat}:n + 3 + 6=n + 9:=by omega
@[simp] theorem d1j {n:Nat}:n + 4 + 2=n + 6:=by omega
@[simp] theorem d1k {n:Nat}:n + 4 + 3=n + 7:=by omega
@[simp] theorem d1l {n:Nat}:n + 4 + 4=n + 8:=by omega
@[simp] theorem d1m {n:Nat}:n + 4 + 5=n + 9:=by omega
@[simp] theorem d1n {n:Nat}:n + 4 + 6=n + 10:=by omega
@[simp] theorem d1o {n:Nat}:n + 5 + 2=n + 7:=by omega
@[simp] theorem d1p {n:Nat}:n + 5 + 3=n + 8:=by omega
@[simp] theorem d1q {n:Nat}:n + 5 + 4=n + 9:=by omega
@[simp] theorem d1r {n:Nat}:n + 5 + 5=n + 10:=by omega
@[simp] theorem d1s {n:Nat}:n + 5 + 6=n + 11:=by omega
@[simp] theorem d1t {n:Nat}:n + 6 + 1=n + 7:=by omega
@[simp] theorem d1u {n:Nat}:n + 6 + 2=n + 8:=by omega
@[simp] theorem d1v {n:Nat}:n + 6 + 3=n + 9:=by omega
@[simp] theorem d1w {n:Nat}:n + 6 + 4=n + 10:=by omega
@[simp] theorem d1x {n:Nat}:n + 6 + 5=n + 11:=by omega
@[simp] theorem d1y {n:Nat}:n + 6 + 6=n + 12:=by omega
def z0q (w:Bool):Value→Bool
 | .bool b=>b == w
 | _=>false
@[simp] theorem X0B {w b:Bool}:z0q w (.bool b)=(b == w):=nr rfl
@[simp ↓] theorem h1y {E:Env} {fl:Nat} {t:b0b} {H:a0f} {R:a0G} {d:Option Nat} {op:SOp} {r:List a0L} {Z:b0b→a0f→Prop} {j:Nat} {w:Bool} :
  WR E fl (⟨d,some (j,w),op⟩ :: r) t H Z R=if z0q w (get t j)=true then WS E fl t H op (fun v H'=>WR E fl r (put t d v) H' Z R) R else WR E fl r (put t d undef) H Z R:=by
 have h:b0g t (some (j,w))=z0q w (get t j):=by
  simp only [b0g]
  generalize get t j=v
  cases v <;> rfl
 show (if b0g t (some (j,w))=true then _ else _)=_
 rw [h]
attribute [simp ↓] K0C U0u z0K c1S U0s X0V c1P X0T c1O X0U K0B U0t K0z t0i X0X c1R K0y X0Q X0W c1Q K0D X0P U0r z0J l0M
attribute [simp ↓] v0J U0B U0A Y0a U0z K0E X0Z
attribute [simp] L0X J0Q L0Y z0h L0W J0P z0l a0A b0h
attribute [simp] V0A Z0g W0K
attribute [simp] a0C e0c r0W o0o Ext.refl Ext.push Ext.set g0A b0C f0y b0t
attribute [simp low] a0K
attribute [congr] K0x x0N U0w K0A L0t
def n0U (i:Nat) (A M:b0b→a0f→Prop) (Q:d0X):d0X
 | .normal,t,H=>A t H
 | .exit j,t,H=>if j=i then M t H else Q (.exit j) t H
 | .ret,t,H=>Q .ret t H
section
variable {E:Env} {fl:Nat} {t:b0b} {H:a0f} {Q:d0X} {R:a0G}
@[simp] theorem N0R {i:Nat} {A M:b0b→a0f→Prop}:n0U i A M Q .normal t H=A t H:=nr rfl
@[simp] theorem X0u {i j:Nat} {A M:b0b→a0f→Prop}:n0U i A M Q (.exit j) t H=if j=i then M t H else Q (.exit j) t H:=nr rfl
@[simp] theorem Z0p {i:Nat} {A M:b0b→a0f→Prop}:n0U i A M Q .ret t H=Q .ret t H:=nr rfl
theorem X0Y {a:SCode} {Z:b0b→a0f→Prop} (M:b0b→a0f→Prop) (h:W E fl a t H (i0s M Q) R) (hz:∀ t H,M t H→Z t H):W E fl a t H (i0s Z Q) R:=by
 refine h.mono fun e t' H' hq=>?_
 cases e with
 | normal=>exact hz _ _ hq
 | exit i=>exact hq
 | ret=>exact hq
theorem b0Y {c:SCode} {i:Nat} {Z:b0b→a0f→Prop} (I:Nat→b0b→a0f→Prop) (M:b0b→a0f→Prop) (k:Nat) (hI:I k t H)
  (step:∀ k t H,I k t H→W E fl c t H (n0U i (fun t' H'=>∃ k',k' < k∧I k' t' H') M Q) R)
  (rest:∀ t H,M t H→Z t H):W E fl (.loop c) t H (e0P i (i0s Z Q)) R:=by
 refine N0F I (fun k t H h=>(step k t H h).mono fun e t' H' hq=>?_) k hI
 cases e with
 | normal=>exact hq
 | ret=>exact hq
 | exit j =>
  simp only [n0U] at hq
  simp only [i0s,e0P]
  split
  ·rename_i hj;rw [h1F hj] at hq;exact rest _ _ hq
  ·rename_i hj;rw [h1C hj] at hq;exact hq
end
end
section
open Go
variable {fl:Nat} {H G:a0f} {e e2 sz n m bytes:Nat} {s x:Value} {cs new:List Value}
def slB:Value→Option Nat
 | .slice (some p) _ _=>some p.block
 | _=>none
def Own (fl:Nat) (H:a0f) (e sz:Nat) (v:Value) (n:Nat) (cs:List Value):Prop :=
 cs.length=n * sz∧((v=.slice none 0 0∧n=0) ∨ ∃ b cap,v=.slice (some ⟨b,0,none⟩) n cap∧H.blk b=.row false e cs∧fl≤b)
theorem Own.nil:Own fl H e sz (.slice none 0 0) 0 []:=⟨by simp,.inl ⟨rfl,rfl⟩⟩
theorem Own.mk {b cap:Nat} (hb:H.blk b=.row false e cs) (hl:cs.length=n * sz) (hf:fl≤b):Own fl H e sz (.slice (some ⟨b,0,none⟩) n cap) n cs:=⟨hl,.inr ⟨b,cap,rfl,hb,hf⟩⟩
theorem Own.sl (h:Own fl H e sz s n cs):Sl H e sz s n cs:=by
 obtain ⟨hl,h | ⟨b,cap,rfl,hb,hf⟩⟩:=h
 ·exact ⟨hl,.inl h⟩
 ·exact ⟨hl,.inr ⟨b,0,cap,false,cs,rfl,hb,by omega,by rw [i1V,← hl,h1T]⟩⟩
theorem Own.mono (h:Own fl H e sz s n cs) (hx:Ext H G):Own fl G e sz s n cs:=by
 obtain ⟨hl,h | ⟨b,cap,rfl,hb,hf⟩⟩:=h
 ·exact ⟨hl,.inl h⟩
 ·exact ⟨hl,.inr ⟨b,cap,rfl,hx.blk hb,hf⟩⟩
def e0p (o:Option Nat) (H G:a0f):Prop:=H.size≤G.size∧∀ b,b < H.size→o ≠ some b→G.blk b=H.blk b
theorem Ext.extB {o:Option Nat} (h:Ext H G):e0p o H G:=⟨h.1,fun b hb _=>h.2 b hb⟩
theorem k0e (ho:Own fl G e sz s n cs) (hx:Sl G e2 sz x m new) (hp:new.all a0F=true) (hn:n + m≤1073741824) (hb:bytes≤1024) (hs:0 < sz) (hfl:fl≤G.size) :
  ∃ v' G',k0c fl G e sz bytes s x=some (v',G')∧Own fl G' e sz v' (n + m) (cs ++ new)∧e0p (slB s) G G'∧(∀ H0,H0.size≤fl→Ext H0 G→Ext H0 G'):=by
 obtain ⟨hxl,hx⟩:=hx
 have hol:=ho.1
 by_cases hm:m=0
 ·subst hm
  have hnew:new=[]:=i1i.1 (by omega)
  subst hnew
  refine ⟨s,G,?_,by simpa using ho,(Ext.refl G).extB,fun _ _ h=>h⟩
  rcases hx with ⟨rfl,_⟩ | ⟨b,off,cap,ro,cells,rfl,_⟩ <;> rcases ho.2 with ⟨rfl,rfl⟩ | ⟨b',cap',rfl,_⟩ <;> simp [k0c]
 ·rcases hx with ⟨_,h0⟩ | ⟨b,off,cap,ro,cells,rfl,hbk,ho1,ho2⟩
  ·exact h1Y h0 hm
  have hc:=h0J hbk ho1
  rw [← ho2] at hc
  rcases ho.2 with ⟨rfl,rfl⟩ | ⟨b',cap',rfl,hb',hf'⟩
  ·have hcs:cs=[]:=i1i.1 (by omega)
   subst hcs
   refine ⟨.slice (some ⟨G.size,0,none⟩) m unk,G.push (.row false e new),?_,?_,(Ext.push (Ext.refl G)).extB,fun _ _ h=>h.push⟩
   ·unfold k0c
    simp only
    rw [h1C hm,h1F ⟨by omega,hb,hs⟩]
    simp only [hc,hp,Bool.true_eq_false,i1F]
    rw [h1F ⟨by trivial,by trivial⟩]
   ·rw [i1o];exact Own.mk a0C (by simpa using hxl) hfl
  ·have hb'l:=a0l hb'
   have hc2:G.cells? b' 0 (n * sz)=some cs:=by
    rw [h0J hb' (by omega),i1V,← hol,h1T]
   by_cases hcap:cap' ≠ unk∧cap' < n + m
   ·refine ⟨.slice (some ⟨G.size,0,none⟩) (n + m) unk,G.push (.row false e (cs ++ new)),?_,?_,(Ext.push (Ext.refl G)).extB,fun _ _ h=>h.push⟩
    ·unfold k0c
     simp only
     rw [h1C hm,h1F ⟨by omega,hb,hs⟩]
     simp only [hc,hp,Bool.true_eq_false,i1F,hc2]
     by_cases h00:n=0∧cap' = 0
     ·rw [h1F h00]
      have hcs:cs=[]:=i1i.1 (by rw [hol,h00.1];simp)
      rw [hcs,h00.1];simp
     ·rw [h1C h00,h1F hcap]
    ·exact Own.mk a0C (by rw [i1l,hol,hxl,h1X]) hfl
   ·refine ⟨.slice (some ⟨G.size,0,none⟩) (n + m) unk,(G.setIfInBounds b' .dead).push (.row false e (cs ++ new)),?_,?_,?_,?_⟩
    ·unfold k0c
     simp only
     rw [h1C hm,h1F ⟨by omega,hb,hs⟩]
     simp only [hc,hp,Bool.true_eq_false,i1F,hc2]
     rw [h1C (fun h00:n=0∧cap' = 0=>hcap ⟨by rw [h00.2];decide,by omega⟩),h1C hcap]
     simp only [hb']
     rw [h1F ⟨trivial,hf'⟩]
    ·exact Own.mk (by rw [a0K];simp) (by rw [i1l,hol,hxl,h1X]) hfl
    ·refine ⟨by simp,fun c hc hne=>?_⟩
     have:b' ≠ c:=fun h=>hne (by simp [slB,h])
     rw [e0c (by simpa using hc),b0h this]
    ·intro H0 h1 h2
     exact (h2.set (by omega)).push
theorem e0b {c:Nat} (ho:Own fl G e sz s n cs) (hl:new.length=sz) (hp:new.all a0F=true) (hn:n < 1073741824) (hb:bytes≤1024) (hs:0 < sz) (hfl:fl≤G.size) :
  ∃ v' G',k0c fl (G.push (.row false e2 new)) e sz bytes s (.slice (some ⟨G.size,0,none⟩) 1 c)=some (v',G')∧Own fl G' e sz v' (n + 1) (cs ++ new)∧e0p (slB s) G G'∧(∀ H0,H0.size≤fl→Ext H0 G→Ext H0 G'):=by
 have hx:Sl (G.push (.row false e2 new)) e2 sz (.slice (some ⟨G.size,0,none⟩) 1 c) 1 new:=(Own.mk (fl:=0) a0C (by omega) (i1C _)).sl
 obtain ⟨v',G',h1,h2,h3,h4⟩:=k0e (ho.mono (Ext.push (Ext.refl G))) hx hp (by omega) hb hs (bytes:=bytes) (by simp;omega)
 refine ⟨v',G',h1,h2,⟨?_,fun b hb hne=>?_⟩,fun H0 k1 k2=>h4 H0 k1 k2.push⟩
 ·have:=h3.1;simp at this;omega
 ·rw [h3.2 b (by simp;omega) hne,e0c hb]
@[simp] theorem W0J {a b:List Nat}:c0c (a ++ b)=c0c a ++ c0c b:=by simp [c0c]
theorem k0x {l:List Nat}:(c0c l).all a0F=true:=by simp [c0c,a0F]
end
section
open Go
variable {fl:Nat} {H:a0f} {R:a0G} {v:Value} {i:Bool × List Nat}
def f0R (i:Bool × List Nat):Bool:=if i.2.length=0 then !i.1 else i.2.getD (i.2.length - 1) 0 != 0
theorem f0e (h:b0d H v i) (hf:fl≤H.size) (hn:i.2.length < 4611686018427387904) :
  a0S env fl r0E [v] H (fun r H'=>r=.bool (f0R i)∧Ext H H') R:=by
 obtain ⟨s,rfl,hs⟩:=h
 refine a0i e1e hf (h:=?_)
 intro ρ h0
 simp [M0x]
 simp [E0c,E0d,E0e,E0f,h0]
 simp (disch:=first | omega | assumption | (simp;done) | (repeat (first | assumption | exact Ext.refl _ | apply Ext.push | apply Ext.set))) [hs.slen,hs.iaZ,hs.load,a0Y]
 refine ⟨fun h=>by simp [f0R,h],fun h=>?_⟩
 have hl:=List.length_pos_iff.2 h
 simp (disch:=first | omega | assumption | (simp;done) | (repeat (first | assumption | exact Ext.refl _ | apply Ext.push | apply Ext.set))) [hs.iaZ,hs.load,f0R,h]
def e0Q (i:Bool × List Nat):List Nat:=if f0R i then i.2 else []
theorem n0V (h:b0d H v i) (hf:fl≤H.size) (hn:i.2.length < 4611686018427387904) :
  a0S env fl f0O [v] H (fun r H'=>Lim H' r (e0Q i)∧Ext H H') R:=by
 obtain ⟨s,rfl,hs⟩:=h
 refine a0i d1T hf (h:=?_)
 intro ρ h0
 simp [M0m]
 simp [D0d,D0e,D0f,D0g,h0]
 refine (f0e ⟨s,rfl,hs.mono (by simp)⟩ (by simp) hn).mono ?_
 rintro _ G ⟨rfl,hx⟩
 simp [hx.2,e0Q]
 exact ⟨fun h _=>by simp [h,Lim.nil],fun h hx=>by simp [h,hs.mono hx]⟩
def Z0t (i:Bool × List Nat):Bool:=f0R i && i.1
theorem s0f (h:b0d H v i) (hf:fl≤H.size) (hn:i.2.length < 4611686018427387904) :
  a0S env fl e0j [v] H (fun r H'=>r=.bool (Z0t i)∧Ext H H') R:=by
 obtain ⟨s,rfl,hs⟩:=h
 refine a0i d1U hf (h:=?_)
 intro ρ h0
 simp [M0n]
 simp [D0h,D0i,h0]
 refine (f0e ⟨s,rfl,hs.mono (by simp)⟩ (by simp) hn).mono ?_
 rintro _ G ⟨rfl,hx⟩
 cases hm:f0R i <;> simp [hx.2,Z0t,h0,hm]
theorem a0r {x:Nat} (hf:fl≤H.size) :
  a0S env fl f0P [.int .u64 x] H (fun r H'=>r=.int .u32 ((x % 4294967296:Nat):Int)∧Ext H H') R:=by
 refine a0i d1Z hf (h:=?_)
 intro ρ h0
 simp [M0s]
 simp [D0H,D0I,h0,e0Y]
def c0z (a b:Int):Int:=if a < b then -1 else if a > b then 1 else 0
theorem j0w {a b:Int} (hf:fl≤H.size) :
  a0S env fl A0n [.int .i64 a,.int .i64 b] H (fun r H'=>r=.int .i64 (c0z a b)∧Ext H H') R:=by
 refine a0i e1s hf (h:=?_)
 intro ρ h0
 simp [M0K]
 simp [F0w,F0x,F0y,F0z,F0A,F0B,h0,c0z]
 refine ⟨fun h1 h2=>?_,fun h1=>⟨fun h2=>?_,fun h2=>?_⟩⟩ <;> (repeat' split) <;> omega
theorem h0e {a b:Int} (hf:fl≤H.size) :
  a0S env fl A0o [.int .u32 a,.int .u32 b] H (fun r H'=>r=.int .i64 (c0z a b)∧Ext H H') R:=by
 refine a0i e1t hf (h:=?_)
 intro ρ h0
 simp [M0L]
 simp [F0C,F0D,F0E,F0F,F0G,F0H,h0,c0z]
 refine ⟨fun h1 h2=>?_,fun h1=>⟨fun h2=>?_,fun h2=>?_⟩⟩ <;> (repeat' split) <;> omega
theorem x0M {l:List Nat} (h:Lim H v l) (hf:fl≤H.size) (hn:l.length≤1073741824) :
  a0S env fl A0m [v] H (fun r H'=>Lim H' r l∧Ext H H') R:=by
 refine a0i e1r hf (h:=?_)
 intro ρ h0
 simp [M0J]
 simp [F0s,F0t,F0u,F0v,h0]
 have hd:=h
 obtain ⟨⟨hl,⟨rfl,h2⟩ | ⟨b,off,cap,ro,cells,rfl,hb,ho,hcs⟩⟩,hx⟩:=h
 ·have:l=[]:=i1i.1 h2
  subst this
  simp [Lim.nil]
 ·simp
  have ho2:Own H.size (H.push (.row false a0k [])) a0k 1 (.slice (some ⟨H.size,0,none⟩) 0 0) 0 []:=Own.mk a0C (by simp) (h1A _)
  obtain ⟨v',G',h1,h2,h3,h4⟩:=k0e (bytes:=4) ho2 ((hd.mono (Ext.push (Ext.refl H))).1) k0x (by omega) (by omega) (by omega) (by simp)
  simp only [i1o,j1o] at h2
  simp [h1]
  exact fun _=>⟨h2.sl,hx⟩
end
section
open Go
variable {fl:Nat} {H:a0f} {R:a0G} {v:Value} {i:Bool × List Nat} {l:List Nat}
def d0E (l:List Nat):List Nat:=(l.reverse.dropWhile (· == 0)).reverse
theorem s0V:d0E []=[]:=rfl
theorem n0v:d0E (l ++ [0])=d0E l:=by simp [d0E]
theorem k0L {x:Nat} (h:x ≠ 0):d0E (l ++ [x])=l ++ [x]:=by simp [d0E,h]
def mkI (neg:Bool) (l:List Nat):Bool × List Nat:=if d0E l=[] then (false,[]) else (neg,d0E l)
theorem e0s {n:Nat} (h:n < l.length):l.take (n + 1)=l.take n ++ [l.getD n 0]:=by
 rw [List.take_add_one,h1E h,h1z,h1E h];rfl
theorem p0Y {b:Bool} (h:Lim H v l) (hf:fl≤H.size) (hn:l.length≤1073741824) :
  a0S env fl g0z [.bool b,v] H (fun r H'=>b0d H' r (mkI b l)∧Ext H H') R:=by
 refine a0i d1V hf (h:=?_)
 intro ρ h0
 simp [M0o]
 simp [D0j,D0k,h0,h.slen]
 refine b0Y (fun k t G=>G=H.push (.row false a0a [.bool false,.slice none 0 0])∧t.length=29∧get t 0=.bool b∧get t 1=v∧get t 4=.pointer (some ⟨H.size,0,none⟩) ∧
   get t 5=.int .i64 k∧k≤l.length∧d0E (l.take k)=d0E l)
  (fun t G=>∃ k:Nat,G=H.push (.row false a0a [.bool false,.slice none 0 0])∧t.length=29∧get t 0=.bool b∧get t 1=v∧get t 4=.pointer (some ⟨H.size,0,none⟩) ∧
   get t 5=.int .i64 k∧k≤l.length∧d0E l=l.take k) l.length (by simp [h0]) ?_ ?_
 ·rintro k t G ⟨rfl,ht,g0,g1,g4,g5,hk,htr⟩
  obtain ⟨ρ,rfl⟩:=toT ht
  simp only [b0V,Nat.reduceLT] at g0 g1 g4 g5
  by_cases hk0:k=0
  ·subst hk0
   simp [u0f,g0,g1,g4,g5]
   exact ⟨0,by simp,by simp,by rw [← htr];rfl⟩
  ·have hp:0 < k:=by omega
   have w1:IntKind.i64.wrap ((k:Int) - 1)=((k - 1:Nat):Int):=by rw [a0Y (by omega) (by omega)];omega
   simp [u0f,D0l,g0,g1,g4,g5,hp,w1,h.ia (show k - 1 < l.length by omega),h.load (show k - 1 < l.length by omega)]
   have hk1:l.take k=l.take (k - 1) ++ [l.getD (k - 1) 0]:=by rw [← e0s (by omega)];congr 1;omega
   rw [h1z] at hk1
   refine ⟨fun hz=>⟨k - 1,by omega,rfl,by omega,?_⟩,fun hz=>⟨k,rfl,hk,?_⟩⟩
   ·rw [← htr,hk1,hz,n0v]
   ·rw [← htr,hk1,k0L hz]
 ·rintro t G ⟨k,rfl,ht,g0,g1,g4,g5,hk,htr⟩
  obtain ⟨ρ,rfl⟩:=toT ht
  simp only [b0V,Nat.reduceLT] at g0 g1 g4 g5
  obtain ⟨v',h1,h2⟩:=h.take hk (x:=none) rfl (y:=some (.int .i64 (k:Int))) (by simp)
  simp [D0m,D0n,D0o,g0,g1,g4,g5,h.elemOk,h1]
  refine ⟨fun hk0=>⟨.slice none 0 0,by simp [mkI,htr,hk0],by simp [mkI,htr,hk0,Lim.nil]⟩,fun hk0=>?_⟩
  refine (x0M (h2.mono (by simp)) (by simp) (by simp;omega)).mono ?_
  rintro r G ⟨hr,hx⟩
  have hlt:H.size < G.size:=by have:=hx.1;simp at this;omega
  simp [hr.cells,hr.plain,hx.2,hlt]
  have hl0:l ≠ []:=by rintro rfl;exact hk0 (by simpa using hk)
  refine fun _=>⟨r,?_,?_⟩
  ·simp [mkI,htr,hk0,hl0]
  ·have:(mkI b l).2=l.take k:=by simp [mkI,htr,hk0,hl0]
   rw [this]
   exact hr.setT (by rw [hx.2 _ (by simp)];exact a0C) (by decide)
end
section
open Go
def a0w:List Nat→Nat
 | []=>0
 | x :: l=>x + 4294967296 * a0w l
def b0u (l:List Nat):Prop:=∀ x ∈ l,x < 4294967296
theorem f0T:∀ (a b:List Nat),a0w (a ++ b)=a0w a + 4294967296 ^ a.length * a0w b
 | [],b=>by simp [a0w]
 | x :: a,b=>by
  simp only [j1S,a0w,f0T a b,i1D,h1Z]
  rw [h1P,← h1U,i1e (4294967296 ^ a.length) 4294967296,i1W]
theorem c0i (a:List Nat) (x:Nat):a0w (a ++ [x])=a0w a + 4294967296 ^ a.length * x:=by rw [f0T];simp [a0w]
theorem f0U:∀ (l:List Nat),b0u l→a0w l < 4294967296 ^ l.length
 | [],_=>by simp [a0w]
 | x :: l,h=>by
  have h1:=f0U l (fun y hy=>h y (j1K _ hy))
  have h2:=h x (k1u ..)
  simp only [a0w,i1D,h1Z]
  omega
theorem p0n (x:Nat) (l:List Nat):d0E (x :: l)=if d0E l=[]∧x=0 then [] else x :: d0E l:=by
 unfold d0E
 rw [List.reverse_cons,List.dropWhile_append]
 by_cases h:(List.dropWhile (fun x=>x == 0) l.reverse).isEmpty=true
 ·rw [h1F h]
  have h':List.dropWhile (fun x=>x == 0) l.reverse=[]:=by simpa using h
  rw [h']
  by_cases hx:x=0 <;> simp [hx]
 ·rw [h1C h]
  have h':List.dropWhile (fun x=>x == 0) l.reverse ≠ []:=by simpa using h
  rw [h1C (by simp [h'])]
  simp
theorem j0u:∀ (l:List Nat),a0w l=0 ↔ d0E l=[]
 | []=>by simp [a0w,s0V]
 | x :: l=>by
  rw [p0n]
  have:=j0u l
  by_cases h:d0E l=[]∧x=0
  ·rw [h1F h];have:=this.2 h.1;simp [a0w,this,h.2]
  ·rw [h1C h]
   simp only [a0w,reduceCtorEq,iff_false]
   intro h0
   exact h ⟨this.1 (by omega),by omega⟩
def a0p (n:Nat):List Nat:=if h:n=0 then [] else (n % 4294967296) :: a0p (n / 4294967296)
termination_by n
decreasing_by omega
theorem a0W:a0p 0=[]:=by unfold a0p;simp
theorem e0i {n:Nat} (h:n ≠ 0):a0p n=(n % 4294967296) :: a0p (n / 4294967296):=by rw [a0p];simp [h]
theorem b0U:∀ (l:List Nat),b0u l→d0E l=a0p (a0w l)
 | [],_=>by rw [s0V,a0w,a0W]
 | x :: l,h=>by
  have ih:=b0U l (fun y hy=>h y (j1K _ hy))
  have hx:=h x (k1u ..)
  rw [p0n]
  by_cases hc:d0E l=[]∧x=0
  ·rw [h1F hc]
   have:=(j0u l).2 hc.1
   rw [a0w,this,hc.2,a0W]
  ·rw [h1C hc]
   have hne:a0w (x :: l) ≠ 0:=by
    intro h0
    simp only [a0w] at h0
    exact hc ⟨(j0u l).1 (by omega),by omega⟩
   rw [e0i hne]
   have e1:a0w (x :: l) % 4294967296=x:=by simp only [a0w];omega
   have e2:a0w (x :: l) / 4294967296=a0w l:=by simp only [a0w];omega
   rw [e1,e2,ih]
theorem a0q (n:Nat):a0w (a0p n)=n:=by
 induction n using Nat.strongRecOn with
 | ind n ih =>
  by_cases h:n=0
  ·rw [h,a0W];rfl
  ·rw [e0i h,a0w,ih _ (by omega)];omega
theorem b0N (n:Nat):b0u (a0p n):=by
 induction n using Nat.strongRecOn with
 | ind n ih =>
  by_cases h:n=0
  ·rw [h,a0W];intro x hx;simp at hx
  ·rw [e0i h]
   intro x hx
   rcases j1G.1 hx with rfl | hx
   ·omega
   ·exact ih _ (by omega) x hx
theorem e0h {n k:Nat} (h:n < 4294967296 ^ k):(a0p n).length≤k:=by
 induction k generalizing n with
 | zero => have : n = 0 := by simpa using h
           rw [this,a0W];simp
 | succ k ih =>
  by_cases h0:n=0
  ·rw [h0,a0W];simp
  ·rw [e0i h0,i1D]
   have:n / 4294967296 < 4294967296 ^ k:=by
    rw [j1p (by omega)];rw [h1Z] at h;exact h
   have:=ih this
   omega
theorem e0u (n:Nat):n < 4294967296 ^ (a0p n).length:=by
 have:=f0U (a0p n) (b0N n)
 rwa [a0q] at this
theorem b0I {n:Nat}:a0p n=[] ↔ n=0:=by
 constructor
 ·intro h;rw [← a0q n,h];rfl
 ·rintro rfl;exact a0W
theorem l0X {n:Nat} (h:n ≠ 0):(a0p n).getD ((a0p n).length - 1) 0 ≠ 0:=by
 induction n using Nat.strongRecOn with
 | ind n ih =>
  rw [e0i h]
  by_cases h2:n / 4294967296=0
  ·rw [h2,a0W];simp;omega
  ·have:=ih (n / 4294967296) (by omega) h2
   have hl:(a0p (n / 4294967296)).length ≠ 0:=fun h3=>h2 (b0I.1 (i1i.1 h3))
   rw [i1D,show (a0p (n / 4294967296)).length + 1 - 1=((a0p (n / 4294967296)).length - 1) + 1 by omega,List.getD_cons_succ]
   exact this
def a0z (i:Bool × List Nat):Int:=if f0R i then (if i.1 then -(a0w i.2:Int) else a0w i.2) else 0
def a0j (z:Int):Bool × List Nat:=(decide (z < 0),a0p z.natAbs)
theorem N0V {b:Bool} {l:List Nat} (h:b0u l):mkI b l=a0j (if b then -(a0w l:Int) else a0w l):=by
 unfold mkI a0j
 rw [b0U l h]
 by_cases h0:a0w l=0
 ·rw [h0,a0W];cases b <;> simp [a0W]
 ·rw [h1C (by rw [b0I];exact h0)]
  cases b <;> simp <;> omega
theorem s0a (z:Int):f0R (a0j z)=true:=by
 unfold f0R a0j
 by_cases h:z=0
 ·subst h;simp [a0W]
 ·have h1:z.natAbs ≠ 0:=by omega
  have h2:(a0p z.natAbs).length ≠ 0:=fun h3=>h1 (b0I.1 (i1i.1 h3))
  simp only
  rw [h1C h2]
  simpa using l0X h1
theorem a0h (z:Int):a0z (a0j z)=z:=by
 unfold a0z
 rw [s0a]
 simp only [a0j,a0q,i1s]
 by_cases h:z < 0 <;> simp [h] <;> omega
theorem e0f:a0j 0=(false,[]):=by simp [a0j,a0W]
end
section
open Go
set_option maxHeartbeats 4000000
variable {fl:Nat} {H:a0f} {R:a0G} {v w:Value} {a b:List Nat}
theorem Lim.ok {l:List Nat} (h:Lim H v l):b0u l:=h.2
theorem a0Q {l:List Nat} {n:Nat} (h:n < l.length):a0w (l.take (n + 1))=a0w (l.take n) + 4294967296 ^ n * l.getD n 0:=by
 rw [e0s h,c0i,i1E,i1N (by omega)]
theorem p0Z (ha:Lim H v a) (hb:Lim H w b) (hf:fl≤H.size) (hna:a.length < 1073741824) (hnb:b.length < 1073741824) :
  a0S env fl A0j [v,w] H (fun r H'=>(∃ o,Lim H' r o∧a0w o=a0w a + a0w b∧o.length=max a.length b.length + 1)∧Ext H H') R:=by
 refine a0i d1W hf (h:=?_)
 intro ρ h0
 simp only [M0p]
 refine h0Y (l0Q ?_)
 simp [-v0J,D0p,h0]
 refine h0Y (X0Y (fun t G=>G=H∧t.length=55∧∃ v w a' b',get t 0=v∧get t 1=w∧Lim H v a'∧Lim H w b'∧b'.length≤a'.length∧a'.length=max a.length b.length∧a0w a' + a0w b' = a0w a + a0w b) ?_ ?_)
 ·simp [D0q,D0r,h0,ha.slen,hb.slen]
  exact ⟨fun h=>⟨b,hb,a,ha,by omega,by omega,by omega⟩,fun h=>⟨a,ha,b,hb,by omega,by omega,by omega⟩⟩
 clear h0 ρ
 rintro t G ⟨rfl,ht,v,w,a',b',g0,g1,ha',hb',hle,hlen,hsum⟩
 obtain ⟨ρ,rfl⟩:=toT ht
 simp only [b0V,Nat.reduceLT] at g0 g1
 have hna':a'.length < 1073741824:=by omega
 rw [← hlen,← hsum]
 clear ha hb hna hnb hlen hsum a b
 have w1:IntKind.i64.wrap ((a'.length:Int) + 1)=(a'.length:Int) + 1:=a0Y (by omega) (by omega)
 have hm:=X0v (bytes:=4) (k:=.i64) (k':=.i64) (l:=0) (c:=(a'.length:Int) + 1) (by omega) (by omega) (by omega) (by omega)
 simp [D0s,D0t,D0u,g0,g1,ha'.slen,w1,hm]
 refine b0Y (fun k t G'=>∃ i c out s,i + k=a'.length∧t.length=55∧get t 1=w∧get t 5=s∧get t 6=.int .u64 ((c:Nat):Int)∧get t 20=v∧get t 21=.int .i64 a'.length∧get t 22=.int .i64 ((i:Nat):Int) ∧
   Ext G G'∧Own G.size G' a0k 1 s i (c0c out)∧b0u out∧out.length=i∧c≤1∧a0w out + 4294967296 ^ i * c=a0w (a'.take i) + a0w (b'.take i))
  (fun t G'=>∃ c out s,t.length=55∧get t 5=s∧get t 6=.int .u64 ((c:Nat):Int) ∧
   Ext G G'∧Own G.size G' a0k 1 s a'.length (c0c out)∧b0u out∧out.length=a'.length∧c≤1∧a0w out + 4294967296 ^ a'.length * c=a0w a' + a0w b') a'.length ?_ ?_ ?_
 ·exact ⟨0,0,[],.slice (some ⟨G.size,0,none⟩) 0 (a'.length + 1),by omega,by simp,by simp [g1],by simp,by simp,by simp,by simp,by simp,by simp,
   Own.mk (by simp [c0c]) rfl (h1A _),by intro x hx;simp at hx,rfl,by omega,by simp [a0w]⟩
 ·clear g0 g1 hm w1 ht ρ
  rintro k t G' ⟨i,c,out,s,hik,ht,g1,g5,g6,g20,g21,g22,hx,ho,hok,hol,hc,hs⟩
  obtain ⟨ρ,rfl⟩:=toT ht
  simp only [b0V,Nat.reduceLT] at g1 g5 g6 g20 g21 g22
  by_cases hi:i < a'.length
  ·have hla:=ha'.load hi hx
   have hA2:=a0Q hi
   have hA3:a'.getD i 0 < 4294967296:=ha'.2 _ (by rw [h1z,h1E hi];exact h1I hi)
   generalize a'.getD i 0=A at hla hA2 hA3
   have e1:IntKind.u64.wrap ((c:Int) + IntKind.u64.wrap (A:Int))=((c + A:Nat):Int):=by rw [a0x,a0x];omega
   have e9:IntKind.i64.wrap ((i:Int) + 1)=((i + 1:Nat):Int):=by rw [a0Y (by omega) (by omega)];omega
   by_cases hib:i < b'.length
   ·have hlb:=hb'.load hib hx
    have hB2:=a0Q hib
    have hB3:b'.getD i 0 < 4294967296:=hb'.2 _ (by rw [h1z,h1E hib];exact h1I hib)
    generalize b'.getD i 0=B at hlb hB2 hB3
    have e2:IntKind.u64.wrap (((c + A:Nat):Int) + IntKind.u64.wrap (B:Int))=((c + A + B:Nat):Int):=by rw [a0x,a0x];omega
    simp [-Int.natCast_add,q0A,u0g,u0h,u0i,q0w,q0x,q0y,q0z,g1,g5,g6,g20,g21,g22,hi,ha'.ia hi,hla,hb'.slen,e1,hib,hb'.ia hib,hlb,e2]
    generalize hc2:c + A + B=c2
    refine (a0r hx.1).mono ?_
    rintro _ G2 ⟨rfl,hx2⟩
    obtain ⟨s',G3,h1,h2,h3,h4⟩:=e0b (e2:=a0k) (new:=[.int .u32 ((c2 % 4294967296:Nat):Int)]) (c:=1) (bytes:=4) (ho.mono hx2) rfl rfl (by omega) (by omega) (by omega) (by have:=hx.1;have:=hx2.1;omega)
    simp [-Int.natCast_emod,-Int.natCast_add,h1,g1,g5,g6,g20,g21,g22,e9]
    refine ⟨k - 1,by omega,i + 1,by omega,c2 / 4294967296,rfl,rfl,h4 _ (h1A _) (hx.trans hx2),out ++ [c2 % 4294967296],by simpa [c0c] using h2,?_,by simp [hol],by omega,?_⟩
    ·intro x hx
     rcases i1g.1 hx with hx | hx
     ·exact hok x hx
     ·simp at hx;omega
    ·rw [c0i,hol,hA2,hB2,h1Z]
     have e3:4294967296 ^ i * 4294967296 * (c2 / 4294967296)=4294967296 ^ i * (4294967296 * (c2 / 4294967296)):=h1U ..
     have e4:4294967296 ^ i * (c2 % 4294967296) + 4294967296 ^ i * (4294967296 * (c2 / 4294967296))=4294967296 ^ i * c2:=by rw [← h1P,j1Z]
     have e5:4294967296 ^ i * c2=4294967296 ^ i * c + 4294967296 ^ i * A + 4294967296 ^ i * B:=by rw [← hc2,h1P,h1P]
     omega
   ·have hB2:a0w (b'.take (i + 1))=a0w (b'.take i) + 4294967296 ^ i * 0:=by rw [h1O (by omega),h1O (by omega)];simp
    have hB3:(0:Nat) < 4294967296:=by omega
    have e2:c + A=c + A + 0:=rfl
    rw [e2] at e1
    generalize (0:Nat)=B at hB2 hB3 e1
    simp [-Int.natCast_add,q0A,u0g,u0h,u0i,q0w,q0x,q0y,q0z,g1,g5,g6,g20,g21,g22,hi,ha'.ia hi,hla,hb'.slen,e1,hib]
    generalize hc2:c + A + B=c2
    refine (a0r hx.1).mono ?_
    rintro _ G2 ⟨rfl,hx2⟩
    obtain ⟨s',G3,h1,h2,h3,h4⟩:=e0b (e2:=a0k) (new:=[.int .u32 ((c2 % 4294967296:Nat):Int)]) (c:=1) (bytes:=4) (ho.mono hx2) rfl rfl (by omega) (by omega) (by omega) (by have:=hx.1;have:=hx2.1;omega)
    simp [-Int.natCast_emod,-Int.natCast_add,h1,g1,g5,g6,g20,g21,g22,e9]
    refine ⟨k - 1,by omega,i + 1,by omega,c2 / 4294967296,rfl,rfl,h4 _ (h1A _) (hx.trans hx2),out ++ [c2 % 4294967296],by simpa [c0c] using h2,?_,by simp [hol],by omega,?_⟩
    ·intro x hx
     rcases i1g.1 hx with hx | hx
     ·exact hok x hx
     ·simp at hx;omega
    ·rw [c0i,hol,hA2,hB2,h1Z]
     have e3:4294967296 ^ i * 4294967296 * (c2 / 4294967296)=4294967296 ^ i * (4294967296 * (c2 / 4294967296)):=h1U ..
     have e4:4294967296 ^ i * (c2 % 4294967296) + 4294967296 ^ i * (4294967296 * (c2 / 4294967296))=4294967296 ^ i * c2:=by rw [← h1P,j1Z]
     have e5:4294967296 ^ i * c2=4294967296 ^ i * c + 4294967296 ^ i * A + 4294967296 ^ i * B:=by rw [← hc2,h1P,h1P]
     omega
  ·simp [q0A,g1,g5,g6,g20,g21,g22,hi]
   have:i=a'.length:=by omega
   subst this
   refine ⟨c,rfl,hx,out,ho,hok,hol,hc,?_⟩
   rw [hs,h1O (h1A _),h1O hle]
 ·clear g0 g1 hm w1 ht ρ
  rintro t G' ⟨c,out,s,ht,g5,g6,hx,ho,hok,hol,hc,hs⟩
  obtain ⟨ρ,rfl⟩:=toT ht
  simp only [b0V,Nat.reduceLT] at g5 g6
  simp [w0G,g5,g6]
  refine (a0r hx.1).mono ?_
  rintro _ G2 ⟨rfl,hx2⟩
  obtain ⟨s',G3,h1,h2,h3,h4⟩:=e0b (e2:=a0k) (new:=[.int .u32 ((c % 4294967296:Nat):Int)]) (c:=1) (bytes:=4) (ho.mono hx2) rfl rfl (by omega) (by omega) (by omega) (by have:=hx.1;have:=hx2.1;omega)
  simp [-Int.natCast_emod,-Int.natCast_add,h1]
  refine fun _=>⟨out ++ [c % 4294967296],⟨by simpa [hol,c0c] using h2.sl,?_⟩,?_,by simp [hol]⟩
  ·intro x hx
   rcases i1g.1 hx with hx | hx
   ·exact hok x hx
   ·simp at hx;omega
  ·rw [c0i,hol,i1d (by omega)];exact hs
theorem i0C (ha:Lim H v a) (hb:Lim H w b) (hf:fl≤H.size) (hna:a.length < 1073741824) (hle:b.length≤a.length) (hnat:a0w b≤a0w a) :
  a0S env fl y0g [v,w] H (fun r H'=>(∃ o,Lim H' r o∧a0w o=a0w a - a0w b∧o.length=a.length)∧Ext H H') R:=by
 refine a0i d1Y hf (h:=?_)
 intro ρ h0
 simp only [M0r]
 have hm:=X0v (bytes:=4) (k:=.i64) (k':=.i64) (l:=0) (c:=(a.length:Int)) (by omega) (by omega) (by omega) (by omega)
 simp [D0D,D0E,D0F,D0G,h0,ha.slen,hm]
 refine b0Y (fun k t G'=>∃ i c out s,i + k=a.length∧t.length=46∧get t 1=w∧get t 5=s∧get t 6=.int .u64 ((c:Nat):Int)∧get t 14=v∧get t 15=.int .i64 a.length∧get t 16=.int .i64 ((i:Nat):Int) ∧
   Ext H G'∧Own H.size G' a0k 1 s i (c0c out)∧b0u out∧out.length=i∧c≤1∧a0w out + a0w (b.take i)=a0w (a.take i) + 4294967296 ^ i * c)
  (fun t G'=>∃ c out s,t.length=46∧get t 5=s ∧
   Ext H G'∧Own H.size G' a0k 1 s a.length (c0c out)∧b0u out∧out.length=a.length∧c≤1∧a0w out + a0w b=a0w a + 4294967296 ^ a.length * c) a.length ?_ ?_ ?_
 ·exact ⟨0,0,[],.slice (some ⟨H.size,0,none⟩) 0 a.length,by omega,by simp,by simp [h0],by simp,by simp,by simp [h0],by simp,by simp,by simp,
   Own.mk (by simp [c0c]) rfl (h1A _),by intro x hx;simp at hx,rfl,by omega,by simp [a0w]⟩
 ·clear hm h0 ρ
  rintro k t G' ⟨i,c,out,s,hik,ht,g1,g5,g6,g14,g15,g16,hx,ho,hok,hol,hc,hs⟩
  obtain ⟨ρ,rfl⟩:=toT ht
  simp only [b0V,Nat.reduceLT] at g1 g5 g6 g14 g15 g16
  by_cases hi:i < a.length
  ·have hla:=ha.load hi hx
   have hA2:=a0Q hi
   have hA3:a.getD i 0 < 4294967296:=ha.2 _ (by rw [h1z,h1E hi];exact h1I hi)
   generalize a.getD i 0=A at hla hA2 hA3
   have e9:IntKind.i64.wrap ((i:Int) + 1)=((i + 1:Nat):Int):=by rw [a0Y (by omega) (by omega)];omega
   by_cases hib:i < b.length
   ·have hlb:=hb.load hib hx
    have hB2:=a0Q hib
    have hB3:b.getD i 0 < 4294967296:=hb.2 _ (by rw [h1z,h1E hib];exact h1I hib)
    generalize b.getD i 0=B at hlb hB2 hB3
    have e2:IntKind.u64.wrap ((c:Int) + IntKind.u64.wrap (B:Int))=((c + B:Nat):Int):=by rw [a0x,a0x];omega
    have e3:IntKind.u64.wrap (IntKind.u64.wrap (A:Int) - ((c + B:Nat):Int))=(((A + 18446744073709551616 - (c + B)) % 18446744073709551616:Nat):Int):=by rw [a0x,a0x];omega
    simp [-Int.natCast_add,-Int.natCast_emod,q0E,u0k,u0l,u0m,u0n,u0o,q0B,q0C,q0D,g1,g5,g6,g14,g15,g16,hi,ha.ia hi,hla,hb.slen,hib,hb.ia hib,hlb,e2,e3]
    generalize hD:(A + 18446744073709551616 - (c + B)) % 18446744073709551616=D
    refine (a0r hx.1).mono ?_
    rintro _ G2 ⟨rfl,hx2⟩
    obtain ⟨s',G3,h1,h2,h3,h4⟩:=e0b (e2:=a0k) (new:=[.int .u32 ((D % 4294967296:Nat):Int)]) (c:=1) (bytes:=4) (ho.mono hx2) rfl rfl (by omega) (by omega) (by omega) (by have:=hx.1;have:=hx2.1;omega)
    simp [-Int.natCast_emod,-Int.natCast_add,h1,g1,g5,g6,g14,g15,g16,e9]
    refine ⟨k - 1,by omega,i + 1,by omega,D / 9223372036854775808,rfl,rfl,h4 _ (h1A _) (hx.trans hx2),out ++ [D % 4294967296],by simpa [c0c] using h2,?_,by simp [hol],by omega,?_⟩
    ·intro x hx
     rcases i1g.1 hx with hx | hx
     ·exact hok x hx
     ·simp at hx;omega
    ·rw [c0i,hol,hA2,hB2,h1Z]
     have e3:4294967296 ^ i * 4294967296 * (D / 9223372036854775808)=4294967296 ^ i * (4294967296 * (D / 9223372036854775808)):=h1U ..
     have e4:D % 4294967296 + c + B=A + 4294967296 * (D / 9223372036854775808):=by omega
     have e5:4294967296 ^ i * (D % 4294967296) + 4294967296 ^ i * c + 4294967296 ^ i * B=4294967296 ^ i * A + 4294967296 ^ i * (4294967296 * (D / 9223372036854775808)):=by
      rw [← h1P,← h1P,← h1P,e4]
     omega
   ·have hB2:a0w (b.take (i + 1))=a0w (b.take i) + 4294967296 ^ i * 0:=by rw [h1O (by omega),h1O (by omega)];simp
    have hB3:(0:Nat) < 4294967296:=by omega
    have e3:IntKind.u64.wrap (IntKind.u64.wrap (A:Int) - (c:Int))=(((A + 18446744073709551616 - (c + 0)) % 18446744073709551616:Nat):Int):=by rw [a0x,a0x];omega
    generalize hB:(0:Nat)=B at hB2 hB3 e3
    simp [-Int.natCast_add,-Int.natCast_emod,q0E,u0k,u0l,u0m,u0n,u0o,q0B,q0C,q0D,g1,g5,g6,g14,g15,g16,hi,ha.ia hi,hla,hb.slen,hib,e3]
    generalize hD:(A + 18446744073709551616 - (c + B)) % 18446744073709551616=D
    refine (a0r hx.1).mono ?_
    rintro _ G2 ⟨rfl,hx2⟩
    obtain ⟨s',G3,h1,h2,h3,h4⟩:=e0b (e2:=a0k) (new:=[.int .u32 ((D % 4294967296:Nat):Int)]) (c:=1) (bytes:=4) (ho.mono hx2) rfl rfl (by omega) (by omega) (by omega) (by have:=hx.1;have:=hx2.1;omega)
    simp [-Int.natCast_emod,-Int.natCast_add,h1,g1,g5,g6,g14,g15,g16,e9]
    refine ⟨k - 1,by omega,i + 1,by omega,D / 9223372036854775808,rfl,rfl,h4 _ (h1A _) (hx.trans hx2),out ++ [D % 4294967296],by simpa [c0c] using h2,?_,by simp [hol],by omega,?_⟩
    ·intro x hx
     rcases i1g.1 hx with hx | hx
     ·exact hok x hx
     ·simp at hx;omega
    ·rw [c0i,hol,hA2,hB2,h1Z]
     have e3:4294967296 ^ i * 4294967296 * (D / 9223372036854775808)=4294967296 ^ i * (4294967296 * (D / 9223372036854775808)):=h1U ..
     have e4:D % 4294967296 + c + B=A + 4294967296 * (D / 9223372036854775808):=by omega
     have e5:4294967296 ^ i * (D % 4294967296) + 4294967296 ^ i * c + 4294967296 ^ i * B=4294967296 ^ i * A + 4294967296 ^ i * (4294967296 * (D / 9223372036854775808)):=by
      rw [← h1P,← h1P,← h1P,e4]
     omega
  ·simp [q0E,g1,g5,g6,g14,g15,g16,hi]
   have:i=a.length:=by omega
   subst this
   refine ⟨hx,c,out,ho,hok,hol,hc,?_⟩
   rw [h1O (h1A _),h1O hle] at hs
   exact hs
 ·clear hm h0 ρ
  rintro t G' ⟨c,out,s,ht,g5,hx,ho,hok,hol,hc,hs⟩
  obtain ⟨ρ,rfl⟩:=toT ht
  simp only [b0V,Nat.reduceLT] at g5
  simp [w0H,g5]
  refine fun _=>⟨out,⟨by simpa [hol] using ho.sl,hok⟩,?_,hol⟩
  have h2:=f0U out hok
  rw [hol] at h2
  have:c=0:=by
   refine Decidable.byContradiction fun hc0=>?_
   have:c=1:=by omega
   subst this
   omega
  subst this
  omega
def x0Y (a b:List Nat):Int:=if a.length ≠ b.length then c0z a.length b.length else c0z (a0w a) (a0w b)
theorem c0g {x y:Nat}:c0z (x:Int) (y:Int)=if x < y then -1 else if y < x then 1 else 0:=by
 unfold c0z;(repeat' split) <;> omega
theorem s0d {i:Nat} (hab:a.length=b.length) (ha:b0u a) (hb:b0u b) (hi:i < a.length) (he:a.drop (i + 1)=b.drop (i + 1)) (hne:a.getD i 0 ≠ b.getD i 0) :
  c0z (a0w a:Int) (a0w b:Int)=c0z (a.getD i 0:Int) (b.getD i 0:Int):=by
 have h1:a0w a=a0w (a.take i) + 4294967296 ^ i * a.getD i 0 + 4294967296 ^ (i + 1) * a0w (a.drop (i + 1)):=by
  have:=f0T (a.take (i + 1)) (a.drop (i + 1))
  rw [j1X,i1E,i1N (by omega)] at this
  rw [this,a0Q hi]
 have h2:a0w b=a0w (b.take i) + 4294967296 ^ i * b.getD i 0 + 4294967296 ^ (i + 1) * a0w (b.drop (i + 1)):=by
  have:=f0T (b.take (i + 1)) (b.drop (i + 1))
  rw [j1X,i1E,i1N (by omega)] at this
  rw [this,a0Q (by omega)]
 have h3:=f0U (a.take i) (fun x hx=>ha x (j1u hx))
 have h4:=f0U (b.take i) (fun x hx=>hb x (j1u hx))
 rw [i1E,i1N (by omega)] at h3 h4
 rw [he] at h1
 generalize 4294967296 ^ (i + 1) * a0w (b.drop (i + 1))=Z at h1 h2
 generalize a.getD i 0=x at *
 generalize b.getD i 0=y at *
 generalize 4294967296 ^ i=P at *
 rw [c0g,c0g]
 by_cases hxy:x < y
 ·have:P * (x + 1)≤P * y:=i1b P hxy
  rw [h1P] at this
  rw [h1F (by omega),h1F hxy]
 ·have:P * (y + 1)≤P * x:=i1b P (by omega)
  rw [h1P] at this
  rw [h1C (by omega),h1F (by omega),h1C hxy,h1F (by omega)]
theorem f0g (ha:Lim H v a) (hb:Lim H w b) (hf:fl≤H.size) (hna:a.length < 4611686018427387904) :
  a0S env fl r0D [v,w] H (fun r H'=>r=.int .i64 (x0Y a b)∧Ext H H') R:=by
 refine a0i d1X hf (h:=?_)
 intro ρ h0
 simp only [M0q]
 have w1:IntKind.i64.wrap ((a.length:Int) - 1)=(a.length:Int) - 1:=a0Y (by omega) (by omega)
 simp [D0v,D0w,D0x,D0y,h0,ha.slen,hb.slen,w1]
 refine ⟨fun h=>?_,fun hab=>?_⟩
 ·refine (j0w (h1A _)).mono ?_
  rintro _ G ⟨rfl,hx⟩
  simp [x0Y,h]
 have hcl:x0Y a b=c0z (a0w a) (a0w b):=by simp [x0Y,hab]
 rw [hcl]
 refine b0Y (fun k t G'=>t.length=41∧get t 0=v∧get t 1=w∧get t 5=.int .i64 ((k:Int) - 1)∧G' = H∧k≤a.length∧a.drop k=b.drop k)
  (fun t G'=>t.length=41∧G' = H∧a=b) a.length (by simp [h0,hab]) ?_ ?_
 ·clear h0 ρ
  rintro k t G' ⟨ht,g0,g1,g5,rfl,hk,hd⟩
  obtain ⟨ρ,rfl⟩:=toT ht
  simp only [b0V,Nat.reduceLT] at g0 g1 g5
  by_cases hk0:k=0
  ·subst hk0
   simp [u0j,g0,g1,g5]
   simpa using hd
  ·have e0:(k:Int) - 1=((k - 1:Nat):Int):=by omega
   have hka:k - 1 < a.length:=by omega
   have hkb:k - 1 < b.length:=by omega
   have hla:=ha.load hka (Ext.refl _)
   have hlb:=hb.load hkb (Ext.refl _)
   have w2:IntKind.i64.wrap (((k - 1:Nat):Int) - 1)=((k - 1:Nat):Int) - 1:=a0Y (by omega) (by omega)
   rw [e0] at g5
   have hla':=ha.ia (k:=.i64) hka
   have hlb':=hb.ia (k:=.i64) hkb
   have hh:=s0d hab ha.ok hb.ok hka (by rw [show k - 1 + 1=k by omega];exact hd)
   generalize hA:a.getD (k - 1) 0=A at hla hh
   generalize hB:b.getD (k - 1) 0=B at hlb hh
   simp [u0j,g0,g1,g5]
   refine a0B ?_
   simp [D0z,g0,g1,g5,hla,hla',hlb,hlb']
   refine ⟨fun hne=>?_,fun heq=>?_⟩
   ·refine a0B ?_
    simp [D0A,g0,g1,g5,hla,hla',hlb,hlb']
    refine (h0e (h1A _)).mono ?_
    rintro _ G ⟨rfl,hx⟩
    simp [hh hne]
   ·simp [D0B,g0,g1,g5,w2]
    refine ⟨k - 1,by omega,rfl,by omega,?_⟩
    rw [i1t hka,i1t hkb,show k - 1 + 1=k by omega,hd]
    congr 1
    rw [h1z,h1E hka] at hA
    rw [h1z,h1E hkb] at hB
    simp at hA hB;omega
 ·clear h0 ρ
  rintro t G' ⟨ht,rfl,rfl⟩
  obtain ⟨ρ,rfl⟩:=toT ht
  simp [D0C,c0z]
end
section
open Go
variable {fl:Nat} {H:a0f} {R:a0G} {v:Value} {i:Bool × List Nat} {a b:List Nat}
theorem b0d.ok (h:b0d H v i):b0u i.2:=by obtain ⟨s,_,hs⟩:=h;exact hs.ok
theorem K0j {l:List Nat} (h:l.length=0 ∨ l.getD (l.length - 1) 0 ≠ 0):d0E l=l:=by
 rcases List.eq_nil_or_concat l with rfl | ⟨l',x,rfl⟩
 ·rfl
 ·have:x ≠ 0:=by
   rcases h with h | h
   ·simp at h
   ·simpa [h1z] using h
  rw [List.concat_eq_append];exact k0L this
theorem m0k (i:Bool × List Nat):d0E (e0Q i)=e0Q i:=by
 unfold e0Q
 by_cases h:f0R i=true
 ·rw [h1F h]
  refine K0j ?_
  unfold f0R at h
  by_cases h0:i.2.length=0
  ·exact .inl h0
  ·rw [h1C h0] at h;exact .inr (by simpa using h)
 ·rw [h1C h];rfl
theorem A0M (h:b0u i.2):b0u (e0Q i):=by
 unfold e0Q;split
 ·exact h
 ·intro x hx;simp at hx
theorem N0C (i:Bool × List Nat):(a0z i).natAbs=a0w (e0Q i):=by
 unfold a0z e0Q
 by_cases h:f0R i=true
 ·rw [h1F h,h1F h];split <;> omega
 ·rw [h1C h,h1C h];rfl
theorem j0r (h:b0u i.2):e0Q i=a0p (a0z i).natAbs:=by
 rw [N0C,← b0U _ (A0M h),m0k]
theorem A0U (i:Bool × List Nat):Z0t i=decide (a0z i < 0):=by
 unfold Z0t a0z
 by_cases h:f0R i=true
 ·rw [h1F h,h,Bool.true_and]
  by_cases hn:i.1=true
  ·have h0:a0w i.2 ≠ 0:=by
    intro h0
    have h1:=(j0u i.2).1 h0
    have h2:=m0k i
    unfold e0Q at h2
    rw [h1F h,h1] at h2
    unfold f0R at h
    rw [← h2] at h
    simp [hn] at h
   rw [h1F hn,hn];simp;omega
  ·rw [h1C hn];simp [hn]
 ·rw [h1C h];simp [h]
theorem y0z (i:Bool × List Nat):(e0Q i).length≤i.2.length:=by unfold e0Q;split <;> simp
theorem a0v (h:b0u i.2):(a0p (a0z i).natAbs).length≤i.2.length:=by rw [← j0r h];exact y0z i
theorem a0V {m n:Nat} (h:m≤n):(a0p m).length≤(a0p n).length:=e0h (k1x h (e0u n))
theorem d0B (m n:Nat):x0Y (a0p m) (a0p n)=c0z m n:=by
 unfold x0Y
 rw [a0q,a0q]
 split
 ·rename_i h
  rw [c0g,c0g]
  by_cases hmn:m < n
  ·have:=a0V (j1Y hmn)
   rw [h1F hmn,h1F (by omega)]
  ·have:=a0V (show n≤m by omega)
   have hne:m ≠ n:=fun h2=>h (by rw [h2])
   rw [h1C hmn,h1F (by omega:n < m),h1C (by omega),h1F (by omega)]
 ·rfl
theorem b0R (h:b0d H v i) (hf:fl≤H.size) (hn:i.2.length < 4611686018427387904) :
  a0S env fl f0O [v] H (fun r H'=>Lim H' r (a0p (a0z i).natAbs)∧Ext H H') R:=by
 rw [← j0r h.ok];exact n0V h hf hn
theorem b0B (h:b0d H v i) (hf:fl≤H.size) (hn:i.2.length < 4611686018427387904) :
  a0S env fl e0j [v] H (fun r H'=>r=.bool (decide (a0z i < 0))∧Ext H H') R:=by
 rw [← A0U];exact s0f h hf hn
theorem c0o {l:List Nat} {b:Bool} (z:Int) (h:Lim H v l) (hf:fl≤H.size) (hn:l.length≤1073741824) (hz:(if b then -(a0w l:Int) else a0w l)=z) :
  a0S env fl g0z [.bool b,v] H (fun r H'=>b0d H' r (a0j z)∧Ext H H') R:=by
 rw [← hz,← N0V h.ok];exact p0Y h hf hn
theorem b0d.setT (h:b0d H v i) {p:Nat} {ro:Bool} {e':TypeId} {cs':List Value} {r:Blk} (hb:H.blk p=.row ro e' cs') (hne:e' ≠ a0k):b0d (H.setIfInBounds p r) v i:=by
 obtain ⟨s,h1,h2⟩:=h;exact ⟨s,h1,h2.setT hb hne⟩
end
section
open Go
set_option maxHeartbeats 4000000
variable {fl:Nat} {H:a0f} {R:a0G} {v w:Value} {i j:Bool × List Nat}
theorem f0f (h:b0d H v i) (hf:fl≤H.size) (hn:i.2.length≤1073741824) :
  a0S env fl r0I [v] H (fun r H'=>b0d H' r (a0j (-a0z i))∧Ext H H') R:=by
 have hh:=h
 obtain ⟨s,rfl,hs⟩:=h
 refine a0i e1p hf (h:=?_)
 intro ρ h0
 simp [M0H,F0i,h0]
 generalize hG:Array.push (Array.push H _) _=G
 have hx:Ext H G:=by rw [← hG];simp
 have b0:a0f.blk G H.size=.row false a0a [.bool i.1,s]:=by rw [← hG];simp
 have b1:a0f.blk G (H.size + 1)=.row false a0a [.bool false,.slice none 0 0]:=by rw [← hG];simp
 have hz:H.size + 1 < G.size:=a0l b1
 refine a0B ?_
 simp [F0j,h0,b0,b1]
 refine (b0B (hh.mono hx) (by omega) (by omega)).mono ?_
 rintro _ G2 ⟨rfl,hx2⟩
 replace b0:=hx2.blk b0
 replace b1:=hx2.blk b1
 replace hx:=hx.trans hx2
 simp [h0,b0,b1]
 refine (b0R (hh.mono hx) hx.1 (by omega)).mono ?_
 rintro l G3 ⟨hl,hx3⟩
 replace b1:=hx3.blk b1
 replace hx:=hx.trans hx3
 try simp [h0]
 have:=a0v hh.ok
 refine (c0o (-a0z i) hl hx.1 (by omega) (by rw [a0q];simp;split <;> omega)).mono ?_
 rintro _ G4 ⟨⟨s',rfl,hs'⟩,hx4⟩
 replace b1:=hx4.blk b1
 have hz:=a0l b1
 simp [b1,hs'.cells,hs'.plain,hz]
 exact fun _=>⟨s',rfl,hs'.setT b1 (by decide)⟩
theorem f0c (h:b0d H v i) (k:b0d H w j) (hf:fl≤H.size) (hn:i.2.length < 536870912) (hm:j.2.length < 536870912) :
  a0S env fl K0s [v,w] H (fun r H'=>b0d H' r (a0j (a0z i + a0z j))∧Ext H H') R:=by
 have hh:=h
 have kk:=k
 obtain ⟨s,rfl,hs⟩:=h
 obtain ⟨u,rfl,hu⟩:=k
 refine a0i h1e hf (h:=?_)
 intro ρ h0
 simp [c1v,T0o,h0]
 generalize hG:Array.push (Array.push (Array.push H _) _) _=G
 have hx:Ext H G:=by rw [← hG];exact (Ext.refl H).push.push.push
 have b0:a0f.blk G H.size=.row false a0a [.bool i.1,s]:=by rw [← hG];simp
 have b1:a0f.blk G (H.size + 1)=.row false a0a [.bool j.1,u]:=by rw [← hG];simp
 have b2:a0f.blk G (H.size + 2)=.row false a0a [.bool false,.slice none 0 0]:=by rw [← hG];simp
 have hz:H.size + 1 < G.size:=a0l b1
 clear hG
 refine a0B ?_
 simp [T0p,h0,b0,b1]
 refine (b0R (hh.mono hx) (by omega) (by omega)).mono ?_
 rintro x G2 ⟨hl,hx2⟩
 replace b0:=hx2.blk b0
 replace b1:=hx2.blk b1
 replace b2:=hx2.blk b2
 replace hx:=hx.trans hx2
 try simp [h0,b0,b1]
 refine (b0R (kk.mono hx) hx.1 (by omega)).mono ?_
 rintro y G3 ⟨hl2,hx3⟩
 replace b0:=hx3.blk b0
 replace b1:=hx3.blk b1
 replace b2:=hx3.blk b2
 replace hx:=hx.trans hx3
 replace hl:=hl.mono hx3
 try simp [h0]
 refine a0B ?_
 simp [T0q,h0,b0,b1]
 refine (b0B (hh.mono hx) (by have:=hx.1;omega) (by omega)).mono ?_
 rintro _ G2 ⟨rfl,hx2⟩
 replace b0:=hx2.blk b0
 replace b1:=hx2.blk b1
 replace b2:=hx2.blk b2
 replace hx:=hx.trans hx2
 replace hl:=hl.mono hx2
 replace hl2:=hl2.mono hx2
 try simp [h0,b0,b1]
 refine (b0B (kk.mono hx) hx.1 (by omega)).mono ?_
 rintro _ G2 ⟨rfl,hx2⟩
 replace b0:=hx2.blk b0
 replace b1:=hx2.blk b1
 replace b2:=hx2.blk b2
 replace hx:=hx.trans hx2
 replace hl:=hl.mono hx2
 replace hl2:=hl2.mono hx2
 clear hs hu hz hx2
 have l1:=a0v hh.ok
 have l2:=a0v kk.ok
 simp [h0]
 refine ⟨fun hsame=>?_,fun hdiff=>?_⟩
 ·simp [T0r,h0,b0]
  refine (b0B (hh.mono hx) hx.1 (by omega)).mono ?_
  rintro _ G2 ⟨rfl,hx2⟩
  replace b0:=hx2.blk b0
  replace b1:=hx2.blk b1
  replace b2:=hx2.blk b2
  replace hx:=hx.trans hx2
  replace hl:=hl.mono hx2
  replace hl2:=hl2.mono hx2
  try simp [h0]
  refine (p0Z hl hl2 hx.1 (by omega) (by omega)).mono ?_
  rintro r G2 ⟨⟨o,ho,hon,hol⟩,hx2⟩
  replace b0:=hx2.blk b0
  replace b1:=hx2.blk b1
  replace b2:=hx2.blk b2
  replace hx:=hx.trans hx2
  replace hl:=hl.mono hx2
  replace hl2:=hl2.mono hx2
  try simp [h0]
  rw [a0q,a0q] at hon
  refine (c0o (a0z i + a0z j) ho hx.1 (by omega) (by rw [hon];simp;split <;> omega)).mono ?_
  rintro _ G2 ⟨⟨s',rfl,hs'⟩,hx2⟩
  replace b0:=hx2.blk b0
  replace b1:=hx2.blk b1
  replace b2:=hx2.blk b2
  replace hx:=hx.trans hx2
  replace hl:=hl.mono hx2
  replace hl2:=hl2.mono hx2
  have hz:=a0l b2
  simp [b2,hs'.cells,hs'.plain,hz]
  exact fun _=>⟨s',rfl,hs'.setT b2 (by decide)⟩
 ·simp [T0s,h0]
  refine (f0g hl hl2 hx.1 (by omega)).mono ?_
  rintro _ G2 ⟨rfl,hx2⟩
  replace b0:=hx2.blk b0
  replace b1:=hx2.blk b1
  replace b2:=hx2.blk b2
  replace hx:=hx.trans hx2
  replace hl:=hl.mono hx2
  replace hl2:=hl2.mono hx2
  rw [d0B,c0g]
  try simp [h0]
  refine ⟨fun hge=>?_,fun hlt=>?_⟩
  ·have hab:(a0z j).natAbs≤(a0z i).natAbs:=by
    (repeat' split at hge) <;> omega
   simp [T0t,h0,b0]
   refine (b0B (hh.mono hx) hx.1 (by omega)).mono ?_
   rintro _ G2 ⟨rfl,hx2⟩
   replace b0:=hx2.blk b0
   replace b1:=hx2.blk b1
   replace b2:=hx2.blk b2
   replace hx:=hx.trans hx2
   replace hl:=hl.mono hx2
   replace hl2:=hl2.mono hx2
   try simp [h0]
   refine (i0C hl hl2 hx.1 (by omega) (a0V hab) (by rw [a0q,a0q];exact hab)).mono ?_
   rintro r G2 ⟨⟨o,ho,hon,hol⟩,hx2⟩
   replace b0:=hx2.blk b0
   replace b1:=hx2.blk b1
   replace b2:=hx2.blk b2
   replace hx:=hx.trans hx2
   replace hl:=hl.mono hx2
   replace hl2:=hl2.mono hx2
   try simp [h0]
   rw [a0q,a0q] at hon
   refine (c0o (a0z i + a0z j) ho hx.1 (by omega) (by rw [hon];simp;split <;> omega)).mono ?_
   rintro _ G2 ⟨⟨s',rfl,hs'⟩,hx2⟩
   replace b0:=hx2.blk b0
   replace b1:=hx2.blk b1
   replace b2:=hx2.blk b2
   replace hx:=hx.trans hx2
   replace hl:=hl.mono hx2
   replace hl2:=hl2.mono hx2
   have hz:=a0l b2
   simp [b2,hs'.cells,hs'.plain,hz]
   exact fun _=>⟨s',rfl,hs'.setT b2 (by decide)⟩
  ·have hab:(a0z i).natAbs≤(a0z j).natAbs:=by
    (repeat' split at hlt) <;> omega
   simp [T0u,h0,b1]
   refine (b0B (kk.mono hx) hx.1 (by omega)).mono ?_
   rintro _ G2 ⟨rfl,hx2⟩
   replace b0:=hx2.blk b0
   replace b1:=hx2.blk b1
   replace b2:=hx2.blk b2
   replace hx:=hx.trans hx2
   replace hl:=hl.mono hx2
   replace hl2:=hl2.mono hx2
   try simp [h0]
   refine (i0C hl2 hl hx.1 (by omega) (a0V hab) (by rw [a0q,a0q];exact hab)).mono ?_
   rintro r G2 ⟨⟨o,ho,hon,hol⟩,hx2⟩
   replace b0:=hx2.blk b0
   replace b1:=hx2.blk b1
   replace b2:=hx2.blk b2
   replace hx:=hx.trans hx2
   replace hl:=hl.mono hx2
   replace hl2:=hl2.mono hx2
   try simp [h0]
   rw [a0q,a0q] at hon
   refine (c0o (a0z i + a0z j) ho hx.1 (by omega) (by rw [hon];simp;split <;> omega)).mono ?_
   rintro _ G2 ⟨⟨s',rfl,hs'⟩,hx2⟩
   replace b0:=hx2.blk b0
   replace b1:=hx2.blk b1
   replace b2:=hx2.blk b2
   replace hx:=hx.trans hx2
   replace hl:=hl.mono hx2
   replace hl2:=hl2.mono hx2
   have hz:=a0l b2
   simp [b2,hs'.cells,hs'.plain,hz]
   exact fun _=>⟨s',rfl,hs'.setT b2 (by decide)⟩
end
end Go.Proofs.YtjlohmnnldbjoaaGreat.AI
