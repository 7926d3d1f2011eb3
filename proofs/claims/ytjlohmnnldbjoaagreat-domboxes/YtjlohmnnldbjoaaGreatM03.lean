/- Part 4 of the proof: AiCode1, AiCode2, AiCode3, AiEnv. -/
import Derived.Test.YtjlohmnnldbjoaaGreatM02
set_option linter.unusedVariables false
set_option linter.unusedSimpArgs false
set_option linter.unusedSectionVars false
/- The small code of the program's functions: printed. -/
namespace Go.Proofs.YtjlohmnnldbjoaaGreat.AI
section
open Go
def E0y:SS:=[o 4 (.alloc a0d [.bool false,.slice none 0 0,.bool false,.slice none 0 0]),o 5 (.mv (i 0))]
def E0z:SS:=[mV 8 0,lN 9 8,mV 10 1,lN 11 10,o 12 (.bin 0 .neq (t 9) (t 11))]
def K0F:SS:=[o 13 (.build [.bool false,.slice none 0 0,.bool false,.slice none 0 0] []),
 ⟨none,none,.store 4 (t 4) (t 13)⟩,o 5 (.mv (i 1))]
def K0G:SS:=[o 14 (.call l0Y [i 0] true),o 6 (.alloc a0d [.bool false,.slice none 0 0,.bool false,.slice none 0 0]),
 ⟨none,none,.store 4 (t 6) (t 14)⟩]
def K0H:SS:=[mV 15 0,lN 16 15,o 17 (.mv (i 0))]
def R0z:SS:=[o 18 (.bin 0 .lss (t 17) (t 16))]
def K0I:SS:=[mV 19 17,mV 7 19]
def K0J:SS:=[lA 20 4 6,mV 21 0,mV 22 7,iA 23 4 21 22,lA 24 4 23,mV 25 1,mV 26 7,iA 27 4 25 26,lA 28 4 27,o 29 (.call G0a [t 24,t 28] false),o 30 (.call n0R [t 20,t 29] true),
 ⟨none,none,.store 4 (t 6) (t 30)⟩]
def R0A:SS:=[o 31 (.bin 0 .add (t 17) (i 1)),mV 17 31]
def K0K:SS:=[lA 32 4 6,
 ⟨none,none,.store 4 (t 4) (t 32)⟩,o 5 (.mv (i 0))]
def R0W:SF:=⟨2,33,[.cell 4 true 4,.tmp 5],
 (qS (gR E0y) (qS (qS (gR E0z) (.cond (t 12) (qS (gR K0F) .ret) .skip)) (qS (gR K0G) (qS (qS (gR K0H) (.block 0 (.loop (qS (gR R0z) (qS (.cond (t 18) .skip (.exit 0)) (qS (.block 1 (qS (gR K0I) (.draw K0J [0,0,0,6,14,0,0,96,224,510,1023,2047] []))) (gR R0A))))))) (qS (gR K0K) .ret)))))⟩
def K0L:SS:=[o 2 (.box b0m (t 0)),o 3 (.box b0m (t 1)),o 4 (.mv (i 0))]
def K0M:SS:=[lA 5 5 2,o 6 (.call P0A [t 5] false),lA 7 5 3,o 8 (.call P0A [t 7] true),
 ⟨none,none,.store 5 (t 2) (t 6)⟩,
 ⟨none,none,.store 5 (t 3) (t 8)⟩]
def K0N:SS:=[fA 10 0 2,lD 11 10,fA 12 0 3,lD 13 12,o 14 (.bin 0 .lss (t 11) (t 13)),mV 9 14]
def K0O:SS:=[o 4 (.mv (.const (.int .i64 (-1))))]
def t0z:SS:=[fA 16 0 2,lD 17 16,fA 18 0 3,lD 19 18,o 20 (.bin 0 .gtr (t 17) (t 19)),mV 15 20]
def K0P:SS:=[o 4 (.mv (i 1))]
def E0A:SS:=[fA 22 0 2,lD 23 22,o 24 (.bin 0 .neq (t 23) (i 0)),mV 21 24]
def K0Q:SS:=[o 4 (.mv (i 0))]
def K0R:SS:=[fA 25 1 2,lA 26 4 25,fA 27 1 3,lA 28 4 27,o 29 (.call Q0U [t 26,t 28] true),mV 4 29]
def T0g:SF:=⟨2,30,[.tmp 4],
 (qS (gR K0L) (qS (.draw K0M [0,1,0,7,15,31] []) (qS (.block 0 (qS (gR K0N) (.cond (t 9) (qS (gR K0O) .ret) (qS (gR t0z) (.cond (t 15) (qS (gR K0P) .ret) (qS (gR E0A) (.cond (t 21) (qS (gR K0Q) .ret) .skip))))))) (qS (gR K0R) .ret))))⟩
def K0S:SS:=[o 1 (.box a0d (t 0)),o 2 (.alloc b0m [.int .i64 0,.bool false,.slice none 0 0,.bool false,.slice none 0 0])]
def K0T:SS:=[lA 3 4 1,o 4 (.build [.bool false,.slice none 0 0,.bool false,.slice none 0 0] []),o 5 (.call n0R [t 3,t 4] true),o 6 (.build [.int .i64 0,.bool false,.slice none 0 0,.bool false,.slice none 0 0] [(1,4,t 5)]),
 ⟨none,none,.store 5 (t 2) (t 6)⟩]
def T0h:SF:=⟨1,7,[.cell 2 true 5],
 (qS (gR K0S) (qS (gR K0T) .ret))⟩
def K0U:SS:=[o 2 (.box b0f (t 0)),o 4 (.mv (.const (.bool false)))]
def o0v:SS:=[mV 9 1,o 10 (.bin 0 .lss (t 9) (i 0)),mV 11 10,og 12 11 false (.mv (t 1)),og 13 11 false (.bin 0 .gtr (t 12) (i 6)),o 14 (.pick (t 11) (.const (.bool true)) (t 13)),mV 15 14,og 16 15 false (.fa 0 (t 2)),og 17 15 false (.load false 1 (t 16)),og 18 15 false (.len (t 17)),og 19 15 false (.bin 0 .gtr (t 18) (i 40)),o 20 (.pick (t 15) (.const (.bool true)) (t 19))]
def t0A:SS:=[o 4 (.mv (.const (.bool false)))]
def K0V:SS:=[fA 21 0 2,lD 22 21,lN 23 22,o 24 (.mv (i 0))]
def R0B:SS:=[o 25 (.bin 0 .lss (t 24) (t 23))]
def E0F:SS:=[iA 26 1 22 24,lD 27 26,mV 6 27]
def E0G:SS:=[mV 28 6,lN 29 28,mV 30 1,o 31 (.bin 0 .neq (t 29) (t 30))]
def K0W:SS:=[o 4 (.mv (.const (.bool false)))]
def K0X:SS:=[mV 32 6,lN 33 32,o 34 (.mv (i 0))]
def R0C:SS:=[o 35 (.bin 0 .lss (t 34) (t 33))]
def E0B:SS:=[iA 36 4 32 34,lA 37 4 36,o 8 (.alloc a0d [.bool false,.slice none 0 0,.bool false,.slice none 0 0]),
 ⟨none,none,.store 4 (t 8) (t 37)⟩]
def E0C:SS:=[lA 38 4 8,o 39 (.call N0o [t 38] true),o 40 (.un .not (t 39))]
def E0D:SS:=[o 4 (.mv (.const (.bool false)))]
def O0K:SS:=[o 41 (.bin 0 .add (t 34) (i 1)),mV 34 41]
def O0L:SS:=[o 42 (.bin 0 .add (t 24) (i 1)),mV 24 42]
def E0E:SS:=[o 4 (.mv (.const (.bool true)))]
def T0i:SF:=⟨2,43,[.tmp 4],
 (qS (gR K0U) (qS (qS (gR o0v) (.cond (t 20) (qS (gR t0A) .ret) .skip)) (qS (qS (gR K0V) (.block 0 (.loop (qS (gR R0B) (qS (.cond (t 25) .skip (.exit 0)) (qS (.block 1 (qS (gR E0F) (qS (qS (gR E0G) (.cond (t 31) (qS (gR K0W) .ret) .skip)) (qS (gR K0X) (.block 2 (.loop (qS (gR R0C) (qS (.cond (t 35) .skip (.exit 2)) (qS (.block 3 (qS (gR E0B) (qS (gR E0C) (.cond (t 40) (qS (gR E0D) .ret) .skip)))) (gR O0K)))))))))) (gR O0L))))))) (qS (gR E0E) .ret))))⟩
def K0Y:SS:=[o 4 (.mv (.const (.bool false)))]
def K0Z:SS:=[mV 5 0,mV 6 1,o 7 (.call Q0V [t 5,t 6] true),o 8 (.bin 0 .geq (t 7) (i 0)),mV 4 8]
def T0j:SF:=⟨2,9,[.tmp 4],
 (qS (gR K0Y) (qS (gR K0Z) .ret))⟩
def L0a:SS:=[o 1 (.box b0m (t 0)),o 2 (.mv (.const (.bool false)))]
def L0b:SS:=[lA 3 5 1,o 4 (.call P0y [t 3] true),o 5 (.un .not (t 4)),mV 2 5]
def T0k:SF:=⟨1,6,[.tmp 2],
 (qS (gR L0a) (qS (gR L0b) .ret))⟩
def L0c:SS:=[o 1 (.box b0m (t 0)),o 2 (.mv (.const (.bool false)))]
def L0d:SS:=[fA 3 0 1,lD 4 3]
def L0e:SS:=[o 6 (.bin 0 .eql (t 4) (.const (.int .i64 (-1)))),mV 5 6]
def t0B:SS:=[o 7 (.bin 0 .eql (t 4) (i 1)),mV 5 7]
def E0H:SS:=[fA 8 1 1,lA 9 4 8,o 10 (.call Q0W [t 9] true),mV 2 10]
def E0I:SS:=[o 12 (.bin 0 .eql (t 4) (i 0)),mV 11 12]
def L0f:SS:=[fA 13 1 1,lA 14 4 13,o 15 (.call N0o [t 14] true),mV 2 15]
def L0g:SS:=[o 2 (.mv (.const (.bool false)))]
def T0l:SF:=⟨1,16,[.tmp 2],
 (qS (gR L0c) (qS (qS (gR L0d) (.block 0 (qS (qS (gR L0e) (.cond (t 5) .skip (gR t0B))) (.cond (t 5) (qS (gR E0H) .ret) (qS (gR E0I) (.cond (t 11) (qS (gR L0f) .ret) .skip)))))) (qS (gR L0g) .ret)))⟩
def L0m:SS:=[o 4 (.alloc a0c [.bool false,.slice none 0 0])]
def L0n:SS:=[mV 5 1,o 6 (.call u0e [t 5] true),mV 1 6]
def E0K:SS:=[mV 7 1,lN 8 7,o 9 (.bin 0 .eql (t 8) (i 0))]
def L0o:SS:=[o 10 (.build [.bool false,.slice none 0 0] []),
 ⟨none,none,.store 2 (t 4) (t 10)⟩]
def L0p:SS:=[mV 11 0,o 12 (.lit a0m [.int .u32 0] 0 []),mV 13 1,o 14 (.app a0m 1 4 (t 12) (t 13)),o 15 (.build [.bool false,.slice none 0 0] [(0,1,t 11),(1,1,t 14)]),
 ⟨none,none,.store 2 (t 4) (t 15)⟩]
def T0m:SF:=⟨2,16,[.cell 4 true 2],
 (qS (gR L0m) (qS (gR L0n) (qS (qS (gR E0K) (.cond (t 9) (qS (gR L0o) .ret) .skip)) (qS (gR L0p) .ret))))⟩
def L0q:SS:=[o 1 (.box b0z (t 0)),o 2 (.mv (.const (.bool false)))]
def k0i:SS:=[fA 3 0 1,lD 4 3,o 5 (.bin 0 .lss (t 4) (i 0)),mV 6 5,og 7 6 false (.fa 0 (t 1)),og 8 6 false (.load false 1 (t 7)),og 9 6 false (.bin 0 .gtr (t 8) (i 60)),o 10 (.pick (t 6) (.const (.bool true)) (t 9)),mV 11 10,og 12 11 false (.fa 1 (t 1)),og 13 11 false (.load false 1 (t 12)),og 14 11 false (.len (t 13)),og 15 11 false (.bin 0 .gtr (t 14) (i 60)),o 16 (.pick (t 11) (.const (.bool true)) (t 15)),mV 17 16,og 18 17 false (.fa 2 (t 1)),og 19 17 false (.load false 1 (t 18)),og 20 17 false (.len (t 19)),og 21 17 false (.fa 1 (t 1)),og 22 17 false (.load false 1 (t 21)),og 23 17 false (.len (t 22)),og 24 17 false (.bin 0 .neq (t 20) (t 23)),o 25 (.pick (t 17) (.const (.bool true)) (t 24)),mV 26 25,og 27 26 false (.fa 3 (t 1)),og 28 26 false (.load false 1 (t 27)),og 29 26 false (.len (t 28)),og 30 26 false (.fa 0 (t 1)),og 31 26 false (.load false 1 (t 30)),og 32 26 false (.bin 0 .neq (t 29) (t 31)),o 33 (.pick (t 26) (.const (.bool true)) (t 32))]
def l0s:SS:=[o 2 (.mv (.const (.bool false)))]
def L0r:SS:=[fA 34 1 1,lD 35 34,o 36 (.mkfn (.func v0S) [] [t 1]),o 37 (.call v0R [t 35,t 36] true),o 38 (.un .not (t 37)),mV 2 38]
def T0n:SF:=⟨1,39,[.tmp 2],
 (qS (gR L0q) (qS (qS (gR k0i) (.cond (t 33) (qS (gR l0s) .ret) .skip)) (qS (gR L0r) .ret)))⟩
def L0s:SS:=[o 1 (.box b0z (t 0)),o 2 (.alloc b0d [.int .i64 0,.bool false,.slice none 0 0,.bool false,.slice none 0 0,.slice none 0 0,.slice none 0 0,.slice none 0 0]),o 3 (.mv (i 0))]
def L0t:SS:=[lA 8 4 1,o 9 (.call v0T [t 8] true),o 4 (.alloc a0q [.int .i64 0,.slice none 0 0,.slice none 0 0,.slice none 0 0,.bool false,.slice none 0 0,.bool false,.slice none 0 0]),
 ⟨none,none,.store 8 (t 4) (t 9)⟩]
def L0u:SS:=[lA 11 4 1,lA 12 8 4,o 13 (.call l0S [t 11,t 12] true),mV 10 13,o 14 (.ext (t 10) 0),o 15 (.ext (t 10) 1),o 16 (.ext (t 10) 2),o 5 (.alloc b0d [.int .i64 0,.bool false,.slice none 0 0,.bool false,.slice none 0 0,.slice none 0 0,.slice none 0 0,.slice none 0 0]),
 ⟨none,none,.store 8 (t 5) (t 14)⟩,mV 6 15,mV 7 16]
def E0L:SS:=[mV 17 7]
def L0v:SS:=[lA 18 8 5,mV 19 6,
 ⟨none,none,.store 8 (t 2) (t 18)⟩,mV 3 19]
def L0w:SS:=[o 20 (.build [] []),lA 21 4 1,lA 22 8 4,o 23 (.call u0f [t 20,t 21,t 22] true),o 24 (.ext (t 23) 0),o 25 (.ext (t 23) 1),
 ⟨none,none,.store 8 (t 2) (t 24)⟩,mV 3 25]
def T0o:SF:=⟨1,26,[.cell 2 true 8,.tmp 3],
 (qS (gR L0s) (qS (gR L0t) (qS (qS (gR L0u) (qS (gR E0L) (.cond (t 17) (qS (gR L0v) .ret) .skip))) (qS (gR L0w) .ret))))⟩
def L0x:SS:=[o 1 (.box b0m (t 0)),o 2 (.mv (.const (.bool false)))]
def L0y:SS:=[fA 3 0 1,lD 4 3,o 5 (.bin 0 .lss (t 4) (i 0)),mV 2 5]
def T0p:SF:=⟨1,6,[.tmp 2],
 (qS (gR L0x) (qS (gR L0y) .ret))⟩
def L0z:SS:=[o 1 (.box a0d (t 0)),o 2 (.alloc a0d [.bool false,.slice none 0 0,.bool false,.slice none 0 0])]
def L0A:SS:=[lA 3 4 1,o 4 (.call u0g [t 3] true),mV 5 4,og 6 5 false (.load true 4 (t 1)),og 7 5 false (.call N0o [t 6] true),og 8 5 false (.un .not (t 7)),o 9 (.pick (t 5) (.const (.bool true)) (t 8))]
def E0M:SS:=[o 10 (.call p0h [] true),o 11 (.build [.bool false,.slice none 0 0,.bool false,.slice none 0 0] [(2,2,t 10)]),
 ⟨none,none,.store 4 (t 2) (t 11)⟩]
def L0B:SS:=[fA 12 0 1,lA 13 2 12,o 14 (.build [.bool false,.slice none 0 0] []),o 15 (.call F0E [t 13,t 14] false),fA 16 2 1,lA 17 2 16,o 18 (.build [.bool false,.slice none 0 0] []),o 19 (.call F0E [t 17,t 18] true),o 20 (.build [.bool false,.slice none 0 0,.bool false,.slice none 0 0] [(0,2,t 15),(2,2,t 19)]),
 ⟨none,none,.store 4 (t 2) (t 20)⟩]
def T0q:SF:=⟨1,21,[.cell 2 true 4],
 (qS (gR L0z) (qS (qS (gR L0A) (.cond (t 9) (qS (gR E0M) .ret) .skip)) (qS (.draw L0B [0,1,0,7,0,16,0,127,255,511] []) .ret)))⟩
def L0C:SS:=[o 2 (.box a0c (t 0)),o 3 (.box a0c (t 1)),o 4 (.alloc a0d [.bool false,.slice none 0 0,.bool false,.slice none 0 0])]
def L0D:SS:=[lA 8 2 2,lA 9 2 3,o 10 (.call l0T [t 8,t 9] true),mV 7 10,o 11 (.ext (t 7) 0),o 12 (.ext (t 7) 1),o 5 (.alloc a0d [.bool false,.slice none 0 0,.bool false,.slice none 0 0]),
 ⟨none,none,.store 4 (t 5) (t 11)⟩,mV 6 12]
def L0E:SS:=[lA 13 4 5,
 ⟨none,none,.store 4 (t 4) (t 13)⟩]
def T0r:SF:=⟨2,14,[.cell 4 true 4],
 (qS (gR L0C) (qS (gR L0D) (qS (gR L0E) .ret)))⟩
def L0F:SS:=[o 4 (.box a0c (t 1)),o 6 (.alloc a0c [.bool false,.slice none 0 0])]
def L0G:SS:=[mV 9 2,lN 10 9,o 11 (.mv (i 0))]
def E0N:SS:=[o 12 (.bin 0 .lss (t 11) (t 10))]
def L0H:SS:=[iA 13 2 9 11,lA 14 2 13,o 8 (.alloc a0c [.bool false,.slice none 0 0]),
 ⟨none,none,.store 2 (t 8) (t 14)⟩]
def L0I:SS:=[mV 15 0,lA 16 2 4,lA 17 2 8,o 18 (.callv (t 15) [t 16,t 17] true),
 ⟨none,none,.store 2 (t 4) (t 18)⟩]
def L0J:SS:=[o 19 (.bin 0 .add (t 11) (i 1)),mV 11 19]
def L0K:SS:=[lA 20 2 4,
 ⟨none,none,.store 2 (t 6) (t 20)⟩]
def T0s:SF:=⟨3,21,[.cell 6 true 2],
 (qS (gR L0F) (qS (qS (gR L0G) (.block 0 (.loop (qS (gR E0N) (qS (.cond (t 12) .skip (.exit 0)) (qS (.block 1 (qS (gR L0H) (gR L0I))) (gR L0J))))))) (qS (gR L0K) .ret)))⟩
def L0L:SS:=[o 2 (.box a0c (t 0)),o 3 (.box a0c (t 1)),o 4 (.alloc a0c [.bool false,.slice none 0 0])]
def L0M:SS:=[lA 7 2 2,o 8 (.call f0k [t 7] false),lA 9 2 3,o 10 (.call f0k [t 9] true),mV 5 8,mV 6 10]
def L0N:SS:=[lA 12 2 2,o 13 (.call d0M [t 12] false),lA 14 2 3,o 15 (.call d0M [t 14] true),o 16 (.bin 1 .eql (t 13) (t 15)),mV 11 16]
def L0O:SS:=[lA 17 2 2,o 18 (.call d0M [t 17] true),mV 19 5,mV 20 6,o 21 (.call v0U [t 19,t 20] true),o 22 (.call f0F [t 18,t 21] true),
 ⟨none,none,.store 2 (t 4) (t 22)⟩]
def L0P:SS:=[mV 24 5,mV 25 6,o 26 (.call n0I [t 24,t 25] true),o 27 (.bin 0 .geq (t 26) (i 0)),mV 23 27]
def L0Q:SS:=[lA 28 2 2,o 29 (.call d0M [t 28] true),mV 30 5,mV 31 6,o 32 (.call u0h [t 30,t 31] true),o 33 (.call f0F [t 29,t 32] true),
 ⟨none,none,.store 2 (t 4) (t 33)⟩]
def L0R:SS:=[lA 34 2 3,o 35 (.call d0M [t 34] true),mV 36 6,mV 37 5,o 38 (.call u0h [t 36,t 37] true),o 39 (.call f0F [t 35,t 38] true),
 ⟨none,none,.store 2 (t 4) (t 39)⟩]
def T0t:SF:=⟨2,40,[.cell 4 true 2],
 (qS (gR L0L) (qS (.draw L0M [0,1,0,7,15,31] []) (qS (.block 0 (qS (.draw L0N [0,1,0,7,15,31] []) (.cond (t 11) (qS (gR L0O) .ret) (qS (gR L0P) (.cond (t 23) (qS (gR L0Q) .ret) .skip))))) (qS (gR L0R) .ret))))⟩
def L0S:SS:=[o 2 (.box a0c (t 0)),o 3 (.box a0c (t 1)),o 4 (.alloc a0c [.bool false,.slice none 0 0])]
def L0T:SS:=[lA 13 2 2,o 14 (.call f0k [t 13] false),lA 15 2 3,o 16 (.call f0k [t 15] true),mV 5 14,mV 6 16]
def L0U:SS:=[mV 17 5,lN 18 17,mV 19 6,lN 20 19,o 21 (.bin 0 .add (t 18) (t 20)),o 22 (.mk a0m 4 [.int .u32 0] (t 21) (t 21)),mV 7 22]
def L0V:SS:=[mV 23 5,lN 24 23,o 25 (.mv (i 0))]
def E0V:SS:=[o 26 (.bin 0 .lss (t 25) (t 24))]
def L0W:SS:=[mV 27 25,iA 28 1 23 25,lD 29 28,mV 8 27,mV 9 29]
def L0X:SS:=[o 10 (.mv (.const (.int .u64 0)))]
def L0Y:SS:=[mV 30 6,lN 31 30,o 32 (.mv (i 0))]
def E0W:SS:=[o 33 (.bin 0 .lss (t 32) (t 31))]
def L0Z:SS:=[mV 34 32,iA 35 1 30 32,lD 36 35,mV 11 34,mV 12 36]
def E0O:SS:=[mV 37 10,mV 38 9,o 39 (.conv .u64 (t 38)),mV 40 12,o 41 (.conv .u64 (t 40)),o 42 (.bin 0 .mul (t 39) (t 41)),mV 43 7,mV 44 8,mV 45 11,o 46 (.bin 0 .add (t 44) (t 45)),iA 47 1 43 46,lD 48 47,o 49 (.conv .u64 (t 48)),o 50 (.bin 0 .add (t 42) (t 49)),o 51 (.bin 0 .add (t 37) (t 50)),mV 10 51]
def E0P:SS:=[mV 52 7,mV 53 8,mV 54 11,o 55 (.bin 0 .add (t 53) (t 54)),mV 56 10,o 57 (.call f0l [t 56] true),iA 58 1 52 55,
 ⟨none,none,.store 1 (t 58) (t 57)⟩]
def E0Q:SS:=[mV 59 10,o 60 (.bin 0 .shr (t 59) (.const (.int .u64 32))),mV 10 60]
def E0R:SS:=[o 61 (.bin 0 .add (t 32) (i 1)),mV 32 61]
def E0S:SS:=[mV 62 7,mV 63 8,mV 64 6,lN 65 64,o 66 (.bin 0 .add (t 63) (t 65)),mV 67 10,o 68 (.call f0l [t 67] true),iA 69 1 62 66,
 ⟨none,none,.store 1 (t 69) (t 68)⟩]
def E0T:SS:=[o 70 (.bin 0 .add (t 25) (i 1)),mV 25 70]
def E0U:SS:=[lA 71 2 2,o 72 (.call d0M [t 71] false),lA 73 2 3,o 74 (.call d0M [t 73] true),o 75 (.bin 1 .neq (t 72) (t 74)),mV 76 7,o 77 (.call f0F [t 75,t 76] true),
 ⟨none,none,.store 2 (t 4) (t 77)⟩]
def T0u:SF:=⟨2,78,[.cell 4 true 2],
 (qS (gR L0S) (qS (.draw L0T [0,1,0,7,15,31] []) (qS (gR L0U) (qS (qS (gR L0V) (.block 0 (.loop (qS (gR E0V) (qS (.cond (t 26) .skip (.exit 0)) (qS (.block 1 (qS (gR L0W) (qS (gR L0X) (qS (qS (gR L0Y) (.block 2 (.loop (qS (gR E0W) (qS (.cond (t 33) .skip (.exit 2)) (qS (.block 3 (qS (gR L0Z) (qS (gR E0O) (qS (gR E0P) (gR E0Q))))) (gR E0R))))))) (gR E0S))))) (gR E0T))))))) (qS (.draw E0U [0,1,0,7,15,0,63,127] []) .ret)))))⟩
def M0a:SS:=[o 2 (.alloc a0d [.bool false,.slice none 0 0,.bool false,.slice none 0 0])]
def M0b:SS:=[mV 3 0,o 4 (.call i0f [t 3] true),o 5 (.call p0h [] true),o 6 (.build [.bool false,.slice none 0 0,.bool false,.slice none 0 0] [(0,2,t 4),(2,2,t 5)]),
 ⟨none,none,.store 4 (t 2) (t 6)⟩]
def T0v:SF:=⟨1,7,[.cell 2 true 4],
 (qS (gR M0a) (qS (gR M0b) .ret))⟩
def M0c:SS:=[o 2 (.box a0d (t 0)),o 3 (.box a0d (t 1)),o 4 (.alloc a0d [.bool false,.slice none 0 0,.bool false,.slice none 0 0])]
def M0d:SS:=[lA 5 4 2,o 6 (.call u0y [t 5] false),lA 7 4 3,o 8 (.call u0y [t 7] true),
 ⟨none,none,.store 4 (t 2) (t 6)⟩,
 ⟨none,none,.store 4 (t 3) (t 8)⟩]
def M0e:SS:=[fA 9 0 2,lA 10 2 9,fA 11 0 3,lA 12 2 11,o 13 (.call l0X [t 10,t 12] false),fA 14 2 2,lA 15 2 14,fA 16 2 3,lA 17 2 16,o 18 (.call l0X [t 15,t 17] true),o 19 (.call P0z [t 13,t 18] true),
 ⟨none,none,.store 4 (t 4) (t 19)⟩]
def T0w:SF:=⟨2,20,[.cell 4 true 4],
 (qS (gR M0c) (qS (.draw M0d [0,1,0,7,15,31] []) (qS (.draw M0e [0,1,0,4,15,0,32,0,128,511,1023,2047] []) .ret)))⟩
def M0f:SS:=[o 1 (.box b0m (t 0)),o 2 (.alloc b0m [.int .i64 0,.bool false,.slice none 0 0,.bool false,.slice none 0 0])]
def M0g:SS:=[lA 4 5 1,o 5 (.call P0y [t 4] true),o 6 (.un .not (t 5)),mV 3 6]
def M0h:SS:=[o 7 (.build [.bool false,.slice none 0 0,.bool false,.slice none 0 0] []),o 8 (.call N0n [t 7] true),
 ⟨none,none,.store 5 (t 2) (t 8)⟩]
def E0X:SS:=[fA 10 0 1,lD 11 10,o 12 (.bin 0 .eql (t 11) (i 0)),mV 9 12]
def M0i:SS:=[fA 13 1 1,lA 14 4 13,o 15 (.call N0n [t 14] true),
 ⟨none,none,.store 5 (t 2) (t 15)⟩]
def M0j:SS:=[fA 16 0 1,lD 17 16,o 18 (.build [.int .i64 0,.bool false,.slice none 0 0,.bool false,.slice none 0 0] [(0,1,t 17)]),
 ⟨none,none,.store 5 (t 2) (t 18)⟩]
def T0x:SF:=⟨1,19,[.cell 2 true 5],
 (qS (gR M0f) (qS (.block 0 (qS (gR M0g) (.cond (t 3) (qS (gR M0h) .ret) (qS (gR E0X) (.cond (t 9) (qS (gR M0i) .ret) .skip))))) (qS (gR M0j) .ret)))⟩
def M0k:SS:=[o 2 (.box a0d (t 0)),o 3 (.box a0d (t 1)),o 4 (.mv (i 0))]
def M0l:SS:=[lA 5 4 2,o 6 (.call u0y [t 5] false),lA 7 4 3,o 8 (.call u0y [t 7] true),
 ⟨none,none,.store 4 (t 2) (t 6)⟩,
 ⟨none,none,.store 4 (t 3) (t 8)⟩]
def M0m:SS:=[fA 9 0 2,lA 10 2 9,fA 11 2 3,lA 12 2 11,o 13 (.call l0X [t 10,t 12] false),fA 14 0 3,lA 15 2 14,fA 16 2 2,lA 17 2 16,o 18 (.call l0X [t 15,t 17] true),o 19 (.call j0I [t 13,t 18] true),mV 4 19]
def T0y:SF:=⟨2,20,[.tmp 4],
 (qS (gR M0k) (qS (.draw M0l [0,1,0,7,15,31] []) (qS (.draw M0m [0,1,0,4,15,0,32,0,128,511,1023,2047] []) .ret)))⟩
def M0n:SS:=[o 1 (.box a0d (t 0)),o 2 (.mv (.const (.bool false)))]
def M0o:SS:=[lA 3 4 1,o 4 (.call u0g [t 3] true)]
def M0p:SS:=[o 2 (.mv (.const (.bool true)))]
def M0q:SS:=[fA 5 0 1,lA 6 2 5,o 7 (.call n0J [t 6] true),mV 8 7,og 9 8 true (.fa 2 (t 1)),og 10 8 true (.load true 2 (t 9)),og 11 8 true (.call n0J [t 10] true),o 12 (.pick (t 8) (t 11) (.const (.bool false))),mV 13 12,og 14 13 true (.fa 2 (t 1)),og 15 13 true (.fa 0 (t 14)),og 16 13 true (.load false 1 (t 15)),og 17 13 true (.un .not (t 16)),o 18 (.pick (t 13) (t 17) (.const (.bool false))),mV 19 18,og 20 19 true (.fa 2 (t 1)),og 21 19 true (.load true 2 (t 20)),og 22 19 true (.call u0i [t 21] true),og 23 19 true (.un .not (t 22)),o 24 (.pick (t 19) (t 23) (.const (.bool false))),mV 25 24,og 26 25 true (.fa 0 (t 1)),og 27 25 true (.load true 2 (t 26)),og 28 25 true (.fa 2 (t 1)),og 29 25 true (.load true 2 (t 28)),og 30 25 true (.call n0K [t 27,t 29] true),og 31 25 true (.call p0h [] true),og 32 25 true (.call j0I [t 30,t 31] true),og 33 25 true (.bin 0 .eql (t 32) (i 0)),o 34 (.pick (t 25) (t 33) (.const (.bool false))),mV 2 34]
def T0z:SF:=⟨1,35,[.tmp 2],
 (qS (gR M0n) (qS (qS (gR M0o) (.cond (t 4) (qS (gR M0p) .ret) .skip)) (qS (gR M0q) .ret)))⟩
def M0r:SS:=[o 4 (.mv (i 0))]
def M0s:SS:=[mV 6 0,lN 7 6,o 8 (.mv (i 0))]
def R0N:SS:=[o 9 (.bin 0 .lss (t 8) (t 7))]
def M0t:SS:=[mV 10 8,mV 5 10]
def M0u:SS:=[mV 11 1,mV 12 0,mV 13 5,iA 14 5 12 13,lA 15 5 14,o 16 (.callv (t 11) [t 15] true)]
def M0v:SS:=[mV 17 5,mV 4 17]
def R0O:SS:=[o 18 (.bin 0 .add (t 8) (i 1)),mV 8 18]
def M0w:SS:=[o 4 (.mv (.const (.int .i64 (-1))))]
def T0A:SF:=⟨2,19,[.tmp 4],
 (qS (gR M0r) (qS (qS (gR M0s) (.block 0 (.loop (qS (gR R0N) (qS (.cond (t 9) .skip (.exit 0)) (qS (.block 1 (qS (gR M0t) (qS (gR M0u) (.cond (t 16) (qS (gR M0v) .ret) .skip)))) (gR R0O))))))) (qS (gR M0w) .ret)))⟩
def M0x:SS:=[o 1 (.box a0d (t 0)),o 2 (.mv (.const (.bool false)))]
def o0w:SS:=[fA 3 0 1,fA 4 0 3,lD 5 4,o 6 (.un .not (t 5)),mV 7 6,og 8 7 true (.fa 0 (t 1)),og 9 7 true (.fa 1 (t 8)),og 10 7 true (.load false 1 (t 9)),og 11 7 true (.len (t 10)),og 12 7 true (.bin 0 .eql (t 11) (i 0)),o 13 (.pick (t 7) (t 12) (.const (.bool false))),mV 14 13,og 15 14 true (.fa 2 (t 1)),og 16 14 true (.fa 0 (t 15)),og 17 14 true (.load false 1 (t 16)),og 18 14 true (.un .not (t 17)),o 19 (.pick (t 14) (t 18) (.const (.bool false))),mV 20 19,og 21 20 true (.fa 2 (t 1)),og 22 20 true (.fa 1 (t 21)),og 23 20 true (.load false 1 (t 22)),og 24 20 true (.len (t 23)),og 25 20 true (.bin 0 .eql (t 24) (i 0)),o 26 (.pick (t 20) (t 25) (.const (.bool false))),mV 2 26]
def T0B:SF:=⟨1,27,[.tmp 2],
 (qS (gR M0x) (qS (gR o0w) .ret))⟩
def x0v:SS:=[o 2 (.mv (.const (.slice none 0 0)))]
def x0w:SS:=[mV 4 0,lN 5 4,mV 3 5]
def p0C:SS:=[mV 6 3,o 7 (.bin 0 .gtr (t 6) (i 0)),mV 8 7,og 9 8 true (.mv (t 0)),og 10 8 true (.mv (t 3)),og 11 8 true (.bin 0 .sub (t 10) (i 1)),og 12 8 true (.ia 1 (t 9) (t 11)),og 13 8 true (.load false 1 (t 12)),og 14 8 true (.bin 0 .eql (t 13) (.const (.int .u32 0))),o 15 (.pick (t 8) (t 14) (.const (.bool false)))]
def x0x:SS:=[mV 16 3,o 17 (.bin 0 .sub (t 16) (i 1)),mV 3 17]
def x0y:SS:=[mV 18 0,mV 19 3,o 20 (.sl a0m 1 (t 18) none (some (t 19)) none),mV 2 20]
def H0p:SF:=⟨1,21,[.tmp 2],
 (qS (gR x0v) (qS (gR x0w) (qS (.block 0 (.loop (qS (qS (gR p0C) (.cond (t 15) .skip (.exit 0))) (.block 1 (gR x0x))))) (qS (gR x0y) .ret))))⟩
def x0z:SS:=[o 4 (.mv (.const (.bool false)))]
def x0A:SS:=[mV 5 0,mV 6 1,o 7 (.call v0V [t 5,t 6] true),o 8 (.bin 0 .geq (t 7) (i 0)),mV 4 8]
def H0q:SF:=⟨2,9,[.tmp 4],
 (qS (gR x0z) (qS (gR x0A) .ret))⟩
def x0B:SS:=[o 3 (.mv (.const (.bool false)))]
def x0C:SS:=[mV 4 0,lN 5 4,fA 6 0 1,lD 7 6,o 8 (.bin 0 .neq (t 5) (t 7)),mV 3 8]
def H0r:SF:=⟨2,9,[.tmp 3],
 (qS (gR x0B) (qS (gR x0C) .ret))⟩
def x0D:SS:=[o 1 (.box b0z (t 0)),o 2 (.alloc a0q [.int .i64 0,.slice none 0 0,.slice none 0 0,.slice none 0 0,.bool false,.slice none 0 0,.bool false,.slice none 0 0])]
def x0E:SS:=[fA 8 0 1,lD 9 8,o 10 (.build [.int .i64 0,.slice none 0 0,.slice none 0 0,.slice none 0 0,.bool false,.slice none 0 0,.bool false,.slice none 0 0] [(0,1,t 9)]),o 3 (.alloc a0q [.int .i64 0,.slice none 0 0,.slice none 0 0,.slice none 0 0,.bool false,.slice none 0 0,.bool false,.slice none 0 0]),
 ⟨none,none,.store 8 (t 3) (t 10)⟩]
def x0F:SS:=[fA 11 1 1,lD 12 11,lN 13 12,o 14 (.mv (i 0))]
def N0G:SS:=[o 15 (.bin 0 .lss (t 14) (t 13))]
def x0G:SS:=[mV 16 14,iA 17 1 12 14,lD 18 17,mV 4 16,mV 5 18]
def x0H:SS:=[mV 20 5,o 21 (.call u0k [t 20] false),fA 22 2 1,lD 23 22,mV 24 4,iA 25 4 23 24,lA 26 4 25,o 27 (.build [.bool false,.slice none 0 0,.bool false,.slice none 0 0] []),o 28 (.call n0R [t 26,t 27] false),o 29 (.lit a0d [.bool false,.slice none 0 0,.bool false,.slice none 0 0] 1 [(0,4,t 28)]),o 30 (.app a0d 4 64 (t 21) (t 29)),o 31 (.call u0j [t 30] false),mV 19 31,o 32 (.ext (t 19) 0),o 33 (.ext (t 19) 1),o 7 (.alloc a0d [.bool false,.slice none 0 0,.bool false,.slice none 0 0]),mV 6 32,
 ⟨none,none,.store 4 (t 7) (t 33)⟩]
def x0I:SS:=[fA 34 1 3,lD 35 34,mV 36 6,o 37 (.lit a0Q [.slice none 0 0] 1 [(0,1,t 36)]),o 38 (.app a0Q 1 24 (t 35) (t 37)),fA 39 2 3,lD 40 39,lA 41 4 7,o 42 (.lit a0d [.bool false,.slice none 0 0,.bool false,.slice none 0 0] 1 [(0,4,t 41)]),o 43 (.app a0d 4 64 (t 40) (t 42)),fA 44 1 3,
 ⟨none,none,.store 1 (t 44) (t 38)⟩,fA 45 2 3,
 ⟨none,none,.store 1 (t 45) (t 43)⟩]
def N0H:SS:=[o 46 (.bin 0 .add (t 14) (i 1)),mV 14 46]
def x0J:SS:=[fA 48 3 1,lD 49 48,o 50 (.call u0k [t 49] true),o 51 (.call u0j [t 50] true),mV 47 51,o 52 (.ext (t 47) 0),o 53 (.ext (t 47) 1),fA 54 3 3,
 ⟨none,none,.store 1 (t 54) (t 52)⟩,fA 55 4 3,
 ⟨none,none,.store 4 (t 55) (t 53)⟩]
def x0K:SS:=[lA 56 8 3,
 ⟨none,none,.store 8 (t 2) (t 56)⟩]
def H0s:SF:=⟨1,57,[.cell 2 true 8],
 (qS (gR x0D) (qS (gR x0E) (qS (qS (gR x0F) (.block 0 (.loop (qS (gR N0G) (qS (.cond (t 15) .skip (.exit 0)) (qS (.block 1 (qS (gR x0G) (qS (.draw x0H [0,1,0,4,0,28,60,0,255,511,1023,2047,4095,8191,8191,0,49151,131071] [(10,15)]) (.draw x0I [0,1,0,4,15,0,32,0,128,511,127,2047,4095,8191] [(4,6),(4,7),(4,8)])))) (gR N0H))))))) (qS (gR x0J) (qS (gR x0K) .ret)))))⟩
def x0L:SS:=[o 3 (.box a0g (t 0)),o 4 (.box b0z (t 1)),o 5 (.box a0q (t 2)),o 6 (.alloc b0d [.int .i64 0,.bool false,.slice none 0 0,.bool false,.slice none 0 0,.slice none 0 0,.slice none 0 0,.slice none 0 0]),o 7 (.mv (i 0))]
def x0M:SS:=[lA 16 0 3,lA 17 8 5,o 18 (.call v0W [t 16,t 17] true),o 8 (.alloc a0o [.pointer none]),
 ⟨none,none,.store 1 (t 8) (t 18)⟩]
def x0N:SS:=[lD 19 8,cK 20 19,fA 21 1 20,lD 22 21,lD 23 8,cK 24 23,fA 25 1 24,lD 26 25,o 27 (.bin 0 .add (t 26) (i 1)),mV 9 22,mV 10 27]
def x0O:SS:=[lD 28 8,mV 29 9,o 30 (.call u0l [t 28,t 29] true)]
def x0P:SS:=[lD 31 8,cK 32 31,o 33 (.fa0 a0a (t 32)),lA 34 0 33,o 35 (.iface a0g (t 34)),lD 36 8,cK 37 36,fA 38 3 37,lD 39 38,mV 40 9,iA 41 1 39 40,lD 42 41,lD 43 8,cK 44 43,fA 45 2 44,lD 46 45,iA 47 2 42 46,lA 48 2 47,o 49 (.inv (t 35) [(a0g,g0R),(a0h,g0T)] [t 48] true),o 50 (.bin 0 .lss (t 49) (i 0))]
def x0Q:SS:=[o 51 (.call l0Y [i 0] false),lD 52 8,mV 53 9,lA 54 8 5,o 55 (.call l0Y [i 1] false),o 56 (.call u0m [t 52,t 53,t 54,t 55] false),o 57 (.build [.int .i64 0,.bool false,.slice none 0 0,.bool false,.slice none 0 0,.slice none 0 0,.slice none 0 0,.slice none 0 0] [(0,1,i 2),(1,4,t 51),(6,1,t 56)]),lD 58 8,cK 59 58,fA 60 7 59,lD 61 60,
 ⟨none,none,.store 8 (t 6) (t 57)⟩,mV 7 61]
def x0R:SS:=[lD 62 8,o 63 (.call v0X [t 62] true)]
def x0S:SS:=[lD 64 8,mV 65 10,o 66 (.call u0l [t 64,t 65] true),mV 11 66]
def x0T:SS:=[lD 67 8,o 68 (.mkfn (.func v0Y) [] [t 8]),o 69 (.call u0n [t 67,t 68] true),mV 12 69]
def x0U:SS:=[mV 70 11,o 71 (.bin 0 .geq (t 70) (i 0))]
def G0y:SS:=[o 72 (.call l0Y [i 0] false),mV 73 12,lD 74 8,mV 75 11,o 76 (.call N0j [t 74,t 75] false),o 77 (.build [.int .i64 0,.bool false,.slice none 0 0,.bool false,.slice none 0 0,.slice none 0 0,.slice none 0 0,.slice none 0 0] [(0,1,i 3),(1,4,t 72),(5,1,t 73),(7,1,t 76)]),lD 78 8,cK 79 78,fA 80 7 79,lD 81 80,
 ⟨none,none,.store 8 (t 6) (t 77)⟩,mV 7 81]
def r0K:SS:=[o 82 (.call l0Y [i 0] true),o 13 (.alloc a0d [.bool false,.slice none 0 0,.bool false,.slice none 0 0]),
 ⟨none,none,.store 4 (t 13) (t 82)⟩]
def r0L:SS:=[fA 83 3 4,lD 84 83,lN 85 84,o 86 (.mv (i 0))]
def G0z:SS:=[o 87 (.bin 0 .lss (t 86) (t 85))]
def r0M:SS:=[mV 88 86,iA 89 4 84 86,lA 90 4 89,o 15 (.alloc a0d [.bool false,.slice none 0 0,.bool false,.slice none 0 0]),mV 14 88,
 ⟨none,none,.store 4 (t 15) (t 90)⟩]
def r0N:SS:=[lA 91 4 13,lA 92 4 15,mV 93 12,mV 94 14,iA 95 4 93 94,lA 96 4 95,o 97 (.call G0a [t 92,t 96] false),o 98 (.call n0R [t 91,t 97] true),
 ⟨none,none,.store 4 (t 13) (t 98)⟩]
def G0A:SS:=[o 99 (.bin 0 .add (t 86) (i 1)),mV 86 99]
def r0O:SS:=[lA 100 4 13,mV 101 12,lD 102 8,mV 103 10,lA 104 8 5,fA 105 4 5,lA 106 4 105,o 107 (.call u0m [t 102,t 103,t 104,t 106] false),o 108 (.build [.int .i64 0,.bool false,.slice none 0 0,.bool false,.slice none 0 0,.slice none 0 0,.slice none 0 0,.slice none 0 0] [(0,1,i 1),(1,4,t 100),(5,1,t 101),(6,1,t 107)]),lD 109 8,cK 110 109,fA 111 7 110,lD 112 111,
 ⟨none,none,.store 8 (t 6) (t 108)⟩,mV 7 112]
def H0t:SF:=⟨3,113,[.cell 6 true 8,.tmp 7],
 (qS (gR x0L) (qS (gR x0M) (qS (.draw x0N [0,1,3,7,0,16,48,112,240,15,1023] []) (qS (gR x0O) (qS (qS (.draw x0P [0,1,3,7,15,0,32,96,224,0,992,2016,0,4096,12288,28672,65504,131040,262143,524287] []) (.cond (t 50) (qS (.draw x0Q [0,0,0,0,1,31,63,0,128,384,896,127,4095] [(7,11),(10,11)]) .ret) .skip)) (qS (gR x0R) (qS (gR x0S) (qS (gR x0T) (qS (qS (gR x0U) (.cond (t 71) (qS (.draw G0y [0,0,0,0,13,31,0,64,192,448,63,2047] [(6,10),(9,10)]) .ret) .skip)) (qS (gR r0K) (qS (qS (gR r0L) (.block 0 (.loop (qS (gR G0z) (qS (.cond (t 87) .skip (.exit 0)) (qS (.block 1 (qS (gR r0M) (.draw r0N [0,0,0,0,12,28,62,127,255] []))) (gR G0A))))))) (qS (.draw r0O [0,0,0,0,0,0,32,124,255,0,512,1536,3584,511,16383] [(9,13),(12,13)]) .ret))))))))))))⟩
def x0V:SS:=[o 1 (.box a0d (t 0)),o 2 (.mv (.const (.bool false)))]
def k0h:SS:=[fA 3 0 1,fA 4 0 3,lD 5 4,o 6 (.un .not (t 5)),mV 7 6,og 8 7 true (.fa 0 (t 1)),og 9 7 true (.fa 1 (t 8)),og 10 7 true (.load false 1 (t 9)),og 11 7 true (.len (t 10)),og 12 7 true (.bin 0 .eql (t 11) (i 0)),o 13 (.pick (t 7) (t 12) (.const (.bool false))),mV 14 13,og 15 14 true (.fa 2 (t 1)),og 16 14 true (.fa 0 (t 15)),og 17 14 true (.load false 1 (t 16)),og 18 14 true (.un .not (t 17)),o 19 (.pick (t 14) (t 18) (.const (.bool false))),mV 20 19,og 21 20 true (.fa 2 (t 1)),og 22 20 true (.fa 1 (t 21)),og 23 20 true (.load false 1 (t 22)),og 24 20 true (.len (t 23)),og 25 20 true (.bin 0 .eql (t 24) (i 0)),o 26 (.pick (t 20) (t 25) (.const (.bool false))),mV 2 26]
def H0u:SF:=⟨1,27,[.tmp 2],
 (qS (gR x0V) (qS (gR k0h) .ret))⟩
def x0W:SS:=[o 0 (.alloc a0c [.bool false,.slice none 0 0])]
def x0X:SS:=[o 1 (.call i0f [i 1] true),
 ⟨none,none,.store 2 (t 0) (t 1)⟩]
def H0v:SF:=⟨0,2,[.cell 0 true 2],
 (qS (gR x0W) (qS (gR x0X) .ret))⟩
def x0Y:SS:=[o 2 (.box a0c (t 0)),o 3 (.box a0c (t 1)),o 4 (.alloc a0d [.bool false,.slice none 0 0,.bool false,.slice none 0 0]),o 5 (.mv (i 0))]
def x0Z:SS:=[lA 7 2 3,o 8 (.call u0i [t 7] true)]
def N0I:SS:=[o 9 (.build [.bool false,.slice none 0 0,.bool false,.slice none 0 0] []),
 ⟨none,none,.store 4 (t 4) (t 9)⟩,o 5 (.mv (i 11))]
def y0a:SS:=[lA 10 2 2,lA 11 2 3,o 12 (.call n0K [t 10,t 11] true),o 6 (.alloc a0c [.bool false,.slice none 0 0]),
 ⟨none,none,.store 2 (t 6) (t 12)⟩]
def y0b:SS:=[lA 13 2 3,o 14 (.build [.bool false,.slice none 0 0] []),o 15 (.call j0I [t 13,t 14] true),o 16 (.bin 0 .lss (t 15) (i 0))]
def y0c:SS:=[lA 17 2 6,o 18 (.call n0L [t 17] true),
 ⟨none,none,.store 2 (t 6) (t 18)⟩]
def p0D:SS:=[lA 20 2 2,lA 21 2 6,o 22 (.call j0J [t 20,t 21] true),mV 19 22,o 23 (.ext (t 19) 0),o 24 (.ext (t 19) 1),o 25 (.ext (t 19) 2),
 ⟨none,none,.store 2 (t 2) (t 23)⟩]
def p0E:SS:=[lA 27 2 3,lA 28 2 6,o 29 (.call j0J [t 27,t 28] true),mV 26 29,o 30 (.ext (t 26) 0),o 31 (.ext (t 26) 1),o 32 (.ext (t 26) 2),
 ⟨none,none,.store 2 (t 3) (t 30)⟩]
def p0F:SS:=[lA 33 2 2,lA 34 2 3,o 35 (.build [.bool false,.slice none 0 0,.bool false,.slice none 0 0] [(0,2,t 33),(2,2,t 34)]),
 ⟨none,none,.store 4 (t 4) (t 35)⟩,o 5 (.mv (i 0))]
def H0w:SF:=⟨2,36,[.cell 4 true 4,.tmp 5],
 (qS (gR x0Y) (qS (qS (gR x0Z) (.cond (t 8) (qS (gR N0I) .ret) .skip)) (qS (gR y0a) (qS (qS (gR y0b) (.cond (t 16) (gR y0c) .skip)) (qS (gR p0D) (qS (gR p0E) (qS (gR p0F) .ret)))))))⟩
def y0d:SS:=[o 1 (.box a0c (t 0)),o 2 (.mv (.const (.slice none 0 0)))]
def y0e:SS:=[lA 3 2 1,o 4 (.call n0J [t 3] true),o 5 (.un .not (t 4))]
def y0f:SS:=[o 2 (.mv (.const (.slice none 0 0)))]
def y0g:SS:=[fA 6 1 1,lD 7 6,mV 2 7]
def H0x:SF:=⟨1,8,[.tmp 2],
 (qS (gR y0d) (qS (qS (gR y0e) (.cond (t 5) (qS (gR y0f) .ret) .skip)) (qS (gR y0g) .ret)))⟩
def y0h:SS:=[o 1 (.box a0c (t 0)),o 2 (.mv (.const (.bool false)))]
def y0i:SS:=[lA 3 2 1,o 4 (.call n0J [t 3] true),mV 5 4,og 6 5 true (.fa 0 (t 1)),og 7 5 true (.load false 1 (t 6)),o 8 (.pick (t 5) (t 7) (.const (.bool false))),mV 2 8]
def H0y:SF:=⟨1,9,[.tmp 2],
 (qS (gR y0h) (qS (gR y0i) .ret))⟩
def y0j:SS:=[o 4 (.alloc a0c [.bool false,.slice none 0 0])]
def y0k:SS:=[mV 6 1,lN 7 6,mV 5 7]
def p0G:SS:=[mV 8 5,o 9 (.bin 0 .gtr (t 8) (i 0)),mV 10 9,og 11 10 true (.mv (t 1)),og 12 10 true (.mv (t 5)),og 13 10 true (.bin 0 .sub (t 12) (i 1)),og 14 10 true (.ia 1 (t 11) (t 13)),og 15 10 true (.load false 1 (t 14)),og 16 10 true (.bin 0 .eql (t 15) (.const (.int .u32 0))),o 17 (.pick (t 10) (t 16) (.const (.bool false)))]
def y0l:SS:=[mV 18 5,o 19 (.bin 0 .sub (t 18) (i 1)),mV 5 19]
def y0m:SS:=[mV 20 5,o 21 (.bin 0 .eql (t 20) (i 0))]
def y0n:SS:=[o 22 (.build [.bool false,.slice none 0 0] []),
 ⟨none,none,.store 2 (t 4) (t 22)⟩]
def y0o:SS:=[mV 23 0,mV 24 1,mV 25 5,o 26 (.sl a0m 1 (t 24) none (some (t 25)) none),o 27 (.call v0Z [t 26] true),o 28 (.build [.bool false,.slice none 0 0] [(0,1,t 23),(1,1,t 27)]),
 ⟨none,none,.store 2 (t 4) (t 28)⟩]
def H0z:SF:=⟨2,29,[.cell 4 true 2],
 (qS (gR y0j) (qS (gR y0k) (qS (.block 0 (.loop (qS (qS (gR p0G) (.cond (t 17) .skip (.exit 0))) (.block 1 (gR y0l))))) (qS (qS (gR y0m) (.cond (t 21) (qS (gR y0n) .ret) .skip)) (qS (gR y0o) .ret)))))⟩
def y0p:SS:=[o 4 (.mv (.const (.slice none 0 0)))]
def y0q:SS:=[mV 9 0,lN 10 9,mV 11 1,lN 12 11,o 13 (.bin 0 .lss (t 10) (t 12))]
def y0r:SS:=[mV 14 1,mV 15 0,mV 0 14,mV 1 15]
def y0s:SS:=[mV 16 0,lN 17 16,o 18 (.bin 0 .add (t 17) (i 1)),o 19 (.mk a0m 4 [.int .u32 0] (i 0) (t 18)),mV 5 19]
def y0t:SS:=[o 6 (.mv (.const (.int .u64 0)))]
def y0u:SS:=[mV 20 0,lN 21 20,o 22 (.mv (i 0))]
def m0F:SS:=[o 23 (.bin 0 .lss (t 22) (t 21))]
def p0H:SS:=[mV 24 22,iA 25 1 20 22,lD 26 25,mV 7 24,mV 8 26]
def p0I:SS:=[mV 27 6,mV 28 8,o 29 (.conv .u64 (t 28)),o 30 (.bin 0 .add (t 27) (t 29)),mV 6 30]
def p0J:SS:=[mV 31 7,mV 32 1,lN 33 32,o 34 (.bin 0 .lss (t 31) (t 33))]
def m0B:SS:=[mV 35 6,mV 36 1,mV 37 7,iA 38 1 36 37,lD 39 38,o 40 (.conv .u64 (t 39)),o 41 (.bin 0 .add (t 35) (t 40)),mV 6 41]
def m0C:SS:=[mV 42 5,mV 43 6,o 44 (.call f0l [t 43] true),o 45 (.lit a0m [.int .u32 0] 1 [(0,1,t 44)]),o 46 (.app a0m 1 4 (t 42) (t 45)),mV 5 46]
def m0D:SS:=[mV 47 6,o 48 (.bin 0 .shr (t 47) (.const (.int .u64 32))),mV 6 48]
def m0E:SS:=[o 49 (.bin 0 .add (t 22) (i 1)),mV 22 49]
def r0P:SS:=[mV 50 5,mV 51 6,o 52 (.call f0l [t 51] true),o 53 (.lit a0m [.int .u32 0] 1 [(0,1,t 52)]),o 54 (.app a0m 1 4 (t 50) (t 53)),mV 4 54]
def H0A:SF:=⟨2,55,[.tmp 4],
 (qS (gR y0p) (qS (qS (gR y0q) (.cond (t 13) (gR y0r) .skip)) (qS (gR y0s) (qS (gR y0t) (qS (qS (gR y0u) (.block 0 (.loop (qS (gR m0F) (qS (.cond (t 23) .skip (.exit 0)) (qS (.block 1 (qS (gR p0H) (qS (gR p0I) (qS (qS (gR p0J) (.cond (t 34) (gR m0B) .skip)) (qS (gR m0C) (gR m0D)))))) (gR m0E))))))) (qS (gR r0P) .ret))))))⟩
def y0v:SS:=[o 4 (.mv (i 0))]
def y0w:SS:=[mV 6 0,lN 7 6,mV 8 1,lN 9 8,o 10 (.bin 0 .neq (t 7) (t 9))]
def y0x:SS:=[mV 11 0,lN 12 11,mV 13 1,lN 14 13,o 15 (.call w0a [t 12,t 14] true),mV 4 15]
def y0y:SS:=[mV 16 0,lN 17 16,o 18 (.bin 0 .sub (t 17) (i 1)),mV 5 18]
def p0K:SS:=[mV 19 5,o 20 (.bin 0 .geq (t 19) (i 0))]
def y0z:SS:=[mV 23 0,mV 24 5,iA 25 1 23 24,lD 26 25,mV 27 1,mV 28 5,iA 29 1 27 28,lD 30 29,o 31 (.bin 0 .neq (t 26) (t 30))]
def y0A:SS:=[mV 32 0,mV 33 5,iA 34 1 32 33,lD 35 34,mV 36 1,mV 37 5,iA 38 1 36 37,lD 39 38,o 40 (.call w0b [t 35,t 39] true),mV 4 40]
def y0B:SS:=[mV 21 5,o 22 (.bin 0 .sub (t 21) (i 1)),mV 5 22]
def y0C:SS:=[o 4 (.mv (i 0))]
def H0B:SF:=⟨2,41,[.tmp 4],
 (qS (gR y0v) (qS (qS (gR y0w) (.cond (t 10) (qS (gR y0x) .ret) .skip)) (qS (qS (gR y0y) (.block 0 (.loop (qS (qS (gR p0K) (.cond (t 20) .skip (.exit 0))) (qS (.block 1 (qS (.draw y0z [0,0,3,7,0,0,48,112,255] []) (.cond (t 31) (qS (.draw y0A [0,0,3,7,0,0,48,112,255,511] []) .ret) .skip))) (gR y0B)))))) (qS (gR y0C) .ret))))⟩
def y0D:SS:=[o 4 (.mv (.const (.slice none 0 0)))]
def y0E:SS:=[mV 11 0,lN 12 11,o 13 (.mk a0m 4 [.int .u32 0] (i 0) (t 12)),mV 5 13]
def y0F:SS:=[o 6 (.mv (.const (.int .u64 0)))]
def y0G:SS:=[mV 14 0,lN 15 14,o 16 (.mv (i 0))]
def m0J:SS:=[o 17 (.bin 0 .lss (t 16) (t 15))]
def p0L:SS:=[mV 18 16,iA 19 1 14 16,lD 20 19,mV 7 18,mV 8 20]
def p0M:SS:=[mV 21 6,mV 9 21]
def p0N:SS:=[mV 22 7,mV 23 1,lN 24 23,o 25 (.bin 0 .lss (t 22) (t 24))]
def p0O:SS:=[mV 26 9,mV 27 1,mV 28 7,iA 29 1 27 28,lD 30 29,o 31 (.conv .u64 (t 30)),o 32 (.bin 0 .add (t 26) (t 31)),mV 9 32]
def p0P:SS:=[mV 33 8,o 34 (.conv .u64 (t 33)),mV 35 9,o 36 (.bin 0 .sub (t 34) (t 35)),mV 10 36]
def m0G:SS:=[mV 37 5,mV 38 10,o 39 (.call f0l [t 38] true),o 40 (.lit a0m [.int .u32 0] 1 [(0,1,t 39)]),o 41 (.app a0m 1 4 (t 37) (t 40)),mV 5 41]
def m0H:SS:=[mV 42 10,o 43 (.bin 0 .shr (t 42) (.const (.int .u64 63))),mV 6 43]
def m0I:SS:=[o 44 (.bin 0 .add (t 16) (i 1)),mV 16 44]
def r0Q:SS:=[mV 45 5,mV 4 45]
def H0C:SF:=⟨2,46,[.tmp 4],
 (qS (gR y0D) (qS (gR y0E) (qS (gR y0F) (qS (qS (gR y0G) (.block 0 (.loop (qS (gR m0J) (qS (.cond (t 17) .skip (.exit 0)) (qS (.block 1 (qS (gR p0L) (qS (gR p0M) (qS (qS (gR p0N) (.cond (t 25) (gR p0O) .skip)) (qS (gR p0P) (qS (gR m0G) (gR m0H))))))) (gR m0I))))))) (qS (gR r0Q) .ret)))))⟩
def y0H:SS:=[o 2 (.mv (.const (.int .u32 0)))]
def y0I:SS:=[mV 3 0,o 4 (.conv .u32 (t 3)),mV 2 4]
def H0D:SF:=⟨1,5,[.tmp 2],
 (qS (gR y0H) (qS (gR y0I) .ret))⟩
def y0J:SS:=[o 2 (.alloc a0c [.bool false,.slice none 0 0])]
def y0K:SS:=[mV 4 0,o 5 (.conv .u64 (t 4)),mV 3 5]
def y0L:SS:=[mV 6 0,o 7 (.bin 0 .lss (t 6) (i 0))]
def y0M:SS:=[mV 8 3,o 9 (.un .neg (t 8)),mV 3 9]
def y0N:SS:=[mV 10 0,o 11 (.bin 0 .lss (t 10) (i 0)),mV 12 3,o 13 (.call f0l [t 12] true),mV 14 3,o 15 (.bin 0 .shr (t 14) (.const (.int .u64 32))),o 16 (.call f0l [t 15] true),o 17 (.lit a0m [.int .u32 0] 2 [(0,1,t 13),(1,1,t 16)]),o 18 (.call f0F [t 11,t 17] true),
 ⟨none,none,.store 2 (t 2) (t 18)⟩]
def H0E:SF:=⟨1,19,[.cell 2 true 2],
 (qS (gR y0J) (qS (gR y0K) (qS (qS (gR y0L) (.cond (t 7) (gR y0M) .skip)) (qS (gR y0N) .ret))))⟩
def y0O:SS:=[o 2 (.box a0c (t 0)),o 3 (.box a0c (t 1)),o 4 (.mv (i 0))]
def y0P:SS:=[lA 6 2 2,o 7 (.call d0M [t 6] true),mV 8 7,og 9 8 true (.load true 2 (t 3)),og 10 8 true (.call d0M [t 9] true),og 11 8 true (.un .not (t 10)),o 12 (.pick (t 8) (t 11) (.const (.bool false))),mV 5 12]
def y0Q:SS:=[o 4 (.mv (.const (.int .i64 (-1))))]
def p0Q:SS:=[lA 14 2 2,o 15 (.call d0M [t 14] true),o 16 (.un .not (t 15)),mV 17 16,og 18 17 true (.load true 2 (t 3)),og 19 17 true (.call d0M [t 18] true),o 20 (.pick (t 17) (t 19) (.const (.bool false))),mV 13 20]
def y0R:SS:=[o 4 (.mv (i 1))]
def p0R:SS:=[lA 22 2 2,o 23 (.call d0M [t 22] true),mV 21 23]
def y0S:SS:=[lA 24 2 3,o 25 (.call f0k [t 24] false),lA 26 2 2,o 27 (.call f0k [t 26] true),o 28 (.call n0I [t 25,t 27] true),mV 4 28]
def y0T:SS:=[lA 29 2 2,o 30 (.call f0k [t 29] false),lA 31 2 3,o 32 (.call f0k [t 31] true),o 33 (.call n0I [t 30,t 32] true),mV 4 33]
def H0F:SF:=⟨2,34,[.tmp 4],
 (qS (gR y0O) (qS (.block 0 (qS (gR y0P) (.cond (t 5) (qS (gR y0Q) .ret) (qS (gR p0Q) (.cond (t 13) (qS (gR y0R) .ret) (qS (gR p0R) (.cond (t 21) (qS (.draw y0S [0,1,0,7,15,31] []) .ret) .skip))))))) (qS (.draw y0T [0,1,0,7,15,31] []) .ret)))⟩
def y0U:SS:=[o 1 (.box a0c (t 0)),o 2 (.mv (.const (.bool false)))]
def y0V:SS:=[fA 3 1 1,lD 4 3,lN 5 4,o 6 (.bin 0 .eql (t 5) (i 0))]
def y0W:SS:=[fA 7 0 1,lD 8 7,o 9 (.un .not (t 8)),mV 2 9]
def y0X:SS:=[fA 10 1 1,lD 11 10,fA 12 1 1,lD 13 12,lN 14 13,o 15 (.bin 0 .sub (t 14) (i 1)),iA 16 1 11 15,lD 17 16,o 18 (.bin 0 .neq (t 17) (.const (.int .u32 0))),mV 2 18]
def H0G:SF:=⟨1,19,[.tmp 2],
 (qS (gR y0U) (qS (qS (gR y0V) (.cond (t 6) (qS (gR y0W) .ret) .skip)) (qS (gR y0X) .ret)))⟩
def y0Y:SS:=[o 1 (.box a0c (t 0)),o 2 (.mv (.const (.bool false)))]
def y0Z:SS:=[lA 3 2 1,o 4 (.build [.bool false,.slice none 0 0] []),o 5 (.call j0I [t 3,t 4] true),o 6 (.bin 0 .eql (t 5) (i 0)),mV 2 6]
def H0H:SF:=⟨1,7,[.tmp 2],
 (qS (gR y0Y) (qS (gR y0Z) .ret))⟩
def z0a:SS:=[o 2 (.box a0c (t 0)),o 3 (.box a0c (t 1)),o 4 (.alloc a0c [.bool false,.slice none 0 0])]
def z0b:SS:=[lA 10 2 2,o 11 (.call f0k [t 10] false),o 12 (.call f0F [(.const (.bool false)),t 11] false),lA 13 2 3,o 14 (.call f0k [t 13] false),o 15 (.call f0F [(.const (.bool false)),t 14] false),o 5 (.alloc a0c [.bool false,.slice none 0 0]),o 6 (.alloc a0c [.bool false,.slice none 0 0]),
 ⟨none,none,.store 2 (t 5) (t 12)⟩,
 ⟨none,none,.store 2 (t 6) (t 15)⟩]
def p0S:SS:=[fA 16 1 6,lD 17 16,lN 18 17,o 19 (.bin 0 .gtr (t 18) (i 0))]
def z0c:SS:=[lA 21 2 5,lA 22 2 6,o 23 (.call j0J [t 21,t 22] true),mV 20 23,o 24 (.ext (t 20) 0),o 25 (.ext (t 20) 1),o 26 (.ext (t 20) 2),o 7 (.alloc a0c [.bool false,.slice none 0 0]),o 8 (.alloc a0c [.bool false,.slice none 0 0]),
 ⟨none,none,.store 2 (t 7) (t 24)⟩,
 ⟨none,none,.store 2 (t 8) (t 25)⟩,mV 9 26]
def z0d:SS:=[lA 27 2 6,lA 28 2 8,
 ⟨none,none,.store 2 (t 5) (t 27)⟩,
 ⟨none,none,.store 2 (t 6) (t 28)⟩]
def z0e:SS:=[lA 29 2 5,
 ⟨none,none,.store 2 (t 4) (t 29)⟩]
def H0I:SF:=⟨2,30,[.cell 4 true 2],
 (qS (gR z0a) (qS (.draw z0b [0,1,3,0,15,31,0,0,255,511] []) (qS (.block 0 (.loop (qS (qS (gR p0S) (.cond (t 19) .skip (.exit 0))) (.block 1 (qS (gR z0c) (.draw z0d [0,0,1,7] [(1,2)])))))) (qS (gR z0e) .ret))))⟩
end
/- The small code of the program's functions: printed. -/
section
open Go
def z0f:SS:=[o 4 (.mv (i 0))]
def z0g:SS:=[mV 6 0,lN 7 6,o 8 (.mv (i 0))]
def N0J:SS:=[o 9 (.bin 0 .lss (t 8) (t 7))]
def z0h:SS:=[mV 10 8,mV 5 10]
def z0i:SS:=[mV 11 1,mV 12 0,mV 13 5,iA 14 1 12 13,lD 15 14,o 16 (.callv (t 11) [t 15] true)]
def z0j:SS:=[mV 17 5,mV 4 17]
def N0K:SS:=[o 18 (.bin 0 .add (t 8) (i 1)),mV 8 18]
def z0k:SS:=[o 4 (.mv (.const (.int .i64 (-1))))]
def H0J:SF:=⟨2,19,[.tmp 4],
 (qS (gR z0f) (qS (qS (gR z0g) (.block 0 (.loop (qS (gR N0J) (qS (.cond (t 9) .skip (.exit 0)) (qS (.block 1 (qS (gR z0h) (qS (gR z0i) (.cond (t 16) (qS (gR z0j) .ret) .skip)))) (gR N0K))))))) (qS (gR z0k) .ret)))⟩
def z0l:SS:=[o 2 (.mv (.const (.slice none 0 0))),o 3 (.alloc a0d [.bool false,.slice none 0 0,.bool false,.slice none 0 0])]
def z0m:SS:=[o 21 (.call i0f [i 1] true),o 4 (.alloc a0c [.bool false,.slice none 0 0]),
 ⟨none,none,.store 2 (t 4) (t 21)⟩]
def z0n:SS:=[mV 22 0,lN 23 22,o 24 (.mv (i 0))]
def N0L:SS:=[o 25 (.bin 0 .lss (t 24) (t 23))]
def z0o:SS:=[iA 26 4 22 24,lA 27 4 26,o 6 (.alloc a0d [.bool false,.slice none 0 0,.bool false,.slice none 0 0]),
 ⟨none,none,.store 4 (t 6) (t 27)⟩]
def z0p:SS:=[fA 29 2 6,lA 30 2 29,lA 31 2 4,fA 32 2 6,lA 33 2 32,o 34 (.call n0K [t 31,t 33] false),o 35 (.call j0J [t 30,t 34] false),mV 28 35,o 36 (.ext (t 28) 0),o 37 (.ext (t 28) 1),o 38 (.ext (t 28) 2),o 7 (.alloc a0c [.bool false,.slice none 0 0]),o 8 (.alloc a0c [.bool false,.slice none 0 0]),
 ⟨none,none,.store 2 (t 7) (t 36)⟩,
 ⟨none,none,.store 2 (t 8) (t 37)⟩,mV 9 38]
def z0q:SS:=[lA 39 2 4,lA 40 2 7,o 41 (.call l0X [t 39,t 40] true),
 ⟨none,none,.store 2 (t 4) (t 41)⟩]
def N0M:SS:=[o 42 (.bin 0 .add (t 24) (i 1)),mV 24 42]
def z0r:SS:=[o 10 (.mv (.const (.slice none 0 0)))]
def z0s:SS:=[o 43 (.build [.bool false,.slice none 0 0] []),o 11 (.alloc a0c [.bool false,.slice none 0 0]),
 ⟨none,none,.store 2 (t 11) (t 43)⟩]
def r0R:SS:=[mV 44 0,lN 45 44,o 46 (.mv (i 0))]
def G0B:SS:=[o 47 (.bin 0 .lss (t 46) (t 45))]
def r0S:SS:=[iA 48 4 44 46,lA 49 4 48,o 13 (.alloc a0d [.bool false,.slice none 0 0,.bool false,.slice none 0 0]),
 ⟨none,none,.store 4 (t 13) (t 49)⟩]
def r0T:SS:=[lA 51 2 4,fA 52 2 13,lA 53 2 52,o 54 (.call j0J [t 51,t 53] true),mV 50 54,o 55 (.ext (t 50) 0),o 56 (.ext (t 50) 1),o 57 (.ext (t 50) 2),o 14 (.alloc a0c [.bool false,.slice none 0 0]),o 15 (.alloc a0c [.bool false,.slice none 0 0]),
 ⟨none,none,.store 2 (t 14) (t 55)⟩,
 ⟨none,none,.store 2 (t 15) (t 56)⟩,mV 16 57]
def r0U:SS:=[fA 58 0 13,lA 59 2 58,lA 60 2 14,o 61 (.call l0X [t 59,t 60] true),o 17 (.alloc a0c [.bool false,.slice none 0 0]),
 ⟨none,none,.store 2 (t 17) (t 61)⟩]
def r0V:SS:=[mV 62 10,lA 63 2 17,o 64 (.lit a0c [.bool false,.slice none 0 0] 1 [(0,2,t 63)]),o 65 (.app a0c 2 32 (t 62) (t 64)),mV 10 65]
def r0W:SS:=[lA 66 2 11,lA 67 2 17,o 68 (.call n0K [t 66,t 67] true),
 ⟨none,none,.store 2 (t 11) (t 68)⟩]
def G0C:SS:=[o 69 (.bin 0 .add (t 46) (i 1)),mV 46 69]
def r0X:SS:=[lA 70 2 11,o 71 (.build [.bool false,.slice none 0 0] []),o 72 (.call j0I [t 70,t 71] true),o 73 (.bin 0 .eql (t 72) (i 0))]
def r0Y:SS:=[o 74 (.call i0f [i 1] true),
 ⟨none,none,.store 2 (t 11) (t 74)⟩]
def m0K:SS:=[mV 75 10,lN 76 75,o 77 (.mv (i 0))]
def G0D:SS:=[o 78 (.bin 0 .lss (t 77) (t 76))]
def m0L:SS:=[mV 79 77,mV 18 79]
def m0M:SS:=[mV 81 10,mV 82 18,mV 83 10,mV 84 18,iA 85 2 83 84,lA 86 2 85,lA 87 2 11,o 88 (.call j0J [t 86,t 87] true),mV 80 88,o 89 (.ext (t 80) 0),o 90 (.ext (t 80) 1),o 91 (.ext (t 80) 2),iA 92 2 81 82,
 ⟨none,none,.store 2 (t 92) (t 89)⟩]
def G0E:SS:=[o 93 (.bin 0 .add (t 77) (i 1)),mV 77 93]
def m0N:SS:=[lA 95 2 4,lA 96 2 11,o 97 (.call l0T [t 95,t 96] true),mV 94 97,o 98 (.ext (t 94) 0),o 99 (.ext (t 94) 1),o 19 (.alloc a0d [.bool false,.slice none 0 0,.bool false,.slice none 0 0]),
 ⟨none,none,.store 4 (t 19) (t 98)⟩,mV 20 99]
def m0O:SS:=[mV 100 10,lA 101 4 19,mV 2 100,
 ⟨none,none,.store 4 (t 3) (t 101)⟩]
def H0K:SF:=⟨1,102,[.tmp 2,.cell 3 true 4],
 (qS (gR z0l) (qS (gR z0m) (qS (qS (gR z0n) (.block 0 (.loop (qS (gR N0L) (qS (.cond (t 25) .skip (.exit 0)) (qS (.block 1 (qS (gR z0o) (qS (.draw z0p [0,1,0,0,8,28,63,127,255,255,255,0,0,6655,15359,32767] []) (gR z0q)))) (gR N0M))))))) (qS (gR z0r) (qS (gR z0s) (qS (qS (gR r0R) (.block 2 (.loop (qS (gR G0B) (qS (.cond (t 47) .skip (.exit 2)) (qS (.block 3 (qS (gR r0S) (qS (gR r0T) (qS (gR r0U) (qS (gR r0V) (gR r0W)))))) (gR G0C))))))) (qS (qS (gR r0X) (.cond (t 73) (gR r0Y) .skip)) (qS (qS (gR m0K) (.block 4 (.loop (qS (gR G0D) (qS (.cond (t 78) .skip (.exit 4)) (qS (.block 5 (qS (gR m0L) (.draw m0M [0,0,0,0,12,28,0,124,252,508,508,508,1023,5119] []))) (gR G0E))))))) (qS (gR m0N) (qS (.draw m0O [0,0,1,7] []) .ret))))))))))⟩
def z0t:SS:=[o 2 (.mv (.const (.slice none 0 0)))]
def z0u:SS:=[mV 6 0,lN 7 6,o 8 (.bin 0 .add (t 7) (i 1)),o 9 (.mk a0d 64 [.bool false,.slice none 0 0,.bool false,.slice none 0 0] (i 0) (t 8)),mV 3 9]
def z0v:SS:=[mV 10 0,lN 11 10,o 12 (.mv (i 0))]
def N0N:SS:=[o 13 (.bin 0 .lss (t 12) (t 11))]
def z0w:SS:=[iA 14 4 10 12,lA 15 4 14,o 5 (.alloc a0d [.bool false,.slice none 0 0,.bool false,.slice none 0 0]),
 ⟨none,none,.store 4 (t 5) (t 15)⟩]
def z0x:SS:=[mV 16 3,lA 17 4 5,o 18 (.build [.bool false,.slice none 0 0,.bool false,.slice none 0 0] []),o 19 (.call n0R [t 17,t 18] true),o 20 (.lit a0d [.bool false,.slice none 0 0,.bool false,.slice none 0 0] 1 [(0,4,t 19)]),o 21 (.app a0d 4 64 (t 16) (t 20)),mV 3 21]
def N0O:SS:=[o 22 (.bin 0 .add (t 12) (i 1)),mV 12 22]
def z0y:SS:=[mV 23 3,mV 2 23]
def H0L:SF:=⟨1,24,[.tmp 2],
 (qS (gR z0t) (qS (gR z0u) (qS (qS (gR z0v) (.block 0 (.loop (qS (gR N0N) (qS (.cond (t 13) .skip (.exit 0)) (qS (.block 1 (qS (gR z0w) (gR z0x))) (gR N0O))))))) (qS (gR z0y) .ret))))⟩
def z0z:SS:=[o 3 (.box a0h (t 0)),o 4 (.box b0z (t 1)),o 5 (.box a0q (t 2)),o 6 (.alloc b0d [.int .i64 0,.bool false,.slice none 0 0,.bool false,.slice none 0 0,.slice none 0 0,.slice none 0 0,.slice none 0 0]),o 7 (.mv (i 0))]
def z0A:SS:=[lA 16 0 3,lA 17 8 5,o 18 (.call w0c [t 16,t 17] true),o 8 (.alloc a0p [.pointer none]),
 ⟨none,none,.store 1 (t 8) (t 18)⟩]
def z0B:SS:=[lD 19 8,cK 20 19,fA 21 1 20,lD 22 21,lD 23 8,cK 24 23,fA 25 1 24,lD 26 25,o 27 (.bin 0 .add (t 26) (i 1)),mV 9 22,mV 10 27]
def z0C:SS:=[lD 28 8,mV 29 9,o 30 (.call u0o [t 28,t 29] true)]
def z0D:SS:=[lD 31 8,cK 32 31,o 33 (.fa0 a0b (t 32)),lA 34 0 33,o 35 (.iface a0h (t 34)),lD 36 8,cK 37 36,fA 38 3 37,lD 39 38,mV 40 9,iA 41 1 39 40,lD 42 41,lD 43 8,cK 44 43,fA 45 2 44,lD 46 45,iA 47 1 42 46,lD 48 47,o 49 (.inv (t 35) [(a0g,g0R),(a0h,g0T)] [t 48] true),o 50 (.bin 0 .lss (t 49) (i 0))]
def z0E:SS:=[o 51 (.call l0Y [i 0] false),lD 52 8,mV 53 9,lA 54 8 5,o 55 (.call l0Y [i 1] false),o 56 (.call u0p [t 52,t 53,t 54,t 55] false),o 57 (.build [.int .i64 0,.bool false,.slice none 0 0,.bool false,.slice none 0 0,.slice none 0 0,.slice none 0 0,.slice none 0 0] [(0,1,i 2),(1,4,t 51),(6,1,t 56)]),lD 58 8,cK 59 58,fA 60 6 59,lD 61 60,
 ⟨none,none,.store 8 (t 6) (t 57)⟩,mV 7 61]
def z0F:SS:=[lD 62 8,o 63 (.call w0d [t 62] true)]
def z0G:SS:=[lD 64 8,mV 65 10,o 66 (.call u0o [t 64,t 65] true),mV 11 66]
def z0H:SS:=[lD 67 8,o 68 (.mkfn (.func w0e) [] [t 8]),o 69 (.call u0q [t 67,t 68] true),mV 12 69]
def z0I:SS:=[mV 70 11,o 71 (.bin 0 .geq (t 70) (i 0))]
def G0F:SS:=[o 72 (.call l0Y [i 0] false),mV 73 12,lD 74 8,mV 75 11,o 76 (.call N0k [t 74,t 75] false),o 77 (.build [.int .i64 0,.bool false,.slice none 0 0,.bool false,.slice none 0 0,.slice none 0 0,.slice none 0 0,.slice none 0 0] [(0,1,i 3),(1,4,t 72),(5,1,t 73),(7,1,t 76)]),lD 78 8,cK 79 78,fA 80 6 79,lD 81 80,
 ⟨none,none,.store 8 (t 6) (t 77)⟩,mV 7 81]
def r0Z:SS:=[o 82 (.call l0Y [i 0] true),o 13 (.alloc a0d [.bool false,.slice none 0 0,.bool false,.slice none 0 0]),
 ⟨none,none,.store 4 (t 13) (t 82)⟩]
def s0a:SS:=[fA 83 3 4,lD 84 83,lN 85 84,o 86 (.mv (i 0))]
def G0G:SS:=[o 87 (.bin 0 .lss (t 86) (t 85))]
def s0b:SS:=[mV 88 86,iA 89 4 84 86,lA 90 4 89,o 15 (.alloc a0d [.bool false,.slice none 0 0,.bool false,.slice none 0 0]),mV 14 88,
 ⟨none,none,.store 4 (t 15) (t 90)⟩]
def s0c:SS:=[lA 91 4 13,lA 92 4 15,mV 93 12,mV 94 14,iA 95 4 93 94,lA 96 4 95,o 97 (.call G0a [t 92,t 96] false),o 98 (.call n0R [t 91,t 97] true),
 ⟨none,none,.store 4 (t 13) (t 98)⟩]
def G0H:SS:=[o 99 (.bin 0 .add (t 86) (i 1)),mV 86 99]
def s0d:SS:=[lA 100 4 13,mV 101 12,lD 102 8,mV 103 10,lA 104 8 5,fA 105 4 5,lA 106 4 105,o 107 (.call u0p [t 102,t 103,t 104,t 106] false),o 108 (.build [.int .i64 0,.bool false,.slice none 0 0,.bool false,.slice none 0 0,.slice none 0 0,.slice none 0 0,.slice none 0 0] [(0,1,i 1),(1,4,t 100),(5,1,t 101),(6,1,t 107)]),lD 109 8,cK 110 109,fA 111 6 110,lD 112 111,
 ⟨none,none,.store 8 (t 6) (t 108)⟩,mV 7 112]
def H0M:SF:=⟨3,113,[.cell 6 true 8,.tmp 7],
 (qS (gR z0z) (qS (gR z0A) (qS (.draw z0B [0,1,3,7,0,16,48,112,240,15,1023] []) (qS (gR z0C) (qS (qS (.draw z0D [0,1,3,7,15,0,32,96,224,0,992,2016,0,4096,12288,28672,65504,131040,262143,524287] []) (.cond (t 50) (qS (.draw z0E [0,0,0,0,1,31,63,0,128,384,896,127,4095] [(7,11),(10,11)]) .ret) .skip)) (qS (gR z0F) (qS (gR z0G) (qS (gR z0H) (qS (qS (gR z0I) (.cond (t 71) (qS (.draw G0F [0,0,0,0,13,31,0,64,192,448,63,2047] [(6,10),(9,10)]) .ret) .skip)) (qS (gR r0Z) (qS (qS (gR s0a) (.block 0 (.loop (qS (gR G0G) (qS (.cond (t 87) .skip (.exit 0)) (qS (.block 1 (qS (gR s0b) (.draw s0c [0,0,0,0,12,28,62,127,255] []))) (gR G0H))))))) (qS (.draw s0d [0,0,0,0,0,0,32,124,255,0,512,1536,3584,511,16383] [(9,13),(12,13)]) .ret))))))))))))⟩
def z0K:SS:=[o 2 (.box a0g (t 0)),o 3 (.box a0q (t 1)),o 4 (.mv (.const (.pointer none)))]
def z0L:SS:=[fA 22 1 3,lD 23 22,lN 24 23,mV 5 24]
def z0M:SS:=[lA 25 0 2,fA 26 0 3,lD 27 26,mV 28 5,fA 29 0 3,lD 30 29,o 31 (.bin 0 .mul (i 2) (t 30)),mV 32 5,o 33 (.bin 0 .add (t 31) (t 32)),lA 34 0 2,o 35 (.iface a0g (t 34)),o 36 (.call i0f [i 1] false),o 37 (.inv (t 35) [(a0g,f0G),(a0h,f0m)] [t 36] false),o 38 (.build [.int .i64 0,.int .i64 0,.int .i64 0,.slice none 0 0,.bool false,.slice none 0 0,.slice none 0 0,.int .i64 0] [(0,0,t 25),(0,1,t 27),(1,1,t 28),(2,1,t 33),(4,2,t 37)]),o 39 (.box a0a (t 38)),o 6 (.alloc a0o [.pointer none]),
 ⟨none,none,.store 1 (t 6) (t 39)⟩]
def z0N:SS:=[lA 40 0 2,o 41 (.iface a0g (t 40)),o 42 (.build [.bool false,.slice none 0 0] []),o 43 (.inv (t 41) [(a0g,f0G),(a0h,f0m)] [t 42] true),o 7 (.alloc a0c [.bool false,.slice none 0 0]),
 ⟨none,none,.store 2 (t 7) (t 43)⟩]
def z0O:SS:=[o 44 (.mkfn (.func k0J) [] [t 6,t 7]),mV 8 44]
def z0P:SS:=[mV 45 8,o 46 (.callv (t 45) [] true),mV 47 8,o 48 (.callv (t 47) [] true),mV 9 46,mV 10 48]
def z0Q:SS:=[fA 49 3 3,lD 50 49,lN 51 50,o 52 (.mv (i 0))]
def N0P:SS:=[o 53 (.bin 0 .lss (t 52) (t 51))]
def z0R:SS:=[mV 54 52,iA 55 2 50 52,lA 56 2 55,o 12 (.alloc a0c [.bool false,.slice none 0 0]),mV 11 54,
 ⟨none,none,.store 2 (t 12) (t 56)⟩]
def z0S:SS:=[lA 57 0 2,o 58 (.iface a0g (t 57)),lA 59 2 12,o 60 (.inv (t 58) [(a0g,f0G),(a0h,f0m)] [t 59] true),o 13 (.alloc a0c [.bool false,.slice none 0 0]),
 ⟨none,none,.store 2 (t 13) (t 60)⟩]
def s0e:SS:=[mV 61 10,mV 62 11,mV 63 10,fA 64 0 3,lD 65 64,mV 66 11,o 67 (.bin 0 .add (t 65) (t 66)),lA 68 0 2,o 69 (.iface a0g (t 68)),lA 70 2 13,o 71 (.inv (t 69) [(a0g,g0Q),(a0h,g0S)] [t 70] false),lA 72 2 13,iA 73 2 61 62,
 ⟨none,none,.store 2 (t 73) (t 71)⟩,iA 74 2 63 67,
 ⟨none,none,.store 2 (t 74) (t 72)⟩]
def G0I:SS:=[o 75 (.bin 0 .add (t 52) (i 1)),mV 52 75]
def s0f:SS:=[fA 76 1 3,lD 77 76,lN 78 77,o 79 (.mv (i 0))]
def G0J:SS:=[o 80 (.bin 0 .lss (t 79) (t 78))]
def s0g:SS:=[mV 81 79,iA 82 1 77 79,lD 83 82,mV 14 81,mV 15 83]
def s0h:SS:=[mV 84 8,o 85 (.callv (t 84) [] true),mV 16 85]
def s0i:SS:=[mV 86 15,fA 87 0 3,lD 88 87,o 89 (.sl a0c 2 (t 86) none (some (t 88)) none),lN 90 89,o 91 (.mv (i 0))]
def G0K:SS:=[o 92 (.bin 0 .lss (t 91) (t 90))]
def s0j:SS:=[mV 93 91,iA 94 2 89 91,lA 95 2 94,o 18 (.alloc a0c [.bool false,.slice none 0 0]),mV 17 93,
 ⟨none,none,.store 2 (t 18) (t 95)⟩]
def s0k:SS:=[lA 96 0 2,o 97 (.iface a0g (t 96)),lA 98 2 18,o 99 (.inv (t 97) [(a0g,f0G),(a0h,f0m)] [t 98] true),o 19 (.alloc a0c [.bool false,.slice none 0 0]),
 ⟨none,none,.store 2 (t 19) (t 99)⟩]
def s0l:SS:=[mV 100 16,mV 101 17,mV 102 16,fA 103 0 3,lD 104 103,mV 105 17,o 106 (.bin 0 .add (t 104) (t 105)),lA 107 2 19,lA 108 0 2,o 109 (.iface a0g (t 108)),lA 110 2 19,o 111 (.inv (t 109) [(a0g,g0Q),(a0h,g0S)] [t 110] false),iA 112 2 100 101,
 ⟨none,none,.store 2 (t 112) (t 107)⟩,iA 113 2 102 106,
 ⟨none,none,.store 2 (t 113) (t 111)⟩]
def G0L:SS:=[o 114 (.bin 0 .add (t 91) (i 1)),mV 91 114]
def s0m:SS:=[mV 115 16,fA 116 0 3,lD 117 116,o 118 (.bin 0 .mul (i 2) (t 117)),mV 119 14,o 120 (.bin 0 .add (t 118) (t 119)),lD 121 6,cK 122 121,fA 123 4 122,lA 124 2 123,iA 125 2 115 120,
 ⟨none,none,.store 2 (t 125) (t 124)⟩]
def s0n:SS:=[mV 126 16,lD 127 6,cK 128 127,fA 129 2 128,lD 130 129,lA 131 0 2,o 132 (.iface a0g (t 131)),mV 133 15,fA 134 0 3,lD 135 134,iA 136 2 133 135,lA 137 2 136,o 138 (.inv (t 132) [(a0g,f0G),(a0h,f0m)] [t 137] false),iA 139 2 126 130,
 ⟨none,none,.store 2 (t 139) (t 138)⟩]
def s0o:SS:=[fA 140 0 3,lD 141 140,o 142 (.bin 0 .mul (i 2) (t 141)),mV 143 14,o 144 (.bin 0 .add (t 142) (t 143)),mV 20 144]
def s0p:SS:=[lA 145 0 2,o 146 (.iface a0g (t 145)),mV 147 16,lD 148 6,cK 149 148,fA 150 2 149,lD 151 150,iA 152 2 147 151,lA 153 2 152,o 154 (.inv (t 146) [(a0g,g0R),(a0h,g0T)] [t 153] true),o 155 (.bin 0 .lss (t 154) (i 0))]
def s0q:SS:=[lD 156 6,cK 157 156,fA 158 2 157,lD 159 158,mV 160 14,o 161 (.bin 0 .add (t 159) (t 160)),mV 20 161]
def s0r:SS:=[mV 162 16,lN 163 162,o 164 (.mv (i 0))]
def G0M:SS:=[o 165 (.bin 0 .lss (t 164) (t 163))]
def s0s:SS:=[mV 166 164,mV 21 166]
def s0t:SS:=[mV 167 16,mV 168 21,lA 169 0 2,o 170 (.iface a0g (t 169)),mV 171 16,mV 172 21,iA 173 2 171 172,lA 174 2 173,o 175 (.inv (t 170) [(a0g,g0Q),(a0h,g0S)] [t 174] true),iA 176 2 167 168,
 ⟨none,none,.store 2 (t 176) (t 175)⟩]
def s0u:SS:=[mV 177 9,mV 178 21,lD 179 6,mV 180 9,mV 181 21,iA 182 2 180 181,lA 183 2 182,mV 184 16,mV 185 21,iA 186 2 184 185,lA 187 2 186,o 188 (.call u0r [t 179,t 183,t 187] true),iA 189 2 177 178,
 ⟨none,none,.store 2 (t 189) (t 188)⟩]
def G0N:SS:=[o 190 (.bin 0 .add (t 164) (i 1)),mV 164 190]
def m0P:SS:=[lD 191 6,lD 192 6,lD 193 6,cK 194 193,fA 195 3 194,lD 196 195,mV 197 16,o 198 (.lit a0Q [.slice none 0 0] 1 [(0,1,t 197)]),o 199 (.app a0Q 1 24 (t 196) (t 198)),lD 200 6,cK 201 200,fA 202 6 201,lD 203 202,mV 204 20,o 205 (.lit d0z [.int .i64 0] 1 [(0,1,t 204)]),o 206 (.app d0z 1 8 (t 203) (t 205)),cK 207 191,fA 208 3 207,
 ⟨none,none,.store 1 (t 208) (t 199)⟩,cK 209 192,fA 210 6 209,
 ⟨none,none,.store 1 (t 210) (t 206)⟩]
def G0O:SS:=[o 211 (.bin 0 .add (t 79) (i 1)),mV 79 211]
def s0v:SS:=[lD 212 6,lD 213 6,cK 214 213,fA 215 3 214,lD 216 215,mV 217 9,mV 218 10,o 219 (.lit a0Q [.slice none 0 0] 2 [(0,1,t 217),(1,1,t 218)]),o 220 (.app a0Q 1 24 (t 216) (t 219)),cK 221 212,fA 222 3 221,
 ⟨none,none,.store 1 (t 222) (t 220)⟩]
def s0w:SS:=[lD 223 6,mV 4 223]
def H0N:SF:=⟨2,224,[.tmp 4],
 (qS (gR z0K) (qS (gR z0L) (qS (.draw z0M [0,0,2,0,0,16,48,0,240,0,512,0,3584,8191,16383,0,65535] []) (qS (gR z0N) (qS (gR z0O) (qS (gR z0P) (qS (qS (gR z0Q) (.block 0 (.loop (qS (gR N0P) (qS (.cond (t 53) .skip (.exit 0)) (qS (.block 1 (qS (gR z0R) (qS (gR z0S) (.draw s0e [0,0,0,0,8,0,56,0,128,0,896,0,1923,6019,16383,32767] [(4,13),(11,13)])))) (gR G0I))))))) (qS (qS (gR s0f) (.block 2 (.loop (qS (gR G0J) (qS (.cond (t 80) .skip (.exit 2)) (qS (.block 3 (qS (gR s0g) (qS (gR s0h) (qS (qS (gR s0i) (.block 4 (.loop (qS (gR G0K) (qS (.cond (t 92) .skip (.exit 4)) (qS (.block 5 (qS (gR s0j) (qS (gR s0k) (.draw s0l [0,0,0,0,8,0,56,0,0,256,0,1792,3971,8067,16383,32767] [(4,13)])))) (gR G0L))))))) (qS (.draw s0m [0,0,2,6,0,30,0,64,192,448,1023,2047] []) (qS (.draw s0n [0,0,2,6,14,0,32,0,0,256,896,1920,4064,8191,16383] []) (qS (gR s0o) (qS (qS (.draw s0p [0,1,0,0,8,24,56,124,252,511,1023] []) (.cond (t 155) (qS (gR s0q) (qS (gR s0r) (.block 6 (.loop (qS (gR G0M) (qS (.cond (t 165) .skip (.exit 6)) (qS (.block 7 (qS (gR s0s) (qS (.draw s0t [0,0,0,4,0,0,48,112,252,511,1023] []) (.draw s0u [0,0,0,0,0,24,56,0,0,384,896,2044,4095,8191] [])))) (gR G0N)))))))) .skip)) (.draw m0P [0,0,0,4,12,28,0,64,252,0,512,1536,3584,0,8192,32764,65533,131069,262141,524287,1048575,2097151] [(0,8),(1,8),(8,9),(8,12),(8,14),(0,15),(1,15),(1,18)]))))))))) (gR G0O))))))) (qS (.draw s0v [0,0,2,6,14,0,0,96,254,511,1023,2047] [(0,8)]) (qS (gR s0w) .ret))))))))))⟩
def z0T:SS:=[o 4 (.mv (i 0))]
def z0U:SS:=[o 5 (.mv (i 0))]
def p0T:SS:=[mV 7 5,mV 8 0,cK 9 8,fA 10 2 9,lD 11 10,o 12 (.bin 0 .lss (t 7) (t 11)),mV 13 12,og 14 13 true (.mv (t 0)),og 15 13 true (.chk (t 14)),og 16 13 true (.fa0 a0a (t 15)),og 17 13 true (.load true 0 (t 16)),og 18 13 true (.iface a0g (t 17)),og 19 13 true (.mv (t 0)),og 20 13 true (.chk (t 19)),og 21 13 true (.fa 3 (t 20)),og 22 13 true (.load false 1 (t 21)),og 23 13 true (.mv (t 1)),og 24 13 true (.ia 1 (t 22) (t 23)),og 25 13 true (.load false 1 (t 24)),og 26 13 true (.mv (t 5)),og 27 13 true (.ia 2 (t 25) (t 26)),og 28 13 true (.load true 2 (t 27)),og 29 13 true (.inv (t 18) [(a0g,g0R),(a0h,g0T)] [t 28] true),og 30 13 true (.bin 0 .geq (t 29) (i 0)),o 31 (.pick (t 13) (t 30) (.const (.bool false)))]
def z0V:SS:=[mV 32 5,o 33 (.bin 0 .add (t 32) (i 1)),mV 5 33]
def p0U:SS:=[mV 34 5,mV 35 0,cK 36 35,fA 37 2 36,lD 38 37,o 39 (.bin 0 .eql (t 34) (t 38))]
def z0W:SS:=[o 4 (.mv (.const (.int .i64 (-1))))]
def z0X:SS:=[mV 40 0,mV 41 5,o 42 (.call w0f [t 40,t 41] true),mV 6 42]
def p0V:SS:=[mV 43 6,o 44 (.bin 0 .lss (t 43) (i 0))]
def z0Y:SS:=[mV 45 5,mV 4 45]
def z0Z:SS:=[mV 46 0,mV 47 6,mV 48 5,o 49 (.call u0s [t 46,t 47,t 48] true)]
def H0O:SF:=⟨2,50,[.tmp 4],
 (qS (gR z0T) (.block 0 (.loop (.block 1 (qS (gR z0U) (qS (.block 2 (.loop (qS (qS (.draw p0T [0,0,2,6,14,31,63,127,255,511,1023,2047,127,4223,12415,28799,127,127103,258175,127,1044607,2093183,4194303,8388607,16777215] []) (.cond (t 31) .skip (.exit 2))) (.block 3 (gR z0V))))) (qS (qS (gR p0U) (.cond (t 39) (qS (gR z0W) .ret) .skip)) (qS (gR z0X) (qS (qS (gR p0V) (.cond (t 44) (qS (gR z0Y) .ret) .skip)) (gR z0Z))))))))))⟩
def A0a:SS:=[o 6 (.box a0q (t 2)),o 7 (.box a0d (t 3)),o 8 (.mv (.const (.slice none 0 0)))]
def A0b:SS:=[o 9 (.mv (.const (.slice none 0 0)))]
def A0c:SS:=[mV 13 0,cK 14 13,fA 15 1 14,lD 16 15,o 17 (.mv (i 0))]
def N0Q:SS:=[o 18 (.bin 0 .lss (t 17) (t 16))]
def A0d:SS:=[mV 19 17,mV 10 19]
def A0e:SS:=[mV 21 0,mV 22 0,cK 23 22,fA 24 3 23,lD 25 24,mV 26 1,iA 27 1 25 26,lD 28 27,mV 29 0,cK 30 29,fA 31 0 30,lD 32 31,o 33 (.bin 0 .mul (i 2) (t 32)),mV 34 10,o 35 (.bin 0 .add (t 33) (t 34)),iA 36 2 28 35,lA 37 2 36,o 38 (.call n0M [t 21,t 37] false),fA 39 2 6,lD 40 39,mV 41 10,iA 42 4 40 41,lA 43 4 42,o 44 (.call G0a [t 38,t 43] false),lA 45 4 7,o 46 (.call u0t [t 44,t 45] false),mV 20 46,o 47 (.ext (t 20) 0),o 48 (.ext (t 20) 1),o 11 (.alloc a0d [.bool false,.slice none 0 0,.bool false,.slice none 0 0]),
 ⟨none,none,.store 4 (t 11) (t 47)⟩,mV 12 48]
def A0f:SS:=[mV 49 9,lA 50 4 11,o 51 (.lit a0d [.bool false,.slice none 0 0,.bool false,.slice none 0 0] 1 [(0,4,t 50)]),o 52 (.app a0d 4 64 (t 49) (t 51)),mV 9 52]
def N0R:SS:=[o 53 (.bin 0 .add (t 17) (i 1)),mV 17 53]
def A0g:SS:=[mV 54 9,mV 8 54]
def H0P:SF:=⟨4,55,[.tmp 8],
 (qS (gR A0a) (qS (gR A0b) (qS (qS (gR A0c) (.block 0 (.loop (qS (gR N0Q) (qS (.cond (t 18) .skip (.exit 0)) (qS (.block 1 (qS (gR A0d) (qS (.draw A0e [0,0,2,6,14,0,62,126,0,256,768,1792,3840,0,16128,32766,65534,131071,0,262144,0,1835008,3932160,8388607,0,33554431,67108863,134217727,134217727,0,805306367,2147483647] []) (gR A0f)))) (gR N0R))))))) (qS (gR A0g) .ret))))⟩
def A0h:SS:=[mV 7 0,cK 8 7,fA 9 1 8,lD 10 9,o 11 (.mv (i 0))]
def N0S:SS:=[o 12 (.bin 0 .lss (t 11) (t 10))]
def A0i:SS:=[mV 13 11,mV 2 13]
def p0W:SS:=[mV 14 0,cK 15 14,fA 16 6 15,lD 17 16,mV 18 2,iA 19 1 17 18,lD 20 19,mV 21 0,cK 22 21,fA 23 2 22,lD 24 23,o 25 (.bin 0 .lss (t 20) (t 24))]
def A0j:SS:=[mV 26 0,cK 27 26,fA 28 2 27,lD 29 28,o 30 (.mv (i 0))]
def N0T:SS:=[o 31 (.bin 0 .lss (t 30) (t 29))]
def A0k:SS:=[mV 32 30,mV 3 32]
def A0l:SS:=[mV 33 0,cK 34 33,o 35 (.fa0 a0a (t 34)),lA 36 0 35,o 37 (.iface a0g (t 36)),mV 38 0,cK 39 38,fA 40 3 39,lD 41 40,mV 42 2,iA 43 1 41 42,lD 44 43,mV 45 3,iA 46 2 44 45,lA 47 2 46,o 48 (.inv (t 37) [(a0g,g0R),(a0h,g0T)] [t 47] true),mV 4 48]
def m0R:SS:=[mV 49 4,o 50 (.bin 0 .eql (t 49) (i 0))]
def p0X:SS:=[mV 51 4,o 52 (.bin 0 .lss (t 51) (i 0))]
def s0x:SS:=[mV 53 0,cK 54 53,fA 55 3 54,lD 56 55,mV 57 2,iA 58 1 56 57,lD 59 58,lN 60 59,o 61 (.mv (i 0))]
def G0P:SS:=[o 62 (.bin 0 .lss (t 61) (t 60))]
def s0y:SS:=[mV 63 61,iA 64 2 59 61,lA 65 2 64,o 6 (.alloc a0c [.bool false,.slice none 0 0]),mV 5 63,
 ⟨none,none,.store 2 (t 6) (t 65)⟩]
def s0z:SS:=[mV 66 0,cK 67 66,fA 68 3 67,lD 69 68,mV 70 2,iA 71 1 69 70,lD 72 71,mV 73 5,mV 74 0,cK 75 74,o 76 (.fa0 a0a (t 75)),lA 77 0 76,o 78 (.iface a0g (t 77)),lA 79 2 6,o 80 (.inv (t 78) [(a0g,g0Q),(a0h,g0S)] [t 79] false),iA 81 2 72 73,
 ⟨none,none,.store 2 (t 81) (t 80)⟩]
def G0Q:SS:=[o 82 (.bin 0 .add (t 61) (i 1)),mV 61 82]
def m0Q:SS:=[mV 83 0,mV 84 2,mV 85 3,o 86 (.call u0s [t 83,t 84,t 85] true)]
def G0R:SS:=[o 87 (.bin 0 .add (t 30) (i 1)),mV 30 87]
def G0S:SS:=[o 88 (.bin 0 .add (t 11) (i 1)),mV 11 88]
def H0Q:SF:=⟨1,89,[],
 (qS (gR A0h) (.block 0 (.loop (qS (gR N0S) (qS (.cond (t 12) .skip (.exit 0)) (qS (.block 1 (qS (gR A0i) (qS (qS (.draw p0W [0,1,3,7,0,31,63,0,128,384,896,2047] []) (.cond (t 25) (.exit 1) .skip)) (qS (gR A0j) (.block 2 (.loop (qS (gR N0T) (qS (.cond (t 31) .skip (.exit 2)) (qS (.block 3 (qS (gR A0k) (qS (.draw A0l [0,1,3,7,15,0,32,96,224,0,992,2016,0,8160,16352,32767,65535] []) (qS (qS (gR m0R) (.cond (t 50) (.exit 3) .skip)) (qS (qS (gR p0X) (.cond (t 52) (qS (gR s0x) (.block 4 (.loop (qS (gR G0P) (qS (.cond (t 62) .skip (.exit 4)) (qS (.block 5 (qS (gR s0y) (.draw s0z [0,1,3,7,0,31,63,0,0,256,768,1792,3840,0,16128,32767,65535] []))) (gR G0Q))))))) .skip)) (qS (gR m0Q) (.exit 2))))))) (gR G0R)))))))))) (gR G0S)))))))⟩
def A0m:SS:=[o 4 (.mv (.const (.slice none 0 0)))]
def A0n:SS:=[mV 9 0,cK 10 9,fA 11 0 10,lD 12 11,o 13 (.mk a0d 64 [.bool false,.slice none 0 0,.bool false,.slice none 0 0] (t 12) (t 12)),mV 5 13]
def A0o:SS:=[mV 14 5,lN 15 14,o 16 (.mv (i 0))]
def N0U:SS:=[o 17 (.bin 0 .lss (t 16) (t 15))]
def A0p:SS:=[mV 18 16,mV 6 18]
def A0q:SS:=[mV 19 5,mV 20 6,o 21 (.call l0Y [i 0] true),iA 22 4 19 20,
 ⟨none,none,.store 4 (t 22) (t 21)⟩]
def N0V:SS:=[o 23 (.bin 0 .add (t 16) (i 1)),mV 16 23]
def A0r:SS:=[mV 24 0,cK 25 24,fA 26 6 25,lD 27 26,lN 28 27,o 29 (.mv (i 0))]
def N0W:SS:=[o 30 (.bin 0 .lss (t 29) (t 28))]
def A0s:SS:=[mV 31 29,iA 32 1 27 29,lD 33 32,mV 7 31,mV 8 33]
def s0A:SS:=[mV 35 8,mV 36 0,cK 37 36,fA 38 0 37,lD 39 38,o 40 (.bin 0 .lss (t 35) (t 39)),mV 34 40]
def s0B:SS:=[mV 41 5,mV 42 8,mV 43 5,mV 44 8,iA 45 4 43 44,lA 46 4 45,mV 47 0,mV 48 1,mV 49 7,o 50 (.callv (t 48) [t 49] false),o 51 (.call n0M [t 47,t 50] false),o 52 (.call n0R [t 46,t 51] true),iA 53 4 41 42,
 ⟨none,none,.store 4 (t 53) (t 52)⟩]
def s0C:SS:=[mV 55 8,mV 56 0,cK 57 56,fA 58 0 57,lD 59 58,o 60 (.bin 0 .mul (i 2) (t 59)),o 61 (.bin 0 .lss (t 55) (t 60)),mV 54 61]
def s0D:SS:=[mV 62 5,mV 63 8,mV 64 0,cK 65 64,fA 66 0 65,lD 67 66,o 68 (.bin 0 .sub (t 63) (t 67)),mV 69 5,mV 70 8,mV 71 0,cK 72 71,fA 73 0 72,lD 74 73,o 75 (.bin 0 .sub (t 70) (t 74)),iA 76 4 69 75,lA 77 4 76,mV 78 0,mV 79 1,mV 80 7,o 81 (.callv (t 79) [t 80] false),o 82 (.call n0M [t 78,t 81] false),o 83 (.call n0N [t 77,t 82] false),iA 84 4 62 68,
 ⟨none,none,.store 4 (t 84) (t 83)⟩]
def G0T:SS:=[o 85 (.bin 0 .add (t 29) (i 1)),mV 29 85]
def s0E:SS:=[mV 86 5,mV 4 86]
def H0R:SF:=⟨2,87,[.tmp 4],
 (qS (gR A0m) (qS (gR A0n) (qS (qS (gR A0o) (.block 0 (.loop (qS (gR N0U) (qS (.cond (t 17) .skip (.exit 0)) (qS (.block 1 (qS (gR A0p) (gR A0q))) (gR N0V))))))) (qS (qS (gR A0r) (.block 2 (.loop (qS (gR N0W) (qS (.cond (t 30) .skip (.exit 2)) (qS (.block 3 (qS (gR A0s) (.block 4 (qS (gR s0A) (.cond (t 34) (.draw s0B [0,0,0,0,12,28,0,0,0,384,960,2044,4095,8191] []) (qS (gR s0C) (.cond (t 54) (.draw s0D [0,0,0,4,12,28,62,0,0,0,512,1536,3584,7936,16256,32640,0,0,0,393216,983040,2097024,4194303,8388607] []) .skip))))))) (gR G0T))))))) (qS (gR s0E) .ret)))))⟩
def A0t:SS:=[o 3 (.alloc a0c [.bool false,.slice none 0 0])]
def A0u:SS:=[lD 4 1,cK 5 4,fA 6 3 5,lD 7 6,mV 8 0,iA 9 1 7 8,lD 10 9,lD 11 1,cK 12 11,fA 13 2 12,lD 14 13,iA 15 2 10 14,lA 16 2 15,
 ⟨none,none,.store 2 (t 3) (t 16)⟩]
def H0S:SF:=⟨2,17,[.cell 3 true 2],
 (qS (gR A0t) (qS (.draw A0u [0,1,3,7,0,31,63,0,128,384,896,2047,4095,8191] []) .ret))⟩
def N0X:SS:=[o 2 (.box a0o (t 0)),o 3 (.box d0z (t 1)),o 4 (.mv (.const (.slice none 0 0)))]
def N0Y:SS:=[lD 6 2,o 7 (.mkfn (.func N0l) [] [t 2,t 3]),o 8 (.call u0n [t 6,t 7] true),mV 5 8]
def N0Z:SS:=[lD 10 3,lD 11 2,cK 12 11,fA 13 0 12,lD 14 13,o 15 (.bin 0 .lss (t 10) (t 14)),mV 9 15]
def O0a:SS:=[mV 16 5,lD 17 3,mV 18 5,lD 19 3,iA 20 4 18 19,lA 21 4 20,o 22 (.call l0Y [i 1] false),o 23 (.call n0R [t 21,t 22] false),iA 24 4 16 17,
 ⟨none,none,.store 4 (t 24) (t 23)⟩]
def O0b:SS:=[lD 26 3,lD 27 2,cK 28 27,fA 29 0 28,lD 30 29,o 31 (.bin 0 .mul (i 2) (t 30)),o 32 (.bin 0 .lss (t 26) (t 31)),mV 25 32]
def O0c:SS:=[mV 33 5,lD 34 3,lD 35 2,cK 36 35,fA 37 0 36,lD 38 37,o 39 (.bin 0 .sub (t 34) (t 38)),mV 40 5,lD 41 3,lD 42 2,cK 43 42,fA 44 0 43,lD 45 44,o 46 (.bin 0 .sub (t 41) (t 45)),iA 47 4 40 46,lA 48 4 47,o 49 (.call l0Y [i 1] false),o 50 (.call n0N [t 48,t 49] false),iA 51 4 33 39,
 ⟨none,none,.store 4 (t 51) (t 50)⟩]
def O0d:SS:=[mV 52 5,mV 4 52]
def R0S:SF:=⟨2,53,[.tmp 4],
 (qS (gR N0X) (qS (gR N0Y) (qS (.block 0 (qS (.draw N0Z [0,0,2,6,14,31,63] []) (.cond (t 9) (.draw O0a [0,0,0,0,12,28,0,124,255,511] []) (qS (.draw O0b [0,0,2,6,14,30,63,127] []) (.cond (t 25) (.draw O0c [0,0,0,4,12,28,62,0,0,0,512,1536,3584,7936,16256,32640,0,130944,262143,524287] []) .skip))))) (qS (gR O0d) .ret))))⟩
def A0v:SS:=[o 1 (.box a0c (t 0)),o 2 (.alloc a0c [.bool false,.slice none 0 0])]
def A0w:SS:=[lA 3 2 1,o 4 (.call d0M [t 3] false),o 5 (.un .not (t 4)),lA 6 2 1,o 7 (.call f0k [t 6] true),o 8 (.call f0F [t 5,t 7] true),
 ⟨none,none,.store 2 (t 2) (t 8)⟩]
def H0T:SF:=⟨1,9,[.cell 2 true 2],
 (qS (gR A0v) (qS (.draw A0w [0,1,3,0,11,31,63] []) .ret))⟩
def A0x:SS:=[o 2 (.box a0c (t 0)),o 3 (.box a0c (t 1)),o 4 (.alloc a0c [.bool false,.slice none 0 0]),o 5 (.alloc a0c [.bool false,.slice none 0 0]),o 6 (.mv (i 0))]
def A0y:SS:=[lA 13 2 2,o 14 (.call f0k [t 13] false),lA 15 2 3,o 16 (.call f0k [t 15] true),mV 7 14,mV 8 16]
def A0z:SS:=[mV 18 8,lN 19 18,o 20 (.bin 0 .eql (t 19) (i 0)),mV 17 20]
def O0e:SS:=[o 21 (.build [.bool false,.slice none 0 0] []),o 22 (.build [.bool false,.slice none 0 0] []),
 ⟨none,none,.store 2 (t 4) (t 21)⟩,
 ⟨none,none,.store 2 (t 5) (t 22)⟩,o 6 (.mv (i 1))]
def A0A:SS:=[mV 24 7,mV 25 8,o 26 (.call n0I [t 24,t 25] true),o 27 (.bin 0 .lss (t 26) (i 0)),mV 23 27]
def A0B:SS:=[o 28 (.build [.bool false,.slice none 0 0] []),lA 29 2 2,o 30 (.call d0M [t 29] true),mV 31 7,o 32 (.call f0F [t 30,t 31] true),
 ⟨none,none,.store 2 (t 4) (t 28)⟩,
 ⟨none,none,.store 2 (t 5) (t 32)⟩,o 6 (.mv (i 0))]
def p0Y:SS:=[mV 34 8,lN 35 34,o 36 (.bin 0 .eql (t 35) (i 1)),mV 33 36]
def A0C:SS:=[mV 38 7,mV 39 8,o 40 (.ia 1 (t 39) (i 0)),lD 41 40,o 42 (.call w0g [t 38,t 41] true),mV 37 42,o 43 (.ext (t 37) 0),o 44 (.ext (t 37) 1),mV 9 43,mV 10 44]
def A0D:SS:=[lA 45 2 2,o 46 (.call d0M [t 45] false),lA 47 2 3,o 48 (.call d0M [t 47] false),o 49 (.bin 1 .neq (t 46) (t 48)),mV 50 9,o 51 (.call f0F [t 49,t 50] false),lA 52 2 2,o 53 (.call d0M [t 52] false),mV 54 10,o 55 (.lit a0m [.int .u32 0] 1 [(0,1,t 54)]),o 56 (.call f0F [t 53,t 55] true),
 ⟨none,none,.store 2 (t 4) (t 51)⟩,
 ⟨none,none,.store 2 (t 5) (t 56)⟩,o 6 (.mv (i 0))]
def A0E:SS:=[mV 58 7,mV 59 8,o 60 (.call w0h [t 58,t 59] true),mV 57 60,o 61 (.ext (t 57) 0),o 62 (.ext (t 57) 1),mV 11 61,mV 12 62]
def s0F:SS:=[lA 63 2 2,o 64 (.call d0M [t 63] false),lA 65 2 3,o 66 (.call d0M [t 65] false),o 67 (.bin 1 .neq (t 64) (t 66)),mV 68 11,o 69 (.call f0F [t 67,t 68] false),lA 70 2 2,o 71 (.call d0M [t 70] true),mV 72 12,o 73 (.call f0F [t 71,t 72] true),
 ⟨none,none,.store 2 (t 4) (t 69)⟩,
 ⟨none,none,.store 2 (t 5) (t 73)⟩,o 6 (.mv (i 0))]
def H0U:SF:=⟨2,74,[.cell 4 true 2,.cell 5 true 2,.tmp 6],
 (qS (gR A0x) (qS (.draw A0y [0,1,0,7,15,31] []) (qS (.block 0 (qS (gR A0z) (.cond (t 17) (qS (gR O0e) .ret) (qS (gR A0A) (.cond (t 23) (qS (gR A0B) .ret) (qS (gR p0Y) (.cond (t 33) (qS (gR A0C) (qS (.draw A0D [0,1,0,7,15,0,63,0,255,0,512,2047,4095,8191,16383] []) .ret)) .skip))))))) (qS (gR A0E) (qS (.draw s0F [0,1,0,7,15,0,63,0,255,0,1023,2047,4095,8191] []) .ret)))))⟩
def A0F:SS:=[o 2 (.mv (.const (.slice none 0 0)))]
def A0G:SS:=[mV 3 0,o 4 (.bin 2 .eql (t 3) (.const (.slice none 0 0)))]
def A0H:SS:=[o 2 (.mv (.const (.slice none 0 0)))]
def A0I:SS:=[o 5 (.lit a0m [.int .u32 0] 0 []),mV 6 0,o 7 (.app a0m 1 4 (t 5) (t 6)),mV 2 7]
def H0V:SF:=⟨1,8,[.tmp 2],
 (qS (gR A0F) (qS (qS (gR A0G) (.cond (t 4) (qS (gR A0H) .ret) .skip)) (qS (gR A0I) .ret)))⟩
def A0J:SS:=[o 4 (.mv (i 0))]
def A0K:SS:=[mV 6 0,mV 7 1,o 8 (.bin 0 .lss (t 6) (t 7)),mV 5 8]
def A0L:SS:=[o 4 (.mv (.const (.int .i64 (-1))))]
def A0M:SS:=[mV 10 0,mV 11 1,o 12 (.bin 0 .gtr (t 10) (t 11)),mV 9 12]
def A0N:SS:=[o 4 (.mv (i 1))]
def A0O:SS:=[o 4 (.mv (i 0))]
def H0W:SF:=⟨2,13,[.tmp 4],
 (qS (gR A0J) (qS (.block 0 (qS (gR A0K) (.cond (t 5) (qS (gR A0L) .ret) (qS (gR A0M) (.cond (t 9) (qS (gR A0N) .ret) .skip))))) (qS (gR A0O) .ret)))⟩
def A0P:SS:=[o 4 (.mv (i 0))]
def A0Q:SS:=[mV 6 0,mV 7 1,o 8 (.bin 0 .lss (t 6) (t 7)),mV 5 8]
def A0R:SS:=[o 4 (.mv (.const (.int .i64 (-1))))]
def A0S:SS:=[mV 10 0,mV 11 1,o 12 (.bin 0 .gtr (t 10) (t 11)),mV 9 12]
def A0T:SS:=[o 4 (.mv (i 1))]
def A0U:SS:=[o 4 (.mv (i 0))]
def H0X:SF:=⟨2,13,[.tmp 4],
 (qS (gR A0P) (qS (.block 0 (qS (gR A0Q) (.cond (t 5) (qS (gR A0R) .ret) (qS (gR A0S) (.cond (t 9) (qS (gR A0T) .ret) .skip))))) (qS (gR A0U) .ret)))⟩
def A0V:SS:=[o 2 (.box a0h (t 0)),o 3 (.box a0q (t 1)),o 4 (.mv (.const (.pointer none)))]
def A0W:SS:=[fA 22 1 3,lD 23 22,lN 24 23,mV 5 24]
def A0X:SS:=[lA 25 0 2,fA 26 0 3,lD 27 26,mV 28 5,fA 29 0 3,lD 30 29,o 31 (.bin 0 .mul (i 2) (t 30)),mV 32 5,o 33 (.bin 0 .add (t 31) (t 32)),lA 34 0 2,o 35 (.iface a0h (t 34)),o 36 (.call i0f [i 1] false),o 37 (.inv (t 35) [(a0g,f0G),(a0h,f0m)] [t 36] false),o 38 (.build [.int .i64 0,.int .i64 0,.int .i64 0,.slice none 0 0,.int .i64 0,.slice none 0 0,.int .i64 0] [(0,0,t 25),(0,1,t 27),(1,1,t 28),(2,1,t 33),(4,1,t 37)]),o 39 (.box a0b (t 38)),o 6 (.alloc a0p [.pointer none]),
 ⟨none,none,.store 1 (t 6) (t 39)⟩]
def A0Y:SS:=[lA 40 0 2,o 41 (.iface a0h (t 40)),o 42 (.build [.bool false,.slice none 0 0] []),o 43 (.inv (t 41) [(a0g,f0G),(a0h,f0m)] [t 42] true),o 7 (.alloc b0N [.int .i64 0]),
 ⟨none,none,.store 1 (t 7) (t 43)⟩]
def A0Z:SS:=[o 44 (.mkfn (.func k0K) [] [t 6,t 7]),mV 8 44]
def B0a:SS:=[mV 45 8,o 46 (.callv (t 45) [] true),mV 47 8,o 48 (.callv (t 47) [] true),mV 9 46,mV 10 48]
def B0b:SS:=[fA 49 3 3,lD 50 49,lN 51 50,o 52 (.mv (i 0))]
def O0f:SS:=[o 53 (.bin 0 .lss (t 52) (t 51))]
def B0c:SS:=[mV 54 52,iA 55 2 50 52,lA 56 2 55,o 12 (.alloc a0c [.bool false,.slice none 0 0]),mV 11 54,
 ⟨none,none,.store 2 (t 12) (t 56)⟩]
def B0d:SS:=[lA 57 0 2,o 58 (.iface a0h (t 57)),lA 59 2 12,o 60 (.inv (t 58) [(a0g,f0G),(a0h,f0m)] [t 59] true),mV 13 60]
def s0G:SS:=[mV 61 10,mV 62 11,mV 63 10,fA 64 0 3,lD 65 64,mV 66 11,o 67 (.bin 0 .add (t 65) (t 66)),lA 68 0 2,o 69 (.iface a0h (t 68)),mV 70 13,o 71 (.inv (t 69) [(a0g,g0Q),(a0h,g0S)] [t 70] false),mV 72 13,iA 73 1 61 62,
 ⟨none,none,.store 1 (t 73) (t 71)⟩,iA 74 1 63 67,
 ⟨none,none,.store 1 (t 74) (t 72)⟩]
def G0U:SS:=[o 75 (.bin 0 .add (t 52) (i 1)),mV 52 75]
def s0H:SS:=[fA 76 1 3,lD 77 76,lN 78 77,o 79 (.mv (i 0))]
def G0V:SS:=[o 80 (.bin 0 .lss (t 79) (t 78))]
def s0I:SS:=[mV 81 79,iA 82 1 77 79,lD 83 82,mV 14 81,mV 15 83]
def s0J:SS:=[mV 84 8,o 85 (.callv (t 84) [] true),mV 16 85]
def s0K:SS:=[mV 86 15,fA 87 0 3,lD 88 87,o 89 (.sl a0c 2 (t 86) none (some (t 88)) none),lN 90 89,o 91 (.mv (i 0))]
def G0W:SS:=[o 92 (.bin 0 .lss (t 91) (t 90))]
def s0L:SS:=[mV 93 91,iA 94 2 89 91,lA 95 2 94,o 18 (.alloc a0c [.bool false,.slice none 0 0]),mV 17 93,
 ⟨none,none,.store 2 (t 18) (t 95)⟩]
def s0M:SS:=[lA 96 0 2,o 97 (.iface a0h (t 96)),lA 98 2 18,o 99 (.inv (t 97) [(a0g,f0G),(a0h,f0m)] [t 98] true),mV 19 99]
def s0N:SS:=[mV 100 16,mV 101 17,mV 102 16,fA 103 0 3,lD 104 103,mV 105 17,o 106 (.bin 0 .add (t 104) (t 105)),mV 107 19,lA 108 0 2,o 109 (.iface a0h (t 108)),mV 110 19,o 111 (.inv (t 109) [(a0g,g0Q),(a0h,g0S)] [t 110] false),iA 112 1 100 101,
 ⟨none,none,.store 1 (t 112) (t 107)⟩,iA 113 1 102 106,
 ⟨none,none,.store 1 (t 113) (t 111)⟩]
def G0X:SS:=[o 114 (.bin 0 .add (t 91) (i 1)),mV 91 114]
def s0O:SS:=[mV 115 16,fA 116 0 3,lD 117 116,o 118 (.bin 0 .mul (i 2) (t 117)),mV 119 14,o 120 (.bin 0 .add (t 118) (t 119)),lD 121 6,cK 122 121,fA 123 4 122,lD 124 123,iA 125 1 115 120,
 ⟨none,none,.store 1 (t 125) (t 124)⟩]
def s0P:SS:=[mV 126 16,lD 127 6,cK 128 127,fA 129 2 128,lD 130 129,lA 131 0 2,o 132 (.iface a0h (t 131)),mV 133 15,fA 134 0 3,lD 135 134,iA 136 2 133 135,lA 137 2 136,o 138 (.inv (t 132) [(a0g,f0G),(a0h,f0m)] [t 137] false),iA 139 1 126 130,
 ⟨none,none,.store 1 (t 139) (t 138)⟩]
def s0Q:SS:=[fA 140 0 3,lD 141 140,o 142 (.bin 0 .mul (i 2) (t 141)),mV 143 14,o 144 (.bin 0 .add (t 142) (t 143)),mV 20 144]
def s0R:SS:=[lA 145 0 2,o 146 (.iface a0h (t 145)),mV 147 16,lD 148 6,cK 149 148,fA 150 2 149,lD 151 150,iA 152 1 147 151,lD 153 152,o 154 (.inv (t 146) [(a0g,g0R),(a0h,g0T)] [t 153] true),o 155 (.bin 0 .lss (t 154) (i 0))]
def s0S:SS:=[lD 156 6,cK 157 156,fA 158 2 157,lD 159 158,mV 160 14,o 161 (.bin 0 .add (t 159) (t 160)),mV 20 161]
def s0T:SS:=[mV 162 16,lN 163 162,o 164 (.mv (i 0))]
def G0Y:SS:=[o 165 (.bin 0 .lss (t 164) (t 163))]
def s0U:SS:=[mV 166 164,mV 21 166]
def s0V:SS:=[mV 167 16,mV 168 21,lA 169 0 2,o 170 (.iface a0h (t 169)),mV 171 16,mV 172 21,iA 173 1 171 172,lD 174 173,o 175 (.inv (t 170) [(a0g,g0Q),(a0h,g0S)] [t 174] true),iA 176 1 167 168,
 ⟨none,none,.store 1 (t 176) (t 175)⟩]
def s0W:SS:=[mV 177 9,mV 178 21,lD 179 6,mV 180 9,mV 181 21,iA 182 1 180 181,lD 183 182,mV 184 16,mV 185 21,iA 186 1 184 185,lD 187 186,o 188 (.call u0u [t 179,t 183,t 187] true),iA 189 1 177 178,
 ⟨none,none,.store 1 (t 189) (t 188)⟩]
def G0Z:SS:=[o 190 (.bin 0 .add (t 164) (i 1)),mV 164 190]
def m0S:SS:=[lD 191 6,lD 192 6,lD 193 6,cK 194 193,fA 195 3 194,lD 196 195,mV 197 16,o 198 (.lit b0L [.slice none 0 0] 1 [(0,1,t 197)]),o 199 (.app b0L 1 24 (t 196) (t 198)),lD 200 6,cK 201 200,fA 202 5 201,lD 203 202,mV 204 20,o 205 (.lit d0z [.int .i64 0] 1 [(0,1,t 204)]),o 206 (.app d0z 1 8 (t 203) (t 205)),cK 207 191,fA 208 3 207,
 ⟨none,none,.store 1 (t 208) (t 199)⟩,cK 209 192,fA 210 5 209,
 ⟨none,none,.store 1 (t 210) (t 206)⟩]
def H0a:SS:=[o 211 (.bin 0 .add (t 79) (i 1)),mV 79 211]
def s0X:SS:=[lD 212 6,lD 213 6,cK 214 213,fA 215 3 214,lD 216 215,mV 217 9,mV 218 10,o 219 (.lit b0L [.slice none 0 0] 2 [(0,1,t 217),(1,1,t 218)]),o 220 (.app b0L 1 24 (t 216) (t 219)),cK 221 212,fA 222 3 221,
 ⟨none,none,.store 1 (t 222) (t 220)⟩]
def s0Y:SS:=[lD 223 6,mV 4 223]
def H0Y:SF:=⟨2,224,[.tmp 4],
 (qS (gR A0V) (qS (gR A0W) (qS (.draw A0X [0,0,2,0,0,16,48,0,240,0,512,0,3584,8191,16383,0,65535] []) (qS (gR A0Y) (qS (gR A0Z) (qS (gR B0a) (qS (qS (gR B0b) (.block 0 (.loop (qS (gR O0f) (qS (.cond (t 53) .skip (.exit 0)) (qS (.block 1 (qS (gR B0c) (qS (gR B0d) (.draw s0G [0,0,0,0,8,0,56,0,128,0,896,0,1923,6019,16383,32767] [(4,13)])))) (gR G0U))))))) (qS (qS (gR s0H) (.block 2 (.loop (qS (gR G0V) (qS (.cond (t 80) .skip (.exit 2)) (qS (.block 3 (qS (gR s0I) (qS (gR s0J) (qS (qS (gR s0K) (.block 4 (.loop (qS (gR G0W) (qS (.cond (t 92) .skip (.exit 4)) (qS (.block 5 (qS (gR s0L) (qS (gR s0M) (.draw s0N [0,0,0,0,8,0,56,0,0,256,0,1792,3971,8067,16383,32767] [(4,13)])))) (gR G0X))))))) (qS (.draw s0O [0,0,2,6,0,30,0,64,192,448,1023,2047] []) (qS (.draw s0P [0,0,2,6,14,0,32,0,0,256,896,1920,4064,8191,16383] []) (qS (gR s0Q) (qS (qS (.draw s0R [0,1,0,0,8,24,56,124,252,511,1023] []) (.cond (t 155) (qS (gR s0S) (qS (gR s0T) (.block 6 (.loop (qS (gR G0Y) (qS (.cond (t 165) .skip (.exit 6)) (qS (.block 7 (qS (gR s0U) (qS (.draw s0V [0,0,0,4,0,0,48,112,252,511,1023] []) (.draw s0W [0,0,0,0,0,24,56,0,0,384,896,2044,4095,8191] [])))) (gR G0Z)))))))) .skip)) (.draw m0S [0,0,0,4,12,28,0,64,252,0,512,1536,3584,0,8192,32764,65533,131069,262141,524287,1048575,2097151] [(0,8),(1,8),(8,9),(8,12),(8,14),(0,15),(1,15),(1,18)]))))))))) (gR H0a))))))) (qS (.draw s0X [0,0,2,6,14,0,0,96,254,511,1023,2047] [(0,8)]) (qS (gR s0Y) .ret))))))))))⟩
def B0e:SS:=[o 4 (.mv (i 0))]
def B0f:SS:=[o 5 (.mv (i 0))]
def p0Z:SS:=[mV 7 5,mV 8 0,cK 9 8,fA 10 2 9,lD 11 10,o 12 (.bin 0 .lss (t 7) (t 11)),mV 13 12,og 14 13 true (.mv (t 0)),og 15 13 true (.chk (t 14)),og 16 13 true (.fa0 a0b (t 15)),og 17 13 true (.load true 0 (t 16)),og 18 13 true (.iface a0h (t 17)),og 19 13 true (.mv (t 0)),og 20 13 true (.chk (t 19)),og 21 13 true (.fa 3 (t 20)),og 22 13 true (.load false 1 (t 21)),og 23 13 true (.mv (t 1)),og 24 13 true (.ia 1 (t 22) (t 23)),og 25 13 true (.load false 1 (t 24)),og 26 13 true (.mv (t 5)),og 27 13 true (.ia 1 (t 25) (t 26)),og 28 13 true (.load false 1 (t 27)),og 29 13 true (.inv (t 18) [(a0g,g0R),(a0h,g0T)] [t 28] true),og 30 13 true (.bin 0 .geq (t 29) (i 0)),o 31 (.pick (t 13) (t 30) (.const (.bool false)))]
def B0g:SS:=[mV 32 5,o 33 (.bin 0 .add (t 32) (i 1)),mV 5 33]
def q0a:SS:=[mV 34 5,mV 35 0,cK 36 35,fA 37 2 36,lD 38 37,o 39 (.bin 0 .eql (t 34) (t 38))]
def B0h:SS:=[o 4 (.mv (.const (.int .i64 (-1))))]
def B0i:SS:=[mV 40 0,mV 41 5,o 42 (.call w0i [t 40,t 41] true),mV 6 42]
def q0b:SS:=[mV 43 6,o 44 (.bin 0 .lss (t 43) (i 0))]
def B0j:SS:=[mV 45 5,mV 4 45]
def B0k:SS:=[mV 46 0,mV 47 6,mV 48 5,o 49 (.call u0v [t 46,t 47,t 48] true)]
def H0Z:SF:=⟨2,50,[.tmp 4],
 (qS (gR B0e) (.block 0 (.loop (.block 1 (qS (gR B0f) (qS (.block 2 (.loop (qS (qS (.draw p0Z [0,0,2,6,14,31,63,127,255,511,1023,2047,127,4223,12415,28799,127,127103,258175,127,1044607,2093183,4194303,8388607,16777215] []) (.cond (t 31) .skip (.exit 2))) (.block 3 (gR B0g))))) (qS (qS (gR q0a) (.cond (t 39) (qS (gR B0h) .ret) .skip)) (qS (gR B0i) (qS (qS (gR q0b) (.cond (t 44) (qS (gR B0j) .ret) .skip)) (gR B0k))))))))))⟩
def B0l:SS:=[o 6 (.box a0q (t 2)),o 7 (.box a0d (t 3)),o 8 (.mv (.const (.slice none 0 0)))]
def B0m:SS:=[o 9 (.mv (.const (.slice none 0 0)))]
def B0n:SS:=[mV 13 0,cK 14 13,fA 15 1 14,lD 16 15,o 17 (.mv (i 0))]
def O0g:SS:=[o 18 (.bin 0 .lss (t 17) (t 16))]
def B0o:SS:=[mV 19 17,mV 10 19]
def B0p:SS:=[mV 21 0,mV 22 0,cK 23 22,fA 24 3 23,lD 25 24,mV 26 1,iA 27 1 25 26,lD 28 27,mV 29 0,cK 30 29,fA 31 0 30,lD 32 31,o 33 (.bin 0 .mul (i 2) (t 32)),mV 34 10,o 35 (.bin 0 .add (t 33) (t 34)),iA 36 1 28 35,lD 37 36,o 38 (.call n0O [t 21,t 37] false),fA 39 2 6,lD 40 39,mV 41 10,iA 42 4 40 41,lA 43 4 42,o 44 (.call G0a [t 38,t 43] false),lA 45 4 7,o 46 (.call u0t [t 44,t 45] false),mV 20 46,o 47 (.ext (t 20) 0),o 48 (.ext (t 20) 1),o 11 (.alloc a0d [.bool false,.slice none 0 0,.bool false,.slice none 0 0]),
 ⟨none,none,.store 4 (t 11) (t 47)⟩,mV 12 48]
def B0q:SS:=[mV 49 9,lA 50 4 11,o 51 (.lit a0d [.bool false,.slice none 0 0,.bool false,.slice none 0 0] 1 [(0,4,t 50)]),o 52 (.app a0d 4 64 (t 49) (t 51)),mV 9 52]
def O0h:SS:=[o 53 (.bin 0 .add (t 17) (i 1)),mV 17 53]
def B0r:SS:=[mV 54 9,mV 8 54]
def I0a:SF:=⟨4,55,[.tmp 8],
 (qS (gR B0l) (qS (gR B0m) (qS (qS (gR B0n) (.block 0 (.loop (qS (gR O0g) (qS (.cond (t 18) .skip (.exit 0)) (qS (.block 1 (qS (gR B0o) (qS (.draw B0p [0,0,2,6,14,0,62,126,0,256,768,1792,3840,0,16128,32766,65534,131071,0,262144,0,1835008,3932160,8388607,0,33554431,67108863,134217727,134217727,0,805306367,2147483647] []) (gR B0q)))) (gR O0h))))))) (qS (gR B0r) .ret))))⟩
def B0s:SS:=[mV 7 0,cK 8 7,fA 9 1 8,lD 10 9,o 11 (.mv (i 0))]
def O0i:SS:=[o 12 (.bin 0 .lss (t 11) (t 10))]
def B0t:SS:=[mV 13 11,mV 2 13]
def q0c:SS:=[mV 14 0,cK 15 14,fA 16 5 15,lD 17 16,mV 18 2,iA 19 1 17 18,lD 20 19,mV 21 0,cK 22 21,fA 23 2 22,lD 24 23,o 25 (.bin 0 .lss (t 20) (t 24))]
def B0u:SS:=[mV 26 0,cK 27 26,fA 28 2 27,lD 29 28,o 30 (.mv (i 0))]
def O0j:SS:=[o 31 (.bin 0 .lss (t 30) (t 29))]
def B0v:SS:=[mV 32 30,mV 3 32]
def B0w:SS:=[mV 33 0,cK 34 33,o 35 (.fa0 a0b (t 34)),lA 36 0 35,o 37 (.iface a0h (t 36)),mV 38 0,cK 39 38,fA 40 3 39,lD 41 40,mV 42 2,iA 43 1 41 42,lD 44 43,mV 45 3,iA 46 1 44 45,lD 47 46,o 48 (.inv (t 37) [(a0g,g0R),(a0h,g0T)] [t 47] true),mV 4 48]
def m0U:SS:=[mV 49 4,o 50 (.bin 0 .eql (t 49) (i 0))]
def q0d:SS:=[mV 51 4,o 52 (.bin 0 .lss (t 51) (i 0))]
def s0Z:SS:=[mV 53 0,cK 54 53,fA 55 3 54,lD 56 55,mV 57 2,iA 58 1 56 57,lD 59 58,lN 60 59,o 61 (.mv (i 0))]
def H0b:SS:=[o 62 (.bin 0 .lss (t 61) (t 60))]
def t0a:SS:=[mV 63 61,iA 64 1 59 61,lD 65 64,mV 5 63,mV 6 65]
def t0b:SS:=[mV 66 0,cK 67 66,fA 68 3 67,lD 69 68,mV 70 2,iA 71 1 69 70,lD 72 71,mV 73 5,mV 74 0,cK 75 74,o 76 (.fa0 a0b (t 75)),lA 77 0 76,o 78 (.iface a0h (t 77)),mV 79 6,o 80 (.inv (t 78) [(a0g,g0Q),(a0h,g0S)] [t 79] false),iA 81 1 72 73,
 ⟨none,none,.store 1 (t 81) (t 80)⟩]
def H0c:SS:=[o 82 (.bin 0 .add (t 61) (i 1)),mV 61 82]
def m0T:SS:=[mV 83 0,mV 84 2,mV 85 3,o 86 (.call u0v [t 83,t 84,t 85] true)]
def H0d:SS:=[o 87 (.bin 0 .add (t 30) (i 1)),mV 30 87]
def H0e:SS:=[o 88 (.bin 0 .add (t 11) (i 1)),mV 11 88]
def I0b:SF:=⟨1,89,[],
 (qS (gR B0s) (.block 0 (.loop (qS (gR O0i) (qS (.cond (t 12) .skip (.exit 0)) (qS (.block 1 (qS (gR B0t) (qS (qS (.draw q0c [0,1,3,7,0,31,63,0,128,384,896,2047] []) (.cond (t 25) (.exit 1) .skip)) (qS (gR B0u) (.block 2 (.loop (qS (gR O0j) (qS (.cond (t 31) .skip (.exit 2)) (qS (.block 3 (qS (gR B0v) (qS (.draw B0w [0,1,3,7,15,0,32,96,224,0,992,2016,0,8160,16352,32767,65535] []) (qS (qS (gR m0U) (.cond (t 50) (.exit 3) .skip)) (qS (qS (gR q0d) (.cond (t 52) (qS (gR s0Z) (.block 4 (.loop (qS (gR H0b) (qS (.cond (t 62) .skip (.exit 4)) (qS (.block 5 (qS (gR t0a) (.draw t0b [0,1,3,7,0,31,63,0,0,256,768,1792,3840,0,16128,32767,65535] []))) (gR H0c))))))) .skip)) (qS (gR m0T) (.exit 2))))))) (gR H0d)))))))))) (gR H0e)))))))⟩
def B0x:SS:=[o 4 (.mv (.const (.slice none 0 0)))]
def B0y:SS:=[mV 9 0,cK 10 9,fA 11 0 10,lD 12 11,o 13 (.mk a0d 64 [.bool false,.slice none 0 0,.bool false,.slice none 0 0] (t 12) (t 12)),mV 5 13]
def B0z:SS:=[mV 14 5,lN 15 14,o 16 (.mv (i 0))]
def O0k:SS:=[o 17 (.bin 0 .lss (t 16) (t 15))]
def B0A:SS:=[mV 18 16,mV 6 18]
def B0B:SS:=[mV 19 5,mV 20 6,o 21 (.call l0Y [i 0] true),iA 22 4 19 20,
 ⟨none,none,.store 4 (t 22) (t 21)⟩]
def O0l:SS:=[o 23 (.bin 0 .add (t 16) (i 1)),mV 16 23]
def B0C:SS:=[mV 24 0,cK 25 24,fA 26 5 25,lD 27 26,lN 28 27,o 29 (.mv (i 0))]
def O0m:SS:=[o 30 (.bin 0 .lss (t 29) (t 28))]
def B0D:SS:=[mV 31 29,iA 32 1 27 29,lD 33 32,mV 7 31,mV 8 33]
def t0c:SS:=[mV 35 8,mV 36 0,cK 37 36,fA 38 0 37,lD 39 38,o 40 (.bin 0 .lss (t 35) (t 39)),mV 34 40]
def t0d:SS:=[mV 41 5,mV 42 8,mV 43 5,mV 44 8,iA 45 4 43 44,lA 46 4 45,mV 47 0,mV 48 1,mV 49 7,o 50 (.callv (t 48) [t 49] false),o 51 (.call n0O [t 47,t 50] false),o 52 (.call n0R [t 46,t 51] true),iA 53 4 41 42,
 ⟨none,none,.store 4 (t 53) (t 52)⟩]
def t0e:SS:=[mV 55 8,mV 56 0,cK 57 56,fA 58 0 57,lD 59 58,o 60 (.bin 0 .mul (i 2) (t 59)),o 61 (.bin 0 .lss (t 55) (t 60)),mV 54 61]
def t0f:SS:=[mV 62 5,mV 63 8,mV 64 0,cK 65 64,fA 66 0 65,lD 67 66,o 68 (.bin 0 .sub (t 63) (t 67)),mV 69 5,mV 70 8,mV 71 0,cK 72 71,fA 73 0 72,lD 74 73,o 75 (.bin 0 .sub (t 70) (t 74)),iA 76 4 69 75,lA 77 4 76,mV 78 0,mV 79 1,mV 80 7,o 81 (.callv (t 79) [t 80] false),o 82 (.call n0O [t 78,t 81] false),o 83 (.call n0N [t 77,t 82] false),iA 84 4 62 68,
 ⟨none,none,.store 4 (t 84) (t 83)⟩]
def H0f:SS:=[o 85 (.bin 0 .add (t 29) (i 1)),mV 29 85]
def t0g:SS:=[mV 86 5,mV 4 86]
def I0c:SF:=⟨2,87,[.tmp 4],
 (qS (gR B0x) (qS (gR B0y) (qS (qS (gR B0z) (.block 0 (.loop (qS (gR O0k) (qS (.cond (t 17) .skip (.exit 0)) (qS (.block 1 (qS (gR B0A) (gR B0B))) (gR O0l))))))) (qS (qS (gR B0C) (.block 2 (.loop (qS (gR O0m) (qS (.cond (t 30) .skip (.exit 2)) (qS (.block 3 (qS (gR B0D) (.block 4 (qS (gR t0c) (.cond (t 34) (.draw t0d [0,0,0,0,12,28,0,0,0,384,960,2044,4095,8191] []) (qS (gR t0e) (.cond (t 54) (.draw t0f [0,0,0,4,12,28,62,0,0,0,512,1536,3584,7936,16256,32640,0,0,0,393216,983040,2097024,4194303,8388607] []) .skip))))))) (gR H0f))))))) (qS (gR t0g) .ret)))))⟩
def B0E:SS:=[o 3 (.mv (i 0))]
def B0F:SS:=[lD 4 1,cK 5 4,fA 6 3 5,lD 7 6,mV 8 0,iA 9 1 7 8,lD 10 9,lD 11 1,cK 12 11,fA 13 2 12,lD 14 13,iA 15 1 10 14,lD 16 15,mV 3 16]
def I0d:SF:=⟨2,17,[.tmp 3],
 (qS (gR B0E) (qS (.draw B0F [0,1,3,7,0,31,63,0,128,384,896,2047,4095,8191] []) .ret))⟩
def O0n:SS:=[o 2 (.box a0p (t 0)),o 3 (.box d0z (t 1)),o 4 (.mv (.const (.slice none 0 0)))]
def O0o:SS:=[lD 6 2,o 7 (.mkfn (.func N0m) [] [t 2,t 3]),o 8 (.call u0q [t 6,t 7] true),mV 5 8]
def O0p:SS:=[lD 10 3,lD 11 2,cK 12 11,fA 13 0 12,lD 14 13,o 15 (.bin 0 .lss (t 10) (t 14)),mV 9 15]
def O0q:SS:=[mV 16 5,lD 17 3,mV 18 5,lD 19 3,iA 20 4 18 19,lA 21 4 20,o 22 (.call l0Y [i 1] false),o 23 (.call n0R [t 21,t 22] false),iA 24 4 16 17,
 ⟨none,none,.store 4 (t 24) (t 23)⟩]
def O0r:SS:=[lD 26 3,lD 27 2,cK 28 27,fA 29 0 28,lD 30 29,o 31 (.bin 0 .mul (i 2) (t 30)),o 32 (.bin 0 .lss (t 26) (t 31)),mV 25 32]
def O0s:SS:=[mV 33 5,lD 34 3,lD 35 2,cK 36 35,fA 37 0 36,lD 38 37,o 39 (.bin 0 .sub (t 34) (t 38)),mV 40 5,lD 41 3,lD 42 2,cK 43 42,fA 44 0 43,lD 45 44,o 46 (.bin 0 .sub (t 41) (t 45)),iA 47 4 40 46,lA 48 4 47,o 49 (.call l0Y [i 1] false),o 50 (.call n0N [t 48,t 49] false),iA 51 4 33 39,
 ⟨none,none,.store 4 (t 51) (t 50)⟩]
def O0t:SS:=[mV 52 5,mV 4 52]
def R0T:SF:=⟨2,53,[.tmp 4],
 (qS (gR O0n) (qS (gR O0o) (qS (.block 0 (qS (.draw O0p [0,0,2,6,14,31,63] []) (.cond (t 9) (.draw O0q [0,0,0,0,12,28,0,124,255,511] []) (qS (.draw O0r [0,0,2,6,14,30,63,127] []) (.cond (t 25) (.draw O0s [0,0,0,4,12,28,62,0,0,0,512,1536,3584,7936,16256,32640,0,130944,262143,524287] []) .skip))))) (qS (gR O0t) .ret))))⟩
def B0G:SS:=[o 2 (.mv (.const (.slice none 0 0)))]
def B0H:SS:=[lD 5 0,cK 6 5,fA 7 2 6,lD 8 7,o 9 (.bin 0 .add (t 8) (i 1)),o 10 (.mk a0c 32 [.bool false,.slice none 0 0] (t 9) (t 9)),mV 3 10]
def B0I:SS:=[mV 11 3,lN 12 11,o 13 (.mv (i 0))]
def O0u:SS:=[o 14 (.bin 0 .lss (t 13) (t 12))]
def B0J:SS:=[mV 15 13,mV 4 15]
def B0K:SS:=[mV 16 3,mV 17 4,lA 18 2 1,iA 19 2 16 17,
 ⟨none,none,.store 2 (t 19) (t 18)⟩]
def O0v:SS:=[o 20 (.bin 0 .add (t 13) (i 1)),mV 13 20]
def B0L:SS:=[mV 21 3,mV 2 21]
def I0e:SF:=⟨2,22,[.tmp 2],
 (qS (gR B0G) (qS (gR B0H) (qS (qS (gR B0I) (.block 0 (.loop (qS (gR O0u) (qS (.cond (t 14) .skip (.exit 0)) (qS (.block 1 (qS (gR B0J) (gR B0K))) (gR O0v))))))) (qS (gR B0L) .ret))))⟩
def B0M:SS:=[o 4 (.box a0c (t 1)),o 5 (.box a0c (t 2)),o 6 (.alloc a0c [.bool false,.slice none 0 0])]
def B0N:SS:=[mV 8 0,cK 9 8,o 10 (.fa0 a0a (t 9)),lA 11 0 10,o 12 (.iface a0g (t 11)),o 13 (.call i0f [i 1] false),o 14 (.inv (t 12) [(a0g,f0G),(a0h,f0m)] [t 13] false),o 7 (.alloc a0c [.bool false,.slice none 0 0]),
 ⟨none,none,.store 2 (t 7) (t 14)⟩]
def B0O:SS:=[mV 15 0,cK 16 15,o 17 (.fa0 a0a (t 16)),lA 18 0 17,o 19 (.iface a0g (t 18)),lA 20 2 4,lA 21 2 7,lA 22 2 5,lA 23 2 7,lA 24 2 7,o 25 (.inv (t 19) [(a0g,l0V),(a0h,l0W)] [t 20,t 21,t 22,t 23,t 24] true),
 ⟨none,none,.store 2 (t 6) (t 25)⟩]
def I0f:SF:=⟨3,26,[.cell 6 true 2],
 (qS (gR B0M) (qS (.draw B0N [0,1,3,7,15,0,63,0,255] []) (qS (.draw B0O [0,1,3,7,15,0,0,0,0,0,1023,2047] []) .ret)))⟩
def B0P:SS:=[o 4 (.mv (i 0))]
def B0Q:SS:=[o 5 (.mv (.const (.int .i64 (-1))))]
def B0R:SS:=[mV 8 0,cK 9 8,fA 10 1 9,lD 11 10,o 12 (.mv (i 0))]
def O0w:SS:=[o 13 (.bin 0 .lss (t 12) (t 11))]
def B0S:SS:=[mV 14 12,mV 6 14]
def B0T:SS:=[mV 15 0,cK 16 15,o 17 (.fa0 a0a (t 16)),lA 18 0 17,o 19 (.iface a0g (t 18)),mV 20 0,cK 21 20,fA 22 3 21,lD 23 22,mV 24 6,iA 25 1 23 24,lD 26 25,mV 27 1,iA 28 2 26 27,lA 29 2 28,o 30 (.inv (t 19) [(a0g,g0R),(a0h,g0T)] [t 29] true),o 31 (.bin 0 .leq (t 30) (i 0))]
def B0U:SS:=[mV 32 5,o 33 (.bin 0 .lss (t 32) (i 0))]
def B0V:SS:=[mV 34 6,mV 5 34]
def B0W:SS:=[mV 35 0,cK 36 35,o 37 (.fa0 a0a (t 36)),lA 38 0 37,o 39 (.iface a0g (t 38)),mV 40 0,cK 41 40,fA 42 3 41,lD 43 42,mV 44 6,iA 45 1 43 44,lD 46 45,mV 47 0,cK 48 47,fA 49 2 48,lD 50 49,iA 51 2 46 50,lA 52 2 51,mV 53 0,cK 54 53,fA 55 3 54,lD 56 55,mV 57 5,iA 58 1 56 57,lD 59 58,mV 60 1,iA 61 2 59 60,lA 62 2 61,mV 63 0,cK 64 63,fA 65 3 64,lD 66 65,mV 67 5,iA 68 1 66 67,lD 69 68,mV 70 0,cK 71 70,fA 72 2 71,lD 73 72,iA 74 2 69 73,lA 75 2 74,mV 76 0,cK 77 76,fA 78 3 77,lD 79 78,mV 80 6,iA 81 1 79 80,lD 82 81,mV 83 1,iA 84 2 82 83,lA 85 2 84,o 86 (.inv (t 39) [(a0g,p0i),(a0h,p0j)] [t 52,t 62,t 75,t 85] true),mV 7 86]
def m0W:SS:=[mV 87 7,o 88 (.bin 0 .lss (t 87) (i 0)),mV 89 88,og 90 89 false (.mv (t 7)),og 91 89 false (.bin 0 .eql (t 90) (i 0)),og 92 89 false (.mv (t 91)),og 93 92 true (.mv (t 0)),og 94 92 true (.chk (t 93)),og 95 92 true (.fa 6 (t 94)),og 96 92 true (.load false 1 (t 95)),og 97 92 true (.mv (t 6)),og 98 92 true (.ia 1 (t 96) (t 97)),og 99 92 true (.load false 1 (t 98)),og 100 92 true (.mv (t 0)),og 101 92 true (.chk (t 100)),og 102 92 true (.fa 6 (t 101)),og 103 92 true (.load false 1 (t 102)),og 104 92 true (.mv (t 5)),og 105 92 true (.ia 1 (t 103) (t 104)),og 106 92 true (.load false 1 (t 105)),og 107 92 true (.bin 0 .lss (t 99) (t 106)),og 108 89 false (.pick (t 92) (t 107) (.const (.bool false))),o 109 (.pick (t 89) (.const (.bool true)) (t 108))]
def m0V:SS:=[mV 110 6,mV 5 110]
def H0g:SS:=[o 111 (.bin 0 .add (t 12) (i 1)),mV 12 111]
def t0h:SS:=[mV 112 5,mV 4 112]
def I0g:SF:=⟨2,113,[.tmp 4],
 (qS (gR B0P) (qS (gR B0Q) (qS (qS (gR B0R) (.block 0 (.loop (qS (gR O0w) (qS (.cond (t 13) .skip (.exit 0)) (qS (.block 1 (qS (gR B0S) (qS (qS (.draw B0T [0,1,3,7,15,0,32,96,224,0,992,2016,0,8160,16352,32767,65535] []) (.cond (t 31) (.exit 1) .skip)) (qS (qS (gR B0U) (.cond (t 33) (qS (gR B0V) (.exit 1)) .skip)) (qS (.draw B0W [0,1,3,7,15,0,32,96,224,0,992,2016,0,4096,12288,28672,65504,131040,0,262144,786432,1835008,0,8126464,16515072,0,66846720,133955584,0,268435456,805306368,1879048192,0,8321499136,16911433728,0,34359738368,103079215104,240518168576,549487378432,1099243192320,0,2199023255552,6597069766656,15393162788864,0,68169720922112,138538465099776,0,560750930165760,1123700883587072,2251799813685247,4503599627370495] []) (qS (.draw m0W [0,1,3,7,15,31,63,127,255,511,63,2047,4095,63,8255,24639,57407,63,254015,516159,1048575,2097151,4194303] []) (.cond (t 109) (gR m0V) .skip))))))) (gR H0g))))))) (qS (gR t0h) .ret))))⟩
def B0X:SS:=[mV 12 0,cK 13 12,fA 14 7 13,lD 15 14,o 16 (.bin 0 .add (t 15) (i 1)),cK 17 12,fA 18 7 17,
 ⟨none,none,.store 1 (t 18) (t 16)⟩]
def B0Y:SS:=[mV 19 0,cK 20 19,fA 21 3 20,lD 22 21,mV 23 1,iA 24 1 22 23,lD 25 24,mV 26 2,iA 27 2 25 26,lA 28 2 27,mV 29 0,cK 30 29,fA 31 3 30,lD 32 31,mV 33 1,iA 34 1 32 33,lD 35 34,o 6 (.alloc a0c [.bool false,.slice none 0 0]),
 ⟨none,none,.store 2 (t 6) (t 28)⟩,mV 7 35]
def B0Z:SS:=[mV 36 0,cK 37 36,fA 38 3 37,lD 39 38,lN 40 39,o 41 (.mv (i 0))]
def O0x:SS:=[o 42 (.bin 0 .lss (t 41) (t 40))]
def C0a:SS:=[mV 43 41,iA 44 1 39 41,lD 45 44,mV 8 43,mV 9 45]
def q0e:SS:=[mV 46 8,mV 47 1,o 48 (.bin 0 .eql (t 46) (t 47))]
def C0b:SS:=[mV 49 9,mV 50 2,iA 51 2 49 50,lA 52 2 51,o 10 (.alloc a0c [.bool false,.slice none 0 0]),
 ⟨none,none,.store 2 (t 10) (t 52)⟩]
def C0c:SS:=[mV 53 9,lN 54 53,o 55 (.mv (i 0))]
def O0y:SS:=[o 56 (.bin 0 .lss (t 55) (t 54))]
def C0d:SS:=[mV 57 55,mV 11 57]
def t0i:SS:=[mV 58 9,mV 59 11,mV 60 0,cK 61 60,o 62 (.fa0 a0a (t 61)),lA 63 0 62,o 64 (.iface a0g (t 63)),mV 65 9,mV 66 11,iA 67 2 65 66,lA 68 2 67,lA 69 2 6,lA 70 2 10,mV 71 7,mV 72 11,iA 73 2 71 72,lA 74 2 73,mV 75 0,cK 76 75,fA 77 4 76,lA 78 2 77,o 79 (.inv (t 64) [(a0g,l0V),(a0h,l0W)] [t 68,t 69,t 70,t 74,t 78] true),iA 80 2 58 59,
 ⟨none,none,.store 2 (t 80) (t 79)⟩]
def H0h:SS:=[o 81 (.bin 0 .add (t 55) (i 1)),mV 55 81]
def H0i:SS:=[o 82 (.bin 0 .add (t 41) (i 1)),mV 41 82]
def t0j:SS:=[mV 83 0,mV 84 0,cK 85 84,fA 86 6 85,lD 87 86,mV 88 1,lA 89 2 6,mV 90 2,cK 91 83,fA 92 4 91,
 ⟨none,none,.store 2 (t 92) (t 89)⟩,iA 93 1 87 88,
 ⟨none,none,.store 1 (t 93) (t 90)⟩]
def I0h:SF:=⟨3,94,[],
 (qS (gR B0X) (qS (.draw B0Y [0,1,3,7,0,31,63,0,255,511,0,1024,3072,7168,0,31744,64512,0,132095,524287] [(13,18),(16,18)]) (qS (qS (gR B0Z) (.block 0 (.loop (qS (gR O0x) (qS (.cond (t 42) .skip (.exit 0)) (qS (.block 1 (qS (gR C0a) (qS (qS (gR q0e) (.cond (t 48) (.exit 1) .skip)) (qS (gR C0b) (qS (gR C0c) (.block 2 (.loop (qS (gR O0y) (qS (.cond (t 56) .skip (.exit 2)) (qS (.block 3 (qS (gR C0d) (.draw t0i [0,0,0,4,12,28,60,0,0,384,896,0,0,0,0,24576,57344,0,131072,393216,917504,2097148,4194303,8388607] []))) (gR H0h))))))))))) (gR H0i))))))) (.draw t0j [0,0,2,6,14,0,0,0,95,351,863,2047,4095] []))))⟩
end
/- The small code of the program's functions: printed. -/
section
open Go
def C0e:SS:=[o 2 (.box a0d (t 0)),o 3 (.box a0d (t 1)),o 4 (.alloc a0d [.bool false,.slice none 0 0,.bool false,.slice none 0 0]),o 5 (.mv (i 0))]
def C0f:SS:=[lA 6 4 2,o 7 (.call u0y [t 6] false),lA 8 4 3,o 9 (.call u0y [t 8] true),
 ⟨none,none,.store 4 (t 2) (t 7)⟩,
 ⟨none,none,.store 4 (t 3) (t 9)⟩]
def C0g:SS:=[fA 10 0 2,lA 11 2 10,fA 12 2 3,lA 13 2 12,o 14 (.call l0X [t 11,t 13] false),fA 15 2 2,lA 16 2 15,fA 17 0 3,lA 18 2 17,o 19 (.call l0X [t 16,t 18] true),o 20 (.call l0T [t 14,t 19] true),o 21 (.ext (t 20) 0),o 22 (.ext (t 20) 1),
 ⟨none,none,.store 4 (t 4) (t 21)⟩,mV 5 22]
def I0i:SF:=⟨2,23,[.cell 4 true 4,.tmp 5],
 (qS (gR C0e) (qS (.draw C0f [0,1,0,7,15,31] []) (qS (.draw C0g [0,1,0,4,15,0,32,0,128,511,1023,2047,2047,8191,16383] []) .ret)))⟩
def C0h:SS:=[o 3 (.box a0c (t 1)),o 4 (.alloc a0d [.bool false,.slice none 0 0,.bool false,.slice none 0 0])]
def C0i:SS:=[mV 8 0,cK 9 8,o 10 (.fa0 a0a (t 9)),lA 11 0 10,o 12 (.iface a0g (t 11)),lA 13 2 3,o 14 (.inv (t 12) [(a0g,n0P),(a0h,n0Q)] [t 13] false),mV 15 0,cK 16 15,o 17 (.fa0 a0a (t 16)),lA 18 0 17,o 19 (.iface a0g (t 18)),mV 20 0,cK 21 20,fA 22 4 21,lA 23 2 22,o 24 (.inv (t 19) [(a0g,n0P),(a0h,n0Q)] [t 23] false),o 25 (.call l0T [t 14,t 24] false),mV 7 25,o 26 (.ext (t 7) 0),o 27 (.ext (t 7) 1),o 5 (.alloc a0d [.bool false,.slice none 0 0,.bool false,.slice none 0 0]),
 ⟨none,none,.store 4 (t 5) (t 26)⟩,mV 6 27]
def C0j:SS:=[lA 28 4 5,
 ⟨none,none,.store 4 (t 4) (t 28)⟩]
def I0j:SF:=⟨2,29,[.cell 4 true 4],
 (qS (gR C0h) (qS (.draw C0i [0,1,3,7,15,0,63,0,128,384,896,1920,0,4096,12288,28672,65535,131071,262143,524287,524287,0,3145727,8388607] []) (qS (gR C0j) .ret)))⟩
def C0k:SS:=[o 2 (.box a0d (t 0)),o 3 (.box a0d (t 1)),o 4 (.alloc a0d [.bool false,.slice none 0 0,.bool false,.slice none 0 0])]
def C0l:SS:=[lA 5 4 2,lA 6 4 3,o 7 (.call u0y [t 6] false),o 8 (.call w0j [t 7] false),o 9 (.call n0R [t 5,t 8] true),
 ⟨none,none,.store 4 (t 4) (t 9)⟩]
def I0k:SF:=⟨2,10,[.cell 4 true 4],
 (qS (gR C0k) (qS (.draw C0l [0,0,2,6,15,31] []) .ret))⟩
def O0z:SS:=[o 4 (.alloc a0c [.bool false,.slice none 0 0])]
def O0A:SS:=[lD 5 1,cK 6 5,o 7 (.fa0 a0a (t 6)),lA 8 0 7,o 9 (.iface a0g (t 8)),lD 10 1,cK 11 10,fA 12 3 11,lD 13 12,mV 14 0,iA 15 1 13 14,lD 16 15,lD 17 2,iA 18 2 16 17,lA 19 2 18,o 20 (.inv (t 9) [(a0g,g0Q),(a0h,g0S)] [t 19] true),
 ⟨none,none,.store 2 (t 4) (t 20)⟩]
def R0U:SF:=⟨3,21,[.cell 4 true 2],
 (qS (gR O0z) (qS (.draw O0A [0,1,3,7,15,0,32,96,224,0,992,2016,0,8160,16352,32767,65535] []) .ret))⟩
def C0m:SS:=[o 4 (.mv (.const (.slice none 0 0))),o 5 (.mv (.const (.int .u32 0)))]
def C0n:SS:=[mV 9 0,lN 10 9,o 11 (.mk a0m 4 [.int .u32 0] (t 10) (t 10)),mV 6 11]
def C0o:SS:=[o 7 (.mv (.const (.int .u64 0)))]
def C0p:SS:=[mV 12 0,lN 13 12,o 14 (.bin 0 .sub (t 13) (i 1)),mV 8 14]
def q0f:SS:=[mV 15 8,o 16 (.bin 0 .geq (t 15) (i 0))]
def C0q:SS:=[mV 19 7,o 20 (.bin 0 .shl (t 19) (.const (.int .u64 32))),mV 21 0,mV 22 8,iA 23 1 21 22,lD 24 23,o 25 (.conv .u64 (t 24)),o 26 (.bin 0 .or (t 20) (t 25)),mV 7 26]
def C0r:SS:=[mV 27 6,mV 28 8,mV 29 7,mV 30 1,o 31 (.conv .u64 (t 30)),o 32 (.bin 0 .quo (t 29) (t 31)),o 33 (.call f0l [t 32] true),iA 34 1 27 28,
 ⟨none,none,.store 1 (t 34) (t 33)⟩]
def C0s:SS:=[mV 35 7,mV 36 1,o 37 (.conv .u64 (t 36)),o 38 (.bin 0 .rem (t 35) (t 37)),mV 7 38]
def C0t:SS:=[mV 17 8,o 18 (.bin 0 .sub (t 17) (i 1)),mV 8 18]
def C0u:SS:=[mV 39 6,mV 40 7,o 41 (.call f0l [t 40] true),mV 4 39,mV 5 41]
def I0l:SF:=⟨2,42,[.tmp 4,.tmp 5],
 (qS (gR C0m) (qS (gR C0n) (qS (gR C0o) (qS (qS (gR C0p) (.block 0 (.loop (qS (qS (gR q0f) (.cond (t 16) .skip (.exit 0))) (qS (.block 1 (qS (gR C0q) (qS (gR C0r) (gR C0s)))) (gR C0t)))))) (qS (gR C0u) .ret)))))⟩
def C0v:SS:=[o 4 (.mv (.const (.slice none 0 0))),o 5 (.mv (.const (.slice none 0 0)))]
def C0w:SS:=[o 6 (.mv (i 0))]
def q0g:SS:=[mV 16 1,mV 17 1,lN 18 17,o 19 (.bin 0 .sub (t 18) (i 1)),iA 20 1 16 19,lD 21 20,mV 22 6,o 23 (.bin 0 .shl (t 21) (t 22)),o 24 (.bin 0 .shr (t 23) (.const (.int .u64 31))),o 25 (.bin 0 .eql (t 24) (.const (.int .u32 0)))]
def q0h:SS:=[mV 26 6,o 27 (.bin 0 .add (t 26) (i 1)),mV 6 27]
def C0x:SS:=[mV 28 0,mV 29 6,o 30 (.call u0w [t 28,t 29] true),mV 31 1,mV 32 6,o 33 (.call u0w [t 31,t 32] true),mV 34 1,lN 35 34,o 36 (.sl a0m 1 (t 33) none (some (t 35)) none),mV 7 30,mV 8 36]
def C0y:SS:=[mV 37 8,lN 38 37,mV 9 38]
def C0z:SS:=[mV 39 7,lN 40 39,mV 41 9,o 42 (.bin 0 .sub (t 40) (t 41)),o 43 (.mnx true (t 42) [i 0]),o 44 (.mk a0m 4 [.int .u32 0] (t 43) (t 43)),mV 4 44]
def C0A:SS:=[mV 45 8,mV 46 9,o 47 (.bin 0 .sub (t 46) (i 1)),iA 48 1 45 47,lD 49 48,o 50 (.conv .u64 (t 49)),mV 51 8,mV 52 9,o 53 (.bin 0 .sub (t 52) (i 2)),iA 54 1 51 53,lD 55 54,o 56 (.conv .u64 (t 55)),mV 10 50,mV 11 56]
def C0B:SS:=[mV 57 7,lN 58 57,mV 59 9,o 60 (.bin 0 .sub (t 58) (t 59)),o 61 (.bin 0 .sub (t 60) (i 1)),mV 12 61]
def q0i:SS:=[mV 62 12,o 63 (.bin 0 .geq (t 62) (i 0))]
def t0k:SS:=[mV 66 7,mV 67 12,mV 68 9,o 69 (.bin 0 .add (t 67) (t 68)),iA 70 1 66 69,lD 71 70,o 72 (.conv .u64 (t 71)),o 73 (.bin 0 .shl (t 72) (.const (.int .u64 32))),mV 74 7,mV 75 12,mV 76 9,o 77 (.bin 0 .add (t 75) (t 76)),o 78 (.bin 0 .sub (t 77) (i 1)),iA 79 1 74 78,lD 80 79,o 81 (.conv .u64 (t 80)),o 82 (.bin 0 .or (t 73) (t 81)),mV 13 82]
def t0l:SS:=[mV 83 13,mV 84 10,o 85 (.bin 0 .quo (t 83) (t 84)),mV 86 13,mV 87 10,o 88 (.bin 0 .rem (t 86) (t 87)),mV 14 85,mV 15 88]
def j0l:SS:=[mV 89 14,o 90 (.bin 0 .geq (t 89) (.const (.int .u64 4294967296))),mV 91 90,og 92 91 false (.mv (t 14)),og 93 91 false (.mv (t 11)),og 94 91 false (.bin 0 .mul (t 92) (t 93)),og 95 91 false (.mv (t 15)),og 96 91 false (.bin 0 .shl (t 95) (.const (.int .u64 32))),og 97 91 false (.mv (t 7)),og 98 91 false (.mv (t 12)),og 99 91 false (.mv (t 9)),og 100 91 false (.bin 0 .add (t 98) (t 99)),og 101 91 false (.bin 0 .sub (t 100) (i 2)),og 102 91 false (.ia 1 (t 97) (t 101)),og 103 91 false (.load false 1 (t 102)),og 104 91 false (.conv .u64 (t 103)),og 105 91 false (.bin 0 .or (t 96) (t 104)),og 106 91 false (.bin 0 .gtr (t 94) (t 105)),o 107 (.pick (t 91) (.const (.bool true)) (t 106))]
def h0G:SS:=[mV 108 14,o 109 (.bin 0 .sub (t 108) (.const (.int .u64 1))),mV 14 109]
def h0H:SS:=[mV 110 15,mV 111 10,o 112 (.bin 0 .add (t 110) (t 111)),mV 15 112]
def h0I:SS:=[mV 113 15,o 114 (.bin 0 .geq (t 113) (.const (.int .u64 4294967296)))]
def t0m:SS:=[mV 115 7,mV 116 12,mV 117 12,mV 118 9,o 119 (.bin 0 .add (t 117) (t 118)),o 120 (.bin 0 .add (t 119) (i 1)),o 121 (.sl a0m 1 (t 115) (some (t 116)) (some (t 120)) none),mV 122 8,mV 123 14,o 124 (.call w0k [t 121,t 122,t 123] true)]
def t0n:SS:=[mV 125 14,o 126 (.bin 0 .sub (t 125) (.const (.int .u64 1))),mV 14 126]
def t0o:SS:=[mV 127 7,mV 128 12,mV 129 12,mV 130 9,o 131 (.bin 0 .add (t 129) (t 130)),o 132 (.bin 0 .add (t 131) (i 1)),o 133 (.sl a0m 1 (t 127) (some (t 128)) (some (t 132)) none),mV 134 8,o 135 (.call w0l [t 133,t 134] true)]
def m0X:SS:=[mV 136 4,mV 137 12,mV 138 14,o 139 (.call f0l [t 138] true),iA 140 1 136 137,
 ⟨none,none,.store 1 (t 140) (t 139)⟩]
def m0Y:SS:=[mV 64 12,o 65 (.bin 0 .sub (t 64) (i 1)),mV 12 65]
def t0p:SS:=[mV 141 4,mV 142 7,mV 143 9,o 144 (.sl a0m 1 (t 142) none (some (t 143)) none),mV 145 6,o 146 (.call w0m [t 144,t 145] true),mV 4 141,mV 5 146]
def I0m:SF:=⟨2,147,[.tmp 4,.tmp 5],
 (qS (gR C0v) (qS (gR C0w) (qS (.block 0 (.loop (qS (qS (gR q0g) (.cond (t 25) .skip (.exit 0))) (.block 1 (gR q0h))))) (qS (.draw C0x [0,0,3,0,0,31,0,64,255,63,1023] []) (qS (gR C0y) (qS (gR C0z) (qS (.draw C0A [0,0,2,7,15,31,0,0,128,448,960,1984,63,8191] []) (qS (qS (gR C0B) (.block 2 (.loop (qS (qS (gR q0i) (.cond (t 63) .skip (.exit 2))) (qS (.block 3 (qS (.draw t0k [0,0,0,6,15,31,63,127,0,0,0,1536,3584,7936,16128,32512,65535,131071] []) (qS (.draw t0l [0,0,3,0,0,24,7,127] []) (qS (.block 4 (.loop (qS (qS (gR j0l) (.cond (t 107) .skip (.exit 4))) (.block 5 (qS (gR h0G) (qS (gR h0H) (qS (gR h0I) (.cond (t 114) (.exit 4) .skip)))))))) (qS (qS (gR t0m) (.cond (t 124) (qS (gR t0n) (gR t0o)) .skip)) (gR m0X)))))) (gR m0Y)))))) (qS (gR t0p) .ret)))))))))⟩
def C0C:SS:=[o 2 (.mv (.const (.slice none 0 0)))]
def C0D:SS:=[lD 5 0,cK 6 5,fA 7 2 6,lD 8 7,o 9 (.bin 0 .add (t 8) (i 1)),o 10 (.mk b0N 8 [.int .i64 0] (t 9) (t 9)),mV 3 10]
def C0E:SS:=[mV 11 3,lN 12 11,o 13 (.mv (i 0))]
def O0B:SS:=[o 14 (.bin 0 .lss (t 13) (t 12))]
def C0F:SS:=[mV 15 13,mV 4 15]
def C0G:SS:=[mV 16 3,mV 17 4,lD 18 1,iA 19 1 16 17,
 ⟨none,none,.store 1 (t 19) (t 18)⟩]
def O0C:SS:=[o 20 (.bin 0 .add (t 13) (i 1)),mV 13 20]
def C0H:SS:=[mV 21 3,mV 2 21]
def I0n:SF:=⟨2,22,[.tmp 2],
 (qS (gR C0C) (qS (gR C0D) (qS (qS (gR C0E) (.block 0 (.loop (qS (gR O0B) (qS (.cond (t 14) .skip (.exit 0)) (qS (.block 1 (qS (gR C0F) (gR C0G))) (gR O0C))))))) (qS (gR C0H) .ret))))⟩
def C0I:SS:=[o 6 (.mv (i 0))]
def C0J:SS:=[mV 8 0,cK 9 8,o 10 (.fa0 a0b (t 9)),lA 11 0 10,o 12 (.iface a0h (t 11)),o 13 (.call i0f [i 1] false),o 14 (.inv (t 12) [(a0g,f0G),(a0h,f0m)] [t 13] true),mV 7 14]
def C0K:SS:=[mV 15 0,cK 16 15,o 17 (.fa0 a0b (t 16)),lA 18 0 17,o 19 (.iface a0h (t 18)),mV 20 1,mV 21 7,mV 22 2,mV 23 7,mV 24 7,o 25 (.inv (t 19) [(a0g,l0V),(a0h,l0W)] [t 20,t 21,t 22,t 23,t 24] true),mV 6 25]
def I0o:SF:=⟨3,26,[.tmp 6],
 (qS (gR C0I) (qS (.draw C0J [0,1,3,7,15,0,63,127] []) (qS (gR C0K) .ret)))⟩
def C0L:SS:=[o 4 (.mv (i 0))]
def C0M:SS:=[o 5 (.mv (.const (.int .i64 (-1))))]
def C0N:SS:=[mV 8 0,cK 9 8,fA 10 1 9,lD 11 10,o 12 (.mv (i 0))]
def O0D:SS:=[o 13 (.bin 0 .lss (t 12) (t 11))]
def C0O:SS:=[mV 14 12,mV 6 14]
def C0P:SS:=[mV 15 0,cK 16 15,o 17 (.fa0 a0b (t 16)),lA 18 0 17,o 19 (.iface a0h (t 18)),mV 20 0,cK 21 20,fA 22 3 21,lD 23 22,mV 24 6,iA 25 1 23 24,lD 26 25,mV 27 1,iA 28 1 26 27,lD 29 28,o 30 (.inv (t 19) [(a0g,g0R),(a0h,g0T)] [t 29] true),o 31 (.bin 0 .leq (t 30) (i 0))]
def C0Q:SS:=[mV 32 5,o 33 (.bin 0 .lss (t 32) (i 0))]
def C0R:SS:=[mV 34 6,mV 5 34]
def C0S:SS:=[mV 35 0,cK 36 35,o 37 (.fa0 a0b (t 36)),lA 38 0 37,o 39 (.iface a0h (t 38)),mV 40 0,cK 41 40,fA 42 3 41,lD 43 42,mV 44 6,iA 45 1 43 44,lD 46 45,mV 47 0,cK 48 47,fA 49 2 48,lD 50 49,iA 51 1 46 50,lD 52 51,mV 53 0,cK 54 53,fA 55 3 54,lD 56 55,mV 57 5,iA 58 1 56 57,lD 59 58,mV 60 1,iA 61 1 59 60,lD 62 61,mV 63 0,cK 64 63,fA 65 3 64,lD 66 65,mV 67 5,iA 68 1 66 67,lD 69 68,mV 70 0,cK 71 70,fA 72 2 71,lD 73 72,iA 74 1 69 73,lD 75 74,mV 76 0,cK 77 76,fA 78 3 77,lD 79 78,mV 80 6,iA 81 1 79 80,lD 82 81,mV 83 1,iA 84 1 82 83,lD 85 84,o 86 (.inv (t 39) [(a0g,p0i),(a0h,p0j)] [t 52,t 62,t 75,t 85] true),mV 7 86]
def n0a:SS:=[mV 87 7,o 88 (.bin 0 .lss (t 87) (i 0)),mV 89 88,og 90 89 false (.mv (t 7)),og 91 89 false (.bin 0 .eql (t 90) (i 0)),og 92 89 false (.mv (t 91)),og 93 92 true (.mv (t 0)),og 94 92 true (.chk (t 93)),og 95 92 true (.fa 5 (t 94)),og 96 92 true (.load false 1 (t 95)),og 97 92 true (.mv (t 6)),og 98 92 true (.ia 1 (t 96) (t 97)),og 99 92 true (.load false 1 (t 98)),og 100 92 true (.mv (t 0)),og 101 92 true (.chk (t 100)),og 102 92 true (.fa 5 (t 101)),og 103 92 true (.load false 1 (t 102)),og 104 92 true (.mv (t 5)),og 105 92 true (.ia 1 (t 103) (t 104)),og 106 92 true (.load false 1 (t 105)),og 107 92 true (.bin 0 .lss (t 99) (t 106)),og 108 89 false (.pick (t 92) (t 107) (.const (.bool false))),o 109 (.pick (t 89) (.const (.bool true)) (t 108))]
def m0Z:SS:=[mV 110 6,mV 5 110]
def H0j:SS:=[o 111 (.bin 0 .add (t 12) (i 1)),mV 12 111]
def t0q:SS:=[mV 112 5,mV 4 112]
def I0p:SF:=⟨2,113,[.tmp 4],
 (qS (gR C0L) (qS (gR C0M) (qS (qS (gR C0N) (.block 0 (.loop (qS (gR O0D) (qS (.cond (t 13) .skip (.exit 0)) (qS (.block 1 (qS (gR C0O) (qS (qS (.draw C0P [0,1,3,7,15,0,32,96,224,0,992,2016,0,8160,16352,32767,65535] []) (.cond (t 31) (.exit 1) .skip)) (qS (qS (gR C0Q) (.cond (t 33) (qS (gR C0R) (.exit 1)) .skip)) (qS (.draw C0S [0,1,3,7,15,0,32,96,224,0,992,2016,0,4096,12288,28672,65504,131040,0,262144,786432,1835008,0,8126464,16515072,0,66846720,133955584,0,268435456,805306368,1879048192,0,8321499136,16911433728,0,34359738368,103079215104,240518168576,549487378432,1099243192320,0,2199023255552,6597069766656,15393162788864,0,68169720922112,138538465099776,0,560750930165760,1123700883587072,2251799813685247,4503599627370495] []) (qS (.draw n0a [0,1,3,7,15,31,63,127,255,511,63,2047,4095,63,8255,24639,57407,63,254015,516159,1048575,2097151,4194303] []) (.cond (t 109) (gR m0Z) .skip))))))) (gR H0j))))))) (qS (gR t0q) .ret))))⟩
def C0T:SS:=[mV 12 0,cK 13 12,fA 14 6 13,lD 15 14,o 16 (.bin 0 .add (t 15) (i 1)),cK 17 12,fA 18 6 17,
 ⟨none,none,.store 1 (t 18) (t 16)⟩]
def C0U:SS:=[mV 19 0,cK 20 19,fA 21 3 20,lD 22 21,mV 23 1,iA 24 1 22 23,lD 25 24,mV 26 2,iA 27 1 25 26,lD 28 27,mV 29 0,cK 30 29,fA 31 3 30,lD 32 31,mV 33 1,iA 34 1 32 33,lD 35 34,mV 6 28,mV 7 35]
def C0V:SS:=[mV 36 0,cK 37 36,fA 38 3 37,lD 39 38,lN 40 39,o 41 (.mv (i 0))]
def O0E:SS:=[o 42 (.bin 0 .lss (t 41) (t 40))]
def C0W:SS:=[mV 43 41,iA 44 1 39 41,lD 45 44,mV 8 43,mV 9 45]
def q0j:SS:=[mV 46 8,mV 47 1,o 48 (.bin 0 .eql (t 46) (t 47))]
def C0X:SS:=[mV 49 9,mV 50 2,iA 51 1 49 50,lD 52 51,mV 10 52]
def C0Y:SS:=[mV 53 9,lN 54 53,o 55 (.mv (i 0))]
def O0F:SS:=[o 56 (.bin 0 .lss (t 55) (t 54))]
def C0Z:SS:=[mV 57 55,mV 11 57]
def t0r:SS:=[mV 58 9,mV 59 11,mV 60 0,cK 61 60,o 62 (.fa0 a0b (t 61)),lA 63 0 62,o 64 (.iface a0h (t 63)),mV 65 9,mV 66 11,iA 67 1 65 66,lD 68 67,mV 69 6,mV 70 10,mV 71 7,mV 72 11,iA 73 1 71 72,lD 74 73,mV 75 0,cK 76 75,fA 77 4 76,lD 78 77,o 79 (.inv (t 64) [(a0g,l0V),(a0h,l0W)] [t 68,t 69,t 70,t 74,t 78] true),iA 80 1 58 59,
 ⟨none,none,.store 1 (t 80) (t 79)⟩]
def H0k:SS:=[o 81 (.bin 0 .add (t 55) (i 1)),mV 55 81]
def H0l:SS:=[o 82 (.bin 0 .add (t 41) (i 1)),mV 41 82]
def t0s:SS:=[mV 83 0,mV 84 0,cK 85 84,fA 86 5 85,lD 87 86,mV 88 1,mV 89 6,mV 90 2,cK 91 83,fA 92 4 91,
 ⟨none,none,.store 1 (t 92) (t 89)⟩,iA 93 1 87 88,
 ⟨none,none,.store 1 (t 93) (t 90)⟩]
def I0q:SF:=⟨3,94,[],
 (qS (gR C0T) (qS (.draw C0U [0,1,3,7,0,31,63,0,255,511,0,1024,3072,7168,0,31744,64512,1023,262143] []) (qS (qS (gR C0V) (.block 0 (.loop (qS (gR O0E) (qS (.cond (t 42) .skip (.exit 0)) (qS (.block 1 (qS (gR C0W) (qS (qS (gR q0j) (.cond (t 48) (.exit 1) .skip)) (qS (gR C0X) (qS (gR C0Y) (.block 2 (.loop (qS (gR O0F) (qS (.cond (t 56) .skip (.exit 2)) (qS (.block 3 (qS (gR C0Z) (.draw t0r [0,0,0,4,12,28,60,0,0,384,896,0,0,0,0,24576,57344,0,131072,393216,917504,2097148,4194303,8388607] []))) (gR H0k))))))))))) (gR H0l))))))) (gR t0s))))⟩
def D0a:SS:=[o 4 (.alloc a0d [.bool false,.slice none 0 0,.bool false,.slice none 0 0])]
def D0b:SS:=[mV 8 0,cK 9 8,o 10 (.fa0 a0b (t 9)),lA 11 0 10,o 12 (.iface a0h (t 11)),mV 13 1,o 14 (.inv (t 12) [(a0g,n0P),(a0h,n0Q)] [t 13] false),mV 15 0,cK 16 15,o 17 (.fa0 a0b (t 16)),lA 18 0 17,o 19 (.iface a0h (t 18)),mV 20 0,cK 21 20,fA 22 4 21,lD 23 22,o 24 (.inv (t 19) [(a0g,n0P),(a0h,n0Q)] [t 23] false),o 25 (.call l0T [t 14,t 24] false),mV 7 25,o 26 (.ext (t 7) 0),o 27 (.ext (t 7) 1),o 5 (.alloc a0d [.bool false,.slice none 0 0,.bool false,.slice none 0 0]),
 ⟨none,none,.store 4 (t 5) (t 26)⟩,mV 6 27]
def D0c:SS:=[lA 28 4 5,
 ⟨none,none,.store 4 (t 4) (t 28)⟩]
def I0r:SF:=⟨2,29,[.cell 4 true 4],
 (qS (gR D0a) (qS (.draw D0b [0,1,3,7,15,0,63,0,128,384,896,1920,0,4096,12288,28672,65535,131071,262143,524287,524287,0,3145727,8388607] []) (qS (gR D0c) .ret)))⟩
def O0G:SS:=[o 4 (.mv (i 0))]
def O0H:SS:=[lD 5 1,cK 6 5,o 7 (.fa0 a0b (t 6)),lA 8 0 7,o 9 (.iface a0h (t 8)),lD 10 1,cK 11 10,fA 12 3 11,lD 13 12,mV 14 0,iA 15 1 13 14,lD 16 15,lD 17 2,iA 18 1 16 17,lD 19 18,o 20 (.inv (t 9) [(a0g,g0Q),(a0h,g0S)] [t 19] true),mV 4 20]
def R0V:SF:=⟨3,21,[.tmp 4],
 (qS (gR O0G) (qS (.draw O0H [0,1,3,7,15,0,32,96,224,0,992,2016,0,8160,16352,32767,65535] []) .ret))⟩
def D0d:SS:=[o 1 (.box a0d (t 0)),o 2 (.alloc a0d [.bool false,.slice none 0 0,.bool false,.slice none 0 0])]
def D0e:SS:=[fA 3 0 1,lA 4 2 3,o 5 (.call n0L [t 4] false),fA 6 2 1,lA 7 2 6,o 8 (.build [.bool false,.slice none 0 0,.bool false,.slice none 0 0] [(0,2,t 5),(2,2,t 7)]),
 ⟨none,none,.store 4 (t 2) (t 8)⟩]
def I0s:SF:=⟨1,9,[.cell 2 true 4],
 (qS (gR D0d) (qS (.draw D0e [0,1,3,0,8,31,63] []) .ret))⟩
def D0f:SS:=[o 4 (.mv (.const (.slice none 0 0)))]
def D0g:SS:=[mV 9 0,lN 10 9,o 11 (.bin 0 .add (t 10) (i 1)),o 12 (.mk a0m 4 [.int .u32 0] (i 0) (t 11)),mV 5 12]
def D0h:SS:=[o 6 (.mv (.const (.int .u64 0)))]
def D0i:SS:=[mV 13 0,lN 14 13,o 15 (.mv (i 0))]
def q0k:SS:=[o 16 (.bin 0 .lss (t 15) (t 14))]
def D0j:SS:=[iA 17 1 13 15,lD 18 17,mV 8 18]
def D0k:SS:=[mV 19 6,mV 20 8,o 21 (.conv .u64 (t 20)),mV 22 1,o 23 (.bin 0 .shl (t 21) (t 22)),o 24 (.bin 0 .or (t 19) (t 23)),mV 6 24]
def D0l:SS:=[mV 25 5,mV 26 6,o 27 (.call f0l [t 26] true),o 28 (.lit a0m [.int .u32 0] 1 [(0,1,t 27)]),o 29 (.app a0m 1 4 (t 25) (t 28)),mV 5 29]
def D0m:SS:=[mV 30 6,o 31 (.bin 0 .shr (t 30) (.const (.int .u64 32))),mV 6 31]
def D0n:SS:=[o 32 (.bin 0 .add (t 15) (i 1)),mV 15 32]
def t0t:SS:=[mV 33 5,mV 34 6,o 35 (.call f0l [t 34] true),o 36 (.lit a0m [.int .u32 0] 1 [(0,1,t 35)]),o 37 (.app a0m 1 4 (t 33) (t 36)),mV 4 37]
def I0t:SF:=⟨2,38,[.tmp 4],
 (qS (gR D0f) (qS (gR D0g) (qS (gR D0h) (qS (qS (gR D0i) (.block 0 (.loop (qS (gR q0k) (qS (.cond (t 16) .skip (.exit 0)) (qS (.block 1 (qS (gR D0j) (qS (gR D0k) (qS (gR D0l) (gR D0m))))) (gR D0n))))))) (qS (gR t0t) .ret)))))⟩
def D0o:SS:=[o 6 (.mv (.const (.bool false)))]
def D0p:SS:=[o 7 (.mv (.const (.int .u64 0)))]
def D0q:SS:=[mV 10 0,lN 11 10,o 12 (.mv (i 0))]
def n0c:SS:=[o 13 (.bin 0 .lss (t 12) (t 11))]
def q0l:SS:=[mV 14 12,mV 8 14]
def q0m:SS:=[mV 15 8,mV 16 1,lN 17 16,o 18 (.bin 0 .lss (t 15) (t 17))]
def q0n:SS:=[mV 19 7,mV 20 1,mV 21 8,iA 22 1 20 21,lD 23 22,o 24 (.conv .u64 (t 23)),mV 25 2,o 26 (.bin 0 .mul (t 24) (t 25)),o 27 (.bin 0 .add (t 19) (t 26)),mV 7 27]
def q0o:SS:=[mV 28 0,mV 29 8,iA 30 1 28 29,lD 31 30,o 32 (.conv .u64 (t 31)),mV 33 7,o 34 (.bin 0 .and (t 33) (.const (.int .u64 4294967295))),o 35 (.bin 0 .sub (t 32) (t 34)),mV 9 35]
def q0p:SS:=[mV 36 0,mV 37 8,mV 38 9,o 39 (.call f0l [t 38] true),iA 40 1 36 37,
 ⟨none,none,.store 1 (t 40) (t 39)⟩]
def q0q:SS:=[mV 41 7,o 42 (.bin 0 .shr (t 41) (.const (.int .u64 32))),mV 43 9,o 44 (.bin 0 .shr (t 43) (.const (.int .u64 63))),o 45 (.bin 0 .add (t 42) (t 44)),mV 7 45]
def n0b:SS:=[o 46 (.bin 0 .add (t 12) (i 1)),mV 12 46]
def t0u:SS:=[mV 47 7,o 48 (.bin 0 .neq (t 47) (.const (.int .u64 0))),mV 6 48]
def I0u:SF:=⟨3,49,[.tmp 6],
 (qS (gR D0o) (qS (gR D0p) (qS (qS (gR D0q) (.block 0 (.loop (qS (gR n0c) (qS (.cond (t 13) .skip (.exit 0)) (qS (.block 1 (qS (gR q0l) (qS (qS (gR q0m) (.cond (t 18) (gR q0n) .skip)) (qS (gR q0o) (qS (gR q0p) (gR q0q)))))) (gR n0b))))))) (qS (gR t0u) .ret))))⟩
def D0r:SS:=[o 4 (.mv (.const (.int .u64 0)))]
def D0s:SS:=[mV 6 0,lN 7 6,o 8 (.mv (i 0))]
def n0d:SS:=[o 9 (.bin 0 .lss (t 8) (t 7))]
def q0r:SS:=[mV 10 8,mV 5 10]
def q0s:SS:=[mV 11 4,mV 12 0,mV 13 5,iA 14 1 12 13,lD 15 14,o 16 (.conv .u64 (t 15)),o 17 (.bin 0 .add (t 11) (t 16)),mV 4 17]
def q0t:SS:=[mV 18 5,mV 19 1,lN 20 19,o 21 (.bin 0 .lss (t 18) (t 20))]
def q0u:SS:=[mV 22 4,mV 23 1,mV 24 5,iA 25 1 23 24,lD 26 25,o 27 (.conv .u64 (t 26)),o 28 (.bin 0 .add (t 22) (t 27)),mV 4 28]
def q0v:SS:=[mV 29 0,mV 30 5,mV 31 4,o 32 (.call f0l [t 31] true),iA 33 1 29 30,
 ⟨none,none,.store 1 (t 33) (t 32)⟩]
def q0w:SS:=[mV 34 4,o 35 (.bin 0 .shr (t 34) (.const (.int .u64 32))),mV 4 35]
def q0x:SS:=[o 36 (.bin 0 .add (t 8) (i 1)),mV 8 36]
def I0v:SF:=⟨2,37,[],
 (qS (gR D0r) (qS (gR D0s) (.block 0 (.loop (qS (gR n0d) (qS (.cond (t 9) .skip (.exit 0)) (qS (.block 1 (qS (gR q0r) (qS (gR q0s) (qS (qS (gR q0t) (.cond (t 21) (gR q0u) .skip)) (qS (gR q0v) (gR q0w)))))) (gR q0x))))))))⟩
def D0t:SS:=[o 4 (.mv (.const (.slice none 0 0)))]
def D0u:SS:=[mV 8 0,lN 9 8,o 10 (.mk a0m 4 [.int .u32 0] (t 9) (t 9)),mV 5 10]
def D0v:SS:=[mV 11 0,lN 12 11,o 13 (.mv (i 0))]
def n0e:SS:=[o 14 (.bin 0 .lss (t 13) (t 12))]
def q0y:SS:=[mV 15 13,mV 6 15]
def q0z:SS:=[mV 16 0,mV 17 6,iA 18 1 16 17,lD 19 18,o 20 (.conv .u64 (t 19)),mV 7 20]
def q0A:SS:=[mV 21 6,o 22 (.bin 0 .add (t 21) (i 1)),mV 23 0,lN 24 23,o 25 (.bin 0 .lss (t 22) (t 24))]
def q0B:SS:=[mV 26 7,mV 27 0,mV 28 6,o 29 (.bin 0 .add (t 28) (i 1)),iA 30 1 27 29,lD 31 30,o 32 (.conv .u64 (t 31)),o 33 (.bin 0 .shl (t 32) (.const (.int .u64 32))),o 34 (.bin 0 .or (t 26) (t 33)),mV 7 34]
def q0C:SS:=[mV 35 5,mV 36 6,mV 37 7,mV 38 1,o 39 (.bin 0 .shr (t 37) (t 38)),o 40 (.call f0l [t 39] true),iA 41 1 35 36,
 ⟨none,none,.store 1 (t 41) (t 40)⟩]
def q0D:SS:=[o 42 (.bin 0 .add (t 13) (i 1)),mV 13 42]
def t0v:SS:=[mV 43 5,mV 4 43]
def I0w:SF:=⟨2,44,[.tmp 4],
 (qS (gR D0t) (qS (gR D0u) (qS (qS (gR D0v) (.block 0 (.loop (qS (gR n0e) (qS (.cond (t 14) .skip (.exit 0)) (qS (.block 1 (qS (gR q0y) (qS (gR q0z) (qS (qS (gR q0A) (.cond (t 25) (gR q0B) .skip)) (gR q0C))))) (gR q0D))))))) (qS (gR t0v) .ret))))⟩
def D0w:SS:=[o 5 (.box a0g (t 0)),o 6 (.box a0c (t 1)),o 7 (.box a0c (t 2)),o 8 (.box a0c (t 3)),o 9 (.box a0c (t 4)),o 10 (.mv (i 0))]
def D0x:SS:=[lA 11 2 6,lA 12 2 7,o 13 (.call l0X [t 11,t 12] false),lA 14 2 8,lA 15 2 9,o 16 (.call l0X [t 14,t 15] true),o 17 (.call j0I [t 13,t 16] true),mV 10 17]
def I0x:SF:=⟨5,18,[.tmp 10],
 (qS (gR D0w) (qS (.draw D0x [0,0,3,0,0,31,63,127] []) .ret))⟩
def D0y:SS:=[o 2 (.box a0g (t 0)),o 3 (.box a0c (t 1)),o 4 (.alloc a0c [.bool false,.slice none 0 0])]
def D0z:SS:=[lA 5 2 3,o 6 (.call n0L [t 5] true),
 ⟨none,none,.store 2 (t 4) (t 6)⟩]
def I0y:SF:=⟨2,7,[.cell 4 true 2],
 (qS (gR D0y) (qS (gR D0z) .ret))⟩
def D0A:SS:=[o 2 (.box a0g (t 0)),o 3 (.box a0c (t 1)),o 4 (.alloc a0c [.bool false,.slice none 0 0])]
def D0B:SS:=[lA 5 2 3,
 ⟨none,none,.store 2 (t 4) (t 5)⟩]
def I0z:SF:=⟨2,6,[.cell 4 true 2],
 (qS (gR D0A) (qS (gR D0B) .ret))⟩
def D0C:SS:=[o 2 (.box a0g (t 0)),o 3 (.box a0c (t 1)),o 4 (.alloc a0c [.bool false,.slice none 0 0])]
def D0D:SS:=[lA 5 2 3,
 ⟨none,none,.store 2 (t 4) (t 5)⟩]
def I0A:SF:=⟨2,6,[.cell 4 true 2],
 (qS (gR D0C) (qS (gR D0D) .ret))⟩
def D0E:SS:=[o 2 (.box a0g (t 0)),o 3 (.box a0c (t 1)),o 4 (.mv (i 0))]
def D0F:SS:=[lA 5 2 3,o 6 (.build [.bool false,.slice none 0 0] []),o 7 (.call j0I [t 5,t 6] true),mV 4 7]
def I0B:SF:=⟨2,8,[.tmp 4],
 (qS (gR D0E) (qS (gR D0F) .ret))⟩
def D0G:SS:=[o 6 (.box a0g (t 0)),o 7 (.box a0c (t 1)),o 8 (.box a0c (t 2)),o 9 (.box a0c (t 3)),o 10 (.box a0c (t 4)),o 11 (.box a0c (t 5)),o 12 (.alloc a0c [.bool false,.slice none 0 0])]
def D0H:SS:=[lA 17 2 7,lA 18 2 8,o 19 (.call l0X [t 17,t 18] false),lA 20 2 9,lA 21 2 10,o 22 (.call l0X [t 20,t 21] false),o 23 (.call w0n [t 19,t 22] false),lA 24 2 11,o 25 (.call j0J [t 23,t 24] false),mV 16 25,o 26 (.ext (t 16) 0),o 27 (.ext (t 16) 1),o 28 (.ext (t 16) 2),o 13 (.alloc a0c [.bool false,.slice none 0 0]),o 14 (.alloc a0c [.bool false,.slice none 0 0]),
 ⟨none,none,.store 2 (t 13) (t 26)⟩,
 ⟨none,none,.store 2 (t 14) (t 27)⟩,mV 15 28]
def D0I:SS:=[lA 29 2 13,
 ⟨none,none,.store 2 (t 12) (t 29)⟩]
def I0C:SF:=⟨6,30,[.cell 12 true 2],
 (qS (gR D0G) (qS (.draw D0H [0,0,3,0,0,31,63,0,255,511,1023,1023,1023,0,0,26623,61439,131071] []) (qS (gR D0I) .ret)))⟩
def D0J:SS:=[o 2 (.box a0c (t 0)),o 3 (.box a0c (t 1)),o 4 (.alloc a0c [.bool false,.slice none 0 0])]
def D0K:SS:=[lA 5 2 2,lA 6 2 3,o 7 (.call n0L [t 6] false),o 8 (.call F0E [t 5,t 7] true),
 ⟨none,none,.store 2 (t 4) (t 8)⟩]
def I0D:SF:=⟨2,9,[.cell 4 true 2],
 (qS (gR D0J) (qS (.draw D0K [0,0,2,7,15] []) .ret))⟩
def D0L:SS:=[o 5 (.box a0h (t 0)),o 10 (.mv (i 0))]
def D0M:SS:=[mV 11 1,mV 12 2,o 13 (.bin 0 .mul (t 11) (t 12)),mV 14 3,mV 15 4,o 16 (.bin 0 .mul (t 14) (t 15)),o 17 (.call u0x [t 13,t 16] true),mV 10 17]
def I0E:SF:=⟨5,18,[.tmp 10],
 (qS (gR D0L) (qS (gR D0M) .ret))⟩
def D0N:SS:=[o 2 (.box a0h (t 0)),o 4 (.mv (i 0))]
def D0O:SS:=[mV 5 1,o 6 (.un .neg (t 5)),mV 4 6]
def I0F:SF:=⟨2,7,[.tmp 4],
 (qS (gR D0N) (qS (gR D0O) .ret))⟩
def D0S:SS:=[o 2 (.box a0h (t 0)),o 4 (.alloc a0c [.bool false,.slice none 0 0])]
def D0T:SS:=[mV 5 1,o 6 (.call i0f [t 5] true),
 ⟨none,none,.store 2 (t 4) (t 6)⟩]
def I0G:SF:=⟨2,7,[.cell 4 true 2],
 (qS (gR D0S) (qS (gR D0T) .ret))⟩
def q0E:SS:=[o 2 (.box a0h (t 0)),o 3 (.box a0c (t 1)),o 4 (.mv (i 0))]
def q0F:SS:=[lA 8 2 3,o 9 (.call w0o [t 8] true),mV 7 9,o 10 (.ext (t 7) 0),o 11 (.ext (t 7) 1),mV 5 10,mV 6 11]
def q0G:SS:=[mV 12 6,o 13 (.un .not (t 12))]
def D0U:SS:=[o 14 (.build [] []),o 15 (.iface e0R (t 14)),
 ⟨none,none,.pan (t 15)⟩]
def q0H:SS:=[mV 16 5,o 17 (.call p0k [t 16] true),mV 4 17]
def F0h:SF:=⟨2,18,[.tmp 4],
 (qS (gR q0E) (qS (gR q0F) (qS (qS (gR q0G) (.cond (t 13) (gR D0U) .skip)) (qS (gR q0H) .ret))))⟩
def D0V:SS:=[o 2 (.box a0h (t 0)),o 4 (.mv (i 0))]
def D0W:SS:=[mV 5 1,o 6 (.call u0x [t 5,i 0] true),mV 4 6]
def I0H:SF:=⟨2,7,[.tmp 4],
 (qS (gR D0V) (qS (gR D0W) .ret))⟩
def D0X:SS:=[o 6 (.box a0h (t 0)),o 12 (.mv (i 0))]
def D0Y:SS:=[mV 13 1,mV 14 2,o 15 (.bin 0 .mul (t 13) (t 14)),mV 16 3,mV 17 4,o 18 (.bin 0 .mul (t 16) (t 17)),o 19 (.bin 0 .sub (t 15) (t 18)),mV 20 5,o 21 (.bin 0 .quo (t 19) (t 20)),o 22 (.call p0k [t 21] true),mV 12 22]
def I0I:SF:=⟨6,23,[.tmp 12],
 (qS (gR D0X) (qS (gR D0Y) .ret))⟩
def D0Z:SS:=[o 4 (.mv (i 0))]
def E0a:SS:=[mV 6 0,mV 7 1,o 8 (.bin 0 .lss (t 6) (t 7)),mV 5 8]
def E0b:SS:=[o 4 (.mv (.const (.int .i64 (-1))))]
def E0c:SS:=[mV 10 0,mV 11 1,o 12 (.bin 0 .gtr (t 10) (t 11)),mV 9 12]
def E0d:SS:=[o 4 (.mv (i 1))]
def E0e:SS:=[o 4 (.mv (i 0))]
def I0J:SF:=⟨2,13,[.tmp 4],
 (qS (gR D0Z) (qS (.block 0 (qS (gR E0a) (.cond (t 5) (qS (gR E0b) .ret) (qS (gR E0c) (.cond (t 9) (qS (gR E0d) .ret) .skip))))) (qS (gR E0e) .ret)))⟩
def E0f:SS:=[o 1 (.box a0c (t 0)),o 2 (.mv (i 0)),o 3 (.mv (.const (.bool false)))]
def E0g:SS:=[lA 8 2 1,o 9 (.call f0k [t 8] true),mV 4 9]
def E0h:SS:=[mV 10 4,lN 11 10,o 12 (.bin 0 .gtr (t 11) (i 2))]
def E0i:SS:=[o 2 (.mv (i 0)),o 3 (.mv (.const (.bool false)))]
def E0j:SS:=[o 5 (.mv (.const (.int .u64 0)))]
def E0k:SS:=[mV 13 4,lN 14 13,o 15 (.mv (i 0))]
def O0I:SS:=[o 16 (.bin 0 .lss (t 15) (t 14))]
def E0l:SS:=[mV 17 15,iA 18 1 13 15,lD 19 18,mV 6 17,mV 7 19]
def E0m:SS:=[mV 20 5,mV 21 7,o 22 (.conv .u64 (t 21)),mV 23 6,o 24 (.bin 0 .mul (i 32) (t 23)),o 25 (.bin 0 .shl (t 22) (t 24)),o 26 (.bin 0 .or (t 20) (t 25)),mV 5 26]
def O0J:SS:=[o 27 (.bin 0 .add (t 15) (i 1)),mV 15 27]
def t0w:SS:=[lA 29 2 1,o 30 (.call d0M [t 29] true),mV 31 30,og 32 31 true (.mv (t 5)),og 33 31 true (.bin 0 .leq (t 32) (.const (.int .u64 9223372036854775808))),o 34 (.pick (t 31) (t 33) (.const (.bool false))),mV 28 34]
def t0x:SS:=[mV 35 5,o 36 (.un .neg (t 35)),o 37 (.conv .i64 (t 36)),mV 2 37,o 3 (.mv (.const (.bool true)))]
def n0f:SS:=[lA 39 2 1,o 40 (.call d0M [t 39] true),o 41 (.un .not (t 40)),mV 42 41,og 43 42 true (.mv (t 5)),og 44 42 true (.bin 0 .lss (t 43) (.const (.int .u64 9223372036854775808))),o 45 (.pick (t 42) (t 44) (.const (.bool false))),mV 38 45]
def t0y:SS:=[mV 46 5,o 47 (.conv .i64 (t 46)),mV 2 47,o 3 (.mv (.const (.bool true)))]
def n0g:SS:=[o 2 (.mv (i 0)),o 3 (.mv (.const (.bool false)))]
def I0K:SF:=⟨1,48,[.tmp 2,.tmp 3],
 (qS (gR E0f) (qS (gR E0g) (qS (qS (gR E0h) (.cond (t 12) (qS (gR E0i) .ret) .skip)) (qS (gR E0j) (qS (qS (gR E0k) (.block 0 (.loop (qS (gR O0I) (qS (.cond (t 16) .skip (.exit 0)) (qS (.block 1 (qS (gR E0l) (gR E0m))) (gR O0J))))))) (qS (.block 2 (qS (gR t0w) (.cond (t 28) (qS (gR t0x) .ret) (qS (gR n0f) (.cond (t 38) (qS (gR t0y) .ret) .skip))))) (qS (gR n0g) .ret)))))))⟩
def q0I:SS:=[o 2 (.mv (i 0))]
def q0J:SS:=[mV 3 0,o 4 (.bin 0 .leq (t 3) (.const (.int .i64 (-2147483648)))),mV 5 4,og 6 5 false (.mv (t 0)),og 7 5 false (.bin 0 .geq (t 6) (i 2147483648)),o 8 (.pick (t 5) (.const (.bool true)) (t 7))]
def q0K:SS:=[o 9 (.build [] []),o 10 (.iface e0R (t 9)),
 ⟨none,none,.pan (t 10)⟩]
def q0L:SS:=[mV 11 0,mV 2 11]
def F0i:SF:=⟨1,12,[.tmp 2],
 (qS (gR q0I) (qS (qS (gR q0J) (.cond (t 8) (gR q0K) .skip)) (qS (gR q0L) .ret)))⟩
end
/- The small code of the program's functions: printed. -/
section
open Go
def p0b:List (Nat × q0Z):=[
 (f_6,s_6),
 (F0D,S0Q),
 (P0p,S0R),
 (P0q,S0S),
 (Q0G,S0U),
 (Q0H,S0V),
 (P0r,S0W),
 (P0s,S0X),
 (Q0I,S0Y),
 (P0t,S0Z),
 (Q0J,T0a),
 (P0u,T0b),
 (Q0K,T0c),
 (Q0L,T0d),
 (P0v,T0e),
 (n0R,T0f),
 (P0w,R0W),
 (Q0M,T0g),
 (N0n,T0h),
 (Q0N,T0i),
 (P0x,T0j),
 (Q0O,T0k),
 (P0y,T0l),
 (Q0P,T0m),
 (Q0Q,T0n),
 (Q0R,T0o),
 (Q0S,T0p),
 (u0y,T0q),
 (P0z,T0r),
 (Q0T,T0s),
 (F0E,T0t),
 (l0X,T0u),
 (l0Y,T0v),
 (G0a,T0w),
 (P0A,T0x),
 (Q0U,T0y),
 (N0o,T0z),
 (Q0V,T0A),
 (Q0W,T0B),
 (u0e,H0p),
 (v0R,H0q),
 (v0S,H0r),
 (v0T,H0s),
 (u0f,H0t),
 (u0g,H0u),
 (p0h,H0v),
 (l0T,H0w),
 (f0k,H0x),
 (d0M,H0y),
 (f0F,H0z),
 (v0U,H0A),
 (n0I,H0B),
 (u0h,H0C),
 (f0l,H0D),
 (i0f,H0E),
 (j0I,H0F),
 (n0J,H0G),
 (u0i,H0H),
 (n0K,H0I),
 (v0V,H0J),
 (u0j,H0K),
 (u0k,H0L),
 (l0U,H0M),
 (v0W,H0N),
 (u0l,H0O),
 (u0m,H0P),
 (v0X,H0Q),
 (u0n,H0R),
 (v0Y,H0S),
 (N0j,R0S),
 (n0L,H0T),
 (j0J,H0U),
 (v0Z,H0V),
 (w0a,H0W),
 (w0b,H0X),
 (w0c,H0Y),
 (u0o,H0Z),
 (u0p,I0a),
 (w0d,I0b),
 (u0q,I0c),
 (w0e,I0d),
 (N0k,R0T),
 (k0J,I0e),
 (u0r,I0f),
 (w0f,I0g),
 (u0s,I0h),
 (u0t,I0i),
 (n0M,I0j),
 (n0N,I0k),
 (N0l,R0U),
 (w0g,I0l),
 (w0h,I0m),
 (k0K,I0n),
 (u0u,I0o),
 (w0i,I0p),
 (u0v,I0q),
 (n0O,I0r),
 (N0m,R0V),
 (w0j,I0s),
 (u0w,I0t),
 (w0k,I0u),
 (w0l,I0v),
 (w0m,I0w),
 (p0i,I0x),
 (g0Q,I0y),
 (n0P,I0z),
 (f0G,I0A),
 (g0R,I0B),
 (l0V,I0C),
 (w0n,I0D),
 (p0j,I0E),
 (g0S,I0F),
 (n0Q,I0G),
 (f0m,F0h),
 (g0T,I0H),
 (l0W,I0I),
 (u0x,I0J),
 (w0o,I0K),
 (p0k,F0i)]
def l0J:List (Nat × q0Z):=[(Q0F,S0T)]
def env:Env:=⟨fun f=>(p0b ++ l0J).lookup f,some ⟨l0S,l0U,[.int .i64 0,.bool false,.slice none 0 0,.bool false,.slice none 0 0,.slice none 0 0,.slice none 0 0,.slice none 0 0],4,8⟩,[]⟩
theorem e_6:env.code f_6=some s_6:=rfl
theorem W0B:env.code F0D=some S0Q:=rfl
theorem W0C:env.code P0p=some S0R:=rfl
theorem W0D:env.code P0q=some S0S:=rfl
theorem W0F:env.code Q0G=some S0U:=rfl
theorem W0G:env.code Q0H=some S0V:=rfl
theorem W0H:env.code P0r=some S0W:=rfl
theorem W0I:env.code P0s=some S0X:=rfl
theorem W0J:env.code Q0I=some S0Y:=rfl
theorem W0K:env.code P0t=some S0Z:=rfl
theorem W0L:env.code Q0J=some T0a:=rfl
theorem W0M:env.code P0u=some T0b:=rfl
theorem W0N:env.code Q0K=some T0c:=rfl
theorem W0O:env.code Q0L=some T0d:=rfl
theorem W0P:env.code P0v=some T0e:=rfl
theorem W0Q:env.code n0R=some T0f:=rfl
theorem W0k:env.code P0w=some R0W:=rfl
theorem W0R:env.code Q0M=some T0g:=rfl
theorem W0S:env.code N0n=some T0h:=rfl
theorem W0T:env.code Q0N=some T0i:=rfl
theorem W0U:env.code P0x=some T0j:=rfl
theorem W0V:env.code Q0O=some T0k:=rfl
theorem W0W:env.code P0y=some T0l:=rfl
theorem W0X:env.code Q0P=some T0m:=rfl
theorem W0Y:env.code Q0Q=some T0n:=rfl
theorem W0Z:env.code Q0R=some T0o:=rfl
theorem X0a:env.code Q0S=some T0p:=rfl
theorem X0b:env.code u0y=some T0q:=rfl
theorem X0c:env.code P0z=some T0r:=rfl
theorem X0d:env.code Q0T=some T0s:=rfl
theorem X0e:env.code F0E=some T0t:=rfl
theorem X0f:env.code l0X=some T0u:=rfl
theorem X0g:env.code l0Y=some T0v:=rfl
theorem X0h:env.code G0a=some T0w:=rfl
theorem X0i:env.code P0A=some T0x:=rfl
theorem X0j:env.code Q0U=some T0y:=rfl
theorem X0k:env.code N0o=some T0z:=rfl
theorem X0l:env.code Q0V=some T0A:=rfl
theorem X0m:env.code Q0W=some T0B:=rfl
theorem U0z:env.code u0e=some H0p:=rfl
theorem U0A:env.code v0R=some H0q:=rfl
theorem U0B:env.code v0S=some H0r:=rfl
theorem U0C:env.code v0T=some H0s:=rfl
theorem U0D:env.code u0f=some H0t:=rfl
theorem U0E:env.code u0g=some H0u:=rfl
theorem U0F:env.code p0h=some H0v:=rfl
theorem U0G:env.code l0T=some H0w:=rfl
theorem U0H:env.code f0k=some H0x:=rfl
theorem U0I:env.code d0M=some H0y:=rfl
theorem U0J:env.code f0F=some H0z:=rfl
theorem U0K:env.code v0U=some H0A:=rfl
theorem U0L:env.code n0I=some H0B:=rfl
theorem U0M:env.code u0h=some H0C:=rfl
theorem U0N:env.code f0l=some H0D:=rfl
theorem U0O:env.code i0f=some H0E:=rfl
theorem U0P:env.code j0I=some H0F:=rfl
theorem U0Q:env.code n0J=some H0G:=rfl
theorem U0R:env.code u0i=some H0H:=rfl
theorem U0S:env.code n0K=some H0I:=rfl
theorem U0T:env.code v0V=some H0J:=rfl
theorem U0U:env.code u0j=some H0K:=rfl
theorem U0V:env.code u0k=some H0L:=rfl
theorem U0W:env.code l0U=some H0M:=rfl
theorem U0X:env.code v0W=some H0N:=rfl
theorem U0Y:env.code u0l=some H0O:=rfl
theorem U0Z:env.code u0m=some H0P:=rfl
theorem V0a:env.code v0X=some H0Q:=rfl
theorem V0b:env.code u0n=some H0R:=rfl
theorem V0c:env.code v0Y=some H0S:=rfl
theorem V0d:env.code n0L=some H0T:=rfl
theorem V0e:env.code j0J=some H0U:=rfl
theorem V0f:env.code v0Z=some H0V:=rfl
theorem V0g:env.code w0a=some H0W:=rfl
theorem V0h:env.code w0b=some H0X:=rfl
theorem V0i:env.code w0c=some H0Y:=rfl
theorem V0j:env.code u0o=some H0Z:=rfl
theorem V0k:env.code u0p=some I0a:=rfl
theorem V0l:env.code w0d=some I0b:=rfl
theorem V0m:env.code u0q=some I0c:=rfl
theorem V0n:env.code w0e=some I0d:=rfl
theorem V0o:env.code k0J=some I0e:=rfl
theorem V0p:env.code u0r=some I0f:=rfl
theorem V0q:env.code w0f=some I0g:=rfl
theorem V0r:env.code u0s=some I0h:=rfl
theorem V0s:env.code u0t=some I0i:=rfl
theorem V0t:env.code n0M=some I0j:=rfl
theorem V0u:env.code n0N=some I0k:=rfl
theorem V0v:env.code w0g=some I0l:=rfl
theorem V0w:env.code w0h=some I0m:=rfl
theorem V0x:env.code k0K=some I0n:=rfl
theorem V0y:env.code u0u=some I0o:=rfl
theorem V0z:env.code w0i=some I0p:=rfl
theorem V0A:env.code u0v=some I0q:=rfl
theorem V0B:env.code n0O=some I0r:=rfl
theorem V0C:env.code w0j=some I0s:=rfl
theorem V0D:env.code u0w=some I0t:=rfl
theorem V0E:env.code w0k=some I0u:=rfl
theorem V0F:env.code w0l=some I0v:=rfl
theorem V0G:env.code w0m=some I0w:=rfl
theorem V0H:env.code p0i=some I0x:=rfl
theorem V0I:env.code g0Q=some I0y:=rfl
theorem V0J:env.code n0P=some I0z:=rfl
theorem V0K:env.code f0G=some I0A:=rfl
theorem V0L:env.code g0R=some I0B:=rfl
theorem V0M:env.code l0V=some I0C:=rfl
theorem V0N:env.code w0n=some I0D:=rfl
theorem V0O:env.code p0j=some I0E:=rfl
theorem V0P:env.code g0S=some I0F:=rfl
theorem V0Q:env.code n0Q=some I0G:=rfl
theorem Q0B:env.code f0m=some F0h:=rfl
theorem V0R:env.code g0T=some I0H:=rfl
theorem V0S:env.code l0W=some I0I:=rfl
theorem V0T:env.code u0x=some I0J:=rfl
theorem V0U:env.code w0o=some I0K:=rfl
theorem Q0C:env.code p0k=some F0i:=rfl
theorem W0E:env.code Q0F=some S0T:=rfl
end
end Go.Proofs.YtjlohmnnldbjoaaGreat.AI
