/- Part 13 of the proof. -/
import Derived.Test.YtgopfcmbofkmmaaGreatChecked
import Derived.Test.YtgopfcmbofkmmaaGreatM11
set_option linter.unusedVariables false
set_option linter.unusedSimpArgs false
set_option linter.unusedSectionVars false
namespace Go.Proofs.YtgopfcmbofkmmaaGreat.AI
section
open Go
def e1Z:SS:=[mV 13 6,o 14 (bI .add 13 1),mV 6 14]
def f1a:SS:=[mV 48 5,mV 4 48]
def D1f:SF:=⟨2,49,[.tmp 4],
 (qS (gR e1S) (qS (gR e1T) (qS (qS (gR e1U) (.block 0 (.loop (qS (qS (gR e1V) (.cond (t 12) .skip (.exit 0))) (qS (.block 1 (qS (.draw e1W [0,1,0,0,12,28,60,127,255] []) (qS (.draw e1X [0,1,0,7,0,0,48,112,240,0,512,0,4095,8191,16383] []) (gR e1Y)))) (gR e1Z)))))) (qS (gR f1a) .ret))))⟩
def f1b:SS:=[bX 2 a0y 0,bX 3 a0y 1,o 4 (.alloc a0y [.int .i64 0,.slice none 0 0,.slice none 0 0,.slice none 0 0,.bool false,.slice none 0 0,.slice none 0 0]),o 5 (.alloc a0j [.slice none 0 0,.slice none 0 0,.bool false,.slice none 0 0])]
def f1c:SS:=[fA 9 0 2,lD 10 9,fA 11 0 3,lD 12 11,o 13 (bT .add 10 12),mV 6 13]
def f1d:SS:=[fA 14 1 2,lD 15 14,mV 16 6,cB 17 w0Q [t 15,i 0,t 16],fA 18 1 3,lD 19 18,fA 20 0 2,lD 21 20,mV 22 6,cA 23 w0Q [t 19,t 21,t 22],o 24 (.app a0j 4 80 (t 17) (t 23)),mV 7 24]
def f1e:SS:=[o 25 (.lit d0L [.bool false] 0 []),fA 26 6 2,lD 27 26,o 28 (.app d0L 1 1 (t 25) (t 27)),fA 29 6 3,lD 30 29,o 31 (.app d0L 1 1 (t 28) (t 30)),mV 8 31]
def f1f:SS:=[mV 32 6,mV 33 7,fA 34 2 3,lA 35 4 34,fA 36 0 2,lD 37 36,mV 38 6,cB 39 y0M [t 35,t 37,t 38],mV 40 8,o 41 (.build [.int .i64 0,.slice none 0 0,.slice none 0 0,.slice none 0 0,.bool false,.slice none 0 0,.slice none 0 0] [(0,1,t 32),(1,1,t 33),(2,4,t 39),(6,1,t 40)]),fA 42 2 2,lA 43 4 42,mV 44 6,cA 45 y0M [t 43,i 0,t 44],sT 7 4 41,sT 4 5 45]
def D1g:SF:=⟨2,46,[.cell 4 true 7,.cell 5 true 4],
 (qS (gR f1b) (qS (gR f1c) (qS (.draw f1d [0,1,0,7,0,16,0,64,0,511,1023,2047] []) (qS (.draw f1e [0,0,2,7,0,16,63,127] [(3,5)]) (qS (.draw f1f [0,0,0,4,0,16,0,124,0,511,0,1024,0,7420,16383,32767] []) .ret)))))⟩
def f1g:SS:=[mN 6]
def f1h:SS:=[mN 7]
def f1i:SS:=[mI 8 0]
def f1j:SS:=[mV 9 8,mV 10 0,lN 11 10,o 12 (bT .lss 9 11)]
def f1k:SS:=[mV 15 7,mV 16 0,mV 17 8,iA 18 4 16 17,lA 19 4 18,mV 20 1,mV 21 2,cA 22 y0M [t 19,t 20,t 21],o 23 (.lit a0j [.slice none 0 0,.slice none 0 0,.bool false,.slice none 0 0] 1 [(0,4,t 22)]),o 24 (.app a0j 4 80 (t 15) (t 23)),mV 7 24]
def f1l:SS:=[mV 13 8,o 14 (bI .add 13 1),mV 8 14]
def f1m:SS:=[mV 25 7,mV 6 25]
def D1h:SF:=⟨3,26,[.tmp 6],
 (qS (gR f1g) (qS (gR f1h) (qS (qS (gR f1i) (.block 0 (.loop (qS (qS (gR f1j) (.cond (t 12) .skip (.exit 0))) (qS (.block 1 (gR f1k)) (gR f1l)))))) (qS (gR f1m) .ret))))⟩
def f1n:SS:=[mN 8,mN 9,mN 10,mI 11 0]
def f1o:SS:=[mV 20 0,mV 21 1,mV 22 2,mV 23 3,o 24 (.call G0A [t 20,t 21,t 22,t 23,(.const (.bool true))] true),mV 19 24,eX 25 19 0,eX 26 19 1,mV 12 25,mV 13 26]
def f1p:SS:=[mV 27 13,nT 28 27]
def f1q:SS:=[mN 8,mN 9,mN 10,mI 11 1]
def f1r:SS:=[mV 30 12,mV 31 0,lN 32 31,o 33 (bI .sub 32 1),cA 34 G0I [t 30,t 33],mV 29 34,eX 35 29 0,eX 36 29 1,mV 14 35,mV 15 36]
def f1s:SS:=[mV 37 12,cK 38 37,fA 39 4 38,lD 40 39]
def f1t:SS:=[mN 8,mN 9,mN 10,mI 11 10]
def f1u:SS:=[mN 16,mN 17]
def f1v:SS:=[mI 18 0]
def f1w:SS:=[mV 41 18,mV 42 14,lN 43 42,o 44 (bT .lss 41 43)]
def L0b:SS:=[mV 47 14,mV 48 18,iA 49 8 47 48,fA 50 7 49,lD 51 50]
def L0c:SS:=[mV 52 16,mV 53 14,mV 54 18,iA 55 8 53 54,fA 56 0 55,lA 57 7 56,o 58 (.lit a0y [.int .i64 0,.slice none 0 0,.slice none 0 0,.slice none 0 0,.bool false,.slice none 0 0,.slice none 0 0] 1 [(0,7,t 57)]),o 59 (.app a0y 7 136 (t 52) (t 58)),mV 16 59]
def L0d:SS:=[mV 60 17,mV 61 14,mV 62 18,iA 63 8 61 62,fA 64 0 63,lA 65 7 64,o 66 (.lit a0y [.int .i64 0,.slice none 0 0,.slice none 0 0,.slice none 0 0,.bool false,.slice none 0 0,.slice none 0 0] 1 [(0,7,t 65)]),o 67 (.app a0y 7 136 (t 60) (t 66)),mV 17 67]
def L0e:SS:=[mV 45 18,o 46 (bI .add 45 1),mV 18 46]
def L0f:SS:=[mV 68 16,mV 69 17,mV 70 15,mV 8 68,mV 9 69,mV 10 70,mI 11 0]
def D1i:SF:=⟨4,71,[.tmp 8,.tmp 9,.tmp 10,.tmp 11],
 (qS (gR f1n) (qS (gR f1o) (qS (qS (gR f1p) (.cond (t 28) (qS (gR f1q) .ret) .skip)) (qS (gR f1r) (qS (qS (gR f1s) (.cond (t 40) (qS (gR f1t) .ret) .skip)) (qS (gR f1u) (qS (qS (gR f1v) (.block 0 (.loop (qS (qS (gR f1w) (.cond (t 44) .skip (.exit 0))) (qS (.block 1 (qS (gR L0b) (.cond (t 51) (gR L0c) (gR L0d)))) (gR L0e)))))) (qS (gR L0f) .ret))))))))⟩
def f1x:SS:=[mI 8 0]
def f1y:SS:=[mV 9 8,mV 10 3,lN 11 10,o 12 (bT .lss 9 11)]
def f1z:SS:=[mV 15 0,mV 16 1,mV 17 2,mV 18 3,mV 19 8,iA 20 7 18 19,lA 21 7 20,mV 22 0,mV 23 3,mV 24 8,iA 25 7 23 24,fA 26 0 25,lD 27 26,cA 28 n0C [t 22,t 27],cA 29 o0X [t 15,t 16,t 17,t 21,t 28]]
def f1A:SS:=[mV 13 8,o 14 (bI .add 13 1),mV 8 14]
def D1j:SF:=⟨4,30,[],
 (qS (gR f1x) (.block 0 (.loop (qS (qS (gR f1y) (.cond (t 12) .skip (.exit 0))) (qS (.block 1 (.draw f1z [0,0,0,0,0,24,56,0,0,0,768,1792,3840,8064,16383] [(6,13)])) (gR f1A))))))⟩
def f1B:SS:=[mI 4 0]
def f1C:SS:=[mV 6 0,lN 7 6,mI 8 0]
def f1D:SS:=[o 9 (bT .lss 8 7)]
def f1E:SS:=[mV 10 8,mV 5 10]
def f1F:SS:=[mV 11 1,mV 12 0,mV 13 5,iA 14 5 12 13,lA 15 5 14,o 16 (.callv (t 11) [t 15] true)]
def f1G:SS:=[mV 17 5,mV 4 17]
def f1H:SS:=[o 18 (bI .add 8 1),mV 8 18]
def f1I:SS:=[o 4 (.mv (.const (.int .i64 (-1))))]
def D1k:SF:=⟨2,19,[.tmp 4],
 (qS (gR f1B) (qS (qS (gR f1C) (.block 0 (.loop (qS (gR f1D) (qS (.cond (t 9) .skip (.exit 0)) (qS (.block 1 (qS (gR f1E) (qS (gR f1F) (.cond (t 16) (qS (gR f1G) .ret) .skip)))) (gR f1H))))))) (qS (gR f1I) .ret)))⟩
def f1J:SS:=[bX 4 a0w 0,bX 5 b0b 1,mB 8 false]
def f1K:SS:=[fA 10 4 5,lD 11 10,lN 12 11,mV 9 12]
def f1L:SS:=[lA 13 1 4,mV 14 9,mV 15 2,cA 16 G1g [t 13,t 14,t 15],mV 17 16,gT 18 17 (mS 3),gT 19 17 (bI .geq 18 0),pF 20 17 19,mV 21 20,gT 22 21 (mS 3),gT 23 21 (fS 0 4),gT 24 21 (lS 23),gT 25 21 (nS 24),gT 26 21 (bT .lss 22 25),pF 27 21 26,mV 28 27,gT 29 28 (fS 2 5),gT 30 28 (lS 29),gT 31 28 (bI .geq 30 0),pF 32 28 31,mV 33 32,gT 34 33 (fS 4 5),gT 35 33 (lS 34),gT 36 33 (mS 9),gT 37 33 (fS 2 5),gT 38 33 (lS 37),gT 39 33 (.call G0J [t 35,t 36,t 38] true),pF 40 33 39,mV 41 40,gT 42 41 (fS 3 5),gT 43 41 (lS 42),gT 44 41 (mS 9),gT 45 41 (fS 2 5),gT 46 41 (lS 45),gT 47 41 (.call G0J [t 43,t 44,t 46] true),pF 48 41 47,mV 8 48]
def D1l:SF:=⟨4,49,[.tmp 8],
 (qS (gR f1J) (qS (gR f1K) (qS (gR f1L) .ret)))⟩
def f1M:SS:=[mB 2 false]
def f1N:SS:=[mV 3 0,o 4 (.call G0s [t 3,.fn W0r] true),mV 2 4]
def D1m:SF:=⟨1,5,[.tmp 2],
 (qS (gR f1M) (qS (gR f1N) .ret))⟩
def f1O:SS:=[bX 4 a0w 0,bX 5 b0b 1,o 8 (.alloc d0e zL),o 9 (.alloc a0d zR),mB 10 false]
def f1P:SS:=[lA 14 1 4,lA 15 6 5,mV 16 2,mV 17 3,cA 18 G0D [t 14,t 15,t 16,t 17],nT 19 18,mV 20 19,gF 21 20 (aS 1 4),gF 22 20 (aS 6 5),gF 23 20 (mS 2),gF 24 20 (.call W0s [t 21,t 22,t 23] true),gF 25 20 (.un .not (t 24)),pT 26 20 25,mV 27 26,gF 28 27 (mS 2),gF 29 27 (.call G0E [t 28] true),pT 30 27 29]
def f1Q:SS:=[o 31 (.build zL []),o 32 (.build zR []),sT 4 8 31,sT 4 9 32,mB 10 false]
def f1R:SS:=[lA 33 1 4,mV 34 2,fA 35 4 5,lD 36 35,lN 37 36,fA 38 2 5,lD 39 38,o 40 (bT .add 37 39),cA 41 W0t [t 33,t 34,t 40],o 11 (.alloc d0e zL),sT 4 11 41]
def f1S:SS:=[fA 42 3 5,lD 43 42,cA 44 W0u [t 11,t 43]]
def f1T:SS:=[lA 46 1 4,lA 47 6 5,mV 48 3,cA 49 W0v [t 46,t 47,t 48],mV 45 49,eX 50 45 0,eX 51 45 1,o 13 (.alloc a0d zR),mV 12 50,sT 4 13 51]
def f1U:SS:=[mV 52 12,fA 53 3 11,sT 1 53 52]
def f1V:SS:=[lA 54 4 11,lA 55 4 13,sT 4 8 54,sT 4 9 55,mB 10 true]
def D1n:SF:=⟨4,56,[.cell 8 true 4,.cell 9 true 4,.tmp 10],
 (qS (gR f1O) (qS (qS (gR f1P) (.cond (t 30) (qS (gR f1Q) .ret) .skip)) (qS (gR f1R) (qS (gR f1S) (qS (gR f1T) (qS (gR f1U) (qS (.draw f1V [0,0,1,7,15] [(1,2)]) .ret)))))))⟩
def f1W:SS:=[bX 1 d0e 0,o 2 (.alloc b0N zA),mI 3 0,mI 4 0]
def f1X:SS:=[lA 7 4 1,cA 8 W0w [t 7],nT 9 8]
def f1Y:SS:=[o 10 (.build zA []),sT 8 2 10,mI 3 0,mI 4 1]
def f1Z:SS:=[lA 12 4 1,cA 13 W0x [t 12],mV 11 13,eX 14 11 0,eX 15 11 1,o 5 (.alloc b0N zA),sT 8 5 14,mV 6 15]
def g1a:SS:=[lA 16 8 5,mV 17 6,sT 8 2 16,mV 3 17,mI 4 0]
def D1o:SF:=⟨1,18,[.cell 2 true 8,.tmp 3,.tmp 4],
 (qS (gR f1W) (qS (qS (gR f1X) (.cond (t 9) (qS (gR f1Y) .ret) .skip)) (qS (gR f1Z) (qS (gR g1a) .ret))))⟩
def g1b:SS:=[bX 2 a0m 0,bX 3 a0d 1,o 4 (.alloc a0m zE)]
def g1c:SS:=[lA 5 5 2,cA 6 q0X [t 5],sT 5 2 6]
def g1d:SS:=[fA 7 0 2,lD 8 7,o 9 (bI .neq 8 0)]
def g1e:SS:=[lA 10 5 2,sT 5 4 10]
def g1f:SS:=[fA 11 1 2,lA 12 4 11,lA 13 4 3,cA 14 j0t [t 12,t 13],cA 15 H0e [t 14],sT 5 4 15]
def D1p:SF:=⟨2,16,[.cell 4 true 5],
 (qS (gR g1b) (qS (gR g1c) (qS (qS (gR g1d) (.cond (t 9) (qS (gR g1e) .ret) .skip)) (qS (gR g1f) .ret))))⟩
def g1u:SS:=[mI 4 0]
def g1v:SS:=[mV 6 0,lN 7 6,mI 8 0]
def g1w:SS:=[o 9 (bT .lss 8 7)]
def g1x:SS:=[mV 10 8,mV 5 10]
def g1y:SS:=[mV 11 1,mV 12 0,mV 13 5,iA 14 1 12 13,lD 15 14,o 16 (.bin 1 .eql (t 11) (t 15))]
def g1z:SS:=[mV 17 5,mV 4 17]
def g1A:SS:=[o 18 (bI .add 8 1),mV 8 18]
def g1B:SS:=[o 4 (.mv (.const (.int .i64 (-1))))]
def D1q:SF:=⟨2,19,[.tmp 4],
 (qS (gR g1u) (qS (qS (gR g1v) (.block 0 (.loop (qS (gR g1w) (qS (.cond (t 9) .skip (.exit 0)) (qS (.block 1 (qS (gR g1x) (qS (gR g1y) (.cond (t 16) (qS (gR g1z) .ret) .skip)))) (gR g1A))))))) (qS (gR g1B) .ret)))⟩
def g1N:SS:=[mB 4 false]
def g1O:SS:=[mV 6 0,cK 7 6,fA 8 0 7,lD 9 8,mV 10 0,cK 11 10,fA 12 1 11,lD 13 12,iA 14 3 9 13,lA 15 3 14,o 5 (.alloc b0a [.int .i64 0,(.string ⟨#[]⟩),.int .i64 0]),sT 3 5 15]
def g1P:SS:=[mV 16 0,cK 17 16,fA 18 3 17,lD 19 18,o 20 (bI .eql 19 0),mV 21 20,gT 22 21 (fS 0 5),gT 23 21 (lS 22),gT 24 21 (bI .eql 23 4),gT 25 21 (mS 24),gF 26 25 (fS 0 5),gF 27 25 (lS 26),gF 28 25 (bI .eql 27 3),gT 29 21 (.pick (t 25) (.const (.bool true)) (t 28)),pF 30 21 29,mV 31 30,gT 32 31 (fS 1 5),gT 33 31 (lS 32),gT 34 31 (mS 1),gT 35 31 (bT .eql 33 34),pF 36 31 35,mV 4 36]
def D1r:SF:=⟨2,37,[.tmp 4],
 (qS (gR g1N) (qS (.draw g1O [0,1,3,7,0,16,48,112,255,511,0,2047] []) (qS (gR g1P) .ret)))⟩
def g1Q:SS:=[o 2 (.alloc b0M [.int .i64 0,(.string ⟨#[]⟩),(.string ⟨#[]⟩),.slice none 0 0,.slice none 0 0,.slice none 0 0,.slice none 0 0])]
def g1R:SS:=[o 4 (.build [.int .i64 0,(.string ⟨#[]⟩),(.string ⟨#[]⟩),.slice none 0 0,.slice none 0 0,.slice none 0 0,.slice none 0 0] []),o 3 (.alloc b0M [.int .i64 0,(.string ⟨#[]⟩),(.string ⟨#[]⟩),.slice none 0 0,.slice none 0 0,.slice none 0 0,.slice none 0 0]),sT 7 3 4]
def g1S:SS:=[mV 9 0,cK 10 9,fA 11 3 10,lD 12 11,o 13 (bI .eql 12 0),mV 14 13,gT 15 14 (mS 0),gT 16 14 (.chk (t 15)),gT 17 14 (fS 0 16),gT 18 14 (lS 17),gT 19 14 (mS 0),gT 20 14 (.chk (t 19)),gT 21 14 (fS 1 20),gT 22 14 (lS 21),gT 23 14 (iS 3 18 22),gT 24 14 (fS 0 23),gT 25 14 (lS 24),gT 26 14 (bI .eql 25 1),pF 27 14 26,mV 8 27]
def g1T:SS:=[mV 28 0,cA 29 W0y [t 28],sT 7 2 29]
def g1U:SS:=[mV 31 0,o 32 (.call f0k [t 31,(.const (.string ⟨#[104,97,118,111,99]⟩))] true),mV 30 32]
def g1V:SS:=[fA 33 0 3,⟨none,none,.store 1 (t 33) (i 2)⟩]
def g1W:SS:=[mV 34 0,cA 35 o0Z [t 34],fA 36 1 3,sT 1 36 35]
def g1X:SS:=[mV 38 0,o 39 (.call f0k [t 38,(.const (.string ⟨#[97,115,115,117,109,101]⟩))] true),mV 37 39]
def g1Y:SS:=[fA 40 0 3,⟨none,none,.store 1 (t 40) (i 3)⟩]
def g1Z:SS:=[mV 41 0,o 42 (.call s0Q [t 41,(.const (.slice none 0 0))] true),fA 43 3 3,sT 1 43 42]
def L0g:SS:=[mV 45 0,o 46 (.call f0k [t 45,(.const (.string ⟨#[97,115,115,101,114,116]⟩))] true),mV 44 46]
def L0h:SS:=[fA 47 0 3,⟨none,none,.store 1 (t 47) (i 4)⟩]
def L0i:SS:=[mV 48 0,o 49 (.call s0Q [t 48,(.const (.slice none 0 0))] true),fA 50 3 3,sT 1 50 49]
def L0j:SS:=[mV 52 0,o 53 (.call f0k [t 52,(.const (.string ⟨#[115,107,105,112]⟩))] true),mV 51 53]
def L0k:SS:=[fA 54 0 3,⟨none,none,.store 1 (t 54) (i 9)⟩]
def L0l:SS:=[mV 56 0,o 57 (.call f0k [t 56,(.const (.string ⟨#[105,102]⟩))] true),mV 55 57]
def L0m:SS:=[fA 58 0 3,⟨none,none,.store 1 (t 58) (i 5)⟩]
def L0n:SS:=[mV 59 0,o 60 (.call s0Q [t 59,(.const (.slice none 0 0))] true),fA 61 3 3,sT 1 61 60]
def L0o:SS:=[mV 62 0,cA 63 s0R [t 62],fA 64 5 3,sT 1 64 63]
def L0p:SS:=[mV 65 0,o 66 (.call f0k [t 65,(.const (.string ⟨#[101,108,115,101]⟩))] true)]
def L0q:SS:=[mV 67 0,cA 68 s0R [t 67],fA 69 6 3,sT 1 69 68]
def L0r:SS:=[lA 70 7 3,sT 7 2 70]
def L0s:SS:=[mV 72 0,o 73 (.call f0k [t 72,(.const (.string ⟨#[119,104,105,108,101]⟩))] true),mV 71 73]
def L0t:SS:=[fA 74 0 3,⟨none,none,.store 1 (t 74) (i 6)⟩]
def L0u:SS:=[mV 75 0,o 76 (.call s0Q [t 75,(.const (.slice none 0 0))] true),fA 77 3 3,sT 1 77 76]
def L0v:SS:=[mV 78 0,cA 79 s0R [t 78],fA 80 5 3,sT 1 80 79]
def L0w:SS:=[lA 81 7 3,sT 7 2 81]
def L0x:SS:=[mV 83 0,o 84 (.call f0k [t 83,(.const (.string ⟨#[101,105,116,104,101,114]⟩))] true),mV 82 84]
def L0y:SS:=[fA 85 0 3,⟨none,none,.store 1 (t 85) (i 7)⟩]
def L0z:SS:=[mV 86 0,cA 87 s0R [t 86],fA 88 5 3,sT 1 88 87]
def L0A:SS:=[mV 89 0,o 90 (.call g0W [t 89,(.const (.string ⟨#[111,114]⟩))] true)]
def L0B:SS:=[mV 91 0,cA 92 s0R [t 91],fA 93 6 3,sT 1 93 92]
def L0C:SS:=[lA 94 7 3,sT 7 2 94]
def L0D:SS:=[mV 5 0,cA 6 w0U [t 5,i 4]]
def L0E:SS:=[lA 7 7 3,sT 7 2 7]
def L0F:SS:=[mV 95 0,o 96 (.call g0W [t 95,(.const (.string ⟨#[59]⟩))] true)]
def L0G:SS:=[lA 97 7 3,sT 7 2 97]
def D1s:SF:=⟨1,98,[.cell 2 true 7],
 (qS (gR g1Q) (qS (gR g1R) (qS (.block 0 (qS (.draw g1S [0,1,3,7,15,31,63,127,255,511,63,1087,3135,7231,16383,32767,65535,131071,262143,524287] []) (.cond (t 8) (qS (gR g1T) .ret) (qS (gR g1U) (.cond (t 30) (qS (gR g1V) (gR g1W)) (qS (gR g1X) (.cond (t 37) (qS (gR g1Y) (gR g1Z)) (qS (gR L0g) (.cond (t 44) (qS (gR L0h) (gR L0i)) (qS (gR L0j) (.cond (t 51) (gR L0k) (qS (gR L0l) (.cond (t 55) (qS (gR L0m) (qS (gR L0n) (qS (gR L0o) (qS (qS (gR L0p) (.cond (t 66) (gR L0q) .skip)) (qS (gR L0r) .ret))))) (qS (gR L0s) (.cond (t 71) (qS (gR L0t) (qS (gR L0u) (qS (gR L0v) (qS (gR L0w) .ret)))) (qS (gR L0x) (.cond (t 82) (qS (gR L0y) (qS (gR L0z) (qS (gR L0A) (qS (gR L0B) (qS (gR L0C) .ret))))) (qS (gR L0D) (qS (gR L0E) .ret))))))))))))))))))) (qS (gR L0F) (qS (gR L0G) .ret)))))⟩
def h1a:SS:=[bX 1 b0M 0,mB 2 false]
def h1b:SS:=[fA 8 3 1,lD 9 8,lN 10 9,o 11 (bI .gtr 10 0),fA 12 1 1,lD 13 12,o 14 (.bin 0 .neq (t 13) (.const (.string ⟨#[]⟩))),fA 15 4 1,lD 16 15,lN 17 16,o 18 (bI .gtr 17 0),mV 3 11,mV 4 14,mV 5 18]
def h1c:SS:=[fA 19 5 1,lD 20 19,lN 21 20,o 22 (bI .gtr 21 0),mV 23 22,gF 24 23 (fS 6 1),gF 25 23 (lS 24),gF 26 23 (nS 25),gF 27 23 (bI .gtr 26 0),pT 28 23 27,mV 6 28]
def h1d:SS:=[mV 29 4,mV 30 29,gT 31 30 (fS 1 1),gT 32 30 (lS 31),gT 33 30 (.call p0a [t 32] true),gT 34 30 (.un .not (t 33)),pF 35 30 34,mV 36 35,gF 37 36 (fS 0 1),gF 38 36 (lS 37),gF 39 36 (bI .neq 38 8),gF 40 36 (mS 39),gT 41 40 (fS 2 1),gT 42 40 (lS 41),gT 43 40 (.bin 0 .neq (t 42) (.const (.string ⟨#[]⟩))),gT 44 40 (mS 43),gF 45 44 (mS 5),gT 46 40 (.pick (t 44) (.const (.bool true)) (t 45)),gF 47 36 (.pick (t 40) (t 46) (.const (.bool false))),pT 48 36 47]
def h1e:SS:=[mB 2 false]
def h1f:SS:=[fA 49 0 1,lD 50 49]
def h1g:SS:=[o 52 (bI .eql 50 1),mV 51 52]
def h1h:SS:=[mV 53 4,mV 54 53,gT 55 54 (mS 6),gT 56 54 (.un .not (t 55)),pF 57 54 56,mV 58 57,gT 59 58 (fS 3 1),gT 60 58 (lS 59),gT 61 58 (.call r0d [t 60,(.const (.bool false))] true),pF 62 58 61,mV 2 62]
def h1i:SS:=[o 64 (bI .eql 50 2),mV 63 64]
def h1j:SS:=[mV 65 4,mV 66 65,gT 67 66 (mS 6),gT 68 66 (.un .not (t 67)),pF 69 66 68,mV 70 69,gT 71 70 (mS 3),gT 72 70 (.un .not (t 71)),pF 73 70 72,mV 2 73]
def L0H:SS:=[o 75 (bI .eql 50 3),mV 74 75]
def L0I:SS:=[o 76 (bI .eql 50 4),mV 74 76]
def L0J:SS:=[mV 77 4,nT 78 77,mV 79 78,gT 80 79 (mS 6),gT 81 79 (.un .not (t 80)),pF 82 79 81,mV 83 82,gT 84 83 (fS 3 1),gT 85 83 (lS 84),gT 86 83 (.call r0d [t 85,(.const (.bool true))] true),pF 87 83 86,mV 2 87]
def L0K:SS:=[o 89 (bI .eql 50 5),mV 88 89]
def L0L:SS:=[mV 90 4,nT 91 90,mV 92 91,gT 93 92 (fS 3 1),gT 94 92 (lS 93),gT 95 92 (.call r0d [t 94,(.const (.bool true))] true),pF 96 92 95,mV 2 96]
def L0M:SS:=[o 98 (bI .eql 50 6),mV 97 98]
def L0N:SS:=[mV 99 4,nT 100 99,mV 101 100,gT 102 101 (fS 6 1),gT 103 101 (lS 102),gT 104 101 (nS 103),gT 105 101 (bI .eql 104 0),pF 106 101 105,mV 107 106,gT 108 107 (fS 3 1),gT 109 107 (lS 108),gT 110 107 (.call r0d [t 109,(.const (.bool true))] true),pF 111 107 110,mV 2 111]
def L0O:SS:=[o 113 (bI .eql 50 7),mV 112 113]
def L0P:SS:=[mV 114 4,nT 115 114,mV 116 115,gT 117 116 (mS 3),gT 118 116 (.un .not (t 117)),pF 119 116 118,mV 2 119]
def L0Q:SS:=[o 121 (bI .eql 50 8),mV 120 121]
def L0R:SS:=[mI 7 0]
def L0S:SS:=[mV 122 7,fA 123 4 1,lD 124 123,lN 125 124,o 126 (bT .lss 122 125)]
def L0T:SS:=[fA 129 4 1,lD 130 129,mV 131 7,iA 132 1 130 131,lD 133 132,o 134 (.call r0d [t 133,(.const (.bool false))] true),nT 135 134]
def L0U:SS:=[mB 2 false]
def L0V:SS:=[mV 127 7,o 128 (bI .add 127 1),mV 7 128]
def L0W:SS:=[fA 136 2 1,lD 137 136,cA 138 p0a [t 137],mV 139 138,gT 140 139 (mS 6),gT 141 139 (.un .not (t 140)),pF 142 139 141,mV 143 142,gT 144 143 (mS 3),gT 145 143 (.un .not (t 144)),pF 146 143 145,mV 2 146]
def L0X:SS:=[o 148 (bI .eql 50 9),mV 147 148]
def L0Y:SS:=[mV 149 4,nT 150 149,mV 151 150,gT 152 151 (mS 6),gT 153 151 (.un .not (t 152)),pF 154 151 153,mV 155 154,gT 156 155 (mS 3),gT 157 155 (.un .not (t 156)),pF 158 155 157,mV 2 158]
def L0Z:SS:=[mB 2 false]
def D1t:SF:=⟨1,159,[.tmp 2],
 (qS (gR h1a) (qS (.draw h1b [0,1,3,7,0,16,48,0,128,384,896,15,2175,8191] []) (qS (gR h1c) (qS (qS (gR h1d) (.cond (t 48) (qS (gR h1e) .ret) .skip)) (qS (qS (gR h1f) (.block 0 (qS (gR h1g) (.cond (t 51) (qS (gR h1h) .ret) (qS (gR h1i) (.cond (t 63) (qS (gR h1j) .ret) (qS (qS (gR L0H) (.cond (t 74) .skip (gR L0I))) (.cond (t 74) (qS (gR L0J) .ret) (qS (gR L0K) (.cond (t 88) (qS (gR L0L) .ret) (qS (gR L0M) (.cond (t 97) (qS (gR L0N) .ret) (qS (gR L0O) (.cond (t 112) (qS (gR L0P) .ret) (qS (gR L0Q) (.cond (t 120) (qS (qS (gR L0R) (.block 1 (.loop (qS (qS (gR L0S) (.cond (t 126) .skip (.exit 1))) (qS (.block 2 (qS (gR L0T) (.cond (t 135) (qS (gR L0U) .ret) .skip))) (gR L0V)))))) (qS (gR L0W) .ret)) (qS (gR L0X) (.cond (t 147) (qS (gR L0Y) .ret) .skip)))))))))))))))))) (qS (gR L0Z) .ret))))))⟩
def h1k:SS:=[o 2 (.mv (.const (.string ⟨#[]⟩)))]
def h1l:SS:=[mN 3]
def h1m:SS:=[mI 4 0]
def h1n:SS:=[mV 5 4,mV 6 0,lN 7 6,o 8 (bT .lss 5 7)]
def h1o:SS:=[mV 11 3,mV 12 0,mV 13 4,iA 14 7 12 13,lA 15 7 14,cA 16 W0z [t 15],o 17 (.app c0n 1 1 (t 11) (t 16)),mV 3 17]
def h1p:SS:=[mV 18 3,o 19 (.lit c0n [.int .u8 0] 1 [(0,1,(.const (.int .u8 32)))]),o 20 (.app c0n 1 1 (t 18) (t 19)),mV 3 20]
def h1q:SS:=[mV 9 4,o 10 (bI .add 9 1),mV 4 10]
def h1r:SS:=[mV 21 3,o 22 (.b2s (t 21)),mV 2 22]
def D1u:SF:=⟨1,23,[.tmp 2],
 (qS (gR h1k) (qS (gR h1l) (qS (qS (gR h1m) (.block 0 (.loop (qS (qS (gR h1n) (.cond (t 8) .skip (.exit 0))) (qS (.block 1 (qS (gR h1o) (gR h1p))) (gR h1q)))))) (qS (gR h1r) .ret))))⟩
def h1s:SS:=[mB 4 false]
def h1t:SS:=[mN 5]
def h1u:SS:=[mI 6 0]
def h1v:SS:=[mV 9 6,mV 10 0,lN 11 10,o 12 (bT .lss 9 11)]
def h1w:SS:=[mV 15 0,mV 16 6,iA 17 5 15 16,lA 18 5 17,o 7 (.alloc b0n [.int .i64 0,.int .i64 0,(.string ⟨#[]⟩),.int .i64 0,.int .i64 0]),sT 5 7 18]
def h1x:SS:=[fA 19 0 7,lD 20 19,o 21 (bI .neq 20 1),mV 22 21,gT 23 22 (fS 1 7),gT 24 22 (lS 23),gT 25 22 (bI .neq 24 0),pF 26 22 25,mV 27 26,gF 28 27 (fS 0 7),gF 29 27 (lS 28),gF 30 27 (bI .neq 29 2),gF 31 27 (mS 30),gT 32 31 (fS 2 7),gT 33 31 (lS 32),gT 34 31 (.bin 0 .neq (t 33) (.const (.string ⟨#[]⟩))),gF 35 27 (.pick (t 31) (t 34) (.const (.bool false))),pT 36 27 35]
def h1y:SS:=[mB 4 false]
def h1z:SS:=[mV 37 5,lN 38 37,mV 8 38]
def h1A:SS:=[fA 40 0 7,lD 41 40,o 42 (bI .eql 41 1),mV 43 42,gT 44 43 (fS 1 7),gT 45 43 (lS 44),gT 46 43 (bI .geq 45 0),pF 47 43 46,mV 48 47,gT 49 48 (fS 1 7),gT 50 48 (lS 49),gT 51 48 (bI .leq 50 999999999),pF 52 48 51,mV 53 52,gF 54 53 (fS 0 7),gF 55 53 (lS 54),gF 56 53 (bI .eql 55 2),gF 57 53 (mS 56),gT 58 57 (fS 2 7),gT 59 57 (lS 58),gT 60 57 (.call p0a [t 59] true),gF 61 53 (.pick (t 57) (t 60) (.const (.bool false))),pT 62 53 61,mV 63 62,gF 64 63 (fS 0 7),gF 65 63 (lS 64),gF 66 63 (bI .geq 65 9),gF 67 63 (mS 66),gT 68 67 (fS 0 7),gT 69 67 (lS 68),gT 70 67 (bI .leq 69 11),gF 71 63 (.pick (t 67) (t 70) (.const (.bool false))),pT 72 63 71,mV 39 72]
def h1B:SS:=[fA 73 3 7,lD 74 73,o 75 (.bin 0 .neq (t 74) (.const (.int .i64 (-1)))),mV 76 75,gF 77 76 (fS 4 7),gF 78 76 (lS 77),gF 79 76 (.bin 0 .neq (t 78) (.const (.int .i64 (-1)))),pT 80 76 79]
def M0a:SS:=[mB 4 false]
def M0b:SS:=[mV 81 5,mV 82 6,fA 83 0 7,lD 84 83,o 85 (bI .geq 84 9),o 86 (.build [.int .i64 0,.bool false] [(0,1,t 82),(1,1,t 85)]),o 87 (.lit a0S [.int .i64 0,.bool false] 1 [(0,2,t 86)]),o 88 (.app a0S 2 16 (t 81) (t 87)),mV 5 88]
def M0c:SS:=[fA 90 0 7,lD 91 90,o 92 (bI .eql 91 3),mV 93 92,gF 94 93 (fS 0 7),gF 95 93 (lS 94),gF 96 93 (bI .eql 95 18),pT 97 93 96,mV 89 97]
def M0d:SS:=[mV 98 8,o 99 (bI .lss 98 1),mV 100 99,gF 101 100 (mS 5),gF 102 100 (mS 8),gF 103 100 (bI .sub 102 1),gF 104 100 (iS 2 101 103),gF 105 100 (fS 0 104),gF 106 100 (lS 105),gF 107 100 (fS 3 7),gF 108 100 (lS 107),gF 109 100 (bT .neq 106 108),pT 110 100 109,mV 111 110,gF 112 111 (fS 4 7),gF 113 111 (lS 112),gF 114 111 (.bin 0 .neq (t 113) (.const (.int .i64 (-1)))),pT 115 111 114,mV 116 115,gF 117 116 (mS 5),gF 118 116 (mS 8),gF 119 116 (bI .sub 118 1),gF 120 116 (iS 2 117 119),gF 121 116 (fS 1 120),gF 122 116 (lS 121),gF 123 116 (fS 0 7),gF 124 116 (lS 123),gF 125 116 (bI .eql 124 18),gF 126 116 (.bin 1 .neq (t 122) (t 125)),pT 127 116 126]
def M0e:SS:=[mB 4 false]
def M0f:SS:=[mV 128 5,mV 129 8,o 130 (bI .sub 129 1),mV 131 8,o 132 (bI .sub 131 1),o 133 (.sl a0S 2 (t 128) none (some (t 130)) (some (t 132))),mV 134 6,fA 135 0 7,lD 136 135,o 137 (bI .eql 136 18),o 138 (.build [.int .i64 0,.bool false] [(0,1,t 134),(1,1,t 137)]),o 139 (.lit a0S [.int .i64 0,.bool false] 1 [(0,2,t 138)]),o 140 (.app a0S 2 16 (t 133) (t 139)),mV 5 140]
def M0g:SS:=[fA 142 0 7,lD 143 142,o 144 (bI .geq 143 4),mV 145 144,gT 146 145 (fS 0 7),gT 147 145 (lS 146),gT 148 145 (bI .leq 147 8),pF 149 145 148,mV 150 149,gF 151 150 (fS 0 7),gF 152 150 (lS 151),gF 153 150 (bI .geq 152 12),gF 154 150 (mS 153),gT 155 154 (fS 0 7),gT 156 154 (lS 155),gT 157 154 (bI .leq 156 17),gF 158 150 (.pick (t 154) (t 157) (.const (.bool false))),pT 159 150 158,mV 160 159,gF 161 160 (fS 0 7),gF 162 160 (lS 161),gF 163 160 (bI .eql 162 19),pT 164 160 163,mV 165 164,gF 166 165 (fS 0 7),gF 167 165 (lS 166),gF 168 165 (bI .eql 167 20),pT 169 165 168,mV 141 169]
def M0h:SS:=[mV 170 8,o 171 (bI .lss 170 2),mV 172 171,gF 173 172 (mS 5),gF 174 172 (mS 8),gF 175 172 (bI .sub 174 2),gF 176 172 (iS 2 173 175),gF 177 172 (fS 0 176),gF 178 172 (lS 177),gF 179 172 (fS 3 7),gF 180 172 (lS 179),gF 181 172 (bT .neq 178 180),pT 182 172 181,mV 183 182,gF 184 183 (mS 5),gF 185 183 (mS 8),gF 186 183 (bI .sub 185 1),gF 187 183 (iS 2 184 186),gF 188 183 (fS 0 187),gF 189 183 (lS 188),gF 190 183 (fS 4 7),gF 191 183 (lS 190),gF 192 183 (bT .neq 189 191),pT 193 183 192,mV 194 193,gF 195 194 (mS 5),gF 196 194 (mS 8),gF 197 194 (bI .sub 196 1),gF 198 194 (iS 2 195 197),gF 199 194 (fS 1 198),gF 200 194 (lS 199),gF 201 194 (fS 0 7),gF 202 194 (lS 201),gF 203 194 (bI .geq 202 19),gF 204 194 (.bin 1 .neq (t 200) (t 203)),pT 205 194 204,mV 206 205,gF 207 206 (mS 5),gF 208 206 (mS 8),gF 209 206 (bI .sub 208 2),gF 210 206 (iS 2 207 209),gF 211 206 (fS 1 210),gF 212 206 (lS 211),gF 213 206 (fS 0 7),gF 214 206 (lS 213),gF 215 206 (bI .geq 214 19),gF 216 206 (.bin 1 .neq (t 212) (t 215)),pT 217 206 216]
def M0i:SS:=[mB 4 false]
def M0j:SS:=[mV 218 5,mV 219 8,o 220 (bI .sub 219 2),mV 221 8,o 222 (bI .sub 221 2),o 223 (.sl a0S 2 (t 218) none (some (t 220)) (some (t 222))),mV 224 6,fA 225 0 7,lD 226 225,o 227 (bI .geq 226 12),o 228 (.build [.int .i64 0,.bool false] [(0,1,t 224),(1,1,t 227)]),o 229 (.lit a0S [.int .i64 0,.bool false] 1 [(0,2,t 228)]),o 230 (.app a0S 2 16 (t 223) (t 229)),mV 5 230]
def M0k:SS:=[mB 4 false]
def M0l:SS:=[mV 13 6,o 14 (bI .add 13 1),mV 6 14]
def M0m:SS:=[mV 231 5,lN 232 231,o 233 (bI .eql 232 1),mV 234 233,gT 235 234 (mS 5),gT 236 234 (.ia 2 (t 235) (i 0)),gT 237 234 (fS 1 236),gT 238 234 (lS 237),gT 239 234 (mS 1),gT 240 234 (.bin 1 .eql (t 238) (t 239)),pF 241 234 240,mV 4 241]
def D1v:SF:=⟨2,242,[.tmp 4],
 (qS (gR h1s) (qS (gR h1t) (qS (qS (gR h1u) (.block 0 (.loop (qS (qS (gR h1v) (.cond (t 12) .skip (.exit 0))) (qS (.block 1 (qS (gR h1w) (qS (qS (gR h1x) (.cond (t 36) (qS (gR h1y) .ret) .skip)) (qS (gR h1z) (.block 2 (qS (gR h1A) (.cond (t 39) (qS (qS (gR h1B) (.cond (t 80) (qS (gR M0a) .ret) .skip)) (gR M0b)) (qS (gR M0c) (.cond (t 89) (qS (qS (.draw M0d [0,1,3,7,7,23,63,127,255,7,519,2047,4095,8191,16383,32767,65535,131071,262143,524287,524287,1572863,4194303,8388607,16777215,524287,34078719,101187583,268435455,536870911] []) (.cond (t 127) (qS (gR M0e) .ret) .skip)) (.draw M0f [0,0,2,0,8,31,0,0,128,384,960,1984,4095,8191] [])) (qS (gR M0g) (.cond (t 141) (qS (qS (.draw M0h [0,1,3,7,7,23,63,127,255,7,519,2047,4095,8191,16383,16383,49151,131071,262143,524287,16383,1064959,4194303,8388607,16777215,33554431,33554431,100663295,268435455,536870911,1073741823,33554431,2181038079,6476005375,17179869183,34359738367,68719476735,137438953471,137438953471,412316860415,1099511627775,2199023255551,4398046511103,137438953471,8933531975679,26525718020095,70368744177663,140737488355327] []) (.cond (t 217) (qS (gR M0i) .ret) .skip)) (.draw M0j [0,0,2,0,8,31,0,0,128,384,960,1984,4095,8191] [])) (qS (gR M0k) .ret)))))))))))) (gR M0l)))))) (qS (gR M0m) .ret))))⟩
def h1C:SS:=[mI 4 0]
def h1D:SS:=[mI 5 0]
def h1E:SS:=[mV 6 5,mV 7 0,cK 8 7,fA 9 1 8,lD 10 9,lN 11 10,o 12 (bT .lss 6 11)]
def h1F:SS:=[mV 15 0,cK 16 15,fA 17 1 16,lD 18 17,mV 19 5,iA 20 1 18 19,lD 21 20,mV 22 1,o 23 (bT .eql 21 22)]
def h1G:SS:=[mV 24 0,cK 25 24,fA 26 2 25,lD 27 26,mV 28 5,iA 29 1 27 28,lD 30 29,mV 4 30]
def h1H:SS:=[mV 13 5,o 14 (bI .add 13 1),mV 5 14]
def h1I:SS:=[o 4 (.mv (.const (.int .i64 (-1))))]
def D1w:SF:=⟨2,31,[.tmp 4],
 (qS (gR h1C) (qS (qS (gR h1D) (.block 0 (.loop (qS (qS (gR h1E) (.cond (t 12) .skip (.exit 0))) (qS (.block 1 (qS (gR h1F) (.cond (t 23) (qS (gR h1G) .ret) .skip))) (gR h1H)))))) (qS (gR h1I) .ret)))⟩
def h1J:SS:=[o 4 (.alloc a0a zI),mB 5 false]
def h1K:SS:=[mV 13 1,o 14 (bI .lss 13 0),mV 15 14,gF 16 15 (mS 1),gF 17 15 (mS 0),gF 18 15 (nS 17),gF 19 15 (bT .geq 16 18),pT 20 15 19]
def h1L:SS:=[o 21 (.build zI []),sT 2 4 21,mB 5 false]
def h1M:SS:=[mV 22 0,mV 23 1,iA 24 5 22 23,lA 25 5 24,o 6 (.alloc b0n [.int .i64 0,.int .i64 0,(.string ⟨#[]⟩),.int .i64 0,.int .i64 0]),sT 5 6 25]
def h1N:SS:=[fA 26 0 6,lD 27 26,o 28 (bI .eql 27 1)]
def h1O:SS:=[fA 29 1 6,lD 30 29,cA 31 s0Y [t 30],sT 2 4 31,mB 5 true]
def h1P:SS:=[fA 32 0 6,lD 33 32,o 34 (bI .lss 33 3),mV 35 34,gF 36 35 (fS 0 6),gF 37 35 (lS 36),gF 38 35 (bI .gtr 37 8),pT 39 35 38]
def h1Q:SS:=[o 40 (.build zI []),sT 2 4 40,mB 5 false]
def h1R:SS:=[mV 42 0,fA 43 3 6,lD 44 43,cA 45 r0e [t 42,t 44],mV 41 45,eX 46 41 0,eX 47 41 1,o 7 (.alloc a0a zI),sT 2 7 46,mV 8 47]
def h1S:SS:=[mV 48 8,nT 49 48,mV 50 49,gF 51 50 (fS 0 6),gF 52 50 (lS 51),gF 53 50 (bI .eql 52 3),pT 54 50 53]
def M0n:SS:=[lA 55 2 7,cA 56 y0L [t 55],mV 57 8,sT 2 4 56,mV 5 57]
def M0o:SS:=[mV 59 0,fA 60 4 6,lD 61 60,cA 62 r0e [t 59,t 61],mV 58 62,eX 63 58 0,eX 64 58 1,o 9 (.alloc a0a zI),sT 2 9 63,mV 10 64]
def M0p:SS:=[mV 65 10,nT 66 65]
def M0q:SS:=[o 67 (.build zI []),sT 2 4 67,mB 5 false]
def M0r:SS:=[fA 68 0 6,lD 69 68]
def M0s:SS:=[o 71 (bI .eql 69 4),mV 70 71]
def M0t:SS:=[lA 72 2 7,lA 73 2 9,cA 74 r0c [t 72,t 73],sT 2 4 74,mB 5 true]
def M0u:SS:=[o 76 (bI .eql 69 5),mV 75 76]
def M0v:SS:=[lA 77 2 7,lA 78 2 9,cA 79 W0d [t 77,t 78],sT 2 4 79,mB 5 true]
def M0w:SS:=[o 81 (bI .eql 69 6),mV 80 81]
def M0x:SS:=[lA 82 2 7,lA 83 2 9,cA 84 q0T [t 82,t 83],sT 2 4 84,mB 5 true]
def M0y:SS:=[fA 85 1 9,lD 86 85,lN 87 86,o 88 (bI .eql 87 0)]
def M0z:SS:=[o 89 (.build zI []),sT 2 4 89,mB 5 false]
def M0A:SS:=[lA 91 2 7,lA 92 2 9,cA 93 I1U [t 91,t 92],mV 90 93,eX 94 90 0,eX 95 90 1,o 11 (.alloc a0a zI),o 12 (.alloc a0a zI),sT 2 11 94,sT 2 12 95]
def M0B:SS:=[fA 96 0 6,lD 97 96,o 98 (bI .eql 97 7)]
def M0C:SS:=[lA 99 2 11,sT 2 4 99,mB 5 true]
def M0D:SS:=[lA 100 2 12,sT 2 4 100,mB 5 true]
def D1x:SF:=⟨2,101,[.cell 4 true 2,.tmp 5],
 (qS (gR h1J) (qS (qS (gR h1K) (.cond (t 20) (qS (gR h1L) .ret) .skip)) (qS (gR h1M) (qS (qS (gR h1N) (.cond (t 28) (qS (gR h1O) .ret) .skip)) (qS (qS (gR h1P) (.cond (t 39) (qS (gR h1Q) .ret) .skip)) (qS (gR h1R) (qS (qS (gR h1S) (.cond (t 54) (qS (gR M0n) .ret) .skip)) (qS (gR M0o) (qS (qS (gR M0p) (.cond (t 66) (qS (gR M0q) .ret) .skip)) (qS (qS (gR M0r) (.block 0 (qS (gR M0s) (.cond (t 70) (qS (gR M0t) .ret) (qS (gR M0u) (.cond (t 75) (qS (gR M0v) .ret) (qS (gR M0w) (.cond (t 80) (qS (gR M0x) .ret) .skip)))))))) (qS (qS (gR M0y) (.cond (t 88) (qS (gR M0z) .ret) .skip)) (qS (gR M0A) (qS (qS (gR M0B) (.cond (t 98) (qS (gR M0C) .ret) .skip)) (qS (gR M0D) .ret))))))))))))))⟩
def h1T:SS:=[mN 4,mN 5]
def h1U:SS:=[mV 22 0,cK 23 22,fA 24 0 23,lD 25 24,mV 26 1,iA 27 5 25 26,lA 28 5 27,o 6 (.alloc b0n [.int .i64 0,.int .i64 0,(.string ⟨#[]⟩),.int .i64 0,.int .i64 0]),sT 5 6 28]
def h1V:SS:=[mV 30 0,fA 31 3 6,lD 32 31,cA 33 q0Y [t 30,t 32],mV 29 33,eX 34 29 0,eX 35 29 1,mV 7 34,mV 8 35]
def h1W:SS:=[mV 36 0,cK 37 36,fA 38 4 37,lD 39 38]
def h1X:SS:=[mN 4,mN 5]
def h1Y:SS:=[mV 41 0,fA 42 4 6,lD 43 42,cA 44 q0Y [t 41,t 43],mV 40 44,eX 45 40 0,eX 46 40 1,mV 9 45,mV 10 46]
def h1Z:SS:=[mV 47 0,cK 48 47,fA 49 4 48,lD 50 49]
def i1a:SS:=[mN 4,mN 5]
def i1b:SS:=[mI 11 0]
def i1c:SS:=[mV 51 11,mV 52 7,lN 53 52,o 54 (bT .lss 51 53)]
def M0E:SS:=[mV 57 8,mV 58 7,mV 59 11,iA 60 7 58 59,lA 61 7 60,mV 62 10,cA 63 G0B [t 61,t 62],o 64 (.app e0U 3 40 (t 57) (t 63)),mV 8 64]
def M0F:SS:=[mV 55 11,o 56 (bI .add 55 1),mV 11 56]
def M0G:SS:=[mN 12]
def M0H:SS:=[mI 13 0]
def M0I:SS:=[mV 65 13,mV 66 7,lN 67 66,o 68 (bT .lss 65 67)]
def M0J:SS:=[mI 14 0]
def M0K:SS:=[mV 71 14,mV 72 9,lN 73 72,o 74 (bT .lss 71 73)]
def M0L:SS:=[mV 78 7,mV 79 13,iA 80 7 78 79,lA 81 7 80,mV 82 9,mV 83 14,iA 84 7 82 83,lA 85 7 84,cB 86 G0C [t 81,t 85],mV 77 86,eX 87 77 0,eX 88 77 1,o 15 (.alloc a0y [.int .i64 0,.slice none 0 0,.slice none 0 0,.slice none 0 0,.bool false,.slice none 0 0,.slice none 0 0]),o 16 (.alloc a0j [.slice none 0 0,.slice none 0 0,.bool false,.slice none 0 0]),sT 7 15 87,sT 4 16 88]
def M0M:SS:=[fA 89 0 6,lD 90 89]
def M0N:SS:=[o 135 (bI .eql 90 4),mV 134 135]
def M0O:SS:=[lA 136 4 16,fA 137 2 15,lA 138 4 137,cA 139 n0D [t 136,i 1,t 138,i 1,i 0],fA 140 2 15,sT 4 140 139]
def M0P:SS:=[mV 141 12,lA 142 7 15,o 143 (.lit a0y [.int .i64 0,.slice none 0 0,.slice none 0 0,.slice none 0 0,.bool false,.slice none 0 0,.slice none 0 0] 1 [(0,7,t 142)]),o 144 (.app a0y 7 136 (t 141) (t 143)),mV 12 144]
def M0Q:SS:=[o 146 (bI .eql 90 5),mV 145 146]
def M0R:SS:=[lA 147 4 16,fA 148 2 15,lA 149 4 148,o 150 (.call n0D [t 147,i 1,t 149,(.const (.int .i64 (-1))),i 0] true),fA 151 2 15,sT 4 151 150]
def M0S:SS:=[mV 152 12,lA 153 7 15,o 154 (.lit a0y [.int .i64 0,.slice none 0 0,.slice none 0 0,.slice none 0 0,.bool false,.slice none 0 0,.slice none 0 0] 1 [(0,7,t 153)]),o 155 (.app a0y 7 136 (t 152) (t 154)),mV 12 155]
def M0T:SS:=[o 157 (bI .eql 90 6),mV 156 157]
def M0U:SS:=[lA 159 7 15,mV 160 0,cK 161 160,fA 162 3 161,lD 163 162,cB 164 v1B [t 159,t 163],mV 158 164,eX 165 158 0,eX 166 158 1,o 17 (.alloc a0y [.int .i64 0,.slice none 0 0,.slice none 0 0,.slice none 0 0,.bool false,.slice none 0 0,.slice none 0 0]),o 18 (.alloc a0j [.slice none 0 0,.slice none 0 0,.bool false,.slice none 0 0]),sT 7 17 165,sT 4 18 166]
def M0V:SS:=[lA 167 4 18,fA 168 2 17,sT 4 168 167]
def M0W:SS:=[mV 169 12,lA 170 7 17,o 171 (.lit a0y [.int .i64 0,.slice none 0 0,.slice none 0 0,.slice none 0 0,.bool false,.slice none 0 0,.slice none 0 0] 1 [(0,7,t 170)]),o 172 (.app a0y 7 136 (t 169) (t 171)),mV 12 172]
def M0X:SS:=[mV 91 8,mV 92 0,mV 93 1,cA 94 I1W [t 92,t 93],lA 95 7 15,fA 96 2 15,lA 97 4 96,fA 98 2 15,lA 99 4 98,o 100 (.call s0Y [(.const (.int .i64 (-1)))] false),cB 101 v1w [t 99,t 100],o 102 (.lit a0j [.slice none 0 0,.slice none 0 0,.bool false,.slice none 0 0] 2 [(0,4,t 97),(4,4,t 101)]),cA 103 I1V [t 94,t 95,t 102],o 104 (.lit e0U [.int .i64 0,.int .i64 0,.slice none 0 0] 1 [(0,3,t 103)]),o 105 (.app e0U 3 40 (t 91) (t 104)),mV 8 105]
def M0Y:SS:=[lA 107 7 15,mV 108 0,cK 109 108,fA 110 3 109,lD 111 110,cB 112 v1B [t 107,t 111],mV 106 112,eX 113 106 0,eX 114 106 1,o 19 (.alloc a0y [.int .i64 0,.slice none 0 0,.slice none 0 0,.slice none 0 0,.bool false,.slice none 0 0,.slice none 0 0]),o 20 (.alloc a0j [.slice none 0 0,.slice none 0 0,.bool false,.slice none 0 0]),sT 7 19 113,sT 4 20 114]
def M0Z:SS:=[fA 115 2 19,lA 116 4 115,o 21 (.alloc a0j [.slice none 0 0,.slice none 0 0,.bool false,.slice none 0 0]),sT 4 21 116]
def N0a:SS:=[mV 117 12,lA 118 7 19,lA 119 4 20,lA 120 4 21,lA 121 4 21,o 122 (.call n0D [t 120,(.const (.int .i64 (-1))),t 121,i 0,i 1] false),o 123 (.lit a0j [.slice none 0 0,.slice none 0 0,.bool false,.slice none 0 0] 1 [(0,4,t 122)]),cB 124 y0R [t 118,t 119,t 123],lA 125 7 19,lA 126 4 20,lA 127 4 21,lA 128 4 21,cB 129 n0D [t 127,i 1,t 128,i 0,i 1],o 130 (.lit a0j [.slice none 0 0,.slice none 0 0,.bool false,.slice none 0 0] 1 [(0,4,t 129)]),cA 131 y0R [t 125,t 126,t 130],o 132 (.lit a0y [.int .i64 0,.slice none 0 0,.slice none 0 0,.slice none 0 0,.bool false,.slice none 0 0,.slice none 0 0] 2 [(0,7,t 124),(7,7,t 131)]),o 133 (.app a0y 7 136 (t 117) (t 132)),mV 12 133]
def N0b:SS:=[mV 75 14,o 76 (bI .add 75 1),mV 14 76]
def N0c:SS:=[mV 69 13,o 70 (bI .add 69 1),mV 13 70]
def N0d:SS:=[mV 173 0,mV 174 12,mV 175 8,cA 176 G0M [t 173,t 174,t 175],eX 177 176 0,eX 178 176 1,mV 4 177,mV 5 178]
def D1y:SF:=⟨2,179,[.tmp 4,.tmp 5],
 (qS (gR h1T) (qS (gR h1U) (qS (gR h1V) (qS (qS (gR h1W) (.cond (t 39) (qS (gR h1X) .ret) .skip)) (qS (gR h1Y) (qS (qS (gR h1Z) (.cond (t 50) (qS (gR i1a) .ret) .skip)) (qS (qS (gR i1b) (.block 0 (.loop (qS (qS (gR i1c) (.cond (t 54) .skip (.exit 0))) (qS (.block 1 (gR M0E)) (gR M0F)))))) (qS (gR M0G) (qS (qS (gR M0H) (.block 2 (.loop (qS (qS (gR M0I) (.cond (t 68) .skip (.exit 2))) (qS (.block 3 (qS (gR M0J) (.block 4 (.loop (qS (qS (gR M0K) (.cond (t 74) .skip (.exit 4))) (qS (.block 5 (qS (.draw M0L [0,0,3,7,0,0,48,112,255,511,1023,1023,0,0,14335,32767] []) (qS (gR M0M) (.block 6 (qS (gR M0N) (.cond (t 134) (qS (gR M0O) (gR M0P)) (qS (gR M0Q) (.cond (t 145) (qS (gR M0R) (gR M0S)) (qS (gR M0T) (.cond (t 156) (qS (.draw M0U [0,0,2,6,14,31,63,127,127,0,0,1791,4095] []) (qS (gR M0V) (gR M0W))) (qS (.draw M0X [0,0,0,6,0,0,32,0,128,14,910,2030,4094,8190,16383,32767] [(3,4),(3,6),(3,8)]) (qS (.draw M0Y [0,0,2,6,14,31,63,127,127,0,0,1791,4095] []) (qS (gR M0Z) (.draw N0a [0,0,0,0,0,24,56,126,0,0,0,0,3326,7422,16382,32766,65535,131071] [])))))))))))))) (gR N0b))))))) (gR N0c)))))) (qS (gR N0d) .ret))))))))))⟩
def i1d:SS:=[bX 3 a0j 0,o 6 (.alloc a0j [.slice none 0 0,.slice none 0 0,.bool false,.slice none 0 0])]
def i1e:SS:=[mV 9 2,cA 10 y0D [t 9],mV 7 10]
def i1f:SS:=[mI 8 0]
def i1g:SS:=[mV 11 8,fA 12 1 3,lD 13 12,lN 14 13,o 15 (bT .lss 11 14)]
def i1h:SS:=[mV 18 7,mV 19 1,mV 20 8,o 21 (bT .add 19 20),fA 22 1 3,lD 23 22,mV 24 8,iA 25 2 23 24,lA 26 2 25,iA 27 2 18 21,sT 2 27 26]
def i1i:SS:=[mV 16 8,o 17 (bI .add 16 1),mV 8 17]
def i1j:SS:=[o 28 (.lit a0a zI 0 []),fA 29 0 3,lD 30 29,o 31 (.app a0a 2 32 (t 28) (t 30)),mV 32 7,fA 33 2 3,lA 34 2 33,o 35 (.build [.slice none 0 0,.slice none 0 0,.bool false,.slice none 0 0] [(0,1,t 31),(1,1,t 32),(2,2,t 34)]),sT 4 6 35]
def D1z:SF:=⟨3,36,[.cell 6 true 4],
 (qS (gR i1d) (qS (gR i1e) (qS (qS (gR i1f) (.block 0 (.loop (qS (qS (gR i1g) (.cond (t 15) .skip (.exit 0))) (qS (.block 1 (gR i1h)) (gR i1i)))))) (qS (.draw i1j [0,0,2,7,0,0,32,127,255] [(3,6)]) .ret))))⟩
def i1k:SS:=[mN 4,mN 5]
def i1l:SS:=[mV 23 0,cK 24 23,fA 25 0 24,lD 26 25,mV 27 1,iA 28 5 26 27,lA 29 5 28,o 6 (.alloc b0n [.int .i64 0,.int .i64 0,(.string ⟨#[]⟩),.int .i64 0,.int .i64 0]),sT 5 6 29]
def i1m:SS:=[mV 30 0,cK 31 30,fA 32 3 31,lD 33 32,o 34 (.build zI []),cA 35 q0V [t 33,i 0,t 34],o 36 (.build [.int .i64 0,.slice none 0 0,.slice none 0 0,.slice none 0 0,.bool false,.slice none 0 0,.slice none 0 0] [(2,4,t 35)]),o 7 (.alloc a0y [.int .i64 0,.slice none 0 0,.slice none 0 0,.slice none 0 0,.bool false,.slice none 0 0,.slice none 0 0]),sT 7 7 36]
def i1n:SS:=[fA 37 0 6,lD 38 37]
def i1o:SS:=[o 40 (bI .eql 38 9),mV 39 40]
def i1p:SS:=[o 41 (bI .eql 38 10),mV 39 41]
def i1q:SS:=[lA 42 7 7,fA 43 0 6,lD 44 43,o 45 (bI .eql 44 9),o 46 (.build [.int .i64 0,.slice none 0 0,.slice none 0 0,.slice none 0 0,.bool false,.slice none 0 0,.slice none 0 0,.bool false] [(0,7,t 42),(7,1,t 45)]),o 47 (.lit a0u [.int .i64 0,.slice none 0 0,.slice none 0 0,.slice none 0 0,.bool false,.slice none 0 0,.slice none 0 0,.bool false] 1 [(0,8,t 46)]),mV 4 47,mN 5]
def i1r:SS:=[o 49 (bI .eql 38 11),mV 48 49]
def i1s:SS:=[lA 50 7 7,lA 51 7 7,o 8 (.alloc a0y [.int .i64 0,.slice none 0 0,.slice none 0 0,.slice none 0 0,.bool false,.slice none 0 0,.slice none 0 0]),o 9 (.alloc a0y [.int .i64 0,.slice none 0 0,.slice none 0 0,.slice none 0 0,.bool false,.slice none 0 0,.slice none 0 0]),sT 7 8 50,sT 7 9 51]
def i1t:SS:=[o 52 (.lit d0L [.bool false] 1 [(0,1,(.const (.bool true)))]),fA 53 6 8,sT 1 53 52]
def N0e:SS:=[o 54 (.lit d0L [.bool false] 1 [(0,1,(.const (.bool false)))]),fA 55 6 9,sT 1 55 54]
def N0f:SS:=[lA 56 7 8,o 57 (.build [.int .i64 0,.slice none 0 0,.slice none 0 0,.slice none 0 0,.bool false,.slice none 0 0,.slice none 0 0,.bool false] [(0,7,t 56),(7,1,(.const (.bool true)))]),lA 58 7 9,o 59 (.build [.int .i64 0,.slice none 0 0,.slice none 0 0,.slice none 0 0,.bool false,.slice none 0 0,.slice none 0 0,.bool false] [(0,7,t 58)]),o 60 (.lit a0u [.int .i64 0,.slice none 0 0,.slice none 0 0,.slice none 0 0,.bool false,.slice none 0 0,.slice none 0 0,.bool false] 2 [(0,8,t 57),(8,8,t 59)]),mV 4 60,mN 5]
def N0g:SS:=[o 62 (bI .eql 38 18),mV 61 62]
def N0h:SS:=[mV 64 0,fA 65 3 6,lD 66 65,cA 67 G0I [t 64,t 66],mV 63 67,eX 68 63 0,eX 69 63 1,mV 10 68,mV 11 69]
def N0i:SS:=[mI 12 0]
def N0j:SS:=[mV 70 12,mV 71 10,lN 72 71,o 73 (bT .lss 70 72)]
def N0k:SS:=[mV 76 10,mV 77 12,mV 78 10,mV 79 12,iA 80 8 78 79,fA 81 7 80,lD 82 81,nT 83 82,iA 84 8 76 77,fA 85 7 84,sT 1 85 83]
def N0l:SS:=[mV 74 12,o 75 (bI .add 74 1),mV 12 75]
def N0m:SS:=[mV 86 10,mV 87 11,mV 4 86,mV 5 87]
def N0n:SS:=[o 89 (bI .eql 38 19),mV 88 89]
def N0o:SS:=[o 90 (bI .eql 38 20),mV 88 90]
def N0p:SS:=[mV 91 0,lA 92 5 6,cA 93 I1X [t 91,t 92],eX 94 93 0,eX 95 93 1,mV 4 94,mV 5 95]
def N0q:SS:=[mV 97 0,fA 98 3 6,lD 99 98,cA 100 q0Y [t 97,t 99],mV 96 100,eX 101 96 0,eX 102 96 1,mV 13 101,mV 14 102]
def N0r:SS:=[mV 103 0,cK 104 103,fA 105 4 104,lD 106 105]
def N0s:SS:=[mN 4,mN 5]
def N0t:SS:=[mV 108 0,fA 109 4 6,lD 110 109,cA 111 q0Y [t 108,t 110],mV 107 111,eX 112 107 0,eX 113 107 1,mV 15 112,mV 16 113]
def N0u:SS:=[mV 114 0,cK 115 114,fA 116 4 115,lD 117 116]
def N0v:SS:=[mN 4,mN 5]
def N0w:SS:=[mN 17]
def N0x:SS:=[mI 18 0]
def N0y:SS:=[mV 118 18,mV 119 13,lN 120 119,o 121 (bT .lss 118 120)]
def N0z:SS:=[mV 124 14,mV 125 13,mV 126 18,iA 127 7 125 126,lA 128 7 127,mV 129 16,cA 130 G0B [t 128,t 129],o 131 (.app e0U 3 40 (t 124) (t 130)),mV 14 131]
def N0A:SS:=[mV 122 18,o 123 (bI .add 122 1),mV 18 123]
def N0B:SS:=[mI 19 0]
def N0C:SS:=[mV 132 19,mV 133 13,lN 134 133,o 135 (bT .lss 132 134)]
def N0D:SS:=[mI 20 0]
def N0E:SS:=[mV 138 20,mV 139 15,lN 140 139,o 141 (bT .lss 138 140)]
def N0F:SS:=[mV 145 13,mV 146 19,iA 147 7 145 146,lA 148 7 147,mV 149 15,mV 150 20,iA 151 7 149 150,lA 152 7 151,cB 153 G0C [t 148,t 152],mV 144 153,eX 154 144 0,eX 155 144 1,o 21 (.alloc a0y [.int .i64 0,.slice none 0 0,.slice none 0 0,.slice none 0 0,.bool false,.slice none 0 0,.slice none 0 0]),o 22 (.alloc a0j [.slice none 0 0,.slice none 0 0,.bool false,.slice none 0 0]),sT 7 21 154,sT 4 22 155]
def N0G:SS:=[mV 156 17,fA 157 0 6,lD 158 157,lA 159 7 21,lA 160 4 22,fA 161 2 21,lA 162 4 161,o 163 (.call n0D [t 160,i 1,t 162,(.const (.int .i64 (-1))),i 0] false),cA 164 W0A [t 158,t 159,t 163],o 165 (.app a0u 8 144 (t 156) (t 164)),mV 17 165]
def N0H:SS:=[mV 142 20,o 143 (bI .add 142 1),mV 20 143]
def N0I:SS:=[mV 136 19,o 137 (bI .add 136 1),mV 19 137]
def N0J:SS:=[mV 166 0,mV 167 17,mV 168 14,cA 169 W0B [t 166,t 167,t 168],eX 170 169 0,eX 171 169 1,mV 4 170,mV 5 171]
def D1A:SF:=⟨2,172,[.tmp 4,.tmp 5],
 (qS (gR i1k) (qS (gR i1l) (qS (gR i1m) (qS (qS (gR i1n) (.block 0 (qS (qS (gR i1o) (.cond (t 39) .skip (gR i1p))) (.cond (t 39) (qS (gR i1q) .ret) (qS (gR i1r) (.cond (t 48) (qS (.draw i1s [0,0,0,0,13,31] [(1,4)]) (qS (gR i1t) (qS (gR N0e) (qS (gR N0f) .ret)))) (qS (gR N0g) (.cond (t 61) (qS (gR N0h) (qS (qS (gR N0i) (.block 1 (.loop (qS (qS (gR N0j) (.cond (t 73) .skip (.exit 1))) (qS (.block 2 (gR N0k)) (gR N0l)))))) (qS (gR N0m) .ret))) (qS (qS (gR N0n) (.cond (t 88) .skip (gR N0o))) (.cond (t 88) (qS (gR N0p) .ret) .skip)))))))))) (qS (gR N0q) (qS (qS (gR N0r) (.cond (t 106) (qS (gR N0s) .ret) .skip)) (qS (gR N0t) (qS (qS (gR N0u) (.cond (t 117) (qS (gR N0v) .ret) .skip)) (qS (gR N0w) (qS (qS (gR N0x) (.block 3 (.loop (qS (qS (gR N0y) (.cond (t 121) .skip (.exit 3))) (qS (.block 4 (gR N0z)) (gR N0A)))))) (qS (qS (gR N0B) (.block 5 (.loop (qS (qS (gR N0C) (.cond (t 135) .skip (.exit 5))) (qS (.block 6 (qS (gR N0D) (.block 7 (.loop (qS (qS (gR N0E) (.cond (t 141) .skip (.exit 7))) (qS (.block 8 (qS (.draw N0F [0,0,3,7,0,0,48,112,255,511,1023,1023,0,0,14335,32767] []) (.draw N0G [0,0,2,0,0,0,32,112,254,511,1023] []))) (gR N0H))))))) (gR N0I)))))) (qS (gR N0J) .ret))))))))))))⟩
def i1u:SS:=[bX 4 c0h 1,bX 5 c0h 2,mB 6 false]
def i1v:SS:=[mV 7 0,o 8 (.mkfn (.func W0C) [] [t 4,t 5]),cA 9 s0N [t 7,t 8],nT 10 9,mV 6 10]
def D1B:SF:=⟨3,11,[.tmp 6],
 (qS (gR i1u) (qS (gR i1v) .ret))⟩
def i1w:SS:=[bX 1 a0m 0,mB 2 false]
def i1x:SS:=[fA 3 0 1,lD 4 3,o 5 (bI .lss 4 0),mV 2 5]
def D1C:SF:=⟨1,6,[.tmp 2],
 (qS (gR i1w) (qS (gR i1x) .ret))⟩
def i1y:SS:=[bX 3 a0w 0,bX 4 b0b 1,mB 6 false]
def i1z:SS:=[fA 10 3 4,lD 11 10,lN 12 11,mV 7 12]
def i1A:SS:=[mV 13 2,lN 14 13,mI 15 0]
def i1B:SS:=[o 16 (bT .lss 15 14)]
def i1C:SS:=[iA 17 5 13 15,lA 18 5 17,o 9 (.alloc a0m zE),sT 5 9 18]
def i1D:SS:=[fA 19 0 9,lD 20 19,o 21 (bI .eql 20 0)]
def i1E:SS:=[mV 22 7,o 23 (bI .add 22 1),mV 7 23]
def i1F:SS:=[o 24 (bI .add 15 1),mV 15 24]
def i1G:SS:=[mV 25 7,o 26 (bI .leq 25 60),mV 27 26,gT 28 27 (fS 4 4),gT 29 27 (lS 28),gT 30 27 (nS 29),gT 31 27 (fS 2 4),gT 32 27 (lS 31),gT 33 27 (bT .add 30 32),gT 34 27 (bI .leq 33 60),pF 35 27 34,mV 6 35]
def D1D:SF:=⟨3,36,[.tmp 6],
 (qS (gR i1y) (qS (gR i1z) (qS (qS (gR i1A) (.block 0 (.loop (qS (gR i1B) (qS (.cond (t 16) .skip (.exit 0)) (qS (.block 1 (qS (gR i1C) (qS (gR i1D) (.cond (t 21) (gR i1E) .skip)))) (gR i1F))))))) (qS (gR i1G) .ret))))⟩
def i1H:SS:=[bX 3 a0w 0,o 6 (.alloc d0e zL)]
def i1I:SS:=[mV 13 2,o 14 (.build zL [(0,1,t 13)]),o 7 (.alloc d0e zL),sT 4 7 14]
def i1J:SS:=[mV 15 1,lN 16 15,mI 17 0]
def i1K:SS:=[o 18 (bT .lss 17 16)]
def i1L:SS:=[mV 19 17,iA 20 5 15 17,lA 21 5 20,o 9 (.alloc a0m zE),mV 8 19,sT 5 9 21]
def i1M:SS:=[fA 22 0 9,lD 23 22,o 24 (bI .neq 23 0)]
def i1N:SS:=[mV 25 2,o 26 (.mk a0d 64 zR (i 0) (t 25)),mV 10 26]
def i1O:SS:=[fA 27 0 3,lD 28 27,mV 29 8,iA 30 1 28 29,lD 31 30,lN 32 31,mI 33 0]
def i1P:SS:=[o 34 (bT .lss 33 32)]
def i1Q:SS:=[iA 35 4 31 33,lA 36 4 35,o 12 (.alloc a0d zR),sT 4 12 36]
def N0K:SS:=[mV 37 10,lA 38 4 12,o 39 (.build zR []),cA 40 j0t [t 38,t 39],o 41 (.lit a0d zR 1 [(0,4,t 40)]),o 42 (.app a0d 4 64 (t 37) (t 41)),mV 10 42]
def N0L:SS:=[o 43 (bI .add 33 1),mV 33 43]
def N0M:SS:=[mV 44 10,lN 45 44,mV 46 2,o 47 (bT .lss 45 46)]
def N0N:SS:=[mV 48 10,cA 49 l0x [i 0],o 50 (.lit a0d zR 1 [(0,4,t 49)]),o 51 (.app a0d 4 64 (t 48) (t 50)),mV 10 51]
def N0O:SS:=[fA 52 1 7,lD 53 52,mV 54 10,o 55 (.lit b0E [.slice none 0 0] 1 [(0,1,t 54)]),o 56 (.app b0E 1 24 (t 53) (t 55)),fA 57 2 7,lD 58 57,fA 59 1 9,lA 60 4 59,o 61 (.build zR []),cB 62 j0t [t 60,t 61],o 63 (.lit a0d zR 1 [(0,4,t 62)]),o 64 (.app a0d 4 64 (t 58) (t 63)),fA 65 1 7,sT 1 65 56,fA 66 2 7,sT 1 66 64]
def N0P:SS:=[o 67 (bI .add 17 1),mV 17 67]
def N0Q:SS:=[lA 68 4 7,sT 4 6 68]
def D1E:SF:=⟨3,69,[.cell 6 true 4],
 (qS (gR i1H) (qS (gR i1I) (qS (qS (gR i1J) (.block 0 (.loop (qS (gR i1K) (qS (.cond (t 18) .skip (.exit 0)) (qS (.block 1 (qS (gR i1L) (qS (qS (gR i1M) (.cond (t 24) (.exit 1) .skip)) (qS (gR i1N) (qS (qS (gR i1O) (.block 2 (.loop (qS (gR i1P) (qS (.cond (t 34) .skip (.exit 2)) (qS (.block 3 (qS (gR i1Q) (gR N0K))) (gR N0L))))))) (qS (.block 4 (.loop (qS (qS (gR N0M) (.cond (t 47) .skip (.exit 4))) (.block 5 (gR N0N))))) (.draw N0O [0,1,0,4,15,0,32,0,128,0,927,1951,4095,127,16383,32767,65535] [(4,6),(4,8)]))))))) (gR N0P))))))) (qS (gR N0Q) .ret))))⟩
def i1R:SS:=[mV 9 1,lN 10 9,mI 11 0]
def i1S:SS:=[o 12 (bT .lss 11 10)]
def i1T:SS:=[iA 13 4 9 11,lA 14 4 13,o 5 (.alloc a0j [.slice none 0 0,.slice none 0 0,.bool false,.slice none 0 0]),sT 4 5 14]
def i1U:SS:=[mN 6]
def i1V:SS:=[fA 15 0 5,lD 16 15,fA 17 1 5,lD 18 17,o 19 (.lit f0q [.slice none 0 0] 2 [(0,1,t 16),(1,1,t 18)]),cA 20 G0N [t 19],lN 21 20,mI 22 0]
def i1W:SS:=[o 23 (bT .lss 22 21)]
def i1X:SS:=[iA 24 2 20 22,lA 25 2 24,o 8 (.alloc a0a zI),sT 2 8 25]
def i1Y:SS:=[mV 26 6,lA 27 2 8,cA 28 w0X [t 27],o 29 (.lit a0d zR 1 [(0,4,t 28)]),o 30 (.app a0d 4 64 (t 26) (t 29)),mV 6 30]
def i1Z:SS:=[o 31 (bI .add 22 1),mV 22 31]
def j1a:SS:=[mV 32 0,mV 33 0,mV 34 0,cK 35 34,fA 36 1 35,lD 37 36,mV 38 6,o 39 (.lit b0E [.slice none 0 0] 1 [(0,1,t 38)]),o 40 (.app b0E 1 24 (t 37) (t 39)),mV 41 0,cK 42 41,fA 43 2 42,lD 44 43,fA 45 2 5,lA 46 2 45,cB 47 n0E [t 46],cB 48 w0X [t 47],o 49 (.lit a0d zR 1 [(0,4,t 48)]),o 50 (.app a0d 4 64 (t 44) (t 49)),cK 51 32,fA 52 1 51,sT 1 52 40,cK 53 33,fA 54 2 53,sT 1 54 50]
def N0R:SS:=[o 55 (bI .add 11 1),mV 11 55]
def D1F:SF:=⟨2,56,[],
 (qS (gR i1R) (.block 0 (.loop (qS (gR i1S) (qS (.cond (t 12) .skip (.exit 0)) (qS (.block 1 (qS (gR i1T) (qS (gR i1U) (qS (qS (gR i1V) (.block 2 (.loop (qS (gR i1W) (qS (.cond (t 23) .skip (.exit 2)) (qS (.block 3 (qS (gR i1X) (gR i1Y))) (gR i1Z))))))) (.draw j1a [0,0,0,4,12,28,0,64,252,0,512,1536,3584,0,8192,25084,57852,123388,262140,524285,1048573,2097149,4194303,8388607,16777215] [(8,12),(8,14)]))))) (gR N0R)))))))⟩
def j1b:SS:=[bX 3 a0w 0,bX 4 b0b 1,mN 6,o 7 (.alloc a0d zR)]
def j1c:SS:=[fA 17 4 4,lD 18 17,lN 19 18,mV 8 19]
def j1d:SS:=[mV 20 8,fA 21 2 4,lD 22 21,o 23 (bT .add 20 22),o 24 (.mk a0d 64 zR (t 23) (t 23)),mV 9 24]
def j1e:SS:=[mV 25 9,lN 26 25,mI 27 0]
def j1f:SS:=[o 28 (bT .lss 27 26)]
def j1g:SS:=[mV 29 27,mV 10 29]
def j1h:SS:=[mV 30 9,mV 31 10,cA 32 l0x [i 0],iA 33 4 30 31,sT 4 33 32]
def j1i:SS:=[o 34 (bI .add 27 1),mV 27 34]
def j1j:SS:=[cA 35 l0x [i 0],o 11 (.alloc a0d zR),sT 4 11 35]
def j1k:SS:=[fA 36 4 4,lD 37 36,lN 38 37,mI 39 0]
def N0S:SS:=[o 40 (bT .lss 39 38)]
def N0T:SS:=[mV 41 39,iA 42 4 37 39,lA 43 4 42,o 13 (.alloc a0j [.slice none 0 0,.slice none 0 0,.bool false,.slice none 0 0]),mV 12 41,sT 4 13 43]
def N0U:SS:=[fA 44 0 3,lD 45 44,mV 46 2,iA 47 1 45 46,lD 48 47,mV 49 12,iA 50 4 48 49,lA 51 4 50,o 14 (.alloc a0d zR),sT 4 14 51]
def N0V:SS:=[fA 52 0 13,lD 53 52,fA 54 1 13,lD 55 54,o 56 (.lit f0q [.slice none 0 0] 2 [(0,1,t 53),(1,1,t 55)]),cA 57 G0N [t 56],lN 58 57,mI 59 0]
def N0W:SS:=[o 60 (bT .lss 59 58)]
def N0X:SS:=[mV 61 59,iA 62 2 57 59,lA 63 2 62,o 16 (.alloc a0a zI),mV 15 61,sT 2 16 63]
def N0Y:SS:=[mV 64 9,mV 65 15,mV 66 9,mV 67 15,iA 68 4 66 67,lA 69 4 68,lA 70 4 14,lA 71 2 16,cB 72 w0X [t 71],cB 73 w0Y [t 70,t 72],cA 74 j0t [t 69,t 73],iA 75 4 64 65,sT 4 75 74]
def N0Z:SS:=[o 76 (bI .add 59 1),mV 59 76]
def O0a:SS:=[lA 77 4 11,lA 78 4 14,fA 79 2 13,lA 80 2 79,cB 81 w0X [t 80],cB 82 w0Y [t 78,t 81],cA 83 j0t [t 77,t 82],sT 4 11 83]
def O0b:SS:=[o 84 (bI .add 39 1),mV 39 84]
def O0c:SS:=[mV 85 9,lA 86 4 11,mV 6 85,sT 4 7 86]
def D1G:SF:=⟨3,87,[.tmp 6,.cell 7 true 4],
 (qS (gR j1b) (qS (gR j1c) (qS (gR j1d) (qS (qS (gR j1e) (.block 0 (.loop (qS (gR j1f) (qS (.cond (t 28) .skip (.exit 0)) (qS (.block 1 (qS (gR j1g) (gR j1h))) (gR j1i))))))) (qS (gR j1j) (qS (qS (gR j1k) (.block 2 (.loop (qS (gR N0S) (qS (.cond (t 40) .skip (.exit 2)) (qS (.block 3 (qS (gR N0T) (qS (gR N0U) (qS (qS (gR N0V) (.block 4 (.loop (qS (gR N0W) (qS (.cond (t 60) .skip (.exit 4)) (qS (.block 5 (qS (gR N0X) (.draw N0Y [0,0,0,0,12,28,0,0,128,448,1020,2047,4095] []))) (gR N0Z))))))) (.draw O0a [0,0,0,4,12,30,63,127] []))))) (gR O0b))))))) (qS (.draw O0c [0,0,1,7] []) .ret)))))))⟩
def j1l:SS:=[bX 1 d0e 0,mB 2 false]
def j1m:SS:=[fA 3 0 1,lD 4 3,o 5 (bI .lss 4 0),mV 6 5,gF 7 6 (fS 0 1),gF 8 6 (lS 7),gF 9 6 (bI .gtr 8 60),pT 10 6 9,mV 11 10,gF 12 11 (fS 1 1),gF 13 11 (lS 12),gF 14 11 (nS 13),gF 15 11 (bI .gtr 14 60),pT 16 11 15,mV 17 16,gF 18 17 (fS 2 1),gF 19 17 (lS 18),gF 20 17 (nS 19),gF 21 17 (fS 1 1),gF 22 17 (lS 21),gF 23 17 (nS 22),gF 24 17 (bT .neq 20 23),pT 25 17 24,mV 26 25,gF 27 26 (fS 3 1),gF 28 26 (lS 27),gF 29 26 (nS 28),gF 30 26 (fS 0 1),gF 31 26 (lS 30),gF 32 26 (bT .neq 29 31),pT 33 26 32]
def j1n:SS:=[mB 2 false]
def j1o:SS:=[fA 34 1 1,lD 35 34,o 36 (.mkfn (.func W0F) [] [t 1]),cA 37 W0D [t 35,t 36],nT 38 37,mV 2 38]
def D1H:SF:=⟨1,39,[.tmp 2],
 (qS (gR j1l) (qS (qS (gR j1m) (.cond (t 33) (qS (gR j1n) .ret) .skip)) (qS (gR j1o) .ret)))⟩
def j1p:SS:=[bX 1 d0e 0,o 2 (.alloc b0N zA),mI 3 0]
def j1q:SS:=[lA 8 4 1,cA 9 W0G [t 8],o 4 (.alloc b0v [.int .i64 0,.slice none 0 0,.slice none 0 0,.slice none 0 0,.bool false,.slice none 0 0,.bool false,.slice none 0 0]),sT 8 4 9]
def j1r:SS:=[lA 11 4 1,lA 12 8 4,cA 13 W0H [t 11,t 12],mV 10 13,eX 14 10 0,eX 15 10 1,eX 16 10 2,o 5 (.alloc b0N zA),sT 8 5 14,mV 6 15,mV 7 16]
def j1s:SS:=[mV 17 7]
def j1t:SS:=[lA 18 8 5,mV 19 6,sT 8 2 18,mV 3 19]
def j1u:SS:=[o 20 (.build [] []),lA 21 4 1,lA 22 8 4,cA 23 I1Y [t 20,t 21,t 22],eX 24 23 0,eX 25 23 1,sT 8 2 24,mV 3 25]
def D1I:SF:=⟨1,26,[.cell 2 true 8,.tmp 3],
 (qS (gR j1p) (qS (gR j1q) (qS (qS (gR j1r) (qS (gR j1s) (.cond (t 17) (qS (gR j1t) .ret) .skip))) (qS (gR j1u) .ret))))⟩
def j1O:SS:=[o 2 (.alloc b0M [.int .i64 0,(.string ⟨#[]⟩),(.string ⟨#[]⟩),.slice none 0 0,.slice none 0 0,.slice none 0 0,.slice none 0 0])]
def j1P:SS:=[mV 4 0,cA 5 o0Z [t 4],o 6 (.build [.int .i64 0,(.string ⟨#[]⟩),(.string ⟨#[]⟩),.slice none 0 0,.slice none 0 0,.slice none 0 0,.slice none 0 0] [(0,1,i 1),(1,1,t 5)]),o 3 (.alloc b0M [.int .i64 0,(.string ⟨#[]⟩),(.string ⟨#[]⟩),.slice none 0 0,.slice none 0 0,.slice none 0 0,.slice none 0 0]),sT 7 3 6]
def j1Q:SS:=[mV 7 0,o 8 (.call f0k [t 7,(.const (.string ⟨#[40]⟩))] true)]
def j1R:SS:=[fA 9 1 3,lD 10 9,mV 11 0,cA 12 v1D [t 11],o 13 (.build [.int .i64 0,(.string ⟨#[]⟩),(.string ⟨#[]⟩),.slice none 0 0,.slice none 0 0,.slice none 0 0,.slice none 0 0] [(0,1,i 8),(2,1,t 10),(4,1,t 12)]),sT 7 3 13]
def j1S:SS:=[mV 14 0,o 15 (.call g0W [t 14,(.const (.string ⟨#[59]⟩))] true)]
def j1T:SS:=[lA 16 7 3,sT 7 2 16]
def j1U:SS:=[mV 17 0,o 18 (.call g0W [t 17,(.const (.string ⟨#[61]⟩))] true)]
def j1V:SS:=[mV 19 0,cK 20 19,fA 21 3 20,lD 22 21,o 23 (bI .eql 22 0),mV 24 23,gT 25 24 (mS 0),gT 26 24 (.chk (t 25)),gT 27 24 (fS 0 26),gT 28 24 (lS 27),gT 29 24 (mS 0),gT 30 24 (.chk (t 29)),gT 31 24 (fS 1 30),gT 32 24 (lS 31),gT 33 24 (iS 3 28 32),gT 34 24 (fS 0 33),gT 35 24 (lS 34),gT 36 24 (bI .eql 35 1),pF 37 24 36,mV 38 37,gT 39 38 (mS 0),gT 40 38 (.chk (t 39)),gT 41 38 (fS 0 40),gT 42 38 (lS 41),gT 43 38 (mS 0),gT 44 38 (.chk (t 43)),gT 45 38 (fS 1 44),gT 46 38 (lS 45),gT 47 38 (bI .add 46 1),gT 48 38 (iS 3 42 47),gT 49 38 (fS 0 48),gT 50 38 (lS 49),gT 51 38 (bI .eql 50 4),pF 52 38 51,mV 53 52,gT 54 53 (mS 0),gT 55 53 (.chk (t 54)),gT 56 53 (fS 0 55),gT 57 53 (lS 56),gT 58 53 (mS 0),gT 59 53 (.chk (t 58)),gT 60 53 (fS 1 59),gT 61 53 (lS 60),gT 62 53 (bI .add 61 1),gT 63 53 (iS 3 57 62),gT 64 53 (fS 1 63),gT 65 53 (lS 64),gT 66 53 (.bin 0 .eql (t 65) (.const (.string ⟨#[40]⟩))),pF 67 53 66]
def j1W:SS:=[fA 68 0 3,⟨none,none,.store 1 (t 68) (i 8)⟩]
def j1X:SS:=[mV 69 0,cA 70 o0Z [t 69],fA 71 2 3,sT 1 71 70]
def O0h:SS:=[mV 72 0,o 73 (.call g0W [t 72,(.const (.string ⟨#[40]⟩))] true)]
def O0i:SS:=[mV 74 0,cA 75 v1D [t 74],fA 76 4 3,sT 1 76 75]
def O0j:SS:=[mV 77 0,o 78 (.call w0Z [t 77,(.const (.slice none 0 0))] true),fA 79 3 3,sT 1 79 78]
def O0k:SS:=[mV 80 0,o 81 (.call g0W [t 80,(.const (.string ⟨#[59]⟩))] true)]
def O0l:SS:=[lA 82 7 3,sT 7 2 82]
def D1J:SF:=⟨1,83,[.cell 2 true 7],
 (qS (gR j1O) (qS (gR j1P) (qS (qS (gR j1Q) (.cond (t 8) (qS (.draw j1R [0,1,0,4,15,31] [(1,3)]) (qS (gR j1S) (qS (gR j1T) .ret))) .skip)) (qS (gR j1U) (qS (qS (.draw j1V [0,1,3,7,15,31,63,127,255,511,63,1087,3135,7231,16383,32767,65535,131071,262143,524287,1048575,2097151,4194303,8388607,1048575,17825791,51380223,118489087,252706815,536870911,1073741823,2147483647,4294967295,8589934591,17179869183,34359738367,68719476735,137438953471,274877906943,34359738367,584115552255,1683627180031,3882650435583,8280696946687,17592186044415,35184372088831,70368744177663,140737488355327,281474976710655] []) (.cond (t 67) (qS (gR j1W) (qS (gR j1X) (qS (gR O0h) (gR O0i)))) (gR O0j))) (qS (gR O0k) (qS (gR O0l) .ret)))))))⟩
def j1Y:SS:=[mN 4]
def j1Z:SS:=[mV 6 0,mV 7 1,cA 8 G0O [t 6,t 7],mV 1 8]
def k1a:SS:=[mV 9 0,o 10 (.call f0k [t 9,(.const (.string ⟨#[111,114]⟩))] true)]
def k1b:SS:=[mV 11 1,lN 12 11,o 13 (bI .sub 12 1),mV 5 13]
def k1c:SS:=[mV 14 0,mV 15 1,cA 16 G0O [t 14,t 15],mV 17 5,cA 18 s0S [t 16,t 17,i 20],mV 1 18]
def k1d:SS:=[mV 19 1,mV 4 19]
def D1K:SF:=⟨2,20,[.tmp 4],
 (qS (gR j1Y) (qS (gR j1Z) (qS (.block 0 (.loop (qS (qS (gR k1a) (.cond (t 10) .skip (.exit 0))) (.block 1 (qS (gR k1b) (gR k1c)))))) (qS (gR k1d) .ret))))⟩
def k1e:SS:=[mN 2]
def k1f:SS:=[mV 4 0,o 5 (.call s0T [t 4,(.const (.string ⟨#[123]⟩))] true)]
def k1g:SS:=[mV 6 0,cA 7 G0x [t 6],mV 3 7]
def k1h:SS:=[mV 8 0,o 9 (.call g0W [t 8,(.const (.string ⟨#[125]⟩))] true)]
def k1i:SS:=[mV 10 0,cK 11 10,fA 12 2 11,lD 13 12,o 14 (bI .sub 13 1),cK 15 10,fA 16 2 15,sT 1 16 14]
def k1j:SS:=[mV 17 3,mV 2 17]
def D1L:SF:=⟨1,18,[.tmp 2],
 (qS (gR k1e) (qS (gR k1f) (qS (gR k1g) (qS (gR k1h) (qS (gR k1i) (qS (gR k1j) .ret))))))⟩
def k1k:SS:=[bX 1 b0M 0,o 2 (.mv (.const (.string ⟨#[]⟩)))]
def k1l:SS:=[o 3 (.mv (.const (.string ⟨#[]⟩)))]
def k1m:SS:=[fA 7 3 1,lD 8 7,lN 9 8,o 10 (bI .gtr 9 0)]
def k1n:SS:=[fA 11 3 1,lD 12 11,fA 13 3 1,lD 14 13,lN 15 14,o 16 (bI .sub 15 1),cA 17 x0a [t 12,t 16],mV 3 17]
def k1o:SS:=[fA 18 0 1,lD 19 18]
def k1p:SS:=[o 21 (bI .eql 19 1),mV 20 21]
def k1q:SS:=[fA 22 1 1,lD 23 22,o 24 (.bin 0 .add (t 23) (.const (.string ⟨#[32,61,32]⟩))),mV 25 3,o 26 (bT .add 24 25),o 27 (.bin 0 .add (t 26) (.const (.string ⟨#[32,59]⟩))),mV 2 27]
def k1r:SS:=[o 29 (bI .eql 19 2),mV 28 29]
def k1s:SS:=[fA 30 1 1,lD 31 30,o 32 (.bin 0 .add (.const (.string ⟨#[104,97,118,111,99,32]⟩)) (t 31)),o 33 (.bin 0 .add (t 32) (.const (.string ⟨#[32,59]⟩))),mV 2 33]
def k1t:SS:=[o 35 (bI .eql 19 3),mV 34 35]
def O0m:SS:=[mV 36 3,o 37 (.bin 0 .add (.const (.string ⟨#[97,115,115,117,109,101,32]⟩)) (t 36)),o 38 (.bin 0 .add (t 37) (.const (.string ⟨#[32,59]⟩))),mV 2 38]
def O0n:SS:=[o 40 (bI .eql 19 4),mV 39 40]
def O0o:SS:=[mV 41 3,o 42 (.bin 0 .add (.const (.string ⟨#[97,115,115,101,114,116,32]⟩)) (t 41)),o 43 (.bin 0 .add (t 42) (.const (.string ⟨#[32,59]⟩))),mV 2 43]
def O0p:SS:=[o 45 (bI .eql 19 5),mV 44 45]
def O0q:SS:=[mV 46 3,o 47 (.bin 0 .add (.const (.string ⟨#[105,102,32]⟩)) (t 46)),o 48 (.bin 0 .add (t 47) (.const (.string ⟨#[32]⟩))),fA 49 5 1,lD 50 49,cA 51 s0U [t 50],o 52 (bT .add 48 51),mV 4 52]
def O0r:SS:=[fA 53 6 1,lD 54 53,lN 55 54,o 56 (bI .gtr 55 0)]
def O0s:SS:=[mV 57 4,o 58 (.bin 0 .add (t 57) (.const (.string ⟨#[32,101,108,115,101,32]⟩))),fA 59 6 1,lD 60 59,cA 61 s0U [t 60],o 62 (bT .add 58 61),mV 4 62]
def O0t:SS:=[mV 63 4,mV 2 63]
def O0u:SS:=[o 65 (bI .eql 19 6),mV 64 65]
def O0v:SS:=[mV 66 3,o 67 (.bin 0 .add (.const (.string ⟨#[119,104,105,108,101,32]⟩)) (t 66)),o 68 (.bin 0 .add (t 67) (.const (.string ⟨#[32]⟩))),fA 69 5 1,lD 70 69,cA 71 s0U [t 70],o 72 (bT .add 68 71),mV 2 72]
def O0w:SS:=[o 74 (bI .eql 19 7),mV 73 74]
def O0x:SS:=[fA 75 5 1,lD 76 75,cB 77 s0U [t 76],o 78 (.bin 0 .add (.const (.string ⟨#[101,105,116,104,101,114,32]⟩)) (t 77)),o 79 (.bin 0 .add (t 78) (.const (.string ⟨#[32,111,114,32]⟩))),fA 80 6 1,lD 81 80,cA 82 s0U [t 81],o 83 (bT .add 79 82),mV 2 83]
def O0y:SS:=[o 85 (bI .eql 19 9),mV 84 85]
def O0z:SS:=[o 2 (.mv (.const (.string ⟨#[115,107,105,112,32,59]⟩)))]
def O0A:SS:=[fA 86 2 1,lD 87 86,o 88 (.bin 0 .add (t 87) (.const (.string ⟨#[32,40,32]⟩))),mV 5 88]
def O0B:SS:=[fA 89 1 1,lD 90 89,o 91 (.bin 0 .neq (t 90) (.const (.string ⟨#[]⟩)))]
def O0C:SS:=[fA 92 1 1,lD 93 92,o 94 (.bin 0 .add (t 93) (.const (.string ⟨#[32,61,32]⟩))),mV 95 5,o 96 (bT .add 94 95),mV 5 96]
def O0D:SS:=[mI 6 0]
def O0E:SS:=[mV 97 6,fA 98 4 1,lD 99 98,lN 100 99,o 101 (bT .lss 97 100)]
def O0F:SS:=[mV 104 6,o 105 (bI .gtr 104 0)]
def O0G:SS:=[mV 106 5,o 107 (.bin 0 .add (t 106) (.const (.string ⟨#[44,32]⟩))),mV 5 107]
def O0H:SS:=[mV 108 5,fA 109 4 1,lD 110 109,mV 111 6,iA 112 1 110 111,lD 113 112,fA 114 4 1,lD 115 114,mV 116 6,iA 117 1 115 116,lD 118 117,lN 119 118,o 120 (bI .sub 119 1),cA 121 x0a [t 113,t 120],o 122 (bT .add 108 121),o 123 (.bin 0 .add (t 122) (.const (.string ⟨#[32]⟩))),mV 5 123]
def O0I:SS:=[mV 102 6,o 103 (bI .add 102 1),mV 6 103]
def O0J:SS:=[mV 124 5,o 125 (.bin 0 .add (t 124) (.const (.string ⟨#[41,32,59]⟩))),mV 2 125]
def D1M:SF:=⟨1,126,[.tmp 2],
 (qS (gR k1k) (qS (gR k1l) (qS (qS (gR k1m) (.cond (t 10) (gR k1n) .skip)) (qS (qS (gR k1o) (.block 0 (qS (gR k1p) (.cond (t 20) (qS (gR k1q) .ret) (qS (gR k1r) (.cond (t 28) (qS (gR k1s) .ret) (qS (gR k1t) (.cond (t 34) (qS (gR O0m) .ret) (qS (gR O0n) (.cond (t 39) (qS (gR O0o) .ret) (qS (gR O0p) (.cond (t 44) (qS (gR O0q) (qS (qS (gR O0r) (.cond (t 56) (gR O0s) .skip)) (qS (gR O0t) .ret))) (qS (gR O0u) (.cond (t 64) (qS (gR O0v) .ret) (qS (gR O0w) (.cond (t 73) (qS (.draw O0x [0,1,3,7,15,0,32,103,255,511] []) .ret) (qS (gR O0y) (.cond (t 84) (qS (gR O0z) .ret) .skip)))))))))))))))))) (qS (gR O0A) (qS (qS (gR O0B) (.cond (t 91) (gR O0C) .skip)) (qS (qS (gR O0D) (.block 1 (.loop (qS (qS (gR O0E) (.cond (t 101) .skip (.exit 1))) (qS (.block 2 (qS (qS (gR O0F) (.cond (t 105) (gR O0G) .skip)) (.draw O0H [0,0,2,0,14,30,0,64,0,448,960,1984,4032,8190,16383,32767,65535] []))) (gR O0I)))))) (qS (gR O0J) .ret))))))))⟩
def k1u:SS:=[bX 5 a0a 1,bX 7 a0a 3,mN 8]
def k1v:SS:=[mN 9]
def k1w:SS:=[mI 10 0]
def k1x:SS:=[mV 11 10,mV 12 0,lN 13 12,o 14 (bT .lss 11 13)]
def k1y:SS:=[mV 17 9,mV 18 0,mV 19 10,iA 20 2 18 19,lA 21 2 20,lA 22 2 5,cB 23 q0T [t 21,t 22],mV 24 2,mV 25 10,iA 26 2 24 25,lA 27 2 26,lA 28 2 7,cA 29 q0T [t 27,t 28],cA 30 r0c [t 23,t 29],o 31 (.lit a0a zI 1 [(0,2,t 30)]),o 32 (.app a0a 2 32 (t 17) (t 31)),mV 9 32]
def k1z:SS:=[mV 15 10,o 16 (bI .add 15 1),mV 10 16]
def k1A:SS:=[mV 33 9,mV 8 33]
def D1N:SF:=⟨4,34,[.tmp 8],
 (qS (gR k1u) (qS (gR k1v) (qS (qS (gR k1w) (.block 0 (.loop (qS (qS (gR k1x) (.cond (t 14) .skip (.exit 0))) (qS (.block 1 (.draw k1y [0,0,0,6,14,0,62,0,0,384,896,0,4094,8190,16382,32767,65535] [])) (gR k1z)))))) (qS (gR k1A) .ret))))⟩
def k1B:SS:=[bX 5 a0j 0,bX 7 a0j 2,o 10 (.alloc a0j [.slice none 0 0,.slice none 0 0,.bool false,.slice none 0 0])]
def k1C:SS:=[mV 13 1,cA 14 s0Y [t 13],mV 15 3,cA 16 s0Y [t 15],o 11 (.alloc a0a zI),o 12 (.alloc a0a zI),sT 2 11 14,sT 2 12 16]
def k1D:SS:=[fA 17 0 5,lD 18 17,lA 19 2 11,fA 20 0 7,lD 21 20,lA 22 2 12,cB 23 G0L [t 18,t 19,t 21,t 22],fA 24 1 5,lD 25 24,lA 26 2 11,fA 27 1 7,lD 28 27,lA 29 2 12,cB 30 G0L [t 25,t 26,t 28,t 29],fA 31 2 5,lA 32 2 31,lA 33 2 11,cB 34 q0T [t 32,t 33],fA 35 2 7,lA 36 2 35,lA 37 2 12,cA 38 q0T [t 36,t 37],cA 39 r0c [t 34,t 38],mV 40 4,cA 41 s0Y [t 40],cA 42 r0c [t 39,t 41],o 43 (.build [.slice none 0 0,.slice none 0 0,.bool false,.slice none 0 0] [(0,1,t 23),(1,1,t 30),(2,2,t 42)]),sT 4 10 43]
def D1O:SF:=⟨5,44,[.cell 10 true 4],
 (qS (gR k1B) (qS (gR k1C) (qS (.draw k1D [0,1,0,0,8,0,63,0,128,0,0,1024,0,8191,0,16384,0,131071,0,262144,0,2097151,4194303,0,16777215,33554431,67108863,134217727] []) .ret)))⟩
def k1E:SS:=[bX 3 a0y 0,bX 4 a0j 1,o 6 (.alloc a0y [.int .i64 0,.slice none 0 0,.slice none 0 0,.slice none 0 0,.bool false,.slice none 0 0,.slice none 0 0])]
def k1F:SS:=[o 8 (.lit a0j [.slice none 0 0,.slice none 0 0,.bool false,.slice none 0 0] 0 []),fA 9 1 3,lD 10 9,o 11 (.app a0j 4 80 (t 8) (t 10)),mV 7 11]
def k1G:SS:=[mV 12 7,mV 13 2,o 14 (.app a0j 4 80 (t 12) (t 13)),mV 7 14]
def k1H:SS:=[fA 15 0 3,lD 16 15,mV 17 7,lA 18 4 4,o 19 (.lit d0L [.bool false] 0 []),fA 20 6 3,lD 21 20,o 22 (.app d0L 1 1 (t 19) (t 21)),o 23 (.build [.int .i64 0,.slice none 0 0,.slice none 0 0,.slice none 0 0,.bool false,.slice none 0 0,.slice none 0 0] [(0,1,t 16),(1,1,t 17),(2,4,t 18),(6,1,t 22)]),sT 7 6 23]
def D1P:SF:=⟨3,24,[.cell 6 true 7],
 (qS (gR k1E) (qS (gR k1F) (qS (gR k1G) (qS (.draw k1H [0,1,0,0,0,0,32,112,255,511] [(1,7),(3,7)]) .ret))))⟩
def k1I:SS:=[mN 6,mN 7]
def k1J:SS:=[mI 8 0]
def k1K:SS:=[mV 10 8,mV 11 1,lN 12 11,o 13 (bT .lss 10 12)]
def k1L:SS:=[mV 16 0,mV 17 0,cK 18 17,fA 19 4 18,lD 20 19,mV 21 20,gF 22 21 (mS 1),gF 23 21 (mS 8),gF 24 21 (iS 7 22 23),gF 25 21 (fS 0 24),gF 26 21 (lS 25),gF 27 21 (bI .gtr 26 40),pT 28 21 27,cK 29 16,fA 30 4 29,sT 1 30 28]
def k1M:SS:=[mV 14 8,o 15 (bI .add 14 1),mV 8 15]
def k1N:SS:=[mI 9 0]
def k1O:SS:=[mV 31 9,mV 32 2,lN 33 32,o 34 (bT .lss 31 33)]
def k1P:SS:=[mV 37 0,mV 38 0,cK 39 38,fA 40 4 39,lD 41 40,mV 42 41,gF 43 42 (mS 2),gF 44 42 (mS 9),gF 45 42 (iS 3 43 44),gF 46 42 (fS 1 45),gF 47 42 (lS 46),gF 48 42 (bI .gtr 47 40),pT 49 42 48,cK 50 37,fA 51 4 50,sT 1 51 49]
def k1Q:SS:=[mV 35 9,o 36 (bI .add 35 1),mV 9 36]
def k1R:SS:=[mV 52 0,mV 53 0,cK 54 53,fA 55 4 54,lD 56 55,mV 57 56,gF 58 57 (mS 1),gF 59 57 (nS 58),gF 60 57 (bI .gtr 59 40),pT 61 57 60,mV 62 61,gF 63 62 (mS 2),gF 64 62 (nS 63),gF 65 62 (bI .gtr 64 40),pT 66 62 65,cK 67 52,fA 68 4 67,sT 1 68 66]
def O0K:SS:=[mV 69 0,cK 70 69,fA 71 4 70,lD 72 71]
def O0L:SS:=[mN 6,mN 7]
def O0M:SS:=[mV 73 1,mV 74 2,mV 6 73,mV 7 74]
def D1Q:SF:=⟨3,75,[.tmp 6,.tmp 7],
 (qS (gR k1I) (qS (qS (gR k1J) (.block 0 (.loop (qS (qS (gR k1K) (.cond (t 13) .skip (.exit 0))) (qS (.block 1 (gR k1L)) (gR k1M)))))) (qS (qS (gR k1N) (.block 2 (.loop (qS (qS (gR k1O) (.cond (t 34) .skip (.exit 2))) (qS (.block 3 (gR k1P)) (gR k1Q)))))) (qS (gR k1R) (qS (qS (gR O0K) (.cond (t 72) (qS (gR O0L) .ret) .skip)) (qS (gR O0M) .ret))))))⟩
def k1S:SS:=[bX 4 a0y 1,bX 5 a0j 2,mN 6]
def k1T:SS:=[lA 12 4 5,lA 13 4 5,cB 14 n0D [t 12,i 1,t 13,i 0,i 1],lA 15 4 5,lA 16 4 5,o 17 (.call n0D [t 15,(.const (.int .i64 (-1))),t 16,i 0,i 1] false),o 7 (.alloc a0j [.slice none 0 0,.slice none 0 0,.bool false,.slice none 0 0]),o 8 (.alloc a0j [.slice none 0 0,.slice none 0 0,.bool false,.slice none 0 0]),sT 4 7 14,sT 4 8 17]
def k1U:SS:=[lA 18 4 5,lA 19 4 5,o 20 (.call n0D [t 18,(.const (.int .i64 (-1))),t 19,i 0,i 0] true),o 9 (.alloc a0j [.slice none 0 0,.slice none 0 0,.bool false,.slice none 0 0]),sT 4 9 20]
def k1V:SS:=[fA 21 0 5,lD 22 21,lN 23 22,fA 24 0 4,lD 25 24,o 26 (.build zI []),cA 27 q0V [t 23,t 25,t 26],o 10 (.alloc a0j [.slice none 0 0,.slice none 0 0,.bool false,.slice none 0 0]),sT 4 10 27]
def k1W:SS:=[lA 28 7 4,lA 29 4 10,cA 30 W0I [t 28,t 29],o 11 (.alloc a0u [.int .i64 0,.slice none 0 0,.slice none 0 0,.slice none 0 0,.bool false,.slice none 0 0,.slice none 0 0,.bool false]),sT 8 11 30]
def k1X:SS:=[mV 31 0]
def k1Y:SS:=[o 33 (bI .eql 31 12),mV 32 33]
def k1Z:SS:=[lA 34 8 11,lA 35 4 5,lA 36 4 9,o 37 (.lit a0j [.slice none 0 0,.slice none 0 0,.bool false,.slice none 0 0] 2 [(0,4,t 35),(4,4,t 36)]),o 38 (.call i0J [t 34,(.const (.bool true)),t 37] false),lA 39 8 11,lA 40 4 7,o 41 (.lit a0j [.slice none 0 0,.slice none 0 0,.bool false,.slice none 0 0] 1 [(0,4,t 40)]),o 42 (.call i0J [t 39,(.const (.bool false)),t 41] false),lA 43 8 11,lA 44 4 8,o 45 (.lit a0j [.slice none 0 0,.slice none 0 0,.bool false,.slice none 0 0] 1 [(0,4,t 44)]),o 46 (.call i0J [t 43,(.const (.bool false)),t 45] true),o 47 (.lit a0u [.int .i64 0,.slice none 0 0,.slice none 0 0,.slice none 0 0,.bool false,.slice none 0 0,.slice none 0 0,.bool false] 3 [(0,8,t 38),(8,8,t 42),(16,8,t 46)]),mV 6 47]
def l1a:SS:=[o 49 (bI .eql 31 13),mV 48 49]
def l1b:SS:=[lA 50 8 11,lA 51 4 7,o 52 (.lit a0j [.slice none 0 0,.slice none 0 0,.bool false,.slice none 0 0] 1 [(0,4,t 51)]),o 53 (.call i0J [t 50,(.const (.bool true)),t 52] false),lA 54 8 11,lA 55 4 8,o 56 (.lit a0j [.slice none 0 0,.slice none 0 0,.bool false,.slice none 0 0] 1 [(0,4,t 55)]),o 57 (.call i0J [t 54,(.const (.bool true)),t 56] false),lA 58 8 11,lA 59 4 5,lA 60 4 9,o 61 (.lit a0j [.slice none 0 0,.slice none 0 0,.bool false,.slice none 0 0] 2 [(0,4,t 59),(4,4,t 60)]),o 62 (.call i0J [t 58,(.const (.bool false)),t 61] true),o 63 (.lit a0u [.int .i64 0,.slice none 0 0,.slice none 0 0,.slice none 0 0,.bool false,.slice none 0 0,.slice none 0 0,.bool false] 3 [(0,8,t 53),(8,8,t 57),(16,8,t 62)]),mV 6 63]
def O0N:SS:=[o 65 (bI .eql 31 14),mV 64 65]
def O0O:SS:=[lA 66 8 11,lA 67 4 7,o 68 (.lit a0j [.slice none 0 0,.slice none 0 0,.bool false,.slice none 0 0] 1 [(0,4,t 67)]),o 69 (.call i0J [t 66,(.const (.bool true)),t 68] false),lA 70 8 11,lA 71 4 9,o 72 (.lit a0j [.slice none 0 0,.slice none 0 0,.bool false,.slice none 0 0] 1 [(0,4,t 71)]),o 73 (.call i0J [t 70,(.const (.bool false)),t 72] true),o 74 (.lit a0u [.int .i64 0,.slice none 0 0,.slice none 0 0,.slice none 0 0,.bool false,.slice none 0 0,.slice none 0 0,.bool false] 2 [(0,8,t 69),(8,8,t 73)]),mV 6 74]
def O0P:SS:=[o 76 (bI .eql 31 15),mV 75 76]
def O0Q:SS:=[lA 77 8 11,lA 78 4 5,o 79 (.lit a0j [.slice none 0 0,.slice none 0 0,.bool false,.slice none 0 0] 1 [(0,4,t 78)]),o 80 (.call i0J [t 77,(.const (.bool true)),t 79] false),lA 81 8 11,lA 82 4 8,o 83 (.lit a0j [.slice none 0 0,.slice none 0 0,.bool false,.slice none 0 0] 1 [(0,4,t 82)]),o 84 (.call i0J [t 81,(.const (.bool false)),t 83] true),o 85 (.lit a0u [.int .i64 0,.slice none 0 0,.slice none 0 0,.slice none 0 0,.bool false,.slice none 0 0,.slice none 0 0,.bool false] 2 [(0,8,t 80),(8,8,t 84)]),mV 6 85]
def O0R:SS:=[o 87 (bI .eql 31 16),mV 86 87]
def O0S:SS:=[lA 88 8 11,lA 89 4 8,o 90 (.lit a0j [.slice none 0 0,.slice none 0 0,.bool false,.slice none 0 0] 1 [(0,4,t 89)]),o 91 (.call i0J [t 88,(.const (.bool true)),t 90] false),lA 92 8 11,lA 93 4 5,o 94 (.lit a0j [.slice none 0 0,.slice none 0 0,.bool false,.slice none 0 0] 1 [(0,4,t 93)]),o 95 (.call i0J [t 92,(.const (.bool false)),t 94] true),o 96 (.lit a0u [.int .i64 0,.slice none 0 0,.slice none 0 0,.slice none 0 0,.bool false,.slice none 0 0,.slice none 0 0,.bool false] 2 [(0,8,t 91),(8,8,t 95)]),mV 6 96]
def O0T:SS:=[lA 97 8 11,lA 98 4 9,o 99 (.lit a0j [.slice none 0 0,.slice none 0 0,.bool false,.slice none 0 0] 1 [(0,4,t 98)]),o 100 (.call i0J [t 97,(.const (.bool true)),t 99] false),lA 101 8 11,lA 102 4 7,o 103 (.lit a0j [.slice none 0 0,.slice none 0 0,.bool false,.slice none 0 0] 1 [(0,4,t 102)]),o 104 (.call i0J [t 101,(.const (.bool false)),t 103] true),o 105 (.lit a0u [.int .i64 0,.slice none 0 0,.slice none 0 0,.slice none 0 0,.bool false,.slice none 0 0,.slice none 0 0,.bool false] 2 [(0,8,t 100),(8,8,t 104)]),mV 6 105]
def D1R:SF:=⟨3,106,[.tmp 6],
 (qS (gR k1S) (qS (.draw k1T [0,0,3,0,0,31,0,0,255,511] []) (qS (gR k1U) (qS (gR k1V) (qS (gR k1W) (qS (qS (gR k1X) (.block 0 (qS (gR k1Y) (.cond (t 32) (qS (.draw k1Z [0,0,0,6,15,0,0,64,255,0,0,1024,4095,8191,16383] []) .ret) (qS (gR l1a) (.cond (t 48) (qS (.draw l1b [0,0,2,7,0,0,32,127,0,0,0,1536,4095,8191,16383] []) .ret) (qS (gR O0N) (.cond (t 64) (qS (.draw O0O [0,0,2,7,0,0,32,127,255,511] []) .ret) (qS (gR O0P) (.cond (t 75) (qS (.draw O0Q [0,0,2,7,0,0,32,127,255,511] []) .ret) (qS (gR O0R) (.cond (t 86) (qS (.draw O0S [0,0,2,7,0,0,32,127,255,511] []) .ret) .skip)))))))))))) (qS (.draw O0T [0,0,2,7,0,0,32,127,255,511] []) .ret)))))))⟩
def l1c:SS:=[mN 6,mN 7]
def l1d:SS:=[mN 8]
def l1e:SS:=[mI 9 0]
def l1f:SS:=[mV 10 9,mV 11 1,lN 12 11,o 13 (bT .lss 10 12)]
def l1g:SS:=[mV 16 8,mV 17 1,mV 18 9,iA 19 8 17 18,fA 20 0 19,lA 21 7 20,o 22 (.lit a0y [.int .i64 0,.slice none 0 0,.slice none 0 0,.slice none 0 0,.bool false,.slice none 0 0,.slice none 0 0] 1 [(0,7,t 21)]),o 23 (.app a0y 7 136 (t 16) (t 22)),mV 8 23]
def l1h:SS:=[mV 14 9,o 15 (bI .add 14 1),mV 9 15]
def l1i:SS:=[mV 24 0,mV 25 8,mV 26 2,cA 27 G0M [t 24,t 25,t 26]]
def l1j:SS:=[mV 28 0,cK 29 28,fA 30 4 29,lD 31 30]
def l1k:SS:=[mN 6,mN 7]
def l1l:SS:=[mV 32 1,mV 33 2,mV 6 32,mV 7 33]
def D1S:SF:=⟨3,34,[.tmp 6,.tmp 7],
 (qS (gR l1c) (qS (gR l1d) (qS (qS (gR l1e) (.block 0 (.loop (qS (qS (gR l1f) (.cond (t 13) .skip (.exit 0))) (qS (.block 1 (gR l1g)) (gR l1h)))))) (qS (gR l1i) (qS (qS (gR l1j) (.cond (t 31) (qS (gR l1k) .ret) .skip)) (qS (gR l1l) .ret))))))⟩
def l1m:SS:=[bX 3 a0j 0,mB 4 false]
def l1n:SS:=[fA 5 0 3,lD 6 5,lN 7 6,lD 8 1,o 9 (bT .neq 7 8),mV 10 9,gF 11 10 (fS 1 3),gF 12 10 (lS 11),gF 13 10 (nS 12),gF 14 10 (lS 2),gF 15 10 (bT .neq 13 14),pT 16 10 15,mV 4 16]
def D1T:SF:=⟨3,17,[.tmp 4],
 (qS (gR l1m) (qS (gR l1n) .ret))⟩
def l1o:SS:=[o 2 (.alloc a0d zR)]
def l1p:SS:=[mV 3 0,cA 4 j0P [t 3],cA 5 S0n [],o 6 (.build zR [(0,2,t 4),(2,2,t 5)]),sT 4 2 6]
def D1U:SF:=⟨1,7,[.cell 2 true 4],
 (qS (gR l1o) (qS (gR l1p) .ret))⟩
def l1q:SS:=[mN 2]
def l1r:SS:=[mI 3 0]
def l1s:SS:=[mV 9 0,lN 10 9,mI 11 0]
def l1t:SS:=[o 12 (bT .lss 11 10)]
def l1u:SS:=[iA 13 1 9 11,lD 14 13,mV 5 14]
def l1v:SS:=[mV 15 3,mV 16 5,lN 17 16,o 18 (bT .add 15 17),mV 3 18]
def l1w:SS:=[mV 19 3,o 20 (bI .lss 19 0)]
def l1x:SS:=[o 21 (.iface c0c (.const (.string ⟨#[108,101,110,32,111,117,116,32,111,102,32,114,97,110,103,101]⟩))),⟨none,none,.pan (t 21)⟩]
def l1y:SS:=[o 22 (bI .add 11 1),mV 11 22]
def l1z:SS:=[mV 23 3,o 24 (.call W0J [(.const (.slice none 0 0)),t 23] true),mV 6 24]
def O0U:SS:=[mV 25 0,lN 26 25,mI 27 0]
def O0V:SS:=[o 28 (bT .lss 27 26)]
def O0W:SS:=[iA 29 1 25 27,lD 30 29,mV 8 30]
def O0X:SS:=[mV 31 6,mV 32 8,o 33 (.app a0a 2 32 (t 31) (t 32)),mV 6 33]
def O0Y:SS:=[o 34 (bI .add 27 1),mV 27 34]
def O0Z:SS:=[mV 35 6,mV 2 35]
def D1V:SF:=⟨1,36,[.tmp 2],
 (qS (gR l1q) (qS (gR l1r) (qS (qS (gR l1s) (.block 0 (.loop (qS (gR l1t) (qS (.cond (t 12) .skip (.exit 0)) (qS (.block 1 (qS (gR l1u) (qS (gR l1v) (qS (gR l1w) (.cond (t 20) (gR l1x) .skip))))) (gR l1y))))))) (qS (gR l1z) (qS (qS (gR O0U) (.block 2 (.loop (qS (gR O0V) (qS (.cond (t 28) .skip (.exit 2)) (qS (.block 3 (qS (gR O0W) (gR O0X))) (gR O0Y))))))) (qS (gR O0Z) .ret))))))⟩
def l1A:SS:=[bX 1 a0a 0,o 2 (.alloc a0d zR)]
def l1B:SS:=[lA 3 2 1,o 4 (.build zI []),cA 5 m0q [t 3,t 4],cA 6 j0P [i 1],o 7 (.build zR [(0,2,t 5),(2,2,t 6)]),sT 4 2 7]
def D1W:SF:=⟨1,8,[.cell 2 true 4],
 (qS (gR l1A) (qS (gR l1B) .ret))⟩
def l1C:SS:=[bX 2 a0d 0,bX 3 a0d 1,o 4 (.alloc a0d zR)]
def l1D:SS:=[lA 5 4 2,cB 6 j0Q [t 5],lA 7 4 3,cA 8 j0Q [t 7],sT 4 2 6,sT 4 3 8]
def l1E:SS:=[fA 9 0 2,lA 10 2 9,fA 11 0 3,lA 12 2 11,cB 13 h0Q [t 10,t 12],fA 14 2 2,lA 15 2 14,fA 16 2 3,lA 17 2 16,cA 18 h0Q [t 15,t 17],cA 19 y0K [t 13,t 18],sT 4 4 19]
def D1X:SF:=⟨2,20,[.cell 4 true 4],
 (qS (gR l1C) (qS (.draw l1D [0,1,0,7,15,31] []) (qS (.draw l1E [0,1,0,4,15,0,32,0,128,511,1023,2047] []) .ret)))⟩
def l1F:SS:=[mB 4 false]
def l1G:SS:=[mV 5 0,mV 6 1,cA 7 W0K [t 5,t 6],o 8 (bI .geq 7 0),mV 4 8]
def D1Y:SF:=⟨2,9,[.tmp 4],
 (qS (gR l1F) (qS (gR l1G) .ret))⟩
def l1H:SS:=[mB 3 false]
def l1I:SS:=[mV 4 0,lN 5 4,fA 6 0 1,lD 7 6,o 8 (bT .neq 5 7),mV 3 8]
def E1a:SF:=⟨2,9,[.tmp 3],
 (qS (gR l1H) (qS (gR l1I) .ret))⟩
def l1J:SS:=[bX 1 d0e 0,o 2 (.alloc b0v [.int .i64 0,.slice none 0 0,.slice none 0 0,.slice none 0 0,.bool false,.slice none 0 0,.bool false,.slice none 0 0])]
def l1K:SS:=[fA 8 0 1,lD 9 8,o 10 (.build [.int .i64 0,.slice none 0 0,.slice none 0 0,.slice none 0 0,.bool false,.slice none 0 0,.bool false,.slice none 0 0] [(0,1,t 9)]),o 3 (.alloc b0v [.int .i64 0,.slice none 0 0,.slice none 0 0,.slice none 0 0,.bool false,.slice none 0 0,.bool false,.slice none 0 0]),sT 8 3 10]
def l1L:SS:=[fA 11 1 1,lD 12 11,lN 13 12,mI 14 0]
def l1M:SS:=[o 15 (bT .lss 14 13)]
def l1N:SS:=[mV 16 14,iA 17 1 12 14,lD 18 17,mV 4 16,mV 5 18]
def l1O:SS:=[mV 20 5,cB 21 G0Q [t 20],fA 22 2 1,lD 23 22,mV 24 4,iA 25 4 23 24,lA 26 4 25,o 27 (.build zR []),cB 28 j0t [t 26,t 27],o 29 (.lit a0d zR 1 [(0,4,t 28)]),o 30 (.app a0d 4 64 (t 21) (t 29)),cB 31 G0P [t 30],mV 19 31,eX 32 19 0,eX 33 19 1,o 7 (.alloc a0d zR),mV 6 32,sT 4 7 33]
def l1P:SS:=[fA 34 1 3,lD 35 34,mV 36 6,o 37 (.lit f0q [.slice none 0 0] 1 [(0,1,t 36)]),o 38 (.app f0q 1 24 (t 35) (t 37)),fA 39 2 3,lD 40 39,lA 41 4 7,o 42 (.lit a0d zR 1 [(0,4,t 41)]),o 43 (.app a0d 4 64 (t 40) (t 42)),fA 44 1 3,sT 1 44 38,fA 45 2 3,sT 1 45 43]
def l1Q:SS:=[o 46 (bI .add 14 1),mV 14 46]
def l1R:SS:=[fA 48 3 1,lD 49 48,cA 50 G0Q [t 49],cA 51 G0P [t 50],mV 47 51,eX 52 47 0,eX 53 47 1,fA 54 3 3,sT 1 54 52,fA 55 4 3,sT 4 55 53]
def l1S:SS:=[lA 56 8 3,sT 8 2 56]
def E1b:SF:=⟨1,57,[.cell 2 true 8],
 (qS (gR l1J) (qS (gR l1K) (qS (qS (gR l1L) (.block 0 (.loop (qS (gR l1M) (qS (.cond (t 15) .skip (.exit 0)) (qS (.block 1 (qS (gR l1N) (qS (.draw l1O [0,1,0,4,0,28,60,0,255,511,1023,2047,4095,8191,8191,0,49151,131071] [(10,15)]) (.draw l1P [0,1,0,4,15,0,32,0,128,511,127,2047,4095,8191] [(4,6),(4,7),(4,8)])))) (gR l1Q))))))) (qS (gR l1R) (qS (gR l1S) .ret)))))⟩
def l1T:SS:=[mN 4]
def l1U:SS:=[mV 7 0,mV 8 1,cA 9 G0S [t 7,t 8],mV 1 9]
def l1V:SS:=[mV 10 0,cK 11 10,fA 12 3 11,lD 13 12,o 14 (bI .eql 13 0),mV 15 14,gT 16 15 (mS 0),gT 17 15 (.call h0R [t 16,(.const (.string ⟨#[43]⟩))] true),gT 18 15 (mS 17),gF 19 18 (mS 0),gF 20 18 (.call h0R [t 19,(.const (.string ⟨#[45]⟩))] true),gT 21 15 (.pick (t 18) (.const (.bool true)) (t 20)),pF 22 15 21]
def l1W:SS:=[mV 23 1,lN 24 23,o 25 (bI .sub 24 1),mV 5 25]
def l1X:SS:=[mI 6 4]
def l1Y:SS:=[mV 26 0,o 27 (.call h0R [t 26,(.const (.string ⟨#[45]⟩))] true)]
def l1Z:SS:=[mI 6 5]
def m1a:SS:=[mV 28 0,cK 29 28,fA 30 1 29,lD 31 30,o 32 (bI .add 31 1),cK 33 28,fA 34 1 33,sT 1 34 32]
def m1b:SS:=[mV 35 0,mV 36 1,cA 37 G0S [t 35,t 36],mV 38 5,mV 39 6,cA 40 s0S [t 37,t 38,t 39],mV 1 40]
def m1c:SS:=[mV 41 1,mV 4 41]
def E1c:SF:=⟨2,42,[.tmp 4],
 (qS (gR l1T) (qS (gR l1U) (qS (.block 0 (.loop (qS (qS (gR l1V) (.cond (t 22) .skip (.exit 0))) (.block 1 (qS (gR l1W) (qS (gR l1X) (qS (qS (gR l1Y) (.cond (t 27) (gR l1Z) .skip)) (qS (gR m1a) (gR m1b))))))))) (qS (gR m1c) .ret))))⟩
def m1d:SS:=[mN 4]
def m1e:SS:=[mV 6 0,mV 7 1,cA 8 y0S [t 6,t 7],mV 1 8]
def m1f:SS:=[mV 9 0,o 10 (.call f0k [t 9,(.const (.string ⟨#[97,110,100]⟩))] true)]
def m1g:SS:=[mV 11 1,lN 12 11,o 13 (bI .sub 12 1),mV 5 13]
def m1h:SS:=[mV 14 0,mV 15 1,cA 16 y0S [t 14,t 15],mV 17 5,cA 18 s0S [t 16,t 17,i 19],mV 1 18]
def m1i:SS:=[mV 19 1,mV 4 19]
def E1d:SF:=⟨2,20,[.tmp 4],
 (qS (gR m1d) (qS (gR m1e) (qS (.block 0 (.loop (qS (qS (gR m1f) (.cond (t 10) .skip (.exit 0))) (.block 1 (qS (gR m1g) (gR m1h)))))) (qS (gR m1i) .ret))))⟩
def m1j:SS:=[mN 6]
def m1k:SS:=[mV 7 0,mV 8 2,mV 9 1,mV 10 0,lN 11 10,o 12 (bI .sub 11 1),o 13 (.build [.int .i64 0,.int .i64 0,(.string ⟨#[]⟩),.int .i64 0,.int .i64 0] [(0,1,t 8),(3,1,t 9),(4,1,t 12)]),o 14 (.lit b0n [.int .i64 0,.int .i64 0,(.string ⟨#[]⟩),.int .i64 0,.int .i64 0] 1 [(0,5,t 13)]),o 15 (.app b0n 5 48 (t 7) (t 14)),mV 6 15]
def E1e:SF:=⟨3,16,[.tmp 6],
 (qS (gR m1j) (qS (gR m1k) .ret))⟩
def m1l:SS:=[mV 4 0,mV 5 1,cA 6 h0R [t 4,t 5],mV 7 6,gT 8 7 (mS 0),gT 9 7 (.chk (t 8)),gT 10 7 (fS 2 9),gT 11 7 (lS 10),gT 12 7 (bI .geq 11 50),pF 13 7 12]
def m1m:SS:=[mV 14 0,cA 15 w0U [t 14,i 5]]
def m1n:SS:=[mV 16 0,mV 17 1,cA 18 g0W [t 16,t 17]]
def m1o:SS:=[mV 19 0,cK 20 19,fA 21 2 20,lD 22 21,o 23 (bI .add 22 1),cK 24 19,fA 25 2 24,sT 1 25 23]
def E1f:SF:=⟨2,26,[],
 (qS (qS (gR m1l) (.cond (t 13) (gR m1m) .skip)) (qS (gR m1n) (gR m1o)))⟩
def m1p:SS:=[o 4 (.mv (.const (.string ⟨#[]⟩)))]
def m1q:SS:=[mV 6 0,mV 7 1,iA 8 5 6 7,lA 9 5 8,o 5 (.alloc b0n [.int .i64 0,.int .i64 0,(.string ⟨#[]⟩),.int .i64 0,.int .i64 0]),sT 5 5 9]
def m1r:SS:=[fA 11 0 5,lD 12 11,o 13 (bI .eql 12 1),mV 10 13]
def m1s:SS:=[fA 14 1 5,lD 15 14,cA 16 G0T [t 15],mV 4 16]
def m1t:SS:=[fA 18 0 5,lD 19 18,o 20 (bI .eql 19 2),mV 17 20]
def m1u:SS:=[fA 21 2 5,lD 22 21,mV 4 22]
def m1v:SS:=[fA 24 0 5,lD 25 24,o 26 (bI .eql 25 3),mV 23 26]
def m1w:SS:=[mV 27 0,fA 28 3 5,lD 29 28,cA 30 y0T [t 27,t 29],o 31 (.bin 0 .add (.const (.string ⟨#[45,32]⟩)) (t 30)),mV 4 31]
def m1x:SS:=[fA 33 0 5,lD 34 33,o 35 (bI .geq 34 9),mV 36 35,gT 37 36 (fS 0 5),gT 38 36 (lS 37),gT 39 36 (bI .leq 38 11),pF 40 36 39,mV 32 40]
def m1y:SS:=[fA 41 0 5,lD 42 41,cA 43 y0U [t 42],mV 4 43]
def P0a:SS:=[fA 45 0 5,lD 46 45,o 47 (bI .eql 46 18),mV 44 47]
def P0b:SS:=[mV 48 0,fA 49 3 5,lD 50 49,cA 51 W0L [t 48,t 50],o 52 (.bin 0 .add (.const (.string ⟨#[110,111,116,32]⟩)) (t 51)),mV 4 52]
def P0c:SS:=[fA 54 0 5,lD 55 54,o 56 (bI .geq 55 19),mV 53 56]
def P0d:SS:=[mV 57 0,fA 58 3 5,lD 59 58,cB 60 W0L [t 57,t 59],o 61 (.bin 0 .add (t 60) (.const (.string ⟨#[32]⟩))),fA 62 0 5,lD 63 62,cB 64 y0U [t 63],o 65 (bT .add 61 64),o 66 (.bin 0 .add (t 65) (.const (.string ⟨#[32]⟩))),mV 67 0,fA 68 4 5,lD 69 68,cA 70 W0L [t 67,t 69],o 71 (bT .add 66 70),mV 4 71]
def P0e:SS:=[mV 72 0,fA 73 3 5,lD 74 73,cB 75 y0T [t 72,t 74],o 76 (.bin 0 .add (t 75) (.const (.string ⟨#[32]⟩))),fA 77 0 5,lD 78 77,cB 79 y0U [t 78],o 80 (bT .add 76 79),o 81 (.bin 0 .add (t 80) (.const (.string ⟨#[32]⟩))),mV 82 0,fA 83 4 5,lD 84 83,cA 85 y0T [t 82,t 84],o 86 (bT .add 81 85),mV 4 86]
def E1g:SF:=⟨2,87,[.tmp 4],
 (qS (gR m1p) (qS (gR m1q) (qS (.block 0 (qS (gR m1r) (.cond (t 10) (qS (gR m1s) .ret) (qS (gR m1t) (.cond (t 17) (qS (gR m1u) .ret) (qS (gR m1v) (.cond (t 23) (qS (gR m1w) .ret) (qS (gR m1x) (.cond (t 32) (qS (gR m1y) .ret) (qS (gR P0a) (.cond (t 44) (qS (gR P0b) .ret) (qS (gR P0c) (.cond (t 53) (qS (.draw P0d [0,0,2,7,15,0,32,111,255,511,0,0,2048,7407,16383,32767] []) .ret) .skip))))))))))))) (qS (.draw P0e [0,0,2,7,15,0,32,111,255,511,0,0,2048,7407,16383,32767] []) .ret))))⟩
def m1J:SS:=[o 2 (.mv (.const (.string ⟨#[]⟩)))]
def m1K:SS:=[mV 3 0,cA 4 G0G [t 3],o 5 (.bin 0 .add (.const (.string ⟨#[123,32]⟩)) (t 4)),o 6 (.bin 0 .add (t 5) (.const (.string ⟨#[125]⟩))),mV 2 6]
def E1h:SF:=⟨1,7,[.tmp 2],
 (qS (gR m1J) (qS (gR m1K) .ret))⟩
def m1L:SS:=[bX 2 a0y 0,bX 3 a0j 1,o 4 (.alloc a0u [.int .i64 0,.slice none 0 0,.slice none 0 0,.slice none 0 0,.bool false,.slice none 0 0,.slice none 0 0,.bool false])]
def m1M:SS:=[lA 5 4 3,fA 6 2 2,sT 4 6 5]
def m1N:SS:=[lA 7 7 2,o 8 (.build [.int .i64 0,.slice none 0 0,.slice none 0 0,.slice none 0 0,.bool false,.slice none 0 0,.slice none 0 0,.bool false] [(0,7,t 7)]),sT 8 4 8]
def E1i:SF:=⟨2,9,[.cell 4 true 8],
 (qS (gR m1L) (qS (gR m1M) (qS (gR m1N) .ret)))⟩
def m1O:SS:=[bX 3 a0u 0,o 6 (.alloc a0u [.int .i64 0,.slice none 0 0,.slice none 0 0,.slice none 0 0,.bool false,.slice none 0 0,.slice none 0 0,.bool false])]
def m1P:SS:=[fA 7 0 3,lA 8 7 7,fA 9 0 3,fA 10 2 9,lA 11 4 10,mV 12 2,cA 13 y0R [t 8,t 11,t 12],mV 14 1,o 15 (.build [.int .i64 0,.slice none 0 0,.slice none 0 0,.slice none 0 0,.bool false,.slice none 0 0,.slice none 0 0,.bool false] [(0,7,t 13),(7,1,t 14)]),sT 8 6 15]
def E1j:SF:=⟨3,16,[.cell 6 true 8],
 (qS (gR m1O) (qS (gR m1P) .ret))⟩
def m1Q:SS:=[mN 4]
def m1R:SS:=[mV 5 1,o 6 (bI .lss 5 0)]
def m1S:SS:=[o 7 (.iface c0c (.const (.string ⟨#[99,97,110,110,111,116,32,98,101,32,110,101,103,97,116,105,118,101]⟩))),⟨none,none,.pan (t 7)⟩]
def m1T:SS:=[mV 8 1,mV 9 0,o 10 (.cap (t 9)),mV 11 0,lN 12 11,o 13 (bT .sub 10 12),o 14 (bT .sub 8 13),mV 1 14]
def m1U:SS:=[mV 15 1,o 16 (bI .gtr 15 0)]
def m1V:SS:=[mV 17 0,mV 18 0,o 19 (.cap (t 18)),o 20 (.sl a0a 2 (t 17) none (some (t 19)) none),mV 21 1,o 22 (.appz a0a 32 zI (t 20) (t 21)),mV 23 0,lN 24 23,o 25 (.sl a0a 2 (t 22) none (some (t 24)) none),mV 0 25]
def m1W:SS:=[mV 26 0,mV 4 26]
def E1k:SF:=⟨2,27,[.tmp 4],
 (qS (gR m1Q) (qS (qS (gR m1R) (.cond (t 6) (gR m1S) .skip)) (qS (qS (gR m1T) (qS (gR m1U) (.cond (t 16) (gR m1V) .skip))) (qS (gR m1W) .ret))))⟩
def m1X:SS:=[mI 4 0]
def m1Y:SS:=[mV 6 0,lN 7 6,mI 8 0]
def m1Z:SS:=[o 9 (bT .lss 8 7)]
def n1a:SS:=[mV 10 8,mV 5 10]
def n1b:SS:=[mV 11 1,mV 12 0,mV 13 5,iA 14 1 12 13,lD 15 14,o 16 (.callv (t 11) [t 15] true)]
def n1c:SS:=[mV 17 5,mV 4 17]
def n1d:SS:=[o 18 (bI .add 8 1),mV 8 18]
def n1e:SS:=[o 4 (.mv (.const (.int .i64 (-1))))]
def E1l:SF:=⟨2,19,[.tmp 4],
 (qS (gR m1X) (qS (qS (gR m1Y) (.block 0 (.loop (qS (gR m1Z) (qS (.cond (t 9) .skip (.exit 0)) (qS (.block 1 (qS (gR n1a) (qS (gR n1b) (.cond (t 16) (qS (gR n1c) .ret) .skip)))) (gR n1d))))))) (qS (gR n1e) .ret)))⟩
def n1f:SS:=[mN 2,o 3 (.alloc a0d zR)]
def n1g:SS:=[cA 21 j0P [i 1],o 4 (.alloc a0a zI),sT 2 4 21]
def n1h:SS:=[mV 22 0,lN 23 22,mI 24 0]
def n1i:SS:=[o 25 (bT .lss 24 23)]
def n1j:SS:=[iA 26 4 22 24,lA 27 4 26,o 6 (.alloc a0d zR),sT 4 6 27]
def n1k:SS:=[fA 29 2 6,lA 30 2 29,lA 31 2 4,fA 32 2 6,lA 33 2 32,cB 34 F0A [t 31,t 33],cB 35 m0o [t 30,t 34],mV 28 35,eX 36 28 0,eX 37 28 1,eX 38 28 2,o 7 (.alloc a0a zI),o 8 (.alloc a0a zI),sT 2 7 36,sT 2 8 37,mV 9 38]
def n1l:SS:=[lA 39 2 4,lA 40 2 7,cA 41 h0Q [t 39,t 40],sT 2 4 41]
def n1m:SS:=[o 42 (bI .add 24 1),mV 24 42]
def n1n:SS:=[mN 10]
def n1o:SS:=[o 43 (.build zI []),o 11 (.alloc a0a zI),sT 2 11 43]
def P0f:SS:=[mV 44 0,lN 45 44,mI 46 0]
def P0g:SS:=[o 47 (bT .lss 46 45)]
def P0h:SS:=[iA 48 4 44 46,lA 49 4 48,o 13 (.alloc a0d zR),sT 4 13 49]
def P0i:SS:=[lA 51 2 4,fA 52 2 13,lA 53 2 52,cA 54 m0o [t 51,t 53],mV 50 54,eX 55 50 0,eX 56 50 1,eX 57 50 2,o 14 (.alloc a0a zI),o 15 (.alloc a0a zI),sT 2 14 55,sT 2 15 56,mV 16 57]
def P0j:SS:=[fA 58 0 13,lA 59 2 58,lA 60 2 14,cA 61 h0Q [t 59,t 60],o 17 (.alloc a0a zI),sT 2 17 61]
def P0k:SS:=[mV 62 10,lA 63 2 17,o 64 (.lit a0a zI 1 [(0,2,t 63)]),o 65 (.app a0a 2 32 (t 62) (t 64)),mV 10 65]
def P0l:SS:=[lA 66 2 11,lA 67 2 17,cA 68 F0A [t 66,t 67],sT 2 11 68]
def P0m:SS:=[o 69 (bI .add 46 1),mV 46 69]
def P0n:SS:=[lA 70 2 11,o 71 (.build zI []),cA 72 F0z [t 70,t 71],o 73 (bI .eql 72 0)]
def P0o:SS:=[cA 74 j0P [i 1],sT 2 11 74]
def P0p:SS:=[mV 75 10,lN 76 75,mI 77 0]
def P0q:SS:=[o 78 (bT .lss 77 76)]
def P0r:SS:=[mV 79 77,mV 18 79]
def P0s:SS:=[mV 81 10,mV 82 18,mV 83 10,mV 84 18,iA 85 2 83 84,lA 86 2 85,lA 87 2 11,cA 88 m0o [t 86,t 87],mV 80 88,eX 89 80 0,eX 90 80 1,eX 91 80 2,iA 92 2 81 82,sT 2 92 89]
def P0t:SS:=[o 93 (bI .add 77 1),mV 77 93]
def P0u:SS:=[lA 95 2 4,lA 96 2 11,cA 97 s0P [t 95,t 96],mV 94 97,eX 98 94 0,eX 99 94 1,o 19 (.alloc a0d zR),sT 4 19 98,mV 20 99]
def P0v:SS:=[mV 100 10,lA 101 4 19,mV 2 100,sT 4 3 101]
def E1m:SF:=⟨1,102,[.tmp 2,.cell 3 true 4],
 (qS (gR n1f) (qS (gR n1g) (qS (qS (gR n1h) (.block 0 (.loop (qS (gR n1i) (qS (.cond (t 25) .skip (.exit 0)) (qS (.block 1 (qS (gR n1j) (qS (.draw n1k [0,1,0,0,8,28,63,127,255,255,255,0,0,6655,15359,32767] []) (gR n1l)))) (gR n1m))))))) (qS (gR n1n) (qS (gR n1o) (qS (qS (gR P0f) (.block 2 (.loop (qS (gR P0g) (qS (.cond (t 47) .skip (.exit 2)) (qS (.block 3 (qS (gR P0h) (qS (gR P0i) (qS (gR P0j) (qS (gR P0k) (gR P0l)))))) (gR P0m))))))) (qS (qS (gR P0n) (.cond (t 73) (gR P0o) .skip)) (qS (qS (gR P0p) (.block 4 (.loop (qS (gR P0q) (qS (.cond (t 78) .skip (.exit 4)) (qS (.block 5 (qS (gR P0r) (.draw P0s [0,0,0,0,12,28,0,124,252,508,508,508,1023,5119] []))) (gR P0t))))))) (qS (gR P0u) (qS (.draw P0v [0,0,1,7] []) .ret))))))))))⟩
def n1p:SS:=[mN 2]
def n1q:SS:=[mV 6 0,lN 7 6,o 8 (bI .add 7 1),o 9 (.mk a0d 64 zR (i 0) (t 8)),mV 3 9]
def n1r:SS:=[mV 10 0,lN 11 10,mI 12 0]
def n1s:SS:=[o 13 (bT .lss 12 11)]
def n1t:SS:=[iA 14 4 10 12,lA 15 4 14,o 5 (.alloc a0d zR),sT 4 5 15]
def n1u:SS:=[mV 16 3,lA 17 4 5,o 18 (.build zR []),cA 19 j0t [t 17,t 18],o 20 (.lit a0d zR 1 [(0,4,t 19)]),o 21 (.app a0d 4 64 (t 16) (t 20)),mV 3 21]
def n1v:SS:=[o 22 (bI .add 12 1),mV 12 22]
def n1w:SS:=[mV 23 3,mV 2 23]
def E1n:SF:=⟨1,24,[.tmp 2],
 (qS (gR n1p) (qS (gR n1q) (qS (qS (gR n1r) (.block 0 (.loop (qS (gR n1s) (qS (.cond (t 13) .skip (.exit 0)) (qS (.block 1 (qS (gR n1t) (gR n1u))) (gR n1v))))))) (qS (gR n1w) .ret))))⟩
def n1x:SS:=[bX 3 a0e 0,bX 4 d0e 1,bX 5 b0v 2,o 6 (.alloc b0N zA),mI 7 0]
def n1y:SS:=[lA 16 0 3,lA 17 8 5,cA 18 W0M [t 16,t 17],o 8 (.alloc b0h [.pointer none]),sT 1 8 18]
def n1z:SS:=[lD 19 8,cK 20 19,fA 21 1 20,lD 22 21,lD 23 8,cK 24 23,fA 25 1 24,lD 26 25,o 27 (bI .add 26 1),mV 9 22,mV 10 27]
def n1A:SS:=[lD 28 8,mV 29 9,cA 30 G0U [t 28,t 29]]
def n1B:SS:=[lD 31 8,cK 32 31,o 33 (.fa0 a0f (t 32)),lA 34 0 33,o 35 (.iface a0e (t 34)),lD 36 8,cK 37 36,fA 38 3 37,lD 39 38,mV 40 9,iA 41 1 39 40,lD 42 41,lD 43 8,cK 44 43,fA 45 2 44,lD 46 45,iA 47 1 42 46,lD 48 47,o 49 (.inv (t 35) [(a0A,y0Y),(a0e,s0X)] [t 48] true),o 50 (bI .lss 49 0)]
def n1C:SS:=[cB 51 l0x [i 0],lD 52 8,mV 53 9,lA 54 8 5,cB 55 l0x [i 1],cA 56 G0V [t 52,t 53,t 54,t 55],o 57 (.build zA [(0,1,i 2),(1,4,t 51),(6,1,t 56)]),lD 58 8,cK 59 58,fA 60 6 59,lD 61 60,sT 8 6 57,mV 7 61]
def n1D:SS:=[lD 62 8,cA 63 W0N [t 62]]
def n1E:SS:=[lD 64 8,mV 65 10,cA 66 G0U [t 64,t 65],mV 11 66]
def n1F:SS:=[lD 67 8,o 68 (.mkfn (.func W0O) [] [t 8]),cA 69 G0W [t 67,t 68],mV 12 69]
def n1G:SS:=[mV 70 11,o 71 (bI .geq 70 0)]
def P0w:SS:=[cB 72 l0x [i 0],mV 73 12,lD 74 8,mV 75 11,cA 76 W0P [t 74,t 75],o 77 (.build zA [(0,1,i 3),(1,4,t 72),(5,1,t 73),(7,1,t 76)]),lD 78 8,cK 79 78,fA 80 6 79,lD 81 80,sT 8 6 77,mV 7 81]
def P0x:SS:=[cA 82 l0x [i 0],o 13 (.alloc a0d zR),sT 4 13 82]
def P0y:SS:=[fA 83 3 4,lD 84 83,lN 85 84,mI 86 0]
def P0z:SS:=[o 87 (bT .lss 86 85)]
def P0A:SS:=[mV 88 86,iA 89 4 84 86,lA 90 4 89,o 15 (.alloc a0d zR),mV 14 88,sT 4 15 90]
def P0B:SS:=[lA 91 4 13,lA 92 4 15,mV 93 12,mV 94 14,iA 95 4 93 94,lA 96 4 95,cB 97 w0Y [t 92,t 96],cA 98 j0t [t 91,t 97],sT 4 13 98]
def P0C:SS:=[o 99 (bI .add 86 1),mV 86 99]
def P0D:SS:=[lA 100 4 13,mV 101 12,lD 102 8,mV 103 10,lA 104 8 5,fA 105 4 5,lA 106 4 105,cA 107 G0V [t 102,t 103,t 104,t 106],o 108 (.build zA [(0,1,i 1),(1,4,t 100),(5,1,t 101),(6,1,t 107)]),lD 109 8,cK 110 109,fA 111 6 110,lD 112 111,sT 8 6 108,mV 7 112]
def E1o:SF:=⟨3,113,[.cell 6 true 8,.tmp 7],
 (qS (gR n1x) (qS (gR n1y) (qS (.draw n1z [0,1,3,7,0,16,48,112,240,15,1023] []) (qS (gR n1A) (qS (qS (.draw n1B [0,1,3,7,15,0,32,96,224,0,992,2016,0,4096,12288,28672,65504,131040,262143,524287] []) (.cond (t 50) (qS (.draw n1C [0,0,0,0,1,31,63,0,128,384,896,127,4095] [(5,7),(5,10),(7,11),(10,11)]) .ret) .skip)) (qS (gR n1D) (qS (gR n1E) (qS (gR n1F) (qS (qS (gR n1G) (.cond (t 71) (qS (.draw P0w [0,0,0,0,13,31,0,64,192,448,63,2047] [(4,6),(4,9),(6,10),(9,10)]) .ret) .skip)) (qS (gR P0x) (qS (qS (gR P0y) (.block 0 (.loop (qS (gR P0z) (qS (.cond (t 87) .skip (.exit 0)) (qS (.block 1 (qS (gR P0A) (.draw P0B [0,0,0,0,12,28,62,127,255] []))) (gR P0C))))))) (qS (.draw P0D [0,0,0,0,0,0,32,124,255,0,512,1536,3584,511,16383] [(0,7),(7,9),(7,12),(9,13),(12,13)]) .ret))))))))))))⟩
def n1H:SS:=[mN 4]
def n1I:SS:=[mV 7 0,mV 8 1,cA 9 y0V [t 7,t 8],mV 1 9]
def n1J:SS:=[mV 10 0,cK 11 10,fA 12 3 11,lD 13 12,o 14 (bI .eql 13 0),mV 15 14,gT 16 15 (mS 0),gT 17 15 (.call h0R [t 16,(.const (.string ⟨#[42]⟩))] true),gT 18 15 (mS 17),gF 19 18 (mS 0),gF 20 18 (.call h0R [t 19,(.const (.string ⟨#[47]⟩))] true),gT 21 15 (.pick (t 18) (.const (.bool true)) (t 20)),gT 22 15 (mS 21),gF 23 22 (mS 0),gF 24 22 (.call h0R [t 23,(.const (.string ⟨#[37]⟩))] true),gT 25 15 (.pick (t 22) (.const (.bool true)) (t 24)),pF 26 15 25]
def n1K:SS:=[mV 27 1,lN 28 27,o 29 (bI .sub 28 1),mV 5 29]
def n1L:SS:=[mI 6 6]
def n1M:SS:=[mV 30 0,o 31 (.call h0R [t 30,(.const (.string ⟨#[47]⟩))] true)]
def n1N:SS:=[mI 6 7]
def n1O:SS:=[mV 32 0,o 33 (.call h0R [t 32,(.const (.string ⟨#[37]⟩))] true)]
def n1P:SS:=[mI 6 8]
def n1Q:SS:=[mV 34 0,cK 35 34,fA 36 1 35,lD 37 36,o 38 (bI .add 37 1),cK 39 34,fA 40 1 39,sT 1 40 38]
def P0E:SS:=[mV 41 0,mV 42 1,cA 43 y0V [t 41,t 42],mV 44 5,mV 45 6,cA 46 s0S [t 43,t 44,t 45],mV 1 46]
def P0F:SS:=[mV 47 1,mV 4 47]
def E1p:SF:=⟨2,48,[.tmp 4],
 (qS (gR n1H) (qS (gR n1I) (qS (.block 0 (.loop (qS (qS (gR n1J) (.cond (t 26) .skip (.exit 0))) (.block 1 (qS (gR n1K) (qS (gR n1L) (qS (qS (gR n1M) (.cond (t 31) (gR n1N) .skip)) (qS (qS (gR n1O) (.cond (t 33) (gR n1P) .skip)) (qS (gR n1Q) (gR P0E)))))))))) (qS (gR P0F) .ret))))⟩
def n1R:SS:=[mN 4]
def n1S:SS:=[mV 9 0,cK 10 9,fA 11 3 10,lD 12 11,o 13 (bI .neq 12 0),mV 8 13]
def n1T:SS:=[mV 14 1,mV 4 14]
def n1U:SS:=[mV 16 0,o 17 (.call h0R [t 16,(.const (.string ⟨#[110,111,116]⟩))] true),mV 15 17]
def n1V:SS:=[mV 18 0,o 19 (.call s0T [t 18,(.const (.string ⟨#[110,111,116]⟩))] true)]
def n1W:SS:=[mV 20 0,mV 21 1,cA 22 y0S [t 20,t 21],mV 1 22]
def n1X:SS:=[mV 23 0,cK 24 23,fA 25 2 24,lD 26 25,o 27 (bI .sub 26 1),cK 28 23,fA 29 2 28,sT 1 29 27]
def n1Y:SS:=[mV 30 1,mV 31 1,lN 32 31,o 33 (bI .sub 32 1),o 34 (.build [.int .i64 0,.int .i64 0,(.string ⟨#[]⟩),.int .i64 0,.int .i64 0] [(0,1,i 18),(3,1,t 33),(4,1,(.const (.int .i64 (-1))))]),o 35 (.lit b0n [.int .i64 0,.int .i64 0,(.string ⟨#[]⟩),.int .i64 0,.int .i64 0] 1 [(0,5,t 34)]),o 36 (.app b0n 5 48 (t 30) (t 35)),mV 4 36]
def n1Z:SS:=[mV 38 0,o 39 (.call h0R [t 38,(.const (.string ⟨#[91]⟩))] true),mV 37 39]
def o1a:SS:=[mV 40 0,o 41 (.call s0T [t 40,(.const (.string ⟨#[91]⟩))] true)]
def P0G:SS:=[mV 42 0,mV 43 1,cA 44 s0Q [t 42,t 43],mV 1 44]
def P0H:SS:=[mV 45 0,o 46 (.call g0W [t 45,(.const (.string ⟨#[93]⟩))] true)]
def P0I:SS:=[mV 47 0,cK 48 47,fA 49 2 48,lD 50 49,o 51 (bI .sub 50 1),cK 52 47,fA 53 2 52,sT 1 53 51]
def P0J:SS:=[mV 54 1,mV 4 54]
def P0K:SS:=[mV 56 0,o 57 (.call f0k [t 56,(.const (.string ⟨#[116,114,117,101]⟩))] true),mV 55 57]
def P0L:SS:=[mV 58 1,o 59 (.build [.int .i64 0,.int .i64 0,(.string ⟨#[]⟩),.int .i64 0,.int .i64 0] [(0,1,i 9)]),cA 60 s0V [t 58,t 59],mV 4 60]
def P0M:SS:=[mV 62 0,o 63 (.call f0k [t 62,(.const (.string ⟨#[102,97,108,115,101]⟩))] true),mV 61 63]
def P0N:SS:=[mV 64 1,o 65 (.build [.int .i64 0,.int .i64 0,(.string ⟨#[]⟩),.int .i64 0,.int .i64 0] [(0,1,i 10)]),cA 66 s0V [t 64,t 65],mV 4 66]
def P0O:SS:=[mV 68 0,o 69 (.call f0k [t 68,(.const (.string ⟨#[42]⟩))] true),mV 67 69]
def P0P:SS:=[mV 70 1,o 71 (.build [.int .i64 0,.int .i64 0,(.string ⟨#[]⟩),.int .i64 0,.int .i64 0] [(0,1,i 11)]),cA 72 s0V [t 70,t 71],mV 4 72]
def P0Q:SS:=[mV 73 0,mV 74 1,cA 75 w0Z [t 73,t 74],mV 1 75]
def P0R:SS:=[mV 76 1,lN 77 76,o 78 (bI .sub 77 1),mV 5 78]
def P0S:SS:=[o 79 (.lit c0c [(.string ⟨#[]⟩)] 6 [(0,1,(.const (.string ⟨#[61,61]⟩))),(1,1,(.const (.string ⟨#[33,61]⟩))),(2,1,(.const (.string ⟨#[60]⟩))),(3,1,(.const (.string ⟨#[60,61]⟩))),(4,1,(.const (.string ⟨#[62]⟩))),(5,1,(.const (.string ⟨#[62,61]⟩)))]),mV 6 79]
def P0T:SS:=[mI 7 0]
def P0U:SS:=[mV 80 7,mV 81 6,lN 82 81,o 83 (bT .lss 80 82)]
def P0V:SS:=[mV 86 0,mV 87 6,mV 88 7,iA 89 1 87 88,lD 90 89,cA 91 f0k [t 86,t 90]]
def P0W:SS:=[mV 92 0,mV 93 1,cA 94 w0Z [t 92,t 93],mV 95 5,mV 96 7,o 97 (.bin 0 .add (i 12) (t 96)),cA 98 s0S [t 94,t 95,t 97],mV 4 98]
def P0X:SS:=[mV 84 7,o 85 (bI .add 84 1),mV 7 85]
def P0Y:SS:=[mV 99 0,cA 100 w0U [t 99,i 4]]
def P0Z:SS:=[mV 101 1,mV 4 101]
def E1q:SF:=⟨2,102,[.tmp 4],
 (qS (gR n1R) (qS (.block 0 (qS (gR n1S) (.cond (t 8) (qS (gR n1T) .ret) (qS (gR n1U) (.cond (t 15) (qS (gR n1V) (qS (gR n1W) (qS (gR n1X) (qS (gR n1Y) .ret)))) (qS (gR n1Z) (.cond (t 37) (qS (gR o1a) (qS (gR P0G) (qS (gR P0H) (qS (gR P0I) (qS (gR P0J) .ret))))) (qS (gR P0K) (.cond (t 55) (qS (gR P0L) .ret) (qS (gR P0M) (.cond (t 61) (qS (gR P0N) .ret) (qS (gR P0O) (.cond (t 67) (qS (gR P0P) .ret) .skip))))))))))))) (qS (gR P0Q) (qS (gR P0R) (qS (gR P0S) (qS (qS (gR P0T) (.block 1 (.loop (qS (qS (gR P0U) (.cond (t 83) .skip (.exit 1))) (qS (.block 2 (qS (gR P0V) (.cond (t 91) (qS (gR P0W) .ret) .skip))) (gR P0X)))))) (qS (gR P0Y) (qS (gR P0Z) .ret))))))))⟩
def o1b:SS:=[o 2 (.mv (.const (.string ⟨#[]⟩)))]
def o1d:SS:=[mV 3 0,o 4 (bI .lss 3 10)]
def o1e:SS:=[mV 5 0,o 6 (.bin 0 .add (i 48) (t 5)),cV 7 .u8 6,o 8 (.lit c0n [.int .u8 0] 1 [(0,1,t 7)]),o 9 (.b2s (t 8)),mV 2 9]
def o1f:SS:=[mV 10 0,o 11 (bI .quo 10 10),cB 12 G0T [t 11],mV 13 0,o 14 (bI .rem 13 10),o 15 (.bin 0 .add (i 48) (t 14)),cV 16 .u8 15,o 17 (.lit c0n [.int .u8 0] 1 [(0,1,t 16)]),o 18 (.b2s (t 17)),o 19 (bT .add 12 18),mV 2 19]
def E1r:SF:=⟨1,20,[.tmp 2],
 (qS (gR o1b) (qS (qS (gR o1d) (.cond (t 4) (qS (gR o1e) .ret) .skip)) (qS (.draw o1f [0,1,3,0,8,24,56,120,248,511,1023] []) .ret)))⟩
def o1g:SS:=[o 4 (.mv (.const (.string ⟨#[]⟩)))]
def o1h:SS:=[mV 5 0,mV 6 1,iA 7 5 5 6,fA 8 0 7,lD 9 8,o 10 (bI .leq 9 2)]
def o1i:SS:=[mV 11 0,mV 12 1,cA 13 x0a [t 11,t 12],mV 4 13]
def o1j:SS:=[mV 14 0,mV 15 1,cA 16 x0a [t 14,t 15],o 17 (.bin 0 .add (.const (.string ⟨#[40,32]⟩)) (t 16)),o 18 (.bin 0 .add (t 17) (.const (.string ⟨#[32,41]⟩))),mV 4 18]
def E1s:SF:=⟨2,19,[.tmp 4],
 (qS (gR o1g) (qS (qS (gR o1h) (.cond (t 10) (qS (gR o1i) .ret) .skip)) (qS (gR o1j) .ret)))⟩
def o1k:SS:=[o 2 (.mv (.const (.string ⟨#[]⟩)))]
def o1l:SS:=[o 3 (.lit c0c [(.string ⟨#[]⟩)] 21 [(0,1,(.const (.string ⟨#[]⟩))),(1,1,(.const (.string ⟨#[]⟩))),(2,1,(.const (.string ⟨#[]⟩))),(3,1,(.const (.string ⟨#[45]⟩))),(4,1,(.const (.string ⟨#[43]⟩))),(5,1,(.const (.string ⟨#[45]⟩))),(6,1,(.const (.string ⟨#[42]⟩))),(7,1,(.const (.string ⟨#[47]⟩))),(8,1,(.const (.string ⟨#[37]⟩))),(9,1,(.const (.string ⟨#[116,114,117,101]⟩))),(10,1,(.const (.string ⟨#[102,97,108,115,101]⟩))),(11,1,(.const (.string ⟨#[42]⟩))),(12,1,(.const (.string ⟨#[61,61]⟩))),(13,1,(.const (.string ⟨#[33,61]⟩))),(14,1,(.const (.string ⟨#[60]⟩))),(15,1,(.const (.string ⟨#[60,61]⟩))),(16,1,(.const (.string ⟨#[62]⟩))),(17,1,(.const (.string ⟨#[62,61]⟩))),(18,1,(.const (.string ⟨#[110,111,116]⟩))),(19,1,(.const (.string ⟨#[97,110,100]⟩))),(20,1,(.const (.string ⟨#[111,114]⟩)))]),mV 4 0,iA 5 1 3 4,lD 6 5,mV 2 6]
def E1t:SF:=⟨1,7,[.tmp 2],
 (qS (gR o1k) (qS (gR o1l) .ret))⟩
def o1m:SS:=[bX 2 a0e 0,bX 3 b0v 1,o 4 (.mv (.const (.pointer none)))]
def o1n:SS:=[fA 22 1 3,lD 23 22,lN 24 23,mV 5 24]
def o1o:SS:=[lA 25 0 2,fA 26 0 3,lD 27 26,mV 28 5,fA 29 0 3,lD 30 29,o 31 (.bin 0 .mul (i 2) (t 30)),mV 32 5,o 33 (bT .add 31 32),lA 34 0 2,o 35 (.iface a0e (t 34)),cB 36 j0P [i 1],o 37 (.inv (t 35) [(a0A,x0b),(a0e,r0f)] [t 36] false),o 38 (.build [.int .i64 0,.int .i64 0,.int .i64 0,.slice none 0 0,.int .i64 0,.slice none 0 0,.int .i64 0] [(0,0,t 25),(0,1,t 27),(1,1,t 28),(2,1,t 33),(4,1,t 37)]),bX 39 a0f 38,o 6 (.alloc b0h [.pointer none]),sT 1 6 39]
def o1p:SS:=[lA 40 0 2,o 41 (.iface a0e (t 40)),o 42 (.build zI []),o 43 (.inv (t 41) [(a0A,x0b),(a0e,r0f)] [t 42] true),o 7 (.alloc y0b [.int .i64 0]),sT 1 7 43]
def o1q:SS:=[o 44 (.mkfn (.func W0R) [] [t 6,t 7]),mV 8 44]
def o1r:SS:=[mV 45 8,o 46 (.callv (t 45) [] true),mV 47 8,o 48 (.callv (t 47) [] true),mV 9 46,mV 10 48]
def o1s:SS:=[fA 49 3 3,lD 50 49,lN 51 50,mI 52 0]
def o1t:SS:=[o 53 (bT .lss 52 51)]
def o1u:SS:=[mV 54 52,iA 55 2 50 52,lA 56 2 55,o 12 (.alloc a0a zI),mV 11 54,sT 2 12 56]
def o1v:SS:=[lA 57 0 2,o 58 (.iface a0e (t 57)),lA 59 2 12,o 60 (.inv (t 58) [(a0A,x0b),(a0e,r0f)] [t 59] true),mV 13 60]
def Q0a:SS:=[mV 61 10,mV 62 11,mV 63 10,fA 64 0 3,lD 65 64,mV 66 11,o 67 (bT .add 65 66),lA 68 0 2,o 69 (.iface a0e (t 68)),mV 70 13,o 71 (.inv (t 69) [(a0A,y0X),(a0e,s0W)] [t 70] false),mV 72 13,iA 73 1 61 62,sT 1 73 71,iA 74 1 63 67,sT 1 74 72]
def Q0b:SS:=[o 75 (bI .add 52 1),mV 52 75]
def Q0c:SS:=[fA 76 1 3,lD 77 76,lN 78 77,mI 79 0]
def Q0d:SS:=[o 80 (bT .lss 79 78)]
def Q0e:SS:=[mV 81 79,iA 82 1 77 79,lD 83 82,mV 14 81,mV 15 83]
def Q0f:SS:=[mV 84 8,o 85 (.callv (t 84) [] true),mV 16 85]
def Q0g:SS:=[mV 86 15,fA 87 0 3,lD 88 87,o 89 (.sl a0a 2 (t 86) none (some (t 88)) none),lN 90 89,mI 91 0]
def Q0h:SS:=[o 92 (bT .lss 91 90)]
def Q0i:SS:=[mV 93 91,iA 94 2 89 91,lA 95 2 94,o 18 (.alloc a0a zI),mV 17 93,sT 2 18 95]
def Q0j:SS:=[lA 96 0 2,o 97 (.iface a0e (t 96)),lA 98 2 18,o 99 (.inv (t 97) [(a0A,x0b),(a0e,r0f)] [t 98] true),mV 19 99]
def Q0k:SS:=[mV 100 16,mV 101 17,mV 102 16,fA 103 0 3,lD 104 103,mV 105 17,o 106 (bT .add 104 105),mV 107 19,lA 108 0 2,o 109 (.iface a0e (t 108)),mV 110 19,o 111 (.inv (t 109) [(a0A,y0X),(a0e,s0W)] [t 110] false),iA 112 1 100 101,sT 1 112 107,iA 113 1 102 106,sT 1 113 111]
def Q0l:SS:=[o 114 (bI .add 91 1),mV 91 114]
def Q0m:SS:=[mV 115 16,fA 116 0 3,lD 117 116,o 118 (.bin 0 .mul (i 2) (t 117)),mV 119 14,o 120 (bT .add 118 119),lD 121 6,cK 122 121,fA 123 4 122,lD 124 123,iA 125 1 115 120,sT 1 125 124]
def Q0n:SS:=[mV 126 16,lD 127 6,cK 128 127,fA 129 2 128,lD 130 129,lA 131 0 2,o 132 (.iface a0e (t 131)),mV 133 15,fA 134 0 3,lD 135 134,iA 136 2 133 135,lA 137 2 136,o 138 (.inv (t 132) [(a0A,x0b),(a0e,r0f)] [t 137] false),iA 139 1 126 130,sT 1 139 138]
def Q0o:SS:=[fA 140 0 3,lD 141 140,o 142 (.bin 0 .mul (i 2) (t 141)),mV 143 14,o 144 (bT .add 142 143),mV 20 144]
def Q0p:SS:=[lA 145 0 2,o 146 (.iface a0e (t 145)),mV 147 16,lD 148 6,cK 149 148,fA 150 2 149,lD 151 150,iA 152 1 147 151,lD 153 152,o 154 (.inv (t 146) [(a0A,y0Y),(a0e,s0X)] [t 153] true),o 155 (bI .lss 154 0)]
def Q0q:SS:=[lD 156 6,cK 157 156,fA 158 2 157,lD 159 158,mV 160 14,o 161 (bT .add 159 160),mV 20 161]
def Q0r:SS:=[mV 162 16,lN 163 162,mI 164 0]
def Q0s:SS:=[o 165 (bT .lss 164 163)]
def Q0t:SS:=[mV 166 164,mV 21 166]
def Q0u:SS:=[mV 167 16,mV 168 21,lA 169 0 2,o 170 (.iface a0e (t 169)),mV 171 16,mV 172 21,iA 173 1 171 172,lD 174 173,o 175 (.inv (t 170) [(a0A,y0X),(a0e,s0W)] [t 174] true),iA 176 1 167 168,sT 1 176 175]
def Q0v:SS:=[mV 177 9,mV 178 21,lD 179 6,mV 180 9,mV 181 21,iA 182 1 180 181,lD 183 182,mV 184 16,mV 185 21,iA 186 1 184 185,lD 187 186,cA 188 W0S [t 179,t 183,t 187],iA 189 1 177 178,sT 1 189 188]
def Q0w:SS:=[o 190 (bI .add 164 1),mV 164 190]
def Q0x:SS:=[lD 191 6,lD 192 6,lD 193 6,cK 194 193,fA 195 3 194,lD 196 195,mV 197 16,o 198 (.lit i0u [.slice none 0 0] 1 [(0,1,t 197)]),o 199 (.app i0u 1 24 (t 196) (t 198)),lD 200 6,cK 201 200,fA 202 5 201,lD 203 202,mV 204 20,o 205 (.lit c0h [.int .i64 0] 1 [(0,1,t 204)]),o 206 (.app c0h 1 8 (t 203) (t 205)),cK 207 191,fA 208 3 207,sT 1 208 199,cK 209 192,fA 210 5 209,sT 1 210 206]
def Q0y:SS:=[o 211 (bI .add 79 1),mV 79 211]
def Q0z:SS:=[lD 212 6,lD 213 6,cK 214 213,fA 215 3 214,lD 216 215,mV 217 9,mV 218 10,o 219 (.lit i0u [.slice none 0 0] 2 [(0,1,t 217),(1,1,t 218)]),o 220 (.app i0u 1 24 (t 216) (t 219)),cK 221 212,fA 222 3 221,sT 1 222 220]
def Q0A:SS:=[lD 223 6,mV 4 223]
def E1u:SF:=⟨2,224,[.tmp 4],
 (qS (gR o1m) (qS (gR o1n) (qS (.draw o1o [0,0,2,0,0,16,48,0,240,0,512,0,3584,8191,16383,0,65535] []) (qS (gR o1p) (qS (gR o1q) (qS (gR o1r) (qS (qS (gR o1s) (.block 0 (.loop (qS (gR o1t) (qS (.cond (t 53) .skip (.exit 0)) (qS (.block 1 (qS (gR o1u) (qS (gR o1v) (.draw Q0a [0,0,0,0,8,0,56,0,128,0,896,0,1923,6019,16383,32767] [(4,13)])))) (gR Q0b))))))) (qS (qS (gR Q0c) (.block 2 (.loop (qS (gR Q0d) (qS (.cond (t 80) .skip (.exit 2)) (qS (.block 3 (qS (gR Q0e) (qS (gR Q0f) (qS (qS (gR Q0g) (.block 4 (.loop (qS (gR Q0h) (qS (.cond (t 92) .skip (.exit 4)) (qS (.block 5 (qS (gR Q0i) (qS (gR Q0j) (.draw Q0k [0,0,0,0,8,0,56,0,0,256,0,1792,3971,8067,16383,32767] [(4,13)])))) (gR Q0l))))))) (qS (.draw Q0m [0,0,2,6,0,30,0,64,192,448,1023,2047] []) (qS (.draw Q0n [0,0,2,6,14,0,32,0,0,256,896,1920,4064,8191,16383] []) (qS (gR Q0o) (qS (qS (.draw Q0p [0,1,0,0,8,24,56,124,252,511,1023] []) (.cond (t 155) (qS (gR Q0q) (qS (gR Q0r) (.block 6 (.loop (qS (gR Q0s) (qS (.cond (t 165) .skip (.exit 6)) (qS (.block 7 (qS (gR Q0t) (qS (.draw Q0u [0,0,0,4,0,0,48,112,252,511,1023] []) (.draw Q0v [0,0,0,0,0,24,56,0,0,384,896,2044,4095,8191] [])))) (gR Q0w)))))))) .skip)) (.draw Q0x [0,0,0,4,12,28,0,64,252,0,512,1536,3584,0,8192,32764,65533,131069,262141,524287,1048575,2097151] [(0,8),(1,8),(8,9),(8,12),(8,14),(0,15),(1,15),(1,18)]))))))))) (gR Q0y))))))) (qS (.draw Q0z [0,0,2,6,14,0,0,96,254,511,1023,2047] [(0,8)]) (qS (gR Q0A) .ret))))))))))⟩
def o1w:SS:=[mI 4 0]
def o1x:SS:=[mI 5 0]
def o1y:SS:=[mV 7 5,mV 8 0,cK 9 8,fA 10 2 9,lD 11 10,o 12 (bT .lss 7 11),mV 13 12,gT 14 13 (mS 0),gT 15 13 (.chk (t 14)),gT 16 13 (.fa0 a0f (t 15)),gT 17 13 (aS 0 16),gT 18 13 (.iface a0e (t 17)),gT 19 13 (mS 0),gT 20 13 (.chk (t 19)),gT 21 13 (fS 3 20),gT 22 13 (lS 21),gT 23 13 (mS 1),gT 24 13 (iS 1 22 23),gT 25 13 (lS 24),gT 26 13 (mS 5),gT 27 13 (iS 1 25 26),gT 28 13 (lS 27),gT 29 13 (.inv (t 18) [(a0A,y0Y),(a0e,s0X)] [t 28] true),gT 30 13 (bI .geq 29 0),pF 31 13 30]
def o1z:SS:=[mV 32 5,o 33 (bI .add 32 1),mV 5 33]
def o1A:SS:=[mV 34 5,mV 35 0,cK 36 35,fA 37 2 36,lD 38 37,o 39 (bT .eql 34 38)]
def o1B:SS:=[o 4 (.mv (.const (.int .i64 (-1))))]
def o1C:SS:=[mV 40 0,mV 41 5,cA 42 W0T [t 40,t 41],mV 6 42]
def o1D:SS:=[mV 43 6,o 44 (bI .lss 43 0)]
def o1E:SS:=[mV 45 5,mV 4 45]
def o1F:SS:=[mV 46 0,mV 47 6,mV 48 5,cA 49 G0Y [t 46,t 47,t 48]]
def E1v:SF:=⟨2,50,[.tmp 4],
 (qS (gR o1w) (.block 0 (.loop (.block 1 (qS (gR o1x) (qS (.block 2 (.loop (qS (qS (.draw o1y [0,0,2,6,14,31,63,127,255,511,1023,2047,127,4223,12415,28799,127,127103,258175,127,1044607,2093183,4194303,8388607,16777215] []) (.cond (t 31) .skip (.exit 2))) (.block 3 (gR o1z))))) (qS (qS (gR o1A) (.cond (t 39) (qS (gR o1B) .ret) .skip)) (qS (gR o1C) (qS (qS (gR o1D) (.cond (t 44) (qS (gR o1E) .ret) .skip)) (gR o1F))))))))))⟩
def o1G:SS:=[bX 6 b0v 2,bX 7 a0d 3,mN 8]
def o1H:SS:=[mN 9]
def o1I:SS:=[mV 13 0,cK 14 13,fA 15 1 14,lD 16 15,mI 17 0]
def o1J:SS:=[o 18 (bT .lss 17 16)]
def o1K:SS:=[mV 19 17,mV 10 19]
def o1L:SS:=[mV 21 0,mV 22 0,cK 23 22,fA 24 3 23,lD 25 24,mV 26 1,iA 27 1 25 26,lD 28 27,mV 29 0,cK 30 29,fA 31 0 30,lD 32 31,o 33 (.bin 0 .mul (i 2) (t 32)),mV 34 10,o 35 (bT .add 33 34),iA 36 1 28 35,lD 37 36,cB 38 y0W [t 21,t 37],fA 39 2 6,lD 40 39,mV 41 10,iA 42 4 40 41,lA 43 4 42,cB 44 w0Y [t 38,t 43],lA 45 4 7,cB 46 W0Q [t 44,t 45],mV 20 46,eX 47 20 0,eX 48 20 1,o 11 (.alloc a0d zR),sT 4 11 47,mV 12 48]
def o1M:SS:=[mV 49 9,lA 50 4 11,o 51 (.lit a0d zR 1 [(0,4,t 50)]),o 52 (.app a0d 4 64 (t 49) (t 51)),mV 9 52]
def o1N:SS:=[o 53 (bI .add 17 1),mV 17 53]
def o1O:SS:=[mV 54 9,mV 8 54]
def E1w:SF:=⟨4,55,[.tmp 8],
 (qS (gR o1G) (qS (gR o1H) (qS (qS (gR o1I) (.block 0 (.loop (qS (gR o1J) (qS (.cond (t 18) .skip (.exit 0)) (qS (.block 1 (qS (gR o1K) (qS (.draw o1L [0,0,2,6,14,0,62,126,0,256,768,1792,3840,0,16128,32766,65534,131071,0,262144,0,1835008,3932160,8388607,0,33554431,67108863,134217727,134217727,0,805306367,2147483647] []) (gR o1M)))) (gR o1N))))))) (qS (gR o1O) .ret))))⟩
def o1P:SS:=[mV 7 0,cK 8 7,fA 9 1 8,lD 10 9,mI 11 0]
def o1Q:SS:=[o 12 (bT .lss 11 10)]
def o1R:SS:=[mV 13 11,mV 2 13]
def o1S:SS:=[mV 14 0,cK 15 14,fA 16 5 15,lD 17 16,mV 18 2,iA 19 1 17 18,lD 20 19,mV 21 0,cK 22 21,fA 23 2 22,lD 24 23,o 25 (bT .lss 20 24)]
def o1T:SS:=[mV 26 0,cK 27 26,fA 28 2 27,lD 29 28,mI 30 0]
def o1U:SS:=[o 31 (bT .lss 30 29)]
def o1V:SS:=[mV 32 30,mV 3 32]
def o1W:SS:=[mV 33 0,cK 34 33,o 35 (.fa0 a0f (t 34)),lA 36 0 35,o 37 (.iface a0e (t 36)),mV 38 0,cK 39 38,fA 40 3 39,lD 41 40,mV 42 2,iA 43 1 41 42,lD 44 43,mV 45 3,iA 46 1 44 45,lD 47 46,o 48 (.inv (t 37) [(a0A,y0Y),(a0e,s0X)] [t 47] true),mV 4 48]
def o1X:SS:=[mV 49 4,o 50 (bI .eql 49 0)]
def o1Y:SS:=[mV 51 4,o 52 (bI .lss 51 0)]
def Q0B:SS:=[mV 53 0,cK 54 53,fA 55 3 54,lD 56 55,mV 57 2,iA 58 1 56 57,lD 59 58,lN 60 59,mI 61 0]
def Q0C:SS:=[o 62 (bT .lss 61 60)]
def Q0D:SS:=[mV 63 61,iA 64 1 59 61,lD 65 64,mV 5 63,mV 6 65]
def Q0E:SS:=[mV 66 0,cK 67 66,fA 68 3 67,lD 69 68,mV 70 2,iA 71 1 69 70,lD 72 71,mV 73 5,mV 74 0,cK 75 74,o 76 (.fa0 a0f (t 75)),lA 77 0 76,o 78 (.iface a0e (t 77)),mV 79 6,o 80 (.inv (t 78) [(a0A,y0X),(a0e,s0W)] [t 79] false),iA 81 1 72 73,sT 1 81 80]
def Q0F:SS:=[o 82 (bI .add 61 1),mV 61 82]
def Q0G:SS:=[mV 83 0,mV 84 2,mV 85 3,cA 86 G0Y [t 83,t 84,t 85]]
def Q0H:SS:=[o 87 (bI .add 30 1),mV 30 87]
def Q0I:SS:=[o 88 (bI .add 11 1),mV 11 88]
def E1x:SF:=⟨1,89,[],
 (qS (gR o1P) (.block 0 (.loop (qS (gR o1Q) (qS (.cond (t 12) .skip (.exit 0)) (qS (.block 1 (qS (gR o1R) (qS (qS (.draw o1S [0,1,3,7,0,31,63,0,128,384,896,2047] []) (.cond (t 25) (.exit 1) .skip)) (qS (gR o1T) (.block 2 (.loop (qS (gR o1U) (qS (.cond (t 31) .skip (.exit 2)) (qS (.block 3 (qS (gR o1V) (qS (.draw o1W [0,1,3,7,15,0,32,96,224,0,992,2016,0,8160,16352,32767,65535] []) (qS (qS (gR o1X) (.cond (t 50) (.exit 3) .skip)) (qS (qS (gR o1Y) (.cond (t 52) (qS (gR Q0B) (.block 4 (.loop (qS (gR Q0C) (qS (.cond (t 62) .skip (.exit 4)) (qS (.block 5 (qS (gR Q0D) (.draw Q0E [0,1,3,7,0,31,63,0,0,256,768,1792,3840,0,16128,32767,65535] []))) (gR Q0F))))))) .skip)) (qS (gR Q0G) (.exit 2))))))) (gR Q0H)))))))))) (gR Q0I)))))))⟩
def o1Z:SS:=[mN 4]
def p1a:SS:=[mV 9 0,cK 10 9,fA 11 0 10,lD 12 11,o 13 (.mk a0d 64 zR (t 12) (t 12)),mV 5 13]
def p1b:SS:=[mV 14 5,lN 15 14,mI 16 0]
def p1c:SS:=[o 17 (bT .lss 16 15)]
def p1d:SS:=[mV 18 16,mV 6 18]
def p1e:SS:=[mV 19 5,mV 20 6,cA 21 l0x [i 0],iA 22 4 19 20,sT 4 22 21]
def p1f:SS:=[o 23 (bI .add 16 1),mV 16 23]
def p1g:SS:=[mV 24 0,cK 25 24,fA 26 5 25,lD 27 26,lN 28 27,mI 29 0]
def p1h:SS:=[o 30 (bT .lss 29 28)]
def p1i:SS:=[mV 31 29,iA 32 1 27 29,lD 33 32,mV 7 31,mV 8 33]
def Q0J:SS:=[mV 35 8,mV 36 0,cK 37 36,fA 38 0 37,lD 39 38,o 40 (bT .lss 35 39),mV 34 40]
def Q0K:SS:=[mV 41 5,mV 42 8,mV 43 5,mV 44 8,iA 45 4 43 44,lA 46 4 45,mV 47 0,mV 48 1,mV 49 7,o 50 (.callv (t 48) [t 49] false),cA 51 y0W [t 47,t 50],cA 52 j0t [t 46,t 51],iA 53 4 41 42,sT 4 53 52]
def Q0L:SS:=[mV 55 8,mV 56 0,cK 57 56,fA 58 0 57,lD 59 58,o 60 (.bin 0 .mul (i 2) (t 59)),o 61 (bT .lss 55 60),mV 54 61]
def Q0M:SS:=[mV 62 5,mV 63 8,mV 64 0,cK 65 64,fA 66 0 65,lD 67 66,o 68 (bT .sub 63 67),mV 69 5,mV 70 8,mV 71 0,cK 72 71,fA 73 0 72,lD 74 73,o 75 (bT .sub 70 74),iA 76 4 69 75,lA 77 4 76,mV 78 0,mV 79 1,mV 80 7,o 81 (.callv (t 79) [t 80] false),cA 82 y0W [t 78,t 81],cB 83 G0X [t 77,t 82],iA 84 4 62 68,sT 4 84 83]
def Q0N:SS:=[o 85 (bI .add 29 1),mV 29 85]
def Q0O:SS:=[mV 86 5,mV 4 86]
def E1y:SF:=⟨2,87,[.tmp 4],
 (qS (gR o1Z) (qS (gR p1a) (qS (qS (gR p1b) (.block 0 (.loop (qS (gR p1c) (qS (.cond (t 17) .skip (.exit 0)) (qS (.block 1 (qS (gR p1d) (gR p1e))) (gR p1f))))))) (qS (qS (gR p1g) (.block 2 (.loop (qS (gR p1h) (qS (.cond (t 30) .skip (.exit 2)) (qS (.block 3 (qS (gR p1i) (.block 4 (qS (gR Q0J) (.cond (t 34) (.draw Q0K [0,0,0,0,12,28,0,0,0,384,960,2044,4095,8191] [(5,10)]) (qS (gR Q0L) (.cond (t 54) (.draw Q0M [0,0,0,4,12,28,62,0,0,0,512,1536,3584,7936,16256,32640,0,0,0,393216,983040,2097024,4194303,8388607] [(5,20),(12,20),(15,20)]) .skip))))))) (gR Q0N))))))) (qS (gR Q0O) .ret)))))⟩
def p1j:SS:=[mI 3 0]
def p1k:SS:=[lD 4 1,cK 5 4,fA 6 3 5,lD 7 6,mV 8 0,iA 9 1 7 8,lD 10 9,lD 11 1,cK 12 11,fA 13 2 12,lD 14 13,iA 15 1 10 14,lD 16 15,mV 3 16]
def E1z:SF:=⟨2,17,[.tmp 3],
 (qS (gR p1j) (qS (.draw p1k [0,1,3,7,0,31,63,0,128,384,896,2047,4095,8191] []) .ret))⟩
def p1l:SS:=[bX 2 b0h 0,bX 3 c0h 1,mN 4]
def p1m:SS:=[lD 6 2,o 7 (.mkfn (.func W0U) [] [t 2,t 3]),cA 8 G0W [t 6,t 7],mV 5 8]
def p1n:SS:=[lD 10 3,lD 11 2,cK 12 11,fA 13 0 12,lD 14 13,o 15 (bT .lss 10 14),mV 9 15]
def p1o:SS:=[mV 16 5,lD 17 3,mV 18 5,lD 19 3,iA 20 4 18 19,lA 21 4 20,cB 22 l0x [i 1],cB 23 j0t [t 21,t 22],iA 24 4 16 17,sT 4 24 23]
def p1p:SS:=[lD 26 3,lD 27 2,cK 28 27,fA 29 0 28,lD 30 29,o 31 (.bin 0 .mul (i 2) (t 30)),o 32 (bT .lss 26 31),mV 25 32]
def p1q:SS:=[mV 33 5,lD 34 3,lD 35 2,cK 36 35,fA 37 0 36,lD 38 37,o 39 (bT .sub 34 38),mV 40 5,lD 41 3,lD 42 2,cK 43 42,fA 44 0 43,lD 45 44,o 46 (bT .sub 41 45),iA 47 4 40 46,lA 48 4 47,cB 49 l0x [i 1],cB 50 G0X [t 48,t 49],iA 51 4 33 39,sT 4 51 50]
def p1r:SS:=[mV 52 5,mV 4 52]
def E1A:SF:=⟨2,53,[.tmp 4],
 (qS (gR p1l) (qS (gR p1m) (qS (.block 0 (qS (.draw p1n [0,0,2,6,14,31,63] []) (.cond (t 9) (.draw p1o [0,0,0,0,12,28,0,124,255,511] []) (qS (.draw p1p [0,0,2,6,14,30,63,127] []) (.cond (t 25) (.draw p1q [0,0,0,4,12,28,62,0,0,0,512,1536,3584,7936,16256,32640,0,130944,262143,524287] []) .skip))))) (qS (gR p1r) .ret))))⟩
def p1s:SS:=[bX 2 a0d 0,bX 3 a0d 1,o 4 (.alloc a0d zR),mI 5 0]
def p1t:SS:=[lA 6 4 2,cB 7 j0Q [t 6],lA 8 4 3,cA 9 j0Q [t 8],sT 4 2 7,sT 4 3 9]
def p1u:SS:=[fA 10 0 2,lA 11 2 10,fA 12 2 3,lA 13 2 12,cB 14 h0Q [t 11,t 13],fA 15 2 2,lA 16 2 15,fA 17 0 3,lA 18 2 17,cA 19 h0Q [t 16,t 18],cA 20 s0P [t 14,t 19],eX 21 20 0,eX 22 20 1,sT 4 4 21,mV 5 22]
def E1B:SF:=⟨2,23,[.cell 4 true 4,.tmp 5],
 (qS (gR p1s) (qS (.draw p1t [0,1,0,7,15,31] []) (qS (.draw p1u [0,1,0,4,15,0,32,0,128,511,1023,2047,2047,8191,16383] []) .ret)))⟩
def p1v:SS:=[bX 2 a0d 0,bX 3 a0d 1,o 4 (.alloc a0d zR)]
def p1w:SS:=[lA 5 4 2,lA 6 4 3,cB 7 j0Q [t 6],cB 8 W0V [t 7],cA 9 j0t [t 5,t 8],sT 4 4 9]
def E1C:SF:=⟨2,10,[.cell 4 true 4],
 (qS (gR p1v) (qS (.draw p1w [0,0,2,6,15,31] []) .ret))⟩
def p1x:SS:=[mN 4]
def p1y:SS:=[mV 6 0,cK 7 6,fA 8 3 7,lD 9 8,o 10 (bI .neq 9 0)]
def p1z:SS:=[mV 11 1,mV 4 11]
def p1A:SS:=[mV 12 0,cK 13 12,fA 14 0 13,lD 15 14,mV 16 0,cK 17 16,fA 18 1 17,lD 19 18,iA 20 3 15 19,lA 21 3 20,o 5 (.alloc b0a [.int .i64 0,(.string ⟨#[]⟩),.int .i64 0]),sT 3 5 21]
def p1B:SS:=[mV 23 0,o 24 (.call h0R [t 23,(.const (.string ⟨#[45]⟩))] true),mV 22 24]
def p1C:SS:=[mV 25 0,o 26 (.call s0T [t 25,(.const (.string ⟨#[45]⟩))] true)]
def p1D:SS:=[mV 27 0,mV 28 1,cA 29 y0V [t 27,t 28],mV 1 29]
def p1E:SS:=[mV 30 0,cK 31 30,fA 32 2 31,lD 33 32,o 34 (bI .sub 33 1),cK 35 30,fA 36 2 35,sT 1 36 34]
def p1F:SS:=[mV 37 1,mV 38 1,lN 39 38,o 40 (bI .sub 39 1),o 41 (.build [.int .i64 0,.int .i64 0,(.string ⟨#[]⟩),.int .i64 0,.int .i64 0] [(0,1,i 3),(3,1,t 40),(4,1,(.const (.int .i64 (-1))))]),o 42 (.lit b0n [.int .i64 0,.int .i64 0,(.string ⟨#[]⟩),.int .i64 0,.int .i64 0] 1 [(0,5,t 41)]),o 43 (.app b0n 5 48 (t 37) (t 42)),mV 4 43]
def p1G:SS:=[mV 45 0,o 46 (.call h0R [t 45,(.const (.string ⟨#[40]⟩))] true),mV 44 46]
def Q0P:SS:=[mV 47 0,o 48 (.call s0T [t 47,(.const (.string ⟨#[40]⟩))] true)]
def Q0Q:SS:=[mV 49 0,mV 50 1,cA 51 w0Z [t 49,t 50],mV 1 51]
def Q0R:SS:=[mV 52 0,o 53 (.call g0W [t 52,(.const (.string ⟨#[41]⟩))] true)]
def Q0S:SS:=[mV 54 0,cK 55 54,fA 56 2 55,lD 57 56,o 58 (bI .sub 57 1),cK 59 54,fA 60 2 59,sT 1 60 58]
def Q0T:SS:=[mV 61 1,mV 4 61]
def Q0U:SS:=[fA 63 0 5,lD 64 63,o 65 (bI .eql 64 2),mV 62 65]
def Q0V:SS:=[mV 66 0,cK 67 66,fA 68 1 67,lD 69 68,o 70 (bI .add 69 1),cK 71 66,fA 72 1 71,sT 1 72 70]
def Q0W:SS:=[mV 73 1,fA 74 1 5,lD 75 74,cA 76 W0W [t 75],o 77 (.build [.int .i64 0,.int .i64 0,(.string ⟨#[]⟩),.int .i64 0,.int .i64 0] [(0,1,i 1),(1,1,t 76)]),cA 78 s0V [t 73,t 77],mV 4 78]
def Q0X:SS:=[fA 80 0 5,lD 81 80,o 82 (bI .eql 81 1),mV 79 82]
def Q0Y:SS:=[mV 83 0,cK 84 83,fA 85 1 84,lD 86 85,o 87 (bI .add 86 1),cK 88 83,fA 89 1 88,sT 1 89 87]
def Q0Z:SS:=[mV 90 1,fA 91 1 5,lD 92 91,o 93 (.build [.int .i64 0,.int .i64 0,(.string ⟨#[]⟩),.int .i64 0,.int .i64 0] [(0,1,i 2),(2,1,t 92)]),cA 94 s0V [t 90,t 93],mV 4 94]
def R0a:SS:=[mV 95 0,cA 96 w0U [t 95,i 4]]
def R0b:SS:=[mV 97 1,mV 4 97]
def E1D:SF:=⟨2,98,[.tmp 4],
 (qS (gR p1x) (qS (qS (gR p1y) (.cond (t 10) (qS (gR p1z) .ret) .skip)) (qS (.draw p1A [0,1,3,7,0,16,48,112,255,511,0,2047] []) (qS (.block 0 (qS (gR p1B) (.cond (t 22) (qS (gR p1C) (qS (gR p1D) (qS (gR p1E) (qS (gR p1F) .ret)))) (qS (gR p1G) (.cond (t 44) (qS (gR Q0P) (qS (gR Q0Q) (qS (gR Q0R) (qS (gR Q0S) (qS (gR Q0T) .ret))))) (qS (gR Q0U) (.cond (t 62) (qS (gR Q0V) (qS (gR Q0W) .ret)) (qS (gR Q0X) (.cond (t 79) (qS (gR Q0Y) (qS (gR Q0Z) .ret)) .skip))))))))) (qS (gR R0a) (qS (gR R0b) .ret))))))⟩
def p1H:SS:=[bX 3 b0n 1,mN 4]
def p1I:SS:=[fA 5 3 3,⟨none,none,.store 1 (t 5) (.const (.int .i64 (-1)))⟩]
def p1J:SS:=[fA 6 4 3,⟨none,none,.store 1 (t 6) (.const (.int .i64 (-1)))⟩]
def p1K:SS:=[mV 7 0,lA 8 5 3,o 9 (.lit b0n [.int .i64 0,.int .i64 0,(.string ⟨#[]⟩),.int .i64 0,.int .i64 0] 1 [(0,5,t 8)]),o 10 (.app b0n 5 48 (t 7) (t 9)),mV 4 10]
def E1E:SF:=⟨2,11,[.tmp 4],
 (qS (gR p1H) (qS (gR p1I) (qS (gR p1J) (qS (gR p1K) .ret))))⟩
def p1L:SS:=[mN 2]
def p1M:SS:=[lD 5 0,cK 6 5,fA 7 2 6,lD 8 7,o 9 (bI .add 8 1),o 10 (.mk y0b 8 [.int .i64 0] (t 9) (t 9)),mV 3 10]
def p1N:SS:=[mV 11 3,lN 12 11,mI 13 0]
def p1O:SS:=[o 14 (bT .lss 13 12)]
def p1P:SS:=[mV 15 13,mV 4 15]
def p1Q:SS:=[mV 16 3,mV 17 4,lD 18 1,iA 19 1 16 17,sT 1 19 18]
def p1R:SS:=[o 20 (bI .add 13 1),mV 13 20]
def p1S:SS:=[mV 21 3,mV 2 21]
def E1F:SF:=⟨2,22,[.tmp 2],
 (qS (gR p1L) (qS (gR p1M) (qS (qS (gR p1N) (.block 0 (.loop (qS (gR p1O) (qS (.cond (t 14) .skip (.exit 0)) (qS (.block 1 (qS (gR p1P) (gR p1Q))) (gR p1R))))))) (qS (gR p1S) .ret))))⟩
def p1T:SS:=[mI 6 0]
def p1U:SS:=[mV 8 0,cK 9 8,o 10 (.fa0 a0f (t 9)),lA 11 0 10,o 12 (.iface a0e (t 11)),cB 13 j0P [i 1],o 14 (.inv (t 12) [(a0A,x0b),(a0e,r0f)] [t 13] true),mV 7 14]
def p1V:SS:=[mV 15 0,cK 16 15,o 17 (.fa0 a0f (t 16)),lA 18 0 17,o 19 (.iface a0e (t 18)),mV 20 1,mV 21 7,mV 22 2,mV 23 7,mV 24 7,o 25 (.inv (t 19) [(a0A,v1F),(a0e,H0a)] [t 20,t 21,t 22,t 23,t 24] true),mV 6 25]
def E1G:SF:=⟨3,26,[.tmp 6],
 (qS (gR p1T) (qS (.draw p1U [0,1,3,7,15,0,63,127] []) (qS (gR p1V) .ret)))⟩
def p1W:SS:=[mI 4 0]
def p1X:SS:=[o 5 (.mv (.const (.int .i64 (-1))))]
def p1Y:SS:=[mV 8 0,cK 9 8,fA 10 1 9,lD 11 10,mI 12 0]
def p1Z:SS:=[o 13 (bT .lss 12 11)]
def q1a:SS:=[mV 14 12,mV 6 14]
def q1b:SS:=[mV 15 0,cK 16 15,o 17 (.fa0 a0f (t 16)),lA 18 0 17,o 19 (.iface a0e (t 18)),mV 20 0,cK 21 20,fA 22 3 21,lD 23 22,mV 24 6,iA 25 1 23 24,lD 26 25,mV 27 1,iA 28 1 26 27,lD 29 28,o 30 (.inv (t 19) [(a0A,y0Y),(a0e,s0X)] [t 29] true),o 31 (bI .leq 30 0)]
def q1c:SS:=[mV 32 5,o 33 (bI .lss 32 0)]
def q1d:SS:=[mV 34 6,mV 5 34]
def q1e:SS:=[mV 35 0,cK 36 35,o 37 (.fa0 a0f (t 36)),lA 38 0 37,o 39 (.iface a0e (t 38)),mV 40 0,cK 41 40,fA 42 3 41,lD 43 42,mV 44 6,iA 45 1 43 44,lD 46 45,mV 47 0,cK 48 47,fA 49 2 48,lD 50 49,iA 51 1 46 50,lD 52 51,mV 53 0,cK 54 53,fA 55 3 54,lD 56 55,mV 57 5,iA 58 1 56 57,lD 59 58,mV 60 1,iA 61 1 59 60,lD 62 61,mV 63 0,cK 64 63,fA 65 3 64,lD 66 65,mV 67 5,iA 68 1 66 67,lD 69 68,mV 70 0,cK 71 70,fA 72 2 71,lD 73 72,iA 74 1 69 73,lD 75 74,mV 76 0,cK 77 76,fA 78 3 77,lD 79 78,mV 80 6,iA 81 1 79 80,lD 82 81,mV 83 1,iA 84 1 82 83,lD 85 84,o 86 (.inv (t 39) [(a0A,J1d),(a0e,W0X)] [t 52,t 62,t 75,t 85] true),mV 7 86]
def q1f:SS:=[mV 87 7,o 88 (bI .lss 87 0),mV 89 88,gF 90 89 (mS 7),gF 91 89 (bI .eql 90 0),gF 92 89 (mS 91),gT 93 92 (mS 0),gT 94 92 (.chk (t 93)),gT 95 92 (fS 5 94),gT 96 92 (lS 95),gT 97 92 (mS 6),gT 98 92 (iS 1 96 97),gT 99 92 (lS 98),gT 100 92 (mS 0),gT 101 92 (.chk (t 100)),gT 102 92 (fS 5 101),gT 103 92 (lS 102),gT 104 92 (mS 5),gT 105 92 (iS 1 103 104),gT 106 92 (lS 105),gT 107 92 (bT .lss 99 106),gF 108 89 (.pick (t 92) (t 107) (.const (.bool false))),pT 109 89 108]
def R0c:SS:=[mV 110 6,mV 5 110]
def R0d:SS:=[o 111 (bI .add 12 1),mV 12 111]
def R0e:SS:=[mV 112 5,mV 4 112]
def E1H:SF:=⟨2,113,[.tmp 4],
 (qS (gR p1W) (qS (gR p1X) (qS (qS (gR p1Y) (.block 0 (.loop (qS (gR p1Z) (qS (.cond (t 13) .skip (.exit 0)) (qS (.block 1 (qS (gR q1a) (qS (qS (.draw q1b [0,1,3,7,15,0,32,96,224,0,992,2016,0,8160,16352,32767,65535] []) (.cond (t 31) (.exit 1) .skip)) (qS (qS (gR q1c) (.cond (t 33) (qS (gR q1d) (.exit 1)) .skip)) (qS (.draw q1e [0,1,3,7,15,0,32,96,224,0,992,2016,0,4096,12288,28672,65504,131040,0,262144,786432,1835008,0,8126464,16515072,0,66846720,133955584,0,268435456,805306368,1879048192,0,8321499136,16911433728,0,34359738368,103079215104,240518168576,549487378432,1099243192320,0,2199023255552,6597069766656,15393162788864,0,68169720922112,138538465099776,0,560750930165760,1123700883587072,2251799813685247,4503599627370495] []) (qS (.draw q1f [0,1,3,7,15,31,63,127,255,511,63,2047,4095,63,8255,24639,57407,63,254015,516159,1048575,2097151,4194303] []) (.cond (t 109) (gR R0c) .skip))))))) (gR R0d))))))) (qS (gR R0e) .ret))))⟩
def q1g:SS:=[mV 12 0,cK 13 12,fA 14 6 13,lD 15 14,o 16 (bI .add 15 1),cK 17 12,fA 18 6 17,sT 1 18 16]
def q1h:SS:=[mV 19 0,cK 20 19,fA 21 3 20,lD 22 21,mV 23 1,iA 24 1 22 23,lD 25 24,mV 26 2,iA 27 1 25 26,lD 28 27,mV 29 0,cK 30 29,fA 31 3 30,lD 32 31,mV 33 1,iA 34 1 32 33,lD 35 34,mV 6 28,mV 7 35]
def q1i:SS:=[mV 36 0,cK 37 36,fA 38 3 37,lD 39 38,lN 40 39,mI 41 0]
def q1j:SS:=[o 42 (bT .lss 41 40)]
def q1k:SS:=[mV 43 41,iA 44 1 39 41,lD 45 44,mV 8 43,mV 9 45]
def q1l:SS:=[mV 46 8,mV 47 1,o 48 (bT .eql 46 47)]
def q1m:SS:=[mV 49 9,mV 50 2,iA 51 1 49 50,lD 52 51,mV 10 52]
def q1n:SS:=[mV 53 9,lN 54 53,mI 55 0]
def q1o:SS:=[o 56 (bT .lss 55 54)]
def q1p:SS:=[mV 57 55,mV 11 57]
def R0f:SS:=[mV 58 9,mV 59 11,mV 60 0,cK 61 60,o 62 (.fa0 a0f (t 61)),lA 63 0 62,o 64 (.iface a0e (t 63)),mV 65 9,mV 66 11,iA 67 1 65 66,lD 68 67,mV 69 6,mV 70 10,mV 71 7,mV 72 11,iA 73 1 71 72,lD 74 73,mV 75 0,cK 76 75,fA 77 4 76,lD 78 77,o 79 (.inv (t 64) [(a0A,v1F),(a0e,H0a)] [t 68,t 69,t 70,t 74,t 78] true),iA 80 1 58 59,sT 1 80 79]
def R0g:SS:=[o 81 (bI .add 55 1),mV 55 81]
def R0h:SS:=[o 82 (bI .add 41 1),mV 41 82]
def R0i:SS:=[mV 83 0,mV 84 0,cK 85 84,fA 86 5 85,lD 87 86,mV 88 1,mV 89 6,mV 90 2,cK 91 83,fA 92 4 91,sT 1 92 89,iA 93 1 87 88,sT 1 93 90]
def E1I:SF:=⟨3,94,[],
 (qS (gR q1g) (qS (.draw q1h [0,1,3,7,0,31,63,0,255,511,0,1024,3072,7168,0,31744,64512,1023,262143] []) (qS (qS (gR q1i) (.block 0 (.loop (qS (gR q1j) (qS (.cond (t 42) .skip (.exit 0)) (qS (.block 1 (qS (gR q1k) (qS (qS (gR q1l) (.cond (t 48) (.exit 1) .skip)) (qS (gR q1m) (qS (gR q1n) (.block 2 (.loop (qS (gR q1o) (qS (.cond (t 56) .skip (.exit 2)) (qS (.block 3 (qS (gR q1p) (.draw R0f [0,0,0,4,12,28,60,0,0,384,896,0,0,0,0,24576,57344,0,131072,393216,917504,2097148,4194303,8388607] []))) (gR R0g))))))))))) (gR R0h))))))) (gR R0i))))⟩
def q1q:SS:=[o 4 (.alloc a0d zR)]
def q1r:SS:=[mV 8 0,cK 9 8,o 10 (.fa0 a0f (t 9)),lA 11 0 10,o 12 (.iface a0e (t 11)),mV 13 1,o 14 (.inv (t 12) [(a0A,v1E),(a0e,G0Z)] [t 13] false),mV 15 0,cK 16 15,o 17 (.fa0 a0f (t 16)),lA 18 0 17,o 19 (.iface a0e (t 18)),mV 20 0,cK 21 20,fA 22 4 21,lD 23 22,o 24 (.inv (t 19) [(a0A,v1E),(a0e,G0Z)] [t 23] false),cB 25 s0P [t 14,t 24],mV 7 25,eX 26 7 0,eX 27 7 1,o 5 (.alloc a0d zR),sT 4 5 26,mV 6 27]
def q1s:SS:=[lA 28 4 5,sT 4 4 28]
def E1J:SF:=⟨2,29,[.cell 4 true 4],
 (qS (gR q1q) (qS (.draw q1r [0,1,3,7,15,0,63,0,128,384,896,1920,0,4096,12288,28672,65535,131071,262143,524287,524287,0,3145727,8388607] []) (qS (gR q1s) .ret)))⟩
def q1t:SS:=[mI 4 0]
def q1u:SS:=[lD 5 1,cK 6 5,o 7 (.fa0 a0f (t 6)),lA 8 0 7,o 9 (.iface a0e (t 8)),lD 10 1,cK 11 10,fA 12 3 11,lD 13 12,mV 14 0,iA 15 1 13 14,lD 16 15,lD 17 2,iA 18 1 16 17,lD 19 18,o 20 (.inv (t 9) [(a0A,y0X),(a0e,s0W)] [t 19] true),mV 4 20]
def E1K:SF:=⟨3,21,[.tmp 4],
 (qS (gR q1t) (qS (.draw q1u [0,1,3,7,15,0,32,96,224,0,992,2016,0,8160,16352,32767,65535] []) .ret))⟩
def q1v:SS:=[bX 1 a0d 0,o 2 (.alloc a0d zR)]
def q1w:SS:=[fA 3 0 1,lA 4 2 3,cB 5 n0E [t 4],fA 6 2 1,lA 7 2 6,o 8 (.build zR [(0,2,t 5),(2,2,t 7)]),sT 4 2 8]
def E1L:SF:=⟨1,9,[.cell 2 true 4],
 (qS (gR q1v) (qS (.draw q1w [0,1,3,0,8,31,63] []) .ret))⟩
def q1x:SS:=[mI 2 0]
def q1y:SS:=[mI 3 0]
def q1z:SS:=[mI 4 0]
def q1A:SS:=[mV 5 4,mV 6 0,o 7 (.sop 0 [t 6]),o 8 (bT .lss 5 7)]
def q1B:SS:=[mV 11 3,o 12 (.bin 0 .mul (i 10) (t 11)),mV 13 0,mV 14 4,o 15 (.sop 1 [t 13,t 14]),o 16 (.bin 0 .sub (t 15) (.const (.int .u8 48))),cV 17 .i64 16,o 18 (bT .add 12 17),mV 3 18]
def q1C:SS:=[mV 9 4,o 10 (bI .add 9 1),mV 4 10]
def q1D:SS:=[mV 19 3,mV 2 19]
def E1M:SF:=⟨1,20,[.tmp 2],
 (qS (gR q1x) (qS (gR q1y) (qS (qS (gR q1z) (.block 0 (.loop (qS (qS (gR q1A) (.cond (t 8) .skip (.exit 0))) (qS (.block 1 (gR q1B)) (gR q1C)))))) (qS (gR q1D) .ret))))⟩
def q1O:SS:=[bX 5 a0e 0,mI 10 0]
def q1P:SS:=[mV 11 1,mV 12 2,o 13 (bT .mul 11 12),mV 14 3,mV 15 4,o 16 (bT .mul 14 15),cA 17 H0b [t 13,t 16],mV 10 17]
def E1N:SF:=⟨5,18,[.tmp 10],
 (qS (gR q1O) (qS (gR q1P) .ret))⟩
def q1Q:SS:=[bX 2 a0e 0,mI 4 0]
def q1R:SS:=[mV 5 1,o 6 (.un .neg (t 5)),mV 4 6]
def E1O:SF:=⟨2,7,[.tmp 4],
 (qS (gR q1Q) (qS (gR q1R) .ret))⟩
def q1S:SS:=[bX 2 a0e 0,o 4 (.alloc a0a zI)]
def q1T:SS:=[mV 5 1,cA 6 j0P [t 5],sT 2 4 6]
def E1P:SF:=⟨2,7,[.cell 4 true 2],
 (qS (gR q1S) (qS (gR q1T) .ret))⟩
def q1U:SS:=[bX 2 a0e 0,bX 3 a0a 1,mI 4 0]
def q1V:SS:=[lA 8 2 3,cA 9 x0c [t 8],mV 7 9,eX 10 7 0,eX 11 7 1,mV 5 10,mV 6 11]
def q1W:SS:=[mV 12 6,nT 13 12]
def q1X:SS:=[o 14 (.build [] []),o 15 (.iface i0V (t 14)),⟨none,none,.pan (t 15)⟩]
def q1Y:SS:=[mV 16 5,cA 17 H0c [t 16],mV 4 17]
def E1Q:SF:=⟨2,18,[.tmp 4],
 (qS (gR q1U) (qS (gR q1V) (qS (qS (gR q1W) (.cond (t 13) (gR q1X) .skip)) (qS (gR q1Y) .ret))))⟩
def q1Z:SS:=[bX 2 a0e 0,mI 4 0]
def r1a:SS:=[mV 5 1,cA 6 H0b [t 5,i 0],mV 4 6]
def E1R:SF:=⟨2,7,[.tmp 4],
 (qS (gR q1Z) (qS (gR r1a) .ret))⟩
def r1b:SS:=[bX 6 a0e 0,mI 12 0]
def r1c:SS:=[mV 13 1,mV 14 2,o 15 (bT .mul 13 14),mV 16 3,mV 17 4,o 18 (bT .mul 16 17),o 19 (bT .sub 15 18),mV 20 5,o 21 (bT .quo 19 20),cA 22 H0c [t 21],mV 12 22]
def E1S:SF:=⟨6,23,[.tmp 12],
 (qS (gR r1b) (qS (gR r1c) .ret))⟩
def r1d:SS:=[mI 4 0]
def r1e:SS:=[mV 6 0,mV 7 1,o 8 (bT .lss 6 7),mV 5 8]
def r1f:SS:=[o 4 (.mv (.const (.int .i64 (-1))))]
def r1g:SS:=[mV 10 0,mV 11 1,o 12 (bT .gtr 10 11),mV 9 12]
def r1h:SS:=[mI 4 1]
def r1i:SS:=[mI 4 0]
def E1T:SF:=⟨2,13,[.tmp 4],
 (qS (gR r1d) (qS (.block 0 (qS (gR r1e) (.cond (t 5) (qS (gR r1f) .ret) (qS (gR r1g) (.cond (t 9) (qS (gR r1h) .ret) .skip))))) (qS (gR r1i) .ret)))⟩
def r1l:SS:=[mI 2 0]
def r1m:SS:=[mV 3 0,o 4 (.bin 0 .leq (t 3) (.const (.int .i64 (-2147483648)))),mV 5 4,gF 6 5 (mS 0),gF 7 5 (bI .geq 6 2147483648),pT 8 5 7]
def r1n:SS:=[o 9 (.build [] []),o 10 (.iface i0V (t 9)),⟨none,none,.pan (t 10)⟩]
def r1o:SS:=[mV 11 0,mV 2 11]
def E1U:SF:=⟨1,12,[.tmp 2],
 (qS (gR r1l) (qS (qS (gR r1m) (.cond (t 8) (gR r1n) .skip)) (qS (gR r1o) .ret)))⟩
def w0q:List (Nat × n0v):=[
 (s0P,t1B),
 (j0Q,E0Q),
 (G0Y,E1I),
 (j0t,t1u),
 (G0P,E1m),
 (G0F,t1y),
 (W0M,E1u),
 (y0K,t1x),
 (S0m,E1W),
 (G0U,E1v),
 (W0R,E1F),
 (h0R,D1r),
 (H0c,E1U),
 (H0a,E1S),
 (W0j,D1k),
 (S0l,E1V),
 (q0X,t1r),
 (w0T,E0T),
 (H0b,E1T),
 (r0f,E1Q),
 (W0g,C1Y),
 (W0v,D1G),
 (W0G,E1b),
 (w0Y,D1X),
 (G0N,D1V),
 (G0R,E1o),
 (W0t,D1E),
 (G0D,D1l),
 (w0S,E0S),
 (w0P,E0P),
 (l0w,E0L),
 (G1g,L1z),
 (z0b,K1F),
 (m0p,x0E),
 (G0V,E1w),
 (G0W,E1y),
 (V0O,C1g),
 (G0Q,E1n),
 (r0d,D1v),
 (W0T,E1H),
 (s0X,E1R),
 (y0W,E1J),
 (V0Z,C1H),
 (S0n,E1X),
 (H0e,K1H),
 (W0k,D1n),
 (s0N,E0O),
 (G0t,C1I),
 (F0B,E1Y),
 (V0X,C1F),
 (S0q,F1a),
 (W0N,E1x),
 (J1t,L1A),
 (W0C,D1T),
 (W0s,D1D),
 (S0o,u1v),
 (w0N,E0M),
 (o0Y,C1N),
 (y0x,C1q),
 (W0Q,E1B),
 (W0w,D1H),
 (F1Z,L1b),
 (W0J,E1k),
 (G0s,C1E),
 (y0B,C1P),
 (G0w,t1w),
 (J1x,L1E),
 (W0u,D1F),
 (G0J,D1B),
 (W0S,E1G),
 (f0k,C1U),
 (J1g,L1i),
 (J1j,L1l),
 (x0T,E1Z),
 (V0W,C1D),
 (J1w,L1D),
 (W0K,E1l),
 (w0X,D1W),
 (W0r,D1C),
 (l0x,D1U),
 (s0W,E1O),
 (G0Z,E1P),
 (W0x,D1I),
 (y0V,E1D),
 (w0O,E0N),
 (J1u,L1B),
 (J1i,L1k),
 (y0A,t1s),
 (W0l,D1o),
 (W0c,C1L),
 (S0p,u1w),
 (p0a,C1W),
 (G0K,t1C),
 (o0W,C1d),
 (s0Y,K1C),
 (W0e,C1Q),
 (l0v,E0K),
 (J1e,L1g),
 (G0u,t1t),
 (v1L,K1G),
 (s0O,C1O),
 (J1s,L1y),
 (q0T,t1p),
 (o0Z,C1S),
 (W0m,D1p),
 (W0p,D1t),
 (r0c,t1z),
 (W0F,E1a),
 (x0a,E1g),
 (G0S,E1p),
 (w0Z,E1c),
 (y0C,C1X),
 (W0o,D1s),
 (W0y,D1J),
 (W0O,E1z),
 (u1m,L1r),
 (r0b,E0R),
 (G1e,L1o),
 (G0y,D1a),
 (W0W,E1M),
 (J1n,L1s),
 (J1b,L1e),
 (W0n,D1q),
 (G0p,C1p),
 (G0E,D1m),
 (q0Y,D1d),
 (y0S,E1q),
 (G0L,D1N),
 (G0A,D1c),
 (G0x,C1V),
 (V0P,C1i),
 (r0e,D1x),
 (n0D,D1O),
 (J1v,L1C),
 (V0M,C1e),
 (W0a,C1J),
 (G0q,C1r),
 (V0Q,C1m),
 (J1k,L1m),
 (W0D,D1Y),
 (W0z,D1M),
 (q0U,C1j),
 (s0V,E1E),
 (G0G,D1u),
 (y0y,t1q),
 (s0J,C1t),
 (W0h,C1Z),
 (G0M,D1Q),
 (G0I,D1A),
 (G1h,L1F),
 (y0w,C1l),
 (n0C,C1w),
 (G1j,K1E),
 (W0q,D1y),
 (g0W,C1R),
 (G0o,C1n),
 (W0E,D1Z),
 (G0H,D1w),
 (y0D,D1e),
 (G0z,D1b),
 (q0V,C1z),
 (G1b,K1w),
 (G0n,C1h),
 (J1f,L1h),
 (J1r,L1x),
 (G1d,K1B),
 (G0C,D1g),
 (o0X,C1y),
 (r0a,u0F),
 (y0T,E1s),
 (V0U,C1B),
 (W0i,D1i),
 (G0T,E1r),
 (y0M,D1z),
 (x0S,L1q),
 (J1l,L1n),
 (W0b,C1K),
 (V0S,C1s),
 (s0S,E1e),
 (G0v,t1v),
 (v1M,K1I),
 (G0X,E1C),
 (s0T,E1f),
 (W0V,E1L),
 (W0X,E1N),
 (G1f,L1v),
 (x0R,L1c),
 (V0L,C1c),
 (V0Y,C1G),
 (J1o,L1t),
 (s0R,D1L),
 (q0Z,D1j),
 (v1I,K1A),
 (W0B,D1S),
 (W0A,D1R),
 (W0P,E1A),
 (V0V,C1C),
 (f_7,s_7),
 (y0R,D1P),
 (V0R,C1o),
 (s0I,C1k),
 (w0Q,D1h),
 (W0U,E1K),
 (J1m,L1p),
 (G1i,K1D),
 (v1G,K1y),
 (J1a,L1d),
 (J1c,L1f),
 (w0M,C1x),
 (G0O,E1d),
 (s0Q,D1K),
 (G1a,K1v),
 (u1l,K1x),
 (y0U,E1t),
 (i0J,E1j),
 (G0B,D1f),
 (V0N,C1f),
 (G1c,K1z),
 (G0r,C1v),
 (W0f,C1T),
 (s0K,C1A),
 (y0L,t1A),
 (s0U,E1h),
 (W0I,E1i),
 (J1q,L1w),
 (J1p,L1u),
 (V0T,C1u)]
abbrev I1Z:Nat:=288
def m0P:F0I:=⟨W0H,G0R,[(.int .i64 0),(.bool false),(.slice none 0 0),(.bool false),(.slice none 0 0),(.slice none 0 0),(.slice none 0 0),(.slice none 0 0)],4,8⟩
noncomputable def H0J (k:Nat):Array Oper:=E0D (G1w k (V0s Tryz.f272))
noncomputable def qA:Array Oper:=E0D (G1w 0 (V0s Tryz.f288))
noncomputable def qB':Array Oper:=E0D (H1N (G1w 1 (V0s Tryz.f288)))
noncomputable def qf:QF Tryz.prog where
 fQ:=W0H;fD:=I1Z;fS:=G0R;fn:=Tryz.f272;fnD:=Tryz.f288
 tL:=d0e;tS:=b0v;tA:=b0N;tI:=c0h;tB:=d0L
 zA:=m0P.zero
 nL:=m0P.np
 nS:=m0P.ns
 ops0:=H0J 0;ops1:=H0J 1;ops2:=H0J 2;ops3:=H0J 3;opsA:=qA;opsB:=qB'
 i0:=0;i1:=1;i2:=2;i3:=3;iA:=0;iB:=1
 o1:=(H0J 1).getD 0 default;o2:=(H0J 1).getD 1 default;o3:=(H0J 2).getD 3 default;oA1:=qA.getD 0 default;oA2:=qA.getD 1 default
 bef:=V0A (d0f Tryz.prog (.region 3 (H0J 3) true))
 hfn:=Tryz.func272
 hrun:=by kernel_rfl
 body:=by kernel_rfl
 np:=by kernel_rfl
 nt:=by kernel_rfl
 res:=by kernel_rfl
 c0:=by kernel_rfl
 h1:=by kernel_rfl
 o1c:=by kernel_rfl
 o2g:=by kernel_rfl
 o2d:=by kernel_rfl
 o2o:=by kernel_rfl
 c2:=by kernel_rfl
 o3i:=by kernel_rfl
 o3g:=by kernel_rfl
 o3d:=by kernel_rfl
 ats:=H1J ((H0J 2).getD 3 default)
 o3o:=by kernel_rfl
 c3:=by kernel_rfl
 nz:=by decide
 zf:=by kernel_rfl
 zp:=by kernel_rfl
 hfnD:=Tryz.func288
 runD:=by kernel_rfl
 bodyD:=by kernel_rfl
 ntD:=by kernel_rfl
 resD:=by kernel_rfl
 hA:=by kernel_rfl
 oA1g:=by kernel_rfl
 oA1d:=by kernel_rfl
 oA1o:=by kernel_rfl
 oA2g:=by kernel_rfl
 oA2d:=by kernel_rfl
 oA2f:=fun ρ w h h'=>X0l (t:=opT (qA.getD 1 default)) (t':=opT (qA.getD 1 default)) (ifs:=v1R (Tryz.prog.underlying (opT (qA.getD 1 default)))) (by kernel_rfl) (by kernel_rfl) ρ w h h'
 oA2t:=fun ρ w ty u h h'=>H0t (t:=opT (qA.getD 1 default)) (t':=opT (qA.getD 1 default)) (ifs:=v1R (Tryz.prog.underlying (opT (qA.getD 1 default)))) (by kernel_rfl) (by kernel_rfl) ρ w ty u h h'
 blB:=by kernel_rfl
 cB:=by kernel_rfl
