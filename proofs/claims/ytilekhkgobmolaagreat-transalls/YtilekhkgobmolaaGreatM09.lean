/- Part 10 of the proof: AiSy9, AiRat4, AiSz1, AiSz2, AiSz3, AiSr1, AiHas1, AiSz4, AiSz5, AiSz6, AiSz7, AiSz8. -/
import Derived.Test.YtilekhkgobmolaaGreatM06
import Derived.Test.YtilekhkgobmolaaGreatM07
import Derived.Test.YtilekhkgobmolaaGreatM08
set_option linter.unusedVariables false
set_option linter.unusedSimpArgs false
set_option linter.unusedSectionVars false
namespace Go.Proofs.YtilekhkgobmolaaGreat.AI
section
open Go SX
set_option maxHeartbeats 4000000
variable {fl:Nat} {H G:a0e} {R:a0u} {v w u:Value} {F:RK}
def bbq (q:ScT) (n r:Nat):Int:=Tf q.A r n
def ccq (q:ScT) (c:Nat):Int:=q.C.getD c 0
def r0V (q:ScT) (n m i c:Nat):Int:=sm (fun r=>if bbq q n r < 0 then sg (bbq q n) r * e0a n m (Tf q.A) (bbq q n) r c else 0) i
theorem A0g {E:Env} {bef:List Nat} {Z:a0W→a0e→Prop} {j i:Nat} {t:a0W} {ops:List a0D} {lg:Log} (n:Nat) (hn:ops.length=n) (hb:(List.range n).all (fun k=>(bef.getD (i + k) 0).testBit j)=true) (h:p0o F R):p0o F (fun v=>WRP E fl bef [] Z R i ops t H (some (j,v)) lg):=by
 subst hn
 cases F
 ·exact s0b hb h
 ·trivial
@[simp ↓] theorem V0F {E:Env} {d s:Nat} {r:List a0D} {t:a0W} {lg:Log} {Z:a0W→a0e→Log→Prop} :
  WRL E fl (F.p [⟨some d,none,.mv (.tmp s)⟩] [⟨some d,none,.load true 2 (.tmp s)⟩] ++ r) t H lg Z=oo (kpV F H (get t s)) fun v=>WRL E fl r (put t (some d) v) H ((F.p [] (blkOf (get t s)),[]) :: lg) Z:=by
 cases F
 ·show WRL E fl (⟨some d,none,.mv (.tmp s)⟩ :: r) t H lg Z=_
  rw [u0j,G0P,show kpV .few H (get t s)=some (get t s) from rfl,o0V];rfl
 ·show WRL E fl (⟨some d,none,.load true 2 (.tmp s)⟩ :: r) t H lg Z=_
  rw [u0j,s0c];rfl
theorem H0A {n m:Nat} {ρ:Nat→Value} {wd:Value} {Q:a0W→a0e→Prop} (h25:ρ 25=.agg #[]) (h27:ρ 27=.int .i64 (n:Int)) (h28:ρ 28=.int .i64 (m:Int)) (h33:ρ 33=.int .i64 (2 * (n:Int) + m)) (h37:ρ 37=wd) (kd:rV F G wd 1) (hf:fl≤G.size)
  (key:∀ ρ' G3 sD,Ext G G3→a0e.blk G3 G.size=.row false F.T (o0b F n m (.slice none 0 0) 1 sD (.slice none 0 0) 0)→a0e.blk G3 (G.size + 1)=.row false F.Q [.pointer (some ⟨G.size,0,none⟩)]→rD F G3 sD 1→ρ' 6=.pointer (some ⟨G.size + 1,0,none⟩)→(∀ k,k < 6→ρ' k=ρ k)→Q (T 224 ρ') G3) :
  WR env fl ((g0K F).drop 13) (T 224 ρ) G Q R:=by
 have hf':fl≤G.size + 1:=by omega
 cases F
 ·obtain ⟨rfl,kz⟩:=kd
  simp [g0K,h25,h27,h28,h33,h37,hf']
  generalize hN:Array.setIfInBounds (Array.push (Array.push _ _) _) _ _=G3
  obtain ⟨hx2,bp,b6⟩:=U0j hN
  exact key _ _ .nilFunc hx2 (by rw [h0l];simpa using bp) b6 kz (by simp) (fun k hk=>by simp [show 6 ≠ k by omega,show 38 ≠ k by omega,show 39 ≠ k by omega])
 ·obtain ⟨sD,rfl,kd⟩:=kd
  simp [g0K,h25,h27,h28,h33,h37,hf']
  generalize hN:Array.setIfInBounds (Array.push (Array.push _ _) _) _ _=G3
  obtain ⟨hx2,bp,b6⟩:=U0j hN
  exact key _ _ sD hx2 (by rw [f0R];simpa using bp) b6 (kd.mono hx2) (by simp) (fun k hk=>by simp [show 6 ≠ k by omega,show 38 ≠ k by omega,show 39 ≠ k by omega])
theorem H0B {ρ:Nat→Value} {wz:Value} {Q:a0W→a0e→Prop} (h43:ρ 43=wz) (kz:rV F G wz 0) (hf:fl≤G.size)
  (key:∀ ρ' G5,Ext G G5→r7 F G5 G.size→ρ' 7=.pointer (some ⟨G.size,0,none⟩)→(∀ k,k ≠ 7→ρ' k=ρ k)→Q (T 224 ρ') G5):WR env fl ((g0L F).drop 4) (T 224 ρ) G Q R:=by
 cases F
 ·obtain ⟨rfl,_⟩:=kz
  simp [g0L,h43,hf]
  generalize hN:Array.setIfInBounds (Array.push _ _) _ _=G5
  obtain ⟨hx2,b7⟩:=new1 hN
  exact key _ _ hx2 b7 (by simp) (fun k hk=>by simp [d1B hk])
 ·obtain ⟨sz,rfl,kz⟩:=kz
  simp [g0L,h43,hf,kz.cells,kz.plain]
  generalize hN:Array.setIfInBounds (Array.push _ _) _ _=G5
  obtain ⟨hx2,b7⟩:=new1 hN
  exact key _ _ hx2 ⟨sz,b7,kz.mono hx2⟩ (by simp) (fun k hk=>by simp [d1B hk])
theorem z0n {d s nt:Nat} {z:Int} {ρ:Nat→Value} {wx:Value} {Q:a0W→a0e→Prop} (hs:ρ s=wx) (hsl:s < nt) (hdl:d < nt) (hsd:s ≠ d) (kx:rV F G wx z) (hf:fl≤G.size)
  (key:∀ ρ' G9,Ext G G9→kpV F G9 (ρ' d)=some wx→(∀ b,b ∈ F.p [] (blkOf (ρ' d))→G.size≤b)→(∀ k,k ≠ d→ρ' k=ρ k)→Q (T nt ρ') G9) :
  WR env fl (F.p [⟨some d,none,.mv (.tmp s)⟩] [⟨some d,none,.alloc a0a [.bool false,.slice none 0 0]⟩,⟨none,none,.store 2 (.tmp d) (.tmp s)⟩]) (T nt ρ) G Q R:=by
 cases F
 ·simp [hs,hsl,hdl]
  exact key _ _ (Ext.refl _) (by simp [kpV]) (by simp) (fun k hk=>by simp [d1B hk])
 ·obtain ⟨sx,rfl,kx⟩:=kx
  simp [hs,hsl,hdl,hsd,d1B hsd,hf,kx.cells,kx.plain]
  generalize hN:Array.setIfInBounds (Array.push _ _) _ _=G9
  obtain ⟨hx9,b13⟩:=new1 hN
  exact key _ _ hx9 (by simp [kpV,b13]) (by simp) (fun k hk=>by simp [d1B hk])
def Z0N (F:RK) (fl n m:Nat) (q:ScT) (r:Value) (H':a0e):Prop:=∃ p L bs sR sD sB vs,r=.pointer (some ⟨p,0,none⟩)∧e0q F fl H' p n m L 1 bs 0 sR sD sB vs∧ShT n m L bs∧(∀ r c,r < m + 2→c≤2 * n + m→Tf L r c=h0s n m (Tf q.A) (bbq q n) (ccq q) c r)∧∀ r,r < m→bf bs r=j0Z n m (bbq q n) r
def a1g (F:RK) (H:a0e) (p P7 n m W:Nat) (q:ScT) (sv:List Value) (sA sD w9 w10:Value) (i:Nat) (ρ:Nat→Value) (G:a0e):Prop :=
 ρ 2=.pointer (some ⟨H.size,0,none⟩)∧ρ 3=.pointer (some ⟨H.size + 1,0,none⟩)∧ρ 6=.pointer (some ⟨p + 1,0,none⟩)∧ρ 8=.func (.func (F.p m0A m0z)) #[] #[.pointer (some ⟨p + 1,0,none⟩),.pointer (some ⟨P7,0,none⟩)]∧ρ 9=w9∧ρ 10=w10∧ρ 77=sA ∧
  ∃ vs bs M sR sB,rMd F H H.size (H.size + 1) (p + 1) P7 p n m sv (vs ++ [w9,w10]) M sR sD sB vs bs G∧vs.length=i∧bs.length=i∧M.length=i + 2∧Rec W M ∧
   (∀ r c,r < i→c < W→Tf M r c=sg (bbq q n) r * e0a n m (Tf q.A) (bbq q n) r c)∧(∀ c,c < W→Tf M i c = -r0V q n m i c)∧(∀ c,c < W→Tf M (i + 1) c = -cost n (ccq q) c)∧∀ r,r < i→bf bs r=j0Z n m (bbq q n) r
theorem x0F {q:ScT} {n m:Nat} (h:SV H v q) (hn0:q.n=n) (hAl:q.A.length=m) (hCl:q.C.length=n) (hrow:∀ r ∈ q.A,r.length=n + 1) (hf:fl≤H.size) (hzA:∀ r c,lz (Tf q.A r c) < 67108864) (hzC:∀ c,lz (ccq q c) < 67108864) (hzL:∀ i c,i≤m→c≤2 * n + m→lz (r0V q n m i c) < 67108864) (hm:m < 1048576) (hn:n < 1048576) (hR:p0o F R) :
  a0S env fl (s0o F) [eV,v] H (fun r H'=>Z0N F H.size n m q r H'∧Ext H H') R:=by
 obtain ⟨sA,sBy,sC,s1,s2,rfl,qA,qB,qC,q1,q2⟩:=h
 rw [hn0]
 refine a0g P0H hf (h:=?_)
 intro ρ h0
 have w1:IntKind.i64.wrap (2 * (n:Int))=2 * (n:Int):=a0T (by omega) (by omega)
 have w2:IntKind.i64.wrap (2 * (n:Int) + m)=2 * (n:Int) + m:=a0T (by omega) (by omega)
 have e2:((2 * n + m:Nat):Int)=2 * (n:Int) + m:=by omega
 have f1:f0h 1:=by unfold f0h;omega
 have f0:f0h 0:=by unfold f0h;omega
 have hslA:=qA.slen
 rw [hAl] at hslA
 simp [j0u,r0s,h0,eV]
 generalize hG:Array.push (Array.push H _) _=G
 obtain ⟨hx,b2,b3⟩:=push2 hG
 clear hG
 simp [r0t,b3,hslA]
 refine a0F ?_
 simp [g0K,b2,b3,w1,w2]
 refine (c0f (n:=1) (by have:=hx.1;omega) (by omega) (by omega)).mono ?_
 rintro _ G1 ⟨kone,hx2⟩
 replace hx:=hx.trans hx2
 replace b2:=hx2.blk b2
 replace b3:=hx2.blk b3
 simp
 refine (S0x kone (by have:=hx.1;omega) f1).mono ?_
 rintro wd G2 ⟨kd,hx2⟩
 replace hx:=hx.trans hx2
 replace b2:=hx2.blk b2
 replace b3:=hx2.blk b3
 have hsz:=hx.1
 simp
 refine H0A (n:=n) (m:=m) (by simp) (by simp) (by simp) (by simp) (by simp) kd hsz ?_
 intro ρ1 G3 sD hx2 bp b6 kd g6 hk
 have g2:=hk 2 (by decide);have g3:=hk 3 (by decide);have g5:=hk 5 (by decide)
 simp at g2 g3 g5
 clear hk
 replace hx:=hx.trans hx2
 replace b2:=hx2.blk b2
 replace b3:=hx2.blk b3
 have hpH:=hsz
 generalize hpp:Array.size G2=p at *
 have kz0:b0r G3 (.agg #[.bool false,.slice none 0 0]) (a0m 0):=⟨_,by rw [e0x],by rw [e0x];exact Lim.nil⟩
 simp [g0L,g2,b2]
 refine (S0x kz0 (by have:=hx.1;omega) f0).mono ?_
 rintro wz G4 ⟨kz,hx2⟩
 replace hx:=hx.trans hx2
 replace b2:=hx2.blk b2
 replace b3:=hx2.blk b3
 replace b6:=hx2.blk b6
 replace bp:=hx2.blk bp
 have hsz:=hx.1
 replace kd:=kd.mono hx2
 simp
 refine H0B (by simp) kz hsz ?_
 intro ρ2 G5 hx2 b7 g7 hk
 replace g2:=(hk 2 (by decide)).trans (by simpa using g2);replace g3:=(hk 3 (by decide)).trans (by simpa using g3);replace g5:=(hk 5 (by decide)).trans (by simpa using g5);replace g6:=(hk 6 (by decide)).trans (by simpa using g6)
 replace hx:=hx.trans hx2
 replace b2:=hx2.blk b2
 replace b3:=hx2.blk b3
 replace b6:=hx2.blk b6
 replace bp:=hx2.blk bp
 replace kd:=kd.mono hx2
 generalize hp7:Array.size G4=P7 at *
 have hM:rMd F H H.size (H.size + 1) (p + 1) P7 p n m _ ([] ++ []) ([] ++ []) (.slice none 0 0) sD (.slice none 0 0) [] [] G5:=⟨hx,b2,b3,b6,b7,bp,kd,⟨rfl,fun i hi=>by simp at hi,fun i j hi=>by simp at hi⟩,fun w hw=>by simp at hw,b0a.nil,b0a.nil,hpH⟩
 clear b2 b3 b6 bp b7 hx hx2 kz kz0 kd kone hp7 hsz hk
 have hP7l:=hM.b7.lt
 simp [r0u,r0v,g6,g7]
 refine (hM.one (by have:=hM.ext.1;omega) hn hm).mono ?_
 rintro w9 G6 ⟨hw,hx2⟩
 replace hM:rMd F H H.size (H.size + 1) (p + 1) P7 p n m _ ([w9] ++ []) ([List.replicate (2 * n + m + 1) 0] ++ []) (.slice none 0 0) sD (.slice none 0 0) [] [] G6:=hM.ins rfl hw hx2
 simp
 refine (hM.one (by have:=hM.ext.1;omega) hn hm).mono ?_
 rintro w10 G7 ⟨hw',hx3⟩
 replace hM:rMd F H H.size (H.size + 1) (p + 1) P7 p n m _ [w9,w10] [List.replicate (2 * n + m + 1) 0,List.replicate (2 * n + m + 1) 0] (.slice none 0 0) sD (.slice none 0 0) [] [] G7:=hM.ins rfl hw' hx3
 clear hw hw' hx2 hx3
 have b3:=hM.b3
 have hslC:=qC.slen
 rw [hCl] at hslC
 obtain ⟨W,hW⟩:∃ W,W=2 * n + m + 1:=⟨_,rfl⟩
 rw [← hW] at hM
 simp [r0w,g3,b3,hslC]
 refine c0I (n:=n) (fun k ρ G=>ρ 2=.pointer (some ⟨H.size,0,none⟩)∧ρ 3=.pointer (some ⟨H.size + 1,0,none⟩)∧ρ 5=.int .i64 (m:Int)∧ρ 6=.pointer (some ⟨p + 1,0,none⟩)∧ρ 8=.func (.func (F.p m0A m0z)) #[] #[.pointer (some ⟨p + 1,0,none⟩),.pointer (some ⟨P7,0,none⟩)]∧ρ 9=w9∧ρ 10=w10∧ρ 50=sC ∧
   ∃ M,rMd F H H.size (H.size + 1) (p + 1) P7 p n m [.int .i64 (n:Int),sA,sBy,sC,.bool (a0f q.cb).1.1,s1,.bool (a0f q.cb).2.1,s2] [w9,w10] M (.slice none 0 0) sD (.slice none 0 0) [] [] G∧M.length=2∧Rec W M∧∀ r c,c < W→Tf M r c=if r=1 then (if c < k then -ccq q c else if n≤c∧c < n + k then ccq q (c - n) else 0) else 0)
   rfl rfl (by decide) (by omega) (by simp) (by simp) ?_ ?_ ?_ ?_
 ·refine ⟨by simp [g2],by simp [g3],by simp [g5],by simp [g6],by simp,by simp,by simp,by simp,_,hM,rfl,fun i hi=>?_,fun r c hc=>?_⟩
  ·have:i=0 ∨ i=1:=by simp at hi;omega
   rcases this with rfl | rfl <;> simp
  ·have hrep:∀ r,([List.replicate W 0,List.replicate W 0].getD r ([]:List Int)).getD c 0=0:=fun r=>by
    match r with
    | 0=>exact f0d
    | 1=>exact f0d
    | r + 2=>rfl
   have:Tf [List.replicate W 0,List.replicate W 0] r c=0:=hrep r
   rw [this]
   split
   ·rw [b1T (by omega),b1T (by omega)]
   ·rfl
 ·intro i ρ ρ' G h hI;simpa [h] using hI
 ·clear h0 ρ hM b3
  rintro k ρ G hk gk gn ⟨g2,g3,g5,g6,g8,g9,g10,g50,M,hM,hM2,hrec,hTf⟩
  have kC:=qC.mono d0c hM.ext
  have hkC:k < q.C.length:=by omega
  obtain ⟨cs,ec,hcl,kc⟩:=Sls.load kC hkC (by omega)
  have hcq:q.C[k]=ccq q k:=by unfold ccq;rw [b1Q,b1V hkC];rfl
  rw [hcq] at kc
  obtain ⟨sc,hcs,kc⟩:=kc
  rw [hcs] at ec
  have hsz:=hM.ext.1
  simp [r0x,gk,g50,kC.ia hkC,ec,kc.cells,kc.plain,hsz]
  generalize hN:Array.setIfInBounds (Array.push _ _) _ _=G2
  obtain ⟨hx2,b12⟩:=new1 hN
  clear hN
  replace hM:=hM.mono hx2
  replace kc:=kc.mono hx2
  generalize hP12:Array.size G=P12 at *
  simp [r0y,g2,hM.b2,b12]
  refine (X0v (z:=ccq q k) ⟨sc,rfl,kc⟩ hM.ext.1 (hzC k) hR).mono ?_
  rintro wx G8 ⟨kx,hx2⟩
  replace hM:=hM.mono hx2
  have hs8:=hM.ext.1
  clear b12 kc kC ec
  have h1L:1 < M.length:=by omega
  have hk1:k < M[1].length:=by rw [hrec 1 h1L];omega
  have hk2:n + k < M[1].length:=by rw [hrec 1 h1L];omega
  obtain ⟨bw,hbw,hne,hblt⟩:∃ b,AI.blkOf (adr F.w w10 k)=[b]∧H.size + 1 ≠ b∧b < G8.size:=hM.bl (i:=1) (j:=k) h1L hk1
  obtain ⟨zz,hzz⟩:∃ z,z=ccq q k:=⟨_,rfl⟩
  rw [← hzz] at kx
  have hlzz:lz zz < 67108864:=by rw [hzz];exact hzC k
  simp
  refine z0n (by simp) (by decide) (by decide) (by decide) kx hs8 ?_
  intro ρ3 G9 hx9 k13 hb13 hk
  replace hM:=hM.mono hx9
  replace kx:=kx.mono hx9
  have w3:IntKind.i64.wrap ((n:Int) + k)=(n:Int) + k:=a0T (by omega) (by omega)
  have i1:iaV F.w w10 (.int .i64 (k:Int))=some (adr F.w w10 k):=hM.ia (i:=1) (j:=k) h1L hk1
  have i2:iaV F.w w10 (.int .i64 ((n + k:Nat):Int))=some (adr F.w w10 (n + k)):=hM.ia (i:=1) (j:=n + k) h1L hk2
  rw [show ((n + k:Nat):Int)=(n:Int) + k by omega] at i2
  refine c0w ?_
  simp [n0z,g2,g3,g10,hM.b2,hM.b3,w3,hk,k13]
  refine (w0p kx (by have:=hM.ext.1;omega) hlzz).mono ?_
  rintro wn G10 ⟨kn,hx2⟩
  replace hM:=hM.mono hx2
  replace kx:=kx.mono hx2
  obtain ⟨G11,st1,hM1,_,hlx1,_⟩:=hM.store (x:=-zz) (i:=1) (j:=k) h1L hk1 kn
  have h1L':1 < (M.set 1 (M[1].set k (-zz))).length:=by simp;omega
  have hk2':n + k < (M.set 1 (M[1].set k (-zz)))[1].length:=by rw [hrec.set h1L 1 h1L'];omega
  obtain ⟨G12,st2,hM2',_,_,_⟩:=hM1.store (x:=zz) (i:=1) (j:=n + k) h1L' hk2' (kx.lx hlx1)
  replace st1:e0Z H.size G10 F.w (adr F.w w10 k) wn=some G11:=st1
  replace st2:e0Z H.size G11 F.w (adr F.w w10 (n + k)) _=some G12:=st2
  simp [i1,i2,st1,st2,hbw,hne,kpV.mono k13 hx2]
  refine ⟨?_,?_⟩
  ·cases F
   ·simp [hne]
   ·simp [hne]
    rintro a b (⟨rfl,rfl⟩ | ⟨rfl,rfl⟩)
    ·simp [hne]
    ·simp
     intro x hxb;have:=hb13 x hxb;omega
  refine Rnd.mk (by simp [hk,gk]) (by simp [hk,gn]) ⟨by simp [hk,g2],by simp [hk,g3],by simp [hk,g5],by simp [hk,g6],by simp [hk,g8],by simp [hk,g9],by simp [hk,g10],by simp [hk,g50],_,hM2',by simp [hM2],(hrec.set h1L).set h1L',fun r c hc=>?_⟩
  rw [g0p (W:=W) h1L' hk2',g0p (W:=W) h1L hk1,hTf r c hc,hzz]
  by_cases hr:r=1
  ·subst hr
   simp only [true_and,c1F]
   by_cases c1:c=n + k
   ·rw [b1W c1,b1T (by omega),b1W (by omega),c1,show n + k - n=k by omega]
   ·rw [b1T c1]
    by_cases c2:c=k
    ·rw [b1W c2,b1W (by omega),c2]
    ·rw [b1T c2]
     have p1:(c < k + 1)=(c < k):=e1F (by omega)
     have p2:(n≤c∧c < n + (k + 1))=(n≤c∧c < n + k):=e1F (by omega)
     simp only [p1,p2]
  ·rw [b1T (fun h=>hr h.1),b1T (fun h=>hr h.1),b1T hr,b1T hr]
 ·clear h0 ρ hM b3
  rintro ρ G gk gn ⟨g2,g3,g5,g6,g8,g9,g10,g50,M,hM,hM2,hrec,hTf⟩
  simp [n0A,g3,hM.b3,hslA]
  generalize hsv:[Value.int .i64 (n:Int),sA,sBy,sC,.bool (a0f q.cb).1.1,s1,.bool (a0f q.cb).2.1,s2]=sv at hM
  have hsv1:∃ a b c d e f,sv=.int .i64 (n:Int) :: sA :: a :: b :: c :: d :: e :: f :: []:=⟨_,_,_,_,_,_,hsv.symm⟩
  refine c0I (n:=m) (a1g F H p P7 n m W q sv sA sD w9 w10) rfl rfl (by decide) (by omega) (by simp) (by simp) ?_ ?_ ?_ ?_
  ·refine ⟨by simp [g2],by simp [g3],by simp [g6],by simp [g8],by simp [g9],by simp [g10],by simp,[],[],M,_,_,hM,rfl,rfl,hM2,hrec,fun r c hr=>by omega,fun c hc=>?_,fun c hc=>?_,fun r hr=>by omega⟩
   ·rw [hTf 0 c hc,b1T (by decide)];rfl
   ·rw [hTf 1 c hc,b1W rfl]
    unfold cost
    by_cases c1:c < n
    ·rw [b1W c1,b1W c1]
    ·rw [b1T c1,b1T c1]
     by_cases c2:c < 2 * n
     ·rw [b1W c2,b1W (by omega)];omega
     ·rw [b1T c2,b1T (by omega)];rfl
  ·intro i ρ ρ' G h hI;unfold a1g at *;simpa [h] using hI
  ·clear g2 g3 g5 g6 g8 g9 g10 g50 hM hM2 hrec hTf gk gn ρ M G
   rintro i ρ G hi gi gm ⟨g2,g3,g6,g8,g9,g10,g77,vs,bs,M,sR,sB,hM,hvl,hbl,hML,hrec,hT1,hT2,hT3,hT4⟩
   obtain ⟨x3,x4,x5,x6,x7,x8,hsv1⟩:=hsv1
   have hiA:i < q.A.length:=by omega
   obtain ⟨wr0,er0,wr,hwr,kr⟩:=Sls.load1x qA hM.ext hiA
   have hwr':wr0=wr:=by simpa using hwr
   subst hwr'
   have hrl:q.A[i].length=n + 1:=hrow _ (c1a hiA)
   have b3:=hM.b3
   rw [hsv1] at b3
   simp [n0B,gi,g77,(qA.mono o0O hM.ext).ia hiA,er0,n0C,g8]
   refine (hM.one (by have:=hM.ext.1;omega) hn hm).mono ?_
   rintro x G2 ⟨hx,hx2⟩
   rw [← hW] at hx
   have hMt:rMd F H H.size (H.size + 1) (p + 1) P7 p n m sv (vs ++ [w9,w10]) (M.take i ++ M.drop i) sR sD sB vs bs G:=by rw [d1F];exact hM
   have hM':=hMt.ins (by simp;omega) hx hx2
   obtain ⟨M',hM'e⟩:∃ M',M' = M.take i ++ List.replicate W 0 :: M.drop i:=⟨_,rfl⟩
   rw [← hM'e] at hM'
   have hrec':Rec W M':=by rw [hM'e];exact hrec.ins (by simp)
   have hTi:∀ r c,Tf M' r c=if r < i then Tf M r c else if r=i then 0 else Tf M (r - 1) c:=fun r c=>by
    rw [hM'e,S0B (by omega),f0d]
   have hML':M'.length=i + 3:=by rw [hM'e];simp;omega
   clear hx hMt hM hx2 hM'e
   have hiM:i < M'.length:=by omega
   have hxi:(vs ++ x :: [w9,w10])[i]'(by simp;omega)=x:=by rw [c1o (by omega)];simp [hvl]
   have kr2:=kr.mono d0c hM'.ext
   obtain ⟨v',hsl,kv,hel⟩:=kr2.first (n:=n) (k:=.i64) (by omega)
   have hvs:=kv.slen
   rw [c1T,c1N (by omega)] at hvs
   have b3:=hM'.b3
   rw [hsv1] at b3
   simp [n0D,g3,b3,hsl,hel,hvs]
   refine c0I (n:=n) (fun k ρ G=>ρ 2=.pointer (some ⟨H.size,0,none⟩)∧ρ 3=.pointer (some ⟨H.size + 1,0,none⟩)∧ρ 6=.pointer (some ⟨p + 1,0,none⟩)∧ρ 8=.func (.func (F.p m0A m0z)) #[] #[.pointer (some ⟨p + 1,0,none⟩),.pointer (some ⟨P7,0,none⟩)]∧ρ 9=w9∧ρ 10=w10∧ρ 77=sA∧ρ 78=.int .i64 (m:Int)∧ρ 79=.int .i64 (i:Int)∧ρ 14=.int .i64 (i:Int)∧ρ 15=wr0∧ρ 16=x∧ρ 89=v' ∧
    ∃ M2,rMd F H H.size (H.size + 1) (p + 1) P7 p n m sv (vs ++ x :: [w9,w10]) M2 sR sD sB vs bs G∧M2.length=i + 3∧Rec W M2∧∀ r c,c < W→Tf M2 r c=if r=i then (if c < k then Tf q.A i c else if n≤c∧c < n + k then -Tf q.A i (c - n) else 0) else Tf M' r c)
    rfl rfl (by decide) (by omega) (by simp) (by simp) ?_ ?_ ?_ ?_
   ·refine ⟨by simp [g2],by simp [g3],by simp [g6],by simp [g8],by simp [g9],by simp [g10],by simp [g77],by simp [gm],by simp [gi],by simp [gi],by simp,by simp,by simp,M',hM',hML',hrec',fun r c hc=>?_⟩
    by_cases hr:r=i
    ·subst hr;rw [b1W rfl,b1T (by omega),b1T (by omega),hTi,b1T (by omega),b1W rfl]
    ·rw [b1T hr]
   ·intro i ρ ρ' G h hI;simpa [h] using hI
   ·clear g2 g3 g6 g8 g9 g10 g77 gi gm hM' hrec' b3 hel hvs kr2 kv ρ
    rintro k ρ G hk gk gn ⟨g2,g3,g6,g8,g9,g10,g77,gm,gi,g14,g15,g16,g89,M2,hM,hM2,hrec2,hTf⟩
    obtain ⟨v'',hsl',kv,_⟩:=(kr.mono d0c hM.ext).first (n:=n) (k:=.i64) (by omega)
    have hvv:v'' = v':=by rw [hsl] at hsl';exact (Option.some.inj hsl').symm
    subst hvv
    have hkC:k < (q.A[i].take n).length:=by rw [c1T];omega
    obtain ⟨cs,ec,hcl,kc⟩:=Sls.load kv hkC (by omega)
    have hcq:(q.A[i].take n)[k]=Tf q.A i k:=by rw [List.getElem_take,G0J hiA (by omega)]
    rw [hcq] at kc
    obtain ⟨sc,hcs,kc⟩:=kc
    rw [hcs] at ec
    have hsz:=hM.ext.1
    simp [n0E,gk,g89,kv.ia hkC,ec,kc.cells,kc.plain,hsz]
    generalize hN:Array.setIfInBounds (Array.push _ _) _ _=G2
    obtain ⟨hx2,b12⟩:=new1 hN
    clear hN
    replace hM:=hM.mono hx2
    replace kc:=kc.mono hx2
    generalize hP12:Array.size G=P12 at *
    simp [n0F,g2,hM.b2,b12]
    refine (X0v (z:=Tf q.A i k) ⟨sc,rfl,kc⟩ hM.ext.1 (hzA _ _) hR).mono ?_
    rintro wx G8 ⟨kx,hx2⟩
    replace hM:=hM.mono hx2
    have hs8:=hM.ext.1
    clear b12 kc kv ec
    have h1L:i < M2.length:=by omega
    have hk1:k < M2[i].length:=by rw [hrec2 i h1L];omega
    have hk2:n + k < M2[i].length:=by rw [hrec2 i h1L];omega
    obtain ⟨bw,hbw,hne,hblt⟩:∃ b,AI.blkOf (adr F.w x k)=[b]∧H.size + 1 ≠ b∧b < G8.size:=by
     have:=hM.bl (i:=i) (j:=k) h1L hk1
     rw [hxi] at this;exact this
    obtain ⟨zz,hzz⟩:∃ z,z=Tf q.A i k:=⟨_,rfl⟩
    rw [← hzz] at kx
    have hlzz:lz zz < 67108864:=by rw [hzz];exact hzA i k
    simp
    refine z0n (by simp) (by decide) (by decide) (by decide) kx hs8 ?_
    intro ρ3 G9 hx9 k13 hb13 hk
    replace hM:=hM.mono hx9
    replace kx:=kx.mono hx9
    have b3:=hM.b3
    rw [hsv1] at b3
    have w3:IntKind.i64.wrap ((n:Int) + k)=(n:Int) + k:=a0T (by omega) (by omega)
    have i1:=hM.ia (i:=i) (j:=k) h1L hk1
    have i2:=hM.ia (i:=i) (j:=n + k) h1L hk2
    rw [hxi] at i1 i2
    rw [show ((n + k:Nat):Int)=(n:Int) + k by omega] at i2
    refine c0w ?_
    simp [n0G,g2,g3,g16,hM.b2,b3,w3,hk,k13]
    refine (w0p kx (by have:=hM.ext.1;omega) hlzz).mono ?_
    rintro wn G10 ⟨kn,hx2⟩
    replace hM:=hM.mono hx2
    replace kx:=kx.mono hx2
    obtain ⟨G11,st1,hM1,_,hlx1,_⟩:=hM.store (x:=zz) (i:=i) (j:=k) h1L hk1 kx
    have h1L':i < (M2.set i (M2[i].set k zz)).length:=by simp;omega
    have hk2':n + k < (M2.set i (M2[i].set k zz))[i].length:=by rw [hrec2.set h1L i h1L'];omega
    obtain ⟨G12,st2,hM2',_,_,_⟩:=hM1.store (x:=-zz) (i:=i) (j:=n + k) h1L' hk2' (kn.lx hlx1)
    rw [hxi] at st1 st2
    simp [i1,i2,st1,st2,hbw,hne]
    refine Rnd.mk ?_ ?_ ?_
    ·simp [hk,gk]
    ·simp [hk,gn]
    refine ⟨by simp [hk,g2],by simp [hk,g3],by simp [hk,g6],by simp [hk,g8],by simp [hk,g9],by simp [hk,g10],by simp [hk,g77],by simp [hk,gm],by simp [hk,gi],by simp [hk,g14],by simp [hk,g15],by simp [hk,g16],by simp [hk,g89],_,hM2',by simp [hM2],(hrec2.set h1L).set h1L',fun r c hc=>?_⟩
    rw [g0p (W:=W) h1L' hk2',g0p (W:=W) h1L hk1,hTf r c hc,hzz]
    by_cases hr:r=i
    ·subst hr
     simp only [true_and,c1F]
     by_cases c1:c=n + k
     ·rw [b1W c1,b1T (by omega),b1W (by omega),c1,show n + k - n=k by omega]
     ·rw [b1T c1]
      by_cases c2:c=k
      ·rw [b1W c2,b1W (by omega),c2]
      ·rw [b1T c2]
       have p1:(c < k + 1)=(c < k):=e1F (by omega)
       have p2:(n≤c∧c < n + (k + 1))=(n≤c∧c < n + k):=e1F (by omega)
       simp only [p1,p2]
    ·rw [b1T (fun h=>hr h.1),b1T (fun h=>hr h.1),b1T hr,b1T hr]
   ·clear g2 g3 g6 g8 g9 g10 g77 gi gm hM' hrec' b3 hel hvs kr2 kv hsl ρ
    rintro ρ G gk gn ⟨g2,g3,g6,g8,g9,g10,g77,gm,gi,g14,g15,g16,g89,M2,hM,hM2,hrec2,hTf⟩
    have b3:=hM.b3
    rw [hsv1] at b3
    have bp:=hM.bp
    have b6:=hM.b6
    have b2:=hM.b2
    have hiM2:i < M2.length:=by omega
    have hj1:2 * n + i < M2[i].length:=by rw [hrec2 i hiM2];omega
    have w4:IntKind.i64.wrap (2 * (n:Int) + i)=2 * (n:Int) + i:=a0T (by omega) (by omega)
    have i1:=hM.ia (i:=i) (j:=2 * n + i) hiM2 hj1
    rw [hxi,show ((2 * n + i:Nat):Int)=2 * (n:Int) + i by omega] at i1
    obtain ⟨G2,st1,hM3,_,_,_⟩:=hM.store (x:=1) (i:=i) (j:=2 * n + i) hiM2 hj1 hM.dv
    rw [hxi] at st1
    refine a0F ?_
    simp [n0H,g3,g6,g14,g16,b3,b6,bp,V0k bp,w1,w4,i1,st1]
    obtain ⟨M3,hM3e⟩:∃ M3,M3=M2.set i (M2[i].set (2 * n + i) 1):=⟨_,rfl⟩
    have hrec3:Rec W M3:=by rw [hM3e];exact hrec2.set hiM2
    have hML3:M3.length=i + 3:=by rw [hM3e];simp [hM2]
    have hTf3:∀ r c,c < W→Tf M3 r c=if r=i∧c=2 * n + i then 1 else Tf M2 r c:=fun r c hc=>by rw [hM3e,g0p (W:=W) hiM2 hj1]
    rw [← hM3e] at hM3
    clear b3 bp b6 b2 st1 i1
    have b3:=hM3.b3
    rw [hsv1] at b3
    have bp:=hM3.bp
    have b6:=hM3.b6
    have b2:=hM3.b2
    have kr3:=kr.mono d0c hM3.ext
    have hnl:n < q.A[i].length:=by omega
    obtain ⟨cs,ec,hcl,kc⟩:=Sls.load kr3 hnl (by omega)
    have hbq:q.A[i][n]=bbq q n i:=by unfold bbq;rw [G0J hiA hnl]
    rw [hbq] at kc
    refine k0G ?_
    simp [n0I,g2,g3,g6,g15,g16,b2,b3,b6,bp,kr3.ia hnl,ec]
    have hq1:=fun (R':a0u) (hR':p0o F R')=>X0v (fl:=max H.size G2.size) (R:=R') kc (by have:=hM3.ext.1;omega) (hzA i n) hR'
    refine a0S.mono (hq1 _ (A0g 2 rfl rfl hR)) ?_
    clear hq1
    rintro wb G4 ⟨kb,hx2⟩
    replace hM3:=hM3.mono hx2
    have hiM3:i < M3.length:=by omega
    have hj2:2 * n + m < M3[i].length:=by rw [hrec3 i hiM3];omega
    have i1:=hM3.ia (i:=i) (j:=2 * n + m) hiM3 hj2
    rw [hxi,e2] at i1
    obtain ⟨G5,st1,hM4,_,_,_⟩:=hM3.store (x:=bbq q n i) (i:=i) (j:=2 * n + m) hiM3 hj2 kb
    rw [hxi] at st1
    simp [i1,st1]
    obtain ⟨M4,hM4e⟩:∃ M4,M4=M3.set i (M3[i].set (2 * n + m) (bbq q n i)):=⟨_,rfl⟩
    have hrec4:Rec W M4:=by rw [hM4e];exact hrec3.set hiM3
    have hML4:M4.length=i + 3:=by rw [hM4e];simp [hML3]
    have hTf4:∀ r c,c < W→Tf M4 r c=if r=i then e0a n m (Tf q.A) (bbq q n) i c else Tf M' r c:=fun r c hc=>by
     rw [hM4e,g0p (W:=W) hiM3 hj2,hTf3 r c hc,hTf r c hc]
     by_cases hr:r=i
     ·subst hr
      simp only [true_and,c1F]
      unfold e0a
      by_cases c0:c=2 * n + m
      ·rw [b1W c0,b1T (by omega),b1T (by omega),b1T (by omega)]
      ·rw [b1T c0]
       by_cases c1:c=2 * n + r
       ·rw [b1W c1,b1T (by omega),b1T (by omega),b1W (by omega),b1W (by omega)]
       ·rw [b1T c1]
        by_cases c2:c < n
        ·rw [b1W c2,b1W c2]
        ·rw [b1T c2,b1T c2]
         by_cases c3:c < 2 * n
         ·rw [b1W (by omega),b1W c3]
         ·rw [b1T (by omega),b1T c3]
          by_cases c4:c < 2 * n + m
          ·rw [b1W c4,b1T (by omega)]
          ·omega
     ·rw [b1T (fun h=>hr h.1),b1T (fun h=>hr h.1),b1T hr,b1T hr]
    rw [← hM4e] at hM4
    clear b3 bp b6 b2 st1 i1 kc ec kr3 kb hx2
    have b3:=hM4.b3
    rw [hsv1] at b3
    have bp:=hM4.bp
    have b6:=hM4.b6
    have b2:=hM4.b2
    have hiM4:i < M4.length:=by omega
    have hj3:2 * n + m < M4[i].length:=by rw [hrec4 i hiM4];omega
    obtain ⟨wv,ev,fv⟩:=hM4.num (i:=i) (j:=2 * n + m) hiM4 hj3
    have i1:=hM4.ia (i:=i) (j:=2 * n + m) hiM4 hj3
    rw [hxi] at ev i1
    rw [e2] at i1
    rw [hTf4 i (2 * n + m) (by omega),b1W rfl,f0r] at fv
    simp [n0J,g3,g14,b3,w1,w4]
    refine a0F ?_
    simp [n0K,g2,g6,g16,b2,b6,bp,i1,ev]
    refine (q0k fv (by have:=hM4.ext.1;omega) (hzA i n)).mono ?_
    rintro _ G6 ⟨rfl,hx2⟩
    replace hM4:=hM4.mono hx2
    clear b3 bp b6 b2 ev fv i1
    by_cases hneg:bbq q n i < 0
    ·have hc:c0V (bbq q n i) 0 = -1:=by unfold c0V;rw [b1W hneg]
     have bp:=hM4.bp
     have b6:=hM4.b6
     have hslx:=(hM4.rows.own i hiM4).slen
     rw [hxi,hrec4 i hiM4] at hslx
     have w5:IntKind.i64.wrap (2 * (n:Int) + m + i)=2 * (n:Int) + m + i:=a0T (by omega) (by omega)
     have hx9:(vs ++ x :: [w9,w10])[i + 1]'(by simp;omega)=w9:=by rw [c1o (by omega)];simp [hvl]
     simp [hc,n0L,g6,g14,b6,bp,w5,n0M,g16,hslx]
     refine c0I (n:=W) (fun k ρ G=>ρ 2=.pointer (some ⟨H.size,0,none⟩)∧ρ 3=.pointer (some ⟨H.size + 1,0,none⟩)∧ρ 6=.pointer (some ⟨p + 1,0,none⟩)∧ρ 8=.func (.func (F.p m0A m0z)) #[] #[.pointer (some ⟨p + 1,0,none⟩),.pointer (some ⟨P7,0,none⟩)]∧ρ 9=w9∧ρ 10=w10∧ρ 77=sA∧ρ 78=.int .i64 (m:Int)∧ρ 79=.int .i64 (i:Int)∧ρ 16=x∧ρ 20=.int .i64 (2 * (n:Int) + m + i) ∧
      ∃ M5,rMd F H H.size (H.size + 1) (p + 1) P7 p n m sv (vs ++ x :: [w9,w10]) M5 sR sD sB vs bs G∧M5.length=i + 3∧Rec W M5∧∀ r c,c < W→Tf M5 r c=if r=i then (if c < k then -e0a n m (Tf q.A) (bbq q n) i c else e0a n m (Tf q.A) (bbq q n) i c) else if r=i + 1 then (if c < k then -r0V q n m i c - -e0a n m (Tf q.A) (bbq q n) i c else -r0V q n m i c) else Tf M' r c)
      rfl rfl (by decide) (by omega) (by simp) (by simp) ?_ ?_ ?_ ?_
     ·refine ⟨by simp [g2],by simp [g3],by simp [g6],by simp [g8],by simp [g9],by simp [g10],by simp [g77],by simp [gm],by simp [gi],by simp [g16],by simp,M4,hM4,hML4,hrec4,fun r c hc=>?_⟩
      rw [hTf4 r c hc]
      by_cases hri:r=i
      ·rw [b1W hri,b1W hri,b1T (by omega)]
      ·rw [b1T hri,b1T hri]
       by_cases hri2:r=i + 1
       ·rw [b1W hri2,b1T (by omega),hri2,hTi,b1T (by omega),b1T (by omega),show i + 1 - 1=i by omega,hT2 c hc]
       ·rw [b1T hri2]
     ·intro i ρ ρ' G h hI;simpa [h] using hI
     ·clear g2 g3 g6 g8 g9 g10 g77 gi gm g14 g15 g16 g89 b6 bp hslx hc
      rintro k ρ G hk gk gn ⟨g2,g3,g6,g8,g9,g10,g77,gm,gi,g16,g20,M5,hM,hML5,hrec5,hTf5⟩
      have hiM:i < M5.length:=by omega
      have hki:k < M5[i].length:=by rw [hrec5 i hiM];exact hk
      obtain ⟨wv,ev,fv⟩:=hM.num (i:=i) (j:=k) hiM hki
      have i1:=hM.ia (i:=i) (j:=k) hiM hki
      rw [hxi] at ev i1
      rw [hTf5 i k hk,b1W rfl,b1T (by omega)] at fv
      obtain ⟨oc,hoc⟩:∃ z,z=e0a n m (Tf q.A) (bbq q n) i k:=⟨_,rfl⟩
      rw [← hoc] at fv
      have hlo:lz oc < 67108864:=by
       rw [hoc];unfold e0a
       split
       ·exact hzA _ _
       ·split
        ·rw [e0Q];exact hzA _ _
        ·split
         ·split
          ·rw [f0X];decide
          ·rw [c0x];decide
         ·exact hzA _ _
      have b2:=hM.b2
      have hsz:=hM.ext.1
      simp [n0N,gk]
      refine a0F ?_
      simp [n0O,g2,g16,gk,b2,i1,ev]
      refine (w0p fv (by omega) hlo).mono ?_
      rintro wn G2 ⟨kn,hx2⟩
      replace hM:=hM.mono hx2
      obtain ⟨G3,st1,hM6,_,_,hs3⟩:=hM.store (x:=-oc) (i:=i) (j:=k) hiM hki kn
      rw [hxi] at st1
      simp [i1,st1]
      obtain ⟨M6,hM6e⟩:∃ M6,M6=M5.set i (M5[i].set k (-oc)):=⟨_,rfl⟩
      have hrec6:Rec W M6:=by rw [hM6e];exact hrec5.set hiM
      have hML6:M6.length=i + 3:=by rw [hM6e];simp [hML5]
      have hTf6:∀ r c,Tf M6 r c=if r=i∧c=k then -oc else Tf M5 r c:=fun r c=>by rw [hM6e,g0p (W:=W) hiM hki]
      rw [← hM6e] at hM6
      have hiM6:i < M6.length:=by omega
      have hi1M6:i + 1 < M6.length:=by omega
      have hki6:k < M6[i].length:=by rw [hrec6 i hiM6];exact hk
      have hk16:k < M6[i + 1].length:=by rw [hrec6 (i + 1) hi1M6];exact hk
      obtain ⟨wx,ex,fx⟩:=hM6.num (i:=i) (j:=k) hiM6 hki6
      obtain ⟨wl,el,fl9⟩:=hM6.num (i:=i + 1) (j:=k) hi1M6 hk16
      have i2:=hM6.ia (i:=i + 1) (j:=k) hi1M6 hk16
      have i3:=hM6.ia (i:=i) (j:=k) hiM6 hki6
      rw [hxi] at ex i3
      rw [hx9] at el i2
      rw [hTf6 i k,b1W ⟨rfl,rfl⟩] at fx
      rw [hTf6 (i + 1) k,b1T (by omega),hTf5 (i + 1) k hk,b1T (by omega),b1W rfl,b1T (by omega)] at fl9
      have b6:=hM6.b6
      have hsz:=hM6.ext.1
      refine k0G ?_
      simp [n0P,g6,g9,g16,b6,i2,i3,ex,el]
      have hq1:=fun (R':a0u) (hR':p0o F R')=>S0w (fl:=H.size) (R:=R') hsz hM6.bp fl9 fx (by rw [e0Q];exact hzL i k (by omega) (by omega)) (by rw [e0Q];exact hlo) hR'
      refine a0S.mono (hq1 _ (A0g 2 rfl rfl hR)) ?_
      clear hq1
      rintro ws G4 ⟨kw,hx4⟩
      replace hM6:=hM6.mono hx4
      obtain ⟨G5,st2,hM7,_,_,_⟩:=hM6.store (x:=-r0V q n m i k - -oc) (i:=i + 1) (j:=k) hi1M6 hk16 kw
      rw [hx9] at st2
      simp [i2,st2]
      refine Rnd.mk ?_ ?_ ?_
      ·simp [gk]
      ·simp [gn]
      refine ⟨by simp [g2],by simp [g3],by simp [g6],by simp [g8],by simp [g9],by simp [g10],by simp [g77],by simp [gm],by simp [gi],by simp [g16],by simp [g20],_,hM7,by simp [hML6],hrec6.set hi1M6,fun r c hc=>?_⟩
      rw [g0p (W:=W) hi1M6 hk16,hTf6 r c,hTf5 r c hc,hoc]
      have p1:c ≠ k→(c < k + 1)=(c < k):=fun h=>e1F (by omega)
      by_cases hri:r=i
      ·subst hri
       rw [b1T (by omega)]
       by_cases hck:c=k
       ·subst hck;simp
       ·simp [hck,p1 hck]
      ·by_cases hri2:r=i + 1
       ·subst hri2
        by_cases hck:c=k
        ·subst hck;simp
        ·simp [hck,p1 hck]
       ·simp [hri,hri2]
     ·clear g2 g3 g6 g8 g9 g10 g77 gi gm g14 g15 g16 g89 b6 bp hslx hc
      rintro ρ G gk gn ⟨g2,g3,g6,g8,g9,g10,g77,gm,gi,g16,g20,M5,hM5,hML5,hrec5,hTf5'⟩
      have hbz:((j0Z n m (bbq q n) i:Nat):Int)=2 * (n:Int) + m + i:=by unfold j0Z;rw [b1W hneg];omega
      have hTf5:∀ r c,c < W→Tf M5 r c=if r=i then sg (bbq q n) i * e0a n m (Tf q.A) (bbq q n) i c else if r=i + 1 then -r0V q n m (i + 1) c else Tf M' r c:=fun r c hc=>by
       rw [hTf5' r c hc]
       by_cases hri:r=i
       ·rw [b1W hri,b1W hri,b1W hc];unfold sg;rw [b1W hneg];omega
       ·rw [b1T hri,b1T hri]
        by_cases hri2:r=i + 1
        ·rw [b1W hri2,b1W hri2,b1W hc]
         have:r0V q n m (i + 1) c=r0V q n m i c + -e0a n m (Tf q.A) (bbq q n) i c:=by unfold r0V;rw [sm,b1W hneg];unfold sg;rw [b1W hneg];omega
         rw [this];omega
        ·rw [b1T hri2,b1T hri2]
      have hx4:=(hM5.rows.own i (by omega)).cells
      rw [hxi] at hx4
      obtain ⟨sR',G8,sB',G9,a1,a2,q1,p1,q2,p2,c1,c2,c3,c4,hbR,hbB,hset⟩:=hM5.push2 (w:=x) hx4.2 (b:=j0Z n m (bbq q n) i) (by omega) (by omega)
      have b6:=hM5.b6
      have bp:=hM5.bp
      refine c0w ?_
      have hpl8:=a0j p2
      rw [hbz] at a2
      simp [j0r,g6,g16,g20,b6,bp,hx4.1,a1,q1,p1,a2,q2,p2,c1,c2,c3,c4,hpH,hpl8]
      generalize hS1:Array.setIfInBounds G9 p _=G10
      have hM6:=hset G10 (by rw [← hS1])
      clear hset
      refine ⟨⟨fun h=>(hbR _ h).1 rfl,fun x h=>(hbR x h).1,fun x h=>(hbR x h).2,fun h=>hbB _ h rfl⟩,?_⟩
      refine Rnd.mk ?_ ?_ ?_
      ·simp [gi]
      ·simp [gm]
      refine ⟨by simp [g2],by simp [g3],by simp [g6],by simp [g8],by simp [g9],by simp [g10],by simp [g77],vs ++ [x],bs ++ [j0Z n m (bbq q n) i],M5,sR',sB',by simpa using hM6,by simp [hvl],by simp [hbl],hML5,hrec5,fun r c hr hc=>?_,fun c hc=>?_,fun c hc=>?_,fun r hr=>?_⟩
      ·rw [hTf5 r c hc]
       by_cases hri:r=i
       ·subst hri;rw [b1W rfl]
       ·rw [b1T hri,b1T (by omega),hTi,b1W (by omega),hT1 r c (by omega) hc]
      ·rw [hTf5 (i + 1) c hc,b1T (by omega),b1W rfl]
      ·rw [hTf5 (i + 2) c hc,b1T (by omega),b1T (by omega),hTi,b1T (by omega),b1T (by omega)]
       exact hT3 c hc
      ·unfold bf
       rw [b1Q]
       by_cases hri:r=i
       ·subst hri
        rw [c1K (by omega),show r - bs.length=0 by omega];rfl
       ·rw [c1D (by omega),← b1Q]
        exact hT4 r (by omega)
    ·have hc:¬ c0V (bbq q n i) 0 < 0:=by unfold c0V;rw [b1T hneg];split <;> omega
     have hbz:((j0Z n m (bbq q n) i:Nat):Int)=2 * (n:Int) + i:=by unfold j0Z;rw [b1T hneg];omega
     obtain ⟨M5,hM5e⟩:∃ M5,M5=M4:=⟨_,rfl⟩
     have hM5:=hM4
     have hML5:=hML4
     have hrec5:=hrec4
     have hTf5:∀ r c,c < W→Tf M4 r c=if r=i then sg (bbq q n) i * e0a n m (Tf q.A) (bbq q n) i c else if r=i + 1 then -r0V q n m (i + 1) c else Tf M' r c:=fun r c hc=>by
      rw [hTf4 r c hc]
      by_cases hri:r=i
      ·rw [b1W hri,b1W hri];unfold sg;rw [b1T hneg,Int.one_mul]
      ·rw [b1T hri,b1T hri]
       by_cases hri2:r=i + 1
       ·rw [b1W hri2,hri2,hTi,b1T (by omega),b1T (by omega),show i + 1 - 1=i by omega,hT2 c hc]
        have:r0V q n m (i + 1) c=r0V q n m i c:=by unfold r0V;rw [sm,b1T hneg,d1r]
        rw [this]
       ·rw [b1T hri2]
     rw [← hM5e] at hM5 hML5 hrec5 hTf5
     simp [hc]
     have hx4:=(hM5.rows.own i (by omega)).cells
     rw [hxi] at hx4
     obtain ⟨sR',G8,sB',G9,a1,a2,q1,p1,q2,p2,c1,c2,c3,c4,hbR,hbB,hset⟩:=hM5.push2 (w:=x) hx4.2 (b:=j0Z n m (bbq q n) i) (by omega) (by omega)
     have b6:=hM5.b6
     have bp:=hM5.bp
     refine c0w ?_
     have hpl8:=a0j p2
     rw [hbz] at a2
     simp [j0r,g6,g16,b6,bp,hx4.1,a1,q1,p1,a2,q2,p2,c1,c2,c3,c4,hpH,hpl8]
     generalize hS1:Array.setIfInBounds G9 p _=G10
     have hM6:=hset G10 (by rw [← hS1])
     clear hset
     refine ⟨⟨fun h=>(hbR _ h).1 rfl,fun x h=>(hbR x h).1,fun x h=>(hbR x h).2,fun h=>hbB _ h rfl⟩,?_⟩
     refine Rnd.mk ?_ ?_ ?_
     ·simp [gi]
     ·simp [gm]
     refine ⟨by simp [g2],by simp [g3],by simp [g6],by simp [g8],by simp [g9],by simp [g10],by simp [g77],vs ++ [x],bs ++ [j0Z n m (bbq q n) i],M5,sR',sB',by simpa using hM6,by simp [hvl],by simp [hbl],hML5,hrec5,fun r c hr hc=>?_,fun c hc=>?_,fun c hc=>?_,fun r hr=>?_⟩
     ·rw [hTf5 r c hc]
      by_cases hri:r=i
      ·subst hri;rw [b1W rfl]
      ·rw [b1T hri,b1T (by omega),hTi,b1W (by omega),hT1 r c (by omega) hc]
     ·rw [hTf5 (i + 1) c hc,b1T (by omega),b1W rfl]
     ·rw [hTf5 (i + 2) c hc,b1T (by omega),b1T (by omega),hTi,b1T (by omega),b1T (by omega)]
      exact hT3 c hc
     ·unfold bf
      rw [b1Q]
      by_cases hri:r=i
      ·subst hri
       rw [c1K (by omega),show r - bs.length=0 by omega];rfl
      ·rw [c1D (by omega),← b1Q]
       exact hT4 r (by omega)
  ·clear g2 g3 g5 g6 g8 g9 g10 g50 hM hM2 hrec hTf gk gn ρ M G
   rintro ρ G gi gm ⟨g2,g3,g6,g8,g9,g10,g77,vs,bs,M,sR,sB,hM,hvl,hbl,hML,hrec,hT1,hT2,hT3,hT4⟩
   have b6:=hM.b6
   have bp:=hM.bp
   have c9:=(hM.rows.own m (by omega)).cells
   have c10:=(hM.rows.own (m + 1) (by omega)).cells
   have r9:(vs ++ [w9,w10])[m]'(by simp;omega)=w9:=by rw [c1o (by omega)];simp [hvl]
   have r10:(vs ++ [w9,w10])[m + 1]'(by simp;omega)=w10:=by rw [c1o (by omega)];simp [hvl]
   rw [r9] at c9
   rw [r10] at c10
   obtain ⟨sR',G2,a1,o1,x1,y1⟩:=z0b hM.heads c9.2 c10.2 (by omega) (bytes:=24) (by omega) hM.ext.1
   have lx1:∀ {e:Nat},F.S ≠ e→LxT e G G2:=fun hne=>hM.heads.lxT hne x1
   have p1:=lx1 (by cases F <;> decide) _ _ _ bp
   have q1:=lx1 (by cases F <;> decide) _ _ _ b6
   have nR6:=hM.heads.ne b6 (by cases F <;> decide)
   have hR':=hM.heads.blkOf
   obtain ⟨cR,pR⟩:=o1.cells
   have hpl:=a0j p1
   refine c0w ?_
   simp [n0Q,g6,g9,g10,b6,bp,c9.1,c10.1,a1,q1,p1,cR,pR,hpH,hpl]
   have hnR:¬ (p + 1) ∈ blkW sR:=by
    rcases hR' with h0 | ⟨c,h0,h1⟩
    ·rw [h0];simp
    ·rw [h0,d1H]
     intro h5;exact nR6 (by rw [h1,h5])
   generalize hS:Array.setIfInBounds G2 p _=G3
   have lx3:∀ {e:Nat},F.T ≠ e→LxT e G2 G3:=fun hne=>a0X hS p1 hne
   have q3:=lx3 (by cases F <;> decide) _ _ _ q1
   have hlx:Lx G G3:=fun b ro cs hb=>lx3 (by cases F <;> decide) b ro cs (lx1 (by cases F <;> decide) b ro cs hb)
   refine ⟨hnR,?_⟩
   simp [n0R,g6,q3]
   refine fun _=>⟨p,M,bs,sR',sD,sB,vs ++ [w9,w10],rfl,⟨?_,hpH,(hM.d.lx hlx),o1.lxm (Q':=PV) (lx3 (by cases F <;> decide)) (fun _ _ h=>h),⟨hM.rows.len,fun r hr=>((hM.rows.own r hr).lxm (Q':=F.P) (lx1 (by cases F <;> decide)) (fun cs x hx=>Q0z.lx _ _ _ _ (lx1 (by cases F <;> decide)) hx)).lxm (lx3 (by cases F <;> decide)) (fun cs x hx=>Q0z.lx _ _ _ _ (lx3 (by cases F <;> decide)) hx),hM.rows.apart⟩,(hM.basis.lxm (Q':=PK) (lx1 (by cases F <;> decide)) (fun _ _ h=>h)).lxm (lx3 (by cases F <;> decide)) (fun _ _ h=>h)⟩,⟨hML,fun r hr=>by rw [hrec r hr,hW],hbl⟩,fun r c hr hc=>?_,fun r hr=>hT4 r hr⟩
   ·rw [a0M hS p1]
   ·by_cases h1:r < m
    ·rw [hT1 r c h1 (by omega),e0t h1]
    ·by_cases h2:r=m
     ·subst h2;rw [hT2 c (by omega),g0v];rfl
     ·have:r=m + 1:=by omega
      subst this;rw [hT3 c (by omega),e0y]
end
section
open Go
set_option maxHeartbeats 4000000
variable {fl:Nat} {H G:a0e} {R:a0u} {v w:Value} {a b:b0e}
theorem k0g {x:Rat} (h:b0O H v (a0f x)) (hf:fl≤H.size) (hn:szR x < 67108864) :
  a0S env fl y0O [v] H (fun r H'=>b0O H' r (a0f (-x))∧Ext H H') R:=by
 have k0:=h
 obtain ⟨s,u,rfl,hs,hu⟩:=h
 refine a0g Z0d hf (h:=?_)
 intro ρ h0
 simp [I0U,D0N,h0]
 generalize hG:Array.push (Array.push H _) _=G
 have hx2:Ext H G:=by rw [← hG];exact (Ext.refl H).push.push
 have b0:a0e.blk G H.size=.row false a0b [.bool (a0f x).1.1,s,.bool (a0f x).2.1,u]:=by rw [← hG];simp
 have b1:a0e.blk G (H.size + 1)=.row false a0b [.bool false,.slice none 0 0,.bool false,.slice none 0 0]:=by rw [← hG];simp
 have hx:=Ext.refl H
 clear hG
 replace hx:=hx.trans hx2
 have k1:=hs.mono hx
 have k2:=hu.mono hx
 have ln:(a0m x.num).2.length=lz x.num:=rfl
 have l1:=f0e x
 refine a0F ?_
 simp [D0O,b0]
 refine (e0i (i:=a0m x.num) ⟨s,rfl,k1⟩ (by have:=hx.1;omega) (by omega)).mono ?_
 rintro _ G2 ⟨⟨s1,rfl,k3⟩,hx2⟩
 replace b0:=hx2.blk b0;replace b1:=hx2.blk b1;replace hx:=hx.trans hx2;replace k2:=k2.mono hx2
 rw [a0k] at k3 ⊢
 have hsz:=hx.1
 have hz:=a0j b1
 simp [b0,b1,k2.cells,k2.plain,k3.cells,k3.plain,hsz,hz]
 have e:a0f (-x)=(a0m (-x.num),a0m x.den):=by unfold a0f;rw [Rat.neg_num,Rat.neg_den]
 rw [e]
 exact fun _=>⟨s1,u,rfl,k3.setT b1 (by decide),k2.setT b1 (by decide)⟩
theorem j0T (h:b0O H v a) (k:b0O H w b) (hf:fl≤H.size) (hn:e0I a < 67108864) (hm:e0I b < 67108864) :
  a0S env fl w0H [v,w] H (fun r H'=>b0O H' r (a0f (b0A a - b0A b))∧Ext H H') R:=by
 have k0:=h
 have k1:=k
 obtain ⟨s,u,rfl,hs,hu⟩:=h
 obtain ⟨s',u',rfl,hs',hu'⟩:=k
 refine a0g Y0U hf (h:=?_)
 intro ρ h0
 simp [I0L,C0O,h0]
 generalize hG:Array.push (Array.push (Array.push H _) _) _=G
 have hx2:Ext H G:=by rw [← hG];exact (Ext.refl H).push.push.push
 have b0:a0e.blk G H.size=.row false a0b [.bool a.1.1,s,.bool a.2.1,u]:=by rw [← hG];simp
 have b1:a0e.blk G (H.size + 1)=.row false a0b [.bool b.1.1,s',.bool b.2.1,u']:=by rw [← hG];simp
 have b2:a0e.blk G (H.size + 2)=.row false a0b [.bool false,.slice none 0 0,.bool false,.slice none 0 0]:=by rw [← hG];simp
 have hx:=Ext.refl H
 clear hG
 replace hx:=hx.trans hx2;replace k0:=k0.mono hx2;replace k1:=k1.mono hx2
 have sb:=d0u k1.ok.1 k1.ok.2
 refine a0F ?_
 simp [C0P,b0,b1]
 refine (b0V k1 (by have:=hx.1;omega) (by omega)).mono ?_
 rintro y G2 ⟨k2,hx2⟩
 replace b2:=hx2.blk b2;replace hx:=hx.trans hx2;replace k0:=k0.mono hx2
 simp
 refine (k0g k2 (by have:=hx.1;omega) (by omega)).mono ?_
 rintro z G3 ⟨k3,hx2⟩
 replace b2:=hx2.blk b2;replace hx:=hx.trans hx2;replace k0:=k0.mono hx2
 have sn:=G0u (b0A b)
 simp
 refine (b0D k0 k3 hx.1 hn (by rw [a0A];omega)).mono ?_
 rintro _ G4 ⟨⟨s1,s2,rfl,k4,k5⟩,hx2⟩
 replace b2:=hx2.blk b2;replace hx:=hx.trans hx2
 rw [a0s,← Rat.sub_eq_add_neg] at k4 k5 ⊢
 have hz:=a0j b2
 simp [b2,k4.cells,k4.plain,k5.cells,k5.plain,hz]
 exact fun _=>⟨s1,s2,rfl,k4.setT b2 (by decide),k5.setT b2 (by decide)⟩
theorem r0F (h:b0O H v a) (k:b0O H w b) (hf:fl≤H.size) (hn:e0I a < 67108864) (hm:e0I b < 67108864) (hb0:b0A b ≠ 0) :
  a0S env fl y0J [v,w] H (fun r H'=>(∃ q,r=.tuple #[q,.int .i64 0]∧b0O H' q (a0f (b0A a / b0A b)))∧Ext H H') R:=by
 have k0:=h
 have k1:=k
 obtain ⟨s,u,rfl,hs,hu⟩:=h
 obtain ⟨s',u',rfl,hs',hu'⟩:=k
 refine a0g Y0S hf (h:=?_)
 intro ρ h0
 simp [I0J,C0I,h0]
 generalize hG:Array.push (Array.push (Array.push H _) _) _=G
 have hx2:Ext H G:=by rw [← hG];exact (Ext.refl H).push.push.push
 have b0:a0e.blk G H.size=.row false a0b [.bool a.1.1,s,.bool a.2.1,u]:=by rw [← hG];simp
 have b1:a0e.blk G (H.size + 1)=.row false a0b [.bool b.1.1,s',.bool b.2.1,u']:=by rw [← hG];simp
 have b2:a0e.blk G (H.size + 2)=.row false a0b [.bool false,.slice none 0 0,.bool false,.slice none 0 0]:=by rw [← hG];simp
 have hx:=Ext.refl H
 clear hG
 replace hx:=hx.trans hx2;replace k0:=k0.mono hx2;replace k1:=k1.mono hx2
 have sa:=d0u k0.ok.1 k0.ok.2
 have sb:=d0u k1.ok.1 k1.ok.2
 refine a0F ?_
 simp [C0J,b0]
 refine (b0V k0 (by have:=hx.1;omega) (by omega)).mono ?_
 rintro _ G2 ⟨⟨s1,s2,rfl,k2,k3⟩,hx2⟩
 replace b0:=hx2.blk b0;replace b1:=hx2.blk b1;replace b2:=hx2.blk b2;replace hx:=hx.trans hx2;replace k0:=k0.mono hx2;replace k1:=k1.mono hx2
 simp [b1]
 refine (b0V k1 hx.1 (by omega)).mono ?_
 rintro _ G2 ⟨⟨s3,s4,rfl,k4,k5⟩,hx2⟩
 replace b0:=hx2.blk b0;replace b1:=hx2.blk b1;replace b2:=hx2.blk b2;replace hx:=hx.trans hx2;replace k0:=k0.mono hx2;replace k1:=k1.mono hx2;replace k2:=k2.mono hx2;replace k3:=k3.mono hx2
 clear k0 k1
 have hz0:=a0j b0
 simp [b0,k2.cells,k2.plain,k3.cells,k3.plain,hz0]
 generalize hS:Array.setIfInBounds _ _ _=G3
 have hsz:=hx.1;replace k2:=k2.setS hS b0 (by decide);replace k3:=k3.setS hS b0 (by decide);replace k4:=k4.setS hS b0 (by decide);replace k5:=k5.setS hS b0 (by decide);replace b1:=a0z hS b1 (by omega);replace b2:=a0z hS b2 (by omega);replace hx:=b0I hS hx (by omega);replace b0:=a0M hS b0;clear hS hsz
 have hz0:=a0j b1
 simp [b1,k4.cells,k4.plain,k5.cells,k5.plain,hz0]
 generalize hS:Array.setIfInBounds _ _ _=G3
 have hsz:=hx.1;replace k2:=k2.setS hS b1 (by decide);replace k3:=k3.setS hS b1 (by decide);replace k4:=k4.setS hS b1 (by decide);replace k5:=k5.setS hS b1 (by decide);replace b0:=a0z hS b0 (by omega);replace b2:=a0z hS b2 (by omega);replace hx:=b0I hS hx (by omega);replace b1:=a0M hS b1;clear hS hsz
 obtain ⟨x,hxv⟩:∃ x,x=b0A a:=⟨_,rfl⟩
 obtain ⟨y,hyv⟩:∃ y,y=b0A b:=⟨_,rfl⟩
 rw [← hxv] at sa k2 k3 b0 ⊢
 rw [← hyv] at sb k4 k5 b1 hb0 ⊢
 have k0:b0r _ (.agg #[.bool (a0f x).1.1,s1]) (a0m x.num):=⟨s1,rfl,k2⟩
 have k1:b0r _ (.agg #[.bool (a0f x).2.1,s2]) (a0m x.den):=⟨s2,rfl,k3⟩
 have k6:b0r _ (.agg #[.bool (a0f y).1.1,s3]) (a0m y.num):=⟨s3,rfl,k4⟩
 have k7:b0r _ (.agg #[.bool (a0f y).2.1,s4]) (a0m y.den):=⟨s4,rfl,k5⟩
 have l1:=f0e x
 have l2:=g0T x
 have l3:=f0e y
 have l4:=g0T y
 clear hs hu hs' hu' k2 k3 k4 k5
 refine a0F ?_
 simp [C0K,b0,b1]
 refine (b0y k0 k7 (by have:=hx.1;omega) (by rw [a0n];omega) (by rw [a0n];omega)).mono ?_
 rintro _ G4 ⟨k2,hx2⟩
 replace b0:=hx2.blk b0;replace b1:=hx2.blk b1;replace b2:=hx2.blk b2;replace hx:=hx.trans hx2;replace k1:=k1.mono hx2;replace k6:=k6.mono hx2;replace k7:=k7.mono hx2
 simp [b0,b1]
 refine (b0y k1 k6 hx.1 (by rw [a0n];omega) (by rw [a0n];omega)).mono ?_
 rintro _ G5 ⟨k3,hx2⟩
 replace b2:=hx2.blk b2;replace hx:=hx.trans hx2;replace k2:=k2.mono hx2;replace k6:=k6.mono hx2;replace k7:=k7.mono hx2
 rw [a0k,a0k] at k2 k3
 have q1:=d0b x.num y.den
 have q2:=d0b x.den y.num
 have hne:(x.den:Int) * y.num ≠ 0:=Int.mul_ne_zero (by have:=x.den_nz;omega) (fun h=>hb0 (Rat.num_eq_zero.1 h))
 rw [n0c]
 generalize x.num * y.den=p at *
 generalize (x.den:Int) * y.num=q at *
 simp
 have hq:=fun R'=>d0z (fl:=H.size) (R:=R') k2 k3 hx.1 (by rw [a0n];omega) (by rw [a0n];omega) (by rw [a0k];exact hne)
 simp only [a0k] at hq
 refine (hq _).mono ?_
 rintro _ G6 ⟨⟨_,rfl,s8,s9,rfl,k6,k7⟩,hx2⟩
 replace b2:=hx2.blk b2;replace hx:=hx.trans hx2
 have hz:=a0j b2
 simp [b2,k6.cells,k6.plain,k7.cells,k7.plain,hz]
 exact fun _=>⟨s8,s9,rfl,k6.setT b2 (by decide),k7.setT b2 (by decide)⟩
end
section
open Go SX
set_option maxHeartbeats 4000000
variable {fl:Nat} {H G:a0e} {R:a0u} {v w u:Value} {F:RK}
theorem z0Y {a b D:Int} (hD:D ≠ 0):Rat.divInt a D + Rat.divInt b D=Rat.divInt (a + b) D:=by
 rw [Rat.divInt_add_divInt _ _ hD hD,← Int.add_mul,Rat.divInt_mul_right hD]
theorem U0t {b D:Int}:-Rat.divInt b D=Rat.divInt (-b) D:=by
 first
 | rw [Rat.neg_divInt]
 | rw [← Rat.neg_divInt]
theorem K0d {a b D:Int} (hD:D ≠ 0):Rat.divInt a D - Rat.divInt b D=Rat.divInt (a - b) D:=by
 rw [Rat.sub_eq_add_neg,U0t,z0Y hD,e1f]
theorem Q0y {D:Int}:Rat.divInt 0 D=0:=Rat.zero_divInt D
def ptq (n:Nat) (base:Nat→Nat) (Fv:Nat→Int) (q k:Nat):Int:=sm (fun i=>if base i=k then Fv i else if base i=n + k then -Fv i else 0) q
theorem n0k {n:Nat} {base:Nat→Nat} {Fv:Nat→Int} {K k:Nat}:∀ {q:Nat},(∀ i,i < q→lz (Fv i)≤K)→lz (ptq n base Fv q k)≤K + q
 | 0,_=>by unfold ptq;rw [sm,c0x];omega
 | q + 1,h=>by
  have h1:=n0k (n:=n) (base:=base) (k:=k) (q:=q) (fun i hi=>h i (by omega))
  have h2:=h q (by omega)
  have h3:∀ z,lz z≤K→lz (ptq n base Fv q k + z)≤K + (q + 1):=fun z hz=>by
   have:=q0X (ptq n base Fv q k) z;omega
  show lz (ptq n base Fv q k + if base q=k then Fv q else if base q=n + k then -Fv q else 0)≤_
  split
  ·exact h3 _ h2
  ·split
   ·exact h3 _ (by rw [e0Q];exact h2)
   ·exact h3 _ (by rw [c0x];omega)
theorem d0J {n j:Nat} {f g:Nat→b0e} (h:∀ k,k < n→k ≠ j→g k=f k):((List.range n).map f).set j (g j)=(List.range n).map g:=by
 apply e1y
 ·simp
 ·intro k h1 h2
  rw [List.getElem_set]
  simp only [c1J,d1u]
  split
  ·rename_i h3;rw [h3]
  ·rename_i h3;rw [h k (by simpa using h2) (fun h4=>h3 h4.symm)]
theorem s0a {f0 p n m:Nat} {L:List (List Int)} {k D x:Int} {bs:List Nat} {sR sD sB vx:Value} {vs:List Value} (h:e0q F f0 H p n m L D bs k sR sD sB vs) (hf:fl≤H.size) (hx:rV F H vx x) (lx:lz x < 67108864) (lD:lz D < 67108864) (hD0:D ≠ 0) :
  a0S env fl (F.p q0K q0J) [.pointer (some ⟨p,0,none⟩),vx] H (fun r H'=>b0O H' r (a0f (Rat.divInt x D))∧Ext H H') R:=by
 cases F
 ·obtain ⟨rfl,hx⟩:=hx
  exact m0G hf h.blk hx h.d hD0
 ·exact m0v hf h.blk h.d hx lx lD hD0
theorem n0q {f0 p n m:Nat} {L:List (List Int)} {k D:Int} {bs:List Nat} {sR sD sB:Value} {vs:List Value} {g:FuncId} {caps:Array Value} {Fv:Nat→Int} (h:e0q F f0 H p n m L D bs k sR sD sB vs) (hf:fl≤H.size) (hS:ShT n m L bs) (hlD:lz D < 60000000) (hD0:D ≠ 0) (hF:∀ i,i < m→lz (Fv i)≤59999999) (hm:m < 1048576) (hn:n < 1048576)
  (hg:∀ (fl i:Nat) (G:a0e) (R':a0u),Ext H G→fl≤G.size→i < m→a0S env fl g (.int .i64 (i:Int) :: caps.toList) G (fun r G'=>rV F G' r (Fv i)∧Ext G G') R') :
  a0S env fl (k0p F) [.pointer (some ⟨p,0,none⟩),.func (.func g) #[] caps] H (fun r H'=>b0a PR H.size H' a0b 4 r ((List.range n).map fun k=>a0f (Rat.divInt (ptq n (bf bs) Fv m k) D))∧Ext H H') R:=by
 refine a0g H0k hf (h:=?_)
 intro ρ h0
 have hbk:=h.blk
 have hmk:=f0H (bytes:=64) (k:=.i64) (k':=.i64) (l:=n) (c:=n) (b1S _) (by omega) (by omega)
 simp [h0n,n0S,n0T,h0,hbk,hmk]
 generalize hN:Array.push H _=G
 obtain ⟨hx,b0⟩:=h0Z hN
 clear hN
 obtain ⟨hr1,hr2⟩:=p0Q G n
 have ho:b0a PR H.size G a0b 4 (.slice (some ⟨H.size,0,none⟩) n n) ((List.range n).map fun k=>if k < 0 then a0f 0 else c0m):=by
  refine ⟨_,by simpa using Own.mk (n:=n) (sz:=4) (cap:=n) b0 hr1 (b1S _),fun k hk=>?_⟩
  simp only [c1J,d1u]
  rw [b1T (by omega)]
  exact hr2 k (by simpa using hk)
 have hsl:=ho.slen
 simp only [d1f,List.length_range] at hsl
 clear b0 hr1 hr2 hmk hbk
 simp [n0U,hsl]
 refine c0I (n:=n) (fun k ρ G=>ρ 0=.pointer (some ⟨p,0,none⟩)∧ρ 1=.func (.func g) #[] caps∧Ext H G∧b0a PR H.size G a0b 4 (ρ 5) ((List.range n).map fun j=>if j < k then a0f 0 else c0m)) rfl rfl (by decide) (by omega) (by simp) (by simp) ?_ ?_ ?_ ?_
 ·exact ⟨by simp [h0],by simp [h0],hx,by simpa using ho⟩
 ·intro i ρ ρ' G h hI;simpa [h] using hI
 ·clear h0 ρ hx ho hsl
  rintro k ρ G hk gk gn ⟨g0,g1,hx,ho⟩
  obtain ⟨s,g5⟩:∃ s,ρ 5=s:=⟨_,rfl⟩
  rw [g5] at ho
  simp [n0V,n0W,gk,g5]
  refine (b0U (n:=0) hx.1 (by omega) (by omega)).mono ?_
  rintro _ G2 ⟨⟨s1,s2,rfl,k1,k2⟩,hx2⟩
  replace ho:=ho.mono a0H hx2
  replace hx:=hx.trans hx2
  have hkl:k < ((List.range n).map fun j=>if j < k then a0f 0 else c0m).length:=by simpa using hk
  have hz0:((0:Int):Rat)=0:=rfl
  rw [hz0] at k1 k2
  obtain ⟨G3,hst,ho2,hxb⟩:=b0a.store (x:=a0f 0) (w:=.agg #[.bool (a0f 0).1.1,s1,.bool (a0f 0).2.1,s2]) ho hkl (by decide) rfl (by simp [k1.plain,k2.plain]) (fun G' _ hl=>⟨s1,s2,rfl,k1.lx hl,k2.lx hl⟩) (by decide) (fun G' cs y _ hl h=>b0O.lx h hl)
  have ia:=ho.sls.ia (k:=.i64) hkl
  simp [gk,g5,ia,hst]
  have hset:=d0J (n:=n) (j:=k) (f:=fun j=>if j < k then a0f 0 else c0m) (g:=fun j=>if j < k + 1 then a0f 0 else c0m) (fun j _ hj=>by
   have:(j < k + 1)=(j < k):=e1F (by omega)
   simp only [this])
  simp only [b1W (Nat.lt_succ_self k)] at hset
  rw [hset] at ho2
  exact Rnd.mk (by simp [gk]) (by simp [gn]) ⟨by simp [g0],by simp [g1],k0m hx hxb (fun b hb=>(ho.ge hb).1),by simpa [g5] using ho2⟩
 ·clear h0 ρ hx ho hsl
  rintro ρ G gk gn ⟨g0,g1,hx,ho⟩
  have hG:=h.mono hx
  have hbk:=hG.blk
  have hslB:=hG.basis.sls.slen
  rw [hS.base] at hslB
  simp [n0X,g0,hbk,hslB]
  have hst0:((List.range n).map fun j=>if j < n then a0f 0 else c0m)=(List.range n).map fun k=>a0f (Rat.divInt (ptq n (bf bs) Fv 0 k) D):=by
   apply d1o
   intro j hj
   rw [b1W (by simpa using hj)]
   unfold ptq
   rw [sm,Q0y]
  rw [hst0] at ho
  refine c0I (n:=m) (fun q ρ G=>ρ 0=.pointer (some ⟨p,0,none⟩)∧ρ 1=.func (.func g) #[] caps∧ρ 27=sB∧Ext H G∧b0a PR H.size G a0b 4 (ρ 5) ((List.range n).map fun k=>a0f (Rat.divInt (ptq n (bf bs) Fv q k) D))) rfl rfl (by decide) (by omega) (by simp) (by simp) ?_ ?_ ?_ ?_
  ·exact ⟨by simp [g0],by simp [g1],by simp,hx,by simpa using ho⟩
  ·intro i ρ ρ' G h hI;simpa [h] using hI
  ·clear hx ho gk gn g0 g1 hst0 hG hbk hslB ρ G
   rintro q ρ G hq gq gm ⟨g0,g1,g27,hx,ho⟩
   obtain ⟨s,g5⟩:∃ s,ρ 5=s:=⟨_,rfl⟩
   rw [g5] at ho
   have hG:=h.mono hx
   have hbk:=hG.blk
   obtain ⟨lb,ib⟩:=hG.base (show q < bs.length by rw [hS.base];exact hq)
   obtain ⟨j,hj⟩:∃ j,j=bf bs q:=⟨_,rfl⟩
   rw [← hj] at lb
   have w2:IntKind.i64.wrap (2 * (n:Int))=2 * (n:Int):=a0T (by omega) (by omega)
   simp [n0Y,gq,g27,ib,lb,l0C,g0,hbk]
   have hsucc:∀ k,ptq n (bf bs) Fv (q + 1) k=ptq n (bf bs) Fv q k + if j=k then Fv q else if j=n + k then -Fv q else 0:=fun k=>by
    show ptq n (bf bs) Fv q k + _=_;rw [hj]
   by_cases hjn:j < n
   ·simp [hjn,show ¬ n≤j by omega]
    have hjl:j < ((List.range n).map fun k=>a0f (Rat.divInt (ptq n (bf bs) Fv q k) D)).length:=by simpa using hjn
    have ia:=ho.sls.ia (k:=.i64) hjl
    obtain ⟨wx,ex,kx⟩:=b0n.load ho.sls hjl
    simp only [c1J,d1u] at kx
    refine a0F ?_
    simp [l0D,g0,g1,g5,gq,ia,ex]
    refine (hg _ q G _ hx (by have:=hx.1;omega) hq).mono ?_
    rintro wf G2 ⟨kf,hx2⟩
    have hG2:=hG.mono hx2
    replace kx:=kx.mono hx2
    replace ho:=ho.mono a0H hx2
    replace hx:=hx.trans hx2
    simp [g0]
    refine (s0a hG2 (by have:=hx.1;omega) kf (by have:=hF q hq;omega) (by omega) hD0).mono ?_
    rintro wv G3 ⟨kv,hx2⟩
    replace kx:=kx.mono hx2
    replace ho:=ho.mono a0H hx2
    replace hx:=hx.trans hx2
    simp
    have hlp:=n0k (n:=n) (base:=bf bs) (Fv:=Fv) (K:=59999999) (k:=j) (q:=q) (fun i hi=>hF i (by omega))
    have hs1:=b0K (ptq n (bf bs) Fv q j) D
    have hs2:=b0K (Fv q) D
    have hfq:=hF q hq
    refine (b0D kx kv hx.1 (by rw [a0A];omega) (by rw [a0A];omega)).mono ?_
    rintro _ G4 ⟨⟨s1,s2,rfl,k1,k2⟩,hx2⟩
    replace ho:=ho.mono a0H hx2
    replace hx:=hx.trans hx2
    rw [a0s,a0s,z0Y hD0] at k1 k2 ⊢
    have hsj:=hsucc j
    rw [b1W rfl] at hsj
    rw [← hsj] at k1 k2 ⊢
    obtain ⟨G5,hst,ho2,hxb⟩:=b0a.store (x:=a0f (Rat.divInt (ptq n (bf bs) Fv (q + 1) j) D)) (w:=.agg #[.bool (a0f (Rat.divInt (ptq n (bf bs) Fv (q + 1) j) D)).1.1,s1,.bool (a0f (Rat.divInt (ptq n (bf bs) Fv (q + 1) j) D)).2.1,s2]) ho hjl (by decide) rfl (by simp [k1.plain,k2.plain]) (fun G' _ hl=>⟨s1,s2,rfl,k1.lx hl,k2.lx hl⟩) (by decide) (fun G' cs y _ hl h=>b0O.lx h hl)
    simp [g5,ia,hst]
    have hset:=d0J (n:=n) (j:=j) (f:=fun k=>a0f (Rat.divInt (ptq n (bf bs) Fv q k) D)) (g:=fun k=>a0f (Rat.divInt (ptq n (bf bs) Fv (q + 1) k) D)) (fun k _ hk=>by
     rw [hsucc k,b1T (fun h=>hk h.symm),b1T (by omega),d1r])
    rw [hset] at ho2
    exact Rnd.mk (by simp [gq]) (by simp [gm]) ⟨by simp [g0],by simp [g1],by simp [g27],k0m hx hxb (fun b hb=>(ho.ge hb).1),by simpa [g5] using ho2⟩
   ·have hge:n≤j:=by omega
    simp [hjn,hge,l0E,g0,hbk,w2]
    by_cases hjt:j < 2 * n
    ·simp [show (j:Int) < 2 * (n:Int) by omega,show ¬ 2 * (n:Int)≤(j:Int) by omega]
     have hjl:j - n < ((List.range n).map fun k=>a0f (Rat.divInt (ptq n (bf bs) Fv q k) D)).length:=by simp;omega
     have ia:=ho.sls.ia (k:=.i64) hjl
     have wj:IntKind.i64.wrap ((j:Int) - (n:Int))=((j - n:Nat):Int):=by
      rw [a0T (by omega) (by omega)];omega
     obtain ⟨wx,ex,kx⟩:=b0n.load ho.sls hjl
     simp only [c1J,d1u] at kx
     refine a0F ?_
     simp [l0F,g0,g1,g5,gq,hbk,wj,ia,ex]
     refine (hg _ q G _ hx (by have:=hx.1;omega) hq).mono ?_
     rintro wf G2 ⟨kf,hx2⟩
     have hG2:=hG.mono hx2
     replace kx:=kx.mono hx2
     replace ho:=ho.mono a0H hx2
     replace hx:=hx.trans hx2
     simp [g0]
     refine (s0a hG2 (by have:=hx.1;omega) kf (by have:=hF q hq;omega) (by omega) hD0).mono ?_
     rintro wv G3 ⟨kv,hx2⟩
     replace kx:=kx.mono hx2
     replace ho:=ho.mono a0H hx2
     replace hx:=hx.trans hx2
     simp
     have hlp:=n0k (n:=n) (base:=bf bs) (Fv:=Fv) (K:=59999999) (k:=j - n) (q:=q) (fun i hi=>hF i (by omega))
     have hs1:=b0K (ptq n (bf bs) Fv q (j - n)) D
     have hs2:=b0K (Fv q) D
     have hfq:=hF q hq
     refine (j0T kx kv (by have:=hx.1;omega) (by rw [a0A];omega) (by rw [a0A];omega)).mono ?_
     rintro _ G4 ⟨⟨s1,s2,rfl,k1,k2⟩,hx2⟩
     replace ho:=ho.mono a0H hx2
     replace hx:=hx.trans hx2
     rw [a0s,a0s,K0d hD0] at k1 k2 ⊢
     have hsj:=hsucc (j - n)
     rw [b1T (by omega),b1W (by omega),← e1f] at hsj
     rw [← hsj] at k1 k2 ⊢
     obtain ⟨G5,hst,ho2,hxb⟩:=b0a.store (x:=a0f (Rat.divInt (ptq n (bf bs) Fv (q + 1) (j - n)) D)) (w:=.agg #[.bool (a0f (Rat.divInt (ptq n (bf bs) Fv (q + 1) (j - n)) D)).1.1,s1,.bool (a0f (Rat.divInt (ptq n (bf bs) Fv (q + 1) (j - n)) D)).2.1,s2]) ho hjl (by decide) rfl (by simp [k1.plain,k2.plain]) (fun G' _ hl=>⟨s1,s2,rfl,k1.lx hl,k2.lx hl⟩) (by decide) (fun G' cs y _ hl h=>b0O.lx h hl)
     simp [g5,ia,hst]
     have hset:=d0J (n:=n) (j:=j - n) (f:=fun k=>a0f (Rat.divInt (ptq n (bf bs) Fv q k) D)) (g:=fun k=>a0f (Rat.divInt (ptq n (bf bs) Fv (q + 1) k) D)) (fun k _ hk=>by
      rw [hsucc k,b1T (by omega),b1T (by omega),d1r])
     rw [hset] at ho2
     exact Rnd.mk (by simp [gq]) (by simp [gm]) ⟨by simp [g0],by simp [g1],by simp [g27],k0m hx hxb (fun b hb=>(ho.ge hb).1),by simpa [g5] using ho2⟩
    ·simp [show 2 * (n:Int)≤(j:Int) by omega,show ¬ (j:Int) < 2 * (n:Int) by omega]
     have hset:((List.range n).map fun k=>a0f (Rat.divInt (ptq n (bf bs) Fv q k) D))=(List.range n).map fun k=>a0f (Rat.divInt (ptq n (bf bs) Fv (q + 1) k) D):=by
      apply d1o
      intro k hk
      have hk:k < n:=by simpa using hk
      rw [hsucc k,b1T (by omega),b1T (by omega),d1r]
     rw [hset] at ho
     exact Rnd.mk (by simp [gq]) (by simp [gm]) ⟨by simp [g0],by simp [g1],by simp [g27],hx,by simpa [g5] using ho⟩
  ·rintro ρ G gk gn ⟨g0,g1,g27,hx,ho⟩
   simp [l0G]
   exact fun _=>ho
def i0l (L:List (List Int)) (g n:Nat) (D:Int) (bs:List Rat) (c:Rat) (i:Nat):Rat:=Rat.divInt (Tf L g (2 * n + i)) D * bs.getD i 0 / c
theorem n0d {f0 p n m g:Nat} {L:List (List Int)} {k D:Int} {bs:List Nat} {sR sD sB:Value} {vs:List Value} {q:ScT} {c:Rat} (h:e0q F f0 H p n m L D bs k sR sD sB vs) (hf:fl≤H.size) (hS:ShT n m L bs) (hq:SV H v q) (hql:q.bs.length=m) (hc:b0O H w (a0f c)) (hg:g < m + 2) (hlD:lz D < 16777216) (hD0:D ≠ 0) (hF:∀ i,i < m→lz (Tf L g (2 * n + i)) < 16777216) (hK:∀ x ∈ q.bs,szR x < 16777216) (hcs:szR c < 16777216) (hc0:c ≠ 0) (hm:m < 1048576) (hn:n < 1048576) :
  a0S env fl (k0o F) [.pointer (some ⟨p,0,none⟩),.int .i64 (g:Int),v,w] H (fun r H'=>b0a PR H.size H' a0b 4 r ((List.range m).map fun i=>a0f (i0l L g n D q.bs c i))∧Ext H H') R:=by
 obtain ⟨sA,sB',sC,s1,s2,rfl,kA,kB,kC,k1,k2⟩:=hq
 obtain ⟨s3,s4,rfl,k3,k4⟩:=hc
 refine a0g H0j hf (h:=?_)
 intro ρ h0
 have c1:=k1.cells;have c2:=k2.cells;have c3:=k3.cells;have c4:=k4.cells
 simp [h0m,n0s,h0,kA.cells,kB.cells,kC.cells,c1,c2,c3,c4]
 generalize hN:Array.push (Array.push H _) _=G
 obtain ⟨hx,b0,b1⟩:=push2 hN
 clear hN
 have hbk:=(h.mono hx).blk
 simp [n0t,n0u,h0,hbk]
 refine c0I (n:=m) (fun i ρ G=>ρ 0=.pointer (some ⟨p,0,none⟩)∧ρ 1=.int .i64 (g:Int)∧ρ 6=.pointer (some ⟨H.size,0,none⟩)∧ρ 7=.pointer (some ⟨H.size + 1,0,none⟩)∧Ext H G∧a0e.blk G H.size=.row false a0G [.int .i64 q.n,sA,sB',sC,.bool (a0f q.cb).1.1,s1,.bool (a0f q.cb).2.1,s2]∧a0e.blk G (H.size + 1)=.row false a0b [.bool (a0f c).1.1,s3,.bool (a0f c).2.1,s4]∧(∀ b,slB (ρ 9)=some b→H.size + 2≤b)∧b0a PR H.size G a0b 4 (ρ 9) ((List.range i).map fun i=>a0f (i0l L g n D q.bs c i))) rfl rfl (by decide) (by omega) (by simp) (by simp) ?_ ?_ ?_ ?_
 ·exact ⟨by simp [h0],by simp [h0],by simp,by simp,hx,b0,b1,by simp [slB],by simpa using b0a.nil⟩
 ·intro i ρ ρ' G h hI;simpa [h] using hI
 ·clear h0 ρ hx b0 b1 hbk
  rintro i ρ G hi gi gn ⟨g0,g1,g6,g7,hx,b0,b1,hnb,ho⟩
  obtain ⟨s,g9⟩:∃ s,ρ 9=s:=⟨_,rfl⟩
  rw [g9] at ho hnb
  have hG:=h.mono hx
  have hbk:=hG.blk
  have hLl:=hS.len
  have hgL:g < L.length:=by omega
  have hcL:2 * n + i < L[g].length:=by rw [hS.row g hgL];omega
  have eh:=hG.head hgL
  have ehi:=hG.hia hgL
  obtain ⟨wt,et,kt⟩:=hG.num hgL hcL
  have ej:=hG.ia hgL hcL
  obtain ⟨jj,hjj⟩:∃ jj:Nat,jj=2 * n + i:=⟨_,rfl⟩
  rw [← hjj] at et ej
  obtain ⟨vg,hvg⟩:∃ x,x=vs[g]'(by have:=hG.rows.len;omega):=⟨_,rfl⟩
  rw [← hvg] at eh et ej
  have w2:IntKind.i64.wrap (2 * (n:Int))=2 * (n:Int):=a0T (by omega) (by omega)
  have w3:IntKind.i64.wrap (2 * (n:Int) + (i:Int))=(jj:Int):=by rw [a0T (by omega) (by omega)];omega
  have hib:i < (q.bs.map a0f).length:=by simp;omega
  have kB':=kB.mono a0H hx
  have ib:=kB'.ia (k:=.i64) hib
  simp [n0v,gi]
  refine a0F ?_
  simp [n0w,g0,g1,g6,hbk,eh,ehi,w2,w3,ej,et]
  refine (s0a hG (by have:=hx.1;omega) kt (by have:=hF i hi;omega) (by omega) hD0).mono ?_
  rintro wv G2 ⟨kv,hx2⟩
  replace ho:=ho.mono a0H hx2
  replace b0:=hx2.blk b0
  replace b1:=hx2.blk b1
  replace hx:=hx.trans hx2
  have kB2:=kB.mono a0H hx
  have ib:=kB2.ia (k:=.i64) hib
  obtain ⟨wx,ex,kx⟩:=b0n.load kB2 hib
  rw [c1J] at kx
  have hbx:szR q.bs[i] < 16777216:=hK _ (c1a _)
  have hfi:=hF i hi
  have hsd:=b0K (Tf L g (2 * n + i)) D
  simp [g6,b0,ib,ex]
  refine (e0V kv kx (by have:=hx.1;omega) (by rw [a0A];omega) (by rw [a0A];omega)).mono ?_
  rintro wm G3 ⟨km,hx2⟩
  replace ho:=ho.mono a0H hx2
  replace b1:=hx2.blk b1
  replace b0:=hx2.blk b0
  replace hx:=hx.trans hx2
  rw [a0s,a0s] at km
  have hsm:=f0S (Rat.divInt (Tf L g (2 * n + i)) D) q.bs[i]
  have kc:b0O G3 (.agg #[.bool (a0f c).1.1,s3,.bool (a0f c).2.1,s4]) (a0f c):=⟨s3,s4,rfl,k3.mono hx,k4.mono hx⟩
  simp [g7,b1]
  refine (r0F km kc (by have:=hx.1;omega) (by rw [a0A];omega) (by rw [a0A];omega) (by rw [a0s];exact hc0)).mono ?_
  rintro _ G4 ⟨⟨wd,rfl,s5,s6,rfl,k5,k6⟩,hx2⟩
  replace ho:=ho.mono a0H hx2
  replace b0:=hx2.blk b0
  replace b1:=hx2.blk b1
  replace hx:=hx.trans hx2
  rw [a0s,a0s] at k5 k6 ⊢
  have hdual:Rat.divInt (Tf L g (2 * n + i)) D * q.bs[i] / c=i0l L g n D q.bs c i:=by
   unfold i0l;rw [b1Q,b1V (by omega)];rfl
  rw [hdual] at k5 k6 ⊢
  have hfl:=hx.1
  have c5:=k5.cells;have c6:=k6.cells
  simp [hfl,c5,c6,k5.plain,k6.plain]
  generalize hN:Array.setIfInBounds (Array.push _ _) _ _=G5
  obtain ⟨hx2,b5⟩:=new1 hN
  clear hN
  replace ho:=ho.mono a0H hx2
  replace b0:=hx2.blk b0
  replace b1:=hx2.blk b1
  replace k5:=k5.mono hx2
  replace k6:=k6.mono hx2
  replace hx:=hx.trans hx2
  obtain ⟨s',G6,h1,h2,h3,h4⟩:=b0a.app (P:=PR) (sz:=4) (e:=a0b) (by decide) (fun G' cs x _ hl h=>b0O.lx h hl) ho (e2:=a0b) (c:=1) (bytes:=64) (new:=[.bool (a0f (i0l L g n D q.bs c i)).1.1,s5,.bool (a0f (i0l L g n D q.bs c i)).2.1,s6]) (x:=a0f (i0l L g n D q.bs c i)) ⟨s5,s6,rfl,k5,k6⟩ rfl (by simp [k5.plain,k6.plain]) (by simp;omega) (by omega) (by omega) hx.1
  obtain ⟨m1,c1',hfr⟩:=e0d (by decide) h1
  simp [n0x,g9,b5,c5,c6,h1]
  exact Rnd.mk (by simp [gi]) (by simp [gn]) ⟨by simp [g0],by simp [g1],by simp [g6],by simp [g7],h4 _ (b1S _) hx,(h3.2 _ (a0j b0) (fun h=>by have:=hnb _ h;omega)).trans b0,(h3.2 _ (a0j b1) (fun h=>by have:=hnb _ h;omega)).trans b1,by
   have hsz:=hx2.1
   have hsz2:=hx.1
   rw [hfr];simp [slB];have:=a0j b1;have:=a0j b5;omega,b0a.cast (v':=s') (by simp) (by rw [List.range_succ,e1k];exact h2)⟩
 ·rintro ρ G gi gn ⟨g0,g1,g6,g7,hx,b0,b1,hnb,ho⟩
  obtain ⟨s,g9⟩:∃ s,ρ 9=s:=⟨_,rfl⟩
  rw [g9] at ho hnb
  simp [n0y,g9]
  exact fun _=>ho
theorem p0U {f0 p P n m i:Nat} {L:List (List Int)} {k D:Int} {bs:List Nat} {sR sD sB:Value} {vs:List Value} (h:e0q F f0 H p n m L D bs k sR sD sB vs) (hf:fl≤H.size) (hS:ShT n m L bs) (hP:H.blk P=.row false (F.p a0w a0t) [.pointer (some ⟨p,0,none⟩)]) (hi:i < m + 2) :
  a0S env fl (j0a F) [.int .i64 (i:Int),.pointer (some ⟨P,0,none⟩)] H (fun r H'=>rV F H' r (Tf L i (2 * n + m))∧Ext H H') R:=by
 refine a0g w0z hf (h:=?_)
 intro ρ h0
 have hiL:i < L.length:=by rw [hS.len];exact hi
 have hcL:2 * n + m < L[i].length:=by rw [hS.row i hiL];omega
 obtain ⟨jj,hjj⟩:∃ jj:Nat,jj=2 * n + m:=⟨_,rfl⟩
 rw [← hjj] at hcL ⊢
 have e2:2 * (n:Int) + m=(jj:Int):=by omega
 cases F
 ·simp [d0Y,g0M,h0]
  obtain ⟨vi,wt,-,eh,ehi,ej,en,fw⟩:=h.cell hiL hcL
  simp only [RK.w,RK.b,RK.p_few] at ej en hP
  have hbk:=h.blk
  refine a0F ?_
  simp [g0N,h0,hP,hbk,eh,ehi,e2,ej,en]
  exact fw
 ·simp [d0Y,g0M,h0]
  generalize hN:Array.push H _=G
  have hx:Ext H G:=by rw [← hN];exact (Ext.refl H).push
  replace h:=h.mono hx
  replace hP:=hx.blk hP
  obtain ⟨vi,wt,-,eh,ehi,ej,en,fw⟩:=h.cell hiL hcL
  simp only [RK.w,RK.b,RK.p_all] at ej en hP
  have hbk:=h.blk
  refine a0F ?_
  obtain ⟨sx,rfl,kx⟩:=fw
  simp [g0N,h0,hP,hbk,eh,ehi,e2,ej,en]
  subst hN
  simp [hf,kx.cells,kx.plain]
  generalize hN:Array.setIfInBounds (Array.push _ _) _ _=G5
  obtain ⟨hx5,b5⟩:=new1 hN
  exact ⟨sx,rfl,kx.setS hN a0v (by decide)⟩
theorem x0x {f0 p P P2 n m i j:Nat} {L:List (List Int)} {k D:Int} {bs:List Nat} {sR sD sB:Value} {vs:List Value} (h:e0q F f0 H p n m L D bs k sR sD sB vs) (hf:fl≤H.size) (hS:ShT n m L bs) (hz:∀ r c,lz (Tf L r c) < 67108864) (hP:H.blk P=.row false F.Q [.pointer (some ⟨p,0,none⟩)]) (hP2:H.blk P2=.row false e0l [.int .i64 (j:Int)]) (hi:i < m + 2) (hj:j < 2 * n + m + 1) :
  a0S env fl (s0p F) [.int .i64 (i:Int),.pointer (some ⟨P,0,none⟩),.pointer (some ⟨P2,0,none⟩)] H (fun r H'=>rV F H' r (-Tf L i j)∧Ext H H') R:=by
 refine a0g P0I hf (h:=?_)
 intro ρ h0
 have hiL:i < L.length:=by rw [hS.len];exact hi
 have hcL:j < L[i].length:=by rw [hS.row i hiL];omega
 cases F
 ·simp [h0V,l0H,h0]
  obtain ⟨vi,wt,-,eh,ehi,ej,en,fw⟩:=h.cell hiL hcL
  simp only [RK.w,RK.b,RK.p_few] at ej en
  have hP':H.blk P=.row false a0w [.pointer (some ⟨p,0,none⟩)]:=hP
  have hbk:=h.blk
  refine a0F ?_
  simp [l0I,h0,hP',hP2,hbk,eh,ehi,ej,en]
  refine (show a0S env _ k0W [eV,wt] H _ _ from w0p (F:=.few) fw (b1S _) (hz _ _)).mono ?_
  rintro wn G2 ⟨fn,hx2⟩
  simp
  exact fun _=>fn
 ·simp [h0V,l0H,h0]
  generalize hN:Array.push H _=G
  obtain ⟨hx,b4⟩:=h0Z hN
  clear hN
  replace h:=h.mono hx
  have hP':a0e.blk G P=.row false a0t [.pointer (some ⟨p,0,none⟩)]:=hx.blk hP
  replace hP2:=hx.blk hP2
  obtain ⟨vi,wt,-,eh,ehi,ej,en,fw⟩:=h.cell hiL hcL
  simp only [RK.w,RK.b,RK.p_all] at ej en
  have hbk:=h.blk
  refine a0F ?_
  simp [l0I,h0,hP',hP2,hbk,eh,ehi,ej,en]
  refine (show a0S env _ k0V [eV,wt] G _ _ from w0p (F:=.all) fw hx.1 (hz _ _)).mono ?_
  rintro wn G2 ⟨⟨sx,rfl,kx⟩,hx2⟩
  replace b4:=hx2.blk b4
  have hsz:=(hx.trans hx2).1
  simp [b4,hsz,kx.cells,kx.plain]
  generalize hS':Array.setIfInBounds G2 _ _=G5
  rw [a0M hS' b4]
  simp
  exact fun _=>⟨sx,rfl,kx.setS hS' b4 (by decide)⟩
def r0G (n m:Nat) (L:List (List Int)) (bs:List Nat) (D:Int) (j k:Nat):Rat:=Rat.divInt (l0V n m (Tf L) (bf bs) D j k) D
theorem p0M {n m:Nat} {L:List (List Int)} {bs:List Nat} {D:Int} {j k:Nat} (h1:j ≠ k) (h2:j ≠ n + k):r0G n m L bs D j k=Rat.divInt (ptq n (bf bs) (fun i=>-Tf L i j) m k) D:=by
 unfold r0G l0V
 rw [b1T h1,b1T h2,d1r];rfl
theorem R0l {n m:Nat} {L:List (List Int)} {bs:List Nat} {D:Int} {j:Nat} (hD:D ≠ 0):r0G n m L bs D j j=Rat.divInt (ptq n (bf bs) (fun i=>-Tf L i j) m j) D + 1:=by
 unfold r0G l0V
 rw [b1W rfl,← z0Y hD,Rat.divInt_self' hD];rfl
theorem I0d {n m:Nat} {L:List (List Int)} {bs:List Nat} {D:Int} {j:Nat} (hD:D ≠ 0) (hj:n≤j) (hn:0 < n):r0G n m L bs D j (j - n)=Rat.divInt (ptq n (bf bs) (fun i=>-Tf L i j) m (j - n)) D - 1:=by
 unfold r0G l0V
 rw [b1T (by omega),b1W (by omega),Int.add_neg_eq_sub,← K0d hD,Rat.divInt_self' hD];rfl
theorem I0e {p n m j:Nat} {f0:Nat} {L:List (List Int)} {k D:Int} {bs:List Nat} {sR sD sB:Value} {vs:List Value} (h:e0q F f0 H p n m L D bs k sR sD sB vs) (hf:fl≤H.size) (hS:ShT n m L bs) (hz:∀ r c,lz (Tf L r c) < 50000000) (hlD:lz D < 50000000) (hD0:D ≠ 0) (hj:j < 2 * n + m) (hm:m < 1048576) (hn:n < 1048576) :
  a0S env fl (y0C F) [.pointer (some ⟨p,0,none⟩),.int .i64 (j:Int)] H (fun r H'=>b0n H' r ((List.range n).map fun k=>a0f (r0G n m L bs D j k))∧Ext H H') R:=by
 refine a0g T0m hf (h:=?_)
 intro ρ h0
 simp [o0d,v0c,h0]
 generalize hG:Array.push (Array.push H _) _=G
 obtain ⟨hx,b2,b3⟩:=push2 hG
 clear hG
 have h':=h.mono hx
 have hx0:=hx.1
 have hFz:∀ i,i < m→lz (-Tf L i j)≤59999999:=fun i hi=>by rw [e0Q];have:=hz i j;omega
 simp [v0d,b2]
 refine (n0q (Fv:=fun i=>-Tf L i j) h' hx.1 hS (by omega) hD0 hFz hm hn (fun fl i G' R' hxx hfl hi=>by
   simp only [d1N,d1v]
   exact x0x (h'.mono hxx) hfl hS (fun r c=>by have:=hz r c;omega) (hxx.blk b2) (hxx.blk b3) (by omega) (by omega))).mono ?_
 rintro wX G2 ⟨oX,hx2⟩
 replace b2:=hx2.blk b2
 replace b3:=hx2.blk b3
 have h2:=h'.mono hx2
 replace hx:=hx.trans hx2
 have hbk:=h2.blk
 have e3:∀ k,szR (Rat.divInt (ptq n (bf bs) (fun i=>-Tf L i j) m k) D) < 61048577:=fun k=>by
  have h1:=b0K (ptq n (bf bs) (fun i=>-Tf L i j) m k) D
  have h2:=n0k (n:=n) (base:=bf bs) (Fv:=fun i=>-Tf L i j) (K:=60000000) (k:=k) (q:=m) (fun i hi=>by have:=hFz i hi;omega)
  omega
 have w2:IntKind.i64.wrap (2 * (n:Int))=2 * (n:Int):=a0T (by omega) (by omega)
 refine a0F ?_
 simp [v0e,b2,b3,hbk]
 by_cases hjn:j < n
 ·have hjl:j < ((List.range n).map fun k=>a0f (Rat.divInt (ptq n (bf bs) (fun i=>-Tf L i j) m k) D)).length:=by simpa using hjn
  have ij:=oX.sls.ia (k:=.i64) hjl
  obtain ⟨w1,l1,k1⟩:=b0n.load oX.sls hjl
  rw [c1J,d1u] at k1
  refine ⟨fun _=>?_,fun h=>c1j h (by omega)⟩
  refine a0F ?_
  simp [v0f,b3,ij,l1]
  refine (b0U (n:=1) (by have:=hx.1;omega) (by omega) (by omega)).mono ?_
  rintro w2' G3 ⟨k2,hx3⟩
  have h1e:((1:Int):Rat)=1:=rfl
  rw [h1e] at k2
  replace b3:=hx3.blk b3
  replace oX:=oX.mono a0H hx3
  replace hx:=hx.trans hx3
  simp
  refine (b0D (k1.mono hx3) k2 (by have:=hx.1;omega) (by rw [a0A];have:=e3 j;omega) (by rw [a0A,p0X];decide)).mono ?_
  rintro _ G4 ⟨⟨s1,s2,rfl,q1,q2⟩,hx4⟩
  rw [a0s,a0s,← R0l hD0] at q1 q2 ⊢
  replace b3:=hx4.blk b3
  replace oX:=oX.mono a0H hx4
  replace hx:=hx.trans hx4
  obtain ⟨G5,hst,ho2,hxb⟩:=b0a.store (x:=a0f (r0G n m L bs D j j)) (w:=.agg #[.bool (a0f (r0G n m L bs D j j)).1.1,s1,.bool (a0f (r0G n m L bs D j j)).2.1,s2]) (oX.low (fl':=H.size) (by omega)) hjl (by decide) rfl (by simp [q1.plain,q2.plain]) (fun G' _ hl=>⟨s1,s2,rfl,q1.lx hl,q2.lx hl⟩) (by decide) (fun G' cs y _ hl h=>b0O.lx h hl)
  have d1:=q1.cells;have d2:=q2.cells
  have hset:=d0J (n:=n) (j:=j) (f:=fun k=>a0f (Rat.divInt (ptq n (bf bs) (fun i=>-Tf L i j) m k) D)) (g:=fun k=>a0f (r0G n m L bs D j k)) (fun k hk hne=>by rw [p0M (fun h=>hne h.symm) (by omega)])
  rw [hset] at ho2
  simp [d1,d2,ij,hst,k0t,b3]
  exact fun _=>ho2.sls
 ·refine ⟨fun h=>c1j h hjn,fun _=>?_⟩
  refine a0F ?_
  simp [v0g,b2,b3,hbk,w2]
  by_cases hjt:j < 2 * n
  ·simp [show (j:Int) < 2 * (n:Int) by omega]
   refine ⟨?_,fun h=>c1j h (by omega)⟩
   have hjl:j - n < ((List.range n).map fun k=>a0f (Rat.divInt (ptq n (bf bs) (fun i=>-Tf L i j) m k) D)).length:=by simp;omega
   have ij:=oX.sls.ia (k:=.i64) hjl
   have wj:IntKind.i64.wrap ((j:Int) - (n:Int))=((j - n:Nat):Int):=by
    rw [a0T (by omega) (by omega)];omega
   obtain ⟨w1,l1,k1⟩:=b0n.load oX.sls hjl
   rw [c1J,d1u] at k1
   refine a0F ?_
   simp [v0h,b2,b3,hbk,wj,ij,l1]
   refine (b0U (n:=1) (by have:=hx.1;omega) (by omega) (by omega)).mono ?_
   rintro w2' G3 ⟨k2,hx3⟩
   have h1e:((1:Int):Rat)=1:=rfl
   rw [h1e] at k2
   replace b3:=hx3.blk b3
   replace oX:=oX.mono a0H hx3
   replace hx:=hx.trans hx3
   simp
   refine (j0T (k1.mono hx3) k2 (by have:=hx.1;omega) (by rw [a0A];have:=e3 (j - n);omega) (by rw [a0A,p0X];decide)).mono ?_
   rintro _ G4 ⟨⟨s1,s2,rfl,q1,q2⟩,hx4⟩
   rw [a0s,a0s,← I0d hD0 (by omega) (by omega)] at q1 q2 ⊢
   replace b3:=hx4.blk b3
   replace oX:=oX.mono a0H hx4
   replace hx:=hx.trans hx4
   obtain ⟨G5,hst,ho2,hxb⟩:=b0a.store (x:=a0f (r0G n m L bs D j (j - n))) (w:=.agg #[.bool (a0f (r0G n m L bs D j (j - n))).1.1,s1,.bool (a0f (r0G n m L bs D j (j - n))).2.1,s2]) (oX.low (fl':=H.size) (by omega)) hjl (by decide) rfl (by simp [q1.plain,q2.plain]) (fun G' _ hl=>⟨s1,s2,rfl,q1.lx hl,q2.lx hl⟩) (by decide) (fun G' cs y _ hl h=>b0O.lx h hl)
   have d1:=q1.cells;have d2:=q2.cells
   have hset:=d0J (n:=n) (j:=j - n) (f:=fun k=>a0f (Rat.divInt (ptq n (bf bs) (fun i=>-Tf L i j) m k) D)) (g:=fun k=>a0f (r0G n m L bs D j k)) (fun k hk hne=>by rw [p0M (by omega) (by omega)])
   rw [hset] at ho2
   simp [d1,d2,ij,hst,k0t,b3]
   exact fun _=>ho2.sls
  ·simp [show ¬ (j:Int) < 2 * (n:Int) by omega]
   have hset:((List.range n).map fun k=>a0f (Rat.divInt (ptq n (bf bs) (fun i=>-Tf L i j) m k) D))=(List.range n).map fun k=>a0f (r0G n m L bs D j k):=by
    apply d1o
    intro k hk
    have hk:k < n:=by simpa using hk
    rw [p0M (by omega) (by omega)]
   rw [hset] at oX
   simp [k0t]
   exact fun _ _=>oX.sls
end
section
open Go
set_option maxHeartbeats 4000000
variable {H G:a0e} {v:Value} {rows:List (List b0e)} {x:List b0e}
theorem l0q:∀ {rows:List (List b0e)} {d:List b0W} {r:List b0e},r ∈ d0h rows d→∃ q ∈ rows,r=h0t q
 | [],_,r,h=>by simp [d0h] at h
 | _ :: _,[],r,h=>by simp [d0h] at h
 | q :: rs,e :: es,r,h=>by
  simp only [d0h] at h
  split at h
  ·rcases d1m.1 h with rfl | h
   ·exact ⟨q,by simp,rfl⟩
   ·obtain ⟨q',h1,h2⟩:=l0q h;exact ⟨q',by simp [h1],h2⟩
  ·obtain ⟨q',h1,h2⟩:=l0q h;exact ⟨q',by simp [h1],h2⟩
theorem l0s:∀ {rows:List (List b0e)} {d:List b0W} {r:b0e},r ∈ d0i rows d→∃ e ∈ d,r=a0f (b0A e.2)
 | [],_,r,h=>by simp [d0i] at h
 | _ :: _,[],r,h=>by simp [d0i] at h
 | q :: rs,e :: es,r,h=>by
  simp only [d0i] at h
  split at h
  ·rcases d1m.1 h with rfl | h
   ·exact ⟨e,by simp,rfl⟩
   ·obtain ⟨q',h1,h2⟩:=l0s h;exact ⟨q',by simp [h1],h2⟩
  ·obtain ⟨q',h1,h2⟩:=l0s h;exact ⟨q',by simp [h1],h2⟩
theorem LPV.mono {p:LPt} (h:LPV H v p) (hx:Ext H G):LPV G v p:=by
 obtain ⟨a,b,c,h1,h2,h3,h4⟩:=h
 exact ⟨a,b,c,h1,h2.mono c0N hx,h3.mono a0H hx,h4.mono a0H hx⟩
end
section
open Go SX
set_option maxHeartbeats 4000000
variable {fl:Nat} {H G:a0e} {R:a0u} {v w u:Value} {F:RK}
structure m0V where
 kind:Int
 V:Rat
 X:List Rat
 Y:List Rat
 Ray:List Rat
def x0O (H:a0e) (v:Value) (a:m0V):Prop:=∃ s1 s2 sX sY sR,v=.agg #[.int .i64 a.kind,.bool (a0f a.V).1.1,s1,.bool (a0f a.V).2.1,s2,sX,sY,sR] ∧
 Lim H s1 (a0f a.V).1.2∧Lim H s2 (a0f a.V).2.2∧b0n H sX (a.X.map a0f)∧b0n H sY (a.Y.map a0f)∧b0n H sR (a.Ray.map a0f)
theorem x0O.mono {a:m0V} (h:x0O H v a) (hx:Ext H G):x0O G v a:=by
 obtain ⟨s1,s2,sX,sY,sR,h1,h2,h3,h4,h5,h6⟩:=h
 exact ⟨s1,s2,sX,sY,sR,h1,h2.mono hx,h3.mono hx,h4.mono a0H hx,h5.mono a0H hx,h6.mono a0H hx⟩
def P0h (q:ScT) (n m:Nat) (T:Nat→Nat→Int) (base:Nat→Nat) (D:Int):Prop:=Tab m (2 * n + m) (h0s n m (Tf q.A) (bbq q n) (ccq q)) (fun i=>bbq q n i < 0) T base D
def V0D (q:ScT) (n m:Nat) (a:m0V):Prop:=∃ T base D,P0h q n m T base D∧a.kind=2∧a.V=0∧a.X=[]∧a.Ray=[]∧(∀ c,c < 2 * n + m→0≤T m c)∧T m (2 * n + m) < 0∧a.Y=(List.range m).map fun i=>Rat.divInt (T m (2 * n + i)) D * q.bs.getD i 0 / 1
def V0C (q:ScT) (C:List b0e) (n m:Nat) (a:m0V):Prop:=∃ T base D,P0h q n m T base D∧a.kind=1∧a.Ray=[]∧(∀ i,i < m→¬ base i < 2 * n + m→T i (2 * n + m)=0)∧(∀ c,c < 2 * n + m→0≤T (m + 1) c) ∧
 a.X=((List.range n).map fun k=>Rat.divInt (ptq n base (fun i=>T i (2 * n + m)) m k) D)∧(a.Y=(List.range m).map fun i=>Rat.divInt (T (m + 1) (2 * n + i)) D * q.bs.getD i 0 / q.cb)∧a.V=q0e C (a.X.map a0f) n
def V0E (q:ScT) (n m:Nat) (a:m0V):Prop:=∃ T base D j,P0h q n m T base D∧a.kind=3∧a.V=0∧a.Y=[]∧(∀ i,i < m→¬ base i < 2 * n + m→T i (2 * n + m)=0∧T i j=0)∧j < 2 * n + m∧T (m + 1) j < 0∧(∀ i,i < m→T i j≤0) ∧
 a.X=((List.range n).map fun k=>Rat.divInt (ptq n base (fun i=>T i (2 * n + m)) m k) D)∧a.Ray=(List.range n).map fun k=>Rat.divInt (l0V n m T base D j k) D
def o0o (q:ScT) (C:List b0e) (n m:Nat) (r:Value) (H':a0e):Prop:=∃ ans a k,r=.tuple #[ans,.int .i64 k]∧x0O H' ans a∧(V0D q n m a ∨ V0C q C n m a ∨ V0E q n m a)
theorem SV.mono {q:ScT} (h:SV H v q) (hx:Ext H G):SV G v q:=by
 obtain ⟨sA,sB,sC,s1,s2,h1,h2,h3,h4,h5,h6⟩:=h
 exact ⟨sA,sB,sC,s1,s2,h1,h2.mono o0O hx,h3.mono a0H hx,h4.mono d0c hx,h5.mono hx,h6.mono hx⟩
theorem e0o.low {eN sz f0:Nat} {P:a0e→List Value→Int→Prop} {vs:List Value} {L:List (List Int)} (h:e0o eN sz P fl H vs L) (hf:f0≤fl):e0o eN sz P f0 H vs L :=
 ⟨h.len,fun i hi=>(h.own i hi).low hf,h.apart⟩
theorem Q0w {r1 r2 r3 r4:Blk} (h:Array.push (Array.push (Array.push (Array.push H r1) r2) r3) r4=G):Ext H G∧a0e.blk G H.size=r1∧a0e.blk G (H.size + 1)=r2∧a0e.blk G (H.size + 2)=r3∧a0e.blk G (H.size + 3)=r4:=by
 subst h
 refine ⟨(Ext.refl H).push.push.push.push,?_,?_,?_,?_⟩ <;> simp [a0x]
theorem Frm.at_ {e b:Nat} {ro:Bool} {cs:List Value} (h:Frm F.T F.E H G) (hb:a0e.blk H b=.row ro e cs) (h1:e ≠ a0d:=by decide) (h2:e ≠ a0c:=by decide) (h3:e ≠ d0r:=by decide) (h4:e ≠ a0a:=by decide) (h5:e ≠ e0l:=by decide):a0e.blk G b=.row ro e cs :=
 h.2 e (by cases F;exact h1;exact h2) (by cases F;exact h3;exact h4) h5 _ _ _ hb
theorem Frm.atQ {b:Nat} {ro:Bool} {cs:List Value} (h:Frm F.T F.E H G) (hb:a0e.blk H b=.row ro F.Q cs):a0e.blk G b=.row ro F.Q cs :=
 h.2 F.Q (by cases F <;> decide) (by cases F <;> decide) (by cases F <;> decide) _ _ _ hb
theorem U0n {q:ScT} {n m:Nat} {T:Nat→Nat→Int} {base:Nat→Nat} {D z:Int} (h:P0h q n m T base D) (he:(z = -1∧∀ c,c < 2 * n + m→0≤T m c) ∨ ∃ j:Nat,z=j∧j < 2 * n + m∧T m j < 0∧∀ i,i < m→T i j≤0):∀ c,c < 2 * n + m→0≤T m c:=by
 rcases he with ⟨_,h1⟩ | ⟨j,_,h1,h2,h3⟩
 ·exact h1
 ·have h4:=Tab.lack h (c:=j) (by omega)
  have h5:=g0R (f:=fun i=>-1 * (if base i < 2 * n + m then 0 else T i j)) (N:=m) (fun i hi=>by
   have:=h3 i hi
   split <;> omega)
  rw [e0G] at h5
  omega
theorem ShT.lz_all {n m Z:Nat} {L:List (List Int)} {bs:List Nat} (h:ShT n m L bs) (hB:∀ r c,r < m + 2→c≤2 * n + m→lz (Tf L r c)≤Z) (r c:Nat):lz (Tf L r c)≤Z:=by
 by_cases hr:r < m + 2
 ·by_cases hc:c≤2 * n + m
  ·exact hB r c hr hc
  ·have hrl:r < L.length:=by rw [h.len];exact hr
   unfold Tf
   rw [b1Q,b1Q,b1V hrl,c1u,c1d (by rw [h.row r hrl];omega)]
   show lz 0≤_;rw [c0x];omega
 ·unfold Tf
  rw [show L.getD r []=[] from by rw [b1Q,c1d (by rw [h.len];omega)];rfl]
  show lz 0≤_;rw [c0x];omega
theorem w0O {S:Nat} {X:List Rat} (h:∀ x ∈ X,szR x≤S):Few S (X.map a0f):=by
 intro x hx
 obtain ⟨y,hy,rfl⟩:=c1M.1 hx
 exact ⟨by rw [a0A];exact h y hy,b0Z _,b0Z _⟩
theorem Few.mono' {S S':Nat} {X:List b0e} (h:Few S X) (hS:S≤S'):Few S' X:=fun x hx=>⟨c1b (h x hx).1 hS,(h x hx).2⟩
theorem o0B {H0 G':a0e} {f0:Nat} (hx:Ext H0 G) (hk:f0z f0 G G') (hf:H0.size≤f0):Ext H0 G' :=
 ⟨c1b hx.1 hk.size,fun b hb=>(hk.low b (by omega)).trans (hx.2 b hb)⟩
theorem e0q.floor {p n m f0:Nat} {L:List (List Int)} {k D:Int} {bs:List Nat} {sR sD sB:Value} {vs:List Value} (h:e0q F fl H p n m L D bs k sR sD sB vs) (hf:f0≤fl):e0q F f0 H p n m L D bs k sR sD sB vs :=
 ⟨h.blk,c1b hf h.low,h.d,h.heads.low hf,h.rows.low hf,h.basis.low hf⟩
theorem t0U {q:ScT} {p:LPt} {n m Z S:Nat} (hp:LPV H u p) (h:SV H v q) (hn0:q.n=n) (hAl:q.A.length=m) (hCl:q.C.length=n) (hpC:p.C.length=n) (hpF:Few S p.C) (hql:q.bs.length=m) (hrow:∀ r ∈ q.A,r.length=n + 1) (hf:fl≤H.size)
  (hzA:∀ r c,lz (Tf q.A r c) < 67108864) (hzC:∀ c,lz (ccq q c) < 67108864) (hzL:∀ i c,i≤m→c≤2 * n + m→lz (r0V q n m i c) < 67108864)
  (hB:∀ T base D,P0h q n m T base D→(∀ r c,r < m + 2→c≤2 * n + m→lz (T r c)≤Z)∧lz D≤Z) (hZ:(n + 1) * (2 * (Z + m + S) + 10) < 16777216) (hK:∀ x ∈ q.bs,szR x < 16777216) (hcs:szR q.cb < 16777216) (hc0:q.cb ≠ 0)
  (hm:m < 1048576) (hn:n < 1048576) (hR:p0o F R) :
  a0S env fl (k0T F) [eV,u,v] H (fun r H'=>o0o q p.C n m r H'∧Ext H H') R:=by
 have hp0:=hp
 have h00:=h
 obtain ⟨sA0,sB0,sC0,rfl,kA,kB,kC⟩:=hp
 obtain ⟨sA,sBy,sC,s1,s2,rfl,qA,qB,qC,q1,q2⟩:=h
 refine a0g y0y hf (h:=?_)
 intro ρ h0
 have hZ1:2 * (Z + m + S) + 10 < 16777216:=by
  have:1 * (2 * (Z + m + S) + 10)≤(n + 1) * (2 * (Z + m + S) + 10):=b1Z _ (by omega)
  omega
 simp [f0w,l0J,h0,kA.cells,kB.cells,kC.cells,qA.cells,qB.cells,qC.cells,q1.cells,q2.cells]
 generalize hG:Array.push (Array.push (Array.push (Array.push H _) _) _) _=G
 obtain ⟨hx,b0,b1,b2,b3⟩:=Q0w hG
 clear hG
 have hsv:=h00.mono hx
 simp [l0K,b0,b2]
 refine a0S.mono (x0F hsv hn0 hAl hCl hrow hx.1 hzA hzC hzL hm hn hR) ?_
 rintro _ G2 ⟨⟨p',L,bs,sR,sD,sB,vs,rfl,hT,hS,hTf,hbs⟩,hx2⟩
 replace hT:=hT.floor hx.1
 have hxG:=hx.trans hx2
 have hsz:=hxG.1
 simp [hsz]
 generalize hN:Array.setIfInBounds (Array.push _ _) _ _=G3
 obtain ⟨hx3,b5⟩:=new1 hN
 clear hN
 replace hx2:=hx2.trans hx3
 replace b1:=hx2.blk b1
 replace b2:=hx2.blk b2
 replace b3:=hx2.blk b3
 replace hT:=hT.mono hx3
 replace hx:=hx.trans hx2
 clear hx2 hx3 hxG hsz hsv b0
 obtain ⟨P8,hP8⟩:∃ x,x=G2.size:=⟨_,rfl⟩
 rw [← hP8] at b5 ⊢
 clear hP8
 have hbk:=hT.blk
 have hTab:P0h q n m (Tf L) (bf bs) 1:=y0Y.congr hTf hbs rfl
 have hBd:Bnd m (2 * n + m) (h0s n m (Tf q.A) (bbq q n) (ccq q)) (fun i=>bbq q n i < 0):=fun T base D hT=>by
  obtain ⟨h1,h2⟩:=hB T base D hT
  exact ⟨fun r c hr hc=>by have:=h1 r c hr hc;omega,by omega⟩
 have w1:IntKind.i64.wrap ((m:Int) + 1)=((m + 1:Nat):Int):=by rw [a0T (by omega) (by omega)];omega
 obtain ⟨m1,hm1⟩:∃ x:Nat,x=m + 1:=⟨_,rfl⟩
 rw [← hm1] at w1
 refine a0F ?_
 simp [l0L,b5,hbk,w1]
 simp [l0M,b5]
 refine a0S.mono (w0a hT hx.1 hS hTab hBd (.inl rfl) hm hn hR) ?_
 rintro _ G4 ⟨⟨z1,rfl,hQ1⟩,hK1⟩
 clear hTf hbs hbk hTab hS hT
 obtain ⟨L,D,bs,k1,sD,hT,hS,hTab,-,hFr,hend⟩:=hQ1
 replace hx:=o0B hx hK1 (b1S _)
 replace b1:=hFr.at_ b1
 replace b2:=hFr.at_ b2
 replace b3:=hFr.at_ b3
 replace b5:=hFr.atQ b5
 clear hFr hK1
 have hbk:=hT.blk
 have hmL:m < L.length:=by rw [hS.len];omega
 have hcL:2 * n + m < L[m].length:=by rw [hS.row m hmL];omega
 have eh:=hT.head hmL
 have ehi:=hT.hia hmL
 obtain ⟨wt,en,fw⟩:=hT.num hmL hcL
 have ej:=hT.ia hmL hcL
 obtain ⟨jj,hjj⟩:∃ jj:Nat,jj=2 * n + m:=⟨_,rfl⟩
 rw [← hjj] at en ej fw hend
 obtain ⟨vi,hvi⟩:∃ x,x=vs[m]'(by have:=hT.rows.len;omega):=⟨_,rfl⟩
 rw [← hvi] at eh en ej
 have e2:2 * (n:Int) + m=(jj:Int):=by omega
 obtain ⟨hBz,hBd1⟩:=hB _ _ _ hTab
 have hz:=hBz m jj (by omega) (by omega)
 simp
 refine a0F ?_
 simp [l0N,b5,hbk,eh,ehi,e2,ej,en]
 refine a0S.mono (q0k fw hx.1 (by omega)) ?_
 rintro _ G5 ⟨rfl,hx5⟩
 replace b1:=hx5.blk b1
 replace b2:=hx5.blk b2
 replace b3:=hx5.blk b3
 replace b5:=hx5.blk b5
 replace hT:=hT.mono hx5
 replace hx:=hx.trans hx5
 clear hx5 en eh hbk
 by_cases hneg:Tf L m jj < 0
 ·have hcz:c0V (Tf L m jj) 0 = -1:=by unfold c0V;rw [b1W hneg]
  simp [hcz]
  refine c0w ?_
  simp [l0O]
  refine (b0U (n:=0) (by have:=hx.1;omega) (by omega) (by omega)).mono ?_
  rintro _ G6 ⟨⟨y1,y2,rfl,ky1,ky2⟩,hx6⟩
  have hz0:((0:Int):Rat)=0:=rfl
  rw [hz0] at ky1 ky2 ⊢
  replace b1:=hx6.blk b1
  replace b2:=hx6.blk b2
  replace b3:=hx6.blk b3
  replace b5:=hx6.blk b5
  replace hT:=hT.mono hx6
  replace hx:=hx.trans hx6
  clear hx6
  simp [b2,b5]
  refine (b0U (n:=1) (by have:=hx.1;omega) (by omega) (by omega)).mono ?_
  rintro w7 G7 ⟨kw7,hx7⟩
  have hz1:((1:Int):Rat)=1:=rfl
  rw [hz1] at kw7
  replace b1:=hx7.blk b1
  replace b2:=hx7.blk b2
  replace b3:=hx7.blk b3
  replace b5:=hx7.blk b5
  replace ky1:=ky1.mono hx7
  replace ky2:=ky2.mono hx7
  replace hT:=hT.mono hx7
  replace hx:=hx.trans hx7
  clear hx7
  simp
  refine (n0d (q:=q) hT (by have:=hx.1;omega) hS (h00.mono hx) hql kw7 (g:=m) (by omega) (by omega) (by have:=hTab.pos;omega) (fun i hi=>by have:=hBz m (2 * n + i) (by omega) (by omega);omega) hK (by rw [p0X];omega) (by decide) hm hn).mono ?_
  rintro wd G8 ⟨kd,hx8⟩
  replace b1:=hx8.blk b1
  replace b2:=hx8.blk b2
  replace b3:=hx8.blk b3
  replace b5:=hx8.blk b5
  replace ky1:=ky1.mono hx8
  replace ky2:=ky2.mono hx8
  replace hT:=hT.mono hx8
  replace hx:=hx.trans hx8
  clear hx8
  have hbk:=hT.blk
  have hsz:=hx.1
  have hdc:=kd.cells
  simp [b5,hbk,hdc]
  have c1:=ky1.cells;have c2:=ky2.cells
  have hP1:P8 ≠ H.size + 3:=fun h=>by rw [h,b3] at b5;simp at b5
  have hP2:p' ≠ H.size + 3:=fun h=>by rw [h,b3] at hbk;have:=(Blk.row.inj hbk).2.1;cases F <;> exact c1j this (by decide)
  simp [b3,hsz,ky1.plain,ky2.plain,c1,c2,hdc,hP1,hP2]
  generalize hS':Array.setIfInBounds G8 _ _=G9
  have hl1:LxT a0b G8 G9:=a0X hS' b3 (by decide)
  have hl2:Lx G8 G9:=fun b ro cs h=>a0X (e:=a0l) hS' b3 (by decide) b ro cs h
  rw [a0M hS' b3]
  simp
  refine fun _=>⟨_,⟨2,0,[],(List.range m).map fun i=>i0l L m n D q.bs 1 i,[]⟩,k1,rfl,⟨y1,y2,_,_,_,rfl,ky1.setS hS' b3 (by decide),ky2.setS hS' b3 (by decide),Sls.nil,?_,Sls.nil⟩,.inl ⟨Tf L,bf bs,D,hTab,rfl,rfl,rfl,rfl,?_,?_,rfl⟩⟩
  ·rw [List.map_map]
   exact b0n.lx2 kd.sls hl1 hl2
  ·exact U0n hTab (by rw [← hjj];exact hend)
  ·rw [← hjj];exact hneg
 ·have hcz:¬ c0V (Tf L m jj) 0 < 0:=by unfold c0V;rw [b1T hneg];split <;> omega
  simp [hcz]
  have h00r:∀ r,r < m→¬ bf bs r < 2 * n + m→Tf L r (2 * n + m)=0:=hTab.full (by rw [← hjj];omega)
  simp [l0P,b5]
  refine a0S.mono (H0G hT hx.1 hS hTab hBd h00r hm hn hR) ?_
  rintro _ G6 ⟨hQ1,hK1⟩
  clear hTab hS hT hBz hBd1 hz ej hend hcL hmL fw ehi hvi h00r
  obtain ⟨L,D,bs,k1,sD,hT,hS,hTab,hFr,hZr⟩:=hQ1
  replace hx:=o0B hx hK1 (b1S _)
  replace b1:=hFr.at_ b1
  replace b2:=hFr.at_ b2
  replace b3:=hFr.at_ b3
  replace b5:=hFr.atQ b5
  clear hFr hK1
  simp
  simp [l0Q,b5]
  refine a0S.mono (w0a hT hx.1 hS hTab hBd (.inr hm1) hm hn hR) ?_
  rintro _ G7 ⟨⟨z2,rfl,hQ1⟩,hK1⟩
  clear hTab hS hT
  obtain ⟨L',D,bs',k1,sD,hT,hS,hTab,hZr2,hFr,hend⟩:=hQ1
  replace hZr:=hZr2 hZr
  clear hZr2
  replace hx:=o0B hx hK1 (b1S _)
  replace b1:=hFr.at_ b1
  replace b2:=hFr.at_ b2
  replace b3:=hFr.at_ b3
  replace b5:=hFr.atQ b5
  clear hFr hK1
  obtain ⟨hBz,hBd1⟩:=hB _ _ _ hTab
  simp
  simp [l0R,b5]
  refine a0S.mono (n0q (Fv:=fun i=>Tf L' i (2 * n + m)) hT hx.1 hS (by omega) (by have:=hTab.pos;omega) (fun i hi=>by have:=hBz i (2 * n + m) (by omega) (b1S _);omega) hm hn (fun fl i G' R' hxx hfl hi=>by
   simp only [d1N,d1v]
   exact p0U (hT.mono hxx) hfl hS (hxx.blk b5) (by omega))) ?_
  rintro wX G8 ⟨oX,hx8⟩
  replace b1:=hx8.blk b1
  replace b2:=hx8.blk b2
  replace b3:=hx8.blk b3
  replace b5:=hx8.blk b5
  replace hT:=hT.mono hx8
  replace hx:=hx.trans hx8
  clear hx8
  simp
  rw [hm1] at hend
  rcases hend with ⟨rfl,hopt⟩ | ⟨j,rfl,hj,hTj,hle⟩
  rotate_left
  ·simp [h0U]
   refine c0w ?_
   simp [j0N]
   refine (b0U (n:=0) (by have:=hx.1;omega) (by omega) (by omega)).mono ?_
   rintro _ G6 ⟨⟨y1,y2,rfl,ky1,ky2⟩,hx6⟩
   have hz0:((0:Int):Rat)=0:=rfl
   rw [hz0] at ky1 ky2 ⊢
   replace b1:=hx6.blk b1
   replace b2:=hx6.blk b2
   replace b3:=hx6.blk b3
   replace b5:=hx6.blk b5
   replace hT:=hT.mono hx6
   replace oX:=oX.mono a0H hx6
   replace hx:=hx.trans hx6
   clear hx6
   simp [b5]
   refine (I0e hT (by have:=hx.1;omega) hS (fun r c=>by have:=hS.lz_all hBz r c;omega) (by omega) (by have:=hTab.pos;omega) hj hm hn).mono ?_
   rintro wd G8 ⟨kd,hx8⟩
   replace b1:=hx8.blk b1
   replace b2:=hx8.blk b2
   replace b3:=hx8.blk b3
   replace b5:=hx8.blk b5
   replace ky1:=ky1.mono hx8
   replace ky2:=ky2.mono hx8
   replace hT:=hT.mono hx8
   replace oX:=oX.mono a0H hx8
   replace hx:=hx.trans hx8
   clear hx8
   have hbk:=hT.blk
   have hsz:=hx.1
   have hdc:=kd.cells;have hdp:=kd.plain
   have hxc:=oX.cells
   have c1:=ky1.cells;have c2:=ky2.cells
   simp [b5,hbk,hdc,hxc,c1,c2]
   have hP1:P8 ≠ H.size + 3:=fun h=>by rw [h,b3] at b5;simp at b5
   have hP2:p' ≠ H.size + 3:=fun h=>by rw [h,b3] at hbk;have:=(Blk.row.inj hbk).2.1;cases F <;> exact c1j this (by decide)
   simp [b3,hsz,ky1.plain,ky2.plain,c1,c2,hdc,hdp,hxc,hP1,hP2]
   generalize hS':Array.setIfInBounds G8 _ _=G9
   have hl1:LxT a0b G8 G9:=a0X hS' b3 (by decide)
   have hl2:Lx G8 G9:=fun b ro cs h=>a0X (e:=a0l) hS' b3 (by decide) b ro cs h
   rw [a0M hS' b3]
   simp
   refine fun _=>⟨_,⟨3,0,(List.range n).map fun k=>Rat.divInt (ptq n (bf bs') (fun i=>Tf L' i (2 * n + m)) m k) D,[],(List.range n).map fun k=>r0G n m L' bs' D j k⟩,k1,rfl,⟨y1,y2,_,_,_,rfl,ky1.setS hS' b3 (by decide),ky2.setS hS' b3 (by decide),?_,Sls.nil,?_⟩,.inr (.inr ⟨Tf L',bf bs',D,j,hTab,rfl,rfl,rfl,fun i hi hb=>⟨hZr i hi hb _ (b1S _),hZr i hi hb _ (by omega)⟩,hj,hTj,hle,rfl,rfl⟩)⟩
   ·rw [List.map_map]
    exact b0n.lx2 oX.sls hl1 hl2
   ·rw [List.map_map]
    exact b0n.lx2 kd hl1 hl2
  simp [h0U]
  simp [j0O]
  refine (b0U (n:=0) hx.1 (by omega) (by omega)).mono ?_
  rintro _ G9 ⟨⟨y1,y2,rfl,ky1,ky2⟩,hx8⟩
  have hz0:((0:Int):Rat)=0:=rfl
  rw [hz0] at ky1 ky2 ⊢
  replace b1:=hx8.blk b1
  replace b2:=hx8.blk b2
  replace b3:=hx8.blk b3
  replace b5:=hx8.blk b5
  replace hT:=hT.mono hx8
  replace oX:=oX.mono a0H hx8
  replace hx:=hx.trans hx8
  clear hx8
  have hsz:=hx.1
  have c1:=ky1.cells;have c2:=ky2.cells
  simp [hsz,c1,c2,ky1.plain,ky2.plain]
  generalize hN:Array.setIfInBounds (Array.push _ _) _ _=G10
  obtain ⟨hx8,b7⟩:=new1 hN
  clear hN
  obtain ⟨P7,hP7⟩:∃ x,x=G9.size:=⟨_,rfl⟩
  rw [← hP7] at b7 ⊢
  have kC2:=kC.mono a0H (hx.trans hx8)
  have hslC:=kC2.slen
  rw [hpC] at hslC
  have b1':=hx8.blk b1
  obtain ⟨X0,hX0⟩:∃ x,x=(List.range n).map fun k=>Rat.divInt (ptq n (bf bs') (fun i=>Tf L' i (2 * n + m)) m k) D:=⟨_,rfl⟩
  have oX0:(List.range n).map (fun k=>a0f (Rat.divInt (ptq n (bf bs') (fun i=>Tf L' i (2 * n + m)) m k) D))=X0.map a0f:=by rw [hX0,List.map_map];rfl
  rw [oX0] at oX
  have hX0l:X0.length=n:=by rw [hX0];simp
  have hX0z:∀ x ∈ X0,szR x≤Z + m + S + 1:=by
   intro x hx
   rw [hX0] at hx
   obtain ⟨k,_,rfl⟩:=c1M.1 hx
   have h1:=b0K (ptq n (bf bs') (fun i=>Tf L' i (2 * n + m)) m k) D
   have h2:=n0k (n:=n) (base:=bf bs') (Fv:=fun i=>Tf L' i (2 * n + m)) (K:=Z) (k:=k) (q:=m) (fun i hi=>hBz i _ (by omega) (b1S _))
   omega
  have hFX:=w0O hX0z
  have hFC:=hpF.mono' (show S≤Z + m + S + 1 by omega)
  have hsd:∀ i,i≤n→szR (q0e p.C (X0.map a0f) i) < 33554432:=fun i hi=>by
   have h1:=G0t hFC hFX i
   have h2:i * (2 * (Z + m + S + 1) + 3)≤n * (2 * (Z + m + S) + 10):=c1R hi (by omega)
   rw [c1i,c1H] at hZ
   omega
  simp [j0P,b1',hslC]
  refine c0I (n:=n) (fun i ρ G=>ρ 5=.pointer (some ⟨H.size + 2,0,none⟩)∧ρ 6=.pointer (some ⟨H.size + 3,0,none⟩)∧ρ 8=.pointer (some ⟨P8,0,none⟩)∧ρ 10=.int .i64 (m1:Int)∧ρ 12=wX∧ρ 13=.pointer (some ⟨P7,0,none⟩)∧ρ 84=sC0∧Ext G9 G∧∃ y1 y2,a0e.blk G P7=.row false a0b [.bool (a0f (q0e p.C (X0.map a0f) i)).1.1,y1,.bool (a0f (q0e p.C (X0.map a0f) i)).2.1,y2]∧Lim G y1 (a0f (q0e p.C (X0.map a0f) i)).1.2∧Lim G y2 (a0f (q0e p.C (X0.map a0f) i)).2.2) rfl rfl (by decide) (by omega) (by simp) (by simp) ?_ ?_ ?_ ?_
  ·exact ⟨by simp,by simp,by simp,by simp,by simp,by simp,by simp,hx8,y1,y2,b7,ky1.mono hx8,ky2.mono hx8⟩
  ·intro i ρ ρ' G h hI;simpa [h] using hI
  ·clear b7 ky1 ky2 c1 c2 y1 y2 hx8 kC2 hslC b1'
   rintro i ρ G hi gi gn ⟨g5,g6,g8,g10,g12,g13,g84,hxa,y1,y2,b7,ky1,ky2⟩
   have hxG:=hx.trans hxa
   have kC2:=kC.mono a0H hxG
   have hiC:i < p.C.length:=by omega
   have iaC:=kC2.ia (k:=.i64) hiC
   obtain ⟨wc,ec,kc⟩:=b0n.load kC2 hiC
   obtain ⟨s5,s6,rfl,k5,k6⟩:=kc
   have c5:=k5.cells;have c6:=k6.cells
   have hsz:=hxG.1
   simp [j0Q,gi,g84,iaC,ec,c5,c6,k5.plain,k6.plain,hsz]
   generalize hN:Array.setIfInBounds (Array.push _ _) _ _=G11
   obtain ⟨hxb,b8⟩:=new1 hN
   clear hN
   replace b7:=hxb.blk b7
   replace ky1:=ky1.mono hxb
   replace ky2:=ky2.mono hxb
   replace k5:=k5.mono hxb
   replace k6:=k6.mono hxb
   replace hxa:=hxa.trans hxb
   have hiX:i < (X0.map a0f).length:=by simp;omega
   have oX2:=oX.mono a0H hxa
   have iaX:=oX2.sls.ia (k:=.i64) hiX
   obtain ⟨wx,ex,kx⟩:=b0n.load oX2.sls hiX
   refine a0F ?_
   simp [j0R,g12,g13,b7,b8,iaX,ex]
   have hlC:=hpF _ (c1a hiC)
   have hlX:=hFX _ (c1a hiX)
   have hv1:=d0u hlC.2.1 hlC.2.2
   have hv2:=d0u hlX.2.1 hlX.2.2
   refine (e0V (a:=p.C[i]) ⟨s5,s6,rfl,k5,k6⟩ kx (by have:=hxb.1;omega) (by omega) (by omega)).mono ?_
   rintro wm G12 ⟨km,hxc⟩
   replace b7:=hxc.blk b7
   replace ky1:=ky1.mono hxc
   replace ky2:=ky2.mono hxc
   replace hxa:=hxa.trans hxc
   have hsm:=f0S (b0A p.C[i]) (b0A (X0.map a0f)[i])
   have hsz2:H.size≤G12.size:=(hx.trans hxa).1
   have hsdi:=hsd i (by omega)
   simp
   refine (b0D (a:=a0f (q0e p.C (X0.map a0f) i)) ⟨y1,y2,rfl,ky1,ky2⟩ km hsz2 (by rw [a0A];omega) (by rw [a0A];omega)).mono ?_
   rintro _ G13 ⟨⟨y3,y4,rfl,ky3,ky4⟩,hxc⟩
   replace b7:=hxc.blk b7
   replace hxa:=hxa.trans hxc
   have hdot:b0A (a0f (q0e p.C (X0.map a0f) i)) + b0A (a0f (b0A p.C[i] * b0A (X0.map a0f)[i]))=q0e p.C (X0.map a0f) (i + 1):=by
    rw [a0s,a0s,q0e,b1Q,b1Q,b1V hiC,b1V hiX];rfl
   rw [hdot] at ky3 ky4 ⊢
   have c3:=ky3.cells;have c4:=ky4.cells
   have hsz3:H.size≤G13.size:=(hx.trans hxa).1
   have hP7l:H.size≤P7:=by rw [hP7];exact hx.1
   simp [g13,b7,c3,c4,ky3.plain,ky4.plain,hP7l]
   generalize hS':Array.setIfInBounds G13 _ _=G14
   exact Rnd.mk (by simp [gi]) (by simp [gn]) ⟨by simp [g5],by simp [g6],by simp [g8],by simp [g10],by simp [g12],by simp [g13],by simp [g84],b0I hS' hxa (by omega),y3,y4,a0M hS' b7,ky3.setS hS' b7 (by decide),ky4.setS hS' b7 (by decide)⟩
  ·clear b7 ky1 ky2 c1 c2 y1 y2 hx8 kC2 hslC b1'
   rintro ρ G gi gn ⟨g5,g6,g8,g10,g12,g13,g84,hxa,y1,y2,b7,ky1,ky2⟩
   replace b1:=hxa.blk b1
   replace b2:=hxa.blk b2
   replace b3:=hxa.blk b3
   replace b5:=hxa.blk b5
   replace hT:=hT.mono hxa
   replace oX:=oX.mono a0H hxa
   replace hx:=hx.trans hxa
   clear hxa
   refine c0w ?_
   have kq:b0O G (.agg #[.bool (a0f q.cb).1.1,s1,.bool (a0f q.cb).2.1,s2]) (a0f q.cb):=⟨s1,s2,rfl,q1.mono hx,q2.mono hx⟩
   simp [j0S,g13,g12,g8,g10,g5,b7,b5,b2]
   refine (n0d (q:=q) hT (by have:=hx.1;omega) hS (h00.mono hx) hql kq (g:=m1) (by omega) (by omega) (by have:=hTab.pos;omega) (fun i hi=>by have:=hBz m1 (2 * n + i) (by omega) (by omega);omega) hK hcs hc0 hm hn).mono ?_
   rintro wd G8 ⟨kd,hx8⟩
   replace b1:=hx8.blk b1
   replace b2:=hx8.blk b2
   replace b3:=hx8.blk b3
   replace b5:=hx8.blk b5
   replace b7:=hx8.blk b7
   replace ky1:=ky1.mono hx8
   replace ky2:=ky2.mono hx8
   replace hT:=hT.mono hx8
   replace oX:=oX.mono a0H hx8
   replace hx:=hx.trans hx8
   clear hx8
   have hbk:=hT.blk
   have hsz:=hx.1
   have hdc:=kd.cells
   have hxc:=oX.cells
   have c1:=ky1.cells;have c2:=ky2.cells
   simp [g8,g6,b5,hbk,hdc,hxc,c1,c2]
   have hP1:P8 ≠ H.size + 3:=fun h=>by rw [h,b3] at b5;simp at b5
   have hP2:p' ≠ H.size + 3:=fun h=>by rw [h,b3] at hbk;have:=(Blk.row.inj hbk).2.1;cases F <;> exact c1j this (by decide)
   simp [b3,hsz,ky1.plain,ky2.plain,c1,c2,hdc,hxc,hP1,hP2]
   generalize hS':Array.setIfInBounds G8 _ _=G9
   have hl1:LxT a0b G8 G9:=a0X hS' b3 (by decide)
   have hl2:Lx G8 G9:=fun b ro cs h=>a0X (e:=a0l) hS' b3 (by decide) b ro cs h
   rw [a0M hS' b3]
   simp
   refine fun _=>⟨_,⟨1,q0e p.C (X0.map a0f) n,X0,(List.range m).map fun i=>i0l L' m1 n D q.bs q.cb i,[]⟩,k1,rfl,⟨y1,y2,_,_,_,rfl,ky1.setS hS' b3 (by decide),ky2.setS hS' b3 (by decide),b0n.lx2 oX.sls hl1 hl2,?_,Sls.nil⟩,.inr (.inl ⟨Tf L',bf bs',D,hTab,rfl,rfl,fun i hi hb=>hZr i hi hb _ (b1S _),hopt,hX0,by rw [hm1];rfl,rfl⟩)⟩
   rw [List.map_map]
   exact b0n.lx2 kd.sls hl1 hl2
end
section
open Go SX
set_option maxHeartbeats 1000000
variable {H G:a0e}
theorem U0g {f:Nat→Int} {K:Nat}:∀ {n:Nat},(∀ i,i < n→lz (f i)≤K)→lz (sm f n)≤K + n
 | 0,_=>by rw [sm,c0x];omega
 | n + 1,h=>by
  have h1:=U0g (n:=n) (fun i hi=>h i (by omega))
  have h2:=h n (by omega)
  have h3:=q0X (sm f n) (f n)
  rw [sm];omega
theorem J0Q {M:Nat}:∀ {k:Nat},k≤M→fac k≤M ^ k
 | 0,_=>by simp [fac]
 | k + 1,h=>by
  rw [fac,c1E,c1q]
  exact c1R (J0Q (by omega)) h
theorem u0K {z:Int} {M k:Nat} (hM:M≤4294967296) (h:z.natAbs≤fac M * (4294967296 ^ k) ^ M):lz z≤M * (k + 1) + 1:=by
 apply q0Y
 have h1:fac M≤4294967296 ^ M:=c1b (J0Q (b1S M)) (Nat.pow_le_pow_left hM M)
 have h2:fac M * (4294967296 ^ k) ^ M≤4294967296 ^ (M * (k + 1)):=by
  rw [← Nat.pow_mul,c1n,d1p,Nat.add_comm,e1m,c1q M k]
  exact b1Z _ h1
 have h3:4294967296 ^ (M * (k + 1)) < 4294967296 ^ (M * (k + 1) + 1):=Nat.pow_lt_pow_right (by omega) (by omega)
 omega
section
variable {q:ScT} {n m K:Nat} (hA:∀ r c,lz (Tf q.A r c)≤K)
include hA
theorem Q0o {r c:Nat}:lz (e0a n m (Tf q.A) (bbq q n) r c)≤K + 1:=by
 unfold e0a
 split
 ·have:=hA r c;omega
 ·split
  ·rw [e0Q];have:=hA r (c - n);omega
  ·split
   ·split
    ·rw [f0X];omega
    ·rw [c0x];omega
   ·have:=hA r n;unfold bbq;omega
theorem q0Z {r c:Nat}:lz (sg (bbq q n) r * e0a n m (Tf q.A) (bbq q n) r c)≤K + 1:=by
 have h:=Q0o (n:=n) (m:=m) hA (r:=r) (c:=c)
 unfold sg
 split
 ·rw [Int.neg_mul,Int.one_mul,e0Q];exact h
 ·rw [Int.one_mul];exact h
theorem J0X {i c:Nat}:lz (r0V q n m i c)≤K + 1 + i:=by
 unfold r0V
 refine U0g fun r _=>?_
 split
 ·exact q0Z hA
 ·rw [c0x];omega
theorem Q0n (hC:∀ c,lz (ccq q c)≤K) {c r:Nat}:lz (h0s n m (Tf q.A) (bbq q n) (ccq q) c r)≤K + 1 + m:=by
 unfold h0s
 split
 ·have:=q0Z (n:=n) (m:=m) hA (r:=r) (c:=c);omega
 ·split
  ·rw [e0Q];exact J0X (i:=m) hA
  ·have:lz (cost n (ccq q) c)≤K:=by
    unfold cost;split
    ·exact hC _
    ·split
     ·rw [e0Q];exact hC _
     ·rw [c0x];omega
   rw [e0Q];omega
theorem J0Y (hC:∀ c,lz (ccq q c)≤K) (hm:m < 1048576) {T:Nat→Nat→Int} {base:Nat→Nat} {D:Int} (h:P0h q n m T base D) :
  (∀ r c,r < m + 2→c≤2 * n + m→lz (T r c)≤(m + 2) * (K + m + 2) + 1)∧lz D≤(m + 2) * (K + m + 2) + 1:=by
 obtain ⟨h1,h2⟩:=Tab.bound h (B:=4294967296 ^ (K + 1 + m)) (Nat.one_le_pow _ _ (by omega)) (fun c r _ _=>by
  have h3:=z0m (h0s n m (Tf q.A) (bbq q n) (ccq q) c r)
  have h4:=Q0n (n:=n) (m:=m) hA hC (c:=c) (r:=r)
  exact Nat.le_of_lt (c1m h3 (d1x (by omega) h4)))
 have e:K + 1 + m + 1=K + m + 2:=by omega
 refine ⟨fun r c hr hc=>?_,?_⟩
 ·have:=u0K (M:=m + 2) (by omega) (h1 r c hr hc)
  rw [e] at this;exact this
 ·have:=u0K (M:=m + 2) (by omega) h2
  rw [e] at this;exact this
end
structure w0r (H:a0e) (u v:Value) (p:LPt) (q:ScT) (n m:Nat):Prop where
 hp:LPV H u p
 hv:SV H v q
 qn:q.n=n
 qA:q.A.length=m
 qC:q.C.length=n
 pC:p.C.length=n
 qb:q.bs.length=m
 row:∀ r ∈ q.A,r.length=n + 1
 b0:q.cb ≠ 0
 m1:m < 1048576
 n1:n < 1048576
 sz:∃ K S,(∀ r c,lz (Tf q.A r c)≤K)∧(∀ c,lz (ccq q c)≤K)∧Few S p.C∧(∀ x ∈ q.bs,szR x≤K)∧szR q.cb≤K∧(n + 1) * (2 * ((m + 2) * (K + m + 2) + 1 + m + S) + 10) < 16777216
theorem w0r.mono {u v:Value} {p:LPt} {q:ScT} {n m:Nat} (h:w0r H u v p q n m) (hx:Ext H G):w0r G u v p q n m :=
 { h with hp:=h.hp.mono hx,hv:=h.hv.mono hx }
theorem r0M {F:RK} {fl:Nat} {R:a0u} {u v:Value} {p:LPt} {q:ScT} {n m:Nat} (h:w0r H u v p q n m) (hf:fl≤H.size) (hR:p0o F R) :
  a0S env fl (k0T F) [eV,u,v] H (fun r H'=>o0o q p.C n m r H'∧Ext H H') R:=by
 obtain ⟨K,S,hA,hC,hS,hb,hc,hs⟩:=h.sz
 have hm:=h.m1
 have h1:K + m + 2≤(m + 2) * (K + m + 2):=by
  have:1 * (K + m + 2)≤(m + 2) * (K + m + 2):=b1Z _ (by omega)
  omega
 have h2:1 * (2 * ((m + 2) * (K + m + 2) + 1 + m + S) + 10)≤(n + 1) * (2 * ((m + 2) * (K + m + 2) + 1 + m + S) + 10):=b1Z _ (by omega)
 have hK:K + m < 16777214:=by omega
 exact t0U h.hp h.hv h.qn h.qA h.qC h.pC hS h.qb h.row hf (fun r c=>by have:=hA r c;omega) (fun c=>by have:=hC c;omega) (fun i c hi _=>by have:=J0X (n:=n) (m:=m) hA (i:=i) (c:=c);omega)
  (fun T base D hT=>J0Y hA hC hm hT) hs (fun x hx=>by have:=hb x hx;omega) (by omega) h.b0 hm h.n1 hR
end
section
open Go SX
set_option maxHeartbeats 4000000
variable {fl:Nat} {H G:a0e} {R:a0u} {v w u:Value}
theorem LPV.shape {p:LPt} (h:LPV H u p):∃ a b c d,u=.agg #[a,b,c,d]:=by
 obtain ⟨_,_,_,rfl,_⟩:=h;exact ⟨_,_,_,_,rfl⟩
theorem SV.shape {q:ScT} (h:SV H v q):∃ s:Array Value,v=.agg s∧s.size=8:=by
 obtain ⟨_,_,_,_,_,rfl,_⟩:=h;exact ⟨_,rfl,rfl⟩
theorem x0O.shape {a:m0V} (h:x0O H v a):∃ s:Array Value,v=.agg s∧s.size=8∧s.toList.all a0q=true:=by
 obtain ⟨s1,s2,sX,sY,sR,rfl,h1,h2,h3,h4,h5⟩:=h
 exact ⟨_,rfl,rfl,by simp [h1.plain,h2.plain,h3.plain,h4.plain,h5.plain]⟩
theorem x0j:env.code H0o=none:=by rfl
theorem x0i {p:LPt} {q:ScT} {n m:Nat} (h:w0r H u v p q n m) (hf:fl≤H.size) :
  a0S env fl H0o [u,v] H (fun r H'=>((∃ ans k,r=.tuple #[ans,.int .i64 k,.bool true]∧o0o q p.C n m (.tuple #[ans,.int .i64 k]) H') ∨ (∃ ans,r=.tuple #[ans,.int .i64 0,.bool false]∧∃ s1 s2 s3 s4 s5 s6 s7 s8,ans=.agg #[s1,s2,s3,s4,s5,s6,s7,s8]∧[s1,s2,s3,s4,s5,s6,s7,s8].all a0q=true))∧Ext H H') R:=by
 obtain ⟨a,b,c,d,rfl⟩:=h.hp.shape
 obtain ⟨s,rfl,hs8⟩:=h.hv.shape
 obtain ⟨N,hN⟩:=r0M (F:=.few) (fl:=max fl H.size) (R:=fun w=>w=t0Y) h (by omega) rfl
 change m0P _ _ (b0i env N (max fl H.size) q0F _ H) at hN
 refine ⟨N + 1,?_⟩
 have e1:b0i env (N + 1) fl H0o [.agg #[a,b,c,d],.agg s] H=d0I [(.int .i64 0),(.bool false),(.slice none 0 0),(.bool false),(.slice none 0 0),(.slice none 0 0),(.slice none 0 0),(.slice none 0 0)] H (b0i env N (max fl H.size) q0F [.agg #[],.agg #[a,b,c,d],.agg s] H):=by
  rw [b0i]
  simp only [x0j]
  rw [show env.know H0o [.agg #[a,b,c,d],.agg s]=none from rfl]
  show (if H0o=H0o then _ else _)=_
  rw [b1W rfl]
  show (if (4=4∧s.size=8) then _ else _)=_
  rw [b1W ⟨rfl,hs8⟩]
 rw [e1]
 cases hc:b0i env N (max fl H.size) q0F [.agg #[],.agg #[a,b,c,d],.agg s] H with
 | bad=>rw [show eV=Value.agg #[] from rfl,hc] at hN;exact c1j hN id
 | pan w =>
  rw [show eV=Value.agg #[] from rfl,hc] at hN
  have hw:w=t0Y:=hN
  subst hw
  exact ⟨.inr ⟨_,rfl,_,_,_,_,_,_,_,_,rfl,rfl⟩,Ext.refl H⟩
 | ok r =>
  rw [show eV=Value.agg #[] from rfl,hc] at hN
  obtain ⟨hQ,hx⟩:=hN
  obtain ⟨r,H'⟩:=r
  obtain ⟨ans,a',k,rfl,hA,hQ⟩:=hQ
  obtain ⟨t,rfl,ht8,htp⟩:=hA.shape
  have e2:d0I [(.int .i64 0),(.bool false),(.slice none 0 0),(.bool false),(.slice none 0 0),(.slice none 0 0),(.slice none 0 0),(.slice none 0 0)] H (.ok (.tuple #[.agg t,.int .i64 k],H'))=.ok (.tuple #[.agg t,.int .i64 k,.bool true],H'):=by
   show (if t.size=8∧t.toList.all a0q=true then _ else _)=_
   rw [b1W ⟨ht8,htp⟩]
  rw [e2]
  exact ⟨.inl ⟨_,k,rfl,_,a',k,rfl,hA,hQ⟩,hx⟩
structure q0d (p:LPt) (n m S:Nat):Prop where
 pn:p.n=n
 pA:p.A.length=m
 pB:p.B.length=m
 pC:p.C.length=n
 row:∀ r ∈ p.A,Few S r∧r.length=n
 fB:Few S p.B
 fC:Few S p.C
 S1:1≤S
 m1:m < 1048576
 n1:n < 1048576
 sz:(n + 1) * (2 * ((m + 2) * ((n + 3) * (S + 1) + m + 2) + 1 + m + S) + 10) < 16777216
structure q0n (p:LPt) (q:ScT) (n m K:Nat):Prop where
 qn:q.n=p.n
 qA:q.A.length=p.A.length
 qb:q.bs.length=p.A.length
 rows:∀ k,k < p.A.length→Whole (j0t p k) (q.A.getD k []) (q.bs.getD k 0) K
 cost:Whole (p.C.map b0A) q.C q.cb K
theorem r0J {p:LPt} {n m S k:Nat} (h:q0d p n m S) (hk:k < p.A.length):(j0t p k).length=n + 1:=by
 unfold j0t
 rw [b1Q,b1V hk]
 simp [(h.row _ (c1a hk)).2]
theorem b0F {α:Type} {l:List α} {d:α} {k:Nat} (h:k < l.length):l.getD k d=l[k]:=by
 rw [b1Q,b1V h];rfl
theorem q0n.szC {p:LPt} {q:ScT} {n m K:Nat} (hq:q0n p q n m K) (c:Nat):lz (ccq q c)≤K:=by
 unfold ccq
 by_cases hc:c < q.C.length
 ·rw [b0F hc];exact hq.cost.szz _ (c1a _)
 ·rw [b1Q,c1d (by omega)];show lz 0≤_;rw [c0x];omega
theorem q0d.sol {p:LPt} {q:ScT} {n m S:Nat} (h:q0d p n m S) (hq:q0n p q n m ((n + 3) * (S + 1))) (hp:LPV H u p) (hv:SV H v q):w0r H u v p q n m where
 hp:=hp
 hv:=hv
 qn:=by rw [hq.qn,h.pn]
 qA:=by rw [hq.qA,h.pA]
 qC:=by rw [hq.cost.len,d1f,h.pC]
 pC:=h.pC
 qb:=by rw [hq.qb,h.pA]
 row:=fun r hr=>by
  obtain ⟨k,hk,rfl⟩:=e1t.1 hr
  have hk2:k < p.A.length:=by rw [← hq.qA];exact hk
  have:=(hq.rows k hk2).len
  rw [b0F hk,r0J h hk2] at this
  exact this
 b0:=fun h0=>by have:=hq.cost.pos;rw [h0] at this;exact c1j this (Rat.lt_irrefl)
 m1:=h.m1
 n1:=h.n1
 sz:=by
  refine ⟨(n + 3) * (S + 1),S,fun r c=>?_,hq.szC,h.fC,fun x hx=>?_,hq.cost.szb,h.sz⟩
  ·unfold Tf
   by_cases hr:r < q.A.length
   ·have hW:=(hq.rows r (by rw [← hq.qA];exact hr)).szz
    by_cases hc:c < (q.A.getD r []).length
    ·rw [b0F hc];exact hW _ (c1a _)
    ·rw [b1Q (l:=q.A.getD r []),c1d (by omega)];show lz 0≤_;rw [c0x];omega
   ·have:q.A.getD r []=[]:=by rw [b1Q,c1d (by omega)];rfl
    rw [this];show lz 0≤_;rw [c0x];omega
  ·obtain ⟨k,hk,rfl⟩:=e1t.1 hx
   have:=(hq.rows k (by rw [← hq.qb];exact hk)).szb
   rw [b0F hk] at this
   exact this
theorem x0O.setS {a:m0V} {G':a0e} {b:Nat} {X:Blk} {ro:Bool} {e:TypeId} {cs:List Value} (h:x0O G v a) (hS:Array.setIfInBounds G b X=G') (hb:a0e.blk G b=.row ro e cs) (h1:e ≠ a0l) (h2:e ≠ a0b):x0O G' v a:=by
 have hl1:LxT a0b G G':=a0X hS hb h2
 have hl2:Lx G G':=fun b ro cs h=>a0X (e:=a0l) hS hb h1 b ro cs h
 obtain ⟨s1,s2,sX,sY,sR,e1,k1,k2,k3,k4,k5⟩:=h
 exact ⟨s1,s2,sX,sY,sR,e1,k1.setS hS hb h1,k2.setS hS hb h1,b0n.lx2 k3 hl1 hl2,b0n.lx2 k4 hl1 hl2,b0n.lx2 k5 hl1 hl2⟩
def a1a (p:LPt) (n m S:Nat) (r:Value) (H':a0e):Prop:=∃ q,q0n p q n m ((n + 3) * (S + 1))∧o0o q p.C n m r H'
theorem k0h {p:LPt} {n m S:Nat} (h:q0d p n m S) (hp:LPV H v p) (hf:fl≤H.size) :
  a0S env fl T0K [v] H (fun r H'=>a1a p n m S r H'∧Ext H H') R:=by
 have hp0:=hp
 obtain ⟨sA0,sB0,sC0,rfl,kA,kB,kC⟩:=hp
 refine a0g b1j hf (h:=?_)
 intro ρ h0
 simp [W0S,N0c,h0,kA.cells,kB.cells,kC.cells]
 generalize hG:Array.push (Array.push H _) _=G
 obtain ⟨hx,b0,b1⟩:=push2 hG
 clear hG
 simp [N0d,b0]
 have hS:=h.S1
 have hK:(n + 3) * (S + 1) < 67108864:=by
  have h1:=h.sz
  have h2:1 * (2 * ((m + 2) * ((n + 3) * (S + 1) + m + 2) + 1 + m + S) + 10)≤(n + 1) * (2 * ((m + 2) * ((n + 3) * (S + 1) + m + 2) + 1 + m + S) + 10):=b1Z _ (by omega)
  have h3:1 * ((n + 3) * (S + 1) + m + 2)≤(m + 2) * ((n + 3) * (S + 1) + m + 2):=b1Z _ (by omega)
  omega
 refine (i0P (S:=S) (N:=n) (hp0.mono hx) hx.1 (fun r hr=>⟨(h.row r hr).1,by rw [(h.row r hr).2];exact b1S _⟩) h.fB (by rw [h.pA,h.pB]) h.fC (by rw [h.pC];exact b1S _) (by rw [h.pA];have:=h.m1;omega) hS rfl hK).mono ?_
 rintro wq G2 ⟨⟨q,hv,q1,q2,q3,q4,q5⟩,hx2⟩
 have hq:q0n p q n m ((n + 3) * (S + 1)):=⟨q1,q2,q3,q4,q5⟩
 clear q1 q2 q3 q4 q5
 replace b0:=hx2.blk b0
 replace b1:=hx2.blk b1
 replace hx:=hx.trans hx2
 clear hx2
 have hsz:=hx.1
 have hv0:=hv
 obtain ⟨sA,sBy,sC,s1,s2,rfl,qA,qB,qC,k1,k2⟩:=hv
 have c1:=k1.cells;have c2:=k2.cells
 simp [hsz,qA.cells,qA.plain,qB.cells,qB.plain,qC.cells,qC.plain,c1,c2,k1.plain,k2.plain]
 generalize hN:Array.setIfInBounds (Array.push _ _) _ _=G3
 obtain ⟨hx2,b2⟩:=new1 hN
 clear hN
 replace b0:=hx2.blk b0
 replace b1:=hx2.blk b1
 replace hv0:=hv0.mono hx2
 replace hx:=hx.trans hx2
 clear hx2
 obtain ⟨P2,hP2⟩:∃ x,x=G2.size:=⟨_,rfl⟩
 rw [← hP2] at b2 hsz ⊢
 simp [N0e,b0,b2]
 refine (x0i (h.sol hq (hp0.mono hx) hv0) hx.1).mono ?_
 rintro r G4 ⟨hr,hx2⟩
 replace b0:=hx2.blk b0
 replace b1:=hx2.blk b1
 replace b2:=hx2.blk b2
 replace hv0:=hv0.mono hx2
 replace hx:=hx.trans hx2
 clear hx2
 have hsz2:=hx.1
 rcases hr with ⟨ans,k,rfl,hQ⟩ | ⟨ans,rfl,s1',s2',s3',s4',s5',s6',s7',s8',rfl,hpl⟩
 ·obtain ⟨ans',a,k',he,hA,hQ⟩:=hQ
  obtain ⟨rfl,rfl⟩:ans=ans'∧k=k':=by simpa using he
  clear he
  have hA0:=hA
  obtain ⟨z1,z2,z3,z4,z5,rfl,l1,l2,l3,l4,l5⟩:=hA
  have d1:=l1.cells;have d2:=l2.cells
  simp [hsz2,d1,d2,l1.plain,l2.plain,l3.cells,l3.plain,l4.cells,l4.plain,l5.cells,l5.plain]
  generalize hN:Array.setIfInBounds (Array.push _ _) _ _=G5
  obtain ⟨hx2,b3⟩:=new1 hN
  clear hN
  replace b0:=hx2.blk b0
  replace b1:=hx2.blk b1
  replace b2:=hx2.blk b2
  replace hA0:=hA0.mono hx2
  replace hx:=hx.trans hx2
  clear hx2
  obtain ⟨P4,hP4⟩:∃ x,x=G4.size:=⟨_,rfl⟩
  rw [← hP4] at b3 ⊢
  simp [F0x,N0f,b3,b1,d1,d2,l1.plain,l2.plain,l3.cells,l3.plain,l4.cells,l4.plain,l5.cells,l5.plain]
  generalize hS':Array.setIfInBounds G5 _ _=G6
  rw [a0M hS' b1]
  simp
  exact fun _=>⟨q,hq,_,a,k,rfl,hA0.setS hS' b1 (by decide) (by decide),hQ⟩
 ·simp at hpl
  obtain ⟨p1,p2,p3,p4,p5,p6,p7,p8⟩:=hpl
  simp [hsz2,p1,p2,p3,p4,p5,p6,p7,p8]
  generalize hN:Array.setIfInBounds (Array.push _ _) _ _=G5
  obtain ⟨hx2,b3⟩:=new1 hN
  clear hN
  replace b0:=hx2.blk b0
  replace b1:=hx2.blk b1
  replace b2:=hx2.blk b2
  replace hv0:=hv0.mono hx2
  replace hx:=hx.trans hx2
  clear hx2
  simp [F0x,N0g,b0,b2]
  refine a0S.mono (r0M (F:=.all) (h.sol hq (hp0.mono hx) hv0) hx.1 trivial) ?_
  rintro r G6 ⟨⟨ans,a,k,rfl,hA,hQ⟩,hx2⟩
  replace b1:=hx2.blk b1
  replace hx:=hx.trans hx2
  clear hx2
  have hsz3:=hx.1
  have hA0:=hA
  obtain ⟨z1,z2,z3,z4,z5,rfl,l1,l2,l3,l4,l5⟩:=hA
  have d1:=l1.cells;have d2:=l2.cells
  simp [b1,hsz3,d1,d2,l1.plain,l2.plain,l3.cells,l3.plain,l4.cells,l4.plain,l5.cells,l5.plain]
  generalize hS':Array.setIfInBounds G6 _ _=G7
  rw [a0M hS' b1]
  simp
  exact fun _=>⟨q,hq,_,a,k,rfl,hA0.setS hS' b1 (by decide) (by decide),hQ⟩
theorem i0O {p:LPt} {n m S:Nat} (h:q0d p n m S) (hp:LPV H v p) (hf:fl≤H.size) (hr:l0Y p=true) :
  a0S env fl T0y [v] H (fun r H'=>(∃ ans k,r=.tuple #[ans,.int .i64 k,.int .i64 0]∧a1a p n m S (.tuple #[ans,.int .i64 k]) H')∧Ext H H') R:=by
 have hp0:=hp
 obtain ⟨sA0,sB0,sC0,rfl,kA,kB,kC⟩:=hp
 refine a0g a1Q hf (h:=?_)
 intro ρ h0
 simp [W0z,L0x,h0,kA.cells,kB.cells,kC.cells]
 generalize hG:Array.push (Array.push H _) _=G
 obtain ⟨hx,b0,b1⟩:=push2 hG
 clear hG
 simp [L0y,b0]
 refine (o0N (hp0.mono hx) hx.1).mono ?_
 rintro _ G2 ⟨rfl,hx2⟩
 replace b0:=hx2.blk b0
 replace b1:=hx2.blk b1
 replace hx:=hx.trans hx2
 clear hx2
 simp [hr]
 simp [L0z,b0]
 refine (k0h h (hp0.mono hx) hx.1).mono ?_
 rintro r G4 ⟨⟨q,hq,ans,a,k,rfl,hA,hQ⟩,hx2⟩
 replace b1:=hx2.blk b1
 replace hx:=hx.trans hx2
 clear hx2
 have hsz2:=hx.1
 have hA0:=hA
 obtain ⟨z1,z2,z3,z4,z5,rfl,l1,l2,l3,l4,l5⟩:=hA
 have d1:=l1.cells;have d2:=l2.cells
 simp [hsz2,d1,d2,l1.plain,l2.plain,l3.cells,l3.plain,l4.cells,l4.plain,l5.cells,l5.plain]
 generalize hN:Array.setIfInBounds (Array.push _ _) _ _=G5
 obtain ⟨hx2,b3⟩:=new1 hN
 clear hN
 replace b1:=hx2.blk b1
 replace hA0:=hA0.mono hx2
 replace hx:=hx.trans hx2
 clear hx2
 obtain ⟨P4,hP4⟩:∃ x,x=G4.size:=⟨_,rfl⟩
 rw [← hP4] at b3 ⊢
 simp [L0A,b3,b1,d1,d2,l1.plain,l2.plain,l3.cells,l3.plain,l4.cells,l4.plain,l5.cells,l5.plain]
 generalize hS':Array.setIfInBounds G5 _ _=G6
 rw [a0M hS' b1]
 simp
 exact fun _=>⟨_,k,⟨rfl,rfl⟩,q,hq,_,a,k,rfl,hA0.setS hS' b1 (by decide) (by decide),hQ⟩
end
section
open Go SX
set_option maxHeartbeats 1000000
def rs (f:Nat→Rat):Nat→Rat
 | 0=>0
 | n + 1=>rs f n + f n
theorem b0E {f g:Nat→Rat}:∀ {n:Nat},(∀ i,i < n→f i=g i)→rs f n=rs g n
 | 0,_=>rfl
 | n + 1,h=>by rw [rs,rs,b0E (fun i hi=>h i (by omega)),h n (by omega)]
theorem h0H {f:Nat→Rat} {c:Rat}:∀ {n:Nat},rs (fun i=>f i * c) n=rs f n * c
 | 0=>by rw [rs,rs,d1V]
 | n + 1=>by rw [rs,rs,h0H,Rat.add_mul]
theorem l0Z {f:Nat→Int}:∀ {n:Nat},rs (fun i=>(f i:Rat)) n=((sm f n:Int):Rat)
 | 0=>rfl
 | n + 1=>by rw [rs,sm,l0Z,Rat.intCast_add]
theorem y0v {a b:List b0e}:∀ {n:Nat},q0e a b n=rs (fun i=>b0A (a.getD i c0m) * b0A (b.getD i c0m)) n
 | 0=>rfl
 | n + 1=>by rw [q0e,rs,y0v]
def pA (p:LPt) (r k:Nat):Rat:=b0A ((p.A.getD r []).getD k c0m)
def pB (p:LPt) (r:Nat):Rat:=b0A (p.B.getD r c0m)
def pC (p:LPt) (k:Nat):Rat:=b0A (p.C.getD k c0m)
structure x0R (p:LPt) (n m:Nat) (a:m0V):Prop where
 kind:a.kind=2
 V:a.V=0
 X:a.X=[]
 Ray:a.Ray=[]
 Yl:a.Y.length=m
 Y0:∀ i,i < m→0≤a.Y.getD i 0
 YA:∀ k,k < n→rs (fun i=>a.Y.getD i 0 * pA p i k) m=0
 YB:rs (fun i=>a.Y.getD i 0 * pB p i) m < 0
structure G0H (p:LPt) (n m:Nat) (a:m0V):Prop where
 kind:a.kind=1
 Ray:a.Ray=[]
 Xl:a.X.length=n
 Yl:a.Y.length=m
 AX:∀ r,r < m→rs (fun k=>pA p r k * a.X.getD k 0) n≤pB p r
 Y0:∀ i,i < m→0≤a.Y.getD i 0
 YA:∀ k,k < n→rs (fun i=>a.Y.getD i 0 * pA p i k) m=pC p k
 V:a.V=rs (fun k=>pC p k * a.X.getD k 0) n
 YB:rs (fun i=>a.Y.getD i 0 * pB p i) m=a.V
structure x0S (p:LPt) (n m:Nat) (a:m0V):Prop where
 kind:a.kind=3
 Xl:a.X.length=n
 AX:∀ r,r < m→rs (fun k=>pA p r k * a.X.getD k 0) n≤pB p r
 AR:∀ r,r < m→rs (fun k=>pA p r k * a.Ray.getD k 0) n≤0
 CR:0 < rs (fun k=>pC p k * a.Ray.getD k 0) n
theorem d0j {f:Nat→Rat} {n k:Nat} (h:k < n):((List.range n).map f).getD k 0=f k:=by
 rw [b1Q];simp [h]
section
variable {p:LPt} {q:ScT} {n m S K:Nat}
theorem Whole.row_eq (h:q0d p n m S) (hq:q0n p q n m K) {r:Nat} (hr:r < m):0 < q.bs.getD r 0∧(∀ k,k < n→((Tf q.A r k:Int):Rat)=pA p r k * q.bs.getD r 0)∧((bbq q n r:Int):Rat)=pB p r * q.bs.getD r 0:=by
 have hr':r < p.A.length:=by rw [h.pA];exact hr
 have hW:=hq.rows r hr'
 have hl:=r0J h hr'
 have hrl:=(h.row _ (c1a hr')).2
 refine ⟨hW.pos,fun k hk=>?_,?_⟩
 ·have e:=hW.eq k (by omega)
  have e1:(q.A.getD r [])[k]'(by rw [hW.len];omega)=Tf q.A r k:=by
   unfold Tf;rw [b0F (l:=q.A.getD r []) (by rw [hW.len];omega)]
  rw [e1] at e
  rw [e]
  congr 1
  unfold pA j0t
  rw [c1I (by rw [d1f,b0F hr'];omega),c1J,b0F (l:=p.A.getD r []) (by rw [b0F hr'];omega)]
 ·have e:=hW.eq n (by omega)
  have e1:(q.A.getD r [])[n]'(by rw [hW.len];omega)=bbq q n r:=by
   unfold bbq Tf;rw [b0F (l:=q.A.getD r []) (by rw [hW.len];omega)]
  rw [e1] at e
  rw [e]
  congr 1
  unfold pB j0t
  rw [c1o (by rw [d1f,b0F hr'];omega)]
  simp
theorem Whole.cost_eq (h:q0d p n m S) (hq:q0n p q n m K):0 < q.cb∧∀ k,k < n→((ccq q k:Int):Rat)=pC p k * q.cb:=by
 refine ⟨hq.cost.pos,fun k hk=>?_⟩
 have hk':k < (p.C.map b0A).length:=by rw [d1f,h.pC];exact hk
 have e:=hq.cost.eq k hk'
 have e1:q.C[k]'(by rw [hq.cost.len];exact hk')=ccq q k:=by unfold ccq;rw [b0F]
 rw [e1] at e
 rw [e,c1J]
 unfold pC
 rw [b0F (by rw [h.pC];exact hk)]
end
section
variable {p:LPt} {q:ScT} {n m S K:Nat} {a:m0V} {T:Nat→Nat→Int} {base:Nat→Nat} {D:Int}
theorem inv_pos {c:Rat} (h:0 < c):0 < c⁻¹:=Rat.inv_pos.2 h
theorem h0d {D:Int} (h:0 < D):(0:Rat) < (D:Rat):=Rat.intCast_pos.2 h
theorem k0K {D:Int} (h:0≤D):(0:Rat)≤(D:Rat):=Rat.intCast_nonneg.2 h
theorem o0z {t D:Int} {b c:Rat}:Rat.divInt t D * b / c=(t:Rat) * b * ((D:Rat)⁻¹ * c⁻¹):=by
 rw [e1r,e1M,e1M]
 grind
theorem q0A (h:q0d p n m S) (hq:q0n p q n m K) {t:Nat→Int} {c:Rat} (Y:Nat→Rat) (hY:∀ i,i < m→Y i=Rat.divInt (t i) D * q.bs.getD i 0 / c) :
  (∀ k,k < n→rs (fun i=>Y i * pA p i k) m=((sm (fun i=>t i * Tf q.A i k) m:Int):Rat) * ((D:Rat)⁻¹ * c⁻¹))∧rs (fun i=>Y i * pB p i) m=((sm (fun i=>t i * bbq q n i) m:Int):Rat) * ((D:Rat)⁻¹ * c⁻¹):=by
 refine ⟨fun k hk=>?_,?_⟩
 ·rw [← l0Z,← h0H]
  refine b0E fun i hi=>?_
  obtain ⟨_,h2,_⟩:=Whole.row_eq h hq hi
  rw [hY i hi,o0z,e1p,h2 k hk]
  grind
 ·rw [← l0Z,← h0H]
  refine b0E fun i hi=>?_
  obtain ⟨_,_,h3⟩:=Whole.row_eq h hq hi
  rw [hY i hi,o0z,e1p,h3]
  grind
theorem V0D.cert (h:q0d p n m S) (hq:q0n p q n m K) (hs:V0D q n m a):x0R p n m a:=by
 obtain ⟨T,base,D,hT,h1,h2,h3,h4,h5,h6,h7⟩:=hs
 have hD:=hT.pos
 obtain ⟨i1,i2,i3⟩:=w0Q hT h5
 have hY:∀ i,i < m→a.Y.getD i 0=Rat.divInt (T m (2 * n + i)) D * q.bs.getD i 0 / 1:=fun i hi=>by rw [h7,d0j hi]
 obtain ⟨s1,s2⟩:=q0A h hq _ hY
 have hc:(0:Rat) < (D:Rat)⁻¹ * (1:Rat)⁻¹:=e1E (inv_pos (h0d hD)) (inv_pos (by decide))
 refine ⟨h1,h2,h3,h4,by rw [h7];simp,fun i hi=>?_,fun k hk=>?_,?_⟩
 ·rw [hY i hi,o0z]
  exact e1w (e1w (k0K (i1 i hi)) (e1P (Whole.row_eq h hq hi).1)) (e1P hc)
 ·rw [s1 k hk,i2 k hk];simp
 ·rw [s2,i3]
  have h8:((T m (2 * n + m):Int):Rat) < 0:=by
   have:=Rat.intCast_lt_intCast.2 h6;simpa using this
  have h9:=e1E (a:=-((T m (2 * n + m):Int):Rat)) (by grind) hc
  grind
theorem G0g (h:q0d p n m S) (hq:q0n p q n m K) {r:Nat} (hr:r < m) {x:Nat→Rat} {P:Nat→Int} (hX:∀ k,k < n→x k=((P k:Int):Rat) * (D:Rat)⁻¹) (hD:0 < D):rs (fun k=>pA p r k * x k) n * (q.bs.getD r 0 * (D:Rat))=((sm (fun k=>Tf q.A r k * P k) n:Int):Rat):=by
 obtain ⟨r1,r2,r3⟩:=Whole.row_eq h hq hr
 have hDr:=h0d hD
 have hDD:(D:Rat) * (D:Rat)⁻¹=1:=Rat.mul_inv_cancel _ (by grind)
 rw [← l0Z,← h0H]
 refine b0E fun k hk=>?_
 rw [hX k hk,e1p,r2 k hk]
 grind
theorem u0V (h:q0d p n m S) (hq:q0n p q n m K) {r:Nat} (hr:r < m) {x:Nat→Rat} {P:Nat→Int} (hX:∀ k,k < n→x k=((P k:Int):Rat) * (D:Rat)⁻¹) (hD:0 < D) (hj:sm (fun k=>Tf q.A r k * P k) n≤D * bbq q n r):rs (fun k=>pA p r k * x k) n≤pB p r:=by
 obtain ⟨r1,r2,r3⟩:=Whole.row_eq h hq hr
 have e1:=G0g h hq hr hX hD
 have e2:pB p r * (q.bs.getD r 0 * (D:Rat))=((D * bbq q n r:Int):Rat):=by
  rw [e1p,r3];grind
 have e3:=Rat.intCast_le_intCast.2 hj
 rw [← e1,← e2] at e3
 exact Rat.le_of_mul_le_mul_right e3 (e1E r1 (h0d hD))
theorem u0u (h:q0d p n m S) (hq:q0n p q n m K) {x:Nat→Rat} {P:Nat→Int} (hX:∀ k,k < n→x k=((P k:Int):Rat) * (D:Rat)⁻¹) (hD:0 < D):rs (fun k=>pC p k * x k) n=((sm (fun k=>ccq q k * P k) n:Int):Rat) * ((D:Rat)⁻¹ * q.cb⁻¹):=by
 obtain ⟨hcb,hcc⟩:=Whole.cost_eq h hq
 have hcc1:q.cb * q.cb⁻¹=1:=Rat.mul_inv_cancel _ (by grind)
 rw [← l0Z,← h0H]
 refine b0E fun k hk=>?_
 rw [hX k hk,e1p,hcc k hk]
 grind
theorem V0E.cert (h:q0d p n m S) (hq:q0n p q n m K) (hs:V0E q n m a):x0S p n m a:=by
 obtain ⟨T,base,D,j,hT,h1,h2,h3,h4,h5,h6,h7,h8,h9⟩:=hs
 have hD:=hT.pos
 obtain ⟨j1,j2⟩:=K0b hT (fun i hi hb=>(h4 i hi hb).1)
 obtain ⟨u1,u2⟩:=G0z hT h5 h7 (fun i hi hb=>(h4 i hi hb).2)
 have hX:∀ k,k < n→a.X.getD k 0=((ptq n base (fun i=>T i (2 * n + m)) m k:Int):Rat) * (D:Rat)⁻¹:=fun k hk=>by rw [h8,d0j hk,e1r,e1M]
 have hY:∀ k,k < n→a.Ray.getD k 0=((l0V n m T base D j k:Int):Rat) * (D:Rat)⁻¹:=fun k hk=>by rw [h9,d0j hk,e1r,e1M]
 refine ⟨h1,by rw [h8];simp,fun r hr=>u0V h hq hr hX hD (j1 r hr),fun r hr=>?_,?_⟩
 ·obtain ⟨r1,r2,r3⟩:=Whole.row_eq h hq hr
  have e1:=G0g h hq hr hY hD
  have e3:=Rat.intCast_le_intCast.2 (u1 r hr)
  rw [← e1] at e3
  have e4:=e1E r1 (h0d hD)
  refine Rat.le_of_mul_le_mul_right ?_ e4
  rw [d1V];exact e3
 ·rw [u0u h hq hY hD,u2]
  refine e1E (Rat.intCast_pos.2 (by omega)) (e1E (inv_pos (h0d hD)) (inv_pos (Whole.cost_eq h hq).1))
theorem V0C.cert (h:q0d p n m S) (hq:q0n p q n m K) (hs:V0C q p.C n m a):G0H p n m a:=by
 obtain ⟨T,base,D,hT,h1,h2,h3,h4,h5,h6,h7⟩:=hs
 have hD:=hT.pos
 obtain ⟨i1,i2,i3⟩:=SX.duals hT h4
 obtain ⟨j1,j2⟩:=K0b hT h3
 obtain ⟨hcb,hcc⟩:=Whole.cost_eq h hq
 have hY:∀ i,i < m→a.Y.getD i 0=Rat.divInt (T (m + 1) (2 * n + i)) D * q.bs.getD i 0 / q.cb:=fun i hi=>by rw [h6,d0j hi]
 have hX:∀ k,k < n→a.X.getD k 0=((ptq n base (fun i=>T i (2 * n + m)) m k:Int):Rat) * (D:Rat)⁻¹:=fun k hk=>by rw [h5,d0j hk,e1r,e1M]
 obtain ⟨s1,s2⟩:=q0A h hq _ hY
 have hDr:=h0d hD
 have hDi:=inv_pos hDr
 have hci:=inv_pos hcb
 have hc:(0:Rat) < (D:Rat)⁻¹ * q.cb⁻¹:=e1E hDi hci
 have hDD:(D:Rat) * (D:Rat)⁻¹=1:=Rat.mul_inv_cancel _ (by grind)
 have hcc1:q.cb * q.cb⁻¹=1:=Rat.mul_inv_cancel _ (by grind)
 have hV:a.V=rs (fun k=>pC p k * a.X.getD k 0) n:=by
  rw [h7,y0v]
  refine b0E fun k hk=>?_
  unfold pC
  congr 1
  rw [b0F (by rw [d1f,h5];simpa using hk),c1J,a0s,b0F (by rw [h5];simpa using hk)]
 have hVs:rs (fun k=>pC p k * a.X.getD k 0) n=((T (m + 1) (2 * n + m):Int):Rat) * ((D:Rat)⁻¹ * q.cb⁻¹):=by
  rw [← j2];exact u0u h hq hX hD
 refine ⟨h1,h2,by rw [h5];simp,by rw [h6];simp,fun r hr=>?_,fun i hi=>?_,fun k hk=>?_,hV,?_⟩
 ·exact u0V h hq hr hX hD (j1 r hr)
 ·rw [hY i hi,o0z]
  exact e1w (e1w (k0K (i1 i hi)) (e1P (Whole.row_eq h hq hi).1)) (e1P hc)
 ·rw [s1 k hk,i2 k hk,e1p,hcc k hk]
  grind
 ·rw [s2,i3,hV,hVs]
end
end
end Go.Proofs.YtilekhkgobmolaaGreat.AI
