/- Part 10 of the proof: AiSy9, AiRat4, AiSz1, AiSz2, AiSz3, AiSr1, AiHas1, AiSz4, AiSz5, AiSz6, AiSz7, AiSz8. -/
import Derived.Test.YtilekhkgobmolaaGreatM06
import Derived.Test.YtilekhkgobmolaaGreatM07
import Derived.Test.YtilekhkgobmolaaGreatM08
set_option linter.unusedVariables false
set_option linter.unusedSimpArgs false
set_option linter.unusedSectionVars false
namespace Go.Proofs.YtilekhkgobmolaaGreat.AI
section
open Go SX
set_option maxHeartbeats 4000000
variable {fl:Nat} {H G:a0e} {R:a0u} {v w u:Value} {F:RK}
def bbq (q:ScT) (n r:Nat):Int:=Tf q.A r n
def ccq (q:ScT) (c:Nat):Int:=q.C.getD c 0
def r0x (q:ScT) (n m i c:Nat):Int:=sm (fun r=>if bbq q n r < 0 then sg (bbq q n) r * d0Y n m (Tf q.A) (bbq q n) r c else 0) i
theorem z0x {E:Env} {bef:List Nat} {Z:a0W→a0e→Prop} {j i:Nat} {t:a0W} {ops:List a0D} {lg:Log} (n:Nat) (hn:ops.length=n) (hb:(List.range n).all (fun k=>(bef.getD (i + k) 0).testBit j)=true) (h:o0Z F R):o0Z F (fun v=>WRP E fl bef [] Z R i ops t H (some (j,v)) lg):=by
 subst hn
 cases F
 ·exact r0B hb h
 ·trivial
@[simp ↓] theorem T0H {E:Env} {d s:Nat} {r:List a0D} {t:a0W} {lg:Log} {Z:a0W→a0e→Log→Prop} :
  WRL E fl (F.p [⟨some d,none,.mv (.tmp s)⟩] [⟨some d,none,.load true 2 (.tmp s)⟩] ++ r) t H lg Z=oo (kpV F H (get t s)) fun v=>WRL E fl r (put t (some d) v) H ((F.p [] (blkOf (get t s)),[]) :: lg) Z:=by
 cases F
 ·show WRL E fl (⟨some d,none,.mv (.tmp s)⟩ :: r) t H lg Z=_
  rw [t0G,F0Y,show kpV .few H (get t s)=some (get t s) from rfl,o0G];rfl
 ·show WRL E fl (⟨some d,none,.load true 2 (.tmp s)⟩ :: r) t H lg Z=_
  rw [t0G,r0C];rfl
theorem G0E {n m:Nat} {ρ:Nat→Value} {wd:Value} {Q:a0W→a0e→Prop} (h25:ρ 25=.agg #[]) (h27:ρ 27=.int .i64 (n:Int)) (h28:ρ 28=.int .i64 (m:Int)) (h33:ρ 33=.int .i64 (2 * (n:Int) + m)) (h37:ρ 37=wd) (kd:rV F G wd 1) (hf:fl≤G.size)
  (key:∀ ρ' G3 sD,Ext G G3→a0e.blk G3 G.size=.row false F.T (n0G F n m (.slice none 0 0) 1 sD (.slice none 0 0) 0)→a0e.blk G3 (G.size + 1)=.row false F.Q [.pointer (some ⟨G.size,0,none⟩)]→rD F G3 sD 1→ρ' 6=.pointer (some ⟨G.size + 1,0,none⟩)→(∀ k,k < 6→ρ' k=ρ k)→Q (T 224 ρ') G3) :
  WR env fl ((g0w F).drop 13) (T 224 ρ) G Q R:=by
 have hf':fl≤G.size + 1:=by omega
 cases F
 ·obtain ⟨rfl,kz⟩:=kd
  simp [g0w,h25,h27,h28,h33,h37,hf']
  generalize hN:Array.setIfInBounds (Array.push (Array.push _ _) _) _ _=G3
  obtain ⟨hx2,bp,b6⟩:=S0u hN
  exact key _ _ .nilFunc hx2 (by rw [g0S];simpa using bp) b6 kz (by simp) (fun k hk=>by simp [show 6 ≠ k by omega,show 38 ≠ k by omega,show 39 ≠ k by omega])
 ·obtain ⟨sD,rfl,kd⟩:=kd
  simp [g0w,h25,h27,h28,h33,h37,hf']
  generalize hN:Array.setIfInBounds (Array.push (Array.push _ _) _) _ _=G3
  obtain ⟨hx2,bp,b6⟩:=S0u hN
  exact key _ _ sD hx2 (by rw [f0I];simpa using bp) b6 (kd.mono hx2) (by simp) (fun k hk=>by simp [show 6 ≠ k by omega,show 38 ≠ k by omega,show 39 ≠ k by omega])
theorem G0F {ρ:Nat→Value} {wz:Value} {Q:a0W→a0e→Prop} (h43:ρ 43=wz) (kz:rV F G wz 0) (hf:fl≤G.size)
  (key:∀ ρ' G5,Ext G G5→r7 F G5 G.size→ρ' 7=.pointer (some ⟨G.size,0,none⟩)→(∀ k,k ≠ 7→ρ' k=ρ k)→Q (T 224 ρ') G5):WR env fl ((g0x F).drop 4) (T 224 ρ) G Q R:=by
 cases F
 ·obtain ⟨rfl,_⟩:=kz
  simp [g0x,h43,hf]
  generalize hN:Array.setIfInBounds (Array.push _ _) _ _=G5
  obtain ⟨hx2,b7⟩:=new1 hN
  exact key _ _ hx2 b7 (by simp) (fun k hk=>by simp [b1k hk])
 ·obtain ⟨sz,rfl,kz⟩:=kz
  simp [g0x,h43,hf,kz.cells,kz.plain]
  generalize hN:Array.setIfInBounds (Array.push _ _) _ _=G5
  obtain ⟨hx2,b7⟩:=new1 hN
  exact key _ _ hx2 ⟨sz,b7,kz.mono hx2⟩ (by simp) (fun k hk=>by simp [b1k hk])
theorem y0F {d s nt:Nat} {z:Int} {ρ:Nat→Value} {wx:Value} {Q:a0W→a0e→Prop} (hs:ρ s=wx) (hsl:s < nt) (hdl:d < nt) (hsd:s ≠ d) (kx:rV F G wx z) (hf:fl≤G.size)
  (key:∀ ρ' G9,Ext G G9→kpV F G9 (ρ' d)=some wx→(∀ b,b ∈ F.p [] (blkOf (ρ' d))→G.size≤b)→(∀ k,k ≠ d→ρ' k=ρ k)→Q (T nt ρ') G9) :
  WR env fl (F.p [⟨some d,none,.mv (.tmp s)⟩] [⟨some d,none,.alloc a0a [.bool false,.slice none 0 0]⟩,⟨none,none,.store 2 (.tmp d) (.tmp s)⟩]) (T nt ρ) G Q R:=by
 cases F
 ·simp [hs,hsl,hdl]
  exact key _ _ (Ext.refl _) (by simp [kpV]) (by simp) (fun k hk=>by simp [b1k hk])
 ·obtain ⟨sx,rfl,kx⟩:=kx
  simp [hs,hsl,hdl,hsd,b1k hsd,hf,kx.cells,kx.plain]
  generalize hN:Array.setIfInBounds (Array.push _ _) _ _=G9
  obtain ⟨hx9,b13⟩:=new1 hN
  exact key _ _ hx9 (by simp [kpV,b13]) (by simp) (fun k hk=>by simp [b1k hk])
def X0E (F:RK) (fl n m:Nat) (q:ScT) (r:Value) (H':a0e):Prop:=∃ p L bs sR sD sB vs,r=.pointer (some ⟨p,0,none⟩)∧e0p F fl H' p n m L 1 bs 0 sR sD sB vs∧ShT n m L bs∧(∀ r c,r < m + 2→c≤2 * n + m→Tf L r c=g0Y n m (Tf q.A) (bbq q n) (ccq q) c r)∧∀ r,r < m→bf bs r=j0H n m (bbq q n) r
def X0Y (F:RK) (H:a0e) (p P7 n m W:Nat) (q:ScT) (sv:List Value) (sA sD w9 w10:Value) (i:Nat) (ρ:Nat→Value) (G:a0e):Prop :=
 ρ 2=.pointer (some ⟨H.size,0,none⟩)∧ρ 3=.pointer (some ⟨H.size + 1,0,none⟩)∧ρ 6=.pointer (some ⟨p + 1,0,none⟩)∧ρ 8=.func (.func (F.p m0i m0h)) #[] #[.pointer (some ⟨p + 1,0,none⟩),.pointer (some ⟨P7,0,none⟩)]∧ρ 9=w9∧ρ 10=w10∧ρ 77=sA ∧
  ∃ vs bs M sR sB,rMd F H H.size (H.size + 1) (p + 1) P7 p n m sv (vs ++ [w9,w10]) M sR sD sB vs bs G∧vs.length=i∧bs.length=i∧M.length=i + 2∧Rec W M ∧
   (∀ r c,r < i→c < W→Tf M r c=sg (bbq q n) r * d0Y n m (Tf q.A) (bbq q n) r c)∧(∀ c,c < W→Tf M i c = -r0x q n m i c)∧(∀ c,c < W→Tf M (i + 1) c = -cost n (ccq q) c)∧∀ r,r < i→bf bs r=j0H n m (bbq q n) r
theorem w0V {q:ScT} {n m:Nat} (h:SV H v q) (hn0:q.n=n) (hAl:q.A.length=m) (hCl:q.C.length=n) (hrow:∀ r ∈ q.A,r.length=n + 1) (hf:fl≤H.size) (hzA:∀ r c,lz (Tf q.A r c) < 67108864) (hzC:∀ c,lz (ccq q c) < 67108864) (hzL:∀ i c,i≤m→c≤2 * n + m→lz (r0x q n m i c) < 67108864) (hm:m < 1048576) (hn:n < 1048576) (hR:o0Z F R) :
  a0V env fl (r0N F) [eV,v] H (fun r H'=>X0E F H.size n m q r H'∧Ext H H') R:=by
 obtain ⟨sA,sBy,sC,s1,s2,rfl,qA,qB,qC,q1,q2⟩:=h
 rw [hn0]
 refine a0k N0W hf (h:=?_)
 intro ρ h0
 have w1:IntKind.i64.wrap (2 * (n:Int))=2 * (n:Int):=a0F (by omega) (by omega)
 have w2:IntKind.i64.wrap (2 * (n:Int) + m)=2 * (n:Int) + m:=a0F (by omega) (by omega)
 have e2:((2 * n + m:Nat):Int)=2 * (n:Int) + m:=by omega
 have f1:f0f 1:=by unfold f0f;omega
 have f0:f0f 0:=by unfold f0f;omega
 have hslA:=qA.slen
 rw [hAl] at hslA
 simp [i0Z,q0U,h0,eV]
 generalize hG:Array.push (Array.push H _) _=G
 obtain ⟨hx,b2,b3⟩:=push2 hG
 clear hG
 simp [q0V,b3,hslA]
 refine a0A ?_
 simp [g0w,b2,b3,w1,w2]
 refine (c0e (n:=1) (by have:=hx.1;omega) (by omega) (by omega)).mono ?_
 rintro _ G1 ⟨kone,hx2⟩
 replace hx:=hx.trans hx2
 replace b2:=hx2.blk b2
 replace b3:=hx2.blk b3
 simp
 refine (Q0Q kone (by have:=hx.1;omega) f1).mono ?_
 rintro wd G2 ⟨kd,hx2⟩
 replace hx:=hx.trans hx2
 replace b2:=hx2.blk b2
 replace b3:=hx2.blk b3
 have hsz:=hx.1
 simp
 refine G0E (n:=n) (m:=m) (by simp) (by simp) (by simp) (by simp) (by simp) kd hsz ?_
 intro ρ1 G3 sD hx2 bp b6 kd g6 hk
 have g2:=hk 2 (by decide);have g3:=hk 3 (by decide);have g5:=hk 5 (by decide)
 simp at g2 g3 g5
 clear hk
 replace hx:=hx.trans hx2
 replace b2:=hx2.blk b2
 replace b3:=hx2.blk b3
 have hpH:=hsz
 generalize hpp:Array.size G2=p at *
 have kz0:b0q G3 (.agg #[.bool false,.slice none 0 0]) (a0l 0):=⟨_,by rw [e0w],by rw [e0w];exact Lim.nil⟩
 simp [g0x,g2,b2]
 refine (Q0Q kz0 (by have:=hx.1;omega) f0).mono ?_
 rintro wz G4 ⟨kz,hx2⟩
 replace hx:=hx.trans hx2
 replace b2:=hx2.blk b2
 replace b3:=hx2.blk b3
 replace b6:=hx2.blk b6
 replace bp:=hx2.blk bp
 have hsz:=hx.1
 replace kd:=kd.mono hx2
 simp
 refine G0F (by simp) kz hsz ?_
 intro ρ2 G5 hx2 b7 g7 hk
 replace g2:=(hk 2 (by decide)).trans (by simpa using g2);replace g3:=(hk 3 (by decide)).trans (by simpa using g3);replace g5:=(hk 5 (by decide)).trans (by simpa using g5);replace g6:=(hk 6 (by decide)).trans (by simpa using g6)
 replace hx:=hx.trans hx2
 replace b2:=hx2.blk b2
 replace b3:=hx2.blk b3
 replace b6:=hx2.blk b6
 replace bp:=hx2.blk bp
 replace kd:=kd.mono hx2
 generalize hp7:Array.size G4=P7 at *
 have hM:rMd F H H.size (H.size + 1) (p + 1) P7 p n m _ ([] ++ []) ([] ++ []) (.slice none 0 0) sD (.slice none 0 0) [] [] G5:=⟨hx,b2,b3,b6,b7,bp,kd,⟨rfl,fun i hi=>by simp at hi,fun i j hi=>by simp at hi⟩,fun w hw=>by simp at hw,b0a.nil,b0a.nil,hpH⟩
 clear b2 b3 b6 bp b7 hx hx2 kz kz0 kd kone hp7 hsz hk
 have hP7l:=hM.b7.lt
 simp [q0W,q0X,g6,g7]
 refine (hM.one (by have:=hM.ext.1;omega) hn hm).mono ?_
 rintro w9 G6 ⟨hw,hx2⟩
 replace hM:rMd F H H.size (H.size + 1) (p + 1) P7 p n m _ ([w9] ++ []) ([List.replicate (2 * n + m + 1) 0] ++ []) (.slice none 0 0) sD (.slice none 0 0) [] [] G6:=hM.ins rfl hw hx2
 simp
 refine (hM.one (by have:=hM.ext.1;omega) hn hm).mono ?_
 rintro w10 G7 ⟨hw',hx3⟩
 replace hM:rMd F H H.size (H.size + 1) (p + 1) P7 p n m _ [w9,w10] [List.replicate (2 * n + m + 1) 0,List.replicate (2 * n + m + 1) 0] (.slice none 0 0) sD (.slice none 0 0) [] [] G7:=hM.ins rfl hw' hx3
 clear hw hw' hx2 hx3
 have b3:=hM.b3
 have hslC:=qC.slen
 rw [hCl] at hslC
 obtain ⟨W,hW⟩:∃ W,W=2 * n + m + 1:=⟨_,rfl⟩
 rw [← hW] at hM
 simp [q0Y,g3,b3,hslC]
 refine c0F (n:=n) (fun k ρ G=>ρ 2=.pointer (some ⟨H.size,0,none⟩)∧ρ 3=.pointer (some ⟨H.size + 1,0,none⟩)∧ρ 5=.int .i64 (m:Int)∧ρ 6=.pointer (some ⟨p + 1,0,none⟩)∧ρ 8=.func (.func (F.p m0i m0h)) #[] #[.pointer (some ⟨p + 1,0,none⟩),.pointer (some ⟨P7,0,none⟩)]∧ρ 9=w9∧ρ 10=w10∧ρ 50=sC ∧
   ∃ M,rMd F H H.size (H.size + 1) (p + 1) P7 p n m [.int .i64 (n:Int),sA,sBy,sC,.bool (a0f q.cb).1.1,s1,.bool (a0f q.cb).2.1,s2] [w9,w10] M (.slice none 0 0) sD (.slice none 0 0) [] [] G∧M.length=2∧Rec W M∧∀ r c,c < W→Tf M r c=if r=1 then (if c < k then -ccq q c else if n≤c∧c < n + k then ccq q (c - n) else 0) else 0)
   rfl rfl (by decide) (by omega) (by simp) (by simp) ?_ ?_ ?_ ?_
 ·refine ⟨by simp [g2],by simp [g3],by simp [g5],by simp [g6],by simp,by simp,by simp,by simp,_,hM,rfl,fun i hi=>?_,fun r c hc=>?_⟩
  ·have:i=0 ∨ i=1:=by simp at hi;omega
   rcases this with rfl | rfl <;> simp
  ·have hrep:∀ r,([List.replicate W 0,List.replicate W 0].getD r ([]:List Int)).getD c 0=0:=fun r=>by
    match r with
    | 0=>exact f0c
    | 1=>exact f0c
    | r + 2=>rfl
   have:Tf [List.replicate W 0,List.replicate W 0] r c=0:=hrep r
   rw [this]
   split
   ·rw [Z0F (by omega),Z0F (by omega)]
   ·rfl
 ·intro i ρ ρ' G h hI;simpa [h] using hI
 ·clear h0 ρ hM b3
  rintro k ρ G hk gk gn ⟨g2,g3,g5,g6,g8,g9,g10,g50,M,hM,hM2,hrec,hTf⟩
  have kC:=qC.mono c0Y hM.ext
  have hkC:k < q.C.length:=by omega
  obtain ⟨cs,ec,hcl,kc⟩:=Sls.load kC hkC (by omega)
  have hcq:q.C[k]=ccq q k:=by unfold ccq;rw [Z0C,Z0H hkC];rfl
  rw [hcq] at kc
  obtain ⟨sc,hcs,kc⟩:=kc
  rw [hcs] at ec
  have hsz:=hM.ext.1
  simp [q0Z,gk,g50,kC.ia hkC,ec,kc.cells,kc.plain,hsz]
  generalize hN:Array.setIfInBounds (Array.push _ _) _ _=G2
  obtain ⟨hx2,b12⟩:=new1 hN
  clear hN
  replace hM:=hM.mono hx2
  replace kc:=kc.mono hx2
  generalize hP12:Array.size G=P12 at *
  simp [r0a,g2,hM.b2,b12]
  refine (V0s (z:=ccq q k) ⟨sc,rfl,kc⟩ hM.ext.1 (hzC k) hR).mono ?_
  rintro wx G8 ⟨kx,hx2⟩
  replace hM:=hM.mono hx2
  have hs8:=hM.ext.1
  clear b12 kc kC ec
  have h1L:1 < M.length:=by omega
  have hk1:k < M[1].length:=by rw [hrec 1 h1L];omega
  have hk2:n + k < M[1].length:=by rw [hrec 1 h1L];omega
  obtain ⟨bw,hbw,hne,hblt⟩:∃ b,AI.blkOf (adr F.w w10 k)=[b]∧H.size + 1 ≠ b∧b < G8.size:=hM.bl (i:=1) (j:=k) h1L hk1
  obtain ⟨zz,hzz⟩:∃ z,z=ccq q k:=⟨_,rfl⟩
  rw [← hzz] at kx
  have hlzz:lz zz < 67108864:=by rw [hzz];exact hzC k
  simp
  refine y0F (by simp) (by decide) (by decide) (by decide) kx hs8 ?_
  intro ρ3 G9 hx9 k13 hb13 hk
  replace hM:=hM.mono hx9
  replace kx:=kx.mono hx9
  have w3:IntKind.i64.wrap ((n:Int) + k)=(n:Int) + k:=a0F (by omega) (by omega)
  have i1:iaV F.w w10 (.int .i64 (k:Int))=some (adr F.w w10 k):=hM.ia (i:=1) (j:=k) h1L hk1
  have i2:iaV F.w w10 (.int .i64 ((n + k:Nat):Int))=some (adr F.w w10 (n + k)):=hM.ia (i:=1) (j:=n + k) h1L hk2
  rw [show ((n + k:Nat):Int)=(n:Int) + k by omega] at i2
  refine c0u ?_
  simp [n0f,g2,g3,g10,hM.b2,hM.b3,w3,hk,k13]
  refine (v0K kx (by have:=hM.ext.1;omega) hlzz).mono ?_
  rintro wn G10 ⟨kn,hx2⟩
  replace hM:=hM.mono hx2
  replace kx:=kx.mono hx2
  obtain ⟨G11,st1,hM1,_,hlx1,_⟩:=hM.store (x:=-zz) (i:=1) (j:=k) h1L hk1 kn
  have h1L':1 < (M.set 1 (M[1].set k (-zz))).length:=by simp;omega
  have hk2':n + k < (M.set 1 (M[1].set k (-zz)))[1].length:=by rw [hrec.set h1L 1 h1L'];omega
  obtain ⟨G12,st2,hM2',_,_,_⟩:=hM1.store (x:=zz) (i:=1) (j:=n + k) h1L' hk2' (kx.lx hlx1)
  replace st1:e0Y H.size G10 F.w (adr F.w w10 k) wn=some G11:=st1
  replace st2:e0Y H.size G11 F.w (adr F.w w10 (n + k)) _=some G12:=st2
  simp [i1,i2,st1,st2,hbw,hne,kpV.mono k13 hx2]
  refine ⟨?_,?_⟩
  ·cases F
   ·simp [hne]
   ·simp [hne]
    rintro a b (⟨rfl,rfl⟩ | ⟨rfl,rfl⟩)
    ·simp [hne]
    ·simp
     intro x hxb;have:=hb13 x hxb;omega
  refine Rnd.mk (by simp [hk,gk]) (by simp [hk,gn]) ⟨by simp [hk,g2],by simp [hk,g3],by simp [hk,g5],by simp [hk,g6],by simp [hk,g8],by simp [hk,g9],by simp [hk,g10],by simp [hk,g50],_,hM2',by simp [hM2],(hrec.set h1L).set h1L',fun r c hc=>?_⟩
  rw [g0c (W:=W) h1L' hk2',g0c (W:=W) h1L hk1,hTf r c hc,hzz]
  by_cases hr:r=1
  ·subst hr
   simp only [true_and,a1p]
   by_cases c1:c=n + k
   ·rw [Z0I c1,Z0F (by omega),Z0I (by omega),c1,show n + k - n=k by omega]
   ·rw [Z0F c1]
    by_cases c2:c=k
    ·rw [Z0I c2,Z0I (by omega),c2]
    ·rw [Z0F c2]
     have p1:(c < k + 1)=(c < k):=c1n (by omega)
     have p2:(n≤c∧c < n + (k + 1))=(n≤c∧c < n + k):=c1n (by omega)
     simp only [p1,p2]
  ·rw [Z0F (fun h=>hr h.1),Z0F (fun h=>hr h.1),Z0F hr,Z0F hr]
 ·clear h0 ρ hM b3
  rintro ρ G gk gn ⟨g2,g3,g5,g6,g8,g9,g10,g50,M,hM,hM2,hrec,hTf⟩
  simp [n0g,g3,hM.b3,hslA]
  generalize hsv:[Value.int .i64 (n:Int),sA,sBy,sC,.bool (a0f q.cb).1.1,s1,.bool (a0f q.cb).2.1,s2]=sv at hM
  have hsv1:∃ a b c d e f,sv=.int .i64 (n:Int) :: sA :: a :: b :: c :: d :: e :: f :: []:=⟨_,_,_,_,_,_,hsv.symm⟩
  refine c0F (n:=m) (X0Y F H p P7 n m W q sv sA sD w9 w10) rfl rfl (by decide) (by omega) (by simp) (by simp) ?_ ?_ ?_ ?_
  ·refine ⟨by simp [g2],by simp [g3],by simp [g6],by simp [g8],by simp [g9],by simp [g10],by simp,[],[],M,_,_,hM,rfl,rfl,hM2,hrec,fun r c hr=>by omega,fun c hc=>?_,fun c hc=>?_,fun r hr=>by omega⟩
   ·rw [hTf 0 c hc,Z0F (by decide)];rfl
   ·rw [hTf 1 c hc,Z0I rfl]
    unfold cost
    by_cases c1:c < n
    ·rw [Z0I c1,Z0I c1]
    ·rw [Z0F c1,Z0F c1]
     by_cases c2:c < 2 * n
     ·rw [Z0I c2,Z0I (by omega)];omega
     ·rw [Z0F c2,Z0F (by omega)];rfl
  ·intro i ρ ρ' G h hI;unfold X0Y at *;simpa [h] using hI
  ·clear g2 g3 g5 g6 g8 g9 g10 g50 hM hM2 hrec hTf gk gn ρ M G
   rintro i ρ G hi gi gm ⟨g2,g3,g6,g8,g9,g10,g77,vs,bs,M,sR,sB,hM,hvl,hbl,hML,hrec,hT1,hT2,hT3,hT4⟩
   obtain ⟨x3,x4,x5,x6,x7,x8,hsv1⟩:=hsv1
   have hiA:i < q.A.length:=by omega
   obtain ⟨wr0,er0,wr,hwr,kr⟩:=Sls.load1x qA hM.ext hiA
   have hwr':wr0=wr:=by simpa using hwr
   subst hwr'
   have hrl:q.A[i].length=n + 1:=hrow _ (Z0M hiA)
   have b3:=hM.b3
   rw [hsv1] at b3
   simp [n0h,gi,g77,(qA.mono o0z hM.ext).ia hiA,er0,n0i,g8]
   refine (hM.one (by have:=hM.ext.1;omega) hn hm).mono ?_
   rintro x G2 ⟨hx,hx2⟩
   rw [← hW] at hx
   have hMt:rMd F H H.size (H.size + 1) (p + 1) P7 p n m sv (vs ++ [w9,w10]) (M.take i ++ M.drop i) sR sD sB vs bs G:=by rw [b1p];exact hM
   have hM':=hMt.ins (by simp;omega) hx hx2
   obtain ⟨M',hM'e⟩:∃ M',M' = M.take i ++ List.replicate W 0 :: M.drop i:=⟨_,rfl⟩
   rw [← hM'e] at hM'
   have hrec':Rec W M':=by rw [hM'e];exact hrec.ins (by simp)
   have hTi:∀ r c,Tf M' r c=if r < i then Tf M r c else if r=i then 0 else Tf M (r - 1) c:=fun r c=>by
    rw [hM'e,Q0U (by omega),f0c]
   have hML':M'.length=i + 3:=by rw [hM'e];simp;omega
   clear hx hMt hM hx2 hM'e
   have hiM:i < M'.length:=by omega
   have hxi:(vs ++ x :: [w9,w10])[i]'(by simp;omega)=x:=by rw [Z0Z (by omega)];simp [hvl]
   have kr2:=kr.mono c0Y hM'.ext
   obtain ⟨v',hsl,kv,hel⟩:=kr2.first (n:=n) (k:=.i64) (by omega)
   have hvs:=kv.slen
   rw [a1H,a1I (by omega)] at hvs
   have b3:=hM'.b3
   rw [hsv1] at b3
   simp [n0j,g3,b3,hsl,hel,hvs]
   refine c0F (n:=n) (fun k ρ G=>ρ 2=.pointer (some ⟨H.size,0,none⟩)∧ρ 3=.pointer (some ⟨H.size + 1,0,none⟩)∧ρ 6=.pointer (some ⟨p + 1,0,none⟩)∧ρ 8=.func (.func (F.p m0i m0h)) #[] #[.pointer (some ⟨p + 1,0,none⟩),.pointer (some ⟨P7,0,none⟩)]∧ρ 9=w9∧ρ 10=w10∧ρ 77=sA∧ρ 78=.int .i64 (m:Int)∧ρ 79=.int .i64 (i:Int)∧ρ 14=.int .i64 (i:Int)∧ρ 15=wr0∧ρ 16=x∧ρ 89=v' ∧
    ∃ M2,rMd F H H.size (H.size + 1) (p + 1) P7 p n m sv (vs ++ x :: [w9,w10]) M2 sR sD sB vs bs G∧M2.length=i + 3∧Rec W M2∧∀ r c,c < W→Tf M2 r c=if r=i then (if c < k then Tf q.A i c else if n≤c∧c < n + k then -Tf q.A i (c - n) else 0) else Tf M' r c)
    rfl rfl (by decide) (by omega) (by simp) (by simp) ?_ ?_ ?_ ?_
   ·refine ⟨by simp [g2],by simp [g3],by simp [g6],by simp [g8],by simp [g9],by simp [g10],by simp [g77],by simp [gm],by simp [gi],by simp [gi],by simp,by simp,by simp,M',hM',hML',hrec',fun r c hc=>?_⟩
    by_cases hr:r=i
    ·subst hr;rw [Z0I rfl,Z0F (by omega),Z0F (by omega),hTi,Z0F (by omega),Z0I rfl]
    ·rw [Z0F hr]
   ·intro i ρ ρ' G h hI;simpa [h] using hI
   ·clear g2 g3 g6 g8 g9 g10 g77 gi gm hM' hrec' b3 hel hvs kr2 kv ρ
    rintro k ρ G hk gk gn ⟨g2,g3,g6,g8,g9,g10,g77,gm,gi,g14,g15,g16,g89,M2,hM,hM2,hrec2,hTf⟩
    obtain ⟨v'',hsl',kv,_⟩:=(kr.mono c0Y hM.ext).first (n:=n) (k:=.i64) (by omega)
    have hvv:v'' = v':=by rw [hsl] at hsl';exact (Option.some.inj hsl').symm
    subst hvv
    have hkC:k < (q.A[i].take n).length:=by rw [a1H];omega
    obtain ⟨cs,ec,hcl,kc⟩:=Sls.load kv hkC (by omega)
    have hcq:(q.A[i].take n)[k]=Tf q.A i k:=by rw [List.getElem_take,F0S hiA (by omega)]
    rw [hcq] at kc
    obtain ⟨sc,hcs,kc⟩:=kc
    rw [hcs] at ec
    have hsz:=hM.ext.1
    simp [n0k,gk,g89,kv.ia hkC,ec,kc.cells,kc.plain,hsz]
    generalize hN:Array.setIfInBounds (Array.push _ _) _ _=G2
    obtain ⟨hx2,b12⟩:=new1 hN
    clear hN
    replace hM:=hM.mono hx2
    replace kc:=kc.mono hx2
    generalize hP12:Array.size G=P12 at *
    simp [n0l,g2,hM.b2,b12]
    refine (V0s (z:=Tf q.A i k) ⟨sc,rfl,kc⟩ hM.ext.1 (hzA _ _) hR).mono ?_
    rintro wx G8 ⟨kx,hx2⟩
    replace hM:=hM.mono hx2
    have hs8:=hM.ext.1
    clear b12 kc kv ec
    have h1L:i < M2.length:=by omega
    have hk1:k < M2[i].length:=by rw [hrec2 i h1L];omega
    have hk2:n + k < M2[i].length:=by rw [hrec2 i h1L];omega
    obtain ⟨bw,hbw,hne,hblt⟩:∃ b,AI.blkOf (adr F.w x k)=[b]∧H.size + 1 ≠ b∧b < G8.size:=by
     have:=hM.bl (i:=i) (j:=k) h1L hk1
     rw [hxi] at this;exact this
    obtain ⟨zz,hzz⟩:∃ z,z=Tf q.A i k:=⟨_,rfl⟩
    rw [← hzz] at kx
    have hlzz:lz zz < 67108864:=by rw [hzz];exact hzA i k
    simp
    refine y0F (by simp) (by decide) (by decide) (by decide) kx hs8 ?_
    intro ρ3 G9 hx9 k13 hb13 hk
    replace hM:=hM.mono hx9
    replace kx:=kx.mono hx9
    have b3:=hM.b3
    rw [hsv1] at b3
    have w3:IntKind.i64.wrap ((n:Int) + k)=(n:Int) + k:=a0F (by omega) (by omega)
    have i1:=hM.ia (i:=i) (j:=k) h1L hk1
    have i2:=hM.ia (i:=i) (j:=n + k) h1L hk2
    rw [hxi] at i1 i2
    rw [show ((n + k:Nat):Int)=(n:Int) + k by omega] at i2
    refine c0u ?_
    simp [n0m,g2,g3,g16,hM.b2,b3,w3,hk,k13]
    refine (v0K kx (by have:=hM.ext.1;omega) hlzz).mono ?_
    rintro wn G10 ⟨kn,hx2⟩
    replace hM:=hM.mono hx2
    replace kx:=kx.mono hx2
    obtain ⟨G11,st1,hM1,_,hlx1,_⟩:=hM.store (x:=zz) (i:=i) (j:=k) h1L hk1 kx
    have h1L':i < (M2.set i (M2[i].set k zz)).length:=by simp;omega
    have hk2':n + k < (M2.set i (M2[i].set k zz))[i].length:=by rw [hrec2.set h1L i h1L'];omega
    obtain ⟨G12,st2,hM2',_,_,_⟩:=hM1.store (x:=-zz) (i:=i) (j:=n + k) h1L' hk2' (kn.lx hlx1)
    rw [hxi] at st1 st2
    simp [i1,i2,st1,st2,hbw,hne]
    refine Rnd.mk ?_ ?_ ?_
    ·simp [hk,gk]
    ·simp [hk,gn]
    refine ⟨by simp [hk,g2],by simp [hk,g3],by simp [hk,g6],by simp [hk,g8],by simp [hk,g9],by simp [hk,g10],by simp [hk,g77],by simp [hk,gm],by simp [hk,gi],by simp [hk,g14],by simp [hk,g15],by simp [hk,g16],by simp [hk,g89],_,hM2',by simp [hM2],(hrec2.set h1L).set h1L',fun r c hc=>?_⟩
    rw [g0c (W:=W) h1L' hk2',g0c (W:=W) h1L hk1,hTf r c hc,hzz]
    by_cases hr:r=i
    ·subst hr
     simp only [true_and,a1p]
     by_cases c1:c=n + k
     ·rw [Z0I c1,Z0F (by omega),Z0I (by omega),c1,show n + k - n=k by omega]
     ·rw [Z0F c1]
      by_cases c2:c=k
      ·rw [Z0I c2,Z0I (by omega),c2]
      ·rw [Z0F c2]
       have p1:(c < k + 1)=(c < k):=c1n (by omega)
       have p2:(n≤c∧c < n + (k + 1))=(n≤c∧c < n + k):=c1n (by omega)
       simp only [p1,p2]
    ·rw [Z0F (fun h=>hr h.1),Z0F (fun h=>hr h.1),Z0F hr,Z0F hr]
   ·clear g2 g3 g6 g8 g9 g10 g77 gi gm hM' hrec' b3 hel hvs kr2 kv hsl ρ
    rintro ρ G gk gn ⟨g2,g3,g6,g8,g9,g10,g77,gm,gi,g14,g15,g16,g89,M2,hM,hM2,hrec2,hTf⟩
    have b3:=hM.b3
    rw [hsv1] at b3
    have bp:=hM.bp
    have b6:=hM.b6
    have b2:=hM.b2
    have hiM2:i < M2.length:=by omega
    have hj1:2 * n + i < M2[i].length:=by rw [hrec2 i hiM2];omega
    have w4:IntKind.i64.wrap (2 * (n:Int) + i)=2 * (n:Int) + i:=a0F (by omega) (by omega)
    have i1:=hM.ia (i:=i) (j:=2 * n + i) hiM2 hj1
    rw [hxi,show ((2 * n + i:Nat):Int)=2 * (n:Int) + i by omega] at i1
    obtain ⟨G2,st1,hM3,_,_,_⟩:=hM.store (x:=1) (i:=i) (j:=2 * n + i) hiM2 hj1 hM.dv
    rw [hxi] at st1
    refine a0A ?_
    simp [n0n,g3,g6,g14,g16,b3,b6,bp,T0o bp,w1,w4,i1,st1]
    obtain ⟨M3,hM3e⟩:∃ M3,M3=M2.set i (M2[i].set (2 * n + i) 1):=⟨_,rfl⟩
    have hrec3:Rec W M3:=by rw [hM3e];exact hrec2.set hiM2
    have hML3:M3.length=i + 3:=by rw [hM3e];simp [hM2]
    have hTf3:∀ r c,c < W→Tf M3 r c=if r=i∧c=2 * n + i then 1 else Tf M2 r c:=fun r c hc=>by rw [hM3e,g0c (W:=W) hiM2 hj1]
    rw [← hM3e] at hM3
    clear b3 bp b6 b2 st1 i1
    have b3:=hM3.b3
    rw [hsv1] at b3
    have bp:=hM3.bp
    have b6:=hM3.b6
    have b2:=hM3.b2
    have kr3:=kr.mono c0Y hM3.ext
    have hnl:n < q.A[i].length:=by omega
    obtain ⟨cs,ec,hcl,kc⟩:=Sls.load kr3 hnl (by omega)
    have hbq:q.A[i][n]=bbq q n i:=by unfold bbq;rw [F0S hiA hnl]
    rw [hbq] at kc
    refine k0n ?_
    simp [n0o,g2,g3,g6,g15,g16,b2,b3,b6,bp,kr3.ia hnl,ec]
    have hq1:=fun (R':a0u) (hR':o0Z F R')=>V0s (fl:=max H.size G2.size) (R:=R') kc (by have:=hM3.ext.1;omega) (hzA i n) hR'
    refine a0V.mono (hq1 _ (z0x 2 rfl rfl hR)) ?_
    clear hq1
    rintro wb G4 ⟨kb,hx2⟩
    replace hM3:=hM3.mono hx2
    have hiM3:i < M3.length:=by omega
    have hj2:2 * n + m < M3[i].length:=by rw [hrec3 i hiM3];omega
    have i1:=hM3.ia (i:=i) (j:=2 * n + m) hiM3 hj2
    rw [hxi,e2] at i1
    obtain ⟨G5,st1,hM4,_,_,_⟩:=hM3.store (x:=bbq q n i) (i:=i) (j:=2 * n + m) hiM3 hj2 kb
    rw [hxi] at st1
    simp [i1,st1]
    obtain ⟨M4,hM4e⟩:∃ M4,M4=M3.set i (M3[i].set (2 * n + m) (bbq q n i)):=⟨_,rfl⟩
    have hrec4:Rec W M4:=by rw [hM4e];exact hrec3.set hiM3
    have hML4:M4.length=i + 3:=by rw [hM4e];simp [hML3]
    have hTf4:∀ r c,c < W→Tf M4 r c=if r=i then d0Y n m (Tf q.A) (bbq q n) i c else Tf M' r c:=fun r c hc=>by
     rw [hM4e,g0c (W:=W) hiM3 hj2,hTf3 r c hc,hTf r c hc]
     by_cases hr:r=i
     ·subst hr
      simp only [true_and,a1p]
      unfold d0Y
      by_cases c0:c=2 * n + m
      ·rw [Z0I c0,Z0F (by omega),Z0F (by omega),Z0F (by omega)]
      ·rw [Z0F c0]
       by_cases c1:c=2 * n + r
       ·rw [Z0I c1,Z0F (by omega),Z0F (by omega),Z0I (by omega),Z0I (by omega)]
       ·rw [Z0F c1]
        by_cases c2:c < n
        ·rw [Z0I c2,Z0I c2]
        ·rw [Z0F c2,Z0F c2]
         by_cases c3:c < 2 * n
         ·rw [Z0I (by omega),Z0I c3]
         ·rw [Z0F (by omega),Z0F c3]
          by_cases c4:c < 2 * n + m
          ·rw [Z0I c4,Z0F (by omega)]
          ·omega
     ·rw [Z0F (fun h=>hr h.1),Z0F (fun h=>hr h.1),Z0F hr,Z0F hr]
    rw [← hM4e] at hM4
    clear b3 bp b6 b2 st1 i1 kc ec kr3 kb hx2
    have b3:=hM4.b3
    rw [hsv1] at b3
    have bp:=hM4.bp
    have b6:=hM4.b6
    have b2:=hM4.b2
    have hiM4:i < M4.length:=by omega
    have hj3:2 * n + m < M4[i].length:=by rw [hrec4 i hiM4];omega
    obtain ⟨wv,ev,fv⟩:=hM4.num (i:=i) (j:=2 * n + m) hiM4 hj3
    have i1:=hM4.ia (i:=i) (j:=2 * n + m) hiM4 hj3
    rw [hxi] at ev i1
    rw [e2] at i1
    rw [hTf4 i (2 * n + m) (by omega),Z0I rfl,f0m] at fv
    simp [n0p,g3,g14,b3,w1,w4]
    refine a0A ?_
    simp [n0q,g2,g6,g16,b2,b6,bp,i1,ev]
    refine (p0S fv (by have:=hM4.ext.1;omega) (hzA i n)).mono ?_
    rintro _ G6 ⟨rfl,hx2⟩
    replace hM4:=hM4.mono hx2
    clear b3 bp b6 b2 ev fv i1
    by_cases hneg:bbq q n i < 0
    ·have hc:c0Q (bbq q n i) 0 = -1:=by unfold c0Q;rw [Z0I hneg]
     have bp:=hM4.bp
     have b6:=hM4.b6
     have hslx:=(hM4.rows.own i hiM4).slen
     rw [hxi,hrec4 i hiM4] at hslx
     have w5:IntKind.i64.wrap (2 * (n:Int) + m + i)=2 * (n:Int) + m + i:=a0F (by omega) (by omega)
     have hx9:(vs ++ x :: [w9,w10])[i + 1]'(by simp;omega)=w9:=by rw [Z0Z (by omega)];simp [hvl]
     simp [hc,n0r,g6,g14,b6,bp,w5,n0s,g16,hslx]
     refine c0F (n:=W) (fun k ρ G=>ρ 2=.pointer (some ⟨H.size,0,none⟩)∧ρ 3=.pointer (some ⟨H.size + 1,0,none⟩)∧ρ 6=.pointer (some ⟨p + 1,0,none⟩)∧ρ 8=.func (.func (F.p m0i m0h)) #[] #[.pointer (some ⟨p + 1,0,none⟩),.pointer (some ⟨P7,0,none⟩)]∧ρ 9=w9∧ρ 10=w10∧ρ 77=sA∧ρ 78=.int .i64 (m:Int)∧ρ 79=.int .i64 (i:Int)∧ρ 16=x∧ρ 20=.int .i64 (2 * (n:Int) + m + i) ∧
      ∃ M5,rMd F H H.size (H.size + 1) (p + 1) P7 p n m sv (vs ++ x :: [w9,w10]) M5 sR sD sB vs bs G∧M5.length=i + 3∧Rec W M5∧∀ r c,c < W→Tf M5 r c=if r=i then (if c < k then -d0Y n m (Tf q.A) (bbq q n) i c else d0Y n m (Tf q.A) (bbq q n) i c) else if r=i + 1 then (if c < k then -r0x q n m i c - -d0Y n m (Tf q.A) (bbq q n) i c else -r0x q n m i c) else Tf M' r c)
      rfl rfl (by decide) (by omega) (by simp) (by simp) ?_ ?_ ?_ ?_
     ·refine ⟨by simp [g2],by simp [g3],by simp [g6],by simp [g8],by simp [g9],by simp [g10],by simp [g77],by simp [gm],by simp [gi],by simp [g16],by simp,M4,hM4,hML4,hrec4,fun r c hc=>?_⟩
      rw [hTf4 r c hc]
      by_cases hri:r=i
      ·rw [Z0I hri,Z0I hri,Z0F (by omega)]
      ·rw [Z0F hri,Z0F hri]
       by_cases hri2:r=i + 1
       ·rw [Z0I hri2,Z0F (by omega),hri2,hTi,Z0F (by omega),Z0F (by omega),show i + 1 - 1=i by omega,hT2 c hc]
       ·rw [Z0F hri2]
     ·intro i ρ ρ' G h hI;simpa [h] using hI
     ·clear g2 g3 g6 g8 g9 g10 g77 gi gm g14 g15 g16 g89 b6 bp hslx hc
      rintro k ρ G hk gk gn ⟨g2,g3,g6,g8,g9,g10,g77,gm,gi,g16,g20,M5,hM,hML5,hrec5,hTf5⟩
      have hiM:i < M5.length:=by omega
      have hki:k < M5[i].length:=by rw [hrec5 i hiM];exact hk
      obtain ⟨wv,ev,fv⟩:=hM.num (i:=i) (j:=k) hiM hki
      have i1:=hM.ia (i:=i) (j:=k) hiM hki
      rw [hxi] at ev i1
      rw [hTf5 i k hk,Z0I rfl,Z0F (by omega)] at fv
      obtain ⟨oc,hoc⟩:∃ z,z=d0Y n m (Tf q.A) (bbq q n) i k:=⟨_,rfl⟩
      rw [← hoc] at fv
      have hlo:lz oc < 67108864:=by
       rw [hoc];unfold d0Y
       split
       ·exact hzA _ _
       ·split
        ·rw [e0P];exact hzA _ _
        ·split
         ·split
          ·rw [f0O];decide
          ·rw [c0v];decide
         ·exact hzA _ _
      have b2:=hM.b2
      have hsz:=hM.ext.1
      simp [n0t,gk]
      refine a0A ?_
      simp [n0u,g2,g16,gk,b2,i1,ev]
      refine (v0K fv (by omega) hlo).mono ?_
      rintro wn G2 ⟨kn,hx2⟩
      replace hM:=hM.mono hx2
      obtain ⟨G3,st1,hM6,_,_,hs3⟩:=hM.store (x:=-oc) (i:=i) (j:=k) hiM hki kn
      rw [hxi] at st1
      simp [i1,st1]
      obtain ⟨M6,hM6e⟩:∃ M6,M6=M5.set i (M5[i].set k (-oc)):=⟨_,rfl⟩
      have hrec6:Rec W M6:=by rw [hM6e];exact hrec5.set hiM
      have hML6:M6.length=i + 3:=by rw [hM6e];simp [hML5]
      have hTf6:∀ r c,Tf M6 r c=if r=i∧c=k then -oc else Tf M5 r c:=fun r c=>by rw [hM6e,g0c (W:=W) hiM hki]
      rw [← hM6e] at hM6
      have hiM6:i < M6.length:=by omega
      have hi1M6:i + 1 < M6.length:=by omega
      have hki6:k < M6[i].length:=by rw [hrec6 i hiM6];exact hk
      have hk16:k < M6[i + 1].length:=by rw [hrec6 (i + 1) hi1M6];exact hk
      obtain ⟨wx,ex,fx⟩:=hM6.num (i:=i) (j:=k) hiM6 hki6
      obtain ⟨wl,el,fl9⟩:=hM6.num (i:=i + 1) (j:=k) hi1M6 hk16
      have i2:=hM6.ia (i:=i + 1) (j:=k) hi1M6 hk16
      have i3:=hM6.ia (i:=i) (j:=k) hiM6 hki6
      rw [hxi] at ex i3
      rw [hx9] at el i2
      rw [hTf6 i k,Z0I ⟨rfl,rfl⟩] at fx
      rw [hTf6 (i + 1) k,Z0F (by omega),hTf5 (i + 1) k hk,Z0F (by omega),Z0I rfl,Z0F (by omega)] at fl9
      have b6:=hM6.b6
      have hsz:=hM6.ext.1
      refine k0n ?_
      simp [n0v,g6,g9,g16,b6,i2,i3,ex,el]
      have hq1:=fun (R':a0u) (hR':o0Z F R')=>Q0P (fl:=H.size) (R:=R') hsz hM6.bp fl9 fx (by rw [e0P];exact hzL i k (by omega) (by omega)) (by rw [e0P];exact hlo) hR'
      refine a0V.mono (hq1 _ (z0x 2 rfl rfl hR)) ?_
      clear hq1
      rintro ws G4 ⟨kw,hx4⟩
      replace hM6:=hM6.mono hx4
      obtain ⟨G5,st2,hM7,_,_,_⟩:=hM6.store (x:=-r0x q n m i k - -oc) (i:=i + 1) (j:=k) hi1M6 hk16 kw
      rw [hx9] at st2
      simp [i2,st2]
      refine Rnd.mk ?_ ?_ ?_
      ·simp [gk]
      ·simp [gn]
      refine ⟨by simp [g2],by simp [g3],by simp [g6],by simp [g8],by simp [g9],by simp [g10],by simp [g77],by simp [gm],by simp [gi],by simp [g16],by simp [g20],_,hM7,by simp [hML6],hrec6.set hi1M6,fun r c hc=>?_⟩
      rw [g0c (W:=W) hi1M6 hk16,hTf6 r c,hTf5 r c hc,hoc]
      have p1:c ≠ k→(c < k + 1)=(c < k):=fun h=>c1n (by omega)
      by_cases hri:r=i
      ·subst hri
       rw [Z0F (by omega)]
       by_cases hck:c=k
       ·subst hck;simp
       ·simp [hck,p1 hck]
      ·by_cases hri2:r=i + 1
       ·subst hri2
        by_cases hck:c=k
        ·subst hck;simp
        ·simp [hck,p1 hck]
       ·simp [hri,hri2]
     ·clear g2 g3 g6 g8 g9 g10 g77 gi gm g14 g15 g16 g89 b6 bp hslx hc
      rintro ρ G gk gn ⟨g2,g3,g6,g8,g9,g10,g77,gm,gi,g16,g20,M5,hM5,hML5,hrec5,hTf5'⟩
      have hbz:((j0H n m (bbq q n) i:Nat):Int)=2 * (n:Int) + m + i:=by unfold j0H;rw [Z0I hneg];omega
      have hTf5:∀ r c,c < W→Tf M5 r c=if r=i then sg (bbq q n) i * d0Y n m (Tf q.A) (bbq q n) i c else if r=i + 1 then -r0x q n m (i + 1) c else Tf M' r c:=fun r c hc=>by
       rw [hTf5' r c hc]
       by_cases hri:r=i
       ·rw [Z0I hri,Z0I hri,Z0I hc];unfold sg;rw [Z0I hneg];omega
       ·rw [Z0F hri,Z0F hri]
        by_cases hri2:r=i + 1
        ·rw [Z0I hri2,Z0I hri2,Z0I hc]
         have:r0x q n m (i + 1) c=r0x q n m i c + -d0Y n m (Tf q.A) (bbq q n) i c:=by unfold r0x;rw [sm,Z0I hneg];unfold sg;rw [Z0I hneg];omega
         rw [this];omega
        ·rw [Z0F hri2,Z0F hri2]
      have hx4:=(hM5.rows.own i (by omega)).cells
      rw [hxi] at hx4
      obtain ⟨sR',G8,sB',G9,a1,a2,q1,p1,q2,p2,c1,c2,c3,c4,hbR,hbB,hset⟩:=hM5.push2 (w:=x) hx4.2 (b:=j0H n m (bbq q n) i) (by omega) (by omega)
      have b6:=hM5.b6
      have bp:=hM5.bp
      refine c0u ?_
      have hpl8:=a0g p2
      rw [hbz] at a2
      simp [i0W,g6,g16,g20,b6,bp,hx4.1,a1,q1,p1,a2,q2,p2,c1,c2,c3,c4,hpH,hpl8]
      generalize hS1:Array.setIfInBounds G9 p _=G10
      have hM6:=hset G10 (by rw [← hS1])
      clear hset
      refine ⟨⟨fun h=>(hbR _ h).1 rfl,fun x h=>(hbR x h).1,fun x h=>(hbR x h).2,fun h=>hbB _ h rfl⟩,?_⟩
      refine Rnd.mk ?_ ?_ ?_
      ·simp [gi]
      ·simp [gm]
      refine ⟨by simp [g2],by simp [g3],by simp [g6],by simp [g8],by simp [g9],by simp [g10],by simp [g77],vs ++ [x],bs ++ [j0H n m (bbq q n) i],M5,sR',sB',by simpa using hM6,by simp [hvl],by simp [hbl],hML5,hrec5,fun r c hr hc=>?_,fun c hc=>?_,fun c hc=>?_,fun r hr=>?_⟩
      ·rw [hTf5 r c hc]
       by_cases hri:r=i
       ·subst hri;rw [Z0I rfl]
       ·rw [Z0F hri,Z0F (by omega),hTi,Z0I (by omega),hT1 r c (by omega) hc]
      ·rw [hTf5 (i + 1) c hc,Z0F (by omega),Z0I rfl]
      ·rw [hTf5 (i + 2) c hc,Z0F (by omega),Z0F (by omega),hTi,Z0F (by omega),Z0F (by omega)]
       exact hT3 c hc
      ·unfold bf
       rw [Z0C]
       by_cases hri:r=i
       ·subst hri
        rw [a1u (by omega),show r - bs.length=0 by omega];rfl
       ·rw [a1q (by omega),← Z0C]
        exact hT4 r (by omega)
    ·have hc:¬ c0Q (bbq q n i) 0 < 0:=by unfold c0Q;rw [Z0F hneg];split <;> omega
     have hbz:((j0H n m (bbq q n) i:Nat):Int)=2 * (n:Int) + i:=by unfold j0H;rw [Z0F hneg];omega
     obtain ⟨M5,hM5e⟩:∃ M5,M5=M4:=⟨_,rfl⟩
     have hM5:=hM4
     have hML5:=hML4
     have hrec5:=hrec4
     have hTf5:∀ r c,c < W→Tf M4 r c=if r=i then sg (bbq q n) i * d0Y n m (Tf q.A) (bbq q n) i c else if r=i + 1 then -r0x q n m (i + 1) c else Tf M' r c:=fun r c hc=>by
      rw [hTf4 r c hc]
      by_cases hri:r=i
      ·rw [Z0I hri,Z0I hri];unfold sg;rw [Z0F hneg,Int.one_mul]
      ·rw [Z0F hri,Z0F hri]
       by_cases hri2:r=i + 1
       ·rw [Z0I hri2,hri2,hTi,Z0F (by omega),Z0F (by omega),show i + 1 - 1=i by omega,hT2 c hc]
        have:r0x q n m (i + 1) c=r0x q n m i c:=by unfold r0x;rw [sm,Z0F hneg,b1a]
        rw [this]
       ·rw [Z0F hri2]
     rw [← hM5e] at hM5 hML5 hrec5 hTf5
     simp [hc]
     have hx4:=(hM5.rows.own i (by omega)).cells
     rw [hxi] at hx4
     obtain ⟨sR',G8,sB',G9,a1,a2,q1,p1,q2,p2,c1,c2,c3,c4,hbR,hbB,hset⟩:=hM5.push2 (w:=x) hx4.2 (b:=j0H n m (bbq q n) i) (by omega) (by omega)
     have b6:=hM5.b6
     have bp:=hM5.bp
     refine c0u ?_
     have hpl8:=a0g p2
     rw [hbz] at a2
     simp [i0W,g6,g16,b6,bp,hx4.1,a1,q1,p1,a2,q2,p2,c1,c2,c3,c4,hpH,hpl8]
     generalize hS1:Array.setIfInBounds G9 p _=G10
     have hM6:=hset G10 (by rw [← hS1])
     clear hset
     refine ⟨⟨fun h=>(hbR _ h).1 rfl,fun x h=>(hbR x h).1,fun x h=>(hbR x h).2,fun h=>hbB _ h rfl⟩,?_⟩
     refine Rnd.mk ?_ ?_ ?_
     ·simp [gi]
     ·simp [gm]
     refine ⟨by simp [g2],by simp [g3],by simp [g6],by simp [g8],by simp [g9],by simp [g10],by simp [g77],vs ++ [x],bs ++ [j0H n m (bbq q n) i],M5,sR',sB',by simpa using hM6,by simp [hvl],by simp [hbl],hML5,hrec5,fun r c hr hc=>?_,fun c hc=>?_,fun c hc=>?_,fun r hr=>?_⟩
     ·rw [hTf5 r c hc]
      by_cases hri:r=i
      ·subst hri;rw [Z0I rfl]
      ·rw [Z0F hri,Z0F (by omega),hTi,Z0I (by omega),hT1 r c (by omega) hc]
     ·rw [hTf5 (i + 1) c hc,Z0F (by omega),Z0I rfl]
     ·rw [hTf5 (i + 2) c hc,Z0F (by omega),Z0F (by omega),hTi,Z0F (by omega),Z0F (by omega)]
      exact hT3 c hc
     ·unfold bf
      rw [Z0C]
      by_cases hri:r=i
      ·subst hri
       rw [a1u (by omega),show r - bs.length=0 by omega];rfl
      ·rw [a1q (by omega),← Z0C]
       exact hT4 r (by omega)
  ·clear g2 g3 g5 g6 g8 g9 g10 g50 hM hM2 hrec hTf gk gn ρ M G
   rintro ρ G gi gm ⟨g2,g3,g6,g8,g9,g10,g77,vs,bs,M,sR,sB,hM,hvl,hbl,hML,hrec,hT1,hT2,hT3,hT4⟩
   have b6:=hM.b6
   have bp:=hM.bp
   have c9:=(hM.rows.own m (by omega)).cells
   have c10:=(hM.rows.own (m + 1) (by omega)).cells
   have r9:(vs ++ [w9,w10])[m]'(by simp;omega)=w9:=by rw [Z0Z (by omega)];simp [hvl]
   have r10:(vs ++ [w9,w10])[m + 1]'(by simp;omega)=w10:=by rw [Z0Z (by omega)];simp [hvl]
   rw [r9] at c9
   rw [r10] at c10
   obtain ⟨sR',G2,a1,o1,x1,y1⟩:=y0s hM.heads c9.2 c10.2 (by omega) (bytes:=24) (by omega) hM.ext.1
   have lx1:∀ {e:Nat},F.S ≠ e→LxT e G G2:=fun hne=>hM.heads.lxT hne x1
   have p1:=lx1 (by cases F <;> decide) _ _ _ bp
   have q1:=lx1 (by cases F <;> decide) _ _ _ b6
   have nR6:=hM.heads.ne b6 (by cases F <;> decide)
   have hR':=hM.heads.blkOf
   obtain ⟨cR,pR⟩:=o1.cells
   have hpl:=a0g p1
   refine c0u ?_
   simp [n0w,g6,g9,g10,b6,bp,c9.1,c10.1,a1,q1,p1,cR,pR,hpH,hpl]
   have hnR:¬ (p + 1) ∈ blkW sR:=by
    rcases hR' with h0 | ⟨c,h0,h1⟩
    ·rw [h0];simp
    ·rw [h0,c1q]
     intro h5;exact nR6 (by rw [h1,h5])
   generalize hS:Array.setIfInBounds G2 p _=G3
   have lx3:∀ {e:Nat},F.T ≠ e→LxT e G2 G3:=fun hne=>a0X hS p1 hne
   have q3:=lx3 (by cases F <;> decide) _ _ _ q1
   have hlx:Lx G G3:=fun b ro cs hb=>lx3 (by cases F <;> decide) b ro cs (lx1 (by cases F <;> decide) b ro cs hb)
   refine ⟨hnR,?_⟩
   simp [n0x,g6,q3]
   refine fun _=>⟨p,M,bs,sR',sD,sB,vs ++ [w9,w10],rfl,⟨?_,hpH,(hM.d.lx hlx),o1.lxm (Q':=PV) (lx3 (by cases F <;> decide)) (fun _ _ h=>h),⟨hM.rows.len,fun r hr=>((hM.rows.own r hr).lxm (Q':=F.P) (lx1 (by cases F <;> decide)) (fun cs x hx=>O0M.lx _ _ _ _ (lx1 (by cases F <;> decide)) hx)).lxm (lx3 (by cases F <;> decide)) (fun cs x hx=>O0M.lx _ _ _ _ (lx3 (by cases F <;> decide)) hx),hM.rows.apart⟩,(hM.basis.lxm (Q':=PK) (lx1 (by cases F <;> decide)) (fun _ _ h=>h)).lxm (lx3 (by cases F <;> decide)) (fun _ _ h=>h)⟩,⟨hML,fun r hr=>by rw [hrec r hr,hW],hbl⟩,fun r c hr hc=>?_,fun r hr=>hT4 r hr⟩
   ·rw [a0M hS p1]
   ·by_cases h1:r < m
    ·rw [hT1 r c h1 (by omega),e0s h1]
    ·by_cases h2:r=m
     ·subst h2;rw [hT2 c (by omega),g0i];rfl
     ·have:r=m + 1:=by omega
      subst this;rw [hT3 c (by omega),e0x]
end
section
open Go
set_option maxHeartbeats 4000000
variable {fl:Nat} {H G:a0e} {R:a0u} {v w:Value} {a b:b0k}
theorem j0O {x:Rat} (h:b0R H v (a0f x)) (hf:fl≤H.size) (hn:szR x < 67108864) :
  a0V env fl y0f [v] H (fun r H'=>b0R H' r (a0f (-x))∧Ext H H') R:=by
 have k0:=h
 obtain ⟨s,u,rfl,hs,hu⟩:=h
 refine a0k X0b hf (h:=?_)
 intro ρ h0
 simp [H0W,D0c,h0]
 generalize hG:Array.push (Array.push H _) _=G
 have hx2:Ext H G:=by rw [← hG];exact (Ext.refl H).push.push
 have b0:a0e.blk G H.size=.row false a0b [.bool (a0f x).1.1,s,.bool (a0f x).2.1,u]:=by rw [← hG];simp
 have b1:a0e.blk G (H.size + 1)=.row false a0b [.bool false,.slice none 0 0,.bool false,.slice none 0 0]:=by rw [← hG];simp
 have hx:=Ext.refl H
 clear hG
 replace hx:=hx.trans hx2
 have k1:=hs.mono hx
 have k2:=hu.mono hx
 have ln:(a0l x.num).2.length=lz x.num:=rfl
 have l1:=f0d x
 refine a0A ?_
 simp [D0d,b0]
 refine (e0f (i:=a0l x.num) ⟨s,rfl,k1⟩ (by have:=hx.1;omega) (by omega)).mono ?_
 rintro _ G2 ⟨⟨s1,rfl,k3⟩,hx2⟩
 replace b0:=hx2.blk b0;replace b1:=hx2.blk b1;replace hx:=hx.trans hx2;replace k2:=k2.mono hx2
 rw [a0j] at k3 ⊢
 have hsz:=hx.1
 have hz:=a0g b1
 simp [b0,b1,k2.cells,k2.plain,k3.cells,k3.plain,hsz,hz]
 have e:a0f (-x)=(a0l (-x.num),a0l x.den):=by unfold a0f;rw [Rat.neg_num,Rat.neg_den]
 rw [e]
 exact fun _=>⟨s1,u,rfl,k3.setT b1 (by decide),k2.setT b1 (by decide)⟩
theorem j0B (h:b0R H v a) (k:b0R H w b) (hf:fl≤H.size) (hn:e0O a < 67108864) (hm:e0O b < 67108864) :
  a0V env fl w0d [v,w] H (fun r H'=>b0R H' r (a0f (b0A a - b0A b))∧Ext H H') R:=by
 have k0:=h
 have k1:=k
 obtain ⟨s,u,rfl,hs,hu⟩:=h
 obtain ⟨s',u',rfl,hs',hu'⟩:=k
 refine a0k W0S hf (h:=?_)
 intro ρ h0
 simp [H0N,C0f,h0]
 generalize hG:Array.push (Array.push (Array.push H _) _) _=G
 have hx2:Ext H G:=by rw [← hG];exact (Ext.refl H).push.push.push
 have b0:a0e.blk G H.size=.row false a0b [.bool a.1.1,s,.bool a.2.1,u]:=by rw [← hG];simp
 have b1:a0e.blk G (H.size + 1)=.row false a0b [.bool b.1.1,s',.bool b.2.1,u']:=by rw [← hG];simp
 have b2:a0e.blk G (H.size + 2)=.row false a0b [.bool false,.slice none 0 0,.bool false,.slice none 0 0]:=by rw [← hG];simp
 have hx:=Ext.refl H
 clear hG
 replace hx:=hx.trans hx2;replace k0:=k0.mono hx2;replace k1:=k1.mono hx2
 have sb:=d0s k1.ok.1 k1.ok.2
 refine a0A ?_
 simp [C0g,b0,b1]
 refine (b0W k1 (by have:=hx.1;omega) (by omega)).mono ?_
 rintro y G2 ⟨k2,hx2⟩
 replace b2:=hx2.blk b2;replace hx:=hx.trans hx2;replace k0:=k0.mono hx2
 simp
 refine (j0O k2 (by have:=hx.1;omega) (by omega)).mono ?_
 rintro z G3 ⟨k3,hx2⟩
 replace b2:=hx2.blk b2;replace hx:=hx.trans hx2;replace k0:=k0.mono hx2
 have sn:=F0C (b0A b)
 simp
 refine (b0D k0 k3 hx.1 hn (by rw [a0x];omega)).mono ?_
 rintro _ G4 ⟨⟨s1,s2,rfl,k4,k5⟩,hx2⟩
 replace b2:=hx2.blk b2;replace hx:=hx.trans hx2
 rw [a0s,← Rat.sub_eq_add_neg] at k4 k5 ⊢
 have hz:=a0g b2
 simp [b2,k4.cells,k4.plain,k5.cells,k5.plain,hz]
 exact fun _=>⟨s1,s2,rfl,k4.setT b2 (by decide),k5.setT b2 (by decide)⟩
theorem r0g (h:b0R H v a) (k:b0R H w b) (hf:fl≤H.size) (hn:e0O a < 67108864) (hm:e0O b < 67108864) (hb0:b0A b ≠ 0) :
  a0V env fl y0a [v,w] H (fun r H'=>(∃ q,r=.tuple #[q,.int .i64 0]∧b0R H' q (a0f (b0A a / b0A b)))∧Ext H H') R:=by
 have k0:=h
 have k1:=k
 obtain ⟨s,u,rfl,hs,hu⟩:=h
 obtain ⟨s',u',rfl,hs',hu'⟩:=k
 refine a0k W0Q hf (h:=?_)
 intro ρ h0
 simp [H0L,B0Z,h0]
 generalize hG:Array.push (Array.push (Array.push H _) _) _=G
 have hx2:Ext H G:=by rw [← hG];exact (Ext.refl H).push.push.push
 have b0:a0e.blk G H.size=.row false a0b [.bool a.1.1,s,.bool a.2.1,u]:=by rw [← hG];simp
 have b1:a0e.blk G (H.size + 1)=.row false a0b [.bool b.1.1,s',.bool b.2.1,u']:=by rw [← hG];simp
 have b2:a0e.blk G (H.size + 2)=.row false a0b [.bool false,.slice none 0 0,.bool false,.slice none 0 0]:=by rw [← hG];simp
 have hx:=Ext.refl H
 clear hG
 replace hx:=hx.trans hx2;replace k0:=k0.mono hx2;replace k1:=k1.mono hx2
 have sa:=d0s k0.ok.1 k0.ok.2
 have sb:=d0s k1.ok.1 k1.ok.2
 refine a0A ?_
 simp [C0a,b0]
 refine (b0W k0 (by have:=hx.1;omega) (by omega)).mono ?_
 rintro _ G2 ⟨⟨s1,s2,rfl,k2,k3⟩,hx2⟩
 replace b0:=hx2.blk b0;replace b1:=hx2.blk b1;replace b2:=hx2.blk b2;replace hx:=hx.trans hx2;replace k0:=k0.mono hx2;replace k1:=k1.mono hx2
 simp [b1]
 refine (b0W k1 hx.1 (by omega)).mono ?_
 rintro _ G2 ⟨⟨s3,s4,rfl,k4,k5⟩,hx2⟩
 replace b0:=hx2.blk b0;replace b1:=hx2.blk b1;replace b2:=hx2.blk b2;replace hx:=hx.trans hx2;replace k0:=k0.mono hx2;replace k1:=k1.mono hx2;replace k2:=k2.mono hx2;replace k3:=k3.mono hx2
 clear k0 k1
 have hz0:=a0g b0
 simp [b0,k2.cells,k2.plain,k3.cells,k3.plain,hz0]
 generalize hS:Array.setIfInBounds _ _ _=G3
 have hsz:=hx.1;replace k2:=k2.setS hS b0 (by decide);replace k3:=k3.setS hS b0 (by decide);replace k4:=k4.setS hS b0 (by decide);replace k5:=k5.setS hS b0 (by decide);replace b1:=a0z hS b1 (by omega);replace b2:=a0z hS b2 (by omega);replace hx:=b0J hS hx (by omega);replace b0:=a0M hS b0;clear hS hsz
 have hz0:=a0g b1
 simp [b1,k4.cells,k4.plain,k5.cells,k5.plain,hz0]
 generalize hS:Array.setIfInBounds _ _ _=G3
 have hsz:=hx.1;replace k2:=k2.setS hS b1 (by decide);replace k3:=k3.setS hS b1 (by decide);replace k4:=k4.setS hS b1 (by decide);replace k5:=k5.setS hS b1 (by decide);replace b0:=a0z hS b0 (by omega);replace b2:=a0z hS b2 (by omega);replace hx:=b0J hS hx (by omega);replace b1:=a0M hS b1;clear hS hsz
 obtain ⟨x,hxv⟩:∃ x,x=b0A a:=⟨_,rfl⟩
 obtain ⟨y,hyv⟩:∃ y,y=b0A b:=⟨_,rfl⟩
 rw [← hxv] at sa k2 k3 b0 ⊢
 rw [← hyv] at sb k4 k5 b1 hb0 ⊢
 have k0:b0q _ (.agg #[.bool (a0f x).1.1,s1]) (a0l x.num):=⟨s1,rfl,k2⟩
 have k1:b0q _ (.agg #[.bool (a0f x).2.1,s2]) (a0l x.den):=⟨s2,rfl,k3⟩
 have k6:b0q _ (.agg #[.bool (a0f y).1.1,s3]) (a0l y.num):=⟨s3,rfl,k4⟩
 have k7:b0q _ (.agg #[.bool (a0f y).2.1,s4]) (a0l y.den):=⟨s4,rfl,k5⟩
 have l1:=f0d x
 have l2:=g0F x
 have l3:=f0d y
 have l4:=g0F y
 clear hs hu hs' hu' k2 k3 k4 k5
 refine a0A ?_
 simp [C0b,b0,b1]
 refine (b0w k0 k7 (by have:=hx.1;omega) (by rw [a0n];omega) (by rw [a0n];omega)).mono ?_
 rintro _ G4 ⟨k2,hx2⟩
 replace b0:=hx2.blk b0;replace b1:=hx2.blk b1;replace b2:=hx2.blk b2;replace hx:=hx.trans hx2;replace k1:=k1.mono hx2;replace k6:=k6.mono hx2;replace k7:=k7.mono hx2
 simp [b0,b1]
 refine (b0w k1 k6 hx.1 (by rw [a0n];omega) (by rw [a0n];omega)).mono ?_
 rintro _ G5 ⟨k3,hx2⟩
 replace b2:=hx2.blk b2;replace hx:=hx.trans hx2;replace k2:=k2.mono hx2;replace k6:=k6.mono hx2;replace k7:=k7.mono hx2
 rw [a0j,a0j] at k2 k3
 have q1:=c0X x.num y.den
 have q2:=c0X x.den y.num
 have hne:(x.den:Int) * y.num ≠ 0:=Int.mul_ne_zero (by have:=x.den_nz;omega) (fun h=>hb0 (Rat.num_eq_zero.1 h))
 rw [m0I]
 generalize x.num * y.den=p at *
 generalize (x.den:Int) * y.num=q at *
 simp
 have hq:=fun R'=>d0x (fl:=H.size) (R:=R') k2 k3 hx.1 (by rw [a0n];omega) (by rw [a0n];omega) (by rw [a0j];exact hne)
 simp only [a0j] at hq
 refine (hq _).mono ?_
 rintro _ G6 ⟨⟨_,rfl,s8,s9,rfl,k6,k7⟩,hx2⟩
 replace b2:=hx2.blk b2;replace hx:=hx.trans hx2
 have hz:=a0g b2
 simp [b2,k6.cells,k6.plain,k7.cells,k7.plain,hz]
 exact fun _=>⟨s8,s9,rfl,k6.setT b2 (by decide),k7.setT b2 (by decide)⟩
end
section
open Go SX
set_option maxHeartbeats 4000000
variable {fl:Nat} {H G:a0e} {R:a0u} {v w u:Value} {F:RK}
theorem z0p {a b D:Int} (hD:D ≠ 0):Rat.divInt a D + Rat.divInt b D=Rat.divInt (a + b) D:=by
 rw [Rat.divInt_add_divInt _ _ hD hD,← Int.add_mul,Rat.divInt_mul_right hD]
theorem S0E {b D:Int}:-Rat.divInt b D=Rat.divInt (-b) D:=by
 first
 | rw [Rat.neg_divInt]
 | rw [← Rat.neg_divInt]
theorem J0c {a b D:Int} (hD:D ≠ 0):Rat.divInt a D - Rat.divInt b D=Rat.divInt (a - b) D:=by
 rw [Rat.sub_eq_add_neg,S0E,z0p hD,b1M]
theorem O0L {D:Int}:Rat.divInt 0 D=0:=Rat.zero_divInt D
def ptq (n:Nat) (base:Nat→Nat) (Fv:Nat→Int) (q k:Nat):Int:=sm (fun i=>if base i=k then Fv i else if base i=n + k then -Fv i else 0) q
theorem m0Q {n:Nat} {base:Nat→Nat} {Fv:Nat→Int} {K k:Nat}:∀ {q:Nat},(∀ i,i < q→lz (Fv i)≤K)→lz (ptq n base Fv q k)≤K + q
 | 0,_=>by unfold ptq;rw [sm,c0v];omega
 | q + 1,h=>by
  have h1:=m0Q (n:=n) (base:=base) (k:=k) (q:=q) (fun i hi=>h i (by omega))
  have h2:=h q (by omega)
  have h3:∀ z,lz z≤K→lz (ptq n base Fv q k + z)≤K + (q + 1):=fun z hz=>by
   have:=q0A (ptq n base Fv q k) z;omega
  show lz (ptq n base Fv q k + if base q=k then Fv q else if base q=n + k then -Fv q else 0)≤_
  split
  ·exact h3 _ h2
  ·split
   ·exact h3 _ (by rw [e0P];exact h2)
   ·exact h3 _ (by rw [c0v];omega)
theorem d0F {n j:Nat} {f g:Nat→b0k} (h:∀ k,k < n→k ≠ j→g k=f k):((List.range n).map f).set j (g j)=(List.range n).map g:=by
 apply List.ext_getElem
 ·simp
 ·intro k h1 h2
  rw [List.getElem_set]
  simp only [a1t,b1c]
  split
  ·rename_i h3;rw [h3]
  ·rename_i h3;rw [h k (by simpa using h2) (fun h4=>h3 h4.symm)]
theorem r0A {f0 p n m:Nat} {L:List (List Int)} {k D x:Int} {bs:List Nat} {sR sD sB vx:Value} {vs:List Value} (h:e0p F f0 H p n m L D bs k sR sD sB vs) (hf:fl≤H.size) (hx:rV F H vx x) (lx:lz x < 67108864) (lD:lz D < 67108864) (hD0:D ≠ 0) :
  a0V env fl (F.p q0n q0m) [.pointer (some ⟨p,0,none⟩),vx] H (fun r H'=>b0R H' r (a0f (Rat.divInt x D))∧Ext H H') R:=by
 cases F
 ·obtain ⟨rfl,hx⟩:=hx
  exact m0o hf h.blk hx h.d hD0
 ·exact m0d hf h.blk h.d hx lx lD hD0
theorem m0W {f0 p n m:Nat} {L:List (List Int)} {k D:Int} {bs:List Nat} {sR sD sB:Value} {vs:List Value} {g:FuncId} {caps:Array Value} {Fv:Nat→Int} (h:e0p F f0 H p n m L D bs k sR sD sB vs) (hf:fl≤H.size) (hS:ShT n m L bs) (hlD:lz D < 60000000) (hD0:D ≠ 0) (hF:∀ i,i < m→lz (Fv i)≤59999999) (hm:m < 1048576) (hn:n < 1048576)
  (hg:∀ (fl i:Nat) (G:a0e) (R':a0u),Ext H G→fl≤G.size→i < m→a0V env fl g (.int .i64 (i:Int) :: caps.toList) G (fun r G'=>rV F G' r (Fv i)∧Ext G G') R') :
  a0V env fl (j0X F) [.pointer (some ⟨p,0,none⟩),.func (.func g) #[] caps] H (fun r H'=>b0a PR H.size H' a0b 4 r ((List.range n).map fun k=>a0f (Rat.divInt (ptq n (bf bs) Fv m k) D))∧Ext H H') R:=by
 refine a0k G0r hf (h:=?_)
 intro ρ h0
 have hbk:=h.blk
 have hmk:=f0C (bytes:=64) (k:=.i64) (k':=.i64) (l:=n) (c:=n) (Z0E _) (by omega) (by omega)
 simp [g0U,n0y,n0z,h0,hbk,hmk]
 generalize hN:Array.push H _=G
 obtain ⟨hx,b0⟩:=h0K hN
 clear hN
 obtain ⟨hr1,hr2⟩:=p0B G n
 have ho:b0a PR H.size G a0b 4 (.slice (some ⟨H.size,0,none⟩) n n) ((List.range n).map fun k=>if k < 0 then a0f 0 else c0l):=by
  refine ⟨_,by simpa using Own.mk (n:=n) (sz:=4) (cap:=n) b0 hr1 (Z0E _),fun k hk=>?_⟩
  simp only [a1t,b1c]
  rw [Z0F (by omega)]
  exact hr2 k (by simpa using hk)
 have hsl:=ho.slen
 simp only [a1P,List.length_range] at hsl
 clear b0 hr1 hr2 hmk hbk
 simp [n0A,hsl]
 refine c0F (n:=n) (fun k ρ G=>ρ 0=.pointer (some ⟨p,0,none⟩)∧ρ 1=.func (.func g) #[] caps∧Ext H G∧b0a PR H.size G a0b 4 (ρ 5) ((List.range n).map fun j=>if j < k then a0f 0 else c0l)) rfl rfl (by decide) (by omega) (by simp) (by simp) ?_ ?_ ?_ ?_
 ·exact ⟨by simp [h0],by simp [h0],hx,by simpa using ho⟩
 ·intro i ρ ρ' G h hI;simpa [h] using hI
 ·clear h0 ρ hx ho hsl
  rintro k ρ G hk gk gn ⟨g0,g1,hx,ho⟩
  obtain ⟨s,g5⟩:∃ s,ρ 5=s:=⟨_,rfl⟩
  rw [g5] at ho
  simp [n0B,n0C,gk,g5]
  refine (b0V (n:=0) hx.1 (by omega) (by omega)).mono ?_
  rintro _ G2 ⟨⟨s1,s2,rfl,k1,k2⟩,hx2⟩
  replace ho:=ho.mono a0I hx2
  replace hx:=hx.trans hx2
  have hkl:k < ((List.range n).map fun j=>if j < k then a0f 0 else c0l).length:=by simpa using hk
  have hz0:((0:Int):Rat)=0:=rfl
  rw [hz0] at k1 k2
  obtain ⟨G3,hst,ho2,hxb⟩:=b0a.store (x:=a0f 0) (w:=.agg #[.bool (a0f 0).1.1,s1,.bool (a0f 0).2.1,s2]) ho hkl (by decide) rfl (by simp [k1.plain,k2.plain]) (fun G' _ hl=>⟨s1,s2,rfl,k1.lx hl,k2.lx hl⟩) (by decide) (fun G' cs y _ hl h=>b0R.lx h hl)
  have ia:=ho.sls.ia (k:=.i64) hkl
  simp [gk,g5,ia,hst]
  have hset:=d0F (n:=n) (j:=k) (f:=fun j=>if j < k then a0f 0 else c0l) (g:=fun j=>if j < k + 1 then a0f 0 else c0l) (fun j _ hj=>by
   have:(j < k + 1)=(j < k):=c1n (by omega)
   simp only [this])
  simp only [Z0I (Nat.lt_succ_self k)] at hset
  rw [hset] at ho2
  exact Rnd.mk (by simp [gk]) (by simp [gn]) ⟨by simp [g0],by simp [g1],j0U hx hxb (fun b hb=>(ho.ge hb).1),by simpa [g5] using ho2⟩
 ·clear h0 ρ hx ho hsl
  rintro ρ G gk gn ⟨g0,g1,hx,ho⟩
  have hG:=h.mono hx
  have hbk:=hG.blk
  have hslB:=hG.basis.sls.slen
  rw [hS.base] at hslB
  simp [n0D,g0,hbk,hslB]
  have hst0:((List.range n).map fun j=>if j < n then a0f 0 else c0l)=(List.range n).map fun k=>a0f (Rat.divInt (ptq n (bf bs) Fv 0 k) D):=by
   apply a1Y
   intro j hj
   rw [Z0I (by simpa using hj)]
   unfold ptq
   rw [sm,O0L]
  rw [hst0] at ho
  refine c0F (n:=m) (fun q ρ G=>ρ 0=.pointer (some ⟨p,0,none⟩)∧ρ 1=.func (.func g) #[] caps∧ρ 27=sB∧Ext H G∧b0a PR H.size G a0b 4 (ρ 5) ((List.range n).map fun k=>a0f (Rat.divInt (ptq n (bf bs) Fv q k) D))) rfl rfl (by decide) (by omega) (by simp) (by simp) ?_ ?_ ?_ ?_
  ·exact ⟨by simp [g0],by simp [g1],by simp,hx,by simpa using ho⟩
  ·intro i ρ ρ' G h hI;simpa [h] using hI
  ·clear hx ho gk gn g0 g1 hst0 hG hbk hslB ρ G
   rintro q ρ G hq gq gm ⟨g0,g1,g27,hx,ho⟩
   obtain ⟨s,g5⟩:∃ s,ρ 5=s:=⟨_,rfl⟩
   rw [g5] at ho
   have hG:=h.mono hx
   have hbk:=hG.blk
   obtain ⟨lb,ib⟩:=hG.base (show q < bs.length by rw [hS.base];exact hq)
   obtain ⟨j,hj⟩:∃ j,j=bf bs q:=⟨_,rfl⟩
   rw [← hj] at lb
   have w2:IntKind.i64.wrap (2 * (n:Int))=2 * (n:Int):=a0F (by omega) (by omega)
   simp [n0E,gq,g27,ib,lb,l0h,g0,hbk]
   have hsucc:∀ k,ptq n (bf bs) Fv (q + 1) k=ptq n (bf bs) Fv q k + if j=k then Fv q else if j=n + k then -Fv q else 0:=fun k=>by
    show ptq n (bf bs) Fv q k + _=_;rw [hj]
   by_cases hjn:j < n
   ·simp [hjn,show ¬ n≤j by omega]
    have hjl:j < ((List.range n).map fun k=>a0f (Rat.divInt (ptq n (bf bs) Fv q k) D)).length:=by simpa using hjn
    have ia:=ho.sls.ia (k:=.i64) hjl
    obtain ⟨wx,ex,kx⟩:=b0y.load ho.sls hjl
    simp only [a1t,b1c] at kx
    refine a0A ?_
    simp [l0i,g0,g1,g5,gq,ia,ex]
    refine (hg _ q G _ hx (by have:=hx.1;omega) hq).mono ?_
    rintro wf G2 ⟨kf,hx2⟩
    have hG2:=hG.mono hx2
    replace kx:=kx.mono hx2
    replace ho:=ho.mono a0I hx2
    replace hx:=hx.trans hx2
    simp [g0]
    refine (r0A hG2 (by have:=hx.1;omega) kf (by have:=hF q hq;omega) (by omega) hD0).mono ?_
    rintro wv G3 ⟨kv,hx2⟩
    replace kx:=kx.mono hx2
    replace ho:=ho.mono a0I hx2
    replace hx:=hx.trans hx2
    simp
    have hlp:=m0Q (n:=n) (base:=bf bs) (Fv:=Fv) (K:=59999999) (k:=j) (q:=q) (fun i hi=>hF i (by omega))
    have hs1:=b0L (ptq n (bf bs) Fv q j) D
    have hs2:=b0L (Fv q) D
    have hfq:=hF q hq
    refine (b0D kx kv hx.1 (by rw [a0x];omega) (by rw [a0x];omega)).mono ?_
    rintro _ G4 ⟨⟨s1,s2,rfl,k1,k2⟩,hx2⟩
    replace ho:=ho.mono a0I hx2
    replace hx:=hx.trans hx2
    rw [a0s,a0s,z0p hD0] at k1 k2 ⊢
    have hsj:=hsucc j
    rw [Z0I rfl] at hsj
    rw [← hsj] at k1 k2 ⊢
    obtain ⟨G5,hst,ho2,hxb⟩:=b0a.store (x:=a0f (Rat.divInt (ptq n (bf bs) Fv (q + 1) j) D)) (w:=.agg #[.bool (a0f (Rat.divInt (ptq n (bf bs) Fv (q + 1) j) D)).1.1,s1,.bool (a0f (Rat.divInt (ptq n (bf bs) Fv (q + 1) j) D)).2.1,s2]) ho hjl (by decide) rfl (by simp [k1.plain,k2.plain]) (fun G' _ hl=>⟨s1,s2,rfl,k1.lx hl,k2.lx hl⟩) (by decide) (fun G' cs y _ hl h=>b0R.lx h hl)
    simp [g5,ia,hst]
    have hset:=d0F (n:=n) (j:=j) (f:=fun k=>a0f (Rat.divInt (ptq n (bf bs) Fv q k) D)) (g:=fun k=>a0f (Rat.divInt (ptq n (bf bs) Fv (q + 1) k) D)) (fun k _ hk=>by
     rw [hsucc k,Z0F (fun h=>hk h.symm),Z0F (by omega),b1a])
    rw [hset] at ho2
    exact Rnd.mk (by simp [gq]) (by simp [gm]) ⟨by simp [g0],by simp [g1],by simp [g27],j0U hx hxb (fun b hb=>(ho.ge hb).1),by simpa [g5] using ho2⟩
   ·have hge:n≤j:=by omega
    simp [hjn,hge,l0j,g0,hbk,w2]
    by_cases hjt:j < 2 * n
    ·simp [show (j:Int) < 2 * (n:Int) by omega,show ¬ 2 * (n:Int)≤(j:Int) by omega]
     have hjl:j - n < ((List.range n).map fun k=>a0f (Rat.divInt (ptq n (bf bs) Fv q k) D)).length:=by simp;omega
     have ia:=ho.sls.ia (k:=.i64) hjl
     have wj:IntKind.i64.wrap ((j:Int) - (n:Int))=((j - n:Nat):Int):=by
      rw [a0F (by omega) (by omega)];omega
     obtain ⟨wx,ex,kx⟩:=b0y.load ho.sls hjl
     simp only [a1t,b1c] at kx
     refine a0A ?_
     simp [l0k,g0,g1,g5,gq,hbk,wj,ia,ex]
     refine (hg _ q G _ hx (by have:=hx.1;omega) hq).mono ?_
     rintro wf G2 ⟨kf,hx2⟩
     have hG2:=hG.mono hx2
     replace kx:=kx.mono hx2
     replace ho:=ho.mono a0I hx2
     replace hx:=hx.trans hx2
     simp [g0]
     refine (r0A hG2 (by have:=hx.1;omega) kf (by have:=hF q hq;omega) (by omega) hD0).mono ?_
     rintro wv G3 ⟨kv,hx2⟩
     replace kx:=kx.mono hx2
     replace ho:=ho.mono a0I hx2
     replace hx:=hx.trans hx2
     simp
     have hlp:=m0Q (n:=n) (base:=bf bs) (Fv:=Fv) (K:=59999999) (k:=j - n) (q:=q) (fun i hi=>hF i (by omega))
     have hs1:=b0L (ptq n (bf bs) Fv q (j - n)) D
     have hs2:=b0L (Fv q) D
     have hfq:=hF q hq
     refine (j0B kx kv (by have:=hx.1;omega) (by rw [a0x];omega) (by rw [a0x];omega)).mono ?_
     rintro _ G4 ⟨⟨s1,s2,rfl,k1,k2⟩,hx2⟩
     replace ho:=ho.mono a0I hx2
     replace hx:=hx.trans hx2
     rw [a0s,a0s,J0c hD0] at k1 k2 ⊢
     have hsj:=hsucc (j - n)
     rw [Z0F (by omega),Z0I (by omega),← b1M] at hsj
     rw [← hsj] at k1 k2 ⊢
     obtain ⟨G5,hst,ho2,hxb⟩:=b0a.store (x:=a0f (Rat.divInt (ptq n (bf bs) Fv (q + 1) (j - n)) D)) (w:=.agg #[.bool (a0f (Rat.divInt (ptq n (bf bs) Fv (q + 1) (j - n)) D)).1.1,s1,.bool (a0f (Rat.divInt (ptq n (bf bs) Fv (q + 1) (j - n)) D)).2.1,s2]) ho hjl (by decide) rfl (by simp [k1.plain,k2.plain]) (fun G' _ hl=>⟨s1,s2,rfl,k1.lx hl,k2.lx hl⟩) (by decide) (fun G' cs y _ hl h=>b0R.lx h hl)
     simp [g5,ia,hst]
     have hset:=d0F (n:=n) (j:=j - n) (f:=fun k=>a0f (Rat.divInt (ptq n (bf bs) Fv q k) D)) (g:=fun k=>a0f (Rat.divInt (ptq n (bf bs) Fv (q + 1) k) D)) (fun k _ hk=>by
      rw [hsucc k,Z0F (by omega),Z0F (by omega),b1a])
     rw [hset] at ho2
     exact Rnd.mk (by simp [gq]) (by simp [gm]) ⟨by simp [g0],by simp [g1],by simp [g27],j0U hx hxb (fun b hb=>(ho.ge hb).1),by simpa [g5] using ho2⟩
    ·simp [show 2 * (n:Int)≤(j:Int) by omega,show ¬ (j:Int) < 2 * (n:Int) by omega]
     have hset:((List.range n).map fun k=>a0f (Rat.divInt (ptq n (bf bs) Fv q k) D))=(List.range n).map fun k=>a0f (Rat.divInt (ptq n (bf bs) Fv (q + 1) k) D):=by
      apply a1Y
      intro k hk
      have hk:k < n:=by simpa using hk
      rw [hsucc k,Z0F (by omega),Z0F (by omega),b1a]
     rw [hset] at ho
     exact Rnd.mk (by simp [gq]) (by simp [gm]) ⟨by simp [g0],by simp [g1],by simp [g27],hx,by simpa [g5] using ho⟩
  ·rintro ρ G gk gn ⟨g0,g1,g27,hx,ho⟩
   simp [l0l]
   exact fun _=>ho
def h0T (L:List (List Int)) (g n:Nat) (D:Int) (bs:List Rat) (c:Rat) (i:Nat):Rat:=Rat.divInt (Tf L g (2 * n + i)) D * bs.getD i 0 / c
theorem m0J {f0 p n m g:Nat} {L:List (List Int)} {k D:Int} {bs:List Nat} {sR sD sB:Value} {vs:List Value} {q:ScT} {c:Rat} (h:e0p F f0 H p n m L D bs k sR sD sB vs) (hf:fl≤H.size) (hS:ShT n m L bs) (hq:SV H v q) (hql:q.bs.length=m) (hc:b0R H w (a0f c)) (hg:g < m + 2) (hlD:lz D < 16777216) (hD0:D ≠ 0) (hF:∀ i,i < m→lz (Tf L g (2 * n + i)) < 16777216) (hK:∀ x ∈ q.bs,szR x < 16777216) (hcs:szR c < 16777216) (hc0:c ≠ 0) (hm:m < 1048576) (hn:n < 1048576) :
  a0V env fl (j0W F) [.pointer (some ⟨p,0,none⟩),.int .i64 (g:Int),v,w] H (fun r H'=>b0a PR H.size H' a0b 4 r ((List.range m).map fun i=>a0f (h0T L g n D q.bs c i))∧Ext H H') R:=by
 obtain ⟨sA,sB',sC,s1,s2,rfl,kA,kB,kC,k1,k2⟩:=hq
 obtain ⟨s3,s4,rfl,k3,k4⟩:=hc
 refine a0k G0q hf (h:=?_)
 intro ρ h0
 have c1:=k1.cells;have c2:=k2.cells;have c3:=k3.cells;have c4:=k4.cells
 simp [g0T,m0Y,h0,kA.cells,kB.cells,kC.cells,c1,c2,c3,c4]
 generalize hN:Array.push (Array.push H _) _=G
 obtain ⟨hx,b0,b1⟩:=push2 hN
 clear hN
 have hbk:=(h.mono hx).blk
 simp [m0Z,n0a,h0,hbk]
 refine c0F (n:=m) (fun i ρ G=>ρ 0=.pointer (some ⟨p,0,none⟩)∧ρ 1=.int .i64 (g:Int)∧ρ 6=.pointer (some ⟨H.size,0,none⟩)∧ρ 7=.pointer (some ⟨H.size + 1,0,none⟩)∧Ext H G∧a0e.blk G H.size=.row false a0G [.int .i64 q.n,sA,sB',sC,.bool (a0f q.cb).1.1,s1,.bool (a0f q.cb).2.1,s2]∧a0e.blk G (H.size + 1)=.row false a0b [.bool (a0f c).1.1,s3,.bool (a0f c).2.1,s4]∧(∀ b,slB (ρ 9)=some b→H.size + 2≤b)∧b0a PR H.size G a0b 4 (ρ 9) ((List.range i).map fun i=>a0f (h0T L g n D q.bs c i))) rfl rfl (by decide) (by omega) (by simp) (by simp) ?_ ?_ ?_ ?_
 ·exact ⟨by simp [h0],by simp [h0],by simp,by simp,hx,b0,b1,by simp [slB],by simpa using b0a.nil⟩
 ·intro i ρ ρ' G h hI;simpa [h] using hI
 ·clear h0 ρ hx b0 b1 hbk
  rintro i ρ G hi gi gn ⟨g0,g1,g6,g7,hx,b0,b1,hnb,ho⟩
  obtain ⟨s,g9⟩:∃ s,ρ 9=s:=⟨_,rfl⟩
  rw [g9] at ho hnb
  have hG:=h.mono hx
  have hbk:=hG.blk
  have hLl:=hS.len
  have hgL:g < L.length:=by omega
  have hcL:2 * n + i < L[g].length:=by rw [hS.row g hgL];omega
  have eh:=hG.head hgL
  have ehi:=hG.hia hgL
  obtain ⟨wt,et,kt⟩:=hG.num hgL hcL
  have ej:=hG.ia hgL hcL
  obtain ⟨jj,hjj⟩:∃ jj:Nat,jj=2 * n + i:=⟨_,rfl⟩
  rw [← hjj] at et ej
  obtain ⟨vg,hvg⟩:∃ x,x=vs[g]'(by have:=hG.rows.len;omega):=⟨_,rfl⟩
  rw [← hvg] at eh et ej
  have w2:IntKind.i64.wrap (2 * (n:Int))=2 * (n:Int):=a0F (by omega) (by omega)
  have w3:IntKind.i64.wrap (2 * (n:Int) + (i:Int))=(jj:Int):=by rw [a0F (by omega) (by omega)];omega
  have hib:i < (q.bs.map a0f).length:=by simp;omega
  have kB':=kB.mono a0I hx
  have ib:=kB'.ia (k:=.i64) hib
  simp [n0b,gi]
  refine a0A ?_
  simp [n0c,g0,g1,g6,hbk,eh,ehi,w2,w3,ej,et]
  refine (r0A hG (by have:=hx.1;omega) kt (by have:=hF i hi;omega) (by omega) hD0).mono ?_
  rintro wv G2 ⟨kv,hx2⟩
  replace ho:=ho.mono a0I hx2
  replace b0:=hx2.blk b0
  replace b1:=hx2.blk b1
  replace hx:=hx.trans hx2
  have kB2:=kB.mono a0I hx
  have ib:=kB2.ia (k:=.i64) hib
  obtain ⟨wx,ex,kx⟩:=b0y.load kB2 hib
  rw [a1t] at kx
  have hbx:szR q.bs[i] < 16777216:=hK _ (Z0M _)
  have hfi:=hF i hi
  have hsd:=b0L (Tf L g (2 * n + i)) D
  simp [g6,b0,ib,ex]
  refine (e0U kv kx (by have:=hx.1;omega) (by rw [a0x];omega) (by rw [a0x];omega)).mono ?_
  rintro wm G3 ⟨km,hx2⟩
  replace ho:=ho.mono a0I hx2
  replace b1:=hx2.blk b1
  replace b0:=hx2.blk b0
  replace hx:=hx.trans hx2
  rw [a0s,a0s] at km
  have hsm:=f0J (Rat.divInt (Tf L g (2 * n + i)) D) q.bs[i]
  have kc:b0R G3 (.agg #[.bool (a0f c).1.1,s3,.bool (a0f c).2.1,s4]) (a0f c):=⟨s3,s4,rfl,k3.mono hx,k4.mono hx⟩
  simp [g7,b1]
  refine (r0g km kc (by have:=hx.1;omega) (by rw [a0x];omega) (by rw [a0x];omega) (by rw [a0s];exact hc0)).mono ?_
  rintro _ G4 ⟨⟨wd,rfl,s5,s6,rfl,k5,k6⟩,hx2⟩
  replace ho:=ho.mono a0I hx2
  replace b0:=hx2.blk b0
  replace b1:=hx2.blk b1
  replace hx:=hx.trans hx2
  rw [a0s,a0s] at k5 k6 ⊢
  have hdual:Rat.divInt (Tf L g (2 * n + i)) D * q.bs[i] / c=h0T L g n D q.bs c i:=by
   unfold h0T;rw [Z0C,Z0H (by omega)];rfl
  rw [hdual] at k5 k6 ⊢
  have hfl:=hx.1
  have c5:=k5.cells;have c6:=k6.cells
  simp [hfl,c5,c6,k5.plain,k6.plain]
  generalize hN:Array.setIfInBounds (Array.push _ _) _ _=G5
  obtain ⟨hx2,b5⟩:=new1 hN
  clear hN
  replace ho:=ho.mono a0I hx2
  replace b0:=hx2.blk b0
  replace b1:=hx2.blk b1
  replace k5:=k5.mono hx2
  replace k6:=k6.mono hx2
  replace hx:=hx.trans hx2
  obtain ⟨s',G6,h1,h2,h3,h4⟩:=b0a.app (P:=PR) (sz:=4) (e:=a0b) (by decide) (fun G' cs x _ hl h=>b0R.lx h hl) ho (e2:=a0b) (c:=1) (bytes:=64) (new:=[.bool (a0f (h0T L g n D q.bs c i)).1.1,s5,.bool (a0f (h0T L g n D q.bs c i)).2.1,s6]) (x:=a0f (h0T L g n D q.bs c i)) ⟨s5,s6,rfl,k5,k6⟩ rfl (by simp [k5.plain,k6.plain]) (by simp;omega) (by omega) (by omega) hx.1
  obtain ⟨m1,c1',hfr⟩:=e0b (by decide) h1
  simp [n0d,g9,b5,c5,c6,h1]
  exact Rnd.mk (by simp [gi]) (by simp [gn]) ⟨by simp [g0],by simp [g1],by simp [g6],by simp [g7],h4 _ (Z0E _) hx,(h3.2 _ (a0g b0) (fun h=>by have:=hnb _ h;omega)).trans b0,(h3.2 _ (a0g b1) (fun h=>by have:=hnb _ h;omega)).trans b1,by
   have hsz:=hx2.1
   have hsz2:=hx.1
   rw [hfr];simp [slB];have:=a0g b1;have:=a0g b5;omega,b0a.cast (v':=s') (by simp) (by rw [List.range_succ,b1R];exact h2)⟩
 ·rintro ρ G gi gn ⟨g0,g1,g6,g7,hx,b0,b1,hnb,ho⟩
  obtain ⟨s,g9⟩:∃ s,ρ 9=s:=⟨_,rfl⟩
  rw [g9] at ho hnb
  simp [n0e,g9]
  exact fun _=>ho
theorem p0G {f0 p P n m i:Nat} {L:List (List Int)} {k D:Int} {bs:List Nat} {sR sD sB:Value} {vs:List Value} (h:e0p F f0 H p n m L D bs k sR sD sB vs) (hf:fl≤H.size) (hS:ShT n m L bs) (hP:H.blk P=.row false (F.p a0w a0t) [.pointer (some ⟨p,0,none⟩)]) (hi:i < m + 2) :
  a0V env fl (i0G F) [.int .i64 (i:Int),.pointer (some ⟨P,0,none⟩)] H (fun r H'=>rV F H' r (Tf L i (2 * n + m))∧Ext H H') R:=by
 refine a0k v0V hf (h:=?_)
 intro ρ h0
 have hiL:i < L.length:=by rw [hS.len];exact hi
 have hcL:2 * n + m < L[i].length:=by rw [hS.row i hiL];omega
 obtain ⟨jj,hjj⟩:∃ jj:Nat,jj=2 * n + m:=⟨_,rfl⟩
 rw [← hjj] at hcL ⊢
 have e2:2 * (n:Int) + m=(jj:Int):=by omega
 cases F
 ·simp [d0W,g0y,h0]
  obtain ⟨vi,wt,-,eh,ehi,ej,en,fw⟩:=h.cell hiL hcL
  simp only [RK.w,RK.b,RK.p_few] at ej en hP
  have hbk:=h.blk
  refine a0A ?_
  simp [g0z,h0,hP,hbk,eh,ehi,e2,ej,en]
  exact fw
 ·simp [d0W,g0y,h0]
  generalize hN:Array.push H _=G
  have hx:Ext H G:=by rw [← hN];exact (Ext.refl H).push
  replace h:=h.mono hx
  replace hP:=hx.blk hP
  obtain ⟨vi,wt,-,eh,ehi,ej,en,fw⟩:=h.cell hiL hcL
  simp only [RK.w,RK.b,RK.p_all] at ej en hP
  have hbk:=h.blk
  refine a0A ?_
  obtain ⟨sx,rfl,kx⟩:=fw
  simp [g0z,h0,hP,hbk,eh,ehi,e2,ej,en]
  subst hN
  simp [hf,kx.cells,kx.plain]
  generalize hN:Array.setIfInBounds (Array.push _ _) _ _=G5
  obtain ⟨hx5,b5⟩:=new1 hN
  exact ⟨sx,rfl,kx.setS hN a0v (by decide)⟩
theorem w0P {f0 p P P2 n m i j:Nat} {L:List (List Int)} {k D:Int} {bs:List Nat} {sR sD sB:Value} {vs:List Value} (h:e0p F f0 H p n m L D bs k sR sD sB vs) (hf:fl≤H.size) (hS:ShT n m L bs) (hz:∀ r c,lz (Tf L r c) < 67108864) (hP:H.blk P=.row false F.Q [.pointer (some ⟨p,0,none⟩)]) (hP2:H.blk P2=.row false e0i [.int .i64 (j:Int)]) (hi:i < m + 2) (hj:j < 2 * n + m + 1) :
  a0V env fl (r0O F) [.int .i64 (i:Int),.pointer (some ⟨P,0,none⟩),.pointer (some ⟨P2,0,none⟩)] H (fun r H'=>rV F H' r (-Tf L i j)∧Ext H H') R:=by
 refine a0k N0X hf (h:=?_)
 intro ρ h0
 have hiL:i < L.length:=by rw [hS.len];exact hi
 have hcL:j < L[i].length:=by rw [hS.row i hiL];omega
 cases F
 ·simp [h0E,l0m,h0]
  obtain ⟨vi,wt,-,eh,ehi,ej,en,fw⟩:=h.cell hiL hcL
  simp only [RK.w,RK.b,RK.p_few] at ej en
  have hP':H.blk P=.row false a0w [.pointer (some ⟨p,0,none⟩)]:=hP
  have hbk:=h.blk
  refine a0A ?_
  simp [l0n,h0,hP',hP2,hbk,eh,ehi,ej,en]
  refine (show a0V env _ k0D [eV,wt] H _ _ from v0K (F:=.few) fw (Z0E _) (hz _ _)).mono ?_
  rintro wn G2 ⟨fn,hx2⟩
  simp
  exact fun _=>fn
 ·simp [h0E,l0m,h0]
  generalize hN:Array.push H _=G
  obtain ⟨hx,b4⟩:=h0K hN
  clear hN
  replace h:=h.mono hx
  have hP':a0e.blk G P=.row false a0t [.pointer (some ⟨p,0,none⟩)]:=hx.blk hP
  replace hP2:=hx.blk hP2
  obtain ⟨vi,wt,-,eh,ehi,ej,en,fw⟩:=h.cell hiL hcL
  simp only [RK.w,RK.b,RK.p_all] at ej en
  have hbk:=h.blk
  refine a0A ?_
  simp [l0n,h0,hP',hP2,hbk,eh,ehi,ej,en]
  refine (show a0V env _ k0C [eV,wt] G _ _ from v0K (F:=.all) fw hx.1 (hz _ _)).mono ?_
  rintro wn G2 ⟨⟨sx,rfl,kx⟩,hx2⟩
  replace b4:=hx2.blk b4
  have hsz:=(hx.trans hx2).1
  simp [b4,hsz,kx.cells,kx.plain]
  generalize hS':Array.setIfInBounds G2 _ _=G5
  rw [a0M hS' b4]
  simp
  exact fun _=>⟨sx,rfl,kx.setS hS' b4 (by decide)⟩
def r0h (n m:Nat) (L:List (List Int)) (bs:List Nat) (D:Int) (j k:Nat):Rat:=Rat.divInt (l0A n m (Tf L) (bf bs) D j k) D
theorem p0x {n m:Nat} {L:List (List Int)} {bs:List Nat} {D:Int} {j k:Nat} (h1:j ≠ k) (h2:j ≠ n + k):r0h n m L bs D j k=Rat.divInt (ptq n (bf bs) (fun i=>-Tf L i j) m k) D:=by
 unfold r0h l0A
 rw [Z0F h1,Z0F h2,b1a];rfl
theorem P0B {n m:Nat} {L:List (List Int)} {bs:List Nat} {D:Int} {j:Nat} (hD:D ≠ 0):r0h n m L bs D j j=Rat.divInt (ptq n (bf bs) (fun i=>-Tf L i j) m j) D + 1:=by
 unfold r0h l0A
 rw [Z0I rfl,← z0p hD,Rat.divInt_self' hD];rfl
theorem H0f {n m:Nat} {L:List (List Int)} {bs:List Nat} {D:Int} {j:Nat} (hD:D ≠ 0) (hj:n≤j) (hn:0 < n):r0h n m L bs D j (j - n)=Rat.divInt (ptq n (bf bs) (fun i=>-Tf L i j) m (j - n)) D - 1:=by
 unfold r0h l0A
 rw [Z0F (by omega),Z0I (by omega),Int.add_neg_eq_sub,← J0c hD,Rat.divInt_self' hD];rfl
theorem H0g {p n m j:Nat} {f0:Nat} {L:List (List Int)} {k D:Int} {bs:List Nat} {sR sD sB:Value} {vs:List Value} (h:e0p F f0 H p n m L D bs k sR sD sB vs) (hf:fl≤H.size) (hS:ShT n m L bs) (hz:∀ r c,lz (Tf L r c) < 50000000) (hlD:lz D < 50000000) (hD0:D ≠ 0) (hj:j < 2 * n + m) (hm:m < 1048576) (hn:n < 1048576) :
  a0V env fl (x0T F) [.pointer (some ⟨p,0,none⟩),.int .i64 (j:Int)] H (fun r H'=>b0y H' r ((List.range n).map fun k=>a0f (r0h n m L bs D j k))∧Ext H H') R:=by
 refine a0k R0F hf (h:=?_)
 intro ρ h0
 simp [n0I,u0z,h0]
 generalize hG:Array.push (Array.push H _) _=G
 obtain ⟨hx,b2,b3⟩:=push2 hG
 clear hG
 have h':=h.mono hx
 have hx0:=hx.1
 have hFz:∀ i,i < m→lz (-Tf L i j)≤59999999:=fun i hi=>by rw [e0P];have:=hz i j;omega
 simp [u0A,b2]
 refine (m0W (Fv:=fun i=>-Tf L i j) h' hx.1 hS (by omega) hD0 hFz hm hn (fun fl i G' R' hxx hfl hi=>by
   simp only [b1J,b1d]
   exact w0P (h'.mono hxx) hfl hS (fun r c=>by have:=hz r c;omega) (hxx.blk b2) (hxx.blk b3) (by omega) (by omega))).mono ?_
 rintro wX G2 ⟨oX,hx2⟩
 replace b2:=hx2.blk b2
 replace b3:=hx2.blk b3
 have h2:=h'.mono hx2
 replace hx:=hx.trans hx2
 have hbk:=h2.blk
 have e3:∀ k,szR (Rat.divInt (ptq n (bf bs) (fun i=>-Tf L i j) m k) D) < 61048577:=fun k=>by
  have h1:=b0L (ptq n (bf bs) (fun i=>-Tf L i j) m k) D
  have h2:=m0Q (n:=n) (base:=bf bs) (Fv:=fun i=>-Tf L i j) (K:=60000000) (k:=k) (q:=m) (fun i hi=>by have:=hFz i hi;omega)
  omega
 have w2:IntKind.i64.wrap (2 * (n:Int))=2 * (n:Int):=a0F (by omega) (by omega)
 refine a0A ?_
 simp [u0B,b2,b3,hbk]
 by_cases hjn:j < n
 ·have hjl:j < ((List.range n).map fun k=>a0f (Rat.divInt (ptq n (bf bs) (fun i=>-Tf L i j) m k) D)).length:=by simpa using hjn
  have ij:=oX.sls.ia (k:=.i64) hjl
  obtain ⟨w1,l1,k1⟩:=b0y.load oX.sls hjl
  rw [a1t,b1c] at k1
  refine ⟨fun _=>?_,fun h=>Z0T h (by omega)⟩
  refine a0A ?_
  simp [u0C,b3,ij,l1]
  refine (b0V (n:=1) (by have:=hx.1;omega) (by omega) (by omega)).mono ?_
  rintro w2' G3 ⟨k2,hx3⟩
  have h1e:((1:Int):Rat)=1:=rfl
  rw [h1e] at k2
  replace b3:=hx3.blk b3
  replace oX:=oX.mono a0I hx3
  replace hx:=hx.trans hx3
  simp
  refine (b0D (k1.mono hx3) k2 (by have:=hx.1;omega) (by rw [a0x];have:=e3 j;omega) (by rw [a0x,p0I];decide)).mono ?_
  rintro _ G4 ⟨⟨s1,s2,rfl,q1,q2⟩,hx4⟩
  rw [a0s,a0s,← P0B hD0] at q1 q2 ⊢
  replace b3:=hx4.blk b3
  replace oX:=oX.mono a0I hx4
  replace hx:=hx.trans hx4
  obtain ⟨G5,hst,ho2,hxb⟩:=b0a.store (x:=a0f (r0h n m L bs D j j)) (w:=.agg #[.bool (a0f (r0h n m L bs D j j)).1.1,s1,.bool (a0f (r0h n m L bs D j j)).2.1,s2]) (oX.low (fl':=H.size) (by omega)) hjl (by decide) rfl (by simp [q1.plain,q2.plain]) (fun G' _ hl=>⟨s1,s2,rfl,q1.lx hl,q2.lx hl⟩) (by decide) (fun G' cs y _ hl h=>b0R.lx h hl)
  have d1:=q1.cells;have d2:=q2.cells
  have hset:=d0F (n:=n) (j:=j) (f:=fun k=>a0f (Rat.divInt (ptq n (bf bs) (fun i=>-Tf L i j) m k) D)) (g:=fun k=>a0f (r0h n m L bs D j k)) (fun k hk hne=>by rw [p0x (fun h=>hne h.symm) (by omega)])
  rw [hset] at ho2
  simp [d1,d2,ij,hst,k0b,b3]
  exact fun _=>ho2.sls
 ·refine ⟨fun h=>Z0T h hjn,fun _=>?_⟩
  refine a0A ?_
  simp [u0D,b2,b3,hbk,w2]
  by_cases hjt:j < 2 * n
  ·simp [show (j:Int) < 2 * (n:Int) by omega]
   refine ⟨?_,fun h=>Z0T h (by omega)⟩
   have hjl:j - n < ((List.range n).map fun k=>a0f (Rat.divInt (ptq n (bf bs) (fun i=>-Tf L i j) m k) D)).length:=by simp;omega
   have ij:=oX.sls.ia (k:=.i64) hjl
   have wj:IntKind.i64.wrap ((j:Int) - (n:Int))=((j - n:Nat):Int):=by
    rw [a0F (by omega) (by omega)];omega
   obtain ⟨w1,l1,k1⟩:=b0y.load oX.sls hjl
   rw [a1t,b1c] at k1
   refine a0A ?_
   simp [u0E,b2,b3,hbk,wj,ij,l1]
   refine (b0V (n:=1) (by have:=hx.1;omega) (by omega) (by omega)).mono ?_
   rintro w2' G3 ⟨k2,hx3⟩
   have h1e:((1:Int):Rat)=1:=rfl
   rw [h1e] at k2
   replace b3:=hx3.blk b3
   replace oX:=oX.mono a0I hx3
   replace hx:=hx.trans hx3
   simp
   refine (j0B (k1.mono hx3) k2 (by have:=hx.1;omega) (by rw [a0x];have:=e3 (j - n);omega) (by rw [a0x,p0I];decide)).mono ?_
   rintro _ G4 ⟨⟨s1,s2,rfl,q1,q2⟩,hx4⟩
   rw [a0s,a0s,← H0f hD0 (by omega) (by omega)] at q1 q2 ⊢
   replace b3:=hx4.blk b3
   replace oX:=oX.mono a0I hx4
   replace hx:=hx.trans hx4
   obtain ⟨G5,hst,ho2,hxb⟩:=b0a.store (x:=a0f (r0h n m L bs D j (j - n))) (w:=.agg #[.bool (a0f (r0h n m L bs D j (j - n))).1.1,s1,.bool (a0f (r0h n m L bs D j (j - n))).2.1,s2]) (oX.low (fl':=H.size) (by omega)) hjl (by decide) rfl (by simp [q1.plain,q2.plain]) (fun G' _ hl=>⟨s1,s2,rfl,q1.lx hl,q2.lx hl⟩) (by decide) (fun G' cs y _ hl h=>b0R.lx h hl)
   have d1:=q1.cells;have d2:=q2.cells
   have hset:=d0F (n:=n) (j:=j - n) (f:=fun k=>a0f (Rat.divInt (ptq n (bf bs) (fun i=>-Tf L i j) m k) D)) (g:=fun k=>a0f (r0h n m L bs D j k)) (fun k hk hne=>by rw [p0x (by omega) (by omega)])
   rw [hset] at ho2
   simp [d1,d2,ij,hst,k0b,b3]
   exact fun _=>ho2.sls
  ·simp [show ¬ (j:Int) < 2 * (n:Int) by omega]
   have hset:((List.range n).map fun k=>a0f (Rat.divInt (ptq n (bf bs) (fun i=>-Tf L i j) m k) D))=(List.range n).map fun k=>a0f (r0h n m L bs D j k):=by
    apply a1Y
    intro k hk
    have hk:k < n:=by simpa using hk
    rw [p0x (by omega) (by omega)]
   rw [hset] at oX
   simp [k0b]
   exact fun _ _=>oX.sls
end
section
open Go
set_option maxHeartbeats 4000000
variable {H G:a0e} {v:Value} {rows:List (List b0k)} {x:List b0k}
theorem k0V:∀ {rows:List (List b0k)} {d:List c0c} {r:List b0k},r ∈ d0d rows d→∃ q ∈ rows,r=g0Z q
 | [],_,r,h=>by simp [d0d] at h
 | _ :: _,[],r,h=>by simp [d0d] at h
 | q :: rs,e :: es,r,h=>by
  simp only [d0d] at h
  split at h
  ·rcases a1W.1 h with rfl | h
   ·exact ⟨q,by simp,rfl⟩
   ·obtain ⟨q',h1,h2⟩:=k0V h;exact ⟨q',by simp [h1],h2⟩
  ·obtain ⟨q',h1,h2⟩:=k0V h;exact ⟨q',by simp [h1],h2⟩
theorem k0X:∀ {rows:List (List b0k)} {d:List c0c} {r:b0k},r ∈ d0e rows d→∃ e ∈ d,r=a0f (b0A e.2)
 | [],_,r,h=>by simp [d0e] at h
 | _ :: _,[],r,h=>by simp [d0e] at h
 | q :: rs,e :: es,r,h=>by
  simp only [d0e] at h
  split at h
  ·rcases a1W.1 h with rfl | h
   ·exact ⟨e,by simp,rfl⟩
   ·obtain ⟨q',h1,h2⟩:=k0X h;exact ⟨q',by simp [h1],h2⟩
  ·obtain ⟨q',h1,h2⟩:=k0X h;exact ⟨q',by simp [h1],h2⟩
theorem LPV.mono {p:LPt} (h:LPV H v p) (hx:Ext H G):LPV G v p:=by
 obtain ⟨a,b,c,h1,h2,h3,h4⟩:=h
 exact ⟨a,b,c,h1,h2.mono d0O hx,h3.mono a0I hx,h4.mono a0I hx⟩
end
section
open Go SX
set_option maxHeartbeats 4000000
variable {fl:Nat} {H G:a0e} {R:a0u} {v w u:Value} {F:RK}
structure m0B where
 kind:Int
 V:Rat
 X:List Rat
 Y:List Rat
 Ray:List Rat
def x0e (H:a0e) (v:Value) (a:m0B):Prop:=∃ s1 s2 sX sY sR,v=.agg #[.int .i64 a.kind,.bool (a0f a.V).1.1,s1,.bool (a0f a.V).2.1,s2,sX,sY,sR] ∧
 Lim H s1 (a0f a.V).1.2∧Lim H s2 (a0f a.V).2.2∧b0y H sX (a.X.map a0f)∧b0y H sY (a.Y.map a0f)∧b0y H sR (a.Ray.map a0f)
theorem x0e.mono {a:m0B} (h:x0e H v a) (hx:Ext H G):x0e G v a:=by
 obtain ⟨s1,s2,sX,sY,sR,h1,h2,h3,h4,h5,h6⟩:=h
 exact ⟨s1,s2,sX,sY,sR,h1,h2.mono hx,h3.mono hx,h4.mono a0I hx,h5.mono a0I hx,h6.mono a0I hx⟩
def N0y (q:ScT) (n m:Nat) (T:Nat→Nat→Int) (base:Nat→Nat) (D:Int):Prop:=Tab m (2 * n + m) (g0Y n m (Tf q.A) (bbq q n) (ccq q)) (fun i=>bbq q n i < 0) T base D
def T0F (q:ScT) (n m:Nat) (a:m0B):Prop:=∃ T base D,N0y q n m T base D∧a.kind=2∧a.V=0∧a.X=[]∧a.Ray=[]∧(∀ c,c < 2 * n + m→0≤T m c)∧T m (2 * n + m) < 0∧a.Y=(List.range m).map fun i=>Rat.divInt (T m (2 * n + i)) D * q.bs.getD i 0 / 1
def T0E (q:ScT) (C:List b0k) (n m:Nat) (a:m0B):Prop:=∃ T base D,N0y q n m T base D∧a.kind=1∧a.Ray=[]∧(∀ i,i < m→¬ base i < 2 * n + m→T i (2 * n + m)=0)∧(∀ c,c < 2 * n + m→0≤T (m + 1) c) ∧
 a.X=((List.range n).map fun k=>Rat.divInt (ptq n base (fun i=>T i (2 * n + m)) m k) D)∧(a.Y=(List.range m).map fun i=>Rat.divInt (T (m + 1) (2 * n + i)) D * q.bs.getD i 0 / q.cb)∧a.V=p0O C (a.X.map a0f) n
def T0G (q:ScT) (n m:Nat) (a:m0B):Prop:=∃ T base D j,N0y q n m T base D∧a.kind=3∧a.V=0∧a.Y=[]∧(∀ i,i < m→¬ base i < 2 * n + m→T i (2 * n + m)=0∧T i j=0)∧j < 2 * n + m∧T (m + 1) j < 0∧(∀ i,i < m→T i j≤0) ∧
 a.X=((List.range n).map fun k=>Rat.divInt (ptq n base (fun i=>T i (2 * n + m)) m k) D)∧a.Ray=(List.range n).map fun k=>Rat.divInt (l0A n m T base D j k) D
def n0U (q:ScT) (C:List b0k) (n m:Nat) (r:Value) (H':a0e):Prop:=∃ ans a k,r=.tuple #[ans,.int .i64 k]∧x0e H' ans a∧(T0F q n m a ∨ T0E q C n m a ∨ T0G q n m a)
theorem SV.mono {q:ScT} (h:SV H v q) (hx:Ext H G):SV G v q:=by
 obtain ⟨sA,sB,sC,s1,s2,h1,h2,h3,h4,h5,h6⟩:=h
 exact ⟨sA,sB,sC,s1,s2,h1,h2.mono o0z hx,h3.mono a0I hx,h4.mono c0Y hx,h5.mono hx,h6.mono hx⟩
theorem e0m.low {eN sz f0:Nat} {P:a0e→List Value→Int→Prop} {vs:List Value} {L:List (List Int)} (h:e0m eN sz P fl H vs L) (hf:f0≤fl):e0m eN sz P f0 H vs L :=
 ⟨h.len,fun i hi=>(h.own i hi).low hf,h.apart⟩
theorem O0J {r1 r2 r3 r4:Blk} (h:Array.push (Array.push (Array.push (Array.push H r1) r2) r3) r4=G):Ext H G∧a0e.blk G H.size=r1∧a0e.blk G (H.size + 1)=r2∧a0e.blk G (H.size + 2)=r3∧a0e.blk G (H.size + 3)=r4:=by
 subst h
 refine ⟨(Ext.refl H).push.push.push.push,?_,?_,?_,?_⟩ <;> simp [a0y]
theorem Frm.at_ {e b:Nat} {ro:Bool} {cs:List Value} (h:Frm F.T F.E H G) (hb:a0e.blk H b=.row ro e cs) (h1:e ≠ a0d:=by decide) (h2:e ≠ a0c:=by decide) (h3:e ≠ d0p:=by decide) (h4:e ≠ a0a:=by decide) (h5:e ≠ e0i:=by decide):a0e.blk G b=.row ro e cs :=
 h.2 e (by cases F;exact h1;exact h2) (by cases F;exact h3;exact h4) h5 _ _ _ hb
theorem Frm.atQ {b:Nat} {ro:Bool} {cs:List Value} (h:Frm F.T F.E H G) (hb:a0e.blk H b=.row ro F.Q cs):a0e.blk G b=.row ro F.Q cs :=
 h.2 F.Q (by cases F <;> decide) (by cases F <;> decide) (by cases F <;> decide) _ _ _ hb
theorem S0y {q:ScT} {n m:Nat} {T:Nat→Nat→Int} {base:Nat→Nat} {D z:Int} (h:N0y q n m T base D) (he:(z = -1∧∀ c,c < 2 * n + m→0≤T m c) ∨ ∃ j:Nat,z=j∧j < 2 * n + m∧T m j < 0∧∀ i,i < m→T i j≤0):∀ c,c < 2 * n + m→0≤T m c:=by
 rcases he with ⟨_,h1⟩ | ⟨j,_,h1,h2,h3⟩
 ·exact h1
 ·have h4:=Tab.lack h (c:=j) (by omega)
  have h5:=g0D (f:=fun i=>-1 * (if base i < 2 * n + m then 0 else T i j)) (N:=m) (fun i hi=>by
   have:=h3 i hi
   split <;> omega)
  rw [e0E] at h5
  omega
theorem ShT.lz_all {n m Z:Nat} {L:List (List Int)} {bs:List Nat} (h:ShT n m L bs) (hB:∀ r c,r < m + 2→c≤2 * n + m→lz (Tf L r c)≤Z) (r c:Nat):lz (Tf L r c)≤Z:=by
 by_cases hr:r < m + 2
 ·by_cases hc:c≤2 * n + m
  ·exact hB r c hr hc
  ·have hrl:r < L.length:=by rw [h.len];exact hr
   unfold Tf
   rw [Z0C,Z0C,Z0H hrl,a1f,Z0P (by rw [h.row r hrl];omega)]
   show lz 0≤_;rw [c0v];omega
 ·unfold Tf
  rw [show L.getD r []=[] from by rw [Z0C,Z0P (by rw [h.len];omega)];rfl]
  show lz 0≤_;rw [c0v];omega
theorem w0j {S:Nat} {X:List Rat} (h:∀ x ∈ X,szR x≤S):Few S (X.map a0f):=by
 intro x hx
 obtain ⟨y,hy,rfl⟩:=a1z.1 hx
 exact ⟨by rw [a0x];exact h y hy,b0H _,b0H _⟩
theorem Few.mono' {S S':Nat} {X:List b0k} (h:Few S X) (hS:S≤S'):Few S' X:=fun x hx=>⟨Z0N (h x hx).1 hS,(h x hx).2⟩
theorem o0k {H0 G':a0e} {f0:Nat} (hx:Ext H0 G) (hk:f0u f0 G G') (hf:H0.size≤f0):Ext H0 G' :=
 ⟨Z0N hx.1 hk.size,fun b hb=>(hk.low b (by omega)).trans (hx.2 b hb)⟩
theorem e0p.floor {p n m f0:Nat} {L:List (List Int)} {k D:Int} {bs:List Nat} {sR sD sB:Value} {vs:List Value} (h:e0p F fl H p n m L D bs k sR sD sB vs) (hf:f0≤fl):e0p F f0 H p n m L D bs k sR sD sB vs :=
 ⟨h.blk,Z0N hf h.low,h.d,h.heads.low hf,h.rows.low hf,h.basis.low hf⟩
theorem t0s {q:ScT} {p:LPt} {n m Z S:Nat} (hp:LPV H u p) (h:SV H v q) (hn0:q.n=n) (hAl:q.A.length=m) (hCl:q.C.length=n) (hpC:p.C.length=n) (hpF:Few S p.C) (hql:q.bs.length=m) (hrow:∀ r ∈ q.A,r.length=n + 1) (hf:fl≤H.size)
  (hzA:∀ r c,lz (Tf q.A r c) < 67108864) (hzC:∀ c,lz (ccq q c) < 67108864) (hzL:∀ i c,i≤m→c≤2 * n + m→lz (r0x q n m i c) < 67108864)
  (hB:∀ T base D,N0y q n m T base D→(∀ r c,r < m + 2→c≤2 * n + m→lz (T r c)≤Z)∧lz D≤Z) (hZ:(n + 1) * (2 * (Z + m + S) + 10) < 16777216) (hK:∀ x ∈ q.bs,szR x < 16777216) (hcs:szR q.cb < 16777216) (hc0:q.cb ≠ 0)
  (hm:m < 1048576) (hn:n < 1048576) (hR:o0Z F R) :
  a0V env fl (k0A F) [eV,u,v] H (fun r H'=>n0U q p.C n m r H'∧Ext H H') R:=by
 have hp0:=hp
 have h00:=h
 obtain ⟨sA0,sB0,sC0,rfl,kA,kB,kC⟩:=hp
 obtain ⟨sA,sBy,sC,s1,s2,rfl,qA,qB,qC,q1,q2⟩:=h
 refine a0k x0P hf (h:=?_)
 intro ρ h0
 have hZ1:2 * (Z + m + S) + 10 < 16777216:=by
  have:1 * (2 * (Z + m + S) + 10)≤(n + 1) * (2 * (Z + m + S) + 10):=Z0L _ (by omega)
  omega
 simp [f0r,l0o,h0,kA.cells,kB.cells,kC.cells,qA.cells,qB.cells,qC.cells,q1.cells,q2.cells]
 generalize hG:Array.push (Array.push (Array.push (Array.push H _) _) _) _=G
 obtain ⟨hx,b0,b1,b2,b3⟩:=O0J hG
 clear hG
 have hsv:=h00.mono hx
 simp [l0p,b0,b2]
 refine a0V.mono (w0V hsv hn0 hAl hCl hrow hx.1 hzA hzC hzL hm hn hR) ?_
 rintro _ G2 ⟨⟨p',L,bs,sR,sD,sB,vs,rfl,hT,hS,hTf,hbs⟩,hx2⟩
 replace hT:=hT.floor hx.1
 have hxG:=hx.trans hx2
 have hsz:=hxG.1
 simp [hsz]
 generalize hN:Array.setIfInBounds (Array.push _ _) _ _=G3
 obtain ⟨hx3,b5⟩:=new1 hN
 clear hN
 replace hx2:=hx2.trans hx3
 replace b1:=hx2.blk b1
 replace b2:=hx2.blk b2
 replace b3:=hx2.blk b3
 replace hT:=hT.mono hx3
 replace hx:=hx.trans hx2
 clear hx2 hx3 hxG hsz hsv b0
 obtain ⟨P8,hP8⟩:∃ x,x=G2.size:=⟨_,rfl⟩
 rw [← hP8] at b5 ⊢
 clear hP8
 have hbk:=hT.blk
 have hTab:N0y q n m (Tf L) (bf bs) 1:=y0q.congr hTf hbs rfl
 have hBd:Bnd m (2 * n + m) (g0Y n m (Tf q.A) (bbq q n) (ccq q)) (fun i=>bbq q n i < 0):=fun T base D hT=>by
  obtain ⟨h1,h2⟩:=hB T base D hT
  exact ⟨fun r c hr hc=>by have:=h1 r c hr hc;omega,by omega⟩
 have w1:IntKind.i64.wrap ((m:Int) + 1)=((m + 1:Nat):Int):=by rw [a0F (by omega) (by omega)];omega
 obtain ⟨m1,hm1⟩:∃ x:Nat,x=m + 1:=⟨_,rfl⟩
 rw [← hm1] at w1
 refine a0A ?_
 simp [l0q,b5,hbk,w1]
 simp [l0r,b5]
 refine a0V.mono (v0t hT hx.1 hS hTab hBd (.inl rfl) hm hn hR) ?_
 rintro _ G4 ⟨⟨z1,rfl,hQ1⟩,hK1⟩
 clear hTf hbs hbk hTab hS hT
 obtain ⟨L,D,bs,k1,sD,hT,hS,hTab,-,hFr,hend⟩:=hQ1
 replace hx:=o0k hx hK1 (Z0E _)
 replace b1:=hFr.at_ b1
 replace b2:=hFr.at_ b2
 replace b3:=hFr.at_ b3
 replace b5:=hFr.atQ b5
 clear hFr hK1
 have hbk:=hT.blk
 have hmL:m < L.length:=by rw [hS.len];omega
 have hcL:2 * n + m < L[m].length:=by rw [hS.row m hmL];omega
 have eh:=hT.head hmL
 have ehi:=hT.hia hmL
 obtain ⟨wt,en,fw⟩:=hT.num hmL hcL
 have ej:=hT.ia hmL hcL
 obtain ⟨jj,hjj⟩:∃ jj:Nat,jj=2 * n + m:=⟨_,rfl⟩
 rw [← hjj] at en ej fw hend
 obtain ⟨vi,hvi⟩:∃ x,x=vs[m]'(by have:=hT.rows.len;omega):=⟨_,rfl⟩
 rw [← hvi] at eh en ej
 have e2:2 * (n:Int) + m=(jj:Int):=by omega
 obtain ⟨hBz,hBd1⟩:=hB _ _ _ hTab
 have hz:=hBz m jj (by omega) (by omega)
 simp
 refine a0A ?_
 simp [l0s,b5,hbk,eh,ehi,e2,ej,en]
 refine a0V.mono (p0S fw hx.1 (by omega)) ?_
 rintro _ G5 ⟨rfl,hx5⟩
 replace b1:=hx5.blk b1
 replace b2:=hx5.blk b2
 replace b3:=hx5.blk b3
 replace b5:=hx5.blk b5
 replace hT:=hT.mono hx5
 replace hx:=hx.trans hx5
 clear hx5 en eh hbk
 by_cases hneg:Tf L m jj < 0
 ·have hcz:c0Q (Tf L m jj) 0 = -1:=by unfold c0Q;rw [Z0I hneg]
  simp [hcz]
  refine c0u ?_
  simp [l0t]
  refine (b0V (n:=0) (by have:=hx.1;omega) (by omega) (by omega)).mono ?_
  rintro _ G6 ⟨⟨y1,y2,rfl,ky1,ky2⟩,hx6⟩
  have hz0:((0:Int):Rat)=0:=rfl
  rw [hz0] at ky1 ky2 ⊢
  replace b1:=hx6.blk b1
  replace b2:=hx6.blk b2
  replace b3:=hx6.blk b3
  replace b5:=hx6.blk b5
  replace hT:=hT.mono hx6
  replace hx:=hx.trans hx6
  clear hx6
  simp [b2,b5]
  refine (b0V (n:=1) (by have:=hx.1;omega) (by omega) (by omega)).mono ?_
  rintro w7 G7 ⟨kw7,hx7⟩
  have hz1:((1:Int):Rat)=1:=rfl
  rw [hz1] at kw7
  replace b1:=hx7.blk b1
  replace b2:=hx7.blk b2
  replace b3:=hx7.blk b3
  replace b5:=hx7.blk b5
  replace ky1:=ky1.mono hx7
  replace ky2:=ky2.mono hx7
  replace hT:=hT.mono hx7
  replace hx:=hx.trans hx7
  clear hx7
  simp
  refine (m0J (q:=q) hT (by have:=hx.1;omega) hS (h00.mono hx) hql kw7 (g:=m) (by omega) (by omega) (by have:=hTab.pos;omega) (fun i hi=>by have:=hBz m (2 * n + i) (by omega) (by omega);omega) hK (by rw [p0I];omega) (by decide) hm hn).mono ?_
  rintro wd G8 ⟨kd,hx8⟩
  replace b1:=hx8.blk b1
  replace b2:=hx8.blk b2
  replace b3:=hx8.blk b3
  replace b5:=hx8.blk b5
  replace ky1:=ky1.mono hx8
  replace ky2:=ky2.mono hx8
  replace hT:=hT.mono hx8
  replace hx:=hx.trans hx8
  clear hx8
  have hbk:=hT.blk
  have hsz:=hx.1
  have hdc:=kd.cells
  simp [b5,hbk,hdc]
  have c1:=ky1.cells;have c2:=ky2.cells
  have hP1:P8 ≠ H.size + 3:=fun h=>by rw [h,b3] at b5;simp at b5
  have hP2:p' ≠ H.size + 3:=fun h=>by rw [h,b3] at hbk;have:=(Blk.row.inj hbk).2.1;cases F <;> exact Z0T this (by decide)
  simp [b3,hsz,ky1.plain,ky2.plain,c1,c2,hdc,hP1,hP2]
  generalize hS':Array.setIfInBounds G8 _ _=G9
  have hl1:LxT a0b G8 G9:=a0X hS' b3 (by decide)
  have hl2:Lx G8 G9:=fun b ro cs h=>a0X (e:=a0m) hS' b3 (by decide) b ro cs h
  rw [a0M hS' b3]
  simp
  refine fun _=>⟨_,⟨2,0,[],(List.range m).map fun i=>h0T L m n D q.bs 1 i,[]⟩,k1,rfl,⟨y1,y2,_,_,_,rfl,ky1.setS hS' b3 (by decide),ky2.setS hS' b3 (by decide),Sls.nil,?_,Sls.nil⟩,.inl ⟨Tf L,bf bs,D,hTab,rfl,rfl,rfl,rfl,?_,?_,rfl⟩⟩
  ·rw [List.map_map]
   exact b0y.lx2 kd.sls hl1 hl2
  ·exact S0y hTab (by rw [← hjj];exact hend)
  ·rw [← hjj];exact hneg
 ·have hcz:¬ c0Q (Tf L m jj) 0 < 0:=by unfold c0Q;rw [Z0F hneg];split <;> omega
  simp [hcz]
  have h00r:∀ r,r < m→¬ bf bs r < 2 * n + m→Tf L r (2 * n + m)=0:=hTab.full (by rw [← hjj];omega)
  simp [l0u,b5]
  refine a0V.mono (G0J hT hx.1 hS hTab hBd h00r hm hn hR) ?_
  rintro _ G6 ⟨hQ1,hK1⟩
  clear hTab hS hT hBz hBd1 hz ej hend hcL hmL fw ehi hvi h00r
  obtain ⟨L,D,bs,k1,sD,hT,hS,hTab,hFr,hZr⟩:=hQ1
  replace hx:=o0k hx hK1 (Z0E _)
  replace b1:=hFr.at_ b1
  replace b2:=hFr.at_ b2
  replace b3:=hFr.at_ b3
  replace b5:=hFr.atQ b5
  clear hFr hK1
  simp
  simp [l0v,b5]
  refine a0V.mono (v0t hT hx.1 hS hTab hBd (.inr hm1) hm hn hR) ?_
  rintro _ G7 ⟨⟨z2,rfl,hQ1⟩,hK1⟩
  clear hTab hS hT
  obtain ⟨L',D,bs',k1,sD,hT,hS,hTab,hZr2,hFr,hend⟩:=hQ1
  replace hZr:=hZr2 hZr
  clear hZr2
  replace hx:=o0k hx hK1 (Z0E _)
  replace b1:=hFr.at_ b1
  replace b2:=hFr.at_ b2
  replace b3:=hFr.at_ b3
  replace b5:=hFr.atQ b5
  clear hFr hK1
  obtain ⟨hBz,hBd1⟩:=hB _ _ _ hTab
  simp
  simp [l0w,b5]
  refine a0V.mono (m0W (Fv:=fun i=>Tf L' i (2 * n + m)) hT hx.1 hS (by omega) (by have:=hTab.pos;omega) (fun i hi=>by have:=hBz i (2 * n + m) (by omega) (Z0E _);omega) hm hn (fun fl i G' R' hxx hfl hi=>by
   simp only [b1J,b1d]
   exact p0G (hT.mono hxx) hfl hS (hxx.blk b5) (by omega))) ?_
  rintro wX G8 ⟨oX,hx8⟩
  replace b1:=hx8.blk b1
  replace b2:=hx8.blk b2
  replace b3:=hx8.blk b3
  replace b5:=hx8.blk b5
  replace hT:=hT.mono hx8
  replace hx:=hx.trans hx8
  clear hx8
  simp
  rw [hm1] at hend
  rcases hend with ⟨rfl,hopt⟩ | ⟨j,rfl,hj,hTj,hle⟩
  rotate_left
  ·simp [h0D]
   refine c0u ?_
   simp [j0v]
   refine (b0V (n:=0) (by have:=hx.1;omega) (by omega) (by omega)).mono ?_
   rintro _ G6 ⟨⟨y1,y2,rfl,ky1,ky2⟩,hx6⟩
   have hz0:((0:Int):Rat)=0:=rfl
   rw [hz0] at ky1 ky2 ⊢
   replace b1:=hx6.blk b1
   replace b2:=hx6.blk b2
   replace b3:=hx6.blk b3
   replace b5:=hx6.blk b5
   replace hT:=hT.mono hx6
   replace oX:=oX.mono a0I hx6
   replace hx:=hx.trans hx6
   clear hx6
   simp [b5]
   refine (H0g hT (by have:=hx.1;omega) hS (fun r c=>by have:=hS.lz_all hBz r c;omega) (by omega) (by have:=hTab.pos;omega) hj hm hn).mono ?_
   rintro wd G8 ⟨kd,hx8⟩
   replace b1:=hx8.blk b1
   replace b2:=hx8.blk b2
   replace b3:=hx8.blk b3
   replace b5:=hx8.blk b5
   replace ky1:=ky1.mono hx8
   replace ky2:=ky2.mono hx8
   replace hT:=hT.mono hx8
   replace oX:=oX.mono a0I hx8
   replace hx:=hx.trans hx8
   clear hx8
   have hbk:=hT.blk
   have hsz:=hx.1
   have hdc:=kd.cells;have hdp:=kd.plain
   have hxc:=oX.cells
   have c1:=ky1.cells;have c2:=ky2.cells
   simp [b5,hbk,hdc,hxc,c1,c2]
   have hP1:P8 ≠ H.size + 3:=fun h=>by rw [h,b3] at b5;simp at b5
   have hP2:p' ≠ H.size + 3:=fun h=>by rw [h,b3] at hbk;have:=(Blk.row.inj hbk).2.1;cases F <;> exact Z0T this (by decide)
   simp [b3,hsz,ky1.plain,ky2.plain,c1,c2,hdc,hdp,hxc,hP1,hP2]
   generalize hS':Array.setIfInBounds G8 _ _=G9
   have hl1:LxT a0b G8 G9:=a0X hS' b3 (by decide)
   have hl2:Lx G8 G9:=fun b ro cs h=>a0X (e:=a0m) hS' b3 (by decide) b ro cs h
   rw [a0M hS' b3]
   simp
   refine fun _=>⟨_,⟨3,0,(List.range n).map fun k=>Rat.divInt (ptq n (bf bs') (fun i=>Tf L' i (2 * n + m)) m k) D,[],(List.range n).map fun k=>r0h n m L' bs' D j k⟩,k1,rfl,⟨y1,y2,_,_,_,rfl,ky1.setS hS' b3 (by decide),ky2.setS hS' b3 (by decide),?_,Sls.nil,?_⟩,.inr (.inr ⟨Tf L',bf bs',D,j,hTab,rfl,rfl,rfl,fun i hi hb=>⟨hZr i hi hb _ (Z0E _),hZr i hi hb _ (by omega)⟩,hj,hTj,hle,rfl,rfl⟩)⟩
   ·rw [List.map_map]
    exact b0y.lx2 oX.sls hl1 hl2
   ·rw [List.map_map]
    exact b0y.lx2 kd hl1 hl2
  simp [h0D]
  simp [j0w]
  refine (b0V (n:=0) hx.1 (by omega) (by omega)).mono ?_
  rintro _ G9 ⟨⟨y1,y2,rfl,ky1,ky2⟩,hx8⟩
  have hz0:((0:Int):Rat)=0:=rfl
  rw [hz0] at ky1 ky2 ⊢
  replace b1:=hx8.blk b1
  replace b2:=hx8.blk b2
  replace b3:=hx8.blk b3
  replace b5:=hx8.blk b5
  replace hT:=hT.mono hx8
  replace oX:=oX.mono a0I hx8
  replace hx:=hx.trans hx8
  clear hx8
  have hsz:=hx.1
  have c1:=ky1.cells;have c2:=ky2.cells
  simp [hsz,c1,c2,ky1.plain,ky2.plain]
  generalize hN:Array.setIfInBounds (Array.push _ _) _ _=G10
  obtain ⟨hx8,b7⟩:=new1 hN
  clear hN
  obtain ⟨P7,hP7⟩:∃ x,x=G9.size:=⟨_,rfl⟩
  rw [← hP7] at b7 ⊢
  have kC2:=kC.mono a0I (hx.trans hx8)
  have hslC:=kC2.slen
  rw [hpC] at hslC
  have b1':=hx8.blk b1
  obtain ⟨X0,hX0⟩:∃ x,x=(List.range n).map fun k=>Rat.divInt (ptq n (bf bs') (fun i=>Tf L' i (2 * n + m)) m k) D:=⟨_,rfl⟩
  have oX0:(List.range n).map (fun k=>a0f (Rat.divInt (ptq n (bf bs') (fun i=>Tf L' i (2 * n + m)) m k) D))=X0.map a0f:=by rw [hX0,List.map_map];rfl
  rw [oX0] at oX
  have hX0l:X0.length=n:=by rw [hX0];simp
  have hX0z:∀ x ∈ X0,szR x≤Z + m + S + 1:=by
   intro x hx
   rw [hX0] at hx
   obtain ⟨k,_,rfl⟩:=a1z.1 hx
   have h1:=b0L (ptq n (bf bs') (fun i=>Tf L' i (2 * n + m)) m k) D
   have h2:=m0Q (n:=n) (base:=bf bs') (Fv:=fun i=>Tf L' i (2 * n + m)) (K:=Z) (k:=k) (q:=m) (fun i hi=>hBz i _ (by omega) (Z0E _))
   omega
  have hFX:=w0j hX0z
  have hFC:=hpF.mono' (show S≤Z + m + S + 1 by omega)
  have hsd:∀ i,i≤n→szR (p0O p.C (X0.map a0f) i) < 33554432:=fun i hi=>by
   have h1:=F0B hFC hFX i
   have h2:i * (2 * (Z + m + S + 1) + 3)≤n * (2 * (Z + m + S) + 10):=a1D hi (by omega)
   rw [Z0U,a1w] at hZ
   omega
  simp [j0x,b1',hslC]
  refine c0F (n:=n) (fun i ρ G=>ρ 5=.pointer (some ⟨H.size + 2,0,none⟩)∧ρ 6=.pointer (some ⟨H.size + 3,0,none⟩)∧ρ 8=.pointer (some ⟨P8,0,none⟩)∧ρ 10=.int .i64 (m1:Int)∧ρ 12=wX∧ρ 13=.pointer (some ⟨P7,0,none⟩)∧ρ 84=sC0∧Ext G9 G∧∃ y1 y2,a0e.blk G P7=.row false a0b [.bool (a0f (p0O p.C (X0.map a0f) i)).1.1,y1,.bool (a0f (p0O p.C (X0.map a0f) i)).2.1,y2]∧Lim G y1 (a0f (p0O p.C (X0.map a0f) i)).1.2∧Lim G y2 (a0f (p0O p.C (X0.map a0f) i)).2.2) rfl rfl (by decide) (by omega) (by simp) (by simp) ?_ ?_ ?_ ?_
  ·exact ⟨by simp,by simp,by simp,by simp,by simp,by simp,by simp,hx8,y1,y2,b7,ky1.mono hx8,ky2.mono hx8⟩
  ·intro i ρ ρ' G h hI;simpa [h] using hI
  ·clear b7 ky1 ky2 c1 c2 y1 y2 hx8 kC2 hslC b1'
   rintro i ρ G hi gi gn ⟨g5,g6,g8,g10,g12,g13,g84,hxa,y1,y2,b7,ky1,ky2⟩
   have hxG:=hx.trans hxa
   have kC2:=kC.mono a0I hxG
   have hiC:i < p.C.length:=by omega
   have iaC:=kC2.ia (k:=.i64) hiC
   obtain ⟨wc,ec,kc⟩:=b0y.load kC2 hiC
   obtain ⟨s5,s6,rfl,k5,k6⟩:=kc
   have c5:=k5.cells;have c6:=k6.cells
   have hsz:=hxG.1
   simp [j0y,gi,g84,iaC,ec,c5,c6,k5.plain,k6.plain,hsz]
   generalize hN:Array.setIfInBounds (Array.push _ _) _ _=G11
   obtain ⟨hxb,b8⟩:=new1 hN
   clear hN
   replace b7:=hxb.blk b7
   replace ky1:=ky1.mono hxb
   replace ky2:=ky2.mono hxb
   replace k5:=k5.mono hxb
   replace k6:=k6.mono hxb
   replace hxa:=hxa.trans hxb
   have hiX:i < (X0.map a0f).length:=by simp;omega
   have oX2:=oX.mono a0I hxa
   have iaX:=oX2.sls.ia (k:=.i64) hiX
   obtain ⟨wx,ex,kx⟩:=b0y.load oX2.sls hiX
   refine a0A ?_
   simp [j0z,g12,g13,b7,b8,iaX,ex]
   have hlC:=hpF _ (Z0M hiC)
   have hlX:=hFX _ (Z0M hiX)
   have hv1:=d0s hlC.2.1 hlC.2.2
   have hv2:=d0s hlX.2.1 hlX.2.2
   refine (e0U (a:=p.C[i]) ⟨s5,s6,rfl,k5,k6⟩ kx (by have:=hxb.1;omega) (by omega) (by omega)).mono ?_
   rintro wm G12 ⟨km,hxc⟩
   replace b7:=hxc.blk b7
   replace ky1:=ky1.mono hxc
   replace ky2:=ky2.mono hxc
   replace hxa:=hxa.trans hxc
   have hsm:=f0J (b0A p.C[i]) (b0A (X0.map a0f)[i])
   have hsz2:H.size≤G12.size:=(hx.trans hxa).1
   have hsdi:=hsd i (by omega)
   simp
   refine (b0D (a:=a0f (p0O p.C (X0.map a0f) i)) ⟨y1,y2,rfl,ky1,ky2⟩ km hsz2 (by rw [a0x];omega) (by rw [a0x];omega)).mono ?_
   rintro _ G13 ⟨⟨y3,y4,rfl,ky3,ky4⟩,hxc⟩
   replace b7:=hxc.blk b7
   replace hxa:=hxa.trans hxc
   have hdot:b0A (a0f (p0O p.C (X0.map a0f) i)) + b0A (a0f (b0A p.C[i] * b0A (X0.map a0f)[i]))=p0O p.C (X0.map a0f) (i + 1):=by
    rw [a0s,a0s,p0O,Z0C,Z0C,Z0H hiC,Z0H hiX];rfl
   rw [hdot] at ky3 ky4 ⊢
   have c3:=ky3.cells;have c4:=ky4.cells
   have hsz3:H.size≤G13.size:=(hx.trans hxa).1
   have hP7l:H.size≤P7:=by rw [hP7];exact hx.1
   simp [g13,b7,c3,c4,ky3.plain,ky4.plain,hP7l]
   generalize hS':Array.setIfInBounds G13 _ _=G14
   exact Rnd.mk (by simp [gi]) (by simp [gn]) ⟨by simp [g5],by simp [g6],by simp [g8],by simp [g10],by simp [g12],by simp [g13],by simp [g84],b0J hS' hxa (by omega),y3,y4,a0M hS' b7,ky3.setS hS' b7 (by decide),ky4.setS hS' b7 (by decide)⟩
  ·clear b7 ky1 ky2 c1 c2 y1 y2 hx8 kC2 hslC b1'
   rintro ρ G gi gn ⟨g5,g6,g8,g10,g12,g13,g84,hxa,y1,y2,b7,ky1,ky2⟩
   replace b1:=hxa.blk b1
   replace b2:=hxa.blk b2
   replace b3:=hxa.blk b3
   replace b5:=hxa.blk b5
   replace hT:=hT.mono hxa
   replace oX:=oX.mono a0I hxa
   replace hx:=hx.trans hxa
   clear hxa
   refine c0u ?_
   have kq:b0R G (.agg #[.bool (a0f q.cb).1.1,s1,.bool (a0f q.cb).2.1,s2]) (a0f q.cb):=⟨s1,s2,rfl,q1.mono hx,q2.mono hx⟩
   simp [j0A,g13,g12,g8,g10,g5,b7,b5,b2]
   refine (m0J (q:=q) hT (by have:=hx.1;omega) hS (h00.mono hx) hql kq (g:=m1) (by omega) (by omega) (by have:=hTab.pos;omega) (fun i hi=>by have:=hBz m1 (2 * n + i) (by omega) (by omega);omega) hK hcs hc0 hm hn).mono ?_
   rintro wd G8 ⟨kd,hx8⟩
   replace b1:=hx8.blk b1
   replace b2:=hx8.blk b2
   replace b3:=hx8.blk b3
   replace b5:=hx8.blk b5
   replace b7:=hx8.blk b7
   replace ky1:=ky1.mono hx8
   replace ky2:=ky2.mono hx8
   replace hT:=hT.mono hx8
   replace oX:=oX.mono a0I hx8
   replace hx:=hx.trans hx8
   clear hx8
   have hbk:=hT.blk
   have hsz:=hx.1
   have hdc:=kd.cells
   have hxc:=oX.cells
   have c1:=ky1.cells;have c2:=ky2.cells
   simp [g8,g6,b5,hbk,hdc,hxc,c1,c2]
   have hP1:P8 ≠ H.size + 3:=fun h=>by rw [h,b3] at b5;simp at b5
   have hP2:p' ≠ H.size + 3:=fun h=>by rw [h,b3] at hbk;have:=(Blk.row.inj hbk).2.1;cases F <;> exact Z0T this (by decide)
   simp [b3,hsz,ky1.plain,ky2.plain,c1,c2,hdc,hxc,hP1,hP2]
   generalize hS':Array.setIfInBounds G8 _ _=G9
   have hl1:LxT a0b G8 G9:=a0X hS' b3 (by decide)
   have hl2:Lx G8 G9:=fun b ro cs h=>a0X (e:=a0m) hS' b3 (by decide) b ro cs h
   rw [a0M hS' b3]
   simp
   refine fun _=>⟨_,⟨1,p0O p.C (X0.map a0f) n,X0,(List.range m).map fun i=>h0T L' m1 n D q.bs q.cb i,[]⟩,k1,rfl,⟨y1,y2,_,_,_,rfl,ky1.setS hS' b3 (by decide),ky2.setS hS' b3 (by decide),b0y.lx2 oX.sls hl1 hl2,?_,Sls.nil⟩,.inr (.inl ⟨Tf L',bf bs',D,hTab,rfl,rfl,fun i hi hb=>hZr i hi hb _ (Z0E _),hopt,hX0,by rw [hm1];rfl,rfl⟩)⟩
   rw [List.map_map]
   exact b0y.lx2 kd.sls hl1 hl2
end
section
open Go SX
set_option maxHeartbeats 1000000
variable {H G:a0e}
theorem S0r {f:Nat→Int} {K:Nat}:∀ {n:Nat},(∀ i,i < n→lz (f i)≤K)→lz (sm f n)≤K + n
 | 0,_=>by rw [sm,c0v];omega
 | n + 1,h=>by
  have h1:=S0r (n:=n) (fun i hi=>h i (by omega))
  have h2:=h n (by omega)
  have h3:=q0A (sm f n) (f n)
  rw [sm];omega
theorem I0R {M:Nat}:∀ {k:Nat},k≤M→fac k≤M ^ k
 | 0,_=>by simp [fac]
 | k + 1,h=>by
  rw [fac,a1r,a1b]
  exact a1D (I0R (by omega)) h
theorem u0h {z:Int} {M k:Nat} (hM:M≤4294967296) (h:z.natAbs≤fac M * (4294967296 ^ k) ^ M):lz z≤M * (k + 1) + 1:=by
 apply m0q
 have h1:fac M≤4294967296 ^ M:=Z0N (I0R (Z0E M)) (Nat.pow_le_pow_left hM M)
 have h2:fac M * (4294967296 ^ k) ^ M≤4294967296 ^ (M * (k + 1)):=by
  rw [← Nat.pow_mul,Z0X,b1f,Nat.add_comm,b1T,a1b M k]
  exact Z0L _ h1
 have h3:4294967296 ^ (M * (k + 1)) < 4294967296 ^ (M * (k + 1) + 1):=Nat.pow_lt_pow_right (by omega) (by omega)
 omega
section
variable {q:ScT} {n m K:Nat} (hA:∀ r c,lz (Tf q.A r c)≤K)
include hA
theorem O0z {r c:Nat}:lz (d0Y n m (Tf q.A) (bbq q n) r c)≤K + 1:=by
 unfold d0Y
 split
 ·have:=hA r c;omega
 ·split
  ·rw [e0P];have:=hA r (c - n);omega
  ·split
   ·split
    ·rw [f0O];omega
    ·rw [c0v];omega
   ·have:=hA r n;unfold bbq;omega
theorem q0B {r c:Nat}:lz (sg (bbq q n) r * d0Y n m (Tf q.A) (bbq q n) r c)≤K + 1:=by
 have h:=O0z (n:=n) (m:=m) hA (r:=r) (c:=c)
 unfold sg
 split
 ·rw [Int.neg_mul,Int.one_mul,e0P];exact h
 ·rw [Int.one_mul];exact h
theorem I0W {i c:Nat}:lz (r0x q n m i c)≤K + 1 + i:=by
 unfold r0x
 refine S0r fun r _=>?_
 split
 ·exact q0B hA
 ·rw [c0v];omega
theorem O0y (hC:∀ c,lz (ccq q c)≤K) {c r:Nat}:lz (g0Y n m (Tf q.A) (bbq q n) (ccq q) c r)≤K + 1 + m:=by
 unfold g0Y
 split
 ·have:=q0B (n:=n) (m:=m) hA (r:=r) (c:=c);omega
 ·split
  ·rw [e0P];exact I0W (i:=m) hA
  ·have:lz (cost n (ccq q) c)≤K:=by
    unfold cost;split
    ·exact hC _
    ·split
     ·rw [e0P];exact hC _
     ·rw [c0v];omega
   rw [e0P];omega
theorem I0X (hC:∀ c,lz (ccq q c)≤K) (hm:m < 1048576) {T:Nat→Nat→Int} {base:Nat→Nat} {D:Int} (h:N0y q n m T base D) :
  (∀ r c,r < m + 2→c≤2 * n + m→lz (T r c)≤(m + 2) * (K + m + 2) + 1)∧lz D≤(m + 2) * (K + m + 2) + 1:=by
 obtain ⟨h1,h2⟩:=Tab.bound h (B:=4294967296 ^ (K + 1 + m)) (Nat.one_le_pow _ _ (by omega)) (fun c r _ _=>by
  have h3:=y0E (g0Y n m (Tf q.A) (bbq q n) (ccq q) c r)
  have h4:=O0y (n:=n) (m:=m) hA hC (c:=c) (r:=r)
  exact Nat.le_of_lt (Z0W h3 (b1g (by omega) h4)))
 have e:K + 1 + m + 1=K + m + 2:=by omega
 refine ⟨fun r c hr hc=>?_,?_⟩
 ·have:=u0h (M:=m + 2) (by omega) (h1 r c hr hc)
  rw [e] at this;exact this
 ·have:=u0h (M:=m + 2) (by omega) h2
  rw [e] at this;exact this
end
structure v0N (H:a0e) (u v:Value) (p:LPt) (q:ScT) (n m:Nat):Prop where
 hp:LPV H u p
 hv:SV H v q
 qn:q.n=n
 qA:q.A.length=m
 qC:q.C.length=n
 pC:p.C.length=n
 qb:q.bs.length=m
 row:∀ r ∈ q.A,r.length=n + 1
 b0:q.cb ≠ 0
 m1:m < 1048576
 n1:n < 1048576
 sz:∃ K S,(∀ r c,lz (Tf q.A r c)≤K)∧(∀ c,lz (ccq q c)≤K)∧Few S p.C∧(∀ x ∈ q.bs,szR x≤K)∧szR q.cb≤K∧(n + 1) * (2 * ((m + 2) * (K + m + 2) + 1 + m + S) + 10) < 16777216
theorem v0N.mono {u v:Value} {p:LPt} {q:ScT} {n m:Nat} (h:v0N H u v p q n m) (hx:Ext H G):v0N G u v p q n m :=
 { h with hp:=h.hp.mono hx,hv:=h.hv.mono hx }
theorem r0o {F:RK} {fl:Nat} {R:a0u} {u v:Value} {p:LPt} {q:ScT} {n m:Nat} (h:v0N H u v p q n m) (hf:fl≤H.size) (hR:o0Z F R) :
  a0V env fl (k0A F) [eV,u,v] H (fun r H'=>n0U q p.C n m r H'∧Ext H H') R:=by
 obtain ⟨K,S,hA,hC,hS,hb,hc,hs⟩:=h.sz
 have hm:=h.m1
 have h1:K + m + 2≤(m + 2) * (K + m + 2):=by
  have:1 * (K + m + 2)≤(m + 2) * (K + m + 2):=Z0L _ (by omega)
  omega
 have h2:1 * (2 * ((m + 2) * (K + m + 2) + 1 + m + S) + 10)≤(n + 1) * (2 * ((m + 2) * (K + m + 2) + 1 + m + S) + 10):=Z0L _ (by omega)
 have hK:K + m < 16777214:=by omega
 exact t0s h.hp h.hv h.qn h.qA h.qC h.pC hS h.qb h.row hf (fun r c=>by have:=hA r c;omega) (fun c=>by have:=hC c;omega) (fun i c hi _=>by have:=I0W (n:=n) (m:=m) hA (i:=i) (c:=c);omega)
  (fun T base D hT=>I0X hA hC hm hT) hs (fun x hx=>by have:=hb x hx;omega) (by omega) h.b0 hm h.n1 hR
end
section
open Go SX
set_option maxHeartbeats 4000000
variable {fl:Nat} {H G:a0e} {R:a0u} {v w u:Value}
theorem LPV.shape {p:LPt} (h:LPV H u p):∃ a b c d,u=.agg #[a,b,c,d]:=by
 obtain ⟨_,_,_,rfl,_⟩:=h;exact ⟨_,_,_,_,rfl⟩
theorem SV.shape {q:ScT} (h:SV H v q):∃ s:Array Value,v=.agg s∧s.size=8:=by
 obtain ⟨_,_,_,_,_,rfl,_⟩:=h;exact ⟨_,rfl,rfl⟩
theorem x0e.shape {a:m0B} (h:x0e H v a):∃ s:Array Value,v=.agg s∧s.size=8∧s.toList.all a0q=true:=by
 obtain ⟨s1,s2,sX,sY,sR,rfl,h1,h2,h3,h4,h5⟩:=h
 exact ⟨_,rfl,rfl,by simp [h1.plain,h2.plain,h3.plain,h4.plain,h5.plain]⟩
theorem w0C:env.code G0u=none:=by rfl
theorem w0B {p:LPt} {q:ScT} {n m:Nat} (h:v0N H u v p q n m) (hf:fl≤H.size) :
  a0V env fl G0u [u,v] H (fun r H'=>((∃ ans k,r=.tuple #[ans,.int .i64 k,.bool true]∧n0U q p.C n m (.tuple #[ans,.int .i64 k]) H') ∨ (∃ ans,r=.tuple #[ans,.int .i64 0,.bool false]∧∃ s1 s2 s3 s4 s5 s6 s7 s8,ans=.agg #[s1,s2,s3,s4,s5,s6,s7,s8]∧[s1,s2,s3,s4,s5,s6,s7,s8].all a0q=true))∧Ext H H') R:=by
 obtain ⟨a,b,c,d,rfl⟩:=h.hp.shape
 obtain ⟨s,rfl,hs8⟩:=h.hv.shape
 obtain ⟨N,hN⟩:=r0o (F:=.few) (fl:=max fl H.size) (R:=fun w=>w=t0w) h (by omega) rfl
 change m0w _ _ (b0h env N (max fl H.size) q0i _ H) at hN
 refine ⟨N + 1,?_⟩
 have e1:b0h env (N + 1) fl G0u [.agg #[a,b,c,d],.agg s] H=d0E [(.int .i64 0),(.bool false),(.slice none 0 0),(.bool false),(.slice none 0 0),(.slice none 0 0),(.slice none 0 0),(.slice none 0 0)] H (b0h env N (max fl H.size) q0i [.agg #[],.agg #[a,b,c,d],.agg s] H):=by
  rw [b0h]
  simp only [w0C]
  rw [show env.know G0u [.agg #[a,b,c,d],.agg s]=none from rfl]
  show (if G0u=G0u then _ else _)=_
  rw [Z0I rfl]
  show (if (4=4∧s.size=8) then _ else _)=_
  rw [Z0I ⟨rfl,hs8⟩]
 rw [e1]
 cases hc:b0h env N (max fl H.size) q0i [.agg #[],.agg #[a,b,c,d],.agg s] H with
 | bad=>rw [show eV=Value.agg #[] from rfl,hc] at hN;exact Z0T hN id
 | pan w =>
  rw [show eV=Value.agg #[] from rfl,hc] at hN
  have hw:w=t0w:=hN
  subst hw
  exact ⟨.inr ⟨_,rfl,_,_,_,_,_,_,_,_,rfl,rfl⟩,Ext.refl H⟩
 | ok r =>
  rw [show eV=Value.agg #[] from rfl,hc] at hN
  obtain ⟨hQ,hx⟩:=hN
  obtain ⟨r,H'⟩:=r
  obtain ⟨ans,a',k,rfl,hA,hQ⟩:=hQ
  obtain ⟨t,rfl,ht8,htp⟩:=hA.shape
  have e2:d0E [(.int .i64 0),(.bool false),(.slice none 0 0),(.bool false),(.slice none 0 0),(.slice none 0 0),(.slice none 0 0),(.slice none 0 0)] H (.ok (.tuple #[.agg t,.int .i64 k],H'))=.ok (.tuple #[.agg t,.int .i64 k,.bool true],H'):=by
   show (if t.size=8∧t.toList.all a0q=true then _ else _)=_
   rw [Z0I ⟨ht8,htp⟩]
  rw [e2]
  exact ⟨.inl ⟨_,k,rfl,_,a',k,rfl,hA,hQ⟩,hx⟩
structure p0N (p:LPt) (n m S:Nat):Prop where
 pn:p.n=n
 pA:p.A.length=m
 pB:p.B.length=m
 pC:p.C.length=n
 row:∀ r ∈ p.A,Few S r∧r.length=n
 fB:Few S p.B
 fC:Few S p.C
 S1:1≤S
 m1:m < 1048576
 n1:n < 1048576
 sz:(n + 1) * (2 * ((m + 2) * ((n + 3) * (S + 1) + m + 2) + 1 + m + S) + 10) < 16777216
structure p0U (p:LPt) (q:ScT) (n m K:Nat):Prop where
 qn:q.n=p.n
 qA:q.A.length=p.A.length
 qb:q.bs.length=p.A.length
 rows:∀ k,k < p.A.length→Whole (i0Y p k) (q.A.getD k []) (q.bs.getD k 0) K
 cost:Whole (p.C.map b0A) q.C q.cb K
theorem r0k {p:LPt} {n m S k:Nat} (h:p0N p n m S) (hk:k < p.A.length):(i0Y p k).length=n + 1:=by
 unfold i0Y
 rw [Z0C,Z0H hk]
 simp [(h.row _ (Z0M hk)).2]
theorem b0F {α:Type} {l:List α} {d:α} {k:Nat} (h:k < l.length):l.getD k d=l[k]:=by
 rw [Z0C,Z0H h];rfl
theorem p0U.szC {p:LPt} {q:ScT} {n m K:Nat} (hq:p0U p q n m K) (c:Nat):lz (ccq q c)≤K:=by
 unfold ccq
 by_cases hc:c < q.C.length
 ·rw [b0F hc];exact hq.cost.szz _ (Z0M _)
 ·rw [Z0C,Z0P (by omega)];show lz 0≤_;rw [c0v];omega
theorem p0N.sol {p:LPt} {q:ScT} {n m S:Nat} (h:p0N p n m S) (hq:p0U p q n m ((n + 3) * (S + 1))) (hp:LPV H u p) (hv:SV H v q):v0N H u v p q n m where
 hp:=hp
 hv:=hv
 qn:=by rw [hq.qn,h.pn]
 qA:=by rw [hq.qA,h.pA]
 qC:=by rw [hq.cost.len,a1P,h.pC]
 pC:=h.pC
 qb:=by rw [hq.qb,h.pA]
 row:=fun r hr=>by
  obtain ⟨k,hk,rfl⟩:=c1a.1 hr
  have hk2:k < p.A.length:=by rw [← hq.qA];exact hk
  have:=(hq.rows k hk2).len
  rw [b0F hk,r0k h hk2] at this
  exact this
 b0:=fun h0=>by have:=hq.cost.pos;rw [h0] at this;exact Z0T this (Rat.lt_irrefl)
 m1:=h.m1
 n1:=h.n1
 sz:=by
  refine ⟨(n + 3) * (S + 1),S,fun r c=>?_,hq.szC,h.fC,fun x hx=>?_,hq.cost.szb,h.sz⟩
  ·unfold Tf
   by_cases hr:r < q.A.length
   ·have hW:=(hq.rows r (by rw [← hq.qA];exact hr)).szz
    by_cases hc:c < (q.A.getD r []).length
    ·rw [b0F hc];exact hW _ (Z0M _)
    ·rw [Z0C (l:=q.A.getD r []),Z0P (by omega)];show lz 0≤_;rw [c0v];omega
   ·have:q.A.getD r []=[]:=by rw [Z0C,Z0P (by omega)];rfl
    rw [this];show lz 0≤_;rw [c0v];omega
  ·obtain ⟨k,hk,rfl⟩:=c1a.1 hx
   have:=(hq.rows k (by rw [← hq.qb];exact hk)).szb
   rw [b0F hk] at this
   exact this
theorem x0e.setS {a:m0B} {G':a0e} {b:Nat} {X:Blk} {ro:Bool} {e:TypeId} {cs:List Value} (h:x0e G v a) (hS:Array.setIfInBounds G b X=G') (hb:a0e.blk G b=.row ro e cs) (h1:e ≠ a0m) (h2:e ≠ a0b):x0e G' v a:=by
 have hl1:LxT a0b G G':=a0X hS hb h2
 have hl2:Lx G G':=fun b ro cs h=>a0X (e:=a0m) hS hb h1 b ro cs h
 obtain ⟨s1,s2,sX,sY,sR,e1,k1,k2,k3,k4,k5⟩:=h
 exact ⟨s1,s2,sX,sY,sR,e1,k1.setS hS hb h1,k2.setS hS hb h1,b0y.lx2 k3 hl1 hl2,b0y.lx2 k4 hl1 hl2,b0y.lx2 k5 hl1 hl2⟩
def X0R (p:LPt) (n m S:Nat) (r:Value) (H':a0e):Prop:=∃ q,p0U p q n m ((n + 3) * (S + 1))∧n0U q p.C n m r H'
theorem j0P {p:LPt} {n m S:Nat} (h:p0N p n m S) (hp:LPV H v p) (hf:fl≤H.size) :
  a0V env fl R0Z [v] H (fun r H'=>X0R p n m S r H'∧Ext H H') R:=by
 have hp0:=hp
 obtain ⟨sA0,sB0,sC0,rfl,kA,kB,kC⟩:=hp
 refine a0k Y0V hf (h:=?_)
 intro ρ h0
 simp [U0Q,L0r,h0,kA.cells,kB.cells,kC.cells]
 generalize hG:Array.push (Array.push H _) _=G
 obtain ⟨hx,b0,b1⟩:=push2 hG
 clear hG
 simp [L0s,b0]
 have hS:=h.S1
 have hK:(n + 3) * (S + 1) < 67108864:=by
  have h1:=h.sz
  have h2:1 * (2 * ((m + 2) * ((n + 3) * (S + 1) + m + 2) + 1 + m + S) + 10)≤(n + 1) * (2 * ((m + 2) * ((n + 3) * (S + 1) + m + 2) + 1 + m + S) + 10):=Z0L _ (by omega)
  have h3:1 * ((n + 3) * (S + 1) + m + 2)≤(m + 2) * ((n + 3) * (S + 1) + m + 2):=Z0L _ (by omega)
  omega
 refine (i0w (S:=S) (N:=n) (hp0.mono hx) hx.1 (fun r hr=>⟨(h.row r hr).1,by rw [(h.row r hr).2];exact Z0E _⟩) h.fB (by rw [h.pA,h.pB]) h.fC (by rw [h.pC];exact Z0E _) (by rw [h.pA];have:=h.m1;omega) hS rfl hK).mono ?_
 rintro wq G2 ⟨⟨q,hv,q1,q2,q3,q4,q5⟩,hx2⟩
 have hq:p0U p q n m ((n + 3) * (S + 1)):=⟨q1,q2,q3,q4,q5⟩
 clear q1 q2 q3 q4 q5
 replace b0:=hx2.blk b0
 replace b1:=hx2.blk b1
 replace hx:=hx.trans hx2
 clear hx2
 have hsz:=hx.1
 have hv0:=hv
 obtain ⟨sA,sBy,sC,s1,s2,rfl,qA,qB,qC,k1,k2⟩:=hv
 have c1:=k1.cells;have c2:=k2.cells
 simp [hsz,qA.cells,qA.plain,qB.cells,qB.plain,qC.cells,qC.plain,c1,c2,k1.plain,k2.plain]
 generalize hN:Array.setIfInBounds (Array.push _ _) _ _=G3
 obtain ⟨hx2,b2⟩:=new1 hN
 clear hN
 replace b0:=hx2.blk b0
 replace b1:=hx2.blk b1
 replace hv0:=hv0.mono hx2
 replace hx:=hx.trans hx2
 clear hx2
 obtain ⟨P2,hP2⟩:∃ x,x=G2.size:=⟨_,rfl⟩
 rw [← hP2] at b2 hsz ⊢
 simp [L0t,b0,b2]
 refine (w0B (h.sol hq (hp0.mono hx) hv0) hx.1).mono ?_
 rintro r G4 ⟨hr,hx2⟩
 replace b0:=hx2.blk b0
 replace b1:=hx2.blk b1
 replace b2:=hx2.blk b2
 replace hv0:=hv0.mono hx2
 replace hx:=hx.trans hx2
 clear hx2
 have hsz2:=hx.1
 rcases hr with ⟨ans,k,rfl,hQ⟩ | ⟨ans,rfl,s1',s2',s3',s4',s5',s6',s7',s8',rfl,hpl⟩
 ·obtain ⟨ans',a,k',he,hA,hQ⟩:=hQ
  obtain ⟨rfl,rfl⟩:ans=ans'∧k=k':=by simpa using he
  clear he
  have hA0:=hA
  obtain ⟨z1,z2,z3,z4,z5,rfl,l1,l2,l3,l4,l5⟩:=hA
  have d1:=l1.cells;have d2:=l2.cells
  simp [hsz2,d1,d2,l1.plain,l2.plain,l3.cells,l3.plain,l4.cells,l4.plain,l5.cells,l5.plain]
  generalize hN:Array.setIfInBounds (Array.push _ _) _ _=G5
  obtain ⟨hx2,b3⟩:=new1 hN
  clear hN
  replace b0:=hx2.blk b0
  replace b1:=hx2.blk b1
  replace b2:=hx2.blk b2
  replace hA0:=hA0.mono hx2
  replace hx:=hx.trans hx2
  clear hx2
  obtain ⟨P4,hP4⟩:∃ x,x=G4.size:=⟨_,rfl⟩
  rw [← hP4] at b3 ⊢
  simp [E0G,L0u,b3,b1,d1,d2,l1.plain,l2.plain,l3.cells,l3.plain,l4.cells,l4.plain,l5.cells,l5.plain]
  generalize hS':Array.setIfInBounds G5 _ _=G6
  rw [a0M hS' b1]
  simp
  exact fun _=>⟨q,hq,_,a,k,rfl,hA0.setS hS' b1 (by decide) (by decide),hQ⟩
 ·simp at hpl
  obtain ⟨p1,p2,p3,p4,p5,p6,p7,p8⟩:=hpl
  simp [hsz2,p1,p2,p3,p4,p5,p6,p7,p8]
  generalize hN:Array.setIfInBounds (Array.push _ _) _ _=G5
  obtain ⟨hx2,b3⟩:=new1 hN
  clear hN
  replace b0:=hx2.blk b0
  replace b1:=hx2.blk b1
  replace b2:=hx2.blk b2
  replace hv0:=hv0.mono hx2
  replace hx:=hx.trans hx2
  clear hx2
  simp [E0G,L0v,b0,b2]
  refine a0V.mono (r0o (F:=.all) (h.sol hq (hp0.mono hx) hv0) hx.1 trivial) ?_
  rintro r G6 ⟨⟨ans,a,k,rfl,hA,hQ⟩,hx2⟩
  replace b1:=hx2.blk b1
  replace hx:=hx.trans hx2
  clear hx2
  have hsz3:=hx.1
  have hA0:=hA
  obtain ⟨z1,z2,z3,z4,z5,rfl,l1,l2,l3,l4,l5⟩:=hA
  have d1:=l1.cells;have d2:=l2.cells
  simp [b1,hsz3,d1,d2,l1.plain,l2.plain,l3.cells,l3.plain,l4.cells,l4.plain,l5.cells,l5.plain]
  generalize hS':Array.setIfInBounds G6 _ _=G7
  rw [a0M hS' b1]
  simp
  exact fun _=>⟨q,hq,_,a,k,rfl,hA0.setS hS' b1 (by decide) (by decide),hQ⟩
theorem i0v {p:LPt} {n m S:Nat} (h:p0N p n m S) (hp:LPV H v p) (hf:fl≤H.size) (hr:l0D p=true) :
  a0V env fl R0N [v] H (fun r H'=>(∃ ans k,r=.tuple #[ans,.int .i64 k,.int .i64 0]∧X0R p n m S (.tuple #[ans,.int .i64 k]) H')∧Ext H H') R:=by
 have hp0:=hp
 obtain ⟨sA0,sB0,sC0,rfl,kA,kB,kC⟩:=hp
 refine a0k Y0E hf (h:=?_)
 intro ρ h0
 simp [U0z,J0X,h0,kA.cells,kB.cells,kC.cells]
 generalize hG:Array.push (Array.push H _) _=G
 obtain ⟨hx,b0,b1⟩:=push2 hG
 clear hG
 simp [J0Y,b0]
 refine (o0y (hp0.mono hx) hx.1).mono ?_
 rintro _ G2 ⟨rfl,hx2⟩
 replace b0:=hx2.blk b0
 replace b1:=hx2.blk b1
 replace hx:=hx.trans hx2
 clear hx2
 simp [hr]
 simp [J0Z,b0]
 refine (j0P h (hp0.mono hx) hx.1).mono ?_
 rintro r G4 ⟨⟨q,hq,ans,a,k,rfl,hA,hQ⟩,hx2⟩
 replace b1:=hx2.blk b1
 replace hx:=hx.trans hx2
 clear hx2
 have hsz2:=hx.1
 have hA0:=hA
 obtain ⟨z1,z2,z3,z4,z5,rfl,l1,l2,l3,l4,l5⟩:=hA
 have d1:=l1.cells;have d2:=l2.cells
 simp [hsz2,d1,d2,l1.plain,l2.plain,l3.cells,l3.plain,l4.cells,l4.plain,l5.cells,l5.plain]
 generalize hN:Array.setIfInBounds (Array.push _ _) _ _=G5
 obtain ⟨hx2,b3⟩:=new1 hN
 clear hN
 replace b1:=hx2.blk b1
 replace hA0:=hA0.mono hx2
 replace hx:=hx.trans hx2
 clear hx2
 obtain ⟨P4,hP4⟩:∃ x,x=G4.size:=⟨_,rfl⟩
 rw [← hP4] at b3 ⊢
 simp [K0a,b3,b1,d1,d2,l1.plain,l2.plain,l3.cells,l3.plain,l4.cells,l4.plain,l5.cells,l5.plain]
 generalize hS':Array.setIfInBounds G5 _ _=G6
 rw [a0M hS' b1]
 simp
 exact fun _=>⟨_,k,⟨rfl,rfl⟩,q,hq,_,a,k,rfl,hA0.setS hS' b1 (by decide) (by decide),hQ⟩
end
section
open Go SX
set_option maxHeartbeats 1000000
def rs (f:Nat→Rat):Nat→Rat
 | 0=>0
 | n + 1=>rs f n + f n
theorem b0E {f g:Nat→Rat}:∀ {n:Nat},(∀ i,i < n→f i=g i)→rs f n=rs g n
 | 0,_=>rfl
 | n + 1,h=>by rw [rs,rs,b0E (fun i hi=>h i (by omega)),h n (by omega)]
theorem h0l {f:Nat→Rat} {c:Rat}:∀ {n:Nat},rs (fun i=>f i * c) n=rs f n * c
 | 0=>by rw [rs,rs,b1E]
 | n + 1=>by rw [rs,rs,h0l,Rat.add_mul]
theorem l0E {f:Nat→Int}:∀ {n:Nat},rs (fun i=>(f i:Rat)) n=((sm f n:Int):Rat)
 | 0=>rfl
 | n + 1=>by rw [rs,sm,l0E,Rat.intCast_add]
theorem x0M {a b:List b0k}:∀ {n:Nat},p0O a b n=rs (fun i=>b0A (a.getD i c0l) * b0A (b.getD i c0l)) n
 | 0=>rfl
 | n + 1=>by rw [p0O,rs,x0M]
def pA (p:LPt) (r k:Nat):Rat:=b0A ((p.A.getD r []).getD k c0l)
def pB (p:LPt) (r:Nat):Rat:=b0A (p.B.getD r c0l)
def pC (p:LPt) (k:Nat):Rat:=b0A (p.C.getD k c0l)
structure x0h (p:LPt) (n m:Nat) (a:m0B):Prop where
 kind:a.kind=2
 V:a.V=0
 X:a.X=[]
 Ray:a.Ray=[]
 Yl:a.Y.length=m
 Y0:∀ i,i < m→0≤a.Y.getD i 0
 YA:∀ k,k < n→rs (fun i=>a.Y.getD i 0 * pA p i k) m=0
 YB:rs (fun i=>a.Y.getD i 0 * pB p i) m < 0
structure F0Q (p:LPt) (n m:Nat) (a:m0B):Prop where
 kind:a.kind=1
 Ray:a.Ray=[]
 Xl:a.X.length=n
 Yl:a.Y.length=m
 AX:∀ r,r < m→rs (fun k=>pA p r k * a.X.getD k 0) n≤pB p r
 Y0:∀ i,i < m→0≤a.Y.getD i 0
 YA:∀ k,k < n→rs (fun i=>a.Y.getD i 0 * pA p i k) m=pC p k
 V:a.V=rs (fun k=>pC p k * a.X.getD k 0) n
 YB:rs (fun i=>a.Y.getD i 0 * pB p i) m=a.V
structure x0i (p:LPt) (n m:Nat) (a:m0B):Prop where
 kind:a.kind=3
 Xl:a.X.length=n
 AX:∀ r,r < m→rs (fun k=>pA p r k * a.X.getD k 0) n≤pB p r
 AR:∀ r,r < m→rs (fun k=>pA p r k * a.Ray.getD k 0) n≤0
 CR:0 < rs (fun k=>pC p k * a.Ray.getD k 0) n
theorem d0g {f:Nat→Rat} {n k:Nat} (h:k < n):((List.range n).map f).getD k 0=f k:=by
 rw [Z0C];simp [h]
section
variable {p:LPt} {q:ScT} {n m S K:Nat}
theorem Whole.row_eq (h:p0N p n m S) (hq:p0U p q n m K) {r:Nat} (hr:r < m):0 < q.bs.getD r 0∧(∀ k,k < n→((Tf q.A r k:Int):Rat)=pA p r k * q.bs.getD r 0)∧((bbq q n r:Int):Rat)=pB p r * q.bs.getD r 0:=by
 have hr':r < p.A.length:=by rw [h.pA];exact hr
 have hW:=hq.rows r hr'
 have hl:=r0k h hr'
 have hrl:=(h.row _ (Z0M hr')).2
 refine ⟨hW.pos,fun k hk=>?_,?_⟩
 ·have e:=hW.eq k (by omega)
  have e1:(q.A.getD r [])[k]'(by rw [hW.len];omega)=Tf q.A r k:=by
   unfold Tf;rw [b0F (l:=q.A.getD r []) (by rw [hW.len];omega)]
  rw [e1] at e
  rw [e]
  congr 1
  unfold pA i0Y
  rw [a1B (by rw [a1P,b0F hr'];omega),a1t,b0F (l:=p.A.getD r []) (by rw [b0F hr'];omega)]
 ·have e:=hW.eq n (by omega)
  have e1:(q.A.getD r [])[n]'(by rw [hW.len];omega)=bbq q n r:=by
   unfold bbq Tf;rw [b0F (l:=q.A.getD r []) (by rw [hW.len];omega)]
  rw [e1] at e
  rw [e]
  congr 1
  unfold pB i0Y
  rw [Z0Z (by rw [a1P,b0F hr'];omega)]
  simp
theorem Whole.cost_eq (h:p0N p n m S) (hq:p0U p q n m K):0 < q.cb∧∀ k,k < n→((ccq q k:Int):Rat)=pC p k * q.cb:=by
 refine ⟨hq.cost.pos,fun k hk=>?_⟩
 have hk':k < (p.C.map b0A).length:=by rw [a1P,h.pC];exact hk
 have e:=hq.cost.eq k hk'
 have e1:q.C[k]'(by rw [hq.cost.len];exact hk')=ccq q k:=by unfold ccq;rw [b0F]
 rw [e1] at e
 rw [e,a1t]
 unfold pC
 rw [b0F (by rw [h.pC];exact hk)]
end
section
variable {p:LPt} {q:ScT} {n m S K:Nat} {a:m0B} {T:Nat→Nat→Int} {base:Nat→Nat} {D:Int}
theorem inv_pos {c:Rat} (h:0 < c):0 < c⁻¹:=Rat.inv_pos.2 h
theorem g0M {D:Int} (h:0 < D):(0:Rat) < (D:Rat):=Rat.intCast_pos.2 h
theorem k0s {D:Int} (h:0≤D):(0:Rat)≤(D:Rat):=Rat.intCast_nonneg.2 h
theorem o0i {t D:Int} {b c:Rat}:Rat.divInt t D * b / c=(t:Rat) * b * ((D:Rat)⁻¹ * c⁻¹):=by
 rw [b1Y,c1t,c1t]
 grind
theorem q0d (h:p0N p n m S) (hq:p0U p q n m K) {t:Nat→Int} {c:Rat} (Y:Nat→Rat) (hY:∀ i,i < m→Y i=Rat.divInt (t i) D * q.bs.getD i 0 / c) :
  (∀ k,k < n→rs (fun i=>Y i * pA p i k) m=((sm (fun i=>t i * Tf q.A i k) m:Int):Rat) * ((D:Rat)⁻¹ * c⁻¹))∧rs (fun i=>Y i * pB p i) m=((sm (fun i=>t i * bbq q n i) m:Int):Rat) * ((D:Rat)⁻¹ * c⁻¹):=by
 refine ⟨fun k hk=>?_,?_⟩
 ·rw [← l0E,← h0l]
  refine b0E fun i hi=>?_
  obtain ⟨_,h2,_⟩:=Whole.row_eq h hq hi
  rw [hY i hi,o0i,b1W,h2 k hk]
  grind
 ·rw [← l0E,← h0l]
  refine b0E fun i hi=>?_
  obtain ⟨_,_,h3⟩:=Whole.row_eq h hq hi
  rw [hY i hi,o0i,b1W,h3]
  grind
theorem T0F.cert (h:p0N p n m S) (hq:p0U p q n m K) (hs:T0F q n m a):x0h p n m a:=by
 obtain ⟨T,base,D,hT,h1,h2,h3,h4,h5,h6,h7⟩:=hs
 have hD:=hT.pos
 obtain ⟨i1,i2,i3⟩:=w0l hT h5
 have hY:∀ i,i < m→a.Y.getD i 0=Rat.divInt (T m (2 * n + i)) D * q.bs.getD i 0 / 1:=fun i hi=>by rw [h7,d0g hi]
 obtain ⟨s1,s2⟩:=q0d h hq _ hY
 have hc:(0:Rat) < (D:Rat)⁻¹ * (1:Rat)⁻¹:=c1m (inv_pos (g0M hD)) (inv_pos (by decide))
 refine ⟨h1,h2,h3,h4,by rw [h7];simp,fun i hi=>?_,fun k hk=>?_,?_⟩
 ·rw [hY i hi,o0i]
  exact c1e (c1e (k0s (i1 i hi)) (c1w (Whole.row_eq h hq hi).1)) (c1w hc)
 ·rw [s1 k hk,i2 k hk];simp
 ·rw [s2,i3]
  have h8:((T m (2 * n + m):Int):Rat) < 0:=by
   have:=Rat.intCast_lt_intCast.2 h6;simpa using this
  have h9:=c1m (a:=-((T m (2 * n + m):Int):Rat)) (by grind) hc
  grind
theorem F0n (h:p0N p n m S) (hq:p0U p q n m K) {r:Nat} (hr:r < m) {x:Nat→Rat} {P:Nat→Int} (hX:∀ k,k < n→x k=((P k:Int):Rat) * (D:Rat)⁻¹) (hD:0 < D):rs (fun k=>pA p r k * x k) n * (q.bs.getD r 0 * (D:Rat))=((sm (fun k=>Tf q.A r k * P k) n:Int):Rat):=by
 obtain ⟨r1,r2,r3⟩:=Whole.row_eq h hq hr
 have hDr:=g0M hD
 have hDD:(D:Rat) * (D:Rat)⁻¹=1:=Rat.mul_inv_cancel _ (by grind)
 rw [← l0E,← h0l]
 refine b0E fun k hk=>?_
 rw [hX k hk,b1W,r2 k hk]
 grind
theorem u0s (h:p0N p n m S) (hq:p0U p q n m K) {r:Nat} (hr:r < m) {x:Nat→Rat} {P:Nat→Int} (hX:∀ k,k < n→x k=((P k:Int):Rat) * (D:Rat)⁻¹) (hD:0 < D) (hj:sm (fun k=>Tf q.A r k * P k) n≤D * bbq q n r):rs (fun k=>pA p r k * x k) n≤pB p r:=by
 obtain ⟨r1,r2,r3⟩:=Whole.row_eq h hq hr
 have e1:=F0n h hq hr hX hD
 have e2:pB p r * (q.bs.getD r 0 * (D:Rat))=((D * bbq q n r:Int):Rat):=by
  rw [b1W,r3];grind
 have e3:=Rat.intCast_le_intCast.2 hj
 rw [← e1,← e2] at e3
 exact Rat.le_of_mul_le_mul_right e3 (c1m r1 (g0M hD))
theorem t0T (h:p0N p n m S) (hq:p0U p q n m K) {x:Nat→Rat} {P:Nat→Int} (hX:∀ k,k < n→x k=((P k:Int):Rat) * (D:Rat)⁻¹) (hD:0 < D):rs (fun k=>pC p k * x k) n=((sm (fun k=>ccq q k * P k) n:Int):Rat) * ((D:Rat)⁻¹ * q.cb⁻¹):=by
 obtain ⟨hcb,hcc⟩:=Whole.cost_eq h hq
 have hcc1:q.cb * q.cb⁻¹=1:=Rat.mul_inv_cancel _ (by grind)
 rw [← l0E,← h0l]
 refine b0E fun k hk=>?_
 rw [hX k hk,b1W,hcc k hk]
 grind
theorem T0G.cert (h:p0N p n m S) (hq:p0U p q n m K) (hs:T0G q n m a):x0i p n m a:=by
 obtain ⟨T,base,D,j,hT,h1,h2,h3,h4,h5,h6,h7,h8,h9⟩:=hs
 have hD:=hT.pos
 obtain ⟨j1,j2⟩:=J0a hT (fun i hi hb=>(h4 i hi hb).1)
 obtain ⟨u1,u2⟩:=F0H hT h5 h7 (fun i hi hb=>(h4 i hi hb).2)
 have hX:∀ k,k < n→a.X.getD k 0=((ptq n base (fun i=>T i (2 * n + m)) m k:Int):Rat) * (D:Rat)⁻¹:=fun k hk=>by rw [h8,d0g hk,b1Y,c1t]
 have hY:∀ k,k < n→a.Ray.getD k 0=((l0A n m T base D j k:Int):Rat) * (D:Rat)⁻¹:=fun k hk=>by rw [h9,d0g hk,b1Y,c1t]
 refine ⟨h1,by rw [h8];simp,fun r hr=>u0s h hq hr hX hD (j1 r hr),fun r hr=>?_,?_⟩
 ·obtain ⟨r1,r2,r3⟩:=Whole.row_eq h hq hr
  have e1:=F0n h hq hr hY hD
  have e3:=Rat.intCast_le_intCast.2 (u1 r hr)
  rw [← e1] at e3
  have e4:=c1m r1 (g0M hD)
  refine Rat.le_of_mul_le_mul_right ?_ e4
  rw [b1E];exact e3
 ·rw [t0T h hq hY hD,u2]
  refine c1m (Rat.intCast_pos.2 (by omega)) (c1m (inv_pos (g0M hD)) (inv_pos (Whole.cost_eq h hq).1))
theorem T0E.cert (h:p0N p n m S) (hq:p0U p q n m K) (hs:T0E q p.C n m a):F0Q p n m a:=by
 obtain ⟨T,base,D,hT,h1,h2,h3,h4,h5,h6,h7⟩:=hs
 have hD:=hT.pos
 obtain ⟨i1,i2,i3⟩:=SX.duals hT h4
 obtain ⟨j1,j2⟩:=J0a hT h3
 obtain ⟨hcb,hcc⟩:=Whole.cost_eq h hq
 have hY:∀ i,i < m→a.Y.getD i 0=Rat.divInt (T (m + 1) (2 * n + i)) D * q.bs.getD i 0 / q.cb:=fun i hi=>by rw [h6,d0g hi]
 have hX:∀ k,k < n→a.X.getD k 0=((ptq n base (fun i=>T i (2 * n + m)) m k:Int):Rat) * (D:Rat)⁻¹:=fun k hk=>by rw [h5,d0g hk,b1Y,c1t]
 obtain ⟨s1,s2⟩:=q0d h hq _ hY
 have hDr:=g0M hD
 have hDi:=inv_pos hDr
 have hci:=inv_pos hcb
 have hc:(0:Rat) < (D:Rat)⁻¹ * q.cb⁻¹:=c1m hDi hci
 have hDD:(D:Rat) * (D:Rat)⁻¹=1:=Rat.mul_inv_cancel _ (by grind)
 have hcc1:q.cb * q.cb⁻¹=1:=Rat.mul_inv_cancel _ (by grind)
 have hV:a.V=rs (fun k=>pC p k * a.X.getD k 0) n:=by
  rw [h7,x0M]
  refine b0E fun k hk=>?_
  unfold pC
  congr 1
  rw [b0F (by rw [a1P,h5];simpa using hk),a1t,a0s,b0F (by rw [h5];simpa using hk)]
 have hVs:rs (fun k=>pC p k * a.X.getD k 0) n=((T (m + 1) (2 * n + m):Int):Rat) * ((D:Rat)⁻¹ * q.cb⁻¹):=by
  rw [← j2];exact t0T h hq hX hD
 refine ⟨h1,h2,by rw [h5];simp,by rw [h6];simp,fun r hr=>?_,fun i hi=>?_,fun k hk=>?_,hV,?_⟩
 ·exact u0s h hq hr hX hD (j1 r hr)
 ·rw [hY i hi,o0i]
  exact c1e (c1e (k0s (i1 i hi)) (c1w (Whole.row_eq h hq hi).1)) (c1w hc)
 ·rw [s1 k hk,i2 k hk,b1W,hcc k hk]
  grind
 ·rw [s2,i3,hV,hVs]
end
end
end Go.Proofs.YtilekhkgobmolaaGreat.AI
