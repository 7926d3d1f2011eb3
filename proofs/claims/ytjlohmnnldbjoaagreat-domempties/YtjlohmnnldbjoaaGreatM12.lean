/- Part 13 of the proof: AiRefD3, AiRefD4, AiEmp1, AiLaw6, AiQuick2, AiQuick3, AiQuick4, AiQuickF. -/
import Derived.Test.YtjlohmnnldbjoaaGreatChecked
import Derived.Test.YtjlohmnnldbjoaaGreatM02
import Derived.Test.YtjlohmnnldbjoaaGreatM04
import Derived.Test.YtjlohmnnldbjoaaGreatM11
set_option linter.unusedVariables false
set_option linter.unusedSimpArgs false
set_option linter.unusedSectionVars false
namespace Go.Proofs.YtjlohmnnldbjoaaGreat.AI
section
open Go
set_option maxHeartbeats 4000000
variable {fl:Nat} {H G:a0f} {R:a0G} {v w u:Value}
theorem j0H {p:LPt} {n:Nat} (h:LPV H v p) (hn:p.n=n) (hn2:n≤60) (hm:p.A.length≤60) (hB:p.B.length=p.A.length) (hC:p.C.length=n) (hr:∀ r ∈ p.A,r.length=n) (hf:fl≤H.size) :
  a0S env fl X0a [v] H (fun r H'=>r=.bool true∧Ext H H') R:=by
 obtain ⟨sA,sB,sC,rfl,kA,kB,kC⟩:=h
 rw [hn]
 refine a0i g1v hf (h:=?_)
 intro ρ h0
 have hAs:=kA.slen
 have hBs:=kB.slen
 have hCs:=kC.slen
 rw [hB] at hBs
 rw [hC] at hCs
 have h1:¬ (n:Int) < 0:=by omega
 have h2:¬ 60 < (n:Int):=by omega
 have h3:¬ 60 < (p.A.length:Int):=by omega
 simp [b1N,Q0a,h0,kA.cells,kB.cells,kC.cells]
 generalize hG:Array.push H _=G0
 obtain ⟨hx0,b0⟩:=g0r hG
 clear hG
 simp [Q0b,Q0c,b0,hAs,hBs,hCs,h1,h2,h3]
 refine c0q (fun i ρ G=>ρ 1=.pointer (some ⟨H.size,0,none⟩)∧ρ 3=.int .i64 (i:Int)∧Ext G0 G) p.A.length (by decide) ⟨by simp,by simp,Ext.refl G0⟩ ?_
 clear h0 ρ
 rintro i ρ G hi1 ⟨g1,g3,hy⟩
 have b1:=hy.blk b0
 have hx:=hx0.trans hy
 have kA2:=kA.mono b0F hx
 simp [Q0d,g1,g3,b1,hAs]
 refine d0L.mk (by simp) (fun hi=>?_) (fun heq=>?_)
 ·obtain ⟨wr,hlr,kr⟩:=d0o.load kA2 hi
  have hsl:=kr.slen
  rw [hr _ (h1I hi)] at hsl
  simp
  refine a0B ?_
  simp [Q0e,g1,g3,b1,kA2.ia hi,hlr,hsl]
  unfold e0N
  simp [Q0f,g3,b0a (show i < 4611686018427387904 by omega)]
  exact c0f.mk ⟨by simp [g1],by simp,hy⟩
 ·subst heq
  simp [Q0g]
theorem U0K {x y:Rat} (h:x≤y):¬ 0 < t0o x y:=by
 unfold t0o
 split
 ·omega
 ·rename_i h1
  rw [h1C (fun h2=>by grind)];omega
theorem g0U {x y:Rat} (h:x=y):t0o x y=0:=by
 unfold t0o;rw [h1C (by grind),h1C (by grind)]
theorem U0J {x:Rat} (h:0≤x):¬ t0o x 0 < 0:=by
 unfold t0o;rw [h1C (by grind)];split <;> omega
theorem K0S {x:Rat} (h:x < 0):t0o x 0 = -1:=by unfold t0o;rw [h1F h]
theorem o0b {S n:Nat} {p:LPt} {x:List b0q} (h:LPV H v p) (hn:p.n=n) (hn2:n≤60) (hm:p.A.length≤60) (hB:p.B.length=p.A.length) (hC:p.C.length=n) (hr:∀ r ∈ p.A,r.length=n) (hxv:a0O H w x) (hxl:x.length=n) (fA:∀ r ∈ p.A,Few S r) (fB:Few S p.B) (fx:Few S x) (hS:(n + 1) * (2 * S + 3) + 1 < 67108864)
  (hle:∀ i (h:i < p.A.length) (h':i < p.B.length),d0V p.A[i] x n≤b0o p.B[i]) (hf:fl≤H.size) :
  a0S env fl X0c [v,w] H (fun r H'=>r=.bool true∧Ext H H') R:=by
 have hp:=h
 obtain ⟨sA,sB,sC,rfl,kA,kB,kC⟩:=h
 rw [hn] at hp ⊢
 refine a0i g1x hf (h:=?_)
 intro ρ h0
 have hxs:=hxv.slen
 rw [hxl] at hxs
 simp [b1P,Q0p,h0,kA.cells,kB.cells,kC.cells]
 generalize hG:Array.push H _=G0
 obtain ⟨hx,b0⟩:=g0r hG
 clear hG
 simp [Q0q,b0]
 refine (j0H (p:=p) (n:=n) ⟨sA,sB,sC,by rw [hn],kA.mono b0F hx,kB.mono a0u hx,kC.mono a0u hx⟩ hn hn2 hm hB hC hr hx.1).mono ?_
 rintro _ G2 ⟨rfl,hx2⟩
 replace b0:=hx2.blk b0
 replace hx:=hx.trans hx2
 simp [h0,b0,hxs]
 simp [Q0r,h0,b0]
 refine (q0o (S:=S) (kA.mono b0F hx) (hxv.mono a0u hx) hx.1 (fun r h=>by rw [hr r h,hxl]) fA fx (by rw [hxl];exact hS) (by omega)).mono ?_
 rintro _ G3 ⟨⟨q,rfl,kq⟩,hx2⟩
 replace b0:=hx2.blk b0
 replace hx:=hx.trans hx2
 simp [Q0s]
 refine c0q (fun i ρ G=>ρ 2=.pointer (some ⟨H.size,0,none⟩)∧ρ 5=q∧ρ 7=.int .i64 (i:Int)∧Ext G3 G) p.A.length (by decide) ⟨by simp,by simp,by simp,Ext.refl G3⟩ ?_
 clear h0 ρ hx2
 rintro i ρ G hi1 ⟨g2,g5,g7,hy⟩
 have b1:=hy.blk b0
 have hxG:=hx.trans hy
 have kq2:=Sls.mono a0u kq hy
 have hqs:=kq2.slen
 rw [k0K] at hqs
 simp [Q0t,g5,g7,hqs]
 refine d0L.mk (by simp) (fun hi=>?_) (fun heq=>?_)
 ·have kB2:=kB.mono a0u hxG
  have hib:i < p.B.length:=by omega
  have hiq:i < (h0E p.A x p.A.length).length:=by rw [k0K];exact hi
  obtain ⟨wq,hlq,kq3⟩:=a0O.load kq2 hiq
  obtain ⟨wb,hlb,kb3⟩:=a0O.load kB2 hib
  have eq:(h0E p.A x p.A.length)[i]=a0e (d0V p.A[i] x n):=by simp [h0E,hxl,hi]
  rw [eq] at kq3
  have hsz:=h0C (fA _ (h1I hi)) fx n
  have hfb:=fB _ (h1I hib)
  rw [h1X] at hS
  simp
  refine a0B ?_
  simp [Q0u,g2,g5,g7,b1,kq2.ia hiq,hlq,kB2.ia hib,hlb]
  refine (d0u kq3 kb3 hxG.1 (by rw [a0I];omega) (by omega)).mono ?_
  rintro _ G4 ⟨rfl,hx4⟩
  rw [a0D]
  have hc:=U0K (hle i hi hib)
  simp [hc]
  unfold e0N
  simp [Q0v,g7,b0a (show i < 4611686018427387904 by omega)]
  exact c0f.mk ⟨by simp [g2],by simp [g5],by simp,hy.trans hx4⟩
 ·subst heq
  simp [Q0w]
theorem j0I {S n:Nat} {p:LPt} {y:List b0q} (h:LPV H v p) (hn:p.n=n) (hn2:n≤60) (hm:p.A.length≤60) (hr:∀ r ∈ p.A,r.length=n) (hyv:a0O H w y) (hyl:y.length=p.A.length) (hS1:1≤S) (fA:∀ r ∈ p.A,Few S r) (fy:Few S y) (hS:(p.A.length + 1) * (2 * S + 1) + 1 < 16777216)
  (hy0:∀ i (h:i < y.length),0≤b0o y[i]) (hf:fl≤H.size) :
  a0S env fl X0b [v,w] H (fun r H'=>(∃ q,r=.tuple #[q,.bool true]∧a0O H' q (h0b y p.A n p.A.length))∧Ext H H') R:=by
 obtain ⟨sA,sB,sC,rfl,kA,kB,kC⟩:=h
 rw [hn]
 refine a0i g1w hf (h:=?_)
 intro ρ h0
 have hAs:=kA.slen
 have hys:=hyv.slen
 rw [hyl] at hys
 have hSl:S < 16777216:=by
  have:1 * (2 * S + 1)≤(p.A.length + 1) * (2 * S + 1):=h1J _ (by omega)
  omega
 simp [b1O,Q0h,h0,kA.cells,kB.cells,kC.cells]
 generalize hG:Array.push H _=G0
 obtain ⟨hx0,b0⟩:=g0r hG
 clear hG
 simp [Q0i,Q0j,h0,b0,hAs,hys]
 refine c0q (fun i ρ G=>ρ 1=w∧ρ 2=.pointer (some ⟨H.size,0,none⟩)∧ρ 6=.int .i64 (i:Int)∧Ext G0 G) p.A.length (by decide) ⟨by simp [h0],by simp,by simp,Ext.refl G0⟩ ?_
 clear h0 ρ
 rintro i ρ G hi1 ⟨g1,g2,g6,hy⟩
 have b1:=hy.blk b0
 have hx:=hx0.trans hy
 have ky:=hyv.mono a0u hx
 simp [Q0k,g1,g6,hys]
 refine d0L.mk (by simp) (fun hi=>?_) (fun heq=>?_)
 ·have hiy:i < y.length:=by omega
  obtain ⟨wy,hly,kyi⟩:=a0O.load ky hiy
  have hfi:=fy _ (h1I hiy)
  simp [Q0l,g1,g6,ky.ia hiy,hly]
  refine (f0j kyi hx.1 (by omega)).mono ?_
  rintro _ G2 ⟨rfl,hx2⟩
  have hc:=U0J (hy0 i hiy)
  simp [hc]
  unfold e0N
  simp [Q0m,g6,b0a (show i < 4611686018427387904 by omega)]
  exact c0f.mk ⟨by simp [g1],by simp [g2],by simp,hy.trans hx2⟩
 ·subst heq
  simp [Q0n,g1,g2,b1]
  refine (s0n (S:=S) ky (kA.mono b0F hx) hx.1 hyl hr hS1 fy fA (by omega) hS).mono ?_
  rintro _ G2 ⟨⟨q,rfl,kq⟩,hx2⟩
  simp [Q0o]
  exact fun _=>kq
theorem s0p {S:Nat} {a b:List b0q} (ha:a0O H v a) (hb:a0O H w b) (he:a.length=b.length) (fa:Few S a) (fb:Few S b) (hS:S < 67108864) (hl:a.length < 1073741824) (hq:∀ i (h:i < a.length) (h':i < b.length),b0o a[i]=b0o b[i]) (hf:fl≤H.size) :
  a0S env fl Y0M [v,w] H (fun r H'=>r=.bool true∧Ext H H') R:=by
 refine a0i g1z hf (h:=?_)
 intro ρ h0
 have has:=ha.slen
 have hbs:=hb.slen
 rw [← he] at hbs
 simp [b1R,Q0F,Q0G,Q0H,h0,has,hbs]
 refine c0q (fun i ρ G=>ρ 0=v∧ρ 1=w∧ρ 5=.int .i64 (i:Int)∧Ext H G) a.length (by decide) ⟨by simp [h0],by simp [h0],by simp,Ext.refl H⟩ ?_
 clear h0 ρ
 rintro i ρ G hi1 ⟨g0,g1,g5,hx⟩
 simp [Q0I,g0,g5,has]
 refine d0L.mk (by simp) (fun hi=>?_) (fun heq=>?_)
 ·have hib:i < b.length:=by omega
  have ka:=ha.mono a0u hx
  have kb:=hb.mono a0u hx
  obtain ⟨wa,hla,kai⟩:=a0O.load ka hi
  obtain ⟨wb,hlb,kbi⟩:=a0O.load kb hib
  have h1:=fa _ (h1I hi)
  have h2:=fb _ (h1I hib)
  simp
  refine a0B ?_
  simp [Q0J,g0,g1,g5,ka.ia hi,kb.ia hib,hla,hlb]
  refine (d0u kai kbi hx.1 (by omega) (by omega)).mono ?_
  rintro _ G2 ⟨rfl,hx2⟩
  rw [g0U (hq i hi hib)]
  simp
  unfold e0N
  simp [Q0K,g5,b0a (show i < 4611686018427387904 by omega)]
  exact c0f.mk ⟨by simp [g0],by simp [g1],by simp,hx.trans hx2⟩
 ·subst heq
  simp [Q0L]
theorem h0W {l:List Rat} {k:Nat}:b0o ((l.map a0e).getD k d0P)=l.getD k 0:=by
 by_cases hk:k < l.length
 ·rw [b0y (by simpa using hk),i1x,a0D,b0y hk]
 ·rw [h1z,h1z,h1M (by simpa using hk),h1M (by omega)];exact c0C
theorem t0D {S:Nat} {l:List Rat} (h:∀ x ∈ l,szR x≤S):Few S (l.map a0e):=o0m h
theorem q0n {n m:Nat} {p:LPt} {a:t0a} (hp:LPV H v p) (ha:z0x H w a) (ok:t0f p n m 6) (hn:n≤6) (hm:m≤40) (hc:x0L p n m a ∨ z0z p n m a) (hz:z0A a 6000) (hf:fl≤H.size) :
  a0S env fl Y0D [v,w] H (fun r H'=>r=.bool true∧Ext H H') R:=by
 have hmA:=ok.pA
 have hB:=ok.pB
 rw [← hmA] at hB
 have hC:=ok.pC
 have hr:=fun r hr=>(ok.row r hr).2
 have fA:=fun r hr=>(ok.row r hr).1
 have fA':∀ r ∈ p.A,Few 6000 r:=fun r h=>(fA r h).up (by omega)
 have fY:Few 6000 (a.Y.map a0e):=t0D hz.2
 have fX:Few 6000 (a.X.map a0e):=t0D hz.1
 have fB:Few 6000 p.B:=ok.fB.up (by omega)
 have fC:Few 6000 p.C:=ok.fC.up (by omega)
 have hcl:a.Y.length=m∧∀ i,i < m→0≤a.Y.getD i 0:=by rcases hc with hc | hc <;> exact ⟨hc.Yl,hc.Y0⟩
 obtain ⟨hYl,hY0⟩:=hcl
 have hyl:(a.Y.map a0e).length=p.A.length:=by simp;omega
 have hy0:∀ i (h:i < (a.Y.map a0e).length),0≤b0o (a.Y.map a0e)[i]:=fun i h=>by
  rw [← b0y (d:=d0P) h,h0W];exact hY0 i (by omega)
 have hlv:∀ k,rs (fun r=>b0o ((a.Y.map a0e).getD r d0P) * b0o ((p.A.getD r []).getD k d0P)) p.A.length=rs (fun i=>a.Y.getD i 0 * pA p i k) m:=fun k=>by
  rw [hmA];exact c0b fun i _=>by rw [h0W];rfl
 have hYB:d0V (a.Y.map a0e) p.B m=rs (fun i=>a.Y.getD i 0 * pB p i) m:=by
  rw [k0l];exact c0b fun i _=>by rw [h0W];rfl
 obtain ⟨sA,sB,sC,rfl,kA,kB,kC⟩:=hp
 obtain ⟨s1,s2,sX,sY,sR,rfl,q1,q2,qX,qY,qR⟩:=ha
 refine a0i g1e hf (h:=?_)
 intro ρ h0
 simp [b1x,O0q,h0,kA.cells,kB.cells,kC.cells,q1.cells,q2.cells,qX.cells,qY.cells,qR.cells]
 generalize hG:Array.push (Array.push H _) _=G
 obtain ⟨hx,b2,b3⟩:=push2 hG
 clear hG
 simp [O0r,b2]
 refine (j0H (p:=p) (n:=n) ⟨sA,sB,sC,rfl,kA.mono b0F hx,kB.mono a0u hx,kC.mono a0u hx⟩ ok.pn (by omega) (by omega) hB hC hr hx.1).mono ?_
 rintro _ G2 ⟨rfl,hx2⟩
 replace b2:=hx2.blk b2
 replace b3:=hx2.blk b3
 replace hx:=hx.trans hx2
 have hlp:∀ {G':a0f},Ext H G'→LPV G' (.agg #[.int .i64 p.n,sA,sB,sC]) p:=fun h=>⟨sA,sB,sC,rfl,kA.mono b0F h,kB.mono a0u h,kC.mono a0u h⟩
 rcases hc with hc | hc
 ·simp [G0w,G0x,G0n,b3,hc.kind]
  simp [G0o,b2,b3]
  refine (j0I (S:=6000) (n:=n) (hlp hx) ok.pn (by omega) (by omega) hr (qY.mono a0u hx) hyl (by omega) fA' fY (by omega) hy0 hx.1).mono ?_
  rintro _ G3 ⟨⟨q,rfl,kq⟩,hx2⟩
  replace b2:=hx2.blk b2
  replace b3:=hx2.blk b3
  replace hx:=hx.trans hx2
  have hXs:=qX.slen
  have hRs:=qR.slen
  rw [hc.X] at hXs
  rw [hc.Ray] at hRs
  simp at hXs hRs
  simp [G0p,b3,hXs,hRs]
  refine (f0j (x:=a0e a.V) ⟨s1,s2,rfl,q1.mono hx,q2.mono hx⟩ hx.1 (by rw [hc.V,a0I,d0U];decide)).mono ?_
  rintro _ G4 ⟨rfl,hx2⟩
  rw [a0D,hc.V,g0U rfl]
  replace b2:=hx2.blk b2
  replace b3:=hx2.blk b3
  replace kq:=Sls.mono a0u kq hx2
  replace hx:=hx.trans hx2
  simp [G0q,b2,b3]
  refine (g0k (S:=6000) (qY.mono a0u hx) (kB.mono a0u hx) hx.1 (by rw [hyl,hB]) fY fB (by rw [hyl];omega)).mono ?_
  rintro _ G5 ⟨⟨_,rfl,s3,s4,rfl,k3,k4⟩,hx2⟩
  rw [hyl,hmA,hYB] at k3 k4 ⊢
  replace kq:=Sls.mono a0u kq hx2
  replace hx:=hx.trans hx2
  have hsz:=hx.1
  simp [k3.cells,k4.cells,k3.plain,k4.plain,hsz]
  generalize hN:Array.setIfInBounds (Array.push _ _) _ _=G6
  obtain ⟨hx3,b13⟩:=new1 hN
  clear hN
  replace kq:=Sls.mono a0u kq hx3
  replace hx:=hx.trans hx3
  replace k3:=k3.mono hx3
  replace k4:=k4.mono hx3
  obtain ⟨P,hP⟩:∃ P,P=G5.size:=⟨_,rfl⟩
  rw [← hP] at b13 ⊢
  simp [G0r]
  refine c0q (fun i ρ G=>ρ 11=q∧ρ 13=.pointer (some ⟨P,0,none⟩)∧ρ 15=.int .i64 (i:Int)∧Ext G6 G) n (by decide) ⟨by simp,by simp,by simp,Ext.refl G6⟩ ?_
  clear h0 ρ hx2 hx3
  rintro i ρ G hi1 ⟨g11,g13,g15,hy⟩
  have kq2:=Sls.mono a0u kq hy
  have hqs:=kq2.slen
  rw [c0U] at hqs
  have hxG:=hx.trans hy
  simp [G0s,g11,g15,hqs]
  refine d0L.mk (by simp) (fun hi=>?_) (fun heq=>?_)
  ·have hiq:i < (h0b (a.Y.map a0e) p.A n p.A.length).length:=by rw [c0U];exact hi
   obtain ⟨wq,hlq,kqi⟩:=a0O.load kq2 hiq
   have e0:(h0b (a.Y.map a0e) p.A n p.A.length)[i]=a0e 0:=by
    rw [← hc.YA i hi,← hlv i];simp [h0b]
   rw [e0] at kqi
   simp [G0t,g11,g15,kq2.ia hiq,hlq]
   refine (f0j kqi hxG.1 (by rw [a0I,d0U];decide)).mono ?_
   rintro _ G7 ⟨rfl,hx7⟩
   rw [a0D,g0U rfl]
   simp
   unfold e0N
   simp [G0u,g15,b0a (show i < 4611686018427387904 by omega)]
   exact c0f.mk ⟨by simp [g11],by simp [g13],by simp,hy.trans hx7⟩
  ·subst heq
   have b14:=hy.blk b13
   simp [G0v,g13,b14]
   refine (f0j ⟨s3,s4,rfl,k3.mono hy,k4.mono hy⟩ hxG.1 (by
    have:=h0C fY fB m
    rw [a0I,← hYB];omega)).mono ?_
   rintro _ G7 ⟨rfl,hx7⟩
   rw [a0D,K0S hc.YB]
   simp
 ·have hXl:=hc.Xl
  have hVs:a.V=d0V p.C (a.X.map a0e) n:=by
   rw [hc.V,k0l];exact c0b fun i _=>by rw [h0W];rfl
  have hVz:szR a.V≤n * (2 * 6000 + 3) + 1:=by rw [hVs];exact h0C fC fX n
  simp [G0w,G0x,b3,hc.kind]
  simp [O0s,b2,b3]
  refine (j0I (S:=6000) (n:=n) (hlp hx) ok.pn (by omega) (by omega) hr (qY.mono a0u hx) hyl (by omega) fA' fY (by omega) hy0 hx.1).mono ?_
  rintro _ G3 ⟨⟨q,rfl,kq⟩,hx2⟩
  replace b2:=hx2.blk b2
  replace b3:=hx2.blk b3
  replace hx:=hx.trans hx2
  have hRs:=qR.slen
  rw [hc.Ray] at hRs
  simp at hRs
  simp [O0t,b2,b3]
  refine (o0b (S:=6000) (n:=n) (hlp hx) ok.pn (by omega) (by omega) hB hC hr (qX.mono a0u hx) (by simpa using hXl) fA' fB fX (by omega) (fun i h h'=>?_) hx.1).mono ?_
  ·rw [k0l]
   have:=hc.AX i (by omega)
   unfold pB at this
   rw [b0y h'] at this
   have e:∀ k,b0o (p.A[i].getD k d0P)=pA p i k:=fun k=>by unfold pA;rw [b0y (l:=p.A) h]
   rw [c0b (g:=fun k=>pA p i k * a.X.getD k 0) fun k _=>by rw [h0W,e]]
   exact this
  rintro _ G4 ⟨rfl,hx2⟩
  replace b2:=hx2.blk b2
  replace b3:=hx2.blk b3
  replace kq:=Sls.mono a0u kq hx2
  replace hx:=hx.trans hx2
  simp [b3,hRs]
  simp [O0u,b2,b3]
  refine (g0k (S:=6000) (kC.mono a0u hx) (qX.mono a0u hx) hx.1 (by rw [hC];simpa using hXl.symm) fC fX (by rw [hC];omega)).mono ?_
  rintro _ G5 ⟨⟨_,rfl,s3,s4,rfl,k3,k4⟩,hx2⟩
  rw [hC,← hVs] at k3 k4 ⊢
  replace b2:=hx2.blk b2
  replace b3:=hx2.blk b3
  replace kq:=Sls.mono a0u kq hx2
  replace hx:=hx.trans hx2
  have hsz:=hx.1
  have d3:=k3.cells;have d4:=k4.cells
  simp [d3,d4,k3.plain,k4.plain,hsz]
  generalize hN:Array.setIfInBounds (Array.push _ _) _ _=G6
  obtain ⟨hx2,b7⟩:=new1 hN
  clear hN
  replace b2:=hx2.blk b2
  replace b3:=hx2.blk b3
  replace kq:=Sls.mono a0u kq hx2
  replace hx:=hx.trans hx2
  replace k3:=k3.mono hx2
  replace k4:=k4.mono hx2
  obtain ⟨P,hP⟩:∃ P,P=G5.size:=⟨_,rfl⟩
  rw [← hP] at b7 ⊢
  simp [O0v,b2,b3]
  refine (g0k (S:=6000) (qY.mono a0u hx) (kB.mono a0u hx) hx.1 (by rw [hyl,hB]) fY fB (by rw [hyl];omega)).mono ?_
  rintro _ G7 ⟨⟨_,rfl,s5,s6,rfl,k5,k6⟩,hx2⟩
  rw [hyl,hmA,hYB,hc.YB] at k5 k6 ⊢
  replace b2:=hx2.blk b2
  replace b3:=hx2.blk b3
  replace b7:=hx2.blk b7
  replace kq:=Sls.mono a0u kq hx2
  replace hx:=hx.trans hx2
  replace k3:=k3.mono hx2
  replace k4:=k4.mono hx2
  have hsz:=hx.1
  have d5:=k5.cells;have d6:=k6.cells
  simp [d5,d6,k5.plain,k6.plain,hsz]
  generalize hN:Array.setIfInBounds (Array.push _ _) _ _=G8
  obtain ⟨hx2,b9⟩:=new1 hN
  clear hN
  replace b2:=hx2.blk b2
  replace b3:=hx2.blk b3
  replace b7:=hx2.blk b7
  replace kq:=Sls.mono a0u kq hx2
  replace hx:=hx.trans hx2
  replace k3:=k3.mono hx2
  replace k4:=k4.mono hx2
  replace k5:=k5.mono hx2
  replace k6:=k6.mono hx2
  obtain ⟨P2,hP2⟩:∃ P,P=G7.size:=⟨_,rfl⟩
  rw [← hP2] at b9 ⊢
  simp [G0m,b2]
  refine (s0p (S:=600000) kq (kC.mono a0u hx) (by rw [c0U,hC]) ((r0T (by omega) fY fA').up (by omega)) (fC.up (by omega)) (by omega) (by rw [c0U];omega) (fun i h h'=>?_) hx.1).mono ?_
  ·rw [c0U] at h
   have e0:(h0b (a.Y.map a0e) p.A n p.A.length)[i]'(by rw [c0U];exact h)=a0e (b0o p.C[i]):=by
    have e1:=hc.YA i h
    rw [← hlv i] at e1
    unfold pC at e1
    rw [b0y h'] at e1
    rw [← e1];simp [h0b]
   rw [e0,a0D]
  rintro _ G9 ⟨rfl,hx2⟩
  replace b3:=hx2.blk b3
  replace b7:=hx2.blk b7
  replace b9:=hx2.blk b9
  replace hx:=hx.trans hx2
  replace k3:=k3.mono hx2
  replace k4:=k4.mono hx2
  replace k5:=k5.mono hx2
  replace k6:=k6.mono hx2
  have hlz:d0W (a0e a.V) < 67108864:=by rw [a0I];omega
  simp [b3,b7]
  refine (d0u (a:=a0e a.V) (b:=a0e a.V) ⟨s3,s4,rfl,k3,k4⟩ ⟨s1,s2,rfl,q1.mono hx,q2.mono hx⟩ hx.1 hlz hlz).mono ?_
  rintro _ G10 ⟨rfl,hx2⟩
  replace b3:=hx2.blk b3
  replace b9:=hx2.blk b9
  replace hx:=hx.trans hx2
  rw [g0U rfl]
  simp [b3,b9]
  refine (d0u (a:=a0e a.V) (b:=a0e a.V) ⟨s5,s6,rfl,k5.mono hx2,k6.mono hx2⟩ ⟨s1,s2,rfl,q1.mono hx,q2.mono hx⟩ hx.1 hlz hlz).mono ?_
  rintro _ G11 ⟨rfl,hx2⟩
  rw [g0U rfl]
  simp
end
section
open Go
set_option maxHeartbeats 1000000
variable {fl:Nat} {H G:a0f} {R:a0G} {u v w z:Value}
theorem a0O.limR {l:List b0q} (h:a0O H v l) (k:d0G f0r l=false):Few 6 l:=by
 intro y hy
 obtain ⟨i,hi,rfl⟩:=i1O hy
 obtain ⟨w,_,s,t,_,h1,h2⟩:=a0O.load h hi
 have:f0r l[i]=false:=by
  cases hl:f0r l[i] with
  | false=>rfl
  | true=>exact h1Y (j1d.2 ⟨_,hy,hl⟩) (by unfold d0G at k;rw [k];decide)
 unfold f0r at this
 simp at this
 exact ⟨by unfold d0W;omega,h1.ok,h2.ok⟩
theorem d0o.few {l:List (List b0q)} (h:d0o H v l) (k:V0p l):∀ r ∈ l,Few 6 r:=by
 intro r hr
 obtain ⟨i,hi,rfl⟩:=i1O hr
 obtain ⟨w,_,hk⟩:=d0o.load h hi
 exact a0O.limR hk (k.2 _ hr).2
theorem B0B:∀ {rows:List (List b0q)} {d:List d0h} {i:Nat} (h1:i < rows.length) (h2:i < d.length),d[i].1=0→∃ j,j < (b0J rows d).length∧(b0J rows d).getD j []=h0P rows[i]∧(c0N rows d).getD j d0P=a0e (b0o d[i].2)
 | [],_,_,h,_,_=>by simp at h
 | _ :: _,[],_,_,h,_=>by simp at h
 | r :: rs,e :: es,0,_,_,h=>by
  have h:e.1=0:=h
  exact ⟨0,by simp [b0J,h],by simp [b0J,h],by simp [c0N,h]⟩
 | r :: rs,e :: es,i + 1,h1,h2,h=>by
  obtain ⟨j,j1,j2,j3⟩:=B0B (rows:=rs) (d:=es) (i:=i) (by simpa using h1) (by simpa using h2) (by simpa using h)
  by_cases he:e.1=0
  ·refine ⟨j + 1,by simp [b0J,he];exact j1,?_,?_⟩
   ·simp only [b0J,h1F he];simpa using j2
   ·simp only [c0N,h1F he];simpa using j3
  ·refine ⟨j,by simp [b0J,he];exact j1,?_,?_⟩
   ·simp only [b0J,h1C he];simpa using j2
   ·simp only [c0N,h1C he];simpa using j3
theorem z0T {rows:List (List b0q)} {n:Int} {d:List d0h} {a:t0a} (hv:c0x rows n d=true) (hd:d0G (fun e=>decide (e.1 < 0)) d=false) (hc:z0z (i0q rows n d) n.toNat (b0J rows d).length a):Z0h rows d (a.X.map a0e)=true:=by
 obtain ⟨hl,hm,hn0,hn6,_,hr⟩:=f0S hv
 rw [L0k]
 refine ⟨hl,fun i h k=>?_⟩
 have hrl:=hr _ (h1I h)
 have hXl:=hc.Xl
 refine ⟨by rw [i1P];omega,?_⟩
 have hmi:=hm _ (h1I k)
 have hneg:¬ d[i].1 < 0:=fun h1=>by
  have:d0G (fun e=>decide (e.1 < 0)) d=true:=j1d.2 ⟨_,h1I k,by simpa using h1⟩
  rw [this] at hd;exact h1Y hd (by decide)
 by_cases h0:d[i].1=0
 ·have e1:i0u d[i]=(0,b0o d[i].2):=by unfold i0u;rw [h1F hmi,h1F h0]
  rw [e1,x0U,k0l]
  obtain ⟨j,j1,j2,j3⟩:=B0B h k h0
  have h2:=hc.AX j j1
  have e2:pB (i0q rows n d) j=b0o d[i].2:=by
   show b0o ((c0N rows d).getD j d0P)=_
   rw [j3,a0D]
  rw [e2] at h2
  have e3:rows[i].length=n.toNat:=by omega
  rw [e3]
  have e4:∀ k,pA (i0q rows n d) j k=b0o (rows[i].getD k d0P):=fun k=>by
   show b0o (((b0J rows d).getD j []).getD k d0P)=_
   rw [j2]
   by_cases hk:k < rows[i].length
   ·rw [b0y (by unfold h0P;simpa using hk),b0y hk]
    unfold h0P;rw [i1x,a0D]
   ·rw [h1z,h1z,h1M (by unfold h0P;simpa using hk),h1M (by omega)]
  rw [c0b (g:=fun k=>pA (i0q rows n d) j k * a.X.getD k 0) fun k _=>by rw [h0W,e4]]
  exact h2
 ·have e1:i0u d[i]=(d[i].1,0):=by unfold i0u;rw [h1F hmi,h1C h0]
  rw [e1]
  unfold K0r
  rw [h1F (by show (0:Int) < d[i].1;omega)]
  omega
end
section
open Go
set_option maxHeartbeats 4000000
variable {fl:Nat} {H G:a0f} {R:a0G} {u v w z:Value} {rows:List (List b0q)} {d:List d0h} {n:Int}
theorem d0n.six (h:d0n H v d) (k:d0G g0B d=false):∀ e ∈ d,d0W e.2≤6∧b0u e.2.1.2∧b0u e.2.2.2:=by
 intro e he
 obtain ⟨h1,h2⟩:=d0n.limE h e he
 refine ⟨?_,h1,h2⟩
 have:g0B e=false:=by
  cases hl:g0B e with
  | false=>rfl
  | true=>exact h1Y (j1d.2 ⟨_,he,hl⟩) (by unfold d0G at k;rw [k];decide)
 unfold g0B f0r at this
 simp at this
 unfold d0W;omega
theorem l0J (ht:d0q H u rows) (ha:d0n H v d) (hf:fl≤H.size) :
  a0S env fl f_5 [u,.int .i64 n,v] H (fun r H'=>r=.bool true∧Ext H H') (fun _=>False):=by
 obtain ⟨s,rfl,hs⟩:=ht
 refine a0i e_5 hf (h:=?_)
 intro ρ h0
 simp [s_5,a1e,h0,hs.cells]
 generalize hG:Array.push H _=G
 obtain ⟨hx,b0⟩:=g0r hG
 clear hG
 have ka:=fun {G':a0f} (h:Ext H G')=>ha.mono d0J h
 have kc:=fun {G':a0f} (h:Ext H G')=>hs.mono b0F h
 simp [a1f,b0]
 refine (t0e (kc hx) hx.1).mono ?_
 rintro _ G1 ⟨⟨c,rfl,hgr⟩,hx2⟩
 replace b0:=hx2.blk b0
 replace hx:=hx.trans hx2
 cases c with
 | true =>
  simp [z0f]
  refine (d0c hx.1).mono ?_
  rintro _ G2 ⟨rfl,hx2⟩
  simp
 | false =>
 replace hgr:=hgr rfl
 simp [h0]
 refine (t0d (ka hx) hx.1).mono ?_
 rintro _ G1 ⟨rfl,hx2⟩
 replace b0:=hx2.blk b0
 replace hx:=hx.trans hx2
 by_cases la:100 < d.length
 ·simp [la,z0f]
  refine (d0c hx.1).mono ?_
  rintro _ G2 ⟨rfl,hx2⟩
  simp
 by_cases ga:d0G g0B d=true
 ·simp [ga,la,z0f]
  refine (d0c hx.1).mono ?_
  rintro _ G2 ⟨rfl,hx2⟩
  simp
 rw [j1D] at ga
 by_cases hn:4 < n
 ·simp [ga,la,h0,hn,z0f]
  refine (d0c hx.1).mono ?_
  rintro _ G2 ⟨rfl,hx2⟩
  simp
 by_cases hrw:12 < rows.length
 ·have hrw':12 < (rows.length:Int):=by omega
  simp [ga,la,h0,hn,b0,hs.slen,hrw',hrw,z0f]
  refine (d0c hx.1).mono ?_
  rintro _ G2 ⟨rfl,hx2⟩
  simp
 have hrw':¬ 12 < (rows.length:Int):=by omega
 simp [ga,la,h0,hn,b0,hs.slen,hrw',hrw]
 have fr:=d0o.few hs hgr
 have fa:=Z0d ga
 have f6:=d0n.six ha ga
 have hr:∀ r ∈ rows,Few 6 r∧r.length < 1073741824:=fun r hr=>⟨fr r hr,by have:=(hgr.2 r hr).1;omega⟩
 have hrl:rows.length < 1073741824:=by omega
 have hdl:d.length < 1073741824:=by omega
 simp [a1h,b0,h0]
 refine (i0z (rows:=rows) (n:=n) ⟨s,rfl,kc hx⟩ (ka hx) hx.1 hr hrl f6 hdl).mono ?_
 rintro r G1 ⟨hE,hx2⟩
 replace b0:=hx2.blk b0
 replace hx:=hx.trans hx2
 have hsz:=hx.1
 unfold o0e at hE
 by_cases hv:c0x rows n d=false
 ·rw [h1F hv] at hE
  subst hE
  simp [c1G,hsz]
  generalize hN:Array.setIfInBounds (Array.push _ _) _ _=G2
  obtain ⟨hx2,b8⟩:=new1 hN
  clear hN
  replace b0:=hx2.blk b0
  replace hx:=hx.trans hx2
  simp [L0V,h0,b0]
  refine (d0T (S:=6) (rows:=rows) (n:=n) ⟨s,rfl,kc hx⟩ (ka hx) hx.1 (by decide) hr hrl fa hdl).mono ?_
  rintro _ G3 ⟨rfl,hx2⟩
  replace b8:=hx2.blk b8
  replace b0:=hx2.blk b0
  replace hx:=hx.trans hx2
  simp [hv,a1i]
  refine (e0E hx.1).mono ?_
  rintro _ G4 ⟨rfl,hx2⟩
  replace b8:=hx2.blk b8
  replace b0:=hx2.blk b0
  replace hx:=hx.trans hx2
  simp [b8]
  refine (d0c hx.1).mono ?_
  rintro _ G2 ⟨rfl,hx2⟩
  simp
 rw [h1C hv] at hE
 rw [Bool.not_eq_false] at hv
 have hmay:=(f0S hv).2.1
 by_cases hdead:d0G (fun e:d0h=>decide (e.1 < 0)) d=true
 ·rw [h1F hdead] at hE
  subst hE
  simp [c1G,hsz]
  generalize hN:Array.setIfInBounds (Array.push _ _) _ _=G2
  obtain ⟨hx2,b8⟩:=new1 hN
  clear hN
  replace b0:=hx2.blk b0
  replace hx:=hx.trans hx2
  simp [L0V,h0,b0]
  refine (d0T (S:=6) (rows:=rows) (n:=n) ⟨s,rfl,kc hx⟩ (ka hx) hx.1 (by decide) hr hrl fa hdl).mono ?_
  rintro _ G3 ⟨rfl,hx2⟩
  replace b8:=hx2.blk b8
  replace b0:=hx2.blk b0
  replace hx:=hx.trans hx2
  simp [hv,h0,W0o]
  refine (g0j (ka hx) hx.1 fa hdl).mono ?_
  rintro _ G4 ⟨rfl,hx2⟩
  replace b8:=hx2.blk b8
  replace b0:=hx2.blk b0
  replace hx:=hx.trans hx2
  rw [l0V hmay,hdead]
  simp [a1j]
  refine (e0E hx.1).mono ?_
  rintro _ G4 ⟨rfl,hx2⟩
  replace b8:=hx2.blk b8
  replace b0:=hx2.blk b0
  replace hx:=hx.trans hx2
  simp [b8,show i0r (.slice none 0 0)=some (.int .i64 0) from rfl]
  refine (d0c hx.1).mono ?_
  rintro _ G2 ⟨rfl,hx2⟩
  simp
 rw [h1C hdead] at hE
 rw [j1D] at hdead
 obtain ⟨ans,a,rfl,hA,hC,hZ⟩:=hE
 have hA0:=hA
 obtain ⟨z1,z2,z3,z4,z5,rfl,l1,l2,l3,l4,l5⟩:=hA
 have d1:=l1.cells;have d2:=l2.cells
 simp [hsz,d1,d2,l1.plain,l2.plain,l3.cells,l3.plain,l4.cells,l4.plain,l5.cells,l5.plain]
 generalize hN:Array.setIfInBounds (Array.push _ _) _ _=G2
 obtain ⟨hx2,b8⟩:=new1 hN
 clear hN
 replace hA0:=hA0.mono hx2
 replace b0:=hx2.blk b0
 replace hx:=hx.trans hx2
 obtain ⟨P,hP⟩:∃ P,P=G1.size:=⟨_,rfl⟩
 rw [← hP] at b8 ⊢
 clear l1 l2 l3 l4 l5 d1 d2 hsz
 simp [L0V,h0,b0]
 refine (d0T (S:=6) (rows:=rows) (n:=n) ⟨s,rfl,kc hx⟩ (ka hx) hx.1 (by decide) hr hrl fa hdl).mono ?_
 rintro _ G3 ⟨rfl,hx2⟩
 replace b8:=hx2.blk b8
 replace hA0:=hA0.mono hx2
 replace b0:=hx2.blk b0
 replace hx:=hx.trans hx2
 simp [hv,h0,W0o]
 refine (g0j (ka hx) hx.1 fa hdl).mono ?_
 rintro _ G4 ⟨rfl,hx2⟩
 replace b8:=hx2.blk b8
 replace hA0:=hA0.mono hx2
 replace b0:=hx2.blk b0
 replace hx:=hx.trans hx2
 rw [l0V hmay,hdead]
 simp [a1k,h0,b0]
 refine (l0s (S:=6) (rows:=rows) (n:=n) ⟨s,rfl,kc hx⟩ (ka hx) hx.1 (by decide) hr hrl fa hdl).mono ?_
 rintro rq G5 ⟨hq,hx2⟩
 replace b8:=hx2.blk b8
 replace hA0:=hA0.mono hx2
 replace b0:=hx2.blk b0
 replace hx:=hx.trans hx2
 rw [h1F ⟨hv,hdead⟩] at hq
 obtain ⟨q,rfl,hq⟩:=hq
 have hq0:=hq
 obtain ⟨tA,tB,tC,rfl,pA,pB,pC⟩:=hq
 have hsz:=hx.1
 simp [pA.cells,pA.plain,pB.cells,pB.plain,pC.cells,pC.plain,hsz]
 generalize hN:Array.setIfInBounds (Array.push _ _) _ _=G6
 obtain ⟨hx2,b10⟩:=new1 hN
 clear hN
 replace b8:=hx2.blk b8
 replace hA0:=hA0.mono hx2
 replace hq0:=hq0.mono hx2
 replace b0:=hx2.blk b0
 replace hx:=hx.trans hx2
 obtain ⟨P2,hP2⟩:∃ P,P=G5.size:=⟨_,rfl⟩
 rw [← hP2] at b10 ⊢
 clear pA pB pC hsz
 simp [a1l]
 refine (e0E hx.1).mono ?_
 rintro _ G7 ⟨rfl,hx2⟩
 replace b8:=hx2.blk b8
 replace b10:=hx2.blk b10
 replace hA0:=hA0.mono hx2
 replace hq0:=hq0.mono hx2
 replace b0:=hx2.blk b0
 replace hx:=hx.trans hx2
 simp [b8,b10]
 obtain ⟨ok,_,hn6,hm40⟩:=B0C hv fr f6
 refine (q0n hq0 hA0 ok hn6 hm40 hC hZ hx.1).mono ?_
 rintro _ G8 ⟨rfl,hx2⟩
 replace b8:=hx2.blk b8
 replace hA0:=hA0.mono hx2
 replace b0:=hx2.blk b0
 replace hx:=hx.trans hx2
 rcases hC with hC | hC
 ·simp [b8,hC.kind,J0f]
  refine (d0c hx.1).mono ?_
  rintro _ G2 ⟨rfl,hx2⟩
  simp
 ·have hhas:=z0T hv hdead hC
  have fX:Few 6000 (a.X.map a0e):=t0D hZ.1
  have hXl:=hC.Xl
  simp [b8,hC.kind,J0f,h0,b0]
  obtain ⟨_,_,_,_,_,e1,_,_,kX,_,_⟩:=hA0
  simp at e1
  obtain ⟨-,-,e1,-,-⟩:=e1
  subst e1
  refine (r0x (S:=6000) (rows:=rows) ⟨s,rfl,kc hx⟩ (ka hx) kX hx.1 (fun r h=>(fr r h).up (by omega)) fX (by rw [i1P,hXl];omega) hrl fa).mono ?_
  rintro _ G9 ⟨rfl,hx2⟩
  replace b0:=hx2.blk b0
  replace hx:=hx.trans hx2
  rw [hhas]
  simp
  refine (d0c hx.1).mono ?_
  rintro _ G2 ⟨rfl,hx2⟩
  simp
end
section
open Go
def q0 (tL tS tA tI tB:Nat) (zA:List Value):List a0L :=
 [⟨some 2,none,.box tL (.tmp 0)⟩,⟨some 3,none,.box tS (.tmp 1)⟩,⟨some 4,none,.alloc tA zA⟩,⟨some 5,none,.alloc tI [.int .i64 0]⟩,⟨some 6,none,.alloc tB [.bool false]⟩]
def q1 (fD:FuncId):List a0L:=[⟨some 7,none,.mkfn (.func fD) [] [.tmp 4,.tmp 5,.tmp 6]⟩]
def q2a (nL nS:Nat):List a0L:=[⟨some 9,none,.build [] []⟩,⟨some 10,none,.load true nL (.tmp 2)⟩,⟨some 11,none,.load true nS (.tmp 3)⟩]
def q2b (nA:Nat):List a0L:=[⟨some 8,none,.mv (.tmp 12)⟩,⟨some 13,none,.ext (.tmp 8) 0⟩,⟨some 14,none,.ext (.tmp 8) 1⟩,⟨none,none,.store nA (.tmp 4) (.tmp 13)⟩,⟨none,none,.store 1 (.tmp 5) (.tmp 14)⟩]
def q2c (fS:FuncId):a0L:=⟨some 12,none,.call fS [.tmp 9,.tmp 10,.tmp 11] true⟩
def q3 (nA:Nat):List a0L:=[⟨some 15,none,.load true nA (.tmp 4)⟩,⟨some 16,none,.load false 1 (.tmp 5)⟩,⟨none,none,.store nA (.tmp 4) (.tmp 15)⟩,⟨none,none,.store 1 (.tmp 5) (.tmp 16)⟩,⟨none,none,.store 1 (.tmp 6) (.const (.bool true))⟩]
def qB (nA:Nat) (zA:List Value):List a0L:=[⟨some 5,none,.build zA []⟩,⟨none,none,.store nA (.tmp 0) (.tmp 5)⟩,⟨none,none,.store 1 (.tmp 1) (.const (.int .i64 0))⟩,⟨none,none,.store 1 (.tmp 2) (.const (.bool false))⟩]
structure QF (P:Program) where
 (fQ fD fS:FuncId) (fn fnD:Func) (tL tS tA tI tB:Nat) (zA:List Value) (nL nS:Nat)
 (ops0 ops1 ops2 ops3 opsA opsB:Array Oper) (i0 i1 i2 i3 iA iB:Nat)
 (o1 o2 o3 oA1 oA2:Oper) (bef:List Nat)
 (hfn:P.funcs[fQ]? = some fn)
 (hrun:z0w P fQ=true)
 (body:fn.body=some (.seq (.region i0 ops0 false) (.seq (.region i1 ops1 false) (.seq (.region i2 ops2 false) (.seq (.region i3 ops3 true) .ret)))))
 (np:fn.params.size=2)
 (nt:fn.ntmps=17)
 (res:fn.results.toList.mapM (Y0n P)=some [.cell 4 true zA.length,.cell 5 false 1,.cell 6 false 1])
 (c0:e0d P (.region i0 ops0 false)=some (.reg (q0 tL tS tA tI tB zA)))
 (h1:ops1 = #[o1,o2])
 (o1c:g0y P ops1 true o1=some ⟨some 7,none,.mkfn (.func fD) [] [.tmp 4,.tmp 5,.tmp 6]⟩)
 (o2g:o2.guard=none) (o2d:o2.dst=none) (o2o:o2.op=.defer { callee:=.value (.tmp 7),args:=#[],argTypes:=#[] })
 (c2:e0d P (.region i2 ops2 false)=some (.reg (q2a nL nS ++ q2c fS :: q2b zA.length)))
 (o3i:ops2[3]? = some o3) (o3g:o3.guard=none) (o3d:o3.dst=some 12) (ats:Array TypeId)
 (o3o:o3.op=.call { callee:=.value (.func fS),args:=#[.tmp 9,.tmp 10,.tmp 11],argTypes:=ats })
 (c3:e0d P (.region i3 ops3 true)=some (.draw (q3 zA.length) bef [(1,2)]))
 (nz:zA.length ≠ 0) (zf:zA.all flat=true) (zp:zA.all a0F=true)
 (hfnD:P.funcs[fD]? = some fnD) (runD:z0w P fD=true)
 (bodyD:fnD.body=some (.seq (.region iA opsA false) (.cond (.tmp 4) (.region iB opsB false) .skip)))
 (ntD:fnD.ntmps=6) (resD:fnD.results = #[])
 (hA:opsA = #[oA1,oA2])
 (oA1g:oA1.guard=none) (oA1d:oA1.dst=some 3) (oA1o:oA1.op=.call { callee:=.builtin .recover,args:=#[],argTypes:=#[] })
 (oA2g:oA2.guard=none) (oA2d:oA2.dst=some 4)
 (oA2f:∀ (ρ:Operand→Value) (w:World),ρ (.tmp 3)=.nilIface→ρ (.const .nilIface)=.nilIface→(execOp ρ oA2).run P w=.ok (.value (.bool false)) w)
 (oA2t:∀ (ρ:Operand→Value) (w:World) (ty:TypeId) (u:Value),ρ (.tmp 3)=.iface ty u→ρ (.const .nilIface)=.nilIface→(execOp ρ oA2).run P w=.ok (.value (.bool true)) w)
 (blB:opsB.toList.all (k0g 3)=true)
 (cB:e0d P (.region iB opsB false)=some (.reg (qB zA.length zA)))
variable {X:Cx} {call:Nat→FuncId→List Value→a0f→Res (Value × a0f)} {φ:Inj} {H H':a0f} {w:World} {fl:Nat}
def hp5 (F:QF X.P) (p s:Array Value) (H:a0f):a0f :=
 ((((H.push (.row false F.tL p.toList)).push (.row false F.tS s.toList)).push (.row false F.tA F.zA)).push (.row false F.tI [.int .i64 0])).push (.row false F.tB [.bool false])
def pt (n:Nat):Value:=.pointer (some ⟨n,0,none⟩)
def un (k:Nat):List Value:=List.replicate k undef
def tm5 (p s:Array Value) (n:Nat):b0b:=[.agg p,.agg s,pt n,pt (n + 1),pt (n + 2),pt (n + 3),pt (n + 4)] ++ un 10
def tm7 (fD:FuncId) (p s:Array Value) (n:Nat):b0b:=[.agg p,.agg s,pt n,pt (n + 1),pt (n + 2),pt (n + 3),pt (n + 4),.func (.func fD) #[] #[pt (n + 2),pt (n + 3),pt (n + 4)]] ++ un 9
def s0U (fD:FuncId) (p s:Array Value) (n:Nat):b0b:=[.agg p,.agg s,pt n,pt (n + 1),pt (n + 2),pt (n + 3),pt (n + 4),.func (.func fD) #[] #[pt (n + 2),pt (n + 3),pt (n + 4)],undef,.agg #[],.agg p,.agg s] ++ un 5
theorem w0c (F:QF X.P) (p s:Array Value):(hp5 F p s H).size=H.size + 5:=by simp [hp5]
theorem k0o (F:QF X.P) (p s:Array Value) (k:Nat) (hk:k < 5):(hp5 F p s H).blk (H.size + k)=[Blk.row false F.tL p.toList,.row false F.tS s.toList,.row false F.tA F.zA,.row false F.tI [.int .i64 0],.row false F.tB [.bool false]].getD k .dead:=by
 simp only [hp5,a0K,j1b]
 match k,hk with
 | 0,_=>rw [h1C (by omega),h1C (by omega),h1C (by omega),h1C (by omega),h1F (by omega)];rfl
 | 1,_=>simp
 | 2,_=>simp
 | 3,_=>simp
 | 4,_=>simp
theorem f1N (F:QF X.P) (p s:Array Value):b0c call H.size 1 (.reg (q0 F.tL F.tS F.tA F.tI F.tB F.zA)) ([.agg p,.agg s] ++ un 15) H=.fin .normal (tm5 p s H.size) (hp5 F p s H):=by
 simp [b0c,q0,f0a,b0g,b0D,opA,ev,get,put,un,tm5,hp5,pt,a0U,List.replicate]
theorem h1r (p s:Array Value) {fD:FuncId} {n:Nat} {G:a0f}:f0a call fl (q1 fD) (tm5 p s n) G=.fin .normal (tm7 fD p s n) G:=by
 simp [q1,f0a,b0g,b0D,opA,ev,get,put,un,tm5,tm7,pt,List.replicate]
theorem h1s (F:QF X.P) {p s:Array Value} (hp:p.size=F.nL) (hs:s.size=F.nS) (h0:F.nL ≠ 0) (h1:F.nS ≠ 0) :
  f0a call fl (q2a F.nL F.nS) (tm7 F.fD p s H.size) (hp5 F p s H)=.fin .normal (s0U F.fD p s H.size) (hp5 F p s H):=by
 have b0:=k0o (H:=H) F p s 0 (by omega)
 have b1:=k0o (H:=H) F p s 1 (by omega)
 simp only [i1J,List.getD_cons_zero,List.getD_cons_succ] at b0 b1
 have e0:b0x (hp5 F p s H) true F.nL (pt H.size)=some (.agg p):=by
  have h2:a0f.cells? (hp5 F p s H) H.size 0 F.nL=some p.toList:=by
   unfold a0f.cells?;rw [b0];simp only [i1o,i1V];rw [h1F (by simp [hp]),h1O (by simp [hp])]
  simp [b0x,pt,h0,h2]
 have e1:b0x (hp5 F p s H) true F.nS (pt (H.size + 1))=some (.agg s):=by
  have h2:a0f.cells? (hp5 F p s H) (H.size + 1) 0 F.nS=some s.toList:=by
   unfold a0f.cells?;rw [b1];simp only [i1o,i1V];rw [h1F (by simp [hs]),h1O (by simp [hs])]
  simp [b0x,pt,h1,h2]
 simp [q2a,f0a,b0g,b0D,opA,ev,get,put,un,tm7,s0U,List.replicate,e0,e1,b0H,g0A,b0C]
def g0o (F:QF X.P) (G:a0f):a0f:=((((G.push .dead).push .dead).push (.row false F.tA F.zA)).push (.row false F.tI [.int .i64 0])).push (.row false F.tB [.bool false])
structure a1N (X:Cx) (F:QF X.P) (φ:Inj) (H:a0f) (w w1:World) (B o:Nat→Nat):Prop where
 lo:∀ k,k < 5→w.heap.size≤B k
 hi:∀ k,k < 5→B k < w1.heap.size
 ne:∀ j k,j < 5→k < 5→j ≠ k→B j ≠ B k
 base:∀ k,k < 5→X.base≤B k
 rA:∃ c,w1.heap[B 2]? = some (.cells c F.tA (0,0))∧o 2 + F.zA.length≤c.size∧∀ φ S,CR X φ S F.zA ((c.toList.drop (o 2)).take F.zA.length)
 rI:∃ c,w1.heap[B 3]? = some (.cells c F.tI (0,0))∧o 3 + 1≤c.size∧∀ φ S,CR X φ S [.int .i64 0] ((c.toList.drop (o 3)).take 1)
 rB:∃ c,w1.heap[B 4]? = some (.cells c F.tB (0,0))∧o 4 + 1≤c.size∧∀ φ S,CR X φ S [.bool false] ((c.toList.drop (o 4)).take 1)
theorem L0f {φ φ':Inj} {S S':Shp} {v u:Value} (hf:flat v=true) (h:VR X φ S v u):VR X φ' S' v u:=by
 have:u=v:=by
  cases h <;> simp [flat] at hf <;> try rfl
  ·rename_i f a b a' b' h1 h2 h3 h4
   cases f <;> simp [flat] at hf
   obtain ⟨rfl,rfl⟩:=hf
   have e1:a' = #[]:=by simpa using h1.symm
   have e2:b' = #[]:=by simpa using h3.symm
   rw [e1,e2]
 rw [this];exact p0S hf
theorem r0P {φ φ':Inj} {S S':Shp} {l m:List Value} (hf:l.all flat=true) (h:CR X φ S l m):CR X φ' S' l m :=
 ⟨h.1,fun i hi=>L0f (by
  have:=i1p.1 hf (l.getD i undef) (by rw [h1z,h1E hi];exact h1I hi)
  exact this) (h.2 i hi)⟩
theorem Z0y (F:QF X.P) {p s:Array Value} {φ1:Inj} {w1:World} (hR:Rel X φ H w) (hst:d0p X H.size φ H w φ1 (hp5 F p s H) w1) {B o:Nat→Nat} (hφ:∀ k,k < 5→φ1 (H.size + k)=some (B k,o k)) :
  a1N X F φ H w w1 B o:=by
 have hnone:∀ k,φ (H.size + k)=none:=fun k=>by
  cases h:φ (H.size + k) with
  | none=>rfl
  | some x=>have:=hR.lt _ _ h;omega
 have hrow:∀ k,k < 5→∃ e cs,(hp5 F p s H).blk (H.size + k)=.row false e cs:=fun k hk=>by
  rw [k0o F p s k hk]
  match k,hk with
  | 0,_=>exact ⟨_,_,rfl⟩
  | 1,_=>exact ⟨_,_,rfl⟩
  | 2,_=>exact ⟨_,_,rfl⟩
  | 3,_=>exact ⟨_,_,rfl⟩
  | 4,_=>exact ⟨_,_,rfl⟩
 have rows:∀ k e cs,k < 5→(hp5 F p s H).blk (H.size + k)=.row false e cs→cs.all flat=true→∃ c,w1.heap[B k]? = some (.cells c e (0,0))∧o k + cs.length≤c.size∧∀ φ S,CR X φ S cs ((c.toList.drop (o k)).take cs.length):=by
  intro k e cs hk hb hf
  obtain ⟨c,el,fz,g1,g2,g3,g4,_⟩:=hst.rel.row _ _ _ _ _ _ (hφ k hk) hb
  obtain ⟨_,rfl,rfl⟩:=g4 rfl
  exact ⟨c,g1,g2,fun φ' S'=>r0P hf g3⟩
 refine ⟨fun k hk=>hst.own_new hR (hφ k hk) (hnone k),fun k hk=>?_,fun j k hj hk hne heq=>?_,fun k hk=>?_,?_,?_,?_⟩
 ·obtain ⟨e,cs,h⟩:=hrow k hk
  exact hst.rel.row_lt (hφ k hk) h
 ·obtain ⟨e,cs,h⟩:=hrow j hj
  obtain ⟨e',cs',h'⟩:=hrow k hk
  have:=hst.rel.sep _ _ _ _ _ _ _ (hφ j hj) (by rw [heq];exact hφ k hk) (by omega) h
  rw [h'] at this;cases this
 ·obtain ⟨e,cs,h⟩:=hrow k hk
  obtain ⟨c,el,fz,g1,g2,g3,g4,_⟩:=hst.rel.row _ _ _ _ _ _ (hφ k hk) h
  exact (g4 rfl).1
 ·exact rows 2 F.tA F.zA (by omega) (by rw [k0o F p s 2 (by omega)];rfl) F.zf
 ·exact rows 3 F.tI [.int .i64 0] (by omega) (by rw [k0o F p s 3 (by omega)];rfl) rfl
 ·exact rows 4 F.tB [.bool false] (by omega) (by rw [k0o F p s 4 (by omega)];rfl) rfl
def B0z (φ:Inj) (n:Nat) (B o:Nat→Nat):Inj:=ad (ad (ad (ad (ad φ n (B 0) (o 0)) (n + 1) (B 1) (o 1)) (n + 2) (B 2) (o 2)) (n + 3) (B 3) (o 3)) (n + 4) (B 4) (o 4)
theorem s0g (F:QF X.P) {φ':Inj} {w1 w2:World} {B o:Nat→Nat} (O:a1N X F φ H w w1 B o) (hR':Rel X φ' H' w2) (hold:∀ k,k < 5→w2.heap[B k]? = w1.heap[B k]?)
  (hno:∀ k,k < 5→∀ b o' ro e' cs',φ' b=some (B k,o')→H'.blk b ≠ .row ro e' cs'):Rel X (B0z φ' H'.size B o) (g0o F H') w2:=by
 have r0:=hR'.adopt0 (B 0) (o 0)
 have r1:=r0.adopt0 (B 1) (o 1)
 have s1:(H'.push Blk.dead).size=H'.size + 1:=by simp
 rw [s1] at r1
 have n1:∀ k,2≤k→k < 5→∀ b o' ro e' cs',ad (ad φ' H'.size (B 0) (o 0)) (H'.size + 1) (B 1) (o 1) b=some (B k,o')→a0f.blk ((H'.push Blk.dead).push .dead) b ≠ .row ro e' cs':=by
  intro k hk hk5 b o' ro e' cs' h
  unfold ad at h
  simp only [a0K,j1b]
  split at h
  ·rename_i hb;simp at h;exact h1Y h.1 (O.ne 1 k (by omega) hk5 (by omega))
  ·split at h
   ·rename_i hb;simp at h;exact h1Y h.1 (O.ne 0 k (by omega) hk5 (by omega))
   ·rename_i h1 h2;rw [h1C (by omega),h1C (by omega)];exact hno k hk5 b o' ro e' cs' h
 obtain ⟨c2,g1,g2,g3⟩:=O.rA
 have r2:=r1.adopt (B:=B 2) (o:=o 2) (e:=F.tA) (cs:=F.zA) (c:=c2) (by rw [hold 2 (by omega)];exact g1) g2 (g3 _ _) (O.base 2 (by omega)) (n1 2 (by omega) (by omega))
 have s2:((H'.push Blk.dead).push Blk.dead).size=H'.size + 2:=by simp
 rw [s2] at r2
 have n2:∀ k,3≤k→k < 5→∀ b o' ro e' cs',ad (ad (ad φ' H'.size (B 0) (o 0)) (H'.size + 1) (B 1) (o 1)) (H'.size + 2) (B 2) (o 2) b=some (B k,o')→a0f.blk (((H'.push Blk.dead).push .dead).push (.row false F.tA F.zA)) b ≠ .row ro e' cs':=by
  intro k hk hk5 b o' ro e' cs' h
  unfold ad at h
  rw [a0K,s2]
  split at h
  ·rename_i hb;simp at h;exact h1Y h.1 (O.ne 2 k (by omega) hk5 (by omega))
  ·rename_i hb;rw [h1C hb];exact n1 k (by omega) hk5 b o' ro e' cs' h
 obtain ⟨c3,g1,g2,g3⟩:=O.rI
 have r3:=r2.adopt (B:=B 3) (o:=o 3) (e:=F.tI) (cs:=[.int .i64 0]) (c:=c3) (by rw [hold 3 (by omega)];exact g1) g2 (g3 _ _) (O.base 3 (by omega)) (n2 3 (by omega) (by omega))
 have s3:(((H'.push Blk.dead).push Blk.dead).push (.row false F.tA F.zA)).size=H'.size + 3:=by simp
 rw [s3] at r3
 obtain ⟨c4,g1,g2,g3⟩:=O.rB
 have r4:=r3.adopt (B:=B 4) (o:=o 4) (e:=F.tB) (cs:=[.bool false]) (c:=c4) (by rw [hold 4 (by omega)];exact g1) g2 (g3 _ _) (O.base 4 (by omega)) (by
  intro b o' ro e' cs' h
  unfold ad at h
  rw [a0K,s3]
  split at h
  ·rename_i hb;simp at h;exact h1Y h.1 (O.ne 3 4 (by omega) (by omega) (by omega))
  ·rename_i hb;rw [h1C hb];exact n2 4 (by omega) (by omega) b o' ro e' cs' h)
 have s4:((((H'.push Blk.dead).push Blk.dead).push (.row false F.tA F.zA)).push (.row false F.tI [.int .i64 0])).size=H'.size + 4:=by simp
 rw [s4] at r4
 exact r4
theorem s0W {φ φ':Inj} {S S':Shp} {u:Value} (h:VR X φ S undef u):VR X φ' S' undef u:=by
 unfold undef at h ⊢
 cases h with
 | tuple a a' h1 h2=>exact .tuple _ _ h1 (fun i hi=>by simp at hi)
theorem U0l {φ φ':Inj} {S S':Shp}:∀ {k:Nat} {l:List Value},CR X φ S (un k) l→CR X φ' S' (un k) l
 | 0,l,h=>by rw [h.nil_left];exact CR.nil
 | k + 1,l,h=>by
  obtain ⟨v',r',rfl,hv,hr⟩:=(show CR X φ S (undef :: un k) l from h).cons_left
  exact CR.cons (s0W hv) (U0l hr)
theorem h0o {φ φ':Inj} {S S':Shp} {n m:Nat} {x:Nat × Nat} {u:Value} (hφ:φ n=some x) (hφ':φ' m=some x) (h:VR X φ S (pt n) u):VR X φ' S' (pt m) u:=by
 unfold pt at h ⊢
 cases h with
 | ptr a a' B o h1 h2 h3 =>
  rw [hφ] at h2;cases h2
  exact .ptr _ _ B o rfl hφ' h3
theorem n0t {φ1 φ2:Inj} {G:a0f} {w1:World} {p s:Array Value} {fD:FuncId} {B o:Nat→Nat} {m:Nat} {S0 S2:Shp} {u0 u1:Value} (hR:Rel X φ H w) (hst:d0p X H.size φ H w φ1 G w1)
  (hp:VR X φ S0 (.agg p) u0) (hs:VR X φ S0 (.agg s) u1) (hφ:∀ k,k < 5→φ1 (H.size + k)=some (B k,o k)) (h2:∀ k,k < 5→φ2 (m + k)=some (B k,o k)) (he:∀ b x,φ b=some x→φ2 b=some x)
  (hS:∀ b x,w1.shape? b=some x→S2 b=some x) {l:List Value} (h:CR X φ1 w1.shape? (s0U fD p s H.size) l):CR X φ2 S2 (s0U fD p s m) l:=by
 unfold s0U at h ⊢
 simp only [j1S,j1o] at h ⊢
 obtain ⟨x0,l,rfl,k0,h⟩:=h.cons_left
 obtain ⟨x1,l,rfl,k1,h⟩:=h.cons_left
 obtain ⟨x2,l,rfl,k2,h⟩:=h.cons_left
 obtain ⟨x3,l,rfl,k3,h⟩:=h.cons_left
 obtain ⟨x4,l,rfl,k4,h⟩:=h.cons_left
 obtain ⟨x5,l,rfl,k5,h⟩:=h.cons_left
 obtain ⟨x6,l,rfl,k6,h⟩:=h.cons_left
 obtain ⟨x7,l,rfl,k7,h⟩:=h.cons_left
 obtain ⟨x8,l,rfl,k8,h⟩:=h.cons_left
 obtain ⟨x9,l,rfl,k9,h⟩:=h.cons_left
 obtain ⟨x10,l,rfl,k10,h⟩:=h.cons_left
 obtain ⟨x11,l,rfl,k11,h⟩:=h.cons_left
 have ba:∀ {v u u'},VR X φ S0 v u→VR X φ1 w1.shape? v u'→VR X φ2 S2 v u':=fun k k'=>(VR.back hR hst k k').mono he hS
 refine CR.cons (ba hp k0) (CR.cons (ba hs k1) (CR.cons (h0o (hφ 0 (by omega)) (h2 0 (by omega)) k2) (CR.cons (h0o (hφ 1 (by omega)) (h2 1 (by omega)) k3) (CR.cons (h0o (hφ 2 (by omega)) (h2 2 (by omega)) k4)
  (CR.cons (h0o (hφ 3 (by omega)) (h2 3 (by omega)) k5) (CR.cons (h0o (hφ 4 (by omega)) (h2 4 (by omega)) k6) (CR.cons ?_ (CR.cons (s0W k8) (CR.cons ?_ (CR.cons (ba hp k10) (CR.cons (ba hs k11) (U0l h))))))))))))
 ·cases k7 with
  | func f a b a' b' g1 g2 g3 g4 =>
   refine .func _ _ _ _ _ g1 (fun i hi=>by simp at hi) g3 (fun i hi=>?_)
   have hi3:i < 3:=by simpa using hi
   match i,hi3 with
   | 0,_=>exact h0o (hφ 2 (by omega)) (h2 2 (by omega)) (by simpa using g4 0 (by simp))
   | 1,_=>exact h0o (hφ 3 (by omega)) (h2 3 (by omega)) (by simpa using g4 1 (by simp))
   | 2,_=>exact h0o (hφ 4 (by omega)) (h2 4 (by omega)) (by simpa using g4 2 (by simp))
 ·cases k9 with
  | agg a a' g1 g2=>exact .agg _ _ g1 (fun i hi=>by simp at hi)
theorem q0l {n:Nat} {B o:Nat→Nat} (k:Nat) (hk:k < 5):B0z φ n B o (n + k)=some (B k,o k):=by
 unfold B0z ad
 match k,hk with
 | 0,_=>rw [h1C (by omega),h1C (by omega),h1C (by omega),h1C (by omega),h1F (by omega)]
 | 1,_=>rw [h1C (by omega),h1C (by omega),h1C (by omega),h1F (by omega)]
 | 2,_=>rw [h1C (by omega),h1C (by omega),h1F (by omega)]
 | 3,_=>rw [h1C (by omega),h1F (by omega)]
 | 4,_=>rw [h1F (by omega)]
theorem t0T {n b:Nat} {B o:Nat→Nat} (hb:b < n):B0z φ n B o b=φ b:=by
 unfold B0z ad;rw [h1C (by omega),h1C (by omega),h1C (by omega),h1C (by omega),h1C (by omega)]
theorem L0B {n b:Nat} {B o:Nat→Nat} {x:Nat × Nat} (hb:n≤b) (h:B0z φ n B o b=some x):(∃ k,k < 5∧x=(B k,o k)) ∨ φ b=some x:=by
 unfold B0z ad at h
 split at h
 ·exact .inl ⟨4,by omega,by simpa using h.symm⟩
 split at h
 ·exact .inl ⟨3,by omega,by simpa using h.symm⟩
 split at h
 ·exact .inl ⟨2,by omega,by simpa using h.symm⟩
 split at h
 ·exact .inl ⟨1,by omega,by simpa using h.symm⟩
 split at h
 ·exact .inl ⟨0,by omega,by simpa using h.symm⟩
 exact .inr h
theorem L0A (hR:Rel X φ H w) {w':World} (h:Pan X H.size φ H w w'):d0p X H.size φ H w φ H w':=by
 have hold:∀ B,B < w.heap.size→w'.heap[B]? = w.heap[B]?:=fun B hB=>h.frame B hB fun b o e cs h1 h2=>by have:=hR.lt b _ h1;omega
 exact { ext := fun _ _ h => h
         rel:=hR.agree (h1R hR.bs h.wsz) h.shp fun b B o ro e cs h1 h2=>hold B (hR.row_lt h1 h2)
         shp:=h.shp,wsz:=h.wsz,os:=h.os,tape:=h.tape,out:=h.out,hsz:=h1A _,keep:=fun _ _=>rfl,kind:=fun b e cs _ h=>⟨cs,h⟩
         fresh:=fun b x h1 h2=>by rw [h1] at h2;cases h2
         newB:=fun b B o h1 h2=>by rw [h1] at h2;cases h2
         frame:=fun B hB _=>hold B hB }
theorem B0a (F:QF X.P) {φ':Inj} {w1 w2:World} {B o:Nat→Nat} (hR:Rel X φ H w) (O:a1N X F φ H w w1 B o) (hR1:Rel X φ H w1) (h2:d0p X H.size φ H w1 φ' H' w2) :
  ∀ k,k < 5→∀ b o' ro e' cs',φ' b=some (B k,o')→H'.blk b ≠ .row ro e' cs':=by
 intro k hk b o' ro e' cs' hb hrow
 have h1:=O.lo k hk
 have h3:=O.hi k hk
 cases hφ:φ b with
 | none=>have:=h2.own_new hR1 hb hφ;omega
 | some x =>
  have:=h2.ext b x hφ
  rw [hb] at this;cases this
  cases ro with
  | true =>
   obtain ⟨c,el,fz,g1,g2,g3,g4,g5⟩:=h2.rel.row _ _ _ _ _ _ hb hrow
   have:=g5 rfl
   have:=O.base k hk
   omega
  | false =>
   obtain ⟨cs0,h5⟩:=h2.kind b e' cs' (hR.lt b _ hφ) hrow
   have:=hR.row_lt hφ h5
   omega
theorem w0a (F:QF X.P) {φ1 φ' φ4:Inj} {p s:Array Value} {w1 w2 w4:World} {H4:a0f} {B o:Nat→Nat} (hR:Rel X φ H w) (hfl:fl≤H.size) (hst:d0p X H.size φ H w φ1 (hp5 F p s H) w1) (O:a1N X F φ H w w1 B o)
  (h2:d0p X H.size φ H w1 φ' H' w2) (h3:d0p X H'.size (B0z φ' H'.size B o) (g0o F H') w2 φ4 H4 w4):d0p X fl φ H w φ' H' w4:=by
 have hR1:Rel X φ H w1:=hst.rel0 hR
 have hno:=B0a F hR O hR1 h2
 have hold4:∀ C,C < w2.heap.size→(∀ k,k < 5→C ≠ B k)→w4.heap[C]? = w2.heap[C]?:=by
  intro C hC hne
  refine h3.frame C hC fun b o' e cs hb hle _=>?_
  rcases L0B hle hb with ⟨k,hk,h⟩ | h
  ·simp at h;exact hne k hk h.1
  ·have:=h2.rel.lt b _ h;omega
 refine { ext:=h2.ext,rel:=?_,shp:=fun C x h=>h3.shp _ _ (h2.shp _ _ (hst.shp _ _ h)),wsz:=?_,os:=?_,tape:=?_,out:=?_,hsz:=h2.hsz,keep:=fun b hb=>h2.keep b (by omega),kind:=h2.kind,fresh:=h2.fresh,newB:=?_,frame:=?_ }
 ·exact h2.rel.agree (h1R h2.rel.bs h3.wsz) h3.shp fun b C o' ro e cs h4 h5=>hold4 C (h2.rel.row_lt h4 h5) fun k hk he=>by
   subst he;exact hno k hk b o' ro e cs h4 h5
 ·have:=hst.wsz;have:=h2.wsz;have:=h3.wsz;omega
 ·rw [h3.os,h2.os,hst.os]
 ·rw [h3.tape,h2.tape,hst.tape]
 ·rw [h3.out,h2.out,hst.out]
 ·intro b C o' h4 h5
  have:=h2.own_new hR1 h4 h5
  have:=hst.wsz
  exact .inl (by omega)
 ·intro C hC _
  have h6:=hst.wsz
  have h7:=h2.wsz
  rw [hold4 C (by omega) (fun k hk he=>by have:=O.lo k hk;omega),h2.old hR1 (by omega),hst.old hR hC]
theorem l0Z (F:QF X.P):(g0o F H).size=H.size + 5:=by simp [g0o]
theorem r0z (F:QF X.P):(g0o F H).blk (H.size + 2)=.row false F.tA F.zA:=by
 simp only [g0o,a0K,j1b]
 repeat (first | rw [h1F (show _=_ by omega)] | rw [h1C (show ¬ (_=_) by omega)])
 simp
theorem r0A (F:QF X.P):(g0o F H).blk (H.size + 3)=.row false F.tI [.int .i64 0]:=by
 simp only [g0o,a0K,j1b]
 repeat (first | rw [h1F (show _=_ by omega)] | rw [h1C (show ¬ (_=_) by omega)])
 simp
theorem r0B (F:QF X.P):(g0o F H).blk (H.size + 4)=.row false F.tB [.bool false]:=by
 simp only [g0o,a0K,j1b]
 repeat (first | rw [h1F (show _=_ by omega)] | rw [h1C (show ¬ (_=_) by omega)])
 simp
theorem p0q:∀ (vs pre cs:List Value),cs.length=vs.length→b0t (pre ++ cs) pre.length vs=pre ++ vs
 | [],pre,cs,h=>by have:cs=[]:=i1i.1 h;simp [b0t,this]
 | v :: r,pre,c :: cs,h=>by
  simp only [i1D,Nat.add_right_cancel_iff] at h
  have h1:(pre ++ c :: cs).set pre.length v=(pre ++ [v]) ++ cs:=by
   simp [List.set_append]
  have:=p0q r (pre ++ [v]) cs h
  simp only [b0t]
  rw [h1]
  simpa using this
theorem s0Y {cs vs:List Value} (h:cs.length=vs.length):b0t cs 0 vs=vs:=by simpa using p0q vs [] cs h
theorem l0h {G:a0f} {b:Nat} {e:TypeId} {cs vs:List Value} (hb:G.blk b=.row false e cs) (hf:fl≤b) (h:cs.length=vs.length) (hp:vs.all a0F=true):G.write? fl b 0 vs=some (G.setIfInBounds b (.row false e vs)):=by
 unfold a0f.write?
 rw [hb]
 simp only
 rw [h1F ⟨hf,by omega,hp⟩,s0Y h]
structure X0F (t:b0b) (m:Nat):Prop where
 l:t.length=17
 a:get t 4=pt (m + 2)
 i:get t 5=pt (m + 3)
 b:get t 6=pt (m + 4)
theorem h1u (F:QF X.P) {p s a:Array Value} {k:IntKind} {n:Int} (ha:a.size=F.zA.length) (hpl:a.toList.all a0F=true) :
  ∃ t' G,f0a call H'.size (q2b F.zA.length) (put (s0U F.fD p s H'.size) (some 12) (.tuple #[.agg a,.int k n])) (g0o F H')=.fin .normal t' G∧X0F t' H'.size∧H'.size + 5≤G.size ∧
   G.blk (H'.size + 2)=.row false F.tA a.toList∧G.blk (H'.size + 3)=.row false F.tI [.int k n]∧G.blk (H'.size + 4)=.row false F.tB [.bool false]:=by
 have w1:(g0o F H').write? H'.size (H'.size + 2) 0 a.toList=some ((g0o F H').setIfInBounds (H'.size + 2) (.row false F.tA a.toList)):=l0h (r0z F) (by omega) (by simp [ha]) hpl
 have hsz:=l0Z (H:=H') F
 have b3:a0f.blk ((g0o F H').setIfInBounds (H'.size + 2) (.row false F.tA a.toList)) (H'.size + 3)=.row false F.tI [.int .i64 0]:=by
  rw [a0Z _ _ _ _ (by omega),h1C (by omega)];exact r0A F
 have w2:a0f.write? ((g0o F H').setIfInBounds (H'.size + 2) (.row false F.tA a.toList)) H'.size (H'.size + 3) 0 [.int k n]=some (((g0o F H').setIfInBounds (H'.size + 2) (.row false F.tA a.toList)).setIfInBounds (H'.size + 3) (.row false F.tI [.int k n])) :=
  l0h b3 (by omega) rfl rfl
 refine ⟨put (put (put (put (s0U F.fD p s H'.size) (some 12) (.tuple #[.agg a,.int k n])) (some 8) (.tuple #[.agg a,.int k n])) (some 13) (.agg a)) (some 14) (.int k n),((g0o F H').setIfInBounds (H'.size + 2) (.row false F.tA a.toList)).setIfInBounds (H'.size + 3) (.row false F.tI [.int k n]),?_,?_,?_,?_,?_,?_⟩
 ·simp only [put,s0U,un,pt,List.replicate,j1S,j1o,List.set_cons_succ,List.set_cons_zero]
  simp [q2b,f0a,b0g,b0D,opA,ev,get,put,a0U,ha,w1,w2,b0H]
 ·exact ⟨by simp [put,s0U,un],by simp [put,get,s0U,un,List.replicate],by simp [put,get,s0U,un,List.replicate],by simp [put,get,s0U,un,List.replicate]⟩
 ·simp [hsz]
 ·rw [a0Z _ _ _ _ (by simp;omega),h1C (by omega),a0Z _ _ _ _ (by omega),h1F rfl]
 ·rw [a0Z _ _ _ _ (by simp;omega),h1F rfl]
 ·rw [a0Z _ _ _ _ (by simp;omega),h1C (by omega),a0Z _ _ _ _ (by omega),h1C (by omega)];exact r0B F
theorem N0Q {G:a0f} {b:Nat} {e:TypeId} {cs:List Value} (hb:G.blk b=.row false e cs) (hn:cs.length ≠ 0):b0x G true cs.length (pt b)=some (.agg cs.toArray):=by
 have h2:G.cells? b 0 cs.length=some cs:=by
  unfold a0f.cells?;rw [hb];simp only [i1o,i1V];rw [h1F (h1A _),h1O (h1A _)]
 simp [b0x,pt,hn,h2]
theorem A0I {G:a0f} {b:Nat} {e:TypeId} {v:Value} (hb:G.blk b=.row false e [v]):b0x G false 1 (pt b)=some v:=by
 have h2:G.cells? b 0 1=some [v]:=by unfold a0f.cells?;rw [hb];simp
 simp [b0x,pt,h2]
theorem h1t (F:QF X.P) {t:b0b} {G:a0f} {m:Nat} {a:List Value} {k:IntKind} {n:Int} {bef:List Nat} (L:X0F t m) (ha:a.length=F.zA.length) (hpl:a.all a0F=true)
  (b2:G.blk (m + 2)=.row false F.tA a) (b3:G.blk (m + 3)=.row false F.tI [.int k n]) (b4:G.blk (m + 4)=.row false F.tB [.bool false]) :
  ∃ t' G',b0c call m 1 (.draw (q3 F.zA.length) bef [(1,2)]) t G=.fin .normal t' G'∧X0F t' m ∧
   G'.blk (m + 2)=.row false F.tA a∧G'.blk (m + 3)=.row false F.tI [.int k n]∧G'.blk (m + 4)=.row false F.tB [.bool true]:=by
 have hnz:=F.nz
 have l1:=N0Q b2 (by omega)
 rw [ha] at l1
 have l2:=A0I b3
 have w1:=l0h (fl:=m) b2 (by omega) rfl hpl
 have s2:=a0l b2
 have s3:=a0l b3
 have s4:=a0l b4
 have c3:a0f.blk (G.setIfInBounds (m + 2) (.row false F.tA a)) (m + 3)=.row false F.tI [.int k n]:=by rw [a0Z _ _ _ _ s2,h1C (by omega)];exact b3
 have w2:=l0h (fl:=m) (vs:=[.int k n]) c3 (by omega) rfl rfl
 have c4:a0f.blk ((G.setIfInBounds (m + 2) (.row false F.tA a)).setIfInBounds (m + 3) (.row false F.tI [.int k n])) (m + 4)=.row false F.tB [.bool false]:=by
  rw [a0Z _ _ _ _ (by simpa using s3),h1C (by omega),a0Z _ _ _ _ s2,h1C (by omega)];exact b4
 have w3:=l0h (fl:=m) (vs:=[.bool true]) c4 (by omega) rfl rfl
 have hl:=L.l
 have g4:∀ v u:Value,get (put (put t (some 15) v) (some 16) u) 4=pt (m + 2):=fun v u=>by
  have:=L.a;simp only [get,put,h1z,i1m] at this ⊢;simpa using this
 have g5:∀ v u:Value,get (put (put t (some 15) v) (some 16) u) 5=pt (m + 3):=fun v u=>by
  have:=L.i;simp only [get,put,h1z,i1m] at this ⊢;simpa using this
 have g6:∀ v u:Value,get (put (put t (some 15) v) (some 16) u) 6=pt (m + 4):=fun v u=>by
  have:=L.b;simp only [get,put,h1z,i1m] at this ⊢;simpa using this
 have g15:∀ v u:Value,get (put (put t (some 15) v) (some 16) u) 15=v:=fun v u=>by
  simp [get,put,i1m,hl]
 have g16:∀ v u:Value,get (put (put t (some 15) v) (some 16) u) 16=u:=fun v u=>by
  simp [get,put,i1m,hl]
 have g51:∀ v:Value,get (put t (some 15) v) 5=pt (m + 3):=fun v=>by
  have:=L.i;simp only [get,put,h1z,i1m] at this ⊢;simpa using this
 refine ⟨put (put t (some 15) (.agg a.toArray)) (some 16) (.int k n),((G.setIfInBounds (m + 2) (.row false F.tA a)).setIfInBounds (m + 3) (.row false F.tI [.int k n])).setIfInBounds (m + 4) (.row false F.tB [.bool true]),?_,⟨by simp [put,hl],g4 _ _,g5 _ _,g6 _ _⟩,?_,?_,?_⟩
 ·have o15:b0D call m t G (.load true F.zA.length (.tmp 4))=.ok (.agg a.toArray,G):=by simp [b0D,opA,ev,L.a,l1,b0H]
  have o16:b0D call m (put t (some 15) (.agg a.toArray)) G (.load false 1 (.tmp 5))=.ok (.int k n,G):=by simp [b0D,opA,ev,g51,l2,b0H]
  have st1:b0D call m (put (put t (some 15) (.agg a.toArray)) (some 16) (.int k n)) G (.store F.zA.length (.tmp 4) (.tmp 15))=.ok (undef,G.setIfInBounds (m + 2) (.row false F.tA a)):=by
   simp only [b0D,opA,ev,g4,g15,pt,a0U,ha,List.toList_toArray];simp [w1]
  have st2:b0D call m (put (put t (some 15) (.agg a.toArray)) (some 16) (.int k n)) (G.setIfInBounds (m + 2) (.row false F.tA a)) (.store 1 (.tmp 5) (.tmp 16))=.ok (undef,(G.setIfInBounds (m + 2) (.row false F.tA a)).setIfInBounds (m + 3) (.row false F.tI [.int k n])):=by
   simp only [b0D,opA,ev,g5,g16,pt,a0U];simp [w2]
  have st3:b0D call m (put (put t (some 15) (.agg a.toArray)) (some 16) (.int k n)) ((G.setIfInBounds (m + 2) (.row false F.tA a)).setIfInBounds (m + 3) (.row false F.tI [.int k n])) (.store 1 (.tmp 6) (.const (.bool true))) =
    .ok (undef,((G.setIfInBounds (m + 2) (.row false F.tA a)).setIfInBounds (m + 3) (.row false F.tI [.int k n])).setIfInBounds (m + 4) (.row false F.tB [.bool true])):=by
   simp only [b0D,opA,ev,g6,pt,a0U];simp [w3]
  have pn:∀ (t:b0b) (v:Value),put t none v=t:=fun _ _=>rfl
  have tc1:d0a (put t (some 15) (.agg a.toArray)) (.load false 1 (.tmp 5))=([m + 3],[]):=by simp [d0a,ev,g51,pt,blkOf]
  have tc2:d0a (put (put t (some 15) (.agg a.toArray)) (some 16) (.int k n)) (.store F.zA.length (.tmp 4) (.tmp 15))=([],[m + 2]):=by simp only [d0a,ev,g4];simp [pt,blkOf]
  simp only [b0c,q3,b0S,g0Z,b0g,i1a,i1F,i1s,o15,o16,st1,st2,st3,pn,tc1,tc2]
  simp [c0P,s0b]
 ·rw [a0Z _ _ _ _ (by simpa using s4),h1C (by omega),a0Z _ _ _ _ (by simpa using s3),h1C (by omega),a0Z _ _ _ _ s2,h1F rfl]
 ·rw [a0Z _ _ _ _ (by simpa using s4),h1C (by omega),a0Z _ _ _ _ (by simpa using s3),h1F rfl]
 ·rw [a0Z _ _ _ _ (by simpa using s4),h1F rfl]
theorem h1v (F:QF X.P) {t:b0b} (hl:t.length=6) (h0:get t 0=pt (H.size + 2)) (h1:get t 1=pt (H.size + 3)) (h2:get t 2=pt (H.size + 4)) :
  ∃ t' G',b0c call H.size 1 (.reg (qB F.zA.length F.zA)) t (g0o F H)=.fin .normal t' G' ∧
   G'.blk (H.size + 2)=.row false F.tA F.zA∧G'.blk (H.size + 3)=.row false F.tI [.int .i64 0]∧G'.blk (H.size + 4)=.row false F.tB [.bool false]:=by
 have b2:=r0z (H:=H) F
 have b3:=r0A (H:=H) F
 have b4:=r0B (H:=H) F
 have s2:=a0l b2
 have s3:=a0l b3
 have s4:=a0l b4
 have w1:=l0h (fl:=H.size) b2 (by omega) rfl F.zp
 have c3:a0f.blk ((g0o F H).setIfInBounds (H.size + 2) (.row false F.tA F.zA)) (H.size + 3)=.row false F.tI [.int .i64 0]:=by rw [a0Z _ _ _ _ s2,h1C (by omega)];exact b3
 have w2:=l0h (fl:=H.size) (vs:=[.int .i64 0]) c3 (by omega) rfl rfl
 have c4:a0f.blk (((g0o F H).setIfInBounds (H.size + 2) (.row false F.tA F.zA)).setIfInBounds (H.size + 3) (.row false F.tI [.int .i64 0])) (H.size + 4)=.row false F.tB [.bool false]:=by
  rw [a0Z _ _ _ _ (by simpa using s3),h1C (by omega),a0Z _ _ _ _ s2,h1C (by omega)];exact b4
 have w3:=l0h (fl:=H.size) (vs:=[.bool false]) c4 (by omega) rfl rfl
 have g0:∀ v:Value,get (put t (some 5) v) 0=pt (H.size + 2):=fun v=>by simp only [get,put,h1z,i1m] at h0 ⊢;simpa using h0
 have g1:∀ v:Value,get (put t (some 5) v) 1=pt (H.size + 3):=fun v=>by simp only [get,put,h1z,i1m] at h1 ⊢;simpa using h1
 have g2:∀ v:Value,get (put t (some 5) v) 2=pt (H.size + 4):=fun v=>by simp only [get,put,h1z,i1m] at h2 ⊢;simpa using h2
 have g5:∀ v:Value,get (put t (some 5) v) 5=v:=fun v=>by simp [get,put,i1m,hl]
 refine ⟨put t (some 5) (.agg F.zA.toArray),(((g0o F H).setIfInBounds (H.size + 2) (.row false F.tA F.zA)).setIfInBounds (H.size + 3) (.row false F.tI [.int .i64 0])).setIfInBounds (H.size + 4) (.row false F.tB [.bool false]),?_,?_,?_,?_⟩
 ·have o5:b0D call H.size t (g0o F H) (.build F.zA [])=.ok (.agg F.zA.toArray,g0o F H):=by simp [b0D,opA,b0C,g0A,b0H]
  have st1:b0D call H.size (put t (some 5) (.agg F.zA.toArray)) (g0o F H) (.store F.zA.length (.tmp 0) (.tmp 5))=.ok (undef,(g0o F H).setIfInBounds (H.size + 2) (.row false F.tA F.zA)):=by
   simp only [b0D,opA,ev,g0,g5,pt,a0U,List.toList_toArray];simp [w1]
  have st2:b0D call H.size (put t (some 5) (.agg F.zA.toArray)) ((g0o F H).setIfInBounds (H.size + 2) (.row false F.tA F.zA)) (.store 1 (.tmp 1) (.const (.int .i64 0))) =
    .ok (undef,((g0o F H).setIfInBounds (H.size + 2) (.row false F.tA F.zA)).setIfInBounds (H.size + 3) (.row false F.tI [.int .i64 0])):=by
   simp only [b0D,opA,ev,g1,pt,a0U];simp [w2]
  have st3:b0D call H.size (put t (some 5) (.agg F.zA.toArray)) (((g0o F H).setIfInBounds (H.size + 2) (.row false F.tA F.zA)).setIfInBounds (H.size + 3) (.row false F.tI [.int .i64 0])) (.store 1 (.tmp 2) (.const (.bool false))) =
    .ok (undef,(((g0o F H).setIfInBounds (H.size + 2) (.row false F.tA F.zA)).setIfInBounds (H.size + 3) (.row false F.tI [.int .i64 0])).setIfInBounds (H.size + 4) (.row false F.tB [.bool false])):=by
   simp only [b0D,opA,ev,g2,pt,a0U];simp [w3]
  have pn:∀ (t:b0b) (v:Value),put t none v=t:=fun _ _=>rfl
  simp only [b0c,qB,f0a,b0g,i1s,o5,st1,st2,st3,pn]
 ·rw [a0Z _ _ _ _ (by simpa using s4),h1C (by omega),a0Z _ _ _ _ (by simpa using s3),h1C (by omega),a0Z _ _ _ _ s2,h1F rfl]
 ·rw [a0Z _ _ _ _ (by simpa using s4),h1C (by omega),a0Z _ _ _ _ (by simpa using s3),h1F rfl]
 ·rw [a0Z _ _ _ _ (by simpa using s4),h1F rfl]
theorem n0q (F:QF X.P) (ρ:Operand→Value) (w:World):(execOp ρ F.oA1).run X.P w=.ok .recover w:=by
 unfold execOp;rw [F.oA1o];rfl
theorem K0R (F:QF X.P) {cap:Array Value} (hc:cap.size=3):CallsD X.P F.fD cap .returning w fun e u' w'=>(∃ v,e=.returned v)∧u' = .returning∧w' = w:=by
 refine callsD_of_wpS F.hfnD F.bodyD ?_
 intro c0 cs hu
 refine wpS_seq (wpS_region ?_)
 have hsz:(cap ++ Array.replicate (F.fnD.ntmps - cap.size) undef).size=6:=by simp [hc,F.ntD]
 rw [show List.range F.opsA.size=[0,1] by rw [F.hA];rfl]
 unfold wpOpsS
 rw [show F.opsA[0]? = some F.oA1 by rw [F.hA];rfl]
 simp only [Region.wanted,F.oA1g,i1s,n0q]
 have hrec:recoverD (c0 :: cs)=none:=by simp [recoverD,hu]
 rw [hrec]
 simp only
 unfold wpOpsS
 rw [show F.opsA[1]? = some F.oA2 by rw [F.hA];rfl]
 simp only [Region.wanted,F.oA2g,i1s]
 generalize ha:({ tmps:=cap ++ Array.replicate (F.fnD.ntmps - cap.size) undef,defers:=[] }:Act).put F.oA1.dst .nilIface=a1
 have hsz1:a1.tmps.size=6:=by rw [← ha,F.oA1d];simp [Act.put,hsz]
 have hd1:a1.defers=[]:=by rw [← ha];cases F.oA1.dst <;> rfl
 have h3:a1.eval (.tmp 3)=.nilIface:=by
  rw [← ha,F.oA1d]
  simp [Act.put,Act.eval,h1N,i1j,hsz]
 rw [F.oA2f a1.eval w h3 rfl]
 simp only [Oper.upon]
 unfold wpOpsS
 show (Code.cond (.tmp 4) (.region F.iB F.opsB false) .skip).wpS X.P _ _ _ _
 refine wpS_cond (t:=false) ?_ ?_
 ·rw [F.oA2d];simp [Act.put,Act.eval,h1N,i1j,hsz1]
 ·simp only [i1a,i1F]
  refine wpS_of_wp (wp_skip ?_)
  refine ⟨by rw [c0E];exact hd1,c0.mode,rfl,.tuple #[],?_,⟨⟨_,rfl⟩,hu,rfl⟩⟩
  simp [results,F.resD]
theorem K0Q (F:QF X.P) (hcall:d0Z X call) (hdraw:r0n X call) {φ2:Inj} {v:Value} {ty:TypeId} {u:Value} (hv:v=.iface ty u) {cap:Array Value} (hR:Rel X φ2 (g0o F H) w)
  (hc:CR X φ2 w.shape? [pt (H.size + 2),pt (H.size + 3),pt (H.size + 4)] cap.toList) :
  CallsD X.P F.fD cap (.panicking [{ v,recovered:=false }]) w fun e u' w'=>(∃ x,e=.returned x)∧u' = .panicking [{ v,recovered:=true }]∧∃ φ4 G',d0p X H.size φ2 (g0o F H) w φ4 G' w' ∧
   G'.blk (H.size + 2)=.row false F.tA F.zA∧G'.blk (H.size + 3)=.row false F.tI [.int .i64 0]∧G'.blk (H.size + 4)=.row false F.tB [.bool false]:=by
 refine callsD_of_wpS F.hfnD F.bodyD ?_
 intro c0 cs hu
 refine wpS_seq (wpS_region ?_)
 have hcs:cap.size=3:=by have:=hc.1;simpa using this.symm
 have hsz:(cap ++ Array.replicate (F.fnD.ntmps - cap.size) undef).size=6:=by simp [hcs,F.ntD]
 rw [show List.range F.opsA.size=[0,1] by rw [F.hA];rfl]
 unfold wpOpsS
 rw [show F.opsA[0]? = some F.oA1 by rw [F.hA];rfl]
 simp only [Region.wanted,F.oA1g,i1s,n0q]
 have hrec:recoverD (c0 :: cs)=some (v,{ c0 with mode:=.panicking ({ v,recovered:=true } :: []) } :: cs):=by simp [recoverD,hu]
 rw [hrec]
 simp only
 unfold wpOpsS
 rw [show F.opsA[1]? = some F.oA2 by rw [F.hA];rfl]
 simp only [Region.wanted,F.oA2g,i1s]
 have hT0:CR X φ2 w.shape? ([pt (H.size + 2),pt (H.size + 3),pt (H.size + 4)] ++ un 3) (cap ++ Array.replicate (F.fnD.ntmps - cap.size) undef).toList:=by
  rw [k1k,Array.toList_replicate,hcs,F.ntD]
  exact hc.append (CR.cons VR.undef (CR.cons VR.undef (CR.cons VR.undef CR.nil)))
 generalize ha0:({ tmps:=cap ++ Array.replicate (F.fnD.ntmps - cap.size) undef,defers:=[] }:Act)=a0
 have hs0:a0.tmps.size=6:=by rw [← ha0];exact hsz
 have hd0:a0.defers=[]:=by rw [← ha0]
 have hT0':CR X φ2 w.shape? ([pt (H.size + 2),pt (H.size + 3),pt (H.size + 4)] ++ un 3) a0.tmps.toList:=by rw [← ha0];exact hT0
 have h3:(a0.put F.oA1.dst v).eval (.tmp 3)=.iface ty u:=by
  rw [F.oA1d]
  simp [Act.put,Act.eval,h1N,i1j,hs0,hv]
 rw [F.oA2t (a0.put F.oA1.dst v).eval w ty u h3 rfl]
 simp only [Oper.upon]
 unfold wpOpsS
 show (Code.cond (.tmp 4) (.region F.iB F.opsB false) .skip).wpS X.P _ _ _ _
 refine wpS_cond (t:=true) ?_ ?_
 ·rw [F.oA2d,F.oA1d];simp [Act.put,Act.eval,h1N,i1j,hs0]
 ·simp only [i1s]
  have hcB:=F.cB
  simp only [e0d,h1H,h1B,h1K,h1D,SCode.reg.injEq] at hcB
  obtain ⟨l,hl,hlq⟩:=hcB
  subst hlq
  have hlen:F.opsB.size=(qB F.zA.length F.zA).length:=by rw [j0s hl];simp
  obtain ⟨t',G',e1,g2,g3,g4⟩:=h1v (call:=call) (H:=H) F (t:=put ([pt (H.size + 2),pt (H.size + 3),pt (H.size + 4)] ++ un 3) (some 4) (.bool true)) (by simp [put,un]) (by simp [put,get,un,List.replicate]) (by simp [put,get,un,List.replicate]) (by simp [put,get,un,List.replicate])
  simp only [b0c] at e1
  refine wpS_of_wp (wp_region ?_)
  rw [List.range_eq_range',hlen]
  have hT1:CR X φ2 w.shape? (put ([pt (H.size + 2),pt (H.size + 3),pt (H.size + 4)] ++ un 3) (some 4) (.bool true)) (a0.put (some 4) (.bool true)).tmps.toList:=i0Y hT0' (.bool true) (some 4)
  refine s0L hcall (j:=3) F.blB (qB F.zA.length F.zA) 0 _ (g0o F H) φ2 w (a0.put (some 4) (.bool true)) _ (fun i s hi=>?_) hR hT1 (by rw [l0Z];omega) ?_ ?_ e1 ?_
  ·refine ⟨?_,?_⟩
   ·unfold qB at hi
    match i,hi with
    | 0,hi=>simp at hi;rw [← hi]
    | 1,hi=>simp at hi;rw [← hi]
    | 2,hi=>simp at hi;rw [← hi]
    | 3,hi=>simp at hi;rw [← hi]
    | i + 4,hi=>simp at hi
   ·obtain ⟨x,h1,h2⟩:=l0C hl i s hi
    exact ⟨x,by simpa using h1,h2⟩
  ·intro i hi
   rw [F.oA2d,F.oA1d]
   simp only [Act.put,h1N,i1j]
   by_cases h4:4=i
   ·subst h4;simp [hs0]
   ·simp [h4,show ¬ 3=i by omega]
  ·rw [F.oA2d,F.oA1d];simp [Act.put]
  ·intro φ4 b' w' hst hd
   refine ⟨?_,.panicking [{ v,recovered:=true }],rfl,.tuple #[],?_,⟨_,rfl⟩,rfl,φ4,G',hst,g2,g3,g4⟩
   ·rw [hd,c0E,c0E];exact hd0
   ·simp [results,F.resD]
end
section
open Go
variable {X:Cx} {call:Nat→FuncId→List Value→a0f→Res (Value × a0f)} {φ:Inj} {H H':a0f} {w:World} {fl:Nat}
theorem J0R (F:QF X.P) {t:b0b} {G:a0f} {m:Nat} {a:List Value} {k:IntKind} {n:Int} {b:Bool} (L:X0F t m) (ha:a.length=F.zA.length)
  (b2:G.blk (m + 2)=.row false F.tA a) (b3:G.blk (m + 3)=.row false F.tI [.int k n]) (b4:G.blk (m + 4)=.row false F.tB [.bool b]) :
  e0C G t [.cell 4 true F.zA.length,.cell 5 false 1,.cell 6 false 1]=some [.agg a.toArray,.int k n,.bool b]:=by
 have hnz:=F.nz
 have l1:=N0Q b2 (by omega)
 rw [ha] at l1
 simp only [e0C,r0m,L.a,L.i,L.b,l1,A0I b3,A0I b4]
theorem n0r (F:QF X.P) {t:b0b} {G:a0f} {φ4:Inj} {w4:World} {a:Act} {vs:List Value} (hR:Rel X φ4 G w4) (hT:CR X φ4 w4.shape? t a.tmps.toList)
  (hv:e0C G t [.cell 4 true F.zA.length,.cell 5 false 1,.cell 6 false 1]=some vs):∃ v',(results F.fn a.tmps).run X.P w4=.ok v' w4∧VR X φ4 w4.shape? (d0k vs) v':=by
 obtain ⟨vs',hcr,hrun⟩:=J0S F.res hv hR hT
 refine ⟨_,?_,w0n hcr⟩
 have e1:results F.fn a.tmps=(do let vs ← F.fn.results.mapM (n0m a.tmps);pure (if h:vs.size=1 then vs[0] else .tuple vs)):=rfl
 rw [e1,k1e]
 simp only [Sem.run_bind,Sem.run_map,hrun]
 rfl
theorem f1P {S:Shp} {a b c v:Value} (h:VR X φ S (.tuple #[a,b,c]) v):∃ a' b' c',v=.tuple #[a',b',c']∧VR X φ S a a'∧VR X φ S b b'∧VR X φ S c c':=by
 cases h with
 | tuple _ m h1 h2 =>
  have h:CR X φ S [a,b,c] m.toList:=VR.tuple_iff.1 (.tuple _ m h1 h2)
  obtain ⟨a',r,e1,ka,h⟩:=h.cons_left
  obtain ⟨b',r,rfl,kb,h⟩:=h.cons_left
  obtain ⟨c',r,rfl,kc,h⟩:=h.cons_left
  obtain rfl:=h.nil_left
  exact ⟨a',b',c',by rw [show m = #[a',b',c'] from Array.toList_inj.1 e1],ka,kb,kc⟩
theorem K0k {S:Shp} {a b c a' b' c':Value} (ka:VR X φ S a a') (kb:VR X φ S b b') (kc:VR X φ S c c'):VR X φ S (.tuple #[a,b,c]) (.tuple #[a',b',c']) :=
 VR.tuple_iff.2 (CR.cons ka (CR.cons kb (CR.cons kc CR.nil)))
theorem A0F {φ':Inj} {S S':Shp} {k:IntKind} {n:Int} {u:Value} (h:VR X φ S (.int k n) u):VR X φ' S' (.int k n) u:=by cases h;exact .int _ _
theorem v0O {φ':Inj} {S S':Shp} {b:Bool} {u:Value} (h:VR X φ S (.bool b) u):VR X φ' S' (.bool b) u:=by cases h;exact .bool _
theorem y0Q (F:QF X.P) (hcall:d0Z X call) (hdraw:r0n X call) (hnp:F.nL ≠ 0) (hns:F.nS ≠ 0) :
  d0Z X fun fl f args H=>if f=F.fQ then match args with | [.agg p,.agg s]=>(if p.size=F.nL∧s.size=F.nS then d0S F.zA H (call (max fl H.size) F.fS [.agg #[],.agg p,.agg s] H) else .bad) | _=>.bad else .bad:=by
 intro fl f args H φ w args' hR hA hfl
 refine And.intro ?_ ?_
 case refine_2 =>
  intro v he
  exfalso
  simp only at he
  split at he
  ·split at he
   ·split at he
    ·unfold d0S at he
     split at he
     ·cases he
     ·cases he
     ·cases he
     ·split at he
      ·split at he <;> cases he
      ·cases he
     ·cases he
    ·cases he
   ·cases he
  ·cases he
 intro v H' he
 simp only at he
 split at he
 case isFalse=>cases he
 rename_i hf
 subst hf
 split at he
 case h_2=>cases he
 rename_i p s
 split at he
 case isFalse=>cases he
 rename_i hsz
 rw [show max fl H.size=H.size by omega] at he
 obtain ⟨u0,r,hl0,hp0,hA1⟩:=hA.cons_left
 obtain ⟨u1,r,rfl,hs0,hA2⟩:=hA1.cons_left
 obtain rfl:=hA2.nil_left
 have has:args'.size=2:=by have:=congrArg List.length hl0;simpa using this
 refine ⟨F.hrun,calls_of_wp_defers F.hfn F.body ?_⟩
 -- region 0
 generalize ha0:({ tmps:=args' ++ Array.replicate (F.fn.ntmps - args'.size) undef,defers:=[] }:Act)=a0
 have hd0:a0.defers=[]:=by rw [← ha0]
 have hT0:CR X φ w.shape? ([.agg p,.agg s] ++ un 15) a0.tmps.toList:=by
  rw [← ha0,has,F.nt,k1k,Array.toList_replicate]
  refine hA.append ?_
  show CR X φ w.shape? (un 15) (List.replicate 15 undef)
  unfold un
  generalize 15=m
  induction m with
  | zero=>exact CR.nil
  | succ m ih=>exact CR.cons VR.undef ih
 refine wp_seq (wp_mono (e0q hcall hdraw 1 _ _ H.size _ H φ w a0 F.c0 hR hT0 (h1A _) hd0 (by rw [f1N];simp)).wp ?_)
 intro e a1 w1 hp
 rw [f1N F p s] at hp
 obtain ⟨rfl,hd1,φ1,hT1,hst1⟩:=hp
 -- region 1
 show (Code.seq _ _).wp _ _ a1 w1
 refine wp_seq (wp_region ?_)
 rw [show List.range F.ops1.size=List.range' 0 (q1 F.fD).length ++ [1] by rw [F.h1];rfl]
 refine r0a hcall (fl:=H.size) (q1 F.fD) 0 _ (hp5 F p s H) φ1 w1 a1 (fun i s hi=>?_) hst1.rel hT1 (by rw [w0c];omega) (h1r p s) ?_
 ·unfold q1 at hi
  match i,hi with
  | 0,hi=>simp at hi;subst hi;exact ⟨F.o1,by rw [F.h1];rfl,F.o1c⟩
  | i + 1,hi=>simp at hi
 intro φ2 a2 w2 hT2 hst2 hd2
 have hst02:=hst1.trans hst2 (h1A _) hR
 unfold wpOps
 rw [show F.ops1[1]? = some F.o2 by rw [F.h1];rfl]
 simp only [Region.wanted,F.o2g,i1s]
 refine .inl ?_
 have h7:=hT2.get 7
 rw [show (tm7 F.fD p s H.size).getD 7 undef=.func (.func F.fD) #[] #[pt (H.size + 2),pt (H.size + 3),pt (H.size + 4)] from rfl,← a0T] at h7
 generalize hu7:a2.tmps.getD 7 undef=u7 at h7
 cases h7 with
 | func _ _ _ a' cap g1 g2 g3 g4 =>
 have ha':a' = #[]:=by simpa using g1.symm
 subst ha'
 have hdef:(execOp a2.eval F.o2).run X.P w2=.ok (.defer { target:=.fn (.func F.fD) cap,args:=#[] }) w2:=by
  have:a2.eval (.tmp 7)=.func (.func F.fD) #[] cap:=hu7
  simp [execOp,F.o2o,resolve,Deferred.ofValue,this]
 unfold Oper.wp
 rw [hdef,Oper.upon_defer,F.o2d]
 unfold wpOps
 have hcap:cap.size=3:=by have:=g3;simpa using this.symm
 -- region 2
 generalize hD:([{ target:=.fn (.func F.fD) cap,args:=#[] }]:List Deferred)=D
 generalize ha3:({ a2 with defers:={ target:=.fn (.func F.fD) cap,args:=#[] } :: a2.defers }:Act).put none undef=a3
 have hd3:a3.defers=D:=by rw [← ha3,← hD];show _ :: a2.defers=_;rw [hd2,hd1]
 have ht3:a3.tmps=a2.tmps:=by rw [← ha3];rfl
 show (Code.seq _ _).wp _ _ a3 w2
 refine wp_seq (wp_region ?_)
 have hc2:=F.c2
 simp only [e0d,h1H,h1B,h1K,h1D,SCode.reg.injEq] at hc2
 obtain ⟨l2,hl2,hlq⟩:=hc2
 subst hlq
 have hlen2:F.ops2.size=9:=by have:=j0s hl2;simp [q2a,q2b] at this;omega
 rw [show List.range F.ops2.size=List.range' 0 (q2a F.nL F.nS).length ++ (3 :: List.range' 4 (q2b F.zA.length).length) by rw [hlen2];rfl]
 have hget2:=l0C hl2
 refine r0a hcall (fl:=H.size) (q2a F.nL F.nS) 0 _ (hp5 F p s H) φ2 w2 a3 (fun i s hi=>?_) hst2.rel (by rw [ht3];exact hT2) (by rw [w0c];omega) (h1s F hsz.1 hsz.2 hnp hns) ?_
 ·obtain ⟨x,h1,h2⟩:=hget2 i s (by
   have hlt:i < (q2a F.nL F.nS).length:=(i1f.1 hi).1
   rw [i1u hlt];exact hi)
  exact ⟨x,by simpa using h1,h2⟩
 intro φ3 a4 w3 hT3 hst3 hd4
 have hst03:=hst02.trans hst3 (h1A _) hR
 have hR3:Rel X φ H w3:=hst03.rel0 hR
 have hd4':a4.defers=D:=hd4.trans hd3
 -- where the own blocks lie
 have hown:∀ k,k < 5→∃ x,φ3 (H.size + k)=some x:=by
  intro k hk
  have h:=hT3.get (k + 2)
  have e:(s0U F.fD p s H.size).getD (k + 2) undef=pt (H.size + k):=by
   match k,hk with
   | 0,_=>rfl
   | 1,_=>rfl
   | 2,_=>rfl
   | 3,_=>rfl
   | 4,_=>rfl
  rw [e] at h
  unfold pt at h
  generalize a4.tmps.toList.getD (k + 2) undef=u at h
  cases h with
  | ptr _ _ B o h1 h2 h3=>exact ⟨_,h2⟩
 obtain ⟨B,o,hφ⟩:∃ B o:Nat→Nat,∀ k,k < 5→φ3 (H.size + k)=some (B k,o k) :=
  ⟨fun k=>((φ3 (H.size + k)).getD (0,0)).1,fun k=>((φ3 (H.size + k)).getD (0,0)).2,fun k hk=>by obtain ⟨x,hx⟩:=hown k hk;simp [hx]⟩
 have O:=Z0y F hR hst03 hφ
 have hφ2:∀ k,k < 5→φ2 (H.size + k)=some (B k,o k):=by
  intro k hk
  have h:=hT2.get (k + 2)
  have e:(tm7 F.fD p s H.size).getD (k + 2) undef=pt (H.size + k):=by
   match k,hk with
   | 0,_=>rfl
   | 1,_=>rfl
   | 2,_=>rfl
   | 3,_=>rfl
   | 4,_=>rfl
  rw [e] at h
  unfold pt at h
  generalize a2.tmps.toList.getD (k + 2) undef=u at h
  cases h with
  | ptr _ _ B' o' h1 h2 h3=>rw [h2,← hst3.ext _ _ h2,hφ k hk]
 have hcapG:∀ (φ':Inj) (S:Shp) (m:Nat),(∀ k,k < 5→φ' (m + k)=some (B k,o k))→CR X φ' S [pt (m + 2),pt (m + 3),pt (m + 4)] cap.toList:=by
  intro φ' S m h
  refine ⟨by simp [hcap],fun i hi=>?_⟩
  rw [← a0T]
  have hi3:i < 3:=by simpa using hi
  match i,hi3 with
  | 0,_=>exact h0o (hφ2 2 (by omega)) (h 2 (by omega)) (by simpa using g4 0 (by simp))
  | 1,_=>exact h0o (hφ2 3 (by omega)) (h 3 (by omega)) (by simpa using g4 1 (by simp))
  | 2,_=>exact h0o (hφ2 4 (by omega)) (h 4 (by omega)) (by simpa using g4 2 (by simp))
 -- the call
 unfold wpOps
 rw [F.o3i]
 simp only [Region.wanted,F.o3g,i1s]
 refine .inl ?_
 have h9:=hT3.get 9
 have h10:=hT3.get 10
 have h11:=hT3.get 11
 rw [show (s0U F.fD p s H.size).getD 9 undef=.agg #[] from rfl,← a0T] at h9
 rw [show (s0U F.fD p s H.size).getD 10 undef=.agg p from rfl,← a0T] at h10
 rw [show (s0U F.fD p s H.size).getD 11 undef=.agg s from rfl,← a0T] at h11
 have hargs:CR X φ w3.shape? [.agg #[],.agg p,.agg s] (#[a4.tmps.getD 9 undef,a4.tmps.getD 10 undef,a4.tmps.getD 11 undef]:Array Value).toList:=by
  refine CR.cons ?_ (CR.cons (VR.back hR hst03 hp0 h10) (CR.cons (VR.back hR hst03 hs0 h11) CR.nil))
  generalize a4.tmps.getD 9 undef=u at h9
  cases h9 with
  | agg _ a' g1 g2=>exact .agg _ _ g1 (fun i hi=>by simp at hi)
 have hcl:=hcall H.size F.fS [.agg #[],.agg p,.agg s] H φ w3 #[a4.tmps.getD 9 undef,a4.tmps.getD 10 undef,a4.tmps.getD 11 undef] hR3 hargs (h1A _)
 have hex:(execOp a4.eval F.o3).run X.P w3=(callFunc F.fS #[a4.tmps.getD 9 undef,a4.tmps.getD 10 undef,a4.tmps.getD 11 undef]).run X.P w3:=by
  unfold execOp
  rw [F.o3o]
  simp [resolve,Deferred.ofValue,invoke,Act.eval]
 unfold Oper.wp
 rw [hex]
 cases hcr:call H.size F.fS [.agg #[],.agg p,.agg s] H with
 | bad=>rw [hcr] at he;simp [d0S] at he
 | pan v0 =>
  rw [hcr] at he
  obtain ⟨⟨ty,u,rfl⟩,hruns,hcalls⟩:=hcl.2 v0 hcr
  simp only [d0S,Res.ok.injEq,j1w] at he
  obtain ⟨rfl,rfl⟩:=he
  rw [d0H hruns]
  refine Calls.mono hcalls ?_
  rintro e w4 ⟨⟨ty',u',rfl⟩,hpan⟩
  have hst4:=L0A hR3 hpan
  have hold:∀ k,k < 5→w4.heap[B k]? = w3.heap[B k]?:=fun k hk=>hst4.old hR3 (O.hi k hk)
  have r5:=s0g F O hst4.rel hold (B0a F hR O hR3 hst4)
  have sl:=n0t (B:=B) (o:=o) (m:=H.size) (S2:=w4.shape?) hR hst03 hp0 hs0 hφ (fun k hk=>q0l (φ:=φ) k hk) (fun b x hb=>by rw [t0T (hR.lt b x hb)];exact hb) hst4.shp hT3
  show Leaves X.P F.fn a4.tmps _ a4.defers _ w4
  rw [hd4',← hD]
  have hcapR:CR X (B0z φ H.size B o) w4.shape? [pt (H.size + 2),pt (H.size + 3),pt (H.size + 4)] cap.toList:=by
   exact hcapG _ _ _ fun k hk=>q0l k hk
  refine leaves_cons (by simp) (by simp only [invoke];rw [d0H F.runD];simp) ((K0Q F hcall hdraw rfl r5 hcapR).mono ?_)
  rintro e u'' w5 ⟨⟨x,rfl⟩,rfl,φ5,G',hst5,b2,b3,b4⟩
  show Leaves X.P F.fn a4.tmps _ [] (settle (.panicking [{ v:=.iface ty' u',recovered:=true }])) w5
  have L:X0F (s0U F.fD p s H.size) H.size:=⟨rfl,rfl,rfl,rfl⟩
  obtain ⟨v',hrun,hvr⟩:=n0r F hst5.rel (sl.mono hst5.ext hst5.shp) (J0R F L rfl b2 b3 b4)
  refine ⟨v',hrun,v',φ,rfl,?_,w0a F hR hfl hst03 O hst4 hst5⟩
  have e1:d0k [.agg F.zA.toArray,.int .i64 0,.bool false]=.tuple #[.agg F.zA.toArray,.int .i64 0,.bool false]:=rfl
  rw [e1] at hvr
  obtain ⟨x1,x2,x3,rfl,k1,k2,k3⟩:=f1P hvr
  refine K0k ?_ (A0F k2) (v0O k3)
  cases k1 with
  | agg _ m h1 h2 =>
   refine VR.agg_iff.2 (r0P F.zf (VR.agg_iff.1 (.agg _ m h1 h2)))
 | ok r0 =>
  obtain ⟨v0,H0⟩:=r0
  rw [hcr] at he
  obtain ⟨hruns,hcalls⟩:=hcl.1 v0 H0 hcr
  obtain ⟨a,k,n,rfl,rfl,rfl,hasz,hapl⟩:∃ a k n,v0=.tuple #[.agg a,.int k n]∧v=.tuple #[.agg a,.int k n,.bool true]∧H' = H0∧a.size=F.zA.length∧a.toList.all a0F=true:=by
   cases v0 <;> simp only [d0S] at he <;> try cases he
   rename_i vs
   split at he
   ·rename_i a k n heq
    split at he
    ·rename_i hc
     simp only [Res.ok.injEq,j1w] at he
     obtain ⟨rfl,rfl⟩:=he
     exact ⟨a,k,n,by rw [show vs = #[.agg a,.int k n] from Array.toList_inj.1 heq],rfl,rfl,hc.1,hc.2⟩
    ·cases he
   ·cases he
  rw [d0H hruns]
  refine Calls.mono hcalls ?_
  rintro e w4 ⟨v0',φ',rfl,hv0,hst4⟩
  have hold:∀ k,k < 5→w4.heap[B k]? = w3.heap[B k]?:=fun k hk=>hst4.old hR3 (O.hi k hk)
  have r5:=s0g F O hst4.rel hold (B0a F hR O hR3 hst4)
  have hext5:∀ b x,φ' b=some x→B0z φ' H'.size B o b=some x:=fun b x hb=>by rw [t0T (hst4.rel.lt b x hb)];exact hb
  have sl:=n0t (B:=B) (o:=o) (m:=H'.size) (S2:=w4.shape?) hR hst03 hp0 hs0 hφ (fun k hk=>q0l (φ:=φ') k hk) (fun b x hb=>hext5 b x (hst4.ext b x hb)) hst4.shp hT3
  have sl2:=i0Y sl (hv0.mono hext5 (fun _ _ h=>h)) F.o3.dst
  obtain ⟨t4,G4,e4,L4,hG4,b2,b3,b4⟩:=h1u (call:=call) (H':=H') F (p:=p) (s:=s) (k:=k) (n:=n) hasz hapl
  have hd5:(a4.put F.o3.dst v0').defers=D:=by rw [c0E];exact hd4'
  have hops4:∀ i s',(q2b F.zA.length)[i]? = some s'→∃ o,F.ops2[4 + i]? = some o∧g0y X.P F.ops2 true o=some s':=fun i s' hi=>by
   obtain ⟨x,h1,h2⟩:=hget2 (4 + i) s' (by
    rw [show 4 + i=(q2a F.nL F.nS).length + (i + 1) by simp [q2a];omega,i1B (by omega)]
    simpa using hi)
   exact ⟨x,by simpa using h1,h2⟩
  show wpOps X.P F.ops2 _ (List.range' 4 (q2b F.zA.length).length) (a4.put F.o3.dst v0') w4
  refine d0b ?_ (r0b hcall (fl:=H'.size) (D:=D) (q2b F.zA.length) 4 _ (g0o F H') (B0z φ' H'.size B o) w4 (a4.put F.o3.dst v0') hops4 r5 (by rw [F.o3d] at sl2 ⊢;exact sl2) (by rw [l0Z];omega) hd5 (by rw [e4];simp))
  rintro e a6 w5 hp
  rw [e4] at hp
  obtain ⟨rfl,hd6,φ5,hT6,hst5⟩:=hp
  show (Code.seq _ _).wp _ _ a6 w5
  obtain ⟨t5,G5,e5,L5,c2,c3,c4⟩:=h1t (call:=call) (bef:=F.bef) F L4 (by simp [hasz]) hapl b2 b3 b4
  refine wp_seq (wp_mono (e0q hcall hdraw 1 _ _ H'.size _ G4 φ5 w5 a6 F.c3 hst5.rel hT6 (by omega) hd6 (by rw [e5];simp)).wp ?_)
  rintro e a7 w6 hp
  rw [e5] at hp
  obtain ⟨rfl,hd7,φ6,hT7,hst6⟩:=hp
  show (Code.ret).wp _ _ a7 w6
  refine wp_ret ?_
  show Leaves X.P F.fn a7.tmps _ a7.defers .returning w6
  rw [hd7,← hD]
  refine leaves_cons (by simp) (by simp only [invoke];rw [d0H F.runD];simp) ((K0R F hcap).mono ?_)
  rintro e u'' w7 ⟨⟨x,rfl⟩,rfl,rfl⟩
  show Leaves X.P F.fn a7.tmps _ [] .returning w7
  have hst56:=hst5.trans hst6 (h1A _) r5
  obtain ⟨v',hrun,hvr⟩:=n0r F hst6.rel hT7 (J0R F L5 (by simp [hasz]) c2 c3 c4)
  refine ⟨v',hrun,v',φ',rfl,?_,w0a F hR hfl hst03 O hst4 hst56⟩
  have e1:d0k [.agg a.toList.toArray,.int k n,.bool true]=.tuple #[.agg a,.int k n,.bool true]:=by simp [d0k]
  rw [e1] at hvr
  obtain ⟨x1,x2,x3,rfl,k1,k2,k3⟩:=f1P hvr
  refine K0k ?_ (A0F k2) (v0O k3)
  -- the answer's own cells lead where they led
  obtain ⟨y,hy⟩:∃ y,VR X φ' w4.shape? (.agg a) y:=by
   cases hv0 with
   | tuple _ m h1 h2 =>
    have h:=h2 0 (by simp)
    exact ⟨_,by simpa using h⟩
  have ky:=VR.back r5 hst56 (hy.mono hext5 (fun _ _ h=>h)) k1
  refine (VR.cut (m:=H'.size) (fun b y hb=>hst4.rel.lt b y hb) hy ky).mono (fun b x hx=>?_) (fun _ _ h=>h)
  obtain ⟨g1,g2⟩:=b0A.1 hx
  rw [t0T g1] at g2;exact g2
end
section
open Go
def J0O:Code→Array Oper | .region _ ops _=>ops | _=>#[]
def d1D:Code→Code | .cond _ a _=>a | _=>.skip
def b1o:Nat→Code→Code
 | 0,.seq a _=>a
 | k + 1,.seq _ b=>b1o k b
 | _,c=>c
def U0G (f:Func):Code:=f.body.getD .skip
def U0M:Option SCode→List Nat | some (.draw _ b _)=>b | _=>[]
def opT (o:Oper):TypeId:=match o.op with | .binOp _ t _ _ _=>t | _=>0
def d1z (o:Oper):Array TypeId:=match o.op with | .call c=>c.argTypes | _=>#[]
def Z0i:Option TypeDesc→Array (String × TypeId) | some (.interface x)=>x | _=>#[]
theorem y0c {P:Program} {t:TypeId} {ifs:Array (String × TypeId)} (ht:P.underlying t=some (.interface ifs)) (w:World):(Op.equal t .nilIface .nilIface).run P w=.ok true w:=by
 unfold Op.equal Op.maxDepth;rw [Op.equalIn];simp only [Sem.run_bind,run_underlying ht,Result.andThen_ok];rfl
theorem t0t {P:Program} {t:TypeId} {ifs:Array (String × TypeId)} (ht:P.underlying t=some (.interface ifs)) (ty:TypeId) (u:Value) (w:World):(Op.equal t (.iface ty u) .nilIface).run P w=.ok false w:=by
 unfold Op.equal Op.maxDepth;rw [Op.equalIn];simp only [Sem.run_bind,run_underlying ht,Result.andThen_ok];rfl
theorem V0v {P:Program} {o:Oper} {t t':TypeId} {ifs:Array (String × TypeId)} (ho:o.op=.binOp .neq t (.tmp 3) (.const .nilIface) t') (ht:P.underlying t=some (.interface ifs)) (ρ:Operand→Value) (w:World)
  (h:ρ (.tmp 3)=.nilIface) (h':ρ (.const .nilIface)=.nilIface):(execOp ρ o).run P w=.ok (.value (.bool false)) w:=by
 simp [execOp,ho,h,h',eqGuard,binOp,y0c ht]
theorem L0s {P:Program} {o:Oper} {t t':TypeId} {ifs:Array (String × TypeId)} (ho:o.op=.binOp .neq t (.tmp 3) (.const .nilIface) t') (ht:P.underlying t=some (.interface ifs)) (ρ:Operand→Value) (w:World) (ty:TypeId) (u:Value)
  (h:ρ (.tmp 3)=.iface ty u) (h':ρ (.const .nilIface)=.nilIface):(execOp ρ o).run P w=.ok (.value (.bool true)) w:=by
 simp [execOp,ho,h,h',eqGuard,binOp,t0t ht]
noncomputable def L0D (k:Nat):Array Oper:=J0O (b1o k (U0G Tryz.f111))
noncomputable def qA:Array Oper:=J0O (b1o 0 (U0G Tryz.f138))
noncomputable def qB':Array Oper:=J0O (d1D (b1o 1 (U0G Tryz.f138)))
noncomputable def qf:QF Tryz.prog where
 fQ:=p0I;fD:=f1c;fS:=r0G;fn:=Tryz.f111;fnD:=Tryz.f138
 tL:=b0j;tS:=a0P;tA:=b0M;tI:=g0x;tB:=X0L
 zA:=(match env.quick with | some q=>q.zero | none=>[])
 nL:=(match env.quick with | some q=>q.np | none=>0)
 nS:=(match env.quick with | some q=>q.ns | none=>0)
 ops0:=L0D 0;ops1:=L0D 1;ops2:=L0D 2;ops3:=L0D 3;opsA:=qA;opsB:=qB'
 i0:=0;i1:=1;i2:=2;i3:=3;iA:=0;iB:=1
 o1:=(L0D 1).getD 0 default;o2:=(L0D 1).getD 1 default;o3:=(L0D 2).getD 3 default;oA1:=qA.getD 0 default;oA2:=qA.getD 1 default
 bef:=U0M (e0d Tryz.prog (.region 3 (L0D 3) true))
 hfn:=Tryz.func111
 hrun:=by kernel_rfl
 body:=by kernel_rfl
 np:=by kernel_rfl
 nt:=by kernel_rfl
 res:=by kernel_rfl
 c0:=by kernel_rfl
 h1:=by kernel_rfl
 o1c:=by kernel_rfl
 o2g:=by kernel_rfl
 o2d:=by kernel_rfl
 o2o:=by kernel_rfl
 c2:=by kernel_rfl
 o3i:=by kernel_rfl
 o3g:=by kernel_rfl
 o3d:=by kernel_rfl
 ats:=d1z ((L0D 2).getD 3 default)
 o3o:=by kernel_rfl
 c3:=by kernel_rfl
 nz:=by decide
 zf:=by kernel_rfl
 zp:=by kernel_rfl
 hfnD:=Tryz.func138
 runD:=by kernel_rfl
 bodyD:=by kernel_rfl
 ntD:=by kernel_rfl
 resD:=by kernel_rfl
 hA:=by kernel_rfl
 oA1g:=by kernel_rfl
 oA1d:=by kernel_rfl
 oA1o:=by kernel_rfl
 oA2g:=by kernel_rfl
 oA2d:=by kernel_rfl
 oA2f:=fun ρ w h h'=>V0v (t:=opT (qA.getD 1 default)) (t':=opT (qA.getD 1 default)) (ifs:=Z0i (Tryz.prog.underlying (opT (qA.getD 1 default)))) (by kernel_rfl) (by kernel_rfl) ρ w h h'
 oA2t:=fun ρ w ty u h h'=>L0s (t:=opT (qA.getD 1 default)) (t':=opT (qA.getD 1 default)) (ifs:=Z0i (Tryz.prog.underlying (opT (qA.getD 1 default)))) (by kernel_rfl) (by kernel_rfl) ρ w ty u h h'
 blB:=by kernel_rfl
 cB:=by kernel_rfl
end
end Go.Proofs.YtjlohmnnldbjoaaGreat.AI
