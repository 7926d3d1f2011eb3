/- Part 12 of the proof: AiSz7, AiSz8, AiSz9, AiT1, AiBox1, AiAwk, AiRefD1, AiRefD2, AiRefD3, AiRefD4, AiZn1, AiEmp1, AiZn2, AiLaw7. -/
import Derived.Test.YtjlohmnnldbjoaaGreatM07
import Derived.Test.YtjlohmnnldbjoaaGreatM08
import Derived.Test.YtjlohmnnldbjoaaGreatM10
set_option linter.unusedVariables false
set_option linter.unusedSimpArgs false
set_option linter.unusedSectionVars false
namespace Go.Proofs.YtjlohmnnldbjoaaGreat.AI
section
open Go SX
set_option maxHeartbeats 4000000
variable {fl:Nat} {H G:a0f} {R:a0E} {v w u:Value}
structure s0V (p:LPt) (n m S:Nat):Prop where
 pn:p.n=n
 pA:p.A.length=m
 pB:p.B.length=m
 pC:p.C.length=n
 row:∀ r ∈ p.A,Few S r∧r.length=n
 fB:Few S p.B
 fC:Few S p.C
 costs:∀ x ∈ p.C,b0u x=0
 S1:1≤S
 m1:m < 1048576
 n1:n < 1048576
 sz:(n + 1) * (2 * ((m + 2) * ((n + 3) * (S + 1) + m + 2) + 1 + m + S) + 10) < 16777216
structure x0B (p:LPt) (q:ScT) (n m K:Nat):Prop where
 qn:q.n=p.n
 qA:q.A.length=p.A.length
 qb:q.bs.length=p.A.length
 rows:∀ k,k < p.A.length→Whole (k0r p k) (q.A.getD k []) (q.bs.getD k 0) K
 cost:Whole (p.C.map b0u) q.C q.cb K
theorem s0F {p:LPt} {n m S k:Nat} (h:s0V p n m S) (hk:k < p.A.length):(k0r p k).length=n + 1:=by
 unfold k0r
 rw [f1H,f1M hk]
 simp [(h.row _ (f1Q hk)).2]
theorem b0r {α:Type} {l:List α} {d:α} {k:Nat} (h:k < l.length):l.getD k d=l[k]:=by
 rw [f1H,f1M h];rfl
theorem s0V.sol {p:LPt} {q:ScT} {n m S:Nat} (h:s0V p n m S) (hq:x0B p q n m ((n + 3) * (S + 1))) (hp:LPV H u p) (hv:SV H v q):x0C H u v p q n m where
 hp:=hp
 hv:=hv
 qn:=by rw [hq.qn,h.pn]
 qA:=by rw [hq.qA,h.pA]
 qC:=by rw [hq.cost.len,h1a,h.pC]
 pC:=h.pC
 qb:=by rw [hq.qb,h.pA]
 row:=fun r hr=>by
  obtain ⟨k,hk,rfl⟩:=List.mem_iff_getElem.1 hr
  have hk2:k < p.A.length:=by rw [← hq.qA];exact hk
  have:=(hq.rows k hk2).len
  rw [b0r hk,s0F h hk2] at this
  exact this
 costs:=fun c=>by
  unfold ccq
  by_cases hc:c < q.C.length
  ·have hl:=hq.cost.len
   rw [b0r hc]
   have hc2:c < (p.C.map b0u).length:=by rw [← hl];exact hc
   have he:=hq.cost.eq c hc2
   rw [g1C,h.costs _ (f1Q _),i1x] at he
   exact Rat.intCast_inj.1 he
  ·rw [f1H,f1T (by omega)];rfl
 b0:=fun h0=>by have:=hq.cost.pos;rw [h0] at this;exact g1g this (Rat.lt_irrefl)
 m1:=h.m1
 n1:=h.n1
 sz:=by
  refine ⟨(n + 3) * (S + 1),S,fun r c=>?_,h.fC,fun x hx=>?_,hq.cost.szb,h.sz⟩
  ·unfold Tf
   by_cases hr:r < q.A.length
   ·have hW:=(hq.rows r (by rw [← hq.qA];exact hr)).szz
    by_cases hc:c < (q.A.getD r []).length
    ·rw [b0r hc];exact hW _ (f1Q _)
    ·rw [f1H (l:=q.A.getD r []),f1T (by omega)];show lz 0≤_;rw [d0y];omega
   ·have:q.A.getD r []=[]:=by rw [f1H,f1T (by omega)];rfl
    rw [this];show lz 0≤_;rw [d0y];omega
  ·obtain ⟨k,hk,rfl⟩:=List.mem_iff_getElem.1 hx
   have:=(hq.rows k (by rw [← hq.qb];exact hk)).szb
   rw [b0r hk] at this
   exact this
theorem z0d.setS {a:s0S} {G':a0f} {b:Nat} {X:Blk} {ro:Bool} {e:TypeId} {cs:List Value} (h:z0d G v a) (hS:Array.setIfInBounds G b X=G') (hb:a0f.blk G b=.row ro e cs) (h1:e ≠ a0j) (h2:e ≠ a0b):z0d G' v a:=by
 have hl1:LxT a0b G G':=b0e hS hb h2
 have hl2:Lx G G':=fun b ro cs h=>b0e (e:=a0j) hS hb h1 b ro cs h
 obtain ⟨s1,s2,sX,sY,sR,e1,k1,k2,k3,k4,k5⟩:=h
 exact ⟨s1,s2,sX,sY,sR,e1,k1.setS hS hb h1,k2.setS hS hb h1,a0T.lx2 k3 hl1 hl2,a0T.lx2 k4 hl1 hl2,a0T.lx2 k5 hl1 hl2⟩
def d1N (p:LPt) (n m S:Nat) (r:Value) (H':a0f):Prop:=∃ q,x0B p q n m ((n + 3) * (S + 1))∧p0i q p.C n m r H'
theorem l0g {p:LPt} {n m S:Nat} (h:s0V p n m S) (hp:LPV H v p) (hf:fl≤H.size) :
  a0U env fl X0A [v] H (fun r H'=>d1N p n m S r H'∧Ext H H') R:=by
 have hp0:=hp
 obtain ⟨sA0,sB0,sC0,rfl,kA,kB,kC⟩:=hp
 refine a0i f1d hf (h:=?_)
 intro ρ h0
 simp [a1C,R0j,h0,kA.cells,kB.cells,kC.cells]
 generalize hG:Array.push (Array.push H _) _=G
 obtain ⟨hx,b0,b1⟩:=push2 hG
 clear hG
 simp [R0k,b0]
 have hS:=h.S1
 have hK:(n + 3) * (S + 1) < 67108864:=by
  have h1:=h.sz
  have h2:1 * (2 * ((m + 2) * ((n + 3) * (S + 1) + m + 2) + 1 + m + S) + 10)≤(n + 1) * (2 * ((m + 2) * ((n + 3) * (S + 1) + m + 2) + 1 + m + S) + 10):=f1S _ (by omega)
  have h3:1 * ((n + 3) * (S + 1) + m + 2)≤(m + 2) * ((n + 3) * (S + 1) + m + 2):=f1S _ (by omega)
  omega
 refine (j0E (S:=S) (N:=n) (hp0.mono hx) hx.1 (fun r hr=>⟨(h.row r hr).1,by rw [(h.row r hr).2];exact f1I _⟩) h.fB (by rw [h.pA,h.pB]) h.fC (by rw [h.pC];exact f1I _) (by rw [h.pA];have:=h.m1;omega) hS rfl hK).mono ?_
 rintro wq G2 ⟨⟨q,hv,q1,q2,q3,q4,q5⟩,hx2⟩
 have hq:x0B p q n m ((n + 3) * (S + 1)):=⟨q1,q2,q3,q4,q5⟩
 clear q1 q2 q3 q4 q5
 replace b0:=hx2.blk b0
 replace b1:=hx2.blk b1
 replace hx:=hx.trans hx2
 clear hx2
 have hsz:=hx.1
 have hv0:=hv
 obtain ⟨sA,sBy,sC,s1,s2,rfl,qA,qB,qC,k1,k2⟩:=hv
 have c1:=k1.cells;have c2:=k2.cells
 simp [hsz,qA.cells,qA.plain,qB.cells,qB.plain,qC.cells,qC.plain,c1,c2,k1.plain,k2.plain]
 generalize hN:Array.setIfInBounds (Array.push _ _) _ _=G3
 obtain ⟨hx2,b2⟩:=new1 hN
 clear hN
 replace b0:=hx2.blk b0
 replace b1:=hx2.blk b1
 replace hv0:=hv0.mono hx2
 replace hx:=hx.trans hx2
 clear hx2
 obtain ⟨P2,hP2⟩:∃ x,x=G2.size:=⟨_,rfl⟩
 rw [← hP2] at b2 hsz ⊢
 simp [R0l,b0,b2]
 refine (y0D (h.sol hq (hp0.mono hx) hv0) hx.1).mono ?_
 rintro r G4 ⟨hr,hx2⟩
 replace b0:=hx2.blk b0
 replace b1:=hx2.blk b1
 replace b2:=hx2.blk b2
 replace hv0:=hv0.mono hx2
 replace hx:=hx.trans hx2
 clear hx2
 have hsz2:=hx.1
 rcases hr with ⟨ans,k,rfl,hQ⟩ | ⟨ans,rfl,s1',s2',s3',s4',s5',s6',s7',s8',rfl,hpl⟩
 ·obtain ⟨ans',a,k',he,hA,hQ⟩:=hQ
  obtain ⟨rfl,rfl⟩:ans=ans'∧k=k':=by simpa using he
  clear he
  have hA0:=hA
  obtain ⟨z1,z2,z3,z4,z5,rfl,l1,l2,l3,l4,l5⟩:=hA
  have d1:=l1.cells;have d2:=l2.cells
  simp [hsz2,d1,d2,l1.plain,l2.plain,l3.cells,l3.plain,l4.cells,l4.plain,l5.cells,l5.plain]
  generalize hN:Array.setIfInBounds (Array.push _ _) _ _=G5
  obtain ⟨hx2,b3⟩:=new1 hN
  clear hN
  replace b0:=hx2.blk b0
  replace b1:=hx2.blk b1
  replace b2:=hx2.blk b2
  replace hA0:=hA0.mono hx2
  replace hx:=hx.trans hx2
  clear hx2
  obtain ⟨P4,hP4⟩:∃ x,x=G4.size:=⟨_,rfl⟩
  rw [← hP4] at b3 ⊢
  simp [I0H,R0m,b3,b1,d1,d2,l1.plain,l2.plain,l3.cells,l3.plain,l4.cells,l4.plain,l5.cells,l5.plain]
  generalize hS':Array.setIfInBounds G5 _ _=G6
  rw [a0u hS' b1]
  simp
  exact fun _=>⟨q,hq,_,a,k,rfl,hA0.setS hS' b1 (by decide) (by decide),hQ⟩
 ·simp at hpl
  obtain ⟨p1,p2,p3,p4,p5,p6,p7,p8⟩:=hpl
  simp [hsz2,p1,p2,p3,p4,p5,p6,p7,p8]
  generalize hN:Array.setIfInBounds (Array.push _ _) _ _=G5
  obtain ⟨hx2,b3⟩:=new1 hN
  clear hN
  replace b0:=hx2.blk b0
  replace b1:=hx2.blk b1
  replace b2:=hx2.blk b2
  replace hv0:=hv0.mono hx2
  replace hx:=hx.trans hx2
  clear hx2
  simp [I0H,R0n,b0,b2]
  refine a0U.mono (s0I (F:=.all) (h.sol hq (hp0.mono hx) hv0) hx.1 trivial) ?_
  rintro r G6 ⟨⟨ans,a,k,rfl,hA,hQ⟩,hx2⟩
  replace b1:=hx2.blk b1
  replace hx:=hx.trans hx2
  clear hx2
  have hsz3:=hx.1
  have hA0:=hA
  obtain ⟨z1,z2,z3,z4,z5,rfl,l1,l2,l3,l4,l5⟩:=hA
  have d1:=l1.cells;have d2:=l2.cells
  simp [b1,hsz3,d1,d2,l1.plain,l2.plain,l3.cells,l3.plain,l4.cells,l4.plain,l5.cells,l5.plain]
  generalize hS':Array.setIfInBounds G6 _ _=G7
  rw [a0u hS' b1]
  simp
  exact fun _=>⟨q,hq,_,a,k,rfl,hA0.setS hS' b1 (by decide) (by decide),hQ⟩
theorem j0D {p:LPt} {n m S:Nat} (h:s0V p n m S) (hp:LPV H v p) (hf:fl≤H.size) (hr:n0a p=true) :
  a0U env fl X0q [v] H (fun r H'=>(∃ ans k,r=.tuple #[ans,.int .i64 k,.int .i64 0]∧d1N p n m S (.tuple #[ans,.int .i64 k]) H')∧Ext H H') R:=by
 have hp0:=hp
 obtain ⟨sA0,sB0,sC0,rfl,kA,kB,kC⟩:=hp
 refine a0i e1G hf (h:=?_)
 intro ρ h0
 simp [a1f,O0X,h0,kA.cells,kB.cells,kC.cells]
 generalize hG:Array.push (Array.push H _) _=G
 obtain ⟨hx,b0,b1⟩:=push2 hG
 clear hG
 simp [O0Y,b0]
 refine (p0J (hp0.mono hx) hx.1).mono ?_
 rintro _ G2 ⟨rfl,hx2⟩
 replace b0:=hx2.blk b0
 replace b1:=hx2.blk b1
 replace hx:=hx.trans hx2
 clear hx2
 simp [hr]
 simp [O0Z,b0]
 refine (l0g h (hp0.mono hx) hx.1).mono ?_
 rintro r G4 ⟨⟨q,hq,ans,a,k,rfl,hA,hQ⟩,hx2⟩
 replace b1:=hx2.blk b1
 replace hx:=hx.trans hx2
 clear hx2
 have hsz2:=hx.1
 have hA0:=hA
 obtain ⟨z1,z2,z3,z4,z5,rfl,l1,l2,l3,l4,l5⟩:=hA
 have d1:=l1.cells;have d2:=l2.cells
 simp [hsz2,d1,d2,l1.plain,l2.plain,l3.cells,l3.plain,l4.cells,l4.plain,l5.cells,l5.plain]
 generalize hN:Array.setIfInBounds (Array.push _ _) _ _=G5
 obtain ⟨hx2,b3⟩:=new1 hN
 clear hN
 replace b1:=hx2.blk b1
 replace hA0:=hA0.mono hx2
 replace hx:=hx.trans hx2
 clear hx2
 obtain ⟨P4,hP4⟩:∃ x,x=G4.size:=⟨_,rfl⟩
 rw [← hP4] at b3 ⊢
 simp [P0a,b3,b1,d1,d2,l1.plain,l2.plain,l3.cells,l3.plain,l4.cells,l4.plain,l5.cells,l5.plain]
 generalize hS':Array.setIfInBounds G5 _ _=G6
 rw [a0u hS' b1]
 simp
 exact fun _=>⟨_,k,⟨rfl,rfl⟩,q,hq,_,a,k,rfl,hA0.setS hS' b1 (by decide) (by decide),hQ⟩
end
section
open Go SX
set_option maxHeartbeats 1000000
def rs (f:Nat→Rat):Nat→Rat
 | 0=>0
 | n + 1=>rs f n + f n
theorem c0h {f g:Nat→Rat}:∀ {n:Nat},(∀ i,i < n→f i=g i)→rs f n=rs g n
 | 0,_=>rfl
 | n + 1,h=>by rw [rs,rs,c0h (fun i hi=>h i (by omega)),h n (by omega)]
theorem n0c {f:Nat→Rat} {c:Rat}:∀ {n:Nat},rs (fun i=>f i * c) n=rs f n * c
 | 0=>by rw [rs,rs,i1x]
 | n + 1=>by rw [rs,rs,n0c,Rat.add_mul]
theorem n0b {f:Nat→Int}:∀ {n:Nat},rs (fun i=>(f i:Rat)) n=((sm f n:Int):Rat)
 | 0=>rfl
 | n + 1=>by rw [rs,sm,n0b,Rat.intCast_add]
theorem l0N {a b:List b0x}:∀ {n:Nat},f0D a b n=rs (fun i=>b0u (a.getD i d0Q) * b0u (b.getD i d0Q)) n
 | 0=>rfl
 | n + 1=>by rw [f0D,rs,l0N]
def pA (p:LPt) (r k:Nat):Rat:=b0u ((p.A.getD r []).getD k d0Q)
def pB (p:LPt) (r:Nat):Rat:=b0u (p.B.getD r d0Q)
def pC (p:LPt) (k:Nat):Rat:=b0u (p.C.getD k d0Q)
structure r0g (p:LPt) (n m:Nat) (a:s0S):Prop where
 kind:a.kind=2
 V:a.V=0
 X:a.X=[]
 Ray:a.Ray=[]
 Yl:a.Y.length=m
 Y0:∀ i,i < m→0≤a.Y.getD i 0
 YA:∀ k,k < n→rs (fun i=>a.Y.getD i 0 * pA p i k) m=0
 YB:rs (fun i=>a.Y.getD i 0 * pB p i) m < 0
structure x0w (p:LPt) (n m:Nat) (a:s0S):Prop where
 kind:a.kind=1
 Ray:a.Ray=[]
 Xl:a.X.length=n
 Yl:a.Y.length=m
 AX:∀ r,r < m→rs (fun k=>pA p r k * a.X.getD k 0) n≤pB p r
 Y0:∀ i,i < m→0≤a.Y.getD i 0
 YA:∀ k,k < n→rs (fun i=>a.Y.getD i 0 * pA p i k) m=pC p k
 V:a.V=rs (fun k=>pC p k * a.X.getD k 0) n
 YB:rs (fun i=>a.Y.getD i 0 * pB p i) m=a.V
theorem f0g {f:Nat→Rat} {n k:Nat} (h:k < n):((List.range n).map f).getD k 0=f k:=by
 rw [f1H];simp [h]
section
variable {p:LPt} {q:ScT} {n m S K:Nat}
theorem Whole.row_eq (h:s0V p n m S) (hq:x0B p q n m K) {r:Nat} (hr:r < m):0 < q.bs.getD r 0∧(∀ k,k < n→((Tf q.A r k:Int):Rat)=pA p r k * q.bs.getD r 0)∧((bbq q n r:Int):Rat)=pB p r * q.bs.getD r 0:=by
 have hr':r < p.A.length:=by rw [h.pA];exact hr
 have hW:=hq.rows r hr'
 have hl:=s0F h hr'
 have hrl:=(h.row _ (f1Q hr')).2
 refine ⟨hW.pos,fun k hk=>?_,?_⟩
 ·have e:=hW.eq k (by omega)
  have e1:(q.A.getD r [])[k]'(by rw [hW.len];omega)=Tf q.A r k:=by
   unfold Tf;rw [b0r (l:=q.A.getD r []) (by rw [hW.len];omega)]
  rw [e1] at e
  rw [e]
  congr 1
  unfold pA k0r
  rw [g1Y (by rw [h1a,b0r hr'];omega),g1C,b0r (l:=p.A.getD r []) (by rw [b0r hr'];omega)]
 ·have e:=hW.eq n (by omega)
  have e1:(q.A.getD r [])[n]'(by rw [hW.len];omega)=bbq q n r:=by
   unfold bbq Tf;rw [b0r (l:=q.A.getD r []) (by rw [hW.len];omega)]
  rw [e1] at e
  rw [e]
  congr 1
  unfold pB k0r
  rw [g1q (by rw [h1a,b0r hr'];omega)]
  simp
theorem Whole.cost_eq (h:s0V p n m S) (hq:x0B p q n m K):0 < q.cb∧∀ k,k < n→((ccq q k:Int):Rat)=pC p k * q.cb:=by
 refine ⟨hq.cost.pos,fun k hk=>?_⟩
 have hk':k < (p.C.map b0u).length:=by rw [h1a,h.pC];exact hk
 have e:=hq.cost.eq k hk'
 have e1:q.C[k]'(by rw [hq.cost.len];exact hk')=ccq q k:=by unfold ccq;rw [b0r]
 rw [e1] at e
 rw [e,g1C]
 unfold pC
 rw [b0r (by rw [h.pC];exact hk)]
end
section
variable {p:LPt} {q:ScT} {n m S K:Nat} {a:s0S} {T:Nat→Nat→Int} {base:Nat→Nat} {D:Int}
theorem inv_pos {c:Rat} (h:0 < c):0 < c⁻¹:=Rat.inv_pos.2 h
theorem v0B {D:Int} (h:0 < D):(0:Rat) < (D:Rat):=Rat.intCast_pos.2 h
theorem l0I {D:Int} (h:0≤D):(0:Rat)≤(D:Rat):=Rat.intCast_nonneg.2 h
theorem p0u {t D:Int} {b c:Rat}:Rat.divInt t D * b / c=(t:Rat) * b * ((D:Rat)⁻¹ * c⁻¹):=by
 rw [Rat.divInt_eq_div,Rat.div_def,Rat.div_def]
 grind
theorem r0r (h:s0V p n m S) (hq:x0B p q n m K) {t:Nat→Int} {c:Rat} (Y:Nat→Rat) (hY:∀ i,i < m→Y i=Rat.divInt (t i) D * q.bs.getD i 0 / c) :
  (∀ k,k < n→rs (fun i=>Y i * pA p i k) m=((sm (fun i=>t i * Tf q.A i k) m:Int):Rat) * ((D:Rat)⁻¹ * c⁻¹))∧rs (fun i=>Y i * pB p i) m=((sm (fun i=>t i * bbq q n i) m:Int):Rat) * ((D:Rat)⁻¹ * c⁻¹):=by
 refine ⟨fun k hk=>?_,?_⟩
 ·rw [← n0b,← n0c]
  refine c0h fun i hi=>?_
  obtain ⟨_,h2,_⟩:=Whole.row_eq h hq hi
  rw [hY i hi,p0u,h1H,h2 k hk]
  grind
 ·rw [← n0b,← n0c]
  refine c0h fun i hi=>?_
  obtain ⟨_,_,h3⟩:=Whole.row_eq h hq hi
  rw [hY i hi,p0u,h1H,h3]
  grind
theorem Z0k.cert (h:s0V p n m S) (hq:x0B p q n m K) (hs:Z0k q n m a):r0g p n m a:=by
 obtain ⟨T,base,D,hT,h1,h2,h3,h4,h5,h6,h7⟩:=hs
 have hD:=hT.pos
 obtain ⟨i1,i2,i3⟩:=y0g hT h5
 have hY:∀ i,i < m→a.Y.getD i 0=Rat.divInt (T m (2 * n + i)) D * q.bs.getD i 0 / 1:=fun i hi=>by rw [h7,f0g hi]
 obtain ⟨s1,s2⟩:=r0r h hq _ hY
 have hc:(0:Rat) < (D:Rat)⁻¹ * (1:Rat)⁻¹:=Rat.mul_pos (inv_pos (v0B hD)) (inv_pos (by decide))
 refine ⟨h1,h2,h3,h4,by rw [h7];simp,fun i hi=>?_,fun k hk=>?_,?_⟩
 ·rw [hY i hi,p0u]
  exact i1O (i1O (l0I (i1 i hi)) (Rat.le_of_lt (Whole.row_eq h hq hi).1)) (Rat.le_of_lt hc)
 ·rw [s1 k hk,i2 k hk];simp
 ·rw [s2,i3]
  have h8:((T m (2 * n + m):Int):Rat) < 0:=by
   have:=i1d.2 h6;simpa using this
  have h9:=Rat.mul_pos (a:=-((T m (2 * n + m):Int):Rat)) (by grind) hc
  grind
theorem Z0j.cert (h:s0V p n m S) (hq:x0B p q n m K) (hs:Z0j q p.C n m a):x0w p n m a:=by
 obtain ⟨T,base,D,hT,h1,h2,h3,h4,h5,h6,h7⟩:=hs
 have hD:=hT.pos
 obtain ⟨i1,i2,i3⟩:=SX.duals hT h4
 obtain ⟨j1,j2⟩:=Y0a hT h3
 obtain ⟨hcb,hcc⟩:=Whole.cost_eq h hq
 have hY:∀ i,i < m→a.Y.getD i 0=Rat.divInt (T (m + 1) (2 * n + i)) D * q.bs.getD i 0 / q.cb:=fun i hi=>by rw [h6,f0g hi]
 have hX:∀ k,k < n→a.X.getD k 0=((ptq n base (fun i=>T i (2 * n + m)) m k:Int):Rat) * (D:Rat)⁻¹:=fun k hk=>by rw [h5,f0g hk,Rat.divInt_eq_div,Rat.div_def]
 obtain ⟨s1,s2⟩:=r0r h hq _ hY
 have hDr:=v0B hD
 have hDi:=inv_pos hDr
 have hci:=inv_pos hcb
 have hc:(0:Rat) < (D:Rat)⁻¹ * q.cb⁻¹:=Rat.mul_pos hDi hci
 have hDD:(D:Rat) * (D:Rat)⁻¹=1:=Rat.mul_inv_cancel _ (by grind)
 have hcc1:q.cb * q.cb⁻¹=1:=Rat.mul_inv_cancel _ (by grind)
 have hV:a.V=rs (fun k=>pC p k * a.X.getD k 0) n:=by
  rw [h7,l0N]
  refine c0h fun k hk=>?_
  unfold pC
  congr 1
  rw [b0r (by rw [h1a,h5];simpa using hk),g1C,a0H,b0r (by rw [h5];simpa using hk)]
 have hVs:rs (fun k=>pC p k * a.X.getD k 0) n=((T (m + 1) (2 * n + m):Int):Rat) * ((D:Rat)⁻¹ * q.cb⁻¹):=by
  rw [← j2,← n0b,← n0c]
  refine c0h fun k hk=>?_
  rw [hX k hk,h1H,hcc k hk]
  show _=pC p k * q.cb * ((ptq n base (fun i=>T i (2 * n + m)) m k:Int):Rat) * ((D:Rat)⁻¹ * q.cb⁻¹)
  grind
 refine ⟨h1,h2,by rw [h5];simp,by rw [h6];simp,fun r hr=>?_,fun i hi=>?_,fun k hk=>?_,hV,?_⟩
 ·obtain ⟨r1,r2,r3⟩:=Whole.row_eq h hq hr
  have e1:rs (fun k=>pA p r k * a.X.getD k 0) n * (q.bs.getD r 0 * (D:Rat))=((sm (fun k=>Tf q.A r k * pt n m base (fun i=>T i (2 * n + m)) k) n:Int):Rat):=by
   rw [← n0b,← n0c]
   refine c0h fun k hk=>?_
   rw [hX k hk,h1H,r2 k hk]
   show _=pA p r k * q.bs.getD r 0 * ((ptq n base (fun i=>T i (2 * n + m)) m k:Int):Rat)
   grind
  have e2:pB p r * (q.bs.getD r 0 * (D:Rat))=((D * bbq q n r:Int):Rat):=by
   rw [h1H,r3];grind
  have e3:=Rat.intCast_le_intCast.2 (j1 r hr)
  rw [← e1,← e2] at e3
  exact Rat.le_of_mul_le_mul_right e3 (Rat.mul_pos r1 hDr)
 ·rw [hY i hi,p0u]
  exact i1O (i1O (l0I (i1 i hi)) (Rat.le_of_lt (Whole.row_eq h hq hi).1)) (Rat.le_of_lt hc)
 ·rw [s1 k hk,i2 k hk,h1H,hcc k hk]
  grind
 ·rw [s2,i3,hV,hVs]
end
end
section
open Go SX
set_option maxHeartbeats 4000000
variable {fl:Nat} {H G:a0f} {R:a0E} {v w u:Value}
theorem d0U.mono {rows:List (List b0x)} (h:d0U H v rows) (hx:Ext H G):d0U G v rows:=by
 obtain ⟨s,h1,h2⟩:=h;exact ⟨s,h1,h2.mono b0w hx⟩
theorem K0q {S:Nat} {r:List b0x} (h:Few S r) (hS:1≤S):Few S (i0x r):=by
 intro x hx
 obtain ⟨y,hy,rfl⟩:=g1U.1 hx
 obtain ⟨h1,h2,h3⟩:=h y hy
 have:=b0N h2 h3
 exact ⟨by rw [a0V];omega,b0q _,b0q _⟩
theorem k0l:∀ {rows:List (List b0x)} {d:List d0K},(c0W rows d).length=(b0V rows d).length
 | [],d=>by simp [b0V,c0W]
 | _ :: _,[]=>by simp [b0V,c0W]
 | r :: rs,e :: es=>by simp only [b0V,c0W];split <;> simp [k0l]
def g0A (rows:List (List b0x)) (n:Int) (d:List d0K):LPt:=⟨n,b0V rows d,c0W rows d,List.replicate n.toNat (a0e 0)⟩
theorem B0e {rows:List (List b0x)} {n:Int} {d:List d0K} (hv:c0v rows n d=true) (hr:∀ r ∈ rows,Few 6 r) (hd:∀ e ∈ d,e0F e.2≤6∧b0s e.2.1.2∧b0s e.2.2.2) :
  s0V (g0A rows n d) n.toNat (b0V rows d).length 6∧n0a (g0A rows n d)=true∧n.toNat≤6∧(b0V rows d).length≤40:=by
 unfold c0v g0j at hv
 simp at hv
 obtain ⟨⟨⟨⟨⟨hn0,hn6⟩,hl⟩,hrow⟩,hdl⟩,_⟩:=hv
 have hml:(b0V rows d).length≤40:=by have:=j0o rows d;omega
 have hnn:((n.toNat:Nat):Int)=n:=by omega
 have hlen:∀ r ∈ b0V rows d,r.length=n.toNat:=fun r hr'=>by
  obtain ⟨q,h1,rfl⟩:=j0p hr'
  have h2:=g1w.1 hrow _ h1
  unfold i0G at h2
  simp at h2
  unfold i0x
  rw [h1a];omega
 obtain ⟨k,hk⟩:∃ k,k=n.toNat:=⟨_,rfl⟩
 obtain ⟨m,hm⟩:∃ m,m=(b0V rows d).length:=⟨_,rfl⟩
 refine ⟨⟨hnn.symm,rfl,k0l,by simp [g0A],fun r hr'=>⟨?_,hlen r hr'⟩,?_,?_,?_,by decide,by omega,by omega,?_⟩,?_,by omega,hml⟩
 ·obtain ⟨q,h1,rfl⟩:=j0p hr'
  exact K0q (hr q h1) (by decide)
 ·intro x hx
  obtain ⟨e,h1,rfl⟩:=m0l hx
  obtain ⟨h2,h3,h4⟩:=hd e h1
  have:=b0N h3 h4
  exact ⟨by rw [a0V];omega,b0q _,b0q _⟩
 ·intro x hx
  have:=(h1x.1 hx).2
  subst this
  exact ⟨by rw [a0V,e0o];decide,b0q _,b0q _⟩
 ·intro x hx
  rw [(h1x.1 hx).2,a0H]
 ·rw [← hk,← hm]
  have h1:(m + 2) * ((k + 3) * (6 + 1) + m + 2)≤42 * 105:=g1B (by omega) (by omega)
  have h2:(k + 1) * (2 * ((m + 2) * ((k + 3) * (6 + 1) + m + 2) + 1 + m + 6) + 10)≤7 * (2 * (42 * 105 + 1 + 40 + 6) + 10):=g1B (by omega) (by omega)
  omega
 ·unfold n0a g0A
  have h1:f0B (fun r=>!decide ((r.length:Int)=n)) (b0V rows d)=false:=by
   cases ha:f0B (fun r=>!decide ((r.length:Int)=n)) (b0V rows d) with
   | false=>rfl
   | true =>
    obtain ⟨r,h1,h2⟩:=h1Z.1 ha
    have:=hlen r h1
    simp at h2;omega
  simp only [h1,k0l]
  simp
  omega
def z0f (a:s0S) (W:Nat):Prop:=(∀ x ∈ a.X,szR x≤W)∧∀ y ∈ a.Y,szR y≤W
theorem x0B.szA {p:LPt} {q:ScT} {n m S K:Nat} (h:s0V p n m S) (hq:x0B p q n m K) (r c:Nat):lz (Tf q.A r c)≤K:=by
 unfold Tf
 by_cases hr:r < q.A.length
 ·have hW:=(hq.rows r (by rw [← hq.qA];exact hr)).szz
  by_cases hc:c < (q.A.getD r []).length
  ·rw [b0r hc];exact hW _ (f1Q _)
  ·rw [f1H (l:=q.A.getD r []),f1T (by omega)];show lz 0≤_;rw [d0y];omega
 ·have:q.A.getD r []=[]:=by rw [f1H,f1T (by omega)];rfl
  rw [this];show lz 0≤_;rw [d0y];omega
theorem x0B.costs {p:LPt} {q:ScT} {n m S K:Nat} (h:s0V p n m S) (hq:x0B p q n m K) (c:Nat):ccq q c=0:=by
 unfold ccq
 by_cases hc:c < q.C.length
 ·have hl:=hq.cost.len
  rw [b0r hc]
  have hc2:c < (p.C.map b0u).length:=by rw [← hl];exact hc
  have he:=hq.cost.eq c hc2
  rw [g1C,h.costs _ (f1Q _),i1x] at he
  exact Rat.intCast_inj.1 he
 ·rw [f1H,f1T (by omega)];rfl
theorem x0p {t D:Int} {b c:Rat} {Z K:Nat} (h1:lz t≤Z) (h2:lz D≤Z) (h3:szR b≤K) (h4:szR c≤K):szR (Rat.divInt t D * b / c)≤Z + 1 + K + K:=by
 have a1:=b0W t D
 have a2:=i0J (Rat.divInt t D) b
 have a3:=V0m (Rat.divInt t D * b) c
 omega
theorem Y0Z {p:LPt} {q:ScT} {n m S K:Nat} {a:s0S} (h:s0V p n m S) (hq:x0B p q n m K) (hK:1≤K) (hs:Z0k q n m a ∨ Z0j q p.C n m a):z0f a ((m + 2) * (K + m + 2) + 1 + m + 1 + K + K):=by
 have hb:∀ i,i < m→szR (q.bs.getD i 0)≤K:=fun i hi=>(hq.rows i (by rw [h.pA];exact hi)).szb
 rcases hs with ⟨T,base,D,hT,h1,h2,h3,h4,h5,h6,h7⟩ | ⟨T,base,D,hT,h1,h2,h3,h4,h5,h6,h7⟩
 ·obtain ⟨z1,z2⟩:=A0y (hq.szA h) (hq.costs h) h.m1 hT
  refine ⟨fun x hx=>by rw [h3] at hx;simp at hx,fun y hy=>?_⟩
  rw [h7] at hy
  obtain ⟨i,hi,rfl⟩:=g1U.1 hy
  have hi:=g1K.1 hi
  have:=x0p (z1 m (2 * n + i) (by omega) (by omega)) z2 (hb i hi) (show szR 1≤K by rw [J0t];exact hK)
  omega
 ·obtain ⟨z1,z2⟩:=A0y (hq.szA h) (hq.costs h) h.m1 hT
  refine ⟨fun x hx=>?_,fun y hy=>?_⟩
  ·rw [h5] at hx
   obtain ⟨k,_,rfl⟩:=g1U.1 hx
   have e1:=b0W (ptq n base (fun i=>T i (2 * n + m)) m k) D
   have e2:=r0S (n:=n) (base:=base) (Fv:=fun i=>T i (2 * n + m)) (k:=k) (q:=m) (fun i hi=>z1 i (2 * n + m) (by omega) (f1I _))
   omega
  ·rw [h6] at hy
   obtain ⟨i,hi,rfl⟩:=g1U.1 hy
   have hi:=g1K.1 hi
   have:=x0p (z1 (m + 1) (2 * n + i) (by omega) (by omega)) z2 (hb i hi) hq.cost.szb
   omega
def e1e:Value:=.agg #[.int .i64 0,.bool false,.slice none 0 0,.bool false,.slice none 0 0,.slice none 0 0,.slice none 0 0,.slice none 0 0]
def n0S (rows:List (List b0x)) (n:Int) (d:List d0K) (r:Value) (H':a0f):Prop :=
 if c0v rows n d=false then r=.tuple #[.bool false,e1e,.int .i64 1]
 else if f0B (fun e=>decide (e.1 < 0)) d=true then r=.tuple #[.bool true,e1e,.int .i64 0]
 else ∃ ans a,r=.tuple #[.bool (decide (a.kind=2)),ans,.int .i64 0]∧z0d H' ans a∧(r0g (g0A rows n d) n.toNat (b0V rows d).length a ∨ x0w (g0A rows n d) n.toNat (b0V rows d).length a)∧z0f a 6000
theorem i0e {rows:List (List b0x)} {n:Int} {d:List d0K} (h:d0U H v rows) (hd:g0m H w d) (hf:fl≤H.size) (hr:∀ r ∈ rows,Few 6 r∧r.length < 1073741824) (hrl:rows.length < 1073741824) (hfd:∀ e ∈ d,e0F e.2≤6∧b0s e.2.1.2∧b0s e.2.2.2) (hdl:d.length < 1073741824) :
  a0U env fl V0A [v,.int .i64 n,w] H (fun r H'=>n0S rows n d r H'∧Ext H H') R:=by
 have hp0:=h
 have hfe:z0h d:=fun x hx=>by have:=(hfd x hx).1;omega
 obtain ⟨s,rfl,hs⟩:=h
 refine a0i e1r hf (h:=?_)
 intro ρ h0
 simp [Z0Q,N0u,h0,hs.cells]
 generalize hG:Array.push (Array.push H _) _=G
 obtain ⟨hx,b0,b1⟩:=push2 hG
 clear hG
 simp [N0v,b0,h0]
 refine (i0f (S:=6) (hp0.mono hx) (hd.mono c0R hx) hx.1 (by decide) hr hrl hfe hdl).mono ?_
 rintro _ G2 ⟨rfl,hx2⟩
 replace b0:=hx2.blk b0
 replace b1:=hx2.blk b1
 replace hx:=hx.trans hx2
 clear hx2
 have hsz:=hx.1
 cases hv:c0v rows n d with
 | false =>
  simp [N0w,b1,hsz]
  generalize hS':Array.setIfInBounds G2 _ _=G3
  rw [a0u hS' b1]
  simp
  exact fun _=>by unfold n0S;rw [f1N hv];rfl
 | true =>
  simp [N0x,b0,h0]
  refine (k0X (S:=6) (hp0.mono hx) (hd.mono c0R hx) hx.1 (by decide) hr hrl hfe hdl).mono ?_
  rintro r G3 ⟨hp,hx2⟩
  replace b0:=hx2.blk b0
  replace b1:=hx2.blk b1
  replace hx:=hx.trans hx2
  clear hx2
  have hsz2:=hx.1
  rw [hv] at hp
  cases hno:f0B (fun e=>decide (e.1 < 0)) d with
  | true =>
   rw [f1K (by rw [hno];simp)] at hp
   obtain ⟨p,rfl,kp⟩:=hp
   obtain ⟨sA,sB,sC,rfl,kA,kB,kC⟩:=kp
   simp [hsz2,kA.cells,kB.cells,kC.cells,kA.plain,kB.plain,kC.plain]
   generalize hN:Array.setIfInBounds (Array.push _ _) _ _=G4
   obtain ⟨hx2,b2⟩:=new1 hN
   clear hN
   replace b1:=hx2.blk b1
   replace hx:=hx.trans hx2
   clear hx2
   have hsz3:=hx.1
   simp [E0q,N0y,b1,hsz3]
   generalize hS':Array.setIfInBounds G4 _ _=G5
   rw [a0u hS' b1]
   simp
   exact fun _=>by unfold n0S;rw [f1K (by rw [hv];simp),f1N hno];rfl
  | false =>
   rw [f1N ⟨rfl,hno⟩] at hp
   obtain ⟨p,rfl,kp⟩:=hp
   have kp0:=kp
   obtain ⟨sA,sB,sC,rfl,kA,kB,kC⟩:=kp
   simp [hsz2,kA.cells,kB.cells,kC.cells,kA.plain,kB.plain,kC.plain]
   generalize hN:Array.setIfInBounds (Array.push _ _) _ _=G4
   obtain ⟨hx2,b2⟩:=new1 hN
   clear hN
   replace b1:=hx2.blk b1
   replace kp0:=kp0.mono hx2
   replace hx:=hx.trans hx2
   clear hx2
   obtain ⟨P2,hP2⟩:∃ x,x=G3.size:=⟨_,rfl⟩
   rw [← hP2] at b2 ⊢
   have hsz3:=hx.1
   obtain ⟨hok,hrt,hn6,hm40⟩:=B0e hv (fun r h=>(hr r h).1) hfd
   simp [E0q,N0z,b2]
   refine (j0D hok kp0 hx.1 hrt).mono ?_
   rintro _ G5 ⟨⟨ans,k,rfl,q,hq,ans',a,k',he,hA,hQ⟩,hx2⟩
   obtain ⟨rfl,rfl⟩:ans=ans'∧k=k':=by simpa using he
   clear he
   replace b1:=hx2.blk b1
   replace hx:=hx.trans hx2
   clear hx2
   have hsz4:=hx.1
   have hA0:=hA
   obtain ⟨z1,z2,z3,z4,z5,rfl,l1,l2,l3,l4,l5⟩:=hA
   have d1:=l1.cells;have d2:=l2.cells
   simp [hsz4,d1,d2,l1.plain,l2.plain,l3.cells,l3.plain,l4.cells,l4.plain,l5.cells,l5.plain]
   generalize hN:Array.setIfInBounds (Array.push _ _) _ _=G6
   obtain ⟨hx2,b3⟩:=new1 hN
   clear hN
   replace b1:=hx2.blk b1
   replace hA0:=hA0.mono hx2
   replace hx:=hx.trans hx2
   clear hx2
   obtain ⟨P4,hP4⟩:∃ x,x=G5.size:=⟨_,rfl⟩
   rw [← hP4] at b3 ⊢
   refine a0G ?_
   simp [N0A,b3,b1,d1,d2,l1.plain,l2.plain,l3.cells,l3.plain,l4.cells,l4.plain,l5.cells,l5.plain]
   generalize hS':Array.setIfInBounds G6 _ _=G7
   rw [a0u hS' b1]
   simp
   intro _
   unfold n0S
   rw [f1K (by rw [hv];simp),f1K (by rw [hno];simp)]
   have hsz:=Y0Z hok hq (by omega) hQ
   obtain ⟨kk,hkk⟩:∃ kk,kk=n.toNat:=⟨_,rfl⟩
   obtain ⟨m,hm⟩:∃ m,m=(b0V rows d).length:=⟨_,rfl⟩
   have hW:(m + 2) * ((kk + 3) * (6 + 1) + m + 2) + 1 + m + 1 + (kk + 3) * (6 + 1) + (kk + 3) * (6 + 1)≤6000:=by
    have h1:(m + 2) * ((kk + 3) * (6 + 1) + m + 2)≤42 * 105:=g1B (by omega) (by omega)
    omega
   rw [hm,hkk] at hW
   refine ⟨_,a,rfl,hA0.setS hS' b1 (by decide) (by decide),?_,fun x hx=>f1Y (hsz.1 x hx) hW,fun x hx=>f1Y (hsz.2 x hx) hW⟩
   rcases hQ with hQ | hQ
   ·exact .inl (hQ.cert hok hq)
   ·exact .inr (hQ.cert hok hq)
end
section
open Go
set_option maxHeartbeats 4000000
variable {fl:Nat} {H G:a0f} {R:a0E} {v w u:Value}
theorem b0b.app2 {α:Type} {P:a0f→List Value→α→Prop} {e sz:Nat} {l:List α} (he:e ≠ a0j) (hO:∀ G' cs x,e0l (slB v) G G'→Lx G G'→P G cs x→P G' cs x) (h:b0b P fl G e sz v l) {e2 c bytes:Nat} {new1 new2:List Value} {x1 x2:α} (hx1:P G new1 x1) (hx2:P G new2 x2) (hl1:new1.length=sz) (hl2:new2.length=sz) (hp1:new1.all a0F=true) (hp2:new2.all a0F=true) (hn:l.length < 1073741822) (hb:bytes≤1024) (hs:0 < sz) (hfl:fl≤G.size) :
  ∃ v' G',j0M fl (G.push (.row false e2 (new1 ++ new2))) e sz bytes v (.slice (some ⟨G.size,0,none⟩) 2 c)=some (v',G')∧b0b P fl G' e sz v' (l ++ [x1,x2])∧e0l (slB v) G G'∧(∀ H0,H0.size≤fl→Ext H0 G→Ext H0 G'):=by
 obtain ⟨cs,h1,h2⟩:=h
 have hx:Sl (G.push (.row false e2 (new1 ++ new2))) e2 sz (.slice (some ⟨G.size,0,none⟩) 2 c) 2 (new1 ++ new2):=(Own.mk (fl:=0) a0D (by rw [g1n,hl1,hl2];omega) (g1I _)).sl
 obtain ⟨v',G',a1,a2,a3,a4⟩:=j0R (h1.mono (Ext.push (Ext.refl G))) hx (by rw [i1B,hp1,hp2];rfl) (by omega) hb hs (bytes:=bytes) (by simp;omega)
 have a3':e0l (slB v) G G':=by
  refine ⟨?_,fun b hb hne=>?_⟩
  ·have:=a3.1;simp at this;omega
  ·rw [a3.2 b (by simp;omega) hne,d0Y hb]
 have hL:=b0b.lx ⟨cs,h1,h2⟩ he a3'
 refine ⟨v',G',a1,⟨cs ++ (new1 ++ new2),by simpa using a2,fun k hk=>?_⟩,a3',fun H0 k1 k2=>a4 H0 k1 k2.push⟩
 have hcs:=h1.1
 by_cases hkl:k < l.length
 ·have h3:(k + 1) * sz≤l.length * sz:=f1S _ hkl
  rw [g1e,g1A] at h3
  rw [g1Y hkl,h1k (by omega),h1y (by simp;omega)]
  exact hO _ _ _ a3' hL (h2 k hkl)
 ·by_cases hke:k=l.length
  ·subst hke
   rw [g1q (f1I _),h1k (by omega),h1q (by omega),h1u,h1y (by omega),← hl1,g1d]
   simpa using hO _ _ _ a3' hL hx1
  ·have hke:k=l.length + 1:=by simp at hk;omega
   subst hke
   have e1:(cs ++ (new1 ++ new2)).drop ((l.length + 1) * sz)=new2:=by
    rw [← h1T,List.drop_append,h1q (by rw [g1n,hcs,hl1,g1e];omega),h1u,g1n,hcs,hl1,g1e]
    simp
   rw [e1,g1q (by omega),← hl2,g1d]
   simpa using hO _ _ _ a3' hL hx2
theorem K0B {n:Int}:mn2 true 0 (mn2 false n 6)=max 0 (min n 6):=by
 simp only [mn2,g1h,g1L,g1y]
 repeat' split
 all_goals omega
theorem i0i {n:Int} (hf:fl≤H.size):a0U env fl V0D [.int .i64 n] H (fun r H'=>r=.int .i64 (max 0 (min n 6))∧Ext H H') R:=by
 refine a0i e1B hf (h:=?_)
 intro ρ h0
 simp [a1a,O0u,O0v,h0]
 have h1:y0n true (.int .i64 0) [.int .i64 (mn2 false n 6)]=some (.int .i64 (max 0 (min n 6))):=by rw [← K0B];rfl
 have h2:y0n false (.int .i64 n) [.int .i64 6]=some (.int .i64 (mn2 false n 6)):=rfl
 simp [h2,h1]
theorem h0d {n:Nat} {i p k q:Int} (hf:fl≤H.size) (hn:n < 1073741824) (hp1:-9223372036854775808≤p) (hp2:p < 9223372036854775808) (hq1:-9223372036854775808≤q) (hq2:q < 9223372036854775808) :
  a0U env fl T0T [.int .i64 (n:Int),.int .i64 i,.int .i64 p,.int .i64 k,.int .i64 q] H (fun r H'=>b0b PR H.size H' a0b 4 r ((List.range n).map fun (j:Nat)=>a0e ((if (j:Int)=k then q else if (j:Int)=i then p else 0:Int):Rat))∧Ext H H') R:=by
 refine a0i e1C hf (h:=?_)
 intro ρ h0
 simp [a1b,O0w,O0x,O0y,h0]
 refine c0l (fun j ρ G=>ρ 0=.int .i64 (n:Int)∧ρ 1=.int .i64 i∧ρ 2=.int .i64 p∧ρ 3=.int .i64 k∧ρ 4=.int .i64 q∧ρ 12=.int .i64 (j:Int)∧Ext H G∧b0b PR H.size G a0b 4 (ρ 11) ((List.range j).map fun (j:Nat)=>a0e ((if (j:Int)=k then q else if (j:Int)=i then p else 0:Int):Rat))) n (by decide) ⟨by simp [h0],by simp [h0],by simp [h0],by simp [h0],by simp [h0],by simp,Ext.refl H,by simpa using b0b.nil⟩ ?_
 clear h0 ρ
 rintro j ρ G hj1 ⟨g0,g1,g2,g3,g4,g12,hx,ho⟩
 obtain ⟨s,g11⟩:∃ s,ρ 11=s:=⟨_,rfl⟩
 rw [g11] at ho
 simp [O0z,g0,g12]
 refine d0f.mk (by simp) (fun hj=>?_) (fun heq=>?_)
 ·obtain ⟨z,hz⟩:∃ z:Int,z=(if (j:Int)=k then q else if (j:Int)=i then p else 0):=⟨_,rfl⟩
  have hz1:-9223372036854775808≤z:=by rw [hz];split;exact hq1;split;exact hp1;omega
  have hz2:z < 9223372036854775808:=by rw [hz];split;exact hq2;split;exact hp2;omega
  have hlist:(List.range (j + 1)).map (fun (j:Nat)=>a0e ((if (j:Int)=k then q else if (j:Int)=i then p else 0:Int):Rat))=(List.range j).map (fun (j:Nat)=>a0e ((if (j:Int)=k then q else if (j:Int)=i then p else 0:Int):Rat)) ++ [a0e (z:Rat)]:=by
   rw [i1H,i1E,List.map_singleton,← hz]
  by_cases h1:(j:Int)=k <;> by_cases h2:(j:Int)=i
  all_goals
   first | rw [f1N h1] at hz | rw [f1K h1,f1N h2] at hz | rw [f1K h1,f1K h2] at hz
   subst hz
   try subst h1
   try subst h2
   simp [O0A,O0B,O0C,O0D,O0E,g1,g2,g3,g4,g12, *]
   simp [O0F,g11]
   refine (d0O hx.1 (by omega) (by omega)).mono ?_
   rintro _ G2 ⟨⟨s3,s4,rfl,k3,k4⟩,hx2⟩
   replace hx:=hx.trans hx2
   replace ho:=ho.mono a0t hx2
   try rw [show ((0:Int):Rat)=0 from rfl] at k3 k4 hlist ⊢
   obtain ⟨s',G4,h1,h2,h3,h4⟩:=b0b.app (P:=PR) (sz:=4) (e:=a0b) (by decide) (fun G' cs x _ hl h=>b0X.lx h hl) ho (e2:=a0b) (c:=1) (bytes:=64) ⟨s3,s4,rfl,k3,k4⟩ rfl (by simp [k3.plain,k4.plain]) (by simp;omega) (by omega) (by omega) hx.1
   have k3':=k3.cells;have k4':=k4.cells
   simp [g11,k3',k4',h1]
   unfold e0t
   simp [I0f,g12,a0R (show j < 4611686018427387904 by omega)]
   exact b0T.mk ⟨by simp [g0],by simp [g1],by simp [g2],by simp [g3],by simp [g4],by simp,h4 _ (f1I _) hx,by rw [hlist];exact b0b.cast (v':=s') (by simp) h2⟩
 ·subst heq
  simp [I0g,g11]
  exact fun _=>ho
theorem b0b.first {α:Type} {P:a0f→List Value→α→Prop} {f0 e sz:Nat} {l:List α} (h:b0b P f0 H e sz v l) {k:IntKind} :
  ∃ v',d0V sz v none (some (.int k l.length)) none=some v'∧b0b P f0 H e sz v' l∧elemOk H e v=true:=by
 obtain ⟨v1,h1,_,h3⟩:=h.sls.first (n:=l.length) (k:=k) (f1I _)
 refine ⟨v1,h1,?_,h3⟩
 obtain ⟨cs,⟨hl,⟨rfl,h0⟩ | ⟨b,cap,rfl,hb,hf⟩⟩,h2⟩:=h
 ·have:v1=.slice none 0 0:=by
   rw [h0] at h1
   exact (Option.some.inj (h1.symm.trans rfl))
  subst this
  exact ⟨cs,⟨hl,.inl ⟨rfl,h0⟩⟩,h2⟩
 ·unfold d0V at h1
  simp [bnd] at h1
  subst h1
  exact ⟨cs,⟨hl,.inr ⟨b,_,rfl,hb,hf⟩⟩,h2⟩
theorem k0J {f0:Nat} {l:List (List b0x)} (h:b0b PS f0 H a0A 1 v l) (hf:fl≤H.size) (hl:l.length≤40) :
  a0U env fl V0E [v] H (fun r H'=>(∃ s,r=.agg #[s]∧b0b PS f0 H' a0A 1 s l)∧Ext H H') R:=by
 refine a0i e1D hf (h:=?_)
 intro ρ h0
 have hmn:y0n false (.int .i64 (l.length:Int)) [.int .i64 40]=some (.int .i64 (l.length:Int)):=by
  have:mn2 false (l.length:Int) 40=l.length:=by
   simp only [mn2,g1h,g1L]
   split <;> omega
  show some (Value.int IntKind.i64 (mn2 false (l.length:Int) 40))=_
  rw [this]
 obtain ⟨u1,hu1,ku,oku⟩:=(h.mono b0w ((Ext.refl H).push (r:=.row false a0C [.slice none 0 0]))).first (k:=.i64)
 have ku0:=ku.sls
 simp [a1c,O0G,O0H,h0,h.sls.slen,hmn,hu1,oku,ku0.cells,ku0.plain,hf]
 exact ku.lxm (b0e rfl a0D (by decide)) (fun cs x ⟨w',q1,q2⟩=>⟨w',q1,a0T.lx2 q2 (b0e rfl a0D (by decide)) (fun b ro cs h=>b0e (e:=a0j) rfl a0D (by decide) b ro cs h)⟩)
def i0u (n i:Nat) (p:Int):List b0x:=(List.range n).map fun (j:Nat)=>a0e ((if (j:Int) = -1 then 0 else if (j:Int)=(i:Int) then p else 0:Int):Rat)
def b0O (n:Nat):Nat→List (List b0x)
 | 0=>[]
 | i + 1=>b0O n i ++ [i0u n i 1,i0u n i (-1)]
theorem c0A {n:Nat}:∀ i,(b0O n i).length=2 * i
 | 0=>rfl
 | i + 1=>by rw [b0O,g1n,c0A i];simp;omega
theorem g0h {n:Int} {m:Nat} (hf:fl≤H.size) (hm:max 0 (min n 6)=(m:Int)) :
  a0U env fl T0S [.int .i64 n] H (fun r H'=>(∃ s,r=.agg #[s]∧b0b PS H.size H' a0A 1 s (b0O m m))∧Ext H H') R:=by
 refine a0i e1z hf (h:=?_)
 intro ρ h0
 simp [Z0Y,O0k,O0l,h0]
 generalize hN:Array.push H _=G
 obtain ⟨hx,b0⟩:=g0B hN
 clear hN
 refine (i0i hx.1).mono ?_
 rintro _ G2 ⟨rfl,hx2⟩
 rw [hm]
 have hm6:m≤6:=by omega
 replace b0:=hx2.blk b0
 replace hx:=hx.trans hx2
 simp [O0m,O0n]
 refine c0l (fun i ρ G=>ρ 0=.int .i64 (m:Int)∧ρ 2=.pointer (some ⟨H.size,0,none⟩)∧ρ 4=.int .i64 (i:Int)∧Ext H G∧a0f.blk G H.size=.row false a0C [.slice none 0 0]∧b0b PS H.size G a0A 1 (ρ 3) (b0O m i)) m (by decide) ⟨by simp,by simp,by simp,hx,b0,by simpa [b0O] using b0b.nil⟩ ?_
 clear h0 ρ hx b0 hx2
 rintro i ρ G hi1 ⟨g0,g2,g4,hx,b0,ho⟩
 obtain ⟨s,g3⟩:∃ s,ρ 3=s:=⟨_,rfl⟩
 rw [g3] at ho
 simp [O0o,g0,g4]
 refine d0f.mk (by simp) (fun hi=>?_) (fun heq=>?_)
 ·simp [O0p,g0,g3,g4]
  refine (h0d hx.1 (by omega) (by decide) (by decide) (by decide) (by decide)).mono ?_
  rintro wa G2 ⟨oa,hx2⟩
  replace b0:=hx2.blk b0
  replace ho:=ho.mono b0w hx2
  replace hx:=hx.trans hx2
  simp [g0,g4]
  refine (h0d hx.1 (by omega) (by decide) (by decide) (by decide) (by decide)).mono ?_
  rintro wb G3 ⟨ob,hx2⟩
  replace b0:=hx2.blk b0
  replace ho:=ho.mono b0w hx2
  replace oa:=oa.mono a0t hx2
  replace hx:=hx.trans hx2
  have hll:=c0A (n:=m) i
  obtain ⟨s',G4,h1,h2,h3,h4⟩:=b0b.app2 (P:=PS) (sz:=1) (e:=a0A) (by decide) (fun G' cs x hxb hl ⟨w',q1,q2⟩=>⟨w',q1,a0T.lx2 q2 (ho.lxT (by decide) hxb) hl⟩) ho (e2:=a0A) (c:=2) (bytes:=24) (new1:=[wa]) (new2:=[wb]) (x1:=i0u m i 1) (x2:=i0u m i (-1)) ⟨wa,rfl,oa.sls⟩ ⟨wb,rfl,ob.sls⟩ rfl rfl (by simp [oa.sls.plain]) (by simp [ob.sls.plain]) (by omega) (by omega) (by omega) hx.1
  have b0':=(ho.lxT (e':=a0C) (by decide) h3) _ _ _ b0
  simp [g3,oa.sls.cells,ob.sls.cells]
  simp at h1
  simp [h1]
  unfold e0t
  simp [O0q,g4,a0R (show i < 4611686018427387904 by omega)]
  exact b0T.mk ⟨by simp [g0],by simp [g2],by simp,h4 _ (f1I _) hx,b0',b0b.cast (v':=s') (by simp) h2⟩
 ·subst heq
  simp [O0r,g3]
  refine (k0J ho hx.1 (by rw [c0A];omega)).mono ?_
  rintro _ G2 ⟨⟨s2,rfl,ks⟩,hx2⟩
  replace b0:=hx2.blk b0
  replace hx:=hx.trans hx2
  have hsz:=hx.1
  have ks0:=ks.sls
  simp [g2,b0,ks0.cells,ks0.plain,hsz]
  generalize hS':Array.setIfInBounds G2 _ _=G3
  rw [a0u hS' b0]
  simp
  exact fun _=>ks.lxm (b0e hS' b0 (by decide)) (fun cs x ⟨w',q1,q2⟩=>⟨w',q1,a0T.lx2 q2 (b0e hS' b0 (by decide)) (fun b ro cs h=>b0e (e:=a0j) hS' b0 (by decide) b ro cs h)⟩)
theorem k0m {n:Int} {m:Nat} (hf:fl≤H.size) (hm:max 0 (min n 6)=(m:Int)) :
  a0U env fl T0S [.int .i64 n] H (fun r H'=>d0U H' r (b0O m m)∧Ext H H') R :=
 (g0h hf hm).mono fun r H' ⟨⟨s,h1,h2⟩,h3⟩=>⟨⟨s,h1,h2.sls⟩,h3⟩
end
section
open Go
set_option maxHeartbeats 1000000
theorem S0M {i:Nat} {s:Rat} {f:Nat→Rat}:∀ {n:Nat},rs (fun k=>(if k=i then s else 0) * f k) n=if i < n then s * f i else 0
 | 0=>by simp [rs]
 | n + 1=>by
  rw [rs,S0M]
  by_cases h1:i < n
  ·rw [f1N h1,f1K (by omega),f1N (by omega),i1x,i1j]
  ·by_cases h2:n=i
   ·subst h2;rw [f1K h1,f1N rfl,f1N (by omega),Rat.zero_add]
   ·rw [f1K h1,f1K h2,f1K (by omega),i1x,i1j]
theorem S0L {f g:Nat→Rat}:∀ {n:Nat},rs (fun i=>f i + g i) n=rs f n + rs g n
 | 0=>by rw [rs,rs,rs];grind
 | n + 1=>by rw [rs,rs,rs,S0L];grind
theorem v0b:∀ {n:Nat},rs (fun _=>0) n=0
 | 0=>rfl
 | n + 1=>by rw [rs,v0b];grind
theorem J0h {f:Nat→Nat→Rat} {M:Nat}:∀ {N:Nat},rs (fun i=>rs (fun j=>f i j) M) N=rs (fun j=>rs (fun i=>f i j) N) M
 | 0=>by simp only [rs];rw [v0b]
 | N + 1=>by simp only [rs];rw [J0h,← S0L]
theorem Y0Q {f g:Nat→Rat}:∀ {n:Nat},(∀ i,i < n→f i≤g i)→rs f n≤rs g n
 | 0,_=>Rat.le_refl
 | n + 1,h=>by
  have h1:=Y0Q (n:=n) (fun i hi=>h i (by omega))
  have h2:=h n (by omega)
  rw [rs,rs];grind
theorem V0a {f:Nat→Rat} {c:Rat} {n:Nat}:rs (fun i=>c * f i) n=c * rs f n:=by
 rw [Rat.mul_comm,← n0c];exact c0h fun i _=>Rat.mul_comm _ _
theorem r0g.none {p:LPt} {n m:Nat} {a:s0S} (h:r0g p n m a) (x:Nat→Rat):¬ ∀ r,r < m→rs (fun k=>pA p r k * x k) n≤pB p r:=by
 intro hx
 have h1:rs (fun i=>a.Y.getD i 0 * rs (fun k=>pA p i k * x k) n) m≤rs (fun i=>a.Y.getD i 0 * pB p i) m :=
  Y0Q fun i hi=>Rat.mul_le_mul_of_nonneg_left (hx i hi) (h.Y0 i hi)
 have h2:rs (fun i=>a.Y.getD i 0 * rs (fun k=>pA p i k * x k) n) m=rs (fun k=>rs (fun i=>a.Y.getD i 0 * pA p i k) m * x k) n:=by
  have e1:∀ i,i < m→a.Y.getD i 0 * rs (fun k=>pA p i k * x k) n=rs (fun k=>a.Y.getD i 0 * pA p i k * x k) n:=fun i _=>by
   rw [← V0a];exact c0h fun k _=>by grind
  rw [c0h e1,J0h]
  exact c0h fun k _=>n0c
 have h3:rs (fun k=>rs (fun i=>a.Y.getD i 0 * pA p i k) m * x k) n=0:=by
  rw [c0h (g:=fun _=>0) (fun k hk=>by rw [h.YA k hk,i1x]),v0b]
 rw [h2,h3] at h1
 have:=h.YB
 grind
theorem v0Y:∀ {rows:List (List b0x)} {d:List d0K},rows.length=d.length→(∀ e ∈ d,e.1=0)→b0V rows d=rows.map i0x∧c0W rows d=d.map fun e=>a0e (b0u e.2)
 | [],[],_,_=>⟨rfl,rfl⟩
 | [],_ :: _,h,_=>by simp at h
 | _ :: _,[],h,_=>by simp at h
 | r :: rs,e :: es,h,h0=>by
  obtain ⟨h1,h2⟩:=v0Y (rows:=rs) (d:=es) (by simpa using h) (fun e he=>h0 e (by simp [he]))
  have h3:=h0 e (by simp)
  simp only [b0V,c0W,f1N h3,h1,h2,List.map_cons]
  trivial
def bxD (lo hi:Nat→Int):Nat→List d0K
 | 0=>[]
 | i + 1=>bxD lo hi i ++ [(0,a0e (hi i:Int)),(0,a0e ((-lo i:Int):Rat))]
theorem j0U {lo hi:Nat→Int}:∀ i,(bxD lo hi i).length=2 * i
 | 0=>rfl
 | i + 1=>by rw [bxD,g1n,j0U i];simp;omega
theorem j0V {lo hi:Nat→Int} {e:d0K}:∀ {i},e ∈ bxD lo hi i→∃ k,k < i∧(e=(0,a0e (hi k:Int)) ∨ e=(0,a0e ((-lo k:Int):Rat)))
 | 0,h=>by simp [bxD] at h
 | i + 1,h=>by
  rw [bxD,g1o] at h
  rcases h with h | h
  ·obtain ⟨k,h1,h2⟩:=j0V h;exact ⟨k,by omega,h2⟩
  ·exact ⟨i,by omega,by simpa using h⟩
theorem f0q {n:Nat} {r:List b0x}:∀ {m},r ∈ b0O n m→∃ i,i < m∧(r=i0u n i 1 ∨ r=i0u n i (-1))
 | 0,h=>by simp [b0O] at h
 | m + 1,h=>by
  rw [b0O,g1o] at h
  rcases h with h | h
  ·obtain ⟨k,h1,h2⟩:=f0q h;exact ⟨k,by omega,h2⟩
  ·exact ⟨m,by omega,by simpa using h⟩
theorem J0y {α:Type} {l:List α} {a b d:α} {m k:Nat} (hl:l.length=2 * m) (hk:k < 2):(l ++ [a,b]).getD (2 * m + k) d=if k=0 then a else b:=by
 rw [f1H,g1H (by omega),hl,show 2 * m + k - 2 * m=k by omega]
 match k,hk with
 | 0,_=>rfl
 | 1,_=>rfl
theorem A0D {α:Type} {l:List α} {a b d:α} {k:Nat} (hk:k < l.length):(l ++ [a,b]).getD k d=l.getD k d:=by
 rw [f1H,g1z hk,f1H]
theorem o0b {n i k:Nat} (hk:k < 2):∀ {m:Nat},i < m→(b0O n m).getD (2 * i + k) []=i0u n i (if k=0 then 1 else -1)
 | 0,h=>by omega
 | m + 1,h=>by
  rw [b0O]
  have hl:=c0A (n:=n) m
  by_cases hi:i < m
  ·rw [A0D (by omega),o0b hk hi]
  ·have:i=m:=by omega
   subst this
   rw [J0y hl hk];split <;> rfl
theorem z0u {lo hi:Nat→Int} {i k:Nat} (hk:k < 2):∀ {m:Nat},i < m→(bxD lo hi m).getD (2 * i + k) (0,d0Q)=(0,a0e ((if k=0 then hi i else -lo i:Int):Rat))
 | 0,h=>by omega
 | m + 1,h=>by
  rw [bxD]
  have hl:=j0U (lo:=lo) (hi:=hi) m
  by_cases hi:i < m
  ·rw [A0D (by omega),z0u hk hi]
  ·have:i=m:=by omega
   subst this
   rw [J0y hl hk];split <;> rfl
theorem r0L {n i:Nat} {p:Int}:(i0u n i p).length=n:=by unfold i0u;simp
theorem A0o {n i k:Nat} {p:Int} (hk:k < n):(i0u n i p).getD k d0Q=a0e (((if k=i then p else 0:Int)):Rat):=by
 unfold i0u
 rw [f1H]
 simp [hk]
 congr 2
 by_cases h:k=i
 ·rw [f1N (by omega),f1N h]
 ·rw [f1K (by omega),f1K h]
def g0G (lo hi:Nat→Int):Nat→Bool
 | 0=>false
 | i + 1=>g0G lo hi i || decide (hi i < lo i)
theorem j0W {lo hi:Nat→Int}:∀ {n},g0G lo hi n=true ↔ ∃ i,i < n∧hi i < lo i
 | 0=>by simp [g0G]
 | n + 1=>by
  rw [g0G,i1z,j0W,g1T]
  constructor
  ·rintro (⟨i,h1,h2⟩ | h)
   ·exact ⟨i,by omega,h2⟩
   ·exact ⟨n,by omega,h⟩
  ·rintro ⟨i,h1,h2⟩
   by_cases h:i < n
   ·exact .inl ⟨i,h,h2⟩
   ·exact .inr (by have : i = n := by omega
                   subst this;exact h2)
theorem U0Z {n i:Nat} {p:Int} {f:Nat→Rat} (hi:i < n):rs (fun k=>b0u ((i0u n i p).getD k d0Q) * f k) n=(p:Rat) * f i:=by
 have h1:=S0M (i:=i) (s:=(p:Rat)) (f:=f) (n:=n)
 rw [f1N hi] at h1
 rw [← h1]
 refine c0h fun k hk=>?_
 rw [A0o hk,a0H]
 congr 1
 split <;> rfl
theorem y0o {r:List b0x} (h:∀ x ∈ r,∃ y:Rat,x=a0e y):i0x r=r:=by
 unfold i0x
 conv=>rhs;rw [← List.map_id r]
 apply g1J
 intro x hx
 obtain ⟨y,rfl⟩:=h x hx
 rw [a0H];rfl
theorem l0W {n i:Nat} {p:Int}:∀ x ∈ i0u n i p,∃ y:Rat,x=a0e y:=by
 intro x hx
 unfold i0u at hx
 obtain ⟨k,_,rfl⟩:=g1U.1 hx
 exact ⟨_,rfl⟩
section
variable {n:Nat} {lo hi:Nat→Int}
theorem t0c:b0V (b0O n n) (bxD lo hi n)=b0O n n∧c0W (b0O n n) (bxD lo hi n)=(bxD lo hi n).map (·.2):=by
 obtain ⟨h1,h2⟩:=v0Y (rows:=b0O n n) (d:=bxD lo hi n) (by rw [c0A,j0U]) (fun e he=>by
  obtain ⟨k,_,h | h⟩:=j0V he <;> rw [h])
 rw [h1,h2]
 constructor
 ·conv=>rhs;rw [← List.map_id (b0O n n)]
  apply g1J
  intro r hr
  obtain ⟨i,_,h | h⟩:=f0q hr <;> rw [h,y0o l0W] <;> rfl
 ·apply g1J
  intro e he
  obtain ⟨k,_,h | h⟩:=j0V he <;> rw [h,a0H]
theorem W0M {i k:Nat} (hk:k < 2) (hin:i < n) {f:Nat→Rat}:rs (fun c=>pA (g0A (b0O n n) n (bxD lo hi n)) (2 * i + k) c * f c) n=((if k=0 then 1 else -1:Int):Rat) * f i:=by
 rw [← U0Z hin]
 refine c0h fun c hc=>?_
 unfold pA g0A
 rw [show (LPt.mk (n:Int) (b0V (b0O n n) (bxD lo hi n)) (c0W (b0O n n) (bxD lo hi n)) (List.replicate (n:Int).toNat (a0e 0))).A=b0O n n from t0c.1,o0b hk hin]
theorem W0N {i k:Nat} (hk:k < 2) (hin:i < n):pB (g0A (b0O n n) n (bxD lo hi n)) (2 * i + k)=((if k=0 then hi i else -lo i:Int):Rat):=by
 have hl:2 * i + k < (bxD lo hi n).length:=by rw [j0U];omega
 have h1:=z0u (lo:=lo) (hi:=hi) hk hin
 unfold pB g0A
 rw [show (LPt.mk (n:Int) (b0V (b0O n n) (bxD lo hi n)) (c0W (b0O n n) (bxD lo hi n)) (List.replicate (n:Int).toNat (a0e 0))).B=(bxD lo hi n).map (·.2) from t0c.2]
 rw [b0r (by rw [h1a];exact hl),g1C]
 rw [b0r hl] at h1
 rw [h1,a0H]
theorem z0v (hn:n≤6):c0v (b0O n n) n (bxD lo hi n)=true:=by
 have hA:r0e (i0G n) (b0O n n)=true:=g1w.2 fun r hr=>by
  obtain ⟨i,_,h⟩:=f0q hr
  unfold i0G
  have hl:r.length=n:=by rcases h with h | h <;> rw [h,r0L]
  have hm:r0e l0t r=true:=g1w.2 fun x hx=>by
   obtain ⟨y,rfl⟩:∃ y:Rat,x=a0e y:=by rcases h with h | h <;> (rw [h] at hx;exact l0W x hx)
   exact f0r y
  rw [hm,hl];simp
 have hD:f0B (fun e=>!n0r e) (bxD lo hi n)=false:=by
  cases ha:f0B (fun e=>!n0r e) (bxD lo hi n) with
  | false=>rfl
  | true =>
   obtain ⟨e,h1,h2⟩:=h1Z.1 ha
   obtain ⟨k,_,h | h⟩:=j0V h1 <;> (rw [h] at h2;simp [n0r,f0r] at h2)
 unfold c0v g0j
 rw [hA,hD,c0A,j0U]
 simp
 omega
theorem K0a:f0B (fun e=>decide (e.1 < 0)) (bxD lo hi n)=false:=by
 cases ha:f0B (fun e=>decide (e.1 < 0)) (bxD lo hi n) with
 | false=>rfl
 | true =>
  obtain ⟨e,h1,h2⟩:=h1Z.1 ha
  obtain ⟨k,_,h | h⟩:=j0V h1 <;> (rw [h] at h2;simp at h2)
theorem W0O {r:Nat} (h:r < 2 * n):∃ i k,r=2 * i + k∧k < 2∧i < n:=⟨r / 2,r % 2,by omega,by omega,by omega⟩
theorem K0b {a:s0S} (h:r0g (g0A (b0O n n) n (bxD lo hi n)) n (2 * n) a ∨ x0w (g0A (b0O n n) n (bxD lo hi n)) n (2 * n) a):decide (a.kind=2)=g0G lo hi n:=by
 rcases h with h | h
 ·have h1:=h.kind
  have h2:g0G lo hi n=true:=by
   cases hb:g0G lo hi n with
   | true=>rfl
   | false =>
    refine g1g (fun r hr=>?_) (h.none (fun i=>((lo i:Int):Rat)))
    obtain ⟨i,k,rfl,hk,hin⟩:=W0O hr
    rw [W0M hk hin,W0N hk hin]
    have hle:lo i≤hi i:=by
     have h3:¬ g0G lo hi n=true:=by rw [hb];simp
     rw [j0W] at h3
     by_cases h4:hi i < lo i
     ·exact g1g ⟨i,hin,h4⟩ h3
     ·omega
    by_cases h0:k=0
    ·rw [f1N h0,f1N h0,← h1H]
     exact Rat.intCast_le_intCast.2 (by omega)
    ·rw [f1K h0,f1K h0,← h1H]
     exact Rat.intCast_le_intCast.2 (by omega)
  rw [h2,h1];rfl
 ·have h1:=h.kind
  have h2:g0G lo hi n=false:=by
   cases hb:g0G lo hi n with
   | false=>rfl
   | true =>
    obtain ⟨i,hin,hlt⟩:=j0W.1 hb
    have a1:=h.AX (2 * i + 0) (by omega)
    have a2:=h.AX (2 * i + 1) (by omega)
    rw [W0M (by omega) hin,W0N (by omega) hin] at a1 a2
    simp only [g1y] at a1
    rw [f1K (by decide),f1K (by decide)] at a2
    have hlr:((hi i:Int):Rat) < ((lo i:Int):Rat):=i1d.2 hlt
    have e1:((-1:Int):Rat) = -1:=rfl
    have e2:((1:Int):Rat)=1:=rfl
    rw [e2] at a1
    rw [e1,Rat.intCast_neg] at a2
    grind
  rw [h2,h1];rfl
end
end
section
open Go
set_option maxHeartbeats 4000000
variable {fl:Nat} {H G:a0f} {R:a0E} {v w u:Value}
theorem W0L {lo hi:Nat→Int} {n:Nat} (hlo:∀ i,-128≤lo i∧lo i < 129) (hhi:∀ i,-128≤hi i∧hi i < 129):∀ e ∈ bxD lo hi n,e0F e.2≤6∧b0s e.2.1.2∧b0s e.2.2.2:=by
 intro e he
 have h1:∀ z:Int,-129≤z→z < 130→e0F (a0e (z:Rat))≤6:=fun z h1 h2=>by
  rw [a0V,v0e]
  have:=r0R (z:=z) (k:=1) (by omega)
  omega
 obtain ⟨k,_,h | h⟩:=j0V he
 ·rw [h];have:=hhi k;exact ⟨h1 _ (by omega) (by omega),b0q _,b0q _⟩
 ·rw [h];have:=hlo k;exact ⟨h1 _ (by omega) (by omega),b0q _,b0q _⟩
theorem y0i {n m:Nat}:∀ r ∈ b0O n m,Few 6 r:=by
 intro r hr
 have h1:∀ z:Int,-1≤z→z≤1→e0F (a0e (z:Rat))≤6:=fun z h1 h2=>by
  rw [a0V,v0e]
  have:=r0R (z:=z) (k:=1) (by omega)
  omega
 obtain ⟨i,_,h | h⟩:=f0q hr
 all_goals
  rw [h]
  intro x hx
  unfold i0u at hx
  obtain ⟨j,_,rfl⟩:=g1U.1 hx
  refine ⟨h1 _ ?_ ?_,b0q _,b0q _⟩
  all_goals (split;omega;split <;> omega)
theorem i0Z {n:Int} (hf:fl≤H.size):a0U env fl V0B [.int .i64 n] H (fun r H'=>r=.int .i64 n∧Ext H H') R:=by
 refine a0i e1t hf (h:=?_)
 intro ρ h0
 simp [Z0S,N0E,N0F,h0]
theorem x0F (hf:fl≤H.size):a0U env fl X0m [] H (fun r H'=>r=.bool true∧Ext H H') R:=by
 refine a0i e1v hf (h:=?_)
 intro ρ h0
 have hx:=Ext.refl H
 simp [Z0U,N0M,N0N]
 refine (k0m (n:=1) (m:=1) hx.1 (by decide)).mono ?_
 rintro _ G2 ⟨⟨sT,rfl,kT⟩,hx2⟩
 replace hx:=hx.trans hx2
 simp
 refine (d0O (n:=3) hx.1 (by decide) (by decide)).mono ?_
 rintro _ G3 ⟨⟨s1,s2,rfl,m1,m2⟩,hx2⟩
 replace kT:=kT.mono b0w hx2
 replace hx:=hx.trans hx2
 simp
 refine (d0O (n:=-4) hx.1 (by decide) (by decide)).mono ?_
 rintro _ G4 ⟨⟨s3,s4,rfl,m3,m4⟩,hx2⟩
 replace kT:=kT.mono b0w hx2
 replace m1:=m1.mono hx2
 replace m2:=m2.mono hx2
 replace hx:=hx.trans hx2
 have d1:=m1.cells;have d2:=m2.cells;have d3:=m3.cells;have d4:=m4.cells
 have hd:g0m (G4.push (.row false b0F [.int .i64 0,.bool (a0e ((3:Int):Rat)).1.1,s1,.bool (a0e ((3:Int):Rat)).2.1,s2,.int .i64 0,.bool (a0e ((-4:Int):Rat)).1.1,s3,.bool (a0e ((-4:Int):Rat)).2.1,s4])) (.slice (some ⟨G4.size,0,none⟩) 2 2) (bxD (fun _=>4) (fun _=>3) 1):=by
  refine ⟨_,(Own.mk (fl:=0) (n:=2) (sz:=5) a0D rfl (g1I _)).sl,fun k hk=>?_⟩
  match k,hk with
  | 0,_=>exact ⟨s1,s2,rfl,m1.mono (Ext.refl G4).push,m2.mono (Ext.refl G4).push⟩
  | 1,_=>exact ⟨s3,s4,rfl,m3.mono (Ext.refl G4).push,m4.mono (Ext.refl G4).push⟩
 have hb:g0G (fun _=>4) (fun _=>3) 1=true:=by decide
 have hv3:a0e ((3:Int):Rat)=a0e 3:=rfl
 have hv4:a0e ((-4:Int):Rat)=a0e (-4):=rfl
 rw [hv3,hv4] at hd
 simp [d1,d2,d3,d4]
 refine (i0e (n:=1) (rows:=b0O 1 1) (d:=bxD (fun _=>4) (fun _=>3) 1) ⟨sT,rfl,kT.mono b0w (Ext.refl G4).push⟩ hd (by have:=hx.1;simp;omega) (fun r hr=>⟨y0i r hr,by obtain ⟨k,_,h | h⟩:=f0q hr <;> (rw [h,r0L];decide)⟩) (by rw [c0A];decide) (W0L (fun _=>⟨by decide,by decide⟩) (fun _=>⟨by decide,by decide⟩)) (by rw [j0U];decide)).mono ?_
 rintro r G5 ⟨hE,hx2⟩
 replace hx:=(hx.push).trans hx2
 unfold n0S at hE
 rw [f1K (by rw [show ((1:Int))=((1:Nat):Int) from rfl,z0v (by decide)];simp),f1K (by rw [K0a];simp)] at hE
 obtain ⟨ans,a,rfl,hA,hC,_⟩:=hE
 have hm:(b0V (b0O 1 1) (bxD (fun _=>4) (fun _=>3) 1)).length=2 * 1:=by rw [t0c.1,c0A]
 rw [hm] at hC
 have hkind:=K0b (n:=1) hC
 rw [hb] at hkind
 have hk:a.kind=2:=of_decide_eq_true hkind
 clear hC hkind
 obtain ⟨z1,z2,z3,z4,z5,rfl,l1,l2,l3,l4,l5⟩:=hA
 have e1:=l1.cells;have e2:=l2.cells
 have hsz:=hx.1
 rw [hk]
 simp [hsz,e1,e2,l1.plain,l2.plain,l3.cells,l3.plain,l4.cells,l4.plain,l5.cells,l5.plain]
 generalize hN:Array.setIfInBounds (Array.push _ _) _ _=G6
 obtain ⟨hx2,b9⟩:=new1 hN
 clear hN
 replace hx:=hx.trans hx2
 simp [N0O,b9]
 refine (i0Z hx.1).mono ?_
 rintro _ G7 ⟨rfl,hx2⟩
 simp
theorem d0F {x:b0x} (h:b0X H v x) (hf:fl≤H.size) (hl:e0F x < 67108864):a0U env fl x0O [v] H (fun r H'=>r=.int .i64 (v0C (b0u x) 0)∧Ext H H') R:=by
 obtain ⟨s1,s2,rfl,k1,k2⟩:=h
 refine a0i e1p hf (h:=?_)
 intro ρ h0
 simp [Z0O,N0q,h0,k1.cells,k2.cells]
 generalize hG:Array.push H _=G
 obtain ⟨hx,b0⟩:=g0B hG
 simp [N0r,b0]
 refine (d0o (b:=d0Q) ⟨s1,s2,rfl,k1.mono hx,k2.mono hx⟩ ⟨_,_,rfl,Lim.nil,Lim.nil⟩ hx.1 hl (by decide)).mono ?_
 rintro _ G2 ⟨rfl,hx2⟩
 simp [d0q]
def n0M (a:List b0x) (t:b0x) (b:List b0x) (n:Nat):List b0x:=(List.range n).map fun i=>a0e (b0u (a.getD i d0Q) + b0u t * b0u (b.getD i d0Q))
theorem y0z {a b:List b0x} {t:b0x} {i:Nat} (h1:i < a.length) (h2:i < b.length):n0M a t b (i + 1)=n0M a t b i ++ [a0e (b0u a[i] + b0u t * b0u b[i])]:=by
 unfold n0M
 rw [i1H,i1E,List.map_singleton,b0r h1,b0r h2]
theorem B0d {a b:List b0x} {t:b0x} {n:Nat}:(n0M a t b n).length=n:=by simp [n0M]
theorem s0h {S:Nat} {a b:List b0x} {t:b0x} (ha:a0T H u a) (kt:b0X H v t) (hb:a0T H w b) (he:a.length=b.length) (hf:fl≤H.size) (hS:S < 16777216) (fa:Few S a) (ft:Few S [t]) (fb:Few S b) (hal:a.length < 1073741824) :
  a0U env fl z0N [u,v,w] H (fun r H'=>(∃ q,r=.tuple #[q,.int .i64 0]∧b0b PR H.size H' a0b 4 q (n0M a t b a.length))∧Ext H H') R:=by
 obtain ⟨s1,s2,rfl,k1,k2⟩:=kt
 refine a0i c1c hf (h:=?_)
 intro ρ h0
 have hb':=hb.slen
 rw [← he] at hb'
 have ft:=ft t (by simp)
 simp [L0o,C0d,C0e,C0f,C0g,h0,ha.slen,hb',k1.cells,k2.cells]
 generalize hG:Array.push H _=G0
 obtain ⟨hx0,b0⟩:=g0B hG
 clear hG
 refine c0l (fun i ρ G=>ρ 0=u∧ρ 2=w∧ρ 4=.pointer (some ⟨H.size,0,none⟩)∧ρ 9=.int .i64 (i:Int)∧Ext G0 G∧(∀ b,slB (ρ 8)=some b→G0.size≤b)∧b0b PR H.size G a0b 4 (ρ 8) (n0M a t b i)) a.length (by decide) ⟨by simp [h0],by simp [h0],by simp,by simp,Ext.refl G0,by simp [slB],by simpa [n0M] using b0b.nil⟩ ?_
 clear h0 ρ
 rintro i ρ G hi1 ⟨g0,g2,g4,g9,hy,nd,ho⟩
 obtain ⟨s,g8⟩:∃ s,ρ 8=s:=⟨_,rfl⟩
 rw [g8] at ho nd
 have hx:=hx0.trans hy
 have ka:=ha.mono a0t hx
 simp [C0h,g0,g9,ka.slen]
 refine d0f.mk (by simp) (fun hi=>?_) (fun heq=>?_)
 ·have hib:i < b.length:=by omega
  have kb:=hb.mono a0t hx
  obtain ⟨wa,hla,k3⟩:=a0T.load ka hi
  obtain ⟨wb,hlb,k4⟩:=a0T.load kb hib
  have b1:=hy.blk b0
  have fai:=fa _ (f1Q hi)
  have fbi:=fb _ (f1Q hib)
  refine a0G ?_
  simp [C0i,g0,g2,g4,g8,g9,ka.ia hi,kb.ia hib,hla,hlb,b1]
  refine (i0l ⟨s1,s2,rfl,k1.mono hx,k2.mono hx⟩ k4 (by have:=hx.1;omega) (by omega) (by omega)).mono ?_
  rintro wm G2 ⟨km,hx2⟩
  have hsm:=i0J (b0u t) (b0u b[i])
  have hv1:=b0N ft.2.1 ft.2.2
  have hv2:=b0N fbi.2.1 fbi.2.2
  replace hx:=hx.trans hx2
  simp
  refine (i0j (k3.mono hx2) km hx.1 (by omega) (by rw [a0V];omega)).mono ?_
  rintro _ G3 ⟨⟨s3,s4,rfl,k5,k6⟩,hx3⟩
  rw [a0H] at k5 k6 ⊢
  replace hx:=hx.trans hx3
  replace ho:=(ho.mono a0t hx2).mono a0t hx3
  replace hy:=(hy.trans hx2).trans hx3
  obtain ⟨s',G4,a1,a2,a3,a4⟩:=b0b.app (P:=PR) (sz:=4) (e:=a0b) (by decide) (fun G' cs x _ hl h=>b0X.lx h hl) ho (e2:=a0b) (c:=1) (bytes:=64) ⟨s3,s4,rfl,k5,k6⟩ rfl (by simp [k5.plain,k6.plain]) (by rw [B0d];omega) (by omega) (by omega) hx.1
  obtain ⟨_,_,hfr⟩:=d0M (by decide) a1
  have nd':∀ b,slB s' = some b→G0.size≤b:=fun b hb=>by
   rw [hfr] at hb;simp [slB] at hb;have:=hy.1;omega
  have d1:=k5.cells;have d2:=k6.cells
  simp [d1,d2,g8,a1]
  unfold e0t
  simp [C0j,g9,a0R (show i < 4611686018427387904 by omega)]
  exact b0T.mk ⟨by simp [g0],by simp [g2],by simp [g4],by simp,p0x hy a3 nd,by simpa using nd',by rw [y0z hi hib];exact b0b.cast (v':=s') (by simp) a2⟩
 ·subst heq
  simp [C0k,g8]
  exact fun _=>ho
def h0p (A:List (List b0x)) (x:List b0x) (i:Nat):List b0x:=(List.range i).map fun r=>a0e (f0D (A.getD r []) x x.length)
theorem v0f {A:List (List b0x)} {x:List b0x} {i:Nat} (h:i < A.length):h0p A x (i + 1)=h0p A x i ++ [a0e (f0D A[i] x x.length)]:=by
 unfold h0p
 rw [i1H,i1E,List.map_singleton,b0r h]
theorem k0w {A:List (List b0x)} {x:List b0x} {n:Nat}:(h0p A x n).length=n:=by simp [h0p]
theorem q0g {S:Nat} {A:List (List b0x)} {x:List b0x} (hA:d0v H v A) (hxv:a0T H w x) (hf:fl≤H.size) (he:∀ r ∈ A,r.length=x.length) (fA:∀ r ∈ A,Few S r) (fx:Few S x) (hS:(x.length + 1) * (2 * S + 3) + 1 < 67108864) (hAl:A.length < 1073741824) :
  a0U env fl V0I [v,w] H (fun r H'=>(∃ q,r=.tuple #[q,.int .i64 0]∧a0T H' q (h0p A x A.length))∧Ext H H') R:=by
 refine a0i e1N hf (h:=?_)
 intro ρ h0
 simp [a1m,P0W,P0X,P0Y,h0]
 refine c0l (fun i ρ G=>ρ 0=v∧ρ 1=w∧ρ 7=.int .i64 (i:Int)∧Ext H G∧b0b PR H.size G a0b 4 (ρ 6) (h0p A x i)) A.length (by decide) ⟨by simp [h0],by simp [h0],by simp,Ext.refl H,by simpa [h0p] using b0b.nil⟩ ?_
 clear h0 ρ
 rintro i ρ G hi1 ⟨g0,g1,g7,hx,ho⟩
 obtain ⟨s,g6⟩:∃ s,ρ 6=s:=⟨_,rfl⟩
 rw [g6] at ho
 have kA:=hA.mono b0w hx
 simp [P0Z,g0,g7,kA.slen]
 refine d0f.mk (by simp) (fun hi=>?_) (fun heq=>?_)
 ·obtain ⟨wr,hlr,kr⟩:=d0v.load kA hi
  have hm:=f1Q hi
  have hrl:=he _ hm
  simp [Q0a,g0,g1,g7,kA.ia hi,hlr]
  refine (f0X kr (hxv.mono a0t hx) hx.1 hrl (fA _ hm) fx (by rw [hrl];exact hS)).mono ?_
  rintro _ G2 ⟨⟨_,rfl,s1,s2,rfl,k1,k2⟩,hx2⟩
  rw [hrl] at k1 k2
  replace ho:=ho.mono a0t hx2
  replace hx:=hx.trans hx2
  rw [hrl]
  have d1:=k1.cells;have d2:=k2.cells
  have hsz:=hx.1
  simp [d1,d2,k1.plain,k2.plain,hsz]
  generalize hN:Array.setIfInBounds (Array.push _ _) _ _=G3
  obtain ⟨hx3,b8⟩:=new1 hN
  clear hN
  replace ho:=ho.mono a0t hx3
  replace hx:=hx.trans hx3
  replace k1:=k1.mono hx3
  replace k2:=k2.mono hx3
  obtain ⟨P,hP⟩:∃ P,P=G2.size:=⟨_,rfl⟩
  rw [← hP] at b8 ⊢
  obtain ⟨s',G4,a1,a2,a3,a4⟩:=b0b.app (P:=PR) (sz:=4) (e:=a0b) (by decide) (fun G' cs x _ hl h=>b0X.lx h hl) ho (e2:=a0b) (c:=1) (bytes:=64) ⟨s1,s2,rfl,k1,k2⟩ rfl (by simp [k1.plain,k2.plain]) (by rw [k0w];omega) (by omega) (by omega) hx.1
  simp [Q0b,Q0c,b8,g6,d1,d2,a1]
  unfold e0t
  simp [Q0d,g7,a0R (show i < 4611686018427387904 by omega)]
  exact b0T.mk ⟨by simp [g0],by simp [g1],by simp,a4 _ (f1I _) hx,by rw [v0f hi];exact b0b.cast (v':=s') (by simp) a2⟩
 ·subst heq
  simp [Q0e,g6]
  exact fun _=>ho.sls
def g0O (y:List b0x) (A:List (List b0x)) (n i:Nat):List b0x:=(List.range n).map fun k=>a0e (rs (fun r=>b0u (y.getD r d0Q) * b0u ((A.getD r []).getD k d0Q)) i)
theorem c0Q {y:List b0x} {A:List (List b0x)} {n i:Nat}:(g0O y A n i).length=n:=by simp [g0O]
theorem y0j {y:List b0x} {A:List (List b0x)} {n i:Nat} (h1:i < y.length) (h2:i < A.length):n0M (g0O y A n i) y[i] A[i] n=g0O y A n (i + 1):=by
 unfold n0M
 refine g1J fun k hk=>?_
 have hk:=g1K.1 hk
 have e:(g0O y A n i).getD k d0Q=a0e (rs (fun r=>b0u (y.getD r d0Q) * b0u ((A.getD r []).getD k d0Q)) i):=by
  rw [b0r (by rw [c0Q];exact hk)];simp [g0O]
 rw [e,a0H,rs,b0r (l:=y) h1,b0r (l:=A) h2]
theorem S0S {f:Nat→Rat} {K:Nat} (h:∀ i,szR (f i)≤K):∀ n,szR (rs f n)≤n * (K + 1) + 1
 | 0=>by rw [rs,e0o];omega
 | n + 1=>by
  have h1:=S0S h n
  have h2:=J0s (rs f n) (f n)
  have h3:=h n
  rw [rs,g1e];omega
theorem v0K {S:Nat} {l:List b0x} (h:Few S l) (k:Nat):szR (b0u (l.getD k d0Q))≤max S 1:=by
 by_cases hk:k < l.length
 ·rw [b0r hk]
  have h1:=h _ (f1Q hk)
  have:=b0N h1.2.1 h1.2.2
  omega
 ·rw [f1H,f1T (by omega)]
  show szR (b0u d0Q)≤_
  rw [d0q,e0o];omega
theorem r0N {S:Nat} {y:List b0x} {A:List (List b0x)} {n i:Nat} (hS:1≤S) (fy:Few S y) (fA:∀ r ∈ A,Few S r):Few (i * (2 * S + 1) + 1) (g0O y A n i):=by
 intro x hx
 obtain ⟨k,_,rfl⟩:=g1U.1 hx
 refine ⟨?_,b0q _,b0q _⟩
 rw [a0V]
 refine S0S (K:=2 * S) (fun r=>?_) i
 have h1:=v0K fy r
 have h2:szR (b0u ((A.getD r []).getD k d0Q))≤max S 1:=by
  by_cases hr:r < A.length
  ·rw [b0r (l:=A) hr];exact v0K (fA _ (f1Q hr)) k
  ·have:A.getD r []=[]:=by rw [f1H,f1T (by omega)];rfl
   rw [this];show szR (b0u d0Q)≤_;rw [d0q,e0o];omega
 have h3:=i0J (b0u (y.getD r d0Q)) (b0u ((A.getD r []).getD k d0Q))
 omega
theorem Few.up {S S':Nat} {l:List b0x} (h:Few S l) (hS:S≤S'):Few S' l:=fun x hx=>⟨f1Y (h x hx).1 hS,(h x hx).2⟩
theorem s0g {S n:Nat} {y:List b0x} {A:List (List b0x)} (hy:a0T H u y) (hA:d0v H v A) (hf:fl≤H.size) (hl:y.length=A.length) (hr:∀ r ∈ A,r.length=n) (hS1:1≤S) (fy:Few S y) (fA:∀ r ∈ A,Few S r) (hn:n≤1000) (hS:(A.length + 1) * (2 * S + 1) + 1 < 16777216) :
  a0U env fl X0B [u,v,.int .i64 (n:Int)] H (fun r H'=>(∃ q,r=.tuple #[q,.int .i64 0]∧a0T H' q (g0O y A n A.length))∧Ext H H') R:=by
 refine a0i f1f hf (h:=?_)
 intro ρ h0
 have hAl:=hA.slen
 have hyl:=hy.slen
 rw [hl] at hyl
 have hn1:¬ (n:Int) < 0:=by omega
 have hn2:¬ 1000 < (n:Int):=by omega
 have hlA:A.length < 16777216:=by
  have:(A.length + 1) * 1≤(A.length + 1) * (2 * S + 1):=g1l _ (by omega)
  omega
 simp [a1E,R0v,R0w,R0x,R0y,h0,hAl,hyl,hn1,hn2]
 refine c0l (fun i ρ G=>ρ 0=u∧ρ 1=v∧ρ 2=.int .i64 (n:Int)∧ρ 9=.int .i64 (i:Int)∧Ext H G∧b0b PR H.size G a0b 4 (ρ 8) (List.replicate i (a0e 0))) n (by decide) ⟨by simp [h0],by simp [h0],by simp [h0],by simp,Ext.refl H,by simpa using b0b.nil⟩ ?_
 clear h0 ρ
 rintro i ρ G hi1 ⟨g0,g1,g2,g9,hx,ho⟩
 obtain ⟨s,g8⟩:∃ s,ρ 8=s:=⟨_,rfl⟩
 rw [g8] at ho
 simp [R0z,g2,g9]
 refine d0f.mk (by simp) (fun hi=>?_) (fun heq=>?_)
 ·simp [R0A,g8]
  refine (d0p hx.1).mono ?_
  rintro _ G2 ⟨⟨s1,s2,rfl,k1,k2⟩,hx2⟩
  replace ho:=ho.mono a0t hx2
  replace hx:=hx.trans hx2
  obtain ⟨s',G4,a1,a2,a3,a4⟩:=b0b.app (P:=PR) (sz:=4) (e:=a0b) (by decide) (fun G' cs x _ hl h=>b0X.lx h hl) ho (e2:=a0b) (c:=1) (bytes:=64) ⟨s1,s2,rfl,k1,k2⟩ rfl (by simp [k1.plain,k2.plain]) (by simp;omega) (by omega) (by omega) hx.1
  have d1:=k1.cells;have d2:=k2.cells
  simp [g8,d1,d2,a1]
  unfold e0t
  simp [R0B,g9,a0R (show i < 4611686018427387904 by omega)]
  exact b0T.mk ⟨by simp [g0],by simp [g1],by simp [g2],by simp,a4 _ (f1I _) hx,by rw [List.replicate_succ'];exact b0b.cast (v':=s') (by simp) a2⟩
 ·subst heq
  have h00:List.replicate i (a0e 0)=g0O y A i 0:=by
   refine List.ext_getElem (by simp [c0Q]) fun k h1 h2=>?_
   simp [g0O,rs]
  rw [h00] at ho
  simp [R0C]
  refine c0l (fun j ρ G=>ρ 0=u∧ρ 1=v∧ρ 2=.int .i64 (i:Int)∧ρ 10=.int .i64 (j:Int)∧Ext H G∧a0T G (ρ 8) (g0O y A i j)) A.length (by decide) ⟨by simp [g0],by simp [g1],by simp [g2],by simp,hx,by simpa [g8] using ho.sls⟩ ?_
  clear g0 g1 g2 g8 g9 ho hx ρ
  rintro j ρ G hj1 ⟨g0,g1,g2,g10,hx,ho⟩
  obtain ⟨s,g8⟩:∃ s,ρ 8=s:=⟨_,rfl⟩
  rw [g8] at ho
  have kA:=hA.mono b0w hx
  have ky:=hy.mono a0t hx
  simp [R0D,g1,g10,kA.slen]
  refine d0f.mk (by simp) (fun hj=>?_) (fun heq=>?_)
  ·have hjy:j < y.length:=by omega
   obtain ⟨wr,hlr,kr⟩:=d0v.load kA hj
   obtain ⟨wy,hly,kyj⟩:=a0T.load ky hjy
   have hm:=f1Q hj
   have hrj:=hr _ hm
   have hsl:=kr.slen
   rw [hrj] at hsl
   have hbd:j * (2 * S + 1) + (2 * S + 1)≤(A.length + 1) * (2 * S + 1):=by
    rw [g1e];have:=f1S (2 * S + 1) (show j≤A.length by omega);omega
   have hyj:y[j] ∈ y:=f1Q hjy
   simp [I0I,g1,g2,g10,kA.ia hj,hlr,hsl]
   refine a0G ?_
   simp [I0J,g0,g1,g8,g10,kA.ia hj,ky.ia hjy,hlr,hly]
   refine (s0h (S:=j * (2 * S + 1) + S + 1) (t:=y[j]) ho kyj kr (by rw [c0Q,hrj]) hx.1 (by omega) ((r0N hS1 fy fA).up (by omega)) (fun x hx=>by rw [i1G] at hx;subst hx;exact fy.up (by omega) _ hyj) ((fA _ hm).up (by omega)) (by rw [c0Q];omega)).mono ?_
   rintro _ G2 ⟨⟨q,rfl,kq⟩,hx2⟩
   rw [c0Q,y0j hjy hj] at kq
   replace hx:=hx.trans hx2
   simp
   unfold e0t
   simp [I0K,g10,a0R (show j < 4611686018427387904 by omega)]
   exact b0T.mk ⟨by simp [g0],by simp [g1],by simp [g2],by simp,hx,by simpa using kq.sls⟩
  ·subst heq
   simp [I0L,g8]
   exact fun _=>ho
theorem j0q {p:LPt} {n:Nat} (h:LPV H v p) (hn:p.n=n) (hn2:n≤60) (hm:p.A.length≤60) (hB:p.B.length=p.A.length) (hC:p.C.length=n) (hr:∀ r ∈ p.A,r.length=n) (hf:fl≤H.size) :
  a0U env fl V0F [v] H (fun r H'=>r=.bool true∧Ext H H') R:=by
 obtain ⟨sA,sB,sC,rfl,kA,kB,kC⟩:=h
 rw [hn]
 refine a0i e1I hf (h:=?_)
 intro ρ h0
 have hAs:=kA.slen
 have hBs:=kB.slen
 have hCs:=kC.slen
 rw [hB] at hBs
 rw [hC] at hCs
 have h1:¬ (n:Int) < 0:=by omega
 have h2:¬ 60 < (n:Int):=by omega
 have h3:¬ 60 < (p.A.length:Int):=by omega
 simp [a1h,P0k,h0,kA.cells,kB.cells,kC.cells]
 generalize hG:Array.push H _=G0
 obtain ⟨hx0,b0⟩:=g0B hG
 clear hG
 simp [P0l,P0m,b0,hAs,hBs,hCs,h1,h2,h3]
 refine c0l (fun i ρ G=>ρ 1=.pointer (some ⟨H.size,0,none⟩)∧ρ 3=.int .i64 (i:Int)∧Ext G0 G) p.A.length (by decide) ⟨by simp,by simp,Ext.refl G0⟩ ?_
 clear h0 ρ
 rintro i ρ G hi1 ⟨g1,g3,hy⟩
 have b1:=hy.blk b0
 have hx:=hx0.trans hy
 have kA2:=kA.mono b0w hx
 simp [P0n,g1,g3,b1,hAs]
 refine d0f.mk (by simp) (fun hi=>?_) (fun heq=>?_)
 ·obtain ⟨wr,hlr,kr⟩:=d0v.load kA2 hi
  have hsl:=kr.slen
  rw [hr _ (f1Q hi)] at hsl
  simp
  refine a0G ?_
  simp [P0o,g1,g3,b1,kA2.ia hi,hlr,hsl]
  unfold e0t
  simp [P0p,g3,a0R (show i < 4611686018427387904 by omega)]
  exact b0T.mk ⟨by simp [g1],by simp,hy⟩
 ·subst heq
  simp [P0q]
theorem T0r {x y:Rat} (h:x≤y):¬ 0 < v0C x y:=by
 unfold v0C
 split
 ·omega
 ·rename_i h1
  rw [f1K (fun h2=>by grind)];omega
theorem g0I {x y:Rat} (h:x=y):v0C x y=0:=by
 unfold v0C;rw [f1K (by grind),f1K (by grind)]
theorem T0q {x:Rat} (h:0≤x):¬ v0C x 0 < 0:=by
 unfold v0C;rw [f1K (by grind)];split <;> omega
theorem K0f {x:Rat} (h:x < 0):v0C x 0 = -1:=by unfold v0C;rw [f1N h]
theorem n0P {S n:Nat} {p:LPt} {x:List b0x} (h:LPV H v p) (hn:p.n=n) (hn2:n≤60) (hm:p.A.length≤60) (hB:p.B.length=p.A.length) (hC:p.C.length=n) (hr:∀ r ∈ p.A,r.length=n) (hxv:a0T H w x) (hxl:x.length=n) (fA:∀ r ∈ p.A,Few S r) (fB:Few S p.B) (fx:Few S x) (hS:(n + 1) * (2 * S + 3) + 1 < 67108864)
  (hle:∀ i (h:i < p.A.length) (h':i < p.B.length),f0D p.A[i] x n≤b0u p.B[i]) (hf:fl≤H.size) :
  a0U env fl V0H [v,w] H (fun r H'=>r=.bool true∧Ext H H') R:=by
 have hp:=h
 obtain ⟨sA,sB,sC,rfl,kA,kB,kC⟩:=h
 rw [hn] at hp ⊢
 refine a0i e1K hf (h:=?_)
 intro ρ h0
 have hxs:=hxv.slen
 rw [hxl] at hxs
 simp [a1j,P0z,h0,kA.cells,kB.cells,kC.cells]
 generalize hG:Array.push H _=G0
 obtain ⟨hx,b0⟩:=g0B hG
 clear hG
 simp [P0A,b0]
 refine (j0q (p:=p) (n:=n) ⟨sA,sB,sC,by rw [hn],kA.mono b0w hx,kB.mono a0t hx,kC.mono a0t hx⟩ hn hn2 hm hB hC hr hx.1).mono ?_
 rintro _ G2 ⟨rfl,hx2⟩
 replace b0:=hx2.blk b0
 replace hx:=hx.trans hx2
 simp [h0,b0,hxs]
 simp [P0B,h0,b0]
 refine (q0g (S:=S) (kA.mono b0w hx) (hxv.mono a0t hx) hx.1 (fun r h=>by rw [hr r h,hxl]) fA fx (by rw [hxl];exact hS) (by omega)).mono ?_
 rintro _ G3 ⟨⟨q,rfl,kq⟩,hx2⟩
 replace b0:=hx2.blk b0
 replace hx:=hx.trans hx2
 simp [P0C]
 refine c0l (fun i ρ G=>ρ 2=.pointer (some ⟨H.size,0,none⟩)∧ρ 5=q∧ρ 7=.int .i64 (i:Int)∧Ext G3 G) p.A.length (by decide) ⟨by simp,by simp,by simp,Ext.refl G3⟩ ?_
 clear h0 ρ hx2
 rintro i ρ G hi1 ⟨g2,g5,g7,hy⟩
 have b1:=hy.blk b0
 have hxG:=hx.trans hy
 have kq2:=Sls.mono a0t kq hy
 have hqs:=kq2.slen
 rw [k0w] at hqs
 simp [P0D,g5,g7,hqs]
 refine d0f.mk (by simp) (fun hi=>?_) (fun heq=>?_)
 ·have kB2:=kB.mono a0t hxG
  have hib:i < p.B.length:=by omega
  have hiq:i < (h0p p.A x p.A.length).length:=by rw [k0w];exact hi
  obtain ⟨wq,hlq,kq3⟩:=a0T.load kq2 hiq
  obtain ⟨wb,hlb,kb3⟩:=a0T.load kB2 hib
  have eq:(h0p p.A x p.A.length)[i]=a0e (f0D p.A[i] x n):=by simp [h0p,hxl,hi]
  rw [eq] at kq3
  have hsz:=k0v (fA _ (f1Q hi)) fx n
  have hfb:=fB _ (f1Q hib)
  rw [g1e] at hS
  simp
  refine a0G ?_
  simp [P0E,g2,g5,g7,b1,kq2.ia hiq,hlq,kB2.ia hib,hlb]
  refine (d0o kq3 kb3 hxG.1 (by rw [a0V];omega) (by omega)).mono ?_
  rintro _ G4 ⟨rfl,hx4⟩
  rw [a0H]
  have hc:=T0r (hle i hi hib)
  simp [hc]
  unfold e0t
  simp [P0F,g7,a0R (show i < 4611686018427387904 by omega)]
  exact b0T.mk ⟨by simp [g2],by simp [g5],by simp,hy.trans hx4⟩
 ·subst heq
  simp [P0G]
theorem j0r {S n:Nat} {p:LPt} {y:List b0x} (h:LPV H v p) (hn:p.n=n) (hn2:n≤60) (hm:p.A.length≤60) (hr:∀ r ∈ p.A,r.length=n) (hyv:a0T H w y) (hyl:y.length=p.A.length) (hS1:1≤S) (fA:∀ r ∈ p.A,Few S r) (fy:Few S y) (hS:(p.A.length + 1) * (2 * S + 1) + 1 < 16777216)
  (hy0:∀ i (h:i < y.length),0≤b0u y[i]) (hf:fl≤H.size) :
  a0U env fl V0G [v,w] H (fun r H'=>(∃ q,r=.tuple #[q,.bool true]∧a0T H' q (g0O y p.A n p.A.length))∧Ext H H') R:=by
 obtain ⟨sA,sB,sC,rfl,kA,kB,kC⟩:=h
 rw [hn]
 refine a0i e1J hf (h:=?_)
 intro ρ h0
 have hAs:=kA.slen
 have hys:=hyv.slen
 rw [hyl] at hys
 have hSl:S < 16777216:=by
  have:1 * (2 * S + 1)≤(p.A.length + 1) * (2 * S + 1):=f1S _ (by omega)
  omega
 simp [a1i,P0r,h0,kA.cells,kB.cells,kC.cells]
 generalize hG:Array.push H _=G0
 obtain ⟨hx0,b0⟩:=g0B hG
 clear hG
 simp [P0s,P0t,h0,b0,hAs,hys]
 refine c0l (fun i ρ G=>ρ 1=w∧ρ 2=.pointer (some ⟨H.size,0,none⟩)∧ρ 6=.int .i64 (i:Int)∧Ext G0 G) p.A.length (by decide) ⟨by simp [h0],by simp,by simp,Ext.refl G0⟩ ?_
 clear h0 ρ
 rintro i ρ G hi1 ⟨g1,g2,g6,hy⟩
 have b1:=hy.blk b0
 have hx:=hx0.trans hy
 have ky:=hyv.mono a0t hx
 simp [P0u,g1,g6,hys]
 refine d0f.mk (by simp) (fun hi=>?_) (fun heq=>?_)
 ·have hiy:i < y.length:=by omega
  obtain ⟨wy,hly,kyi⟩:=a0T.load ky hiy
  have hfi:=fy _ (f1Q hiy)
  simp [P0v,g1,g6,ky.ia hiy,hly]
  refine (d0F kyi hx.1 (by omega)).mono ?_
  rintro _ G2 ⟨rfl,hx2⟩
  have hc:=T0q (hy0 i hiy)
  simp [hc]
  unfold e0t
  simp [P0w,g6,a0R (show i < 4611686018427387904 by omega)]
  exact b0T.mk ⟨by simp [g1],by simp [g2],by simp,hy.trans hx2⟩
 ·subst heq
  simp [P0x,g1,g2,b1]
  refine (s0g (S:=S) ky (kA.mono b0w hx) hx.1 hyl hr hS1 fy fA (by omega) hS).mono ?_
  rintro _ G2 ⟨⟨q,rfl,kq⟩,hx2⟩
  simp [P0y]
  exact fun _=>kq
theorem s0i {S:Nat} {a b:List b0x} (ha:a0T H v a) (hb:a0T H w b) (he:a.length=b.length) (fa:Few S a) (fb:Few S b) (hS:S < 67108864) (hl:a.length < 1073741824) (hq:∀ i (h:i < a.length) (h':i < b.length),b0u a[i]=b0u b[i]) (hf:fl≤H.size) :
  a0U env fl X0s [v,w] H (fun r H'=>r=.bool true∧Ext H H') R:=by
 refine a0i e1M hf (h:=?_)
 intro ρ h0
 have has:=ha.slen
 have hbs:=hb.slen
 rw [← he] at hbs
 simp [a1l,P0P,P0Q,P0R,h0,has,hbs]
 refine c0l (fun i ρ G=>ρ 0=v∧ρ 1=w∧ρ 5=.int .i64 (i:Int)∧Ext H G) a.length (by decide) ⟨by simp [h0],by simp [h0],by simp,Ext.refl H⟩ ?_
 clear h0 ρ
 rintro i ρ G hi1 ⟨g0,g1,g5,hx⟩
 simp [P0S,g0,g5,has]
 refine d0f.mk (by simp) (fun hi=>?_) (fun heq=>?_)
 ·have hib:i < b.length:=by omega
  have ka:=ha.mono a0t hx
  have kb:=hb.mono a0t hx
  obtain ⟨wa,hla,kai⟩:=a0T.load ka hi
  obtain ⟨wb,hlb,kbi⟩:=a0T.load kb hib
  have h1:=fa _ (f1Q hi)
  have h2:=fb _ (f1Q hib)
  simp
  refine a0G ?_
  simp [P0T,g0,g1,g5,ka.ia hi,kb.ia hib,hla,hlb]
  refine (d0o kai kbi hx.1 (by omega) (by omega)).mono ?_
  rintro _ G2 ⟨rfl,hx2⟩
  rw [g0I (hq i hi hib)]
  simp
  unfold e0t
  simp [P0U,g5,a0R (show i < 4611686018427387904 by omega)]
  exact b0T.mk ⟨by simp [g0],by simp [g1],by simp,hx.trans hx2⟩
 ·subst heq
  simp [P0V]
theorem j0J {l:List Rat} {k:Nat}:b0u ((l.map a0e).getD k d0Q)=l.getD k 0:=by
 by_cases hk:k < l.length
 ·rw [b0r (by simpa using hk),g1C,a0H,b0r hk]
 ·rw [f1H,f1H,f1T (by simpa using hk),f1T (by omega)];exact d0q
theorem A0i {S:Nat} {l:List Rat} (h:∀ x ∈ l,szR x≤S):Few S (l.map a0e):=o0a h
theorem q0f {n m:Nat} {p:LPt} {a:s0S} (hp:LPV H v p) (ha:z0d H w a) (ok:s0V p n m 6) (hn:n≤6) (hm:m≤40) (hc:r0g p n m a ∨ x0w p n m a) (hz:z0f a 6000) (hf:fl≤H.size) :
  a0U env fl X0l [v,w] H (fun r H'=>r=.bool true∧Ext H H') R:=by
 have hmA:=ok.pA
 have hB:=ok.pB
 rw [← hmA] at hB
 have hC:=ok.pC
 have hr:=fun r hr=>(ok.row r hr).2
 have fA:=fun r hr=>(ok.row r hr).1
 have fA':∀ r ∈ p.A,Few 6000 r:=fun r h=>(fA r h).up (by omega)
 have fY:Few 6000 (a.Y.map a0e):=A0i hz.2
 have fX:Few 6000 (a.X.map a0e):=A0i hz.1
 have fB:Few 6000 p.B:=ok.fB.up (by omega)
 have fC:Few 6000 p.C:=ok.fC.up (by omega)
 have hcl:a.Y.length=m∧∀ i,i < m→0≤a.Y.getD i 0:=by rcases hc with hc | hc <;> exact ⟨hc.Yl,hc.Y0⟩
 obtain ⟨hYl,hY0⟩:=hcl
 have hyl:(a.Y.map a0e).length=p.A.length:=by simp;omega
 have hy0:∀ i (h:i < (a.Y.map a0e).length),0≤b0u (a.Y.map a0e)[i]:=fun i h=>by
  rw [← b0r (d:=d0Q) h,j0J];exact hY0 i (by omega)
 have hlv:∀ k,rs (fun r=>b0u ((a.Y.map a0e).getD r d0Q) * b0u ((p.A.getD r []).getD k d0Q)) p.A.length=rs (fun i=>a.Y.getD i 0 * pA p i k) m:=fun k=>by
  rw [hmA];exact c0h fun i _=>by rw [j0J];rfl
 have hYB:f0D (a.Y.map a0e) p.B m=rs (fun i=>a.Y.getD i 0 * pB p i) m:=by
  rw [l0N];exact c0h fun i _=>by rw [j0J];rfl
 obtain ⟨sA,sB,sC,rfl,kA,kB,kC⟩:=hp
 obtain ⟨s1,s2,sX,sY,sR,rfl,q1,q2,qX,qY,qR⟩:=ha
 refine a0i e1u hf (h:=?_)
 intro ρ h0
 simp [Z0T,N0G,h0,kA.cells,kB.cells,kC.cells,q1.cells,q2.cells,qX.cells,qY.cells,qR.cells]
 generalize hG:Array.push (Array.push H _) _=G
 obtain ⟨hx,b2,b3⟩:=push2 hG
 clear hG
 simp [N0H,b2]
 refine (j0q (p:=p) (n:=n) ⟨sA,sB,sC,rfl,kA.mono b0w hx,kB.mono a0t hx,kC.mono a0t hx⟩ ok.pn (by omega) (by omega) hB hC hr hx.1).mono ?_
 rintro _ G2 ⟨rfl,hx2⟩
 replace b2:=hx2.blk b2
 replace b3:=hx2.blk b3
 replace hx:=hx.trans hx2
 have hlp:∀ {G':a0f},Ext H G'→LPV G' (.agg #[.int .i64 p.n,sA,sB,sC]) p:=fun h=>⟨sA,sB,sC,rfl,kA.mono b0w h,kB.mono a0t h,kC.mono a0t h⟩
 rcases hc with hc | hc
 ·simp [G0c,G0d,F0T,b3,hc.kind]
  simp [F0U,b2,b3]
  refine (j0r (S:=6000) (n:=n) (hlp hx) ok.pn (by omega) (by omega) hr (qY.mono a0t hx) hyl (by omega) fA' fY (by omega) hy0 hx.1).mono ?_
  rintro _ G3 ⟨⟨q,rfl,kq⟩,hx2⟩
  replace b2:=hx2.blk b2
  replace b3:=hx2.blk b3
  replace hx:=hx.trans hx2
  have hXs:=qX.slen
  have hRs:=qR.slen
  rw [hc.X] at hXs
  rw [hc.Ray] at hRs
  simp at hXs hRs
  simp [F0V,b3,hXs,hRs]
  refine (d0F (x:=a0e a.V) ⟨s1,s2,rfl,q1.mono hx,q2.mono hx⟩ hx.1 (by rw [hc.V,a0V,e0o];decide)).mono ?_
  rintro _ G4 ⟨rfl,hx2⟩
  rw [a0H,hc.V,g0I rfl]
  replace b2:=hx2.blk b2
  replace b3:=hx2.blk b3
  replace kq:=Sls.mono a0t kq hx2
  replace hx:=hx.trans hx2
  simp [F0W,b2,b3]
  refine (f0X (S:=6000) (qY.mono a0t hx) (kB.mono a0t hx) hx.1 (by rw [hyl,hB]) fY fB (by rw [hyl];omega)).mono ?_
  rintro _ G5 ⟨⟨_,rfl,s3,s4,rfl,k3,k4⟩,hx2⟩
  rw [hyl,hmA,hYB] at k3 k4 ⊢
  replace kq:=Sls.mono a0t kq hx2
  replace hx:=hx.trans hx2
  have hsz:=hx.1
  simp [k3.cells,k4.cells,k3.plain,k4.plain,hsz]
  generalize hN:Array.setIfInBounds (Array.push _ _) _ _=G6
  obtain ⟨hx3,b13⟩:=new1 hN
  clear hN
  replace kq:=Sls.mono a0t kq hx3
  replace hx:=hx.trans hx3
  replace k3:=k3.mono hx3
  replace k4:=k4.mono hx3
  obtain ⟨P,hP⟩:∃ P,P=G5.size:=⟨_,rfl⟩
  rw [← hP] at b13 ⊢
  simp [F0X]
  refine c0l (fun i ρ G=>ρ 11=q∧ρ 13=.pointer (some ⟨P,0,none⟩)∧ρ 15=.int .i64 (i:Int)∧Ext G6 G) n (by decide) ⟨by simp,by simp,by simp,Ext.refl G6⟩ ?_
  clear h0 ρ hx2 hx3
  rintro i ρ G hi1 ⟨g11,g13,g15,hy⟩
  have kq2:=Sls.mono a0t kq hy
  have hqs:=kq2.slen
  rw [c0Q] at hqs
  have hxG:=hx.trans hy
  simp [F0Y,g11,g15,hqs]
  refine d0f.mk (by simp) (fun hi=>?_) (fun heq=>?_)
  ·have hiq:i < (g0O (a.Y.map a0e) p.A n p.A.length).length:=by rw [c0Q];exact hi
   obtain ⟨wq,hlq,kqi⟩:=a0T.load kq2 hiq
   have e0:(g0O (a.Y.map a0e) p.A n p.A.length)[i]=a0e 0:=by
    rw [← hc.YA i hi,← hlv i];simp [g0O]
   rw [e0] at kqi
   simp [F0Z,g11,g15,kq2.ia hiq,hlq]
   refine (d0F kqi hxG.1 (by rw [a0V,e0o];decide)).mono ?_
   rintro _ G7 ⟨rfl,hx7⟩
   rw [a0H,g0I rfl]
   simp
   unfold e0t
   simp [G0a,g15,a0R (show i < 4611686018427387904 by omega)]
   exact b0T.mk ⟨by simp [g11],by simp [g13],by simp,hy.trans hx7⟩
  ·subst heq
   have b14:=hy.blk b13
   simp [G0b,g13,b14]
   refine (d0F ⟨s3,s4,rfl,k3.mono hy,k4.mono hy⟩ hxG.1 (by
    have:=k0v fY fB m
    rw [a0V,← hYB];omega)).mono ?_
   rintro _ G7 ⟨rfl,hx7⟩
   rw [a0H,K0f hc.YB]
   simp
 ·have hXl:=hc.Xl
  have hVs:a.V=f0D p.C (a.X.map a0e) n:=by
   rw [hc.V,l0N];exact c0h fun i _=>by rw [j0J];rfl
  have hVz:szR a.V≤n * (2 * 6000 + 3) + 1:=by rw [hVs];exact k0v fC fX n
  simp [G0c,G0d,b3,hc.kind]
  simp [N0I,b2,b3]
  refine (j0r (S:=6000) (n:=n) (hlp hx) ok.pn (by omega) (by omega) hr (qY.mono a0t hx) hyl (by omega) fA' fY (by omega) hy0 hx.1).mono ?_
  rintro _ G3 ⟨⟨q,rfl,kq⟩,hx2⟩
  replace b2:=hx2.blk b2
  replace b3:=hx2.blk b3
  replace hx:=hx.trans hx2
  have hRs:=qR.slen
  rw [hc.Ray] at hRs
  simp at hRs
  simp [N0J,b2,b3]
  refine (n0P (S:=6000) (n:=n) (hlp hx) ok.pn (by omega) (by omega) hB hC hr (qX.mono a0t hx) (by simpa using hXl) fA' fB fX (by omega) (fun i h h'=>?_) hx.1).mono ?_
  ·rw [l0N]
   have:=hc.AX i (by omega)
   unfold pB at this
   rw [b0r h'] at this
   have e:∀ k,b0u (p.A[i].getD k d0Q)=pA p i k:=fun k=>by unfold pA;rw [b0r (l:=p.A) h]
   rw [c0h (g:=fun k=>pA p i k * a.X.getD k 0) fun k _=>by rw [j0J,e]]
   exact this
  rintro _ G4 ⟨rfl,hx2⟩
  replace b2:=hx2.blk b2
  replace b3:=hx2.blk b3
  replace kq:=Sls.mono a0t kq hx2
  replace hx:=hx.trans hx2
  simp [b3,hRs]
  simp [N0K,b2,b3]
  refine (f0X (S:=6000) (kC.mono a0t hx) (qX.mono a0t hx) hx.1 (by rw [hC];simpa using hXl.symm) fC fX (by rw [hC];omega)).mono ?_
  rintro _ G5 ⟨⟨_,rfl,s3,s4,rfl,k3,k4⟩,hx2⟩
  rw [hC,← hVs] at k3 k4 ⊢
  replace b2:=hx2.blk b2
  replace b3:=hx2.blk b3
  replace kq:=Sls.mono a0t kq hx2
  replace hx:=hx.trans hx2
  have hsz:=hx.1
  have d3:=k3.cells;have d4:=k4.cells
  simp [d3,d4,k3.plain,k4.plain,hsz]
  generalize hN:Array.setIfInBounds (Array.push _ _) _ _=G6
  obtain ⟨hx2,b7⟩:=new1 hN
  clear hN
  replace b2:=hx2.blk b2
  replace b3:=hx2.blk b3
  replace kq:=Sls.mono a0t kq hx2
  replace hx:=hx.trans hx2
  replace k3:=k3.mono hx2
  replace k4:=k4.mono hx2
  obtain ⟨P,hP⟩:∃ P,P=G5.size:=⟨_,rfl⟩
  rw [← hP] at b7 ⊢
  simp [N0L,b2,b3]
  refine (f0X (S:=6000) (qY.mono a0t hx) (kB.mono a0t hx) hx.1 (by rw [hyl,hB]) fY fB (by rw [hyl];omega)).mono ?_
  rintro _ G7 ⟨⟨_,rfl,s5,s6,rfl,k5,k6⟩,hx2⟩
  rw [hyl,hmA,hYB,hc.YB] at k5 k6 ⊢
  replace b2:=hx2.blk b2
  replace b3:=hx2.blk b3
  replace b7:=hx2.blk b7
  replace kq:=Sls.mono a0t kq hx2
  replace hx:=hx.trans hx2
  replace k3:=k3.mono hx2
  replace k4:=k4.mono hx2
  have hsz:=hx.1
  have d5:=k5.cells;have d6:=k6.cells
  simp [d5,d6,k5.plain,k6.plain,hsz]
  generalize hN:Array.setIfInBounds (Array.push _ _) _ _=G8
  obtain ⟨hx2,b9⟩:=new1 hN
  clear hN
  replace b2:=hx2.blk b2
  replace b3:=hx2.blk b3
  replace b7:=hx2.blk b7
  replace kq:=Sls.mono a0t kq hx2
  replace hx:=hx.trans hx2
  replace k3:=k3.mono hx2
  replace k4:=k4.mono hx2
  replace k5:=k5.mono hx2
  replace k6:=k6.mono hx2
  obtain ⟨P2,hP2⟩:∃ P,P=G7.size:=⟨_,rfl⟩
  rw [← hP2] at b9 ⊢
  simp [F0S,b2]
  refine (s0i (S:=600000) kq (kC.mono a0t hx) (by rw [c0Q,hC]) ((r0N (by omega) fY fA').up (by omega)) (fC.up (by omega)) (by omega) (by rw [c0Q];omega) (fun i h h'=>?_) hx.1).mono ?_
  ·rw [c0Q] at h
   have e0:(g0O (a.Y.map a0e) p.A n p.A.length)[i]'(by rw [c0Q];exact h)=a0e (b0u p.C[i]):=by
    have e1:=hc.YA i h
    rw [← hlv i] at e1
    unfold pC at e1
    rw [b0r h'] at e1
    rw [← e1];simp [g0O]
   rw [e0,a0H]
  rintro _ G9 ⟨rfl,hx2⟩
  replace b3:=hx2.blk b3
  replace b7:=hx2.blk b7
  replace b9:=hx2.blk b9
  replace hx:=hx.trans hx2
  replace k3:=k3.mono hx2
  replace k4:=k4.mono hx2
  replace k5:=k5.mono hx2
  replace k6:=k6.mono hx2
  have hlz:e0F (a0e a.V) < 67108864:=by rw [a0V];omega
  simp [b3,b7]
  refine (d0o (a:=a0e a.V) (b:=a0e a.V) ⟨s3,s4,rfl,k3,k4⟩ ⟨s1,s2,rfl,q1.mono hx,q2.mono hx⟩ hx.1 hlz hlz).mono ?_
  rintro _ G10 ⟨rfl,hx2⟩
  replace b3:=hx2.blk b3
  replace b9:=hx2.blk b9
  replace hx:=hx.trans hx2
  rw [g0I rfl]
  simp [b3,b9]
  refine (d0o (a:=a0e a.V) (b:=a0e a.V) ⟨s5,s6,rfl,k5.mono hx2,k6.mono hx2⟩ ⟨s1,s2,rfl,q1.mono hx,q2.mono hx⟩ hx.1 hlz hlz).mono ?_
  rintro _ G11 ⟨rfl,hx2⟩
  rw [g0I rfl]
  simp
def e1f (n i k:Nat):List b0x:=(List.range n).map fun (j:Nat)=>a0e ((if (j:Int)=(k:Int) then -1 else if (j:Int)=(i:Int) then 1 else 0:Int):Rat)
def zk (n i:Nat):Nat→List (List b0x)
 | 0=>[]
 | k + 1=>zk n i k ++ if k=i then [] else [e1f n i k]
def zi (n:Nat):Nat→List (List b0x)
 | 0=>[]
 | i + 1=>zi n i ++ zk n i n
def d0B (n:Nat):List (List b0x):=b0O n n ++ zi n n
theorem J0D {n i:Nat}:∀ k,(zk n i k).length≤k
 | 0=>f1I _
 | k + 1=>by rw [zk,g1n];have:=J0D (n:=n) (i:=i) k;split <;> simp <;> omega
theorem J0C {n:Nat}:∀ i,(zi n i).length≤i * n
 | 0=>by simp [zi]
 | i + 1=>by rw [zi,g1n,g1e];have:=J0C (n:=n) i;have:=J0D (n:=n) (i:=i) n;omega
theorem d1t (a:Value):J0H false 0 1 (.agg #[a])=some a:=rfl
theorem q0d {m:Nat} (hf:fl≤H.size) (hm:m≤5) :
  a0U env fl X0j [.int .i64 (m:Int)] H (fun r H'=>d0U H' r (d0B m)∧Ext H H') R:=by
 refine a0i e1o hf (h:=?_)
 intro ρ h0
 have hmm:max 0 (min (m:Int) 6)=(m:Int):=by omega
 simp [Z0N,N0i,N0j,h0]
 generalize hN:Array.push H _=G
 obtain ⟨hx,b0⟩:=g0B hN
 clear hN
 refine (i0i hx.1).mono ?_
 rintro _ G2 ⟨rfl,hx2⟩
 rw [hmm]
 replace b0:=hx2.blk b0
 replace hx:=hx.trans hx2
 simp [N0k]
 refine (g0h (m:=m) hx.1 hmm).mono ?_
 rintro _ G3 ⟨⟨sT,rfl,kT⟩,hx2⟩
 replace kT:=kT.low hx.1
 replace b0:=hx2.blk b0
 replace hx:=hx.trans hx2
 simp [d1t,N0l]
 refine c0l (fun i ρ G=>ρ 0=.int .i64 (m:Int)∧ρ 2=.pointer (some ⟨H.size,0,none⟩)∧ρ 4=.int .i64 (i:Int)∧Ext H G∧a0f.blk G H.size=.row false a0C [.slice none 0 0]∧b0b PS H.size G a0A 1 (ρ 3) (b0O m m ++ zi m i)) m (by decide) ⟨by simp,by simp,by simp,hx,b0,by simpa [zi] using kT⟩ ?_
 clear h0 ρ hx b0 hx2 kT
 rintro i ρ G hi1 ⟨g0,g2,g4,hx,b0,ho⟩
 simp [N0m,g0,g4]
 refine d0f.mk (by simp) (fun hi=>?_) (fun heq=>?_)
 ·simp [N0n]
  refine t0a (fun k ρ G=>ρ 0=.int .i64 (m:Int)∧ρ 2=.pointer (some ⟨H.size,0,none⟩)∧ρ 4=.int .i64 (i:Int)∧ρ 5=.int .i64 (k:Int)∧Ext H G∧a0f.blk G H.size=.row false a0C [.slice none 0 0]∧b0b PS H.size G a0A 1 (ρ 3) (b0O m m ++ zi m i ++ zk m i k)) m (by decide) ⟨by simp [g0],by simp [g2],by simp [g4],by simp,hx,b0,by simpa [zk] using ho⟩ ?_
  clear g0 g2 g4 hx b0 ho ρ
  rintro k ρ G hk1 ⟨g0,g2,g4,g5,hx,b0,ho⟩
  obtain ⟨s,g3⟩:∃ s,ρ 3=s:=⟨_,rfl⟩
  rw [g3] at ho
  simp [N0o,g0,g5]
  refine d0f.mk (by simp) (fun hk=>?_) (fun heq=>?_)
  ·by_cases hki:k=i
   ·subst hki
    simp [B0T,g4,g5]
    unfold e0t
    simp [B0U,g5,a0R (show k < 4611686018427387904 by omega)]
    exact b0T.mk ⟨by simp [g0],by simp [g2],by simp [g4],by simp,hx,b0,b0b.cast (v':=s) (by simp [g3]) (by simp only [zk,g1y,i1C,h1T] at ho ⊢;exact ho)⟩
   ·have hki':¬ (k:Int)=(i:Int):=by omega
    simp [B0T,g4,g5,hki,hki']
    simp [N0p,g0,g3,g4,g5]
    refine (h0d (n:=m) (i:=(i:Int)) (p:=1) (k:=(k:Int)) (q:=-1) hx.1 (by omega) (by decide) (by decide) (by decide) (by decide)).mono ?_
    rintro wa G2 ⟨oa,hx2⟩
    replace b0:=hx2.blk b0
    replace ho:=ho.mono b0w hx2
    replace hx:=hx.trans hx2
    have hl1:=c0A (n:=m) m
    have hl2:=J0C (n:=m) i
    have hl3:=J0D (n:=m) (i:=i) k
    have hl4:i * m≤5 * 5:=g1B (by omega) hm
    obtain ⟨s',G4,h1,h2,h3,h4⟩:=b0b.app (P:=PS) (sz:=1) (e:=a0A) (by decide) (fun G' cs x hxb hl ⟨w',q1,q2⟩=>⟨w',q1,a0T.lx2 q2 (ho.lxT (by decide) hxb) hl⟩) ho (e2:=a0A) (c:=1) (bytes:=24) (new:=[wa]) (x:=e1f m i k) ⟨wa,rfl,oa.sls⟩ rfl (by simp [oa.sls.plain]) (by simp only [g1n];omega) (by omega) (by omega) hx.1
    have b0':=(ho.lxT (e':=a0C) (by decide) h3) _ _ _ b0
    simp [g3,oa.sls.cells,h1]
    unfold e0t
    simp [B0U,g5,a0R (show k < 4611686018427387904 by omega)]
    exact b0T.mk ⟨by simp [g0],by simp [g2],by simp [g4],by simp,h4 _ (f1I _) hx,b0',b0b.cast (v':=s') (by simp) (by simp only [zk,f1K hki,h1T] at h2 ⊢;exact h2)⟩
  ·subst heq
   unfold e0t
   simp [B0R,g4,a0R (show i < 4611686018427387904 by omega)]
   exact b0T.mk ⟨by simp [g0],by simp [g2],by simp,hx,b0,b0b.cast (v':=s) (by simp [g3]) (by rw [zi,← h1T];exact ho)⟩
 ·subst heq
  have hl1:=c0A (n:=i) i
  have hl2:=J0C (n:=i) i
  have hl4:i * i≤5 * 5:=g1B hm hm
  obtain ⟨s,g3⟩:∃ s,ρ 3=s:=⟨_,rfl⟩
  rw [g3] at ho
  simp [B0S,g3]
  refine (k0J ho hx.1 (by rw [g1n];omega)).mono ?_
  rintro _ G2 ⟨⟨s2,rfl,ks⟩,hx2⟩
  replace b0:=hx2.blk b0
  replace hx:=hx.trans hx2
  have hsz:=hx.1
  have ks0:d0v G2 s2 _:=ks.sls
  simp [g2,b0,ks0.cells,ks0.plain,hsz]
  generalize hS':Array.setIfInBounds G2 _ _=G3
  rw [a0u hS' b0]
  simp
  exact fun _=>⟨s2,rfl,d0v.lx3 ks0 (b0e hS' b0 (by decide)) (b0e hS' b0 (by decide)) (fun b ro cs h=>b0e (e:=a0j) hS' b0 (by decide) b ro cs h)⟩
end
section
open Go
set_option maxHeartbeats 1000000
variable {fl:Nat} {H G:a0f} {R:a0E} {u v w z:Value}
theorem a0T.limR {l:List b0x} (h:a0T H v l) (k:f0B A0w l=false):Few 6 l:=by
 intro y hy
 obtain ⟨i,hi,rfl⟩:=h1s hy
 obtain ⟨w,_,s,t,_,h1,h2⟩:=a0T.load h hi
 have:A0w l[i]=false:=by
  cases hl:A0w l[i] with
  | false=>rfl
  | true=>exact g1g (h1Z.2 ⟨_,hy,hl⟩) (by unfold f0B at k;rw [k];decide)
 unfold A0w at this
 simp at this
 exact ⟨by unfold e0F;omega,h1.ok,h2.ok⟩
theorem d0v.few {l:List (List b0x)} (h:d0v H v l) (k:d1u l):∀ r ∈ l,Few 6 r:=by
 intro r hr
 obtain ⟨i,hi,rfl⟩:=h1s hr
 obtain ⟨w,_,hk⟩:=d0v.load h hi
 exact a0T.limR hk (k.2 _ hr).2
end
section
open Go
set_option maxHeartbeats 1000000
def zT:List (List Int):=[[1,0,0],[-1,0,0],[0,1,0],[0,-1,0],[0,0,1],[0,0,-1],[1,-1,0],[1,0,-1],[-1,1,0],[0,1,-1],[-1,0,1],[0,-1,1]]
def zv (i k:Nat):Int:=(zT.getD i []).getD k 0
theorem n0m:d0B 3=zT.map fun r=>r.map fun z=>a0e ((z:Int):Rat):=by rfl
theorem h0s:(d0B 3).length=12:=by rw [n0m];rfl
theorem l0z:∀ r ∈ d0B 3,r.length=3:=by
 rw [n0m]
 intro r hr
 obtain ⟨q,hq,rfl⟩:=g1U.1 hr
 rw [h1a]
 exact (by decide:∀ q ∈ zT,q.length=3) q hq
theorem x0v {i k:Nat} (hi:i < (d0B 3).length) (hk:k < (d0B 3)[i].length):(d0B 3)[i][k]=a0e ((zv i k:Int):Rat):=by
 have h1:i < zT.length:=by rw [h0s] at hi;exact hi
 have h3:k < zT[i].length:=by
  rw [l0z _ (f1Q hi)] at hk
  rw [(by decide:∀ q ∈ zT,q.length=3) _ (f1Q h1)];exact hk
 have e:((d0B 3).getD i []).getD k d0Q=a0e ((zv i k:Int):Rat):=by
  rw [n0m];unfold zv
  rw [b0r (l:=zT.map _) (by simpa using h1),g1C,b0r (l:=List.map _ _) (by simpa using h3),g1C,b0r h1,b0r h3]
 rw [b0r (l:=d0B 3) hi,b0r hk] at e
 exact e
def zc (i k:Nat):Prop:=i=6∧k=0 ∨ i=9∧k=1 ∨ i=10∧k=2
theorem Z0h:∀ i,i < 12→∀ k,k < 3→(0 < zv i k∧zv i ((k + 1) % 3) < 0 ↔ (i=6∧k=0 ∨ i=9∧k=1 ∨ i=10∧k=2)):=by decide
section
variable {a b c:Int}
def zU:d0K:=(1,d0Q)
def zb (a b c:Int) (k:Nat):Int:=if k=0 then a else if k=1 then b else c
def dS (a b c:Int) (i k:Nat):List d0K:=(List.range 12).map fun j =>
 if j=6∧(6 < i ∨ 6=i∧0 < k) then (0,a0e (a:Rat)) else if j=9∧(9 < i ∨ 9=i∧1 < k) then (0,a0e (b:Rat)) else if j=10∧(10 < i ∨ 10=i∧2 < k) then (0,a0e (c:Rat)) else zU
def dF (a b c:Int):List d0K:=[zU,zU,zU,zU,zU,zU,(0,a0e (a:Rat)),zU,zU,(0,a0e (b:Rat)),(0,a0e (c:Rat)),zU]
theorem W0Z {i k:Nat}:(dS a b c i k).length=12:=by simp [dS]
theorem T0u:List.replicate 12 zU=dS a b c 0 0:=by rfl
theorem W0Y:dS a b c 12 0=dF a b c:=by rfl
theorem X0a {i:Nat}:dS a b c i 3=dS a b c (i + 1) 0:=by
 unfold dS
 refine g1J fun j hj=>?_
 have e1:(j=6∧(6 < i ∨ 6=i∧0 < 3))=(j=6∧(6 < i + 1 ∨ 6=i + 1∧0 < 0)):=h1K (by omega)
 have e2:(j=9∧(9 < i ∨ 9=i∧1 < 3))=(j=9∧(9 < i + 1 ∨ 9=i + 1∧1 < 0)):=h1K (by omega)
 have e3:(j=10∧(10 < i ∨ 10=i∧2 < 3))=(j=10∧(10 < i + 1 ∨ 10=i + 1∧2 < 0)):=h1K (by omega)
 simp only [e1,e2,e3]
theorem z0A {i k:Nat} (h:¬ zc i k):dS a b c i (k + 1)=dS a b c i k:=by
 unfold zc at h
 unfold dS
 refine g1J fun j hj=>?_
 have e1:(j=6∧(6 < i ∨ 6=i∧0 < k + 1))=(j=6∧(6 < i ∨ 6=i∧0 < k)):=h1K (by omega)
 have e2:(j=9∧(9 < i ∨ 9=i∧1 < k + 1))=(j=9∧(9 < i ∨ 9=i∧1 < k)):=h1K (by omega)
 have e3:(j=10∧(10 < i ∨ 10=i∧2 < k + 1))=(j=10∧(10 < i ∨ 10=i∧2 < k)):=h1K (by omega)
 simp only [e1,e2,e3]
theorem X0b {i k:Nat} (h:zc i k):(dS a b c i k).set i (0,a0e ((zb a b c k:Int):Rat))=dS a b c i (k + 1):=by
 unfold zc at h
 rcases h with ⟨rfl,rfl⟩ | ⟨rfl,rfl⟩ | ⟨rfl,rfl⟩ <;> rfl
theorem l0r {z:Int} (h1:-128≤z) (h2:z < 129):e0F (a0e (z:Rat))≤6:=by
 rw [a0V,v0e]
 have:=r0R (z:=z) (k:=1) (by omega)
 omega
theorem W0X (ha:-128≤a∧a < 129) (hb:-128≤b∧b < 129) (hc:-128≤c∧c < 129):∀ e ∈ dF a b c,e0F e.2≤6∧b0s e.2.1.2∧b0s e.2.2.2:=by
 intro e he
 have hU:e0F zU.2≤6∧b0s zU.2.1.2∧b0s zU.2.2.2:=⟨by decide,(fun x hx=>nomatch hx:b0s []),(fun x hx=>nomatch hx:b0s [])⟩
 simp only [dF,h1O,List.not_mem_nil,or_false] at he
 rcases he with rfl | rfl | rfl | rfl | rfl | rfl | rfl | rfl | rfl | rfl | rfl | rfl
 all_goals first | exact hU | exact ⟨l0r ha.1 ha.2,b0q _,b0q _⟩ | exact ⟨l0r hb.1 hb.2,b0q _,b0q _⟩ | exact ⟨l0r hc.1 hc.2,b0q _,b0q _⟩
theorem n0n:∀ r ∈ d0B 3,Few 6 r:=by
 rw [n0m]
 intro r hr x hx
 obtain ⟨q,hq,rfl⟩:=g1U.1 hr
 obtain ⟨z,hz,rfl⟩:=g1U.1 hx
 have h1:=(by decide:∀ q ∈ zT,∀ z ∈ q,-1≤z∧z≤1) q hq z hz
 exact ⟨l0r (by omega) (by omega),b0q _,b0q _⟩
theorem n0p:c0v (d0B 3) 3 (dF a b c)=true:=by
 unfold c0v g0j
 have h1:r0e (i0G 3) (d0B 3)=true:=by
  unfold r0e
  rw [g1w]
  intro r hr
  unfold i0G
  rw [l0z r hr]
  rw [n0m] at hr
  obtain ⟨q,hq,rfl⟩:=g1U.1 hr
  simp [r0e,f0r]
 have h2:f0B (fun e=>!n0r e) (dF a b c)=false:=by
  simp [f0B,dF,zU,n0r,f0r,p0f]
 rw [h1,h2,h0s]
 rfl
theorem x0u:f0B (fun e:d0K=>decide (e.1 < 0)) (dF a b c)=false:=by
 simp [f0B,dF,zU]
theorem d1M:b0V (d0B 3) (dF a b c)=[[1,-1,0],[0,1,-1],[-1,0,1]].map fun r=>r.map fun z=>a0e ((z:Int):Rat):=by
 rw [n0m]
 simp [zT,dF,zU,b0V,i0x,a0H]
theorem e1g:c0W (d0B 3) (dF a b c)=[a0e (a:Rat),a0e (b:Rat),a0e (c:Rat)]:=by
 rw [n0m]
 simp [zT,dF,zU,c0W,a0H]
theorem M0N {x:s0S} (h:r0g (g0A (d0B 3) 3 (dF a b c)) 3 3 x ∨ x0w (g0A (d0B 3) 3 (dF a b c)) 3 3 x):decide (x.kind=2)=decide (a + b + c < 0):=by
 have eA:∀ i k,pA (g0A (d0B 3) 3 (dF a b c)) i k=b0u (((b0V (d0B 3) (dF a b c)).getD i []).getD k d0Q):=fun _ _=>rfl
 have eB:∀ i,pB (g0A (d0B 3) 3 (dF a b c)) i=b0u ((c0W (d0B 3) (dF a b c)).getD i d0Q):=fun _=>rfl
 rcases h with h | h
 ·have hk:=h.kind
  have h0:=h.YA 0 (by omega)
  have h1:=h.YA 1 (by omega)
  have h2:=h.YB
  have y0:=h.Y0 0 (by omega)
  simp only [rs,eA,eB,d1M,e1g] at h0 h1 h2
  simp [a0H] at h0 h1 h2
  have:((a + b + c:Int):Rat) < 0:=by
   rw [Rat.intCast_add,Rat.intCast_add]
   rw [f1H] at y0
   have e1:x.Y[1]?.getD 0=x.Y[0]?.getD 0:=by grind
   have e2:x.Y[2]?.getD 0=x.Y[0]?.getD 0:=by grind
   rw [e1,e2] at h2
   refine Rat.not_le.1 fun h5=>?_
   have h6:=i1O y0 h5
   grind
  have h3:a + b + c < 0:=by
   have:=i1d.1 (show ((a + b + c:Int):Rat) < ((0:Int):Rat) by simpa using this)
   exact this
  simp [hk,h3]
 ·have hk:=h.kind
  have h0:=h.AX 0 (by omega)
  have h1:=h.AX 1 (by omega)
  have h2:=h.AX 2 (by omega)
  simp only [rs,eA,eB,d1M,e1g] at h0 h1 h2
  simp [a0H] at h0 h1 h2
  have h3:¬ a + b + c < 0:=fun h=>by
   have h4:=i1d.2 h
   rw [Rat.intCast_add,Rat.intCast_add] at h4
   have:((0:Int):Rat)=0:=rfl
   grind
  simp [hk,h3]
end
end
section
open Go
set_option maxHeartbeats 4000000
variable {fl:Nat} {H G:a0f} {R:a0E} {u v w z:Value}
def PI8 (_:a0f) (cs:List Value) (z:Int):Prop:=cs=[.int .i8 z]
theorem v0D {z:Int}:v0C ((z:Int):Rat) 0=if z < 0 then -1 else if 0 < z then 1 else 0:=by
 have h1:(((z:Int):Rat) < 0)=(z < 0):=by
  have:=@Rat.intCast_lt_intCast z 0
  exact h1K this
 have h2:(0 < ((z:Int):Rat))=(0 < z):=by
  have:=@Rat.intCast_lt_intCast 0 z
  exact h1K this
 unfold v0C
 simp only [h1,h2]
theorem f1F {G:a0f}:PE G [.int .i64 1,.bool false,.slice none 0 0,.bool false,.slice none 0 0] zU:=⟨_,_,rfl,Lim.nil,Lim.nil⟩
theorem d1v {G:a0f} {a b c:Int} {P e:Nat} (h:a0f.blk G P=.row false e [.int .i8 a,.int .i8 b,.int .i8 c]):Sls PI8 G e 1 (.slice (some ⟨P,0,none⟩) 3 3) [a,b,c]:=by
 refine ⟨[.int .i8 a,.int .i8 b,.int .i8 c],⟨rfl,.inr ⟨P,0,3,false,_,rfl,h,by simp,rfl⟩⟩,?_⟩
 intro j hj
 match j,hj with
 | 0,_=>rfl
 | 1,_=>rfl
 | 2,_=>rfl
theorem Z0g {a b c:Int} {k:Nat} (h:k < [a,b,c].length):[a,b,c][k]=zb a b c k:=by
 match k,h with
 | 0,_=>rfl
 | 1,_=>rfl
 | 2,_=>rfl
theorem f1x {k:Nat}:d0a 0 .rem (.int .i64 ((k:Int) + 1)) (.int .i64 3)=some (.int .i64 (((k + 1) % 3:Nat):Int)):=by
 show (if (3:Int)=0 then none else some (Value.int IntKind.i64 (((k:Int) + 1).tmod 3)))=_
 rw [f1K (by decide)]
 have:(((k:Int) + 1).tmod 3)=(((k + 1) % 3:Nat):Int):=by
  rw [i1l (by omega)];omega
 rw [this]
def ZI (a b c:Int) (H G0:a0f) (PT P:Nat) (sd:Value) (i k:Nat) (ρ:Nat→Value) (G:a0f):Prop :=
 ρ 0=.int .i8 a∧ρ 1=.int .i8 b∧ρ 2=.int .i8 c∧ρ 7=.int .i64 3∧ρ 8=.pointer (some ⟨PT,0,none⟩)∧ρ 9=sd∧ρ 11=.slice (some ⟨P,0,none⟩) 3 3∧ρ 12=.int .i64 (i:Int)∧Ext G0 G ∧
  a0f.blk G P=.row false M0P [.int .i8 a,.int .i8 b,.int .i8 c]∧b0b PE H.size G b0F 5 sd (dS a b c i k)
theorem p0g {a b c:Int} (ha:-128≤a∧a < 128) (hb:-128≤b∧b < 128) (hc:-128≤c∧c < 128) (hf:fl≤H.size) :
  a0U env fl f_3 [.int .i8 a,.int .i8 b,.int .i8 c] H (fun r H'=>r=.bool true∧Ext H H') (fun _=>False):=by
 refine a0i e_3 hf (h:=?_)
 intro ρ h0
 simp [s_3,Y0k,Y0l,Y0m,h0]
 have hx:=Ext.refl H
 refine (q0d (m:=3) hx.1 (by decide)).mono ?_
 rintro _ G2 ⟨⟨sT,rfl,kT⟩,hx2⟩
 replace hx:=hx.trans hx2
 have hsz:=hx.1
 simp [hsz,kT.cells,kT.plain]
 generalize hN:Array.setIfInBounds (Array.push _ _) _ _=G3
 obtain ⟨hx2,b8⟩:=new1 hN
 clear hN
 replace kT:=Sls.mono b0w kT hx2
 replace hx:=hx.trans hx2
 obtain ⟨PT,hPT⟩:∃ x,x=G2.size:=⟨_,rfl⟩
 rw [← hPT] at b8 ⊢
 simp [Y0n,Y0o]
 obtain ⟨G0,hG0⟩:∃ x,x=G3:=⟨_,rfl⟩
 rw [← hG0] at hx b8 kT ⊢
 have kTs:=kT.slen
 rw [h0s] at kTs
 refine c0l (fun i ρ G=>ρ 0=.int .i8 a∧ρ 1=.int .i8 b∧ρ 2=.int .i8 c∧ρ 7=.int .i64 3∧ρ 8=.pointer (some ⟨PT,0,none⟩)∧ρ 10=.int .i64 (i:Int)∧Ext G0 G∧(∀ b,slB (ρ 9)=some b→G0.size≤b)∧b0b PE H.size G b0F 5 (ρ 9) (List.replicate i zU)) 12 (by decide) ⟨by simp [h0],by simp [h0],by simp [h0],by simp,by simp,by simp,Ext.refl G0,by simp [slB],by simpa using b0b.nil⟩ ?_
 clear h0 ρ hx2 hsz
 rintro i ρ G hi1 ⟨g0,g1,g2,g7,g8,g10,hy,nd,ho⟩
 obtain ⟨sd,g9⟩:∃ s,ρ 9=s:=⟨_,rfl⟩
 rw [g9] at ho nd
 have b1:=hy.blk b8
 have hH:=hx.trans hy
 simp [Y0p,g8,g10,b1,kTs]
 refine d0f.mk (by simp;omega) (fun hi=>?_) (fun heq=>?_)
 ·obtain ⟨s',G4,a1,a2,a3,a4⟩:=b0b.app (P:=PE) (sz:=5) (e:=b0F) (by decide) (fun G' cs x _ hl h=>j0O.lx h hl) ho (e2:=b0F) (c:=1) (bytes:=72) f1F rfl (by rfl) (by simp;omega) (by omega) (by omega) hH.1
  obtain ⟨_,_,hfr⟩:=d0M (by decide) a1
  have nd':∀ b,slB s' = some b→G0.size≤b:=fun b hb=>by
   rw [hfr] at hb;simp [slB] at hb;have:=hy.1;omega
  simp [Y0q,g9,a1]
  unfold e0t
  simp [Y0r,g10,a0R (show i < 4611686018427387904 by omega)]
  exact b0T.mk ⟨by simp [g0],by simp [g1],by simp [g2],by simp [g7],by simp [g8],by simp,p0x hy a3 nd,by simpa using nd',by rw [List.replicate_succ'];exact b0b.cast (v':=s') (by simp) a2⟩
 subst heq
 rw [T0u (a:=a) (b:=b) (c:=c)] at ho
 simp [Y0s,g0,g1,g2]
 generalize hN:Array.push G _=G1
 obtain ⟨hx2,bP⟩:=g0B hN
 clear hN
 obtain ⟨P,hP⟩:∃ x,x=G.size:=⟨_,rfl⟩
 rw [← hP] at bP ⊢
 replace ho:=ho.mono c0R hx2
 replace hy:=hy.trans hx2
 simp [Y0t]
 refine c0l (fun i ρ G=>ZI a b c H G0 PT P sd i 0 ρ G) 12 (by decide) ⟨by simp [g0],by simp [g1],by simp [g2],by simp [g7],by simp [g8],by simp [g9],by simp,by simp,hy,bP,ho⟩ ?_
 clear g0 g1 g2 g7 g8 g9 g10 ho hy bP b1 hH hi1 hx2 ρ hP
 rintro i ρ G hi1 ⟨g0,g1,g2,g7,g8,g9,g11,g12,hy,bP,ho⟩
 have b1:=hy.blk b8
 simp [O0O,g8,g12,b1,kTs]
 refine d0f.mk (by simp;omega) (fun hi=>?_) (fun heq=>?_)
 ·simp [O0P]
  refine t0a (fun k ρ G=>ρ 13=.int .i64 (k:Int)∧ZI a b c H G0 PT P sd i k ρ G) 3 (by decide) ⟨by simp,by simp [g0],by simp [g1],by simp [g2],by simp [g7],by simp [g8],by simp [g9],by simp [g11],by simp [g12],hy,bP,ho⟩ ?_
  clear g0 g1 g2 g7 g8 g9 g11 g12 hy bP ho b1 ρ
  rintro k ρ G hk1 ⟨g13,g0,g1,g2,g7,g8,g9,g11,g12,hy,bP,ho⟩
  have b1:=hy.blk b8
  simp [O0Q,g13]
  refine d0f.mk (by simp;omega) (fun hk=>?_) (fun heq=>?_)
  ·have kT2:=Sls.mono b0w kT hy
   have hir:i < (d0B 3).length:=by rw [h0s];exact hi
   have hrl:=l0z _ (f1Q hir)
   have hkr:k < (d0B 3)[i].length:=by omega
   have hk2:(k + 1) % 3 < (d0B 3)[i].length:=by omega
   obtain ⟨wr,hlr,kr⟩:=d0v.load kT2 hir
   obtain ⟨w1,hl1,k1⟩:=a0T.load kr hkr
   rw [x0v hir hkr] at k1
   have hfw:=n0n _ (f1Q hir)
   have hsz1:=(hfw _ (f1Q hkr)).1
   have hsz2:=(hfw _ (f1Q hk2)).1
   rw [x0v hir hkr] at hsz1
   rw [x0v hir hk2] at hsz2
   have hH:=hx.trans hy
   have hzc:=Z0h i hi k hk
   simp [O0R,g8,g12,g13,b1,kT2.ia hir,hlr,kr.ia hkr,hl1]
   refine (d0F k1 hH.1 (by omega)).mono ?_
   rintro _ G4 ⟨rfl,hx2⟩
   rw [a0H,v0D]
   replace b1:=hx2.blk b1
   replace bP:=hx2.blk bP
   replace ho:=ho.mono c0R hx2
   replace hy:=hy.trans hx2
   replace kT2:=Sls.mono b0w kT2 hx2
   have hrem:=f1x (k:=k)
   obtain ⟨q,hq⟩:∃ q,q=(k + 1) % 3:=⟨_,rfl⟩
   rw [← hq] at hrem hzc
   have hkq:q < (d0B 3)[i].length:=by rw [hq];exact hk2
   simp only [← hq] at hsz2
   by_cases hp:0 < zv i k
   ·rw [f1K (show ¬ zv i k < 0 by omega),f1N hp]
    have wk:=a0R (show k < 4611686018427387904 by omega)
    obtain ⟨wr2,hlr2,kr2⟩:=d0v.load kT2 hir
    obtain ⟨w2,hl2,k2⟩:=a0T.load kr2 hkq
    rw [x0v hir hkq] at k2
    have ia2:=kr2.ia (k:=.i64) hkq
    simp [g8,g12,g13,b1,kT2.ia hir,hlr2,wk,hrem,ia2,hl2]
    refine (d0F k2 (by have:=hx.1;have:=hy.1;omega) (by omega)).mono ?_
    rintro _ G5 ⟨rfl,hx2⟩
    rw [a0H,v0D]
    replace bP:=hx2.blk bP
    replace ho:=ho.mono c0R hx2
    replace hy:=hy.trans hx2
    by_cases hn:zv i q < 0
    ·rw [f1N hn]
     have hz:zc i k:=hzc.1 ⟨hp,hn⟩
     have kI:=d1v bP
     have hk3:k < [a,b,c].length:=hk
     obtain ⟨wi,hli,hwi⟩:=kI.load1x (Ext.refl G5) hk3
     rw [Z0g hk3] at hwi
     have hwi:wi=.int .i8 (zb a b c k):=by simpa [PI8] using hwi
     subst hwi
     have iaI:=kI.ia (k:=.i64) hk3
     have hzb:-128≤zb a b c k∧zb a b c k < 128:=by unfold zb;split;exact ha;split;exact hb;exact hc
     have wz:IntKind.i64.wrap (zb a b c k)=zb a b c k:=a0Q (by omega) (by omega)
     simp [O0S,g9,g11,g12,g13,iaI,hli,wz]
     refine (d0O (by have:=hx.1;have:=hy.1;omega) (by omega) (by omega)).mono ?_
     rintro _ G6 ⟨⟨s3,s4,rfl,m3,m4⟩,hx2⟩
     replace bP:=hx2.blk bP
     replace ho:=ho.mono c0R hx2
     replace hy:=hy.trans hx2
     have hid:i < (dS a b c i k).length:=by rw [W0Z];exact hi
     obtain ⟨G7,hst,ho2,hxb⟩:=b0b.store (Q:=PE) (x:=(0,a0e ((zb a b c k:Int):Rat))) (w:=.agg #[.int .i64 0,.bool (a0e ((zb a b c k:Int):Rat)).1.1,s3,.bool (a0e ((zb a b c k:Int):Rat)).2.1,s4]) ho hid (by decide) rfl (by simp [m3.plain,m4.plain]) (fun G' _ hl=>⟨s3,s4,rfl,m3.lx hl,m4.lx hl⟩) (by decide) (fun G' cs y _ hl hy=>j0O.lx hy hl)
     have iaD:=ho.sls.ia (k:=.i64) hid
     have d3:=m3.cells;have d4:=m4.cells
     simp [g9,g12,d3,d4,iaD,hst]
     have bP2:=(ho.lxT (by decide) hxb) _ _ _ bP
     unfold e0t
     simp [x0b,g13,wk]
     exact b0T.mk ⟨by simp,by simp [g0],by simp [g1],by simp [g2],by simp [g7],by simp [g8],by simp [g9],by simp [g11],by simp [g12],p0x hy hxb nd,bP2,by rw [← X0b hz];exact ho2⟩
    ·rw [f1K hn]
     have hc0:¬ (if 0 < zv i q then (1:Int) else 0) < 0:=by split <;> omega
     simp [hc0]
     unfold e0t
     simp [x0b,g13,a0R (show k < 4611686018427387904 by omega)]
     exact b0T.mk ⟨by simp,by simp [g0],by simp [g1],by simp [g2],by simp [g7],by simp [g8],by simp [g9],by simp [g11],by simp [g12],hy,bP,by rw [z0A (fun hz=>hn (hzc.2 hz).2)];exact ho⟩
   ·rw [f1K (c:=0 < zv i k) hp]
    have hc0:¬ 0 < (if zv i k < 0 then (-1:Int) else 0):=by split <;> omega
    simp [hc0]
    unfold e0t
    simp [x0b,g13,a0R (show k < 4611686018427387904 by omega)]
    exact b0T.mk ⟨by simp,by simp [g0],by simp [g1],by simp [g2],by simp [g7],by simp [g8],by simp [g9],by simp [g11],by simp [g12],hy,bP,by rw [z0A (fun hz=>hp (hzc.2 hz).1)];exact ho⟩
  ·subst heq
   unfold e0t
   simp [O0T,g12,a0R (show i < 4611686018427387904 by omega)]
   exact b0T.mk ⟨by simp [g0],by simp [g1],by simp [g2],by simp [g7],by simp [g8],by simp [g9],by simp [g11],by simp,hy,bP,by rw [← X0a];exact ho⟩
 ·subst heq
  rw [W0Y] at ho
  have f6:=W0X (a:=a) (b:=b) (c:=c) (by omega) (by omega) (by omega)
  have hr:∀ r ∈ d0B 3,Few 6 r∧r.length < 1073741824:=fun r hr=>⟨n0n r hr,by rw [l0z r hr];decide⟩
  have hrl:(d0B 3).length < 1073741824:=by rw [h0s];decide
  have hfe:z0h (dF a b c):=fun x hx=>by have:=(f6 x hx).1;omega
  have kT2:=Sls.mono b0w kT hy
  have ko:=ho.sls
  replace hx:=hx.trans hy
  simp [O0U,g7,g8,g9,b1]
  refine (i0e (rows:=d0B 3) (n:=3) ⟨sT,rfl,kT2⟩ ko hx.1 hr hrl f6 (by simp [dF])).mono ?_
  rintro r G4 ⟨hE,hx2⟩
  unfold n0S at hE
  rw [f1K (by rw [n0p];simp),f1K (by rw [x0u];simp)] at hE
  obtain ⟨ans,x,rfl,hA,hC,hZ⟩:=hE
  have hm:(b0V (d0B 3) (dF a b c)).length=3:=by rw [d1M];rfl
  have hC3:r0g (g0A (d0B 3) 3 (dF a b c)) 3 3 x ∨ x0w (g0A (d0B 3) 3 (dF a b c)) 3 3 x:=by
   rw [hm] at hC;exact hC
  have hkind:=M0N hC3
  replace b1:=hx2.blk b1
  replace kT2:=Sls.mono b0w kT2 hx2
  replace ko:=Sls.mono c0R ko hx2
  replace hx:=hx.trans hx2
  have hsz:=hx.1
  have hA0:=hA
  obtain ⟨z1,z2,z3,z4,z5,rfl,l1,l2,l3,l4,l5⟩:=hA
  have d1:=l1.cells;have d2:=l2.cells
  simp [hsz,d1,d2,l1.plain,l2.plain,l3.cells,l3.plain,l4.cells,l4.plain,l5.cells,l5.plain]
  generalize hN:Array.setIfInBounds (Array.push _ _) _ _=G5
  obtain ⟨hx2,b15⟩:=new1 hN
  clear hN l1 l2 l3 l4 l5 d1 d2 hsz
  replace hA0:=hA0.mono hx2
  replace b1:=hx2.blk b1
  replace kT2:=Sls.mono b0w kT2 hx2
  replace ko:=Sls.mono c0R ko hx2
  replace hx:=hx.trans hx2
  obtain ⟨P1,hP1⟩:∃ P,P=G4.size:=⟨_,rfl⟩
  rw [← hP1] at b15 ⊢
  simp [O0V,g7,g8,g9,b1]
  refine (l0e (S:=6) (rows:=d0B 3) (n:=3) ⟨sT,rfl,kT2⟩ ko hx.1 (by decide) hr hrl hfe (by simp [dF])).mono ?_
  rintro rq G6 ⟨hq,hx2⟩
  replace b15:=hx2.blk b15
  replace hA0:=hA0.mono hx2
  replace b1:=hx2.blk b1
  replace kT2:=Sls.mono b0w kT2 hx2
  replace ko:=Sls.mono c0R ko hx2
  replace hx:=hx.trans hx2
  rw [f1N ⟨n0p,x0u⟩] at hq
  obtain ⟨q,rfl,hq⟩:=hq
  have hq0:=hq
  obtain ⟨tA,tB,tC,rfl,pA,pB,pC⟩:=hq
  have hsz:=hx.1
  simp [pA.cells,pA.plain,pB.cells,pB.plain,pC.cells,pC.plain,hsz]
  generalize hN:Array.setIfInBounds (Array.push _ _) _ _=G7
  obtain ⟨hx2,b17⟩:=new1 hN
  clear hN pA pB pC hsz
  replace b15:=hx2.blk b15
  replace hA0:=hA0.mono hx2
  replace hq0:=hq0.mono hx2
  replace b1:=hx2.blk b1
  replace kT2:=Sls.mono b0w kT2 hx2
  replace ko:=Sls.mono c0R ko hx2
  replace hx:=hx.trans hx2
  obtain ⟨P2,hP2⟩:∃ P,P=G6.size:=⟨_,rfl⟩
  rw [← hP2] at b17 ⊢
  simp [O0W]
  refine (i0Z hx.1).mono ?_
  rintro _ G8 ⟨rfl,hx2⟩
  replace b15:=hx2.blk b15
  replace b17:=hx2.blk b17
  replace hA0:=hA0.mono hx2
  replace hq0:=hq0.mono hx2
  replace b1:=hx2.blk b1
  replace kT2:=Sls.mono b0w kT2 hx2
  replace ko:=Sls.mono c0R ko hx2
  replace hx:=hx.trans hx2
  simp [b15,b17]
  obtain ⟨ok,_,hn6,hm40⟩:=B0e n0p n0n f6
  refine (q0f hq0 hA0 ok hn6 hm40 hC hZ hx.1).mono ?_
  rintro _ G9 ⟨rfl,hx2⟩
  replace b1:=hx2.blk b1
  replace kT2:=Sls.mono b0w kT2 hx2
  replace ko:=Sls.mono c0R ko hx2
  replace hx:=hx.trans hx2
  have w1:IntKind.i64.wrap a=a:=a0Q (by omega) (by omega)
  have w2:IntKind.i64.wrap b=b:=a0Q (by omega) (by omega)
  have w3:IntKind.i64.wrap c=c:=a0Q (by omega) (by omega)
  have w4:IntKind.i64.wrap (a + b)=a + b:=a0Q (by omega) (by omega)
  have w5:IntKind.i64.wrap (a + b + c)=a + b + c:=a0Q (by omega) (by omega)
  rw [hkind]
  simp [g0,g1,g2,w1,w2,w3,w4,w5]
  refine (x0F hx.1).mono ?_
  rintro _ G10 ⟨rfl,hx2⟩
  simp
end
end Go.Proofs.YtjlohmnnldbjoaaGreat.AI
