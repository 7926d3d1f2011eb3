/- Part 11 of the proof. -/
import Derived.Test.YtilekhkgobmolaaGreatM06
import Derived.Test.YtilekhkgobmolaaGreatM07
import Derived.Test.YtilekhkgobmolaaGreatM09
set_option linter.unusedVariables false
set_option linter.unusedSimpArgs false
set_option linter.unusedSectionVars false
namespace Go.Proofs.YtilekhkgobmolaaGreat.AI
section
open Go SX
set_option maxHeartbeats 4000000
variable {fl:Nat} {H G:a0e} {R:a0E} {v w u:Value}
structure r0w (p:LPt) (n m S:Nat):Prop where
 pn:p.n=n
 pA:p.A.length=m
 pB:p.B.length=m
 pC:p.C.length=n
 row:∀ r ∈ p.A,Few S r∧r.length=n
 fB:Few S p.B
 fC:Few S p.C
 S1:1≤S
 m1:m < 1048576
 n1:n < 1048576
 sz:(n + 1) * (2 * ((m + 2) * ((n + 3) * (S + 1) + m + 2) + 1 + m + S) + 10) < 16777216
structure r0G (p:LPt) (q:ScT) (n m K:Nat):Prop where
 qn:q.n=p.n
 qA:q.A.length=p.A.length
 qb:q.bs.length=p.A.length
 rows:∀ k,k < p.A.length→Whole (k0x p k) (q.A.getD k []) (q.bs.getD k 0) K
 cost:Whole (p.C.map b0u) q.C q.cb K
theorem t0m {p:LPt} {n m S k:Nat} (h:r0w p n m S) (hk:k < p.A.length):(k0x p k).length=n + 1:=by
 unfold k0x
 rw [i1h,i1m hk]
 simp [(h.row _ (i1p hk)).2]
theorem b0I {α:Type} {l:List α} {d:α} {k:Nat} (h:k < l.length):l.getD k d=l[k]:=by
 rw [i1h,i1m h];rfl
theorem r0G.szC {p:LPt} {q:ScT} {n m K:Nat} (hq:r0G p q n m K) (c:Nat):lz (ccq q c)≤K:=by
 unfold ccq
 by_cases hc:c < q.C.length
 ·rw [b0I hc];exact hq.cost.szz _ (i1p _)
 ·rw [i1h,i1s (by omega)];show lz 0≤_;rw [c0K];omega
theorem r0w.sol {p:LPt} {q:ScT} {n m S:Nat} (h:r0w p n m S) (hq:r0G p q n m ((n + 3) * (S + 1))) (hp:LPV H u p) (hv:SV H v q):y0n H u v p q n m where
 hp:=hp
 hv:=hv
 qn:=by rw [hq.qn,h.pn]
 qA:=by rw [hq.qA,h.pA]
 qC:=by rw [hq.cost.len,j1A,h.pC]
 pC:=h.pC
 qb:=by rw [hq.qb,h.pA]
 row:=fun r hr=>by
  obtain ⟨k,hk,rfl⟩:=j1t.1 hr
  have hk2:k < p.A.length:=by rw [← hq.qA];exact hk
  have:=(hq.rows k hk2).len
  rw [b0I hk,t0m h hk2] at this
  exact this
 b0:=fun h0=>by have:=hq.cost.pos;rw [h0] at this;exact i1A this (Rat.lt_irrefl)
 m1:=h.m1
 n1:=h.n1
 sz:=by
  refine ⟨(n + 3) * (S + 1),S,fun r c=>?_,hq.szC,h.fC,fun x hx=>?_,hq.cost.szb,h.sz⟩
  ·unfold Tf
   by_cases hr:r < q.A.length
   ·have hW:=(hq.rows r (by rw [← hq.qA];exact hr)).szz
    by_cases hc:c < (q.A.getD r []).length
    ·rw [b0I hc];exact hW _ (i1p _)
    ·rw [i1h (l:=q.A.getD r []),i1s (by omega)];show lz 0≤_;rw [c0K];omega
   ·have:q.A.getD r []=[]:=by rw [i1h,i1s (by omega)];rfl
    rw [this];show lz 0≤_;rw [c0K];omega
  ·obtain ⟨k,hk,rfl⟩:=j1t.1 hx
   have:=(hq.rows k (by rw [← hq.qb];exact hk)).szb
   rw [b0I hk] at this
   exact this
theorem z0M.setS {a:o0p} {G':a0e} {b:Nat} {X:Blk} {ro:Bool} {e:TypeId} {cs:List Value} (h:z0M G v a) (hS:Array.setIfInBounds G b X=G') (hb:a0e.blk G b=.row ro e cs) (h1:e ≠ a0h) (h2:e ≠ a0b):z0M G' v a:=by
 have hl1:LxT a0b G G':=b0c hS hb h2
 have hl2:Lx G G':=fun b ro cs h=>b0c (e:=a0h) hS hb h1 b ro cs h
 obtain ⟨s1,s2,sX,sY,sR,e1,k1,k2,k3,k4,k5⟩:=h
 exact ⟨s1,s2,sX,sY,sR,e1,k1.setS hS hb h1,k2.setS hS hb h1,b0v.lx2 k3 hl1 hl2,b0v.lx2 k4 hl1 hl2,b0v.lx2 k5 hl1 hl2⟩
def f1S (p:LPt) (n m S:Nat) (r:Value) (H':a0e):Prop:=∃ q,r0G p q n m ((n + 3) * (S + 1))∧p0G q p.C n m r H'
theorem l0o {p:LPt} {n m S:Nat} (h:r0w p n m S) (hp:LPV H v p) (hf:fl≤H.size) :
  a0S env fl Y0Y [v] H (fun r H'=>f1S p n m S r H'∧Ext H H') R:=by
 have hp0:=hp
 obtain ⟨sA0,sB0,sC0,rfl,kA,kB,kC⟩:=hp
 refine a0g h1h hf (h:=?_)
 intro ρ h0
 simp [c1t,Q0F,h0,kA.cells,kB.cells,kC.cells]
 generalize hG:Array.push (Array.push H _) _=G
 obtain ⟨hx,b0,b1⟩:=push2 hG
 clear hG
 simp [Q0G,b0]
 have hS:=h.S1
 have hK:(n + 3) * (S + 1) < 67108864:=by
  have h1:=h.sz
  have h2:1 * (2 * ((m + 2) * ((n + 3) * (S + 1) + m + 2) + 1 + m + S) + 10)≤(n + 1) * (2 * ((m + 2) * ((n + 3) * (S + 1) + m + 2) + 1 + m + S) + 10):=i1r _ (by omega)
  have h3:1 * ((n + 3) * (S + 1) + m + 2)≤(m + 2) * ((n + 3) * (S + 1) + m + 2):=i1r _ (by omega)
  omega
 refine (j0R (S:=S) (N:=n) (hp0.mono hx) hx.1 (fun r hr=>⟨(h.row r hr).1,by rw [(h.row r hr).2];exact i1j _⟩) h.fB (by rw [h.pA,h.pB]) h.fC (by rw [h.pC];exact i1j _) (by rw [h.pA];have:=h.m1;omega) hS rfl hK).mono ?_
 rintro wq G2 ⟨⟨q,hv,q1,q2,q3,q4,q5⟩,hx2⟩
 have hq:r0G p q n m ((n + 3) * (S + 1)):=⟨q1,q2,q3,q4,q5⟩
 clear q1 q2 q3 q4 q5
 replace b0:=hx2.blk b0
 replace b1:=hx2.blk b1
 replace hx:=hx.trans hx2
 clear hx2
 have hsz:=hx.1
 have hv0:=hv
 obtain ⟨sA,sBy,sC,s1,s2,rfl,qA,qB,qC,k1,k2⟩:=hv
 have c1:=k1.cells;have c2:=k2.cells
 simp [hsz,qA.cells,qA.plain,qB.cells,qB.plain,qC.cells,qC.plain,c1,c2,k1.plain,k2.plain]
 generalize hN:Array.setIfInBounds (Array.push _ _) _ _=G3
 obtain ⟨hx2,b2⟩:=new1 hN
 clear hN
 replace b0:=hx2.blk b0
 replace b1:=hx2.blk b1
 replace hv0:=hv0.mono hx2
 replace hx:=hx.trans hx2
 clear hx2
 obtain ⟨P2,hP2⟩:∃ x,x=G2.size:=⟨_,rfl⟩
 rw [← hP2] at b2 hsz ⊢
 simp [Q0H,b0,b2]
 refine (z0g (h.sol hq (hp0.mono hx) hv0) hx.1).mono ?_
 rintro r G4 ⟨hr,hx2⟩
 replace b0:=hx2.blk b0
 replace b1:=hx2.blk b1
 replace b2:=hx2.blk b2
 replace hv0:=hv0.mono hx2
 replace hx:=hx.trans hx2
 clear hx2
 have hsz2:=hx.1
 rcases hr with ⟨ans,k,rfl,hQ⟩ | ⟨ans,rfl,s1',s2',s3',s4',s5',s6',s7',s8',rfl,hpl⟩
 ·obtain ⟨ans',a,k',he,hA,hQ⟩:=hQ
  obtain ⟨rfl,rfl⟩:ans=ans'∧k=k':=by simpa using he
  clear he
  have hA0:=hA
  obtain ⟨z1,z2,z3,z4,z5,rfl,l1,l2,l3,l4,l5⟩:=hA
  have d1:=l1.cells;have d2:=l2.cells
  simp [hsz2,d1,d2,l1.plain,l2.plain,l3.cells,l3.plain,l4.cells,l4.plain,l5.cells,l5.plain]
  generalize hN:Array.setIfInBounds (Array.push _ _) _ _=G5
  obtain ⟨hx2,b3⟩:=new1 hN
  clear hN
  replace b0:=hx2.blk b0
  replace b1:=hx2.blk b1
  replace b2:=hx2.blk b2
  replace hA0:=hA0.mono hx2
  replace hx:=hx.trans hx2
  clear hx2
  obtain ⟨P4,hP4⟩:∃ x,x=G4.size:=⟨_,rfl⟩
  rw [← hP4] at b3 ⊢
  simp [H0P,Q0I,b3,b1,d1,d2,l1.plain,l2.plain,l3.cells,l3.plain,l4.cells,l4.plain,l5.cells,l5.plain]
  generalize hS':Array.setIfInBounds G5 _ _=G6
  rw [a0v hS' b1]
  simp
  exact fun _=>⟨q,hq,_,a,k,rfl,hA0.setS hS' b1 (by decide) (by decide),hQ⟩
 ·simp at hpl
  obtain ⟨p1,p2,p3,p4,p5,p6,p7,p8⟩:=hpl
  simp [hsz2,p1,p2,p3,p4,p5,p6,p7,p8]
  generalize hN:Array.setIfInBounds (Array.push _ _) _ _=G5
  obtain ⟨hx2,b3⟩:=new1 hN
  clear hN
  replace b0:=hx2.blk b0
  replace b1:=hx2.blk b1
  replace b2:=hx2.blk b2
  replace hv0:=hv0.mono hx2
  replace hx:=hx.trans hx2
  clear hx2
  simp [H0P,Q0J,b0,b2]
  refine a0S.mono (t0p (F:=.all) (h.sol hq (hp0.mono hx) hv0) hx.1 trivial) ?_
  rintro r G6 ⟨⟨ans,a,k,rfl,hA,hQ⟩,hx2⟩
  replace b1:=hx2.blk b1
  replace hx:=hx.trans hx2
  clear hx2
  have hsz3:=hx.1
  have hA0:=hA
  obtain ⟨z1,z2,z3,z4,z5,rfl,l1,l2,l3,l4,l5⟩:=hA
  have d1:=l1.cells;have d2:=l2.cells
  simp [b1,hsz3,d1,d2,l1.plain,l2.plain,l3.cells,l3.plain,l4.cells,l4.plain,l5.cells,l5.plain]
  generalize hS':Array.setIfInBounds G6 _ _=G7
  rw [a0v hS' b1]
  simp
  exact fun _=>⟨q,hq,_,a,k,rfl,hA0.setS hS' b1 (by decide) (by decide),hQ⟩
theorem j0Q {p:LPt} {n m S:Nat} (h:r0w p n m S) (hp:LPV H v p) (hf:fl≤H.size) (hr:n0m p=true) :
  a0S env fl Y0M [v] H (fun r H'=>(∃ ans k,r=.tuple #[ans,.int .i64 k,.int .i64 0]∧f1S p n m S (.tuple #[ans,.int .i64 k]) H')∧Ext H H') R:=by
 have hp0:=hp
 obtain ⟨sA0,sB0,sC0,rfl,kA,kB,kC⟩:=hp
 refine a0g g1J hf (h:=?_)
 intro ρ h0
 simp [b1Y,O0P,h0,kA.cells,kB.cells,kC.cells]
 generalize hG:Array.push (Array.push H _) _=G
 obtain ⟨hx,b0,b1⟩:=push2 hG
 clear hG
 simp [O0Q,b0]
 refine (q0e (hp0.mono hx) hx.1).mono ?_
 rintro _ G2 ⟨rfl,hx2⟩
 replace b0:=hx2.blk b0
 replace b1:=hx2.blk b1
 replace hx:=hx.trans hx2
 clear hx2
 simp [hr]
 simp [O0R,b0]
 refine (l0o h (hp0.mono hx) hx.1).mono ?_
 rintro r G4 ⟨⟨q,hq,ans,a,k,rfl,hA,hQ⟩,hx2⟩
 replace b1:=hx2.blk b1
 replace hx:=hx.trans hx2
 clear hx2
 have hsz2:=hx.1
 have hA0:=hA
 obtain ⟨z1,z2,z3,z4,z5,rfl,l1,l2,l3,l4,l5⟩:=hA
 have d1:=l1.cells;have d2:=l2.cells
 simp [hsz2,d1,d2,l1.plain,l2.plain,l3.cells,l3.plain,l4.cells,l4.plain,l5.cells,l5.plain]
 generalize hN:Array.setIfInBounds (Array.push _ _) _ _=G5
 obtain ⟨hx2,b3⟩:=new1 hN
 clear hN
 replace b1:=hx2.blk b1
 replace hA0:=hA0.mono hx2
 replace hx:=hx.trans hx2
 clear hx2
 obtain ⟨P4,hP4⟩:∃ x,x=G4.size:=⟨_,rfl⟩
 rw [← hP4] at b3 ⊢
 simp [O0S,b3,b1,d1,d2,l1.plain,l2.plain,l3.cells,l3.plain,l4.cells,l4.plain,l5.cells,l5.plain]
 generalize hS':Array.setIfInBounds G5 _ _=G6
 rw [a0v hS' b1]
 simp
 exact fun _=>⟨_,k,⟨rfl,rfl⟩,q,hq,_,a,k,rfl,hA0.setS hS' b1 (by decide) (by decide),hQ⟩
end
section
open Go SX
set_option maxHeartbeats 1000000
def rs (f:Nat→Rat):Nat→Rat
 | 0=>0
 | n + 1=>rs f n + f n
theorem b0F {f g:Nat→Rat}:∀ {n:Nat},(∀ i,i < n→f i=g i)→rs f n=rs g n
 | 0,_=>rfl
 | n + 1,h=>by rw [rs,rs,b0F (fun i hi=>h i (by omega)),h n (by omega)]
theorem i0F {f:Nat→Rat} {c:Rat}:∀ {n:Nat},rs (fun i=>f i * c) n=rs f n * c
 | 0=>by rw [rs,rs,k1w]
 | n + 1=>by rw [rs,rs,i0F,Rat.add_mul]
theorem n0n {f:Nat→Int}:∀ {n:Nat},rs (fun i=>(f i:Rat)) n=((sm f n:Int):Rat)
 | 0=>rfl
 | n + 1=>by rw [rs,sm,n0n,Rat.intCast_add]
theorem A0v {a b:List b0h}:∀ {n:Nat},r0x a b n=rs (fun i=>b0u (a.getD i c0o) * b0u (b.getD i c0o)) n
 | 0=>rfl
 | n + 1=>by rw [r0x,rs,A0v]
def pA (p:LPt) (r k:Nat):Rat:=b0u ((p.A.getD r []).getD k c0o)
def pB (p:LPt) (r:Nat):Rat:=b0u (p.B.getD r c0o)
def pC (p:LPt) (k:Nat):Rat:=b0u (p.C.getD k c0o)
structure z0P (p:LPt) (n m:Nat) (a:o0p):Prop where
 kind:a.kind=2
 V:a.V=0
 X:a.X=[]
 Ray:a.Ray=[]
 Yl:a.Y.length=m
 Y0:∀ i,i < m→0≤a.Y.getD i 0
 YA:∀ k,k < n→rs (fun i=>a.Y.getD i 0 * pA p i k) m=0
 YB:rs (fun i=>a.Y.getD i 0 * pB p i) m < 0
structure J0E (p:LPt) (n m:Nat) (a:o0p):Prop where
 kind:a.kind=1
 Ray:a.Ray=[]
 Xl:a.X.length=n
 Yl:a.Y.length=m
 AX:∀ r,r < m→rs (fun k=>pA p r k * a.X.getD k 0) n≤pB p r
 Y0:∀ i,i < m→0≤a.Y.getD i 0
 YA:∀ k,k < n→rs (fun i=>a.Y.getD i 0 * pA p i k) m=pC p k
 V:a.V=rs (fun k=>pC p k * a.X.getD k 0) n
 YB:rs (fun i=>a.Y.getD i 0 * pB p i) m=a.V
structure z0Q (p:LPt) (n m:Nat) (a:o0p):Prop where
 kind:a.kind=3
 Xl:a.X.length=n
 AX:∀ r,r < m→rs (fun k=>pA p r k * a.X.getD k 0) n≤pB p r
 AR:∀ r,r < m→rs (fun k=>pA p r k * a.Ray.getD k 0) n≤0
 CR:0 < rs (fun k=>pC p k * a.Ray.getD k 0) n
theorem d0z {f:Nat→Rat} {n k:Nat} (h:k < n):((List.range n).map f).getD k 0=f k:=by
 rw [i1h];simp [h]
section
variable {p:LPt} {q:ScT} {n m S K:Nat}
theorem Whole.row_eq (h:r0w p n m S) (hq:r0G p q n m K) {r:Nat} (hr:r < m):0 < q.bs.getD r 0∧(∀ k,k < n→((Tf q.A r k:Int):Rat)=pA p r k * q.bs.getD r 0)∧((bbq q n r:Int):Rat)=pB p r * q.bs.getD r 0:=by
 have hr':r < p.A.length:=by rw [h.pA];exact hr
 have hW:=hq.rows r hr'
 have hl:=t0m h hr'
 have hrl:=(h.row _ (i1p hr')).2
 refine ⟨hW.pos,fun k hk=>?_,?_⟩
 ·have e:=hW.eq k (by omega)
  have e1:(q.A.getD r [])[k]'(by rw [hW.len];omega)=Tf q.A r k:=by
   unfold Tf;rw [b0I (l:=q.A.getD r []) (by rw [hW.len];omega)]
  rw [e1] at e
  rw [e]
  congr 1
  unfold pA k0x
  rw [j1a (by rw [j1A,b0I hr'];omega),j1b,b0I (l:=p.A.getD r []) (by rw [b0I hr'];omega)]
 ·have e:=hW.eq n (by omega)
  have e1:(q.A.getD r [])[n]'(by rw [hW.len];omega)=bbq q n r:=by
   unfold bbq Tf;rw [b0I (l:=q.A.getD r []) (by rw [hW.len];omega)]
  rw [e1] at e
  rw [e]
  congr 1
  unfold pB k0x
  rw [i1J (by rw [j1A,b0I hr'];omega)]
  simp
theorem Whole.cost_eq (h:r0w p n m S) (hq:r0G p q n m K):0 < q.cb∧∀ k,k < n→((ccq q k:Int):Rat)=pC p k * q.cb:=by
 refine ⟨hq.cost.pos,fun k hk=>?_⟩
 have hk':k < (p.C.map b0u).length:=by rw [j1A,h.pC];exact hk
 have e:=hq.cost.eq k hk'
 have e1:q.C[k]'(by rw [hq.cost.len];exact hk')=ccq q k:=by unfold ccq;rw [b0I]
 rw [e1] at e
 rw [e,j1b]
 unfold pC
 rw [b0I (by rw [h.pC];exact hk)]
end
section
variable {p:LPt} {q:ScT} {n m S K:Nat} {a:o0p} {T:Nat→Nat→Int} {base:Nat→Nat} {D:Int}
theorem inv_pos {c:Rat} (h:0 < c):0 < c⁻¹:=Rat.inv_pos.2 h
theorem h0Q {D:Int} (h:0 < D):(0:Rat) < (D:Rat):=Rat.intCast_pos.2 h
theorem l0S {D:Int} (h:0≤D):(0:Rat)≤(D:Rat):=Rat.intCast_nonneg.2 h
theorem p0Q {t D:Int} {b c:Rat}:Rat.divInt t D * b / c=(t:Rat) * b * ((D:Rat)⁻¹ * c⁻¹):=by
 rw [k1R,l1o,l1o]
 grind
theorem r0S (h:r0w p n m S) (hq:r0G p q n m K) {t:Nat→Int} {c:Rat} (Y:Nat→Rat) (hY:∀ i,i < m→Y i=Rat.divInt (t i) D * q.bs.getD i 0 / c) :
  (∀ k,k < n→rs (fun i=>Y i * pA p i k) m=((sm (fun i=>t i * Tf q.A i k) m:Int):Rat) * ((D:Rat)⁻¹ * c⁻¹))∧rs (fun i=>Y i * pB p i) m=((sm (fun i=>t i * bbq q n i) m:Int):Rat) * ((D:Rat)⁻¹ * c⁻¹):=by
 refine ⟨fun k hk=>?_,?_⟩
 ·rw [← n0n,← i0F]
  refine b0F fun i hi=>?_
  obtain ⟨_,h2,_⟩:=Whole.row_eq h hq hi
  rw [hY i hi,p0Q,k1O,h2 k hk]
  grind
 ·rw [← n0n,← i0F]
  refine b0F fun i hi=>?_
  obtain ⟨_,_,h3⟩:=Whole.row_eq h hq hi
  rw [hY i hi,p0Q,k1O,h3]
  grind
theorem b1e.cert (h:r0w p n m S) (hq:r0G p q n m K) (hs:b1e q n m a):z0P p n m a:=by
 obtain ⟨T,base,D,hT,h1,h2,h3,h4,h5,h6,h7⟩:=hs
 have hD:=hT.pos
 obtain ⟨i1,i2,i3⟩:=y0P hT h5
 have hY:∀ i,i < m→a.Y.getD i 0=Rat.divInt (T m (2 * n + i)) D * q.bs.getD i 0 / 1:=fun i hi=>by rw [h7,d0z hi]
 obtain ⟨s1,s2⟩:=r0S h hq _ hY
 have hc:(0:Rat) < (D:Rat)⁻¹ * (1:Rat)⁻¹:=l1f (inv_pos (h0Q hD)) (inv_pos (by decide))
 refine ⟨h1,h2,h3,h4,by rw [h7];simp,fun i hi=>?_,fun k hk=>?_,?_⟩
 ·rw [hY i hi,p0Q]
  exact k1W (k1W (l0S (i1 i hi)) (l1r (Whole.row_eq h hq hi).1)) (l1r hc)
 ·rw [s1 k hk,i2 k hk];simp
 ·rw [s2,i3]
  have h8:((T m (2 * n + m):Int):Rat) < 0:=by
   have:=Rat.intCast_lt_intCast.2 h6;simpa using this
  have h9:=l1f (a:=-((T m (2 * n + m):Int):Rat)) (by grind) hc
  grind
theorem J0c (h:r0w p n m S) (hq:r0G p q n m K) {r:Nat} (hr:r < m) {x:Nat→Rat} {P:Nat→Int} (hX:∀ k,k < n→x k=((P k:Int):Rat) * (D:Rat)⁻¹) (hD:0 < D):rs (fun k=>pA p r k * x k) n * (q.bs.getD r 0 * (D:Rat))=((sm (fun k=>Tf q.A r k * P k) n:Int):Rat):=by
 obtain ⟨r1,r2,r3⟩:=Whole.row_eq h hq hr
 have hDr:=h0Q hD
 have hDD:(D:Rat) * (D:Rat)⁻¹=1:=Rat.mul_inv_cancel _ (by grind)
 rw [← n0n,← i0F]
 refine b0F fun k hk=>?_
 rw [hX k hk,k1O,r2 k hk]
 grind
theorem w0L (h:r0w p n m S) (hq:r0G p q n m K) {r:Nat} (hr:r < m) {x:Nat→Rat} {P:Nat→Int} (hX:∀ k,k < n→x k=((P k:Int):Rat) * (D:Rat)⁻¹) (hD:0 < D) (hj:sm (fun k=>Tf q.A r k * P k) n≤D * bbq q n r):rs (fun k=>pA p r k * x k) n≤pB p r:=by
 obtain ⟨r1,r2,r3⟩:=Whole.row_eq h hq hr
 have e1:=J0c h hq hr hX hD
 have e2:pB p r * (q.bs.getD r 0 * (D:Rat))=((D * bbq q n r:Int):Rat):=by
  rw [k1O,r3];grind
 have e3:=Rat.intCast_le_intCast.2 hj
 rw [← e1,← e2] at e3
 exact Rat.le_of_mul_le_mul_right e3 (l1f r1 (h0Q hD))
theorem w0l (h:r0w p n m S) (hq:r0G p q n m K) {x:Nat→Rat} {P:Nat→Int} (hX:∀ k,k < n→x k=((P k:Int):Rat) * (D:Rat)⁻¹) (hD:0 < D):rs (fun k=>pC p k * x k) n=((sm (fun k=>ccq q k * P k) n:Int):Rat) * ((D:Rat)⁻¹ * q.cb⁻¹):=by
 obtain ⟨hcb,hcc⟩:=Whole.cost_eq h hq
 have hcc1:q.cb * q.cb⁻¹=1:=Rat.mul_inv_cancel _ (by grind)
 rw [← n0n,← i0F]
 refine b0F fun k hk=>?_
 rw [hX k hk,k1O,hcc k hk]
 grind
theorem b1f.cert (h:r0w p n m S) (hq:r0G p q n m K) (hs:b1f q n m a):z0Q p n m a:=by
 obtain ⟨T,base,D,j,hT,h1,h2,h3,h4,h5,h6,h7,h8,h9⟩:=hs
 have hD:=hT.pos
 obtain ⟨j1,j2⟩:=N0i hT (fun i hi hb=>(h4 i hi hb).1)
 obtain ⟨u1,u2⟩:=J0v hT h5 h7 (fun i hi hb=>(h4 i hi hb).2)
 have hX:∀ k,k < n→a.X.getD k 0=((ptq n base (fun i=>T i (2 * n + m)) m k:Int):Rat) * (D:Rat)⁻¹:=fun k hk=>by rw [h8,d0z hk,k1R,l1o]
 have hY:∀ k,k < n→a.Ray.getD k 0=((n0j n m T base D j k:Int):Rat) * (D:Rat)⁻¹:=fun k hk=>by rw [h9,d0z hk,k1R,l1o]
 refine ⟨h1,by rw [h8];simp,fun r hr=>w0L h hq hr hX hD (j1 r hr),fun r hr=>?_,?_⟩
 ·obtain ⟨r1,r2,r3⟩:=Whole.row_eq h hq hr
  have e1:=J0c h hq hr hY hD
  have e3:=Rat.intCast_le_intCast.2 (u1 r hr)
  rw [← e1] at e3
  have e4:=l1f r1 (h0Q hD)
  refine Rat.le_of_mul_le_mul_right ?_ e4
  rw [k1w];exact e3
 ·rw [w0l h hq hY hD,u2]
  refine l1f (Rat.intCast_pos.2 (by omega)) (l1f (inv_pos (h0Q hD)) (inv_pos (Whole.cost_eq h hq).1))
theorem b1d.cert (h:r0w p n m S) (hq:r0G p q n m K) (hs:b1d q p.C n m a):J0E p n m a:=by
 obtain ⟨T,base,D,hT,h1,h2,h3,h4,h5,h6,h7⟩:=hs
 have hD:=hT.pos
 obtain ⟨i1,i2,i3⟩:=SX.duals hT h4
 obtain ⟨j1,j2⟩:=N0i hT h3
 obtain ⟨hcb,hcc⟩:=Whole.cost_eq h hq
 have hY:∀ i,i < m→a.Y.getD i 0=Rat.divInt (T (m + 1) (2 * n + i)) D * q.bs.getD i 0 / q.cb:=fun i hi=>by rw [h6,d0z hi]
 have hX:∀ k,k < n→a.X.getD k 0=((ptq n base (fun i=>T i (2 * n + m)) m k:Int):Rat) * (D:Rat)⁻¹:=fun k hk=>by rw [h5,d0z hk,k1R,l1o]
 obtain ⟨s1,s2⟩:=r0S h hq _ hY
 have hDr:=h0Q hD
 have hDi:=inv_pos hDr
 have hci:=inv_pos hcb
 have hc:(0:Rat) < (D:Rat)⁻¹ * q.cb⁻¹:=l1f hDi hci
 have hDD:(D:Rat) * (D:Rat)⁻¹=1:=Rat.mul_inv_cancel _ (by grind)
 have hcc1:q.cb * q.cb⁻¹=1:=Rat.mul_inv_cancel _ (by grind)
 have hV:a.V=rs (fun k=>pC p k * a.X.getD k 0) n:=by
  rw [h7,A0v]
  refine b0F fun k hk=>?_
  unfold pC
  congr 1
  rw [b0I (by rw [j1A,h5];simpa using hk),j1b,a0w,b0I (by rw [h5];simpa using hk)]
 have hVs:rs (fun k=>pC p k * a.X.getD k 0) n=((T (m + 1) (2 * n + m):Int):Rat) * ((D:Rat)⁻¹ * q.cb⁻¹):=by
  rw [← j2];exact w0l h hq hX hD
 refine ⟨h1,h2,by rw [h5];simp,by rw [h6];simp,fun r hr=>?_,fun i hi=>?_,fun k hk=>?_,hV,?_⟩
 ·exact w0L h hq hr hX hD (j1 r hr)
 ·rw [hY i hi,p0Q]
  exact k1W (k1W (l0S (i1 i hi)) (l1r (Whole.row_eq h hq hi).1)) (l1r hc)
 ·rw [s1 k hk,i2 k hk,k1O,hcc k hk]
  grind
 ·rw [s2,i3,hV,hVs]
end
end
section
open Go SX
set_option maxHeartbeats 4000000
variable {fl:Nat} {H G:a0e} {R:a0E} {v w u:Value}
theorem d0q.mono {rows:List (List b0h)} (h:d0q H v rows) (hx:Ext H G):d0q G v rows:=by
 obtain ⟨s,h1,h2⟩:=h;exact ⟨s,h1,h2.mono d0A hx⟩
theorem K0s {S:Nat} {r:List b0h} (h:Few S r) (hS:1≤S):Few S (i0g r):=by
 intro x hx
 obtain ⟨y,hy,rfl⟩:=j1e.1 hx
 obtain ⟨h1,h2,h3⟩:=h y hy
 have:=c0y h2 h3
 exact ⟨by rw [a0J];omega,c0l _,c0l _⟩
theorem h0V:∀ {rows:List (List b0h)} {d:List b0T},(d0x rows d).length=(d0w rows d).length
 | [],d=>by simp [d0w,d0x]
 | _ :: _,[]=>by simp [d0w,d0x]
 | r :: rs,e :: es=>by simp only [d0w,d0x];split <;> simp [h0V]
def K0T (rows:List (List b0h)) (n:Int) (d:List b0T):LPt:=⟨n,d0w rows d,d0x rows d,List.replicate n.toNat (a0f 0)⟩
def M0I (a:o0p) (W:Nat):Prop:=(∀ x ∈ a.X,szR x≤W)∧∀ y ∈ a.Y,szR y≤W
theorem r0G.szA {p:LPt} {q:ScT} {n m S K:Nat} (h:r0w p n m S) (hq:r0G p q n m K) (r c:Nat):lz (Tf q.A r c)≤K:=by
 unfold Tf
 by_cases hr:r < q.A.length
 ·have hW:=(hq.rows r (by rw [← hq.qA];exact hr)).szz
  by_cases hc:c < (q.A.getD r []).length
  ·rw [b0I hc];exact hW _ (i1p _)
  ·rw [i1h (l:=q.A.getD r []),i1s (by omega)];show lz 0≤_;rw [c0K];omega
 ·have:q.A.getD r []=[]:=by rw [i1h,i1s (by omega)];rfl
  rw [this];show lz 0≤_;rw [c0K];omega
theorem x0Z {t D:Int} {b c:Rat} {Z K:Nat} (h1:lz t≤Z) (h2:lz D≤Z) (h3:szR b≤K) (h4:szR c≤K):szR (Rat.divInt t D * b / c)≤Z + 1 + K + K:=by
 have a1:=b0O t D
 have a2:=g0C (Rat.divInt t D) b
 have a3:=W0H (Rat.divInt t D * b) c
 omega
theorem Z0O {m n Z:Nat} {T:Nat→Nat→Int} {base:Nat→Nat} {D:Int} {x:Rat} (z1:∀ r c,r < m + 2→c≤2 * n + m→lz (T r c)≤Z) (z2:lz D≤Z) (hx:x ∈ (List.range n).map fun k=>Rat.divInt (ptq n base (fun i=>T i (2 * n + m)) m k) D):szR x≤Z + m + 1:=by
 obtain ⟨k,_,rfl⟩:=j1e.1 hx
 have e1:=b0O (ptq n base (fun i=>T i (2 * n + m)) m k) D
 have e2:=o0E (n:=n) (base:=base) (Fv:=fun i=>T i (2 * n + m)) (k:=k) (q:=m) (fun i hi=>z1 i (2 * n + m) (by omega) (i1j _))
 omega
theorem a1T {p:LPt} {q:ScT} {n m S K:Nat} {a:o0p} (h:r0w p n m S) (hq:r0G p q n m K) (hK:1≤K) (hs:b1e q n m a ∨ b1d q p.C n m a ∨ b1f q n m a):M0I a ((m + 2) * (K + m + 2) + 1 + m + 1 + K + K):=by
 have hb:∀ i,i < m→szR (q.bs.getD i 0)≤K:=fun i hi=>(hq.rows i (by rw [h.pA];exact hi)).szb
 rcases hs with ⟨T,base,D,hT,h1,h2,h3,h4,h5,h6,h7⟩ | ⟨T,base,D,hT,h1,h2,h3,h4,h5,h6,h7⟩ | ⟨T,base,D,j,hT,h1,h2,h3,h4,h5,h6,h7,h8,h9⟩ <;> obtain ⟨z1,z2⟩:=N0e (hq.szA h) hq.szC h.m1 hT
 ·refine ⟨fun x hx=>by rw [h3] at hx;simp at hx,fun y hy=>?_⟩
  rw [h7] at hy
  obtain ⟨i,hi,rfl⟩:=j1e.1 hy
  have hi:=j1r.1 hi
  have:=x0Z (z1 m (2 * n + i) (by omega) (by omega)) z2 (hb i hi) (show szR 1≤K by rw [r0r];exact hK)
  omega
 ·refine ⟨fun x hx=>?_,fun y hy=>?_⟩
  ·rw [h5] at hx
   have:=Z0O z1 z2 hx;omega
  ·rw [h6] at hy
   obtain ⟨i,hi,rfl⟩:=j1e.1 hy
   have hi:=j1r.1 hi
   have:=x0Z (z1 (m + 1) (2 * n + i) (by omega) (by omega)) z2 (hb i hi) hq.cost.szb
   omega
 ·refine ⟨fun x hx=>?_,fun y hy=>by rw [h3] at hy;simp at hy⟩
  rw [h8] at hx
  have:=Z0O z1 z2 hx;omega
theorem z0Q.none {rows:List (List b0h)} {n:Int} {d:List b0T} {m:Nat} {a:o0p} (h:z0Q (K0T rows n d) n.toNat m a):False:=by
 have h1:=h.CR
 have h2:rs (fun k=>pC (K0T rows n d) k * a.Ray.getD k 0) n.toNat=rs (fun _=>0 * 0) n.toNat:=b0F fun k hk=>by
  have h3:pC (K0T rows n d) k=0:=by
   unfold pC K0T
   rw [i1h]
   simp [hk,a0w]
  rw [h3,k1w,k1w]
 rw [h2,i0F,Rat.mul_zero] at h1
 exact i1A h1 (Rat.lt_irrefl)
def d1h:Value:=.agg #[.int .i64 0,.bool false,.slice none 0 0,.bool false,.slice none 0 0,.slice none 0 0,.slice none 0 0,.slice none 0 0]
end
section
open Go
set_option maxHeartbeats 4000000
variable {fl:Nat} {H G:a0e} {R:a0E} {v w:Value} {a b:List Nat}
theorem i0X (ha:Lim H v a) (hb:Lim H w b) (hf:fl≤H.size) (hna:a.length < 4611686018427387904) :
  a0S env fl V0m [v,w] H (fun r H'=>r=.int .i64 (y0u a b)∧Ext H H') R:=by
 refine a0g h1R hf (h:=?_)
 intro ρ h0
 have w1:IntKind.i64.wrap ((a.length:Int) - 1)=(a.length:Int) - 1:=a0R (by omega) (by omega)
 by_cases hab:a.length=b.length
 ·have hab':(a.length:Int)=(b.length:Int):=by omega
  simp [X0A,x0P,x0Q,T0t,h0,ha.slen,hb.slen,hab]
  rw [← hab,w1]
  have hcl:y0u a b=c0A (a0u a) (a0u b):=by simp [y0u,hab]
  rw [hcl]
  refine b0R (fun k t G'=>t.length=41∧get t 0=v∧get t 1=w∧get t 5=.int .i64 ((k:Int) - 1)∧G' = H∧k≤a.length∧a.drop k=b.drop k)
   (fun t G'=>t.length=41∧G' = H∧a=b) a.length (by simp [h0,hab]) ?_ ?_
  ·clear h0 ρ
   rintro k t G' ⟨ht,g0,g1,g5,rfl,hk,hd⟩
   obtain ⟨ρ,rfl⟩:=toT ht
   simp only [b0Q,Nat.reduceLT] at g0 g1 g5
   by_cases hk0:k=0
   ·subst hk0
    simp [I0z,g0,g1,g5]
    simpa using hd
   ·have e0:(k:Int) - 1=((k - 1:Nat):Int):=by omega
    have hka:k - 1 < a.length:=by omega
    have hkb:k - 1 < b.length:=by omega
    have hla:=ha.load hka (Ext.refl _)
    have hlb:=hb.load hkb (Ext.refl _)
    have w2:IntKind.i64.wrap (((k - 1:Nat):Int) - 1)=((k - 1:Nat):Int) - 1:=a0R (by omega) (by omega)
    rw [e0] at g5
    have hla':=ha.ia (k:=.i64) hka
    have hlb':=hb.ia (k:=.i64) hkb
    have hh:=s0y hab ha.ok hb.ok hka (by rw [show k - 1 + 1=k by omega];exact hd)
    have hfin:a.getD (k - 1) 0=b.getD (k - 1) 0→a.drop (k - 1)=b.drop (k - 1):=by
     intro he
     rw [i1Z hka,i1Z hkb,show k - 1 + 1=k by omega,hd]
     rw [i1h,i1m hka,i1h,i1m hkb] at he
     congr 1
    generalize a.getD (k - 1) 0=A at hla hh hfin
    generalize b.getD (k - 1) 0=B at hlb hh hfin
    simp [I0z,g0,g1,g5]
    refine a0G ?_
    simp [T0u,g0,g1,g5,hla,hla',hlb,hlb']
    refine ⟨fun hlt=>?_,fun hnlt=>?_⟩
    ·simp [T0v]
     rw [hh (by omega),c0b,i1n hlt]
    ·refine a0G ?_
     simp [T0w,g0,g1,g5,hla,hla',hlb,hlb']
     refine ⟨fun hlt=>?_,fun hge=>?_⟩
     ·simp [I0v]
      rw [hh (by omega),c0b,i1k (by omega),i1n hlt]
     ·simp [I0w,g5,w2]
      exact ⟨k - 1,by omega,g0,g1,rfl,by omega,hfin (by omega)⟩
  ·rintro t G' ⟨ht,rfl,hab2⟩
   obtain ⟨ρ,rfl⟩:=toT ht
   simp [I0x]
   rw [hab2];simp [c0A]
 ·have hab':¬ (a.length:Int)=(b.length:Int):=by omega
  have hcl:y0u a b=c0A a.length b.length:=by simp [y0u,hab]
  rw [hcl,c0b]
  by_cases hlt:a.length < b.length
  ·have hlt':(a.length:Int) < (b.length:Int):=by omega
   simp [X0A,x0P,x0Q,I0y,T0r,h0,ha.slen,hb.slen,hab,hlt]
  ·have hlt':¬ (a.length:Int) < (b.length:Int):=by omega
   have hgt:b.length < a.length:=by omega
   simp [X0A,x0P,x0Q,I0y,T0s,h0,ha.slen,hb.slen,hab,hlt,hgt]
theorem g0l {l:List Nat} {n:Nat}:a0u (l.take (n + 1))=a0u (l.take n) + 4294967296 ^ n * l.getD n 0:=by
 by_cases h:n < l.length
 ·exact a0P h
 ·rw [i1v (by omega),i1v (by omega),i1h,i1s (by omega)];simp
theorem u0u (ha:Lim H v a) (hb:Lim H w b) (hf:fl≤H.size) (hna:a.length < 1073741823) (hnb:b.length < 1073741823) :
  a0S env fl Z0p [v,w] H (fun r H'=>Lim H' r (a0o (a0u a + a0u b))∧Ext H H') R:=by
 refine a0g h1Q hf (h:=?_)
 intro ρ h0
 simp [d1b,T0n,T0o,T0p,T0q,h0]
 obtain ⟨N,hN⟩:∃ N,N=max a.length b.length:=⟨_,rfl⟩
 refine w0b (fun n ρ G=>ρ 0=v∧ρ 1=w∧ρ 7=.int .i64 (n:Int)∧∃ c out,ρ 6=.int .u64 ((c:Nat):Int)∧Ext H G∧Own H.size G a0h 1 (ρ 5) n (b0Y out)∧b0a out∧out.length=n∧c≤1∧(n=N + 1→c=0) ∧
   a0u out + 4294967296 ^ n * c=a0u (a.take n) + a0u (b.take n)) (N + 1) (by decide) ⟨by simp [h0],by simp [h0],by simp,0,[],by simp,Ext.refl H,by simp;exact Own.nil,by intro x hx;simp at hx,rfl,by omega,by omega,by simp [a0u]⟩ ?_
 clear h0 ρ
 rintro n ρ G hn1 ⟨g0,g1,g7,c,out,g6,hx,ho,hok,hol,hc,hc0,hs⟩
 have ka:=ha.mono hx
 have kb:=hb.mono hx
 have hA2:=g0l (l:=a) (n:=n)
 have hB2:=g0l (l:=b) (n:=n)
 have hA3:=b0Z ha.ok n
 have hB3:=b0Z hb.ok n
 have e9:=b0G (show n < 4611686018427387904 by omega)
 by_cases hgo:n < a.length ∨ n < b.length ∨ 0 < c
 ·have hnN:n < N + 1:=by
   rcases hgo with h | h | h
   ·omega
   ·omega
   ·by_cases hz:n=N + 1
    ·have:=hc0 hz;omega
    ·omega
  have htop:n=N→c + a.getD n 0 + b.getD n 0 < 4294967296:=by
   intro hz
   have h1:a.getD n 0=0:=by rw [i1h,i1s (by omega)];rfl
   have h2:b.getD n 0=0:=by rw [i1h,i1s (by omega)];rfl
   omega
  obtain ⟨s,g5⟩:∃ s,ρ 5=s:=⟨_,rfl⟩
  rw [g5] at ho
  have hA:n < a.length→iaV 1 v (.int .i64 (n:Int))=some (adr 1 v n)∧b0r G false 1 (adr 1 v n)=some (.int .u32 ((a.getD n 0:Nat):Int)):=fun h=>⟨ka.ia h,ka.load h (Ext.refl _)⟩
  have hB:n < b.length→iaV 1 w (.int .i64 (n:Int))=some (adr 1 w n)∧b0r G false 1 (adr 1 w n)=some (.int .u32 ((b.getD n 0:Nat):Int)):=fun h=>⟨kb.ia h,kb.load h (Ext.refl _)⟩
  have hAz:¬ n < a.length→a.getD n 0=0:=fun h=>by rw [i1h,i1s (by omega)];rfl
  have hBz:¬ n < b.length→b.getD n 0=0:=fun h=>by rw [i1h,i1s (by omega)];rfl
  generalize a.getD n 0=A at hA2 hA3 htop hA hAz
  generalize b.getD n 0=B at hB2 hB3 htop hB hBz
  obtain ⟨c2,hc2⟩:∃ c2,c + A + B=c2:=⟨_,rfl⟩
  have e3:IntKind.u32.wrap ((c2:Int))=((c2 % 4294967296:Nat):Int):=by rw [f0j];omega
  rw [hc2] at htop
  obtain ⟨s',G3,h1,h2,h3,h4⟩:=e0h (e2:=a0h) (new:=[.int .u32 ((c2 % 4294967296:Nat):Int)]) (c:=1) (bytes:=4) ho rfl rfl (by omega) (by omega) (by omega) hx.1
  have hfin:a0u (out ++ [c2 % 4294967296]) + 4294967296 ^ (n + 1) * (c2 / 4294967296)=a0u (a.take (n + 1)) + a0u (b.take (n + 1)):=by
   rw [c0e,hol,hA2,hB2,i1G]
   have e3:4294967296 ^ n * 4294967296 * (c2 / 4294967296)=4294967296 ^ n * (4294967296 * (c2 / 4294967296)):=i1z ..
   have e4:4294967296 ^ n * (c2 % 4294967296) + 4294967296 ^ n * (4294967296 * (c2 / 4294967296))=4294967296 ^ n * c2:=by rw [← i1w,k1L]
   have e5:4294967296 ^ n * c2=4294967296 ^ n * c + 4294967296 ^ n * A + 4294967296 ^ n * B:=by rw [← hc2,i1w,i1w]
   omega
  by_cases ia:n < a.length
  ·obtain ⟨a1,a2⟩:=hA ia
   by_cases ib:n < b.length
   ·obtain ⟨b1,b2⟩:=hB ib
    have hcp:True:=trivial
    have e1:IntKind.u64.wrap ((c:Int) + IntKind.u64.wrap (A:Int))=((c + A:Nat):Int):=by rw [a0x,a0x];omega
    have e2:IntKind.u64.wrap (((c + A:Nat):Int) + IntKind.u64.wrap (B:Int))=(c2:Int):=by rw [a0x,a0x];omega
    simp [p0t,g0,g1,g7,g6,ka.slen,kb.slen,ia,ib]
    refine i0d.mk true (by simp [hcp]) (fun _=>⟨hnN,?_⟩) (by simp)
    simp [-Int.natCast_emod,-Int.natCast_add,t0c,t0d,t0e,t0f,t0g,n0f,n0g,g0,g1,g6,g7,ka.slen,kb.slen,ia,ib,a1,a2,b1,b2,e1,e2,e3,g5,h1]
    unfold i0c
    simp [-Int.natCast_emod,-Int.natCast_add,n0h,g7,e9]
    refine d0k.mk ⟨by simp [g0],by simp [g1],by simp,c2 / 4294967296,by simp,h4 _ (i1j _) hx,out ++ [c2 % 4294967296],by simpa [b0Y] using h2,?_,by simp [hol],by omega,fun hz=>by have:=htop (by omega);omega,hfin⟩
    intro x hx
    rcases i1F.1 hx with hx | hx
    ·exact hok x hx
    ·simp at hx;omega
   ·have hBn:=hBz ib
    subst hBn
    have hcp:True:=trivial
    have e1:IntKind.u64.wrap ((c:Int) + IntKind.u64.wrap (A:Int))=(c2:Int):=by rw [a0x,a0x];omega
    simp [p0t,g0,g1,g7,g6,ka.slen,kb.slen,ia,ib]
    refine i0d.mk true (by simp [hcp]) (fun _=>⟨hnN,?_⟩) (by simp)
    simp [-Int.natCast_emod,-Int.natCast_add,t0c,t0d,t0e,t0f,t0g,n0f,n0g,g0,g1,g6,g7,ka.slen,kb.slen,ia,ib,a1,a2,e1,e3,g5,h1]
    unfold i0c
    simp [-Int.natCast_emod,-Int.natCast_add,n0h,g7,e9]
    refine d0k.mk ⟨by simp [g0],by simp [g1],by simp,c2 / 4294967296,by simp,h4 _ (i1j _) hx,out ++ [c2 % 4294967296],by simpa [b0Y] using h2,?_,by simp [hol],by omega,fun hz=>by have:=htop (by omega);omega,hfin⟩
    intro x hx
    rcases i1F.1 hx with hx | hx
    ·exact hok x hx
    ·simp at hx;omega
  ·have hAn:=hAz ia
   subst hAn
   by_cases ib:n < b.length
   ·obtain ⟨b1,b2⟩:=hB ib
    have hcp:True:=trivial
    have e2:IntKind.u64.wrap ((c:Int) + IntKind.u64.wrap (B:Int))=(c2:Int):=by rw [a0x,a0x];omega
    simp [p0t,g0,g1,g7,g6,ka.slen,kb.slen,ia,ib]
    refine i0d.mk true (by simp [hcp]) (fun _=>⟨hnN,?_⟩) (by simp)
    simp [-Int.natCast_emod,-Int.natCast_add,t0c,t0d,t0e,t0f,t0g,n0f,n0g,g0,g1,g6,g7,ka.slen,kb.slen,ia,ib,b1,b2,e2,e3,g5,h1]
    unfold i0c
    simp [-Int.natCast_emod,-Int.natCast_add,n0h,g7,e9]
    refine d0k.mk ⟨by simp [g0],by simp [g1],by simp,c2 / 4294967296,by simp,h4 _ (i1j _) hx,out ++ [c2 % 4294967296],by simpa [b0Y] using h2,?_,by simp [hol],by omega,fun hz=>by have:=htop (by omega);omega,hfin⟩
    intro x hx
    rcases i1F.1 hx with hx | hx
    ·exact hok x hx
    ·simp at hx;omega
   ·have hBn:=hBz ib
    subst hBn
    have hcc:c=c2:=by omega
    have hcp:0 < c2:=by omega
    rw [hcc] at g6
    simp [p0t,g0,g1,g7,g6,ka.slen,kb.slen,ia,ib,hcp]
    refine i0d.mk true (by simp [hcp]) (fun _=>⟨hnN,?_⟩) (by simp)
    simp [-Int.natCast_emod,-Int.natCast_add,t0c,t0d,t0e,t0f,t0g,n0f,n0g,g0,g1,g6,g7,ka.slen,kb.slen,ia,ib,e3,g5,h1]
    unfold i0c
    simp [-Int.natCast_emod,-Int.natCast_add,n0h,g7,e9]
    refine d0k.mk ⟨by simp [g0],by simp [g1],by simp,c2 / 4294967296,by simp,h4 _ (i1j _) hx,out ++ [c2 % 4294967296],by simpa [b0Y] using h2,?_,by simp [hol],by omega,fun hz=>by have:=htop (by omega);omega,hfin⟩
    intro x hx
    rcases i1F.1 hx with hx | hx
    ·exact hok x hx
    ·simp at hx;omega
 ·have h1:¬ n < a.length:=by omega
  have h2:¬ n < b.length:=by omega
  have h3:c=0:=by omega
  subst h3
  simp [p0t,g0,g1,g7,g6,ka.slen,kb.slen,h1,h2]
  refine i0d.mk false (by simp) (by simp) (fun _=>?_)
  rw [i1v (by omega),i1v (by omega),Nat.mul_zero,j1p] at hs
  obtain ⟨s,g5⟩:∃ s,ρ 5=s:=⟨_,rfl⟩
  rw [g5] at ho
  simp [I0u,g5]
  refine (f0v (l:=out) ⟨by rw [hol];exact ho.sl,hok⟩ hx.1 (by omega)).mono ?_
  rintro r G2 ⟨ht,hx2⟩
  simp
  intro _
  rw [← hs,← b0W out hok]
  exact ht
theorem N0g {x c:Nat} (hx:x < 4294967296) (h2:x % 2=0) (hc:c≤1):d0m 0 .or (.int .u32 (x:Int)) (.int .u32 (c:Int))=some (.int .u32 ((x + c:Nat):Int)):=by
 rw [j0Z]
 have e1:(BitVec.ofInt IntKind.u32.bits (x:Int) ||| BitVec.ofInt IntKind.u32.bits (c:Int)).toNat=x + c:=by
  show (BitVec.ofInt 32 (x:Int) ||| BitVec.ofInt 32 (c:Int)).toNat=x + c
  rw [BitVec.toNat_or,k1m,k1m]
  have e2:((x:Int) % (2 ^ 32:Nat)).toNat=x:=by omega
  have e3:((c:Int) % (2 ^ 32:Nat)).toNat=c:=by omega
  rw [e2,e3]
  have:=k1i (i:=1) (b:=c) (by omega) (x / 2)
  have e4:2 ^ 1 * (x / 2)=x:=by omega
  rw [e4] at this
  exact this.symm
 rw [e1,r0u]
 congr 3
 omega
theorem o0l {o:Bool} (ha:Lim H v a) (hf:fl≤H.size) (hna:a.length < 1073741822) :
  a0S env fl A0K [v,.bool o] H (fun r H'=>(Lim H' r (a0o (2 * a0u a + o.toNat))∧newB H r)∧Ext H H') R:=by
 refine a0g e1C hf (h:=?_)
 intro ρ h0
 simp [L0E,D0Y,D0Z,E0a,E0b,h0]
 cases o with
 | true =>
  simp [E0c,u0N]
  refine e0L (fun n ρ G=>ρ 0=v∧ρ 7=.int .i64 (n:Int)∧∃ c,ρ 6=.int .u32 ((c:Nat):Int)∧Ext H G∧∃ out,Own H.size G a0h 1 (ρ 5) n (b0Y out)∧b0a out∧out.length=n∧c≤1 ∧
    a0u out + 4294967296 ^ n * c=2 * a0u (a.take n) + 1) a.length (by decide) ⟨by simp [h0],by simp,1,by simp,Ext.refl H,[],by simp;exact Own.nil,by intro x hx;simp at hx,rfl,by omega,by simp [a0u]⟩ ?_
  clear h0 ρ
  rintro n ρ G hn1 ⟨g0,g7,c,g6,hx,out,ho,hok,hol,hc,hs⟩
  have ka:=ha.mono hx
  have e9:=b0G (show n < 4611686018427387904 by omega)
  obtain ⟨s,g5⟩:∃ s,ρ 5=s:=⟨_,rfl⟩
  rw [g5] at ho
  simp [u0O,g0,g7,ka.slen]
  refine g0a.mk (by simp) (fun hlt=>?_) (fun heq=>?_)
  ·have hA2:=a0P hlt
   have hA3:=b0Z ha.ok n
   have a1:=ka.ia hlt (k:=.i64)
   have a2:=ka.load hlt (Ext.refl _)
   generalize a.getD n 0=A at hA2 hA3 a2
   have q1:d0m 0 .shl (.int .u32 (A:Int)) (.int .u64 1)=some (.int .u32 ((A * 2 ^ 1 % 4294967296:Nat):Int)):=r0m (s:=1) (by omega)
   have q2:=N0g (x:=A * 2 ^ 1 % 4294967296) (c:=c) (by omega) (by omega) hc
   have q3:d0m 0 .shr (.int .u32 (A:Int)) (.int .u64 31)=some (.int .u32 ((A / 2 ^ 31:Nat):Int)):=r0n (s:=31) (by omega)
   obtain ⟨y,hy⟩:∃ y,A * 2 ^ 1 % 4294967296 + c=y:=⟨_,rfl⟩
   obtain ⟨y0,hy0⟩:∃ y0,A * 2 ^ 1 % 4294967296=y0:=⟨_,rfl⟩
   obtain ⟨c',hc'⟩:∃ c',A / 2 ^ 31=c':=⟨_,rfl⟩
   rw [hy] at q2
   rw [hy0] at q1 q2
   rw [hc'] at q3
   obtain ⟨s',G3,h1,h2,h3,h4⟩:=e0h (e2:=a0h) (new:=[.int .u32 (y:Int)]) (c:=1) (bytes:=4) ho rfl rfl (by omega) (by omega) (by omega) hx.1
   have hx3:=h4 _ (i1j _) hx
   have kb:=ha.mono hx3
   have b1:=kb.ia hlt (k:=.i64)
   have b2:=kb.load hlt (Ext.refl _)
   have hfin:a0u (out ++ [y]) + 4294967296 ^ (n + 1) * c' = 2 * a0u (a.take (n + 1)) + 1:=by
    rw [c0e,hol,hA2,i1G]
    have e3:4294967296 ^ n * 4294967296 * c' = 4294967296 ^ n * (4294967296 * c'):=i1z ..
    have e4:y + 4294967296 * c' = c + 2 * A:=by omega
    have e5:4294967296 ^ n * y + 4294967296 ^ n * (4294967296 * c')=4294967296 ^ n * c + 4294967296 ^ n * (2 * A):=by rw [← i1w,e4,i1w]
    have e6:4294967296 ^ n * (2 * A)=2 * (4294967296 ^ n * A):=by rw [k1g]
    omega
   have b2':b0r G3 false 1 (adr 1 v n)=some (.int .u32 (A:Int)):=by
    rw [ka.load hlt (Ext.refl _)] at a2
    rw [b2];exact a2
   simp [-Int.natCast_emod,-Int.natCast_add,-j0Z,u0P,u0Q,g0,g5,g6,g7,a1,a2,q1,q2,q3,h1,b2']
   unfold i0c
   simp [-Int.natCast_add,u0R,g7,e9]
   refine d0k.mk ⟨by simp [g0],by simp,c',by simp,hx3,out ++ [y],by simpa [b0Y] using h2,?_,by simp [hol],by omega,hfin⟩
   intro x hx
   rcases i1F.1 hx with hx | hx
   ·exact hok x hx
   ·simp at hx;omega
  ·subst heq
   rw [i1x] at hs
   obtain ⟨s',G3,h1,h2,h3,h4⟩:=e0h (e2:=a0h) (new:=[.int .u32 (c:Int)]) (c:=1) (bytes:=4) ho rfl rfl (by omega) (by omega) (by omega) hx.1
   have hx3:=h4 _ (i1j _) hx
   simp [-Int.natCast_add,q0U,q0V,g5,g6,h1]
   have hok2:b0a (out ++ [c]):=by
    intro x hx
    rcases i1F.1 hx with hx | hx
    ·exact hok x hx
    ·simp at hx;omega
   refine (e0T (l:=out ++ [c]) ⟨by have:=h2.sl;simpa [hol,b0Y] using this,hok2⟩ hx3.1 (by simp;omega)).mono ?_
   rintro r G2 ⟨⟨ht,hsb⟩,hx2⟩
   simp
   intro _
   rw [b0W _ hok2,c0e,hol,hs] at ht
   exact ⟨ht,(Own.newB h2).of hsb⟩
 | false =>
  simp [u0N]
  refine e0L (fun n ρ G=>ρ 0=v∧ρ 7=.int .i64 (n:Int)∧∃ c,ρ 6=.int .u32 ((c:Nat):Int)∧Ext H G∧∃ out,Own H.size G a0h 1 (ρ 5) n (b0Y out)∧b0a out∧out.length=n∧c≤1 ∧
    a0u out + 4294967296 ^ n * c=2 * a0u (a.take n) + 0) a.length (by decide) ⟨by simp [h0],by simp,0,by simp,Ext.refl H,[],by simp;exact Own.nil,by intro x hx;simp at hx,rfl,by omega,by simp [a0u]⟩ ?_
  clear h0 ρ
  rintro n ρ G hn1 ⟨g0,g7,c,g6,hx,out,ho,hok,hol,hc,hs⟩
  have ka:=ha.mono hx
  have e9:=b0G (show n < 4611686018427387904 by omega)
  obtain ⟨s,g5⟩:∃ s,ρ 5=s:=⟨_,rfl⟩
  rw [g5] at ho
  simp [u0O,g0,g7,ka.slen]
  refine g0a.mk (by simp) (fun hlt=>?_) (fun heq=>?_)
  ·have hA2:=a0P hlt
   have hA3:=b0Z ha.ok n
   have a1:=ka.ia hlt (k:=.i64)
   have a2:=ka.load hlt (Ext.refl _)
   generalize a.getD n 0=A at hA2 hA3 a2
   have q1:d0m 0 .shl (.int .u32 (A:Int)) (.int .u64 1)=some (.int .u32 ((A * 2 ^ 1 % 4294967296:Nat):Int)):=r0m (s:=1) (by omega)
   have q2:=N0g (x:=A * 2 ^ 1 % 4294967296) (c:=c) (by omega) (by omega) hc
   have q3:d0m 0 .shr (.int .u32 (A:Int)) (.int .u64 31)=some (.int .u32 ((A / 2 ^ 31:Nat):Int)):=r0n (s:=31) (by omega)
   obtain ⟨y,hy⟩:∃ y,A * 2 ^ 1 % 4294967296 + c=y:=⟨_,rfl⟩
   obtain ⟨y0,hy0⟩:∃ y0,A * 2 ^ 1 % 4294967296=y0:=⟨_,rfl⟩
   obtain ⟨c',hc'⟩:∃ c',A / 2 ^ 31=c':=⟨_,rfl⟩
   rw [hy] at q2
   rw [hy0] at q1 q2
   rw [hc'] at q3
   obtain ⟨s',G3,h1,h2,h3,h4⟩:=e0h (e2:=a0h) (new:=[.int .u32 (y:Int)]) (c:=1) (bytes:=4) ho rfl rfl (by omega) (by omega) (by omega) hx.1
   have hx3:=h4 _ (i1j _) hx
   have kb:=ha.mono hx3
   have b1:=kb.ia hlt (k:=.i64)
   have b2:=kb.load hlt (Ext.refl _)
   have hfin:a0u (out ++ [y]) + 4294967296 ^ (n + 1) * c' = 2 * a0u (a.take (n + 1)) + 0:=by
    rw [c0e,hol,hA2,i1G]
    have e3:4294967296 ^ n * 4294967296 * c' = 4294967296 ^ n * (4294967296 * c'):=i1z ..
    have e4:y + 4294967296 * c' = c + 2 * A:=by omega
    have e5:4294967296 ^ n * y + 4294967296 ^ n * (4294967296 * c')=4294967296 ^ n * c + 4294967296 ^ n * (2 * A):=by rw [← i1w,e4,i1w]
    have e6:4294967296 ^ n * (2 * A)=2 * (4294967296 ^ n * A):=by rw [k1g]
    omega
   have b2':b0r G3 false 1 (adr 1 v n)=some (.int .u32 (A:Int)):=by
    rw [ka.load hlt (Ext.refl _)] at a2
    rw [b2];exact a2
   simp [-Int.natCast_emod,-Int.natCast_add,-j0Z,u0P,u0Q,g0,g5,g6,g7,a1,a2,q1,q2,q3,h1,b2']
   unfold i0c
   simp [-Int.natCast_add,u0R,g7,e9]
   refine d0k.mk ⟨by simp [g0],by simp,c',by simp,hx3,out ++ [y],by simpa [b0Y] using h2,?_,by simp [hol],by omega,hfin⟩
   intro x hx
   rcases i1F.1 hx with hx | hx
   ·exact hok x hx
   ·simp at hx;omega
  ·subst heq
   rw [i1x] at hs
   obtain ⟨s',G3,h1,h2,h3,h4⟩:=e0h (e2:=a0h) (new:=[.int .u32 (c:Int)]) (c:=1) (bytes:=4) ho rfl rfl (by omega) (by omega) (by omega) hx.1
   have hx3:=h4 _ (i1j _) hx
   simp [-Int.natCast_add,q0U,q0V,g5,g6,h1]
   have hok2:b0a (out ++ [c]):=by
    intro x hx
    rcases i1F.1 hx with hx | hx
    ·exact hok x hx
    ·simp at hx;omega
   refine (e0T (l:=out ++ [c]) ⟨by have:=h2.sl;simpa [hol,b0Y] using this,hok2⟩ hx3.1 (by simp;omega)).mono ?_
   rintro r G2 ⟨⟨ht,hsb⟩,hx2⟩
   simp
   intro _
   rw [b0W _ hok2,c0e,hol,hs] at ht
   exact ⟨ht,(Own.newB h2).of hsb⟩
theorem e0p {p z x:Nat} {L:List Nat} (hb:G.blk p=.row false a0h (b0Y L)) (hf:fl≤p) (hz:z < L.length) :
  f0g fl G 1 (.pointer (some ⟨p,z,none⟩)) (.int .u32 (x:Int))=some (G.setIfInBounds p (.row false a0h (b0Y (L.set z x)))):=by
 have h1:a0V (.int .u32 (x:Int))=[.int .u32 (x:Int)]:=rfl
 rw [n0t hb hf (by rw [h1];rfl) (by simp;omega) (by rw [h1];rfl),h1,d0I]
 simp [b0t]
theorem K0i {n:Nat} {s:Value} (h:Own fl G a0h 1 s n (b0Y a)) (hn:n=a.length) (h0:0 < a.length):∃ p cap,s=.slice (some ⟨p,0,none⟩) a.length cap∧G.blk p=.row false a0h (b0Y a)∧fl≤p:=by
 obtain ⟨hl,⟨_,h1⟩ | ⟨b,cap,h1,h2,h3⟩⟩:=h
 ·omega
 ·exact ⟨b,cap,by rw [← hn];exact h1,h2,h3⟩
theorem k0R (ha:Lim H v a) (hb:Lim H w b) (hf:fl≤H.size) (hna:a.length < 1073741824) (hle:b.length≤a.length) (hnat:a0u b≤a0u a) (h0a:0 < a.length) :
  a0S env fl M0V [v,w] H (fun r H'=>(Lim H' r (a0o (a0u a - a0u b))∧newB H r)∧Ext H H') R:=by
 refine a0g h1S hf (h:=?_)
 intro ρ h0
 have hx4:Ext H (H.push (.row false a0h [])):=(Ext.refl H).push
 obtain ⟨v',G',h1,h2,h3,h4⟩:=j0Y (fl:=H.size) (G:=H.push (.row false a0h [])) (s:=.slice (some ⟨H.size,0,none⟩) 0 0) (e:=a0h) (cs:=[]) (sz:=1) (n:=0) (bytes:=4) (e2:=a0h)
  (Own.mk a0D rfl (i1j _)) (ha.mono hx4).1 k0q (by omega) (by omega) (by omega) (by simp)
 rw [i1P,j1J] at h2
 obtain ⟨p,cap,rfl,hbp,hp⟩:=K0i h2 rfl h0a
 have hx5:Ext H G':=h4 H (i1j _) hx4
 simp [d1c,T0x,T0y,T0z,T0A,h0,h1]
 refine e0L (fun n ρ G=>ρ 1=w∧ρ 5=.slice (some ⟨p,0,none⟩) a.length cap∧ρ 7=.int .i64 (n:Int)∧∃ c,ρ 6=.int .u64 ((c:Nat):Int)∧Ext H G∧∃ L,a0e.blk G p=.row false a0h (b0Y L)∧L.length=a.length∧b0a L∧(∀ j,n≤j→L.getD j 0=a.getD j 0)∧c≤1 ∧
   a0u (L.take n) + a0u (b.take n)=a0u (a.take n) + 4294967296 ^ n * c) a.length (by decide) ⟨by simp [h0],by simp,by simp,0,by simp,hx5,a,hbp,rfl,ha.ok,fun _ _=>rfl,by omega,by simp [a0u]⟩ ?_
 clear h0 ρ h1 h2 h3 h4 hbp hx5 hx4 G'
 rintro n ρ G hn1 ⟨g1,g5,g7,c,g6,hx,L,hbp,hL,hok,hrest,hc,hs⟩
 have e9:=b0G (show n < 4611686018427387904 by omega)
 have hsl:g0Z (.slice (some ⟨p,0,none⟩) a.length cap)=some (.int .i64 (a.length:Int)):=rfl
 simp [T0B,g5,g7,hsl]
 refine g0a.mk (by simp) (fun hlt=>?_) (fun heq=>?_)
 ·have kb:=hb.mono hx
  have hnL:n < L.length:=by omega
  obtain ⟨o1,o2⟩:=f0u (k:=.i64) (cap:=cap) hbp hnL hL
  have hA2:=a0P hlt
  have hB2:=g0l (l:=b) (n:=n)
  have hA3:=b0Z ha.ok n
  have hB3:=b0Z hb.ok n
  rw [hrest n (i1j _)] at o2
  have hB:n < b.length→iaV 1 w (.int .i64 (n:Int))=some (adr 1 w n)∧b0r G false 1 (adr 1 w n)=some (.int .u32 ((b.getD n 0:Nat):Int)):=fun h=>⟨kb.ia h,kb.load h (Ext.refl _)⟩
  have hBz:¬ n < b.length→b.getD n 0=0:=fun h=>by rw [i1h,i1s (by omega)];rfl
  generalize a.getD n 0=A at hA2 hA3 o2
  generalize b.getD n 0=B at hB2 hB3 hB hBz
  obtain ⟨S,hS⟩:∃ S,c + B=S:=⟨_,rfl⟩
  have eA:IntKind.u64.wrap (A:Int)=(A:Int):=by rw [a0x];omega
  by_cases ib:n < b.length
  ·obtain ⟨b1,b2⟩:=hB ib
   have e2:IntKind.u64.wrap ((c:Int) + IntKind.u64.wrap (B:Int))=(S:Int):=by rw [a0x,a0x];omega
   simp [-Int.natCast_add,I0B,I0C,T0C,g1,g6,g7,kb.slen,ib,b1,b2,e2]
   by_cases hge:S≤A
   ·have q1:IntKind.u64.wrap ((A:Int) - (S:Int))=((A - S:Nat):Int):=by rw [a0x];omega
    have q2:IntKind.u32.wrap (((A - S:Nat):Int))=((A - S:Nat):Int):=by rw [f0j];omega
    have hst:=e0p (fl:=H.size) (x:=A - S) hbp hp hnL
    simp [-Int.natCast_add,t0h,I0D,v0F,g1,g5,g6,g7,o1,o2,eA,hge,q1,q2,hst]
    have hfin:a0u ((L.set n (A-S)).take (n + 1)) + a0u (b.take (n + 1))=a0u (a.take (n + 1)) + 4294967296 ^ (n + 1) * 0:=by
     rw [d0o hnL,hA2,hB2,i1G]
     have e3:4294967296 ^ n * 4294967296 * 0=4294967296 ^ n * (4294967296 * 0):=i1z ..
     have e4:(A-S) + c + B=A + 4294967296 * 0:=by omega
     have e5:4294967296 ^ n * (A-S) + 4294967296 ^ n * c + 4294967296 ^ n * B=4294967296 ^ n * A + 4294967296 ^ n * (4294967296 * 0):=by rw [← i1w,← i1w,e4,i1w]
     omega
    unfold i0c
    simp [-Int.natCast_add,n0i,g7,e9]
    exact d0k.mk ⟨by simp [g1],by simp [g5],by simp,0,by simp,hx.set hp,L.set n (A-S),a0z (a0i hbp),by simp [hL],b0X hok (by omega),fun j hj=>by have h:=(b0L (l:=L) (z:=A-S) (show n ≠ j by omega)).trans (hrest j (by omega));rw [i1h,i1h] at h;exact h,by omega,hfin⟩
   ·have hge':A < S:=by omega
    have q0:IntKind.u64.wrap ((A:Int) + 4294967296)=((A + 4294967296:Nat):Int):=by rw [a0x];omega
    have q1:IntKind.u64.wrap (((A + 4294967296:Nat):Int) - (S:Int))=((A + 4294967296 - S:Nat):Int):=by rw [a0x];omega
    have q2:IntKind.u32.wrap (((A + 4294967296 - S:Nat):Int))=((A + 4294967296 - S:Nat):Int):=by rw [f0j];omega
    have hst:=e0p (fl:=H.size) (x:=A + 4294967296 - S) hbp hp hnL
    simp [-Int.natCast_add,t0h,v0G,v0H,g1,g5,g6,g7,o1,o2,eA,hge,hge',q0,q1,q2,hst]
    have hfin:a0u ((L.set n (A+4294967296-S)).take (n + 1)) + a0u (b.take (n + 1))=a0u (a.take (n + 1)) + 4294967296 ^ (n + 1) * 1:=by
     rw [d0o hnL,hA2,hB2,i1G]
     have e3:4294967296 ^ n * 4294967296 * 1=4294967296 ^ n * (4294967296 * 1):=i1z ..
     have e4:(A+4294967296-S) + c + B=A + 4294967296 * 1:=by omega
     have e5:4294967296 ^ n * (A+4294967296-S) + 4294967296 ^ n * c + 4294967296 ^ n * B=4294967296 ^ n * A + 4294967296 ^ n * (4294967296 * 1):=by rw [← i1w,← i1w,e4,i1w]
     omega
    unfold i0c
    simp [-Int.natCast_add,n0i,g7,e9]
    exact d0k.mk ⟨by simp [g1],by simp [g5],by simp,1,by simp,hx.set hp,L.set n (A+4294967296-S),a0z (a0i hbp),by simp [hL],b0X hok (by omega),fun j hj=>by have h:=(b0L (l:=L) (z:=A+4294967296-S) (show n ≠ j by omega)).trans (hrest j (by omega));rw [i1h,i1h] at h;exact h,by omega,hfin⟩
  ·have hBn:=hBz ib
   have hcS:c=S:=by omega
   rw [hcS] at g6
   simp [-Int.natCast_add,I0B,I0C,g1,g6,g7,kb.slen,ib]
   by_cases hge:S≤A
   ·have q1:IntKind.u64.wrap ((A:Int) - (S:Int))=((A - S:Nat):Int):=by rw [a0x];omega
    have q2:IntKind.u32.wrap (((A - S:Nat):Int))=((A - S:Nat):Int):=by rw [f0j];omega
    have hst:=e0p (fl:=H.size) (x:=A - S) hbp hp hnL
    simp [-Int.natCast_add,t0h,I0D,v0F,g1,g5,g6,g7,o1,o2,eA,hge,q1,q2,hst]
    have hfin:a0u ((L.set n (A-S)).take (n + 1)) + a0u (b.take (n + 1))=a0u (a.take (n + 1)) + 4294967296 ^ (n + 1) * 0:=by
     rw [d0o hnL,hA2,hB2,i1G]
     have e3:4294967296 ^ n * 4294967296 * 0=4294967296 ^ n * (4294967296 * 0):=i1z ..
     have e4:(A-S) + c + B=A + 4294967296 * 0:=by omega
     have e5:4294967296 ^ n * (A-S) + 4294967296 ^ n * c + 4294967296 ^ n * B=4294967296 ^ n * A + 4294967296 ^ n * (4294967296 * 0):=by rw [← i1w,← i1w,e4,i1w]
     omega
    unfold i0c
    simp [-Int.natCast_add,n0i,g7,e9]
    exact d0k.mk ⟨by simp [g1],by simp [g5],by simp,0,by simp,hx.set hp,L.set n (A-S),a0z (a0i hbp),by simp [hL],b0X hok (by omega),fun j hj=>by have h:=(b0L (l:=L) (z:=A-S) (show n ≠ j by omega)).trans (hrest j (by omega));rw [i1h,i1h] at h;exact h,by omega,hfin⟩
   ·have hge':A < S:=by omega
    have q0:IntKind.u64.wrap ((A:Int) + 4294967296)=((A + 4294967296:Nat):Int):=by rw [a0x];omega
    have q1:IntKind.u64.wrap (((A + 4294967296:Nat):Int) - (S:Int))=((A + 4294967296 - S:Nat):Int):=by rw [a0x];omega
    have q2:IntKind.u32.wrap (((A + 4294967296 - S:Nat):Int))=((A + 4294967296 - S:Nat):Int):=by rw [f0j];omega
    have hst:=e0p (fl:=H.size) (x:=A + 4294967296 - S) hbp hp hnL
    simp [-Int.natCast_add,t0h,v0G,v0H,g1,g5,g6,g7,o1,o2,eA,hge,hge',q0,q1,q2,hst]
    have hfin:a0u ((L.set n (A+4294967296-S)).take (n + 1)) + a0u (b.take (n + 1))=a0u (a.take (n + 1)) + 4294967296 ^ (n + 1) * 1:=by
     rw [d0o hnL,hA2,hB2,i1G]
     have e3:4294967296 ^ n * 4294967296 * 1=4294967296 ^ n * (4294967296 * 1):=i1z ..
     have e4:(A+4294967296-S) + c + B=A + 4294967296 * 1:=by omega
     have e5:4294967296 ^ n * (A+4294967296-S) + 4294967296 ^ n * c + 4294967296 ^ n * B=4294967296 ^ n * A + 4294967296 ^ n * (4294967296 * 1):=by rw [← i1w,← i1w,e4,i1w]
     omega
    unfold i0c
    simp [-Int.natCast_add,n0i,g7,e9]
    exact d0k.mk ⟨by simp [g1],by simp [g5],by simp,1,by simp,hx.set hp,L.set n (A+4294967296-S),a0z (a0i hbp),by simp [hL],b0X hok (by omega),fun j hj=>by have h:=(b0L (l:=L) (z:=A+4294967296-S) (show n ≠ j by omega)).trans (hrest j (by omega));rw [i1h,i1h] at h;exact h,by omega,hfin⟩
 ·subst heq
  rw [i1v (by omega),i1v hle,i1x] at hs
  have hLlt:=g0k L hok
  rw [hL] at hLlt
  have hc0:c=0:=by
   rcases k1o c with h | h
   ·exact h
   ·have:c=1:=by omega
    subst this
    omega
  subst hc0
  simp [I0A,g5]
  refine (e0T (l:=L) ⟨⟨by simp,.inr ⟨p,0,cap,false,b0Y L,by rw [hL],hbp,by simp,by rw [j1q,j1s,← i0P (l:=L),i1x]⟩⟩,hok⟩ hx.1 (by omega)).mono ?_
  rintro r G2 ⟨⟨ht,hsb⟩,hx2⟩
  simp
  intro _
  rw [b0W _ hok,show a0u L=a0u a - a0u b by omega] at ht
  refine ⟨ht,fun q hq=>?_⟩
  rw [hsb] at hq
  simp only [slB,i1l] at hq
  omega
theorem m0B (ha:Lim H v a) (hb:Lim H w b) (hf:fl≤H.size) (hna:a.length < 1073741824) (hle:b.length≤a.length) (hnat:a0u b≤a0u a) (h0a:0 < a.length) :
  a0S env fl M0V [v,w] H (fun r H'=>Lim H' r (a0o (a0u a - a0u b))∧Ext H H') R:=(k0R ha hb hf hna hle hnat h0a).mono fun _ _ h=>⟨h.1.1,h.2⟩
theorem k0j:∀ n,a0u (List.replicate n 0)=0
 | 0=>rfl
 | n + 1=>by rw [l1e,a0u,k0j n]
theorem p0B (n:Nat):b0Y (List.replicate n 0)=e0G [.int .u32 0] n:=by
 unfold b0Y
 induction n with
 | zero=>rfl
 | succ n ih=>simp only [l1e,List.map_cons,ih];rfl
theorem u0v (ha:Lim H v a) (hb:Lim H w b) (hf:fl≤H.size) (hna:a.length < 536870912) (hnb:b.length < 536870912) :
  a0S env fl Z0q [v,w] H (fun r H'=>Lim H' r (a0o (a0u a * a0u b))∧Ext H H') R:=by
 refine a0g h1T hf (h:=?_)
 intro ρ h0
 have w1:IntKind.i64.wrap ((a.length:Int) + (b.length:Int))=((a.length + b.length:Nat):Int):=by rw [a0R (by omega) (by omega)];omega
 have hm:=X0v (bytes:=4) (k:=.i64) (k':=.i64) (l:=((a.length + b.length:Nat):Int)) (c:=((a.length + b.length:Nat):Int)) (by omega) (by omega) (by omega) (by omega)
 simp [-Int.natCast_add,d1d,T0D,T0E,T0F,h0,ha.slen,hb.slen,w1,hm]
 rw [← p0B]
 generalize hN:a.length + b.length=N
 generalize hG:Array.push H _=G0
 obtain ⟨hx0,b0⟩:=g0R hG
 clear hG
 refine e0L (fun n ρ G=>ρ 0=v∧ρ 1=w∧ρ 5=.slice (some ⟨H.size,0,none⟩) N N∧ρ 6=.int .i64 (n:Int)∧Ext H G∧∃ o,a0e.blk G H.size=.row false a0h (b0Y o)∧o.length=N∧b0a o∧a0u o=a0u (a.take n) * a0u b∧∀ q,n + b.length≤q→o.getD q 0=0)
  a.length (by decide) ⟨by simp [h0],by simp [h0],by simp,by simp,hx0,List.replicate N 0,b0,by simp,by intro x hx;simp at hx;omega,by simp [a0u,k0j],fun q _=>by simp [i1h,j1T];split <;> rfl⟩ ?_
 clear h0 ρ w1 hm b0 hx0 G0
 rintro i ρ G hn1 ⟨g0,g1,g5,g6,hx,o,hbo,hol,hok,hs,hz⟩
 have ka:=ha.mono hx
 have e8:=b0G (show i < 4611686018427387904 by omega)
 simp [T0G,g0,g6,ka.slen]
 refine g0a.mk (by simp) (fun hlt=>?_) (fun heq=>?_)
 ·have hA2:=a0P hlt
  have hA3:=b0Z ha.ok i
  have a1:=ka.ia hlt (k:=.i64)
  have aL:∀ G2,Ext H G2→b0r G2 false 1 (adr 1 v i)=some (.int .u32 ((a.getD i 0:Nat):Int)):=fun G2 h=>ha.load hlt h
  generalize a.getD i 0=U at hA2 hA3 aL
  simp [T0H,T0I]
  refine e0L (fun q ρ G=>ρ 0=v∧ρ 1=w∧ρ 5=.slice (some ⟨H.size,0,none⟩) N N∧ρ 6=.int .i64 (i:Int)∧ρ 8=.int .i64 (q:Int)∧∃ c,ρ 7=.int .u64 ((c:Nat):Int)∧Ext H G∧∃ o,a0e.blk G H.size=.row false a0h (b0Y o)∧o.length=N∧b0a o∧c < 4294967296 ∧
    a0u o + 4294967296 ^ (i + q) * c=a0u (a.take i) * a0u b + 4294967296 ^ i * (U * a0u (b.take q))∧∀ q,i + b.length≤q→o.getD q 0=0)
   b.length (by decide) ⟨by simp [g0],by simp [g1],by simp [g5],by simp [g6],by simp,0,by simp,hx,o,hbo,hol,hok,by omega,by simp [hs,a0u],hz⟩ ?_
  clear g0 g1 g5 g6 hx hbo hol hok hs hz ka o G ρ
  rintro q ρ G hq1 ⟨g0,g1,g5,g6,g8,c,g7,hx,o,hbo,hol,hok,hc,hs,hz⟩
  have kb:=hb.mono hx
  have ka:=ha.mono hx
  have e9:=b0G (show q < 4611686018427387904 by omega)
  simp [T0J,g1,g8,kb.slen]
  refine g0a.mk (by simp) (fun hq=>?_) (fun heq=>?_)
  ·have hB2:=a0P hq
   have hB3:=b0Z hb.ok q
   have b1:=kb.ia hq (k:=.i64)
   have b2:=kb.load hq (Ext.refl _)
   have a2:=aL G hx
   generalize b.getD q 0=V at hB2 hB3 b2
   have hlo:i + q < o.length:=by omega
   obtain ⟨hio,hro⟩:=f0u (k:=.i64) (cap:=N) hbo hlo hol
   have hset:=h0T o (i + q) ((c + (U * V + o.getD (i + q) 0)) % 4294967296) hlo
   have hW3:=b0Z hok (i + q)
   generalize o.getD (i + q) 0=Wd at hro hset hW3
   have hUV:U * V≤4294967295 * 4294967295:=j1f (by omega) (by omega)
   have e1:IntKind.u64.wrap (U:Int)=(U:Int):=by rw [a0x];omega
   have e2:IntKind.u64.wrap (V:Int)=(V:Int):=by rw [a0x];omega
   have e3:IntKind.u64.wrap (Wd:Int)=(Wd:Int):=by rw [a0x];omega
   have e4:IntKind.u64.wrap ((U:Int) * (V:Int))=((U * V:Nat):Int):=by rw [a0x,← j1I];omega
   have e5:IntKind.u64.wrap (((U * V:Nat):Int) + (Wd:Int))=((U * V + Wd:Nat):Int):=by rw [a0x];omega
   have e7:IntKind.i64.wrap ((i:Int) + (q:Int))=((i + q:Nat):Int):=by rw [a0R (by omega) (by omega)];omega
   obtain ⟨c1,hc1⟩:∃ c1,c + (U * V + Wd)=c1:=⟨_,rfl⟩
   have e6:IntKind.u64.wrap (((U * V + Wd:Nat):Int) + (c:Int))=(c1:Int):=by rw [a0x];omega
   rw [hc1] at hset
   have q2:IntKind.u32.wrap ((c1:Int))=((c1 % 4294967296:Nat):Int):=by rw [f0j];omega
   have hst:=e0p (fl:=H.size) (x:=c1 % 4294967296) hbo (i1j _) hlo
   simp
   refine a0G ?_
   simp [-Int.natCast_add,-Int.natCast_mul,-Int.natCast_emod,-Int.natCast_ediv,T0K,T0L,T0M,g0,g1,g5,g6,g7,g8,a1,a2,b1,b2,e1,e2,e3,e4,e5,e6,e7,hio,hro,q2,hst]
   unfold i0c
   simp [-Int.natCast_add,I0E,g8,e9]
   refine d0k.mk ⟨by simp [g0],by simp [g1],by simp [g5],by simp [g6],by simp,c1 / 4294967296,by simp,hx.set (i1j _),o.set (i + q) (c1 % 4294967296),a0z (a0i hbo),by simp [hol],b0X hok (by omega),by omega,?_,?_⟩
   ·have f1:4294967296 ^ (i + (q + 1)) * (c1 / 4294967296)=4294967296 ^ (i + q) * (4294967296 * (c1 / 4294967296)):=by
     rw [show i + (q + 1)=i + q + 1 by omega,i1G,i1z]
    have f2:4294967296 ^ (i + q) * (c1 % 4294967296) + 4294967296 ^ (i + q) * (4294967296 * (c1 / 4294967296))=4294967296 ^ (i + q) * c1:=by rw [← i1w,k1L]
    have f3:4294967296 ^ (i + q) * c1=4294967296 ^ (i + q) * c + (4294967296 ^ (i + q) * (U * V) + 4294967296 ^ (i + q) * Wd):=by rw [← hc1,i1w,i1w]
    have f4:4294967296 ^ i * (U * (a0u (List.take q b) + 4294967296 ^ q * V))=4294967296 ^ i * (U * a0u (List.take q b)) + 4294967296 ^ (i + q) * (U * V):=by
     rw [i1w,i1w,k1h]
     congr 1
     rw [i1z,k1g U]
    rw [hB2,f4,f1]
    omega
   ·intro r hr
    have:=hz r hr
    have h:=(b0L (l:=o) (z:=c1 % 4294967296) (show i + q ≠ r by omega)).trans this
    rw [i1h] at h;exact h
  ·subst heq
   have hlo:i + b.length < o.length:=by omega
   obtain ⟨hio,hro⟩:=f0u (k:=.i64) (cap:=N) hbo hlo hol
   have hset:=h0T o (i + b.length) (c % 4294967296) hlo
   rw [hz _ (i1j _)] at hset
   have e7:IntKind.i64.wrap ((i:Int) + (b.length:Int))=((i + b.length:Nat):Int):=by rw [a0R (by omega) (by omega)];omega
   have q2:IntKind.u32.wrap ((c:Int))=(c:Int):=by rw [f0j];omega
   have hst:=e0p (fl:=H.size) (x:=c) hbo (i1j _) hlo
   simp [-Int.natCast_add,I0F,g1,g5,g6,g7,kb.slen,e7,q2,hio,hst]
   unfold i0c
   simp [-Int.natCast_add,I0G,g6,e8]
   refine d0k.mk ⟨by simp [g0],by simp [g1],by simp [g5],by simp,hx.set (i1j _),o.set (i + b.length) c,a0z (a0i hbo),by simp [hol],b0X hok (by omega),?_,?_⟩
   ·rw [i1K hc] at hset
    rw [hA2,i1D,i1z]
    rw [i1x] at hs
    omega
   ·intro r hr
    have:=hz r (by omega)
    have h:=(b0L (l:=o) (z:=c) (show i + b.length ≠ r by omega)).trans this
    rw [i1h] at h;exact h
 ·subst heq
  rw [i1x] at hs
  simp [I0H,g5]
  refine (f0v (l:=o) ⟨⟨by simp,.inr ⟨H.size,0,N,false,b0Y o,by rw [hol],hbo,by simp,by rw [j1q,j1s,← i0P (l:=o),i1x]⟩⟩,hok⟩ hx.1 (by omega)).mono ?_
  rintro r G2 ⟨ht,hx2⟩
  simp
  intro _
  rw [b0W _ hok,hs] at ht
  exact ht
theorem U0u {E:Env} {nt tc b b2:Nat} {body:SCode} {rx rc:List a0I} {Q:d0X} {ρ:Nat→Value} (Inv:Nat→(Nat→Value)→a0e→Prop) (n:Nat) (htc:tc < nt) (hI:Inv 0 ρ H)
  (step:∀ i ρ G,i≤n→Inv i ρ G→WR E fl rc (T nt ρ) G (i0d E fl nt tc b b2 body rx (fun t H=>Q .normal t H) Q R n i Inv) R) :
  W E fl (.loop (.seq (.seq (.reg rc) (.cond (.tmp tc) .skip (.exit b))) (.seq (.block b2 body) (.reg rx)))) (T nt ρ) H (e0Z b Q) R:=by
 have h:=w0b (Z:=fun t H=>Q .normal t H) (Q:=Q) Inv n htc hI step
 rwa [k0B] at h
theorem U0A {x:Nat} (hx:x < 4294967296):d0m 0 .and (.int .u32 (x:Int)) (.int .u32 1)=some (.int .u32 ((x % 2:Nat):Int)):=by
 have h0:d0m 0 .and (.int .u32 (x:Int)) (.int .u32 1)=some (.int .u32 (IntKind.u32.wrap (BitVec.ofInt IntKind.u32.bits (x:Int) &&& BitVec.ofInt IntKind.u32.bits 1).toNat)):=by unfold d0m;simp
 rw [h0]
 have e1:(BitVec.ofInt IntKind.u32.bits (x:Int) &&& BitVec.ofInt IntKind.u32.bits 1).toNat=x % 2:=by
  show (BitVec.ofInt 32 (x:Int) &&& BitVec.ofInt 32 1).toNat=x % 2
  rw [BitVec.toNat_and,k1m,k1m]
  have e2:((x:Int) % (2 ^ 32:Nat)).toNat=x:=by omega
  have e3:((1:Int) % (2 ^ 32:Nat)).toNat=1:=by decide
  rw [e2,e3,Nat.and_one_is_mod]
 rw [e1,r0u]
 congr 3
 omega
theorem Z0J {x k:Nat} (hk:k < 32) (hx:x < 4294967296) (h2:x % 2 ^ (k + 1)=0):x + 2 ^ k < 4294967296∧d0m 0 .or (.int .u32 (x:Int)) (.int .u32 ((2 ^ k:Nat):Int))=some (.int .u32 ((x + 2 ^ k:Nat):Int)):=by
 have hp:2 ^ k < 2 ^ (k + 1):=Nat.pow_lt_pow_right (by omega) (by omega)
 obtain ⟨y,rfl⟩:=Nat.dvd_of_mod_eq_zero h2
 have hle:2 ^ (k + 1) * (y + 1)≤4294967296:=by
  have e:(4294967296:Nat)=2 ^ (k + 1) * 2 ^ (31 - k):=by rw [← k1h,show k + 1 + (31 - k)=32 by omega]
  rw [e] at hx ⊢
  exact i1N _ (j1L hx)
 have hlt:2 ^ (k + 1) * y + 2 ^ k < 4294967296:=by rw [i1w] at hle;omega
 refine ⟨hlt,?_⟩
 have hor:=k1i hp y
 rw [j0Z]
 have e1:(BitVec.ofInt IntKind.u32.bits ((2 ^ (k + 1) * y:Nat):Int) ||| BitVec.ofInt IntKind.u32.bits ((2 ^ k:Nat):Int)).toNat=2 ^ (k + 1) * y + 2 ^ k:=by
  show (BitVec.ofInt 32 ((2 ^ (k + 1) * y:Nat):Int) ||| BitVec.ofInt 32 ((2 ^ k:Nat):Int)).toNat=_
  rw [BitVec.toNat_or,k1m,k1m]
  rw [hor]
  generalize 2 ^ (k + 1) * y=x at *
  generalize 2 ^ k=z at *
  have e2:((x:Int) % (2 ^ 32:Nat)).toNat=x:=by omega
  have e3:((z:Int) % (2 ^ 32:Nat)).toNat=z:=by omega
  rw [e2,e3]
 rw [e1,r0u,i1K hlt]
theorem K0c {X B R t:Nat} (hB:0 < B) (hR:X % B=R) (ht:t < 2):(2 * R + t < B→(2 * X + t) / B=2 * (X / B)∧(2 * X + t) % B=2 * R + t)∧(B≤2 * R + t→(2 * X + t) / B=2 * (X / B) + 1∧(2 * X + t) % B=2 * R + t - B):=by
 have h1:=k1t X B
 rw [hR] at h1
 have hRB:R < B:=by rw [← hR];exact j1G _ hB
 have e:2 * X + t=B * (2 * (X / B)) + (2 * R + t):=by rw [k1g];omega
 constructor
 ·intro h
  rw [e,Nat.mul_add_div hB,Nat.mul_add_mod,k1b h,i1K h]
  exact ⟨rfl,rfl⟩
 ·intro h
  have hlt2:2 * R + t - B < B:=by omega
  have e2:2 * X + t=B * (2 * (X / B)) + B + (2 * R + t - B):=by omega
  rw [← Nat.mul_succ] at e2
  rw [e2,Nat.mul_add_div hB,Nat.mul_add_mod,k1b hlt2,i1K hlt2]
  exact ⟨rfl,rfl⟩
theorem B0g (A k:Nat):A / 2 ^ k=2 * (A / 2 ^ (k + 1)) + A / 2 ^ k % 2:=by
 rw [i1G,← Nat.div_div_eq_div_mul];omega
theorem o0k {A B:Nat} (ha:Lim H v (a0o A)) (hb:Lim H w (a0o B)) (hB:0 < B) (hf:fl≤H.size) (hna:(a0o A).length < 536870912) (hnb:(a0o B).length < 536870912) :
  a0S env fl Z0r [v,w] H (fun r H'=>(∃ x y,r=.tuple #[x,y]∧Lim H' x (a0o (A / B))∧Lim H' y (a0o (A % B)))∧Ext H H') R:=by
 refine a0g h1W hf (h:=?_)
 intro ρ h0
 simp [d1g,T0Q,T0R,h0]
 refine (i0X ha hb (i1j _) (by omega)).mono ?_
 rintro _ G ⟨rfl,hx⟩
 rw [d0L,c0b]
 by_cases hlt:A < B
 ·simp [hlt,T0S,h0]
  refine fun _=>⟨.slice none 0 0,v,⟨rfl,rfl⟩,?_,?_⟩
  ·rw [k1b hlt,a0X];exact Lim.nil
  ·rw [i1K hlt];exact ha.mono hx
 have hnn:¬ (if B < A then (1:Int) else 0) < 0:=by split <;> decide
 obtain ⟨a,hA⟩:∃ a,a=a0o A:=⟨_,rfl⟩
 rw [← hA] at ha hna
 have hAn:a0u a=A:=by rw [hA,a0q]
 have hm:=X0v (bytes:=4) (k:=.i64) (k':=.i64) (l:=(a.length:Int)) (c:=(a.length:Int)) (by omega) (by omega) (by omega) (by omega)
 have w1:IntKind.i64.wrap ((a.length:Int) - 1)=(a.length:Int) - 1:=a0R (by omega) (by omega)
 have ka:=ha.mono hx
 simp [hlt,hnn,h0,T0T,T0U,T0V,ka.slen,hm,w1]
 rw [← p0B]
 generalize hG:Array.push G _=G0
 obtain ⟨hx2,b0⟩:=g0R hG
 clear hG
 have hx0:=hx.trans hx2
 have hP:=hx.1
 generalize Array.size G=p at b0 hP
 refine w0b (fun n ρ G=>ρ 0=v∧ρ 1=w∧ρ 6=.slice (some ⟨p,0,none⟩) a.length a.length∧ρ 8=.int .i64 ((a.length:Int) - 1 - n)∧n≤a.length∧Ext H G∧Lim G (ρ 7) (a0o (a0u (a.drop (a.length - n)) % B)) ∧
   ∃ o,a0e.blk G p=.row false a0h (b0Y o)∧o.length=a.length∧b0a o∧a0u o=4294967296 ^ (a.length - n) * (a0u (a.drop (a.length - n)) / B)∧∀ t,t < a.length - n→o.getD t 0=0)
  a.length (by decide) ⟨by simp [h0],by simp [h0],by simp,by simp,by omega,hx0,by simp [a0u,a0X];exact Lim.nil,List.replicate a.length 0,b0,by simp,by intro x hx;simp at hx;omega,by simp [a0u,k0j],fun t _=>by simp [i1h,j1T];split <;> rfl⟩ ?_
 clear h0 ρ hm b0 hx0 hx2 hx ka w1 G G0 hnn
 rintro n ρ G hn1 ⟨g0,g1,g6,g8,hn,hx,hr,o,hbo,hol,hok,hs,hz⟩
 by_cases hnl:n < a.length
 ·obtain ⟨i,hi⟩:∃ i,a.length - n=i + 1:=⟨a.length - n - 1,by omega⟩
  have hil:i < a.length:=by omega
  have g8':ρ 8=.int .i64 (i:Int):=by rw [g8];congr 1;omega
  have e8:IntKind.i64.wrap ((i:Int) - 1)=(a.length:Int) - 1 - ((n + 1:Nat):Int):=by rw [a0R (by omega) (by omega)];omega
  rw [hi] at hr hs hz
  have hdr:=f0P hil
  have hA3:=b0Z ha.ok i
  have aL:∀ G2,Ext H G2→b0r G2 false 1 (adr 1 v i)=some (.int .u32 ((a.getD i 0:Nat):Int)):=fun G2 h=>ha.load hil h
  generalize a.getD i 0=U at hdr hA3 aL
  generalize a0u (a.drop (i + 1))=D at hdr hr hs
  simp [I0R,g8']
  refine i0d.mk true (by simp) (fun _=>⟨hnl,?_⟩) (by simp)
  simp [T0W]
  refine U0u (fun q ρ G=>ρ 0=v∧ρ 1=w∧ρ 6=.slice (some ⟨p,0,none⟩) a.length a.length∧ρ 8=.int .i64 (i:Int)∧ρ 9=.int .i64 ((31:Int) - q)∧q≤32∧Ext H G∧Lim G (ρ 7) (a0o ((D * 2 ^ q + U / 2 ^ (32 - q)) % B)) ∧
    ∃ o,a0e.blk G p=.row false a0h (b0Y o)∧o.length=a.length∧b0a o∧a0u o=4294967296 ^ i * (2 ^ (32 - q) * ((D * 2 ^ q + U / 2 ^ (32 - q)) / B))∧(∀ t,t < i→o.getD t 0=0)∧o.getD i 0 % 2 ^ (32 - q)=0)
   32 (by decide) ?_ ?_
  ·have hU:U / 2 ^ 32=0:=k1b (by omega)
   refine ⟨by simp [g0],by simp [g1],by simp [g6],by simp [g8'],by simp,by omega,hx,?_,o,hbo,hol,hok,?_,fun t ht=>hz t (by omega),?_⟩
   ·rw [l1p,hU,Nat.pow_zero,j1s,j1p];simpa using hr
   ·rw [l1p,hU,Nat.pow_zero,j1s,j1p,hs,i1G,i1z]
   ·rw [hz i (by omega)]
  clear g0 g1 g6 g8 g8' hx hr hbo hol hok hs hz o G ρ
  rintro q ρ G hq1 ⟨g0,g1,g6,g8,g9,hq2,hx,hr,o,hbo,hol,hok,hs,hz,hbit⟩
  by_cases hq:q < 32
  ·obtain ⟨k,hk⟩:∃ k,32 - q=k + 1:=⟨31 - q,by omega⟩
   have g9':ρ 9=.int .i64 (k:Int):=by rw [g9];congr 1;omega
   have e9:IntKind.i64.wrap ((k:Int) - 1)=(31:Int) - ((q + 1:Nat):Int):=by rw [a0R (by omega) (by omega)];omega
   have hk2:32 - (q + 1)=k:=by omega
   have ek:IntKind.u64.wrap (k:Int)=(k:Int):=by rw [a0x];omega
   have ka:=ha.mono hx
   have a1:=ka.ia hil (k:=.i64)
   have a2:=aL G hx
   have hsh:d0m 0 .shr (.int .u32 (U:Int)) (.int .u64 (k:Int))=some (.int .u32 ((U / 2 ^ k:Nat):Int)):=r0n (by omega)
   have hUk:U / 2 ^ k < 4294967296:=l1k (j1K _ _) hA3
   have han:=U0A hUk
   have hhb:=B0g U k
   rw [hk] at hr hs hbit
   obtain ⟨X,hX⟩:∃ X,D * 2 ^ q + U / 2 ^ (k + 1)=X:=⟨_,rfl⟩
   have hXs:D * 2 ^ (q + 1) + U / 2 ^ k=2 * X + U / 2 ^ k % 2:=by
    have:D * 2 ^ (q + 1)=2 * (D * 2 ^ q):=by rw [i1G,← i1z,i1L]
    omega
   rw [hX] at hr hs
   obtain ⟨bt,hbt⟩:∃ bt,U / 2 ^ k % 2=bt:=⟨_,rfl⟩
   rw [hbt] at han hXs
   have hbt2:bt < 2:=by omega
   obtain ⟨Uk,hUK⟩:∃ Uk,U / 2 ^ k=Uk:=⟨_,rfl⟩
   rw [hUK] at hsh han hXs hUk hhb hbt
   have hst:=K0c (X:=X) hB rfl hbt2
   have hRB:X % B < B:=j1G _ hB
   obtain ⟨r0,g7⟩:∃ r0,ρ 7=r0:=⟨_,rfl⟩
   rw [g7] at hr
   have hlenR:(a0o (X % B)).length≤(a0o B).length:=b0e (l1h hRB)
   have hbn:((bt:Int) == 1).toNat=bt:=by
    have:bt=0 ∨ bt=1:=by omega
    rcases this with h | h <;> rw [h] <;> rfl
   simp [I0S,g9']
   refine i0d.mk true (by simp) (fun _=>⟨hq,?_⟩) (by simp)
   simp [T0X,g0,g7,g8,g9',a1,a2,ek,hsh,han]
   refine (o0l hr hx.1 (by omega)).mono ?_
   rintro r1 G1 ⟨⟨hr1,hn1'⟩,hx2⟩
   have hnp1:=hn1'.ne (a0i hbo)
   rw [a0q,hbn] at hr1
   replace hx:=hx.trans hx2
   replace hbo:=hx2.blk hbo
   have kb:=hb.mono hx
   obtain ⟨R',hR'⟩:∃ R',2 * (X % B) + bt=R':=⟨_,rfl⟩
   rw [hR'] at hr1
   have hlen:(a0o R').length≤(a0o B).length + 1:=by
    refine e0m ?_
    have:=e0z B
    rw [i1G]
    omega
   rw [hR'] at hst
   simp [I0M,g1]
   refine (i0X hr1 kb hx.1 (by omega)).mono ?_
   rintro _ G2 ⟨rfl,hx2⟩
   rw [d0L,c0b]
   replace hx:=hx.trans hx2
   replace hbo:=hx2.blk hbo
   replace kb:=kb.mono hx2
   replace hr1:=hr1.mono hx2
   have hiL:i < o.length:=by omega
   by_cases hge:B≤R'
   ·have hc1:¬ R' < B:=by omega
    have hc2:((0:Int)≤if B < R' then 1 else 0):=by split <;> decide
    obtain ⟨d1,d2⟩:=hst.2 hge
    simp [hc1,hc2,I0N,g1]
    refine (k0R hr1 kb hx.1 (by omega) (b0e hge) (by rw [a0q,a0q];exact hge) (by
     rcases k1o (a0o R').length with h | h
     ·have:=b0K.1 (i1I.1 h);omega
     ·exact h)).mono ?_
    rintro r2 G3 ⟨⟨hr2,hn2'⟩,hx2⟩
    have hnp2:=hn2'.ne (a0i hbo)
    rw [a0q,a0q] at hr2
    replace hx:=hx.trans hx2
    replace hbo:=hx2.blk hbo
    obtain ⟨o1,o2⟩:=f0u (k:=.i64) (cap:=a.length) hbo hiL hol
    have hol3:=b0Z hok i
    have hset:=h0T o i (o.getD i 0 + 2 ^ k) hiL
    generalize hy:o.getD i 0=y at o2 hol3 hset hbit
    obtain ⟨hy1,hor⟩:=Z0J (by omega) hol3 hbit
    have hsl:d0m 0 .shl (.int .u32 1) (.int .u64 (k:Int))=some (.int .u32 ((2 ^ k:Nat):Int)):=by
     have h:=r0m (tag:=0) (n:=1) (s:=k) (k':=.u64) (by omega)
     have h2:1 * 2 ^ k % 4294967296=2 ^ k:=by rw [i1W];exact i1K (by omega)
     rw [h2] at h;exact h
    have hsto:=e0p (fl:=H.size) (x:=y + 2 ^ k) hbo hP hiL
    have hyb:(y + 2 ^ k) % 2 ^ k=0:=by
     obtain ⟨z,hz⟩:=Nat.dvd_of_mod_eq_zero hbit
     rw [hz,i1G,i1z,Nat.add_mod_right,Nat.mul_mod_right]
    have hpk:2 ^ (k + 1)=2 * 2 ^ k:=by rw [i1G,i1L]
    obtain ⟨K,hpk'⟩:∃ K,K=2 ^ k:=⟨_,rfl⟩
    rw [← hpk'] at hy1 hor hsl hsto hyb hset hpk
    have hbo':=hbo
    have hmodK:∀ y,y % K=0→True:=fun _ _=>trivial
    simp [-Int.natCast_add,-j0Z,I0O,g6,g8,g9',o1,o2,ek,hsl,hor,hsto]
    unfold i0c
    simp [-Int.natCast_add,v0I,g9',e9]
    refine d0k.mk ⟨by simp [g0],by simp [g1],by simp [g6],by simp [g8],by simp,by omega,hx.set hP,?_,o.set i (y + K),a0z (a0i hbo),by simp [hol],b0X hok hy1,?_,?_,?_⟩
    ·rw [hk2,hUK,hXs,d2]
     simp
     exact Lim.off hr2 (d0l.refl.set) hnp2
    ·rw [hk2,hUK,hXs,d1,← hpk']
     rw [hs,hpk] at hset
     have f1:4294967296 ^ i * (K * (2 * (X / B) + 1))=4294967296 ^ i * (2 * K * (X / B)) + 4294967296 ^ i * K:=by
      rw [← i1w];congr 1;rw [i1w,j1s];congr 1;rw [k1g,i1z]
     rw [i1w] at hset
     omega
    ·intro t ht
     have h:=(b0L (l:=o) (z:=y + K) (show i ≠ t by omega)).trans (hz t ht)
     rw [i1h] at h;exact h
    ·rw [hk2,← hpk',j1F hiL];exact hyb
   ·obtain ⟨d1,d2⟩:=hst.1 (by omega)
    have hc1:R' < B:=by omega
    have hpk:2 ^ (k + 1)=2 * 2 ^ k:=by rw [i1G,i1L]
    simp [hc1]
    unfold i0c
    simp [-Int.natCast_add,v0I,g9',e9]
    refine d0k.mk ⟨by simp [g0],by simp [g1],by simp [g6],by simp [g8],by simp,by omega,hx,?_,o,hbo,hol,hok,?_,?_,?_⟩
    ·rw [hk2,hUK,hXs,d2]
     simp
     exact hr1
    ·rw [hk2,hUK,hXs,d1,hs,hpk]
     congr 1
     rw [k1g,i1z]
    ·intro t ht
     have h:=hz t ht
     rw [i1h] at h;exact h
    ·rw [hk2]
     obtain ⟨z,hz2⟩:=Nat.dvd_of_mod_eq_zero hbit
     rw [i1h] at hz2
     rw [hz2,i1G,i1z,Nat.mul_mod_right]
  ·have hq3:q=32:=by omega
   subst hq3
   rw [l1i,Nat.pow_zero,Nat.div_one,i1W] at hs
   rw [l1i,Nat.pow_zero,Nat.div_one] at hr
   have hD:D * 2 ^ 32 + U=a0u (a.drop i):=by rw [hdr];omega
   rw [hD] at hr hs
   simp [I0S,g9]
   refine i0d.mk false (by simp) (by simp) (fun _=>?_)
   unfold i0c
   simp [-Int.natCast_add,I0P,g8,e8]
   have hi2:a.length - (n + 1)=i:=by omega
   refine d0k.mk ⟨by simp [g0],by simp [g1],by simp [g6],by simp,by omega,hx,by rw [hi2];simpa using hr,o,hbo,hol,hok,by rw [hi2];exact hs,fun t ht=>?_⟩
   have h:=hz t (by omega)
   rw [i1h] at h;exact h
 ·have hn2:n=a.length:=by omega
  subst hn2
  rw [l1i,j1q,hAn] at hr hs
  rw [Nat.pow_zero,i1W] at hs
  simp [I0R,g8]
  refine i0d.mk false (by simp;omega) (by simp) (fun _=>?_)
  obtain ⟨r0,g7⟩:∃ r0,ρ 7=r0:=⟨_,rfl⟩
  rw [g7] at hr
  simp [I0Q,g6,g7]
  refine (f0v (l:=o) ⟨⟨by simp,.inr ⟨p,0,a.length,false,b0Y o,by rw [hol],hbo,by simp,by rw [j1q,j1s,← i0P (l:=o),i1x]⟩⟩,hok⟩ hx.1 (by omega)).mono ?_
  rintro r G2 ⟨ht,hx2⟩
  rw [b0W _ hok,hs] at ht
  simp [g7]
  exact fun _=>⟨_,_,⟨rfl,rfl⟩,ht,hr.mono hx2⟩
end
section
open Go
set_option maxHeartbeats 4000000
variable {fl:Nat} {H G:a0e} {R:a0E} {v w:Value} {i j:Bool × List Nat}
theorem u0s (h:b0q H v i) (hf:fl≤H.size) (hn:i.2.length≤1073741824):a0S env fl Z0d [v] H (fun r H'=>b0q H' r (a0k (-a0B i))∧Ext H H') R:=by
 have k0:=h
 have hok:=h.ok
 obtain ⟨s,rfl,hs⟩:=h
 refine a0g h1s hf (h:=?_)
 intro ρ h0
 simp [c1E,R0B,h0,hs.cells]
 generalize hG:Array.push (Array.push H _) _=G
 have hx2:Ext H G:=by rw [← hG];exact (Ext.refl H).push.push
 have b0:a0e.blk G H.size=.row false a0a [.bool i.1,s]:=by rw [← hG];simp
 have b1:a0e.blk G (H.size + 1)=.row false a0a [.bool false,.slice none 0 0]:=by rw [← hG];simp
 have hx:=Ext.refl H
 clear hG
 replace hx:=hx.trans hx2;replace k0:=k0.mono hx2
 simp [R0C,b0]
 refine (d0f k0 hx.1 (by omega)).mono ?_
 rintro _ G2 ⟨⟨s1,rfl,k1⟩,hx2⟩
 replace b0:=hx2.blk b0;replace b1:=hx2.blk b1;replace hx:=hx.trans hx2;replace k0:=k0.mono hx2
 have hsz:=hx.1
 simp [b0,k1.cells,k1.plain,hsz]
 generalize hS:Array.setIfInBounds G2 _ _=G3
 have hsz:=hx.1;replace k0:=k0.setS hS b0 (by decide);replace k1:=k1.setS hS b0 (by decide);replace b1:=a0p hS b1 (by omega);replace hx:=a0Y hS hx (by omega);replace b0:=a0v hS b0;clear hS hsz
 simp [R0D,b0]
 have hl:=a0A hok
 refine (c0H (-a0B i) k1 hx.1 (by show (a0o _).length≤_;omega) ?_).mono ?_
 ·show (if (!decide (a0B i < 0))=true then -((a0u (a0o (a0B i).natAbs):Nat):Int) else _)=_
  rw [a0q]
  by_cases hz:a0B i < 0 <;> simp [hz,a0q,a0k] <;> omega
 rintro _ G2 ⟨⟨s2,rfl,k2⟩,hx2⟩
 replace b0:=hx2.blk b0;replace b1:=hx2.blk b1;replace hx:=hx.trans hx2;replace k0:=k0.mono hx2;replace k1:=k1.mono hx2
 have hsz:=hx.1
 simp [b1,k2.cells,k2.plain,hsz]
 generalize hS:Array.setIfInBounds G2 _ _=G4
 have hsz:=hx.1;replace k0:=k0.setS hS b1 (by decide);replace k1:=k1.setS hS b1 (by decide);replace k2:=k2.setS hS b1 (by decide);replace b0:=a0p hS b0 (by omega);replace hx:=a0Y hS hx (by omega);replace b1:=a0v hS b1;clear hS hsz
 simp [b1]
 exact fun _=>⟨s2,rfl,k2⟩
theorem W0v (x y:Int):(if (decide (x < 0) != decide (y < 0))=true then -((x.natAbs * y.natAbs:Nat):Int) else ((x.natAbs * y.natAbs:Nat):Int))=x * y:=by
 rw [← j1R]
 by_cases hi:x < 0 <;> by_cases hj:y < 0
 ·have:=Int.mul_pos_of_neg_of_neg hi hj
  simp [hi,hj];omega
 ·have:=j1k (Int.le_of_lt hi) (show 0≤y by omega)
  simp [hi,hj];omega
 ·have:=Int.mul_nonpos_of_nonneg_of_nonpos (show 0≤x by omega) (Int.le_of_lt hj)
  simp [hi,hj];omega
 ·have:=k1U (show 0≤x by omega) (show 0≤y by omega)
  simp [hi,hj];omega
theorem m0A (h:b0q H v i) (k:b0q H w j) (hf:fl≤H.size) (hn:i.2.length < 268435456) (hm:j.2.length < 268435456):a0S env fl X0j [v,w] H (fun r H'=>b0q H' r (a0k (a0B i * a0B j))∧Ext H H') R:=by
 have k0:=h
 have k1:=k
 have hok:=h.ok
 have hok2:=k.ok
 obtain ⟨s,rfl,hs⟩:=h
 obtain ⟨u,rfl,hu⟩:=k
 refine a0g h1n hf (h:=?_)
 intro ρ h0
 simp [c1z,R0i,h0,hs.cells,hu.cells]
 generalize hG:Array.push (Array.push (Array.push H _) _) _=G
 have hx2:Ext H G:=by rw [← hG];exact (Ext.refl H).push.push.push
 have b0:a0e.blk G H.size=.row false a0a [.bool i.1,s]:=by rw [← hG];simp
 have b1:a0e.blk G (H.size + 1)=.row false a0a [.bool j.1,u]:=by rw [← hG];simp
 have b2:a0e.blk G (H.size + 2)=.row false a0a [.bool false,.slice none 0 0]:=by rw [← hG];simp
 have hx:=Ext.refl H
 clear hG
 replace hx:=hx.trans hx2;replace k0:=k0.mono hx2;replace k1:=k1.mono hx2
 simp [R0j,b0]
 refine (d0f k0 hx.1 (by omega)).mono ?_
 rintro _ G2 ⟨⟨s1,rfl,k2⟩,hx2⟩
 replace b0:=hx2.blk b0;replace b1:=hx2.blk b1;replace b2:=hx2.blk b2;replace hx:=hx.trans hx2;replace k0:=k0.mono hx2;replace k1:=k1.mono hx2
 have hsz:=hx.1
 simp [b0,k2.cells,k2.plain,hsz]
 generalize hS:Array.setIfInBounds G2 _ _=G3
 have hsz:=hx.1;replace k0:=k0.setS hS b0 (by decide);replace k1:=k1.setS hS b0 (by decide);replace k2:=k2.setS hS b0 (by decide);replace b1:=a0p hS b1 (by omega);replace b2:=a0p hS b2 (by omega);replace hx:=a0Y hS hx (by omega);replace b0:=a0v hS b0;clear hS hsz
 simp [R0k,b1]
 refine (d0f k1 hx.1 (by omega)).mono ?_
 rintro _ G2 ⟨⟨s2,rfl,k3⟩,hx2⟩
 replace b0:=hx2.blk b0;replace b1:=hx2.blk b1;replace b2:=hx2.blk b2;replace hx:=hx.trans hx2;replace k0:=k0.mono hx2;replace k1:=k1.mono hx2;replace k2:=k2.mono hx2
 have hsz:=hx.1
 simp [b1,k3.cells,k3.plain,hsz]
 generalize hS:Array.setIfInBounds G2 _ _=G4
 have hsz:=hx.1;replace k0:=k0.setS hS b1 (by decide);replace k1:=k1.setS hS b1 (by decide);replace k2:=k2.setS hS b1 (by decide);replace k3:=k3.setS hS b1 (by decide);replace b0:=a0p hS b0 (by omega);replace b2:=a0p hS b2 (by omega);replace hx:=a0Y hS hx (by omega);replace b1:=a0v hS b1;clear hS hsz
 clear k0 k1
 have hl:=a0A hok
 have hl2:=a0A hok2
 refine a0G ?_
 simp [R0l,b0,b1]
 refine (u0v k2 k3 (by have:=hx.1;omega) (by show (a0o _).length < _;omega) (by show (a0o _).length < _;omega)).mono ?_
 rintro x G2 ⟨k4,hx2⟩
 replace b0:=hx2.blk b0;replace b1:=hx2.blk b1;replace b2:=hx2.blk b2;replace hx:=hx.trans hx2;replace k2:=k2.mono hx2;replace k3:=k3.mono hx2
 rw [show a0u (a0k (a0B i)).2=(a0B i).natAbs from a0q _,show a0u (a0k (a0B j)).2=(a0B j).natAbs from a0q _] at k4
 simp
 have hlen:(a0o ((a0B i).natAbs * (a0B j).natAbs)).length≤i.2.length + j.2.length:=by
  refine i1t (e0m (k:=(a0o (a0B i).natAbs).length + (a0o (a0B j).natAbs).length) ?_) (by omega)
  rw [k1h]
  exact Nat.mul_lt_mul_of_lt_of_le (e0z _) (l1h (e0z _)) (Nat.pow_pos (by omega))
 refine (c0H (a0B i * a0B j) k4 hx.1 (by omega) ?_).mono ?_
 ·rw [a0q]
  exact W0v _ _
 rintro _ G2 ⟨⟨s3,rfl,k5⟩,hx2⟩
 replace b0:=hx2.blk b0;replace b1:=hx2.blk b1;replace b2:=hx2.blk b2;replace hx:=hx.trans hx2;replace k2:=k2.mono hx2;replace k3:=k3.mono hx2;replace k4:=k4.mono hx2
 have hsz:=hx.1
 simp [b2,k5.cells,k5.plain,hsz]
 generalize hS:Array.setIfInBounds G2 _ _=G5
 have hsz:=hx.1;replace k2:=k2.setS hS b2 (by decide);replace k3:=k3.setS hS b2 (by decide);replace k4:=k4.setS hS b2 (by decide);replace k5:=k5.setS hS b2 (by decide);replace b0:=a0p hS b0 (by omega);replace b1:=a0p hS b1 (by omega);replace hx:=a0Y hS hx (by omega);replace b2:=a0v hS b2;clear hS hsz
 simp [b2]
 exact fun _=>⟨s3,rfl,k5⟩
theorem e0t {n:Nat} (h:0 < n):0 < (a0o n).length:=by
 rcases k1o (a0o n).length with h2 | h2
 ·have:=b0K.1 (i1I.1 h2);omega
 ·exact h2
theorem u0q (h:b0q H v i) (k:b0q H w j) (hf:fl≤H.size) (hn:i.2.length < 268435456) (hm:j.2.length < 268435456):a0S env fl Z0b [v,w] H (fun r H'=>b0q H' r (a0k (a0B i + a0B j))∧Ext H H') R:=by
 have k0:=h
 have k1:=k
 have hok:=h.ok
 have hok2:=k.ok
 obtain ⟨s,rfl,hs⟩:=h
 obtain ⟨u,rfl,hu⟩:=k
 refine a0g h1m hf (h:=?_)
 intro ρ h0
 simp [c1y,R0b,h0,hs.cells,hu.cells]
 generalize hG:Array.push (Array.push (Array.push H _) _) _=G
 have hx2:Ext H G:=by rw [← hG];exact (Ext.refl H).push.push.push
 have b0:a0e.blk G H.size=.row false a0a [.bool i.1,s]:=by rw [← hG];simp
 have b1:a0e.blk G (H.size + 1)=.row false a0a [.bool j.1,u]:=by rw [← hG];simp
 have b2:a0e.blk G (H.size + 2)=.row false a0a [.bool false,.slice none 0 0]:=by rw [← hG];simp
 have hx:=Ext.refl H
 clear hG
 replace hx:=hx.trans hx2;replace k0:=k0.mono hx2;replace k1:=k1.mono hx2
 simp [R0c,b0]
 refine (d0f k0 hx.1 (by omega)).mono ?_
 rintro _ G2 ⟨⟨s1,rfl,k2⟩,hx2⟩
 replace b0:=hx2.blk b0;replace b1:=hx2.blk b1;replace b2:=hx2.blk b2;replace hx:=hx.trans hx2;replace k0:=k0.mono hx2;replace k1:=k1.mono hx2
 have hsz:=hx.1
 simp [b0,k2.cells,k2.plain,hsz]
 generalize hS:Array.setIfInBounds G2 _ _=G3
 have hsz:=hx.1;replace k0:=k0.setS hS b0 (by decide);replace k1:=k1.setS hS b0 (by decide);replace k2:=k2.setS hS b0 (by decide);replace b1:=a0p hS b1 (by omega);replace b2:=a0p hS b2 (by omega);replace hx:=a0Y hS hx (by omega);replace b0:=a0v hS b0;clear hS hsz
 simp [R0d,b1]
 refine (d0f k1 hx.1 (by omega)).mono ?_
 rintro _ G2 ⟨⟨s2,rfl,k3⟩,hx2⟩
 replace b0:=hx2.blk b0;replace b1:=hx2.blk b1;replace b2:=hx2.blk b2;replace hx:=hx.trans hx2;replace k0:=k0.mono hx2;replace k1:=k1.mono hx2;replace k2:=k2.mono hx2
 have hsz:=hx.1
 simp [b1,k3.cells,k3.plain,hsz]
 generalize hS:Array.setIfInBounds G2 _ _=G4
 have hsz:=hx.1;replace k0:=k0.setS hS b1 (by decide);replace k1:=k1.setS hS b1 (by decide);replace k2:=k2.setS hS b1 (by decide);replace k3:=k3.setS hS b1 (by decide);replace b0:=a0p hS b0 (by omega);replace b2:=a0p hS b2 (by omega);replace hx:=a0Y hS hx (by omega);replace b1:=a0v hS b1;clear hS hsz
 clear k0 k1
 have hl:=a0A hok
 have hl2:=a0A hok2
 obtain ⟨x,hx'⟩:∃ x,a0B i=x:=⟨_,rfl⟩
 obtain ⟨y,hy'⟩:∃ y,a0B j=y:=⟨_,rfl⟩
 rw [hx'] at b0 k2 hl ⊢
 rw [hy'] at b1 k3 hl2 ⊢
 have n1:a0u (a0k x).2=x.natAbs:=a0q _
 have n2:a0u (a0k y).2=y.natAbs:=a0q _
 have l1:(a0k x).2.length=(a0o x.natAbs).length:=rfl
 have l2:(a0k y).2.length=(a0o y.natAbs).length:=rfl
 have hlen:∀ m,m≤x.natAbs + y.natAbs→(a0o m).length≤i.2.length + j.2.length + 1:=by
  intro m hm
  refine i1t (e0m (k:=(a0o x.natAbs).length + (a0o y.natAbs).length + 1) ?_) (by omega)
  have h1:=e0z x.natAbs
  have h2:=e0z y.natAbs
  have h3:4294967296 ^ (a0o x.natAbs).length≤4294967296 ^ ((a0o x.natAbs).length + (a0o y.natAbs).length):=j1y (by omega) (by omega)
  have h4:4294967296 ^ (a0o y.natAbs).length≤4294967296 ^ ((a0o x.natAbs).length + (a0o y.natAbs).length):=j1y (by omega) (by omega)
  rw [i1G]
  omega
 have c1:(a0k x).1=decide (x < 0):=rfl
 have c2:(a0k y).1=decide (y < 0):=rfl
 rw [c1] at b0
 rw [c2] at b1
 by_cases hsg:decide (x < 0)=decide (y < 0)
 ·simp [H0S,b0,b1,hsg]
  refine a0G ?_
  simp [R0e,b0,b1,hsg]
  refine (u0u k2 k3 (by have:=hx.1;omega) (by omega) (by omega)).mono ?_
  rintro z G2 ⟨k4,hx2⟩
  replace b0:=hx2.blk b0;replace b1:=hx2.blk b1;replace b2:=hx2.blk b2;replace hx:=hx.trans hx2;replace k2:=k2.mono hx2;replace k3:=k3.mono hx2
  rw [n1,n2] at k4
  simp
  refine (c0H (x + y) k4 hx.1 (by have:=hlen _ (i1j _);omega) ?_).mono ?_
  ·rw [a0q]
   by_cases hx0:x < 0
   ·have hy0:y < 0:=by simpa [hx0] using hsg
    simp [hy0];omega
   ·have hy0:¬ y < 0:=by simpa [hx0] using hsg
    simp [hy0];omega
  rintro _ G2 ⟨⟨s3,rfl,k5⟩,hx2⟩
  replace b0:=hx2.blk b0;replace b1:=hx2.blk b1;replace b2:=hx2.blk b2;replace hx:=hx.trans hx2;replace k2:=k2.mono hx2;replace k3:=k3.mono hx2;replace k4:=k4.mono hx2
  have hsz:=hx.1
  simp [b2,k5.cells,k5.plain,hsz]
  generalize hS:Array.setIfInBounds G2 _ _=G5
  have hsz:=hx.1;replace k2:=k2.setS hS b2 (by decide);replace k3:=k3.setS hS b2 (by decide);replace k4:=k4.setS hS b2 (by decide);replace k5:=k5.setS hS b2 (by decide);replace b0:=a0p hS b0 (by omega);replace b1:=a0p hS b1 (by omega);replace hx:=a0Y hS hx (by omega);replace b2:=a0v hS b2;clear hS hsz
  simp [b2]
  exact fun _=>⟨s3,rfl,k5⟩
 ·simp [H0S,b0,b1,hsg,R0f]
  refine (i0X k2 k3 hx.1 (by omega)).mono ?_
  rintro _ G2 ⟨rfl,hx2⟩
  replace b0:=hx2.blk b0;replace b1:=hx2.blk b1;replace b2:=hx2.blk b2;replace hx:=hx.trans hx2;replace k2:=k2.mono hx2;replace k3:=k3.mono hx2
  rw [show y0u (a0k x).2 (a0k y).2=c0A x.natAbs y.natAbs from d0L _ _,c0b]
  by_cases hge:y.natAbs≤x.natAbs
  ·have q1:¬ x.natAbs < y.natAbs:=by omega
   have q2:((0:Int)≤if y.natAbs < x.natAbs then 1 else 0):=by split <;> decide
   simp [q1,q2]
   refine a0G ?_
   simp [R0g,b0,b1]
   have hpos:0 < x.natAbs:=by
    rcases k1o x.natAbs with h0 | h0
    ·have e1:x=0:=by omega
     have e2:y=0:=by omega
     subst e1 e2;exact i1A rfl hsg
    ·exact h0
   refine (m0B k2 k3 (by have:=hx.1;omega) (by omega) (b0e hge) (by rw [n1,n2];exact hge) (e0t hpos)).mono ?_
   rintro z G2 ⟨k4,hx2⟩
   replace b0:=hx2.blk b0;replace b1:=hx2.blk b1;replace b2:=hx2.blk b2;replace hx:=hx.trans hx2;replace k2:=k2.mono hx2;replace k3:=k3.mono hx2
   rw [n1,n2] at k4
   simp
   refine (c0H (x + y) k4 hx.1 (by have:=hlen (x.natAbs - y.natAbs) (by omega);omega) ?_).mono ?_
   ·rw [a0q]
    by_cases hx0:x < 0
    ·have hy0:¬ y < 0:=by simpa [hx0] using hsg
     simp [hx0];omega
    ·have hy0:y < 0:=by simpa [hx0] using hsg
     simp [hx0];omega
   rintro _ G2 ⟨⟨s3,rfl,k5⟩,hx2⟩
   replace b0:=hx2.blk b0;replace b1:=hx2.blk b1;replace b2:=hx2.blk b2;replace hx:=hx.trans hx2;replace k2:=k2.mono hx2;replace k3:=k3.mono hx2;replace k4:=k4.mono hx2
   have hsz:=hx.1
   simp [b2,k5.cells,k5.plain,hsz]
   generalize hS:Array.setIfInBounds G2 _ _=G5
   have hsz:=hx.1;replace k2:=k2.setS hS b2 (by decide);replace k3:=k3.setS hS b2 (by decide);replace k4:=k4.setS hS b2 (by decide);replace k5:=k5.setS hS b2 (by decide);replace b0:=a0p hS b0 (by omega);replace b1:=a0p hS b1 (by omega);replace hx:=a0Y hS hx (by omega);replace b2:=a0v hS b2;clear hS hsz
   simp [b2]
   exact fun _=>⟨s3,rfl,k5⟩
  ·have q1:x.natAbs < y.natAbs:=by omega
   simp [q1]
   refine a0G ?_
   simp [R0h,b0,b1]
   refine (m0B k3 k2 (by have:=hx.1;omega) (by omega) (b0e (by omega)) (by rw [n1,n2];omega) (e0t (by omega))).mono ?_
   rintro z G2 ⟨k4,hx2⟩
   replace b0:=hx2.blk b0;replace b1:=hx2.blk b1;replace b2:=hx2.blk b2;replace hx:=hx.trans hx2;replace k2:=k2.mono hx2;replace k3:=k3.mono hx2
   rw [n1,n2] at k4
   simp
   refine (c0H (x + y) k4 hx.1 (by have:=hlen (y.natAbs - x.natAbs) (by omega);omega) ?_).mono ?_
   ·rw [a0q]
    by_cases hx0:x < 0
    ·have hy0:¬ y < 0:=by simpa [hx0] using hsg
     simp [hy0];omega
    ·have hy0:y < 0:=by simpa [hx0] using hsg
     simp [hy0];omega
   rintro _ G2 ⟨⟨s3,rfl,k5⟩,hx2⟩
   replace b0:=hx2.blk b0;replace b1:=hx2.blk b1;replace b2:=hx2.blk b2;replace hx:=hx.trans hx2;replace k2:=k2.mono hx2;replace k3:=k3.mono hx2;replace k4:=k4.mono hx2
   have hsz:=hx.1
   simp [b2,k5.cells,k5.plain,hsz]
   generalize hS:Array.setIfInBounds G2 _ _=G5
   have hsz:=hx.1;replace k2:=k2.setS hS b2 (by decide);replace k3:=k3.setS hS b2 (by decide);replace k4:=k4.setS hS b2 (by decide);replace k5:=k5.setS hS b2 (by decide);replace b0:=a0p hS b0 (by omega);replace b1:=a0p hS b1 (by omega);replace hx:=a0Y hS hx (by omega);replace b2:=a0v hS b2;clear hS hsz
   simp [b2]
   exact fun _=>⟨s3,rfl,k5⟩
theorem u0t (h:b0q H v i) (k:b0q H w j) (hf:fl≤H.size) (hn:i.2.length < 268435456) (hm:j.2.length < 268435456):a0S env fl A0J [v,w] H (fun r H'=>b0q H' r (a0k (a0B i - a0B j))∧Ext H H') R:=by
 have k0:=h
 have k1:=k
 have hok2:=k.ok
 obtain ⟨s,rfl,hs⟩:=h
 obtain ⟨u,rfl,hu⟩:=k
 refine a0g e1B hf (h:=?_)
 intro ρ h0
 simp [L0D,D0W,h0,hs.cells,hu.cells]
 generalize hG:Array.push (Array.push (Array.push H _) _) _=G
 have hx2:Ext H G:=by rw [← hG];exact (Ext.refl H).push.push.push
 have b0:a0e.blk G H.size=.row false a0a [.bool i.1,s]:=by rw [← hG];simp
 have b1:a0e.blk G (H.size + 1)=.row false a0a [.bool j.1,u]:=by rw [← hG];simp
 have b2:a0e.blk G (H.size + 2)=.row false a0a [.bool false,.slice none 0 0]:=by rw [← hG];simp
 have hx:=Ext.refl H
 clear hG
 replace hx:=hx.trans hx2;replace k0:=k0.mono hx2;replace k1:=k1.mono hx2
 refine a0G ?_
 simp [D0X,b0,b1]
 refine (u0s k1 (by have:=hx.1;omega) (by omega)).mono ?_
 rintro x G2 ⟨k2,hx2⟩
 replace b0:=hx2.blk b0;replace b1:=hx2.blk b1;replace b2:=hx2.blk b2;replace hx:=hx.trans hx2;replace k0:=k0.mono hx2;replace k1:=k1.mono hx2
 have hlen:(a0k (-a0B j)).2.length < 268435456:=by
  rw [s0p,Int.natAbs_neg];have:=a0A hok2;omega
 simp
 refine (u0q k0 k2 hx.1 hn hlen).mono ?_
 rintro _ G2 ⟨⟨s3,rfl,k5⟩,hx2⟩
 rw [a0j,← k1n] at k5 ⊢
 replace b0:=hx2.blk b0;replace b1:=hx2.blk b1;replace b2:=hx2.blk b2;replace hx:=hx.trans hx2;replace k0:=k0.mono hx2;replace k1:=k1.mono hx2;replace k2:=k2.mono hx2
 have hsz:=hx.1
 simp [b2,k5.cells,k5.plain,hsz]
 generalize hS:Array.setIfInBounds G2 _ _=G5
 have hsz:=hx.1;replace k0:=k0.setS hS b2 (by decide);replace k1:=k1.setS hS b2 (by decide);replace k2:=k2.setS hS b2 (by decide);replace k5:=k5.setS hS b2 (by decide);replace b0:=a0p hS b0 (by omega);replace b1:=a0p hS b1 (by omega);replace hx:=a0Y hS hx (by omega);replace b2:=a0v hS b2;clear hS hsz
 simp [b2]
 exact fun _=>⟨s3,rfl,k5⟩
theorem u0r (h:b0q H v i) (k:b0q H w j) (hf:fl≤H.size) (hn:i.2.length < 268435456) (hm:j.2.length < 268435456):a0S env fl Z0o [v,w] H (fun r H'=>r=.int .i64 (c0A (a0B i) (a0B j))∧Ext H H') R:=by
 have k0:=h
 have k1:=k
 obtain ⟨s,rfl,hs⟩:=h
 obtain ⟨u,rfl,hu⟩:=k
 refine a0g h1P hf (h:=?_)
 intro ρ h0
 simp [d1a,T0i,h0,hs.cells,hu.cells]
 generalize hG:Array.push (Array.push H _) _=G
 have hx2:Ext H G:=by rw [← hG];exact (Ext.refl H).push.push
 have b0:a0e.blk G H.size=.row false a0a [.bool i.1,s]:=by rw [← hG];simp
 have b1:a0e.blk G (H.size + 1)=.row false a0a [.bool j.1,u]:=by rw [← hG];simp
 have hx:=Ext.refl H
 clear hG
 replace hx:=hx.trans hx2;replace k0:=k0.mono hx2;replace k1:=k1.mono hx2
 simp [T0j,b0,b1]
 refine (u0t k0 k1 hx.1 hn hm).mono ?_
 rintro _ G2 ⟨⟨s3,rfl,k5⟩,hx2⟩
 obtain ⟨z,hz⟩:∃ z,a0B i - a0B j=z:=⟨_,rfl⟩
 rw [hz] at k5 ⊢
 replace hx:=hx.trans hx2
 have hsz:=hx.1
 simp [k5.cells,k5.plain,hsz]
 generalize hN:Array.setIfInBounds (Array.push _ _) _ _=G3
 obtain ⟨hx2,b2⟩:=new1 hN
 clear hN
 replace hx:=hx.trans hx2;replace k5:=k5.mono hx2
 have hsl:=k5.slen
 have hc1:(a0k z).1=decide (z < 0):=rfl
 have hc2:(a0k z).2.length=(a0o z.natAbs).length:=rfl
 rw [hc1] at b2
 rw [hc2] at hsl
 unfold c0A
 by_cases h0z:z=0
 ·have e1:a0B i=a0B j:=by omega
  subst h0z
  have hd:a0o (Int.natAbs 0)=[]:=a0X
  simp [x0O,T0k,b2,hsl,hd,a0X,e1]
 ·have hpos:=e0t (show 0 < z.natAbs by omega)
  have hne:a0o z.natAbs ≠ []:=fun h=>by rw [h] at hpos;simp at hpos
  by_cases hneg:z < 0
  ·have e1:a0B i < a0B j:=by omega
   simp [x0O,I0t,T0l,b2,hsl,hne,hneg,e1]
  ·have e1:¬ a0B i < a0B j:=by omega
   have e2:a0B j < a0B i:=by omega
   simp [x0O,I0t,T0m,b2,hsl,hne,hneg,e1,e2]
theorem m0z (h:b0q H v i) (k:b0q H w j) (hf:fl≤H.size) (hn:i.2.length < 268435456) (hm:j.2.length < 268435456):a0S env fl Z0c [v,w] H (fun r H'=>b0q H' r (a0k (Int.gcd (a0B i) (a0B j)))∧Ext H H') R:=by
 have k0:=h
 have k1:=k
 have hok:=h.ok
 have hok2:=k.ok
 obtain ⟨s,rfl,hs⟩:=h
 obtain ⟨u,rfl,hu⟩:=k
 refine a0g h1r hf (h:=?_)
 intro ρ h0
 simp [c1D,R0v,h0,hs.cells,hu.cells]
 generalize hG:Array.push (Array.push (Array.push H _) _) _=G
 have hx2:Ext H G:=by rw [← hG];exact (Ext.refl H).push.push.push
 have b0:a0e.blk G H.size=.row false a0a [.bool i.1,s]:=by rw [← hG];simp
 have b1:a0e.blk G (H.size + 1)=.row false a0a [.bool j.1,u]:=by rw [← hG];simp
 have b2:a0e.blk G (H.size + 2)=.row false a0a [.bool false,.slice none 0 0]:=by rw [← hG];simp
 have hx:=Ext.refl H
 clear hG
 replace hx:=hx.trans hx2;replace k0:=k0.mono hx2;replace k1:=k1.mono hx2
 have l1:=a0A hok
 have l2:=a0A hok2
 have hfd:∀ x s:Value,X0p false 1 1 (.agg #[x,s])=some s:=fun _ _=>rfl
 refine a0G ?_
 simp [R0w,b0]
 refine (d0f k0 (by have:=hx.1;omega) (by omega)).mono ?_
 rintro _ G2 ⟨⟨s1,rfl,k2⟩,hx2⟩
 replace b0:=hx2.blk b0;replace b1:=hx2.blk b1;replace b2:=hx2.blk b2;replace hx:=hx.trans hx2;replace k0:=k0.mono hx2;replace k1:=k1.mono hx2
 simp [b1,hfd]
 refine (d0f k1 hx.1 (by omega)).mono ?_
 rintro _ G2 ⟨⟨s2,rfl,k3⟩,hx2⟩
 replace b0:=hx2.blk b0;replace b1:=hx2.blk b1;replace b2:=hx2.blk b2;replace hx:=hx.trans hx2;replace k0:=k0.mono hx2;replace k1:=k1.mono hx2;replace k2:=k2.mono hx2
 simp [hfd]
 refine b0R (fun c t G=>∃ (a b:Nat) (s5 s6:Value),c=b∧t.length=28∧get t 4=.pointer (some ⟨H.size + 2,0,none⟩)∧get t 5=s5∧get t 6=s6 ∧
   Ext H G∧a0e.blk G (H.size + 2)=.row false a0a [.bool false,.slice none 0 0]∧Lim G s5 (a0o a)∧Lim G s6 (a0o b) ∧
   (a0o a).length < 536870912∧(a0o b).length < 536870912∧Nat.gcd a b=Int.gcd (a0B i) (a0B j))
  (fun t G=>∃ (a:Nat) (s5:Value),t.length=28∧get t 4=.pointer (some ⟨H.size + 2,0,none⟩)∧get t 5=s5 ∧
   Ext H G∧a0e.blk G (H.size + 2)=.row false a0a [.bool false,.slice none 0 0]∧Lim G s5 (a0o a)∧(a0o a).length < 536870912∧a=Int.gcd (a0B i) (a0B j)) (a0B j).natAbs ?_ ?_ ?_
 ·exact ⟨(a0B i).natAbs,(a0B j).natAbs,s1,s2,rfl,by simp,by simp,by simp,by simp,hx,b2,k2,k3,by omega,by omega,rfl⟩
 ·clear h0 ρ k0 k1 k2 k3 b0 b1 b2 hx
  rintro c t G ⟨a,b,s5,s6,rfl,ht,g4,g5,g6,hx,b2,k5,k6,la,lb,hg⟩
  obtain ⟨ρ,rfl⟩:=toT ht
  simp only [b0Q,Nat.reduceLT] at g4 g5 g6
  by_cases hb:c=0
  ·subst hb
   have hd:=a0X
   have hsl:=k6.slen
   rw [hd] at hsl
   simp at hsl
   simp [H0U,g6,hsl]
   have hga:a=Int.gcd (a0B i) (a0B j):=by simpa using hg
   rw [hga] at k5 la
   exact ⟨g4,hx,b2,by rw [g5];exact k5,la⟩
  ·have hpos:=e0t (show 0 < c by omega)
   have hpos':(0:Int) < ((a0o c).length:Int):=by omega
   have hne:a0o c ≠ []:=fun h=>by rw [h] at hpos;simp at hpos
   simp [H0U,R0x,g5,g6,k6.slen,hpos,hpos',hne]
   refine (o0k k5 k6 (by omega) hx.1 la lb).mono ?_
   rintro _ G2 ⟨⟨x,y,rfl,k7,k8⟩,hx2⟩
   simp [R0y,R0z,g6]
   have hlt:=j1G a (show c > 0 by omega)
   have hlc:(a0o (a % c)).length≤(a0o c).length:=b0e (l1h hlt)
   exact ⟨a % c,hlt,g4,hx.trans hx2,hx2.blk b2,c,k6.mono hx2,k8,lb,by omega,by rw [Nat.gcd_comm,← Nat.gcd_rec,Nat.gcd_comm];exact hg⟩
 ·clear h0 ρ k0 k1 k2 k3 b0 b1 b2 hx
  rintro t G ⟨a,s5,ht,g4,g5,hx,b2,k5,la,rfl⟩
  obtain ⟨ρ,rfl⟩:=toT ht
  simp only [b0Q,Nat.reduceLT] at g4 g5
  simp [R0A,g5]
  refine (c0H ((Int.gcd (a0B i) (a0B j):Nat):Int) k5 hx.1 (by omega) (by simp [a0q])).mono ?_
  rintro _ G2 ⟨⟨s3,rfl,k5⟩,hx2⟩
  replace b2:=hx2.blk b2;replace hx:=hx.trans hx2
  have hsz:=hx.1
  simp [g4,b2,k5.cells,k5.plain,hsz]
  generalize hS:Array.setIfInBounds G2 _ _=G5
  have hsz:=hx.1;replace k5:=k5.setS hS b2 (by decide);replace hx:=a0Y hS hx (by omega);replace b2:=a0v hS b2;clear hS hsz
  simp [b2]
  exact fun _=>⟨s3,rfl,k5⟩
end
section
open Go
set_option maxHeartbeats 4000000
variable {fl:Nat} {H G:a0e} {R:a0E} {v w:Value}
theorem f0U {n:Int} (hf:fl≤H.size) (h1:-9223372036854775808≤n) (h2:n < 9223372036854775808):a0S env fl K0n [.int .i64 n] H (fun r H'=>b0q H' r (a0k n)∧Ext H H') R:=by
 refine a0g g1A hf (h:=?_)
 intro ρ h0
 have e1:0≤n→IntKind.u64.wrap n=((n.natAbs:Nat):Int):=fun _=>by rw [a0x];omega
 have e2:n < 0→IntKind.u64.wrap (-IntKind.u64.wrap n)=((n.natAbs:Nat):Int):=fun _=>by rw [a0x,a0x];omega
 obtain ⟨m,hm⟩:∃ m,n.natAbs=m:=⟨_,rfl⟩
 rw [hm] at e1 e2
 have hm2:m < 18446744073709551616:=by omega
 simp [b1P,O0d,h0]
 generalize hG:Array.push H _=G
 obtain ⟨hx2,b0⟩:=g0R hG
 have hx:=Ext.refl H
 clear hG
 replace hx:=hx.trans hx2
 have q1:IntKind.u32.wrap ((m:Int))=((m % 4294967296:Nat):Int):=by rw [f0j];omega
 have q2:IntKind.u32.wrap (((m / 4294967296:Nat):Int))=((m / 4294967296:Nat):Int):=by rw [f0j];omega
 have q3:d0m 0 .shr (.int .u64 (m:Int)) (.int .u64 32)=some (.int .u64 ((m / 2 ^ 32:Nat):Int)):=W0w (s:=32) (by omega)
 have q4:m / 2 ^ 32=m / 4294967296:=rfl
 rw [q4] at q3
 by_cases hn:n < 0
 ·simp [-Int.natCast_emod,-Int.natCast_ediv,H0l,H0m,O0e,H0n,h0,hn,e2 hn,q1,q2,q3]
  generalize hG:Array.push G _=G1
  obtain ⟨hx2,b1⟩:=g0R hG
  clear hG
  replace b0:=hx2.blk b0;replace hx:=hx.trans hx2
  have hl:Lim G1 (.slice (some ⟨Array.size G,0,none⟩) 2 2) [m % 4294967296,m / 4294967296]:=by
   refine ⟨(Own.mk (fl:=0) (n:=2) (sz:=1) (cs:=b0Y [m % 4294967296,m / 4294967296]) ?_ rfl (j1l _)).sl,?_⟩
   ·rw [b1];rfl
   ·intro x hx;simp at hx;omega
  refine (c0H n hl hx.1 (by simp) ?_).mono ?_
  ·have:a0u [m % 4294967296,m / 4294967296]=m:=by simp [a0u];omega
   rw [this]
   simp;omega
  rintro _ G2 ⟨⟨s3,rfl,k5⟩,hx2⟩
  replace b0:=hx2.blk b0;replace b1:=hx2.blk b1;replace hx:=hx.trans hx2
  have hsz:=hx.1
  simp [b0,k5.cells,k5.plain,hsz]
  generalize hS:Array.setIfInBounds G2 _ _=G5
  have hsz:=hx.1;replace k5:=k5.setS hS b0 (by decide);replace hx:=a0Y hS hx (by omega);replace b0:=a0v hS b0;clear hS hsz
  simp [b0]
  exact fun _=>⟨s3,rfl,k5⟩
 ·simp [-Int.natCast_emod,-Int.natCast_ediv,H0l,H0m,H0n,h0,hn,e1 (by omega),q1,q2,q3]
  generalize hG:Array.push G _=G1
  obtain ⟨hx2,b1⟩:=g0R hG
  clear hG
  replace b0:=hx2.blk b0;replace hx:=hx.trans hx2
  have hl:Lim G1 (.slice (some ⟨Array.size G,0,none⟩) 2 2) [m % 4294967296,m / 4294967296]:=by
   refine ⟨(Own.mk (fl:=0) (n:=2) (sz:=1) (cs:=b0Y [m % 4294967296,m / 4294967296]) ?_ rfl (j1l _)).sl,?_⟩
   ·rw [b1];rfl
   ·intro x hx;simp at hx;omega
  refine (c0H n hl hx.1 (by simp) ?_).mono ?_
  ·have:a0u [m % 4294967296,m / 4294967296]=m:=by simp [a0u];omega
   rw [this]
   simp;omega
  rintro _ G2 ⟨⟨s3,rfl,k5⟩,hx2⟩
  replace b0:=hx2.blk b0;replace hx:=hx.trans hx2
  have hsz:=hx.1
  simp [b0,k5.cells,k5.plain,hsz]
  generalize hS:Array.setIfInBounds G2 _ _=G5
  have hsz:=hx.1;replace k5:=k5.setS hS b0 (by decide);replace hx:=a0Y hS hx (by omega);replace b0:=a0v hS b0;clear hS hsz
  simp [b0]
  exact fun _=>⟨s3,rfl,k5⟩
theorem K0e:a0f 0=((false,[]),a0k 1):=by
 show (a0k 0,a0k 1)=_
 rw [e0k]
theorem f0C (hf:fl≤H.size):a0S env fl X0k [] H (fun r H'=>b0P H' r (a0f 0)∧Ext H H') R:=by
 refine a0g h1o hf (h:=?_)
 intro ρ h0
 simp [c1A,R0m,R0n,h0]
 generalize hG:Array.push H _=G
 obtain ⟨hx2,b0⟩:=g0R hG
 have hx:=Ext.refl H
 clear hG
 replace hx:=hx.trans hx2
 refine (f0U hx.1 (by omega) (by omega)).mono ?_
 rintro _ G2 ⟨⟨s3,rfl,k5⟩,hx2⟩
 replace b0:=hx2.blk b0;replace hx:=hx.trans hx2
 have hsz:=hx.1
 simp [b0,k5.cells,k5.plain,hsz,b0t]
 generalize hS:Array.setIfInBounds G2 _ _=G5
 have hsz:=hx.1;replace k5:=k5.setS hS b0 (by decide);replace hx:=a0Y hS hx (by omega);replace b0:=a0v hS b0;clear hS hsz
 simp [b0]
 rw [K0e]
 exact fun _=>⟨.slice none 0 0,s3,rfl,Lim.nil,k5⟩
end
section
open Go
set_option maxHeartbeats 4000000
variable {fl:Nat} {H G:a0e} {R:a0E} {v w:Value} {a:b0h}
theorem k0b {n:Nat}:a0o n=[1] ↔ n=1:=by
 constructor
 ·intro h
  have:=a0q n
  rw [h] at this
  simpa [a0u] using this.symm
 ·rintro rfl
  rw [e0n (by omega)]
  simp [a0X]
theorem b1a {i:Bool × List Nat} (h:g0h i=true) (hl:i.2 ≠ []) (hok:b0a i.2):a0B i ≠ 0:=by
 intro h0
 have h1:=j0s hok
 unfold f0a at h1
 rw [h,h0] at h1
 simp [a0X] at h1
 exact hl h1
theorem i0D (h:b0P H v a) (hf:fl≤H.size) (hn:d0b a < 268435456):a0S env fl X0o [v] H (fun r H'=>r=.bool (n0F a)∧Ext H H') R:=by
 have hn1:a.1.2.length < 268435456:=by unfold d0b at hn;omega
 have hn2:a.2.2.length < 268435456:=by unfold d0b at hn;omega
 obtain ⟨s,u,rfl,hs,hu⟩:=h
 obtain ⟨⟨p,lp⟩,⟨q,lq⟩⟩:=a
 simp only at hs hu hn1 hn2
 have k0:b0q H (.agg #[.bool p,s]) (p,lp):=⟨s,rfl,hs⟩
 have k1:b0q H (.agg #[.bool q,u]) (q,lq):=⟨u,rfl,hu⟩
 refine a0g h1U hf (h:=?_)
 intro ρ h0
 simp [d1e,T0N,h0]
 generalize hG:Array.push H _=G
 obtain ⟨hx2,b0⟩:=g0R hG
 have hx:=Ext.refl H
 clear hG
 replace hs:=hs.mono hx2
 replace hu:=hu.mono hx2
 replace hx:=hx.trans hx2;replace k0:=k0.mono hx2;replace k1:=k1.mono hx2
 have hsl:=hs.slen
 have hul:=hu.slen
 by_cases hc:lq=[]∧q=false
 ·obtain ⟨rfl,rfl⟩:=hc
  have hm:n0F ((p,lp),(false,[]))=(!p && lp.length == 0):=by
   unfold n0F d0O
   have:a0B (false,([]:List Nat))=0:=by simp [a0B,a0u,g0h]
   rw [this]
   cases p <;> simp
  rw [hm]
  simp [x0R,b0,hul]
  cases lp with
  | nil=>cases p <;> simp [I0I,b0,hsl]
  | cons y l =>
   have hne:¬ ((l.length:Int) + 1=0):=by omega
   cases p <;> simp [I0I,b0,hsl,hne]
 ·have hm:n0F ((p,lp),(q,lq))=(g0h (p,lp) && g0h (q,lq) && !q && decide (Int.gcd (a0B (p,lp)) (a0B (q,lq))=1)):=by
   have hz:d0O ((p,lp),(q,lq))=false:=by
    unfold d0O
    cases lq with
    | nil=>cases q with
     | true=>simp
     | false=>exact i1A ⟨rfl,rfl⟩ hc
    | cons y l=>simp
   unfold n0F
   rw [hz,k1Q]
   by_cases h1:g0h (q,lq)=true∧q=false
   ·obtain ⟨h1,rfl⟩:=h1
    have hl:lq ≠ []:=fun h=>hc ⟨h,rfl⟩
    have hv:=b1a (i:=(false,lq)) h1 hl hu.ok
    have hv2:(a0B (false,lq) != 0)=true:=bne_iff_ne.2 hv
    rw [h1,hv2]
    cases g0h (p,lp) <;> simp [BEq.beq]
   ·cases h2:g0h (q,lq) <;> cases q <;> simp_all
  rw [hm]
  have hg1:∀ (s:Value) (g:Nat) (G:a0e),Lim G s (a0o g)→(decide (((a0o g).length:Int)=1)=true→b0r G false 1 (adr 1 s 0)=some (.int .u32 ((a0o g).getD 0 0:Nat))):=fun s g G h hl=>h.load (by have:=of_decide_eq_true hl;omega) (Ext.refl _)
  cases lq with
  | nil =>
   have hqt:q=true:=by cases q with
    | true=>rfl
    | false=>exact i1A ⟨rfl,rfl⟩ hc
   subst hqt
   simp [x0R,I0J,b0,hul]
   refine (m0z k0 k1 hx.1 hn1 hn2).mono ?_
   rintro _ G2 ⟨⟨sg,rfl,kg⟩,hx2⟩
   replace b0:=hx2.blk b0;replace hx:=hx.trans hx2;replace k0:=k0.mono hx2;replace k1:=k1.mono hx2
   have hsz:=hx.1
   obtain ⟨g,hg⟩:∃ g,Int.gcd (a0B (p,lp)) (a0B (true,[]))=g:=⟨_,rfl⟩
   rw [hg] at kg ⊢
   simp [kg.cells,kg.plain,hsz]
   generalize hN:Array.setIfInBounds (Array.push _ _) _ _=G3
   obtain ⟨hx2,b2⟩:=new1 hN
   clear hN
   replace b0:=hx2.blk b0;replace hx:=hx.trans hx2;replace k0:=k0.mono hx2;replace k1:=k1.mono hx2
   replace kg:Lim G3 sg (a0o g):=kg.mono hx2
   simp [I0K,b0]
   refine (f0b k0 hx.1 (i1C hn1 (by omega))).mono ?_
   rintro _ G4 ⟨rfl,hx2⟩
   replace b0:=hx2.blk b0;replace b2:=hx2.blk b2;replace hx:=hx.trans hx2;replace k0:=k0.mono hx2;replace k1:=k1.mono hx2
   replace kg:=kg.mono hx2
   cases h1:g0h (p,lp) with
   | false=>simp
   | true =>
   simp [b0]
   refine (f0b k1 hx.1 (i1C hn2 (by omega))).mono ?_
   rintro _ G5 ⟨rfl,hx2⟩
   replace b0:=hx2.blk b0;replace b2:=hx2.blk b2;replace hx:=hx.trans hx2;replace k0:=k0.mono hx2;replace k1:=k1.mono hx2
   replace kg:=kg.mono hx2
   have hmf:g0h (true,([]:List Nat))=false:=rfl
   simp [hmf]
  | cons y l =>
   have hne:¬ ((l.length:Int) + 1=0):=by omega
   simp [x0R,I0J,b0,hul,hne]
   refine (m0z k0 k1 hx.1 hn1 hn2).mono ?_
   rintro _ G2 ⟨⟨sg,rfl,kg⟩,hx2⟩
   replace b0:=hx2.blk b0;replace hx:=hx.trans hx2;replace k0:=k0.mono hx2;replace k1:=k1.mono hx2
   have hsz:=hx.1
   obtain ⟨g,hg⟩:∃ g,Int.gcd (a0B (p,lp)) (a0B (q,y::l))=g:=⟨_,rfl⟩
   rw [hg] at kg ⊢
   simp [kg.cells,kg.plain,hsz]
   generalize hN:Array.setIfInBounds (Array.push _ _) _ _=G3
   obtain ⟨hx2,b2⟩:=new1 hN
   clear hN
   replace b0:=hx2.blk b0;replace hx:=hx.trans hx2;replace k0:=k0.mono hx2;replace k1:=k1.mono hx2
   replace kg:Lim G3 sg (a0o g):=kg.mono hx2
   simp [I0K,b0]
   refine (f0b k0 hx.1 (i1C hn1 (by omega))).mono ?_
   rintro _ G4 ⟨rfl,hx2⟩
   replace b0:=hx2.blk b0;replace b2:=hx2.blk b2;replace hx:=hx.trans hx2;replace k1:=k1.mono hx2
   replace kg:=kg.mono hx2
   cases h1:g0h (p,lp) with
   | false=>simp
   | true =>
   simp [b0]
   refine (f0b k1 hx.1 (i1C hn2 (by omega))).mono ?_
   rintro _ G5 ⟨rfl,hx2⟩
   replace b0:=hx2.blk b0;replace b2:=hx2.blk b2;replace hx:=hx.trans hx2
   replace kg:=kg.mono hx2
   cases h2:g0h (q,y :: l) with
   | false=>simp
   | true =>
   cases q with
   | true=>simp [b0]
   | false =>
   by_cases hgl:(a0o g).length=1
   ·obtain ⟨z,hz⟩:=List.length_eq_one_iff.1 hgl
    have hgz:(g=1)=(z=1):=l1g ⟨fun h=>by have:=k0b.2 h;rw [hz] at this;simpa using this,fun h=>k0b.1 (by rw [hz,h])⟩
    have h3:=kg.ia (show 0 < (a0o g).length by omega) (k:=.i64)
    have h4:=kg.load (show 0 < (a0o g).length by omega) (Ext.refl _)
    rw [hz] at h4
    simp at h3 h4
    simp [b0,b2,kg.slen,hgl,hz,h3,h4,hgz]
    intro _
    rw [k1G,beq_iff_eq,j1n]
    omega
   ·have hgl':¬ ((a0o g).length:Int)=1:=by omega
    have hg1:¬ g=1:=fun h=>hgl (by rw [k0b.2 h];rfl)
    simp [b0,b2,kg.slen,hgl,hgl',hg1]
theorem f0c (h:b0P H v a) (hf:fl≤H.size) (hn:d0b a < 268435456):a0S env fl V0l [v] H (fun r H'=>b0P H' r (a0f (b0u a))∧Ext H H') R:=by
 have hn1:a.1.2.length < 268435456:=by unfold d0b at hn;omega
 have hn2:a.2.2.length < 268435456:=by unfold d0b at hn;omega
 have k0:=h
 obtain ⟨s,u,rfl,hs,hu⟩:=h
 refine a0g h1p hf (h:=?_)
 intro ρ h0
 simp [c1B,R0o,h0,hs.cells,hu.cells]
 generalize hG:Array.push (Array.push H _) _=G
 have hx2:Ext H G:=by rw [← hG];exact (Ext.refl H).push.push
 have b0:a0e.blk G H.size=.row false a0b [.bool a.1.1,s,.bool a.2.1,u]:=by rw [← hG];simp
 have b1:a0e.blk G (H.size + 1)=.row false a0b [.bool false,.slice none 0 0,.bool false,.slice none 0 0]:=by rw [← hG];simp
 have hx:=Ext.refl H
 clear hG
 replace hx:=hx.trans hx2;replace k0:=k0.mono hx2
 replace hs:=hs.mono hx2
 replace hu:=hu.mono hx2
 simp [R0p,b0]
 refine (i0D k0 hx.1 hn).mono ?_
 rintro _ G2 ⟨rfl,hx2⟩
 replace b0:=hx2.blk b0;replace b1:=hx2.blk b1;replace hx:=hx.trans hx2;replace k0:=k0.mono hx2
 replace hs:=hs.mono hx2
 replace hu:=hu.mono hx2
 have hsz:=hx.1
 cases hm:n0F a with
 | false =>
  have hv:b0u a=0:=by
   unfold b0u
   rw [hm]
   split <;> rfl
  simp
  simp [H0T]
  refine (f0C hx.1).mono ?_
  rintro _ G3 ⟨⟨s3,u3,rfl,k3,k4⟩,hx2⟩
  replace b0:=hx2.blk b0;replace b1:=hx2.blk b1;replace hx:=hx.trans hx2;replace k0:=k0.mono hx2
  have hsz:=hx.1
  simp [b1,k3.cells,k3.plain,k4.cells,k4.plain,hsz]
  generalize hS:Array.setIfInBounds G3 _ _=G5
  have hsz:=hx.1;replace k0:=k0.setS hS b1 (by decide);replace k3:=k3.setS hS b1 (by decide);replace k4:=k4.setS hS b1 (by decide);replace b0:=a0p hS b0 (by omega);replace hx:=a0Y hS hx (by omega);replace b1:=a0v hS b1;clear hS hsz
  simp [b1]
  rw [hv]
  exact fun _=>⟨s3,u3,rfl,k3,k4⟩
 | true =>
  simp [b0,hu.slen]
  refine ⟨fun hnil=>?_,fun hne=>?_⟩
  ·have hv:b0u a=0:=by
    cases hz:d0O a with
    | true=>unfold b0u;rw [hz];rfl
    | false =>
     exfalso
     unfold n0F at hm
     rw [hz] at hm
     simp at hm
     obtain ⟨⟨⟨⟨m1,m2⟩,m3⟩,m4⟩,m5⟩:=hm
     exact m4 (by unfold a0B;rw [hnil];simp [a0u])
   simp [H0T]
   refine (f0C hx.1).mono ?_
   rintro _ G3 ⟨⟨s3,u3,rfl,k3,k4⟩,hx2⟩
   replace b0:=hx2.blk b0;replace b1:=hx2.blk b1;replace hx:=hx.trans hx2;replace k0:=k0.mono hx2
   have hsz:=hx.1
   simp [b1,k3.cells,k3.plain,k4.cells,k4.plain,hsz]
   generalize hS:Array.setIfInBounds G3 _ _=G5
   have hsz:=hx.1;replace k0:=k0.setS hS b1 (by decide);replace k3:=k3.setS hS b1 (by decide);replace k4:=k4.setS hS b1 (by decide);replace b0:=a0p hS b0 (by omega);replace hx:=a0Y hS hx (by omega);replace b1:=a0v hS b1;clear hS hsz
   simp [b1]
   rw [hv]
   exact fun _=>⟨s3,u3,rfl,k3,k4⟩
  ·have hz:d0O a=false:=by
    unfold d0O
    cases hl:a.2.2 with
    | nil=>exact i1A hl hne
    | cons y l=>simp
   have hvp:=k0G hz hm
   unfold n0F at hm
   rw [hz] at hm
   simp at hm
   obtain ⟨⟨⟨⟨m1,m2⟩,m3⟩,m4⟩,m5⟩:=hm
   rw [hvp]
   refine a0G ?_
   simp [R0q,b0]
   refine (c0H (a0B a.1) hs (by have:=hx.1;omega) (by omega) (by unfold a0B;rw [m1];rfl)).mono ?_
   rintro _ G3 ⟨⟨s3,rfl,k3⟩,hx2⟩
   replace b0:=hx2.blk b0;replace b1:=hx2.blk b1;replace hx:=hx.trans hx2;replace k0:=k0.mono hx2
   replace hu:=hu.mono hx2
   simp [b0]
   refine (c0H (a0B a.2) hu hx.1 (by omega) (by unfold a0B;rw [m2,m3];rfl)).mono ?_
   rintro _ G4 ⟨⟨s4,rfl,k4⟩,hx2⟩
   replace b0:=hx2.blk b0;replace b1:=hx2.blk b1;replace hx:=hx.trans hx2;replace k0:=k0.mono hx2;replace k3:=k3.mono hx2
   have hsz:=hx.1
   simp [b1,k3.cells,k3.plain,k4.cells,k4.plain,hsz,b0t]
   generalize hS:Array.setIfInBounds G4 _ _=G5
   have hsz:=hx.1;replace k0:=k0.setS hS b1 (by decide);replace k3:=k3.setS hS b1 (by decide);replace k4:=k4.setS hS b1 (by decide);replace b0:=a0p hS b0 (by omega);replace hx:=a0Y hS hx (by omega);replace b1:=a0v hS b1;clear hS hsz
   simp [b1]
   exact fun _=>⟨s3,s4,rfl,k3,k4⟩
end
section
open Go
set_option maxHeartbeats 4000000
variable {fl:Nat} {H G:a0e} {R:a0E} {v w:Value} {a b:b0h}
theorem o0h (h:b0P H v a) (k:b0P H w b) (hf:fl≤H.size) (hn:d0b a < 67108864) (hm:d0b b < 67108864):a0S env fl Z0a [v,w] H (fun r H'=>r=.int .i64 (M0M (b0u a) (b0u b))∧Ext H H') R:=by
 have k0:=h
 have k1:=k
 obtain ⟨s,u,rfl,hs,hu⟩:=h
 obtain ⟨s',u',rfl,hs',hu'⟩:=k
 have z1:=c0y hs.ok hu.ok
 have z2:=c0y hs'.ok hu'.ok
 refine a0g h1l hf (h:=?_)
 intro ρ h0
 simp [c1x,Q0X,h0,hs.cells,hu.cells,hs'.cells,hu'.cells]
 generalize hG:Array.push (Array.push H _) _=G
 have hx2:Ext H G:=by rw [← hG];exact (Ext.refl H).push.push
 have b0:a0e.blk G H.size=.row false a0b [.bool a.1.1,s,.bool a.2.1,u]:=by rw [← hG];simp
 have b1:a0e.blk G (H.size + 1)=.row false a0b [.bool b.1.1,s',.bool b.2.1,u']:=by rw [← hG];simp
 have hx:=Ext.refl H
 clear hG
 replace hx:=hx.trans hx2;replace k0:=k0.mono hx2;replace k1:=k1.mono hx2
 simp [Q0Y,b0]
 refine (f0c k0 hx.1 (by omega)).mono ?_
 rintro _ G2 ⟨⟨s1,u1,rfl,k2,k3⟩,hx2⟩
 replace b0:=hx2.blk b0;replace b1:=hx2.blk b1;replace hx:=hx.trans hx2;replace k0:=k0.mono hx2;replace k1:=k1.mono hx2
 have hsz:=hx.1
 simp [b0,k2.cells,k2.plain,k3.cells,k3.plain,hsz]
 generalize hS:Array.setIfInBounds G2 _ _=G3
 have hsz:=hx.1;replace k0:=k0.setS hS b0 (by decide);replace k1:=k1.setS hS b0 (by decide);replace k2:=k2.setS hS b0 (by decide);replace k3:=k3.setS hS b0 (by decide);replace b1:=a0p hS b1 (by omega);replace hx:=a0Y hS hx (by omega);replace b0:=a0v hS b0;clear hS hsz
 simp [Q0Z,b1]
 refine (f0c k1 hx.1 (by omega)).mono ?_
 rintro _ G2 ⟨⟨s2,u2,rfl,k4,k5⟩,hx2⟩
 replace b0:=hx2.blk b0;replace b1:=hx2.blk b1;replace hx:=hx.trans hx2;replace k0:=k0.mono hx2;replace k1:=k1.mono hx2;replace k2:=k2.mono hx2;replace k3:=k3.mono hx2
 have hsz:=hx.1
 simp [b1,k4.cells,k4.plain,k5.cells,k5.plain,hsz]
 generalize hS:Array.setIfInBounds G2 _ _=G4
 have hsz:=hx.1;replace k0:=k0.setS hS b1 (by decide);replace k1:=k1.setS hS b1 (by decide);replace k2:=k2.setS hS b1 (by decide);replace k3:=k3.setS hS b1 (by decide);replace k4:=k4.setS hS b1 (by decide);replace k5:=k5.setS hS b1 (by decide);replace b0:=a0p hS b0 (by omega);replace hx:=a0Y hS hx (by omega);replace b1:=a0v hS b1;clear hS hsz
 clear k0 k1 hs hu hs' hu'
 generalize b0u a=x at *
 generalize b0u b=y at *
 have x1:=e0I x
 have x2:=f0F x
 have y1:=e0I y
 have y2:=f0F y
 have c1:(a0f x).1.2.length=lz x.num:=a0n _
 have c2:(a0f x).2.2.length=lz x.den:=a0n _
 have c3:(a0f y).1.2.length=lz y.num:=a0n _
 have c4:(a0f y).2.2.length=lz y.den:=a0n _
 have i1:b0q G4 (.agg #[.bool (a0f x).1.1,s1]) (a0k x.num):=⟨s1,rfl,k2⟩
 have i2:b0q G4 (.agg #[.bool (a0f x).2.1,u1]) (a0k x.den):=⟨u1,rfl,k3⟩
 have i3:b0q G4 (.agg #[.bool (a0f y).1.1,s2]) (a0k y.num):=⟨s2,rfl,k4⟩
 have i4:b0q G4 (.agg #[.bool (a0f y).2.1,u2]) (a0k y.den):=⟨u2,rfl,k5⟩
 clear k2 k3 k4 k5
 refine a0G ?_
 simp [R0a,b0,b1]
 refine (m0A i1 i4 (by have:=hx.1;omega) (by rw [a0n];omega) (by rw [a0n];omega)).mono ?_
 rintro m1 G5 ⟨j1,hx2⟩
 replace b0:=hx2.blk b0;replace b1:=hx2.blk b1;replace hx:=hx.trans hx2
 replace i2:=i2.mono hx2
 replace i3:=i3.mono hx2
 simp [b0,b1]
 refine (m0A i3 i2 hx.1 (by rw [a0n];omega) (by rw [a0n];omega)).mono ?_
 rintro m2 G6 ⟨j2,hx2⟩
 replace hx:=hx.trans hx2
 replace j1:=j1.mono hx2
 rw [a0j,a0j] at j1 j2
 simp
 have q1:=c0V x.num y.den
 have q2:=c0V y.num x.den
 refine (u0r j1 j2 hx.1 (by rw [a0n];omega) (by rw [a0n];omega)).mono ?_
 rintro _ G7 ⟨rfl,hx2⟩
 rw [a0j,a0j,U0I]
 simp
end
section
open Go
set_option maxHeartbeats 4000000
variable {fl:Nat} {H G:a0e} {R:a0E} {v w:Value} {i j:Bool × List Nat}
theorem g0z {n:Int} (hf:fl≤H.size) (h1:-9223372036854775808≤n) (h2:n < 9223372036854775808):a0S env fl V0j [.int .i64 n] H (fun r H'=>b0P H' r (a0f n)∧Ext H H') R:=by
 refine a0g g1C hf (h:=?_)
 intro ρ h0
 simp [b1R,O0n,O0o,h0]
 generalize hG:Array.push H _=G
 obtain ⟨hx2,b0⟩:=g0R hG
 have hx:=Ext.refl H
 clear hG
 replace hx:=hx.trans hx2
 refine (f0U hx.1 h1 h2).mono ?_
 rintro _ G2 ⟨⟨s1,rfl,k1⟩,hx2⟩
 replace b0:=hx2.blk b0;replace hx:=hx.trans hx2
 simp
 refine (f0U hx.1 (by omega) (by omega)).mono ?_
 rintro _ G2 ⟨⟨s2,rfl,k2⟩,hx2⟩
 replace b0:=hx2.blk b0;replace hx:=hx.trans hx2;replace k1:=k1.mono hx2
 have hsz:=hx.1
 simp [b0,k1.cells,k1.plain,k2.cells,k2.plain,hsz,b0t]
 generalize hS:Array.setIfInBounds G2 _ _=G5
 have hsz:=hx.1;replace k1:=k1.setS hS b0 (by decide);replace k2:=k2.setS hS b0 (by decide);replace hx:=a0Y hS hx (by omega);replace b0:=a0v hS b0;clear hS hsz
 simp [b0]
 have hc:a0f (n:Rat)=(a0k n,a0k 1):=by
  unfold a0f;rw [k1P,k1N];rfl
 rw [hc]
 exact fun _=>⟨s1,s2,rfl,k1,k2⟩
end
section
open Go
set_option maxHeartbeats 4000000
variable {fl:Nat} {H G:a0e} {R:a0E} {v w:Value} {a b:b0h}
theorem k0S (h:b0P H v a) (hf:fl≤H.size):a0S env fl A0I [v] H (fun r H'=>r=.bool (d0O a)∧Ext H H') R:=by
 obtain ⟨s,u,rfl,hs,hu⟩:=h
 obtain ⟨⟨p,lp⟩,⟨q,lq⟩⟩:=a
 simp only at hs hu
 refine a0g e1A hf (h:=?_)
 intro ρ h0
 simp [L0C,D0V,h0]
 generalize hG:Array.push H _=G
 obtain ⟨hx2,b0⟩:=g0R hG
 clear hG
 have hsl:=(hs.mono hx2).slen
 have hul:=(hu.mono hx2).slen
 unfold d0O
 cases lp with
 | nil =>
  cases p with
  | true=>simp [n0d,b0,hsl,hul]
  | false =>
   cases lq with
   | nil=>cases q <;> simp [n0d,b0,hsl,hul]
   | cons y l =>
    have hne:¬ ((l.length:Int) + 1=0):=by omega
    simp [n0d,b0,hsl,hul,hne]
 | cons y l =>
  have hne:¬ ((l.length:Int) + 1=0):=by omega
  simp [n0d,b0,hsl,hul,hne]
end
section
open Go
set_option maxHeartbeats 4000000
variable {fl:Nat} {H G:a0e} {R:a0E} {v w:Value} {e f:b0T}
theorem o0j (h:f0J H v e) (hf:fl≤H.size) (hn:d0b e.2 < 268435456):a0S env fl Z0n [v] H (fun r H'=>r=.bool (i0R e)∧Ext H H') R:=by
 obtain ⟨s,u,rfl,hs,hu⟩:=h
 have k0:b0P H (.agg #[.bool e.2.1.1,s,.bool e.2.2.1,u]) e.2:=⟨s,u,rfl,hs,hu⟩
 refine a0g h1O hf (h:=?_)
 intro ρ h0
 simp [c1Z,T0g,h0,hs.cells,hu.cells]
 generalize hG:Array.push H _=G
 obtain ⟨hx2,b0⟩:=g0R hG
 have hx:=Ext.refl H
 clear hG
 replace hx:=hx.trans hx2;replace k0:=k0.mono hx2
 unfold i0R
 by_cases h3:e.1=0
 ·simp [h3,t0b,T0h,b0]
  refine (i0D k0 hx.1 hn).mono ?_
  rintro _ G2 ⟨rfl,hx2⟩
  simp
 ·by_cases h2:e.1=1
  ·simp [h2,t0b,x0N,b0]
   refine (k0S k0 hx.1).mono ?_
   rintro _ G2 ⟨rfl,hx2⟩
   simp
  ·by_cases h1:e.1 = -1
   ·simp [h1,t0b,x0N,b0]
    refine (k0S k0 hx.1).mono ?_
    rintro _ G2 ⟨rfl,hx2⟩
    simp
   ·simp [h1,h2,h3,t0b,x0N,b0]
theorem e0a (h:f0J H v e) (hf:fl≤H.size) (hn:d0b e.2 < 268435456):a0S env fl M0S [v] H (fun r H'=>f0J H' r (b0A (e0d e))∧Ext H H') R:=by
 have k0:=h
 obtain ⟨s,u,rfl,hs,hu⟩:=h
 have k1:b0P H (.agg #[.bool e.2.1.1,s,.bool e.2.2.1,u]) e.2:=⟨s,u,rfl,hs,hu⟩
 refine a0g h1k hf (h:=?_)
 intro ρ h0
 simp [c1w,Q0S,h0,hs.cells,hu.cells]
 generalize hG:Array.push (Array.push H _) _=G
 have hx2:Ext H G:=by rw [← hG];exact (Ext.refl H).push.push
 have b0:a0e.blk G H.size=.row false a0F [.int .i64 e.1,.bool e.2.1.1,s,.bool e.2.2.1,u]:=by rw [← hG];simp
 have b1:a0e.blk G (H.size + 1)=.row false a0F [.int .i64 0,.bool false,.slice none 0 0,.bool false,.slice none 0 0]:=by rw [← hG];simp
 have hx:=Ext.refl H
 clear hG
 replace hx:=hx.trans hx2;replace k0:=k0.mono hx2;replace k1:=k1.mono hx2
 simp [Q0T,b0]
 refine (o0j k0 hx.1 hn).mono ?_
 rintro _ G2 ⟨rfl,hx2⟩
 replace b0:=hx2.blk b0;replace b1:=hx2.blk b1;replace hx:=hx.trans hx2;replace k0:=k0.mono hx2;replace k1:=k1.mono hx2
 have hsz:=hx.1
 unfold e0d
 cases hm:i0R e with
 | false =>
  simp [Q0U]
  refine (f0C hx.1).mono ?_
  rintro _ G3 ⟨⟨s3,u3,rfl,k3,k4⟩,hx2⟩
  replace b0:=hx2.blk b0;replace b1:=hx2.blk b1;replace hx:=hx.trans hx2;replace k0:=k0.mono hx2;replace k1:=k1.mono hx2
  have hsz:=hx.1
  simp [b1,k3.cells,k3.plain,k4.cells,k4.plain,hsz,b0t]
  generalize hS:Array.setIfInBounds G3 _ _=G5
  have hsz:=hx.1;replace k0:=k0.setS hS b1 (by decide);replace k1:=k1.setS hS b1 (by decide);replace k3:=k3.setS hS b1 (by decide);replace k4:=k4.setS hS b1 (by decide);replace b0:=a0p hS b0 (by omega);replace hx:=a0Y hS hx (by omega);replace b1:=a0v hS b1;clear hS hsz
  simp [b1]
  exact fun _=>⟨s3,u3,rfl,k3,k4⟩
 | true =>
  by_cases h3:e.1=0
  ·simp [h3,H0R,Q0W,b0]
   refine (f0c k1 hx.1 hn).mono ?_
   rintro _ G3 ⟨⟨s3,u3,rfl,k3,k4⟩,hx2⟩
   replace b0:=hx2.blk b0;replace b1:=hx2.blk b1;replace hx:=hx.trans hx2;replace k0:=k0.mono hx2;replace k1:=k1.mono hx2
   have hsz:=hx.1
   simp [b1,k3.cells,k3.plain,k4.cells,k4.plain,hsz,b0t]
   generalize hS:Array.setIfInBounds G3 _ _=G5
   have hsz:=hx.1;replace k0:=k0.setS hS b1 (by decide);replace k1:=k1.setS hS b1 (by decide);replace k3:=k3.setS hS b1 (by decide);replace k4:=k4.setS hS b1 (by decide);replace b0:=a0p hS b0 (by omega);replace hx:=a0Y hS hx (by omega);replace b1:=a0v hS b1;clear hS hsz
   simp [b1]
   exact fun _=>⟨s3,u3,rfl,k3,k4⟩
  ·have hz:d0O e.2=true:=by
    unfold i0R at hm
    by_cases hc:e.1 = -1 ∨ e.1=1
    ·rw [i1n hc] at hm;exact hm
    ·rw [i1k hc,i1k h3] at hm;exact i1A hm (by decide)
   have he:=(J0x _).1 hz
   have hc:b0A (e.1,0)=e:=by
    unfold b0A
    simp only
    rw [i1k h3]
    exact Prod.ext rfl he.symm
   obtain ⟨s5,u5,hv5,k5,k6⟩:=k0
   have hss:s5=s∧u5=u:=by simpa [eq_comm] using hv5
   obtain ⟨rfl,rfl⟩:=hss
   simp [h3,H0R,Q0V,b0,b1,k5.cells,k5.plain,k6.cells,k6.plain,hsz]
   generalize hS:Array.setIfInBounds G2 _ _=G5
   have hsz:=hx.1;replace k1:=k1.setS hS b1 (by decide);replace k5:=k5.setS hS b1 (by decide);replace k6:=k6.setS hS b1 (by decide);replace b0:=a0p hS b0 (by omega);replace hx:=a0Y hS hx (by omega);replace b1:=a0v hS b1;clear hS hsz
   simp [b1]
   rw [hc]
   exact fun _=>⟨s5,u5,rfl,k5,k6⟩
theorem i0C (h:f0J H v e) (k:f0J H w f) (hf:fl≤H.size) (hn:d0b e.2 < 67108864) (hm:d0b f.2 < 67108864):a0S env fl X0e [v,w] H (fun r H'=>r=.int .i64 (n0E (e0d e) (e0d f))∧Ext H H') R:=by
 have k0:=h
 have k1:=k
 have l1:=s0o h
 have l2:=s0o k
 obtain ⟨s,u,rfl,hs,hu⟩:=h
 obtain ⟨s',u',rfl,hs',hu'⟩:=k
 refine a0g g1O hf (h:=?_)
 intro ρ h0
 simp [c1d,P0i,h0,hs.cells,hu.cells,hs'.cells,hu'.cells]
 generalize hG:Array.push (Array.push H _) _=G
 have hx2:Ext H G:=by rw [← hG];exact (Ext.refl H).push.push
 have b0:a0e.blk G H.size=.row false a0F [.int .i64 e.1,.bool e.2.1.1,s,.bool e.2.2.1,u]:=by rw [← hG];simp
 have b1:a0e.blk G (H.size + 1)=.row false a0F [.int .i64 f.1,.bool f.2.1.1,s',.bool f.2.2.1,u']:=by rw [← hG];simp
 have hx:=Ext.refl H
 clear hG
 replace hx:=hx.trans hx2;replace k0:=k0.mono hx2;replace k1:=k1.mono hx2
 simp [P0j,b0]
 refine (e0a k0 hx.1 (by omega)).mono ?_
 rintro _ G2 ⟨⟨s1,s2,rfl,k2,k3⟩,hx2⟩
 replace b0:=hx2.blk b0;replace b1:=hx2.blk b1;replace hx:=hx.trans hx2;replace k0:=k0.mono hx2;replace k1:=k1.mono hx2
 have hz0:=a0i b0
 simp [b0,k2.cells,k2.plain,k3.cells,k3.plain,hz0]
 generalize hS:Array.setIfInBounds G2 _ _=G3
 have hsz:=hx.1;replace k0:=k0.setS hS b0 (by decide);replace k1:=k1.setS hS b0 (by decide);replace k2:=k2.setS hS b0 (by decide);replace k3:=k3.setS hS b0 (by decide);replace b1:=a0p hS b1 (by omega);replace hx:=a0Y hS hx (by omega);replace b0:=a0v hS b0;clear hS hsz
 simp [P0k,b1]
 refine (e0a k1 hx.1 (by omega)).mono ?_
 rintro _ G2 ⟨⟨s3,s4,rfl,k4,k5⟩,hx2⟩
 replace b0:=hx2.blk b0;replace b1:=hx2.blk b1;replace hx:=hx.trans hx2;replace k0:=k0.mono hx2;replace k1:=k1.mono hx2;replace k2:=k2.mono hx2;replace k3:=k3.mono hx2
 clear k0 k1
 have hz0:=a0i b1
 simp [b1,k4.cells,k4.plain,k5.cells,k5.plain,hz0]
 generalize hS:Array.setIfInBounds G2 _ _=G3
 have hsz:=hx.1;replace k2:=k2.setS hS b1 (by decide);replace k3:=k3.setS hS b1 (by decide);replace k4:=k4.setS hS b1 (by decide);replace k5:=k5.setS hS b1 (by decide);replace b0:=a0p hS b0 (by omega);replace hx:=a0Y hS hx (by omega);replace b1:=a0v hS b1;clear hS hsz
 obtain ⟨x,hxv⟩:∃ x,x=e0d e:=⟨_,rfl⟩
 obtain ⟨y,hyv⟩:∃ y,y=e0d f:=⟨_,rfl⟩
 rw [← hxv] at l1 k2 k3 b0 ⊢
 rw [← hyv] at l2 k4 k5 b1 ⊢
 have kx:(b0A x).1=x.1:=by unfold b0A;split <;> simp_all
 have ky:(b0A y).1=y.1:=by unfold b0A;split <;> simp_all
 rw [kx] at b0
 rw [ky] at b1
 unfold n0E
 simp [P0l,b0,b1]
 by_cases h1:x.1=y.1
 ·have h2:¬ x.1 < y.1:=by omega
  have h2':¬ y.1 < x.1:=by omega
  by_cases h3:x.1=0
  ·have h4:y.1=0:=by omega
   have kr:b0P _ (.agg #[.bool (b0A x).2.1.1,s1,.bool (b0A x).2.2.1,s2]) (b0A x).2:=⟨s1,s2,rfl,k2,k3⟩
   have kq:b0P _ (.agg #[.bool (b0A y).2.1.1,s3,.bool (b0A y).2.2.1,s4]) (b0A y).2:=⟨s3,s4,rfl,k4,k5⟩
   simp [h1,h2,h3,h4,H0v,P0p,b0,b1]
   refine (o0h kr kq hx.1 (by omega) (by omega)).mono ?_
   rintro _ G2 ⟨rfl,hx2⟩
   have e1:b0u (b0A x).2=x.2:=by unfold b0A;rw [i1n h3];exact a0w _
   have e2:b0u (b0A y).2=y.2:=by unfold b0A;rw [i1n h4];exact a0w _
   simp [e1,e2]
  ·have h4:y.1 ≠ 0:=by omega
   simp [h1,h2,h3,h4,H0v,P0o,b0,b1]
 ·by_cases h2:x.1 < y.1
  ·simp [h1,h2,H0u,P0m,b0,b1]
  ·have h2':y.1 < x.1:=by omega
   have h2'':y.1≤x.1:=by omega
   simp [h1,h2,h2',h2'',H0u,P0n,b0,b1]
theorem o0i (h:f0J H v e) (k:f0J H w f) (hf:fl≤H.size) (hn:d0b e.2 < 67108864) (hm:d0b f.2 < 67108864):a0S env fl Y0O [v,w] H (fun r H'=>f0J H' r (n0Z e f)∧Ext H H') R:=by
 have k0:=h
 have k1:=k
 obtain ⟨s,u,rfl,hs,hu⟩:=h
 obtain ⟨s',u',rfl,hs',hu'⟩:=k
 refine a0g g1N hf (h:=?_)
 intro ρ h0
 simp [c1c,P0e,h0,hs.cells,hu.cells,hs'.cells,hu'.cells]
 generalize hG:Array.push (Array.push (Array.push H _) _) _=G
 have hx2:Ext H G:=by rw [← hG];exact (Ext.refl H).push.push.push
 have b0:a0e.blk G H.size=.row false a0F [.int .i64 e.1,.bool e.2.1.1,s,.bool e.2.2.1,u]:=by rw [← hG];simp
 have b1:a0e.blk G (H.size + 1)=.row false a0F [.int .i64 f.1,.bool f.2.1.1,s',.bool f.2.2.1,u']:=by rw [← hG];simp
 have b2:a0e.blk G (H.size + 2)=.row false a0F [.int .i64 0,.bool false,.slice none 0 0,.bool false,.slice none 0 0]:=by rw [← hG];simp
 have hx:=Ext.refl H
 clear hG
 replace hx:=hx.trans hx2;replace k0:=k0.mono hx2;replace k1:=k1.mono hx2
 simp [P0f,b0,b1]
 refine (i0C k0 k1 hx.1 hn hm).mono ?_
 rintro _ G2 ⟨rfl,hx2⟩
 replace b0:=hx2.blk b0;replace b1:=hx2.blk b1;replace b2:=hx2.blk b2;replace hx:=hx.trans hx2;replace k0:=k0.mono hx2;replace k1:=k1.mono hx2
 unfold n0Z
 obtain ⟨c,hc⟩:∃ c,c=n0E (e0d e) (e0d f):=⟨_,rfl⟩
 rw [← hc]
 by_cases h1:c<0
 ·have h1':¬(0≤c):=by omega
  simp [h1,h1',P0h,b1]
  refine (e0a k1 hx.1 (by omega)).mono ?_
  rintro _ G2 ⟨⟨s1,s2,rfl,k3,k4⟩,hx2⟩
  replace b0:=hx2.blk b0;replace b2:=hx2.blk b2;replace hx:=hx.trans hx2;replace k0:=k0.mono hx2
  have hz:=a0i b2
  simp [b2,k3.cells,k3.plain,k4.cells,k4.plain,hz]
  exact fun _=>⟨s1,s2,rfl,k3.setT b2 (by decide),k4.setT b2 (by decide)⟩
 ·have h1':(0≤c):=by omega
  simp [h1,h1',P0g,b0]
  refine (e0a k0 hx.1 (by omega)).mono ?_
  rintro _ G2 ⟨⟨s1,s2,rfl,k3,k4⟩,hx2⟩
  replace b2:=hx2.blk b2;replace hx:=hx.trans hx2
  have hz:=a0i b2
  simp [b2,k3.cells,k3.plain,k4.cells,k4.plain,hz]
  exact fun _=>⟨s1,s2,rfl,k3.setT b2 (by decide),k4.setT b2 (by decide)⟩
end
section
open Go
set_option maxHeartbeats 4000000
variable {fl:Nat} {H G:a0e} {R:a0E} {v w:Value}
end
end Go.Proofs.YtilekhkgobmolaaGreat.AI
