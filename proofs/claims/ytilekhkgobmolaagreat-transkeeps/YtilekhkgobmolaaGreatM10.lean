/- Part 11 of the proof. -/
import Derived.Test.YtilekhkgobmolaaGreatM09
set_option linter.unusedVariables false
set_option linter.unusedSimpArgs false
set_option linter.unusedSectionVars false
set_option maxHeartbeats 4000000
namespace Go.Proofs.YtilekhkgobmolaaGreat.AI
open Go
section
open SX
variable {fl:Nat} {H G:a0f} {R:a0D} {v w u:Value}
structure r0X (p:LPt) (n m S:Nat):Prop where
 pn:p.n=n
 pA:p.A.length=m
 pB:p.B.length=m
 pC:p.C.length=n
 row:∀ r ∈ p.A,Few S r/\r.length=n
 fB:Few S p.B
 fC:Few S p.C
 S1:1<=S
 m1:m < 1048576
 n1:n < 1048576
 sz:(n + 1) * (2 * ((m + 2) * ((n + 3) * (S + 1) + m + 2) + 1 + m + S) + 10) < 16777216
structure s0g (p:LPt) (q:ScT) (n m K:Nat):Prop where
 qn:q.n=p.n
 qA:q.A.length=p.A.length
 qb:q.bs.length=p.A.length
 rows:∀ k,k < p.A.length->Whole (k0R p k) (q.A.getD k []) (q.bs.getD k 0) K
 cost:Whole (p.C.map b0t) q.C q.cb K
theorem t0R {p:LPt} {n m S k:Nat} (h:r0X p n m S) (c:k < p.A.length):(k0R p k).length=n + 1:=by
 unfold k0R
 rw [k1v,k1A c]
 simp [(h.row _ (k1D c)).2]
theorem b0o {α:Type} {l:List α} {d:α} {k:Nat} (h:k < l.length):l.getD k d=l[k]:=by
 rw [k1v,k1A h];rfl
theorem s0g.szC {p:LPt} {q:ScT} {n m K:Nat} (e:s0g p q n m K) (c:Nat):lz (ccq q c)<=K:=by
 unfold ccq
 by_cases hc:c < q.C.length
 ·rw [b0o hc];exact e.cost.szz _ (k1D _)
 ·rw [k1v,k1G (by omega)];show lz 0<=_;rw [c0v];omega
theorem r0X.sol {p:LPt} {q:ScT} {n m S:Nat} (h:r0X p n m S) (hq:s0g p q n m ((n + 3) * (S + 1))) (hp:LPV H u p) (hv:SV H v q):z0b H u v p q n m where
 hp:=hp
 hv:=hv
 qn:=by rw [hq.qn,h.pn]
 qA:=by rw [hq.qA,h.pA]
 qC:=by rw [hq.cost.len,l1w,h.pC]
 pC:=h.pC
 qb:=by rw [hq.qb,h.pA]
 row:=fun r hr=>by
  obtain ⟨k,hk,rfl⟩:=l1I.1 hr
  have hk2:k < p.A.length:=by rw [<- hq.qA];exact hk
  have:=(hq.rows k hk2).len
  rw [b0o hk,t0R h hk2] at this
  exact this
 b0:=fun h0=>by have:=hq.cost.pos;rw [h0] at this;exact k1Q this (Rat.lt_irrefl)
 m1:=h.m1
 n1:=h.n1
 sz:=by
  refine ⟨(n + 3) * (S + 1),S,fun r c=>?_,hq.szC,h.fC,fun x hx=>?_,hq.cost.szb,h.sz⟩
  ·unfold Tf
   by_cases hr:r < q.A.length
   ·have hW:=(hq.rows r (by rw [<- hq.qA];exact hr)).szz
    by_cases hc:c < (q.A.getD r []).length
    ·rw [b0o hc];exact hW _ (k1D _)
    ·rw [k1v (l:=q.A.getD r []),k1G (by omega)];show lz 0<=_;rw [c0v];omega
   ·have:q.A.getD r []=[]:=by rw [k1v,k1G (by omega)];rfl
    rw [this];show lz 0<=_;rw [c0v];omega
  ·obtain ⟨k,hk,rfl⟩:=l1I.1 hx
   have:=(hq.rows k (by rw [<- hq.qb];exact hk)).szb
   rw [b0o hk] at this
   exact this
theorem A0B.setS {a:o0L} {G':a0f} {b:Nat} {X:Blk} {ro:Bool} {e:TypeId} {cs:List Value} (h:A0B G v a) (k:Array.setIfInBounds G b X=G') (hb:a0f.bk G b=.row ro e cs) (q:e ≠ a0l) (u:e ≠ a0b):A0B G' v a:=by
 have c:LxT a0b G G':=b0f k hb u
 have j:Lx G G':=fun b ro cs h=>b0f (e:=a0l) k hb q b ro cs h
 obtain ⟨I,J,L,M,sR,s,x,y,z,F,H⟩:=h
 exact ⟨I,J,L,M,sR,s,x.setS k hb q,y.setS k hb q,b0r.lx2 z c j,b0r.lx2 F c j,b0r.lx2 H c j⟩
def i1d (p:LPt) (n m S:Nat) (r:Value) (H':a0f):Prop:=∃ q,s0g p q n m ((n + 3) * (S + 1))/\q0f q p.C n m r H'
theorem l0I {p:LPt} {n m S:Nat} (h:r0X p n m S) (hp:LPV H v p) (hf:fl<=H.size) :
  a0O env fl b1a [v] H (fun r H'=>i1d p n m S r H'/\Ext H H') R:=by
 have L:=hp
 obtain ⟨b9,c0,c4,rfl,kA,kB,kC⟩:=hp
 refine a0i j1t hf (h:=?_)
 intro ρ h0
 simp [e1y,S0m,h0,kA.cells,kB.cells,kC.cells]
 generalize hG:(H.push _).push _=G
 obtain ⟨e,b0,j⟩:=push2 hG
 clear hG
 simp [S0n,b0]
 have hS:=h.S1
 have hK:(n + 3) * (S + 1) < 67108864:=by
  have h1:=h.sz
  have h2:1 * (2 * ((m + 2) * ((n + 3) * (S + 1) + m + 2) + 1 + m + S) + 10)<=(n + 1) * (2 * ((m + 2) * ((n + 3) * (S + 1) + m + 2) + 1 + m + S) + 10):=k1E _ (by omega)
  have h3:1 * ((n + 3) * (S + 1) + m + 2)<=(m + 2) * ((n + 3) * (S + 1) + m + 2):=k1E _ (by omega)
  omega
 refine (k0g (S:=S) (N:=n) (L.mo e) e.1 (fun r hr=>⟨(h.row r hr).1,by rw [(h.row r hr).2];exact k1x _⟩) h.fB (by rw [h.pA,h.pB]) h.fC (by rw [h.pC];exact k1x _) (by rw [h.pA];have:=h.m1;omega) hS rfl hK).mo ?_
 rintro wq G2 ⟨⟨q,hv,q1,q2,q3,q4,q5⟩,c⟩
 have hq:s0g p q n m ((n + 3) * (S + 1)):=⟨q1,q2,q3,q4,q5⟩
 clear q1 q2 q3 q4 q5
 replace b0:=c.bk b0
 replace j:=c.bk j
 replace e:=e.trans c
 clear c
 have hsz:=e.1
 have s:=hv
 obtain ⟨sA,c3,sC,s1,s2,rfl,qA,qB,qC,k1,k2⟩:=hv
 have c1:=k1.cells;have c2:=k2.cells
 simp [hsz,qA.cells,qA.plain,qB.cells,qB.plain,qC.cells,qC.plain,c1,c2,k1.plain,k2.plain]
 generalize z:Array.setIfInBounds (Array.push _ _) _ _=G3
 obtain ⟨c,b2⟩:=new1 z
 clear z
 replace b0:=c.bk b0
 replace j:=c.bk j
 replace s:=s.mo c
 replace e:=e.trans c
 clear c
 obtain ⟨P2,a3⟩:∃ x,x=G2.size:=⟨_,rfl⟩
 rw [<- a3] at b2 hsz ⊢
 simp [S0o,b0,b2]
 refine (z0V (h.sol hq (L.mo e) s) e.1).mo ?_
 rintro r G4 ⟨hr,c⟩
 replace b0:=c.bk b0
 replace j:=c.bk j
 replace b2:=c.bk b2
 replace s:=s.mo c
 replace e:=e.trans c
 clear c
 have I:=e.1
 rcases hr with ⟨J,k,rfl,hQ⟩ | ⟨J,rfl,a5,a6,a7,a8,a9,b4,b5,b8,rfl,a1⟩
 ·obtain ⟨a0,a,k',he,hA,hQ⟩:=hQ
  obtain ⟨rfl,rfl⟩:J=a0/\k=k':=by simpa using he
  clear he
  have u:=hA
  obtain ⟨z1,z2,z3,z4,z5,rfl,Z,l2,M,O,U⟩:=hA
  have d1:=Z.cells;have d2:=l2.cells
  simp [I,d1,d2,Z.plain,l2.plain,M.cells,M.plain,O.cells,O.plain,U.cells,U.plain]
  generalize z:Array.setIfInBounds (Array.push _ _) _ _=G5
  obtain ⟨c,b3⟩:=new1 z
  clear z
  replace b0:=c.bk b0
  replace j:=c.bk j
  replace b2:=c.bk b2
  replace u:=u.mo c
  replace e:=e.trans c
  clear c
  obtain ⟨P4,a4⟩:∃ x,x=G4.size:=⟨_,rfl⟩
  rw [<- a4] at b3 ⊢
  simp [I0W,S0p,b3,j,d1,d2,Z.plain,l2.plain,M.cells,M.plain,O.cells,O.plain,U.cells,U.plain]
  generalize y:Array.setIfInBounds G5 _ _=G6
  rw [a0r y j]
  simp
  exact fun _=>⟨q,hq,_,a,k,rfl,u.setS y j (by decide) (by decide),hQ⟩
 ·simp at a1
  obtain ⟨p1,p2,p3,p4,p5,p6,p7,p8⟩:=a1
  simp [I,p1,p2,p3,p4,p5,p6,p7,p8]
  generalize z:Array.setIfInBounds (Array.push _ _) _ _=G5
  obtain ⟨c,b3⟩:=new1 z
  clear z
  replace b0:=c.bk b0
  replace j:=c.bk j
  replace b2:=c.bk b2
  replace s:=s.mo c
  replace e:=e.trans c
  clear c
  simp [I0W,S0q,b0,b2]
  refine a0O.mo (t0U (F:=.all) (h.sol hq (L.mo e) s) e.1 trivial) ?_
  rintro r G6 ⟨⟨J,a,k,rfl,hA,hQ⟩,c⟩
  replace j:=c.bk j
  replace e:=e.trans c
  clear c
  have a2:=e.1
  have u:=hA
  obtain ⟨z1,z2,z3,z4,z5,rfl,Z,l2,M,O,U⟩:=hA
  have d1:=Z.cells;have d2:=l2.cells
  simp [j,a2,d1,d2,Z.plain,l2.plain,M.cells,M.plain,O.cells,O.plain,U.cells,U.plain]
  generalize y:Array.setIfInBounds G6 _ _=G7
  rw [a0r y j]
  simp
  exact fun _=>⟨q,hq,_,a,k,rfl,u.setS y j (by decide) (by decide),hQ⟩
theorem k0f {p:LPt} {n m S:Nat} (h:r0X p n m S) (hp:LPV H v p) (hf:fl<=H.size) (hr:n0K p=true) :
  a0O env fl a1O [v] H (fun r H'=>(∃ s k,r=.tuple #[s,.int .i64 k,.int .i64 0]/\i1d p n m S (.tuple #[s,.int .i64 k]) H')/\Ext H H') R:=by
 have z:=hp
 obtain ⟨a0,a1,a2,rfl,kA,kB,kC⟩:=hp
 refine a0i i1X hf (h:=?_)
 intro ρ h0
 simp [e1c,Q0c,h0,kA.cells,kB.cells,kC.cells]
 generalize hG:(H.push _).push _=G
 obtain ⟨e,b0,j⟩:=push2 hG
 clear hG
 simp [Q0d,b0]
 refine (q0F (z.mo e) e.1).mo ?_
 rintro _ G2 ⟨rfl,c⟩
 replace b0:=c.bk b0
 replace j:=c.bk j
 replace e:=e.trans c
 clear c
 simp [hr]
 simp [Q0e,b0]
 refine (l0I h (z.mo e) e.1).mo ?_
 rintro r G4 ⟨⟨q,hq,s,a,k,rfl,hA,hQ⟩,c⟩
 replace j:=c.bk j
 replace e:=e.trans c
 clear c
 have F:=e.1
 have u:=hA
 obtain ⟨z1,z2,z3,z4,z5,rfl,N,O,I,J,L⟩:=hA
 have U:=N.cells;have Z:=O.cells
 simp [F,U,Z,N.plain,O.plain,I.cells,I.plain,J.cells,J.plain,L.cells,L.plain]
 generalize hN:Array.setIfInBounds (Array.push _ _) _ _=G5
 obtain ⟨c,b3⟩:=new1 hN
 clear hN
 replace j:=c.bk j
 replace u:=u.mo c
 replace e:=e.trans c
 clear c
 obtain ⟨P4,M⟩:∃ x,x=G4.size:=⟨_,rfl⟩
 rw [<- M] at b3 ⊢
 simp [Q0f,b3,j,U,Z,N.plain,O.plain,I.cells,I.plain,J.cells,J.plain,L.cells,L.plain]
 generalize y:Array.setIfInBounds G5 _ _=G6
 rw [a0r y j]
 simp
 exact fun _=>⟨_,k,⟨rfl,rfl⟩,q,hq,_,a,k,rfl,u.setS y j (by decide) (by decide),hQ⟩
end
section
open SX
def rs (f:Nat->Rat):Nat->Rat
 | 0=>0
 | n + 1=>rs f n + f n
theorem b0C {f g:Nat->Rat}:∀ {n:Nat},(∀ i,i < n->f i=g i)->rs f n=rs g n
 | 0,_=>rfl
 | n + 1,h=>by rw [rs,rs,b0C (fun i hi=>h i (by omega)),h n (by omega)]
theorem i0R {f:Nat->Rat} {c:Rat}:∀ {n:Nat},rs (fun i=>f i * c) n=rs f n * c
 | 0=>by rw [rs,rs,m1F]
 | n + 1=>by rw [rs,rs,i0R,Rat.add_mul]
theorem j0m {f:Nat->Int}:∀ {n:Nat},rs (fun i=>(f i:Rat)) n=((sm f n:Int):Rat)
 | 0=>rfl
 | n + 1=>by rw [rs,sm,j0m,Rat.intCast_add]
theorem u0y {a b:List b0b}:∀ {n:Nat},f0Q a b n=rs (fun i=>b0t (a.getD i c0z) * b0t (b.getD i c0z)) n
 | 0=>rfl
 | n + 1=>by rw [f0Q,rs,u0y]
def pA (p:LPt) (r k:Nat):Rat:=b0t ((p.A.getD r []).getD k c0z)
def pB (p:LPt) (r:Nat):Rat:=b0t (p.B.getD r c0z)
def pC (p:LPt) (k:Nat):Rat:=b0t (p.C.getD k c0z)
structure A0E (p:LPt) (n m:Nat) (a:o0L):Prop where
 kind:a.kind=2
 V:a.V=0
 X:a.X=[]
 Ray:a.Ray=[]
 Yl:a.Y.length=m
 Y0:∀ i,i < m->0<=a.Y.getD i 0
 YA:∀ k,k < n->rs (fun i=>a.Y.getD i 0 * pA p i k) m=0
 YB:rs (fun i=>a.Y.getD i 0 * pB p i) m < 0
structure K0K (p:LPt) (n m:Nat) (a:o0L):Prop where
 kind:a.kind=1
 Ray:a.Ray=[]
 Xl:a.X.length=n
 Yl:a.Y.length=m
 AX:∀ r,r < m->rs (fun k=>pA p r k * a.X.getD k 0) n<=pB p r
 Y0:∀ i,i < m->0<=a.Y.getD i 0
 YA:∀ k,k < n->rs (fun i=>a.Y.getD i 0 * pA p i k) m=pC p k
 V:a.V=rs (fun k=>pC p k * a.X.getD k 0) n
 YB:rs (fun i=>a.Y.getD i 0 * pB p i) m=a.V
structure A0F (p:LPt) (n m:Nat) (a:o0L):Prop where
 kind:a.kind=3
 Xl:a.X.length=n
 AX:∀ r,r < m->rs (fun k=>pA p r k * a.X.getD k 0) n<=pB p r
 AR:∀ r,r < m->rs (fun k=>pA p r k * a.Ray.getD k 0) n<=0
 CR:0 < rs (fun k=>pC p k * a.Ray.getD k 0) n
theorem d0D {f:Nat->Rat} {n k:Nat} (h:k < n):((List.range n).map f).getD k 0=f k:=by
 rw [k1v];simp [h]
section
variable {p:LPt} {q:ScT} {n m S K:Nat}
theorem Whole.row_eq (h:r0X p n m S) (u:s0g p q n m K) {r:Nat} (v:r < m):0 < q.bs.getD r 0/\(∀ k,k < n->((Tf q.A r k:Int):Rat)=pA p r k * q.bs.getD r 0)/\((bbq q n r:Int):Rat)=pB p r * q.bs.getD r 0:=by
 have c:r < p.A.length:=by rw [h.pA];exact v
 have j:=u.rows r c
 have z:=t0R h c
 have x:=(h.row _ (k1D c)).2
 refine ⟨j.pos,fun k y=>?_,?_⟩
 ·have e:=j.eq k (by omega)
  have s:(q.A.getD r [])[k]'(by rw [j.len];omega)=Tf q.A r k:=by
   unfold Tf;rw [b0o (l:=q.A.getD r []) (by rw [j.len];omega)]
  rw [s] at e
  rw [e]
  congr 1
  unfold pA k0R
  rw [l1s (by rw [l1w,b0o c];omega),l1m,b0o (l:=p.A.getD r []) (by rw [b0o c];omega)]
 ·have e:=j.eq n (by omega)
  have s:(q.A.getD r [])[n]'(by rw [j.len];omega)=bbq q n r:=by
   unfold bbq Tf;rw [b0o (l:=q.A.getD r []) (by rw [j.len];omega)]
  rw [s] at e
  rw [e]
  congr 1
  unfold pB k0R
  rw [k1X (by rw [l1w,b0o c];omega)]
  simp
theorem Whole.cost_eq (h:r0X p n m S) (j:s0g p q n m K):0 < q.cb/\∀ k,k < n->((ccq q k:Int):Rat)=pC p k * q.cb:=by
 refine ⟨j.cost.pos,fun k s=>?_⟩
 have c:k < (p.C.map b0t).length:=by rw [l1w,h.pC];exact s
 have e:=j.cost.eq k c
 have u:q.C[k]'(by rw [j.cost.len];exact c)=ccq q k:=by unfold ccq;rw [b0o]
 rw [u] at e
 rw [e,l1m]
 unfold pC
 rw [b0o (by rw [h.pC];exact s)]
end
section
variable {p:LPt} {q:ScT} {n m S K:Nat} {a:o0L} {T:Nat->Nat->Int} {base:Nat->Nat} {D:Int}
theorem inv_pos {c:Rat} (h:0 < c):0 < c⁻¹:=Rat.inv_pos.2 h
theorem h0Z {D:Int} (h:0 < D):(0:Rat) < (D:Rat):=Rat.intCast_pos.2 h
theorem m0n {D:Int} (h:0<=D):(0:Rat)<=(D:Rat):=Rat.intCast_nonneg.2 h
theorem q0q {t D:Int} {b c:Rat}:Rat.divInt t D * b / c=(t:Rat) * b * ((D:Rat)⁻¹ * c⁻¹):=by
 rw [n1k,n1F,n1F]
 grind
theorem s0t (h:r0X p n m S) (j:s0g p q n m K) {t:Nat->Int} {c:Rat} (Y:Nat->Rat) (e:∀ i,i < m->Y i=Rat.divInt (t i) D * q.bs.getD i 0 / c) :
  (∀ k,k < n->rs (fun i=>Y i * pA p i k) m=((sm (fun i=>t i * Tf q.A i k) m:Int):Rat) * ((D:Rat)⁻¹ * c⁻¹))/\rs (fun i=>Y i * pB p i) m=((sm (fun i=>t i * bbq q n i) m:Int):Rat) * ((D:Rat)⁻¹ * c⁻¹):=by
 refine ⟨fun k v=>?_,?_⟩
 ·rw [<- j0m,<- i0R]
  refine b0C fun i hi=>?_
  obtain ⟨_,s,_⟩:=Whole.row_eq h j hi
  rw [e i hi,q0q,m1y,s k v]
  grind
 ·rw [<- j0m,<- i0R]
  refine b0C fun i hi=>?_
  obtain ⟨_,_,u⟩:=Whole.row_eq h j hi
  rw [e i hi,q0q,m1y,u]
  grind
theorem d1g.cert (h:r0X p n m S) (s:s0g p q n m K) (hs:d1g q n m a):A0E p n m a:=by
 obtain ⟨T,base,D,hT,u,v,x,y,z,F,c⟩:=hs
 have G:=hT.pos
 obtain ⟨H,I,J⟩:=z0E hT z
 have e:∀ i,i < m->a.Y.getD i 0=Rat.divInt (T m (2 * n + i)) D * q.bs.getD i 0 / 1:=fun i hi=>by rw [c,d0D hi]
 obtain ⟨L,M⟩:=s0t h s _ e
 have hc:(0:Rat) < (D:Rat)⁻¹ * (1:Rat)⁻¹:=n1x (inv_pos (h0Z G)) (inv_pos (by decide))
 refine ⟨u,v,x,y,by rw [c];simp,fun i hi=>?_,fun k j=>?_,?_⟩
 ·rw [e i hi,q0q]
  exact n1o (n1o (m0n (H i hi)) (n1I (Whole.row_eq h s hi).1)) (n1I hc)
 ·rw [L k j,I k j];simp
 ·rw [M,J]
  have N:((T m (2 * n + m):Int):Rat) < 0:=by
   have:=Rat.intCast_lt_intCast.2 F;simpa using this
  have O:=n1x (a:=-((T m (2 * n + m):Int):Rat)) (by grind) hc
  grind
theorem K0j (h:r0X p n m S) (v:s0g p q n m K) {r:Nat} (y:r < m) {x:Nat->Rat} {P:Nat->Int} (u:∀ k,k < n->x k=((P k:Int):Rat) * (D:Rat)⁻¹) (e:0 < D):rs (fun k=>pA p r k * x k) n * (q.bs.getD r 0 * (D:Rat))=((sm (fun k=>Tf q.A r k * P k) n:Int):Rat):=by
 obtain ⟨r1,r2,z⟩:=Whole.row_eq h v y
 have s:=h0Z e
 have j:(D:Rat) * (D:Rat)⁻¹=1:=Rat.mul_inv_cancel _ (by grind)
 rw [<- j0m,<- i0R]
 refine b0C fun k c=>?_
 rw [u k c,m1y,r2 k c]
 grind
theorem x0x (h:r0X p n m S) (j:s0g p q n m K) {r:Nat} (s:r < m) {x:Nat->Rat} {P:Nat->Int} (v:∀ k,k < n->x k=((P k:Int):Rat) * (D:Rat)⁻¹) (e:0 < D) (y:sm (fun k=>Tf q.A r k * P k) n<=D * bbq q n r):rs (fun k=>pA p r k * x k) n<=pB p r:=by
 obtain ⟨r1,r2,z⟩:=Whole.row_eq h j s
 have u:=K0j h j s v e
 have e2:pB p r * (q.bs.getD r 0 * (D:Rat))=((D * bbq q n r:Int):Rat):=by
  rw [m1y,z];grind
 have c:=Rat.intCast_le_intCast.2 y
 rw [<- u,<- e2] at c
 exact Rat.le_of_mul_le_mul_right c (n1x r1 (h0Z e))
theorem w0Y (h:r0X p n m S) (v:s0g p q n m K) {x:Nat->Rat} {P:Nat->Int} (s:∀ k,k < n->x k=((P k:Int):Rat) * (D:Rat)⁻¹) (y:0 < D):rs (fun k=>pC p k * x k) n=((sm (fun k=>ccq q k * P k) n:Int):Rat) * ((D:Rat)⁻¹ * q.cb⁻¹):=by
 obtain ⟨u,c⟩:=Whole.cost_eq h v
 have e:q.cb * q.cb⁻¹=1:=Rat.mul_inv_cancel _ (by grind)
 rw [<- j0m,<- i0R]
 refine b0C fun k j=>?_
 rw [s k j,m1y,c k j]
 grind
theorem d1h.cert (h:r0X p n m S) (s:s0g p q n m K) (hs:d1h q n m a):A0F p n m a:=by
 obtain ⟨T,base,D,j,hT,H,U,Z,x,I,h6,J,y,L⟩:=hs
 have e:=hT.pos
 obtain ⟨N,j2⟩:=O0p hT (fun i hi hb=>(x i hi hb).1)
 obtain ⟨O,R⟩:=K0B hT I J (fun i hi hb=>(x i hi hb).2)
 have M:∀ k,k < n->a.X.getD k 0=((ptq n base (fun i=>T i (2 * n + m)) m k:Int):Rat) * (D:Rat)⁻¹:=fun k u=>by rw [y,d0D u,n1k,n1F]
 have z:∀ k,k < n->a.Ray.getD k 0=((n0H n m T base D j k:Int):Rat) * (D:Rat)⁻¹:=fun k u=>by rw [L,d0D u,n1k,n1F]
 refine ⟨H,by rw [y];simp,fun r c=>x0x h s c M e (N r c),fun r c=>?_,?_⟩
 ·obtain ⟨r1,r2,r3⟩:=Whole.row_eq h s c
  have F:=K0j h s c z e
  have v:=Rat.intCast_le_intCast.2 (O r c)
  rw [<- F] at v
  have G:=n1x r1 (h0Z e)
  refine Rat.le_of_mul_le_mul_right ?_ G
  rw [m1F];exact v
 ·rw [w0Y h s z e,R]
  refine n1x (Rat.intCast_pos.2 (by omega)) (n1x (inv_pos (h0Z e)) (inv_pos (Whole.cost_eq h s).1))
theorem d1f.cert (h:r0X p n m S) (e:s0g p q n m K) (hs:d1f q p.C n m a):K0K p n m a:=by
 obtain ⟨T,base,D,hT,M,N,O,R,j,G,U⟩:=hs
 have s:=hT.pos
 obtain ⟨i1,i2,i3⟩:=SX.duals hT R
 obtain ⟨j1,j2⟩:=O0p hT O
 obtain ⟨y,z⟩:=Whole.cost_eq h e
 have I:∀ i,i < m->a.Y.getD i 0=Rat.divInt (T (m + 1) (2 * n + i)) D * q.bs.getD i 0 / q.cb:=fun i hi=>by rw [G,d0D hi]
 have H:∀ k,k < n->a.X.getD k 0=((ptq n base (fun i=>T i (2 * n + m)) m k:Int):Rat) * (D:Rat)⁻¹:=fun k c=>by rw [j,d0D c,n1k,n1F]
 obtain ⟨s1,s2⟩:=s0t h e _ I
 have v:=h0Z s
 have u:=inv_pos v
 have F:=inv_pos y
 have hc:(0:Rat) < (D:Rat)⁻¹ * q.cb⁻¹:=n1x u F
 have Z:(D:Rat) * (D:Rat)⁻¹=1:=Rat.mul_inv_cancel _ (by grind)
 have J:q.cb * q.cb⁻¹=1:=Rat.mul_inv_cancel _ (by grind)
 have hV:a.V=rs (fun k=>pC p k * a.X.getD k 0) n:=by
  rw [U,u0y]
  refine b0C fun k c=>?_
  unfold pC
  congr 1
  rw [b0o (by rw [l1w,j];simpa using c),l1m,a0w,b0o (by rw [j];simpa using c)]
 have x:rs (fun k=>pC p k * a.X.getD k 0) n=((T (m + 1) (2 * n + m):Int):Rat) * ((D:Rat)⁻¹ * q.cb⁻¹):=by
  rw [<- j2];exact w0Y h e H s
 refine ⟨M,N,by rw [j];simp,by rw [G];simp,fun r L=>?_,fun i hi=>?_,fun k c=>?_,hV,?_⟩
 ·exact x0x h e L H s (j1 r L)
 ·rw [I i hi,q0q]
  exact n1o (n1o (m0n (i1 i hi)) (n1I (Whole.row_eq h e hi).1)) (n1I hc)
 ·rw [s1 k c,i2 k c,m1y,z k c]
  grind
 ·rw [s2,i3,hV,x]
end
end
section
open SX
variable {fl:Nat} {H G:a0f} {R:a0D} {v w u:Value}
theorem d0f.mo {rows:List (List b0b)} (h:d0f H v rows) (j:Ext H G):d0f G v rows:=by
 obtain ⟨s,c,e⟩:=h;exact ⟨s,c,e.mo d0u j⟩
theorem L0y {S:Nat} {r:List b0b} (h:Few S r) (s:1<=S):Few S (i0n r):=by
 intro x j
 obtain ⟨y,k,rfl⟩:=l1r.1 j
 obtain ⟨q,c,e⟩:=h y k
 have:=b0W c e
 exact ⟨by rw [a0E];omega,c0t _,c0t _⟩
theorem i0e:∀ {rows:List (List b0b)} {d:List c0f},(d0A rows d).length=(d0z rows d).length
 | [],d=>by simp [d0z,d0A]
 | _ :: _,[]=>by simp [d0z,d0A]
 | r :: rs,e :: es=>by simp only [d0z,d0A];split <;> simp [i0e]
def M0a (rows:List (List b0b)) (n:Int) (d:List c0f):LPt:=⟨n,d0z rows d,d0A rows d,List.replicate n.toNat (a0e 0)⟩
def N0P (a:o0L) (W:Nat):Prop:=(∀ x ∈ a.X,szR x<=W)/\∀ y ∈ a.Y,szR y<=W
theorem s0g.szA {p:LPt} {q:ScT} {n m S K:Nat} (h:r0X p n m S) (e:s0g p q n m K) (r c:Nat):lz (Tf q.A r c)<=K:=by
 unfold Tf
 by_cases k:r < q.A.length
 ·have j:=(e.rows r (by rw [<- e.qA];exact k)).szz
  by_cases hc:c < (q.A.getD r []).length
  ·rw [b0o hc];exact j _ (k1D _)
  ·rw [k1v (l:=q.A.getD r []),k1G (by omega)];show lz 0<=_;rw [c0v];omega
 ·have:q.A.getD r []=[]:=by rw [k1v,k1G (by omega)];rfl
  rw [this];show lz 0<=_;rw [c0v];omega
theorem y0P {t D:Int} {b c:Rat} {Z K:Nat} (k:lz t<=Z) (q:lz D<=Z) (s:szR b<=K) (u:szR c<=K):szR (Rat.divInt t D * b / c)<=Z + 1 + K + K:=by
 have e:=b0S t D
 have h:=f0L (Rat.divInt t D) b
 have j:=Y0F (Rat.divInt t D * b) c
 omega
theorem b1P {m n Z:Nat} {T:Nat->Nat->Int} {base:Nat->Nat} {D:Int} {x:Rat} (z1:∀ r c,r < m + 2->c<=2 * n + m->lz (T r c)<=Z) (z2:lz D<=Z) (e:x ∈ (List.range n).map fun k=>Rat.divInt (ptq n base (fun i=>T i (2 * n + m)) m k) D):szR x<=Z + m + 1:=by
 obtain ⟨k,_,rfl⟩:=l1r.1 e
 have h:=b0S (ptq n base (fun i=>T i (2 * n + m)) m k) D
 have e2:=p0c (n:=n) (base:=base) (Fv:=fun i=>T i (2 * n + m)) (k:=k) (q:=m) (fun i hi=>z1 i (2 * n + m) (by omega) (k1x _))
 omega
theorem c1W {p:LPt} {q:ScT} {n m S K:Nat} {a:o0L} (h:r0X p n m S) (s:s0g p q n m K) (J:1<=K) (hs:d1g q n m a ∨ d1f q p.C n m a ∨ d1h q n m a):N0P a ((m + 2) * (K + m + 2) + 1 + m + 1 + K + K):=by
 have hb:∀ i,i < m->szR (q.bs.getD i 0)<=K:=fun i hi=>(s.rows i (by rw [h.pA];exact hi)).szb
 rcases hs with ⟨T,base,D,hT,F,G,k,H,u,v,z⟩ | ⟨T,base,D,hT,F,G,k,H,u,v,z⟩ | ⟨T,base,D,j,hT,F,G,k,H,u,v,z,I,L⟩ <;> obtain ⟨z1,z2⟩:=O0l (s.szA h) s.szC h.m1 hT
 ·refine ⟨fun x c=>by rw [k] at c;simp at c,fun y e=>?_⟩
  rw [z] at e
  obtain ⟨i,hi,rfl⟩:=l1r.1 e
  have hi:=l1G.1 hi
  have:=y0P (z1 m (2 * n + i) (by omega) (by omega)) z2 (hb i hi) (show szR 1<=K by rw [r0S];exact J)
  omega
 ·refine ⟨fun x c=>?_,fun y e=>?_⟩
  ·rw [u] at c
   have:=b1P z1 z2 c;omega
  ·rw [v] at e
   obtain ⟨i,hi,rfl⟩:=l1r.1 e
   have hi:=l1G.1 hi
   have:=y0P (z1 (m + 1) (2 * n + i) (by omega) (by omega)) z2 (hb i hi) s.cost.szb
   omega
 ·refine ⟨fun x c=>?_,fun y e=>by rw [k] at e;simp at e⟩
  rw [I] at c
  have:=b1P z1 z2 c;omega
theorem A0F.none {rows:List (List b0b)} {n:Int} {d:List c0f} {m:Nat} {a:o0L} (h:A0F (M0a rows n d) n.toNat m a):False:=by
 have c:=h.CR
 have e:rs (fun k=>pC (M0a rows n d) k * a.Ray.getD k 0) n.toNat=rs (fun _=>0 * 0) n.toNat:=b0C fun k q=>by
  have j:pC (M0a rows n d) k=0:=by
   unfold pC M0a
   rw [k1v]
   simp [q,a0w]
  rw [j,m1F,m1F]
 rw [e,i0R,Rat.mul_zero] at c
 exact k1Q c (Rat.lt_irrefl)
def f1p:Value:=.agg #[.int .i64 0,.bool false,.slice none 0 0,.bool false,.slice none 0 0,.slice none 0 0,.slice none 0 0,.slice none 0 0]
end
section
variable {fl:Nat} {H G:a0f} {R:a0D} {v w:Value} {a b:List Nat}
theorem j0k (L:Lim H v a) (hb:Lim H w b) (hf:fl<=H.size) (a4:a.length < 4611686018427387904) :
  a0O env fl X0j [v,w] H (fun r H'=>r=.int .i64 (z0h a b)/\Ext H H') R:=by
 refine a0i k1f hf (h:=?_)
 intro ρ M
 have w1:IntKind.i64.wrap ((a.length:Int) - 1)=(a.length:Int) - 1:=a0S (by omega) (by omega)
 by_cases c:a.length=b.length
 ·have N:(a.length:Int)=(b.length:Int):=by omega
  simp [Z0C,y0E,y0F,V0q,M,L.slen,hb.slen,c]
  rw [<- c,w1]
  have z:z0h a b=c0L (a0y a) (a0y b):=by simp [z0h,c]
  rw [z]
  refine b0U (fun k t G'=>t.length=41/\get t 0=v/\get t 1=w/\get t 5=.int .i64 ((k:Int) - 1)/\G' = H/\k<=a.length/\a.drop k=b.drop k)
   (fun t G'=>t.length=41/\G' = H/\a=b) a.length (by simp [M,c]) ?_ ?_
  ·clear M ρ
   rintro k t G' ⟨ht,I,J,y,rfl,hk,hd⟩
   obtain ⟨ρ,rfl⟩:=toT ht
   simp only [b0T,Nat.reduceLT] at I J y
   by_cases a1:k=0
   ·subst a1
    simp [J0G,I,J,y]
    simpa using hd
   ·have e0:(k:Int) - 1=((k - 1:Nat):Int):=by omega
    have q:k - 1 < a.length:=by omega
    have s:k - 1 < b.length:=by omega
    have F:=L.load q (Ext.refl _)
    have G:=hb.load s (Ext.refl _)
    have w2:IntKind.i64.wrap (((k - 1:Nat):Int) - 1)=((k - 1:Nat):Int) - 1:=a0S (by omega) (by omega)
    rw [e0] at y
    have u:=L.ia (k:=.i64) q
    have x:=hb.ia (k:=.i64) s
    have Z:=t0a c L.ok hb.ok q (by rw [show k - 1 + 1=k by omega];exact hd)
    have j:a.getD (k - 1) 0=b.getD (k - 1) 0->a.drop (k - 1)=b.drop (k - 1):=by
     intro he
     rw [l1q q,l1q s,show k - 1 + 1=k by omega,hd]
     rw [k1v,k1A q,k1v,k1A s] at he
     congr 1
    generalize a.getD (k - 1) 0=A at F Z j
    generalize b.getD (k - 1) 0=B at G Z j
    simp [J0G,I,J,y]
    refine a0C ?_
    simp [V0r,I,J,y,F,u,G,x]
    refine ⟨fun e=>?_,fun a2=>?_⟩
    ·simp [V0s]
     rw [Z (by omega),c0k,k1B e]
    ·refine a0C ?_
     simp [V0t,I,J,y,F,u,G,x]
     refine ⟨fun e=>?_,fun a3=>?_⟩
     ·simp [J0C]
      rw [Z (by omega),c0k,k1y (by omega),k1B e]
     ·simp [J0D,y,w2]
      exact ⟨k - 1,by omega,I,J,rfl,by omega,j (by omega)⟩
  ·rintro t G' ⟨ht,rfl,O⟩
   obtain ⟨ρ,rfl⟩:=toT ht
   simp [J0E]
   rw [O];simp [c0L]
 ·have N:¬ (a.length:Int)=(b.length:Int):=by omega
  have z:z0h a b=c0L a.length b.length:=by simp [z0h,c]
  rw [z,c0k]
  by_cases e:a.length < b.length
  ·have U:(a.length:Int) < (b.length:Int):=by omega
   simp [Z0C,y0E,y0F,J0F,V0o,M,L.slen,hb.slen,c,e]
  ·have U:¬ (a.length:Int) < (b.length:Int):=by omega
   have a0:b.length < a.length:=by omega
   simp [Z0C,y0E,y0F,J0F,V0p,M,L.slen,hb.slen,c,e,a0]
theorem g0r {l:List Nat} {n:Nat}:a0y (l.take (n + 1))=a0y (l.take n) + 4294967296 ^ n * l.getD n 0:=by
 by_cases h:n < l.length
 ·exact a0R h
 ·rw [k1J (by omega),k1J (by omega),k1v,k1G (by omega)];simp
theorem v0g (ha:Lim H v a) (hb:Lim H w b) (hf:fl<=H.size) (c1:a.length < 1073741823) (c3:b.length < 1073741823) :
  a0O env fl b1q [v,w] H (fun r H'=>Lim H' r (a0p (a0y a + a0y b))/\Ext H H') R:=by
 refine a0i k1e hf (h:=?_)
 intro ρ h0
 simp [f1j,V0k,V0l,V0m,V0n,h0]
 obtain ⟨N,hN⟩:∃ N,N=max a.length b.length:=⟨_,rfl⟩
 refine w0O (fun n ρ G=>ρ 0=v/\ρ 1=w/\ρ 7=.int .i64 (n:Int)/\∃ c out,ρ 6=.int .u64 ((c:Nat):Int)/\Ext H G/\Own H.size G a0l 1 (ρ 5) n (c0e out)/\b0u out/\out.length=n/\c<=1/\(n=N + 1->c=0) /\
   a0y out + 4294967296 ^ n * c=a0y (a.take n) + a0y (b.take n)) (N + 1) (by decide) ⟨by simp [h0],by simp [h0],by simp,0,[],by simp,Ext.refl H,by simp;exact Own.nil,by intro x e;simp at e,rfl,by omega,by omega,by simp [a0y]⟩ ?_
 clear h0 ρ
 rintro n ρ G c0 ⟨u,y,z,c,out,O,e,ho,F,I,hc,b5,hs⟩
 have L:=ha.mo e
 have M:=hb.mo e
 have a4:=g0r (l:=a) (n:=n)
 have a6:=g0r (l:=b) (n:=n)
 have a8:=c0i ha.ok n
 have b4:=c0i hb.ok n
 have e9:=b0z (show n < 4611686018427387904 by omega)
 by_cases b9:n < a.length ∨ n < b.length ∨ 0 < c
 ·have U:n < N + 1:=by
   rcases b9 with h | h | h
   ·omega
   ·omega
   ·by_cases hz:n=N + 1
    ·have:=b5 hz;omega
    ·omega
  have htop:n=N->c + a.getD n 0 + b.getD n 0 < 4294967296:=by
   intro hz
   have h1:a.getD n 0=0:=by rw [k1v,k1G (by omega)];rfl
   have h2:b.getD n 0=0:=by rw [k1v,k1G (by omega)];rfl
   omega
  obtain ⟨s,Z⟩:∃ s,ρ 5=s:=⟨_,rfl⟩
  rw [Z] at ho
  have hA:n < a.length->iaV 1 v (.int .i64 (n:Int))=some (adr 1 v n)/\b0v G false 1 (adr 1 v n)=some (.int .u32 ((a.getD n 0:Nat):Int)):=fun h=>⟨L.ia h,L.load h (Ext.refl _)⟩
  have hB:n < b.length->iaV 1 w (.int .i64 (n:Int))=some (adr 1 w n)/\b0v G false 1 (adr 1 w n)=some (.int .u32 ((b.getD n 0:Nat):Int)):=fun h=>⟨M.ia h,M.load h (Ext.refl _)⟩
  have a5:¬ n < a.length->a.getD n 0=0:=fun h=>by rw [k1v,k1G (by omega)];rfl
  have a3:¬ n < b.length->b.getD n 0=0:=fun h=>by rw [k1v,k1G (by omega)];rfl
  generalize a.getD n 0=A at a4 a8 htop hA a5
  generalize b.getD n 0=B at a6 b4 htop hB a3
  obtain ⟨j,a7⟩:∃ j,c + A + B=j:=⟨_,rfl⟩
  have e3:IntKind.u32.wrap ((j:Int))=((j % 4294967296:Nat):Int):=by rw [f0q];omega
  rw [a7] at htop
  obtain ⟨s',G3,h1,h2,h3,h4⟩:=e0m (e2:=a0l) (new:=[.int .u32 ((j % 4294967296:Nat):Int)]) (c:=1) (bytes:=4) ho rfl rfl (by omega) (by omega) (by omega) e.1
  have q:a0y (out ++ [j % 4294967296]) + 4294967296 ^ (n + 1) * (j / 4294967296)=a0y (a.take (n + 1)) + a0y (b.take (n + 1)):=by
   rw [c0n,I,a4,a6,k1V]
   have e3:4294967296 ^ n * 4294967296 * (j / 4294967296)=4294967296 ^ n * (4294967296 * (j / 4294967296)):=k1O ..
   have e4:4294967296 ^ n * (j % 4294967296) + 4294967296 ^ n * (4294967296 * (j / 4294967296))=4294967296 ^ n * j:=by rw [<- k1K,n1e]
   have e5:4294967296 ^ n * j=4294967296 ^ n * c + 4294967296 ^ n * A + 4294967296 ^ n * B:=by rw [<- a7,k1K,k1K]
   omega
  by_cases ia:n < a.length
  ·obtain ⟨a1,a2⟩:=hA ia
   by_cases J:n < b.length
   ·obtain ⟨b1,b2⟩:=hB J
    have k:True:=trivial
    have e1:IntKind.u64.wrap ((c:Int) + IntKind.u64.wrap (A:Int))=((c + A:Nat):Int):=by rw [a0z,a0z];omega
    have e2:IntKind.u64.wrap (((c + A:Nat):Int) + IntKind.u64.wrap (B:Int))=(j:Int):=by rw [a0z,a0z];omega
    simp [p0Q,u,y,z,O,L.slen,M.slen,ia,J]
    refine i0k.mk true (by simp [k]) (fun _=>⟨U,?_⟩) (by simp)
    simp [-Int.natCast_emod,-Int.natCast_add,t0G,t0H,t0I,t0J,t0K,n0D,n0E,u,y,O,z,L.slen,M.slen,ia,J,a1,a2,b1,b2,e1,e2,e3,Z,h1]
    unfold f0N
    simp [-Int.natCast_emod,-Int.natCast_add,n0F,z,e9]
    refine c0s.mk ⟨by simp [u],by simp [y],by simp,j / 4294967296,by simp,h4 _ (k1x _) e,out ++ [j % 4294967296],by simpa [c0e] using h2,?_,by simp [I],by omega,fun hz=>by have:=htop (by omega);omega,q⟩
    intro x e
    rcases k1T.1 e with e | e
    ·exact F x e
    ·simp at e;omega
   ·have a0:=a3 J
    subst a0
    have k:True:=trivial
    have e1:IntKind.u64.wrap ((c:Int) + IntKind.u64.wrap (A:Int))=(j:Int):=by rw [a0z,a0z];omega
    simp [p0Q,u,y,z,O,L.slen,M.slen,ia,J]
    refine i0k.mk true (by simp [k]) (fun _=>⟨U,?_⟩) (by simp)
    simp [-Int.natCast_emod,-Int.natCast_add,t0G,t0H,t0I,t0J,t0K,n0D,n0E,u,y,O,z,L.slen,M.slen,ia,J,a1,a2,e1,e3,Z,h1]
    unfold f0N
    simp [-Int.natCast_emod,-Int.natCast_add,n0F,z,e9]
    refine c0s.mk ⟨by simp [u],by simp [y],by simp,j / 4294967296,by simp,h4 _ (k1x _) e,out ++ [j % 4294967296],by simpa [c0e] using h2,?_,by simp [I],by omega,fun hz=>by have:=htop (by omega);omega,q⟩
    intro x e
    rcases k1T.1 e with e | e
    ·exact F x e
    ·simp at e;omega
  ·have a9:=a5 ia
   subst a9
   by_cases J:n < b.length
   ·obtain ⟨b1,b2⟩:=hB J
    have k:True:=trivial
    have e2:IntKind.u64.wrap ((c:Int) + IntKind.u64.wrap (B:Int))=(j:Int):=by rw [a0z,a0z];omega
    simp [p0Q,u,y,z,O,L.slen,M.slen,ia,J]
    refine i0k.mk true (by simp [k]) (fun _=>⟨U,?_⟩) (by simp)
    simp [-Int.natCast_emod,-Int.natCast_add,t0G,t0H,t0I,t0J,t0K,n0D,n0E,u,y,O,z,L.slen,M.slen,ia,J,b1,b2,e2,e3,Z,h1]
    unfold f0N
    simp [-Int.natCast_emod,-Int.natCast_add,n0F,z,e9]
    refine c0s.mk ⟨by simp [u],by simp [y],by simp,j / 4294967296,by simp,h4 _ (k1x _) e,out ++ [j % 4294967296],by simpa [c0e] using h2,?_,by simp [I],by omega,fun hz=>by have:=htop (by omega);omega,q⟩
    intro x e
    rcases k1T.1 e with e | e
    ·exact F x e
    ·simp at e;omega
   ·have a0:=a3 J
    subst a0
    have b8:c=j:=by omega
    have k:0 < j:=by omega
    rw [b8] at O
    simp [p0Q,u,y,z,O,L.slen,M.slen,ia,J,k]
    refine i0k.mk true (by simp [k]) (fun _=>⟨U,?_⟩) (by simp)
    simp [-Int.natCast_emod,-Int.natCast_add,t0G,t0H,t0I,t0J,t0K,n0D,n0E,u,y,O,z,L.slen,M.slen,ia,J,e3,Z,h1]
    unfold f0N
    simp [-Int.natCast_emod,-Int.natCast_add,n0F,z,e9]
    refine c0s.mk ⟨by simp [u],by simp [y],by simp,j / 4294967296,by simp,h4 _ (k1x _) e,out ++ [j % 4294967296],by simpa [c0e] using h2,?_,by simp [I],by omega,fun hz=>by have:=htop (by omega);omega,q⟩
    intro x e
    rcases k1T.1 e with e | e
    ·exact F x e
    ·simp at e;omega
 ·have h1:¬ n < a.length:=by omega
  have h2:¬ n < b.length:=by omega
  have h3:c=0:=by omega
  subst h3
  simp [p0Q,u,y,z,O,L.slen,M.slen,h1,h2]
  refine i0k.mk false (by simp) (by simp) (fun _=>?_)
  rw [k1J (by omega),k1J (by omega),Nat.mul_zero,l1A] at hs
  obtain ⟨s,Z⟩:∃ s,ρ 5=s:=⟨_,rfl⟩
  rw [Z] at ho
  simp [J0B,Z]
  refine (f0C (l:=out) ⟨by rw [I];exact ho.sl,F⟩ e.1 (by omega)).mo ?_
  rintro r G2 ⟨ht,c4⟩
  simp
  intro _
  rw [<- hs,<- c0a out F]
  exact ht
theorem O0n {x c:Nat} (q:x < 4294967296) (k:x % 2=0) (hc:c<=1):d0p 0 .or (.int .u32 (x:Int)) (.int .u32 (c:Int))=some (.int .u32 ((x + c:Nat):Int)):=by
 rw [k0s]
 have e:(BitVec.ofInt IntKind.u32.bits (x:Int) ||| BitVec.ofInt IntKind.u32.bits (c:Int)).toNat=x + c:=by
  show (BitVec.ofInt 32 (x:Int) ||| BitVec.ofInt 32 (c:Int)).toNat=x + c
  rw [BitVec.toNat_or,m1C,m1C]
  have e2:((x:Int) % (2 ^ 32:Nat)).toNat=x:=by omega
  have h:((c:Int) % (2 ^ 32:Nat)).toNat=c:=by omega
  rw [e2,h]
  have:=m1x (i:=1) (b:=c) (by omega) (x / 2)
  have j:2 ^ 1 * (x / 2)=x:=by omega
  rw [j] at this
  exact this.symm
 rw [e,r0U]
 congr 3
 omega
theorem o0G {o:Bool} (ha:Lim H v a) (hf:fl<=H.size) (a9:a.length < 1073741822) :
  a0O env fl B0w [v,.bool o] H (fun r H'=>(Lim H' r (a0p (2 * a0y a + o.toNat))/\newB H r)/\Ext H H') R:=by
 refine a0i g1K hf (h:=?_)
 intro ρ h0
 simp [M0M,E0M,E0N,E0O,E0P,h0]
 cases o with
 | true =>
  simp [E0Q,v0z]
  refine d0C (fun n ρ G=>ρ 0=v/\ρ 7=.int .i64 (n:Int)/\∃ c,ρ 6=.int .u32 ((c:Nat):Int)/\Ext H G/\∃ out,Own H.size G a0l 1 (ρ 5) n (c0e out)/\b0u out/\out.length=n/\c<=1 /\
    a0y out + 4294967296 ^ n * c=2 * a0y (a.take n) + 1) a.length (by decide) ⟨by simp [h0],by simp,1,by simp,Ext.refl H,[],by simp;exact Own.nil,by intro x e;simp at e,rfl,by omega,by simp [a0y]⟩ ?_
  clear h0 ρ
  rintro n ρ G a7 ⟨U,g7,c,g6,e,out,ho,J,q,hc,hs⟩
  have N:=ha.mo e
  have e9:=b0z (show n < 4611686018427387904 by omega)
  obtain ⟨s,Z⟩:∃ s,ρ 5=s:=⟨_,rfl⟩
  rw [Z] at ho
  simp [v0A,U,g7,N.slen]
  refine e0T.mk (by simp) (fun j=>?_) (fun a4=>?_)
  ·have F:=a0R j
   have a0:=c0i ha.ok n
   have a1:=N.ia j (k:=.i64)
   have L:=N.load j (Ext.refl _)
   generalize a.getD n 0=A at F a0 L
   have q1:d0p 0 .shl (.int .u32 (A:Int)) (.int .u64 1)=some (.int .u32 ((A * 2 ^ 1 % 4294967296:Nat):Int)):=r0N (s:=1) (by omega)
   have q2:=O0n (x:=A * 2 ^ 1 % 4294967296) (c:=c) (by omega) (by omega) hc
   have q3:d0p 0 .shr (.int .u32 (A:Int)) (.int .u64 31)=some (.int .u32 ((A / 2 ^ 31:Nat):Int)):=r0O (s:=31) (by omega)
   obtain ⟨y,hy⟩:∃ y,A * 2 ^ 1 % 4294967296 + c=y:=⟨_,rfl⟩
   obtain ⟨y0,a6⟩:∃ y0,A * 2 ^ 1 % 4294967296=y0:=⟨_,rfl⟩
   obtain ⟨c',a3⟩:∃ c',A / 2 ^ 31=c':=⟨_,rfl⟩
   rw [hy] at q2
   rw [a6] at q1 q2
   rw [a3] at q3
   obtain ⟨s',G3,h1,M,h3,h4⟩:=e0m (e2:=a0l) (new:=[.int .u32 (y:Int)]) (c:=1) (bytes:=4) ho rfl rfl (by omega) (by omega) (by omega) e.1
   have u:=h4 _ (k1x _) e
   have kb:=ha.mo u
   have b1:=kb.ia j (k:=.i64)
   have b2:=kb.load j (Ext.refl _)
   have I:a0y (out ++ [y]) + 4294967296 ^ (n + 1) * c' = 2 * a0y (a.take (n + 1)) + 1:=by
    rw [c0n,q,F,k1V]
    have e3:4294967296 ^ n * 4294967296 * c' = 4294967296 ^ n * (4294967296 * c'):=k1O ..
    have e4:y + 4294967296 * c' = c + 2 * A:=by omega
    have e5:4294967296 ^ n * y + 4294967296 ^ n * (4294967296 * c')=4294967296 ^ n * c + 4294967296 ^ n * (2 * A):=by rw [<- k1K,e4,k1K]
    have e6:4294967296 ^ n * (2 * A)=2 * (4294967296 ^ n * A):=by rw [m1v]
    omega
   have O:b0v G3 false 1 (adr 1 v n)=some (.int .u32 (A:Int)):=by
    rw [N.load j (Ext.refl _)] at L
    rw [b2];exact L
   simp [-Int.natCast_emod,-Int.natCast_add,-k0s,v0B,v0C,U,Z,g6,g7,a1,L,q1,q2,q3,h1,O]
   unfold f0N
   simp [-Int.natCast_add,v0D,g7,e9]
   refine c0s.mk ⟨by simp [U],by simp,c',by simp,u,out ++ [y],by simpa [c0e] using M,?_,by simp [q],by omega,I⟩
   intro x e
   rcases k1T.1 e with e | e
   ·exact J x e
   ·simp at e;omega
  ·subst a4
   rw [k1M] at hs
   obtain ⟨s',G3,h1,M,h3,h4⟩:=e0m (e2:=a0l) (new:=[.int .u32 (c:Int)]) (c:=1) (bytes:=4) ho rfl rfl (by omega) (by omega) (by omega) e.1
   have u:=h4 _ (k1x _) e
   simp [-Int.natCast_add,r0v,r0w,Z,g6,h1]
   have z:b0u (out ++ [c]):=by
    intro x e
    rcases k1T.1 e with e | e
    ·exact J x e
    ·simp at e;omega
   refine (e0Z (l:=out ++ [c]) ⟨by have:=M.sl;simpa [q,c0e] using this,z⟩ u.1 (by simp;omega)).mo ?_
   rintro r G2 ⟨⟨ht,a5⟩,a8⟩
   simp
   intro _
   rw [c0a _ z,c0n,q,hs] at ht
   exact ⟨ht,(Own.newB M).of a5⟩
 | false =>
  simp [v0z]
  refine d0C (fun n ρ G=>ρ 0=v/\ρ 7=.int .i64 (n:Int)/\∃ c,ρ 6=.int .u32 ((c:Nat):Int)/\Ext H G/\∃ out,Own H.size G a0l 1 (ρ 5) n (c0e out)/\b0u out/\out.length=n/\c<=1 /\
    a0y out + 4294967296 ^ n * c=2 * a0y (a.take n) + 0) a.length (by decide) ⟨by simp [h0],by simp,0,by simp,Ext.refl H,[],by simp;exact Own.nil,by intro x e;simp at e,rfl,by omega,by simp [a0y]⟩ ?_
  clear h0 ρ
  rintro n ρ G a7 ⟨U,g7,c,g6,e,out,ho,J,q,hc,hs⟩
  have N:=ha.mo e
  have e9:=b0z (show n < 4611686018427387904 by omega)
  obtain ⟨s,Z⟩:∃ s,ρ 5=s:=⟨_,rfl⟩
  rw [Z] at ho
  simp [v0A,U,g7,N.slen]
  refine e0T.mk (by simp) (fun j=>?_) (fun a4=>?_)
  ·have F:=a0R j
   have a0:=c0i ha.ok n
   have a1:=N.ia j (k:=.i64)
   have L:=N.load j (Ext.refl _)
   generalize a.getD n 0=A at F a0 L
   have q1:d0p 0 .shl (.int .u32 (A:Int)) (.int .u64 1)=some (.int .u32 ((A * 2 ^ 1 % 4294967296:Nat):Int)):=r0N (s:=1) (by omega)
   have q2:=O0n (x:=A * 2 ^ 1 % 4294967296) (c:=c) (by omega) (by omega) hc
   have q3:d0p 0 .shr (.int .u32 (A:Int)) (.int .u64 31)=some (.int .u32 ((A / 2 ^ 31:Nat):Int)):=r0O (s:=31) (by omega)
   obtain ⟨y,hy⟩:∃ y,A * 2 ^ 1 % 4294967296 + c=y:=⟨_,rfl⟩
   obtain ⟨y0,a6⟩:∃ y0,A * 2 ^ 1 % 4294967296=y0:=⟨_,rfl⟩
   obtain ⟨c',a3⟩:∃ c',A / 2 ^ 31=c':=⟨_,rfl⟩
   rw [hy] at q2
   rw [a6] at q1 q2
   rw [a3] at q3
   obtain ⟨s',G3,h1,M,h3,h4⟩:=e0m (e2:=a0l) (new:=[.int .u32 (y:Int)]) (c:=1) (bytes:=4) ho rfl rfl (by omega) (by omega) (by omega) e.1
   have u:=h4 _ (k1x _) e
   have kb:=ha.mo u
   have b1:=kb.ia j (k:=.i64)
   have b2:=kb.load j (Ext.refl _)
   have I:a0y (out ++ [y]) + 4294967296 ^ (n + 1) * c' = 2 * a0y (a.take (n + 1)) + 0:=by
    rw [c0n,q,F,k1V]
    have e3:4294967296 ^ n * 4294967296 * c' = 4294967296 ^ n * (4294967296 * c'):=k1O ..
    have e4:y + 4294967296 * c' = c + 2 * A:=by omega
    have e5:4294967296 ^ n * y + 4294967296 ^ n * (4294967296 * c')=4294967296 ^ n * c + 4294967296 ^ n * (2 * A):=by rw [<- k1K,e4,k1K]
    have e6:4294967296 ^ n * (2 * A)=2 * (4294967296 ^ n * A):=by rw [m1v]
    omega
   have O:b0v G3 false 1 (adr 1 v n)=some (.int .u32 (A:Int)):=by
    rw [N.load j (Ext.refl _)] at L
    rw [b2];exact L
   simp [-Int.natCast_emod,-Int.natCast_add,-k0s,v0B,v0C,U,Z,g6,g7,a1,L,q1,q2,q3,h1,O]
   unfold f0N
   simp [-Int.natCast_add,v0D,g7,e9]
   refine c0s.mk ⟨by simp [U],by simp,c',by simp,u,out ++ [y],by simpa [c0e] using M,?_,by simp [q],by omega,I⟩
   intro x e
   rcases k1T.1 e with e | e
   ·exact J x e
   ·simp at e;omega
  ·subst a4
   rw [k1M] at hs
   obtain ⟨s',G3,h1,M,h3,h4⟩:=e0m (e2:=a0l) (new:=[.int .u32 (c:Int)]) (c:=1) (bytes:=4) ho rfl rfl (by omega) (by omega) (by omega) e.1
   have u:=h4 _ (k1x _) e
   simp [-Int.natCast_add,r0v,r0w,Z,g6,h1]
   have z:b0u (out ++ [c]):=by
    intro x e
    rcases k1T.1 e with e | e
    ·exact J x e
    ·simp at e;omega
   refine (e0Z (l:=out ++ [c]) ⟨by have:=M.sl;simpa [q,c0e] using this,z⟩ u.1 (by simp;omega)).mo ?_
   rintro r G2 ⟨⟨ht,a5⟩,a8⟩
   simp
   intro _
   rw [c0a _ z,c0n,q,hs] at ht
   exact ⟨ht,(Own.newB M).of a5⟩
theorem e0u {p z x:Nat} {L:List Nat} (hb:G.bk p=.row false a0l (c0e L)) (e:fl<=p) (h:z < L.length) :
  f0n fl G 1 (.pointer (some ⟨p,z,none⟩)) (.int .u32 (x:Int))=some (G.setIfInBounds p (.row false a0l (c0e (L.set z x)))):=by
 have c:a0W (.int .u32 (x:Int))=[.int .u32 (x:Int)]:=rfl
 rw [n0Q hb e (by rw [c];rfl) (by simp;omega) (by rw [c];rfl),c,d0M]
 simp [b0x]
theorem L0n {n:Nat} {s:Value} (h:Own fl G a0l 1 s n (c0e a)) (k:n=a.length) (q:0 < a.length):∃ p cap,s=.slice (some ⟨p,0,none⟩) a.length cap/\G.bk p=.row false a0l (c0e a)/\fl<=p:=by
 obtain ⟨u,⟨_,c⟩ | ⟨b,cap,c,e,j⟩⟩:=h
 ·omega
 ·exact ⟨b,cap,by rw [<- k];exact c,e,j⟩
theorem l0m (ha:Lim H v a) (hb:Lim H w b) (hf:fl<=H.size) (c4:a.length < 1073741824) (b5:b.length<=a.length) (c1:a0y b<=a0y a) (a5:0 < a.length) :
  a0O env fl O0c [v,w] H (fun r H'=>(Lim H' r (a0p (a0y a - a0y b))/\newB H r)/\Ext H H') R:=by
 refine a0i k1g hf (h:=?_)
 intro ρ h0
 have a1:Ext H (H.push (.row false a0l [])):=(Ext.refl H).push
 obtain ⟨v',G',h1,h2,h3,h4⟩:=k0r (fl:=H.size) (G:=H.push (.row false a0l [])) (s:=.slice (some ⟨H.size,0,none⟩) 0 0) (e:=a0l) (cs:=[]) (sz:=1) (n:=0) (bytes:=4) (e2:=a0l)
  (Own.mk a0G rfl (k1x _)) (ha.mo a1).1 k0K (by omega) (by omega) (by omega) (by simp)
 rw [l1e,l1Z] at h2
 obtain ⟨p,cap,rfl,u,hp⟩:=L0n h2 rfl a5
 have a4:Ext H G':=h4 H (k1x _) a1
 simp [f1k,V0u,V0v,V0w,V0x,h0,h1]
 refine d0C (fun n ρ G=>ρ 1=w/\ρ 5=.slice (some ⟨p,0,none⟩) a.length cap/\ρ 7=.int .i64 (n:Int)/\∃ c,ρ 6=.int .u64 ((c:Nat):Int)/\Ext H G/\∃ L,a0f.bk G p=.row false a0l (c0e L)/\L.length=a.length/\b0u L/\(∀ j,n<=j->L.getD j 0=a.getD j 0)/\c<=1 /\
   a0y (L.take n) + a0y (b.take n)=a0y (a.take n) + 4294967296 ^ n * c) a.length (by decide) ⟨by simp [h0],by simp,by simp,0,by simp,a4,a,u,rfl,ha.ok,fun _ _=>rfl,by omega,by simp [a0y]⟩ ?_
 clear h0 ρ h1 h2 h3 h4 u a4 a1 G'
 rintro n ρ G c3 ⟨g1,g5,N,c,g6,hx,L,u,hL,J,F,hc,hs⟩
 have e9:=b0z (show n < 4611686018427387904 by omega)
 have c0:g0b (.slice (some ⟨p,0,none⟩) a.length cap)=some (.int .i64 (a.length:Int)):=rfl
 simp [V0y,g5,N,c0]
 refine e0T.mk (by simp) (fun b8=>?_) (fun b4=>?_)
 ·have kb:=hb.mo hx
  have I:n < L.length:=by omega
  obtain ⟨o1,o2⟩:=f0B (k:=.i64) (cap:=cap) u I hL
  have O:=a0R b8
  have U:=g0r (l:=b) (n:=n)
  have a6:=c0i ha.ok n
  have a7:=c0i hb.ok n
  rw [F n (k1x _)] at o2
  have hB:n < b.length->iaV 1 w (.int .i64 (n:Int))=some (adr 1 w n)/\b0v G false 1 (adr 1 w n)=some (.int .u32 ((b.getD n 0:Nat):Int)):=fun h=>⟨kb.ia h,kb.load h (Ext.refl _)⟩
  have a2:¬ n < b.length->b.getD n 0=0:=fun h=>by rw [k1v,k1G (by omega)];rfl
  generalize a.getD n 0=A at O a6 o2
  generalize b.getD n 0=B at U a7 hB a2
  obtain ⟨S,hS⟩:∃ S,c + B=S:=⟨_,rfl⟩
  have eA:IntKind.u64.wrap (A:Int)=(A:Int):=by rw [a0z];omega
  by_cases ib:n < b.length
  ·obtain ⟨b1,b2⟩:=hB ib
   have e2:IntKind.u64.wrap ((c:Int) + IntKind.u64.wrap (B:Int))=(S:Int):=by rw [a0z,a0z];omega
   simp [-Int.natCast_add,J0I,J0J,V0z,g1,g6,N,kb.slen,ib,b1,b2,e2]
   by_cases Z:S<=A
   ·have q1:IntKind.u64.wrap ((A:Int) - (S:Int))=((A - S:Nat):Int):=by rw [a0z];omega
    have q2:IntKind.u32.wrap (((A - S:Nat):Int))=((A - S:Nat):Int):=by rw [f0q];omega
    have M:=e0u (fl:=H.size) (x:=A - S) u hp I
    simp [-Int.natCast_add,t0L,J0K,w0s,g1,g5,g6,N,o1,o2,eA,Z,q1,q2,M]
    have y:a0y ((L.set n (A-S)).take (n + 1)) + a0y (b.take (n + 1))=a0y (a.take (n + 1)) + 4294967296 ^ (n + 1) * 0:=by
     rw [d0r I,O,U,k1V]
     have e3:4294967296 ^ n * 4294967296 * 0=4294967296 ^ n * (4294967296 * 0):=k1O ..
     have e4:(A-S) + c + B=A + 4294967296 * 0:=by omega
     have e5:4294967296 ^ n * (A-S) + 4294967296 ^ n * c + 4294967296 ^ n * B=4294967296 ^ n * A + 4294967296 ^ n * (4294967296 * 0):=by rw [<- k1K,<- k1K,e4,k1K]
     omega
    unfold f0N
    simp [-Int.natCast_add,n0G,N,e9]
    exact c0s.mk ⟨by simp [g1],by simp [g5],by simp,0,by simp,hx.set hp,L.set n (A-S),a0A (a0k u),by simp [hL],c0c J (by omega),fun j hj=>by have h:=(b0P (l:=L) (z:=A-S) (show n ≠ j by omega)).trans (F j (by omega));rw [k1v,k1v] at h;exact h,by omega,y⟩
   ·have a0:A < S:=by omega
    have q0:IntKind.u64.wrap ((A:Int) + 4294967296)=((A + 4294967296:Nat):Int):=by rw [a0z];omega
    have q1:IntKind.u64.wrap (((A + 4294967296:Nat):Int) - (S:Int))=((A + 4294967296 - S:Nat):Int):=by rw [a0z];omega
    have q2:IntKind.u32.wrap (((A + 4294967296 - S:Nat):Int))=((A + 4294967296 - S:Nat):Int):=by rw [f0q];omega
    have M:=e0u (fl:=H.size) (x:=A + 4294967296 - S) u hp I
    simp [-Int.natCast_add,t0L,w0t,w0u,g1,g5,g6,N,o1,o2,eA,Z,a0,q0,q1,q2,M]
    have y:a0y ((L.set n (A+4294967296-S)).take (n + 1)) + a0y (b.take (n + 1))=a0y (a.take (n + 1)) + 4294967296 ^ (n + 1) * 1:=by
     rw [d0r I,O,U,k1V]
     have e3:4294967296 ^ n * 4294967296 * 1=4294967296 ^ n * (4294967296 * 1):=k1O ..
     have e4:(A+4294967296-S) + c + B=A + 4294967296 * 1:=by omega
     have e5:4294967296 ^ n * (A+4294967296-S) + 4294967296 ^ n * c + 4294967296 ^ n * B=4294967296 ^ n * A + 4294967296 ^ n * (4294967296 * 1):=by rw [<- k1K,<- k1K,e4,k1K]
     omega
    unfold f0N
    simp [-Int.natCast_add,n0G,N,e9]
    exact c0s.mk ⟨by simp [g1],by simp [g5],by simp,1,by simp,hx.set hp,L.set n (A+4294967296-S),a0A (a0k u),by simp [hL],c0c J (by omega),fun j hj=>by have h:=(b0P (l:=L) (z:=A+4294967296-S) (show n ≠ j by omega)).trans (F j (by omega));rw [k1v,k1v] at h;exact h,by omega,y⟩
  ·have c2:=a2 ib
   have a9:c=S:=by omega
   rw [a9] at g6
   simp [-Int.natCast_add,J0I,J0J,g1,g6,N,kb.slen,ib]
   by_cases Z:S<=A
   ·have q1:IntKind.u64.wrap ((A:Int) - (S:Int))=((A - S:Nat):Int):=by rw [a0z];omega
    have q2:IntKind.u32.wrap (((A - S:Nat):Int))=((A - S:Nat):Int):=by rw [f0q];omega
    have M:=e0u (fl:=H.size) (x:=A - S) u hp I
    simp [-Int.natCast_add,t0L,J0K,w0s,g1,g5,g6,N,o1,o2,eA,Z,q1,q2,M]
    have y:a0y ((L.set n (A-S)).take (n + 1)) + a0y (b.take (n + 1))=a0y (a.take (n + 1)) + 4294967296 ^ (n + 1) * 0:=by
     rw [d0r I,O,U,k1V]
     have e3:4294967296 ^ n * 4294967296 * 0=4294967296 ^ n * (4294967296 * 0):=k1O ..
     have e4:(A-S) + c + B=A + 4294967296 * 0:=by omega
     have e5:4294967296 ^ n * (A-S) + 4294967296 ^ n * c + 4294967296 ^ n * B=4294967296 ^ n * A + 4294967296 ^ n * (4294967296 * 0):=by rw [<- k1K,<- k1K,e4,k1K]
     omega
    unfold f0N
    simp [-Int.natCast_add,n0G,N,e9]
    exact c0s.mk ⟨by simp [g1],by simp [g5],by simp,0,by simp,hx.set hp,L.set n (A-S),a0A (a0k u),by simp [hL],c0c J (by omega),fun j hj=>by have h:=(b0P (l:=L) (z:=A-S) (show n ≠ j by omega)).trans (F j (by omega));rw [k1v,k1v] at h;exact h,by omega,y⟩
   ·have a0:A < S:=by omega
    have q0:IntKind.u64.wrap ((A:Int) + 4294967296)=((A + 4294967296:Nat):Int):=by rw [a0z];omega
    have q1:IntKind.u64.wrap (((A + 4294967296:Nat):Int) - (S:Int))=((A + 4294967296 - S:Nat):Int):=by rw [a0z];omega
    have q2:IntKind.u32.wrap (((A + 4294967296 - S:Nat):Int))=((A + 4294967296 - S:Nat):Int):=by rw [f0q];omega
    have M:=e0u (fl:=H.size) (x:=A + 4294967296 - S) u hp I
    simp [-Int.natCast_add,t0L,w0t,w0u,g1,g5,g6,N,o1,o2,eA,Z,a0,q0,q1,q2,M]
    have y:a0y ((L.set n (A+4294967296-S)).take (n + 1)) + a0y (b.take (n + 1))=a0y (a.take (n + 1)) + 4294967296 ^ (n + 1) * 1:=by
     rw [d0r I,O,U,k1V]
     have e3:4294967296 ^ n * 4294967296 * 1=4294967296 ^ n * (4294967296 * 1):=k1O ..
     have e4:(A+4294967296-S) + c + B=A + 4294967296 * 1:=by omega
     have e5:4294967296 ^ n * (A+4294967296-S) + 4294967296 ^ n * c + 4294967296 ^ n * B=4294967296 ^ n * A + 4294967296 ^ n * (4294967296 * 1):=by rw [<- k1K,<- k1K,e4,k1K]
     omega
    unfold f0N
    simp [-Int.natCast_add,n0G,N,e9]
    exact c0s.mk ⟨by simp [g1],by simp [g5],by simp,1,by simp,hx.set hp,L.set n (A+4294967296-S),a0A (a0k u),by simp [hL],c0c J (by omega),fun j hj=>by have h:=(b0P (l:=L) (z:=A+4294967296-S) (show n ≠ j by omega)).trans (F j (by omega));rw [k1v,k1v] at h;exact h,by omega,y⟩
 ·subst b4
  rw [k1J (by omega),k1J b5,k1M] at hs
  have a3:=g0q L J
  rw [hL] at a3
  have a8:c=0:=by
   rcases m1E c with h | h
   ·exact h
   ·have:c=1:=by omega
    subst this
    omega
  subst a8
  simp [J0H,g5]
  refine (e0Z (l:=L) ⟨⟨by simp,.inr ⟨p,0,cap,false,c0e L,by rw [hL],u,by simp,by rw [l1F,l1H,<- j0b (l:=L),k1M]⟩⟩,J⟩ hx.1 (by omega)).mo ?_
  rintro r G2 ⟨⟨ht,b9⟩,c5⟩
  simp
  intro _
  rw [c0a _ J,show a0y L=a0y a - a0y b by omega] at ht
  refine ⟨ht,fun q hq=>?_⟩
  rw [b9] at hq
  simp only [slB,k1z] at hq
  omega
theorem m0Z (q:Lim H v a) (hb:Lim H w b) (s:fl<=H.size) (k:a.length < 1073741824) (j:b.length<=a.length) (c:a0y b<=a0y a) (e:0 < a.length) :
  a0O env fl O0c [v,w] H (fun r H'=>Lim H' r (a0p (a0y a - a0y b))/\Ext H H') R:=(l0m q hb s k j c e).mo fun _ _ h=>⟨h.1.1,h.2⟩
theorem k0D:∀ n,a0y (List.replicate n 0)=0
 | 0=>rfl
 | n + 1=>by rw [n1w,a0y,k0D n]
theorem q0a (n:Nat):c0e (List.replicate n 0)=e0M [.int .u32 0] n:=by
 unfold c0e
 induction n with
 | zero=>rfl
 | succ n ih=>simp only [n1w,List.map_cons,ih];rfl
theorem v0h (ha:Lim H v a) (hb:Lim H w b) (hf:fl<=H.size) (c2:a.length < 536870912) (c3:b.length < 536870912) :
  a0O env fl b1r [v,w] H (fun r H'=>Lim H' r (a0p (a0y a * a0y b))/\Ext H H') R:=by
 refine a0i k1h hf (h:=?_)
 intro ρ h0
 have w1:IntKind.i64.wrap ((a.length:Int) + (b.length:Int))=((a.length + b.length:Nat):Int):=by rw [a0S (by omega) (by omega)];omega
 have hm:=Z0x (bytes:=4) (k:=.i64) (k':=.i64) (l:=((a.length + b.length:Nat):Int)) (c:=((a.length + b.length:Nat):Int)) (by omega) (by omega) (by omega) (by omega)
 simp [-Int.natCast_add,f1l,V0A,V0B,V0C,h0,ha.slen,hb.slen,w1,hm]
 rw [<- q0a]
 generalize hN:a.length + b.length=N
 generalize hG:H.push _=G0
 obtain ⟨a9,b0⟩:=g0e hG
 clear hG
 refine d0C (fun n ρ G=>ρ 0=v/\ρ 1=w/\ρ 5=.slice (some ⟨H.size,0,none⟩) N N/\ρ 6=.int .i64 (n:Int)/\Ext H G/\∃ o,a0f.bk G H.size=.row false a0l (c0e o)/\o.length=N/\b0u o/\a0y o=a0y (a.take n) * a0y b/\∀ q,n + b.length<=q->o.getD q 0=0)
  a.length (by decide) ⟨by simp [h0],by simp [h0],by simp,by simp,a9,List.replicate N 0,b0,by simp,by intro x I;simp at I;omega,by simp [a0y,k0D],fun q _=>by simp [k1v,m1h];split <;> rfl⟩ ?_
 clear h0 ρ w1 hm b0 a9 G0
 rintro i ρ G c0 ⟨O,J,L,M,I,o,e,s,j,hs,hz⟩
 have ka:=ha.mo I
 have e8:=b0z (show i < 4611686018427387904 by omega)
 simp [V0D,O,M,ka.slen]
 refine e0T.mk (by simp) (fun a3=>?_) (fun Z=>?_)
 ·have a6:=a0R a3
  have b4:=c0i ha.ok i
  have a1:=ka.ia a3 (k:=.i64)
  have aL:∀ G2,Ext H G2->b0v G2 false 1 (adr 1 v i)=some (.int .u32 ((a.getD i 0:Nat):Int)):=fun G2 h=>ha.load a3 h
  generalize a.getD i 0=U at a6 b4 aL
  simp [V0E,V0F]
  refine d0C (fun q ρ G=>ρ 0=v/\ρ 1=w/\ρ 5=.slice (some ⟨H.size,0,none⟩) N N/\ρ 6=.int .i64 (i:Int)/\ρ 8=.int .i64 (q:Int)/\∃ c,ρ 7=.int .u64 ((c:Nat):Int)/\Ext H G/\∃ o,a0f.bk G H.size=.row false a0l (c0e o)/\o.length=N/\b0u o/\c < 4294967296 /\
    a0y o + 4294967296 ^ (i + q) * c=a0y (a.take i) * a0y b + 4294967296 ^ i * (U * a0y (b.take q))/\∀ q,i + b.length<=q->o.getD q 0=0)
   b.length (by decide) ⟨by simp [O],by simp [J],by simp [L],by simp [M],by simp,0,by simp,I,o,e,s,j,by omega,by simp [hs,a0y],hz⟩ ?_
  clear O J L M I e s j hs hz ka o G ρ
  rintro q ρ G c4 ⟨O,J,L,M,g8,c,g7,I,o,e,s,j,hc,hs,hz⟩
  have kb:=hb.mo I
  have ka:=ha.mo I
  have e9:=b0z (show q < 4611686018427387904 by omega)
  simp [V0G,J,g8,kb.slen]
  refine e0T.mk (by simp) (fun hq=>?_) (fun Z=>?_)
  ·have a7:=a0R hq
   have b5:=c0i hb.ok q
   have b1:=kb.ia hq (k:=.i64)
   have b2:=kb.load hq (Ext.refl _)
   have a2:=aL G I
   generalize b.getD q 0=V at a7 b5 b2
   have F:i + q < o.length:=by omega
   obtain ⟨a0,a4⟩:=f0B (k:=.i64) (cap:=N) e F s
   have u:=i0c o (i + q) ((c + (U * V + o.getD (i + q) 0)) % 4294967296) F
   have b8:=c0i j (i + q)
   generalize o.getD (i + q) 0=Wd at a4 u b8
   have b9:U * V<=4294967295 * 4294967295:=l1u (by omega) (by omega)
   have e1:IntKind.u64.wrap (U:Int)=(U:Int):=by rw [a0z];omega
   have e2:IntKind.u64.wrap (V:Int)=(V:Int):=by rw [a0z];omega
   have e3:IntKind.u64.wrap (Wd:Int)=(Wd:Int):=by rw [a0z];omega
   have e4:IntKind.u64.wrap ((U:Int) * (V:Int))=((U * V:Nat):Int):=by rw [a0z,<- l1Y];omega
   have e5:IntKind.u64.wrap (((U * V:Nat):Int) + (Wd:Int))=((U * V + Wd:Nat):Int):=by rw [a0z];omega
   have e7:IntKind.i64.wrap ((i:Int) + (q:Int))=((i + q:Nat):Int):=by rw [a0S (by omega) (by omega)];omega
   obtain ⟨y,a8⟩:∃ y,c + (U * V + Wd)=y:=⟨_,rfl⟩
   have e6:IntKind.u64.wrap (((U * V + Wd:Nat):Int) + (c:Int))=(y:Int):=by rw [a0z];omega
   rw [a8] at u
   have q2:IntKind.u32.wrap ((y:Int))=((y % 4294967296:Nat):Int):=by rw [f0q];omega
   have a5:=e0u (fl:=H.size) (x:=y % 4294967296) e (k1x _) F
   simp
   refine a0C ?_
   simp [-Int.natCast_add,-Int.natCast_mul,-Int.natCast_emod,-Int.natCast_ediv,V0H,V0I,V0J,O,J,L,M,g7,g8,a1,a2,b1,b2,e1,e2,e3,e4,e5,e6,e7,a0,a4,q2,a5]
   unfold f0N
   simp [-Int.natCast_add,J0L,g8,e9]
   refine c0s.mk ⟨by simp [O],by simp [J],by simp [L],by simp [M],by simp,y / 4294967296,by simp,I.set (k1x _),o.set (i + q) (y % 4294967296),a0A (a0k e),by simp [s],c0c j (by omega),by omega,?_,?_⟩
   ·have f1:4294967296 ^ (i + (q + 1)) * (y / 4294967296)=4294967296 ^ (i + q) * (4294967296 * (y / 4294967296)):=by
     rw [show i + (q + 1)=i + q + 1 by omega,k1V,k1O]
    have f2:4294967296 ^ (i + q) * (y % 4294967296) + 4294967296 ^ (i + q) * (4294967296 * (y / 4294967296))=4294967296 ^ (i + q) * y:=by rw [<- k1K,n1e]
    have f3:4294967296 ^ (i + q) * y=4294967296 ^ (i + q) * c + (4294967296 ^ (i + q) * (U * V) + 4294967296 ^ (i + q) * Wd):=by rw [<- a8,k1K,k1K]
    have f4:4294967296 ^ i * (U * (a0y (List.take q b) + 4294967296 ^ q * V))=4294967296 ^ i * (U * a0y (List.take q b)) + 4294967296 ^ (i + q) * (U * V):=by
     rw [k1K,k1K,m1w]
     congr 1
     rw [k1O,m1v U]
    rw [a7,f4,f1]
    omega
   ·intro r hr
    have:=hz r hr
    have h:=(b0P (l:=o) (z:=y % 4294967296) (show i + q ≠ r by omega)).trans this
    rw [k1v] at h;exact h
  ·subst Z
   have F:i + b.length < o.length:=by omega
   obtain ⟨a0,a4⟩:=f0B (k:=.i64) (cap:=N) e F s
   have u:=i0c o (i + b.length) (c % 4294967296) F
   rw [hz _ (k1x _)] at u
   have e7:IntKind.i64.wrap ((i:Int) + (b.length:Int))=((i + b.length:Nat):Int):=by rw [a0S (by omega) (by omega)];omega
   have q2:IntKind.u32.wrap ((c:Int))=(c:Int):=by rw [f0q];omega
   have a5:=e0u (fl:=H.size) (x:=c) e (k1x _) F
   simp [-Int.natCast_add,J0M,J,L,M,g7,kb.slen,e7,q2,a0,a5]
   unfold f0N
   simp [-Int.natCast_add,J0N,M,e8]
   refine c0s.mk ⟨by simp [O],by simp [J],by simp [L],by simp,I.set (k1x _),o.set (i + b.length) c,a0A (a0k e),by simp [s],c0c j (by omega),?_,?_⟩
   ·rw [k1Y hc] at u
    rw [a6,k1R,k1O]
    rw [k1M] at hs
    omega
   ·intro r hr
    have:=hz r (by omega)
    have h:=(b0P (l:=o) (z:=c) (show i + b.length ≠ r by omega)).trans this
    rw [k1v] at h;exact h
 ·subst Z
  rw [k1M] at hs
  simp [J0O,L]
  refine (f0C (l:=o) ⟨⟨by simp,.inr ⟨H.size,0,N,false,c0e o,by rw [s],e,by simp,by rw [l1F,l1H,<- j0b (l:=o),k1M]⟩⟩,j⟩ I.1 (by omega)).mo ?_
  rintro r G2 ⟨ht,c5⟩
  simp
  intro _
  rw [c0a _ j,hs] at ht
  exact ht
theorem W0s {E:Env} {nt tc b b2:Nat} {body:SCode} {rx rc:List a0J} {Q:e0c} {ρ:Nat->Value} (Inv:Nat->(Nat->Value)->a0f->Prop) (n:Nat) (c:tc < nt) (e:Inv 0 ρ H)
  (step:∀ i ρ G,i<=n->Inv i ρ G->WR E fl rc (T nt ρ) G (i0k E fl nt tc b b2 body rx (fun t H=>Q .normal t H) Q R n i Inv) R) :
  W E fl (.loop (.seq (.seq (.reg rc) (.cond (.tmp tc) .skip (.exit b))) (.seq (.block b2 body) (.reg rx)))) (T nt ρ) H (f0g b Q) R:=by
 have h:=w0O (Z:=fun t H=>Q .normal t H) (Q:=Q) Inv n c e step
 rwa [k0V] at h
theorem W0x {x:Nat} (j:x < 4294967296):d0p 0 .and (.int .u32 (x:Int)) (.int .u32 1)=some (.int .u32 ((x % 2:Nat):Int)):=by
 have h:d0p 0 .and (.int .u32 (x:Int)) (.int .u32 1)=some (.int .u32 (IntKind.u32.wrap (BitVec.ofInt IntKind.u32.bits (x:Int) &&& BitVec.ofInt IntKind.u32.bits 1).toNat)):=by unfold d0p;simp
 rw [h]
 have c:(BitVec.ofInt IntKind.u32.bits (x:Int) &&& BitVec.ofInt IntKind.u32.bits 1).toNat=x % 2:=by
  show (BitVec.ofInt 32 (x:Int) &&& BitVec.ofInt 32 1).toNat=x % 2
  rw [BitVec.toNat_and,m1C,m1C]
  have e2:((x:Int) % (2 ^ 32:Nat)).toNat=x:=by omega
  have e:((1:Int) % (2 ^ 32:Nat)).toNat=1:=by decide
  rw [e2,e,Nat.and_one_is_mod]
 rw [c,r0U]
 congr 3
 omega
theorem b1K {x k:Nat} (F:k < 32) (q:x < 4294967296) (v:x % 2 ^ (k + 1)=0):x + 2 ^ k < 4294967296/\d0p 0 .or (.int .u32 (x:Int)) (.int .u32 ((2 ^ k:Nat):Int))=some (.int .u32 ((x + 2 ^ k:Nat):Int)):=by
 have hp:2 ^ k < 2 ^ (k + 1):=Nat.pow_lt_pow_right (by omega) (by omega)
 obtain ⟨y,rfl⟩:=Nat.dvd_of_mod_eq_zero v
 have h:2 ^ (k + 1) * (y + 1)<=4294967296:=by
  have e:(4294967296:Nat)=2 ^ (k + 1) * 2 ^ (31 - k):=by rw [<- m1w,show k + 1 + (31 - k)=32 by omega]
  rw [e] at q ⊢
  exact l1c _ (m1a q)
 have c:2 ^ (k + 1) * y + 2 ^ k < 4294967296:=by rw [k1K] at h;omega
 refine ⟨c,?_⟩
 have j:=m1x hp y
 rw [k0s]
 have s:(BitVec.ofInt IntKind.u32.bits ((2 ^ (k + 1) * y:Nat):Int) ||| BitVec.ofInt IntKind.u32.bits ((2 ^ k:Nat):Int)).toNat=2 ^ (k + 1) * y + 2 ^ k:=by
  show (BitVec.ofInt 32 ((2 ^ (k + 1) * y:Nat):Int) ||| BitVec.ofInt 32 ((2 ^ k:Nat):Int)).toNat=_
  rw [BitVec.toNat_or,m1C,m1C]
  rw [j]
  generalize 2 ^ (k + 1) * y=x at *
  generalize 2 ^ k=z at *
  have e2:((x:Int) % (2 ^ 32:Nat)).toNat=x:=by omega
  have u:((z:Int) % (2 ^ 32:Nat)).toNat=z:=by omega
  rw [e2,u]
 rw [s,r0U,k1Y c]
theorem L0i {X B R t:Nat} (hB:0 < B) (hR:X % B=R) (q:t < 2):(2 * R + t < B->(2 * X + t) / B=2 * (X / B)/\(2 * X + t) % B=2 * R + t)/\(B<=2 * R + t->(2 * X + t) / B=2 * (X / B) + 1/\(2 * X + t) % B=2 * R + t - B):=by
 have j:=m1K X B
 rw [hR] at j
 have k:R < B:=by rw [<- hR];exact l1T _ hB
 have e:2 * X + t=B * (2 * (X / B)) + (2 * R + t):=by rw [m1v];omega
 constructor
 ·intro h
  rw [e,Nat.mul_add_div hB,Nat.mul_add_mod,m1r h,k1Y h]
  exact ⟨rfl,rfl⟩
 ·intro h
  have c:2 * R + t - B < B:=by omega
  have e2:2 * X + t=B * (2 * (X / B)) + B + (2 * R + t - B):=by omega
  rw [<- Nat.mul_succ] at e2
  rw [e2,Nat.mul_add_div hB,Nat.mul_add_mod,m1r c,k1Y c]
  exact ⟨rfl,rfl⟩
theorem B0R (A k:Nat):A / 2 ^ k=2 * (A / 2 ^ (k + 1)) + A / 2 ^ k % 2:=by
 rw [k1V,<- Nat.div_div_eq_div_mul];omega
theorem i0P {A B:Nat} (ha:Lim H v (a0p A)) (hb:Lim H w (a0p B)) (hB:0 < B) (hf:fl<=H.size) (f3:(a0p A).length < 536870912) (g2:(a0p B).length < 536870912) :
  a0O env fl Z0r [v,w] H (fun r H'=>(∃ x y,r=.tuple #[x,y]/\Lim H' x (a0p (A / B))/\Lim H' y (a0p (A % B)))/\Ext H H') R:=by
 refine a0i k1k hf (h:=?_)
 intro ρ h0
 simp [f1o,V0N,V0O,h0]
 refine (j0k ha hb (k1x _) (by omega)).mo ?_
 rintro _ G ⟨rfl,u⟩
 rw [d0Q,c0k]
 by_cases a6:A < B
 ·simp [a6,V0P,h0]
  refine fun _=>⟨.slice none 0 0,v,⟨rfl,rfl⟩,?_,?_⟩
  ·rw [m1r a6,a0Y];exact Lim.nil
  ·rw [k1Y a6];exact ha.mo u
 have d0:¬ (if B < A then (1:Int) else 0) < 0:=by split <;> decide
 obtain ⟨a,hA⟩:∃ a,a=a0p A:=⟨_,rfl⟩
 rw [<- hA] at ha f3
 have e2:a0y a=A:=by rw [hA,a0q]
 have hm:=Z0x (bytes:=4) (k:=.i64) (k':=.i64) (l:=(a.length:Int)) (c:=(a.length:Int)) (by omega) (by omega) (by omega) (by omega)
 have w1:IntKind.i64.wrap ((a.length:Int) - 1)=(a.length:Int) - 1:=a0S (by omega) (by omega)
 have ka:=ha.mo u
 simp [a6,d0,h0,V0Q,V0R,V0S,ka.slen,hm,w1]
 rw [<- q0a]
 generalize hG:G.push _=G0
 obtain ⟨j,b0⟩:=g0e hG
 clear hG
 have d8:=u.trans j
 have hP:=u.1
 generalize Array.size G=p at b0 hP
 refine w0O (fun n ρ G=>ρ 0=v/\ρ 1=w/\ρ 6=.slice (some ⟨p,0,none⟩) a.length a.length/\ρ 8=.int .i64 ((a.length:Int) - 1 - n)/\n<=a.length/\Ext H G/\Lim G (ρ 7) (a0p (a0y (a.drop (a.length - n)) % B)) /\
   ∃ o,a0f.bk G p=.row false a0l (c0e o)/\o.length=a.length/\b0u o/\a0y o=4294967296 ^ (a.length - n) * (a0y (a.drop (a.length - n)) / B)/\∀ t,t < a.length - n->o.getD t 0=0)
  a.length (by decide) ⟨by simp [h0],by simp [h0],by simp,by simp,by omega,d8,by simp [a0y,a0Y];exact Lim.nil,List.replicate a.length 0,b0,by simp,by intro x u;simp at u;omega,by simp [a0y,k0D],fun t _=>by simp [k1v,m1h];split <;> rfl⟩ ?_
 clear h0 ρ hm b0 d8 j u ka w1 G G0 d0
 rintro n ρ G f9 ⟨g0,g1,g6,g8,hn,u,L,o,e,J,F,hs,hz⟩
 by_cases f4:n < a.length
 ·obtain ⟨i,hi⟩:∃ i,a.length - n=i + 1:=⟨a.length - n - 1,by omega⟩
  have c0:i < a.length:=by omega
  have b1:ρ 8=.int .i64 (i:Int):=by rw [g8];congr 1;omega
  have e8:IntKind.i64.wrap ((i:Int) - 1)=(a.length:Int) - 1 - ((n + 1:Nat):Int):=by rw [a0S (by omega) (by omega)];omega
  rw [hi] at L hs hz
  have b8:=f0T c0
  have c2:=c0i ha.ok i
  have aL:∀ G2,Ext H G2->b0v G2 false 1 (adr 1 v i)=some (.int .u32 ((a.getD i 0:Nat):Int)):=fun G2 h=>ha.load c0 h
  generalize a.getD i 0=U at b8 c2 aL
  generalize a0y (a.drop (i + 1))=D at b8 L hs
  simp [J0Y,b1]
  refine i0k.mk true (by simp) (fun _=>⟨f4,?_⟩) (by simp)
  simp [V0T]
  refine W0s (fun q ρ G=>ρ 0=v/\ρ 1=w/\ρ 6=.slice (some ⟨p,0,none⟩) a.length a.length/\ρ 8=.int .i64 (i:Int)/\ρ 9=.int .i64 ((31:Int) - q)/\q<=32/\Ext H G/\Lim G (ρ 7) (a0p ((D * 2 ^ q + U / 2 ^ (32 - q)) % B)) /\
    ∃ o,a0f.bk G p=.row false a0l (c0e o)/\o.length=a.length/\b0u o/\a0y o=4294967296 ^ i * (2 ^ (32 - q) * ((D * 2 ^ q + U / 2 ^ (32 - q)) / B))/\(∀ t,t < i->o.getD t 0=0)/\o.getD i 0 % 2 ^ (32 - q)=0)
   32 (by decide) ?_ ?_
  ·have hU:U / 2 ^ 32=0:=m1r (by omega)
   refine ⟨by simp [g0],by simp [g1],by simp [g6],by simp [b1],by simp,by omega,u,?_,o,e,J,F,?_,fun t ht=>hz t (by omega),?_⟩
   ·rw [n1G,hU,Nat.pow_zero,l1H,l1A];simpa using L
   ·rw [n1G,hU,Nat.pow_zero,l1H,l1A,hs,k1V,k1O]
   ·rw [hz i (by omega)]
  clear g0 g1 g6 g8 b1 u L e J F hs hz o G ρ
  rintro q ρ G g3 ⟨g0,g1,g6,g8,g9,g4,u,L,o,e,J,F,hs,hz,I⟩
  by_cases hq:q < 32
  ·obtain ⟨k,hk⟩:∃ k,32 - q=k + 1:=⟨31 - q,by omega⟩
   have a0:ρ 9=.int .i64 (k:Int):=by rw [g9];congr 1;omega
   have e9:IntKind.i64.wrap ((k:Int) - 1)=(31:Int) - ((q + 1:Nat):Int):=by rw [a0S (by omega) (by omega)];omega
   have Z:32 - (q + 1)=k:=by omega
   have ek:IntKind.u64.wrap (k:Int)=(k:Int):=by rw [a0z];omega
   have ka:=ha.mo u
   have a1:=ka.ia c0 (k:=.i64)
   have a2:=aL G u
   have d6:d0p 0 .shr (.int .u32 (U:Int)) (.int .u64 (k:Int))=some (.int .u32 ((U / 2 ^ k:Nat):Int)):=r0O (by omega)
   have c4:U / 2 ^ k < 4294967296:=n1C (l1J _ _) c2
   have b4:=W0x c4
   have e6:=B0R U k
   rw [hk] at L hs I
   obtain ⟨X,hX⟩:∃ X,D * 2 ^ q + U / 2 ^ (k + 1)=X:=⟨_,rfl⟩
   have O:D * 2 ^ (q + 1) + U / 2 ^ k=2 * X + U / 2 ^ k % 2:=by
    have:D * 2 ^ (q + 1)=2 * (D * 2 ^ q):=by rw [k1V,<- k1O,k1Z]
    omega
   rw [hX] at L hs
   obtain ⟨bt,c5⟩:∃ bt,U / 2 ^ k % 2=bt:=⟨_,rfl⟩
   rw [c5] at b4 O
   have c6:bt < 2:=by omega
   obtain ⟨Uk,a3⟩:∃ Uk,U / 2 ^ k=Uk:=⟨_,rfl⟩
   rw [a3] at d6 b4 O c4 e6 c5
   have c1:=L0i (X:=X) hB rfl c6
   have e3:X % B < B:=l1T _ hB
   obtain ⟨r0,g7⟩:∃ r0,ρ 7=r0:=⟨_,rfl⟩
   rw [g7] at L
   have e7:(a0p (X % B)).length<=(a0p B).length:=a0X (n1d e3)
   have e4:((bt:Int) == 1).toNat=bt:=by
    have:bt=0 ∨ bt=1:=by omega
    rcases this with h | h <;> rw [h] <;> rfl
   simp [J0Z,a0]
   refine i0k.mk true (by simp) (fun _=>⟨hq,?_⟩) (by simp)
   simp [V0U,g0,g7,g8,a0,a1,a2,ek,d6,b4]
   refine (o0G L u.1 (by omega)).mo ?_
   rintro r1 G1 ⟨⟨M,c8⟩,j⟩
   have f8:=c8.ne (a0k e)
   rw [a0q,e4] at M
   replace u:=u.trans j
   replace e:=j.bk e
   have kb:=hb.mo u
   obtain ⟨R',c3⟩:∃ R',2 * (X % B) + bt=R':=⟨_,rfl⟩
   rw [c3] at M
   have f7:(a0p R').length<=(a0p B).length + 1:=by
    refine e0r ?_
    have:=e0E B
    rw [k1V]
    omega
   rw [c3] at c1
   simp [J0T,g1]
   refine (j0k M kb u.1 (by omega)).mo ?_
   rintro _ G2 ⟨rfl,j⟩
   rw [d0Q,c0k]
   replace u:=u.trans j
   replace e:=j.bk e
   replace kb:=kb.mo j
   replace M:=M.mo j
   have a5:i < o.length:=by omega
   by_cases b9:B<=R'
   ·have b5:¬ R' < B:=by omega
    have e5:((0:Int)<=if B < R' then 1 else 0):=by split <;> decide
    obtain ⟨d1,d2⟩:=c1.2 b9
    simp [b5,e5,J0U,g1]
    refine (l0m M kb u.1 (by omega) (a0X b9) (by rw [a0q,a0q];exact b9) (by
     rcases m1E (a0p R').length with h | h
     ·have:=b0N.1 (k1U.1 h);omega
     ·exact h)).mo ?_
    rintro r2 G3 ⟨⟨d5,c9⟩,j⟩
    have d3:=c9.ne (a0k e)
    rw [a0q,a0q] at d5
    replace u:=u.trans j
    replace e:=j.bk e
    obtain ⟨o1,o2⟩:=f0B (k:=.i64) (cap:=a.length) e a5 J
    have a8:=c0i F i
    have N:=i0c o i (o.getD i 0 + 2 ^ k) a5
    generalize hy:o.getD i 0=y at o2 a8 N I
    obtain ⟨d9,d4⟩:=b1K (by omega) a8 I
    have d7:d0p 0 .shl (.int .u32 1) (.int .u64 (k:Int))=some (.int .u32 ((2 ^ k:Nat):Int)):=by
     have h:=r0N (tag:=0) (n:=1) (s:=k) (k':=.u64) (by omega)
     have h2:1 * 2 ^ k % 4294967296=2 ^ k:=by rw [l1l];exact k1Y (by omega)
     rw [h2] at h;exact h
    have a9:=e0u (fl:=H.size) (x:=y + 2 ^ k) e hP a5
    have e0:(y + 2 ^ k) % 2 ^ k=0:=by
     obtain ⟨z,hz⟩:=Nat.dvd_of_mod_eq_zero I
     rw [hz,k1V,k1O,Nat.add_mod_right,Nat.mul_mod_right]
    have a7:2 ^ (k + 1)=2 * 2 ^ k:=by rw [k1V,k1Z]
    obtain ⟨K,a4⟩:∃ K,K=2 ^ k:=⟨_,rfl⟩
    rw [<- a4] at d9 d4 d7 a9 e0 N a7
    have f6:=e
    have f0:∀ y,y % K=0->True:=fun _ _=>trivial
    simp [-Int.natCast_add,-k0s,J0V,g6,g8,a0,o1,o2,ek,d7,d4,a9]
    unfold f0N
    simp [-Int.natCast_add,w0v,a0,e9]
    refine c0s.mk ⟨by simp [g0],by simp [g1],by simp [g6],by simp [g8],by simp,by omega,u.set hP,?_,o.set i (y + K),a0A (a0k e),by simp [J],c0c F d9,?_,?_,?_⟩
    ·rw [Z,a3,O,d2]
     simp
     exact Lim.off d5 (d0o.refl.set) d3
    ·rw [Z,a3,O,d1,<- a4]
     rw [hs,a7] at N
     have f1:4294967296 ^ i * (K * (2 * (X / B) + 1))=4294967296 ^ i * (2 * K * (X / B)) + 4294967296 ^ i * K:=by
      rw [<- k1K];congr 1;rw [k1K,l1H];congr 1;rw [m1v,k1O]
     rw [k1K] at N
     omega
    ·intro t ht
     have h:=(b0P (l:=o) (z:=y + K) (show i ≠ t by omega)).trans (hz t ht)
     rw [k1v] at h;exact h
    ·rw [Z,<- a4,l1W a5];exact e0
   ·obtain ⟨d1,d2⟩:=c1.1 (by omega)
    have b5:R' < B:=by omega
    have a7:2 ^ (k + 1)=2 * 2 ^ k:=by rw [k1V,k1Z]
    simp [b5]
    unfold f0N
    simp [-Int.natCast_add,w0v,a0,e9]
    refine c0s.mk ⟨by simp [g0],by simp [g1],by simp [g6],by simp [g8],by simp,by omega,u,?_,o,e,J,F,?_,?_,?_⟩
    ·rw [Z,a3,O,d2]
     simp
     exact M
    ·rw [Z,a3,O,d1,hs,a7]
     congr 1
     rw [m1v,k1O]
    ·intro t ht
     have h:=hz t ht
     rw [k1v] at h;exact h
    ·rw [Z]
     obtain ⟨z,e1⟩:=Nat.dvd_of_mod_eq_zero I
     rw [k1v] at e1
     rw [e1,k1V,k1O,Nat.mul_mod_right]
  ·have f5:q=32:=by omega
   subst f5
   rw [n1z,Nat.pow_zero,Nat.div_one,l1l] at hs
   rw [n1z,Nat.pow_zero,Nat.div_one] at L
   have hD:D * 2 ^ 32 + U=a0y (a.drop i):=by rw [b8];omega
   rw [hD] at L hs
   simp [J0Z,g9]
   refine i0k.mk false (by simp) (by simp) (fun _=>?_)
   unfold f0N
   simp [-Int.natCast_add,J0W,g8,e8]
   have c7:a.length - (n + 1)=i:=by omega
   refine c0s.mk ⟨by simp [g0],by simp [g1],by simp [g6],by simp,by omega,u,by rw [c7];simpa using L,o,e,J,F,by rw [c7];exact hs,fun t ht=>?_⟩
   have h:=hz t (by omega)
   rw [k1v] at h;exact h
 ·have f2:n=a.length:=by omega
  subst f2
  rw [n1z,l1F,e2] at L hs
  rw [Nat.pow_zero,l1l] at hs
  simp [J0Y,g8]
  refine i0k.mk false (by simp;omega) (by simp) (fun _=>?_)
  obtain ⟨r0,g7⟩:∃ r0,ρ 7=r0:=⟨_,rfl⟩
  rw [g7] at L
  simp [J0X,g6,g7]
  refine (f0C (l:=o) ⟨⟨by simp,.inr ⟨p,0,a.length,false,c0e o,by rw [J],e,by simp,by rw [l1F,l1H,<- j0b (l:=o),k1M]⟩⟩,F⟩ u.1 (by omega)).mo ?_
  rintro r G2 ⟨ht,j⟩
  rw [c0a _ F,hs] at ht
  simp [g7]
  exact fun _=>⟨_,_,⟨rfl,rfl⟩,ht,L.mo j⟩
end
section
variable {fl:Nat} {H G:a0f} {R:a0D} {v w:Value} {i j:Bool × List Nat}
theorem j0i (h:b0g H v i) (J:fl<=H.size) (O:i.2.length<=1073741824):a0O env fl X0i [v] H (fun r H'=>b0g H' r (a0g (-a0s i))/\Ext H H') R:=by
 have q:=h
 have F:=h.ok
 obtain ⟨s,rfl,hs⟩:=h
 refine a0i j1H J (h:=?_)
 intro ρ I
 simp [e1M,T0y,I,hs.cells]
 generalize y:(H.push _).push _=G
 have c:Ext H G:=by rw [<- y];exact (Ext.refl H).push.push
 have b0:a0f.bk G H.size=.row false a0a [.bool i.1,s]:=by rw [<- y];simp
 have k:a0f.bk G (H.size + 1)=.row false a0a [.bool false,.slice none 0 0]:=by rw [<- y];simp
 have e:=Ext.refl H
 clear y
 replace e:=e.trans c;replace q:=q.mo c
 simp [T0z,b0]
 refine (b0Q q e.1 (by omega)).mo ?_
 rintro _ z ⟨⟨U,rfl,u⟩,c⟩
 replace b0:=c.bk b0;replace k:=c.bk k;replace e:=e.trans c;replace q:=q.mo c
 have hsz:=e.1
 simp [b0,u.cells,u.plain,hsz]
 generalize j:Array.setIfInBounds z _ _=G3
 have hsz:=e.1;replace q:=q.setS j b0 (by decide);replace u:=u.setS j b0 (by decide);replace k:=a0o j k (by omega);replace e:=a0I j e (by omega);replace b0:=a0r j b0;clear j hsz
 simp [T0A,b0]
 have N:=a0x F
 refine (c0j (-a0s i) u e.1 (by show (a0p _).length<=_;omega) ?_).mo ?_
 ·show (if (!decide (a0s i < 0))=true then -((a0y (a0p (a0s i).natAbs):Nat):Int) else _)=_
  rw [a0q]
  by_cases L:a0s i < 0 <;> simp [L,a0q,a0g] <;> omega
 rintro _ z ⟨⟨M,rfl,x⟩,c⟩
 replace b0:=c.bk b0;replace k:=c.bk k;replace e:=e.trans c;replace q:=q.mo c;replace u:=u.mo c
 have hsz:=e.1
 simp [k,x.cells,x.plain,hsz]
 generalize j:Array.setIfInBounds z _ _=G4
 have hsz:=e.1;replace q:=q.setS j k (by decide);replace u:=u.setS j k (by decide);replace x:=x.setS j k (by decide);replace b0:=a0o j b0 (by omega);replace e:=a0I j e (by omega);replace k:=a0r j k;clear j hsz
 simp [k]
 exact fun _=>⟨M,rfl,x⟩
theorem Y0t (x y:Int):(if (decide (x < 0) != decide (y < 0))=true then -((x.natAbs * y.natAbs:Nat):Int) else ((x.natAbs * y.natAbs:Nat):Int))=x * y:=by
 rw [<- m1f]
 by_cases hi:x < 0 <;> by_cases c:y < 0
 ·have:=Int.mul_pos_of_neg_of_neg hi c
  simp [hi,c];omega
 ·have:=l1C (Int.le_of_lt hi) (show 0<=y by omega)
  simp [hi,c];omega
 ·have:=Int.mul_nonpos_of_nonneg_of_nonpos (show 0<=x by omega) (Int.le_of_lt c)
  simp [hi,c];omega
 ·have:=m1R (show 0<=x by omega) (show 0<=y by omega)
  simp [hi,c];omega
theorem c0J (h:b0g H v i) (k:b0g H w j) (hf:fl<=H.size) (hn:i.2.length < 268435456) (hm:j.2.length < 268435456):a0O env fl z0y [v,w] H (fun r H'=>b0g H' r (a0g (a0s i * a0s j))/\Ext H H') R:=by
 have F:=h
 have I:=k
 have Z:=h.ok
 have O:=k.ok
 obtain ⟨s,rfl,hs⟩:=h
 obtain ⟨u,rfl,hu⟩:=k
 refine a0i j1z hf (h:=?_)
 intro ρ h0
 simp [e1E,S0P,h0,hs.cells,hu.cells]
 generalize N:((H.push _).push _).push _=G
 have c:Ext H G:=by rw [<- N];exact (Ext.refl H).push.push.push
 have b0:a0f.bk G H.size=.row false a0a [.bool i.1,s]:=by rw [<- N];simp
 have y:a0f.bk G (H.size + 1)=.row false a0a [.bool j.1,u]:=by rw [<- N];simp
 have b2:a0f.bk G (H.size + 2)=.row false a0a [.bool false,.slice none 0 0]:=by rw [<- N];simp
 have q:=Ext.refl H
 clear N
 replace q:=q.trans c;replace F:=F.mo c;replace I:=I.mo c
 simp [S0Q,b0]
 refine (b0Q F q.1 (by omega)).mo ?_
 rintro _ L ⟨⟨s1,rfl,z⟩,c⟩
 replace b0:=c.bk b0;replace y:=c.bk y;replace b2:=c.bk b2;replace q:=q.trans c;replace F:=F.mo c;replace I:=I.mo c
 have hsz:=q.1
 simp [b0,z.cells,z.plain,hsz]
 generalize e:Array.setIfInBounds L _ _=G3
 have hsz:=q.1;replace F:=F.setS e b0 (by decide);replace I:=I.setS e b0 (by decide);replace z:=z.setS e b0 (by decide);replace y:=a0o e y (by omega);replace b2:=a0o e b2 (by omega);replace q:=a0I e q (by omega);replace b0:=a0r e b0;clear e hsz
 simp [S0R,y]
 refine (b0Q I q.1 (by omega)).mo ?_
 rintro _ L ⟨⟨s2,rfl,J⟩,c⟩
 replace b0:=c.bk b0;replace y:=c.bk y;replace b2:=c.bk b2;replace q:=q.trans c;replace F:=F.mo c;replace I:=I.mo c;replace z:=z.mo c
 have hsz:=q.1
 simp [y,J.cells,J.plain,hsz]
 generalize e:Array.setIfInBounds L _ _=G4
 have hsz:=q.1;replace F:=F.setS e y (by decide);replace I:=I.setS e y (by decide);replace z:=z.setS e y (by decide);replace J:=J.setS e y (by decide);replace b0:=a0o e b0 (by omega);replace b2:=a0o e b2 (by omega);replace q:=a0I e q (by omega);replace y:=a0r e y;clear e hsz
 clear F I
 have hl:=a0x Z
 have a1:=a0x O
 refine a0C ?_
 simp [S0S,b0,y]
 refine (v0h z J (by have:=q.1;omega) (by show (a0p _).length < _;omega) (by show (a0p _).length < _;omega)).mo ?_
 rintro x L ⟨M,c⟩
 replace b0:=c.bk b0;replace y:=c.bk y;replace b2:=c.bk b2;replace q:=q.trans c;replace z:=z.mo c;replace J:=J.mo c
 rw [show a0y (a0g (a0s i)).2=(a0s i).natAbs from a0q _,show a0y (a0g (a0s j)).2=(a0s j).natAbs from a0q _] at M
 simp
 have a0:(a0p ((a0s i).natAbs * (a0s j).natAbs)).length<=i.2.length + j.2.length:=by
  refine k1H (e0r (k:=(a0p (a0s i).natAbs).length + (a0p (a0s j).natAbs).length) ?_) (by omega)
  rw [m1w]
  exact Nat.mul_lt_mul_of_lt_of_le (e0E _) (n1d (e0E _)) (Nat.pow_pos (by omega))
 refine (c0j (a0s i * a0s j) M q.1 (by omega) ?_).mo ?_
 ·rw [a0q]
  exact Y0t _ _
 rintro _ L ⟨⟨s3,rfl,U⟩,c⟩
 replace b0:=c.bk b0;replace y:=c.bk y;replace b2:=c.bk b2;replace q:=q.trans c;replace z:=z.mo c;replace J:=J.mo c;replace M:=M.mo c
 have hsz:=q.1
 simp [b2,U.cells,U.plain,hsz]
 generalize e:Array.setIfInBounds L _ _=G5
 have hsz:=q.1;replace z:=z.setS e b2 (by decide);replace J:=J.setS e b2 (by decide);replace M:=M.setS e b2 (by decide);replace U:=U.setS e b2 (by decide);replace b0:=a0o e b0 (by omega);replace y:=a0o e y (by omega);replace q:=a0I e q (by omega);replace b2:=a0r e b2;clear e hsz
 simp [b2]
 exact fun _=>⟨s3,rfl,U⟩
theorem b0Y {n:Nat} (h:0 < n):0 < (a0p n).length:=by
 rcases m1E (a0p n).length with c | c
 ·have:=b0N.1 (k1U.1 c);omega
 ·exact c
theorem f0i (h:b0g H v i) (k:b0g H w j) (hf:fl<=H.size) (hn:i.2.length < 268435456) (hm:j.2.length < 268435456):a0O env fl L0t [v,w] H (fun r H'=>b0g H' r (a0g (a0s i + a0s j))/\Ext H H') R:=by
 have k0:=h
 have k1:=k
 have a5:=h.ok
 have a2:=k.ok
 obtain ⟨s,rfl,hs⟩:=h
 obtain ⟨u,rfl,hu⟩:=k
 refine a0i j1y hf (h:=?_)
 intro ρ h0
 simp [e1D,S0I,h0,hs.cells,hu.cells]
 generalize hG:((H.push _).push _).push _=G
 have c:Ext H G:=by rw [<- hG];exact (Ext.refl H).push.push.push
 have b0:a0f.bk G H.size=.row false a0a [.bool i.1,s]:=by rw [<- hG];simp
 have F:a0f.bk G (H.size + 1)=.row false a0a [.bool j.1,u]:=by rw [<- hG];simp
 have b2:a0f.bk G (H.size + 2)=.row false a0a [.bool false,.slice none 0 0]:=by rw [<- hG];simp
 have e:=Ext.refl H
 clear hG
 replace e:=e.trans c;replace k0:=k0.mo c;replace k1:=k1.mo c
 simp [S0J,b0]
 refine (b0Q k0 e.1 (by omega)).mo ?_
 rintro _ Z ⟨⟨s1,rfl,I⟩,c⟩
 replace b0:=c.bk b0;replace F:=c.bk F;replace b2:=c.bk b2;replace e:=e.trans c;replace k0:=k0.mo c;replace k1:=k1.mo c
 have hsz:=e.1
 simp [b0,I.cells,I.plain,hsz]
 generalize q:Array.setIfInBounds Z _ _=G3
 have hsz:=e.1;replace k0:=k0.setS q b0 (by decide);replace k1:=k1.setS q b0 (by decide);replace I:=I.setS q b0 (by decide);replace F:=a0o q F (by omega);replace b2:=a0o q b2 (by omega);replace e:=a0I q e (by omega);replace b0:=a0r q b0;clear q hsz
 simp [S0K,F]
 refine (b0Q k1 e.1 (by omega)).mo ?_
 rintro _ Z ⟨⟨s2,rfl,J⟩,c⟩
 replace b0:=c.bk b0;replace F:=c.bk F;replace b2:=c.bk b2;replace e:=e.trans c;replace k0:=k0.mo c;replace k1:=k1.mo c;replace I:=I.mo c
 have hsz:=e.1
 simp [F,J.cells,J.plain,hsz]
 generalize q:Array.setIfInBounds Z _ _=G4
 have hsz:=e.1;replace k0:=k0.setS q F (by decide);replace k1:=k1.setS q F (by decide);replace I:=I.setS q F (by decide);replace J:=J.setS q F (by decide);replace b0:=a0o q b0 (by omega);replace b2:=a0o q b2 (by omega);replace e:=a0I q e (by omega);replace F:=a0r q F;clear q hsz
 clear k0 k1
 have hl:=a0x a5
 have a4:=a0x a2
 obtain ⟨x,a6⟩:∃ x,a0s i=x:=⟨_,rfl⟩
 obtain ⟨y,a7⟩:∃ y,a0s j=y:=⟨_,rfl⟩
 rw [a6] at b0 I hl ⊢
 rw [a7] at F J a4 ⊢
 have n1:a0y (a0g x).2=x.natAbs:=a0q _
 have n2:a0y (a0g y).2=y.natAbs:=a0q _
 have l1:(a0g x).2.length=(a0p x.natAbs).length:=rfl
 have l2:(a0g y).2.length=(a0p y.natAbs).length:=rfl
 have a0:∀ m,m<=x.natAbs + y.natAbs->(a0p m).length<=i.2.length + j.2.length + 1:=by
  intro m hm
  refine k1H (e0r (k:=(a0p x.natAbs).length + (a0p y.natAbs).length + 1) ?_) (by omega)
  have h1:=e0E x.natAbs
  have h2:=e0E y.natAbs
  have h3:4294967296 ^ (a0p x.natAbs).length<=4294967296 ^ ((a0p x.natAbs).length + (a0p y.natAbs).length):=l1P (by omega) (by omega)
  have h4:4294967296 ^ (a0p y.natAbs).length<=4294967296 ^ ((a0p x.natAbs).length + (a0p y.natAbs).length):=l1P (by omega) (by omega)
  rw [k1V]
  omega
 have c1:(a0g x).1=decide (x < 0):=rfl
 have c2:(a0g y).1=decide (y < 0):=rfl
 rw [c1] at b0
 rw [c2] at F
 by_cases L:decide (x < 0)=decide (y < 0)
 ·simp [I0Z,b0,F,L]
  refine a0C ?_
  simp [S0L,b0,F,L]
  refine (v0g I J (by have:=e.1;omega) (by omega) (by omega)).mo ?_
  rintro z Z ⟨N,c⟩
  replace b0:=c.bk b0;replace F:=c.bk F;replace b2:=c.bk b2;replace e:=e.trans c;replace I:=I.mo c;replace J:=J.mo c
  rw [n1,n2] at N
  simp
  refine (c0j (x + y) N e.1 (by have:=a0 _ (k1x _);omega) ?_).mo ?_
  ·rw [a0q]
   by_cases M:x < 0
   ·have O:y < 0:=by simpa [M] using L
    simp [O];omega
   ·have O:¬ y < 0:=by simpa [M] using L
    simp [O];omega
  rintro _ Z ⟨⟨s3,rfl,U⟩,c⟩
  replace b0:=c.bk b0;replace F:=c.bk F;replace b2:=c.bk b2;replace e:=e.trans c;replace I:=I.mo c;replace J:=J.mo c;replace N:=N.mo c
  have hsz:=e.1
  simp [b2,U.cells,U.plain,hsz]
  generalize q:Array.setIfInBounds Z _ _=G5
  have hsz:=e.1;replace I:=I.setS q b2 (by decide);replace J:=J.setS q b2 (by decide);replace N:=N.setS q b2 (by decide);replace U:=U.setS q b2 (by decide);replace b0:=a0o q b0 (by omega);replace F:=a0o q F (by omega);replace e:=a0I q e (by omega);replace b2:=a0r q b2;clear q hsz
  simp [b2]
  exact fun _=>⟨s3,rfl,U⟩
 ·simp [I0Z,b0,F,L,S0M]
  refine (j0k I J e.1 (by omega)).mo ?_
  rintro _ Z ⟨rfl,c⟩
  replace b0:=c.bk b0;replace F:=c.bk F;replace b2:=c.bk b2;replace e:=e.trans c;replace I:=I.mo c;replace J:=J.mo c
  rw [show z0h (a0g x).2 (a0g y).2=c0L x.natAbs y.natAbs from d0Q _ _,c0k]
  by_cases a1:y.natAbs<=x.natAbs
  ·have q1:¬ x.natAbs < y.natAbs:=by omega
   have q2:((0:Int)<=if y.natAbs < x.natAbs then 1 else 0):=by split <;> decide
   simp [q1,q2]
   refine a0C ?_
   simp [S0N,b0,F]
   have a3:0 < x.natAbs:=by
    rcases m1E x.natAbs with h0 | h0
    ·have e1:x=0:=by omega
     have e2:y=0:=by omega
     subst e1 e2;exact k1Q rfl L
    ·exact h0
   refine (m0Z I J (by have:=e.1;omega) (by omega) (a0X a1) (by rw [n1,n2];exact a1) (b0Y a3)).mo ?_
   rintro z Z ⟨N,c⟩
   replace b0:=c.bk b0;replace F:=c.bk F;replace b2:=c.bk b2;replace e:=e.trans c;replace I:=I.mo c;replace J:=J.mo c
   rw [n1,n2] at N
   simp
   refine (c0j (x + y) N e.1 (by have:=a0 (x.natAbs - y.natAbs) (by omega);omega) ?_).mo ?_
   ·rw [a0q]
    by_cases M:x < 0
    ·have O:¬ y < 0:=by simpa [M] using L
     simp [M];omega
    ·have O:y < 0:=by simpa [M] using L
     simp [M];omega
   rintro _ Z ⟨⟨s3,rfl,U⟩,c⟩
   replace b0:=c.bk b0;replace F:=c.bk F;replace b2:=c.bk b2;replace e:=e.trans c;replace I:=I.mo c;replace J:=J.mo c;replace N:=N.mo c
   have hsz:=e.1
   simp [b2,U.cells,U.plain,hsz]
   generalize q:Array.setIfInBounds Z _ _=G5
   have hsz:=e.1;replace I:=I.setS q b2 (by decide);replace J:=J.setS q b2 (by decide);replace N:=N.setS q b2 (by decide);replace U:=U.setS q b2 (by decide);replace b0:=a0o q b0 (by omega);replace F:=a0o q F (by omega);replace e:=a0I q e (by omega);replace b2:=a0r q b2;clear q hsz
   simp [b2]
   exact fun _=>⟨s3,rfl,U⟩
  ·have q1:x.natAbs < y.natAbs:=by omega
   simp [q1]
   refine a0C ?_
   simp [S0O,b0,F]
   refine (m0Z J I (by have:=e.1;omega) (by omega) (a0X (by omega)) (by rw [n1,n2];omega) (b0Y (by omega))).mo ?_
   rintro z Z ⟨N,c⟩
   replace b0:=c.bk b0;replace F:=c.bk F;replace b2:=c.bk b2;replace e:=e.trans c;replace I:=I.mo c;replace J:=J.mo c
   rw [n1,n2] at N
   simp
   refine (c0j (x + y) N e.1 (by have:=a0 (y.natAbs - x.natAbs) (by omega);omega) ?_).mo ?_
   ·rw [a0q]
    by_cases M:x < 0
    ·have O:¬ y < 0:=by simpa [M] using L
     simp [O];omega
    ·have O:y < 0:=by simpa [M] using L
     simp [O];omega
   rintro _ Z ⟨⟨s3,rfl,U⟩,c⟩
   replace b0:=c.bk b0;replace F:=c.bk F;replace b2:=c.bk b2;replace e:=e.trans c;replace I:=I.mo c;replace J:=J.mo c;replace N:=N.mo c
   have hsz:=e.1
   simp [b2,U.cells,U.plain,hsz]
   generalize q:Array.setIfInBounds Z _ _=G5
   have hsz:=e.1;replace I:=I.setS q b2 (by decide);replace J:=J.setS q b2 (by decide);replace N:=N.setS q b2 (by decide);replace U:=U.setS q b2 (by decide);replace b0:=a0o q b0 (by omega);replace F:=a0o q F (by omega);replace e:=a0I q e (by omega);replace b2:=a0r q b2;clear q hsz
   simp [b2]
   exact fun _=>⟨s3,rfl,U⟩
theorem v0f (h:b0g H v i) (k:b0g H w j) (Z:fl<=H.size) (hn:i.2.length < 268435456) (hm:j.2.length < 268435456):a0O env fl B0v [v,w] H (fun r H'=>b0g H' r (a0g (a0s i - a0s j))/\Ext H H') R:=by
 have y:=h
 have z:=k
 have M:=k.ok
 obtain ⟨s,rfl,hs⟩:=h
 obtain ⟨u,rfl,hu⟩:=k
 refine a0i g1J Z (h:=?_)
 intro ρ U
 simp [M0L,E0K,U,hs.cells,hu.cells]
 generalize J:((H.push _).push _).push _=G
 have c:Ext H G:=by rw [<- J];exact (Ext.refl H).push.push.push
 have b0:a0f.bk G H.size=.row false a0a [.bool i.1,s]:=by rw [<- J];simp
 have F:a0f.bk G (H.size + 1)=.row false a0a [.bool j.1,u]:=by rw [<- J];simp
 have b2:a0f.bk G (H.size + 2)=.row false a0a [.bool false,.slice none 0 0]:=by rw [<- J];simp
 have e:=Ext.refl H
 clear J
 replace e:=e.trans c;replace y:=y.mo c;replace z:=z.mo c
 refine a0C ?_
 simp [E0L,b0,F]
 refine (j0i z (by have:=e.1;omega) (by omega)).mo ?_
 rintro x O ⟨N,c⟩
 replace b0:=c.bk b0;replace F:=c.bk F;replace b2:=c.bk b2;replace e:=e.trans c;replace y:=y.mo c;replace z:=z.mo c
 have L:(a0g (-a0s j)).2.length < 268435456:=by
  rw [s0S,Int.natAbs_neg];have:=a0x M;omega
 simp
 refine (f0i y N e.1 hn L).mo ?_
 rintro _ O ⟨⟨s3,rfl,I⟩,c⟩
 rw [a0h,<- m1D] at I ⊢
 replace b0:=c.bk b0;replace F:=c.bk F;replace b2:=c.bk b2;replace e:=e.trans c;replace y:=y.mo c;replace z:=z.mo c;replace N:=N.mo c
 have hsz:=e.1
 simp [b2,I.cells,I.plain,hsz]
 generalize q:Array.setIfInBounds O _ _=G5
 have hsz:=e.1;replace y:=y.setS q b2 (by decide);replace z:=z.setS q b2 (by decide);replace N:=N.setS q b2 (by decide);replace I:=I.setS q b2 (by decide);replace b0:=a0o q b0 (by omega);replace F:=a0o q F (by omega);replace e:=a0I q e (by omega);replace b2:=a0r q b2;clear q hsz
 simp [b2]
 exact fun _=>⟨s3,rfl,I⟩
theorem v0d (h:b0g H v i) (k:b0g H w j) (hf:fl<=H.size) (hn:i.2.length < 268435456) (hm:j.2.length < 268435456):a0O env fl b1p [v,w] H (fun r H'=>r=.int .i64 (c0L (a0s i) (a0s j))/\Ext H H') R:=by
 have U:=h
 have Z:=k
 obtain ⟨s,rfl,hs⟩:=h
 obtain ⟨u,rfl,hu⟩:=k
 refine a0i k1d hf (h:=?_)
 intro ρ h0
 simp [f1i,V0f,h0,hs.cells,hu.cells]
 generalize L:(H.push _).push _=G
 have c:Ext H G:=by rw [<- L];exact (Ext.refl H).push.push
 have b0:a0f.bk G H.size=.row false a0a [.bool i.1,s]:=by rw [<- L];simp
 have b1:a0f.bk G (H.size + 1)=.row false a0a [.bool j.1,u]:=by rw [<- L];simp
 have y:=Ext.refl H
 clear L
 replace y:=y.trans c;replace U:=U.mo c;replace Z:=Z.mo c
 simp [V0g,b0,b1]
 refine (v0f U Z y.1 hn hm).mo ?_
 rintro _ G2 ⟨⟨s3,rfl,F⟩,c⟩
 obtain ⟨z,hz⟩:∃ z,a0s i - a0s j=z:=⟨_,rfl⟩
 rw [hz] at F ⊢
 replace y:=y.trans c
 have hsz:=y.1
 simp [F.cells,F.plain,hsz]
 generalize hN:Array.setIfInBounds (Array.push _ _) _ _=G3
 obtain ⟨c,b2⟩:=new1 hN
 clear hN
 replace y:=y.trans c;replace F:=F.mo c
 have e:=F.slen
 have N:(a0g z).1=decide (z < 0):=rfl
 have O:(a0g z).2.length=(a0p z.natAbs).length:=rfl
 rw [N] at b2
 rw [O] at e
 unfold c0L
 by_cases M:z=0
 ·have I:a0s i=a0s j:=by omega
  subst M
  have hd:a0p (Int.natAbs 0)=[]:=a0Y
  simp [y0D,V0h,b2,e,hd,a0Y,I]
 ·have x:=b0Y (show 0 < z.natAbs by omega)
  have J:a0p z.natAbs ≠ []:=fun h=>by rw [h] at x;simp at x
  by_cases q:z < 0
  ·have I:a0s i < a0s j:=by omega
   simp [y0D,J0A,V0i,b2,e,J,q,I]
  ·have I:¬ a0s i < a0s j:=by omega
   have e2:a0s j < a0s i:=by omega
   simp [y0D,J0A,V0j,b2,e,J,q,I,e2]
theorem j0h (h:b0g H v i) (k:b0g H w j) (hf:fl<=H.size) (hn:i.2.length < 268435456) (hm:j.2.length < 268435456):a0O env fl Z0l [v,w] H (fun r H'=>b0g H' r (a0g (Int.gcd (a0s i) (a0s j)))/\Ext H H') R:=by
 have I:=h
 have J:=k
 have a5:=h.ok
 have a2:=k.ok
 obtain ⟨s,rfl,hs⟩:=h
 obtain ⟨u,rfl,hu⟩:=k
 refine a0i j1F hf (h:=?_)
 intro ρ h0
 simp [e1K,T0m,h0,hs.cells,hu.cells]
 generalize hG:((H.push _).push _).push _=G
 have e:Ext H G:=by rw [<- hG];exact (Ext.refl H).push.push.push
 have b0:a0f.bk G H.size=.row false a0a [.bool i.1,s]:=by rw [<- hG];simp
 have L:a0f.bk G (H.size + 1)=.row false a0a [.bool j.1,u]:=by rw [<- hG];simp
 have b2:a0f.bk G (H.size + 2)=.row false a0a [.bool false,.slice none 0 0]:=by rw [<- hG];simp
 have q:=Ext.refl H
 clear hG
 replace q:=q.trans e;replace I:=I.mo e;replace J:=J.mo e
 have l1:=a0x a5
 have l2:=a0x a2
 have a0:∀ x s:Value,O0e false 1 1 (.agg #[x,s])=some s:=fun _ _=>rfl
 refine a0C ?_
 simp [T0n,b0]
 refine (b0Q I (by have:=q.1;omega) (by omega)).mo ?_
 rintro _ G2 ⟨⟨s1,rfl,k2⟩,e⟩
 replace b0:=e.bk b0;replace L:=e.bk L;replace b2:=e.bk b2;replace q:=q.trans e;replace I:=I.mo e;replace J:=J.mo e
 simp [L,a0]
 refine (b0Q J q.1 (by omega)).mo ?_
 rintro _ G2 ⟨⟨s2,rfl,k3⟩,e⟩
 replace b0:=e.bk b0;replace L:=e.bk L;replace b2:=e.bk b2;replace q:=q.trans e;replace I:=I.mo e;replace J:=J.mo e;replace k2:=k2.mo e
 simp [a0]
 refine b0U (fun c t G=>∃ (a b:Nat) (O s6:Value),c=b/\t.length=28/\get t 4=.pointer (some ⟨H.size + 2,0,none⟩)/\get t 5=O/\get t 6=s6 /\
   Ext H G/\a0f.bk G (H.size + 2)=.row false a0a [.bool false,.slice none 0 0]/\Lim G O (a0p a)/\Lim G s6 (a0p b) /\
   (a0p a).length < 536870912/\(a0p b).length < 536870912/\Nat.gcd a b=Int.gcd (a0s i) (a0s j))
  (fun t G=>∃ (a:Nat) (O:Value),t.length=28/\get t 4=.pointer (some ⟨H.size + 2,0,none⟩)/\get t 5=O /\
   Ext H G/\a0f.bk G (H.size + 2)=.row false a0a [.bool false,.slice none 0 0]/\Lim G O (a0p a)/\(a0p a).length < 536870912/\a=Int.gcd (a0s i) (a0s j)) (a0s j).natAbs ?_ ?_ ?_
 ·exact ⟨(a0s i).natAbs,(a0s j).natAbs,s1,s2,rfl,by simp,by simp,by simp,by simp,q,b2,k2,k3,by omega,by omega,rfl⟩
 ·clear h0 ρ I J k2 k3 b0 L b2 q
  rintro c t G ⟨a,b,O,s6,rfl,ht,U,Z,g6,q,b2,F,k6,la,lb,hg⟩
  obtain ⟨ρ,rfl⟩:=toT ht
  simp only [b0T,Nat.reduceLT] at U Z g6
  by_cases hb:c=0
  ·subst hb
   have hd:=a0Y
   have N:=k6.slen
   rw [hd] at N
   simp at N
   simp [J0b,g6,N]
   have a3:a=Int.gcd (a0s i) (a0s j):=by simpa using hg
   rw [a3] at F la
   exact ⟨U,q,b2,by rw [Z];exact F,la⟩
  ·have z:=b0Y (show 0 < c by omega)
   have M:(0:Int) < ((a0p c).length:Int):=by omega
   have a4:a0p c ≠ []:=fun h=>by rw [h] at z;simp at z
   simp [J0b,T0o,Z,g6,k6.slen,z,M,a4]
   refine (i0P F k6 (by omega) q.1 la lb).mo ?_
   rintro _ G2 ⟨⟨x,y,rfl,k7,k8⟩,e⟩
   simp [T0p,T0q,g6]
   have a1:=l1T a (show c > 0 by omega)
   have a6:(a0p (a % c)).length<=(a0p c).length:=a0X (n1d a1)
   exact ⟨a % c,a1,U,q.trans e,e.bk b2,c,k6.mo e,k8,lb,by omega,by rw [Nat.gcd_comm,<- Nat.gcd_rec,Nat.gcd_comm];exact hg⟩
 ·clear h0 ρ I J k2 k3 b0 L b2 q
  rintro t G ⟨a,O,ht,U,Z,q,b2,F,la,rfl⟩
  obtain ⟨ρ,rfl⟩:=toT ht
  simp only [b0T,Nat.reduceLT] at U Z
  simp [T0r,Z]
  refine (c0j ((Int.gcd (a0s i) (a0s j):Nat):Int) F q.1 (by omega) (by simp [a0q])).mo ?_
  rintro _ G2 ⟨⟨s3,rfl,F⟩,e⟩
  replace b2:=e.bk b2;replace q:=q.trans e
  have hsz:=q.1
  simp [U,b2,F.cells,F.plain,hsz]
  generalize hS:Array.setIfInBounds G2 _ _=G5
  have hsz:=q.1;replace F:=F.setS hS b2 (by decide);replace q:=a0I hS q (by omega);replace b2:=a0r hS b2;clear hS hsz
  simp [b2]
  exact fun _=>⟨s3,rfl,F⟩
end
section
variable {fl:Nat} {H G:a0f} {R:a0D} {v w:Value}
theorem f0e {n:Int} (M:fl<=H.size) (Z:-9223372036854775808<=n) (h2:n < 9223372036854775808):a0O env fl K0I [.int .i64 n] H (fun r H'=>b0g H' r (a0g n)/\Ext H H') R:=by
 refine a0i i1O M (h:=?_)
 intro ρ y
 have J:0<=n->IntKind.u64.wrap n=((n.natAbs:Nat):Int):=fun _=>by rw [a0z];omega
 have e2:n < 0->IntKind.u64.wrap (-IntKind.u64.wrap n)=((n.natAbs:Nat):Int):=fun _=>by rw [a0z,a0z];omega
 obtain ⟨m,N⟩:∃ m,n.natAbs=m:=⟨_,rfl⟩
 rw [N] at J e2
 have O:m < 18446744073709551616:=by omega
 simp [d1T,P0q,y]
 generalize q:H.push _=G
 obtain ⟨c,b0⟩:=g0e q
 have e:=Ext.refl H
 clear q
 replace e:=e.trans c
 have q1:IntKind.u32.wrap ((m:Int))=((m % 4294967296:Nat):Int):=by rw [f0q];omega
 have L:IntKind.u32.wrap (((m / 4294967296:Nat):Int))=((m / 4294967296:Nat):Int):=by rw [f0q];omega
 have q3:d0p 0 .shr (.int .u64 (m:Int)) (.int .u64 32)=some (.int .u64 ((m / 2 ^ 32:Nat):Int)):=Y0u (s:=32) (by omega)
 have U:m / 2 ^ 32=m / 4294967296:=rfl
 rw [U] at q3
 by_cases F:n < 0
 ·simp [-Int.natCast_emod,-Int.natCast_ediv,I0l,I0m,P0r,I0n,y,F,e2 F,q1,L,q3]
  generalize q:G.push _=G1
  obtain ⟨c,u⟩:=g0e q
  clear q
  replace b0:=c.bk b0;replace e:=e.trans c
  have z:Lim G1 (.slice (some ⟨Array.size G,0,none⟩) 2 2) [m % 4294967296,m / 4294967296]:=by
   refine ⟨(Own.mk (fl:=0) (n:=2) (sz:=1) (cs:=c0e [m % 4294967296,m / 4294967296]) ?_ rfl (l1D _)).sl,?_⟩
   ·rw [u];rfl
   ·intro x e;simp at e;omega
  refine (c0j n z e.1 (by simp) ?_).mo ?_
  ·have:a0y [m % 4294967296,m / 4294967296]=m:=by simp [a0y];omega
   rw [this]
   simp;omega
  rintro _ v ⟨⟨I,rfl,j⟩,c⟩
  replace b0:=c.bk b0;replace u:=c.bk u;replace e:=e.trans c
  have hsz:=e.1
  simp [b0,j.cells,j.plain,hsz]
  generalize k:Array.setIfInBounds v _ _=G5
  have hsz:=e.1;replace j:=j.setS k b0 (by decide);replace e:=a0I k e (by omega);replace b0:=a0r k b0;clear k hsz
  simp [b0]
  exact fun _=>⟨I,rfl,j⟩
 ·simp [-Int.natCast_emod,-Int.natCast_ediv,I0l,I0m,I0n,y,F,J (by omega),q1,L,q3]
  generalize q:G.push _=G1
  obtain ⟨c,u⟩:=g0e q
  clear q
  replace b0:=c.bk b0;replace e:=e.trans c
  have z:Lim G1 (.slice (some ⟨Array.size G,0,none⟩) 2 2) [m % 4294967296,m / 4294967296]:=by
   refine ⟨(Own.mk (fl:=0) (n:=2) (sz:=1) (cs:=c0e [m % 4294967296,m / 4294967296]) ?_ rfl (l1D _)).sl,?_⟩
   ·rw [u];rfl
   ·intro x e;simp at e;omega
  refine (c0j n z e.1 (by simp) ?_).mo ?_
  ·have:a0y [m % 4294967296,m / 4294967296]=m:=by simp [a0y];omega
   rw [this]
   simp;omega
  rintro _ v ⟨⟨I,rfl,j⟩,c⟩
  replace b0:=c.bk b0;replace e:=e.trans c
  have hsz:=e.1
  simp [b0,j.cells,j.plain,hsz]
  generalize k:Array.setIfInBounds v _ _=G5
  have hsz:=e.1;replace j:=j.setS k b0 (by decide);replace e:=a0I k e (by omega);replace b0:=a0r k b0;clear k hsz
  simp [b0]
  exact fun _=>⟨I,rfl,j⟩
theorem w0X:a0e 0=((false,[]),a0g 1):=by
 show (a0g 0,a0g 1)=_
 rw [e0p]
theorem e0A (v:fl<=H.size):a0O env fl X0h [] H (fun r H'=>b0L H' r (a0e 0)/\Ext H H') R:=by
 refine a0i j1A v (h:=?_)
 intro ρ u
 simp [e1F,S0T,S0U,u]
 generalize q:H.push _=G
 obtain ⟨e,b0⟩:=g0e q
 have c:=Ext.refl H
 clear q
 replace c:=c.trans e
 refine (f0e c.1 (by omega) (by omega)).mo ?_
 rintro _ s ⟨⟨x,rfl,j⟩,e⟩
 replace b0:=e.bk b0;replace c:=c.trans e
 have hsz:=c.1
 simp [b0,j.cells,j.plain,hsz,b0x]
 generalize k:Array.setIfInBounds s _ _=G5
 have hsz:=c.1;replace j:=j.setS k b0 (by decide);replace c:=a0I k c (by omega);replace b0:=a0r k b0;clear k hsz
 simp [b0]
 rw [w0X]
 exact fun _=>⟨.slice none 0 0,x,rfl,Lim.nil,j⟩
end
section
variable {fl:Nat} {H G:a0f} {R:a0D} {v w:Value} {a:b0b}
theorem k0u {n:Nat}:a0p n=[1] <-> n=1:=by
 constructor
 ·intro h
  have:=a0q n
  rw [h] at this
  simpa [a0y] using this.symm
 ·rintro rfl
  rw [e0s (by omega)]
  simp [a0Y]
theorem d1d {i:Bool × List Nat} (h:g0n i=true) (k:i.2 ≠ []) (e:b0u i.2):a0s i ≠ 0:=by
 intro j
 have c:=j0G e
 unfold f0h at c
 rw [h,j] at c
 simp [a0Y] at c
 exact k c
theorem i0O (h:b0L H v a) (hf:fl<=H.size) (hn:d0J a < 268435456):a0O env fl Z0q [v] H (fun r H'=>r=.bool (o0b a)/\Ext H H') R:=by
 have L:a.1.2.length < 268435456:=by unfold d0J at hn;omega
 have M:a.2.2.length < 268435456:=by unfold d0J at hn;omega
 obtain ⟨s,u,rfl,hs,hu⟩:=h
 obtain ⟨⟨p,I⟩,⟨q,J⟩⟩:=a
 simp only at hs hu L M
 have F:b0g H (.agg #[.bool p,s]) (p,I):=⟨s,rfl,hs⟩
 have x:b0g H (.agg #[.bool q,u]) (q,J):=⟨u,rfl,hu⟩
 refine a0i k1i hf (h:=?_)
 intro ρ h0
 simp [f1m,V0K,h0]
 generalize hG:H.push _=G
 obtain ⟨c,b0⟩:=g0e hG
 have e:=Ext.refl H
 clear hG
 replace hs:=hs.mo c
 replace hu:=hu.mo c
 replace e:=e.trans c;replace F:=F.mo c;replace x:=x.mo c
 have a2:=hs.slen
 have U:=hu.slen
 by_cases hc:J=[]/\q=false
 ·obtain ⟨rfl,rfl⟩:=hc
  have hm:o0b ((p,I),(false,[]))=(!p && I.length == 0):=by
   unfold o0b d0T
   have:a0s (false,([]:List Nat))=0:=by simp [a0s,a0y,g0n]
   rw [this]
   cases p <;> simp
  rw [hm]
  simp [y0G,b0,U]
  cases I with
  | nil=>cases p <;> simp [J0P,b0,a2]
  | cons y l =>
   have O:¬ ((l.length:Int) + 1=0):=by omega
   cases p <;> simp [J0P,b0,a2,O]
 ·have hm:o0b ((p,I),(q,J))=(g0n (p,I) && g0n (q,J) && !q && decide (Int.gcd (a0s (p,I)) (a0s (q,J))=1)):=by
   have hz:d0T ((p,I),(q,J))=false:=by
    unfold d0T
    cases J with
    | nil=>cases q with
     | true=>simp
     | false=>exact k1Q ⟨rfl,rfl⟩ hc
    | cons y l=>simp
   unfold o0b
   rw [hz,n1i]
   by_cases Z:g0n (q,J)=true/\q=false
   ·obtain ⟨Z,rfl⟩:=Z
    have hl:J ≠ []:=fun h=>hc ⟨h,rfl⟩
    have hv:=d1d (i:=(false,J)) Z hl hu.ok
    have a6:(a0s (false,J) != 0)=true:=bne_iff_ne.2 hv
    rw [Z,a6]
    cases g0n (p,I) <;> simp [BEq.beq]
   ·cases h2:g0n (q,J) <;> cases q <;> simp_all
  rw [hm]
  have a0:∀ (s:Value) (g:Nat) (G:a0f),Lim G s (a0p g)->(decide (((a0p g).length:Int)=1)=true->b0v G false 1 (adr 1 s 0)=some (.int .u32 ((a0p g).getD 0 0:Nat))):=fun s g G h hl=>h.load (by have:=of_decide_eq_true hl;omega) (Ext.refl _)
  cases J with
  | nil =>
   have a5:q=true:=by cases q with
    | true=>rfl
    | false=>exact k1Q ⟨rfl,rfl⟩ hc
   subst a5
   simp [y0G,J0Q,b0,U]
   refine (j0h F x e.1 L M).mo ?_
   rintro _ G2 ⟨⟨sg,rfl,j⟩,c⟩
   replace b0:=c.bk b0;replace e:=e.trans c;replace F:=F.mo c;replace x:=x.mo c
   have hsz:=e.1
   obtain ⟨g,hg⟩:∃ g,Int.gcd (a0s (p,I)) (a0s (true,[]))=g:=⟨_,rfl⟩
   rw [hg] at j ⊢
   simp [j.cells,j.plain,hsz]
   generalize hN:Array.setIfInBounds (Array.push _ _) _ _=G3
   obtain ⟨c,b2⟩:=new1 hN
   clear hN
   replace b0:=c.bk b0;replace e:=e.trans c;replace F:=F.mo c;replace x:=x.mo c
   replace j:Lim G3 sg (a0p g):=j.mo c
   simp [J0R,b0]
   refine (f0j F e.1 (k1P L (by omega))).mo ?_
   rintro _ G4 ⟨rfl,c⟩
   replace b0:=c.bk b0;replace b2:=c.bk b2;replace e:=e.trans c;replace F:=F.mo c;replace x:=x.mo c
   replace j:=j.mo c
   cases Z:g0n (p,I) with
   | false=>simp
   | true =>
   simp [b0]
   refine (f0j x e.1 (k1P M (by omega))).mo ?_
   rintro _ G5 ⟨rfl,c⟩
   replace b0:=c.bk b0;replace b2:=c.bk b2;replace e:=e.trans c;replace F:=F.mo c;replace x:=x.mo c
   replace j:=j.mo c
   have a4:g0n (true,([]:List Nat))=false:=rfl
   simp [a4]
  | cons y l =>
   have O:¬ ((l.length:Int) + 1=0):=by omega
   simp [y0G,J0Q,b0,U,O]
   refine (j0h F x e.1 L M).mo ?_
   rintro _ G2 ⟨⟨sg,rfl,j⟩,c⟩
   replace b0:=c.bk b0;replace e:=e.trans c;replace F:=F.mo c;replace x:=x.mo c
   have hsz:=e.1
   obtain ⟨g,hg⟩:∃ g,Int.gcd (a0s (p,I)) (a0s (q,y::l))=g:=⟨_,rfl⟩
   rw [hg] at j ⊢
   simp [j.cells,j.plain,hsz]
   generalize hN:Array.setIfInBounds (Array.push _ _) _ _=G3
   obtain ⟨c,b2⟩:=new1 hN
   clear hN
   replace b0:=c.bk b0;replace e:=e.trans c;replace F:=F.mo c;replace x:=x.mo c
   replace j:Lim G3 sg (a0p g):=j.mo c
   simp [J0R,b0]
   refine (f0j F e.1 (k1P L (by omega))).mo ?_
   rintro _ G4 ⟨rfl,c⟩
   replace b0:=c.bk b0;replace b2:=c.bk b2;replace e:=e.trans c;replace x:=x.mo c
   replace j:=j.mo c
   cases Z:g0n (p,I) with
   | false=>simp
   | true =>
   simp [b0]
   refine (f0j x e.1 (k1P M (by omega))).mo ?_
   rintro _ G5 ⟨rfl,c⟩
   replace b0:=c.bk b0;replace b2:=c.bk b2;replace e:=e.trans c
   replace j:=j.mo c
   cases h2:g0n (q,y :: l) with
   | false=>simp
   | true =>
   cases q with
   | true=>simp [b0]
   | false =>
   by_cases N:(a0p g).length=1
   ·obtain ⟨z,hz⟩:=List.length_eq_one_iff.1 N
    have a3:(g=1)=(z=1):=n1y ⟨fun h=>by have:=k0u.2 h;rw [hz] at this;simpa using this,fun h=>k0u.1 (by rw [hz,h])⟩
    have h3:=j.ia (show 0 < (a0p g).length by omega) (k:=.i64)
    have h4:=j.load (show 0 < (a0p g).length by omega) (Ext.refl _)
    rw [hz] at h4
    simp at h3 h4
    simp [b0,b2,j.slen,N,hz,h3,h4,a3]
    intro _
    rw [m1X,beq_iff_eq,l1k]
    omega
   ·have a1:¬ ((a0p g).length:Int)=1:=by omega
    have a0:¬ g=1:=fun h=>N (by rw [k0u.2 h];rfl)
    simp [b0,b2,j.slen,N,a1,a0]
theorem b0I (h:b0L H v a) (hf:fl<=H.size) (N:d0J a < 268435456):a0O env fl z0z [v] H (fun r H'=>b0L H' r (a0e (b0t a))/\Ext H H') R:=by
 have a0:a.1.2.length < 268435456:=by unfold d0J at N;omega
 have a1:a.2.2.length < 268435456:=by unfold d0J at N;omega
 have q:=h
 obtain ⟨s,u,rfl,hs,F⟩:=h
 refine a0i j1B hf (h:=?_)
 intro ρ h0
 simp [e1G,S0V,h0,hs.cells,F.cells]
 generalize M:(H.push _).push _=G
 have c:Ext H G:=by rw [<- M];exact (Ext.refl H).push.push
 have b0:a0f.bk G H.size=.row false a0b [.bool a.1.1,s,.bool a.2.1,u]:=by rw [<- M];simp
 have e:a0f.bk G (H.size + 1)=.row false a0b [.bool false,.slice none 0 0,.bool false,.slice none 0 0]:=by rw [<- M];simp
 have j:=Ext.refl H
 clear M
 replace j:=j.trans c;replace q:=q.mo c
 replace hs:=hs.mo c
 replace F:=F.mo c
 simp [S0W,b0]
 refine (i0O q j.1 N).mo ?_
 rintro _ G2 ⟨rfl,c⟩
 replace b0:=c.bk b0;replace e:=c.bk e;replace j:=j.trans c;replace q:=q.mo c
 replace hs:=hs.mo c
 replace F:=F.mo c
 have hsz:=j.1
 cases hm:o0b a with
 | false =>
  have hv:b0t a=0:=by
   unfold b0t
   rw [hm]
   split <;> rfl
  simp
  simp [J0a]
  refine (e0A j.1).mo ?_
  rintro _ G3 ⟨⟨L,u3,rfl,x,z⟩,c⟩
  replace b0:=c.bk b0;replace e:=c.bk e;replace j:=j.trans c;replace q:=q.mo c
  have hsz:=j.1
  simp [e,x.cells,x.plain,z.cells,z.plain,hsz]
  generalize k:Array.setIfInBounds G3 _ _=G5
  have hsz:=j.1;replace q:=q.setS k e (by decide);replace x:=x.setS k e (by decide);replace z:=z.setS k e (by decide);replace b0:=a0o k b0 (by omega);replace j:=a0I k j (by omega);replace e:=a0r k e;clear k hsz
  simp [e]
  rw [hv]
  exact fun _=>⟨L,u3,rfl,x,z⟩
 | true =>
  simp [b0,F.slen]
  refine ⟨fun I=>?_,fun O=>?_⟩
  ·have hv:b0t a=0:=by
    cases J:d0T a with
    | true=>unfold b0t;rw [J];rfl
    | false =>
     exfalso
     unfold o0b at hm
     rw [J] at hm
     simp at hm
     obtain ⟨⟨⟨⟨m1,Z⟩,m3⟩,m4⟩,m5⟩:=hm
     exact m4 (by unfold a0s;rw [I];simp [a0y])
   simp [J0a]
   refine (e0A j.1).mo ?_
   rintro _ G3 ⟨⟨L,u3,rfl,x,z⟩,c⟩
   replace b0:=c.bk b0;replace e:=c.bk e;replace j:=j.trans c;replace q:=q.mo c
   have hsz:=j.1
   simp [e,x.cells,x.plain,z.cells,z.plain,hsz]
   generalize k:Array.setIfInBounds G3 _ _=G5
   have hsz:=j.1;replace q:=q.setS k e (by decide);replace x:=x.setS k e (by decide);replace z:=z.setS k e (by decide);replace b0:=a0o k b0 (by omega);replace j:=a0I k j (by omega);replace e:=a0r k e;clear k hsz
   simp [e]
   rw [hv]
   exact fun _=>⟨L,u3,rfl,x,z⟩
  ·have J:d0T a=false:=by
    unfold d0T
    cases hl:a.2.2 with
    | nil=>exact k1Q hl O
    | cons y l=>simp
   have U:=l0a J hm
   unfold o0b at hm
   rw [J] at hm
   simp at hm
   obtain ⟨⟨⟨⟨m1,Z⟩,m3⟩,m4⟩,m5⟩:=hm
   rw [U]
   refine a0C ?_
   simp [S0X,b0]
   refine (c0j (a0s a.1) hs (by have:=j.1;omega) (by omega) (by unfold a0s;rw [m1];rfl)).mo ?_
   rintro _ G3 ⟨⟨L,rfl,x⟩,c⟩
   replace b0:=c.bk b0;replace e:=c.bk e;replace j:=j.trans c;replace q:=q.mo c
   replace F:=F.mo c
   simp [b0]
   refine (c0j (a0s a.2) F j.1 (by omega) (by unfold a0s;rw [Z,m3];rfl)).mo ?_
   rintro _ G4 ⟨⟨s4,rfl,z⟩,c⟩
   replace b0:=c.bk b0;replace e:=c.bk e;replace j:=j.trans c;replace q:=q.mo c;replace x:=x.mo c
   have hsz:=j.1
   simp [e,x.cells,x.plain,z.cells,z.plain,hsz,b0x]
   generalize k:Array.setIfInBounds G4 _ _=G5
   have hsz:=j.1;replace q:=q.setS k e (by decide);replace x:=x.setS k e (by decide);replace z:=z.setS k e (by decide);replace b0:=a0o k b0 (by omega);replace j:=a0I k j (by omega);replace e:=a0r k e;clear k hsz
   simp [e]
   exact fun _=>⟨L,s4,rfl,x,z⟩
end
section
variable {fl:Nat} {H G:a0f} {R:a0D} {v w:Value} {a b:b0b}
theorem o0D (h:b0L H v a) (k:b0L H w b) (hf:fl<=H.size) (hn:d0J a < 67108864) (hm:d0J b < 67108864):a0O env fl b1c [v,w] H (fun r H'=>r=.int .i64 (Y0U (b0t a) (b0t b))/\Ext H H') R:=by
 have z:=h
 have F:=k
 obtain ⟨s,u,rfl,hs,hu⟩:=h
 obtain ⟨s',u',rfl,L,M⟩:=k
 have z1:=b0W hs.ok hu.ok
 have z2:=b0W L.ok M.ok
 refine a0i j1x hf (h:=?_)
 intro ρ h0
 simp [e1C,S0E,h0,hs.cells,hu.cells,L.cells,M.cells]
 generalize U:(H.push _).push _=G
 have c:Ext H G:=by rw [<- U];exact (Ext.refl H).push.push
 have b0:a0f.bk G H.size=.row false a0b [.bool a.1.1,s,.bool a.2.1,u]:=by rw [<- U];simp
 have j:a0f.bk G (H.size + 1)=.row false a0b [.bool b.1.1,s',.bool b.2.1,u']:=by rw [<- U];simp
 have e:=Ext.refl H
 clear U
 replace e:=e.trans c;replace z:=z.mo c;replace F:=F.mo c
 simp [S0F,b0]
 refine (b0I z e.1 (by omega)).mo ?_
 rintro _ G2 ⟨⟨s1,u1,rfl,I,J⟩,c⟩
 replace b0:=c.bk b0;replace j:=c.bk j;replace e:=e.trans c;replace z:=z.mo c;replace F:=F.mo c
 have hsz:=e.1
 simp [b0,I.cells,I.plain,J.cells,J.plain,hsz]
 generalize q:Array.setIfInBounds G2 _ _=G3
 have hsz:=e.1;replace z:=z.setS q b0 (by decide);replace F:=F.setS q b0 (by decide);replace I:=I.setS q b0 (by decide);replace J:=J.setS q b0 (by decide);replace j:=a0o q j (by omega);replace e:=a0I q e (by omega);replace b0:=a0r q b0;clear q hsz
 simp [S0G,j]
 refine (b0I F e.1 (by omega)).mo ?_
 rintro _ G2 ⟨⟨s2,u2,rfl,N,O⟩,c⟩
 replace b0:=c.bk b0;replace j:=c.bk j;replace e:=e.trans c;replace z:=z.mo c;replace F:=F.mo c;replace I:=I.mo c;replace J:=J.mo c
 have hsz:=e.1
 simp [j,N.cells,N.plain,O.cells,O.plain,hsz]
 generalize q:Array.setIfInBounds G2 _ _=G4
 have hsz:=e.1;replace z:=z.setS q j (by decide);replace F:=F.setS q j (by decide);replace I:=I.setS q j (by decide);replace J:=J.setS q j (by decide);replace N:=N.setS q j (by decide);replace O:=O.setS q j (by decide);replace b0:=a0o q b0 (by omega);replace e:=a0I q e (by omega);replace j:=a0r q j;clear q hsz
 clear z F hs hu L M
 generalize b0t a=x at *
 generalize b0t b=y at *
 have x1:=d0B x
 have x2:=e0h x
 have y1:=d0B y
 have y2:=e0h y
 have c1:(a0e x).1.2.length=lz x.num:=a0j _
 have c2:(a0e x).2.2.length=lz x.den:=a0j _
 have c3:(a0e y).1.2.length=lz y.num:=a0j _
 have c4:(a0e y).2.2.length=lz y.den:=a0j _
 have i1:b0g G4 (.agg #[.bool (a0e x).1.1,s1]) (a0g x.num):=⟨s1,rfl,I⟩
 have i2:b0g G4 (.agg #[.bool (a0e x).2.1,u1]) (a0g x.den):=⟨u1,rfl,J⟩
 have i3:b0g G4 (.agg #[.bool (a0e y).1.1,s2]) (a0g y.num):=⟨s2,rfl,N⟩
 have i4:b0g G4 (.agg #[.bool (a0e y).2.1,u2]) (a0g y.den):=⟨u2,rfl,O⟩
 clear I J N O
 refine a0C ?_
 simp [S0H,b0,j]
 refine (c0J i1 i4 (by have:=e.1;omega) (by rw [a0j];omega) (by rw [a0j];omega)).mo ?_
 rintro m1 G5 ⟨Z,c⟩
 replace b0:=c.bk b0;replace j:=c.bk j;replace e:=e.trans c
 replace i2:=i2.mo c
 replace i3:=i3.mo c
 simp [b0,j]
 refine (c0J i3 i2 e.1 (by rw [a0j];omega) (by rw [a0j];omega)).mo ?_
 rintro m2 G6 ⟨j2,c⟩
 replace e:=e.trans c
 replace Z:=Z.mo c
 rw [a0h,a0h] at Z j2
 simp
 have q1:=c0h x.num y.den
 have q2:=c0h y.num x.den
 refine (v0d Z j2 e.1 (by rw [a0j];omega) (by rw [a0j];omega)).mo ?_
 rintro _ G7 ⟨rfl,c⟩
 rw [a0h,a0h,W0F]
 simp
