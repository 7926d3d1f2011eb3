/- Part 14 of the proof. -/
import Derived.Test.YtilekhkgobmolaaGreatChecked
import Derived.Test.YtilekhkgobmolaaGreatM12
set_option linter.unusedVariables false
set_option linter.unusedSimpArgs false
set_option linter.unusedSectionVars false
namespace Go.Proofs.YtilekhkgobmolaaGreat.AI
open Go
section
open SX
set_option maxHeartbeats 4000000
variable {fl:Nat} {H G:a0f} {R:a0D} {v w u z y:Value}
theorem s0X {rows:List (List b0b)} {e:c0b} {d:List c0f} {row:Int} (h:c0y rows e d row=true):∀ x ∈ d,i0K x=true:=by
 unfold c0y f0p at h
 simp only [k1L] at h
 have c:d0O (fun e=>!i0K e) d=false:=by simpa using h.1.1.1.1.1.2
 intro x j
 have:=List.any_eq_false.1 c x j
 simpa using this
theorem B0S {rows:List (List b0b)} {d:List c0f} {X:List b0b} (h:A0y rows d X=true) (s:∀ x ∈ d,i0K x=true):d0O (fun e=>decide (e.1 < 0)) d=false:=by
 unfold A0y at h
 simp only [k1L,l1k] at h
 refine List.any_eq_false.2 fun x k=>?_
 obtain ⟨i,hi,rfl⟩:=l1I.1 k
 have c:=l1a.1 h.2 (z0D X (rows[i]'(by omega)) d[i]) (l1I.2 ⟨i,by simp;omega,by rw [List.getElem_zipWith]⟩)
 unfold z0D at c
 simp only [id,k1L,l1k,m1k,decide_eq_false_iff_not] at c
 have j:=s _ k
 intro u
 have v:d[i].1 < 0:=by simpa using u
 refine c.2 ?_
 have hv:(g0f d[i]).1=d[i].1:=by
  unfold g0f
  rw [k1B j]
  split <;> rename_i q
  ·rw [q]
  ·rfl
 unfold u0r
 rw [hv]
 rw [k1y (show ¬ (0:Int) < d[i].1 by omega),k1B (show (0:Int) > d[i].1 by omega)]
 decide
theorem B0Y {rows:List (List b0b)} {e:c0b} {d xs:List c0f} {x k:List (Bool × List Nat)} (c:rows=[] ∨ c0y rows e d 0=true) (s:goB e x k=true) (u:A0y rows d (x.map b0y)=true) (v:xs.length=rows.length)
  (hs:∀ i (h:i < xs.length),o0N rows e d i (e.set.length + e.m.toNat) xs[i]):A0y rows xs ((goL e x k).map b0y)=true:=by
 obtain ⟨H,I,_,_⟩:=q0C s
 by_cases z:rows=[]
 ·subst z
  have:xs=[]:=k1U.1 (by simpa using v)
  subst this;rfl
 ·have q:=c.resolve_left z
  obtain ⟨G,_,_,_,j,_⟩:=u0o q
  have y:=s0X q
  have F:e.set.length + e.m.toNat=x.length + k.length:=by omega
  rw [F] at hs
  exact b1v s y (B0S u y) j u v hs
theorem s0I {l:List (Bool × List Nat)} {S:Nat} (h:∀ x ∈ l,szR (vQ x)<=S):Few S (l.map b0y):=fun y e=>by
 obtain ⟨x,c,rfl⟩:=l1r.1 e
 exact f0c (h x c)
theorem m0e {rows:List (List b0b)} {e:c0b} {d:List c0f} {x O:List (Bool × List Nat)} (ht:d0f H v rows) (he:i0T H w e) (hd:e0i H u d) (N:c0A H z x) (a5:c0A H y O) (hf:fl<=H.size) :
  a0O env fl f_5 [v,w,u,z,y] H (fun r H'=>r=.bool true/\Ext H H') R:=by
 have a0:=ht;have a7:=he
 obtain ⟨s,rfl,hs⟩:=ht
 obtain ⟨f,t,sG,sS,sP,rfl,hG,hS,c5,d6⟩:=he
 refine a0i e_5 hf (h:=?_)
 intro ρ h0
 simp [s_5,c1l,h0,hs.cells,hG.cells,hS.cells,c5]
 generalize c0:(H.push _).push _=G
 obtain ⟨F,b0,L⟩:=push2 c0
 clear c0
 simp [c1m,h0,b0,L]
 refine (s0c (a0.mo F) (a7.mo F) (hd.mo c0q F) F.1).mo ?_
 rintro _ G2 ⟨⟨c,rfl,c7⟩,j⟩
 replace b0:=j.bk b0
 replace L:=j.bk L
 replace F:=F.trans j
 cases c
 case true =>
  simp [t0D]
  refine (b0O F.1).mo ?_
  rintro _ G3 ⟨rfl,j⟩
  simp
 simp [h0,b0,L]
 refine (z0A (a0.mo F) (a7.mo F) F.1).mo ?_
 rintro _ G3 ⟨⟨c,rfl,c8⟩,j⟩
 replace b0:=j.bk b0
 replace L:=j.bk L
 replace F:=F.trans j
 cases c
 case false =>
  simp [t0D]
  refine (b0O F.1).mo ?_
  rintro _ G3 ⟨rfl,j⟩
  simp
 have a8:=(hs.mo d0u F).slen
 by_cases h6:6 < rows.length
 ·have a1:(6:Int) < (rows.length:Int):=by omega
  simp [h0,b0,L,a8,h6,a1,t0D]
  refine (b0O F.1).mo ?_
  rintro _ G3 ⟨rfl,j⟩
  simp
 have a1:¬ (6:Int) < (rows.length:Int):=by omega
 by_cases b9:10 < x.length
 ·have U:(10:Int) < (x.length:Int):=by omega
  simp [h0,b0,L,a8,h6,a1,N.slen,b9,U,t0D]
  refine (b0O F.1).mo ?_
  rintro _ G3 ⟨rfl,j⟩
  simp
 have U:¬ (10:Int) < (x.length:Int):=by omega
 by_cases c4:10 < O.length
 ·have a4:(10:Int) < (O.length:Int):=by omega
  simp [h0,b0,L,a8,h6,a1,N.slen,b9,U,a5.slen,c4,a4,t0D]
  refine (b0O F.1).mo ?_
  rintro _ G3 ⟨rfl,j⟩
  simp
 have a4:¬ (10:Int) < (O.length:Int):=by omega
 simp [h0,b0,L,a8,h6,a1,N.slen,b9,U,a5.slen,c4,a4]
 refine (f0f (N.mo b0s F) F.1 (by omega)).mo ?_
 rintro _ G4 ⟨⟨c,rfl,c9⟩,j⟩
 replace b0:=j.bk b0
 replace L:=j.bk L
 replace F:=F.trans j
 cases c
 case true =>
  simp [t0D]
  refine (b0O F.1).mo ?_
  rintro _ G3 ⟨rfl,j⟩
  simp
 simp [h0]
 refine (f0f (a5.mo b0s F) F.1 (by omega)).mo ?_
 rintro _ G5 ⟨⟨c,rfl,d0⟩,j⟩
 replace b0:=j.bk b0
 replace L:=j.bk L
 replace F:=F.trans j
 cases c
 case true =>
  simp [t0D]
  refine (b0O F.1).mo ?_
  rintro _ G3 ⟨rfl,j⟩
  simp
 have hF:=h1D a0 hd (c7 rfl) (c8 rfl)
 have a3:r0W x:=fun q J=>⟨c9 rfl q J,N.lim q J⟩
 have c1:r0W O:=fun q J=>⟨d0 rfl q J,a5.lim q J⟩
 simp [c1n,h0,L]
 refine (v0c (a7.mo F) (N.mo b0s F) (a5.mo b0s F) F.1 hF.ed a3 c1 (by omega) (by omega)).mo ?_
 rintro _ G6 ⟨⟨lg,b,rfl,c6,I⟩,j⟩
 replace b0:=j.bk b0
 replace L:=j.bk L
 replace F:=F.trans j
 clear j
 simp [c1o,h0,b0,L]
 refine (o0H (a0.mo F) (a7.mo F) (hd.mo c0q F) F.1 hF).mo ?_
 rintro _ G7 ⟨⟨l,c,xs,rfl,kl,M⟩,j⟩
 replace b0:=j.bk b0
 replace F:=F.trans j
 replace I:=fun h=>(I h).mo b0s j
 clear j L
 simp
 refine a0C ?_
 cases b
 case false =>
  simp [Y0m,M0m]
  refine (b0O F.1).mo ?_
  rintro _ G3 ⟨rfl,j⟩
  simp
 have hg:goB e x O=true:=c6.symm
 replace I:=I hg
 simp [Y0m]
 refine (j0F F.1).mo ?_
 rintro _ G8 ⟨rfl,j⟩
 replace b0:=j.bk b0
 replace kl:=kl.mo c0q j
 replace I:=I.mo b0s j
 replace F:=F.trans j
 clear j
 by_cases a2:c=0
 case neg =>
  simp [a2,M0m]
  refine (b0O F.1).mo ?_
  rintro _ G3 ⟨rfl,j⟩
  simp
 simp [a2,h0,b0]
 refine (t0N (N.mo b0s F) (by have:=F.1;omega) (by omega) (fun q J=>by have:=(a3 q J).1;omega)).mo ?_
 rintro vr G9 ⟨kr,j⟩
 replace b0:=j.bk b0
 replace kl:=kl.mo c0q j
 replace I:=I.mo b0s j
 replace F:=F.trans j
 clear j
 have a9:∀ r ∈ rows,Few 300 r:=fun r hr q J=>by
  obtain ⟨h1,h2⟩:=(hF.r r hr).1 q J
  exact ⟨by omega,h2⟩
 have b4:∀ n:Nat,n<=10->(n + 1) * (2 * 300 + 3) + 1 < 67108864:=fun n hn=>by
  have:(n + 1) * (2 * 300 + 3)<=11 * (2 * 300 + 3):=k1E _ (by omega)
  omega
 have fx:Few 300 (x.map b0y):=s0I fun q J=>by have:=r0W.sz (k:=40) (a3 q J).1 (a3 q J).2;omega
 simp
 refine (l0k (S:=300) (a0.mo F) (hd.mo c0q F) kr F.1 a9 fx (b4 _ (by rw [l1w];omega)) (by have:=hF.rl;omega) hF.fe).mo ?_
 rintro _ d2 ⟨rfl,j⟩
 replace b0:=j.bk b0
 replace kl:=kl.mo c0q j
 replace I:=I.mo b0s j
 replace F:=F.trans j
 clear j kr
 cases hh:A0y rows d (x.map b0y)
 case false =>
  simp [a2,M0m]
  refine (b0O F.1).mo ?_
  rintro _ G3 ⟨rfl,j⟩
  simp
 have c3:rows=[] ∨ c0y rows e d 0=true:=by
  by_cases h:rows=[] ∨ c0y rows e d 0=true
  ·exact h
  ·rw [k1y h] at M;rw [M.1] at a2;exact k1Q a2 (by decide)
 rw [k1B c3] at M
 obtain ⟨_,d1,b5⟩:=M
 have b8:=B0Y c3 hg hh d1 (fun i h=>(b5 i h).1)
 have c2:∀ q ∈ goL e x O,∃ Z:Int,q=a0g Z/\lz Z<=200:=fun q J=>by
  unfold goL at J
  obtain ⟨a,ha,rfl⟩:=l1r.1 J
  have a6:=hF.ed.set a ha
  refine ⟨_,rfl,?_⟩
  have hK:=m0J a6.2.2.2
  have d5:=a6.2.2.1
  have h1:=u0N (f:=vX a x) (K:=80) (n:=x.length) (fun i _=>g0k a6.1 a3 i)
  have h2:=h0s (a0s a.K) (sm (vX a x) x.length)
  have h3:=u0N (f:=vW a O) (K:=80) (n:=O.length) (fun i _=>g0k a6.2.1 c1 i)
  have h4:=h0s (a0s a.K + sm (vX a x) x.length) (sm (vW a O) O.length)
  show lz (a0s a.K + sm (vX a x) x.length + sm (vW a O) O.length)<=200
  omega
 have d7:(goL e x O).length<=10:=by
  have:=hF.ed.ns
  unfold goL;rw [l1w];omega
 simp
 refine a0C ?_
 simp [c1p,b0]
 refine (t0N I (by have:=F.1;omega) (by omega) (fun q J=>by obtain ⟨Z,rfl,h⟩:=c2 q J;show lz Z < 268435456;omega)).mo ?_
 rintro vr d3 ⟨kr,j⟩
 replace kl:=kl.mo c0q j
 replace F:=F.trans j
 clear j
 have fg:Few 300 ((goL e x O).map b0y):=s0I fun q J=>by
  obtain ⟨Z,rfl,h⟩:=c2 q J
  show szR ((a0s (a0g Z):Int):Rat)<=300
  rw [n0R,a0h];omega
 simp
 refine (l0k (S:=300) (a0.mo F) kl kr F.1 a9 fg (b4 _ (by rw [l1w];omega)) (by have:=hF.rl;omega) (fun q J=>by obtain ⟨i,hi,rfl⟩:=l1I.1 J;have:=(b5 i hi).2;omega)).mo ?_
 rintro _ d4 ⟨rfl,j⟩
 replace F:=F.trans j
 simp [b8]
 refine (b0O F.1).mo ?_
 rintro _ G3 ⟨rfl,j⟩
 simp
end
section
variable {H:a0f} {v:Value} {m:Nat} {cs:List Value} {P:Program}
structure i0V (P:Program):Prop where
 t:j0u P
 u64:∃ f g h:Field,P.underlying 64=some (.struct #[f,g,h])/\f.type=54/\g.type=54/\h.type=38
 u54:P.underlying 54=some (.slice 38)
 u25:P.underlying 25=some (.slice 64)
 u26:P.underlying 26=some (.slice 4)
 u28:∃ a b c d e f:Field,P.underlying 28=some (.struct #[a,b,c,d,e,f])/\a.type=3/\b.type=3/\c.type=3/\d.type=25/\e.type=25/\f.type=26
 u21:P.underlying 21=some (.int .i32)
 u61:P.underlying 61=some (.int .i16)
 c38:P.cellsOf 38=2
 c64:P.cellsOf 64=4
theorem B0W (c:i0V P) (h:IsT P H (m + 4) 54 [v]):∃ l,c0A H v l:=z0F c.u54 c.c38 (fun cs _ h=>by
 obtain ⟨b,s,l,rfl,e⟩:=L0F c.t h
 exact ⟨(b,l),s,rfl,e⟩) h
theorem m0E {t e:TypeId} (c:P.underlying t=some (.slice e)) (h:IsT P H (m + 1) t cs):∃ v,cs=[v]/\a0W v=[v]/\a0v v=true:=by
 unfold IsT at h
 rw [c] at h
 rcases h with h | ⟨b,len,cap,cells,h,_⟩ <;> exact ⟨_,h,rfl,rfl⟩
theorem h1J (e:i0V P) (h:IsT P H (m + 5) 64 cs):∃ a,A0A H (.agg cs.toArray) a:=by
 obtain ⟨f,g,k,I,v,x,y⟩:=e.u64
 unfold IsT at h
 rw [I] at h
 obtain ⟨c,rfl,G,hp⟩:=h
 obtain ⟨p,q,r,rfl⟩:∃ p q r,c=[p,q,r]:=by
  match c,G with
  | [p,q,r],_=>exact ⟨p,q,r,rfl⟩
 have j:IsT P H (m + 4) 54 p:=by simpa [v] using hp 0 _ rfl
 have u:IsT P H (m + 4) 54 q:=by simpa [x] using hp 1 _ rfl
 obtain ⟨L,rfl,_⟩:=m0E e.u54 j
 obtain ⟨J,rfl,_⟩:=m0E e.u54 u
 obtain ⟨X,F⟩:=B0W e j
 obtain ⟨W,z⟩:=B0W e u
 obtain ⟨b,s,l,rfl,hs⟩:=L0F (m:=m + 1) e.t (by simpa [y] using hp 2 _ rfl)
 exact ⟨⟨X,W,(b,l)⟩,L,J,s,rfl,F,z,hs⟩
theorem O0f (c:i0V P) (h:IsT P H (m + 6) 25 [v]):∃ l,g0g H v l:=z0F c.u25 c.c64 (fun _ _ h=>h1J c h) h
theorem W0y (k:i0V P) (h:IsV P H (m + 7) 28 v):∃ e,i0T H v e:=by
 obtain ⟨a,b,c,d,e,f,N,h1,h2,h3,h4,h5,h6⟩:=k.u28
 unfold IsV at h;rw [N] at h
 obtain ⟨cs,rfl,h⟩:=h
 unfold IsT at h
 rw [N] at h
 obtain ⟨j,hc,hl,hp⟩:=h
 obtain ⟨z,F,I,u,x,y,rfl⟩:∃ z F I u x y,j=[z,F,I,u,x,y]:=by
  match j,hl with
  | [z,F,I,u,x,y],_=>exact ⟨z,F,I,u,x,y,rfl⟩
 obtain ⟨n1,rfl⟩:=q0D (m:=m + 5) k.t (by simpa [h1] using hp 0 _ rfl)
 obtain ⟨O,rfl⟩:=q0D (m:=m + 5) k.t (by simpa [h2] using hp 1 _ rfl)
 obtain ⟨R,rfl⟩:=q0D (m:=m + 5) k.t (by simpa [h3] using hp 2 _ rfl)
 have q:IsT P H (m + 6) 25 u:=by simpa [h4] using hp 3 _ rfl
 have s:IsT P H (m + 6) 25 x:=by simpa [h5] using hp 4 _ rfl
 have J:IsT P H (m + 6) 26 y:=by simpa [h6] using hp 5 _ rfl
 obtain ⟨U,rfl,_⟩:=m0E k.u25 q
 obtain ⟨sS,rfl,_⟩:=m0E k.u25 s
 obtain ⟨Z,rfl,L,M⟩:=m0E k.u26 J
 obtain ⟨G,hG⟩:=O0f k q
 obtain ⟨S,hS⟩:=O0f k s
 have:cs = #[.int .i64 n1,.int .i64 O,.int .i64 R,U,sS,Z]:=by rw [<- Array.toList_inj];simpa using hc
 exact ⟨⟨R,G,S⟩,n1,O,U,sS,Z,by rw [this],hG,hS,L,M⟩
theorem A0W (c:i0V P) (h:IsV P H (m + 4) 54 v):∃ l,c0A H v l:=by
 unfold IsV at h;rw [c.u54] at h;exact B0W c h
theorem s0N (c:i0V P) {vs:List Value} (h:K0L P H 12 [24,28,29,54,54] vs):∃ u v w x y rows e d a b,vs=[u,v,w,x,y]/\d0f H u rows/\i0T H v e/\e0i H w d/\c0A H x a/\c0A H y b:=by
 match vs,h with
 | [u,v,w,x,y],⟨h1,h2,h3,h4,h5,_⟩ =>
  obtain ⟨t,s⟩:=L0c (m:=5) c.t h1
  obtain ⟨e,q⟩:=W0y (m:=5) c h2
  obtain ⟨d,k⟩:=W0z (m:=6) c.t h3
  obtain ⟨a,j⟩:=A0W (m:=8) c h4
  obtain ⟨b,hb⟩:=A0W (m:=8) c h5
  exact ⟨u,v,w,x,y,t,e,d,a,b,rfl,s,q,k,j,hb⟩
theorem Y0I:i0V Tryz.prog where
 t:=types
 u64:=⟨_,_,_,Tryz.underlying64,rfl,rfl,rfl⟩
 u54:=Tryz.underlying54
 u25:=Tryz.underlying25
 u26:=by kernel_rfl
 u28:=⟨_,_,_,_,_,_,Tryz.underlying28,rfl,rfl,rfl,rfl,rfl,rfl⟩
 u21:=by kernel_rfl
 u61:=by kernel_rfl
 c38:=by kernel_rfl
 c64:=by kernel_rfl
end
section
def q0 (tL tS tA tI tB:Nat) (zA:List Value):List a0J :=
 [⟨some 2,none,.box tL (.tmp 0)⟩,⟨some 3,none,.box tS (.tmp 1)⟩,⟨some 4,none,.alloc tA zA⟩,⟨some 5,none,.alloc tI [.int .i64 0]⟩,⟨some 6,none,.alloc tB [.bool false]⟩]
def q1 (fD:FuncId):List a0J:=[⟨some 7,none,.mkfn (.func fD) [] [.tmp 4,.tmp 5,.tmp 6]⟩]
def q2a (nL nS:Nat):List a0J:=[⟨some 9,none,.build [] []⟩,⟨some 10,none,.load true nL (.tmp 2)⟩,⟨some 11,none,.load true nS (.tmp 3)⟩]
def q2b (nA:Nat):List a0J:=[⟨some 8,none,.mv (.tmp 12)⟩,⟨some 13,none,.ext (.tmp 8) 0⟩,⟨some 14,none,.ext (.tmp 8) 1⟩,⟨none,none,.store nA (.tmp 4) (.tmp 13)⟩,⟨none,none,.store 1 (.tmp 5) (.tmp 14)⟩]
def q2c (fS:FuncId):a0J:=⟨some 12,none,.call fS [.tmp 9,.tmp 10,.tmp 11] true⟩
def q3 (nA:Nat):List a0J:=[⟨some 15,none,.load true nA (.tmp 4)⟩,⟨some 16,none,.load false 1 (.tmp 5)⟩,⟨none,none,.store nA (.tmp 4) (.tmp 15)⟩,⟨none,none,.store 1 (.tmp 5) (.tmp 16)⟩,⟨none,none,.store 1 (.tmp 6) (.const (.bool true))⟩]
def qB (nA:Nat) (zA:List Value):List a0J:=[⟨some 5,none,.build zA []⟩,⟨none,none,.store nA (.tmp 0) (.tmp 5)⟩,⟨none,none,.store 1 (.tmp 1) (.const (.int .i64 0))⟩,⟨none,none,.store 1 (.tmp 2) (.const (.bool false))⟩]
structure QF (P:Program) where
 (fQ fD fS:FuncId) (fn fnD:Func) (tL tS tA tI tB:Nat) (zA:List Value) (nL nS:Nat)
 (ops0 ops1 ops2 ops3 opsA opsB:Array Oper) (i0 i1 i2 i3 iA iB:Nat)
 (o1 o2 o3 oA1 oA2:Oper) (bef:List Nat)
 (hfn:P.funcs[fQ]? = some fn)
 (hrun:A0z P fQ=true)
 (body:fn.body=some (.seq (.region i0 ops0 false) (.seq (.region i1 ops1 false) (.seq (.region i2 ops2 false) (.seq (.region i3 ops3 true) .ret)))))
 (np:fn.params.size=2)
 (nt:fn.ntmps=17)
 (res:fn.results.toList.mapM (a1r P)=some [.cell 4 true zA.length,.cell 5 false 1,.cell 6 false 1])
 (c0:e0n P (.region i0 ops0 false)=some (.reg (q0 tL tS tA tI tB zA)))
 (h1:ops1 = #[o1,o2])
 (o1c:g0V P ops1 true o1=some ⟨some 7,none,.mkfn (.func fD) [] [.tmp 4,.tmp 5,.tmp 6]⟩)
 (o2g:o2.guard=none) (o2d:o2.dst=none) (o2o:o2.op=.defer { callee:=.value (.tmp 7),args:=#[],argTypes:=#[] })
 (c2:e0n P (.region i2 ops2 false)=some (.reg (q2a nL nS ++ q2c fS :: q2b zA.length)))
 (o3i:ops2[3]? = some o3) (o3g:o3.guard=none) (o3d:o3.dst=some 12) (ats:Array TypeId)
 (o3o:o3.op=.call { callee:=.value (.func fS),args:=#[.tmp 9,.tmp 10,.tmp 11],argTypes:=ats })
 (c3:e0n P (.region i3 ops3 true)=some (.draw (q3 zA.length) bef [(1,2)]))
 (nz:zA.length ≠ 0) (zf:zA.all flat=true) (zp:zA.all a0v=true)
 (hfnD:P.funcs[fD]? = some fnD) (runD:A0z P fD=true)
 (bodyD:fnD.body=some (.seq (.region iA opsA false) (.cond (.tmp 4) (.region iB opsB false) .skip)))
 (ntD:fnD.ntmps=6) (resD:fnD.results = #[])
 (hA:opsA = #[oA1,oA2])
 (oA1g:oA1.guard=none) (oA1d:oA1.dst=some 3) (oA1o:oA1.op=.call { callee:=.builtin .recover,args:=#[],argTypes:=#[] })
 (oA2g:oA2.guard=none) (oA2d:oA2.dst=some 4)
 (oA2f:∀ (ρ:Operand->Value) (w:World),ρ (.tmp 3)=.nilIface->ρ (.const .nilIface)=.nilIface->(execOp ρ oA2).run P w=.ok (.value (.bool false)) w)
 (oA2t:∀ (ρ:Operand->Value) (w:World) (ty:TypeId) (u:Value),ρ (.tmp 3)=.iface ty u->ρ (.const .nilIface)=.nilIface->(execOp ρ oA2).run P w=.ok (.value (.bool true)) w)
 (blB:opsB.toList.all (k0t 3)=true)
 (cB:e0n P (.region iB opsB false)=some (.reg (qB zA.length zA)))
variable {X:Cx} {call:Nat->FuncId->List Value->a0f->Res (Value × a0f)} {φ:Inj} {H H':a0f} {w:World} {fl:Nat}
def hp5 (F:QF X.P) (p s:Array Value) (H:a0f):a0f :=
 ((((H.push (.row false F.tL p.toList)).push (.row false F.tS s.toList)).push (.row false F.tA F.zA)).push (.row false F.tI [.int .i64 0])).push (.row false F.tB [.bool false])
def pt (n:Nat):Value:=.pointer (some ⟨n,0,none⟩)
def un (k:Nat):List Value:=List.replicate k undef
def tm5 (p s:Array Value) (n:Nat):b0c:=[.agg p,.agg s,pt n,pt (n + 1),pt (n + 2),pt (n + 3),pt (n + 4)] ++ un 10
def tm7 (fD:FuncId) (p s:Array Value) (n:Nat):b0c:=[.agg p,.agg s,pt n,pt (n + 1),pt (n + 2),pt (n + 3),pt (n + 4),.func (.func fD) #[] #[pt (n + 2),pt (n + 3),pt (n + 4)]] ++ un 9
def t0Y (fD:FuncId) (p s:Array Value) (n:Nat):b0c:=[.agg p,.agg s,pt n,pt (n + 1),pt (n + 2),pt (n + 3),pt (n + 4),.func (.func fD) #[] #[pt (n + 2),pt (n + 3),pt (n + 4)],undef,.agg #[],.agg p,.agg s] ++ un 5
theorem x0j (F:QF X.P) (p s:Array Value):(hp5 F p s H).size=H.size + 5:=by simp [hp5]
theorem k0z (F:QF X.P) (p s:Array Value) (k:Nat) (c:k < 5):(hp5 F p s H).bk (H.size + k)=[Blk.row false F.tL p.toList,.row false F.tS s.toList,.row false F.tA F.zA,.row false F.tI [.int .i64 0],.row false F.tB [.bool false]].getD k .dead:=by
 simp only [hp5,a0L,l1X]
 match k,c with
 | 0,_=>rw [k1y (by omega),k1y (by omega),k1y (by omega),k1y (by omega),k1B (by omega)];rfl
 | 1,_=>simp
 | 2,_=>simp
 | 3,_=>simp
 | 4,_=>simp
theorem i1r (F:QF X.P) (p s:Array Value):b0h call H.size 1 (.reg (q0 F.tL F.tS F.tA F.tI F.tB F.zA)) ([.agg p,.agg s] ++ un 15) H=.fin .normal (tm5 p s H.size) (hp5 F p s H):=by
 simp [b0h,q0,f0s,b0k,b0E,opA,ev,get,put,un,tm5,hp5,pt,a0W,List.replicate]
theorem k1n (p s:Array Value) {c:FuncId} {n:Nat} {G:a0f}:f0s call fl (q1 c) (tm5 p s n) G=.fin .normal (tm7 c p s n) G:=by
 simp [q1,f0s,b0k,b0E,opA,ev,get,put,un,tm5,tm7,pt,List.replicate]
theorem k1o (F:QF X.P) {p s:Array Value} (hp:p.size=F.nL) (hs:s.size=F.nS) (k:F.nL ≠ 0) (q:F.nS ≠ 0) :
  f0s call fl (q2a F.nL F.nS) (tm7 F.fD p s H.size) (hp5 F p s H)=.fin .normal (t0Y F.fD p s H.size) (hp5 F p s H):=by
 have b0:=k0z (H:=H) F p s 0 (by omega)
 have e:=k0z (H:=H) F p s 1 (by omega)
 simp only [l1A,List.getD_cons_zero,List.getD_cons_succ] at b0 e
 have h:b0v (hp5 F p s H) true F.nL (pt H.size)=some (.agg p):=by
  have c:a0f.cells? (hp5 F p s H) H.size 0 F.nL=some p.toList:=by
   unfold a0f.cells?;rw [b0];simp only [l1e,l1F];rw [k1B (by simp [hp]),k1J (by simp [hp])]
  simp [b0v,pt,k,c]
 have j:b0v (hp5 F p s H) true F.nS (pt (H.size + 1))=some (.agg s):=by
  have c:a0f.cells? (hp5 F p s H) (H.size + 1) 0 F.nS=some s.toList:=by
   unfold a0f.cells?;rw [e];simp only [l1e,l1F];rw [k1B (by simp [hs]),k1J (by simp [hs])]
  simp [b0v,pt,q,c]
 simp [q2a,f0s,b0k,b0E,opA,ev,get,put,un,tm7,t0Y,List.replicate,h,j,b0H,g0X,b0D]
def g0M (F:QF X.P) (G:a0f):a0f:=((((G.push .dead).push .dead).push (.row false F.tA F.zA)).push (.row false F.tI [.int .i64 0])).push (.row false F.tB [.bool false])
structure d1e (X:Cx) (F:QF X.P) (φ:Inj) (H:a0f) (w w1:World) (B o:Nat->Nat):Prop where
 lo:∀ k,k < 5->w.heap.size<=B k
 hi:∀ k,k < 5->B k < w1.heap.size
 ne:∀ j k,j < 5->k < 5->j ≠ k->B j ≠ B k
 base:∀ k,k < 5->X.base<=B k
 rA:∃ c,w1.heap[B 2]? = some (.cells c F.tA (0,0))/\o 2 + F.zA.length<=c.size/\∀ φ S,CR X φ S F.zA ((c.toList.drop (o 2)).take F.zA.length)
 rI:∃ c,w1.heap[B 3]? = some (.cells c F.tI (0,0))/\o 3 + 1<=c.size/\∀ φ S,CR X φ S [.int .i64 0] ((c.toList.drop (o 3)).take 1)
 rB:∃ c,w1.heap[B 4]? = some (.cells c F.tB (0,0))/\o 4 + 1<=c.size/\∀ φ S,CR X φ S [.bool false] ((c.toList.drop (o 4)).take 1)
theorem L0B {φ φ':Inj} {S S':Shp} {v u:Value} (c:flat v=true) (h:VR X φ S v u):VR X φ' S' v u:=by
 have:u=v:=by
  cases h <;> simp [flat] at c <;> try rfl
  ·rename_i f a b e j q x s y
   cases f <;> simp [flat] at c
   obtain ⟨rfl,rfl⟩:=c
   have k:e = #[]:=by simpa using q.symm
   have e2:j = #[]:=by simpa using s.symm
   rw [k,e2]
 rw [this];exact q0B c
theorem s0K {φ φ':Inj} {S S':Shp} {l m:List Value} (c:l.all flat=true) (h:CR X φ S l m):CR X φ' S' l m :=
 ⟨h.1,fun i hi=>L0B (by
  have:=l1a.1 c (l.getD i undef) (by rw [k1v,k1A hi];exact k1D hi)
  exact this) (h.2 i hi)⟩
theorem b1L (F:QF X.P) {p s:Array Value} {G:Inj} {L:World} (hR:Rel X φ H w) (y:d0v X H.size φ H w G (hp5 F p s H) L) {B o:Nat->Nat} (v:∀ k,k < 5->G (H.size + k)=some (B k,o k)) :
  d1e X F φ H w L B o:=by
 have z:∀ k,φ (H.size + k)=none:=fun k=>by
  cases h:φ (H.size + k) with
  | none=>rfl
  | some x=>have:=hR.lt _ _ h;omega
 have u:∀ k,k < 5->∃ e cs,(hp5 F p s H).bk (H.size + k)=.row false e cs:=fun k q=>by
  rw [k0z F p s k q]
  match k,q with
  | 0,_=>exact ⟨_,_,rfl⟩
  | 1,_=>exact ⟨_,_,rfl⟩
  | 2,_=>exact ⟨_,_,rfl⟩
  | 3,_=>exact ⟨_,_,rfl⟩
  | 4,_=>exact ⟨_,_,rfl⟩
 have rows:∀ k e cs,k < 5->(hp5 F p s H).bk (H.size + k)=.row false e cs->cs.all flat=true->∃ c,L.heap[B k]? = some (.cells c e (0,0))/\o k + cs.length<=c.size/\∀ φ S,CR X φ S cs ((c.toList.drop (o k)).take cs.length):=by
  intro k e cs q hb hf
  obtain ⟨c,Z,fz,M,N,O,I,_⟩:=y.rel.row _ _ _ _ _ _ (v k q) hb
  obtain ⟨_,rfl,rfl⟩:=I rfl
  exact ⟨c,M,N,fun φ' S'=>s0K hf O⟩
 refine ⟨fun k q=>y.own_new hR (v k q) (z k),fun k q=>?_,fun j k R q a0 J=>?_,fun k q=>?_,?_,?_,?_⟩
 ·obtain ⟨e,cs,h⟩:=u k q
  exact y.rel.row_lt (v k q) h
 ·obtain ⟨e,cs,h⟩:=u j R
  obtain ⟨e',U,h'⟩:=u k q
  have:=y.rel.sep _ _ _ _ _ _ _ (v j R) (by rw [J];exact v k q) (by omega) h
  rw [h'] at this;cases this
 ·obtain ⟨e,cs,h⟩:=u k q
  obtain ⟨c,Z,fz,M,N,O,I,_⟩:=y.rel.row _ _ _ _ _ _ (v k q) h
  exact (I rfl).1
 ·exact rows 2 F.tA F.zA (by omega) (by rw [k0z F p s 2 (by omega)];rfl) F.zf
 ·exact rows 3 F.tI [.int .i64 0] (by omega) (by rw [k0z F p s 3 (by omega)];rfl) rfl
 ·exact rows 4 F.tB [.bool false] (by omega) (by rw [k0z F p s 4 (by omega)];rfl) rfl
def C0M (φ:Inj) (n:Nat) (B o:Nat->Nat):Inj:=ad (ad (ad (ad (ad φ n (B 0) (o 0)) (n + 1) (B 1) (o 1)) (n + 2) (B 2) (o 2)) (n + 3) (B 3) (o 3)) (n + 4) (B 4) (o 4)
theorem t0d (F:QF X.P) {φ':Inj} {U I:World} {B o:Nat->Nat} (O:d1e X F φ H w U B o) (z:Rel X φ' H' I) (s:∀ k,k < 5->I.heap[B k]? = U.heap[B k]?)
  (G:∀ k,k < 5->∀ b u ro e' j,φ' b=some (B k,u)->H'.bk b ≠ .row ro e' j):Rel X (C0M φ' H'.size B o) (g0M F H') I:=by
 have r0:=z.adopt0 (B 0) (o 0)
 have r1:=r0.adopt0 (B 1) (o 1)
 have s1:(H'.push Blk.dead).size=H'.size + 1:=by simp
 rw [s1] at r1
 have n1:∀ k,2<=k->k < 5->∀ b u ro e' j,ad (ad φ' H'.size (B 0) (o 0)) (H'.size + 1) (B 1) (o 1) b=some (B k,u)->a0f.bk ((H'.push Blk.dead).push .dead) b ≠ .row ro e' j:=by
  intro k hk q b u ro e' j h
  unfold ad at h
  simp only [a0L,l1X]
  split at h
  ·rename_i hb;simp at h;exact k1Q h.1 (O.ne 1 k (by omega) q (by omega))
  ·split at h
   ·rename_i hb;simp at h;exact k1Q h.1 (O.ne 0 k (by omega) q (by omega))
   ·rename_i h1 h2;rw [k1y (by omega),k1y (by omega)];exact G k q b u ro e' j h
 obtain ⟨Z,v,x,y⟩:=O.rA
 have r2:=r1.adopt (B:=B 2) (o:=o 2) (e:=F.tA) (cs:=F.zA) (c:=Z) (by rw [s 2 (by omega)];exact v) x (y _ _) (O.base 2 (by omega)) (n1 2 (by omega) (by omega))
 have N:((H'.push Blk.dead).push Blk.dead).size=H'.size + 2:=by simp
 rw [N] at r2
 have J:∀ k,3<=k->k < 5->∀ b u ro e' j,ad (ad (ad φ' H'.size (B 0) (o 0)) (H'.size + 1) (B 1) (o 1)) (H'.size + 2) (B 2) (o 2) b=some (B k,u)->a0f.bk (((H'.push Blk.dead).push .dead).push (.row false F.tA F.zA)) b ≠ .row ro e' j:=by
  intro k hk q b u ro e' j h
  unfold ad at h
  rw [a0L,N]
  split at h
  ·rename_i hb;simp at h;exact k1Q h.1 (O.ne 2 k (by omega) q (by omega))
  ·rename_i hb;rw [k1y hb];exact n1 k (by omega) q b u ro e' j h
 obtain ⟨c3,v,x,y⟩:=O.rI
 have L:=r2.adopt (B:=B 3) (o:=o 3) (e:=F.tI) (cs:=[.int .i64 0]) (c:=c3) (by rw [s 3 (by omega)];exact v) x (y _ _) (O.base 3 (by omega)) (J 3 (by omega) (by omega))
 have R:(((H'.push Blk.dead).push Blk.dead).push (.row false F.tA F.zA)).size=H'.size + 3:=by simp
 rw [R] at L
 obtain ⟨c4,v,x,y⟩:=O.rB
 have M:=L.adopt (B:=B 4) (o:=o 4) (e:=F.tB) (cs:=[.bool false]) (c:=c4) (by rw [s 4 (by omega)];exact v) x (y _ _) (O.base 4 (by omega)) (by
  intro b u ro e' j h
  unfold ad at h
  rw [a0L,R]
  split at h
  ·rename_i hb;simp at h;exact k1Q h.1 (O.ne 3 4 (by omega) (by omega) (by omega))
  ·rename_i hb;rw [k1y hb];exact J 4 (by omega) (by omega) b u ro e' j h)
 have s4:((((H'.push Blk.dead).push Blk.dead).push (.row false F.tA F.zA)).push (.row false F.tI [.int .i64 0])).size=H'.size + 4:=by simp
 rw [s4] at M
 exact M
theorem u0a {φ φ':Inj} {S S':Shp} {u:Value} (h:VR X φ S undef u):VR X φ' S' undef u:=by
 unfold undef at h ⊢
 cases h with
 | tuple a a' h1 h2=>exact .tuple _ _ h1 (fun i hi=>by simp at hi)
theorem W0e {φ φ':Inj} {S S':Shp}:∀ {k:Nat} {l:List Value},CR X φ S (un k) l->CR X φ' S' (un k) l
 | 0,l,h=>by rw [h.nil_left];exact CR.nil
 | k + 1,l,h=>by
  obtain ⟨v',e,rfl,hv,c⟩:=(show CR X φ S (undef :: un k) l from h).cons_left
  exact CR.cons (u0a hv) (W0e c)
theorem h0E {φ φ':Inj} {S S':Shp} {n m:Nat} {x:Nat × Nat} {u:Value} (e:φ n=some x) (c:φ' m=some x) (h:VR X φ S (pt n) u):VR X φ' S' (pt m) u:=by
 unfold pt at h ⊢
 cases h with
 | ptr a a' B o h1 h2 h3 =>
  rw [e] at h2;cases h2
  exact .ptr _ _ B o rfl c h3
theorem n0P {e j:Inj} {G:a0f} {z:World} {p s:Array Value} {N:FuncId} {B o:Nat->Nat} {m:Nat} {F S2:Shp} {u0 u1:Value} (hR:Rel X φ H w) (J:d0v X H.size φ H w e G z)
  (hp:VR X φ F (.agg p) u0) (hs:VR X φ F (.agg s) u1) (c:∀ k,k < 5->e (H.size + k)=some (B k,o k)) (q:∀ k,k < 5->j (m + k)=some (B k,o k)) (U:∀ b x,φ b=some x->j b=some x)
  (R:∀ b x,z.shape? b=some x->S2 b=some x) {l:List Value} (h:CR X e z.shape? (t0Y N p s H.size) l):CR X j S2 (t0Y N p s m) l:=by
 unfold t0Y at h ⊢
 simp only [m1B,l1Z] at h ⊢
 obtain ⟨x0,l,rfl,Z,h⟩:=h.cons_left
 obtain ⟨x1,l,rfl,k1,h⟩:=h.cons_left
 obtain ⟨x2,l,rfl,k2,h⟩:=h.cons_left
 obtain ⟨x3,l,rfl,k3,h⟩:=h.cons_left
 obtain ⟨x4,l,rfl,k4,h⟩:=h.cons_left
 obtain ⟨x5,l,rfl,k5,h⟩:=h.cons_left
 obtain ⟨x6,l,rfl,k6,h⟩:=h.cons_left
 obtain ⟨x7,l,rfl,k7,h⟩:=h.cons_left
 obtain ⟨x8,l,rfl,k8,h⟩:=h.cons_left
 obtain ⟨x9,l,rfl,k9,h⟩:=h.cons_left
 obtain ⟨a0,l,rfl,L,h⟩:=h.cons_left
 obtain ⟨a1,l,rfl,M,h⟩:=h.cons_left
 have y:∀ {v u O},VR X φ F v u->VR X e z.shape? v O->VR X j S2 v O:=fun k k'=>(VR.back hR J k k').mo U R
 refine CR.cons (y hp Z) (CR.cons (y hs k1) (CR.cons (h0E (c 0 (by omega)) (q 0 (by omega)) k2) (CR.cons (h0E (c 1 (by omega)) (q 1 (by omega)) k3) (CR.cons (h0E (c 2 (by omega)) (q 2 (by omega)) k4)
  (CR.cons (h0E (c 3 (by omega)) (q 3 (by omega)) k5) (CR.cons (h0E (c 4 (by omega)) (q 4 (by omega)) k6) (CR.cons ?_ (CR.cons (u0a k8) (CR.cons ?_ (CR.cons (y hp L) (CR.cons (y hs M) (W0e h))))))))))))
 ·cases k7 with
  | func f a b a' b' g1 g2 g3 g4 =>
   refine .func _ _ _ _ _ g1 (fun i hi=>by simp at hi) g3 (fun i hi=>?_)
   have I:i < 3:=by simpa using hi
   match i,I with
   | 0,_=>exact h0E (c 2 (by omega)) (q 2 (by omega)) (by simpa using g4 0 (by simp))
   | 1,_=>exact h0E (c 3 (by omega)) (q 3 (by omega)) (by simpa using g4 1 (by simp))
   | 2,_=>exact h0E (c 4 (by omega)) (q 4 (by omega)) (by simpa using g4 2 (by simp))
 ·cases k9 with
  | agg a a' g1 g2=>exact .agg _ _ g1 (fun i hi=>by simp at hi)
theorem q0Z {n:Nat} {B o:Nat->Nat} (k:Nat) (c:k < 5):C0M φ n B o (n + k)=some (B k,o k):=by
 unfold C0M ad
 match k,c with
 | 0,_=>rw [k1y (by omega),k1y (by omega),k1y (by omega),k1y (by omega),k1B (by omega)]
 | 1,_=>rw [k1y (by omega),k1y (by omega),k1y (by omega),k1B (by omega)]
 | 2,_=>rw [k1y (by omega),k1y (by omega),k1B (by omega)]
 | 3,_=>rw [k1y (by omega),k1B (by omega)]
 | 4,_=>rw [k1B (by omega)]
theorem v0b {n b:Nat} {B o:Nat->Nat} (hb:b < n):C0M φ n B o b=φ b:=by
 unfold C0M ad;rw [k1y (by omega),k1y (by omega),k1y (by omega),k1y (by omega),k1y (by omega)]
theorem L0Y {n b:Nat} {B o:Nat->Nat} {x:Nat × Nat} (hb:n<=b) (h:C0M φ n B o b=some x):(∃ k,k < 5/\x=(B k,o k)) ∨ φ b=some x:=by
 unfold C0M ad at h
 split at h
 ·exact .inl ⟨4,by omega,by simpa using h.symm⟩
 split at h
 ·exact .inl ⟨3,by omega,by simpa using h.symm⟩
 split at h
 ·exact .inl ⟨2,by omega,by simpa using h.symm⟩
 split at h
 ·exact .inl ⟨1,by omega,by simpa using h.symm⟩
 split at h
 ·exact .inl ⟨0,by omega,by simpa using h.symm⟩
 exact .inr h
theorem L0X (hR:Rel X φ H w) {w':World} (h:Pan X H.size φ H w w'):d0v X H.size φ H w φ H w':=by
 have j:∀ B,B < w.heap.size->w'.heap[B]? = w.heap[B]?:=fun B hB=>h.frame B hB fun b o e cs k c=>by have:=hR.lt b _ k;omega
 exact { ext := fun _ _ h => h
         rel:=hR.agree (k1H hR.bs h.wsz) h.shp fun b B o ro e cs k c=>j B (hR.row_lt k c)
         shp:=h.shp,wsz:=h.wsz,os:=h.os,tape:=h.tape,out:=h.out,hsz:=k1x _,keep:=fun _ _=>rfl,kind:=fun b e cs _ h=>⟨cs,h⟩
         fresh:=fun b x k c=>by rw [k] at c;cases c
         newB:=fun b B o k c=>by rw [k] at c;cases c
         frame:=fun B hB _=>j B hB }
theorem C0p (F:QF X.P) {φ':Inj} {u I:World} {B o:Nat->Nat} (hR:Rel X φ H w) (O:d1e X F φ H w u B o) (q:Rel X φ H u) (j:d0v X H.size φ H u φ' H' I) :
  ∀ k,k < 5->∀ b v ro e' h,φ' b=some (B k,v)->H'.bk b ≠ .row ro e' h:=by
 intro k s b v ro e' h hb e
 have Z:=O.lo k s
 have h3:=O.hi k s
 cases hφ:φ b with
 | none=>have:=j.own_new q hb hφ;omega
 | some x =>
  have:=j.ext b x hφ
  rw [hb] at this;cases this
  cases ro with
  | true =>
   obtain ⟨c,J,L,M,N,R,U,z⟩:=j.rel.row _ _ _ _ _ _ hb e
   have:=z rfl
   have:=O.base k s
   omega
  | false =>
   obtain ⟨y,G⟩:=j.kind b e' h (hR.lt b _ hφ) e
   have:=hR.row_lt hφ G
   omega
theorem x0f (F:QF X.P) {a0 φ' a1:Inj} {p s:Array Value} {I J Z:World} {H4:a0f} {B o:Nat->Nat} (hR:Rel X φ H w) (a2:fl<=H.size) (c:d0v X H.size φ H w a0 (hp5 F p s H) I) (O:d1e X F φ H w I B o)
  (j:d0v X H.size φ H I φ' H' J) (u:d0v X H'.size (C0M φ' H'.size B o) (g0M F H') J a1 H4 Z):d0v X fl φ H w φ' H' Z:=by
 have v:Rel X φ H I:=c.rel0 hR
 have R:=C0p F hR O v j
 have q:∀ C,C < J.heap.size->(∀ k,k < 5->C ≠ B k)->Z.heap[C]? = J.heap[C]?:=by
  intro C L N
  refine u.frame C L fun b U e cs hb M _=>?_
  rcases L0Y M hb with ⟨k,y,h⟩ | h
  ·simp at h;exact N k y h.1
  ·have:=j.rel.lt b _ h;omega
 refine { ext:=j.ext,rel:=?_,shp:=fun C x h=>u.shp _ _ (j.shp _ _ (c.shp _ _ h)),wsz:=?_,os:=?_,tape:=?_,out:=?_,hsz:=j.hsz,keep:=fun b hb=>j.keep b (by omega),kind:=j.kind,fresh:=j.fresh,newB:=?_,frame:=?_ }
 ·exact j.rel.agree (k1H j.rel.bs u.wsz) u.shp fun b C U ro e cs z G=>q C (j.rel.row_lt z G) fun k y he=>by
   subst he;exact R k y b U ro e cs z G
 ·have:=c.wsz;have:=j.wsz;have:=u.wsz;omega
 ·rw [u.os,j.os,c.os]
 ·rw [u.tape,j.tape,c.tape]
 ·rw [u.out,j.out,c.out]
 ·intro b C U z G
  have:=j.own_new v z G
  have:=c.wsz
  exact .inl (by omega)
 ·intro C L _
  have h6:=c.wsz
  have h7:=j.wsz
  rw [q C (by omega) (fun k y he=>by have:=O.lo k y;omega),j.old v (by omega),c.old hR L]
theorem m0s (F:QF X.P):(g0M F H).size=H.size + 5:=by simp [g0M]
theorem s0u (F:QF X.P):(g0M F H).bk (H.size + 2)=.row false F.tA F.zA:=by
 simp only [g0M,a0L,l1X]
 repeat (first | rw [k1B (show _=_ by omega)] | rw [k1y (show ¬ (_=_) by omega)])
 simp
theorem s0v (F:QF X.P):(g0M F H).bk (H.size + 3)=.row false F.tI [.int .i64 0]:=by
 simp only [g0M,a0L,l1X]
 repeat (first | rw [k1B (show _=_ by omega)] | rw [k1y (show ¬ (_=_) by omega)])
 simp
theorem s0w (F:QF X.P):(g0M F H).bk (H.size + 4)=.row false F.tB [.bool false]:=by
 simp only [g0M,a0L,l1X]
 repeat (first | rw [k1B (show _=_ by omega)] | rw [k1y (show ¬ (_=_) by omega)])
 simp
theorem q0c:∀ (vs e cs:List Value),cs.length=vs.length->b0x (e ++ cs) e.length vs=e ++ vs
 | [],e,cs,h=>by have:cs=[]:=k1U.1 h;simp [b0x,this]
 | v :: r,e,c :: cs,h=>by
  simp only [l1p,Nat.add_right_cancel_iff] at h
  have j:(e ++ c :: cs).set e.length v=(e ++ [v]) ++ cs:=by
   simp [List.set_append]
  have:=q0c r (e ++ [v]) cs h
  simp only [b0x]
  rw [j]
  simpa using this
theorem u0b {cs vs:List Value} (h:cs.length=vs.length):b0x cs 0 vs=vs:=by simpa using q0c vs [] cs h
theorem l0y {G:a0f} {b:Nat} {e:TypeId} {cs vs:List Value} (hb:G.bk b=.row false e cs) (c:fl<=b) (h:cs.length=vs.length) (hp:vs.all a0v=true):G.write? fl b 0 vs=some (G.setIfInBounds b (.row false e vs)):=by
 unfold a0f.write?
 rw [hb]
 simp only
 rw [k1B ⟨c,by omega,hp⟩,u0b h]
structure Z0J (t:b0c) (m:Nat):Prop where
 l:t.length=17
 a:get t 4=pt (m + 2)
 i:get t 5=pt (m + 3)
 b:get t 6=pt (m + 4)
theorem k1q (F:QF X.P) {p s a:Array Value} {k:IntKind} {n:Int} (e:a.size=F.zA.length) (c:a.toList.all a0v=true) :
  ∃ t' G,f0s call H'.size (q2b F.zA.length) (put (t0Y F.fD p s H'.size) (some 12) (.tuple #[.agg a,.int k n])) (g0M F H')=.fin .normal t' G/\Z0J t' H'.size/\H'.size + 5<=G.size /\
   G.bk (H'.size + 2)=.row false F.tA a.toList/\G.bk (H'.size + 3)=.row false F.tI [.int k n]/\G.bk (H'.size + 4)=.row false F.tB [.bool false]:=by
 have h:(g0M F H').write? H'.size (H'.size + 2) 0 a.toList=some ((g0M F H').setIfInBounds (H'.size + 2) (.row false F.tA a.toList)):=l0y (s0u F) (by omega) (by simp [e]) c
 have hsz:=m0s (H:=H') F
 have b3:a0f.bk ((g0M F H').setIfInBounds (H'.size + 2) (.row false F.tA a.toList)) (H'.size + 3)=.row false F.tI [.int .i64 0]:=by
  rw [b0a _ _ _ _ (by omega),k1y (by omega)];exact s0v F
 have j:a0f.write? ((g0M F H').setIfInBounds (H'.size + 2) (.row false F.tA a.toList)) H'.size (H'.size + 3) 0 [.int k n]=some (((g0M F H').setIfInBounds (H'.size + 2) (.row false F.tA a.toList)).setIfInBounds (H'.size + 3) (.row false F.tI [.int k n])) :=
  l0y b3 (by omega) rfl rfl
 refine ⟨put (put (put (put (t0Y F.fD p s H'.size) (some 12) (.tuple #[.agg a,.int k n])) (some 8) (.tuple #[.agg a,.int k n])) (some 13) (.agg a)) (some 14) (.int k n),((g0M F H').setIfInBounds (H'.size + 2) (.row false F.tA a.toList)).setIfInBounds (H'.size + 3) (.row false F.tI [.int k n]),?_,?_,?_,?_,?_,?_⟩
 ·simp only [put,t0Y,un,pt,List.replicate,m1B,l1Z,List.set_cons_succ,List.set_cons_zero]
  simp [q2b,f0s,b0k,b0E,opA,ev,get,put,a0W,e,h,j,b0H]
 ·exact ⟨by simp [put,t0Y,un],by simp [put,get,t0Y,un,List.replicate],by simp [put,get,t0Y,un,List.replicate],by simp [put,get,t0Y,un,List.replicate]⟩
 ·simp [hsz]
 ·rw [b0a _ _ _ _ (by simp;omega),k1y (by omega),b0a _ _ _ _ (by omega),k1B rfl]
 ·rw [b0a _ _ _ _ (by simp;omega),k1B rfl]
 ·rw [b0a _ _ _ _ (by simp;omega),k1y (by omega),b0a _ _ _ _ (by omega),k1y (by omega)];exact s0w F
theorem O0h {G:a0f} {b:Nat} {e:TypeId} {cs:List Value} (hb:G.bk b=.row false e cs) (h:cs.length ≠ 0):b0v G true cs.length (pt b)=some (.agg cs.toArray):=by
 have c:G.cells? b 0 cs.length=some cs:=by
  unfold a0f.cells?;rw [hb];simp only [l1e,l1F];rw [k1B (k1x _),k1J (k1x _)]
 simp [b0v,pt,h,c]
theorem B0Z {G:a0f} {b:Nat} {e:TypeId} {v:Value} (hb:G.bk b=.row false e [v]):b0v G false 1 (pt b)=some v:=by
 have c:G.cells? b 0 1=some [v]:=by unfold a0f.cells?;rw [hb];simp
 simp [b0v,pt,c]
theorem k1p (F:QF X.P) {t:b0c} {G:a0f} {m:Nat} {a:List Value} {k:IntKind} {n:Int} {bef:List Nat} (L:Z0J t m) (ha:a.length=F.zA.length) (s:a.all a0v=true)
  (b2:G.bk (m + 2)=.row false F.tA a) (b3:G.bk (m + 3)=.row false F.tI [.int k n]) (U:G.bk (m + 4)=.row false F.tB [.bool false]) :
  ∃ t' G',b0h call m 1 (.draw (q3 F.zA.length) bef [(1,2)]) t G=.fin .normal t' G'/\Z0J t' m /\
   G'.bk (m + 2)=.row false F.tA a/\G'.bk (m + 3)=.row false F.tI [.int k n]/\G'.bk (m + 4)=.row false F.tB [.bool true]:=by
 have a0:=F.nz
 have l1:=O0h b2 (by omega)
 rw [ha] at l1
 have l2:=B0Z b3
 have w1:=l0y (fl:=m) b2 (by omega) rfl s
 have z:=a0k b2
 have H:=a0k b3
 have I:=a0k U
 have c3:a0f.bk (G.setIfInBounds (m + 2) (.row false F.tA a)) (m + 3)=.row false F.tI [.int k n]:=by rw [b0a _ _ _ _ z,k1y (by omega)];exact b3
 have w2:=l0y (fl:=m) (vs:=[.int k n]) c3 (by omega) rfl rfl
 have c4:a0f.bk ((G.setIfInBounds (m + 2) (.row false F.tA a)).setIfInBounds (m + 3) (.row false F.tI [.int k n])) (m + 4)=.row false F.tB [.bool false]:=by
  rw [b0a _ _ _ _ (by simpa using H),k1y (by omega),b0a _ _ _ _ z,k1y (by omega)];exact U
 have w3:=l0y (fl:=m) (vs:=[.bool true]) c4 (by omega) rfl rfl
 have q:=L.l
 have j:∀ v u:Value,get (put (put t (some 15) v) (some 16) u) 4=pt (m + 2):=fun v u=>by
  have:=L.a;simp only [get,put,k1v,l1g] at this ⊢;simpa using this
 have Z:∀ v u:Value,get (put (put t (some 15) v) (some 16) u) 5=pt (m + 3):=fun v u=>by
  have:=L.i;simp only [get,put,k1v,l1g] at this ⊢;simpa using this
 have g6:∀ v u:Value,get (put (put t (some 15) v) (some 16) u) 6=pt (m + 4):=fun v u=>by
  have:=L.b;simp only [get,put,k1v,l1g] at this ⊢;simpa using this
 have e:∀ v u:Value,get (put (put t (some 15) v) (some 16) u) 15=v:=fun v u=>by
  simp [get,put,l1g,q]
 have h:∀ v u:Value,get (put (put t (some 15) v) (some 16) u) 16=u:=fun v u=>by
  simp [get,put,l1g,q]
 have c:∀ v:Value,get (put t (some 15) v) 5=pt (m + 3):=fun v=>by
  have:=L.i;simp only [get,put,k1v,l1g] at this ⊢;simpa using this
 refine ⟨put (put t (some 15) (.agg a.toArray)) (some 16) (.int k n),((G.setIfInBounds (m + 2) (.row false F.tA a)).setIfInBounds (m + 3) (.row false F.tI [.int k n])).setIfInBounds (m + 4) (.row false F.tB [.bool true]),?_,⟨by simp [put,q],j _ _,Z _ _,g6 _ _⟩,?_,?_,?_⟩
 ·have x:b0E call m t G (.load true F.zA.length (.tmp 4))=.ok (.agg a.toArray,G):=by simp [b0E,opA,ev,L.a,l1,b0H]
  have y:b0E call m (put t (some 15) (.agg a.toArray)) G (.load false 1 (.tmp 5))=.ok (.int k n,G):=by simp [b0E,opA,ev,c,l2,b0H]
  have J:b0E call m (put (put t (some 15) (.agg a.toArray)) (some 16) (.int k n)) G (.store F.zA.length (.tmp 4) (.tmp 15))=.ok (undef,G.setIfInBounds (m + 2) (.row false F.tA a)):=by
   simp only [b0E,opA,ev,j,e,pt,a0W,ha,List.toList_toArray];simp [w1]
  have M:b0E call m (put (put t (some 15) (.agg a.toArray)) (some 16) (.int k n)) (G.setIfInBounds (m + 2) (.row false F.tA a)) (.store 1 (.tmp 5) (.tmp 16))=.ok (undef,(G.setIfInBounds (m + 2) (.row false F.tA a)).setIfInBounds (m + 3) (.row false F.tI [.int k n])):=by
   simp only [b0E,opA,ev,Z,h,pt,a0W];simp [w2]
  have N:b0E call m (put (put t (some 15) (.agg a.toArray)) (some 16) (.int k n)) ((G.setIfInBounds (m + 2) (.row false F.tA a)).setIfInBounds (m + 3) (.row false F.tI [.int k n])) (.store 1 (.tmp 6) (.const (.bool true))) =
    .ok (undef,((G.setIfInBounds (m + 2) (.row false F.tA a)).setIfInBounds (m + 3) (.row false F.tI [.int k n])).setIfInBounds (m + 4) (.row false F.tB [.bool true])):=by
   simp only [b0E,opA,ev,g6,pt,a0W];simp [w3]
  have pn:∀ (t:b0c) (v:Value),put t none v=t:=fun _ _=>rfl
  have O:d0m (put t (some 15) (.agg a.toArray)) (.load false 1 (.tmp 5))=([m + 3],[]):=by simp [d0m,ev,c,pt,blkOf]
  have R:d0m (put (put t (some 15) (.agg a.toArray)) (some 16) (.int k n)) (.store F.zA.length (.tmp 4) (.tmp 15))=([],[m + 2]):=by simp only [d0m,ev,j];simp [pt,blkOf]
  simp only [b0h,q3,b0V,h0r,b0k,k1W,l1y,l1o,x,y,J,M,N,pn,O,R]
  simp [d0a,s0Y]
 ·rw [b0a _ _ _ _ (by simpa using I),k1y (by omega),b0a _ _ _ _ (by simpa using H),k1y (by omega),b0a _ _ _ _ z,k1B rfl]
 ·rw [b0a _ _ _ _ (by simpa using I),k1y (by omega),b0a _ _ _ _ (by simpa using H),k1B rfl]
 ·rw [b0a _ _ _ _ (by simpa using I),k1B rfl]
theorem k1r (F:QF X.P) {t:b0c} (N:t.length=6) (u:get t 0=pt (H.size + 2)) (x:get t 1=pt (H.size + 3)) (y:get t 2=pt (H.size + 4)) :
  ∃ t' G',b0h call H.size 1 (.reg (qB F.zA.length F.zA)) t (g0M F H)=.fin .normal t' G' /\
   G'.bk (H.size + 2)=.row false F.tA F.zA/\G'.bk (H.size + 3)=.row false F.tI [.int .i64 0]/\G'.bk (H.size + 4)=.row false F.tB [.bool false]:=by
 have b2:=s0u (H:=H) F
 have b3:=s0v (H:=H) F
 have s:=s0w (H:=H) F
 have c:=a0k b2
 have e:=a0k b3
 have h:=a0k s
 have R:=l0y (fl:=H.size) b2 (by omega) rfl F.zp
 have z:a0f.bk ((g0M F H).setIfInBounds (H.size + 2) (.row false F.tA F.zA)) (H.size + 3)=.row false F.tI [.int .i64 0]:=by rw [b0a _ _ _ _ c,k1y (by omega)];exact b3
 have U:=l0y (fl:=H.size) (vs:=[.int .i64 0]) z (by omega) rfl rfl
 have G:a0f.bk (((g0M F H).setIfInBounds (H.size + 2) (.row false F.tA F.zA)).setIfInBounds (H.size + 3) (.row false F.tI [.int .i64 0])) (H.size + 4)=.row false F.tB [.bool false]:=by
  rw [b0a _ _ _ _ (by simpa using e),k1y (by omega),b0a _ _ _ _ c,k1y (by omega)];exact s
 have Z:=l0y (fl:=H.size) (vs:=[.bool false]) G (by omega) rfl rfl
 have I:∀ v:Value,get (put t (some 5) v) 0=pt (H.size + 2):=fun v=>by simp only [get,put,k1v,l1g] at u ⊢;simpa using u
 have J:∀ v:Value,get (put t (some 5) v) 1=pt (H.size + 3):=fun v=>by simp only [get,put,k1v,l1g] at x ⊢;simpa using x
 have L:∀ v:Value,get (put t (some 5) v) 2=pt (H.size + 4):=fun v=>by simp only [get,put,k1v,l1g] at y ⊢;simpa using y
 have M:∀ v:Value,get (put t (some 5) v) 5=v:=fun v=>by simp [get,put,l1g,N]
 refine ⟨put t (some 5) (.agg F.zA.toArray),(((g0M F H).setIfInBounds (H.size + 2) (.row false F.tA F.zA)).setIfInBounds (H.size + 3) (.row false F.tI [.int .i64 0])).setIfInBounds (H.size + 4) (.row false F.tB [.bool false]),?_,?_,?_,?_⟩
 ·have O:b0E call H.size t (g0M F H) (.build F.zA [])=.ok (.agg F.zA.toArray,g0M F H):=by simp [b0E,opA,b0D,g0X,b0H]
  have j:b0E call H.size (put t (some 5) (.agg F.zA.toArray)) (g0M F H) (.store F.zA.length (.tmp 0) (.tmp 5))=.ok (undef,(g0M F H).setIfInBounds (H.size + 2) (.row false F.tA F.zA)):=by
   simp only [b0E,opA,ev,I,M,pt,a0W,List.toList_toArray];simp [R]
  have k:b0E call H.size (put t (some 5) (.agg F.zA.toArray)) ((g0M F H).setIfInBounds (H.size + 2) (.row false F.tA F.zA)) (.store 1 (.tmp 1) (.const (.int .i64 0))) =
    .ok (undef,((g0M F H).setIfInBounds (H.size + 2) (.row false F.tA F.zA)).setIfInBounds (H.size + 3) (.row false F.tI [.int .i64 0])):=by
   simp only [b0E,opA,ev,J,pt,a0W];simp [U]
  have q:b0E call H.size (put t (some 5) (.agg F.zA.toArray)) (((g0M F H).setIfInBounds (H.size + 2) (.row false F.tA F.zA)).setIfInBounds (H.size + 3) (.row false F.tI [.int .i64 0])) (.store 1 (.tmp 2) (.const (.bool false))) =
    .ok (undef,(((g0M F H).setIfInBounds (H.size + 2) (.row false F.tA F.zA)).setIfInBounds (H.size + 3) (.row false F.tI [.int .i64 0])).setIfInBounds (H.size + 4) (.row false F.tB [.bool false])):=by
   simp only [b0E,opA,ev,L,pt,a0W];simp [Z]
  have pn:∀ (t:b0c) (v:Value),put t none v=t:=fun _ _=>rfl
  simp only [b0h,qB,f0s,b0k,l1o,O,j,k,q,pn]
 ·rw [b0a _ _ _ _ (by simpa using h),k1y (by omega),b0a _ _ _ _ (by simpa using e),k1y (by omega),b0a _ _ _ _ c,k1B rfl]
 ·rw [b0a _ _ _ _ (by simpa using h),k1y (by omega),b0a _ _ _ _ (by simpa using e),k1B rfl]
 ·rw [b0a _ _ _ _ (by simpa using h),k1B rfl]
theorem n0M (F:QF X.P) (ρ:Operand->Value) (w:World):(execOp ρ F.oA1).run X.P w=.ok .recover w:=by
 unfold execOp;rw [F.oA1o];rfl
theorem L0m (F:QF X.P) {cap:Array Value} (hc:cap.size=3):CallsD X.P F.fD cap .returning w fun e x w'=>(∃ v,e=.returned v)/\x = .returning/\w' = w:=by
 refine callsD_of_wpS F.hfnD F.bodyD ?_
 intro q cs s
 refine wpS_seq (wpS_region ?_)
 have hsz:(cap ++ Array.replicate (F.fnD.ntmps - cap.size) undef).size=6:=by simp [hc,F.ntD]
 rw [show List.range F.opsA.size=[0,1] by rw [F.hA];rfl]
 unfold wpOpsS
 rw [show F.opsA[0]? = some F.oA1 by rw [F.hA];rfl]
 simp only [Region.wanted,F.oA1g,l1o,n0M]
 have c:recoverD (q :: cs)=none:=by simp [recoverD,s]
 rw [c]
 simp only
 unfold wpOpsS
 rw [show F.opsA[1]? = some F.oA2 by rw [F.hA];rfl]
 simp only [Region.wanted,F.oA2g,l1o]
 generalize j:({ tmps:=cap ++ Array.replicate (F.fnD.ntmps - cap.size) undef,defers:=[] }:Act).put F.oA1.dst .nilIface=a1
 have h:a1.tmps.size=6:=by rw [<- j,F.oA1d];simp [Act.put,hsz]
 have k:a1.defers=[]:=by rw [<- j];cases F.oA1.dst <;> rfl
 have u:a1.eval (.tmp 3)=.nilIface:=by
  rw [<- j,F.oA1d]
  simp [Act.put,Act.eval,k1I,l1f,hsz]
 rw [F.oA2f a1.eval w u rfl]
 simp only [Oper.upon]
 unfold wpOpsS
 show (Code.cond (.tmp 4) (.region F.iB F.opsB false) .skip).wpS X.P _ _ _ _
 refine wpS_cond (t:=false) ?_ ?_
 ·rw [F.oA2d];simp [Act.put,Act.eval,k1I,l1f,h]
 ·simp only [k1W,l1y]
  refine wpS_of_wp (wp_skip ?_)
  refine ⟨by rw [c0Q];exact k,q.mode,rfl,.tuple #[],?_,⟨⟨_,rfl⟩,s,rfl⟩⟩
  simp [results,F.resD]
theorem L0l (F:QF X.P) (hcall:e0l X call) (O:s0a X call) {c:Inj} {v:Value} {Z:TypeId} {u:Value} (hv:v=.iface Z u) {cap:Array Value} (hR:Rel X c (g0M F H) w)
  (hc:CR X c w.shape? [pt (H.size + 2),pt (H.size + 3),pt (H.size + 4)] cap.toList) :
  CallsD X.P F.fD cap (.panicking [{ v,recovered:=false }]) w fun e u' w'=>(∃ x,e=.returned x)/\u' = .panicking [{ v,recovered:=true }]/\∃ q G',d0v X H.size c (g0M F H) w q G' w' /\
   G'.bk (H.size + 2)=.row false F.tA F.zA/\G'.bk (H.size + 3)=.row false F.tI [.int .i64 0]/\G'.bk (H.size + 4)=.row false F.tB [.bool false]:=by
 refine callsD_of_wpS F.hfnD F.bodyD ?_
 intro c0 cs hu
 refine wpS_seq (wpS_region ?_)
 have G:cap.size=3:=by have:=hc.1;simpa using this.symm
 have hsz:(cap ++ Array.replicate (F.fnD.ntmps - cap.size) undef).size=6:=by simp [G,F.ntD]
 rw [show List.range F.opsA.size=[0,1] by rw [F.hA];rfl]
 unfold wpOpsS
 rw [show F.opsA[0]? = some F.oA1 by rw [F.hA];rfl]
 simp only [Region.wanted,F.oA1g,l1o,n0M]
 have J:recoverD (c0 :: cs)=some (v,{ c0 with mode:=.panicking ({ v,recovered:=true } :: []) } :: cs):=by simp [recoverD,hu]
 rw [J]
 simp only
 unfold wpOpsS
 rw [show F.opsA[1]? = some F.oA2 by rw [F.hA];rfl]
 simp only [Region.wanted,F.oA2g,l1o]
 have L:CR X c w.shape? ([pt (H.size + 2),pt (H.size + 3),pt (H.size + 4)] ++ un 3) (cap ++ Array.replicate (F.fnD.ntmps - cap.size) undef).toList:=by
  rw [m1M,Array.toList_replicate,G,F.ntD]
  exact hc.append (CR.cons VR.undef (CR.cons VR.undef (CR.cons VR.undef CR.nil)))
 generalize h:({ tmps:=cap ++ Array.replicate (F.fnD.ntmps - cap.size) undef,defers:=[] }:Act)=a0
 have k:a0.tmps.size=6:=by rw [<- h];exact hsz
 have N:a0.defers=[]:=by rw [<- h]
 have y:CR X c w.shape? ([pt (H.size + 2),pt (H.size + 3),pt (H.size + 4)] ++ un 3) a0.tmps.toList:=by rw [<- h];exact L
 have h3:(a0.put F.oA1.dst v).eval (.tmp 3)=.iface Z u:=by
  rw [F.oA1d]
  simp [Act.put,Act.eval,k1I,l1f,k,hv]
 rw [F.oA2t (a0.put F.oA1.dst v).eval w Z u h3 rfl]
 simp only [Oper.upon]
 unfold wpOpsS
 show (Code.cond (.tmp 4) (.region F.iB F.opsB false) .skip).wpS X.P _ _ _ _
 refine wpS_cond (t:=true) ?_ ?_
 ·rw [F.oA2d,F.oA1d];simp [Act.put,Act.eval,k1I,l1f,k]
 ·simp only [l1o]
  have z:=F.cB
  simp only [e0n,k1C,k1w,k1F,k1z,SCode.reg.injEq] at z
  obtain ⟨l,hl,R⟩:=z
  subst R
  have I:F.opsB.size=(qB F.zA.length F.zA).length:=by rw [j0I hl];simp
  obtain ⟨t',G',e1,g2,g3,g4⟩:=k1r (call:=call) (H:=H) F (t:=put ([pt (H.size + 2),pt (H.size + 3),pt (H.size + 4)] ++ un 3) (some 4) (.bool true)) (by simp [put,un]) (by simp [put,get,un,List.replicate]) (by simp [put,get,un,List.replicate]) (by simp [put,get,un,List.replicate])
  simp only [b0h] at e1
  refine wpS_of_wp (wp_region ?_)
  rw [List.range_eq_range',I]
  have M:CR X c w.shape? (put ([pt (H.size + 2),pt (H.size + 3),pt (H.size + 4)] ++ un 3) (some 4) (.bool true)) (a0.put (some 4) (.bool true)).tmps.toList:=j0g y (.bool true) (some 4)
  refine t0P hcall (j:=3) F.blB (qB F.zA.length F.zA) 0 _ (g0M F H) c w (a0.put (some 4) (.bool true)) _ (fun i s hi=>?_) hR M (by rw [m0s];omega) ?_ ?_ e1 ?_
  ·refine ⟨?_,?_⟩
   ·unfold qB at hi
    match i,hi with
    | 0,hi=>simp at hi;rw [<- hi]
    | 1,hi=>simp at hi;rw [<- hi]
    | 2,hi=>simp at hi;rw [<- hi]
    | 3,hi=>simp at hi;rw [<- hi]
    | i + 4,hi=>simp at hi
   ·obtain ⟨x,h1,h2⟩:=l0R hl i s hi
    exact ⟨x,by simpa using h1,h2⟩
  ·intro i hi
   rw [F.oA2d,F.oA1d]
   simp only [Act.put,k1I,l1f]
   by_cases h4:4=i
   ·subst h4;simp [k]
   ·simp [h4,show ¬ 3=i by omega]
  ·rw [F.oA2d,F.oA1d];simp [Act.put]
  ·intro q b' w' U hd
   refine ⟨?_,.panicking [{ v,recovered:=true }],rfl,.tuple #[],?_,⟨_,rfl⟩,rfl,q,G',U,g2,g3,g4⟩
   ·rw [hd,c0Q,c0Q];exact N
   ·simp [results,F.resD]
end
section
variable {X:Cx} {call:Nat->FuncId->List Value->a0f->Res (Value × a0f)} {φ:Inj} {H H':a0f} {w:World} {fl:Nat}
theorem K0g (F:QF X.P) {t:b0c} {G:a0f} {m:Nat} {a:List Value} {k:IntKind} {n:Int} {b:Bool} (L:Z0J t m) (h:a.length=F.zA.length)
  (b2:G.bk (m + 2)=.row false F.tA a) (b3:G.bk (m + 3)=.row false F.tI [.int k n]) (e:G.bk (m + 4)=.row false F.tB [.bool b]) :
  e0S G t [.cell 4 true F.zA.length,.cell 5 false 1,.cell 6 false 1]=some [.agg a.toArray,.int k n,.bool b]:=by
 have j:=F.nz
 have c:=O0h b2 (by omega)
 rw [h] at c
 simp only [e0S,r0Z,L.a,L.i,L.b,c,B0Z b3,B0Z e]
theorem n0N (F:QF X.P) {t:b0c} {G:a0f} {c:Inj} {j:World} {a:Act} {vs:List Value} (hR:Rel X c G j) (hT:CR X c j.shape? t a.tmps.toList)
  (hv:e0S G t [.cell 4 true F.zA.length,.cell 5 false 1,.cell 6 false 1]=some vs):∃ v',(results F.fn a.tmps).run X.P j=.ok v' j/\VR X c j.shape? (d0y vs) v':=by
 obtain ⟨s,k,e⟩:=K0h F.res hv hR hT
 refine ⟨_,?_,x0v k⟩
 have q:results F.fn a.tmps=(do let vs <- F.fn.results.mapM (n0J a.tmps);pure (if h:vs.size=1 then vs[0] else .tuple vs)):=rfl
 rw [q,n1m]
 simp only [Sem.run_bind,Sem.run_map,e]
 rfl
theorem i1t {S:Shp} {a b c v:Value} (h:VR X φ S (.tuple #[a,b,c]) v):∃ e j c',v=.tuple #[e,j,c']/\VR X φ S a e/\VR X φ S b j/\VR X φ S c c':=by
 cases h with
 | tuple _ m h1 h2 =>
  have h:CR X φ S [a,b,c] m.toList:=VR.tuple_iff.1 (.tuple _ m h1 h2)
  obtain ⟨e,r,k,q,h⟩:=h.cons_left
  obtain ⟨j,r,rfl,s,h⟩:=h.cons_left
  obtain ⟨c',r,rfl,u,h⟩:=h.cons_left
  obtain rfl:=h.nil_left
  exact ⟨e,j,c',by rw [show m = #[e,j,c'] from Array.toList_inj.1 k],q,s,u⟩
theorem K0A {S:Shp} {a b c e h c':Value} (j:VR X φ S a e) (k:VR X φ S b h) (q:VR X φ S c c'):VR X φ S (.tuple #[a,b,c]) (.tuple #[e,h,c']) :=
 VR.tuple_iff.2 (CR.cons j (CR.cons k (CR.cons q CR.nil)))
theorem B0U {φ':Inj} {S S':Shp} {k:IntKind} {n:Int} {u:Value} (h:VR X φ S (.int k n) u):VR X φ' S' (.int k n) u:=by cases h;exact .int _ _
theorem w0V {φ':Inj} {S S':Shp} {b:Bool} {u:Value} (h:VR X φ S (.bool b) u):VR X φ' S' (.bool b) u:=by cases h;exact .bool _
theorem z0U (F:QF X.P) (hcall:e0l X call) (hdraw:s0a X call) (hnp:F.nL ≠ 0) (hns:F.nS ≠ 0) :
  e0l X fun fl f args H=>if f=F.fQ then match args with | [.agg p,.agg s]=>(if p.size=F.nL/\s.size=F.nS then e0e F.zA H (call (max fl H.size) F.fS [.agg #[],.agg p,.agg s] H) else .bad) | _=>.bad else .bad:=by
 intro fl f args H φ w args' hR hA hfl
 refine And.intro ?_ ?_
 case refine_2 =>
  intro v he
  exfalso
  simp only at he
  split at he
  ·split at he
   ·split at he
    ·unfold e0e at he
     split at he
     ·cases he
     ·cases he
     ·cases he
     ·split at he
      ·split at he <;> cases he
      ·cases he
     ·cases he
    ·cases he
   ·cases he
  ·cases he
 intro v H' he
 simp only at he
 split at he
 case isFalse=>cases he
 rename_i hf
 subst hf
 split at he
 case h_2=>cases he
 rename_i p s
 split at he
 case isFalse=>cases he
 rename_i hsz
 rw [show max fl H.size=H.size by omega] at he
 obtain ⟨u0,r,hl0,hp0,hA1⟩:=hA.cons_left
 obtain ⟨u1,r,rfl,hs0,hA2⟩:=hA1.cons_left
 obtain rfl:=hA2.nil_left
 have has:args'.size=2:=by have:=n1E List.length hl0;simpa using this
 refine ⟨F.hrun,calls_of_wp_defers F.hfn F.body ?_⟩
 -- region 0
 generalize ha0:({ tmps:=args' ++ Array.replicate (F.fn.ntmps - args'.size) undef,defers:=[] }:Act)=a0
 have hd0:a0.defers=[]:=by rw [<- ha0]
 have hT0:CR X φ w.shape? ([.agg p,.agg s] ++ un 15) a0.tmps.toList:=by
  rw [<- ha0,has,F.nt,m1M,Array.toList_replicate]
  refine hA.append ?_
  show CR X φ w.shape? (un 15) (List.replicate 15 undef)
  unfold un
  generalize 15=m
  induction m with
  | zero=>exact CR.nil
  | succ m ih=>exact CR.cons VR.undef ih
 refine wp_seq (wp_mono (e0y hcall hdraw 1 _ _ H.size _ H φ w a0 F.c0 hR hT0 (k1x _) hd0 (by rw [i1r];simp)).wp ?_)
 intro e a1 w1 hp
 rw [i1r F p s] at hp
 obtain ⟨rfl,hd1,φ1,hT1,hst1⟩:=hp
 -- region 1
 show (Code.seq _ _).wp _ _ a1 w1
 refine wp_seq (wp_region ?_)
 rw [show List.range F.ops1.size=List.range' 0 (q1 F.fD).length ++ [1] by rw [F.h1];rfl]
 refine r0G hcall (fl:=H.size) (q1 F.fD) 0 _ (hp5 F p s H) φ1 w1 a1 (fun i s hi=>?_) hst1.rel hT1 (by rw [x0j];omega) (k1n p s) ?_
 ·unfold q1 at hi
  match i,hi with
  | 0,hi=>simp at hi;subst hi;exact ⟨F.o1,by rw [F.h1];rfl,F.o1c⟩
  | i + 1,hi=>simp at hi
 intro φ2 a2 w2 hT2 hst2 hd2
 have hst02:=hst1.trans hst2 (k1x _) hR
 unfold wpOps
 rw [show F.ops1[1]? = some F.o2 by rw [F.h1];rfl]
 simp only [Region.wanted,F.o2g,l1o]
 refine .inl ?_
 have h7:=hT2.get 7
 rw [show (tm7 F.fD p s H.size).getD 7 undef=.func (.func F.fD) #[] #[pt (H.size + 2),pt (H.size + 3),pt (H.size + 4)] from rfl,<- a0V] at h7
 generalize hu7:a2.tmps.getD 7 undef=u7 at h7
 cases h7 with
 | func _ _ _ a' cap g1 g2 g3 g4 =>
 have ha':a' = #[]:=by simpa using g1.symm
 subst ha'
 have hdef:(execOp a2.eval F.o2).run X.P w2=.ok (.defer { target:=.fn (.func F.fD) cap,args:=#[] }) w2:=by
  have:a2.eval (.tmp 7)=.func (.func F.fD) #[] cap:=hu7
  simp [execOp,F.o2o,resolve,Deferred.ofValue,this]
 unfold Oper.wp
 rw [hdef,Oper.upon_defer,F.o2d]
 unfold wpOps
 have hcap:cap.size=3:=by have:=g3;simpa using this.symm
 -- region 2
 generalize hD:([{ target:=.fn (.func F.fD) cap,args:=#[] }]:List Deferred)=D
 generalize ha3:({ a2 with defers:={ target:=.fn (.func F.fD) cap,args:=#[] } :: a2.defers }:Act).put none undef=a3
 have hd3:a3.defers=D:=by rw [<- ha3,<- hD];show _ :: a2.defers=_;rw [hd2,hd1]
 have ht3:a3.tmps=a2.tmps:=by rw [<- ha3];rfl
 show (Code.seq _ _).wp _ _ a3 w2
 refine wp_seq (wp_region ?_)
 have hc2:=F.c2
 simp only [e0n,k1C,k1w,k1F,k1z,SCode.reg.injEq] at hc2
 obtain ⟨l2,hl2,hlq⟩:=hc2
 subst hlq
 have hlen2:F.ops2.size=9:=by have:=j0I hl2;simp [q2a,q2b] at this;omega
 rw [show List.range F.ops2.size=List.range' 0 (q2a F.nL F.nS).length ++ (3 :: List.range' 4 (q2b F.zA.length).length) by rw [hlen2];rfl]
 have hget2:=l0R hl2
 refine r0G hcall (fl:=H.size) (q2a F.nL F.nS) 0 _ (hp5 F p s H) φ2 w2 a3 (fun i s hi=>?_) hst2.rel (by rw [ht3];exact hT2) (by rw [x0j];omega) (k1o F hsz.1 hsz.2 hnp hns) ?_
 ·obtain ⟨x,h1,h2⟩:=hget2 i s (by
   have hlt:i < (q2a F.nL F.nS).length:=(l1b.1 hi).1
   rw [l1i hlt];exact hi)
  exact ⟨x,by simpa using h1,h2⟩
 intro φ3 a4 w3 hT3 hst3 hd4
 have hst03:=hst02.trans hst3 (k1x _) hR
 have hR3:Rel X φ H w3:=hst03.rel0 hR
 have hd4':a4.defers=D:=hd4.trans hd3
 -- where the own blocks lie
 have hown:∀ k,k < 5->∃ x,φ3 (H.size + k)=some x:=by
  intro k hk
  have h:=hT3.get (k + 2)
  have e:(t0Y F.fD p s H.size).getD (k + 2) undef=pt (H.size + k):=by
   match k,hk with
   | 0,_=>rfl
   | 1,_=>rfl
   | 2,_=>rfl
   | 3,_=>rfl
   | 4,_=>rfl
  rw [e] at h
  unfold pt at h
  generalize a4.tmps.toList.getD (k + 2) undef=u at h
  cases h with
  | ptr _ _ B o h1 h2 h3=>exact ⟨_,h2⟩
 obtain ⟨B,o,hφ⟩:∃ B o:Nat->Nat,∀ k,k < 5->φ3 (H.size + k)=some (B k,o k) :=
  ⟨fun k=>((φ3 (H.size + k)).getD (0,0)).1,fun k=>((φ3 (H.size + k)).getD (0,0)).2,fun k hk=>by obtain ⟨x,hx⟩:=hown k hk;simp [hx]⟩
 have O:=b1L F hR hst03 hφ
 have hφ2:∀ k,k < 5->φ2 (H.size + k)=some (B k,o k):=by
  intro k hk
  have h:=hT2.get (k + 2)
  have e:(tm7 F.fD p s H.size).getD (k + 2) undef=pt (H.size + k):=by
   match k,hk with
   | 0,_=>rfl
   | 1,_=>rfl
   | 2,_=>rfl
   | 3,_=>rfl
   | 4,_=>rfl
  rw [e] at h
  unfold pt at h
  generalize a2.tmps.toList.getD (k + 2) undef=u at h
  cases h with
  | ptr _ _ B' o' h1 h2 h3=>rw [h2,<- hst3.ext _ _ h2,hφ k hk]
 have hcapG:∀ (φ':Inj) (S:Shp) (m:Nat),(∀ k,k < 5->φ' (m + k)=some (B k,o k))->CR X φ' S [pt (m + 2),pt (m + 3),pt (m + 4)] cap.toList:=by
  intro φ' S m h
  refine ⟨by simp [hcap],fun i hi=>?_⟩
  rw [<- a0V]
  have hi3:i < 3:=by simpa using hi
  match i,hi3 with
  | 0,_=>exact h0E (hφ2 2 (by omega)) (h 2 (by omega)) (by simpa using g4 0 (by simp))
  | 1,_=>exact h0E (hφ2 3 (by omega)) (h 3 (by omega)) (by simpa using g4 1 (by simp))
  | 2,_=>exact h0E (hφ2 4 (by omega)) (h 4 (by omega)) (by simpa using g4 2 (by simp))
 -- the call
 unfold wpOps
 rw [F.o3i]
 simp only [Region.wanted,F.o3g,l1o]
 refine .inl ?_
 have h9:=hT3.get 9
 have h10:=hT3.get 10
 have h11:=hT3.get 11
 rw [show (t0Y F.fD p s H.size).getD 9 undef=.agg #[] from rfl,<- a0V] at h9
 rw [show (t0Y F.fD p s H.size).getD 10 undef=.agg p from rfl,<- a0V] at h10
 rw [show (t0Y F.fD p s H.size).getD 11 undef=.agg s from rfl,<- a0V] at h11
 have hargs:CR X φ w3.shape? [.agg #[],.agg p,.agg s] (#[a4.tmps.getD 9 undef,a4.tmps.getD 10 undef,a4.tmps.getD 11 undef]:Array Value).toList:=by
  refine CR.cons ?_ (CR.cons (VR.back hR hst03 hp0 h10) (CR.cons (VR.back hR hst03 hs0 h11) CR.nil))
  generalize a4.tmps.getD 9 undef=u at h9
  cases h9 with
  | agg _ a' g1 g2=>exact .agg _ _ g1 (fun i hi=>by simp at hi)
 have hcl:=hcall H.size F.fS [.agg #[],.agg p,.agg s] H φ w3 #[a4.tmps.getD 9 undef,a4.tmps.getD 10 undef,a4.tmps.getD 11 undef] hR3 hargs (k1x _)
 have hex:(execOp a4.eval F.o3).run X.P w3=(callFunc F.fS #[a4.tmps.getD 9 undef,a4.tmps.getD 10 undef,a4.tmps.getD 11 undef]).run X.P w3:=by
  unfold execOp
  rw [F.o3o]
  simp [resolve,Deferred.ofValue,invoke,Act.eval]
 unfold Oper.wp
 rw [hex]
 cases hcr:call H.size F.fS [.agg #[],.agg p,.agg s] H with
 | bad=>rw [hcr] at he;simp [e0e] at he
 | pan v0 =>
  rw [hcr] at he
  obtain ⟨⟨ty,u,rfl⟩,hruns,hcalls⟩:=hcl.2 v0 hcr
  simp only [e0e,Res.ok.injEq,m1t] at he
  obtain ⟨rfl,rfl⟩:=he
  rw [d0U hruns]
  refine Calls.mono hcalls ?_
  rintro e w4 ⟨⟨ty',u',rfl⟩,hpan⟩
  have hst4:=L0X hR3 hpan
  have hold:∀ k,k < 5->w4.heap[B k]? = w3.heap[B k]?:=fun k hk=>hst4.old hR3 (O.hi k hk)
  have r5:=t0d F O hst4.rel hold (C0p F hR O hR3 hst4)
  have sl:=n0P (B:=B) (o:=o) (m:=H.size) (S2:=w4.shape?) hR hst03 hp0 hs0 hφ (fun k hk=>q0Z (φ:=φ) k hk) (fun b x hb=>by rw [v0b (hR.lt b x hb)];exact hb) hst4.shp hT3
  show Leaves X.P F.fn a4.tmps _ a4.defers _ w4
  rw [hd4',<- hD]
  have hcapR:CR X (C0M φ H.size B o) w4.shape? [pt (H.size + 2),pt (H.size + 3),pt (H.size + 4)] cap.toList:=by
   exact hcapG _ _ _ fun k hk=>q0Z k hk
  refine leaves_cons (by simp) (by simp only [invoke];rw [d0U F.runD];simp) (CallsD.mono (L0l F hcall hdraw rfl r5 hcapR) ?_)
  rintro e u'' w5 ⟨⟨x,rfl⟩,rfl,φ5,G',hst5,b2,b3,b4⟩
  show Leaves X.P F.fn a4.tmps _ [] (settle (.panicking [{ v:=.iface ty' u',recovered:=true }])) w5
  have L:Z0J (t0Y F.fD p s H.size) H.size:=⟨rfl,rfl,rfl,rfl⟩
  obtain ⟨v',hrun,hvr⟩:=n0N F hst5.rel (sl.mo hst5.ext hst5.shp) (K0g F L rfl b2 b3 b4)
  refine ⟨v',hrun,v',φ,rfl,?_,x0f F hR hfl hst03 O hst4 hst5⟩
  have e1:d0y [.agg F.zA.toArray,.int .i64 0,.bool false]=.tuple #[.agg F.zA.toArray,.int .i64 0,.bool false]:=rfl
  rw [e1] at hvr
  obtain ⟨x1,x2,x3,rfl,k1,k2,k3⟩:=i1t hvr
  refine K0A ?_ (B0U k2) (w0V k3)
  cases k1 with
  | agg _ m h1 h2 =>
   refine VR.agg_iff.2 (s0K F.zf (VR.agg_iff.1 (.agg _ m h1 h2)))
 | ok r0 =>
  obtain ⟨v0,H0⟩:=r0
  rw [hcr] at he
  obtain ⟨hruns,hcalls⟩:=hcl.1 v0 H0 hcr
  obtain ⟨a,k,n,rfl,rfl,rfl,hasz,hapl⟩:∃ a k n,v0=.tuple #[.agg a,.int k n]/\v=.tuple #[.agg a,.int k n,.bool true]/\H' = H0/\a.size=F.zA.length/\a.toList.all a0v=true:=by
   cases v0 <;> simp only [e0e] at he <;> try cases he
   rename_i vs
   split at he
   ·rename_i a k n heq
    split at he
    ·rename_i hc
     simp only [Res.ok.injEq,m1t] at he
     obtain ⟨rfl,rfl⟩:=he
     exact ⟨a,k,n,by rw [show vs = #[.agg a,.int k n] from Array.toList_inj.1 heq],rfl,rfl,hc.1,hc.2⟩
    ·cases he
   ·cases he
  rw [d0U hruns]
  refine Calls.mono hcalls ?_
  rintro e w4 ⟨v0',φ',rfl,hv0,hst4⟩
  have hold:∀ k,k < 5->w4.heap[B k]? = w3.heap[B k]?:=fun k hk=>hst4.old hR3 (O.hi k hk)
  have r5:=t0d F O hst4.rel hold (C0p F hR O hR3 hst4)
  have hext5:∀ b x,φ' b=some x->C0M φ' H'.size B o b=some x:=fun b x hb=>by rw [v0b (hst4.rel.lt b x hb)];exact hb
  have sl:=n0P (B:=B) (o:=o) (m:=H'.size) (S2:=w4.shape?) hR hst03 hp0 hs0 hφ (fun k hk=>q0Z (φ:=φ') k hk) (fun b x hb=>hext5 b x (hst4.ext b x hb)) hst4.shp hT3
  have sl2:=j0g sl (hv0.mo hext5 (fun _ _ h=>h)) F.o3.dst
  obtain ⟨t4,G4,e4,L4,hG4,b2,b3,b4⟩:=k1q (call:=call) (H':=H') F (p:=p) (s:=s) (k:=k) (n:=n) hasz hapl
  have hd5:(a4.put F.o3.dst v0').defers=D:=by rw [c0Q];exact hd4'
  have hops4:∀ i s',(q2b F.zA.length)[i]? = some s'->∃ o,F.ops2[4 + i]? = some o/\g0V X.P F.ops2 true o=some s':=fun i s' hi=>by
   obtain ⟨x,h1,h2⟩:=hget2 (4 + i) s' (by
    rw [show 4 + i=(q2a F.nL F.nS).length + (i + 1) by simp [q2a];omega,l1n (by omega)]
    simpa using hi)
   exact ⟨x,by simpa using h1,h2⟩
  show wpOps X.P F.ops2 _ (List.range' 4 (q2b F.zA.length).length) (a4.put F.o3.dst v0') w4
  refine d0n ?_ (r0H hcall (fl:=H'.size) (D:=D) (q2b F.zA.length) 4 _ (g0M F H') (C0M φ' H'.size B o) w4 (a4.put F.o3.dst v0') hops4 r5 (by rw [F.o3d] at sl2 ⊢;exact sl2) (by rw [m0s];omega) hd5 (by rw [e4];simp))
  rintro e a6 w5 hp
  rw [e4] at hp
  obtain ⟨rfl,hd6,φ5,hT6,hst5⟩:=hp
  show (Code.seq _ _).wp _ _ a6 w5
  obtain ⟨t5,G5,e5,L5,c2,c3,c4⟩:=k1p (call:=call) (bef:=F.bef) F L4 (by simp [hasz]) hapl b2 b3 b4
  refine wp_seq (wp_mono (e0y hcall hdraw 1 _ _ H'.size _ G4 φ5 w5 a6 F.c3 hst5.rel hT6 (by omega) hd6 (by rw [e5];simp)).wp ?_)
  rintro e a7 w6 hp
  rw [e5] at hp
  obtain ⟨rfl,hd7,φ6,hT7,hst6⟩:=hp
  show (Code.ret).wp _ _ a7 w6
  refine wp_ret ?_
  show Leaves X.P F.fn a7.tmps _ a7.defers .returning w6
  rw [hd7,<- hD]
  refine leaves_cons (by simp) (by simp only [invoke];rw [d0U F.runD];simp) (CallsD.mono (L0m F hcap) ?_)
  rintro e u'' w7 ⟨⟨x,rfl⟩,rfl,rfl⟩
  show Leaves X.P F.fn a7.tmps _ [] .returning w7
  have hst56:=hst5.trans hst6 (k1x _) r5
  obtain ⟨v',hrun,hvr⟩:=n0N F hst6.rel hT7 (K0g F L5 (by simp [hasz]) c2 c3 c4)
  refine ⟨v',hrun,v',φ',rfl,?_,x0f F hR hfl hst03 O hst4 hst56⟩
  have e1:d0y [.agg a.toList.toArray,.int k n,.bool true]=.tuple #[.agg a,.int k n,.bool true]:=by simp [d0y]
  rw [e1] at hvr
  obtain ⟨x1,x2,x3,rfl,k1,k2,k3⟩:=i1t hvr
  refine K0A ?_ (B0U k2) (w0V k3)
  -- the answer's own cells lead where they led
  obtain ⟨y,hy⟩:∃ y,VR X φ' w4.shape? (.agg a) y:=by
   cases hv0 with
   | tuple _ m h1 h2 =>
    have h:=h2 0 (by simp)
    exact ⟨_,by simpa using h⟩
  have ky:=VR.back r5 hst56 (hy.mo hext5 (fun _ _ h=>h)) k1
  refine (VR.cut (m:=H'.size) (fun b y hb=>hst4.rel.lt b y hb) hy ky).mo (fun b x hx=>?_) (fun _ _ h=>h)
  obtain ⟨g1,g2⟩:=b0A.1 hx
  rw [v0b g1] at g2;exact g2
end
section
def K0d:Code->Array Oper | .region _ ops _=>ops | _=>#[]
def g1o:Code->Code | .cond _ a _=>a | _=>.skip
def d1I:Nat->Code->Code
 | 0,.seq a _=>a
 | k + 1,.seq _ b=>d1I k b
 | _,c=>c
def W0C (f:Func):Code:=f.body.getD .skip
def W0H:Option SCode->List Nat | some (.draw _ b _)=>b | _=>[]
def opT (o:Oper):TypeId:=match o.op with | .binOp _ t _ _ _=>t | _=>0
def g1k (o:Oper):Array TypeId:=match o.op with | .call c=>c.argTypes | _=>#[]
def b1x:Option TypeDesc->Array (String × TypeId) | some (.interface x)=>x | _=>#[]
theorem z0l {P:Program} {t:TypeId} {ifs:Array (String × TypeId)} (c:P.underlying t=some (.interface ifs)) (w:World):(Op.equal t .nilIface .nilIface).run P w=.ok true w:=by
 unfold Op.equal Op.maxDepth;rw [Op.equalIn];simp only [Sem.run_bind,run_underlying c,Result.andThen_ok];rfl
theorem u0z {P:Program} {t:TypeId} {ifs:Array (String × TypeId)} (c:P.underlying t=some (.interface ifs)) (e:TypeId) (u:Value) (w:World):(Op.equal t (.iface e u) .nilIface).run P w=.ok false w:=by
 unfold Op.equal Op.maxDepth;rw [Op.equalIn];simp only [Sem.run_bind,run_underlying c,Result.andThen_ok];rfl
theorem X0v {P:Program} {o:Oper} {t t':TypeId} {ifs:Array (String × TypeId)} (ho:o.op=.binOp .neq t (.tmp 3) (.const .nilIface) t') (e:P.underlying t=some (.interface ifs)) (ρ:Operand->Value) (w:World)
  (h:ρ (.tmp 3)=.nilIface) (c:ρ (.const .nilIface)=.nilIface):(execOp ρ o).run P w=.ok (.value (.bool false)) w:=by
 simp [execOp,ho,h,c,eqGuard,binOp,z0l e]
theorem L0O {P:Program} {o:Oper} {t t':TypeId} {ifs:Array (String × TypeId)} (ho:o.op=.binOp .neq t (.tmp 3) (.const .nilIface) t') (e:P.underlying t=some (.interface ifs)) (ρ:Operand->Value) (w:World) (j:TypeId) (u:Value)
  (h:ρ (.tmp 3)=.iface j u) (c:ρ (.const .nilIface)=.nilIface):(execOp ρ o).run P w=.ok (.value (.bool true)) w:=by
 simp [execOp,ho,h,c,eqGuard,binOp,u0z e]
noncomputable def M0b (k:Nat):Array Oper:=K0d (d1I k (W0C Tryz.f84))
noncomputable def qA:Array Oper:=K0d (d1I 0 (W0C Tryz.f112))
noncomputable def qB':Array Oper:=K0d (g1o (d1I 1 (W0C Tryz.f112)))
noncomputable def qf:QF Tryz.prog where
 fQ:=L0v;fD:=h1B;fS:=s0y;fn:=Tryz.f84;fnD:=Tryz.f112
 tL:=b0M;tS:=a0Q;tA:=b0X;tI:=e0L;tB:=4
 zA:=(match env.quick with | some q=>q.zero | none=>[])
 nL:=(match env.quick with | some q=>q.np | none=>0)
 nS:=(match env.quick with | some q=>q.ns | none=>0)
 ops0:=M0b 0;ops1:=M0b 1;ops2:=M0b 2;ops3:=M0b 3;opsA:=qA;opsB:=qB'
 i0:=0;i1:=1;i2:=2;i3:=3;iA:=0;iB:=1
 o1:=(M0b 1).getD 0 default;o2:=(M0b 1).getD 1 default;o3:=(M0b 2).getD 3 default;oA1:=qA.getD 0 default;oA2:=qA.getD 1 default
 bef:=W0H (e0n Tryz.prog (.region 3 (M0b 3) true))
 hfn:=Tryz.func84
 hrun:=by kernel_rfl
 body:=by kernel_rfl
 np:=by kernel_rfl
 nt:=by kernel_rfl
 res:=by kernel_rfl
 c0:=by kernel_rfl
 h1:=by kernel_rfl
 o1c:=by kernel_rfl
 o2g:=by kernel_rfl
 o2d:=by kernel_rfl
 o2o:=by kernel_rfl
 c2:=by kernel_rfl
 o3i:=by kernel_rfl
 o3g:=by kernel_rfl
 o3d:=by kernel_rfl
 ats:=g1k ((M0b 2).getD 3 default)
 o3o:=by kernel_rfl
 c3:=by kernel_rfl
 nz:=by decide
 zf:=by kernel_rfl
 zp:=by kernel_rfl
 hfnD:=Tryz.func112
 runD:=by kernel_rfl
 bodyD:=by kernel_rfl
 ntD:=by kernel_rfl
 resD:=by kernel_rfl
 hA:=by kernel_rfl
 oA1g:=by kernel_rfl
 oA1d:=by kernel_rfl
 oA1o:=by kernel_rfl
 oA2g:=by kernel_rfl
 oA2d:=by kernel_rfl
 oA2f:=fun ρ w h h'=>X0v (t:=opT (qA.getD 1 default)) (t':=opT (qA.getD 1 default)) (ifs:=b1x (Tryz.prog.underlying (opT (qA.getD 1 default)))) (by kernel_rfl) (by kernel_rfl) ρ w h h'
 oA2t:=fun ρ w ty u h h'=>L0O (t:=opT (qA.getD 1 default)) (t':=opT (qA.getD 1 default)) (ifs:=b1x (Tryz.prog.underlying (opT (qA.getD 1 default)))) (by kernel_rfl) (by kernel_rfl) ρ w ty u h h'
 blB:=by kernel_rfl
 cB:=by kernel_rfl
