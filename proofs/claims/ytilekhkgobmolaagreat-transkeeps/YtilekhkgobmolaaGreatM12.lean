/- Part 13 of the proof. -/
import Derived.Test.YtilekhkgobmolaaGreatM11
set_option linter.unusedVariables false
set_option linter.unusedSimpArgs false
set_option linter.unusedSectionVars false
set_option maxHeartbeats 4000000
namespace Go.Proofs.YtilekhkgobmolaaGreat.AI
open Go
section
open SX
variable {fl:Nat} {H G:a0f} {R:a0D} {v w u:Value}
def Oth (H:a0f) (P:Nat) (sA sB:Value) (G:a0f):Prop:=H.size<=G.size/\∀ b,b < H.size->b ≠ P->slB sA ≠ some b->slB sB ≠ some b->G.bk b=H.bk b
theorem Oth.ext {P:Nat} {j sB:Value} {H0:a0f} (h:Oth H P j sB G) (q:H0.size<=fl) (k:fl<=P) (hA:∀ b,slB j=some b->fl<=b) (hB:∀ b,slB sB=some b->fl<=b) (e:Ext H0 H):Ext H0 G :=
 ⟨k1H e.1 h.1,fun b hb=>by
  rw [h.2 b (by have:=e.1;omega) (by omega) (fun c=>by have:=hA b c;omega) (fun c=>by have:=hB b c;omega)];exact e.2 b hb⟩
theorem Oth.step {P:Nat} {e sB:Value} {G':a0f} (h:Oth H P e sB G) (c:Ext G G'):Oth H P e sB G' :=
 ⟨k1H h.1 c.1,fun b hb j k q=>(c.2 b (by have:=h.1;omega)).trans (h.2 b hb j k q)⟩
theorem Oth.stepB {P:Nat} {e sB s:Value} {G':a0f} (h:Oth H P e sB G) (q:d0o (slB s) G G') (hs:∀ b,slB s=some b->slB e=some b ∨ slB sB=some b ∨ H.size<=b):Oth H P e sB G' :=
 ⟨k1H h.1 q.1,fun b hb u j k=>(q.2 b (by have:=h.1;omega) (fun v=>by
  rcases hs b v with c | c | c
  ·exact j c
  ·exact k c
  ·omega)).trans (h.2 b hb u j k)⟩
theorem Oth.set {P:Nat} {e sB:Value} {G':a0f} {X:Blk} (h:Oth H P e sB G) (q:Array.setIfInBounds G P X=G'):Oth H P e sB G':=by
 subst q
 exact ⟨by simpa using h.1,fun b hb c j k=>(a0T (m1m c)).trans (h.2 b hb c j k)⟩
theorem PIL.two {b k:Nat} {ro:Bool} {x y:Value} {l m:List (Bool × List Nat)} (hb:a0f.bk G b=.row ro b0i [x,y]) (e:c0A G x l) (h:c0A G y m):Sls PIL G b0i 1 (.slice (some ⟨b,0,none⟩) 2 k) [l,m]:=by
 refine ⟨[x,y],⟨rfl,.inr ⟨b,0,k,ro,[x,y],rfl,hb,by simp,by simp⟩⟩,fun j c=>?_⟩
 match j,c with
 | 0,_=>exact ⟨x,rfl,e⟩
 | 1,_=>exact ⟨y,rfl,h⟩
theorem A0u {k:Bool × List Nat}:b0y (a0g (-a0s k))=a0e (-vQ k):=by
 unfold b0y vQ
 rw [a0h,Rat.intCast_neg]
structure Y0P (fl f:Nat) (H:a0f) (P N:Nat) (sA sB sC:Value) (A:List (List b0b)) (B:List b0b):Prop where
 bk:a0f.bk H P=.row false b0M [.int .i64 (N:Int),sA,sB,sC]
 A:b0d (PSf f (slB sB)) fl H a0N 1 sA A
 B:b0d PR fl H a0b 4 sB B
theorem Y0P.mo {P N f0:Nat} {e sB sC:Value} {A:List (List b0b)} {B:List b0b} (h:Y0P fl f0 H P N e sB sC A B) (c:Ext H G):Y0P fl f0 G P N e sB sC A B:=⟨c.bk h.bk,h.A.mo k0B c,h.B.mo a0K c⟩
theorem u0g.mem {a:e0K} (h:u0g a) {x:Bool × List Nat} (e:x ∈ a.all):x.2.length<=40:=by
 rcases k1T.1 e with c | c
 ·exact (h.1 x c).1
 ·exact (h.2.1 x c).1
def q0d (fl f0:Nat) (H:a0f) (P N:Nat) (sA sB sC:Value) (A:List (List b0b)) (B:List b0b) (gs:List e0K) (G:a0f):Prop :=
 Oth H P sA sB G/\∃ sA' sB',Y0P fl f0 G P N sA' sB' sC (A ++ gs.map fun g=>g.all.map b0y) (B ++ gs.map fun g=>a0e (-vQ g.K))/\(∀ b,slB sA' = some b->slB sA=some b ∨ slB sB=some b ∨ H.size<=b)/\(∀ b,slB sB' = some b->slB sA=some b ∨ slB sB=some b ∨ H.size<=b)
theorem q0d.low {P N f0:Nat} {e sB sC:Value} {A:List (List b0b)} {B:List b0b} {c:List e0K} (h:q0d fl f0 H P N e sB sC A B c G):H.size<=G.size:=h.1.1
theorem k0W {H0:a0f} {P N f0:Nat} {sA sB sC:Value} {A:List (List b0b)} {B:List b0b} {q:List e0K} (a8:Ext H0 H) (d4:H0.size<=fl) (hf:fl<=H.size) (e4:f0<=H.size) (hl:g0g H0 u q) (hP:fl<=P) (hp:Y0P fl f0 H P N sA sB sC A B)
  (hsz:q.length + A.length + B.length < 1073741824) (hg:∀ g ∈ q,u0g g/\g.all.length < 1073741824) :
  a0O env fl a1X [.pointer (some ⟨P,0,none⟩),u] H (fun _ H'=>q0d fl f0 H P N sA sB sC A B q H'/\g0d fl H H') R:=by
 refine m0r j1q hf (h:=?_)
 intro ρ h0
 have d5:∀ b,slB sA=some b->fl<=b:=fun b hb=>(hp.A.ge hb).1
 have d9:∀ b,slB sB=some b->fl<=b:=fun b hb=>(hp.B.ge hb).1
 simp [e1v,R0V,h0,(hl.mo c0d a8).slen]
 refine o0O (n:=q.length) (fun i ρ G=>ρ 0=.pointer (some ⟨P,0,none⟩)/\ρ 9=u/\q0d fl f0 H P N sA sB sC A B (q.take i) G) rfl rfl (by decide) (by omega) (by simp) (by simp) ?_ ?_ ?_ ?_
 ·exact ⟨by simp [h0],by simp [h0],⟨k1x _,fun _ _ _ _ _=>rfl⟩,sA,sB,by simpa using hp,fun b hb=>.inl hb,fun b hb=>.inr (.inl hb)⟩
 ·intro i ρ f5 G h hI;simpa [h] using hI
 ·clear h0 ρ
  rintro i ρ G hi gi gn ⟨Z,g9,z,d0,a6,c5,d6,e0⟩
  have F:=z.ext d4 hP d5 d9 a8
  have kl:=hl.mo c0d F
  obtain ⟨we,c4,k0⟩:=g0g.load kl hi
  obtain ⟨sX,sW,s,rfl,kX,kW,U⟩:=k0
  obtain ⟨⟨e7,e6,e5,c1⟩,g1⟩:=hg _ (k1D hi)
  have b8:=z.1
  have J:fl<=G.size:=k1H hf b8
  simp [R0W,R0X,g9,gi,kl.ia hi,c4,kX.cells,kW.cells,kX.plain,kW.plain,U.cells,U.plain,J]
  generalize hN:Array.setIfInBounds (Array.push _ _) _ _=G3
  obtain ⟨k,L⟩:=new1 hN
  clear hN
  obtain ⟨P2,b9⟩:∃ P2,P2=G.size:=⟨_,rfl⟩
  rw [<- b9] at L ⊢
  have a0:=c5.mo k
  replace z:=z.step k
  replace kX:=kX.mo b0s k
  replace kW:=kW.mo b0s k
  replace U:=U.mo k
  clear F c5 k b9 c4 kl J b8 G
  simp [R0Y,L,kX.cells,kW.cells]
  generalize hN:G3.push _=G4
  obtain ⟨k,b6⟩:=g0e hN
  clear hN
  have M:[q[i].X,q[i].W].flatten=q[i].all:=by simp [e0K.all]
  have a2:fl<=G4.size:=k1H hf (k1H z.1 k.1)
  refine (l0Z (PIL.two b6 (kX.mo b0s k) (kW.mo b0s k)) a2 (by simp) (by rw [M];omega)).mo ?_
  rintro c G5 ⟨kc,v⟩
  replace k:=k.trans v
  rw [M] at kc
  replace a0:=a0.mo k
  replace z:=z.step k
  replace L:=k.bk L
  replace U:=U.mo k
  clear v b6 k a2 M kX kW G4
  have O:fl<=G5.size:=k1H hf z.1
  have f9:f0<=G5.size:=k1H e4 z.1
  have e8:∀ x ∈ q[i].all,x.2.length<=40:=fun x F=>u0g.mem ⟨e7,e6,e5,c1⟩ F
  simp [kc.slen]
  refine d0b (n:=q[i].all.length) (fun j ρ G=>ρ 0=.pointer (some ⟨P,0,none⟩)/\ρ 9=u/\ρ 10=.int .i64 (q.length:Int)/\ρ 11=.int .i64 (i:Int)/\ρ 5=.pointer (some ⟨P2,0,none⟩)/\ρ 20=c/\Ext G5 G/\b0d PR G5.size G a0b 4 (ρ 6) ((q[i].all.map b0y).take j)) rfl rfl (by decide) (by omega) (by simp) (by simp) ?_ ?_ ?_ ?_
  ·exact ⟨by simp [Z],by simp [g9],by simp [gn],by simp [gi],by simp,by simp,Ext.refl _,by simpa using b0d.nil⟩
  ·intro i ρ f5 G h hI;simpa [h] using hI
  ·clear Z g9 gi gn ρ
   rintro j ρ G hj gj gm ⟨Z,g9,gn,gi,g5,a7,F,ho⟩
   obtain ⟨r,g6⟩:∃ r,ρ 6=r:=⟨_,rfl⟩
   rw [g6] at ho
   have kv:=kc.mo b0s F
   obtain ⟨y,I,q1⟩:=c0A.load kv hj
   have hsz:=k1H O F.1
   simp [R0Z,a7,gj,kv.ia hj,I,q1.cells,q1.plain,hsz]
   generalize hN:Array.setIfInBounds (Array.push _ _) _ _=G6
   obtain ⟨k,b6⟩:=new1 hN
   clear hN
   replace ho:=ho.mo a0K k
   replace F:=F.trans k
   replace q1:=q1.mo k
   clear k I kv
   simp [S0a,b6]
   refine (d0L (x:=q[i].all[j]) ⟨_,rfl,q1⟩ (k1H O F.1) (by have:=e8 _ (k1D hj);omega)).mo ?_
   rintro _ G2 ⟨⟨s3,s4,rfl,k3,k4⟩,k⟩
   replace ho:=ho.mo a0K k
   replace F:=F.trans k
   obtain ⟨s',G4,h1,h2,h3,h4⟩:=b0d.appUp (fl:=fl) (P:=PR) (sz:=4) (e:=a0b) (by decide) (fun G' cs x _ hl h=>b0L.lx h hl) ho (e2:=a0b) (c:=1) (bytes:=64) (new:=[.bool (b0y q[i].all[j]).1.1,s3,.bool (b0y q[i].all[j]).2.1,s4]) (x:=b0y q[i].all[j]) ⟨s3,s4,rfl,k3,k4⟩ rfl (by simp [k3.plain,k4.plain]) (by simp;omega) (by omega) (by omega) O F.1
   simp [g6,k3.cells,k4.cells,h1]
   exact Rnd.mk (by simp [gj]) (by simp [gm]) ⟨by simp [Z],by simp [g9],by simp [gn],by simp [gi],by simp [g5],by simp [a7],h4 _ (k1x _) F,b0d.cast (v':=s') (by simp) (by rw [l0X hj];exact h2)⟩
  clear Z g9 gi gn ρ
  rintro ρ G d1 d2 ⟨Z,g9,gn,gi,g5,d3,k,ho⟩
  clear d1 d2 d3
  rw [k1J (by simp)] at ho
  obtain ⟨r,g6⟩:∃ r,ρ 6=r:=⟨_,rfl⟩
  rw [g6] at ho
  have b4:∀ b,slB a6=some b->b < G5.size:=fun b h=>(a0.B.ge h).2
  obtain ⟨b3,hA,hB⟩:=a0.mo k
  replace L:=k.bk L
  replace z:=z.step k
  replace U:=U.mo k
  have f2:slB r=none ∨ slB r ≠ slB a6:=by
   cases hr1:slB r with
   | none=>exact .inl rfl
   | some b =>
    right;intro h
    have:=(ho.ge hr1).1
    have:=b4 b h.symm
    omega
  have f8:H.size<=G.size:=z.1
  have J:fl<=G.size:=k1H hf z.1
  obtain ⟨cr,pr⟩:=ho.cells
  obtain ⟨a5,G6,h1,h2,h3,h4⟩:=b0d.app (P:=PSf f0 (slB a6)) (sz:=1) (e:=a0N) (by decide)
   (fun G' cs x f3 hl ⟨w',q1,q2,q3,q4⟩=>⟨w',q1,q2.lx2 (hA.lxT (by decide) f3) hl,q3,q4⟩) hA (e2:=a0N) (c:=1) (bytes:=24) (new:=[r]) (x:=q[i].all.map b0y) ⟨r,rfl,ho.sls,f2,fun b hb=>by have:=(ho.ge hb).1;omega⟩ rfl (by simp [pr]) (by simp;omega) (by omega) (by omega) J
  obtain ⟨_,_,d7⟩:=e0D (by decide) h1
  have I:=hA.lx (by decide) h3
  have e9:=hA.lxT (e':=a0b) (by decide) h3
  have c8:=hA.ne b3 (by decide)
  have c9:=hA.ne L (by decide)
  have d8:=hA.blkOf
  have c3:=b3
  have f7:=h3.1
  replace z:=z.stepB h3 d6
  replace b3:=(h3.2 _ (a0k b3) c8).trans b3
  replace L:=(h3.2 _ (a0k L) c9).trans L
  replace U:=U.lx I
  replace hB:=hB.lxm (Q':=PR) e9 (fun cs x h=>b0L.lx h I)
  have f6:fl<=G6.size:=by omega
  refine c0R ?_
  simp [S0b,Z,g5,g6,c3,b3,L,cr,h1]
  clear c3
  refine (e0H (i:=q[i].K) ⟨_,rfl,U⟩ (by omega) (by omega)).mo ?_
  rintro _ G7 ⟨⟨s5,rfl,k5⟩,v⟩
  have g2:(a0g (-a0s q[i].K)).2.length<=40:=by
   have e1:=m0J c1
   have:lz (-a0s q[i].K)=lz (a0s q[i].K):=by unfold lz;rw [Int.natAbs_neg]
   show lz (-a0s q[i].K)<=40
   omega
  simp
  refine (d0L (x:=a0g (-a0s q[i].K)) ⟨s5,rfl,k5⟩ (by have:=v.1;omega) (by omega)).mo ?_
  rintro _ G8 ⟨⟨s3,s4,rfl,k3,k4⟩,c7⟩
  replace v:=v.trans c7
  clear c7 k5
  rw [A0u] at k3 k4 ⊢
  replace z:=z.step v
  replace b3:=v.bk b3
  replace L:=v.bk L
  replace hA:=h2.mo k0B v
  replace hB:=hB.mo a0K v
  have c2:fl<=G8.size:=by have:=v.1;omega
  obtain ⟨a1,G9,p1,p2,p3,p4⟩:=b0d.app (P:=PR) (sz:=4) (e:=a0b) (by decide) (fun G' cs x _ hl h=>b0L.lx h hl) hB (e2:=a0b) (c:=1) (bytes:=64) (new:=[.bool (a0e (-vQ q[i].K)).1.1,s3,.bool (a0e (-vQ q[i].K)).2.1,s4]) (x:=a0e (-vQ q[i].K)) ⟨s3,s4,rfl,k3,k4⟩ rfl (by simp [k3.plain,k4.plain]) (by simp;omega) (by omega) (by omega) c2
  obtain ⟨_,_,e3⟩:=e0D (by decide) p1
  have I:=hB.lx (by decide) p3
  have f4:=hB.ne b3 (by decide)
  have a3:slB a1 = some (G8.size + 1):=by rw [e3];simp [slB]
  have c6:slB a5 = some (G.size + 1):=by rw [d7];simp [slB]
  have a9:b0d (PSf f0 (slB a1)) fl G9 a0N 1 a5 (A ++ (q.take (i + 1)).map fun g=>g.all.map b0y):=by
   rw [k1N hi,n1c,<- m1u]
   refine hA.lxm (hB.lxT (by decide) p3) (fun cs x ⟨w',q1,q2,q3,q4⟩=>⟨w',q1,q2.off p3 q3 I,?_,q4⟩)
   cases hw:slB w' with
   | none=>exact .inl rfl
   | some b=>right;rw [a3];have:=q2.lt hw;simp;omega
  replace z:=z.stepB p3 e0
  replace b3:=(p3.2 _ (a0k b3) f4).trans b3
  have b1:b0d PR fl G9 a0b 4 a1 (B ++ (q.take (i + 1)).map fun g=>a0e (-vQ g.K)):=by rw [k1N hi,n1c,<- m1u];exact p2
  obtain ⟨cA,pA⟩:=a9.cells
  obtain ⟨cB,pB⟩:=b1.cells
  have hz:=a0k b3
  simp [Z,b3,k3.cells,k4.cells,p1,cA,pA,cB,pB,hP,hz]
  generalize a4:Array.setIfInBounds G9 P _=G10
  have t1:∀ {e:Nat},b0M ≠ e->LxT e G9 G10:=fun f1=>b0f a4 b3 f1
  have c0:∀ x,x ∈ blkW d0->slB d0=some x:=by
   rcases d8 with h | ⟨b,h,h'⟩
   ·rw [h];simp
   ·rw [h,h'];simp
  refine ⟨⟨fun x F h=>c8 (by rw [c0 x F,h]),fun x F h=>c9 (by rw [c0 x F,h])⟩,Rnd.mk (by simp [gi]) (by simp [gn]) ⟨by simp [Z],by simp [g9],z.set a4,a5,a1,⟨a0r a4 b3,?_,?_⟩,fun b hb=>.inr (.inr ?_),fun b hb=>.inr (.inr ?_)⟩⟩
  ·exact a9.lxm (t1 (by decide)) (fun cs x ⟨w',q1,q2,q3,q4⟩=>⟨w',q1,q2.lx2 (t1 (by decide)) (t1 (by decide)),q3,q4⟩)
  ·exact b1.lxm (t1 (by decide)) (fun cs x h=>b0L.lx h (t1 (by decide)))
  ·rw [c6] at hb;cases hb;omega
  ·rw [a3] at hb;cases hb;have:=v.1;omega
 ·rintro ρ G gi gn ⟨Z,g9,hq⟩
  rw [k1M] at hq
  simp
  exact hq
theorem Sls.lxm {α:Type} {Q Q':a0f->List Value->α->Prop} {e sz:Nat} {l:List α} (h:Sls Q H e sz v l) (j:LxT e H G) (q:∀ cs x,Q H cs x->Q' G cs x):Sls Q' G e sz v l:=by
 obtain ⟨cs,⟨u,hs⟩,hp⟩:=h
 refine ⟨cs,⟨u,?_⟩,fun k s=>q _ _ (hp k s)⟩
 rcases hs with hs | ⟨b,off,cap,ro,cells,rfl,hb,ho,c⟩
 ·exact .inl hs
 ·exact .inr ⟨b,off,cap,ro,cells,rfl,j _ _ _ hb,ho,c⟩
theorem d0o.lxT {C e e':Nat} {ro:Bool} {cs:List Value} (h:d0o (some C) H G) (hb:a0f.bk H C=.row ro e' cs) (j:e' ≠ e):LxT e H G:=by
 intro b q k c
 rw [h.2 b (a0k c) (by rintro ⟨⟩;rw [hb] at c;cases c;exact j rfl)];exact c
theorem d0o.trans' {o:Option Nat} {G':a0f} (h:d0o o H G) (k:d0o o G G'):d0o o H G' :=
 ⟨k1H h.1 k.1,fun b hb c=>(k.2 b (by have:=h.1;omega) c).trans (h.2 b hb c)⟩
theorem b0d.blkAt {α:Type} {Q:a0f->List Value->α->Prop} {e sz C n k:Nat} {l:List α} (h:b0d Q fl G e sz (.slice (some ⟨C,0,none⟩) n k) l):∃ cs,a0f.bk G C=.row false e cs:=by
 obtain ⟨j,⟨q,⟨c,_⟩ | ⟨s,cap,c,hp,v⟩⟩,u⟩:=h
 ·cases c
 ·cases c;exact ⟨_,hp⟩
def o0a (y:List b0b) (set:List e0K) (N i j:Nat):List b0b :=
 (List.range N).map fun q=>a0e (rs (fun t=>b0t (y.getD t c0z) * vQ ((set.getD t aff0).all.getD q iz)) (if q < j then i + 1 else i))
def K0G (y:List b0b) (set:List e0K) (i:Nat):b0b:=a0e (rs (fun t=>b0t (y.getD t c0z) * vQ (set.getD t aff0).K) i)
section
variable {y:List b0b} {set:List e0K} {N i j:Nat}
theorem K0X:(o0a y set N i j).length=N:=by simp [o0a]
theorem w0Q (h:j < (o0a y set N i j).length):(o0a y set N i j)[j]=a0e (rs (fun t=>b0t (y.getD t c0z) * vQ ((set.getD t aff0).all.getD j iz)) i):=by
 simp [o0a]
theorem K0Y (s:j < N):(o0a y set N i j).set j (a0e (rs (fun t=>b0t (y.getD t c0z) * vQ ((set.getD t aff0).all.getD j iz)) (i + 1)))=o0a y set N i (j + 1):=by
 apply n1q
 ·simp [o0a]
 ·intro q h k
  rw [List.getElem_set]
  by_cases e:j=q
  ·subst e;simp [o0a]
  ·rw [k1y e]
   simp only [o0a,l1m,m1i]
   by_cases c:q < j
   ·rw [k1B c,k1B (by omega)]
   ·rw [k1y c,k1y (by omega)]
theorem A0T:o0a y set N i N=o0a y set N (i + 1) 0:=by
 unfold o0a
 refine m1d fun q c=>?_
 rw [k1B (l1G.1 c),k1y (by omega)]
theorem A0U:o0a y set N 0 0=List.replicate N (a0e 0):=by
 apply n1q
 ·simp [o0a]
 ·intro q c e;simp [o0a,rs]
theorem K0W:o0a y set N set.length 0=(List.range N).map fun j=>a0e (gC y set j):=by
 unfold o0a gC
 refine m1d fun q c=>?_
 rw [k1y (by omega)]
theorem K0Z:K0G y set set.length=a0e (gK y set):=rfl
end
def A0H (H:a0f) (C K N row:Nat) (s sS:Value) (y:List b0b) (set:List e0K) (i:Nat) (ρ:Nat->Value) (G:a0f):Prop :=
 ρ 2=.int .i64 (row:Int)/\ρ 3=.pointer (some ⟨H.size,0,none⟩)/\ρ 7=.pointer (some ⟨H.size + 2,0,none⟩)/\ρ 9=.slice (some ⟨C,0,none⟩) N N/\ρ 11=.pointer (some ⟨K,0,none⟩)/\ρ 37=sS/\Ext H G /\
  a0f.bk G H.size=.row false a0M [s]/\a0f.bk G (H.size + 2)=.row false a0b [.bool false,.slice none 0 0,.bool false,.slice none 0 0] /\
  b0d PR (H.size + 3) G a0b 4 (.slice (some ⟨C,0,none⟩) N N) (o0a y set N i 0) /\
  ∃ s1 s2,a0f.bk G K=.row false a0b [.bool (K0G y set i).1.1,s1,.bool (K0G y set i).2.1,s2]/\Lim G s1 (K0G y set i).1.2/\Lim G s2 (K0G y set i).2.2
def f1s (f0 N:Nat) (y:List b0b) (set:List e0K) (r:Value) (H':a0f):Prop :=
 ∃ c k,r=.tuple #[c,k]/\(∀ b,slB c=some b->f0<=b)/\b0r H' c ((List.range N).map fun j=>a0e (gC y set j))/\b0L H' k (a0e (gK y set))
theorem n0T {rows:List (List b0b)} {e:c0b} {row m:Nat} (ht:d0f H v rows) (he:i0T H w e) (hf:fl<=H.size) (a4:k0p e) (hm:e.m=(m:Int)) (a7:row < rows.length) (hy:Few 6 rows[row]) (h5:rows[row].length=e.set.length) (e4:∀ a ∈ e.set,a.all.length=e.set.length + m) :
  a0O env fl a1Y [v,w,.int .i64 (row:Int)] H (fun r H'=>f1s H.size (e.set.length + m) (rows.getD row []) e.set r H'/\Ext H H') R:=by
 have h4:rows.getD row []=rows[row]:=b0o a7
 rw [h4]
 obtain ⟨y,d6⟩:∃ y,y=rows[row]:=⟨_,rfl⟩
 obtain ⟨s,rfl,hs⟩:=ht
 obtain ⟨f,t,sG,sS,sP,rfl,hG,hS,g5,i0⟩:=he
 have i5:=a4.ns;have h2:=a4.m
 rw [hm] at h2
 obtain ⟨N,hN⟩:∃ N,N=e.set.length + m:=⟨_,rfl⟩
 rw [<- d6,<- hN]
 rw [<- d6] at hy h5
 rw [<- hN] at e4
 refine a0i j1r hf (h:=?_)
 intro ρ h0
 simp [e1w,S0c,h0,hs.cells,hG.cells,hS.cells,g5]
 generalize F:((H.push _).push _).push _=G
 obtain ⟨I,b0,b1,b2⟩:=b1Q F
 clear F
 have e2:H.size + 3<=G.size:=a0k b2
 simp [S0d,b1,hS.slen]
 have wr:IntKind.i64.wrap ((e.set.length:Int) + e.m)=(N:Int):=by rw [hm,a0S (by omega) (by omega)];omega
 have f3:=g0o (bytes:=64) (k:=.i64) (k':=.i64) (l:=N) (c:=N) (k1x _) (by omega) (by omega)
 simp [S0e,b1,wr,f3]
 generalize F:G.push _=G2
 obtain ⟨q,b3⟩:=g0e F
 clear F
 obtain ⟨C,hC⟩:∃ C,C=G.size:=⟨_,rfl⟩
 rw [<- hC] at b3 e2 ⊢
 have c9:=a0k b3
 replace I:=I.trans q
 replace b0:=q.bk b0
 replace b1:=q.bk b1
 replace b2:=q.bk b2
 clear q f3 wr hC G
 obtain ⟨c4,c5⟩:=r0J G2 N
 have d1:b0d PR (H.size + 3) G2 a0b 4 (.slice (some ⟨C,0,none⟩) N N) (List.replicate N c0z):=⟨_,(Own.mk b3 c4 e2 |> (fun h=>by simpa using h)),fun k hk=>by rw [List.getElem_replicate];exact c5 k (by simpa using hk)⟩
 clear c4 c5 b3
 simp [S0f,g0b]
 refine d0b (n:=N) (fun i ρ G=>ρ 2=.int .i64 (row:Int)/\ρ 3=.pointer (some ⟨H.size,0,none⟩)/\ρ 4=.pointer (some ⟨H.size + 1,0,none⟩)/\ρ 7=.pointer (some ⟨H.size + 2,0,none⟩)/\ρ 9=.slice (some ⟨C,0,none⟩) N N/\d0o (some C) G2 G/\b0d PR (H.size + 3) G a0b 4 (.slice (some ⟨C,0,none⟩) N N) (List.replicate i (a0e 0) ++ List.replicate (N - i) c0z)) rfl rfl (by decide) (by omega) (by simp) (by simp) ?_ ?_ ?_ ?_
 ·exact ⟨by simp [h0],by simp,by simp,by simp,by simp,(Ext.refl G2).extB,by simpa using d1⟩
 ·intro i ρ f6 G h hI;simpa [h] using hI
 ·clear h0 ρ d1
  rintro i ρ G hi gi gn ⟨g2,g3,g4,g7,g9,z,ho⟩
  have e7:H.size + 3<=G.size:=by have:=z.1;omega
  simp [S0g,S0h,gi,g9]
  refine (c0o (n:=0) (by omega) (by decide) (by decide)).mo ?_
  rintro _ G5 ⟨⟨s3,s4,rfl,L,M⟩,u⟩
  have e0:((0:Int):Rat)=0:=rfl
  rw [e0] at L M ⊢
  replace ho:=ho.mo a0K u
  replace z:=z.trans' u.extB
  obtain ⟨G6,d2,a6,a8⟩:=b0d.store (j:=i) (x:=a0e 0) (w:=.agg #[.bool (a0e 0).1.1,s3,.bool (a0e 0).2.1,s4]) (ho.low (fl':=H.size) (by omega)) (by simp;omega) (by decide) rfl (by simp [L.plain,M.plain]) (fun G' _ hl=>⟨s3,s4,rfl,L.lx hl,M.lx hl⟩) (by decide) (fun G' cs y _ hl h=>b0L.lx h hl)
  have hia:iaV 4 (.slice (some ⟨C,0,none⟩) N N) (.int .i64 (i:Int))=some (adr 4 (.slice (some ⟨C,0,none⟩) N N) i):=by
   have:=ho.sls.ia (k:=.i64) (j:=i) (by simp;omega);exact this
  simp [g9,hia,d2]
  refine Rnd.mk (by simp [gi]) (by simp [gn]) ⟨by simp [g2],by simp [g3],by simp [g4],by simp [g7],by simp [g9],z.trans' a8,?_⟩
  have f4:(List.replicate i (a0e 0) ++ List.replicate (N - i) c0z).set i (a0e 0)=List.replicate (i + 1) (a0e 0) ++ List.replicate (N - (i + 1)) c0z:=by
   rw [show N - i=(N - (i + 1)) + 1 by omega,n1w,List.set_append_right _ _ (by simp),n1b,n1z,List.set_cons_zero,List.replicate_succ',m1u];rfl
  rw [f4] at a6
  exact a6.up (fun b hb=>by simp [slB] at hb;omega)
 clear h0 ρ d1
 rintro ρ G c7 c8 ⟨g2,g3,g4,g7,g9,z,ho⟩
 clear c7 c8
 rw [n1z,List.replicate_zero,List.append_nil,<- A0U (y:=y) (set:=e.set)] at ho
 have h3:=z.1
 replace b0:=(z.2 _ (by omega) (by simp;omega)).trans b0
 replace b1:=(z.2 _ (by omega) (by simp;omega)).trans b1
 replace b2:=(z.2 _ (by omega) (by simp;omega)).trans b2
 replace I:Ext H G:=⟨by omega,fun b hb=>(z.2 b (by omega) (by simp;omega)).trans (I.2 b hb)⟩
 replace c9:C < G.size:=by omega
 clear z h3 G2
 simp [S0i]
 refine (c0o (n:=0) (by omega) (by decide) (by decide)).mo ?_
 rintro _ G5 ⟨⟨s3,s4,rfl,L,M⟩,u⟩
 have e0:((0:Int):Rat)=0:=rfl
 rw [e0] at L M ⊢
 replace ho:=ho.mo a0K u
 replace b0:=u.bk b0
 replace b1:=u.bk b1
 replace b2:=u.bk b2
 replace I:=I.trans u
 replace c9:C < G5.size:=by have:=u.1;omega
 simp [L.cells,M.cells,L.plain,M.plain,show H.size<=G5.size by omega]
 generalize F:Array.setIfInBounds (Array.push _ _) _ _=G6
 obtain ⟨q,b4⟩:=new1 F
 clear F
 obtain ⟨K,hK⟩:∃ K,K=G5.size:=⟨_,rfl⟩
 rw [<- hK] at b4 c9 ⊢
 replace ho:=ho.mo a0K q
 replace b0:=q.bk b0
 replace b1:=q.bk b1
 replace b2:=q.bk b2
 replace I:=I.trans q
 replace L:=L.mo q
 replace M:=M.mo q
 clear q u hK G5 G
 simp [S0j,g4,b1,(hS.mo c0d I).slen]
 have i2:∀ j,szR (b0t (y.getD j c0z))<=6 + 6 + 2:=fun j=>by have:=hy.sz j;omega
 refine d0b (n:=e.set.length) (A0H H C K N row s sS y e.set) rfl rfl (by decide) (by omega) (by simp) (by simp) ?_ ?_ ?_ ?_
 ·exact ⟨by simp [g2],by simp [g3],by simp [g7],by simp [g9],by simp,by simp,I,b0,b2,ho,s3,s4,b4,L,M⟩
 ·intro i ρ f6 G h hI;simpa [A0H,h] using hI
 ·clear g2 g3 g4 g7 g9 ρ b0 b1 b2 b4 L M ho I G6
  rintro i ρ G hi gi gn ⟨g2,g3,g7,g9,O,a0,I,b0,b2,ho,k1,k2,U,q1,q2⟩
  have kl:=hS.mo c0d I
  obtain ⟨we,e9,k0⟩:=g0g.load kl hi
  obtain ⟨sX,sW,sk,rfl,kX,kW,kK⟩:=k0
  have c0:=a4.set _ (k1D hi)
  have e5:=e4 _ (k1D hi)
  have g1:=a0k U
  simp [I0P,a0,gi,kl.ia hi,e9,kX.cells,kW.cells,kX.plain,kW.plain,kK.cells,kK.plain,show H.size<=G.size by omega]
  generalize F:Array.setIfInBounds (Array.push _ _) _ _=G3
  obtain ⟨q,b5⟩:=new1 F
  clear F
  obtain ⟨P,hP⟩:∃ P,P=G.size:=⟨_,rfl⟩
  rw [<- hP] at b5 g1 ⊢
  replace ho:=ho.mo a0K q
  replace b0:=q.bk b0
  replace b2:=q.bk b2
  replace U:=q.bk U
  replace I:=I.trans q
  replace q1:=q1.mo q
  replace q2:=q2.mo q
  replace kX:=kX.mo b0s q
  replace kW:=kW.mo b0s q
  replace kK:=kK.mo q
  have g6:=a0k b5
  clear q e9 kl hP G
  obtain ⟨wr,f0,kr⟩:=e0U.load (hs.mo d0u I) a7
  rw [<- d6] at kr
  have c1:i < y.length:=by omega
  obtain ⟨x,f2,k0⟩:=b0r.load kr c1
  obtain ⟨y1,y2,rfl,p1,p2⟩:=id k0
  simp [I0Q,g2,g3,b0,(hs.mo d0u I).ia a7,f0,kr.ia c1,f2,p1.cells,p1.plain,p2.cells,p2.plain,show H.size<=G3.size by omega]
  generalize F:Array.setIfInBounds (Array.push _ _) _ _=G4
  obtain ⟨q,b6⟩:=new1 F
  clear F
  obtain ⟨P2,e3⟩:∃ P2,P2=G3.size:=⟨_,rfl⟩
  rw [<- e3] at b6 g6 ⊢
  replace ho:=ho.mo a0K q
  replace b0:=q.bk b0
  replace b2:=q.bk b2
  replace U:=q.bk U
  replace b5:=q.bk b5
  replace I:=I.trans q
  replace q1:=q1.mo q
  replace q2:=q2.mo q
  replace kX:=kX.mo b0s q
  replace kW:=kW.mo b0s q
  replace kK:=kK.mo q
  replace p1:=p1.mo q
  replace p2:=p2.mo q
  have c3:=a0k b6
  clear q f0 f2 kr k0 e3 G3
  simp [I0R,b5,kX.cells,kW.cells]
  generalize F:G4.push _=G5
  obtain ⟨q,b7⟩:=g0e F
  clear F
  have a5:[e.set[i].X,e.set[i].W].flatten=e.set[i].all:=by simp [e0K.all]
  refine (l0Z (PIL.two b7 (kX.mo b0s q) (kW.mo b0s q)) (by have:=q.1;omega) (by simp) (by rw [a5];omega)).mo ?_
  rintro c G6 ⟨kc,u⟩
  replace q:=q.trans u
  rw [a5] at kc
  replace ho:=ho.mo a0K q
  replace b0:=q.bk b0
  replace b2:=q.bk b2
  replace U:=q.bk U
  replace b5:=q.bk b5
  replace b6:=q.bk b6
  replace I:=I.trans q
  replace q1:=q1.mo q
  replace q2:=q2.mo q
  replace kK:=kK.mo q
  replace p1:=p1.mo q
  replace p2:=p2.mo q
  replace c3:=a0k b6
  clear u b7 q a5 kX kW G5
  simp [kc.slen]
  obtain ⟨h8,bC⟩:=ho.blkAt
  have i7:=hy _ (k1D c1)
  have c2:y.getD i c0z=y[i]:=b0o c1
  have d3:e.set.getD i aff0=e.set[i]:=b0o hi
  refine d0b (n:=e.set[i].all.length) (fun j ρ G=>ρ 2=.int .i64 (row:Int)/\ρ 3=.pointer (some ⟨H.size,0,none⟩)/\ρ 7=.pointer (some ⟨H.size + 2,0,none⟩)/\ρ 9=.slice (some ⟨C,0,none⟩) N N/\ρ 11=.pointer (some ⟨K,0,none⟩)/\ρ 37=sS/\ρ 38=.int .i64 (e.set.length:Int)/\ρ 39=.int .i64 (i:Int)/\ρ 13=.pointer (some ⟨P,0,none⟩)/\ρ 14=.pointer (some ⟨P2,0,none⟩)/\ρ 57=c/\d0o (some C) G6 G/\b0d PR (H.size + 3) G a0b 4 (.slice (some ⟨C,0,none⟩) N N) (o0a y e.set N i j)) rfl rfl (by decide) (by omega) (by simp) (by simp) ?_ ?_ ?_ ?_
  ·exact ⟨by simp [g2],by simp [g3],by simp [g7],by simp [g9],by simp [O],by simp [a0],by simp [gn],by simp [gi],by simp,by simp,by simp,(Ext.refl _).extB,ho⟩
  ·intro i ρ f6 G h hI;simpa [h] using hI
  ·clear g2 g3 g7 g9 O a0 gn gi ho ρ
   rintro j ρ G hj gj gm ⟨g2,g3,g7,g9,O,a0,gn,gi,c6,b9,d9,z,ho⟩
   have d7:c0A G c e.set[i].all:=kc.lxm (z.lxT bC (by decide)) (fun cs x h=>h.lx (z.lxT bC (by decide)))
   replace b6:=(z.2 P2 c3 (by simp;omega)).trans b6
   replace p1:=p1.lx (z.lxT bC (by decide))
   replace p2:=p2.lx (z.lxT bC (by decide))
   have f8:=z.1
   obtain ⟨w',f1,r1⟩:=c0A.load d7 hj
   have e7:H.size + 3<=G.size:=by omega
   simp [I0S,d9,gj,d7.ia hj,f1,r1.cells,r1.plain,show H.size<=G.size by omega]
   generalize F:Array.setIfInBounds (Array.push _ _) _ _=G7
   obtain ⟨q,b8⟩:=new1 F
   clear F
   replace ho:=ho.mo a0K q
   replace b6:=q.bk b6
   replace p1:=p1.mo q
   replace p2:=p2.mo q
   replace r1:=r1.mo q
   have h9:=q.1
   replace z:=z.trans' q.extB
   clear q d7 f1
   have e8:j < N:=by omega
   have d0:j < (o0a y e.set N i j).length:=by rw [K0X];exact e8
   have hia:iaV 4 (.slice (some ⟨C,0,none⟩) N N) (.int .i64 (j:Int))=some (adr 4 (.slice (some ⟨C,0,none⟩) N N) j):=ho.sls.ia d0
   obtain ⟨xc,g8,h6⟩:=b0r.load ho.sls d0
   have e6:e.set[i].all.getD j iz=e.set[i].all[j]:=b0o hj
   have f5:=(a4.at i).all j
   rw [d3,e6] at f5
   have i3:=a4.gC hy j i (by omega)
   have i6:=u0g.mem c0 (k1D hj)
   have h1:=f0L (b0t y[i]) (vQ e.set[i].all[j])
   have d5:=hy.sz i
   rw [c2] at d5
   refine a0C ?_
   simp [I0T,g9,b9,hia,g8,b6,b8]
   refine (d0L (x:=e.set[i].all[j]) ⟨_,rfl,r1⟩ (by omega) (by omega)).mo ?_
   rintro _ G8 ⟨⟨s3,s4,rfl,L,M⟩,u⟩
   have f9:=u.1
   simp
   refine (f0D (a:=y[i]) (b:=b0y e.set[i].all[j]) ⟨y1,y2,rfl,p1.mo u,p2.mo u⟩ ⟨s3,s4,rfl,L,M⟩ (by omega) (by omega) (by unfold b0y;rw [a0E];omega)).mo ?_
   rintro _ G9 ⟨km,J⟩
   have g0:=J.1
   replace u:=u.trans J
   clear J L M
   have d4:b0t (b0y e.set[i].all[j])=vQ e.set[i].all[j]:=by unfold b0y;rw [a0w]
   rw [d4] at km
   simp
   refine (b0K (h6.mo u) km (by omega) (by rw [w0Q,a0E];omega) (by rw [a0E];omega)).mo ?_
   rintro _ a9 ⟨⟨s3,s4,rfl,L,M⟩,J⟩
   have e1:=J.1
   replace u:=u.trans J
   obtain ⟨Z,hZ⟩:∃ Z,Z=rs (fun t=>b0t (y.getD t c0z) * vQ ((e.set.getD t aff0).all.getD j iz)) (i + 1):=⟨_,rfl⟩
   have d8:b0t (o0a y e.set N i j)[j] + b0t (a0e (b0t y[i] * vQ e.set[i].all[j]))=Z:=by
    rw [hZ]
    rw [w0Q,a0w,a0w,rs,c2,d3,e6]
   rw [d8] at L M ⊢
   replace ho:=ho.mo a0K u
   replace z:=z.trans' u.extB
   obtain ⟨a3,d2,a6,a8⟩:=b0d.store (j:=j) (x:=a0e Z) (w:=.agg #[.bool (a0e Z).1.1,s3,.bool (a0e Z).2.1,s4]) (ho.low (fl':=H.size) (by omega)) d0 (by decide) rfl (by simp [L.plain,M.plain]) (fun G' _ hl=>⟨s3,s4,rfl,L.lx hl,M.lx hl⟩) (by decide) (fun G' cs y _ hl h=>b0L.lx h hl)
   simp [hia,d2]
   rw [hZ,K0Y e8] at a6
   exact Rnd.mk (by simp [gj]) (by simp [gm]) ⟨by simp [g2],by simp [g3],by simp [g7],by simp [g9],by simp [O],by simp [a0],by simp [gn],by simp [gi],by simp [c6],by simp [b9],by simp [d9],z.trans' a8,a6.up (fun b hb=>by simp [slB] at hb;omega)⟩
  clear g2 g3 g7 g9 O a0 gn gi ho ρ
  rintro ρ G c7 c8 ⟨g2,g3,g7,g9,O,a0,gn,gi,c6,b9,f7,z,ho⟩
  clear c7 c8 f7
  rw [e5,A0T] at ho
  have t1:∀ {e:Nat},a0b ≠ e->LxT e G6 G:=fun a2=>z.lxT bC a2
  have f8:=z.1
  replace I:Ext H G:=⟨by omega,fun b hb=>(z.2 b (by omega) (by simp;omega)).trans (I.2 b hb)⟩
  replace b0:=(z.2 _ (by omega) (by simp;omega)).trans b0
  replace b2:=(z.2 _ (by omega) (by simp;omega)).trans b2
  replace U:=(z.2 K (by omega) (by simp;omega)).trans U
  replace b5:=(z.2 P (by omega) (by simp;omega)).trans b5
  replace b6:=(z.2 P2 (by omega) (by simp;omega)).trans b6
  replace p1:=p1.lx (t1 (by decide))
  replace p2:=p2.lx (t1 (by decide))
  replace q1:=q1.lx (t1 (by decide))
  replace q2:=q2.lx (t1 (by decide))
  replace kK:=kK.lx (t1 (by decide))
  clear t1 z bC kc
  have f5:=r0W.sz (k:=40) c0.2.2.1 c0.2.2.2
  have i4:=a4.gK hy i (by omega)
  have h1:=f0L (b0t y[i]) (vQ e.set[i].K)
  have d5:=hy.sz i
  rw [c2] at d5
  have i1:=c0.2.2.1
  refine a0C ?_
  simp [I0U,O,c6,b9,U,b5,b6]
  refine (d0L (x:=e.set[i].K) ⟨_,rfl,kK⟩ (by omega) (by omega)).mo ?_
  rintro _ G8 ⟨⟨s3,s4,rfl,L,M⟩,u⟩
  have f9:=u.1
  simp
  refine (f0D (a:=y[i]) (b:=b0y e.set[i].K) ⟨y1,y2,rfl,p1.mo u,p2.mo u⟩ ⟨s3,s4,rfl,L,M⟩ (by omega) (by omega) (by unfold b0y;rw [a0E];omega)).mo ?_
  rintro _ G9 ⟨km,J⟩
  have g0:=J.1
  replace u:=u.trans J
  clear J L M
  have d4:b0t (b0y e.set[i].K)=vQ e.set[i].K:=by unfold b0y;rw [a0w]
  rw [d4] at km
  simp
  refine (b0K (a:=K0G y e.set i) ⟨k1,k2,rfl,q1.mo u,q2.mo u⟩ km (by omega) (by unfold K0G;rw [a0E];omega) (by rw [a0E];omega)).mo ?_
  rintro _ a9 ⟨⟨s3,s4,rfl,L,M⟩,J⟩
  have e1:=J.1
  replace u:=u.trans J
  have d8:a0e (b0t (K0G y e.set i) + b0t (a0e (b0t y[i] * vQ e.set[i].K)))=K0G y e.set (i + 1):=by
   unfold K0G
   rw [a0w,a0w,rs,c2,d3]
  rw [d8] at L M ⊢
  replace ho:=ho.mo a0K u
  replace I:=I.trans u
  replace b0:=u.bk b0
  replace b2:=u.bk b2
  replace U:=u.bk U
  have h7:=a0k U
  simp [O,U,L.cells,M.cells,L.plain,M.plain,show H.size<=K by omega]
  generalize a1:Array.setIfInBounds a9 K _=a3
  have t1:∀ {e:Nat},a0b ≠ e->LxT e a9 a3:=fun a2=>b0f a1 U a2
  refine Rnd.mk (by simp [gi]) (by simp [gn]) ⟨by simp [g2],by simp [g3],by simp [g7],by simp [g9],by simp [O],by simp [a0],a0I a1 I (by omega),a0o a1 b0 (by omega),a0o a1 b2 (by omega),?_,s3,s4,a0r a1 U,L.lx (t1 (by decide)),M.lx (t1 (by decide))⟩
  have z:d0o (some K) a9 a3:=by
   rw [<- a1]
   exact ⟨by simp,fun b hb a2=>a0T (by rintro rfl;exact a2 rfl)⟩
  exact ho.off z (by right;simp [slB];omega) (fun cs x h=>b0L.lx h (t1 (by decide)))
 ·clear g2 g3 g4 g7 g9 ρ b0 b1 b2 b4 L M ho I G6
  rintro ρ G gi gn ⟨g2,g3,g7,g9,O,a0,I,b0,b2,ho,k1,k2,U,q1,q2⟩
  rw [K0W] at ho
  rw [K0Z] at U q1 q2
  have kC:=ho.sls
  refine a0C ?_
  have hz:=a0k b2
  simp [I0V,g9,O,g7,U,b2,q1.cells,q2.cells,q1.plain,q2.plain,hz]
  generalize a1:Array.setIfInBounds G _ _=a3
  have t1:∀ {e:Nat},a0b ≠ e->LxT e G a3:=fun a2=>b0f a1 b2 a2
  have z:d0o (some (H.size + 2)) G a3:=by
   rw [<- a1]
   exact ⟨by simp,fun b hb a2=>a0T (by rintro rfl;exact a2 rfl)⟩
  refine fun _=>⟨_,_,rfl,fun b hb=>by have:=(ho.ge hb).1;omega,(ho.off z (by right;simp [slB];omega) (fun cs x h=>b0L.lx h (t1 (by decide)))).sls,k1,k2,rfl,q1.lx (t1 (by decide)),q2.lx (t1 (by decide))⟩
structure N0R (rows:List (List b0b)) (e:c0b) (d:List c0f):Prop where
 ed:k0p e
 rl:rows.length<=8
 r:∀ r ∈ rows,Few 6 r/\r.length < 1073741824
 dz:∀ x ∈ d,d0J x.2<=6/\b0u x.2.1.2/\b0u x.2.2.2
 dl:d.length < 1073741824
theorem N0R.fe {rows:List (List b0b)} {e:c0b} {d:List c0f} (h:N0R rows e d):N0Q d:=fun x c=>by have:=(h.dz x c).1;omega
theorem u0o {rows:List (List b0b)} {e:c0b} {d:List c0f} {row:Int} (h:c0y rows e d row=true):0<=e.m/\d.length=rows.length/\0<=row/\row < rows.length/\(∀ r ∈ rows,r.length=e.set.length)/\(∀ a ∈ e.set,(a.all.length:Int)=e.set.length + e.m):=by
 unfold c0y f0p l0w at h
 simp only [k1L,l1k] at h
 obtain ⟨⟨⟨⟨⟨⟨⟨⟨⟨⟨F,G⟩,H⟩,c⟩,y⟩,v⟩,s⟩,u⟩,k⟩,j⟩,z⟩:=h
 refine ⟨k,by omega,s,u,fun r q=>?_,fun a x=>?_⟩
 ·have:=l1a.1 c r q
  unfold r0K at this;simp at this;omega
 ·have:=x0g.1 j a x
  unfold e0K.all;rw [k1S];omega
def Z0L (rows:List (List b0b)) (e:c0b) (d:List c0f) (row N:Nat) (r:Value) (H':a0f):Prop :=
 ∃ p k,r=.tuple #[p,k,.bool true]/\LPV H' p (c0M rows e d row N)/\b0L H' k (a0e (gK (rows.getD row []) e.set))
theorem K0v {e:c0b} {d:List c0f} (c:k0p e) (h:d.length<=8):y0O e d=true:=by
 unfold y0O
 have:=c.ns;have:=c.ng;have:=c.m;have:=u0t d
 simp;omega
theorem k0i {rows:List (List b0b)} {e:c0b} {d:List c0f} {row m:Nat} (ht:d0f H v rows) (he:i0T H w e) (hd:e0i H u d) (hf:fl<=H.size) (hF:N0R rows e d) (ha:c0y rows e d (row:Int)=true) (c8:d0O (fun e=>decide (e.1 < 0)) d=false) (hm:e.m=(m:Int)) :
  a0O env fl a1N [v,w,u,.int .i64 (row:Int)] H (fun r H'=>Z0L rows e d row (e.set.length + m) r H'/\Ext H H') R:=by
 obtain ⟨e2,e1,_,c9,a5,c0⟩:=u0o ha
 have a3:row < rows.length:=by omega
 have b9:∀ a ∈ e.set,a.all.length=e.set.length + m:=fun a h=>by have:=c0 a h;omega
 have e6:=hF.rl
 have Z:=hF.ed
 have e5:=Z.ns;have e4:=Z.ng;have e3:=Z.m
 obtain ⟨_,_,_,_,_,c1,_⟩:=B0l ha Z hm hF.rl (fun r hr=>(hF.r r hr).1) hF.dz
 have d0:=K0v Z (by omega:d.length<=8)
 have a4:=ht;have a6:=he
 obtain ⟨s,rfl,hs⟩:=ht
 obtain ⟨f,t,sG,sS,sP,rfl,hG,hS,c6,e0⟩:=he
 refine a0i i1W hf (h:=?_)
 intro ρ h0
 simp [e1b,P0V,h0,hs.cells,hG.cells,hS.cells,c6]
 generalize J:(((H.push _).push _).push _).push _=G
 obtain ⟨q,b0,z,b2,b3⟩:=X0C J
 clear J
 have a1:H.size + 4<=G.size:=a0k b3
 simp [P0W,h0,b0,z]
 refine (g0T (a4.mo q) (a6.mo q) (hd.mo c0q q) (by omega) hF.r (by omega) hF.fe hF.dl (by omega) (by omega)).mo ?_
 rintro _ G2 ⟨rfl,j⟩
 replace b0:=j.bk b0
 replace z:=j.bk z
 replace b2:=j.bk b2
 replace b3:=j.bk b3
 replace q:=q.trans j
 replace a1:=k1H a1 j.1
 clear j G
 simp [ha,h0,b0,z]
 refine (l0K (a4.mo q) (a6.mo q) (hd.mo c0q q) (by omega) hF.dl (by omega) (by omega) (by omega) (by omega)).mo ?_
 rintro _ G ⟨rfl,j⟩
 replace b0:=j.bk b0
 replace z:=j.bk z
 replace b2:=j.bk b2
 replace b3:=j.bk b3
 replace q:=q.trans j
 replace a1:=k1H a1 j.1
 clear j G2
 simp [d0,h0,b0,z]
 refine (h0R (hd.mo c0q q) (by omega) hF.fe hF.dl).mo ?_
 rintro _ G2 ⟨rfl,j⟩
 replace b0:=j.bk b0
 replace z:=j.bk z
 replace b2:=j.bk b2
 replace b3:=j.bk b3
 replace q:=q.trans j
 replace a1:=k1H a1 j.1
 clear j G
 have wr:IntKind.i64.wrap ((e.set.length:Int) + e.m)=((e.set.length + m:Nat):Int):=by rw [hm,a0S (by omega) (by omega)];omega
 obtain ⟨N,hN⟩:∃ N,N=e.set.length + m:=⟨_,rfl⟩
 rw [<- hN] at wr b9 c1 ⊢
 simp [c8]
 simp [P0X,h0,b0,z,(hS.mo c0d q).slen,wr]
 refine (n0S (S:=6) (N:=N) (a4.mo q) (hd.mo c0q q) (by omega) (by decide) (by omega) (fun r hr=>⟨(hF.r r hr).1,by rw [a5 r hr];omega⟩) (by omega) (by omega) hF.fe).mo ?_
 rintro _ G3 ⟨⟨sA,sB,rfl,kA,kB⟩,j⟩
 obtain ⟨cA,pA⟩:=kA.cells
 obtain ⟨cB,pB⟩:=kB.cells
 have d5:=j.1
 replace b0:=j.bk b0
 replace z:=j.bk z
 replace b2:=j.bk b2
 replace b3:=j.bk b3
 replace q:=q.trans j
 simp [cA,cB,pA,pB,show H.size<=G3.size by omega]
 generalize J:Array.setIfInBounds (Array.push _ _) _ _=G4
 obtain ⟨M,b4⟩:=new1 J
 clear J
 obtain ⟨P,hP⟩:∃ P,P=G3.size:=⟨_,rfl⟩
 rw [<- hP] at b4 ⊢
 replace b0:=M.bk b0
 replace z:=M.bk z
 replace b2:=M.bk b2
 replace b3:=M.bk b3
 replace q:=q.trans M
 have a2:Y0P G2.size G2.size G4 P N sA sB (.slice none 0 0) ((d0z rows d).map (x0w N)) (d0A rows d):=⟨b4,kA.mo k0B M,kB.mo a0K M⟩
 have d9:=a0k b4
 clear kA kB j M
 have O:∀ b,slB sA=some b->G2.size<=b:=fun b hb=>(a2.A.ge hb).1
 have U:∀ b,slB sB=some b->G2.size<=b:=fun b hb=>(a2.B.ge hb).1
 have a9:H.size<=G2.size:=by omega
 simp [P0Y,z]
 refine (k0W (fl:=H.size) (f0:=G2.size) (H0:=H) q (k1x _) q.1 (by omega) hG (by omega) ⟨a2.bk,a2.A.low a9,a2.B.low a9⟩ (by have:=j0W rows d;have:=m0W rows d;simp;omega) (fun g hg=>⟨Z.guards g hg,by rw [c1 g hg];omega⟩)).mo ?_
 rintro _ G5 ⟨⟨hO,d4,c2,L,c3,a8⟩,_⟩
 have d6:=hO.1
 have d8:G2.size<=P:=by omega
 replace b0:=(hO.2 _ (by omega) (by omega) (fun h=>by have:=O _ h;omega) (fun h=>by have:=U _ h;omega)).trans b0
 replace z:=(hO.2 _ (by omega) (by omega) (fun h=>by have:=O _ h;omega) (fun h=>by have:=U _ h;omega)).trans z
 replace b2:=(hO.2 _ (by omega) (by omega) (fun h=>by have:=O _ h;omega) (fun h=>by have:=U _ h;omega)).trans b2
 replace b3:=(hO.2 _ (by omega) (by omega) (fun h=>by have:=O _ h;omega) (fun h=>by have:=U _ h;omega)).trans b3
 replace q:=hO.ext (fl:=H.size) (k1x _) (by omega) (fun b h=>by have:=O _ h;omega) (fun b h=>by have:=U _ h;omega) q
 have c4:∀ b,slB c2 = some b->G2.size<=b:=fun b hb=>by
  rcases a8 b hb with h | h | h
  ·exact O b h
  ·exact U b h
  ·omega
 clear hO O U c3 a8 a2 b4
 simp [P0Z,h0,b0,z]
 refine (n0T (m:=m) (a4.mo q) (a6.mo q) (by omega) Z hm a3 (hF.r _ (k1D a3)).1 (a5 _ (k1D a3)) (fun a h=>by rw [b9 a h,hN])).mo ?_
 rintro _ G6 ⟨⟨c,k,rfl,c7,kc,kk⟩,j⟩
 rw [<- hN] at kc
 obtain ⟨Y,hY⟩:∃ Y,Y=rows.getD row []:=⟨_,rfl⟩
 rw [<- hY] at kc kk
 replace b0:=j.bk b0
 replace z:=j.bk z
 replace b2:=j.bk b2
 replace b3:=j.bk b3
 replace L:=L.mo j
 replace q:=q.trans j
 have d7:=j.1
 clear j
 obtain ⟨k1,k2,rfl,q1,I⟩:=kk
 simp [q1.cells,I.cells,q1.plain,I.plain,show H.size<=G6.size by omega]
 generalize J:Array.setIfInBounds (Array.push _ _) _ _=G7
 obtain ⟨j,b5⟩:=new1 J
 clear J
 obtain ⟨P2,c5⟩:∃ P2,P2=G6.size:=⟨_,rfl⟩
 rw [<- c5] at b5 ⊢
 replace b2:=j.bk b2
 replace b3:=j.bk b3
 replace L:=L.mo j
 replace q:=q.trans j
 replace kc:=kc.mo a0K j
 replace q1:=q1.mo j
 replace I:=I.mo j
 clear j b0 z
 obtain ⟨b4,kA,kB⟩:=L
 obtain ⟨cA,pA⟩:=kA.cells
 obtain ⟨cB,pB⟩:=kB.cells
 simp [Q0a,b4,kc.cells,kc.plain,show H.size<=P by omega]
 generalize F:Array.setIfInBounds G7 P _=G8
 have y:∀ {e:Nat},b0M ≠ e->LxT e G7 G8:=fun a0=>b0f F b4 a0
 replace kA:=kA.lxm (y (by decide)) (fun cs x ⟨w',q1,I,q3,q4⟩=>(⟨w',q1,I.lx2 (y (by decide)) (y (by decide)),q3,q4⟩:PSf _ _ G8 cs x))
 replace kB:=kB.lxm (Q':=PR) (y (by decide)) (fun cs x h=>b0L.lx h (y (by decide)))
 replace kc:=b0r.lx2 kc (y (by decide)) (y (by decide))
 replace q1:=q1.lx (y (by decide))
 replace I:=I.lx (y (by decide))
 replace q:=a0I F q (by omega)
 replace b2:=a0o F b2 (by omega)
 replace b3:=a0o F b3 (by omega)
 replace b5:=a0o F b5 (by omega)
 replace b4:=a0r F b4
 clear y F G7
 have d1:=a0k b2
 have d2:=a0k b3
 refine c0R ?_
 simp [Q0b,b2,b3,b4,b5,cA,cB,pA,pB,kc.cells,kc.plain,q1.cells,I.cells,q1.plain,I.plain,d1,d2]
 generalize F:Array.setIfInBounds G8 _ _=G9
 generalize b8:Array.setIfInBounds G9 _ _=G10
 refine ⟨by omega,fun _=>?_⟩
 have y:∀ {e:Nat},b0M ≠ e->LxT e G8 G9:=fun a0=>b0f F b2 a0
 replace kA:=kA.lxm (y (by decide)) (fun cs x ⟨w',q1,I,q3,q4⟩=>(⟨w',q1,I.lx2 (y (by decide)) (y (by decide)),q3,q4⟩:PSf _ _ G9 cs x))
 replace kB:=kB.lxm (Q':=PR) (y (by decide)) (fun cs x h=>b0L.lx h (y (by decide)))
 replace kc:=b0r.lx2 kc (y (by decide)) (y (by decide))
 replace q1:=q1.lx (y (by decide))
 replace I:=I.lx (y (by decide))
 replace b3:=a0o F b3 (by omega)
 clear y
 have y:∀ {e:Nat},a0b ≠ e->LxT e G9 G10:=fun a0=>b0f b8 b3 a0
 have a7:d0o (some (H.size + 3)) G9 G10:=by
  rw [<- b8]
  exact ⟨by simp,fun b hb a0=>a0T (by rintro rfl;exact a0 rfl)⟩
 have off:∀ {s:Value},(∀ b,slB s=some b->G2.size<=b)->slB s=none ∨ slB s ≠ some (H.size + 3):=fun h=>by
  cases h1:slB _ with
  | none=>exact .inl rfl
  | some b=>right;have:=h b h1;simp;omega
 have d3:b0r G9 c (c0M rows e d row N).C:=by rw [hY] at kc;exact kc
 refine ⟨_,_,rfl,⟨d4,c2,c,rfl,?_,?_,b0r.off d3 a7 (off fun b hb=>by have:=c7 b hb;omega) (y (by decide))⟩,?_⟩
 ·exact (kA.lxm (Q':=PS) (y (by decide)) (fun cs x ⟨w',q1,I,_,q4⟩=>⟨w',q1,b0r.off I a7 (off q4) (y (by decide))⟩)).sls
 ·exact b0r.off kB.sls a7 (off c4) (y (by decide))
 ·rw [hY] at q1 I ⊢
  exact ⟨k1,k2,rfl,q1.lx (y (by decide)),I.lx (y (by decide))⟩
theorem X0x {z1 z2 r1 r2:Blk} {G3:a0f} (c:Array.setIfInBounds (Array.setIfInBounds (Array.push (Array.push G z1) z2) G.size r1) (G.size + 1) r2=G3):Ext G G3/\a0f.bk G3 G.size=r1/\a0f.bk G3 (G.size + 1)=r2:=by
 subst c
 refine ⟨(((Ext.refl G).push.push).set (by omega)).set (by omega),?_,?_⟩
 ·rw [a0T (by omega),a0A (by simp)]
 ·rw [a0A (by simp)]
def A0D (a:Value):Prop:=∃ c1 c2 c3 c4 c5 c6 c7 c8,a=.agg #[c1,c2,c3,c4,c5,c6,c7,c8]/\a0v c1=true/\a0v c2=true/\a0v c3=true/\a0v c4=true/\a0v c5=true/\a0v c6=true/\a0v c7=true/\a0v c8=true
theorem A0B.cells8 {a:o0L} (h:A0B H v a):A0D v:=by
 obtain ⟨s,u,x,y,sR,rfl,c,e,j,k,q⟩:=h
 exact ⟨_,_,_,_,_,_,_,_,rfl,rfl,rfl,c.plain,rfl,e.plain,j.plain,k.plain,q.plain⟩
theorem f1p.cells8:A0D f1p:=⟨_,_,_,_,_,_,_,_,rfl,rfl,rfl,rfl,rfl,rfl,rfl,rfl,rfl⟩
def i1x (rows:List (List b0b)) (e:c0b) (d:List c0f) (row:Int) (r:Value) (H':a0f):Prop :=
 ∃ x a c xe,r=.tuple #[x,a,.int .i64 c]/\A0D a/\g0L H' x xe/\d0J xe.2<=300000 /\
  if c0y rows e d row=true then c=0/\o0N rows e d row.toNat (e.set.length + e.m.toNat) xe else c=1/\xe=(0,c0z)
theorem l0O {k:Int}:g0L H (.agg #[.int .i64 k,.bool false,.slice none 0 0,.bool false,.slice none 0 0]) (k,c0z):=⟨_,_,rfl,Lim.nil,Lim.nil⟩
theorem c1X {rows:List (List b0b)} {e:c0b} {d:List c0f} {row N:Nat} {M:Nat} {a:o0L} (h:r0X (c0M rows e d row N) N M 200) (j:N<=6) (z:M<=14) (hc:N0P a ((M + 2) * ((N + 3) * (200 + 1) + M + 2) + 1 + M + 1 + (N + 3) * (200 + 1) + (N + 3) * (200 + 1))) (c:K0K (c0M rows e d row N) N M a):szR a.V<=250000:=by
 have q:(M + 2) * ((N + 3) * (200 + 1) + M + 2) + 1 + M + 1 + (N + 3) * (200 + 1) + (N + 3) * (200 + 1)<=33000:=by
  have c:(M + 2) * ((N + 3) * (200 + 1) + M + 2)<=16 * 1825:=l1u (by omega) (by omega)
  omega
 rw [c.V]
 have y:=r0T (f:=fun k=>pC (c0M rows e d row N) k * a.X.getD k 0) (K:=33201) (fun k=>by
  have u:=f0L (pC (c0M rows e d row N) k) (a.X.getD k 0)
  have v:szR (pC (c0M rows e d row N) k)<=201:=h.fC.sz k
  have x:szR (a.X.getD k 0)<=33000:=by
   rw [k1v]
   by_cases s:k < a.X.length
   ·rw [k1A s];exact k1H (hc.1 _ (k1D _)) q
   ·rw [k1G (by omega)];show szR 0<=_;rw [f0H];decide
  omega) N
 have:N * (33201 + 1)<=6 * (33201 + 1):=k1E _ j
 omega
theorem i0S {rows:List (List b0b)} {e:c0b} {d:List c0f} {row:Int} (ht:d0f H v rows) (he:i0T H w e) (hd:e0i H u d) (hf:fl<=H.size) (hF:N0R rows e d) :
  a0O env fl Y0W [v,w,u,.int .i64 row] H (fun r H'=>i1x rows e d row r H'/\Ext H H') R:=by
 have e6:=hF.rl
 have a0:=hF.ed
 have c9:=a0.ns;have e3:=a0.ng;have e2:=a0.m
 have c2:=ht;have b8:=he
 obtain ⟨s,rfl,hs⟩:=ht
 obtain ⟨f,t,sG,sS,sP,rfl,hG,hS,c5,d8⟩:=he
 refine a0i i1H hf (h:=?_)
 intro ρ h0
 simp [d1N,O0z,h0,hs.cells,hG.cells,hS.cells,c5]
 generalize I:(((H.push _).push _).push _).push _=G
 obtain ⟨j,b0,b1,b2,b3⟩:=X0C I
 clear I
 have Z:H.size + 4<=G.size:=a0k b3
 simp [O0A,h0,b0,b1]
 refine (g0T (c2.mo j) (b8.mo j) (hd.mo c0q j) (by omega) hF.r (by omega) hF.fe hF.dl (by omega) (by omega)).mo ?_
 rintro _ G2 ⟨rfl,c⟩
 replace b0:=c.bk b0
 replace b1:=c.bk b1
 replace b2:=c.bk b2
 replace b3:=c.bk b3
 replace j:=j.trans c
 replace Z:=k1H Z c.1
 clear c G
 have z:=a0k b2
 have F:=a0k b3
 cases ha:c0y rows e d row
 ·simp [O0B,b2,b3,z,F]
  exact fun _=>⟨_,_,_,_,rfl,f1p.cells8,l0O,by decide,by rw [k1y (by rw [ha];decide)];exact ⟨rfl,rfl⟩⟩
 obtain ⟨e1,e0,e4,e5,d6,d4⟩:=u0o ha
 obtain ⟨m,hm⟩:∃ m:Nat,e.m=m:=⟨e.m.toNat,by omega⟩
 obtain ⟨q,rfl⟩:∃ q:Nat,row=q:=⟨row.toNat,by omega⟩
 have c8:e.m.toNat=m:=by omega
 simp [O0C,h0]
 refine (h0R (hd.mo c0q j) (by omega) hF.fe hF.dl).mo ?_
 rintro _ G ⟨rfl,c⟩
 replace b0:=c.bk b0
 replace b1:=c.bk b1
 replace b2:=c.bk b2
 replace b3:=c.bk b3
 replace j:=j.trans c
 replace Z:=k1H Z c.1
 clear c z F G2
 have z:=a0k b2
 have F:=a0k b3
 cases hno:d0O (fun e=>decide (e.1 < 0)) d
 case true =>
  simp [O0D,b2,b3,z,F]
  exact fun _=>⟨_,_,_,(-1,c0z),rfl,f1p.cells8,l0O,by decide,by rw [k1B ha];exact ⟨rfl,.inl ⟨rfl,.inl hno⟩⟩⟩
 simp [O0E,h0,b0,b1]
 refine (k0i (m:=m) (c2.mo j) (b8.mo j) (hd.mo c0q j) (by omega) hF ha hno hm).mo ?_
 rintro _ G2 ⟨⟨p,k,rfl,kp,kk⟩,c⟩
 replace b2:=c.bk b2
 replace b3:=c.bk b3
 replace j:=j.trans c
 replace Z:=k1H Z c.1
 clear c b0 b1 z F G
 obtain ⟨y,a6,a8,O,c1,c7,d5⟩:=B0l ha a0 hm hF.rl (fun r hr=>(hF.r r hr).1) hF.dz
 have J:=fun a=>W0i.sup (d:=d) (row:=q) (a:=a) c1 (Nat.le_add_right _ m) c7 hno
 have c6:szR (gK (rows.getD q []) e.set)<=150:=a0.gK (by rw [b0o (by omega:q < rows.length)];exact (hF.r _ (k1D _)).1) _ c9
 have U:=fun a hc h1=>c1X (a:=a) y a8 O hc h1
 obtain ⟨gk,a4⟩:∃ x,x=gK (rows.getD q []) e.set:=⟨_,rfl⟩
 obtain ⟨N,hN⟩:∃ N,N=e.set.length + m:=⟨_,rfl⟩
 simp only [<- hN] at kp y a6 J U a8 O
 obtain ⟨pp,d0⟩:∃ x,x=c0M rows e d q N:=⟨_,rfl⟩
 rw [<- a4] at kk c6
 simp only [<- a4] at J
 simp only [<- d0] at kp y a6 J U O
 obtain ⟨M,hM⟩:∃ M,M=pp.A.length:=⟨_,rfl⟩
 rw [<- hM] at y O
 simp only [<- hM] at J U
 have a3:=kp
 have d3:=kk
 obtain ⟨sA,sB,sC,rfl,kA,kB,kC⟩:=kp
 obtain ⟨k1,k2,rfl,q1,q2⟩:=kk
 simp [kA.cells,kB.cells,kC.cells,kA.plain,kB.plain,kC.plain,q1.cells,q2.cells,q1.plain,q2.plain,show H.size<=G2.size by omega,show H.size<=G2.size + 1 by omega]
 generalize I:Array.setIfInBounds (Array.setIfInBounds (Array.push (Array.push _ _) _) _ _) _ _=G3
 obtain ⟨c,b4,b5⟩:=X0x I
 clear I
 obtain ⟨P,hP⟩:∃ P,P=G2.size:=⟨_,rfl⟩
 rw [<- hP] at b4 b5 ⊢
 replace b2:=c.bk b2
 replace b3:=c.bk b3
 replace j:=j.trans c
 replace a3:=a3.mo c
 replace q1:=q1.mo c
 replace q2:=q2.mo c
 clear c kA kB kC d3
 simp [O0F]
 simp [O0G,b4]
 refine (k0f y a3 j.1 a6).mo ?_
 rintro _ G5 ⟨⟨c3,k,rfl,sc,hq,a7,a,k',b9,hA,L⟩,c⟩
 obtain ⟨rfl,rfl⟩:c3=a7/\k=k':=by simpa using b9
 clear b9
 replace b2:=c.bk b2
 replace b3:=c.bk b3
 replace b5:=c.bk b5
 replace j:=j.trans c
 replace q1:=q1.mo c
 replace q2:=q2.mo c
 clear c b4 a3
 have hsz:=c1W y hq (by omega) L
 have c0:W0i pp N M a:=by
  rcases L with L | L | L
  ·exact (L.cert y hq).opt
  ·exact (L.cert y hq).opt
  ·exact (L.cert y hq).opt
 have hV:szR a.V<=250000 ∨ a.kind ≠ 1:=by
  rcases L with L | L | L
  ·right;rw [(L.cert y hq).kind];decide
  ·exact .inl (U a hsz (L.cert y hq))
  ·right;rw [(L.cert y hq).kind];decide
 have hS:=J a c0
 have h8:=hA.cells8
 obtain ⟨z1,z2,z3,z4,z5,rfl,l1,l2,l3,l4,l5⟩:=hA
 have d1:=l1.cells;have d2:=l2.cells
 simp [show H.size<=G5.size from j.1,d1,d2,l1.plain,l2.plain,l3.cells,l3.plain,l4.cells,l4.plain,l5.cells,l5.plain]
 generalize I:Array.setIfInBounds (Array.push _ _) _ _=G6
 obtain ⟨c,b6⟩:=new1 I
 clear I
 obtain ⟨P4,c4⟩:∃ x,x=G5.size:=⟨_,rfl⟩
 rw [<- c4] at b6 ⊢
 have d7:H.size + 4<=P4:=by have:=a0k b3;omega
 replace b2:=c.bk b2
 replace b3:=c.bk b3
 replace b5:=c.bk b5
 replace j:=j.trans c
 replace q1:=q1.mo c
 replace q2:=q2.mo c
 replace l1:=l1.mo c
 replace l2:=l2.mo c
 clear c
 have z:=a0k b2
 have F:=a0k b3
 have a1:∀ xe,o0N rows e d q N xe->o0N rows e d (q:Int).toNat (e.set.length + e.m.toNat) xe:=fun xe h=>by rw [Int.toNat_natCast,c8,<- hN];exact h
 simp [O0H]
 rcases hS with ⟨hk,hS⟩ | ⟨hk,hS⟩ | ⟨hk,hS⟩
 ·rw [hk] at b6 h8
  simp [r0l,b6]
  refine c0R ?_
  simp [E0g,b2,b3,b6,z,F,l1.plain,l2.plain,l3.plain,l4.plain,l5.plain]
  exact ⟨by omega,fun _=>⟨_,_,_,(-1,c0z),rfl,h8,l0O,by decide,by rw [k1B ha];exact ⟨rfl,a1 _ hS⟩⟩⟩
 ·rw [hk] at b6 h8
  simp [r0l,v0m,b6]
  refine c0R ?_
  simp [E0h,b2,b3,b6,z,F,l1.plain,l2.plain,l3.plain,l4.plain,l5.plain]
  exact ⟨by omega,fun _=>⟨_,_,_,(1,c0z),rfl,h8,l0O,by decide,by rw [k1B ha];exact ⟨rfl,a1 _ hS⟩⟩⟩
 ·rw [hk] at b6 h8
  simp [r0l,v0m,b6]
  have d9:szR a.V<=250000:=hV.resolve_right (fun h=>h hk)
  refine c0R ?_
  simp [E0i,b6]
  have e7:=r0Q a.V gk
  refine (g0h (a:=a0e a.V) ⟨_,_,rfl,l1,l2⟩ (by have:=j.1;omega) (by rw [a0E];omega)).mo ?_
  rintro _ G7 ⟨⟨e8,e9,rfl,m1,m2⟩,c⟩
  rw [a0w] at m1 m2 ⊢
  replace b2:=c.bk b2
  replace b3:=c.bk b3
  replace b5:=c.bk b5
  replace b6:=c.bk b6
  replace j:=j.trans c
  replace q1:=q1.mo c
  replace q2:=q2.mo c
  simp [b5]
  refine (s0x (e:=(0,a0e a.V)) (b:=a0e gk) ⟨_,_,rfl,m1,m2⟩ ⟨k1,k2,rfl,q1,q2⟩ (by have:=j.1;omega) (by rw [a0E];omega) (by rw [a0E];omega) (by rw [g0K];show szR a.V < 67108864;omega) (by rw [g0K,a0w];show szR a.V + szR gk + 1 < 67108864;omega)).mo ?_
  rintro _ G8 ⟨kx,a2⟩
  rw [g0K,k1B rfl,a0w] at kx
  obtain ⟨s3,s4,rfl,n1,n2⟩:=kx
  replace b2:=a2.bk b2
  replace b3:=a2.bk b3
  replace b6:=a2.bk b6
  replace j:=j.trans a2
  have z:=a0k b2
  have F:=a0k b3
  simp [b2,b3,b6,z,F,l1.plain,l2.plain,l3.plain,l4.plain,l5.plain,n1.cells,n2.cells,n1.plain,n2.plain]
  generalize a5:Array.setIfInBounds G8 _ _=G9
  generalize a9:Array.setIfInBounds G9 _ _=G10
  replace b3:=a0o a5 b3 (by omega)
  refine ⟨by omega,fun _=>⟨_,_,_,(0,a0e (a.V + gk)),rfl,h8,⟨s3,s4,rfl,(n1.setS a5 b2 (by decide)).setS a9 b3 (by decide),(n2.setS a5 b2 (by decide)).setS a9 b3 (by decide)⟩,?_,?_⟩⟩
  ·show d0J (a0e (a.V + gk))<=300000
   rw [a0E];omega
  ·rw [k1B ha];exact ⟨rfl,a1 _ hS⟩
theorem A0X {rows:List (List b0b)} {e:c0b} {d:List c0f} {i j:Nat} (hi:i < rows.length) (c:j < rows.length):c0y rows e d (i:Int)=c0y rows e d (j:Int):=by
 unfold c0y
 rw [show decide (0<=(i:Int))=true by simp,show decide (0<=(j:Int))=true by simp,show decide ((i:Int) < rows.length)=true by simp;omega,show decide ((j:Int) < rows.length)=true by simp;omega]
def i1v (rows:List (List b0b)) (e:c0b) (d:List c0f) (r:Value) (H':a0f):Prop :=
 ∃ l c xs,r=.tuple #[l,.int .i64 c]/\e0i H' l xs /\
  if rows=[] ∨ c0y rows e d 0=true then c=0/\xs.length=rows.length/\∀ i (h:i < xs.length),o0N rows e d i (e.set.length + e.m.toNat) xs[i]/\d0J xs[i].2<=300000 else c=1/\xs=[]
def N0O (H:a0f) (rows:List (List b0b)) (e:c0b) (d:List c0f) (s u:Value) (ec:List Value) (i:Nat) (ρ:Nat->Value) (G:a0f):Prop :=
 ρ 2=u/\ρ 3=.pointer (some ⟨H.size,0,none⟩)/\ρ 4=.pointer (some ⟨H.size + 1,0,none⟩)/\Ext H G/\a0f.bk G H.size=.row false a0M [s]/\a0f.bk G (H.size + 1)=.row false b0F ec /\
  ∃ xs,xs.length=i/\b0d PE H.size G a0Z 5 (ρ 8) xs/\(∀ j (h:j < xs.length),o0N rows e d j (e.set.length + e.m.toNat) xs[j]/\d0J xs[j].2<=300000)/\(0 < i->c0y rows e d 0=true)
theorem o0H {rows:List (List b0b)} {e:c0b} {d:List c0f} (ht:d0f H v rows) (he:i0T H w e) (hd:e0i H u d) (hf:fl<=H.size) (hF:N0R rows e d) :
  a0O env fl a1H [v,w,u] H (fun r H'=>i1v rows e d r H'/\Ext H H') R:=by
 have a8:=hF.rl
 have a3:=ht;have a1:=he
 obtain ⟨s,rfl,hs⟩:=ht
 obtain ⟨f,t,sG,sS,sP,rfl,hG,hS,a0,a7⟩:=he
 refine a0i i1G hf (h:=?_)
 intro ρ h0
 simp [d1M,O0s,O0t,h0,hs.cells,hG.cells,hS.cells,a0]
 generalize F:(H.push _).push _=G
 obtain ⟨y,b0,z⟩:=push2 F
 clear F
 simp [O0u,b0,hs.slen]
 refine d0b (n:=rows.length) (N0O H rows e d s u [.int .i64 f,.int .i64 t,.int .i64 e.m,sG,sS,sP]) rfl rfl (by decide) (by omega) (by simp) (by simp) ?_ ?_ ?_ ?_
 ·exact ⟨by simp [h0],by simp,by simp,y,b0,z,[],rfl,by simpa using b0d.nil,by simp,by simp⟩
 ·intro i ρ a9 G h hI;simpa [N0O,h] using hI
 ·clear h0 ρ y b0 z G
  rintro i ρ G hi gi gn ⟨g2,g3,g4,y,b0,z,xs,I,ho,L,J⟩
  obtain ⟨sl,N⟩:∃ s,ρ 8=s:=⟨_,rfl⟩
  rw [N] at ho
  simp [O0v,O0w,gi,g2,g3,g4,b0,z]
  refine (i0S (row:=(i:Int)) (a3.mo y) (a1.mo y) (hd.mo c0q y) y.1 hF).mo ?_
  rintro _ G2 ⟨⟨x,a,c,xe,rfl,h8,kx,a4,q⟩,k⟩
  obtain ⟨c1,c2,c3,c4,c5,c6,c7,c8,rfl,p1,p2,p3,p4,p5,p6,p7,p8⟩:=h8
  obtain ⟨s1,s2,rfl,q1,M⟩:=kx
  replace ho:=ho.mo c0q k
  replace b0:=k.bk b0
  replace z:=k.bk z
  replace y:=y.trans k
  clear k
  have hsz:=y.1
  simp [q1.cells,M.cells,q1.plain,M.plain,p1,p2,p3,p4,p5,p6,p7,p8,hsz,show H.size<=G2.size + 1 by omega]
  generalize F:Array.setIfInBounds (Array.setIfInBounds (Array.push (Array.push _ _) _) _ _) _ _=G3
  obtain ⟨k,b4,_⟩:=X0x F
  clear F
  replace ho:=ho.mo c0q k
  replace b0:=k.bk b0
  replace z:=k.bk z
  replace y:=y.trans k
  replace q1:=q1.mo k
  replace M:=M.mo k
  clear k
  have O:c0y rows e d (i:Int)=c0y rows e d 0:=A0X (j:=0) hi (by omega)
  by_cases ha:c0y rows e d 0=true
  ·rw [k1B (by rw [O];exact ha)] at q
   obtain ⟨rfl,Z⟩:=q
   simp [D0R]
   obtain ⟨v',G5,h1,h2,h3,h4⟩:=b0d.app (P:=PE) (sz:=5) (e:=a0Z) (by decide) (fun G' cs x _ hl h=>g0L.lx h hl) ho (e2:=a0Z) (c:=1) (bytes:=72) (new:=[.int .i64 xe.1,.bool xe.2.1.1,s1,.bool xe.2.2.1,s2]) (x:=xe) ⟨s1,s2,rfl,q1,M⟩ rfl (by simp [q1.plain,M.plain]) (by omega) (by omega) (by omega) y.1
   have hA:=y
   have a5:=ho.ne b0 (by decide)
   have a6:=ho.ne z (by decide)
   simp [O0y,N,b4,h1,q1.cells,M.cells]
   refine Rnd.mk (by simp [gi]) (by simp [gn]) ⟨by simp [g2],by simp [g3],by simp [g4],h4 _ (k1x _) y,(h3.2 _ (a0k b0) a5).trans b0,(h3.2 _ (a0k z) a6).trans z,xs ++ [xe],by simp [I],b0d.cast (v':=v') (by simp) h2,fun j hj=>?_,fun _=>ha⟩
   by_cases U:j < xs.length
   ·rw [l1s U];exact L j U
   ·have:j=i:=by simp at hj;omega
    subst this
    rw [k1X (by omega)]
    simp only [I,n1z,List.getElem_cons_zero]
    exact ⟨by simpa using Z,a4⟩
  ·rw [k1y (by rw [O];exact ha)] at q
   obtain ⟨rfl,_⟩:=q
   simp [D0R,O0x]
   have a2:¬ (rows=[] ∨ c0y rows e d 0=true):=by
    rintro (h | h)
    ·subst h;simp at hi
    ·exact ha h
   exact fun _=>⟨_,_,[],rfl,Sls.nil,by rw [k1y a2];exact ⟨rfl,rfl⟩⟩
 ·clear h0 ρ y b0 z G
  rintro ρ G gi gn ⟨g2,g3,g4,y,b0,z,xs,I,ho,L,J⟩
  obtain ⟨sl,N⟩:∃ s,ρ 8=s:=⟨_,rfl⟩
  rw [N] at ho
  simp [D0Q,N]
  refine fun _=>⟨_,_,xs,rfl,ho.sls,?_⟩
  rw [k1B (by
   by_cases h:rows=[]
   ·exact .inl h
   ·exact .inr (J (by have:=n1v.2 h;omega)))]
  exact ⟨rfl,I,L⟩
end
section
open SX
def shE (s k:Int):c0b:=⟨0,[],[⟨[a0g s],[],a0g k⟩]⟩
theorem y0S {z:Int}:vQ (a0g z)=(z:Rat):=by unfold vQ;rw [a0h]
theorem K0m {s k:Int} {z:Nat->Rat} {row:Nat} (h:row < 2):m0D ((c0m 1 1).getD row []) (shE s k) 1 z=((if row=0 then 1 else -1:Int):Rat) * ((s:Rat) * z 0 + (k:Rat)):=by
 have e:(c0m 1 1).getD row []=g0m 1 0 (if row=0 then 1 else -1):=by simpa using o0W (n:=1) (i:=0) (m:=1) h (by decide)
 have c:K0H ((shE s k).set.getD 0 aff0) 1 z=(s:Rat) * z 0 + (k:Rat):=by
  show rs (fun j=>vQ (([a0g s] ++ []:List _).getD j iz) * z j) 1 + vQ (a0g k)=_
  rw [rs,rs,Rat.zero_add,y0S]
  show vQ (a0g s) * z 0 + _=_
  rw [y0S]
 unfold m0D
 rw [e]
 have:=K0i (n:=1) (i:=0) (p:=if row=0 then 1 else -1) (f:=fun i=>K0H ((shE s k).set.getD i aff0) 1 z) (by decide)
 rw [c] at this
 exact this
end
section
variable {fl:Nat} {H G:a0f} {R:a0D} {v w u:Value}
theorem z0G {n m:Nat}:∀ r ∈ c0m n m,Few 6 r:=by
 intro r q
 have c:∀ z:Int,-1<=z->z<=1->d0J (a0e (z:Rat))<=6:=fun z c s=>by
  rw [a0E,n0R]
  have:=q0G (z:=z) (k:=1) (by omega)
  omega
 obtain ⟨i,_,h | h⟩:=i0b q
 all_goals
  rw [h]
  intro x e
  unfold g0m at e
  obtain ⟨j,_,rfl⟩:=l1r.1 e
  refine ⟨c _ ?_ ?_,c0t _,c0t _⟩
  all_goals (split;omega;split <;> omega)
theorem j0F {n:Int} (e:fl<=H.size):a0O env fl Y0X [.int .i64 n] H (fun r H'=>r=.int .i64 n/\Ext H H') R:=by
 refine a0i i1I e (h:=?_)
 intro ρ c
 simp [d1O,O0I,O0J,c]
theorem Sls.atX {α:Type} {P:a0f->List Value->α->Prop} {e sz:Nat} {l:List α} (h:Sls P H e sz v l) {j:Nat} (u:j < l.length) (hs:0 < sz) :
  ∃ b o cs,adr sz v j=.pointer (some ⟨b,o,none⟩)/\cs.length=sz/\P H cs l[j] /\
   ∀ G,Ext H G->(∀ k n,k + n<=sz->0 < n->rdn (a0f.bk G b) (o + k) n=some (.agg ((cs.drop k).take n).toArray))/\∀ k,k < sz->rd (a0f.bk G b) (o + k)=some (cs.getD k undef):=by
 obtain ⟨cs,⟨I,q⟩,z⟩:=h
 have s:=z j u
 rcases q with ⟨rfl,q⟩ | ⟨b,off,cap,ro,cells,rfl,hb,ho,rfl⟩
 ·omega
 ·have c:(j + 1) * sz<=l.length * sz:=k1E sz u
  rw [k1R,l1l] at c
  have y:(((cells.drop off).take (l.length * sz)).drop (j * sz)).take sz=(cells.drop (off + j * sz)).take sz:=by
   rw [m1S,m1H,m1g,l1x (by omega)]
  rw [y] at s
  refine ⟨b,off + j * sz,_,rfl,by simp;omega,s,fun G x=>⟨fun k n F J=>?_,fun k F=>?_⟩⟩
  ·rw [x.bk hb,K0c,k1B (by omega),m1S,m1H,m1g,l1x (by omega)]
  ·rw [x.bk hb,V0V,k1v,l1K,k1B (by omega),l1Q,k1A (by omega)];rfl
def f1t (l:List (Bool × List Nat)):Prop:=∀ x ∈ l,x.2.length<=40
theorem f0f {l:List (Bool × List Nat)} (h:c0A H v l) (U:fl<=H.size) (hl:l.length < 1073741824):a0O env fl L0s [v] H (fun r H'=>(∃ c,r=.bool c/\(c=false->f1t l))/\Ext H H') R:=by
 refine a0i i1K U (h:=?_)
 intro ρ F
 simp [d1P,O0R,O0S,F]
 refine d0C (fun n ρ G=>ρ 0=v/\ρ 3=.int .i64 (n:Int)/\G=H/\f1t (l.take n)) l.length (by decide) (by simp [F,f1t]) ?_
 clear F ρ
 rintro n ρ G Z ⟨u,y,rfl,hpre⟩
 simp [O0T,u,y,h.slen]
 refine e0T.mk (by simp) (fun e=>?_) (fun L=>?_)
 ·obtain ⟨b,o,cs,N,O,⟨s,J,hs⟩,I⟩:=h.atX e (by decide)
  have q:cs=[.bool l[n].1,s]:=by simpa using n1E (fun v=>match v with | Value.agg a=>a.toList | _=>[]) J
  subst q
  have z:=(I _ (Ext.refl _)).2 1 (by decide)
  simp at z
  by_cases M:40 < l[n].2.length
  ·have j:(40:Int) < (l[n].2.length:Int):=by omega
   simp [H0i,u,y,h.ia e,N,z,hs.slen,M,j,O0U]
  ·have j:¬ (40:Int) < (l[n].2.length:Int):=by omega
   simp [H0i,u,y,h.ia e,N,z,hs.slen,M,j]
   unfold f0N
   simp [O0V,y,b0z (show n < 4611686018427387904 by omega)]
   refine c0s.mk ⟨by simp [u],by simp,rfl,fun x k=>?_⟩
   rw [k1N e] at k
   rcases k1T.1 k with k | k
   ·exact hpre x k
   ·rw [m1j.1 k];omega
 ·subst L
  rw [k1M] at hpre
  simp [O0W]
  exact hpre
theorem x0k {a:Bool × List Nat} {p c:Nat} {ro:Bool} {s:Value} (hb:H.bk p=.row ro a0a [.bool a.1,s]) (h:Lim H s a.2):c0A H (.slice (some ⟨p,0,none⟩) 1 c) [a]:=by
 refine ⟨[.bool a.1,s],⟨rfl,.inr ⟨p,0,c,ro,_,rfl,hb,by simp,by simp⟩⟩,fun j e=>?_⟩
 have:j=0:=by simpa using e
 subst this
 exact ⟨s,rfl,h⟩
def L0E (a:e0K):Prop:=u0g a/\a.X.length<=60/\a.W.length<=60
theorem s0r {l:List e0K} (h:g0g H v l) (hf:fl<=H.size) (hl:l.length < 1073741824):a0O env fl X0g [v] H (fun r H'=>(∃ c,r=.bool c/\(c=false->∀ a ∈ l,L0E a))/\Ext H H') R:=by
 refine a0i j1i hf (h:=?_)
 intro ρ h0
 simp [e1n,R0p,R0q,h0]
 refine d0C (fun n ρ G=>ρ 0=v/\ρ 3=.int .i64 (n:Int)/\Ext H G/\∀ a ∈ l.take n,L0E a) l.length (by decide) (by simp [h0]) ?_
 clear h0 ρ
 rintro n ρ G a6 ⟨F,I,j,hpre⟩
 have k:=h.mo c0d j
 simp [R0r,F,I,k.slen]
 refine e0T.mk (by simp) (fun q=>?_) (fun a4=>?_)
 ·obtain ⟨b,o,cs,M,a5,⟨sX,sW,s,a3,O,Z,kK⟩,u⟩:=k.atX q (by decide)
  have N:cs=[sX,sW,.bool l[n].K.1,s]:=by simpa using n1E (fun v=>match v with | Value.agg a=>a.toList | _=>[]) a3
  subst N
  have U:=(u _ (Ext.refl _)).2 0 (by decide)
  have c1:=(u _ (Ext.refl _)).2 1 (by decide)
  have c2:=(u _ (Ext.refl _)).1 2 2 (by decide) (by decide)
  simp at U c1 c2
  by_cases h1:60 < l[n].X.length
  ·have z:(60:Int) < (l[n].X.length:Int):=by omega
   simp [y0y,F,I,k.ia q,M,U,O.slen,h1,z,p0O]
  have z:¬ (60:Int) < (l[n].X.length:Int):=by omega
  by_cases h2:60 < l[n].W.length
  ·have J:(60:Int) < (l[n].W.length:Int):=by omega
   simp [y0y,F,I,k.ia q,M,U,c1,O.slen,Z.slen,h1,z,h2,J,p0O]
  have J:¬ (60:Int) < (l[n].W.length:Int):=by omega
  simp [y0y,F,I,k.ia q,M,U,c1,c2,O.slen,Z.slen,h1,z,h2,J]
  generalize L:G.push _=G1
  obtain ⟨e,b0⟩:=g0e L
  clear L
  refine (f0f (x0k b0 (kK.mo e)) (by have:=j.1;have:=e.1;omega) (by simp)).mo ?_
  rintro _ G2 ⟨⟨c,rfl,a0⟩,y⟩
  replace e:=e.trans y
  cases c
  case true=>simp [p0O]
  have d0:=(u _ e).2 0 (by decide)
  simp at d0
  simp [F,I,k.ia q,M,d0]
  refine (f0f (O.mo b0s e) (by have:=j.1;have:=e.1;omega) (by omega)).mo ?_
  rintro _ G3 ⟨⟨c,rfl,a1⟩,y⟩
  replace e:=e.trans y
  cases c
  case true=>simp [p0O]
  have d1:=(u _ e).2 1 (by decide)
  simp at d1
  simp [F,I,k.ia q,M,d1]
  refine (f0f (Z.mo b0s e) (by have:=j.1;have:=e.1;omega) (by omega)).mo ?_
  rintro _ G4 ⟨⟨c,rfl,a2⟩,y⟩
  replace e:=e.trans y
  cases c
  case true=>simp [p0O]
  simp
  unfold f0N
  simp [R0s,I,b0z (show n < 4611686018427387904 by omega)]
  refine c0s.mk ⟨by simp [F],by simp,j.trans e,fun x j=>?_⟩
  rw [k1N q] at j
  rcases k1T.1 j with j | j
  ·exact hpre x j
  ·rw [m1j.1 j]
   have hK:=a0 rfl _ (m1j.2 rfl)
   exact ⟨⟨fun x j=>⟨a1 rfl x j,O.lim x j⟩,fun x j=>⟨a2 rfl x j,Z.lim x j⟩,hK,kK.ok⟩,by omega,by omega⟩
 ·subst a4
  rw [k1M] at hpre
  simp [R0t]
  exact fun _=>hpre
def x0i (e:c0b):Prop:=(∀ a ∈ e.set,L0E a)/\(∀ a ∈ e.guards,L0E a)/\e.guards.length<=100/\e.set.length<=20
theorem s0b {e:c0b} {p c:Nat} {f t:Int} {Z sS sP:Value} (hb:a0f.bk H p=.row false b0F [.int .i64 f,.int .i64 t,.int .i64 e.m,Z,sS,sP]) (hG:g0g H Z e.guards) (hS:g0g H sS e.set) (hf:fl<=H.size) :
  a0O env fl a1L [.agg #[.slice none 0 0,.slice none 0 0,.slice (some ⟨p,0,none⟩) 1 c,.slice none 0 0]] H (fun r H'=>(∃ c,r=.bool c/\(c=false->x0i e))/\Ext H H') R:=by
 refine a0i i1S hf (h:=?_)
 intro ρ h0
 simp [d1X,P0H,h0]
 generalize x:H.push _=G
 obtain ⟨k,b0⟩:=g0e x
 clear x
 replace hb:=k.bk hb
 have z0:g0b (.slice none 0 0)=some (.int .i64 0):=rfl
 have z1:g0b (.slice (some ⟨p,0,none⟩) 1 c)=some (.int .i64 1):=rfl
 simp [P0I,b0,z0,z1]
 simp [P0J]
 refine d0C (fun n ρ G=>ρ 1=.pointer (some ⟨H.size,0,none⟩)/\ρ 3=.int .i64 (n:Int)/\Ext H G/\a0f.bk G p=.row false b0F [.int .i64 f,.int .i64 t,.int .i64 e.m,Z,sS,sP]/\a0f.bk G H.size=.row false m0d [.slice none 0 0,.slice none 0 0,.slice (some ⟨p,0,none⟩) 1 c,.slice none 0 0]/\(1<=n->x0i e)) 1 (by decide) ?_ ?_
 ·exact ⟨by simp,by simp,k,hb,b0,fun h=>by omega⟩
 clear h0 ρ k hb b0 G
 rintro n ρ G hn ⟨s,g3,k,hb,b0,hq⟩
 simp [P0K,s,g3,b0,z1]
 refine e0T.mk (by simp;omega) (fun N=>?_) (fun y=>?_)
 ·have O:n=0:=by omega
  subst O
  have z:iaV 6 (.slice (some ⟨p,0,none⟩) 1 c) (.int .i64 0)=some (.pointer (some ⟨p,0,none⟩)):=by simp [iaV]
  have q:ρ 3=.int .i64 0:=g3
  have kG:=hG.mo c0d k
  have kS:=hS.mo c0d k
  have U:=kG.slen
  have lS:=kS.slen
  by_cases I:100 < e.guards.length
  ·have u:(100:Int) < (e.guards.length:Int):=by omega
   simp [y0u,s,q,b0,z,hb,U,I,u,t0C]
  have u:¬ (100:Int) < (e.guards.length:Int):=by omega
  by_cases h2:20 < e.set.length
  ·have v:(20:Int) < (e.set.length:Int):=by omega
   simp [y0u,s,q,b0,z,hb,U,lS,I,u,h2,v,t0C]
  have v:¬ (20:Int) < (e.set.length:Int):=by omega
  simp [y0u,s,q,b0,z,hb,U,lS,I,u,h2,v]
  refine (s0r kG k.1 (by omega)).mo ?_
  rintro _ G2 ⟨⟨F,rfl,J⟩,j⟩
  replace hb:=j.bk hb
  replace b0:=j.bk b0
  replace k:=k.trans j
  cases F
  case true=>simp [t0C]
  simp [s,q,b0,z,hb]
  refine (s0r (kS.mo c0d j) k.1 (by omega)).mo ?_
  rintro _ G3 ⟨⟨F,rfl,L⟩,j⟩
  replace hb:=j.bk hb
  replace b0:=j.bk b0
  replace k:=k.trans j
  cases F
  case true=>simp [t0C]
  simp
  unfold f0N
  have w1:IntKind.i64.wrap 1=1:=by decide
  simp [P0L,q,w1]
  exact c0s.mk ⟨by simp [s],by simp,k,hb,b0,fun _=>⟨L rfl,J rfl,by omega,by omega⟩⟩
 ·subst y
  have M:=hq (k1x _)
  simp [P0M]
  refine d0C (fun n ρ G=>ρ 1=.pointer (some ⟨H.size,0,none⟩)/\ρ 4=.int .i64 (n:Int)/\a0f.bk G H.size=.row false m0d [.slice none 0 0,.slice none 0 0,.slice (some ⟨p,0,none⟩) 1 c,.slice none 0 0]) 0 (by decide) ?_ ?_
  ·exact ⟨by simp [s],by simp,b0⟩
  rintro n ρ G hn ⟨s,g4,b0⟩
  simp [P0N,s,g4,b0,z0]
  refine e0T.mk (by simp) (fun N=>by omega) (fun y=>?_)
  simp [I0r]
  exact fun _=>M
theorem s0c {rows:List (List b0b)} {e:c0b} {d:List c0f} (ht:d0f H v rows) (Z:i0T H w e) (U:e0i H u d) (hf:fl<=H.size) :
  a0O env fl f_7 [v,w,u] H (fun r H'=>(∃ c,r=.bool c/\(c=false->B0Q rows/\(d.length<=100/\d0O j0H d=false)/\x0i e))/\Ext H H') R:=by
 obtain ⟨s,rfl,hs⟩:=ht
 obtain ⟨f,t,sG,sS,sP,rfl,I,J,y,O⟩:=Z
 refine a0i e_7 hf (h:=?_)
 intro ρ N
 simp [s_7,c1y,N,hs.cells,I.cells,J.cells,y]
 generalize q:(H.push _).push _=G
 obtain ⟨k,b0,x⟩:=push2 q
 clear q
 simp [c1z,b0]
 refine (u0i (hs.mo d0u k) k.1).mo ?_
 rintro _ G2 ⟨⟨z,rfl,L⟩,j⟩
 replace x:=j.bk x
 replace k:=k.trans j
 cases z
 case true=>simp
 simp [N]
 refine (u0h (U.mo c0q k) k.1).mo ?_
 rintro _ G3 ⟨rfl,j⟩
 replace x:=j.bk x
 replace k:=k.trans j
 by_cases F:100 < d.length
 ·simp [F]
 cases h2:d0O j0H d
 case true=>simp [F]
 simp [F,x,I.cells,J.cells,y]
 generalize q:G3.push _=G4
 obtain ⟨j,b2⟩:=g0e q
 clear q
 replace k:=k.trans j
 refine (s0b b2 (I.mo c0d k) (J.mo c0d k) k.1).mo ?_
 rintro _ G5 ⟨⟨z,rfl,M⟩,j⟩
 cases z
 case true=>simp
 simp
 exact fun _=>⟨L rfl,by omega,M rfl⟩
theorem z0A {rows:List (List b0b)} {e:c0b} (ht:d0f H v rows) (he:i0T H w e) (hf:fl<=H.size) :
  a0O env fl f_8 [v,w] H (fun r H'=>(∃ c,r=.bool c/\(c=true->rows.length<=8/\e.set.length<=3/\e.m<=3/\e.guards.length<=6))/\Ext H H') R:=by
 obtain ⟨s,rfl,hs⟩:=ht
 obtain ⟨f,t,sG,sS,sP,rfl,O,U,M,a0⟩:=he
 refine a0i e_8 hf (h:=?_)
 intro ρ Z
 simp [s_8,c1C,Z,hs.cells,O.cells,U.cells,M]
 generalize y:(H.push _).push _=G
 obtain ⟨hx,b0,u⟩:=push2 y
 clear y
 have z:=hs.slen
 have F:=O.slen
 have I:=U.slen
 by_cases x:rows.length<=8
 ·have j:(rows.length:Int)<=8:=by omega
  by_cases J:e.set.length<=3
  ·have k:(e.set.length:Int)<=3:=by omega
   by_cases L:e.m<=3
   ·by_cases N:e.guards.length<=6
    ·have q:(e.guards.length:Int)<=6:=by omega
     simp [A0j,b0,u,z,F,I,x,j,J,k,L,N,q]
    ·have q:¬ (e.guards.length:Int)<=6:=by omega
     simp [A0j,b0,u,z,F,I,x,j,J,k,L,N,q]
   ·simp [A0j,b0,u,z,F,I,x,j,J,k,L]
  ·have k:¬ (e.set.length:Int)<=3:=by omega
   simp [A0j,b0,u,z,F,I,x,j,J,k]
 ·have j:¬ (rows.length:Int)<=8:=by omega
  simp [A0j,b0,u,z,F,I,x,j]
end
section
open SX
variable {fl:Nat} {H G:a0f} {R:a0D} {v w u:Value}
theorem L0a {a:e0K} {p c:Nat} {ro:Bool} {h e s:Value} (hb:a0f.bk H p=.row ro e0C [h,e,.bool a.K.1,s]) (u:c0A H h a.X) (q:c0A H e a.W) (k:Lim H s a.K.2):g0g H (.slice (some ⟨p,0,none⟩) 1 c) [a]:=by
 refine ⟨[h,e,.bool a.K.1,s],⟨rfl,.inr ⟨p,0,c,ro,_,rfl,hb,by simp,by simp⟩⟩,fun j v=>?_⟩
 have:j=0:=by simpa using v
 subst this
 exact ⟨h,e,s,rfl,u,q,k⟩
theorem h1O {z1 z2 r2:Blk} {G3:a0f} (c:Array.setIfInBounds (Array.push (Array.push G z1) z2) (G.size + 1) r2=G3):Ext G G3/\a0f.bk G3 G.size=z1/\a0f.bk G3 (G.size + 1)=r2:=by
 subst c
 refine ⟨((Ext.refl G).push.push).set (by omega),?_,?_⟩
 ·rw [a0T (by omega)];simp [a0L]
 ·rw [a0A (by simp)]
theorem c1O {s k:Int} (hs:s=1 ∨ s = -1) (j:-4294967296 < k) (q:k < 4294967296):k0p (shE s k):=by
 have h:∀ z:Int,-4294967296 < z->z < 4294967296->(a0g z).2.length<=40:=fun z j q=>by
  have:=q0G (z:=z) (k:=1) (by omega)
  show lz z<=40
  omega
 refine ⟨fun a c=>?_,fun a c=>by simp [shE] at c,by simp [shE],by simp [shE],by simp [shE]⟩
 have:a = ⟨[a0g s],[],a0g k⟩:=by simpa [shE] using c
 subst this
 exact ⟨fun x e=>by rw [m1j.1 e];exact ⟨h s (by omega) (by omega),c0t _⟩,fun x e=>by simp at e,h k j q,c0t _⟩
theorem N0C {s k:Int} {d:List c0f} {row:Nat} (u:d.length=2) (v:∀ x ∈ d,i0K x=true) (z:row < 2):c0y (c0m 1 1) (shE s k) d (row:Int)=true:=by
 have hv:=B0b (n:=1) (lo:=fun _=>0) (hi:=fun _=>0) (by decide)
 unfold f0p at hv
 simp only [k1L,l1k] at hv
 have h:((row:Nat):Int) < ((c0m 1 1).length:Int):=by rw [d0V];omega
 have c:d0O (fun e=>!i0K e) d=false:=List.any_eq_false.2 fun x y=>by rw [v x y];decide
 have j:k0y (shE s k).set 1 0=true:=by unfold k0y d0O;simp [shE]
 have q:k0y (shE s k).guards 1 0=true:=by unfold k0y d0O;simp [shE]
 unfold c0y f0p
 show (l0w (c0m 1 1) ((1:Nat):Int) && decide (d.length=(c0m 1 1).length) && !d0O (fun e=>!i0K e) d && decide (0<=((row:Nat):Int)) && decide (((row:Nat):Int) < ((c0m 1 1).length:Int)) && decide ((0:Int)<=0) && k0y (shE s k).set 1 0 && k0y (shE s k).guards 1 0)=true
 rw [hv.1.1,c,j,q,decide_eq_true h,decide_eq_true (show (0:Int)<=((row:Nat):Int) by omega),decide_eq_true (show d.length=(c0m 1 1).length by rw [d0V,u])]
 rfl
theorem k1m {s k:Int} {d:List c0f} (hs:k0p (shE s k)) (j:d.length=2) (e:∀ x ∈ d,d0J x.2<=6/\b0u x.2.1.2/\b0u x.2.2.2):N0R (c0m 1 1) (shE s k) d :=
 ⟨hs,by rw [d0V];decide,fun r c=>⟨z0G r c,by obtain ⟨k,_,h | h⟩:=i0b c <;> (rw [h,s0O];decide)⟩,e,by omega⟩
def awD:List c0f:=[(0,a0e ((3:Int):Rat)),(1,c0z)]
theorem a1k:o0N (c0m 1 1) (shE 1 1) awD 0 1 (0,a0e ((4:Int):Rat)):=by
 have c:∀ z,A0w (c0m 1 1) (shE 1 1) awD 1 z <-> z 0<=((3:Int):Rat):=fun z=>by
  have e:c0m 1 1=[g0m 1 0 1,g0m 1 0 (-1)]:=rfl
  have r1:∀ p:Int,c1K (g0m 1 0 p) 1 z=(p:Rat) * z 0:=fun p=>K0i (f:=z) (by decide)
  unfold A0w
  rw [e]
  simp only [shE,awD,List.zip_cons_cons,List.zip_nil_right,m1b,List.not_mem_nil,or_false,forall_eq_or_imp,forall_eq,l1p,List.length_nil,l1e,a0w,true_implies]
  rw [r1]
  have h:((1:Int):Rat) * z 0=z 0:=by rw [Rat.intCast_one,Rat.one_mul]
  rw [h]
  simp
 refine .inr ⟨by simp [awD,d0O],.inl ⟨_,rfl,⟨fun _=>((3:Int):Rat),(c _).2 Rat.le_refl,?_⟩,fun z j=>?_⟩⟩
 ·rw [K0m (by decide)];simp only [l1o];push_cast;grind
 ·have:=(c z).1 j
  rw [K0m (by decide)];simp only [l1o];push_cast at this ⊢;grind
theorem L0d:c0y (c0m 1 1) (shE 1 1) awD 0=true:=by
 refine N0C (row:=0) rfl (fun x c=>?_) (by decide)
 have:x=(0,a0e ((3:Int):Rat)) ∨ x=(1,c0z):=by simpa [awD] using c
 rcases this with rfl | rfl
 ·unfold i0K;simp [f0d]
 ·unfold i0K;simp [i0i]
theorem i1F:N0R (c0m 1 1) (shE 1 1) awD:=by
 refine k1m (c1O (.inl rfl) (by decide) (by decide)) rfl (fun x c=>?_)
 have:x=(0,a0e ((3:Int):Rat)) ∨ x=(1,c0z):=by simpa [awD] using c
 rcases this with rfl | rfl
 ·refine ⟨?_,c0t _,c0t _⟩
  show d0J (a0e ((3:Int):Rat))<=6
  rw [a0E,n0R]
  have:=q0G (z:=3) (k:=1) (by omega)
  omega
 ·exact ⟨by decide,fun x c=>by simp [c0z] at c,fun x c=>by simp [c0z] at c⟩
theorem b0O (hf:fl<=H.size):a0O env fl f_9 [] H (fun r H'=>r=.bool true/\Ext H H') R:=by
 refine a0i e_9 hf (h:=?_)
 intro ρ h0
 simp [s_9,c1D,c1E]
 refine (f0e (n:=1) (k1x _) (by decide) (by decide)).mo ?_
 rintro _ G2 ⟨⟨s1,rfl,m1⟩,q⟩
 simp [m1.cells]
 generalize s:G2.push _=G3
 obtain ⟨j,b1⟩:=g0e s
 clear s
 have N:=x0k (c:=1) b1 (m1.mo j)
 replace q:=q.trans j
 refine (f0e (n:=1) q.1 (by decide) (by decide)).mo ?_
 rintro _ L ⟨⟨s2,rfl,m2⟩,j⟩
 replace N:=N.mo b0s j
 replace q:=q.trans j
 clear j b1 m1
 have hsz:=q.1
 simp [m2.cells,show H.size<=L.size + 1 by omega]
 generalize s:Array.setIfInBounds (Array.push (Array.push _ _) _) _ _=G6
 obtain ⟨j,b2,b3⟩:=h1O s
 clear s
 have y:g0g G6 (.slice (some ⟨L.size,0,none⟩) 1 1) (shE 1 1).set:=L0a (a:=⟨[a0g 1],[],a0g 1⟩) b2 (N.mo b0s j) Sls.nil (m2.mo j)
 replace q:=q.trans j
 obtain ⟨P,hP⟩:∃ P,P=L.size + 1:=⟨_,rfl⟩
 rw [<- hP] at b3 ⊢
 clear j b2 m2 N
 obtain ⟨vs,Z⟩:∃ x,x=Value.slice (some ⟨L.size,0,none⟩) 1 1:=⟨_,rfl⟩
 rw [<- Z] at b3 y ⊢
 refine a0C ?_
 simp [c1F]
 refine (k0O (n:=1) (m:=1) (by have:=q.1;omega) (by decide)).mo ?_
 rintro vT G7 ⟨F,j⟩
 replace b3:=j.bk b3
 replace y:=y.mo c0d j
 replace q:=q.trans j
 clear j
 simp [b3]
 refine (g0H (n:=3) (by have:=q.1;omega) (by decide) (by decide)).mo ?_
 rintro _ G8 ⟨⟨s3,s4,rfl,I,J⟩,j⟩
 replace F:=F.mo j
 replace y:=y.mo c0d j
 replace q:=q.trans j
 clear j b3
 simp [I.cells,J.cells]
 generalize s:G8.push _=G9
 obtain ⟨j,U⟩:=g0e s
 clear s
 have hd:e0i G9 (.slice (some ⟨G8.size,0,none⟩) 2 2) awD:=by
  refine ⟨_,(Own.mk (fl:=0) (n:=2) (sz:=5) U rfl (l1D _)).sl,fun k hk=>?_⟩
  match k,hk with
  | 0,_=>exact ⟨s3,s4,rfl,I.mo j,J.mo j⟩
  | 1,_=>exact ⟨_,_,rfl,Lim.nil,Lim.nil⟩
 replace F:=F.mo j
 replace y:=y.mo c0d j
 replace q:=q.trans j
 refine (i0S (e:=shE 1 1) (row:=0) F ⟨0,0,.slice none 0 0,vs,.slice none 0 0,rfl,Sls.nil,y,rfl,rfl⟩ hd (by have:=q.1;have:=a0k U;omega) i1F).mo ?_
 rintro _ O ⟨⟨x,a,c,xe,rfl,h8,kx,a1,v⟩,j⟩
 rw [k1B L0d] at v
 obtain ⟨rfl,G⟩:=v
 have a0:xe=(0,a0e ((4:Int):Rat)):=o0N.unique G a1k
 subst a0
 obtain ⟨c1,c2,c3,c4,c5,c6,c7,c8,rfl,p1,p2,p3,p4,p5,p6,p7,p8⟩:=h8
 obtain ⟨s5,s6,rfl,q1,z⟩:=kx
 replace q:=q.trans j
 have hsz:=q.1
 clear j hd F y I J U
 simp [q1.cells,z.cells,q1.plain,z.plain,p1,p2,p3,p4,p5,p6,p7,p8,hsz,show H.size<=O.size + 1 by omega]
 generalize s:Array.setIfInBounds (Array.setIfInBounds (Array.push (Array.push _ _) _) _ _) _ _=G11
 obtain ⟨j,M,_⟩:=X0x s
 clear s
 replace q:=q.trans j
 replace q1:=q1.mo j
 replace z:=z.mo j
 refine a0C ?_
 simp [c1G,M]
 refine (j0F q.1).mo ?_
 rintro _ a2 ⟨rfl,u⟩
 replace M:=u.bk M
 replace q:=q.trans u
 replace q1:=q1.mo u
 replace z:=z.mo u
 simp [M]
 refine (g0H (n:=4) (by have:=q.1;omega) (by decide) (by decide)).mo ?_
 rintro _ a3 ⟨⟨s7,s8,rfl,I,J⟩,u⟩
 replace q:=q.trans u
 replace q1:=q1.mo u
 replace z:=z.mo u
 simp
 refine (s0e (a:=a0e ((4:Int):Rat)) (b:=a0e ((4:Int):Rat)) ⟨s5,s6,rfl,q1,z⟩ ⟨s7,s8,rfl,I,J⟩ q.1 (by have:d0J (a0e ((4:Int):Rat))<=300000:=a1;omega)).mo ?_
 rintro _ a4 ⟨rfl,u⟩
 simp
theorem Rats.notlong {l:List b0b} (h:b0r H v l) (k:d0O g0Y l=false):Few 6 l:=by
 intro y e
 obtain ⟨i,hi,rfl⟩:=l1L e
 obtain ⟨w,_,s,t,_,j,q⟩:=b0r.load h hi
 have c:=List.any_eq_false.1 k _ e
 unfold g0Y at c
 simp at c
 exact ⟨by unfold d0J;omega,j.ok,q.ok⟩
theorem Rows.notlong {l:List (List b0b)} (h:e0U H v l) (k:B0Q l):∀ r ∈ l,Few 6 r:=by
 intro r c
 obtain ⟨i,hi,rfl⟩:=l1L c
 obtain ⟨w,_,e⟩:=e0U.load h hi
 exact Rats.notlong e (k.2 _ c).2
theorem Exts.notlong {l:List c0f} (h:e0i H v l) (k:d0O j0H l=false):∀ x ∈ l,d0J x.2<=6/\b0u x.2.1.2/\b0u x.2.2.2:=by
 intro y e
 obtain ⟨i,hi,rfl⟩:=l1L e
 obtain ⟨w,_,s,t,_,j,q⟩:=e0i.load h hi
 have c:=List.any_eq_false.1 k _ e
 unfold j0H g0Y at c
 simp at c
 exact ⟨by unfold d0J;omega,j.ok,q.ok⟩
theorem h1D {rows:List (List b0b)} {e:c0b} {d:List c0f} (F:d0f H v rows) (y:e0i H u d) (z:B0Q rows/\(d.length<=100/\d0O j0H d=false)/\x0i e) (c:rows.length<=8/\e.set.length<=3/\e.m<=3/\e.guards.length<=6):N0R rows e d:=by
 obtain ⟨s,rfl,hs⟩:=F
 obtain ⟨j,⟨G,x⟩,k⟩:=z
 exact ⟨⟨fun a h=>(k.1 a h).1,fun a h=>(k.2.1 a h).1,c.2.1,c.2.2.2,c.2.2.1⟩,c.1,fun r q=>⟨Rows.notlong hs j r q,by have:=(j.2 r q).1;omega⟩,Exts.notlong y x,by omega⟩
end
section
open SX
variable {fl:Nat} {H G:a0f} {R:a0D} {v w u z:Value}
def i1y (a:e0K) (x w:List (Bool × List Nat)) (r:Value) (H':a0f):Prop :=
 ∃ p c,r=.tuple #[p,.int .i64 c]/\if a.X.length=x.length/\a.W.length=w.length then c=0/\b0g H' p (a0g (u0n a x w)) else c=1/\b0g H' p iz
def vX (a:e0K) (x:List (Bool × List Nat)) (i:Nat):Int:=a0s (a.X.getD i iz) * a0s (x.getD i iz)
def vW (a:e0K) (w:List (Bool × List Nat)) (i:Nat):Int:=a0s (a.W.getD i iz) * a0s (w.getD i iz)
theorem g0k {l m:List (Bool × List Nat)} (c:r0W l) (j:r0W m) (i:Nat):lz (a0s (l.getD i iz) * a0s (m.getD i iz))<=80:=by
 have one:∀ {l:List (Bool × List Nat)},r0W l->lz (a0s (l.getD i iz))<=40:=fun {l} c=>by
  rw [k1v]
  by_cases hi:i < l.length
  ·rw [k1A hi]
   obtain ⟨h,e⟩:=c _ (k1D hi)
   have:=m0J e
   simp only [l1d];omega
  ·rw [k1G (by omega)];show lz 0<=40;rw [c0v];decide
 have h:=one c;have e:=one j
 have:=c0h (a0s (l.getD i iz)) (a0s (m.getD i iz))
 omega
def N0T (H:a0f) (P k:Nat) (u z sX sW s:Value) (b:Bool) (acc:Nat->Int) (i:Nat) (ρ:Nat->Value) (G:a0f):Prop :=
 ρ 1=u/\ρ 2=z/\ρ 3=.pointer (some ⟨H.size,0,none⟩)/\ρ 6=.pointer (some ⟨H.size + 1,0,none⟩)/\ρ 8=.pointer (some ⟨P,0,none⟩)/\ρ k=.int .i64 (i:Int)/\Ext H G /\
  a0f.bk G H.size=.row false e0C [sX,sW,.bool b,s]/\a0f.bk G (H.size + 1)=.row false a0a [.bool false,.slice none 0 0] /\
  ∃ s',a0f.bk G P=.row false a0a [.bool (a0g (acc i)).1,s']/\Lim G s' (a0g (acc i)).2
theorem i0N {a:e0K} {x F:List (Bool × List Nat)} (h:A0A H v a) (a2:c0A H u x) (a6:c0A H z F) (hf:fl<=H.size) (J:u0g a) (a1:r0W x) (a5:r0W F) (c4:x.length<=10) (c3:F.length<=10) :
  a0O env fl Z0e [v,u,z] H (fun r H'=>i1y a x F r H'/\Ext H H') R:=by
 obtain ⟨sX,sW,s,rfl,kX,kW,kK⟩:=h
 refine a0i j1c hf (h:=?_)
 intro ρ h0
 simp [e1h,Q0z,h0,kX.cells,kW.cells,kK.cells]
 generalize M:(H.push _).push _=G
 obtain ⟨k,b0,q⟩:=push2 M
 clear M
 have hz:=a0k q
 by_cases hX:a.X.length=x.length
 case neg =>
  have a0:¬ (a.X.length:Int)=(x.length:Int):=by omega
  simp [y0w,h0,b0,kX.slen,a2.slen,hX,a0,I0z,q,hz]
  exact fun _=>⟨_,_,rfl,by rw [k1y (fun h=>hX h.1)];exact ⟨rfl,_,rfl,Lim.nil⟩⟩
 have a0:(a.X.length:Int)=(x.length:Int):=by omega
 by_cases hW:a.W.length=F.length
 case neg =>
  have a3:¬ (a.W.length:Int)=(F.length:Int):=by omega
  simp [y0w,h0,b0,kX.slen,a2.slen,hX,a0,kW.slen,a6.slen,hW,a3,I0z,q,hz]
  exact fun _=>⟨_,_,rfl,by rw [k1y (fun h=>hW h.2)];exact ⟨rfl,_,rfl,Lim.nil⟩⟩
 have a3:(a.W.length:Int)=(F.length:Int):=by omega
 simp [y0w,h0,b0,kX.slen,a2.slen,hX,a0,kW.slen,a6.slen,hW,a3]
 have hK:=J.2.2.1
 have c1:=m0J J.2.2.2
 simp [Q0A,b0]
 refine (f0i (i:=a.K) (j:=iz) ⟨_,rfl,kK.mo k⟩ ⟨_,rfl,Lim.nil⟩ k.1 (by omega) (by decide)).mo ?_
 rintro _ G2 ⟨⟨s1,rfl,k1⟩,c⟩
 have b5:a0s iz=0:=by decide
 rw [b5,l1O] at k1 ⊢
 replace b0:=c.bk b0
 replace q:=c.bk q
 replace k:=k.trans c
 clear c
 have hsz:=k.1
 simp [k1.cells,k1.plain,hsz]
 generalize M:Array.setIfInBounds (Array.push _ _) _ _=G3
 obtain ⟨c,b2⟩:=new1 M
 clear M
 obtain ⟨P,hP⟩:∃ P,P=G2.size:=⟨_,rfl⟩
 rw [<- hP] at b2 ⊢
 have c2:H.size + 1 < P:=by have:=a0k q;omega
 replace b0:=c.bk b0
 replace q:=c.bk q
 replace k:=k.trans c
 replace k1:=k1.mo c
 clear c
 have b9:a0g (a0s a.K)=a0g (a0s a.K + sm (vX a x) 0):=by rw [sm,l1O]
 rw [b9] at b2 k1
 simp [Q0B]
 refine d0C (N0T H P 9 u z sX sW s a.K.1 (fun i=>a0s a.K + sm (vX a x) i)) x.length (by decide) ?_ ?_
 ·exact ⟨by simp [h0],by simp [h0],by simp,by simp,by simp,by simp,k,b0,q,s1,b2,k1⟩
 ·clear h0 ρ k b0 q b2 k1
  rintro n ρ G hn ⟨g1,g2,g3,g6,U,gk,k,b0,q,s2,b2,L⟩
  have ki:=a2.mo b0s k
  have kf:=kX.mo b0s k
  simp [Q0C,g1,gk,ki.slen]
  refine e0T.mk (by simp) (fun I=>?_) (fun a4=>?_)
  ·have e:n < a.X.length:=by omega
   have b4:=(a1 _ (k1D I)).1
   have a9:=(J.1 _ (k1D e)).1
   have a8:lz ((fun i=>a0s a.K + sm (vX a x) i) n)<=160:=by
    have h1:=u0N (f:=vX a x) (K:=80) (n:=n) (fun i _=>g0k J.1 a1 i);have h2:=h0s (a0s a.K) (sm (vX a x) n);show lz (a0s a.K + sm (vX a x) n)<=160;omega
   obtain ⟨y1,e1,q1⟩:=c0A.load kf e
   obtain ⟨y2,e2,q2⟩:=c0A.load ki I
   refine a0C ?_
   simp [Q0D,g3,U,g1,gk,b0,b2,kf.ia e,e1,ki.ia I,e2]
   refine (c0J (i:=a.X[n]) (j:=x[n]) ⟨_,rfl,q1⟩ ⟨_,rfl,q2⟩ (by have:=k.1;omega) (by omega) (by omega)).mo ?_
   rintro _ G4 ⟨⟨s3,rfl,k3⟩,c⟩
   replace b0:=c.bk b0
   replace q:=c.bk q
   replace b2:=c.bk b2
   replace L:=L.mo c
   replace k:=k.trans c
   clear c
   have N:=g0k J.1 a1 n
   rw [b0o e,b0o I] at N
   simp
   refine (f0i (i:=a0g ((fun i=>a0s a.K + sm (vX a x) i) n)) (j:=a0g (a0s a.X[n] * a0s x[n])) ⟨s2,rfl,L⟩ ⟨s3,rfl,k3⟩ (by have:=k.1;omega) (by show lz ((fun i=>a0s a.K + sm (vX a x) i) n) < 268435456;omega) (by show lz (a0s a.X[n] * a0s x[n]) < 268435456;omega)).mo ?_
   rintro _ G5 ⟨⟨s4,rfl,O⟩,c⟩
   replace b0:=c.bk b0
   replace q:=c.bk q
   replace b2:=c.bk b2
   replace k:=k.trans c
   clear c
   have a7:a0s (a0g ((fun i=>a0s a.K + sm (vX a x) i) n)) + a0s (a0g (a0s a.X[n] * a0s x[n]))=(fun i=>a0s a.K + sm (vX a x) i) (n + 1):=by
    rw [a0h,a0h]
    show _=_ + sm _ (n + 1)
    rw [sm,<- Int.add_assoc]
    show _=_ + vX a x n
    unfold vX
    rw [b0o e,b0o I]
   rw [a7] at O ⊢
   have b8:=a0k b2
   obtain ⟨Z,hZ⟩:∃ Z,Z=a0g ((fun i=>a0s a.K + sm (vX a x) i) (n + 1)):=⟨_,rfl⟩
   rw [<- hZ] at O ⊢
   simp [U,b2,O.cells,O.plain,show H.size<=P by omega]
   generalize y:Array.setIfInBounds G5 P _=G6
   unfold f0N
   simp [Q0E,gk,b0z (show n < 4611686018427387904 by omega)]
   refine c0s.mk ⟨by simp [g1],by simp [g2],by simp [g3],by simp [g6],by simp [U],by simp,a0I y k (by omega),a0o y b0 (by omega),a0o y q (by omega),s4,?_,?_⟩
   ·rw [<- hZ];exact a0r y b2
   ·rw [<- hZ];exact O.setS y b2 (by decide)
  ·subst a4
   have c0:a0g (a0s a.K + sm (vX a x) x.length)=a0g (a0s a.K + sm (vX a x) x.length + sm (vW a F) 0):=by rw [sm,l1O]
   simp only [c0] at b2 L
   simp [Q0F]
   refine d0C (N0T H P 10 u z sX sW s a.K.1 (fun i=>a0s a.K + sm (vX a x) x.length + sm (vW a F) i)) F.length (by decide) ?_ ?_
   ·exact ⟨by simp [g1],by simp [g2],by simp [g3],by simp [g6],by simp [U],by simp,k,b0,q,s2,b2,L⟩
   ·clear g1 g2 g3 g6 U gk ρ k b0 q b2 L ki kf hn G
    rintro n ρ G hn ⟨g1,g2,g3,g6,U,gk,k,b0,q,s2,b2,L⟩
    have ki:=a6.mo b0s k
    have kf:=kW.mo b0s k
    simp [Q0G,g2,gk,ki.slen]
    refine e0T.mk (by simp) (fun I=>?_) (fun a4=>?_)
    ·have e:n < a.W.length:=by omega
     have b4:=(a5 _ (k1D I)).1
     have a9:=(J.2.1 _ (k1D e)).1
     have a8:lz ((fun i=>a0s a.K + sm (vX a x) x.length + sm (vW a F) i) n)<=160:=by
      have h1:=u0N (f:=vX a x) (K:=80) (n:=x.length) (fun i _=>g0k J.1 a1 i);have h2:=h0s (a0s a.K) (sm (vX a x) x.length);have h3:=u0N (f:=vW a F) (K:=80) (n:=n) (fun i _=>g0k J.2.1 a5 i);have h4:=h0s (a0s a.K + sm (vX a x) x.length) (sm (vW a F) n);show lz (a0s a.K + sm (vX a x) x.length + sm (vW a F) n)<=160;omega
     obtain ⟨y1,e1,q1⟩:=c0A.load kf e
     obtain ⟨y2,e2,q2⟩:=c0A.load ki I
     refine a0C ?_
     simp [I0w,g3,U,g2,gk,b0,b2,kf.ia e,e1,ki.ia I,e2]
     refine (c0J (i:=a.W[n]) (j:=F[n]) ⟨_,rfl,q1⟩ ⟨_,rfl,q2⟩ (by have:=k.1;omega) (by omega) (by omega)).mo ?_
     rintro _ G4 ⟨⟨s3,rfl,k3⟩,c⟩
     replace b0:=c.bk b0
     replace q:=c.bk q
     replace b2:=c.bk b2
     replace L:=L.mo c
     replace k:=k.trans c
     clear c
     have N:=g0k J.2.1 a5 n
     rw [b0o e,b0o I] at N
     simp
     refine (f0i (i:=a0g ((fun i=>a0s a.K + sm (vX a x) x.length + sm (vW a F) i) n)) (j:=a0g (a0s a.W[n] * a0s F[n])) ⟨s2,rfl,L⟩ ⟨s3,rfl,k3⟩ (by have:=k.1;omega) (by show lz ((fun i=>a0s a.K + sm (vX a x) x.length + sm (vW a F) i) n) < 268435456;omega) (by show lz (a0s a.W[n] * a0s F[n]) < 268435456;omega)).mo ?_
     rintro _ G5 ⟨⟨s4,rfl,O⟩,c⟩
     replace b0:=c.bk b0
     replace q:=c.bk q
     replace b2:=c.bk b2
     replace k:=k.trans c
     clear c
     have a7:a0s (a0g ((fun i=>a0s a.K + sm (vX a x) x.length + sm (vW a F) i) n)) + a0s (a0g (a0s a.W[n] * a0s F[n]))=(fun i=>a0s a.K + sm (vX a x) x.length + sm (vW a F) i) (n + 1):=by
      rw [a0h,a0h]
      show _=_ + sm _ (n + 1)
      rw [sm,<- Int.add_assoc]
      show _=_ + vW a F n
      unfold vW
      rw [b0o e,b0o I]
     rw [a7] at O ⊢
     have b8:=a0k b2
     obtain ⟨Z,hZ⟩:∃ Z,Z=a0g ((fun i=>a0s a.K + sm (vX a x) x.length + sm (vW a F) i) (n + 1)):=⟨_,rfl⟩
     rw [<- hZ] at O ⊢
     simp [U,b2,O.cells,O.plain,show H.size<=P by omega]
     generalize y:Array.setIfInBounds G5 P _=G6
     unfold f0N
     simp [I0x,gk,b0z (show n < 4611686018427387904 by omega)]
     refine c0s.mk ⟨by simp [g1],by simp [g2],by simp [g3],by simp [g6],by simp [U],by simp,a0I y k (by omega),a0o y b0 (by omega),a0o y q (by omega),s4,?_,?_⟩
     ·rw [<- hZ];exact a0r y b2
     ·rw [<- hZ];exact O.setS y b2 (by decide)
    ·subst a4
     have hz:=a0k q
     simp [I0y,g6,U,b2,q,L.cells,L.plain,hz]
     generalize y:Array.setIfInBounds G _ _=G6
     exact fun _=>⟨_,_,rfl,by rw [k1B ⟨hX,hW⟩];exact ⟨rfl,s2,rfl,L.setS y q (by decide)⟩⟩
def GoQ (e:c0b) (x w:List (Bool × List Nat)) (r:Value) (H':a0f):Prop :=
 ∃ l b,r=.tuple #[l,.bool b]/\b=goB e x w/\(goB e x w=true->c0A H' l (goL e x w))
theorem X0o {y:Int}:(0 < (a0g y).2.length/\(a0g y).1=false) <-> 0 < y:=by
 have c:(a0g y).1=decide (y < 0):=rfl
 have e:(a0g y).2.length=lz y:=rfl
 rw [c,e,decide_eq_false_iff_not]
 constructor
 ·rintro ⟨j,k⟩
  have:y ≠ 0:=by rintro rfl;rw [c0v] at j;omega
  omega
 ·intro h
  exact ⟨b0Y (by omega),by omega⟩
def W0g (H:a0f) (k:Nat) (u z:Value) (ec:List Value) (i:Nat) (ρ:Nat->Value) (G:a0f):Prop :=
 ρ 1=u/\ρ 2=z/\ρ 3=.pointer (some ⟨H.size,0,none⟩)/\ρ k=.int .i64 (i:Int)/\Ext H G/\a0f.bk G H.size=.row false b0F ec
def gOk (x wl:List (Bool × List Nat)) (g:e0K):Bool:=decide (g.X.length=x.length) && decide (g.W.length=wl.length) && decide (u0n g x wl<=0)
def sOk (x wl:List (Bool × List Nat)) (g:e0K):Bool:=decide (g.X.length=x.length) && decide (g.W.length=wl.length)
theorem s0M {e:c0b} {x c:List (Bool × List Nat)}:goB e x c=(decide ((c.length:Int)=e.m) && decide (x.length=e.set.length) && k0o (gOk x c) e.guards && k0o (sOk x c) e.set):=rfl
theorem s0k {α:Type} {p:α->Bool} {l:List α} {i:Nat} (hi:i < l.length) (h:k0o p (l.take i)=true) (e:p l[i]=true):k0o p (l.take (i + 1))=true:=by
 refine l1a.2 fun y c=>?_
 rw [k1N hi] at c
 rcases k1T.1 c with c | c
 ·exact l1a.1 h y c
 ·rw [m1j.1 c];exact e
theorem h0V {α:Type} {p:α->Bool} {l:List α} {i:Nat} (hi:i < l.length) (h:p l[i]=false):k0o p l=false:=by
 cases ha:k0o p l with
 | false=>rfl
 | true=>have:=l1a.1 ha _ (k1D hi);rw [h] at this;exact k1Q this (by decide)
theorem v0c {e:c0b} {x F:List (Bool × List Nat)} (h:i0T H v e) (a4:c0A H u x) (a2:c0A H z F) (hf:fl<=H.size) (a3:k0p e) (c0:r0W x) (b9:r0W F) (c6:x.length<=10) (c5:F.length<=10) :
  a0O env fl a1J [v,u,z] H (fun r H'=>GoQ e x F r H'/\Ext H H') R:=by
 obtain ⟨f,t,sG,sS,sP,rfl,hG,hS,c8,d1⟩:=h
 have d2:=a3.ng
 have d3:=a3.ns
 refine a0i i1L hf (h:=?_)
 intro ρ h0
 simp [d1Q,O0X,h0,hG.cells,hS.cells,c8]
 generalize M:H.push _=G
 obtain ⟨J,b0⟩:=g0e M
 clear M
 by_cases h1:(F.length:Int)=e.m
 case neg =>
  simp [y0p,h0,b0,a2.slen,h1,H0J]
  exact fun _=>⟨_,_,rfl,by rw [s0M,decide_eq_false h1];rfl,fun h=>by rw [s0M,decide_eq_false h1] at h;simp at h⟩
 by_cases h2:x.length=e.set.length
 case neg =>
  have a6:¬ (x.length:Int)=(e.set.length:Int):=by omega
  simp [y0p,h0,b0,a2.slen,h1,a4.slen,hS.slen,h2,a6,H0J]
  exact fun _=>⟨_,_,rfl,by rw [s0M,decide_eq_false h2,Bool.and_false];rfl,fun h=>by rw [s0M,decide_eq_false h2,Bool.and_false] at h;simp at h⟩
 have a6:(x.length:Int)=(e.set.length:Int):=by omega
 simp [y0p,h0,b0,a2.slen,h1,a4.slen,hS.slen,h2,a6]
 have U:goB e x F=(k0o (gOk x F) e.guards && k0o (sOk x F) e.set):=by rw [s0M,decide_eq_true h1,decide_eq_true h2];rfl
 simp [O0Y]
 refine d0C (fun i ρ G=>W0g H 8 u z [.int .i64 f,.int .i64 t,.int .i64 e.m,sG,sS,sP] i ρ G/\k0o (gOk x F) (e.guards.take i)=true) e.guards.length (by decide) ?_ ?_
 ·exact ⟨⟨by simp [h0],by simp [h0],by simp,by simp,J,b0⟩,rfl⟩
 clear h0 ρ J b0 G
 rintro n ρ G hn ⟨⟨g1,g2,g3,g8,J,b0⟩,a0⟩
 have kG:=hG.mo c0d J
 simp [O0Z,g3,g8,b0,kG.slen]
 refine e0T.mk (by simp) (fun q=>?_) (fun a7=>?_)
 ·obtain ⟨wa,a9,k0⟩:=g0g.load kG q
  simp [P0a,g1,g2,g3,g8,b0,kG.ia q,a9]
  refine (i0N k0 (a4.mo b0s J) (a2.mo b0s J) J.1 (a3.guards _ (k1D q)) c0 b9 c6 c5).mo ?_
  rintro _ G2 ⟨⟨p,c,rfl,hc⟩,k⟩
  replace b0:=k.bk b0
  replace J:=J.trans k
  clear k
  have hsz:=J.1
  by_cases j:e.guards[n].X.length=x.length/\e.guards[n].W.length=F.length
  case neg =>
   rw [k1y j] at hc
   obtain ⟨rfl,s1,rfl,L⟩:=hc
   have O:gOk x F e.guards[n]=false:=by
    unfold gOk
    by_cases hX:e.guards[n].X.length=x.length
    ·have hW:¬ e.guards[n].W.length=F.length:=fun h=>j ⟨hX,h⟩
     rw [decide_eq_false hW,Bool.and_false];rfl
    ·rw [decide_eq_false hX];rfl
   simp [L.cells,L.plain,hsz]
   generalize M:Array.setIfInBounds (Array.push _ _) _ _=G3
   simp [t0B,H0K]
   exact fun _=>⟨_,_,rfl,by rw [U,h0V q O];rfl,fun h=>by rw [U,h0V q O] at h;simp at h⟩
  rw [k1B j] at hc
  obtain ⟨rfl,s1,rfl,L⟩:=hc
  simp [L.cells,L.plain,hsz]
  generalize M:Array.setIfInBounds (Array.push _ _) _ _=G3
  obtain ⟨k,b1⟩:=new1 M
  clear M
  replace b0:=k.bk b0
  replace J:=J.trans k
  replace L:=L.mo k
  have c4:=X0o (y:=u0n e.guards[n] x F)
  by_cases c2:u0n e.guards[n] x F<=0
  ·have c3:¬ (0 < (a0g (u0n e.guards[n] x F)).2.length/\(a0g (u0n e.guards[n] x F)).1=false):=fun h=>by have:=c4.1 h;omega
   have b4:gOk x F e.guards[n]=true:=by unfold gOk;rw [decide_eq_true j.1,decide_eq_true j.2,decide_eq_true c2];rfl
   obtain ⟨I,hI⟩:∃ I,I=a0g (u0n e.guards[n] x F):=⟨_,rfl⟩
   rw [<- hI] at c3 b1 L
   have b5:∀ Z:Nat->Value,Z 1=u->Z 2=z->Z 3=.pointer (some ⟨H.size,0,none⟩)->Z 8=.int .i64 (n:Int)->f0N env H.size 84 H0L R n (fun i ρ G=>W0g H 8 u z [.int .i64 f,.int .i64 t,.int .i64 e.m,sG,sS,sP] i ρ G/\k0o (gOk x F) (e.guards.take i)=true) (T 84 Z) G3:=by
    intro Z q1 q2 q3 q8
    unfold f0N
    simp [H0L,q8,b0z (show n < 4611686018427387904 by omega)]
    exact c0s.mk ⟨⟨by simp [q1],by simp [q2],by simp [q3],by simp,J,b0⟩,s0k q a0 b4⟩
   by_cases a8:0 < I.2.length
   ·have hs:I.1=true:=by
     cases hI1:I.1 with
     | true=>rfl
     | false=>exact k1Q ⟨a8,hI1⟩ c3
    have N:(0:Int) < (I.2.length:Int):=by omega
    simp [t0B,b1,L.slen,a8,N,hs]
    exact b5 _ (by simp [g1]) (by simp [g2]) (by simp [g3]) (by simp [g8])
   ·have N:¬ (0:Int) < (I.2.length:Int):=by omega
    simp [t0B,b1,L.slen,a8,N]
    exact b5 _ (by simp [g1]) (by simp [g2]) (by simp [g3]) (by simp [g8])
  ·have hp:=c4.2 (by omega)
   have O:gOk x F e.guards[n]=false:=by unfold gOk;rw [decide_eq_false c2,Bool.and_false]
   obtain ⟨I,hI⟩:∃ I,I=a0g (u0n e.guards[n] x F):=⟨_,rfl⟩
   rw [<- hI] at hp b1 L
   have N:(0:Int) < (I.2.length:Int):=by omega
   simp [t0B,b1,L.slen,hp.1,N,hp.2,H0K]
   exact fun _=>⟨_,_,rfl,by rw [U,h0V q O];rfl,fun h=>by rw [U,h0V q O] at h;simp at h⟩
 ·subst a7
  rw [k1M] at a0
  simp [P0b,H0C]
  refine d0C (fun i ρ G=>W0g H 12 u z [.int .i64 f,.int .i64 t,.int .i64 e.m,sG,sS,sP] i ρ G/\k0o (sOk x F) (e.set.take i)=true/\b0d PIr H.size G a0a 2 (ρ 11) ((goL e x F).take i)) e.set.length (by decide) ?_ ?_
  ·exact ⟨⟨by simp [g1],by simp [g2],by simp [g3],by simp,J,b0⟩,rfl,by simpa using b0d.nil⟩
  clear g1 g2 g3 g8 J b0 hn kG ρ G
  rintro n ρ G hn ⟨⟨g1,g2,g3,g8,J,b0⟩,a1,ho⟩
  obtain ⟨sl,a5⟩:∃ s,ρ 11=s:=⟨_,rfl⟩
  rw [a5] at ho
  have kG:=hS.mo c0d J
  simp [H0D,g3,g8,b0,kG.slen]
  refine e0T.mk (by simp) (fun q=>?_) (fun a7=>?_)
  ·obtain ⟨wa,a9,k0⟩:=g0g.load kG q
   simp [H0E,g1,g2,g3,g8,b0,kG.ia q,a9]
   refine (i0N k0 (a4.mo b0s J) (a2.mo b0s J) J.1 (a3.set _ (k1D q)) c0 b9 c6 c5).mo ?_
   rintro _ G2 ⟨⟨p,c,rfl,hc⟩,k⟩
   replace ho:=ho.mo b0s k
   replace b0:=k.bk b0
   replace J:=J.trans k
   clear k
   have hsz:=J.1
   by_cases j:e.set[n].X.length=x.length/\e.set[n].W.length=F.length
   case neg =>
    rw [k1y j] at hc
    obtain ⟨rfl,s1,rfl,L⟩:=hc
    have O:sOk x F e.set[n]=false:=by
     unfold sOk
     by_cases hX:e.set[n].X.length=x.length
     ·have hW:¬ e.set[n].W.length=F.length:=fun h=>j ⟨hX,h⟩
      rw [decide_eq_false hW,Bool.and_false]
     ·rw [decide_eq_false hX];rfl
    simp [L.cells,L.plain,hsz]
    simp [w0i,H0F]
    exact fun _=>⟨_,_,rfl,by rw [U,h0V q O,Bool.and_false],fun h=>by rw [U,h0V q O,Bool.and_false] at h;simp at h⟩
   rw [k1B j] at hc
   obtain ⟨rfl,s1,rfl,L⟩:=hc
   simp [L.cells,L.plain,hsz]
   generalize M:Array.setIfInBounds (Array.push _ _) _ _=G3
   obtain ⟨k,b1⟩:=new1 M
   clear M
   replace b0:=k.bk b0
   replace J:=J.trans k
   replace L:=L.mo k
   replace ho:=ho.mo b0s k
   have b4:sOk x F e.set[n]=true:=by unfold sOk;rw [decide_eq_true j.1,decide_eq_true j.2];rfl
   have d0:n < (goL e x F).length:=by unfold goL;simpa using q
   have c1:(goL e x F)[n]=a0g (u0n e.set[n] x F):=l1m _
   obtain ⟨I,hI⟩:∃ I,I=a0g (u0n e.set[n] x F):=⟨_,rfl⟩
   rw [<- hI] at b1 L c1
   simp [w0i]
   have c9:=L.cells
   obtain ⟨v',G5,c7,b8,h3,h4⟩:=b0d.app (P:=PIr) (sz:=2) (e:=a0a) (by decide) (fun G' cs x _ hl h=>PIr.lx h hl) ho (e2:=a0a) (c:=1) (bytes:=32) (new:=[.bool I.1,s1]) (x:=I) ⟨s1,rfl,L⟩ rfl (by simp [L.plain]) (by rw [l1v];omega) (by omega) (by omega) J.1
   have nb:=ho.ne b0 (by decide)
   simp [H0G,a5,b1,c9,c7]
   unfold f0N
   simp [H0H,g8,b0z (show n < 4611686018427387904 by omega)]
   refine c0s.mk ⟨⟨by simp [g1],by simp [g2],by simp [g3],by simp,h4 _ (k1x _) J,(h3.2 _ (a0k b0) nb).trans b0⟩,s0k q a1 b4,b0d.cast (v':=v') (by simp) ?_⟩
   rw [k1N d0,c1];exact b8
  ·subst a7
   rw [k1M] at a1
   rw [k1J (by unfold goL;simp)] at ho
   simp [H0I,a5]
   exact fun _=>⟨_,_,rfl,by rw [U,a0,a1];rfl,fun _=>ho.sls⟩
theorem t0N {l:List (Bool × List Nat)} (h:c0A H v l) (hf:fl<=H.size) (hl:l.length < 1073741824) (hn:∀ x ∈ l,x.2.length < 268435456) :
  a0O env fl Y0Z [v] H (fun r H'=>b0r H' r (l.map b0y)/\Ext H H') R:=by
 refine a0i i1N hf (h:=?_)
 intro ρ Z
 simp [d1S,P0i,P0j,P0k,Z]
 refine d0C (fun n ρ G=>ρ 0=v/\ρ 4=.int .i64 (n:Int)/\Ext H G/\b0d PR H.size G a0b 4 (ρ 3) ((l.map b0y).take n)) l.length (by decide) ⟨by simp [Z],by simp,Ext.refl H,by simpa using b0d.nil⟩ ?_
 clear Z ρ
 rintro n ρ G a7 ⟨N,U,u,ho⟩
 obtain ⟨sl,O⟩:∃ s,ρ 3=s:=⟨_,rfl⟩
 rw [O] at ho
 have kl:=h.mo b0s u
 simp [P0l,N,U,kl.slen]
 refine e0T.mk (by simp) (fun y=>?_) (fun a0=>?_)
 ·obtain ⟨s,a5,k0⟩:=c0A.load kl y
  simp
  refine a0C ?_
  simp [P0m,N,U,kl.ia y,a5]
  refine (f0e (n:=1) (by have:=u.1;omega) (by decide) (by decide)).mo ?_
  rintro vo G2 ⟨ko,I⟩
  replace ho:=ho.mo a0K I
  replace k0:=k0.mo I
  replace u:=u.trans I
  simp
  have a6:(a0g 1).2.length<=1:=q0G (z:=1) (k:=1) (by omega)
  refine (j0j (i:=l[n]) (j:=a0g 1) ⟨s,rfl,k0⟩ ko (by have:=u.1;omega) (hn _ (k1D y)) (by omega) (by rw [a0h];decide)).mo ?_
  rintro _ G3 ⟨⟨q,rfl,kq⟩,M⟩
  have hq:a0e (Rat.divInt (a0s l[n]) (a0s (a0g 1)))=b0y l[n]:=by
   have h1:Rat.divInt (a0s l[n]) 1=((a0s l[n]:Int):Rat):=by
    show Rat.divInt (a0s l[n]) ((1:Nat):Int)=_
    rw [Rat.divInt_ofNat,Rat.mkRat_one]
   rw [a0h,h1];rfl
  rw [hq] at kq
  obtain ⟨s1,s2,rfl,q1,J⟩:=kq
  replace ho:=ho.mo a0K M
  replace u:=u.trans M
  have hsz:=u.1
  simp [q1.cells,J.cells,q1.plain,J.plain,hsz]
  generalize L:Array.setIfInBounds (Array.push _ _) _ _=G4
  obtain ⟨F,b1⟩:=new1 L
  clear L
  replace ho:=ho.mo a0K F
  replace u:=u.trans F
  replace q1:=q1.mo F
  replace J:=J.mo F
  obtain ⟨v',G5,a1,a2,a3,a4⟩:=b0d.app (P:=PR) (sz:=4) (e:=a0b) (by decide) (fun G' cs x _ hl h=>b0L.lx h hl) ho (e2:=a0b) (c:=1) (bytes:=64) (new:=[.bool (b0y l[n]).1.1,s1,.bool (b0y l[n]).2.1,s2]) (x:=b0y l[n]) ⟨s1,s2,rfl,q1,J⟩ rfl (by simp [q1.plain,J.plain]) (by simp;omega) (by omega) (by omega) u.1
  simp [P0n,O,b1,q1.cells,J.cells,a1]
  unfold f0N
  simp [P0o,U,b0z (show n < 4611686018427387904 by omega)]
  exact c0s.mk ⟨by simp [N],by simp,a4 _ (k1x _) u,b0d.cast (v':=v') (by simp) (by rw [l0X y];exact a2)⟩
 ·subst a0
  rw [k1J (by simp)] at ho
  simp [P0p,O]
  exact fun _=>ho.sls
end
section
variable {fl:Nat} {H G:a0f} {R:a0D} {v w:Value} {a b:b0b}
theorem o0F (h:b0L H v a) (k:b0L H w b) (hf:fl<=H.size) (hn:d0J a < 67108864) (hm:d0J b < 67108864):a0O env fl b1e [v,w] H (fun r H'=>b0L H' r (a0e (b0t a * b0t b))/\Ext H H') R:=by
 have F:=h
 have I:=k
 obtain ⟨s,u,rfl,hs,hu⟩:=h
 obtain ⟨s',u',rfl,M,N⟩:=k
 have z1:=b0W hs.ok hu.ok
 have z2:=b0W M.ok N.ok
 refine a0i j1D hf (h:=?_)
 intro ρ h0
 simp [e1I,T0d,h0,hs.cells,hu.cells,M.cells,N.cells]
 generalize hG:((H.push _).push _).push _=G
 have c:Ext H G:=by rw [<- hG];exact (Ext.refl H).push.push.push
 have b0:a0f.bk G H.size=.row false a0b [.bool a.1.1,s,.bool a.2.1,u]:=by rw [<- hG];simp
 have z:a0f.bk G (H.size + 1)=.row false a0b [.bool b.1.1,s',.bool b.2.1,u']:=by rw [<- hG];simp
 have b2:a0f.bk G (H.size + 2)=.row false a0b [.bool false,.slice none 0 0,.bool false,.slice none 0 0]:=by rw [<- hG];simp
 have e:=Ext.refl H
 clear hG
 replace e:=e.trans c;replace F:=F.mo c;replace I:=I.mo c
 simp [T0e,b0]
 refine (b0I F e.1 (by omega)).mo ?_
 rintro _ G2 ⟨⟨s1,u1,rfl,J,L⟩,c⟩
 replace b0:=c.bk b0;replace z:=c.bk z;replace b2:=c.bk b2;replace e:=e.trans c;replace F:=F.mo c;replace I:=I.mo c
 have hsz:=e.1
 simp [b0,J.cells,J.plain,L.cells,L.plain,hsz]
 generalize j:Array.setIfInBounds G2 _ _=G3
 have hsz:=e.1;replace F:=F.setS j b0 (by decide);replace I:=I.setS j b0 (by decide);replace J:=J.setS j b0 (by decide);replace L:=L.setS j b0 (by decide);replace z:=a0o j z (by omega);replace b2:=a0o j b2 (by omega);replace e:=a0I j e (by omega);replace b0:=a0r j b0;clear j hsz
 simp [T0f,z]
 refine (b0I I e.1 (by omega)).mo ?_
 rintro _ G2 ⟨⟨s2,u2,rfl,Z,k5⟩,c⟩
 replace b0:=c.bk b0;replace z:=c.bk z;replace b2:=c.bk b2;replace e:=e.trans c;replace F:=F.mo c;replace I:=I.mo c;replace J:=J.mo c;replace L:=L.mo c
 have hsz:=e.1
 simp [z,Z.cells,Z.plain,k5.cells,k5.plain,hsz]
 generalize j:Array.setIfInBounds G2 _ _=G4
 have hsz:=e.1;replace F:=F.setS j z (by decide);replace I:=I.setS j z (by decide);replace J:=J.setS j z (by decide);replace L:=L.setS j z (by decide);replace Z:=Z.setS j z (by decide);replace k5:=k5.setS j z (by decide);replace b0:=a0o j b0 (by omega);replace b2:=a0o j b2 (by omega);replace e:=a0I j e (by omega);replace z:=a0r j z;clear j hsz
 clear F I hs hu M N
 generalize b0t a=x at *
 generalize b0t b=y at *
 have x1:=d0B x
 have x2:=e0h x
 have y1:=d0B y
 have y2:=e0h y
 have c1:(a0e x).1.2.length=lz x.num:=a0j _
 have c2:(a0e x).2.2.length=lz x.den:=a0j _
 have c3:(a0e y).1.2.length=lz y.num:=a0j _
 have c4:(a0e y).2.2.length=lz y.den:=a0j _
 have i1:b0g G4 (.agg #[.bool (a0e x).1.1,s1]) (a0g x.num):=⟨s1,rfl,J⟩
 have i2:b0g G4 (.agg #[.bool (a0e x).2.1,u1]) (a0g x.den):=⟨u1,rfl,L⟩
 have i3:b0g G4 (.agg #[.bool (a0e y).1.1,s2]) (a0g y.num):=⟨s2,rfl,Z⟩
 have i4:b0g G4 (.agg #[.bool (a0e y).2.1,u2]) (a0g y.den):=⟨u2,rfl,k5⟩
 clear J L Z k5
 refine a0C ?_
 simp [T0g,b0,z]
 refine (c0J i1 i3 (by have:=e.1;omega) (by rw [a0j];omega) (by rw [a0j];omega)).mo ?_
 rintro m1 G5 ⟨j1,c⟩
 replace b0:=c.bk b0;replace z:=c.bk z;replace b2:=c.bk b2;replace e:=e.trans c
 replace i1:=i1.mo c
 replace i2:=i2.mo c
 replace i3:=i3.mo c
 replace i4:=i4.mo c
 simp [b0,z]
 refine (c0J i2 i4 (by have:=e.1;omega) (by rw [a0j];omega) (by rw [a0j];omega)).mo ?_
 rintro m2 G6 ⟨j2,c⟩
 replace b2:=c.bk b2;replace e:=e.trans c
 replace j1:=j1.mo c
 rw [a0h,a0h] at j1 j2
 simp
 have q1:=c0h x.num y.num
 have q2:=c0h x.den y.den
 have a1:(x.den:Int) * y.den ≠ 0:=m1Y (by have:=x.den_nz;omega) (by have:=y.den_nz;omega)
 rw [k0C]
 generalize x.num * y.num=p at *
 generalize (x.den:Int) * y.den=q at *
 have hq:=fun R'=>j0j (fl:=max H.size G6.size) (R:=R') j1 j2 (by have:=e.1;omega) (by rw [a0j];omega) (by rw [a0j];omega) (by rw [a0h];exact a1)
 simp only [a0h] at hq
 refine (hq _).mo ?_
 rintro _ G6 ⟨⟨_,rfl,s8,s9,rfl,O,U⟩,c⟩
 replace b2:=c.bk b2;replace e:=e.trans c
 have hsz:=e.1
 have a0:=a0k b2
 simp [O.cells,O.plain,U.cells,U.plain,hsz]
 generalize hN:Array.setIfInBounds (Array.push _ _) _ _=G7
 obtain ⟨c,b3⟩:=new1 hN
 clear hN
 replace b2:=c.bk b2;replace e:=e.trans c;replace O:=O.mo c;replace U:=U.mo c
 obtain ⟨P,hP⟩:∃ P,P=G6.size:=⟨_,rfl⟩
 rw [<- hP] at b3 hsz a0 ⊢
 have hz:=a0k b2
 simp [T0h,b2,b3,O.cells,O.plain,U.cells,U.plain,hz]
 exact fun _=>⟨s8,s9,rfl,O.setT b2 (by decide),U.setT b2 (by decide)⟩
theorem o0B (h:b0L H v a) (k:b0L H w b) (hf:fl<=H.size) (hn:d0J a < 67108864) (hm:d0J b < 67108864):a0O env fl b1d [v,w] H (fun r H'=>b0L H' r (a0e (b0t a + b0t b))/\Ext H H') R:=by
 have F:=h
 have I:=k
 obtain ⟨s,u,rfl,hs,hu⟩:=h
 obtain ⟨s',u',rfl,O,U⟩:=k
 have z1:=b0W hs.ok hu.ok
 have z2:=b0W O.ok U.ok
 refine a0i j1C hf (h:=?_)
 intro ρ h0
 simp [e1H,S0Y,h0,hs.cells,hu.cells,O.cells,U.cells]
 generalize hG:((H.push _).push _).push _=G
 have c:Ext H G:=by rw [<- hG];exact (Ext.refl H).push.push.push
 have b0:a0f.bk G H.size=.row false a0b [.bool a.1.1,s,.bool a.2.1,u]:=by rw [<- hG];simp
 have j:a0f.bk G (H.size + 1)=.row false a0b [.bool b.1.1,s',.bool b.2.1,u']:=by rw [<- hG];simp
 have b2:a0f.bk G (H.size + 2)=.row false a0b [.bool false,.slice none 0 0,.bool false,.slice none 0 0]:=by rw [<- hG];simp
 have e:=Ext.refl H
 clear hG
 replace e:=e.trans c;replace F:=F.mo c;replace I:=I.mo c
 simp [S0Z,b0]
 refine (b0I F e.1 (by omega)).mo ?_
 rintro _ G2 ⟨⟨s1,u1,rfl,J,L⟩,c⟩
 replace b0:=c.bk b0;replace j:=c.bk j;replace b2:=c.bk b2;replace e:=e.trans c;replace F:=F.mo c;replace I:=I.mo c
 have hsz:=e.1
 simp [b0,J.cells,J.plain,L.cells,L.plain,hsz]
 generalize z:Array.setIfInBounds G2 _ _=G3
 have hsz:=e.1;replace F:=F.setS z b0 (by decide);replace I:=I.setS z b0 (by decide);replace J:=J.setS z b0 (by decide);replace L:=L.setS z b0 (by decide);replace j:=a0o z j (by omega);replace b2:=a0o z b2 (by omega);replace e:=a0I z e (by omega);replace b0:=a0r z b0;clear z hsz
 simp [T0a,j]
 refine (b0I I e.1 (by omega)).mo ?_
 rintro _ G2 ⟨⟨s2,u2,rfl,k4,k5⟩,c⟩
 replace b0:=c.bk b0;replace j:=c.bk j;replace b2:=c.bk b2;replace e:=e.trans c;replace F:=F.mo c;replace I:=I.mo c;replace J:=J.mo c;replace L:=L.mo c
 have hsz:=e.1
 simp [j,k4.cells,k4.plain,k5.cells,k5.plain,hsz]
 generalize z:Array.setIfInBounds G2 _ _=G4
 have hsz:=e.1;replace F:=F.setS z j (by decide);replace I:=I.setS z j (by decide);replace J:=J.setS z j (by decide);replace L:=L.setS z j (by decide);replace k4:=k4.setS z j (by decide);replace k5:=k5.setS z j (by decide);replace b0:=a0o z b0 (by omega);replace b2:=a0o z b2 (by omega);replace e:=a0I z e (by omega);replace j:=a0r z j;clear z hsz
 clear F I hs hu O U
 generalize b0t a=x at *
 generalize b0t b=y at *
 have x1:=d0B x
 have x2:=e0h x
 have y1:=d0B y
 have y2:=e0h y
 have c1:(a0e x).1.2.length=lz x.num:=a0j _
 have c2:(a0e x).2.2.length=lz x.den:=a0j _
 have c3:(a0e y).1.2.length=lz y.num:=a0j _
 have c4:(a0e y).2.2.length=lz y.den:=a0j _
 have Z:b0g G4 (.agg #[.bool (a0e x).1.1,s1]) (a0g x.num):=⟨s1,rfl,J⟩
 have M:b0g G4 (.agg #[.bool (a0e x).2.1,u1]) (a0g x.den):=⟨u1,rfl,L⟩
 have i3:b0g G4 (.agg #[.bool (a0e y).1.1,s2]) (a0g y.num):=⟨s2,rfl,k4⟩
 have N:b0g G4 (.agg #[.bool (a0e y).2.1,u2]) (a0g y.den):=⟨u2,rfl,k5⟩
 clear J L k4 k5
 refine a0C ?_
 simp [T0b,b0,j]
 refine (c0J Z N (by have:=e.1;omega) (by rw [a0j];omega) (by rw [a0j];omega)).mo ?_
 rintro m1 G5 ⟨j1,c⟩
 replace b0:=c.bk b0;replace j:=c.bk j;replace b2:=c.bk b2;replace e:=e.trans c
 replace Z:=Z.mo c
 replace M:=M.mo c
 replace i3:=i3.mo c
 replace N:=N.mo c
 simp [b0,j]
 refine (c0J i3 M (by have:=e.1;omega) (by rw [a0j];omega) (by rw [a0j];omega)).mo ?_
 rintro m2 G6 ⟨j2,c⟩
 replace b0:=c.bk b0;replace j:=c.bk j;replace b2:=c.bk b2;replace e:=e.trans c
 replace Z:=Z.mo c
 replace M:=M.mo c
 replace i3:=i3.mo c
 replace N:=N.mo c
 replace j1:=j1.mo c
 rw [a0h,a0h] at j1 j2
 simp
 have q1:=c0h x.num y.den
 have q2:=c0h y.num x.den
 have q3:=c0h x.den y.den
 have q4:=h0s (x.num * y.den) (y.num * x.den)
 have a1:(x.den:Int) * y.den ≠ 0:=m1Y (by have:=x.den_nz;omega) (by have:=y.den_nz;omega)
 rw [k0q]
 generalize x.num * y.den=p1 at *
 generalize y.num * x.den=p2 at *
 refine (f0i j1 j2 (by have:=e.1;omega) (by rw [a0j];omega) (by rw [a0j];omega)).mo ?_
 rintro m3 G7 ⟨j3,c⟩
 replace b0:=c.bk b0;replace j:=c.bk j;replace b2:=c.bk b2;replace e:=e.trans c
 replace Z:=Z.mo c
 replace M:=M.mo c
 replace i3:=i3.mo c
 replace N:=N.mo c
 clear j1 j2
 rw [a0h,a0h] at j3
 simp [b0,j]
 refine (c0J M N (by have:=e.1;omega) (by rw [a0j];omega) (by rw [a0j];omega)).mo ?_
 rintro m4 G8 ⟨j4,c⟩
 replace b2:=c.bk b2;replace e:=e.trans c
 replace j3:=j3.mo c
 rw [a0h,a0h] at j4
 simp
 generalize (x.den:Int) * y.den=q at *
 generalize p1 + p2=p at *
 have hq:=fun R'=>j0j (fl:=max H.size G8.size) (R:=R') j3 j4 (by have:=e.1;omega) (by rw [a0j];omega) (by rw [a0j];omega) (by rw [a0h];exact a1)
 simp only [a0h] at hq
 refine (hq _).mo ?_
 rintro _ G6 ⟨⟨_,rfl,s8,s9,rfl,k6,k7⟩,c⟩
 replace b2:=c.bk b2;replace e:=e.trans c
 have hsz:=e.1
 have a0:=a0k b2
 simp [k6.cells,k6.plain,k7.cells,k7.plain,hsz]
 generalize hN:Array.setIfInBounds (Array.push _ _) _ _=G7
 obtain ⟨c,b3⟩:=new1 hN
 clear hN
 replace b2:=c.bk b2;replace e:=e.trans c;replace k6:=k6.mo c;replace k7:=k7.mo c
 obtain ⟨P,hP⟩:∃ P,P=G6.size:=⟨_,rfl⟩
 rw [<- hP] at b3 hsz a0 ⊢
 have hz:=a0k b2
 simp [T0c,b2,b3,k6.cells,k6.plain,k7.cells,k7.plain,hz]
 exact fun _=>⟨s8,s9,rfl,k6.setT b2 (by decide),k7.setT b2 (by decide)⟩
end
section
variable {fl:Nat} {H G:a0f} {R:a0D} {v w:Value} {a b:List c0f}
end
section
variable {fl:Nat} {H G:a0f} {R:a0D} {v w u:Value}
theorem C0b (x:Rat):((a0e x).1.2.length:Int)=if x=0 then 0 else ((lz x.num:Nat):Int):=by
 split
 ·rename_i h;subst h;rw [w0X];rfl
 ·rfl
theorem p0b {x:Rat} (h:x ≠ 0):0 < lz x.num:=b0Y (by have:x.num ≠ 0:=fun c=>h (Rat.num_eq_zero.1 c);omega)
theorem L0D (a b c d:Value):O0e true 0 2 (.agg #[a,b,c,d])=some (.agg #[a,b]):=rfl
theorem L0C (a b:Value):O0e false 1 1 (.agg #[a,b])=some b:=rfl
theorem C0U {a b:List b0b} (k:b0r H v a) (hb:b0r H w b) (s:fl<=H.size) (e:a.length ≠ b.length) :
  a0O env fl Z0f [v,w] H (fun r H'=>(∃ q,r=.tuple #[q,.int .i64 1]/\b0L H' q c0z)/\Ext H H') R:=by
 refine a0i i1g s (h:=?_)
 intro ρ j
 have c:¬ ((a.length:Int)=(b.length:Int)):=by omega
 simp [c1M,I0A,I0B,Q0H,j,k.slen,hb.slen,e,c]
 exact ⟨_,_,rfl,Lim.nil,Lim.nil⟩
theorem v0e {S:Nat} {a b:List b0b} (ha:b0r H v a) (hb:b0r H w b) (hf:fl<=H.size) (he:a.length=b.length) (a6:Few S a) (a7:Few S b) (hS:(a.length + 1) * (2 * S + 3) + 1 < 67108864) :
  a0O env fl Z0f [v,w] H (fun r H'=>(∃ q,r=.tuple #[q,.int .i64 0]/\b0L H' q (a0e (f0Q a b a.length)))/\Ext H H') R:=by
 refine a0i i1g hf (h:=?_)
 intro ρ h0
 have b8:a.length < 67108864:=by
  have:(a.length + 1) * 1<=(a.length + 1) * (2 * S + 3):=l1c _ (by omega)
  omega
 have b5:S < 33554432:=by
  have:1 * (2 * S + 3)<=(a.length + 1) * (2 * S + 3):=k1E _ (by omega)
  omega
 simp [c1M,I0A,I0B,h0,ha.slen,hb.slen,he]
 generalize hG:H.push _=G
 obtain ⟨c,b0⟩:=g0e hG
 have e:=Ext.refl H
 clear hG
 replace e:=e.trans c
 simp [Q0I]
 refine (e0A e.1).mo ?_
 rintro _ G2 ⟨⟨J,L,rfl,k,s⟩,c⟩
 replace b0:=c.bk b0;replace e:=e.trans c
 have hsz:=e.1
 simp [h0,k.cells,k.plain,s.cells,s.plain,hsz]
 generalize hN:Array.setIfInBounds (Array.push _ _) _ _=G3
 obtain ⟨c,j⟩:=new1 hN
 have a5:=a0k b0
 clear hN
 replace b0:=c.bk b0;replace e:=e.trans c;replace k:=k.mo c;replace s:=s.mo c
 obtain ⟨P,hP⟩:∃ P,P=G2.size:=⟨_,rfl⟩
 rw [<- hP] at j hsz a5 ⊢
 simp [Q0J]
 refine d0C (fun i ρ G=>ρ 0=v/\ρ 1=w/\ρ 4=.pointer (some ⟨H.size,0,none⟩)/\ρ 5=.int .i64 0/\ρ 6=.pointer (some ⟨P,0,none⟩)/\ρ 7=.int .i64 (i:Int)/\Ext H G /\
   a0f.bk G H.size=.row false a0b [.bool false,.slice none 0 0,.bool false,.slice none 0 0] /\
   ∃ J L,a0f.bk G P=.row false a0b [.bool (a0e (f0Q a b i)).1.1,J,.bool (a0e (f0Q a b i)).2.1,L]/\Lim G J (a0e (f0Q a b i)).1.2/\Lim G L (a0e (f0Q a b i)).2.2)
  a.length (by decide) ⟨by simp [h0],by simp [h0],by simp,by simp,by simp,by simp,e,b0,J,L,j,k,s⟩ ?_
 clear h0 ρ k s b0 j e c
 rintro i ρ G b9 ⟨g0,g1,g4,g5,g6,g7,e,b0,J,L,j,k,s⟩
 have ka:=ha.mo a0K e
 have kb:=hb.mo a0K e
 simp [Q0K,g0,g7,ka.slen]
 refine e0T.mk (by simp) (fun hi=>?_) (fun a9=>?_)
 ·have y:i < b.length:=by omega
  obtain ⟨wa,N,I⟩:=b0r.load ka hi
  obtain ⟨wb,a2,Z⟩:=b0r.load kb y
  have fa:=a6 _ (k1D hi)
  have fb:=a7 _ (k1D y)
  have hd:f0Q a b (i + 1)=f0Q a b i + b0t a[i] * b0t b[i]:=by
   rw [f0Q,k1v,k1v,k1A hi,k1A y];rfl
  have a3:=b0z (show i < 4611686018427387904 by omega)
  obtain ⟨ea,a1⟩:∃ x,x=a[i]:=⟨_,rfl⟩
  obtain ⟨eb,M⟩:∃ x,x=b[i]:=⟨_,rfl⟩
  rw [<- a1,<- M] at hd
  rw [<- a1] at fa I
  rw [<- M] at fb Z
  simp [Q0L,g0,g7,ka.ia hi,N]
  refine (b0I I e.1 (by omega)).mo ?_
  rintro _ G2 ⟨⟨t1,t2,rfl,q1,q2⟩,c⟩
  replace ka:=ka.mo a0K c
  replace kb:=kb.mo a0K c
  replace I:=I.mo c
  replace Z:=Z.mo c
  replace k:=k.mo c
  replace s:=s.mo c
  replace b0:=c.bk b0
  replace j:=c.bk j
  replace e:=e.trans c
  have F:=q1.slen
  rw [C0b] at F
  by_cases O:b0t ea=0
  ·have z:f0Q a b i + b0t ea * b0t eb=f0Q a b i:=by rw [O,m1F,m1q]
   rw [k1B O] at F
   simp [L0D,L0C,F]
   unfold f0N
   simp [y0x,g7,a3]
   exact c0s.mk ⟨by simp [g0],by simp [g1],by simp [g4],by simp [g5],by simp [g6],by simp,e,b0,J,L,by rw [hd,z];exact j,by rw [hd,z];exact k,by rw [hd,z];exact s⟩
  rw [k1y O] at F
  obtain ⟨c4,a0,a4⟩:=b0r.load kb y
  rw [<- M] at a4
  simp [L0D,L0C,F,p0b O,g1,g7,kb.ia y,a0]
  refine (b0I a4 e.1 (by omega)).mo ?_
  rintro _ G2 ⟨⟨t3,t4,rfl,q3,q4⟩,c⟩
  clear a4
  replace ka:=ka.mo a0K c
  replace kb:=kb.mo a0K c
  replace I:=I.mo c
  replace Z:=Z.mo c
  replace k:=k.mo c
  replace s:=s.mo c
  replace b0:=c.bk b0
  replace j:=c.bk j
  replace e:=e.trans c
  have u:=q3.slen
  rw [C0b] at u
  by_cases U:b0t eb=0
  ·have z:f0Q a b i + b0t ea * b0t eb=f0Q a b i:=by rw [U,Rat.mul_zero,m1q]
   rw [k1B U] at u
   simp [L0D,L0C,u]
   unfold f0N
   simp [y0x,g7,a3]
   exact c0s.mk ⟨by simp [g0],by simp [g1],by simp [g4],by simp [g5],by simp [g6],by simp,e,b0,J,L,by rw [hd,z];exact j,by rw [hd,z];exact k,by rw [hd,z];exact s⟩
  rw [k1y U] at u
  simp [L0D,L0C,u,p0b U]
  clear q1 q2 q3 q4 F u a0 N a2 I Z
  refine a0C ?_
  obtain ⟨wa,N,I⟩:=b0r.load ka hi
  obtain ⟨wb,a2,Z⟩:=b0r.load kb y
  rw [<- a1] at I
  rw [<- M] at Z
  have k4:b0L _ (.agg #[.bool (a0e (f0Q a b i)).1.1,J,.bool (a0e (f0Q a b i)).2.1,L]) (a0e (f0Q a b i)):=⟨J,L,rfl,k,s⟩
  simp [Q0M,g0,g1,g6,g7,ka.ia hi,kb.ia y,N,a2,j]
  refine (o0F I Z (by have:=e.1;omega) (by omega) (by omega)).mo ?_
  rintro _ G2 ⟨k5,c⟩
  replace k4:=k4.mo c
  replace k:=k.mo c
  replace s:=s.mo c
  replace b0:=c.bk b0
  replace j:=c.bk j
  replace e:=e.trans c
  have c2:=r0R a6 a7 i
  have b4:i * (2 * S + 3)<=a.length * (2 * S + 3):=k1E _ (by omega)
  rw [k1R,l1l] at hS
  have c3:=f0L (b0t ea) (b0t eb)
  have c0:=b0W fa.2.1 fa.2.2
  have c1:=b0W fb.2.1 fb.2.2
  simp
  refine (o0B k4 k5 e.1 (by rw [a0E];omega) (by rw [a0E];omega)).mo ?_
  rintro _ G2 ⟨⟨s3,s4,rfl,k6,k7⟩,c⟩
  replace k:=k.mo c
  replace s:=s.mo c
  replace b0:=c.bk b0
  replace j:=c.bk j
  replace e:=e.trans c
  rw [a0w,a0w,<- hd] at k6 k7 ⊢
  have hz:=a0k j
  simp [g0,g1,g4,g5,g6,j,k6.cells,k6.plain,k7.cells,k7.plain,hsz]
  generalize a8:Array.setIfInBounds _ _ _=G3
  have hS:=a8
  replace k6:=k6.setS hS j (by decide)
  replace k7:=k7.setS hS j (by decide)
  replace b0:=a0o hS b0 (by omega)
  replace e:=a0I hS e (by omega)
  replace j:=a0r hS j
  unfold f0N
  simp [y0x,g7,a3]
  exact c0s.mk ⟨by simp [g0],by simp [g1],by simp [g4],by simp [g5],by simp [g6],by simp,e,b0,s3,s4,j,k6,k7⟩
 ·subst a9
  have hz:=a0k b0
  simp [Q0N,g4,g6,j,b0,k.cells,k.plain,s.cells,s.plain,hz]
  refine fun _=>⟨J,L,?_,?_,?_⟩
  ·rw [<- he]
  ·rw [<- he];exact k.setT b0 (by decide)
  ·rw [<- he];exact s.setT b0 (by decide)
theorem l0k {S:Nat} {rows:List (List b0b)} {d:List c0f} {x:List b0b} (h:d0f H v rows) (hd:e0i H w d) (a6:b0r H u x) (hf:fl<=H.size)
  (hr:∀ r ∈ rows,Few S r) (Z:Few S x) (hS:(x.length + 1) * (2 * S + 3) + 1 < 67108864) (b4:rows.length < 1073741824) (a4:N0Q d) :
  a0O env fl Y0Y [v,w,u] H (fun r H'=>r=.bool (A0y rows d x)/\Ext H H') R:=by
 obtain ⟨s,rfl,hs⟩:=h
 refine a0i i1M hf (h:=?_)
 intro ρ O
 simp [d1R,P0c,O,hs.cells]
 generalize hG:H.push _=G
 obtain ⟨e,b0⟩:=g0e hG
 have F:=Ext.refl H
 clear hG
 replace F:=F.trans e
 unfold A0y
 by_cases hl:d.length=rows.length
 ·have q:(d.length:Int)=(rows.length:Int):=by omega
  have a0:=hd.slen
  rw [q] at a0
  simp [I0h,P0e,O,b0,a0,hs.slen,hl,q]
  refine d0C (fun i ρ G'=>ρ 1=w/\ρ 2=u/\ρ 3=.pointer (some ⟨H.size,0,none⟩)/\ρ 7=.int .i64 (i:Int)/\Ext G G'/\k0o id ((List.zipWith (z0D x) rows d).take i)=true) rows.length (by decide) (by simp [O,Ext.refl G,q0h]) ?_
  clear O ρ e
  rintro i ρ G1 a9 ⟨g1,g2,g3,N,c,hc⟩
  have J:=F.trans c
  have ks:=hs.mo d0u J
  have M:=hd.mo c0q J
  have kx:=a6.mo a0K J
  have b1:=c.bk b0
  have a1:=M.slen
  rw [q] at a1
  simp [P0f,g1,N,a1]
  refine e0T.mk (by simp) (fun hi=>?_) (fun a3=>?_)
  ·have I:i < d.length:=by omega
   obtain ⟨wr,a2,kr⟩:=e0U.load ks hi
   have hz:(List.zipWith (z0D x) rows d).length=rows.length:=by simp;omega
   have L:(List.zipWith (z0D x) rows d)[i]'(by omega)=z0D x rows[i] d[i]:=by simp
   have U:=hr _ (k1D hi)
   by_cases j:rows[i].length=x.length
   ·simp [I0i,g2,g3,N,b1,ks.ia hi,a2]
    refine (v0e kr kx (by have:=F.1;have:=c.1;omega) j U Z (by rw [j];exact hS)).mo ?_
    rintro _ G2 ⟨⟨_,rfl,s1,s2,rfl,y,z⟩,e⟩
    replace M:=M.mo c0q e
    replace c:=c.trans e
    have hsz:H.size<=G2.size:=by have:=F.1;have:=c.1;omega
    simp [y.cells,y.plain,z.cells,z.plain,hsz]
    generalize hN:Array.setIfInBounds (Array.push _ _) _ _=G3
    obtain ⟨e,b1⟩:=new1 hN
    have a8:=hN
    clear hN
    replace M:=M.mo c0q e
    replace c:=c.trans e
    replace y:=y.mo e
    replace z:=z.mo e
    refine a0C ?_
    have b5:=r0R U Z rows[i].length
    have a7:rows[i].length * (2 * S + 3)<=(x.length + 1) * (2 * S + 3):=k1E _ (by omega)
    obtain ⟨we,a5,k4⟩:=e0i.load M I
    have k3:g0L G3 (.agg #[.int .i64 0,.bool (a0e (f0Q rows[i] x rows[i].length)).1.1,s1,.bool (a0e (f0Q rows[i] x rows[i].length)).2.1,s2]) (0,a0e (f0Q rows[i] x rows[i].length)):=⟨s1,s2,rfl,y,z⟩
    simp [I0j,b1,g1,N,M.ia I,a5,b0x,y.cells,z.cells]
    refine (o0C k3 k4 (by have:=F.1;have:=c.1;omega) (by show d0J (a0e _) < _;rw [a0E];omega) (a4 _ (k1D I))).mo ?_
    rintro _ G4 ⟨rfl,e⟩
    replace c:=c.trans e
    rw [w0B]
    by_cases k:0 < u0r (0,f0Q rows[i] x rows[i].length) (g0f d[i])
    ·simp [k,I0k]
     intros
     exact m0j (i:=i) (by omega) (by rw [L];unfold z0D;simp [k])
    ·simp [k]
     unfold f0N
     simp [P0g,N,b0z (show i < 4611686018427387904 by omega)]
     refine c0s.mk ⟨by simp [g1],by simp [g2],by simp [g3],by simp,c,?_⟩
     rw [m0k (by omega),hc,L];unfold z0D;simp only [j,k,decide_true,decide_false,Bool.not_false,n1A,id_eq]
     rw [<- j,decide_eq_false k];rfl
   ·simp [I0i,g2,g3,N,b1,ks.ia hi,a2]
    refine (C0U kr kx (by have:=F.1;have:=c.1;omega) j).mo ?_
    rintro _ G2 ⟨⟨_,rfl,s1,s2,rfl,y,z⟩,e⟩
    replace c:=c.trans e
    have hsz:H.size<=G2.size:=by have:=F.1;have:=c.1;omega
    simp [y.cells,y.plain,z.cells,z.plain,hsz]
    refine a0C ?_
    simp [I0j,I0k]
    intros
    exact m0j (i:=i) (by omega) (by rw [L];unfold z0D;simp [j])
  ·subst a3
   rw [k1J (by simp;omega)] at hc
   simp [P0h,hc]
 ·have q:¬ (d.length:Int)=(rows.length:Int):=by omega
  simp [I0h,P0d,O,b0,hd.slen,hs.slen,hl,q]
