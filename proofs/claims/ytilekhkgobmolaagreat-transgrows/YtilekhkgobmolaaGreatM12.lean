/- Part 13 of the proof. -/
import Derived.Test.YtilekhkgobmolaaGreatChecked
import Derived.Test.YtilekhkgobmolaaGreatM02
import Derived.Test.YtilekhkgobmolaaGreatM04
import Derived.Test.YtilekhkgobmolaaGreatM07
import Derived.Test.YtilekhkgobmolaaGreatM10
import Derived.Test.YtilekhkgobmolaaGreatM11
set_option linter.unusedVariables false
set_option linter.unusedSimpArgs false
set_option linter.unusedSectionVars false
namespace Go.Proofs.YtilekhkgobmolaaGreat.AI
section
open Go SX
set_option maxHeartbeats 4000000
variable {fl:Nat} {H G:a0e} {R:a0E} {v w u:Value}
structure J0F (rows:List (List b0h)) (e:c0f) (d:List b0T):Prop where
 ed:l0e e
 rl:rows.length≤8
 r:∀ r ∈ rows,Few 6 r∧r.length < 1073741824
 dz:∀ x ∈ d,d0b x.2≤6∧b0a x.2.1.2∧b0a x.2.2.2
 dl:d.length < 1073741824
theorem J0F.fe {rows:List (List b0h)} {e:c0f} {d:List b0T} (h:J0F rows e d):y0h d:=fun x hx=>by have:=(h.dz x hx).1;omega
theorem A0i {rows:List (List b0h)} {e:c0f} {d:List b0T} {row:Int} (h:c0k rows e d row=true):0≤e.m∧d.length=rows.length∧0≤row∧row < rows.length∧(∀ r ∈ rows,r.length=e.set.length)∧(∀ a ∈ e.set,(a.all.length:Int)=e.set.length + e.m):=by
 unfold c0k f0i l0b at h
 simp only [i1y,j1n] at h
 obtain ⟨⟨⟨⟨⟨⟨⟨⟨⟨⟨hn0,hn6⟩,hl⟩,hrow⟩,hdl⟩,hmay⟩,hr0⟩,hr1⟩,hm0⟩,hfs⟩,hfg⟩:=h
 refine ⟨hm0,by omega,hr0,hr1,fun r hr'=>?_,fun a ha=>?_⟩
 ·have:=i1U.1 hrow r hr'
  unfold r0j at this;simp at this;omega
 ·have:=w0t.1 hfs a ha
  unfold f0H.all;rw [i1E];omega
def X0J (rows:List (List b0h)) (e:c0f) (d:List b0T) (row N:Nat) (r:Value) (H':a0e):Prop :=
 ∃ p k,r=.tuple #[p,k,.bool true]∧LPV H' p (c0B rows e d row N)∧b0P H' k (a0f (gK (rows.getD row []) e.set))
theorem J0o {e:c0f} {d:List b0T} (h1:l0e e) (hd:d.length≤8):x0Y e d=true:=by
 unfold x0Y
 have:=h1.ns;have:=h1.ng;have:=h1.m;have:=t0J d
 simp;omega
theorem j0T {rows:List (List b0h)} {e:c0f} {d:List b0T} {row m:Nat} (ht:d0q H v rows) (he:j0f H w e) (hd:c0I H u d) (hf:fl≤H.size) (hF:J0F rows e d) (ha:c0k rows e d (row:Int)=true) (hno:d0y (fun e=>decide (e.1 < 0)) d=false) (hm:e.m=(m:Int)) :
  a0S env fl Y0L [v,w,u,.int .i64 (row:Int)] H (fun r H'=>X0J rows e d row (e.set.length + m) r H'∧Ext H H') R:=by
 obtain ⟨hm0,hdl,_,hrow',hrl',hal'⟩:=A0i ha
 have hrow:row < rows.length:=by omega
 have hal:∀ a ∈ e.set,a.all.length=e.set.length + m:=fun a h=>by have:=hal' a h;omega
 have hrl:=hF.rl
 have hfe:=hF.ed
 have hns:=hfe.ns;have hng:=hfe.ng;have hm3:=hfe.m
 obtain ⟨_,_,_,_,_,hgl,_⟩:=A0z ha hfe hm hF.rl (fun r hr=>(hF.r r hr).1) hF.dz
 have hsm:=J0o hfe (by omega:d.length≤8)
 have ht0:=ht;have he0:=he
 obtain ⟨s,rfl,hs⟩:=ht
 obtain ⟨f,t,sG,sS,sP,rfl,hG,hS,hPc,hPp⟩:=he
 refine a0g g1I hf (h:=?_)
 intro ρ h0
 simp [b1X,O0I,h0,hs.cells,hG.cells,hS.cells,hPc]
 generalize hGG:Array.push (Array.push (Array.push (Array.push H _) _) _) _=G
 obtain ⟨hx,b0,b1,b2,b3⟩:=V0E hGG
 clear hGG
 have hG4:H.size + 4≤G.size:=a0i b3
 simp [O0J,h0,b0,b1]
 refine (g0K (ht0.mono hx) (he0.mono hx) (hd.mono b0N hx) (by omega) hF.r (by omega) hF.fe hF.dl (by omega) (by omega)).mono ?_
 rintro _ G2 ⟨rfl,hx2⟩
 replace b0:=hx2.blk b0
 replace b1:=hx2.blk b1
 replace b2:=hx2.blk b2
 replace b3:=hx2.blk b3
 replace hx:=hx.trans hx2
 replace hG4:=i1t hG4 hx2.1
 clear hx2 G
 simp [ha,h0,b0,b1]
 refine (l0q (ht0.mono hx) (he0.mono hx) (hd.mono b0N hx) (by omega) hF.dl (by omega) (by omega) (by omega) (by omega)).mono ?_
 rintro _ G ⟨rfl,hx2⟩
 replace b0:=hx2.blk b0
 replace b1:=hx2.blk b1
 replace b2:=hx2.blk b2
 replace b3:=hx2.blk b3
 replace hx:=hx.trans hx2
 replace hG4:=i1t hG4 hx2.1
 clear hx2 G2
 simp [hsm,h0,b0,b1]
 refine (h0J (hd.mono b0N hx) (by omega) hF.fe hF.dl).mono ?_
 rintro _ G2 ⟨rfl,hx2⟩
 replace b0:=hx2.blk b0
 replace b1:=hx2.blk b1
 replace b2:=hx2.blk b2
 replace b3:=hx2.blk b3
 replace hx:=hx.trans hx2
 replace hG4:=i1t hG4 hx2.1
 clear hx2 G
 have wr:IntKind.i64.wrap ((e.set.length:Int) + e.m)=((e.set.length + m:Nat):Int):=by rw [hm,a0R (by omega) (by omega)];omega
 obtain ⟨N,hN⟩:∃ N,N=e.set.length + m:=⟨_,rfl⟩
 rw [← hN] at wr hal hgl ⊢
 simp [hno]
 simp [O0K,h0,b0,b1,(hS.mono c0g hx).slen,wr]
 refine (n0u (S:=6) (N:=N) (ht0.mono hx) (hd.mono b0N hx) (by omega) (by decide) (by omega) (fun r hr=>⟨(hF.r r hr).1,by rw [hrl' r hr];omega⟩) (by omega) (by omega) hF.fe).mono ?_
 rintro _ G3 ⟨⟨sA,sB,rfl,kA,kB⟩,hx2⟩
 obtain ⟨cA,pA⟩:=kA.cells
 obtain ⟨cB,pB⟩:=kB.cells
 have hG3:=hx2.1
 replace b0:=hx2.blk b0
 replace b1:=hx2.blk b1
 replace b2:=hx2.blk b2
 replace b3:=hx2.blk b3
 replace hx:=hx.trans hx2
 simp [cA,cB,pA,pB,show H.size≤G3.size by omega]
 generalize hGG:Array.setIfInBounds (Array.push _ _) _ _=G4
 obtain ⟨hx3,b4⟩:=new1 hGG
 clear hGG
 obtain ⟨P,hP⟩:∃ P,P=G3.size:=⟨_,rfl⟩
 rw [← hP] at b4 ⊢
 replace b0:=hx3.blk b0
 replace b1:=hx3.blk b1
 replace b2:=hx3.blk b2
 replace b3:=hx3.blk b3
 replace hx:=hx.trans hx3
 have hpb:W0R G2.size G2.size G4 P N sA sB (.slice none 0 0) ((d0w rows d).map (w0K N)) (d0x rows d):=⟨b4,kA.mono k0i hx3,kB.mono a0Q hx3⟩
 have hPl:=a0i b4
 clear kA kB hx2 hx3
 have hA0:∀ b,slB sA=some b→G2.size≤b:=fun b hb=>(hpb.A.ge hb).1
 have hB0:∀ b,slB sB=some b→G2.size≤b:=fun b hb=>(hpb.B.ge hb).1
 have hH2:H.size≤G2.size:=by omega
 simp [O0L,b1]
 refine (k0C (fl:=H.size) (f0:=G2.size) (H0:=H) hx (i1j _) hx.1 (by omega) hG (by omega) ⟨hpb.blk,hpb.A.low hH2,hpb.B.low hH2⟩ (by have:=j0H rows d;have:=m0x rows d;simp;omega) (fun g hg=>⟨hfe.guards g hg,by rw [hgl g hg];omega⟩)).mono ?_
 rintro _ G5 ⟨⟨hO,sA',sB',hpb',hA1,hB1⟩,_⟩
 have hG5:=hO.1
 have hPG:G2.size≤P:=by omega
 replace b0:=(hO.2 _ (by omega) (by omega) (fun h=>by have:=hA0 _ h;omega) (fun h=>by have:=hB0 _ h;omega)).trans b0
 replace b1:=(hO.2 _ (by omega) (by omega) (fun h=>by have:=hA0 _ h;omega) (fun h=>by have:=hB0 _ h;omega)).trans b1
 replace b2:=(hO.2 _ (by omega) (by omega) (fun h=>by have:=hA0 _ h;omega) (fun h=>by have:=hB0 _ h;omega)).trans b2
 replace b3:=(hO.2 _ (by omega) (by omega) (fun h=>by have:=hA0 _ h;omega) (fun h=>by have:=hB0 _ h;omega)).trans b3
 replace hx:=hO.ext (fl:=H.size) (i1j _) (by omega) (fun b h=>by have:=hA0 _ h;omega) (fun b h=>by have:=hB0 _ h;omega) hx
 have hB2:∀ b,slB sB' = some b→G2.size≤b:=fun b hb=>by
  rcases hB1 b hb with h | h | h
  ·exact hA0 b h
  ·exact hB0 b h
  ·omega
 clear hO hA0 hB0 hA1 hB1 hpb b4
 simp [O0M,h0,b0,b1]
 refine (n0v (m:=m) (ht0.mono hx) (he0.mono hx) (by omega) hfe hm hrow (hF.r _ (i1p hrow)).1 (hrl' _ (i1p hrow)) (fun a h=>by rw [hal a h,hN])).mono ?_
 rintro _ G6 ⟨⟨c,k,rfl,hcf,kc,kk⟩,hx2⟩
 rw [← hN] at kc
 obtain ⟨Y,hY⟩:∃ Y,Y=rows.getD row []:=⟨_,rfl⟩
 rw [← hY] at kc kk
 replace b0:=hx2.blk b0
 replace b1:=hx2.blk b1
 replace b2:=hx2.blk b2
 replace b3:=hx2.blk b3
 replace hpb':=hpb'.mono hx2
 replace hx:=hx.trans hx2
 have hG6:=hx2.1
 clear hx2
 obtain ⟨k1,k2,rfl,q1,q2⟩:=kk
 simp [q1.cells,q2.cells,q1.plain,q2.plain,show H.size≤G6.size by omega]
 generalize hGG:Array.setIfInBounds (Array.push _ _) _ _=G7
 obtain ⟨hx2,b5⟩:=new1 hGG
 clear hGG
 obtain ⟨P2,hP2⟩:∃ P2,P2=G6.size:=⟨_,rfl⟩
 rw [← hP2] at b5 ⊢
 replace b2:=hx2.blk b2
 replace b3:=hx2.blk b3
 replace hpb':=hpb'.mono hx2
 replace hx:=hx.trans hx2
 replace kc:=kc.mono a0Q hx2
 replace q1:=q1.mono hx2
 replace q2:=q2.mono hx2
 clear hx2 b0 b1
 obtain ⟨b4,kA,kB⟩:=hpb'
 obtain ⟨cA,pA⟩:=kA.cells
 obtain ⟨cB,pB⟩:=kB.cells
 simp [O0N,b4,kc.cells,kc.plain,show H.size≤P by omega]
 generalize hS1:Array.setIfInBounds G7 P _=G8
 have t1:∀ {e:Nat},b0J ≠ e→LxT e G7 G8:=fun hne=>b0c hS1 b4 hne
 replace kA:=kA.lxm (t1 (by decide)) (fun cs x ⟨w',q1,q2,q3,q4⟩=>(⟨w',q1,q2.lx2 (t1 (by decide)) (t1 (by decide)),q3,q4⟩:PSf _ _ G8 cs x))
 replace kB:=kB.lxm (Q':=PR) (t1 (by decide)) (fun cs x h=>b0P.lx h (t1 (by decide)))
 replace kc:=b0v.lx2 kc (t1 (by decide)) (t1 (by decide))
 replace q1:=q1.lx (t1 (by decide))
 replace q2:=q2.lx (t1 (by decide))
 replace hx:=a0Y hS1 hx (by omega)
 replace b2:=a0p hS1 b2 (by omega)
 replace b3:=a0p hS1 b3 (by omega)
 replace b5:=a0p hS1 b5 (by omega)
 replace b4:=a0v hS1 b4
 clear t1 hS1 G7
 have hz2:=a0i b2
 have hz3:=a0i b3
 refine c0J ?_
 simp [O0O,b2,b3,b4,b5,cA,cB,pA,pB,kc.cells,kc.plain,q1.cells,q2.cells,q1.plain,q2.plain,hz2,hz3]
 generalize hS1:Array.setIfInBounds G8 _ _=G9
 generalize hS2:Array.setIfInBounds G9 _ _=G10
 refine ⟨by omega,fun _=>?_⟩
 have t1:∀ {e:Nat},b0J ≠ e→LxT e G8 G9:=fun hne=>b0c hS1 b2 hne
 replace kA:=kA.lxm (t1 (by decide)) (fun cs x ⟨w',q1,q2,q3,q4⟩=>(⟨w',q1,q2.lx2 (t1 (by decide)) (t1 (by decide)),q3,q4⟩:PSf _ _ G9 cs x))
 replace kB:=kB.lxm (Q':=PR) (t1 (by decide)) (fun cs x h=>b0P.lx h (t1 (by decide)))
 replace kc:=b0v.lx2 kc (t1 (by decide)) (t1 (by decide))
 replace q1:=q1.lx (t1 (by decide))
 replace q2:=q2.lx (t1 (by decide))
 replace b3:=a0p hS1 b3 (by omega)
 clear t1
 have t1:∀ {e:Nat},a0b ≠ e→LxT e G9 G10:=fun hne=>b0c hS2 b3 hne
 have hxb:d0l (some (H.size + 3)) G9 G10:=by
  rw [← hS2]
  exact ⟨by simp,fun b hb hne=>a0W (by rintro rfl;exact hne rfl)⟩
 have off:∀ {s:Value},(∀ b,slB s=some b→G2.size≤b)→slB s=none ∨ slB s ≠ some (H.size + 3):=fun h=>by
  cases h1:slB _ with
  | none=>exact .inl rfl
  | some b=>right;have:=h b h1;simp;omega
 have kc':b0v G9 c (c0B rows e d row N).C:=by rw [hY] at kc;exact kc
 refine ⟨_,_,rfl,⟨sA',sB',c,rfl,?_,?_,b0v.off kc' hxb (off fun b hb=>by have:=hcf b hb;omega) (t1 (by decide))⟩,?_⟩
 ·exact (kA.lxm (Q':=PS) (t1 (by decide)) (fun cs x ⟨w',q1,q2,_,q4⟩=>⟨w',q1,b0v.off q2 hxb (off q4) (t1 (by decide))⟩)).sls
 ·exact b0v.off kB.sls hxb (off hB2) (t1 (by decide))
 ·rw [hY] at q1 q2 ⊢
  exact ⟨k1,k2,rfl,q1.lx (t1 (by decide)),q2.lx (t1 (by decide))⟩
theorem V0z {z1 z2 r1 r2:Blk} {G3:a0e} (hN:Array.setIfInBounds (Array.setIfInBounds (Array.push (Array.push G z1) z2) G.size r1) (G.size + 1) r2=G3):Ext G G3∧a0e.blk G3 G.size=r1∧a0e.blk G3 (G.size + 1)=r2:=by
 subst hN
 refine ⟨(((Ext.refl G).push.push).set (by omega)).set (by omega),?_,?_⟩
 ·rw [a0W (by omega),a0z (by simp)]
 ·rw [a0z (by simp)]
def z0O (a:Value):Prop:=∃ c1 c2 c3 c4 c5 c6 c7 c8,a=.agg #[c1,c2,c3,c4,c5,c6,c7,c8]∧a0t c1=true∧a0t c2=true∧a0t c3=true∧a0t c4=true∧a0t c5=true∧a0t c6=true∧a0t c7=true∧a0t c8=true
theorem z0M.cells8 {a:o0p} (h:z0M H v a):z0O v:=by
 obtain ⟨s1,s2,sX,sY,sR,rfl,h1,h2,h3,h4,h5⟩:=h
 exact ⟨_,_,_,_,_,_,_,_,rfl,rfl,rfl,h1.plain,rfl,h2.plain,h3.plain,h4.plain,h5.plain⟩
theorem d1h.cells8:z0O d1h:=⟨_,_,_,_,_,_,_,_,rfl,rfl,rfl,rfl,rfl,rfl,rfl,rfl,rfl⟩
def g1l (rows:List (List b0h)) (e:c0f) (d:List b0T) (row:Int) (r:Value) (H':a0e):Prop :=
 ∃ x a c xe,r=.tuple #[x,a,.int .i64 c]∧z0O a∧f0J H' x xe∧d0b xe.2≤300000 ∧
  if c0k rows e d row=true then c=0∧n0C rows e d row.toNat (e.set.length + e.m.toNat) xe else c=1∧xe=(0,c0o)
theorem l0u {k:Int}:f0J H (.agg #[.int .i64 k,.bool false,.slice none 0 0,.bool false,.slice none 0 0]) (k,c0o):=⟨_,_,rfl,Lim.nil,Lim.nil⟩
theorem a1U {rows:List (List b0h)} {e:c0f} {d:List b0T} {row N:Nat} {M:Nat} {a:o0p} (h:r0w (c0B rows e d row N) N M 200) (hN:N≤6) (hM:M≤14) (hc:M0I a ((M + 2) * ((N + 3) * (200 + 1) + M + 2) + 1 + M + 1 + (N + 3) * (200 + 1) + (N + 3) * (200 + 1))) (h1:J0E (c0B rows e d row N) N M a):szR a.V≤250000:=by
 have hW:(M + 2) * ((N + 3) * (200 + 1) + M + 2) + 1 + M + 1 + (N + 3) * (200 + 1) + (N + 3) * (200 + 1)≤33000:=by
  have h1:(M + 2) * ((N + 3) * (200 + 1) + M + 2)≤16 * 1825:=j1f (by omega) (by omega)
  omega
 rw [h1.V]
 have h2:=r0s (f:=fun k=>pC (c0B rows e d row N) k * a.X.getD k 0) (K:=33201) (fun k=>by
  have a1:=g0C (pC (c0B rows e d row N) k) (a.X.getD k 0)
  have a2:szR (pC (c0B rows e d row N) k)≤201:=h.fC.sz k
  have a3:szR (a.X.getD k 0)≤33000:=by
   rw [i1h]
   by_cases hk:k < a.X.length
   ·rw [i1m hk];exact i1t (hc.1 _ (i1p _)) hW
   ·rw [i1s (by omega)];show szR 0≤_;rw [e0w];decide
  omega) N
 have:N * (33201 + 1)≤6 * (33201 + 1):=i1r _ hN
 omega
theorem i0H {rows:List (List b0h)} {e:c0f} {d:List b0T} {row:Int} (ht:d0q H v rows) (he:j0f H w e) (hd:c0I H u d) (hf:fl≤H.size) (hF:J0F rows e d) :
  a0S env fl W0Y [v,w,u,.int .i64 row] H (fun r H'=>g1l rows e d row r H'∧Ext H H') R:=by
 have hrl:=hF.rl
 have hfe:=hF.ed
 have hns:=hfe.ns;have hng:=hfe.ng;have hm3:=hfe.m
 have ht0:=ht;have he0:=he
 obtain ⟨s,rfl,hs⟩:=ht
 obtain ⟨f,t,sG,sS,sP,rfl,hG,hS,hPc,hPp⟩:=he
 refine a0g g1u hf (h:=?_)
 intro ρ h0
 simp [b1L,N0s,h0,hs.cells,hG.cells,hS.cells,hPc]
 generalize hGG:Array.push (Array.push (Array.push (Array.push H _) _) _) _=G
 obtain ⟨hx,b0,b1,b2,b3⟩:=V0E hGG
 clear hGG
 have hG4:H.size + 4≤G.size:=a0i b3
 simp [N0t,h0,b0,b1]
 refine (g0K (ht0.mono hx) (he0.mono hx) (hd.mono b0N hx) (by omega) hF.r (by omega) hF.fe hF.dl (by omega) (by omega)).mono ?_
 rintro _ G2 ⟨rfl,hx2⟩
 replace b0:=hx2.blk b0
 replace b1:=hx2.blk b1
 replace b2:=hx2.blk b2
 replace b3:=hx2.blk b3
 replace hx:=hx.trans hx2
 replace hG4:=i1t hG4 hx2.1
 clear hx2 G
 have hz2:=a0i b2
 have hz3:=a0i b3
 cases ha:c0k rows e d row
 ·simp [N0u,b2,b3,hz2,hz3]
  exact fun _=>⟨_,_,_,_,rfl,d1h.cells8,l0u,by decide,by rw [i1k (by rw [ha];decide)];exact ⟨rfl,rfl⟩⟩
 obtain ⟨hm0,hdl,hr0,hr1,hrl',hal'⟩:=A0i ha
 obtain ⟨m,hm⟩:∃ m:Nat,e.m=m:=⟨e.m.toNat,by omega⟩
 obtain ⟨q,rfl⟩:∃ q:Nat,row=q:=⟨row.toNat,by omega⟩
 have hmt:e.m.toNat=m:=by omega
 simp [N0v,h0]
 refine (h0J (hd.mono b0N hx) (by omega) hF.fe hF.dl).mono ?_
 rintro _ G ⟨rfl,hx2⟩
 replace b0:=hx2.blk b0
 replace b1:=hx2.blk b1
 replace b2:=hx2.blk b2
 replace b3:=hx2.blk b3
 replace hx:=hx.trans hx2
 replace hG4:=i1t hG4 hx2.1
 clear hx2 hz2 hz3 G2
 have hz2:=a0i b2
 have hz3:=a0i b3
 cases hno:d0y (fun e=>decide (e.1 < 0)) d
 case true =>
  simp [N0w,b2,b3,hz2,hz3]
  exact fun _=>⟨_,_,_,(-1,c0o),rfl,d1h.cells8,l0u,by decide,by rw [i1n ha];exact ⟨rfl,.inl ⟨rfl,.inl hno⟩⟩⟩
 simp [N0x,h0,b0,b1]
 refine (j0T (m:=m) (ht0.mono hx) (he0.mono hx) (hd.mono b0N hx) (by omega) hF ha hno hm).mono ?_
 rintro _ G2 ⟨⟨p,k,rfl,kp,kk⟩,hx2⟩
 replace b2:=hx2.blk b2
 replace b3:=hx2.blk b3
 replace hx:=hx.trans hx2
 replace hG4:=i1t hG4 hx2.1
 clear hx2 b0 b1 hz2 hz3 G
 obtain ⟨hok,hrt,hN6,hM14,hrl2,hgl,hmay⟩:=A0z ha hfe hm hF.rl (fun r hr=>(hF.r r hr).1) hF.dz
 have hsup:=fun a=>U0k.sup (d:=d) (row:=q) (a:=a) hrl2 (Nat.le_add_right _ m) hgl hno
 have hgk:szR (gK (rows.getD q []) e.set)≤150:=hfe.gK (by rw [b0I (by omega:q < rows.length)];exact (hF.r _ (i1p _)).1) _ hns
 have hszv:=fun a hc h1=>a1U (a:=a) hok hN6 hM14 hc h1
 obtain ⟨gk,hgkd⟩:∃ x,x=gK (rows.getD q []) e.set:=⟨_,rfl⟩
 obtain ⟨N,hN⟩:∃ N,N=e.set.length + m:=⟨_,rfl⟩
 simp only [← hN] at kp hok hrt hsup hszv hN6 hM14
 obtain ⟨pp,hpp⟩:∃ x,x=c0B rows e d q N:=⟨_,rfl⟩
 rw [← hgkd] at kk hgk
 simp only [← hgkd] at hsup
 simp only [← hpp] at kp hok hrt hsup hszv hM14
 obtain ⟨M,hM⟩:∃ M,M=pp.A.length:=⟨_,rfl⟩
 rw [← hM] at hok hM14
 simp only [← hM] at hsup hszv
 have kp0:=kp
 have kk0:=kk
 obtain ⟨sA,sB,sC,rfl,kA,kB,kC⟩:=kp
 obtain ⟨k1,k2,rfl,q1,q2⟩:=kk
 simp [kA.cells,kB.cells,kC.cells,kA.plain,kB.plain,kC.plain,q1.cells,q2.cells,q1.plain,q2.plain,show H.size≤G2.size by omega,show H.size≤G2.size + 1 by omega]
 generalize hGG:Array.setIfInBounds (Array.setIfInBounds (Array.push (Array.push _ _) _) _ _) _ _=G3
 obtain ⟨hx2,b4,b5⟩:=V0z hGG
 clear hGG
 obtain ⟨P,hP⟩:∃ P,P=G2.size:=⟨_,rfl⟩
 rw [← hP] at b4 b5 ⊢
 replace b2:=hx2.blk b2
 replace b3:=hx2.blk b3
 replace hx:=hx.trans hx2
 replace kp0:=kp0.mono hx2
 replace q1:=q1.mono hx2
 replace q2:=q2.mono hx2
 clear hx2 kA kB kC kk0
 simp [N0y]
 simp [N0z,b4]
 refine (j0Q hok kp0 hx.1 hrt).mono ?_
 rintro _ G5 ⟨⟨ans,k,rfl,sc,hq,ans',a,k',hee,hA,hQ⟩,hx2⟩
 obtain ⟨rfl,rfl⟩:ans=ans'∧k=k':=by simpa using hee
 clear hee
 replace b2:=hx2.blk b2
 replace b3:=hx2.blk b3
 replace b5:=hx2.blk b5
 replace hx:=hx.trans hx2
 replace q1:=q1.mono hx2
 replace q2:=q2.mono hx2
 clear hx2 b4 kp0
 have hsz:=a1T hok hq (by omega) hQ
 have hopt:U0k pp N M a:=by
  rcases hQ with hQ | hQ | hQ
  ·exact (hQ.cert hok hq).opt
  ·exact (hQ.cert hok hq).opt
  ·exact (hQ.cert hok hq).opt
 have hV:szR a.V≤250000 ∨ a.kind ≠ 1:=by
  rcases hQ with hQ | hQ | hQ
  ·right;rw [(hQ.cert hok hq).kind];decide
  ·exact .inl (hszv a hsz (hQ.cert hok hq))
  ·right;rw [(hQ.cert hok hq).kind];decide
 have hS:=hsup a hopt
 have h8:=hA.cells8
 obtain ⟨z1,z2,z3,z4,z5,rfl,l1,l2,l3,l4,l5⟩:=hA
 have d1:=l1.cells;have d2:=l2.cells
 simp [show H.size≤G5.size from hx.1,d1,d2,l1.plain,l2.plain,l3.cells,l3.plain,l4.cells,l4.plain,l5.cells,l5.plain]
 generalize hGG:Array.setIfInBounds (Array.push _ _) _ _=G6
 obtain ⟨hx2,b6⟩:=new1 hGG
 clear hGG
 obtain ⟨P4,hP4⟩:∃ x,x=G5.size:=⟨_,rfl⟩
 rw [← hP4] at b6 ⊢
 have hPP:H.size + 4≤P4:=by have:=a0i b3;omega
 replace b2:=hx2.blk b2
 replace b3:=hx2.blk b3
 replace b5:=hx2.blk b5
 replace hx:=hx.trans hx2
 replace q1:=q1.mono hx2
 replace q2:=q2.mono hx2
 replace l1:=l1.mono hx2
 replace l2:=l2.mono hx2
 clear hx2
 have hz2:=a0i b2
 have hz3:=a0i b3
 have hfin:∀ xe,n0C rows e d q N xe→n0C rows e d (q:Int).toNat (e.set.length + e.m.toNat) xe:=fun xe h=>by rw [Int.toNat_natCast,hmt,← hN];exact h
 simp [N0A]
 rcases hS with ⟨hk,hS⟩ | ⟨hk,hS⟩ | ⟨hk,hS⟩
 ·rw [hk] at b6 h8
  simp [q0K,b6]
  refine c0J ?_
  simp [D0s,b2,b3,b6,hz2,hz3,l1.plain,l2.plain,l3.plain,l4.plain,l5.plain]
  exact ⟨by omega,fun _=>⟨_,_,_,(-1,c0o),rfl,h8,l0u,by decide,by rw [i1n ha];exact ⟨rfl,hfin _ hS⟩⟩⟩
 ·rw [hk] at b6 h8
  simp [q0K,u0A,b6]
  refine c0J ?_
  simp [D0t,b2,b3,b6,hz2,hz3,l1.plain,l2.plain,l3.plain,l4.plain,l5.plain]
  exact ⟨by omega,fun _=>⟨_,_,_,(1,c0o),rfl,h8,l0u,by decide,by rw [i1n ha];exact ⟨rfl,hfin _ hS⟩⟩⟩
 ·rw [hk] at b6 h8
  simp [q0K,u0A,b6]
  have hV':szR a.V≤250000:=hV.resolve_right (fun h=>h hk)
  refine c0J ?_
  simp [D0u,b6]
  have hsa:=r0p a.V gk
  refine (g0b (a:=a0f a.V) ⟨_,_,rfl,l1,l2⟩ (by have:=hx.1;omega) (by rw [a0J];omega)).mono ?_
  rintro _ G7 ⟨⟨s1',s2',rfl,m1,m2⟩,hx2⟩
  rw [a0w] at m1 m2 ⊢
  replace b2:=hx2.blk b2
  replace b3:=hx2.blk b3
  replace b5:=hx2.blk b5
  replace b6:=hx2.blk b6
  replace hx:=hx.trans hx2
  replace q1:=q1.mono hx2
  replace q2:=q2.mono hx2
  simp [b5]
  refine (r0W (e:=(0,a0f a.V)) (b:=a0f gk) ⟨_,_,rfl,m1,m2⟩ ⟨k1,k2,rfl,q1,q2⟩ (by have:=hx.1;omega) (by rw [a0J];omega) (by rw [a0J];omega) (by rw [f0A];show szR a.V < 67108864;omega) (by rw [f0A,a0w];show szR a.V + szR gk + 1 < 67108864;omega)).mono ?_
  rintro _ G8 ⟨kx,hx3⟩
  rw [f0A,i1n rfl,a0w] at kx
  obtain ⟨s3,s4,rfl,n1,n2⟩:=kx
  replace b2:=hx3.blk b2
  replace b3:=hx3.blk b3
  replace b6:=hx3.blk b6
  replace hx:=hx.trans hx3
  have hz2:=a0i b2
  have hz3:=a0i b3
  simp [b2,b3,b6,hz2,hz3,l1.plain,l2.plain,l3.plain,l4.plain,l5.plain,n1.cells,n2.cells,n1.plain,n2.plain]
  generalize hS1:Array.setIfInBounds G8 _ _=G9
  generalize hS2:Array.setIfInBounds G9 _ _=G10
  replace b3:=a0p hS1 b3 (by omega)
  refine ⟨by omega,fun _=>⟨_,_,_,(0,a0f (a.V + gk)),rfl,h8,⟨s3,s4,rfl,(n1.setS hS1 b2 (by decide)).setS hS2 b3 (by decide),(n2.setS hS1 b2 (by decide)).setS hS2 b3 (by decide)⟩,?_,?_⟩⟩
  ·show d0b (a0f (a.V + gk))≤300000
   rw [a0J];omega
  ·rw [i1n ha];exact ⟨rfl,hfin _ hS⟩
theorem A0h {rows:List (List b0h)} {e:c0f} {d:List b0T} {i j:Nat} (hi:i < rows.length) (hj:j < rows.length):c0k rows e d (i:Int)=c0k rows e d (j:Int):=by
 unfold c0k
 rw [show decide (0≤(i:Int))=true by simp,show decide (0≤(j:Int))=true by simp,show decide ((i:Int) < rows.length)=true by simp;omega,show decide ((j:Int) < rows.length)=true by simp;omega]
def g1j (rows:List (List b0h)) (e:c0f) (d:List b0T) (r:Value) (H':a0e):Prop :=
 ∃ l c xs,r=.tuple #[l,.int .i64 c]∧c0I H' l xs ∧
  if rows=[] ∨ c0k rows e d 0=true then c=0∧xs.length=rows.length∧∀ i (h:i < xs.length),n0C rows e d i (e.set.length + e.m.toNat) xs[i]∧d0b xs[i].2≤300000 else c=1∧xs=[]
def M0H (H:a0e) (rows:List (List b0h)) (e:c0f) (d:List b0T) (s u:Value) (ec:List Value) (i:Nat) (ρ:Nat→Value) (G:a0e):Prop :=
 ρ 2=u∧ρ 3=.pointer (some ⟨H.size,0,none⟩)∧ρ 4=.pointer (some ⟨H.size + 1,0,none⟩)∧Ext H G∧a0e.blk G H.size=.row false a0L [s]∧a0e.blk G (H.size + 1)=.row false b0H ec ∧
  ∃ xs,xs.length=i∧b0d PE H.size G a0F 5 (ρ 8) xs∧(∀ j (h:j < xs.length),n0C rows e d j (e.set.length + e.m.toNat) xs[j]∧d0b xs[j].2≤300000)∧(0 < i→c0k rows e d 0=true)
theorem i0G {rows:List (List b0h)} {e:c0f} {d:List b0T} (ht:d0q H v rows) (he:j0f H w e) (hd:c0I H u d) (hf:fl≤H.size) (hF:J0F rows e d) :
  a0S env fl W0X [v,w,u] H (fun r H'=>g1j rows e d r H'∧Ext H H') R:=by
 have hrl:=hF.rl
 have ht0:=ht;have he0:=he
 obtain ⟨s,rfl,hs⟩:=ht
 obtain ⟨f,t,sG,sS,sP,rfl,hG,hS,hPc,hPp⟩:=he
 refine a0g g1t hf (h:=?_)
 intro ρ h0
 simp [b1K,N0l,N0m,h0,hs.cells,hG.cells,hS.cells,hPc]
 generalize hGG:Array.push (Array.push H _) _=G
 obtain ⟨hx,b0,b1⟩:=push2 hGG
 clear hGG
 simp [N0n,b0,hs.slen]
 refine c0W (n:=rows.length) (M0H H rows e d s u [.int .i64 f,.int .i64 t,.int .i64 e.m,sG,sS,sP]) rfl rfl (by decide) (by omega) (by simp) (by simp) ?_ ?_ ?_ ?_
 ·exact ⟨by simp [h0],by simp,by simp,hx,b0,b1,[],rfl,by simpa using b0d.nil,by simp,by simp⟩
 ·intro i ρ ρ' G h hI;simpa [M0H,h] using hI
 ·clear h0 ρ hx b0 b1 G
  rintro i ρ G hi gi gn ⟨g2,g3,g4,hx,b0,b1,xs,hxl,ho,hxs,hask⟩
  obtain ⟨sl,g8⟩:∃ s,ρ 8=s:=⟨_,rfl⟩
  rw [g8] at ho
  simp [N0o,N0p,gi,g2,g3,g4,b0,b1]
  refine (i0H (row:=(i:Int)) (ht0.mono hx) (he0.mono hx) (hd.mono b0N hx) hx.1 hF).mono ?_
  rintro _ G2 ⟨⟨x,a,c,xe,rfl,h8,kx,hxz,hcase⟩,hx2⟩
  obtain ⟨c1,c2,c3,c4,c5,c6,c7,c8,rfl,p1,p2,p3,p4,p5,p6,p7,p8⟩:=h8
  obtain ⟨s1,s2,rfl,q1,q2⟩:=kx
  replace ho:=ho.mono b0N hx2
  replace b0:=hx2.blk b0
  replace b1:=hx2.blk b1
  replace hx:=hx.trans hx2
  clear hx2
  have hsz:=hx.1
  simp [q1.cells,q2.cells,q1.plain,q2.plain,p1,p2,p3,p4,p5,p6,p7,p8,hsz,show H.size≤G2.size + 1 by omega]
  generalize hGG:Array.setIfInBounds (Array.setIfInBounds (Array.push (Array.push _ _) _) _ _) _ _=G3
  obtain ⟨hx2,b4,_⟩:=V0z hGG
  clear hGG
  replace ho:=ho.mono b0N hx2
  replace b0:=hx2.blk b0
  replace b1:=hx2.blk b1
  replace hx:=hx.trans hx2
  replace q1:=q1.mono hx2
  replace q2:=q2.mono hx2
  clear hx2
  have ha0:c0k rows e d (i:Int)=c0k rows e d 0:=A0h (j:=0) hi (by omega)
  by_cases ha:c0k rows e d 0=true
  ·rw [i1n (by rw [ha0];exact ha)] at hcase
   obtain ⟨rfl,hsup⟩:=hcase
   simp [D0d]
   obtain ⟨v',G5,h1,h2,h3,h4⟩:=b0d.app (P:=PE) (sz:=5) (e:=a0F) (by decide) (fun G' cs x _ hl h=>f0J.lx h hl) ho (e2:=a0F) (c:=1) (bytes:=72) (new:=[.int .i64 xe.1,.bool xe.2.1.1,s1,.bool xe.2.2.1,s2]) (x:=xe) ⟨s1,s2,rfl,q1,q2⟩ rfl (by simp [q1.plain,q2.plain]) (by omega) (by omega) (by omega) hx.1
   have hA:=hx
   have nA0:=ho.ne b0 (by decide)
   have nA1:=ho.ne b1 (by decide)
   simp [N0r,g8,b4,h1,q1.cells,q2.cells]
   refine Rnd.mk (by simp [gi]) (by simp [gn]) ⟨by simp [g2],by simp [g3],by simp [g4],h4 _ (i1j _) hx,(h3.2 _ (a0i b0) nA0).trans b0,(h3.2 _ (a0i b1) nA1).trans b1,xs ++ [xe],by simp [hxl],b0d.cast (v':=v') (by simp) h2,fun j hj=>?_,fun _=>ha⟩
   by_cases hjl:j < xs.length
   ·rw [j1a hjl];exact hxs j hjl
   ·have:j=i:=by simp at hj;omega
    subst this
    rw [i1J (by omega)]
    simp only [hxl,l1i,List.getElem_cons_zero]
    exact ⟨by simpa using hsup,hxz⟩
  ·rw [i1k (by rw [ha0];exact ha)] at hcase
   obtain ⟨rfl,_⟩:=hcase
   simp [D0d,N0q]
   have hne:¬ (rows=[] ∨ c0k rows e d 0=true):=by
    rintro (h | h)
    ·subst h;simp at hi
    ·exact ha h
   exact fun _=>⟨_,_,[],rfl,Sls.nil,by rw [i1k hne];exact ⟨rfl,rfl⟩⟩
 ·clear h0 ρ hx b0 b1 G
  rintro ρ G gi gn ⟨g2,g3,g4,hx,b0,b1,xs,hxl,ho,hxs,hask⟩
  obtain ⟨sl,g8⟩:∃ s,ρ 8=s:=⟨_,rfl⟩
  rw [g8] at ho
  simp [D0c,g8]
  refine fun _=>⟨_,_,xs,rfl,ho.sls,?_⟩
  rw [i1n (by
   by_cases h:rows=[]
   ·exact .inl h
   ·exact .inr (hask (by have:=l1d.2 h;omega)))]
  exact ⟨rfl,hxl,hxs⟩
end
section
open Go SX
set_option maxHeartbeats 1000000
def shE (s k:Int):c0f:=⟨0,[],[⟨[a0k s],[],a0k k⟩]⟩
theorem y0d {z:Int}:vQ (a0k z)=(z:Rat):=by unfold vQ;rw [a0j]
theorem J0f {s k:Int} {z:Nat→Rat} {row:Nat} (hr:row < 2):n0X ((c0d 1 1).getD row []) (shE s k) 1 z=((if row=0 then 1 else -1:Int):Rat) * ((s:Rat) * z 0 + (k:Rat)):=by
 have e:(c0d 1 1).getD row []=g0f 1 0 (if row=0 then 1 else -1):=by simpa using o0z (n:=1) (i:=0) (m:=1) hr (by decide)
 have h1:U0y ((shE s k).set.getD 0 aff0) 1 z=(s:Rat) * z 0 + (k:Rat):=by
  show rs (fun j=>vQ (([a0k s] ++ []:List _).getD j iz) * z j) 1 + vQ (a0k k)=_
  rw [rs,rs,Rat.zero_add,y0d]
  show vQ (a0k s) * z 0 + _=_
  rw [y0d]
 unfold n0X
 rw [e]
 have:=J0b (n:=1) (i:=0) (p:=if row=0 then 1 else -1) (f:=fun i=>U0y ((shE s k).set.getD i aff0) 1 z) (by decide)
 rw [h1] at this
 exact this
end
section
open Go
set_option maxHeartbeats 4000000
variable {fl:Nat} {H G:a0e} {R:a0E} {v w u:Value}
theorem y0R {n m:Nat}:∀ r ∈ c0d n m,Few 6 r:=by
 intro r hr
 have h1:∀ z:Int,-1≤z→z≤1→d0b (a0f (z:Rat))≤6:=fun z h1 h2=>by
  rw [a0J,r0q]
  have:=s0t (z:=z) (k:=1) (by omega)
  omega
 obtain ⟨i,_,h | h⟩:=h0S hr
 all_goals
  rw [h]
  intro x hx
  unfold g0f at hx
  obtain ⟨j,_,rfl⟩:=j1e.1 hx
  refine ⟨h1 _ ?_ ?_,c0l _,c0l _⟩
  all_goals (split;omega;split <;> omega)
theorem g0g {n:Int} (hf:fl≤H.size):a0S env fl U0V [.int .i64 n] H (fun r H'=>r=.int .i64 n∧Ext H H') R:=by
 refine a0g g1v hf (h:=?_)
 intro ρ h0
 simp [b1M,N0B,N0C,h0]
theorem Sls.atX {α:Type} {P:a0e→List Value→α→Prop} {e sz:Nat} {l:List α} (h:Sls P H e sz v l) {j:Nat} (hj:j < l.length) (hs:0 < sz) :
  ∃ b o cs,adr sz v j=.pointer (some ⟨b,o,none⟩)∧cs.length=sz∧P H cs l[j] ∧
   ∀ G,Ext H G→(∀ k n,k + n≤sz→0 < n→rdn (a0e.blk G b) (o + k) n=some (.agg ((cs.drop k).take n).toArray))∧∀ k,k < sz→rd (a0e.blk G b) (o + k)=some (cs.getD k undef):=by
 obtain ⟨cs,⟨hl,h1⟩,h2⟩:=h
 have h3:=h2 j hj
 rcases h1 with ⟨rfl,h1⟩ | ⟨b,off,cap,ro,cells,rfl,hb,ho,rfl⟩
 ·omega
 ·have hj2:(j + 1) * sz≤l.length * sz:=i1r sz hj
  rw [i1D,i1W] at hj2
  have e1:(((cells.drop off).take (l.length * sz)).drop (j * sz)).take sz=(cells.drop (off + j * sz)).take sz:=by
   rw [k1B,k1q,j1S,j1g (by omega)]
  rw [e1] at h3
  refine ⟨b,off + j * sz,_,rfl,by simp;omega,h3,fun G hx=>⟨fun k n hk hn=>?_,fun k hk=>?_⟩⟩
  ·rw [hx.blk hb,I0V,i1n (by omega),k1B,k1q,j1S,j1g (by omega)]
  ·rw [hx.blk hb,T0Y,i1h,j1u,i1n (by omega),j1z,i1m (by omega)];rfl
def d1l (l:List (Bool × List Nat)):Prop:=∀ x ∈ l,x.2.length≤40
theorem i0I {l:List (Bool × List Nat)} (h:e0X H v l) (hf:fl≤H.size) (hl:l.length < 1073741824):a0S env fl V0i [v] H (fun r H'=>(∃ c,r=.bool c∧(c=false→d1l l))∧Ext H H') R:=by
 refine a0g g1z hf (h:=?_)
 intro ρ h0
 simp [b1O,N0X,N0Y,h0]
 refine e0L (fun n ρ G=>ρ 0=v∧ρ 3=.int .i64 (n:Int)∧G=H∧d1l (l.take n)) l.length (by decide) (by simp [h0,d1l]) ?_
 clear h0 ρ
 rintro n ρ G hn1 ⟨g0,g3,rfl,hpre⟩
 simp [N0Z,g0,g3,h.slen]
 refine g0a.mk (by simp) (fun hlt=>?_) (fun heq=>?_)
 ·obtain ⟨b,o,cs,ha,hcl,⟨s,hcs,hs⟩,hat⟩:=h.atX hlt (by decide)
  have hcs2:cs=[.bool l[n].1,s]:=by simpa using l1m (fun v=>match v with | Value.agg a=>a.toList | _=>[]) hcs
  subst hcs2
  have c1:=(hat _ (Ext.refl _)).2 1 (by decide)
  simp at c1
  by_cases h1:40 < l[n].2.length
  ·have h1':(40:Int) < (l[n].2.length:Int):=by omega
   simp [G0w,g0,g3,h.ia hlt,ha,c1,hs.slen,h1,h1',O0a]
  ·have h1':¬ (40:Int) < (l[n].2.length:Int):=by omega
   simp [G0w,g0,g3,h.ia hlt,ha,c1,hs.slen,h1,h1']
   unfold i0c
   simp [O0b,g3,b0G (show n < 4611686018427387904 by omega)]
   refine d0k.mk ⟨by simp [g0],by simp,rfl,fun x hx=>?_⟩
   rw [i1B hlt] at hx
   rcases i1F.1 hx with hx | hx
   ·exact hpre x hx
   ·rw [k1a.1 hx];omega
 ·subst heq
  rw [i1x] at hpre
  simp [O0c]
  exact hpre
theorem w0x {a:Bool × List Nat} {p c:Nat} {ro:Bool} {s:Value} (hb:H.blk p=.row ro a0a [.bool a.1,s]) (h:Lim H s a.2):e0X H (.slice (some ⟨p,0,none⟩) 1 c) [a]:=by
 refine ⟨[.bool a.1,s],⟨rfl,.inr ⟨p,0,c,ro,_,rfl,hb,by simp,by simp⟩⟩,fun j hj=>?_⟩
 have:j=0:=by simpa using hj
 subst this
 exact ⟨s,rfl,h⟩
def K0w (a:f0H):Prop:=v0U a∧a.X.length≤60∧a.W.length≤60
theorem r0R {l:List f0H} (h:h0b H v l) (hf:fl≤H.size) (hl:l.length < 1073741824):a0S env fl V0k [v] H (fun r H'=>(∃ c,r=.bool c∧(c=false→∀ a ∈ l,K0w a))∧Ext H H') R:=by
 refine a0g g1T hf (h:=?_)
 intro ρ h0
 simp [c1i,P0I,P0J,h0]
 refine e0L (fun n ρ G=>ρ 0=v∧ρ 3=.int .i64 (n:Int)∧Ext H G∧∀ a ∈ l.take n,K0w a) l.length (by decide) (by simp [h0]) ?_
 clear h0 ρ
 rintro n ρ G hn1 ⟨g0,g3,hx,hpre⟩
 have k:=h.mono c0g hx
 simp [P0K,g0,g3,k.slen]
 refine g0a.mk (by simp) (fun hlt=>?_) (fun heq=>?_)
 ·obtain ⟨b,o,cs,ha,hcl,⟨sX,sW,s,hcs,kX,kW,kK⟩,hat⟩:=k.atX hlt (by decide)
  have hcs2:cs=[sX,sW,.bool l[n].K.1,s]:=by simpa using l1m (fun v=>match v with | Value.agg a=>a.toList | _=>[]) hcs
  subst hcs2
  have c0:=(hat _ (Ext.refl _)).2 0 (by decide)
  have c1:=(hat _ (Ext.refl _)).2 1 (by decide)
  have c2:=(hat _ (Ext.refl _)).1 2 2 (by decide) (by decide)
  simp at c0 c1 c2
  by_cases h1:60 < l[n].X.length
  ·have h1':(60:Int) < (l[n].X.length:Int):=by omega
   simp [x0J,g0,g3,k.ia hlt,ha,c0,kX.slen,h1,h1',p0r]
  have h1':¬ (60:Int) < (l[n].X.length:Int):=by omega
  by_cases h2:60 < l[n].W.length
  ·have h2':(60:Int) < (l[n].W.length:Int):=by omega
   simp [x0J,g0,g3,k.ia hlt,ha,c0,c1,kX.slen,kW.slen,h1,h1',h2,h2',p0r]
  have h2':¬ (60:Int) < (l[n].W.length:Int):=by omega
  simp [x0J,g0,g3,k.ia hlt,ha,c0,c1,c2,kX.slen,kW.slen,h1,h1',h2,h2']
  generalize hGG:Array.push G _=G1
  obtain ⟨hx2,b0⟩:=g0R hGG
  clear hGG
  refine (i0I (w0x b0 (kK.mono hx2)) (by have:=hx.1;have:=hx2.1;omega) (by simp)).mono ?_
  rintro _ G2 ⟨⟨c,rfl,hc1⟩,hx3⟩
  replace hx2:=hx2.trans hx3
  cases c
  case true=>simp [p0r]
  have d0:=(hat _ hx2).2 0 (by decide)
  simp at d0
  simp [g0,g3,k.ia hlt,ha,d0]
  refine (i0I (kX.mono c0L hx2) (by have:=hx.1;have:=hx2.1;omega) (by omega)).mono ?_
  rintro _ G3 ⟨⟨c,rfl,hc2⟩,hx3⟩
  replace hx2:=hx2.trans hx3
  cases c
  case true=>simp [p0r]
  have d1:=(hat _ hx2).2 1 (by decide)
  simp at d1
  simp [g0,g3,k.ia hlt,ha,d1]
  refine (i0I (kW.mono c0L hx2) (by have:=hx.1;have:=hx2.1;omega) (by omega)).mono ?_
  rintro _ G4 ⟨⟨c,rfl,hc3⟩,hx3⟩
  replace hx2:=hx2.trans hx3
  cases c
  case true=>simp [p0r]
  simp
  unfold i0c
  simp [P0L,g3,b0G (show n < 4611686018427387904 by omega)]
  refine d0k.mk ⟨by simp [g0],by simp,hx.trans hx2,fun x hx=>?_⟩
  rw [i1B hlt] at hx
  rcases i1F.1 hx with hx | hx
  ·exact hpre x hx
  ·rw [k1a.1 hx]
   have hK:=hc1 rfl _ (k1a.2 rfl)
   exact ⟨⟨fun x hx=>⟨hc2 rfl x hx,kX.lim x hx⟩,fun x hx=>⟨hc3 rfl x hx,kW.lim x hx⟩,hK,kK.ok⟩,by omega,by omega⟩
 ·subst heq
  rw [i1x] at hpre
  simp [P0M]
  exact fun _=>hpre
def w0v (e:c0f):Prop:=(∀ a ∈ e.set,K0w a)∧(∀ a ∈ e.guards,K0w a)∧e.guards.length≤100∧e.set.length≤20
theorem r0B {e:c0f} {p c:Nat} {f t:Int} {sG sS sP:Value} (hb:a0e.blk H p=.row false b0H [.int .i64 f,.int .i64 t,.int .i64 e.m,sG,sS,sP]) (hG:h0b H sG e.guards) (hS:h0b H sS e.set) (hf:fl≤H.size) :
  a0S env fl Y0J [.agg #[.slice none 0 0,.slice none 0 0,.slice (some ⟨p,0,none⟩) 1 c,.slice none 0 0]] H (fun r H'=>(∃ c,r=.bool c∧(c=false→w0v e))∧Ext H H') R:=by
 refine a0g g1E hf (h:=?_)
 intro ρ h0
 simp [b1T,O0u,h0]
 generalize hGG:Array.push H _=G
 obtain ⟨hx,b0⟩:=g0R hGG
 clear hGG
 replace hb:=hx.blk hb
 have z0:g0Z (.slice none 0 0)=some (.int .i64 0):=rfl
 have z1:g0Z (.slice (some ⟨p,0,none⟩) 1 c)=some (.int .i64 1):=rfl
 simp [O0v,b0,z0,z1]
 simp [O0w]
 refine e0L (fun n ρ G=>ρ 1=.pointer (some ⟨H.size,0,none⟩)∧ρ 3=.int .i64 (n:Int)∧Ext H G∧a0e.blk G p=.row false b0H [.int .i64 f,.int .i64 t,.int .i64 e.m,sG,sS,sP]∧a0e.blk G H.size=.row false l0K [.slice none 0 0,.slice none 0 0,.slice (some ⟨p,0,none⟩) 1 c,.slice none 0 0]∧(1≤n→w0v e)) 1 (by decide) ?_ ?_
 ·exact ⟨by simp,by simp,hx,hb,b0,fun h=>by omega⟩
 clear h0 ρ hx hb b0 G
 rintro n ρ G hn ⟨g1,g3,hx,hb,b0,hq⟩
 simp [O0x,g1,g3,b0,z1]
 refine g0a.mk (by simp;omega) (fun hlt=>?_) (fun heq=>?_)
 ·have hn0:n=0:=by omega
  subst hn0
  have i0:iaV 6 (.slice (some ⟨p,0,none⟩) 1 c) (.int .i64 0)=some (.pointer (some ⟨p,0,none⟩)):=by simp [iaV]
  have g3':ρ 3=.int .i64 0:=g3
  have kG:=hG.mono c0g hx
  have kS:=hS.mono c0g hx
  have lG:=kG.slen
  have lS:=kS.slen
  by_cases h1:100 < e.guards.length
  ·have h1':(100:Int) < (e.guards.length:Int):=by omega
   simp [x0H,g1,g3',b0,i0,hb,lG,h1,h1',s0Z]
  have h1':¬ (100:Int) < (e.guards.length:Int):=by omega
  by_cases h2:20 < e.set.length
  ·have h2':(20:Int) < (e.set.length:Int):=by omega
   simp [x0H,g1,g3',b0,i0,hb,lG,lS,h1,h1',h2,h2',s0Z]
  have h2':¬ (20:Int) < (e.set.length:Int):=by omega
  simp [x0H,g1,g3',b0,i0,hb,lG,lS,h1,h1',h2,h2']
  refine (r0R kG hx.1 (by omega)).mono ?_
  rintro _ G2 ⟨⟨c1,rfl,hc1⟩,hx2⟩
  replace hb:=hx2.blk hb
  replace b0:=hx2.blk b0
  replace hx:=hx.trans hx2
  cases c1
  case true=>simp [s0Z]
  simp [g1,g3',b0,i0,hb]
  refine (r0R (kS.mono c0g hx2) hx.1 (by omega)).mono ?_
  rintro _ G3 ⟨⟨c1,rfl,hc2⟩,hx2⟩
  replace hb:=hx2.blk hb
  replace b0:=hx2.blk b0
  replace hx:=hx.trans hx2
  cases c1
  case true=>simp [s0Z]
  simp
  unfold i0c
  have w1:IntKind.i64.wrap 1=1:=by decide
  simp [O0y,g3',w1]
  exact d0k.mk ⟨by simp [g1],by simp,hx,hb,b0,fun _=>⟨hc2 rfl,hc1 rfl,by omega,by omega⟩⟩
 ·subst heq
  have hge:=hq (i1j _)
  simp [O0z]
  refine e0L (fun n ρ G=>ρ 1=.pointer (some ⟨H.size,0,none⟩)∧ρ 4=.int .i64 (n:Int)∧a0e.blk G H.size=.row false l0K [.slice none 0 0,.slice none 0 0,.slice (some ⟨p,0,none⟩) 1 c,.slice none 0 0]) 0 (by decide) ?_ ?_
  ·exact ⟨by simp [g1],by simp,b0⟩
  rintro n ρ G hn ⟨g1,g4,b0⟩
  simp [O0A,g1,g4,b0,z0]
  refine g0a.mk (by simp) (fun hlt=>by omega) (fun heq=>?_)
  simp [H0r]
  exact fun _=>hge
theorem r0C {rows:List (List b0h)} {e:c0f} {d:List b0T} (ht:d0q H v rows) (he:j0f H w e) (hd:c0I H u d) (hf:fl≤H.size) :
  a0S env fl f_7 [v,w,u] H (fun r H'=>(∃ c,r=.bool c∧(c=false→B0f rows∧(d.length≤100∧d0y i0Q d=false)∧w0v e))∧Ext H H') R:=by
 obtain ⟨s,rfl,hs⟩:=ht
 obtain ⟨f,t,sG,sS,sP,rfl,hG,hS,hPc,hPp⟩:=he
 refine a0g e_7 hf (h:=?_)
 intro ρ h0
 simp [s_7,a1w,h0,hs.cells,hG.cells,hS.cells,hPc]
 generalize hGG:Array.push (Array.push H _) _=G
 obtain ⟨hx,b0,b1⟩:=push2 hGG
 clear hGG
 simp [a1x,b0]
 refine (t0B (hs.mono d0A hx) hx.1).mono ?_
 rintro _ G2 ⟨⟨c1,rfl,hc1⟩,hx2⟩
 replace b1:=hx2.blk b1
 replace hx:=hx.trans hx2
 cases c1
 case true=>simp
 simp [h0]
 refine (l0G (hd.mono b0N hx) hx.1).mono ?_
 rintro _ G3 ⟨rfl,hx2⟩
 replace b1:=hx2.blk b1
 replace hx:=hx.trans hx2
 by_cases h1:100 < d.length
 ·simp [h1]
 cases h2:d0y i0Q d
 case true=>simp [h1]
 simp [h1,b1,hG.cells,hS.cells,hPc]
 generalize hGG:Array.push G3 _=G4
 obtain ⟨hx2,b2⟩:=g0R hGG
 clear hGG
 replace hx:=hx.trans hx2
 refine (r0B b2 (hG.mono c0g hx) (hS.mono c0g hx) hx.1).mono ?_
 rintro _ G5 ⟨⟨c1,rfl,hc2⟩,hx2⟩
 cases c1
 case true=>simp
 simp
 exact fun _=>⟨hc1 rfl,by omega,hc2 rfl⟩
theorem y0M {rows:List (List b0h)} {e:c0f} (ht:d0q H v rows) (he:j0f H w e) (hf:fl≤H.size) :
  a0S env fl f_8 [v,w] H (fun r H'=>(∃ c,r=.bool c∧(c=true→rows.length≤8∧e.set.length≤3∧e.m≤3∧e.guards.length≤6))∧Ext H H') R:=by
 obtain ⟨s,rfl,hs⟩:=ht
 obtain ⟨f,t,sG,sS,sP,rfl,hG,hS,hPc,hPp⟩:=he
 refine a0g e_8 hf (h:=?_)
 intro ρ h0
 simp [s_8,a1A,h0,hs.cells,hG.cells,hS.cells,hPc]
 generalize hGG:Array.push (Array.push H _) _=G
 obtain ⟨hx,b0,b1⟩:=push2 hGG
 clear hGG
 have l1:=hs.slen
 have l2:=hG.slen
 have l3:=hS.slen
 by_cases h1:rows.length≤8
 ·have h1':(rows.length:Int)≤8:=by omega
  by_cases h2:e.set.length≤3
  ·have h2':(e.set.length:Int)≤3:=by omega
   by_cases h3:e.m≤3
   ·by_cases h4:e.guards.length≤6
    ·have h4':(e.guards.length:Int)≤6:=by omega
     simp [z0u,b0,b1,l1,l2,l3,h1,h1',h2,h2',h3,h4,h4']
    ·have h4':¬ (e.guards.length:Int)≤6:=by omega
     simp [z0u,b0,b1,l1,l2,l3,h1,h1',h2,h2',h3,h4,h4']
   ·simp [z0u,b0,b1,l1,l2,l3,h1,h1',h2,h2',h3]
  ·have h2':¬ (e.set.length:Int)≤3:=by omega
   simp [z0u,b0,b1,l1,l2,l3,h1,h1',h2,h2']
 ·have h1':¬ (rows.length:Int)≤8:=by omega
  simp [z0u,b0,b1,l1,l2,l3,h1,h1']
end
section
open Go SX
set_option maxHeartbeats 4000000
variable {fl:Nat} {H G:a0e} {R:a0E} {v w u:Value}
theorem J0U {a:f0H} {p c:Nat} {ro:Bool} {sX sW s:Value} (hb:a0e.blk H p=.row ro f0K [sX,sW,.bool a.K.1,s]) (hX:e0X H sX a.X) (hW:e0X H sW a.W) (hK:Lim H s a.K.2):h0b H (.slice (some ⟨p,0,none⟩) 1 c) [a]:=by
 refine ⟨[sX,sW,.bool a.K.1,s],⟨rfl,.inr ⟨p,0,c,ro,_,rfl,hb,by simp,by simp⟩⟩,fun j hj=>?_⟩
 have:j=0:=by simpa using hj
 subst this
 exact ⟨sX,sW,s,rfl,hX,hW,hK⟩
theorem f1C {z1 z2 r2:Blk} {G3:a0e} (hN:Array.setIfInBounds (Array.push (Array.push G z1) z2) (G.size + 1) r2=G3):Ext G G3∧a0e.blk G3 G.size=z1∧a0e.blk G3 (G.size + 1)=r2:=by
 subst hN
 refine ⟨((Ext.refl G).push.push).set (by omega),?_,?_⟩
 ·rw [a0W (by omega)];simp [a0K]
 ·rw [a0z (by simp)]
theorem a1L {s k:Int} (hs:s=1 ∨ s = -1) (h1:-4294967296 < k) (h2:k < 4294967296):l0e (shE s k):=by
 have e1:∀ z:Int,-4294967296 < z→z < 4294967296→(a0k z).2.length≤40:=fun z h1 h2=>by
  have:=s0t (z:=z) (k:=1) (by omega)
  show lz z≤40
  omega
 refine ⟨fun a ha=>?_,fun a ha=>by simp [shE] at ha,by simp [shE],by simp [shE],by simp [shE]⟩
 have:a = ⟨[a0k s],[],a0k k⟩:=by simpa [shE] using ha
 subst this
 exact ⟨fun x hx=>by rw [k1a.1 hx];exact ⟨e1 s (by omega) (by omega),c0l _⟩,fun x hx=>by simp at hx,e1 k h1 h2,c0l _⟩
theorem M0v {s k:Int} {d:List b0T} {row:Nat} (hd:d.length=2) (hm:∀ x ∈ d,i0R x=true) (hr:row < 2):c0k (c0d 1 1) (shE s k) d (row:Int)=true:=by
 have hv:=A0n (n:=1) (lo:=fun _=>0) (hi:=fun _=>0) (by decide)
 unfold f0i at hv
 simp only [i1y,j1n] at hv
 have hrow:((row:Nat):Int) < ((c0d 1 1).length:Int):=by rw [d0Q];omega
 have hany:d0y (fun e=>!i0R e) d=false:=List.any_eq_false.2 fun x hx=>by rw [hm x hx];decide
 have f1:k0f (shE s k).set 1 0=true:=by unfold k0f d0y;simp [shE]
 have f2:k0f (shE s k).guards 1 0=true:=by unfold k0f d0y;simp [shE]
 unfold c0k f0i
 show (l0b (c0d 1 1) ((1:Nat):Int) && decide (d.length=(c0d 1 1).length) && !d0y (fun e=>!i0R e) d && decide (0≤((row:Nat):Int)) && decide (((row:Nat):Int) < ((c0d 1 1).length:Int)) && decide ((0:Int)≤0) && k0f (shE s k).set 1 0 && k0f (shE s k).guards 1 0)=true
 rw [hv.1.1,hany,f1,f2,decide_eq_true hrow,decide_eq_true (show (0:Int)≤((row:Nat):Int) by omega),decide_eq_true (show d.length=(c0d 1 1).length by rw [d0Q,hd])]
 rfl
theorem h1Y {s k:Int} {d:List b0T} (hs:l0e (shE s k)) (hl:d.length=2) (hd:∀ x ∈ d,d0b x.2≤6∧b0a x.2.1.2∧b0a x.2.2.2):J0F (c0d 1 1) (shE s k) d :=
 ⟨hs,by rw [d0Q];decide,fun r hr=>⟨y0R r hr,by obtain ⟨k,_,h | h⟩:=h0S hr <;> (rw [h,s0m];decide)⟩,hd,by omega⟩
def awD:List b0T:=[(0,a0f ((3:Int):Rat)),(1,c0o)]
theorem Y0i:n0C (c0d 1 1) (shE 1 1) awD 0 1 (0,a0f ((4:Int):Rat)):=by
 have hsem:∀ z,y0m (c0d 1 1) (shE 1 1) awD 1 z ↔ z 0≤((3:Int):Rat):=fun z=>by
  have e:c0d 1 1=[g0f 1 0 1,g0f 1 0 (-1)]:=rfl
  have r1:∀ p:Int,f1P (g0f 1 0 p) 1 z=(p:Rat) * z 0:=fun p=>J0b (f:=z) (by decide)
  unfold y0m
  rw [e]
  simp only [shE,awD,List.zip_cons_cons,List.zip_nil_right,j1M,List.not_mem_nil,or_false,forall_eq_or_imp,forall_eq,i1Y,List.length_nil,i1P,a0w,true_implies]
  rw [r1]
  have h1:((1:Int):Rat) * z 0=z 0:=by rw [Rat.intCast_one,Rat.one_mul]
  rw [h1]
  simp
 refine .inr ⟨by simp [awD,d0y],.inl ⟨_,rfl,⟨fun _=>((3:Int):Rat),(hsem _).2 Rat.le_refl,?_⟩,fun z hz=>?_⟩⟩
 ·rw [J0f (by decide)];simp only [i1X];push_cast;grind
 ·have:=(hsem z).1 hz
  rw [J0f (by decide)];simp only [i1X];push_cast at this ⊢;grind
theorem J0X:c0k (c0d 1 1) (shE 1 1) awD 0=true:=by
 refine M0v (row:=0) rfl (fun x hx=>?_) (by decide)
 have:x=(0,a0f ((3:Int):Rat)) ∨ x=(1,c0o):=by simpa [awD] using hx
 rcases this with rfl | rfl
 ·unfold i0R;simp [f0O]
 ·unfold i0R;simp [i0a]
theorem g1s:J0F (c0d 1 1) (shE 1 1) awD:=by
 refine h1Y (a1L (.inl rfl) (by decide) (by decide)) rfl (fun x hx=>?_)
 have:x=(0,a0f ((3:Int):Rat)) ∨ x=(1,c0o):=by simpa [awD] using hx
 rcases this with rfl | rfl
 ·refine ⟨?_,c0l _,c0l _⟩
  show d0b (a0f ((3:Int):Rat))≤6
  rw [a0J,r0q]
  have:=s0t (z:=3) (k:=1) (by omega)
  omega
 ·exact ⟨by decide,fun x hx=>by simp [c0o] at hx,fun x hx=>by simp [c0o] at hx⟩
theorem c0a (hf:fl≤H.size):a0S env fl f_9 [] H (fun r H'=>r=.bool true∧Ext H H') R:=by
 refine a0g e_9 hf (h:=?_)
 intro ρ h0
 simp [s_9,a1B,a1C]
 refine (f0U (n:=1) (i1j _) (by decide) (by decide)).mono ?_
 rintro _ G2 ⟨⟨s1,rfl,m1⟩,hx⟩
 simp [m1.cells]
 generalize hGG:Array.push G2 _=G3
 obtain ⟨hx2,b1⟩:=g0R hGG
 clear hGG
 have kX:=w0x (c:=1) b1 (m1.mono hx2)
 replace hx:=hx.trans hx2
 refine (f0U (n:=1) hx.1 (by decide) (by decide)).mono ?_
 rintro _ G4 ⟨⟨s2,rfl,m2⟩,hx2⟩
 replace kX:=kX.mono c0L hx2
 replace hx:=hx.trans hx2
 clear hx2 b1 m1
 have hsz:=hx.1
 simp [m2.cells,show H.size≤G4.size + 1 by omega]
 generalize hGG:Array.setIfInBounds (Array.push (Array.push _ _) _) _ _=G6
 obtain ⟨hx2,b2,b3⟩:=f1C hGG
 clear hGG
 have kS:h0b G6 (.slice (some ⟨G4.size,0,none⟩) 1 1) (shE 1 1).set:=J0U (a:=⟨[a0k 1],[],a0k 1⟩) b2 (kX.mono c0L hx2) Sls.nil (m2.mono hx2)
 replace hx:=hx.trans hx2
 obtain ⟨P,hP⟩:∃ P,P=G4.size + 1:=⟨_,rfl⟩
 rw [← hP] at b3 ⊢
 clear hx2 b2 m2 kX
 obtain ⟨vs,hvs⟩:∃ x,x=Value.slice (some ⟨G4.size,0,none⟩) 1 1:=⟨_,rfl⟩
 rw [← hvs] at b3 kS ⊢
 refine a0G ?_
 simp [a1D]
 refine (k0u (n:=1) (m:=1) (by have:=hx.1;omega) (by decide)).mono ?_
 rintro vT G7 ⟨kT,hx2⟩
 replace b3:=hx2.blk b3
 replace kS:=kS.mono c0g hx2
 replace hx:=hx.trans hx2
 clear hx2
 simp [b3]
 refine (g0z (n:=3) (by have:=hx.1;omega) (by decide) (by decide)).mono ?_
 rintro _ G8 ⟨⟨s3,s4,rfl,m3,m4⟩,hx2⟩
 replace kT:=kT.mono hx2
 replace kS:=kS.mono c0g hx2
 replace hx:=hx.trans hx2
 clear hx2 b3
 simp [m3.cells,m4.cells]
 generalize hGG:Array.push G8 _=G9
 obtain ⟨hx2,b4⟩:=g0R hGG
 clear hGG
 have hd:c0I G9 (.slice (some ⟨G8.size,0,none⟩) 2 2) awD:=by
  refine ⟨_,(Own.mk (fl:=0) (n:=2) (sz:=5) b4 rfl (j1l _)).sl,fun k hk=>?_⟩
  match k,hk with
  | 0,_=>exact ⟨s3,s4,rfl,m3.mono hx2,m4.mono hx2⟩
  | 1,_=>exact ⟨_,_,rfl,Lim.nil,Lim.nil⟩
 replace kT:=kT.mono hx2
 replace kS:=kS.mono c0g hx2
 replace hx:=hx.trans hx2
 refine (i0H (e:=shE 1 1) (row:=0) kT ⟨0,0,.slice none 0 0,vs,.slice none 0 0,rfl,Sls.nil,kS,rfl,rfl⟩ hd (by have:=hx.1;have:=a0i b4;omega) g1s).mono ?_
 rintro _ G10 ⟨⟨x,a,c,xe,rfl,h8,kx,hxz,hcase⟩,hx2⟩
 rw [i1n J0X] at hcase
 obtain ⟨rfl,hsup⟩:=hcase
 have hxe:xe=(0,a0f ((4:Int):Rat)):=n0C.unique hsup Y0i
 subst hxe
 obtain ⟨c1,c2,c3,c4,c5,c6,c7,c8,rfl,p1,p2,p3,p4,p5,p6,p7,p8⟩:=h8
 obtain ⟨s5,s6,rfl,q1,q2⟩:=kx
 replace hx:=hx.trans hx2
 have hsz:=hx.1
 clear hx2 hd kT kS m3 m4 b4
 simp [q1.cells,q2.cells,q1.plain,q2.plain,p1,p2,p3,p4,p5,p6,p7,p8,hsz,show H.size≤G10.size + 1 by omega]
 generalize hGG:Array.setIfInBounds (Array.setIfInBounds (Array.push (Array.push _ _) _) _ _) _ _=G11
 obtain ⟨hx2,b5,_⟩:=V0z hGG
 clear hGG
 replace hx:=hx.trans hx2
 replace q1:=q1.mono hx2
 replace q2:=q2.mono hx2
 refine a0G ?_
 simp [a1E,b5]
 refine (g0g hx.1).mono ?_
 rintro _ G12 ⟨rfl,hx3⟩
 replace b5:=hx3.blk b5
 replace hx:=hx.trans hx3
 replace q1:=q1.mono hx3
 replace q2:=q2.mono hx3
 simp [b5]
 refine (g0z (n:=4) (by have:=hx.1;omega) (by decide) (by decide)).mono ?_
 rintro _ G13 ⟨⟨s7,s8,rfl,m3,m4⟩,hx3⟩
 replace hx:=hx.trans hx3
 replace q1:=q1.mono hx3
 replace q2:=q2.mono hx3
 simp
 refine (r0E (a:=a0f ((4:Int):Rat)) (b:=a0f ((4:Int):Rat)) ⟨s5,s6,rfl,q1,q2⟩ ⟨s7,s8,rfl,m3,m4⟩ hx.1 (by have:d0b (a0f ((4:Int):Rat))≤300000:=hxz;omega)).mono ?_
 rintro _ G14 ⟨rfl,hx3⟩
 simp
theorem Rats.notlong {l:List b0h} (h:b0v H v l) (k:d0y g0Q l=false):Few 6 l:=by
 intro y hy
 obtain ⟨i,hi,rfl⟩:=j1v hy
 obtain ⟨w,_,s,t,_,h1,h2⟩:=b0v.load h hi
 have h3:=List.any_eq_false.1 k _ hy
 unfold g0Q at h3
 simp at h3
 exact ⟨by unfold d0b;omega,h1.ok,h2.ok⟩
theorem Rows.notlong {l:List (List b0h)} (h:e0Y H v l) (k:B0f l):∀ r ∈ l,Few 6 r:=by
 intro r hr
 obtain ⟨i,hi,rfl⟩:=j1v hr
 obtain ⟨w,_,hk⟩:=e0Y.load h hi
 exact Rats.notlong hk (k.2 _ hr).2
theorem Exts.notlong {l:List b0T} (h:c0I H v l) (k:d0y i0Q l=false):∀ x ∈ l,d0b x.2≤6∧b0a x.2.1.2∧b0a x.2.2.2:=by
 intro y hy
 obtain ⟨i,hi,rfl⟩:=j1v hy
 obtain ⟨w,_,s,t,_,h1,h2⟩:=c0I.load h hi
 have h3:=List.any_eq_false.1 k _ hy
 unfold i0Q g0Q at h3
 simp at h3
 exact ⟨by unfold d0b;omega,h1.ok,h2.ok⟩
theorem f1t {rows:List (List b0h)} {e:c0f} {d:List b0T} (ht:d0q H v rows) (hd:c0I H u d) (hg:B0f rows∧(d.length≤100∧d0y i0Q d=false)∧w0v e) (hf:rows.length≤8∧e.set.length≤3∧e.m≤3∧e.guards.length≤6):J0F rows e d:=by
 obtain ⟨s,rfl,hs⟩:=ht
 obtain ⟨h1,⟨h2,h3⟩,h4⟩:=hg
 exact ⟨⟨fun a ha=>(h4.1 a ha).1,fun a ha=>(h4.2.1 a ha).1,hf.2.1,hf.2.2.2,hf.2.2.1⟩,hf.1,fun r hr=>⟨Rows.notlong hs h1 r hr,by have:=(h1.2 r hr).1;omega⟩,Exts.notlong hd h3,by omega⟩
end
section
open Go
set_option maxHeartbeats 4000000
variable {fl:Nat} {H G:a0e} {R:a0E} {v w:Value} {a b:List b0T}
theorem u0p (ha:c0I H v a) (hb:c0I H w b) (hf:fl≤H.size) (hfa:y0h a) (hfb:y0h b) (hal:a.length < 1073741824) :
  a0S env fl Y0H [v,w] H (fun r H'=>r=.bool (leE a b)∧Ext H H') R:=by
 refine a0g g1y hf (h:=?_)
 intro ρ h0
 unfold leE
 by_cases hl:a.length=b.length
 ·simp [a1J,G0u,G0v,N0R,h0,ha.slen,hb.slen,hl]
  refine e0L (fun n ρ G=>ρ 0=v∧ρ 1=w∧ρ 5=.int .i64 (n:Int)∧Ext H G∧true ∉ (List.zipWith (fun e f=>decide (0 < n0E (e0d e) (e0d f))) a b).take n) a.length (by decide) (by simp [h0,Ext.refl H]) ?_
  clear h0 ρ
  rintro n ρ G hn1 ⟨g0,g1,g5,hx,hpre⟩
  have ka:=ha.mono b0N hx
  have kb:=hb.mono b0N hx
  simp [N0S,g0,g5,ka.slen]
  refine g0a.mk (by simp) (fun hlt=>?_) (fun heq=>?_)
  ·have hltb:n < b.length:=by omega
   obtain ⟨wa,hla,k0⟩:=c0I.load ka hlt
   obtain ⟨wb,hlb,k1⟩:=c0I.load kb hltb
   simp
   refine a0G ?_
   simp [N0T,g0,g1,g5,ka.ia hlt,kb.ia hltb,hla,hlb]
   refine (i0C k0 k1 hx.1 (hfa _ (i1p hlt)) (hfb _ (i1p hltb))).mono ?_
   rintro _ G2 ⟨rfl,hx2⟩
   replace hx:=hx.trans hx2
   by_cases he:0 < n0E (e0d a[n]) (e0d b[n])
   ·simp [he,N0U]
    intros
    have:(List.zipWith (fun e f=>decide (0 < n0E (e0d e) (e0d f))) a b)[n]'(by simp;omega)=true:=by rw [List.getElem_zipWith];simp [he]
    rw [← this]
    exact i1p _
   ·simp [he]
    unfold i0c
    simp [N0V,g5,b0G (show n < 4611686018427387904 by omega)]
    refine d0k.mk ⟨by simp [g0],by simp [g1],by simp,hx,?_⟩
    rw [y0b hlt hltb,i1F]
    rintro (h | h)
    ·exact hpre h
    ·simp [he] at h
  ·subst heq
   rw [i1v (by simp;omega)] at hpre
   simp [N0W,hpre]
 ·have hl':¬ ((a.length:Int)=(b.length:Int)):=by omega
  simp [a1J,G0u,G0v,N0Q,h0,ha.slen,hb.slen,hl,hl']
theorem q0y (ha:c0I H v a) (hb:c0I H w b) (hf:fl≤H.size) (hfa:y0h a) (hfb:y0h b) (hal:a.length < 1073741824) :
  a0S env fl Y0G [v,w] H (fun r H'=>c0I H' r (List.zipWith n0Z a b)∧Ext H H') R:=by
 refine a0g g1x hf (h:=?_)
 intro ρ h0
 obtain ⟨m,hm⟩:∃ m,m=min a.length b.length:=⟨_,rfl⟩
 simp [b1N,N0K,N0L,N0M,h0]
 refine e0L (fun i ρ G=>ρ 0=v∧ρ 1=w∧ρ 6=.int .i64 (i:Int)∧Ext H G∧b0d PE H.size G a0F 5 (ρ 5) ((List.zipWith n0Z a b).take i)) m (by decide) ⟨by simp [h0],by simp [h0],by simp,Ext.refl H,by simpa using b0d.nil⟩ ?_
 clear h0 ρ
 rintro i ρ G hi1 ⟨g0,g1,g6,hx,ho⟩
 obtain ⟨s,g5⟩:∃ s,ρ 5=s:=⟨_,rfl⟩
 rw [g5] at ho
 have ka:=ha.mono b0N hx
 have kb:=hb.mono b0N hx
 have hst:WR env H.size s0Y (T 32 ρ) G (fun t G'=>∃ ρ',t=T 32 ρ'∧G' = G∧ρ' 16=.bool (decide (i < m))∧∀ k,k < 7→ρ' k=ρ k) R:=by
  by_cases h1:i < a.length
  ·have h1':(i:Int) < (a.length:Int):=by omega
   by_cases h2:i < b.length
   ·have h2':(i:Int) < (b.length:Int):=by omega
    have h3:i < m:=by omega
    simp [s0Y,g0,g1,g6,ka.slen,kb.slen,h1',h2']
    refine ⟨_,rfl,by simp [h1',h2',h3],fun k hk=>?_⟩
    repeat rw [g0L (by omega)]
   ·have h2':¬ (i:Int) < (b.length:Int):=by omega
    have h3:¬ i < m:=by omega
    simp [s0Y,g0,g1,g6,ka.slen,kb.slen,h1',h2']
    refine ⟨_,rfl,by simp [h1',h2',h3],fun k hk=>?_⟩
    repeat rw [g0L (by omega)]
  ·have h1':¬ (i:Int) < (a.length:Int):=by omega
   have h3:¬ i < m:=by omega
   simp [s0Y,g0,g1,g6,ka.slen,kb.slen,h1']
   refine ⟨_,rfl,by simp [h1',h3],fun k hk=>?_⟩
   repeat rw [g0L (by omega)]
 refine hst.mono ?_
 rintro _ _ ⟨ρ',rfl,rfl,q16,q⟩
 have q0:=q 0 (by omega)
 have q1:=q 1 (by omega)
 have q5:=q 5 (by omega)
 have q6:=q 6 (by omega)
 rw [g0] at q0
 rw [g1] at q1
 rw [g5] at q5
 rw [g6] at q6
 clear q hst g0 g1 g5 g6
 refine g0a.mk (by simp [q16]) (fun hi=>?_) (fun heq=>?_)
 ·have hia:i < a.length:=by omega
  have hib:i < b.length:=by omega
  obtain ⟨wa,hla,k0⟩:=c0I.load ka hia
  obtain ⟨wb,hlb,k1⟩:=c0I.load kb hib
  refine a0G ?_
  simp [N0N,q0,q1,q5,q6,ka.ia hia,kb.ia hib,hla,hlb]
  refine (o0i k0 k1 hx.1 (hfa _ (i1p hia)) (hfb _ (i1p hib))).mono ?_
  rintro _ G2 ⟨⟨s1,s2,rfl,k2,k3⟩,hx2⟩
  replace hx:=hx.trans hx2
  replace ho:=ho.mono b0N hx2
  obtain ⟨s',G3,h1,h2,h3,h4⟩:=b0d.app (P:=PE) (sz:=5) (e:=a0F) (by decide) (fun G' cs x _ hl h=>f0J.lx h hl) ho (e2:=a0F) (c:=1) (bytes:=72) (new:=[.int .i64 (n0Z a[i] b[i]).1,.bool (n0Z a[i] b[i]).2.1.1,s1,.bool (n0Z a[i] b[i]).2.2.1,s2]) (x:=n0Z a[i] b[i]) ⟨s1,s2,rfl,k2,k3⟩ rfl (by simp [k2.plain,k3.plain]) (by simp;omega) (by omega) (by omega) hx.1
  simp [q0,q1,q5,q6,h1,k2.cells,k3.cells]
  unfold i0c
  simp [N0O,q6,b0G (show i < 4611686018427387904 by omega)]
  exact d0k.mk ⟨by simp [q0],by simp [q1],by simp,h4 _ (i1j _) hx,b0d.cast (v':=s') (by simp) (by rw [y0b hia hib];exact h2)⟩
 ·subst heq
  rw [hm,i1v (by simp)] at ho
  simp [N0P,q5]
  exact fun _=>ho.sls
end
section
open Go SX
set_option maxHeartbeats 4000000
variable {fl:Nat} {H G:a0e} {R:a0E} {v w u z:Value}
theorem V0v {a b:b0T} (ha:d0b a.2≤6∧b0a a.2.1.2∧b0a a.2.2.2) (hb:d0b b.2≤6∧b0a b.2.1.2∧b0a b.2.2.2):d0b (n0Z a b).2≤6∧b0a (n0Z a b).2.1.2∧b0a (n0Z a b).2.2.2:=by
 have one:∀ {a:b0T},(d0b a.2≤6∧b0a a.2.1.2∧b0a a.2.2.2)→szR (e0d a).2≤6:=fun {a} ha=>by
  have h1:=c0y ha.2.1 ha.2.2
  unfold e0d
  split
  ·split
   ·show szR (b0u a.2)≤6;omega
   ·show szR 0≤6;rw [e0w];decide
  ·show szR 0≤6;rw [e0w];decide
 have can:∀ {x:Int × Rat},szR x.2≤6→d0b (b0A x).2≤6∧b0a (b0A x).2.1.2∧b0a (b0A x).2.2.2:=fun {x} h0=>by
  unfold b0A
  split
  ·exact e0W h0
  ·exact ⟨by show d0b c0o≤6;decide,fun x hx=>by simp at hx,fun x hx=>by simp at hx⟩
 unfold n0Z
 split
 ·exact can (one hb)
 ·exact can (one ha)
theorem b1b {a b:List b0T} (ha:∀ x ∈ a,d0b x.2≤6∧b0a x.2.1.2∧b0a x.2.2.2) (hb:∀ x ∈ b,d0b x.2≤6∧b0a x.2.1.2∧b0a x.2.2.2):∀ x ∈ List.zipWith n0Z a b,d0b x.2≤6∧b0a x.2.1.2∧b0a x.2.2.2:=by
 intro x hx
 obtain ⟨i,hi,rfl⟩:=j1t.1 hx
 rw [List.getElem_zipWith]
 exact V0v (ha _ (i1p _)) (hb _ (i1p _))
theorem Y0p {rows:List (List b0h)} {e:c0f} {d:List b0T} {row N:Nat} {y:b0T} (h':n0C rows e d row N y):¬ 0 < n0E (e0d (-1,c0o)) (e0d y):=by
 rw [l0E]
 rcases h' with ⟨rfl,_⟩ | ⟨_,⟨v,rfl,_⟩ | ⟨rfl,_⟩⟩
 ·rw [l0E];decide
 ·rw [f0A];unfold n0E;simp
 ·rw [h0Z];decide
theorem A0j {rows:List (List b0h)} {e:c0f} {d:List b0T} {row:Int} (h:c0k rows e d row=true):∀ x ∈ d,i0R x=true:=by
 unfold c0k f0i at h
 simp only [i1y] at h
 have h1:d0y (fun e=>!i0R e) d=false:=by simpa using h.1.1.1.1.1.2
 intro x hx
 have:=List.any_eq_false.1 h1 x hx
 simpa using this
theorem K0y {rows:List (List b0h)} {e:c0f} {d b xs ys:List b0T} {N:Nat} (hm:0 < rows.length→∀ x ∈ d,i0R x=true) (hx:xs.length=rows.length) (hy:ys.length=rows.length)
  (h1:∀ i (h:i < xs.length),n0C rows e d i N xs[i]) (h2:∀ i (h:i < ys.length),n0C rows e (List.zipWith n0Z d b) i N ys[i]):leE xs ys=true:=by
 unfold leE
 rw [show (xs.length == ys.length)=true by rw [hx,hy];simp,Bool.true_and,k1e,decide_eq_false_iff_not]
 intro hmem
 obtain ⟨i,hi,hv⟩:=j1t.1 hmem
 rw [List.getElem_zipWith] at hv
 simp only [List.length_zipWith] at hi
 have hlt:=of_decide_eq_true hv
 have hix:i < xs.length:=by omega
 have hiy:i < ys.length:=by omega
 have hm':=hm (by omega)
 cases h0:d0y (fun e=>decide (e.1 < 0)) d with
 | true =>
  have hb:xs[i]=(-1,c0o):=by
   rcases h1 i hix with ⟨h,_⟩ | ⟨h,_⟩
   ·exact h
   ·rw [h0] at h;exact i1A h (by decide)
  rw [hb] at hlt
  exact Y0p (h2 i hiy) hlt
 | false =>
  exact n0C.grows (h1 i hix) (h2 i hiy) (fun z hz=>M0s hm' h0 hz) (fun h=>y0p hm' h) hlt
theorem l0L {rows:List (List b0h)} {e:c0f} {d b:List b0T} (ht:d0q H v rows) (he:j0f H w e) (hd:c0I H u d) (hb:c0I H z b) (hf:fl≤H.size) :
  a0S env fl f_4 [v,w,u,z] H (fun r H'=>r=.bool true∧Ext H H') R:=by
 have ht0:=ht;have he0:=he
 obtain ⟨s,rfl,hs⟩:=ht
 obtain ⟨f,t,sG,sS,sP,rfl,hG,hS,hPc,hPp⟩:=he
 refine a0g e_4 hf (h:=?_)
 intro ρ h0
 simp [s_4,a1c,h0,hs.cells,hG.cells,hS.cells,hPc]
 generalize hGG:Array.push (Array.push H _) _=G
 obtain ⟨hx,b0,b1⟩:=push2 hGG
 clear hGG
 simp [a1d,h0,b0,b1]
 refine (r0C (ht0.mono hx) (he0.mono hx) (hd.mono b0N hx) hx.1).mono ?_
 rintro _ G2 ⟨⟨c,rfl,hc1⟩,hx2⟩
 replace b0:=hx2.blk b0
 replace b1:=hx2.blk b1
 replace hx:=hx.trans hx2
 cases c
 case true =>
  simp [v0E]
  refine (c0a hx.1).mono ?_
  rintro _ G3 ⟨rfl,hx2⟩
  simp
 simp [h0,b0,b1]
 refine (y0M (ht0.mono hx) (he0.mono hx) hx.1).mono ?_
 rintro _ G3 ⟨⟨c,rfl,hc2⟩,hx2⟩
 replace b0:=hx2.blk b0
 replace b1:=hx2.blk b1
 replace hx:=hx.trans hx2
 cases c
 case false =>
  simp [v0E]
  refine (c0a hx.1).mono ?_
  rintro _ G3 ⟨rfl,hx2⟩
  simp
 simp [h0]
 refine (l0G (hb.mono b0N hx) hx.1).mono ?_
 rintro _ G4 ⟨rfl,hx2⟩
 replace b0:=hx2.blk b0
 replace b1:=hx2.blk b1
 replace hx:=hx.trans hx2
 by_cases h1:100 < b.length
 ·simp [h1,v0E]
  refine (c0a hx.1).mono ?_
  rintro _ G3 ⟨rfl,hx2⟩
  simp
 cases h2:d0y i0Q b
 case true =>
  simp [h1,v0E]
  refine (c0a hx.1).mono ?_
  rintro _ G3 ⟨rfl,hx2⟩
  simp
 have hsl:=(hs.mono d0A hx).slen
 by_cases h3:b.length=d.length
 case neg =>
  have h3':¬ (b.length:Int)=(d.length:Int):=by omega
  simp [h0,h1,h3,h3',hb.slen,hd.slen,v0E]
  refine (c0a hx.1).mono ?_
  rintro _ G3 ⟨rfl,hx2⟩
  simp
 have h1d:¬ 100 < d.length:=by omega
 by_cases h6:6 < rows.length
 ·have h6':(6:Int) < (rows.length:Int):=by omega
  simp [h0,h1,h1d,h3,hb.slen,hd.slen,b0,b1,hsl,h6,h6',v0E]
  refine (c0a hx.1).mono ?_
  rintro _ G3 ⟨rfl,hx2⟩
  simp
 have h6':¬ (6:Int) < (rows.length:Int):=by omega
 simp [h0,h1,h1d,h3,hb.slen,hd.slen,b0,b1,hsl,h6,h6',a1e]
 have hF:=f1t ht0 hd (hc1 rfl) (hc2 rfl)
 have hFb:J0F rows e (List.zipWith n0Z d b):=⟨hF.ed,hF.rl,hF.r,b1b hF.dz (Exts.notlong hb h2),by have:=hF.dl;rw [List.length_zipWith];omega⟩
 have hfb:y0h b:=fun x hx=>by have:=(Exts.notlong hb h2 x hx).1;omega
 refine (i0G (ht0.mono hx) (he0.mono hx) (hd.mono b0N hx) hx.1 hF).mono ?_
 rintro _ G5 ⟨⟨l,c,xs,rfl,kl,hcase⟩,hx2⟩
 replace b0:=hx2.blk b0
 replace b1:=hx2.blk b1
 replace hx:=hx.trans hx2
 clear hx2
 simp
 refine a0G ?_
 simp [a1f,h0,b0,b1]
 refine (q0y (hd.mono b0N hx) (hb.mono b0N hx) (by have:=hx.1;omega) hF.fe hfb hF.dl).mono ?_
 rintro vj G6 ⟨kj,hx2⟩
 replace hx:=hx.trans hx2
 replace kl:=kl.mono b0N hx2
 clear hx2
 simp
 refine (i0G (ht0.mono hx) (he0.mono hx) kj hx.1 hFb).mono ?_
 rintro _ G7 ⟨⟨l2,c2,ys,rfl,kl2,hcase2⟩,hx2⟩
 replace hx:=hx.trans hx2
 replace kl:=kl.mono b0N hx2
 clear hx2 b0 b1
 simp [a1g]
 refine (g0g hx.1).mono ?_
 rintro _ G8 ⟨rfl,hx2⟩
 replace hx:=hx.trans hx2
 replace kl:=kl.mono b0N hx2
 replace kl2:=kl2.mono b0N hx2
 clear hx2
 by_cases hc0:c=0
 case neg =>
  simp [hc0,W0h]
  refine (c0a hx.1).mono ?_
  rintro _ G3 ⟨rfl,hx2⟩
  simp
 simp [hc0]
 refine (g0g hx.1).mono ?_
 rintro _ G9 ⟨rfl,hx2⟩
 replace hx:=hx.trans hx2
 replace kl:=kl.mono b0N hx2
 replace kl2:=kl2.mono b0N hx2
 clear hx2
 by_cases hc2:c2=0
 case neg =>
  simp [hc2,W0h]
  refine (c0a hx.1).mono ?_
  rintro _ G3 ⟨rfl,hx2⟩
  simp
 have hok:rows=[] ∨ c0k rows e d 0=true:=by
  by_cases h:rows=[] ∨ c0k rows e d 0=true
  ·exact h
  ·rw [i1k h] at hcase;rw [hcase.1] at hc0;exact i1A hc0 (by decide)
 have hok2:rows=[] ∨ c0k rows e (List.zipWith n0Z d b) 0=true:=by
  by_cases h:rows=[] ∨ c0k rows e (List.zipWith n0Z d b) 0=true
  ·exact h
  ·rw [i1k h] at hcase2;rw [hcase2.1] at hc2;exact i1A hc2 (by decide)
 rw [i1n hok] at hcase
 rw [i1n hok2] at hcase2
 obtain ⟨_,hxl,hxs⟩:=hcase
 obtain ⟨_,hyl,hys⟩:=hcase2
 have fE:∀ {zs:List b0T},(∀ i (h:i < zs.length),d0b zs[i].2≤300000)→y0h zs:=fun {zs} h x hx=>by
  obtain ⟨i,hi,rfl⟩:=j1t.1 hx
  have:=h i hi;omega
 have hle:leE xs ys=true:=K0y (N:=e.set.length + e.m.toNat) (fun hl=>by
  rcases hok with h | h
  ·subst h;simp at hl
  ·exact A0j h) hxl hyl (fun i h=>(hxs i h).1) (fun i h=>(hys i h).1)
 simp [hc2,a1h]
 refine (u0p kl kl2 hx.1 (fE fun i h=>(hxs i h).2) (fE fun i h=>(hys i h).2) (by have:=hF.rl;omega)).mono ?_
 rintro _ G10 ⟨rfl,hx2⟩
 replace hx:=hx.trans hx2
 simp [hle]
 refine (c0a hx.1).mono ?_
 rintro _ G3 ⟨rfl,hx2⟩
 simp
end
section
open Go
variable {H:a0e} {v:Value} {m:Nat} {cs:List Value} {P:Program}
structure j0X (P:Program):Prop where
 t:j0h P
 u64:∃ f g h:Field,P.underlying 64=some (.struct #[f,g,h])∧f.type=54∧g.type=54∧h.type=38
 u54:P.underlying 54=some (.slice 38)
 u25:P.underlying 25=some (.slice 64)
 u26:P.underlying 26=some (.slice 4)
 u28:∃ a b c d e f:Field,P.underlying 28=some (.struct #[a,b,c,d,e,f])∧a.type=3∧b.type=3∧c.type=3∧d.type=25∧e.type=25∧f.type=26
 u21:P.underlying 21=some (.int .i32)
 u61:P.underlying 61=some (.int .i16)
 c38:P.cellsOf 38=2
 c64:P.cellsOf 64=4
theorem M0Y (hP:j0X P) (h:IsT P H (m + 4) 54 [v]):∃ l,e0X H v l:=y0Q hP.u54 hP.c38 (fun cs _ h=>by
 obtain ⟨b,s,l,rfl,hl⟩:=K0A hP.t h
 exact ⟨(b,l),s,rfl,hl⟩) h
theorem m0h {t e:TypeId} (hu:P.underlying t=some (.slice e)) (h:IsT P H (m + 1) t cs):∃ v,cs=[v]∧a0V v=[v]∧a0t v=true:=by
 unfold IsT at h
 rw [hu] at h
 rcases h with h | ⟨b,len,cap,cells,h,_⟩ <;> exact ⟨_,h,rfl,rfl⟩
theorem f1y (hP:j0X P) (h:IsT P H (m + 5) 64 cs):∃ a,J0z H (.agg cs.toArray) a:=by
 obtain ⟨f,g,k,hu,h1,h2,h3⟩:=hP.u64
 unfold IsT at h
 rw [hu] at h
 obtain ⟨parts,rfl,hl,hp⟩:=h
 obtain ⟨p,q,r,rfl⟩:∃ p q r,parts=[p,q,r]:=by
  match parts,hl with
  | [p,q,r],_=>exact ⟨p,q,r,rfl⟩
 have h1':IsT P H (m + 4) 54 p:=by simpa [h1] using hp 0 _ rfl
 have h2':IsT P H (m + 4) 54 q:=by simpa [h2] using hp 1 _ rfl
 obtain ⟨sX,rfl,_⟩:=m0h hP.u54 h1'
 obtain ⟨sW,rfl,_⟩:=m0h hP.u54 h2'
 obtain ⟨X,hX⟩:=M0Y hP h1'
 obtain ⟨W,hW⟩:=M0Y hP h2'
 obtain ⟨b,s,l,rfl,hs⟩:=K0A (m:=m + 1) hP.t (by simpa [h3] using hp 2 _ rfl)
 exact ⟨⟨X,W,(b,l)⟩,sX,sW,s,rfl,hX,hW,hs⟩
theorem M0X (hP:j0X P) (h:IsT P H (m + 6) 25 [v]):∃ l,h0b H v l:=y0Q hP.u25 hP.c64 (fun _ _ h=>f1y hP h) h
theorem U0B (hP:j0X P) (h:IsV P H (m + 7) 28 v):∃ e,j0f H v e:=by
 obtain ⟨a,b,c,d,e,f,hu,h1,h2,h3,h4,h5,h6⟩:=hP.u28
 unfold IsV at h;rw [hu] at h
 obtain ⟨cs,rfl,h⟩:=h
 unfold IsT at h
 rw [hu] at h
 obtain ⟨parts,hc,hl,hp⟩:=h
 obtain ⟨p1,p2,p3,p4,p5,p6,rfl⟩:∃ p1 p2 p3 p4 p5 p6,parts=[p1,p2,p3,p4,p5,p6]:=by
  match parts,hl with
  | [p1,p2,p3,p4,p5,p6],_=>exact ⟨p1,p2,p3,p4,p5,p6,rfl⟩
 obtain ⟨n1,rfl⟩:=q0c (m:=m + 5) hP.t (by simpa [h1] using hp 0 _ rfl)
 obtain ⟨n2,rfl⟩:=q0c (m:=m + 5) hP.t (by simpa [h2] using hp 1 _ rfl)
 obtain ⟨n3,rfl⟩:=q0c (m:=m + 5) hP.t (by simpa [h3] using hp 2 _ rfl)
 have h4':IsT P H (m + 6) 25 p4:=by simpa [h4] using hp 3 _ rfl
 have h5':IsT P H (m + 6) 25 p5:=by simpa [h5] using hp 4 _ rfl
 have h6':IsT P H (m + 6) 26 p6:=by simpa [h6] using hp 5 _ rfl
 obtain ⟨sG,rfl,_⟩:=m0h hP.u25 h4'
 obtain ⟨sS,rfl,_⟩:=m0h hP.u25 h5'
 obtain ⟨sP,rfl,hPc,hPp⟩:=m0h hP.u26 h6'
 obtain ⟨G,hG⟩:=M0X hP h4'
 obtain ⟨S,hS⟩:=M0X hP h5'
 have:cs = #[.int .i64 n1,.int .i64 n2,.int .i64 n3,sG,sS,sP]:=by rw [← Array.toList_inj];simpa using hc
 exact ⟨⟨n3,G,S⟩,n1,n2,sG,sS,sP,by rw [this],hG,hS,hPc,hPp⟩
theorem s0l (hP:j0X P) {vs:List Value} (h:J0A P H 12 [24,28,29,29] vs):∃ u v w x rows e d b,vs=[u,v,w,x]∧d0q H u rows∧j0f H v e∧c0I H w d∧c0I H x b:=by
 obtain ⟨u,v,w,x,rfl,h1,h2,h3,h4⟩:=B0k h
 obtain ⟨t,ht⟩:=J0W (m:=5) hP.t h1
 obtain ⟨e,he⟩:=U0B (m:=5) hP h2
 obtain ⟨d,hd⟩:=A0g (m:=6) hP.t h3
 obtain ⟨b,hb⟩:=A0g (m:=6) hP.t h4
 exact ⟨u,v,w,x,t,e,d,b,rfl,ht,he,hd,hb⟩
theorem W0K:j0X Tryz.prog where
 t:=types
 u64:=⟨_,_,_,Tryz.underlying64,rfl,rfl,rfl⟩
 u54:=Tryz.underlying54
 u25:=Tryz.underlying25
 u26:=by kernel_rfl
 u28:=⟨_,_,_,_,_,_,Tryz.underlying28,rfl,rfl,rfl,rfl,rfl,rfl⟩
 u21:=by kernel_rfl
 u61:=by kernel_rfl
 c38:=by kernel_rfl
 c64:=by kernel_rfl
end
section
open Go
def q0 (tL tS tA tI tB:Nat) (zA:List Value):List a0I :=
 [⟨some 2,none,.box tL (.tmp 0)⟩,⟨some 3,none,.box tS (.tmp 1)⟩,⟨some 4,none,.alloc tA zA⟩,⟨some 5,none,.alloc tI [.int .i64 0]⟩,⟨some 6,none,.alloc tB [.bool false]⟩]
def q1 (fD:FuncId):List a0I:=[⟨some 7,none,.mkfn (.func fD) [] [.tmp 4,.tmp 5,.tmp 6]⟩]
def q2a (nL nS:Nat):List a0I:=[⟨some 9,none,.build [] []⟩,⟨some 10,none,.load true nL (.tmp 2)⟩,⟨some 11,none,.load true nS (.tmp 3)⟩]
def q2b (nA:Nat):List a0I:=[⟨some 8,none,.mv (.tmp 12)⟩,⟨some 13,none,.ext (.tmp 8) 0⟩,⟨some 14,none,.ext (.tmp 8) 1⟩,⟨none,none,.store nA (.tmp 4) (.tmp 13)⟩,⟨none,none,.store 1 (.tmp 5) (.tmp 14)⟩]
def q2c (fS:FuncId):a0I:=⟨some 12,none,.call fS [.tmp 9,.tmp 10,.tmp 11] true⟩
def q3 (nA:Nat):List a0I:=[⟨some 15,none,.load true nA (.tmp 4)⟩,⟨some 16,none,.load false 1 (.tmp 5)⟩,⟨none,none,.store nA (.tmp 4) (.tmp 15)⟩,⟨none,none,.store 1 (.tmp 5) (.tmp 16)⟩,⟨none,none,.store 1 (.tmp 6) (.const (.bool true))⟩]
def qB (nA:Nat) (zA:List Value):List a0I:=[⟨some 5,none,.build zA []⟩,⟨none,none,.store nA (.tmp 0) (.tmp 5)⟩,⟨none,none,.store 1 (.tmp 1) (.const (.int .i64 0))⟩,⟨none,none,.store 1 (.tmp 2) (.const (.bool false))⟩]
structure QF (P:Program) where
 (fQ fD fS:FuncId) (fn fnD:Func) (tL tS tA tI tB:Nat) (zA:List Value) (nL nS:Nat)
 (ops0 ops1 ops2 ops3 opsA opsB:Array Oper) (i0 i1 i2 i3 iA iB:Nat)
 (o1 o2 o3 oA1 oA2:Oper) (bef:List Nat)
 (hfn:P.funcs[fQ]? = some fn)
 (hrun:z0L P fQ=true)
 (body:fn.body=some (.seq (.region i0 ops0 false) (.seq (.region i1 ops1 false) (.seq (.region i2 ops2 false) (.seq (.region i3 ops3 true) .ret)))))
 (np:fn.params.size=2)
 (nt:fn.ntmps=17)
 (res:fn.results.toList.mapM (Y0q P)=some [.cell 4 true zA.length,.cell 5 false 1,.cell 6 false 1])
 (c0:e0i P (.region i0 ops0 false)=some (.reg (q0 tL tS tA tI tB zA)))
 (h1:ops1 = #[o1,o2])
 (o1c:g0N P ops1 true o1=some ⟨some 7,none,.mkfn (.func fD) [] [.tmp 4,.tmp 5,.tmp 6]⟩)
 (o2g:o2.guard=none) (o2d:o2.dst=none) (o2o:o2.op=.defer { callee:=.value (.tmp 7),args:=#[],argTypes:=#[] })
 (c2:e0i P (.region i2 ops2 false)=some (.reg (q2a nL nS ++ q2c fS :: q2b zA.length)))
 (o3i:ops2[3]? = some o3) (o3g:o3.guard=none) (o3d:o3.dst=some 12) (ats:Array TypeId)
 (o3o:o3.op=.call { callee:=.value (.func fS),args:=#[.tmp 9,.tmp 10,.tmp 11],argTypes:=ats })
 (c3:e0i P (.region i3 ops3 true)=some (.draw (q3 zA.length) bef [(1,2)]))
 (nz:zA.length ≠ 0) (zf:zA.all flat=true) (zp:zA.all a0t=true)
 (hfnD:P.funcs[fD]? = some fnD) (runD:z0L P fD=true)
 (bodyD:fnD.body=some (.seq (.region iA opsA false) (.cond (.tmp 4) (.region iB opsB false) .skip)))
 (ntD:fnD.ntmps=6) (resD:fnD.results = #[])
 (hA:opsA = #[oA1,oA2])
 (oA1g:oA1.guard=none) (oA1d:oA1.dst=some 3) (oA1o:oA1.op=.call { callee:=.builtin .recover,args:=#[],argTypes:=#[] })
 (oA2g:oA2.guard=none) (oA2d:oA2.dst=some 4)
 (oA2f:∀ (ρ:Operand→Value) (w:World),ρ (.tmp 3)=.nilIface→ρ (.const .nilIface)=.nilIface→(execOp ρ oA2).run P w=.ok (.value (.bool false)) w)
 (oA2t:∀ (ρ:Operand→Value) (w:World) (ty:TypeId) (u:Value),ρ (.tmp 3)=.iface ty u→ρ (.const .nilIface)=.nilIface→(execOp ρ oA2).run P w=.ok (.value (.bool true)) w)
 (blB:opsB.toList.all (k0a 3)=true)
 (cB:e0i P (.region iB opsB false)=some (.reg (qB zA.length zA)))
variable {X:Cx} {call:Nat→FuncId→List Value→a0e→Res (Value × a0e)} {φ:Inj} {H H':a0e} {w:World} {fl:Nat}
def hp5 (F:QF X.P) (p s:Array Value) (H:a0e):a0e :=
 ((((H.push (.row false F.tL p.toList)).push (.row false F.tS s.toList)).push (.row false F.tA F.zA)).push (.row false F.tI [.int .i64 0])).push (.row false F.tB [.bool false])
def pt (n:Nat):Value:=.pointer (some ⟨n,0,none⟩)
def un (k:Nat):List Value:=List.replicate k undef
def tm5 (p s:Array Value) (n:Nat):b0b:=[.agg p,.agg s,pt n,pt (n + 1),pt (n + 2),pt (n + 3),pt (n + 4)] ++ un 10
def tm7 (fD:FuncId) (p s:Array Value) (n:Nat):b0b:=[.agg p,.agg s,pt n,pt (n + 1),pt (n + 2),pt (n + 3),pt (n + 4),.func (.func fD) #[] #[pt (n + 2),pt (n + 3),pt (n + 4)]] ++ un 9
def t0t (fD:FuncId) (p s:Array Value) (n:Nat):b0b:=[.agg p,.agg s,pt n,pt (n + 1),pt (n + 2),pt (n + 3),pt (n + 4),.func (.func fD) #[] #[pt (n + 2),pt (n + 3),pt (n + 4)],undef,.agg #[],.agg p,.agg s] ++ un 5
theorem w0w (F:QF X.P) (p s:Array Value):(hp5 F p s H).size=H.size + 5:=by simp [hp5]
theorem k0g (F:QF X.P) (p s:Array Value) (k:Nat) (hk:k < 5):(hp5 F p s H).blk (H.size + k)=[Blk.row false F.tL p.toList,.row false F.tS s.toList,.row false F.tA F.zA,.row false F.tI [.int .i64 0],.row false F.tB [.bool false]].getD k .dead:=by
 simp only [hp5,a0K,j1H]
 match k,hk with
 | 0,_=>rw [i1k (by omega),i1k (by omega),i1k (by omega),i1k (by omega),i1n (by omega)];rfl
 | 1,_=>simp
 | 2,_=>simp
 | 3,_=>simp
 | 4,_=>simp
theorem g1f (F:QF X.P) (p s:Array Value):b0f call H.size 1 (.reg (q0 F.tL F.tS F.tA F.tI F.tB F.zA)) ([.agg p,.agg s] ++ un 15) H=.fin .normal (tm5 p s H.size) (hp5 F p s H):=by
 simp [b0f,q0,f0l,b0j,b0z,opA,ev,get,put,un,tm5,hp5,pt,a0V,List.replicate]
theorem h1Z (p s:Array Value) {fD:FuncId} {n:Nat} {G:a0e}:f0l call fl (q1 fD) (tm5 p s n) G=.fin .normal (tm7 fD p s n) G:=by
 simp [q1,f0l,b0j,b0z,opA,ev,get,put,un,tm5,tm7,pt,List.replicate]
theorem i1a (F:QF X.P) {p s:Array Value} (hp:p.size=F.nL) (hs:s.size=F.nS) (h0:F.nL ≠ 0) (h1:F.nS ≠ 0) :
  f0l call fl (q2a F.nL F.nS) (tm7 F.fD p s H.size) (hp5 F p s H)=.fin .normal (t0t F.fD p s H.size) (hp5 F p s H):=by
 have b0:=k0g (H:=H) F p s 0 (by omega)
 have b1:=k0g (H:=H) F p s 1 (by omega)
 simp only [j1p,List.getD_cons_zero,List.getD_cons_succ] at b0 b1
 have e0:b0r (hp5 F p s H) true F.nL (pt H.size)=some (.agg p):=by
  have h2:a0e.cells? (hp5 F p s H) H.size 0 F.nL=some p.toList:=by
   unfold a0e.cells?;rw [b0];simp only [i1P,j1q];rw [i1n (by simp [hp]),i1v (by simp [hp])]
  simp [b0r,pt,h0,h2]
 have e1:b0r (hp5 F p s H) true F.nS (pt (H.size + 1))=some (.agg s):=by
  have h2:a0e.cells? (hp5 F p s H) (H.size + 1) 0 F.nS=some s.toList:=by
   unfold a0e.cells?;rw [b1];simp only [i1P,j1q];rw [i1n (by simp [hs]),i1v (by simp [hs])]
  simp [b0r,pt,h1,h2]
 simp [q2a,f0l,b0j,b0z,opA,ev,get,put,un,tm7,t0t,List.replicate,e0,e1,b0C,g0P,b0y]
def g0D (F:QF X.P) (G:a0e):a0e:=((((G.push .dead).push .dead).push (.row false F.tA F.zA)).push (.row false F.tI [.int .i64 0])).push (.row false F.tB [.bool false])
structure b1c (X:Cx) (F:QF X.P) (φ:Inj) (H:a0e) (w w1:World) (B o:Nat→Nat):Prop where
 lo:∀ k,k < 5→w.heap.size≤B k
 hi:∀ k,k < 5→B k < w1.heap.size
 ne:∀ j k,j < 5→k < 5→j ≠ k→B j ≠ B k
 base:∀ k,k < 5→X.base≤B k
 rA:∃ c,w1.heap[B 2]? = some (.cells c F.tA (0,0))∧o 2 + F.zA.length≤c.size∧∀ φ S,CR X φ S F.zA ((c.toList.drop (o 2)).take F.zA.length)
 rI:∃ c,w1.heap[B 3]? = some (.cells c F.tI (0,0))∧o 3 + 1≤c.size∧∀ φ S,CR X φ S [.int .i64 0] ((c.toList.drop (o 3)).take 1)
 rB:∃ c,w1.heap[B 4]? = some (.cells c F.tB (0,0))∧o 4 + 1≤c.size∧∀ φ S,CR X φ S [.bool false] ((c.toList.drop (o 4)).take 1)
theorem K0v {φ φ':Inj} {S S':Shp} {v u:Value} (hf:flat v=true) (h:VR X φ S v u):VR X φ' S' v u:=by
 have:u=v:=by
  cases h <;> simp [flat] at hf <;> try rfl
  ·rename_i f a b a' b' h1 h2 h3 h4
   cases f <;> simp [flat] at hf
   obtain ⟨rfl,rfl⟩:=hf
   have e1:a' = #[]:=by simpa using h1.symm
   have e2:b' = #[]:=by simpa using h3.symm
   rw [e1,e2]
 rw [this];exact q0b hf
theorem s0i {φ φ':Inj} {S S':Shp} {l m:List Value} (hf:l.all flat=true) (h:CR X φ S l m):CR X φ' S' l m :=
 ⟨h.1,fun i hi=>K0v (by
  have:=i1U.1 hf (l.getD i undef) (by rw [i1h,i1m hi];exact i1p hi)
  exact this) (h.2 i hi)⟩
theorem Z0K (F:QF X.P) {p s:Array Value} {φ1:Inj} {w1:World} (hR:Rel X φ H w) (hst:d0s X H.size φ H w φ1 (hp5 F p s H) w1) {B o:Nat→Nat} (hφ:∀ k,k < 5→φ1 (H.size + k)=some (B k,o k)) :
  b1c X F φ H w w1 B o:=by
 have hnone:∀ k,φ (H.size + k)=none:=fun k=>by
  cases h:φ (H.size + k) with
  | none=>rfl
  | some x=>have:=hR.lt _ _ h;omega
 have hrow:∀ k,k < 5→∃ e cs,(hp5 F p s H).blk (H.size + k)=.row false e cs:=fun k hk=>by
  rw [k0g F p s k hk]
  match k,hk with
  | 0,_=>exact ⟨_,_,rfl⟩
  | 1,_=>exact ⟨_,_,rfl⟩
  | 2,_=>exact ⟨_,_,rfl⟩
  | 3,_=>exact ⟨_,_,rfl⟩
  | 4,_=>exact ⟨_,_,rfl⟩
 have rows:∀ k e cs,k < 5→(hp5 F p s H).blk (H.size + k)=.row false e cs→cs.all flat=true→∃ c,w1.heap[B k]? = some (.cells c e (0,0))∧o k + cs.length≤c.size∧∀ φ S,CR X φ S cs ((c.toList.drop (o k)).take cs.length):=by
  intro k e cs hk hb hf
  obtain ⟨c,el,fz,g1,g2,g3,g4,_⟩:=hst.rel.row _ _ _ _ _ _ (hφ k hk) hb
  obtain ⟨_,rfl,rfl⟩:=g4 rfl
  exact ⟨c,g1,g2,fun φ' S'=>s0i hf g3⟩
 refine ⟨fun k hk=>hst.own_new hR (hφ k hk) (hnone k),fun k hk=>?_,fun j k hj hk hne heq=>?_,fun k hk=>?_,?_,?_,?_⟩
 ·obtain ⟨e,cs,h⟩:=hrow k hk
  exact hst.rel.row_lt (hφ k hk) h
 ·obtain ⟨e,cs,h⟩:=hrow j hj
  obtain ⟨e',cs',h'⟩:=hrow k hk
  have:=hst.rel.sep _ _ _ _ _ _ _ (hφ j hj) (by rw [heq];exact hφ k hk) (by omega) h
  rw [h'] at this;cases this
 ·obtain ⟨e,cs,h⟩:=hrow k hk
  obtain ⟨c,el,fz,g1,g2,g3,g4,_⟩:=hst.rel.row _ _ _ _ _ _ (hφ k hk) h
  exact (g4 rfl).1
 ·exact rows 2 F.tA F.zA (by omega) (by rw [k0g F p s 2 (by omega)];rfl) F.zf
 ·exact rows 3 F.tI [.int .i64 0] (by omega) (by rw [k0g F p s 3 (by omega)];rfl) rfl
 ·exact rows 4 F.tB [.bool false] (by omega) (by rw [k0g F p s 4 (by omega)];rfl) rfl
def B0Y (φ:Inj) (n:Nat) (B o:Nat→Nat):Inj:=ad (ad (ad (ad (ad φ n (B 0) (o 0)) (n + 1) (B 1) (o 1)) (n + 2) (B 2) (o 2)) (n + 3) (B 3) (o 3)) (n + 4) (B 4) (o 4)
theorem s0B (F:QF X.P) {φ':Inj} {w1 w2:World} {B o:Nat→Nat} (O:b1c X F φ H w w1 B o) (hR':Rel X φ' H' w2) (hold:∀ k,k < 5→w2.heap[B k]? = w1.heap[B k]?)
  (hno:∀ k,k < 5→∀ b o' ro e' cs',φ' b=some (B k,o')→H'.blk b ≠ .row ro e' cs'):Rel X (B0Y φ' H'.size B o) (g0D F H') w2:=by
 have r0:=hR'.adopt0 (B 0) (o 0)
 have r1:=r0.adopt0 (B 1) (o 1)
 have s1:(H'.push Blk.dead).size=H'.size + 1:=by simp
 rw [s1] at r1
 have n1:∀ k,2≤k→k < 5→∀ b o' ro e' cs',ad (ad φ' H'.size (B 0) (o 0)) (H'.size + 1) (B 1) (o 1) b=some (B k,o')→a0e.blk ((H'.push Blk.dead).push .dead) b ≠ .row ro e' cs':=by
  intro k hk hk5 b o' ro e' cs' h
  unfold ad at h
  simp only [a0K,j1H]
  split at h
  ·rename_i hb;simp at h;exact i1A h.1 (O.ne 1 k (by omega) hk5 (by omega))
  ·split at h
   ·rename_i hb;simp at h;exact i1A h.1 (O.ne 0 k (by omega) hk5 (by omega))
   ·rename_i h1 h2;rw [i1k (by omega),i1k (by omega)];exact hno k hk5 b o' ro e' cs' h
 obtain ⟨c2,g1,g2,g3⟩:=O.rA
 have r2:=r1.adopt (B:=B 2) (o:=o 2) (e:=F.tA) (cs:=F.zA) (c:=c2) (by rw [hold 2 (by omega)];exact g1) g2 (g3 _ _) (O.base 2 (by omega)) (n1 2 (by omega) (by omega))
 have s2:((H'.push Blk.dead).push Blk.dead).size=H'.size + 2:=by simp
 rw [s2] at r2
 have n2:∀ k,3≤k→k < 5→∀ b o' ro e' cs',ad (ad (ad φ' H'.size (B 0) (o 0)) (H'.size + 1) (B 1) (o 1)) (H'.size + 2) (B 2) (o 2) b=some (B k,o')→a0e.blk (((H'.push Blk.dead).push .dead).push (.row false F.tA F.zA)) b ≠ .row ro e' cs':=by
  intro k hk hk5 b o' ro e' cs' h
  unfold ad at h
  rw [a0K,s2]
  split at h
  ·rename_i hb;simp at h;exact i1A h.1 (O.ne 2 k (by omega) hk5 (by omega))
  ·rename_i hb;rw [i1k hb];exact n1 k (by omega) hk5 b o' ro e' cs' h
 obtain ⟨c3,g1,g2,g3⟩:=O.rI
 have r3:=r2.adopt (B:=B 3) (o:=o 3) (e:=F.tI) (cs:=[.int .i64 0]) (c:=c3) (by rw [hold 3 (by omega)];exact g1) g2 (g3 _ _) (O.base 3 (by omega)) (n2 3 (by omega) (by omega))
 have s3:(((H'.push Blk.dead).push Blk.dead).push (.row false F.tA F.zA)).size=H'.size + 3:=by simp
 rw [s3] at r3
 obtain ⟨c4,g1,g2,g3⟩:=O.rB
 have r4:=r3.adopt (B:=B 4) (o:=o 4) (e:=F.tB) (cs:=[.bool false]) (c:=c4) (by rw [hold 4 (by omega)];exact g1) g2 (g3 _ _) (O.base 4 (by omega)) (by
  intro b o' ro e' cs' h
  unfold ad at h
  rw [a0K,s3]
  split at h
  ·rename_i hb;simp at h;exact i1A h.1 (O.ne 3 4 (by omega) (by omega) (by omega))
  ·rename_i hb;rw [i1k hb];exact n2 4 (by omega) (by omega) b o' ro e' cs' h)
 have s4:((((H'.push Blk.dead).push Blk.dead).push (.row false F.tA F.zA)).push (.row false F.tI [.int .i64 0])).size=H'.size + 4:=by simp
 rw [s4] at r4
 exact r4
theorem t0v {φ φ':Inj} {S S':Shp} {u:Value} (h:VR X φ S undef u):VR X φ' S' undef u:=by
 unfold undef at h ⊢
 cases h with
 | tuple a a' h1 h2=>exact .tuple _ _ h1 (fun i hi=>by simp at hi)
theorem U0h {φ φ':Inj} {S S':Shp}:∀ {k:Nat} {l:List Value},CR X φ S (un k) l→CR X φ' S' (un k) l
 | 0,l,h=>by rw [h.nil_left];exact CR.nil
 | k + 1,l,h=>by
  obtain ⟨v',r',rfl,hv,hr⟩:=(show CR X φ S (undef :: un k) l from h).cons_left
  exact CR.cons (t0v hv) (U0h hr)
theorem h0v {φ φ':Inj} {S S':Shp} {n m:Nat} {x:Nat × Nat} {u:Value} (hφ:φ n=some x) (hφ':φ' m=some x) (h:VR X φ S (pt n) u):VR X φ' S' (pt m) u:=by
 unfold pt at h ⊢
 cases h with
 | ptr a a' B o h1 h2 h3 =>
  rw [hφ] at h2;cases h2
  exact .ptr _ _ B o rfl hφ' h3
theorem n0s {φ1 φ2:Inj} {G:a0e} {w1:World} {p s:Array Value} {fD:FuncId} {B o:Nat→Nat} {m:Nat} {S0 S2:Shp} {u0 u1:Value} (hR:Rel X φ H w) (hst:d0s X H.size φ H w φ1 G w1)
  (hp:VR X φ S0 (.agg p) u0) (hs:VR X φ S0 (.agg s) u1) (hφ:∀ k,k < 5→φ1 (H.size + k)=some (B k,o k)) (h2:∀ k,k < 5→φ2 (m + k)=some (B k,o k)) (he:∀ b x,φ b=some x→φ2 b=some x)
  (hS:∀ b x,w1.shape? b=some x→S2 b=some x) {l:List Value} (h:CR X φ1 w1.shape? (t0t fD p s H.size) l):CR X φ2 S2 (t0t fD p s m) l:=by
 unfold t0t at h ⊢
 simp only [k1l,j1J] at h ⊢
 obtain ⟨x0,l,rfl,k0,h⟩:=h.cons_left
 obtain ⟨x1,l,rfl,k1,h⟩:=h.cons_left
 obtain ⟨x2,l,rfl,k2,h⟩:=h.cons_left
 obtain ⟨x3,l,rfl,k3,h⟩:=h.cons_left
 obtain ⟨x4,l,rfl,k4,h⟩:=h.cons_left
 obtain ⟨x5,l,rfl,k5,h⟩:=h.cons_left
 obtain ⟨x6,l,rfl,k6,h⟩:=h.cons_left
 obtain ⟨x7,l,rfl,k7,h⟩:=h.cons_left
 obtain ⟨x8,l,rfl,k8,h⟩:=h.cons_left
 obtain ⟨x9,l,rfl,k9,h⟩:=h.cons_left
 obtain ⟨x10,l,rfl,k10,h⟩:=h.cons_left
 obtain ⟨x11,l,rfl,k11,h⟩:=h.cons_left
 have ba:∀ {v u u'},VR X φ S0 v u→VR X φ1 w1.shape? v u'→VR X φ2 S2 v u':=fun k k'=>(VR.back hR hst k k').mono he hS
 refine CR.cons (ba hp k0) (CR.cons (ba hs k1) (CR.cons (h0v (hφ 0 (by omega)) (h2 0 (by omega)) k2) (CR.cons (h0v (hφ 1 (by omega)) (h2 1 (by omega)) k3) (CR.cons (h0v (hφ 2 (by omega)) (h2 2 (by omega)) k4)
  (CR.cons (h0v (hφ 3 (by omega)) (h2 3 (by omega)) k5) (CR.cons (h0v (hφ 4 (by omega)) (h2 4 (by omega)) k6) (CR.cons ?_ (CR.cons (t0v k8) (CR.cons ?_ (CR.cons (ba hp k10) (CR.cons (ba hs k11) (U0h h))))))))))))
 ·cases k7 with
  | func f a b a' b' g1 g2 g3 g4 =>
   refine .func _ _ _ _ _ g1 (fun i hi=>by simp at hi) g3 (fun i hi=>?_)
   have hi3:i < 3:=by simpa using hi
   match i,hi3 with
   | 0,_=>exact h0v (hφ 2 (by omega)) (h2 2 (by omega)) (by simpa using g4 0 (by simp))
   | 1,_=>exact h0v (hφ 3 (by omega)) (h2 3 (by omega)) (by simpa using g4 1 (by simp))
   | 2,_=>exact h0v (hφ 4 (by omega)) (h2 4 (by omega)) (by simpa using g4 2 (by simp))
 ·cases k9 with
  | agg a a' g1 g2=>exact .agg _ _ g1 (fun i hi=>by simp at hi)
theorem q0x {n:Nat} {B o:Nat→Nat} (k:Nat) (hk:k < 5):B0Y φ n B o (n + k)=some (B k,o k):=by
 unfold B0Y ad
 match k,hk with
 | 0,_=>rw [i1k (by omega),i1k (by omega),i1k (by omega),i1k (by omega),i1n (by omega)]
 | 1,_=>rw [i1k (by omega),i1k (by omega),i1k (by omega),i1n (by omega)]
 | 2,_=>rw [i1k (by omega),i1k (by omega),i1n (by omega)]
 | 3,_=>rw [i1k (by omega),i1n (by omega)]
 | 4,_=>rw [i1n (by omega)]
theorem u0o {n b:Nat} {B o:Nat→Nat} (hb:b < n):B0Y φ n B o b=φ b:=by
 unfold B0Y ad;rw [i1k (by omega),i1k (by omega),i1k (by omega),i1k (by omega),i1k (by omega)]
theorem K0R {n b:Nat} {B o:Nat→Nat} {x:Nat × Nat} (hb:n≤b) (h:B0Y φ n B o b=some x):(∃ k,k < 5∧x=(B k,o k)) ∨ φ b=some x:=by
 unfold B0Y ad at h
 split at h
 ·exact .inl ⟨4,by omega,by simpa using h.symm⟩
 split at h
 ·exact .inl ⟨3,by omega,by simpa using h.symm⟩
 split at h
 ·exact .inl ⟨2,by omega,by simpa using h.symm⟩
 split at h
 ·exact .inl ⟨1,by omega,by simpa using h.symm⟩
 split at h
 ·exact .inl ⟨0,by omega,by simpa using h.symm⟩
 exact .inr h
theorem K0Q (hR:Rel X φ H w) {w':World} (h:Pan X H.size φ H w w'):d0s X H.size φ H w φ H w':=by
 have hold:∀ B,B < w.heap.size→w'.heap[B]? = w.heap[B]?:=fun B hB=>h.frame B hB fun b o e cs h1 h2=>by have:=hR.lt b _ h1;omega
 exact { ext := fun _ _ h => h
         rel:=hR.agree (i1t hR.bs h.wsz) h.shp fun b B o ro e cs h1 h2=>hold B (hR.row_lt h1 h2)
         shp:=h.shp,wsz:=h.wsz,os:=h.os,tape:=h.tape,out:=h.out,hsz:=i1j _,keep:=fun _ _=>rfl,kind:=fun b e cs _ h=>⟨cs,h⟩
         fresh:=fun b x h1 h2=>by rw [h1] at h2;cases h2
         newB:=fun b B o h1 h2=>by rw [h1] at h2;cases h2
         frame:=fun B hB _=>hold B hB }
theorem B0B (F:QF X.P) {φ':Inj} {w1 w2:World} {B o:Nat→Nat} (hR:Rel X φ H w) (O:b1c X F φ H w w1 B o) (hR1:Rel X φ H w1) (h2:d0s X H.size φ H w1 φ' H' w2) :
  ∀ k,k < 5→∀ b o' ro e' cs',φ' b=some (B k,o')→H'.blk b ≠ .row ro e' cs':=by
 intro k hk b o' ro e' cs' hb hrow
 have h1:=O.lo k hk
 have h3:=O.hi k hk
 cases hφ:φ b with
 | none=>have:=h2.own_new hR1 hb hφ;omega
 | some x =>
  have:=h2.ext b x hφ
  rw [hb] at this;cases this
  cases ro with
  | true =>
   obtain ⟨c,el,fz,g1,g2,g3,g4,g5⟩:=h2.rel.row _ _ _ _ _ _ hb hrow
   have:=g5 rfl
   have:=O.base k hk
   omega
  | false =>
   obtain ⟨cs0,h5⟩:=h2.kind b e' cs' (hR.lt b _ hφ) hrow
   have:=hR.row_lt hφ h5
   omega
theorem w0s (F:QF X.P) {φ1 φ' φ4:Inj} {p s:Array Value} {w1 w2 w4:World} {H4:a0e} {B o:Nat→Nat} (hR:Rel X φ H w) (hfl:fl≤H.size) (hst:d0s X H.size φ H w φ1 (hp5 F p s H) w1) (O:b1c X F φ H w w1 B o)
  (h2:d0s X H.size φ H w1 φ' H' w2) (h3:d0s X H'.size (B0Y φ' H'.size B o) (g0D F H') w2 φ4 H4 w4):d0s X fl φ H w φ' H' w4:=by
 have hR1:Rel X φ H w1:=hst.rel0 hR
 have hno:=B0B F hR O hR1 h2
 have hold4:∀ C,C < w2.heap.size→(∀ k,k < 5→C ≠ B k)→w4.heap[C]? = w2.heap[C]?:=by
  intro C hC hne
  refine h3.frame C hC fun b o' e cs hb hle _=>?_
  rcases K0R hle hb with ⟨k,hk,h⟩ | h
  ·simp at h;exact hne k hk h.1
  ·have:=h2.rel.lt b _ h;omega
 refine { ext:=h2.ext,rel:=?_,shp:=fun C x h=>h3.shp _ _ (h2.shp _ _ (hst.shp _ _ h)),wsz:=?_,os:=?_,tape:=?_,out:=?_,hsz:=h2.hsz,keep:=fun b hb=>h2.keep b (by omega),kind:=h2.kind,fresh:=h2.fresh,newB:=?_,frame:=?_ }
 ·exact h2.rel.agree (i1t h2.rel.bs h3.wsz) h3.shp fun b C o' ro e cs h4 h5=>hold4 C (h2.rel.row_lt h4 h5) fun k hk he=>by
   subst he;exact hno k hk b o' ro e cs h4 h5
 ·have:=hst.wsz;have:=h2.wsz;have:=h3.wsz;omega
 ·rw [h3.os,h2.os,hst.os]
 ·rw [h3.tape,h2.tape,hst.tape]
 ·rw [h3.out,h2.out,hst.out]
 ·intro b C o' h4 h5
  have:=h2.own_new hR1 h4 h5
  have:=hst.wsz
  exact .inl (by omega)
 ·intro C hC _
  have h6:=hst.wsz
  have h7:=h2.wsz
  rw [hold4 C (by omega) (fun k hk he=>by have:=O.lo k hk;omega),h2.old hR1 (by omega),hst.old hR hC]
theorem l0X (F:QF X.P):(g0D F H).size=H.size + 5:=by simp [g0D]
theorem r0T (F:QF X.P):(g0D F H).blk (H.size + 2)=.row false F.tA F.zA:=by
 simp only [g0D,a0K,j1H]
 repeat (first | rw [i1n (show _=_ by omega)] | rw [i1k (show ¬ (_=_) by omega)])
 simp
theorem r0U (F:QF X.P):(g0D F H).blk (H.size + 3)=.row false F.tI [.int .i64 0]:=by
 simp only [g0D,a0K,j1H]
 repeat (first | rw [i1n (show _=_ by omega)] | rw [i1k (show ¬ (_=_) by omega)])
 simp
theorem r0V (F:QF X.P):(g0D F H).blk (H.size + 4)=.row false F.tB [.bool false]:=by
 simp only [g0D,a0K,j1H]
 repeat (first | rw [i1n (show _=_ by omega)] | rw [i1k (show ¬ (_=_) by omega)])
 simp
theorem p0D:∀ (vs pre cs:List Value),cs.length=vs.length→b0t (pre ++ cs) pre.length vs=pre ++ vs
 | [],pre,cs,h=>by have:cs=[]:=i1I.1 h;simp [b0t,this]
 | v :: r,pre,c :: cs,h=>by
  simp only [i1Y,Nat.add_right_cancel_iff] at h
  have h1:(pre ++ c :: cs).set pre.length v=(pre ++ [v]) ++ cs:=by
   simp [List.set_append]
  have:=p0D r (pre ++ [v]) cs h
  simp only [b0t]
  rw [h1]
  simpa using this
theorem t0w {cs vs:List Value} (h:cs.length=vs.length):b0t cs 0 vs=vs:=by simpa using p0D vs [] cs h
theorem l0d {G:a0e} {b:Nat} {e:TypeId} {cs vs:List Value} (hb:G.blk b=.row false e cs) (hf:fl≤b) (h:cs.length=vs.length) (hp:vs.all a0t=true):G.write? fl b 0 vs=some (G.setIfInBounds b (.row false e vs)):=by
 unfold a0e.write?
 rw [hb]
 simp only
 rw [i1n ⟨hf,by omega,hp⟩,t0w h]
structure X0H (t:b0b) (m:Nat):Prop where
 l:t.length=17
 a:get t 4=pt (m + 2)
 i:get t 5=pt (m + 3)
 b:get t 6=pt (m + 4)
theorem i1c (F:QF X.P) {p s a:Array Value} {k:IntKind} {n:Int} (ha:a.size=F.zA.length) (hpl:a.toList.all a0t=true) :
  ∃ t' G,f0l call H'.size (q2b F.zA.length) (put (t0t F.fD p s H'.size) (some 12) (.tuple #[.agg a,.int k n])) (g0D F H')=.fin .normal t' G∧X0H t' H'.size∧H'.size + 5≤G.size ∧
   G.blk (H'.size + 2)=.row false F.tA a.toList∧G.blk (H'.size + 3)=.row false F.tI [.int k n]∧G.blk (H'.size + 4)=.row false F.tB [.bool false]:=by
 have w1:(g0D F H').write? H'.size (H'.size + 2) 0 a.toList=some ((g0D F H').setIfInBounds (H'.size + 2) (.row false F.tA a.toList)):=l0d (r0T F) (by omega) (by simp [ha]) hpl
 have hsz:=l0X (H:=H') F
 have b3:a0e.blk ((g0D F H').setIfInBounds (H'.size + 2) (.row false F.tA a.toList)) (H'.size + 3)=.row false F.tI [.int .i64 0]:=by
  rw [a0Z _ _ _ _ (by omega),i1k (by omega)];exact r0U F
 have w2:a0e.write? ((g0D F H').setIfInBounds (H'.size + 2) (.row false F.tA a.toList)) H'.size (H'.size + 3) 0 [.int k n]=some (((g0D F H').setIfInBounds (H'.size + 2) (.row false F.tA a.toList)).setIfInBounds (H'.size + 3) (.row false F.tI [.int k n])) :=
  l0d b3 (by omega) rfl rfl
 refine ⟨put (put (put (put (t0t F.fD p s H'.size) (some 12) (.tuple #[.agg a,.int k n])) (some 8) (.tuple #[.agg a,.int k n])) (some 13) (.agg a)) (some 14) (.int k n),((g0D F H').setIfInBounds (H'.size + 2) (.row false F.tA a.toList)).setIfInBounds (H'.size + 3) (.row false F.tI [.int k n]),?_,?_,?_,?_,?_,?_⟩
 ·simp only [put,t0t,un,pt,List.replicate,k1l,j1J,List.set_cons_succ,List.set_cons_zero]
  simp [q2b,f0l,b0j,b0z,opA,ev,get,put,a0V,ha,w1,w2,b0C]
 ·exact ⟨by simp [put,t0t,un],by simp [put,get,t0t,un,List.replicate],by simp [put,get,t0t,un,List.replicate],by simp [put,get,t0t,un,List.replicate]⟩
 ·simp [hsz]
 ·rw [a0Z _ _ _ _ (by simp;omega),i1k (by omega),a0Z _ _ _ _ (by omega),i1n rfl]
 ·rw [a0Z _ _ _ _ (by simp;omega),i1n rfl]
 ·rw [a0Z _ _ _ _ (by simp;omega),i1k (by omega),a0Z _ _ _ _ (by omega),i1k (by omega)];exact r0V F
theorem N0a {G:a0e} {b:Nat} {e:TypeId} {cs:List Value} (hb:G.blk b=.row false e cs) (hn:cs.length ≠ 0):b0r G true cs.length (pt b)=some (.agg cs.toArray):=by
 have h2:G.cells? b 0 cs.length=some cs:=by
  unfold a0e.cells?;rw [hb];simp only [i1P,j1q];rw [i1n (i1j _),i1v (i1j _)]
 simp [b0r,pt,hn,h2]
theorem B0m {G:a0e} {b:Nat} {e:TypeId} {v:Value} (hb:G.blk b=.row false e [v]):b0r G false 1 (pt b)=some v:=by
 have h2:G.cells? b 0 1=some [v]:=by unfold a0e.cells?;rw [hb];simp
 simp [b0r,pt,h2]
theorem i1b (F:QF X.P) {t:b0b} {G:a0e} {m:Nat} {a:List Value} {k:IntKind} {n:Int} {bef:List Nat} (L:X0H t m) (ha:a.length=F.zA.length) (hpl:a.all a0t=true)
  (b2:G.blk (m + 2)=.row false F.tA a) (b3:G.blk (m + 3)=.row false F.tI [.int k n]) (b4:G.blk (m + 4)=.row false F.tB [.bool false]) :
  ∃ t' G',b0f call m 1 (.draw (q3 F.zA.length) bef [(1,2)]) t G=.fin .normal t' G'∧X0H t' m ∧
   G'.blk (m + 2)=.row false F.tA a∧G'.blk (m + 3)=.row false F.tI [.int k n]∧G'.blk (m + 4)=.row false F.tB [.bool true]:=by
 have hnz:=F.nz
 have l1:=N0a b2 (by omega)
 rw [ha] at l1
 have l2:=B0m b3
 have w1:=l0d (fl:=m) b2 (by omega) rfl hpl
 have s2:=a0i b2
 have s3:=a0i b3
 have s4:=a0i b4
 have c3:a0e.blk (G.setIfInBounds (m + 2) (.row false F.tA a)) (m + 3)=.row false F.tI [.int k n]:=by rw [a0Z _ _ _ _ s2,i1k (by omega)];exact b3
 have w2:=l0d (fl:=m) (vs:=[.int k n]) c3 (by omega) rfl rfl
 have c4:a0e.blk ((G.setIfInBounds (m + 2) (.row false F.tA a)).setIfInBounds (m + 3) (.row false F.tI [.int k n])) (m + 4)=.row false F.tB [.bool false]:=by
  rw [a0Z _ _ _ _ (by simpa using s3),i1k (by omega),a0Z _ _ _ _ s2,i1k (by omega)];exact b4
 have w3:=l0d (fl:=m) (vs:=[.bool true]) c4 (by omega) rfl rfl
 have hl:=L.l
 have g4:∀ v u:Value,get (put (put t (some 15) v) (some 16) u) 4=pt (m + 2):=fun v u=>by
  have:=L.a;simp only [get,put,i1h,i1R] at this ⊢;simpa using this
 have g5:∀ v u:Value,get (put (put t (some 15) v) (some 16) u) 5=pt (m + 3):=fun v u=>by
  have:=L.i;simp only [get,put,i1h,i1R] at this ⊢;simpa using this
 have g6:∀ v u:Value,get (put (put t (some 15) v) (some 16) u) 6=pt (m + 4):=fun v u=>by
  have:=L.b;simp only [get,put,i1h,i1R] at this ⊢;simpa using this
 have g15:∀ v u:Value,get (put (put t (some 15) v) (some 16) u) 15=v:=fun v u=>by
  simp [get,put,i1R,hl]
 have g16:∀ v u:Value,get (put (put t (some 15) v) (some 16) u) 16=u:=fun v u=>by
  simp [get,put,i1R,hl]
 have g51:∀ v:Value,get (put t (some 15) v) 5=pt (m + 3):=fun v=>by
  have:=L.i;simp only [get,put,i1h,i1R] at this ⊢;simpa using this
 refine ⟨put (put t (some 15) (.agg a.toArray)) (some 16) (.int k n),((G.setIfInBounds (m + 2) (.row false F.tA a)).setIfInBounds (m + 3) (.row false F.tI [.int k n])).setIfInBounds (m + 4) (.row false F.tB [.bool true]),?_,⟨by simp [put,hl],g4 _ _,g5 _ _,g6 _ _⟩,?_,?_,?_⟩
 ·have o15:b0z call m t G (.load true F.zA.length (.tmp 4))=.ok (.agg a.toArray,G):=by simp [b0z,opA,ev,L.a,l1,b0C]
  have o16:b0z call m (put t (some 15) (.agg a.toArray)) G (.load false 1 (.tmp 5))=.ok (.int k n,G):=by simp [b0z,opA,ev,g51,l2,b0C]
  have st1:b0z call m (put (put t (some 15) (.agg a.toArray)) (some 16) (.int k n)) G (.store F.zA.length (.tmp 4) (.tmp 15))=.ok (undef,G.setIfInBounds (m + 2) (.row false F.tA a)):=by
   simp only [b0z,opA,ev,g4,g15,pt,a0V,ha,List.toList_toArray];simp [w1]
  have st2:b0z call m (put (put t (some 15) (.agg a.toArray)) (some 16) (.int k n)) (G.setIfInBounds (m + 2) (.row false F.tA a)) (.store 1 (.tmp 5) (.tmp 16))=.ok (undef,(G.setIfInBounds (m + 2) (.row false F.tA a)).setIfInBounds (m + 3) (.row false F.tI [.int k n])):=by
   simp only [b0z,opA,ev,g5,g16,pt,a0V];simp [w2]
  have st3:b0z call m (put (put t (some 15) (.agg a.toArray)) (some 16) (.int k n)) ((G.setIfInBounds (m + 2) (.row false F.tA a)).setIfInBounds (m + 3) (.row false F.tI [.int k n])) (.store 1 (.tmp 6) (.const (.bool true))) =
    .ok (undef,((G.setIfInBounds (m + 2) (.row false F.tA a)).setIfInBounds (m + 3) (.row false F.tI [.int k n])).setIfInBounds (m + 4) (.row false F.tB [.bool true])):=by
   simp only [b0z,opA,ev,g6,pt,a0V];simp [w3]
  have pn:∀ (t:b0b) (v:Value),put t none v=t:=fun _ _=>rfl
  have tc1:d0i (put t (some 15) (.agg a.toArray)) (.load false 1 (.tmp 5))=([m + 3],[]):=by simp [d0i,ev,g51,pt,blkOf]
  have tc2:d0i (put (put t (some 15) (.agg a.toArray)) (some 16) (.int k n)) (.store F.zA.length (.tmp 4) (.tmp 15))=([],[m + 2]):=by simp only [d0i,ev,g4];simp [pt,blkOf]
  simp only [b0f,q3,b0S,h0m,b0j,i1H,j1h,i1X,o15,o16,st1,st2,st3,pn,tc1,tc2]
  simp [c0U,s0w]
 ·rw [a0Z _ _ _ _ (by simpa using s4),i1k (by omega),a0Z _ _ _ _ (by simpa using s3),i1k (by omega),a0Z _ _ _ _ s2,i1n rfl]
 ·rw [a0Z _ _ _ _ (by simpa using s4),i1k (by omega),a0Z _ _ _ _ (by simpa using s3),i1n rfl]
 ·rw [a0Z _ _ _ _ (by simpa using s4),i1n rfl]
theorem i1d (F:QF X.P) {t:b0b} (hl:t.length=6) (h0:get t 0=pt (H.size + 2)) (h1:get t 1=pt (H.size + 3)) (h2:get t 2=pt (H.size + 4)) :
  ∃ t' G',b0f call H.size 1 (.reg (qB F.zA.length F.zA)) t (g0D F H)=.fin .normal t' G' ∧
   G'.blk (H.size + 2)=.row false F.tA F.zA∧G'.blk (H.size + 3)=.row false F.tI [.int .i64 0]∧G'.blk (H.size + 4)=.row false F.tB [.bool false]:=by
 have b2:=r0T (H:=H) F
 have b3:=r0U (H:=H) F
 have b4:=r0V (H:=H) F
 have s2:=a0i b2
 have s3:=a0i b3
 have s4:=a0i b4
 have w1:=l0d (fl:=H.size) b2 (by omega) rfl F.zp
 have c3:a0e.blk ((g0D F H).setIfInBounds (H.size + 2) (.row false F.tA F.zA)) (H.size + 3)=.row false F.tI [.int .i64 0]:=by rw [a0Z _ _ _ _ s2,i1k (by omega)];exact b3
 have w2:=l0d (fl:=H.size) (vs:=[.int .i64 0]) c3 (by omega) rfl rfl
 have c4:a0e.blk (((g0D F H).setIfInBounds (H.size + 2) (.row false F.tA F.zA)).setIfInBounds (H.size + 3) (.row false F.tI [.int .i64 0])) (H.size + 4)=.row false F.tB [.bool false]:=by
  rw [a0Z _ _ _ _ (by simpa using s3),i1k (by omega),a0Z _ _ _ _ s2,i1k (by omega)];exact b4
 have w3:=l0d (fl:=H.size) (vs:=[.bool false]) c4 (by omega) rfl rfl
 have g0:∀ v:Value,get (put t (some 5) v) 0=pt (H.size + 2):=fun v=>by simp only [get,put,i1h,i1R] at h0 ⊢;simpa using h0
 have g1:∀ v:Value,get (put t (some 5) v) 1=pt (H.size + 3):=fun v=>by simp only [get,put,i1h,i1R] at h1 ⊢;simpa using h1
 have g2:∀ v:Value,get (put t (some 5) v) 2=pt (H.size + 4):=fun v=>by simp only [get,put,i1h,i1R] at h2 ⊢;simpa using h2
 have g5:∀ v:Value,get (put t (some 5) v) 5=v:=fun v=>by simp [get,put,i1R,hl]
 refine ⟨put t (some 5) (.agg F.zA.toArray),(((g0D F H).setIfInBounds (H.size + 2) (.row false F.tA F.zA)).setIfInBounds (H.size + 3) (.row false F.tI [.int .i64 0])).setIfInBounds (H.size + 4) (.row false F.tB [.bool false]),?_,?_,?_,?_⟩
 ·have o5:b0z call H.size t (g0D F H) (.build F.zA [])=.ok (.agg F.zA.toArray,g0D F H):=by simp [b0z,opA,b0y,g0P,b0C]
  have st1:b0z call H.size (put t (some 5) (.agg F.zA.toArray)) (g0D F H) (.store F.zA.length (.tmp 0) (.tmp 5))=.ok (undef,(g0D F H).setIfInBounds (H.size + 2) (.row false F.tA F.zA)):=by
   simp only [b0z,opA,ev,g0,g5,pt,a0V,List.toList_toArray];simp [w1]
  have st2:b0z call H.size (put t (some 5) (.agg F.zA.toArray)) ((g0D F H).setIfInBounds (H.size + 2) (.row false F.tA F.zA)) (.store 1 (.tmp 1) (.const (.int .i64 0))) =
    .ok (undef,((g0D F H).setIfInBounds (H.size + 2) (.row false F.tA F.zA)).setIfInBounds (H.size + 3) (.row false F.tI [.int .i64 0])):=by
   simp only [b0z,opA,ev,g1,pt,a0V];simp [w2]
  have st3:b0z call H.size (put t (some 5) (.agg F.zA.toArray)) (((g0D F H).setIfInBounds (H.size + 2) (.row false F.tA F.zA)).setIfInBounds (H.size + 3) (.row false F.tI [.int .i64 0])) (.store 1 (.tmp 2) (.const (.bool false))) =
    .ok (undef,(((g0D F H).setIfInBounds (H.size + 2) (.row false F.tA F.zA)).setIfInBounds (H.size + 3) (.row false F.tI [.int .i64 0])).setIfInBounds (H.size + 4) (.row false F.tB [.bool false])):=by
   simp only [b0z,opA,ev,g2,pt,a0V];simp [w3]
  have pn:∀ (t:b0b) (v:Value),put t none v=t:=fun _ _=>rfl
  simp only [b0f,qB,f0l,b0j,i1X,o5,st1,st2,st3,pn]
 ·rw [a0Z _ _ _ _ (by simpa using s4),i1k (by omega),a0Z _ _ _ _ (by simpa using s3),i1k (by omega),a0Z _ _ _ _ s2,i1n rfl]
 ·rw [a0Z _ _ _ _ (by simpa using s4),i1k (by omega),a0Z _ _ _ _ (by simpa using s3),i1n rfl]
 ·rw [a0Z _ _ _ _ (by simpa using s4),i1n rfl]
theorem n0p (F:QF X.P) (ρ:Operand→Value) (w:World):(execOp ρ F.oA1).run X.P w=.ok .recover w:=by
 unfold execOp;rw [F.oA1o];rfl
theorem K0h (F:QF X.P) {cap:Array Value} (hc:cap.size=3):CallsD X.P F.fD cap .returning w fun e u' w'=>(∃ v,e=.returned v)∧u' = .returning∧w' = w:=by
 refine callsD_of_wpS F.hfnD F.bodyD ?_
 intro c0 cs hu
 refine wpS_seq (wpS_region ?_)
 have hsz:(cap ++ Array.replicate (F.fnD.ntmps - cap.size) undef).size=6:=by simp [hc,F.ntD]
 rw [show List.range F.opsA.size=[0,1] by rw [F.hA];rfl]
 unfold wpOpsS
 rw [show F.opsA[0]? = some F.oA1 by rw [F.hA];rfl]
 simp only [Region.wanted,F.oA1g,i1X,n0p]
 have hrec:recoverD (c0 :: cs)=none:=by simp [recoverD,hu]
 rw [hrec]
 simp only
 unfold wpOpsS
 rw [show F.opsA[1]? = some F.oA2 by rw [F.hA];rfl]
 simp only [Region.wanted,F.oA2g,i1X]
 generalize ha:({ tmps:=cap ++ Array.replicate (F.fnD.ntmps - cap.size) undef,defers:=[] }:Act).put F.oA1.dst .nilIface=a1
 have hsz1:a1.tmps.size=6:=by rw [← ha,F.oA1d];simp [Act.put,hsz]
 have hd1:a1.defers=[]:=by rw [← ha];cases F.oA1.dst <;> rfl
 have h3:a1.eval (.tmp 3)=.nilIface:=by
  rw [← ha,F.oA1d]
  simp [Act.put,Act.eval,i1u,i1Q,hsz]
 rw [F.oA2f a1.eval w h3 rfl]
 simp only [Oper.upon]
 unfold wpOpsS
 show (Code.cond (.tmp 4) (.region F.iB F.opsB false) .skip).wpS X.P _ _ _ _
 refine wpS_cond (t:=false) ?_ ?_
 ·rw [F.oA2d];simp [Act.put,Act.eval,i1u,i1Q,hsz1]
 ·simp only [i1H,j1h]
  refine wpS_of_wp (wp_skip ?_)
  refine ⟨by rw [c0G];exact hd1,c0.mode,rfl,.tuple #[],?_,⟨⟨_,rfl⟩,hu,rfl⟩⟩
  simp [results,F.resD]
theorem K0g (F:QF X.P) (hcall:e0g X call) (hdraw:r0A X call) {φ2:Inj} {v:Value} {ty:TypeId} {u:Value} (hv:v=.iface ty u) {cap:Array Value} (hR:Rel X φ2 (g0D F H) w)
  (hc:CR X φ2 w.shape? [pt (H.size + 2),pt (H.size + 3),pt (H.size + 4)] cap.toList) :
  CallsD X.P F.fD cap (.panicking [{ v,recovered:=false }]) w fun e u' w'=>(∃ x,e=.returned x)∧u' = .panicking [{ v,recovered:=true }]∧∃ φ4 G',d0s X H.size φ2 (g0D F H) w φ4 G' w' ∧
   G'.blk (H.size + 2)=.row false F.tA F.zA∧G'.blk (H.size + 3)=.row false F.tI [.int .i64 0]∧G'.blk (H.size + 4)=.row false F.tB [.bool false]:=by
 refine callsD_of_wpS F.hfnD F.bodyD ?_
 intro c0 cs hu
 refine wpS_seq (wpS_region ?_)
 have hcs:cap.size=3:=by have:=hc.1;simpa using this.symm
 have hsz:(cap ++ Array.replicate (F.fnD.ntmps - cap.size) undef).size=6:=by simp [hcs,F.ntD]
 rw [show List.range F.opsA.size=[0,1] by rw [F.hA];rfl]
 unfold wpOpsS
 rw [show F.opsA[0]? = some F.oA1 by rw [F.hA];rfl]
 simp only [Region.wanted,F.oA1g,i1X,n0p]
 have hrec:recoverD (c0 :: cs)=some (v,{ c0 with mode:=.panicking ({ v,recovered:=true } :: []) } :: cs):=by simp [recoverD,hu]
 rw [hrec]
 simp only
 unfold wpOpsS
 rw [show F.opsA[1]? = some F.oA2 by rw [F.hA];rfl]
 simp only [Region.wanted,F.oA2g,i1X]
 have hT0:CR X φ2 w.shape? ([pt (H.size + 2),pt (H.size + 3),pt (H.size + 4)] ++ un 3) (cap ++ Array.replicate (F.fnD.ntmps - cap.size) undef).toList:=by
  rw [k1x,Array.toList_replicate,hcs,F.ntD]
  exact hc.append (CR.cons VR.undef (CR.cons VR.undef (CR.cons VR.undef CR.nil)))
 generalize ha0:({ tmps:=cap ++ Array.replicate (F.fnD.ntmps - cap.size) undef,defers:=[] }:Act)=a0
 have hs0:a0.tmps.size=6:=by rw [← ha0];exact hsz
 have hd0:a0.defers=[]:=by rw [← ha0]
 have hT0':CR X φ2 w.shape? ([pt (H.size + 2),pt (H.size + 3),pt (H.size + 4)] ++ un 3) a0.tmps.toList:=by rw [← ha0];exact hT0
 have h3:(a0.put F.oA1.dst v).eval (.tmp 3)=.iface ty u:=by
  rw [F.oA1d]
  simp [Act.put,Act.eval,i1u,i1Q,hs0,hv]
 rw [F.oA2t (a0.put F.oA1.dst v).eval w ty u h3 rfl]
 simp only [Oper.upon]
 unfold wpOpsS
 show (Code.cond (.tmp 4) (.region F.iB F.opsB false) .skip).wpS X.P _ _ _ _
 refine wpS_cond (t:=true) ?_ ?_
 ·rw [F.oA2d,F.oA1d];simp [Act.put,Act.eval,i1u,i1Q,hs0]
 ·simp only [i1X]
  have hcB:=F.cB
  simp only [e0i,i1o,i1i,i1q,i1l,SCode.reg.injEq] at hcB
  obtain ⟨l,hl,hlq⟩:=hcB
  subst hlq
  have hlen:F.opsB.size=(qB F.zA.length F.zA).length:=by rw [j0t hl];simp
  obtain ⟨t',G',e1,g2,g3,g4⟩:=i1d (call:=call) (H:=H) F (t:=put ([pt (H.size + 2),pt (H.size + 3),pt (H.size + 4)] ++ un 3) (some 4) (.bool true)) (by simp [put,un]) (by simp [put,get,un,List.replicate]) (by simp [put,get,un,List.replicate]) (by simp [put,get,un,List.replicate])
  simp only [b0f] at e1
  refine wpS_of_wp (wp_region ?_)
  rw [List.range_eq_range',hlen]
  have hT1:CR X φ2 w.shape? (put ([pt (H.size + 2),pt (H.size + 3),pt (H.size + 4)] ++ un 3) (some 4) (.bool true)) (a0.put (some 4) (.bool true)).tmps.toList:=i0W hT0' (.bool true) (some 4)
  refine t0k hcall (j:=3) F.blB (qB F.zA.length F.zA) 0 _ (g0D F H) φ2 w (a0.put (some 4) (.bool true)) _ (fun i s hi=>?_) hR hT1 (by rw [l0X];omega) ?_ ?_ e1 ?_
  ·refine ⟨?_,?_⟩
   ·unfold qB at hi
    match i,hi with
    | 0,hi=>simp at hi;rw [← hi]
    | 1,hi=>simp at hi;rw [← hi]
    | 2,hi=>simp at hi;rw [← hi]
    | 3,hi=>simp at hi;rw [← hi]
    | i + 4,hi=>simp at hi
   ·obtain ⟨x,h1,h2⟩:=l0x hl i s hi
    exact ⟨x,by simpa using h1,h2⟩
  ·intro i hi
   rw [F.oA2d,F.oA1d]
   simp only [Act.put,i1u,i1Q]
   by_cases h4:4=i
   ·subst h4;simp [hs0]
   ·simp [h4,show ¬ 3=i by omega]
  ·rw [F.oA2d,F.oA1d];simp [Act.put]
  ·intro φ4 b' w' hst hd
   refine ⟨?_,.panicking [{ v,recovered:=true }],rfl,.tuple #[],?_,⟨_,rfl⟩,rfl,φ4,G',hst,g2,g3,g4⟩
   ·rw [hd,c0G,c0G];exact hd0
   ·simp [results,F.resD]
end
section
open Go
variable {X:Cx} {call:Nat→FuncId→List Value→a0e→Res (Value × a0e)} {φ:Inj} {H H':a0e} {w:World} {fl:Nat}
theorem I0Z (F:QF X.P) {t:b0b} {G:a0e} {m:Nat} {a:List Value} {k:IntKind} {n:Int} {b:Bool} (L:X0H t m) (ha:a.length=F.zA.length)
  (b2:G.blk (m + 2)=.row false F.tA a) (b3:G.blk (m + 3)=.row false F.tI [.int k n]) (b4:G.blk (m + 4)=.row false F.tB [.bool b]) :
  e0O G t [.cell 4 true F.zA.length,.cell 5 false 1,.cell 6 false 1]=some [.agg a.toArray,.int k n,.bool b]:=by
 have hnz:=F.nz
 have l1:=N0a b2 (by omega)
 rw [ha] at l1
 simp only [e0O,r0z,L.a,L.i,L.b,l1,B0m b3,B0m b4]
theorem n0q (F:QF X.P) {t:b0b} {G:a0e} {φ4:Inj} {w4:World} {a:Act} {vs:List Value} (hR:Rel X φ4 G w4) (hT:CR X φ4 w4.shape? t a.tmps.toList)
  (hv:e0O G t [.cell 4 true F.zA.length,.cell 5 false 1,.cell 6 false 1]=some vs):∃ v',(results F.fn a.tmps).run X.P w4=.ok v' w4∧VR X φ4 w4.shape? (d0v vs) v':=by
 obtain ⟨vs',hcr,hrun⟩:=J0a F.res hv hR hT
 refine ⟨_,?_,w0J hcr⟩
 have e1:results F.fn a.tmps=(do let vs ← F.fn.results.mapM (n0l a.tmps);pure (if h:vs.size=1 then vs[0] else .tuple vs)):=rfl
 rw [e1,k1T]
 simp only [Sem.run_bind,Sem.run_map,hrun]
 rfl
theorem g1h {S:Shp} {a b c v:Value} (h:VR X φ S (.tuple #[a,b,c]) v):∃ a' b' c',v=.tuple #[a',b',c']∧VR X φ S a a'∧VR X φ S b b'∧VR X φ S c c':=by
 cases h with
 | tuple _ m h1 h2 =>
  have h:CR X φ S [a,b,c] m.toList:=VR.tuple_iff.1 (.tuple _ m h1 h2)
  obtain ⟨a',r,e1,ka,h⟩:=h.cons_left
  obtain ⟨b',r,rfl,kb,h⟩:=h.cons_left
  obtain ⟨c',r,rfl,kc,h⟩:=h.cons_left
  obtain rfl:=h.nil_left
  exact ⟨a',b',c',by rw [show m = #[a',b',c'] from Array.toList_inj.1 e1],ka,kb,kc⟩
theorem J0u {S:Shp} {a b c a' b' c':Value} (ka:VR X φ S a a') (kb:VR X φ S b b') (kc:VR X φ S c c'):VR X φ S (.tuple #[a,b,c]) (.tuple #[a',b',c']) :=
 VR.tuple_iff.2 (CR.cons ka (CR.cons kb (CR.cons kc CR.nil)))
theorem B0i {φ':Inj} {S S':Shp} {k:IntKind} {n:Int} {u:Value} (h:VR X φ S (.int k n) u):VR X φ' S' (.int k n) u:=by cases h;exact .int _ _
theorem w0j {φ':Inj} {S S':Shp} {b:Bool} {u:Value} (h:VR X φ S (.bool b) u):VR X φ' S' (.bool b) u:=by cases h;exact .bool _
theorem z0f (F:QF X.P) (hcall:e0g X call) (hdraw:r0A X call) (hnp:F.nL ≠ 0) (hns:F.nS ≠ 0) :
  e0g X fun fl f args H=>if f=F.fQ then match args with | [.agg p,.agg s]=>(if p.size=F.nL∧s.size=F.nS then d0Z F.zA H (call (max fl H.size) F.fS [.agg #[],.agg p,.agg s] H) else .bad) | _=>.bad else .bad:=by
 intro fl f args H φ w args' hR hA hfl
 refine And.intro ?_ ?_
 case refine_2 =>
  intro v he
  exfalso
  simp only at he
  split at he
  ·split at he
   ·split at he
    ·unfold d0Z at he
     split at he
     ·cases he
     ·cases he
     ·cases he
     ·split at he
      ·split at he <;> cases he
      ·cases he
     ·cases he
    ·cases he
   ·cases he
  ·cases he
 intro v H' he
 simp only at he
 split at he
 case isFalse=>cases he
 rename_i hf
 subst hf
 split at he
 case h_2=>cases he
 rename_i p s
 split at he
 case isFalse=>cases he
 rename_i hsz
 rw [show max fl H.size=H.size by omega] at he
 obtain ⟨u0,r,hl0,hp0,hA1⟩:=hA.cons_left
 obtain ⟨u1,r,rfl,hs0,hA2⟩:=hA1.cons_left
 obtain rfl:=hA2.nil_left
 have has:args'.size=2:=by have:=l1m List.length hl0;simpa using this
 refine ⟨F.hrun,calls_of_wp_defers F.hfn F.body ?_⟩
 -- region 0
 generalize ha0:({ tmps:=args' ++ Array.replicate (F.fn.ntmps - args'.size) undef,defers:=[] }:Act)=a0
 have hd0:a0.defers=[]:=by rw [← ha0]
 have hT0:CR X φ w.shape? ([.agg p,.agg s] ++ un 15) a0.tmps.toList:=by
  rw [← ha0,has,F.nt,k1x,Array.toList_replicate]
  refine hA.append ?_
  show CR X φ w.shape? (un 15) (List.replicate 15 undef)
  unfold un
  generalize 15=m
  induction m with
  | zero=>exact CR.nil
  | succ m ih=>exact CR.cons VR.undef ih
 refine wp_seq (wp_mono (e0u hcall hdraw 1 _ _ H.size _ H φ w a0 F.c0 hR hT0 (i1j _) hd0 (by rw [g1f];simp)).wp ?_)
 intro e a1 w1 hp
 rw [g1f F p s] at hp
 obtain ⟨rfl,hd1,φ1,hT1,hst1⟩:=hp
 -- region 1
 show (Code.seq _ _).wp _ _ a1 w1
 refine wp_seq (wp_region ?_)
 rw [show List.range F.ops1.size=List.range' 0 (q1 F.fD).length ++ [1] by rw [F.h1];rfl]
 refine r0f hcall (fl:=H.size) (q1 F.fD) 0 _ (hp5 F p s H) φ1 w1 a1 (fun i s hi=>?_) hst1.rel hT1 (by rw [w0w];omega) (h1Z p s) ?_
 ·unfold q1 at hi
  match i,hi with
  | 0,hi=>simp at hi;subst hi;exact ⟨F.o1,by rw [F.h1];rfl,F.o1c⟩
  | i + 1,hi=>simp at hi
 intro φ2 a2 w2 hT2 hst2 hd2
 have hst02:=hst1.trans hst2 (i1j _) hR
 unfold wpOps
 rw [show F.ops1[1]? = some F.o2 by rw [F.h1];rfl]
 simp only [Region.wanted,F.o2g,i1X]
 refine .inl ?_
 have h7:=hT2.get 7
 rw [show (tm7 F.fD p s H.size).getD 7 undef=.func (.func F.fD) #[] #[pt (H.size + 2),pt (H.size + 3),pt (H.size + 4)] from rfl,← a0U] at h7
 generalize hu7:a2.tmps.getD 7 undef=u7 at h7
 cases h7 with
 | func _ _ _ a' cap g1 g2 g3 g4 =>
 have ha':a' = #[]:=by simpa using g1.symm
 subst ha'
 have hdef:(execOp a2.eval F.o2).run X.P w2=.ok (.defer { target:=.fn (.func F.fD) cap,args:=#[] }) w2:=by
  have:a2.eval (.tmp 7)=.func (.func F.fD) #[] cap:=hu7
  simp [execOp,F.o2o,resolve,Deferred.ofValue,this]
 unfold Oper.wp
 rw [hdef,Oper.upon_defer,F.o2d]
 unfold wpOps
 have hcap:cap.size=3:=by have:=g3;simpa using this.symm
 -- region 2
 generalize hD:([{ target:=.fn (.func F.fD) cap,args:=#[] }]:List Deferred)=D
 generalize ha3:({ a2 with defers:={ target:=.fn (.func F.fD) cap,args:=#[] } :: a2.defers }:Act).put none undef=a3
 have hd3:a3.defers=D:=by rw [← ha3,← hD];show _ :: a2.defers=_;rw [hd2,hd1]
 have ht3:a3.tmps=a2.tmps:=by rw [← ha3];rfl
 show (Code.seq _ _).wp _ _ a3 w2
 refine wp_seq (wp_region ?_)
 have hc2:=F.c2
 simp only [e0i,i1o,i1i,i1q,i1l,SCode.reg.injEq] at hc2
 obtain ⟨l2,hl2,hlq⟩:=hc2
 subst hlq
 have hlen2:F.ops2.size=9:=by have:=j0t hl2;simp [q2a,q2b] at this;omega
 rw [show List.range F.ops2.size=List.range' 0 (q2a F.nL F.nS).length ++ (3 :: List.range' 4 (q2b F.zA.length).length) by rw [hlen2];rfl]
 have hget2:=l0x hl2
 refine r0f hcall (fl:=H.size) (q2a F.nL F.nS) 0 _ (hp5 F p s H) φ2 w2 a3 (fun i s hi=>?_) hst2.rel (by rw [ht3];exact hT2) (by rw [w0w];omega) (i1a F hsz.1 hsz.2 hnp hns) ?_
 ·obtain ⟨x,h1,h2⟩:=hget2 i s (by
   have hlt:i < (q2a F.nL F.nS).length:=(i1M.1 hi).1
   rw [i1V hlt];exact hi)
  exact ⟨x,by simpa using h1,h2⟩
 intro φ3 a4 w3 hT3 hst3 hd4
 have hst03:=hst02.trans hst3 (i1j _) hR
 have hR3:Rel X φ H w3:=hst03.rel0 hR
 have hd4':a4.defers=D:=hd4.trans hd3
 -- where the own blocks lie
 have hown:∀ k,k < 5→∃ x,φ3 (H.size + k)=some x:=by
  intro k hk
  have h:=hT3.get (k + 2)
  have e:(t0t F.fD p s H.size).getD (k + 2) undef=pt (H.size + k):=by
   match k,hk with
   | 0,_=>rfl
   | 1,_=>rfl
   | 2,_=>rfl
   | 3,_=>rfl
   | 4,_=>rfl
  rw [e] at h
  unfold pt at h
  generalize a4.tmps.toList.getD (k + 2) undef=u at h
  cases h with
  | ptr _ _ B o h1 h2 h3=>exact ⟨_,h2⟩
 obtain ⟨B,o,hφ⟩:∃ B o:Nat→Nat,∀ k,k < 5→φ3 (H.size + k)=some (B k,o k) :=
  ⟨fun k=>((φ3 (H.size + k)).getD (0,0)).1,fun k=>((φ3 (H.size + k)).getD (0,0)).2,fun k hk=>by obtain ⟨x,hx⟩:=hown k hk;simp [hx]⟩
 have O:=Z0K F hR hst03 hφ
 have hφ2:∀ k,k < 5→φ2 (H.size + k)=some (B k,o k):=by
  intro k hk
  have h:=hT2.get (k + 2)
  have e:(tm7 F.fD p s H.size).getD (k + 2) undef=pt (H.size + k):=by
   match k,hk with
   | 0,_=>rfl
   | 1,_=>rfl
   | 2,_=>rfl
   | 3,_=>rfl
   | 4,_=>rfl
  rw [e] at h
  unfold pt at h
  generalize a2.tmps.toList.getD (k + 2) undef=u at h
  cases h with
  | ptr _ _ B' o' h1 h2 h3=>rw [h2,← hst3.ext _ _ h2,hφ k hk]
 have hcapG:∀ (φ':Inj) (S:Shp) (m:Nat),(∀ k,k < 5→φ' (m + k)=some (B k,o k))→CR X φ' S [pt (m + 2),pt (m + 3),pt (m + 4)] cap.toList:=by
  intro φ' S m h
  refine ⟨by simp [hcap],fun i hi=>?_⟩
  rw [← a0U]
  have hi3:i < 3:=by simpa using hi
  match i,hi3 with
  | 0,_=>exact h0v (hφ2 2 (by omega)) (h 2 (by omega)) (by simpa using g4 0 (by simp))
  | 1,_=>exact h0v (hφ2 3 (by omega)) (h 3 (by omega)) (by simpa using g4 1 (by simp))
  | 2,_=>exact h0v (hφ2 4 (by omega)) (h 4 (by omega)) (by simpa using g4 2 (by simp))
 -- the call
 unfold wpOps
 rw [F.o3i]
 simp only [Region.wanted,F.o3g,i1X]
 refine .inl ?_
 have h9:=hT3.get 9
 have h10:=hT3.get 10
 have h11:=hT3.get 11
 rw [show (t0t F.fD p s H.size).getD 9 undef=.agg #[] from rfl,← a0U] at h9
 rw [show (t0t F.fD p s H.size).getD 10 undef=.agg p from rfl,← a0U] at h10
 rw [show (t0t F.fD p s H.size).getD 11 undef=.agg s from rfl,← a0U] at h11
 have hargs:CR X φ w3.shape? [.agg #[],.agg p,.agg s] (#[a4.tmps.getD 9 undef,a4.tmps.getD 10 undef,a4.tmps.getD 11 undef]:Array Value).toList:=by
  refine CR.cons ?_ (CR.cons (VR.back hR hst03 hp0 h10) (CR.cons (VR.back hR hst03 hs0 h11) CR.nil))
  generalize a4.tmps.getD 9 undef=u at h9
  cases h9 with
  | agg _ a' g1 g2=>exact .agg _ _ g1 (fun i hi=>by simp at hi)
 have hcl:=hcall H.size F.fS [.agg #[],.agg p,.agg s] H φ w3 #[a4.tmps.getD 9 undef,a4.tmps.getD 10 undef,a4.tmps.getD 11 undef] hR3 hargs (i1j _)
 have hex:(execOp a4.eval F.o3).run X.P w3=(callFunc F.fS #[a4.tmps.getD 9 undef,a4.tmps.getD 10 undef,a4.tmps.getD 11 undef]).run X.P w3:=by
  unfold execOp
  rw [F.o3o]
  simp [resolve,Deferred.ofValue,invoke,Act.eval]
 unfold Oper.wp
 rw [hex]
 cases hcr:call H.size F.fS [.agg #[],.agg p,.agg s] H with
 | bad=>rw [hcr] at he;simp [d0Z] at he
 | pan v0 =>
  rw [hcr] at he
  obtain ⟨⟨ty,u,rfl⟩,hruns,hcalls⟩:=hcl.2 v0 hcr
  simp only [d0Z,Res.ok.injEq,k1d] at he
  obtain ⟨rfl,rfl⟩:=he
  rw [d0P hruns]
  refine Calls.mono hcalls ?_
  rintro e w4 ⟨⟨ty',u',rfl⟩,hpan⟩
  have hst4:=K0Q hR3 hpan
  have hold:∀ k,k < 5→w4.heap[B k]? = w3.heap[B k]?:=fun k hk=>hst4.old hR3 (O.hi k hk)
  have r5:=s0B F O hst4.rel hold (B0B F hR O hR3 hst4)
  have sl:=n0s (B:=B) (o:=o) (m:=H.size) (S2:=w4.shape?) hR hst03 hp0 hs0 hφ (fun k hk=>q0x (φ:=φ) k hk) (fun b x hb=>by rw [u0o (hR.lt b x hb)];exact hb) hst4.shp hT3
  show Leaves X.P F.fn a4.tmps _ a4.defers _ w4
  rw [hd4',← hD]
  have hcapR:CR X (B0Y φ H.size B o) w4.shape? [pt (H.size + 2),pt (H.size + 3),pt (H.size + 4)] cap.toList:=by
   exact hcapG _ _ _ fun k hk=>q0x k hk
  refine leaves_cons (by simp) (by simp only [invoke];rw [d0P F.runD];simp) ((K0g F hcall hdraw rfl r5 hcapR).mono ?_)
  rintro e u'' w5 ⟨⟨x,rfl⟩,rfl,φ5,G',hst5,b2,b3,b4⟩
  show Leaves X.P F.fn a4.tmps _ [] (settle (.panicking [{ v:=.iface ty' u',recovered:=true }])) w5
  have L:X0H (t0t F.fD p s H.size) H.size:=⟨rfl,rfl,rfl,rfl⟩
  obtain ⟨v',hrun,hvr⟩:=n0q F hst5.rel (sl.mono hst5.ext hst5.shp) (I0Z F L rfl b2 b3 b4)
  refine ⟨v',hrun,v',φ,rfl,?_,w0s F hR hfl hst03 O hst4 hst5⟩
  have e1:d0v [.agg F.zA.toArray,.int .i64 0,.bool false]=.tuple #[.agg F.zA.toArray,.int .i64 0,.bool false]:=rfl
  rw [e1] at hvr
  obtain ⟨x1,x2,x3,rfl,k1,k2,k3⟩:=g1h hvr
  refine J0u ?_ (B0i k2) (w0j k3)
  cases k1 with
  | agg _ m h1 h2 =>
   refine VR.agg_iff.2 (s0i F.zf (VR.agg_iff.1 (.agg _ m h1 h2)))
 | ok r0 =>
  obtain ⟨v0,H0⟩:=r0
  rw [hcr] at he
  obtain ⟨hruns,hcalls⟩:=hcl.1 v0 H0 hcr
  obtain ⟨a,k,n,rfl,rfl,rfl,hasz,hapl⟩:∃ a k n,v0=.tuple #[.agg a,.int k n]∧v=.tuple #[.agg a,.int k n,.bool true]∧H' = H0∧a.size=F.zA.length∧a.toList.all a0t=true:=by
   cases v0 <;> simp only [d0Z] at he <;> try cases he
   rename_i vs
   split at he
   ·rename_i a k n heq
    split at he
    ·rename_i hc
     simp only [Res.ok.injEq,k1d] at he
     obtain ⟨rfl,rfl⟩:=he
     exact ⟨a,k,n,by rw [show vs = #[.agg a,.int k n] from Array.toList_inj.1 heq],rfl,rfl,hc.1,hc.2⟩
    ·cases he
   ·cases he
  rw [d0P hruns]
  refine Calls.mono hcalls ?_
  rintro e w4 ⟨v0',φ',rfl,hv0,hst4⟩
  have hold:∀ k,k < 5→w4.heap[B k]? = w3.heap[B k]?:=fun k hk=>hst4.old hR3 (O.hi k hk)
  have r5:=s0B F O hst4.rel hold (B0B F hR O hR3 hst4)
  have hext5:∀ b x,φ' b=some x→B0Y φ' H'.size B o b=some x:=fun b x hb=>by rw [u0o (hst4.rel.lt b x hb)];exact hb
  have sl:=n0s (B:=B) (o:=o) (m:=H'.size) (S2:=w4.shape?) hR hst03 hp0 hs0 hφ (fun k hk=>q0x (φ:=φ') k hk) (fun b x hb=>hext5 b x (hst4.ext b x hb)) hst4.shp hT3
  have sl2:=i0W sl (hv0.mono hext5 (fun _ _ h=>h)) F.o3.dst
  obtain ⟨t4,G4,e4,L4,hG4,b2,b3,b4⟩:=i1c (call:=call) (H':=H') F (p:=p) (s:=s) (k:=k) (n:=n) hasz hapl
  have hd5:(a4.put F.o3.dst v0').defers=D:=by rw [c0G];exact hd4'
  have hops4:∀ i s',(q2b F.zA.length)[i]? = some s'→∃ o,F.ops2[4 + i]? = some o∧g0N X.P F.ops2 true o=some s':=fun i s' hi=>by
   obtain ⟨x,h1,h2⟩:=hget2 (4 + i) s' (by
    rw [show 4 + i=(q2a F.nL F.nS).length + (i + 1) by simp [q2a];omega,j1c (by omega)]
    simpa using hi)
   exact ⟨x,by simpa using h1,h2⟩
  show wpOps X.P F.ops2 _ (List.range' 4 (q2b F.zA.length).length) (a4.put F.o3.dst v0') w4
  refine d0j ?_ (r0g hcall (fl:=H'.size) (D:=D) (q2b F.zA.length) 4 _ (g0D F H') (B0Y φ' H'.size B o) w4 (a4.put F.o3.dst v0') hops4 r5 (by rw [F.o3d] at sl2 ⊢;exact sl2) (by rw [l0X];omega) hd5 (by rw [e4];simp))
  rintro e a6 w5 hp
  rw [e4] at hp
  obtain ⟨rfl,hd6,φ5,hT6,hst5⟩:=hp
  show (Code.seq _ _).wp _ _ a6 w5
  obtain ⟨t5,G5,e5,L5,c2,c3,c4⟩:=i1b (call:=call) (bef:=F.bef) F L4 (by simp [hasz]) hapl b2 b3 b4
  refine wp_seq (wp_mono (e0u hcall hdraw 1 _ _ H'.size _ G4 φ5 w5 a6 F.c3 hst5.rel hT6 (by omega) hd6 (by rw [e5];simp)).wp ?_)
  rintro e a7 w6 hp
  rw [e5] at hp
  obtain ⟨rfl,hd7,φ6,hT7,hst6⟩:=hp
  show (Code.ret).wp _ _ a7 w6
  refine wp_ret ?_
  show Leaves X.P F.fn a7.tmps _ a7.defers .returning w6
  rw [hd7,← hD]
  refine leaves_cons (by simp) (by simp only [invoke];rw [d0P F.runD];simp) ((K0h F hcap).mono ?_)
  rintro e u'' w7 ⟨⟨x,rfl⟩,rfl,rfl⟩
  show Leaves X.P F.fn a7.tmps _ [] .returning w7
  have hst56:=hst5.trans hst6 (i1j _) r5
  obtain ⟨v',hrun,hvr⟩:=n0q F hst6.rel hT7 (I0Z F L5 (by simp [hasz]) c2 c3 c4)
  refine ⟨v',hrun,v',φ',rfl,?_,w0s F hR hfl hst03 O hst4 hst56⟩
  have e1:d0v [.agg a.toList.toArray,.int k n,.bool true]=.tuple #[.agg a,.int k n,.bool true]:=by simp [d0v]
  rw [e1] at hvr
  obtain ⟨x1,x2,x3,rfl,k1,k2,k3⟩:=g1h hvr
  refine J0u ?_ (B0i k2) (w0j k3)
  -- the answer's own cells lead where they led
  obtain ⟨y,hy⟩:∃ y,VR X φ' w4.shape? (.agg a) y:=by
   cases hv0 with
   | tuple _ m h1 h2 =>
    have h:=h2 0 (by simp)
    exact ⟨_,by simpa using h⟩
  have ky:=VR.back r5 hst56 (hy.mono hext5 (fun _ _ h=>h)) k1
  refine (VR.cut (m:=H'.size) (fun b y hb=>hst4.rel.lt b y hb) hy ky).mono (fun b x hx=>?_) (fun _ _ h=>h)
  obtain ⟨g1,g2⟩:=b0w.1 hx
  rw [u0o g1] at g2;exact g2
end
section
open Go
def I0W:Code→Array Oper | .region _ ops _=>ops | _=>#[]
def e1g:Code→Code | .cond _ a _=>a | _=>.skip
def b1G:Nat→Code→Code
 | 0,.seq a _=>a
 | k + 1,.seq _ b=>b1G k b
 | _,c=>c
def U0E (f:Func):Code:=f.body.getD .skip
def U0K:Option SCode→List Nat | some (.draw _ b _)=>b | _=>[]
def opT (o:Oper):TypeId:=match o.op with | .binOp _ t _ _ _=>t | _=>0
def e1c (o:Oper):Array TypeId:=match o.op with | .call c=>c.argTypes | _=>#[]
def Z0v:Option TypeDesc→Array (String × TypeId) | some (.interface x)=>x | _=>#[]
theorem y0y {P:Program} {t:TypeId} {ifs:Array (String × TypeId)} (ht:P.underlying t=some (.interface ifs)) (w:World):(Op.equal t .nilIface .nilIface).run P w=.ok true w:=by
 unfold Op.equal Op.maxDepth;rw [Op.equalIn];simp only [Sem.run_bind,run_underlying ht,Result.andThen_ok];rfl
theorem t0O {P:Program} {t:TypeId} {ifs:Array (String × TypeId)} (ht:P.underlying t=some (.interface ifs)) (ty:TypeId) (u:Value) (w:World):(Op.equal t (.iface ty u) .nilIface).run P w=.ok false w:=by
 unfold Op.equal Op.maxDepth;rw [Op.equalIn];simp only [Sem.run_bind,run_underlying ht,Result.andThen_ok];rfl
theorem V0x {P:Program} {o:Oper} {t t':TypeId} {ifs:Array (String × TypeId)} (ho:o.op=.binOp .neq t (.tmp 3) (.const .nilIface) t') (ht:P.underlying t=some (.interface ifs)) (ρ:Operand→Value) (w:World)
  (h:ρ (.tmp 3)=.nilIface) (h':ρ (.const .nilIface)=.nilIface):(execOp ρ o).run P w=.ok (.value (.bool false)) w:=by
 simp [execOp,ho,h,h',eqGuard,binOp,y0y ht]
theorem K0H {P:Program} {o:Oper} {t t':TypeId} {ifs:Array (String × TypeId)} (ho:o.op=.binOp .neq t (.tmp 3) (.const .nilIface) t') (ht:P.underlying t=some (.interface ifs)) (ρ:Operand→Value) (w:World) (ty:TypeId) (u:Value)
  (h:ρ (.tmp 3)=.iface ty u) (h':ρ (.const .nilIface)=.nilIface):(execOp ρ o).run P w=.ok (.value (.bool true)) w:=by
 simp [execOp,ho,h,h',eqGuard,binOp,t0O ht]
noncomputable def K0U (k:Nat):Array Oper:=I0W (b1G k (U0E Tryz.f84))
noncomputable def qA:Array Oper:=I0W (b1G 0 (U0E Tryz.f112))
noncomputable def qB':Array Oper:=I0W (e1g (b1G 1 (U0E Tryz.f112)))
noncomputable def qf:QF Tryz.prog where
 fQ:=K0p;fD:=f1r;fS:=r0X;fn:=Tryz.f84;fnD:=Tryz.f112
 tL:=b0J;tS:=a0O;tA:=b0U;tI:=e0F;tB:=4
 zA:=(match env.quick with | some q=>q.zero | none=>[])
 nL:=(match env.quick with | some q=>q.np | none=>0)
 nS:=(match env.quick with | some q=>q.ns | none=>0)
 ops0:=K0U 0;ops1:=K0U 1;ops2:=K0U 2;ops3:=K0U 3;opsA:=qA;opsB:=qB'
 i0:=0;i1:=1;i2:=2;i3:=3;iA:=0;iB:=1
 o1:=(K0U 1).getD 0 default;o2:=(K0U 1).getD 1 default;o3:=(K0U 2).getD 3 default;oA1:=qA.getD 0 default;oA2:=qA.getD 1 default
 bef:=U0K (e0i Tryz.prog (.region 3 (K0U 3) true))
 hfn:=Tryz.func84
 hrun:=by kernel_rfl
 body:=by kernel_rfl
 np:=by kernel_rfl
 nt:=by kernel_rfl
 res:=by kernel_rfl
 c0:=by kernel_rfl
 h1:=by kernel_rfl
 o1c:=by kernel_rfl
 o2g:=by kernel_rfl
 o2d:=by kernel_rfl
 o2o:=by kernel_rfl
 c2:=by kernel_rfl
 o3i:=by kernel_rfl
 o3g:=by kernel_rfl
 o3d:=by kernel_rfl
 ats:=e1c ((K0U 2).getD 3 default)
 o3o:=by kernel_rfl
 c3:=by kernel_rfl
 nz:=by decide
 zf:=by kernel_rfl
 zp:=by kernel_rfl
 hfnD:=Tryz.func112
 runD:=by kernel_rfl
 bodyD:=by kernel_rfl
 ntD:=by kernel_rfl
 resD:=by kernel_rfl
 hA:=by kernel_rfl
 oA1g:=by kernel_rfl
 oA1d:=by kernel_rfl
 oA1o:=by kernel_rfl
 oA2g:=by kernel_rfl
 oA2d:=by kernel_rfl
 oA2f:=fun ρ w h h'=>V0x (t:=opT (qA.getD 1 default)) (t':=opT (qA.getD 1 default)) (ifs:=Z0v (Tryz.prog.underlying (opT (qA.getD 1 default)))) (by kernel_rfl) (by kernel_rfl) ρ w h h'
 oA2t:=fun ρ w ty u h h'=>K0H (t:=opT (qA.getD 1 default)) (t':=opT (qA.getD 1 default)) (ifs:=Z0v (Tryz.prog.underlying (opT (qA.getD 1 default)))) (by kernel_rfl) (by kernel_rfl) ρ w ty u h h'
 blB:=by kernel_rfl
 cB:=by kernel_rfl
end
end Go.Proofs.YtilekhkgobmolaaGreat.AI
