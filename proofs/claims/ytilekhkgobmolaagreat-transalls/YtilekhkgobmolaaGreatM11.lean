/- Part 12 of the proof: AiTr13, AiTr14, AiTr15, AiTr16, AiTr3, AiAwk, AiGreat15, AiAwk19, AiLaw8, AiRow5, AiQuick2. -/
import Derived.Test.YtilekhkgobmolaaGreatM02
import Derived.Test.YtilekhkgobmolaaGreatM07
import Derived.Test.YtilekhkgobmolaaGreatM10
set_option linter.unusedVariables false
set_option linter.unusedSimpArgs false
set_option linter.unusedSectionVars false
namespace Go.Proofs.YtilekhkgobmolaaGreat.AI
section
open Go SX
set_option maxHeartbeats 4000000
variable {fl:Nat} {H G:a0e} {R:a0u} {v w u:Value}
theorem Sls.lxm {α:Type} {Q Q':a0e→List Value→α→Prop} {e sz:Nat} {l:List α} (h:Sls Q H e sz v l) (h1:LxT e H G) (hQ:∀ cs x,Q H cs x→Q' G cs x):Sls Q' G e sz v l:=by
 obtain ⟨cs,⟨hl,hs⟩,hp⟩:=h
 refine ⟨cs,⟨hl,?_⟩,fun k hk=>hQ _ _ (hp k hk)⟩
 rcases hs with hs | ⟨b,off,cap,ro,cells,rfl,hb,ho,hcs⟩
 ·exact .inl hs
 ·exact .inr ⟨b,off,cap,ro,cells,rfl,h1 _ _ _ hb,ho,hcs⟩
theorem c0Z.lxT {C e e':Nat} {ro:Bool} {cs:List Value} (h:c0Z (some C) H G) (hb:a0e.blk H C=.row ro e' cs) (hne:e' ≠ e):LxT e H G:=by
 intro b ro' cs' hb'
 rw [h.2 b (a0j hb') (by rintro ⟨⟩;rw [hb] at hb';cases hb';exact hne rfl)];exact hb'
theorem c0Z.trans' {o:Option Nat} {G':a0e} (h:c0Z o H G) (k:c0Z o G G'):c0Z o H G' :=
 ⟨c1b h.1 k.1,fun b hb hne=>(k.2 b (by have:=h.1;omega) hne).trans (h.2 b hb hne)⟩
theorem b0a.blkAt {α:Type} {Q:a0e→List Value→α→Prop} {e sz C n k:Nat} {l:List α} (h:b0a Q fl G e sz (.slice (some ⟨C,0,none⟩) n k) l):∃ cs,a0e.blk G C=.row false e cs:=by
 obtain ⟨cs',⟨hl',⟨h1,_⟩ | ⟨b',cap,h1,hp,hf⟩⟩,h2⟩:=h
 ·cases h1
 ·cases h1;exact ⟨_,hp⟩
def m0o (y:List b0e) (set:List f0i) (N i j:Nat):List b0e :=
 (List.range N).map fun q=>a0f (rs (fun t=>b0A (y.getD t c0m) * vQ ((set.getD t aff0).all.getD q iz)) (if q < j then i + 1 else i))
def G0F (y:List b0e) (set:List f0i) (i:Nat):b0e:=a0f (rs (fun t=>b0A (y.getD t c0m) * vQ (set.getD t aff0).K) i)
section
variable {y:List b0e} {set:List f0i} {N i j:Nat}
theorem G0T:(m0o y set N i j).length=N:=by simp [m0o]
theorem u0m (h:j < (m0o y set N i j).length):(m0o y set N i j)[j]=a0f (rs (fun t=>b0A (y.getD t c0m) * vQ ((set.getD t aff0).all.getD j iz)) i):=by
 simp [m0o]
theorem G0U (hj:j < N):(m0o y set N i j).set j (a0f (rs (fun t=>b0A (y.getD t c0m) * vQ ((set.getD t aff0).all.getD j iz)) (i + 1)))=m0o y set N i (j + 1):=by
 apply e1y
 ·simp [m0o]
 ·intro q h1 h2
  rw [List.getElem_set]
  by_cases hq:j=q
  ·subst hq;simp [m0o]
  ·rw [b1T hq]
   simp only [m0o,c1J,d1u]
   by_cases h3:q < j
   ·rw [b1W h3,b1W (by omega)]
   ·rw [b1T h3,b1T (by omega)]
theorem y0h:m0o y set N i N=m0o y set N (i + 1) 0:=by
 unfold m0o
 refine d1o fun q hq=>?_
 rw [b1W (c1W.1 hq),b1T (by omega)]
theorem y0i:m0o y set N 0 0=List.replicate N (a0f 0):=by
 apply e1y
 ·simp [m0o]
 ·intro q h1 h2;simp [m0o,rs]
theorem G0S:m0o y set N set.length 0=(List.range N).map fun j=>a0f (gC y set j):=by
 unfold m0o gC
 refine d1o fun q hq=>?_
 rw [b1T (by omega)]
theorem G0V:G0F y set set.length=a0f (gK y set):=rfl
end
def x0U (H:a0e) (C K N row:Nat) (s sS:Value) (y:List b0e) (set:List f0i) (i:Nat) (ρ:Nat→Value) (G:a0e):Prop :=
 ρ 2=.int .i64 (row:Int)∧ρ 3=.pointer (some ⟨H.size,0,none⟩)∧ρ 7=.pointer (some ⟨H.size + 2,0,none⟩)∧ρ 9=.slice (some ⟨C,0,none⟩) N N∧ρ 11=.pointer (some ⟨K,0,none⟩)∧ρ 37=sS∧Ext H G ∧
  a0e.blk G H.size=.row false a0y [s]∧a0e.blk G (H.size + 2)=.row false a0b [.bool false,.slice none 0 0,.bool false,.slice none 0 0] ∧
  b0a PR (H.size + 3) G a0b 4 (.slice (some ⟨C,0,none⟩) N N) (m0o y set N i 0) ∧
  ∃ s1 s2,a0e.blk G K=.row false a0b [.bool (G0F y set i).1.1,s1,.bool (G0F y set i).2.1,s2]∧Lim G s1 (G0F y set i).1.2∧Lim G s2 (G0F y set i).2.2
def X0s (f0 N:Nat) (y:List b0e) (set:List f0i) (r:Value) (H':a0e):Prop :=
 ∃ c k,r=.tuple #[c,k]∧(∀ b,slB c=some b→f0≤b)∧b0n H' c ((List.range N).map fun j=>a0f (gC y set j))∧b0O H' k (a0f (gK y set))
theorem m0g {rows:List (List b0e)} {e:c0c} {row m:Nat} (ht:d0a H v rows) (he:i0c H w e) (hf:fl≤H.size) (hfe:j0X e) (hm:e.m=(m:Int)) (hrow:row < rows.length) (hy:Few 6 rows[row]) (hyl:rows[row].length=e.set.length) (hal:∀ a ∈ e.set,a.all.length=e.set.length + m) :
  a0S env fl T0I [v,w,.int .i64 (row:Int)] H (fun r H'=>X0s H.size (e.set.length + m) (rows.getD row []) e.set r H'∧Ext H H') R:=by
 have hyd:rows.getD row []=rows[row]:=b0F hrow
 rw [hyd]
 obtain ⟨y,hyy⟩:∃ y,y=rows[row]:=⟨_,rfl⟩
 obtain ⟨s,rfl,hs⟩:=ht
 obtain ⟨f,t,sG,sS,sP,rfl,hG,hS,hPc,hPp⟩:=he
 have hns:=hfe.ns;have hm3:=hfe.m
 rw [hm] at hm3
 obtain ⟨N,hN⟩:∃ N,N=e.set.length + m:=⟨_,rfl⟩
 rw [← hyy,← hN]
 rw [← hyy] at hy hyl
 rw [← hN] at hal
 refine a0g b1h hf (h:=?_)
 intro ρ h0
 simp [W0Q,M0S,h0,hs.cells,hG.cells,hS.cells,hPc]
 generalize hGG:Array.push (Array.push (Array.push H _) _) _=G
 obtain ⟨hx,b0,b1,b2⟩:=U0r hGG
 clear hGG
 have hG3:H.size + 3≤G.size:=a0j b2
 simp [M0T,b1,hS.slen]
 have wr:IntKind.i64.wrap ((e.set.length:Int) + e.m)=(N:Int):=by rw [hm,a0T (by omega) (by omega)];omega
 have hmk:=f0H (bytes:=64) (k:=.i64) (k':=.i64) (l:=N) (c:=N) (b1S _) (by omega) (by omega)
 simp [M0U,b1,wr,hmk]
 generalize hGG:Array.push G _=G2
 obtain ⟨hx2,b3⟩:=h0Z hGG
 clear hGG
 obtain ⟨C,hC⟩:∃ C,C=G.size:=⟨_,rfl⟩
 rw [← hC] at b3 hG3 ⊢
 have hCG:=a0j b3
 replace hx:=hx.trans hx2
 replace b0:=hx2.blk b0
 replace b1:=hx2.blk b1
 replace b2:=hx2.blk b2
 clear hx2 hmk wr hC G
 obtain ⟨hrl1,hrl2⟩:=p0Q G2 N
 have hoC:b0a PR (H.size + 3) G2 a0b 4 (.slice (some ⟨C,0,none⟩) N N) (List.replicate N c0m):=⟨_,(Own.mk b3 hrl1 hG3 |> (fun h=>by simpa using h)),fun k hk=>by rw [List.getElem_replicate];exact hrl2 k (by simpa using hk)⟩
 clear hrl1 hrl2 b3
 simp [M0V,g0Q]
 refine c0I (n:=N) (fun i ρ G=>ρ 2=.int .i64 (row:Int)∧ρ 3=.pointer (some ⟨H.size,0,none⟩)∧ρ 4=.pointer (some ⟨H.size + 1,0,none⟩)∧ρ 7=.pointer (some ⟨H.size + 2,0,none⟩)∧ρ 9=.slice (some ⟨C,0,none⟩) N N∧c0Z (some C) G2 G∧b0a PR (H.size + 3) G a0b 4 (.slice (some ⟨C,0,none⟩) N N) (List.replicate i (a0f 0) ++ List.replicate (N - i) c0m)) rfl rfl (by decide) (by omega) (by simp) (by simp) ?_ ?_ ?_ ?_
 ·exact ⟨by simp [h0],by simp,by simp,by simp,by simp,(Ext.refl G2).extB,by simpa using hoC⟩
 ·intro i ρ ρ' G h hI;simpa [h] using hI
 ·clear h0 ρ hoC
  rintro i ρ G hi gi gn ⟨g2,g3,g4,g7,g9,hxb,ho⟩
  have hflG:H.size + 3≤G.size:=by have:=hxb.1;omega
  simp [M0W,M0X,gi,g9]
  refine (b0U (n:=0) (by omega) (by decide) (by decide)).mono ?_
  rintro _ G5 ⟨⟨s3,s4,rfl,k3,k4⟩,hx3⟩
  have e0:((0:Int):Rat)=0:=rfl
  rw [e0] at k3 k4 ⊢
  replace ho:=ho.mono a0H hx3
  replace hxb:=hxb.trans' hx3.extB
  obtain ⟨G6,hst,ho2,hxb2⟩:=b0a.store (j:=i) (x:=a0f 0) (w:=.agg #[.bool (a0f 0).1.1,s3,.bool (a0f 0).2.1,s4]) (ho.low (fl':=H.size) (by omega)) (by simp;omega) (by decide) rfl (by simp [k3.plain,k4.plain]) (fun G' _ hl=>⟨s3,s4,rfl,k3.lx hl,k4.lx hl⟩) (by decide) (fun G' cs y _ hl h=>b0O.lx h hl)
  have hia:iaV 4 (.slice (some ⟨C,0,none⟩) N N) (.int .i64 (i:Int))=some (adr 4 (.slice (some ⟨C,0,none⟩) N N) i):=by
   have:=ho.sls.ia (k:=.i64) (j:=i) (by simp;omega);exact this
  simp [g9,hia,hst]
  refine Rnd.mk (by simp [gi]) (by simp [gn]) ⟨by simp [g2],by simp [g3],by simp [g4],by simp [g7],by simp [g9],hxb.trans' hxb2,?_⟩
  have hset:(List.replicate i (a0f 0) ++ List.replicate (N - i) c0m).set i (a0f 0)=List.replicate (i + 1) (a0f 0) ++ List.replicate (N - (i + 1)) c0m:=by
   rw [show N - i=(N - (i + 1)) + 1 by omega,List.replicate_succ,List.set_append_right _ _ (by simp),e1j,Nat.sub_self,List.set_cons_zero,List.replicate_succ',d1K];rfl
  rw [hset] at ho2
  exact ho2.up (fun b hb=>by simp [slB] at hb;omega)
 clear h0 ρ hoC
 rintro ρ G gz1 gz2 ⟨g2,g3,g4,g7,g9,hxb,ho⟩
 clear gz1 gz2
 rw [Nat.sub_self,List.replicate_zero,List.append_nil,← y0i (y:=y) (set:=e.set)] at ho
 have hxG:=hxb.1
 replace b0:=(hxb.2 _ (by omega) (by simp;omega)).trans b0
 replace b1:=(hxb.2 _ (by omega) (by simp;omega)).trans b1
 replace b2:=(hxb.2 _ (by omega) (by simp;omega)).trans b2
 replace hx:Ext H G:=⟨by omega,fun b hb=>(hxb.2 b (by omega) (by simp;omega)).trans (hx.2 b hb)⟩
 replace hCG:C < G.size:=by omega
 clear hxb hxG G2
 simp [M0Y]
 refine (b0U (n:=0) (by omega) (by decide) (by decide)).mono ?_
 rintro _ G5 ⟨⟨s3,s4,rfl,k3,k4⟩,hx3⟩
 have e0:((0:Int):Rat)=0:=rfl
 rw [e0] at k3 k4 ⊢
 replace ho:=ho.mono a0H hx3
 replace b0:=hx3.blk b0
 replace b1:=hx3.blk b1
 replace b2:=hx3.blk b2
 replace hx:=hx.trans hx3
 replace hCG:C < G5.size:=by have:=hx3.1;omega
 simp [k3.cells,k4.cells,k3.plain,k4.plain,show H.size≤G5.size by omega]
 generalize hGG:Array.setIfInBounds (Array.push _ _) _ _=G6
 obtain ⟨hx2,b4⟩:=new1 hGG
 clear hGG
 obtain ⟨K,hK⟩:∃ K,K=G5.size:=⟨_,rfl⟩
 rw [← hK] at b4 hCG ⊢
 replace ho:=ho.mono a0H hx2
 replace b0:=hx2.blk b0
 replace b1:=hx2.blk b1
 replace b2:=hx2.blk b2
 replace hx:=hx.trans hx2
 replace k3:=k3.mono hx2
 replace k4:=k4.mono hx2
 clear hx2 hx3 hK G5 G
 simp [M0Z,g4,b1,(hS.mono b0T hx).slen]
 have hfy:∀ j,szR (b0A (y.getD j c0m))≤6 + 6 + 2:=fun j=>by have:=hy.sz j;omega
 refine c0I (n:=e.set.length) (x0U H C K N row s sS y e.set) rfl rfl (by decide) (by omega) (by simp) (by simp) ?_ ?_ ?_ ?_
 ·exact ⟨by simp [g2],by simp [g3],by simp [g7],by simp [g9],by simp,by simp,hx,b0,b2,ho,s3,s4,b4,k3,k4⟩
 ·intro i ρ ρ' G h hI;simpa [x0U,h] using hI
 ·clear g2 g3 g4 g7 g9 ρ b0 b1 b2 b4 k3 k4 ho hx G6
  rintro i ρ G hi gi gn ⟨g2,g3,g7,g9,g11,g37,hx,b0,b2,ho,k1,k2,bK,q1,q2⟩
  have kl:=hS.mono b0T hx
  obtain ⟨we,hle,k0⟩:=g0n.load kl hi
  obtain ⟨sX,sW,sk,rfl,kX,kW,kK⟩:=k0
  have hfa:=hfe.set _ (c1a hi)
  have hal':=hal _ (c1a hi)
  have hKl:=a0j bK
  simp [F0q,g37,gi,kl.ia hi,hle,kX.cells,kW.cells,kX.plain,kW.plain,kK.cells,kK.plain,show H.size≤G.size by omega]
  generalize hGG:Array.setIfInBounds (Array.push _ _) _ _=G3
  obtain ⟨hx2,b5⟩:=new1 hGG
  clear hGG
  obtain ⟨P,hP⟩:∃ P,P=G.size:=⟨_,rfl⟩
  rw [← hP] at b5 hKl ⊢
  replace ho:=ho.mono a0H hx2
  replace b0:=hx2.blk b0
  replace b2:=hx2.blk b2
  replace bK:=hx2.blk bK
  replace hx:=hx.trans hx2
  replace q1:=q1.mono hx2
  replace q2:=q2.mono hx2
  replace kX:=kX.mono c0y hx2
  replace kW:=kW.mono c0y hx2
  replace kK:=kK.mono hx2
  have hPl:=a0j b5
  clear hx2 hle kl hP G
  obtain ⟨wr,hlr,kr⟩:=e0B.load (hs.mono c0N hx) hrow
  rw [← hyy] at kr
  have hiy:i < y.length:=by omega
  obtain ⟨x,hlx,k0⟩:=b0n.load kr hiy
  obtain ⟨y1,y2,rfl,p1,p2⟩:=id k0
  simp [F0r,g2,g3,b0,(hs.mono c0N hx).ia hrow,hlr,kr.ia hiy,hlx,p1.cells,p1.plain,p2.cells,p2.plain,show H.size≤G3.size by omega]
  generalize hGG:Array.setIfInBounds (Array.push _ _) _ _=G4
  obtain ⟨hx2,b6⟩:=new1 hGG
  clear hGG
  obtain ⟨P2,hP2⟩:∃ P2,P2=G3.size:=⟨_,rfl⟩
  rw [← hP2] at b6 hPl ⊢
  replace ho:=ho.mono a0H hx2
  replace b0:=hx2.blk b0
  replace b2:=hx2.blk b2
  replace bK:=hx2.blk bK
  replace b5:=hx2.blk b5
  replace hx:=hx.trans hx2
  replace q1:=q1.mono hx2
  replace q2:=q2.mono hx2
  replace kX:=kX.mono c0y hx2
  replace kW:=kW.mono c0y hx2
  replace kK:=kK.mono hx2
  replace p1:=p1.mono hx2
  replace p2:=p2.mono hx2
  have hP2l:=a0j b6
  clear hx2 hlr hlx kr k0 hP2 G3
  simp [F0s,b5,kX.cells,kW.cells]
  generalize hGG:Array.push G4 _=G5
  obtain ⟨hx2,b7⟩:=h0Z hGG
  clear hGG
  have hall:[e.set[i].X,e.set[i].W].flatten=e.set[i].all:=by simp [f0i.all]
  refine (k0y (PIL.two b7 (kX.mono c0y hx2) (kW.mono c0y hx2)) (by have:=hx2.1;omega) (by simp) (by rw [hall];omega)).mono ?_
  rintro c G6 ⟨kc,hx3⟩
  replace hx2:=hx2.trans hx3
  rw [hall] at kc
  replace ho:=ho.mono a0H hx2
  replace b0:=hx2.blk b0
  replace b2:=hx2.blk b2
  replace bK:=hx2.blk bK
  replace b5:=hx2.blk b5
  replace b6:=hx2.blk b6
  replace hx:=hx.trans hx2
  replace q1:=q1.mono hx2
  replace q2:=q2.mono hx2
  replace kK:=kK.mono hx2
  replace p1:=p1.mono hx2
  replace p2:=p2.mono hx2
  replace hP2l:=a0j b6
  clear hx3 b7 hx2 hall kX kW G5
  simp [kc.slen]
  obtain ⟨csC,bC⟩:=ho.blkAt
  have hya:=hy _ (c1a hiy)
  have hyv:y.getD i c0m=y[i]:=b0F hiy
  have hsv:e.set.getD i aff0=e.set[i]:=b0F hi
  refine c0I (n:=e.set[i].all.length) (fun j ρ G=>ρ 2=.int .i64 (row:Int)∧ρ 3=.pointer (some ⟨H.size,0,none⟩)∧ρ 7=.pointer (some ⟨H.size + 2,0,none⟩)∧ρ 9=.slice (some ⟨C,0,none⟩) N N∧ρ 11=.pointer (some ⟨K,0,none⟩)∧ρ 37=sS∧ρ 38=.int .i64 (e.set.length:Int)∧ρ 39=.int .i64 (i:Int)∧ρ 13=.pointer (some ⟨P,0,none⟩)∧ρ 14=.pointer (some ⟨P2,0,none⟩)∧ρ 57=c∧c0Z (some C) G6 G∧b0a PR (H.size + 3) G a0b 4 (.slice (some ⟨C,0,none⟩) N N) (m0o y e.set N i j)) rfl rfl (by decide) (by omega) (by simp) (by simp) ?_ ?_ ?_ ?_
  ·exact ⟨by simp [g2],by simp [g3],by simp [g7],by simp [g9],by simp [g11],by simp [g37],by simp [gn],by simp [gi],by simp,by simp,by simp,(Ext.refl _).extB,ho⟩
  ·intro i ρ ρ' G h hI;simpa [h] using hI
  ·clear g2 g3 g7 g9 g11 g37 gn gi ho ρ
   rintro j ρ G hj gj gm ⟨g2,g3,g7,g9,g11,g37,gn,gi,g13,g14,g57,hxb,ho⟩
   have kcj:e0A G c e.set[i].all:=kc.lxm (hxb.lxT bC (by decide)) (fun cs x h=>h.lx (hxb.lxT bC (by decide)))
   replace b6:=(hxb.2 P2 hP2l (by simp;omega)).trans b6
   replace p1:=p1.lx (hxb.lxT bC (by decide))
   replace p2:=p2.lx (hxb.lxT bC (by decide))
   have hG6:=hxb.1
   obtain ⟨w',hlw,r1⟩:=e0A.load kcj hj
   have hflG:H.size + 3≤G.size:=by omega
   simp [F0t,g57,gj,kcj.ia hj,hlw,r1.cells,r1.plain,show H.size≤G.size by omega]
   generalize hGG:Array.setIfInBounds (Array.push _ _) _ _=G7
   obtain ⟨hx2,b8⟩:=new1 hGG
   clear hGG
   replace ho:=ho.mono a0H hx2
   replace b6:=hx2.blk b6
   replace p1:=p1.mono hx2
   replace p2:=p2.mono hx2
   replace r1:=r1.mono hx2
   have hG7:=hx2.1
   replace hxb:=hxb.trans' hx2.extB
   clear hx2 kcj hlw
   have hjN:j < N:=by omega
   have hjl:j < (m0o y e.set N i j).length:=by rw [G0T];exact hjN
   have hia:iaV 4 (.slice (some ⟨C,0,none⟩) N N) (.int .i64 (j:Int))=some (adr 4 (.slice (some ⟨C,0,none⟩) N N) j):=ho.sls.ia hjl
   obtain ⟨xc,hlc,kc0⟩:=b0n.load ho.sls hjl
   have hav:e.set[i].all.getD j iz=e.set[i].all[j]:=b0F hj
   have hxa:=(hfe.at i).all j
   rw [hsv,hav] at hxa
   have hgc:=hfe.gC hy j i (by omega)
   have hxl:=u0e.mem hfa (c1a hj)
   have hm1:=f0S (b0A y[i]) (vQ e.set[i].all[j])
   have hy1:=hy.sz i
   rw [hyv] at hy1
   refine a0F ?_
   simp [F0u,g9,g14,hia,hlc,b6,b8]
   refine (d0q (x:=e.set[i].all[j]) ⟨_,rfl,r1⟩ (by omega) (by omega)).mono ?_
   rintro _ G8 ⟨⟨s3,s4,rfl,k3,k4⟩,hx3⟩
   have hG8:=hx3.1
   simp
   refine (e0V (a:=y[i]) (b:=c0s e.set[i].all[j]) ⟨y1,y2,rfl,p1.mono hx3,p2.mono hx3⟩ ⟨s3,s4,rfl,k3,k4⟩ (by omega) (by omega) (by unfold c0s;rw [a0A];omega)).mono ?_
   rintro _ G9 ⟨km,hx4⟩
   have hG9:=hx4.1
   replace hx3:=hx3.trans hx4
   clear hx4 k3 k4
   have hvw:b0A (c0s e.set[i].all[j])=vQ e.set[i].all[j]:=by unfold c0s;rw [a0s]
   rw [hvw] at km
   simp
   refine (b0D (kc0.mono hx3) km (by omega) (by rw [u0m,a0A];omega) (by rw [a0A];omega)).mono ?_
   rintro _ G10 ⟨⟨s3,s4,rfl,k3,k4⟩,hx4⟩
   have hG10:=hx4.1
   replace hx3:=hx3.trans hx4
   obtain ⟨Z,hZ⟩:∃ Z,Z=rs (fun t=>b0A (y.getD t c0m) * vQ ((e.set.getD t aff0).all.getD j iz)) (i + 1):=⟨_,rfl⟩
   have key:b0A (m0o y e.set N i j)[j] + b0A (a0f (b0A y[i] * vQ e.set[i].all[j]))=Z:=by
    rw [hZ]
    rw [u0m,a0s,a0s,rs,hyv,hsv,hav]
   rw [key] at k3 k4 ⊢
   replace ho:=ho.mono a0H hx3
   replace hxb:=hxb.trans' hx3.extB
   obtain ⟨G11,hst,ho2,hxb2⟩:=b0a.store (j:=j) (x:=a0f Z) (w:=.agg #[.bool (a0f Z).1.1,s3,.bool (a0f Z).2.1,s4]) (ho.low (fl':=H.size) (by omega)) hjl (by decide) rfl (by simp [k3.plain,k4.plain]) (fun G' _ hl=>⟨s3,s4,rfl,k3.lx hl,k4.lx hl⟩) (by decide) (fun G' cs y _ hl h=>b0O.lx h hl)
   simp [hia,hst]
   rw [hZ,G0U hjN] at ho2
   exact Rnd.mk (by simp [gj]) (by simp [gm]) ⟨by simp [g2],by simp [g3],by simp [g7],by simp [g9],by simp [g11],by simp [g37],by simp [gn],by simp [gi],by simp [g13],by simp [g14],by simp [g57],hxb.trans' hxb2,ho2.up (fun b hb=>by simp [slB] at hb;omega)⟩
  clear g2 g3 g7 g9 g11 g37 gn gi ho ρ
  rintro ρ G gz1 gz2 ⟨g2,g3,g7,g9,g11,g37,gn,gi,g13,g14,gz3,hxb,ho⟩
  clear gz1 gz2 gz3
  rw [hal',y0h] at ho
  have t1:∀ {e:Nat},a0b ≠ e→LxT e G6 G:=fun hne=>hxb.lxT bC hne
  have hG6:=hxb.1
  replace hx:Ext H G:=⟨by omega,fun b hb=>(hxb.2 b (by omega) (by simp;omega)).trans (hx.2 b hb)⟩
  replace b0:=(hxb.2 _ (by omega) (by simp;omega)).trans b0
  replace b2:=(hxb.2 _ (by omega) (by simp;omega)).trans b2
  replace bK:=(hxb.2 K (by omega) (by simp;omega)).trans bK
  replace b5:=(hxb.2 P (by omega) (by simp;omega)).trans b5
  replace b6:=(hxb.2 P2 (by omega) (by simp;omega)).trans b6
  replace p1:=p1.lx (t1 (by decide))
  replace p2:=p2.lx (t1 (by decide))
  replace q1:=q1.lx (t1 (by decide))
  replace q2:=q2.lx (t1 (by decide))
  replace kK:=kK.lx (t1 (by decide))
  clear t1 hxb bC kc
  have hxa:=J0D.sz (k:=40) hfa.2.2.1 hfa.2.2.2
  have hgk:=hfe.gK hy i (by omega)
  have hm1:=f0S (b0A y[i]) (vQ e.set[i].K)
  have hy1:=hy.sz i
  rw [hyv] at hy1
  have hfk:=hfa.2.2.1
  refine a0F ?_
  simp [F0v,g11,g13,g14,bK,b5,b6]
  refine (d0q (x:=e.set[i].K) ⟨_,rfl,kK⟩ (by omega) (by omega)).mono ?_
  rintro _ G8 ⟨⟨s3,s4,rfl,k3,k4⟩,hx3⟩
  have hG8:=hx3.1
  simp
  refine (e0V (a:=y[i]) (b:=c0s e.set[i].K) ⟨y1,y2,rfl,p1.mono hx3,p2.mono hx3⟩ ⟨s3,s4,rfl,k3,k4⟩ (by omega) (by omega) (by unfold c0s;rw [a0A];omega)).mono ?_
  rintro _ G9 ⟨km,hx4⟩
  have hG9:=hx4.1
  replace hx3:=hx3.trans hx4
  clear hx4 k3 k4
  have hvw:b0A (c0s e.set[i].K)=vQ e.set[i].K:=by unfold c0s;rw [a0s]
  rw [hvw] at km
  simp
  refine (b0D (a:=G0F y e.set i) ⟨k1,k2,rfl,q1.mono hx3,q2.mono hx3⟩ km (by omega) (by unfold G0F;rw [a0A];omega) (by rw [a0A];omega)).mono ?_
  rintro _ G10 ⟨⟨s3,s4,rfl,k3,k4⟩,hx4⟩
  have hG10:=hx4.1
  replace hx3:=hx3.trans hx4
  have key:a0f (b0A (G0F y e.set i) + b0A (a0f (b0A y[i] * vQ e.set[i].K)))=G0F y e.set (i + 1):=by
   unfold G0F
   rw [a0s,a0s,rs,hyv,hsv]
  rw [key] at k3 k4 ⊢
  replace ho:=ho.mono a0H hx3
  replace hx:=hx.trans hx3
  replace b0:=hx3.blk b0
  replace b2:=hx3.blk b2
  replace bK:=hx3.blk bK
  have hKl':=a0j bK
  simp [g11,bK,k3.cells,k4.cells,k3.plain,k4.plain,show H.size≤K by omega]
  generalize hS1:Array.setIfInBounds G10 K _=G11
  have t1:∀ {e:Nat},a0b ≠ e→LxT e G10 G11:=fun hne=>a0X hS1 bK hne
  refine Rnd.mk (by simp [gi]) (by simp [gn]) ⟨by simp [g2],by simp [g3],by simp [g7],by simp [g9],by simp [g11],by simp [g37],b0I hS1 hx (by omega),a0z hS1 b0 (by omega),a0z hS1 b2 (by omega),?_,s3,s4,a0M hS1 bK,k3.lx (t1 (by decide)),k4.lx (t1 (by decide))⟩
  have hxb:c0Z (some K) G10 G11:=by
   rw [← hS1]
   exact ⟨by simp,fun b hb hne=>a0Q (by rintro rfl;exact hne rfl)⟩
  exact ho.off hxb (by right;simp [slB];omega) (fun cs x h=>b0O.lx h (t1 (by decide)))
 ·clear g2 g3 g4 g7 g9 ρ b0 b1 b2 b4 k3 k4 ho hx G6
  rintro ρ G gi gn ⟨g2,g3,g7,g9,g11,g37,hx,b0,b2,ho,k1,k2,bK,q1,q2⟩
  rw [G0S] at ho
  rw [G0V] at bK q1 q2
  have kC:=ho.sls
  refine a0F ?_
  have hz:=a0j b2
  simp [F0w,g9,g11,g7,bK,b2,q1.cells,q2.cells,q1.plain,q2.plain,hz]
  generalize hS1:Array.setIfInBounds G _ _=G11
  have t1:∀ {e:Nat},a0b ≠ e→LxT e G G11:=fun hne=>a0X hS1 b2 hne
  have hxb:c0Z (some (H.size + 2)) G G11:=by
   rw [← hS1]
   exact ⟨by simp,fun b hb hne=>a0Q (by rintro rfl;exact hne rfl)⟩
  refine fun _=>⟨_,_,rfl,fun b hb=>by have:=(ho.ge hb).1;omega,(ho.off hxb (by right;simp [slB];omega) (fun cs x h=>b0O.lx h (t1 (by decide)))).sls,k1,k2,rfl,q1.lx (t1 (by decide)),q2.lx (t1 (by decide))⟩
structure J0E (rows:List (List b0e)) (e:c0c) (d:List b0W):Prop where
 ed:j0X e
 rl:rows.length≤8
 r:∀ r ∈ rows,Few 6 r∧r.length < 1073741824
 dz:∀ x ∈ d,e0I x.2≤6∧b0t x.2.1.2∧b0t x.2.2.2
 dl:d.length < 1073741824
theorem J0E.fe {rows:List (List b0e)} {e:c0c} {d:List b0W} (h:J0E rows e d):P0d d:=fun x hx=>by have:=(h.dz x hx).1;omega
theorem y0j {rows:List (List b0e)} {e:c0c} {d:List b0W} {row:Int} (h:c0o rows e d row=true):0≤e.m∧d.length=rows.length∧0≤row∧row < rows.length∧(∀ r ∈ rows,r.length=e.set.length)∧(∀ a ∈ e.set,(a.all.length:Int)=e.set.length + e.m):=by
 unfold c0o f0g j0U at h
 simp only [c1e,c1X] at h
 obtain ⟨⟨⟨⟨⟨⟨⟨⟨⟨⟨hn0,hn6⟩,hl⟩,hrow⟩,hdl⟩,hmay⟩,hr0⟩,hr1⟩,hm0⟩,hfs⟩,hfg⟩:=h
 refine ⟨hm0,by omega,hr0,hr1,fun r hr'=>?_,fun a ha=>?_⟩
 ·have:=c1C.1 hrow r hr'
  unfold p0R at this;simp at this;omega
 ·have:=u0C.1 hfs a ha
  unfold f0i.all;rw [c1g];omega
def S0v (rows:List (List b0e)) (e:c0c) (d:List b0W) (row N:Nat) (r:Value) (H':a0e):Prop :=
 ∃ p k,r=.tuple #[p,k,.bool true]∧LPV H' p (c0p rows e d row N)∧b0O H' k (a0f (gK (rows.getD row []) e.set))
theorem G0s {e:c0c} {d:List b0W} (h1:j0X e) (hd:d.length≤8):w0d e d=true:=by
 unfold w0d
 have:=h1.ns;have:=h1.ng;have:=h1.m;have:=s0i d
 simp;omega
theorem i0R {rows:List (List b0e)} {e:c0c} {d:List b0W} {row m:Nat} (ht:d0a H v rows) (he:i0c H w e) (hd:d0N H u d) (hf:fl≤H.size) (hF:J0E rows e d) (ha:c0o rows e d (row:Int)=true) (hno:d0E (fun e=>decide (e.1 < 0)) d=false) (hm:e.m=(m:Int)) :
  a0S env fl T0x [v,w,u,.int .i64 (row:Int)] H (fun r H'=>S0v rows e d row (e.set.length + m) r H'∧Ext H H') R:=by
 obtain ⟨hm0,hdl,_,hrow',hrl',hal'⟩:=y0j ha
 have hrow:row < rows.length:=by omega
 have hal:∀ a ∈ e.set,a.all.length=e.set.length + m:=fun a h=>by have:=hal' a h;omega
 have hrl:=hF.rl
 have hfe:=hF.ed
 have hns:=hfe.ns;have hng:=hfe.ng;have hm3:=hfe.m
 obtain ⟨_,_,_,_,_,hgl,_⟩:=y0z ha hfe hm hF.rl (fun r hr=>(hF.r r hr).1) hF.dz
 have hsm:=G0s hfe (by omega:d.length≤8)
 have ht0:=ht;have he0:=he
 obtain ⟨s,rfl,hs⟩:=ht
 obtain ⟨f,t,sG,sS,sP,rfl,hG,hS,hPc,hPp⟩:=he
 refine a0g a1P hf (h:=?_)
 intro ρ h0
 simp [W0y,L0q,h0,hs.cells,hG.cells,hS.cells,hPc]
 generalize hGG:Array.push (Array.push (Array.push (Array.push H _) _) _) _=G
 obtain ⟨hx,b0,b1,b2,b3⟩:=Q0w hGG
 clear hGG
 have hG4:H.size + 4≤G.size:=a0j b3
 simp [L0r,h0,b0,b1]
 refine (g0c (ht0.mono hx) (he0.mono hx) (hd.mono b0X hx) (by omega) hF.r (by omega) hF.fe hF.dl (by omega) (by omega)).mono ?_
 rintro _ G2 ⟨rfl,hx2⟩
 replace b0:=hx2.blk b0
 replace b1:=hx2.blk b1
 replace b2:=hx2.blk b2
 replace b3:=hx2.blk b3
 replace hx:=hx.trans hx2
 replace hG4:=c1b hG4 hx2.1
 clear hx2 G
 simp [ha,h0,b0,b1]
 refine (k0j (ht0.mono hx) (he0.mono hx) (hd.mono b0X hx) (by omega) hF.dl (by omega) (by omega) (by omega) (by omega)).mono ?_
 rintro _ G ⟨rfl,hx2⟩
 replace b0:=hx2.blk b0
 replace b1:=hx2.blk b1
 replace b2:=hx2.blk b2
 replace b3:=hx2.blk b3
 replace hx:=hx.trans hx2
 replace hG4:=c1b hG4 hx2.1
 clear hx2 G2
 simp [hsm,h0,b0,b1]
 refine (g0W (hd.mono b0X hx) (by omega) hF.fe hF.dl).mono ?_
 rintro _ G2 ⟨rfl,hx2⟩
 replace b0:=hx2.blk b0
 replace b1:=hx2.blk b1
 replace b2:=hx2.blk b2
 replace b3:=hx2.blk b3
 replace hx:=hx.trans hx2
 replace hG4:=c1b hG4 hx2.1
 clear hx2 G
 have wr:IntKind.i64.wrap ((e.set.length:Int) + e.m)=((e.set.length + m:Nat):Int):=by rw [hm,a0T (by omega) (by omega)];omega
 obtain ⟨N,hN⟩:∃ N,N=e.set.length + m:=⟨_,rfl⟩
 rw [← hN] at wr hal hgl ⊢
 simp [hno]
 simp [L0s,h0,b0,b1,(hS.mono b0T hx).slen,wr]
 refine (m0f (S:=6) (N:=N) (ht0.mono hx) (hd.mono b0X hx) (by omega) (by decide) (by omega) (fun r hr=>⟨(hF.r r hr).1,by rw [hrl' r hr];omega⟩) (by omega) (by omega) hF.fe).mono ?_
 rintro _ G3 ⟨⟨sA,sB,rfl,kA,kB⟩,hx2⟩
 obtain ⟨cA,pA⟩:=kA.cells
 obtain ⟨cB,pB⟩:=kB.cells
 have hG3:=hx2.1
 replace b0:=hx2.blk b0
 replace b1:=hx2.blk b1
 replace b2:=hx2.blk b2
 replace b3:=hx2.blk b3
 replace hx:=hx.trans hx2
 simp [cA,cB,pA,pB,show H.size≤G3.size by omega]
 generalize hGG:Array.setIfInBounds (Array.push _ _) _ _=G4
 obtain ⟨hx3,b4⟩:=new1 hGG
 clear hGG
 obtain ⟨P,hP⟩:∃ P,P=G3.size:=⟨_,rfl⟩
 rw [← hP] at b4 ⊢
 replace b0:=hx3.blk b0
 replace b1:=hx3.blk b1
 replace b2:=hx3.blk b2
 replace b3:=hx3.blk b3
 replace hx:=hx.trans hx3
 have hpb:R0L G2.size G2.size G4 P N sA sB (.slice none 0 0) ((d0h rows d).map (u0U N)) (d0i rows d):=⟨b4,kA.mono j0g hx3,kB.mono a0H hx3⟩
 have hPl:=a0j b4
 clear kA kB hx2 hx3
 have hA0:∀ b,slB sA=some b→G2.size≤b:=fun b hb=>(hpb.A.ge hb).1
 have hB0:∀ b,slB sB=some b→G2.size≤b:=fun b hb=>(hpb.B.ge hb).1
 have hH2:H.size≤G2.size:=by omega
 simp [L0t,b1]
 refine (j0x (fl:=H.size) (f0:=G2.size) (H0:=H) hx (b1S _) hx.1 (by omega) hG (by omega) ⟨hpb.blk,hpb.A.low hH2,hpb.B.low hH2⟩ (by have:=i0F rows d;have:=l0r rows d;simp;omega) (fun g hg=>⟨hfe.guards g hg,by rw [hgl g hg];omega⟩)).mono ?_
 rintro _ G5 ⟨⟨hO,sA',sB',hpb',hA1,hB1⟩,_⟩
 have hG5:=hO.1
 have hPG:G2.size≤P:=by omega
 replace b0:=(hO.2 _ (by omega) (by omega) (fun h=>by have:=hA0 _ h;omega) (fun h=>by have:=hB0 _ h;omega)).trans b0
 replace b1:=(hO.2 _ (by omega) (by omega) (fun h=>by have:=hA0 _ h;omega) (fun h=>by have:=hB0 _ h;omega)).trans b1
 replace b2:=(hO.2 _ (by omega) (by omega) (fun h=>by have:=hA0 _ h;omega) (fun h=>by have:=hB0 _ h;omega)).trans b2
 replace b3:=(hO.2 _ (by omega) (by omega) (fun h=>by have:=hA0 _ h;omega) (fun h=>by have:=hB0 _ h;omega)).trans b3
 replace hx:=hO.ext (fl:=H.size) (b1S _) (by omega) (fun b h=>by have:=hA0 _ h;omega) (fun b h=>by have:=hB0 _ h;omega) hx
 have hB2:∀ b,slB sB' = some b→G2.size≤b:=fun b hb=>by
  rcases hB1 b hb with h | h | h
  ·exact hA0 b h
  ·exact hB0 b h
  ·omega
 clear hO hA0 hB0 hA1 hB1 hpb b4
 simp [L0u,h0,b0,b1]
 refine (m0g (m:=m) (ht0.mono hx) (he0.mono hx) (by omega) hfe hm hrow (hF.r _ (c1a hrow)).1 (hrl' _ (c1a hrow)) (fun a h=>by rw [hal a h,hN])).mono ?_
 rintro _ G6 ⟨⟨c,k,rfl,hcf,kc,kk⟩,hx2⟩
 rw [← hN] at kc
 obtain ⟨Y,hY⟩:∃ Y,Y=rows.getD row []:=⟨_,rfl⟩
 rw [← hY] at kc kk
 replace b0:=hx2.blk b0
 replace b1:=hx2.blk b1
 replace b2:=hx2.blk b2
 replace b3:=hx2.blk b3
 replace hpb':=hpb'.mono hx2
 replace hx:=hx.trans hx2
 have hG6:=hx2.1
 clear hx2
 obtain ⟨k1,k2,rfl,q1,q2⟩:=kk
 simp [q1.cells,q2.cells,q1.plain,q2.plain,show H.size≤G6.size by omega]
 generalize hGG:Array.setIfInBounds (Array.push _ _) _ _=G7
 obtain ⟨hx2,b5⟩:=new1 hGG
 clear hGG
 obtain ⟨P2,hP2⟩:∃ P2,P2=G6.size:=⟨_,rfl⟩
 rw [← hP2] at b5 ⊢
 replace b2:=hx2.blk b2
 replace b3:=hx2.blk b3
 replace hpb':=hpb'.mono hx2
 replace hx:=hx.trans hx2
 replace kc:=kc.mono a0H hx2
 replace q1:=q1.mono hx2
 replace q2:=q2.mono hx2
 clear hx2 b0 b1
 obtain ⟨b4,kA,kB⟩:=hpb'
 obtain ⟨cA,pA⟩:=kA.cells
 obtain ⟨cB,pB⟩:=kB.cells
 simp [L0v,b4,kc.cells,kc.plain,show H.size≤P by omega]
 generalize hS1:Array.setIfInBounds G7 P _=G8
 have t1:∀ {e:Nat},b0G ≠ e→LxT e G7 G8:=fun hne=>a0X hS1 b4 hne
 replace kA:=kA.lxm (t1 (by decide)) (fun cs x ⟨w',q1,q2,q3,q4⟩=>(⟨w',q1,q2.lx2 (t1 (by decide)) (t1 (by decide)),q3,q4⟩:PSf _ _ G8 cs x))
 replace kB:=kB.lxm (Q':=PR) (t1 (by decide)) (fun cs x h=>b0O.lx h (t1 (by decide)))
 replace kc:=b0n.lx2 kc (t1 (by decide)) (t1 (by decide))
 replace q1:=q1.lx (t1 (by decide))
 replace q2:=q2.lx (t1 (by decide))
 replace hx:=b0I hS1 hx (by omega)
 replace b2:=a0z hS1 b2 (by omega)
 replace b3:=a0z hS1 b3 (by omega)
 replace b5:=a0z hS1 b5 (by omega)
 replace b4:=a0M hS1 b4
 clear t1 hS1 G7
 have hz2:=a0j b2
 have hz3:=a0j b3
 refine c0w ?_
 simp [L0w,b2,b3,b4,b5,cA,cB,pA,pB,kc.cells,kc.plain,q1.cells,q2.cells,q1.plain,q2.plain,hz2,hz3]
 generalize hS1:Array.setIfInBounds G8 _ _=G9
 generalize hS2:Array.setIfInBounds G9 _ _=G10
 refine ⟨by omega,fun _=>?_⟩
 have t1:∀ {e:Nat},b0G ≠ e→LxT e G8 G9:=fun hne=>a0X hS1 b2 hne
 replace kA:=kA.lxm (t1 (by decide)) (fun cs x ⟨w',q1,q2,q3,q4⟩=>(⟨w',q1,q2.lx2 (t1 (by decide)) (t1 (by decide)),q3,q4⟩:PSf _ _ G9 cs x))
 replace kB:=kB.lxm (Q':=PR) (t1 (by decide)) (fun cs x h=>b0O.lx h (t1 (by decide)))
 replace kc:=b0n.lx2 kc (t1 (by decide)) (t1 (by decide))
 replace q1:=q1.lx (t1 (by decide))
 replace q2:=q2.lx (t1 (by decide))
 replace b3:=a0z hS1 b3 (by omega)
 clear t1
 have t1:∀ {e:Nat},a0b ≠ e→LxT e G9 G10:=fun hne=>a0X hS2 b3 hne
 have hxb:c0Z (some (H.size + 3)) G9 G10:=by
  rw [← hS2]
  exact ⟨by simp,fun b hb hne=>a0Q (by rintro rfl;exact hne rfl)⟩
 have off:∀ {s:Value},(∀ b,slB s=some b→G2.size≤b)→slB s=none ∨ slB s ≠ some (H.size + 3):=fun h=>by
  cases h1:slB _ with
  | none=>exact .inl rfl
  | some b=>right;have:=h b h1;simp;omega
 have kc':b0n G9 c (c0p rows e d row N).C:=by rw [hY] at kc;exact kc
 refine ⟨_,_,rfl,⟨sA',sB',c,rfl,?_,?_,b0n.off kc' hxb (off fun b hb=>by have:=hcf b hb;omega) (t1 (by decide))⟩,?_⟩
 ·exact (kA.lxm (Q':=PS) (t1 (by decide)) (fun cs x ⟨w',q1,q2,_,q4⟩=>⟨w',q1,b0n.off q2 hxb (off q4) (t1 (by decide))⟩)).sls
 ·exact b0n.off kB.sls hxb (off hB2) (t1 (by decide))
 ·rw [hY] at q1 q2 ⊢
  exact ⟨k1,k2,rfl,q1.lx (t1 (by decide)),q2.lx (t1 (by decide))⟩
theorem H0E {z1 z2 r1 r2:Blk} {G3:a0e} (hN:Array.setIfInBounds (Array.setIfInBounds (Array.push (Array.push G z1) z2) G.size r1) (G.size + 1) r2=G3):Ext G G3∧a0e.blk G3 G.size=r1∧a0e.blk G3 (G.size + 1)=r2:=by
 subst hN
 refine ⟨(((Ext.refl G).push.push).set (by omega)).set (by omega),?_,?_⟩
 ·rw [a0Q (by omega),a0I (by simp)]
 ·rw [a0I (by simp)]
def x0Q (a:Value):Prop:=∃ c1 c2 c3 c4 c5 c6 c7 c8,a=.agg #[c1,c2,c3,c4,c5,c6,c7,c8]∧a0q c1=true∧a0q c2=true∧a0q c3=true∧a0q c4=true∧a0q c5=true∧a0q c6=true∧a0q c7=true∧a0q c8=true
theorem x0O.cells8 {a:m0V} (h:x0O H v a):x0Q v:=by
 obtain ⟨s1,s2,sX,sY,sR,rfl,h1,h2,h3,h4,h5⟩:=h
 exact ⟨_,_,_,_,_,_,_,_,rfl,rfl,rfl,h1.plain,rfl,h2.plain,h3.plain,h4.plain,h5.plain⟩
theorem X0p.cells8:x0Q X0p:=⟨_,_,_,_,_,_,_,_,rfl,rfl,rfl,rfl,rfl,rfl,rfl,rfl,rfl⟩
def a1t (rows:List (List b0e)) (e:c0c) (d:List b0W) (row:Int) (r:Value) (H':a0e):Prop :=
 ∃ x a c xe,r=.tuple #[x,a,.int .i64 c]∧x0Q a∧h0q H' x xe∧e0I xe.2≤300000 ∧
  if c0o rows e d row=true then c=0∧o0p rows e d row.toNat (e.set.length + e.m.toNat) xe else c=1∧xe=(0,c0m)
theorem k0n {k:Int}:h0q H (.agg #[.int .i64 k,.bool false,.slice none 0 0,.bool false,.slice none 0 0]) (k,c0m):=⟨_,_,rfl,Lim.nil,Lim.nil⟩
theorem V0v {rows:List (List b0e)} {e:c0c} {d:List b0W} {row N:Nat} {M:Nat} {a:m0V} (h:q0d (c0p rows e d row N) N M 200) (hN:N≤6) (hM:M≤14) (hc:J0C a ((M + 2) * ((N + 3) * (200 + 1) + M + 2) + 1 + M + 1 + (N + 3) * (200 + 1) + (N + 3) * (200 + 1))) (h1:G0H (c0p rows e d row N) N M a):szR a.V≤250000:=by
 have hW:(M + 2) * ((N + 3) * (200 + 1) + M + 2) + 1 + M + 1 + (N + 3) * (200 + 1) + (N + 3) * (200 + 1)≤33000:=by
  have h1:(M + 2) * ((N + 3) * (200 + 1) + M + 2)≤16 * 1825:=c1R (by omega) (by omega)
  omega
 rw [h1.V]
 have h2:=p0Y (f:=fun k=>pC (c0p rows e d row N) k * a.X.getD k 0) (K:=33201) (fun k=>by
  have a1:=f0S (pC (c0p rows e d row N) k) (a.X.getD k 0)
  have a2:szR (pC (c0p rows e d row N) k)≤201:=h.fC.sz k
  have a3:szR (a.X.getD k 0)≤33000:=by
   rw [b1Q]
   by_cases hk:k < a.X.length
   ·rw [b1V hk];exact c1b (hc.1 _ (c1a _)) hW
   ·rw [c1d (by omega)];show szR 0≤_;rw [f0T];decide
  omega) N
 have:N * (33201 + 1)≤6 * (33201 + 1):=b1Z _ hN
 omega
theorem f0f {rows:List (List b0e)} {e:c0c} {d:List b0W} {row:Int} (ht:d0a H v rows) (he:i0c H w e) (hd:d0N H u d) (hf:fl≤H.size) (hF:J0E rows e d) :
  a0S env fl P0L [v,w,u,.int .i64 row] H (fun r H'=>a1t rows e d row r H'∧Ext H H') R:=by
 have hrl:=hF.rl
 have hfe:=hF.ed
 have hns:=hfe.ns;have hng:=hfe.ng;have hm3:=hfe.m
 have ht0:=ht;have he0:=he
 obtain ⟨s,rfl,hs⟩:=ht
 obtain ⟨f,t,sG,sS,sP,rfl,hG,hS,hPc,hPp⟩:=he
 refine a0g a1C hf (h:=?_)
 intro ρ h0
 simp [W0m,K0l,h0,hs.cells,hG.cells,hS.cells,hPc]
 generalize hGG:Array.push (Array.push (Array.push (Array.push H _) _) _) _=G
 obtain ⟨hx,b0,b1,b2,b3⟩:=Q0w hGG
 clear hGG
 have hG4:H.size + 4≤G.size:=a0j b3
 simp [K0m,h0,b0,b1]
 refine (g0c (ht0.mono hx) (he0.mono hx) (hd.mono b0X hx) (by omega) hF.r (by omega) hF.fe hF.dl (by omega) (by omega)).mono ?_
 rintro _ G2 ⟨rfl,hx2⟩
 replace b0:=hx2.blk b0
 replace b1:=hx2.blk b1
 replace b2:=hx2.blk b2
 replace b3:=hx2.blk b3
 replace hx:=hx.trans hx2
 replace hG4:=c1b hG4 hx2.1
 clear hx2 G
 have hz2:=a0j b2
 have hz3:=a0j b3
 cases ha:c0o rows e d row
 ·simp [K0n,b2,b3,hz2,hz3]
  exact fun _=>⟨_,_,_,_,rfl,X0p.cells8,k0n,by decide,by rw [b1T (by rw [ha];decide)];exact ⟨rfl,rfl⟩⟩
 obtain ⟨hm0,hdl,hr0,hr1,hrl',hal'⟩:=y0j ha
 obtain ⟨m,hm⟩:∃ m:Nat,e.m=m:=⟨e.m.toNat,by omega⟩
 obtain ⟨q,rfl⟩:∃ q:Nat,row=q:=⟨row.toNat,by omega⟩
 have hmt:e.m.toNat=m:=by omega
 simp [K0o,h0]
 refine (g0W (hd.mono b0X hx) (by omega) hF.fe hF.dl).mono ?_
 rintro _ G ⟨rfl,hx2⟩
 replace b0:=hx2.blk b0
 replace b1:=hx2.blk b1
 replace b2:=hx2.blk b2
 replace b3:=hx2.blk b3
 replace hx:=hx.trans hx2
 replace hG4:=c1b hG4 hx2.1
 clear hx2 hz2 hz3 G2
 have hz2:=a0j b2
 have hz3:=a0j b3
 cases hno:d0E (fun e=>decide (e.1 < 0)) d
 case true =>
  simp [K0p,b2,b3,hz2,hz3]
  exact fun _=>⟨_,_,_,(-1,c0m),rfl,X0p.cells8,k0n,by decide,by rw [b1W ha];exact ⟨rfl,.inl ⟨rfl,.inl hno⟩⟩⟩
 simp [K0q,h0,b0,b1]
 refine (i0R (m:=m) (ht0.mono hx) (he0.mono hx) (hd.mono b0X hx) (by omega) hF ha hno hm).mono ?_
 rintro _ G2 ⟨⟨p,k,rfl,kp,kk⟩,hx2⟩
 replace b2:=hx2.blk b2
 replace b3:=hx2.blk b3
 replace hx:=hx.trans hx2
 replace hG4:=c1b hG4 hx2.1
 clear hx2 b0 b1 hz2 hz3 G
 obtain ⟨hok,hrt,hN6,hM14,hrl2,hgl,hmay⟩:=y0z ha hfe hm hF.rl (fun r hr=>(hF.r r hr).1) hF.dz
 have hsup:=fun a=>P0f.sup (d:=d) (row:=q) (a:=a) hrl2 (Nat.le_add_right _ m) hgl hno
 have hgk:szR (gK (rows.getD q []) e.set)≤150:=hfe.gK (by rw [b0F (by omega:q < rows.length)];exact (hF.r _ (c1a _)).1) _ hns
 have hszv:=fun a hc h1=>V0v (a:=a) hok hN6 hM14 hc h1
 obtain ⟨gk,hgkd⟩:∃ x,x=gK (rows.getD q []) e.set:=⟨_,rfl⟩
 obtain ⟨N,hN⟩:∃ N,N=e.set.length + m:=⟨_,rfl⟩
 simp only [← hN] at kp hok hrt hsup hszv hN6 hM14
 obtain ⟨pp,hpp⟩:∃ x,x=c0p rows e d q N:=⟨_,rfl⟩
 rw [← hgkd] at kk hgk
 simp only [← hgkd] at hsup
 simp only [← hpp] at kp hok hrt hsup hszv hM14
 obtain ⟨M,hM⟩:∃ M,M=pp.A.length:=⟨_,rfl⟩
 rw [← hM] at hok hM14
 simp only [← hM] at hsup hszv
 have kp0:=kp
 have kk0:=kk
 obtain ⟨sA,sB,sC,rfl,kA,kB,kC⟩:=kp
 obtain ⟨k1,k2,rfl,q1,q2⟩:=kk
 simp [kA.cells,kB.cells,kC.cells,kA.plain,kB.plain,kC.plain,q1.cells,q2.cells,q1.plain,q2.plain,show H.size≤G2.size by omega,show H.size≤G2.size + 1 by omega]
 generalize hGG:Array.setIfInBounds (Array.setIfInBounds (Array.push (Array.push _ _) _) _ _) _ _=G3
 obtain ⟨hx2,b4,b5⟩:=H0E hGG
 clear hGG
 obtain ⟨P,hP⟩:∃ P,P=G2.size:=⟨_,rfl⟩
 rw [← hP] at b4 b5 ⊢
 replace b2:=hx2.blk b2
 replace b3:=hx2.blk b3
 replace hx:=hx.trans hx2
 replace kp0:=kp0.mono hx2
 replace q1:=q1.mono hx2
 replace q2:=q2.mono hx2
 clear hx2 kA kB kC kk0
 simp [K0r]
 simp [K0s,b4]
 refine (i0O hok kp0 hx.1 hrt).mono ?_
 rintro _ G5 ⟨⟨ans,k,rfl,sc,hq,ans',a,k',hee,hA,hQ⟩,hx2⟩
 obtain ⟨rfl,rfl⟩:ans=ans'∧k=k':=by simpa using hee
 clear hee
 replace b2:=hx2.blk b2
 replace b3:=hx2.blk b3
 replace b5:=hx2.blk b5
 replace hx:=hx.trans hx2
 replace q1:=q1.mono hx2
 replace q2:=q2.mono hx2
 clear hx2 b4 kp0
 have hsz:=V0u hok hq (by omega) hQ
 have hopt:P0f pp N M a:=by
  rcases hQ with hQ | hQ | hQ
  ·exact (hQ.cert hok hq).opt
  ·exact (hQ.cert hok hq).opt
  ·exact (hQ.cert hok hq).opt
 have hV:szR a.V≤250000 ∨ a.kind ≠ 1:=by
  rcases hQ with hQ | hQ | hQ
  ·right;rw [(hQ.cert hok hq).kind];decide
  ·exact .inl (hszv a hsz (hQ.cert hok hq))
  ·right;rw [(hQ.cert hok hq).kind];decide
 have hS:=hsup a hopt
 have h8:=hA.cells8
 obtain ⟨z1,z2,z3,z4,z5,rfl,l1,l2,l3,l4,l5⟩:=hA
 have d1:=l1.cells;have d2:=l2.cells
 simp [show H.size≤G5.size from hx.1,d1,d2,l1.plain,l2.plain,l3.cells,l3.plain,l4.cells,l4.plain,l5.cells,l5.plain]
 generalize hGG:Array.setIfInBounds (Array.push _ _) _ _=G6
 obtain ⟨hx2,b6⟩:=new1 hGG
 clear hGG
 obtain ⟨P4,hP4⟩:∃ x,x=G5.size:=⟨_,rfl⟩
 rw [← hP4] at b6 ⊢
 have hPP:H.size + 4≤P4:=by have:=a0j b3;omega
 replace b2:=hx2.blk b2
 replace b3:=hx2.blk b3
 replace b5:=hx2.blk b5
 replace hx:=hx.trans hx2
 replace q1:=q1.mono hx2
 replace q2:=q2.mono hx2
 replace l1:=l1.mono hx2
 replace l2:=l2.mono hx2
 clear hx2
 have hz2:=a0j b2
 have hz3:=a0j b3
 have hfin:∀ xe,o0p rows e d q N xe→o0p rows e d (q:Int).toNat (e.set.length + e.m.toNat) xe:=fun xe h=>by rw [Int.toNat_natCast,hmt,← hN];exact h
 simp [K0t]
 rcases hS with ⟨hk,hS⟩ | ⟨hk,hS⟩ | ⟨hk,hS⟩
 ·rw [hk] at b6 h8
  simp [p0u,b6]
  refine c0w ?_
  simp [B0m,b2,b3,b6,hz2,hz3,l1.plain,l2.plain,l3.plain,l4.plain,l5.plain]
  exact ⟨by omega,fun _=>⟨_,_,_,(-1,c0m),rfl,h8,k0n,by decide,by rw [b1W ha];exact ⟨rfl,hfin _ hS⟩⟩⟩
 ·rw [hk] at b6 h8
  simp [p0u,s0T,b6]
  refine c0w ?_
  simp [B0n,b2,b3,b6,hz2,hz3,l1.plain,l2.plain,l3.plain,l4.plain,l5.plain]
  exact ⟨by omega,fun _=>⟨_,_,_,(1,c0m),rfl,h8,k0n,by decide,by rw [b1W ha];exact ⟨rfl,hfin _ hS⟩⟩⟩
 ·rw [hk] at b6 h8
  simp [p0u,s0T,b6]
  have hV':szR a.V≤250000:=hV.resolve_right (fun h=>h hk)
  refine c0w ?_
  simp [B0o,b6]
  have hsa:=p0V a.V gk
  refine (f0C (a:=a0f a.V) ⟨_,_,rfl,l1,l2⟩ (by have:=hx.1;omega) (by rw [a0A];omega)).mono ?_
  rintro _ G7 ⟨⟨s1',s2',rfl,m1,m2⟩,hx2⟩
  rw [a0s] at m1 m2 ⊢
  replace b2:=hx2.blk b2
  replace b3:=hx2.blk b3
  replace b5:=hx2.blk b5
  replace b6:=hx2.blk b6
  replace hx:=hx.trans hx2
  replace q1:=q1.mono hx2
  replace q2:=q2.mono hx2
  simp [b5]
  refine (q0E (e:=(0,a0f a.V)) (b:=a0f gk) ⟨_,_,rfl,m1,m2⟩ ⟨k1,k2,rfl,q1,q2⟩ (by have:=hx.1;omega) (by rw [a0A];omega) (by rw [a0A];omega) (by rw [f0U];show szR a.V < 67108864;omega) (by rw [f0U,a0s];show szR a.V + szR gk + 1 < 67108864;omega)).mono ?_
  rintro _ G8 ⟨kx,hx3⟩
  rw [f0U,b1W rfl,a0s] at kx
  obtain ⟨s3,s4,rfl,n1,n2⟩:=kx
  replace b2:=hx3.blk b2
  replace b3:=hx3.blk b3
  replace b6:=hx3.blk b6
  replace hx:=hx.trans hx3
  have hz2:=a0j b2
  have hz3:=a0j b3
  simp [b2,b3,b6,hz2,hz3,l1.plain,l2.plain,l3.plain,l4.plain,l5.plain,n1.cells,n2.cells,n1.plain,n2.plain]
  generalize hS1:Array.setIfInBounds G8 _ _=G9
  generalize hS2:Array.setIfInBounds G9 _ _=G10
  replace b3:=a0z hS1 b3 (by omega)
  refine ⟨by omega,fun _=>⟨_,_,_,(0,a0f (a.V + gk)),rfl,h8,⟨s3,s4,rfl,(n1.setS hS1 b2 (by decide)).setS hS2 b3 (by decide),(n2.setS hS1 b2 (by decide)).setS hS2 b3 (by decide)⟩,?_,?_⟩⟩
  ·show e0I (a0f (a.V + gk))≤300000
   rw [a0A];omega
  ·rw [b1W ha];exact ⟨rfl,hfin _ hS⟩
theorem q0t {rows:List (List b0e)} {e:c0c} {d:List b0W} {i j:Nat} (hi:i < rows.length) (hj:j < rows.length):c0o rows e d (i:Int)=c0o rows e d (j:Int):=by
 unfold c0o
 rw [show decide (0≤(i:Int))=true by simp,show decide (0≤(j:Int))=true by simp,show decide ((i:Int) < rows.length)=true by simp;omega,show decide ((j:Int) < rows.length)=true by simp;omega]
def a1r (rows:List (List b0e)) (e:c0c) (d:List b0W) (r:Value) (H':a0e):Prop :=
 ∃ l c xs,r=.tuple #[l,.int .i64 c]∧d0N H' l xs ∧
  if rows=[] ∨ c0o rows e d 0=true then c=0∧xs.length=rows.length∧∀ i (h:i < xs.length),o0p rows e d i (e.set.length + e.m.toNat) xs[i]∧e0I xs[i].2≤300000 else c=1∧xs=[]
def J0B (H:a0e) (rows:List (List b0e)) (e:c0c) (d:List b0W) (s u:Value) (ec:List Value) (i:Nat) (ρ:Nat→Value) (G:a0e):Prop :=
 ρ 2=u∧ρ 3=.pointer (some ⟨H.size,0,none⟩)∧ρ 4=.pointer (some ⟨H.size + 1,0,none⟩)∧Ext H G∧a0e.blk G H.size=.row false a0y [s]∧a0e.blk G (H.size + 1)=.row false b0B ec ∧
  ∃ xs,xs.length=i∧b0a PE H.size G a0Z 5 (ρ 8) xs∧(∀ j (h:j < xs.length),o0p rows e d j (e.set.length + e.m.toNat) xs[j]∧e0I xs[j].2≤300000)∧(0 < i→c0o rows e d 0=true)
theorem m0R {rows:List (List b0e)} {e:c0c} {d:List b0W} (ht:d0a H v rows) (he:i0c H w e) (hd:d0N H u d) (hf:fl≤H.size) (hF:J0E rows e d) :
  a0S env fl T0s [v,w,u] H (fun r H'=>a1r rows e d r H'∧Ext H H') R:=by
 have hrl:=hF.rl
 have ht0:=ht;have he0:=he
 obtain ⟨s,rfl,hs⟩:=ht
 obtain ⟨f,t,sG,sS,sP,rfl,hG,hS,hPc,hPp⟩:=he
 refine a0g a1B hf (h:=?_)
 intro ρ h0
 simp [W0l,K0e,K0f,h0,hs.cells,hG.cells,hS.cells,hPc]
 generalize hGG:Array.push (Array.push H _) _=G
 obtain ⟨hx,b0,b1⟩:=push2 hGG
 clear hGG
 simp [K0g,b0,hs.slen]
 refine c0I (n:=rows.length) (J0B H rows e d s u [.int .i64 f,.int .i64 t,.int .i64 e.m,sG,sS,sP]) rfl rfl (by decide) (by omega) (by simp) (by simp) ?_ ?_ ?_ ?_
 ·exact ⟨by simp [h0],by simp,by simp,hx,b0,b1,[],rfl,by simpa using b0a.nil,by simp,by simp⟩
 ·intro i ρ ρ' G h hI;simpa [J0B,h] using hI
 ·clear h0 ρ hx b0 b1 G
  rintro i ρ G hi gi gn ⟨g2,g3,g4,hx,b0,b1,xs,hxl,ho,hxs,hask⟩
  obtain ⟨sl,g8⟩:∃ s,ρ 8=s:=⟨_,rfl⟩
  rw [g8] at ho
  simp [K0h,K0i,gi,g2,g3,g4,b0,b1]
  refine (f0f (row:=(i:Int)) (ht0.mono hx) (he0.mono hx) (hd.mono b0X hx) hx.1 hF).mono ?_
  rintro _ G2 ⟨⟨x,a,c,xe,rfl,h8,kx,hxz,hcase⟩,hx2⟩
  obtain ⟨c1,c2,c3,c4,c5,c6,c7,c8,rfl,p1,p2,p3,p4,p5,p6,p7,p8⟩:=h8
  obtain ⟨s1,s2,rfl,q1,q2⟩:=kx
  replace ho:=ho.mono b0X hx2
  replace b0:=hx2.blk b0
  replace b1:=hx2.blk b1
  replace hx:=hx.trans hx2
  clear hx2
  have hsz:=hx.1
  simp [q1.cells,q2.cells,q1.plain,q2.plain,p1,p2,p3,p4,p5,p6,p7,p8,hsz,show H.size≤G2.size + 1 by omega]
  generalize hGG:Array.setIfInBounds (Array.setIfInBounds (Array.push (Array.push _ _) _) _ _) _ _=G3
  obtain ⟨hx2,b4,_⟩:=H0E hGG
  clear hGG
  replace ho:=ho.mono b0X hx2
  replace b0:=hx2.blk b0
  replace b1:=hx2.blk b1
  replace hx:=hx.trans hx2
  replace q1:=q1.mono hx2
  replace q2:=q2.mono hx2
  clear hx2
  have ha0:c0o rows e d (i:Int)=c0o rows e d 0:=q0t (j:=0) hi (by omega)
  by_cases ha:c0o rows e d 0=true
  ·rw [b1W (by rw [ha0];exact ha)] at hcase
   obtain ⟨rfl,hsup⟩:=hcase
   simp [A0X]
   obtain ⟨v',G5,h1,h2,h3,h4⟩:=b0a.app (P:=PE) (sz:=5) (e:=a0Z) (by decide) (fun G' cs x _ hl h=>h0q.lx h hl) ho (e2:=a0Z) (c:=1) (bytes:=72) (new:=[.int .i64 xe.1,.bool xe.2.1.1,s1,.bool xe.2.2.1,s2]) (x:=xe) ⟨s1,s2,rfl,q1,q2⟩ rfl (by simp [q1.plain,q2.plain]) (by omega) (by omega) (by omega) hx.1
   have hA:=hx
   have nA0:=ho.ne b0 (by decide)
   have nA1:=ho.ne b1 (by decide)
   simp [K0k,g8,b4,h1,q1.cells,q2.cells]
   refine Rnd.mk (by simp [gi]) (by simp [gn]) ⟨by simp [g2],by simp [g3],by simp [g4],h4 _ (b1S _) hx,(h3.2 _ (a0j b0) nA0).trans b0,(h3.2 _ (a0j b1) nA1).trans b1,xs ++ [xe],by simp [hxl],b0a.cast (v':=v') (by simp) h2,fun j hj=>?_,fun _=>ha⟩
   by_cases hjl:j < xs.length
   ·rw [c1I hjl];exact hxs j hjl
   ·have:j=i:=by simp at hj;omega
    subst this
    rw [c1o (by omega)]
    simp only [hxl,Nat.sub_self,List.getElem_cons_zero]
    exact ⟨by simpa using hsup,hxz⟩
  ·rw [b1T (by rw [ha0];exact ha)] at hcase
   obtain ⟨rfl,_⟩:=hcase
   simp [A0X,K0j]
   have hne:¬ (rows=[] ∨ c0o rows e d 0=true):=by
    rintro (h | h)
    ·subst h;simp at hi
    ·exact ha h
   exact fun _=>⟨_,_,[],rfl,Sls.nil,by rw [b1T hne];exact ⟨rfl,rfl⟩⟩
 ·clear h0 ρ hx b0 b1 G
  rintro ρ G gi gn ⟨g2,g3,g4,hx,b0,b1,xs,hxl,ho,hxs,hask⟩
  obtain ⟨sl,g8⟩:∃ s,ρ 8=s:=⟨_,rfl⟩
  rw [g8] at ho
  simp [A0W,g8]
  refine fun _=>⟨_,_,xs,rfl,ho.sls,?_⟩
  rw [b1W (by
   by_cases h:rows=[]
   ·exact .inl h
   ·exact .inr (hask (by have:=e1D.2 h;omega)))]
  exact ⟨rfl,hxl,hxs⟩
end
section
open Go SX
set_option maxHeartbeats 1000000
def shE (s k:Int):c0c:=⟨0,[],[⟨[a0m s],[],a0m k⟩]⟩
theorem w0h {z:Int}:vQ (a0m z)=(z:Rat):=by unfold vQ;rw [a0k]
theorem G0j {s k:Int} {z:Nat→Rat} {row:Nat} (hr:row < 2):m0H ((b0S 1 1).getD row []) (shE s k) 1 z=((if row=0 then 1 else -1:Int):Rat) * ((s:Rat) * z 0 + (k:Rat)):=by
 have e:(b0S 1 1).getD row []=f0G 1 0 (if row=0 then 1 else -1):=by simpa using n0f (n:=1) (i:=0) (m:=1) hr (by decide)
 have h1:P0s ((shE s k).set.getD 0 aff0) 1 z=(s:Rat) * z 0 + (k:Rat):=by
  show rs (fun j=>vQ (([a0m s] ++ []:List _).getD j iz) * z j) 1 + vQ (a0m k)=_
  rw [rs,rs,Rat.zero_add,w0h]
  show vQ (a0m s) * z 0 + _=_
  rw [w0h]
 unfold m0H
 rw [e]
 have:=G0f (n:=1) (i:=0) (p:=if row=0 then 1 else -1) (f:=fun i=>P0s ((shE s k).set.getD i aff0) 1 z) (by decide)
 rw [h1] at this
 exact this
end
section
open Go
set_option maxHeartbeats 4000000
variable {fl:Nat} {H G:a0e} {R:a0u} {v w u:Value}
theorem w0T {n m:Nat}:∀ r ∈ b0S n m,Few 6 r:=by
 intro r hr
 have h1:∀ z:Int,-1≤z→z≤1→e0I (a0f (z:Rat))≤6:=fun z h1 h2=>by
  rw [a0A,p0W]
  have:=q0Y (z:=z) (k:=1) (by omega)
  omega
 obtain ⟨i,_,h | h⟩:=h0h hr
 all_goals
  rw [h]
  intro x hx
  unfold f0G at hx
  obtain ⟨j,_,rfl⟩:=c1M.1 hx
  refine ⟨h1 _ ?_ ?_,b0Z _,b0Z _⟩
  all_goals (split;omega;split <;> omega)
theorem d0G {n:Int} (hf:fl≤H.size):a0S env fl H0m [.int .i64 n] H (fun r H'=>r=.int .i64 n∧Ext H H') R:=by
 refine a0g a1D hf (h:=?_)
 intro ρ h0
 simp [W0n,K0u,K0v,h0]
theorem Sls.atX {α:Type} {P:a0e→List Value→α→Prop} {e sz:Nat} {l:List α} (h:Sls P H e sz v l) {j:Nat} (hj:j < l.length) (hs:0 < sz) :
  ∃ b o cs,adr sz v j=.pointer (some ⟨b,o,none⟩)∧cs.length=sz∧P H cs l[j] ∧
   ∀ G,Ext H G→(∀ k n,k + n≤sz→0 < n→rdn (a0e.blk G b) (o + k) n=some (.agg ((cs.drop k).take n).toArray))∧∀ k,k < sz→rd (a0e.blk G b) (o + k)=some (cs.getD k undef):=by
 obtain ⟨cs,⟨hl,h1⟩,h2⟩:=h
 have h3:=h2 j hj
 rcases h1 with ⟨rfl,h1⟩ | ⟨b,off,cap,ro,cells,rfl,hb,ho,rfl⟩
 ·omega
 ·have hj2:(j + 1) * sz≤l.length * sz:=b1Z sz hj
  rw [c1i,c1H] at hj2
  have e1:(((cells.drop off).take (l.length * sz)).drop (j * sz)).take sz=(cells.drop (off + j * sz)).take sz:=by
   rw [e1b,d1P,d1s,c1N (by omega)]
  rw [e1] at h3
  refine ⟨b,off + j * sz,_,rfl,by simp;omega,h3,fun G hx=>⟨fun k n hk hn=>?_,fun k hk=>?_⟩⟩
  ·rw [hx.blk hb,F0Z,b1W (by omega),e1b,d1P,d1s,c1N (by omega)]
  ·rw [hx.blk hb,O0R,b1Q,c1Y,b1W (by omega),d1e,b1V (by omega)];rfl
def X0t (l:List (Bool × List Nat)):Prop:=∀ x ∈ l,x.2.length≤40
theorem h0I {l:List (Bool × List Nat)} (h:e0A H v l) (hf:fl≤H.size) (hl:l.length < 1073741824):a0S env fl Q0e [v] H (fun r H'=>(∃ c,r=.bool c∧(c=false→X0t l))∧Ext H H') R:=by
 refine a0g a1G hf (h:=?_)
 intro ρ h0
 simp [W0p,K0F,K0G,h0]
 refine h0A (fun n ρ G=>ρ 0=v∧ρ 3=.int .i64 (n:Int)∧G=H∧X0t (l.take n)) l.length (by decide) (by simp [h0,X0t]) ?_
 clear h0 ρ
 rintro n ρ G hn1 ⟨g0,g3,rfl,hpre⟩
 simp [K0H,g0,g3,h.slen]
 refine i0X.mk (by simp) (fun hlt=>?_) (fun heq=>?_)
 ·obtain ⟨b,o,cs,ha,hcl,⟨s,hcs,hs⟩,hat⟩:=h.atX hlt (by decide)
  have hcs2:cs=[.bool l[n].1,s]:=by simpa using e1K (fun v=>match v with | Value.agg a=>a.toList | _=>[]) hcs
  subst hcs2
  have c1:=(hat _ (Ext.refl _)).2 1 (by decide)
  simp at c1
  by_cases h1:40 < l[n].2.length
  ·have h1':(40:Int) < (l[n].2.length:Int):=by omega
   simp [E0g,g0,g3,h.ia hlt,ha,c1,hs.slen,h1,h1',K0I]
  ·have h1':¬ (40:Int) < (l[n].2.length:Int):=by omega
   simp [E0g,g0,g3,h.ia hlt,ha,c1,hs.slen,h1,h1']
   unfold q0c
   simp [K0J,g3,c0t (show n < 4611686018427387904 by omega)]
   refine f0A.mk ⟨by simp [g0],by simp,rfl,fun x hx=>?_⟩
   rw [c1k hlt] at hx
   rcases c1s.1 hx with hx | hx
   ·exact hpre x hx
   ·rw [d1H.1 hx];omega
 ·subst heq
  rw [c1h] at hpre
  simp [K0K]
  exact hpre
theorem u0G {a:Bool × List Nat} {p c:Nat} {ro:Bool} {s:Value} (hb:H.blk p=.row ro a0a [.bool a.1,s]) (h:Lim H s a.2):e0A H (.slice (some ⟨p,0,none⟩) 1 c) [a]:=by
 refine ⟨[.bool a.1,s],⟨rfl,.inr ⟨p,0,c,ro,_,rfl,hb,by simp,by simp⟩⟩,fun j hj=>?_⟩
 have:j=0:=by simpa using hj
 subst this
 exact ⟨s,rfl,h⟩
def H0v (a:f0i):Prop:=u0e a∧a.X.length≤60∧a.W.length≤60
theorem q0z {l:List f0i} (h:g0n H v l) (hf:fl≤H.size) (hl:l.length < 1073741824):a0S env fl Q0g [v] H (fun r H'=>(∃ c,r=.bool c∧(c=false→∀ a ∈ l,H0v a))∧Ext H H') R:=by
 refine a0g a1Y hf (h:=?_)
 intro ρ h0
 simp [W0H,M0f,M0g,h0]
 refine h0A (fun n ρ G=>ρ 0=v∧ρ 3=.int .i64 (n:Int)∧Ext H G∧∀ a ∈ l.take n,H0v a) l.length (by decide) (by simp [h0]) ?_
 clear h0 ρ
 rintro n ρ G hn1 ⟨g0,g3,hx,hpre⟩
 have k:=h.mono b0T hx
 simp [M0h,g0,g3,k.slen]
 refine i0X.mk (by simp) (fun hlt=>?_) (fun heq=>?_)
 ·obtain ⟨b,o,cs,ha,hcl,⟨sX,sW,s,hcs,kX,kW,kK⟩,hat⟩:=k.atX hlt (by decide)
  have hcs2:cs=[sX,sW,.bool l[n].K.1,s]:=by simpa using e1K (fun v=>match v with | Value.agg a=>a.toList | _=>[]) hcs
  subst hcs2
  have c0:=(hat _ (Ext.refl _)).2 0 (by decide)
  have c1:=(hat _ (Ext.refl _)).2 1 (by decide)
  have c2:=(hat _ (Ext.refl _)).1 2 2 (by decide) (by decide)
  simp at c0 c1 c2
  by_cases h1:60 < l[n].X.length
  ·have h1':(60:Int) < (l[n].X.length:Int):=by omega
   simp [v0T,g0,g3,k.ia hlt,ha,c0,kX.slen,h1,h1',n0Z]
  have h1':¬ (60:Int) < (l[n].X.length:Int):=by omega
  by_cases h2:60 < l[n].W.length
  ·have h2':(60:Int) < (l[n].W.length:Int):=by omega
   simp [v0T,g0,g3,k.ia hlt,ha,c0,c1,kX.slen,kW.slen,h1,h1',h2,h2',n0Z]
  have h2':¬ (60:Int) < (l[n].W.length:Int):=by omega
  simp [v0T,g0,g3,k.ia hlt,ha,c0,c1,c2,kX.slen,kW.slen,h1,h1',h2,h2']
  generalize hGG:Array.push G _=G1
  obtain ⟨hx2,b0⟩:=h0Z hGG
  clear hGG
  refine (h0I (u0G b0 (kK.mono hx2)) (by have:=hx.1;have:=hx2.1;omega) (by simp)).mono ?_
  rintro _ G2 ⟨⟨c,rfl,hc1⟩,hx3⟩
  replace hx2:=hx2.trans hx3
  cases c
  case true=>simp [n0Z]
  have d0:=(hat _ hx2).2 0 (by decide)
  simp at d0
  simp [g0,g3,k.ia hlt,ha,d0]
  refine (h0I (kX.mono c0y hx2) (by have:=hx.1;have:=hx2.1;omega) (by omega)).mono ?_
  rintro _ G3 ⟨⟨c,rfl,hc2⟩,hx3⟩
  replace hx2:=hx2.trans hx3
  cases c
  case true=>simp [n0Z]
  have d1:=(hat _ hx2).2 1 (by decide)
  simp at d1
  simp [g0,g3,k.ia hlt,ha,d1]
  refine (h0I (kW.mono c0y hx2) (by have:=hx.1;have:=hx2.1;omega) (by omega)).mono ?_
  rintro _ G4 ⟨⟨c,rfl,hc3⟩,hx3⟩
  replace hx2:=hx2.trans hx3
  cases c
  case true=>simp [n0Z]
  simp
  unfold q0c
  simp [M0i,g3,c0t (show n < 4611686018427387904 by omega)]
  refine f0A.mk ⟨by simp [g0],by simp,hx.trans hx2,fun x hx=>?_⟩
  rw [c1k hlt] at hx
  rcases c1s.1 hx with hx | hx
  ·exact hpre x hx
  ·rw [d1H.1 hx]
   have hK:=hc1 rfl _ (d1H.2 rfl)
   exact ⟨⟨fun x hx=>⟨hc2 rfl x hx,kX.lim x hx⟩,fun x hx=>⟨hc3 rfl x hx,kW.lim x hx⟩,hK,kK.ok⟩,by omega,by omega⟩
 ·subst heq
  rw [c1h] at hpre
  simp [M0j]
  exact fun _=>hpre
def u0E (e:c0c):Prop:=(∀ a ∈ e.set,H0v a)∧(∀ a ∈ e.guards,H0v a)∧e.guards.length≤100∧e.set.length≤20
theorem q0i {e:c0c} {p c:Nat} {f t:Int} {sG sS sP:Value} (hb:a0e.blk H p=.row false b0B [.int .i64 f,.int .i64 t,.int .i64 e.m,sG,sS,sP]) (hG:g0n H sG e.guards) (hS:g0n H sS e.set) (hf:fl≤H.size) :
  a0S env fl T0w [.agg #[.slice none 0 0,.slice none 0 0,.slice (some ⟨p,0,none⟩) 1 c,.slice none 0 0]] H (fun r H'=>(∃ c,r=.bool c∧(c=false→u0E e))∧Ext H H') R:=by
 refine a0g a1L hf (h:=?_)
 intro ρ h0
 simp [W0u,L0c,h0]
 generalize hGG:Array.push H _=G
 obtain ⟨hx,b0⟩:=h0Z hGG
 clear hGG
 replace hb:=hx.blk hb
 have z0:g0Q (.slice none 0 0)=some (.int .i64 0):=rfl
 have z1:g0Q (.slice (some ⟨p,0,none⟩) 1 c)=some (.int .i64 1):=rfl
 simp [L0d,b0,z0,z1]
 simp [L0e]
 refine h0A (fun n ρ G=>ρ 1=.pointer (some ⟨H.size,0,none⟩)∧ρ 3=.int .i64 (n:Int)∧Ext H G∧a0e.blk G p=.row false b0B [.int .i64 f,.int .i64 t,.int .i64 e.m,sG,sS,sP]∧a0e.blk G H.size=.row false k0C [.slice none 0 0,.slice none 0 0,.slice (some ⟨p,0,none⟩) 1 c,.slice none 0 0]∧(1≤n→u0E e)) 1 (by decide) ?_ ?_
 ·exact ⟨by simp,by simp,hx,hb,b0,fun h=>by omega⟩
 clear h0 ρ hx hb b0 G
 rintro n ρ G hn ⟨g1,g3,hx,hb,b0,hq⟩
 simp [L0f,g1,g3,b0,z1]
 refine i0X.mk (by simp;omega) (fun hlt=>?_) (fun heq=>?_)
 ·have hn0:n=0:=by omega
  subst hn0
  have i0:iaV 6 (.slice (some ⟨p,0,none⟩) 1 c) (.int .i64 0)=some (.pointer (some ⟨p,0,none⟩)):=by simp [iaV]
  have g3':ρ 3=.int .i64 0:=g3
  have kG:=hG.mono b0T hx
  have kS:=hS.mono b0T hx
  have lG:=kG.slen
  have lS:=kS.slen
  by_cases h1:100 < e.guards.length
  ·have h1':(100:Int) < (e.guards.length:Int):=by omega
   simp [v0R,g1,g3',b0,i0,hb,lG,h1,h1',r0D]
  have h1':¬ (100:Int) < (e.guards.length:Int):=by omega
  by_cases h2:20 < e.set.length
  ·have h2':(20:Int) < (e.set.length:Int):=by omega
   simp [v0R,g1,g3',b0,i0,hb,lG,lS,h1,h1',h2,h2',r0D]
  have h2':¬ (20:Int) < (e.set.length:Int):=by omega
  simp [v0R,g1,g3',b0,i0,hb,lG,lS,h1,h1',h2,h2']
  refine (q0z kG hx.1 (by omega)).mono ?_
  rintro _ G2 ⟨⟨c1,rfl,hc1⟩,hx2⟩
  replace hb:=hx2.blk hb
  replace b0:=hx2.blk b0
  replace hx:=hx.trans hx2
  cases c1
  case true=>simp [r0D]
  simp [g1,g3',b0,i0,hb]
  refine (q0z (kS.mono b0T hx2) hx.1 (by omega)).mono ?_
  rintro _ G3 ⟨⟨c1,rfl,hc2⟩,hx2⟩
  replace hb:=hx2.blk hb
  replace b0:=hx2.blk b0
  replace hx:=hx.trans hx2
  cases c1
  case true=>simp [r0D]
  simp
  unfold q0c
  have w1:IntKind.i64.wrap 1=1:=by decide
  simp [L0g,g3',w1]
  exact f0A.mk ⟨by simp [g1],by simp,hx,hb,b0,fun _=>⟨hc2 rfl,hc1 rfl,by omega,by omega⟩⟩
 ·subst heq
  have hge:=hq (b1S _)
  simp [L0h]
  refine h0A (fun n ρ G=>ρ 1=.pointer (some ⟨H.size,0,none⟩)∧ρ 4=.int .i64 (n:Int)∧a0e.blk G H.size=.row false k0C [.slice none 0 0,.slice none 0 0,.slice (some ⟨p,0,none⟩) 1 c,.slice none 0 0]) 0 (by decide) ?_ ?_
  ·exact ⟨by simp [g1],by simp,b0⟩
  rintro n ρ G hn ⟨g1,g4,b0⟩
  simp [L0i,g1,g4,b0,z0]
  refine i0X.mk (by simp) (fun hlt=>by omega) (fun heq=>?_)
  simp [F0b]
  exact fun _=>hge
theorem q0j {rows:List (List b0e)} {e:c0c} {d:List b0W} (ht:d0a H v rows) (he:i0c H w e) (hd:d0N H u d) (hf:fl≤H.size) :
  a0S env fl f_7 [v,w,u] H (fun r H'=>(∃ c,r=.bool c∧(c=false→z0a rows∧(d.length≤100∧d0E i0p d=false)∧u0E e))∧Ext H H') R:=by
 obtain ⟨s,rfl,hs⟩:=ht
 obtain ⟨f,t,sG,sS,sP,rfl,hG,hS,hPc,hPp⟩:=he
 refine a0g e_7 hf (h:=?_)
 intro ρ h0
 simp [s_7,U0Z,h0,hs.cells,hG.cells,hS.cells,hPc]
 generalize hGG:Array.push (Array.push H _) _=G
 obtain ⟨hx,b0,b1⟩:=push2 hGG
 clear hGG
 simp [V0a,b0]
 refine (r0Z (hs.mono c0N hx) hx.1).mono ?_
 rintro _ G2 ⟨⟨c1,rfl,hc1⟩,hx2⟩
 replace b1:=hx2.blk b1
 replace hx:=hx.trans hx2
 cases c1
 case true=>simp
 simp [h0]
 refine (r0Y (hd.mono b0X hx) hx.1).mono ?_
 rintro _ G3 ⟨rfl,hx2⟩
 replace b1:=hx2.blk b1
 replace hx:=hx.trans hx2
 by_cases h1:100 < d.length
 ·simp [h1]
 cases h2:d0E i0p d
 case true=>simp [h1]
 simp [h1,b1,hG.cells,hS.cells,hPc]
 generalize hGG:Array.push G3 _=G4
 obtain ⟨hx2,b2⟩:=h0Z hGG
 clear hGG
 replace hx:=hx.trans hx2
 refine (q0i b2 (hG.mono b0T hx) (hS.mono b0T hx) hx.1).mono ?_
 rintro _ G5 ⟨⟨c1,rfl,hc2⟩,hx2⟩
 cases c1
 case true=>simp
 simp
 exact fun _=>⟨hc1 rfl,by omega,hc2 rfl⟩
theorem w0N {rows:List (List b0e)} {e:c0c} (ht:d0a H v rows) (he:i0c H w e) (hf:fl≤H.size) :
  a0S env fl f_8 [v,w] H (fun r H'=>(∃ c,r=.bool c∧(c=true→rows.length≤8∧e.set.length≤3∧e.m≤3∧e.guards.length≤6))∧Ext H H') R:=by
 obtain ⟨s,rfl,hs⟩:=ht
 obtain ⟨f,t,sG,sS,sP,rfl,hG,hS,hPc,hPp⟩:=he
 refine a0g e_8 hf (h:=?_)
 intro ρ h0
 simp [s_8,V0d,h0,hs.cells,hG.cells,hS.cells,hPc]
 generalize hGG:Array.push (Array.push H _) _=G
 obtain ⟨hx,b0,b1⟩:=push2 hGG
 clear hGG
 have l1:=hs.slen
 have l2:=hG.slen
 have l3:=hS.slen
 by_cases h1:rows.length≤8
 ·have h1':(rows.length:Int)≤8:=by omega
  by_cases h2:e.set.length≤3
  ·have h2':(e.set.length:Int)≤3:=by omega
   by_cases h3:e.m≤3
   ·by_cases h4:e.guards.length≤6
    ·have h4':(e.guards.length:Int)≤6:=by omega
     simp [x0w,b0,b1,l1,l2,l3,h1,h1',h2,h2',h3,h4,h4']
    ·have h4':¬ (e.guards.length:Int)≤6:=by omega
     simp [x0w,b0,b1,l1,l2,l3,h1,h1',h2,h2',h3,h4,h4']
   ·simp [x0w,b0,b1,l1,l2,l3,h1,h1',h2,h2',h3]
  ·have h2':¬ (e.set.length:Int)≤3:=by omega
   simp [x0w,b0,b1,l1,l2,l3,h1,h1',h2,h2']
 ·have h1':¬ (rows.length:Int)≤8:=by omega
  simp [x0w,b0,b1,l1,l2,l3,h1,h1']
end
section
open Go SX
set_option maxHeartbeats 4000000
variable {fl:Nat} {H G:a0e} {R:a0u} {v w u:Value}
theorem G0W {a:f0i} {p c:Nat} {ro:Bool} {sX sW s:Value} (hb:a0e.blk H p=.row ro f0k [sX,sW,.bool a.K.1,s]) (hX:e0A H sX a.X) (hW:e0A H sW a.W) (hK:Lim H s a.K.2):g0n H (.slice (some ⟨p,0,none⟩) 1 c) [a]:=by
 refine ⟨[sX,sW,.bool a.K.1,s],⟨rfl,.inr ⟨p,0,c,ro,_,rfl,hb,by simp,by simp⟩⟩,fun j hj=>?_⟩
 have:j=0:=by simpa using hj
 subst this
 exact ⟨sX,sW,s,rfl,hX,hW,hK⟩
theorem Z0I {z1 z2 r2:Blk} {G3:a0e} (hN:Array.setIfInBounds (Array.push (Array.push G z1) z2) (G.size + 1) r2=G3):Ext G G3∧a0e.blk G3 G.size=z1∧a0e.blk G3 (G.size + 1)=r2:=by
 subst hN
 refine ⟨((Ext.refl G).push.push).set (by omega),?_,?_⟩
 ·rw [a0Q (by omega)];simp [a0x]
 ·rw [a0I (by simp)]
theorem V0m {s k:Int} (hs:s=1 ∨ s = -1) (h1:-4294967296 < k) (h2:k < 4294967296):j0X (shE s k):=by
 have e1:∀ z:Int,-4294967296 < z→z < 4294967296→(a0m z).2.length≤40:=fun z h1 h2=>by
  have:=q0Y (z:=z) (k:=1) (by omega)
  show lz z≤40
  omega
 refine ⟨fun a ha=>?_,fun a ha=>by simp [shE] at ha,by simp [shE],by simp [shE],by simp [shE]⟩
 have:a = ⟨[a0m s],[],a0m k⟩:=by simpa [shE] using ha
 subst this
 exact ⟨fun x hx=>by rw [d1H.1 hx];exact ⟨e1 s (by omega) (by omega),b0Z _⟩,fun x hx=>by simp at hx,e1 k h1 h2,b0Z _⟩
theorem J0p {s k:Int} {d:List b0W} {row:Nat} (hd:d.length=2) (hm:∀ x ∈ d,m0J x=true) (hr:row < 2):c0o (b0S 1 1) (shE s k) d (row:Int)=true:=by
 have hv:=y0n (n:=1) (lo:=fun _=>0) (hi:=fun _=>0) (by decide)
 unfold f0g at hv
 simp only [c1e,c1X] at hv
 have hrow:((row:Nat):Int) < ((b0S 1 1).length:Int):=by rw [d0x];omega
 have hany:d0E (fun e=>!m0J e) d=false:=List.any_eq_false.2 fun x hx=>by rw [hm x hx];decide
 have f1:j0d (shE s k).set 1 0=true:=by unfold j0d d0E;simp [shE]
 have f2:j0d (shE s k).guards 1 0=true:=by unfold j0d d0E;simp [shE]
 unfold c0o f0g
 show (j0U (b0S 1 1) ((1:Nat):Int) && decide (d.length=(b0S 1 1).length) && !d0E (fun e=>!m0J e) d && decide (0≤((row:Nat):Int)) && decide (((row:Nat):Int) < ((b0S 1 1).length:Int)) && decide ((0:Int)≤0) && j0d (shE s k).set 1 0 && j0d (shE s k).guards 1 0)=true
 rw [hv.1.1,hany,f1,f2,decide_eq_true hrow,decide_eq_true (show (0:Int)≤((row:Nat):Int) by omega),decide_eq_true (show d.length=(b0S 1 1).length by rw [d0x,hd])]
 rfl
theorem b1H {s k:Int} {d:List b0W} (hs:j0X (shE s k)) (hl:d.length=2) (hd:∀ x ∈ d,e0I x.2≤6∧b0t x.2.1.2∧b0t x.2.2.2):J0E (b0S 1 1) (shE s k) d :=
 ⟨hs,by rw [d0x];decide,fun r hr=>⟨w0T r hr,by obtain ⟨k,_,h | h⟩:=h0h hr <;> (rw [h,q0S];decide)⟩,hd,by omega⟩
def awD:List b0W:=[(0,a0f ((3:Int):Rat)),(1,c0m)]
theorem S0V:o0p (b0S 1 1) (shE 1 1) awD 0 1 (0,a0f ((4:Int):Rat)):=by
 have hsem:∀ z,y0a (b0S 1 1) (shE 1 1) awD 1 z ↔ z 0≤((3:Int):Rat):=fun z=>by
  have e:b0S 1 1=[f0G 1 0 1,f0G 1 0 (-1)]:=rfl
  have r1:∀ p:Int,Z0W (f0G 1 0 p) 1 z=(p:Rat) * z 0:=fun p=>G0f (f:=z) (by decide)
  unfold y0a
  rw [e]
  simp only [shE,awD,List.zip_cons_cons,List.zip_nil_right,d1m,List.not_mem_nil,or_false,forall_eq_or_imp,forall_eq,c1G,List.length_nil,c1y,a0s,true_implies]
  rw [r1]
  have h1:((1:Int):Rat) * z 0=z 0:=by rw [Rat.intCast_one,Rat.one_mul]
  rw [h1]
  simp
 refine .inr ⟨by simp [awD,d0E],.inl ⟨_,rfl,⟨fun _=>((3:Int):Rat),(hsem _).2 Rat.le_refl,?_⟩,fun z hz=>?_⟩⟩
 ·rw [G0j (by decide)];simp only [c1F];push_cast;grind
 ·have:=(hsem z).1 hz
  rw [G0j (by decide)];simp only [c1F];push_cast at this ⊢;grind
theorem G0Z:c0o (b0S 1 1) (shE 1 1) awD 0=true:=by
 refine J0p (row:=0) rfl (fun x hx=>?_) (by decide)
 have:x=(0,a0f ((3:Int):Rat)) ∨ x=(1,c0m):=by simpa [awD] using hx
 rcases this with rfl | rfl
 ·unfold m0J;simp [f0q]
 ·unfold m0J;simp [h0o]
theorem a1A:J0E (b0S 1 1) (shE 1 1) awD:=by
 refine b1H (V0m (.inl rfl) (by decide) (by decide)) rfl (fun x hx=>?_)
 have:x=(0,a0f ((3:Int):Rat)) ∨ x=(1,c0m):=by simpa [awD] using hx
 rcases this with rfl | rfl
 ·refine ⟨?_,b0Z _,b0Z _⟩
  show e0I (a0f ((3:Int):Rat))≤6
  rw [a0A,p0W]
  have:=q0Y (z:=3) (k:=1) (by omega)
  omega
 ·exact ⟨by decide,fun x hx=>by simp [c0m] at hx,fun x hx=>by simp [c0m] at hx⟩
theorem e0e (hf:fl≤H.size):a0S env fl f_9 [] H (fun r H'=>r=.bool true∧Ext H H') R:=by
 refine a0g e_9 hf (h:=?_)
 intro ρ h0
 simp [s_9,V0e,V0f]
 refine (h0k (n:=1) (b1S _) (by decide) (by decide)).mono ?_
 rintro _ G2 ⟨⟨s1,rfl,m1⟩,hx⟩
 simp [m1.cells]
 generalize hGG:Array.push G2 _=G3
 obtain ⟨hx2,b1⟩:=h0Z hGG
 clear hGG
 have kX:=u0G (c:=1) b1 (m1.mono hx2)
 replace hx:=hx.trans hx2
 refine (h0k (n:=1) hx.1 (by decide) (by decide)).mono ?_
 rintro _ G4 ⟨⟨s2,rfl,m2⟩,hx2⟩
 replace kX:=kX.mono c0y hx2
 replace hx:=hx.trans hx2
 clear hx2 b1 m1
 have hsz:=hx.1
 simp [m2.cells,show H.size≤G4.size + 1 by omega]
 generalize hGG:Array.setIfInBounds (Array.push (Array.push _ _) _) _ _=G6
 obtain ⟨hx2,b2,b3⟩:=Z0I hGG
 clear hGG
 have kS:g0n G6 (.slice (some ⟨G4.size,0,none⟩) 1 1) (shE 1 1).set:=G0W (a:=⟨[a0m 1],[],a0m 1⟩) b2 (kX.mono c0y hx2) Sls.nil (m2.mono hx2)
 replace hx:=hx.trans hx2
 obtain ⟨P,hP⟩:∃ P,P=G4.size + 1:=⟨_,rfl⟩
 rw [← hP] at b3 ⊢
 clear hx2 b2 m2 kX
 obtain ⟨vs,hvs⟩:∃ x,x=Value.slice (some ⟨G4.size,0,none⟩) 1 1:=⟨_,rfl⟩
 rw [← hvs] at b3 kS ⊢
 refine a0F ?_
 simp [V0g]
 refine (j0q (n:=1) (m:=1) (by have:=hx.1;omega) (by decide)).mono ?_
 rintro vT G7 ⟨kT,hx2⟩
 replace b3:=hx2.blk b3
 replace kS:=kS.mono b0T hx2
 replace hx:=hx.trans hx2
 clear hx2
 simp [b3]
 refine (f0P (n:=3) (by have:=hx.1;omega) (by decide) (by decide)).mono ?_
 rintro _ G8 ⟨⟨s3,s4,rfl,m3,m4⟩,hx2⟩
 replace kT:=kT.mono hx2
 replace kS:=kS.mono b0T hx2
 replace hx:=hx.trans hx2
 clear hx2 b3
 simp [m3.cells,m4.cells]
 generalize hGG:Array.push G8 _=G9
 obtain ⟨hx2,b4⟩:=h0Z hGG
 clear hGG
 have hd:d0N G9 (.slice (some ⟨G8.size,0,none⟩) 2 2) awD:=by
  refine ⟨_,(Own.mk (fl:=0) (n:=2) (sz:=5) b4 rfl (c1S _)).sl,fun k hk=>?_⟩
  match k,hk with
  | 0,_=>exact ⟨s3,s4,rfl,m3.mono hx2,m4.mono hx2⟩
  | 1,_=>exact ⟨_,_,rfl,Lim.nil,Lim.nil⟩
 replace kT:=kT.mono hx2
 replace kS:=kS.mono b0T hx2
 replace hx:=hx.trans hx2
 refine (f0f (e:=shE 1 1) (row:=0) kT ⟨0,0,.slice none 0 0,vs,.slice none 0 0,rfl,Sls.nil,kS,rfl,rfl⟩ hd (by have:=hx.1;have:=a0j b4;omega) a1A).mono ?_
 rintro _ G10 ⟨⟨x,a,c,xe,rfl,h8,kx,hxz,hcase⟩,hx2⟩
 rw [b1W G0Z] at hcase
 obtain ⟨rfl,hsup⟩:=hcase
 have hxe:xe=(0,a0f ((4:Int):Rat)):=o0p.unique hsup S0V
 subst hxe
 obtain ⟨c1,c2,c3,c4,c5,c6,c7,c8,rfl,p1,p2,p3,p4,p5,p6,p7,p8⟩:=h8
 obtain ⟨s5,s6,rfl,q1,q2⟩:=kx
 replace hx:=hx.trans hx2
 have hsz:=hx.1
 clear hx2 hd kT kS m3 m4 b4
 simp [q1.cells,q2.cells,q1.plain,q2.plain,p1,p2,p3,p4,p5,p6,p7,p8,hsz,show H.size≤G10.size + 1 by omega]
 generalize hGG:Array.setIfInBounds (Array.setIfInBounds (Array.push (Array.push _ _) _) _ _) _ _=G11
 obtain ⟨hx2,b5,_⟩:=H0E hGG
 clear hGG
 replace hx:=hx.trans hx2
 replace q1:=q1.mono hx2
 replace q2:=q2.mono hx2
 refine a0F ?_
 simp [V0h,b5]
 refine (d0G hx.1).mono ?_
 rintro _ G12 ⟨rfl,hx3⟩
 replace b5:=hx3.blk b5
 replace hx:=hx.trans hx3
 replace q1:=q1.mono hx3
 replace q2:=q2.mono hx3
 simp [b5]
 refine (f0P (n:=4) (by have:=hx.1;omega) (by decide) (by decide)).mono ?_
 rintro _ G13 ⟨⟨s7,s8,rfl,m3,m4⟩,hx3⟩
 replace hx:=hx.trans hx3
 replace q1:=q1.mono hx3
 replace q2:=q2.mono hx3
 simp
 refine (j0E (a:=a0f ((4:Int):Rat)) (b:=a0f ((4:Int):Rat)) ⟨s5,s6,rfl,q1,q2⟩ ⟨s7,s8,rfl,m3,m4⟩ hx.1 (by have:e0I (a0f ((4:Int):Rat))≤300000:=hxz;omega)).mono ?_
 rintro _ G14 ⟨rfl,hx3⟩
 simp
theorem Rats.notlong {l:List b0e} (h:b0n H v l) (k:d0E g0h l=false):Few 6 l:=by
 intro y hy
 obtain ⟨i,hi,rfl⟩:=c1Z hy
 obtain ⟨w,_,s,t,_,h1,h2⟩:=b0n.load h hi
 have h3:=List.any_eq_false.1 k _ hy
 unfold g0h at h3
 simp at h3
 exact ⟨by unfold e0I;omega,h1.ok,h2.ok⟩
theorem Rows.notlong {l:List (List b0e)} (h:e0B H v l) (k:z0a l):∀ r ∈ l,Few 6 r:=by
 intro r hr
 obtain ⟨i,hi,rfl⟩:=c1Z hr
 obtain ⟨w,_,hk⟩:=e0B.load h hi
 exact Rats.notlong hk (k.2 _ hr).2
theorem Exts.notlong {l:List b0W} (h:d0N H v l) (k:d0E i0p l=false):∀ x ∈ l,e0I x.2≤6∧b0t x.2.1.2∧b0t x.2.2.2:=by
 intro y hy
 obtain ⟨i,hi,rfl⟩:=c1Z hy
 obtain ⟨w,_,s,t,_,h1,h2⟩:=d0N.load h hi
 have h3:=List.any_eq_false.1 k _ hy
 unfold i0p g0h at h3
 simp at h3
 exact ⟨by unfold e0I;omega,h1.ok,h2.ok⟩
theorem Z0z {rows:List (List b0e)} {e:c0c} {d:List b0W} (ht:d0a H v rows) (hd:d0N H u d) (hg:z0a rows∧(d.length≤100∧d0E i0p d=false)∧u0E e) (hf:rows.length≤8∧e.set.length≤3∧e.m≤3∧e.guards.length≤6):J0E rows e d:=by
 obtain ⟨s,rfl,hs⟩:=ht
 obtain ⟨h1,⟨h2,h3⟩,h4⟩:=hg
 exact ⟨⟨fun a ha=>(h4.1 a ha).1,fun a ha=>(h4.2.1 a ha).1,hf.2.1,hf.2.2.2,hf.2.2.1⟩,hf.1,fun r hr=>⟨Rows.notlong hs h1 r hr,by have:=(h1.2 r hr).1;omega⟩,Exts.notlong hd h3,by omega⟩
def P0b (H:a0e) (s u l:Value) (c:Int) (ec:List Value) (xs:List b0W) (i:Nat) (ρ:Nat→Value) (G:a0e):Prop :=
 ρ 2=u∧ρ 3=.pointer (some ⟨H.size,0,none⟩)∧ρ 4=.pointer (some ⟨H.size + 1,0,none⟩)∧ρ 7=l∧ρ 8=.int .i64 c∧ρ 9=.int .i64 (i:Int)∧Ext H G ∧
  a0e.blk G H.size=.row false a0y [s]∧a0e.blk G (H.size + 1)=.row false b0B ec∧d0N G l xs
theorem m0r {rows:List (List b0e)} {e:c0c} {d:List b0W} (ht:d0a H v rows) (he:i0c H w e) (hd:d0N H u d) (hf:fl≤H.size) :
  a0S env fl f_3 [v,w,u] H (fun r H'=>r=.bool true∧Ext H H') R:=by
 have ht0:=ht;have he0:=he
 obtain ⟨s,rfl,hs⟩:=ht
 obtain ⟨f,t,sG,sS,sP,rfl,hG,hS,hPc,hPp⟩:=he
 refine a0g e_3 hf (h:=?_)
 intro ρ h0
 simp [s_3,U0C,h0,hs.cells,hG.cells,hS.cells,hPc]
 generalize hGG:Array.push (Array.push H _) _=G
 obtain ⟨hx,b0,b1⟩:=push2 hGG
 clear hGG
 simp [U0D,h0,b0,b1]
 refine (q0j (ht0.mono hx) (he0.mono hx) (hd.mono b0X hx) hx.1).mono ?_
 rintro _ G2 ⟨⟨c,rfl,hc1⟩,hx2⟩
 replace b0:=hx2.blk b0
 replace b1:=hx2.blk b1
 replace hx:=hx.trans hx2
 cases c
 case true =>
  simp [I0c]
  refine (e0e hx.1).mono ?_
  rintro _ G3 ⟨rfl,hx2⟩
  simp
 simp [h0,b0,b1]
 refine (w0N (ht0.mono hx) (he0.mono hx) hx.1).mono ?_
 rintro _ G3 ⟨⟨c,rfl,hc2⟩,hx2⟩
 replace b0:=hx2.blk b0
 replace b1:=hx2.blk b1
 replace hx:=hx.trans hx2
 cases c
 case false =>
  simp [I0c]
  refine (e0e hx.1).mono ?_
  rintro _ G3 ⟨rfl,hx2⟩
  simp
 have hsl:=(hs.mono c0N hx).slen
 by_cases h6:6 < rows.length
 ·have h6':(6:Int) < (rows.length:Int):=by omega
  simp [h0,b0,b1,hsl,h6,h6',I0c]
  refine (e0e hx.1).mono ?_
  rintro _ G3 ⟨rfl,hx2⟩
  simp
 have h6':¬ (6:Int) < (rows.length:Int):=by omega
 simp [h0,b0,b1,hsl,h6,h6',U0E]
 have hF:=Z0z ht0 hd (hc1 rfl) (hc2 rfl)
 refine (m0R (ht0.mono hx) (he0.mono hx) (hd.mono b0X hx) hx.1 hF).mono ?_
 rintro _ G4 ⟨⟨l,c,xs,rfl,kl,hcase⟩,hx2⟩
 replace b0:=hx2.blk b0
 replace b1:=hx2.blk b1
 replace hx:=hx.trans hx2
 simp [U0F]
 refine h0A (P0b H s u l c [.int .i64 f,.int .i64 t,.int .i64 e.m,sG,sS,sP] xs) rows.length (by decide) ?_ ?_
 ·exact ⟨by simp [h0],by simp,by simp,by simp,by simp,by simp,hx,b0,b1,kl⟩
 clear h0 ρ hx b0 b1 kl hsl
 rintro n ρ G hn ⟨g2,g3,g4,g7,g8,g9,hx,b0,b1,kl⟩
 have hsl:=(hs.mono c0N hx).slen
 simp [U0G,g3,g9,b0,hsl]
 refine i0X.mk (by simp) (fun hlt=>?_) (fun heq=>?_)
 ·simp [U0H,g2,g3,g4,g9,b0,b1]
  refine (f0f (row:=(n:Int)) (ht0.mono hx) (he0.mono hx) (hd.mono b0X hx) hx.1 hF).mono ?_
  rintro _ G2 ⟨⟨x,a,c',xe,rfl,h8,kx,hxz,hsup⟩,hx2⟩
  have ha0:c0o rows e d (n:Int)=c0o rows e d 0:=q0t (j:=0) hlt (by omega)
  have hcc:c' = c∧(c=0→xs.length=rows.length∧∀ h:n < xs.length,xs[n]=xe∧e0I xs[n].2≤300000):=by
   by_cases ha:c0o rows e d 0=true
   ·rw [b1W (.inr ha)] at hcase
    rw [b1W (by rw [ha0];exact ha)] at hsup
    refine ⟨by rw [hsup.1,hcase.1],fun _=>⟨hcase.2.1,fun h=>⟨?_,(hcase.2.2 n h).2⟩⟩⟩
    have h2:=hsup.2
    rw [Int.toNat_natCast] at h2
    exact o0p.unique (hcase.2.2 n h).1 h2
   ·rw [b1T (by rintro (h | h);{ subst h;simp at hlt };exact ha h)] at hcase
    rw [b1T (by rw [ha0];exact ha)] at hsup
    exact ⟨by rw [hsup.1,hcase.1],fun h=>by rw [hcase.1] at h;exact c1j h (by decide)⟩
  obtain ⟨hce,hcc⟩:=hcc
  rw [hce]
  obtain ⟨c1,c2,c3,c4,c5,c6,c7,c8,rfl,p1,p2,p3,p4,p5,p6,p7,p8⟩:=h8
  obtain ⟨s1,s2,rfl,q1,q2⟩:=kx
  replace b0:=hx2.blk b0
  replace b1:=hx2.blk b1
  replace kl:=kl.mono b0X hx2
  replace hx:=hx.trans hx2
  clear hx2
  have hsz:=hx.1
  simp [q1.cells,q2.cells,q1.plain,q2.plain,p1,p2,p3,p4,p5,p6,p7,p8,hsz,show H.size≤G2.size + 1 by omega]
  generalize hGG:Array.setIfInBounds (Array.setIfInBounds (Array.push (Array.push _ _) _) _ _) _ _=G3
  obtain ⟨hx2,b4,_⟩:=H0E hGG
  clear hGG
  obtain ⟨P,hP⟩:∃ P,P=G2.size:=⟨_,rfl⟩
  rw [← hP] at b4 ⊢
  replace b0:=hx2.blk b0
  replace b1:=hx2.blk b1
  replace kl:=kl.mono b0X hx2
  replace hx:=hx.trans hx2
  replace q1:=q1.mono hx2
  replace q2:=q2.mono hx2
  clear hx2
  refine a0F ?_
  simp [U0I,g8]
  refine (d0G hx.1).mono ?_
  rintro _ G4 ⟨rfl,hx2⟩
  replace b0:=hx2.blk b0
  replace b1:=hx2.blk b1
  replace b4:=hx2.blk b4
  replace kl:=kl.mono b0X hx2
  replace hx:=hx.trans hx2
  replace q1:=q1.mono hx2
  replace q2:=q2.mono hx2
  clear hx2
  simp [g8]
  refine (d0G hx.1).mono ?_
  rintro _ G5 ⟨rfl,hx2⟩
  replace b0:=hx2.blk b0
  replace b1:=hx2.blk b1
  replace b4:=hx2.blk b4
  replace kl:=kl.mono b0X hx2
  replace hx:=hx.trans hx2
  replace q1:=q1.mono hx2
  replace q2:=q2.mono hx2
  clear hx2
  simp [g8]
  refine (d0G hx.1).mono ?_
  rintro _ G6 ⟨rfl,hx2⟩
  replace b0:=hx2.blk b0
  replace b1:=hx2.blk b1
  replace b4:=hx2.blk b4
  replace kl:=kl.mono b0X hx2
  replace hx:=hx.trans hx2
  replace q1:=q1.mono hx2
  replace q2:=q2.mono hx2
  clear hx2
  by_cases hc0:c=0
  ·obtain ⟨hxl,hxe⟩:=hcc hc0
   have hnx:n < xs.length:=by omega
   have hnx':¬ (xs.length:Int)≤(n:Int):=by omega
   have hnx2:¬ xs.length≤n:=by omega
   obtain ⟨hxe,hxs⟩:=hxe hnx
   obtain ⟨wx,hlx,k0⟩:=d0N.load kl hnx
   simp [hc0,g7,g9,kl.slen,hnx',hnx2,kl.ia hnx,hlx,b4]
   refine (q0l (a:=xs[n]) (b:=xe) k0 ⟨s1,s2,rfl,q1,q2⟩ hx.1 (by omega)).mono ?_
   rintro _ G7 ⟨rfl,hx2⟩
   simp [hxe]
   unfold q0c
   simp [Q0Z,g9,c0t (show n < 4611686018427387904 by omega)]
   exact f0A.mk ⟨by simp [g2],by simp [g3],by simp [g4],by simp [g7],by simp [g8,hc0],by simp,hx.trans hx2,hx2.blk b0,hx2.blk b1,kl.mono b0X hx2⟩
  ·simp [hc0]
   unfold q0c
   simp [Q0Z,g9,c0t (show n < 4611686018427387904 by omega)]
   exact f0A.mk ⟨by simp [g2],by simp [g3],by simp [g4],by simp [g7],by simp [g8],by simp,hx,b0,b1,kl⟩
 ·subst heq
  simp [L0Q,g8]
  refine (d0G hx.1).mono ?_
  rintro _ G2 ⟨rfl,hx2⟩
  replace b0:=hx2.blk b0
  replace kl:=kl.mono b0X hx2
  replace hx:=hx.trans hx2
  by_cases hok:rows=[] ∨ c0o rows e d 0=true
  ·rw [b1W hok] at hcase
   obtain ⟨rfl,hxl,_⟩:=hcase
   have hxl':(xs.length:Int)=(rows.length:Int):=by omega
   simp [g7,g3,b0,kl.slen,(hs.mono c0N hx).slen,hxl]
   refine (e0e hx.1).mono ?_
   rintro _ G3 ⟨rfl,hx2⟩
   simp
  ·rw [b1T hok] at hcase
   obtain ⟨rfl,rfl⟩:=hcase
   have z0:=kl.slen
   simp [g7,z0]
   refine (e0e hx.1).mono ?_
   rintro _ G3 ⟨rfl,hx2⟩
   simp
end
section
open Go
variable {H:a0e} {v:Value} {m:Nat} {cs:List Value} {P:Program}
structure i0Y (P:Program):Prop where
 t:i0e P
 u64:∃ f g h:Field,P.underlying 64=some (.struct #[f,g,h])∧f.type=54∧g.type=54∧h.type=38
 u54:P.underlying 54=some (.slice 38)
 u25:P.underlying 25=some (.slice 64)
 u26:P.underlying 26=some (.slice 4)
 u28:∃ a b c d e f:Field,P.underlying 28=some (.struct #[a,b,c,d,e,f])∧a.type=3∧b.type=3∧c.type=3∧d.type=25∧e.type=25∧f.type=26
 u21:P.underlying 21=some (.int .i32)
 u61:P.underlying 61=some (.int .i16)
 c38:P.cellsOf 38=2
 c64:P.cellsOf 64=4
theorem J0S (hP:i0Y P) (h:IsT P H (m + 4) 54 [v]):∃ l,e0A H v l:=w0R hP.u54 hP.c38 (fun cs _ h=>by
 obtain ⟨b,s,l,rfl,hl⟩:=H0w hP.t h
 exact ⟨(b,l),s,rfl,hl⟩) h
theorem k0Z {t e:TypeId} (hu:P.underlying t=some (.slice e)) (h:IsT P H (m + 1) t cs):∃ v,cs=[v]∧a0R v=[v]∧a0q v=true:=by
 unfold IsT at h
 rw [hu] at h
 rcases h with h | ⟨b,len,cap,cells,h,_⟩ <;> exact ⟨_,h,rfl,rfl⟩
theorem Z0E (hP:i0Y P) (h:IsT P H (m + 5) 64 cs):∃ a,G0C H (.agg cs.toArray) a:=by
 obtain ⟨f,g,k,hu,h1,h2,h3⟩:=hP.u64
 unfold IsT at h
 rw [hu] at h
 obtain ⟨parts,rfl,hl,hp⟩:=h
 obtain ⟨p,q,r,rfl⟩:∃ p q r,parts=[p,q,r]:=by
  match parts,hl with
  | [p,q,r],_=>exact ⟨p,q,r,rfl⟩
 have h1':IsT P H (m + 4) 54 p:=by simpa [h1] using hp 0 _ rfl
 have h2':IsT P H (m + 4) 54 q:=by simpa [h2] using hp 1 _ rfl
 obtain ⟨sX,rfl,_⟩:=k0Z hP.u54 h1'
 obtain ⟨sW,rfl,_⟩:=k0Z hP.u54 h2'
 obtain ⟨X,hX⟩:=J0S hP h1'
 obtain ⟨W,hW⟩:=J0S hP h2'
 obtain ⟨b,s,l,rfl,hs⟩:=H0w (m:=m + 1) hP.t (by simpa [h3] using hp 2 _ rfl)
 exact ⟨⟨X,W,(b,l)⟩,sX,sW,s,rfl,hX,hW,hs⟩
theorem J0R (hP:i0Y P) (h:IsT P H (m + 6) 25 [v]):∃ l,g0n H v l:=w0R hP.u25 hP.c64 (fun _ _ h=>Z0E hP h) h
theorem P0w (hP:i0Y P) (h:IsV P H (m + 7) 28 v):∃ e,i0c H v e:=by
 obtain ⟨a,b,c,d,e,f,hu,h1,h2,h3,h4,h5,h6⟩:=hP.u28
 unfold IsV at h;rw [hu] at h
 obtain ⟨cs,rfl,h⟩:=h
 unfold IsT at h
 rw [hu] at h
 obtain ⟨parts,hc,hl,hp⟩:=h
 obtain ⟨p1,p2,p3,p4,p5,p6,rfl⟩:∃ p1 p2 p3 p4 p5 p6,parts=[p1,p2,p3,p4,p5,p6]:=by
  match parts,hl with
  | [p1,p2,p3,p4,p5,p6],_=>exact ⟨p1,p2,p3,p4,p5,p6,rfl⟩
 obtain ⟨n1,rfl⟩:=o0L (m:=m + 5) hP.t (by simpa [h1] using hp 0 _ rfl)
 obtain ⟨n2,rfl⟩:=o0L (m:=m + 5) hP.t (by simpa [h2] using hp 1 _ rfl)
 obtain ⟨n3,rfl⟩:=o0L (m:=m + 5) hP.t (by simpa [h3] using hp 2 _ rfl)
 have h4':IsT P H (m + 6) 25 p4:=by simpa [h4] using hp 3 _ rfl
 have h5':IsT P H (m + 6) 25 p5:=by simpa [h5] using hp 4 _ rfl
 have h6':IsT P H (m + 6) 26 p6:=by simpa [h6] using hp 5 _ rfl
 obtain ⟨sG,rfl,_⟩:=k0Z hP.u25 h4'
 obtain ⟨sS,rfl,_⟩:=k0Z hP.u25 h5'
 obtain ⟨sP,rfl,hPc,hPp⟩:=k0Z hP.u26 h6'
 obtain ⟨G,hG⟩:=J0R hP h4'
 obtain ⟨S,hS⟩:=J0R hP h5'
 have:cs = #[.int .i64 n1,.int .i64 n2,.int .i64 n3,sG,sS,sP]:=by rw [← Array.toList_inj];simpa using hc
 exact ⟨⟨n3,G,S⟩,n1,n2,sG,sS,sP,by rw [this],hG,hS,hPc,hPp⟩
theorem s0x (hP:i0Y P) {vs:List Value} (h:G0D P H 12 [24,28,29] vs):∃ u v w rows e d,vs=[u,v,w]∧d0a H u rows∧i0c H v e∧d0N H w d:=by
 obtain ⟨u,v,w,rfl,h1,h2,h3⟩:=w0S h
 obtain ⟨t,ht⟩:=G0Y (m:=5) hP.t h1
 obtain ⟨e,he⟩:=P0w (m:=5) hP h2
 obtain ⟨d,hd⟩:=P0x (m:=6) hP.t h3
 exact ⟨u,v,w,t,e,d,rfl,ht,he,hd⟩
theorem R0D:i0Y Tryz.prog where
 t:=types
 u64:=⟨_,_,_,Tryz.underlying64,rfl,rfl,rfl⟩
 u54:=Tryz.underlying54
 u25:=Tryz.underlying25
 u26:=by kernel_rfl
 u28:=⟨_,_,_,_,_,_,Tryz.underlying28,rfl,rfl,rfl,rfl,rfl,rfl⟩
 u21:=by kernel_rfl
 u61:=by kernel_rfl
 c38:=by kernel_rfl
 c64:=by kernel_rfl
end
section
open Go
def q0 (tL tS tA tI tB:Nat) (zA:List Value):List a0D :=
 [⟨some 2,none,.box tL (.tmp 0)⟩,⟨some 3,none,.box tS (.tmp 1)⟩,⟨some 4,none,.alloc tA zA⟩,⟨some 5,none,.alloc tI [.int .i64 0]⟩,⟨some 6,none,.alloc tB [.bool false]⟩]
def q1 (fD:FuncId):List a0D:=[⟨some 7,none,.mkfn (.func fD) [] [.tmp 4,.tmp 5,.tmp 6]⟩]
def q2a (nL nS:Nat):List a0D:=[⟨some 9,none,.build [] []⟩,⟨some 10,none,.load true nL (.tmp 2)⟩,⟨some 11,none,.load true nS (.tmp 3)⟩]
def q2b (nA:Nat):List a0D:=[⟨some 8,none,.mv (.tmp 12)⟩,⟨some 13,none,.ext (.tmp 8) 0⟩,⟨some 14,none,.ext (.tmp 8) 1⟩,⟨none,none,.store nA (.tmp 4) (.tmp 13)⟩,⟨none,none,.store 1 (.tmp 5) (.tmp 14)⟩]
def q2c (fS:FuncId):a0D:=⟨some 12,none,.call fS [.tmp 9,.tmp 10,.tmp 11] true⟩
def q3 (nA:Nat):List a0D:=[⟨some 15,none,.load true nA (.tmp 4)⟩,⟨some 16,none,.load false 1 (.tmp 5)⟩,⟨none,none,.store nA (.tmp 4) (.tmp 15)⟩,⟨none,none,.store 1 (.tmp 5) (.tmp 16)⟩,⟨none,none,.store 1 (.tmp 6) (.const (.bool true))⟩]
def qB (nA:Nat) (zA:List Value):List a0D:=[⟨some 5,none,.build zA []⟩,⟨none,none,.store nA (.tmp 0) (.tmp 5)⟩,⟨none,none,.store 1 (.tmp 1) (.const (.int .i64 0))⟩,⟨none,none,.store 1 (.tmp 2) (.const (.bool false))⟩]
structure QF (P:Program) where
 (fQ fD fS:FuncId) (fn fnD:Func) (tL tS tA tI tB:Nat) (zA:List Value) (nL nS:Nat)
 (ops0 ops1 ops2 ops3 opsA opsB:Array Oper) (i0 i1 i2 i3 iA iB:Nat)
 (o1 o2 o3 oA1 oA2:Oper) (bef:List Nat)
 (hfn:P.funcs[fQ]? = some fn)
 (hrun:x0N P fQ=true)
 (body:fn.body=some (.seq (.region i0 ops0 false) (.seq (.region i1 ops1 false) (.seq (.region i2 ops2 false) (.seq (.region i3 ops3 true) .ret)))))
 (np:fn.params.size=2)
 (nt:fn.ntmps=17)
 (res:fn.results.toList.mapM (T0c P)=some [.cell 4 true zA.length,.cell 5 false 1,.cell 6 false 1])
 (c0:d0S P (.region i0 ops0 false)=some (.reg (q0 tL tS tA tI tB zA)))
 (h1:ops1 = #[o1,o2])
 (o1c:g0e P ops1 true o1=some ⟨some 7,none,.mkfn (.func fD) [] [.tmp 4,.tmp 5,.tmp 6]⟩)
 (o2g:o2.guard=none) (o2d:o2.dst=none) (o2o:o2.op=.defer { callee:=.value (.tmp 7),args:=#[],argTypes:=#[] })
 (c2:d0S P (.region i2 ops2 false)=some (.reg (q2a nL nS ++ q2c fS :: q2b zA.length)))
 (o3i:ops2[3]? = some o3) (o3g:o3.guard=none) (o3d:o3.dst=some 12) (ats:Array TypeId)
 (o3o:o3.op=.call { callee:=.value (.func fS),args:=#[.tmp 9,.tmp 10,.tmp 11],argTypes:=ats })
 (c3:d0S P (.region i3 ops3 true)=some (.draw (q3 zA.length) bef [(1,2)]))
 (nz:zA.length ≠ 0) (zf:zA.all flat=true) (zp:zA.all a0q=true)
 (hfnD:P.funcs[fD]? = some fnD) (runD:x0N P fD=true)
 (bodyD:fnD.body=some (.seq (.region iA opsA false) (.cond (.tmp 4) (.region iB opsB false) .skip)))
 (ntD:fnD.ntmps=6) (resD:fnD.results = #[])
 (hA:opsA = #[oA1,oA2])
 (oA1g:oA1.guard=none) (oA1d:oA1.dst=some 3) (oA1o:oA1.op=.call { callee:=.builtin .recover,args:=#[],argTypes:=#[] })
 (oA2g:oA2.guard=none) (oA2d:oA2.dst=some 4)
 (oA2f:∀ (ρ:Operand→Value) (w:World),ρ (.tmp 3)=.nilIface→ρ (.const .nilIface)=.nilIface→(execOp ρ oA2).run P w=.ok (.value (.bool false)) w)
 (oA2t:∀ (ρ:Operand→Value) (w:World) (ty:TypeId) (u:Value),ρ (.tmp 3)=.iface ty u→ρ (.const .nilIface)=.nilIface→(execOp ρ oA2).run P w=.ok (.value (.bool true)) w)
 (blB:opsB.toList.all (i0Z 3)=true)
 (cB:d0S P (.region iB opsB false)=some (.reg (qB zA.length zA)))
variable {X:Cx} {call:Nat→FuncId→List Value→a0e→Res (Value × a0e)} {φ:Inj} {H H':a0e} {w:World} {fl:Nat}
def hp5 (F:QF X.P) (p s:Array Value) (H:a0e):a0e :=
 ((((H.push (.row false F.tL p.toList)).push (.row false F.tS s.toList)).push (.row false F.tA F.zA)).push (.row false F.tI [.int .i64 0])).push (.row false F.tB [.bool false])
def pt (n:Nat):Value:=.pointer (some ⟨n,0,none⟩)
def un (k:Nat):List Value:=List.replicate k undef
def tm5 (p s:Array Value) (n:Nat):a0W:=[.agg p,.agg s,pt n,pt (n + 1),pt (n + 2),pt (n + 3),pt (n + 4)] ++ un 10
def tm7 (fD:FuncId) (p s:Array Value) (n:Nat):a0W:=[.agg p,.agg s,pt n,pt (n + 1),pt (n + 2),pt (n + 3),pt (n + 4),.func (.func fD) #[] #[pt (n + 2),pt (n + 3),pt (n + 4)]] ++ un 9
def r0Q (fD:FuncId) (p s:Array Value) (n:Nat):a0W:=[.agg p,.agg s,pt n,pt (n + 1),pt (n + 2),pt (n + 3),pt (n + 4),.func (.func fD) #[] #[pt (n + 2),pt (n + 3),pt (n + 4)],undef,.agg #[],.agg p,.agg s] ++ un 5
theorem u0F (F:QF X.P) (p s:Array Value):(hp5 F p s H).size=H.size + 5:=by simp [hp5]
theorem j0e (F:QF X.P) (p s:Array Value) (k:Nat) (hk:k < 5):(hp5 F p s H).blk (H.size + k)=[Blk.row false F.tL p.toList,.row false F.tS s.toList,.row false F.tA F.zA,.row false F.tI [.int .i64 0],.row false F.tB [.bool false]].getD k .dead:=by
 simp only [hp5,a0x,d1k]
 match k,hk with
 | 0,_=>rw [b1T (by omega),b1T (by omega),b1T (by omega),b1T (by omega),b1W (by omega)];rfl
 | 1,_=>simp
 | 2,_=>simp
 | 3,_=>simp
 | 4,_=>simp
theorem a1n (F:QF X.P) (p s:Array Value):a0Y call H.size 1 (.reg (q0 F.tL F.tS F.tA F.tI F.tB F.zA)) ([.agg p,.agg s] ++ un 15) H=.fin .normal (tm5 p s H.size) (hp5 F p s H):=by
 simp [a0Y,q0,e0K,b0c,b0x,opA,ev,get,put,un,tm5,hp5,pt,a0R,List.replicate]
theorem b1I (p s:Array Value) {fD:FuncId} {n:Nat} {G:a0e}:e0K call fl (q1 fD) (tm5 p s n) G=.fin .normal (tm7 fD p s n) G:=by
 simp [q1,e0K,b0c,b0x,opA,ev,get,put,un,tm5,tm7,pt,List.replicate]
theorem b1J (F:QF X.P) {p s:Array Value} (hp:p.size=F.nL) (hs:s.size=F.nS) (h0:F.nL ≠ 0) (h1:F.nS ≠ 0) :
  e0K call fl (q2a F.nL F.nS) (tm7 F.fD p s H.size) (hp5 F p s H)=.fin .normal (r0Q F.fD p s H.size) (hp5 F p s H):=by
 have b0:=j0e (H:=H) F p s 0 (by omega)
 have b1:=j0e (H:=H) F p s 1 (by omega)
 simp only [d1d,List.getD_cons_zero,List.getD_cons_succ] at b0 b1
 have e0:b0q (hp5 F p s H) true F.nL (pt H.size)=some (.agg p):=by
  have h2:a0e.cells? (hp5 F p s H) H.size 0 F.nL=some p.toList:=by
   unfold a0e.cells?;rw [b0];simp only [c1y,d1l];rw [b1W (by simp [hp]),c1f (by simp [hp])]
  simp [b0q,pt,h0,h2]
 have e1:b0q (hp5 F p s H) true F.nS (pt (H.size + 1))=some (.agg s):=by
  have h2:a0e.cells? (hp5 F p s H) (H.size + 1) 0 F.nS=some s.toList:=by
   unfold a0e.cells?;rw [b1];simp only [c1y,d1l];rw [b1W (by simp [hs]),c1f (by simp [hs])]
  simp [b0q,pt,h1,h2]
 simp [q2a,e0K,b0c,b0x,opA,ev,get,put,un,tm7,r0Q,List.replicate,e0,e1,b0z,g0g,b0w]
def f0V (F:QF X.P) (G:a0e):a0e:=((((G.push .dead).push .dead).push (.row false F.tA F.zA)).push (.row false F.tI [.int .i64 0])).push (.row false F.tB [.bool false])
structure V0B (X:Cx) (F:QF X.P) (φ:Inj) (H:a0e) (w w1:World) (B o:Nat→Nat):Prop where
 lo:∀ k,k < 5→w.heap.size≤B k
 hi:∀ k,k < 5→B k < w1.heap.size
 ne:∀ j k,j < 5→k < 5→j ≠ k→B j ≠ B k
 base:∀ k,k < 5→X.base≤B k
 rA:∃ c,w1.heap[B 2]? = some (.cells c F.tA (0,0))∧o 2 + F.zA.length≤c.size∧∀ φ S,CR X φ S F.zA ((c.toList.drop (o 2)).take F.zA.length)
 rI:∃ c,w1.heap[B 3]? = some (.cells c F.tI (0,0))∧o 3 + 1≤c.size∧∀ φ S,CR X φ S [.int .i64 0] ((c.toList.drop (o 3)).take 1)
 rB:∃ c,w1.heap[B 4]? = some (.cells c F.tB (0,0))∧o 4 + 1≤c.size∧∀ φ S,CR X φ S [.bool false] ((c.toList.drop (o 4)).take 1)
theorem H0u {φ φ':Inj} {S S':Shp} {v u:Value} (hf:flat v=true) (h:VR X φ S v u):VR X φ' S' v u:=by
 have:u=v:=by
  cases h <;> simp [flat] at hf <;> try rfl
  ·rename_i f a b a' b' h1 h2 h3 h4
   cases f <;> simp [flat] at hf
   obtain ⟨rfl,rfl⟩:=hf
   have e1:a' = #[]:=by simpa using h1.symm
   have e2:b' = #[]:=by simpa using h3.symm
   rw [e1,e2]
 rw [this];exact o0K hf
theorem q0Q {φ φ':Inj} {S S':Shp} {l m:List Value} (hf:l.all flat=true) (h:CR X φ S l m):CR X φ' S' l m :=
 ⟨h.1,fun i hi=>H0u (by
  have:=c1C.1 hf (l.getD i undef) (by rw [b1Q,b1V hi];exact c1a hi)
  exact this) (h.2 i hi)⟩
theorem U0m (F:QF X.P) {p s:Array Value} {φ1:Inj} {w1:World} (hR:Rel X φ H w) (hst:d0d X H.size φ H w φ1 (hp5 F p s H) w1) {B o:Nat→Nat} (hφ:∀ k,k < 5→φ1 (H.size + k)=some (B k,o k)) :
  V0B X F φ H w w1 B o:=by
 have hnone:∀ k,φ (H.size + k)=none:=fun k=>by
  cases h:φ (H.size + k) with
  | none=>rfl
  | some x=>have:=hR.lt _ _ h;omega
 have hrow:∀ k,k < 5→∃ e cs,(hp5 F p s H).blk (H.size + k)=.row false e cs:=fun k hk=>by
  rw [j0e F p s k hk]
  match k,hk with
  | 0,_=>exact ⟨_,_,rfl⟩
  | 1,_=>exact ⟨_,_,rfl⟩
  | 2,_=>exact ⟨_,_,rfl⟩
  | 3,_=>exact ⟨_,_,rfl⟩
  | 4,_=>exact ⟨_,_,rfl⟩
 have rows:∀ k e cs,k < 5→(hp5 F p s H).blk (H.size + k)=.row false e cs→cs.all flat=true→∃ c,w1.heap[B k]? = some (.cells c e (0,0))∧o k + cs.length≤c.size∧∀ φ S,CR X φ S cs ((c.toList.drop (o k)).take cs.length):=by
  intro k e cs hk hb hf
  obtain ⟨c,el,fz,g1,g2,g3,g4,_⟩:=hst.rel.row _ _ _ _ _ _ (hφ k hk) hb
  obtain ⟨_,rfl,rfl⟩:=g4 rfl
  exact ⟨c,g1,g2,fun φ' S'=>q0Q hf g3⟩
 refine ⟨fun k hk=>hst.own_new hR (hφ k hk) (hnone k),fun k hk=>?_,fun j k hj hk hne heq=>?_,fun k hk=>?_,?_,?_,?_⟩
 ·obtain ⟨e,cs,h⟩:=hrow k hk
  exact hst.rel.row_lt (hφ k hk) h
 ·obtain ⟨e,cs,h⟩:=hrow j hj
  obtain ⟨e',cs',h'⟩:=hrow k hk
  have:=hst.rel.sep _ _ _ _ _ _ _ (hφ j hj) (by rw [heq];exact hφ k hk) (by omega) h
  rw [h'] at this;cases this
 ·obtain ⟨e,cs,h⟩:=hrow k hk
  obtain ⟨c,el,fz,g1,g2,g3,g4,_⟩:=hst.rel.row _ _ _ _ _ _ (hφ k hk) h
  exact (g4 rfl).1
 ·exact rows 2 F.tA F.zA (by omega) (by rw [j0e F p s 2 (by omega)];rfl) F.zf
 ·exact rows 3 F.tI [.int .i64 0] (by omega) (by rw [j0e F p s 3 (by omega)];rfl) rfl
 ·exact rows 4 F.tB [.bool false] (by omega) (by rw [j0e F p s 4 (by omega)];rfl) rfl
def z0S (φ:Inj) (n:Nat) (B o:Nat→Nat):Inj:=ad (ad (ad (ad (ad φ n (B 0) (o 0)) (n + 1) (B 1) (o 1)) (n + 2) (B 2) (o 2)) (n + 3) (B 3) (o 3)) (n + 4) (B 4) (o 4)
theorem r0f (F:QF X.P) {φ':Inj} {w1 w2:World} {B o:Nat→Nat} (O:V0B X F φ H w w1 B o) (hR':Rel X φ' H' w2) (hold:∀ k,k < 5→w2.heap[B k]? = w1.heap[B k]?)
  (hno:∀ k,k < 5→∀ b o' ro e' cs',φ' b=some (B k,o')→H'.blk b ≠ .row ro e' cs'):Rel X (z0S φ' H'.size B o) (f0V F H') w2:=by
 have r0:=hR'.adopt0 (B 0) (o 0)
 have r1:=r0.adopt0 (B 1) (o 1)
 have s1:(H'.push Blk.dead).size=H'.size + 1:=by simp
 rw [s1] at r1
 have n1:∀ k,2≤k→k < 5→∀ b o' ro e' cs',ad (ad φ' H'.size (B 0) (o 0)) (H'.size + 1) (B 1) (o 1) b=some (B k,o')→a0e.blk ((H'.push Blk.dead).push .dead) b ≠ .row ro e' cs':=by
  intro k hk hk5 b o' ro e' cs' h
  unfold ad at h
  simp only [a0x,d1k]
  split at h
  ·rename_i hb;simp at h;exact c1j h.1 (O.ne 1 k (by omega) hk5 (by omega))
  ·split at h
   ·rename_i hb;simp at h;exact c1j h.1 (O.ne 0 k (by omega) hk5 (by omega))
   ·rename_i h1 h2;rw [b1T (by omega),b1T (by omega)];exact hno k hk5 b o' ro e' cs' h
 obtain ⟨c2,g1,g2,g3⟩:=O.rA
 have r2:=r1.adopt (B:=B 2) (o:=o 2) (e:=F.tA) (cs:=F.zA) (c:=c2) (by rw [hold 2 (by omega)];exact g1) g2 (g3 _ _) (O.base 2 (by omega)) (n1 2 (by omega) (by omega))
 have s2:((H'.push Blk.dead).push Blk.dead).size=H'.size + 2:=by simp
 rw [s2] at r2
 have n2:∀ k,3≤k→k < 5→∀ b o' ro e' cs',ad (ad (ad φ' H'.size (B 0) (o 0)) (H'.size + 1) (B 1) (o 1)) (H'.size + 2) (B 2) (o 2) b=some (B k,o')→a0e.blk (((H'.push Blk.dead).push .dead).push (.row false F.tA F.zA)) b ≠ .row ro e' cs':=by
  intro k hk hk5 b o' ro e' cs' h
  unfold ad at h
  rw [a0x,s2]
  split at h
  ·rename_i hb;simp at h;exact c1j h.1 (O.ne 2 k (by omega) hk5 (by omega))
  ·rename_i hb;rw [b1T hb];exact n1 k (by omega) hk5 b o' ro e' cs' h
 obtain ⟨c3,g1,g2,g3⟩:=O.rI
 have r3:=r2.adopt (B:=B 3) (o:=o 3) (e:=F.tI) (cs:=[.int .i64 0]) (c:=c3) (by rw [hold 3 (by omega)];exact g1) g2 (g3 _ _) (O.base 3 (by omega)) (n2 3 (by omega) (by omega))
 have s3:(((H'.push Blk.dead).push Blk.dead).push (.row false F.tA F.zA)).size=H'.size + 3:=by simp
 rw [s3] at r3
 obtain ⟨c4,g1,g2,g3⟩:=O.rB
 have r4:=r3.adopt (B:=B 4) (o:=o 4) (e:=F.tB) (cs:=[.bool false]) (c:=c4) (by rw [hold 4 (by omega)];exact g1) g2 (g3 _ _) (O.base 4 (by omega)) (by
  intro b o' ro e' cs' h
  unfold ad at h
  rw [a0x,s3]
  split at h
  ·rename_i hb;simp at h;exact c1j h.1 (O.ne 3 4 (by omega) (by omega) (by omega))
  ·rename_i hb;rw [b1T hb];exact n2 4 (by omega) (by omega) b o' ro e' cs' h)
 have s4:((((H'.push Blk.dead).push Blk.dead).push (.row false F.tA F.zA)).push (.row false F.tI [.int .i64 0])).size=H'.size + 4:=by simp
 rw [s4] at r4
 exact r4
theorem r0S {φ φ':Inj} {S S':Shp} {u:Value} (h:VR X φ S undef u):VR X φ' S' undef u:=by
 unfold undef at h ⊢
 cases h with
 | tuple a a' h1 h2=>exact .tuple _ _ h1 (fun i hi=>by simp at hi)
theorem P0a {φ φ':Inj} {S S':Shp}:∀ {k:Nat} {l:List Value},CR X φ S (un k) l→CR X φ' S' (un k) l
 | 0,l,h=>by rw [h.nil_left];exact CR.nil
 | k + 1,l,h=>by
  obtain ⟨v',r',rfl,hv,hr⟩:=(show CR X φ S (undef :: un k) l from h).cons_left
  exact CR.cons (r0S hv) (P0a hr)
theorem g0I {φ φ':Inj} {S S':Shp} {n m:Nat} {x:Nat × Nat} {u:Value} (hφ:φ n=some x) (hφ':φ' m=some x) (h:VR X φ S (pt n) u):VR X φ' S' (pt m) u:=by
 unfold pt at h ⊢
 cases h with
 | ptr a a' B o h1 h2 h3 =>
  rw [hφ] at h2;cases h2
  exact .ptr _ _ B o rfl hφ' h3
theorem m0e {φ1 φ2:Inj} {G:a0e} {w1:World} {p s:Array Value} {fD:FuncId} {B o:Nat→Nat} {m:Nat} {S0 S2:Shp} {u0 u1:Value} (hR:Rel X φ H w) (hst:d0d X H.size φ H w φ1 G w1)
  (hp:VR X φ S0 (.agg p) u0) (hs:VR X φ S0 (.agg s) u1) (hφ:∀ k,k < 5→φ1 (H.size + k)=some (B k,o k)) (h2:∀ k,k < 5→φ2 (m + k)=some (B k,o k)) (he:∀ b x,φ b=some x→φ2 b=some x)
  (hS:∀ b x,w1.shape? b=some x→S2 b=some x) {l:List Value} (h:CR X φ1 w1.shape? (r0Q fD p s H.size) l):CR X φ2 S2 (r0Q fD p s m) l:=by
 unfold r0Q at h ⊢
 simp only [d1N,d1v] at h ⊢
 obtain ⟨x0,l,rfl,k0,h⟩:=h.cons_left
 obtain ⟨x1,l,rfl,k1,h⟩:=h.cons_left
 obtain ⟨x2,l,rfl,k2,h⟩:=h.cons_left
 obtain ⟨x3,l,rfl,k3,h⟩:=h.cons_left
 obtain ⟨x4,l,rfl,k4,h⟩:=h.cons_left
 obtain ⟨x5,l,rfl,k5,h⟩:=h.cons_left
 obtain ⟨x6,l,rfl,k6,h⟩:=h.cons_left
 obtain ⟨x7,l,rfl,k7,h⟩:=h.cons_left
 obtain ⟨x8,l,rfl,k8,h⟩:=h.cons_left
 obtain ⟨x9,l,rfl,k9,h⟩:=h.cons_left
 obtain ⟨x10,l,rfl,k10,h⟩:=h.cons_left
 obtain ⟨x11,l,rfl,k11,h⟩:=h.cons_left
 have ba:∀ {v u u'},VR X φ S0 v u→VR X φ1 w1.shape? v u'→VR X φ2 S2 v u':=fun k k'=>(VR.back hR hst k k').mono he hS
 refine CR.cons (ba hp k0) (CR.cons (ba hs k1) (CR.cons (g0I (hφ 0 (by omega)) (h2 0 (by omega)) k2) (CR.cons (g0I (hφ 1 (by omega)) (h2 1 (by omega)) k3) (CR.cons (g0I (hφ 2 (by omega)) (h2 2 (by omega)) k4)
  (CR.cons (g0I (hφ 3 (by omega)) (h2 3 (by omega)) k5) (CR.cons (g0I (hφ 4 (by omega)) (h2 4 (by omega)) k6) (CR.cons ?_ (CR.cons (r0S k8) (CR.cons ?_ (CR.cons (ba hp k10) (CR.cons (ba hs k11) (P0a h))))))))))))
 ·cases k7 with
  | func f a b a' b' g1 g2 g3 g4 =>
   refine .func _ _ _ _ _ g1 (fun i hi=>by simp at hi) g3 (fun i hi=>?_)
   have hi3:i < 3:=by simpa using hi
   match i,hi3 with
   | 0,_=>exact g0I (hφ 2 (by omega)) (h2 2 (by omega)) (by simpa using g4 0 (by simp))
   | 1,_=>exact g0I (hφ 3 (by omega)) (h2 3 (by omega)) (by simpa using g4 1 (by simp))
   | 2,_=>exact g0I (hφ 4 (by omega)) (h2 4 (by omega)) (by simpa using g4 2 (by simp))
 ·cases k9 with
  | agg a a' g1 g2=>exact .agg _ _ g1 (fun i hi=>by simp at hi)
theorem p0h {n:Nat} {B o:Nat→Nat} (k:Nat) (hk:k < 5):z0S φ n B o (n + k)=some (B k,o k):=by
 unfold z0S ad
 match k,hk with
 | 0,_=>rw [b1T (by omega),b1T (by omega),b1T (by omega),b1T (by omega),b1W (by omega)]
 | 1,_=>rw [b1T (by omega),b1T (by omega),b1T (by omega),b1W (by omega)]
 | 2,_=>rw [b1T (by omega),b1T (by omega),b1W (by omega)]
 | 3,_=>rw [b1T (by omega),b1W (by omega)]
 | 4,_=>rw [b1W (by omega)]
theorem s0O {n b:Nat} {B o:Nat→Nat} (hb:b < n):z0S φ n B o b=φ b:=by
 unfold z0S ad;rw [b1T (by omega),b1T (by omega),b1T (by omega),b1T (by omega),b1T (by omega)]
theorem H0O {n b:Nat} {B o:Nat→Nat} {x:Nat × Nat} (hb:n≤b) (h:z0S φ n B o b=some x):(∃ k,k < 5∧x=(B k,o k)) ∨ φ b=some x:=by
 unfold z0S ad at h
 split at h
 ·exact .inl ⟨4,by omega,by simpa using h.symm⟩
 split at h
 ·exact .inl ⟨3,by omega,by simpa using h.symm⟩
 split at h
 ·exact .inl ⟨2,by omega,by simpa using h.symm⟩
 split at h
 ·exact .inl ⟨1,by omega,by simpa using h.symm⟩
 split at h
 ·exact .inl ⟨0,by omega,by simpa using h.symm⟩
 exact .inr h
theorem H0N (hR:Rel X φ H w) {w':World} (h:Pan X H.size φ H w w'):d0d X H.size φ H w φ H w':=by
 have hold:∀ B,B < w.heap.size→w'.heap[B]? = w.heap[B]?:=fun B hB=>h.frame B hB fun b o e cs h1 h2=>by have:=hR.lt b _ h1;omega
 exact { ext := fun _ _ h => h
         rel:=hR.agree (c1b hR.bs h.wsz) h.shp fun b B o ro e cs h1 h2=>hold B (hR.row_lt h1 h2)
         shp:=h.shp,wsz:=h.wsz,os:=h.os,tape:=h.tape,out:=h.out,hsz:=b1S _,keep:=fun _ _=>rfl,kind:=fun b e cs _ h=>⟨cs,h⟩
         fresh:=fun b x h1 h2=>by rw [h1] at h2;cases h2
         newB:=fun b B o h1 h2=>by rw [h1] at h2;cases h2
         frame:=fun B hB _=>hold B hB }
theorem z0v (F:QF X.P) {φ':Inj} {w1 w2:World} {B o:Nat→Nat} (hR:Rel X φ H w) (O:V0B X F φ H w w1 B o) (hR1:Rel X φ H w1) (h2:d0d X H.size φ H w1 φ' H' w2) :
  ∀ k,k < 5→∀ b o' ro e' cs',φ' b=some (B k,o')→H'.blk b ≠ .row ro e' cs':=by
 intro k hk b o' ro e' cs' hb hrow
 have h1:=O.lo k hk
 have h3:=O.hi k hk
 cases hφ:φ b with
 | none=>have:=h2.own_new hR1 hb hφ;omega
 | some x =>
  have:=h2.ext b x hφ
  rw [hb] at this;cases this
  cases ro with
  | true =>
   obtain ⟨c,el,fz,g1,g2,g3,g4,g5⟩:=h2.rel.row _ _ _ _ _ _ hb hrow
   have:=g5 rfl
   have:=O.base k hk
   omega
  | false =>
   obtain ⟨cs0,h5⟩:=h2.kind b e' cs' (hR.lt b _ hφ) hrow
   have:=hR.row_lt hφ h5
   omega
theorem u0B (F:QF X.P) {φ1 φ' φ4:Inj} {p s:Array Value} {w1 w2 w4:World} {H4:a0e} {B o:Nat→Nat} (hR:Rel X φ H w) (hfl:fl≤H.size) (hst:d0d X H.size φ H w φ1 (hp5 F p s H) w1) (O:V0B X F φ H w w1 B o)
  (h2:d0d X H.size φ H w1 φ' H' w2) (h3:d0d X H'.size (z0S φ' H'.size B o) (f0V F H') w2 φ4 H4 w4):d0d X fl φ H w φ' H' w4:=by
 have hR1:Rel X φ H w1:=hst.rel0 hR
 have hno:=z0v F hR O hR1 h2
 have hold4:∀ C,C < w2.heap.size→(∀ k,k < 5→C ≠ B k)→w4.heap[C]? = w2.heap[C]?:=by
  intro C hC hne
  refine h3.frame C hC fun b o' e cs hb hle _=>?_
  rcases H0O hle hb with ⟨k,hk,h⟩ | h
  ·simp at h;exact hne k hk h.1
  ·have:=h2.rel.lt b _ h;omega
 refine { ext:=h2.ext,rel:=?_,shp:=fun C x h=>h3.shp _ _ (h2.shp _ _ (hst.shp _ _ h)),wsz:=?_,os:=?_,tape:=?_,out:=?_,hsz:=h2.hsz,keep:=fun b hb=>h2.keep b (by omega),kind:=h2.kind,fresh:=h2.fresh,newB:=?_,frame:=?_ }
 ·exact h2.rel.agree (c1b h2.rel.bs h3.wsz) h3.shp fun b C o' ro e cs h4 h5=>hold4 C (h2.rel.row_lt h4 h5) fun k hk he=>by
   subst he;exact hno k hk b o' ro e cs h4 h5
 ·have:=hst.wsz;have:=h2.wsz;have:=h3.wsz;omega
 ·rw [h3.os,h2.os,hst.os]
 ·rw [h3.tape,h2.tape,hst.tape]
 ·rw [h3.out,h2.out,hst.out]
 ·intro b C o' h4 h5
  have:=h2.own_new hR1 h4 h5
  have:=hst.wsz
  exact .inl (by omega)
 ·intro C hC _
  have h6:=hst.wsz
  have h7:=h2.wsz
  rw [hold4 C (by omega) (fun k hk he=>by have:=O.lo k hk;omega),h2.old hR1 (by omega),hst.old hR hC]
theorem k0P (F:QF X.P):(f0V F H).size=H.size + 5:=by simp [f0V]
theorem q0B (F:QF X.P):(f0V F H).blk (H.size + 2)=.row false F.tA F.zA:=by
 simp only [f0V,a0x,d1k]
 repeat (first | rw [b1W (show _=_ by omega)] | rw [b1T (show ¬ (_=_) by omega)])
 simp
theorem q0C (F:QF X.P):(f0V F H).blk (H.size + 3)=.row false F.tI [.int .i64 0]:=by
 simp only [f0V,a0x,d1k]
 repeat (first | rw [b1W (show _=_ by omega)] | rw [b1T (show ¬ (_=_) by omega)])
 simp
theorem q0D (F:QF X.P):(f0V F H).blk (H.size + 4)=.row false F.tB [.bool false]:=by
 simp only [f0V,a0x,d1k]
 repeat (first | rw [b1W (show _=_ by omega)] | rw [b1T (show ¬ (_=_) by omega)])
 simp
theorem o0l:∀ (vs pre cs:List Value),cs.length=vs.length→b0s (pre ++ cs) pre.length vs=pre ++ vs
 | [],pre,cs,h=>by have:cs=[]:=c1r.1 h;simp [b0s,this]
 | v :: r,pre,c :: cs,h=>by
  simp only [c1G,Nat.add_right_cancel_iff] at h
  have h1:(pre ++ c :: cs).set pre.length v=(pre ++ [v]) ++ cs:=by
   simp [List.set_append]
  have:=o0l r (pre ++ [v]) cs h
  simp only [b0s]
  rw [h1]
  simpa using this
theorem r0T {cs vs:List Value} (h:cs.length=vs.length):b0s cs 0 vs=vs:=by simpa using o0l vs [] cs h
theorem j0W {G:a0e} {b:Nat} {e:TypeId} {cs vs:List Value} (hb:G.blk b=.row false e cs) (hf:fl≤b) (h:cs.length=vs.length) (hp:vs.all a0q=true):G.write? fl b 0 vs=some (G.setIfInBounds b (.row false e vs)):=by
 unfold a0e.write?
 rw [hb]
 simp only
 rw [b1W ⟨hf,by omega,hp⟩,r0T h]
structure S0t (t:a0W) (m:Nat):Prop where
 l:t.length=17
 a:get t 4=pt (m + 2)
 i:get t 5=pt (m + 3)
 b:get t 6=pt (m + 4)
theorem b1L (F:QF X.P) {p s a:Array Value} {k:IntKind} {n:Int} (ha:a.size=F.zA.length) (hpl:a.toList.all a0q=true) :
  ∃ t' G,e0K call H'.size (q2b F.zA.length) (put (r0Q F.fD p s H'.size) (some 12) (.tuple #[.agg a,.int k n])) (f0V F H')=.fin .normal t' G∧S0t t' H'.size∧H'.size + 5≤G.size ∧
   G.blk (H'.size + 2)=.row false F.tA a.toList∧G.blk (H'.size + 3)=.row false F.tI [.int k n]∧G.blk (H'.size + 4)=.row false F.tB [.bool false]:=by
 have w1:(f0V F H').write? H'.size (H'.size + 2) 0 a.toList=some ((f0V F H').setIfInBounds (H'.size + 2) (.row false F.tA a.toList)):=j0W (q0B F) (by omega) (by simp [ha]) hpl
 have hsz:=k0P (H:=H') F
 have b3:a0e.blk ((f0V F H').setIfInBounds (H'.size + 2) (.row false F.tA a.toList)) (H'.size + 3)=.row false F.tI [.int .i64 0]:=by
  rw [a0U _ _ _ _ (by omega),b1T (by omega)];exact q0C F
 have w2:a0e.write? ((f0V F H').setIfInBounds (H'.size + 2) (.row false F.tA a.toList)) H'.size (H'.size + 3) 0 [.int k n]=some (((f0V F H').setIfInBounds (H'.size + 2) (.row false F.tA a.toList)).setIfInBounds (H'.size + 3) (.row false F.tI [.int k n])) :=
  j0W b3 (by omega) rfl rfl
 refine ⟨put (put (put (put (r0Q F.fD p s H'.size) (some 12) (.tuple #[.agg a,.int k n])) (some 8) (.tuple #[.agg a,.int k n])) (some 13) (.agg a)) (some 14) (.int k n),((f0V F H').setIfInBounds (H'.size + 2) (.row false F.tA a.toList)).setIfInBounds (H'.size + 3) (.row false F.tI [.int k n]),?_,?_,?_,?_,?_,?_⟩
 ·simp only [put,r0Q,un,pt,List.replicate,d1N,d1v,List.set_cons_succ,List.set_cons_zero]
  simp [q2b,e0K,b0c,b0x,opA,ev,get,put,a0R,ha,w1,w2,b0z]
 ·exact ⟨by simp [put,r0Q,un],by simp [put,get,r0Q,un,List.replicate],by simp [put,get,r0Q,un,List.replicate],by simp [put,get,r0Q,un,List.replicate]⟩
 ·simp [hsz]
 ·rw [a0U _ _ _ _ (by simp;omega),b1T (by omega),a0U _ _ _ _ (by omega),b1W rfl]
 ·rw [a0U _ _ _ _ (by simp;omega),b1W rfl]
 ·rw [a0U _ _ _ _ (by simp;omega),b1T (by omega),a0U _ _ _ _ (by omega),b1T (by omega)];exact q0D F
theorem J0U {G:a0e} {b:Nat} {e:TypeId} {cs:List Value} (hb:G.blk b=.row false e cs) (hn:cs.length ≠ 0):b0q G true cs.length (pt b)=some (.agg cs.toArray):=by
 have h2:G.cells? b 0 cs.length=some cs:=by
  unfold a0e.cells?;rw [hb];simp only [c1y,d1l];rw [b1W (b1S _),c1f (b1S _)]
 simp [b0q,pt,hn,h2]
theorem z0f {G:a0e} {b:Nat} {e:TypeId} {v:Value} (hb:G.blk b=.row false e [v]):b0q G false 1 (pt b)=some v:=by
 have h2:G.cells? b 0 1=some [v]:=by unfold a0e.cells?;rw [hb];simp
 simp [b0q,pt,h2]
theorem b1K (F:QF X.P) {t:a0W} {G:a0e} {m:Nat} {a:List Value} {k:IntKind} {n:Int} {bef:List Nat} (L:S0t t m) (ha:a.length=F.zA.length) (hpl:a.all a0q=true)
  (b2:G.blk (m + 2)=.row false F.tA a) (b3:G.blk (m + 3)=.row false F.tI [.int k n]) (b4:G.blk (m + 4)=.row false F.tB [.bool false]) :
  ∃ t' G',a0Y call m 1 (.draw (q3 F.zA.length) bef [(1,2)]) t G=.fin .normal t' G'∧S0t t' m ∧
   G'.blk (m + 2)=.row false F.tA a∧G'.blk (m + 3)=.row false F.tI [.int k n]∧G'.blk (m + 4)=.row false F.tB [.bool true]:=by
 have hnz:=F.nz
 have l1:=J0U b2 (by omega)
 rw [ha] at l1
 have l2:=z0f b3
 have w1:=j0W (fl:=m) b2 (by omega) rfl hpl
 have s2:=a0j b2
 have s3:=a0j b3
 have s4:=a0j b4
 have c3:a0e.blk (G.setIfInBounds (m + 2) (.row false F.tA a)) (m + 3)=.row false F.tI [.int k n]:=by rw [a0U _ _ _ _ s2,b1T (by omega)];exact b3
 have w2:=j0W (fl:=m) (vs:=[.int k n]) c3 (by omega) rfl rfl
 have c4:a0e.blk ((G.setIfInBounds (m + 2) (.row false F.tA a)).setIfInBounds (m + 3) (.row false F.tI [.int k n])) (m + 4)=.row false F.tB [.bool false]:=by
  rw [a0U _ _ _ _ (by simpa using s3),b1T (by omega),a0U _ _ _ _ s2,b1T (by omega)];exact b4
 have w3:=j0W (fl:=m) (vs:=[.bool true]) c4 (by omega) rfl rfl
 have hl:=L.l
 have g4:∀ v u:Value,get (put (put t (some 15) v) (some 16) u) 4=pt (m + 2):=fun v u=>by
  have:=L.a;simp only [get,put,b1Q,c1z] at this ⊢;simpa using this
 have g5:∀ v u:Value,get (put (put t (some 15) v) (some 16) u) 5=pt (m + 3):=fun v u=>by
  have:=L.i;simp only [get,put,b1Q,c1z] at this ⊢;simpa using this
 have g6:∀ v u:Value,get (put (put t (some 15) v) (some 16) u) 6=pt (m + 4):=fun v u=>by
  have:=L.b;simp only [get,put,b1Q,c1z] at this ⊢;simpa using this
 have g15:∀ v u:Value,get (put (put t (some 15) v) (some 16) u) 15=v:=fun v u=>by
  simp [get,put,c1z,hl]
 have g16:∀ v u:Value,get (put (put t (some 15) v) (some 16) u) 16=u:=fun v u=>by
  simp [get,put,c1z,hl]
 have g51:∀ v:Value,get (put t (some 15) v) 5=pt (m + 3):=fun v=>by
  have:=L.i;simp only [get,put,b1Q,c1z] at this ⊢;simpa using this
 refine ⟨put (put t (some 15) (.agg a.toArray)) (some 16) (.int k n),((G.setIfInBounds (m + 2) (.row false F.tA a)).setIfInBounds (m + 3) (.row false F.tI [.int k n])).setIfInBounds (m + 4) (.row false F.tB [.bool true]),?_,⟨by simp [put,hl],g4 _ _,g5 _ _,g6 _ _⟩,?_,?_,?_⟩
 ·have o15:b0x call m t G (.load true F.zA.length (.tmp 4))=.ok (.agg a.toArray,G):=by simp [b0x,opA,ev,L.a,l1,b0z]
  have o16:b0x call m (put t (some 15) (.agg a.toArray)) G (.load false 1 (.tmp 5))=.ok (.int k n,G):=by simp [b0x,opA,ev,g51,l2,b0z]
  have st1:b0x call m (put (put t (some 15) (.agg a.toArray)) (some 16) (.int k n)) G (.store F.zA.length (.tmp 4) (.tmp 15))=.ok (undef,G.setIfInBounds (m + 2) (.row false F.tA a)):=by
   simp only [b0x,opA,ev,g4,g15,pt,a0R,ha,List.toList_toArray];simp [w1]
  have st2:b0x call m (put (put t (some 15) (.agg a.toArray)) (some 16) (.int k n)) (G.setIfInBounds (m + 2) (.row false F.tA a)) (.store 1 (.tmp 5) (.tmp 16))=.ok (undef,(G.setIfInBounds (m + 2) (.row false F.tA a)).setIfInBounds (m + 3) (.row false F.tI [.int k n])):=by
   simp only [b0x,opA,ev,g5,g16,pt,a0R];simp [w2]
  have st3:b0x call m (put (put t (some 15) (.agg a.toArray)) (some 16) (.int k n)) ((G.setIfInBounds (m + 2) (.row false F.tA a)).setIfInBounds (m + 3) (.row false F.tI [.int k n])) (.store 1 (.tmp 6) (.const (.bool true))) =
    .ok (undef,((G.setIfInBounds (m + 2) (.row false F.tA a)).setIfInBounds (m + 3) (.row false F.tI [.int k n])).setIfInBounds (m + 4) (.row false F.tB [.bool true])):=by
   simp only [b0x,opA,ev,g6,pt,a0R];simp [w3]
  have pn:∀ (t:a0W) (v:Value),put t none v=t:=fun _ _=>rfl
  have tc1:c0T (put t (some 15) (.agg a.toArray)) (.load false 1 (.tmp 5))=([m + 3],[]):=by simp [c0T,ev,g51,pt,blkOf]
  have tc2:c0T (put (put t (some 15) (.agg a.toArray)) (some 16) (.int k n)) (.store F.zA.length (.tmp 4) (.tmp 15))=([],[m + 2]):=by simp only [c0T,ev,g4];simp [pt,blkOf]
  simp only [a0Y,q3,b0L,g0z,b0c,c1l,c1O,c1F,o15,o16,st1,st2,st3,pn,tc1,tc2]
  simp [c0H,r0b]
 ·rw [a0U _ _ _ _ (by simpa using s4),b1T (by omega),a0U _ _ _ _ (by simpa using s3),b1T (by omega),a0U _ _ _ _ s2,b1W rfl]
 ·rw [a0U _ _ _ _ (by simpa using s4),b1T (by omega),a0U _ _ _ _ (by simpa using s3),b1W rfl]
 ·rw [a0U _ _ _ _ (by simpa using s4),b1W rfl]
theorem b1M (F:QF X.P) {t:a0W} (hl:t.length=6) (h0:get t 0=pt (H.size + 2)) (h1:get t 1=pt (H.size + 3)) (h2:get t 2=pt (H.size + 4)) :
  ∃ t' G',a0Y call H.size 1 (.reg (qB F.zA.length F.zA)) t (f0V F H)=.fin .normal t' G' ∧
   G'.blk (H.size + 2)=.row false F.tA F.zA∧G'.blk (H.size + 3)=.row false F.tI [.int .i64 0]∧G'.blk (H.size + 4)=.row false F.tB [.bool false]:=by
 have b2:=q0B (H:=H) F
 have b3:=q0C (H:=H) F
 have b4:=q0D (H:=H) F
 have s2:=a0j b2
 have s3:=a0j b3
 have s4:=a0j b4
 have w1:=j0W (fl:=H.size) b2 (by omega) rfl F.zp
 have c3:a0e.blk ((f0V F H).setIfInBounds (H.size + 2) (.row false F.tA F.zA)) (H.size + 3)=.row false F.tI [.int .i64 0]:=by rw [a0U _ _ _ _ s2,b1T (by omega)];exact b3
 have w2:=j0W (fl:=H.size) (vs:=[.int .i64 0]) c3 (by omega) rfl rfl
 have c4:a0e.blk (((f0V F H).setIfInBounds (H.size + 2) (.row false F.tA F.zA)).setIfInBounds (H.size + 3) (.row false F.tI [.int .i64 0])) (H.size + 4)=.row false F.tB [.bool false]:=by
  rw [a0U _ _ _ _ (by simpa using s3),b1T (by omega),a0U _ _ _ _ s2,b1T (by omega)];exact b4
 have w3:=j0W (fl:=H.size) (vs:=[.bool false]) c4 (by omega) rfl rfl
 have g0:∀ v:Value,get (put t (some 5) v) 0=pt (H.size + 2):=fun v=>by simp only [get,put,b1Q,c1z] at h0 ⊢;simpa using h0
 have g1:∀ v:Value,get (put t (some 5) v) 1=pt (H.size + 3):=fun v=>by simp only [get,put,b1Q,c1z] at h1 ⊢;simpa using h1
 have g2:∀ v:Value,get (put t (some 5) v) 2=pt (H.size + 4):=fun v=>by simp only [get,put,b1Q,c1z] at h2 ⊢;simpa using h2
 have g5:∀ v:Value,get (put t (some 5) v) 5=v:=fun v=>by simp [get,put,c1z,hl]
 refine ⟨put t (some 5) (.agg F.zA.toArray),(((f0V F H).setIfInBounds (H.size + 2) (.row false F.tA F.zA)).setIfInBounds (H.size + 3) (.row false F.tI [.int .i64 0])).setIfInBounds (H.size + 4) (.row false F.tB [.bool false]),?_,?_,?_,?_⟩
 ·have o5:b0x call H.size t (f0V F H) (.build F.zA [])=.ok (.agg F.zA.toArray,f0V F H):=by simp [b0x,opA,b0w,g0g,b0z]
  have st1:b0x call H.size (put t (some 5) (.agg F.zA.toArray)) (f0V F H) (.store F.zA.length (.tmp 0) (.tmp 5))=.ok (undef,(f0V F H).setIfInBounds (H.size + 2) (.row false F.tA F.zA)):=by
   simp only [b0x,opA,ev,g0,g5,pt,a0R,List.toList_toArray];simp [w1]
  have st2:b0x call H.size (put t (some 5) (.agg F.zA.toArray)) ((f0V F H).setIfInBounds (H.size + 2) (.row false F.tA F.zA)) (.store 1 (.tmp 1) (.const (.int .i64 0))) =
    .ok (undef,((f0V F H).setIfInBounds (H.size + 2) (.row false F.tA F.zA)).setIfInBounds (H.size + 3) (.row false F.tI [.int .i64 0])):=by
   simp only [b0x,opA,ev,g1,pt,a0R];simp [w2]
  have st3:b0x call H.size (put t (some 5) (.agg F.zA.toArray)) (((f0V F H).setIfInBounds (H.size + 2) (.row false F.tA F.zA)).setIfInBounds (H.size + 3) (.row false F.tI [.int .i64 0])) (.store 1 (.tmp 2) (.const (.bool false))) =
    .ok (undef,(((f0V F H).setIfInBounds (H.size + 2) (.row false F.tA F.zA)).setIfInBounds (H.size + 3) (.row false F.tI [.int .i64 0])).setIfInBounds (H.size + 4) (.row false F.tB [.bool false])):=by
   simp only [b0x,opA,ev,g2,pt,a0R];simp [w3]
  have pn:∀ (t:a0W) (v:Value),put t none v=t:=fun _ _=>rfl
  simp only [a0Y,qB,e0K,b0c,c1F,o5,st1,st2,st3,pn]
 ·rw [a0U _ _ _ _ (by simpa using s4),b1T (by omega),a0U _ _ _ _ (by simpa using s3),b1T (by omega),a0U _ _ _ _ s2,b1W rfl]
 ·rw [a0U _ _ _ _ (by simpa using s4),b1T (by omega),a0U _ _ _ _ (by simpa using s3),b1W rfl]
 ·rw [a0U _ _ _ _ (by simpa using s4),b1W rfl]
theorem m0b (F:QF X.P) (ρ:Operand→Value) (w:World):(execOp ρ F.oA1).run X.P w=.ok .recover w:=by
 unfold execOp;rw [F.oA1o];rfl
theorem H0h (F:QF X.P) {cap:Array Value} (hc:cap.size=3):CallsD X.P F.fD cap .returning w fun e u' w'=>(∃ v,e=.returned v)∧u' = .returning∧w' = w:=by
 refine callsD_of_wpS F.hfnD F.bodyD ?_
 intro c0 cs hu
 refine wpS_seq (wpS_region ?_)
 have hsz:(cap ++ Array.replicate (F.fnD.ntmps - cap.size) undef).size=6:=by simp [hc,F.ntD]
 rw [show List.range F.opsA.size=[0,1] by rw [F.hA];rfl]
 unfold wpOpsS
 rw [show F.opsA[0]? = some F.oA1 by rw [F.hA];rfl]
 simp only [Region.wanted,F.oA1g,c1F,m0b]
 have hrec:recoverD (c0 :: cs)=none:=by simp [recoverD,hu]
 rw [hrec]
 simp only
 unfold wpOpsS
 rw [show F.opsA[1]? = some F.oA2 by rw [F.hA];rfl]
 simp only [Region.wanted,F.oA2g,c1F]
 generalize ha:({ tmps:=cap ++ Array.replicate (F.fnD.ntmps - cap.size) undef,defers:=[] }:Act).put F.oA1.dst .nilIface=a1
 have hsz1:a1.tmps.size=6:=by rw [← ha,F.oA1d];simp [Act.put,hsz]
 have hd1:a1.defers=[]:=by rw [← ha];cases F.oA1.dst <;> rfl
 have h3:a1.eval (.tmp 3)=.nilIface:=by
  rw [← ha,F.oA1d]
  simp [Act.put,Act.eval,c1c,c1w,hsz]
 rw [F.oA2f a1.eval w h3 rfl]
 simp only [Oper.upon]
 unfold wpOpsS
 show (Code.cond (.tmp 4) (.region F.iB F.opsB false) .skip).wpS X.P _ _ _ _
 refine wpS_cond (t:=false) ?_ ?_
 ·rw [F.oA2d];simp [Act.put,Act.eval,c1c,c1w,hsz1]
 ·simp only [c1l,c1O]
  refine wpS_of_wp (wp_skip ?_)
  refine ⟨by rw [c0v];exact hd1,c0.mode,rfl,.tuple #[],?_,⟨⟨_,rfl⟩,hu,rfl⟩⟩
  simp [results,F.resD]
theorem H0g (F:QF X.P) (hcall:d0R X call) (hdraw:q0h X call) {φ2:Inj} {v:Value} {ty:TypeId} {u:Value} (hv:v=.iface ty u) {cap:Array Value} (hR:Rel X φ2 (f0V F H) w)
  (hc:CR X φ2 w.shape? [pt (H.size + 2),pt (H.size + 3),pt (H.size + 4)] cap.toList) :
  CallsD X.P F.fD cap (.panicking [{ v,recovered:=false }]) w fun e u' w'=>(∃ x,e=.returned x)∧u' = .panicking [{ v,recovered:=true }]∧∃ φ4 G',d0d X H.size φ2 (f0V F H) w φ4 G' w' ∧
   G'.blk (H.size + 2)=.row false F.tA F.zA∧G'.blk (H.size + 3)=.row false F.tI [.int .i64 0]∧G'.blk (H.size + 4)=.row false F.tB [.bool false]:=by
 refine callsD_of_wpS F.hfnD F.bodyD ?_
 intro c0 cs hu
 refine wpS_seq (wpS_region ?_)
 have hcs:cap.size=3:=by have:=hc.1;simpa using this.symm
 have hsz:(cap ++ Array.replicate (F.fnD.ntmps - cap.size) undef).size=6:=by simp [hcs,F.ntD]
 rw [show List.range F.opsA.size=[0,1] by rw [F.hA];rfl]
 unfold wpOpsS
 rw [show F.opsA[0]? = some F.oA1 by rw [F.hA];rfl]
 simp only [Region.wanted,F.oA1g,c1F,m0b]
 have hrec:recoverD (c0 :: cs)=some (v,{ c0 with mode:=.panicking ({ v,recovered:=true } :: []) } :: cs):=by simp [recoverD,hu]
 rw [hrec]
 simp only
 unfold wpOpsS
 rw [show F.opsA[1]? = some F.oA2 by rw [F.hA];rfl]
 simp only [Region.wanted,F.oA2g,c1F]
 have hT0:CR X φ2 w.shape? ([pt (H.size + 2),pt (H.size + 3),pt (H.size + 4)] ++ un 3) (cap ++ Array.replicate (F.fnD.ntmps - cap.size) undef).toList:=by
  rw [d1W,Array.toList_replicate,hcs,F.ntD]
  exact hc.append (CR.cons VR.undef (CR.cons VR.undef (CR.cons VR.undef CR.nil)))
 generalize ha0:({ tmps:=cap ++ Array.replicate (F.fnD.ntmps - cap.size) undef,defers:=[] }:Act)=a0
 have hs0:a0.tmps.size=6:=by rw [← ha0];exact hsz
 have hd0:a0.defers=[]:=by rw [← ha0]
 have hT0':CR X φ2 w.shape? ([pt (H.size + 2),pt (H.size + 3),pt (H.size + 4)] ++ un 3) a0.tmps.toList:=by rw [← ha0];exact hT0
 have h3:(a0.put F.oA1.dst v).eval (.tmp 3)=.iface ty u:=by
  rw [F.oA1d]
  simp [Act.put,Act.eval,c1c,c1w,hs0,hv]
 rw [F.oA2t (a0.put F.oA1.dst v).eval w ty u h3 rfl]
 simp only [Oper.upon]
 unfold wpOpsS
 show (Code.cond (.tmp 4) (.region F.iB F.opsB false) .skip).wpS X.P _ _ _ _
 refine wpS_cond (t:=true) ?_ ?_
 ·rw [F.oA2d,F.oA1d];simp [Act.put,Act.eval,c1c,c1w,hs0]
 ·simp only [c1F]
  have hcB:=F.cB
  simp only [d0S,b1X,b1R,b1Y,b1U,SCode.reg.injEq] at hcB
  obtain ⟨l,hl,hlq⟩:=hcB
  subst hlq
  have hlen:F.opsB.size=(qB F.zA.length F.zA).length:=by rw [i0q hl];simp
  obtain ⟨t',G',e1,g2,g3,g4⟩:=b1M (call:=call) (H:=H) F (t:=put ([pt (H.size + 2),pt (H.size + 3),pt (H.size + 4)] ++ un 3) (some 4) (.bool true)) (by simp [put,un]) (by simp [put,get,un,List.replicate]) (by simp [put,get,un,List.replicate]) (by simp [put,get,un,List.replicate])
  simp only [a0Y] at e1
  refine wpS_of_wp (wp_region ?_)
  rw [List.range_eq_range',hlen]
  have hT1:CR X φ2 w.shape? (put ([pt (H.size + 2),pt (H.size + 3),pt (H.size + 4)] ++ un 3) (some 4) (.bool true)) (a0.put (some 4) (.bool true)).tmps.toList:=h0T hT0' (.bool true) (some 4)
  refine r0H hcall (j:=3) F.blB (qB F.zA.length F.zA) 0 _ (f0V F H) φ2 w (a0.put (some 4) (.bool true)) _ (fun i s hi=>?_) hR hT1 (by rw [k0P];omega) ?_ ?_ e1 ?_
  ·refine ⟨?_,?_⟩
   ·unfold qB at hi
    match i,hi with
    | 0,hi=>simp at hi;rw [← hi]
    | 1,hi=>simp at hi;rw [← hi]
    | 2,hi=>simp at hi;rw [← hi]
    | 3,hi=>simp at hi;rw [← hi]
    | i + 4,hi=>simp at hi
   ·obtain ⟨x,h1,h2⟩:=k0q hl i s hi
    exact ⟨x,by simpa using h1,h2⟩
  ·intro i hi
   rw [F.oA2d,F.oA1d]
   simp only [Act.put,c1c,c1w]
   by_cases h4:4=i
   ·subst h4;simp [hs0]
   ·simp [h4,show ¬ 3=i by omega]
  ·rw [F.oA2d,F.oA1d];simp [Act.put]
  ·intro φ4 b' w' hst hd
   refine ⟨?_,.panicking [{ v,recovered:=true }],rfl,.tuple #[],?_,⟨_,rfl⟩,rfl,φ4,G',hst,g2,g3,g4⟩
   ·rw [hd,c0v,c0v];exact hd0
   ·simp [results,F.resD]
end
end Go.Proofs.YtilekhkgobmolaaGreat.AI
