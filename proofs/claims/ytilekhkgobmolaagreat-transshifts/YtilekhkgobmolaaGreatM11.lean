/- Part 12 of the proof: AiTr13, AiTr14, AiTr15, AiTr16, AiTr3, AiAwk, AiGreat15, AiAwk19, AiLaw9, AiRow5, AiQuick2, AiQuick3, AiQuick4. -/
import Derived.Test.YtilekhkgobmolaaGreatM02
import Derived.Test.YtilekhkgobmolaaGreatM07
import Derived.Test.YtilekhkgobmolaaGreatM10
set_option linter.unusedVariables false
set_option linter.unusedSimpArgs false
set_option linter.unusedSectionVars false
namespace Go.Proofs.YtilekhkgobmolaaGreat.AI
section
open Go SX
set_option maxHeartbeats 4000000
variable {fl:Nat} {H G:a0e} {R:a0u} {v w u:Value}
theorem Sls.lxm {α:Type} {Q Q':a0e→List Value→α→Prop} {e sz:Nat} {l:List α} (h:Sls Q H e sz v l) (h1:LxT e H G) (hQ:∀ cs x,Q H cs x→Q' G cs x):Sls Q' G e sz v l:=by
 obtain ⟨cs,⟨hl,hs⟩,hp⟩:=h
 refine ⟨cs,⟨hl,?_⟩,fun k hk=>hQ _ _ (hp k hk)⟩
 rcases hs with hs | ⟨b,off,cap,ro,cells,rfl,hb,ho,hcs⟩
 ·exact .inl hs
 ·exact .inr ⟨b,off,cap,ro,cells,rfl,h1 _ _ _ hb,ho,hcs⟩
theorem c0V.lxT {C e e':Nat} {ro:Bool} {cs:List Value} (h:c0V (some C) H G) (hb:a0e.blk H C=.row ro e' cs) (hne:e' ≠ e):LxT e H G:=by
 intro b ro' cs' hb'
 rw [h.2 b (a0g hb') (by rintro ⟨⟩;rw [hb] at hb';cases hb';exact hne rfl)];exact hb'
theorem c0V.trans' {o:Option Nat} {G':a0e} (h:c0V o H G) (k:c0V o G G'):c0V o H G' :=
 ⟨Z0N h.1 k.1,fun b hb hne=>(k.2 b (by have:=h.1;omega) hne).trans (h.2 b hb hne)⟩
theorem b0a.blkAt {α:Type} {Q:a0e→List Value→α→Prop} {e sz C n k:Nat} {l:List α} (h:b0a Q fl G e sz (.slice (some ⟨C,0,none⟩) n k) l):∃ cs,a0e.blk G C=.row false e cs:=by
 obtain ⟨cs',⟨hl',⟨h1,_⟩ | ⟨b',cap,h1,hp,hf⟩⟩,h2⟩:=h
 ·cases h1
 ·cases h1;exact ⟨_,hp⟩
def l0T (y:List b0k) (set:List f0v) (N i j:Nat):List b0k :=
 (List.range N).map fun q=>a0f (rs (fun t=>b0A (y.getD t c0l) * vQ ((set.getD t aff0).all.getD q iz)) (if q < j then i + 1 else i))
def F0M (y:List b0k) (set:List f0v) (i:Nat):b0k:=a0f (rs (fun t=>b0A (y.getD t c0l) * vQ (set.getD t aff0).K) i)
section
variable {y:List b0k} {set:List f0v} {N i j:Nat}
theorem G0c:(l0T y set N i j).length=N:=by simp [l0T]
theorem t0L (h:j < (l0T y set N i j).length):(l0T y set N i j)[j]=a0f (rs (fun t=>b0A (y.getD t c0l) * vQ ((set.getD t aff0).all.getD j iz)) i):=by
 simp [l0T]
theorem G0d (hj:j < N):(l0T y set N i j).set j (a0f (rs (fun t=>b0A (y.getD t c0l) * vQ ((set.getD t aff0).all.getD j iz)) (i + 1)))=l0T y set N i (j + 1):=by
 apply List.ext_getElem
 ·simp [l0T]
 ·intro q h1 h2
  rw [List.getElem_set]
  by_cases hq:j=q
  ·subst hq;simp [l0T]
  ·rw [Z0F hq]
   simp only [l0T,a1t,b1c]
   by_cases h3:q < j
   ·rw [Z0I h3,Z0I (by omega)]
   ·rw [Z0F h3,Z0F (by omega)]
theorem x0x:l0T y set N i N=l0T y set N (i + 1) 0:=by
 unfold l0T
 refine a1Y fun q hq=>?_
 rw [Z0I (a1G.1 hq),Z0F (by omega)]
theorem x0y:l0T y set N 0 0=List.replicate N (a0f 0):=by
 apply List.ext_getElem
 ·simp [l0T]
 ·intro q h1 h2;simp [l0T,rs]
theorem G0b:l0T y set N set.length 0=(List.range N).map fun j=>a0f (gC y set j):=by
 unfold l0T gC
 refine a1Y fun q hq=>?_
 rw [Z0F (by omega)]
theorem G0e:F0M y set set.length=a0f (gK y set):=rfl
end
def x0k (H:a0e) (C K N row:Nat) (s sS:Value) (y:List b0k) (set:List f0v) (i:Nat) (ρ:Nat→Value) (G:a0e):Prop :=
 ρ 2=.int .i64 (row:Int)∧ρ 3=.pointer (some ⟨H.size,0,none⟩)∧ρ 7=.pointer (some ⟨H.size + 2,0,none⟩)∧ρ 9=.slice (some ⟨C,0,none⟩) N N∧ρ 11=.pointer (some ⟨K,0,none⟩)∧ρ 37=sS∧Ext H G ∧
  a0e.blk G H.size=.row false a0R [s]∧a0e.blk G (H.size + 2)=.row false a0b [.bool false,.slice none 0 0,.bool false,.slice none 0 0] ∧
  b0a PR (H.size + 3) G a0b 4 (.slice (some ⟨C,0,none⟩) N N) (l0T y set N i 0) ∧
  ∃ s1 s2,a0e.blk G K=.row false a0b [.bool (F0M y set i).1.1,s1,.bool (F0M y set i).2.1,s2]∧Lim G s1 (F0M y set i).1.2∧Lim G s2 (F0M y set i).2.2
def V0q (f0 N:Nat) (y:List b0k) (set:List f0v) (r:Value) (H':a0e):Prop :=
 ∃ c k,r=.tuple #[c,k]∧(∀ b,slB c=some b→f0≤b)∧b0y H' c ((List.range N).map fun j=>a0f (gC y set j))∧b0R H' k (a0f (gK y set))
theorem l0L {rows:List (List b0k)} {e:c0R} {row m:Nat} (ht:e0n H v rows) (he:n0R H w e) (hf:fl≤H.size) (hfe:j0F e) (hm:e.m=(m:Int)) (hrow:row < rows.length) (hy:Few 6 rows[row]) (hyl:rows[row].length=e.set.length) (hal:∀ a ∈ e.set,a.all.length=e.set.length + m) :
  a0V env fl R0X [v,w,.int .i64 (row:Int)] H (fun r H'=>V0q H.size (e.set.length + m) (rows.getD row []) e.set r H'∧Ext H H') R:=by
 have hyd:rows.getD row []=rows[row]:=b0F hrow
 rw [hyd]
 obtain ⟨y,hyy⟩:∃ y,y=rows[row]:=⟨_,rfl⟩
 obtain ⟨s,rfl,hs⟩:=ht
 obtain ⟨f,t,sG,sS,sP,rfl,hG,hS,hPc,hPp⟩:=he
 have hns:=hfe.ns;have hm3:=hfe.m
 rw [hm] at hm3
 obtain ⟨N,hN⟩:∃ N,N=e.set.length + m:=⟨_,rfl⟩
 rw [← hyy,← hN]
 rw [← hyy] at hy hyl
 rw [← hN] at hal
 refine a0k Y0T hf (h:=?_)
 intro ρ h0
 simp [U0O,L0h,h0,hs.cells,hG.cells,hS.cells,hPc]
 generalize hGG:Array.push (Array.push (Array.push H _) _) _=G
 obtain ⟨hx,b0,b1,b2⟩:=S0C hGG
 clear hGG
 have hG3:H.size + 3≤G.size:=a0g b2
 simp [L0i,b1,hS.slen]
 have wr:IntKind.i64.wrap ((e.set.length:Int) + e.m)=(N:Int):=by rw [hm,a0F (by omega) (by omega)];omega
 have hmk:=f0C (bytes:=64) (k:=.i64) (k':=.i64) (l:=N) (c:=N) (Z0E _) (by omega) (by omega)
 simp [L0j,b1,wr,hmk]
 generalize hGG:Array.push G _=G2
 obtain ⟨hx2,b3⟩:=h0K hGG
 clear hGG
 obtain ⟨C,hC⟩:∃ C,C=G.size:=⟨_,rfl⟩
 rw [← hC] at b3 hG3 ⊢
 have hCG:=a0g b3
 replace hx:=hx.trans hx2
 replace b0:=hx2.blk b0
 replace b1:=hx2.blk b1
 replace b2:=hx2.blk b2
 clear hx2 hmk wr hC G
 obtain ⟨hrl1,hrl2⟩:=p0B G2 N
 have hoC:b0a PR (H.size + 3) G2 a0b 4 (.slice (some ⟨C,0,none⟩) N N) (List.replicate N c0l):=⟨_,(Own.mk b3 hrl1 hG3 |> (fun h=>by simpa using h)),fun k hk=>by rw [List.getElem_replicate];exact hrl2 k (by simpa using hk)⟩
 clear hrl1 hrl2 b3
 simp [L0k,g0C]
 refine c0F (n:=N) (fun i ρ G=>ρ 2=.int .i64 (row:Int)∧ρ 3=.pointer (some ⟨H.size,0,none⟩)∧ρ 4=.pointer (some ⟨H.size + 1,0,none⟩)∧ρ 7=.pointer (some ⟨H.size + 2,0,none⟩)∧ρ 9=.slice (some ⟨C,0,none⟩) N N∧c0V (some C) G2 G∧b0a PR (H.size + 3) G a0b 4 (.slice (some ⟨C,0,none⟩) N N) (List.replicate i (a0f 0) ++ List.replicate (N - i) c0l)) rfl rfl (by decide) (by omega) (by simp) (by simp) ?_ ?_ ?_ ?_
 ·exact ⟨by simp [h0],by simp,by simp,by simp,by simp,(Ext.refl G2).extB,by simpa using hoC⟩
 ·intro i ρ ρ' G h hI;simpa [h] using hI
 ·clear h0 ρ hoC
  rintro i ρ G hi gi gn ⟨g2,g3,g4,g7,g9,hxb,ho⟩
  have hflG:H.size + 3≤G.size:=by have:=hxb.1;omega
  simp [L0l,L0m,gi,g9]
  refine (b0V (n:=0) (by omega) (by decide) (by decide)).mono ?_
  rintro _ G5 ⟨⟨s3,s4,rfl,k3,k4⟩,hx3⟩
  have e0:((0:Int):Rat)=0:=rfl
  rw [e0] at k3 k4 ⊢
  replace ho:=ho.mono a0I hx3
  replace hxb:=hxb.trans' hx3.extB
  obtain ⟨G6,hst,ho2,hxb2⟩:=b0a.store (j:=i) (x:=a0f 0) (w:=.agg #[.bool (a0f 0).1.1,s3,.bool (a0f 0).2.1,s4]) (ho.low (fl':=H.size) (by omega)) (by simp;omega) (by decide) rfl (by simp [k3.plain,k4.plain]) (fun G' _ hl=>⟨s3,s4,rfl,k3.lx hl,k4.lx hl⟩) (by decide) (fun G' cs y _ hl h=>b0R.lx h hl)
  have hia:iaV 4 (.slice (some ⟨C,0,none⟩) N N) (.int .i64 (i:Int))=some (adr 4 (.slice (some ⟨C,0,none⟩) N N) i):=by
   have:=ho.sls.ia (k:=.i64) (j:=i) (by simp;omega);exact this
  simp [g9,hia,hst]
  refine Rnd.mk (by simp [gi]) (by simp [gn]) ⟨by simp [g2],by simp [g3],by simp [g4],by simp [g7],by simp [g9],hxb.trans' hxb2,?_⟩
  have hset:(List.replicate i (a0f 0) ++ List.replicate (N - i) c0l).set i (a0f 0)=List.replicate (i + 1) (a0f 0) ++ List.replicate (N - (i + 1)) c0l:=by
   rw [show N - i=(N - (i + 1)) + 1 by omega,List.replicate_succ,List.set_append_right _ _ (by simp),b1Q,Nat.sub_self,List.set_cons_zero,List.replicate_succ',b1u];rfl
  rw [hset] at ho2
  exact ho2.up (fun b hb=>by simp [slB] at hb;omega)
 clear h0 ρ hoC
 rintro ρ G gz1 gz2 ⟨g2,g3,g4,g7,g9,hxb,ho⟩
 clear gz1 gz2
 rw [Nat.sub_self,List.replicate_zero,List.append_nil,← x0y (y:=y) (set:=e.set)] at ho
 have hxG:=hxb.1
 replace b0:=(hxb.2 _ (by omega) (by simp;omega)).trans b0
 replace b1:=(hxb.2 _ (by omega) (by simp;omega)).trans b1
 replace b2:=(hxb.2 _ (by omega) (by simp;omega)).trans b2
 replace hx:Ext H G:=⟨by omega,fun b hb=>(hxb.2 b (by omega) (by simp;omega)).trans (hx.2 b hb)⟩
 replace hCG:C < G.size:=by omega
 clear hxb hxG G2
 simp [L0n]
 refine (b0V (n:=0) (by omega) (by decide) (by decide)).mono ?_
 rintro _ G5 ⟨⟨s3,s4,rfl,k3,k4⟩,hx3⟩
 have e0:((0:Int):Rat)=0:=rfl
 rw [e0] at k3 k4 ⊢
 replace ho:=ho.mono a0I hx3
 replace b0:=hx3.blk b0
 replace b1:=hx3.blk b1
 replace b2:=hx3.blk b2
 replace hx:=hx.trans hx3
 replace hCG:C < G5.size:=by have:=hx3.1;omega
 simp [k3.cells,k4.cells,k3.plain,k4.plain,show H.size≤G5.size by omega]
 generalize hGG:Array.setIfInBounds (Array.push _ _) _ _=G6
 obtain ⟨hx2,b4⟩:=new1 hGG
 clear hGG
 obtain ⟨K,hK⟩:∃ K,K=G5.size:=⟨_,rfl⟩
 rw [← hK] at b4 hCG ⊢
 replace ho:=ho.mono a0I hx2
 replace b0:=hx2.blk b0
 replace b1:=hx2.blk b1
 replace b2:=hx2.blk b2
 replace hx:=hx.trans hx2
 replace k3:=k3.mono hx2
 replace k4:=k4.mono hx2
 clear hx2 hx3 hK G5 G
 simp [L0o,g4,b1,(hS.mono b0P hx).slen]
 have hfy:∀ j,szR (b0A (y.getD j c0l))≤6 + 6 + 2:=fun j=>by have:=hy.sz j;omega
 refine c0F (n:=e.set.length) (x0k H C K N row s sS y e.set) rfl rfl (by decide) (by omega) (by simp) (by simp) ?_ ?_ ?_ ?_
 ·exact ⟨by simp [g2],by simp [g3],by simp [g7],by simp [g9],by simp,by simp,hx,b0,b2,ho,s3,s4,b4,k3,k4⟩
 ·intro i ρ ρ' G h hI;simpa [x0k,h] using hI
 ·clear g2 g3 g4 g7 g9 ρ b0 b1 b2 b4 k3 k4 ho hx G6
  rintro i ρ G hi gi gn ⟨g2,g3,g7,g9,g11,g37,hx,b0,b2,ho,k1,k2,bK,q1,q2⟩
  have kl:=hS.mono b0P hx
  obtain ⟨we,hle,k0⟩:=h0o.load kl hi
  obtain ⟨sX,sW,sk,rfl,kX,kW,kK⟩:=k0
  have hfa:=hfe.set _ (Z0M hi)
  have hal':=hal _ (Z0M hi)
  have hKl:=a0g bK
  simp [E0z,g37,gi,kl.ia hi,hle,kX.cells,kW.cells,kX.plain,kW.plain,kK.cells,kK.plain,show H.size≤G.size by omega]
  generalize hGG:Array.setIfInBounds (Array.push _ _) _ _=G3
  obtain ⟨hx2,b5⟩:=new1 hGG
  clear hGG
  obtain ⟨P,hP⟩:∃ P,P=G.size:=⟨_,rfl⟩
  rw [← hP] at b5 hKl ⊢
  replace ho:=ho.mono a0I hx2
  replace b0:=hx2.blk b0
  replace b2:=hx2.blk b2
  replace bK:=hx2.blk bK
  replace hx:=hx.trans hx2
  replace q1:=q1.mono hx2
  replace q2:=q2.mono hx2
  replace kX:=kX.mono c0a hx2
  replace kW:=kW.mono c0a hx2
  replace kK:=kK.mono hx2
  have hPl:=a0g b5
  clear hx2 hle kl hP G
  obtain ⟨wr,hlr,kr⟩:=f0V.load (hs.mono d0O hx) hrow
  rw [← hyy] at kr
  have hiy:i < y.length:=by omega
  obtain ⟨x,hlx,k0⟩:=b0y.load kr hiy
  obtain ⟨y1,y2,rfl,p1,p2⟩:=id k0
  simp [E0A,g2,g3,b0,(hs.mono d0O hx).ia hrow,hlr,kr.ia hiy,hlx,p1.cells,p1.plain,p2.cells,p2.plain,show H.size≤G3.size by omega]
  generalize hGG:Array.setIfInBounds (Array.push _ _) _ _=G4
  obtain ⟨hx2,b6⟩:=new1 hGG
  clear hGG
  obtain ⟨P2,hP2⟩:∃ P2,P2=G3.size:=⟨_,rfl⟩
  rw [← hP2] at b6 hPl ⊢
  replace ho:=ho.mono a0I hx2
  replace b0:=hx2.blk b0
  replace b2:=hx2.blk b2
  replace bK:=hx2.blk bK
  replace b5:=hx2.blk b5
  replace hx:=hx.trans hx2
  replace q1:=q1.mono hx2
  replace q2:=q2.mono hx2
  replace kX:=kX.mono c0a hx2
  replace kW:=kW.mono c0a hx2
  replace kK:=kK.mono hx2
  replace p1:=p1.mono hx2
  replace p2:=p2.mono hx2
  have hP2l:=a0g b6
  clear hx2 hlr hlx kr k0 hP2 G3
  simp [E0B,b5,kX.cells,kW.cells]
  generalize hGG:Array.push G4 _=G5
  obtain ⟨hx2,b7⟩:=h0K hGG
  clear hGG
  have hall:[e.set[i].X,e.set[i].W].flatten=e.set[i].all:=by simp [f0v.all]
  refine (k0g (PIL.two b7 (kX.mono c0a hx2) (kW.mono c0a hx2)) (by have:=hx2.1;omega) (by simp) (by rw [hall];omega)).mono ?_
  rintro c G6 ⟨kc,hx3⟩
  replace hx2:=hx2.trans hx3
  rw [hall] at kc
  replace ho:=ho.mono a0I hx2
  replace b0:=hx2.blk b0
  replace b2:=hx2.blk b2
  replace bK:=hx2.blk bK
  replace b5:=hx2.blk b5
  replace b6:=hx2.blk b6
  replace hx:=hx.trans hx2
  replace q1:=q1.mono hx2
  replace q2:=q2.mono hx2
  replace kK:=kK.mono hx2
  replace p1:=p1.mono hx2
  replace p2:=p2.mono hx2
  replace hP2l:=a0g b6
  clear hx3 b7 hx2 hall kX kW G5
  simp [kc.slen]
  obtain ⟨csC,bC⟩:=ho.blkAt
  have hya:=hy _ (Z0M hiy)
  have hyv:y.getD i c0l=y[i]:=b0F hiy
  have hsv:e.set.getD i aff0=e.set[i]:=b0F hi
  refine c0F (n:=e.set[i].all.length) (fun j ρ G=>ρ 2=.int .i64 (row:Int)∧ρ 3=.pointer (some ⟨H.size,0,none⟩)∧ρ 7=.pointer (some ⟨H.size + 2,0,none⟩)∧ρ 9=.slice (some ⟨C,0,none⟩) N N∧ρ 11=.pointer (some ⟨K,0,none⟩)∧ρ 37=sS∧ρ 38=.int .i64 (e.set.length:Int)∧ρ 39=.int .i64 (i:Int)∧ρ 13=.pointer (some ⟨P,0,none⟩)∧ρ 14=.pointer (some ⟨P2,0,none⟩)∧ρ 57=c∧c0V (some C) G6 G∧b0a PR (H.size + 3) G a0b 4 (.slice (some ⟨C,0,none⟩) N N) (l0T y e.set N i j)) rfl rfl (by decide) (by omega) (by simp) (by simp) ?_ ?_ ?_ ?_
  ·exact ⟨by simp [g2],by simp [g3],by simp [g7],by simp [g9],by simp [g11],by simp [g37],by simp [gn],by simp [gi],by simp,by simp,by simp,(Ext.refl _).extB,ho⟩
  ·intro i ρ ρ' G h hI;simpa [h] using hI
  ·clear g2 g3 g7 g9 g11 g37 gn gi ho ρ
   rintro j ρ G hj gj gm ⟨g2,g3,g7,g9,g11,g37,gn,gi,g13,g14,g57,hxb,ho⟩
   have kcj:f0U G c e.set[i].all:=kc.lxm (hxb.lxT bC (by decide)) (fun cs x h=>h.lx (hxb.lxT bC (by decide)))
   replace b6:=(hxb.2 P2 hP2l (by simp;omega)).trans b6
   replace p1:=p1.lx (hxb.lxT bC (by decide))
   replace p2:=p2.lx (hxb.lxT bC (by decide))
   have hG6:=hxb.1
   obtain ⟨w',hlw,r1⟩:=f0U.load kcj hj
   have hflG:H.size + 3≤G.size:=by omega
   simp [E0C,g57,gj,kcj.ia hj,hlw,r1.cells,r1.plain,show H.size≤G.size by omega]
   generalize hGG:Array.setIfInBounds (Array.push _ _) _ _=G7
   obtain ⟨hx2,b8⟩:=new1 hGG
   clear hGG
   replace ho:=ho.mono a0I hx2
   replace b6:=hx2.blk b6
   replace p1:=p1.mono hx2
   replace p2:=p2.mono hx2
   replace r1:=r1.mono hx2
   have hG7:=hx2.1
   replace hxb:=hxb.trans' hx2.extB
   clear hx2 kcj hlw
   have hjN:j < N:=by omega
   have hjl:j < (l0T y e.set N i j).length:=by rw [G0c];exact hjN
   have hia:iaV 4 (.slice (some ⟨C,0,none⟩) N N) (.int .i64 (j:Int))=some (adr 4 (.slice (some ⟨C,0,none⟩) N N) j):=ho.sls.ia hjl
   obtain ⟨xc,hlc,kc0⟩:=b0y.load ho.sls hjl
   have hav:e.set[i].all.getD j iz=e.set[i].all[j]:=b0F hj
   have hxa:=(hfe.at i).all j
   rw [hsv,hav] at hxa
   have hgc:=hfe.gC hy j i (by omega)
   have hxl:=v0H.mem hfa (Z0M hj)
   have hm1:=f0J (b0A y[i]) (vQ e.set[i].all[j])
   have hy1:=hy.sz i
   rw [hyv] at hy1
   refine a0A ?_
   simp [E0D,g9,g14,hia,hlc,b6,b8]
   refine (d0o (x:=e.set[i].all[j]) ⟨_,rfl,r1⟩ (by omega) (by omega)).mono ?_
   rintro _ G8 ⟨⟨s3,s4,rfl,k3,k4⟩,hx3⟩
   have hG8:=hx3.1
   simp
   refine (e0U (a:=y[i]) (b:=c0q e.set[i].all[j]) ⟨y1,y2,rfl,p1.mono hx3,p2.mono hx3⟩ ⟨s3,s4,rfl,k3,k4⟩ (by omega) (by omega) (by unfold c0q;rw [a0x];omega)).mono ?_
   rintro _ G9 ⟨km,hx4⟩
   have hG9:=hx4.1
   replace hx3:=hx3.trans hx4
   clear hx4 k3 k4
   have hvw:b0A (c0q e.set[i].all[j])=vQ e.set[i].all[j]:=by unfold c0q;rw [a0s]
   rw [hvw] at km
   simp
   refine (b0D (kc0.mono hx3) km (by omega) (by rw [t0L,a0x];omega) (by rw [a0x];omega)).mono ?_
   rintro _ G10 ⟨⟨s3,s4,rfl,k3,k4⟩,hx4⟩
   have hG10:=hx4.1
   replace hx3:=hx3.trans hx4
   obtain ⟨Z,hZ⟩:∃ Z,Z=rs (fun t=>b0A (y.getD t c0l) * vQ ((e.set.getD t aff0).all.getD j iz)) (i + 1):=⟨_,rfl⟩
   have key:b0A (l0T y e.set N i j)[j] + b0A (a0f (b0A y[i] * vQ e.set[i].all[j]))=Z:=by
    rw [hZ]
    rw [t0L,a0s,a0s,rs,hyv,hsv,hav]
   rw [key] at k3 k4 ⊢
   replace ho:=ho.mono a0I hx3
   replace hxb:=hxb.trans' hx3.extB
   obtain ⟨G11,hst,ho2,hxb2⟩:=b0a.store (j:=j) (x:=a0f Z) (w:=.agg #[.bool (a0f Z).1.1,s3,.bool (a0f Z).2.1,s4]) (ho.low (fl':=H.size) (by omega)) hjl (by decide) rfl (by simp [k3.plain,k4.plain]) (fun G' _ hl=>⟨s3,s4,rfl,k3.lx hl,k4.lx hl⟩) (by decide) (fun G' cs y _ hl h=>b0R.lx h hl)
   simp [hia,hst]
   rw [hZ,G0d hjN] at ho2
   exact Rnd.mk (by simp [gj]) (by simp [gm]) ⟨by simp [g2],by simp [g3],by simp [g7],by simp [g9],by simp [g11],by simp [g37],by simp [gn],by simp [gi],by simp [g13],by simp [g14],by simp [g57],hxb.trans' hxb2,ho2.up (fun b hb=>by simp [slB] at hb;omega)⟩
  clear g2 g3 g7 g9 g11 g37 gn gi ho ρ
  rintro ρ G gz1 gz2 ⟨g2,g3,g7,g9,g11,g37,gn,gi,g13,g14,gz3,hxb,ho⟩
  clear gz1 gz2 gz3
  rw [hal',x0x] at ho
  have t1:∀ {e:Nat},a0b ≠ e→LxT e G6 G:=fun hne=>hxb.lxT bC hne
  have hG6:=hxb.1
  replace hx:Ext H G:=⟨by omega,fun b hb=>(hxb.2 b (by omega) (by simp;omega)).trans (hx.2 b hb)⟩
  replace b0:=(hxb.2 _ (by omega) (by simp;omega)).trans b0
  replace b2:=(hxb.2 _ (by omega) (by simp;omega)).trans b2
  replace bK:=(hxb.2 K (by omega) (by simp;omega)).trans bK
  replace b5:=(hxb.2 P (by omega) (by simp;omega)).trans b5
  replace b6:=(hxb.2 P2 (by omega) (by simp;omega)).trans b6
  replace p1:=p1.lx (t1 (by decide))
  replace p2:=p2.lx (t1 (by decide))
  replace q1:=q1.lx (t1 (by decide))
  replace q2:=q2.lx (t1 (by decide))
  replace kK:=kK.lx (t1 (by decide))
  clear t1 hxb bC kc
  have hxa:=I0F.sz (k:=40) hfa.2.2.1 hfa.2.2.2
  have hgk:=hfe.gK hy i (by omega)
  have hm1:=f0J (b0A y[i]) (vQ e.set[i].K)
  have hy1:=hy.sz i
  rw [hyv] at hy1
  have hfk:=hfa.2.2.1
  refine a0A ?_
  simp [E0E,g11,g13,g14,bK,b5,b6]
  refine (d0o (x:=e.set[i].K) ⟨_,rfl,kK⟩ (by omega) (by omega)).mono ?_
  rintro _ G8 ⟨⟨s3,s4,rfl,k3,k4⟩,hx3⟩
  have hG8:=hx3.1
  simp
  refine (e0U (a:=y[i]) (b:=c0q e.set[i].K) ⟨y1,y2,rfl,p1.mono hx3,p2.mono hx3⟩ ⟨s3,s4,rfl,k3,k4⟩ (by omega) (by omega) (by unfold c0q;rw [a0x];omega)).mono ?_
  rintro _ G9 ⟨km,hx4⟩
  have hG9:=hx4.1
  replace hx3:=hx3.trans hx4
  clear hx4 k3 k4
  have hvw:b0A (c0q e.set[i].K)=vQ e.set[i].K:=by unfold c0q;rw [a0s]
  rw [hvw] at km
  simp
  refine (b0D (a:=F0M y e.set i) ⟨k1,k2,rfl,q1.mono hx3,q2.mono hx3⟩ km (by omega) (by unfold F0M;rw [a0x];omega) (by rw [a0x];omega)).mono ?_
  rintro _ G10 ⟨⟨s3,s4,rfl,k3,k4⟩,hx4⟩
  have hG10:=hx4.1
  replace hx3:=hx3.trans hx4
  have key:a0f (b0A (F0M y e.set i) + b0A (a0f (b0A y[i] * vQ e.set[i].K)))=F0M y e.set (i + 1):=by
   unfold F0M
   rw [a0s,a0s,rs,hyv,hsv]
  rw [key] at k3 k4 ⊢
  replace ho:=ho.mono a0I hx3
  replace hx:=hx.trans hx3
  replace b0:=hx3.blk b0
  replace b2:=hx3.blk b2
  replace bK:=hx3.blk bK
  have hKl':=a0g bK
  simp [g11,bK,k3.cells,k4.cells,k3.plain,k4.plain,show H.size≤K by omega]
  generalize hS1:Array.setIfInBounds G10 K _=G11
  have t1:∀ {e:Nat},a0b ≠ e→LxT e G10 G11:=fun hne=>a0X hS1 bK hne
  refine Rnd.mk (by simp [gi]) (by simp [gn]) ⟨by simp [g2],by simp [g3],by simp [g7],by simp [g9],by simp [g11],by simp [g37],b0J hS1 hx (by omega),a0z hS1 b0 (by omega),a0z hS1 b2 (by omega),?_,s3,s4,a0M hS1 bK,k3.lx (t1 (by decide)),k4.lx (t1 (by decide))⟩
  have hxb:c0V (some K) G10 G11:=by
   rw [← hS1]
   exact ⟨by simp,fun b hb hne=>a0Q (by rintro rfl;exact hne rfl)⟩
  exact ho.off hxb (by right;simp [slB];omega) (fun cs x h=>b0R.lx h (t1 (by decide)))
 ·clear g2 g3 g4 g7 g9 ρ b0 b1 b2 b4 k3 k4 ho hx G6
  rintro ρ G gi gn ⟨g2,g3,g7,g9,g11,g37,hx,b0,b2,ho,k1,k2,bK,q1,q2⟩
  rw [G0b] at ho
  rw [G0e] at bK q1 q2
  have kC:=ho.sls
  refine a0A ?_
  have hz:=a0g b2
  simp [E0F,g9,g11,g7,bK,b2,q1.cells,q2.cells,q1.plain,q2.plain,hz]
  generalize hS1:Array.setIfInBounds G _ _=G11
  have t1:∀ {e:Nat},a0b ≠ e→LxT e G G11:=fun hne=>a0X hS1 b2 hne
  have hxb:c0V (some (H.size + 2)) G G11:=by
   rw [← hS1]
   exact ⟨by simp,fun b hb hne=>a0Q (by rintro rfl;exact hne rfl)⟩
  refine fun _=>⟨_,_,rfl,fun b hb=>by have:=(ho.ge hb).1;omega,(ho.off hxb (by right;simp [slB];omega) (fun cs x h=>b0R.lx h (t1 (by decide)))).sls,k1,k2,rfl,q1.lx (t1 (by decide)),q2.lx (t1 (by decide))⟩
structure I0G (rows:List (List b0k)) (e:c0R) (d:List c0c):Prop where
 ed:j0F e
 rl:rows.length≤8
 r:∀ r ∈ rows,Few 6 r∧r.length < 1073741824
 dz:∀ x ∈ d,e0O x.2≤6∧b0x x.2.1.2∧b0x x.2.2.2
 dl:d.length < 1073741824
theorem I0G.fe {rows:List (List b0k)} {e:c0R} {d:List c0c} (h:I0G rows e d):N0u d:=fun x hx=>by have:=(h.dz x hx).1;omega
theorem x0A {rows:List (List b0k)} {e:c0R} {d:List c0c} {row:Int} (h:c0W rows e d row=true):0≤e.m∧d.length=rows.length∧0≤row∧row < rows.length∧(∀ r ∈ rows,r.length=e.set.length)∧(∀ a ∈ e.set,(a.all.length:Int)=e.set.length + e.m):=by
 unfold c0W f0e j0C at h
 simp only [Z0Q,a1E] at h
 obtain ⟨⟨⟨⟨⟨⟨⟨⟨⟨⟨hn0,hn6⟩,hl⟩,hrow⟩,hdl⟩,hmay⟩,hr0⟩,hr1⟩,hm0⟩,hfs⟩,hfg⟩:=h
 refine ⟨hm0,by omega,hr0,hr1,fun r hr'=>?_,fun a ha=>?_⟩
 ·have:=a1o.1 hrow r hr'
  unfold p0C at this;simp at this;omega
 ·have:=u0b.1 hfs a ha
  unfold f0v.all;rw [Z0S];omega
def Q0O (rows:List (List b0k)) (e:c0R) (d:List c0c) (row N:Nat) (r:Value) (H':a0e):Prop :=
 ∃ p k,r=.tuple #[p,k,.bool true]∧LPV H' p (c0n rows e d row N)∧b0R H' k (a0f (gK (rows.getD row []) e.set))
theorem F0A {e:c0R} {d:List c0c} (h1:j0F e) (hd:d.length≤8):v0x e d=true:=by
 unfold v0x
 have:=h1.ns;have:=h1.ng;have:=h1.m;have:=r0H d
 simp;omega
theorem i0y {rows:List (List b0k)} {e:c0R} {d:List c0c} {row m:Nat} (ht:e0n H v rows) (he:n0R H w e) (hd:d0J H u d) (hf:fl≤H.size) (hF:I0G rows e d) (ha:c0W rows e d (row:Int)=true) (hno:f0W (fun e=>decide (e.1 < 0)) d=false) (hm:e.m=(m:Int)) :
  a0V env fl R0M [v,w,u,.int .i64 (row:Int)] H (fun r H'=>Q0O rows e d row (e.set.length + m) r H'∧Ext H H') R:=by
 obtain ⟨hm0,hdl,_,hrow',hrl',hal'⟩:=x0A ha
 have hrow:row < rows.length:=by omega
 have hal:∀ a ∈ e.set,a.all.length=e.set.length + m:=fun a h=>by have:=hal' a h;omega
 have hrl:=hF.rl
 have hfe:=hF.ed
 have hns:=hfe.ns;have hng:=hfe.ng;have hm3:=hfe.m
 obtain ⟨_,_,_,_,_,hgl,_⟩:=x0Q ha hfe hm hF.rl (fun r hr=>(hF.r r hr).1) hF.dz
 have hsm:=F0A hfe (by omega:d.length≤8)
 have ht0:=ht;have he0:=he
 obtain ⟨s,rfl,hs⟩:=ht
 obtain ⟨f,t,sG,sS,sP,rfl,hG,hS,hPc,hPp⟩:=he
 refine a0k Y0D hf (h:=?_)
 intro ρ h0
 simp [U0y,J0Q,h0,hs.cells,hG.cells,hS.cells,hPc]
 generalize hGG:Array.push (Array.push (Array.push (Array.push H _) _) _) _=G
 obtain ⟨hx,b0,b1,b2,b3⟩:=O0J hGG
 clear hGG
 have hG4:H.size + 4≤G.size:=a0g b3
 simp [J0R,h0,b0,b1]
 refine (f0T (ht0.mono hx) (he0.mono hx) (hd.mono d0h hx) (by omega) hF.r (by omega) hF.fe hF.dl (by omega) (by omega)).mono ?_
 rintro _ G2 ⟨rfl,hx2⟩
 replace b0:=hx2.blk b0
 replace b1:=hx2.blk b1
 replace b2:=hx2.blk b2
 replace b3:=hx2.blk b3
 replace hx:=hx.trans hx2
 replace hG4:=Z0N hG4 hx2.1
 clear hx2 G
 simp [ha,h0,b0,b1]
 refine (j0R (ht0.mono hx) (he0.mono hx) (hd.mono d0h hx) (by omega) hF.dl (by omega) (by omega) (by omega) (by omega)).mono ?_
 rintro _ G ⟨rfl,hx2⟩
 replace b0:=hx2.blk b0
 replace b1:=hx2.blk b1
 replace b2:=hx2.blk b2
 replace b3:=hx2.blk b3
 replace hx:=hx.trans hx2
 replace hG4:=Z0N hG4 hx2.1
 clear hx2 G2
 simp [hsm,h0,b0,b1]
 refine (g0H (hd.mono d0h hx) (by omega) hF.fe hF.dl).mono ?_
 rintro _ G2 ⟨rfl,hx2⟩
 replace b0:=hx2.blk b0
 replace b1:=hx2.blk b1
 replace b2:=hx2.blk b2
 replace b3:=hx2.blk b3
 replace hx:=hx.trans hx2
 replace hG4:=Z0N hG4 hx2.1
 clear hx2 G
 have wr:IntKind.i64.wrap ((e.set.length:Int) + e.m)=((e.set.length + m:Nat):Int):=by rw [hm,a0F (by omega) (by omega)];omega
 obtain ⟨N,hN⟩:∃ N,N=e.set.length + m:=⟨_,rfl⟩
 rw [← hN] at wr hal hgl ⊢
 simp [hno]
 simp [J0S,h0,b0,b1,(hS.mono b0P hx).slen,wr]
 refine (l0K (S:=6) (N:=N) (ht0.mono hx) (hd.mono d0h hx) (by omega) (by decide) (by omega) (fun r hr=>⟨(hF.r r hr).1,by rw [hrl' r hr];omega⟩) (by omega) (by omega) hF.fe).mono ?_
 rintro _ G3 ⟨⟨sA,sB,rfl,kA,kB⟩,hx2⟩
 obtain ⟨cA,pA⟩:=kA.cells
 obtain ⟨cB,pB⟩:=kB.cells
 have hG3:=hx2.1
 replace b0:=hx2.blk b0
 replace b1:=hx2.blk b1
 replace b2:=hx2.blk b2
 replace b3:=hx2.blk b3
 replace hx:=hx.trans hx2
 simp [cA,cB,pA,pB,show H.size≤G3.size by omega]
 generalize hGG:Array.setIfInBounds (Array.push _ _) _ _=G4
 obtain ⟨hx3,b4⟩:=new1 hGG
 clear hGG
 obtain ⟨P,hP⟩:∃ P,P=G3.size:=⟨_,rfl⟩
 rw [← hP] at b4 ⊢
 replace b0:=hx3.blk b0
 replace b1:=hx3.blk b1
 replace b2:=hx3.blk b2
 replace b3:=hx3.blk b3
 replace hx:=hx.trans hx3
 have hpb:Q0c G2.size G2.size G4 P N sA sB (.slice none 0 0) ((d0d rows d).map (u0r N)) (d0e rows d):=⟨b4,kA.mono i0M hx3,kB.mono a0I hx3⟩
 have hPl:=a0g b4
 clear kA kB hx2 hx3
 have hA0:∀ b,slB sA=some b→G2.size≤b:=fun b hb=>(hpb.A.ge hb).1
 have hB0:∀ b,slB sB=some b→G2.size≤b:=fun b hb=>(hpb.B.ge hb).1
 have hH2:H.size≤G2.size:=by omega
 simp [J0T,b1]
 refine (j0d (fl:=H.size) (f0:=G2.size) (H0:=H) hx (Z0E _) hx.1 (by omega) hG (by omega) ⟨hpb.blk,hpb.A.low hH2,hpb.B.low hH2⟩ (by have:=i0m rows d;have:=k0W rows d;simp;omega) (fun g hg=>⟨hfe.guards g hg,by rw [hgl g hg];omega⟩)).mono ?_
 rintro _ G5 ⟨⟨hO,sA',sB',hpb',hA1,hB1⟩,_⟩
 have hG5:=hO.1
 have hPG:G2.size≤P:=by omega
 replace b0:=(hO.2 _ (by omega) (by omega) (fun h=>by have:=hA0 _ h;omega) (fun h=>by have:=hB0 _ h;omega)).trans b0
 replace b1:=(hO.2 _ (by omega) (by omega) (fun h=>by have:=hA0 _ h;omega) (fun h=>by have:=hB0 _ h;omega)).trans b1
 replace b2:=(hO.2 _ (by omega) (by omega) (fun h=>by have:=hA0 _ h;omega) (fun h=>by have:=hB0 _ h;omega)).trans b2
 replace b3:=(hO.2 _ (by omega) (by omega) (fun h=>by have:=hA0 _ h;omega) (fun h=>by have:=hB0 _ h;omega)).trans b3
 replace hx:=hO.ext (fl:=H.size) (Z0E _) (by omega) (fun b h=>by have:=hA0 _ h;omega) (fun b h=>by have:=hB0 _ h;omega) hx
 have hB2:∀ b,slB sB' = some b→G2.size≤b:=fun b hb=>by
  rcases hB1 b hb with h | h | h
  ·exact hA0 b h
  ·exact hB0 b h
  ·omega
 clear hO hA0 hB0 hA1 hB1 hpb b4
 simp [J0U,h0,b0,b1]
 refine (l0L (m:=m) (ht0.mono hx) (he0.mono hx) (by omega) hfe hm hrow (hF.r _ (Z0M hrow)).1 (hrl' _ (Z0M hrow)) (fun a h=>by rw [hal a h,hN])).mono ?_
 rintro _ G6 ⟨⟨c,k,rfl,hcf,kc,kk⟩,hx2⟩
 rw [← hN] at kc
 obtain ⟨Y,hY⟩:∃ Y,Y=rows.getD row []:=⟨_,rfl⟩
 rw [← hY] at kc kk
 replace b0:=hx2.blk b0
 replace b1:=hx2.blk b1
 replace b2:=hx2.blk b2
 replace b3:=hx2.blk b3
 replace hpb':=hpb'.mono hx2
 replace hx:=hx.trans hx2
 have hG6:=hx2.1
 clear hx2
 obtain ⟨k1,k2,rfl,q1,q2⟩:=kk
 simp [q1.cells,q2.cells,q1.plain,q2.plain,show H.size≤G6.size by omega]
 generalize hGG:Array.setIfInBounds (Array.push _ _) _ _=G7
 obtain ⟨hx2,b5⟩:=new1 hGG
 clear hGG
 obtain ⟨P2,hP2⟩:∃ P2,P2=G6.size:=⟨_,rfl⟩
 rw [← hP2] at b5 ⊢
 replace b2:=hx2.blk b2
 replace b3:=hx2.blk b3
 replace hpb':=hpb'.mono hx2
 replace hx:=hx.trans hx2
 replace kc:=kc.mono a0I hx2
 replace q1:=q1.mono hx2
 replace q2:=q2.mono hx2
 clear hx2 b0 b1
 obtain ⟨b4,kA,kB⟩:=hpb'
 obtain ⟨cA,pA⟩:=kA.cells
 obtain ⟨cB,pB⟩:=kB.cells
 simp [J0V,b4,kc.cells,kc.plain,show H.size≤P by omega]
 generalize hS1:Array.setIfInBounds G7 P _=G8
 have t1:∀ {e:Nat},b0G ≠ e→LxT e G7 G8:=fun hne=>a0X hS1 b4 hne
 replace kA:=kA.lxm (t1 (by decide)) (fun cs x ⟨w',q1,q2,q3,q4⟩=>(⟨w',q1,q2.lx2 (t1 (by decide)) (t1 (by decide)),q3,q4⟩:PSf _ _ G8 cs x))
 replace kB:=kB.lxm (Q':=PR) (t1 (by decide)) (fun cs x h=>b0R.lx h (t1 (by decide)))
 replace kc:=b0y.lx2 kc (t1 (by decide)) (t1 (by decide))
 replace q1:=q1.lx (t1 (by decide))
 replace q2:=q2.lx (t1 (by decide))
 replace hx:=b0J hS1 hx (by omega)
 replace b2:=a0z hS1 b2 (by omega)
 replace b3:=a0z hS1 b3 (by omega)
 replace b5:=a0z hS1 b5 (by omega)
 replace b4:=a0M hS1 b4
 clear t1 hS1 G7
 have hz2:=a0g b2
 have hz3:=a0g b3
 refine c0u ?_
 simp [J0W,b2,b3,b4,b5,cA,cB,pA,pB,kc.cells,kc.plain,q1.cells,q2.cells,q1.plain,q2.plain,hz2,hz3]
 generalize hS1:Array.setIfInBounds G8 _ _=G9
 generalize hS2:Array.setIfInBounds G9 _ _=G10
 refine ⟨by omega,fun _=>?_⟩
 have t1:∀ {e:Nat},b0G ≠ e→LxT e G8 G9:=fun hne=>a0X hS1 b2 hne
 replace kA:=kA.lxm (t1 (by decide)) (fun cs x ⟨w',q1,q2,q3,q4⟩=>(⟨w',q1,q2.lx2 (t1 (by decide)) (t1 (by decide)),q3,q4⟩:PSf _ _ G9 cs x))
 replace kB:=kB.lxm (Q':=PR) (t1 (by decide)) (fun cs x h=>b0R.lx h (t1 (by decide)))
 replace kc:=b0y.lx2 kc (t1 (by decide)) (t1 (by decide))
 replace q1:=q1.lx (t1 (by decide))
 replace q2:=q2.lx (t1 (by decide))
 replace b3:=a0z hS1 b3 (by omega)
 clear t1
 have t1:∀ {e:Nat},a0b ≠ e→LxT e G9 G10:=fun hne=>a0X hS2 b3 hne
 have hxb:c0V (some (H.size + 3)) G9 G10:=by
  rw [← hS2]
  exact ⟨by simp,fun b hb hne=>a0Q (by rintro rfl;exact hne rfl)⟩
 have off:∀ {s:Value},(∀ b,slB s=some b→G2.size≤b)→slB s=none ∨ slB s ≠ some (H.size + 3):=fun h=>by
  cases h1:slB _ with
  | none=>exact .inl rfl
  | some b=>right;have:=h b h1;simp;omega
 have kc':b0y G9 c (c0n rows e d row N).C:=by rw [hY] at kc;exact kc
 refine ⟨_,_,rfl,⟨sA',sB',c,rfl,?_,?_,b0y.off kc' hxb (off fun b hb=>by have:=hcf b hb;omega) (t1 (by decide))⟩,?_⟩
 ·exact (kA.lxm (Q':=PS) (t1 (by decide)) (fun cs x ⟨w',q1,q2,_,q4⟩=>⟨w',q1,b0y.off q2 hxb (off q4) (t1 (by decide))⟩)).sls
 ·exact b0y.off kB.sls hxb (off hB2) (t1 (by decide))
 ·rw [hY] at q1 q2 ⊢
  exact ⟨k1,k2,rfl,q1.lx (t1 (by decide)),q2.lx (t1 (by decide))⟩
theorem O0F {z1 z2 r1 r2:Blk} {G3:a0e} (hN:Array.setIfInBounds (Array.setIfInBounds (Array.push (Array.push G z1) z2) G.size r1) (G.size + 1) r2=G3):Ext G G3∧a0e.blk G3 G.size=r1∧a0e.blk G3 (G.size + 1)=r2:=by
 subst hN
 refine ⟨(((Ext.refl G).push.push).set (by omega)).set (by omega),?_,?_⟩
 ·rw [a0Q (by omega),a0H (by simp)]
 ·rw [a0H (by simp)]
def x0g (a:Value):Prop:=∃ c1 c2 c3 c4 c5 c6 c7 c8,a=.agg #[c1,c2,c3,c4,c5,c6,c7,c8]∧a0q c1=true∧a0q c2=true∧a0q c3=true∧a0q c4=true∧a0q c5=true∧a0q c6=true∧a0q c7=true∧a0q c8=true
theorem x0e.cells8 {a:m0B} (h:x0e H v a):x0g v:=by
 obtain ⟨s1,s2,sX,sY,sR,rfl,h1,h2,h3,h4,h5⟩:=h
 exact ⟨_,_,_,_,_,_,_,_,rfl,rfl,rfl,h1.plain,rfl,h2.plain,h3.plain,h4.plain,h5.plain⟩
theorem V0n.cells8:x0g V0n:=⟨_,_,_,_,_,_,_,_,rfl,rfl,rfl,rfl,rfl,rfl,rfl,rfl,rfl⟩
def Y0l (rows:List (List b0k)) (e:c0R) (d:List c0c) (row:Int) (r:Value) (H':a0e):Prop :=
 ∃ x a c xe,r=.tuple #[x,a,.int .i64 c]∧x0g a∧h0d H' x xe∧e0O xe.2≤300000 ∧
  if c0W rows e d row=true then c=0∧l0Y rows e d row.toNat (e.set.length + e.m.toNat) xe else c=1∧xe=(0,c0l)
theorem j0V {k:Int}:h0d H (.agg #[.int .i64 k,.bool false,.slice none 0 0,.bool false,.slice none 0 0]) (k,c0l):=⟨_,_,rfl,Lim.nil,Lim.nil⟩
theorem T0x {rows:List (List b0k)} {e:c0R} {d:List c0c} {row N:Nat} {M:Nat} {a:m0B} (h:p0N (c0n rows e d row N) N M 200) (hN:N≤6) (hM:M≤14) (hc:I0E a ((M + 2) * ((N + 3) * (200 + 1) + M + 2) + 1 + M + 1 + (N + 3) * (200 + 1) + (N + 3) * (200 + 1))) (h1:F0Q (c0n rows e d row N) N M a):szR a.V≤250000:=by
 have hW:(M + 2) * ((N + 3) * (200 + 1) + M + 2) + 1 + M + 1 + (N + 3) * (200 + 1) + (N + 3) * (200 + 1)≤33000:=by
  have h1:(M + 2) * ((N + 3) * (200 + 1) + M + 2)≤16 * 1825:=a1D (by omega) (by omega)
  omega
 rw [h1.V]
 have h2:=p0J (f:=fun k=>pC (c0n rows e d row N) k * a.X.getD k 0) (K:=33201) (fun k=>by
  have a1:=f0J (pC (c0n rows e d row N) k) (a.X.getD k 0)
  have a2:szR (pC (c0n rows e d row N) k)≤201:=h.fC.sz k
  have a3:szR (a.X.getD k 0)≤33000:=by
   rw [Z0C]
   by_cases hk:k < a.X.length
   ·rw [Z0H hk];exact Z0N (hc.1 _ (Z0M _)) hW
   ·rw [Z0P (by omega)];show szR 0≤_;rw [f0K];decide
  omega) N
 have:N * (33201 + 1)≤6 * (33201 + 1):=Z0L _ hN
 omega
theorem h0n {rows:List (List b0k)} {e:c0R} {d:List c0c} {row:Int} (ht:e0n H v rows) (he:n0R H w e) (hd:d0J H u d) (hf:fl≤H.size) (hF:I0G rows e d) :
  a0V env fl Q0i [v,w,u,.int .i64 row] H (fun r H'=>Y0l rows e d row r H'∧Ext H H') R:=by
 have hrl:=hF.rl
 have hfe:=hF.ed
 have hns:=hfe.ns;have hng:=hfe.ng;have hm3:=hfe.m
 have ht0:=ht;have he0:=he
 obtain ⟨s,rfl,hs⟩:=ht
 obtain ⟨f,t,sG,sS,sP,rfl,hG,hS,hPc,hPp⟩:=he
 refine a0k Y0u hf (h:=?_)
 intro ρ h0
 simp [U0p,J0k,h0,hs.cells,hG.cells,hS.cells,hPc]
 generalize hGG:Array.push (Array.push (Array.push (Array.push H _) _) _) _=G
 obtain ⟨hx,b0,b1,b2,b3⟩:=O0J hGG
 clear hGG
 have hG4:H.size + 4≤G.size:=a0g b3
 simp [J0l,h0,b0,b1]
 refine (f0T (ht0.mono hx) (he0.mono hx) (hd.mono d0h hx) (by omega) hF.r (by omega) hF.fe hF.dl (by omega) (by omega)).mono ?_
 rintro _ G2 ⟨rfl,hx2⟩
 replace b0:=hx2.blk b0
 replace b1:=hx2.blk b1
 replace b2:=hx2.blk b2
 replace b3:=hx2.blk b3
 replace hx:=hx.trans hx2
 replace hG4:=Z0N hG4 hx2.1
 clear hx2 G
 have hz2:=a0g b2
 have hz3:=a0g b3
 cases ha:c0W rows e d row
 ·simp [J0m,b2,b3,hz2,hz3]
  exact fun _=>⟨_,_,_,_,rfl,V0n.cells8,j0V,by decide,by rw [Z0F (by rw [ha];decide)];exact ⟨rfl,rfl⟩⟩
 obtain ⟨hm0,hdl,hr0,hr1,hrl',hal'⟩:=x0A ha
 obtain ⟨m,hm⟩:∃ m:Nat,e.m=m:=⟨e.m.toNat,by omega⟩
 obtain ⟨q,rfl⟩:∃ q:Nat,row=q:=⟨row.toNat,by omega⟩
 have hmt:e.m.toNat=m:=by omega
 simp [J0n,h0]
 refine (g0H (hd.mono d0h hx) (by omega) hF.fe hF.dl).mono ?_
 rintro _ G ⟨rfl,hx2⟩
 replace b0:=hx2.blk b0
 replace b1:=hx2.blk b1
 replace b2:=hx2.blk b2
 replace b3:=hx2.blk b3
 replace hx:=hx.trans hx2
 replace hG4:=Z0N hG4 hx2.1
 clear hx2 hz2 hz3 G2
 have hz2:=a0g b2
 have hz3:=a0g b3
 cases hno:f0W (fun e=>decide (e.1 < 0)) d
 case true =>
  simp [J0o,b2,b3,hz2,hz3]
  exact fun _=>⟨_,_,_,(-1,c0l),rfl,V0n.cells8,j0V,by decide,by rw [Z0I ha];exact ⟨rfl,.inl ⟨rfl,.inl hno⟩⟩⟩
 simp [J0p,h0,b0,b1]
 refine (i0y (m:=m) (ht0.mono hx) (he0.mono hx) (hd.mono d0h hx) (by omega) hF ha hno hm).mono ?_
 rintro _ G2 ⟨⟨p,k,rfl,kp,kk⟩,hx2⟩
 replace b2:=hx2.blk b2
 replace b3:=hx2.blk b3
 replace hx:=hx.trans hx2
 replace hG4:=Z0N hG4 hx2.1
 clear hx2 b0 b1 hz2 hz3 G
 obtain ⟨hok,hrt,hN6,hM14,hrl2,hgl,hmay⟩:=x0Q ha hfe hm hF.rl (fun r hr=>(hF.r r hr).1) hF.dz
 have hsup:=fun a=>N0w.sup (d:=d) (row:=q) (a:=a) hrl2 (Nat.le_add_right _ m) hgl hno
 have hgk:szR (gK (rows.getD q []) e.set)≤150:=hfe.gK (by rw [b0F (by omega:q < rows.length)];exact (hF.r _ (Z0M _)).1) _ hns
 have hszv:=fun a hc h1=>T0x (a:=a) hok hN6 hM14 hc h1
 obtain ⟨gk,hgkd⟩:∃ x,x=gK (rows.getD q []) e.set:=⟨_,rfl⟩
 obtain ⟨N,hN⟩:∃ N,N=e.set.length + m:=⟨_,rfl⟩
 simp only [← hN] at kp hok hrt hsup hszv hN6 hM14
 obtain ⟨pp,hpp⟩:∃ x,x=c0n rows e d q N:=⟨_,rfl⟩
 rw [← hgkd] at kk hgk
 simp only [← hgkd] at hsup
 simp only [← hpp] at kp hok hrt hsup hszv hM14
 obtain ⟨M,hM⟩:∃ M,M=pp.A.length:=⟨_,rfl⟩
 rw [← hM] at hok hM14
 simp only [← hM] at hsup hszv
 have kp0:=kp
 have kk0:=kk
 obtain ⟨sA,sB,sC,rfl,kA,kB,kC⟩:=kp
 obtain ⟨k1,k2,rfl,q1,q2⟩:=kk
 simp [kA.cells,kB.cells,kC.cells,kA.plain,kB.plain,kC.plain,q1.cells,q2.cells,q1.plain,q2.plain,show H.size≤G2.size by omega,show H.size≤G2.size + 1 by omega]
 generalize hGG:Array.setIfInBounds (Array.setIfInBounds (Array.push (Array.push _ _) _) _ _) _ _=G3
 obtain ⟨hx2,b4,b5⟩:=O0F hGG
 clear hGG
 obtain ⟨P,hP⟩:∃ P,P=G2.size:=⟨_,rfl⟩
 rw [← hP] at b4 b5 ⊢
 replace b2:=hx2.blk b2
 replace b3:=hx2.blk b3
 replace hx:=hx.trans hx2
 replace kp0:=kp0.mono hx2
 replace q1:=q1.mono hx2
 replace q2:=q2.mono hx2
 clear hx2 kA kB kC kk0
 simp [J0q]
 simp [J0r,b4]
 refine (i0v hok kp0 hx.1 hrt).mono ?_
 rintro _ G5 ⟨⟨ans,k,rfl,sc,hq,ans',a,k',hee,hA,hQ⟩,hx2⟩
 obtain ⟨rfl,rfl⟩:ans=ans'∧k=k':=by simpa using hee
 clear hee
 replace b2:=hx2.blk b2
 replace b3:=hx2.blk b3
 replace b5:=hx2.blk b5
 replace hx:=hx.trans hx2
 replace q1:=q1.mono hx2
 replace q2:=q2.mono hx2
 clear hx2 b4 kp0
 have hsz:=T0w hok hq (by omega) hQ
 have hopt:N0w pp N M a:=by
  rcases hQ with hQ | hQ | hQ
  ·exact (hQ.cert hok hq).opt
  ·exact (hQ.cert hok hq).opt
  ·exact (hQ.cert hok hq).opt
 have hV:szR a.V≤250000 ∨ a.kind ≠ 1:=by
  rcases hQ with hQ | hQ | hQ
  ·right;rw [(hQ.cert hok hq).kind];decide
  ·exact .inl (hszv a hsz (hQ.cert hok hq))
  ·right;rw [(hQ.cert hok hq).kind];decide
 have hS:=hsup a hopt
 have h8:=hA.cells8
 obtain ⟨z1,z2,z3,z4,z5,rfl,l1,l2,l3,l4,l5⟩:=hA
 have d1:=l1.cells;have d2:=l2.cells
 simp [show H.size≤G5.size from hx.1,d1,d2,l1.plain,l2.plain,l3.cells,l3.plain,l4.cells,l4.plain,l5.cells,l5.plain]
 generalize hGG:Array.setIfInBounds (Array.push _ _) _ _=G6
 obtain ⟨hx2,b6⟩:=new1 hGG
 clear hGG
 obtain ⟨P4,hP4⟩:∃ x,x=G5.size:=⟨_,rfl⟩
 rw [← hP4] at b6 ⊢
 have hPP:H.size + 4≤P4:=by have:=a0g b3;omega
 replace b2:=hx2.blk b2
 replace b3:=hx2.blk b3
 replace b5:=hx2.blk b5
 replace hx:=hx.trans hx2
 replace q1:=q1.mono hx2
 replace q2:=q2.mono hx2
 replace l1:=l1.mono hx2
 replace l2:=l2.mono hx2
 clear hx2
 have hz2:=a0g b2
 have hz3:=a0g b3
 have hfin:∀ xe,l0Y rows e d q N xe→l0Y rows e d (q:Int).toNat (e.set.length + e.m.toNat) xe:=fun xe h=>by rw [Int.toNat_natCast,hmt,← hN];exact h
 simp [J0s]
 rcases hS with ⟨hk,hS⟩ | ⟨hk,hS⟩ | ⟨hk,hS⟩
 ·rw [hk] at b6 h8
  simp [p0f,b6]
  refine c0u ?_
  simp [A0D,b2,b3,b6,hz2,hz3,l1.plain,l2.plain,l3.plain,l4.plain,l5.plain]
  exact ⟨by omega,fun _=>⟨_,_,_,(-1,c0l),rfl,h8,j0V,by decide,by rw [Z0I ha];exact ⟨rfl,hfin _ hS⟩⟩⟩
 ·rw [hk] at b6 h8
  simp [p0f,s0q,b6]
  refine c0u ?_
  simp [A0E,b2,b3,b6,hz2,hz3,l1.plain,l2.plain,l3.plain,l4.plain,l5.plain]
  exact ⟨by omega,fun _=>⟨_,_,_,(1,c0l),rfl,h8,j0V,by decide,by rw [Z0I ha];exact ⟨rfl,hfin _ hS⟩⟩⟩
 ·rw [hk] at b6 h8
  simp [p0f,s0q,b6]
  have hV':szR a.V≤250000:=hV.resolve_right (fun h=>h hk)
  refine c0u ?_
  simp [A0F,b6]
  have hsa:=p0H a.V gk
  refine (f0x (a:=a0f a.V) ⟨_,_,rfl,l1,l2⟩ (by have:=hx.1;omega) (by rw [a0x];omega)).mono ?_
  rintro _ G7 ⟨⟨s1',s2',rfl,m1,m2⟩,hx2⟩
  rw [a0s] at m1 m2 ⊢
  replace b2:=hx2.blk b2
  replace b3:=hx2.blk b3
  replace b5:=hx2.blk b5
  replace b6:=hx2.blk b6
  replace hx:=hx.trans hx2
  replace q1:=q1.mono hx2
  replace q2:=q2.mono hx2
  simp [b5]
  refine (q0h (e:=(0,a0f a.V)) (b:=a0f gk) ⟨_,_,rfl,m1,m2⟩ ⟨k1,k2,rfl,q1,q2⟩ (by have:=hx.1;omega) (by rw [a0x];omega) (by rw [a0x];omega) (by rw [f0L];show szR a.V < 67108864;omega) (by rw [f0L,a0s];show szR a.V + szR gk + 1 < 67108864;omega)).mono ?_
  rintro _ G8 ⟨kx,hx3⟩
  rw [f0L,Z0I rfl,a0s] at kx
  obtain ⟨s3,s4,rfl,n1,n2⟩:=kx
  replace b2:=hx3.blk b2
  replace b3:=hx3.blk b3
  replace b6:=hx3.blk b6
  replace hx:=hx.trans hx3
  have hz2:=a0g b2
  have hz3:=a0g b3
  simp [b2,b3,b6,hz2,hz3,l1.plain,l2.plain,l3.plain,l4.plain,l5.plain,n1.cells,n2.cells,n1.plain,n2.plain]
  generalize hS1:Array.setIfInBounds G8 _ _=G9
  generalize hS2:Array.setIfInBounds G9 _ _=G10
  replace b3:=a0z hS1 b3 (by omega)
  refine ⟨by omega,fun _=>⟨_,_,_,(0,a0f (a.V + gk)),rfl,h8,⟨s3,s4,rfl,(n1.setS hS1 b2 (by decide)).setS hS2 b3 (by decide),(n2.setS hS1 b2 (by decide)).setS hS2 b3 (by decide)⟩,?_,?_⟩⟩
  ·show e0O (a0f (a.V + gk))≤300000
   rw [a0x];omega
  ·rw [Z0I ha];exact ⟨rfl,hfin _ hS⟩
theorem x0z {rows:List (List b0k)} {e:c0R} {d:List c0c} {i j:Nat} (hi:i < rows.length) (hj:j < rows.length):c0W rows e d (i:Int)=c0W rows e d (j:Int):=by
 unfold c0W
 rw [show decide (0≤(i:Int))=true by simp,show decide (0≤(j:Int))=true by simp,show decide ((i:Int) < rows.length)=true by simp;omega,show decide ((j:Int) < rows.length)=true by simp;omega]
def X0Q (rows:List (List b0k)) (e:c0R) (d:List c0c) (r:Value) (H':a0e):Prop :=
 ∃ l c xs,r=.tuple #[l,.int .i64 c]∧d0J H' l xs ∧
  if rows=[] ∨ c0W rows e d 0=true then c=0∧xs.length=rows.length∧∀ i (h:i < xs.length),l0Y rows e d i (e.set.length + e.m.toNat) xs[i]∧e0O xs[i].2≤300000 else c=1∧xs=[]
def I0C (H:a0e) (rows:List (List b0k)) (e:c0R) (d:List c0c) (s u:Value) (ec:List Value) (i:Nat) (ρ:Nat→Value) (G:a0e):Prop :=
 ρ 2=u∧ρ 3=.pointer (some ⟨H.size,0,none⟩)∧ρ 4=.pointer (some ⟨H.size + 1,0,none⟩)∧Ext H G∧a0e.blk G H.size=.row false a0R [s]∧a0e.blk G (H.size + 1)=.row false c0r ec ∧
  ∃ xs,xs.length=i∧b0a PE H.size G a0Z 5 (ρ 8) xs∧(∀ j (h:j < xs.length),l0Y rows e d j (e.set.length + e.m.toNat) xs[j]∧e0O xs[j].2≤300000)∧(0 < i→c0W rows e d 0=true)
theorem h0m {rows:List (List b0k)} {e:c0R} {d:List c0c} (ht:e0n H v rows) (he:n0R H w e) (hd:d0J H u d) (hf:fl≤H.size) (hF:I0G rows e d) :
  a0V env fl R0L [v,w,u] H (fun r H'=>X0Q rows e d r H'∧Ext H H') R:=by
 have hrl:=hF.rl
 have ht0:=ht;have he0:=he
 obtain ⟨s,rfl,hs⟩:=ht
 obtain ⟨f,t,sG,sS,sP,rfl,hG,hS,hPc,hPp⟩:=he
 refine a0k Y0t hf (h:=?_)
 intro ρ h0
 simp [U0o,J0d,J0e,h0,hs.cells,hG.cells,hS.cells,hPc]
 generalize hGG:Array.push (Array.push H _) _=G
 obtain ⟨hx,b0,b1⟩:=push2 hGG
 clear hGG
 simp [J0f,b0,hs.slen]
 refine c0F (n:=rows.length) (I0C H rows e d s u [.int .i64 f,.int .i64 t,.int .i64 e.m,sG,sS,sP]) rfl rfl (by decide) (by omega) (by simp) (by simp) ?_ ?_ ?_ ?_
 ·exact ⟨by simp [h0],by simp,by simp,hx,b0,b1,[],rfl,by simpa using b0a.nil,by simp,by simp⟩
 ·intro i ρ ρ' G h hI;simpa [I0C,h] using hI
 ·clear h0 ρ hx b0 b1 G
  rintro i ρ G hi gi gn ⟨g2,g3,g4,hx,b0,b1,xs,hxl,ho,hxs,hask⟩
  obtain ⟨sl,g8⟩:∃ s,ρ 8=s:=⟨_,rfl⟩
  rw [g8] at ho
  simp [J0g,J0h,gi,g2,g3,g4,b0,b1]
  refine (h0n (row:=(i:Int)) (ht0.mono hx) (he0.mono hx) (hd.mono d0h hx) hx.1 hF).mono ?_
  rintro _ G2 ⟨⟨x,a,c,xe,rfl,h8,kx,hxz,hcase⟩,hx2⟩
  obtain ⟨c1,c2,c3,c4,c5,c6,c7,c8,rfl,p1,p2,p3,p4,p5,p6,p7,p8⟩:=h8
  obtain ⟨s1,s2,rfl,q1,q2⟩:=kx
  replace ho:=ho.mono d0h hx2
  replace b0:=hx2.blk b0
  replace b1:=hx2.blk b1
  replace hx:=hx.trans hx2
  clear hx2
  have hsz:=hx.1
  simp [q1.cells,q2.cells,q1.plain,q2.plain,p1,p2,p3,p4,p5,p6,p7,p8,hsz,show H.size≤G2.size + 1 by omega]
  generalize hGG:Array.setIfInBounds (Array.setIfInBounds (Array.push (Array.push _ _) _) _ _) _ _=G3
  obtain ⟨hx2,b4,_⟩:=O0F hGG
  clear hGG
  replace ho:=ho.mono d0h hx2
  replace b0:=hx2.blk b0
  replace b1:=hx2.blk b1
  replace hx:=hx.trans hx2
  replace q1:=q1.mono hx2
  replace q2:=q2.mono hx2
  clear hx2
  have ha0:c0W rows e d (i:Int)=c0W rows e d 0:=x0z (j:=0) hi (by omega)
  by_cases ha:c0W rows e d 0=true
  ·rw [Z0I (by rw [ha0];exact ha)] at hcase
   obtain ⟨rfl,hsup⟩:=hcase
   simp [A0o]
   obtain ⟨v',G5,h1,h2,h3,h4⟩:=b0a.app (P:=PE) (sz:=5) (e:=a0Z) (by decide) (fun G' cs x _ hl h=>h0d.lx h hl) ho (e2:=a0Z) (c:=1) (bytes:=72) (new:=[.int .i64 xe.1,.bool xe.2.1.1,s1,.bool xe.2.2.1,s2]) (x:=xe) ⟨s1,s2,rfl,q1,q2⟩ rfl (by simp [q1.plain,q2.plain]) (by omega) (by omega) (by omega) hx.1
   have hA:=hx
   have nA0:=ho.ne b0 (by decide)
   have nA1:=ho.ne b1 (by decide)
   simp [J0j,g8,b4,h1,q1.cells,q2.cells]
   refine Rnd.mk (by simp [gi]) (by simp [gn]) ⟨by simp [g2],by simp [g3],by simp [g4],h4 _ (Z0E _) hx,(h3.2 _ (a0g b0) nA0).trans b0,(h3.2 _ (a0g b1) nA1).trans b1,xs ++ [xe],by simp [hxl],b0a.cast (v':=v') (by simp) h2,fun j hj=>?_,fun _=>ha⟩
   by_cases hjl:j < xs.length
   ·rw [a1B hjl];exact hxs j hjl
   ·have:j=i:=by simp at hj;omega
    subst this
    rw [Z0Z (by omega)]
    simp only [hxl,Nat.sub_self,List.getElem_cons_zero]
    exact ⟨by simpa using hsup,hxz⟩
  ·rw [Z0F (by rw [ha0];exact ha)] at hcase
   obtain ⟨rfl,_⟩:=hcase
   simp [A0o,J0i]
   have hne:¬ (rows=[] ∨ c0W rows e d 0=true):=by
    rintro (h | h)
    ·subst h;simp at hi
    ·exact ha h
   exact fun _=>⟨_,_,[],rfl,Sls.nil,by rw [Z0F hne];exact ⟨rfl,rfl⟩⟩
 ·clear h0 ρ hx b0 b1 G
  rintro ρ G gi gn ⟨g2,g3,g4,hx,b0,b1,xs,hxl,ho,hxs,hask⟩
  obtain ⟨sl,g8⟩:∃ s,ρ 8=s:=⟨_,rfl⟩
  rw [g8] at ho
  simp [A0n,g8]
  refine fun _=>⟨_,_,xs,rfl,ho.sls,?_⟩
  rw [Z0I (by
   by_cases h:rows=[]
   ·exact .inl h
   ·exact .inr (hask (by have:=c1k.2 h;omega)))]
  exact ⟨rfl,hxl,hxs⟩
end
section
open Go SX
set_option maxHeartbeats 1000000
def shE (s k:Int):c0R:=⟨0,[],[⟨[a0l s],[],a0l k⟩]⟩
def shD (b a:Int):List c0c:=[(0,a0f ((b:Int):Rat)),(0,a0f (((-a:Int)):Rat))]
theorem v0B {z:Int}:vQ (a0l z)=(z:Rat):=by unfold vQ;rw [a0j]
theorem r0l {s k a b:Int} {z:Nat→Rat}:v0M (b0I 1 1) (shE s k) (shD b a) 1 z ↔ z 0≤(b:Rat)∧-z 0≤((-a:Int):Rat):=by
 have e:b0I 1 1=[e0G 1 0 1,e0G 1 0 (-1)]:=rfl
 have r1:∀ p:Int,U0n (e0G 1 0 p) 1 z=(p:Rat) * z 0:=fun p=>t0p (f:=z) (by decide)
 unfold v0M
 rw [e]
 simp only [shE,shD,List.zip_cons_cons,List.zip_nil_right,a1W,List.not_mem_nil,or_false,forall_eq_or_imp,forall_eq,a1s,List.length_nil,a1i,a0s,true_implies]
 rw [r1,r1]
 have h1:((1:Int):Rat) * z 0=z 0:=by rw [Rat.intCast_one,Rat.one_mul]
 have h2:((-1:Int):Rat) * z 0 = -z 0:=by rw [Rat.intCast_neg,Rat.intCast_one];grind
 rw [h1,h2]
 simp
theorem h0F {s k:Int} {z:Nat→Rat} {row:Nat} (hr:row < 2):m0p ((b0I 1 1).getD row []) (shE s k) 1 z=((if row=0 then 1 else -1:Int):Rat) * ((s:Rat) * z 0 + (k:Rat)):=by
 have e:(b0I 1 1).getD row []=e0G 1 0 (if row=0 then 1 else -1):=by simpa using m0L (n:=1) (i:=0) (m:=1) hr (by decide)
 have h1:N0K ((shE s k).set.getD 0 aff0) 1 z=(s:Rat) * z 0 + (k:Rat):=by
  show rs (fun j=>vQ (([a0l s] ++ []:List _).getD j iz) * z j) 1 + vQ (a0l k)=_
  rw [rs,rs,Rat.zero_add,v0B]
  show vQ (a0l s) * z 0 + _=_
  rw [v0B]
 unfold m0p
 rw [e]
 have:=t0p (n:=1) (i:=0) (p:=if row=0 then 1 else -1) (f:=fun i=>N0K ((shE s k).set.getD i aff0) 1 z) (by decide)
 rw [h1] at this
 exact this
theorem N0n {s k a b:Int} (hs:s=1 ∨ s = -1) (hab:a≤b) {row:Nat} (hr:row < 2) :
  l0Y (b0I 1 1) (shE s k) (shD b a) row 1 (0,a0f (((if row=0 then (if s=1 then b else -a) + k else -(if s=1 then a else -b) - k:Int)):Rat)):=by
 have hab':(a:Rat)≤(b:Rat):=Rat.intCast_le_intCast.2 hab
 have hna:((-a:Int):Rat) = -(a:Rat):=Rat.intCast_neg _
 refine .inr ⟨by simp [shD,f0W],.inl ⟨_,rfl,?_,fun z hz=>?_⟩⟩
 ·rcases hs with rfl | rfl
  ·by_cases h0:row=0
   ·refine ⟨fun _=>(b:Rat),r0l.2 ⟨Rat.le_refl,by rw [hna];grind⟩,?_⟩
    rw [h0F hr];simp only [h0,a1p]
    push_cast
    grind
   ·refine ⟨fun _=>(a:Rat),r0l.2 ⟨hab',by rw [hna];grind⟩,?_⟩
    rw [h0F hr];simp only [h0,a1v,a1p]
    push_cast
    grind
  ·by_cases h0:row=0
   ·refine ⟨fun _=>(a:Rat),r0l.2 ⟨hab',by rw [hna];grind⟩,?_⟩
    rw [h0F hr];simp only [h0,a1p]
    rw [Z0F (by decide)]
    push_cast
    grind
   ·refine ⟨fun _=>(b:Rat),r0l.2 ⟨Rat.le_refl,by rw [hna];grind⟩,?_⟩
    rw [h0F hr];simp only [h0,a1v]
    rw [Z0F (by decide)]
    push_cast
    grind
 ·obtain ⟨h1,h2⟩:=r0l.1 hz
  rw [hna] at h2
  rw [h0F hr]
  rcases hs with rfl | rfl <;> by_cases h0:row=0 <;> simp only [h0,a1p,a1v] <;> push_cast <;> simp <;> grind
end
section
open Go
set_option maxHeartbeats 4000000
variable {fl:Nat} {H G:a0e} {R:a0u} {v w u:Value}
theorem w0m {n m:Nat}:∀ r ∈ b0I n m,Few 6 r:=by
 intro r hr
 have h1:∀ z:Int,-1≤z→z≤1→e0O (a0f (z:Rat))≤6:=fun z h1 h2=>by
  rw [a0x,j0c]
  have:=m0q (z:=z) (k:=1) (by omega)
  omega
 obtain ⟨i,_,h | h⟩:=g0P hr
 all_goals
  rw [h]
  intro x hx
  unfold e0G at hx
  obtain ⟨j,_,rfl⟩:=a1z.1 hx
  refine ⟨h1 _ ?_ ?_,b0H _,b0H _⟩
  all_goals (split;omega;split <;> omega)
theorem f0B {n:Int} (hf:fl≤H.size):a0V env fl Q0j [.int .i64 n] H (fun r H'=>r=.int .i64 n∧Ext H H') R:=by
 refine a0k Y0v hf (h:=?_)
 intro ρ h0
 simp [U0q,J0t,J0u,h0]
theorem o0v {a:Bool × List Nat} {p c:Nat} {ro:Bool} {s:Value} (hb:H.blk p=.row ro a0a [.bool a.1,s]) (h:Lim H s a.2):f0U H (.slice (some ⟨p,0,none⟩) 1 c) [a]:=by
 refine ⟨[.bool a.1,s],⟨rfl,.inr ⟨p,0,c,ro,_,rfl,hb,by simp,by simp⟩⟩,fun j hj=>?_⟩
 have:j=0:=by simpa using hj
 subst this
 exact ⟨s,rfl,h⟩
end
section
open Go SX
set_option maxHeartbeats 4000000
variable {fl:Nat} {H G:a0e} {R:a0u} {v w u:Value}
theorem n0X {a:f0v} {p c:Nat} {ro:Bool} {sX sW s:Value} (hb:a0e.blk H p=.row ro e0A [sX,sW,.bool a.K.1,s]) (hX:f0U H sX a.X) (hW:f0U H sW a.W) (hK:Lim H s a.K.2):h0o H (.slice (some ⟨p,0,none⟩) 1 c) [a]:=by
 refine ⟨[sX,sW,.bool a.K.1,s],⟨rfl,.inr ⟨p,0,c,ro,_,rfl,hb,by simp,by simp⟩⟩,fun j hj=>?_⟩
 have:j=0:=by simpa using hj
 subst this
 exact ⟨sX,sW,s,rfl,hX,hW,hK⟩
theorem O0E {z1 z2 r2:Blk} {G3:a0e} (hN:Array.setIfInBounds (Array.push (Array.push G z1) z2) (G.size + 1) r2=G3):Ext G G3∧a0e.blk G3 G.size=z1∧a0e.blk G3 (G.size + 1)=r2:=by
 subst hN
 refine ⟨((Ext.refl G).push.push).set (by omega),?_,?_⟩
 ·rw [a0Q (by omega)];simp [a0y]
 ·rw [a0H (by simp)]
theorem N0m {s k:Int} (hs:s=1 ∨ s = -1) (h1:-4294967296 < k) (h2:k < 4294967296):j0F (shE s k):=by
 have e1:∀ z:Int,-4294967296 < z→z < 4294967296→(a0l z).2.length≤40:=fun z h1 h2=>by
  have:=m0q (z:=z) (k:=1) (by omega)
  show lz z≤40
  omega
 refine ⟨fun a ha=>?_,fun a ha=>by simp [shE] at ha,by simp [shE],by simp [shE],by simp [shE]⟩
 have:a = ⟨[a0l s],[],a0l k⟩:=by simpa [shE] using ha
 subst this
 exact ⟨fun x hx=>by rw [c1q.1 hx];exact ⟨e1 s (by omega) (by omega),b0H _⟩,fun x hx=>by simp at hx,e1 k h1 h2,b0H _⟩
theorem v0u {s k:Int} {d:List c0c} {row:Nat} (hd:d.length=2) (hm:∀ x ∈ d,l0U x=true) (hr:row < 2):c0W (b0I 1 1) (shE s k) d (row:Int)=true:=by
 have hv:=x0E (n:=1) (lo:=fun _=>0) (hi:=fun _=>0) (by decide)
 unfold f0e at hv
 simp only [Z0Q,a1E] at hv
 have hrow:((row:Nat):Int) < ((b0I 1 1).length:Int):=by rw [c0T];omega
 have hany:f0W (fun e=>!l0U e) d=false:=List.any_eq_false.2 fun x hx=>by rw [hm x hx];decide
 have f1:i0J (shE s k).set 1 0=true:=by unfold i0J f0W;simp [shE]
 have f2:i0J (shE s k).guards 1 0=true:=by unfold i0J f0W;simp [shE]
 unfold c0W f0e
 show (j0C (b0I 1 1) ((1:Nat):Int) && decide (d.length=(b0I 1 1).length) && !f0W (fun e=>!l0U e) d && decide (0≤((row:Nat):Int)) && decide (((row:Nat):Int) < ((b0I 1 1).length:Int)) && decide ((0:Int)≤0) && i0J (shE s k).set 1 0 && i0J (shE s k).guards 1 0)=true
 rw [hv.1.1,hany,f1,f2,decide_eq_true hrow,decide_eq_true (show (0:Int)≤((row:Nat):Int) by omega),decide_eq_true (show d.length=(b0I 1 1).length by rw [c0T,hd])]
 rfl
theorem X0U {s k:Int} {d:List c0c} (hs:j0F (shE s k)) (hl:d.length=2) (hd:∀ x ∈ d,e0O x.2≤6∧b0x x.2.1.2∧b0x x.2.2.2):I0G (b0I 1 1) (shE s k) d :=
 ⟨hs,by rw [c0T];decide,fun r hr=>⟨w0m r hr,by obtain ⟨k,_,h | h⟩:=g0P hr <;> (rw [h,q0v];decide)⟩,hd,by omega⟩
def awD:List c0c:=[(0,a0f ((3:Int):Rat)),(1,c0l)]
theorem R0o:l0Y (b0I 1 1) (shE 1 1) awD 0 1 (0,a0f ((4:Int):Rat)):=by
 have hsem:∀ z,v0M (b0I 1 1) (shE 1 1) awD 1 z ↔ z 0≤((3:Int):Rat):=fun z=>by
  have e:b0I 1 1=[e0G 1 0 1,e0G 1 0 (-1)]:=rfl
  have r1:∀ p:Int,U0n (e0G 1 0 p) 1 z=(p:Rat) * z 0:=fun p=>t0p (f:=z) (by decide)
  unfold v0M
  rw [e]
  simp only [shE,awD,List.zip_cons_cons,List.zip_nil_right,a1W,List.not_mem_nil,or_false,forall_eq_or_imp,forall_eq,a1s,List.length_nil,a1i,a0s,true_implies]
  rw [r1]
  have h1:((1:Int):Rat) * z 0=z 0:=by rw [Rat.intCast_one,Rat.one_mul]
  rw [h1]
  simp
 refine .inr ⟨by simp [awD,f0W],.inl ⟨_,rfl,⟨fun _=>((3:Int):Rat),(hsem _).2 Rat.le_refl,?_⟩,fun z hz=>?_⟩⟩
 ·rw [h0F (by decide)];simp only [a1p];push_cast;grind
 ·have:=(hsem z).1 hz
  rw [h0F (by decide)];simp only [a1p];push_cast at this ⊢;grind
theorem G0g:c0W (b0I 1 1) (shE 1 1) awD 0=true:=by
 refine v0u (row:=0) rfl (fun x hx=>?_) (by decide)
 have:x=(0,a0f ((3:Int):Rat)) ∨ x=(1,c0l):=by simpa [awD] using hx
 rcases this with rfl | rfl
 ·unfold l0U;simp [e0z]
 ·unfold l0U;simp [g0V]
theorem Y0s:I0G (b0I 1 1) (shE 1 1) awD:=by
 refine X0U (N0m (.inl rfl) (by decide) (by decide)) rfl (fun x hx=>?_)
 have:x=(0,a0f ((3:Int):Rat)) ∨ x=(1,c0l):=by simpa [awD] using hx
 rcases this with rfl | rfl
 ·refine ⟨?_,b0H _,b0H _⟩
  show e0O (a0f ((3:Int):Rat))≤6
  rw [a0x,j0c]
  have:=m0q (z:=3) (k:=1) (by omega)
  omega
 ·exact ⟨by decide,fun x hx=>by simp [c0l] at hx,fun x hx=>by simp [c0l] at hx⟩
theorem j0m (hf:fl≤H.size):a0V env fl f_9 [] H (fun r H'=>r=.bool true∧Ext H H') R:=by
 refine a0k e_9 hf (h:=?_)
 intro ρ h0
 simp [s_9,T0h,T0i]
 refine (d0w (n:=1) (Z0E _) (by decide) (by decide)).mono ?_
 rintro _ G2 ⟨⟨s1,rfl,m1⟩,hx⟩
 simp [m1.cells]
 generalize hGG:Array.push G2 _=G3
 obtain ⟨hx2,b1⟩:=h0K hGG
 clear hGG
 have kX:=o0v (c:=1) b1 (m1.mono hx2)
 replace hx:=hx.trans hx2
 refine (d0w (n:=1) hx.1 (by decide) (by decide)).mono ?_
 rintro _ G4 ⟨⟨s2,rfl,m2⟩,hx2⟩
 replace kX:=kX.mono c0a hx2
 replace hx:=hx.trans hx2
 clear hx2 b1 m1
 have hsz:=hx.1
 simp [m2.cells,show H.size≤G4.size + 1 by omega]
 generalize hGG:Array.setIfInBounds (Array.push (Array.push _ _) _) _ _=G6
 obtain ⟨hx2,b2,b3⟩:=O0E hGG
 clear hGG
 have kS:h0o G6 (.slice (some ⟨G4.size,0,none⟩) 1 1) (shE 1 1).set:=n0X (a:=⟨[a0l 1],[],a0l 1⟩) b2 (kX.mono c0a hx2) Sls.nil (m2.mono hx2)
 replace hx:=hx.trans hx2
 obtain ⟨P,hP⟩:∃ P,P=G4.size + 1:=⟨_,rfl⟩
 rw [← hP] at b3 ⊢
 clear hx2 b2 m2 kX
 obtain ⟨vs,hvs⟩:∃ x,x=Value.slice (some ⟨G4.size,0,none⟩) 1 1:=⟨_,rfl⟩
 rw [← hvs] at b3 kS ⊢
 refine a0A ?_
 simp [T0j]
 refine (d0U (n:=1) (m:=1) (by have:=hx.1;omega) (by decide)).mono ?_
 rintro vT G7 ⟨kT,hx2⟩
 replace b3:=hx2.blk b3
 replace kS:=kS.mono b0P hx2
 replace hx:=hx.trans hx2
 clear hx2
 simp [b3]
 refine (b0B (n:=3) (by have:=hx.1;omega) (by decide) (by decide)).mono ?_
 rintro _ G8 ⟨⟨s3,s4,rfl,m3,m4⟩,hx2⟩
 replace kT:=kT.mono hx2
 replace kS:=kS.mono b0P hx2
 replace hx:=hx.trans hx2
 clear hx2 b3
 simp [m3.cells,m4.cells]
 generalize hGG:Array.push G8 _=G9
 obtain ⟨hx2,b4⟩:=h0K hGG
 clear hGG
 have hd:d0J G9 (.slice (some ⟨G8.size,0,none⟩) 2 2) awD:=by
  refine ⟨_,(Own.mk (fl:=0) (n:=2) (sz:=5) b4 rfl (a1x _)).sl,fun k hk=>?_⟩
  match k,hk with
  | 0,_=>exact ⟨s3,s4,rfl,m3.mono hx2,m4.mono hx2⟩
  | 1,_=>exact ⟨_,_,rfl,Lim.nil,Lim.nil⟩
 replace kT:=kT.mono hx2
 replace kS:=kS.mono b0P hx2
 replace hx:=hx.trans hx2
 refine (h0n (e:=shE 1 1) (row:=0) kT ⟨0,0,.slice none 0 0,vs,.slice none 0 0,rfl,Sls.nil,kS,rfl,rfl⟩ hd (by have:=hx.1;have:=a0g b4;omega) Y0s).mono ?_
 rintro _ G10 ⟨⟨x,a,c,xe,rfl,h8,kx,hxz,hcase⟩,hx2⟩
 rw [Z0I G0g] at hcase
 obtain ⟨rfl,hsup⟩:=hcase
 have hxe:xe=(0,a0f ((4:Int):Rat)):=l0Y.unique hsup R0o
 subst hxe
 obtain ⟨c1,c2,c3,c4,c5,c6,c7,c8,rfl,p1,p2,p3,p4,p5,p6,p7,p8⟩:=h8
 obtain ⟨s5,s6,rfl,q1,q2⟩:=kx
 replace hx:=hx.trans hx2
 have hsz:=hx.1
 clear hx2 hd kT kS m3 m4 b4
 simp [q1.cells,q2.cells,q1.plain,q2.plain,p1,p2,p3,p4,p5,p6,p7,p8,hsz,show H.size≤G10.size + 1 by omega]
 generalize hGG:Array.setIfInBounds (Array.setIfInBounds (Array.push (Array.push _ _) _) _ _) _ _=G11
 obtain ⟨hx2,b5,_⟩:=O0F hGG
 clear hGG
 replace hx:=hx.trans hx2
 replace q1:=q1.mono hx2
 replace q2:=q2.mono hx2
 refine a0A ?_
 simp [T0k,b5]
 refine (f0B hx.1).mono ?_
 rintro _ G12 ⟨rfl,hx3⟩
 replace b5:=hx3.blk b5
 replace hx:=hx.trans hx3
 replace q1:=q1.mono hx3
 replace q2:=q2.mono hx3
 simp [b5]
 refine (b0B (n:=4) (by have:=hx.1;omega) (by decide) (by decide)).mono ?_
 rintro _ G13 ⟨⟨s7,s8,rfl,m3,m4⟩,hx3⟩
 replace hx:=hx.trans hx3
 replace q1:=q1.mono hx3
 replace q2:=q2.mono hx3
 simp
 refine (j0k (a:=a0f ((4:Int):Rat)) (b:=a0f ((4:Int):Rat)) ⟨s5,s6,rfl,q1,q2⟩ ⟨s7,s8,rfl,m3,m4⟩ hx.1 (by have:e0O (a0f ((4:Int):Rat))≤300000:=hxz;omega)).mono ?_
 rintro _ G14 ⟨rfl,hx3⟩
 simp
theorem Y0g {s k a b:Int} (hs:s=1 ∨ s = -1) (h1:-4294967296 < k) (h2:k < 4294967296) (ha:-4294967296 < a∧a < 4294967296) (hb:-4294967296 < b∧b < 4294967296):I0G (b0I 1 1) (shE s k) (shD b a):=by
 have e1:∀ z:Int,-4294967296 < z→z < 4294967296→e0O (a0f (z:Rat))≤6:=fun z h1 h2=>by
  rw [a0x,j0c]
  have:=m0q (z:=z) (k:=1) (by omega)
  omega
 refine X0U (N0m hs h1 h2) rfl (fun x hx=>?_)
 have:x=(0,a0f ((b:Int):Rat)) ∨ x=(0,a0f ((-a:Int):Rat)):=by simpa [shD] using hx
 rcases this with rfl | rfl
 ·exact ⟨e1 b hb.1 hb.2,b0H _,b0H _⟩
 ·exact ⟨e1 (-a) (by omega) (by omega),b0H _,b0H _⟩
theorem X0N {s k a b:Int}:c0W (b0I 1 1) (shE s k) (shD b a) 0=true:=by
 refine v0u (row:=0) rfl (fun x hx=>?_) (by decide)
 have:x=(0,a0f ((b:Int):Rat)) ∨ x=(0,a0f ((-a:Int):Rat)):=by simpa [shD] using hx
 rcases this with rfl | rfl <;> (unfold l0U;simp [e0z])
theorem N0l {s k a b:Int} {r:Value} {H':a0e} (hs:s=1 ∨ s = -1) (hab:a≤b) (h:X0Q (b0I 1 1) (shE s k) (shD b a) r H') :
  ∃ l xs,r=.tuple #[l,.int .i64 0]∧d0J H' l xs∧xs=[(0,a0f (((if s=1 then b else -a) + k:Int):Rat)),(0,a0f ((-(if s=1 then a else -b) - k:Int):Rat))]:=by
 obtain ⟨l,c,xs,rfl,hl,hc⟩:=h
 rw [Z0I (.inr X0N)] at hc
 obtain ⟨rfl,hxl,hq⟩:=hc
 rw [c0T] at hxl
 refine ⟨l,xs,rfl,hl,?_⟩
 have e0:=l0Y.unique (hq 0 (by omega)).1 (N0n hs hab (by decide))
 have e1:=l0Y.unique (hq 1 (by omega)).1 (N0n hs hab (by decide))
 match xs,hxl,e0,e1 with
 | [x,y],_,e0,e1 =>
  simp only [List.getElem_cons_zero,b1w] at e0 e1
  rw [e0,e1]
  simp
theorem eSz {z:Int} (h1:-4294967296 < z) (h2:z < 4294967296):e0O (a0f (z:Rat)) < 1073741824:=by
 rw [a0x,j0c]
 have:=m0q (z:=z) (k:=1) (by omega)
 omega
theorem j0G {lo hi k:Int} {turn:Bool} (h1:-2147483648≤lo) (h2:lo < 2147483648) (h3:-2147483648≤hi) (h4:hi < 2147483648) (h5:-32768≤k) (h6:k < 32768) (hf:fl≤H.size) :
  a0V env fl f_6 [.int .i32 lo,.int .i32 hi,.int .i16 k,.bool turn] H (fun r H'=>r=.bool true∧Ext H H') R:=by
 obtain ⟨a,ha⟩:∃ a,a=mn2 false lo hi:=⟨_,rfl⟩
 obtain ⟨b,hb⟩:∃ b,b=mn2 true lo hi:=⟨_,rfl⟩
 have hab:a≤b∧-2147483648≤a∧b < 2147483648:=by
  subst ha hb
  unfold mn2
  simp only [Z0V,a1v,a1p]
  split <;> split <;> omega
 have hm1:r0Z false (.int .i32 lo) [.int .i32 hi]=some (.int .i32 a):=by rw [ha];rfl
 have hm2:r0Z true (.int .i32 lo) [.int .i32 hi]=some (.int .i32 b):=by rw [hb];rfl
 have wa:IntKind.i64.wrap a=a:=a0F (by omega) (by omega)
 have wb:IntKind.i64.wrap b=b:=a0F (by omega) (by omega)
 have wk:IntKind.i64.wrap k=k:=a0F (by omega) (by omega)
 have wna:IntKind.i64.wrap (-a) = -a:=a0F (by omega) (by omega)
 have wnb:IntKind.i64.wrap (-b) = -b:=a0F (by omega) (by omega)
 refine a0k e_6 hf (h:=?_)
 intro ρ h0
 cases turn
 ·simp [s_6,P0q,P0r,P0s,P0t,h0,hm1,hm2,wa,wb]
  simp [P0u,h0,wk]
  refine (d0w (n:=1) (Z0E _) (by decide) (by decide)).mono ?_
  rintro _ G2 ⟨⟨s1,rfl,m1⟩,hx⟩
  simp [m1.cells]
  generalize hGG:Array.push G2 _=G3
  obtain ⟨hx2,b1⟩:=h0K hGG
  clear hGG
  have kX:=o0v (c:=1) b1 (m1.mono hx2)
  replace hx:=hx.trans hx2
  simp [h0,wk]
  refine (d0w (n:=k) hx.1 (by omega) (by omega)).mono ?_
  rintro _ G4 ⟨⟨s2,rfl,m2⟩,hx2⟩
  replace kX:=kX.mono c0a hx2
  replace hx:=hx.trans hx2
  clear hx2 b1 m1
  have hsz:=hx.1
  simp [m2.cells,show H.size≤G4.size + 1 by omega]
  generalize hGG:Array.setIfInBounds (Array.push (Array.push _ _) _) _ _=G6
  obtain ⟨hx2,b2,b3⟩:=O0E hGG
  clear hGG
  have kS:h0o G6 (.slice (some ⟨G4.size,0,none⟩) 1 1) (shE (1) k).set:=n0X (a:=⟨[a0l (1)],[],a0l k⟩) b2 (kX.mono c0a hx2) Sls.nil (m2.mono hx2)
  replace hx:=hx.trans hx2
  obtain ⟨P,hP⟩:∃ P,P=G4.size + 1:=⟨_,rfl⟩
  rw [← hP] at b3 ⊢
  clear hx2 b2 m2 kX
  obtain ⟨vs,hvs⟩:∃ x,x=Value.slice (some ⟨G4.size,0,none⟩) 1 1:=⟨_,rfl⟩
  rw [← hvs] at b3 kS ⊢
  refine a0A ?_
  simp [P0v]
  refine (d0U (n:=1) (m:=1) (by have:=hx.1;omega) (by decide)).mono ?_
  rintro vT G7 ⟨kT,hx2⟩
  replace b3:=hx2.blk b3
  replace kS:=kS.mono b0P hx2
  replace hx:=hx.trans hx2
  clear hx2
  simp [b3]
  refine (b0B (n:=b) (by have:=hx.1;omega) (by omega) (by omega)).mono ?_
  rintro _ G8 ⟨⟨s3,s4,rfl,m3,m4⟩,hx2⟩
  replace kT:=kT.mono hx2
  replace kS:=kS.mono b0P hx2
  replace hx:=hx.trans hx2
  clear hx2 b3
  simp [wna]
  refine (b0B (n:=-a) (by have:=hx.1;omega) (by omega) (by omega)).mono ?_
  rintro _ G9 ⟨⟨s5,s6,rfl,m5,m6⟩,hx2⟩
  replace kT:=kT.mono hx2
  replace kS:=kS.mono b0P hx2
  replace hx:=hx.trans hx2
  replace m3:=m3.mono hx2
  replace m4:=m4.mono hx2
  clear hx2
  simp [m3.cells,m4.cells,m5.cells,m6.cells]
  generalize hGG:Array.push G9 _=G10
  obtain ⟨hx2,b4⟩:=h0K hGG
  clear hGG
  have hd:d0J G10 (.slice (some ⟨G9.size,0,none⟩) 2 2) (shD b a):=by
   refine ⟨_,(Own.mk (fl:=0) (n:=2) (sz:=5) b4 rfl (a1x _)).sl,fun k hk=>?_⟩
   match k,hk with
   | 0,_=>exact ⟨s3,s4,rfl,m3.mono hx2,m4.mono hx2⟩
   | 1,_=>exact ⟨s5,s6,rfl,m5.mono hx2,m6.mono hx2⟩
  replace kT:=kT.mono hx2
  replace kS:=kS.mono b0P hx2
  replace hx:=hx.trans hx2
  refine (h0m (e:=shE (1) k) kT ⟨0,0,.slice none 0 0,vs,.slice none 0 0,rfl,Sls.nil,kS,rfl,rfl⟩ hd (by have:=hx.1;have:=a0g b4;omega) (Y0g (by decide) (by omega) (by omega) ⟨by omega,by omega⟩ ⟨by omega,by omega⟩)).mono ?_
  rintro r G11 ⟨hall,hx2⟩
  obtain ⟨l,xs,rfl,kl,hxs⟩:=N0l (by decide) hab.1 hall
  replace hx:=hx.trans hx2
  clear hx2 hd kT kS m3 m4 m5 m6 b4 hall
  simp [P0w,h0,wnb,wna]
  refine a0A ?_
  obtain ⟨A,hA⟩:∃ A:Int,A=a:=⟨_,rfl⟩
  obtain ⟨B,hB⟩:∃ B:Int,B=b:=⟨_,rfl⟩
  obtain ⟨D,hD⟩:∃ D:Int,D=B + k:=⟨_,rfl⟩
  obtain ⟨E,hE⟩:∃ E:Int,E = -A - k:=⟨_,rfl⟩
  have wAk:IntKind.i64.wrap (B + k)=D:=by rw [hD];exact a0F (by omega) (by omega)
  have wnA:IntKind.i64.wrap (-A) = -A:=a0F (by omega) (by omega)
  have wAk2:IntKind.i64.wrap (-A - k)=E:=by rw [hE];exact a0F (by omega) (by omega)
  have hxs':xs=[(0,a0f (D:Rat)),(0,a0f (E:Rat))]:=by
   rw [hxs,hD,hE,hA,hB];simp
  clear hxs
  subst hxs'
  obtain ⟨w0,hl0,k0⟩:=d0J.load kl (j:=0) (by simp)
  obtain ⟨w1,hl1,k1⟩:=d0J.load kl (j:=1) (by simp)
  have z2:g0C l=some (.int .i64 2):=kl.slen
  have i0:iaV 5 l (.int .i64 0)=some (adr 5 l 0):=kl.ia (j:=0) (by simp)
  have i1:iaV 5 l (.int .i64 1)=some (adr 5 l 1):=kl.ia (j:=1) (by simp)
  generalize hρ:upd _ _ _=ρ'
  have g2:ρ' 2=.int .i16 k:=by rw [← hρ];simp [h0]
  have g9:ρ' 9=.int .i64 A:=by rw [← hρ,hA];simp
  have g10:ρ' 10=.int .i64 B:=by rw [← hρ,hB];simp
  have g13:ρ' 13=l:=by rw [← hρ];simp
  have g14:ρ' 14=.int .i64 0:=by rw [← hρ];simp
  clear hρ
  simp [E0J,g14]
  refine (f0B hx.1).mono ?_
  rintro _ G12 ⟨rfl,hx2⟩
  have e0:=kl.mono d0h hx2
  replace hx:=hx.trans hx2
  clear kl hl0 hl1 k0 k1
  obtain ⟨w0,hl0,k0⟩:=d0J.load e0 (j:=0) (by simp)
  simp [g13,g10,g2,z2,i0,hl0,wk,wAk]
  refine (b0B (n:=D) (by have:=hx.1;omega) (by omega) (by omega)).mono ?_
  rintro _ G13 ⟨⟨s3,s4,rfl,m3,m4⟩,hx2⟩
  replace e0:=e0.mono d0h hx2
  replace k0:=k0.mono hx2
  replace hx:=hx.trans hx2
  simp [m3.cells,m4.cells]
  refine (e0J (b:=(0,a0f (D:Rat))) k0 ⟨s3,s4,rfl,m3,m4⟩ hx.1 (eSz (by omega) (by omega))).mono ?_
  rintro _ G14 ⟨rfl,hx2⟩
  replace e0:=e0.mono d0h hx2
  replace hx:=hx.trans hx2
  obtain ⟨w1,hl1,k1⟩:=d0J.load e0 (j:=1) (by simp)
  simp [g13,g9,g2,i1,hl1,wk,wnA,wAk2]
  refine (b0B (n:=E) (by have:=hx.1;omega) (by omega) (by omega)).mono ?_
  rintro _ G15 ⟨⟨s5,s6,rfl,m5,m6⟩,hx2⟩
  replace k1:=k1.mono hx2
  replace hx:=hx.trans hx2
  simp [m5.cells,m6.cells]
  refine (e0J (b:=(0,a0f (E:Rat))) k1 ⟨s5,s6,rfl,m5,m6⟩ hx.1 (eSz (by omega) (by omega))).mono ?_
  rintro _ G16 ⟨rfl,hx2⟩
  replace hx:=hx.trans hx2
  simp
  refine (j0m hx.1).mono ?_
  rintro _ G17 ⟨rfl,hx2⟩
  simp
 ·simp [s_6,P0q,P0r,P0s,P0t,S0V,h0,hm1,hm2,wa,wb]
  simp [P0u,h0,wk]
  refine (d0w (n:=-1) (Z0E _) (by decide) (by decide)).mono ?_
  rintro _ G2 ⟨⟨s1,rfl,m1⟩,hx⟩
  simp [m1.cells]
  generalize hGG:Array.push G2 _=G3
  obtain ⟨hx2,b1⟩:=h0K hGG
  clear hGG
  have kX:=o0v (c:=1) b1 (m1.mono hx2)
  replace hx:=hx.trans hx2
  simp [h0,wk]
  refine (d0w (n:=k) hx.1 (by omega) (by omega)).mono ?_
  rintro _ G4 ⟨⟨s2,rfl,m2⟩,hx2⟩
  replace kX:=kX.mono c0a hx2
  replace hx:=hx.trans hx2
  clear hx2 b1 m1
  have hsz:=hx.1
  simp [m2.cells,show H.size≤G4.size + 1 by omega]
  generalize hGG:Array.setIfInBounds (Array.push (Array.push _ _) _) _ _=G6
  obtain ⟨hx2,b2,b3⟩:=O0E hGG
  clear hGG
  have kS:h0o G6 (.slice (some ⟨G4.size,0,none⟩) 1 1) (shE (-1) k).set:=n0X (a:=⟨[a0l (-1)],[],a0l k⟩) b2 (kX.mono c0a hx2) Sls.nil (m2.mono hx2)
  replace hx:=hx.trans hx2
  obtain ⟨P,hP⟩:∃ P,P=G4.size + 1:=⟨_,rfl⟩
  rw [← hP] at b3 ⊢
  clear hx2 b2 m2 kX
  obtain ⟨vs,hvs⟩:∃ x,x=Value.slice (some ⟨G4.size,0,none⟩) 1 1:=⟨_,rfl⟩
  rw [← hvs] at b3 kS ⊢
  refine a0A ?_
  simp [P0v]
  refine (d0U (n:=1) (m:=1) (by have:=hx.1;omega) (by decide)).mono ?_
  rintro vT G7 ⟨kT,hx2⟩
  replace b3:=hx2.blk b3
  replace kS:=kS.mono b0P hx2
  replace hx:=hx.trans hx2
  clear hx2
  simp [b3]
  refine (b0B (n:=b) (by have:=hx.1;omega) (by omega) (by omega)).mono ?_
  rintro _ G8 ⟨⟨s3,s4,rfl,m3,m4⟩,hx2⟩
  replace kT:=kT.mono hx2
  replace kS:=kS.mono b0P hx2
  replace hx:=hx.trans hx2
  clear hx2 b3
  simp [wna]
  refine (b0B (n:=-a) (by have:=hx.1;omega) (by omega) (by omega)).mono ?_
  rintro _ G9 ⟨⟨s5,s6,rfl,m5,m6⟩,hx2⟩
  replace kT:=kT.mono hx2
  replace kS:=kS.mono b0P hx2
  replace hx:=hx.trans hx2
  replace m3:=m3.mono hx2
  replace m4:=m4.mono hx2
  clear hx2
  simp [m3.cells,m4.cells,m5.cells,m6.cells]
  generalize hGG:Array.push G9 _=G10
  obtain ⟨hx2,b4⟩:=h0K hGG
  clear hGG
  have hd:d0J G10 (.slice (some ⟨G9.size,0,none⟩) 2 2) (shD b a):=by
   refine ⟨_,(Own.mk (fl:=0) (n:=2) (sz:=5) b4 rfl (a1x _)).sl,fun k hk=>?_⟩
   match k,hk with
   | 0,_=>exact ⟨s3,s4,rfl,m3.mono hx2,m4.mono hx2⟩
   | 1,_=>exact ⟨s5,s6,rfl,m5.mono hx2,m6.mono hx2⟩
  replace kT:=kT.mono hx2
  replace kS:=kS.mono b0P hx2
  replace hx:=hx.trans hx2
  refine (h0m (e:=shE (-1) k) kT ⟨0,0,.slice none 0 0,vs,.slice none 0 0,rfl,Sls.nil,kS,rfl,rfl⟩ hd (by have:=hx.1;have:=a0g b4;omega) (Y0g (by decide) (by omega) (by omega) ⟨by omega,by omega⟩ ⟨by omega,by omega⟩)).mono ?_
  rintro r G11 ⟨hall,hx2⟩
  obtain ⟨l,xs,rfl,kl,hxs⟩:=N0l (by decide) hab.1 hall
  replace hx:=hx.trans hx2
  clear hx2 hd kT kS m3 m4 m5 m6 b4 hall
  simp [P0w,S0W,S0X,L0I,h0,wnb,wna]
  refine a0A ?_
  obtain ⟨A,hA⟩:∃ A:Int,A = -b:=⟨_,rfl⟩
  obtain ⟨B,hB⟩:∃ B:Int,B = -a:=⟨_,rfl⟩
  obtain ⟨D,hD⟩:∃ D:Int,D=B + k:=⟨_,rfl⟩
  obtain ⟨E,hE⟩:∃ E:Int,E = -A - k:=⟨_,rfl⟩
  have wAk:IntKind.i64.wrap (B + k)=D:=by rw [hD];exact a0F (by omega) (by omega)
  have wnA:IntKind.i64.wrap (-A) = -A:=a0F (by omega) (by omega)
  have wAk2:IntKind.i64.wrap (-A - k)=E:=by rw [hE];exact a0F (by omega) (by omega)
  have hxs':xs=[(0,a0f (D:Rat)),(0,a0f (E:Rat))]:=by
   rw [hxs,hD,hE,hA,hB];simp
  clear hxs
  subst hxs'
  obtain ⟨w0,hl0,k0⟩:=d0J.load kl (j:=0) (by simp)
  obtain ⟨w1,hl1,k1⟩:=d0J.load kl (j:=1) (by simp)
  have z2:g0C l=some (.int .i64 2):=kl.slen
  have i0:iaV 5 l (.int .i64 0)=some (adr 5 l 0):=kl.ia (j:=0) (by simp)
  have i1:iaV 5 l (.int .i64 1)=some (adr 5 l 1):=kl.ia (j:=1) (by simp)
  generalize hρ:upd _ _ _=ρ'
  have g2:ρ' 2=.int .i16 k:=by rw [← hρ];simp [h0]
  have g9:ρ' 9=.int .i64 A:=by rw [← hρ,hA];simp
  have g10:ρ' 10=.int .i64 B:=by rw [← hρ,hB];simp
  have g13:ρ' 13=l:=by rw [← hρ];simp
  have g14:ρ' 14=.int .i64 0:=by rw [← hρ];simp
  clear hρ
  simp [E0J,g14]
  refine (f0B hx.1).mono ?_
  rintro _ G12 ⟨rfl,hx2⟩
  have e0:=kl.mono d0h hx2
  replace hx:=hx.trans hx2
  clear kl hl0 hl1 k0 k1
  obtain ⟨w0,hl0,k0⟩:=d0J.load e0 (j:=0) (by simp)
  simp [g13,g10,g2,z2,i0,hl0,wk,wAk]
  refine (b0B (n:=D) (by have:=hx.1;omega) (by omega) (by omega)).mono ?_
  rintro _ G13 ⟨⟨s3,s4,rfl,m3,m4⟩,hx2⟩
  replace e0:=e0.mono d0h hx2
  replace k0:=k0.mono hx2
  replace hx:=hx.trans hx2
  simp [m3.cells,m4.cells]
  refine (e0J (b:=(0,a0f (D:Rat))) k0 ⟨s3,s4,rfl,m3,m4⟩ hx.1 (eSz (by omega) (by omega))).mono ?_
  rintro _ G14 ⟨rfl,hx2⟩
  replace e0:=e0.mono d0h hx2
  replace hx:=hx.trans hx2
  obtain ⟨w1,hl1,k1⟩:=d0J.load e0 (j:=1) (by simp)
  simp [g13,g9,g2,i1,hl1,wk,wnA,wAk2]
  refine (b0B (n:=E) (by have:=hx.1;omega) (by omega) (by omega)).mono ?_
  rintro _ G15 ⟨⟨s5,s6,rfl,m5,m6⟩,hx2⟩
  replace k1:=k1.mono hx2
  replace hx:=hx.trans hx2
  simp [m5.cells,m6.cells]
  refine (e0J (b:=(0,a0f (E:Rat))) k1 ⟨s5,s6,rfl,m5,m6⟩ hx.1 (eSz (by omega) (by omega))).mono ?_
  rintro _ G16 ⟨rfl,hx2⟩
  replace hx:=hx.trans hx2
  simp
  refine (j0m hx.1).mono ?_
  rintro _ G17 ⟨rfl,hx2⟩
  simp
end
section
open Go
variable {H:a0e} {v:Value} {m:Nat} {cs:List Value} {P:Program}
structure k0j (P:Program):Prop where
 t:N0z P
 u64:∃ f g h:Field,P.underlying 64=some (.struct #[f,g,h])∧f.type=54∧g.type=54∧h.type=38
 u54:P.underlying 54=some (.slice 38)
 u25:P.underlying 25=some (.slice 64)
 u26:P.underlying 26=some (.slice 4)
 u28:∃ a b c d e f:Field,P.underlying 28=some (.struct #[a,b,c,d,e,f])∧a.type=3∧b.type=3∧c.type=3∧d.type=25∧e.type=25∧f.type=26
 u21:P.underlying 21=some (.int .i32)
 u61:P.underlying 61=some (.int .i16)
 c38:P.cellsOf 38=2
 c64:P.cellsOf 64=4
theorem R0n (hP:k0j P) (h:IsV P H (m + 1) 21 v):∃ n,v=.int .i32 n∧-2147483648≤n∧n < 2147483648:=by
 unfold IsV at h;rw [hP.u21] at h
 unfold IsT at h
 simp only at h
 rw [hP.u21] at h
 obtain ⟨n,h1,hn⟩:=h
 simp only [Lit.wf,Z0Q,a1E] at hn
 have h0:-2147483648≤n:=hn.1
 have h2:n≤2147483647:=hn.2
 exact ⟨n,by simpa using h1,h0,by omega⟩
theorem W0h (hP:k0j P) (h:IsV P H (m + 1) 61 v):∃ n,v=.int .i16 n∧-32768≤n∧n < 32768:=by
 unfold IsV at h;rw [hP.u61] at h
 unfold IsT at h
 simp only at h
 rw [hP.u61] at h
 obtain ⟨n,h1,hn⟩:=h
 simp only [Lit.wf,Z0Q,a1E] at hn
 have h0:-32768≤n:=hn.1
 have h2:n≤32767:=hn.2
 exact ⟨n,by simpa using h1,h0,by omega⟩
theorem N0M (hP:k0j P) (h:IsV P H (m + 1) 4 v):∃ b,v=.bool b:=by
 unfold IsV at h;rw [hP.t.u4] at h
 obtain ⟨b,h⟩:=S0p hP.t h;exact ⟨b,by simpa using h⟩
theorem o0u (hP:k0j P) {vs:List Value} (h:F0K P H 12 [21,21,61,4] vs):∃ a b k t,vs=[.int .i32 a,.int .i32 b,.int .i16 k,.bool t]∧(-2147483648≤a∧a < 2147483648)∧(-2147483648≤b∧b < 2147483648)∧-32768≤k∧k < 32768:=by
 obtain ⟨u,v,w,x,rfl,h1,h2,h3,h4⟩:=y0v h
 obtain ⟨a,rfl,ha⟩:=R0n (m:=11) hP h1
 obtain ⟨b,rfl,hb⟩:=R0n (m:=11) hP h2
 obtain ⟨k,rfl,hk⟩:=W0h (m:=11) hP h3
 obtain ⟨t,rfl⟩:=N0M (m:=11) hP h4
 exact ⟨a,b,k,t,rfl,ha,hb,hk⟩
theorem P0U:k0j Tryz.prog where
 t:=types
 u64:=⟨_,_,_,Tryz.underlying64,rfl,rfl,rfl⟩
 u54:=Tryz.underlying54
 u25:=Tryz.underlying25
 u26:=by kernel_rfl
 u28:=⟨_,_,_,_,_,_,Tryz.underlying28,rfl,rfl,rfl,rfl,rfl,rfl⟩
 u21:=by kernel_rfl
 u61:=by kernel_rfl
 c38:=by kernel_rfl
 c64:=by kernel_rfl
end
section
open Go
def q0 (tL tS tA tI tB:Nat) (zA:List Value):List a0D :=
 [⟨some 2,none,.box tL (.tmp 0)⟩,⟨some 3,none,.box tS (.tmp 1)⟩,⟨some 4,none,.alloc tA zA⟩,⟨some 5,none,.alloc tI [.int .i64 0]⟩,⟨some 6,none,.alloc tB [.bool false]⟩]
def q1 (fD:FuncId):List a0D:=[⟨some 7,none,.mkfn (.func fD) [] [.tmp 4,.tmp 5,.tmp 6]⟩]
def q2a (nL nS:Nat):List a0D:=[⟨some 9,none,.build [] []⟩,⟨some 10,none,.load true nL (.tmp 2)⟩,⟨some 11,none,.load true nS (.tmp 3)⟩]
def q2b (nA:Nat):List a0D:=[⟨some 8,none,.mv (.tmp 12)⟩,⟨some 13,none,.ext (.tmp 8) 0⟩,⟨some 14,none,.ext (.tmp 8) 1⟩,⟨none,none,.store nA (.tmp 4) (.tmp 13)⟩,⟨none,none,.store 1 (.tmp 5) (.tmp 14)⟩]
def q2c (fS:FuncId):a0D:=⟨some 12,none,.call fS [.tmp 9,.tmp 10,.tmp 11] true⟩
def q3 (nA:Nat):List a0D:=[⟨some 15,none,.load true nA (.tmp 4)⟩,⟨some 16,none,.load false 1 (.tmp 5)⟩,⟨none,none,.store nA (.tmp 4) (.tmp 15)⟩,⟨none,none,.store 1 (.tmp 5) (.tmp 16)⟩,⟨none,none,.store 1 (.tmp 6) (.const (.bool true))⟩]
def qB (nA:Nat) (zA:List Value):List a0D:=[⟨some 5,none,.build zA []⟩,⟨none,none,.store nA (.tmp 0) (.tmp 5)⟩,⟨none,none,.store 1 (.tmp 1) (.const (.int .i64 0))⟩,⟨none,none,.store 1 (.tmp 2) (.const (.bool false))⟩]
structure QF (P:Program) where
 (fQ fD fS:FuncId) (fn fnD:Func) (tL tS tA tI tB:Nat) (zA:List Value) (nL nS:Nat)
 (ops0 ops1 ops2 ops3 opsA opsB:Array Oper) (i0 i1 i2 i3 iA iB:Nat)
 (o1 o2 o3 oA1 oA2:Oper) (bef:List Nat)
 (hfn:P.funcs[fQ]? = some fn)
 (hrun:x0d P fQ=true)
 (body:fn.body=some (.seq (.region i0 ops0 false) (.seq (.region i1 ops1 false) (.seq (.region i2 ops2 false) (.seq (.region i3 ops3 true) .ret)))))
 (np:fn.params.size=2)
 (nt:fn.ntmps=17)
 (res:fn.results.toList.mapM (R0v P)=some [.cell 4 true zA.length,.cell 5 false 1,.cell 6 false 1])
 (c0:d0P P (.region i0 ops0 false)=some (.reg (q0 tL tS tA tI tB zA)))
 (h1:ops1 = #[o1,o2])
 (o1c:f0X P ops1 true o1=some ⟨some 7,none,.mkfn (.func fD) [] [.tmp 4,.tmp 5,.tmp 6]⟩)
 (o2g:o2.guard=none) (o2d:o2.dst=none) (o2o:o2.op=.defer { callee:=.value (.tmp 7),args:=#[],argTypes:=#[] })
 (c2:d0P P (.region i2 ops2 false)=some (.reg (q2a nL nS ++ q2c fS :: q2b zA.length)))
 (o3i:ops2[3]? = some o3) (o3g:o3.guard=none) (o3d:o3.dst=some 12) (ats:Array TypeId)
 (o3o:o3.op=.call { callee:=.value (.func fS),args:=#[.tmp 9,.tmp 10,.tmp 11],argTypes:=ats })
 (c3:d0P P (.region i3 ops3 true)=some (.draw (q3 zA.length) bef [(1,2)]))
 (nz:zA.length ≠ 0) (zf:zA.all flat=true) (zp:zA.all a0q=true)
 (hfnD:P.funcs[fD]? = some fnD) (runD:x0d P fD=true)
 (bodyD:fnD.body=some (.seq (.region iA opsA false) (.cond (.tmp 4) (.region iB opsB false) .skip)))
 (ntD:fnD.ntmps=6) (resD:fnD.results = #[])
 (hA:opsA = #[oA1,oA2])
 (oA1g:oA1.guard=none) (oA1d:oA1.dst=some 3) (oA1o:oA1.op=.call { callee:=.builtin .recover,args:=#[],argTypes:=#[] })
 (oA2g:oA2.guard=none) (oA2d:oA2.dst=some 4)
 (oA2f:∀ (ρ:Operand→Value) (w:World),ρ (.tmp 3)=.nilIface→ρ (.const .nilIface)=.nilIface→(execOp ρ oA2).run P w=.ok (.value (.bool false)) w)
 (oA2t:∀ (ρ:Operand→Value) (w:World) (ty:TypeId) (u:Value),ρ (.tmp 3)=.iface ty u→ρ (.const .nilIface)=.nilIface→(execOp ρ oA2).run P w=.ok (.value (.bool true)) w)
 (blB:opsB.toList.all (i0F 3)=true)
 (cB:d0P P (.region iB opsB false)=some (.reg (qB zA.length zA)))
variable {X:Cx} {call:Nat→FuncId→List Value→a0e→Res (Value × a0e)} {φ:Inj} {H H':a0e} {w:World} {fl:Nat}
def hp5 (F:QF X.P) (p s:Array Value) (H:a0e):a0e :=
 ((((H.push (.row false F.tL p.toList)).push (.row false F.tS s.toList)).push (.row false F.tA F.zA)).push (.row false F.tI [.int .i64 0])).push (.row false F.tB [.bool false])
def pt (n:Nat):Value:=.pointer (some ⟨n,0,none⟩)
def un (k:Nat):List Value:=List.replicate k undef
def tm5 (p s:Array Value) (n:Nat):a0W:=[.agg p,.agg s,pt n,pt (n + 1),pt (n + 2),pt (n + 3),pt (n + 4)] ++ un 10
def tm7 (fD:FuncId) (p s:Array Value) (n:Nat):a0W:=[.agg p,.agg s,pt n,pt (n + 1),pt (n + 2),pt (n + 3),pt (n + 4),.func (.func fD) #[] #[pt (n + 2),pt (n + 3),pt (n + 4)]] ++ un 9
def r0s (fD:FuncId) (p s:Array Value) (n:Nat):a0W:=[.agg p,.agg s,pt n,pt (n + 1),pt (n + 2),pt (n + 3),pt (n + 4),.func (.func fD) #[] #[pt (n + 2),pt (n + 3),pt (n + 4)],undef,.agg #[],.agg p,.agg s] ++ un 5
theorem u0e (F:QF X.P) (p s:Array Value):(hp5 F p s H).size=H.size + 5:=by simp [hp5]
theorem i0K (F:QF X.P) (p s:Array Value) (k:Nat) (hk:k < 5):(hp5 F p s H).blk (H.size + k)=[Blk.row false F.tL p.toList,.row false F.tS s.toList,.row false F.tA F.zA,.row false F.tI [.int .i64 0],.row false F.tB [.bool false]].getD k .dead:=by
 simp only [hp5,a0y,a1V]
 match k,hk with
 | 0,_=>rw [Z0F (by omega),Z0F (by omega),Z0F (by omega),Z0F (by omega),Z0I (by omega)];rfl
 | 1,_=>simp
 | 2,_=>simp
 | 3,_=>simp
 | 4,_=>simp
theorem Y0f (F:QF X.P) (p s:Array Value):a0Y call H.size 1 (.reg (q0 F.tL F.tS F.tA F.tI F.tB F.zA)) ([.agg p,.agg s] ++ un 15) H=.fin .normal (tm5 p s H.size) (hp5 F p s H):=by
 simp [a0Y,q0,e0I,b0c,b0v,opA,ev,get,put,un,tm5,hp5,pt,a0S,List.replicate]
theorem Z0u (p s:Array Value) {fD:FuncId} {n:Nat} {G:a0e}:e0I call fl (q1 fD) (tm5 p s n) G=.fin .normal (tm7 fD p s n) G:=by
 simp [q1,e0I,b0c,b0v,opA,ev,get,put,un,tm5,tm7,pt,List.replicate]
theorem Z0v (F:QF X.P) {p s:Array Value} (hp:p.size=F.nL) (hs:s.size=F.nS) (h0:F.nL ≠ 0) (h1:F.nS ≠ 0) :
  e0I call fl (q2a F.nL F.nS) (tm7 F.fD p s H.size) (hp5 F p s H)=.fin .normal (r0s F.fD p s H.size) (hp5 F p s H):=by
 have b0:=i0K (H:=H) F p s 0 (by omega)
 have b1:=i0K (H:=H) F p s 1 (by omega)
 simp only [a1N,List.getD_cons_zero,List.getD_cons_succ] at b0 b1
 have e0:b0o (hp5 F p s H) true F.nL (pt H.size)=some (.agg p):=by
  have h2:a0e.cells? (hp5 F p s H) H.size 0 F.nL=some p.toList:=by
   unfold a0e.cells?;rw [b0];simp only [a1i,b1n];rw [Z0I (by simp [hp]),Z0R (by simp [hp])]
  simp [b0o,pt,h0,h2]
 have e1:b0o (hp5 F p s H) true F.nS (pt (H.size + 1))=some (.agg s):=by
  have h2:a0e.cells? (hp5 F p s H) (H.size + 1) 0 F.nS=some s.toList:=by
   unfold a0e.cells?;rw [b1];simp only [a1i,b1n];rw [Z0I (by simp [hs]),Z0R (by simp [hs])]
  simp [b0o,pt,h1,h2]
 simp [q2a,e0I,b0c,b0v,opA,ev,get,put,un,tm7,r0s,List.replicate,e0,e1,b0z,f0Z,b0u]
def f0M (F:QF X.P) (G:a0e):a0e:=((((G.push .dead).push .dead).push (.row false F.tA F.zA)).push (.row false F.tI [.int .i64 0])).push (.row false F.tB [.bool false])
structure T0D (X:Cx) (F:QF X.P) (φ:Inj) (H:a0e) (w w1:World) (B o:Nat→Nat):Prop where
 lo:∀ k,k < 5→w.heap.size≤B k
 hi:∀ k,k < 5→B k < w1.heap.size
 ne:∀ j k,j < 5→k < 5→j ≠ k→B j ≠ B k
 base:∀ k,k < 5→X.base≤B k
 rA:∃ c,w1.heap[B 2]? = some (.cells c F.tA (0,0))∧o 2 + F.zA.length≤c.size∧∀ φ S,CR X φ S F.zA ((c.toList.drop (o 2)).take F.zA.length)
 rI:∃ c,w1.heap[B 3]? = some (.cells c F.tI (0,0))∧o 3 + 1≤c.size∧∀ φ S,CR X φ S [.int .i64 0] ((c.toList.drop (o 3)).take 1)
 rB:∃ c,w1.heap[B 4]? = some (.cells c F.tB (0,0))∧o 4 + 1≤c.size∧∀ φ S,CR X φ S [.bool false] ((c.toList.drop (o 4)).take 1)
theorem G0A {φ φ':Inj} {S S':Shp} {v u:Value} (hf:flat v=true) (h:VR X φ S v u):VR X φ' S' v u:=by
 have:u=v:=by
  cases h <;> simp [flat] at hf <;> try rfl
  ·rename_i f a b a' b' h1 h2 h3 h4
   cases f <;> simp [flat] at hf
   obtain ⟨rfl,rfl⟩:=hf
   have e1:a' = #[]:=by simpa using h1.symm
   have e2:b' = #[]:=by simpa using h3.symm
   rw [e1,e2]
 rw [this];exact o0t hf
theorem q0t {φ φ':Inj} {S S':Shp} {l m:List Value} (hf:l.all flat=true) (h:CR X φ S l m):CR X φ' S' l m :=
 ⟨h.1,fun i hi=>G0A (by
  have:=a1o.1 hf (l.getD i undef) (by rw [Z0C,Z0H hi];exact Z0M hi)
  exact this) (h.2 i hi)⟩
theorem S0x (F:QF X.P) {p s:Array Value} {φ1:Inj} {w1:World} (hR:Rel X φ H w) (hst:c0Z X H.size φ H w φ1 (hp5 F p s H) w1) {B o:Nat→Nat} (hφ:∀ k,k < 5→φ1 (H.size + k)=some (B k,o k)) :
  T0D X F φ H w w1 B o:=by
 have hnone:∀ k,φ (H.size + k)=none:=fun k=>by
  cases h:φ (H.size + k) with
  | none=>rfl
  | some x=>have:=hR.lt _ _ h;omega
 have hrow:∀ k,k < 5→∃ e cs,(hp5 F p s H).blk (H.size + k)=.row false e cs:=fun k hk=>by
  rw [i0K F p s k hk]
  match k,hk with
  | 0,_=>exact ⟨_,_,rfl⟩
  | 1,_=>exact ⟨_,_,rfl⟩
  | 2,_=>exact ⟨_,_,rfl⟩
  | 3,_=>exact ⟨_,_,rfl⟩
  | 4,_=>exact ⟨_,_,rfl⟩
 have rows:∀ k e cs,k < 5→(hp5 F p s H).blk (H.size + k)=.row false e cs→cs.all flat=true→∃ c,w1.heap[B k]? = some (.cells c e (0,0))∧o k + cs.length≤c.size∧∀ φ S,CR X φ S cs ((c.toList.drop (o k)).take cs.length):=by
  intro k e cs hk hb hf
  obtain ⟨c,el,fz,g1,g2,g3,g4,_⟩:=hst.rel.row _ _ _ _ _ _ (hφ k hk) hb
  obtain ⟨_,rfl,rfl⟩:=g4 rfl
  exact ⟨c,g1,g2,fun φ' S'=>q0t hf g3⟩
 refine ⟨fun k hk=>hst.own_new hR (hφ k hk) (hnone k),fun k hk=>?_,fun j k hj hk hne heq=>?_,fun k hk=>?_,?_,?_,?_⟩
 ·obtain ⟨e,cs,h⟩:=hrow k hk
  exact hst.rel.row_lt (hφ k hk) h
 ·obtain ⟨e,cs,h⟩:=hrow j hj
  obtain ⟨e',cs',h'⟩:=hrow k hk
  have:=hst.rel.sep _ _ _ _ _ _ _ (hφ j hj) (by rw [heq];exact hφ k hk) (by omega) h
  rw [h'] at this;cases this
 ·obtain ⟨e,cs,h⟩:=hrow k hk
  obtain ⟨c,el,fz,g1,g2,g3,g4,_⟩:=hst.rel.row _ _ _ _ _ _ (hφ k hk) h
  exact (g4 rfl).1
 ·exact rows 2 F.tA F.zA (by omega) (by rw [i0K F p s 2 (by omega)];rfl) F.zf
 ·exact rows 3 F.tI [.int .i64 0] (by omega) (by rw [i0K F p s 3 (by omega)];rfl) rfl
 ·exact rows 4 F.tB [.bool false] (by omega) (by rw [i0K F p s 4 (by omega)];rfl) rfl
def z0j (φ:Inj) (n:Nat) (B o:Nat→Nat):Inj:=ad (ad (ad (ad (ad φ n (B 0) (o 0)) (n + 1) (B 1) (o 1)) (n + 2) (B 2) (o 2)) (n + 3) (B 3) (o 3)) (n + 4) (B 4) (o 4)
theorem q0H (F:QF X.P) {φ':Inj} {w1 w2:World} {B o:Nat→Nat} (O:T0D X F φ H w w1 B o) (hR':Rel X φ' H' w2) (hold:∀ k,k < 5→w2.heap[B k]? = w1.heap[B k]?)
  (hno:∀ k,k < 5→∀ b o' ro e' cs',φ' b=some (B k,o')→H'.blk b ≠ .row ro e' cs'):Rel X (z0j φ' H'.size B o) (f0M F H') w2:=by
 have r0:=hR'.adopt0 (B 0) (o 0)
 have r1:=r0.adopt0 (B 1) (o 1)
 have s1:(H'.push Blk.dead).size=H'.size + 1:=by simp
 rw [s1] at r1
 have n1:∀ k,2≤k→k < 5→∀ b o' ro e' cs',ad (ad φ' H'.size (B 0) (o 0)) (H'.size + 1) (B 1) (o 1) b=some (B k,o')→a0e.blk ((H'.push Blk.dead).push .dead) b ≠ .row ro e' cs':=by
  intro k hk hk5 b o' ro e' cs' h
  unfold ad at h
  simp only [a0y,a1V]
  split at h
  ·rename_i hb;simp at h;exact Z0T h.1 (O.ne 1 k (by omega) hk5 (by omega))
  ·split at h
   ·rename_i hb;simp at h;exact Z0T h.1 (O.ne 0 k (by omega) hk5 (by omega))
   ·rename_i h1 h2;rw [Z0F (by omega),Z0F (by omega)];exact hno k hk5 b o' ro e' cs' h
 obtain ⟨c2,g1,g2,g3⟩:=O.rA
 have r2:=r1.adopt (B:=B 2) (o:=o 2) (e:=F.tA) (cs:=F.zA) (c:=c2) (by rw [hold 2 (by omega)];exact g1) g2 (g3 _ _) (O.base 2 (by omega)) (n1 2 (by omega) (by omega))
 have s2:((H'.push Blk.dead).push Blk.dead).size=H'.size + 2:=by simp
 rw [s2] at r2
 have n2:∀ k,3≤k→k < 5→∀ b o' ro e' cs',ad (ad (ad φ' H'.size (B 0) (o 0)) (H'.size + 1) (B 1) (o 1)) (H'.size + 2) (B 2) (o 2) b=some (B k,o')→a0e.blk (((H'.push Blk.dead).push .dead).push (.row false F.tA F.zA)) b ≠ .row ro e' cs':=by
  intro k hk hk5 b o' ro e' cs' h
  unfold ad at h
  rw [a0y,s2]
  split at h
  ·rename_i hb;simp at h;exact Z0T h.1 (O.ne 2 k (by omega) hk5 (by omega))
  ·rename_i hb;rw [Z0F hb];exact n1 k (by omega) hk5 b o' ro e' cs' h
 obtain ⟨c3,g1,g2,g3⟩:=O.rI
 have r3:=r2.adopt (B:=B 3) (o:=o 3) (e:=F.tI) (cs:=[.int .i64 0]) (c:=c3) (by rw [hold 3 (by omega)];exact g1) g2 (g3 _ _) (O.base 3 (by omega)) (n2 3 (by omega) (by omega))
 have s3:(((H'.push Blk.dead).push Blk.dead).push (.row false F.tA F.zA)).size=H'.size + 3:=by simp
 rw [s3] at r3
 obtain ⟨c4,g1,g2,g3⟩:=O.rB
 have r4:=r3.adopt (B:=B 4) (o:=o 4) (e:=F.tB) (cs:=[.bool false]) (c:=c4) (by rw [hold 4 (by omega)];exact g1) g2 (g3 _ _) (O.base 4 (by omega)) (by
  intro b o' ro e' cs' h
  unfold ad at h
  rw [a0y,s3]
  split at h
  ·rename_i hb;simp at h;exact Z0T h.1 (O.ne 3 4 (by omega) (by omega) (by omega))
  ·rename_i hb;rw [Z0F hb];exact n2 4 (by omega) (by omega) b o' ro e' cs' h)
 have s4:((((H'.push Blk.dead).push Blk.dead).push (.row false F.tA F.zA)).push (.row false F.tI [.int .i64 0])).size=H'.size + 4:=by simp
 rw [s4] at r4
 exact r4
theorem r0u {φ φ':Inj} {S S':Shp} {u:Value} (h:VR X φ S undef u):VR X φ' S' undef u:=by
 unfold undef at h ⊢
 cases h with
 | tuple a a' h1 h2=>exact .tuple _ _ h1 (fun i hi=>by simp at hi)
theorem N0s {φ φ':Inj} {S S':Shp}:∀ {k:Nat} {l:List Value},CR X φ S (un k) l→CR X φ' S' (un k) l
 | 0,l,h=>by rw [h.nil_left];exact CR.nil
 | k + 1,l,h=>by
  obtain ⟨v',r',rfl,hv,hr⟩:=(show CR X φ S (undef :: un k) l from h).cons_left
  exact CR.cons (r0u hv) (N0s hr)
theorem g0u {φ φ':Inj} {S S':Shp} {n m:Nat} {x:Nat × Nat} {u:Value} (hφ:φ n=some x) (hφ':φ' m=some x) (h:VR X φ S (pt n) u):VR X φ' S' (pt m) u:=by
 unfold pt at h ⊢
 cases h with
 | ptr a a' B o h1 h2 h3 =>
  rw [hφ] at h2;cases h2
  exact .ptr _ _ B o rfl hφ' h3
theorem l0J {φ1 φ2:Inj} {G:a0e} {w1:World} {p s:Array Value} {fD:FuncId} {B o:Nat→Nat} {m:Nat} {S0 S2:Shp} {u0 u1:Value} (hR:Rel X φ H w) (hst:c0Z X H.size φ H w φ1 G w1)
  (hp:VR X φ S0 (.agg p) u0) (hs:VR X φ S0 (.agg s) u1) (hφ:∀ k,k < 5→φ1 (H.size + k)=some (B k,o k)) (h2:∀ k,k < 5→φ2 (m + k)=some (B k,o k)) (he:∀ b x,φ b=some x→φ2 b=some x)
  (hS:∀ b x,w1.shape? b=some x→S2 b=some x) {l:List Value} (h:CR X φ1 w1.shape? (r0s fD p s H.size) l):CR X φ2 S2 (r0s fD p s m) l:=by
 unfold r0s at h ⊢
 simp only [b1J,b1d] at h ⊢
 obtain ⟨x0,l,rfl,k0,h⟩:=h.cons_left
 obtain ⟨x1,l,rfl,k1,h⟩:=h.cons_left
 obtain ⟨x2,l,rfl,k2,h⟩:=h.cons_left
 obtain ⟨x3,l,rfl,k3,h⟩:=h.cons_left
 obtain ⟨x4,l,rfl,k4,h⟩:=h.cons_left
 obtain ⟨x5,l,rfl,k5,h⟩:=h.cons_left
 obtain ⟨x6,l,rfl,k6,h⟩:=h.cons_left
 obtain ⟨x7,l,rfl,k7,h⟩:=h.cons_left
 obtain ⟨x8,l,rfl,k8,h⟩:=h.cons_left
 obtain ⟨x9,l,rfl,k9,h⟩:=h.cons_left
 obtain ⟨x10,l,rfl,k10,h⟩:=h.cons_left
 obtain ⟨x11,l,rfl,k11,h⟩:=h.cons_left
 have ba:∀ {v u u'},VR X φ S0 v u→VR X φ1 w1.shape? v u'→VR X φ2 S2 v u':=fun k k'=>(VR.back hR hst k k').mono he hS
 refine CR.cons (ba hp k0) (CR.cons (ba hs k1) (CR.cons (g0u (hφ 0 (by omega)) (h2 0 (by omega)) k2) (CR.cons (g0u (hφ 1 (by omega)) (h2 1 (by omega)) k3) (CR.cons (g0u (hφ 2 (by omega)) (h2 2 (by omega)) k4)
  (CR.cons (g0u (hφ 3 (by omega)) (h2 3 (by omega)) k5) (CR.cons (g0u (hφ 4 (by omega)) (h2 4 (by omega)) k6) (CR.cons ?_ (CR.cons (r0u k8) (CR.cons ?_ (CR.cons (ba hp k10) (CR.cons (ba hs k11) (N0s h))))))))))))
 ·cases k7 with
  | func f a b a' b' g1 g2 g3 g4 =>
   refine .func _ _ _ _ _ g1 (fun i hi=>by simp at hi) g3 (fun i hi=>?_)
   have hi3:i < 3:=by simpa using hi
   match i,hi3 with
   | 0,_=>exact g0u (hφ 2 (by omega)) (h2 2 (by omega)) (by simpa using g4 0 (by simp))
   | 1,_=>exact g0u (hφ 3 (by omega)) (h2 3 (by omega)) (by simpa using g4 1 (by simp))
   | 2,_=>exact g0u (hφ 4 (by omega)) (h2 4 (by omega)) (by simpa using g4 2 (by simp))
 ·cases k9 with
  | agg a a' g1 g2=>exact .agg _ _ g1 (fun i hi=>by simp at hi)
theorem o0S {n:Nat} {B o:Nat→Nat} (k:Nat) (hk:k < 5):z0j φ n B o (n + k)=some (B k,o k):=by
 unfold z0j ad
 match k,hk with
 | 0,_=>rw [Z0F (by omega),Z0F (by omega),Z0F (by omega),Z0F (by omega),Z0I (by omega)]
 | 1,_=>rw [Z0F (by omega),Z0F (by omega),Z0F (by omega),Z0I (by omega)]
 | 2,_=>rw [Z0F (by omega),Z0F (by omega),Z0I (by omega)]
 | 3,_=>rw [Z0F (by omega),Z0I (by omega)]
 | 4,_=>rw [Z0I (by omega)]
theorem s0l {n b:Nat} {B o:Nat→Nat} (hb:b < n):z0j φ n B o b=φ b:=by
 unfold z0j ad;rw [Z0F (by omega),Z0F (by omega),Z0F (by omega),Z0F (by omega),Z0F (by omega)]
theorem G0R {n b:Nat} {B o:Nat→Nat} {x:Nat × Nat} (hb:n≤b) (h:z0j φ n B o b=some x):(∃ k,k < 5∧x=(B k,o k)) ∨ φ b=some x:=by
 unfold z0j ad at h
 split at h
 ·exact .inl ⟨4,by omega,by simpa using h.symm⟩
 split at h
 ·exact .inl ⟨3,by omega,by simpa using h.symm⟩
 split at h
 ·exact .inl ⟨2,by omega,by simpa using h.symm⟩
 split at h
 ·exact .inl ⟨1,by omega,by simpa using h.symm⟩
 split at h
 ·exact .inl ⟨0,by omega,by simpa using h.symm⟩
 exact .inr h
theorem G0Q (hR:Rel X φ H w) {w':World} (h:Pan X H.size φ H w w'):c0Z X H.size φ H w φ H w':=by
 have hold:∀ B,B < w.heap.size→w'.heap[B]? = w.heap[B]?:=fun B hB=>h.frame B hB fun b o e cs h1 h2=>by have:=hR.lt b _ h1;omega
 exact { ext := fun _ _ h => h
         rel:=hR.agree (Z0N hR.bs h.wsz) h.shp fun b B o ro e cs h1 h2=>hold B (hR.row_lt h1 h2)
         shp:=h.shp,wsz:=h.wsz,os:=h.os,tape:=h.tape,out:=h.out,hsz:=Z0E _,keep:=fun _ _=>rfl,kind:=fun b e cs _ h=>⟨cs,h⟩
         fresh:=fun b x h1 h2=>by rw [h1] at h2;cases h2
         newB:=fun b B o h1 h2=>by rw [h1] at h2;cases h2
         frame:=fun B hB _=>hold B hB }
theorem y0M (F:QF X.P) {φ':Inj} {w1 w2:World} {B o:Nat→Nat} (hR:Rel X φ H w) (O:T0D X F φ H w w1 B o) (hR1:Rel X φ H w1) (h2:c0Z X H.size φ H w1 φ' H' w2) :
  ∀ k,k < 5→∀ b o' ro e' cs',φ' b=some (B k,o')→H'.blk b ≠ .row ro e' cs':=by
 intro k hk b o' ro e' cs' hb hrow
 have h1:=O.lo k hk
 have h3:=O.hi k hk
 cases hφ:φ b with
 | none=>have:=h2.own_new hR1 hb hφ;omega
 | some x =>
  have:=h2.ext b x hφ
  rw [hb] at this;cases this
  cases ro with
  | true =>
   obtain ⟨c,el,fz,g1,g2,g3,g4,g5⟩:=h2.rel.row _ _ _ _ _ _ hb hrow
   have:=g5 rfl
   have:=O.base k hk
   omega
  | false =>
   obtain ⟨cs0,h5⟩:=h2.kind b e' cs' (hR.lt b _ hφ) hrow
   have:=hR.row_lt hφ h5
   omega
theorem u0a (F:QF X.P) {φ1 φ' φ4:Inj} {p s:Array Value} {w1 w2 w4:World} {H4:a0e} {B o:Nat→Nat} (hR:Rel X φ H w) (hfl:fl≤H.size) (hst:c0Z X H.size φ H w φ1 (hp5 F p s H) w1) (O:T0D X F φ H w w1 B o)
  (h2:c0Z X H.size φ H w1 φ' H' w2) (h3:c0Z X H'.size (z0j φ' H'.size B o) (f0M F H') w2 φ4 H4 w4):c0Z X fl φ H w φ' H' w4:=by
 have hR1:Rel X φ H w1:=hst.rel0 hR
 have hno:=y0M F hR O hR1 h2
 have hold4:∀ C,C < w2.heap.size→(∀ k,k < 5→C ≠ B k)→w4.heap[C]? = w2.heap[C]?:=by
  intro C hC hne
  refine h3.frame C hC fun b o' e cs hb hle _=>?_
  rcases G0R hle hb with ⟨k,hk,h⟩ | h
  ·simp at h;exact hne k hk h.1
  ·have:=h2.rel.lt b _ h;omega
 refine { ext:=h2.ext,rel:=?_,shp:=fun C x h=>h3.shp _ _ (h2.shp _ _ (hst.shp _ _ h)),wsz:=?_,os:=?_,tape:=?_,out:=?_,hsz:=h2.hsz,keep:=fun b hb=>h2.keep b (by omega),kind:=h2.kind,fresh:=h2.fresh,newB:=?_,frame:=?_ }
 ·exact h2.rel.agree (Z0N h2.rel.bs h3.wsz) h3.shp fun b C o' ro e cs h4 h5=>hold4 C (h2.rel.row_lt h4 h5) fun k hk he=>by
   subst he;exact hno k hk b o' ro e cs h4 h5
 ·have:=hst.wsz;have:=h2.wsz;have:=h3.wsz;omega
 ·rw [h3.os,h2.os,hst.os]
 ·rw [h3.tape,h2.tape,hst.tape]
 ·rw [h3.out,h2.out,hst.out]
 ·intro b C o' h4 h5
  have:=h2.own_new hR1 h4 h5
  have:=hst.wsz
  exact .inl (by omega)
 ·intro C hC _
  have h6:=hst.wsz
  have h7:=h2.wsz
  rw [hold4 C (by omega) (fun k hk he=>by have:=O.lo k hk;omega),h2.old hR1 (by omega),hst.old hR hC]
theorem k0x (F:QF X.P):(f0M F H).size=H.size + 5:=by simp [f0M]
theorem q0e (F:QF X.P):(f0M F H).blk (H.size + 2)=.row false F.tA F.zA:=by
 simp only [f0M,a0y,a1V]
 repeat (first | rw [Z0I (show _=_ by omega)] | rw [Z0F (show ¬ (_=_) by omega)])
 simp
theorem q0f (F:QF X.P):(f0M F H).blk (H.size + 3)=.row false F.tI [.int .i64 0]:=by
 simp only [f0M,a0y,a1V]
 repeat (first | rw [Z0I (show _=_ by omega)] | rw [Z0F (show ¬ (_=_) by omega)])
 simp
theorem q0g (F:QF X.P):(f0M F H).blk (H.size + 4)=.row false F.tB [.bool false]:=by
 simp only [f0M,a0y,a1V]
 repeat (first | rw [Z0I (show _=_ by omega)] | rw [Z0F (show ¬ (_=_) by omega)])
 simp
theorem n0Q:∀ (vs pre cs:List Value),cs.length=vs.length→b0r (pre ++ cs) pre.length vs=pre ++ vs
 | [],pre,cs,h=>by have:cs=[]:=a1c.1 h;simp [b0r,this]
 | v :: r,pre,c :: cs,h=>by
  simp only [a1s,Nat.add_right_cancel_iff] at h
  have h1:(pre ++ c :: cs).set pre.length v=(pre ++ [v]) ++ cs:=by
   simp [List.set_append]
  have:=n0Q r (pre ++ [v]) cs h
  simp only [b0r]
  rw [h1]
  simpa using this
theorem r0v {cs vs:List Value} (h:cs.length=vs.length):b0r cs 0 vs=vs:=by simpa using n0Q vs [] cs h
theorem j0E {G:a0e} {b:Nat} {e:TypeId} {cs vs:List Value} (hb:G.blk b=.row false e cs) (hf:fl≤b) (h:cs.length=vs.length) (hp:vs.all a0q=true):G.write? fl b 0 vs=some (G.setIfInBounds b (.row false e vs)):=by
 unfold a0e.write?
 rw [hb]
 simp only
 rw [Z0I ⟨hf,by omega,hp⟩,r0v h]
structure Q0M (t:a0W) (m:Nat):Prop where
 l:t.length=17
 a:get t 4=pt (m + 2)
 i:get t 5=pt (m + 3)
 b:get t 6=pt (m + 4)
theorem Z0x (F:QF X.P) {p s a:Array Value} {k:IntKind} {n:Int} (ha:a.size=F.zA.length) (hpl:a.toList.all a0q=true) :
  ∃ t' G,e0I call H'.size (q2b F.zA.length) (put (r0s F.fD p s H'.size) (some 12) (.tuple #[.agg a,.int k n])) (f0M F H')=.fin .normal t' G∧Q0M t' H'.size∧H'.size + 5≤G.size ∧
   G.blk (H'.size + 2)=.row false F.tA a.toList∧G.blk (H'.size + 3)=.row false F.tI [.int k n]∧G.blk (H'.size + 4)=.row false F.tB [.bool false]:=by
 have w1:(f0M F H').write? H'.size (H'.size + 2) 0 a.toList=some ((f0M F H').setIfInBounds (H'.size + 2) (.row false F.tA a.toList)):=j0E (q0e F) (by omega) (by simp [ha]) hpl
 have hsz:=k0x (H:=H') F
 have b3:a0e.blk ((f0M F H').setIfInBounds (H'.size + 2) (.row false F.tA a.toList)) (H'.size + 3)=.row false F.tI [.int .i64 0]:=by
  rw [a0T _ _ _ _ (by omega),Z0F (by omega)];exact q0f F
 have w2:a0e.write? ((f0M F H').setIfInBounds (H'.size + 2) (.row false F.tA a.toList)) H'.size (H'.size + 3) 0 [.int k n]=some (((f0M F H').setIfInBounds (H'.size + 2) (.row false F.tA a.toList)).setIfInBounds (H'.size + 3) (.row false F.tI [.int k n])) :=
  j0E b3 (by omega) rfl rfl
 refine ⟨put (put (put (put (r0s F.fD p s H'.size) (some 12) (.tuple #[.agg a,.int k n])) (some 8) (.tuple #[.agg a,.int k n])) (some 13) (.agg a)) (some 14) (.int k n),((f0M F H').setIfInBounds (H'.size + 2) (.row false F.tA a.toList)).setIfInBounds (H'.size + 3) (.row false F.tI [.int k n]),?_,?_,?_,?_,?_,?_⟩
 ·simp only [put,r0s,un,pt,List.replicate,b1J,b1d,List.set_cons_succ,List.set_cons_zero]
  simp [q2b,e0I,b0c,b0v,opA,ev,get,put,a0S,ha,w1,w2,b0z]
 ·exact ⟨by simp [put,r0s,un],by simp [put,get,r0s,un,List.replicate],by simp [put,get,r0s,un,List.replicate],by simp [put,get,r0s,un,List.replicate]⟩
 ·simp [hsz]
 ·rw [a0T _ _ _ _ (by simp;omega),Z0F (by omega),a0T _ _ _ _ (by omega),Z0I rfl]
 ·rw [a0T _ _ _ _ (by simp;omega),Z0I rfl]
 ·rw [a0T _ _ _ _ (by simp;omega),Z0F (by omega),a0T _ _ _ _ (by omega),Z0F (by omega)];exact q0g F
theorem I0T {G:a0e} {b:Nat} {e:TypeId} {cs:List Value} (hb:G.blk b=.row false e cs) (hn:cs.length ≠ 0):b0o G true cs.length (pt b)=some (.agg cs.toArray):=by
 have h2:G.cells? b 0 cs.length=some cs:=by
  unfold a0e.cells?;rw [hb];simp only [a1i,b1n];rw [Z0I (Z0E _),Z0R (Z0E _)]
 simp [b0o,pt,hn,h2]
theorem y0x {G:a0e} {b:Nat} {e:TypeId} {v:Value} (hb:G.blk b=.row false e [v]):b0o G false 1 (pt b)=some v:=by
 have h2:G.cells? b 0 1=some [v]:=by unfold a0e.cells?;rw [hb];simp
 simp [b0o,pt,h2]
theorem Z0w (F:QF X.P) {t:a0W} {G:a0e} {m:Nat} {a:List Value} {k:IntKind} {n:Int} {bef:List Nat} (L:Q0M t m) (ha:a.length=F.zA.length) (hpl:a.all a0q=true)
  (b2:G.blk (m + 2)=.row false F.tA a) (b3:G.blk (m + 3)=.row false F.tI [.int k n]) (b4:G.blk (m + 4)=.row false F.tB [.bool false]) :
  ∃ t' G',a0Y call m 1 (.draw (q3 F.zA.length) bef [(1,2)]) t G=.fin .normal t' G'∧Q0M t' m ∧
   G'.blk (m + 2)=.row false F.tA a∧G'.blk (m + 3)=.row false F.tI [.int k n]∧G'.blk (m + 4)=.row false F.tB [.bool true]:=by
 have hnz:=F.nz
 have l1:=I0T b2 (by omega)
 rw [ha] at l1
 have l2:=y0x b3
 have w1:=j0E (fl:=m) b2 (by omega) rfl hpl
 have s2:=a0g b2
 have s3:=a0g b3
 have s4:=a0g b4
 have c3:a0e.blk (G.setIfInBounds (m + 2) (.row false F.tA a)) (m + 3)=.row false F.tI [.int k n]:=by rw [a0T _ _ _ _ s2,Z0F (by omega)];exact b3
 have w2:=j0E (fl:=m) (vs:=[.int k n]) c3 (by omega) rfl rfl
 have c4:a0e.blk ((G.setIfInBounds (m + 2) (.row false F.tA a)).setIfInBounds (m + 3) (.row false F.tI [.int k n])) (m + 4)=.row false F.tB [.bool false]:=by
  rw [a0T _ _ _ _ (by simpa using s3),Z0F (by omega),a0T _ _ _ _ s2,Z0F (by omega)];exact b4
 have w3:=j0E (fl:=m) (vs:=[.bool true]) c4 (by omega) rfl rfl
 have hl:=L.l
 have g4:∀ v u:Value,get (put (put t (some 15) v) (some 16) u) 4=pt (m + 2):=fun v u=>by
  have:=L.a;simp only [get,put,Z0C,a1l] at this ⊢;simpa using this
 have g5:∀ v u:Value,get (put (put t (some 15) v) (some 16) u) 5=pt (m + 3):=fun v u=>by
  have:=L.i;simp only [get,put,Z0C,a1l] at this ⊢;simpa using this
 have g6:∀ v u:Value,get (put (put t (some 15) v) (some 16) u) 6=pt (m + 4):=fun v u=>by
  have:=L.b;simp only [get,put,Z0C,a1l] at this ⊢;simpa using this
 have g15:∀ v u:Value,get (put (put t (some 15) v) (some 16) u) 15=v:=fun v u=>by
  simp [get,put,a1l,hl]
 have g16:∀ v u:Value,get (put (put t (some 15) v) (some 16) u) 16=u:=fun v u=>by
  simp [get,put,a1l,hl]
 have g51:∀ v:Value,get (put t (some 15) v) 5=pt (m + 3):=fun v=>by
  have:=L.i;simp only [get,put,Z0C,a1l] at this ⊢;simpa using this
 refine ⟨put (put t (some 15) (.agg a.toArray)) (some 16) (.int k n),((G.setIfInBounds (m + 2) (.row false F.tA a)).setIfInBounds (m + 3) (.row false F.tI [.int k n])).setIfInBounds (m + 4) (.row false F.tB [.bool true]),?_,⟨by simp [put,hl],g4 _ _,g5 _ _,g6 _ _⟩,?_,?_,?_⟩
 ·have o15:b0v call m t G (.load true F.zA.length (.tmp 4))=.ok (.agg a.toArray,G):=by simp [b0v,opA,ev,L.a,l1,b0z]
  have o16:b0v call m (put t (some 15) (.agg a.toArray)) G (.load false 1 (.tmp 5))=.ok (.int k n,G):=by simp [b0v,opA,ev,g51,l2,b0z]
  have st1:b0v call m (put (put t (some 15) (.agg a.toArray)) (some 16) (.int k n)) G (.store F.zA.length (.tmp 4) (.tmp 15))=.ok (undef,G.setIfInBounds (m + 2) (.row false F.tA a)):=by
   simp only [b0v,opA,ev,g4,g15,pt,a0S,ha,List.toList_toArray];simp [w1]
  have st2:b0v call m (put (put t (some 15) (.agg a.toArray)) (some 16) (.int k n)) (G.setIfInBounds (m + 2) (.row false F.tA a)) (.store 1 (.tmp 5) (.tmp 16))=.ok (undef,(G.setIfInBounds (m + 2) (.row false F.tA a)).setIfInBounds (m + 3) (.row false F.tI [.int k n])):=by
   simp only [b0v,opA,ev,g5,g16,pt,a0S];simp [w2]
  have st3:b0v call m (put (put t (some 15) (.agg a.toArray)) (some 16) (.int k n)) ((G.setIfInBounds (m + 2) (.row false F.tA a)).setIfInBounds (m + 3) (.row false F.tI [.int k n])) (.store 1 (.tmp 6) (.const (.bool true))) =
    .ok (undef,((G.setIfInBounds (m + 2) (.row false F.tA a)).setIfInBounds (m + 3) (.row false F.tI [.int k n])).setIfInBounds (m + 4) (.row false F.tB [.bool true])):=by
   simp only [b0v,opA,ev,g6,pt,a0S];simp [w3]
  have pn:∀ (t:a0W) (v:Value),put t none v=t:=fun _ _=>rfl
  have tc1:c0O (put t (some 15) (.agg a.toArray)) (.load false 1 (.tmp 5))=([m + 3],[]):=by simp [c0O,ev,g51,pt,blkOf]
  have tc2:c0O (put (put t (some 15) (.agg a.toArray)) (some 16) (.int k n)) (.store F.zA.length (.tmp 4) (.tmp 15))=([],[m + 2]):=by simp only [c0O,ev,g4];simp [pt,blkOf]
  simp only [a0Y,q3,b0M,g0m,b0c,Z0V,a1v,a1p,o15,o16,st1,st2,st3,pn,tc1,tc2]
  simp [c0E,q0D]
 ·rw [a0T _ _ _ _ (by simpa using s4),Z0F (by omega),a0T _ _ _ _ (by simpa using s3),Z0F (by omega),a0T _ _ _ _ s2,Z0I rfl]
 ·rw [a0T _ _ _ _ (by simpa using s4),Z0F (by omega),a0T _ _ _ _ (by simpa using s3),Z0I rfl]
 ·rw [a0T _ _ _ _ (by simpa using s4),Z0I rfl]
theorem Z0y (F:QF X.P) {t:a0W} (hl:t.length=6) (h0:get t 0=pt (H.size + 2)) (h1:get t 1=pt (H.size + 3)) (h2:get t 2=pt (H.size + 4)) :
  ∃ t' G',a0Y call H.size 1 (.reg (qB F.zA.length F.zA)) t (f0M F H)=.fin .normal t' G' ∧
   G'.blk (H.size + 2)=.row false F.tA F.zA∧G'.blk (H.size + 3)=.row false F.tI [.int .i64 0]∧G'.blk (H.size + 4)=.row false F.tB [.bool false]:=by
 have b2:=q0e (H:=H) F
 have b3:=q0f (H:=H) F
 have b4:=q0g (H:=H) F
 have s2:=a0g b2
 have s3:=a0g b3
 have s4:=a0g b4
 have w1:=j0E (fl:=H.size) b2 (by omega) rfl F.zp
 have c3:a0e.blk ((f0M F H).setIfInBounds (H.size + 2) (.row false F.tA F.zA)) (H.size + 3)=.row false F.tI [.int .i64 0]:=by rw [a0T _ _ _ _ s2,Z0F (by omega)];exact b3
 have w2:=j0E (fl:=H.size) (vs:=[.int .i64 0]) c3 (by omega) rfl rfl
 have c4:a0e.blk (((f0M F H).setIfInBounds (H.size + 2) (.row false F.tA F.zA)).setIfInBounds (H.size + 3) (.row false F.tI [.int .i64 0])) (H.size + 4)=.row false F.tB [.bool false]:=by
  rw [a0T _ _ _ _ (by simpa using s3),Z0F (by omega),a0T _ _ _ _ s2,Z0F (by omega)];exact b4
 have w3:=j0E (fl:=H.size) (vs:=[.bool false]) c4 (by omega) rfl rfl
 have g0:∀ v:Value,get (put t (some 5) v) 0=pt (H.size + 2):=fun v=>by simp only [get,put,Z0C,a1l] at h0 ⊢;simpa using h0
 have g1:∀ v:Value,get (put t (some 5) v) 1=pt (H.size + 3):=fun v=>by simp only [get,put,Z0C,a1l] at h1 ⊢;simpa using h1
 have g2:∀ v:Value,get (put t (some 5) v) 2=pt (H.size + 4):=fun v=>by simp only [get,put,Z0C,a1l] at h2 ⊢;simpa using h2
 have g5:∀ v:Value,get (put t (some 5) v) 5=v:=fun v=>by simp [get,put,a1l,hl]
 refine ⟨put t (some 5) (.agg F.zA.toArray),(((f0M F H).setIfInBounds (H.size + 2) (.row false F.tA F.zA)).setIfInBounds (H.size + 3) (.row false F.tI [.int .i64 0])).setIfInBounds (H.size + 4) (.row false F.tB [.bool false]),?_,?_,?_,?_⟩
 ·have o5:b0v call H.size t (f0M F H) (.build F.zA [])=.ok (.agg F.zA.toArray,f0M F H):=by simp [b0v,opA,b0u,f0Z,b0z]
  have st1:b0v call H.size (put t (some 5) (.agg F.zA.toArray)) (f0M F H) (.store F.zA.length (.tmp 0) (.tmp 5))=.ok (undef,(f0M F H).setIfInBounds (H.size + 2) (.row false F.tA F.zA)):=by
   simp only [b0v,opA,ev,g0,g5,pt,a0S,List.toList_toArray];simp [w1]
  have st2:b0v call H.size (put t (some 5) (.agg F.zA.toArray)) ((f0M F H).setIfInBounds (H.size + 2) (.row false F.tA F.zA)) (.store 1 (.tmp 1) (.const (.int .i64 0))) =
    .ok (undef,((f0M F H).setIfInBounds (H.size + 2) (.row false F.tA F.zA)).setIfInBounds (H.size + 3) (.row false F.tI [.int .i64 0])):=by
   simp only [b0v,opA,ev,g1,pt,a0S];simp [w2]
  have st3:b0v call H.size (put t (some 5) (.agg F.zA.toArray)) (((f0M F H).setIfInBounds (H.size + 2) (.row false F.tA F.zA)).setIfInBounds (H.size + 3) (.row false F.tI [.int .i64 0])) (.store 1 (.tmp 2) (.const (.bool false))) =
    .ok (undef,(((f0M F H).setIfInBounds (H.size + 2) (.row false F.tA F.zA)).setIfInBounds (H.size + 3) (.row false F.tI [.int .i64 0])).setIfInBounds (H.size + 4) (.row false F.tB [.bool false])):=by
   simp only [b0v,opA,ev,g2,pt,a0S];simp [w3]
  have pn:∀ (t:a0W) (v:Value),put t none v=t:=fun _ _=>rfl
  simp only [a0Y,qB,e0I,b0c,a1p,o5,st1,st2,st3,pn]
 ·rw [a0T _ _ _ _ (by simpa using s4),Z0F (by omega),a0T _ _ _ _ (by simpa using s3),Z0F (by omega),a0T _ _ _ _ s2,Z0I rfl]
 ·rw [a0T _ _ _ _ (by simpa using s4),Z0F (by omega),a0T _ _ _ _ (by simpa using s3),Z0I rfl]
 ·rw [a0T _ _ _ _ (by simpa using s4),Z0I rfl]
theorem l0G (F:QF X.P) (ρ:Operand→Value) (w:World):(execOp ρ F.oA1).run X.P w=.ok .recover w:=by
 unfold execOp;rw [F.oA1o];rfl
theorem G0o (F:QF X.P) {cap:Array Value} (hc:cap.size=3):CallsD X.P F.fD cap .returning w fun e u' w'=>(∃ v,e=.returned v)∧u' = .returning∧w' = w:=by
 refine callsD_of_wpS F.hfnD F.bodyD ?_
 intro c0 cs hu
 refine wpS_seq (wpS_region ?_)
 have hsz:(cap ++ Array.replicate (F.fnD.ntmps - cap.size) undef).size=6:=by simp [hc,F.ntD]
 rw [show List.range F.opsA.size=[0,1] by rw [F.hA];rfl]
 unfold wpOpsS
 rw [show F.opsA[0]? = some F.oA1 by rw [F.hA];rfl]
 simp only [Region.wanted,F.oA1g,a1p,l0G]
 have hrec:recoverD (c0 :: cs)=none:=by simp [recoverD,hu]
 rw [hrec]
 simp only
 unfold wpOpsS
 rw [show F.opsA[1]? = some F.oA2 by rw [F.hA];rfl]
 simp only [Region.wanted,F.oA2g,a1p]
 generalize ha:({ tmps:=cap ++ Array.replicate (F.fnD.ntmps - cap.size) undef,defers:=[] }:Act).put F.oA1.dst .nilIface=a1
 have hsz1:a1.tmps.size=6:=by rw [← ha,F.oA1d];simp [Act.put,hsz]
 have hd1:a1.defers=[]:=by rw [← ha];cases F.oA1.dst <;> rfl
 have h3:a1.eval (.tmp 3)=.nilIface:=by
  rw [← ha,F.oA1d]
  simp [Act.put,Act.eval,Z0O,a1j,hsz]
 rw [F.oA2f a1.eval w h3 rfl]
 simp only [Oper.upon]
 unfold wpOpsS
 show (Code.cond (.tmp 4) (.region F.iB F.opsB false) .skip).wpS X.P _ _ _ _
 refine wpS_cond (t:=false) ?_ ?_
 ·rw [F.oA2d];simp [Act.put,Act.eval,Z0O,a1j,hsz1]
 ·simp only [Z0V,a1v]
  refine wpS_of_wp (wp_skip ?_)
  refine ⟨by rw [c0t];exact hd1,c0.mode,rfl,.tuple #[],?_,⟨⟨_,rfl⟩,hu,rfl⟩⟩
  simp [results,F.resD]
theorem G0n (F:QF X.P) (hcall:d0N X call) (hdraw:p0R X call) {φ2:Inj} {v:Value} {ty:TypeId} {u:Value} (hv:v=.iface ty u) {cap:Array Value} (hR:Rel X φ2 (f0M F H) w)
  (hc:CR X φ2 w.shape? [pt (H.size + 2),pt (H.size + 3),pt (H.size + 4)] cap.toList) :
  CallsD X.P F.fD cap (.panicking [{ v,recovered:=false }]) w fun e u' w'=>(∃ x,e=.returned x)∧u' = .panicking [{ v,recovered:=true }]∧∃ φ4 G',c0Z X H.size φ2 (f0M F H) w φ4 G' w' ∧
   G'.blk (H.size + 2)=.row false F.tA F.zA∧G'.blk (H.size + 3)=.row false F.tI [.int .i64 0]∧G'.blk (H.size + 4)=.row false F.tB [.bool false]:=by
 refine callsD_of_wpS F.hfnD F.bodyD ?_
 intro c0 cs hu
 refine wpS_seq (wpS_region ?_)
 have hcs:cap.size=3:=by have:=hc.1;simpa using this.symm
 have hsz:(cap ++ Array.replicate (F.fnD.ntmps - cap.size) undef).size=6:=by simp [hcs,F.ntD]
 rw [show List.range F.opsA.size=[0,1] by rw [F.hA];rfl]
 unfold wpOpsS
 rw [show F.opsA[0]? = some F.oA1 by rw [F.hA];rfl]
 simp only [Region.wanted,F.oA1g,a1p,l0G]
 have hrec:recoverD (c0 :: cs)=some (v,{ c0 with mode:=.panicking ({ v,recovered:=true } :: []) } :: cs):=by simp [recoverD,hu]
 rw [hrec]
 simp only
 unfold wpOpsS
 rw [show F.opsA[1]? = some F.oA2 by rw [F.hA];rfl]
 simp only [Region.wanted,F.oA2g,a1p]
 have hT0:CR X φ2 w.shape? ([pt (H.size + 2),pt (H.size + 3),pt (H.size + 4)] ++ un 3) (cap ++ Array.replicate (F.fnD.ntmps - cap.size) undef).toList:=by
  rw [b1F,Array.toList_replicate,hcs,F.ntD]
  exact hc.append (CR.cons VR.undef (CR.cons VR.undef (CR.cons VR.undef CR.nil)))
 generalize ha0:({ tmps:=cap ++ Array.replicate (F.fnD.ntmps - cap.size) undef,defers:=[] }:Act)=a0
 have hs0:a0.tmps.size=6:=by rw [← ha0];exact hsz
 have hd0:a0.defers=[]:=by rw [← ha0]
 have hT0':CR X φ2 w.shape? ([pt (H.size + 2),pt (H.size + 3),pt (H.size + 4)] ++ un 3) a0.tmps.toList:=by rw [← ha0];exact hT0
 have h3:(a0.put F.oA1.dst v).eval (.tmp 3)=.iface ty u:=by
  rw [F.oA1d]
  simp [Act.put,Act.eval,Z0O,a1j,hs0,hv]
 rw [F.oA2t (a0.put F.oA1.dst v).eval w ty u h3 rfl]
 simp only [Oper.upon]
 unfold wpOpsS
 show (Code.cond (.tmp 4) (.region F.iB F.opsB false) .skip).wpS X.P _ _ _ _
 refine wpS_cond (t:=true) ?_ ?_
 ·rw [F.oA2d,F.oA1d];simp [Act.put,Act.eval,Z0O,a1j,hs0]
 ·simp only [a1p]
  have hcB:=F.cB
  simp only [d0P,Z0J,Z0D,Z0K,Z0G,SCode.reg.injEq] at hcB
  obtain ⟨l,hl,hlq⟩:=hcB
  subst hlq
  have hlen:F.opsB.size=(qB F.zA.length F.zA).length:=by rw [h0X hl];simp
  obtain ⟨t',G',e1,g2,g3,g4⟩:=Z0y (call:=call) (H:=H) F (t:=put ([pt (H.size + 2),pt (H.size + 3),pt (H.size + 4)] ++ un 3) (some 4) (.bool true)) (by simp [put,un]) (by simp [put,get,un,List.replicate]) (by simp [put,get,un,List.replicate]) (by simp [put,get,un,List.replicate])
  simp only [a0Y] at e1
  refine wpS_of_wp (wp_region ?_)
  rw [List.range_eq_range',hlen]
  have hT1:CR X φ2 w.shape? (put ([pt (H.size + 2),pt (H.size + 3),pt (H.size + 4)] ++ un 3) (some 4) (.bool true)) (a0.put (some 4) (.bool true)).tmps.toList:=h0C hT0' (.bool true) (some 4)
  refine r0i hcall (j:=3) F.blB (qB F.zA.length F.zA) 0 _ (f0M F H) φ2 w (a0.put (some 4) (.bool true)) _ (fun i s hi=>?_) hR hT1 (by rw [k0x];omega) ?_ ?_ e1 ?_
  ·refine ⟨?_,?_⟩
   ·unfold qB at hi
    match i,hi with
    | 0,hi=>simp at hi;rw [← hi]
    | 1,hi=>simp at hi;rw [← hi]
    | 2,hi=>simp at hi;rw [← hi]
    | 3,hi=>simp at hi;rw [← hi]
    | i + 4,hi=>simp at hi
   ·obtain ⟨x,h1,h2⟩:=j0Y hl i s hi
    exact ⟨x,by simpa using h1,h2⟩
  ·intro i hi
   rw [F.oA2d,F.oA1d]
   simp only [Act.put,Z0O,a1j]
   by_cases h4:4=i
   ·subst h4;simp [hs0]
   ·simp [h4,show ¬ 3=i by omega]
  ·rw [F.oA2d,F.oA1d];simp [Act.put]
  ·intro φ4 b' w' hst hd
   refine ⟨?_,.panicking [{ v,recovered:=true }],rfl,.tuple #[],?_,⟨_,rfl⟩,rfl,φ4,G',hst,g2,g3,g4⟩
   ·rw [hd,c0t,c0t];exact hd0
   ·simp [results,F.resD]
end
section
open Go
variable {X:Cx} {call:Nat→FuncId→List Value→a0e→Res (Value × a0e)} {φ:Inj} {H H':a0e} {w:World} {fl:Nat}
theorem F0l (F:QF X.P) {t:a0W} {G:a0e} {m:Nat} {a:List Value} {k:IntKind} {n:Int} {b:Bool} (L:Q0M t m) (ha:a.length=F.zA.length)
  (b2:G.blk (m + 2)=.row false F.tA a) (b3:G.blk (m + 3)=.row false F.tI [.int k n]) (b4:G.blk (m + 4)=.row false F.tB [.bool b]) :
  e0r G t [.cell 4 true F.zA.length,.cell 5 false 1,.cell 6 false 1]=some [.agg a.toArray,.int k n,.bool b]:=by
 have hnz:=F.nz
 have l1:=I0T b2 (by omega)
 rw [ha] at l1
 simp only [e0r,p0Q,L.a,L.i,L.b,l1,y0x b3,y0x b4]
theorem l0H (F:QF X.P) {t:a0W} {G:a0e} {φ4:Inj} {w4:World} {a:Act} {vs:List Value} (hR:Rel X φ4 G w4) (hT:CR X φ4 w4.shape? t a.tmps.toList)
  (hv:e0r G t [.cell 4 true F.zA.length,.cell 5 false 1,.cell 6 false 1]=some vs):∃ v',(results F.fn a.tmps).run X.P w4=.ok v' w4∧VR X φ4 w4.shape? (d0c vs) v':=by
 obtain ⟨vs',hcr,hrun⟩:=F0m F.res hv hR hT
 refine ⟨_,?_,u0q hcr⟩
 have e1:results F.fn a.tmps=(do let vs ← F.fn.results.mapM (l0C a.tmps);pure (if h:vs.size=1 then vs[0] else .tuple vs)):=rfl
 rw [e1,c1b]
 simp only [Sem.run_bind,Sem.run_map,hrun]
 rfl
theorem Y0i {S:Shp} {a b c v:Value} (h:VR X φ S (.tuple #[a,b,c]) v):∃ a' b' c',v=.tuple #[a',b',c']∧VR X φ S a a'∧VR X φ S b b'∧VR X φ S c c':=by
 cases h with
 | tuple _ m h1 h2 =>
  have h:CR X φ S [a,b,c] m.toList:=VR.tuple_iff.1 (.tuple _ m h1 h2)
  obtain ⟨a',r,e1,ka,h⟩:=h.cons_left
  obtain ⟨b',r,rfl,kb,h⟩:=h.cons_left
  obtain ⟨c',r,rfl,kc,h⟩:=h.cons_left
  obtain rfl:=h.nil_left
  exact ⟨a',b',c',by rw [show m = #[a',b',c'] from Array.toList_inj.1 e1],ka,kb,kc⟩
theorem F0G {S:Shp} {a b c a' b' c':Value} (ka:VR X φ S a a') (kb:VR X φ S b b') (kc:VR X φ S c c'):VR X φ S (.tuple #[a,b,c]) (.tuple #[a',b',c']) :=
 VR.tuple_iff.2 (CR.cons ka (CR.cons kb (CR.cons kc CR.nil)))
theorem y0t {φ':Inj} {S S':Shp} {k:IntKind} {n:Int} {u:Value} (h:VR X φ S (.int k n) u):VR X φ' S' (.int k n) u:=by cases h;exact .int _ _
theorem t0R {φ':Inj} {S S':Shp} {b:Bool} {u:Value} (h:VR X φ S (.bool b) u):VR X φ' S' (.bool b) u:=by cases h;exact .bool _
theorem w0A (F:QF X.P) (hcall:d0N X call) (hdraw:p0R X call) (hnp:F.nL ≠ 0) (hns:F.nS ≠ 0) :
  d0N X fun fl f args H=>if f=F.fQ then match args with | [.agg p,.agg s]=>(if p.size=F.nL∧s.size=F.nS then d0E F.zA H (call (max fl H.size) F.fS [.agg #[],.agg p,.agg s] H) else .bad) | _=>.bad else .bad:=by
 intro fl f args H φ w args' hR hA hfl
 refine And.intro ?_ ?_
 case refine_2 =>
  intro v he
  exfalso
  simp only at he
  split at he
  ·split at he
   ·split at he
    ·unfold d0E at he
     split at he
     ·cases he
     ·cases he
     ·cases he
     ·split at he
      ·split at he <;> cases he
      ·cases he
     ·cases he
    ·cases he
   ·cases he
  ·cases he
 intro v H' he
 simp only at he
 split at he
 case isFalse=>cases he
 rename_i hf
 subst hf
 split at he
 case h_2=>cases he
 rename_i p s
 split at he
 case isFalse=>cases he
 rename_i hsz
 rw [show max fl H.size=H.size by omega] at he
 obtain ⟨u0,r,hl0,hp0,hA1⟩:=hA.cons_left
 obtain ⟨u1,r,rfl,hs0,hA2⟩:=hA1.cons_left
 obtain rfl:=hA2.nil_left
 have has:args'.size=2:=by have:=congrArg List.length hl0;simpa using this
 refine ⟨F.hrun,calls_of_wp_defers F.hfn F.body ?_⟩
 -- region 0
 generalize ha0:({ tmps:=args' ++ Array.replicate (F.fn.ntmps - args'.size) undef,defers:=[] }:Act)=a0
 have hd0:a0.defers=[]:=by rw [← ha0]
 have hT0:CR X φ w.shape? ([.agg p,.agg s] ++ un 15) a0.tmps.toList:=by
  rw [← ha0,has,F.nt,b1F,Array.toList_replicate]
  refine hA.append ?_
  show CR X φ w.shape? (un 15) (List.replicate 15 undef)
  unfold un
  generalize 15=m
  induction m with
  | zero=>exact CR.nil
  | succ m ih=>exact CR.cons VR.undef ih
 refine wp_seq (wp_mono (d0X hcall hdraw 1 _ _ H.size _ H φ w a0 F.c0 hR hT0 (Z0E _) hd0 (by rw [Y0f];simp)).wp ?_)
 intro e a1 w1 hp
 rw [Y0f F p s] at hp
 obtain ⟨rfl,hd1,φ1,hT1,hst1⟩:=hp
 -- region 1
 show (Code.seq _ _).wp _ _ a1 w1
 refine wp_seq (wp_region ?_)
 rw [show List.range F.ops1.size=List.range' 0 (q1 F.fD).length ++ [1] by rw [F.h1];rfl]
 refine p0y hcall (fl:=H.size) (q1 F.fD) 0 _ (hp5 F p s H) φ1 w1 a1 (fun i s hi=>?_) hst1.rel hT1 (by rw [u0e];omega) (Z0u p s) ?_
 ·unfold q1 at hi
  match i,hi with
  | 0,hi=>simp at hi;subst hi;exact ⟨F.o1,by rw [F.h1];rfl,F.o1c⟩
  | i + 1,hi=>simp at hi
 intro φ2 a2 w2 hT2 hst2 hd2
 have hst02:=hst1.trans hst2 (Z0E _) hR
 unfold wpOps
 rw [show F.ops1[1]? = some F.o2 by rw [F.h1];rfl]
 simp only [Region.wanted,F.o2g,a1p]
 refine .inl ?_
 have h7:=hT2.get 7
 rw [show (tm7 F.fD p s H.size).getD 7 undef=.func (.func F.fD) #[] #[pt (H.size + 2),pt (H.size + 3),pt (H.size + 4)] from rfl,← a0O] at h7
 generalize hu7:a2.tmps.getD 7 undef=u7 at h7
 cases h7 with
 | func _ _ _ a' cap g1 g2 g3 g4 =>
 have ha':a' = #[]:=by simpa using g1.symm
 subst ha'
 have hdef:(execOp a2.eval F.o2).run X.P w2=.ok (.defer { target:=.fn (.func F.fD) cap,args:=#[] }) w2:=by
  have:a2.eval (.tmp 7)=.func (.func F.fD) #[] cap:=hu7
  simp [execOp,F.o2o,resolve,Deferred.ofValue,this]
 unfold Oper.wp
 rw [hdef,Oper.upon_defer,F.o2d]
 unfold wpOps
 have hcap:cap.size=3:=by have:=g3;simpa using this.symm
 -- region 2
 generalize hD:([{ target:=.fn (.func F.fD) cap,args:=#[] }]:List Deferred)=D
 generalize ha3:({ a2 with defers:={ target:=.fn (.func F.fD) cap,args:=#[] } :: a2.defers }:Act).put none undef=a3
 have hd3:a3.defers=D:=by rw [← ha3,← hD];show _ :: a2.defers=_;rw [hd2,hd1]
 have ht3:a3.tmps=a2.tmps:=by rw [← ha3];rfl
 show (Code.seq _ _).wp _ _ a3 w2
 refine wp_seq (wp_region ?_)
 have hc2:=F.c2
 simp only [d0P,Z0J,Z0D,Z0K,Z0G,SCode.reg.injEq] at hc2
 obtain ⟨l2,hl2,hlq⟩:=hc2
 subst hlq
 have hlen2:F.ops2.size=9:=by have:=h0X hl2;simp [q2a,q2b] at this;omega
 rw [show List.range F.ops2.size=List.range' 0 (q2a F.nL F.nS).length ++ (3 :: List.range' 4 (q2b F.zA.length).length) by rw [hlen2];rfl]
 have hget2:=j0Y hl2
 refine p0y hcall (fl:=H.size) (q2a F.nL F.nS) 0 _ (hp5 F p s H) φ2 w2 a3 (fun i s hi=>?_) hst2.rel (by rw [ht3];exact hT2) (by rw [u0e];omega) (Z0v F hsz.1 hsz.2 hnp hns) ?_
 ·obtain ⟨x,h1,h2⟩:=hget2 i s (by
   have hlt:i < (q2a F.nL F.nS).length:=(Z0Y.1 hi).1
   rw [a1q hlt];exact hi)
  exact ⟨x,by simpa using h1,h2⟩
 intro φ3 a4 w3 hT3 hst3 hd4
 have hst03:=hst02.trans hst3 (Z0E _) hR
 have hR3:Rel X φ H w3:=hst03.rel0 hR
 have hd4':a4.defers=D:=hd4.trans hd3
 -- where the own blocks lie
 have hown:∀ k,k < 5→∃ x,φ3 (H.size + k)=some x:=by
  intro k hk
  have h:=hT3.get (k + 2)
  have e:(r0s F.fD p s H.size).getD (k + 2) undef=pt (H.size + k):=by
   match k,hk with
   | 0,_=>rfl
   | 1,_=>rfl
   | 2,_=>rfl
   | 3,_=>rfl
   | 4,_=>rfl
  rw [e] at h
  unfold pt at h
  generalize a4.tmps.toList.getD (k + 2) undef=u at h
  cases h with
  | ptr _ _ B o h1 h2 h3=>exact ⟨_,h2⟩
 obtain ⟨B,o,hφ⟩:∃ B o:Nat→Nat,∀ k,k < 5→φ3 (H.size + k)=some (B k,o k) :=
  ⟨fun k=>((φ3 (H.size + k)).getD (0,0)).1,fun k=>((φ3 (H.size + k)).getD (0,0)).2,fun k hk=>by obtain ⟨x,hx⟩:=hown k hk;simp [hx]⟩
 have O:=S0x F hR hst03 hφ
 have hφ2:∀ k,k < 5→φ2 (H.size + k)=some (B k,o k):=by
  intro k hk
  have h:=hT2.get (k + 2)
  have e:(tm7 F.fD p s H.size).getD (k + 2) undef=pt (H.size + k):=by
   match k,hk with
   | 0,_=>rfl
   | 1,_=>rfl
   | 2,_=>rfl
   | 3,_=>rfl
   | 4,_=>rfl
  rw [e] at h
  unfold pt at h
  generalize a2.tmps.toList.getD (k + 2) undef=u at h
  cases h with
  | ptr _ _ B' o' h1 h2 h3=>rw [h2,← hst3.ext _ _ h2,hφ k hk]
 have hcapG:∀ (φ':Inj) (S:Shp) (m:Nat),(∀ k,k < 5→φ' (m + k)=some (B k,o k))→CR X φ' S [pt (m + 2),pt (m + 3),pt (m + 4)] cap.toList:=by
  intro φ' S m h
  refine ⟨by simp [hcap],fun i hi=>?_⟩
  rw [← a0O]
  have hi3:i < 3:=by simpa using hi
  match i,hi3 with
  | 0,_=>exact g0u (hφ2 2 (by omega)) (h 2 (by omega)) (by simpa using g4 0 (by simp))
  | 1,_=>exact g0u (hφ2 3 (by omega)) (h 3 (by omega)) (by simpa using g4 1 (by simp))
  | 2,_=>exact g0u (hφ2 4 (by omega)) (h 4 (by omega)) (by simpa using g4 2 (by simp))
 -- the call
 unfold wpOps
 rw [F.o3i]
 simp only [Region.wanted,F.o3g,a1p]
 refine .inl ?_
 have h9:=hT3.get 9
 have h10:=hT3.get 10
 have h11:=hT3.get 11
 rw [show (r0s F.fD p s H.size).getD 9 undef=.agg #[] from rfl,← a0O] at h9
 rw [show (r0s F.fD p s H.size).getD 10 undef=.agg p from rfl,← a0O] at h10
 rw [show (r0s F.fD p s H.size).getD 11 undef=.agg s from rfl,← a0O] at h11
 have hargs:CR X φ w3.shape? [.agg #[],.agg p,.agg s] (#[a4.tmps.getD 9 undef,a4.tmps.getD 10 undef,a4.tmps.getD 11 undef]:Array Value).toList:=by
  refine CR.cons ?_ (CR.cons (VR.back hR hst03 hp0 h10) (CR.cons (VR.back hR hst03 hs0 h11) CR.nil))
  generalize a4.tmps.getD 9 undef=u at h9
  cases h9 with
  | agg _ a' g1 g2=>exact .agg _ _ g1 (fun i hi=>by simp at hi)
 have hcl:=hcall H.size F.fS [.agg #[],.agg p,.agg s] H φ w3 #[a4.tmps.getD 9 undef,a4.tmps.getD 10 undef,a4.tmps.getD 11 undef] hR3 hargs (Z0E _)
 have hex:(execOp a4.eval F.o3).run X.P w3=(callFunc F.fS #[a4.tmps.getD 9 undef,a4.tmps.getD 10 undef,a4.tmps.getD 11 undef]).run X.P w3:=by
  unfold execOp
  rw [F.o3o]
  simp [resolve,Deferred.ofValue,invoke,Act.eval]
 unfold Oper.wp
 rw [hex]
 cases hcr:call H.size F.fS [.agg #[],.agg p,.agg s] H with
 | bad=>rw [hcr] at he;simp [d0E] at he
 | pan v0 =>
  rw [hcr] at he
  obtain ⟨⟨ty,u,rfl⟩,hruns,hcalls⟩:=hcl.2 v0 hcr
  simp only [d0E,Res.ok.injEq,b1s] at he
  obtain ⟨rfl,rfl⟩:=he
  rw [d0u hruns]
  refine Calls.mono hcalls ?_
  rintro e w4 ⟨⟨ty',u',rfl⟩,hpan⟩
  have hst4:=G0Q hR3 hpan
  have hold:∀ k,k < 5→w4.heap[B k]? = w3.heap[B k]?:=fun k hk=>hst4.old hR3 (O.hi k hk)
  have r5:=q0H F O hst4.rel hold (y0M F hR O hR3 hst4)
  have sl:=l0J (B:=B) (o:=o) (m:=H.size) (S2:=w4.shape?) hR hst03 hp0 hs0 hφ (fun k hk=>o0S (φ:=φ) k hk) (fun b x hb=>by rw [s0l (hR.lt b x hb)];exact hb) hst4.shp hT3
  show Leaves X.P F.fn a4.tmps _ a4.defers _ w4
  rw [hd4',← hD]
  have hcapR:CR X (z0j φ H.size B o) w4.shape? [pt (H.size + 2),pt (H.size + 3),pt (H.size + 4)] cap.toList:=by
   exact hcapG _ _ _ fun k hk=>o0S k hk
  refine leaves_cons (by simp) (by simp only [invoke];rw [d0u F.runD];simp) ((G0n F hcall hdraw rfl r5 hcapR).mono ?_)
  rintro e u'' w5 ⟨⟨x,rfl⟩,rfl,φ5,G',hst5,b2,b3,b4⟩
  show Leaves X.P F.fn a4.tmps _ [] (settle (.panicking [{ v:=.iface ty' u',recovered:=true }])) w5
  have L:Q0M (r0s F.fD p s H.size) H.size:=⟨rfl,rfl,rfl,rfl⟩
  obtain ⟨v',hrun,hvr⟩:=l0H F hst5.rel (sl.mono hst5.ext hst5.shp) (F0l F L rfl b2 b3 b4)
  refine ⟨v',hrun,v',φ,rfl,?_,u0a F hR hfl hst03 O hst4 hst5⟩
  have e1:d0c [.agg F.zA.toArray,.int .i64 0,.bool false]=.tuple #[.agg F.zA.toArray,.int .i64 0,.bool false]:=rfl
  rw [e1] at hvr
  obtain ⟨x1,x2,x3,rfl,k1,k2,k3⟩:=Y0i hvr
  refine F0G ?_ (y0t k2) (t0R k3)
  cases k1 with
  | agg _ m h1 h2 =>
   refine VR.agg_iff.2 (q0t F.zf (VR.agg_iff.1 (.agg _ m h1 h2)))
 | ok r0 =>
  obtain ⟨v0,H0⟩:=r0
  rw [hcr] at he
  obtain ⟨hruns,hcalls⟩:=hcl.1 v0 H0 hcr
  obtain ⟨a,k,n,rfl,rfl,rfl,hasz,hapl⟩:∃ a k n,v0=.tuple #[.agg a,.int k n]∧v=.tuple #[.agg a,.int k n,.bool true]∧H' = H0∧a.size=F.zA.length∧a.toList.all a0q=true:=by
   cases v0 <;> simp only [d0E] at he <;> try cases he
   rename_i vs
   split at he
   ·rename_i a k n heq
    split at he
    ·rename_i hc
     simp only [Res.ok.injEq,b1s] at he
     obtain ⟨rfl,rfl⟩:=he
     exact ⟨a,k,n,by rw [show vs = #[.agg a,.int k n] from Array.toList_inj.1 heq],rfl,rfl,hc.1,hc.2⟩
    ·cases he
   ·cases he
  rw [d0u hruns]
  refine Calls.mono hcalls ?_
  rintro e w4 ⟨v0',φ',rfl,hv0,hst4⟩
  have hold:∀ k,k < 5→w4.heap[B k]? = w3.heap[B k]?:=fun k hk=>hst4.old hR3 (O.hi k hk)
  have r5:=q0H F O hst4.rel hold (y0M F hR O hR3 hst4)
  have hext5:∀ b x,φ' b=some x→z0j φ' H'.size B o b=some x:=fun b x hb=>by rw [s0l (hst4.rel.lt b x hb)];exact hb
  have sl:=l0J (B:=B) (o:=o) (m:=H'.size) (S2:=w4.shape?) hR hst03 hp0 hs0 hφ (fun k hk=>o0S (φ:=φ') k hk) (fun b x hb=>hext5 b x (hst4.ext b x hb)) hst4.shp hT3
  have sl2:=h0C sl (hv0.mono hext5 (fun _ _ h=>h)) F.o3.dst
  obtain ⟨t4,G4,e4,L4,hG4,b2,b3,b4⟩:=Z0x (call:=call) (H':=H') F (p:=p) (s:=s) (k:=k) (n:=n) hasz hapl
  have hd5:(a4.put F.o3.dst v0').defers=D:=by rw [c0t];exact hd4'
  have hops4:∀ i s',(q2b F.zA.length)[i]? = some s'→∃ o,F.ops2[4 + i]? = some o∧f0X X.P F.ops2 true o=some s':=fun i s' hi=>by
   obtain ⟨x,h1,h2⟩:=hget2 (4 + i) s' (by
    rw [show 4 + i=(q2a F.nL F.nS).length + (i + 1) by simp [q2a];omega,a1u (by omega)]
    simpa using hi)
   exact ⟨x,by simpa using h1,h2⟩
  show wpOps X.P F.ops2 _ (List.range' 4 (q2b F.zA.length).length) (a4.put F.o3.dst v0') w4
  refine c0P ?_ (p0z hcall (fl:=H'.size) (D:=D) (q2b F.zA.length) 4 _ (f0M F H') (z0j φ' H'.size B o) w4 (a4.put F.o3.dst v0') hops4 r5 (by rw [F.o3d] at sl2 ⊢;exact sl2) (by rw [k0x];omega) hd5 (by rw [e4];simp))
  rintro e a6 w5 hp
  rw [e4] at hp
  obtain ⟨rfl,hd6,φ5,hT6,hst5⟩:=hp
  show (Code.seq _ _).wp _ _ a6 w5
  obtain ⟨t5,G5,e5,L5,c2,c3,c4⟩:=Z0w (call:=call) (bef:=F.bef) F L4 (by simp [hasz]) hapl b2 b3 b4
  refine wp_seq (wp_mono (d0X hcall hdraw 1 _ _ H'.size _ G4 φ5 w5 a6 F.c3 hst5.rel hT6 (by omega) hd6 (by rw [e5];simp)).wp ?_)
  rintro e a7 w6 hp
  rw [e5] at hp
  obtain ⟨rfl,hd7,φ6,hT7,hst6⟩:=hp
  show (Code.ret).wp _ _ a7 w6
  refine wp_ret ?_
  show Leaves X.P F.fn a7.tmps _ a7.defers .returning w6
  rw [hd7,← hD]
  refine leaves_cons (by simp) (by simp only [invoke];rw [d0u F.runD];simp) ((G0o F hcap).mono ?_)
  rintro e u'' w7 ⟨⟨x,rfl⟩,rfl,rfl⟩
  show Leaves X.P F.fn a7.tmps _ [] .returning w7
  have hst56:=hst5.trans hst6 (Z0E _) r5
  obtain ⟨v',hrun,hvr⟩:=l0H F hst6.rel hT7 (F0l F L5 (by simp [hasz]) c2 c3 c4)
  refine ⟨v',hrun,v',φ',rfl,?_,u0a F hR hfl hst03 O hst4 hst56⟩
  have e1:d0c [.agg a.toList.toArray,.int k n,.bool true]=.tuple #[.agg a,.int k n,.bool true]:=by simp [d0c]
  rw [e1] at hvr
  obtain ⟨x1,x2,x3,rfl,k1,k2,k3⟩:=Y0i hvr
  refine F0G ?_ (y0t k2) (t0R k3)
  -- the answer's own cells lead where they led
  obtain ⟨y,hy⟩:∃ y,VR X φ' w4.shape? (.agg a) y:=by
   cases hv0 with
   | tuple _ m h1 h2 =>
    have h:=h2 0 (by simp)
    exact ⟨_,by simpa using h⟩
  have ky:=VR.back r5 hst56 (hy.mono hext5 (fun _ _ h=>h)) k1
  refine (VR.cut (m:=H'.size) (fun b y hb=>hst4.rel.lt b y hb) hy ky).mono (fun b x hx=>?_) (fun _ _ h=>h)
  obtain ⟨g1,g2⟩:=b0s.1 hx
  rw [s0l g1] at g2;exact g2
end
section
open Go
def F0i:Code→Array Oper | .region _ ops _=>ops | _=>#[]
def W0n:Code→Code | .cond _ a _=>a | _=>.skip
def U0j:Nat→Code→Code
 | 0,.seq a _=>a
 | k + 1,.seq _ b=>U0j k b
 | _,c=>c
def N0Q (f:Func):Code:=f.body.getD .skip
def N0V:Option SCode→List Nat | some (.draw _ b _)=>b | _=>[]
def opT (o:Oper):TypeId:=match o.op with | .binOp _ t _ _ _=>t | _=>0
def W0i (o:Oper):Array TypeId:=match o.op with | .call c=>c.argTypes | _=>#[]
def S0o:Option TypeDesc→Array (String × TypeId) | some (.interface x)=>x | _=>#[]
theorem v0W {P:Program} {t:TypeId} {ifs:Array (String × TypeId)} (ht:P.underlying t=some (.interface ifs)) (w:World):(Op.equal t .nilIface .nilIface).run P w=.ok true w:=by
 unfold Op.equal Op.maxDepth;rw [Op.equalIn];simp only [Sem.run_bind,run_underlying ht,Result.andThen_ok];rfl
theorem r0M {P:Program} {t:TypeId} {ifs:Array (String × TypeId)} (ht:P.underlying t=some (.interface ifs)) (ty:TypeId) (u:Value) (w:World):(Op.equal t (.iface ty u) .nilIface).run P w=.ok false w:=by
 unfold Op.equal Op.maxDepth;rw [Op.equalIn];simp only [Sem.run_bind,run_underlying ht,Result.andThen_ok];rfl
theorem O0C {P:Program} {o:Oper} {t t':TypeId} {ifs:Array (String × TypeId)} (ho:o.op=.binOp .neq t (.tmp 3) (.const .nilIface) t') (ht:P.underlying t=some (.interface ifs)) (ρ:Operand→Value) (w:World)
  (h:ρ (.tmp 3)=.nilIface) (h':ρ (.const .nilIface)=.nilIface):(execOp ρ o).run P w=.ok (.value (.bool false)) w:=by
 simp [execOp,ho,h,h',eqGuard,binOp,v0W ht]
theorem G0H {P:Program} {o:Oper} {t t':TypeId} {ifs:Array (String × TypeId)} (ho:o.op=.binOp .neq t (.tmp 3) (.const .nilIface) t') (ht:P.underlying t=some (.interface ifs)) (ρ:Operand→Value) (w:World) (ty:TypeId) (u:Value)
  (h:ρ (.tmp 3)=.iface ty u) (h':ρ (.const .nilIface)=.nilIface):(execOp ρ o).run P w=.ok (.value (.bool true)) w:=by
 simp [execOp,ho,h,h',eqGuard,binOp,r0M ht]
end
end Go.Proofs.YtilekhkgobmolaaGreat.AI
