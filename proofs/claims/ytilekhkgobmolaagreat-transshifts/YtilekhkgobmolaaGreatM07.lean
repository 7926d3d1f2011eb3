/- Part 8 of the proof: AiSx4, AiSx5, AiSx6, AiSx7, AiSx8, AiRow1, AiRow2, AiFor2, AiSame, AiGreat, AiRow3, AiLat, AiGreat4, AiRefA1, AiSy1, SxDet, SxTab. -/
import Derived.Deep.Slices
import Derived.ProofKit
import Derived.OpenShut
import Derived.Test.YtilekhkgobmolaaGreatRows
import Derived.Test.YtilekhkgobmolaaGreatM02
import Derived.Test.YtilekhkgobmolaaGreatM06
set_option linter.unusedVariables false
set_option linter.unusedSimpArgs false
set_option linter.unusedSectionVars false
namespace Go.Proofs.YtilekhkgobmolaaGreat.AI
section
open Go
set_option maxHeartbeats 4000000
variable {fl:Nat} {H G:a0e} {R:a0u} {v w u:Value}
theorem v0I.lx2 {l:List Int} (h:Sls PI H a0a 2 v l) (h1:LxT a0a H G) (h2:Lx H G):Sls PI G a0a 2 v l:=by
 obtain ⟨cs,⟨hl,hs⟩,hp⟩:=h
 refine ⟨cs,⟨hl,?_⟩,fun k hk=>b0q.lx (hp k hk) h2⟩
 rcases hs with hs | ⟨b,off,cap,ro,cells,rfl,hb,ho,hcs⟩
 ·exact .inl hs
 ·exact .inr ⟨b,off,cap,ro,cells,rfl,h1 _ _ _ hb,ho,hcs⟩
structure ScT where
 n:Int
 A:List (List Int)
 bs:List Rat
 C:List Int
 cb:Rat
def PIs (H:a0e) (cs:List Value) (l:List Int):Prop:=∃ w,cs=[w]∧Sls PI H a0a 2 w l
theorem o0z:h0p PIs:=fun _ _ _ _ hx ⟨v,h1,h2⟩=>⟨v,h1,h2.mono c0Y hx⟩
def SV (H:a0e) (v:Value) (p:ScT):Prop:=∃ sA sB sC s1 s2,v=.agg #[.int .i64 p.n,sA,sB,sC,.bool (a0f p.cb).1.1,s1,.bool (a0f p.cb).2.1,s2] ∧
 Sls PIs H b0b 1 sA p.A∧b0y H sB (p.bs.map a0f)∧Sls PI H a0a 2 sC p.C∧Lim H s1 (a0f p.cb).1.2∧Lim H s2 (a0f p.cb).2.2
theorem Whole.mono {xs:List Rat} {zs:List Int} {b:Rat} {K K':Nat} (h:Whole xs zs b K) (hK:K≤K'):Whole xs zs b K' :=
 ⟨h.len,h.pos,h.eq,fun z hz=>Z0N (h.szz z hz) hK,Z0N h.szb hK⟩
def i0Y (p:LPt) (k:Nat):List Rat:=(p.A.getD k []).map b0A ++ [b0A (p.B.getD k c0l)]
def Q0R (H:a0e) (P:Nat) (p:LPt) (sA0 sB0 sC0:Value) (K:Nat) (i:Nat) (ρ:Nat→Value) (G:a0e):Prop :=
 ρ 12=sA0∧ρ 1=.pointer (some ⟨H.size,0,none⟩)∧ρ 2=.pointer (some ⟨H.size + 1,0,none⟩)∧ρ 3=.pointer (some ⟨P,0,none⟩)∧Ext H G ∧
  a0e.blk G H.size=.row false b0G [.int .i64 p.n,sA0,sB0,sC0] ∧
  a0e.blk G (H.size + 1)=.row false a0G [.int .i64 0,.slice none 0 0,.slice none 0 0,.slice none 0 0,.bool false,.slice none 0 0,.bool false,.slice none 0 0] ∧
  ∃ (sA sB:Value) (L:List (List Int)) (bs:List Rat),a0e.blk G P=.row false a0G [.int .i64 p.n,sA,sB,.slice none 0 0,.bool false,.slice none 0 0,.bool false,.slice none 0 0] ∧
   b0a PIs H.size G b0b 1 sA L∧b0a PR H.size G a0b 4 sB (bs.map a0f)∧L.length=i∧bs.length=i ∧
   ∀ k,k < i→Whole (i0Y p k) (L.getD k []) (bs.getD k 0) K
theorem i0w {S N K:Nat} {p:LPt} (h:LPV H v p) (hf:fl≤H.size) (hA:∀ r ∈ p.A,Few S r∧r.length≤N) (hB:Few S p.B) (hBl:p.B.length=p.A.length) (hC:Few S p.C) (hCl:p.C.length≤N) (hAl:p.A.length < 67108864)
  (hS:1≤S) (hK:K=(N + 3) * (S + 1)) (hK2:K < 67108864) :
  a0V env fl S0i [v] H (fun r H'=>(∃ q:ScT,SV H' r q∧q.n=p.n∧q.A.length=p.A.length∧q.bs.length=p.A.length∧(∀ k,k < p.A.length→Whole (i0Y p k) (q.A.getD k []) (q.bs.getD k 0) K)∧Whole (p.C.map b0A) q.C q.cb K)∧Ext H H') R:=by
 obtain ⟨sA0,sB0,sC0,rfl,kA,kB,kC⟩:=h
 refine a0k Z0m hf (h:=?_)
 intro ρ h0
 simp [V0h,M0y,h0,kA.cells,kB.cells,kC.cells]
 generalize hG:Array.push (Array.push H _) _=G
 obtain ⟨hx2,b0,b1⟩:=push2 hG
 have hx:=Ext.refl H
 clear hG
 replace hx:=hx.trans hx2
 have hsz:=hx.1
 have hb1l:=a0g b1
 simp [M0z,b0,hsz]
 generalize hN:Array.setIfInBounds (Array.push _ _) _ _=G3
 obtain ⟨hx2,b2⟩:=new1 hN
 clear hN
 replace b0:=hx2.blk b0;replace b1:=hx2.blk b1;replace hx:=hx.trans hx2
 obtain ⟨P,hP⟩:∃ P,P=G.size:=⟨_,rfl⟩
 rw [← hP] at b2 hsz hb1l ⊢
 have hPne:P ≠ H.size:=by omega
 have hPne1:P ≠ H.size + 1:=by omega
 have hNS:S < K:=by rw [hK];have:1 * (S + 1)≤(N + 3) * (S + 1):=Z0L _ (by omega);omega
 have hNK:N + 3≤K:=by rw [hK];have:(N + 3) * 1≤(N + 3) * (S + 1):=a1h _ (by omega);omega
 simp [M0A,b0,kA.slen]
 refine c0F (n:=p.A.length) (Q0R H P p sA0 sB0 sC0 K) rfl rfl (by decide) (by omega) (by simp) (by simp) ?_ ?_ ?_ ?_
 ·exact ⟨by simp,by simp,by simp,by simp,hx,b0,b1,_,_,[],[],b2,b0a.nil,b0a.nil,rfl,rfl,fun k hk=>by omega⟩
 ·intro i ρ ρ' G h hI;simpa [Q0R,h] using hI
 ·clear h0 ρ hx b0 b1 b2 hx2
  rintro i ρ G hi gi gn ⟨g12,g1,g2,g3,hx,b0,b1,sA,sB,L,bs,b2,oA,oB,hL,hbs,hW⟩
  have kA':=kA.mono d0O hx
  have kB':=kB.mono a0I hx
  obtain ⟨wr,hlr,kr⟩:=f0V.load kA' hi
  simp [M0B,g12,gi,kA'.ia hi,hlr]
  refine c0u ?_
  simp [M0C]
  have hAi:=hA _ (Z0M hi)
  refine (e0X kr (by have:=hx.1;omega) hAi.1 (by omega) (by omega)).mono ?_
  rintro r G2 ⟨kw,hxa⟩
  have b0':=hxa.blk b0
  have kB2:=kB'.mono a0I hxa
  have hiB:i < p.B.length:=by omega
  have hBi:=hB _ (Z0M hiB)
  obtain ⟨we,hle,k0⟩:=b0y.load kB2 hiB
  obtain ⟨s1,s2,rfl,k1,k2⟩:=id k0
  simp [g1,b0',kB2.ia hiB,hle]
  have hHG:=hx.1
  have hGG2:=hxa.1
  refine (b0D (a:=p.B[i]) k0 (b:=c0l) e0C (by omega) (by omega) (by decide)).mono ?_
  rintro _ G3 ⟨⟨s3,s4,rfl,k3,k4⟩,hxb⟩
  replace kw:=kw.mono a0I hxb
  rw [e0F,b1D] at k3 k4 ⊢
  have hown:(g0Z p.A[i]).length=p.A[i].length:=by unfold g0Z;simp
  obtain ⟨r',G4,h1,h2,h3,h4⟩:=b0a.app (P:=PR) (sz:=4) (e:=a0b) (by decide) (fun G' cs x _ hl h=>b0R.lx h hl) (kw.low (show H.size≤G.size from hHG)) (e2:=a0b) (c:=1) (bytes:=64) (new:=[.bool (a0f (b0A p.B[i])).1.1,s3,.bool (a0f (b0A p.B[i])).2.1,s4]) (x:=a0f (b0A p.B[i])) ⟨s3,s4,rfl,k3,k4⟩ rfl (by simp [k3.plain,k4.plain]) (by omega) (by omega) (by omega) (by have:=hxb.1;omega)
  have hxG:Ext G G4:=by
   have hh:=hxa.trans hxb
   exact ⟨Z0N hh.1 h3.1,fun b hb=>(h3.2 b (Z0W hb hh.1) (fun h=>by have:=(kw.ge h).1;omega)).trans (hh.2 b hb)⟩
  simp [h1,k3.cells,k4.cells]
  have hrow:g0Z p.A[i] ++ [a0f (b0A p.B[i])]=(i0Y p i).map a0f:=by
   unfold i0Y g0Z
   rw [Z0C,Z0C,Z0H hi,Z0H hiB];simp
  rw [hrow] at h2
  have hrl:(i0Y p i).length=p.A[i].length + 1:=by rw [← hown];have:=congrArg List.length hrow;simpa using this.symm
  have hrS:∀ x ∈ i0Y p i,szR x≤S:=by
   intro x hx
   unfold i0Y at hx
   rw [Z0C,Z0C,Z0H hi,Z0H hiB] at hx
   simp only [a1f,a1g,a1z,c1q] at hx
   rcases hx with ⟨y,hy,rfl⟩ | rfl
   ·obtain ⟨l1,l2,l3⟩:=hAi.1 _ hy
    have:=d0s l2 l3;omega
   ·obtain ⟨l1,l2,l3⟩:=hBi
    have:=d0s l2 l3;omega
  have hrK:((i0Y p i).length + 2) * (S + 1)≤K:=by rw [hK];exact Z0L _ (by omega)
  refine (f0R h2.sls (by have:=hxG.1;omega) hrS (by omega)).mono ?_
  rintro _ G5 ⟨⟨q1,_,by',zs,rfl,hWi,hq,⟨s5,s6,rfl,k5,k6⟩⟩,hxc⟩
  have hxd:=hxG.trans hxc
  have hsz5:H.size≤G5.size:=by have:=hxd.1;omega
  simp [k5.cells,k6.cells,k5.plain,k6.plain,hsz5]
  generalize hN:Array.setIfInBounds (Array.push _ _) _ _=G6
  obtain ⟨hxe,b3⟩:=new1 hN
  clear hN
  replace k5:=k5.mono hxe
  replace k6:=k6.mono hxe
  replace hq:=hq.mono c0Y hxe
  have hx2:Ext G G6:=hxd.trans hxe
  replace b0:=hx2.blk b0;replace b1:=hx2.blk b1;replace b2:=hx2.blk b2;replace hx:=hx.trans hx2
  replace kA':=kA'.mono d0O hx2
  replace kB':=kB'.mono a0I hx2
  replace oA:=oA.mono o0z hx2
  replace oB:=oB.mono a0I hx2
  obtain ⟨Q,hQ⟩:∃ Q,Q=G5.size:=⟨_,rfl⟩
  rw [← hQ] at b3 ⊢
  refine c0u ?_
  obtain ⟨cq,pq⟩:=hq.cells
  obtain ⟨sA',G7,h1,h2,h3,h4⟩:=b0a.app (P:=PIs) (sz:=1) (e:=b0b) (by decide)
    (fun G' cs x hxb hl ⟨w',q1,q2⟩=>⟨w',q1,v0I.lx2 q2 (oA.lxT (by decide) hxb) hl⟩) oA (e2:=b0b) (c:=1) (bytes:=24) (new:=[q1]) (x:=zs) ⟨q1,rfl,hq.sls⟩ rfl (by simp [pq]) (by omega) (by omega) (by omega) hx.1
  obtain ⟨_,_,hAe⟩:=e0b (by decide) h1
  have hlx:=oA.lx (by decide) h3
  have nA0:=oA.ne b0 (by decide)
  have nA1:=oA.ne b1 (by decide)
  have nA2:=oA.ne b2 (by decide)
  have nA3:=oA.ne b3 (by decide)
  have hAo:=oA.blkOf
  simp [M0D,g3,b2,cq,h1]
  replace b0:=(h3.2 _ (a0g b0) nA0).trans b0
  replace b1:=(h3.2 _ (a0g b1) nA1).trans b1
  replace b2:=(h3.2 _ (a0g b2) nA2).trans b2
  replace b3:=(h3.2 _ (a0g b3) nA3).trans b3
  replace hx:=h4 _ (Z0E _) hx
  replace k5:=k5.lx hlx
  replace k6:=k6.lx hlx
  replace oB:=oB.lxm (Q':=PR) (oA.lxT (by decide) h3) (fun cs x h=>b0R.lx h hlx)
  simp [b2,b3]
  have hbl:(bs.map a0f).length=i:=by simp [hbs]
  obtain ⟨sB',G8,p1,p2,p3,p4⟩:=b0a.app (P:=PR) (sz:=4) (e:=a0b) (by decide) (fun G' cs x _ hl h=>b0R.lx h hl) oB (e2:=a0b) (c:=1) (bytes:=64) (new:=[.bool (a0f by').1.1,s5,.bool (a0f by').2.1,s6]) (x:=a0f by') ⟨s5,s6,rfl,k5,k6⟩ rfl (by simp [k5.plain,k6.plain]) (by omega) (by omega) (by omega) hx.1
  have hly:=oB.lx (by decide) p3
  have nB0:=oB.ne b0 (by decide)
  have nB1:=oB.ne b1 (by decide)
  have nB2:=oB.ne b2 (by decide)
  replace h2:=h2.lxm (Q':=PIs) (oB.lxT (by decide) p3) (fun cs x ⟨w',q1,q2⟩=>⟨w',q1,v0I.lx2 q2 (oB.lxT (by decide) p3) hly⟩)
  replace b0:=(p3.2 _ (a0g b0) nB0).trans b0
  replace b1:=(p3.2 _ (a0g b1) nB1).trans b1
  replace b2:=(p3.2 _ (a0g b2) nB2).trans b2
  replace hx:=p4 _ (Z0E _) hx
  obtain ⟨cA,pA⟩:=h2.cells
  obtain ⟨cB,pB⟩:=p2.cells
  have hz:=a0g b2
  simp [p1,b2,cA,pA,cB,pB,hsz,hz]
  generalize hS1:Array.setIfInBounds _ _ _=G9
  have t1:∀ {e:Nat},a0G ≠ e→LxT e G8 G9:=fun hne=>a0X hS1 b2 hne
  have hbo:∀ x,x ∈ blkW sA→slB sA=some x:=by
   rcases hAo with h | ⟨b,h,h'⟩
   ·rw [h];simp
   ·rw [h,h'];simp
  refine ⟨⟨fun x hx h=>nA2 (by rw [hbo x hx,h]),fun x hx h=>nA3 (by rw [hbo x hx,h])⟩,Rnd.mk (by simp [gi]) (by simp [gn]) ⟨by simp [g12],by simp [g1],by simp [g2],by simp [g3],b0J hS1 hx hsz,a0z hS1 b0 hPne,a0z hS1 b1 hPne1,sA',sB',L ++ [zs],bs ++ [by'],a0M hS1 b2,?_,?_,by simp [hL],by simp [hbs],fun k hk=>?_⟩⟩
  ·exact h2.lxm (t1 (by decide)) (fun cs x ⟨w',q1,q2⟩=>⟨w',q1,v0I.lx2 q2 (t1 (by decide)) (t1 (by decide))⟩)
  ·rw [b1R];exact p2.lxm (t1 (by decide)) (fun cs x h=>b0R.lx h (t1 (by decide)))
  ·by_cases hki:k=i
   ·have e1:(L ++ [zs]).getD k []=zs:=by rw [hki,← hL];simp [Z0C]
    have e2:(bs ++ [by']).getD k 0=by':=by rw [hki,← hbs];simp [Z0C]
    rw [e1,e2,hki];exact hWi.mono hrK
   ·have e1:(L ++ [zs]).getD k []=L.getD k []:=by rw [Z0C,a1q (by omega),Z0C]
    have e2:(bs ++ [by']).getD k 0=bs.getD k 0:=by rw [Z0C,a1q (by omega),Z0C]
    rw [e1,e2];exact hW k (by omega)
 ·clear h0 ρ hx b0 b1 b2 hx2
  rintro ρ G gi gn ⟨g12,g1,g2,g3,hx,b0,b1,sA,sB,L,bs,b2,oA,oB,hL,hbs,hW⟩
  have kC':=kC.mono a0I hx
  simp [M0E,g1,b0]
  refine (e0X kC' hx.1 hC (by omega) (by omega)).mono ?_
  rintro r G2 ⟨kw,hxa⟩
  have hcs:g0Z p.C=(p.C.map b0A).map a0f:=by unfold g0Z;simp
  rw [hcs] at kw
  have hrS:∀ x ∈ p.C.map b0A,szR x≤S:=by
   intro x hx
   simp only [a1z] at hx
   obtain ⟨y,hy,rfl⟩:=hx
   obtain ⟨l1,l2,l3⟩:=hC _ hy
   have:=d0s l2 l3;omega
  have hrK:((p.C.map b0A).length + 2) * (S + 1)≤K:=by rw [hK,a1P];exact Z0L _ (by omega)
  simp
  refine (f0R kw.sls (by have:=hxa.1;have:=hx.1;omega) hrS (by omega)).mono ?_
  rintro _ G5 ⟨⟨q1,_,by',zs,rfl,hWi,hq,⟨s5,s6,rfl,k5,k6⟩⟩,hxc⟩
  have hx2:Ext G G5:=hxa.trans hxc
  replace b1:=hx2.blk b1;replace b2:=hx2.blk b2;replace hx:=hx.trans hx2
  replace oA:=oA.mono o0z hx2
  replace oB:=oB.mono a0I hx2
  obtain ⟨cq,pq⟩:=hq.cells
  obtain ⟨cA,pA⟩:=oA.cells
  obtain ⟨cB,pB⟩:=oB.cells
  have hz1:=a0g b1
  have hz2:=a0g b2
  simp [g3,g2,b2,cq,pq,k5.cells,k5.plain,k6.cells,k6.plain,hsz]
  generalize hS1:Array.setIfInBounds _ _ _=G6
  have t1:∀ {e:Nat},a0G ≠ e→LxT e G5 G6:=fun hne=>a0X hS1 b2 hne
  replace b1:=a0z hS1 b1 hPne1
  replace b2:=a0M hS1 b2
  replace hx:=b0J hS1 hx hsz
  have hz3:=a0g b2
  simp [b2,hsz]
  generalize hS2:Array.setIfInBounds _ _ _=G7
  have t2:∀ {e:Nat},a0G ≠ e→LxT e G6 G7:=fun hne=>a0X hS2 b2 hne
  replace b1:=a0z hS2 b1 hPne1
  replace b2:=a0M hS2 b2
  have hz4:=a0g b1
  simp [M0F,g2,g3,b1,b2,cA,pA,cB,pB,cq,pq,k5.cells,k5.plain,k6.cells,k6.plain]
  generalize hS3:Array.setIfInBounds _ _ _=G8
  have t3:∀ {e:Nat},a0G ≠ e→LxT e G7 G8:=fun hne=>a0X hS3 b1 hne
  have t:∀ {e:Nat},a0G ≠ e→LxT e G5 G8:=fun hne b ro cs hb=>t3 hne _ _ _ (t2 hne _ _ _ (t1 hne _ _ _ hb))
  replace b1:=a0M hS3 b1
  simp [b1]
  refine fun _=>⟨⟨p.n,L,bs,zs,by'⟩,⟨sA,sB,q1,s5,s6,rfl,?_,?_,?_,k5.lx (t (by decide)),k6.lx (t (by decide))⟩,rfl,hL,hbs,fun k hk=>?_,hWi.mono hrK⟩
  ·exact (oA.lxm (Q':=PIs) (t (by decide)) (fun cs x ⟨w',q1,q2⟩=>⟨w',q1,v0I.lx2 q2 (t (by decide)) (t (by decide))⟩)).sls
  ·exact b0y.lx2 oB.sls (t (by decide)) (t (by decide))
  ·exact v0I.lx2 hq.sls (t (by decide)) (t (by decide))
  ·have:=hW k hk
   rwa [Z0C,Z0C] at this
end
section
open Go
set_option maxHeartbeats 4000000
variable {E:Env} {fl:Nat} {t:a0W} {H:a0e} {Q:d0K} {R:a0u}
def WRP (E:Env) (fl:Nat) (bef:List Nat) (pairs:List (Nat × Nat)) (Z:a0W→a0e→Prop) (R:a0u):Nat→List a0D→a0W→a0e→Option (Nat × Value)→Log→Prop
 | _,[],t,H,p,lg=>c0E lg.reverse pairs=true∧(match p with | none=>Z t H | some (_,v)=>R v)
 | i,o :: r,t,H,p,lg=>if g0m bef i p=true then WRP E fl bef pairs Z R (i + 1) r t H p (([],[]) :: lg) else
  if b0c t o.g then WS E fl t H o.op (fun v H'=>WRP E fl bef pairs Z R (i + 1) r (put t o.dst v) H' p (c0O t o.op :: lg)) (fun v=>p=none∧WRP E fl bef pairs Z R (i + 1) r t H (some (i,v)) (([],[]) :: lg))
  else WRP E fl bef pairs Z R (i + 1) r (put t o.dst undef) H p (([],[]) :: lg)
theorem h0O (bef:List Nat) (pairs:List (Nat × Nat)) {Z:a0W→a0e→Prop}:∀ (ops:List a0D) (i:Nat) (t:a0W) (H:a0e) (p:Option (Nat × Value)) (log:Log),
  WRP E fl bef pairs Z R i ops t H p log→∃ n,i0T (fun e t H=>e=.normal∧Z t H) R (b0M (b0h E n) fl bef pairs i ops t H p log)
 | [],i,t,H,p,log,h=>by
  refine ⟨0,?_⟩
  simp only [b0M];rw [Z0I h.1]
  cases p with
  | none=>exact ⟨rfl,h.2⟩
  | some q=>exact h.2
 | o :: r,i,t,H,p,log,h=>by
  simp only [WRP] at h
  split at h
  ·rename_i hh
   obtain ⟨n,hn⟩:=h0O bef pairs r (i + 1) _ _ _ _ h
   exact ⟨n,by simp only [b0M];rw [Z0I hh];exact hn⟩
  ·rename_i hh
   split at h
   ·rename_i hw
    obtain ⟨n,hn⟩:=x0v h
    have key:∀ (m:Nat) (t2:a0W) (H2:a0e) (p2:Option (Nat × Value)) (lg2:Log),i0T (fun e t H=>e=.normal∧Z t H) R (b0M (b0h E m) fl bef pairs (i + 1) r t2 H2 p2 lg2) →
      b0M (b0h E (max n m)) fl bef pairs (i + 1) r t2 H2 p2 lg2=b0M (b0h E m) fl bef pairs (i + 1) r t2 H2 p2 lg2:=fun m t2 H2 p2 lg2 hm =>
     c0S (a0E E m (max n m) (by omega)) (Z0E fl) bef pairs r (i + 1) t2 H2 p2 lg2 (by intro hb;rw [hb] at hm;exact hm)
    have h1:∀ m,b0v (b0h E n) fl t H o.op ≠ .bad→b0v (b0h E (max n m)) fl t H o.op=b0v (b0h E n) fl t H o.op:=fun m hb=>f0s (a0E E n (max n m) (by omega)) (Z0E fl) (t:=t) (H:=H) (so:=o.op) hb
    cases hs:b0v (b0h E n) fl t H o.op with
    | bad=>rw [hs] at hn;exact Z0T hn id
    | pan v =>
     rw [hs] at hn
     obtain ⟨rfl,hn⟩:=hn
     obtain ⟨m,hm⟩:=h0O bef pairs r (i + 1) _ _ _ _ hn
     refine ⟨max n m,?_⟩
     simp only [b0M]
     rw [Z0F hh,Z0I hw,h1 m (by rw [hs];simp),hs]
     simp only []
     rw [key m _ _ _ _ hm];exact hm
    | ok rr =>
     obtain ⟨v,H'⟩:=rr
     rw [hs] at hn
     obtain ⟨m,hm⟩:=h0O bef pairs r (i + 1) _ _ _ _ hn
     refine ⟨max n m,?_⟩
     simp only [b0M]
     rw [Z0F hh,Z0I hw,h1 m (by rw [hs];simp),hs]
     simp only []
     rw [key m _ _ _ _ hm];exact hm
   ·rename_i hw
    obtain ⟨m,hm⟩:=h0O bef pairs r (i + 1) _ _ _ _ h
    exact ⟨m,by simp only [b0M];rw [Z0F hh,Z0F hw];exact hm⟩
theorem k0n {ops:List a0D} {bef:List Nat} {pairs:List (Nat × Nat)} (h:WRP E fl bef pairs (fun t H=>Q .normal t H) R 0 ops t H none []):W E fl (.draw ops bef pairs) t H Q R:=by
 obtain ⟨n,hn⟩:=h0O bef pairs ops 0 t H none [] h
 refine ⟨n + 1,?_⟩
 have h2:=c0S (a0E E n (n+1) (by omega)) (Z0E fl) bef pairs ops 0 t H none [] (by intro hb;rw [hb] at hn;exact hn)
 simp only [a0Y,h2]
 cases hd:b0M (b0h E n) fl bef pairs 0 ops t H none [] with
 | bad=>rw [hd] at hn;exact hn
 | pan v=>rw [hd] at hn;exact hn
 | fin e t' H'=>rw [hd] at hn;obtain ⟨rfl,hn⟩:=hn;exact hn
section
variable {bef:List Nat} {pairs:List (Nat × Nat)} {Z:a0W→a0e→Prop} {lg lg2:Log} {d:Option Nat} {op:SOp} {r:List a0D} {i j:Nat} {v:Value} {x:Opd} {K:l0X}
@[simp ↓] theorem V0u:WRP E fl bef pairs Z R i [] t H none lg=(c0E lg.reverse pairs=true∧Z t H):=nr rfl
@[simp ↓] theorem T0J:WRP E fl bef pairs Z R i [] t H (some (j,v)) lg=(c0E lg.reverse pairs=true∧R v):=nr rfl
@[simp ↓] theorem T0I:WRP E fl bef pairs Z R i (⟨d,none,op⟩ :: r) t H none lg =
  WS E fl t H op (fun v H'=>WRP E fl bef pairs Z R (i + 1) r (put t d v) H' none (c0O t op :: lg)) (fun v=>WRP E fl bef pairs Z R (i + 1) r t H (some (i,v)) (([],[]) :: lg)):=by
 simp [WRP,b0c,g0m]
@[simp ↓] theorem Q0W:WRP E fl bef pairs Z R i (⟨d,none,op⟩ :: r) t H (some (j,v)) lg =
  if (bef.getD i 0).testBit j=true then WRP E fl bef pairs Z R (i + 1) r t H (some (j,v)) (([],[]) :: lg) else
  WS E fl t H op (fun w H'=>WRP E fl bef pairs Z R (i + 1) r (put t d w) H' (some (j,v)) (c0O t op :: lg)) (fun _=>False):=by
 simp [WRP,b0c,g0m]
theorem x0s {t':a0W} {ops:List a0D} {p:Option (Nat × Value)} (h:t=t'):WRP E fl bef pairs Z R i ops t H p lg=WRP E fl bef pairs Z R i ops t' H p lg:=by rw [h]
attribute [congr] x0s
def N0t (E:Env) (fl fl':Nat) (bef:List Nat) (pairs:List (Nat × Nat)) (Z:a0W→a0e→Prop) (R:a0u) (i j:Nat) (f:FuncId) (args:List Value) (H:a0e) (d:Option Nat) (r:List a0D) (t:a0W) (lg lg2:Log):Prop :=
 a0V E fl' f args H (fun v H'=>WRP E fl bef pairs Z R j r (put t d v) H' none lg) (fun v=>WRP E fl bef pairs Z R j r t H (some (i,v)) lg2)
@[simp ↓ high] theorem T0M {f:FuncId} {al:List Opd} {lone:Bool} :
  WS E fl t H (.call f al lone) (fun v H'=>WRP E fl bef pairs Z R j r (put t d v) H' none lg) (fun v=>WRP E fl bef pairs Z R j r t H (some (i,v)) lg2) =
   N0t E fl (if lone then fl else max fl H.size) bef pairs Z R i j f (al.map (ev t)) H d r t lg lg2:=nr rfl
theorem r0z {fl' fl2:Nat} {f:FuncId} {al al':List Value} {t':a0W} (h:al=al') (ht:t=t') (hf:fl' = fl2) :
  N0t E fl fl' bef pairs Z R i j f al H d r t lg lg2=N0t E fl fl2 bef pairs Z R i j f al' H d r t' lg lg2:=by rw [h,ht,hf]
attribute [congr] r0z
def X0z (tbl:List (TypeId × FuncId)):Value→Option (FuncId × Value)
 | .iface ty v=>match tbl.lookup ty with | some f=>some (f,v) | none=>none
 | _=>none
@[simp] theorem Q0x {ty:TypeId} {tbl:List (TypeId × FuncId)}:X0z tbl (.iface ty v)=match tbl.lookup ty with | some f=>some (f,v) | none=>none:=nr rfl
@[simp ↓] theorem X0T {tbl:List (TypeId × FuncId)} {al:List Opd} {lone:Bool}:WS E fl t H (.inv x tbl al lone) K R=oo (X0z tbl (ev t x)) fun q=>WS E fl t H (.call q.1 (.const q.2 :: al) lone) K R:=by
 simp only [WS,opA];generalize ev t x=y
 cases y <;> simp only [X0z,s0a]
 rename_i ty v
 cases tbl.lookup ty <;> simp
def U0b (e b:Nat):Blk→Option Value
 | .row false e' _=>if e' = e then some (.pointer (some ⟨b,0,none⟩)) else none
 | _=>none
@[simp] theorem U0c {e e' b:Nat} {cs:List Value}:U0b e b (.row false e' cs)=if e' = e then some (.pointer (some ⟨b,0,none⟩)) else none:=nr rfl
def S0k (H:a0e) (e:Nat):Value→Option Value
 | .pointer (some p)=>if p.spot.isSome=false∧p.off=0 then U0b e p.block (H.blk p.block) else none
 | _=>none
@[simp] theorem U0d {e b:Nat}:S0k H e (.pointer (some ⟨b,0,none⟩))=U0b e b (H.blk b):=by simp [S0k]
@[simp ↓] theorem X0S {e:TypeId}:WS E fl t H (.fa0 e x) K R=oo (S0k H e (ev t x)) fun v=>K v H:=by
 simp only [WS,opA];generalize ev t x=y
 cases y <;> simp only [S0k,s0a]
 rename_i p;cases p <;> simp only [S0k,s0a]
 rename_i q
 cases hb:a0e.blk H q.block <;> simp [U0b]
 rename_i ro e' cs
 cases ro
 ·by_cases h1:q.spot=none <;> by_cases h2:e' = e <;> by_cases h3:q.off=0 <;> simp [h1,h2,h3]
 ·simp
end
attribute [simp ↓] R0b
@[simp] theorem Q0z {G:a0e} {a:Addr}:b0o G true 0 (.pointer (some a))=some (.agg #[]):=nr rfl
@[simp] theorem T0Y {a:Addr}:W0l (.pointer (some a))=some (.pointer (some a)):=nr rfl
@[simp] theorem P0S {n j:Nat}:n.testBit j=decide (n / 2 ^ j % 2=1):=Nat.testBit_eq_decide_div_mod_eq
theorem w0p {a b:FuncId}:List.lookup a0i [(a0h,a),(a0i,b)]=some b:=by simp [List.lookup];rfl
theorem w0o {a b:FuncId}:List.lookup a0h [(a0h,a),(a0i,b)]=some a:=by simp [List.lookup]
attribute [simp] w0p w0o
def PF (_:a0e) (cs:List Value) (z:Int):Prop:=cs=[.int .i64 z]∧f0f z
theorem S0t:h0p PF:=fun _ _ _ _ _ h=>h
theorem o0o {a b:Int} {p:Nat} {cs:List Value} (hf:fl≤H.size) (hb:a0e.blk H p=.row false a0d cs) (ha:f0f a) (hbz:f0f b) (hR:R t0w) :
  a0V env fl w0e [.pointer (some ⟨p,0,none⟩),.int .i64 a,.int .i64 b] H (fun r H'=>(r=.int .i64 (a - b)∧f0f (a - b))∧Ext H H') R:=by
 refine a0k W0Y hf (h:=?_)
 intro ρ h0
 simp [H0T,C0P,h0]
 refine k0n ?_
 simp [C0Q,h0,hb]
 refine (c0e (n:=1) (by omega) (by omega) (by omega)).mono ?_
 rintro _ G ⟨k0,hx⟩
 simp
 have h1:lz 1 < 1073741824:=by rw [f0O];omega
 refine (k0E k0 (by have:=hx.1;omega) h1 (by simp;exact hR)).mono ?_
 rintro _ G2 ⟨⟨rfl,_⟩,hx2⟩
 have hb2:=(hx.trans hx2).blk hb
 have hsz:=(hx.trans hx2).1
 simp [C0R,h0,hb2]
 have f1:f0f 1:=by unfold f0f;omega
 refine (h0W (by omega) ha f1 hbz f1 (by decide) hR).mono ?_
 rintro _ G3 ⟨⟨rfl,h⟩,hx3⟩
 have e1:(a * 1 - b * 1).tdiv 1=a - b:=by simp
 rw [e1] at h ⊢
 simp [h]
theorem n0Y {a b:Int} {p:Nat} {cs:List Value} {va vb:Value} (hf:fl≤H.size) (hb:a0e.blk H p=.row false a0c cs) (ha:b0q H va (a0l a)) (hbz:b0q H vb (a0l b)) (la:lz a < 67108864) (lb:lz b < 67108864) :
  a0V env fl w0c [.pointer (some ⟨p,0,none⟩),va,vb] H (fun r H'=>b0q H' r (a0l (a - b))∧Ext H H') R:=by
 refine a0k W0O hf (h:=?_)
 intro ρ h0
 obtain ⟨s0,rfl,k0⟩:=id ha
 obtain ⟨s1,rfl,k1⟩:=id hbz
 simp [H0J,B0P,h0,k0.cells,k0.plain,k1.cells,k1.plain]
 generalize hG:Array.push (Array.push (Array.push H _) _) _=G
 have hx2:Ext H G:=by rw [← hG];exact (Ext.refl H).push.push.push
 have b0:a0e.blk G H.size=.row false a0a [.bool (a0l a).1,s0]:=by rw [← hG];simp
 have b1:a0e.blk G (H.size + 1)=.row false a0a [.bool (a0l b).1,s1]:=by rw [← hG];simp
 have b2:a0e.blk G (H.size + 2)=.row false a0a [.bool false,.slice none 0 0]:=by rw [← hG];simp
 have b3:=hb
 have hx:=Ext.refl H
 clear hG
 replace b3:=hx2.blk b3;replace hx:=hx.trans hx2;replace k0:=k0.mono hx2;replace k1:=k1.mono hx2
 refine a0A ?_
 simp [B0Q,h0,b3]
 refine (c0e (n:=1) (by have:=hx.1;omega) (by omega) (by omega)).mono ?_
 rintro _ G2 ⟨k2,hx2⟩
 replace b0:=hx2.blk b0;replace b1:=hx2.blk b1;replace b2:=hx2.blk b2;replace b3:=hx2.blk b3;replace hx:=hx.trans hx2;replace k0:=k0.mono hx2;replace k1:=k1.mono hx2
 simp
 refine (h0r k2 (by have:=hx.1;omega)).mono ?_
 rintro _ G3 ⟨⟨s2,rfl,k3⟩,hx2⟩
 replace b0:=hx2.blk b0;replace b1:=hx2.blk b1;replace b2:=hx2.blk b2;replace b3:=hx2.blk b3;replace hx:=hx.trans hx2;replace k0:=k0.mono hx2;replace k1:=k1.mono hx2
 have hsz:=hx.1
 simp [k3.cells,k3.plain,hsz]
 generalize hN:Array.setIfInBounds (Array.push _ _) _ _=G4
 obtain ⟨hx2,b4⟩:=new1 hN
 clear hN
 replace b0:=hx2.blk b0;replace b1:=hx2.blk b1;replace b2:=hx2.blk b2;replace b3:=hx2.blk b3;replace hx:=hx.trans hx2;replace k0:=k0.mono hx2;replace k1:=k1.mono hx2;replace k3:=k3.mono hx2
 refine a0A ?_
 simp [B0R,h0,b0,b1,b3,b4]
 have l1:lz 1=1:=f0O
 refine (h0P (a:=a) (b:=1) (c:=b) (d:=1) (e:=1) ⟨s0,rfl,k0⟩ ⟨s2,rfl,k3⟩ ⟨s1,rfl,k1⟩ ⟨s2,rfl,k3⟩ ⟨s2,rfl,k3⟩ (by have:=hx.1;omega) la (by omega) lb (by omega) (by omega) (by decide)).mono ?_
 rintro _ G5 ⟨⟨s5,rfl,k5⟩,hx2⟩
 replace b2:=hx2.blk b2;replace hx:=hx.trans hx2
 have e1:(a * 1 - b * 1).tdiv 1=a - b:=by simp
 rw [e1] at k5 ⊢
 have hz:=a0g b2
 simp [b2,k5.cells,k5.plain]
 generalize hS:Array.setIfInBounds _ _ _=G6
 have hl:Lx G5 G6:=a0X hS b2 (by decide)
 have b8:=a0M hS b2
 simp [b8]
 exact fun _=>⟨s5,rfl,k5.lx hl⟩
end
section
open Go
set_option maxHeartbeats 4000000
variable {fl:Nat} {H G:a0e} {R:a0u} {v w u:Value}
theorem m0o {x D:Int} {p:Nat} {c0 c1 c2 c3:Value} {cs:List Value} (hf:fl≤H.size) (hb:a0e.blk H p=.row false a0d (c0 :: c1 :: c2 :: c3 :: .int .i64 D :: cs)) (hx0:f0f x) (hD:f0f D) (hD0:D ≠ 0) :
  a0V env fl q0n [.pointer (some ⟨p,0,none⟩),.int .i64 x] H (fun r H'=>b0R H' r (a0f (Rat.divInt x D))∧Ext H H') R:=by
 refine a0k X0a hf (h:=?_)
 intro ρ h0
 simp [H0V,C0Z,h0]
 generalize hG:Array.push H _=G
 obtain ⟨hx2,b2⟩:=h0K hG
 have b1:=hb
 have hx:=Ext.refl H
 clear hG
 replace b1:=hx2.blk b1;replace hx:=hx.trans hx2
 have lF:∀ z,f0f z→lz z < 536870912:=fun z hz=>by
  have:lz z≤1:=m0q (by obtain ⟨h1,h2⟩:=hz;omega)
  omega
 refine a0A ?_
 simp [D0a,h0,b1]
 refine (j0q (by have:=hx.1;omega) hx0).mono ?_
 rintro _ G2 ⟨k0,hx2⟩
 replace b1:=hx2.blk b1;replace b2:=hx2.blk b2;replace hx:=hx.trans hx2
 simp [h0,b1]
 refine (j0q (by have:=hx.1;omega) hD).mono ?_
 rintro _ G3 ⟨k1,hx2⟩
 replace b2:=hx2.blk b2;replace hx:=hx.trans hx2;replace k0:=k0.mono hx2
 simp
 refine (d0x k0 k1 (by have:=hx.1;omega) (by rw [a0n];exact lF _ hx0) (by rw [a0n];exact lF _ hD) (by rw [a0j];exact hD0)).mono ?_
 rintro _ G4 ⟨⟨_,rfl,s3,s4,rfl,k5,k6⟩,hx2⟩
 replace b2:=hx2.blk b2;replace hx:=hx.trans hx2
 rw [a0j,a0j] at k5 k6 ⊢
 have hsz:=hx.1
 simp [k5.cells,k5.plain,k6.cells,k6.plain,hsz]
 generalize hN:Array.setIfInBounds (Array.push _ _) _ _=G5
 obtain ⟨hx2,b3⟩:=new1 hN
 clear hN
 replace b2:=hx2.blk b2;replace hx:=hx.trans hx2;replace k5:=k5.mono hx2;replace k6:=k6.mono hx2
 have hz:=a0g b2
 simp [D0b,b3,b2,k5.cells,k5.plain,k6.cells,k6.plain]
 generalize hS:Array.setIfInBounds _ _ _=G6
 have hl:Lx G5 G6:=a0X hS b2 (by decide)
 have b8:=a0M hS b2
 simp [b8]
 exact fun _=>⟨s3,s4,by simp [Rat.divInt],by simpa using k5.lx hl,by simpa using k6.lx hl⟩
theorem m0d {x D:Int} {p:Nat} {c0 c1 c2 c3 vx sD:Value} {cs:List Value} (hf:fl≤H.size) (hb:a0e.blk H p=.row false a0c (c0 :: c1 :: c2 :: c3 :: .bool (a0l D).1 :: sD :: cs)) (kD:Lim H sD (a0l D).2) (kx:b0q H vx (a0l x)) (lx:lz x < 67108864) (lD:lz D < 67108864) (hD0:D ≠ 0) :
  a0V env fl q0m [.pointer (some ⟨p,0,none⟩),vx] H (fun r H'=>b0R H' r (a0f (Rat.divInt x D))∧Ext H H') R:=by
 refine a0k W0R hf (h:=?_)
 intro ρ h0
 obtain ⟨s0,rfl,k2⟩:=id kx
 simp [H0M,C0c,h0,k2.cells,k2.plain]
 generalize hG:Array.push (Array.push H _) _=G
 obtain ⟨hx2,b0,b2⟩:=push2 hG
 have b1:=hb
 have k3:=kD
 have hx:=Ext.refl H
 clear hG
 replace b1:=hx2.blk b1;replace hx:=hx.trans hx2;replace k2:=k2.mono hx2;replace k3:=k3.mono hx2
 refine a0A ?_
 simp [C0d,h0,b1,b0]
 refine (j0l (a:=x) ⟨s0,rfl,k2⟩ (by have:=hx.1;omega)).mono ?_
 rintro _ G2 ⟨k0,hx2⟩
 replace b1:=hx2.blk b1;replace b2:=hx2.blk b2;replace hx:=hx.trans hx2;replace k3:=k3.mono hx2
 simp [h0,b1]
 refine (j0l (a:=D) ⟨sD,rfl,k3⟩ (by have:=hx.1;omega)).mono ?_
 rintro _ G3 ⟨k1,hx2⟩
 replace b2:=hx2.blk b2;replace hx:=hx.trans hx2;replace k0:=k0.mono hx2
 simp
 refine (d0x k0 k1 (by have:=hx.1;omega) (by rw [a0n];omega) (by rw [a0n];omega) (by rw [a0j];exact hD0)).mono ?_
 rintro _ G4 ⟨⟨_,rfl,s3,s4,rfl,k5,k6⟩,hx2⟩
 replace b2:=hx2.blk b2;replace hx:=hx.trans hx2
 rw [a0j,a0j] at k5 k6 ⊢
 have hsz:=hx.1
 simp [k5.cells,k5.plain,k6.cells,k6.plain,hsz]
 generalize hN:Array.setIfInBounds (Array.push _ _) _ _=G5
 obtain ⟨hx2,b3⟩:=new1 hN
 clear hN
 replace b2:=hx2.blk b2;replace hx:=hx.trans hx2;replace k5:=k5.mono hx2;replace k6:=k6.mono hx2
 have hz:=a0g b2
 simp [C0e,b3,b2,k5.cells,k5.plain,k6.cells,k6.plain]
 generalize hS:Array.setIfInBounds _ _ _=G6
 have hl:Lx G5 G6:=a0X hS b2 (by decide)
 have b8:=a0M hS b2
 simp [b8]
 exact fun _=>⟨s3,s4,by simp [Rat.divInt],by simpa using k5.lx hl,by simpa using k6.lx hl⟩
theorem p0A {α:Type} {Q:a0e→List Value→α→Prop} {z:List Value} {x:α} (hz:Q H z x):∀ n:Nat,(e0q z n).length=n * z.length∧∀ k,k < n→Q H (((e0q z n).drop (k * z.length)).take z.length) x
 | 0=>⟨by simp [e0q],fun k hk=>by omega⟩
 | n + 1=>by
  obtain ⟨h1,h2⟩:=p0A hz n
  refine ⟨by rw [e0q,Z0S,h1,Z0U];omega,fun k hk=>?_⟩
  cases k with
  | zero=>simpa [e0q] using hz
  | succ k =>
   have:=h2 k (by omega)
   rw [e0q,show (k + 1) * z.length=z.length + k * z.length by rw [Z0U];omega,← b1t,List.drop_left]
   exact this
theorem m0m {p q6 q7 l:Nat} {c0 c1:Value} {cs:List Value} (hf:fl≤H.size) (h6:a0e.blk H q6=.row false a0w [.pointer (some ⟨p,0,none⟩)])
  (hb:a0e.blk H p=.row false a0d (c0 :: c1 :: .int .i64 (l:Int) :: cs)) (h7:a0e.blk H q7=.row false d0p [.int .i64 0]) (hl:l < 1073741823) :
  a0V env fl m0i [.pointer (some ⟨q6,0,none⟩),.pointer (some ⟨q7,0,none⟩)] H (fun r H'=>b0a PF H.size H' d0p 1 r (List.replicate (l + 1) 0)∧Ext H H') R:=by
 refine a0k W0X hf (h:=?_)
 intro ρ h0
 obtain ⟨n,hn⟩:∃ n,n=l + 1:=⟨_,rfl⟩
 rw [← hn]
 have w1:IntKind.i64.wrap ((l:Int) + 1)=(n:Int):=by rw [a0F (by omega) (by omega)];omega
 have hmk:=f0C (bytes:=8) (k:=.i64) (k':=.i64) (l:=n) (c:=n) (Z0E _) (by omega) (by omega)
 simp [H0S,C0J,C0K,h0,h6,hb,w1,hmk]
 generalize hG:Array.push H _=G
 obtain ⟨hx2,b0⟩:=h0K hG
 have f0:f0f 0:=by unfold f0f;omega
 obtain ⟨hr1,hr2⟩:=p0A (H:=G) (Q:=PF) (z:=[.int .i64 0]) (x:=0) ⟨rfl,f0⟩ n
 have ho:b0a PF H.size G d0p 1 (.slice (some ⟨H.size,0,none⟩) n n) (List.replicate n 0):=by
  refine ⟨_,by simpa using Own.mk (n:=n) (sz:=1) (cap:=n) b0 (by simpa using hr1) (Z0E _),fun k hk=>?_⟩
  rw [List.getElem_replicate];exact hr2 k (by simpa using hk)
 clear hG b0
 have hsl:=ho.slen
 rw [b1Q] at hsl
 simp [C0L,hsl]
 refine c0F (n:=n) (fun _ ρ G=>ρ 1=.pointer (some ⟨q7,0,none⟩)∧Ext H G∧b0a PF H.size G d0p 1 (ρ 3) (List.replicate n 0)) rfl rfl (by decide) (by omega) (by simp) (by simp) ?_ ?_ ?_ ?_
 ·exact ⟨by simp [h0],hx2,by simpa using ho⟩
 ·intro i ρ ρ' G h hI;simpa [h] using hI
 ·clear h0 ρ ho hx2 hr2
  rintro i ρ G hi gi gn ⟨g1,hx,ho⟩
  obtain ⟨so,g3⟩:∃ so,ρ 3=so:=⟨_,rfl⟩
  rw [g3] at ho
  have h7':=hx.blk h7
  have hil:i < (List.replicate n (0:Int)).length:=by simpa using hi
  obtain ⟨G5,hst,ho2,hxb⟩:=b0a.store (j:=i) (x:=(0:Int)) (w:=.int .i64 0) ho hil (by omega) rfl rfl (fun G' _ _=>⟨rfl,f0⟩) (by decide) (fun G' cs y _ _ h=>h)
  simp [C0M,C0N,g1,g3,gi,h7',ho.sls.ia hil,hst]
  have hs:(List.replicate n (0:Int)).set i 0=List.replicate n 0:=by simp
  rw [hs] at ho2
  exact Rnd.mk (by simp [gi]) (by simp [gn]) ⟨by simp [g1],⟨Z0N hx.1 hxb.1,fun b hb=>(hxb.2 b (Z0W hb hx.1) (fun h=>by have:=(ho.ge h).1;omega)).trans (hx.2 b hb)⟩,by simpa [g3] using ho2⟩
 ·rintro ρ G gi gn ⟨g1,hx,ho⟩
  simp [C0O]
  exact fun _=>ho
theorem m0b {p q6 q7 l:Nat} {c0 c1 s7:Value} {cs:List Value} (hf:fl≤H.size) (h6:a0e.blk H q6=.row false a0t [.pointer (some ⟨p,0,none⟩)])
  (hb:a0e.blk H p=.row false a0c (c0 :: c1 :: .int .i64 (l:Int) :: cs)) (h7:a0e.blk H q7=.row false a0a [.bool (a0l 0).1,s7]) (k7:Lim H s7 (a0l 0).2) (hl:l < 1073741823) :
  a0V env fl m0h [.pointer (some ⟨q6,0,none⟩),.pointer (some ⟨q7,0,none⟩)] H (fun r H'=>b0a PI H.size H' a0a 2 r (List.replicate (l + 1) 0)∧Ext H H') R:=by
 refine a0k W0N hf (h:=?_)
 intro ρ h0
 obtain ⟨n,hn⟩:∃ n,n=l + 1:=⟨_,rfl⟩
 rw [← hn]
 have w1:IntKind.i64.wrap ((l:Int) + 1)=(n:Int):=by rw [a0F (by omega) (by omega)];omega
 have hmk:=f0C (bytes:=32) (k:=.i64) (k':=.i64) (l:=n) (c:=n) (Z0E _) (by omega) (by omega)
 simp [H0I,B0J,B0K,h0,h6,hb,w1,hmk]
 generalize hG:Array.push H _=G
 obtain ⟨hx2,b0⟩:=h0K hG
 have f0:PI G [.bool false,.slice none 0 0] 0:=⟨_,by rw [e0w],by rw [e0w];exact Lim.nil⟩
 obtain ⟨hr1,hr2⟩:=p0A (H:=G) (Q:=PI) (z:=[.bool false,.slice none 0 0]) (x:=0) f0 n
 have ho:b0a PI H.size G a0a 2 (.slice (some ⟨H.size,0,none⟩) n n) (List.replicate n 0):=by
  refine ⟨_,by simpa using Own.mk (n:=n) (sz:=2) (cap:=n) b0 (by simpa using hr1) (Z0E _),fun k hk=>?_⟩
  rw [List.getElem_replicate];exact hr2 k (by simpa using hk)
 clear hG b0
 have hsl:=ho.slen
 rw [b1Q] at hsl
 simp [B0L,hsl]
 refine c0F (n:=n) (fun _ ρ G=>ρ 1=.pointer (some ⟨q7,0,none⟩)∧Ext H G∧b0a PI H.size G a0a 2 (ρ 3) (List.replicate n 0)) rfl rfl (by decide) (by omega) (by simp) (by simp) ?_ ?_ ?_ ?_
 ·exact ⟨by simp [h0],hx2,by simpa using ho⟩
 ·intro i ρ ρ' G h hI;simpa [h] using hI
 ·clear h0 ρ ho hx2 hr2
  rintro i ρ G hi gi gn ⟨g1,hx,ho⟩
  obtain ⟨so,g3⟩:∃ so,ρ 3=so:=⟨_,rfl⟩
  rw [g3] at ho
  have h7':=hx.blk h7
  have k7':=k7.mono hx
  have hil:i < (List.replicate n (0:Int)).length:=by simpa using hi
  obtain ⟨G5,hst,ho2,hxb⟩:=b0a.store (j:=i) (x:=(0:Int)) (w:=.agg #[.bool (a0l 0).1,s7]) ho hil (by omega) rfl (by simp [k7'.plain]) (fun G' _ hl=>⟨s7,rfl,k7'.lx hl⟩) (by decide) (fun G' cs y _ hl h=>b0q.lx h hl)
  simp [B0M,B0N,g1,g3,gi,h7',ho.sls.ia hil,hst]
  have hs:(List.replicate n (0:Int)).set i 0=List.replicate n 0:=by simp
  rw [hs] at ho2
  exact Rnd.mk (by simp [gi]) (by simp [gn]) ⟨by simp [g1],⟨Z0N hx.1 hxb.1,fun b hb=>(hxb.2 b (Z0W hb hx.1) (fun h=>by have:=(ho.ge h).1;omega)).trans (hx.2 b hb)⟩,by simpa [g3] using ho2⟩
 ·rintro ρ G gi gn ⟨g1,hx,ho⟩
  simp [B0O]
  exact fun _=>ho
def PV (_:a0e) (cs:List Value) (w:Value):Prop:=cs=[w]
theorem u0n:h0p PV:=fun _ _ _ _ _ h=>h
def PK (_:a0e) (cs:List Value) (k:Nat):Prop:=cs=[.int .i64 (k:Int)]
theorem u0m:h0p PK:=fun _ _ _ _ _ h=>h
structure Q0N (eN sz:Nat) (P:a0e→List Value→Int→Prop):Prop where
 mono:h0p P
 lx:∀ (G G':a0e) cs x,Lx G G'→P G cs x→P G' cs x
 ne:eN ≠ a0m
 sz:0 < sz
theorem Q0C:Q0N d0p 1 PF:=⟨S0t,fun _ _ _ _ _ h=>h,by decide,by decide⟩
theorem Q0B:Q0N a0a 2 PI:=⟨c0Y,fun _ _ _ _ hl h=>b0q.lx h hl,by decide,by decide⟩
structure e0m (eN sz:Nat) (P:a0e→List Value→Int→Prop) (fl:Nat) (H:a0e) (vs:List Value) (L:List (List Int)):Prop where
 len:vs.length=L.length
 own:∀ i (h:i < L.length),b0a P fl H eN sz (vs[i]'(by omega)) L[i]
 apart:∀ i j (h:i < L.length) (h':j < L.length),i ≠ j→slB (vs[i]'(by omega))=none ∨ slB (vs[i]'(by omega)) ≠ slB (vs[j]'(by omega))
theorem e0m.mono {eN sz:Nat} {P:a0e→List Value→Int→Prop} {vs:List Value} {L:List (List Int)} (hP:Q0N eN sz P) (h:e0m eN sz P fl H vs L) (hx:Ext H G):e0m eN sz P fl G vs L :=
 ⟨h.len,fun i hi=>(h.own i hi).mono hP.mono hx,h.apart⟩
theorem e0m.store {eN sz i j:Nat} {P:a0e→List Value→Int→Prop} {vs:List Value} {L:List (List Int)} {x:Int} {w:Value} (hP:Q0N eN sz P) (h:e0m eN sz P fl H vs L) (hi:i < L.length) (hj:j < L[i].length)
  (hw:(a0S w).length=sz) (hp:(a0S w).all a0q=true) (hx:P H (a0S w) x) :
  ∃ G,e0Y fl H sz (adr sz (vs[i]'(by have:=h.len;omega)) j) w=some G∧e0m eN sz P fl G vs (L.set i (L[i].set j x))∧c0V (slB (vs[i]'(by have:=h.len;omega))) H G∧Lx H G:=by
 obtain ⟨G,hst,ho,hxb⟩:=b0a.store (x:=x) (w:=w) (h.own i hi) hj hP.sz hw hp (fun G' _ hl=>hP.lx _ _ _ _ hl hx) hP.ne (fun G' cs y _ hl hy=>hP.lx _ _ _ _ hl hy)
 have hlx:=(h.own i hi).lx hP.ne hxb
 refine ⟨G,hst,⟨by simp [h.len],fun k hk=>?_,fun a b ha hb hab=>h.apart a b (by simpa using ha) (by simpa using hb) hab⟩,hxb,hlx⟩
 have hk':k < L.length:=by simpa using hk
 by_cases hki:k=i
 ·subst hki;simpa using ho
 ·rw [c1j (by omega)]
  exact (h.own k hk').off hxb (h.apart k i hk' hi hki) (fun cs y hy=>hP.lx _ _ _ _ hlx hy)
structure h0e (fl:Nat) (H:a0e) (p n m:Nat) (L:List (List Int)) (D:Int) (bs:List Nat) (k:Nat) (sR sB:Value) (vs:List Value):Prop where
 blk:a0e.blk H p=.row false a0d [.int .i64 (n:Int),.int .i64 (m:Int),.int .i64 ((2 * n + m:Nat):Int),sR,.int .i64 D,sB,.int .i64 (k:Int)]
 low:fl≤p
 d:f0f D
 heads:b0a PV fl H e0v 1 sR vs
 rows:e0m d0p 1 PF fl H vs L
 basis:b0a PK fl H e0i 1 sB bs
theorem h0e.mono {p n m k:Nat} {L:List (List Int)} {D:Int} {bs:List Nat} {sR sB:Value} {vs:List Value} (h:h0e fl H p n m L D bs k sR sB vs) (hx:Ext H G):h0e fl G p n m L D bs k sR sB vs :=
 ⟨hx.blk h.blk,h.low,h.d,h.heads.mono u0n hx,h.rows.mono Q0C hx,h.basis.mono u0m hx⟩
theorem h0e.store {p n m k i j:Nat} {L:List (List Int)} {D x:Int} {bs:List Nat} {sR sB:Value} {vs:List Value} (h:h0e fl H p n m L D bs k sR sB vs) (hi:i < L.length) (hj:j < L[i].length) (hx:f0f x) :
  ∃ G,e0Y fl H 1 (adr 1 (vs[i]'(by have:=h.rows.len;omega)) j) (.int .i64 x)=some G∧h0e fl G p n m (L.set i (L[i].set j x)) D bs k sR sB vs∧c0V (slB (vs[i]'(by have:=h.rows.len;omega))) H G∧Lx H G:=by
 obtain ⟨G,h1,h2,h3,h4⟩:=h.rows.store Q0C hi hj (w:=.int .i64 x) (x:=x) rfl rfl ⟨rfl,hx⟩
 have hr:=h.rows.own i hi
 have hne:=hr.ne h.blk (by decide)
 exact ⟨G,h1,⟨(h3.2 _ (a0g h.blk) hne).trans h.blk,h.low,h.d,h.heads.lxm (hr.lxT (by decide) h3) (fun _ _ h=>h),h2,h.basis.lxm (hr.lxT (by decide) h3) (fun _ _ h=>h)⟩,h3,h4⟩
theorem h0e.head {p n m k i:Nat} {L:List (List Int)} {D:Int} {bs:List Nat} {sR sB:Value} {vs:List Value} (h:h0e fl H p n m L D bs k sR sB vs) (hi:i < L.length) :
  b0o H false 1 (adr 1 sR i)=some (vs[i]'(by have:=h.rows.len;omega)):=by
 have hl:=h.rows.len
 obtain ⟨w,h1,h2⟩:=h.heads.sls.load1 (j:=i) (by omega)
 rw [h1]
 have:[w]=[vs[i]'(by omega)]:=h2
 simpa using this
theorem h0e.num {p n m k i j:Nat} {L:List (List Int)} {D:Int} {bs:List Nat} {sR sB:Value} {vs:List Value} (h:h0e fl H p n m L D bs k sR sB vs) (hi:i < L.length) (hj:j < L[i].length) :
  b0o H false 1 (adr 1 (vs[i]'(by have:=h.rows.len;omega)) j)=some (.int .i64 L[i][j])∧f0f L[i][j]:=by
 obtain ⟨w,h1,h2,h3⟩:=(h.rows.own i hi).sls.load1 (j:=j) hj
 rw [h1]
 exact ⟨by simpa using h2,h3⟩
structure h0c (fl:Nat) (H:a0e) (p n m:Nat) (L:List (List Int)) (D:Int) (bs:List Nat) (k:Nat) (sR sD sB:Value) (vs:List Value):Prop where
 blk:a0e.blk H p=.row false a0c [.int .i64 (n:Int),.int .i64 (m:Int),.int .i64 ((2 * n + m:Nat):Int),sR,.bool (a0l D).1,sD,sB,.int .i64 (k:Int)]
 low:fl≤p
 d:Lim H sD (a0l D).2
 heads:b0a PV fl H b0b 1 sR vs
 rows:e0m a0a 2 PI fl H vs L
 basis:b0a PK fl H e0i 1 sB bs
theorem h0c.mono {p n m k:Nat} {L:List (List Int)} {D:Int} {bs:List Nat} {sR sD sB:Value} {vs:List Value} (h:h0c fl H p n m L D bs k sR sD sB vs) (hx:Ext H G):h0c fl G p n m L D bs k sR sD sB vs :=
 ⟨hx.blk h.blk,h.low,h.d.mono hx,h.heads.mono u0n hx,h.rows.mono Q0B hx,h.basis.mono u0m hx⟩
theorem h0c.store {p n m k i j:Nat} {L:List (List Int)} {D x:Int} {bs:List Nat} {sR sD sB:Value} {vs:List Value} (h:h0c fl H p n m L D bs k sR sD sB vs) (hi:i < L.length) (hj:j < L[i].length) {w:Value} (hc:(a0S w).length=2) (hp:(a0S w).all a0q=true) (hx:PI H (a0S w) x) :
  ∃ G,e0Y fl H 2 (adr 2 (vs[i]'(by have:=h.rows.len;omega)) j) w=some G∧h0c fl G p n m (L.set i (L[i].set j x)) D bs k sR sD sB vs∧c0V (slB (vs[i]'(by have:=h.rows.len;omega))) H G∧Lx H G:=by
 obtain ⟨G,h1,h2,h3,h4⟩:=h.rows.store Q0B hi hj (w:=w) (x:=x) hc hp hx
 have hr:=h.rows.own i hi
 have hne:=hr.ne h.blk (by decide)
 exact ⟨G,h1,⟨(h3.2 _ (a0g h.blk) hne).trans h.blk,h.low,h.d.lx h4,h.heads.lxm (hr.lxT (by decide) h3) (fun _ _ h=>h),h2,h.basis.lxm (hr.lxT (by decide) h3) (fun _ _ h=>h)⟩,h3,h4⟩
theorem h0c.head {p n m k i:Nat} {L:List (List Int)} {D:Int} {bs:List Nat} {sR sD sB:Value} {vs:List Value} (h:h0c fl H p n m L D bs k sR sD sB vs) (hi:i < L.length) :
  b0o H false 1 (adr 1 sR i)=some (vs[i]'(by have:=h.rows.len;omega)):=by
 have hl:=h.rows.len
 obtain ⟨w,h1,h2⟩:=h.heads.sls.load1 (j:=i) (by omega)
 rw [h1]
 have:[w]=[vs[i]'(by omega)]:=h2
 simpa using this
theorem h0c.num {p n m k i j:Nat} {L:List (List Int)} {D:Int} {bs:List Nat} {sR sD sB:Value} {vs:List Value} (h:h0c fl H p n m L D bs k sR sD sB vs) (hi:i < L.length) (hj:j < L[i].length) :
  ∃ w,b0o H true 2 (adr 2 (vs[i]'(by have:=h.rows.len;omega)) j)=some w∧b0q H w (a0l L[i][j]):=by
 obtain ⟨cs,h1,_,h3⟩:=Sls.load (h.rows.own i hi).sls (j:=j) hj (by omega);exact ⟨_,h1,h3⟩
end
section
open Go
def I0S (P:Program):List Field→Nat→Option Nat
 | [],acc=>some acc
 | f :: r,acc=>if f.offset=acc then I0S P r (acc + P.cellsOf f.type) else none
def e0o (P:Program):Nat→TypeId→Bool
 | 0,_=>false
 | m + 1,t =>
  match P.underlying t with
  | some .bool=>P.cellsOf t == 1
  | some (.int _)=>P.cellsOf t == 1
  | some .string=>P.cellsOf t == 1
  | some (.slice e)=>P.cellsOf t == 1 && e0o P m e && P.cellsOf e != 0
  | some (.struct fs)=>I0S P fs.toList 0 == some (P.cellsOf t) && fs.toList.all fun f=>e0o P m f.type
  | _=>false
def IsT (P:Program) (H:a0e):Nat→TypeId→List Value→Prop
 | 0,_,_=>False
 | m + 1,t,cs =>
  match P.underlying t with
  | some .bool=>∃ b,cs=[.bool b]
  | some (.int k)=>∃ n,cs=[.int k n]∧(Lit.int k n).wf=true
  | some .string=>∃ s,cs=[.string s]∧s.size≤maxLen
  | some (.slice e)=>cs=[.slice none 0 0] ∨ ∃ b len cap cells,cs=[.slice (some ⟨b,0,none⟩) len cap]∧len≤cap∧cap≤maxLen∧H.blk b=.row true e cells∧cells.length=len * P.cellsOf e ∧
    ∀ i,i < len→IsT P H m e ((cells.drop (i * P.cellsOf e)).take (P.cellsOf e))
  | some (.struct fs)=>∃ parts:List (List Value),cs=parts.flatten∧parts.length=fs.toList.length∧∀ i f,fs.toList[i]? = some f→IsT P H m f.type (parts.getD i [])
  | _=>False
def g0b (H:a0e):Prop:=∀ b e cs,H.blk b ≠ .row false e cs
def l0S (H H':a0e):Prop:=H.size≤H'.size∧∀ b,b < H.size→H'.blk b=H.blk b
theorem l0S.refl (H:a0e):l0S H H:=⟨Z0E _,fun _ _=>rfl⟩
theorem l0S.trans {H H1 H2:a0e} (h:l0S H H1) (k:l0S H1 H2):l0S H H2:=⟨Z0N h.1 k.1,fun b hb=>(k.2 b (Z0W hb h.1)).trans (h.2 b hb)⟩
theorem l0S.push (H:a0e) (r:Blk):l0S H (H.push r):=⟨by simp,fun b hb=>by rw [a0y,Z0F (by omega)]⟩
theorem IsT.mono {P:Program} {H H':a0e} (hx:l0S H H'):∀ {m:Nat} {t:TypeId} {cs:List Value},IsT P H m t cs→IsT P H' m t cs
 | 0,_,_,h=>h
 | m + 1,t,cs,h=>by
  unfold IsT at h ⊢
  split at h
  ·exact h
  ·exact h
  ·exact h
  ·rename_i e _
   rcases h with h | ⟨b,len,cap,cells,h1,h2,h3,h4,h5,h6⟩
   ·exact .inl h
   ·exact .inr ⟨b,len,cap,cells,h1,h2,h3,by rw [hx.2 b (a0g h4)];exact h4,h5,fun i hi=>(h6 i hi).mono hx⟩
  ·obtain ⟨parts,h1,h2,h3⟩:=h
   exact ⟨parts,h1,h2,fun i f hf=>(h3 i f hf).mono hx⟩
  ·exact h
variable {X:Cx} {φ:Inj} {H:a0e} {w:World}
theorem Rel.pushRo (hR:Rel X φ H w) (hro:g0b H) {B o:Nat} {e el:TypeId} {fz:Nat × Nat} {cs:List Value} {c:Array Value} (hB:w.heap[B]? = some (.cells c el fz)) (hle:o + cs.length≤c.size)
  (hc:CR X φ w.shape? cs ((c.toList.drop o).take cs.length)) (hlt:B < X.base):Rel X (ad φ H.size B o) (H.push (.row true e cs)) w∧g0b (H.push (.row true e cs)):=by
 have hext:∀ b x,φ b=some x→ad φ H.size B o b=some x:=fun b x h=>t0M hR h
 have hro':g0b (H.push (.row true e cs)):=by
  intro b e1 cs1 h
  rw [a0y] at h
  split at h
  ·cases h
  ·exact hro b e1 cs1 h
 refine ⟨⟨hR.bs,?_,?_,fun b b' B1 o1 o' e1 cs1 _ _ _ h=>Z0T h (hro' b e1 cs1)⟩,hro'⟩
 ·intro b x h
  rw [a1V]
  rcases g0d hR h with ⟨h1,_⟩ | ⟨h1,_⟩ <;> omega
 ·intro b B1 o1 ro e1 cs1 h1 h2
  rw [a0y] at h2
  rcases g0d hR h1 with ⟨rfl,h3⟩ | ⟨h3,h4⟩
  ·rw [Z0I rfl] at h2;cases h2;cases h3
   exact ⟨c,el,fz,hB,hle,hc.mono hext (fun _ _ h=>h),fun h=>(by cases h),fun _=>hlt⟩
  ·rw [Z0F (by omega)] at h2
   obtain ⟨c1,el,fz,g1,g2,g3,g4⟩:=hR.row b B1 o1 ro e1 cs1 h4 h2
   exact ⟨c1,el,fz,g1,g2,g3.mono hext (fun _ _ h=>h),g4⟩
theorem Rel.pushFree (hR:Rel X φ H w) (hro:g0b H) (e:TypeId):Rel X φ (H.push (.row true e [])) w∧g0b (H.push (.row true e [])):=by
 have hro':g0b (H.push (.row true e [])):=by
  intro b e1 cs1 h
  rw [a0y] at h
  split at h
  ·cases h
  ·exact hro b e1 cs1 h
 refine ⟨⟨hR.bs,fun b x h=>by have:=hR.lt b x h;rw [a1V];omega,fun b B1 o1 ro e1 cs1 h1 h2=>?_,fun b b' B1 o1 o' e1 cs1 _ _ _ h=>Z0T h (hro' b e1 cs1)⟩,hro'⟩
 have:=hR.lt b _ h1
 rw [a0y,Z0F (by omega)] at h2
 exact hR.row b B1 o1 ro e1 cs1 h1 h2
theorem m0R {α:Type} {f:Nat→Option α}:∀ {n k:Nat} {l:List α},(List.range' k n).mapM f=some l→l.length=n∧∀ i,i < n→f (k + i)=l[i]?
 | 0,k,l,h=>by simp at h;subst h;exact ⟨rfl,fun i hi=>by omega⟩
 | n + 1,k,l,h=>by
  rw [c1f,b1K] at h
  simp only [Z0J,Z0D,Z0K,Z0G] at h
  obtain ⟨x,h1,r,h2,rfl⟩:=h
  obtain ⟨h3,h4⟩:=m0R h2
  refine ⟨by simp [h3],fun i hi=>?_⟩
  cases i with
  | zero=>simpa using h1
  | succ i=>rw [show k + (i + 1)=k + 1 + i by omega,h4 i (by omega)];simp
theorem j0n {a:Addr} {n:Nat} {l:List Value} (hn:n ≠ 0) (h:w.cells? 0 a n=some l):a.spot=none∧∃ c el fz,w.heap[a.block]? = some (.cells c el fz)∧a.off + n≤c.size∧l=(c.toList.drop a.off).take n:=by
 unfold World.cells? at h
 rw [Z0I (a1x _),List.range_eq_range'] at h
 obtain ⟨h1,h2⟩:=m0R h
 have hget:∀ i,i < n→∃ v,w.cell? (a.add i)=some v∧l[i]? = some v:=fun i hi=>by
  have:=h2 i hi
  rw [a1i] at this
  rw [Z0H (by omega)] at this
  exact ⟨_,this,Z0H (by omega)⟩
 obtain ⟨v0,g1,_⟩:=hget 0 (by omega)
 have hsp:a.spot=none∧∃ c el fz,w.heap[a.block]? = some (.cells c el fz):=by
  simp only [Addr.add,a1p,World.cell?] at g1
  split at g1
  ·rename_i c el fz hc
   split at g1
   ·cases g1
   ·rename_i hs;exact ⟨by simpa using hs,c,el,fz,hc⟩
  ·cases g1
 obtain ⟨hs,c,el,fz,hc⟩:=hsp
 have hcell:∀ i,w.cell? (a.add i)=c[a.off + i]?:=fun i=>by
  unfold Addr.add
  split
  ·rename_i hi;subst hi;simp [World.cell?,hc,hs]
  ·simp [World.cell?,hc]
 have hsz:a.off + n≤c.size:=by
  obtain ⟨v,g3,_⟩:=hget (n - 1) (by omega)
  rw [hcell] at g3
  have:=(a1n.1 g3).1
  omega
 refine ⟨hs,c,el,fz,hc,hsz,?_⟩
 apply b1B
 intro i
 by_cases hi:i < n
 ·obtain ⟨v,g3,g4⟩:=hget i hi
  rw [g4,a1O,Z0I hi,a1T,a1Z,← hcell,g3]
 ·rw [Z0P (by omega),Z0P]
  simp;omega
def m0C (P:Program) (X:Cx) (φ:Inj) (H:a0e) (w:World) (Z:a0e→List Value→Prop) (cs:List Value):Prop :=
 ∃ H' φ' cs',(∀ b x,φ b=some x→φ' b=some x)∧l0S H H'∧Rel X φ' H' w∧g0b H'∧CR X φ' w.shape? cs' cs∧Z H' cs'
section
variable {D:Type} {enc:TypeId × Value→D} {P:Program} (hb:X.base=w.heap.size)
include hb
theorem m0O {m fuel:Nat} (ih:∀ (t:TypeId) (cs:List Value) (x:DataW D × List MemPlace) (H:a0e) (φ:Inj),DataW.trod enc P w 0 (fun _=>true) true fuel t cs=some x→e0o P m t=true→Rel X φ H w→g0b H →
   m0C P X φ H w (fun H' cs'=>IsT P H' m t cs') cs) :
  ∀ (fs:List Field) (acc tot:Nat) (cs:List Value) (H:a0e) (φ:Inj),I0S P fs acc=some tot→cs.length=tot→fs.all (fun f=>e0o P m f.type)=true →
   (∀ f,f ∈ fs→∃ x,DataW.trod enc P w 0 (fun _=>true) true fuel f.type ((cs.drop f.offset).take (P.cellsOf f.type))=some x)→Rel X φ H w→g0b H→acc≤tot →
   m0C P X φ H w (fun H' cs'=>∃ parts:List (List Value),cs' = parts.flatten∧parts.length=fs.length∧∀ i f,fs[i]? = some f→IsT P H' m f.type (parts.getD i [])) (cs.drop acc)
 | [],acc,tot,cs,H,φ,hl,hcs,_,_,hR,hro,_=>by
  simp only [I0S,Z0G] at hl
  refine ⟨H,φ,[],fun _ _ h=>h,l0S.refl H,hR,hro,?_,[],rfl,rfl,fun i f h=>by simp at h⟩
  rw [List.drop_of_length_le (by omega)];exact CR.nil
 | f :: r,acc,tot,cs,H,φ,hl,hcs,hp,hm,hR,hro,hat=>by
  simp only [I0S] at hl
  split at hl
  case isFalse=>cases hl
  rename_i hoff
  obtain ⟨x,h1⟩:=hm f (by simp)
  have h2:=fun g hg=>hm g (b1z _ hg)
  simp only [a1F,Z0Q] at hp
  obtain ⟨H1,φ1,c1,e1,m1,R1,o1,k1,z1⟩:=ih _ _ _ _ _ h1 hp.1 hR hro
  have hlay:∀ (l:List Field) (a t:Nat),I0S P l a=some t→a≤t:=by
   intro l
   induction l with
   | nil=>intro a t h;simp only [I0S,Z0G] at h;omega
   | cons g l ihl =>
    intro a t h
    simp only [I0S] at h
    split at h
    ·have:=ihl _ _ h;omega
    ·cases h
  have hle:=hlay r _ _ hl
  obtain ⟨H2,φ2,c2,e2,m2,R2,o2,k2,parts,p1,p2,p3⟩:=m0O ih r (acc + P.cellsOf f.type) tot cs H1 φ1 hl hcs hp.2 h2 R1 o1 hle
  refine ⟨H2,φ2,c1 ++ c2,fun b x h=>e2 b x (e1 b x h),m1.trans m2,R2,o2,?_,c1 :: parts,by rw [p1];rfl,by simp [p2],fun i g hi=>?_⟩
  ·have hsplit:cs.drop acc=(cs.drop f.offset).take (P.cellsOf f.type) ++ cs.drop (acc + P.cellsOf f.type):=by
    rw [hoff,← b1t,b1p]
   rw [hsplit]
   exact (k1.mono e2 (fun _ _ h=>h)).append k2
  ·cases i with
   | zero=>simp only [List.getElem?_cons_zero,Z0G] at hi;subst hi;exact IsT.mono m2 z1
   | succ i=>simp only [List.getElem?_cons_succ] at hi;exact p3 i g hi
theorem m0N {m fuel sz:Nat} {e:TypeId} {a:Addr} {c:Array Value} (hsz:P.cellsOf e=sz) (ih:∀ (t:TypeId) (cs:List Value) (x:DataW D × List MemPlace) (H:a0e) (φ:Inj),DataW.trod enc P w 0 (fun _=>true) true fuel t cs=some x→e0o P m t=true→Rel X φ H w→g0b H →
   m0C P X φ H w (fun H' cs'=>IsT P H' m t cs') cs) (hpe:e0o P m e=true) :
  ∀ (n:Nat),(∀ i,i < n→∃ x,DataW.trod enc P w 0 (fun _=>true) true fuel e ((c.toList.drop (a.off + i * sz)).take sz)=some x)→∀ (H:a0e) (φ:Inj),a.off + n * sz≤c.size→Rel X φ H w→g0b H →
   m0C P X φ H w (fun H' cells=>cells.length=n * sz∧∀ i,i < n→IsT P H' m e ((cells.drop (i * sz)).take sz)) ((c.toList.drop a.off).take (n * sz))
 | 0,_,H,φ,_,hR,hro=>⟨H,φ,[],fun _ _ h=>h,l0S.refl H,hR,hro,by simpa using CR.nil,by simp,fun i hi=>by omega⟩
 | n + 1,hx,H,φ,hle,hR,hro=>by
  have hmul:(n + 1) * sz=n * sz + sz:=by rw [Z0U];omega
  obtain ⟨H1,φ1,c1,e1,m1,R1,o1,k1,l1,z1⟩:=m0N hsz ih hpe n (fun i hi=>hx i (by omega)) H φ (by omega) hR hro
  obtain ⟨x,hx1⟩:=hx n (by omega)
  obtain ⟨H2,φ2,c2,e2,m2,R2,o2,k2,z2⟩:=ih _ _ _ _ _ hx1 hpe R1 o1
  have hl2:c2.length=sz:=by
   have:=k2.1
   rw [this,a1H,List.length_drop,c1h];omega
  refine ⟨H2,φ2,c1 ++ c2,fun b x h=>e2 b x (e1 b x h),m1.trans m2,R2,o2,?_,by rw [Z0S,l1,hl2,hmul],fun i hi=>?_⟩
  ·have hsplit:(c.toList.drop a.off).take ((n + 1) * sz)=(c.toList.drop a.off).take (n * sz) ++ (c.toList.drop (a.off + n * sz)).take sz:=by
    rw [hmul,List.take_add,b1t]
   rw [hsplit]
   exact (k1.mono e2 (fun _ _ h=>h)).append k2
  ·by_cases hin:i < n
   ·have h1:i * sz + sz≤n * sz:=by rw [← Nat.succ_mul];exact Z0L _ hin
    have:((c1 ++ c2).drop (i * sz)).take sz=(c1.drop (i * sz)).take sz:=by
     rw [a1J (by omega),a1X (by simp;omega)]
    rw [this];exact IsT.mono m2 (z1 i hin)
   ·have:i=n:=by omega
    subst this
    have:((c1 ++ c2).drop (i * sz)).take sz=c2:=by
     rw [← l1,List.drop_left,Z0R (by omega)]
    rw [this];exact z2
theorem o0w:∀ (m fuel:Nat) (t:TypeId) (cs:List Value) (x:DataW D × List MemPlace) (H:a0e) (φ:Inj),DataW.trod enc P w 0 (fun _=>true) true fuel t cs=some x→e0o P m t=true→Rel X φ H w→g0b H →
  m0C P X φ H w (fun H' cs'=>IsT P H' m t cs') cs
 | 0,_,_,_,_,_,_,_,hp,_,_=>by simp [e0o] at hp
 | m + 1,0,_,_,_,_,_,h,_,_,_=>by simp [DataW.trod] at h
 | m + 1,fuel + 1,t,cs,x,H,φ,h,hp,hR,hro=>by
  unfold e0o at hp
  have fin:∀ cs',CR X φ w.shape? cs' cs→IsT P H (m + 1) t cs'→m0C P X φ H w (fun H' cs'=>IsT P H' (m + 1) t cs') cs:=fun cs' h1 h2=>⟨H,φ,cs',fun _ _ h=>h,l0S.refl H,hR,hro,h1,h2⟩
  split at hp
  ·rename_i hu
   obtain ⟨b,rfl,_⟩:=DataW.trod_bool hu h
   refine fin [.bool b] (CR.cons (.bool b) CR.nil) ?_
   unfold IsT;rw [hu];exact ⟨b,rfl⟩
  ·rename_i k hu
   obtain ⟨n,rfl,_,hwf⟩:=DataW.trod_int hu h
   refine fin [.int k n] (CR.cons (.int k n) CR.nil) ?_
   unfold IsT;rw [hu];exact ⟨n,rfl,hwf⟩
  ·rename_i hu
   obtain ⟨s,rfl,_,hs⟩:=DataW.trod_string hu h
   refine fin [.string s] (CR.cons (.str s) CR.nil) ?_
   unfold IsT;rw [hu];exact ⟨s,rfl,hs⟩
  ·rename_i e hu
   simp only [Z0Q,bne_iff_ne,ne_eq] at hp
   obtain ⟨⟨_,hpe⟩,hne⟩:=hp
   rcases Go.Deep.open_slice hu h with ⟨rfl,_⟩ | ⟨a,len,cap,mm,n,Dd,Pl,rfl,_,hlc,hcm,hmm,_,hel⟩
   ·refine fin [.slice none 0 0] (CR.cons .snil CR.nil) ?_
    unfold IsT;rw [hu];exact .inl rfl
   ·simp only [a1p] at hmm
    subst hmm
    by_cases hcap:mm=0
    ·have hl0:len=0:=by omega
     subst hcap hl0
     obtain ⟨R2,o2⟩:=hR.pushFree hro e
     refine ⟨H.push (.row true e []),φ,[.slice (some ⟨H.size,0,none⟩) 0 0],fun _ _ h=>h,l0S.push _ _,R2,o2,CR.cons (.sle _ _) CR.nil,?_⟩
     unfold IsT;rw [hu]
     exact .inr ⟨H.size,0,0,[],rfl,Z0E _,a1x _,by rw [a0y,Z0I rfl],by simp,fun i hi=>by omega⟩
    ·obtain ⟨l0,g1,_⟩:=hel 0 (by omega)
     rw [show a.add (0 * P.cellsOf e)=a by simp [Addr.add]] at g1
     obtain ⟨hsp,c,el,fz,hc,hsz0,_⟩:=j0n hne g1
     have hwin:∀ i,i < mm→a.off + i * P.cellsOf e + P.cellsOf e≤c.size∧DataW.trod enc P w 0 (fun _=>true) true n e ((c.toList.drop (a.off + i * P.cellsOf e)).take (P.cellsOf e))=some (Dd i,Pl i):=by
      intro i hi
      obtain ⟨li,q1,q2⟩:=hel i hi
      obtain ⟨_,c',el',fz',q3,q4,q5⟩:=j0n hne q1
      have hab:(a.add (i * P.cellsOf e)).block=a.block∧(a.add (i * P.cellsOf e)).off=a.off + i * P.cellsOf e:=by
       unfold Addr.add;split
       ·rename_i h0;rw [h0];exact ⟨rfl,rfl⟩
       ·exact ⟨rfl,rfl⟩
      rw [hab.1,hc] at q3;cases q3
      rw [hab.2] at q4 q5
      exact ⟨q4,by rw [← q5];exact q2⟩
     have htot:a.off + len * P.cellsOf e≤c.size:=by
      have:=(hwin (mm - 1) (by omega)).1
      have h2:len * P.cellsOf e≤mm * P.cellsOf e:=Z0L _ hlc
      have h3:mm * P.cellsOf e=(mm - 1) * P.cellsOf e + P.cellsOf e:=by
       rw [← Nat.succ_mul];congr 1;omega
      omega
     obtain ⟨H1,φ1,cells,e1,m1,R1,o1,k1,l1,z1⟩:=m0N hb rfl (o0w m n) hpe len (fun i hi=>⟨_,(hwin i (by omega)).2⟩) H φ htot hR hro
     have hlt:a.block < X.base:=by rw [hb];exact (a1n.1 hc).1
     obtain ⟨R2,o2⟩:=R1.pushRo o1 (e:=e) (o:=a.off) (cs:=cells) hc (by rw [l1];exact htot) (by rw [l1];exact k1) hlt
     refine ⟨H1.push (.row true e cells),ad φ1 H1.size a.block a.off,[.slice (some ⟨H1.size,0,none⟩) len mm],fun b x hbx=>t0M R1 (e1 b x hbx),m1.trans (l0S.push _ _),R2,o2,?_,?_⟩
     ·refine CR.cons (.sl _ _ _ _ _ a.block a.off rfl R0l hsp rfl (fun _=>rfl) (fun _=>rfl) hlc (fun hbase=>by omega)) CR.nil
     ·unfold IsT;rw [hu]
      refine .inr ⟨H1.size,len,mm,cells,rfl,hlc,hcm,by rw [a0y,Z0I rfl],l1,fun i hi=>IsT.mono (l0S.push _ _) (z1 i hi)⟩
  ·rename_i fs hu
   simp only [Z0Q,beq_iff_eq] at hp
   obtain ⟨xs,n,hfu,_,hcl,hxl,hxs⟩:=DataW.trod_struct hu h
   have hf:n=fuel:=by omega
   subst hf
   obtain ⟨H1,φ1,c1,e1,m1,R1,o1,k1,parts,p1,p2,p3⟩:=m0O hb (o0w m n) fs.toList 0 (P.cellsOf t) cs H φ hp.1 hcl hp.2 (fun f hf=>by
    obtain ⟨i,hi,rfl⟩:=c1a.1 hf
    have:=hxs i fs.toList[i] (by simp)
    rw [Z0H (by rw [hxl];simpa using hi)] at this
    exact ⟨_,this⟩) hR hro (a1x _)
   refine ⟨H1,φ1,c1,e1,m1,R1,o1,by simpa using k1,?_⟩
   unfold IsT;rw [hu];exact ⟨parts,p1,p2,p3⟩
  ·cases hp
end
end
section
open Go Go.RowKit Go.ChangeShapes Go.WideShapes Go.ChangeAt
def IsV (P:Program) (H:a0e) (m:Nat) (t:TypeId) (v:Value):Prop :=
 match P.underlying t with
 | some (.struct _)=>∃ cs,v=.agg cs∧IsT P H m t cs.toList
 | _=>IsT P H m t [v]
def F0K (P:Program) (H:a0e) (m:Nat):List TypeId→List Value→Prop
 | [],[]=>True
 | t :: ts,v :: vs=>IsV P H m t v∧F0K P H m ts vs
 | _,_=>False
theorem IsV.mono {P:Program} {H H':a0e} (hx:l0S H H') {m:Nat} {t:TypeId} {v:Value} (h:IsV P H m t v):IsV P H' m t v:=by
 unfold IsV at h ⊢
 split at h
 ·obtain ⟨cs,h1,h2⟩:=h;exact ⟨cs,h1,h2.mono hx⟩
 ·exact IsT.mono hx h
theorem F0K.mono {P:Program} {H H':a0e} (hx:l0S H H') {m:Nat}:∀ {ts:List TypeId} {vs:List Value},F0K P H m ts vs→F0K P H' m ts vs
 | [],[],h=>h
 | t :: ts,v :: vs,h=>⟨h.1.mono hx,F0K.mono hx h.2⟩
 | [],_ :: _,h=>h.elim
 | _ :: _,[],h=>h.elim
variable {X:Cx} {φ:Inj} {H:a0e} {w:World} {D:Type} {enc:TypeId × Value→D} {P:Program}
theorem x0I {t:TypeId} {v:Value} {base:Nat} {m:Nat} (hp:e0o P m t=true) (hns:∀ fs,P.underlying t ≠ some (.struct fs)) (ho:Value.okWide P w .any base t v):v.cells.toList=[v]:=by
 cases m with
 | zero=>simp [e0o] at hp
 | succ m =>
  unfold e0o at hp
  unfold Value.okWide at ho
  cases hu:P.underlying t with
  | none=>simp [hu] at hp
  | some d =>
   cases d <;> simp only [hu] at hp ho <;> try (exact Z0T hp Bool.false_ne_true)
   all_goals (first | (exact Z0T hu (hns _)) | skip)
   all_goals
    unfold Cell.okWide at ho
    rw [hu] at ho
    unfold Cell.ok at ho
    rw [hu] at ho
    cases v <;> simp_all [Value.cells]
theorem G0D (hb:X.base=w.heap.size) {m:Nat} {t:TypeId} {v:Value} {d:DataW D} {ps:List MemPlace} {base:Nat} (h:DataW.Trod enc P w 0 (fun _=>true) true t v d ps) (hp:e0o P m t=true) (ho:Value.okWide P w .any base t v)
  (hR:Rel X φ H w) (hro:g0b H):∃ H' φ' v',(∀ b x,φ b=some x→φ' b=some x)∧l0S H H'∧Rel X φ' H' w∧g0b H'∧VR X φ' w.shape? v' v∧IsV P H' m t v':=by
 obtain ⟨fuel,h⟩:=h
 obtain ⟨H',φ',cs',e1,m1,R1,o1,k1,z1⟩:=o0w hb m fuel t _ _ H φ h hp hR hro
 by_cases hs:∃ fs,P.underlying t=some (.struct fs)
 ·obtain ⟨fs,hs⟩:=hs
  have ho':=ho
  unfold Value.okWide at ho'
  rw [hs] at ho'
  obtain ⟨cs,rfl,_⟩:=ho'
  refine ⟨H',φ',.agg cs'.toArray,e1,m1,R1,o1,VR.agg_iff.2 (by simpa [Value.cells] using k1),?_⟩
  unfold IsV
  rw [hs]
  exact ⟨_,rfl,by simpa using z1⟩
 ·have hns:∀ fs,P.underlying t ≠ some (.struct fs):=fun fs h=>hs ⟨fs,h⟩
  rw [x0I hp hns ho] at k1
  have hl:cs'.length=1:=by have:=k1.1;simpa using this
  obtain ⟨v',rfl⟩:∃ v',cs' = [v']:=by
   match cs',hl with
   | [v'],_=>exact ⟨v',rfl⟩
  refine ⟨H',φ',v',e1,m1,R1,o1,k1.head,?_⟩
  unfold IsV
  split
  ·rename_i fs hu;exact Z0T hu (hns fs)
  ·exact z1
theorem q0z (hb:X.base=w.heap.size) {m:Nat} {base:Nat}:∀ (ts:List TypeId) (vs:List Value) (ds:List (DataW D)) (ps:List MemPlace) (H:a0e) (φ:Inj),DataW.TrodAll enc P w 0 (fun _=>true) true ts vs ds ps →
  (∀ t,t ∈ ts→e0o P m t=true)→(∀ (j:Nat) t v,ts[j]? = some t→vs[j]? = some v→Value.okWide P w .any base t v)→Rel X φ H w→g0b H →
  ∃ H' φ' vs',(∀ b x,φ b=some x→φ' b=some x)∧l0S H H'∧Rel X φ' H' w∧g0b H'∧CR X φ' w.shape? vs' vs∧F0K P H' m ts vs'
 | [],[],[],_,H,φ,_,_,_,hR,hro=>⟨H,φ,[],fun _ _ h=>h,l0S.refl H,hR,hro,CR.nil,trivial⟩
 | t :: ts,v :: vs,d :: ds,ps,H,φ,h,hp,ho,hR,hro=>by
  obtain ⟨p,q,h1,h2,_⟩:=h
  obtain ⟨H1,φ1,v1,e1,m1,R1,o1,k1,z1⟩:=G0D hb h1 (hp t (by simp)) (ho 0 t v rfl rfl) hR hro
  obtain ⟨H2,φ2,vs2,e2,m2,R2,o2,k2,z2⟩:=q0z hb ts vs ds q H1 φ1 h2 (fun t ht=>hp t (by simp [ht])) (fun j t v h1 h2=>ho (j + 1) t v (by simpa using h1) (by simpa using h2)) R1 o1
  exact ⟨H2,φ2,v1 :: vs2,fun b x h=>e2 b x (e1 b x h),m1.trans m2,R2,o2,CR.cons (k1.mono e2 (fun _ _ h=>h)) k2,z1.mono m2,z2⟩
 | [],[],_ :: _,_,_,_,h,_,_,_,_=>h.elim
 | [],_ :: _,_,_,_,_,h,_,_,_,_=>by cases ‹List (DataW D)› <;> exact h.elim
 | _ :: _,[],_,_,_,_,h,_,_,_,_=>by cases ‹List (DataW D)› <;> exact h.elim
 | _ :: _,_ :: _,[],_,_,_,h,_,_,_,_=>h.elim
theorem w0z {f:Func} {s:ChangeSpec} {apart fresh handsOn again:Bool} {W W':World} {args:Array Value} {v:Value} {ds gs:List (DataW D)} {before pa pv:List MemPlace}
  (hW:DataW.Whole enc P f.params.toList s.vars apart W args.toList ds gs before)
  (hres:∀ (b:Nat) (sp:Nat→Bool) (hd:Bool),DataW.TrodAll enc P W' b sp hd f.resultTypes.toList (v.resultList f.resultTypes.size) (s.fn D (ds ++ gs)).results [])
  (hargs:∀ sp:Nat→Bool,(∀ p ∈ before,sp p.block=true)→DataW.TrodAll enc P W' 0 sp true f.params.toList args.toList (s.fn D (ds ++ gs)).args pa)
  (hvars:∀ sp:Nat→Bool,(∀ p ∈ before,sp p.block=true)→DataW.TrodVars enc P W' sp s.vars (s.fn D (ds ++ gs)).vars pv)
  (hps:before=pa ++ pv) (hbe:Below W.heap.size W W')
  (hok:∀ (j:Nat) (t:TypeId) (r:Value),f.resultTypes[j]? = some t→(v.resultList f.resultTypes.size)[j]? = some r→Value.okWide P W' .any 0 t r) :
  s.post enc P f apart fresh handsOn again W args v W':=by
 have hold:∀ p ∈ before,(fun b=>decide (b < W.heap.size)) p.block=true:=fun p hp=>by simpa using hW.lt p hp
 have hk:W.keptBut W' (· ∈ before):=by
  refine ⟨hbe.os,hbe.output,fun i hi=>?_⟩
  rw [hbe.block i hi]
  cases W.heap[i]? with
  | none=>rfl
  | some o=>cases o <;> simp
 refine ⟨ds,gs,before,[],pa,pv,hW,hres _ _ _,hargs _ hold,hvars _ hold,World.keptBut_mono (fun p hp=>⟨hp,?_⟩) hk,fun _=>?_⟩
 ·rw [hps,a1g] at hp
  exact Or.inr hp
 ·have hlt:=hW.lt
  obtain ⟨_,_,_,_,_,hz,hn⟩:=hW
  refine ⟨hok,_,_,([] ++ pa) ++ pv,⟨[] ++ pa,pv,trodAll_append (hargs _ (fun _ _=>rfl)) (hres _ _ _),hvars _ (fun _ _=>rfl),rfl,?_,?_⟩,?_⟩
  ·intro b off hp
   have hp':MemPlace.cell b off ∈ before:=by rw [hps];simpa using hp
   have h1:=hz b off hp'
   have h2:b < W.heap.size:=hlt _ hp'
   have h3:=hbe.block b h2
   unfold World.frozen? at h1 ⊢
   simpa [h3] using h1
  ·intro ha
   have:=hn ha
   rw [hps] at this
   simpa using this
  ·intro p hp _
   rw [hps]
   simpa using hp
theorem i0z (hl:laidOutB P=true) {W W':World} (hbe:Below W.heap.size W W') {sp:Nat→Bool}:∀ {ts:List TypeId} {vs:List Value} {ds:List (DataW D)} {ps:List MemPlace},
  DataW.TrodAll enc P W 0 (fun _=>true) true ts vs ds ps→(∀ t,t ∈ ts→P.readableRec t=true∧t < P.types.size)→(∀ p ∈ ps,p.block < W.heap.size)→(∀ p ∈ ps,sp p.block=true)→DataW.TrodAll enc P W' 0 sp true ts vs ds ps
 | [],[],[],_,h,_,_,_=>h
 | t :: ts,v :: vs,d :: ds,ps,⟨p,q,h1,h2,e⟩,hr,hlt,hsp=>by
  subst e
  refine ⟨p,q,WideElems.Trod_stays hl (hr t (by simp)).1 (hr t (by simp)).2 h1 (fun x hx=>hbe.same (hlt x (by simp [hx]))) (fun x hx=>hsp x (by simp [hx])),?_,rfl⟩
  exact i0z hl hbe h2 (fun t ht=>hr t (by simp [ht])) (fun x hx=>hlt x (by simp [hx])) (fun x hx=>hsp x (by simp [hx]))
 | [],[],_ :: _,_,h,_,_,_=>h.elim
 | [],_ :: _,ds,_,h,_,_,_=>by cases ds <;> exact h.elim
 | _ :: _,[],ds,_,h,_,_,_=>by cases ds <;> exact h.elim
 | _ :: _,_ :: _,[],_,h,_,_,_=>h.elim
theorem q0w {E:Env} (hsim:∀ (base n:Nat),d0N ⟨P,base⟩ (b0h E n)) {f:FuncId} {fn:Func} {s:ChangeSpec} {apart fresh handsOn again:Bool} {m:Nat} {tb:TypeId} (hl:laidOutB P=true) (hts:∀ t,t ∈ fn.params.toList→e0o P m t=true∧P.readableRec t=true∧t < P.types.size)
  (hrt:fn.resultTypes = #[tb]) (htb:P.underlying tb=some .bool) (hv:s.vars=[]) (hs:∀ ds:List (DataW D),ds.length=fn.params.size→s.fn D ds = { results:=[.lit (.bool true)],args:=ds })
  (hdo:∀ (Ha:a0e) (vs:List Value),F0K P Ha m fn.params.toList vs→a0V E Ha.size f vs Ha (fun r _=>r=.bool true) (fun _=>False))
  (W:World) (base:Nat) (args:Array Value) (ds gs:List (DataW D)) (before:List MemPlace)
  (hval:∀ (j:Nat) t v,fn.params[j]? = some t→args[j]? = some v→Value.okWide P W .any base t v)
  (hW:DataW.Whole enc P fn.params.toList s.vars apart W args.toList ds gs before) :
  Calls P f args W fun e W'=>∃ v,e=.returned v∧s.post enc P fn apart fresh handsOn again W args v W':=by
 have hW':=hW
 obtain ⟨p,q,hA,hV,hpq,hfz,hnd⟩:=hW
 rw [hv] at hV
 obtain ⟨rfl,rfl⟩:=trodVars_none hV
 have hb:(⟨P,W.heap.size⟩:Cx).base=W.heap.size:=rfl
 have h0:Rel ⟨P,W.heap.size⟩ (fun _=>none) #[] W:=⟨Z0E _,fun _ _ h=>by simp at h,fun _ _ _ _ _ _ h=>by simp at h,fun _ _ _ _ _ _ _ h=>by simp at h⟩
 have ho0:g0b #[]:=fun b e cs h=>by simp [a0e.blk] at h
 obtain ⟨Ha,φ,vs,_,_,hR,hro,hcr,hz⟩:=q0z (X:=⟨P,W.heap.size⟩) hb _ _ _ _ #[] (fun _=>none) hA (fun t ht=>(hts t ht).1) (fun j t v h1 h2=>hval j t v (by simpa using h1) (by simpa using h2)) h0 ho0
 obtain ⟨n,hn⟩:=hdo Ha vs hz
 have hsz:ds.length=fn.params.size:=by
  have:∀ (ts:List TypeId) (vs:List Value) (ds:List (DataW D)) (ps:List MemPlace),DataW.TrodAll enc P W 0 (fun _=>true) true ts vs ds ps→ds.length=ts.length:=by
   intro ts
   induction ts with
   | nil=>intro vs ds ps h;cases vs <;> cases ds <;> first | rfl | exact h.elim
   | cons t ts ih =>
    intro vs ds ps h
    cases vs <;> cases ds <;> first | exact h.elim | skip
    obtain ⟨_,_,_,h2,_⟩:=h
    simp [ih _ _ _ h2]
  simpa using this _ _ _ _ hA
 cases hc:b0h E n Ha.size f vs Ha with
 | bad=>rw [hc] at hn;exact hn.elim
 | pan v=>rw [hc] at hn;exact hn.elim
 | ok r =>
  obtain ⟨rv,H'⟩:=r
  rw [hc] at hn
  have hrv:rv=.bool true:=hn
  subst hrv
  refine ((hsim W.heap.size n Ha.size f vs Ha φ W args hR hcr (Z0E _)).1 _ _ hc).2.mono ?_
  rintro e W' ⟨v',φ',rfl,hvr,hst⟩
  cases hvr
  have hbe:Below W.heap.size W W':=⟨hst.os,hst.tape,hst.out,hst.wsz,fun k hk=>hst.frame k hk fun b o e cs _ _ h=>hro b e cs h⟩
  have hsp:=hs (ds ++ []) (by simpa using hsz)
  have hlt:=hW'.lt
  refine ⟨_,rfl,w0z (pa:=p) (pv:=[]) hW' (fun b sp hd=>?_) (fun sp hsp'=>?_) (fun sp _=>?_) hpq hbe ?_⟩
  ·rw [hsp,hrt]
   exact trodAll_cons_mk (shut_bool htb true) trodAll_mk0
  ·rw [hsp,List.append_nil]
   exact i0z hl hbe hA (fun t ht=>(hts t ht).2) (fun x hx=>hlt x (by rw [hpq];simp [hx])) (fun x hx=>hsp' x (by rw [hpq];simp [hx]))
  ·rw [hsp,hv];rfl
  ·exact ok_one hrt rfl (okWide_bool_mk htb _)
theorem y0v {m:Nat} {t1 t2 t3 t4:TypeId} {vs:List Value} (h:F0K P H m [t1,t2,t3,t4] vs):∃ u v w x,vs=[u,v,w,x]∧IsV P H m t1 u∧IsV P H m t2 v∧IsV P H m t3 w∧IsV P H m t4 x:=by
 match vs,h with
 | [u,v,w,x],⟨h1,h2,h3,h4,_⟩=>exact ⟨u,v,w,x,rfl,h1,h2,h3,h4⟩
end
section
open Go
def l0V (nt i:Nat) (Inv:Nat→(Nat→Value)→a0e→Prop) (t:a0W) (H:a0e):Prop:=∃ ρ2,t=T nt ρ2∧Inv (i + 1) ρ2 H
theorem l0V.mk {nt i:Nat} {Inv:Nat→(Nat→Value)→a0e→Prop} {ρ:Nat→Value} {H:a0e} (h:Inv (i + 1) ρ H):l0V nt i Inv (T nt ρ) H:=⟨ρ,rfl,h⟩
theorem i0E {n:Nat} (h:n < 4611686018427387904):IntKind.i64.wrap ((n:Int) + 1)=((n + 1:Nat):Int):=by rw [a0F (by omega) (by omega)];omega
def I0D (E:Env) (fl nt:Nat) (rx:List a0D) (R:a0u) (i:Nat) (Inv:Nat→(Nat→Value)→a0e→Prop) (t:a0W) (H:a0e):Prop :=
 WR E fl rx t H (l0V nt i Inv) R
def v0E (E:Env) (fl nt tc b b2 n:Nat) (body:SCode) (rx:List a0D) (Z:a0W→a0e→Prop) (Q:d0K) (R:a0u) (i:Nat) (Inv:Nat→(Nat→Value)→a0e→Prop) (t:a0W) (H:a0e):Prop :=
 ∃ ρ',t=T nt ρ'∧ρ' tc=.bool (decide (i < n))∧(i < n→W E fl body (T nt ρ') H (u0d b2 b (I0D E fl nt rx R i Inv) Z Q) R)∧(i=n→Z (T nt ρ') H)
section
variable {E:Env} {fl nt tc b b2 n i:Nat} {body:SCode} {rx rc:List a0D} {Z:a0W→a0e→Prop} {Q:d0K} {R:a0u} {Inv:Nat→(Nat→Value)→a0e→Prop} {ρ:Nat→Value} {H:a0e}
theorem v0E.mk (h1:ρ tc=.bool (decide (i < n))) (h2:i < n→W E fl body (T nt ρ) H (u0d b2 b (I0D E fl nt rx R i Inv) Z Q) R) (h3:i=n→Z (T nt ρ) H):v0E E fl nt tc b b2 n body rx Z Q R i Inv (T nt ρ) H:=⟨ρ,rfl,h1,h2,h3⟩
theorem x0w (Inv:Nat→(Nat→Value)→a0e→Prop) (n:Nat) (htc:tc < nt) (hI:Inv 0 ρ H)
  (step:∀ i ρ G,i≤n→Inv i ρ G→WR E fl rc (T nt ρ) G (v0E E fl nt tc b b2 n body rx Z Q R i Inv) R) :
  W E fl (.loop (.seq (.seq (.reg rc) (.cond (.tmp tc) .skip (.exit b))) (.seq (.block b2 body) (.reg rx)))) (T nt ρ) H (f0h b (h0H Z Q)) R:=by
 refine b0U (fun k t G=>∃ i ρ,i + k=n∧t=T nt ρ∧Inv i ρ G) Z n ⟨0,ρ,by omega,rfl,hI⟩ ?_ (fun _ _ h=>h)
 clear hI
 rintro k t G ⟨i,ρ,hik,rfl,hI⟩
 refine h0q (h0q (l0Z ((step i ρ G (by omega) hI).mono ?_)))
 rintro t' G' ⟨ρ',rfl,h1,h2,h3⟩
 simp only [e0h]
 by_cases hi:i < n
 ·have hd:ρ' tc=.bool true:=by rw [h1,decide_eq_true hi]
  refine k0m true (by rw [j0o,b0Q htc,hd]) (fun _=>t0J ?_) (by simp)
  simp only [e0h]
  refine h0q (n0W ((h2 hi).mono fun e t2 G2 hq=>?_))
  have fin:I0D E fl nt rx R i Inv t2 G2→h0H (fun t' H'=>W E fl (.reg rx) t' H' (o0x b (fun t' H'=>∃ k',k' < k∧∃ i ρ,i + k' = n∧t' = T nt ρ∧Inv i ρ H') Z Q) R) (o0x b (fun t' H'=>∃ k',k' < k∧∃ i ρ,i + k' = n∧t' = T nt ρ∧Inv i ρ H') Z Q) .normal t2 G2:=by
   intro h
   refine l0Z (h.mono ?_)
   rintro t3 G3 ⟨ρ3,rfl,h4⟩
   exact ⟨k - 1,by omega,i + 1,ρ3,by omega,rfl,h4⟩
  cases e with
  | normal=>exact fin hq
  | exit j =>
   simp only [u0d] at hq
   show (if j=b2 then _ else _)
   by_cases hj:j=b2
   ·rw [Z0I hj] at hq ⊢;exact fin hq
   ·rw [Z0F hj] at hq ⊢
    show (if j=b then _ else _)
    by_cases hj2:j=b
    ·rw [Z0I hj2] at hq ⊢;exact hq
    ·rw [Z0F hj2] at hq ⊢;exact hq
  | ret=>exact hq
 ·have he:i=n:=by omega
  have hd:ρ' tc=.bool false:=by rw [h1,decide_eq_false hi]
  refine k0m false (by rw [j0o,b0Q htc,hd]) (by simp) (fun _=>t0I ?_)
  show (if b=b then _ else _)
  rw [Z0I rfl]
  exact h3 he
end
end
section
open Go
set_option maxHeartbeats 4000000
variable {fl:Nat} {H G:a0e} {R:a0u} {v w:Value}
theorem p0T {i j:Bool × List Nat} (h:b0q H v i) (k:b0q H w j) (hf:fl≤H.size) (hn:i.2.length < 1073741824):a0V env fl Q0p [v,w] H (fun r H'=>r=.bool (decide (i=j))∧Ext H H') R:=by
 obtain ⟨s,rfl,hs⟩:=h
 obtain ⟨u,rfl,hu⟩:=k
 obtain ⟨bi,li⟩:=i
 obtain ⟨bj,lj⟩:=j
 simp only at hs hu hn ⊢
 refine a0k Y0L hf (h:=?_)
 intro ρ h0
 simp [U0G,K0z,h0]
 generalize hG:Array.push (Array.push H _) _=G
 have hx2:Ext H G:=by rw [← hG];exact (Ext.refl H).push.push
 have b0:a0e.blk G H.size=.row false a0a [.bool bi,s]:=by rw [← hG];simp
 have b1:a0e.blk G (H.size + 1)=.row false a0a [.bool bj,u]:=by rw [← hG];simp
 have hx:=Ext.refl H
 clear hG
 (try replace b0:=hx2.blk b0);(try replace b1:=hx2.blk b1);(try replace hx:=hx.trans hx2)
 have ks:=hs.mono hx
 have ku:=hu.mono hx
 by_cases hb:bi=bj
 ·subst hb
  by_cases hl:li.length=lj.length
  ·simp [v0n,K0A,h0,b0,b1,hs.slen,hu.slen,hl]
   refine x0w (fun n ρ G'=>ρ 2=.pointer (some ⟨H.size,0,none⟩)∧ρ 3=.pointer (some ⟨H.size + 1,0,none⟩)∧ρ 5=.int .i64 (n:Int)∧G' = G∧li.take n=lj.take n) li.length (by decide) (by simp) ?_
   rintro n ρ _ hn1 ⟨g2,g3,g5,rfl,hpre⟩
   simp [K0B,g2,g5,b0,ks.slen]
   refine v0E.mk (by simp) (fun hlt=>?_) (fun heq=>?_)
   ·have hltj:n < lj.length:=by omega
    simp
    refine a0A ?_
    simp [K0C,g2,g3,g5,b0,b1,ks.ia hlt,ku.ia hltj,ks.load hlt (Ext.refl _),ku.load hltj (Ext.refl _)]
    have e1:li.getD n 0=li[n]:=by simp [Z0C,hlt]
    have e2:lj.getD n 0=lj[n]:=by simp [Z0C,hltj]
    refine ⟨fun hne=>?_,fun heq=>?_⟩
    ·simp [K0D]
     exact fun _ he=>hne (by subst he;rfl)
    ·unfold I0D
     simp [K0E,g5,i0E (show n < 4611686018427387904 by omega)]
     refine l0V.mk ⟨by simp [g2],by simp [g3],by simp,rfl,?_⟩
     rw [a1d hlt,a1d hltj,hpre,← e1,← e2,Z0C,Z0C,heq]
   ·subst heq
    rw [a1a,hl,a1a] at hpre
    simp [K0F]
    exact fun _=>hpre
  ·simp [v0n,E0q,h0,b0,b1,hs.slen,hu.slen,hl]
   exact fun _ he=>hl (by rw [he])
 ·simp [v0n,E0q,h0,b0,b1,hs.slen,hu.slen,hb]
theorem j0k {a b:b0k} (h:b0R H v a) (k:b0R H w b) (hf:fl≤H.size) (hn:e0O a < 1073741824):a0V env fl Q0l [v,w] H (fun r H'=>r=.bool (decide (a=b))∧Ext H H') R:=by
 obtain ⟨s,u,rfl,hs,hu⟩:=h
 obtain ⟨s',u',rfl,hs',hu'⟩:=k
 have hn1:a.1.2.length < 1073741824:=by unfold e0O at hn;omega
 have hn2:a.2.2.length < 1073741824:=by unfold e0O at hn;omega
 refine a0k Y0A hf (h:=?_)
 intro ρ h0
 simp [U0v,J0J,h0]
 generalize hG:Array.push (Array.push H _) _=G
 have hx2:Ext H G:=by rw [← hG];exact (Ext.refl H).push.push
 have b0:a0e.blk G H.size=.row false a0b [.bool a.1.1,s,.bool a.2.1,u]:=by rw [← hG];simp
 have b1:a0e.blk G (H.size + 1)=.row false a0b [.bool b.1.1,s',.bool b.2.1,u']:=by rw [← hG];simp
 have hx:=Ext.refl H
 clear hG
 (try replace b0:=hx2.blk b0);(try replace b1:=hx2.blk b1);(try replace hx:=hx.trans hx2)
 simp [J0K,h0,b0,b1]
 refine (p0T (i:=a.1) (j:=b.1) ⟨s,rfl,hs.mono hx⟩ ⟨s',rfl,hs'.mono hx⟩ hx.1 hn1).mono ?_
 rintro _ G2 ⟨rfl,hx2⟩
 (try replace b0:=hx2.blk b0);(try replace b1:=hx2.blk b1);(try replace hx:=hx.trans hx2)
 by_cases h1:a.1=b.1
 ·simp [h1,b0,b1]
  refine (p0T (i:=a.2) (j:=b.2) ⟨u,rfl,hu.mono hx⟩ ⟨u',rfl,hu'.mono hx⟩ hx.1 hn2).mono ?_
  rintro _ G2 ⟨rfl,hx2⟩
  have:(a=b)=(a.2=b.2):=c1n ⟨fun h=>by rw [h],fun h=>Prod.ext h1 h⟩
  simp [h1,this]
 ·simp [h1]
  exact fun _ h=>h1 (by rw [h])
theorem e0J {a b:c0c} (h:h0d H v a) (k:h0d H w b) (hf:fl≤H.size) (hn:e0O a.2 < 1073741824):a0V env fl Q0k [v,w] H (fun r H'=>r=.bool (decide (a=b))∧Ext H H') R:=by
 obtain ⟨s,u,rfl,hs,hu⟩:=h
 obtain ⟨s',u',rfl,hs',hu'⟩:=k
 refine a0k Y0w hf (h:=?_)
 intro ρ h0
 simp [U0r,J0v,h0]
 generalize hG:Array.push (Array.push H _) _=G
 have hx2:Ext H G:=by rw [← hG];exact (Ext.refl H).push.push
 have b0:a0e.blk G H.size=.row false a0Z [.int .i64 a.1,.bool a.2.1.1,s,.bool a.2.2.1,u]:=by rw [← hG];simp
 have b1:a0e.blk G (H.size + 1)=.row false a0Z [.int .i64 b.1,.bool b.2.1.1,s',.bool b.2.2.1,u']:=by rw [← hG];simp
 have hx:=Ext.refl H
 clear hG
 (try replace b0:=hx2.blk b0);(try replace b1:=hx2.blk b1);(try replace hx:=hx.trans hx2)
 simp [J0w,h0,b0,b1]
 by_cases h1:a.1=b.1
 ·simp [h1,b0,b1]
  refine (j0k (a:=a.2) (b:=b.2) ⟨s,u,rfl,hs.mono hx,hu.mono hx⟩ ⟨s',u',rfl,hs'.mono hx,hu'.mono hx⟩ hx.1 hn).mono ?_
  rintro _ G2 ⟨rfl,hx2⟩
  have:(a=b)=(a.2=b.2):=c1n ⟨fun h=>by rw [h],fun h=>Prod.ext h1 h⟩
  simp [h1,this]
 ·simp [h1]
  exact fun _ h=>h1 (by rw [h])
theorem Sls.at_ {α:Type} {P:a0e→List Value→α→Prop} {e sz:Nat} {l:List α} (h:Sls P H e sz v l) {j:Nat} (hj:j < l.length) (hs:0 < sz) :
  ∃ b o cs,adr sz v j=.pointer (some ⟨b,o,none⟩)∧cs.length=sz∧P H cs l[j]∧b0o H true sz (.pointer (some ⟨b,o,none⟩))=some (.agg cs.toArray) ∧
   (∀ k n,k + n≤sz→0 < n→b0o H true n (.pointer (some ⟨b,o + k,none⟩))=some (.agg ((cs.drop k).take n).toArray)) ∧
   ∀ k,k < sz→b0o H false 1 (.pointer (some ⟨b,o + k,none⟩))=some (cs.getD k undef):=by
 obtain ⟨cs,⟨hl,h1⟩,h2⟩:=h
 have h3:=h2 j hj
 rcases h1 with ⟨rfl,h1⟩ | ⟨b,off,cap,ro,cells,rfl,hb,ho,rfl⟩
 ·omega
 ·have hj2:(j + 1) * sz≤l.length * sz:=Z0L sz hj
  rw [Z0U,a1w] at hj2
  have e1:(((cells.drop off).take (l.length * sz)).drop (j * sz)).take sz=(cells.drop (off + j * sz)).take sz:=by
   rw [c1v,c1c,b1t,a1I (by omega)]
  rw [e1] at h3
  have agg:∀ k n,k + n≤sz→0 < n→b0o H true n (.pointer (some ⟨b,off + j * sz + k,none⟩))=some (.agg ((((cells.drop (off + j * sz)).take sz).drop k).take n).toArray):=by
   intro k n hk hn
   have hc:=e0K (off:=off + j * sz + k) (n:=n) hb (by omega)
   simp only [b0o]
   rw [Z0F (by omega),Z0F (by simp)]
   simp only [a1p,hc]
   rw [c1v,c1c,b1t,a1I (by omega)]
  refine ⟨b,off + j * sz,_,rfl,by simp;omega,h3,?_,agg,?_⟩
  ·have:=agg 0 sz (by omega) hs
   simpa [c1c] using this
  ·intro k hk
   have hc:=e0K (off:=off + j * sz + k) (n:=1) hb (by omega)
   simp only [b0o]
   rw [Z0F (by simp),Z0F (by simp)]
   simp only [hc,Z0V,a1v]
   rw [List.head?_take,Z0F (by simp),List.head?_drop,Z0C,a1O,Z0I (by omega),a1T]
   rw [Z0H (by omega)]
   rfl
end
section
open Go
variable {H:a0e} {v:Value} {m:Nat} {cs:List Value}
structure N0z (P:Program):Prop where
 u3:P.underlying 3=some (.int .i64)
 u4:P.underlying 4=some .bool
 u103:P.underlying 96=some (.int .u32)
 u28:P.underlying 36=some (.slice 96)
 u30:∃ f g:Field,P.underlying 38=some (.struct #[f,g])∧f.type=4∧g.type=36
 u32:∃ f g:Field,P.underlying 40=some (.struct #[f,g])∧f.type=38∧g.type=38
 u34:∃ f g:Field,P.underlying 42=some (.struct #[f,g])∧f.type=3∧g.type=40
 u37:P.underlying 43=some (.slice 40)
 u27:P.underlying 29=some (.slice 42)
 u23:P.underlying 22=some (.slice 43)
 u25:∃ f:Field,P.underlying 24=some (.struct #[f])∧f.type=22
 c103:P.cellsOf 96=1
 c37:P.cellsOf 43=1
 c32:P.cellsOf 40=4
 c34:P.cellsOf 42=5
variable {P:Program}
theorem S0p (hP:N0z P) (h:IsT P H (m + 1) 4 cs):∃ b,cs=[.bool b]:=by
 unfold IsT at h
 rw [hP.u4] at h;exact h
theorem Sls.first {α:Type} {P:a0e→List Value→α→Prop} {e sz:Nat} {l:List α} (h:Sls P H e sz v l) {n:Nat} (hn:n≤l.length) {k:IntKind} :
  ∃ v',d0G sz v none (some (.int k n)) none=some v'∧Sls P H e sz v' (l.take n)∧elemOk H e v=true:=by
 obtain ⟨cs,h1,h2⟩:=h
 obtain ⟨v',h3,h4⟩:=h1.slice (lo:=0) (hi:=n) (x:=none) (y:=some (.int k n)) (a1x _) hn rfl (by simp [bnd])
 refine ⟨v',h3,⟨_,by rw [a1H,a1I hn];simpa using h4,?_⟩,h1.elemOk (Ext.refl _)⟩
 intro j hj
 have hj2:j < n:=by simp at hj;omega
 have hj3:(j + 1) * sz≤n * sz:=Z0L _ hj2
 rw [Z0U,a1w] at hj3
 have:=h2 j (by omega)
 simp only [List.getElem_take,Nat.sub_zero,Nat.zero_mul,b1n]
 rw [c1v,c1c,a1I (by omega)]
 exact this
theorem types:N0z Tryz.prog where
 u3:=Tryz.underlying3
 u4:=by kernel_rfl
 u103:=Tryz.underlying96
 u28:=Tryz.underlying36
 u30:=⟨_,_,Tryz.underlying38,rfl,rfl⟩
 u32:=⟨_,_,Tryz.underlying40,rfl,rfl⟩
 u34:=⟨_,_,Tryz.underlying42,rfl,rfl⟩
 u37:=Tryz.underlying43
 u27:=Tryz.underlying29
 u23:=Tryz.underlying22
 u25:=⟨_,Tryz.underlying24,rfl⟩
 c103:=by kernel_rfl
 c37:=by kernel_rfl
 c32:=by kernel_rfl
 c34:=by kernel_rfl
end
section
open Go
variable {e f g:c0c}
variable {a b c:List c0c}
end
section
open Go
set_option maxHeartbeats 4000000
def Q0I (E:Env) (fl nt tc b b2:Nat) (body:SCode) (rx:List a0D) (Z:a0W→a0e→Prop) (Q:d0K) (R:a0u) (n i:Nat) (Inv:Nat→(Nat→Value)→a0e→Prop) (t:a0W) (H:a0e):Prop :=
 ∃ ρ' c,t=T nt ρ'∧ρ' tc=.bool c∧(c=true→i < n∧W E fl body (T nt ρ') H (u0d b2 b (I0D E fl nt rx R i Inv) Z Q) R)∧(c=false→Z (T nt ρ') H)
section
variable {E:Env} {fl nt tc b b2 n i:Nat} {body:SCode} {rx rc:List a0D} {Z:a0W→a0e→Prop} {Q:d0K} {R:a0u} {Inv:Nat→(Nat→Value)→a0e→Prop} {ρ:Nat→Value} {H:a0e}
theorem Q0I.mk (c:Bool) (h1:ρ tc=.bool c) (h2:c=true→i < n∧W E fl body (T nt ρ) H (u0d b2 b (I0D E fl nt rx R i Inv) Z Q) R) (h3:c=false→Z (T nt ρ) H):Q0I E fl nt tc b b2 body rx Z Q R n i Inv (T nt ρ) H:=⟨ρ,c,rfl,h1,h2,h3⟩
end
variable {fl:Nat} {H G:a0e} {R:a0u} {v w:Value}
end
section
open Go
set_option maxHeartbeats 4000000
@[simp] theorem P0X {w:Bool}:w0Y w undef=false:=nr rfl
variable {fl:Nat} {H G:a0e} {R:a0u} {v w:Value} {l:List Nat} {i:Bool × List Nat}
def newB (H:a0e) (r:Value):Prop:=∀ q,slB r=some q→H.size≤q
theorem Own.newB {e sz n:Nat} {cs:List Value} (h:Own H.size G e sz v n cs):AI.newB H v:=by
 obtain ⟨_,⟨rfl,_⟩ | ⟨b,cap,rfl,_,hb⟩⟩:=h
 ·intro q hq;cases hq
 ·intro q hq
  simp only [slB,Z0G] at hq
  omega
theorem newB.of {u:Value} (h:newB H v) (he:slB u=slB v):newB H u:=fun q hq=>h q (by rw [← he];exact hq)
theorem newB.ne {p:Nat} (h:newB H v) (hp:p < H.size):slB v ≠ some p:=fun he=>by have:=h p he;omega
theorem F0y {x y z:Option Value} {n:Nat} {u:Value} (h:d0G n v x y z=some u):slB u=slB v:=by
 unfold d0G at h
 split at h
 ·rename_i p len cap
  split at h
  ·split at h
   ·split at h
    ·simp only [Z0G] at h
     subst h
     cases p <;> rfl
    ·split at h
     ·split at h
      ·simp only [Z0G] at h
       subst h
       cases p <;> rfl
      ·cases h
     ·cases h
   ·cases h
  ·cases h
 ·cases h
theorem o0T (h:Lim H v l) (hf:fl≤H.size) (hn:l.length < 4611686018427387904):a0V env fl Q0s [v] H (fun r H'=>(Lim H' r (d0t l)∧slB r=slB v)∧Ext H H') R:=by
 refine a0k Y0Y hf (h:=?_)
 intro ρ h0
 simp [U0T,L0E,L0F,h0,h.slen]
 refine b0U (fun k t G=>G=H∧t.length=21∧get t 0=v∧get t 3=.int .i64 k∧k≤l.length∧d0t (l.take k)=d0t l)
  (fun t G=>∃ k:Nat,G=H∧t.length=21∧get t 0=v∧get t 3=.int .i64 k∧k≤l.length∧d0t l=l.take k) l.length (by simp [h0]) ?_ ?_
 ·rintro k t G ⟨rfl,ht,g0,g3,hk,htr⟩
  obtain ⟨ρ,rfl⟩:=toT ht
  simp only [b0Q,Nat.reduceLT] at g0 g3
  by_cases hk0:k=0
  ·subst hk0
   simp [E0I,g0,g3]
   exact ⟨0,by simp,by simp,by rw [← htr];rfl⟩
  ·have hp:0 < k:=by omega
   have w1:IntKind.i64.wrap ((k:Int) - 1)=((k - 1:Nat):Int):=by rw [a0F (by omega) (by omega)];omega
   simp [E0I,L0G,g0,g3,hp,w1,h.ia (show k - 1 < l.length by omega),h.load (show k - 1 < l.length by omega)]
   have hk1:l.take k=l.take (k - 1) ++ [l.getD (k - 1) 0]:=by rw [← d0Z (by omega)];congr 1;omega
   rw [Z0C] at hk1
   refine ⟨fun hz=>⟨k - 1,by omega,rfl,by omega,?_⟩,fun hz=>⟨k,rfl,hk,?_⟩⟩
   ·rw [← htr,hk1,hz,l0M]
   ·rw [← htr,hk1,j0g hz]
 ·rintro t G ⟨k,rfl,ht,g0,g3,hk,htr⟩
  obtain ⟨ρ,rfl⟩:=toT ht
  simp only [b0Q,Nat.reduceLT] at g0 g3
  obtain ⟨v',h1,h2⟩:=h.take hk (x:=none) rfl (y:=some (.int .i64 (k:Int))) (by simp)
  simp [L0H,g0,g3,h.elemOk,h1]
  rw [htr];exact ⟨h2,F0y h1⟩
theorem q0S (h:Lim H v l) (hf:fl≤H.size) (hn:l.length < 4611686018427387904):a0V env fl Q0s [v] H (fun r H'=>Lim H' r (d0t l)∧Ext H H') R:=(o0T h hf hn).mono fun _ _ h=>⟨h.1.1,h.2⟩
theorem X0M {G G3:a0e} {q:Nat} {r:Blk} {ro:Bool} {cs:List Value} {s:Value} (hS:Array.setIfInBounds G q r=G3) (hx:Ext H G) (hs:Lim G s l) (hb:a0e.blk G q=.row ro a0a cs) (hq:H.size≤q) :
  Lim G3 s l∧Ext H G3∧a0e.blk G3 q=r:=⟨by rw [← hS];exact hs.setT hb (by decide),b0J hS hx hq,a0M hS hb⟩
theorem m0X {b:Bool} (z:Int) (h:Lim H v l) (hf:fl≤H.size) (hn:l.length≤1073741824) (hz:(if b then -(a0B l:Int) else a0B l)=z) :
  a0V env fl R0P [.bool b,v] H (fun r H'=>b0q H' r (a0l z)∧Ext H H') R:=by
 rw [← hz,← I0Y h.ok]
 refine a0k Y0H hf (h:=?_)
 intro ρ h0
 simp [U0C,K0h,K0i,h0]
 generalize hG:Array.push H _=G
 obtain ⟨hx2,b0⟩:=h0K hG
 have hx:=Ext.refl H
 clear hG
 replace hx:=hx.trans hx2
 replace h:=h.mono hx
 refine (q0S h hx.1 (by omega)).mono ?_
 rintro u G2 ⟨ht,hx2⟩
 replace b0:=hx2.blk b0;replace hx:=hx.trans hx2
 have hsz:=hx.1
 simp
 by_cases hl:d0t l=[]
 ·have hk:mkI b l=(false,[]):=by simp [mkI,hl]
  rw [hk]
  rw [hl] at ht
  simp [E0n,K0j,ht.slen,b0,hsz]
  generalize hS:Array.setIfInBounds G2 _ _=G3
  have b3:=a0M hS b0
  simp [b3]
  exact fun _=>⟨.slice none 0 0,rfl,Lim.nil⟩
 ·have hk:mkI b l=(b,d0t l):=by simp [mkI,hl]
  rw [hk]
  have hl':¬ (d0t l).length=0:=by simpa using hl
  have hle:(d0t l).length≤l.length:=by
   rw [e0Z l h.ok];exact g0N (g0o l h.ok)
  simp [E0n,K0k,ht.slen,b0,hsz,hl,h0]
  have hx4:Ext G2 (G2.push (.row false a0m [])):=(Ext.refl G2).push
  have hlt:=a0g b0
  obtain ⟨v',G',h1,h2,h3,h4⟩:=k0p (fl:=H.size) (G:=G2.push (.row false a0m [])) (s:=.slice (some ⟨G2.size,0,none⟩) 0 0) (e:=a0m) (cs:=[]) (sz:=1) (n:=0) (bytes:=4) (e2:=a0m)
   (Own.mk a0v rfl hsz) (ht.mono hx4).1 m0V (by omega) (by omega) (by omega) (by simp;omega)
  rw [a1i,b1d] at h2
  have b4:G'.blk H.size=.row false a0a [.bool false,.slice none 0 0]:=by
   rw [h3.2 _ (by simp;omega) (by simp [slB];omega)]
   exact hx4.blk b0
  have kL:Lim G' v' (d0t l):=⟨h2.sl,ht.2⟩
  have hx5:Ext H G':=h4 H (Z0E _) (hx.trans hx4)
  simp [h1,kL.cells,kL.plain,b4,b0r]
  generalize hS:Array.setIfInBounds G' _ _=G3
  obtain ⟨kS,hx3,b3⟩:=X0M hS hx5 kL b4 (by omega)
  simp [b3]
  exact fun _=>⟨v',rfl,kS⟩
end
section
open Go
set_option maxHeartbeats 4000000
variable {fl:Nat} {H G:a0e} {R:a0u} {v w u:Value}
def rV:RK→a0e→Value→Int→Prop
 | .few,_,w,z=>w=.int .i64 z∧f0f z
 | .all,H,w,z=>b0q H w (a0l z)
def o0Z:RK→a0u→Prop
 | .few,R=>R t0w
 | .all,_=>True
abbrev RK.P (F:RK):a0e→List Value→Int→Prop:=F.p PF PI
abbrev RK.E (F:RK):Nat:=F.p d0p a0a
abbrev RK.S (F:RK):Nat:=F.p e0v b0b
abbrev RK.T (F:RK):Nat:=F.p a0d a0c
@[simp] theorem RK.p_few {α:Type} {a b:α}:RK.p .few a b=a:=nr rfl
@[simp] theorem RK.p_all {α:Type} {a b:α}:RK.p .all a b=b:=nr rfl
@[simp] theorem RK.p_same {α:Type} {F:RK} {a:α}:F.p a a=a:=nr (by cases F <;> rfl)
@[simp high] theorem U0g {F:RK} {x y:FuncId}:List.lookup (F.p a0i a0h) [(a0h,x),(a0i,y)]=some (F.p y x):=nr (by cases F <;> rfl)
theorem O0M:∀ {F:RK},Q0N F.E F.w F.P
 | .few=>Q0C
 | .all=>Q0B
section
variable {F:RK} {z a b c d e:Int} {wa wb wc wd we:Value}
theorem rV.mono (h:rV F H w z) (hx:Ext H G):rV F G w z:=by cases F;exact h;exact b0q.mono h hx
theorem rV.lx (h:rV F H w z) (hx:Lx H G):rV F G w z:=by cases F;exact h;exact b0q.lx h hx
theorem rV.st (h:rV F H w z):(a0S w).length=F.w∧(a0S w).all a0q=true∧F.P H (a0S w) z:=by
 cases F
 ·obtain ⟨rfl,h⟩:=h;exact ⟨rfl,rfl,rfl,h⟩
 ·obtain ⟨s,rfl,h⟩:=h;exact ⟨rfl,by simp [h.plain],s,rfl,h⟩
def kpV (F:RK) (H:a0e) (x:Value):Option Value:=F.p (some x) (b0o H true 2 x)
@[simp ↓] theorem V0v {E:Env} {d s:Nat} {r:List a0D} {t:a0W} {Z:a0W→a0e→Prop} :
  WR E fl (F.p [⟨some d,none,.mv (.tmp s)⟩] [⟨some d,none,.load true 2 (.tmp s)⟩] ++ r) t H Z R=oo (kpV F H (get t s)) fun v=>WR E fl r (put t (some d) v) H Z R:=by
 cases F
 ·show WR E fl (⟨some d,none,.mv (.tmp s)⟩ :: r) t H Z R=_
  rw [k0k,F0Y,show kpV .few H (get t s)=some (get t s) from rfl,o0G];rfl
 ·show WR E fl (⟨some d,none,.load true 2 (.tmp s)⟩ :: r) t H Z R=_
  rw [k0k,r0C];rfl
theorem p0S (h:rV F H w z) (hf:fl≤H.size) (hl:lz z < 67108864):a0V env fl (F.p m0k m0j) [eV,w] H (fun r H'=>r=.int .i64 (c0Q z 0)∧Ext H H') R:=by
 cases F
 ·obtain ⟨rfl,_⟩:=h;exact o0r hf
 ·exact n0Z h hf hl
theorem v0K (h:rV F H w z) (hf:fl≤H.size) (hl:lz z < 67108864):a0V env fl (F.p k0D k0C) [eV,w] H (fun r H'=>rV F H' r (-z)∧Ext H H') R:=by
 cases F
 ·obtain ⟨rfl,h⟩:=h;exact (q0r hf h).mono fun r H' ⟨h1,h2⟩=>⟨⟨h1,by unfold f0f at *;omega⟩,h2⟩
 ·exact p0X h hf hl
theorem N0x (ha:rV F H wa a) (hb:rV F H wb b) (hc:rV F H wc c) (hd:rV F H wd d) (hf:fl≤H.size) (la:lz a < 67108864) (lb:lz b < 67108864) (lc:lz c < 67108864) (ld:lz d < 67108864) :
  a0V env fl (F.p w0h w0g) [eV,wa,wb,wc,wd] H (fun r H'=>r=.int .i64 (c0Q (a * b) (c * d))∧Ext H H') R:=by
 cases F
 ·obtain ⟨rfl,ha⟩:=ha;obtain ⟨rfl,hb⟩:=hb;obtain ⟨rfl,hc⟩:=hc;obtain ⟨rfl,hd⟩:=hd
  exact m0l hf ha hb hc hd
 ·exact m0a ha hb hc hd hf la lb lc ld
theorem I0H (ha:rV F H wa a) (hb:rV F H wb b) (hc:rV F H wc c) (hd:rV F H wd d) (he:rV F H we e) (hf:fl≤H.size) (la:lz a < 67108864) (lb:lz b < 67108864) (lc:lz c < 67108864) (ld:lz d < 67108864) (le:lz e < 67108864) (he0:e ≠ 0) (hR:o0Z F R) :
  a0V env fl (F.p o0n o0m) [eV,wa,wb,wc,wd,we] H (fun r H'=>rV F H' r ((a * b - c * d).tdiv e)∧Ext H H') R:=by
 cases F
 ·obtain ⟨rfl,ha⟩:=ha;obtain ⟨rfl,hb⟩:=hb;obtain ⟨rfl,hc⟩:=hc;obtain ⟨rfl,hd⟩:=hd;obtain ⟨rfl,_⟩:=he
  exact h0W hf ha hb hc hd he0 hR
 ·exact h0P ha hb hc hd he hf la lb lc ld le he0
theorem V0s (h:b0q H v (a0l z)) (hf:fl≤H.size) (hl:lz z < 67108864) (hR:o0Z F R):a0V env fl (F.p h0V i0I) [eV,v] H (fun r H'=>rV F H' r z∧Ext H H') R:=by
 cases F
 ·exact k0E h hf (by omega) hR
 ·exact h0r h hf
end
def Frm (tT eN:Nat) (H H':a0e):Prop:=H.size≤H'.size∧∀ e,e ≠ tT→e ≠ eN→e ≠ e0i→LxT e H H'
theorem Frm.refl {tT eN:Nat}:Frm tT eN H H:=⟨Z0E _,fun _ _ _ _ _ _ _ h=>h⟩
theorem Frm.trans {tT eN:Nat} {H2:a0e} (h:Frm tT eN H G) (k:Frm tT eN G H2):Frm tT eN H H2:=⟨Z0N h.1 k.1,fun e h1 h2 h3 b ro cs hb=>k.2 e h1 h2 h3 b ro cs (h.2 e h1 h2 h3 b ro cs hb)⟩
theorem Ext.frm {tT eN:Nat} (h:Ext H G):Frm tT eN H G:=⟨h.1,fun _ _ _ _ _ _ _ hb=>h.blk hb⟩
theorem k0w {K:Value→a0e→Prop} {f:FuncId} {args:List Value} {sf:t0D} (hc:env.code f=some sf) (hf:fl≤H.size) (hl:args.length=sf.np:=by rfl) (hnt:args.length≤sf.nt:=by exact of_decide_eq_true rfl)
  (h:∀ ρ:Nat→Value,(∀ i,ρ i=args.getD i undef)→W env fl sf.body (T sf.nt ρ) H (R0J (fun t' H'=>w0Q H' t' sf.res fun v=>K v H')) R) :
  a0V env fl f args H (fun v H'=>K v H'∧f0u fl H H') R:=by
 refine (o0g (K:=K) hc hl hnt (fun t h1 h2=>?_)).keep hf
 have h3:=h (get t) h2
 rw [← F0R h1] at h3
 refine h3.mono fun e t' H' hq=>?_
 cases e with
 | exit i=>exact Z0T hq id
 | normal=>exact ⟨trivial,hq⟩
 | ret=>exact ⟨trivial,hq⟩
def Tf (L:List (List Int)) (i c:Nat):Int:=(L.getD i []).getD c 0
def bf (bs:List Nat) (i:Nat):Nat:=bs.getD i 0
theorem F0S {L:List (List Int)} {i c:Nat} (hi:i < L.length) (hc:c < L[i].length):Tf L i c=L[i][c]:=by
 unfold Tf;rw [Z0C,Z0C,Z0H hi,a1f,Z0H hc];rfl
theorem W0j {bs:List Nat} {i:Nat} (hi:i < bs.length):bf bs i=bs[i]:=by
 unfold bf;rw [Z0C,Z0H hi];rfl
structure ShT (n m:Nat) (L:List (List Int)) (bs:List Nat):Prop where
 len:L.length=m + 2
 row:∀ i (h:i < L.length),L[i].length=2 * n + m + 1
 base:bs.length=m
theorem ShT.set {n m i j:Nat} {L:List (List Int)} {bs:List Nat} {x:Int} (h:ShT n m L bs) (hi:i < L.length):ShT n m (L.set i (L[i].set j x)) bs:=by
 refine ⟨by simp [h.len],fun r hr=>?_,h.base⟩
 have hr':r < L.length:=by simpa using hr
 by_cases hri:r=i
 ·subst hri;simp [h.row r hr']
 ·rw [c1j (by omega)];exact h.row r hr'
theorem x0q {n m i j r c:Nat} {L:List (List Int)} {bs:List Nat} {x:Int} (h:ShT n m L bs) (hi:i < L.length) (hj:j < L[i].length):Tf (L.set i (L[i].set j x)) r c=if r=i∧c=j then x else Tf L r c:=by
 unfold Tf
 simp only [Z0C,a1l]
 by_cases hri:i=r
 ·subst hri
  simp only [a1p,hi,a1f,a1l,true_and]
  by_cases hcj:j=c
  ·subst hcj;simp [hj]
  ·rw [Z0F hcj,Z0F (fun h=>hcj h.symm),Z0H hi];rfl
 ·rw [Z0F hri,Z0F (fun h=>hri h.1.symm)]
def n0G (F:RK) (n m:Nat) (sR:Value) (D:Int) (sD sB:Value) (k:Int):List Value :=
 [.int .i64 (n:Int),.int .i64 (m:Int),.int .i64 ((2 * n + m:Nat):Int),sR] ++ F.p [.int .i64 D] [.bool (a0l D).1,sD] ++ [sB,.int .i64 k]
section
variable {F:RK} {n m:Nat} {sR sD sB:Value} {D k:Int}
@[simp high] theorem X0Z:(n0G F n m sR D sD sB k)[0]? = some (.int .i64 (n:Int)):=nr rfl
@[simp high] theorem Y0a:(n0G F n m sR D sD sB k)[1]? = some (.int .i64 (m:Int)):=nr rfl
@[simp high] theorem Y0b:(n0G F n m sR D sD sB k)[2]? = some (.int .i64 (2 * (n:Int) + m)):=nr (by show some (Value.int .i64 ((2 * n + m:Nat):Int))=_;rw [show ((2 * n + m:Nat):Int)=2 * (n:Int) + m by omega])
@[simp high] theorem Y0c:(n0G F n m sR D sD sB k)[3]? = some sR:=nr rfl
@[simp high] theorem Y0d:(n0G F n m sR D sD sB k)[F.p 5 6]? = some sB:=nr (by cases F <;> rfl)
@[simp high] theorem Y0e:(n0G F n m sR D sD sB k)[F.p 6 7]? = some (.int .i64 k):=nr (by cases F <;> rfl)
@[simp] theorem U0m:(n0G F n m sR D sD sB k).length=F.p 7 8:=nr (by cases F <;> rfl)
@[simp] theorem X0I:(4≤F.p 7 8)=True:=nr (by cases F <;> simp)
@[simp] theorem X0J:(F.p 5 6 < F.p 7 8)=True:=nr (by cases F <;> simp)
@[simp] theorem U0l:(F.p 5 6 + 1≤F.p 7 8)=True:=nr (by cases F <;> simp)
@[simp] theorem X0K {x:Value}:(n0G F n m sR D sD sB k).set 3 x=n0G F n m x D sD sB k:=nr (by cases F <;> rfl)
@[simp] theorem X0L {x:Value}:(n0G F n m sR D sD sB k).set (F.p 5 6) x=n0G F n m sR D sD x k:=nr (by cases F <;> rfl)
theorem g0S:n0G .few n m sR D sD sB k=[.int .i64 (n:Int),.int .i64 (m:Int),.int .i64 ((2 * n + m:Nat):Int),sR,.int .i64 D,sB,.int .i64 k]:=rfl
theorem f0I:n0G .all n m sR D sD sB k=[.int .i64 (n:Int),.int .i64 (m:Int),.int .i64 ((2 * n + m:Nat):Int),sR,.bool (a0l D).1,sD,sB,.int .i64 k]:=rfl
end
def dvV (F:RK) (D:Int) (sD:Value):Value:=F.p (.int .i64 D) (.agg #[.bool (a0l D).1,sD])
theorem T0o {F:RK} {n m p e:Nat} {sR sD sB:Value} {D k:Int} {ro:Bool} (h:a0e.blk G p=.row ro e (n0G F n m sR D sD sB k)):b0o G F.b F.w (.pointer (some ⟨p,4,none⟩))=some (dvV F D sD):=by
 cases F
 ·show b0o G false 1 _=_
  rw [q0y,h,T0l];rfl
 ·show b0o G true 2 _=_
  rw [m0M (by decide),h,P0C];rfl
theorem y0C {a:Bool} {n:Nat} {x w:Value} (h:b0o H a n x=some w) (hx:Ext H G):b0o G a n x=some w:=by
 cases x with
 | pointer p =>
  cases p with
  | none=>exact h
  | some p =>
   simp only [b0o] at h ⊢
   split at h
   ·rename_i h1;rw [Z0I h1];exact h
   ·rename_i h1
    rw [Z0F h1]
    split at h
    ·cases h
    ·rename_i h2
     rw [Z0F h2]
     unfold a0e.cells? at h ⊢
     cases hb:H.blk p.block with
     | dead=>rw [hb] at h;simp at h
     | row ro e cs=>rw [hx.blk hb];rw [hb] at h;exact h
 | _=>simp [b0o] at h
theorem kpV.mono {F:RK} {x w:Value} (h:kpV F H x=some w) (hx:Ext H G):kpV F G x=some w:=by
 cases F
 ·exact h
 ·exact y0C h hx
def rD:RK→a0e→Value→Int→Prop
 | .few,_,_,D=>f0f D
 | .all,H,sD,D=>Lim H sD (a0l D).2
theorem rD.mono {F:RK} {D:Int} (h:rD F H v D) (hx:Ext H G):rD F G v D:=by cases F;exact h;exact Lim.mono h hx
theorem rD.lx {F:RK} {D:Int} (h:rD F H v D) (hx:Lx H G):rD F G v D:=by cases F;exact h;exact Lim.lx h hx
structure e0p (F:RK) (fl:Nat) (H:a0e) (p n m:Nat) (L:List (List Int)) (D:Int) (bs:List Nat) (k:Int) (sR sD sB:Value) (vs:List Value):Prop where
 blk:a0e.blk H p=.row false F.T (n0G F n m sR D sD sB k)
 low:fl≤p
 d:rD F H sD D
 heads:b0a PV fl H F.S 1 sR vs
 rows:e0m F.E F.w F.P fl H vs L
 basis:b0a PK fl H e0i 1 sB bs
section
variable {F:RK} {p n m i j:Nat} {L:List (List Int)} {k D x:Int} {bs:List Nat} {sR sD sB:Value} {vs:List Value}
theorem e0p.mono (h:e0p F fl H p n m L D bs k sR sD sB vs) (hx:Ext H G):e0p F fl G p n m L D bs k sR sD sB vs :=
 ⟨hx.blk h.blk,h.low,h.d.mono hx,h.heads.mono u0n hx,h.rows.mono O0M hx,h.basis.mono u0m hx⟩
theorem e0p.store (h:e0p F fl H p n m L D bs k sR sD sB vs) (hi:i < L.length) (hj:j < L[i].length) {w:Value} (hx:rV F H w x) :
  ∃ G,e0Y fl H F.w (adr F.w (vs[i]'(by have:=h.rows.len;omega)) j) w=some G∧e0p F fl G p n m (L.set i (L[i].set j x)) D bs k sR sD sB vs∧Frm F.T F.E H G∧c0V (slB (vs[i]'(by have:=h.rows.len;omega))) H G:=by
 obtain ⟨G,h1,h2,h3,h4⟩:=h.rows.store O0M hi hj (w:=w) (x:=x) hx.st.1 hx.st.2.1 hx.st.2.2
 have hr:=h.rows.own i hi
 have hne:=hr.ne h.blk (by cases F <;> decide)
 exact ⟨G,h1,⟨(h3.2 _ (a0g h.blk) hne).trans h.blk,h.low,h.d.lx h4,h.heads.lxm (hr.lxT (by cases F <;> decide) h3) (fun _ _ h=>h),h2,h.basis.lxm (hr.lxT (by cases F <;> decide) h3) (fun _ _ h=>h)⟩,⟨h3.1,fun e _ he _=>hr.lxT he.symm h3⟩,h3⟩
theorem e0p.head (h:e0p F fl H p n m L D bs k sR sD sB vs) (hi:i < L.length) :
  b0o H false 1 (adr 1 sR i)=some (vs[i]'(by have:=h.rows.len;omega)):=by
 have hl:=h.rows.len
 obtain ⟨w,h1,h2⟩:=h.heads.sls.load1 (j:=i) (by omega)
 rw [h1]
 have:[w]=[vs[i]'(by omega)]:=h2
 simpa using this
theorem e0p.hia (h:e0p F fl H p n m L D bs k sR sD sB vs) (hi:i < L.length):iaV 1 sR (.int .i64 i)=some (adr 1 sR i):=h.heads.sls.ia (by have:=h.rows.len;omega)
theorem e0p.ia (h:e0p F fl H p n m L D bs k sR sD sB vs) (hi:i < L.length) (hj:j < L[i].length):iaV F.w (vs[i]'(by have:=h.rows.len;omega)) (.int .i64 j)=some (adr F.w (vs[i]'(by have:=h.rows.len;omega)) j):=(h.rows.own i hi).sls.ia hj
theorem e0p.num (h:e0p F fl H p n m L D bs k sR sD sB vs) (hi:i < L.length) (hj:j < L[i].length) :
  ∃ w,b0o H F.b F.w (adr F.w (vs[i]'(by have:=h.rows.len;omega)) j)=some w∧rV F H w (Tf L i j):=by
 rw [F0S hi hj]
 cases F
 ·obtain ⟨w,h1,h2,h3⟩:=(h.rows.own i hi).sls.load1 (j:=j) hj;exact ⟨w,h1,by simpa using h2,h3⟩
 ·obtain ⟨cs,h1,_,h3⟩:=Sls.load (h.rows.own i hi).sls (j:=j) hj (by decide);exact ⟨_,h1,h3⟩
theorem e0p.base (h:e0p F fl H p n m L D bs k sR sD sB vs) (hi:i < bs.length):b0o H false 1 (adr 1 sB i)=some (.int .i64 (bf bs i:Int))∧iaV 1 sB (.int .i64 i)=some (adr 1 sB i):=by
 obtain ⟨w,h1,h2⟩:=h.basis.sls.load1 (j:=i) hi
 rw [h1,W0j hi]
 have:[w]=[.int .i64 (bs[i]:Int)]:=h2
 exact ⟨by simpa using this,h.basis.sls.ia hi⟩
theorem e0p.cell (h:e0p F fl H p n m L D bs k sR sD sB vs) (hi:i < L.length) (hj:j < L[i].length) :
  ∃ vi w,vi=vs[i]'(by have:=h.rows.len;omega)∧b0o H false 1 (adr 1 sR i)=some vi∧iaV 1 sR (.int .i64 i)=some (adr 1 sR i)∧iaV F.w vi (.int .i64 j)=some (adr F.w vi j)∧b0o H F.b F.w (adr F.w vi j)=some w∧rV F H w (Tf L i j):=by
 obtain ⟨w,h1,h2⟩:=h.num hi hj
 exact ⟨_,w,rfl,h.head hi,h.hia hi,h.ia hi hj,h1,h2⟩
theorem e0p.dv (h:e0p F fl H p n m L D bs k sR sD sB vs):rV F H (dvV F D sD) D:=by
 have:=h.d
 cases F
 ·exact ⟨rfl,this⟩
 ·exact ⟨sD,rfl,this⟩
end
end
end Go.Proofs.YtilekhkgobmolaaGreat.AI
namespace Go.Proofs.YtilekhkgobmolaaGreat.SX
def sm (f:Nat→Int):Nat→Int
 | 0=>0
 | n + 1=>sm f n + f n
theorem b0f {f g:Nat→Int}:∀ {n:Nat},(∀ i,i < n→f i=g i)→sm f n=sm g n
 | 0,_=>rfl
 | n + 1,h=>by rw [sm,sm,b0f (fun i hi=>h i (by omega)),h n (by omega)]
theorem r0m {f g:Nat→Int}:∀ {n:Nat},sm (fun i=>f i + g i) n=sm f n + sm g n
 | 0=>rfl
 | n + 1=>by simp only [sm];rw [r0m];omega
theorem e0E {a:Int} {f:Nat→Int}:∀ {n:Nat},sm (fun i=>a * f i) n=a * sm f n
 | 0=>by simp [sm]
 | n + 1=>by simp only [sm];rw [e0E,Int.mul_add]
theorem v0w {a b:Int} {f g:Nat→Int} {n:Nat}:sm (fun i=>a * f i + b * g i) n=a * sm f n + b * sm g n:=by
 rw [r0m,e0E,e0E]
theorem e0k {f:Nat→Int}:∀ {n:Nat},(∀ i,i < n→f i=0)→sm f n=0
 | 0,_=>rfl
 | n + 1,h=>by rw [sm,e0k (fun i hi=>h i (by omega)),h n (by omega)];rfl
theorem f0S {f:Nat→Int} {k:Nat}:∀ {n:Nat},k < n→(∀ i,i < n→i ≠ k→f i=0)→sm f n=f k
 | 0,h,_=>by omega
 | n + 1,h,h0=>by
  rw [sm]
  by_cases hk:k=n
  ·subst hk;rw [e0k (fun i hi=>h0 i (by omega) (by omega))];omega
  ·rw [f0S (by omega) (fun i hi hne=>h0 i (by omega) hne),h0 n (by omega) (by omega)];omega
theorem N0r {f:Nat→Int} {k l:Nat}:∀ {n:Nat},k < l→l < n→(∀ i,i < n→i ≠ k→i ≠ l→f i=0)→sm f n=f k + f l
 | 0,_,h,_=>by omega
 | n + 1,h1,h,h0=>by
  rw [sm]
  by_cases hl:l=n
  ·subst hl;rw [f0S (k:=k) h1 (fun i hi hne=>h0 i (by omega) hne (by omega))]
  ·rw [N0r h1 (by omega) (fun i hi ha hb=>h0 i (by omega) ha hb),h0 n (by omega) (by omega) (by omega)];omega
theorem i0x {f:Nat→Int} {k:Nat}:∀ {n:Nat},k < n→sm f n=f k + sm (fun i=>if i=k then 0 else f i) n
 | 0,h=>by omega
 | n + 1,h=>by
  simp only [sm]
  by_cases hk:k=n
  ·subst hk
   rw [Z0I rfl,b0f (f:=fun i=>if i=k then 0 else f i) (g:=f) (fun i hi=>by rw [Z0F (by omega)])];omega
  ·rw [i0x (k:=k) (f:=f) (by omega),Z0F (by omega)];omega
def skip (k i:Nat):Nat:=if i < k then i else i + 1
def up {α:Type} (v:Nat→α) (k:Nat) (x:α):Nat→α:=fun i=>if i=k then x else v i
theorem b0g {α:Type} {v:Nat→α} {k:Nat} {x:α}:up v k x k=x:=by simp [up]
theorem e0l {α:Type} {v:Nat→α} {k i:Nat} {x:α} (h:i ≠ k):up v k x i=v i:=by simp [up,h]
def sgn (k:Nat):Int:=if k % 2=0 then 1 else -1
theorem I0q (k:Nat):sgn (k + 1) = -sgn k:=by unfold sgn;split <;> split <;> omega
def det:Nat→(Nat→Nat→Int)→Int
 | 0,_=>1
 | m + 1,v=>sm (fun k=>sgn (k + m) * (v k m * det m (fun i=>v (skip k i)))) (m + 1)
theorem h0S:∀ {m:Nat} {v w:Nat→Nat→Int},(∀ i r,i < m→r < m→v i r=w i r)→det m v=det m w
 | 0,_,_,_=>rfl
 | m + 1,v,w,h=>by
  unfold det
  refine b0f fun k hk=>?_
  rw [h k m hk (by omega),h0S (v:=fun i=>v (skip k i)) (w:=fun i=>w (skip k i)) (fun i r hi hr=>h _ r (by unfold skip;split <;> omega) (by omega))]
theorem t0v {v:Nat→Nat→Int} {k i:Nat} {x:Nat→Int} (h:i ≠ k):(fun j=>up v i x (skip k j))=up (fun j=>v (skip k j)) (if i < k then i else i - 1) x:=by
 funext j
 unfold up skip
 by_cases hik:i < k <;> by_cases hjk:j < k <;> simp only [hik,hjk,a1p,a1v]
 ·by_cases e:j + 1=i
  ·omega
  ·rw [Z0F e,Z0F (by omega)]
 ·by_cases e:j=i
  ·omega
  ·rw [Z0F e,Z0F (by omega)]
 ·by_cases e:j + 1=i
  ·rw [Z0I e,Z0I (by omega)]
  ·rw [Z0F e,Z0F (by omega)]
theorem g0I {v:Nat→Nat→Int} {k:Nat} {x:Nat→Int}:(fun j=>up v k x (skip k j))=fun j=>v (skip k j):=by
 funext j
 unfold up skip
 by_cases hjk:j < k <;> simp only [hjk,a1p,a1v]
 ·rw [Z0F (by omega)]
 ·rw [Z0F (by omega)]
theorem h0u {a b:Int} {x y:Nat→Int}:∀ {m:Nat} {v:Nat→Nat→Int} {i:Nat},i < m →
  det m (up v i (fun r=>a * x r + b * y r))=a * det m (up v i x) + b * det m (up v i y)
 | 0,_,_,h=>by omega
 | m + 1,v,i,h=>by
  unfold det
  rw [← v0w]
  refine b0f fun k hk=>?_
  by_cases e:i=k
  ·subst e
   rw [g0I,g0I,g0I,b0g,b0g,b0g]
   generalize det m _=D
   grind
  ·rw [t0v e,t0v e,t0v e,e0l (b1k e),e0l (b1k e),e0l (b1k e),h0u (by split <;> omega)]
   generalize det m _=D
   generalize det m _=D2
   grind
theorem h0I {v:Nat→Nat→Int} {i:Nat}:up v i (v i)=v:=by
 funext j;unfold up;split
 ·rename_i h;rw [h]
 ·rfl
theorem o0f:∀ {m:Nat} {v:Nat→Nat→Int} {i:Nat},i + 1 < m→(∀ r,v i r=v (i + 1) r)→det m v=0
 | 0,_,_,h,_=>by omega
 | m + 1,v,i,h,e=>by
  unfold det
  rw [N0r (k:=i) (l:=i + 1) (by omega) h]
  ·have e1:(fun j=>v (skip i j))=fun j=>v (skip (i + 1) j):=by
    funext j r
    unfold skip
    by_cases h1:j < i
    ·rw [Z0I h1,Z0I (by omega)]
    ·rw [Z0F h1]
     by_cases h2:j=i
     ·subst h2;rw [Z0I (by omega)];exact (e r).symm
     ·rw [Z0F (by omega)]
   rw [e1,e m,show i + 1 + m=(i + m) + 1 by omega,I0q,Int.neg_mul];omega
  ·intro k hk h1 h2
   have:det m (fun j=>v (skip k j))=0:=by
    by_cases hki:k < i
    ·refine o0f (i:=i - 1) (by omega) fun r=>?_
     unfold skip
     rw [Z0F (by omega),Z0F (by omega),show i - 1 + 1=i by omega];exact e r
    ·refine o0f (i:=i) (by omega) fun r=>?_
     unfold skip
     rw [Z0I (by omega),Z0I (by omega)];exact e r
   rw [this];simp
theorem l0N {v:Nat→Nat→Int} {i j:Nat} {x y:Nat→Int} (h:i ≠ j):up (up v i x) j y=up (up v j y) i x:=by
 funext k;unfold up;by_cases e1:k=i <;> by_cases e2:k=j <;> simp [e1,e2]
 ·omega
 ·intro h3;omega
 ·intro h3;omega
theorem r0J {m:Nat} {v:Nat→Nat→Int} {i:Nat} {x y:Nat→Int} (h:i < m):det m (up v i (fun r=>x r + y r))=det m (up v i x) + det m (up v i y):=by
 have:=h0u (a:=1) (b:=1) (x:=x) (y:=y) (v:=v) h
 simpa using this
theorem G0p {m:Nat} {v:Nat→Nat→Int} {i:Nat} (h:i + 1 < m):det m (up (up v i (v (i + 1))) (i + 1) (v i)) = - det m v:=by
 have h0:∀ x,det m (up (up v i x) (i + 1) x)=0:=fun x=>o0f h (fun r=>by rw [b0g,e0l (by omega),b0g])
 have h1:=h0 (fun r=>v i r + v (i + 1) r)
 rw [r0J h,l0N (by omega),r0J (by omega),l0N (i:=i) (j:=i + 1) (x:=fun r=>v i r + v (i + 1) r) (by omega),r0J (by omega)] at h1
 have e1:det m (up (up v (i + 1) (v i)) i (v i))=0:=by rw [← l0N (by omega)];exact h0 _
 have e2:det m (up (up v i (v (i + 1))) (i + 1) (v (i + 1)))=0:=h0 _
 have e2':det m (up (up v (i + 1) (v (i + 1))) i (v (i + 1)))=0:=by rw [← l0N (by omega)];exact h0 _
 have e3:up (up v i (v i)) (i + 1) (v (i + 1))=v:=by rw [h0I,h0I]
 have e4:up (up v (i + 1) (v i)) i (v (i + 1))=up (up v i (v (i + 1))) (i + 1) (v i):=(l0N (by omega)).symm
 have e5:up (up v (i + 1) (v (i + 1))) i (v i)=v:=by rw [h0I,h0I]
 grind
theorem r0K {m:Nat}:∀ (n:Nat) {v:Nat→Nat→Int} {i:Nat},i + n + 1 < m→(∀ r,v i r=v (i + n + 1) r)→det m v=0
 | 0,v,i,h,e=>o0f h e
 | n + 1,v,i,h,e=>by
  have h1:=G0p (m:=m) (v:=v) (i:=i + n + 1) (by omega)
  rw [r0K n (v:=up (up v (i + n + 1) (v (i + n + 1 + 1))) (i + n + 1 + 1) (v (i + n + 1))) (i:=i) (by omega) (fun r=>?_)] at h1
  ·omega
  ·rw [e0l (by omega),e0l (by omega),e0l (by omega),b0g];exact e r
theorem t0V {m:Nat} {v:Nat→Nat→Int} {i j:Nat} (hi:i < m) (hj:j < m) (hne:i ≠ j) (e:∀ r,v i r=v j r):det m v=0:=by
 by_cases h:i < j
 ·exact r0K (j - i - 1) (i:=i) (by omega) (fun r=>by rw [show i + (j - i - 1) + 1=j by omega];exact e r)
 ·exact r0K (i - j - 1) (i:=j) (by omega) (fun r=>by rw [show j + (i - j - 1) + 1=i by omega];exact (e r).symm)
theorem r0L {m:Nat} {v:Nat→Nat→Int} {k:Nat} {t:Nat→Int} {x:Nat→Nat→Int} (h:k < m):∀ n:Nat,
  det m (up v k (fun r=>sm (fun i=>t i * x i r) n))=sm (fun i=>t i * det m (up v k (x i))) n
 | 0=>by
  have:=h0u (a:=0) (b:=0) (x:=fun _=>0) (y:=fun _=>0) (v:=v) h
  simp [sm] at this ⊢;exact this
 | n + 1=>by
  have:=h0u (a:=1) (b:=t n) (x:=fun r=>sm (fun i=>t i * x i r) n) (y:=x n) (v:=v) h
  simp only [sm,Int.one_mul] at this ⊢
  rw [this,r0L h n]
theorem I0M {m:Nat} {v:Nat→Nat→Int} {a t:Nat→Int} {d:Int} {k:Nat} (hk:k < m) (h:∀ r,r < m→d * a r=sm (fun i=>t i * v i r) m):d * det m (up v k a)=t k * det m v:=by
 have h1:=h0u (a:=d) (b:=0) (x:=a) (y:=a) (v:=v) hk
 rw [Int.zero_mul,b1a] at h1
 rw [← h1]
 have h2:det m (up v k (fun r=>d * a r + 0 * a r))=det m (up v k (fun r=>sm (fun i=>t i * v i r) m)):=by
  refine h0S fun i r hi hr=>?_
  unfold up;split
  ·show d * a r + 0 * a r=sm (fun i=>t i * v i r) m;rw [← h r hr];omega
  ·rfl
 rw [h2,r0L hk,f0S hk]
 ·rw [h0I]
 ·intro i hi hne
  rw [t0V hk hi (b1k hne) (fun r=>by rw [b0g,e0l hne])];simp
def i0A (i:Nat):Nat→Int:=fun r=>if r=i then 1 else 0
theorem t0W:∀ m:Nat,det m i0A=1
 | 0=>rfl
 | m + 1=>by
  unfold det
  rw [f0S (k:=m) (by omega)]
  ·have:det m (fun i=>i0A (skip m i))=det m i0A:=h0S (fun i r hi hr=>by unfold skip;rw [Z0I hi])
   rw [this,t0W m]
   unfold i0A sgn
   rw [Z0I (by omega),Z0I rfl];rfl
  ·intro i hi hne
   unfold i0A;rw [Z0F (by omega)];simp
def fac:Nat→Nat
 | 0=>1
 | n + 1=>(n + 1) * fac n
theorem v0v {f:Nat→Int} {b:Nat}:∀ {n:Nat},(∀ i,i < n→(f i).natAbs≤b)→(sm f n).natAbs≤n * b
 | 0,_=>by simp [sm]
 | n + 1,h=>by
  have h1:=v0v (fun i hi=>h i (by omega)) (n:=n)
  have h2:=h n (by omega)
  rw [sm,Z0U,a1w]
  have:=Int.natAbs_add_le (sm f n) (f n)
  omega
theorem k0u {b:Nat}:∀ {m:Nat} {v:Nat→Nat→Int},(∀ i r,i < m→r < m→(v i r).natAbs≤b)→(det m v).natAbs≤fac m * b ^ m
 | 0,_,_=>by simp [det,fac]
 | m + 1,v,h=>by
  unfold det
  have h1:∀ k,k < m + 1→(sgn (k + m) * (v k m * det m (fun i=>v (skip k i)))).natAbs≤fac m * b ^ (m + 1):=by
   intro k hk
   have h2:=k0u (v:=fun i=>v (skip k i)) (m:=m) (b:=b) (fun i r hi hr=>h _ r (by unfold skip;split <;> omega) (by omega))
   have h3:=h k m hk (by omega)
   have h4:(sgn (k + m)).natAbs=1:=by unfold sgn;split <;> rfl
   rw [b1m,b1m,h4,a1w]
   calc _≤b * (fac m * b ^ m):=a1D h3 h2
    _=fac m * b ^ (m + 1):=by rw [a1r];grind
  have:=v0v h1
  unfold fac
  rw [a1e];exact this
end Go.Proofs.YtilekhkgobmolaaGreat.SX
namespace Go.Proofs.YtilekhkgobmolaaGreat.SX
structure Inv (M C:Nat) (A T b:Nat→Nat→Int) (d e:Int):Prop where
 pos:0 < d
 eps:e * e=1
 dt:d=e * det M b
 col:∀ c,c≤C→∀ r,r < M→d * A c r=sm (fun i=>T i c * b i r) M
variable {M C:Nat} {A T b:Nat→Nat→Int} {d e:Int}
def co (M:Nat) (b:Nat→Nat→Int) (e:Int) (k:Nat) (v:Nat→Int):Int:=e * det M (up b k v)
theorem e0L {k:Nat} {v w:Nat→Int} (h:∀ r,r < M→v r=w r):co M b e k v=co M b e k w:=by
 unfold co;congr 1
 exact h0S fun i r _ hr=>by unfold up;split;exact h r hr;rfl
theorem Inv.entry (h:Inv M C A T b d e) {k c:Nat} (hk:k < M) (hc:c≤C):co M b e k (A c)=T k c:=by
 have h1:=I0M hk (h.col c hc)
 have h2:=h.dt
 have h3:=h.pos
 have h4:=h.eps
 unfold co
 have hne:det M b ≠ 0:=by intro h0;rw [h0] at h2;omega
 have:det M b * (e * det M (up b k (A c)))=det M b * T k c:=by
  have:e * d * det M (up b k (A c))=e * (T k c * det M b):=by rw [b1G,h1]
  rw [h2] at this
  have e2:e * (e * det M b)=det M b:=by rw [← b1G,h4,Int.one_mul]
  rw [e2] at this
  rw [← b1G,Int.mul_comm (det M b) e]
  have h5:e * (det M b * det M (up b k (A c)))=e * (e * (T k c * det M b)):=by rw [this]
  rw [← b1G e e,h4,Int.one_mul] at h5
  rw [b1G,h5];grind
 exact b1l hne this
theorem Inv.basis (h:Inv M C A T b d e) {k i:Nat} (hk:k < M) (hi:i < M):co M b e k (b i)=if k=i then d else 0:=by
 unfold co
 by_cases hki:k=i
 ·subst hki;rw [Z0I rfl,h0I];exact h.dt.symm
 ·rw [Z0F hki,t0V hk hi hki (fun r=>by rw [b0g,e0l (b1k hki)])];simp
theorem I0L {k:Nat} (hk:k < M) {t:Nat→Int} {x:Nat→Nat→Int} {n:Nat}:co M b e k (fun r=>sm (fun i=>t i * x i r) n)=sm (fun i=>t i * co M b e k (x i)) n:=by
 unfold co
 rw [r0L hk,← e0E]
 exact b0f fun i _=>by grind
theorem I0K {k:Nat} (hk:k < M) {a c:Int} {x y:Nat→Int}:co M b e k (fun r=>a * x r + c * y r)=a * co M b e k x + c * co M b e k y:=by
 unfold co;rw [h0u hk];grind
theorem R0B {k:Nat} (hk:k < M) {a:Int} {x:Nat→Int}:co M b e k (fun r=>a * x r)=a * co M b e k x:=by
 have:=I0K (M:=M) (b:=b) (e:=e) hk (a:=a) (c:=0) (x:=x) (y:=x)
 rw [Int.zero_mul,b1a] at this
 rw [← this];exact e0L fun r _=>by omega
theorem Inv.col1 (h:Inv M C A T b d e) {k i c:Nat} (hk:k < M) (hi:i < M) (hc:c≤C) (hb:∀ r,r < M→b i r=A c r):T k c=if k=i then d else 0:=by
 rw [← h.entry hk hc,← h.basis hk hi]
 exact e0L fun r hr=>(hb r hr).symm
def pv (T:Nat→Nat→Int) (i j:Nat) (d:Int):Nat→Nat→Int:=fun k c=>if k=i then T i c else (T k c * T i j - T k j * T i c) / d
theorem Inv.pivot_key (h:Inv M C A T b d e) {i j:Nat} (hi:i < M) (hj:j≤C) (hp:T i j ≠ 0) {k c:Nat} (hk:k < M) (hc:c≤C) :
  T i j=e * det M (up b i (A j))∧d * co M (up b i (A j)) e k (A c)=if k=i then d * T i c else T k c * T i j - T k j * T i c:=by
 have h1:T i j=e * det M (up b i (A j)):=(h.entry hi hj).symm
 refine ⟨h1,?_⟩
 have h3:=h.pos
 have h4:=h.eps
 let U:Nat→Int:=fun k=>if k=i then d * T i c else T k c * T i j - T k j * T i c
 have hU:∀ r,r < M→(T i j * d) * A c r=sm (fun k=>U k * up b i (A j) k r) M:=by
  intro r hr
  have hcc:=h.col c hc r hr
  have hcj:=h.col j hj r hr
  rw [i0x hi] at hcc hcj
  rw [i0x hi]
  have e1:U i * up b i (A j) i r=T i c * (d * A j r):=by simp only [U,a1p,b0g];grind
  have e2:sm (fun k=>if k=i then 0 else U k * up b i (A j) k r) M=T i j * sm (fun k=>if k=i then 0 else T k c * b k r) M + -(T i c) * sm (fun k=>if k=i then 0 else T k j * b k r) M:=by
   rw [← v0w]
   refine b0f fun k _=>?_
   by_cases hki:k=i
   ·simp [hki]
   ·simp only [Z0F hki,U,e0l hki];grind
  rw [e1,e2,hcj,b1G,hcc]
  grind
 have h5:=I0M hk hU
 rw [b1G] at h5
 have h6:T i j * (d * co M (up b i (A j)) e k (A c))=T i j * U k:=by
  unfold co
  have:e * (T i j * (d * det M (up (up b i (A j)) k (A c))))=e * (U k * det M (up b i (A j))):=by rw [h5]
  have h7:e * (U k * det M (up b i (A j)))=U k * T i j:=by rw [h1];grind
  rw [h7] at this
  grind
 exact b1l hp h6
theorem Inv.pv_eq (h:Inv M C A T b d e) {i j:Nat} (hi:i < M) (hj:j≤C) (hp:T i j ≠ 0) {k c:Nat} (hk:k < M) (hc:c≤C):co M (up b i (A j)) e k (A c)=pv T i j d k c:=by
 have h1:=(h.pivot_key hi hj hp hk hc).2
 have h3:=h.pos
 unfold pv
 by_cases hki:k=i
 ·rw [Z0I hki] at h1 ⊢;exact b1l (by omega) h1
 ·rw [Z0F hki] at h1 ⊢;rw [← h1,Int.mul_ediv_cancel_left _ (by omega)]
theorem Inv.exact (h:Inv M C A T b d e) {i j:Nat} (hi:i < M) (hj:j≤C) (hp:T i j ≠ 0) {k c:Nat} (hk:k < M) (hc:c≤C) (hki:k ≠ i):T k c * T i j - T k j * T i c=d * pv T i j d k c:=by
 rw [← h.pv_eq hi hj hp hk hc,(h.pivot_key hi hj hp hk hc).2,Z0F hki]
theorem Inv.pivot (h:Inv M C A T b d e) {i j:Nat} (hi:i < M) (hj:j≤C) (hp:0 < T i j):Inv M C A (pv T i j d) (up b i (A j)) (T i j) e where
 pos:=hp
 eps:=h.eps
 dt:=(h.pivot_key hi hj (by omega) hi hj).1
 col:=fun c hc r hr=>by
  have h3:=h.pos
  have hcc:=h.col c hc r hr
  have hcj:=h.col j hj r hr
  rw [i0x hi] at hcc hcj
  refine b1l (a:=d) (by omega) ?_
  rw [← e0E,i0x hi]
  have e1:d * (pv T i j d i c * up b i (A j) i r)=T i c * (d * A j r):=by simp only [pv,a1p,b0g];grind
  have e2:sm (fun k=>if k=i then 0 else d * (pv T i j d k c * up b i (A j) k r)) M=T i j * sm (fun k=>if k=i then 0 else T k c * b k r) M + -(T i c) * sm (fun k=>if k=i then 0 else T k j * b k r) M:=by
   rw [← v0w]
   refine b0f fun k hk=>?_
   by_cases hki:k=i
   ·simp [hki]
   ·simp only [Z0F hki,e0l hki]
    have:=h.exact hi hj (by omega) hk hc hki
    rw [← b1G,← this];grind
  rw [e1,e2,hcj]
  have:d * (T i j * A c r)=T i j * (d * A c r):=by grind
  rw [this,hcc]
  grind
def ng (T:Nat→Nat→Int) (i:Nat):Nat→Nat→Int:=fun k c=>if k=i then -T i c else T k c
theorem Inv.turn (h:Inv M C A T b d e) {i:Nat} (hi:i < M):Inv M C A (ng T i) (up b i (fun r=>-b i r)) d (-e) where
 pos:=h.pos
 eps:=by have:=h.eps;grind
 dt:=by
  have h1:=h0u (m:=M) (v:=b) (i:=i) hi (a:=-1) (b:=0) (x:=b i) (y:=b i)
  rw [h0I] at h1
  have:(fun r=>(-1:Int) * b i r + 0 * b i r)=fun r=>-b i r:=by funext r;omega
  rw [this] at h1
  rw [h1];have:=h.dt;grind
 col:=fun c hc r hr=>by
  rw [h.col c hc r hr]
  refine b0f fun k hk=>?_
  by_cases hki:k=i
  ·subst hki;simp only [ng,a1p,b0g];grind
  ·simp only [ng,Z0F hki,e0l hki]
theorem Inv.bound (h:Inv M C A T b d e) {B:Nat} (hb:∀ i r,i < M→r < M→(b i r).natAbs≤B) (hA:∀ c r,c≤C→r < M→(A c r).natAbs≤B) {k c:Nat} (hk:k < M) (hc:c≤C):(T k c).natAbs≤fac M * B ^ M:=by
 have h1:e.natAbs=1:=by
  have:=h.eps
  have h2:(e * e).natAbs=1:=by rw [this];rfl
  rw [b1m] at h2
  exact Nat.eq_one_of_mul_eq_one_left h2
 rw [← h.entry hk hc]
 unfold co
 rw [b1m,h1,a1w]
 refine k0u fun i r hi hr=>?_
 unfold up;split
 ·exact hA c r hc hr
 ·exact hb i r hi hr
theorem Inv.bound_d (h:Inv M C A T b d e) {B:Nat} (hb:∀ i r,i < M→r < M→(b i r).natAbs≤B):d.natAbs≤fac M * B ^ M:=by
 have h1:e.natAbs=1:=by
  have:=h.eps
  have h2:(e * e).natAbs=1:=by rw [this];rfl
  rw [b1m] at h2
  exact Nat.eq_one_of_mul_eq_one_left h2
 rw [h.dt,b1m,h1,a1w]
 exact k0u hb
theorem Inv.first:Inv M C A (fun i c=>A c i) i0A 1 1 where
 pos:=by omega
 eps:=rfl
 dt:=by rw [t0W];rfl
 col:=fun c hc r hr=>by
  rw [f0S hr]
  ·simp [i0A]
  ·intro i hi hne;unfold i0A;rw [Z0F (b1k hne)];omega
end Go.Proofs.YtilekhkgobmolaaGreat.SX

