/- Part 8 of the proof. -/
import Derived.Deep.Slices
import Derived.ProofKit
import Derived.OpenShut
import Derived.Test.YtilekhkgobmolaaGreatRows
import Derived.Test.YtilekhkgobmolaaGreatM02
import Derived.Test.YtilekhkgobmolaaGreatM06
set_option linter.unusedVariables false
set_option linter.unusedSimpArgs false
set_option linter.unusedSectionVars false
namespace Go.Proofs.YtilekhkgobmolaaGreat.AI
section
open Go
set_option maxHeartbeats 4000000
variable {fl:Nat} {H G:a0e} {R:a0E} {v w u:Value}
theorem y0i.lx2 {l:List Int} (h:Sls PI H a0a 2 v l) (h1:LxT a0a H G) (h2:Lx H G):Sls PI G a0a 2 v l:=by
 obtain ⟨cs,⟨hl,hs⟩,hp⟩:=h
 refine ⟨cs,⟨hl,?_⟩,fun k hk=>b0q.lx (hp k hk) h2⟩
 rcases hs with hs | ⟨b,off,cap,ro,cells,rfl,hb,ho,hcs⟩
 ·exact .inl hs
 ·exact .inr ⟨b,off,cap,ro,cells,rfl,h1 _ _ _ hb,ho,hcs⟩
structure ScT where
 n:Int
 A:List (List Int)
 bs:List Rat
 C:List Int
 cb:Rat
def PIs (H:a0e) (cs:List Value) (l:List Int):Prop:=∃ w,cs=[w]∧Sls PI H a0a 2 w l
theorem q0f:i0J PIs:=fun _ _ _ _ hx ⟨v,h1,h2⟩=>⟨v,h1,h2.mono d0r hx⟩
def SV (H:a0e) (v:Value) (p:ScT):Prop:=∃ sA sB sC s1 s2,v=.agg #[.int .i64 p.n,sA,sB,sC,.bool (a0f p.cb).1.1,s1,.bool (a0f p.cb).2.1,s2] ∧
 Sls PIs H b0i 1 sA p.A∧b0v H sB (p.bs.map a0f)∧Sls PI H a0a 2 sC p.C∧Lim H s1 (a0f p.cb).1.2∧Lim H s2 (a0f p.cb).2.2
theorem Whole.mono {xs:List Rat} {zs:List Int} {b:Rat} {K K':Nat} (h:Whole xs zs b K) (hK:K≤K'):Whole xs zs b K' :=
 ⟨h.len,h.pos,h.eq,fun z hz=>i1t (h.szz z hz) hK,i1t h.szb hK⟩
def k0x (p:LPt) (k:Nat):List Rat:=(p.A.getD k []).map b0u ++ [b0u (p.B.getD k c0o)]
def X0M (H:a0e) (P:Nat) (p:LPt) (sA0 sB0 sC0:Value) (K:Nat) (i:Nat) (ρ:Nat→Value) (G:a0e):Prop :=
 ρ 12=sA0∧ρ 1=.pointer (some ⟨H.size,0,none⟩)∧ρ 2=.pointer (some ⟨H.size + 1,0,none⟩)∧ρ 3=.pointer (some ⟨P,0,none⟩)∧Ext H G ∧
  a0e.blk G H.size=.row false b0J [.int .i64 p.n,sA0,sB0,sC0] ∧
  a0e.blk G (H.size + 1)=.row false a0O [.int .i64 0,.slice none 0 0,.slice none 0 0,.slice none 0 0,.bool false,.slice none 0 0,.bool false,.slice none 0 0] ∧
  ∃ (sA sB:Value) (L:List (List Int)) (bs:List Rat),a0e.blk G P=.row false a0O [.int .i64 p.n,sA,sB,.slice none 0 0,.bool false,.slice none 0 0,.bool false,.slice none 0 0] ∧
   b0d PIs H.size G b0i 1 sA L∧b0d PR H.size G a0b 4 sB (bs.map a0f)∧L.length=i∧bs.length=i ∧
   ∀ k,k < i→Whole (k0x p k) (L.getD k []) (bs.getD k 0) K
theorem j0R {S N K:Nat} {p:LPt} (h:LPV H v p) (hf:fl≤H.size) (hA:∀ r ∈ p.A,Few S r∧r.length≤N) (hB:Few S p.B) (hBl:p.B.length=p.A.length) (hC:Few S p.C) (hCl:p.C.length≤N) (hAl:p.A.length < 67108864)
  (hS:1≤S) (hK:K=(N + 3) * (S + 1)) (hK2:K < 67108864) :
  a0S env fl Z0l [v] H (fun r H'=>(∃ q:ScT,SV H' r q∧q.n=p.n∧q.A.length=p.A.length∧q.bs.length=p.A.length∧(∀ k,k < p.A.length→Whole (k0x p k) (q.A.getD k []) (q.bs.getD k 0) K)∧Whole (p.C.map b0u) q.C q.cb K)∧Ext H H') R:=by
 obtain ⟨sA0,sB0,sC0,rfl,kA,kB,kC⟩:=h
 refine a0g h1H hf (h:=?_)
 intro ρ h0
 simp [c1T,S0x,h0,kA.cells,kB.cells,kC.cells]
 generalize hG:Array.push (Array.push H _) _=G
 obtain ⟨hx2,b0,b1⟩:=push2 hG
 have hx:=Ext.refl H
 clear hG
 replace hx:=hx.trans hx2
 have hsz:=hx.1
 have hb1l:=a0i b1
 simp [S0y,b0,hsz]
 generalize hN:Array.setIfInBounds (Array.push _ _) _ _=G3
 obtain ⟨hx2,b2⟩:=new1 hN
 clear hN
 replace b0:=hx2.blk b0;replace b1:=hx2.blk b1;replace hx:=hx.trans hx2
 obtain ⟨P,hP⟩:∃ P,P=G.size:=⟨_,rfl⟩
 rw [← hP] at b2 hsz hb1l ⊢
 have hPne:P ≠ H.size:=by omega
 have hPne1:P ≠ H.size + 1:=by omega
 have hNS:S < K:=by rw [hK];have:1 * (S + 1)≤(N + 3) * (S + 1):=i1r _ (by omega);omega
 have hNK:N + 3≤K:=by rw [hK];have:(N + 3) * 1≤(N + 3) * (S + 1):=i1N _ (by omega);omega
 simp [S0z,b0,kA.slen]
 refine c0W (n:=p.A.length) (X0M H P p sA0 sB0 sC0 K) rfl rfl (by decide) (by omega) (by simp) (by simp) ?_ ?_ ?_ ?_
 ·exact ⟨by simp,by simp,by simp,by simp,hx,b0,b1,_,_,[],[],b2,b0d.nil,b0d.nil,rfl,rfl,fun k hk=>by omega⟩
 ·intro i ρ ρ' G h hI;simpa [X0M,h] using hI
 ·clear h0 ρ hx b0 b1 b2 hx2
  rintro i ρ G hi gi gn ⟨g12,g1,g2,g3,hx,b0,b1,sA,sB,L,bs,b2,oA,oB,hL,hbs,hW⟩
  have kA':=kA.mono d0A hx
  have kB':=kB.mono a0Q hx
  obtain ⟨wr,hlr,kr⟩:=e0Y.load kA' hi
  simp [S0A,g12,gi,kA'.ia hi,hlr]
  refine c0J ?_
  simp [S0B]
  have hAi:=hA _ (i1p hi)
  refine (f0z kr (by have:=hx.1;omega) hAi.1 (by omega) (by omega)).mono ?_
  rintro r G2 ⟨kw,hxa⟩
  have b0':=hxa.blk b0
  have kB2:=kB'.mono a0Q hxa
  have hiB:i < p.B.length:=by omega
  have hBi:=hB _ (i1p hiB)
  obtain ⟨we,hle,k0⟩:=b0v.load kB2 hiB
  obtain ⟨s1,s2,rfl,k1,k2⟩:=id k0
  simp [g1,b0',kB2.ia hiB,hle]
  have hHG:=hx.1
  have hGG2:=hxa.1
  refine (b0E (a:=p.B[i]) k0 (b:=c0o) f0d (by omega) (by omega) (by decide)).mono ?_
  rintro _ G3 ⟨⟨s3,s4,rfl,k3,k4⟩,hxb⟩
  replace kw:=kw.mono a0Q hxb
  rw [f0h,k1v] at k3 k4 ⊢
  have hown:(i0g p.A[i]).length=p.A[i].length:=by unfold i0g;simp
  obtain ⟨r',G4,h1,h2,h3,h4⟩:=b0d.app (P:=PR) (sz:=4) (e:=a0b) (by decide) (fun G' cs x _ hl h=>b0P.lx h hl) (kw.low (show H.size≤G.size from hHG)) (e2:=a0b) (c:=1) (bytes:=64) (new:=[.bool (a0f (b0u p.B[i])).1.1,s3,.bool (a0f (b0u p.B[i])).2.1,s4]) (x:=a0f (b0u p.B[i])) ⟨s3,s4,rfl,k3,k4⟩ rfl (by simp [k3.plain,k4.plain]) (by omega) (by omega) (by omega) (by have:=hxb.1;omega)
  have hxG:Ext G G4:=by
   have hh:=hxa.trans hxb
   exact ⟨i1t hh.1 h3.1,fun b hb=>(h3.2 b (i1C hb hh.1) (fun h=>by have:=(kw.ge h).1;omega)).trans (hh.2 b hb)⟩
  simp [h1,k3.cells,k4.cells]
  have hrow:i0g p.A[i] ++ [a0f (b0u p.B[i])]=(k0x p i).map a0f:=by
   unfold k0x i0g
   rw [i1h,i1h,i1m hi,i1m hiB];simp
  rw [hrow] at h2
  have hrl:(k0x p i).length=p.A[i].length + 1:=by rw [← hown];have:=l1m List.length hrow;simpa using this.symm
  have hrS:∀ x ∈ k0x p i,szR x≤S:=by
   intro x hx
   unfold k0x at hx
   rw [i1h,i1h,i1m hi,i1m hiB] at hx
   simp only [i1O,i1F,j1e,k1a] at hx
   rcases hx with ⟨y,hy,rfl⟩ | rfl
   ·obtain ⟨l1,l2,l3⟩:=hAi.1 _ hy
    have:=c0y l2 l3;omega
   ·obtain ⟨l1,l2,l3⟩:=hBi
    have:=c0y l2 l3;omega
  have hrK:((k0x p i).length + 2) * (S + 1)≤K:=by rw [hK];exact i1r _ (by omega)
  refine (g0I h2.sls (by have:=hxG.1;omega) hrS (by omega)).mono ?_
  rintro _ G5 ⟨⟨q1,_,by',zs,rfl,hWi,hq,⟨s5,s6,rfl,k5,k6⟩⟩,hxc⟩
  have hxd:=hxG.trans hxc
  have hsz5:H.size≤G5.size:=by have:=hxd.1;omega
  simp [k5.cells,k6.cells,k5.plain,k6.plain,hsz5]
  generalize hN:Array.setIfInBounds (Array.push _ _) _ _=G6
  obtain ⟨hxe,b3⟩:=new1 hN
  clear hN
  replace k5:=k5.mono hxe
  replace k6:=k6.mono hxe
  replace hq:=hq.mono d0r hxe
  have hx2:Ext G G6:=hxd.trans hxe
  replace b0:=hx2.blk b0;replace b1:=hx2.blk b1;replace b2:=hx2.blk b2;replace hx:=hx.trans hx2
  replace kA':=kA'.mono d0A hx2
  replace kB':=kB'.mono a0Q hx2
  replace oA:=oA.mono q0f hx2
  replace oB:=oB.mono a0Q hx2
  obtain ⟨Q,hQ⟩:∃ Q,Q=G5.size:=⟨_,rfl⟩
  rw [← hQ] at b3 ⊢
  refine c0J ?_
  obtain ⟨cq,pq⟩:=hq.cells
  obtain ⟨sA',G7,h1,h2,h3,h4⟩:=b0d.app (P:=PIs) (sz:=1) (e:=b0i) (by decide)
    (fun G' cs x hxb hl ⟨w',q1,q2⟩=>⟨w',q1,y0i.lx2 q2 (oA.lxT (by decide) hxb) hl⟩) oA (e2:=b0i) (c:=1) (bytes:=24) (new:=[q1]) (x:=zs) ⟨q1,rfl,hq.sls⟩ rfl (by simp [pq]) (by omega) (by omega) (by omega) hx.1
  obtain ⟨_,_,hAe⟩:=e0y (by decide) h1
  have hlx:=oA.lx (by decide) h3
  have nA0:=oA.ne b0 (by decide)
  have nA1:=oA.ne b1 (by decide)
  have nA2:=oA.ne b2 (by decide)
  have nA3:=oA.ne b3 (by decide)
  have hAo:=oA.blkOf
  simp [S0C,g3,b2,cq,h1]
  replace b0:=(h3.2 _ (a0i b0) nA0).trans b0
  replace b1:=(h3.2 _ (a0i b1) nA1).trans b1
  replace b2:=(h3.2 _ (a0i b2) nA2).trans b2
  replace b3:=(h3.2 _ (a0i b3) nA3).trans b3
  replace hx:=h4 _ (i1j _) hx
  replace k5:=k5.lx hlx
  replace k6:=k6.lx hlx
  replace oB:=oB.lxm (Q':=PR) (oA.lxT (by decide) h3) (fun cs x h=>b0P.lx h hlx)
  simp [b2,b3]
  have hbl:(bs.map a0f).length=i:=by simp [hbs]
  obtain ⟨sB',G8,p1,p2,p3,p4⟩:=b0d.app (P:=PR) (sz:=4) (e:=a0b) (by decide) (fun G' cs x _ hl h=>b0P.lx h hl) oB (e2:=a0b) (c:=1) (bytes:=64) (new:=[.bool (a0f by').1.1,s5,.bool (a0f by').2.1,s6]) (x:=a0f by') ⟨s5,s6,rfl,k5,k6⟩ rfl (by simp [k5.plain,k6.plain]) (by omega) (by omega) (by omega) hx.1
  have hly:=oB.lx (by decide) p3
  have nB0:=oB.ne b0 (by decide)
  have nB1:=oB.ne b1 (by decide)
  have nB2:=oB.ne b2 (by decide)
  replace h2:=h2.lxm (Q':=PIs) (oB.lxT (by decide) p3) (fun cs x ⟨w',q1,q2⟩=>⟨w',q1,y0i.lx2 q2 (oB.lxT (by decide) p3) hly⟩)
  replace b0:=(p3.2 _ (a0i b0) nB0).trans b0
  replace b1:=(p3.2 _ (a0i b1) nB1).trans b1
  replace b2:=(p3.2 _ (a0i b2) nB2).trans b2
  replace hx:=p4 _ (i1j _) hx
  obtain ⟨cA,pA⟩:=h2.cells
  obtain ⟨cB,pB⟩:=p2.cells
  have hz:=a0i b2
  simp [p1,b2,cA,pA,cB,pB,hsz,hz]
  generalize hS1:Array.setIfInBounds _ _ _=G9
  have t1:∀ {e:Nat},a0O ≠ e→LxT e G8 G9:=fun hne=>b0c hS1 b2 hne
  have hbo:∀ x,x ∈ blkW sA→slB sA=some x:=by
   rcases hAo with h | ⟨b,h,h'⟩
   ·rw [h];simp
   ·rw [h,h'];simp
  refine ⟨⟨fun x hx h=>nA2 (by rw [hbo x hx,h]),fun x hx h=>nA3 (by rw [hbo x hx,h])⟩,Rnd.mk (by simp [gi]) (by simp [gn]) ⟨by simp [g12],by simp [g1],by simp [g2],by simp [g3],a0Y hS1 hx hsz,a0p hS1 b0 hPne,a0p hS1 b1 hPne1,sA',sB',L ++ [zs],bs ++ [by'],a0v hS1 b2,?_,?_,by simp [hL],by simp [hbs],fun k hk=>?_⟩⟩
  ·exact h2.lxm (t1 (by decide)) (fun cs x ⟨w',q1,q2⟩=>⟨w',q1,y0i.lx2 q2 (t1 (by decide)) (t1 (by decide))⟩)
  ·rw [k1K];exact p2.lxm (t1 (by decide)) (fun cs x h=>b0P.lx h (t1 (by decide)))
  ·by_cases hki:k=i
   ·have e1:(L ++ [zs]).getD k []=zs:=by rw [hki,← hL];simp [i1h]
    have e2:(bs ++ [by']).getD k 0=by':=by rw [hki,← hbs];simp [i1h]
    rw [e1,e2,hki];exact hWi.mono hrK
   ·have e1:(L ++ [zs]).getD k []=L.getD k []:=by rw [i1h,i1V (by omega),i1h]
    have e2:(bs ++ [by']).getD k 0=bs.getD k 0:=by rw [i1h,i1V (by omega),i1h]
    rw [e1,e2];exact hW k (by omega)
 ·clear h0 ρ hx b0 b1 b2 hx2
  rintro ρ G gi gn ⟨g12,g1,g2,g3,hx,b0,b1,sA,sB,L,bs,b2,oA,oB,hL,hbs,hW⟩
  have kC':=kC.mono a0Q hx
  simp [S0D,g1,b0]
  refine (f0z kC' hx.1 hC (by omega) (by omega)).mono ?_
  rintro r G2 ⟨kw,hxa⟩
  have hcs:i0g p.C=(p.C.map b0u).map a0f:=by unfold i0g;simp
  rw [hcs] at kw
  have hrS:∀ x ∈ p.C.map b0u,szR x≤S:=by
   intro x hx
   simp only [j1e] at hx
   obtain ⟨y,hy,rfl⟩:=hx
   obtain ⟨l1,l2,l3⟩:=hC _ hy
   have:=c0y l2 l3;omega
  have hrK:((p.C.map b0u).length + 2) * (S + 1)≤K:=by rw [hK,j1A];exact i1r _ (by omega)
  simp
  refine (g0I kw.sls (by have:=hxa.1;have:=hx.1;omega) hrS (by omega)).mono ?_
  rintro _ G5 ⟨⟨q1,_,by',zs,rfl,hWi,hq,⟨s5,s6,rfl,k5,k6⟩⟩,hxc⟩
  have hx2:Ext G G5:=hxa.trans hxc
  replace b1:=hx2.blk b1;replace b2:=hx2.blk b2;replace hx:=hx.trans hx2
  replace oA:=oA.mono q0f hx2
  replace oB:=oB.mono a0Q hx2
  obtain ⟨cq,pq⟩:=hq.cells
  obtain ⟨cA,pA⟩:=oA.cells
  obtain ⟨cB,pB⟩:=oB.cells
  have hz1:=a0i b1
  have hz2:=a0i b2
  simp [g3,g2,b2,cq,pq,k5.cells,k5.plain,k6.cells,k6.plain,hsz]
  generalize hS1:Array.setIfInBounds _ _ _=G6
  have t1:∀ {e:Nat},a0O ≠ e→LxT e G5 G6:=fun hne=>b0c hS1 b2 hne
  replace b1:=a0p hS1 b1 hPne1
  replace b2:=a0v hS1 b2
  replace hx:=a0Y hS1 hx hsz
  have hz3:=a0i b2
  simp [b2,hsz]
  generalize hS2:Array.setIfInBounds _ _ _=G7
  have t2:∀ {e:Nat},a0O ≠ e→LxT e G6 G7:=fun hne=>b0c hS2 b2 hne
  replace b1:=a0p hS2 b1 hPne1
  replace b2:=a0v hS2 b2
  have hz4:=a0i b1
  simp [S0E,g2,g3,b1,b2,cA,pA,cB,pB,cq,pq,k5.cells,k5.plain,k6.cells,k6.plain]
  generalize hS3:Array.setIfInBounds _ _ _=G8
  have t3:∀ {e:Nat},a0O ≠ e→LxT e G7 G8:=fun hne=>b0c hS3 b1 hne
  have t:∀ {e:Nat},a0O ≠ e→LxT e G5 G8:=fun hne b ro cs hb=>t3 hne _ _ _ (t2 hne _ _ _ (t1 hne _ _ _ hb))
  replace b1:=a0v hS3 b1
  simp [b1]
  refine fun _=>⟨⟨p.n,L,bs,zs,by'⟩,⟨sA,sB,q1,s5,s6,rfl,?_,?_,?_,k5.lx (t (by decide)),k6.lx (t (by decide))⟩,rfl,hL,hbs,fun k hk=>?_,hWi.mono hrK⟩
  ·exact (oA.lxm (Q':=PIs) (t (by decide)) (fun cs x ⟨w',q1,q2⟩=>⟨w',q1,y0i.lx2 q2 (t (by decide)) (t (by decide))⟩)).sls
  ·exact b0v.lx2 oB.sls (t (by decide)) (t (by decide))
  ·exact y0i.lx2 hq.sls (t (by decide)) (t (by decide))
  ·have:=hW k hk
   rwa [i1h,i1h] at this
end
section
open Go
set_option maxHeartbeats 4000000
variable {E:Env} {fl:Nat} {t:b0b} {H:a0e} {Q:d0X} {R:a0E}
def WRP (E:Env) (fl:Nat) (bef:List Nat) (pairs:List (Nat × Nat)) (Z:b0b→a0e→Prop) (R:a0E):Nat→List a0I→b0b→a0e→Option (Nat × Value)→Log→Prop
 | _,[],t,H,p,lg=>c0U lg.reverse pairs=true∧(match p with | none=>Z t H | some (_,v)=>R v)
 | i,o :: r,t,H,p,lg=>if h0m bef i p=true then WRP E fl bef pairs Z R (i + 1) r t H p (([],[]) :: lg) else
  if b0j t o.g then WS E fl t H o.op (fun v H'=>WRP E fl bef pairs Z R (i + 1) r (put t o.dst v) H' p (d0i t o.op :: lg)) (fun v=>p=none∧WRP E fl bef pairs Z R (i + 1) r t H (some (i,v)) (([],[]) :: lg))
  else WRP E fl bef pairs Z R (i + 1) r (put t o.dst undef) H p (([],[]) :: lg)
theorem j0i (bef:List Nat) (pairs:List (Nat × Nat)) {Z:b0b→a0e→Prop}:∀ (ops:List a0I) (i:Nat) (t:b0b) (H:a0e) (p:Option (Nat × Value)) (log:Log),
  WRP E fl bef pairs Z R i ops t H p log→∃ n,k0r (fun e t H=>e=.normal∧Z t H) R (b0S (b0p E n) fl bef pairs i ops t H p log)
 | [],i,t,H,p,log,h=>by
  refine ⟨0,?_⟩
  simp only [b0S];rw [i1n h.1]
  cases p with
  | none=>exact ⟨rfl,h.2⟩
  | some q=>exact h.2
 | o :: r,i,t,H,p,log,h=>by
  simp only [WRP] at h
  split at h
  ·rename_i hh
   obtain ⟨n,hn⟩:=j0i bef pairs r (i + 1) _ _ _ _ h
   exact ⟨n,by simp only [b0S];rw [i1n hh];exact hn⟩
  ·rename_i hh
   split at h
   ·rename_i hw
    obtain ⟨n,hn⟩:=A0d h
    have key:∀ (m:Nat) (t2:b0b) (H2:a0e) (p2:Option (Nat × Value)) (lg2:Log),k0r (fun e t H=>e=.normal∧Z t H) R (b0S (b0p E m) fl bef pairs (i + 1) r t2 H2 p2 lg2) →
      b0S (b0p E (max n m)) fl bef pairs (i + 1) r t2 H2 p2 lg2=b0S (b0p E m) fl bef pairs (i + 1) r t2 H2 p2 lg2:=fun m t2 H2 p2 lg2 hm =>
     d0n (a0N E m (max n m) (by omega)) (i1j fl) bef pairs r (i + 1) t2 H2 p2 lg2 (by intro hb;rw [hb] at hm;exact hm)
    have h1:∀ m,b0z (b0p E n) fl t H o.op ≠ .bad→b0z (b0p E (max n m)) fl t H o.op=b0z (b0p E n) fl t H o.op:=fun m hb=>f0Y (a0N E n (max n m) (by omega)) (i1j fl) (t:=t) (H:=H) (so:=o.op) hb
    cases hs:b0z (b0p E n) fl t H o.op with
    | bad=>rw [hs] at hn;exact i1A hn id
    | pan v =>
     rw [hs] at hn
     obtain ⟨rfl,hn⟩:=hn
     obtain ⟨m,hm⟩:=j0i bef pairs r (i + 1) _ _ _ _ hn
     refine ⟨max n m,?_⟩
     simp only [b0S]
     rw [i1k hh,i1n hw,h1 m (by rw [hs];simp),hs]
     simp only []
     rw [key m _ _ _ _ hm];exact hm
    | ok rr =>
     obtain ⟨v,H'⟩:=rr
     rw [hs] at hn
     obtain ⟨m,hm⟩:=j0i bef pairs r (i + 1) _ _ _ _ hn
     refine ⟨max n m,?_⟩
     simp only [b0S]
     rw [i1k hh,i1n hw,h1 m (by rw [hs];simp),hs]
     simp only []
     rw [key m _ _ _ _ hm];exact hm
   ·rename_i hw
    obtain ⟨m,hm⟩:=j0i bef pairs r (i + 1) _ _ _ _ h
    exact ⟨m,by simp only [b0S];rw [i1k hh,i1k hw];exact hm⟩
theorem l0P {ops:List a0I} {bef:List Nat} {pairs:List (Nat × Nat)} (h:WRP E fl bef pairs (fun t H=>Q .normal t H) R 0 ops t H none []):W E fl (.draw ops bef pairs) t H Q R:=by
 obtain ⟨n,hn⟩:=j0i bef pairs ops 0 t H none [] h
 refine ⟨n + 1,?_⟩
 have h2:=d0n (a0N E n (n+1) (by omega)) (i1j fl) bef pairs ops 0 t H none [] (by intro hb;rw [hb] at hn;exact hn)
 simp only [b0f,h2]
 cases hd:b0S (b0p E n) fl bef pairs 0 ops t H none [] with
 | bad=>rw [hd] at hn;exact hn
 | pan v=>rw [hd] at hn;exact hn
 | fin e t' H'=>rw [hd] at hn;obtain ⟨rfl,hn⟩:=hn;exact hn
section
variable {bef:List Nat} {pairs:List (Nat × Nat)} {Z:b0b→a0e→Prop} {lg lg2:Log} {d:Option Nat} {op:SOp} {r:List a0I} {i j:Nat} {v:Value} {x:Opd} {K:n0H}
@[simp ↓] theorem d1p:WRP E fl bef pairs Z R i [] t H none lg=(c0U lg.reverse pairs=true∧Z t H):=nr rfl
@[simp ↓] theorem b1i:WRP E fl bef pairs Z R i [] t H (some (j,v)) lg=(c0U lg.reverse pairs=true∧R v):=nr rfl
@[simp ↓] theorem b1h:WRP E fl bef pairs Z R i (⟨d,none,op⟩ :: r) t H none lg =
  WS E fl t H op (fun v H'=>WRP E fl bef pairs Z R (i + 1) r (put t d v) H' none (d0i t op :: lg)) (fun v=>WRP E fl bef pairs Z R (i + 1) r t H (some (i,v)) (([],[]) :: lg)):=by
 simp [WRP,b0j,h0m]
@[simp ↓] theorem X0R:WRP E fl bef pairs Z R i (⟨d,none,op⟩ :: r) t H (some (j,v)) lg =
  if (bef.getD i 0).testBit j=true then WRP E fl bef pairs Z R (i + 1) r t H (some (j,v)) (([],[]) :: lg) else
  WS E fl t H op (fun w H'=>WRP E fl bef pairs Z R (i + 1) r (put t d w) H' (some (j,v)) (d0i t op :: lg)) (fun _=>False):=by
 simp [WRP,b0j,h0m]
theorem A0a {t':b0b} {ops:List a0I} {p:Option (Nat × Value)} (h:t=t'):WRP E fl bef pairs Z R i ops t H p lg=WRP E fl bef pairs Z R i ops t' H p lg:=by rw [h]
attribute [congr] A0a
def U0i (E:Env) (fl fl':Nat) (bef:List Nat) (pairs:List (Nat × Nat)) (Z:b0b→a0e→Prop) (R:a0E) (i j:Nat) (f:FuncId) (args:List Value) (H:a0e) (d:Option Nat) (r:List a0I) (t:b0b) (lg lg2:Log):Prop :=
 a0S E fl' f args H (fun v H'=>WRP E fl bef pairs Z R j r (put t d v) H' none lg) (fun v=>WRP E fl bef pairs Z R j r t H (some (i,v)) lg2)
@[simp ↓ high] theorem b1l {f:FuncId} {al:List Opd} {lone:Bool} :
  WS E fl t H (.call f al lone) (fun v H'=>WRP E fl bef pairs Z R j r (put t d v) H' none lg) (fun v=>WRP E fl bef pairs Z R j r t H (some (i,v)) lg2) =
   U0i E fl (if lone then fl else max fl H.size) bef pairs Z R i j f (al.map (ev t)) H d r t lg lg2:=nr rfl
theorem t0A {fl' fl2:Nat} {f:FuncId} {al al':List Value} {t':b0b} (h:al=al') (ht:t=t') (hf:fl' = fl2) :
  U0i E fl fl' bef pairs Z R i j f al H d r t lg lg2=U0i E fl fl2 bef pairs Z R i j f al' H d r t' lg lg2:=by rw [h,ht,hf]
attribute [congr] t0A
def f1x (tbl:List (TypeId × FuncId)):Value→Option (FuncId × Value)
 | .iface ty v=>match tbl.lookup ty with | some f=>some (f,v) | none=>none
 | _=>none
@[simp] theorem X0r {ty:TypeId} {tbl:List (TypeId × FuncId)}:f1x tbl (.iface ty v)=match tbl.lookup ty with | some f=>some (f,v) | none=>none:=nr rfl
@[simp ↓] theorem f1U {tbl:List (TypeId × FuncId)} {al:List Opd} {lone:Bool}:WS E fl t H (.inv x tbl al lone) K R=oo (f1x tbl (ev t x)) fun q=>WS E fl t H (.call q.1 (.const q.2 :: al) lone) K R:=by
 simp only [WS,opA];generalize ev t x=y
 cases y <;> simp only [f1x,u0d]
 rename_i ty v
 cases tbl.lookup ty <;> simp
def b1A (e b:Nat):Blk→Option Value
 | .row false e' _=>if e' = e then some (.pointer (some ⟨b,0,none⟩)) else none
 | _=>none
@[simp] theorem b1B {e e' b:Nat} {cs:List Value}:b1A e b (.row false e' cs)=if e' = e then some (.pointer (some ⟨b,0,none⟩)) else none:=nr rfl
def Z0s (H:a0e) (e:Nat):Value→Option Value
 | .pointer (some p)=>if p.spot.isSome=false∧p.off=0 then b1A e p.block (H.blk p.block) else none
 | _=>none
@[simp] theorem b1C {e b:Nat}:Z0s H e (.pointer (some ⟨b,0,none⟩))=b1A e b (H.blk b):=by simp [Z0s]
@[simp ↓] theorem f1T {e:TypeId}:WS E fl t H (.fa0 e x) K R=oo (Z0s H e (ev t x)) fun v=>K v H:=by
 simp only [WS,opA];generalize ev t x=y
 cases y <;> simp only [Z0s,u0d]
 rename_i p;cases p <;> simp only [Z0s,u0d]
 rename_i q
 cases hb:a0e.blk H q.block <;> simp [b1A]
 rename_i ro e' cs
 cases ro
 ·by_cases h1:q.spot=none <;> by_cases h2:e' = e <;> by_cases h3:q.off=0 <;> simp [h1,h2,h3]
 ·simp
end
attribute [simp ↓] X0W
@[simp] theorem X0t {G:a0e} {a:Addr}:b0r G true 0 (.pointer (some a))=some (.agg #[]):=nr rfl
@[simp] theorem b1x {a:Addr}:e1f (.pointer (some a))=some (.pointer (some a)):=nr rfl
@[simp] theorem W0I {n j:Nat}:n.testBit j=decide (n / 2 ^ j % 2=1):=Nat.testBit_eq_decide_div_mod_eq
theorem y0U {a b:FuncId}:List.lookup a0m [(a0l,a),(a0m,b)]=some b:=by simp [List.lookup];rfl
theorem y0T {a b:FuncId}:List.lookup a0l [(a0l,a),(a0m,b)]=some a:=by simp [List.lookup]
attribute [simp] y0U y0T
def PF (_:a0e) (cs:List Value) (z:Int):Prop:=cs=[.int .i64 z]∧f0G z
theorem Z0E:i0J PF:=fun _ _ _ _ _ h=>h
theorem p0W {a b:Int} {p:Nat} {cs:List Value} (hf:fl≤H.size) (hb:a0e.blk H p=.row false a0d cs) (ha:f0G a) (hbz:f0G b) (hR:R v0O) :
  a0S env fl y0G [.pointer (some ⟨p,0,none⟩),.int .i64 a,.int .i64 b] H (fun r H'=>(r=.int .i64 (a - b)∧f0G (a - b))∧Ext H H') R:=by
 refine a0g e1U hf (h:=?_)
 intro ρ h0
 simp [L0W,F0O,h0]
 refine l0P ?_
 simp [F0P,h0,hb]
 refine (c0r (n:=1) (by omega) (by omega) (by omega)).mono ?_
 rintro _ G ⟨k0,hx⟩
 simp
 have h1:lz 1 < 1073741824:=by rw [g0F];omega
 refine (m0f k0 (by have:=hx.1;omega) h1 (by simp;exact hR)).mono ?_
 rintro _ G2 ⟨⟨rfl,_⟩,hx2⟩
 have hb2:=(hx.trans hx2).blk hb
 have hsz:=(hx.trans hx2).1
 simp [F0Q,h0,hb2]
 have f1:f0G 1:=by unfold f0G;omega
 refine (j0r (by omega) ha f1 hbz f1 (by decide) hR).mono ?_
 rintro _ G3 ⟨⟨rfl,h⟩,hx3⟩
 have e1:(a * 1 - b * 1).tdiv 1=a - b:=by simp
 rw [e1] at h ⊢
 simp [h]
theorem p0I {a b:Int} {p:Nat} {cs:List Value} {va vb:Value} (hf:fl≤H.size) (hb:a0e.blk H p=.row false a0c cs) (ha:b0q H va (a0k a)) (hbz:b0q H vb (a0k b)) (la:lz a < 67108864) (lb:lz b < 67108864) :
  a0S env fl y0E [.pointer (some ⟨p,0,none⟩),va,vb] H (fun r H'=>b0q H' r (a0k (a - b))∧Ext H H') R:=by
 refine a0g e1K hf (h:=?_)
 intro ρ h0
 obtain ⟨s0,rfl,k0⟩:=id ha
 obtain ⟨s1,rfl,k1⟩:=id hbz
 simp [L0M,E0M,h0,k0.cells,k0.plain,k1.cells,k1.plain]
 generalize hG:Array.push (Array.push (Array.push H _) _) _=G
 have hx2:Ext H G:=by rw [← hG];exact (Ext.refl H).push.push.push
 have b0:a0e.blk G H.size=.row false a0a [.bool (a0k a).1,s0]:=by rw [← hG];simp
 have b1:a0e.blk G (H.size + 1)=.row false a0a [.bool (a0k b).1,s1]:=by rw [← hG];simp
 have b2:a0e.blk G (H.size + 2)=.row false a0a [.bool false,.slice none 0 0]:=by rw [← hG];simp
 have b3:=hb
 have hx:=Ext.refl H
 clear hG
 replace b3:=hx2.blk b3;replace hx:=hx.trans hx2;replace k0:=k0.mono hx2;replace k1:=k1.mono hx2
 refine a0G ?_
 simp [E0N,h0,b3]
 refine (c0r (n:=1) (by have:=hx.1;omega) (by omega) (by omega)).mono ?_
 rintro _ G2 ⟨k2,hx2⟩
 replace b0:=hx2.blk b0;replace b1:=hx2.blk b1;replace b2:=hx2.blk b2;replace b3:=hx2.blk b3;replace hx:=hx.trans hx2;replace k0:=k0.mono hx2;replace k1:=k1.mono hx2
 simp
 refine (i0K k2 (by have:=hx.1;omega)).mono ?_
 rintro _ G3 ⟨⟨s2,rfl,k3⟩,hx2⟩
 replace b0:=hx2.blk b0;replace b1:=hx2.blk b1;replace b2:=hx2.blk b2;replace b3:=hx2.blk b3;replace hx:=hx.trans hx2;replace k0:=k0.mono hx2;replace k1:=k1.mono hx2
 have hsz:=hx.1
 simp [k3.cells,k3.plain,hsz]
 generalize hN:Array.setIfInBounds (Array.push _ _) _ _=G4
 obtain ⟨hx2,b4⟩:=new1 hN
 clear hN
 replace b0:=hx2.blk b0;replace b1:=hx2.blk b1;replace b2:=hx2.blk b2;replace b3:=hx2.blk b3;replace hx:=hx.trans hx2;replace k0:=k0.mono hx2;replace k1:=k1.mono hx2;replace k3:=k3.mono hx2
 refine a0G ?_
 simp [E0O,h0,b0,b1,b3,b4]
 have l1:lz 1=1:=g0F
 refine (j0k (a:=a) (b:=1) (c:=b) (d:=1) (e:=1) ⟨s0,rfl,k0⟩ ⟨s2,rfl,k3⟩ ⟨s1,rfl,k1⟩ ⟨s2,rfl,k3⟩ ⟨s2,rfl,k3⟩ (by have:=hx.1;omega) la (by omega) lb (by omega) (by omega) (by decide)).mono ?_
 rintro _ G5 ⟨⟨s5,rfl,k5⟩,hx2⟩
 replace b2:=hx2.blk b2;replace hx:=hx.trans hx2
 have e1:(a * 1 - b * 1).tdiv 1=a - b:=by simp
 rw [e1] at k5 ⊢
 have hz:=a0i b2
 simp [b2,k5.cells,k5.plain]
 generalize hS:Array.setIfInBounds _ _ _=G6
 have hl:Lx G5 G6:=b0c hS b2 (by decide)
 have b8:=a0v hS b2
 simp [b8]
 exact fun _=>⟨s5,rfl,k5.lx hl⟩
end
section
open Go
set_option maxHeartbeats 4000000
variable {fl:Nat} {H G:a0e} {R:a0E} {v w u:Value}
theorem n0W {x D:Int} {p:Nat} {c0 c1 c2 c3:Value} {cs:List Value} (hf:fl≤H.size) (hb:a0e.blk H p=.row false a0d (c0 :: c1 :: c2 :: c3 :: .int .i64 D :: cs)) (hx0:f0G x) (hD:f0G D) (hD0:D ≠ 0) :
  a0S env fl s0c [.pointer (some ⟨p,0,none⟩),.int .i64 x] H (fun r H'=>b0P H' r (a0f (Rat.divInt x D))∧Ext H H') R:=by
 refine a0g e1W hf (h:=?_)
 intro ρ h0
 simp [L0Y,F0Y,h0]
 generalize hG:Array.push H _=G
 obtain ⟨hx2,b2⟩:=g0R hG
 have b1:=hb
 have hx:=Ext.refl H
 clear hG
 replace b1:=hx2.blk b1;replace hx:=hx.trans hx2
 have lF:∀ z,f0G z→lz z < 536870912:=fun z hz=>by
  have:lz z≤1:=s0t (by obtain ⟨h1,h2⟩:=hz;omega)
  omega
 refine a0G ?_
 simp [F0Z,h0,b1]
 refine (k0N (by have:=hx.1;omega) hx0).mono ?_
 rintro _ G2 ⟨k0,hx2⟩
 replace b1:=hx2.blk b1;replace b2:=hx2.blk b2;replace hx:=hx.trans hx2
 simp [h0,b1]
 refine (k0N (by have:=hx.1;omega) hD).mono ?_
 rintro _ G3 ⟨k1,hx2⟩
 replace b2:=hx2.blk b2;replace hx:=hx.trans hx2;replace k0:=k0.mono hx2
 simp
 refine (d0S k0 k1 (by have:=hx.1;omega) (by rw [a0n];exact lF _ hx0) (by rw [a0n];exact lF _ hD) (by rw [a0j];exact hD0)).mono ?_
 rintro _ G4 ⟨⟨_,rfl,s3,s4,rfl,k5,k6⟩,hx2⟩
 replace b2:=hx2.blk b2;replace hx:=hx.trans hx2
 rw [a0j,a0j] at k5 k6 ⊢
 have hsz:=hx.1
 simp [k5.cells,k5.plain,k6.cells,k6.plain,hsz]
 generalize hN:Array.setIfInBounds (Array.push _ _) _ _=G5
 obtain ⟨hx2,b3⟩:=new1 hN
 clear hN
 replace b2:=hx2.blk b2;replace hx:=hx.trans hx2;replace k5:=k5.mono hx2;replace k6:=k6.mono hx2
 have hz:=a0i b2
 simp [G0a,b3,b2,k5.cells,k5.plain,k6.cells,k6.plain]
 generalize hS:Array.setIfInBounds _ _ _=G6
 have hl:Lx G5 G6:=b0c hS b2 (by decide)
 have b8:=a0v hS b2
 simp [b8]
 exact fun _=>⟨s3,s4,by simp [Rat.divInt],by simpa using k5.lx hl,by simpa using k6.lx hl⟩
theorem n0L {x D:Int} {p:Nat} {c0 c1 c2 c3 vx sD:Value} {cs:List Value} (hf:fl≤H.size) (hb:a0e.blk H p=.row false a0c (c0 :: c1 :: c2 :: c3 :: .bool (a0k D).1 :: sD :: cs)) (kD:Lim H sD (a0k D).2) (kx:b0q H vx (a0k x)) (lx:lz x < 67108864) (lD:lz D < 67108864) (hD0:D ≠ 0) :
  a0S env fl s0b [.pointer (some ⟨p,0,none⟩),vx] H (fun r H'=>b0P H' r (a0f (Rat.divInt x D))∧Ext H H') R:=by
 refine a0g e1N hf (h:=?_)
 intro ρ h0
 obtain ⟨s0,rfl,k2⟩:=id kx
 simp [L0P,E0Z,h0,k2.cells,k2.plain]
 generalize hG:Array.push (Array.push H _) _=G
 obtain ⟨hx2,b0,b2⟩:=push2 hG
 have b1:=hb
 have k3:=kD
 have hx:=Ext.refl H
 clear hG
 replace b1:=hx2.blk b1;replace hx:=hx.trans hx2;replace k2:=k2.mono hx2;replace k3:=k3.mono hx2
 refine a0G ?_
 simp [F0a,h0,b1,b0]
 refine (k0K (a:=x) ⟨s0,rfl,k2⟩ (by have:=hx.1;omega)).mono ?_
 rintro _ G2 ⟨k0,hx2⟩
 replace b1:=hx2.blk b1;replace b2:=hx2.blk b2;replace hx:=hx.trans hx2;replace k3:=k3.mono hx2
 simp [h0,b1]
 refine (k0K (a:=D) ⟨sD,rfl,k3⟩ (by have:=hx.1;omega)).mono ?_
 rintro _ G3 ⟨k1,hx2⟩
 replace b2:=hx2.blk b2;replace hx:=hx.trans hx2;replace k0:=k0.mono hx2
 simp
 refine (d0S k0 k1 (by have:=hx.1;omega) (by rw [a0n];omega) (by rw [a0n];omega) (by rw [a0j];exact hD0)).mono ?_
 rintro _ G4 ⟨⟨_,rfl,s3,s4,rfl,k5,k6⟩,hx2⟩
 replace b2:=hx2.blk b2;replace hx:=hx.trans hx2
 rw [a0j,a0j] at k5 k6 ⊢
 have hsz:=hx.1
 simp [k5.cells,k5.plain,k6.cells,k6.plain,hsz]
 generalize hN:Array.setIfInBounds (Array.push _ _) _ _=G5
 obtain ⟨hx2,b3⟩:=new1 hN
 clear hN
 replace b2:=hx2.blk b2;replace hx:=hx.trans hx2;replace k5:=k5.mono hx2;replace k6:=k6.mono hx2
 have hz:=a0i b2
 simp [F0b,b3,b2,k5.cells,k5.plain,k6.cells,k6.plain]
 generalize hS:Array.setIfInBounds _ _ _=G6
 have hl:Lx G5 G6:=b0c hS b2 (by decide)
 have b8:=a0v hS b2
 simp [b8]
 exact fun _=>⟨s3,s4,by simp [Rat.divInt],by simpa using k5.lx hl,by simpa using k6.lx hl⟩
theorem r0h {α:Type} {Q:a0e→List Value→α→Prop} {z:List Value} {x:α} (hz:Q H z x):∀ n:Nat,(e0G z n).length=n * z.length∧∀ k,k < n→Q H (((e0G z n).drop (k * z.length)).take z.length) x
 | 0=>⟨by simp [e0G],fun k hk=>by omega⟩
 | n + 1=>by
  obtain ⟨h1,h2⟩:=r0h hz n
  refine ⟨by rw [e0G,i1E,h1,i1D];omega,fun k hk=>?_⟩
  cases k with
  | zero=>simpa [e0G] using hz
  | succ k =>
   have:=h2 k (by omega)
   rw [e0G,show (k + 1) * z.length=z.length + k * z.length by rw [i1D];omega,← j1S,List.drop_left]
   exact this
theorem n0U {p q6 q7 l:Nat} {c0 c1:Value} {cs:List Value} (hf:fl≤H.size) (h6:a0e.blk H q6=.row false a0H [.pointer (some ⟨p,0,none⟩)])
  (hb:a0e.blk H p=.row false a0d (c0 :: c1 :: .int .i64 (l:Int) :: cs)) (h7:a0e.blk H q7=.row false d0J [.int .i64 0]) (hl:l < 1073741823) :
  a0S env fl n0Q [.pointer (some ⟨q6,0,none⟩),.pointer (some ⟨q7,0,none⟩)] H (fun r H'=>b0d PF H.size H' d0J 1 r (List.replicate (l + 1) 0)∧Ext H H') R:=by
 refine a0g e1T hf (h:=?_)
 intro ρ h0
 obtain ⟨n,hn⟩:∃ n,n=l + 1:=⟨_,rfl⟩
 rw [← hn]
 have w1:IntKind.i64.wrap ((l:Int) + 1)=(n:Int):=by rw [a0R (by omega) (by omega)];omega
 have hmk:=g0i (bytes:=8) (k:=.i64) (k':=.i64) (l:=n) (c:=n) (i1j _) (by omega) (by omega)
 simp [L0V,F0I,F0J,h0,h6,hb,w1,hmk]
 generalize hG:Array.push H _=G
 obtain ⟨hx2,b0⟩:=g0R hG
 have f0:f0G 0:=by unfold f0G;omega
 obtain ⟨hr1,hr2⟩:=r0h (H:=G) (Q:=PF) (z:=[.int .i64 0]) (x:=0) ⟨rfl,f0⟩ n
 have ho:b0d PF H.size G d0J 1 (.slice (some ⟨H.size,0,none⟩) n n) (List.replicate n 0):=by
  refine ⟨_,by simpa using Own.mk (n:=n) (sz:=1) (cap:=n) b0 (by simpa using hr1) (i1j _),fun k hk=>?_⟩
  rw [List.getElem_replicate];exact hr2 k (by simpa using hk)
 clear hG b0
 have hsl:=ho.slen
 rw [k1J] at hsl
 simp [F0K,hsl]
 refine c0W (n:=n) (fun _ ρ G=>ρ 1=.pointer (some ⟨q7,0,none⟩)∧Ext H G∧b0d PF H.size G d0J 1 (ρ 3) (List.replicate n 0)) rfl rfl (by decide) (by omega) (by simp) (by simp) ?_ ?_ ?_ ?_
 ·exact ⟨by simp [h0],hx2,by simpa using ho⟩
 ·intro i ρ ρ' G h hI;simpa [h] using hI
 ·clear h0 ρ ho hx2 hr2
  rintro i ρ G hi gi gn ⟨g1,hx,ho⟩
  obtain ⟨so,g3⟩:∃ so,ρ 3=so:=⟨_,rfl⟩
  rw [g3] at ho
  have h7':=hx.blk h7
  have hil:i < (List.replicate n (0:Int)).length:=by simpa using hi
  obtain ⟨G5,hst,ho2,hxb⟩:=b0d.store (j:=i) (x:=(0:Int)) (w:=.int .i64 0) ho hil (by omega) rfl rfl (fun G' _ _=>⟨rfl,f0⟩) (by decide) (fun G' cs y _ _ h=>h)
  simp [F0L,F0M,g1,g3,gi,h7',ho.sls.ia hil,hst]
  have hs:(List.replicate n (0:Int)).set i 0=List.replicate n 0:=by simp
  rw [hs] at ho2
  exact Rnd.mk (by simp [gi]) (by simp [gn]) ⟨by simp [g1],⟨i1t hx.1 hxb.1,fun b hb=>(hxb.2 b (i1C hb hx.1) (fun h=>by have:=(ho.ge h).1;omega)).trans (hx.2 b hb)⟩,by simpa [g3] using ho2⟩
 ·rintro ρ G gi gn ⟨g1,hx,ho⟩
  simp [F0N]
  exact fun _=>ho
theorem n0J {p q6 q7 l:Nat} {c0 c1 s7:Value} {cs:List Value} (hf:fl≤H.size) (h6:a0e.blk H q6=.row false a0C [.pointer (some ⟨p,0,none⟩)])
  (hb:a0e.blk H p=.row false a0c (c0 :: c1 :: .int .i64 (l:Int) :: cs)) (h7:a0e.blk H q7=.row false a0a [.bool (a0k 0).1,s7]) (k7:Lim H s7 (a0k 0).2) (hl:l < 1073741823) :
  a0S env fl n0P [.pointer (some ⟨q6,0,none⟩),.pointer (some ⟨q7,0,none⟩)] H (fun r H'=>b0d PI H.size H' a0a 2 r (List.replicate (l + 1) 0)∧Ext H H') R:=by
 refine a0g e1J hf (h:=?_)
 intro ρ h0
 obtain ⟨n,hn⟩:∃ n,n=l + 1:=⟨_,rfl⟩
 rw [← hn]
 have w1:IntKind.i64.wrap ((l:Int) + 1)=(n:Int):=by rw [a0R (by omega) (by omega)];omega
 have hmk:=g0i (bytes:=32) (k:=.i64) (k':=.i64) (l:=n) (c:=n) (i1j _) (by omega) (by omega)
 simp [L0L,E0G,E0H,h0,h6,hb,w1,hmk]
 generalize hG:Array.push H _=G
 obtain ⟨hx2,b0⟩:=g0R hG
 have f0:PI G [.bool false,.slice none 0 0] 0:=⟨_,by rw [e0k],by rw [e0k];exact Lim.nil⟩
 obtain ⟨hr1,hr2⟩:=r0h (H:=G) (Q:=PI) (z:=[.bool false,.slice none 0 0]) (x:=0) f0 n
 have ho:b0d PI H.size G a0a 2 (.slice (some ⟨H.size,0,none⟩) n n) (List.replicate n 0):=by
  refine ⟨_,by simpa using Own.mk (n:=n) (sz:=2) (cap:=n) b0 (by simpa using hr1) (i1j _),fun k hk=>?_⟩
  rw [List.getElem_replicate];exact hr2 k (by simpa using hk)
 clear hG b0
 have hsl:=ho.slen
 rw [k1J] at hsl
 simp [E0I,hsl]
 refine c0W (n:=n) (fun _ ρ G=>ρ 1=.pointer (some ⟨q7,0,none⟩)∧Ext H G∧b0d PI H.size G a0a 2 (ρ 3) (List.replicate n 0)) rfl rfl (by decide) (by omega) (by simp) (by simp) ?_ ?_ ?_ ?_
 ·exact ⟨by simp [h0],hx2,by simpa using ho⟩
 ·intro i ρ ρ' G h hI;simpa [h] using hI
 ·clear h0 ρ ho hx2 hr2
  rintro i ρ G hi gi gn ⟨g1,hx,ho⟩
  obtain ⟨so,g3⟩:∃ so,ρ 3=so:=⟨_,rfl⟩
  rw [g3] at ho
  have h7':=hx.blk h7
  have k7':=k7.mono hx
  have hil:i < (List.replicate n (0:Int)).length:=by simpa using hi
  obtain ⟨G5,hst,ho2,hxb⟩:=b0d.store (j:=i) (x:=(0:Int)) (w:=.agg #[.bool (a0k 0).1,s7]) ho hil (by omega) rfl (by simp [k7'.plain]) (fun G' _ hl=>⟨s7,rfl,k7'.lx hl⟩) (by decide) (fun G' cs y _ hl h=>b0q.lx h hl)
  simp [E0J,E0K,g1,g3,gi,h7',ho.sls.ia hil,hst]
  have hs:(List.replicate n (0:Int)).set i 0=List.replicate n 0:=by simp
  rw [hs] at ho2
  exact Rnd.mk (by simp [gi]) (by simp [gn]) ⟨by simp [g1],⟨i1t hx.1 hxb.1,fun b hb=>(hxb.2 b (i1C hb hx.1) (fun h=>by have:=(ho.ge h).1;omega)).trans (hx.2 b hb)⟩,by simpa [g3] using ho2⟩
 ·rintro ρ G gi gn ⟨g1,hx,ho⟩
  simp [E0L]
  exact fun _=>ho
def PV (_:a0e) (cs:List Value) (w:Value):Prop:=cs=[w]
theorem w0G:i0J PV:=fun _ _ _ _ _ h=>h
def PK (_:a0e) (cs:List Value) (k:Nat):Prop:=cs=[.int .i64 (k:Int)]
theorem w0F:i0J PK:=fun _ _ _ _ _ h=>h
structure X0I (eN sz:Nat) (P:a0e→List Value→Int→Prop):Prop where
 mono:i0J P
 lx:∀ (G G':a0e) cs x,Lx G G'→P G cs x→P G' cs x
 ne:eN ≠ a0h
 sz:0 < sz
theorem X0x:X0I d0J 1 PF:=⟨Z0E,fun _ _ _ _ _ h=>h,by decide,by decide⟩
theorem X0w:X0I a0a 2 PI:=⟨d0r,fun _ _ _ _ hl h=>b0q.lx h hl,by decide,by decide⟩
structure e0K (eN sz:Nat) (P:a0e→List Value→Int→Prop) (fl:Nat) (H:a0e) (vs:List Value) (L:List (List Int)):Prop where
 len:vs.length=L.length
 own:∀ i (h:i < L.length),b0d P fl H eN sz (vs[i]'(by omega)) L[i]
 apart:∀ i j (h:i < L.length) (h':j < L.length),i ≠ j→slB (vs[i]'(by omega))=none ∨ slB (vs[i]'(by omega)) ≠ slB (vs[j]'(by omega))
theorem e0K.mono {eN sz:Nat} {P:a0e→List Value→Int→Prop} {vs:List Value} {L:List (List Int)} (hP:X0I eN sz P) (h:e0K eN sz P fl H vs L) (hx:Ext H G):e0K eN sz P fl G vs L :=
 ⟨h.len,fun i hi=>(h.own i hi).mono hP.mono hx,h.apart⟩
theorem e0K.store {eN sz i j:Nat} {P:a0e→List Value→Int→Prop} {vs:List Value} {L:List (List Int)} {x:Int} {w:Value} (hP:X0I eN sz P) (h:e0K eN sz P fl H vs L) (hi:i < L.length) (hj:j < L[i].length)
  (hw:(a0V w).length=sz) (hp:(a0V w).all a0t=true) (hx:P H (a0V w) x) :
  ∃ G,f0g fl H sz (adr sz (vs[i]'(by have:=h.len;omega)) j) w=some G∧e0K eN sz P fl G vs (L.set i (L[i].set j x))∧d0l (slB (vs[i]'(by have:=h.len;omega))) H G∧Lx H G:=by
 obtain ⟨G,hst,ho,hxb⟩:=b0d.store (x:=x) (w:=w) (h.own i hi) hj hP.sz hw hp (fun G' _ hl=>hP.lx _ _ _ _ hl hx) hP.ne (fun G' cs y _ hl hy=>hP.lx _ _ _ _ hl hy)
 have hlx:=(h.own i hi).lx hP.ne hxb
 refine ⟨G,hst,⟨by simp [h.len],fun k hk=>?_,fun a b ha hb hab=>h.apart a b (by simpa using ha) (by simpa using hb) hab⟩,hxb,hlx⟩
 have hk':k < L.length:=by simpa using hk
 by_cases hki:k=i
 ·subst hki;simpa using ho
 ·rw [l1c (by omega)]
  exact (h.own k hk').off hxb (h.apart k i hk' hi hki) (fun cs y hy=>hP.lx _ _ _ _ hlx hy)
structure i0w (fl:Nat) (H:a0e) (p n m:Nat) (L:List (List Int)) (D:Int) (bs:List Nat) (k:Nat) (sR sB:Value) (vs:List Value):Prop where
 blk:a0e.blk H p=.row false a0d [.int .i64 (n:Int),.int .i64 (m:Int),.int .i64 ((2 * n + m:Nat):Int),sR,.int .i64 D,sB,.int .i64 (k:Int)]
 low:fl≤p
 d:f0G D
 heads:b0d PV fl H e0U 1 sR vs
 rows:e0K d0J 1 PF fl H vs L
 basis:b0d PK fl H e0F 1 sB bs
theorem i0w.mono {p n m k:Nat} {L:List (List Int)} {D:Int} {bs:List Nat} {sR sB:Value} {vs:List Value} (h:i0w fl H p n m L D bs k sR sB vs) (hx:Ext H G):i0w fl G p n m L D bs k sR sB vs :=
 ⟨hx.blk h.blk,h.low,h.d,h.heads.mono w0G hx,h.rows.mono X0x hx,h.basis.mono w0F hx⟩
theorem i0w.store {p n m k i j:Nat} {L:List (List Int)} {D x:Int} {bs:List Nat} {sR sB:Value} {vs:List Value} (h:i0w fl H p n m L D bs k sR sB vs) (hi:i < L.length) (hj:j < L[i].length) (hx:f0G x) :
  ∃ G,f0g fl H 1 (adr 1 (vs[i]'(by have:=h.rows.len;omega)) j) (.int .i64 x)=some G∧i0w fl G p n m (L.set i (L[i].set j x)) D bs k sR sB vs∧d0l (slB (vs[i]'(by have:=h.rows.len;omega))) H G∧Lx H G:=by
 obtain ⟨G,h1,h2,h3,h4⟩:=h.rows.store X0x hi hj (w:=.int .i64 x) (x:=x) rfl rfl ⟨rfl,hx⟩
 have hr:=h.rows.own i hi
 have hne:=hr.ne h.blk (by decide)
 exact ⟨G,h1,⟨(h3.2 _ (a0i h.blk) hne).trans h.blk,h.low,h.d,h.heads.lxm (hr.lxT (by decide) h3) (fun _ _ h=>h),h2,h.basis.lxm (hr.lxT (by decide) h3) (fun _ _ h=>h)⟩,h3,h4⟩
theorem i0w.head {p n m k i:Nat} {L:List (List Int)} {D:Int} {bs:List Nat} {sR sB:Value} {vs:List Value} (h:i0w fl H p n m L D bs k sR sB vs) (hi:i < L.length) :
  b0r H false 1 (adr 1 sR i)=some (vs[i]'(by have:=h.rows.len;omega)):=by
 have hl:=h.rows.len
 obtain ⟨w,h1,h2⟩:=h.heads.sls.load1 (j:=i) (by omega)
 rw [h1]
 have:[w]=[vs[i]'(by omega)]:=h2
 simpa using this
theorem i0w.num {p n m k i j:Nat} {L:List (List Int)} {D:Int} {bs:List Nat} {sR sB:Value} {vs:List Value} (h:i0w fl H p n m L D bs k sR sB vs) (hi:i < L.length) (hj:j < L[i].length) :
  b0r H false 1 (adr 1 (vs[i]'(by have:=h.rows.len;omega)) j)=some (.int .i64 L[i][j])∧f0G L[i][j]:=by
 obtain ⟨w,h1,h2,h3⟩:=(h.rows.own i hi).sls.load1 (j:=j) hj
 rw [h1]
 exact ⟨by simpa using h2,h3⟩
structure i0v (fl:Nat) (H:a0e) (p n m:Nat) (L:List (List Int)) (D:Int) (bs:List Nat) (k:Nat) (sR sD sB:Value) (vs:List Value):Prop where
 blk:a0e.blk H p=.row false a0c [.int .i64 (n:Int),.int .i64 (m:Int),.int .i64 ((2 * n + m:Nat):Int),sR,.bool (a0k D).1,sD,sB,.int .i64 (k:Int)]
 low:fl≤p
 d:Lim H sD (a0k D).2
 heads:b0d PV fl H b0i 1 sR vs
 rows:e0K a0a 2 PI fl H vs L
 basis:b0d PK fl H e0F 1 sB bs
theorem i0v.mono {p n m k:Nat} {L:List (List Int)} {D:Int} {bs:List Nat} {sR sD sB:Value} {vs:List Value} (h:i0v fl H p n m L D bs k sR sD sB vs) (hx:Ext H G):i0v fl G p n m L D bs k sR sD sB vs :=
 ⟨hx.blk h.blk,h.low,h.d.mono hx,h.heads.mono w0G hx,h.rows.mono X0w hx,h.basis.mono w0F hx⟩
theorem i0v.store {p n m k i j:Nat} {L:List (List Int)} {D x:Int} {bs:List Nat} {sR sD sB:Value} {vs:List Value} (h:i0v fl H p n m L D bs k sR sD sB vs) (hi:i < L.length) (hj:j < L[i].length) {w:Value} (hc:(a0V w).length=2) (hp:(a0V w).all a0t=true) (hx:PI H (a0V w) x) :
  ∃ G,f0g fl H 2 (adr 2 (vs[i]'(by have:=h.rows.len;omega)) j) w=some G∧i0v fl G p n m (L.set i (L[i].set j x)) D bs k sR sD sB vs∧d0l (slB (vs[i]'(by have:=h.rows.len;omega))) H G∧Lx H G:=by
 obtain ⟨G,h1,h2,h3,h4⟩:=h.rows.store X0w hi hj (w:=w) (x:=x) hc hp hx
 have hr:=h.rows.own i hi
 have hne:=hr.ne h.blk (by decide)
 exact ⟨G,h1,⟨(h3.2 _ (a0i h.blk) hne).trans h.blk,h.low,h.d.lx h4,h.heads.lxm (hr.lxT (by decide) h3) (fun _ _ h=>h),h2,h.basis.lxm (hr.lxT (by decide) h3) (fun _ _ h=>h)⟩,h3,h4⟩
theorem i0v.head {p n m k i:Nat} {L:List (List Int)} {D:Int} {bs:List Nat} {sR sD sB:Value} {vs:List Value} (h:i0v fl H p n m L D bs k sR sD sB vs) (hi:i < L.length) :
  b0r H false 1 (adr 1 sR i)=some (vs[i]'(by have:=h.rows.len;omega)):=by
 have hl:=h.rows.len
 obtain ⟨w,h1,h2⟩:=h.heads.sls.load1 (j:=i) (by omega)
 rw [h1]
 have:[w]=[vs[i]'(by omega)]:=h2
 simpa using this
theorem i0v.num {p n m k i j:Nat} {L:List (List Int)} {D:Int} {bs:List Nat} {sR sD sB:Value} {vs:List Value} (h:i0v fl H p n m L D bs k sR sD sB vs) (hi:i < L.length) (hj:j < L[i].length) :
  ∃ w,b0r H true 2 (adr 2 (vs[i]'(by have:=h.rows.len;omega)) j)=some w∧b0q H w (a0k L[i][j]):=by
 obtain ⟨cs,h1,_,h3⟩:=Sls.load (h.rows.own i hi).sls (j:=j) hj (by omega);exact ⟨_,h1,h3⟩
end
section
open Go
def M0Z (P:Program):List Field→Nat→Option Nat
 | [],acc=>some acc
 | f :: r,acc=>if f.offset=acc then M0Z P r (acc + P.cellsOf f.type) else none
def e0M (P:Program):Nat→TypeId→Bool
 | 0,_=>false
 | m + 1,t =>
  match P.underlying t with
  | some .bool=>P.cellsOf t == 1
  | some (.int _)=>P.cellsOf t == 1
  | some .string=>P.cellsOf t == 1
  | some (.slice e)=>P.cellsOf t == 1 && e0M P m e && P.cellsOf e != 0
  | some (.struct fs)=>M0Z P fs.toList 0 == some (P.cellsOf t) && fs.toList.all fun f=>e0M P m f.type
  | _=>false
def IsT (P:Program) (H:a0e):Nat→TypeId→List Value→Prop
 | 0,_,_=>False
 | m + 1,t,cs =>
  match P.underlying t with
  | some .bool=>∃ b,cs=[.bool b]
  | some (.int k)=>∃ n,cs=[.int k n]∧(Lit.int k n).wf=true
  | some .string=>∃ s,cs=[.string s]∧s.size≤maxLen
  | some (.slice e)=>cs=[.slice none 0 0] ∨ ∃ b len cap cells,cs=[.slice (some ⟨b,0,none⟩) len cap]∧len≤cap∧cap≤maxLen∧H.blk b=.row true e cells∧cells.length=len * P.cellsOf e ∧
    ∀ i,i < len→IsT P H m e ((cells.drop (i * P.cellsOf e)).take (P.cellsOf e))
  | some (.struct fs)=>∃ parts:List (List Value),cs=parts.flatten∧parts.length=fs.toList.length∧∀ i f,fs.toList[i]? = some f→IsT P H m f.type (parts.getD i [])
  | _=>False
def h0c (H:a0e):Prop:=∀ b e cs,H.blk b ≠ .row false e cs
def n0B (H H':a0e):Prop:=H.size≤H'.size∧∀ b,b < H.size→H'.blk b=H.blk b
theorem n0B.refl (H:a0e):n0B H H:=⟨i1j _,fun _ _=>rfl⟩
theorem n0B.trans {H H1 H2:a0e} (h:n0B H H1) (k:n0B H1 H2):n0B H H2:=⟨i1t h.1 k.1,fun b hb=>(k.2 b (i1C hb h.1)).trans (h.2 b hb)⟩
theorem n0B.push (H:a0e) (r:Blk):n0B H (H.push r):=⟨by simp,fun b hb=>by rw [a0K,i1k (by omega)]⟩
theorem IsT.mono {P:Program} {H H':a0e} (hx:n0B H H'):∀ {m:Nat} {t:TypeId} {cs:List Value},IsT P H m t cs→IsT P H' m t cs
 | 0,_,_,h=>h
 | m + 1,t,cs,h=>by
  unfold IsT at h ⊢
  split at h
  ·exact h
  ·exact h
  ·exact h
  ·rename_i e _
   rcases h with h | ⟨b,len,cap,cells,h1,h2,h3,h4,h5,h6⟩
   ·exact .inl h
   ·exact .inr ⟨b,len,cap,cells,h1,h2,h3,by rw [hx.2 b (a0i h4)];exact h4,h5,fun i hi=>(h6 i hi).mono hx⟩
  ·obtain ⟨parts,h1,h2,h3⟩:=h
   exact ⟨parts,h1,h2,fun i f hf=>(h3 i f hf).mono hx⟩
  ·exact h
variable {X:Cx} {φ:Inj} {H:a0e} {w:World}
theorem Rel.pushRo (hR:Rel X φ H w) (hro:h0c H) {B o:Nat} {e el:TypeId} {fz:Nat × Nat} {cs:List Value} {c:Array Value} (hB:w.heap[B]? = some (.cells c el fz)) (hle:o + cs.length≤c.size)
  (hc:CR X φ w.shape? cs ((c.toList.drop o).take cs.length)) (hlt:B < X.base):Rel X (ad φ H.size B o) (H.push (.row true e cs)) w∧h0c (H.push (.row true e cs)):=by
 have hext:∀ b x,φ b=some x→ad φ H.size B o b=some x:=fun b x h=>w0e hR h
 have hro':h0c (H.push (.row true e cs)):=by
  intro b e1 cs1 h
  rw [a0K] at h
  split at h
  ·cases h
  ·exact hro b e1 cs1 h
 refine ⟨⟨hR.bs,?_,?_,fun b b' B1 o1 o' e1 cs1 _ _ _ h=>i1A h (hro' b e1 cs1)⟩,hro'⟩
 ·intro b x h
  rw [j1H]
  rcases h0e hR h with ⟨h1,_⟩ | ⟨h1,_⟩ <;> omega
 ·intro b B1 o1 ro e1 cs1 h1 h2
  rw [a0K] at h2
  rcases h0e hR h1 with ⟨rfl,h3⟩ | ⟨h3,h4⟩
  ·rw [i1n rfl] at h2;cases h2;cases h3
   exact ⟨c,el,fz,hB,hle,hc.mono hext (fun _ _ h=>h),fun h=>(by cases h),fun _=>hlt⟩
  ·rw [i1k (by omega)] at h2
   obtain ⟨c1,el,fz,g1,g2,g3,g4⟩:=hR.row b B1 o1 ro e1 cs1 h4 h2
   exact ⟨c1,el,fz,g1,g2,g3.mono hext (fun _ _ h=>h),g4⟩
theorem Rel.pushFree (hR:Rel X φ H w) (hro:h0c H) (e:TypeId):Rel X φ (H.push (.row true e [])) w∧h0c (H.push (.row true e [])):=by
 have hro':h0c (H.push (.row true e [])):=by
  intro b e1 cs1 h
  rw [a0K] at h
  split at h
  ·cases h
  ·exact hro b e1 cs1 h
 refine ⟨⟨hR.bs,fun b x h=>by have:=hR.lt b x h;rw [j1H];omega,fun b B1 o1 ro e1 cs1 h1 h2=>?_,fun b b' B1 o1 o' e1 cs1 _ _ _ h=>i1A h (hro' b e1 cs1)⟩,hro'⟩
 have:=hR.lt b _ h1
 rw [a0K,i1k (by omega)] at h2
 exact hR.row b B1 o1 ro e1 cs1 h1 h2
theorem o0F {α:Type} {f:Nat→Option α}:∀ {n k:Nat} {l:List α},(List.range' k n).mapM f=some l→l.length=n∧∀ i,i < n→f (k + i)=l[i]?
 | 0,k,l,h=>by simp at h;subst h;exact ⟨rfl,fun i hi=>by omega⟩
 | n + 1,k,l,h=>by
  rw [k1Z,k1C] at h
  simp only [i1o,i1i,i1q,i1l] at h
  obtain ⟨x,h1,r,h2,rfl⟩:=h
  obtain ⟨h3,h4⟩:=o0F h2
  refine ⟨by simp [h3],fun i hi=>?_⟩
  cases i with
  | zero=>simpa using h1
  | succ i=>rw [show k + (i + 1)=k + 1 + i by omega,h4 i (by omega)];simp
theorem k0L {a:Addr} {n:Nat} {l:List Value} (hn:n ≠ 0) (h:w.cells? 0 a n=some l):a.spot=none∧∃ c el fz,w.heap[a.block]? = some (.cells c el fz)∧a.off + n≤c.size∧l=(c.toList.drop a.off).take n:=by
 unfold World.cells? at h
 rw [i1n (j1l _),List.range_eq_range'] at h
 obtain ⟨h1,h2⟩:=o0F h
 have hget:∀ i,i < n→∃ v,w.cell? (a.add i)=some v∧l[i]? = some v:=fun i hi=>by
  have:=h2 i hi
  rw [i1P] at this
  rw [i1m (by omega)] at this
  exact ⟨_,this,i1m (by omega)⟩
 obtain ⟨v0,g1,_⟩:=hget 0 (by omega)
 have hsp:a.spot=none∧∃ c el fz,w.heap[a.block]? = some (.cells c el fz):=by
  simp only [Addr.add,i1X,World.cell?] at g1
  split at g1
  ·rename_i c el fz hc
   split at g1
   ·cases g1
   ·rename_i hs;exact ⟨by simpa using hs,c,el,fz,hc⟩
  ·cases g1
 obtain ⟨hs,c,el,fz,hc⟩:=hsp
 have hcell:∀ i,w.cell? (a.add i)=c[a.off + i]?:=fun i=>by
  unfold Addr.add
  split
  ·rename_i hi;subst hi;simp [World.cell?,hc,hs]
  ·simp [World.cell?,hc]
 have hsz:a.off + n≤c.size:=by
  obtain ⟨v,g3,_⟩:=hget (n - 1) (by omega)
  rw [hcell] at g3
  have:=(i1T.1 g3).1
  omega
 refine ⟨hs,c,el,fz,hc,hsz,?_⟩
 apply k1s
 intro i
 by_cases hi:i < n
 ·obtain ⟨v,g3,g4⟩:=hget i hi
  rw [g4,j1u,i1n hi,j1z,j1P,← hcell,g3]
 ·rw [i1s (by omega),i1s]
  simp;omega
def o0q (P:Program) (X:Cx) (φ:Inj) (H:a0e) (w:World) (Z:a0e→List Value→Prop) (cs:List Value):Prop :=
 ∃ H' φ' cs',(∀ b x,φ b=some x→φ' b=some x)∧n0B H H'∧Rel X φ' H' w∧h0c H'∧CR X φ' w.shape? cs' cs∧Z H' cs'
section
variable {D:Type} {enc:TypeId × Value→D} {P:Program} (hb:X.base=w.heap.size)
include hb
theorem o0C {m fuel:Nat} (ih:∀ (t:TypeId) (cs:List Value) (x:DataW D × List MemPlace) (H:a0e) (φ:Inj),DataW.trod enc P w 0 (fun _=>true) true fuel t cs=some x→e0M P m t=true→Rel X φ H w→h0c H →
   o0q P X φ H w (fun H' cs'=>IsT P H' m t cs') cs) :
  ∀ (fs:List Field) (acc tot:Nat) (cs:List Value) (H:a0e) (φ:Inj),M0Z P fs acc=some tot→cs.length=tot→fs.all (fun f=>e0M P m f.type)=true →
   (∀ f,f ∈ fs→∃ x,DataW.trod enc P w 0 (fun _=>true) true fuel f.type ((cs.drop f.offset).take (P.cellsOf f.type))=some x)→Rel X φ H w→h0c H→acc≤tot →
   o0q P X φ H w (fun H' cs'=>∃ parts:List (List Value),cs' = parts.flatten∧parts.length=fs.length∧∀ i f,fs[i]? = some f→IsT P H' m f.type (parts.getD i [])) (cs.drop acc)
 | [],acc,tot,cs,H,φ,hl,hcs,_,_,hR,hro,_=>by
  simp only [M0Z,i1l] at hl
  refine ⟨H,φ,[],fun _ _ h=>h,n0B.refl H,hR,hro,?_,[],rfl,rfl,fun i f h=>by simp at h⟩
  rw [List.drop_of_length_le (by omega)];exact CR.nil
 | f :: r,acc,tot,cs,H,φ,hl,hcs,hp,hm,hR,hro,hat=>by
  simp only [M0Z] at hl
  split at hl
  case isFalse=>cases hl
  rename_i hoff
  obtain ⟨x,h1⟩:=hm f (by simp)
  have h2:=fun g hg=>hm g (k1r _ hg)
  simp only [j1o,i1y] at hp
  obtain ⟨H1,φ1,c1,e1,m1,R1,o1,k1,z1⟩:=ih _ _ _ _ _ h1 hp.1 hR hro
  have hlay:∀ (l:List Field) (a t:Nat),M0Z P l a=some t→a≤t:=by
   intro l
   induction l with
   | nil=>intro a t h;simp only [M0Z,i1l] at h;omega
   | cons g l ihl =>
    intro a t h
    simp only [M0Z] at h
    split at h
    ·have:=ihl _ _ h;omega
    ·cases h
  have hle:=hlay r _ _ hl
  obtain ⟨H2,φ2,c2,e2,m2,R2,o2,k2,parts,p1,p2,p3⟩:=o0C ih r (acc + P.cellsOf f.type) tot cs H1 φ1 hl hcs hp.2 h2 R1 o1 hle
  refine ⟨H2,φ2,c1 ++ c2,fun b x h=>e2 b x (e1 b x h),m1.trans m2,R2,o2,?_,c1 :: parts,by rw [p1];rfl,by simp [p2],fun i g hi=>?_⟩
  ·have hsplit:cs.drop acc=(cs.drop f.offset).take (P.cellsOf f.type) ++ cs.drop (acc + P.cellsOf f.type):=by
    rw [hoff,← j1S,j1Y]
   rw [hsplit]
   exact (k1.mono e2 (fun _ _ h=>h)).append k2
  ·cases i with
   | zero=>simp only [List.getElem?_cons_zero,i1l] at hi;subst hi;exact IsT.mono m2 z1
   | succ i=>simp only [List.getElem?_cons_succ] at hi;exact p3 i g hi
theorem o0B {m fuel sz:Nat} {e:TypeId} {a:Addr} {c:Array Value} (hsz:P.cellsOf e=sz) (ih:∀ (t:TypeId) (cs:List Value) (x:DataW D × List MemPlace) (H:a0e) (φ:Inj),DataW.trod enc P w 0 (fun _=>true) true fuel t cs=some x→e0M P m t=true→Rel X φ H w→h0c H →
   o0q P X φ H w (fun H' cs'=>IsT P H' m t cs') cs) (hpe:e0M P m e=true) :
  ∀ (n:Nat),(∀ i,i < n→∃ x,DataW.trod enc P w 0 (fun _=>true) true fuel e ((c.toList.drop (a.off + i * sz)).take sz)=some x)→∀ (H:a0e) (φ:Inj),a.off + n * sz≤c.size→Rel X φ H w→h0c H →
   o0q P X φ H w (fun H' cells=>cells.length=n * sz∧∀ i,i < n→IsT P H' m e ((cells.drop (i * sz)).take sz)) ((c.toList.drop a.off).take (n * sz))
 | 0,_,H,φ,_,hR,hro=>⟨H,φ,[],fun _ _ h=>h,n0B.refl H,hR,hro,by simpa using CR.nil,by simp,fun i hi=>by omega⟩
 | n + 1,hx,H,φ,hle,hR,hro=>by
  have hmul:(n + 1) * sz=n * sz + sz:=by rw [i1D];omega
  obtain ⟨H1,φ1,c1,e1,m1,R1,o1,k1,l1,z1⟩:=o0B hsz ih hpe n (fun i hi=>hx i (by omega)) H φ (by omega) hR hro
  obtain ⟨x,hx1⟩:=hx n (by omega)
  obtain ⟨H2,φ2,c2,e2,m2,R2,o2,k2,z2⟩:=ih _ _ _ _ _ hx1 hpe R1 o1
  have hl2:c2.length=sz:=by
   have:=k2.1
   rw [this,j1m,List.length_drop,l1b];omega
  refine ⟨H2,φ2,c1 ++ c2,fun b x h=>e2 b x (e1 b x h),m1.trans m2,R2,o2,?_,by rw [i1E,l1,hl2,hmul],fun i hi=>?_⟩
  ·have hsplit:(c.toList.drop a.off).take ((n + 1) * sz)=(c.toList.drop a.off).take (n * sz) ++ (c.toList.drop (a.off + n * sz)).take sz:=by
    rw [hmul,List.take_add,j1S]
   rw [hsplit]
   exact (k1.mono e2 (fun _ _ h=>h)).append k2
  ·by_cases hin:i < n
   ·have h1:i * sz + sz≤n * sz:=by rw [← Nat.succ_mul];exact i1r _ hin
    have:((c1 ++ c2).drop (i * sz)).take sz=(c1.drop (i * sz)).take sz:=by
     rw [j1w (by omega),j1N (by simp;omega)]
    rw [this];exact IsT.mono m2 (z1 i hin)
   ·have:i=n:=by omega
    subst this
    have:((c1 ++ c2).drop (i * sz)).take sz=c2:=by
     rw [← l1,List.drop_left,i1v (by omega)]
    rw [this];exact z2
theorem q0d:∀ (m fuel:Nat) (t:TypeId) (cs:List Value) (x:DataW D × List MemPlace) (H:a0e) (φ:Inj),DataW.trod enc P w 0 (fun _=>true) true fuel t cs=some x→e0M P m t=true→Rel X φ H w→h0c H →
  o0q P X φ H w (fun H' cs'=>IsT P H' m t cs') cs
 | 0,_,_,_,_,_,_,_,hp,_,_=>by simp [e0M] at hp
 | m + 1,0,_,_,_,_,_,h,_,_,_=>by simp [DataW.trod] at h
 | m + 1,fuel + 1,t,cs,x,H,φ,h,hp,hR,hro=>by
  unfold e0M at hp
  have fin:∀ cs',CR X φ w.shape? cs' cs→IsT P H (m + 1) t cs'→o0q P X φ H w (fun H' cs'=>IsT P H' (m + 1) t cs') cs:=fun cs' h1 h2=>⟨H,φ,cs',fun _ _ h=>h,n0B.refl H,hR,hro,h1,h2⟩
  split at hp
  ·rename_i hu
   obtain ⟨b,rfl,_⟩:=DataW.trod_bool hu h
   refine fin [.bool b] (CR.cons (.bool b) CR.nil) ?_
   unfold IsT;rw [hu];exact ⟨b,rfl⟩
  ·rename_i k hu
   obtain ⟨n,rfl,_,hwf⟩:=DataW.trod_int hu h
   refine fin [.int k n] (CR.cons (.int k n) CR.nil) ?_
   unfold IsT;rw [hu];exact ⟨n,rfl,hwf⟩
  ·rename_i hu
   obtain ⟨s,rfl,_,hs⟩:=DataW.trod_string hu h
   refine fin [.string s] (CR.cons (.str s) CR.nil) ?_
   unfold IsT;rw [hu];exact ⟨s,rfl,hs⟩
  ·rename_i e hu
   simp only [i1y,bne_iff_ne,ne_eq] at hp
   obtain ⟨⟨_,hpe⟩,hne⟩:=hp
   rcases Go.Deep.open_slice hu h with ⟨rfl,_⟩ | ⟨a,len,cap,mm,n,Dd,Pl,rfl,_,hlc,hcm,hmm,_,hel⟩
   ·refine fin [.slice none 0 0] (CR.cons .snil CR.nil) ?_
    unfold IsT;rw [hu];exact .inl rfl
   ·simp only [i1X] at hmm
    subst hmm
    by_cases hcap:mm=0
    ·have hl0:len=0:=by omega
     subst hcap hl0
     obtain ⟨R2,o2⟩:=hR.pushFree hro e
     refine ⟨H.push (.row true e []),φ,[.slice (some ⟨H.size,0,none⟩) 0 0],fun _ _ h=>h,n0B.push _ _,R2,o2,CR.cons (.sle _ _) CR.nil,?_⟩
     unfold IsT;rw [hu]
     exact .inr ⟨H.size,0,0,[],rfl,i1j _,j1l _,by rw [a0K,i1n rfl],by simp,fun i hi=>by omega⟩
    ·obtain ⟨l0,g1,_⟩:=hel 0 (by omega)
     rw [show a.add (0 * P.cellsOf e)=a by simp [Addr.add]] at g1
     obtain ⟨hsp,c,el,fz,hc,hsz0,_⟩:=k0L hne g1
     have hwin:∀ i,i < mm→a.off + i * P.cellsOf e + P.cellsOf e≤c.size∧DataW.trod enc P w 0 (fun _=>true) true n e ((c.toList.drop (a.off + i * P.cellsOf e)).take (P.cellsOf e))=some (Dd i,Pl i):=by
      intro i hi
      obtain ⟨li,q1,q2⟩:=hel i hi
      obtain ⟨_,c',el',fz',q3,q4,q5⟩:=k0L hne q1
      have hab:(a.add (i * P.cellsOf e)).block=a.block∧(a.add (i * P.cellsOf e)).off=a.off + i * P.cellsOf e:=by
       unfold Addr.add;split
       ·rename_i h0;rw [h0];exact ⟨rfl,rfl⟩
       ·exact ⟨rfl,rfl⟩
      rw [hab.1,hc] at q3;cases q3
      rw [hab.2] at q4 q5
      exact ⟨q4,by rw [← q5];exact q2⟩
     have htot:a.off + len * P.cellsOf e≤c.size:=by
      have:=(hwin (mm - 1) (by omega)).1
      have h2:len * P.cellsOf e≤mm * P.cellsOf e:=i1r _ hlc
      have h3:mm * P.cellsOf e=(mm - 1) * P.cellsOf e + P.cellsOf e:=by
       rw [← Nat.succ_mul];congr 1;omega
      omega
     obtain ⟨H1,φ1,cells,e1,m1,R1,o1,k1,l1,z1⟩:=o0B hb rfl (q0d m n) hpe len (fun i hi=>⟨_,(hwin i (by omega)).2⟩) H φ htot hR hro
     have hlt:a.block < X.base:=by rw [hb];exact (i1T.1 hc).1
     obtain ⟨R2,o2⟩:=R1.pushRo o1 (e:=e) (o:=a.off) (cs:=cells) hc (by rw [l1];exact htot) (by rw [l1];exact k1) hlt
     refine ⟨H1.push (.row true e cells),ad φ1 H1.size a.block a.off,[.slice (some ⟨H1.size,0,none⟩) len mm],fun b x hbx=>w0e R1 (e1 b x hbx),m1.trans (n0B.push _ _),R2,o2,?_,?_⟩
     ·refine CR.cons (.sl _ _ _ _ _ a.block a.off rfl Y0g hsp rfl (fun _=>rfl) (fun _=>rfl) hlc (fun hbase=>by omega)) CR.nil
     ·unfold IsT;rw [hu]
      refine .inr ⟨H1.size,len,mm,cells,rfl,hlc,hcm,by rw [a0K,i1n rfl],l1,fun i hi=>IsT.mono (n0B.push _ _) (z1 i hi)⟩
  ·rename_i fs hu
   simp only [i1y,beq_iff_eq] at hp
   obtain ⟨xs,n,hfu,_,hcl,hxl,hxs⟩:=DataW.trod_struct hu h
   have hf:n=fuel:=by omega
   subst hf
   obtain ⟨H1,φ1,c1,e1,m1,R1,o1,k1,parts,p1,p2,p3⟩:=o0C hb (q0d m n) fs.toList 0 (P.cellsOf t) cs H φ hp.1 hcl hp.2 (fun f hf=>by
    obtain ⟨i,hi,rfl⟩:=j1t.1 hf
    have:=hxs i fs.toList[i] (by simp)
    rw [i1m (by rw [hxl];simpa using hi)] at this
    exact ⟨_,this⟩) hR hro (j1l _)
   refine ⟨H1,φ1,c1,e1,m1,R1,o1,by simpa using k1,?_⟩
   unfold IsT;rw [hu];exact ⟨parts,p1,p2,p3⟩
  ·cases hp
end
end
section
open Go Go.RowKit Go.ChangeShapes Go.WideShapes Go.ChangeAt
def IsV (P:Program) (H:a0e) (m:Nat) (t:TypeId) (v:Value):Prop :=
 match P.underlying t with
 | some (.struct _)=>∃ cs,v=.agg cs∧IsT P H m t cs.toList
 | _=>IsT P H m t [v]
def J0A (P:Program) (H:a0e) (m:Nat):List TypeId→List Value→Prop
 | [],[]=>True
 | t :: ts,v :: vs=>IsV P H m t v∧J0A P H m ts vs
 | _,_=>False
theorem IsV.mono {P:Program} {H H':a0e} (hx:n0B H H') {m:Nat} {t:TypeId} {v:Value} (h:IsV P H m t v):IsV P H' m t v:=by
 unfold IsV at h ⊢
 split at h
 ·obtain ⟨cs,h1,h2⟩:=h;exact ⟨cs,h1,h2.mono hx⟩
 ·exact IsT.mono hx h
theorem J0A.mono {P:Program} {H H':a0e} (hx:n0B H H') {m:Nat}:∀ {ts:List TypeId} {vs:List Value},J0A P H m ts vs→J0A P H' m ts vs
 | [],[],h=>h
 | t :: ts,v :: vs,h=>⟨h.1.mono hx,J0A.mono hx h.2⟩
 | [],_ :: _,h=>h.elim
 | _ :: _,[],h=>h.elim
variable {X:Cx} {φ:Inj} {H:a0e} {w:World} {D:Type} {enc:TypeId × Value→D} {P:Program}
theorem A0r {t:TypeId} {v:Value} {base:Nat} {m:Nat} (hp:e0M P m t=true) (hns:∀ fs,P.underlying t ≠ some (.struct fs)) (ho:Value.okWide P w .any base t v):v.cells.toList=[v]:=by
 cases m with
 | zero=>simp [e0M] at hp
 | succ m =>
  unfold e0M at hp
  unfold Value.okWide at ho
  cases hu:P.underlying t with
  | none=>simp [hu] at hp
  | some d =>
   cases d <;> simp only [hu] at hp ho <;> try (exact i1A hp Bool.false_ne_true)
   all_goals (first | (exact i1A hu (hns _)) | skip)
   all_goals
    unfold Cell.okWide at ho
    rw [hu] at ho
    unfold Cell.ok at ho
    rw [hu] at ho
    cases v <;> simp_all [Value.cells]
theorem K0D (hb:X.base=w.heap.size) {m:Nat} {t:TypeId} {v:Value} {d:DataW D} {ps:List MemPlace} {base:Nat} (h:DataW.Trod enc P w 0 (fun _=>true) true t v d ps) (hp:e0M P m t=true) (ho:Value.okWide P w .any base t v)
  (hR:Rel X φ H w) (hro:h0c H):∃ H' φ' v',(∀ b x,φ b=some x→φ' b=some x)∧n0B H H'∧Rel X φ' H' w∧h0c H'∧VR X φ' w.shape? v' v∧IsV P H' m t v':=by
 obtain ⟨fuel,h⟩:=h
 obtain ⟨H',φ',cs',e1,m1,R1,o1,k1,z1⟩:=q0d hb m fuel t _ _ H φ h hp hR hro
 by_cases hs:∃ fs,P.underlying t=some (.struct fs)
 ·obtain ⟨fs,hs⟩:=hs
  have ho':=ho
  unfold Value.okWide at ho'
  rw [hs] at ho'
  obtain ⟨cs,rfl,_⟩:=ho'
  refine ⟨H',φ',.agg cs'.toArray,e1,m1,R1,o1,VR.agg_iff.2 (by simpa [Value.cells] using k1),?_⟩
  unfold IsV
  rw [hs]
  exact ⟨_,rfl,by simpa using z1⟩
 ·have hns:∀ fs,P.underlying t ≠ some (.struct fs):=fun fs h=>hs ⟨fs,h⟩
  rw [A0r hp hns ho] at k1
  have hl:cs'.length=1:=by have:=k1.1;simpa using this
  obtain ⟨v',rfl⟩:∃ v',cs' = [v']:=by
   match cs',hl with
   | [v'],_=>exact ⟨v',rfl⟩
  refine ⟨H',φ',v',e1,m1,R1,o1,k1.head,?_⟩
  unfold IsV
  split
  ·rename_i fs hu;exact i1A hu (hns fs)
  ·exact z1
theorem s0r (hb:X.base=w.heap.size) {m:Nat} {base:Nat}:∀ (ts:List TypeId) (vs:List Value) (ds:List (DataW D)) (ps:List MemPlace) (H:a0e) (φ:Inj),DataW.TrodAll enc P w 0 (fun _=>true) true ts vs ds ps →
  (∀ t,t ∈ ts→e0M P m t=true)→(∀ (j:Nat) t v,ts[j]? = some t→vs[j]? = some v→Value.okWide P w .any base t v)→Rel X φ H w→h0c H →
  ∃ H' φ' vs',(∀ b x,φ b=some x→φ' b=some x)∧n0B H H'∧Rel X φ' H' w∧h0c H'∧CR X φ' w.shape? vs' vs∧J0A P H' m ts vs'
 | [],[],[],_,H,φ,_,_,_,hR,hro=>⟨H,φ,[],fun _ _ h=>h,n0B.refl H,hR,hro,CR.nil,trivial⟩
 | t :: ts,v :: vs,d :: ds,ps,H,φ,h,hp,ho,hR,hro=>by
  obtain ⟨p,q,h1,h2,_⟩:=h
  obtain ⟨H1,φ1,v1,e1,m1,R1,o1,k1,z1⟩:=K0D hb h1 (hp t (by simp)) (ho 0 t v rfl rfl) hR hro
  obtain ⟨H2,φ2,vs2,e2,m2,R2,o2,k2,z2⟩:=s0r hb ts vs ds q H1 φ1 h2 (fun t ht=>hp t (by simp [ht])) (fun j t v h1 h2=>ho (j + 1) t v (by simpa using h1) (by simpa using h2)) R1 o1
  exact ⟨H2,φ2,v1 :: vs2,fun b x h=>e2 b x (e1 b x h),m1.trans m2,R2,o2,CR.cons (k1.mono e2 (fun _ _ h=>h)) k2,z1.mono m2,z2⟩
 | [],[],_ :: _,_,_,_,h,_,_,_,_=>h.elim
 | [],_ :: _,_,_,_,_,h,_,_,_,_=>by cases ‹List (DataW D)› <;> exact h.elim
 | _ :: _,[],_,_,_,_,h,_,_,_,_=>by cases ‹List (DataW D)› <;> exact h.elim
 | _ :: _,_ :: _,[],_,_,_,h,_,_,_,_=>h.elim
theorem z0e {f:Func} {s:ChangeSpec} {apart fresh handsOn again:Bool} {W W':World} {args:Array Value} {v:Value} {ds gs:List (DataW D)} {before pa pv:List MemPlace}
  (hW:DataW.Whole enc P f.params.toList s.vars apart W args.toList ds gs before)
  (hres:∀ (b:Nat) (sp:Nat→Bool) (hd:Bool),DataW.TrodAll enc P W' b sp hd f.resultTypes.toList (v.resultList f.resultTypes.size) (s.fn D (ds ++ gs)).results [])
  (hargs:∀ sp:Nat→Bool,(∀ p ∈ before,sp p.block=true)→DataW.TrodAll enc P W' 0 sp true f.params.toList args.toList (s.fn D (ds ++ gs)).args pa)
  (hvars:∀ sp:Nat→Bool,(∀ p ∈ before,sp p.block=true)→DataW.TrodVars enc P W' sp s.vars (s.fn D (ds ++ gs)).vars pv)
  (hps:before=pa ++ pv) (hbe:Below W.heap.size W W')
  (hok:∀ (j:Nat) (t:TypeId) (r:Value),f.resultTypes[j]? = some t→(v.resultList f.resultTypes.size)[j]? = some r→Value.okWide P W' .any 0 t r) :
  s.post enc P f apart fresh handsOn again W args v W':=by
 have hold:∀ p ∈ before,(fun b=>decide (b < W.heap.size)) p.block=true:=fun p hp=>by simpa using hW.lt p hp
 have hk:W.keptBut W' (· ∈ before):=by
  refine ⟨hbe.os,hbe.output,fun i hi=>?_⟩
  rw [hbe.block i hi]
  cases W.heap[i]? with
  | none=>rfl
  | some o=>cases o <;> simp
 refine ⟨ds,gs,before,[],pa,pv,hW,hres _ _ _,hargs _ hold,hvars _ hold,World.keptBut_mono (fun p hp=>⟨hp,?_⟩) hk,fun _=>?_⟩
 ·rw [hps,i1F] at hp
  exact Or.inr hp
 ·have hlt:=hW.lt
  obtain ⟨_,_,_,_,_,hz,hn⟩:=hW
  refine ⟨hok,_,_,([] ++ pa) ++ pv,⟨[] ++ pa,pv,trodAll_append (hargs _ (fun _ _=>rfl)) (hres _ _ _),hvars _ (fun _ _=>rfl),rfl,?_,?_⟩,?_⟩
  ·intro b off hp
   have hp':MemPlace.cell b off ∈ before:=by rw [hps];simpa using hp
   have h1:=hz b off hp'
   have h2:b < W.heap.size:=hlt _ hp'
   have h3:=hbe.block b h2
   unfold World.frozen? at h1 ⊢
   simpa [h3] using h1
  ·intro ha
   have:=hn ha
   rw [hps] at this
   simpa using this
  ·intro p hp _
   rw [hps]
   simpa using hp
theorem j0U (hl:laidOutB P=true) {W W':World} (hbe:Below W.heap.size W W') {sp:Nat→Bool}:∀ {ts:List TypeId} {vs:List Value} {ds:List (DataW D)} {ps:List MemPlace},
  DataW.TrodAll enc P W 0 (fun _=>true) true ts vs ds ps→(∀ t,t ∈ ts→P.readableRec t=true∧t < P.types.size)→(∀ p ∈ ps,p.block < W.heap.size)→(∀ p ∈ ps,sp p.block=true)→DataW.TrodAll enc P W' 0 sp true ts vs ds ps
 | [],[],[],_,h,_,_,_=>h
 | t :: ts,v :: vs,d :: ds,ps,⟨p,q,h1,h2,e⟩,hr,hlt,hsp=>by
  subst e
  refine ⟨p,q,WideElems.Trod_stays hl (hr t (by simp)).1 (hr t (by simp)).2 h1 (fun x hx=>hbe.same (hlt x (by simp [hx]))) (fun x hx=>hsp x (by simp [hx])),?_,rfl⟩
  exact j0U hl hbe h2 (fun t ht=>hr t (by simp [ht])) (fun x hx=>hlt x (by simp [hx])) (fun x hx=>hsp x (by simp [hx]))
 | [],[],_ :: _,_,h,_,_,_=>h.elim
 | [],_ :: _,ds,_,h,_,_,_=>by cases ds <;> exact h.elim
 | _ :: _,[],ds,_,h,_,_,_=>by cases ds <;> exact h.elim
 | _ :: _,_ :: _,[],_,h,_,_,_=>h.elim
theorem s0n {E:Env} (hsim:∀ (base n:Nat),e0g ⟨P,base⟩ (b0p E n)) {f:FuncId} {fn:Func} {s:ChangeSpec} {apart fresh handsOn again:Bool} {m:Nat} {tb:TypeId} (hl:laidOutB P=true) (hts:∀ t,t ∈ fn.params.toList→e0M P m t=true∧P.readableRec t=true∧t < P.types.size)
  (hrt:fn.resultTypes = #[tb]) (htb:P.underlying tb=some .bool) (hv:s.vars=[]) (hs:∀ ds:List (DataW D),ds.length=fn.params.size→s.fn D ds = { results:=[.lit (.bool true)],args:=ds })
  (hdo:∀ (Ha:a0e) (vs:List Value),J0A P Ha m fn.params.toList vs→a0S E Ha.size f vs Ha (fun r _=>r=.bool true) (fun _=>False))
  (W:World) (base:Nat) (args:Array Value) (ds gs:List (DataW D)) (before:List MemPlace)
  (hval:∀ (j:Nat) t v,fn.params[j]? = some t→args[j]? = some v→Value.okWide P W .any base t v)
  (hW:DataW.Whole enc P fn.params.toList s.vars apart W args.toList ds gs before) :
  Calls P f args W fun e W'=>∃ v,e=.returned v∧s.post enc P fn apart fresh handsOn again W args v W':=by
 have hW':=hW
 obtain ⟨p,q,hA,hV,hpq,hfz,hnd⟩:=hW
 rw [hv] at hV
 obtain ⟨rfl,rfl⟩:=trodVars_none hV
 have hb:(⟨P,W.heap.size⟩:Cx).base=W.heap.size:=rfl
 have h0:Rel ⟨P,W.heap.size⟩ (fun _=>none) #[] W:=⟨i1j _,fun _ _ h=>by simp at h,fun _ _ _ _ _ _ h=>by simp at h,fun _ _ _ _ _ _ _ h=>by simp at h⟩
 have ho0:h0c #[]:=fun b e cs h=>by simp [a0e.blk] at h
 obtain ⟨Ha,φ,vs,_,_,hR,hro,hcr,hz⟩:=s0r (X:=⟨P,W.heap.size⟩) hb _ _ _ _ #[] (fun _=>none) hA (fun t ht=>(hts t ht).1) (fun j t v h1 h2=>hval j t v (by simpa using h1) (by simpa using h2)) h0 ho0
 obtain ⟨n,hn⟩:=hdo Ha vs hz
 have hsz:ds.length=fn.params.size:=by
  have:∀ (ts:List TypeId) (vs:List Value) (ds:List (DataW D)) (ps:List MemPlace),DataW.TrodAll enc P W 0 (fun _=>true) true ts vs ds ps→ds.length=ts.length:=by
   intro ts
   induction ts with
   | nil=>intro vs ds ps h;cases vs <;> cases ds <;> first | rfl | exact h.elim
   | cons t ts ih =>
    intro vs ds ps h
    cases vs <;> cases ds <;> first | exact h.elim | skip
    obtain ⟨_,_,_,h2,_⟩:=h
    simp [ih _ _ _ h2]
  simpa using this _ _ _ _ hA
 cases hc:b0p E n Ha.size f vs Ha with
 | bad=>rw [hc] at hn;exact hn.elim
 | pan v=>rw [hc] at hn;exact hn.elim
 | ok r =>
  obtain ⟨rv,H'⟩:=r
  rw [hc] at hn
  have hrv:rv=.bool true:=hn
  subst hrv
  refine ((hsim W.heap.size n Ha.size f vs Ha φ W args hR hcr (i1j _)).1 _ _ hc).2.mono ?_
  rintro e W' ⟨v',φ',rfl,hvr,hst⟩
  cases hvr
  have hbe:Below W.heap.size W W':=⟨hst.os,hst.tape,hst.out,hst.wsz,fun k hk=>hst.frame k hk fun b o e cs _ _ h=>hro b e cs h⟩
  have hsp:=hs (ds ++ []) (by simpa using hsz)
  have hlt:=hW'.lt
  refine ⟨_,rfl,z0e (pa:=p) (pv:=[]) hW' (fun b sp hd=>?_) (fun sp hsp'=>?_) (fun sp _=>?_) hpq hbe ?_⟩
  ·rw [hsp,hrt]
   exact trodAll_cons_mk (shut_bool htb true) trodAll_mk0
  ·rw [hsp,List.append_nil]
   exact j0U hl hbe hA (fun t ht=>(hts t ht).2) (fun x hx=>hlt x (by rw [hpq];simp [hx])) (fun x hx=>hsp' x (by rw [hpq];simp [hx]))
  ·rw [hsp,hv];rfl
  ·exact ok_one hrt rfl (okWide_bool_mk htb _)
theorem B0k {m:Nat} {t1 t2 t3 t4:TypeId} {vs:List Value} (h:J0A P H m [t1,t2,t3,t4] vs):∃ u v w x,vs=[u,v,w,x]∧IsV P H m t1 u∧IsV P H m t2 v∧IsV P H m t3 w∧IsV P H m t4 x:=by
 match vs,h with
 | [u,v,w,x],⟨h1,h2,h3,h4,_⟩=>exact ⟨u,v,w,x,rfl,h1,h2,h3,h4⟩
end
section
open Go
def d0k (nt i:Nat) (Inv:Nat→(Nat→Value)→a0e→Prop) (t:b0b) (H:a0e):Prop:=∃ ρ2,t=T nt ρ2∧Inv (i + 1) ρ2 H
theorem d0k.mk {nt i:Nat} {Inv:Nat→(Nat→Value)→a0e→Prop} {ρ:Nat→Value} {H:a0e} (h:Inv (i + 1) ρ H):d0k nt i Inv (T nt ρ) H:=⟨ρ,rfl,h⟩
theorem b0G {n:Nat} (h:n < 4611686018427387904):IntKind.i64.wrap ((n:Int) + 1)=((n + 1:Nat):Int):=by rw [a0R (by omega) (by omega)];omega
def i0c (E:Env) (fl nt:Nat) (rx:List a0I) (R:a0E) (i:Nat) (Inv:Nat→(Nat→Value)→a0e→Prop) (t:b0b) (H:a0e):Prop :=
 WR E fl rx t H (d0k nt i Inv) R
def g0a (E:Env) (fl nt tc b b2 n:Nat) (body:SCode) (rx:List a0I) (Z:b0b→a0e→Prop) (Q:d0X) (R:a0E) (i:Nat) (Inv:Nat→(Nat→Value)→a0e→Prop) (t:b0b) (H:a0e):Prop :=
 ∃ ρ',t=T nt ρ'∧ρ' tc=.bool (decide (i < n))∧(i < n→W E fl body (T nt ρ') H (t0W b2 b (i0c E fl nt rx R i Inv) Z Q) R)∧(i=n→Z (T nt ρ') H)
section
variable {E:Env} {fl nt tc b b2 n i:Nat} {body:SCode} {rx rc:List a0I} {Z:b0b→a0e→Prop} {Q:d0X} {R:a0E} {Inv:Nat→(Nat→Value)→a0e→Prop} {ρ:Nat→Value} {H:a0e}
theorem g0a.mk (h1:ρ tc=.bool (decide (i < n))) (h2:i < n→W E fl body (T nt ρ) H (t0W b2 b (i0c E fl nt rx R i Inv) Z Q) R) (h3:i=n→Z (T nt ρ) H):g0a E fl nt tc b b2 n body rx Z Q R i Inv (T nt ρ) H:=⟨ρ,rfl,h1,h2,h3⟩
theorem e0L (Inv:Nat→(Nat→Value)→a0e→Prop) (n:Nat) (htc:tc < nt) (hI:Inv 0 ρ H)
  (step:∀ i ρ G,i≤n→Inv i ρ G→WR E fl rc (T nt ρ) G (g0a E fl nt tc b b2 n body rx Z Q R i Inv) R) :
  W E fl (.loop (.seq (.seq (.reg rc) (.cond (.tmp tc) .skip (.exit b))) (.seq (.block b2 body) (.reg rx)))) (T nt ρ) H (e0Z b (h0H Z Q)) R:=by
 refine b0R (fun k t G=>∃ i ρ,i + k=n∧t=T nt ρ∧Inv i ρ G) Z n ⟨0,ρ,by omega,rfl,hI⟩ ?_ (fun _ _ h=>h)
 clear hI
 rintro k t G ⟨i,ρ,hik,rfl,hI⟩
 refine g0M (g0M (l0f ((step i ρ G (by omega) hI).mono ?_)))
 rintro t' G' ⟨ρ',rfl,h1,h2,h3⟩
 simp only [d0h]
 by_cases hi:i < n
 ·have hd:ρ' tc=.bool true:=by rw [h1,decide_eq_true hi]
  refine j0j true (by rw [i0z,b0Q htc,hd]) (fun _=>r0J ?_) (by simp)
  simp only [d0h]
  refine g0M (l0O ((h2 hi).mono fun e t2 G2 hq=>?_))
  have fin:i0c E fl nt rx R i Inv t2 G2→h0H (fun t' H'=>W E fl (.reg rx) t' H' (m0j b (fun t' H'=>∃ k',k' < k∧∃ i ρ,i + k' = n∧t' = T nt ρ∧Inv i ρ H') Z Q) R) (m0j b (fun t' H'=>∃ k',k' < k∧∃ i ρ,i + k' = n∧t' = T nt ρ∧Inv i ρ H') Z Q) .normal t2 G2:=by
   intro h
   refine l0f (h.mono ?_)
   rintro t3 G3 ⟨ρ3,rfl,h4⟩
   exact ⟨k - 1,by omega,i + 1,ρ3,by omega,rfl,h4⟩
  cases e with
  | normal=>exact fin hq
  | exit j =>
   simp only [t0W] at hq
   show (if j=b2 then _ else _)
   by_cases hj:j=b2
   ·rw [i1n hj] at hq ⊢;exact fin hq
   ·rw [i1k hj] at hq ⊢
    show (if j=b then _ else _)
    by_cases hj2:j=b
    ·rw [i1n hj2] at hq ⊢;exact hq
    ·rw [i1k hj2] at hq ⊢;exact hq
  | ret=>exact hq
 ·have he:i=n:=by omega
  have hd:ρ' tc=.bool false:=by rw [h1,decide_eq_false hi]
  refine j0j false (by rw [i0z,b0Q htc,hd]) (by simp) (fun _=>r0I ?_)
  show (if b=b then _ else _)
  rw [i1n rfl]
  exact h3 he
end
end
section
open Go
set_option maxHeartbeats 4000000
variable {fl:Nat} {H G:a0e} {R:a0E} {v w:Value}
theorem r0F {i j:Bool × List Nat} (h:b0q H v i) (k:b0q H w j) (hf:fl≤H.size) (hn:i.2.length < 1073741824):a0S env fl X0g [v,w] H (fun r H'=>r=.bool (decide (i=j))∧Ext H H') R:=by
 obtain ⟨s,rfl,hs⟩:=h
 obtain ⟨u,rfl,hu⟩:=k
 obtain ⟨bi,li⟩:=i
 obtain ⟨bj,lj⟩:=j
 simp only at hs hu hn ⊢
 refine a0g g1U hf (h:=?_)
 intro ρ h0
 simp [c1j,P0N,h0]
 generalize hG:Array.push (Array.push H _) _=G
 have hx2:Ext H G:=by rw [← hG];exact (Ext.refl H).push.push
 have b0:a0e.blk G H.size=.row false a0a [.bool bi,s]:=by rw [← hG];simp
 have b1:a0e.blk G (H.size + 1)=.row false a0a [.bool bj,u]:=by rw [← hG];simp
 have hx:=Ext.refl H
 clear hG
 (try replace b0:=hx2.blk b0);(try replace b1:=hx2.blk b1);(try replace hx:=hx.trans hx2)
 have ks:=hs.mono hx
 have ku:=hu.mono hx
 by_cases hb:bi=bj
 ·subst hb
  by_cases hl:li.length=lj.length
  ·simp [x0K,P0O,h0,b0,b1,hs.slen,hu.slen,hl]
   refine e0L (fun n ρ G'=>ρ 2=.pointer (some ⟨H.size,0,none⟩)∧ρ 3=.pointer (some ⟨H.size + 1,0,none⟩)∧ρ 5=.int .i64 (n:Int)∧G' = G∧li.take n=lj.take n) li.length (by decide) (by simp) ?_
   rintro n ρ _ hn1 ⟨g2,g3,g5,rfl,hpre⟩
   simp [P0P,g2,g5,b0,ks.slen]
   refine g0a.mk (by simp) (fun hlt=>?_) (fun heq=>?_)
   ·have hltj:n < lj.length:=by omega
    simp
    refine a0G ?_
    simp [P0Q,g2,g3,g5,b0,b1,ks.ia hlt,ku.ia hltj,ks.load hlt (Ext.refl _),ku.load hltj (Ext.refl _)]
    have e1:li.getD n 0=li[n]:=by simp [i1h,hlt]
    have e2:lj.getD n 0=lj[n]:=by simp [i1h,hltj]
    refine ⟨fun hne=>?_,fun heq=>?_⟩
    ·simp [P0R]
     exact fun _ he=>hne (by subst he;rfl)
    ·unfold i0c
     simp [P0S,g5,b0G (show n < 4611686018427387904 by omega)]
     refine d0k.mk ⟨by simp [g2],by simp [g3],by simp,rfl,?_⟩
     rw [i1B hlt,i1B hltj,hpre,← e1,← e2,i1h,i1h,heq]
   ·subst heq
    rw [i1x,hl,i1x] at hpre
    simp [P0T]
    exact fun _=>hpre
  ·simp [x0K,H0z,h0,b0,b1,hs.slen,hu.slen,hl]
   exact fun _ he=>hl (by rw [he])
 ·simp [x0K,H0z,h0,b0,b1,hs.slen,hu.slen,hb]
theorem r0E {a b:b0h} (h:b0P H v a) (k:b0P H w b) (hf:fl≤H.size) (hn:d0b a < 1073741824):a0S env fl Y0K [v,w] H (fun r H'=>r=.bool (decide (a=b))∧Ext H H') R:=by
 obtain ⟨s,u,rfl,hs,hu⟩:=h
 obtain ⟨s',u',rfl,hs',hu'⟩:=k
 have hn1:a.1.2.length < 1073741824:=by unfold d0b at hn;omega
 have hn2:a.2.2.length < 1073741824:=by unfold d0b at hn;omega
 refine a0g g1F hf (h:=?_)
 intro ρ h0
 simp [b1U,O0B,h0]
 generalize hG:Array.push (Array.push H _) _=G
 have hx2:Ext H G:=by rw [← hG];exact (Ext.refl H).push.push
 have b0:a0e.blk G H.size=.row false a0b [.bool a.1.1,s,.bool a.2.1,u]:=by rw [← hG];simp
 have b1:a0e.blk G (H.size + 1)=.row false a0b [.bool b.1.1,s',.bool b.2.1,u']:=by rw [← hG];simp
 have hx:=Ext.refl H
 clear hG
 (try replace b0:=hx2.blk b0);(try replace b1:=hx2.blk b1);(try replace hx:=hx.trans hx2)
 simp [O0C,h0,b0,b1]
 refine (r0F (i:=a.1) (j:=b.1) ⟨s,rfl,hs.mono hx⟩ ⟨s',rfl,hs'.mono hx⟩ hx.1 hn1).mono ?_
 rintro _ G2 ⟨rfl,hx2⟩
 (try replace b0:=hx2.blk b0);(try replace b1:=hx2.blk b1);(try replace hx:=hx.trans hx2)
 by_cases h1:a.1=b.1
 ·simp [h1,b0,b1]
  refine (r0F (i:=a.2) (j:=b.2) ⟨u,rfl,hu.mono hx⟩ ⟨u',rfl,hu'.mono hx⟩ hx.1 hn2).mono ?_
  rintro _ G2 ⟨rfl,hx2⟩
  have:(a=b)=(a.2=b.2):=l1g ⟨fun h=>by rw [h],fun h=>Prod.ext h1 h⟩
  simp [h1,this]
 ·simp [h1]
  exact fun _ h=>h1 (by rw [h])
theorem Sls.at_ {α:Type} {P:a0e→List Value→α→Prop} {e sz:Nat} {l:List α} (h:Sls P H e sz v l) {j:Nat} (hj:j < l.length) (hs:0 < sz) :
  ∃ b o cs,adr sz v j=.pointer (some ⟨b,o,none⟩)∧cs.length=sz∧P H cs l[j]∧b0r H true sz (.pointer (some ⟨b,o,none⟩))=some (.agg cs.toArray) ∧
   (∀ k n,k + n≤sz→0 < n→b0r H true n (.pointer (some ⟨b,o + k,none⟩))=some (.agg ((cs.drop k).take n).toArray)) ∧
   ∀ k,k < sz→b0r H false 1 (.pointer (some ⟨b,o + k,none⟩))=some (cs.getD k undef):=by
 obtain ⟨cs,⟨hl,h1⟩,h2⟩:=h
 have h3:=h2 j hj
 rcases h1 with ⟨rfl,h1⟩ | ⟨b,off,cap,ro,cells,rfl,hb,ho,rfl⟩
 ·omega
 ·have hj2:(j + 1) * sz≤l.length * sz:=i1r sz hj
  rw [i1D,i1W] at hj2
  have e1:(((cells.drop off).take (l.length * sz)).drop (j * sz)).take sz=(cells.drop (off + j * sz)).take sz:=by
   rw [k1B,k1q,j1S,j1g (by omega)]
  rw [e1] at h3
  have agg:∀ k n,k + n≤sz→0 < n→b0r H true n (.pointer (some ⟨b,off + j * sz + k,none⟩))=some (.agg ((((cells.drop (off + j * sz)).take sz).drop k).take n).toArray):=by
   intro k n hk hn
   have hc:=f0m (off:=off + j * sz + k) (n:=n) hb (by omega)
   simp only [b0r]
   rw [i1k (by omega),i1k (by simp)]
   simp only [i1X,hc]
   rw [k1B,k1q,j1S,j1g (by omega)]
  refine ⟨b,off + j * sz,_,rfl,by simp;omega,h3,?_,agg,?_⟩
  ·have:=agg 0 sz (by omega) hs
   simpa [k1q] using this
  ·intro k hk
   have hc:=f0m (off:=off + j * sz + k) (n:=1) hb (by omega)
   simp only [b0r]
   rw [i1k (by simp),i1k (by simp)]
   simp only [hc,i1H,j1h]
   rw [List.head?_take,i1k (by simp),List.head?_drop,i1h,j1u,i1n (by omega),j1z]
   rw [i1m (by omega)]
   rfl
def g0Q (a:b0h):Bool:=decide (6 < a.1.2.length) || decide (6 < a.2.2.length)
def i0Q (e:b0T):Bool:=g0Q e.2
theorem l0H {l:List b0h} (h:b0v H v l) (hf:fl≤H.size) (hl:l.length < 1073741824):a0S env fl X0d [v] H (fun r H'=>r=.bool (d0y g0Q l)∧Ext H H') R:=by
 refine a0g g1M hf (h:=?_)
 intro ρ h0
 simp [c1b,O0Z,P0a,h0]
 refine e0L (fun n ρ G=>ρ 0=v∧ρ 3=.int .i64 (n:Int)∧Ext H G∧d0y g0Q (l.take n)=false) l.length (by decide) (by simp [h0,h0N]) ?_
 clear h0 ρ
 rintro n ρ G hn1 ⟨g0,g3,hx,hpre⟩
 have k:=h.mono a0Q hx
 simp [P0b,g0,g3,k.slen]
 refine g0a.mk (by simp) (fun hlt=>?_) (fun heq=>?_)
 ·obtain ⟨b,o,cs,ha,hcl,hp,hall,hagg,hc⟩:=k.at_ hlt (by decide)
  obtain ⟨s,u,hcs,hs,hu⟩:=hp
  have hcs2:cs=[.bool l[n].1.1,s,.bool l[n].2.1,u]:=by simpa using l1m (fun v=>match v with | Value.agg a=>a.toList | _=>[]) hcs
  subst hcs2
  have c1:=hc 1 (by decide)
  have c3:=hc 3 (by decide)
  simp at c1 c3
  have hb:d0y g0Q (l.take (n + 1))=g0Q l[n]:=by rw [f0L hlt,hpre,k1Q]
  have yes:g0Q l[n]=true→d0y g0Q l=true:=h0O hlt
  by_cases h1:6 < l[n].1.2.length
  ·have h1':(6:Int) < (l[n].1.2.length:Int):=by omega
   simp [x0I,g0,g3,k.ia hlt,ha,c1,c3,hs.slen,hu.slen,h1,h1',H0t]
   exact fun _=>yes (by simp [g0Q,h1])
  ·have h1':¬ (6:Int) < (l[n].1.2.length:Int):=by omega
   by_cases h2:6 < l[n].2.2.length
   ·have h2':(6:Int) < (l[n].2.2.length:Int):=by omega
    simp [x0I,g0,g3,k.ia hlt,ha,c1,c3,hs.slen,hu.slen,h1,h1',h2,h2',H0t]
    exact fun _=>yes (by simp [g0Q,h2])
   ·have h2':¬ (6:Int) < (l[n].2.2.length:Int):=by omega
    simp [x0I,g0,g3,k.ia hlt,ha,c1,c3,hs.slen,hu.slen,h1,h1',h2,h2']
    unfold i0c
    simp [P0c,g3,b0G (show n < 4611686018427387904 by omega)]
    refine d0k.mk ⟨by simp [g0],by simp,hx,?_⟩
    rw [hb];simp [g0Q,h1,h2]
 ·subst heq
  rw [i1x] at hpre
  simp [P0d]
  exact fun _=>hpre
theorem I0T {a:b0h} {p:Nat} {ro:Bool} {cs:List Value} (hb:H.blk p=.row ro a0b cs) (h:b0P H (.agg cs.toArray) a):b0v H (.slice (some ⟨p,0,none⟩) 1 1) [a]:=by
 have hl:cs.length=4:=by
  obtain ⟨s,u,hc,_⟩:=h
  have hc':cs=[.bool a.1.1,s,.bool a.2.1,u]:=by simpa using l1m (fun v=>match v with | Value.agg a=>a.toList | _=>[]) hc
  rw [hc'];rfl
 refine ⟨cs,⟨by simp [hl],.inr ⟨p,0,1,ro,cs,rfl,hb,by simp [hl],by simp [← hl]⟩⟩,?_⟩
 intro j hj
 have:j=0:=by simpa using hj
 subst this
 simp only [l1q,j1q,List.getElem_cons_zero]
 rw [← hl,i1x]
 exact h
theorem l0G {l:List b0T} (h:c0I H v l) (hf:fl≤H.size):a0S env fl W0Z [v] H (fun r H'=>r=.bool (decide (100 < l.length) || d0y i0Q l)∧Ext H H') R:=by
 refine a0g g1w hf (h:=?_)
 intro ρ h0
 by_cases h1:100 < l.length
 ·have h1':(100:Int) < (l.length:Int):=by omega
  simp [a1I,F0e,F0f,N0D,h0,h.slen,h1,h1']
 have h1':¬ (100:Int) < (l.length:Int):=by omega
 have hl:l.length < 1073741824:=by omega
 simp [a1I,F0e,F0f,N0E,h0,h.slen,h1,h1']
 refine e0L (fun n ρ G=>ρ 0=v∧ρ 3=.int .i64 (n:Int)∧Ext H G∧d0y i0Q (l.take n)=false) l.length (by decide) (by simp [h0,h0N]) ?_
 clear h0 ρ
 rintro n ρ G hn1 ⟨g0,g3,hx,hpre⟩
 have k:=h.mono b0N hx
 simp [N0F,g0,g3,k.slen]
 refine g0a.mk (by simp) (fun hlt=>?_) (fun heq=>?_)
 ·obtain ⟨b,o,cs,ha,hcl,hp,hall,hagg,hc⟩:=k.at_ hlt (by decide)
  obtain ⟨s,u,hcs,hs,hu⟩:=hp
  have hcs2:cs=[.int .i64 l[n].1,.bool l[n].2.1.1,s,.bool l[n].2.2.1,u]:=by simpa using l1m (fun v=>match v with | Value.agg a=>a.toList | _=>[]) hcs
  subst hcs2
  have c1:=hagg 1 4 (by decide) (by decide)
  simp at c1
  have hb:d0y i0Q (l.take (n + 1))=i0Q l[n]:=by rw [f0L hlt,hpre,k1Q]
  have yes:i0Q l[n]=true→d0y i0Q l=true:=h0O hlt
  simp [N0G,g0,g3,k.ia hlt,ha,c1]
  generalize hG:Array.push G _=G1
  obtain ⟨hx2,b0⟩:=g0R hG
  clear hG
  replace hx:=hx.trans hx2
  replace k:=k.mono b0N hx2
  have k0:b0v G1 (.slice (some ⟨G.size,0,none⟩) 1 1) [l[n].2]:=I0T b0 ⟨s,u,rfl,hs.mono hx2,hu.mono hx2⟩
  refine (l0H k0 hx.1 (by simp)).mono ?_
  rintro _ G2 ⟨rfl,hx2⟩
  replace hx:=hx.trans hx2
  have hone:d0y g0Q [l[n].2]=i0Q l[n]:=by simp [d0y,i0Q]
  by_cases h2:i0Q l[n]=true
  ·simp [hone,h2,N0H]
   exact fun _=>yes h2
  ·rw [k1X] at h2
   simp [hone,h2]
   unfold i0c
   simp [N0I,g3,b0G (show n < 4611686018427387904 by omega)]
   refine d0k.mk ⟨by simp [g0],by simp,hx,?_⟩
   rw [hb,h2]
 ·subst heq
  rw [i1x] at hpre
  simp [N0J]
  exact fun _=>hpre
end
section
open Go
variable {H:a0e} {v:Value} {m:Nat} {cs:List Value}
theorem l0Z {α:Type} {Q:Nat→α→Prop}:∀ n,(∀ i,i < n→∃ x,Q i x)→∃ l:List α,l.length=n∧∀ i (h:i < l.length),Q i l[i]
 | 0,_=>⟨[],rfl,fun i h=>by simp at h⟩
 | n + 1,h=>by
  obtain ⟨l,h1,h2⟩:=l0Z n (fun i hi=>h i (by omega))
  obtain ⟨x,hx⟩:=h n (by omega)
  refine ⟨l ++ [x],by simp [h1],fun i hi=>?_⟩
  by_cases h3:i < l.length
  ·rw [j1a h3];exact h2 i h3
  ·have:i=n:=by simp at hi;omega
   subst this
   rw [i1J (by omega)]
   simpa [h1] using hx
theorem y0Q {α:Type} {Pr:Program} {P:a0e→List Value→α→Prop} {t e:TypeId} {sz:Nat} (hu:Pr.underlying t=some (.slice e)) (hc:Pr.cellsOf e=sz)
  (hel:∀ cs,cs.length=sz→IsT Pr H m e cs→∃ x,P H cs x) (h:IsT Pr H (m + 1) t [v]):∃ l,Sls P H e sz v l:=by
 unfold IsT at h
 rw [hu] at h
 rcases h with h | ⟨b,len,cap,cells,h1,h2,h3,h4,h5,h6⟩
 ·have:v=.slice none 0 0:=by simpa using h
  subst this
  exact ⟨[],Sls.nil⟩
 ·have:v=.slice (some ⟨b,0,none⟩) len cap:=by simpa using h1
  subst this
  rw [hc] at h5 h6
  have hj:∀ i,i < len→i * sz + sz≤cells.length:=by
   intro i hi
   have:(i + 1) * sz≤len * sz:=i1r _ hi
   rw [i1D,i1W] at this
   omega
  obtain ⟨l,hl,hk⟩:=l0Z (Q:=fun i x=>P H ((cells.drop (i * sz)).take sz) x) len (fun i hi=>hel _ (by have:=hj i hi;simp;omega) (h6 i hi))
  subst hl
  refine ⟨l,cells,⟨h5,.inr ⟨b,0,cap,true,cells,rfl,h4,by omega,?_⟩⟩,hk⟩
  rw [j1q,← h5,i1x]
structure j0h (P:Program):Prop where
 u3:P.underlying 3=some (.int .i64)
 u4:P.underlying 4=some .bool
 u103:P.underlying 96=some (.int .u32)
 u28:P.underlying 36=some (.slice 96)
 u30:∃ f g:Field,P.underlying 38=some (.struct #[f,g])∧f.type=4∧g.type=36
 u32:∃ f g:Field,P.underlying 40=some (.struct #[f,g])∧f.type=38∧g.type=38
 u34:∃ f g:Field,P.underlying 42=some (.struct #[f,g])∧f.type=3∧g.type=40
 u37:P.underlying 43=some (.slice 40)
 u27:P.underlying 29=some (.slice 42)
 u23:P.underlying 22=some (.slice 43)
 u25:∃ f:Field,P.underlying 24=some (.struct #[f])∧f.type=22
 c103:P.cellsOf 96=1
 c37:P.cellsOf 43=1
 c32:P.cellsOf 40=4
 c34:P.cellsOf 42=5
variable {P:Program}
theorem f1A (hP:j0h P) (h:IsT P H (m + 2) 36 [v]):∃ l,Lim H v l:=by
 obtain ⟨l,h⟩:=y0Q (P:=fun _ cs (x:Nat)=>cs=[.int .u32 (x:Nat)]∧x < 4294967296) (sz:=1) hP.u28 hP.c103 (fun cs _ h=>by
  unfold IsT at h
  rw [hP.u103] at h
  obtain ⟨n,rfl,hn⟩:=h
  simp only [Lit.wf,i1y,j1n] at hn
  have h0:0≤n:=hn.1
  have h1:n≤4294967295:=hn.2
  exact ⟨n.toNat,by rw [k1z h0],by omega⟩) h
 obtain ⟨cs,h1,h2⟩:=h
 refine ⟨l,?_,fun x hx=>?_⟩
 ·have:cs=b0Y l:=by
   apply k1Y
   ·have:=h1.1;simp [b0Y];omega
   ·intro i h3 h4
    have h5:i < l.length:=by simpa using h4
    have h6:=(h2 i h5).1
    rw [j1s,i1Z h3,k1A] at h6
    have h7:=(List.cons.inj h6).1
    rw [h7];simp [b0Y]
  rw [← this];exact h1
 ·obtain ⟨i,hi,rfl⟩:=j1v hx
  exact (h2 i hi).2
theorem Z0w (hP:j0h P) (h:IsT P H (m + 1) 4 cs):∃ b,cs=[.bool b]:=by
 unfold IsT at h
 rw [hP.u4] at h;exact h
theorem q0c (hP:j0h P) (h:IsT P H (m + 1) 3 cs):∃ n,cs=[.int .i64 n]:=by
 unfold IsT at h
 rw [hP.u3] at h
 obtain ⟨n,h,_⟩:=h;exact ⟨n,h⟩
theorem f1B (hP:j0h P) (h:IsT P H (m + 1) 36 cs):∃ v,cs=[v]:=by
 unfold IsT at h
 rw [hP.u28] at h
 rcases h with h | ⟨b,len,cap,cells,h,_⟩ <;> exact ⟨_,h⟩
theorem K0A (hP:j0h P) (h:IsT P H (m + 3) 38 cs):∃ b s l,cs=[.bool b,s]∧Lim H s l:=by
 obtain ⟨f,g,hu,h1,h2⟩:=hP.u30
 unfold IsT at h
 rw [hu] at h
 obtain ⟨parts,rfl,hl,hp⟩:=h
 obtain ⟨p,q,rfl⟩:∃ p q,parts=[p,q]:=by
  match parts,hl with
  | [p,q],_=>exact ⟨p,q,rfl⟩
 obtain ⟨b,rfl⟩:=Z0w hP (by simpa [h1] using hp 0 _ rfl)
 have h1':IsT P H (m + 2) 36 q:=by simpa [h2] using hp 1 _ rfl
 obtain ⟨s,rfl⟩:=f1B hP h1'
 obtain ⟨l,hl⟩:=f1A hP h1'
 exact ⟨b,s,l,rfl,hl⟩
theorem Z0y (hP:j0h P) (h:IsT P H (m + 4) 40 cs):∃ a,b0P H (.agg cs.toArray) a:=by
 obtain ⟨f,g,hu,h1,h2⟩:=hP.u32
 unfold IsT at h
 rw [hu] at h
 obtain ⟨parts,rfl,hl,hp⟩:=h
 obtain ⟨p,q,rfl⟩:∃ p q,parts=[p,q]:=by
  match parts,hl with
  | [p,q],_=>exact ⟨p,q,rfl⟩
 obtain ⟨b,s,l,rfl,hs⟩:=K0A hP (by simpa [h1] using hp 0 _ rfl)
 obtain ⟨c,u,k,rfl,hu⟩:=K0A hP (by simpa [h2] using hp 1 _ rfl)
 exact ⟨((b,l),(c,k)),s,u,rfl,hs,hu⟩
theorem f1z (hP:j0h P) (h:IsT P H (m + 5) 42 cs):∃ e,f0J H (.agg cs.toArray) e:=by
 obtain ⟨f,g,hu,h1,h2⟩:=hP.u34
 unfold IsT at h
 rw [hu] at h
 obtain ⟨parts,rfl,hl,hp⟩:=h
 obtain ⟨p,q,rfl⟩:∃ p q,parts=[p,q]:=by
  match parts,hl with
  | [p,q],_=>exact ⟨p,q,rfl⟩
 obtain ⟨n,rfl⟩:=q0c hP (by simpa [h1] using hp 0 _ rfl)
 obtain ⟨a,s,u,hc,hs,hu⟩:=Z0y hP (by simpa [h2] using hp 1 _ rfl)
 have hc2:q=[.bool a.1.1,s,.bool a.2.1,u]:=by simpa using l1m (fun v=>match v with | Value.agg a=>a.toList | _=>[]) hc
 subst hc2
 exact ⟨(n,a),s,u,rfl,hs,hu⟩
theorem Z0z (hP:j0h P) (h:IsT P H (m + 5) 43 [v]):∃ l,b0v H v l:=y0Q hP.u37 hP.c32 (fun _ _ h=>Z0y hP h) h
theorem Z0x (hP:j0h P) (h:IsT P H (m + 6) 29 [v]):∃ l,c0I H v l:=y0Q hP.u27 hP.c34 (fun _ _ h=>f1z hP h) h
theorem Z0A (hP:j0h P) (h:IsT P H (m + 6) 22 [v]):∃ l,e0Y H v l:=y0Q hP.u23 hP.c37 (fun cs hc h=>by
 obtain ⟨w,rfl⟩:∃ w,cs=[w]:=by
  match cs,hc with
  | [w],_=>exact ⟨w,rfl⟩
 obtain ⟨l,hl⟩:=Z0z hP h
 exact ⟨l,w,rfl,hl⟩) h
theorem A0g (hP:j0h P) (h:IsV P H (m + 6) 29 v):∃ l,c0I H v l:=by
 unfold IsV at h;rw [hP.u27] at h;exact Z0x hP h
theorem J0W (hP:j0h P) (h:IsV P H (m + 7) 24 v):∃ rows,d0q H v rows:=by
 obtain ⟨f,hu,h1⟩:=hP.u25
 unfold IsV at h;rw [hu] at h
 obtain ⟨cs,rfl,h⟩:=h
 unfold IsT at h
 rw [hu] at h
 obtain ⟨parts,hc,hl,hp⟩:=h
 obtain ⟨p,rfl⟩:∃ p,parts=[p]:=by
  match parts,hl with
  | [p],_=>exact ⟨p,rfl⟩
 have h1':IsT P H (m + 6) 22 p:=by simpa [h1] using hp 0 _ rfl
 obtain ⟨s,rfl⟩:∃ s,p=[s]:=by
  unfold IsT at h1'
  rw [hP.u23] at h1'
  rcases h1' with h | ⟨b,len,cap,cells,h,_⟩ <;> exact ⟨_,h⟩
 obtain ⟨l,hl⟩:=Z0A hP h1'
 have:cs = #[s]:=by rw [← Array.toList_inj];simpa using hc
 exact ⟨l,s,by rw [this],hl⟩
theorem Sls.first {α:Type} {P:a0e→List Value→α→Prop} {e sz:Nat} {l:List α} (h:Sls P H e sz v l) {n:Nat} (hn:n≤l.length) {k:IntKind} :
  ∃ v',e0c sz v none (some (.int k n)) none=some v'∧Sls P H e sz v' (l.take n)∧elemOk H e v=true:=by
 obtain ⟨cs,h1,h2⟩:=h
 obtain ⟨v',h3,h4⟩:=h1.slice (lo:=0) (hi:=n) (x:=none) (y:=some (.int k n)) (j1l _) hn rfl (by simp [bnd])
 refine ⟨v',h3,⟨_,by rw [j1m,j1g hn];simpa using h4,?_⟩,h1.elemOk (Ext.refl _)⟩
 intro j hj
 have hj2:j < n:=by simp at hj;omega
 have hj3:(j + 1) * sz≤n * sz:=i1r _ hj2
 rw [i1D,i1W] at hj3
 have:=h2 j (by omega)
 simp only [List.getElem_take,l1p,l1q,j1q]
 rw [k1B,k1q,j1g (by omega)]
 exact this
theorem types:j0h Tryz.prog where
 u3:=Tryz.underlying3
 u4:=by kernel_rfl
 u103:=Tryz.underlying96
 u28:=Tryz.underlying36
 u30:=⟨_,_,Tryz.underlying38,rfl,rfl⟩
 u32:=⟨_,_,Tryz.underlying40,rfl,rfl⟩
 u34:=⟨_,_,Tryz.underlying42,rfl,rfl⟩
 u37:=Tryz.underlying43
 u27:=Tryz.underlying29
 u23:=Tryz.underlying22
 u25:=⟨_,Tryz.underlying24,rfl⟩
 c103:=by kernel_rfl
 c37:=by kernel_rfl
 c32:=by kernel_rfl
 c34:=by kernel_rfl
end
section
open Go
variable {e f g:b0T}
variable {a b c:List b0T}
end
section
open Go
set_option maxHeartbeats 4000000
def i0d (E:Env) (fl nt tc b b2:Nat) (body:SCode) (rx:List a0I) (Z:b0b→a0e→Prop) (Q:d0X) (R:a0E) (n i:Nat) (Inv:Nat→(Nat→Value)→a0e→Prop) (t:b0b) (H:a0e):Prop :=
 ∃ ρ' c,t=T nt ρ'∧ρ' tc=.bool c∧(c=true→i < n∧W E fl body (T nt ρ') H (t0W b2 b (i0c E fl nt rx R i Inv) Z Q) R)∧(c=false→Z (T nt ρ') H)
section
variable {E:Env} {fl nt tc b b2 n i:Nat} {body:SCode} {rx rc:List a0I} {Z:b0b→a0e→Prop} {Q:d0X} {R:a0E} {Inv:Nat→(Nat→Value)→a0e→Prop} {ρ:Nat→Value} {H:a0e}
theorem i0d.mk (c:Bool) (h1:ρ tc=.bool c) (h2:c=true→i < n∧W E fl body (T nt ρ) H (t0W b2 b (i0c E fl nt rx R i Inv) Z Q) R) (h3:c=false→Z (T nt ρ) H):i0d E fl nt tc b b2 body rx Z Q R n i Inv (T nt ρ) H:=⟨ρ,c,rfl,h1,h2,h3⟩
theorem w0b (Inv:Nat→(Nat→Value)→a0e→Prop) (n:Nat) (htc:tc < nt) (hI:Inv 0 ρ H)
  (step:∀ i ρ G,i≤n→Inv i ρ G→WR E fl rc (T nt ρ) G (i0d E fl nt tc b b2 body rx Z Q R n i Inv) R) :
  W E fl (.loop (.seq (.seq (.reg rc) (.cond (.tmp tc) .skip (.exit b))) (.seq (.block b2 body) (.reg rx)))) (T nt ρ) H (e0Z b (h0H Z Q)) R:=by
 refine b0R (fun k t G=>∃ i ρ,i + k=n∧t=T nt ρ∧Inv i ρ G) Z n ⟨0,ρ,by omega,rfl,hI⟩ ?_ (fun _ _ h=>h)
 clear hI
 rintro k t G ⟨i,ρ,hik,rfl,hI⟩
 refine g0M (g0M (l0f ((step i ρ G (by omega) hI).mono ?_)))
 rintro t' G' ⟨ρ',c,rfl,h1,h2,h3⟩
 simp only [d0h]
 cases c with
 | true =>
  obtain ⟨hi,h2⟩:=h2 rfl
  refine j0j true (by rw [i0z,b0Q htc,h1]) (fun _=>r0J ?_) (by simp)
  simp only [d0h]
  refine g0M (l0O (h2.mono fun e t2 G2 hq=>?_))
  have fin:i0c E fl nt rx R i Inv t2 G2→h0H (fun t' H'=>W E fl (.reg rx) t' H' (m0j b (fun t' H'=>∃ k',k' < k∧∃ i ρ,i + k' = n∧t' = T nt ρ∧Inv i ρ H') Z Q) R) (m0j b (fun t' H'=>∃ k',k' < k∧∃ i ρ,i + k' = n∧t' = T nt ρ∧Inv i ρ H') Z Q) .normal t2 G2:=by
   intro h
   refine l0f (h.mono ?_)
   rintro t3 G3 ⟨ρ3,rfl,h4⟩
   exact ⟨k - 1,by omega,i + 1,ρ3,by omega,rfl,h4⟩
  cases e with
  | normal=>exact fin hq
  | exit j =>
   simp only [t0W] at hq
   show (if j=b2 then _ else _)
   by_cases hj:j=b2
   ·rw [i1n hj] at hq ⊢;exact fin hq
   ·rw [i1k hj] at hq ⊢
    show (if j=b then _ else _)
    by_cases hj2:j=b
    ·rw [i1n hj2] at hq ⊢;exact hq
    ·rw [i1k hj2] at hq ⊢;exact hq
  | ret=>exact hq
 | false =>
  refine j0j false (by rw [i0z,b0Q htc,h1]) (by simp) (fun _=>r0I ?_)
  show (if b=b then _ else _)
  rw [i1n rfl]
  exact h3 rfl
end
variable {fl:Nat} {H G:a0e} {R:a0E} {v w:Value}
def e0D:List (List b0h)→Nat
 | []=>0
 | r :: l=>e0D l + (1 + min r.length 201)
theorem z0y (l:List (List b0h)) (r:List b0h):e0D (l ++ [r])=e0D l + (1 + min r.length 201):=by
 induction l with
 | nil=>simp [e0D]
 | cons x l ih=>simp only [k1l,e0D,ih];omega
theorem z0z {l:List (List b0h)} {i:Nat} (h:i < l.length):e0D (l.take (i + 1))=e0D (l.take i) + (1 + min l[i].length 201):=by
 rw [i1B h,z0y]
def n0Y (r:List b0h):Bool:=decide (r.length≤200) && d0y g0Q r
theorem w0z (l:List (List b0h)):l.length≤e0D l:=by
 induction l with
 | nil=>simp [e0D]
 | cons x l ih=>simp only [i1Y,e0D];omega
theorem B0u {l:List (List b0h)} {r:List b0h} (h:r ∈ l):min r.length 201 < e0D l:=by
 induction l with
 | nil=>simp at h
 | cons x l ih =>
  simp only [e0D]
  rcases j1M.1 h with rfl | h
  ·omega
  ·have:=ih h;omega
def B0f (l:List (List b0h)):Prop:=l.length≤200∧∀ r ∈ l,r.length≤200∧d0y g0Q r=false
theorem V0q {l:List (List b0h)} (h:e0D l≤200) (k:d0y n0Y l=false):B0f l:=by
 refine ⟨i1t (w0z l) h,fun r hr=>?_⟩
 have h1:=B0u hr
 have h2:r.length≤200:=by omega
 refine ⟨h2,?_⟩
 cases ha:d0y g0Q r with
 | false=>rfl
 | true=>exact i1A (List.any_eq_true.2 ⟨r,hr,show n0Y r=true by unfold n0Y;rw [ha];simp [h2]⟩) (by unfold d0y at k;rw [k];decide)
theorem t0B {l:List (List b0h)} (h:e0Y H v l) (hf:fl≤H.size):a0S env fl Y0I [v] H (fun r H'=>(∃ c,r=.bool c∧(c=false→B0f l))∧Ext H H') R:=by
 refine a0g g1D hf (h:=?_)
 intro ρ h0
 simp [b1S,O0p,O0q,O0r,h0]
 refine w0b (fun n ρ G=>ρ 0=v∧ρ 4=.int .i64 (n:Int)∧ρ 3=.int .i64 ((e0D (l.take n):Nat):Int)∧e0D (l.take n)≤402∧n≤403∧Ext H G∧d0y n0Y (l.take n)=false) l.length (by decide) (by simp [h0,h0N,e0D]) ?_
 clear h0 ρ
 rintro n ρ G hn1 ⟨g0,g4,g3,hb,hn2,hx,hpre⟩
 have k:=h.mono d0A hx
 have hn3:n≤e0D (l.take n):=by have:=w0z (l.take n);rw [j1m] at this;omega
 by_cases hlt:n < l.length
 ·have hlt':(n:Int) < (l.length:Int):=by omega
  by_cases h2:e0D (l.take n)≤200
  ·have h2':((e0D (l.take n):Nat):Int)≤200:=by omega
   simp [x0G,g0,g4,g3,k.slen,hlt,h2,h2']
   refine i0d.mk true (by simp [h2']) (fun _=>⟨hlt,?_⟩) (by simp)
   obtain ⟨w,hlw,kr⟩:=e0Y.load k hlt
   have hmn:u0c false (.int .i64 (l[n].length:Int)) [.int .i64 201]=some (.int .i64 ((min l[n].length 201:Nat):Int)):=by
    simp only [u0c,mn2,i1H,j1h,i1l,Value.int.injEq,true_and]
    split <;> omega
   have hw1:IntKind.i64.wrap (((e0D (l.take n):Nat):Int) + 1)=((e0D (l.take n) + 1:Nat):Int):=b0G (by omega)
   have hs:=z0z hlt
   have hw2:IntKind.i64.wrap (((e0D (l.take n) + 1:Nat):Int) + ((min l[n].length 201:Nat):Int))=((e0D (l.take (n + 1)):Nat):Int):=by
    rw [a0R (by omega) (by omega),hs];omega
   simp only [Int.natCast_add,Int.cast_ofNat_Int] at hw1 hw2
   simp [O0s,g0,g4,g3,k.ia hlt,hlw,kr.slen,hmn]
   simp [hw1]
   rw [hw2]
   have hyes:n0Y l[n]=true→d0y n0Y l=true:=h0O hlt
   have hb1:d0y n0Y (l.take (n + 1))=n0Y l[n]:=by rw [f0L hlt,hpre,k1Q]
   have hwn:=b0G (show n < 4611686018427387904 by omega)
   by_cases hl2:l[n].length≤200
   ·have hl2':(l[n].length:Int)≤200:=by omega
    simp [H0o,g0,g4,k.ia hlt,hlw,kr.slen,hl2,hl2']
    refine (l0H kr hx.1 (by omega)).mono ?_
    rintro _ G2 ⟨rfl,hx2⟩
    replace hx:=hx.trans hx2
    cases hlo:d0y g0Q l[n] with
    | true=>simp [O0t]
    | false =>
     simp
     unfold i0c
     simp [H0p,g4,hwn]
     refine d0k.mk ⟨by simp [g0],by simp,by simp,by omega,by omega,hx,?_⟩
     rw [hb1];unfold n0Y;simp [hlo]
   ·have hl2':¬ (l[n].length:Int)≤200:=by omega
    simp [H0o,g0,g4,k.ia hlt,hlw,kr.slen,hl2,hl2']
    unfold i0c
    simp [H0p,g4,hwn]
    refine d0k.mk ⟨by simp [g0],by simp,by simp,by omega,by omega,hx,?_⟩
    rw [hb1];unfold n0Y;simp [hl2]
  ·have h2':¬ ((e0D (l.take n):Nat):Int)≤200:=by omega
   simp [x0G,g0,g4,g3,k.slen,hlt,h2,h2']
   refine i0d.mk false (by simp [h2']) (by simp) (fun _=>?_)
   have h3:(200:Int) < ((e0D (l.take n):Nat):Int):=by omega
   simp [H0q,g3,h3]
 ·have he:n=l.length:=by omega
  subst he
  simp [x0G,g0,g4,g3,k.slen]
  refine i0d.mk false (by simp) (by simp) (fun _=>?_)
  rw [i1x] at hpre g3
  simp [H0q,g3]
  intro _
  by_cases h3:e0D l≤200
  ·exact .inl ⟨by omega,V0q h3 hpre⟩
  ·exact .inr (by omega)
end
section
open Go
set_option maxHeartbeats 4000000
@[simp] theorem W0N {w:Bool}:z0G w undef=false:=nr rfl
variable {fl:Nat} {H G:a0e} {R:a0E} {v w:Value} {l:List Nat} {i:Bool × List Nat}
def newB (H:a0e) (r:Value):Prop:=∀ q,slB r=some q→H.size≤q
theorem Own.newB {e sz n:Nat} {cs:List Value} (h:Own H.size G e sz v n cs):AI.newB H v:=by
 obtain ⟨_,⟨rfl,_⟩ | ⟨b,cap,rfl,_,hb⟩⟩:=h
 ·intro q hq;cases hq
 ·intro q hq
  simp only [slB,i1l] at hq
  omega
theorem newB.of {u:Value} (h:newB H v) (he:slB u=slB v):newB H u:=fun q hq=>h q (by rw [← he];exact hq)
theorem newB.ne {p:Nat} (h:newB H v) (hp:p < H.size):slB v ≠ some p:=fun he=>by have:=h p he;omega
theorem J0m {x y z:Option Value} {n:Nat} {u:Value} (h:e0c n v x y z=some u):slB u=slB v:=by
 unfold e0c at h
 split at h
 ·rename_i p len cap
  split at h
  ·split at h
   ·split at h
    ·simp only [i1l] at h
     subst h
     cases p <;> rfl
    ·split at h
     ·split at h
      ·simp only [i1l] at h
       subst h
       cases p <;> rfl
      ·cases h
     ·cases h
   ·cases h
  ·cases h
 ·cases h
theorem e0T (h:Lim H v l) (hf:fl≤H.size) (hn:l.length < 4611686018427387904):a0S env fl A0Y [v] H (fun r H'=>(Lim H' r (d0N l)∧slB r=slB v)∧Ext H H') R:=by
 refine a0g h1t hf (h:=?_)
 intro ρ h0
 simp [c1F,R0E,R0F,h0,h.slen]
 refine b0R (fun k t G=>G=H∧t.length=21∧get t 0=v∧get t 3=.int .i64 k∧k≤l.length∧d0N (l.take k)=d0N l)
  (fun t G=>∃ k:Nat,G=H∧t.length=21∧get t 0=v∧get t 3=.int .i64 k∧k≤l.length∧d0N l=l.take k) l.length (by simp [h0]) ?_ ?_
 ·rintro k t G ⟨rfl,ht,g0,g3,hk,htr⟩
  obtain ⟨ρ,rfl⟩:=toT ht
  simp only [b0Q,Nat.reduceLT] at g0 g3
  by_cases hk0:k=0
  ·subst hk0
   simp [H0V,g0,g3]
   exact ⟨0,by simp,by simp,by rw [← htr];rfl⟩
  ·have hp:0 < k:=by omega
   have w1:IntKind.i64.wrap ((k:Int) - 1)=((k - 1:Nat):Int):=by rw [a0R (by omega) (by omega)];omega
   simp [H0V,R0G,g0,g3,hp,w1,h.ia (show k - 1 < l.length by omega),h.load (show k - 1 < l.length by omega)]
   have hk1:l.take k=l.take (k - 1) ++ [l.getD (k - 1) 0]:=by rw [← e0x (by omega)];congr 1;omega
   rw [i1h] at hk1
   refine ⟨fun hz=>⟨k - 1,by omega,rfl,by omega,?_⟩,fun hz=>⟨k,rfl,hk,?_⟩⟩
   ·rw [← htr,hk1,hz,n0w]
   ·rw [← htr,hk1,k0F hz]
 ·rintro t G ⟨k,rfl,ht,g0,g3,hk,htr⟩
  obtain ⟨ρ,rfl⟩:=toT ht
  simp only [b0Q,Nat.reduceLT] at g0 g3
  obtain ⟨v',h1,h2⟩:=h.take hk (x:=none) rfl (y:=some (.int .i64 (k:Int))) (by simp)
  simp [R0H,g0,g3,h.elemOk,h1]
  rw [htr];exact ⟨h2,J0m h1⟩
theorem f0v (h:Lim H v l) (hf:fl≤H.size) (hn:l.length < 4611686018427387904):a0S env fl A0Y [v] H (fun r H'=>Lim H' r (d0N l)∧Ext H H') R:=(e0T h hf hn).mono fun _ _ h=>⟨h.1.1,h.2⟩
theorem f0b (h:b0q H v i) (hf:fl≤H.size) (hn:i.2.length < 4611686018427387904):a0S env fl V0n [v] H (fun r H'=>r=.bool (g0h i)∧Ext H H') R:=by
 obtain ⟨s,rfl,hs⟩:=h
 obtain ⟨bi,li⟩:=i
 simp only at hs hn ⊢
 refine a0g h1V hf (h:=?_)
 intro ρ h0
 simp [d1f,T0O,h0]
 generalize hG:Array.push H _=G
 obtain ⟨hx2,b0⟩:=g0R hG
 have hx:=Ext.refl H
 clear hG
 replace hx:=hx.trans hx2
 have ks:=hs.mono hx
 unfold g0h
 simp [T0P,h0,b0,ks.slen]
 by_cases hl:li.length=0
 ·have hnil:li=[]:=by simpa using hl
  subst hnil
  cases bi <;> simp [I0L,b0]
 ·have hp:0 < li.length:=by omega
  have hne:li ≠ []:=fun h=>hl (by rw [h];rfl)
  have w1:IntKind.i64.wrap ((li.length:Int) - 1)=((li.length - 1:Nat):Int):=by rw [a0R (by omega) (by omega)];omega
  have hlt:li.length - 1 < li.length:=by omega
  have h1:=ks.ia hlt (k:=.i64)
  have h2:=ks.load hlt (Ext.refl _)
  have e1:((li.length:Int)=0)=False:=by simp;omega
  have e2:((0:Int) < (li.length:Int))=True:=by simp;omega
  rw [i1h] at h2
  simp [hne,hp,I0L,b0,e1,e2,w1,h1,h2]
theorem a1K {G G3:a0e} {q:Nat} {r:Blk} {ro:Bool} {cs:List Value} {s:Value} (hS:Array.setIfInBounds G q r=G3) (hx:Ext H G) (hs:Lim G s l) (hb:a0e.blk G q=.row ro a0a cs) (hq:H.size≤q) :
  Lim G3 s l∧Ext H G3∧a0e.blk G3 q=r:=⟨by rw [← hS];exact hs.setT hb (by decide),a0Y hS hx hq,a0v hS hb⟩
theorem V0A (h:b0a i.2):(if g0h i then i else (false,[]))=a0k (a0B i):=by
 cases hm:g0h i with
 | false=>simp [a0B,hm,a0k,a0X]
 | true =>
  have h1:=j0s h
  unfold f0a at h1
  rw [hm] at h1
  have h2:=B0w i
  unfold Z0F at h2
  rw [hm] at h2
  simp at h1 h2
  simp only [i1X]
  exact Prod.ext (by rw [h2];rfl) h1
theorem d0f (h:b0q H v i) (hf:fl≤H.size) (hn:i.2.length < 4611686018427387904):a0S env fl A0X [v] H (fun r H'=>b0q H' r (a0k (a0B i))∧Ext H H') R:=by
 rw [← V0A h.ok]
 have k0:=h
 obtain ⟨s,rfl,hs⟩:=h
 refine a0g h1q hf (h:=?_)
 intro ρ h0
 simp [c1C,R0r,h0,hs.cells]
 generalize hG:Array.push (Array.push H _) _=G
 have hx2:Ext H G:=by rw [← hG];exact (Ext.refl H).push.push
 have b0:a0e.blk G H.size=.row false a0a [.bool i.1,s]:=by rw [← hG];simp
 have b1:a0e.blk G (H.size + 1)=.row false a0a [.bool false,.slice none 0 0]:=by rw [← hG];simp
 have hx:=Ext.refl H
 clear hG
 replace hx:=hx.trans hx2;replace k0:=k0.mono hx2
 simp [R0s,b0]
 refine (f0b k0 hx.1 hn).mono ?_
 rintro _ G2 ⟨rfl,hx2⟩
 replace b0:=hx2.blk b0;replace b1:=hx2.blk b1;replace hx:=hx.trans hx2;replace k0:=k0.mono hx2
 have hsz:=hx.1
 have hlt:=a0i b1
 cases hm:g0h i with
 | true =>
  obtain ⟨s',he,hs'⟩:=k0
  have:s' = s:=by simpa using he.symm
  subst this
  simp [R0u,b0,b1,hs'.cells,hs'.plain,hsz]
  generalize hS:Array.setIfInBounds G2 _ _=G3
  obtain ⟨kS,hx3,b3⟩:=a1K hS hx hs' b1 (by omega)
  simp [b3]
  exact fun _=>⟨s',rfl,kS⟩
 | false =>
  simp [R0t,b0,b1,hsz]
  generalize hS:Array.setIfInBounds G2 _ _=G3
  have b3:=a0v hS b1
  simp [b3]
  exact fun _=>⟨.slice none 0 0,rfl,Lim.nil⟩
theorem c0H {b:Bool} (z:Int) (h:Lim H v l) (hf:fl≤H.size) (hn:l.length≤1073741824) (hz:(if b then -(a0u l:Int) else a0u l)=z) :
  a0S env fl y0L [.bool b,v] H (fun r H'=>b0q H' r (a0k z)∧Ext H H') R:=by
 rw [← hz,← N0f h.ok]
 refine a0g g1P hf (h:=?_)
 intro ρ h0
 simp [c1e,P0q,P0r,h0]
 generalize hG:Array.push H _=G
 obtain ⟨hx2,b0⟩:=g0R hG
 have hx:=Ext.refl H
 clear hG
 replace hx:=hx.trans hx2
 replace h:=h.mono hx
 refine (f0v h hx.1 (by omega)).mono ?_
 rintro u G2 ⟨ht,hx2⟩
 replace b0:=hx2.blk b0;replace hx:=hx.trans hx2
 have hsz:=hx.1
 simp
 by_cases hl:d0N l=[]
 ·have hk:mkI b l=(false,[]):=by simp [mkI,hl]
  rw [hk]
  rw [hl] at ht
  simp [H0w,P0s,ht.slen,b0,hsz]
  generalize hS:Array.setIfInBounds G2 _ _=G3
  have b3:=a0v hS b0
  simp [b3]
  exact fun _=>⟨.slice none 0 0,rfl,Lim.nil⟩
 ·have hk:mkI b l=(b,d0N l):=by simp [mkI,hl]
  rw [hk]
  have hl':¬ (d0N l).length=0:=by simpa using hl
  have hle:(d0N l).length≤l.length:=by
   rw [b0W l h.ok];exact e0m (g0k l h.ok)
  simp [H0w,P0t,ht.slen,b0,hsz,hl,h0]
  have hx4:Ext G2 (G2.push (.row false a0h [])):=(Ext.refl G2).push
  have hlt:=a0i b0
  obtain ⟨v',G',h1,h2,h3,h4⟩:=j0Y (fl:=H.size) (G:=G2.push (.row false a0h [])) (s:=.slice (some ⟨G2.size,0,none⟩) 0 0) (e:=a0h) (cs:=[]) (sz:=1) (n:=0) (bytes:=4) (e2:=a0h)
   (Own.mk a0D rfl hsz) (ht.mono hx4).1 k0q (by omega) (by omega) (by omega) (by simp;omega)
  rw [i1P,j1J] at h2
  have b4:G'.blk H.size=.row false a0a [.bool false,.slice none 0 0]:=by
   rw [h3.2 _ (by simp;omega) (by simp [slB];omega)]
   exact hx4.blk b0
  have kL:Lim G' v' (d0N l):=⟨h2.sl,ht.2⟩
  have hx5:Ext H G':=h4 H (i1j _) (hx.trans hx4)
  simp [h1,kL.cells,kL.plain,b4,b0t]
  generalize hS:Array.setIfInBounds G' _ _=G3
  obtain ⟨kS,hx3,b3⟩:=a1K hS hx5 kL b4 (by omega)
  simp [b3]
  exact fun _=>⟨v',rfl,kS⟩
end
section
open Go
set_option maxHeartbeats 4000000
variable {fl:Nat} {H G:a0e} {R:a0E} {v w u:Value}
def rV:RK→a0e→Value→Int→Prop
 | .few,_,w,z=>w=.int .i64 z∧f0G z
 | .all,H,w,z=>b0q H w (a0k z)
def q0E:RK→a0E→Prop
 | .few,R=>R v0O
 | .all,_=>True
abbrev RK.P (F:RK):a0e→List Value→Int→Prop:=F.p PF PI
abbrev RK.E (F:RK):Nat:=F.p d0J a0a
abbrev RK.S (F:RK):Nat:=F.p e0U b0i
abbrev RK.T (F:RK):Nat:=F.p a0d a0c
@[simp] theorem RK.p_few {α:Type} {a b:α}:RK.p .few a b=a:=nr rfl
@[simp] theorem RK.p_all {α:Type} {a b:α}:RK.p .all a b=b:=nr rfl
@[simp] theorem RK.p_same {α:Type} {F:RK} {a:α}:F.p a a=a:=nr (by cases F <;> rfl)
@[simp high] theorem b1F {F:RK} {x y:FuncId}:List.lookup (F.p a0m a0l) [(a0l,x),(a0m,y)]=some (F.p y x):=nr (by cases F <;> rfl)
theorem V0H:∀ {F:RK},X0I F.E F.w F.P
 | .few=>X0x
 | .all=>X0w
section
variable {F:RK} {z a b c d e:Int} {wa wb wc wd we:Value}
theorem rV.mono (h:rV F H w z) (hx:Ext H G):rV F G w z:=by cases F;exact h;exact b0q.mono h hx
theorem rV.lx (h:rV F H w z) (hx:Lx H G):rV F G w z:=by cases F;exact h;exact b0q.lx h hx
theorem rV.st (h:rV F H w z):(a0V w).length=F.w∧(a0V w).all a0t=true∧F.P H (a0V w) z:=by
 cases F
 ·obtain ⟨rfl,h⟩:=h;exact ⟨rfl,rfl,rfl,h⟩
 ·obtain ⟨s,rfl,h⟩:=h;exact ⟨rfl,by simp [h.plain],s,rfl,h⟩
def kpV (F:RK) (H:a0e) (x:Value):Option Value:=F.p (some x) (b0r H true 2 x)
@[simp ↓] theorem d1q {E:Env} {d s:Nat} {r:List a0I} {t:b0b} {Z:b0b→a0e→Prop} :
  WR E fl (F.p [⟨some d,none,.mv (.tmp s)⟩] [⟨some d,none,.load true 2 (.tmp s)⟩] ++ r) t H Z R=oo (kpV F H (get t s)) fun v=>WR E fl r (put t (some d) v) H Z R:=by
 cases F
 ·show WR E fl (⟨some d,none,.mv (.tmp s)⟩ :: r) t H Z R=_
  rw [l0M,J0N,show kpV .few H (get t s)=some (get t s) from rfl,q0l];rfl
 ·show WR E fl (⟨some d,none,.load true 2 (.tmp s)⟩ :: r) t H Z R=_
  rw [l0M,t0E];rfl
theorem r0D (h:rV F H w z) (hf:fl≤H.size) (hl:lz z < 67108864):a0S env fl (F.p n0S n0R) [eV,w] H (fun r H'=>r=.int .i64 (c0A z 0)∧Ext H H') R:=by
 cases F
 ·obtain ⟨rfl,_⟩:=h;exact p0Z hf
 ·exact p0J h hf hl
theorem y0k (h:rV F H w z) (hf:fl≤H.size) (hl:lz z < 67108864):a0S env fl (F.p m0e m0d) [eV,w] H (fun r H'=>rV F H' r (-z)∧Ext H H') R:=by
 cases F
 ·obtain ⟨rfl,h⟩:=h;exact (s0g hf h).mono fun r H' ⟨h1,h2⟩=>⟨⟨h1,by unfold f0G at *;omega⟩,h2⟩
 ·exact r0L h hf hl
theorem U0l (ha:rV F H wa a) (hb:rV F H wb b) (hc:rV F H wc c) (hd:rV F H wd d) (hf:fl≤H.size) (la:lz a < 67108864) (lb:lz b < 67108864) (lc:lz c < 67108864) (ld:lz d < 67108864) :
  a0S env fl (F.p y0J y0I) [eV,wa,wb,wc,wd] H (fun r H'=>r=.int .i64 (c0A (a * b) (c * d))∧Ext H H') R:=by
 cases F
 ·obtain ⟨rfl,ha⟩:=ha;obtain ⟨rfl,hb⟩:=hb;obtain ⟨rfl,hc⟩:=hc;obtain ⟨rfl,hd⟩:=hd
  exact n0T hf ha hb hc hd
 ·exact n0I ha hb hc hd hf la lb lc ld
theorem M0K (ha:rV F H wa a) (hb:rV F H wb b) (hc:rV F H wc c) (hd:rV F H wd d) (he:rV F H we e) (hf:fl≤H.size) (la:lz a < 67108864) (lb:lz b < 67108864) (lc:lz c < 67108864) (ld:lz d < 67108864) (le:lz e < 67108864) (he0:e ≠ 0) (hR:q0E F R) :
  a0S env fl (F.p p0V p0U) [eV,wa,wb,wc,wd,we] H (fun r H'=>rV F H' r ((a * b - c * d).tdiv e)∧Ext H H') R:=by
 cases F
 ·obtain ⟨rfl,ha⟩:=ha;obtain ⟨rfl,hb⟩:=hb;obtain ⟨rfl,hc⟩:=hc;obtain ⟨rfl,hd⟩:=hd;obtain ⟨rfl,_⟩:=he
  exact j0r hf ha hb hc hd he0 hR
 ·exact j0k ha hb hc hd he hf la lb lc ld le he0
theorem d1n (h:b0q H v (a0k z)) (hf:fl≤H.size) (hl:lz z < 67108864) (hR:q0E F R):a0S env fl (F.p j0q k0e) [eV,v] H (fun r H'=>rV F H' r z∧Ext H H') R:=by
 cases F
 ·exact m0f h hf (by omega) hR
 ·exact i0K h hf
end
def Frm (tT eN:Nat) (H H':a0e):Prop:=H.size≤H'.size∧∀ e,e ≠ tT→e ≠ eN→e ≠ e0F→LxT e H H'
theorem Frm.refl {tT eN:Nat}:Frm tT eN H H:=⟨i1j _,fun _ _ _ _ _ _ _ h=>h⟩
theorem Frm.trans {tT eN:Nat} {H2:a0e} (h:Frm tT eN H G) (k:Frm tT eN G H2):Frm tT eN H H2:=⟨i1t h.1 k.1,fun e h1 h2 h3 b ro cs hb=>k.2 e h1 h2 h3 b ro cs (h.2 e h1 h2 h3 b ro cs hb)⟩
theorem Ext.frm {tT eN:Nat} (h:Ext H G):Frm tT eN H G:=⟨h.1,fun _ _ _ _ _ _ _ hb=>h.blk hb⟩
theorem l0W {K:Value→a0e→Prop} {f:FuncId} {args:List Value} {sf:v0W} (hc:env.code f=some sf) (hf:fl≤H.size) (hl:args.length=sf.np:=by rfl) (hnt:args.length≤sf.nt:=by exact of_decide_eq_true rfl)
  (h:∀ ρ:Nat→Value,(∀ i,ρ i=args.getD i undef)→W env fl sf.body (T sf.nt ρ) H (Y0E (fun t' H'=>z0w H' t' sf.res fun v=>K v H')) R) :
  a0S env fl f args H (fun v H'=>K v H'∧f0Z fl H H') R:=by
 refine (p0O (K:=K) hc hl hnt (fun t h1 h2=>?_)).keep hf
 have h3:=h (get t) h2
 rw [← J0G h1] at h3
 refine h3.mono fun e t' H' hq=>?_
 cases e with
 | exit i=>exact i1A hq id
 | normal=>exact ⟨trivial,hq⟩
 | ret=>exact ⟨trivial,hq⟩
def Tf (L:List (List Int)) (i c:Nat):Int:=(L.getD i []).getD c 0
def bf (bs:List Nat) (i:Nat):Nat:=bs.getD i 0
theorem J0H {L:List (List Int)} {i c:Nat} (hi:i < L.length) (hc:c < L[i].length):Tf L i c=L[i][c]:=by
 unfold Tf;rw [i1h,i1h,i1m hi,i1O,i1m hc];rfl
theorem e1d {bs:List Nat} {i:Nat} (hi:i < bs.length):bf bs i=bs[i]:=by
 unfold bf;rw [i1h,i1m hi];rfl
structure ShT (n m:Nat) (L:List (List Int)) (bs:List Nat):Prop where
 len:L.length=m + 2
 row:∀ i (h:i < L.length),L[i].length=2 * n + m + 1
 base:bs.length=m
theorem ShT.set {n m i j:Nat} {L:List (List Int)} {bs:List Nat} {x:Int} (h:ShT n m L bs) (hi:i < L.length):ShT n m (L.set i (L[i].set j x)) bs:=by
 refine ⟨by simp [h.len],fun r hr=>?_,h.base⟩
 have hr':r < L.length:=by simpa using hr
 by_cases hri:r=i
 ·subst hri;simp [h.row r hr']
 ·rw [l1c (by omega)];exact h.row r hr'
theorem z0Y {n m i j r c:Nat} {L:List (List Int)} {bs:List Nat} {x:Int} (h:ShT n m L bs) (hi:i < L.length) (hj:j < L[i].length):Tf (L.set i (L[i].set j x)) r c=if r=i∧c=j then x else Tf L r c:=by
 unfold Tf
 simp only [i1h,i1R]
 by_cases hri:i=r
 ·subst hri
  simp only [i1X,hi,i1O,i1R,true_and]
  by_cases hcj:j=c
  ·subst hcj;simp [hj]
  ·rw [i1k hcj,i1k (fun h=>hcj h.symm),i1m hi];rfl
 ·rw [i1k hri,i1k (fun h=>hri h.1.symm)]
def p0u (F:RK) (n m:Nat) (sR:Value) (D:Int) (sD sB:Value) (k:Int):List Value :=
 [.int .i64 (n:Int),.int .i64 (m:Int),.int .i64 ((2 * n + m:Nat):Int),sR] ++ F.p [.int .i64 D] [.bool (a0k D).1,sD] ++ [sB,.int .i64 k]
section
variable {F:RK} {n m:Nat} {sR sD sB:Value} {D k:Int}
@[simp high] theorem f1Z:(p0u F n m sR D sD sB k)[0]? = some (.int .i64 (n:Int)):=nr rfl
@[simp high] theorem g1a:(p0u F n m sR D sD sB k)[1]? = some (.int .i64 (m:Int)):=nr rfl
@[simp high] theorem g1b:(p0u F n m sR D sD sB k)[2]? = some (.int .i64 (2 * (n:Int) + m)):=nr (by show some (Value.int .i64 ((2 * n + m:Nat):Int))=_;rw [show ((2 * n + m:Nat):Int)=2 * (n:Int) + m by omega])
@[simp high] theorem g1c:(p0u F n m sR D sD sB k)[3]? = some sR:=nr rfl
@[simp high] theorem g1d:(p0u F n m sR D sD sB k)[F.p 5 6]? = some sB:=nr (by cases F <;> rfl)
@[simp high] theorem g1e:(p0u F n m sR D sD sB k)[F.p 6 7]? = some (.int .i64 k):=nr (by cases F <;> rfl)
@[simp] theorem b1J:(p0u F n m sR D sD sB k).length=F.p 7 8:=nr (by cases F <;> rfl)
@[simp] theorem f1L:(4≤F.p 7 8)=True:=nr (by cases F <;> simp)
@[simp] theorem f1M:(F.p 5 6 < F.p 7 8)=True:=nr (by cases F <;> simp)
@[simp] theorem b1I:(F.p 5 6 + 1≤F.p 7 8)=True:=nr (by cases F <;> simp)
@[simp] theorem f1N {x:Value}:(p0u F n m sR D sD sB k).set 3 x=p0u F n m x D sD sB k:=nr (by cases F <;> rfl)
@[simp] theorem f1O {x:Value}:(p0u F n m sR D sD sB k).set (F.p 5 6) x=p0u F n m sR D sD x k:=nr (by cases F <;> rfl)
theorem h0W:p0u .few n m sR D sD sB k=[.int .i64 (n:Int),.int .i64 (m:Int),.int .i64 ((2 * n + m:Nat):Int),sR,.int .i64 D,sB,.int .i64 k]:=rfl
theorem g0B:p0u .all n m sR D sD sB k=[.int .i64 (n:Int),.int .i64 (m:Int),.int .i64 ((2 * n + m:Nat):Int),sR,.bool (a0k D).1,sD,sB,.int .i64 k]:=rfl
end
def dvV (F:RK) (D:Int) (sD:Value):Value:=F.p (.int .i64 D) (.agg #[.bool (a0k D).1,sD])
theorem a1H {F:RK} {n m p e:Nat} {sR sD sB:Value} {D k:Int} {ro:Bool} (h:a0e.blk G p=.row ro e (p0u F n m sR D sD sB k)):b0r G F.b F.w (.pointer (some ⟨p,4,none⟩))=some (dvV F D sD):=by
 cases F
 ·show b0r G false 1 _=_
  rw [s0q,h,T0Y];rfl
 ·show b0r G true 2 _=_
  rw [o0A (by decide),h,I0V];rfl
theorem B0q {a:Bool} {n:Nat} {x w:Value} (h:b0r H a n x=some w) (hx:Ext H G):b0r G a n x=some w:=by
 cases x with
 | pointer p =>
  cases p with
  | none=>exact h
  | some p =>
   simp only [b0r] at h ⊢
   split at h
   ·rename_i h1;rw [i1n h1];exact h
   ·rename_i h1
    rw [i1k h1]
    split at h
    ·cases h
    ·rename_i h2
     rw [i1k h2]
     unfold a0e.cells? at h ⊢
     cases hb:H.blk p.block with
     | dead=>rw [hb] at h;simp at h
     | row ro e cs=>rw [hx.blk hb];rw [hb] at h;exact h
 | _=>simp [b0r] at h
theorem kpV.mono {F:RK} {x w:Value} (h:kpV F H x=some w) (hx:Ext H G):kpV F G x=some w:=by
 cases F
 ·exact h
 ·exact B0q h hx
def rD:RK→a0e→Value→Int→Prop
 | .few,_,_,D=>f0G D
 | .all,H,sD,D=>Lim H sD (a0k D).2
theorem rD.mono {F:RK} {D:Int} (h:rD F H v D) (hx:Ext H G):rD F G v D:=by cases F;exact h;exact Lim.mono h hx
theorem rD.lx {F:RK} {D:Int} (h:rD F H v D) (hx:Lx H G):rD F G v D:=by cases F;exact h;exact Lim.lx h hx
structure e0N (F:RK) (fl:Nat) (H:a0e) (p n m:Nat) (L:List (List Int)) (D:Int) (bs:List Nat) (k:Int) (sR sD sB:Value) (vs:List Value):Prop where
 blk:a0e.blk H p=.row false F.T (p0u F n m sR D sD sB k)
 low:fl≤p
 d:rD F H sD D
 heads:b0d PV fl H F.S 1 sR vs
 rows:e0K F.E F.w F.P fl H vs L
 basis:b0d PK fl H e0F 1 sB bs
section
variable {F:RK} {p n m i j:Nat} {L:List (List Int)} {k D x:Int} {bs:List Nat} {sR sD sB:Value} {vs:List Value}
theorem e0N.mono (h:e0N F fl H p n m L D bs k sR sD sB vs) (hx:Ext H G):e0N F fl G p n m L D bs k sR sD sB vs :=
 ⟨hx.blk h.blk,h.low,h.d.mono hx,h.heads.mono w0G hx,h.rows.mono V0H hx,h.basis.mono w0F hx⟩
theorem e0N.store (h:e0N F fl H p n m L D bs k sR sD sB vs) (hi:i < L.length) (hj:j < L[i].length) {w:Value} (hx:rV F H w x) :
  ∃ G,f0g fl H F.w (adr F.w (vs[i]'(by have:=h.rows.len;omega)) j) w=some G∧e0N F fl G p n m (L.set i (L[i].set j x)) D bs k sR sD sB vs∧Frm F.T F.E H G∧d0l (slB (vs[i]'(by have:=h.rows.len;omega))) H G:=by
 obtain ⟨G,h1,h2,h3,h4⟩:=h.rows.store V0H hi hj (w:=w) (x:=x) hx.st.1 hx.st.2.1 hx.st.2.2
 have hr:=h.rows.own i hi
 have hne:=hr.ne h.blk (by cases F <;> decide)
 exact ⟨G,h1,⟨(h3.2 _ (a0i h.blk) hne).trans h.blk,h.low,h.d.lx h4,h.heads.lxm (hr.lxT (by cases F <;> decide) h3) (fun _ _ h=>h),h2,h.basis.lxm (hr.lxT (by cases F <;> decide) h3) (fun _ _ h=>h)⟩,⟨h3.1,fun e _ he _=>hr.lxT he.symm h3⟩,h3⟩
theorem e0N.head (h:e0N F fl H p n m L D bs k sR sD sB vs) (hi:i < L.length) :
  b0r H false 1 (adr 1 sR i)=some (vs[i]'(by have:=h.rows.len;omega)):=by
 have hl:=h.rows.len
 obtain ⟨w,h1,h2⟩:=h.heads.sls.load1 (j:=i) (by omega)
 rw [h1]
 have:[w]=[vs[i]'(by omega)]:=h2
 simpa using this
theorem e0N.hia (h:e0N F fl H p n m L D bs k sR sD sB vs) (hi:i < L.length):iaV 1 sR (.int .i64 i)=some (adr 1 sR i):=h.heads.sls.ia (by have:=h.rows.len;omega)
theorem e0N.ia (h:e0N F fl H p n m L D bs k sR sD sB vs) (hi:i < L.length) (hj:j < L[i].length):iaV F.w (vs[i]'(by have:=h.rows.len;omega)) (.int .i64 j)=some (adr F.w (vs[i]'(by have:=h.rows.len;omega)) j):=(h.rows.own i hi).sls.ia hj
theorem e0N.num (h:e0N F fl H p n m L D bs k sR sD sB vs) (hi:i < L.length) (hj:j < L[i].length) :
  ∃ w,b0r H F.b F.w (adr F.w (vs[i]'(by have:=h.rows.len;omega)) j)=some w∧rV F H w (Tf L i j):=by
 rw [J0H hi hj]
 cases F
 ·obtain ⟨w,h1,h2,h3⟩:=(h.rows.own i hi).sls.load1 (j:=j) hj;exact ⟨w,h1,by simpa using h2,h3⟩
 ·obtain ⟨cs,h1,_,h3⟩:=Sls.load (h.rows.own i hi).sls (j:=j) hj (by decide);exact ⟨_,h1,h3⟩
theorem e0N.base (h:e0N F fl H p n m L D bs k sR sD sB vs) (hi:i < bs.length):b0r H false 1 (adr 1 sB i)=some (.int .i64 (bf bs i:Int))∧iaV 1 sB (.int .i64 i)=some (adr 1 sB i):=by
 obtain ⟨w,h1,h2⟩:=h.basis.sls.load1 (j:=i) hi
 rw [h1,e1d hi]
 have:[w]=[.int .i64 (bs[i]:Int)]:=h2
 exact ⟨by simpa using this,h.basis.sls.ia hi⟩
theorem e0N.cell (h:e0N F fl H p n m L D bs k sR sD sB vs) (hi:i < L.length) (hj:j < L[i].length) :
  ∃ vi w,vi=vs[i]'(by have:=h.rows.len;omega)∧b0r H false 1 (adr 1 sR i)=some vi∧iaV 1 sR (.int .i64 i)=some (adr 1 sR i)∧iaV F.w vi (.int .i64 j)=some (adr F.w vi j)∧b0r H F.b F.w (adr F.w vi j)=some w∧rV F H w (Tf L i j):=by
 obtain ⟨w,h1,h2⟩:=h.num hi hj
 exact ⟨_,w,rfl,h.head hi,h.hia hi,h.ia hi hj,h1,h2⟩
theorem e0N.dv (h:e0N F fl H p n m L D bs k sR sD sB vs):rV F H (dvV F D sD) D:=by
 have:=h.d
 cases F
 ·exact ⟨rfl,this⟩
 ·exact ⟨sD,rfl,this⟩
end
end
end Go.Proofs.YtilekhkgobmolaaGreat.AI
