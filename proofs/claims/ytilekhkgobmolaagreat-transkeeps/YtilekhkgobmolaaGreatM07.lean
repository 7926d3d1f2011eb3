/- Part 8 of the proof. -/
import Derived.Deep.Slices
import Derived.ProofKit
import Derived.OpenShut
import Derived.Test.YtilekhkgobmolaaGreatRows
import Derived.Test.YtilekhkgobmolaaGreatM06
set_option linter.unusedVariables false
set_option linter.unusedSimpArgs false
set_option linter.unusedSectionVars false
set_option maxHeartbeats 4000000
namespace Go.Proofs.YtilekhkgobmolaaGreat.AI
open Go
section
variable {fl:Nat} {H G:a0f} {R:a0D} {v w u:Value}
theorem y0X.lx2 {l:List Int} (h:Sls PI H a0a 2 v l) (e:LxT a0a H G) (j:Lx H G):Sls PI G a0a 2 v l:=by
 obtain ⟨cs,⟨s,hs⟩,hp⟩:=h
 refine ⟨cs,⟨s,?_⟩,fun k q=>b0g.lx (hp k q) j⟩
 rcases hs with hs | ⟨b,off,cap,ro,cells,rfl,hb,ho,c⟩
 ·exact .inl hs
 ·exact .inr ⟨b,off,cap,ro,cells,rfl,e _ _ _ hb,ho,c⟩
structure ScT where
 n:Int
 A:List (List Int)
 bs:List Rat
 C:List Int
 cb:Rat
def PIs (H:a0f) (cs:List Value) (l:List Int):Prop:=∃ w,cs=[w]/\Sls PI H a0a 2 w l
theorem q0H:i0U PIs:=fun _ _ _ _ h ⟨v,c,e⟩=>⟨v,c,e.mo d0t h⟩
def SV (H:a0f) (v:Value) (p:ScT):Prop:=∃ sA sB sC s1 s2,v=.agg #[.int .i64 p.n,sA,sB,sC,.bool (a0e p.cb).1.1,s1,.bool (a0e p.cb).2.1,s2] /\
 Sls PIs H b0i 1 sA p.A/\b0r H sB (p.bs.map a0e)/\Sls PI H a0a 2 sC p.C/\Lim H s1 (a0e p.cb).1.2/\Lim H s2 (a0e p.cb).2.2
theorem Whole.mo {xs:List Rat} {e:List Int} {b:Rat} {K K':Nat} (h:Whole xs e b K) (c:K<=K'):Whole xs e b K' :=
 ⟨h.len,h.pos,h.eq,fun z j=>k1H (h.szz z j) c,k1H h.szb c⟩
def k0R (p:LPt) (k:Nat):List Rat:=(p.A.getD k []).map b0t ++ [b0t (p.B.getD k c0z)]
def Z0O (H:a0f) (P:Nat) (p:LPt) (sA0 sB0 sC0:Value) (K:Nat) (i:Nat) (ρ:Nat->Value) (G:a0f):Prop :=
 ρ 12=sA0/\ρ 1=.pointer (some ⟨H.size,0,none⟩)/\ρ 2=.pointer (some ⟨H.size + 1,0,none⟩)/\ρ 3=.pointer (some ⟨P,0,none⟩)/\Ext H G /\
  a0f.bk G H.size=.row false b0M [.int .i64 p.n,sA0,sB0,sC0] /\
  a0f.bk G (H.size + 1)=.row false a0Q [.int .i64 0,.slice none 0 0,.slice none 0 0,.slice none 0 0,.bool false,.slice none 0 0,.bool false,.slice none 0 0] /\
  ∃ (sA sB:Value) (L:List (List Int)) (bs:List Rat),a0f.bk G P=.row false a0Q [.int .i64 p.n,sA,sB,.slice none 0 0,.bool false,.slice none 0 0,.bool false,.slice none 0 0] /\
   b0d PIs H.size G b0i 1 sA L/\b0d PR H.size G a0b 4 sB (bs.map a0e)/\L.length=i/\bs.length=i /\
   ∀ k,k < i->Whole (k0R p k) (L.getD k []) (bs.getD k 0) K
theorem k0g {S N K:Nat} {p:LPt} (h:LPV H v p) (hf:fl<=H.size) (hA:∀ r ∈ p.A,Few S r/\r.length<=N) (hB:Few S p.B) (f7:p.B.length=p.A.length) (hC:Few S p.C) (f8:p.C.length<=N) (f6:p.A.length < 67108864)
  (hS:1<=S) (hK:K=(N + 3) * (S + 1)) (f9:K < 67108864) :
  a0O env fl b1m [v] H (fun r H'=>(∃ q:ScT,SV H' r q/\q.n=p.n/\q.A.length=p.A.length/\q.bs.length=p.A.length/\(∀ k,k < p.A.length->Whole (k0R p k) (q.A.getD k []) (q.bs.getD k 0) K)/\Whole (p.C.map b0t) q.C q.cb K)/\Ext H H') R:=by
 obtain ⟨f0,f2,f3,rfl,kA,kB,kC⟩:=h
 refine a0i j1W hf (h:=?_)
 intro ρ h0
 simp [f1b,U0u,h0,kA.cells,kB.cells,kC.cells]
 generalize hG:(H.push _).push _=G
 obtain ⟨j,b0,u⟩:=push2 hG
 have s:=Ext.refl H
 clear hG
 replace s:=s.trans j
 have hsz:=s.1
 have c4:=a0k u
 simp [U0v,b0,hsz]
 generalize hN:Array.setIfInBounds (Array.push _ _) _ _=G3
 obtain ⟨j,b2⟩:=new1 hN
 clear hN
 replace b0:=j.bk b0;replace u:=j.bk u;replace s:=s.trans j
 obtain ⟨P,hP⟩:∃ P,P=G.size:=⟨_,rfl⟩
 rw [<- hP] at b2 hsz c4 ⊢
 have c2:P ≠ H.size:=by omega
 have O:P ≠ H.size + 1:=by omega
 have g4:S < K:=by rw [hK];have:1 * (S + 1)<=(N + 3) * (S + 1):=k1E _ (by omega);omega
 have g0:N + 3<=K:=by rw [hK];have:(N + 3) * 1<=(N + 3) * (S + 1):=l1c _ (by omega);omega
 simp [U0w,b0,kA.slen]
 refine d0b (n:=p.A.length) (Z0O H P p f0 f2 f3 K) rfl rfl (by decide) (by omega) (by simp) (by simp) ?_ ?_ ?_ ?_
 ·exact ⟨by simp,by simp,by simp,by simp,s,b0,u,_,_,[],[],b2,b0d.nil,b0d.nil,rfl,rfl,fun k hk=>by omega⟩
 ·intro i ρ h6 G h hI;simpa [Z0O,h] using hI
 ·clear h0 ρ s b0 u b2 j
  rintro i ρ G hi gi gn ⟨a6,g1,g2,g3,s,b0,u,sA,sB,L,bs,b2,J,M,hL,a0,hW⟩
  have a4:=kA.mo d0u s
  have c0:=kB.mo a0K s
  obtain ⟨wr,d9,kr⟩:=e0U.load a4 hi
  simp [U0x,a6,gi,a4.ia hi,d9]
  refine c0R ?_
  simp [U0y]
  have c1:=hA _ (k1D hi)
  refine (f0G kr (by have:=s.1;omega) c1.1 (by omega) (by omega)).mo ?_
  rintro r G2 ⟨kw,U⟩
  have d3:=U.bk b0
  have d0:=c0.mo a0K U
  have a1:i < p.B.length:=by omega
  have d5:=hB _ (k1D a1)
  obtain ⟨we,d8,k0⟩:=b0r.load d0 a1
  obtain ⟨s1,s2,rfl,k1,k2⟩:=id k0
  simp [g1,d3,d0.ia a1,d8]
  have d6:=s.1
  have f4:=U.1
  refine (b0K (a:=p.B[i]) k0 (b:=c0z) f0k (by omega) (by omega) (by decide)).mo ?_
  rintro _ G3 ⟨⟨s3,s4,rfl,k3,k4⟩,a2⟩
  replace kw:=kw.mo a0K a2
  rw [f0o,m1q] at k3 k4 ⊢
  have c6:(i0n p.A[i]).length=p.A[i].length:=by unfold i0n;simp
  obtain ⟨r',G4,h1,h2,h3,h4⟩:=b0d.app (P:=PR) (sz:=4) (e:=a0b) (by decide) (fun G' cs x _ hl h=>b0L.lx h hl) (kw.low (show H.size<=G.size from d6)) (e2:=a0b) (c:=1) (bytes:=64) (new:=[.bool (a0e (b0t p.B[i])).1.1,s3,.bool (a0e (b0t p.B[i])).2.1,s4]) (x:=a0e (b0t p.B[i])) ⟨s3,s4,rfl,k3,k4⟩ rfl (by simp [k3.plain,k4.plain]) (by omega) (by omega) (by omega) (by have:=a2.1;omega)
  have c8:Ext G G4:=by
   have hh:=U.trans a2
   exact ⟨k1H hh.1 h3.1,fun b hb=>(h3.2 b (k1P hb hh.1) (fun h=>by have:=(kw.ge h).1;omega)).trans (hh.2 b hb)⟩
  simp [h1,k3.cells,k4.cells]
  have a5:i0n p.A[i] ++ [a0e (b0t p.B[i])]=(k0R p i).map a0e:=by
   unfold k0R i0n
   rw [k1v,k1v,k1A hi,k1A a1];simp
  rw [a5] at h2
  have g6:(k0R p i).length=p.A[i].length + 1:=by rw [<- c6];have:=n1E List.length a5;simpa using this.symm
  have b8:∀ x ∈ k0R p i,szR x<=S:=by
   intro x s
   unfold k0R at s
   rw [k1v,k1v,k1A hi,k1A a1] at s
   simp only [l1d,k1T,l1r,m1j] at s
   rcases s with ⟨y,hy,rfl⟩ | rfl
   ·obtain ⟨l1,l2,l3⟩:=c1.1 _ hy
    have:=b0W l2 l3;omega
   ·obtain ⟨l1,l2,l3⟩:=d5
    have:=b0W l2 l3;omega
  have b5:((k0R p i).length + 2) * (S + 1)<=K:=by rw [hK];exact k1E _ (by omega)
  refine (g0R h2.sls (by have:=c8.1;omega) b8 (by omega)).mo ?_
  rintro _ G5 ⟨⟨q1,_,I,zs,rfl,a8,hq,⟨s5,s6,rfl,Z,k6⟩⟩,b9⟩
  have c9:=c8.trans b9
  have c7:H.size<=G5.size:=by have:=c9.1;omega
  simp [Z.cells,k6.cells,Z.plain,k6.plain,c7]
  generalize hN:Array.setIfInBounds (Array.push _ _) _ _=G6
  obtain ⟨a3,b3⟩:=new1 hN
  clear hN
  replace Z:=Z.mo a3
  replace k6:=k6.mo a3
  replace hq:=hq.mo d0t a3
  have j:Ext G G6:=c9.trans a3
  replace b0:=j.bk b0;replace u:=j.bk u;replace b2:=j.bk b2;replace s:=s.trans j
  replace a4:=a4.mo d0u j
  replace c0:=c0.mo a0K j
  replace J:=J.mo q0H j
  replace M:=M.mo a0K j
  obtain ⟨Q,hQ⟩:∃ Q,Q=G5.size:=⟨_,rfl⟩
  rw [<- hQ] at b3 ⊢
  refine c0R ?_
  obtain ⟨cq,pq⟩:=hq.cells
  obtain ⟨e9,G7,h1,h2,h3,h4⟩:=b0d.app (P:=PIs) (sz:=1) (e:=b0i) (by decide)
    (fun G' cs x a2 hl ⟨w',q1,q2⟩=>⟨w',q1,y0X.lx2 q2 (J.lxT (by decide) a2) hl⟩) J (e2:=b0i) (c:=1) (bytes:=24) (new:=[q1]) (x:=zs) ⟨q1,rfl,hq.sls⟩ rfl (by simp [pq]) (by omega) (by omega) (by omega) s.1
  obtain ⟨_,_,f5⟩:=e0D (by decide) h1
  have b4:=J.lx (by decide) h3
  have e4:=J.ne b0 (by decide)
  have e5:=J.ne u (by decide)
  have d1:=J.ne b2 (by decide)
  have d2:=J.ne b3 (by decide)
  have d4:=J.blkOf
  simp [U0z,g3,b2,cq,h1]
  replace b0:=(h3.2 _ (a0k b0) e4).trans b0
  replace u:=(h3.2 _ (a0k u) e5).trans u
  replace b2:=(h3.2 _ (a0k b2) d1).trans b2
  replace b3:=(h3.2 _ (a0k b3) d2).trans b3
  replace s:=h4 _ (k1x _) s
  replace Z:=Z.lx b4
  replace k6:=k6.lx b4
  replace M:=M.lxm (Q':=PR) (J.lxT (by decide) h3) (fun cs x h=>b0L.lx h b4)
  simp [b2,b3]
  have g5:(bs.map a0e).length=i:=by simp [a0]
  obtain ⟨f1,G8,p1,p2,p3,p4⟩:=b0d.app (P:=PR) (sz:=4) (e:=a0b) (by decide) (fun G' cs x _ hl h=>b0L.lx h hl) M (e2:=a0b) (c:=1) (bytes:=64) (new:=[.bool (a0e I).1.1,s5,.bool (a0e I).2.1,s6]) (x:=a0e I) ⟨s5,s6,rfl,Z,k6⟩ rfl (by simp [Z.plain,k6.plain]) (by omega) (by omega) (by omega) s.1
  have e0:=M.lx (by decide) p3
  have e6:=M.ne b0 (by decide)
  have e7:=M.ne u (by decide)
  have e8:=M.ne b2 (by decide)
  replace h2:=h2.lxm (Q':=PIs) (M.lxT (by decide) p3) (fun cs x ⟨w',q1,q2⟩=>⟨w',q1,y0X.lx2 q2 (M.lxT (by decide) p3) e0⟩)
  replace b0:=(p3.2 _ (a0k b0) e6).trans b0
  replace u:=(p3.2 _ (a0k u) e7).trans u
  replace b2:=(p3.2 _ (a0k b2) e8).trans b2
  replace s:=p4 _ (k1x _) s
  obtain ⟨cA,pA⟩:=h2.cells
  obtain ⟨cB,pB⟩:=p2.cells
  have hz:=a0k b2
  simp [p1,b2,cA,pA,cB,pB,hsz,hz]
  generalize F:Array.setIfInBounds _ _ _=G9
  have t1:∀ {e:Nat},a0Q ≠ e->LxT e G8 G9:=fun z=>b0f F b2 z
  have c5:∀ x,x ∈ blkW sA->slB sA=some x:=by
   rcases d4 with h | ⟨b,h,h'⟩
   ·rw [h];simp
   ·rw [h,h'];simp
  refine ⟨⟨fun x s h=>d1 (by rw [c5 x s,h]),fun x s h=>d2 (by rw [c5 x s,h])⟩,Rnd.mk (by simp [gi]) (by simp [gn]) ⟨by simp [a6],by simp [g1],by simp [g2],by simp [g3],a0I F s hsz,a0o F b0 c2,a0o F u O,e9,f1,L ++ [zs],bs ++ [I],a0r F b2,?_,?_,by simp [hL],by simp [a0],fun k hk=>?_⟩⟩
  ·exact h2.lxm (t1 (by decide)) (fun cs x ⟨w',q1,q2⟩=>⟨w',q1,y0X.lx2 q2 (t1 (by decide)) (t1 (by decide))⟩)
  ·rw [n1c];exact p2.lxm (t1 (by decide)) (fun cs x h=>b0L.lx h (t1 (by decide)))
  ·by_cases a9:k=i
   ·have e1:(L ++ [zs]).getD k []=zs:=by rw [a9,<- hL];simp [k1v]
    have e2:(bs ++ [I]).getD k 0=I:=by rw [a9,<- a0];simp [k1v]
    rw [e1,e2,a9];exact a8.mo b5
   ·have e1:(L ++ [zs]).getD k []=L.getD k []:=by rw [k1v,l1i (by omega),k1v]
    have e2:(bs ++ [I]).getD k 0=bs.getD k 0:=by rw [k1v,l1i (by omega),k1v]
    rw [e1,e2];exact hW k (by omega)
 ·clear h0 ρ s b0 u b2 j
  rintro ρ G gi gn ⟨a6,g1,g2,g3,s,b0,u,sA,sB,L,bs,b2,J,M,hL,a0,hW⟩
  have e3:=kC.mo a0K s
  simp [U0A,g1,b0]
  refine (f0G e3 s.1 hC (by omega) (by omega)).mo ?_
  rintro r G2 ⟨kw,U⟩
  have d7:i0n p.C=(p.C.map b0t).map a0e:=by unfold i0n;simp
  rw [d7] at kw
  have b8:∀ x ∈ p.C.map b0t,szR x<=S:=by
   intro x s
   simp only [l1r] at s
   obtain ⟨y,hy,rfl⟩:=s
   obtain ⟨l1,l2,l3⟩:=hC _ hy
   have:=b0W l2 l3;omega
  have b5:((p.C.map b0t).length + 2) * (S + 1)<=K:=by rw [hK,l1w];exact k1E _ (by omega)
  simp
  refine (g0R kw.sls (by have:=U.1;have:=s.1;omega) b8 (by omega)).mo ?_
  rintro _ G5 ⟨⟨q1,_,I,zs,rfl,a8,hq,⟨s5,s6,rfl,Z,k6⟩⟩,b9⟩
  have j:Ext G G5:=U.trans b9
  replace u:=j.bk u;replace b2:=j.bk b2;replace s:=s.trans j
  replace J:=J.mo q0H j
  replace M:=M.mo a0K j
  obtain ⟨cq,pq⟩:=hq.cells
  obtain ⟨cA,pA⟩:=J.cells
  obtain ⟨cB,pB⟩:=M.cells
  have g7:=a0k u
  have g8:=a0k b2
  simp [g3,g2,b2,cq,pq,Z.cells,Z.plain,k6.cells,k6.plain,hsz]
  generalize F:Array.setIfInBounds _ _ _=G6
  have t1:∀ {e:Nat},a0Q ≠ e->LxT e G5 G6:=fun z=>b0f F b2 z
  replace u:=a0o F u O
  replace b2:=a0r F b2
  replace s:=a0I F s hsz
  have g9:=a0k b2
  simp [b2,hsz]
  generalize a7:Array.setIfInBounds _ _ _=G7
  have t2:∀ {e:Nat},a0Q ≠ e->LxT e G6 G7:=fun z=>b0f a7 b2 z
  replace u:=a0o a7 u O
  replace b2:=a0r a7 b2
  have h5:=a0k u
  simp [U0B,g2,g3,u,b2,cA,pA,cB,pB,cq,pq,Z.cells,Z.plain,k6.cells,k6.plain]
  generalize c3:Array.setIfInBounds _ _ _=G8
  have t3:∀ {e:Nat},a0Q ≠ e->LxT e G7 G8:=fun z=>b0f c3 u z
  have t:∀ {e:Nat},a0Q ≠ e->LxT e G5 G8:=fun z b ro cs hb=>t3 z _ _ _ (t2 z _ _ _ (t1 z _ _ _ hb))
  replace u:=a0r c3 u
  simp [u]
  refine fun _=>⟨⟨p.n,L,bs,zs,I⟩,⟨sA,sB,q1,s5,s6,rfl,?_,?_,?_,Z.lx (t (by decide)),k6.lx (t (by decide))⟩,rfl,hL,a0,fun k hk=>?_,a8.mo b5⟩
  ·exact (J.lxm (Q':=PIs) (t (by decide)) (fun cs x ⟨w',q1,q2⟩=>⟨w',q1,y0X.lx2 q2 (t (by decide)) (t (by decide))⟩)).sls
  ·exact b0r.lx2 M.sls (t (by decide)) (t (by decide))
  ·exact y0X.lx2 hq.sls (t (by decide)) (t (by decide))
  ·have:=hW k hk
   rwa [k1v,k1v] at this
end
section
variable {E:Env} {fl:Nat} {t:b0c} {H:a0f} {Q:e0c} {R:a0D}
def WRP (E:Env) (fl:Nat) (bef:List Nat) (pairs:List (Nat × Nat)) (Z:b0c->a0f->Prop) (R:a0D):Nat->List a0J->b0c->a0f->Option (Nat × Value)->Log->Prop
 | _,[],t,H,p,lg=>d0a lg.reverse pairs=true/\(match p with | none=>Z t H | some (_,v)=>R v)
 | i,o :: r,t,H,p,lg=>if h0r bef i p=true then WRP E fl bef pairs Z R (i + 1) r t H p (([],[]) :: lg) else
  if b0k t o.g then WS E fl t H o.op (fun v H'=>WRP E fl bef pairs Z R (i + 1) r (put t o.dst v) H' p (d0m t o.op :: lg)) (fun v=>p=none/\WRP E fl bef pairs Z R (i + 1) r t H (some (i,v)) (([],[]) :: lg))
  else WRP E fl bef pairs Z R (i + 1) r (put t o.dst undef) H p (([],[]) :: lg)
theorem j0v (bef:List Nat) (pairs:List (Nat × Nat)) {Z:b0c->a0f->Prop}:∀ (ops:List a0J) (i:Nat) (t:b0c) (H:a0f) (p:Option (Nat × Value)) (k:Log),
  WRP E fl bef pairs Z R i ops t H p k->∃ n,k0L (fun e t H=>e=.normal/\Z t H) R (b0V (b0q E n) fl bef pairs i ops t H p k)
 | [],i,t,H,p,k,h=>by
  refine ⟨0,?_⟩
  simp only [b0V];rw [k1B h.1]
  cases p with
  | none=>exact ⟨rfl,h.2⟩
  | some q=>exact h.2
 | o :: r,i,t,H,p,k,h=>by
  simp only [WRP] at h
  split at h
  ·rename_i u
   obtain ⟨n,j⟩:=j0v bef pairs r (i + 1) _ _ _ _ h
   exact ⟨n,by simp only [b0V];rw [k1B u];exact j⟩
  ·rename_i u
   split at h
   ·rename_i F
    obtain ⟨n,j⟩:=A0S h
    have x:∀ (m:Nat) (z:b0c) (s:a0f) (y:Option (Nat × Value)) (lg2:Log),k0L (fun e t H=>e=.normal/\Z t H) R (b0V (b0q E m) fl bef pairs (i + 1) r z s y lg2) ->
      b0V (b0q E (max n m)) fl bef pairs (i + 1) r z s y lg2=b0V (b0q E m) fl bef pairs (i + 1) r z s y lg2:=fun m z s y lg2 c =>
     d0q (a0P E m (max n m) (by omega)) (k1x fl) bef pairs r (i + 1) z s y lg2 (by intro hb;rw [hb] at c;exact c)
    have G:∀ m,b0E (b0q E n) fl t H o.op ≠ .bad->b0E (b0q E (max n m)) fl t H o.op=b0E (b0q E n) fl t H o.op:=fun m hb=>g0c (a0P E n (max n m) (by omega)) (k1x fl) (t:=t) (H:=H) (so:=o.op) hb
    cases hs:b0E (b0q E n) fl t H o.op with
    | bad=>rw [hs] at j;exact k1Q j id
    | pan v =>
     rw [hs] at j
     obtain ⟨rfl,j⟩:=j
     obtain ⟨m,c⟩:=j0v bef pairs r (i + 1) _ _ _ _ j
     refine ⟨max n m,?_⟩
     simp only [b0V]
     rw [k1y u,k1B F,G m (by rw [hs];simp),hs]
     simp only []
     rw [x m _ _ _ _ c];exact c
    | ok rr =>
     obtain ⟨v,H'⟩:=rr
     rw [hs] at j
     obtain ⟨m,c⟩:=j0v bef pairs r (i + 1) _ _ _ _ j
     refine ⟨max n m,?_⟩
     simp only [b0V]
     rw [k1y u,k1B F,G m (by rw [hs];simp),hs]
     simp only []
     rw [x m _ _ _ _ c];exact c
   ·rename_i F
    obtain ⟨m,c⟩:=j0v bef pairs r (i + 1) _ _ _ _ h
    exact ⟨m,by simp only [b0V];rw [k1y u,k1y F];exact c⟩
theorem m0i {ops:List a0J} {bef:List Nat} {pairs:List (Nat × Nat)} (h:WRP E fl bef pairs (fun t H=>Q .normal t H) R 0 ops t H none []):W E fl (.draw ops bef pairs) t H Q R:=by
 obtain ⟨n,c⟩:=j0v bef pairs ops 0 t H none [] h
 refine ⟨n + 1,?_⟩
 have j:=d0q (a0P E n (n+1) (by omega)) (k1x fl) bef pairs ops 0 t H none [] (by intro hb;rw [hb] at c;exact c)
 simp only [b0h,j]
 cases hd:b0V (b0q E n) fl bef pairs 0 ops t H none [] with
 | bad=>rw [hd] at c;exact c
 | pan v=>rw [hd] at c;exact c
 | fin e t' H'=>rw [hd] at c;obtain ⟨rfl,c⟩:=c;exact c
section
variable {bef:List Nat} {pairs:List (Nat × Nat)} {Z:b0c->a0f->Prop} {lg lg2:Log} {d:Option Nat} {op:SOp} {r:List a0J} {i j:Nat} {v:Value} {x:Opd} {K:o0d}
@[simp ↓] theorem f1x:WRP E fl bef pairs Z R i [] t H none lg=(d0a lg.reverse pairs=true/\Z t H):=nr rfl
@[simp ↓] theorem d1k:WRP E fl bef pairs Z R i [] t H (some (j,v)) lg=(d0a lg.reverse pairs=true/\R v):=nr rfl
@[simp ↓] theorem d1j:WRP E fl bef pairs Z R i (⟨d,none,op⟩ :: r) t H none lg =
  WS E fl t H op (fun v H'=>WRP E fl bef pairs Z R (i + 1) r (put t d v) H' none (d0m t op :: lg)) (fun v=>WRP E fl bef pairs Z R (i + 1) r t H (some (i,v)) (([],[]) :: lg)):=by
 simp [WRP,b0k,h0r]
@[simp ↓] theorem Z0T:WRP E fl bef pairs Z R i (⟨d,none,op⟩ :: r) t H (some (j,v)) lg =
  if (bef.getD i 0).testBit j=true then WRP E fl bef pairs Z R (i + 1) r t H (some (j,v)) (([],[]) :: lg) else
  WS E fl t H op (fun w H'=>WRP E fl bef pairs Z R (i + 1) r (put t d w) H' (some (j,v)) (d0m t op :: lg)) (fun _=>False):=by
 simp [WRP,b0k,h0r]
theorem A0P {t':b0c} {ops:List a0J} {p:Option (Nat × Value)} (h:t=t'):WRP E fl bef pairs Z R i ops t H p lg=WRP E fl bef pairs Z R i ops t' H p lg:=by rw [h]
attribute [congr] A0P
def W0f (E:Env) (fl fl':Nat) (bef:List Nat) (pairs:List (Nat × Nat)) (Z:b0c->a0f->Prop) (R:a0D) (i j:Nat) (f:FuncId) (args:List Value) (H:a0f) (d:Option Nat) (r:List a0J) (t:b0c) (lg lg2:Log):Prop :=
 a0O E fl' f args H (fun v H'=>WRP E fl bef pairs Z R j r (put t d v) H' none lg) (fun v=>WRP E fl bef pairs Z R j r t H (some (i,v)) lg2)
@[simp ↓ high] theorem d1n {f:FuncId} {c:List Opd} {lone:Bool} :
  WS E fl t H (.call f c lone) (fun v H'=>WRP E fl bef pairs Z R j r (put t d v) H' none lg) (fun v=>WRP E fl bef pairs Z R j r t H (some (i,v)) lg2) =
   W0f E fl (if lone then fl else max fl H.size) bef pairs Z R i j f (c.map (ev t)) H d r t lg lg2:=nr rfl
theorem u0f {fl' e:Nat} {f:FuncId} {k c:List Value} {t':b0c} (h:k=c) (s:t=t') (q:fl' = e) :
  W0f E fl fl' bef pairs Z R i j f k H d r t lg lg2=W0f E fl e bef pairs Z R i j f c H d r t' lg lg2:=by rw [h,s,q]
attribute [congr] u0f
def h1I (tbl:List (TypeId × FuncId)):Value->Option (FuncId × Value)
 | .iface ty v=>match tbl.lookup ty with | some f=>some (f,v) | none=>none
 | _=>none
@[simp] theorem Z0t {e:TypeId} {c:List (TypeId × FuncId)}:h1I c (.iface e v)=match c.lookup e with | some f=>some (f,v) | none=>none:=nr rfl
@[simp ↓] theorem i1f {c:List (TypeId × FuncId)} {e:List Opd} {lone:Bool}:WS E fl t H (.inv x c e lone) K R=oo (h1I c (ev t x)) fun q=>WS E fl t H (.call q.1 (.const q.2 :: e) lone) K R:=by
 simp only [WS,opA];generalize ev t x=y
 cases y <;> simp only [h1I,u0Q]
 rename_i h v
 cases c.lookup h <;> simp
def d1C (e b:Nat):Blk->Option Value
 | .row false e' _=>if e' = e then some (.pointer (some ⟨b,0,none⟩)) else none
 | _=>none
@[simp] theorem d1D {e e' b:Nat} {cs:List Value}:d1C e b (.row false e' cs)=if e' = e then some (.pointer (some ⟨b,0,none⟩)) else none:=nr rfl
def b1s (H:a0f) (e:Nat):Value->Option Value
 | .pointer (some p)=>if p.spot.isSome=false/\p.off=0 then d1C e p.block (H.bk p.block) else none
 | _=>none
@[simp] theorem d1E {e b:Nat}:b1s H e (.pointer (some ⟨b,0,none⟩))=d1C e b (H.bk b):=by simp [b1s]
@[simp ↓] theorem i1e {e:TypeId}:WS E fl t H (.fa0 e x) K R=oo (b1s H e (ev t x)) fun v=>K v H:=by
 simp only [WS,opA];generalize ev t x=y
 cases y <;> simp only [b1s,u0Q]
 rename_i p;cases p <;> simp only [b1s,u0Q]
 rename_i q
 cases hb:a0f.bk H q.block <;> simp [d1C]
 rename_i ro e' cs
 cases ro
 ·by_cases c:q.spot=none <;> by_cases h:e' = e <;> by_cases j:q.off=0 <;> simp [c,h,j]
 ·simp
end
attribute [simp ↓] Z0Y
@[simp] theorem Z0v {G:a0f} {a:Addr}:b0v G true 0 (.pointer (some a))=some (.agg #[]):=nr rfl
@[simp] theorem d1z {a:Addr}:g1n (.pointer (some a))=some (.pointer (some a)):=nr rfl
@[simp] theorem Y0G {n j:Nat}:n.testBit j=decide (n / 2 ^ j % 2=1):=Nat.testBit_eq_decide_div_mod_eq
theorem z0J {a b:FuncId}:List.lookup a0n [(a0m,a),(a0n,b)]=some b:=by simp [List.lookup];rfl
theorem z0I {a b:FuncId}:List.lookup a0m [(a0m,a),(a0n,b)]=some a:=by simp [List.lookup]
attribute [simp] z0J z0I
def PF (_:a0f) (cs:List Value) (z:Int):Prop:=cs=[.int .i64 z]/\f0M z
theorem b1F:i0U PF:=fun _ _ _ _ _ h=>h
theorem q0w {a b:Int} {p:Nat} {cs:List Value} (y:fl<=H.size) (hb:a0f.bk H p=.row false a0d cs) (x:f0M a) (k:f0M b) (hR:R w0C) :
  a0O env fl z0t [.pointer (some ⟨p,0,none⟩),.int .i64 a,.int .i64 b] H (fun r H'=>(r=.int .i64 (a - b)/\f0M (a - b))/\Ext H H') R:=by
 refine a0i h1d y (h:=?_)
 intro ρ e
 simp [N0e,G0C,e]
 refine m0i ?_
 simp [G0D,e,hb]
 refine (c0C (n:=1) (by omega) (by omega) (by omega)).mo ?_
 rintro _ G ⟨F,q⟩
 simp
 have v:lz 1 < 1073741824:=by rw [g0O];omega
 refine (m0A F (by have:=q.1;omega) v (by simp;exact hR)).mo ?_
 rintro _ I ⟨⟨rfl,_⟩,c⟩
 have j:=(q.trans c).bk hb
 have hsz:=(q.trans c).1
 simp [G0E,e,j]
 have s:f0M 1:=by unfold f0M;omega
 refine (j0E (by omega) x s k s (by decide) hR).mo ?_
 rintro _ G3 ⟨⟨rfl,h⟩,z⟩
 have u:(a * 1 - b * 1).tdiv 1=a - b:=by simp
 rw [u] at h ⊢
 simp [h]
theorem q0i {a b:Int} {p:Nat} {cs:List Value} {O U:Value} (hf:fl<=H.size) (hb:a0f.bk H p=.row false a0c cs) (ha:b0g H O (a0g a)) (F:b0g H U (a0g b)) (la:lz a < 67108864) (lb:lz b < 67108864) :
  a0O env fl z0r [.pointer (some ⟨p,0,none⟩),O,U] H (fun r H'=>b0g H' r (a0g (a - b))/\Ext H H') R:=by
 refine a0i g1S hf (h:=?_)
 intro ρ z
 obtain ⟨M,rfl,q⟩:=id ha
 obtain ⟨N,rfl,s⟩:=id F
 simp [M0U,F0A,z,q.cells,q.plain,s.cells,s.plain]
 generalize x:((H.push _).push _).push _=G
 have j:Ext H G:=by rw [<- x];exact (Ext.refl H).push.push.push
 have b0:a0f.bk G H.size=.row false a0a [.bool (a0g a).1,M]:=by rw [<- x];simp
 have u:a0f.bk G (H.size + 1)=.row false a0a [.bool (a0g b).1,N]:=by rw [<- x];simp
 have b2:a0f.bk G (H.size + 2)=.row false a0a [.bool false,.slice none 0 0]:=by rw [<- x];simp
 have b3:=hb
 have k:=Ext.refl H
 clear x
 replace b3:=j.bk b3;replace k:=k.trans j;replace q:=q.mo j;replace s:=s.mo j
 refine a0C ?_
 simp [F0B,z,b3]
 refine (c0C (n:=1) (by have:=k.1;omega) (by omega) (by omega)).mo ?_
 rintro _ G2 ⟨k2,j⟩
 replace b0:=j.bk b0;replace u:=j.bk u;replace b2:=j.bk b2;replace b3:=j.bk b3;replace k:=k.trans j;replace q:=q.mo j;replace s:=s.mo j
 simp
 refine (i0W k2 (by have:=k.1;omega)).mo ?_
 rintro _ G3 ⟨⟨I,rfl,v⟩,j⟩
 replace b0:=j.bk b0;replace u:=j.bk u;replace b2:=j.bk b2;replace b3:=j.bk b3;replace k:=k.trans j;replace q:=q.mo j;replace s:=s.mo j
 have hsz:=k.1
 simp [v.cells,v.plain,hsz]
 generalize J:Array.setIfInBounds (Array.push _ _) _ _=G4
 obtain ⟨j,b4⟩:=new1 J
 clear J
 replace b0:=j.bk b0;replace u:=j.bk u;replace b2:=j.bk b2;replace b3:=j.bk b3;replace k:=k.trans j;replace q:=q.mo j;replace s:=s.mo j;replace v:=v.mo j
 refine a0C ?_
 simp [F0C,z,b0,u,b3,b4]
 have l1:lz 1=1:=g0O
 refine (j0x (a:=a) (b:=1) (c:=b) (d:=1) (e:=1) ⟨M,rfl,q⟩ ⟨I,rfl,v⟩ ⟨N,rfl,s⟩ ⟨I,rfl,v⟩ ⟨I,rfl,v⟩ (by have:=k.1;omega) la (by omega) lb (by omega) (by omega) (by decide)).mo ?_
 rintro _ Z ⟨⟨s5,rfl,y⟩,j⟩
 replace b2:=j.bk b2;replace k:=k.trans j
 have e1:(a * 1 - b * 1).tdiv 1=a - b:=by simp
 rw [e1] at y ⊢
 have hz:=a0k b2
 simp [b2,y.cells,y.plain]
 generalize L:Array.setIfInBounds _ _ _=G6
 have hl:Lx Z G6:=b0f L b2 (by decide)
 have b8:=a0r L b2
 simp [b8]
 exact fun _=>⟨s5,rfl,y.lx hl⟩
end
section
variable {fl:Nat} {H G:a0f} {R:a0D} {v w u:Value}
theorem o0s {x D:Int} {p:Nat} {Z c1 c2 c3:Value} {cs:List Value} (hf:fl<=H.size) (hb:a0f.bk H p=.row false a0d (Z :: c1 :: c2 :: c3 :: .int .i64 D :: cs)) (s:f0M x) (F:f0M D) (v:D ≠ 0) :
  a0O env fl s0D [.pointer (some ⟨p,0,none⟩),.int .i64 x] H (fun r H'=>b0L H' r (a0e (Rat.divInt x D))/\Ext H H') R:=by
 refine a0i h1g hf (h:=?_)
 intro ρ u
 simp [N0g,G0M,u]
 generalize I:H.push _=G
 obtain ⟨c,b2⟩:=g0e I
 have q:=hb
 have e:=Ext.refl H
 clear I
 replace q:=c.bk q;replace e:=e.trans c
 have O:∀ z,f0M z->lz z < 536870912:=fun z N=>by
  have:lz z<=1:=q0G (by obtain ⟨h1,h2⟩:=N;omega)
  omega
 refine a0C ?_
 simp [G0N,u,q]
 refine (l0h (by have:=e.1;omega) s).mo ?_
 rintro _ G2 ⟨y,c⟩
 replace q:=c.bk q;replace b2:=c.bk b2;replace e:=e.trans c
 simp [u,q]
 refine (l0h (by have:=e.1;omega) F).mo ?_
 rintro _ G3 ⟨k1,c⟩
 replace b2:=c.bk b2;replace e:=e.trans c;replace y:=y.mo c
 simp
 refine (d0X y k1 (by have:=e.1;omega) (by rw [a0j];exact O _ s) (by rw [a0j];exact O _ F) (by rw [a0h];exact v)).mo ?_
 rintro _ G4 ⟨⟨_,rfl,s3,s4,rfl,j,k⟩,c⟩
 replace b2:=c.bk b2;replace e:=e.trans c
 rw [a0h,a0h] at j k ⊢
 have hsz:=e.1
 simp [j.cells,j.plain,k.cells,k.plain,hsz]
 generalize J:Array.setIfInBounds (Array.push _ _) _ _=G5
 obtain ⟨c,b3⟩:=new1 J
 clear J
 replace b2:=c.bk b2;replace e:=e.trans c;replace j:=j.mo c;replace k:=k.mo c
 have N:=a0k b2
 simp [G0O,b3,b2,j.cells,j.plain,k.cells,k.plain]
 generalize L:Array.setIfInBounds _ _ _=G6
 have M:Lx G5 G6:=b0f L b2 (by decide)
 have U:=a0r L b2
 simp [U]
 exact fun _=>⟨s3,s4,by simp [Rat.divInt],by simpa using j.lx M,by simpa using k.lx M⟩
theorem o0h {x D:Int} {p:Nat} {O U Z c3 M sD:Value} {cs:List Value} (hf:fl<=H.size) (hb:a0f.bk H p=.row false a0c (O :: U :: Z :: c3 :: .bool (a0g D).1 :: sD :: cs)) (kD:Lim H sD (a0g D).2) (kx:b0g H M (a0g x)) (lx:lz x < 67108864) (lD:lz D < 67108864) (y:D ≠ 0) :
  a0O env fl s0C [.pointer (some ⟨p,0,none⟩),M] H (fun r H'=>b0L H' r (a0e (Rat.divInt x D))/\Ext H H') R:=by
 refine a0i g1V hf (h:=?_)
 intro ρ v
 obtain ⟨s0,rfl,s⟩:=id kx
 simp [M0X,F0N,v,s.cells,s.plain]
 generalize F:(H.push _).push _=G
 obtain ⟨c,b0,b2⟩:=push2 F
 have q:=hb
 have u:=kD
 have e:=Ext.refl H
 clear F
 replace q:=c.bk q;replace e:=e.trans c;replace s:=s.mo c;replace u:=u.mo c
 refine a0C ?_
 simp [F0O,v,q,b0]
 refine (l0e (a:=x) ⟨s0,rfl,s⟩ (by have:=e.1;omega)).mo ?_
 rintro _ G2 ⟨z,c⟩
 replace q:=c.bk q;replace b2:=c.bk b2;replace e:=e.trans c;replace u:=u.mo c
 simp [v,q]
 refine (l0e (a:=D) ⟨sD,rfl,u⟩ (by have:=e.1;omega)).mo ?_
 rintro _ G3 ⟨k1,c⟩
 replace b2:=c.bk b2;replace e:=e.trans c;replace z:=z.mo c
 simp
 refine (d0X z k1 (by have:=e.1;omega) (by rw [a0j];omega) (by rw [a0j];omega) (by rw [a0h];exact y)).mo ?_
 rintro _ G4 ⟨⟨_,rfl,s3,s4,rfl,j,k⟩,c⟩
 replace b2:=c.bk b2;replace e:=e.trans c
 rw [a0h,a0h] at j k ⊢
 have hsz:=e.1
 simp [j.cells,j.plain,k.cells,k.plain,hsz]
 generalize I:Array.setIfInBounds (Array.push _ _) _ _=G5
 obtain ⟨c,b3⟩:=new1 I
 clear I
 replace b2:=c.bk b2;replace e:=e.trans c;replace j:=j.mo c;replace k:=k.mo c
 have hz:=a0k b2
 simp [F0P,b3,b2,j.cells,j.plain,k.cells,k.plain]
 generalize J:Array.setIfInBounds _ _ _=G6
 have L:Lx G5 G6:=b0f J b2 (by decide)
 have N:=a0r J b2
 simp [N]
 exact fun _=>⟨s3,s4,by simp [Rat.divInt],by simpa using j.lx L,by simpa using k.lx L⟩
theorem r0I {α:Type} {Q:a0f->List Value->α->Prop} {z:List Value} {x:α} (c:Q H z x):∀ n:Nat,(e0M z n).length=n * z.length/\∀ k,k < n->Q H (((e0M z n).drop (k * z.length)).take z.length) x
 | 0=>⟨by simp [e0M],fun k j=>by omega⟩
 | n + 1=>by
  obtain ⟨e,h⟩:=r0I c n
  refine ⟨by rw [e0M,k1S,e,k1R];omega,fun k j=>?_⟩
  cases k with
  | zero=>simpa [e0M] using c
  | succ k =>
   have:=h k (by omega)
   rw [e0M,show (k + 1) * z.length=z.length + k * z.length by rw [k1R];omega,<- m1g,List.drop_left]
   exact this
theorem o0q {p q6 q7 l:Nat} {c0 c1:Value} {cs:List Value} (hf:fl<=H.size) (h6:a0f.bk H q6=.row false a0H [.pointer (some ⟨p,0,none⟩)])
  (hb:a0f.bk H p=.row false a0d (c0 :: c1 :: .int .i64 (l:Int) :: cs)) (h7:a0f.bk H q7=.row false d0N [.int .i64 0]) (hl:l < 1073741823) :
  a0O env fl o0m [.pointer (some ⟨q6,0,none⟩),.pointer (some ⟨q7,0,none⟩)] H (fun r H'=>b0d PF H.size H' d0N 1 r (List.replicate (l + 1) 0)/\Ext H H') R:=by
 refine a0i h1b hf (h:=?_)
 intro ρ N
 obtain ⟨n,hn⟩:∃ n,n=l + 1:=⟨_,rfl⟩
 rw [<- hn]
 have w1:IntKind.i64.wrap ((l:Int) + 1)=(n:Int):=by rw [a0S (by omega) (by omega)];omega
 have U:=g0o (bytes:=8) (k:=.i64) (k':=.i64) (l:=n) (c:=n) (k1x _) (by omega) (by omega)
 simp [N0d,G0w,G0x,N,h6,hb,w1,U]
 generalize hG:H.push _=G
 obtain ⟨F,b0⟩:=g0e hG
 have f0:f0M 0:=by unfold f0M;omega
 obtain ⟨Z,s⟩:=r0I (H:=G) (Q:=PF) (z:=[.int .i64 0]) (x:=0) ⟨rfl,f0⟩ n
 have ho:b0d PF H.size G d0N 1 (.slice (some ⟨H.size,0,none⟩) n n) (List.replicate n 0):=by
  refine ⟨_,by simpa using Own.mk (n:=n) (sz:=1) (cap:=n) b0 (by simpa using Z) (k1x _),fun k hk=>?_⟩
  rw [List.getElem_replicate];exact s k (by simpa using hk)
 clear hG b0
 have u:=ho.slen
 rw [n1b] at u
 simp [G0y,u]
 refine d0b (n:=n) (fun _ ρ G=>ρ 1=.pointer (some ⟨q7,0,none⟩)/\Ext H G/\b0d PF H.size G d0N 1 (ρ 3) (List.replicate n 0)) rfl rfl (by decide) (by omega) (by simp) (by simp) ?_ ?_ ?_ ?_
 ·exact ⟨by simp [N],F,by simpa using ho⟩
 ·intro i ρ a1 G h hI;simpa [h] using hI
 ·clear N ρ ho F s
  rintro i ρ G hi M gn ⟨J,v,ho⟩
  obtain ⟨so,L⟩:∃ so,ρ 3=so:=⟨_,rfl⟩
  rw [L] at ho
  have O:=v.bk h7
  have e:i < (List.replicate n (0:Int)).length:=by simpa using hi
  obtain ⟨G5,a0,q,I⟩:=b0d.store (j:=i) (x:=(0:Int)) (w:=.int .i64 0) ho e (by omega) rfl rfl (fun G' _ _=>⟨rfl,f0⟩) (by decide) (fun G' cs y _ _ h=>h)
  simp [G0z,G0A,J,L,M,O,ho.sls.ia e,a0]
  have hs:(List.replicate n (0:Int)).set i 0=List.replicate n 0:=by simp
  rw [hs] at q
  exact Rnd.mk (by simp [M]) (by simp [gn]) ⟨by simp [J],⟨k1H v.1 I.1,fun b hb=>(I.2 b (k1P hb v.1) (fun h=>by have:=(ho.ge h).1;omega)).trans (v.2 b hb)⟩,by simpa [L] using q⟩
 ·rintro ρ G M gn ⟨J,v,ho⟩
  simp [G0B]
  exact fun _=>ho
theorem o0f {p q6 q7 l:Nat} {c0 c1 M:Value} {cs:List Value} (hf:fl<=H.size) (h6:a0f.bk H q6=.row false a0F [.pointer (some ⟨p,0,none⟩)])
  (hb:a0f.bk H p=.row false a0c (c0 :: c1 :: .int .i64 (l:Int) :: cs)) (h7:a0f.bk H q7=.row false a0a [.bool (a0g 0).1,M]) (k7:Lim H M (a0g 0).2) (L:l < 1073741823) :
  a0O env fl o0l [.pointer (some ⟨q6,0,none⟩),.pointer (some ⟨q7,0,none⟩)] H (fun r H'=>b0d PI H.size H' a0a 2 r (List.replicate (l + 1) 0)/\Ext H H') R:=by
 refine a0i g1R hf (h:=?_)
 intro ρ Z
 obtain ⟨n,hn⟩:∃ n,n=l + 1:=⟨_,rfl⟩
 rw [<- hn]
 have w1:IntKind.i64.wrap ((l:Int) + 1)=(n:Int):=by rw [a0S (by omega) (by omega)];omega
 have a1:=g0o (bytes:=32) (k:=.i64) (k':=.i64) (l:=n) (c:=n) (k1x _) (by omega) (by omega)
 simp [M0T,F0u,F0v,Z,h6,hb,w1,a1]
 generalize hG:H.push _=G
 obtain ⟨F,b0⟩:=g0e hG
 have f0:PI G [.bool false,.slice none 0 0] 0:=⟨_,by rw [e0p],by rw [e0p];exact Lim.nil⟩
 obtain ⟨a2,u⟩:=r0I (H:=G) (Q:=PI) (z:=[.bool false,.slice none 0 0]) (x:=0) f0 n
 have ho:b0d PI H.size G a0a 2 (.slice (some ⟨H.size,0,none⟩) n n) (List.replicate n 0):=by
  refine ⟨_,by simpa using Own.mk (n:=n) (sz:=2) (cap:=n) b0 (by simpa using a2) (k1x _),fun k hk=>?_⟩
  rw [List.getElem_replicate];exact u k (by simpa using hk)
 clear hG b0
 have v:=ho.slen
 rw [n1b] at v
 simp [F0w,v]
 refine d0b (n:=n) (fun _ ρ G=>ρ 1=.pointer (some ⟨q7,0,none⟩)/\Ext H G/\b0d PI H.size G a0a 2 (ρ 3) (List.replicate n 0)) rfl rfl (by decide) (by omega) (by simp) (by simp) ?_ ?_ ?_ ?_
 ·exact ⟨by simp [Z],F,by simpa using ho⟩
 ·intro i ρ a4 G h hI;simpa [h] using hI
 ·clear Z ρ ho F u
  rintro i ρ G hi U gn ⟨N,e,ho⟩
  obtain ⟨so,O⟩:∃ so,ρ 3=so:=⟨_,rfl⟩
  rw [O] at ho
  have a0:=e.bk h7
  have J:=k7.mo e
  have q:i < (List.replicate n (0:Int)).length:=by simpa using hi
  obtain ⟨G5,a3,s,I⟩:=b0d.store (j:=i) (x:=(0:Int)) (w:=.agg #[.bool (a0g 0).1,M]) ho q (by omega) rfl (by simp [J.plain]) (fun G' _ L=>⟨M,rfl,J.lx L⟩) (by decide) (fun G' cs y _ L h=>b0g.lx h L)
  simp [F0x,F0y,N,O,U,a0,ho.sls.ia q,a3]
  have hs:(List.replicate n (0:Int)).set i 0=List.replicate n 0:=by simp
  rw [hs] at s
  exact Rnd.mk (by simp [U]) (by simp [gn]) ⟨by simp [N],⟨k1H e.1 I.1,fun b hb=>(I.2 b (k1P hb e.1) (fun h=>by have:=(ho.ge h).1;omega)).trans (e.2 b hb)⟩,by simpa [O] using s⟩
 ·rintro ρ G U gn ⟨N,e,ho⟩
  simp [F0z]
  exact fun _=>ho
def PV (_:a0f) (cs:List Value) (w:Value):Prop:=cs=[w]
theorem x0s:i0U PV:=fun _ _ _ _ _ h=>h
def PK (_:a0f) (cs:List Value) (k:Nat):Prop:=cs=[.int .i64 (k:Int)]
theorem x0r:i0U PK:=fun _ _ _ _ _ h=>h
structure Z0K (eN sz:Nat) (P:a0f->List Value->Int->Prop):Prop where
 mo:i0U P
 lx:∀ (G G':a0f) cs x,Lx G G'->P G cs x->P G' cs x
 ne:eN ≠ a0l
 sz:0 < sz
theorem Z0z:Z0K d0N 1 PF:=⟨b1F,fun _ _ _ _ _ h=>h,by decide,by decide⟩
theorem Z0y:Z0K a0a 2 PI:=⟨d0t,fun _ _ _ _ c h=>b0g.lx h c,by decide,by decide⟩
structure e0P (eN sz:Nat) (P:a0f->List Value->Int->Prop) (fl:Nat) (H:a0f) (vs:List Value) (L:List (List Int)):Prop where
 len:vs.length=L.length
 own:∀ i (h:i < L.length),b0d P fl H eN sz (vs[i]'(by omega)) L[i]
 apart:∀ i j (h:i < L.length) (h':j < L.length),i ≠ j->slB (vs[i]'(by omega))=none ∨ slB (vs[i]'(by omega)) ≠ slB (vs[j]'(by omega))
theorem e0P.mo {c sz:Nat} {P:a0f->List Value->Int->Prop} {vs:List Value} {L:List (List Int)} (e:Z0K c sz P) (h:e0P c sz P fl H vs L) (j:Ext H G):e0P c sz P fl G vs L :=
 ⟨h.len,fun i hi=>(h.own i hi).mo e.mo j,h.apart⟩
theorem e0P.store {v sz i j:Nat} {P:a0f->List Value->Int->Prop} {vs:List Value} {L:List (List Int)} {x:Int} {w:Value} (e:Z0K v sz P) (h:e0P v sz P fl H vs L) (hi:i < L.length) (N:j < L[i].length)
  (R:(a0W w).length=sz) (hp:(a0W w).all a0v=true) (U:P H (a0W w) x) :
  ∃ G,f0n fl H sz (adr sz (vs[i]'(by have:=h.len;omega)) j) w=some G/\e0P v sz P fl G vs (L.set i (L[i].set j x))/\d0o (slB (vs[i]'(by have:=h.len;omega))) H G/\Lx H G:=by
 obtain ⟨G,I,ho,c⟩:=b0d.store (x:=x) (w:=w) (h.own i hi) N e.sz R hp (fun G' _ F=>e.lx _ _ _ _ F U) e.ne (fun G' cs y _ F J=>e.lx _ _ _ _ F J)
 have u:=(h.own i hi).lx e.ne c
 refine ⟨G,I,⟨by simp [h.len],fun k O=>?_,fun a b M hb z=>h.apart a b (by simpa using M) (by simpa using hb) z⟩,c,u⟩
 have q:k < L.length:=by simpa using O
 by_cases s:k=i
 ·subst s;simpa using ho
 ·rw [n1u (by omega)]
  exact (h.own k q).off c (h.apart k i q hi s) (fun cs y J=>e.lx _ _ _ _ u J)
structure i0G (fl:Nat) (H:a0f) (p n m:Nat) (L:List (List Int)) (D:Int) (bs:List Nat) (k:Nat) (sR sB:Value) (vs:List Value):Prop where
 bk:a0f.bk H p=.row false a0d [.int .i64 (n:Int),.int .i64 (m:Int),.int .i64 ((2 * n + m:Nat):Int),sR,.int .i64 D,sB,.int .i64 (k:Int)]
 low:fl<=p
 d:f0M D
 heads:b0d PV fl H f0a 1 sR vs
 rows:e0P d0N 1 PF fl H vs L
 basis:b0d PK fl H e0L 1 sB bs
theorem i0G.mo {p n m k:Nat} {L:List (List Int)} {D:Int} {bs:List Nat} {sR sB:Value} {vs:List Value} (h:i0G fl H p n m L D bs k sR sB vs) (c:Ext H G):i0G fl G p n m L D bs k sR sB vs :=
 ⟨c.bk h.bk,h.low,h.d,h.heads.mo x0s c,h.rows.mo Z0z c,h.basis.mo x0r c⟩
theorem i0G.store {p n m k i j:Nat} {L:List (List Int)} {D x:Int} {bs:List Nat} {sR sB:Value} {vs:List Value} (h:i0G fl H p n m L D bs k sR sB vs) (hi:i < L.length) (y:j < L[i].length) (z:f0M x) :
  ∃ G,f0n fl H 1 (adr 1 (vs[i]'(by have:=h.rows.len;omega)) j) (.int .i64 x)=some G/\i0G fl G p n m (L.set i (L[i].set j x)) D bs k sR sB vs/\d0o (slB (vs[i]'(by have:=h.rows.len;omega))) H G/\Lx H G:=by
 obtain ⟨G,s,u,c,v⟩:=h.rows.store Z0z hi y (w:=.int .i64 x) (x:=x) rfl rfl ⟨rfl,z⟩
 have q:=h.rows.own i hi
 have e:=q.ne h.bk (by decide)
 exact ⟨G,s,⟨(c.2 _ (a0k h.bk) e).trans h.bk,h.low,h.d,h.heads.lxm (q.lxT (by decide) c) (fun _ _ h=>h),u,h.basis.lxm (q.lxT (by decide) c) (fun _ _ h=>h)⟩,c,v⟩
theorem i0G.head {p n m k i:Nat} {L:List (List Int)} {D:Int} {bs:List Nat} {sR sB:Value} {vs:List Value} (h:i0G fl H p n m L D bs k sR sB vs) (hi:i < L.length) :
  b0v H false 1 (adr 1 sR i)=some (vs[i]'(by have:=h.rows.len;omega)):=by
 have q:=h.rows.len
 obtain ⟨w,c,e⟩:=h.heads.sls.load1 (j:=i) (by omega)
 rw [c]
 have:[w]=[vs[i]'(by omega)]:=e
 simpa using this
theorem i0G.num {p n m k i j:Nat} {L:List (List Int)} {D:Int} {bs:List Nat} {sR sB:Value} {vs:List Value} (h:i0G fl H p n m L D bs k sR sB vs) (hi:i < L.length) (s:j < L[i].length) :
  b0v H false 1 (adr 1 (vs[i]'(by have:=h.rows.len;omega)) j)=some (.int .i64 L[i][j])/\f0M L[i][j]:=by
 obtain ⟨w,c,e,q⟩:=(h.rows.own i hi).sls.load1 (j:=j) s
 rw [c]
 exact ⟨by simpa using e,q⟩
structure i0F (fl:Nat) (H:a0f) (p n m:Nat) (L:List (List Int)) (D:Int) (bs:List Nat) (k:Nat) (sR sD sB:Value) (vs:List Value):Prop where
 bk:a0f.bk H p=.row false a0c [.int .i64 (n:Int),.int .i64 (m:Int),.int .i64 ((2 * n + m:Nat):Int),sR,.bool (a0g D).1,sD,sB,.int .i64 (k:Int)]
 low:fl<=p
 d:Lim H sD (a0g D).2
 heads:b0d PV fl H b0i 1 sR vs
 rows:e0P a0a 2 PI fl H vs L
 basis:b0d PK fl H e0L 1 sB bs
theorem i0F.mo {p n m k:Nat} {L:List (List Int)} {D:Int} {bs:List Nat} {sR sD sB:Value} {vs:List Value} (h:i0F fl H p n m L D bs k sR sD sB vs) (c:Ext H G):i0F fl G p n m L D bs k sR sD sB vs :=
 ⟨c.bk h.bk,h.low,h.d.mo c,h.heads.mo x0s c,h.rows.mo Z0y c,h.basis.mo x0r c⟩
theorem i0F.store {p n m k i j:Nat} {L:List (List Int)} {D x:Int} {bs:List Nat} {sR sD sB:Value} {vs:List Value} (h:i0F fl H p n m L D bs k sR sD sB vs) (hi:i < L.length) (y:j < L[i].length) {w:Value} (hc:(a0W w).length=2) (hp:(a0W w).all a0v=true) (z:PI H (a0W w) x) :
  ∃ G,f0n fl H 2 (adr 2 (vs[i]'(by have:=h.rows.len;omega)) j) w=some G/\i0F fl G p n m (L.set i (L[i].set j x)) D bs k sR sD sB vs/\d0o (slB (vs[i]'(by have:=h.rows.len;omega))) H G/\Lx H G:=by
 obtain ⟨G,u,v,c,s⟩:=h.rows.store Z0y hi y (w:=w) (x:=x) hc hp z
 have q:=h.rows.own i hi
 have e:=q.ne h.bk (by decide)
 exact ⟨G,u,⟨(c.2 _ (a0k h.bk) e).trans h.bk,h.low,h.d.lx s,h.heads.lxm (q.lxT (by decide) c) (fun _ _ h=>h),v,h.basis.lxm (q.lxT (by decide) c) (fun _ _ h=>h)⟩,c,s⟩
theorem i0F.head {p n m k i:Nat} {L:List (List Int)} {D:Int} {bs:List Nat} {sR sD sB:Value} {vs:List Value} (h:i0F fl H p n m L D bs k sR sD sB vs) (hi:i < L.length) :
  b0v H false 1 (adr 1 sR i)=some (vs[i]'(by have:=h.rows.len;omega)):=by
 have q:=h.rows.len
 obtain ⟨w,c,e⟩:=h.heads.sls.load1 (j:=i) (by omega)
 rw [c]
 have:[w]=[vs[i]'(by omega)]:=e
 simpa using this
theorem i0F.num {p n m k i j:Nat} {L:List (List Int)} {D:Int} {bs:List Nat} {sR sD sB:Value} {vs:List Value} (h:i0F fl H p n m L D bs k sR sD sB vs) (hi:i < L.length) (q:j < L[i].length) :
  ∃ w,b0v H true 2 (adr 2 (vs[i]'(by have:=h.rows.len;omega)) j)=some w/\b0g H w (a0g L[i][j]):=by
 obtain ⟨cs,c,_,e⟩:=Sls.load (h.rows.own i hi).sls (j:=j) q (by omega);exact ⟨_,c,e⟩
end
section
def O0g (P:Program):List Field->Nat->Option Nat
 | [],acc=>some acc
 | f :: r,acc=>if f.offset=acc then O0g P r (acc + P.cellsOf f.type) else none
def e0Q (P:Program):Nat->TypeId->Bool
 | 0,_=>false
 | m + 1,t =>
  match P.underlying t with
  | some .bool=>P.cellsOf t == 1
  | some (.int _)=>P.cellsOf t == 1
  | some .string=>P.cellsOf t == 1
  | some (.slice e)=>P.cellsOf t == 1 && e0Q P m e && P.cellsOf e != 0
  | some (.struct fs)=>O0g P fs.toList 0 == some (P.cellsOf t) && fs.toList.all fun f=>e0Q P m f.type
  | _=>false
def IsT (P:Program) (H:a0f):Nat->TypeId->List Value->Prop
 | 0,_,_=>False
 | m + 1,t,cs =>
  match P.underlying t with
  | some .bool=>∃ b,cs=[.bool b]
  | some (.int k)=>∃ n,cs=[.int k n]/\(Lit.int k n).wf=true
  | some .string=>∃ s,cs=[.string s]/\s.size<=maxLen
  | some (.slice e)=>cs=[.slice none 0 0] ∨ ∃ b len cap cells,cs=[.slice (some ⟨b,0,none⟩) len cap]/\len<=cap/\cap<=maxLen/\H.bk b=.row true e cells/\cells.length=len * P.cellsOf e /\
    ∀ i,i < len->IsT P H m e ((cells.drop (i * P.cellsOf e)).take (P.cellsOf e))
  | some (.struct fs)=>∃ parts:List (List Value),cs=parts.flatten/\parts.length=fs.toList.length/\∀ i f,fs.toList[i]? = some f->IsT P H m f.type (parts.getD i [])
  | _=>False
def h0i (H:a0f):Prop:=∀ b e cs,H.bk b ≠ .row false e cs
def n0Z (H H':a0f):Prop:=H.size<=H'.size/\∀ b,b < H.size->H'.bk b=H.bk b
theorem n0Z.refl (H:a0f):n0Z H H:=⟨k1x _,fun _ _=>rfl⟩
theorem n0Z.trans {H H1 c:a0f} (h:n0Z H H1) (k:n0Z H1 c):n0Z H c:=⟨k1H h.1 k.1,fun b hb=>(k.2 b (k1P hb h.1)).trans (h.2 b hb)⟩
theorem n0Z.push (H:a0f) (r:Blk):n0Z H (H.push r):=⟨by simp,fun b hb=>by rw [a0L,k1y (by omega)]⟩
theorem IsT.mo {P:Program} {H H':a0f} (s:n0Z H H'):∀ {m:Nat} {t:TypeId} {cs:List Value},IsT P H m t cs->IsT P H' m t cs
 | 0,_,_,h=>h
 | m + 1,t,cs,h=>by
  unfold IsT at h ⊢
  split at h
  ·exact h
  ·exact h
  ·exact h
  ·rename_i e _
   rcases h with h | ⟨b,len,cap,cells,j,k,q,u,v,x⟩
   ·exact .inl h
   ·exact .inr ⟨b,len,cap,cells,j,k,q,by rw [s.2 b (a0k u)];exact u,v,fun i hi=>(x i hi).mo s⟩
  ·obtain ⟨c,j,k,q⟩:=h
   exact ⟨c,j,k,fun i f y=>(q i f y).mo s⟩
  ·exact h
variable {X:Cx} {φ:Inj} {H:a0f} {w:World}
theorem Rel.pushRo (hR:Rel X φ H w) (I:h0i H) {B o:Nat} {e v:TypeId} {y:Nat × Nat} {cs:List Value} {c:Array Value} (hB:w.heap[B]? = some (.cells c v y)) (F:o + cs.length<=c.size)
  (hc:CR X φ w.shape? cs ((c.toList.drop o).take cs.length)) (G:B < X.base):Rel X (ad φ H.size B o) (H.push (.row true e cs)) w/\h0i (H.push (.row true e cs)):=by
 have k:∀ b x,φ b=some x->ad φ H.size B o b=some x:=fun b x h=>w0R hR h
 have q:h0i (H.push (.row true e cs)):=by
  intro b s j h
  rw [a0L] at h
  split at h
  ·cases h
  ·exact I b s j h
 refine ⟨⟨hR.bs,?_,?_,fun b b' J M o' s j _ _ _ h=>k1Q h (q b s j)⟩,q⟩
 ·intro b x h
  rw [l1X]
  rcases h0k hR h with ⟨z,_⟩ | ⟨z,_⟩ <;> omega
 ·intro b J M ro s j z u
  rw [a0L] at u
  rcases h0k hR z with ⟨rfl,L⟩ | ⟨L,h4⟩
  ·rw [k1B rfl] at u;cases u;cases L
   exact ⟨c,v,y,hB,F,hc.mo k (fun _ _ h=>h),fun h=>(by cases h),fun _=>G⟩
  ·rw [k1y (by omega)] at u
   obtain ⟨N,v,y,O,R,U,Z⟩:=hR.row b J M ro s j h4 u
   exact ⟨N,v,y,O,R,U.mo k (fun _ _ h=>h),Z⟩
theorem Rel.pushFree (hR:Rel X φ H w) (q:h0i H) (e:TypeId):Rel X φ (H.push (.row true e [])) w/\h0i (H.push (.row true e [])):=by
 have j:h0i (H.push (.row true e [])):=by
  intro b k c h
  rw [a0L] at h
  split at h
  ·cases h
  ·exact q b k c h
 refine ⟨⟨hR.bs,fun b x h=>by have:=hR.lt b x h;rw [l1X];omega,fun b s y ro k c u v=>?_,fun b z s y F k c _ _ _ h=>k1Q h (j b k c)⟩,j⟩
 have:=hR.lt b _ u
 rw [a0L,k1y (by omega)] at v
 exact hR.row b s y ro k c u v
theorem p0d {α:Type} {f:Nat->Option α}:∀ {n k:Nat} {l:List α},(List.range' k n).mapM f=some l->l.length=n/\∀ i,i < n->f (k + i)=l[i]?
 | 0,k,l,h=>by simp at h;subst h;exact ⟨rfl,fun i hi=>by omega⟩
 | n + 1,k,l,h=>by
  rw [n1r,m1T] at h
  simp only [k1C,k1w,k1F,k1z] at h
  obtain ⟨x,c,r,e,rfl⟩:=h
  obtain ⟨j,q⟩:=p0d e
  refine ⟨by simp [j],fun i hi=>?_⟩
  cases i with
  | zero=>simpa using c
  | succ i=>rw [show k + (i + 1)=k + 1 + i by omega,q i (by omega)];simp
theorem l0f {a:Addr} {n:Nat} {l:List Value} (G:n ≠ 0) (h:w.cells? 0 a n=some l):a.spot=none/\∃ c k q,w.heap[a.block]? = some (.cells c k q)/\a.off + n<=c.size/\l=(c.toList.drop a.off).take n:=by
 unfold World.cells? at h
 rw [k1B (l1D _),List.range_eq_range'] at h
 obtain ⟨F,z⟩:=p0d h
 have j:∀ i,i < n->∃ v,w.cell? (a.add i)=some v/\l[i]? = some v:=fun i hi=>by
  have:=z i hi
  rw [l1e] at this
  rw [k1A (by omega)] at this
  exact ⟨_,this,k1A (by omega)⟩
 obtain ⟨H,s,_⟩:=j 0 (by omega)
 have x:a.spot=none/\∃ c k q,w.heap[a.block]? = some (.cells c k q):=by
  simp only [Addr.add,l1o,World.cell?] at s
  split at s
  ·rename_i c k q hc
   split at s
   ·cases s
   ·rename_i hs;exact ⟨by simpa using hs,c,k,q,hc⟩
  ·cases s
 obtain ⟨hs,c,k,q,hc⟩:=x
 have e:∀ i,w.cell? (a.add i)=c[a.off + i]?:=fun i=>by
  unfold Addr.add
  split
  ·rename_i hi;subst hi;simp [World.cell?,hc,hs]
  ·simp [World.cell?,hc]
 have hsz:a.off + n<=c.size:=by
  obtain ⟨v,u,_⟩:=j (n - 1) (by omega)
  rw [e] at u
  have:=(l1j.1 u).1
  omega
 refine ⟨hs,c,k,q,hc,hsz,?_⟩
 apply m1J
 intro i
 by_cases hi:i < n
 ·obtain ⟨v,u,y⟩:=j i hi
  rw [y,l1K,k1B hi,l1Q,m1e,<- e,u]
 ·rw [k1G (by omega),k1G]
  simp;omega
def o0M (P:Program) (X:Cx) (φ:Inj) (H:a0f) (w:World) (Z:a0f->List Value->Prop) (cs:List Value):Prop :=
 ∃ H' φ' cs',(∀ b x,φ b=some x->φ' b=some x)/\n0Z H H'/\Rel X φ' H' w/\h0i H'/\CR X φ' w.shape? cs' cs/\Z H' cs'
section
variable {D:Type} {enc:TypeId × Value->D} {P:Program} (hb:X.base=w.heap.size)
include hb
theorem o0Z {m q:Nat} (J:∀ (t:TypeId) (cs:List Value) (x:DataW D × List MemPlace) (H:a0f) (φ:Inj),DataW.trod enc P w 0 (fun _=>true) true q t cs=some x->e0Q P m t=true->Rel X φ H w->h0i H ->
   o0M P X φ H w (fun H' s=>IsT P H' m t s) cs) :
  ∀ (u:List Field) (e j:Nat) (cs:List Value) (H:a0f) (φ:Inj),O0g P u e=some j->cs.length=j->u.all (fun f=>e0Q P m f.type)=true ->
   (∀ f,f ∈ u->∃ x,DataW.trod enc P w 0 (fun _=>true) true q f.type ((cs.drop f.offset).take (P.cellsOf f.type))=some x)->Rel X φ H w->h0i H->e<=j ->
   o0M P X φ H w (fun H' s=>∃ c:List (List Value),s = c.flatten/\c.length=u.length/\∀ i f,u[i]? = some f->IsT P H' m f.type (c.getD i [])) (cs.drop e)
 | [],e,j,cs,H,φ,hl,hcs,_,_,hR,hro,_=>by
  simp only [O0g,k1z] at hl
  refine ⟨H,φ,[],fun _ _ h=>h,n0Z.refl H,hR,hro,?_,[],rfl,rfl,fun i f h=>by simp at h⟩
  rw [List.drop_of_length_le (by omega)];exact CR.nil
 | f :: r,e,j,cs,H,φ,hl,hcs,hp,hm,hR,hro,hat=>by
  simp only [O0g] at hl
  split at hl
  case isFalse=>cases hl
  rename_i y
  obtain ⟨x,Z⟩:=hm f (by simp)
  have h2:=fun g hg=>hm g (m1I _ hg)
  simp only [l1E,k1L] at hp
  obtain ⟨H1,F,I,U,m1,N,o1,k1,z1⟩:=J _ _ _ _ _ Z hp.1 hR hro
  have v:∀ (l:List Field) (a t:Nat),O0g P l a=some t->a<=t:=by
   intro l
   induction l with
   | nil=>intro a t h;simp only [O0g,k1z] at h;omega
   | cons g l ihl =>
    intro a t h
    simp only [O0g] at h
    split at h
    ·have:=ihl _ _ h;omega
    ·cases h
  have z:=v r _ _ hl
  obtain ⟨M,G,R,e2,L,O,o2,k2,c,p1,p2,p3⟩:=o0Z J r (e + P.cellsOf f.type) j cs H1 F hl hcs hp.2 h2 N o1 z
  refine ⟨M,G,I ++ R,fun b x h=>e2 b x (U b x h),m1.trans L,O,o2,?_,I :: c,by rw [p1];rfl,by simp [p2],fun i g hi=>?_⟩
  ·have k:cs.drop e=(cs.drop f.offset).take (P.cellsOf f.type) ++ cs.drop (e + P.cellsOf f.type):=by
    rw [y,<- m1g,m1o]
   rw [k]
   exact (k1.mo e2 (fun _ _ h=>h)).append k2
  ·cases i with
   | zero=>simp only [List.getElem?_cons_zero,k1z] at hi;subst hi;exact IsT.mo L z1
   | succ i=>simp only [List.getElem?_cons_succ] at hi;exact p3 i g hi
theorem o0Y {m k sz:Nat} {e:TypeId} {a:Addr} {c:Array Value} (hsz:P.cellsOf e=sz) (J:∀ (t:TypeId) (cs:List Value) (x:DataW D × List MemPlace) (H:a0f) (φ:Inj),DataW.trod enc P w 0 (fun _=>true) true k t cs=some x->e0Q P m t=true->Rel X φ H w->h0i H ->
   o0M P X φ H w (fun H' z=>IsT P H' m t z) cs) (v:e0Q P m e=true) :
  ∀ (n:Nat),(∀ i,i < n->∃ x,DataW.trod enc P w 0 (fun _=>true) true k e ((c.toList.drop (a.off + i * sz)).take sz)=some x)->∀ (H:a0f) (φ:Inj),a.off + n * sz<=c.size->Rel X φ H w->h0i H ->
   o0M P X φ H w (fun H' cells=>cells.length=n * sz/\∀ i,i < n->IsT P H' m e ((cells.drop (i * sz)).take sz)) ((c.toList.drop a.off).take (n * sz))
 | 0,_,H,φ,_,hR,hro=>⟨H,φ,[],fun _ _ h=>h,n0Z.refl H,hR,hro,by simpa using CR.nil,by simp,fun i hi=>by omega⟩
 | n + 1,hx,H,φ,hle,hR,hro=>by
  have q:(n + 1) * sz=n * sz + sz:=by rw [k1R];omega
  obtain ⟨H1,a0,y,Z,m1,R,o1,k1,M,z1⟩:=o0Y hsz J v n (fun i hi=>hx i (by omega)) H φ (by omega) hR hro
  obtain ⟨x,G⟩:=hx n (by omega)
  obtain ⟨O,I,s,e2,N,U,o2,L,z2⟩:=J _ _ _ _ _ G v R o1
  have F:s.length=sz:=by
   have:=L.1
   rw [this,l1v,List.length_drop,n1t];omega
  refine ⟨O,I,y ++ s,fun b x h=>e2 b x (Z b x h),m1.trans N,U,o2,?_,by rw [k1S,M,F,q],fun i hi=>?_⟩
  ·have j:(c.toList.drop a.off).take ((n + 1) * sz)=(c.toList.drop a.off).take (n * sz) ++ (c.toList.drop (a.off + n * sz)).take sz:=by
    rw [q,List.take_add,m1g]
   rw [j]
   exact (k1.mo e2 (fun _ _ h=>h)).append L
  ·by_cases u:i < n
   ·have h1:i * sz + sz<=n * sz:=by rw [<- Nat.succ_mul];exact k1E _ u
    have:((y ++ s).drop (i * sz)).take sz=(y.drop (i * sz)).take sz:=by
     rw [l1M (by omega),m1c (by simp;omega)]
    rw [this];exact IsT.mo N (z1 i u)
   ·have:i=n:=by omega
    subst this
    have:((y ++ s).drop (i * sz)).take sz=s:=by
     rw [<- M,List.drop_left,k1J (by omega)]
    rw [this];exact z2
theorem q0E:∀ (m u:Nat) (t:TypeId) (cs:List Value) (x:DataW D × List MemPlace) (H:a0f) (φ:Inj),DataW.trod enc P w 0 (fun _=>true) true u t cs=some x->e0Q P m t=true->Rel X φ H w->h0i H ->
  o0M P X φ H w (fun H' j=>IsT P H' m t j) cs
 | 0,_,_,_,_,_,_,_,hp,_,_=>by simp [e0Q] at hp
 | m + 1,0,_,_,_,_,_,h,_,_,_=>by simp [DataW.trod] at h
 | m + 1,u + 1,t,cs,x,H,φ,h,hp,hR,hro=>by
  unfold e0Q at hp
  have v:∀ j,CR X φ w.shape? j cs->IsT P H (m + 1) t j->o0M P X φ H w (fun H' j=>IsT P H' (m + 1) t j) cs:=fun j h1 h2=>⟨H,φ,j,fun _ _ h=>h,n0Z.refl H,hR,hro,h1,h2⟩
  split at hp
  ·rename_i q
   obtain ⟨b,rfl,_⟩:=DataW.trod_bool q h
   refine v [.bool b] (CR.cons (.bool b) CR.nil) ?_
   unfold IsT;rw [q];exact ⟨b,rfl⟩
  ·rename_i k q
   obtain ⟨n,rfl,_,a8⟩:=DataW.trod_int q h
   refine v [.int k n] (CR.cons (.int k n) CR.nil) ?_
   unfold IsT;rw [q];exact ⟨n,rfl,a8⟩
  ·rename_i q
   obtain ⟨s,rfl,_,hs⟩:=DataW.trod_string q h
   refine v [.string s] (CR.cons (.str s) CR.nil) ?_
   unfold IsT;rw [q];exact ⟨s,rfl,hs⟩
  ·rename_i e q
   simp only [k1L,bne_iff_ne,ne_eq] at hp
   obtain ⟨⟨_,a6⟩,R⟩:=hp
   rcases Go.Deep.open_slice q h with ⟨rfl,_⟩ | ⟨a,len,cap,F,n,Dd,Pl,rfl,_,G,a3,O,_,N⟩
   ·refine v [.slice none 0 0] (CR.cons .snil CR.nil) ?_
    unfold IsT;rw [q];exact .inl rfl
   ·simp only [l1o] at O
    subst O
    by_cases M:F=0
    ·have a4:len=0:=by omega
     subst M a4
     obtain ⟨Z,o2⟩:=hR.pushFree hro e
     refine ⟨H.push (.row true e []),φ,[.slice (some ⟨H.size,0,none⟩) 0 0],fun _ _ h=>h,n0Z.push _ _,Z,o2,CR.cons (.sle _ _) CR.nil,?_⟩
     unfold IsT;rw [q]
     exact .inr ⟨H.size,0,0,[],rfl,k1x _,l1D _,by rw [a0L,k1B rfl],by simp,fun i hi=>by omega⟩
    ·obtain ⟨l0,g1,_⟩:=N 0 (by omega)
     rw [show a.add (0 * P.cellsOf e)=a by simp [Addr.add]] at g1
     obtain ⟨a7,c,el,fz,hc,b4,_⟩:=l0f R g1
     have z:∀ i,i < F->a.off + i * P.cellsOf e + P.cellsOf e<=c.size/\DataW.trod enc P w 0 (fun _=>true) true n e ((c.toList.drop (a.off + i * P.cellsOf e)).take (P.cellsOf e))=some (Dd i,Pl i):=by
      intro i hi
      obtain ⟨li,q1,q2⟩:=N i hi
      obtain ⟨_,c',b5,b8,q3,q4,q5⟩:=l0f R q1
      have L:(a.add (i * P.cellsOf e)).block=a.block/\(a.add (i * P.cellsOf e)).off=a.off + i * P.cellsOf e:=by
       unfold Addr.add;split
       ·rename_i h0;rw [h0];exact ⟨rfl,rfl⟩
       ·exact ⟨rfl,rfl⟩
      rw [L.1,hc] at q3;cases q3
      rw [L.2] at q4 q5
      exact ⟨q4,by rw [<- q5];exact q2⟩
     have y:a.off + len * P.cellsOf e<=c.size:=by
      have:=(z (F - 1) (by omega)).1
      have h2:len * P.cellsOf e<=F * P.cellsOf e:=k1E _ G
      have h3:F * P.cellsOf e=(F - 1) * P.cellsOf e + P.cellsOf e:=by
       rw [<- Nat.succ_mul];congr 1;omega
      omega
     obtain ⟨H1,J,cells,e1,m1,U,o1,k1,l1,z1⟩:=o0Y hb rfl (q0E m n) a6 len (fun i hi=>⟨_,(z i (by omega)).2⟩) H φ y hR hro
     have a5:a.block < X.base:=by rw [hb];exact (l1j.1 hc).1
     obtain ⟨Z,o2⟩:=U.pushRo o1 (e:=e) (o:=a.off) (cs:=cells) hc (by rw [l1];exact y) (by rw [l1];exact k1) a5
     refine ⟨H1.push (.row true e cells),ad J H1.size a.block a.off,[.slice (some ⟨H1.size,0,none⟩) len F],fun b x a1=>w0R U (e1 b x a1),m1.trans (n0Z.push _ _),Z,o2,?_,?_⟩
     ·refine CR.cons (.sl _ _ _ _ _ a.block a.off rfl a1i a7 rfl (fun _=>rfl) (fun _=>rfl) G (fun a0=>by omega)) CR.nil
     ·unfold IsT;rw [q]
      refine .inr ⟨H1.size,len,F,cells,rfl,G,a3,by rw [a0L,k1B rfl],l1,fun i hi=>IsT.mo (n0Z.push _ _) (z1 i hi)⟩
  ·rename_i fs q
   simp only [k1L,beq_iff_eq] at hp
   obtain ⟨xs,n,b9,_,a2,a9,b1⟩:=DataW.trod_struct q h
   have hf:n=u:=by omega
   subst hf
   obtain ⟨H1,J,c1,e1,m1,U,o1,k1,I,p1,p2,p3⟩:=o0Z hb (q0E m n) fs.toList 0 (P.cellsOf t) cs H φ hp.1 a2 hp.2 (fun f hf=>by
    obtain ⟨i,hi,rfl⟩:=l1I.1 hf
    have:=b1 i fs.toList[i] (by simp)
    rw [k1A (by rw [a9];simpa using hi)] at this
    exact ⟨_,this⟩) hR hro (l1D _)
   refine ⟨H1,J,c1,e1,m1,U,o1,by simpa using k1,?_⟩
   unfold IsT;rw [q];exact ⟨I,p1,p2,p3⟩
  ·cases hp
end
end
section
open Go Go.RowKit Go.ChangeShapes Go.WideShapes Go.ChangeAt
def IsV (P:Program) (H:a0f) (m:Nat) (t:TypeId) (v:Value):Prop :=
 match P.underlying t with
 | some (.struct _)=>∃ cs,v=.agg cs/\IsT P H m t cs.toList
 | _=>IsT P H m t [v]
def K0L (P:Program) (H:a0f) (m:Nat):List TypeId->List Value->Prop
 | [],[]=>True
 | t :: ts,v :: vs=>IsV P H m t v/\K0L P H m ts vs
 | _,_=>False
theorem IsV.mo {P:Program} {H H':a0f} (c:n0Z H H') {m:Nat} {t:TypeId} {v:Value} (h:IsV P H m t v):IsV P H' m t v:=by
 unfold IsV at h ⊢
 split at h
 ·obtain ⟨cs,e,j⟩:=h;exact ⟨cs,e,j.mo c⟩
 ·exact IsT.mo c h
theorem K0L.mo {P:Program} {H H':a0f} (e:n0Z H H') {m:Nat}:∀ {c:List TypeId} {vs:List Value},K0L P H m c vs->K0L P H' m c vs
 | [],[],h=>h
 | t :: c,v :: vs,h=>⟨h.1.mo e,K0L.mo e h.2⟩
 | [],_ :: _,h=>h.elim
 | _ :: _,[],h=>h.elim
variable {X:Cx} {φ:Inj} {H:a0f} {w:World} {D:Type} {enc:TypeId × Value->D} {P:Program}
theorem B0f {t:TypeId} {v:Value} {base:Nat} {m:Nat} (hp:e0Q P m t=true) (c:∀ e,P.underlying t ≠ some (.struct e)) (ho:Value.okWide P w .any base t v):v.cells.toList=[v]:=by
 cases m with
 | zero=>simp [e0Q] at hp
 | succ m =>
  unfold e0Q at hp
  unfold Value.okWide at ho
  cases hu:P.underlying t with
  | none=>simp [hu] at hp
  | some d =>
   cases d <;> simp only [hu] at hp ho <;> try (exact k1Q hp Bool.false_ne_true)
   all_goals (first | (exact k1Q hu (c _)) | skip)
   all_goals
    unfold Cell.okWide at ho
    rw [hu] at ho
    unfold Cell.ok at ho
    rw [hu] at ho
    cases v <;> simp_all [Value.cells]
theorem L0K (hb:X.base=w.heap.size) {m:Nat} {t:TypeId} {v:Value} {d:DataW D} {J:List MemPlace} {base:Nat} (h:DataW.Trod enc P w 0 (fun _=>true) true t v d J) (hp:e0Q P m t=true) (ho:Value.okWide P w .any base t v)
  (hR:Rel X φ H w) (u:h0i H):∃ H' φ' v',(∀ b x,φ b=some x->φ' b=some x)/\n0Z H H'/\Rel X φ' H' w/\h0i H'/\VR X φ' w.shape? v' v/\IsV P H' m t v':=by
 obtain ⟨k,h⟩:=h
 obtain ⟨H',φ',c,z,m1,y,F,s,z1⟩:=q0E hb m k t _ _ H φ h hp hR u
 by_cases hs:∃ e,P.underlying t=some (.struct e)
 ·obtain ⟨e,hs⟩:=hs
  have j:=ho
  unfold Value.okWide at j
  rw [hs] at j
  obtain ⟨cs,rfl,_⟩:=j
  refine ⟨H',φ',.agg c.toArray,z,m1,y,F,VR.agg_iff.2 (by simpa [Value.cells] using s),?_⟩
  unfold IsV
  rw [hs]
  exact ⟨_,rfl,by simpa using z1⟩
 ·have q:∀ e,P.underlying t ≠ some (.struct e):=fun e h=>hs ⟨e,h⟩
  rw [B0f hp q ho] at s
  have G:c.length=1:=by have:=s.1;simpa using this
  obtain ⟨v',rfl⟩:∃ v',c = [v']:=by
   match c,G with
   | [v'],_=>exact ⟨v',rfl⟩
  refine ⟨H',φ',v',z,m1,y,F,s.head,?_⟩
  unfold IsV
  split
  ·rename_i e I;exact k1Q I (q e)
  ·exact z1
theorem s0U (hb:X.base=w.heap.size) {m:Nat} {base:Nat}:∀ (c:List TypeId) (vs:List Value) (ds:List (DataW D)) (G:List MemPlace) (H:a0f) (φ:Inj),DataW.TrodAll enc P w 0 (fun _=>true) true c vs ds G ->
  (∀ t,t ∈ c->e0Q P m t=true)->(∀ (j:Nat) t v,c[j]? = some t->vs[j]? = some v->Value.okWide P w .any base t v)->Rel X φ H w->h0i H ->
  ∃ H' φ' e,(∀ b x,φ b=some x->φ' b=some x)/\n0Z H H'/\Rel X φ' H' w/\h0i H'/\CR X φ' w.shape? e vs/\K0L P H' m c e
 | [],[],[],_,H,φ,_,_,_,hR,hro=>⟨H,φ,[],fun _ _ h=>h,n0Z.refl H,hR,hro,CR.nil,trivial⟩
 | t :: c,v :: vs,d :: ds,G,H,φ,h,hp,ho,hR,hro=>by
  obtain ⟨p,q,k,s,_⟩:=h
  obtain ⟨H1,y,v1,M,m1,J,U,O,z1⟩:=L0K hb k (hp t (by simp)) (ho 0 t v rfl rfl) hR hro
  obtain ⟨I,z,u,e2,F,L,Z,R,z2⟩:=s0U hb c vs ds q H1 y s (fun t N=>hp t (by simp [N])) (fun j t v k s=>ho (j + 1) t v (by simpa using k) (by simpa using s)) J U
  exact ⟨I,z,v1 :: u,fun b x h=>e2 b x (M b x h),m1.trans F,L,Z,CR.cons (O.mo e2 (fun _ _ h=>h)) R,z1.mo F,z2⟩
 | [],[],_ :: _,_,_,_,h,_,_,_,_=>h.elim
 | [],_ :: _,_,_,_,_,h,_,_,_,_=>by cases ‹List (DataW D)› <;> exact h.elim
 | _ :: _,[],_,_,_,_,h,_,_,_,_=>by cases ‹List (DataW D)› <;> exact h.elim
 | _ :: _,_ :: _,[],_,_,_,h,_,_,_,_=>h.elim
theorem z0T {f:Func} {s:ChangeSpec} {apart fresh e F:Bool} {W z:World} {args:Array Value} {v:Value} {ds H:List (DataW D)} {c pa pv:List MemPlace}
  (J:DataW.Whole enc P f.params.toList s.vars apart W args.toList ds H c)
  (y:∀ (b:Nat) (G:Nat->Bool) (Z:Bool),DataW.TrodAll enc P z b G Z f.resultTypes.toList (v.resultList f.resultTypes.size) (s.fn D (ds ++ H)).results [])
  (h:∀ G:Nat->Bool,(∀ p ∈ c,G p.block=true)->DataW.TrodAll enc P z 0 G true f.params.toList args.toList (s.fn D (ds ++ H)).args pa)
  (k:∀ G:Nat->Bool,(∀ p ∈ c,G p.block=true)->DataW.TrodVars enc P z G s.vars (s.fn D (ds ++ H)).vars pv)
  (u:c=pa ++ pv) (q:Below W.heap.size W z)
  (M:∀ (j:Nat) (t:TypeId) (r:Value),f.resultTypes[j]? = some t->(v.resultList f.resultTypes.size)[j]? = some r->Value.okWide P z .any 0 t r) :
  s.post enc P f apart fresh e F W args v z:=by
 have x:∀ p ∈ c,(fun b=>decide (b < W.heap.size)) p.block=true:=fun p hp=>by simpa using J.lt p hp
 have hk:W.keptBut z (· ∈ c):=by
  refine ⟨q.os,q.output,fun i hi=>?_⟩
  rw [q.block i hi]
  cases W.heap[i]? with
  | none=>rfl
  | some o=>cases o <;> simp
 refine ⟨ds,H,c,[],pa,pv,J,y _ _ _,h _ x,k _ x,World.keptBut_mono (fun p hp=>⟨hp,?_⟩) hk,fun _=>?_⟩
 ·rw [u,k1T] at hp
  exact Or.inr hp
 ·have L:=J.lt
  obtain ⟨_,_,_,_,_,hz,hn⟩:=J
  refine ⟨M,_,_,([] ++ pa) ++ pv,⟨[] ++ pa,pv,trodAll_append (h _ (fun _ _=>rfl)) (y _ _ _),k _ (fun _ _=>rfl),rfl,?_,?_⟩,?_⟩
  ·intro b off hp
   have I:MemPlace.cell b off ∈ c:=by rw [u];simpa using hp
   have N:=hz b off I
   have O:b < W.heap.size:=L _ I
   have R:=q.block b O
   unfold World.frozen? at N ⊢
   simpa [R] using N
  ·intro U
   have:=hn U
   rw [u] at this
   simpa using this
  ·intro p hp _
   rw [u]
   simpa using hp
theorem k0j (y:laidOutB P=true) {W u:World} (j:Below W.heap.size W u) {z:Nat->Bool}:∀ {s:List TypeId} {vs:List Value} {ds:List (DataW D)} {k:List MemPlace},
  DataW.TrodAll enc P W 0 (fun _=>true) true s vs ds k->(∀ t,t ∈ s->P.readableRec t=true/\t < P.types.size)->(∀ p ∈ k,p.block < W.heap.size)->(∀ p ∈ k,z p.block=true)->DataW.TrodAll enc P u 0 z true s vs ds k
 | [],[],[],_,h,_,_,_=>h
 | t :: s,v :: vs,d :: ds,k,⟨p,q,h1,h2,e⟩,hr,hlt,hsp=>by
  subst e
  refine ⟨p,q,WideElems.Trod_stays y (hr t (by simp)).1 (hr t (by simp)).2 h1 (fun x c=>j.same (hlt x (by simp [c]))) (fun x c=>hsp x (by simp [c])),?_,rfl⟩
  exact k0j y j h2 (fun t F=>hr t (by simp [F])) (fun x c=>hlt x (by simp [c])) (fun x c=>hsp x (by simp [c]))
 | [],[],_ :: _,_,h,_,_,_=>h.elim
 | [],_ :: _,ds,_,h,_,_,_=>by cases ds <;> exact h.elim
 | _ :: _,[],ds,_,h,_,_,_=>by cases ds <;> exact h.elim
 | _ :: _,_ :: _,[],_,h,_,_,_=>h.elim
theorem s0Q {E:Env} (O:∀ (base n:Nat),e0l ⟨P,base⟩ (b0q E n)) {f:FuncId} {F:Func} {s:ChangeSpec} {apart fresh c G:Bool} {m:Nat} {tb:TypeId} (hl:laidOutB P=true) (Z:∀ t,t ∈ F.params.toList->e0Q P m t=true/\P.readableRec t=true/\t < P.types.size)
  (N:F.resultTypes = #[tb]) (U:P.underlying tb=some .bool) (hv:s.vars=[]) (hs:∀ ds:List (DataW D),ds.length=F.params.size->s.fn D ds = { results:=[.lit (.bool true)],args:=ds })
  (a2:∀ (y:a0f) (vs:List Value),K0L P y m F.params.toList vs->a0O E y.size f vs y (fun r _=>r=.bool true) (fun _=>False))
  (W:World) (base:Nat) (args:Array Value) (ds gs:List (DataW D)) (z:List MemPlace)
  (a0:∀ (j:Nat) t v,F.params[j]? = some t->args[j]? = some v->Value.okWide P W .any base t v)
  (hW:DataW.Whole enc P F.params.toList s.vars apart W args.toList ds gs z) :
  Calls P f args W fun e W'=>∃ v,e=.returned v/\s.post enc P F apart fresh c G W args v W':=by
 have L:=hW
 obtain ⟨p,q,hA,hV,H,a8,a9⟩:=hW
 rw [hv] at hV
 obtain ⟨rfl,rfl⟩:=trodVars_none hV
 have hb:(⟨P,W.heap.size⟩:Cx).base=W.heap.size:=rfl
 have h0:Rel ⟨P,W.heap.size⟩ (fun _=>none) #[] W:=⟨k1x _,fun _ _ h=>by simp at h,fun _ _ _ _ _ _ h=>by simp at h,fun _ _ _ _ _ _ _ h=>by simp at h⟩
 have a4:h0i #[]:=fun b e cs h=>by simp [a0f.bk] at h
 obtain ⟨y,φ,vs,_,_,hR,a5,a1,hz⟩:=s0U (X:=⟨P,W.heap.size⟩) hb _ _ _ _ #[] (fun _=>none) hA (fun t ht=>(Z t ht).1) (fun j t v h1 h2=>a0 j t v (by simpa using h1) (by simpa using h2)) h0 a4
 obtain ⟨n,J⟩:=a2 y vs hz
 have hsz:ds.length=F.params.size:=by
  have:∀ (ts:List TypeId) (vs:List Value) (ds:List (DataW D)) (ps:List MemPlace),DataW.TrodAll enc P W 0 (fun _=>true) true ts vs ds ps->ds.length=ts.length:=by
   intro ts
   induction ts with
   | nil=>intro vs ds ps h;cases vs <;> cases ds <;> first | rfl | exact h.elim
   | cons t ts ih =>
    intro vs ds ps h
    cases vs <;> cases ds <;> first | exact h.elim | skip
    obtain ⟨_,_,_,h2,_⟩:=h
    simp [ih _ _ _ h2]
  simpa using this _ _ _ _ hA
 cases hc:b0q E n y.size f vs y with
 | bad=>rw [hc] at J;exact J.elim
 | pan v=>rw [hc] at J;exact J.elim
 | ok r =>
  obtain ⟨rv,H'⟩:=r
  rw [hc] at J
  have a6:rv=.bool true:=J
  subst a6
  refine Calls.mono ((O W.heap.size n y.size f vs y φ W args hR a1 (k1x _)).1 _ _ hc).2 ?_
  rintro e W' ⟨v',φ',rfl,a7,u⟩
  cases a7
  have M:Below W.heap.size W W':=⟨u.os,u.tape,u.out,u.wsz,fun k hk=>u.frame k hk fun b o e cs _ _ h=>a5 b e cs h⟩
  have I:=hs (ds ++ []) (by simpa using hsz)
  have a3:=L.lt
  refine ⟨_,rfl,z0T (pa:=p) (pv:=[]) L (fun b sp hd=>?_) (fun sp R=>?_) (fun sp _=>?_) H M ?_⟩
  ·rw [I,N]
   exact trodAll_cons_mk (shut_bool U true) trodAll_mk0
  ·rw [I,List.append_nil]
   exact k0j hl M hA (fun t ht=>(Z t ht).2) (fun x hx=>a3 x (by rw [H];simp [hx])) (fun x hx=>R x (by rw [H];simp [hx]))
  ·rw [I,hv];rfl
  ·exact ok_one N rfl (okWide_bool_mk U _)
end
section
def c0s (nt i:Nat) (Inv:Nat->(Nat->Value)->a0f->Prop) (t:b0c) (H:a0f):Prop:=∃ ρ2,t=T nt ρ2/\Inv (i + 1) ρ2 H
theorem c0s.mk {nt i:Nat} {Inv:Nat->(Nat->Value)->a0f->Prop} {ρ:Nat->Value} {H:a0f} (h:Inv (i + 1) ρ H):c0s nt i Inv (T nt ρ) H:=⟨ρ,rfl,h⟩
theorem b0z {n:Nat} (h:n < 4611686018427387904):IntKind.i64.wrap ((n:Int) + 1)=((n + 1:Nat):Int):=by rw [a0S (by omega) (by omega)];omega
def f0N (E:Env) (fl nt:Nat) (rx:List a0J) (R:a0D) (i:Nat) (Inv:Nat->(Nat->Value)->a0f->Prop) (t:b0c) (H:a0f):Prop :=
 WR E fl rx t H (c0s nt i Inv) R
def e0T (E:Env) (fl nt tc b b2 n:Nat) (body:SCode) (rx:List a0J) (Z:b0c->a0f->Prop) (Q:e0c) (R:a0D) (i:Nat) (Inv:Nat->(Nat->Value)->a0f->Prop) (t:b0c) (H:a0f):Prop :=
 ∃ ρ',t=T nt ρ'/\ρ' tc=.bool (decide (i < n))/\(i < n->W E fl body (T nt ρ') H (u0J b2 b (f0N E fl nt rx R i Inv) Z Q) R)/\(i=n->Z (T nt ρ') H)
section
variable {E:Env} {fl nt tc b b2 n i:Nat} {body:SCode} {rx rc:List a0J} {Z:b0c->a0f->Prop} {Q:e0c} {R:a0D} {Inv:Nat->(Nat->Value)->a0f->Prop} {ρ:Nat->Value} {H:a0f}
theorem e0T.mk (c:ρ tc=.bool (decide (i < n))) (e:i < n->W E fl body (T nt ρ) H (u0J b2 b (f0N E fl nt rx R i Inv) Z Q) R) (h:i=n->Z (T nt ρ) H):e0T E fl nt tc b b2 n body rx Z Q R i Inv (T nt ρ) H:=⟨ρ,rfl,c,e,h⟩
theorem d0C (Inv:Nat->(Nat->Value)->a0f->Prop) (n:Nat) (u:tc < nt) (x:Inv 0 ρ H)
  (step:∀ i ρ G,i<=n->Inv i ρ G->WR E fl rc (T nt ρ) G (e0T E fl nt tc b b2 n body rx Z Q R i Inv) R) :
  W E fl (.loop (.seq (.seq (.reg rc) (.cond (.tmp tc) .skip (.exit b))) (.seq (.block b2 body) (.reg rx)))) (T nt ρ) H (f0g b (h0P Z Q)) R:=by
 refine b0U (fun k t G=>∃ i ρ,i + k=n/\t=T nt ρ/\Inv i ρ G) Z n ⟨0,ρ,by omega,rfl,x⟩ ?_ (fun _ _ h=>h)
 clear x
 rintro k t G ⟨i,ρ,a0,rfl,x⟩
 refine g0U (g0U (l0z ((step i ρ G (by omega) x).mo ?_)))
 rintro t' G' ⟨v,rfl,I,M,N⟩
 simp only [d0l]
 by_cases hi:i < n
 ·have y:v tc=.bool true:=by rw [I,decide_eq_true hi]
  refine j0w true (by rw [i0J,b0T u,y]) (fun _=>s0j ?_) (by simp)
  simp only [d0l]
  refine g0U (m0h ((M hi).mo fun e L F c=>?_))
  have q:f0N E fl nt rx R i Inv L F->h0P (fun t' H'=>W E fl (.reg rx) t' H' (m0G b (fun t' H'=>∃ k',k' < k/\∃ i ρ,i + k' = n/\t' = T nt ρ/\Inv i ρ H') Z Q) R) (m0G b (fun t' H'=>∃ k',k' < k/\∃ i ρ,i + k' = n/\t' = T nt ρ/\Inv i ρ H') Z Q) .normal L F:=by
   intro h
   refine l0z (h.mo ?_)
   rintro t3 G3 ⟨z,rfl,O⟩
   exact ⟨k - 1,by omega,i + 1,z,by omega,rfl,O⟩
  cases e with
  | normal=>exact q c
  | exit j =>
   simp only [u0J] at c
   show (if j=b2 then _ else _)
   by_cases J:j=b2
   ·rw [k1B J] at c ⊢;exact q c
   ·rw [k1y J] at c ⊢
    show (if j=b then _ else _)
    by_cases s:j=b
    ·rw [k1B s] at c ⊢;exact c
    ·rw [k1y s] at c ⊢;exact c
  | ret=>exact c
 ·have U:i=n:=by omega
  have y:v tc=.bool false:=by rw [I,decide_eq_false hi]
  refine j0w false (by rw [i0J,b0T u,y]) (by simp) (fun _=>s0i ?_)
  show (if b=b then _ else _)
  rw [k1B rfl]
  exact N U
end
end
section
variable {fl:Nat} {H G:a0f} {R:a0D} {v w:Value}
theorem s0f {i j:Bool × List Nat} (h:b0g H v i) (k:b0g H w j) (hf:fl<=H.size) (hn:i.2.length < 1073741824):a0O env fl Z0h [v,w] H (fun r H'=>r=.bool (decide (i=j))/\Ext H H') R:=by
 obtain ⟨s,rfl,hs⟩:=h
 obtain ⟨u,rfl,z⟩:=k
 obtain ⟨bi,F⟩:=i
 obtain ⟨bj,I⟩:=j
 simp only at hs z hn ⊢
 refine a0i j1j hf (h:=?_)
 intro ρ J
 simp [e1o,R0u,J]
 generalize L:(H.push _).push _=G
 have x:Ext H G:=by rw [<- L];exact (Ext.refl H).push.push
 have b0:a0f.bk G H.size=.row false a0a [.bool bi,s]:=by rw [<- L];simp
 have y:a0f.bk G (H.size + 1)=.row false a0a [.bool bj,u]:=by rw [<- L];simp
 have N:=Ext.refl H
 clear L
 (try replace b0:=x.bk b0);(try replace y:=x.bk y);(try replace N:=N.trans x)
 have ks:=hs.mo N
 have ku:=z.mo N
 by_cases hb:bi=bj
 ·subst hb
  by_cases M:F.length=I.length
  ·simp [y0z,R0v,J,b0,y,hs.slen,z.slen,M]
   refine d0C (fun n ρ G'=>ρ 2=.pointer (some ⟨H.size,0,none⟩)/\ρ 3=.pointer (some ⟨H.size + 1,0,none⟩)/\ρ 5=.int .i64 (n:Int)/\G' = G/\F.take n=I.take n) F.length (by decide) (by simp) ?_
   rintro n ρ _ a1 ⟨O,g3,U,rfl,hpre⟩
   simp [R0w,O,U,b0,ks.slen]
   refine e0T.mk (by simp) (fun e=>?_) (fun q=>?_)
   ·have c:n < I.length:=by omega
    simp
    refine a0C ?_
    simp [R0x,O,g3,U,b0,y,ks.ia e,ku.ia c,ks.load e (Ext.refl _),ku.load c (Ext.refl _)]
    have e1:F.getD n 0=F[n]:=by simp [k1v,e]
    have e2:I.getD n 0=I[n]:=by simp [k1v,c]
    refine ⟨fun a0=>?_,fun q=>?_⟩
    ·simp [R0y]
     exact fun _ Z=>a0 (by subst Z;rfl)
    ·unfold f0N
     simp [R0z,U,b0z (show n < 4611686018427387904 by omega)]
     refine c0s.mk ⟨by simp [O],by simp [g3],by simp,rfl,?_⟩
     rw [k1N e,k1N c,hpre,<- e1,<- e2,k1v,k1v,q]
   ·subst q
    rw [k1M,M,k1M] at hpre
    simp [R0A]
    exact fun _=>hpre
  ·simp [y0z,I0G,J,b0,y,hs.slen,z.slen,M]
   exact fun _ Z=>M (by rw [Z])
 ·simp [y0z,I0G,J,b0,y,hs.slen,z.slen,hb]
theorem s0e {a b:b0b} (h:b0L H v a) (k:b0L H w b) (Z:fl<=H.size) (M:d0J a < 1073741824):a0O env fl a1M [v,w] H (fun r H'=>r=.bool (decide (a=b))/\Ext H H') R:=by
 obtain ⟨s,u,rfl,hs,hu⟩:=h
 obtain ⟨N,O,rfl,I,J⟩:=k
 have z:a.1.2.length < 1073741824:=by unfold d0J at M;omega
 have F:a.2.2.length < 1073741824:=by unfold d0J at M;omega
 refine a0i i1T Z (h:=?_)
 intro ρ L
 simp [d1Y,P0O,L]
 generalize y:(H.push _).push _=G
 have c:Ext H G:=by rw [<- y];exact (Ext.refl H).push.push
 have b0:a0f.bk G H.size=.row false a0b [.bool a.1.1,s,.bool a.2.1,u]:=by rw [<- y];simp
 have q:a0f.bk G (H.size + 1)=.row false a0b [.bool b.1.1,N,.bool b.2.1,O]:=by rw [<- y];simp
 have e:=Ext.refl H
 clear y
 (try replace b0:=c.bk b0);(try replace q:=c.bk q);(try replace e:=e.trans c)
 simp [P0P,L,b0,q]
 refine (s0f (i:=a.1) (j:=b.1) ⟨s,rfl,hs.mo e⟩ ⟨N,rfl,I.mo e⟩ e.1 z).mo ?_
 rintro _ U ⟨rfl,c⟩
 (try replace b0:=c.bk b0);(try replace q:=c.bk q);(try replace e:=e.trans c)
 by_cases x:a.1=b.1
 ·simp [x,b0,q]
  refine (s0f (i:=a.2) (j:=b.2) ⟨u,rfl,hu.mo e⟩ ⟨O,rfl,J.mo e⟩ e.1 F).mo ?_
  rintro _ U ⟨rfl,c⟩
  have:(a=b)=(a.2=b.2):=n1y ⟨fun h=>by rw [h],fun h=>Prod.ext x h⟩
  simp [x,this]
 ·simp [x]
  exact fun _ h=>x (by rw [h])
theorem Sls.at_ {α:Type} {P:a0f->List Value->α->Prop} {e sz:Nat} {l:List α} (h:Sls P H e sz v l) {j:Nat} (x:j < l.length) (hs:0 < sz) :
  ∃ b o cs,adr sz v j=.pointer (some ⟨b,o,none⟩)/\cs.length=sz/\P H cs l[j]/\b0v H true sz (.pointer (some ⟨b,o,none⟩))=some (.agg cs.toArray) /\
   (∀ k n,k + n<=sz->0 < n->b0v H true n (.pointer (some ⟨b,o + k,none⟩))=some (.agg ((cs.drop k).take n).toArray)) /\
   ∀ k,k < sz->b0v H false 1 (.pointer (some ⟨b,o + k,none⟩))=some (cs.getD k undef):=by
 obtain ⟨cs,⟨G,s⟩,z⟩:=h
 have u:=z j x
 rcases s with ⟨rfl,s⟩ | ⟨b,off,cap,ro,cells,rfl,hb,ho,rfl⟩
 ·omega
 ·have q:(j + 1) * sz<=l.length * sz:=k1E sz x
  rw [k1R,l1l] at q
  have y:(((cells.drop off).take (l.length * sz)).drop (j * sz)).take sz=(cells.drop (off + j * sz)).take sz:=by
   rw [m1S,m1H,m1g,l1x (by omega)]
  rw [y] at u
  have c:∀ k n,k + n<=sz->0 < n->b0v H true n (.pointer (some ⟨b,off + j * sz + k,none⟩))=some (.agg ((((cells.drop (off + j * sz)).take sz).drop k).take n).toArray):=by
   intro k n F I
   have hc:=f0t (off:=off + j * sz + k) (n:=n) hb (by omega)
   simp only [b0v]
   rw [k1y (by omega),k1y (by simp)]
   simp only [l1o,hc]
   rw [m1S,m1H,m1g,l1x (by omega)]
  refine ⟨b,off + j * sz,_,rfl,by simp;omega,u,?_,c,?_⟩
  ·have:=c 0 sz (by omega) hs
   simpa [m1H] using this
  ·intro k F
   have hc:=f0t (off:=off + j * sz + k) (n:=1) hb (by omega)
   simp only [b0v]
   rw [k1y (by simp),k1y (by simp)]
   simp only [hc,k1W,l1y]
   rw [List.head?_take,k1y (by simp),List.head?_drop,k1v,l1K,k1B (by omega),l1Q]
   rw [k1A (by omega)]
   rfl
def g0Y (a:b0b):Bool:=decide (6 < a.1.2.length) || decide (6 < a.2.2.length)
def j0H (e:c0f):Bool:=g0Y e.2
theorem m0a {l:List b0b} (h:b0r H v l) (hf:fl<=H.size) (hl:l.length < 1073741824):a0O env fl Z0d [v] H (fun r H'=>r=.bool (d0O g0Y l)/\Ext H H') R:=by
 refine a0i j1a hf (h:=?_)
 intro ρ M
 simp [e1f,Q0m,Q0n,M]
 refine d0C (fun n ρ G=>ρ 0=v/\ρ 3=.int .i64 (n:Int)/\Ext H G/\d0O g0Y (l.take n)=false) l.length (by decide) (by simp [M,h0W]) ?_
 clear M ρ
 rintro n ρ G a3 ⟨q,x,hx,hpre⟩
 have k:=h.mo a0K hx
 simp [Q0o,q,x,k.slen]
 refine e0T.mk (by simp) (fun c=>?_) (fun U=>?_)
 ·obtain ⟨b,o,cs,N,a2,hp,a1,a0,hc⟩:=k.at_ c (by decide)
  obtain ⟨s,u,O,hs,Z⟩:=hp
  have z:cs=[.bool l[n].1.1,s,.bool l[n].2.1,u]:=by simpa using n1E (fun v=>match v with | Value.agg a=>a.toList | _=>[]) O
  subst z
  have I:=hc 1 (by decide)
  have J:=hc 3 (by decide)
  simp at I J
  have hb:d0O g0Y (l.take (n + 1))=g0Y l[n]:=by rw [f0P c,hpre,n1i]
  have F:g0Y l[n]=true->d0O g0Y l=true:=h0X c
  by_cases y:6 < l[n].1.2.length
  ·have e:(6:Int) < (l[n].1.2.length:Int):=by omega
   simp [y0v,q,x,k.ia c,N,I,J,hs.slen,Z.slen,y,e,I0t]
   exact fun _=>F (by simp [g0Y,y])
  ·have e:¬ (6:Int) < (l[n].1.2.length:Int):=by omega
   by_cases L:6 < l[n].2.2.length
   ·have j:(6:Int) < (l[n].2.2.length:Int):=by omega
    simp [y0v,q,x,k.ia c,N,I,J,hs.slen,Z.slen,y,e,L,j,I0t]
    exact fun _=>F (by simp [g0Y,L])
   ·have j:¬ (6:Int) < (l[n].2.2.length:Int):=by omega
    simp [y0v,q,x,k.ia c,N,I,J,hs.slen,Z.slen,y,e,L,j]
    unfold f0N
    simp [Q0p,x,b0z (show n < 4611686018427387904 by omega)]
    refine c0s.mk ⟨by simp [q],by simp,hx,?_⟩
    rw [hb];simp [g0Y,y,L]
 ·subst U
  rw [k1M] at hpre
  simp [Q0q]
  exact fun _=>hpre
theorem K0a {a:b0b} {p:Nat} {ro:Bool} {cs:List Value} (hb:H.bk p=.row ro a0b cs) (h:b0L H (.agg cs.toArray) a):b0r H (.slice (some ⟨p,0,none⟩) 1 1) [a]:=by
 have c:cs.length=4:=by
  obtain ⟨s,u,hc,_⟩:=h
  have e:cs=[.bool a.1.1,s,.bool a.2.1,u]:=by simpa using n1E (fun v=>match v with | Value.agg a=>a.toList | _=>[]) hc
  rw [e];rfl
 refine ⟨cs,⟨by simp [c],.inr ⟨p,0,1,ro,cs,rfl,hb,by simp [c],by simp [<- c]⟩⟩,?_⟩
 intro j k
 have:j=0:=by simpa using k
 subst this
 simp only [n1H,l1F,List.getElem_cons_zero]
 rw [<- c,k1M]
 exact h
theorem u0h {l:List c0f} (h:e0i H v l) (hf:fl<=H.size):a0O env fl a1I [v] H (fun r H'=>r=.bool (decide (100 < l.length) || d0O j0H l)/\Ext H H') R:=by
 refine a0i i1J hf (h:=?_)
 intro ρ I
 by_cases Z:100 < l.length
 ·have q:(100:Int) < (l.length:Int):=by omega
  simp [c1L,F0S,F0T,O0K,I,h.slen,Z,q]
 have q:¬ (100:Int) < (l.length:Int):=by omega
 have hl:l.length < 1073741824:=by omega
 simp [c1L,F0S,F0T,O0L,I,h.slen,Z,q]
 refine d0C (fun n ρ G=>ρ 0=v/\ρ 3=.int .i64 (n:Int)/\Ext H G/\d0O j0H (l.take n)=false) l.length (by decide) (by simp [I,h0W]) ?_
 clear I ρ
 rintro n ρ G a2 ⟨J,L,x,hpre⟩
 have k:=h.mo c0q x
 simp [O0M,J,L,k.slen]
 refine e0T.mk (by simp) (fun e=>?_) (fun N=>?_)
 ·obtain ⟨b,o,cs,ha,a1,hp,a0,z,hc⟩:=k.at_ e (by decide)
  obtain ⟨s,u,M,hs,hu⟩:=hp
  have F:cs=[.int .i64 l[n].1,.bool l[n].2.1.1,s,.bool l[n].2.2.1,u]:=by simpa using n1E (fun v=>match v with | Value.agg a=>a.toList | _=>[]) M
  subst F
  have U:=z 1 4 (by decide) (by decide)
  simp at U
  have hb:d0O j0H (l.take (n + 1))=j0H l[n]:=by rw [f0P e,hpre,n1i]
  have O:j0H l[n]=true->d0O j0H l=true:=h0X e
  simp [O0N,J,L,k.ia e,ha,U]
  generalize hG:G.push _=G1
  obtain ⟨c,b0⟩:=g0e hG
  clear hG
  replace x:=x.trans c
  replace k:=k.mo c0q c
  have k0:b0r G1 (.slice (some ⟨G.size,0,none⟩) 1 1) [l[n].2]:=K0a b0 ⟨s,u,rfl,hs.mo c,hu.mo c⟩
  refine (m0a k0 x.1 (by simp)).mo ?_
  rintro _ G2 ⟨rfl,c⟩
  replace x:=x.trans c
  have j:d0O g0Y [l[n].2]=j0H l[n]:=by simp [d0O,j0H]
  by_cases y:j0H l[n]=true
  ·simp [j,y,O0O]
   exact fun _=>O y
  ·rw [n1p] at y
   simp [j,y]
   unfold f0N
   simp [O0P,L,b0z (show n < 4611686018427387904 by omega)]
   refine c0s.mk ⟨by simp [J],by simp,x,?_⟩
   rw [hb,y]
 ·subst N
  rw [k1M] at hpre
  simp [O0Q]
  exact fun _=>hpre
end
section
variable {H:a0f} {v:Value} {m:Nat} {cs:List Value}
theorem m0u {α:Type} {Q:Nat->α->Prop}:∀ n,(∀ i,i < n->∃ x,Q i x)->∃ l:List α,l.length=n/\∀ i (h:i < l.length),Q i l[i]
 | 0,_=>⟨[],rfl,fun i h=>by simp at h⟩
 | n + 1,h=>by
  obtain ⟨l,c,j⟩:=m0u n (fun i hi=>h i (by omega))
  obtain ⟨x,k⟩:=h n (by omega)
  refine ⟨l ++ [x],by simp [c],fun i hi=>?_⟩
  by_cases e:i < l.length
  ·rw [l1s e];exact j i e
  ·have:i=n:=by simp at hi;omega
   subst this
   rw [k1X (by omega)]
   simpa [c] using k
theorem z0F {α:Type} {c:Program} {P:a0f->List Value->α->Prop} {t e:TypeId} {sz:Nat} (G:c.underlying t=some (.slice e)) (hc:c.cellsOf e=sz)
  (k:∀ cs,cs.length=sz->IsT c H m e cs->∃ x,P H cs x) (h:IsT c H (m + 1) t [v]):∃ l,Sls P H e sz v l:=by
 unfold IsT at h
 rw [G] at h
 rcases h with h | ⟨b,len,cap,cells,s,I,J,u,j,q⟩
 ·have:v=.slice none 0 0:=by simpa using h
  subst this
  exact ⟨[],Sls.nil⟩
 ·have:v=.slice (some ⟨b,0,none⟩) len cap:=by simpa using s
  subst this
  rw [hc] at j q
  have y:∀ i,i < len->i * sz + sz<=cells.length:=by
   intro i hi
   have:(i + 1) * sz<=len * sz:=k1E _ hi
   rw [k1R,l1l] at this
   omega
  obtain ⟨l,F,z⟩:=m0u (Q:=fun i x=>P H ((cells.drop (i * sz)).take sz) x) len (fun i hi=>k _ (by have:=y i hi;simp;omega) (q i hi))
  subst F
  refine ⟨l,cells,⟨j,.inr ⟨b,0,cap,true,cells,rfl,u,by omega,?_⟩⟩,z⟩
  rw [l1F,<- j,k1M]
structure j0u (P:Program):Prop where
 u3:P.underlying 3=some (.int .i64)
 u4:P.underlying 4=some .bool
 u103:P.underlying 96=some (.int .u32)
 u28:P.underlying 36=some (.slice 96)
 u30:∃ f g:Field,P.underlying 38=some (.struct #[f,g])/\f.type=4/\g.type=36
 u32:∃ f g:Field,P.underlying 40=some (.struct #[f,g])/\f.type=38/\g.type=38
 u34:∃ f g:Field,P.underlying 42=some (.struct #[f,g])/\f.type=3/\g.type=40
 u37:P.underlying 43=some (.slice 40)
 u27:P.underlying 29=some (.slice 42)
 u23:P.underlying 22=some (.slice 43)
 u25:∃ f:Field,P.underlying 24=some (.struct #[f])/\f.type=22
 c103:P.cellsOf 96=1
 c37:P.cellsOf 43=1
 c32:P.cellsOf 40=4
 c34:P.cellsOf 42=5
variable {P:Program}
theorem h1M (e:j0u P) (h:IsT P H (m + 2) 36 [v]):∃ l,Lim H v l:=by
 obtain ⟨l,h⟩:=z0F (P:=fun _ cs (x:Nat)=>cs=[.int .u32 (x:Nat)]/\x < 4294967296) (sz:=1) e.u28 e.c103 (fun cs _ h=>by
  unfold IsT at h
  rw [e.u103] at h
  obtain ⟨n,rfl,j⟩:=h
  simp only [Lit.wf,k1L,l1k] at j
  have s:0<=n:=j.1
  have c:n<=4294967295:=j.2
  exact ⟨n.toNat,by rw [m1P s],by omega⟩) h
 obtain ⟨cs,c,k⟩:=h
 refine ⟨l,?_,fun x G=>?_⟩
 ·have:cs=c0e l:=by
   apply n1q
   ·have:=c.1;simp [c0e];omega
   ·intro i u y
    have z:i < l.length:=by simpa using y
    have q:=(k i z).1
    rw [l1H,l1q u,m1Q] at q
    have F:=(List.cons.inj q).1
    rw [F];simp [c0e]
  rw [<- this];exact c
 ·obtain ⟨i,hi,rfl⟩:=l1L G
  exact (k i hi).2
theorem b1y (c:j0u P) (h:IsT P H (m + 1) 4 cs):∃ b,cs=[.bool b]:=by
 unfold IsT at h
 rw [c.u4] at h;exact h
theorem q0D (c:j0u P) (h:IsT P H (m + 1) 3 cs):∃ n,cs=[.int .i64 n]:=by
 unfold IsT at h
 rw [c.u3] at h
 obtain ⟨n,h,_⟩:=h;exact ⟨n,h⟩
theorem h1N (c:j0u P) (h:IsT P H (m + 1) 36 cs):∃ v,cs=[v]:=by
 unfold IsT at h
 rw [c.u28] at h
 rcases h with h | ⟨b,len,cap,cells,h,_⟩ <;> exact ⟨_,h⟩
theorem L0F (j:j0u P) (h:IsT P H (m + 3) 38 cs):∃ b s l,cs=[.bool b,s]/\Lim H s l:=by
 obtain ⟨f,g,x,u,v⟩:=j.u30
 unfold IsT at h
 rw [x] at h
 obtain ⟨c,rfl,k,hp⟩:=h
 obtain ⟨p,q,rfl⟩:∃ p q,c=[p,q]:=by
  match c,k with
  | [p,q],_=>exact ⟨p,q,rfl⟩
 obtain ⟨b,rfl⟩:=b1y j (by simpa [u] using hp 0 _ rfl)
 have e:IsT P H (m + 2) 36 q:=by simpa [v] using hp 1 _ rfl
 obtain ⟨s,rfl⟩:=h1N j e
 obtain ⟨l,k⟩:=h1M j e
 exact ⟨b,s,l,rfl,k⟩
theorem b1A (j:j0u P) (h:IsT P H (m + 4) 40 cs):∃ a,b0L H (.agg cs.toArray) a:=by
 obtain ⟨f,g,v,x,y⟩:=j.u32
 unfold IsT at h
 rw [v] at h
 obtain ⟨e,rfl,z,hp⟩:=h
 obtain ⟨p,q,rfl⟩:∃ p q,e=[p,q]:=by
  match e,z with
  | [p,q],_=>exact ⟨p,q,rfl⟩
 obtain ⟨b,s,l,rfl,hs⟩:=L0F j (by simpa [x] using hp 0 _ rfl)
 obtain ⟨c,u,k,rfl,v⟩:=L0F j (by simpa [y] using hp 1 _ rfl)
 exact ⟨((b,l),(c,k)),s,u,rfl,hs,v⟩
theorem h1K (j:j0u P) (h:IsT P H (m + 5) 42 cs):∃ e,g0L H (.agg cs.toArray) e:=by
 obtain ⟨f,g,x,y,z⟩:=j.u34
 unfold IsT at h
 rw [x] at h
 obtain ⟨c,rfl,F,hp⟩:=h
 obtain ⟨p,q,rfl⟩:∃ p q,c=[p,q]:=by
  match c,F with
  | [p,q],_=>exact ⟨p,q,rfl⟩
 obtain ⟨n,rfl⟩:=q0D j (by simpa [y] using hp 0 _ rfl)
 obtain ⟨a,s,u,hc,hs,x⟩:=b1A j (by simpa [z] using hp 1 _ rfl)
 have k:q=[.bool a.1.1,s,.bool a.2.1,u]:=by simpa using n1E (fun v=>match v with | Value.agg a=>a.toList | _=>[]) hc
 subst k
 exact ⟨(n,a),s,u,rfl,hs,x⟩
theorem b1B (c:j0u P) (h:IsT P H (m + 5) 43 [v]):∃ l,b0r H v l:=z0F c.u37 c.c32 (fun _ _ h=>b1A c h) h
theorem b1z (c:j0u P) (h:IsT P H (m + 6) 29 [v]):∃ l,e0i H v l:=z0F c.u27 c.c34 (fun _ _ h=>h1K c h) h
theorem b1C (c:j0u P) (h:IsT P H (m + 6) 22 [v]):∃ l,e0U H v l:=z0F c.u23 c.c37 (fun cs hc h=>by
 obtain ⟨w,rfl⟩:∃ w,cs=[w]:=by
  match cs,hc with
  | [w],_=>exact ⟨w,rfl⟩
 obtain ⟨l,e⟩:=b1B c h
 exact ⟨l,w,rfl,e⟩) h
theorem W0z (c:j0u P) (h:IsV P H (m + 6) 29 v):∃ l,e0i H v l:=by
 unfold IsV at h;rw [c.u27] at h;exact b1z c h
theorem L0c (j:j0u P) (h:IsV P H (m + 7) 24 v):∃ rows,d0f H v rows:=by
 obtain ⟨f,q,u⟩:=j.u25
 unfold IsV at h;rw [q] at h
 obtain ⟨cs,rfl,h⟩:=h
 unfold IsT at h
 rw [q] at h
 obtain ⟨c,hc,k,hp⟩:=h
 obtain ⟨p,rfl⟩:∃ p,c=[p]:=by
  match c,k with
  | [p],_=>exact ⟨p,rfl⟩
 have e:IsT P H (m + 6) 22 p:=by simpa [u] using hp 0 _ rfl
 obtain ⟨s,rfl⟩:∃ s,p=[s]:=by
  unfold IsT at e
  rw [j.u23] at e
  rcases e with h | ⟨b,len,cap,cells,h,_⟩ <;> exact ⟨_,h⟩
 obtain ⟨l,k⟩:=b1C j e
 have:cs = #[s]:=by rw [<- Array.toList_inj];simpa using hc
 exact ⟨l,s,by rw [this],k⟩
theorem Sls.first {α:Type} {P:a0f->List Value->α->Prop} {e sz:Nat} {l:List α} (h:Sls P H e sz v l) {n:Nat} (u:n<=l.length) {k:IntKind} :
  ∃ v',e0g sz v none (some (.int k n)) none=some v'/\Sls P H e sz v' (l.take n)/\elemOk H e v=true:=by
 obtain ⟨cs,s,z⟩:=h
 obtain ⟨v',F,G⟩:=s.slice (lo:=0) (hi:=n) (x:=none) (y:=some (.int k n)) (l1D _) u rfl (by simp [bnd])
 refine ⟨v',F,⟨_,by rw [l1v,l1x u];simpa using G,?_⟩,s.elemOk (Ext.refl _)⟩
 intro j I
 have c:j < n:=by simp at I;omega
 have q:(j + 1) * sz<=n * sz:=k1E _ c
 rw [k1R,l1l] at q
 have:=z j (by omega)
 simp only [List.getElem_take,n1G,n1H,l1F]
 rw [m1S,m1H,l1x (by omega)]
 exact this
theorem types:j0u Tryz.prog where
 u3:=Tryz.underlying3
 u4:=by kernel_rfl
 u103:=Tryz.underlying96
 u28:=Tryz.underlying36
 u30:=⟨_,_,Tryz.underlying38,rfl,rfl⟩
 u32:=⟨_,_,Tryz.underlying40,rfl,rfl⟩
 u34:=⟨_,_,Tryz.underlying42,rfl,rfl⟩
 u37:=Tryz.underlying43
 u27:=Tryz.underlying29
 u23:=Tryz.underlying22
 u25:=⟨_,Tryz.underlying24,rfl⟩
 c103:=by kernel_rfl
 c37:=by kernel_rfl
 c32:=by kernel_rfl
 c34:=by kernel_rfl
end
section
variable {e f g:c0f}
variable {a b c:List c0f}
end
section
def i0k (E:Env) (fl nt tc b b2:Nat) (body:SCode) (rx:List a0J) (Z:b0c->a0f->Prop) (Q:e0c) (R:a0D) (n i:Nat) (Inv:Nat->(Nat->Value)->a0f->Prop) (t:b0c) (H:a0f):Prop :=
 ∃ ρ' c,t=T nt ρ'/\ρ' tc=.bool c/\(c=true->i < n/\W E fl body (T nt ρ') H (u0J b2 b (f0N E fl nt rx R i Inv) Z Q) R)/\(c=false->Z (T nt ρ') H)
section
variable {E:Env} {fl nt tc b b2 n i:Nat} {body:SCode} {rx rc:List a0J} {Z:b0c->a0f->Prop} {Q:e0c} {R:a0D} {Inv:Nat->(Nat->Value)->a0f->Prop} {ρ:Nat->Value} {H:a0f}
theorem i0k.mk (c:Bool) (e:ρ tc=.bool c) (h:c=true->i < n/\W E fl body (T nt ρ) H (u0J b2 b (f0N E fl nt rx R i Inv) Z Q) R) (j:c=false->Z (T nt ρ) H):i0k E fl nt tc b b2 body rx Z Q R n i Inv (T nt ρ) H:=⟨ρ,c,rfl,e,h,j⟩
theorem w0O (Inv:Nat->(Nat->Value)->a0f->Prop) (n:Nat) (v:tc < nt) (x:Inv 0 ρ H)
  (step:∀ i ρ G,i<=n->Inv i ρ G->WR E fl rc (T nt ρ) G (i0k E fl nt tc b b2 body rx Z Q R n i Inv) R) :
  W E fl (.loop (.seq (.seq (.reg rc) (.cond (.tmp tc) .skip (.exit b))) (.seq (.block b2 body) (.reg rx)))) (T nt ρ) H (f0g b (h0P Z Q)) R:=by
 refine b0U (fun k t G=>∃ i ρ,i + k=n/\t=T nt ρ/\Inv i ρ G) Z n ⟨0,ρ,by omega,rfl,x⟩ ?_ (fun _ _ h=>h)
 clear x
 rintro k t G ⟨i,ρ,O,rfl,x⟩
 refine g0U (g0U (l0z ((step i ρ G (by omega) x).mo ?_)))
 rintro t' G' ⟨U,c,rfl,I,y,M⟩
 simp only [d0l]
 cases c with
 | true =>
  obtain ⟨hi,y⟩:=y rfl
  refine j0w true (by rw [i0J,b0T v,I]) (fun _=>s0j ?_) (by simp)
  simp only [d0l]
  refine g0U (m0h (y.mo fun e L F q=>?_))
  have s:f0N E fl nt rx R i Inv L F->h0P (fun t' H'=>W E fl (.reg rx) t' H' (m0G b (fun t' H'=>∃ k',k' < k/\∃ i ρ,i + k' = n/\t' = T nt ρ/\Inv i ρ H') Z Q) R) (m0G b (fun t' H'=>∃ k',k' < k/\∃ i ρ,i + k' = n/\t' = T nt ρ/\Inv i ρ H') Z Q) .normal L F:=by
   intro h
   refine l0z (h.mo ?_)
   rintro t3 G3 ⟨z,rfl,N⟩
   exact ⟨k - 1,by omega,i + 1,z,by omega,rfl,N⟩
  cases e with
  | normal=>exact s q
  | exit j =>
   simp only [u0J] at q
   show (if j=b2 then _ else _)
   by_cases J:j=b2
   ·rw [k1B J] at q ⊢;exact s q
   ·rw [k1y J] at q ⊢
    show (if j=b then _ else _)
    by_cases u:j=b
    ·rw [k1B u] at q ⊢;exact q
    ·rw [k1y u] at q ⊢;exact q
  | ret=>exact q
 | false =>
  refine j0w false (by rw [i0J,b0T v,I]) (by simp) (fun _=>s0i ?_)
  show (if b=b then _ else _)
  rw [k1B rfl]
  exact M rfl
end
variable {fl:Nat} {H G:a0f} {R:a0D} {v w:Value}
def e0I:List (List b0b)->Nat
 | []=>0
 | r :: l=>e0I l + (1 + min r.length 201)
theorem A0n (l:List (List b0b)) (r:List b0b):e0I (l ++ [r])=e0I l + (1 + min r.length 201):=by
 induction l with
 | nil=>simp [e0I]
 | cons x l ih=>simp only [m1B,e0I,ih];omega
theorem A0o {l:List (List b0b)} {i:Nat} (h:i < l.length):e0I (l.take (i + 1))=e0I (l.take i) + (1 + min l[i].length 201):=by
 rw [k1N h,A0n]
def o0t (r:List b0b):Bool:=decide (r.length<=200) && d0O g0Y r
theorem x0m (l:List (List b0b)):l.length<=e0I l:=by
 induction l with
 | nil=>simp [e0I]
 | cons x l ih=>simp only [l1p,e0I];omega
theorem C0i {l:List (List b0b)} {r:List b0b} (h:r ∈ l):min r.length 201 < e0I l:=by
 induction l with
 | nil=>simp at h
 | cons x l ih =>
  simp only [e0I]
  rcases m1b.1 h with rfl | h
  ·omega
  ·have:=ih h;omega
def B0Q (l:List (List b0b)):Prop:=l.length<=200/\∀ r ∈ l,r.length<=200/\d0O g0Y r=false
theorem X0p {l:List (List b0b)} (h:e0I l<=200) (k:d0O o0t l=false):B0Q l:=by
 refine ⟨k1H (x0m l) h,fun r e=>?_⟩
 have j:=C0i e
 have c:r.length<=200:=by omega
 refine ⟨c,?_⟩
 cases ha:d0O g0Y r with
 | false=>rfl
 | true=>exact k1Q (List.any_eq_true.2 ⟨r,e,show o0t r=true by unfold o0t;rw [ha];simp [c]⟩) (by unfold d0O at k;rw [k];decide)
theorem u0i {l:List (List b0b)} (h:e0U H v l) (hf:fl<=H.size):a0O env fl a1K [v] H (fun r H'=>(∃ c,r=.bool c/\(c=false->B0Q l))/\Ext H H') R:=by
 refine a0i i1R hf (h:=?_)
 intro ρ O
 simp [d1W,P0C,P0D,P0E,O]
 refine w0O (fun n ρ G=>ρ 0=v/\ρ 4=.int .i64 (n:Int)/\ρ 3=.int .i64 ((e0I (l.take n):Nat):Int)/\e0I (l.take n)<=402/\n<=403/\Ext H G/\d0O o0t (l.take n)=false) l.length (by decide) (by simp [O,h0W,e0I]) ?_
 clear O ρ
 rintro n ρ G a3 ⟨s,u,x,hb,a4,F,hpre⟩
 have k:=h.mo d0u F
 have a5:n<=e0I (l.take n):=by have:=x0m (l.take n);rw [l1v] at this;omega
 by_cases e:n < l.length
 ·have a1:(n:Int) < (l.length:Int):=by omega
  by_cases h2:e0I (l.take n)<=200
  ·have j:((e0I (l.take n):Nat):Int)<=200:=by omega
   simp [y0t,s,u,x,k.slen,e,h2,j]
   refine i0k.mk true (by simp [j]) (fun _=>⟨e,?_⟩) (by simp)
   obtain ⟨w,z,N⟩:=e0U.load k e
   have Z:u0P false (.int .i64 (l[n].length:Int)) [.int .i64 201]=some (.int .i64 ((min l[n].length 201:Nat):Int)):=by
    simp only [u0P,mn2,k1W,l1y,k1z,Value.int.injEq,true_and]
    split <;> omega
   have J:IntKind.i64.wrap (((e0I (l.take n):Nat):Int) + 1)=((e0I (l.take n) + 1:Nat):Int):=b0z (by omega)
   have hs:=A0o e
   have L:IntKind.i64.wrap (((e0I (l.take n) + 1:Nat):Int) + ((min l[n].length 201:Nat):Int))=((e0I (l.take (n + 1)):Nat):Int):=by
    rw [a0S (by omega) (by omega),hs];omega
   simp only [Int.natCast_add,Int.cast_ofNat_Int] at J L
   simp [P0F,s,u,x,k.ia e,z,N.slen,Z]
   simp [J]
   rw [L]
   have a2:o0t l[n]=true->d0O o0t l=true:=h0X e
   have I:d0O o0t (l.take (n + 1))=o0t l[n]:=by rw [f0P e,hpre,n1i]
   have M:=b0z (show n < 4611686018427387904 by omega)
   by_cases y:l[n].length<=200
   ·have q:(l[n].length:Int)<=200:=by omega
    simp [I0o,s,u,k.ia e,z,N.slen,y,q]
    refine (m0a N F.1 (by omega)).mo ?_
    rintro _ G2 ⟨rfl,a0⟩
    replace F:=F.trans a0
    cases hlo:d0O g0Y l[n] with
    | true=>simp [P0G]
    | false =>
     simp
     unfold f0N
     simp [I0p,u,M]
     refine c0s.mk ⟨by simp [s],by simp,by simp,by omega,by omega,F,?_⟩
     rw [I];unfold o0t;simp [hlo]
   ·have q:¬ (l[n].length:Int)<=200:=by omega
    simp [I0o,s,u,k.ia e,z,N.slen,y,q]
    unfold f0N
    simp [I0p,u,M]
    refine c0s.mk ⟨by simp [s],by simp,by simp,by omega,by omega,F,?_⟩
    rw [I];unfold o0t;simp [y]
  ·have j:¬ ((e0I (l.take n):Nat):Int)<=200:=by omega
   simp [y0t,s,u,x,k.slen,e,h2,j]
   refine i0k.mk false (by simp [j]) (by simp) (fun _=>?_)
   have U:(200:Int) < ((e0I (l.take n):Nat):Int):=by omega
   simp [I0q,x,U]
 ·have he:n=l.length:=by omega
  subst he
  simp [y0t,s,u,x,k.slen]
  refine i0k.mk false (by simp) (by simp) (fun _=>?_)
  rw [k1M] at hpre x
  simp [I0q,x]
  intro _
  by_cases U:e0I l<=200
  ·exact .inl ⟨by omega,X0p U hpre⟩
  ·exact .inr (by omega)
end
section
@[simp] theorem Y0L {w:Bool}:A0t w undef=false:=nr rfl
variable {fl:Nat} {H G:a0f} {R:a0D} {v w:Value} {l:List Nat} {i:Bool × List Nat}
def newB (H:a0f) (r:Value):Prop:=∀ q,slB r=some q->H.size<=q
theorem Own.newB {e sz n:Nat} {cs:List Value} (h:Own H.size G e sz v n cs):AI.newB H v:=by
 obtain ⟨_,⟨rfl,_⟩ | ⟨b,cap,rfl,_,hb⟩⟩:=h
 ·intro q c;cases c
 ·intro q c
  simp only [slB,k1z] at c
  omega
theorem newB.of {u:Value} (h:newB H v) (c:slB u=slB v):newB H u:=fun q e=>h q (by rw [<- c];exact e)
theorem newB.ne {p:Nat} (h:newB H v) (hp:p < H.size):slB v ≠ some p:=fun c=>by have:=h p c;omega
theorem K0t {x y z:Option Value} {n:Nat} {u:Value} (h:e0g n v x y z=some u):slB u=slB v:=by
 unfold e0g at h
 split at h
 ·rename_i p len cap
  split at h
  ·split at h
   ·split at h
    ·simp only [k1z] at h
     subst h
     cases p <;> rfl
    ·split at h
     ·split at h
      ·simp only [k1z] at h
       subst h
       cases p <;> rfl
      ·cases h
     ·cases h
   ·cases h
  ·cases h
 ·cases h
theorem e0Z (h:Lim H v l) (M:fl<=H.size) (O:l.length < 4611686018427387904):a0O env fl B0J [v] H (fun r H'=>(Lim H' r (d0S l)/\slB r=slB v)/\Ext H H') R:=by
 refine a0i j1I M (h:=?_)
 intro ρ I
 simp [e1N,T0B,T0C,I,h.slen]
 refine b0U (fun k t G=>G=H/\t.length=21/\get t 0=v/\get t 3=.int .i64 k/\k<=l.length/\d0S (l.take k)=d0S l)
  (fun t G=>∃ k:Nat,G=H/\t.length=21/\get t 0=v/\get t 3=.int .i64 k/\k<=l.length/\d0S l=l.take k) l.length (by simp [I]) ?_ ?_
 ·rintro k t G ⟨rfl,z,j,q,s,c⟩
  obtain ⟨ρ,rfl⟩:=toT z
  simp only [b0T,Nat.reduceLT] at j q
  by_cases u:k=0
  ·subst u
   simp [J0c,j,q]
   exact ⟨0,by simp,by simp,by rw [<- c];rfl⟩
  ·have hp:0 < k:=by omega
   have N:IntKind.i64.wrap ((k:Int) - 1)=((k - 1:Nat):Int):=by rw [a0S (by omega) (by omega)];omega
   simp [J0c,T0D,j,q,hp,N,h.ia (show k - 1 < l.length by omega),h.load (show k - 1 < l.length by omega)]
   have e:l.take k=l.take (k - 1) ++ [l.getD (k - 1) 0]:=by rw [<- e0B (by omega)];congr 1;omega
   rw [k1v] at e
   refine ⟨fun F=>⟨k - 1,by omega,rfl,by omega,?_⟩,fun F=>⟨k,rfl,s,?_⟩⟩
   ·rw [<- c,e,F,n0U]
   ·rw [<- c,e,k0Z F]
 ·rintro t G ⟨k,rfl,z,j,q,s,c⟩
  obtain ⟨ρ,rfl⟩:=toT z
  simp only [b0T,Nat.reduceLT] at j q
  obtain ⟨v',J,L⟩:=h.take s (x:=none) rfl (y:=some (.int .i64 (k:Int))) (by simp)
  simp [T0E,j,q,h.elemOk,J]
  rw [c];exact ⟨L,K0t J⟩
theorem f0C (h:Lim H v l) (c:fl<=H.size) (e:l.length < 4611686018427387904):a0O env fl B0J [v] H (fun r H'=>Lim H' r (d0S l)/\Ext H H') R:=(e0Z h c e).mo fun _ _ h=>⟨h.1.1,h.2⟩
theorem f0j (h:b0g H v i) (O:fl<=H.size) (U:i.2.length < 4611686018427387904):a0O env fl X0k [v] H (fun r H'=>r=.bool (g0n i)/\Ext H H') R:=by
 obtain ⟨s,rfl,hs⟩:=h
 obtain ⟨L,c⟩:=i
 simp only at hs U ⊢
 refine a0i k1j O (h:=?_)
 intro ρ z
 simp [f1n,V0L,z]
 generalize I:H.push _=G
 obtain ⟨x,b0⟩:=g0e I
 have u:=Ext.refl H
 clear I
 replace u:=u.trans x
 have y:=hs.mo u
 unfold g0n
 simp [V0M,z,b0,y.slen]
 by_cases J:c.length=0
 ·have j:c=[]:=by simpa using J
  subst j
  cases L <;> simp [J0S,b0]
 ·have hp:0 < c.length:=by omega
  have q:c ≠ []:=fun h=>J (by rw [h];rfl)
  have Z:IntKind.i64.wrap ((c.length:Int) - 1)=((c.length - 1:Nat):Int):=by rw [a0S (by omega) (by omega)];omega
  have e:c.length - 1 < c.length:=by omega
  have N:=y.ia e (k:=.i64)
  have F:=y.load e (Ext.refl _)
  have M:((c.length:Int)=0)=False:=by simp;omega
  have e2:((0:Int) < (c.length:Int))=True:=by simp;omega
  rw [k1v] at F
  simp [q,hp,J0S,b0,M,e2,Z,N,F]
theorem c1N {G G3:a0f} {q:Nat} {r:Blk} {ro:Bool} {cs:List Value} {s:Value} (c:Array.setIfInBounds G q r=G3) (h:Ext H G) (hs:Lim G s l) (hb:a0f.bk G q=.row ro a0a cs) (e:H.size<=q) :
  Lim G3 s l/\Ext H G3/\a0f.bk G3 q=r:=⟨by rw [<- c];exact hs.setT hb (by decide),a0I c h e,a0r c hb⟩
theorem X0y (h:b0u i.2):(if g0n i then i else (false,[]))=a0g (a0s i):=by
 cases hm:g0n i with
 | false=>simp [a0s,hm,a0g,a0Y]
 | true =>
  have c:=j0G h
  unfold f0h at c
  rw [hm] at c
  have e:=C0k i
  unfold b1G at e
  rw [hm] at e
  simp at c e
  simp only [l1o]
  exact Prod.ext (by rw [e];rfl) c
theorem b0Q (h:b0g H v i) (J:fl<=H.size) (M:i.2.length < 4611686018427387904):a0O env fl u0I [v] H (fun r H'=>b0g H' r (a0g (a0s i))/\Ext H H') R:=by
 rw [<- X0y h.ok]
 have q:=h
 obtain ⟨s,rfl,hs⟩:=h
 refine a0i j1E J (h:=?_)
 intro ρ F
 simp [e1J,T0i,F,hs.cells]
 generalize u:(H.push _).push _=G
 have c:Ext H G:=by rw [<- u];exact (Ext.refl H).push.push
 have b0:a0f.bk G H.size=.row false a0a [.bool i.1,s]:=by rw [<- u];simp
 have e:a0f.bk G (H.size + 1)=.row false a0a [.bool false,.slice none 0 0]:=by rw [<- u];simp
 have k:=Ext.refl H
 clear u
 replace k:=k.trans c;replace q:=q.mo c
 simp [T0j,b0]
 refine (f0j q k.1 M).mo ?_
 rintro _ y ⟨rfl,c⟩
 replace b0:=c.bk b0;replace e:=c.bk e;replace k:=k.trans c;replace q:=q.mo c
 have hsz:=k.1
 have L:=a0k e
 cases hm:g0n i with
 | true =>
  obtain ⟨z,I,j⟩:=q
  have:z = s:=by simpa using I.symm
  subst this
  simp [T0l,b0,e,j.cells,j.plain,hsz]
  generalize x:Array.setIfInBounds y _ _=G3
  obtain ⟨O,N,b3⟩:=c1N x k j e (by omega)
  simp [b3]
  exact fun _=>⟨z,rfl,O⟩
 | false =>
  simp [T0k,b0,e,hsz]
  generalize x:Array.setIfInBounds y _ _=G3
  have b3:=a0r x e
  simp [b3]
  exact fun _=>⟨.slice none 0 0,rfl,Lim.nil⟩
theorem c0j {b:Bool} (z:Int) (h:Lim H v l) (hf:fl<=H.size) (hn:l.length<=1073741824) (hz:(if b then -(a0y l:Int) else a0y l)=z) :
  a0O env fl u0H [.bool b,v] H (fun r H'=>b0g H' r (a0g z)/\Ext H H') R:=by
 rw [<- hz,<- O0m h.ok]
 refine a0i j1e hf (h:=?_)
 intro ρ N
 simp [e1j,Q0X,Q0Y,N]
 generalize U:H.push _=G
 obtain ⟨c,b0⟩:=g0e U
 have j:=Ext.refl H
 clear U
 replace j:=j.trans c
 replace h:=h.mo j
 refine (f0C h j.1 (by omega)).mo ?_
 rintro u q ⟨y,c⟩
 replace b0:=c.bk b0;replace j:=j.trans c
 have hsz:=j.1
 simp
 by_cases x:d0S l=[]
 ·have I:mkI b l=(false,[]):=by simp [mkI,x]
  rw [I]
  rw [x] at y
  simp [I0D,Q0Z,y.slen,b0,hsz]
  generalize F:Array.setIfInBounds q _ _=G3
  have b3:=a0r F b0
  simp [b3]
  exact fun _=>⟨.slice none 0 0,rfl,Lim.nil⟩
 ·have I:mkI b l=(b,d0S l):=by simp [mkI,x]
  rw [I]
  have a0:¬ (d0S l).length=0:=by simpa using x
  have a1:(d0S l).length<=l.length:=by
   rw [c0a l h.ok];exact e0r (g0q l h.ok)
  simp [I0D,R0a,y.slen,b0,hsz,x,N]
  have k:Ext q (q.push (.row false a0l [])):=(Ext.refl q).push
  have a2:=a0k b0
  obtain ⟨v',G',Z,O,h3,h4⟩:=k0r (fl:=H.size) (G:=q.push (.row false a0l [])) (s:=.slice (some ⟨q.size,0,none⟩) 0 0) (e:=a0l) (cs:=[]) (sz:=1) (n:=0) (bytes:=4) (e2:=a0l)
   (Own.mk a0G rfl hsz) (y.mo k).1 k0K (by omega) (by omega) (by omega) (by simp;omega)
  rw [l1e,l1Z] at O
  have M:G'.bk H.size=.row false a0a [.bool false,.slice none 0 0]:=by
   rw [h3.2 _ (by simp;omega) (by simp [slB];omega)]
   exact k.bk b0
  have L:Lim G' v' (d0S l):=⟨O.sl,y.2⟩
  have J:Ext H G':=h4 H (k1x _) (j.trans k)
  simp [Z,L.cells,L.plain,M,b0x]
  generalize F:Array.setIfInBounds G' _ _=G3
  obtain ⟨kS,a3,b3⟩:=c1N F J L M (by omega)
  simp [b3]
  exact fun _=>⟨v',rfl,kS⟩
end
section
variable {fl:Nat} {H G:a0f} {R:a0D} {v w u:Value}
def rV:RK->a0f->Value->Int->Prop
 | .few,_,w,z=>w=.int .i64 z/\f0M z
 | .all,H,w,z=>b0g H w (a0g z)
def r0f:RK->a0D->Prop
 | .few,R=>R w0C
 | .all,_=>True
abbrev RK.P (F:RK):a0f->List Value->Int->Prop:=F.p PF PI
abbrev RK.E (F:RK):Nat:=F.p d0N a0a
abbrev RK.S (F:RK):Nat:=F.p f0a b0i
abbrev RK.T (F:RK):Nat:=F.p a0d a0c
@[simp] theorem RK.p_few {α:Type} {a b:α}:RK.p .few a b=a:=nr rfl
@[simp] theorem RK.p_all {α:Type} {a b:α}:RK.p .all a b=b:=nr rfl
@[simp] theorem RK.p_same {α:Type} {F:RK} {a:α}:F.p a a=a:=nr (by cases F <;> rfl)
@[simp high] theorem d1H {F:RK} {x y:FuncId}:List.lookup (F.p a0n a0m) [(a0m,x),(a0n,y)]=some (F.p y x):=nr (by cases F <;> rfl)
theorem X0F:∀ {F:RK},Z0K F.E F.w F.P
 | .few=>Z0z
 | .all=>Z0y
section
variable {F:RK} {z a b c d e:Int} {wa wb wc wd we:Value}
theorem rV.mo (h:rV F H w z) (c:Ext H G):rV F G w z:=by cases F;exact h;exact b0g.mo h c
theorem rV.lx (h:rV F H w z) (c:Lx H G):rV F G w z:=by cases F;exact h;exact b0g.lx h c
theorem rV.st (h:rV F H w z):(a0W w).length=F.w/\(a0W w).all a0v=true/\F.P H (a0W w) z:=by
 cases F
 ·obtain ⟨rfl,h⟩:=h;exact ⟨rfl,rfl,rfl,h⟩
 ·obtain ⟨s,rfl,h⟩:=h;exact ⟨rfl,by simp [h.plain],s,rfl,h⟩
def kpV (F:RK) (H:a0f) (x:Value):Option Value:=F.p (some x) (b0v H true 2 x)
@[simp ↓] theorem f1y {E:Env} {d s:Nat} {r:List a0J} {t:b0c} {Z:b0c->a0f->Prop} :
  WR E fl (F.p [⟨some d,none,.mv (.tmp s)⟩] [⟨some d,none,.load true 2 (.tmp s)⟩] ++ r) t H Z R=oo (kpV F H (get t s)) fun v=>WR E fl r (put t (some d) v) H Z R:=by
 cases F
 ·show WR E fl (⟨some d,none,.mv (.tmp s)⟩ :: r) t H Z R=_
  rw [m0f,K0T,show kpV .few H (get t s)=some (get t s) from rfl,q0N];rfl
 ·show WR E fl (⟨some d,none,.load true 2 (.tmp s)⟩ :: r) t H Z R=_
  rw [m0f,u0l];rfl
theorem s0d (h:rV F H w z) (c:fl<=H.size) (e:lz z < 67108864):a0O env fl (F.p o0o o0n) [eV,w] H (fun r H'=>r=.int .i64 (c0L z 0)/\Ext H H') R:=by
 cases F
 ·obtain ⟨rfl,_⟩:=h;exact q0z c
 ·exact q0j h c e
theorem y0Z (h:rV F H w z) (c:fl<=H.size) (k:lz z < 67108864):a0O env fl (F.p m0z m0y) [eV,w] H (fun r H'=>rV F H' r (-z)/\Ext H H') R:=by
 cases F
 ·obtain ⟨rfl,h⟩:=h;exact (s0H c h).mo fun r H' ⟨e,j⟩=>⟨⟨e,by unfold f0M at *;omega⟩,j⟩
 ·exact s0l h c k
theorem W0j (e:rV F H wa a) (hb:rV F H wb b) (hc:rV F H wc c) (h:rV F H wd d) (j:fl<=H.size) (la:lz a < 67108864) (k:lz b < 67108864) (q:lz c < 67108864) (s:lz d < 67108864) :
  a0O env fl (F.p z0w z0v) [eV,wa,wb,wc,wd] H (fun r H'=>r=.int .i64 (c0L (a * b) (c * d))/\Ext H H') R:=by
 cases F
 ·obtain ⟨rfl,e⟩:=e;obtain ⟨rfl,hb⟩:=hb;obtain ⟨rfl,hc⟩:=hc;obtain ⟨rfl,h⟩:=h
  exact o0p j e hb hc h
 ·exact o0e e hb hc h j la k q s
theorem N0S (j:rV F H wa a) (hb:rV F H wb b) (hc:rV F H wc c) (k:rV F H wd d) (q:rV F H we e) (s:fl<=H.size) (la:lz a < 67108864) (u:lz b < 67108864) (v:lz c < 67108864) (x:lz d < 67108864) (le:lz e < 67108864) (h:e ≠ 0) (hR:r0f F R) :
  a0O env fl (F.p q0v q0u) [eV,wa,wb,wc,wd,we] H (fun r H'=>rV F H' r ((a * b - c * d).tdiv e)/\Ext H H') R:=by
 cases F
 ·obtain ⟨rfl,j⟩:=j;obtain ⟨rfl,hb⟩:=hb;obtain ⟨rfl,hc⟩:=hc;obtain ⟨rfl,k⟩:=k;obtain ⟨rfl,_⟩:=q
  exact j0E s j hb hc k h hR
 ·exact j0x j hb hc k q s la u v x le h
theorem f1v (h:b0g H v (a0g z)) (c:fl<=H.size) (e:lz z < 67108864) (hR:r0f F R):a0O env fl (F.p j0D k0x) [eV,v] H (fun r H'=>rV F H' r z/\Ext H H') R:=by
 cases F
 ·exact m0A h c (by omega) hR
 ·exact i0W h c
end
def Frm (tT eN:Nat) (H H':a0f):Prop:=H.size<=H'.size/\∀ e,e ≠ tT->e ≠ eN->e ≠ e0L->LxT e H H'
theorem Frm.refl {e c:Nat}:Frm e c H H:=⟨k1x _,fun _ _ _ _ _ _ _ h=>h⟩
theorem Frm.trans {j c:Nat} {q:a0f} (h:Frm j c H G) (k:Frm j c G q):Frm j c H q:=⟨k1H h.1 k.1,fun e s u v b ro cs hb=>k.2 e s u v b ro cs (h.2 e s u v b ro cs hb)⟩
theorem Ext.frm {e c:Nat} (h:Ext H G):Frm e c H G:=⟨h.1,fun _ _ _ _ _ _ _ hb=>h.bk hb⟩
theorem m0r {K:Value->a0f->Prop} {f:FuncId} {args:List Value} {c:w0J} (hc:env.code f=some c) (x:fl<=H.size) (y:args.length=c.np:=by rfl) (j:args.length<=c.nt:=by exact of_decide_eq_true rfl)
  (h:∀ ρ:Nat->Value,(∀ i,ρ i=args.getD i undef)->W env fl c.body (T c.nt ρ) H (a1F (fun t' H'=>A0l H' t' c.res fun v=>K v H')) R) :
  a0O env fl f args H (fun v H'=>K v H'/\g0d fl H H') R:=by
 refine (q0o (K:=K) hc y j (fun t s u=>?_)).keep x
 have q:=h (get t) u
 rw [<- K0M s] at q
 refine q.mo fun e t' H' k=>?_
 cases e with
 | exit i=>exact k1Q k id
 | normal=>exact ⟨trivial,k⟩
 | ret=>exact ⟨trivial,k⟩
def Tf (L:List (List Int)) (i c:Nat):Int:=(L.getD i []).getD c 0
def bf (bs:List Nat) (i:Nat):Nat:=bs.getD i 0
theorem K0N {L:List (List Int)} {i c:Nat} (hi:i < L.length) (hc:c < L[i].length):Tf L i c=L[i][c]:=by
 unfold Tf;rw [k1v,k1v,k1A hi,l1d,k1A hc];rfl
theorem g1l {bs:List Nat} {i:Nat} (hi:i < bs.length):bf bs i=bs[i]:=by
 unfold bf;rw [k1v,k1A hi];rfl
structure ShT (n m:Nat) (L:List (List Int)) (bs:List Nat):Prop where
 len:L.length=m + 2
 row:∀ i (h:i < L.length),L[i].length=2 * n + m + 1
 base:bs.length=m
theorem ShT.set {n m i j:Nat} {L:List (List Int)} {bs:List Nat} {x:Int} (h:ShT n m L bs) (hi:i < L.length):ShT n m (L.set i (L[i].set j x)) bs:=by
 refine ⟨by simp [h.len],fun r k=>?_,h.base⟩
 have c:r < L.length:=by simpa using k
 by_cases e:r=i
 ·subst e;simp [h.row r c]
 ·rw [n1u (by omega)];exact h.row r c
theorem A0N {n m i j r c:Nat} {L:List (List Int)} {bs:List Nat} {x:Int} (h:ShT n m L bs) (hi:i < L.length) (q:j < L[i].length):Tf (L.set i (L[i].set j x)) r c=if r=i/\c=j then x else Tf L r c:=by
 unfold Tf
 simp only [k1v,l1g]
 by_cases k:i=r
 ·subst k
  simp only [l1o,hi,l1d,l1g,true_and]
  by_cases e:j=c
  ·subst e;simp [q]
  ·rw [k1y e,k1y (fun h=>e h.symm),k1A hi];rfl
 ·rw [k1y k,k1y (fun h=>k h.1.symm)]
def p0R (F:RK) (n m:Nat) (sR:Value) (D:Int) (sD sB:Value) (k:Int):List Value :=
 [.int .i64 (n:Int),.int .i64 (m:Int),.int .i64 ((2 * n + m:Nat):Int),sR] ++ F.p [.int .i64 D] [.bool (a0g D).1,sD] ++ [sB,.int .i64 k]
section
variable {F:RK} {n m:Nat} {sR sD sB:Value} {D k:Int}
@[simp high] theorem i1l:(p0R F n m sR D sD sB k)[0]? = some (.int .i64 (n:Int)):=nr rfl
@[simp high] theorem i1m:(p0R F n m sR D sD sB k)[1]? = some (.int .i64 (m:Int)):=nr rfl
@[simp high] theorem i1n:(p0R F n m sR D sD sB k)[2]? = some (.int .i64 (2 * (n:Int) + m)):=nr (by show some (Value.int .i64 ((2 * n + m:Nat):Int))=_;rw [show ((2 * n + m:Nat):Int)=2 * (n:Int) + m by omega])
@[simp high] theorem i1o:(p0R F n m sR D sD sB k)[3]? = some sR:=nr rfl
@[simp high] theorem i1p:(p0R F n m sR D sD sB k)[F.p 5 6]? = some sB:=nr (by cases F <;> rfl)
@[simp high] theorem i1q:(p0R F n m sR D sD sB k)[F.p 6 7]? = some (.int .i64 k):=nr (by cases F <;> rfl)
@[simp] theorem d1L:(p0R F n m sR D sD sB k).length=F.p 7 8:=nr (by cases F <;> rfl)
@[simp] theorem h1X:(4<=F.p 7 8)=True:=nr (by cases F <;> simp)
@[simp] theorem h1Y:(F.p 5 6 < F.p 7 8)=True:=nr (by cases F <;> simp)
@[simp] theorem d1K:(F.p 5 6 + 1<=F.p 7 8)=True:=nr (by cases F <;> simp)
@[simp] theorem h1Z {x:Value}:(p0R F n m sR D sD sB k).set 3 x=p0R F n m x D sD sB k:=nr (by cases F <;> rfl)
@[simp] theorem i1a {x:Value}:(p0R F n m sR D sD sB k).set (F.p 5 6) x=p0R F n m sR D sD x k:=nr (by cases F <;> rfl)
theorem i0f:p0R .few n m sR D sD sB k=[.int .i64 (n:Int),.int .i64 (m:Int),.int .i64 ((2 * n + m:Nat):Int),sR,.int .i64 D,sB,.int .i64 k]:=rfl
theorem g0J:p0R .all n m sR D sD sB k=[.int .i64 (n:Int),.int .i64 (m:Int),.int .i64 ((2 * n + m:Nat):Int),sR,.bool (a0g D).1,sD,sB,.int .i64 k]:=rfl
end
def dvV (F:RK) (D:Int) (sD:Value):Value:=F.p (.int .i64 D) (.agg #[.bool (a0g D).1,sD])
theorem c1J {F:RK} {n m p e:Nat} {sR sD sB:Value} {D k:Int} {ro:Bool} (h:a0f.bk G p=.row ro e (p0R F n m sR D sD sB k)):b0v G F.b F.w (.pointer (some ⟨p,4,none⟩))=some (dvV F D sD):=by
 cases F
 ·show b0v G false 1 _=_
  rw [s0T,h,V0V];rfl
 ·show b0v G true 2 _=_
  rw [o0X (by decide),h,K0c];rfl
theorem C0e {a:Bool} {n:Nat} {x w:Value} (h:b0v H a n x=some w) (k:Ext H G):b0v G a n x=some w:=by
 cases x with
 | pointer p =>
  cases p with
  | none=>exact h
  | some p =>
   simp only [b0v] at h ⊢
   split at h
   ·rename_i c;rw [k1B c];exact h
   ·rename_i c
    rw [k1y c]
    split at h
    ·cases h
    ·rename_i j
     rw [k1y j]
     unfold a0f.cells? at h ⊢
     cases hb:H.bk p.block with
     | dead=>rw [hb] at h;simp at h
     | row ro e cs=>rw [k.bk hb];rw [hb] at h;exact h
 | _=>simp [b0v] at h
theorem kpV.mo {F:RK} {x w:Value} (h:kpV F H x=some w) (c:Ext H G):kpV F G x=some w:=by
 cases F
 ·exact h
 ·exact C0e h c
def rD:RK->a0f->Value->Int->Prop
 | .few,_,_,D=>f0M D
 | .all,H,sD,D=>Lim H sD (a0g D).2
theorem rD.mo {F:RK} {D:Int} (h:rD F H v D) (c:Ext H G):rD F G v D:=by cases F;exact h;exact Lim.mo h c
theorem rD.lx {F:RK} {D:Int} (h:rD F H v D) (c:Lx H G):rD F G v D:=by cases F;exact h;exact Lim.lx h c
structure e0R (F:RK) (fl:Nat) (H:a0f) (p n m:Nat) (L:List (List Int)) (D:Int) (bs:List Nat) (k:Int) (sR sD sB:Value) (vs:List Value):Prop where
 bk:a0f.bk H p=.row false F.T (p0R F n m sR D sD sB k)
 low:fl<=p
 d:rD F H sD D
 heads:b0d PV fl H F.S 1 sR vs
 rows:e0P F.E F.w F.P fl H vs L
 basis:b0d PK fl H e0L 1 sB bs
section
variable {F:RK} {p n m i j:Nat} {L:List (List Int)} {k D x:Int} {bs:List Nat} {sR sD sB:Value} {vs:List Value}
theorem e0R.mo (h:e0R F fl H p n m L D bs k sR sD sB vs) (c:Ext H G):e0R F fl G p n m L D bs k sR sD sB vs :=
 ⟨c.bk h.bk,h.low,h.d.mo c,h.heads.mo x0s c,h.rows.mo X0F c,h.basis.mo x0r c⟩
theorem e0R.store (h:e0R F fl H p n m L D bs k sR sD sB vs) (hi:i < L.length) (J:j < L[i].length) {w:Value} (u:rV F H w x) :
  ∃ G,f0n fl H F.w (adr F.w (vs[i]'(by have:=h.rows.len;omega)) j) w=some G/\e0R F fl G p n m (L.set i (L[i].set j x)) D bs k sR sD sB vs/\Frm F.T F.E H G/\d0o (slB (vs[i]'(by have:=h.rows.len;omega))) H G:=by
 obtain ⟨G,v,y,c,z⟩:=h.rows.store X0F hi J (w:=w) (x:=x) u.st.1 u.st.2.1 u.st.2.2
 have q:=h.rows.own i hi
 have s:=q.ne h.bk (by cases F <;> decide)
 exact ⟨G,v,⟨(c.2 _ (a0k h.bk) s).trans h.bk,h.low,h.d.lx z,h.heads.lxm (q.lxT (by cases F <;> decide) c) (fun _ _ h=>h),y,h.basis.lxm (q.lxT (by cases F <;> decide) c) (fun _ _ h=>h)⟩,⟨c.1,fun e _ I _=>q.lxT I.symm c⟩,c⟩
theorem e0R.head (h:e0R F fl H p n m L D bs k sR sD sB vs) (hi:i < L.length) :
  b0v H false 1 (adr 1 sR i)=some (vs[i]'(by have:=h.rows.len;omega)):=by
 have q:=h.rows.len
 obtain ⟨w,c,e⟩:=h.heads.sls.load1 (j:=i) (by omega)
 rw [c]
 have:[w]=[vs[i]'(by omega)]:=e
 simpa using this
theorem e0R.hia (h:e0R F fl H p n m L D bs k sR sD sB vs) (hi:i < L.length):iaV 1 sR (.int .i64 i)=some (adr 1 sR i):=h.heads.sls.ia (by have:=h.rows.len;omega)
theorem e0R.ia (h:e0R F fl H p n m L D bs k sR sD sB vs) (hi:i < L.length) (c:j < L[i].length):iaV F.w (vs[i]'(by have:=h.rows.len;omega)) (.int .i64 j)=some (adr F.w (vs[i]'(by have:=h.rows.len;omega)) j):=(h.rows.own i hi).sls.ia c
theorem e0R.num (h:e0R F fl H p n m L D bs k sR sD sB vs) (hi:i < L.length) (q:j < L[i].length) :
  ∃ w,b0v H F.b F.w (adr F.w (vs[i]'(by have:=h.rows.len;omega)) j)=some w/\rV F H w (Tf L i j):=by
 rw [K0N hi q]
 cases F
 ·obtain ⟨w,c,s,e⟩:=(h.rows.own i hi).sls.load1 (j:=j) q;exact ⟨w,c,by simpa using s,e⟩
 ·obtain ⟨cs,c,_,e⟩:=Sls.load (h.rows.own i hi).sls (j:=j) q (by decide);exact ⟨_,c,e⟩
theorem e0R.base (h:e0R F fl H p n m L D bs k sR sD sB vs) (hi:i < bs.length):b0v H false 1 (adr 1 sB i)=some (.int .i64 (bf bs i:Int))/\iaV 1 sB (.int .i64 i)=some (adr 1 sB i):=by
 obtain ⟨w,c,e⟩:=h.basis.sls.load1 (j:=i) hi
 rw [c,g1l hi]
 have:[w]=[.int .i64 (bs[i]:Int)]:=e
 exact ⟨by simpa using this,h.basis.sls.ia hi⟩
theorem e0R.cell (h:e0R F fl H p n m L D bs k sR sD sB vs) (hi:i < L.length) (e:j < L[i].length) :
  ∃ c w,c=vs[i]'(by have:=h.rows.len;omega)/\b0v H false 1 (adr 1 sR i)=some c/\iaV 1 sR (.int .i64 i)=some (adr 1 sR i)/\iaV F.w c (.int .i64 j)=some (adr F.w c j)/\b0v H F.b F.w (adr F.w c j)=some w/\rV F H w (Tf L i j):=by
 obtain ⟨w,q,s⟩:=h.num hi e
 exact ⟨_,w,rfl,h.head hi,h.hia hi,h.ia hi e,q,s⟩
theorem e0R.dv (h:e0R F fl H p n m L D bs k sR sD sB vs):rV F H (dvV F D sD) D:=by
 have:=h.d
 cases F
 ·exact ⟨rfl,this⟩
 ·exact ⟨sD,rfl,this⟩
