/- Part 10 of the proof. -/
import Derived.Test.YtilekhkgobmolaaGreatM08
set_option linter.unusedVariables false
set_option linter.unusedSimpArgs false
set_option linter.unusedSectionVars false
set_option maxHeartbeats 4000000
namespace Go.Proofs.YtilekhkgobmolaaGreat.AI
open Go
section
open SX
variable {fl:Nat} {H G:a0f} {R:a0D} {v w u:Value} {F:RK}
theorem l0N {o:Option Nat} {H0 G':a0f} (h:Ext H0 G) (c:d0o o G G') (ho:∀ b,o=some b->H0.size<=b):Ext H0 G':=by
 refine ⟨k1H h.1 c.1,fun b hb=>?_⟩
 rw [c.2 b (k1P hb h.1) (fun e=>by have:=ho b e;omega)]
 exact h.2 b hb
theorem e0P.insert {F sz c:Nat} {P:a0f->List Value->Int->Prop} {a b:List Value} {A B:List (List Int)} {x:Value} {X:List Int} (h:e0P F sz P fl G (a ++ b) (A ++ B)) (hl:a.length=A.length)
  (R:b0d P c G F sz x X) (Z:fl<=c) (O:∀ w ∈ a ++ b,∀ k,slB w=some k->k < c):e0P F sz P fl G (a ++ x :: b) (A ++ X :: B):=by
 have u:=h.len
 simp only [k1S] at u
 have q:∀ i (J:i < (A ++ X :: B).length) (L:i < (a ++ x :: b).length),(i=a.length/\(a ++ x :: b)[i]=x/\(A ++ X :: B)[i]=X) ∨
   ∃ j,∃ (z:j < (A ++ B).length) (I:j < (a ++ b).length),(a ++ x :: b)[i]=(a ++ b)[j]/\(A ++ X :: B)[i]=(A ++ B)[j]/\j=(if i < a.length then i else i - 1)/\i ≠ a.length:=by
  intro i J L
  simp only [k1S,l1p] at J L
  by_cases hi:i < a.length
  ·exact .inr ⟨i,by simp;omega,by simp;omega,by rw [l1s hi,l1s hi],by rw [l1s (by omega),l1s (by omega)],by rw [k1B hi],by omega⟩
  ·by_cases M:i=a.length
   ·subst M
    exact .inl ⟨rfl,by simp,by rw [k1X (by omega)];simp [hl]⟩
   ·obtain ⟨d,rfl⟩:∃ d,i=a.length + 1 + d:=⟨i - a.length - 1,by omega⟩
    refine .inr ⟨a.length + d,by simp;omega,by simp;omega,?_,?_,by rw [k1y hi];omega,M⟩
    ·rw [k1X (by omega),k1X (by omega)]
     simp only [show a.length + 1 + d - a.length=d + 1 by omega,m1U,show a.length + d - a.length=d by omega]
    ·rw [k1X (by omega),k1X (by omega)]
     simp only [show a.length + 1 + d - A.length=d + 1 by omega,m1U,show a.length + d - A.length=d by omega]
 have v:∀ k,slB x=some k->c<=k:=fun k s=>(R.ge s).1
 refine ⟨by simp;omega,fun i hi=>?_,fun i j hi N a0=>?_⟩
 ·rcases q i hi (by simp at hi ⊢;omega) with ⟨_,e,e2⟩ | ⟨j,z,I,e,e2,_⟩
  ·rw [e,e2];exact R.low Z
  ·rw [e,e2];exact h.own j z
 ·rcases q i hi (by simp at hi ⊢;omega) with ⟨i0,e,_⟩ | ⟨U,i1,i2,e,_,ie,a1⟩ <;> rcases q j N (by simp at N ⊢;omega) with ⟨j0,y,_⟩ | ⟨j',z,I,y,_,je,a2⟩
  ·omega
  ·rw [e,y]
   cases s:slB x with
   | none=>exact .inl rfl
   | some k =>
    right;intro H
    have:=O _ (k1D I) k H.symm
    have:=v k s
    omega
  ·rw [e,y]
   cases s:slB (a ++ b)[U] with
   | none=>exact .inl rfl
   | some k =>
    right;intro H
    have:=O _ (k1D i2) k s
    have:=v k H.symm
    omega
  ·rw [e,y]
   refine h.apart U j' i1 z ?_
   split at ie <;> split at je <;> omega
def r7:RK->a0f->Nat->Prop
 | .few,G,q=>a0f.bk G q=.row false d0N [.int .i64 0]
 | .all,G,q=>Bx G q 0
theorem r7.mo {G':a0f} {q:Nat} (h:r7 F G q) (c:Ext G G'):r7 F G' q:=by cases F;exact c.bk h;exact Bx.mo h c
theorem r7.off {G':a0f} {q:Nat} {o:Option Nat} (h:r7 F G q) (c:d0o o G G') (e:Lx G G') (ho:o ≠ some q):r7 F G' q:=by cases F;exact (c.2 q (a0k h) ho).trans h;exact Bx.off h c e ho
theorem r7.lxt {G':a0f} {q:Nat} (h:r7 F G q) (c:LxT F.E G G') (k:Lx G G'):r7 F G' q:=by
 cases F
 ·exact c _ _ _ h
 ·obtain ⟨s,e,j⟩:=h;exact ⟨s,c _ _ _ e,j.lx k⟩
theorem r7.lt {q:Nat} (h:r7 F G q):q < G.size:=by
 cases F
 ·exact a0k h
 ·obtain ⟨s,h,_⟩:=h;exact a0k h
abbrev RK.Q (F:RK):Nat:=F.p a0H a0F
structure rMd (F:RK) (H:a0f) (P2 P3 P6 P7 p n m:Nat) (sv:List Value) (rs:List Value) (M:List (List Int)) (sR sD sB:Value) (vs:List Value) (bs:List Nat) (G:a0f):Prop where
 ext:Ext H G
 b2:a0f.bk G P2=.row false (F.p a0n a0m) []
 b3:a0f.bk G P3=.row false a0Q sv
 b6:a0f.bk G P6=.row false F.Q [.pointer (some ⟨p,0,none⟩)]
 b7:r7 F G P7
 bp:a0f.bk G p=.row false F.T (p0R F n m sR 1 sD sB 0)
 d:rD F G sD 1
 rows:e0P F.E F.w F.P H.size G rs M
 p7:∀ w ∈ rs,slB w ≠ some P7
 heads:b0d PV H.size G F.S 1 sR vs
 basis:b0d PK H.size G e0L 1 sB bs
 low:H.size<=p
section
variable {P2 P3 P6 P7 p n m i j:Nat} {sv rs vs:List Value} {M:List (List Int)} {sR sD sB:Value} {bs:List Nat} {x:Int}
theorem rMd.mo {G':a0f} (h:rMd F H P2 P3 P6 P7 p n m sv rs M sR sD sB vs bs G) (c:Ext G G'):rMd F H P2 P3 P6 P7 p n m sv rs M sR sD sB vs bs G' :=
 ⟨h.ext.trans c,c.bk h.b2,c.bk h.b3,c.bk h.b6,h.b7.mo c,c.bk h.bp,h.d.mo c,h.rows.mo X0F c,h.p7,h.heads.mo x0s c,h.basis.mo x0r c,h.low⟩
theorem rMd.store (h:rMd F H P2 P3 P6 P7 p n m sv rs M sR sD sB vs bs G) (hi:i < M.length) (z:j < M[i].length) {w:Value} (s:rV F G w x) :
  ∃ G',f0n H.size G F.w (adr F.w (rs[i]'(by have:=h.rows.len;omega)) j) w=some G'/\rMd F H P2 P3 P6 P7 p n m sv rs (M.set i (M[i].set j x)) sR sD sB vs bs G'/\d0o (slB (rs[i]'(by have:=h.rows.len;omega))) G G'/\Lx G G'/\G.size<=G'.size:=by
 obtain ⟨G',v,y,c,k⟩:=h.rows.store X0F hi z (w:=w) (x:=x) s.st.1 s.st.2.1 s.st.2.2
 have u:=h.rows.own i hi
 have lx:∀ {e:Nat},F.E ≠ e->LxT e G G':=fun q=>u.lxT q c
 exact ⟨G',v,⟨l0N h.ext c (fun b hb=>(u.ge hb).1),lx (by cases F <;> decide) _ _ _ h.b2,lx (by cases F <;> decide) _ _ _ h.b3,lx (by cases F <;> decide) _ _ _ h.b6,h.b7.off c k (h.p7 _ (k1D _)),lx (by cases F <;> decide) _ _ _ h.bp,h.d.lx k,y,h.p7,h.heads.lxm (lx (by cases F <;> decide)) (fun _ _ h=>h),h.basis.lxm (lx (by cases F <;> decide)) (fun _ _ h=>h),h.low⟩,c,k,c.1⟩
theorem rMd.ia (h:rMd F H P2 P3 P6 P7 p n m sv rs M sR sD sB vs bs G) (hi:i < M.length) (c:j < M[i].length):iaV F.w (rs[i]'(by have:=h.rows.len;omega)) (.int .i64 j)=some (adr F.w (rs[i]'(by have:=h.rows.len;omega)) j):=(h.rows.own i hi).sls.ia c
theorem rMd.num (h:rMd F H P2 P3 P6 P7 p n m sv rs M sR sD sB vs bs G) (hi:i < M.length) (k:j < M[i].length) :
  ∃ w,b0v G F.b F.w (adr F.w (rs[i]'(by have:=h.rows.len;omega)) j)=some w/\rV F G w (Tf M i j):=by
 rw [K0N hi k]
 cases F
 ·obtain ⟨w,c,q,e⟩:=(h.rows.own i hi).sls.load1 (j:=j) k;exact ⟨w,c,by simpa using q,e⟩
 ·obtain ⟨cs,c,_,e⟩:=Sls.load (h.rows.own i hi).sls (j:=j) k (by decide);exact ⟨_,c,e⟩
theorem rMd.bl (h:rMd F H P2 P3 P6 P7 p n m sv rs M sR sD sB vs bs G) (hi:i < M.length) (q:j < M[i].length):∃ b,AI.blkOf (adr F.w (rs[i]'(by have:=h.rows.len;omega)) j)=[b]/\P3 ≠ b/\b < G.size:=by
 obtain ⟨b,c,e,k⟩:=(h.rows.own i hi).adr_blk q
 refine ⟨b,c,?_,e⟩
 rintro rfl
 exact (h.rows.own i hi).ne h.b3 (by cases F <;> decide) k
theorem rMd.dv (h:rMd F H P2 P3 P6 P7 p n m sv rs M sR sD sB vs bs G):rV F G (dvV F 1 sD) 1:=by
 have:=h.d
 cases F
 ·exact ⟨rfl,this⟩
 ·exact ⟨sD,rfl,this⟩
theorem rMd.ins {a b:List Value} {A B:List (List Int)} {G':a0f} {w:Value} {X:List Int} (h:rMd F H P2 P3 P6 P7 p n m sv (a ++ b) (A ++ B) sR sD sB vs bs G) (u:a.length=A.length) (s:b0d F.P G.size G' F.E F.w w X) (v:Ext G G'):rMd F H P2 P3 P6 P7 p n m sv (a ++ w :: b) (A ++ X :: B) sR sD sB vs bs G':=by
 have c:=h.mo v
 refine ⟨c.ext,c.b2,c.b3,c.b6,c.b7,c.bp,c.d,c.rows.insert u s h.ext.1 (fun y q k j=>?_),fun y q=>?_,c.heads,c.basis,c.low⟩
 ·obtain ⟨i,hi,rfl⟩:=l1L q
  exact ((h.rows.own i (by have:=h.rows.len;omega)).ge j).2
 ·have x:=h.b7.lt
  rcases k1T.1 q with e | e
  ·exact h.p7 _ (k1T.2 (.inl e))
  ·rcases m1b.1 e with e | e
   ·rw [e];intro j;have:=(s.ge j).1;omega
   ·exact h.p7 _ (k1T.2 (.inr e))
theorem rMd.push2 (h:rMd F H P2 P3 P6 P7 p n m sv rs M sR sD sB vs bs G) {w:Value} (hw:a0v w=true) {b:Nat} (hv:vs.length < 1073741824) (hb:bs.length < 1073741824) :
  ∃ q G1 j y,i0H H.size (G.push (.row false F.S [w])) F.S 1 24 sR (.slice (some ⟨G.size,0,none⟩) 1 1)=some (q,G1)/\i0H H.size (G1.push (.row false e0L [.int .i64 (b:Int)])) e0L 1 8 sB (.slice (some ⟨G1.size,0,none⟩) 1 1)=some (j,y) /\
   a0f.bk G1 P6=.row false F.Q [.pointer (some ⟨p,0,none⟩)]/\a0f.bk G1 p=.row false F.T (p0R F n m sR 1 sD sB 0) /\
   a0f.bk y P6=.row false F.Q [.pointer (some ⟨p,0,none⟩)]/\a0f.bk y p=.row false F.T (p0R F n m sR 1 sD sB 0)/\a0W q = [q]/\a0v q = true/\a0W j = [j]/\a0v j = true /\
   (∀ k,k ∈ AI.blkW sR->k ≠ P6/\k ≠ p)/\(∀ k,k ∈ AI.blkW sB->k ≠ P6) /\
   ∀ G3,Array.setIfInBounds y p (.row false F.T (p0R F n m q 1 sD j 0))=G3->rMd F H P2 P3 P6 P7 p n m sv rs M q sD j (vs ++ [w]) (bs ++ [b]) G3:=by
 obtain ⟨q,G1,a1,o1,x1,y1⟩:=b0d.app (P:=PV) (sz:=1) (e:=F.S) (by cases F <;> decide) (fun _ _ _ _ _ h=>h) h.heads (e2:=F.S) (c:=1) (bytes:=24) (new:=[w]) (x:=w) rfl rfl (by simp [hw]) hv (by omega) (by omega) h.ext.1
 have v:∀ {e:Nat},F.S ≠ e->LxT e G G1:=fun u=>h.heads.lxT u x1
 have e1:Ext H G1:=y1 H (k1x _) h.ext
 obtain ⟨j,y,a2,o2,x2,y2⟩:=b0d.app (P:=PK) (sz:=1) (e:=e0L) (by cases F <;> decide) (fun _ _ _ _ _ h=>h) (h.basis.lxm (Q':=PK) (v (by cases F <;> decide)) (fun _ _ h=>h)) (e2:=e0L) (c:=1) (bytes:=8) (new:=[.int .i64 (b:Int)]) (x:=b) rfl rfl rfl hb (by omega) (by omega) e1.1
 have R:=h.basis.lxm (Q':=PK) (G':=G1) (v (by cases F <;> decide)) (fun _ _ h=>h)
 have lx2:∀ {e:Nat},e0L ≠ e->LxT e G1 y:=fun u=>R.lxT u x2
 have e2:Ext H y:=y2 H (k1x _) e1
 have p1:=v (by cases F <;> decide) _ _ _ h.bp
 have p2:=lx2 (by cases F <;> decide) _ _ _ p1
 have q1:=v (by cases F <;> decide) _ _ _ h.b6
 have q2:=lx2 (by cases F <;> decide) _ _ _ q1
 have Z:=h.heads.ne h.b6 (by cases F <;> decide)
 have a0:=h.heads.ne h.bp (by cases F <;> decide)
 have U:=h.basis.ne h.b6 (by cases F <;> decide)
 have hR:=h.heads.blkOf
 have hB:=h.basis.blkOf
 refine ⟨q,G1,j,y,a1,a2,q1,p1,q2,p2,o1.cells.1,o1.cells.2,o2.cells.1,o2.cells.2,fun k z=>?_,fun k z=>?_,fun G3 N=>?_⟩
 ·rcases hR with I | ⟨c,I,J⟩
  ·rw [I] at z;simp at z
  ·rw [I] at z
   have:k=c:=by simpa using z
   subst this
   exact ⟨fun L=>Z (by rw [J,L]),fun L=>a0 (by rw [J,L])⟩
 ·rcases hB with I | ⟨c,I,J⟩
  ·rw [I] at z;simp at z
  ·rw [I] at z
   have:k=c:=by simpa using z
   subst this
   exact fun L=>U (by rw [J,L])
 ·have lx3:∀ {e:Nat},F.T ≠ e->LxT e y G3:=fun u=>b0f N p2 u
  have s:∀ {e:Nat},F.S ≠ e->e0L ≠ e->F.T ≠ e->LxT e G G3:=fun J h2 h3 b ro cs hb=>lx3 h3 b ro cs (lx2 h2 b ro cs (v J b ro cs hb))
  have O:Lx G G3:=s (by cases F <;> decide) (by cases F <;> decide) (by cases F <;> decide)
  exact ⟨a0I N e2 h.low,s (by cases F <;> decide) (by cases F <;> decide) (by cases F <;> decide) _ _ _ h.b2,s (by cases F <;> decide) (by cases F <;> decide) (by cases F <;> decide) _ _ _ h.b3,s (by cases F <;> decide) (by cases F <;> decide) (by cases F <;> decide) _ _ _ h.b6,h.b7.lxt (s (by cases F <;> decide) (by cases F <;> decide) (by cases F <;> decide)) O,a0r N p2,h.d.lx O,⟨h.rows.len,fun r hr=>(h.rows.own r hr).lxm (s (by cases F <;> decide) (by cases F <;> decide) (by cases F <;> decide)) (fun cs x hx=>X0F.lx _ _ _ _ O hx),h.rows.apart⟩,h.p7,
   (o1.lxm (Q':=PV) (lx2 (by cases F <;> decide)) (fun _ _ h=>h)).lxm (lx3 (by cases F <;> decide)) (fun _ _ h=>h),o2.lxm (lx3 (by cases F <;> decide)) (fun _ _ h=>h),h.low⟩
theorem rMd.one (h:rMd F H P2 P3 P6 P7 p n m sv rs M sR sD sB vs bs G) (c:fl<=G.size) (hb:n < 1048576) (hc:m < 1048576) :
  a0O env fl (F.p o0m o0l) [.pointer (some ⟨P6,0,none⟩),.pointer (some ⟨P7,0,none⟩)] G (fun r G'=>b0d F.P G.size G' F.E F.w r (List.replicate (2 * n + m + 1) 0)/\Ext G G') R:=by
 cases F
 ·exact o0q c h.b6 h.bp h.b7 (by omega)
 ·obtain ⟨j,b7,e⟩:=h.b7;exact o0f c h.b6 h.bp b7 e (by omega)
end
theorem k0T {z:Int} (s:fl<=H.size) (u:f0M z) :
  a0O env fl u0G [.int .i64 z] H (fun r H'=>r=.int .i64 z/\Ext H H') R:=by
 refine a0i a1E s (h:=?_)
 intro ρ j
 obtain ⟨k,q⟩:=u
 have c:¬ z<=-2147483648:=by omega
 have e:¬ 2147483648<=z:=by omega
 simp [K0l,w0n,w0o,w0q,j,k,q,c,e]
theorem B0N {z:Int} (h:b0g H v (a0g z)) (F:fl<=H.size) (k:f0M z) :
  a0O env fl j0D [eV,v] H (fun r H'=>rV .few H' r z/\Ext H H') R:=by
 have I:lz z < 1073741824:=by
  have:lz z<=1:=q0G (by obtain ⟨x,y⟩:=k;omega)
  omega
 refine a0i a1D F (h:=?_)
 intro ρ u
 obtain ⟨L,rfl,s⟩:=id h
 simp [K0k,w0j,w0k,u,eV,s.cells,s.plain]
 generalize q:(H.push _).push _=G
 obtain ⟨c,_,b0⟩:=push2 q
 have e:=Ext.refl H
 clear q
 replace e:=e.trans c
 refine (m0K (h.mo e) e.1 I).mo ?_
 rintro _ J ⟨rfl,c⟩
 replace e:=e.trans c
 unfold toV
 have j:r0Y z=true:=by
  unfold r0Y
  obtain ⟨x,y⟩:=k
  simp;omega
 simp [w0l,j,w0m]
 refine (k0T e.1 k).mo ?_
 rintro _ G3 ⟨rfl,c⟩
 simp
 exact fun _=>⟨rfl,k⟩
theorem Z0N {z:Int} (h:b0g H v (a0g z)) (c:fl<=H.size) (e:f0M z):a0O env fl (F.p j0D k0x) [eV,v] H (fun r H'=>rV F H' r z/\Ext H H') R:=by
 cases F
 ·exact B0N h c e
 ·exact i0W h c
theorem Z0M {a b:Int} {p:Nat} {cs:List Value} {j k:Value} (h:fl<=H.size) (hb:a0f.bk H p=.row false F.T cs) (e:rV F H j a) (c:rV F H k b) (la:lz a < 67108864) (q:lz b < 67108864) (hR:r0f F R) :
  a0O env fl (F.p z0t z0r) [.pointer (some ⟨p,0,none⟩),j,k] H (fun r H'=>rV F H' r (a - b)/\Ext H H') R:=by
 cases F
 ·obtain ⟨rfl,e⟩:=e;obtain ⟨rfl,c⟩:=c
  exact q0w h hb e c hR
 ·exact q0i h hb e c la q
theorem Sls.load1x {α:Type} {P:a0f->List Value->α->Prop} {e:Nat} {v:Value} {l:List α} (h:Sls P H e 1 v l) (y:Ext H G) {j:Nat} (s:j < l.length):∃ w,b0v G false 1 (adr 1 v j)=some w/\P H [w] l[j]:=by
 obtain ⟨cs,k,x⟩:=h
 refine ⟨_,k.load1 y s,?_⟩
 have q:=x j s
 have z:=k.1
 have:(cs.drop (j * 1)).take 1=[cs.getD j undef]:=by
  have c:j < cs.length:=by omega
  have u:cs.getD j undef=cs[j]:=by simp [k1v,c]
  rw [l1H,l1q c,u];rfl
 rw [this] at q;exact q
theorem B0T {e bytes:Nat} {l:List Value} {a b:Value} (h:b0d PV fl G e 1 v l) (M:a0v a=true) (hb:a0v b=true) (R:l.length + 2<=1073741824) (s:bytes<=1024) (N:fl<=G.size) :
  ∃ v' G',i0H fl (G.push (.row false e [a,b])) e 1 bytes v (.slice (some ⟨G.size,0,none⟩) 2 2)=some (v',G')/\b0d PV fl G' e 1 v' (l ++ [a,b])/\d0o (slB v) G G'/\(∀ H0,H0.size<=fl->Ext H0 G->Ext H0 G'):=by
 obtain ⟨cs,z,L⟩:=h
 have U:Sl (G.push (.row false e [a,b])) e 1 (.slice (some ⟨G.size,0,none⟩) 2 2) 2 [a,b]:=(Own.mk (fl:=0) a0G rfl (l1D _)).sl
 obtain ⟨v',G',H,I,y,J⟩:=k0r (z.mo (Ext.push (Ext.refl G))) U (by simp [M,hb]) R s (by omega) (bytes:=bytes) (by simp;omega)
 have q:=z.1
 rw [l1H] at q
 refine ⟨v',G',H,⟨cs ++ [a,b],by simpa using I,fun k O=>?_⟩,⟨?_,fun c hc x=>?_⟩,fun H0 k1 k2=>J H0 k1 k2.push⟩
 ·have u:cs=l:=by
   apply n1q q
   intro j Z j2
   have F:=L j j2
   rw [l1H,l1q Z] at F
   have:[cs[j]]=[l[j]]:=F
   simpa using this
  subst u
  show ((cs ++ [a,b]).drop (k * 1)).take 1=[(cs ++ [a,b])[k]]
  rw [l1H,l1q O];rfl
 ·have:=y.1;simp at this;omega
 ·rw [y.2 c (by simp;omega) x,d0P hc]
theorem b1H {G3:a0f} {z1 z2 r2:Blk} (c:Array.setIfInBounds (Array.push (Array.push G z1) z2) (G.size + 1) r2=G3):Ext G G3/\a0f.bk G3 G.size=z1/\a0f.bk G3 (G.size + 1)=r2:=by
 rw [<- c]
 exact ⟨(Ext.refl G).push.push.set (Nat.le_succ _),by rw [a0T (Nat.succ_ne_self _)];simp,by rw [a0A (by simp)]⟩
theorem h0j {W i j r c:Nat} {L:List (List Int)} {x:Int} (hi:i < L.length) (q:j < L[i].length):Tf (L.set i (L[i].set j x)) r c=if r=i/\c=j then x else Tf L r c:=by
 unfold Tf
 simp only [k1v,l1g]
 by_cases k:i=r
 ·subst k
  simp only [l1o,hi,l1d,l1g,true_and]
  by_cases e:j=c
  ·subst e;simp [q]
  ·rw [k1y e,k1y (fun h=>e h.symm),k1A hi];rfl
 ·rw [k1y k,k1y (fun h=>k h.1.symm)]
def Rec (W:Nat) (M:List (List Int)):Prop:=∀ i (h:i < M.length),M[i].length=W
theorem Rec.set {W i j:Nat} {M:List (List Int)} {x:Int} (h:Rec W M) (hi:i < M.length):Rec W (M.set i (M[i].set j x)):=by
 intro r k
 have c:r < M.length:=by simpa using k
 by_cases e:r=i
 ·subst e;simp [h r c]
 ·rw [n1u (by omega)];exact h r c
theorem Rec.ins {W i:Nat} {M:List (List Int)} {X:List Int} (h:Rec W M) (q:X.length=W):Rec W (M.take i ++ X :: M.drop i):=by
 intro r u
 have s:(M.take i ++ X :: M.drop i)[r] ∈ M.take i ++ X :: M.drop i:=k1D _
 rcases k1T.1 s with c | c
 ·obtain ⟨k,j,e⟩:=l1L (m1s c);rw [<- e];exact h k j
 ·rcases m1b.1 c with c | c
  ·rw [c];exact q
  ·obtain ⟨k,j,e⟩:=l1L (List.mem_of_mem_drop c);rw [<- e];exact h k j
theorem Z0R {i r c:Nat} {M:List (List Int)} {X:List Int} (hi:i<=M.length):Tf (M.take i ++ X :: M.drop i) r c=if r < i then Tf M r c else if r=i then X.getD c 0 else Tf M (r - 1) c:=by
 have j:(M.take i).length=i:=by simp;omega
 unfold Tf
 simp only [k1v]
 by_cases e:r < i
 ·rw [k1B e,l1i (by omega),l1K,k1B e]
 ·rw [k1y e,l1n (by omega),j]
  by_cases h:r=i
  ·subst h;simp
  ·rw [k1y h,List.getElem?_cons,k1y (by omega),l1Q,show i + (r - i - 1)=r - 1 by omega]
theorem f0K {n c:Nat}:(List.replicate n (0:Int)).getD c 0=0:=by
 rw [k1v,m1h];split <;> rfl
def bbq (q:ScT) (n r:Nat):Int:=Tf q.A r n
def ccq (q:ScT) (c:Nat):Int:=q.C.getD c 0
def u0d (q:ScT) (n m i c:Nat):Int:=sm (fun r=>if bbq q n r < 0 then sg (bbq q n) r * e0z n m (Tf q.A) (bbq q n) r c else 0) i
theorem D0a {E:Env} {bef:List Nat} {Z:b0c->a0f->Prop} {j i:Nat} {t:b0c} {ops:List a0J} {lg:Log} (n:Nat) (c:ops.length=n) (hb:(List.range n).all (fun k=>(bef.getD (i + k) 0).testBit j)=true) (h:r0f F R):r0f F (fun v=>WRP E fl bef [] Z R i ops t H (some (j,v)) lg):=by
 subst c
 cases F
 ·exact u0k hb h
 ·trivial
@[simp ↓] theorem d1i {E:Env} {d s:Nat} {r:List a0J} {t:b0c} {lg:Log} {Z:b0c->a0f->Log->Prop} :
  WRL E fl (F.p [⟨some d,none,.mv (.tmp s)⟩] [⟨some d,none,.load true 2 (.tmp s)⟩] ++ r) t H lg Z=oo (kpV F H (get t s)) fun v=>WRL E fl r (put t (some d) v) H ((F.p [] (blkOf (get t s)),[]) :: lg) Z:=by
 cases F
 ·show WRL E fl (⟨some d,none,.mv (.tmp s)⟩ :: r) t H lg Z=_
  rw [w0M,K0T,show kpV .few H (get t s)=some (get t s) from rfl,q0N];rfl
 ·show WRL E fl (⟨some d,none,.load true 2 (.tmp s)⟩ :: r) t H lg Z=_
  rw [w0M,u0l];rfl
theorem L0L {n m:Nat} {ρ:Nat->Value} {wd:Value} {Q:b0c->a0f->Prop} (h:ρ 25=.agg #[]) (j:ρ 27=.int .i64 (n:Int)) (q:ρ 28=.int .i64 (m:Int)) (s:ρ 33=.int .i64 (2 * (n:Int) + m)) (u:ρ 37=wd) (y:rV F G wd 1) (J:fl<=G.size)
  (x:∀ e G3 sD,Ext G G3->a0f.bk G3 G.size=.row false F.T (p0R F n m (.slice none 0 0) 1 sD (.slice none 0 0) 0)->a0f.bk G3 (G.size + 1)=.row false F.Q [.pointer (some ⟨G.size,0,none⟩)]->rD F G3 sD 1->e 6=.pointer (some ⟨G.size + 1,0,none⟩)->(∀ k,k < 6->e k=ρ k)->Q (T 224 e) G3) :
  WR env fl ((h0H F).drop 13) (T 224 ρ) G Q R:=by
 have v:fl<=G.size + 1:=by omega
 cases F
 ·obtain ⟨rfl,I⟩:=y
  simp [h0H,h,j,q,s,u,v]
  generalize z:Array.setIfInBounds (Array.push (Array.push _ _) _) _ _=G3
  obtain ⟨c,bp,b6⟩:=b1H z
  exact x _ _ .nilFunc c (by rw [i0f];simpa using bp) b6 I (by simp) (fun k H=>by simp [show 6 ≠ k by omega,show 38 ≠ k by omega,show 39 ≠ k by omega])
 ·obtain ⟨sD,rfl,y⟩:=y
  simp [h0H,h,j,q,s,u,v]
  generalize z:Array.setIfInBounds (Array.push (Array.push _ _) _) _ _=G3
  obtain ⟨c,bp,b6⟩:=b1H z
  exact x _ _ sD c (by rw [g0J];simpa using bp) b6 (y.mo c) (by simp) (fun k H=>by simp [show 6 ≠ k by omega,show 38 ≠ k by omega,show 39 ≠ k by omega])
theorem L0M {ρ:Nat->Value} {y:Value} {Q:b0c->a0f->Prop} (q:ρ 43=y) (h:rV F G y 0) (x:fl<=G.size)
  (s:∀ e j,Ext G j->r7 F j G.size->e 7=.pointer (some ⟨G.size,0,none⟩)->(∀ k,k ≠ 7->e k=ρ k)->Q (T 224 e) j):WR env fl ((h0I F).drop 4) (T 224 ρ) G Q R:=by
 cases F
 ·obtain ⟨rfl,_⟩:=h
  simp [h0I,q,x]
  generalize u:Array.setIfInBounds (Array.push _ _) _ _=j
  obtain ⟨c,b7⟩:=new1 u
  exact s _ _ c b7 (by simp) (fun k v=>by simp [m1m v])
 ·obtain ⟨sz,rfl,h⟩:=h
  simp [h0I,q,x,h.cells,h.plain]
  generalize u:Array.setIfInBounds (Array.push _ _) _ _=j
  obtain ⟨c,b7⟩:=new1 u
  exact s _ _ c ⟨sz,b7,h.mo c⟩ (by simp) (fun k v=>by simp [m1m v])
theorem C0h {d s nt:Nat} {z:Int} {ρ:Nat->Value} {I:Value} {Q:b0c->a0f->Prop} (hs:ρ s=I) (j:s < nt) (e:d < nt) (h:s ≠ d) (v:rV F G I z) (L:fl<=G.size)
  (q:∀ c u,Ext G u->kpV F u (c d)=some I->(∀ b,b ∈ F.p [] (blkOf (c d))->G.size<=b)->(∀ k,k ≠ d->c k=ρ k)->Q (T nt c) u) :
  WR env fl (F.p [⟨some d,none,.mv (.tmp s)⟩] [⟨some d,none,.alloc a0a [.bool false,.slice none 0 0]⟩,⟨none,none,.store 2 (.tmp d) (.tmp s)⟩]) (T nt ρ) G Q R:=by
 cases F
 ·simp [hs,j,e]
  exact q _ _ (Ext.refl _) (by simp [kpV]) (by simp) (fun k y=>by simp [m1m y])
 ·obtain ⟨M,rfl,v⟩:=v
  simp [hs,j,e,h,m1m h,L,v.cells,v.plain]
  generalize J:Array.setIfInBounds (Array.push _ _) _ _=u
  obtain ⟨H,x⟩:=new1 J
  exact q _ _ H (by simp [kpV,x]) (by simp) (fun k y=>by simp [m1m y])
def h1T (F:RK) (fl n m:Nat) (q:ScT) (r:Value) (H':a0f):Prop:=∃ p L bs sR sD sB vs,r=.pointer (some ⟨p,0,none⟩)/\e0R F fl H' p n m L 1 bs 0 sR sD sB vs/\ShT n m L bs/\(∀ r c,r < m + 2->c<=2 * n + m->Tf L r c=i0m n m (Tf q.A) (bbq q n) (ccq q) c r)/\∀ r,r < m->bf bs r=l0A n m (bbq q n) r
def i1k (F:RK) (H:a0f) (p P7 n m W:Nat) (q:ScT) (sv:List Value) (sA sD w9 w10:Value) (i:Nat) (ρ:Nat->Value) (G:a0f):Prop :=
 ρ 2=.pointer (some ⟨H.size,0,none⟩)/\ρ 3=.pointer (some ⟨H.size + 1,0,none⟩)/\ρ 6=.pointer (some ⟨p + 1,0,none⟩)/\ρ 8=.func (.func (F.p o0m o0l)) #[] #[.pointer (some ⟨p + 1,0,none⟩),.pointer (some ⟨P7,0,none⟩)]/\ρ 9=w9/\ρ 10=w10/\ρ 77=sA /\
  ∃ vs bs M sR sB,rMd F H H.size (H.size + 1) (p + 1) P7 p n m sv (vs ++ [w9,w10]) M sR sD sB vs bs G/\vs.length=i/\bs.length=i/\M.length=i + 2/\Rec W M /\
   (∀ r c,r < i->c < W->Tf M r c=sg (bbq q n) r * e0z n m (Tf q.A) (bbq q n) r c)/\(∀ c,c < W->Tf M i c = -u0d q n m i c)/\(∀ c,c < W->Tf M (i + 1) c = -cost n (ccq q) c)/\∀ r,r < i->bf bs r=l0A n m (bbq q n) r
theorem A0r {q:ScT} {n m:Nat} (h:SV H v q) (r3:q.n=n) (q8:q.A.length=m) (q9:q.C.length=n) (p4:∀ r ∈ q.A,r.length=n + 1) (hf:fl<=H.size) (f3:∀ r c,lz (Tf q.A r c) < 67108864) (p9:∀ c,lz (ccq q c) < 67108864) (s5:∀ i c,i<=m->c<=2 * n + m->lz (u0d q n m i c) < 67108864) (hm:m < 1048576) (hn:n < 1048576) (hR:r0f F R) :
  a0O env fl (u0A F) [eV,v] H (fun r H'=>h1T F H.size n m q r H'/\Ext H H') R:=by
 obtain ⟨sA,q5,sC,s1,s2,rfl,qA,qB,qC,q1,q2⟩:=h
 rw [r3]
 refine a0i W0I hf (h:=?_)
 intro ρ h0
 have w1:IntKind.i64.wrap (2 * (n:Int))=2 * (n:Int):=a0S (by omega) (by omega)
 have w2:IntKind.i64.wrap (2 * (n:Int) + m)=2 * (n:Int) + m:=a0S (by omega) (by omega)
 have e2:((2 * n + m:Nat):Int)=2 * (n:Int) + m:=by omega
 have f1:f0M 1:=by unfold f0M;omega
 have f0:f0M 0:=by unfold f0M;omega
 have j4:=qA.slen
 rw [q8] at j4
 simp [k0S,t0q,h0,eV]
 generalize hG:(H.push _).push _=G
 obtain ⟨hx,b2,b3⟩:=push2 hG
 clear hG
 simp [t0r,b3,j4]
 refine a0C ?_
 simp [h0H,b2,b3,w1,w2]
 refine (c0C (n:=1) (by have:=hx.1;omega) (by omega) (by omega)).mo ?_
 rintro _ G1 ⟨k9,s⟩
 replace hx:=hx.trans s
 replace b2:=s.bk b2
 replace b3:=s.bk b3
 simp
 refine (Z0N k9 (by have:=hx.1;omega) f1).mo ?_
 rintro wd G2 ⟨kd,s⟩
 replace hx:=hx.trans s
 replace b2:=s.bk b2
 replace b3:=s.bk b3
 have hsz:=hx.1
 simp
 refine L0L (n:=n) (m:=m) (by simp) (by simp) (by simp) (by simp) (by simp) kd hsz ?_
 intro t4 G3 sD s bp b6 kd g6 J
 have g2:=J 2 (by decide);have g3:=J 3 (by decide);have g5:=J 5 (by decide)
 simp at g2 g3 g5
 clear J
 replace hx:=hx.trans s
 replace b2:=s.bk b2
 replace b3:=s.bk b3
 have j0:=hsz
 generalize t1:Array.size G2=p at *
 have q4:b0g G3 (.agg #[.bool false,.slice none 0 0]) (a0g 0):=⟨_,by rw [e0p],by rw [e0p];exact Lim.nil⟩
 simp [h0I,g2,b2]
 refine (Z0N q4 (by have:=hx.1;omega) f0).mo ?_
 rintro wz G4 ⟨kz,s⟩
 replace hx:=hx.trans s
 replace b2:=s.bk b2
 replace b3:=s.bk b3
 replace b6:=s.bk b6
 replace bp:=s.bk bp
 have hsz:=hx.1
 replace kd:=kd.mo s
 simp
 refine L0M (by simp) kz hsz ?_
 intro t5 G5 s b7 g7 J
 replace g2:=(J 2 (by decide)).trans (by simpa using g2);replace g3:=(J 3 (by decide)).trans (by simpa using g3);replace g5:=(J 5 (by decide)).trans (by simpa using g5);replace g6:=(J 6 (by decide)).trans (by simpa using g6)
 replace hx:=hx.trans s
 replace b2:=s.bk b2
 replace b3:=s.bk b3
 replace b6:=s.bk b6
 replace bp:=s.bk bp
 replace kd:=kd.mo s
 generalize r5:Array.size G4=P7 at *
 have u:rMd F H H.size (H.size + 1) (p + 1) P7 p n m _ ([] ++ []) ([] ++ []) (.slice none 0 0) sD (.slice none 0 0) [] [] G5:=⟨hx,b2,b3,b6,b7,bp,kd,⟨rfl,fun i hi=>by simp at hi,fun i j hi=>by simp at hi⟩,fun w hw=>by simp at hw,b0d.nil,b0d.nil,j0⟩
 clear b2 b3 b6 bp b7 hx s kz q4 kd k9 r5 hsz J
 have t0:=u.b7.lt
 simp [t0s,t0t,g6,g7]
 refine (u.one (by have:=u.ext.1;omega) hn hm).mo ?_
 rintro w9 G6 ⟨hw,s⟩
 replace u:rMd F H H.size (H.size + 1) (p + 1) P7 p n m _ ([w9] ++ []) ([List.replicate (2 * n + m + 1) 0] ++ []) (.slice none 0 0) sD (.slice none 0 0) [] [] G6:=u.ins rfl hw s
 simp
 refine (u.one (by have:=u.ext.1;omega) hn hm).mo ?_
 rintro N G7 ⟨p5,p8⟩
 replace u:rMd F H H.size (H.size + 1) (p + 1) P7 p n m _ [w9,N] [List.replicate (2 * n + m + 1) 0,List.replicate (2 * n + m + 1) 0] (.slice none 0 0) sD (.slice none 0 0) [] [] G7:=u.ins rfl p5 p8
 clear hw p5 s p8
 have b3:=u.b3
 have k8:=qC.slen
 rw [q9] at k8
 obtain ⟨W,hW⟩:∃ W,W=2 * n + m + 1:=⟨_,rfl⟩
 rw [<- hW] at u
 simp [t0u,g3,b3,k8]
 refine d0b (n:=n) (fun k ρ G=>ρ 2=.pointer (some ⟨H.size,0,none⟩)/\ρ 3=.pointer (some ⟨H.size + 1,0,none⟩)/\ρ 5=.int .i64 (m:Int)/\ρ 6=.pointer (some ⟨p + 1,0,none⟩)/\ρ 8=.func (.func (F.p o0m o0l)) #[] #[.pointer (some ⟨p + 1,0,none⟩),.pointer (some ⟨P7,0,none⟩)]/\ρ 9=w9/\ρ 10=N/\ρ 50=sC /\
   ∃ M,rMd F H H.size (H.size + 1) (p + 1) P7 p n m [.int .i64 (n:Int),sA,q5,sC,.bool (a0e q.cb).1.1,s1,.bool (a0e q.cb).2.1,s2] [w9,N] M (.slice none 0 0) sD (.slice none 0 0) [] [] G/\M.length=2/\Rec W M/\∀ r c,c < W->Tf M r c=if r=1 then (if c < k then -ccq q c else if n<=c/\c < n + k then ccq q (c - n) else 0) else 0)
   rfl rfl (by decide) (by omega) (by simp) (by simp) ?_ ?_ ?_ ?_
 ·refine ⟨by simp [g2],by simp [g3],by simp [g5],by simp [g6],by simp,by simp,by simp,by simp,_,u,rfl,fun i hi=>?_,fun r c hc=>?_⟩
  ·have:i=0 ∨ i=1:=by simp at hi;omega
   rcases this with rfl | rfl <;> simp
  ·have p3:∀ r,([List.replicate W 0,List.replicate W 0].getD r ([]:List Int)).getD c 0=0:=fun r=>by
    match r with
    | 0=>exact f0K
    | 1=>exact f0K
    | r + 2=>rfl
   have:Tf [List.replicate W 0,List.replicate W 0] r c=0:=p3 r
   rw [this]
   split
   ·rw [k1y (by omega),k1y (by omega)]
   ·rfl
 ·intro i ρ n4 G h hI;simpa [h] using hI
 ·clear h0 ρ u b3
  rintro k ρ G J gk gn ⟨g2,g3,g5,g6,g8,g9,I,h7,M,u,d0,Z,c6⟩
  have kC:=qC.mo d0t u.ext
  have g4:k < q.C.length:=by omega
  obtain ⟨cs,ec,o7,kc⟩:=Sls.load kC g4 (by omega)
  have l9:q.C[k]=ccq q k:=by unfold ccq;rw [k1v,k1A g4];rfl
  rw [l9] at kc
  obtain ⟨sc,m0,kc⟩:=kc
  rw [m0] at ec
  have hsz:=u.ext.1
  simp [t0v,gk,h7,kC.ia g4,ec,kc.cells,kc.plain,hsz]
  generalize hN:Array.setIfInBounds (Array.push _ _) _ _=G2
  obtain ⟨s,h4⟩:=new1 hN
  clear hN
  replace u:=u.mo s
  replace kc:=kc.mo s
  generalize o4:Array.size G=P12 at *
  simp [t0w,g2,u.b2,h4]
  refine (f1v (z:=ccq q k) ⟨sc,rfl,kc⟩ u.ext.1 (p9 k) hR).mo ?_
  rintro wx G8 ⟨kx,s⟩
  replace u:=u.mo s
  have m8:=u.ext.1
  clear h4 kc kC ec
  have O:1 < M.length:=by omega
  have d1:k < M[1].length:=by rw [Z 1 O];omega
  have m5:n + k < M[1].length:=by rw [Z 1 O];omega
  obtain ⟨bw,l7,c7,o6⟩:∃ b,AI.blkOf (adr F.w N k)=[b]/\H.size + 1 ≠ b/\b < G8.size:=u.bl (i:=1) (j:=k) O d1
  obtain ⟨zz,f4⟩:∃ z,z=ccq q k:=⟨_,rfl⟩
  rw [<- f4] at kx
  have i9:lz zz < 67108864:=by rw [f4];exact p9 k
  simp
  refine C0h (by simp) (by decide) (by decide) (by decide) kx m8 ?_
  intro s9 G9 e1 k3 k5 J
  replace u:=u.mo e1
  replace kx:=kx.mo e1
  have w3:IntKind.i64.wrap ((n:Int) + k)=(n:Int) + k:=a0S (by omega) (by omega)
  have i1:iaV F.w N (.int .i64 (k:Int))=some (adr F.w N k):=u.ia (i:=1) (j:=k) O d1
  have i2:iaV F.w N (.int .i64 ((n + k:Nat):Int))=some (adr F.w N (n + k)):=u.ia (i:=1) (j:=n + k) O m5
  rw [show ((n + k:Nat):Int)=(n:Int) + k by omega] at i2
  refine c0R ?_
  simp [p0o,g2,g3,I,u.b2,u.b3,w3,J,k3]
  refine (y0Z kx (by have:=u.ext.1;omega) i9).mo ?_
  rintro wn g0 ⟨kn,s⟩
  replace u:=u.mo s
  replace kx:=kx.mo s
  obtain ⟨l0,a3,l3,_,i8,_⟩:=u.store (x:=-zz) (i:=1) (j:=k) O d1 kn
  have a9:1 < (M.set 1 (M[1].set k (-zz))).length:=by simp;omega
  have d9:n + k < (M.set 1 (M[1].set k (-zz)))[1].length:=by rw [Z.set O 1 a9];omega
  obtain ⟨n5,d4,h9,_,_,_⟩:=l3.store (x:=zz) (i:=1) (j:=n + k) a9 d9 (kx.lx i8)
  replace a3:f0n H.size g0 F.w (adr F.w N k) wn=some l0:=a3
  replace d4:f0n H.size l0 F.w (adr F.w N (n + k)) _=some n5:=d4
  simp [i1,i2,a3,d4,l7,c7,kpV.mo k3 s]
  refine ⟨?_,?_⟩
  ·cases F
   ·simp [c7]
   ·simp [c7]
    rintro a b (⟨rfl,rfl⟩ | ⟨rfl,rfl⟩)
    ·simp [c7]
    ·simp
     intro x s4;have:=k5 x s4;omega
  refine Rnd.mk (by simp [J,gk]) (by simp [J,gn]) ⟨by simp [J,g2],by simp [J,g3],by simp [J,g5],by simp [J,g6],by simp [J,g8],by simp [J,g9],by simp [J,I],by simp [J,h7],_,h9,by simp [d0],(Z.set O).set a9,fun r c hc=>?_⟩
  rw [h0j (W:=W) a9 d9,h0j (W:=W) O d1,c6 r c hc,f4]
  by_cases hr:r=1
  ·subst hr
   simp only [true_and,l1o]
   by_cases c1:c=n + k
   ·rw [k1B c1,k1y (by omega),k1B (by omega),c1,show n + k - n=k by omega]
   ·rw [k1y c1]
    by_cases c2:c=k
    ·rw [k1B c2,k1B (by omega),c2]
    ·rw [k1y c2]
     have p1:(c < k + 1)=(c < k):=n1y (by omega)
     have p2:(n<=c/\c < n + (k + 1))=(n<=c/\c < n + k):=n1y (by omega)
     simp only [p1,p2]
  ·rw [k1y (fun h=>hr h.1),k1y (fun h=>hr h.1),k1y hr,k1y hr]
 ·clear h0 ρ u b3
  rintro ρ G gk gn ⟨g2,g3,g5,g6,g8,g9,I,h7,M,u,d0,Z,c6⟩
  simp [p0p,g3,u.b3,j4]
  generalize r8:[Value.int .i64 (n:Int),sA,q5,sC,.bool (a0e q.cb).1.1,s1,.bool (a0e q.cb).2.1,s2]=sv at u
  have b8:∃ a b c d e f,sv=.int .i64 (n:Int) :: sA :: a :: b :: c :: d :: e :: f :: []:=⟨_,_,_,_,_,_,r8.symm⟩
  refine d0b (n:=m) (i1k F H p P7 n m W q sv sA sD w9 N) rfl rfl (by decide) (by omega) (by simp) (by simp) ?_ ?_ ?_ ?_
  ·refine ⟨by simp [g2],by simp [g3],by simp [g6],by simp [g8],by simp [g9],by simp [I],by simp,[],[],M,_,_,u,rfl,rfl,d0,Z,fun r c hr=>by omega,fun c hc=>?_,fun c hc=>?_,fun r hr=>by omega⟩
   ·rw [c6 0 c hc,k1y (by decide)];rfl
   ·rw [c6 1 c hc,k1B rfl]
    unfold cost
    by_cases c1:c < n
    ·rw [k1B c1,k1B c1]
    ·rw [k1y c1,k1y c1]
     by_cases c2:c < 2 * n
     ·rw [k1B c2,k1B (by omega)];omega
     ·rw [k1y c2,k1y (by omega)];rfl
  ·intro i ρ n4 G h hI;unfold i1k at *;simpa [h] using hI
  ·clear g2 g3 g5 g6 g8 g9 I h7 u d0 Z c6 gk gn ρ M G
   rintro i ρ G hi gi gm ⟨g2,g3,g6,g8,g9,I,a4,vs,bs,M,sR,sB,u,f2,k0,n8,Z,j6,j7,j8,j9⟩
   obtain ⟨x3,x4,x5,x6,x7,x8,b8⟩:=b8
   have i6:i < q.A.length:=by omega
   obtain ⟨q6,q7,wr,s3,kr⟩:=Sls.load1x qA u.ext i6
   have p6:q6=wr:=by simpa using s3
   subst p6
   have t2:q.A[i].length=n + 1:=p4 _ (k1D i6)
   have b3:=u.b3
   rw [b8] at b3
   simp [p0q,gi,a4,(qA.mo q0H u.ext).ia i6,q7,p0r,g8]
   refine (u.one (by have:=u.ext.1;omega) hn hm).mo ?_
   rintro x G2 ⟨hx,s⟩
   rw [<- hW] at hx
   have o3:rMd F H H.size (H.size + 1) (p + 1) P7 p n m sv (vs ++ [w9,N]) (M.take i ++ M.drop i) sR sD sB vs bs G:=by rw [m1o];exact u
   have g1:=o3.ins (by simp;omega) hx s
   obtain ⟨M',d5⟩:∃ M',M' = M.take i ++ List.replicate W 0 :: M.drop i:=⟨_,rfl⟩
   rw [<- d5] at g1
   have e8:Rec W M':=by rw [d5];exact Z.ins (by simp)
   have e4:∀ r c,Tf M' r c=if r < i then Tf M r c else if r=i then 0 else Tf M (r - 1) c:=fun r c=>by
    rw [d5,Z0R (by omega),f0K]
   have n9:M'.length=i + 3:=by rw [d5];simp;omega
   clear hx o3 u s d5
   have e7:i < M'.length:=by omega
   have b4:(vs ++ x :: [w9,N])[i]'(by simp;omega)=x:=by rw [k1X (by omega)];simp [f2]
   have n0:=kr.mo d0t g1.ext
   obtain ⟨v',m9,kv,m2⟩:=n0.first (n:=n) (k:=.i64) (by omega)
   have k2:=kv.slen
   rw [l1v,l1x (by omega)] at k2
   have b3:=g1.b3
   rw [b8] at b3
   simp [p0s,g3,b3,m9,m2,k2]
   refine d0b (n:=n) (fun k ρ G=>ρ 2=.pointer (some ⟨H.size,0,none⟩)/\ρ 3=.pointer (some ⟨H.size + 1,0,none⟩)/\ρ 6=.pointer (some ⟨p + 1,0,none⟩)/\ρ 8=.func (.func (F.p o0m o0l)) #[] #[.pointer (some ⟨p + 1,0,none⟩),.pointer (some ⟨P7,0,none⟩)]/\ρ 9=w9/\ρ 10=N/\ρ 77=sA/\ρ 78=.int .i64 (m:Int)/\ρ 79=.int .i64 (i:Int)/\ρ 14=.int .i64 (i:Int)/\ρ 15=q6/\ρ 16=x/\ρ 89=v' /\
    ∃ M2,rMd F H H.size (H.size + 1) (p + 1) P7 p n m sv (vs ++ x :: [w9,N]) M2 sR sD sB vs bs G/\M2.length=i + 3/\Rec W M2/\∀ r c,c < W->Tf M2 r c=if r=i then (if c < k then Tf q.A i c else if n<=c/\c < n + k then -Tf q.A i (c - n) else 0) else Tf M' r c)
    rfl rfl (by decide) (by omega) (by simp) (by simp) ?_ ?_ ?_ ?_
   ·refine ⟨by simp [g2],by simp [g3],by simp [g6],by simp [g8],by simp [g9],by simp [I],by simp [a4],by simp [gm],by simp [gi],by simp [gi],by simp,by simp,by simp,M',g1,n9,e8,fun r c hc=>?_⟩
    by_cases hr:r=i
    ·subst hr;rw [k1B rfl,k1y (by omega),k1y (by omega),e4,k1y (by omega),k1B rfl]
    ·rw [k1y hr]
   ·intro i ρ n4 G h hI;simpa [h] using hI
   ·clear g2 g3 g6 g8 g9 I a4 gi gm g1 e8 b3 m2 k2 n0 kv ρ
    rintro k ρ G J gk gn ⟨g2,g3,g6,g8,g9,I,a4,gm,gi,e3,h6,a0,h8,M2,u,d0,a7,c6⟩
    obtain ⟨s8,k7,kv,_⟩:=(kr.mo d0t u.ext).first (n:=n) (k:=.i64) (by omega)
    have s0:s8 = v':=by rw [m9] at k7;exact (Option.some.inj k7).symm
    subst s0
    have g4:k < (q.A[i].take n).length:=by rw [l1v];omega
    obtain ⟨cs,ec,o7,kc⟩:=Sls.load kv g4 (by omega)
    have l9:(q.A[i].take n)[k]=Tf q.A i k:=by rw [List.getElem_take,K0N i6 (by omega)]
    rw [l9] at kc
    obtain ⟨sc,m0,kc⟩:=kc
    rw [m0] at ec
    have hsz:=u.ext.1
    simp [p0t,gk,h8,kv.ia g4,ec,kc.cells,kc.plain,hsz]
    generalize hN:Array.setIfInBounds (Array.push _ _) _ _=G2
    obtain ⟨s,h4⟩:=new1 hN
    clear hN
    replace u:=u.mo s
    replace kc:=kc.mo s
    generalize o4:Array.size G=P12 at *
    simp [p0u,g2,u.b2,h4]
    refine (f1v (z:=Tf q.A i k) ⟨sc,rfl,kc⟩ u.ext.1 (f3 _ _) hR).mo ?_
    rintro wx G8 ⟨kx,s⟩
    replace u:=u.mo s
    have m8:=u.ext.1
    clear h4 kc kv ec
    have O:i < M2.length:=by omega
    have d1:k < M2[i].length:=by rw [a7 i O];omega
    have m5:n + k < M2[i].length:=by rw [a7 i O];omega
    obtain ⟨bw,l7,c7,o6⟩:∃ b,AI.blkOf (adr F.w x k)=[b]/\H.size + 1 ≠ b/\b < G8.size:=by
     have:=u.bl (i:=i) (j:=k) O d1
     rw [b4] at this;exact this
    obtain ⟨zz,f4⟩:∃ z,z=Tf q.A i k:=⟨_,rfl⟩
    rw [<- f4] at kx
    have i9:lz zz < 67108864:=by rw [f4];exact f3 i k
    simp
    refine C0h (by simp) (by decide) (by decide) (by decide) kx m8 ?_
    intro s9 G9 e1 k3 k5 J
    replace u:=u.mo e1
    replace kx:=kx.mo e1
    have b3:=u.b3
    rw [b8] at b3
    have w3:IntKind.i64.wrap ((n:Int) + k)=(n:Int) + k:=a0S (by omega) (by omega)
    have i1:=u.ia (i:=i) (j:=k) O d1
    have i2:=u.ia (i:=i) (j:=n + k) O m5
    rw [b4] at i1 i2
    rw [show ((n + k:Nat):Int)=(n:Int) + k by omega] at i2
    refine c0R ?_
    simp [p0v,g2,g3,a0,u.b2,b3,w3,J,k3]
    refine (y0Z kx (by have:=u.ext.1;omega) i9).mo ?_
    rintro wn g0 ⟨kn,s⟩
    replace u:=u.mo s
    replace kx:=kx.mo s
    obtain ⟨l0,a3,l3,_,i8,_⟩:=u.store (x:=zz) (i:=i) (j:=k) O d1 kx
    have a9:i < (M2.set i (M2[i].set k zz)).length:=by simp;omega
    have d9:n + k < (M2.set i (M2[i].set k zz))[i].length:=by rw [a7.set O i a9];omega
    obtain ⟨n5,d4,h9,_,_,_⟩:=l3.store (x:=-zz) (i:=i) (j:=n + k) a9 d9 (kn.lx i8)
    rw [b4] at a3 d4
    simp [i1,i2,a3,d4,l7,c7]
    refine Rnd.mk ?_ ?_ ?_
    ·simp [J,gk]
    ·simp [J,gn]
    refine ⟨by simp [J,g2],by simp [J,g3],by simp [J,g6],by simp [J,g8],by simp [J,g9],by simp [J,I],by simp [J,a4],by simp [J,gm],by simp [J,gi],by simp [J,e3],by simp [J,h6],by simp [J,a0],by simp [J,h8],_,h9,by simp [d0],(a7.set O).set a9,fun r c hc=>?_⟩
    rw [h0j (W:=W) a9 d9,h0j (W:=W) O d1,c6 r c hc,f4]
    by_cases hr:r=i
    ·subst hr
     simp only [true_and,l1o]
     by_cases c1:c=n + k
     ·rw [k1B c1,k1y (by omega),k1B (by omega),c1,show n + k - n=k by omega]
     ·rw [k1y c1]
      by_cases c2:c=k
      ·rw [k1B c2,k1B (by omega),c2]
      ·rw [k1y c2]
       have p1:(c < k + 1)=(c < k):=n1y (by omega)
       have p2:(n<=c/\c < n + (k + 1))=(n<=c/\c < n + k):=n1y (by omega)
       simp only [p1,p2]
    ·rw [k1y (fun h=>hr h.1),k1y (fun h=>hr h.1),k1y hr,k1y hr]
   ·clear g2 g3 g6 g8 g9 I a4 gi gm g1 e8 b3 m2 k2 n0 kv m9 ρ
    rintro ρ G gk gn ⟨g2,g3,g6,g8,g9,I,a4,gm,gi,e3,h6,a0,h8,M2,u,d0,a7,c6⟩
    have b3:=u.b3
    rw [b8] at b3
    have bp:=u.bp
    have b6:=u.b6
    have b2:=u.b2
    have d6:i < M2.length:=by omega
    have m3:2 * n + i < M2[i].length:=by rw [a7 i d6];omega
    have w4:IntKind.i64.wrap (2 * (n:Int) + i)=2 * (n:Int) + i:=a0S (by omega) (by omega)
    have i1:=u.ia (i:=i) (j:=2 * n + i) d6 m3
    rw [b4,show ((2 * n + i:Nat):Int)=2 * (n:Int) + i by omega] at i1
    obtain ⟨G2,a3,b9,_,_,_⟩:=u.store (x:=1) (i:=i) (j:=2 * n + i) d6 m3 u.dv
    rw [b4] at a3
    refine a0C ?_
    simp [p0w,g3,g6,e3,a0,b3,b6,bp,c1J bp,w1,w4,i1,a3]
    obtain ⟨M3,f5⟩:∃ M3,M3=M2.set i (M2[i].set (2 * n + i) 1):=⟨_,rfl⟩
    have j3:Rec W M3:=by rw [f5];exact a7.set d6
    have o0:M3.length=i + 3:=by rw [f5];simp [d0]
    have o5:∀ r c,c < W->Tf M3 r c=if r=i/\c=2 * n + i then 1 else Tf M2 r c:=fun r c hc=>by rw [f5,h0j (W:=W) d6 m3]
    rw [<- f5] at b9
    clear b3 bp b6 b2 a3 i1
    have b3:=b9.b3
    rw [b8] at b3
    have bp:=b9.bp
    have b6:=b9.b6
    have b2:=b9.b2
    have n2:=kr.mo d0t b9.ext
    have m6:n < q.A[i].length:=by omega
    obtain ⟨cs,ec,o7,kc⟩:=Sls.load n2 m6 (by omega)
    have r1:q.A[i][n]=bbq q n i:=by unfold bbq;rw [K0N i6 m6]
    rw [r1] at kc
    refine m0i ?_
    simp [p0x,g2,g3,g6,h6,a0,b2,b3,b6,bp,n2.ia m6,ec]
    have j2:=fun (R':a0D) (i0:r0f F R')=>f1v (fl:=max H.size G2.size) (R:=R') kc (by have:=b9.ext.1;omega) (f3 i n) i0
    refine a0O.mo (j2 _ (D0a 2 rfl rfl hR)) ?_
    clear j2
    rintro wb G4 ⟨kb,s⟩
    replace b9:=b9.mo s
    have d7:i < M3.length:=by omega
    have m4:2 * n + m < M3[i].length:=by rw [j3 i d7];omega
    have i1:=b9.ia (i:=i) (j:=2 * n + m) d7 m4
    rw [b4,e2] at i1
    obtain ⟨G5,a3,a5,_,_,_⟩:=b9.store (x:=bbq q n i) (i:=i) (j:=2 * n + m) d7 m4 kb
    rw [b4] at a3
    simp [i1,a3]
    obtain ⟨M4,f6⟩:∃ M4,M4=M3.set i (M3[i].set (2 * n + m) (bbq q n i)):=⟨_,rfl⟩
    have d2:Rec W M4:=by rw [f6];exact j3.set d7
    have k4:M4.length=i + 3:=by rw [f6];simp [o0]
    have i4:∀ r c,c < W->Tf M4 r c=if r=i then e0z n m (Tf q.A) (bbq q n) i c else Tf M' r c:=fun r c hc=>by
     rw [f6,h0j (W:=W) d7 m4,o5 r c hc,c6 r c hc]
     by_cases hr:r=i
     ·subst hr
      simp only [true_and,l1o]
      unfold e0z
      by_cases c0:c=2 * n + m
      ·rw [k1B c0,k1y (by omega),k1y (by omega),k1y (by omega)]
      ·rw [k1y c0]
       by_cases c1:c=2 * n + r
       ·rw [k1B c1,k1y (by omega),k1y (by omega),k1B (by omega),k1B (by omega)]
       ·rw [k1y c1]
        by_cases c2:c < n
        ·rw [k1B c2,k1B c2]
        ·rw [k1y c2,k1y c2]
         by_cases c3:c < 2 * n
         ·rw [k1B (by omega),k1B c3]
         ·rw [k1y (by omega),k1y c3]
          by_cases c4:c < 2 * n + m
          ·rw [k1B c4,k1y (by omega)]
          ·omega
     ·rw [k1y (fun h=>hr h.1),k1y (fun h=>hr h.1),k1y hr,k1y hr]
    rw [<- f6] at a5
    clear b3 bp b6 b2 a3 i1 kc ec n2 kb s
    have b3:=a5.b3
    rw [b8] at b3
    have bp:=a5.bp
    have b6:=a5.b6
    have b2:=a5.b2
    have d8:i < M4.length:=by omega
    have o8:2 * n + m < M4[i].length:=by rw [d2 i d8];omega
    obtain ⟨wv,ev,fv⟩:=a5.num (i:=i) (j:=2 * n + m) d8 o8
    have i1:=a5.ia (i:=i) (j:=2 * n + m) d8 o8
    rw [b4] at ev i1
    rw [e2] at i1
    rw [i4 i (2 * n + m) (by omega),k1B rfl,f0U] at fv
    simp [p0y,g3,e3,b3,w1,w4]
    refine a0C ?_
    simp [p0z,g2,g6,a0,b2,b6,bp,i1,ev]
    refine (s0d fv (by have:=a5.ext.1;omega) (f3 i n)).mo ?_
    rintro _ G6 ⟨rfl,s⟩
    replace a5:=a5.mo s
    clear b3 bp b6 b2 ev fv i1
    by_cases b1:bbq q n i < 0
    ·have hc:c0L (bbq q n i) 0 = -1:=by unfold c0L;rw [k1B b1]
     have bp:=a5.bp
     have b6:=a5.b6
     have f9:=(a5.rows.own i d8).slen
     rw [b4,d2 i d8] at f9
     have w5:IntKind.i64.wrap (2 * (n:Int) + m + i)=2 * (n:Int) + m + i:=a0S (by omega) (by omega)
     have e1:(vs ++ x :: [w9,N])[i + 1]'(by simp;omega)=w9:=by rw [k1X (by omega)];simp [f2]
     simp [hc,p0A,g6,e3,b6,bp,w5,p0B,a0,f9]
     refine d0b (n:=W) (fun k ρ G=>ρ 2=.pointer (some ⟨H.size,0,none⟩)/\ρ 3=.pointer (some ⟨H.size + 1,0,none⟩)/\ρ 6=.pointer (some ⟨p + 1,0,none⟩)/\ρ 8=.func (.func (F.p o0m o0l)) #[] #[.pointer (some ⟨p + 1,0,none⟩),.pointer (some ⟨P7,0,none⟩)]/\ρ 9=w9/\ρ 10=N/\ρ 77=sA/\ρ 78=.int .i64 (m:Int)/\ρ 79=.int .i64 (i:Int)/\ρ 16=x/\ρ 20=.int .i64 (2 * (n:Int) + m + i) /\
      ∃ M5,rMd F H H.size (H.size + 1) (p + 1) P7 p n m sv (vs ++ x :: [w9,N]) M5 sR sD sB vs bs G/\M5.length=i + 3/\Rec W M5/\∀ r c,c < W->Tf M5 r c=if r=i then (if c < k then -e0z n m (Tf q.A) (bbq q n) i c else e0z n m (Tf q.A) (bbq q n) i c) else if r=i + 1 then (if c < k then -u0d q n m i c - -e0z n m (Tf q.A) (bbq q n) i c else -u0d q n m i c) else Tf M' r c)
      rfl rfl (by decide) (by omega) (by simp) (by simp) ?_ ?_ ?_ ?_
     ·refine ⟨by simp [g2],by simp [g3],by simp [g6],by simp [g8],by simp [g9],by simp [I],by simp [a4],by simp [gm],by simp [gi],by simp [a0],by simp,M4,a5,k4,d2,fun r c hc=>?_⟩
      rw [i4 r c hc]
      by_cases y:r=i
      ·rw [k1B y,k1B y,k1y (by omega)]
      ·rw [k1y y,k1y y]
       by_cases L:r=i + 1
       ·rw [k1B L,k1y (by omega),L,e4,k1y (by omega),k1y (by omega),show i + 1 - 1=i by omega,j7 c hc]
       ·rw [k1y L]
     ·intro i ρ n4 G h hI;simpa [h] using hI
     ·clear g2 g3 g6 g8 g9 I a4 gi gm e3 h6 a0 h8 b6 bp f9 hc
      rintro k ρ G J gk gn ⟨g2,g3,g6,g8,g9,I,a4,gm,gi,a0,l2,M5,u,c8,a8,U⟩
      have e7:i < M5.length:=by omega
      have k1:k < M5[i].length:=by rw [a8 i e7];exact J
      obtain ⟨wv,ev,fv⟩:=u.num (i:=i) (j:=k) e7 k1
      have i1:=u.ia (i:=i) (j:=k) e7 k1
      rw [b4] at ev i1
      rw [U i k J,k1B rfl,k1y (by omega)] at fv
      obtain ⟨oc,m7⟩:∃ z,z=e0z n m (Tf q.A) (bbq q n) i k:=⟨_,rfl⟩
      rw [<- m7] at fv
      have o9:lz oc < 67108864:=by
       rw [m7];unfold e0z
       split
       ·exact f3 _ _
       ·split
        ·rw [f0w];exact f3 _ _
        ·split
         ·split
          ·rw [g0O];decide
          ·rw [c0v];decide
         ·exact f3 _ _
      have b2:=u.b2
      have hsz:=u.ext.1
      simp [p0C,gk]
      refine a0C ?_
      simp [p0D,g2,a0,gk,b2,i1,ev]
      refine (y0Z fv (by omega) o9).mo ?_
      rintro wn G2 ⟨kn,s⟩
      replace u:=u.mo s
      obtain ⟨G3,a3,a6,_,_,t3⟩:=u.store (x:=-oc) (i:=i) (j:=k) e7 k1 kn
      rw [b4] at a3
      simp [i1,a3]
      obtain ⟨M6,f7⟩:∃ M6,M6=M5.set i (M5[i].set k (-oc)):=⟨_,rfl⟩
      have e9:Rec W M6:=by rw [f7];exact a8.set e7
      have o2:M6.length=i + 3:=by rw [f7];simp [c8]
      have i5:∀ r c,Tf M6 r c=if r=i/\c=k then -oc else Tf M5 r c:=fun r c=>by rw [f7,h0j (W:=W) e7 k1]
      rw [<- f7] at a6
      have i7:i < M6.length:=by omega
      have b5:i + 1 < M6.length:=by omega
      have k6:k < M6[i].length:=by rw [e9 i i7];exact J
      have f8:k < M6[i + 1].length:=by rw [e9 (i + 1) b5];exact J
      obtain ⟨wx,ex,fx⟩:=a6.num (i:=i) (j:=k) i7 k6
      obtain ⟨wl,el,n6⟩:=a6.num (i:=i + 1) (j:=k) b5 f8
      have i2:=a6.ia (i:=i + 1) (j:=k) b5 f8
      have i3:=a6.ia (i:=i) (j:=k) i7 k6
      rw [b4] at ex i3
      rw [e1] at el i2
      rw [i5 i k,k1B ⟨rfl,rfl⟩] at fx
      rw [i5 (i + 1) k,k1y (by omega),U (i + 1) k J,k1y (by omega),k1B rfl,k1y (by omega)] at n6
      have b6:=a6.b6
      have hsz:=a6.ext.1
      refine m0i ?_
      simp [p0E,g6,g9,a0,b6,i2,i3,ex,el]
      have j2:=fun (R':a0D) (i0:r0f F R')=>Z0M (fl:=H.size) (R:=R') hsz a6.bp n6 fx (by rw [f0w];exact s5 i k (by omega) (by omega)) (by rw [f0w];exact o9) i0
      refine a0O.mo (j2 _ (D0a 2 rfl rfl hR)) ?_
      clear j2
      rintro ws G4 ⟨kw,d3⟩
      replace a6:=a6.mo d3
      obtain ⟨G5,d4,r0,_,_,_⟩:=a6.store (x:=-u0d q n m i k - -oc) (i:=i + 1) (j:=k) b5 f8 kw
      rw [e1] at d4
      simp [i2,d4]
      refine Rnd.mk ?_ ?_ ?_
      ·simp [gk]
      ·simp [gn]
      refine ⟨by simp [g2],by simp [g3],by simp [g6],by simp [g8],by simp [g9],by simp [I],by simp [a4],by simp [gm],by simp [gi],by simp [a0],by simp [l2],_,r0,by simp [o2],e9.set b5,fun r c hc=>?_⟩
      rw [h0j (W:=W) b5 f8,i5 r c,U r c hc,m7]
      have p1:c ≠ k->(c < k + 1)=(c < k):=fun h=>n1y (by omega)
      by_cases y:r=i
      ·subst y
       rw [k1y (by omega)]
       by_cases e6:c=k
       ·subst e6;simp
       ·simp [e6,p1 e6]
      ·by_cases L:r=i + 1
       ·subst L
        by_cases e6:c=k
        ·subst e6;simp
        ·simp [e6,p1 e6]
       ·simp [y,L]
     ·clear g2 g3 g6 g8 g9 I a4 gi gm e3 h6 a0 h8 b6 bp f9 hc
      rintro ρ G gk gn ⟨g2,g3,g6,g8,g9,I,a4,gm,gi,a0,l2,M5,c5,c8,a8,l5⟩
      have l8:((l0A n m (bbq q n) i:Nat):Int)=2 * (n:Int) + m + i:=by unfold l0A;rw [k1B b1];omega
      have U:∀ r c,c < W->Tf M5 r c=if r=i then sg (bbq q n) i * e0z n m (Tf q.A) (bbq q n) i c else if r=i + 1 then -u0d q n m (i + 1) c else Tf M' r c:=fun r c hc=>by
       rw [l5 r c hc]
       by_cases y:r=i
       ·rw [k1B y,k1B y,k1B hc];unfold sg;rw [k1B b1];omega
       ·rw [k1y y,k1y y]
        by_cases L:r=i + 1
        ·rw [k1B L,k1B L,k1B hc]
         have:u0d q n m (i + 1) c=u0d q n m i c + -e0z n m (Tf q.A) (bbq q n) i c:=by unfold u0d;rw [sm,k1B b1];unfold sg;rw [k1B b1];omega
         rw [this];omega
        ·rw [k1y L,k1y L]
      have d3:=(c5.rows.own i (by omega)).cells
      rw [b4] at d3
      obtain ⟨j5,G8,n3,G9,a1,a2,q1,p1,q2,p2,c1,c2,c3,c4,e5,l6,e0⟩:=c5.push2 (w:=x) d3.2 (b:=l0A n m (bbq q n) i) (by omega) (by omega)
      have b6:=c5.b6
      have bp:=c5.bp
      refine c0R ?_
      have j1:=a0k p2
      rw [l8] at a2
      simp [k0P,g6,a0,l2,b6,bp,d3.1,a1,q1,p1,a2,q2,p2,c1,c2,c3,c4,j0,j1]
      generalize l4:Array.setIfInBounds G9 p _=g0
      have a6:=e0 g0 (by rw [<- l4])
      clear e0
      refine ⟨⟨fun h=>(e5 _ h).1 rfl,fun x h=>(e5 x h).1,fun x h=>(e5 x h).2,fun h=>l6 _ h rfl⟩,?_⟩
      refine Rnd.mk ?_ ?_ ?_
      ·simp [gi]
      ·simp [gm]
      refine ⟨by simp [g2],by simp [g3],by simp [g6],by simp [g8],by simp [g9],by simp [I],by simp [a4],vs ++ [x],bs ++ [l0A n m (bbq q n) i],M5,j5,n3,by simpa using a6,by simp [f2],by simp [k0],c8,a8,fun r c hr hc=>?_,fun c hc=>?_,fun c hc=>?_,fun r hr=>?_⟩
      ·rw [U r c hc]
       by_cases y:r=i
       ·subst y;rw [k1B rfl]
       ·rw [k1y y,k1y (by omega),e4,k1B (by omega),j6 r c (by omega) hc]
      ·rw [U (i + 1) c hc,k1y (by omega),k1B rfl]
      ·rw [U (i + 2) c hc,k1y (by omega),k1y (by omega),e4,k1y (by omega),k1y (by omega)]
       exact j8 c hc
      ·unfold bf
       rw [k1v]
       by_cases y:r=i
       ·subst y
        rw [l1n (by omega),show r - bs.length=0 by omega];rfl
       ·rw [l1i (by omega),<- k1v]
        exact j9 r (by omega)
    ·have hc:¬ c0L (bbq q n i) 0 < 0:=by unfold c0L;rw [k1y b1];split <;> omega
     have l8:((l0A n m (bbq q n) i:Nat):Int)=2 * (n:Int) + i:=by unfold l0A;rw [k1y b1];omega
     obtain ⟨M5,n7⟩:∃ M5,M5=M4:=⟨_,rfl⟩
     have c5:=a5
     have c8:=k4
     have a8:=d2
     have U:∀ r c,c < W->Tf M4 r c=if r=i then sg (bbq q n) i * e0z n m (Tf q.A) (bbq q n) i c else if r=i + 1 then -u0d q n m (i + 1) c else Tf M' r c:=fun r c hc=>by
      rw [i4 r c hc]
      by_cases y:r=i
      ·rw [k1B y,k1B y];unfold sg;rw [k1y b1,Int.one_mul]
      ·rw [k1y y,k1y y]
       by_cases L:r=i + 1
       ·rw [k1B L,L,e4,k1y (by omega),k1y (by omega),show i + 1 - 1=i by omega,j7 c hc]
        have:u0d q n m (i + 1) c=u0d q n m i c:=by unfold u0d;rw [sm,k1y b1,l1O]
        rw [this]
       ·rw [k1y L]
     rw [<- n7] at c5 c8 a8 U
     simp [hc]
     have d3:=(c5.rows.own i (by omega)).cells
     rw [b4] at d3
     obtain ⟨j5,G8,n3,G9,a1,a2,q1,p1,q2,p2,c1,c2,c3,c4,e5,l6,e0⟩:=c5.push2 (w:=x) d3.2 (b:=l0A n m (bbq q n) i) (by omega) (by omega)
     have b6:=c5.b6
     have bp:=c5.bp
     refine c0R ?_
     have j1:=a0k p2
     rw [l8] at a2
     simp [k0P,g6,a0,b6,bp,d3.1,a1,q1,p1,a2,q2,p2,c1,c2,c3,c4,j0,j1]
     generalize l4:Array.setIfInBounds G9 p _=g0
     have a6:=e0 g0 (by rw [<- l4])
     clear e0
     refine ⟨⟨fun h=>(e5 _ h).1 rfl,fun x h=>(e5 x h).1,fun x h=>(e5 x h).2,fun h=>l6 _ h rfl⟩,?_⟩
     refine Rnd.mk ?_ ?_ ?_
     ·simp [gi]
     ·simp [gm]
     refine ⟨by simp [g2],by simp [g3],by simp [g6],by simp [g8],by simp [g9],by simp [I],by simp [a4],vs ++ [x],bs ++ [l0A n m (bbq q n) i],M5,j5,n3,by simpa using a6,by simp [f2],by simp [k0],c8,a8,fun r c hr hc=>?_,fun c hc=>?_,fun c hc=>?_,fun r hr=>?_⟩
     ·rw [U r c hc]
      by_cases y:r=i
      ·subst y;rw [k1B rfl]
      ·rw [k1y y,k1y (by omega),e4,k1B (by omega),j6 r c (by omega) hc]
     ·rw [U (i + 1) c hc,k1y (by omega),k1B rfl]
     ·rw [U (i + 2) c hc,k1y (by omega),k1y (by omega),e4,k1y (by omega),k1y (by omega)]
      exact j8 c hc
     ·unfold bf
      rw [k1v]
      by_cases y:r=i
      ·subst y
       rw [l1n (by omega),show r - bs.length=0 by omega];rfl
      ·rw [l1i (by omega),<- k1v]
       exact j9 r (by omega)
  ·clear g2 g3 g5 g6 g8 g9 I h7 u d0 Z c6 gk gn ρ M G
   rintro ρ G gi gm ⟨g2,g3,g6,g8,g9,I,a4,vs,bs,M,sR,sB,u,f2,k0,n8,Z,j6,j7,j8,j9⟩
   have b6:=u.b6
   have bp:=u.bp
   have c9:=(u.rows.own m (by omega)).cells
   have l1:=(u.rows.own (m + 1) (by omega)).cells
   have r9:(vs ++ [w9,N])[m]'(by simp;omega)=w9:=by rw [k1X (by omega)];simp [f2]
   have s7:(vs ++ [w9,N])[m + 1]'(by simp;omega)=N:=by rw [k1X (by omega)];simp [f2]
   rw [r9] at c9
   rw [s7] at l1
   obtain ⟨j5,G2,a1,o1,x1,y1⟩:=B0T u.heads c9.2 l1.2 (by omega) (bytes:=24) (by omega) u.ext.1
   have h3:∀ {e:Nat},F.S ≠ e->LxT e G G2:=fun c7=>u.heads.lxT c7 x1
   have p1:=h3 (by cases F <;> decide) _ _ _ bp
   have q1:=h3 (by cases F <;> decide) _ _ _ b6
   have s6:=u.heads.ne b6 (by cases F <;> decide)
   have i0:=u.heads.blkOf
   obtain ⟨cR,pR⟩:=o1.cells
   have r6:=a0k p1
   refine c0R ?_
   simp [p0F,g6,g9,I,b6,bp,c9.1,l1.1,a1,q1,p1,cR,pR,j0,r6]
   have r4:¬ (p + 1) ∈ blkW sR:=by
    rcases i0 with h0 | ⟨c,h0,h1⟩
    ·rw [h0];simp
    ·rw [h0,m1j]
     intro h5;exact s6 (by rw [h1,h5])
   generalize hS:Array.setIfInBounds G2 p _=G3
   have lx3:∀ {e:Nat},F.T ≠ e->LxT e G2 G3:=fun c7=>b0f hS p1 c7
   have q3:=lx3 (by cases F <;> decide) _ _ _ q1
   have r2:Lx G G3:=fun b ro cs hb=>lx3 (by cases F <;> decide) b ro cs (h3 (by cases F <;> decide) b ro cs hb)
   refine ⟨r4,?_⟩
   simp [p0G,g6,q3]
   refine fun _=>⟨p,M,bs,j5,sD,sB,vs ++ [w9,N],rfl,⟨?_,j0,(u.d.lx r2),o1.lxm (Q':=PV) (lx3 (by cases F <;> decide)) (fun _ _ h=>h),⟨u.rows.len,fun r hr=>((u.rows.own r hr).lxm (Q':=F.P) (h3 (by cases F <;> decide)) (fun cs x hx=>X0F.lx _ _ _ _ (h3 (by cases F <;> decide)) hx)).lxm (lx3 (by cases F <;> decide)) (fun cs x hx=>X0F.lx _ _ _ _ (lx3 (by cases F <;> decide)) hx),u.rows.apart⟩,(u.basis.lxm (Q':=PK) (h3 (by cases F <;> decide)) (fun _ _ h=>h)).lxm (lx3 (by cases F <;> decide)) (fun _ _ h=>h)⟩,⟨n8,fun r hr=>by rw [Z r hr,hW],k0⟩,fun r c hr hc=>?_,fun r hr=>j9 r hr⟩
   ·rw [a0r hS p1]
   ·by_cases h1:r < m
    ·rw [j6 r c h1 (by omega),e0V h1]
    ·by_cases h2:r=m
     ·subst h2;rw [j7 c (by omega),h0n];rfl
     ·have:r=m + 1:=by omega
      subst this;rw [j8 c (by omega),f0b]
end
section
variable {fl:Nat} {H G:a0f} {R:a0D} {v w:Value} {a b:b0b}
theorem l0H {x:Rat} (h:b0L H v (a0e x)) (I:fl<=H.size) (U:szR x < 67108864) :
  a0O env fl B0D [v] H (fun r H'=>b0L H' r (a0e (-x))/\Ext H H') R:=by
 have Z:=h
 obtain ⟨s,u,rfl,hs,J⟩:=h
 refine a0i h1h I (h:=?_)
 intro ρ F
 simp [N0h,G0P,F]
 generalize y:(H.push _).push _=G
 have c:Ext H G:=by rw [<- y];exact (Ext.refl H).push.push
 have b0:a0f.bk G H.size=.row false a0b [.bool (a0e x).1.1,s,.bool (a0e x).2.1,u]:=by rw [<- y];simp
 have k:a0f.bk G (H.size + 1)=.row false a0b [.bool false,.slice none 0 0,.bool false,.slice none 0 0]:=by rw [<- y];simp
 have j:=Ext.refl H
 clear y
 replace j:=j.trans c
 have M:=hs.mo j
 have q:=J.mo j
 have ln:(a0g x.num).2.length=lz x.num:=rfl
 have l1:=d0B x
 refine a0C ?_
 simp [G0Q,b0]
 refine (e0H (i:=a0g x.num) ⟨s,rfl,M⟩ (by have:=j.1;omega) (by omega)).mo ?_
 rintro _ O ⟨⟨N,rfl,z⟩,c⟩
 replace b0:=c.bk b0;replace k:=c.bk k;replace j:=j.trans c;replace q:=q.mo c
 rw [a0h] at z ⊢
 have hsz:=j.1
 have L:=a0k k
 simp [b0,k,q.cells,q.plain,z.cells,z.plain,hsz,L]
 have e:a0e (-x)=(a0g (-x.num),a0g x.den):=by unfold a0e;rw [Rat.neg_num,Rat.neg_den]
 rw [e]
 exact fun _=>⟨N,u,rfl,z.setT k (by decide),q.setT k (by decide)⟩
theorem l0v (h:b0L H v a) (k:b0L H w b) (M:fl<=H.size) (N:d0J a < 67108864) (hm:d0J b < 67108864) :
  a0O env fl z0s [v,w] H (fun r H'=>b0L H' r (a0e (b0t a - b0t b))/\Ext H H') R:=by
 have j:=h
 have x:=k
 obtain ⟨s,u,rfl,hs,hu⟩:=h
 obtain ⟨s',u',rfl,O,U⟩:=k
 refine a0i g1W M (h:=?_)
 intro ρ L
 simp [M0Y,F0Q,L]
 generalize q:((H.push _).push _).push _=G
 have c:Ext H G:=by rw [<- q];exact (Ext.refl H).push.push.push
 have b0:a0f.bk G H.size=.row false a0b [.bool a.1.1,s,.bool a.2.1,u]:=by rw [<- q];simp
 have J:a0f.bk G (H.size + 1)=.row false a0b [.bool b.1.1,s',.bool b.2.1,u']:=by rw [<- q];simp
 have b2:a0f.bk G (H.size + 2)=.row false a0b [.bool false,.slice none 0 0,.bool false,.slice none 0 0]:=by rw [<- q];simp
 have e:=Ext.refl H
 clear q
 replace e:=e.trans c;replace j:=j.mo c;replace x:=x.mo c
 have sb:=b0W x.ok.1 x.ok.2
 refine a0C ?_
 simp [F0R,b0,J]
 refine (c0p x (by have:=e.1;omega) (by omega)).mo ?_
 rintro y G2 ⟨k2,c⟩
 replace b2:=c.bk b2;replace e:=e.trans c;replace j:=j.mo c
 simp
 refine (l0H k2 (by have:=e.1;omega) (by omega)).mo ?_
 rintro z G3 ⟨k3,c⟩
 replace b2:=c.bk b2;replace e:=e.trans c;replace j:=j.mo c
 have sn:=K0w (b0t b)
 simp
 refine (b0K j k3 e.1 N (by rw [a0E];omega)).mo ?_
 rintro _ G4 ⟨⟨s1,s2,rfl,F,I⟩,c⟩
 replace b2:=c.bk b2;replace e:=e.trans c
 rw [a0w,<- Rat.sub_eq_add_neg] at F I ⊢
 have Z:=a0k b2
 simp [b2,F.cells,F.plain,I.cells,I.plain,Z]
 exact fun _=>⟨s1,s2,rfl,F.setT b2 (by decide),I.setT b2 (by decide)⟩
theorem t0M (h:b0L H v a) (k:b0L H w b) (hf:fl<=H.size) (hn:d0J a < 67108864) (hm:d0J b < 67108864) (a0:b0t b ≠ 0) :
  a0O env fl B0y [v,w] H (fun r H'=>(∃ q,r=.tuple #[q,.int .i64 0]/\b0L H' q (a0e (b0t a / b0t b)))/\Ext H H') R:=by
 have L:=h
 have I:=k
 obtain ⟨s,u,rfl,hs,hu⟩:=h
 obtain ⟨s',u',rfl,a2,a3⟩:=k
 refine a0i g1U hf (h:=?_)
 intro ρ h0
 simp [M0W,F0K,h0]
 generalize hG:((H.push _).push _).push _=G
 have c:Ext H G:=by rw [<- hG];exact (Ext.refl H).push.push.push
 have b0:a0f.bk G H.size=.row false a0b [.bool a.1.1,s,.bool a.2.1,u]:=by rw [<- hG];simp
 have j:a0f.bk G (H.size + 1)=.row false a0b [.bool b.1.1,s',.bool b.2.1,u']:=by rw [<- hG];simp
 have b2:a0f.bk G (H.size + 2)=.row false a0b [.bool false,.slice none 0 0,.bool false,.slice none 0 0]:=by rw [<- hG];simp
 have e:=Ext.refl H
 clear hG
 replace e:=e.trans c;replace L:=L.mo c;replace I:=I.mo c
 have sa:=b0W L.ok.1 L.ok.2
 have sb:=b0W I.ok.1 I.ok.2
 refine a0C ?_
 simp [F0L,b0]
 refine (c0p L (by have:=e.1;omega) (by omega)).mo ?_
 rintro _ G2 ⟨⟨s1,s2,rfl,F,J⟩,c⟩
 replace b0:=c.bk b0;replace j:=c.bk j;replace b2:=c.bk b2;replace e:=e.trans c;replace L:=L.mo c;replace I:=I.mo c
 simp [j]
 refine (c0p I e.1 (by omega)).mo ?_
 rintro _ G2 ⟨⟨s3,s4,rfl,M,N⟩,c⟩
 replace b0:=c.bk b0;replace j:=c.bk j;replace b2:=c.bk b2;replace e:=e.trans c;replace L:=L.mo c;replace I:=I.mo c;replace F:=F.mo c;replace J:=J.mo c
 clear L I
 have Z:=a0k b0
 simp [b0,F.cells,F.plain,J.cells,J.plain,Z]
 generalize z:Array.setIfInBounds _ _ _=G3
 have hsz:=e.1;replace F:=F.setS z b0 (by decide);replace J:=J.setS z b0 (by decide);replace M:=M.setS z b0 (by decide);replace N:=N.setS z b0 (by decide);replace j:=a0o z j (by omega);replace b2:=a0o z b2 (by omega);replace e:=a0I z e (by omega);replace b0:=a0r z b0;clear z hsz
 have Z:=a0k j
 simp [j,M.cells,M.plain,N.cells,N.plain,Z]
 generalize z:Array.setIfInBounds _ _ _=G3
 have hsz:=e.1;replace F:=F.setS z j (by decide);replace J:=J.setS z j (by decide);replace M:=M.setS z j (by decide);replace N:=N.setS z j (by decide);replace b0:=a0o z b0 (by omega);replace b2:=a0o z b2 (by omega);replace e:=a0I z e (by omega);replace j:=a0r z j;clear z hsz
 obtain ⟨x,a4⟩:∃ x,x=b0t a:=⟨_,rfl⟩
 obtain ⟨y,a5⟩:∃ y,y=b0t b:=⟨_,rfl⟩
 rw [<- a4] at sa F J b0 ⊢
 rw [<- a5] at sb M N j a0 ⊢
 have L:b0g _ (.agg #[.bool (a0e x).1.1,s1]) (a0g x.num):=⟨s1,rfl,F⟩
 have I:b0g _ (.agg #[.bool (a0e x).2.1,s2]) (a0g x.den):=⟨s2,rfl,J⟩
 have O:b0g _ (.agg #[.bool (a0e y).1.1,s3]) (a0g y.num):=⟨s3,rfl,M⟩
 have U:b0g _ (.agg #[.bool (a0e y).2.1,s4]) (a0g y.den):=⟨s4,rfl,N⟩
 have l1:=d0B x
 have l2:=e0h x
 have l3:=d0B y
 have l4:=e0h y
 clear hs hu a2 a3 F J M N
 refine a0C ?_
 simp [F0M,b0,j]
 refine (b0G L U (by have:=e.1;omega) (by rw [a0j];omega) (by rw [a0j];omega)).mo ?_
 rintro _ G4 ⟨F,c⟩
 replace b0:=c.bk b0;replace j:=c.bk j;replace b2:=c.bk b2;replace e:=e.trans c;replace I:=I.mo c;replace O:=O.mo c;replace U:=U.mo c
 simp [b0,j]
 refine (b0G I O e.1 (by rw [a0j];omega) (by rw [a0j];omega)).mo ?_
 rintro _ G5 ⟨J,c⟩
 replace b2:=c.bk b2;replace e:=e.trans c;replace F:=F.mo c;replace O:=O.mo c;replace U:=U.mo c
 rw [a0h,a0h] at F J
 have q1:=c0h x.num y.den
 have q2:=c0h x.den y.num
 have a1:(x.den:Int) * y.num ≠ 0:=m1Y (by have:=x.den_nz;omega) (fun h=>a0 (Rat.num_eq_zero.1 h))
 rw [o0S]
 generalize x.num * y.den=p at *
 generalize (x.den:Int) * y.num=q at *
 simp
 have hq:=fun R'=>d0X (fl:=H.size) (R:=R') F J e.1 (by rw [a0j];omega) (by rw [a0j];omega) (by rw [a0h];exact a1)
 simp only [a0h] at hq
 refine (hq _).mo ?_
 rintro _ G6 ⟨⟨_,rfl,s8,s9,rfl,O,U⟩,c⟩
 replace b2:=c.bk b2;replace e:=e.trans c
 have hz:=a0k b2
 simp [b2,O.cells,O.plain,U.cells,U.plain,hz]
 exact fun _=>⟨s8,s9,rfl,O.setT b2 (by decide),U.setT b2 (by decide)⟩
end
section
open SX
variable {fl:Nat} {H G:a0f} {R:a0D} {v w u:Value} {F:RK}
theorem C0S {a b D:Int} (c:D ≠ 0):Rat.divInt a D + Rat.divInt b D=Rat.divInt (a + b) D:=by
 rw [Rat.divInt_add_divInt _ _ c c,<- Int.add_mul,Rat.divInt_mul_right c]
theorem b1S {b D:Int}:-Rat.divInt b D=Rat.divInt (-b) D:=by
 first
 | rw [Rat.neg_divInt]
 | rw [<- Rat.neg_divInt]
theorem O0r {a b D:Int} (c:D ≠ 0):Rat.divInt a D - Rat.divInt b D=Rat.divInt (a - b) D:=by
 rw [Rat.sub_eq_add_neg,b1S,C0S c,m1D]
theorem X0E {D:Int}:Rat.divInt 0 D=0:=Rat.zero_divInt D
def ptq (n:Nat) (base:Nat->Nat) (Fv:Nat->Int) (q k:Nat):Int:=sm (fun i=>if base i=k then Fv i else if base i=n + k then -Fv i else 0) q
theorem p0c {n:Nat} {base:Nat->Nat} {Fv:Nat->Int} {K k:Nat}:∀ {q:Nat},(∀ i,i < q->lz (Fv i)<=K)->lz (ptq n base Fv q k)<=K + q
 | 0,_=>by unfold ptq;rw [sm,c0v];omega
 | q + 1,h=>by
  have j:=p0c (n:=n) (base:=base) (k:=k) (q:=q) (fun i hi=>h i (by omega))
  have e:=h q (by omega)
  have c:∀ z,lz z<=K->lz (ptq n base Fv q k + z)<=K + (q + 1):=fun z s=>by
   have:=h0s (ptq n base Fv q k) z;omega
  show lz (ptq n base Fv q k + if base q=k then Fv q else if base q=n + k then -Fv q else 0)<=_
  split
  ·exact c _ e
  ·split
   ·exact c _ (by rw [f0w];exact e)
   ·exact c _ (by rw [c0v];omega)
theorem e0f {n j:Nat} {f g:Nat->b0b} (h:∀ k,k < n->k ≠ j->g k=f k):((List.range n).map f).set j (g j)=(List.range n).map g:=by
 apply n1q
 ·simp
 ·intro k s e
  rw [List.getElem_set]
  simp only [l1m,m1i]
  split
  ·rename_i c;rw [c]
  ·rename_i c;rw [h k (by simpa using e) (fun q=>c q.symm)]
theorem u0j {f0 p n m:Nat} {L:List (List Int)} {k D x:Int} {bs:List Nat} {sR sD sB q:Value} {vs:List Value} (h:e0R F f0 H p n m L D bs k sR sD sB vs) (j:fl<=H.size) (e:rV F H q x) (lx:lz x < 67108864) (lD:lz D < 67108864) (c:D ≠ 0) :
  a0O env fl (F.p s0D s0C) [.pointer (some ⟨p,0,none⟩),q] H (fun r H'=>b0L H' r (a0e (Rat.divInt x D))/\Ext H H') R:=by
 cases F
 ·obtain ⟨rfl,e⟩:=e
  exact o0s j h.bk e h.d c
 ·exact o0h j h.bk h.d e lx lD c
theorem p0g {f0 p n m:Nat} {L:List (List Int)} {k D:Int} {bs:List Nat} {sR sD sB:Value} {vs:List Value} {g:FuncId} {O:Array Value} {Fv:Nat->Int} (h:e0R F f0 H p n m L D bs k sR sD sB vs) (hf:fl<=H.size) (hS:ShT n m L bs) (c7:lz D < 60000000) (a5:D ≠ 0) (hF:∀ i,i < m->lz (Fv i)<=59999999) (hm:m < 1048576) (hn:n < 1048576)
  (hg:∀ (fl i:Nat) (G:a0f) (R':a0D),Ext H G->fl<=G.size->i < m->a0O env fl g (.int .i64 (i:Int) :: O.toList) G (fun r G'=>rV F G' r (Fv i)/\Ext G G') R') :
  a0O env fl (l0Q F) [.pointer (some ⟨p,0,none⟩),.func (.func g) #[] O] H (fun r H'=>b0d PR H.size H' a0b 4 r ((List.range n).map fun k=>a0e (Rat.divInt (ptq n (bf bs) Fv m k) D))/\Ext H H') R:=by
 refine a0i L0q hf (h:=?_)
 intro ρ h0
 have I:=h.bk
 have b4:=g0o (bytes:=64) (k:=.i64) (k':=.i64) (l:=n) (c:=n) (k1x _) (by omega) (by omega)
 simp [i0h,p0H,p0I,h0,I,b4]
 generalize hN:H.push _=G
 obtain ⟨u,b0⟩:=g0e hN
 clear hN
 obtain ⟨b5,b8⟩:=r0J G n
 have ho:b0d PR H.size G a0b 4 (.slice (some ⟨H.size,0,none⟩) n n) ((List.range n).map fun k=>if k < 0 then a0e 0 else c0z):=by
  refine ⟨_,by simpa using Own.mk (n:=n) (sz:=4) (cap:=n) b0 b5 (k1x _),fun k hk=>?_⟩
  simp only [l1m,m1i]
  rw [k1y (by omega)]
  exact b8 k (by simpa using hk)
 have a6:=ho.slen
 simp only [l1w,List.length_range] at a6
 clear b0 b5 b8 b4 I
 simp [p0J,a6]
 refine d0b (n:=n) (fun k ρ G=>ρ 0=.pointer (some ⟨p,0,none⟩)/\ρ 1=.func (.func g) #[] O/\Ext H G/\b0d PR H.size G a0b 4 (ρ 5) ((List.range n).map fun j=>if j < k then a0e 0 else c0z)) rfl rfl (by decide) (by omega) (by simp) (by simp) ?_ ?_ ?_ ?_
 ·exact ⟨by simp [h0],by simp [h0],u,by simpa using ho⟩
 ·intro i ρ c5 G h hI;simpa [h] using hI
 ·clear h0 ρ u ho a6
  rintro k ρ G hk gk gn ⟨M,g1,u,ho⟩
  obtain ⟨s,Z⟩:∃ s,ρ 5=s:=⟨_,rfl⟩
  rw [Z] at ho
  simp [p0K,p0L,gk,Z]
  refine (c0o (n:=0) u.1 (by omega) (by omega)).mo ?_
  rintro _ G2 ⟨⟨s1,s2,rfl,k1,k2⟩,e⟩
  replace ho:=ho.mo a0K e
  replace u:=u.trans e
  have b1:k < ((List.range n).map fun j=>if j < k then a0e 0 else c0z).length:=by simpa using hk
  have c4:((0:Int):Rat)=0:=rfl
  rw [c4] at k1 k2
  obtain ⟨G3,a3,J,a4⟩:=b0d.store (x:=a0e 0) (w:=.agg #[.bool (a0e 0).1.1,s1,.bool (a0e 0).2.1,s2]) ho b1 (by decide) rfl (by simp [k1.plain,k2.plain]) (fun G' _ U=>⟨s1,s2,rfl,k1.lx U,k2.lx U⟩) (by decide) (fun G' cs y _ U h=>b0L.lx h U)
  have ia:=ho.sls.ia (k:=.i64) b1
  simp [gk,Z,ia,a3]
  have v:=e0f (n:=n) (j:=k) (f:=fun j=>if j < k then a0e 0 else c0z) (g:=fun j=>if j < k + 1 then a0e 0 else c0z) (fun j _ hj=>by
   have:(j < k + 1)=(j < k):=n1y (by omega)
   simp only [this])
  simp only [k1B (Nat.lt_succ_self k)] at v
  rw [v] at J
  exact Rnd.mk (by simp [gk]) (by simp [gn]) ⟨by simp [M],by simp [g1],l0N u a4 (fun b hb=>(ho.ge hb).1),by simpa [Z] using J⟩
 ·clear h0 ρ u ho a6
  rintro ρ G gk gn ⟨M,g1,u,ho⟩
  have hG:=h.mo u
  have I:=hG.bk
  have a2:=hG.basis.sls.slen
  rw [hS.base] at a2
  simp [p0M,M,I,a2]
  have a7:((List.range n).map fun j=>if j < n then a0e 0 else c0z)=(List.range n).map fun k=>a0e (Rat.divInt (ptq n (bf bs) Fv 0 k) D):=by
   apply m1d
   intro j hj
   rw [k1B (by simpa using hj)]
   unfold ptq
   rw [sm,X0E]
  rw [a7] at ho
  refine d0b (n:=m) (fun q ρ G=>ρ 0=.pointer (some ⟨p,0,none⟩)/\ρ 1=.func (.func g) #[] O/\ρ 27=sB/\Ext H G/\b0d PR H.size G a0b 4 (ρ 5) ((List.range n).map fun k=>a0e (Rat.divInt (ptq n (bf bs) Fv q k) D))) rfl rfl (by decide) (by omega) (by simp) (by simp) ?_ ?_ ?_ ?_
  ·exact ⟨by simp [M],by simp [g1],by simp,u,by simpa using ho⟩
  ·intro i ρ c5 G h hI;simpa [h] using hI
  ·clear u ho gk gn M g1 a7 hG I a2 ρ G
   rintro q ρ G hq gq gm ⟨M,g1,a0,u,ho⟩
   obtain ⟨s,Z⟩:∃ s,ρ 5=s:=⟨_,rfl⟩
   rw [Z] at ho
   have hG:=h.mo u
   have I:=hG.bk
   obtain ⟨lb,ib⟩:=hG.base (show q < bs.length by rw [hS.base];exact hq)
   obtain ⟨j,hj⟩:∃ j,j=bf bs q:=⟨_,rfl⟩
   rw [<- hj] at lb
   have w2:IntKind.i64.wrap (2 * (n:Int))=2 * (n:Int):=a0S (by omega) (by omega)
   simp [p0N,gq,a0,ib,lb,n0j,M,I]
   have z:∀ k,ptq n (bf bs) Fv (q + 1) k=ptq n (bf bs) Fv q k + if j=k then Fv q else if j=n + k then -Fv q else 0:=fun k=>by
    show ptq n (bf bs) Fv q k + _=_;rw [hj]
   by_cases a9:j < n
   ·simp [a9,show ¬ n<=j by omega]
    have N:j < ((List.range n).map fun k=>a0e (Rat.divInt (ptq n (bf bs) Fv q k) D)).length:=by simpa using a9
    have ia:=ho.sls.ia (k:=.i64) N
    obtain ⟨wx,ex,kx⟩:=b0r.load ho.sls N
    simp only [l1m,m1i] at kx
    refine a0C ?_
    simp [n0k,M,g1,Z,gq,ia,ex]
    refine (hg _ q G _ u (by have:=u.1;omega) hq).mo ?_
    rintro wf G2 ⟨kf,e⟩
    have a8:=hG.mo e
    replace kx:=kx.mo e
    replace ho:=ho.mo a0K e
    replace u:=u.trans e
    simp [M]
    refine (u0j a8 (by have:=u.1;omega) kf (by have:=hF q hq;omega) (by omega) a5).mo ?_
    rintro wv G3 ⟨kv,e⟩
    replace kx:=kx.mo e
    replace ho:=ho.mo a0K e
    replace u:=u.trans e
    simp
    have c1:=p0c (n:=n) (base:=bf bs) (Fv:=Fv) (K:=59999999) (k:=j) (q:=q) (fun i hi=>hF i (by omega))
    have c2:=b0S (ptq n (bf bs) Fv q j) D
    have c3:=b0S (Fv q) D
    have b9:=hF q hq
    refine (b0K kx kv u.1 (by rw [a0E];omega) (by rw [a0E];omega)).mo ?_
    rintro _ G4 ⟨⟨s1,s2,rfl,k1,k2⟩,e⟩
    replace ho:=ho.mo a0K e
    replace u:=u.trans e
    rw [a0w,a0w,C0S a5] at k1 k2 ⊢
    have a1:=z j
    rw [k1B rfl] at a1
    rw [<- a1] at k1 k2 ⊢
    obtain ⟨G5,a3,J,a4⟩:=b0d.store (x:=a0e (Rat.divInt (ptq n (bf bs) Fv (q + 1) j) D)) (w:=.agg #[.bool (a0e (Rat.divInt (ptq n (bf bs) Fv (q + 1) j) D)).1.1,s1,.bool (a0e (Rat.divInt (ptq n (bf bs) Fv (q + 1) j) D)).2.1,s2]) ho N (by decide) rfl (by simp [k1.plain,k2.plain]) (fun G' _ U=>⟨s1,s2,rfl,k1.lx U,k2.lx U⟩) (by decide) (fun G' cs y _ U h=>b0L.lx h U)
    simp [Z,ia,a3]
    have v:=e0f (n:=n) (j:=j) (f:=fun k=>a0e (Rat.divInt (ptq n (bf bs) Fv q k) D)) (g:=fun k=>a0e (Rat.divInt (ptq n (bf bs) Fv (q + 1) k) D)) (fun k _ hk=>by
     rw [z k,k1y (fun h=>hk h.symm),k1y (by omega),l1O])
    rw [v] at J
    exact Rnd.mk (by simp [gq]) (by simp [gm]) ⟨by simp [M],by simp [g1],by simp [a0],l0N u a4 (fun b hb=>(ho.ge hb).1),by simpa [Z] using J⟩
   ·have c0:n<=j:=by omega
    simp [a9,c0,n0l,M,I,w2]
    by_cases c6:j < 2 * n
    ·simp [show (j:Int) < 2 * (n:Int) by omega,show ¬ 2 * (n:Int)<=(j:Int) by omega]
     have N:j - n < ((List.range n).map fun k=>a0e (Rat.divInt (ptq n (bf bs) Fv q k) D)).length:=by simp;omega
     have ia:=ho.sls.ia (k:=.i64) N
     have wj:IntKind.i64.wrap ((j:Int) - (n:Int))=((j - n:Nat):Int):=by
      rw [a0S (by omega) (by omega)];omega
     obtain ⟨wx,ex,kx⟩:=b0r.load ho.sls N
     simp only [l1m,m1i] at kx
     refine a0C ?_
     simp [n0m,M,g1,Z,gq,I,wj,ia,ex]
     refine (hg _ q G _ u (by have:=u.1;omega) hq).mo ?_
     rintro wf G2 ⟨kf,e⟩
     have a8:=hG.mo e
     replace kx:=kx.mo e
     replace ho:=ho.mo a0K e
     replace u:=u.trans e
     simp [M]
     refine (u0j a8 (by have:=u.1;omega) kf (by have:=hF q hq;omega) (by omega) a5).mo ?_
     rintro wv G3 ⟨kv,e⟩
     replace kx:=kx.mo e
     replace ho:=ho.mo a0K e
     replace u:=u.trans e
     simp
     have c1:=p0c (n:=n) (base:=bf bs) (Fv:=Fv) (K:=59999999) (k:=j - n) (q:=q) (fun i hi=>hF i (by omega))
     have c2:=b0S (ptq n (bf bs) Fv q (j - n)) D
     have c3:=b0S (Fv q) D
     have b9:=hF q hq
     refine (l0v kx kv (by have:=u.1;omega) (by rw [a0E];omega) (by rw [a0E];omega)).mo ?_
     rintro _ G4 ⟨⟨s1,s2,rfl,k1,k2⟩,e⟩
     replace ho:=ho.mo a0K e
     replace u:=u.trans e
     rw [a0w,a0w,O0r a5] at k1 k2 ⊢
     have a1:=z (j - n)
     rw [k1y (by omega),k1B (by omega),<- m1D] at a1
     rw [<- a1] at k1 k2 ⊢
     obtain ⟨G5,a3,J,a4⟩:=b0d.store (x:=a0e (Rat.divInt (ptq n (bf bs) Fv (q + 1) (j - n)) D)) (w:=.agg #[.bool (a0e (Rat.divInt (ptq n (bf bs) Fv (q + 1) (j - n)) D)).1.1,s1,.bool (a0e (Rat.divInt (ptq n (bf bs) Fv (q + 1) (j - n)) D)).2.1,s2]) ho N (by decide) rfl (by simp [k1.plain,k2.plain]) (fun G' _ U=>⟨s1,s2,rfl,k1.lx U,k2.lx U⟩) (by decide) (fun G' cs y _ U h=>b0L.lx h U)
     simp [Z,ia,a3]
     have v:=e0f (n:=n) (j:=j - n) (f:=fun k=>a0e (Rat.divInt (ptq n (bf bs) Fv q k) D)) (g:=fun k=>a0e (Rat.divInt (ptq n (bf bs) Fv (q + 1) k) D)) (fun k _ hk=>by
      rw [z k,k1y (by omega),k1y (by omega),l1O])
     rw [v] at J
     exact Rnd.mk (by simp [gq]) (by simp [gm]) ⟨by simp [M],by simp [g1],by simp [a0],l0N u a4 (fun b hb=>(ho.ge hb).1),by simpa [Z] using J⟩
    ·simp [show 2 * (n:Int)<=(j:Int) by omega,show ¬ (j:Int) < 2 * (n:Int) by omega]
     have v:((List.range n).map fun k=>a0e (Rat.divInt (ptq n (bf bs) Fv q k) D))=(List.range n).map fun k=>a0e (Rat.divInt (ptq n (bf bs) Fv (q + 1) k) D):=by
      apply m1d
      intro k hk
      have hk:k < n:=by simpa using hk
      rw [z k,k1y (by omega),k1y (by omega),l1O]
     rw [v] at ho
     exact Rnd.mk (by simp [gq]) (by simp [gm]) ⟨by simp [M],by simp [g1],by simp [a0],u,by simpa [Z] using ho⟩
  ·rintro ρ G gk gn ⟨M,g1,a0,u,ho⟩
   simp [n0n]
   exact fun _=>ho
def j0B (L:List (List Int)) (g n:Nat) (D:Int) (bs:List Rat) (c:Rat) (i:Nat):Rat:=Rat.divInt (Tf L g (2 * n + i)) D * bs.getD i 0 / c
theorem o0T {f0 p n m g:Nat} {L:List (List Int)} {k D:Int} {bs:List Nat} {sR sD sB:Value} {vs:List Value} {q:ScT} {c:Rat} (h:e0R F f0 H p n m L D bs k sR sD sB vs) (hf:fl<=H.size) (hS:ShT n m L bs) (hq:SV H v q) (d1:q.bs.length=m) (hc:b0L H w (a0e c)) (hg:g < m + 2) (d0:lz D < 16777216) (a3:D ≠ 0) (hF:∀ i,i < m->lz (Tf L g (2 * n + i)) < 16777216) (hK:∀ x ∈ q.bs,szR x < 16777216) (c8:szR c < 16777216) (a4:c ≠ 0) (hm:m < 1048576) (hn:n < 1048576) :
  a0O env fl (l0P F) [.pointer (some ⟨p,0,none⟩),.int .i64 (g:Int),v,w] H (fun r H'=>b0d PR H.size H' a0b 4 r ((List.range m).map fun i=>a0e (j0B L g n D q.bs c i))/\Ext H H') R:=by
 obtain ⟨sA,b4,sC,s1,s2,rfl,kA,kB,kC,k1,k2⟩:=hq
 obtain ⟨s3,s4,rfl,k3,k4⟩:=hc
 refine a0i L0p hf (h:=?_)
 intro ρ h0
 have c1:=k1.cells;have c2:=k2.cells;have c3:=k3.cells;have c4:=k4.cells
 simp [i0g,p0h,h0,kA.cells,kB.cells,kC.cells,c1,c2,c3,c4]
 generalize hN:(H.push _).push _=G
 obtain ⟨u,b0,y⟩:=push2 hN
 clear hN
 have J:=(h.mo u).bk
 simp [p0i,p0j,h0,J]
 refine d0b (n:=m) (fun i ρ G=>ρ 0=.pointer (some ⟨p,0,none⟩)/\ρ 1=.int .i64 (g:Int)/\ρ 6=.pointer (some ⟨H.size,0,none⟩)/\ρ 7=.pointer (some ⟨H.size + 1,0,none⟩)/\Ext H G/\a0f.bk G H.size=.row false a0Q [.int .i64 q.n,sA,b4,sC,.bool (a0e q.cb).1.1,s1,.bool (a0e q.cb).2.1,s2]/\a0f.bk G (H.size + 1)=.row false a0b [.bool (a0e c).1.1,s3,.bool (a0e c).2.1,s4]/\(∀ b,slB (ρ 9)=some b->H.size + 2<=b)/\b0d PR H.size G a0b 4 (ρ 9) ((List.range i).map fun i=>a0e (j0B L g n D q.bs c i))) rfl rfl (by decide) (by omega) (by simp) (by simp) ?_ ?_ ?_ ?_
 ·exact ⟨by simp [h0],by simp [h0],by simp,by simp,u,b0,y,by simp [slB],by simpa using b0d.nil⟩
 ·intro i ρ d4 G h hI;simpa [h] using hI
 ·clear h0 ρ u b0 y J
  rintro i ρ G hi gi gn ⟨g0,g1,g6,g7,u,b0,y,I,ho⟩
  obtain ⟨s,g9⟩:∃ s,ρ 9=s:=⟨_,rfl⟩
  rw [g9] at ho I
  have O:=h.mo u
  have J:=O.bk
  have c0:=hS.len
  have z:g < L.length:=by omega
  have a0:2 * n + i < L[g].length:=by rw [hS.row g z];omega
  have eh:=O.head z
  have a2:=O.hia z
  obtain ⟨wt,et,kt⟩:=O.num z a0
  have ej:=O.ia z a0
  obtain ⟨jj,a7⟩:∃ jj:Nat,jj=2 * n + i:=⟨_,rfl⟩
  rw [<- a7] at et ej
  obtain ⟨vg,a8⟩:∃ x,x=vs[g]'(by have:=O.rows.len;omega):=⟨_,rfl⟩
  rw [<- a8] at eh et ej
  have w2:IntKind.i64.wrap (2 * (n:Int))=2 * (n:Int):=a0S (by omega) (by omega)
  have w3:IntKind.i64.wrap (2 * (n:Int) + (i:Int))=(jj:Int):=by rw [a0S (by omega) (by omega)];omega
  have Z:i < (q.bs.map a0e).length:=by simp;omega
  have a9:=kB.mo a0K u
  have ib:=a9.ia (k:=.i64) Z
  simp [p0k,gi]
  refine a0C ?_
  simp [p0l,g0,g1,g6,J,eh,a2,w2,w3,ej,et]
  refine (u0j O (by have:=u.1;omega) kt (by have:=hF i hi;omega) (by omega) a3).mo ?_
  rintro wv G2 ⟨kv,j⟩
  replace ho:=ho.mo a0K j
  replace b0:=j.bk b0
  replace y:=j.bk y
  replace u:=u.trans j
  have a1:=kB.mo a0K u
  have ib:=a1.ia (k:=.i64) Z
  obtain ⟨wx,ex,kx⟩:=b0r.load a1 Z
  rw [l1m] at kx
  have c7:szR q.bs[i] < 16777216:=hK _ (k1D _)
  have c9:=hF i hi
  have d2:=b0S (Tf L g (2 * n + i)) D
  simp [g6,b0,ib,ex]
  refine (f0D kv kx (by have:=u.1;omega) (by rw [a0E];omega) (by rw [a0E];omega)).mo ?_
  rintro wm G3 ⟨km,j⟩
  replace ho:=ho.mo a0K j
  replace y:=j.bk y
  replace b0:=j.bk b0
  replace u:=u.trans j
  rw [a0w,a0w] at km
  have d3:=f0L (Rat.divInt (Tf L g (2 * n + i)) D) q.bs[i]
  have kc:b0L G3 (.agg #[.bool (a0e c).1.1,s3,.bool (a0e c).2.1,s4]) (a0e c):=⟨s3,s4,rfl,k3.mo u,k4.mo u⟩
  simp [g7,y]
  refine (t0M km kc (by have:=u.1;omega) (by rw [a0E];omega) (by rw [a0E];omega) (by rw [a0w];exact a4)).mo ?_
  rintro _ G4 ⟨⟨wd,rfl,s5,s6,rfl,M,N⟩,j⟩
  replace ho:=ho.mo a0K j
  replace b0:=j.bk b0
  replace y:=j.bk y
  replace u:=u.trans j
  rw [a0w,a0w] at M N ⊢
  have U:Rat.divInt (Tf L g (2 * n + i)) D * q.bs[i] / c=j0B L g n D q.bs c i:=by
   unfold j0B;rw [k1v,k1A (by omega)];rfl
  rw [U] at M N ⊢
  have a5:=u.1
  have c5:=M.cells;have c6:=N.cells
  simp [a5,c5,c6,M.plain,N.plain]
  generalize hN:Array.setIfInBounds (Array.push _ _) _ _=G5
  obtain ⟨j,b5⟩:=new1 hN
  clear hN
  replace ho:=ho.mo a0K j
  replace b0:=j.bk b0
  replace y:=j.bk y
  replace M:=M.mo j
  replace N:=N.mo j
  replace u:=u.trans j
  obtain ⟨s',G6,h1,h2,h3,h4⟩:=b0d.app (P:=PR) (sz:=4) (e:=a0b) (by decide) (fun G' cs x _ hl h=>b0L.lx h hl) ho (e2:=a0b) (c:=1) (bytes:=64) (new:=[.bool (a0e (j0B L g n D q.bs c i)).1.1,s5,.bool (a0e (j0B L g n D q.bs c i)).2.1,s6]) (x:=a0e (j0B L g n D q.bs c i)) ⟨s5,s6,rfl,M,N⟩ rfl (by simp [M.plain,N.plain]) (by simp;omega) (by omega) (by omega) u.1
  obtain ⟨m1,b9,a6⟩:=e0D (by decide) h1
  simp [p0m,g9,b5,c5,c6,h1]
  exact Rnd.mk (by simp [gi]) (by simp [gn]) ⟨by simp [g0],by simp [g1],by simp [g6],by simp [g7],h4 _ (k1x _) u,(h3.2 _ (a0k b0) (fun h=>by have:=I _ h;omega)).trans b0,(h3.2 _ (a0k y) (fun h=>by have:=I _ h;omega)).trans y,by
   have hsz:=j.1
   have b8:=u.1
   rw [a6];simp [slB];have:=a0k y;have:=a0k b5;omega,b0d.cast (v':=s') (by simp) (by rw [List.range_succ,n1c];exact h2)⟩
 ·rintro ρ G gi gn ⟨g0,g1,g6,g7,u,b0,y,I,ho⟩
  obtain ⟨s,g9⟩:∃ s,ρ 9=s:=⟨_,rfl⟩
  rw [g9] at ho I
  simp [p0n,g9]
  exact fun _=>ho
theorem r0P {f0 p P n m i:Nat} {L:List (List Int)} {k D:Int} {bs:List Nat} {sR sD sB:Value} {vs:List Value} (h:e0R F f0 H p n m L D bs k sR sD sB vs) (U:fl<=H.size) (O:ShT n m L bs) (s:H.bk P=.row false (F.p a0H a0F) [.pointer (some ⟨p,0,none⟩)]) (hi:i < m + 2) :
  a0O env fl (k0v F) [.int .i64 (i:Int),.pointer (some ⟨P,0,none⟩)] H (fun r H'=>rV F H' r (Tf L i (2 * n + m))/\Ext H H') R:=by
 refine a0i z0k U (h:=?_)
 intro ρ y
 have q:i < L.length:=by rw [O.len];exact hi
 have j:2 * n + m < L[i].length:=by rw [O.row i q];omega
 obtain ⟨M,J⟩:∃ M:Nat,M=2 * n + m:=⟨_,rfl⟩
 rw [<- J] at j ⊢
 have e2:2 * (n:Int) + m=(M:Int):=by omega
 cases F
 ·simp [e0x,h0J,y]
  obtain ⟨vi,wt,-,z,c,u,v,I⟩:=h.cell q j
  simp only [RK.w,RK.b,RK.p_few] at u v s
  have e:=h.bk
  refine a0C ?_
  simp [h0K,y,s,e,z,c,e2,u,v]
  exact I
 ·simp [e0x,h0J,y]
  generalize x:H.push _=G
  have Z:Ext H G:=by rw [<- x];exact (Ext.refl H).push
  replace h:=h.mo Z
  replace s:=Z.bk s
  obtain ⟨vi,wt,-,z,c,u,v,I⟩:=h.cell q j
  simp only [RK.w,RK.b,RK.p_all] at u v s
  have e:=h.bk
  refine a0C ?_
  obtain ⟨sx,rfl,N⟩:=I
  simp [h0K,y,s,e,z,c,e2,u,v]
  subst x
  simp [U,N.cells,N.plain]
  generalize x:Array.setIfInBounds (Array.push _ _) _ _=G5
  obtain ⟨a0,b5⟩:=new1 x
  exact ⟨sx,rfl,N.setS x a0G (by decide)⟩
theorem A0k {f0 p P P2 n m i j:Nat} {L:List (List Int)} {k D:Int} {bs:List Nat} {sR sD sB:Value} {vs:List Value} (h:e0R F f0 H p n m L D bs k sR sD sB vs) (hf:fl<=H.size) (hS:ShT n m L bs) (hz:∀ r c,lz (Tf L r c) < 67108864) (hP:H.bk P=.row false F.Q [.pointer (some ⟨p,0,none⟩)]) (e:H.bk P2=.row false e0L [.int .i64 (j:Int)]) (hi:i < m + 2) (hj:j < 2 * n + m + 1) :
  a0O env fl (u0B F) [.int .i64 (i:Int),.pointer (some ⟨P,0,none⟩),.pointer (some ⟨P2,0,none⟩)] H (fun r H'=>rV F H' r (-Tf L i j)/\Ext H H') R:=by
 refine a0i W0J hf (h:=?_)
 intro ρ O
 have v:i < L.length:=by rw [hS.len];exact hi
 have M:j < L[i].length:=by rw [hS.row i v];omega
 cases F
 ·simp [j0n,n0o,O]
  obtain ⟨vi,wt,-,U,q,z,I,Z⟩:=h.cell v M
  simp only [RK.w,RK.b,RK.p_few] at z I
  have s:H.bk P=.row false a0H [.pointer (some ⟨p,0,none⟩)]:=hP
  have u:=h.bk
  refine a0C ?_
  simp [n0p,O,s,e,u,U,q,z,I]
  refine (show a0O env _ m0z [eV,wt] H _ _ from y0Z (F:=.few) Z (k1x _) (hz _ _)).mo ?_
  rintro wn G2 ⟨fn,x⟩
  simp
  exact fun _=>fn
 ·simp [j0n,n0o,O]
  generalize hN:H.push _=G
  obtain ⟨N,y⟩:=g0e hN
  clear hN
  replace h:=h.mo N
  have s:a0f.bk G P=.row false a0F [.pointer (some ⟨p,0,none⟩)]:=N.bk hP
  replace e:=N.bk e
  obtain ⟨vi,wt,-,U,q,z,I,Z⟩:=h.cell v M
  simp only [RK.w,RK.b,RK.p_all] at z I
  have u:=h.bk
  refine a0C ?_
  simp [n0p,O,s,e,u,U,q,z,I]
  refine (show a0O env _ m0y [eV,wt] G _ _ from y0Z (F:=.all) Z N.1 (hz _ _)).mo ?_
  rintro wn G2 ⟨⟨sx,rfl,kx⟩,x⟩
  replace y:=x.bk y
  have hsz:=(N.trans x).1
  simp [y,hsz,kx.cells,kx.plain]
  generalize J:Array.setIfInBounds G2 _ _=G5
  rw [a0r J y]
  simp
  exact fun _=>⟨sx,rfl,kx.setS J y (by decide)⟩
def t0O (n m:Nat) (L:List (List Int)) (bs:List Nat) (D:Int) (j k:Nat):Rat:=Rat.divInt (n0H n m (Tf L) (bf bs) D j k) D
theorem r0F {n m:Nat} {L:List (List Int)} {bs:List Nat} {D:Int} {j k:Nat} (c:j ≠ k) (e:j ≠ n + k):t0O n m L bs D j k=Rat.divInt (ptq n (bf bs) (fun i=>-Tf L i j) m k) D:=by
 unfold t0O n0H
 rw [k1y c,k1y e,l1O];rfl
theorem Y0r {n m:Nat} {L:List (List Int)} {bs:List Nat} {D:Int} {j:Nat} (c:D ≠ 0):t0O n m L bs D j j=Rat.divInt (ptq n (bf bs) (fun i=>-Tf L i j) m j) D + 1:=by
 unfold t0O n0H
 rw [k1B rfl,<- C0S c,Rat.divInt_self' c];rfl
theorem M0n {n m:Nat} {L:List (List Int)} {bs:List Nat} {D:Int} {j:Nat} (c:D ≠ 0) (e:n<=j) (h:0 < n):t0O n m L bs D j (j - n)=Rat.divInt (ptq n (bf bs) (fun i=>-Tf L i j) m (j - n)) D - 1:=by
 unfold t0O n0H
 rw [k1y (by omega),k1B (by omega),Int.add_neg_eq_sub,<- O0r c,Rat.divInt_self' c];rfl
theorem M0o {p n m j:Nat} {f0:Nat} {L:List (List Int)} {k D:Int} {bs:List Nat} {sR sD sB:Value} {vs:List Value} (h:e0R F f0 H p n m L D bs k sR sD sB vs) (hf:fl<=H.size) (hS:ShT n m L bs) (hz:∀ r c,lz (Tf L r c) < 50000000) (b1:lz D < 50000000) (Z:D ≠ 0) (hj:j < 2 * n + m) (hm:m < 1048576) (hn:n < 1048576) :
  a0O env fl (B0o F) [.pointer (some ⟨p,0,none⟩),.int .i64 (j:Int)] H (fun r H'=>b0r H' r ((List.range n).map fun k=>a0e (t0O n m L bs D j k))/\Ext H H') R:=by
 refine a0i a1B hf (h:=?_)
 intro ρ h0
 simp [p0T,x0E,h0]
 generalize hG:(H.push _).push _=G
 obtain ⟨u,b2,b3⟩:=push2 hG
 clear hG
 have h':=h.mo u
 have b4:=u.1
 have a3:∀ i,i < m->lz (-Tf L i j)<=59999999:=fun i hi=>by rw [f0w];have:=hz i j;omega
 simp [x0F,b2]
 refine (p0g (Fv:=fun i=>-Tf L i j) h' u.1 hS (by omega) Z a3 hm hn (fun fl i G' R' a2 a6 hi=>by
   simp only [m1B,l1Z]
   exact A0k (h'.mo a2) a6 hS (fun r c=>by have:=hz r c;omega) (a2.bk b2) (a2.bk b3) (by omega) (by omega))).mo ?_
 rintro wX G2 ⟨v,N⟩
 replace b2:=N.bk b2
 replace b3:=N.bk b3
 have h2:=h'.mo N
 replace u:=u.trans N
 have a0:=h2.bk
 have e3:∀ k,szR (Rat.divInt (ptq n (bf bs) (fun i=>-Tf L i j) m k) D) < 61048577:=fun k=>by
  have h1:=b0S (ptq n (bf bs) (fun i=>-Tf L i j) m k) D
  have h2:=p0c (n:=n) (base:=bf bs) (Fv:=fun i=>-Tf L i j) (K:=60000000) (k:=k) (q:=m) (fun i hi=>by have:=a3 i hi;omega)
  omega
 have w2:IntKind.i64.wrap (2 * (n:Int))=2 * (n:Int):=a0S (by omega) (by omega)
 refine a0C ?_
 simp [x0G,b2,b3,a0]
 by_cases a4:j < n
 ·have z:j < ((List.range n).map fun k=>a0e (Rat.divInt (ptq n (bf bs) (fun i=>-Tf L i j) m k) D)).length:=by simpa using a4
  have ij:=v.sls.ia (k:=.i64) z
  obtain ⟨w1,l1,k1⟩:=b0r.load v.sls z
  rw [l1m,m1i] at k1
  refine ⟨fun _=>?_,fun h=>k1Q h (by omega)⟩
  refine a0C ?_
  simp [x0H,b3,ij,l1]
  refine (c0o (n:=1) (by have:=u.1;omega) (by omega) (by omega)).mo ?_
  rintro a8 G3 ⟨k2,e⟩
  have U:((1:Int):Rat)=1:=rfl
  rw [U] at k2
  replace b3:=e.bk b3
  replace v:=v.mo a0K e
  replace u:=u.trans e
  simp
  refine (b0K (k1.mo e) k2 (by have:=u.1;omega) (by rw [a0E];have:=e3 j;omega) (by rw [a0E,r0S];decide)).mo ?_
  rintro _ G4 ⟨⟨s1,s2,rfl,q1,O⟩,I⟩
  rw [a0w,a0w,<- Y0r Z] at q1 O ⊢
  replace b3:=I.bk b3
  replace v:=v.mo a0K I
  replace u:=u.trans I
  obtain ⟨G5,a1,J,a7⟩:=b0d.store (x:=a0e (t0O n m L bs D j j)) (w:=.agg #[.bool (a0e (t0O n m L bs D j j)).1.1,s1,.bool (a0e (t0O n m L bs D j j)).2.1,s2]) (v.low (fl':=H.size) (by omega)) z (by decide) rfl (by simp [q1.plain,O.plain]) (fun G' _ M=>⟨s1,s2,rfl,q1.lx M,O.lx M⟩) (by decide) (fun G' cs y _ M h=>b0L.lx h M)
  have d1:=q1.cells;have d2:=O.cells
  have s:=e0f (n:=n) (j:=j) (f:=fun k=>a0e (Rat.divInt (ptq n (bf bs) (fun i=>-Tf L i j) m k) D)) (g:=fun k=>a0e (t0O n m L bs D j k)) (fun k hk a5=>by rw [r0F (fun h=>a5 h.symm) (by omega)])
  rw [s] at J
  simp [d1,d2,ij,a1,l0T,b3]
  exact fun _=>J.sls
 ·refine ⟨fun h=>k1Q h a4,fun _=>?_⟩
  refine a0C ?_
  simp [x0I,b2,b3,a0,w2]
  by_cases a9:j < 2 * n
  ·simp [show (j:Int) < 2 * (n:Int) by omega]
   refine ⟨?_,fun h=>k1Q h (by omega)⟩
   have z:j - n < ((List.range n).map fun k=>a0e (Rat.divInt (ptq n (bf bs) (fun i=>-Tf L i j) m k) D)).length:=by simp;omega
   have ij:=v.sls.ia (k:=.i64) z
   have wj:IntKind.i64.wrap ((j:Int) - (n:Int))=((j - n:Nat):Int):=by
    rw [a0S (by omega) (by omega)];omega
   obtain ⟨w1,l1,k1⟩:=b0r.load v.sls z
   rw [l1m,m1i] at k1
   refine a0C ?_
   simp [x0J,b2,b3,a0,wj,ij,l1]
   refine (c0o (n:=1) (by have:=u.1;omega) (by omega) (by omega)).mo ?_
   rintro a8 G3 ⟨k2,e⟩
   have U:((1:Int):Rat)=1:=rfl
   rw [U] at k2
   replace b3:=e.bk b3
   replace v:=v.mo a0K e
   replace u:=u.trans e
   simp
   refine (l0v (k1.mo e) k2 (by have:=u.1;omega) (by rw [a0E];have:=e3 (j - n);omega) (by rw [a0E,r0S];decide)).mo ?_
   rintro _ G4 ⟨⟨s1,s2,rfl,q1,O⟩,I⟩
   rw [a0w,a0w,<- M0n Z (by omega) (by omega)] at q1 O ⊢
   replace b3:=I.bk b3
   replace v:=v.mo a0K I
   replace u:=u.trans I
   obtain ⟨G5,a1,J,a7⟩:=b0d.store (x:=a0e (t0O n m L bs D j (j - n))) (w:=.agg #[.bool (a0e (t0O n m L bs D j (j - n))).1.1,s1,.bool (a0e (t0O n m L bs D j (j - n))).2.1,s2]) (v.low (fl':=H.size) (by omega)) z (by decide) rfl (by simp [q1.plain,O.plain]) (fun G' _ M=>⟨s1,s2,rfl,q1.lx M,O.lx M⟩) (by decide) (fun G' cs y _ M h=>b0L.lx h M)
   have d1:=q1.cells;have d2:=O.cells
   have s:=e0f (n:=n) (j:=j - n) (f:=fun k=>a0e (Rat.divInt (ptq n (bf bs) (fun i=>-Tf L i j) m k) D)) (g:=fun k=>a0e (t0O n m L bs D j k)) (fun k hk a5=>by rw [r0F (by omega) (by omega)])
   rw [s] at J
   simp [d1,d2,ij,a1,l0T,b3]
   exact fun _=>J.sls
  ·simp [show ¬ (j:Int) < 2 * (n:Int) by omega]
   have s:((List.range n).map fun k=>a0e (Rat.divInt (ptq n (bf bs) (fun i=>-Tf L i j) m k) D))=(List.range n).map fun k=>a0e (t0O n m L bs D j k):=by
    apply m1d
    intro k hk
    have hk:k < n:=by simpa using hk
    rw [r0F (by omega) (by omega)]
   rw [s] at v
   simp [l0T]
   exact fun _ _=>v.sls
end
section
variable {H G:a0f} {v:Value} {rows:List (List b0b)} {x:List b0b}
theorem m0V:∀ {rows:List (List b0b)} {d:List c0f} {r:List b0b},r ∈ d0z rows d->∃ q ∈ rows,r=i0n q
 | [],_,r,h=>by simp [d0z] at h
 | _ :: _,[],r,h=>by simp [d0z] at h
 | q :: rs,e :: es,r,h=>by
  simp only [d0z] at h
  split at h
  ·rcases m1b.1 h with rfl | h
   ·exact ⟨q,by simp,rfl⟩
   ·obtain ⟨k,c,j⟩:=m0V h;exact ⟨k,by simp [c],j⟩
  ·obtain ⟨k,c,j⟩:=m0V h;exact ⟨k,by simp [c],j⟩
theorem m0X:∀ {rows:List (List b0b)} {d:List c0f} {r:b0b},r ∈ d0A rows d->∃ e ∈ d,r=a0e (b0t e.2)
 | [],_,r,h=>by simp [d0A] at h
 | _ :: _,[],r,h=>by simp [d0A] at h
 | q :: rs,e :: es,r,h=>by
  simp only [d0A] at h
  split at h
  ·rcases m1b.1 h with rfl | h
   ·exact ⟨e,by simp,rfl⟩
   ·obtain ⟨k,c,j⟩:=m0X h;exact ⟨k,by simp [c],j⟩
  ·obtain ⟨k,c,j⟩:=m0X h;exact ⟨k,by simp [c],j⟩
theorem LPV.mo {p:LPt} (h:LPV H v p) (e:Ext H G):LPV G v p:=by
 obtain ⟨a,b,c,j,k,q,s⟩:=h
 exact ⟨a,b,c,j,k.mo d0u e,q.mo a0K e,s.mo a0K e⟩
end
section
open SX
variable {fl:Nat} {H G:a0f} {R:a0D} {v w u:Value} {F:RK}
structure o0L where
 kind:Int
 V:Rat
 X:List Rat
 Y:List Rat
 Ray:List Rat
def A0B (H:a0f) (v:Value) (a:o0L):Prop:=∃ s1 s2 sX sY sR,v=.agg #[.int .i64 a.kind,.bool (a0e a.V).1.1,s1,.bool (a0e a.V).2.1,s2,sX,sY,sR] /\
 Lim H s1 (a0e a.V).1.2/\Lim H s2 (a0e a.V).2.2/\b0r H sX (a.X.map a0e)/\b0r H sY (a.Y.map a0e)/\b0r H sR (a.Ray.map a0e)
theorem A0B.mo {a:o0L} (h:A0B H v a) (c:Ext H G):A0B G v a:=by
 obtain ⟨x,y,z,F,sR,e,j,k,q,s,u⟩:=h
 exact ⟨x,y,z,F,sR,e,j.mo c,k.mo c,q.mo a0K c,s.mo a0K c,u.mo a0K c⟩
def W0k (q:ScT) (n m:Nat) (T:Nat->Nat->Int) (base:Nat->Nat) (D:Int):Prop:=Tab m (2 * n + m) (i0m n m (Tf q.A) (bbq q n) (ccq q)) (fun i=>bbq q n i < 0) T base D
def d1g (q:ScT) (n m:Nat) (a:o0L):Prop:=∃ T base D,W0k q n m T base D/\a.kind=2/\a.V=0/\a.X=[]/\a.Ray=[]/\(∀ c,c < 2 * n + m->0<=T m c)/\T m (2 * n + m) < 0/\a.Y=(List.range m).map fun i=>Rat.divInt (T m (2 * n + i)) D * q.bs.getD i 0 / 1
def d1f (q:ScT) (C:List b0b) (n m:Nat) (a:o0L):Prop:=∃ T base D,W0k q n m T base D/\a.kind=1/\a.Ray=[]/\(∀ i,i < m->¬ base i < 2 * n + m->T i (2 * n + m)=0)/\(∀ c,c < 2 * n + m->0<=T (m + 1) c) /\
 a.X=((List.range n).map fun k=>Rat.divInt (ptq n base (fun i=>T i (2 * n + m)) m k) D)/\(a.Y=(List.range m).map fun i=>Rat.divInt (T (m + 1) (2 * n + i)) D * q.bs.getD i 0 / q.cb)/\a.V=f0Q C (a.X.map a0e) n
def d1h (q:ScT) (n m:Nat) (a:o0L):Prop:=∃ T base D j,W0k q n m T base D/\a.kind=3/\a.V=0/\a.Y=[]/\(∀ i,i < m->¬ base i < 2 * n + m->T i (2 * n + m)=0/\T i j=0)/\j < 2 * n + m/\T (m + 1) j < 0/\(∀ i,i < m->T i j<=0) /\
 a.X=((List.range n).map fun k=>Rat.divInt (ptq n base (fun i=>T i (2 * n + m)) m k) D)/\a.Ray=(List.range n).map fun k=>Rat.divInt (n0H n m T base D j k) D
def q0f (q:ScT) (C:List b0b) (n m:Nat) (r:Value) (H':a0f):Prop:=∃ ans a k,r=.tuple #[ans,.int .i64 k]/\A0B H' ans a/\(d1g q n m a ∨ d1f q C n m a ∨ d1h q n m a)
theorem SV.mo {q:ScT} (h:SV H v q) (c:Ext H G):SV G v q:=by
 obtain ⟨F,sB,sC,y,z,e,j,k,s,u,x⟩:=h
 exact ⟨F,sB,sC,y,z,e,j.mo q0H c,k.mo a0K c,s.mo d0t c,u.mo c,x.mo c⟩
theorem e0P.low {c sz f0:Nat} {P:a0f->List Value->Int->Prop} {vs:List Value} {L:List (List Int)} (h:e0P c sz P fl H vs L) (e:f0<=fl):e0P c sz P f0 H vs L :=
 ⟨h.len,fun i hi=>(h.own i hi).low e,h.apart⟩
theorem X0C {r1 r2 c e:Blk} (h:Array.push (Array.push (Array.push (Array.push H r1) r2) c) e=G):Ext H G/\a0f.bk G H.size=r1/\a0f.bk G (H.size + 1)=r2/\a0f.bk G (H.size + 2)=c/\a0f.bk G (H.size + 3)=e:=by
 subst h
 refine ⟨(Ext.refl H).push.push.push.push,?_,?_,?_,?_⟩ <;> simp [a0L]
theorem Frm.at_ {e b:Nat} {ro:Bool} {cs:List Value} (h:Frm F.T F.E H G) (hb:a0f.bk H b=.row ro e cs) (c:e ≠ a0d:=by decide) (j:e ≠ a0c:=by decide) (k:e ≠ d0N:=by decide) (q:e ≠ a0a:=by decide) (s:e ≠ e0L:=by decide):a0f.bk G b=.row ro e cs :=
 h.2 e (by cases F;exact c;exact j) (by cases F;exact k;exact q) s _ _ _ hb
theorem Frm.atQ {b:Nat} {ro:Bool} {cs:List Value} (h:Frm F.T F.E H G) (hb:a0f.bk H b=.row ro F.Q cs):a0f.bk G b=.row ro F.Q cs :=
 h.2 F.Q (by cases F <;> decide) (by cases F <;> decide) (by cases F <;> decide) _ _ _ hb
theorem b1M {q:ScT} {n m:Nat} {T:Nat->Nat->Int} {base:Nat->Nat} {D z:Int} (h:W0k q n m T base D) (u:(z = -1/\∀ c,c < 2 * n + m->0<=T m c) ∨ ∃ j:Nat,z=j/\j < 2 * n + m/\T m j < 0/\∀ i,i < m->T i j<=0):∀ c,c < 2 * n + m->0<=T m c:=by
 rcases u with ⟨_,e⟩ | ⟨j,_,e,v,k⟩
 ·exact e
 ·have x:=Tab.lack h (c:=j) (by omega)
  have s:=h0N (f:=fun i=>-1 * (if base i < 2 * n + m then 0 else T i j)) (N:=m) (fun i hi=>by
   have:=k i hi
   split <;> omega)
  rw [f0m] at s
  omega
theorem ShT.lz_all {n m Z:Nat} {L:List (List Int)} {bs:List Nat} (h:ShT n m L bs) (hB:∀ r c,r < m + 2->c<=2 * n + m->lz (Tf L r c)<=Z) (r c:Nat):lz (Tf L r c)<=Z:=by
 by_cases j:r < m + 2
 ·by_cases hc:c<=2 * n + m
  ·exact hB r c j hc
  ·have e:r < L.length:=by rw [h.len];exact j
   unfold Tf
   rw [k1v,k1v,k1A e,l1d,k1G (by rw [h.row r e];omega)]
   show lz 0<=_;rw [c0v];omega
 ·unfold Tf
  rw [show L.getD r []=[] from by rw [k1v,k1G (by rw [h.len];omega)];rfl]
  show lz 0<=_;rw [c0v];omega
theorem z0B {S:Nat} {X:List Rat} (h:∀ x ∈ X,szR x<=S):Few S (X.map a0e):=by
 intro x c
 obtain ⟨y,e,rfl⟩:=l1r.1 c
 exact ⟨by rw [a0E];exact h y e,c0t _,c0t _⟩
theorem Few.mono' {S S':Nat} {X:List b0b} (h:Few S X) (e:S<=S'):Few S' X:=fun x c=>⟨k1H (h x c).1 e,(h x c).2⟩
theorem q0s {H0 G':a0f} {f0:Nat} (e:Ext H0 G) (c:g0d f0 G G') (h:H0.size<=f0):Ext H0 G' :=
 ⟨k1H e.1 c.size,fun b hb=>(c.low b (by omega)).trans (e.2 b hb)⟩
theorem e0R.floor {p n m f0:Nat} {L:List (List Int)} {k D:Int} {bs:List Nat} {sR sD sB:Value} {vs:List Value} (h:e0R F fl H p n m L D bs k sR sD sB vs) (c:f0<=fl):e0R F f0 H p n m L D bs k sR sD sB vs :=
 ⟨h.bk,k1H c h.low,h.d,h.heads.low c,h.rows.low c,h.basis.low c⟩
theorem w0y {q:ScT} {p:LPt} {n m Z S:Nat} (hp:LPV H u p) (h:SV H v q) (j7:q.n=n) (i8:q.A.length=m) (i9:q.C.length=n) (j8:p.C.length=n) (h8:Few S p.C) (h9:q.bs.length=m) (i0:∀ r ∈ q.A,r.length=n + 1) (hf:fl<=H.size)
  (k2:∀ r c,lz (Tf q.A r c) < 67108864) (k3:∀ c,lz (ccq q c) < 67108864) (k4:∀ i c,i<=m->c<=2 * n + m->lz (u0d q n m i c) < 67108864)
  (hB:∀ T base D,W0k q n m T base D->(∀ r c,r < m + 2->c<=2 * n + m->lz (T r c)<=Z)/\lz D<=Z) (hZ:(n + 1) * (2 * (Z + m + S) + 10) < 16777216) (hK:∀ x ∈ q.bs,szR x < 16777216) (j3:szR q.cb < 16777216) (j2:q.cb ≠ 0)
  (hm:m < 1048576) (hn:n < 1048576) (hR:r0f F R) :
  a0O env fl (m0w F) [eV,u,v] H (fun r H'=>q0f q p.C n m r H'/\Ext H H') R:=by
 have l5:=hp
 have f4:=h
 obtain ⟨l9,m0,l0,rfl,kA,kB,kC⟩:=hp
 obtain ⟨sA,m2,sC,s1,s2,rfl,qA,qB,qC,q1,q2⟩:=h
 refine a0i B0k hf (h:=?_)
 intro ρ h0
 have l4:2 * (Z + m + S) + 10 < 16777216:=by
  have:1 * (2 * (Z + m + S) + 10)<=(n + 1) * (2 * (Z + m + S) + 10):=k1E _ (by omega)
  omega
 simp [g0a,n0q,h0,kA.cells,kB.cells,kC.cells,qA.cells,qB.cells,qC.cells,q1.cells,q2.cells]
 generalize hG:(((H.push _).push _).push _).push _=G
 obtain ⟨J,b0,b1,b2,b3⟩:=X0C hG
 clear hG
 have i1:=f4.mo J
 simp [n0r,b0,b2]
 refine a0O.mo (A0r i1 j7 i8 i9 i0 J.1 k2 k3 k4 hm hn hR) ?_
 rintro _ G2 ⟨⟨p',L,bs,sR,sD,sB,vs,rfl,hT,hS,g7,h3⟩,a9⟩
 replace hT:=hT.floor J.1
 have d7:=J.trans a9
 have hsz:=d7.1
 simp [hsz]
 generalize hN:Array.setIfInBounds (Array.push _ _) _ _=G3
 obtain ⟨f8,M⟩:=new1 hN
 clear hN
 replace a9:=a9.trans f8
 replace b1:=a9.bk b1
 replace b2:=a9.bk b2
 replace b3:=a9.bk b3
 replace hT:=hT.mo f8
 replace J:=J.trans a9
 clear a9 f8 d7 hsz i1 b0
 obtain ⟨P8,g4⟩:∃ x,x=G2.size:=⟨_,rfl⟩
 rw [<- g4] at M ⊢
 clear g4
 have a0:=hT.bk
 have I:W0k q n m (Tf L) (bf bs) 1:=B0O.congr g7 h3 rfl
 have f5:Bnd m (2 * n + m) (i0m n m (Tf q.A) (bbq q n) (ccq q)) (fun i=>bbq q n i < 0):=fun T base D hT=>by
  obtain ⟨h1,h2⟩:=hB T base D hT
  exact ⟨fun r c hr hc=>by have:=h1 r c hr hc;omega,by omega⟩
 have w1:IntKind.i64.wrap ((m:Int) + 1)=((m + 1:Nat):Int):=by rw [a0S (by omega) (by omega)];omega
 obtain ⟨m1,e5⟩:∃ x:Nat,x=m + 1:=⟨_,rfl⟩
 rw [<- e5] at w1
 refine a0C ?_
 simp [n0s,M,a0,w1]
 simp [n0t,M]
 refine a0O.mo (y0L hT J.1 hS I f5 (.inl rfl) hm hn hR) ?_
 rintro _ G4 ⟨⟨z1,rfl,d4⟩,a7⟩
 clear g7 h3 a0 I hS hT
 obtain ⟨L,D,bs,k1,sD,hT,hS,I,-,U,a3⟩:=d4
 replace J:=q0s J a7 (k1x _)
 replace b1:=U.at_ b1
 replace b2:=U.at_ b2
 replace b3:=U.at_ b3
 replace M:=U.atQ M
 clear U a7
 have a0:=hT.bk
 have c9:m < L.length:=by rw [hS.len];omega
 have f6:2 * n + m < L[m].length:=by rw [hS.row m c9];omega
 have eh:=hT.head c9
 have g0:=hT.hia c9
 obtain ⟨wt,en,fw⟩:=hT.num c9 f6
 have ej:=hT.ia c9 f6
 obtain ⟨jj,e4⟩:∃ jj:Nat,jj=2 * n + m:=⟨_,rfl⟩
 rw [<- e4] at en ej fw a3
 obtain ⟨vi,i3⟩:∃ x,x=vs[m]'(by have:=hT.rows.len;omega):=⟨_,rfl⟩
 rw [<- i3] at eh en ej
 have e2:2 * (n:Int) + m=(jj:Int):=by omega
 obtain ⟨a6,e9⟩:=hB _ _ _ I
 have hz:=a6 m jj (by omega) (by omega)
 simp
 refine a0C ?_
 simp [n0u,M,a0,eh,g0,e2,ej,en]
 refine a0O.mo (s0d fw J.1 (by omega)) ?_
 rintro _ G5 ⟨rfl,c0⟩
 replace b1:=c0.bk b1
 replace b2:=c0.bk b2
 replace b3:=c0.bk b3
 replace M:=c0.bk M
 replace hT:=hT.mo c0
 replace J:=J.trans c0
 clear c0 en eh a0
 by_cases d6:Tf L m jj < 0
 ·have f7:c0L (Tf L m jj) 0 = -1:=by unfold c0L;rw [k1B d6]
  simp [f7]
  refine c0R ?_
  simp [n0v]
  refine (c0o (n:=0) (by have:=J.1;omega) (by omega) (by omega)).mo ?_
  rintro _ G6 ⟨⟨y1,y2,rfl,y,z⟩,a1⟩
  have d8:((0:Int):Rat)=0:=rfl
  rw [d8] at y z ⊢
  replace b1:=a1.bk b1
  replace b2:=a1.bk b2
  replace b3:=a1.bk b3
  replace M:=a1.bk M
  replace hT:=hT.mo a1
  replace J:=J.trans a1
  clear a1
  simp [b2,M]
  refine (c0o (n:=1) (by have:=J.1;omega) (by omega) (by omega)).mo ?_
  rintro w7 G7 ⟨i5,a4⟩
  have k0:((1:Int):Rat)=1:=rfl
  rw [k0] at i5
  replace b1:=a4.bk b1
  replace b2:=a4.bk b2
  replace b3:=a4.bk b3
  replace M:=a4.bk M
  replace y:=y.mo a4
  replace z:=z.mo a4
  replace hT:=hT.mo a4
  replace J:=J.trans a4
  clear a4
  simp
  refine (o0T (q:=q) hT (by have:=J.1;omega) hS (f4.mo J) h9 i5 (g:=m) (by omega) (by omega) (by have:=I.pos;omega) (fun i hi=>by have:=a6 m (2 * n + i) (by omega) (by omega);omega) hK (by rw [r0S];omega) (by decide) hm hn).mo ?_
  rintro wd G8 ⟨kd,s⟩
  replace b1:=s.bk b1
  replace b2:=s.bk b2
  replace b3:=s.bk b3
  replace M:=s.bk M
  replace y:=y.mo s
  replace z:=z.mo s
  replace hT:=hT.mo s
  replace J:=J.trans s
  clear s
  have a0:=hT.bk
  have hsz:=J.1
  have a8:=kd.cells
  simp [M,a0,a8]
  have c1:=y.cells;have c2:=z.cells
  have d2:P8 ≠ H.size + 3:=fun h=>by rw [h,b3] at M;simp at M
  have d3:p' ≠ H.size + 3:=fun h=>by rw [h,b3] at a0;have:=(Blk.row.inj a0).2.1;cases F <;> exact k1Q this (by decide)
  simp [b3,hsz,y.plain,z.plain,c1,c2,a8,d2,d3]
  generalize N:Array.setIfInBounds G8 _ _=G9
  have b4:LxT a0b G8 G9:=b0f N b3 (by decide)
  have b9:Lx G8 G9:=fun b ro cs h=>b0f (e:=a0l) N b3 (by decide) b ro cs h
  rw [a0r N b3]
  simp
  refine fun _=>⟨_,⟨2,0,[],(List.range m).map fun i=>j0B L m n D q.bs 1 i,[]⟩,k1,rfl,⟨y1,y2,_,_,_,rfl,y.setS N b3 (by decide),z.setS N b3 (by decide),Sls.nil,?_,Sls.nil⟩,.inl ⟨Tf L,bf bs,D,I,rfl,rfl,rfl,rfl,?_,?_,rfl⟩⟩
  ·rw [List.map_map]
   exact b0r.lx2 kd.sls b4 b9
  ·exact b1M I (by rw [<- e4];exact a3)
  ·rw [<- e4];exact d6
 ·have f7:¬ c0L (Tf L m jj) 0 < 0:=by unfold c0L;rw [k1y d6];split <;> omega
  simp [f7]
  have e8:∀ r,r < m->¬ bf bs r < 2 * n + m->Tf L r (2 * n + m)=0:=I.full (by rw [<- e4];omega)
  simp [n0w,M]
  refine a0O.mo (L0Q hT J.1 hS I f5 e8 hm hn hR) ?_
  rintro _ G6 ⟨d4,a7⟩
  clear I hS hT a6 e9 hz ej a3 f6 c9 fw g0 i3 e8
  obtain ⟨L,D,bs,k1,sD,hT,hS,I,U,d5⟩:=d4
  replace J:=q0s J a7 (k1x _)
  replace b1:=U.at_ b1
  replace b2:=U.at_ b2
  replace b3:=U.at_ b3
  replace M:=U.atQ M
  clear U a7
  simp
  simp [n0x,M]
  refine a0O.mo (y0L hT J.1 hS I f5 (.inr e5) hm hn hR) ?_
  rintro _ G7 ⟨⟨z2,rfl,d4⟩,a7⟩
  clear I hS hT
  obtain ⟨L',D,a5,k1,sD,hT,hS,I,f0,U,a3⟩:=d4
  replace d5:=f0 d5
  clear f0
  replace J:=q0s J a7 (k1x _)
  replace b1:=U.at_ b1
  replace b2:=U.at_ b2
  replace b3:=U.at_ b3
  replace M:=U.atQ M
  clear U a7
  obtain ⟨a6,e9⟩:=hB _ _ _ I
  simp
  simp [n0y,M]
  refine a0O.mo (p0g (Fv:=fun i=>Tf L' i (2 * n + m)) hT J.1 hS (by omega) (by have:=I.pos;omega) (fun i hi=>by have:=a6 i (2 * n + m) (by omega) (k1x _);omega) hm hn (fun fl i G' R' i4 j5 hi=>by
   simp only [m1B,l1Z]
   exact r0P (hT.mo i4) j5 hS (i4.bk M) (by omega))) ?_
  rintro wX G8 ⟨oX,s⟩
  replace b1:=s.bk b1
  replace b2:=s.bk b2
  replace b3:=s.bk b3
  replace M:=s.bk M
  replace hT:=hT.mo s
  replace J:=J.trans s
  clear s
  simp
  rw [e5] at a3
  rcases a3 with ⟨rfl,h7⟩ | ⟨j,rfl,hj,j1,j6⟩
  rotate_left
  ·simp [j0l]
   refine c0R ?_
   simp [l0p]
   refine (c0o (n:=0) (by have:=J.1;omega) (by omega) (by omega)).mo ?_
   rintro _ G6 ⟨⟨y1,y2,rfl,y,z⟩,a1⟩
   have d8:((0:Int):Rat)=0:=rfl
   rw [d8] at y z ⊢
   replace b1:=a1.bk b1
   replace b2:=a1.bk b2
   replace b3:=a1.bk b3
   replace M:=a1.bk M
   replace hT:=hT.mo a1
   replace oX:=oX.mo a0K a1
   replace J:=J.trans a1
   clear a1
   simp [M]
   refine (M0o hT (by have:=J.1;omega) hS (fun r c=>by have:=hS.lz_all a6 r c;omega) (by omega) (by have:=I.pos;omega) hj hm hn).mo ?_
   rintro wd G8 ⟨kd,s⟩
   replace b1:=s.bk b1
   replace b2:=s.bk b2
   replace b3:=s.bk b3
   replace M:=s.bk M
   replace y:=y.mo s
   replace z:=z.mo s
   replace hT:=hT.mo s
   replace oX:=oX.mo a0K s
   replace J:=J.trans s
   clear s
   have a0:=hT.bk
   have hsz:=J.1
   have a8:=kd.cells;have j4:=kd.plain
   have a2:=oX.cells
   have c1:=y.cells;have c2:=z.cells
   simp [M,a0,a8,a2,c1,c2]
   have d2:P8 ≠ H.size + 3:=fun h=>by rw [h,b3] at M;simp at M
   have d3:p' ≠ H.size + 3:=fun h=>by rw [h,b3] at a0;have:=(Blk.row.inj a0).2.1;cases F <;> exact k1Q this (by decide)
   simp [b3,hsz,y.plain,z.plain,c1,c2,a8,j4,a2,d2,d3]
   generalize N:Array.setIfInBounds G8 _ _=G9
   have b4:LxT a0b G8 G9:=b0f N b3 (by decide)
   have b9:Lx G8 G9:=fun b ro cs h=>b0f (e:=a0l) N b3 (by decide) b ro cs h
   rw [a0r N b3]
   simp
   refine fun _=>⟨_,⟨3,0,(List.range n).map fun k=>Rat.divInt (ptq n (bf a5) (fun i=>Tf L' i (2 * n + m)) m k) D,[],(List.range n).map fun k=>t0O n m L' a5 D j k⟩,k1,rfl,⟨y1,y2,_,_,_,rfl,y.setS N b3 (by decide),z.setS N b3 (by decide),?_,Sls.nil,?_⟩,.inr (.inr ⟨Tf L',bf a5,D,j,I,rfl,rfl,rfl,fun i hi hb=>⟨d5 i hi hb _ (k1x _),d5 i hi hb _ (by omega)⟩,hj,j1,j6,rfl,rfl⟩)⟩
   ·rw [List.map_map]
    exact b0r.lx2 oX.sls b4 b9
   ·rw [List.map_map]
    exact b0r.lx2 kd b4 b9
  simp [j0l]
  simp [l0q]
  refine (c0o (n:=0) J.1 (by omega) (by omega)).mo ?_
  rintro _ G9 ⟨⟨y1,y2,rfl,y,z⟩,s⟩
  have d8:((0:Int):Rat)=0:=rfl
  rw [d8] at y z ⊢
  replace b1:=s.bk b1
  replace b2:=s.bk b2
  replace b3:=s.bk b3
  replace M:=s.bk M
  replace hT:=hT.mo s
  replace oX:=oX.mo a0K s
  replace J:=J.trans s
  clear s
  have hsz:=J.1
  have c1:=y.cells;have c2:=z.cells
  simp [hsz,c1,c2,y.plain,z.plain]
  generalize hN:Array.setIfInBounds (Array.push _ _) _ _=G10
  obtain ⟨s,b7⟩:=new1 hN
  clear hN
  obtain ⟨P7,g2⟩:∃ x,x=G9.size:=⟨_,rfl⟩
  rw [<- g2] at b7 ⊢
  have d0:=kC.mo a0K (J.trans s)
  have c8:=d0.slen
  rw [j8] at c8
  have f1:=s.bk b1
  obtain ⟨X0,e0⟩:∃ x,x=(List.range n).map fun k=>Rat.divInt (ptq n (bf a5) (fun i=>Tf L' i (2 * n + m)) m k) D:=⟨_,rfl⟩
  have k9:(List.range n).map (fun k=>a0e (Rat.divInt (ptq n (bf a5) (fun i=>Tf L' i (2 * n + m)) m k) D))=X0.map a0e:=by rw [e0,List.map_map];rfl
  rw [k9] at oX
  have l1:X0.length=n:=by rw [e0];simp
  have g9:∀ x ∈ X0,szR x<=Z + m + S + 1:=by
   intro x J
   rw [e0] at J
   obtain ⟨k,_,rfl⟩:=l1r.1 J
   have h1:=b0S (ptq n (bf a5) (fun i=>Tf L' i (2 * n + m)) m k) D
   have h2:=p0c (n:=n) (base:=bf a5) (Fv:=fun i=>Tf L' i (2 * n + m)) (K:=Z) (k:=k) (q:=m) (fun i hi=>a6 i _ (by omega) (k1x _))
   omega
  have g1:=z0B g9
  have j0:=h8.mono' (show S<=Z + m + S + 1 by omega)
  have j9:∀ i,i<=n->szR (f0Q p.C (X0.map a0e) i) < 33554432:=fun i hi=>by
   have h1:=r0R j0 g1 i
   have h2:i * (2 * (Z + m + S + 1) + 3)<=n * (2 * (Z + m + S) + 10):=l1u hi (by omega)
   rw [k1R,l1l] at hZ
   omega
  simp [l0r,f1,c8]
  refine d0b (n:=n) (fun i ρ G=>ρ 5=.pointer (some ⟨H.size + 2,0,none⟩)/\ρ 6=.pointer (some ⟨H.size + 3,0,none⟩)/\ρ 8=.pointer (some ⟨P8,0,none⟩)/\ρ 10=.int .i64 (m1:Int)/\ρ 12=wX/\ρ 13=.pointer (some ⟨P7,0,none⟩)/\ρ 84=l0/\Ext G9 G/\∃ y1 y2,a0f.bk G P7=.row false a0b [.bool (a0e (f0Q p.C (X0.map a0e) i)).1.1,y1,.bool (a0e (f0Q p.C (X0.map a0e) i)).2.1,y2]/\Lim G y1 (a0e (f0Q p.C (X0.map a0e) i)).1.2/\Lim G y2 (a0e (f0Q p.C (X0.map a0e) i)).2.2) rfl rfl (by decide) (by omega) (by simp) (by simp) ?_ ?_ ?_ ?_
  ·exact ⟨by simp,by simp,by simp,by simp,by simp,by simp,by simp,s,y1,y2,b7,y.mo s,z.mo s⟩
  ·intro i ρ m3 G h hI;simpa [h] using hI
  ·clear b7 y z c1 c2 y1 y2 s d0 c8 f1
   rintro i ρ G hi gi gn ⟨g5,g6,g8,f2,d9,d1,f3,O,y1,y2,b7,y,z⟩
   have d7:=J.trans O
   have d0:=kC.mo a0K d7
   have e1:i < p.C.length:=by omega
   have k7:=d0.ia (k:=.i64) e1
   obtain ⟨wc,ec,kc⟩:=b0r.load d0 e1
   obtain ⟨s5,s6,rfl,k5,k6⟩:=kc
   have c5:=k5.cells;have c6:=k6.cells
   have hsz:=d7.1
   simp [l0s,gi,f3,k7,ec,c5,c6,k5.plain,k6.plain,hsz]
   generalize hN:Array.setIfInBounds (Array.push _ _) _ _=G11
   obtain ⟨c7,b8⟩:=new1 hN
   clear hN
   replace b7:=c7.bk b7
   replace y:=y.mo c7
   replace z:=z.mo c7
   replace k5:=k5.mo c7
   replace k6:=k6.mo c7
   replace O:=O.trans c7
   have e3:i < (X0.map a0e).length:=by simp;omega
   have i6:=oX.mo a0K O
   have k8:=i6.sls.ia (k:=.i64) e3
   obtain ⟨wx,ex,kx⟩:=b0r.load i6.sls e3
   refine a0C ?_
   simp [l0t,d9,d1,b7,b8,k8,ex]
   have h5:=h8 _ (k1D e1)
   have h6:=g1 _ (k1D e3)
   have l7:=b0W h5.2.1 h5.2.2
   have l8:=b0W h6.2.1 h6.2.2
   refine (f0D (a:=p.C[i]) ⟨s5,s6,rfl,k5,k6⟩ kx (by have:=c7.1;omega) (by omega) (by omega)).mo ?_
   rintro wm i7 ⟨km,a2⟩
   replace b7:=a2.bk b7
   replace y:=y.mo a2
   replace z:=z.mo a2
   replace O:=O.trans a2
   have l6:=f0L (b0t p.C[i]) (b0t (X0.map a0e)[i])
   have i2:H.size<=i7.size:=(J.trans O).1
   have l2:=j9 i (by omega)
   simp
   refine (b0K (a:=a0e (f0Q p.C (X0.map a0e) i)) ⟨y1,y2,rfl,y,z⟩ km i2 (by rw [a0E];omega) (by rw [a0E];omega)).mo ?_
   rintro _ f9 ⟨⟨y3,y4,rfl,e6,e7⟩,a2⟩
   replace b7:=a2.bk b7
   replace O:=O.trans a2
   have h4:b0t (a0e (f0Q p.C (X0.map a0e) i)) + b0t (a0e (b0t p.C[i] * b0t (X0.map a0e)[i]))=f0Q p.C (X0.map a0e) (i + 1):=by
    rw [a0w,a0w,f0Q,k1v,k1v,k1A e1,k1A e3];rfl
   rw [h4] at e6 e7 ⊢
   have c3:=e6.cells;have c4:=e7.cells
   have l3:H.size<=f9.size:=(J.trans O).1
   have g3:H.size<=P7:=by rw [g2];exact J.1
   simp [d1,b7,c3,c4,e6.plain,e7.plain,g3]
   generalize N:Array.setIfInBounds f9 _ _=G14
   exact Rnd.mk (by simp [gi]) (by simp [gn]) ⟨by simp [g5],by simp [g6],by simp [g8],by simp [f2],by simp [d9],by simp [d1],by simp [f3],a0I N O (by omega),y3,y4,a0r N b7,e6.setS N b7 (by decide),e7.setS N b7 (by decide)⟩
  ·clear b7 y z c1 c2 y1 y2 s d0 c8 f1
   rintro ρ G gi gn ⟨g5,g6,g8,f2,d9,d1,f3,O,y1,y2,b7,y,z⟩
   replace b1:=O.bk b1
   replace b2:=O.bk b2
   replace b3:=O.bk b3
   replace M:=O.bk M
   replace hT:=hT.mo O
   replace oX:=oX.mo a0K O
   replace J:=J.trans O
   clear O
   refine c0R ?_
   have kq:b0L G (.agg #[.bool (a0e q.cb).1.1,s1,.bool (a0e q.cb).2.1,s2]) (a0e q.cb):=⟨s1,s2,rfl,q1.mo J,q2.mo J⟩
   simp [l0u,d1,d9,g8,f2,g5,b7,M,b2]
   refine (o0T (q:=q) hT (by have:=J.1;omega) hS (f4.mo J) h9 kq (g:=m1) (by omega) (by omega) (by have:=I.pos;omega) (fun i hi=>by have:=a6 m1 (2 * n + i) (by omega) (by omega);omega) hK j3 j2 hm hn).mo ?_
   rintro wd G8 ⟨kd,s⟩
   replace b1:=s.bk b1
   replace b2:=s.bk b2
   replace b3:=s.bk b3
   replace M:=s.bk M
   replace b7:=s.bk b7
   replace y:=y.mo s
   replace z:=z.mo s
   replace hT:=hT.mo s
   replace oX:=oX.mo a0K s
   replace J:=J.trans s
   clear s
   have a0:=hT.bk
   have hsz:=J.1
   have a8:=kd.cells
   have a2:=oX.cells
   have c1:=y.cells;have c2:=z.cells
   simp [g8,g6,M,a0,a8,a2,c1,c2]
   have d2:P8 ≠ H.size + 3:=fun h=>by rw [h,b3] at M;simp at M
   have d3:p' ≠ H.size + 3:=fun h=>by rw [h,b3] at a0;have:=(Blk.row.inj a0).2.1;cases F <;> exact k1Q this (by decide)
   simp [b3,hsz,y.plain,z.plain,c1,c2,a8,a2,d2,d3]
   generalize N:Array.setIfInBounds G8 _ _=G9
   have b4:LxT a0b G8 G9:=b0f N b3 (by decide)
   have b9:Lx G8 G9:=fun b ro cs h=>b0f (e:=a0l) N b3 (by decide) b ro cs h
   rw [a0r N b3]
   simp
   refine fun _=>⟨_,⟨1,f0Q p.C (X0.map a0e) n,X0,(List.range m).map fun i=>j0B L' m1 n D q.bs q.cb i,[]⟩,k1,rfl,⟨y1,y2,_,_,_,rfl,y.setS N b3 (by decide),z.setS N b3 (by decide),b0r.lx2 oX.sls b4 b9,?_,Sls.nil⟩,.inr (.inl ⟨Tf L',bf a5,D,I,rfl,rfl,fun i hi hb=>d5 i hi hb _ (k1x _),h7,e0,by rw [e5];rfl,rfl⟩)⟩
   rw [List.map_map]
   exact b0r.lx2 kd.sls b4 b9
end
section
open SX
variable {H G:a0f}
theorem u0N {f:Nat->Int} {K:Nat}:∀ {n:Nat},(∀ i,i < n->lz (f i)<=K)->lz (sm f n)<=K + n
 | 0,_=>by rw [sm,c0v];omega
 | n + 1,h=>by
  have c:=u0N (n:=n) (fun i hi=>h i (by omega))
  have e:=h n (by omega)
  have j:=h0s (sm f n) (f n)
  rw [sm];omega
theorem O0d {M:Nat}:∀ {k:Nat},k<=M->fac k<=M ^ k
 | 0,_=>by simp [fac]
 | k + 1,h=>by
  rw [fac,k1V,k1Z]
  exact l1u (O0d (by omega)) h
theorem x0o {z:Int} {M k:Nat} (e:M<=4294967296) (h:z.natAbs<=fac M * (4294967296 ^ k) ^ M):lz z<=M * (k + 1) + 1:=by
 apply q0G
 have c:fac M<=4294967296 ^ M:=k1H (O0d (k1x M)) (Nat.pow_le_pow_left e M)
 have j:fac M * (4294967296 ^ k) ^ M<=4294967296 ^ (M * (k + 1)):=by
  rw [<- Nat.pow_mul,k1K,l1H,Nat.add_comm,m1w,k1Z M k]
  exact k1E _ c
 have q:4294967296 ^ (M * (k + 1)) < 4294967296 ^ (M * (k + 1) + 1):=Nat.pow_lt_pow_right (by omega) (by omega)
 omega
section
variable {q:ScT} {n m K:Nat} (hA:∀ r c,lz (Tf q.A r c)<=K)
include hA
theorem X0t {r c:Nat}:lz (e0z n m (Tf q.A) (bbq q n) r c)<=K + 1:=by
 unfold e0z
 split
 ·have:=hA r c;omega
 ·split
  ·rw [f0w];have:=hA r (c - n);omega
  ·split
   ·split
    ·rw [g0O];omega
    ·rw [c0v];omega
   ·have:=hA r n;unfold bbq;omega
theorem s0V {r c:Nat}:lz (sg (bbq q n) r * e0z n m (Tf q.A) (bbq q n) r c)<=K + 1:=by
 have h:=X0t (n:=n) (m:=m) hA (r:=r) (c:=c)
 unfold sg
 split
 ·rw [Int.neg_mul,Int.one_mul,f0w];exact h
 ·rw [Int.one_mul];exact h
theorem O0k {i c:Nat}:lz (u0d q n m i c)<=K + 1 + i:=by
 unfold u0d
 refine u0N fun r _=>?_
 split
 ·exact s0V hA
 ·rw [c0v];omega
theorem X0s (e:∀ c,lz (ccq q c)<=K) {c r:Nat}:lz (i0m n m (Tf q.A) (bbq q n) (ccq q) c r)<=K + 1 + m:=by
 unfold i0m
 split
 ·have:=s0V (n:=n) (m:=m) hA (r:=r) (c:=c);omega
 ·split
  ·rw [f0w];exact O0k (i:=m) hA
  ·have:lz (cost n (ccq q) c)<=K:=by
    unfold cost;split
    ·exact e _
    ·split
     ·rw [f0w];exact e _
     ·rw [c0v];omega
   rw [f0w];omega
theorem O0l (v:∀ c,lz (ccq q c)<=K) (y:m < 1048576) {T:Nat->Nat->Int} {base:Nat->Nat} {D:Int} (h:W0k q n m T base D) :
  (∀ r c,r < m + 2->c<=2 * n + m->lz (T r c)<=(m + 2) * (K + m + 2) + 1)/\lz D<=(m + 2) * (K + m + 2) + 1:=by
 obtain ⟨j,k⟩:=Tab.bound h (B:=4294967296 ^ (K + 1 + m)) (Nat.one_le_pow _ _ (by omega)) (fun c r _ _=>by
  have s:=C0g (i0m n m (Tf q.A) (bbq q n) (ccq q) c r)
  have u:=X0s (n:=n) (m:=m) hA v (c:=c) (r:=r)
  exact n1d (k1P s (l1P (by omega) u)))
 have e:K + 1 + m + 1=K + m + 2:=by omega
 refine ⟨fun r c x hc=>?_,?_⟩
 ·have:=x0o (M:=m + 2) (by omega) (j r c x hc)
  rw [e] at this;exact this
 ·have:=x0o (M:=m + 2) (by omega) k
  rw [e] at this;exact this
end
structure z0b (H:a0f) (u v:Value) (p:LPt) (q:ScT) (n m:Nat):Prop where
 hp:LPV H u p
 hv:SV H v q
 qn:q.n=n
 qA:q.A.length=m
 qC:q.C.length=n
 pC:p.C.length=n
 qb:q.bs.length=m
 row:∀ r ∈ q.A,r.length=n + 1
 b0:q.cb ≠ 0
 m1:m < 1048576
 n1:n < 1048576
 sz:∃ K S,(∀ r c,lz (Tf q.A r c)<=K)/\(∀ c,lz (ccq q c)<=K)/\Few S p.C/\(∀ x ∈ q.bs,szR x<=K)/\szR q.cb<=K/\(n + 1) * (2 * ((m + 2) * (K + m + 2) + 1 + m + S) + 10) < 16777216
theorem z0b.mo {u v:Value} {p:LPt} {q:ScT} {n m:Nat} (h:z0b H u v p q n m) (c:Ext H G):z0b G u v p q n m :=
 { h with hp:=h.hp.mo c,hv:=h.hv.mo c }
theorem t0U {F:RK} {fl:Nat} {R:a0D} {u v:Value} {p:LPt} {q:ScT} {n m:Nat} (h:z0b H u v p q n m) (s:fl<=H.size) (hR:r0f F R) :
  a0O env fl (m0w F) [eV,u,v] H (fun r H'=>q0f q p.C n m r H'/\Ext H H') R:=by
 obtain ⟨K,S,hA,e,k,hb,hc,hs⟩:=h.sz
 have j:=h.m1
 have z:K + m + 2<=(m + 2) * (K + m + 2):=by
  have:1 * (K + m + 2)<=(m + 2) * (K + m + 2):=k1E _ (by omega)
  omega
 have G:1 * (2 * ((m + 2) * (K + m + 2) + 1 + m + S) + 10)<=(n + 1) * (2 * ((m + 2) * (K + m + 2) + 1 + m + S) + 10):=k1E _ (by omega)
 have I:K + m < 16777214:=by omega
 exact w0y h.hp h.hv h.qn h.qA h.qC h.pC k h.qb h.row s (fun r c=>by have:=hA r c;omega) (fun c=>by have:=e c;omega) (fun i c hi _=>by have:=O0k (n:=n) (m:=m) hA (i:=i) (c:=c);omega)
  (fun T base D hT=>O0l hA e j hT) hs (fun x y=>by have:=hb x y;omega) (by omega) h.b0 j h.n1 hR
end
section
open SX
variable {fl:Nat} {H G:a0f} {R:a0D} {v w u:Value}
theorem LPV.shape {p:LPt} (h:LPV H u p):∃ a b c d,u=.agg #[a,b,c,d]:=by
 obtain ⟨_,_,_,rfl,_⟩:=h;exact ⟨_,_,_,_,rfl⟩
theorem SV.shape {q:ScT} (h:SV H v q):∃ s:Array Value,v=.agg s/\s.size=8:=by
 obtain ⟨_,_,_,_,_,rfl,_⟩:=h;exact ⟨_,rfl,rfl⟩
theorem A0B.shape {a:o0L} (h:A0B H v a):∃ s:Array Value,v=.agg s/\s.size=8/\s.toList.all a0v=true:=by
 obtain ⟨u,x,y,z,sR,rfl,c,e,j,k,q⟩:=h
 exact ⟨_,rfl,rfl,by simp [c.plain,e.plain,j.plain,k.plain,q.plain]⟩
theorem z0W:env.code L0v=none:=by rfl
theorem z0V {p:LPt} {q:ScT} {n m:Nat} (h:z0b H u v p q n m) (hf:fl<=H.size) :
  a0O env fl L0v [u,v] H (fun r H'=>((∃ e k,r=.tuple #[e,.int .i64 k,.bool true]/\q0f q p.C n m (.tuple #[e,.int .i64 k]) H') ∨ (∃ e,r=.tuple #[e,.int .i64 0,.bool false]/\∃ I J L M O U Z s8,e=.agg #[I,J,L,M,O,U,Z,s8]/\[I,J,L,M,O,U,Z,s8].all a0v=true))/\Ext H H') R:=by
 obtain ⟨a,b,c,d,rfl⟩:=h.hp.shape
 obtain ⟨s,rfl,y⟩:=h.hv.shape
 obtain ⟨N,j⟩:=t0U (F:=.few) (fl:=max fl H.size) (R:=fun w=>w=w0C) h (by omega) rfl
 change o0z _ _ (b0q env N (max fl H.size) s0y _ H) at j
 refine ⟨N + 1,?_⟩
 have e1:b0q env (N + 1) fl L0v [.agg #[a,b,c,d],.agg s] H=e0e [(.int .i64 0),(.bool false),(.slice none 0 0),(.bool false),(.slice none 0 0),(.slice none 0 0),(.slice none 0 0),(.slice none 0 0)] H (b0q env N (max fl H.size) s0y [.agg #[],.agg #[a,b,c,d],.agg s] H):=by
  rw [b0q]
  simp only [z0W]
  rw [show env.know L0v [.agg #[a,b,c,d],.agg s]=none from rfl]
  show (if L0v=L0v then _ else _)=_
  rw [k1B rfl]
  show (if (4=4/\s.size=8) then _ else _)=_
  rw [k1B ⟨rfl,y⟩]
 rw [e1]
 cases hc:b0q env N (max fl H.size) s0y [.agg #[],.agg #[a,b,c,d],.agg s] H with
 | bad=>rw [show eV=Value.agg #[] from rfl,hc] at j;exact k1Q j id
 | pan w =>
  rw [show eV=Value.agg #[] from rfl,hc] at j
  have hw:w=w0C:=j
  subst hw
  exact ⟨.inr ⟨_,rfl,_,_,_,_,_,_,_,_,rfl,rfl⟩,Ext.refl H⟩
 | ok r =>
  rw [show eV=Value.agg #[] from rfl,hc] at j
  obtain ⟨x,hx⟩:=j
  obtain ⟨r,H'⟩:=r
  obtain ⟨e,a',k,rfl,hA,x⟩:=x
  obtain ⟨t,rfl,z,G⟩:=hA.shape
  have e2:e0e [(.int .i64 0),(.bool false),(.slice none 0 0),(.bool false),(.slice none 0 0),(.slice none 0 0),(.slice none 0 0),(.slice none 0 0)] H (.ok (.tuple #[.agg t,.int .i64 k],H'))=.ok (.tuple #[.agg t,.int .i64 k,.bool true],H'):=by
   show (if t.size=8/\t.toList.all a0v=true then _ else _)=_
   rw [k1B ⟨z,G⟩]
  rw [e2]
  exact ⟨.inl ⟨_,k,rfl,_,a',k,rfl,hA,x⟩,hx⟩
