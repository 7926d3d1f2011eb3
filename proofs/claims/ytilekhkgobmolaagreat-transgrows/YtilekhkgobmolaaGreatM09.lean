/- Part 10 of the proof. -/
import Derived.Test.YtilekhkgobmolaaGreatM06
import Derived.Test.YtilekhkgobmolaaGreatM07
import Derived.Test.YtilekhkgobmolaaGreatM08
set_option linter.unusedVariables false
set_option linter.unusedSimpArgs false
set_option linter.unusedSectionVars false
namespace Go.Proofs.YtilekhkgobmolaaGreat.AI
section
open Go SX
set_option maxHeartbeats 4000000
variable {fl:Nat} {H G:a0e} {R:a0E} {v w u:Value} {F:RK}
theorem l0t {o:Option Nat} {H0 G':a0e} (h:Ext H0 G) (hx:d0l o G G') (ho:∀ b,o=some b→H0.size≤b):Ext H0 G':=by
 refine ⟨i1t h.1 hx.1,fun b hb=>?_⟩
 rw [hx.2 b (i1C hb h.1) (fun he=>by have:=ho b he;omega)]
 exact h.2 b hb
theorem e0K.insert {eN sz fl2:Nat} {P:a0e→List Value→Int→Prop} {a b:List Value} {A B:List (List Int)} {x:Value} {X:List Int} (h:e0K eN sz P fl G (a ++ b) (A ++ B)) (hl:a.length=A.length)
  (hx:b0d P fl2 G eN sz x X) (hf:fl≤fl2) (hn:∀ w ∈ a ++ b,∀ k,slB w=some k→k < fl2):e0K eN sz P fl G (a ++ x :: b) (A ++ X :: B):=by
 have hlen:=h.len
 simp only [i1E] at hlen
 have key:∀ i (h1:i < (A ++ X :: B).length) (h2:i < (a ++ x :: b).length),(i=a.length∧(a ++ x :: b)[i]=x∧(A ++ X :: B)[i]=X) ∨
   ∃ j,∃ (j1:j < (A ++ B).length) (j2:j < (a ++ b).length),(a ++ x :: b)[i]=(a ++ b)[j]∧(A ++ X :: B)[i]=(A ++ B)[j]∧j=(if i < a.length then i else i - 1)∧i ≠ a.length:=by
  intro i h1 h2
  simp only [i1E,i1Y] at h1 h2
  by_cases hi:i < a.length
  ·exact .inr ⟨i,by simp;omega,by simp;omega,by rw [j1a hi,j1a hi],by rw [j1a (by omega),j1a (by omega)],by rw [i1n hi],by omega⟩
  ·by_cases he:i=a.length
   ·subst he
    exact .inl ⟨rfl,by simp,by rw [i1J (by omega)];simp [hl]⟩
   ·obtain ⟨d,rfl⟩:∃ d,i=a.length + 1 + d:=⟨i - a.length - 1,by omega⟩
    refine .inr ⟨a.length + d,by simp;omega,by simp;omega,?_,?_,by rw [i1k hi];omega,he⟩
    ·rw [i1J (by omega),i1J (by omega)]
     simp only [show a.length + 1 + d - a.length=d + 1 by omega,k1D,show a.length + d - a.length=d by omega]
    ·rw [i1J (by omega),i1J (by omega)]
     simp only [show a.length + 1 + d - A.length=d + 1 by omega,k1D,show a.length + d - A.length=d by omega]
 have xge:∀ k,slB x=some k→fl2≤k:=fun k hk=>(hx.ge hk).1
 refine ⟨by simp;omega,fun i hi=>?_,fun i j hi hj hij=>?_⟩
 ·rcases key i hi (by simp at hi ⊢;omega) with ⟨_,e1,e2⟩ | ⟨j,j1,j2,e1,e2,_⟩
  ·rw [e1,e2];exact hx.low hf
  ·rw [e1,e2];exact h.own j j1
 ·rcases key i hi (by simp at hi ⊢;omega) with ⟨i0,e1,_⟩ | ⟨i',i1,i2,e1,_,ie,ine⟩ <;> rcases key j hj (by simp at hj ⊢;omega) with ⟨j0,e3,_⟩ | ⟨j',j1,j2,e3,_,je,jne⟩
  ·omega
  ·rw [e1,e3]
   cases hk:slB x with
   | none=>exact .inl rfl
   | some k =>
    right;intro h5
    have:=hn _ (i1p j2) k h5.symm
    have:=xge k hk
    omega
  ·rw [e1,e3]
   cases hk:slB (a ++ b)[i'] with
   | none=>exact .inl rfl
   | some k =>
    right;intro h5
    have:=hn _ (i1p i2) k hk
    have:=xge k h5.symm
    omega
  ·rw [e1,e3]
   refine h.apart i' j' i1 j1 ?_
   split at ie <;> split at je <;> omega
def r7:RK→a0e→Nat→Prop
 | .few,G,q=>a0e.blk G q=.row false d0J [.int .i64 0]
 | .all,G,q=>Bx G q 0
theorem r7.mono {G':a0e} {q:Nat} (h:r7 F G q) (hx:Ext G G'):r7 F G' q:=by cases F;exact hx.blk h;exact Bx.mono h hx
theorem r7.off {G':a0e} {q:Nat} {o:Option Nat} (h:r7 F G q) (hx:d0l o G G') (hl:Lx G G') (ho:o ≠ some q):r7 F G' q:=by cases F;exact (hx.2 q (a0i h) ho).trans h;exact Bx.off h hx hl ho
theorem r7.lxt {G':a0e} {q:Nat} (h:r7 F G q) (hx:LxT F.E G G') (hl:Lx G G'):r7 F G' q:=by
 cases F
 ·exact hx _ _ _ h
 ·obtain ⟨s,h1,h2⟩:=h;exact ⟨s,hx _ _ _ h1,h2.lx hl⟩
theorem r7.lt {q:Nat} (h:r7 F G q):q < G.size:=by
 cases F
 ·exact a0i h
 ·obtain ⟨s,h,_⟩:=h;exact a0i h
abbrev RK.Q (F:RK):Nat:=F.p a0H a0C
structure rMd (F:RK) (H:a0e) (P2 P3 P6 P7 p n m:Nat) (sv:List Value) (rs:List Value) (M:List (List Int)) (sR sD sB:Value) (vs:List Value) (bs:List Nat) (G:a0e):Prop where
 ext:Ext H G
 b2:a0e.blk G P2=.row false (F.p a0m a0l) []
 b3:a0e.blk G P3=.row false a0O sv
 b6:a0e.blk G P6=.row false F.Q [.pointer (some ⟨p,0,none⟩)]
 b7:r7 F G P7
 bp:a0e.blk G p=.row false F.T (p0u F n m sR 1 sD sB 0)
 d:rD F G sD 1
 rows:e0K F.E F.w F.P H.size G rs M
 p7:∀ w ∈ rs,slB w ≠ some P7
 heads:b0d PV H.size G F.S 1 sR vs
 basis:b0d PK H.size G e0F 1 sB bs
 low:H.size≤p
section
variable {P2 P3 P6 P7 p n m i j:Nat} {sv rs vs:List Value} {M:List (List Int)} {sR sD sB:Value} {bs:List Nat} {x:Int}
theorem rMd.mono {G':a0e} (h:rMd F H P2 P3 P6 P7 p n m sv rs M sR sD sB vs bs G) (hx:Ext G G'):rMd F H P2 P3 P6 P7 p n m sv rs M sR sD sB vs bs G' :=
 ⟨h.ext.trans hx,hx.blk h.b2,hx.blk h.b3,hx.blk h.b6,h.b7.mono hx,hx.blk h.bp,h.d.mono hx,h.rows.mono V0H hx,h.p7,h.heads.mono w0G hx,h.basis.mono w0F hx,h.low⟩
theorem rMd.store (h:rMd F H P2 P3 P6 P7 p n m sv rs M sR sD sB vs bs G) (hi:i < M.length) (hj:j < M[i].length) {w:Value} (hw:rV F G w x) :
  ∃ G',f0g H.size G F.w (adr F.w (rs[i]'(by have:=h.rows.len;omega)) j) w=some G'∧rMd F H P2 P3 P6 P7 p n m sv rs (M.set i (M[i].set j x)) sR sD sB vs bs G'∧d0l (slB (rs[i]'(by have:=h.rows.len;omega))) G G'∧Lx G G'∧G.size≤G'.size:=by
 obtain ⟨G',h1,h2,h3,h4⟩:=h.rows.store V0H hi hj (w:=w) (x:=x) hw.st.1 hw.st.2.1 hw.st.2.2
 have hr:=h.rows.own i hi
 have lx:∀ {e:Nat},F.E ≠ e→LxT e G G':=fun hne=>hr.lxT hne h3
 exact ⟨G',h1,⟨l0t h.ext h3 (fun b hb=>(hr.ge hb).1),lx (by cases F <;> decide) _ _ _ h.b2,lx (by cases F <;> decide) _ _ _ h.b3,lx (by cases F <;> decide) _ _ _ h.b6,h.b7.off h3 h4 (h.p7 _ (i1p _)),lx (by cases F <;> decide) _ _ _ h.bp,h.d.lx h4,h2,h.p7,h.heads.lxm (lx (by cases F <;> decide)) (fun _ _ h=>h),h.basis.lxm (lx (by cases F <;> decide)) (fun _ _ h=>h),h.low⟩,h3,h4,h3.1⟩
theorem rMd.ia (h:rMd F H P2 P3 P6 P7 p n m sv rs M sR sD sB vs bs G) (hi:i < M.length) (hj:j < M[i].length):iaV F.w (rs[i]'(by have:=h.rows.len;omega)) (.int .i64 j)=some (adr F.w (rs[i]'(by have:=h.rows.len;omega)) j):=(h.rows.own i hi).sls.ia hj
theorem rMd.num (h:rMd F H P2 P3 P6 P7 p n m sv rs M sR sD sB vs bs G) (hi:i < M.length) (hj:j < M[i].length) :
  ∃ w,b0r G F.b F.w (adr F.w (rs[i]'(by have:=h.rows.len;omega)) j)=some w∧rV F G w (Tf M i j):=by
 rw [J0H hi hj]
 cases F
 ·obtain ⟨w,h1,h2,h3⟩:=(h.rows.own i hi).sls.load1 (j:=j) hj;exact ⟨w,h1,by simpa using h2,h3⟩
 ·obtain ⟨cs,h1,_,h3⟩:=Sls.load (h.rows.own i hi).sls (j:=j) hj (by decide);exact ⟨_,h1,h3⟩
theorem rMd.bl (h:rMd F H P2 P3 P6 P7 p n m sv rs M sR sD sB vs bs G) (hi:i < M.length) (hj:j < M[i].length):∃ b,AI.blkOf (adr F.w (rs[i]'(by have:=h.rows.len;omega)) j)=[b]∧P3 ≠ b∧b < G.size:=by
 obtain ⟨b,h1,h2,h3⟩:=(h.rows.own i hi).adr_blk hj
 refine ⟨b,h1,?_,h2⟩
 rintro rfl
 exact (h.rows.own i hi).ne h.b3 (by cases F <;> decide) h3
theorem rMd.dv (h:rMd F H P2 P3 P6 P7 p n m sv rs M sR sD sB vs bs G):rV F G (dvV F 1 sD) 1:=by
 have:=h.d
 cases F
 ·exact ⟨rfl,this⟩
 ·exact ⟨sD,rfl,this⟩
theorem rMd.ins {a b:List Value} {A B:List (List Int)} {G':a0e} {w:Value} {X:List Int} (h:rMd F H P2 P3 P6 P7 p n m sv (a ++ b) (A ++ B) sR sD sB vs bs G) (hl:a.length=A.length) (hw:b0d F.P G.size G' F.E F.w w X) (hx:Ext G G'):rMd F H P2 P3 P6 P7 p n m sv (a ++ w :: b) (A ++ X :: B) sR sD sB vs bs G':=by
 have h':=h.mono hx
 refine ⟨h'.ext,h'.b2,h'.b3,h'.b6,h'.b7,h'.bp,h'.d,h'.rows.insert hl hw h.ext.1 (fun y hy k hk=>?_),fun y hy=>?_,h'.heads,h'.basis,h'.low⟩
 ·obtain ⟨i,hi,rfl⟩:=j1v hy
  exact ((h.rows.own i (by have:=h.rows.len;omega)).ge hk).2
 ·have h7:=h.b7.lt
  rcases i1F.1 hy with h1 | h1
  ·exact h.p7 _ (i1F.2 (.inl h1))
  ·rcases j1M.1 h1 with h1 | h1
   ·rw [h1];intro hk;have:=(hw.ge hk).1;omega
   ·exact h.p7 _ (i1F.2 (.inr h1))
theorem rMd.push2 (h:rMd F H P2 P3 P6 P7 p n m sv rs M sR sD sB vs bs G) {w:Value} (hw:a0t w=true) {b:Nat} (hv:vs.length < 1073741824) (hb:bs.length < 1073741824) :
  ∃ sR' G1 sB' G2,i0x H.size (G.push (.row false F.S [w])) F.S 1 24 sR (.slice (some ⟨G.size,0,none⟩) 1 1)=some (sR',G1)∧i0x H.size (G1.push (.row false e0F [.int .i64 (b:Int)])) e0F 1 8 sB (.slice (some ⟨G1.size,0,none⟩) 1 1)=some (sB',G2) ∧
   a0e.blk G1 P6=.row false F.Q [.pointer (some ⟨p,0,none⟩)]∧a0e.blk G1 p=.row false F.T (p0u F n m sR 1 sD sB 0) ∧
   a0e.blk G2 P6=.row false F.Q [.pointer (some ⟨p,0,none⟩)]∧a0e.blk G2 p=.row false F.T (p0u F n m sR 1 sD sB 0)∧a0V sR' = [sR']∧a0t sR' = true∧a0V sB' = [sB']∧a0t sB' = true ∧
   (∀ k,k ∈ AI.blkW sR→k ≠ P6∧k ≠ p)∧(∀ k,k ∈ AI.blkW sB→k ≠ P6) ∧
   ∀ G3,Array.setIfInBounds G2 p (.row false F.T (p0u F n m sR' 1 sD sB' 0))=G3→rMd F H P2 P3 P6 P7 p n m sv rs M sR' sD sB' (vs ++ [w]) (bs ++ [b]) G3:=by
 obtain ⟨sR',G1,a1,o1,x1,y1⟩:=b0d.app (P:=PV) (sz:=1) (e:=F.S) (by cases F <;> decide) (fun _ _ _ _ _ h=>h) h.heads (e2:=F.S) (c:=1) (bytes:=24) (new:=[w]) (x:=w) rfl rfl (by simp [hw]) hv (by omega) (by omega) h.ext.1
 have lx1:∀ {e:Nat},F.S ≠ e→LxT e G G1:=fun hne=>h.heads.lxT hne x1
 have e1:Ext H G1:=y1 H (i1j _) h.ext
 obtain ⟨sB',G2,a2,o2,x2,y2⟩:=b0d.app (P:=PK) (sz:=1) (e:=e0F) (by cases F <;> decide) (fun _ _ _ _ _ h=>h) (h.basis.lxm (Q':=PK) (lx1 (by cases F <;> decide)) (fun _ _ h=>h)) (e2:=e0F) (c:=1) (bytes:=8) (new:=[.int .i64 (b:Int)]) (x:=b) rfl rfl rfl hb (by omega) (by omega) e1.1
 have hob:=h.basis.lxm (Q':=PK) (G':=G1) (lx1 (by cases F <;> decide)) (fun _ _ h=>h)
 have lx2:∀ {e:Nat},e0F ≠ e→LxT e G1 G2:=fun hne=>hob.lxT hne x2
 have e2:Ext H G2:=y2 H (i1j _) e1
 have p1:=lx1 (by cases F <;> decide) _ _ _ h.bp
 have p2:=lx2 (by cases F <;> decide) _ _ _ p1
 have q1:=lx1 (by cases F <;> decide) _ _ _ h.b6
 have q2:=lx2 (by cases F <;> decide) _ _ _ q1
 have nR6:=h.heads.ne h.b6 (by cases F <;> decide)
 have nRp:=h.heads.ne h.bp (by cases F <;> decide)
 have nB6:=h.basis.ne h.b6 (by cases F <;> decide)
 have hR:=h.heads.blkOf
 have hB:=h.basis.blkOf
 refine ⟨sR',G1,sB',G2,a1,a2,q1,p1,q2,p2,o1.cells.1,o1.cells.2,o2.cells.1,o2.cells.2,fun k hk=>?_,fun k hk=>?_,fun G3 hS=>?_⟩
 ·rcases hR with h0 | ⟨c,h0,h1⟩
  ·rw [h0] at hk;simp at hk
  ·rw [h0] at hk
   have:k=c:=by simpa using hk
   subst this
   exact ⟨fun h5=>nR6 (by rw [h1,h5]),fun h5=>nRp (by rw [h1,h5])⟩
 ·rcases hB with h0 | ⟨c,h0,h1⟩
  ·rw [h0] at hk;simp at hk
  ·rw [h0] at hk
   have:k=c:=by simpa using hk
   subst this
   exact fun h5=>nB6 (by rw [h1,h5])
 ·have lx3:∀ {e:Nat},F.T ≠ e→LxT e G2 G3:=fun hne=>b0c hS p2 hne
  have lxx:∀ {e:Nat},F.S ≠ e→e0F ≠ e→F.T ≠ e→LxT e G G3:=fun h1 h2 h3 b ro cs hb=>lx3 h3 b ro cs (lx2 h2 b ro cs (lx1 h1 b ro cs hb))
  have hl:Lx G G3:=lxx (by cases F <;> decide) (by cases F <;> decide) (by cases F <;> decide)
  exact ⟨a0Y hS e2 h.low,lxx (by cases F <;> decide) (by cases F <;> decide) (by cases F <;> decide) _ _ _ h.b2,lxx (by cases F <;> decide) (by cases F <;> decide) (by cases F <;> decide) _ _ _ h.b3,lxx (by cases F <;> decide) (by cases F <;> decide) (by cases F <;> decide) _ _ _ h.b6,h.b7.lxt (lxx (by cases F <;> decide) (by cases F <;> decide) (by cases F <;> decide)) hl,a0v hS p2,h.d.lx hl,⟨h.rows.len,fun r hr=>(h.rows.own r hr).lxm (lxx (by cases F <;> decide) (by cases F <;> decide) (by cases F <;> decide)) (fun cs x hx=>V0H.lx _ _ _ _ hl hx),h.rows.apart⟩,h.p7,
   (o1.lxm (Q':=PV) (lx2 (by cases F <;> decide)) (fun _ _ h=>h)).lxm (lx3 (by cases F <;> decide)) (fun _ _ h=>h),o2.lxm (lx3 (by cases F <;> decide)) (fun _ _ h=>h),h.low⟩
theorem rMd.one (h:rMd F H P2 P3 P6 P7 p n m sv rs M sR sD sB vs bs G) (hf:fl≤G.size) (hb:n < 1048576) (hc:m < 1048576) :
  a0S env fl (F.p n0Q n0P) [.pointer (some ⟨P6,0,none⟩),.pointer (some ⟨P7,0,none⟩)] G (fun r G'=>b0d F.P G.size G' F.E F.w r (List.replicate (2 * n + m + 1) 0)∧Ext G G') R:=by
 cases F
 ·exact n0U hf h.b6 h.bp h.b7 (by omega)
 ·obtain ⟨s7,b7,k7⟩:=h.b7;exact n0J hf h.b6 h.bp b7 k7 (by omega)
end
theorem k0z {z:Int} (hf:fl≤H.size) (hz:f0G z) :
  a0S env fl t0V [.int .i64 z] H (fun r H'=>r=.int .i64 z∧Ext H H') R:=by
 refine a0g Y0D hf (h:=?_)
 intro ρ h0
 obtain ⟨h1,h2⟩:=hz
 have h1':¬ z≤-2147483648:=by omega
 have h2':¬ 2147483648≤z:=by omega
 simp [J0e,v0A,v0B,v0D,h0,h1,h2,h1',h2']
theorem B0c {z:Int} (h:b0q H v (a0k z)) (hf:fl≤H.size) (hz:f0G z) :
  a0S env fl j0q [eV,v] H (fun r H'=>rV .few H' r z∧Ext H H') R:=by
 have hl:lz z < 1073741824:=by
  have:lz z≤1:=s0t (by obtain ⟨h1,h2⟩:=hz;omega)
  omega
 refine a0g Y0C hf (h:=?_)
 intro ρ h0
 obtain ⟨s0,rfl,k0⟩:=id h
 simp [J0d,v0w,v0x,h0,eV,k0.cells,k0.plain]
 generalize hG:Array.push (Array.push H _) _=G
 obtain ⟨hx2,_,b0⟩:=push2 hG
 have hx:=Ext.refl H
 clear hG
 replace hx:=hx.trans hx2
 refine (m0l (h.mono hx) hx.1 hl).mono ?_
 rintro _ G2 ⟨rfl,hx2⟩
 replace hx:=hx.trans hx2
 unfold toV
 have hfit:r0y z=true:=by
  unfold r0y
  obtain ⟨h1,h2⟩:=hz
  simp;omega
 simp [v0y,hfit,v0z]
 refine (k0z hx.1 hz).mono ?_
 rintro _ G3 ⟨rfl,hx2⟩
 simp
 exact fun _=>⟨rfl,hz⟩
theorem X0L {z:Int} (h:b0q H v (a0k z)) (hf:fl≤H.size) (hz:f0G z):a0S env fl (F.p j0q k0e) [eV,v] H (fun r H'=>rV F H' r z∧Ext H H') R:=by
 cases F
 ·exact B0c h hf hz
 ·exact i0K h hf
theorem X0K {a b:Int} {p:Nat} {cs:List Value} {va vb:Value} (hf:fl≤H.size) (hb:a0e.blk H p=.row false F.T cs) (ha:rV F H va a) (hbz:rV F H vb b) (la:lz a < 67108864) (lb:lz b < 67108864) (hR:q0E F R) :
  a0S env fl (F.p y0G y0E) [.pointer (some ⟨p,0,none⟩),va,vb] H (fun r H'=>rV F H' r (a - b)∧Ext H H') R:=by
 cases F
 ·obtain ⟨rfl,ha⟩:=ha;obtain ⟨rfl,hbz⟩:=hbz
  exact p0W hf hb ha hbz hR
 ·exact p0I hf hb ha hbz la lb
theorem Sls.load1x {α:Type} {P:a0e→List Value→α→Prop} {e:Nat} {v:Value} {l:List α} (h:Sls P H e 1 v l) (hx:Ext H G) {j:Nat} (hj:j < l.length):∃ w,b0r G false 1 (adr 1 v j)=some w∧P H [w] l[j]:=by
 obtain ⟨cs,h1,h2⟩:=h
 refine ⟨_,h1.load1 hx hj,?_⟩
 have h3:=h2 j hj
 have hl:=h1.1
 have:(cs.drop (j * 1)).take 1=[cs.getD j undef]:=by
  have hjc:j < cs.length:=by omega
  have e1:cs.getD j undef=cs[j]:=by simp [i1h,hjc]
  rw [j1s,i1Z hjc,e1];rfl
 rw [this] at h3;exact h3
theorem B0h {e bytes:Nat} {l:List Value} {a b:Value} (h:b0d PV fl G e 1 v l) (ha:a0t a=true) (hb:a0t b=true) (hl:l.length + 2≤1073741824) (hby:bytes≤1024) (hfl:fl≤G.size) :
  ∃ v' G',i0x fl (G.push (.row false e [a,b])) e 1 bytes v (.slice (some ⟨G.size,0,none⟩) 2 2)=some (v',G')∧b0d PV fl G' e 1 v' (l ++ [a,b])∧d0l (slB v) G G'∧(∀ H0,H0.size≤fl→Ext H0 G→Ext H0 G'):=by
 obtain ⟨cs,h1,h2⟩:=h
 have hx:Sl (G.push (.row false e [a,b])) e 1 (.slice (some ⟨G.size,0,none⟩) 2 2) 2 [a,b]:=(Own.mk (fl:=0) a0D rfl (j1l _)).sl
 obtain ⟨v',G',a1,a2,a3,a4⟩:=j0Y (h1.mono (Ext.push (Ext.refl G))) hx (by simp [ha,hb]) hl hby (by omega) (bytes:=bytes) (by simp;omega)
 have hcl:=h1.1
 rw [j1s] at hcl
 refine ⟨v',G',a1,⟨cs ++ [a,b],by simpa using a2,fun k hk=>?_⟩,⟨?_,fun c hc hne=>?_⟩,fun H0 k1 k2=>a4 H0 k1 k2.push⟩
 ·have hcv:cs=l:=by
   apply k1Y hcl
   intro j j1 j2
   have h3:=h2 j j2
   rw [j1s,i1Z j1] at h3
   have:[cs[j]]=[l[j]]:=h3
   simpa using this
  subst hcv
  show ((cs ++ [a,b]).drop (k * 1)).take 1=[(cs ++ [a,b])[k]]
  rw [j1s,i1Z hk];rfl
 ·have:=a3.1;simp at this;omega
 ·rw [a3.2 c (by simp;omega) hne,d0K hc]
theorem Z0G {G3:a0e} {z1 z2 r2:Blk} (hN:Array.setIfInBounds (Array.push (Array.push G z1) z2) (G.size + 1) r2=G3):Ext G G3∧a0e.blk G3 G.size=z1∧a0e.blk G3 (G.size + 1)=r2:=by
 rw [← hN]
 exact ⟨(Ext.refl G).push.push.set (Nat.le_succ _),by rw [a0W (Nat.succ_ne_self _)];simp,by rw [a0z (by simp)]⟩
theorem h0d {W i j r c:Nat} {L:List (List Int)} {x:Int} (hi:i < L.length) (hj:j < L[i].length):Tf (L.set i (L[i].set j x)) r c=if r=i∧c=j then x else Tf L r c:=by
 unfold Tf
 simp only [i1h,i1R]
 by_cases hri:i=r
 ·subst hri
  simp only [i1X,hi,i1O,i1R,true_and]
  by_cases hcj:j=c
  ·subst hcj;simp [hj]
  ·rw [i1k hcj,i1k (fun h=>hcj h.symm),i1m hi];rfl
 ·rw [i1k hri,i1k (fun h=>hri h.1.symm)]
def Rec (W:Nat) (M:List (List Int)):Prop:=∀ i (h:i < M.length),M[i].length=W
theorem Rec.set {W i j:Nat} {M:List (List Int)} {x:Int} (h:Rec W M) (hi:i < M.length):Rec W (M.set i (M[i].set j x)):=by
 intro r hr
 have hr':r < M.length:=by simpa using hr
 by_cases hri:r=i
 ·subst hri;simp [h r hr']
 ·rw [l1c (by omega)];exact h r hr'
theorem Rec.ins {W i:Nat} {M:List (List Int)} {X:List Int} (h:Rec W M) (hX:X.length=W):Rec W (M.take i ++ X :: M.drop i):=by
 intro r hr
 have hm:(M.take i ++ X :: M.drop i)[r] ∈ M.take i ++ X :: M.drop i:=i1p _
 rcases i1F.1 hm with h1 | h1
 ·obtain ⟨k,hk,e⟩:=j1v (k1c h1);rw [← e];exact h k hk
 ·rcases j1M.1 h1 with h1 | h1
  ·rw [h1];exact hX
  ·obtain ⟨k,hk,e⟩:=j1v (List.mem_of_mem_drop h1);rw [← e];exact h k hk
theorem X0P {i r c:Nat} {M:List (List Int)} {X:List Int} (hi:i≤M.length):Tf (M.take i ++ X :: M.drop i) r c=if r < i then Tf M r c else if r=i then X.getD c 0 else Tf M (r - 1) c:=by
 have hl:(M.take i).length=i:=by simp;omega
 unfold Tf
 simp only [i1h]
 by_cases h1:r < i
 ·rw [i1n h1,i1V (by omega),j1u,i1n h1]
 ·rw [i1k h1,j1c (by omega),hl]
  by_cases h2:r=i
  ·subst h2;simp
  ·rw [i1k h2,List.getElem?_cons,i1k (by omega),j1z,show i + (r - i - 1)=r - 1 by omega]
theorem f0E {n c:Nat}:(List.replicate n (0:Int)).getD c 0=0:=by
 rw [i1h,j1T];split <;> rfl
def bbq (q:ScT) (n r:Nat):Int:=Tf q.A r n
def ccq (q:ScT) (c:Nat):Int:=q.C.getD c 0
def t0y (q:ScT) (n m i c:Nat):Int:=sm (fun r=>if bbq q n r < 0 then sg (bbq q n) r * e0v n m (Tf q.A) (bbq q n) r c else 0) i
theorem C0m {E:Env} {bef:List Nat} {Z:b0b→a0e→Prop} {j i:Nat} {t:b0b} {ops:List a0I} {lg:Log} (n:Nat) (hn:ops.length=n) (hb:(List.range n).all (fun k=>(bef.getD (i + k) 0).testBit j)=true) (h:q0E F R):q0E F (fun v=>WRP E fl bef [] Z R i ops t H (some (j,v)) lg):=by
 subst hn
 cases F
 ·exact t0D hb h
 ·trivial
@[simp ↓] theorem b1g {E:Env} {d s:Nat} {r:List a0I} {t:b0b} {lg:Log} {Z:b0b→a0e→Log→Prop} :
  WRL E fl (F.p [⟨some d,none,.mv (.tmp s)⟩] [⟨some d,none,.load true 2 (.tmp s)⟩] ++ r) t H lg Z=oo (kpV F H (get t s)) fun v=>WRL E fl r (put t (some d) v) H ((F.p [] (blkOf (get t s)),[]) :: lg) Z:=by
 cases F
 ·show WRL E fl (⟨some d,none,.mv (.tmp s)⟩ :: r) t H lg Z=_
  rw [v0Z,J0N,show kpV .few H (get t s)=some (get t s) from rfl,q0l];rfl
 ·show WRL E fl (⟨some d,none,.load true 2 (.tmp s)⟩ :: r) t H lg Z=_
  rw [v0Z,t0E];rfl
theorem K0E {n m:Nat} {ρ:Nat→Value} {wd:Value} {Q:b0b→a0e→Prop} (h25:ρ 25=.agg #[]) (h27:ρ 27=.int .i64 (n:Int)) (h28:ρ 28=.int .i64 (m:Int)) (h33:ρ 33=.int .i64 (2 * (n:Int) + m)) (h37:ρ 37=wd) (kd:rV F G wd 1) (hf:fl≤G.size)
  (key:∀ ρ' G3 sD,Ext G G3→a0e.blk G3 G.size=.row false F.T (p0u F n m (.slice none 0 0) 1 sD (.slice none 0 0) 0)→a0e.blk G3 (G.size + 1)=.row false F.Q [.pointer (some ⟨G.size,0,none⟩)]→rD F G3 sD 1→ρ' 6=.pointer (some ⟨G.size + 1,0,none⟩)→(∀ k,k < 6→ρ' k=ρ k)→Q (T 224 ρ') G3) :
  WR env fl ((h0y F).drop 13) (T 224 ρ) G Q R:=by
 have hf':fl≤G.size + 1:=by omega
 cases F
 ·obtain ⟨rfl,kz⟩:=kd
  simp [h0y,h25,h27,h28,h33,h37,hf']
  generalize hN:Array.setIfInBounds (Array.push (Array.push _ _) _) _ _=G3
  obtain ⟨hx2,bp,b6⟩:=Z0G hN
  exact key _ _ .nilFunc hx2 (by rw [h0W];simpa using bp) b6 kz (by simp) (fun k hk=>by simp [show 6 ≠ k by omega,show 38 ≠ k by omega,show 39 ≠ k by omega])
 ·obtain ⟨sD,rfl,kd⟩:=kd
  simp [h0y,h25,h27,h28,h33,h37,hf']
  generalize hN:Array.setIfInBounds (Array.push (Array.push _ _) _) _ _=G3
  obtain ⟨hx2,bp,b6⟩:=Z0G hN
  exact key _ _ sD hx2 (by rw [g0B];simpa using bp) b6 (kd.mono hx2) (by simp) (fun k hk=>by simp [show 6 ≠ k by omega,show 38 ≠ k by omega,show 39 ≠ k by omega])
theorem K0F {ρ:Nat→Value} {wz:Value} {Q:b0b→a0e→Prop} (h43:ρ 43=wz) (kz:rV F G wz 0) (hf:fl≤G.size)
  (key:∀ ρ' G5,Ext G G5→r7 F G5 G.size→ρ' 7=.pointer (some ⟨G.size,0,none⟩)→(∀ k,k ≠ 7→ρ' k=ρ k)→Q (T 224 ρ') G5):WR env fl ((h0A F).drop 4) (T 224 ρ) G Q R:=by
 cases F
 ·obtain ⟨rfl,_⟩:=kz
  simp [h0A,h43,hf]
  generalize hN:Array.setIfInBounds (Array.push _ _) _ _=G5
  obtain ⟨hx2,b7⟩:=new1 hN
  exact key _ _ hx2 b7 (by simp) (fun k hk=>by simp [j1W hk])
 ·obtain ⟨sz,rfl,kz⟩:=kz
  simp [h0A,h43,hf,kz.cells,kz.plain]
  generalize hN:Array.setIfInBounds (Array.push _ _) _ _=G5
  obtain ⟨hx2,b7⟩:=new1 hN
  exact key _ _ hx2 ⟨sz,b7,kz.mono hx2⟩ (by simp) (fun k hk=>by simp [j1W hk])
theorem B0t {d s nt:Nat} {z:Int} {ρ:Nat→Value} {wx:Value} {Q:b0b→a0e→Prop} (hs:ρ s=wx) (hsl:s < nt) (hdl:d < nt) (hsd:s ≠ d) (kx:rV F G wx z) (hf:fl≤G.size)
  (key:∀ ρ' G9,Ext G G9→kpV F G9 (ρ' d)=some wx→(∀ b,b ∈ F.p [] (blkOf (ρ' d))→G.size≤b)→(∀ k,k ≠ d→ρ' k=ρ k)→Q (T nt ρ') G9) :
  WR env fl (F.p [⟨some d,none,.mv (.tmp s)⟩] [⟨some d,none,.alloc a0a [.bool false,.slice none 0 0]⟩,⟨none,none,.store 2 (.tmp d) (.tmp s)⟩]) (T nt ρ) G Q R:=by
 cases F
 ·simp [hs,hsl,hdl]
  exact key _ _ (Ext.refl _) (by simp [kpV]) (by simp) (fun k hk=>by simp [j1W hk])
 ·obtain ⟨sx,rfl,kx⟩:=kx
  simp [hs,hsl,hdl,hsd,j1W hsd,hf,kx.cells,kx.plain]
  generalize hN:Array.setIfInBounds (Array.push _ _) _ _=G9
  obtain ⟨hx9,b13⟩:=new1 hN
  exact key _ _ hx9 (by simp [kpV,b13]) (by simp) (fun k hk=>by simp [j1W hk])
def f1H (F:RK) (fl n m:Nat) (q:ScT) (r:Value) (H':a0e):Prop:=∃ p L bs sR sD sB vs,r=.pointer (some ⟨p,0,none⟩)∧e0N F fl H' p n m L 1 bs 0 sR sD sB vs∧ShT n m L bs∧(∀ r c,r < m + 2→c≤2 * n + m→Tf L r c=i0f n m (Tf q.A) (bbq q n) (ccq q) c r)∧∀ r,r < m→bf bs r=l0g n m (bbq q n) r
def f1Y (F:RK) (H:a0e) (p P7 n m W:Nat) (q:ScT) (sv:List Value) (sA sD w9 w10:Value) (i:Nat) (ρ:Nat→Value) (G:a0e):Prop :=
 ρ 2=.pointer (some ⟨H.size,0,none⟩)∧ρ 3=.pointer (some ⟨H.size + 1,0,none⟩)∧ρ 6=.pointer (some ⟨p + 1,0,none⟩)∧ρ 8=.func (.func (F.p n0Q n0P)) #[] #[.pointer (some ⟨p + 1,0,none⟩),.pointer (some ⟨P7,0,none⟩)]∧ρ 9=w9∧ρ 10=w10∧ρ 77=sA ∧
  ∃ vs bs M sR sB,rMd F H H.size (H.size + 1) (p + 1) P7 p n m sv (vs ++ [w9,w10]) M sR sD sB vs bs G∧vs.length=i∧bs.length=i∧M.length=i + 2∧Rec W M ∧
   (∀ r c,r < i→c < W→Tf M r c=sg (bbq q n) r * e0v n m (Tf q.A) (bbq q n) r c)∧(∀ c,c < W→Tf M i c = -t0y q n m i c)∧(∀ c,c < W→Tf M (i + 1) c = -cost n (ccq q) c)∧∀ r,r < i→bf bs r=l0g n m (bbq q n) r
theorem z0D {q:ScT} {n m:Nat} (h:SV H v q) (hn0:q.n=n) (hAl:q.A.length=m) (hCl:q.C.length=n) (hrow:∀ r ∈ q.A,r.length=n + 1) (hf:fl≤H.size) (hzA:∀ r c,lz (Tf q.A r c) < 67108864) (hzC:∀ c,lz (ccq q c) < 67108864) (hzL:∀ i c,i≤m→c≤2 * n + m→lz (t0y q n m i c) < 67108864) (hm:m < 1048576) (hn:n < 1048576) (hR:q0E F R) :
  a0S env fl (t0P F) [eV,v] H (fun r H'=>f1H F H.size n m q r H'∧Ext H H') R:=by
 obtain ⟨sA,sBy,sC,s1,s2,rfl,qA,qB,qC,q1,q2⟩:=h
 rw [hn0]
 refine a0g U0L hf (h:=?_)
 intro ρ h0
 have w1:IntKind.i64.wrap (2 * (n:Int))=2 * (n:Int):=a0R (by omega) (by omega)
 have w2:IntKind.i64.wrap (2 * (n:Int) + m)=2 * (n:Int) + m:=a0R (by omega) (by omega)
 have e2:((2 * n + m:Nat):Int)=2 * (n:Int) + m:=by omega
 have f1:f0G 1:=by unfold f0G;omega
 have f0:f0G 0:=by unfold f0G;omega
 have hslA:=qA.slen
 rw [hAl] at hslA
 simp [k0y,s0N,h0,eV]
 generalize hG:Array.push (Array.push H _) _=G
 obtain ⟨hx,b2,b3⟩:=push2 hG
 clear hG
 simp [s0O,b3,hslA]
 refine a0G ?_
 simp [h0y,b2,b3,w1,w2]
 refine (c0r (n:=1) (by have:=hx.1;omega) (by omega) (by omega)).mono ?_
 rintro _ G1 ⟨kone,hx2⟩
 replace hx:=hx.trans hx2
 replace b2:=hx2.blk b2
 replace b3:=hx2.blk b3
 simp
 refine (X0L kone (by have:=hx.1;omega) f1).mono ?_
 rintro wd G2 ⟨kd,hx2⟩
 replace hx:=hx.trans hx2
 replace b2:=hx2.blk b2
 replace b3:=hx2.blk b3
 have hsz:=hx.1
 simp
 refine K0E (n:=n) (m:=m) (by simp) (by simp) (by simp) (by simp) (by simp) kd hsz ?_
 intro ρ1 G3 sD hx2 bp b6 kd g6 hk
 have g2:=hk 2 (by decide);have g3:=hk 3 (by decide);have g5:=hk 5 (by decide)
 simp at g2 g3 g5
 clear hk
 replace hx:=hx.trans hx2
 replace b2:=hx2.blk b2
 replace b3:=hx2.blk b3
 have hpH:=hsz
 generalize hpp:Array.size G2=p at *
 have kz0:b0q G3 (.agg #[.bool false,.slice none 0 0]) (a0k 0):=⟨_,by rw [e0k],by rw [e0k];exact Lim.nil⟩
 simp [h0A,g2,b2]
 refine (X0L kz0 (by have:=hx.1;omega) f0).mono ?_
 rintro wz G4 ⟨kz,hx2⟩
 replace hx:=hx.trans hx2
 replace b2:=hx2.blk b2
 replace b3:=hx2.blk b3
 replace b6:=hx2.blk b6
 replace bp:=hx2.blk bp
 have hsz:=hx.1
 replace kd:=kd.mono hx2
 simp
 refine K0F (by simp) kz hsz ?_
 intro ρ2 G5 hx2 b7 g7 hk
 replace g2:=(hk 2 (by decide)).trans (by simpa using g2);replace g3:=(hk 3 (by decide)).trans (by simpa using g3);replace g5:=(hk 5 (by decide)).trans (by simpa using g5);replace g6:=(hk 6 (by decide)).trans (by simpa using g6)
 replace hx:=hx.trans hx2
 replace b2:=hx2.blk b2
 replace b3:=hx2.blk b3
 replace b6:=hx2.blk b6
 replace bp:=hx2.blk bp
 replace kd:=kd.mono hx2
 generalize hp7:Array.size G4=P7 at *
 have hM:rMd F H H.size (H.size + 1) (p + 1) P7 p n m _ ([] ++ []) ([] ++ []) (.slice none 0 0) sD (.slice none 0 0) [] [] G5:=⟨hx,b2,b3,b6,b7,bp,kd,⟨rfl,fun i hi=>by simp at hi,fun i j hi=>by simp at hi⟩,fun w hw=>by simp at hw,b0d.nil,b0d.nil,hpH⟩
 clear b2 b3 b6 bp b7 hx hx2 kz kz0 kd kone hp7 hsz hk
 have hP7l:=hM.b7.lt
 simp [s0P,s0Q,g6,g7]
 refine (hM.one (by have:=hM.ext.1;omega) hn hm).mono ?_
 rintro w9 G6 ⟨hw,hx2⟩
 replace hM:rMd F H H.size (H.size + 1) (p + 1) P7 p n m _ ([w9] ++ []) ([List.replicate (2 * n + m + 1) 0] ++ []) (.slice none 0 0) sD (.slice none 0 0) [] [] G6:=hM.ins rfl hw hx2
 simp
 refine (hM.one (by have:=hM.ext.1;omega) hn hm).mono ?_
 rintro w10 G7 ⟨hw',hx3⟩
 replace hM:rMd F H H.size (H.size + 1) (p + 1) P7 p n m _ [w9,w10] [List.replicate (2 * n + m + 1) 0,List.replicate (2 * n + m + 1) 0] (.slice none 0 0) sD (.slice none 0 0) [] [] G7:=hM.ins rfl hw' hx3
 clear hw hw' hx2 hx3
 have b3:=hM.b3
 have hslC:=qC.slen
 rw [hCl] at hslC
 obtain ⟨W,hW⟩:∃ W,W=2 * n + m + 1:=⟨_,rfl⟩
 rw [← hW] at hM
 simp [s0R,g3,b3,hslC]
 refine c0W (n:=n) (fun k ρ G=>ρ 2=.pointer (some ⟨H.size,0,none⟩)∧ρ 3=.pointer (some ⟨H.size + 1,0,none⟩)∧ρ 5=.int .i64 (m:Int)∧ρ 6=.pointer (some ⟨p + 1,0,none⟩)∧ρ 8=.func (.func (F.p n0Q n0P)) #[] #[.pointer (some ⟨p + 1,0,none⟩),.pointer (some ⟨P7,0,none⟩)]∧ρ 9=w9∧ρ 10=w10∧ρ 50=sC ∧
   ∃ M,rMd F H H.size (H.size + 1) (p + 1) P7 p n m [.int .i64 (n:Int),sA,sBy,sC,.bool (a0f q.cb).1.1,s1,.bool (a0f q.cb).2.1,s2] [w9,w10] M (.slice none 0 0) sD (.slice none 0 0) [] [] G∧M.length=2∧Rec W M∧∀ r c,c < W→Tf M r c=if r=1 then (if c < k then -ccq q c else if n≤c∧c < n + k then ccq q (c - n) else 0) else 0)
   rfl rfl (by decide) (by omega) (by simp) (by simp) ?_ ?_ ?_ ?_
 ·refine ⟨by simp [g2],by simp [g3],by simp [g5],by simp [g6],by simp,by simp,by simp,by simp,_,hM,rfl,fun i hi=>?_,fun r c hc=>?_⟩
  ·have:i=0 ∨ i=1:=by simp at hi;omega
   rcases this with rfl | rfl <;> simp
  ·have hrep:∀ r,([List.replicate W 0,List.replicate W 0].getD r ([]:List Int)).getD c 0=0:=fun r=>by
    match r with
    | 0=>exact f0E
    | 1=>exact f0E
    | r + 2=>rfl
   have:Tf [List.replicate W 0,List.replicate W 0] r c=0:=hrep r
   rw [this]
   split
   ·rw [i1k (by omega),i1k (by omega)]
   ·rfl
 ·intro i ρ ρ' G h hI;simpa [h] using hI
 ·clear h0 ρ hM b3
  rintro k ρ G hk gk gn ⟨g2,g3,g5,g6,g8,g9,g10,g50,M,hM,hM2,hrec,hTf⟩
  have kC:=qC.mono d0r hM.ext
  have hkC:k < q.C.length:=by omega
  obtain ⟨cs,ec,hcl,kc⟩:=Sls.load kC hkC (by omega)
  have hcq:q.C[k]=ccq q k:=by unfold ccq;rw [i1h,i1m hkC];rfl
  rw [hcq] at kc
  obtain ⟨sc,hcs,kc⟩:=kc
  rw [hcs] at ec
  have hsz:=hM.ext.1
  simp [s0S,gk,g50,kC.ia hkC,ec,kc.cells,kc.plain,hsz]
  generalize hN:Array.setIfInBounds (Array.push _ _) _ _=G2
  obtain ⟨hx2,b12⟩:=new1 hN
  clear hN
  replace hM:=hM.mono hx2
  replace kc:=kc.mono hx2
  generalize hP12:Array.size G=P12 at *
  simp [s0T,g2,hM.b2,b12]
  refine (d1n (z:=ccq q k) ⟨sc,rfl,kc⟩ hM.ext.1 (hzC k) hR).mono ?_
  rintro wx G8 ⟨kx,hx2⟩
  replace hM:=hM.mono hx2
  have hs8:=hM.ext.1
  clear b12 kc kC ec
  have h1L:1 < M.length:=by omega
  have hk1:k < M[1].length:=by rw [hrec 1 h1L];omega
  have hk2:n + k < M[1].length:=by rw [hrec 1 h1L];omega
  obtain ⟨bw,hbw,hne,hblt⟩:∃ b,AI.blkOf (adr F.w w10 k)=[b]∧H.size + 1 ≠ b∧b < G8.size:=hM.bl (i:=1) (j:=k) h1L hk1
  obtain ⟨zz,hzz⟩:∃ z,z=ccq q k:=⟨_,rfl⟩
  rw [← hzz] at kx
  have hlzz:lz zz < 67108864:=by rw [hzz];exact hzC k
  simp
  refine B0t (by simp) (by decide) (by decide) (by decide) kx hs8 ?_
  intro ρ3 G9 hx9 k13 hb13 hk
  replace hM:=hM.mono hx9
  replace kx:=kx.mono hx9
  have w3:IntKind.i64.wrap ((n:Int) + k)=(n:Int) + k:=a0R (by omega) (by omega)
  have i1:iaV F.w w10 (.int .i64 (k:Int))=some (adr F.w w10 k):=hM.ia (i:=1) (j:=k) h1L hk1
  have i2:iaV F.w w10 (.int .i64 ((n + k:Nat):Int))=some (adr F.w w10 (n + k)):=hM.ia (i:=1) (j:=n + k) h1L hk2
  rw [show ((n + k:Nat):Int)=(n:Int) + k by omega] at i2
  refine c0J ?_
  simp [o0R,g2,g3,g10,hM.b2,hM.b3,w3,hk,k13]
  refine (y0k kx (by have:=hM.ext.1;omega) hlzz).mono ?_
  rintro wn G10 ⟨kn,hx2⟩
  replace hM:=hM.mono hx2
  replace kx:=kx.mono hx2
  obtain ⟨G11,st1,hM1,_,hlx1,_⟩:=hM.store (x:=-zz) (i:=1) (j:=k) h1L hk1 kn
  have h1L':1 < (M.set 1 (M[1].set k (-zz))).length:=by simp;omega
  have hk2':n + k < (M.set 1 (M[1].set k (-zz)))[1].length:=by rw [hrec.set h1L 1 h1L'];omega
  obtain ⟨G12,st2,hM2',_,_,_⟩:=hM1.store (x:=zz) (i:=1) (j:=n + k) h1L' hk2' (kx.lx hlx1)
  replace st1:f0g H.size G10 F.w (adr F.w w10 k) wn=some G11:=st1
  replace st2:f0g H.size G11 F.w (adr F.w w10 (n + k)) _=some G12:=st2
  simp [i1,i2,st1,st2,hbw,hne,kpV.mono k13 hx2]
  refine ⟨?_,?_⟩
  ·cases F
   ·simp [hne]
   ·simp [hne]
    rintro a b (⟨rfl,rfl⟩ | ⟨rfl,rfl⟩)
    ·simp [hne]
    ·simp
     intro x hxb;have:=hb13 x hxb;omega
  refine Rnd.mk (by simp [hk,gk]) (by simp [hk,gn]) ⟨by simp [hk,g2],by simp [hk,g3],by simp [hk,g5],by simp [hk,g6],by simp [hk,g8],by simp [hk,g9],by simp [hk,g10],by simp [hk,g50],_,hM2',by simp [hM2],(hrec.set h1L).set h1L',fun r c hc=>?_⟩
  rw [h0d (W:=W) h1L' hk2',h0d (W:=W) h1L hk1,hTf r c hc,hzz]
  by_cases hr:r=1
  ·subst hr
   simp only [true_and,i1X]
   by_cases c1:c=n + k
   ·rw [i1n c1,i1k (by omega),i1n (by omega),c1,show n + k - n=k by omega]
   ·rw [i1k c1]
    by_cases c2:c=k
    ·rw [i1n c2,i1n (by omega),c2]
    ·rw [i1k c2]
     have p1:(c < k + 1)=(c < k):=l1g (by omega)
     have p2:(n≤c∧c < n + (k + 1))=(n≤c∧c < n + k):=l1g (by omega)
     simp only [p1,p2]
  ·rw [i1k (fun h=>hr h.1),i1k (fun h=>hr h.1),i1k hr,i1k hr]
 ·clear h0 ρ hM b3
  rintro ρ G gk gn ⟨g2,g3,g5,g6,g8,g9,g10,g50,M,hM,hM2,hrec,hTf⟩
  simp [o0S,g3,hM.b3,hslA]
  generalize hsv:[Value.int .i64 (n:Int),sA,sBy,sC,.bool (a0f q.cb).1.1,s1,.bool (a0f q.cb).2.1,s2]=sv at hM
  have hsv1:∃ a b c d e f,sv=.int .i64 (n:Int) :: sA :: a :: b :: c :: d :: e :: f :: []:=⟨_,_,_,_,_,_,hsv.symm⟩
  refine c0W (n:=m) (f1Y F H p P7 n m W q sv sA sD w9 w10) rfl rfl (by decide) (by omega) (by simp) (by simp) ?_ ?_ ?_ ?_
  ·refine ⟨by simp [g2],by simp [g3],by simp [g6],by simp [g8],by simp [g9],by simp [g10],by simp,[],[],M,_,_,hM,rfl,rfl,hM2,hrec,fun r c hr=>by omega,fun c hc=>?_,fun c hc=>?_,fun r hr=>by omega⟩
   ·rw [hTf 0 c hc,i1k (by decide)];rfl
   ·rw [hTf 1 c hc,i1n rfl]
    unfold cost
    by_cases c1:c < n
    ·rw [i1n c1,i1n c1]
    ·rw [i1k c1,i1k c1]
     by_cases c2:c < 2 * n
     ·rw [i1n c2,i1n (by omega)];omega
     ·rw [i1k c2,i1k (by omega)];rfl
  ·intro i ρ ρ' G h hI;unfold f1Y at *;simpa [h] using hI
  ·clear g2 g3 g5 g6 g8 g9 g10 g50 hM hM2 hrec hTf gk gn ρ M G
   rintro i ρ G hi gi gm ⟨g2,g3,g6,g8,g9,g10,g77,vs,bs,M,sR,sB,hM,hvl,hbl,hML,hrec,hT1,hT2,hT3,hT4⟩
   obtain ⟨x3,x4,x5,x6,x7,x8,hsv1⟩:=hsv1
   have hiA:i < q.A.length:=by omega
   obtain ⟨wr0,er0,wr,hwr,kr⟩:=Sls.load1x qA hM.ext hiA
   have hwr':wr0=wr:=by simpa using hwr
   subst hwr'
   have hrl:q.A[i].length=n + 1:=hrow _ (i1p hiA)
   have b3:=hM.b3
   rw [hsv1] at b3
   simp [o0T,gi,g77,(qA.mono q0f hM.ext).ia hiA,er0,o0U,g8]
   refine (hM.one (by have:=hM.ext.1;omega) hn hm).mono ?_
   rintro x G2 ⟨hx,hx2⟩
   rw [← hW] at hx
   have hMt:rMd F H H.size (H.size + 1) (p + 1) P7 p n m sv (vs ++ [w9,w10]) (M.take i ++ M.drop i) sR sD sB vs bs G:=by rw [j1Y];exact hM
   have hM':=hMt.ins (by simp;omega) hx hx2
   obtain ⟨M',hM'e⟩:∃ M',M' = M.take i ++ List.replicate W 0 :: M.drop i:=⟨_,rfl⟩
   rw [← hM'e] at hM'
   have hrec':Rec W M':=by rw [hM'e];exact hrec.ins (by simp)
   have hTi:∀ r c,Tf M' r c=if r < i then Tf M r c else if r=i then 0 else Tf M (r - 1) c:=fun r c=>by
    rw [hM'e,X0P (by omega),f0E]
   have hML':M'.length=i + 3:=by rw [hM'e];simp;omega
   clear hx hMt hM hx2 hM'e
   have hiM:i < M'.length:=by omega
   have hxi:(vs ++ x :: [w9,w10])[i]'(by simp;omega)=x:=by rw [i1J (by omega)];simp [hvl]
   have kr2:=kr.mono d0r hM'.ext
   obtain ⟨v',hsl,kv,hel⟩:=kr2.first (n:=n) (k:=.i64) (by omega)
   have hvs:=kv.slen
   rw [j1m,j1g (by omega)] at hvs
   have b3:=hM'.b3
   rw [hsv1] at b3
   simp [o0V,g3,b3,hsl,hel,hvs]
   refine c0W (n:=n) (fun k ρ G=>ρ 2=.pointer (some ⟨H.size,0,none⟩)∧ρ 3=.pointer (some ⟨H.size + 1,0,none⟩)∧ρ 6=.pointer (some ⟨p + 1,0,none⟩)∧ρ 8=.func (.func (F.p n0Q n0P)) #[] #[.pointer (some ⟨p + 1,0,none⟩),.pointer (some ⟨P7,0,none⟩)]∧ρ 9=w9∧ρ 10=w10∧ρ 77=sA∧ρ 78=.int .i64 (m:Int)∧ρ 79=.int .i64 (i:Int)∧ρ 14=.int .i64 (i:Int)∧ρ 15=wr0∧ρ 16=x∧ρ 89=v' ∧
    ∃ M2,rMd F H H.size (H.size + 1) (p + 1) P7 p n m sv (vs ++ x :: [w9,w10]) M2 sR sD sB vs bs G∧M2.length=i + 3∧Rec W M2∧∀ r c,c < W→Tf M2 r c=if r=i then (if c < k then Tf q.A i c else if n≤c∧c < n + k then -Tf q.A i (c - n) else 0) else Tf M' r c)
    rfl rfl (by decide) (by omega) (by simp) (by simp) ?_ ?_ ?_ ?_
   ·refine ⟨by simp [g2],by simp [g3],by simp [g6],by simp [g8],by simp [g9],by simp [g10],by simp [g77],by simp [gm],by simp [gi],by simp [gi],by simp,by simp,by simp,M',hM',hML',hrec',fun r c hc=>?_⟩
    by_cases hr:r=i
    ·subst hr;rw [i1n rfl,i1k (by omega),i1k (by omega),hTi,i1k (by omega),i1n rfl]
    ·rw [i1k hr]
   ·intro i ρ ρ' G h hI;simpa [h] using hI
   ·clear g2 g3 g6 g8 g9 g10 g77 gi gm hM' hrec' b3 hel hvs kr2 kv ρ
    rintro k ρ G hk gk gn ⟨g2,g3,g6,g8,g9,g10,g77,gm,gi,g14,g15,g16,g89,M2,hM,hM2,hrec2,hTf⟩
    obtain ⟨v'',hsl',kv,_⟩:=(kr.mono d0r hM.ext).first (n:=n) (k:=.i64) (by omega)
    have hvv:v'' = v':=by rw [hsl] at hsl';exact (Option.some.inj hsl').symm
    subst hvv
    have hkC:k < (q.A[i].take n).length:=by rw [j1m];omega
    obtain ⟨cs,ec,hcl,kc⟩:=Sls.load kv hkC (by omega)
    have hcq:(q.A[i].take n)[k]=Tf q.A i k:=by rw [List.getElem_take,J0H hiA (by omega)]
    rw [hcq] at kc
    obtain ⟨sc,hcs,kc⟩:=kc
    rw [hcs] at ec
    have hsz:=hM.ext.1
    simp [o0W,gk,g89,kv.ia hkC,ec,kc.cells,kc.plain,hsz]
    generalize hN:Array.setIfInBounds (Array.push _ _) _ _=G2
    obtain ⟨hx2,b12⟩:=new1 hN
    clear hN
    replace hM:=hM.mono hx2
    replace kc:=kc.mono hx2
    generalize hP12:Array.size G=P12 at *
    simp [o0X,g2,hM.b2,b12]
    refine (d1n (z:=Tf q.A i k) ⟨sc,rfl,kc⟩ hM.ext.1 (hzA _ _) hR).mono ?_
    rintro wx G8 ⟨kx,hx2⟩
    replace hM:=hM.mono hx2
    have hs8:=hM.ext.1
    clear b12 kc kv ec
    have h1L:i < M2.length:=by omega
    have hk1:k < M2[i].length:=by rw [hrec2 i h1L];omega
    have hk2:n + k < M2[i].length:=by rw [hrec2 i h1L];omega
    obtain ⟨bw,hbw,hne,hblt⟩:∃ b,AI.blkOf (adr F.w x k)=[b]∧H.size + 1 ≠ b∧b < G8.size:=by
     have:=hM.bl (i:=i) (j:=k) h1L hk1
     rw [hxi] at this;exact this
    obtain ⟨zz,hzz⟩:∃ z,z=Tf q.A i k:=⟨_,rfl⟩
    rw [← hzz] at kx
    have hlzz:lz zz < 67108864:=by rw [hzz];exact hzA i k
    simp
    refine B0t (by simp) (by decide) (by decide) (by decide) kx hs8 ?_
    intro ρ3 G9 hx9 k13 hb13 hk
    replace hM:=hM.mono hx9
    replace kx:=kx.mono hx9
    have b3:=hM.b3
    rw [hsv1] at b3
    have w3:IntKind.i64.wrap ((n:Int) + k)=(n:Int) + k:=a0R (by omega) (by omega)
    have i1:=hM.ia (i:=i) (j:=k) h1L hk1
    have i2:=hM.ia (i:=i) (j:=n + k) h1L hk2
    rw [hxi] at i1 i2
    rw [show ((n + k:Nat):Int)=(n:Int) + k by omega] at i2
    refine c0J ?_
    simp [o0Y,g2,g3,g16,hM.b2,b3,w3,hk,k13]
    refine (y0k kx (by have:=hM.ext.1;omega) hlzz).mono ?_
    rintro wn G10 ⟨kn,hx2⟩
    replace hM:=hM.mono hx2
    replace kx:=kx.mono hx2
    obtain ⟨G11,st1,hM1,_,hlx1,_⟩:=hM.store (x:=zz) (i:=i) (j:=k) h1L hk1 kx
    have h1L':i < (M2.set i (M2[i].set k zz)).length:=by simp;omega
    have hk2':n + k < (M2.set i (M2[i].set k zz))[i].length:=by rw [hrec2.set h1L i h1L'];omega
    obtain ⟨G12,st2,hM2',_,_,_⟩:=hM1.store (x:=-zz) (i:=i) (j:=n + k) h1L' hk2' (kn.lx hlx1)
    rw [hxi] at st1 st2
    simp [i1,i2,st1,st2,hbw,hne]
    refine Rnd.mk ?_ ?_ ?_
    ·simp [hk,gk]
    ·simp [hk,gn]
    refine ⟨by simp [hk,g2],by simp [hk,g3],by simp [hk,g6],by simp [hk,g8],by simp [hk,g9],by simp [hk,g10],by simp [hk,g77],by simp [hk,gm],by simp [hk,gi],by simp [hk,g14],by simp [hk,g15],by simp [hk,g16],by simp [hk,g89],_,hM2',by simp [hM2],(hrec2.set h1L).set h1L',fun r c hc=>?_⟩
    rw [h0d (W:=W) h1L' hk2',h0d (W:=W) h1L hk1,hTf r c hc,hzz]
    by_cases hr:r=i
    ·subst hr
     simp only [true_and,i1X]
     by_cases c1:c=n + k
     ·rw [i1n c1,i1k (by omega),i1n (by omega),c1,show n + k - n=k by omega]
     ·rw [i1k c1]
      by_cases c2:c=k
      ·rw [i1n c2,i1n (by omega),c2]
      ·rw [i1k c2]
       have p1:(c < k + 1)=(c < k):=l1g (by omega)
       have p2:(n≤c∧c < n + (k + 1))=(n≤c∧c < n + k):=l1g (by omega)
       simp only [p1,p2]
    ·rw [i1k (fun h=>hr h.1),i1k (fun h=>hr h.1),i1k hr,i1k hr]
   ·clear g2 g3 g6 g8 g9 g10 g77 gi gm hM' hrec' b3 hel hvs kr2 kv hsl ρ
    rintro ρ G gk gn ⟨g2,g3,g6,g8,g9,g10,g77,gm,gi,g14,g15,g16,g89,M2,hM,hM2,hrec2,hTf⟩
    have b3:=hM.b3
    rw [hsv1] at b3
    have bp:=hM.bp
    have b6:=hM.b6
    have b2:=hM.b2
    have hiM2:i < M2.length:=by omega
    have hj1:2 * n + i < M2[i].length:=by rw [hrec2 i hiM2];omega
    have w4:IntKind.i64.wrap (2 * (n:Int) + i)=2 * (n:Int) + i:=a0R (by omega) (by omega)
    have i1:=hM.ia (i:=i) (j:=2 * n + i) hiM2 hj1
    rw [hxi,show ((2 * n + i:Nat):Int)=2 * (n:Int) + i by omega] at i1
    obtain ⟨G2,st1,hM3,_,_,_⟩:=hM.store (x:=1) (i:=i) (j:=2 * n + i) hiM2 hj1 hM.dv
    rw [hxi] at st1
    refine a0G ?_
    simp [o0Z,g3,g6,g14,g16,b3,b6,bp,a1H bp,w1,w4,i1,st1]
    obtain ⟨M3,hM3e⟩:∃ M3,M3=M2.set i (M2[i].set (2 * n + i) 1):=⟨_,rfl⟩
    have hrec3:Rec W M3:=by rw [hM3e];exact hrec2.set hiM2
    have hML3:M3.length=i + 3:=by rw [hM3e];simp [hM2]
    have hTf3:∀ r c,c < W→Tf M3 r c=if r=i∧c=2 * n + i then 1 else Tf M2 r c:=fun r c hc=>by rw [hM3e,h0d (W:=W) hiM2 hj1]
    rw [← hM3e] at hM3
    clear b3 bp b6 b2 st1 i1
    have b3:=hM3.b3
    rw [hsv1] at b3
    have bp:=hM3.bp
    have b6:=hM3.b6
    have b2:=hM3.b2
    have kr3:=kr.mono d0r hM3.ext
    have hnl:n < q.A[i].length:=by omega
    obtain ⟨cs,ec,hcl,kc⟩:=Sls.load kr3 hnl (by omega)
    have hbq:q.A[i][n]=bbq q n i:=by unfold bbq;rw [J0H hiA hnl]
    rw [hbq] at kc
    refine l0P ?_
    simp [p0a,g2,g3,g6,g15,g16,b2,b3,b6,bp,kr3.ia hnl,ec]
    have hq1:=fun (R':a0E) (hR':q0E F R')=>d1n (fl:=max H.size G2.size) (R:=R') kc (by have:=hM3.ext.1;omega) (hzA i n) hR'
    refine a0S.mono (hq1 _ (C0m 2 rfl rfl hR)) ?_
    clear hq1
    rintro wb G4 ⟨kb,hx2⟩
    replace hM3:=hM3.mono hx2
    have hiM3:i < M3.length:=by omega
    have hj2:2 * n + m < M3[i].length:=by rw [hrec3 i hiM3];omega
    have i1:=hM3.ia (i:=i) (j:=2 * n + m) hiM3 hj2
    rw [hxi,e2] at i1
    obtain ⟨G5,st1,hM4,_,_,_⟩:=hM3.store (x:=bbq q n i) (i:=i) (j:=2 * n + m) hiM3 hj2 kb
    rw [hxi] at st1
    simp [i1,st1]
    obtain ⟨M4,hM4e⟩:∃ M4,M4=M3.set i (M3[i].set (2 * n + m) (bbq q n i)):=⟨_,rfl⟩
    have hrec4:Rec W M4:=by rw [hM4e];exact hrec3.set hiM3
    have hML4:M4.length=i + 3:=by rw [hM4e];simp [hML3]
    have hTf4:∀ r c,c < W→Tf M4 r c=if r=i then e0v n m (Tf q.A) (bbq q n) i c else Tf M' r c:=fun r c hc=>by
     rw [hM4e,h0d (W:=W) hiM3 hj2,hTf3 r c hc,hTf r c hc]
     by_cases hr:r=i
     ·subst hr
      simp only [true_and,i1X]
      unfold e0v
      by_cases c0:c=2 * n + m
      ·rw [i1n c0,i1k (by omega),i1k (by omega),i1k (by omega)]
      ·rw [i1k c0]
       by_cases c1:c=2 * n + r
       ·rw [i1n c1,i1k (by omega),i1k (by omega),i1n (by omega),i1n (by omega)]
       ·rw [i1k c1]
        by_cases c2:c < n
        ·rw [i1n c2,i1n c2]
        ·rw [i1k c2,i1k c2]
         by_cases c3:c < 2 * n
         ·rw [i1n (by omega),i1n c3]
         ·rw [i1k (by omega),i1k c3]
          by_cases c4:c < 2 * n + m
          ·rw [i1n c4,i1k (by omega)]
          ·omega
     ·rw [i1k (fun h=>hr h.1),i1k (fun h=>hr h.1),i1k hr,i1k hr]
    rw [← hM4e] at hM4
    clear b3 bp b6 b2 st1 i1 kc ec kr3 kb hx2
    have b3:=hM4.b3
    rw [hsv1] at b3
    have bp:=hM4.bp
    have b6:=hM4.b6
    have b2:=hM4.b2
    have hiM4:i < M4.length:=by omega
    have hj3:2 * n + m < M4[i].length:=by rw [hrec4 i hiM4];omega
    obtain ⟨wv,ev,fv⟩:=hM4.num (i:=i) (j:=2 * n + m) hiM4 hj3
    have i1:=hM4.ia (i:=i) (j:=2 * n + m) hiM4 hj3
    rw [hxi] at ev i1
    rw [e2] at i1
    rw [hTf4 i (2 * n + m) (by omega),i1n rfl,f0Q] at fv
    simp [p0b,g3,g14,b3,w1,w4]
    refine a0G ?_
    simp [p0c,g2,g6,g16,b2,b6,bp,i1,ev]
    refine (r0D fv (by have:=hM4.ext.1;omega) (hzA i n)).mono ?_
    rintro _ G6 ⟨rfl,hx2⟩
    replace hM4:=hM4.mono hx2
    clear b3 bp b6 b2 ev fv i1
    by_cases hneg:bbq q n i < 0
    ·have hc:c0A (bbq q n i) 0 = -1:=by unfold c0A;rw [i1n hneg]
     have bp:=hM4.bp
     have b6:=hM4.b6
     have hslx:=(hM4.rows.own i hiM4).slen
     rw [hxi,hrec4 i hiM4] at hslx
     have w5:IntKind.i64.wrap (2 * (n:Int) + m + i)=2 * (n:Int) + m + i:=a0R (by omega) (by omega)
     have hx9:(vs ++ x :: [w9,w10])[i + 1]'(by simp;omega)=w9:=by rw [i1J (by omega)];simp [hvl]
     simp [hc,p0d,g6,g14,b6,bp,w5,p0e,g16,hslx]
     refine c0W (n:=W) (fun k ρ G=>ρ 2=.pointer (some ⟨H.size,0,none⟩)∧ρ 3=.pointer (some ⟨H.size + 1,0,none⟩)∧ρ 6=.pointer (some ⟨p + 1,0,none⟩)∧ρ 8=.func (.func (F.p n0Q n0P)) #[] #[.pointer (some ⟨p + 1,0,none⟩),.pointer (some ⟨P7,0,none⟩)]∧ρ 9=w9∧ρ 10=w10∧ρ 77=sA∧ρ 78=.int .i64 (m:Int)∧ρ 79=.int .i64 (i:Int)∧ρ 16=x∧ρ 20=.int .i64 (2 * (n:Int) + m + i) ∧
      ∃ M5,rMd F H H.size (H.size + 1) (p + 1) P7 p n m sv (vs ++ x :: [w9,w10]) M5 sR sD sB vs bs G∧M5.length=i + 3∧Rec W M5∧∀ r c,c < W→Tf M5 r c=if r=i then (if c < k then -e0v n m (Tf q.A) (bbq q n) i c else e0v n m (Tf q.A) (bbq q n) i c) else if r=i + 1 then (if c < k then -t0y q n m i c - -e0v n m (Tf q.A) (bbq q n) i c else -t0y q n m i c) else Tf M' r c)
      rfl rfl (by decide) (by omega) (by simp) (by simp) ?_ ?_ ?_ ?_
     ·refine ⟨by simp [g2],by simp [g3],by simp [g6],by simp [g8],by simp [g9],by simp [g10],by simp [g77],by simp [gm],by simp [gi],by simp [g16],by simp,M4,hM4,hML4,hrec4,fun r c hc=>?_⟩
      rw [hTf4 r c hc]
      by_cases hri:r=i
      ·rw [i1n hri,i1n hri,i1k (by omega)]
      ·rw [i1k hri,i1k hri]
       by_cases hri2:r=i + 1
       ·rw [i1n hri2,i1k (by omega),hri2,hTi,i1k (by omega),i1k (by omega),show i + 1 - 1=i by omega,hT2 c hc]
       ·rw [i1k hri2]
     ·intro i ρ ρ' G h hI;simpa [h] using hI
     ·clear g2 g3 g6 g8 g9 g10 g77 gi gm g14 g15 g16 g89 b6 bp hslx hc
      rintro k ρ G hk gk gn ⟨g2,g3,g6,g8,g9,g10,g77,gm,gi,g16,g20,M5,hM,hML5,hrec5,hTf5⟩
      have hiM:i < M5.length:=by omega
      have hki:k < M5[i].length:=by rw [hrec5 i hiM];exact hk
      obtain ⟨wv,ev,fv⟩:=hM.num (i:=i) (j:=k) hiM hki
      have i1:=hM.ia (i:=i) (j:=k) hiM hki
      rw [hxi] at ev i1
      rw [hTf5 i k hk,i1n rfl,i1k (by omega)] at fv
      obtain ⟨oc,hoc⟩:∃ z,z=e0v n m (Tf q.A) (bbq q n) i k:=⟨_,rfl⟩
      rw [← hoc] at fv
      have hlo:lz oc < 67108864:=by
       rw [hoc];unfold e0v
       split
       ·exact hzA _ _
       ·split
        ·rw [f0p];exact hzA _ _
        ·split
         ·split
          ·rw [g0F];decide
          ·rw [c0K];decide
         ·exact hzA _ _
      have b2:=hM.b2
      have hsz:=hM.ext.1
      simp [p0f,gk]
      refine a0G ?_
      simp [p0g,g2,g16,gk,b2,i1,ev]
      refine (y0k fv (by omega) hlo).mono ?_
      rintro wn G2 ⟨kn,hx2⟩
      replace hM:=hM.mono hx2
      obtain ⟨G3,st1,hM6,_,_,hs3⟩:=hM.store (x:=-oc) (i:=i) (j:=k) hiM hki kn
      rw [hxi] at st1
      simp [i1,st1]
      obtain ⟨M6,hM6e⟩:∃ M6,M6=M5.set i (M5[i].set k (-oc)):=⟨_,rfl⟩
      have hrec6:Rec W M6:=by rw [hM6e];exact hrec5.set hiM
      have hML6:M6.length=i + 3:=by rw [hM6e];simp [hML5]
      have hTf6:∀ r c,Tf M6 r c=if r=i∧c=k then -oc else Tf M5 r c:=fun r c=>by rw [hM6e,h0d (W:=W) hiM hki]
      rw [← hM6e] at hM6
      have hiM6:i < M6.length:=by omega
      have hi1M6:i + 1 < M6.length:=by omega
      have hki6:k < M6[i].length:=by rw [hrec6 i hiM6];exact hk
      have hk16:k < M6[i + 1].length:=by rw [hrec6 (i + 1) hi1M6];exact hk
      obtain ⟨wx,ex,fx⟩:=hM6.num (i:=i) (j:=k) hiM6 hki6
      obtain ⟨wl,el,fl9⟩:=hM6.num (i:=i + 1) (j:=k) hi1M6 hk16
      have i2:=hM6.ia (i:=i + 1) (j:=k) hi1M6 hk16
      have i3:=hM6.ia (i:=i) (j:=k) hiM6 hki6
      rw [hxi] at ex i3
      rw [hx9] at el i2
      rw [hTf6 i k,i1n ⟨rfl,rfl⟩] at fx
      rw [hTf6 (i + 1) k,i1k (by omega),hTf5 (i + 1) k hk,i1k (by omega),i1n rfl,i1k (by omega)] at fl9
      have b6:=hM6.b6
      have hsz:=hM6.ext.1
      refine l0P ?_
      simp [p0h,g6,g9,g16,b6,i2,i3,ex,el]
      have hq1:=fun (R':a0E) (hR':q0E F R')=>X0K (fl:=H.size) (R:=R') hsz hM6.bp fl9 fx (by rw [f0p];exact hzL i k (by omega) (by omega)) (by rw [f0p];exact hlo) hR'
      refine a0S.mono (hq1 _ (C0m 2 rfl rfl hR)) ?_
      clear hq1
      rintro ws G4 ⟨kw,hx4⟩
      replace hM6:=hM6.mono hx4
      obtain ⟨G5,st2,hM7,_,_,_⟩:=hM6.store (x:=-t0y q n m i k - -oc) (i:=i + 1) (j:=k) hi1M6 hk16 kw
      rw [hx9] at st2
      simp [i2,st2]
      refine Rnd.mk ?_ ?_ ?_
      ·simp [gk]
      ·simp [gn]
      refine ⟨by simp [g2],by simp [g3],by simp [g6],by simp [g8],by simp [g9],by simp [g10],by simp [g77],by simp [gm],by simp [gi],by simp [g16],by simp [g20],_,hM7,by simp [hML6],hrec6.set hi1M6,fun r c hc=>?_⟩
      rw [h0d (W:=W) hi1M6 hk16,hTf6 r c,hTf5 r c hc,hoc]
      have p1:c ≠ k→(c < k + 1)=(c < k):=fun h=>l1g (by omega)
      by_cases hri:r=i
      ·subst hri
       rw [i1k (by omega)]
       by_cases hck:c=k
       ·subst hck;simp
       ·simp [hck,p1 hck]
      ·by_cases hri2:r=i + 1
       ·subst hri2
        by_cases hck:c=k
        ·subst hck;simp
        ·simp [hck,p1 hck]
       ·simp [hri,hri2]
     ·clear g2 g3 g6 g8 g9 g10 g77 gi gm g14 g15 g16 g89 b6 bp hslx hc
      rintro ρ G gk gn ⟨g2,g3,g6,g8,g9,g10,g77,gm,gi,g16,g20,M5,hM5,hML5,hrec5,hTf5'⟩
      have hbz:((l0g n m (bbq q n) i:Nat):Int)=2 * (n:Int) + m + i:=by unfold l0g;rw [i1n hneg];omega
      have hTf5:∀ r c,c < W→Tf M5 r c=if r=i then sg (bbq q n) i * e0v n m (Tf q.A) (bbq q n) i c else if r=i + 1 then -t0y q n m (i + 1) c else Tf M' r c:=fun r c hc=>by
       rw [hTf5' r c hc]
       by_cases hri:r=i
       ·rw [i1n hri,i1n hri,i1n hc];unfold sg;rw [i1n hneg];omega
       ·rw [i1k hri,i1k hri]
        by_cases hri2:r=i + 1
        ·rw [i1n hri2,i1n hri2,i1n hc]
         have:t0y q n m (i + 1) c=t0y q n m i c + -e0v n m (Tf q.A) (bbq q n) i c:=by unfold t0y;rw [sm,i1n hneg];unfold sg;rw [i1n hneg];omega
         rw [this];omega
        ·rw [i1k hri2,i1k hri2]
      have hx4:=(hM5.rows.own i (by omega)).cells
      rw [hxi] at hx4
      obtain ⟨sR',G8,sB',G9,a1,a2,q1,p1,q2,p2,c1,c2,c3,c4,hbR,hbB,hset⟩:=hM5.push2 (w:=x) hx4.2 (b:=l0g n m (bbq q n) i) (by omega) (by omega)
      have b6:=hM5.b6
      have bp:=hM5.bp
      refine c0J ?_
      have hpl8:=a0i p2
      rw [hbz] at a2
      simp [k0v,g6,g16,g20,b6,bp,hx4.1,a1,q1,p1,a2,q2,p2,c1,c2,c3,c4,hpH,hpl8]
      generalize hS1:Array.setIfInBounds G9 p _=G10
      have hM6:=hset G10 (by rw [← hS1])
      clear hset
      refine ⟨⟨fun h=>(hbR _ h).1 rfl,fun x h=>(hbR x h).1,fun x h=>(hbR x h).2,fun h=>hbB _ h rfl⟩,?_⟩
      refine Rnd.mk ?_ ?_ ?_
      ·simp [gi]
      ·simp [gm]
      refine ⟨by simp [g2],by simp [g3],by simp [g6],by simp [g8],by simp [g9],by simp [g10],by simp [g77],vs ++ [x],bs ++ [l0g n m (bbq q n) i],M5,sR',sB',by simpa using hM6,by simp [hvl],by simp [hbl],hML5,hrec5,fun r c hr hc=>?_,fun c hc=>?_,fun c hc=>?_,fun r hr=>?_⟩
      ·rw [hTf5 r c hc]
       by_cases hri:r=i
       ·subst hri;rw [i1n rfl]
       ·rw [i1k hri,i1k (by omega),hTi,i1n (by omega),hT1 r c (by omega) hc]
      ·rw [hTf5 (i + 1) c hc,i1k (by omega),i1n rfl]
      ·rw [hTf5 (i + 2) c hc,i1k (by omega),i1k (by omega),hTi,i1k (by omega),i1k (by omega)]
       exact hT3 c hc
      ·unfold bf
       rw [i1h]
       by_cases hri:r=i
       ·subst hri
        rw [j1c (by omega),show r - bs.length=0 by omega];rfl
       ·rw [i1V (by omega),← i1h]
        exact hT4 r (by omega)
    ·have hc:¬ c0A (bbq q n i) 0 < 0:=by unfold c0A;rw [i1k hneg];split <;> omega
     have hbz:((l0g n m (bbq q n) i:Nat):Int)=2 * (n:Int) + i:=by unfold l0g;rw [i1k hneg];omega
     obtain ⟨M5,hM5e⟩:∃ M5,M5=M4:=⟨_,rfl⟩
     have hM5:=hM4
     have hML5:=hML4
     have hrec5:=hrec4
     have hTf5:∀ r c,c < W→Tf M4 r c=if r=i then sg (bbq q n) i * e0v n m (Tf q.A) (bbq q n) i c else if r=i + 1 then -t0y q n m (i + 1) c else Tf M' r c:=fun r c hc=>by
      rw [hTf4 r c hc]
      by_cases hri:r=i
      ·rw [i1n hri,i1n hri];unfold sg;rw [i1k hneg,Int.one_mul]
      ·rw [i1k hri,i1k hri]
       by_cases hri2:r=i + 1
       ·rw [i1n hri2,hri2,hTi,i1k (by omega),i1k (by omega),show i + 1 - 1=i by omega,hT2 c hc]
        have:t0y q n m (i + 1) c=t0y q n m i c:=by unfold t0y;rw [sm,i1k hneg,j1Q]
        rw [this]
       ·rw [i1k hri2]
     rw [← hM5e] at hM5 hML5 hrec5 hTf5
     simp [hc]
     have hx4:=(hM5.rows.own i (by omega)).cells
     rw [hxi] at hx4
     obtain ⟨sR',G8,sB',G9,a1,a2,q1,p1,q2,p2,c1,c2,c3,c4,hbR,hbB,hset⟩:=hM5.push2 (w:=x) hx4.2 (b:=l0g n m (bbq q n) i) (by omega) (by omega)
     have b6:=hM5.b6
     have bp:=hM5.bp
     refine c0J ?_
     have hpl8:=a0i p2
     rw [hbz] at a2
     simp [k0v,g6,g16,b6,bp,hx4.1,a1,q1,p1,a2,q2,p2,c1,c2,c3,c4,hpH,hpl8]
     generalize hS1:Array.setIfInBounds G9 p _=G10
     have hM6:=hset G10 (by rw [← hS1])
     clear hset
     refine ⟨⟨fun h=>(hbR _ h).1 rfl,fun x h=>(hbR x h).1,fun x h=>(hbR x h).2,fun h=>hbB _ h rfl⟩,?_⟩
     refine Rnd.mk ?_ ?_ ?_
     ·simp [gi]
     ·simp [gm]
     refine ⟨by simp [g2],by simp [g3],by simp [g6],by simp [g8],by simp [g9],by simp [g10],by simp [g77],vs ++ [x],bs ++ [l0g n m (bbq q n) i],M5,sR',sB',by simpa using hM6,by simp [hvl],by simp [hbl],hML5,hrec5,fun r c hr hc=>?_,fun c hc=>?_,fun c hc=>?_,fun r hr=>?_⟩
     ·rw [hTf5 r c hc]
      by_cases hri:r=i
      ·subst hri;rw [i1n rfl]
      ·rw [i1k hri,i1k (by omega),hTi,i1n (by omega),hT1 r c (by omega) hc]
     ·rw [hTf5 (i + 1) c hc,i1k (by omega),i1n rfl]
     ·rw [hTf5 (i + 2) c hc,i1k (by omega),i1k (by omega),hTi,i1k (by omega),i1k (by omega)]
      exact hT3 c hc
     ·unfold bf
      rw [i1h]
      by_cases hri:r=i
      ·subst hri
       rw [j1c (by omega),show r - bs.length=0 by omega];rfl
      ·rw [i1V (by omega),← i1h]
       exact hT4 r (by omega)
  ·clear g2 g3 g5 g6 g8 g9 g10 g50 hM hM2 hrec hTf gk gn ρ M G
   rintro ρ G gi gm ⟨g2,g3,g6,g8,g9,g10,g77,vs,bs,M,sR,sB,hM,hvl,hbl,hML,hrec,hT1,hT2,hT3,hT4⟩
   have b6:=hM.b6
   have bp:=hM.bp
   have c9:=(hM.rows.own m (by omega)).cells
   have c10:=(hM.rows.own (m + 1) (by omega)).cells
   have r9:(vs ++ [w9,w10])[m]'(by simp;omega)=w9:=by rw [i1J (by omega)];simp [hvl]
   have r10:(vs ++ [w9,w10])[m + 1]'(by simp;omega)=w10:=by rw [i1J (by omega)];simp [hvl]
   rw [r9] at c9
   rw [r10] at c10
   obtain ⟨sR',G2,a1,o1,x1,y1⟩:=B0h hM.heads c9.2 c10.2 (by omega) (bytes:=24) (by omega) hM.ext.1
   have lx1:∀ {e:Nat},F.S ≠ e→LxT e G G2:=fun hne=>hM.heads.lxT hne x1
   have p1:=lx1 (by cases F <;> decide) _ _ _ bp
   have q1:=lx1 (by cases F <;> decide) _ _ _ b6
   have nR6:=hM.heads.ne b6 (by cases F <;> decide)
   have hR':=hM.heads.blkOf
   obtain ⟨cR,pR⟩:=o1.cells
   have hpl:=a0i p1
   refine c0J ?_
   simp [p0i,g6,g9,g10,b6,bp,c9.1,c10.1,a1,q1,p1,cR,pR,hpH,hpl]
   have hnR:¬ (p + 1) ∈ blkW sR:=by
    rcases hR' with h0 | ⟨c,h0,h1⟩
    ·rw [h0];simp
    ·rw [h0,k1a]
     intro h5;exact nR6 (by rw [h1,h5])
   generalize hS:Array.setIfInBounds G2 p _=G3
   have lx3:∀ {e:Nat},F.T ≠ e→LxT e G2 G3:=fun hne=>b0c hS p1 hne
   have q3:=lx3 (by cases F <;> decide) _ _ _ q1
   have hlx:Lx G G3:=fun b ro cs hb=>lx3 (by cases F <;> decide) b ro cs (lx1 (by cases F <;> decide) b ro cs hb)
   refine ⟨hnR,?_⟩
   simp [p0j,g6,q3]
   refine fun _=>⟨p,M,bs,sR',sD,sB,vs ++ [w9,w10],rfl,⟨?_,hpH,(hM.d.lx hlx),o1.lxm (Q':=PV) (lx3 (by cases F <;> decide)) (fun _ _ h=>h),⟨hM.rows.len,fun r hr=>((hM.rows.own r hr).lxm (Q':=F.P) (lx1 (by cases F <;> decide)) (fun cs x hx=>V0H.lx _ _ _ _ (lx1 (by cases F <;> decide)) hx)).lxm (lx3 (by cases F <;> decide)) (fun cs x hx=>V0H.lx _ _ _ _ (lx3 (by cases F <;> decide)) hx),hM.rows.apart⟩,(hM.basis.lxm (Q':=PK) (lx1 (by cases F <;> decide)) (fun _ _ h=>h)).lxm (lx3 (by cases F <;> decide)) (fun _ _ h=>h)⟩,⟨hML,fun r hr=>by rw [hrec r hr,hW],hbl⟩,fun r c hr hc=>?_,fun r hr=>hT4 r hr⟩
   ·rw [a0v hS p1]
   ·by_cases h1:r < m
    ·rw [hT1 r c h1 (by omega),e0P h1]
    ·by_cases h2:r=m
     ·subst h2;rw [hT2 c (by omega),h0i];rfl
     ·have:r=m + 1:=by omega
      subst this;rw [hT3 c (by omega),e0V]
end
section
open Go
set_option maxHeartbeats 4000000
variable {fl:Nat} {H G:a0e} {R:a0E} {v w:Value} {a b:b0h}
theorem l0n {x:Rat} (h:b0P H v (a0f x)) (hf:fl≤H.size) (hn:szR x < 67108864) :
  a0S env fl A0R [v] H (fun r H'=>b0P H' r (a0f (-x))∧Ext H H') R:=by
 have k0:=h
 obtain ⟨s,u,rfl,hs,hu⟩:=h
 refine a0g e1X hf (h:=?_)
 intro ρ h0
 simp [L0Z,G0b,h0]
 generalize hG:Array.push (Array.push H _) _=G
 have hx2:Ext H G:=by rw [← hG];exact (Ext.refl H).push.push
 have b0:a0e.blk G H.size=.row false a0b [.bool (a0f x).1.1,s,.bool (a0f x).2.1,u]:=by rw [← hG];simp
 have b1:a0e.blk G (H.size + 1)=.row false a0b [.bool false,.slice none 0 0,.bool false,.slice none 0 0]:=by rw [← hG];simp
 have hx:=Ext.refl H
 clear hG
 replace hx:=hx.trans hx2
 have k1:=hs.mono hx
 have k2:=hu.mono hx
 have ln:(a0k x.num).2.length=lz x.num:=rfl
 have l1:=e0I x
 refine a0G ?_
 simp [G0c,b0]
 refine (e0C (i:=a0k x.num) ⟨s,rfl,k1⟩ (by have:=hx.1;omega) (by omega)).mono ?_
 rintro _ G2 ⟨⟨s1,rfl,k3⟩,hx2⟩
 replace b0:=hx2.blk b0;replace b1:=hx2.blk b1;replace hx:=hx.trans hx2;replace k2:=k2.mono hx2
 rw [a0j] at k3 ⊢
 have hsz:=hx.1
 have hz:=a0i b1
 simp [b0,b1,k2.cells,k2.plain,k3.cells,k3.plain,hsz,hz]
 have e:a0f (-x)=(a0k (-x.num),a0k x.den):=by unfold a0f;rw [Rat.neg_num,Rat.neg_den]
 rw [e]
 exact fun _=>⟨s1,u,rfl,k3.setT b1 (by decide),k2.setT b1 (by decide)⟩
theorem l0a (h:b0P H v a) (k:b0P H w b) (hf:fl≤H.size) (hn:d0b a < 67108864) (hm:d0b b < 67108864) :
  a0S env fl y0F [v,w] H (fun r H'=>b0P H' r (a0f (b0u a - b0u b))∧Ext H H') R:=by
 have k0:=h
 have k1:=k
 obtain ⟨s,u,rfl,hs,hu⟩:=h
 obtain ⟨s',u',rfl,hs',hu'⟩:=k
 refine a0g e1O hf (h:=?_)
 intro ρ h0
 simp [L0Q,F0c,h0]
 generalize hG:Array.push (Array.push (Array.push H _) _) _=G
 have hx2:Ext H G:=by rw [← hG];exact (Ext.refl H).push.push.push
 have b0:a0e.blk G H.size=.row false a0b [.bool a.1.1,s,.bool a.2.1,u]:=by rw [← hG];simp
 have b1:a0e.blk G (H.size + 1)=.row false a0b [.bool b.1.1,s',.bool b.2.1,u']:=by rw [← hG];simp
 have b2:a0e.blk G (H.size + 2)=.row false a0b [.bool false,.slice none 0 0,.bool false,.slice none 0 0]:=by rw [← hG];simp
 have hx:=Ext.refl H
 clear hG
 replace hx:=hx.trans hx2;replace k0:=k0.mono hx2;replace k1:=k1.mono hx2
 have sb:=c0y k1.ok.1 k1.ok.2
 refine a0G ?_
 simp [F0d,b0,b1]
 refine (c0i k1 (by have:=hx.1;omega) (by omega)).mono ?_
 rintro y G2 ⟨k2,hx2⟩
 replace b2:=hx2.blk b2;replace hx:=hx.trans hx2;replace k0:=k0.mono hx2
 simp
 refine (l0n k2 (by have:=hx.1;omega) (by omega)).mono ?_
 rintro z G3 ⟨k3,hx2⟩
 replace b2:=hx2.blk b2;replace hx:=hx.trans hx2;replace k0:=k0.mono hx2
 have sn:=J0q (b0u b)
 simp
 refine (b0E k0 k3 hx.1 hn (by rw [a0J];omega)).mono ?_
 rintro _ G4 ⟨⟨s1,s2,rfl,k4,k5⟩,hx2⟩
 replace b2:=hx2.blk b2;replace hx:=hx.trans hx2
 rw [a0w,← Rat.sub_eq_add_neg] at k4 k5 ⊢
 have hz:=a0i b2
 simp [b2,k4.cells,k4.plain,k5.cells,k5.plain,hz]
 exact fun _=>⟨s1,s2,rfl,k4.setT b2 (by decide),k5.setT b2 (by decide)⟩
theorem t0i (h:b0P H v a) (k:b0P H w b) (hf:fl≤H.size) (hn:d0b a < 67108864) (hm:d0b b < 67108864) (hb0:b0u b ≠ 0) :
  a0S env fl A0M [v,w] H (fun r H'=>(∃ q,r=.tuple #[q,.int .i64 0]∧b0P H' q (a0f (b0u a / b0u b)))∧Ext H H') R:=by
 have k0:=h
 have k1:=k
 obtain ⟨s,u,rfl,hs,hu⟩:=h
 obtain ⟨s',u',rfl,hs',hu'⟩:=k
 refine a0g e1M hf (h:=?_)
 intro ρ h0
 simp [L0O,E0W,h0]
 generalize hG:Array.push (Array.push (Array.push H _) _) _=G
 have hx2:Ext H G:=by rw [← hG];exact (Ext.refl H).push.push.push
 have b0:a0e.blk G H.size=.row false a0b [.bool a.1.1,s,.bool a.2.1,u]:=by rw [← hG];simp
 have b1:a0e.blk G (H.size + 1)=.row false a0b [.bool b.1.1,s',.bool b.2.1,u']:=by rw [← hG];simp
 have b2:a0e.blk G (H.size + 2)=.row false a0b [.bool false,.slice none 0 0,.bool false,.slice none 0 0]:=by rw [← hG];simp
 have hx:=Ext.refl H
 clear hG
 replace hx:=hx.trans hx2;replace k0:=k0.mono hx2;replace k1:=k1.mono hx2
 have sa:=c0y k0.ok.1 k0.ok.2
 have sb:=c0y k1.ok.1 k1.ok.2
 refine a0G ?_
 simp [E0X,b0]
 refine (c0i k0 (by have:=hx.1;omega) (by omega)).mono ?_
 rintro _ G2 ⟨⟨s1,s2,rfl,k2,k3⟩,hx2⟩
 replace b0:=hx2.blk b0;replace b1:=hx2.blk b1;replace b2:=hx2.blk b2;replace hx:=hx.trans hx2;replace k0:=k0.mono hx2;replace k1:=k1.mono hx2
 simp [b1]
 refine (c0i k1 hx.1 (by omega)).mono ?_
 rintro _ G2 ⟨⟨s3,s4,rfl,k4,k5⟩,hx2⟩
 replace b0:=hx2.blk b0;replace b1:=hx2.blk b1;replace b2:=hx2.blk b2;replace hx:=hx.trans hx2;replace k0:=k0.mono hx2;replace k1:=k1.mono hx2;replace k2:=k2.mono hx2;replace k3:=k3.mono hx2
 clear k0 k1
 have hz0:=a0i b0
 simp [b0,k2.cells,k2.plain,k3.cells,k3.plain,hz0]
 generalize hS:Array.setIfInBounds _ _ _=G3
 have hsz:=hx.1;replace k2:=k2.setS hS b0 (by decide);replace k3:=k3.setS hS b0 (by decide);replace k4:=k4.setS hS b0 (by decide);replace k5:=k5.setS hS b0 (by decide);replace b1:=a0p hS b1 (by omega);replace b2:=a0p hS b2 (by omega);replace hx:=a0Y hS hx (by omega);replace b0:=a0v hS b0;clear hS hsz
 have hz0:=a0i b1
 simp [b1,k4.cells,k4.plain,k5.cells,k5.plain,hz0]
 generalize hS:Array.setIfInBounds _ _ _=G3
 have hsz:=hx.1;replace k2:=k2.setS hS b1 (by decide);replace k3:=k3.setS hS b1 (by decide);replace k4:=k4.setS hS b1 (by decide);replace k5:=k5.setS hS b1 (by decide);replace b0:=a0p hS b0 (by omega);replace b2:=a0p hS b2 (by omega);replace hx:=a0Y hS hx (by omega);replace b1:=a0v hS b1;clear hS hsz
 obtain ⟨x,hxv⟩:∃ x,x=b0u a:=⟨_,rfl⟩
 obtain ⟨y,hyv⟩:∃ y,y=b0u b:=⟨_,rfl⟩
 rw [← hxv] at sa k2 k3 b0 ⊢
 rw [← hyv] at sb k4 k5 b1 hb0 ⊢
 have k0:b0q _ (.agg #[.bool (a0f x).1.1,s1]) (a0k x.num):=⟨s1,rfl,k2⟩
 have k1:b0q _ (.agg #[.bool (a0f x).2.1,s2]) (a0k x.den):=⟨s2,rfl,k3⟩
 have k6:b0q _ (.agg #[.bool (a0f y).1.1,s3]) (a0k y.num):=⟨s3,rfl,k4⟩
 have k7:b0q _ (.agg #[.bool (a0f y).2.1,s4]) (a0k y.den):=⟨s4,rfl,k5⟩
 have l1:=e0I x
 have l2:=f0F x
 have l3:=e0I y
 have l4:=f0F y
 clear hs hu hs' hu' k2 k3 k4 k5
 refine a0G ?_
 simp [E0Y,b0,b1]
 refine (b0B k0 k7 (by have:=hx.1;omega) (by rw [a0n];omega) (by rw [a0n];omega)).mono ?_
 rintro _ G4 ⟨k2,hx2⟩
 replace b0:=hx2.blk b0;replace b1:=hx2.blk b1;replace b2:=hx2.blk b2;replace hx:=hx.trans hx2;replace k1:=k1.mono hx2;replace k6:=k6.mono hx2;replace k7:=k7.mono hx2
 simp [b0,b1]
 refine (b0B k1 k6 hx.1 (by rw [a0n];omega) (by rw [a0n];omega)).mono ?_
 rintro _ G5 ⟨k3,hx2⟩
 replace b2:=hx2.blk b2;replace hx:=hx.trans hx2;replace k2:=k2.mono hx2;replace k6:=k6.mono hx2;replace k7:=k7.mono hx2
 rw [a0j,a0j] at k2 k3
 have q1:=c0V x.num y.den
 have q2:=c0V x.den y.num
 have hne:(x.den:Int) * y.num ≠ 0:=Int.mul_ne_zero (by have:=x.den_nz;omega) (fun h=>hb0 (Rat.num_eq_zero.1 h))
 rw [o0w]
 generalize x.num * y.den=p at *
 generalize (x.den:Int) * y.num=q at *
 simp
 have hq:=fun R'=>d0S (fl:=H.size) (R:=R') k2 k3 hx.1 (by rw [a0n];omega) (by rw [a0n];omega) (by rw [a0j];exact hne)
 simp only [a0j] at hq
 refine (hq _).mono ?_
 rintro _ G6 ⟨⟨_,rfl,s8,s9,rfl,k6,k7⟩,hx2⟩
 replace b2:=hx2.blk b2;replace hx:=hx.trans hx2
 have hz:=a0i b2
 simp [b2,k6.cells,k6.plain,k7.cells,k7.plain,hz]
 exact fun _=>⟨s8,s9,rfl,k6.setT b2 (by decide),k7.setT b2 (by decide)⟩
end
section
open Go SX
set_option maxHeartbeats 4000000
variable {fl:Nat} {H G:a0e} {R:a0E} {v w u:Value} {F:RK}
theorem C0e {a b D:Int} (hD:D ≠ 0):Rat.divInt a D + Rat.divInt b D=Rat.divInt (a + b) D:=by
 rw [Rat.divInt_add_divInt _ _ hD hD,← Int.add_mul,Rat.divInt_mul_right hD]
theorem Z0R {b D:Int}:-Rat.divInt b D=Rat.divInt (-b) D:=by
 first
 | rw [Rat.neg_divInt]
 | rw [← Rat.neg_divInt]
theorem N0k {a b D:Int} (hD:D ≠ 0):Rat.divInt a D - Rat.divInt b D=Rat.divInt (a - b) D:=by
 rw [Rat.sub_eq_add_neg,Z0R,C0e hD,k1n]
theorem V0G {D:Int}:Rat.divInt 0 D=0:=Rat.zero_divInt D
def ptq (n:Nat) (base:Nat→Nat) (Fv:Nat→Int) (q k:Nat):Int:=sm (fun i=>if base i=k then Fv i else if base i=n + k then -Fv i else 0) q
theorem o0E {n:Nat} {base:Nat→Nat} {Fv:Nat→Int} {K k:Nat}:∀ {q:Nat},(∀ i,i < q→lz (Fv i)≤K)→lz (ptq n base Fv q k)≤K + q
 | 0,_=>by unfold ptq;rw [sm,c0K];omega
 | q + 1,h=>by
  have h1:=o0E (n:=n) (base:=base) (k:=k) (q:=q) (fun i hi=>h i (by omega))
  have h2:=h q (by omega)
  have h3:∀ z,lz z≤K→lz (ptq n base Fv q k + z)≤K + (q + 1):=fun z hz=>by
   have:=s0s (ptq n base Fv q k) z;omega
  show lz (ptq n base Fv q k + if base q=k then Fv q else if base q=n + k then -Fv q else 0)≤_
  split
  ·exact h3 _ h2
  ·split
   ·exact h3 _ (by rw [f0p];exact h2)
   ·exact h3 _ (by rw [c0K];omega)
theorem e0b {n j:Nat} {f g:Nat→b0h} (h:∀ k,k < n→k ≠ j→g k=f k):((List.range n).map f).set j (g j)=(List.range n).map g:=by
 apply k1Y
 ·simp
 ·intro k h1 h2
  rw [List.getElem_set]
  simp only [j1b,j1U]
  split
  ·rename_i h3;rw [h3]
  ·rename_i h3;rw [h k (by simpa using h2) (fun h4=>h3 h4.symm)]
theorem t0C {f0 p n m:Nat} {L:List (List Int)} {k D x:Int} {bs:List Nat} {sR sD sB vx:Value} {vs:List Value} (h:e0N F f0 H p n m L D bs k sR sD sB vs) (hf:fl≤H.size) (hx:rV F H vx x) (lx:lz x < 67108864) (lD:lz D < 67108864) (hD0:D ≠ 0) :
  a0S env fl (F.p s0c s0b) [.pointer (some ⟨p,0,none⟩),vx] H (fun r H'=>b0P H' r (a0f (Rat.divInt x D))∧Ext H H') R:=by
 cases F
 ·obtain ⟨rfl,hx⟩:=hx
  exact n0W hf h.blk hx h.d hD0
 ·exact n0L hf h.blk h.d hx lx lD hD0
theorem o0J {f0 p n m:Nat} {L:List (List Int)} {k D:Int} {bs:List Nat} {sR sD sB:Value} {vs:List Value} {g:FuncId} {caps:Array Value} {Fv:Nat→Int} (h:e0N F f0 H p n m L D bs k sR sD sB vs) (hf:fl≤H.size) (hS:ShT n m L bs) (hlD:lz D < 60000000) (hD0:D ≠ 0) (hF:∀ i,i < m→lz (Fv i)≤59999999) (hm:m < 1048576) (hn:n < 1048576)
  (hg:∀ (fl i:Nat) (G:a0e) (R':a0E),Ext H G→fl≤G.size→i < m→a0S env fl g (.int .i64 (i:Int) :: caps.toList) G (fun r G'=>rV F G' r (Fv i)∧Ext G G') R') :
  a0S env fl (l0w F) [.pointer (some ⟨p,0,none⟩),.func (.func g) #[] caps] H (fun r H'=>b0d PR H.size H' a0b 4 r ((List.range n).map fun k=>a0f (Rat.divInt (ptq n (bf bs) Fv m k) D))∧Ext H H') R:=by
 refine a0g K0l hf (h:=?_)
 intro ρ h0
 have hbk:=h.blk
 have hmk:=g0i (bytes:=64) (k:=.i64) (k':=.i64) (l:=n) (c:=n) (i1j _) (by omega) (by omega)
 simp [h0Y,p0k,p0l,h0,hbk,hmk]
 generalize hN:Array.push H _=G
 obtain ⟨hx,b0⟩:=g0R hN
 clear hN
 obtain ⟨hr1,hr2⟩:=r0i G n
 have ho:b0d PR H.size G a0b 4 (.slice (some ⟨H.size,0,none⟩) n n) ((List.range n).map fun k=>if k < 0 then a0f 0 else c0o):=by
  refine ⟨_,by simpa using Own.mk (n:=n) (sz:=4) (cap:=n) b0 hr1 (i1j _),fun k hk=>?_⟩
  simp only [j1b,j1U]
  rw [i1k (by omega)]
  exact hr2 k (by simpa using hk)
 have hsl:=ho.slen
 simp only [j1A,List.length_range] at hsl
 clear b0 hr1 hr2 hmk hbk
 simp [p0m,hsl]
 refine c0W (n:=n) (fun k ρ G=>ρ 0=.pointer (some ⟨p,0,none⟩)∧ρ 1=.func (.func g) #[] caps∧Ext H G∧b0d PR H.size G a0b 4 (ρ 5) ((List.range n).map fun j=>if j < k then a0f 0 else c0o)) rfl rfl (by decide) (by omega) (by simp) (by simp) ?_ ?_ ?_ ?_
 ·exact ⟨by simp [h0],by simp [h0],hx,by simpa using ho⟩
 ·intro i ρ ρ' G h hI;simpa [h] using hI
 ·clear h0 ρ hx ho hsl
  rintro k ρ G hk gk gn ⟨g0,g1,hx,ho⟩
  obtain ⟨s,g5⟩:∃ s,ρ 5=s:=⟨_,rfl⟩
  rw [g5] at ho
  simp [p0n,p0o,gk,g5]
  refine (c0h (n:=0) hx.1 (by omega) (by omega)).mono ?_
  rintro _ G2 ⟨⟨s1,s2,rfl,k1,k2⟩,hx2⟩
  replace ho:=ho.mono a0Q hx2
  replace hx:=hx.trans hx2
  have hkl:k < ((List.range n).map fun j=>if j < k then a0f 0 else c0o).length:=by simpa using hk
  have hz0:((0:Int):Rat)=0:=rfl
  rw [hz0] at k1 k2
  obtain ⟨G3,hst,ho2,hxb⟩:=b0d.store (x:=a0f 0) (w:=.agg #[.bool (a0f 0).1.1,s1,.bool (a0f 0).2.1,s2]) ho hkl (by decide) rfl (by simp [k1.plain,k2.plain]) (fun G' _ hl=>⟨s1,s2,rfl,k1.lx hl,k2.lx hl⟩) (by decide) (fun G' cs y _ hl h=>b0P.lx h hl)
  have ia:=ho.sls.ia (k:=.i64) hkl
  simp [gk,g5,ia,hst]
  have hset:=e0b (n:=n) (j:=k) (f:=fun j=>if j < k then a0f 0 else c0o) (g:=fun j=>if j < k + 1 then a0f 0 else c0o) (fun j _ hj=>by
   have:(j < k + 1)=(j < k):=l1g (by omega)
   simp only [this])
  simp only [i1n (Nat.lt_succ_self k)] at hset
  rw [hset] at ho2
  exact Rnd.mk (by simp [gk]) (by simp [gn]) ⟨by simp [g0],by simp [g1],l0t hx hxb (fun b hb=>(ho.ge hb).1),by simpa [g5] using ho2⟩
 ·clear h0 ρ hx ho hsl
  rintro ρ G gk gn ⟨g0,g1,hx,ho⟩
  have hG:=h.mono hx
  have hbk:=hG.blk
  have hslB:=hG.basis.sls.slen
  rw [hS.base] at hslB
  simp [p0p,g0,hbk,hslB]
  have hst0:((List.range n).map fun j=>if j < n then a0f 0 else c0o)=(List.range n).map fun k=>a0f (Rat.divInt (ptq n (bf bs) Fv 0 k) D):=by
   apply j1O
   intro j hj
   rw [i1n (by simpa using hj)]
   unfold ptq
   rw [sm,V0G]
  rw [hst0] at ho
  refine c0W (n:=m) (fun q ρ G=>ρ 0=.pointer (some ⟨p,0,none⟩)∧ρ 1=.func (.func g) #[] caps∧ρ 27=sB∧Ext H G∧b0d PR H.size G a0b 4 (ρ 5) ((List.range n).map fun k=>a0f (Rat.divInt (ptq n (bf bs) Fv q k) D))) rfl rfl (by decide) (by omega) (by simp) (by simp) ?_ ?_ ?_ ?_
  ·exact ⟨by simp [g0],by simp [g1],by simp,hx,by simpa using ho⟩
  ·intro i ρ ρ' G h hI;simpa [h] using hI
  ·clear hx ho gk gn g0 g1 hst0 hG hbk hslB ρ G
   rintro q ρ G hq gq gm ⟨g0,g1,g27,hx,ho⟩
   obtain ⟨s,g5⟩:∃ s,ρ 5=s:=⟨_,rfl⟩
   rw [g5] at ho
   have hG:=h.mono hx
   have hbk:=hG.blk
   obtain ⟨lb,ib⟩:=hG.base (show q < bs.length by rw [hS.base];exact hq)
   obtain ⟨j,hj⟩:∃ j,j=bf bs q:=⟨_,rfl⟩
   rw [← hj] at lb
   have w2:IntKind.i64.wrap (2 * (n:Int))=2 * (n:Int):=a0R (by omega) (by omega)
   simp [p0q,gq,g27,ib,lb,m0L,g0,hbk]
   have hsucc:∀ k,ptq n (bf bs) Fv (q + 1) k=ptq n (bf bs) Fv q k + if j=k then Fv q else if j=n + k then -Fv q else 0:=fun k=>by
    show ptq n (bf bs) Fv q k + _=_;rw [hj]
   by_cases hjn:j < n
   ·simp [hjn,show ¬ n≤j by omega]
    have hjl:j < ((List.range n).map fun k=>a0f (Rat.divInt (ptq n (bf bs) Fv q k) D)).length:=by simpa using hjn
    have ia:=ho.sls.ia (k:=.i64) hjl
    obtain ⟨wx,ex,kx⟩:=b0v.load ho.sls hjl
    simp only [j1b,j1U] at kx
    refine a0G ?_
    simp [m0M,g0,g1,g5,gq,ia,ex]
    refine (hg _ q G _ hx (by have:=hx.1;omega) hq).mono ?_
    rintro wf G2 ⟨kf,hx2⟩
    have hG2:=hG.mono hx2
    replace kx:=kx.mono hx2
    replace ho:=ho.mono a0Q hx2
    replace hx:=hx.trans hx2
    simp [g0]
    refine (t0C hG2 (by have:=hx.1;omega) kf (by have:=hF q hq;omega) (by omega) hD0).mono ?_
    rintro wv G3 ⟨kv,hx2⟩
    replace kx:=kx.mono hx2
    replace ho:=ho.mono a0Q hx2
    replace hx:=hx.trans hx2
    simp
    have hlp:=o0E (n:=n) (base:=bf bs) (Fv:=Fv) (K:=59999999) (k:=j) (q:=q) (fun i hi=>hF i (by omega))
    have hs1:=b0O (ptq n (bf bs) Fv q j) D
    have hs2:=b0O (Fv q) D
    have hfq:=hF q hq
    refine (b0E kx kv hx.1 (by rw [a0J];omega) (by rw [a0J];omega)).mono ?_
    rintro _ G4 ⟨⟨s1,s2,rfl,k1,k2⟩,hx2⟩
    replace ho:=ho.mono a0Q hx2
    replace hx:=hx.trans hx2
    rw [a0w,a0w,C0e hD0] at k1 k2 ⊢
    have hsj:=hsucc j
    rw [i1n rfl] at hsj
    rw [← hsj] at k1 k2 ⊢
    obtain ⟨G5,hst,ho2,hxb⟩:=b0d.store (x:=a0f (Rat.divInt (ptq n (bf bs) Fv (q + 1) j) D)) (w:=.agg #[.bool (a0f (Rat.divInt (ptq n (bf bs) Fv (q + 1) j) D)).1.1,s1,.bool (a0f (Rat.divInt (ptq n (bf bs) Fv (q + 1) j) D)).2.1,s2]) ho hjl (by decide) rfl (by simp [k1.plain,k2.plain]) (fun G' _ hl=>⟨s1,s2,rfl,k1.lx hl,k2.lx hl⟩) (by decide) (fun G' cs y _ hl h=>b0P.lx h hl)
    simp [g5,ia,hst]
    have hset:=e0b (n:=n) (j:=j) (f:=fun k=>a0f (Rat.divInt (ptq n (bf bs) Fv q k) D)) (g:=fun k=>a0f (Rat.divInt (ptq n (bf bs) Fv (q + 1) k) D)) (fun k _ hk=>by
     rw [hsucc k,i1k (fun h=>hk h.symm),i1k (by omega),j1Q])
    rw [hset] at ho2
    exact Rnd.mk (by simp [gq]) (by simp [gm]) ⟨by simp [g0],by simp [g1],by simp [g27],l0t hx hxb (fun b hb=>(ho.ge hb).1),by simpa [g5] using ho2⟩
   ·have hge:n≤j:=by omega
    simp [hjn,hge,m0N,g0,hbk,w2]
    by_cases hjt:j < 2 * n
    ·simp [show (j:Int) < 2 * (n:Int) by omega,show ¬ 2 * (n:Int)≤(j:Int) by omega]
     have hjl:j - n < ((List.range n).map fun k=>a0f (Rat.divInt (ptq n (bf bs) Fv q k) D)).length:=by simp;omega
     have ia:=ho.sls.ia (k:=.i64) hjl
     have wj:IntKind.i64.wrap ((j:Int) - (n:Int))=((j - n:Nat):Int):=by
      rw [a0R (by omega) (by omega)];omega
     obtain ⟨wx,ex,kx⟩:=b0v.load ho.sls hjl
     simp only [j1b,j1U] at kx
     refine a0G ?_
     simp [m0O,g0,g1,g5,gq,hbk,wj,ia,ex]
     refine (hg _ q G _ hx (by have:=hx.1;omega) hq).mono ?_
     rintro wf G2 ⟨kf,hx2⟩
     have hG2:=hG.mono hx2
     replace kx:=kx.mono hx2
     replace ho:=ho.mono a0Q hx2
     replace hx:=hx.trans hx2
     simp [g0]
     refine (t0C hG2 (by have:=hx.1;omega) kf (by have:=hF q hq;omega) (by omega) hD0).mono ?_
     rintro wv G3 ⟨kv,hx2⟩
     replace kx:=kx.mono hx2
     replace ho:=ho.mono a0Q hx2
     replace hx:=hx.trans hx2
     simp
     have hlp:=o0E (n:=n) (base:=bf bs) (Fv:=Fv) (K:=59999999) (k:=j - n) (q:=q) (fun i hi=>hF i (by omega))
     have hs1:=b0O (ptq n (bf bs) Fv q (j - n)) D
     have hs2:=b0O (Fv q) D
     have hfq:=hF q hq
     refine (l0a kx kv (by have:=hx.1;omega) (by rw [a0J];omega) (by rw [a0J];omega)).mono ?_
     rintro _ G4 ⟨⟨s1,s2,rfl,k1,k2⟩,hx2⟩
     replace ho:=ho.mono a0Q hx2
     replace hx:=hx.trans hx2
     rw [a0w,a0w,N0k hD0] at k1 k2 ⊢
     have hsj:=hsucc (j - n)
     rw [i1k (by omega),i1n (by omega),← k1n] at hsj
     rw [← hsj] at k1 k2 ⊢
     obtain ⟨G5,hst,ho2,hxb⟩:=b0d.store (x:=a0f (Rat.divInt (ptq n (bf bs) Fv (q + 1) (j - n)) D)) (w:=.agg #[.bool (a0f (Rat.divInt (ptq n (bf bs) Fv (q + 1) (j - n)) D)).1.1,s1,.bool (a0f (Rat.divInt (ptq n (bf bs) Fv (q + 1) (j - n)) D)).2.1,s2]) ho hjl (by decide) rfl (by simp [k1.plain,k2.plain]) (fun G' _ hl=>⟨s1,s2,rfl,k1.lx hl,k2.lx hl⟩) (by decide) (fun G' cs y _ hl h=>b0P.lx h hl)
     simp [g5,ia,hst]
     have hset:=e0b (n:=n) (j:=j - n) (f:=fun k=>a0f (Rat.divInt (ptq n (bf bs) Fv q k) D)) (g:=fun k=>a0f (Rat.divInt (ptq n (bf bs) Fv (q + 1) k) D)) (fun k _ hk=>by
      rw [hsucc k,i1k (by omega),i1k (by omega),j1Q])
     rw [hset] at ho2
     exact Rnd.mk (by simp [gq]) (by simp [gm]) ⟨by simp [g0],by simp [g1],by simp [g27],l0t hx hxb (fun b hb=>(ho.ge hb).1),by simpa [g5] using ho2⟩
    ·simp [show 2 * (n:Int)≤(j:Int) by omega,show ¬ (j:Int) < 2 * (n:Int) by omega]
     have hset:((List.range n).map fun k=>a0f (Rat.divInt (ptq n (bf bs) Fv q k) D))=(List.range n).map fun k=>a0f (Rat.divInt (ptq n (bf bs) Fv (q + 1) k) D):=by
      apply j1O
      intro k hk
      have hk:k < n:=by simpa using hk
      rw [hsucc k,i1k (by omega),i1k (by omega),j1Q]
     rw [hset] at ho
     exact Rnd.mk (by simp [gq]) (by simp [gm]) ⟨by simp [g0],by simp [g1],by simp [g27],hx,by simpa [g5] using ho⟩
  ·rintro ρ G gk gn ⟨g0,g1,g27,hx,ho⟩
   simp [m0P]
   exact fun _=>ho
def j0o (L:List (List Int)) (g n:Nat) (D:Int) (bs:List Rat) (c:Rat) (i:Nat):Rat:=Rat.divInt (Tf L g (2 * n + i)) D * bs.getD i 0 / c
theorem o0x {f0 p n m g:Nat} {L:List (List Int)} {k D:Int} {bs:List Nat} {sR sD sB:Value} {vs:List Value} {q:ScT} {c:Rat} (h:e0N F f0 H p n m L D bs k sR sD sB vs) (hf:fl≤H.size) (hS:ShT n m L bs) (hq:SV H v q) (hql:q.bs.length=m) (hc:b0P H w (a0f c)) (hg:g < m + 2) (hlD:lz D < 16777216) (hD0:D ≠ 0) (hF:∀ i,i < m→lz (Tf L g (2 * n + i)) < 16777216) (hK:∀ x ∈ q.bs,szR x < 16777216) (hcs:szR c < 16777216) (hc0:c ≠ 0) (hm:m < 1048576) (hn:n < 1048576) :
  a0S env fl (l0v F) [.pointer (some ⟨p,0,none⟩),.int .i64 (g:Int),v,w] H (fun r H'=>b0d PR H.size H' a0b 4 r ((List.range m).map fun i=>a0f (j0o L g n D q.bs c i))∧Ext H H') R:=by
 obtain ⟨sA,sB',sC,s1,s2,rfl,kA,kB,kC,k1,k2⟩:=hq
 obtain ⟨s3,s4,rfl,k3,k4⟩:=hc
 refine a0g K0k hf (h:=?_)
 intro ρ h0
 have c1:=k1.cells;have c2:=k2.cells;have c3:=k3.cells;have c4:=k4.cells
 simp [h0X,o0K,h0,kA.cells,kB.cells,kC.cells,c1,c2,c3,c4]
 generalize hN:Array.push (Array.push H _) _=G
 obtain ⟨hx,b0,b1⟩:=push2 hN
 clear hN
 have hbk:=(h.mono hx).blk
 simp [o0L,o0M,h0,hbk]
 refine c0W (n:=m) (fun i ρ G=>ρ 0=.pointer (some ⟨p,0,none⟩)∧ρ 1=.int .i64 (g:Int)∧ρ 6=.pointer (some ⟨H.size,0,none⟩)∧ρ 7=.pointer (some ⟨H.size + 1,0,none⟩)∧Ext H G∧a0e.blk G H.size=.row false a0O [.int .i64 q.n,sA,sB',sC,.bool (a0f q.cb).1.1,s1,.bool (a0f q.cb).2.1,s2]∧a0e.blk G (H.size + 1)=.row false a0b [.bool (a0f c).1.1,s3,.bool (a0f c).2.1,s4]∧(∀ b,slB (ρ 9)=some b→H.size + 2≤b)∧b0d PR H.size G a0b 4 (ρ 9) ((List.range i).map fun i=>a0f (j0o L g n D q.bs c i))) rfl rfl (by decide) (by omega) (by simp) (by simp) ?_ ?_ ?_ ?_
 ·exact ⟨by simp [h0],by simp [h0],by simp,by simp,hx,b0,b1,by simp [slB],by simpa using b0d.nil⟩
 ·intro i ρ ρ' G h hI;simpa [h] using hI
 ·clear h0 ρ hx b0 b1 hbk
  rintro i ρ G hi gi gn ⟨g0,g1,g6,g7,hx,b0,b1,hnb,ho⟩
  obtain ⟨s,g9⟩:∃ s,ρ 9=s:=⟨_,rfl⟩
  rw [g9] at ho hnb
  have hG:=h.mono hx
  have hbk:=hG.blk
  have hLl:=hS.len
  have hgL:g < L.length:=by omega
  have hcL:2 * n + i < L[g].length:=by rw [hS.row g hgL];omega
  have eh:=hG.head hgL
  have ehi:=hG.hia hgL
  obtain ⟨wt,et,kt⟩:=hG.num hgL hcL
  have ej:=hG.ia hgL hcL
  obtain ⟨jj,hjj⟩:∃ jj:Nat,jj=2 * n + i:=⟨_,rfl⟩
  rw [← hjj] at et ej
  obtain ⟨vg,hvg⟩:∃ x,x=vs[g]'(by have:=hG.rows.len;omega):=⟨_,rfl⟩
  rw [← hvg] at eh et ej
  have w2:IntKind.i64.wrap (2 * (n:Int))=2 * (n:Int):=a0R (by omega) (by omega)
  have w3:IntKind.i64.wrap (2 * (n:Int) + (i:Int))=(jj:Int):=by rw [a0R (by omega) (by omega)];omega
  have hib:i < (q.bs.map a0f).length:=by simp;omega
  have kB':=kB.mono a0Q hx
  have ib:=kB'.ia (k:=.i64) hib
  simp [o0N,gi]
  refine a0G ?_
  simp [o0O,g0,g1,g6,hbk,eh,ehi,w2,w3,ej,et]
  refine (t0C hG (by have:=hx.1;omega) kt (by have:=hF i hi;omega) (by omega) hD0).mono ?_
  rintro wv G2 ⟨kv,hx2⟩
  replace ho:=ho.mono a0Q hx2
  replace b0:=hx2.blk b0
  replace b1:=hx2.blk b1
  replace hx:=hx.trans hx2
  have kB2:=kB.mono a0Q hx
  have ib:=kB2.ia (k:=.i64) hib
  obtain ⟨wx,ex,kx⟩:=b0v.load kB2 hib
  rw [j1b] at kx
  have hbx:szR q.bs[i] < 16777216:=hK _ (i1p _)
  have hfi:=hF i hi
  have hsd:=b0O (Tf L g (2 * n + i)) D
  simp [g6,b0,ib,ex]
  refine (f0w kv kx (by have:=hx.1;omega) (by rw [a0J];omega) (by rw [a0J];omega)).mono ?_
  rintro wm G3 ⟨km,hx2⟩
  replace ho:=ho.mono a0Q hx2
  replace b1:=hx2.blk b1
  replace b0:=hx2.blk b0
  replace hx:=hx.trans hx2
  rw [a0w,a0w] at km
  have hsm:=g0C (Rat.divInt (Tf L g (2 * n + i)) D) q.bs[i]
  have kc:b0P G3 (.agg #[.bool (a0f c).1.1,s3,.bool (a0f c).2.1,s4]) (a0f c):=⟨s3,s4,rfl,k3.mono hx,k4.mono hx⟩
  simp [g7,b1]
  refine (t0i km kc (by have:=hx.1;omega) (by rw [a0J];omega) (by rw [a0J];omega) (by rw [a0w];exact hc0)).mono ?_
  rintro _ G4 ⟨⟨wd,rfl,s5,s6,rfl,k5,k6⟩,hx2⟩
  replace ho:=ho.mono a0Q hx2
  replace b0:=hx2.blk b0
  replace b1:=hx2.blk b1
  replace hx:=hx.trans hx2
  rw [a0w,a0w] at k5 k6 ⊢
  have hdual:Rat.divInt (Tf L g (2 * n + i)) D * q.bs[i] / c=j0o L g n D q.bs c i:=by
   unfold j0o;rw [i1h,i1m (by omega)];rfl
  rw [hdual] at k5 k6 ⊢
  have hfl:=hx.1
  have c5:=k5.cells;have c6:=k6.cells
  simp [hfl,c5,c6,k5.plain,k6.plain]
  generalize hN:Array.setIfInBounds (Array.push _ _) _ _=G5
  obtain ⟨hx2,b5⟩:=new1 hN
  clear hN
  replace ho:=ho.mono a0Q hx2
  replace b0:=hx2.blk b0
  replace b1:=hx2.blk b1
  replace k5:=k5.mono hx2
  replace k6:=k6.mono hx2
  replace hx:=hx.trans hx2
  obtain ⟨s',G6,h1,h2,h3,h4⟩:=b0d.app (P:=PR) (sz:=4) (e:=a0b) (by decide) (fun G' cs x _ hl h=>b0P.lx h hl) ho (e2:=a0b) (c:=1) (bytes:=64) (new:=[.bool (a0f (j0o L g n D q.bs c i)).1.1,s5,.bool (a0f (j0o L g n D q.bs c i)).2.1,s6]) (x:=a0f (j0o L g n D q.bs c i)) ⟨s5,s6,rfl,k5,k6⟩ rfl (by simp [k5.plain,k6.plain]) (by simp;omega) (by omega) (by omega) hx.1
  obtain ⟨m1,c1',hfr⟩:=e0y (by decide) h1
  simp [o0P,g9,b5,c5,c6,h1]
  exact Rnd.mk (by simp [gi]) (by simp [gn]) ⟨by simp [g0],by simp [g1],by simp [g6],by simp [g7],h4 _ (i1j _) hx,(h3.2 _ (a0i b0) (fun h=>by have:=hnb _ h;omega)).trans b0,(h3.2 _ (a0i b1) (fun h=>by have:=hnb _ h;omega)).trans b1,by
   have hsz:=hx2.1
   have hsz2:=hx.1
   rw [hfr];simp [slB];have:=a0i b1;have:=a0i b5;omega,b0d.cast (v':=s') (by simp) (by rw [List.range_succ,k1K];exact h2)⟩
 ·rintro ρ G gi gn ⟨g0,g1,g6,g7,hx,b0,b1,hnb,ho⟩
  obtain ⟨s,g9⟩:∃ s,ρ 9=s:=⟨_,rfl⟩
  rw [g9] at ho hnb
  simp [o0Q,g9]
  exact fun _=>ho
theorem r0o {f0 p P n m i:Nat} {L:List (List Int)} {k D:Int} {bs:List Nat} {sR sD sB:Value} {vs:List Value} (h:e0N F f0 H p n m L D bs k sR sD sB vs) (hf:fl≤H.size) (hS:ShT n m L bs) (hP:H.blk P=.row false (F.p a0H a0C) [.pointer (some ⟨p,0,none⟩)]) (hi:i < m + 2) :
  a0S env fl (k0c F) [.int .i64 (i:Int),.pointer (some ⟨P,0,none⟩)] H (fun r H'=>rV F H' r (Tf L i (2 * n + m))∧Ext H H') R:=by
 refine a0g y0x hf (h:=?_)
 intro ρ h0
 have hiL:i < L.length:=by rw [hS.len];exact hi
 have hcL:2 * n + m < L[i].length:=by rw [hS.row i hiL];omega
 obtain ⟨jj,hjj⟩:∃ jj:Nat,jj=2 * n + m:=⟨_,rfl⟩
 rw [← hjj] at hcL ⊢
 have e2:2 * (n:Int) + m=(jj:Int):=by omega
 cases F
 ·simp [e0s,h0B,h0]
  obtain ⟨vi,wt,-,eh,ehi,ej,en,fw⟩:=h.cell hiL hcL
  simp only [RK.w,RK.b,RK.p_few] at ej en hP
  have hbk:=h.blk
  refine a0G ?_
  simp [h0C,h0,hP,hbk,eh,ehi,e2,ej,en]
  exact fw
 ·simp [e0s,h0B,h0]
  generalize hN:Array.push H _=G
  have hx:Ext H G:=by rw [← hN];exact (Ext.refl H).push
  replace h:=h.mono hx
  replace hP:=hx.blk hP
  obtain ⟨vi,wt,-,eh,ehi,ej,en,fw⟩:=h.cell hiL hcL
  simp only [RK.w,RK.b,RK.p_all] at ej en hP
  have hbk:=h.blk
  refine a0G ?_
  obtain ⟨sx,rfl,kx⟩:=fw
  simp [h0C,h0,hP,hbk,eh,ehi,e2,ej,en]
  subst hN
  simp [hf,kx.cells,kx.plain]
  generalize hN:Array.setIfInBounds (Array.push _ _) _ _=G5
  obtain ⟨hx5,b5⟩:=new1 hN
  exact ⟨sx,rfl,kx.setS hN a0D (by decide)⟩
theorem z0v {f0 p P P2 n m i j:Nat} {L:List (List Int)} {k D:Int} {bs:List Nat} {sR sD sB:Value} {vs:List Value} (h:e0N F f0 H p n m L D bs k sR sD sB vs) (hf:fl≤H.size) (hS:ShT n m L bs) (hz:∀ r c,lz (Tf L r c) < 67108864) (hP:H.blk P=.row false F.Q [.pointer (some ⟨p,0,none⟩)]) (hP2:H.blk P2=.row false e0F [.int .i64 (j:Int)]) (hi:i < m + 2) (hj:j < 2 * n + m + 1) :
  a0S env fl (t0Q F) [.int .i64 (i:Int),.pointer (some ⟨P,0,none⟩),.pointer (some ⟨P2,0,none⟩)] H (fun r H'=>rV F H' r (-Tf L i j)∧Ext H H') R:=by
 refine a0g U0M hf (h:=?_)
 intro ρ h0
 have hiL:i < L.length:=by rw [hS.len];exact hi
 have hcL:j < L[i].length:=by rw [hS.row i hiL];omega
 cases F
 ·simp [i0Z,m0Q,h0]
  obtain ⟨vi,wt,-,eh,ehi,ej,en,fw⟩:=h.cell hiL hcL
  simp only [RK.w,RK.b,RK.p_few] at ej en
  have hP':H.blk P=.row false a0H [.pointer (some ⟨p,0,none⟩)]:=hP
  have hbk:=h.blk
  refine a0G ?_
  simp [m0R,h0,hP',hP2,hbk,eh,ehi,ej,en]
  refine (show a0S env _ m0e [eV,wt] H _ _ from y0k (F:=.few) fw (i1j _) (hz _ _)).mono ?_
  rintro wn G2 ⟨fn,hx2⟩
  simp
  exact fun _=>fn
 ·simp [i0Z,m0Q,h0]
  generalize hN:Array.push H _=G
  obtain ⟨hx,b4⟩:=g0R hN
  clear hN
  replace h:=h.mono hx
  have hP':a0e.blk G P=.row false a0C [.pointer (some ⟨p,0,none⟩)]:=hx.blk hP
  replace hP2:=hx.blk hP2
  obtain ⟨vi,wt,-,eh,ehi,ej,en,fw⟩:=h.cell hiL hcL
  simp only [RK.w,RK.b,RK.p_all] at ej en
  have hbk:=h.blk
  refine a0G ?_
  simp [m0R,h0,hP',hP2,hbk,eh,ehi,ej,en]
  refine (show a0S env _ m0d [eV,wt] G _ _ from y0k (F:=.all) fw hx.1 (hz _ _)).mono ?_
  rintro wn G2 ⟨⟨sx,rfl,kx⟩,hx2⟩
  replace b4:=hx2.blk b4
  have hsz:=(hx.trans hx2).1
  simp [b4,hsz,kx.cells,kx.plain]
  generalize hS':Array.setIfInBounds G2 _ _=G5
  rw [a0v hS' b4]
  simp
  exact fun _=>⟨sx,rfl,kx.setS hS' b4 (by decide)⟩
def t0j (n m:Nat) (L:List (List Int)) (bs:List Nat) (D:Int) (j k:Nat):Rat:=Rat.divInt (n0j n m (Tf L) (bf bs) D j k) D
theorem r0e {n m:Nat} {L:List (List Int)} {bs:List Nat} {D:Int} {j k:Nat} (h1:j ≠ k) (h2:j ≠ n + k):t0j n m L bs D j k=Rat.divInt (ptq n (bf bs) (fun i=>-Tf L i j) m k) D:=by
 unfold t0j n0j
 rw [i1k h1,i1k h2,j1Q];rfl
theorem W0t {n m:Nat} {L:List (List Int)} {bs:List Nat} {D:Int} {j:Nat} (hD:D ≠ 0):t0j n m L bs D j j=Rat.divInt (ptq n (bf bs) (fun i=>-Tf L i j) m j) D + 1:=by
 unfold t0j n0j
 rw [i1n rfl,← C0e hD,Rat.divInt_self' hD];rfl
theorem L0f {n m:Nat} {L:List (List Int)} {bs:List Nat} {D:Int} {j:Nat} (hD:D ≠ 0) (hj:n≤j) (hn:0 < n):t0j n m L bs D j (j - n)=Rat.divInt (ptq n (bf bs) (fun i=>-Tf L i j) m (j - n)) D - 1:=by
 unfold t0j n0j
 rw [i1k (by omega),i1n (by omega),Int.add_neg_eq_sub,← N0k hD,Rat.divInt_self' hD];rfl
theorem L0g {p n m j:Nat} {f0:Nat} {L:List (List Int)} {k D:Int} {bs:List Nat} {sR sD sB:Value} {vs:List Value} (h:e0N F f0 H p n m L D bs k sR sD sB vs) (hf:fl≤H.size) (hS:ShT n m L bs) (hz:∀ r c,lz (Tf L r c) < 50000000) (hlD:lz D < 50000000) (hD0:D ≠ 0) (hj:j < 2 * n + m) (hm:m < 1048576) (hn:n < 1048576) :
  a0S env fl (A0C F) [.pointer (some ⟨p,0,none⟩),.int .i64 (j:Int)] H (fun r H'=>b0v H' r ((List.range n).map fun k=>a0f (t0j n m L bs D j k))∧Ext H H') R:=by
 refine a0g Y0A hf (h:=?_)
 intro ρ h0
 simp [p0w,w0S,h0]
 generalize hG:Array.push (Array.push H _) _=G
 obtain ⟨hx,b2,b3⟩:=push2 hG
 clear hG
 have h':=h.mono hx
 have hx0:=hx.1
 have hFz:∀ i,i < m→lz (-Tf L i j)≤59999999:=fun i hi=>by rw [f0p];have:=hz i j;omega
 simp [w0T,b2]
 refine (o0J (Fv:=fun i=>-Tf L i j) h' hx.1 hS (by omega) hD0 hFz hm hn (fun fl i G' R' hxx hfl hi=>by
   simp only [k1l,j1J]
   exact z0v (h'.mono hxx) hfl hS (fun r c=>by have:=hz r c;omega) (hxx.blk b2) (hxx.blk b3) (by omega) (by omega))).mono ?_
 rintro wX G2 ⟨oX,hx2⟩
 replace b2:=hx2.blk b2
 replace b3:=hx2.blk b3
 have h2:=h'.mono hx2
 replace hx:=hx.trans hx2
 have hbk:=h2.blk
 have e3:∀ k,szR (Rat.divInt (ptq n (bf bs) (fun i=>-Tf L i j) m k) D) < 61048577:=fun k=>by
  have h1:=b0O (ptq n (bf bs) (fun i=>-Tf L i j) m k) D
  have h2:=o0E (n:=n) (base:=bf bs) (Fv:=fun i=>-Tf L i j) (K:=60000000) (k:=k) (q:=m) (fun i hi=>by have:=hFz i hi;omega)
  omega
 have w2:IntKind.i64.wrap (2 * (n:Int))=2 * (n:Int):=a0R (by omega) (by omega)
 refine a0G ?_
 simp [w0U,b2,b3,hbk]
 by_cases hjn:j < n
 ·have hjl:j < ((List.range n).map fun k=>a0f (Rat.divInt (ptq n (bf bs) (fun i=>-Tf L i j) m k) D)).length:=by simpa using hjn
  have ij:=oX.sls.ia (k:=.i64) hjl
  obtain ⟨w1,l1,k1⟩:=b0v.load oX.sls hjl
  rw [j1b,j1U] at k1
  refine ⟨fun _=>?_,fun h=>i1A h (by omega)⟩
  refine a0G ?_
  simp [w0V,b3,ij,l1]
  refine (c0h (n:=1) (by have:=hx.1;omega) (by omega) (by omega)).mono ?_
  rintro w2' G3 ⟨k2,hx3⟩
  have h1e:((1:Int):Rat)=1:=rfl
  rw [h1e] at k2
  replace b3:=hx3.blk b3
  replace oX:=oX.mono a0Q hx3
  replace hx:=hx.trans hx3
  simp
  refine (b0E (k1.mono hx3) k2 (by have:=hx.1;omega) (by rw [a0J];have:=e3 j;omega) (by rw [a0J,r0r];decide)).mono ?_
  rintro _ G4 ⟨⟨s1,s2,rfl,q1,q2⟩,hx4⟩
  rw [a0w,a0w,← W0t hD0] at q1 q2 ⊢
  replace b3:=hx4.blk b3
  replace oX:=oX.mono a0Q hx4
  replace hx:=hx.trans hx4
  obtain ⟨G5,hst,ho2,hxb⟩:=b0d.store (x:=a0f (t0j n m L bs D j j)) (w:=.agg #[.bool (a0f (t0j n m L bs D j j)).1.1,s1,.bool (a0f (t0j n m L bs D j j)).2.1,s2]) (oX.low (fl':=H.size) (by omega)) hjl (by decide) rfl (by simp [q1.plain,q2.plain]) (fun G' _ hl=>⟨s1,s2,rfl,q1.lx hl,q2.lx hl⟩) (by decide) (fun G' cs y _ hl h=>b0P.lx h hl)
  have d1:=q1.cells;have d2:=q2.cells
  have hset:=e0b (n:=n) (j:=j) (f:=fun k=>a0f (Rat.divInt (ptq n (bf bs) (fun i=>-Tf L i j) m k) D)) (g:=fun k=>a0f (t0j n m L bs D j k)) (fun k hk hne=>by rw [r0e (fun h=>hne h.symm) (by omega)])
  rw [hset] at ho2
  simp [d1,d2,ij,hst,l0z,b3]
  exact fun _=>ho2.sls
 ·refine ⟨fun h=>i1A h hjn,fun _=>?_⟩
  refine a0G ?_
  simp [w0W,b2,b3,hbk,w2]
  by_cases hjt:j < 2 * n
  ·simp [show (j:Int) < 2 * (n:Int) by omega]
   refine ⟨?_,fun h=>i1A h (by omega)⟩
   have hjl:j - n < ((List.range n).map fun k=>a0f (Rat.divInt (ptq n (bf bs) (fun i=>-Tf L i j) m k) D)).length:=by simp;omega
   have ij:=oX.sls.ia (k:=.i64) hjl
   have wj:IntKind.i64.wrap ((j:Int) - (n:Int))=((j - n:Nat):Int):=by
    rw [a0R (by omega) (by omega)];omega
   obtain ⟨w1,l1,k1⟩:=b0v.load oX.sls hjl
   rw [j1b,j1U] at k1
   refine a0G ?_
   simp [w0X,b2,b3,hbk,wj,ij,l1]
   refine (c0h (n:=1) (by have:=hx.1;omega) (by omega) (by omega)).mono ?_
   rintro w2' G3 ⟨k2,hx3⟩
   have h1e:((1:Int):Rat)=1:=rfl
   rw [h1e] at k2
   replace b3:=hx3.blk b3
   replace oX:=oX.mono a0Q hx3
   replace hx:=hx.trans hx3
   simp
   refine (l0a (k1.mono hx3) k2 (by have:=hx.1;omega) (by rw [a0J];have:=e3 (j - n);omega) (by rw [a0J,r0r];decide)).mono ?_
   rintro _ G4 ⟨⟨s1,s2,rfl,q1,q2⟩,hx4⟩
   rw [a0w,a0w,← L0f hD0 (by omega) (by omega)] at q1 q2 ⊢
   replace b3:=hx4.blk b3
   replace oX:=oX.mono a0Q hx4
   replace hx:=hx.trans hx4
   obtain ⟨G5,hst,ho2,hxb⟩:=b0d.store (x:=a0f (t0j n m L bs D j (j - n))) (w:=.agg #[.bool (a0f (t0j n m L bs D j (j - n))).1.1,s1,.bool (a0f (t0j n m L bs D j (j - n))).2.1,s2]) (oX.low (fl':=H.size) (by omega)) hjl (by decide) rfl (by simp [q1.plain,q2.plain]) (fun G' _ hl=>⟨s1,s2,rfl,q1.lx hl,q2.lx hl⟩) (by decide) (fun G' cs y _ hl h=>b0P.lx h hl)
   have d1:=q1.cells;have d2:=q2.cells
   have hset:=e0b (n:=n) (j:=j - n) (f:=fun k=>a0f (Rat.divInt (ptq n (bf bs) (fun i=>-Tf L i j) m k) D)) (g:=fun k=>a0f (t0j n m L bs D j k)) (fun k hk hne=>by rw [r0e (by omega) (by omega)])
   rw [hset] at ho2
   simp [d1,d2,ij,hst,l0z,b3]
   exact fun _=>ho2.sls
  ·simp [show ¬ (j:Int) < 2 * (n:Int) by omega]
   have hset:((List.range n).map fun k=>a0f (Rat.divInt (ptq n (bf bs) (fun i=>-Tf L i j) m k) D))=(List.range n).map fun k=>a0f (t0j n m L bs D j k):=by
    apply j1O
    intro k hk
    have hk:k < n:=by simpa using hk
    rw [r0e (by omega) (by omega)]
   rw [hset] at oX
   simp [l0z]
   exact fun _ _=>oX.sls
end
section
open Go
set_option maxHeartbeats 4000000
variable {H G:a0e} {v:Value} {rows:List (List b0h)} {x:List b0h}
theorem m0w:∀ {rows:List (List b0h)} {d:List b0T} {r:List b0h},r ∈ d0w rows d→∃ q ∈ rows,r=i0g q
 | [],_,r,h=>by simp [d0w] at h
 | _ :: _,[],r,h=>by simp [d0w] at h
 | q :: rs,e :: es,r,h=>by
  simp only [d0w] at h
  split at h
  ·rcases j1M.1 h with rfl | h
   ·exact ⟨q,by simp,rfl⟩
   ·obtain ⟨q',h1,h2⟩:=m0w h;exact ⟨q',by simp [h1],h2⟩
  ·obtain ⟨q',h1,h2⟩:=m0w h;exact ⟨q',by simp [h1],h2⟩
theorem m0y:∀ {rows:List (List b0h)} {d:List b0T} {r:b0h},r ∈ d0x rows d→∃ e ∈ d,r=a0f (b0u e.2)
 | [],_,r,h=>by simp [d0x] at h
 | _ :: _,[],r,h=>by simp [d0x] at h
 | q :: rs,e :: es,r,h=>by
  simp only [d0x] at h
  split at h
  ·rcases j1M.1 h with rfl | h
   ·exact ⟨e,by simp,rfl⟩
   ·obtain ⟨q',h1,h2⟩:=m0y h;exact ⟨q',by simp [h1],h2⟩
  ·obtain ⟨q',h1,h2⟩:=m0y h;exact ⟨q',by simp [h1],h2⟩
theorem LPV.mono {p:LPt} (h:LPV H v p) (hx:Ext H G):LPV G v p:=by
 obtain ⟨a,b,c,h1,h2,h3,h4⟩:=h
 exact ⟨a,b,c,h1,h2.mono d0A hx,h3.mono a0Q hx,h4.mono a0Q hx⟩
end
section
open Go SX
set_option maxHeartbeats 4000000
variable {fl:Nat} {H G:a0e} {R:a0E} {v w u:Value} {F:RK}
structure o0p where
 kind:Int
 V:Rat
 X:List Rat
 Y:List Rat
 Ray:List Rat
def z0M (H:a0e) (v:Value) (a:o0p):Prop:=∃ s1 s2 sX sY sR,v=.agg #[.int .i64 a.kind,.bool (a0f a.V).1.1,s1,.bool (a0f a.V).2.1,s2,sX,sY,sR] ∧
 Lim H s1 (a0f a.V).1.2∧Lim H s2 (a0f a.V).2.2∧b0v H sX (a.X.map a0f)∧b0v H sY (a.Y.map a0f)∧b0v H sR (a.Ray.map a0f)
theorem z0M.mono {a:o0p} (h:z0M H v a) (hx:Ext H G):z0M G v a:=by
 obtain ⟨s1,s2,sX,sY,sR,h1,h2,h3,h4,h5,h6⟩:=h
 exact ⟨s1,s2,sX,sY,sR,h1,h2.mono hx,h3.mono hx,h4.mono a0Q hx,h5.mono a0Q hx,h6.mono a0Q hx⟩
def U0m (q:ScT) (n m:Nat) (T:Nat→Nat→Int) (base:Nat→Nat) (D:Int):Prop:=Tab m (2 * n + m) (i0f n m (Tf q.A) (bbq q n) (ccq q)) (fun i=>bbq q n i < 0) T base D
def b1e (q:ScT) (n m:Nat) (a:o0p):Prop:=∃ T base D,U0m q n m T base D∧a.kind=2∧a.V=0∧a.X=[]∧a.Ray=[]∧(∀ c,c < 2 * n + m→0≤T m c)∧T m (2 * n + m) < 0∧a.Y=(List.range m).map fun i=>Rat.divInt (T m (2 * n + i)) D * q.bs.getD i 0 / 1
def b1d (q:ScT) (C:List b0h) (n m:Nat) (a:o0p):Prop:=∃ T base D,U0m q n m T base D∧a.kind=1∧a.Ray=[]∧(∀ i,i < m→¬ base i < 2 * n + m→T i (2 * n + m)=0)∧(∀ c,c < 2 * n + m→0≤T (m + 1) c) ∧
 a.X=((List.range n).map fun k=>Rat.divInt (ptq n base (fun i=>T i (2 * n + m)) m k) D)∧(a.Y=(List.range m).map fun i=>Rat.divInt (T (m + 1) (2 * n + i)) D * q.bs.getD i 0 / q.cb)∧a.V=r0x C (a.X.map a0f) n
def b1f (q:ScT) (n m:Nat) (a:o0p):Prop:=∃ T base D j,U0m q n m T base D∧a.kind=3∧a.V=0∧a.Y=[]∧(∀ i,i < m→¬ base i < 2 * n + m→T i (2 * n + m)=0∧T i j=0)∧j < 2 * n + m∧T (m + 1) j < 0∧(∀ i,i < m→T i j≤0) ∧
 a.X=((List.range n).map fun k=>Rat.divInt (ptq n base (fun i=>T i (2 * n + m)) m k) D)∧a.Ray=(List.range n).map fun k=>Rat.divInt (n0j n m T base D j k) D
def p0G (q:ScT) (C:List b0h) (n m:Nat) (r:Value) (H':a0e):Prop:=∃ ans a k,r=.tuple #[ans,.int .i64 k]∧z0M H' ans a∧(b1e q n m a ∨ b1d q C n m a ∨ b1f q n m a)
theorem SV.mono {q:ScT} (h:SV H v q) (hx:Ext H G):SV G v q:=by
 obtain ⟨sA,sB,sC,s1,s2,h1,h2,h3,h4,h5,h6⟩:=h
 exact ⟨sA,sB,sC,s1,s2,h1,h2.mono q0f hx,h3.mono a0Q hx,h4.mono d0r hx,h5.mono hx,h6.mono hx⟩
theorem e0K.low {eN sz f0:Nat} {P:a0e→List Value→Int→Prop} {vs:List Value} {L:List (List Int)} (h:e0K eN sz P fl H vs L) (hf:f0≤fl):e0K eN sz P f0 H vs L :=
 ⟨h.len,fun i hi=>(h.own i hi).low hf,h.apart⟩
theorem V0E {r1 r2 r3 r4:Blk} (h:Array.push (Array.push (Array.push (Array.push H r1) r2) r3) r4=G):Ext H G∧a0e.blk G H.size=r1∧a0e.blk G (H.size + 1)=r2∧a0e.blk G (H.size + 2)=r3∧a0e.blk G (H.size + 3)=r4:=by
 subst h
 refine ⟨(Ext.refl H).push.push.push.push,?_,?_,?_,?_⟩ <;> simp [a0K]
theorem Frm.at_ {e b:Nat} {ro:Bool} {cs:List Value} (h:Frm F.T F.E H G) (hb:a0e.blk H b=.row ro e cs) (h1:e ≠ a0d:=by decide) (h2:e ≠ a0c:=by decide) (h3:e ≠ d0J:=by decide) (h4:e ≠ a0a:=by decide) (h5:e ≠ e0F:=by decide):a0e.blk G b=.row ro e cs :=
 h.2 e (by cases F;exact h1;exact h2) (by cases F;exact h3;exact h4) h5 _ _ _ hb
theorem Frm.atQ {b:Nat} {ro:Bool} {cs:List Value} (h:Frm F.T F.E H G) (hb:a0e.blk H b=.row ro F.Q cs):a0e.blk G b=.row ro F.Q cs :=
 h.2 F.Q (by cases F <;> decide) (by cases F <;> decide) (by cases F <;> decide) _ _ _ hb
theorem Z0L {q:ScT} {n m:Nat} {T:Nat→Nat→Int} {base:Nat→Nat} {D z:Int} (h:U0m q n m T base D) (he:(z = -1∧∀ c,c < 2 * n + m→0≤T m c) ∨ ∃ j:Nat,z=j∧j < 2 * n + m∧T m j < 0∧∀ i,i < m→T i j≤0):∀ c,c < 2 * n + m→0≤T m c:=by
 rcases he with ⟨_,h1⟩ | ⟨j,_,h1,h2,h3⟩
 ·exact h1
 ·have h4:=Tab.lack h (c:=j) (by omega)
  have h5:=h0F (f:=fun i=>-1 * (if base i < 2 * n + m then 0 else T i j)) (N:=m) (fun i hi=>by
   have:=h3 i hi
   split <;> omega)
  rw [f0f] at h5
  omega
theorem ShT.lz_all {n m Z:Nat} {L:List (List Int)} {bs:List Nat} (h:ShT n m L bs) (hB:∀ r c,r < m + 2→c≤2 * n + m→lz (Tf L r c)≤Z) (r c:Nat):lz (Tf L r c)≤Z:=by
 by_cases hr:r < m + 2
 ·by_cases hc:c≤2 * n + m
  ·exact hB r c hr hc
  ·have hrl:r < L.length:=by rw [h.len];exact hr
   unfold Tf
   rw [i1h,i1h,i1m hrl,i1O,i1s (by rw [h.row r hrl];omega)]
   show lz 0≤_;rw [c0K];omega
 ·unfold Tf
  rw [show L.getD r []=[] from by rw [i1h,i1s (by rw [h.len];omega)];rfl]
  show lz 0≤_;rw [c0K];omega
theorem y0N {S:Nat} {X:List Rat} (h:∀ x ∈ X,szR x≤S):Few S (X.map a0f):=by
 intro x hx
 obtain ⟨y,hy,rfl⟩:=j1e.1 hx
 exact ⟨by rw [a0J];exact h y hy,c0l _,c0l _⟩
theorem Few.mono' {S S':Nat} {X:List b0h} (h:Few S X) (hS:S≤S'):Few S' X:=fun x hx=>⟨i1t (h x hx).1 hS,(h x hx).2⟩
theorem p0S {H0 G':a0e} {f0:Nat} (hx:Ext H0 G) (hk:f0Z f0 G G') (hf:H0.size≤f0):Ext H0 G' :=
 ⟨i1t hx.1 hk.size,fun b hb=>(hk.low b (by omega)).trans (hx.2 b hb)⟩
theorem e0N.floor {p n m f0:Nat} {L:List (List Int)} {k D:Int} {bs:List Nat} {sR sD sB:Value} {vs:List Value} (h:e0N F fl H p n m L D bs k sR sD sB vs) (hf:f0≤fl):e0N F f0 H p n m L D bs k sR sD sB vs :=
 ⟨h.blk,i1t hf h.low,h.d,h.heads.low hf,h.rows.low hf,h.basis.low hf⟩
theorem v0L {q:ScT} {p:LPt} {n m Z S:Nat} (hp:LPV H u p) (h:SV H v q) (hn0:q.n=n) (hAl:q.A.length=m) (hCl:q.C.length=n) (hpC:p.C.length=n) (hpF:Few S p.C) (hql:q.bs.length=m) (hrow:∀ r ∈ q.A,r.length=n + 1) (hf:fl≤H.size)
  (hzA:∀ r c,lz (Tf q.A r c) < 67108864) (hzC:∀ c,lz (ccq q c) < 67108864) (hzL:∀ i c,i≤m→c≤2 * n + m→lz (t0y q n m i c) < 67108864)
  (hB:∀ T base D,U0m q n m T base D→(∀ r c,r < m + 2→c≤2 * n + m→lz (T r c)≤Z)∧lz D≤Z) (hZ:(n + 1) * (2 * (Z + m + S) + 10) < 16777216) (hK:∀ x ∈ q.bs,szR x < 16777216) (hcs:szR q.cb < 16777216) (hc0:q.cb ≠ 0)
  (hm:m < 1048576) (hn:n < 1048576) (hR:q0E F R) :
  a0S env fl (m0b F) [eV,u,v] H (fun r H'=>p0G q p.C n m r H'∧Ext H H') R:=by
 have hp0:=hp
 have h00:=h
 obtain ⟨sA0,sB0,sC0,rfl,kA,kB,kC⟩:=hp
 obtain ⟨sA,sBy,sC,s1,s2,rfl,qA,qB,qC,q1,q2⟩:=h
 refine a0g A0y hf (h:=?_)
 intro ρ h0
 have hZ1:2 * (Z + m + S) + 10 < 16777216:=by
  have:1 * (2 * (Z + m + S) + 10)≤(n + 1) * (2 * (Z + m + S) + 10):=i1r _ (by omega)
  omega
 simp [f0X,m0S,h0,kA.cells,kB.cells,kC.cells,qA.cells,qB.cells,qC.cells,q1.cells,q2.cells]
 generalize hG:Array.push (Array.push (Array.push (Array.push H _) _) _) _=G
 obtain ⟨hx,b0,b1,b2,b3⟩:=V0E hG
 clear hG
 have hsv:=h00.mono hx
 simp [m0T,b0,b2]
 refine a0S.mono (z0D hsv hn0 hAl hCl hrow hx.1 hzA hzC hzL hm hn hR) ?_
 rintro _ G2 ⟨⟨p',L,bs,sR,sD,sB,vs,rfl,hT,hS,hTf,hbs⟩,hx2⟩
 replace hT:=hT.floor hx.1
 have hxG:=hx.trans hx2
 have hsz:=hxG.1
 simp [hsz]
 generalize hN:Array.setIfInBounds (Array.push _ _) _ _=G3
 obtain ⟨hx3,b5⟩:=new1 hN
 clear hN
 replace hx2:=hx2.trans hx3
 replace b1:=hx2.blk b1
 replace b2:=hx2.blk b2
 replace b3:=hx2.blk b3
 replace hT:=hT.mono hx3
 replace hx:=hx.trans hx2
 clear hx2 hx3 hxG hsz hsv b0
 obtain ⟨P8,hP8⟩:∃ x,x=G2.size:=⟨_,rfl⟩
 rw [← hP8] at b5 ⊢
 clear hP8
 have hbk:=hT.blk
 have hTab:U0m q n m (Tf L) (bf bs) 1:=B0d.congr hTf hbs rfl
 have hBd:Bnd m (2 * n + m) (i0f n m (Tf q.A) (bbq q n) (ccq q)) (fun i=>bbq q n i < 0):=fun T base D hT=>by
  obtain ⟨h1,h2⟩:=hB T base D hT
  exact ⟨fun r c hr hc=>by have:=h1 r c hr hc;omega,by omega⟩
 have w1:IntKind.i64.wrap ((m:Int) + 1)=((m + 1:Nat):Int):=by rw [a0R (by omega) (by omega)];omega
 obtain ⟨m1,hm1⟩:∃ x:Nat,x=m + 1:=⟨_,rfl⟩
 rw [← hm1] at w1
 refine a0G ?_
 simp [m0U,b5,hbk,w1]
 simp [m0V,b5]
 refine a0S.mono (x0V hT hx.1 hS hTab hBd (.inl rfl) hm hn hR) ?_
 rintro _ G4 ⟨⟨z1,rfl,hQ1⟩,hK1⟩
 clear hTf hbs hbk hTab hS hT
 obtain ⟨L,D,bs,k1,sD,hT,hS,hTab,-,hFr,hend⟩:=hQ1
 replace hx:=p0S hx hK1 (i1j _)
 replace b1:=hFr.at_ b1
 replace b2:=hFr.at_ b2
 replace b3:=hFr.at_ b3
 replace b5:=hFr.atQ b5
 clear hFr hK1
 have hbk:=hT.blk
 have hmL:m < L.length:=by rw [hS.len];omega
 have hcL:2 * n + m < L[m].length:=by rw [hS.row m hmL];omega
 have eh:=hT.head hmL
 have ehi:=hT.hia hmL
 obtain ⟨wt,en,fw⟩:=hT.num hmL hcL
 have ej:=hT.ia hmL hcL
 obtain ⟨jj,hjj⟩:∃ jj:Nat,jj=2 * n + m:=⟨_,rfl⟩
 rw [← hjj] at en ej fw hend
 obtain ⟨vi,hvi⟩:∃ x,x=vs[m]'(by have:=hT.rows.len;omega):=⟨_,rfl⟩
 rw [← hvi] at eh en ej
 have e2:2 * (n:Int) + m=(jj:Int):=by omega
 obtain ⟨hBz,hBd1⟩:=hB _ _ _ hTab
 have hz:=hBz m jj (by omega) (by omega)
 simp
 refine a0G ?_
 simp [m0W,b5,hbk,eh,ehi,e2,ej,en]
 refine a0S.mono (r0D fw hx.1 (by omega)) ?_
 rintro _ G5 ⟨rfl,hx5⟩
 replace b1:=hx5.blk b1
 replace b2:=hx5.blk b2
 replace b3:=hx5.blk b3
 replace b5:=hx5.blk b5
 replace hT:=hT.mono hx5
 replace hx:=hx.trans hx5
 clear hx5 en eh hbk
 by_cases hneg:Tf L m jj < 0
 ·have hcz:c0A (Tf L m jj) 0 = -1:=by unfold c0A;rw [i1n hneg]
  simp [hcz]
  refine c0J ?_
  simp [m0X]
  refine (c0h (n:=0) (by have:=hx.1;omega) (by omega) (by omega)).mono ?_
  rintro _ G6 ⟨⟨y1,y2,rfl,ky1,ky2⟩,hx6⟩
  have hz0:((0:Int):Rat)=0:=rfl
  rw [hz0] at ky1 ky2 ⊢
  replace b1:=hx6.blk b1
  replace b2:=hx6.blk b2
  replace b3:=hx6.blk b3
  replace b5:=hx6.blk b5
  replace hT:=hT.mono hx6
  replace hx:=hx.trans hx6
  clear hx6
  simp [b2,b5]
  refine (c0h (n:=1) (by have:=hx.1;omega) (by omega) (by omega)).mono ?_
  rintro w7 G7 ⟨kw7,hx7⟩
  have hz1:((1:Int):Rat)=1:=rfl
  rw [hz1] at kw7
  replace b1:=hx7.blk b1
  replace b2:=hx7.blk b2
  replace b3:=hx7.blk b3
  replace b5:=hx7.blk b5
  replace ky1:=ky1.mono hx7
  replace ky2:=ky2.mono hx7
  replace hT:=hT.mono hx7
  replace hx:=hx.trans hx7
  clear hx7
  simp
  refine (o0x (q:=q) hT (by have:=hx.1;omega) hS (h00.mono hx) hql kw7 (g:=m) (by omega) (by omega) (by have:=hTab.pos;omega) (fun i hi=>by have:=hBz m (2 * n + i) (by omega) (by omega);omega) hK (by rw [r0r];omega) (by decide) hm hn).mono ?_
  rintro wd G8 ⟨kd,hx8⟩
  replace b1:=hx8.blk b1
  replace b2:=hx8.blk b2
  replace b3:=hx8.blk b3
  replace b5:=hx8.blk b5
  replace ky1:=ky1.mono hx8
  replace ky2:=ky2.mono hx8
  replace hT:=hT.mono hx8
  replace hx:=hx.trans hx8
  clear hx8
  have hbk:=hT.blk
  have hsz:=hx.1
  have hdc:=kd.cells
  simp [b5,hbk,hdc]
  have c1:=ky1.cells;have c2:=ky2.cells
  have hP1:P8 ≠ H.size + 3:=fun h=>by rw [h,b3] at b5;simp at b5
  have hP2:p' ≠ H.size + 3:=fun h=>by rw [h,b3] at hbk;have:=(Blk.row.inj hbk).2.1;cases F <;> exact i1A this (by decide)
  simp [b3,hsz,ky1.plain,ky2.plain,c1,c2,hdc,hP1,hP2]
  generalize hS':Array.setIfInBounds G8 _ _=G9
  have hl1:LxT a0b G8 G9:=b0c hS' b3 (by decide)
  have hl2:Lx G8 G9:=fun b ro cs h=>b0c (e:=a0h) hS' b3 (by decide) b ro cs h
  rw [a0v hS' b3]
  simp
  refine fun _=>⟨_,⟨2,0,[],(List.range m).map fun i=>j0o L m n D q.bs 1 i,[]⟩,k1,rfl,⟨y1,y2,_,_,_,rfl,ky1.setS hS' b3 (by decide),ky2.setS hS' b3 (by decide),Sls.nil,?_,Sls.nil⟩,.inl ⟨Tf L,bf bs,D,hTab,rfl,rfl,rfl,rfl,?_,?_,rfl⟩⟩
  ·rw [List.map_map]
   exact b0v.lx2 kd.sls hl1 hl2
  ·exact Z0L hTab (by rw [← hjj];exact hend)
  ·rw [← hjj];exact hneg
 ·have hcz:¬ c0A (Tf L m jj) 0 < 0:=by unfold c0A;rw [i1k hneg];split <;> omega
  simp [hcz]
  have h00r:∀ r,r < m→¬ bf bs r < 2 * n + m→Tf L r (2 * n + m)=0:=hTab.full (by rw [← hjj];omega)
  simp [m0Y,b5]
  refine a0S.mono (K0J hT hx.1 hS hTab hBd h00r hm hn hR) ?_
  rintro _ G6 ⟨hQ1,hK1⟩
  clear hTab hS hT hBz hBd1 hz ej hend hcL hmL fw ehi hvi h00r
  obtain ⟨L,D,bs,k1,sD,hT,hS,hTab,hFr,hZr⟩:=hQ1
  replace hx:=p0S hx hK1 (i1j _)
  replace b1:=hFr.at_ b1
  replace b2:=hFr.at_ b2
  replace b3:=hFr.at_ b3
  replace b5:=hFr.atQ b5
  clear hFr hK1
  simp
  simp [m0Z,b5]
  refine a0S.mono (x0V hT hx.1 hS hTab hBd (.inr hm1) hm hn hR) ?_
  rintro _ G7 ⟨⟨z2,rfl,hQ1⟩,hK1⟩
  clear hTab hS hT
  obtain ⟨L',D,bs',k1,sD,hT,hS,hTab,hZr2,hFr,hend⟩:=hQ1
  replace hZr:=hZr2 hZr
  clear hZr2
  replace hx:=p0S hx hK1 (i1j _)
  replace b1:=hFr.at_ b1
  replace b2:=hFr.at_ b2
  replace b3:=hFr.at_ b3
  replace b5:=hFr.atQ b5
  clear hFr hK1
  obtain ⟨hBz,hBd1⟩:=hB _ _ _ hTab
  simp
  simp [n0a,b5]
  refine a0S.mono (o0J (Fv:=fun i=>Tf L' i (2 * n + m)) hT hx.1 hS (by omega) (by have:=hTab.pos;omega) (fun i hi=>by have:=hBz i (2 * n + m) (by omega) (i1j _);omega) hm hn (fun fl i G' R' hxx hfl hi=>by
   simp only [k1l,j1J]
   exact r0o (hT.mono hxx) hfl hS (hxx.blk b5) (by omega))) ?_
  rintro wX G8 ⟨oX,hx8⟩
  replace b1:=hx8.blk b1
  replace b2:=hx8.blk b2
  replace b3:=hx8.blk b3
  replace b5:=hx8.blk b5
  replace hT:=hT.mono hx8
  replace hx:=hx.trans hx8
  clear hx8
  simp
  rw [hm1] at hend
  rcases hend with ⟨rfl,hopt⟩ | ⟨j,rfl,hj,hTj,hle⟩
  rotate_left
  ·simp [i0Y]
   refine c0J ?_
   simp [k0U]
   refine (c0h (n:=0) (by have:=hx.1;omega) (by omega) (by omega)).mono ?_
   rintro _ G6 ⟨⟨y1,y2,rfl,ky1,ky2⟩,hx6⟩
   have hz0:((0:Int):Rat)=0:=rfl
   rw [hz0] at ky1 ky2 ⊢
   replace b1:=hx6.blk b1
   replace b2:=hx6.blk b2
   replace b3:=hx6.blk b3
   replace b5:=hx6.blk b5
   replace hT:=hT.mono hx6
   replace oX:=oX.mono a0Q hx6
   replace hx:=hx.trans hx6
   clear hx6
   simp [b5]
   refine (L0g hT (by have:=hx.1;omega) hS (fun r c=>by have:=hS.lz_all hBz r c;omega) (by omega) (by have:=hTab.pos;omega) hj hm hn).mono ?_
   rintro wd G8 ⟨kd,hx8⟩
   replace b1:=hx8.blk b1
   replace b2:=hx8.blk b2
   replace b3:=hx8.blk b3
   replace b5:=hx8.blk b5
   replace ky1:=ky1.mono hx8
   replace ky2:=ky2.mono hx8
   replace hT:=hT.mono hx8
   replace oX:=oX.mono a0Q hx8
   replace hx:=hx.trans hx8
   clear hx8
   have hbk:=hT.blk
   have hsz:=hx.1
   have hdc:=kd.cells;have hdp:=kd.plain
   have hxc:=oX.cells
   have c1:=ky1.cells;have c2:=ky2.cells
   simp [b5,hbk,hdc,hxc,c1,c2]
   have hP1:P8 ≠ H.size + 3:=fun h=>by rw [h,b3] at b5;simp at b5
   have hP2:p' ≠ H.size + 3:=fun h=>by rw [h,b3] at hbk;have:=(Blk.row.inj hbk).2.1;cases F <;> exact i1A this (by decide)
   simp [b3,hsz,ky1.plain,ky2.plain,c1,c2,hdc,hdp,hxc,hP1,hP2]
   generalize hS':Array.setIfInBounds G8 _ _=G9
   have hl1:LxT a0b G8 G9:=b0c hS' b3 (by decide)
   have hl2:Lx G8 G9:=fun b ro cs h=>b0c (e:=a0h) hS' b3 (by decide) b ro cs h
   rw [a0v hS' b3]
   simp
   refine fun _=>⟨_,⟨3,0,(List.range n).map fun k=>Rat.divInt (ptq n (bf bs') (fun i=>Tf L' i (2 * n + m)) m k) D,[],(List.range n).map fun k=>t0j n m L' bs' D j k⟩,k1,rfl,⟨y1,y2,_,_,_,rfl,ky1.setS hS' b3 (by decide),ky2.setS hS' b3 (by decide),?_,Sls.nil,?_⟩,.inr (.inr ⟨Tf L',bf bs',D,j,hTab,rfl,rfl,rfl,fun i hi hb=>⟨hZr i hi hb _ (i1j _),hZr i hi hb _ (by omega)⟩,hj,hTj,hle,rfl,rfl⟩)⟩
   ·rw [List.map_map]
    exact b0v.lx2 oX.sls hl1 hl2
   ·rw [List.map_map]
    exact b0v.lx2 kd hl1 hl2
  simp [i0Y]
  simp [k0V]
  refine (c0h (n:=0) hx.1 (by omega) (by omega)).mono ?_
  rintro _ G9 ⟨⟨y1,y2,rfl,ky1,ky2⟩,hx8⟩
  have hz0:((0:Int):Rat)=0:=rfl
  rw [hz0] at ky1 ky2 ⊢
  replace b1:=hx8.blk b1
  replace b2:=hx8.blk b2
  replace b3:=hx8.blk b3
  replace b5:=hx8.blk b5
  replace hT:=hT.mono hx8
  replace oX:=oX.mono a0Q hx8
  replace hx:=hx.trans hx8
  clear hx8
  have hsz:=hx.1
  have c1:=ky1.cells;have c2:=ky2.cells
  simp [hsz,c1,c2,ky1.plain,ky2.plain]
  generalize hN:Array.setIfInBounds (Array.push _ _) _ _=G10
  obtain ⟨hx8,b7⟩:=new1 hN
  clear hN
  obtain ⟨P7,hP7⟩:∃ x,x=G9.size:=⟨_,rfl⟩
  rw [← hP7] at b7 ⊢
  have kC2:=kC.mono a0Q (hx.trans hx8)
  have hslC:=kC2.slen
  rw [hpC] at hslC
  have b1':=hx8.blk b1
  obtain ⟨X0,hX0⟩:∃ x,x=(List.range n).map fun k=>Rat.divInt (ptq n (bf bs') (fun i=>Tf L' i (2 * n + m)) m k) D:=⟨_,rfl⟩
  have oX0:(List.range n).map (fun k=>a0f (Rat.divInt (ptq n (bf bs') (fun i=>Tf L' i (2 * n + m)) m k) D))=X0.map a0f:=by rw [hX0,List.map_map];rfl
  rw [oX0] at oX
  have hX0l:X0.length=n:=by rw [hX0];simp
  have hX0z:∀ x ∈ X0,szR x≤Z + m + S + 1:=by
   intro x hx
   rw [hX0] at hx
   obtain ⟨k,_,rfl⟩:=j1e.1 hx
   have h1:=b0O (ptq n (bf bs') (fun i=>Tf L' i (2 * n + m)) m k) D
   have h2:=o0E (n:=n) (base:=bf bs') (Fv:=fun i=>Tf L' i (2 * n + m)) (K:=Z) (k:=k) (q:=m) (fun i hi=>hBz i _ (by omega) (i1j _))
   omega
  have hFX:=y0N hX0z
  have hFC:=hpF.mono' (show S≤Z + m + S + 1 by omega)
  have hsd:∀ i,i≤n→szR (r0x p.C (X0.map a0f) i) < 33554432:=fun i hi=>by
   have h1:=J0p hFC hFX i
   have h2:i * (2 * (Z + m + S + 1) + 3)≤n * (2 * (Z + m + S) + 10):=j1f hi (by omega)
   rw [i1D,i1W] at hZ
   omega
  simp [k0W,b1',hslC]
  refine c0W (n:=n) (fun i ρ G=>ρ 5=.pointer (some ⟨H.size + 2,0,none⟩)∧ρ 6=.pointer (some ⟨H.size + 3,0,none⟩)∧ρ 8=.pointer (some ⟨P8,0,none⟩)∧ρ 10=.int .i64 (m1:Int)∧ρ 12=wX∧ρ 13=.pointer (some ⟨P7,0,none⟩)∧ρ 84=sC0∧Ext G9 G∧∃ y1 y2,a0e.blk G P7=.row false a0b [.bool (a0f (r0x p.C (X0.map a0f) i)).1.1,y1,.bool (a0f (r0x p.C (X0.map a0f) i)).2.1,y2]∧Lim G y1 (a0f (r0x p.C (X0.map a0f) i)).1.2∧Lim G y2 (a0f (r0x p.C (X0.map a0f) i)).2.2) rfl rfl (by decide) (by omega) (by simp) (by simp) ?_ ?_ ?_ ?_
  ·exact ⟨by simp,by simp,by simp,by simp,by simp,by simp,by simp,hx8,y1,y2,b7,ky1.mono hx8,ky2.mono hx8⟩
  ·intro i ρ ρ' G h hI;simpa [h] using hI
  ·clear b7 ky1 ky2 c1 c2 y1 y2 hx8 kC2 hslC b1'
   rintro i ρ G hi gi gn ⟨g5,g6,g8,g10,g12,g13,g84,hxa,y1,y2,b7,ky1,ky2⟩
   have hxG:=hx.trans hxa
   have kC2:=kC.mono a0Q hxG
   have hiC:i < p.C.length:=by omega
   have iaC:=kC2.ia (k:=.i64) hiC
   obtain ⟨wc,ec,kc⟩:=b0v.load kC2 hiC
   obtain ⟨s5,s6,rfl,k5,k6⟩:=kc
   have c5:=k5.cells;have c6:=k6.cells
   have hsz:=hxG.1
   simp [k0X,gi,g84,iaC,ec,c5,c6,k5.plain,k6.plain,hsz]
   generalize hN:Array.setIfInBounds (Array.push _ _) _ _=G11
   obtain ⟨hxb,b8⟩:=new1 hN
   clear hN
   replace b7:=hxb.blk b7
   replace ky1:=ky1.mono hxb
   replace ky2:=ky2.mono hxb
   replace k5:=k5.mono hxb
   replace k6:=k6.mono hxb
   replace hxa:=hxa.trans hxb
   have hiX:i < (X0.map a0f).length:=by simp;omega
   have oX2:=oX.mono a0Q hxa
   have iaX:=oX2.sls.ia (k:=.i64) hiX
   obtain ⟨wx,ex,kx⟩:=b0v.load oX2.sls hiX
   refine a0G ?_
   simp [k0Y,g12,g13,b7,b8,iaX,ex]
   have hlC:=hpF _ (i1p hiC)
   have hlX:=hFX _ (i1p hiX)
   have hv1:=c0y hlC.2.1 hlC.2.2
   have hv2:=c0y hlX.2.1 hlX.2.2
   refine (f0w (a:=p.C[i]) ⟨s5,s6,rfl,k5,k6⟩ kx (by have:=hxb.1;omega) (by omega) (by omega)).mono ?_
   rintro wm G12 ⟨km,hxc⟩
   replace b7:=hxc.blk b7
   replace ky1:=ky1.mono hxc
   replace ky2:=ky2.mono hxc
   replace hxa:=hxa.trans hxc
   have hsm:=g0C (b0u p.C[i]) (b0u (X0.map a0f)[i])
   have hsz2:H.size≤G12.size:=(hx.trans hxa).1
   have hsdi:=hsd i (by omega)
   simp
   refine (b0E (a:=a0f (r0x p.C (X0.map a0f) i)) ⟨y1,y2,rfl,ky1,ky2⟩ km hsz2 (by rw [a0J];omega) (by rw [a0J];omega)).mono ?_
   rintro _ G13 ⟨⟨y3,y4,rfl,ky3,ky4⟩,hxc⟩
   replace b7:=hxc.blk b7
   replace hxa:=hxa.trans hxc
   have hdot:b0u (a0f (r0x p.C (X0.map a0f) i)) + b0u (a0f (b0u p.C[i] * b0u (X0.map a0f)[i]))=r0x p.C (X0.map a0f) (i + 1):=by
    rw [a0w,a0w,r0x,i1h,i1h,i1m hiC,i1m hiX];rfl
   rw [hdot] at ky3 ky4 ⊢
   have c3:=ky3.cells;have c4:=ky4.cells
   have hsz3:H.size≤G13.size:=(hx.trans hxa).1
   have hP7l:H.size≤P7:=by rw [hP7];exact hx.1
   simp [g13,b7,c3,c4,ky3.plain,ky4.plain,hP7l]
   generalize hS':Array.setIfInBounds G13 _ _=G14
   exact Rnd.mk (by simp [gi]) (by simp [gn]) ⟨by simp [g5],by simp [g6],by simp [g8],by simp [g10],by simp [g12],by simp [g13],by simp [g84],a0Y hS' hxa (by omega),y3,y4,a0v hS' b7,ky3.setS hS' b7 (by decide),ky4.setS hS' b7 (by decide)⟩
  ·clear b7 ky1 ky2 c1 c2 y1 y2 hx8 kC2 hslC b1'
   rintro ρ G gi gn ⟨g5,g6,g8,g10,g12,g13,g84,hxa,y1,y2,b7,ky1,ky2⟩
   replace b1:=hxa.blk b1
   replace b2:=hxa.blk b2
   replace b3:=hxa.blk b3
   replace b5:=hxa.blk b5
   replace hT:=hT.mono hxa
   replace oX:=oX.mono a0Q hxa
   replace hx:=hx.trans hxa
   clear hxa
   refine c0J ?_
   have kq:b0P G (.agg #[.bool (a0f q.cb).1.1,s1,.bool (a0f q.cb).2.1,s2]) (a0f q.cb):=⟨s1,s2,rfl,q1.mono hx,q2.mono hx⟩
   simp [k0Z,g13,g12,g8,g10,g5,b7,b5,b2]
   refine (o0x (q:=q) hT (by have:=hx.1;omega) hS (h00.mono hx) hql kq (g:=m1) (by omega) (by omega) (by have:=hTab.pos;omega) (fun i hi=>by have:=hBz m1 (2 * n + i) (by omega) (by omega);omega) hK hcs hc0 hm hn).mono ?_
   rintro wd G8 ⟨kd,hx8⟩
   replace b1:=hx8.blk b1
   replace b2:=hx8.blk b2
   replace b3:=hx8.blk b3
   replace b5:=hx8.blk b5
   replace b7:=hx8.blk b7
   replace ky1:=ky1.mono hx8
   replace ky2:=ky2.mono hx8
   replace hT:=hT.mono hx8
   replace oX:=oX.mono a0Q hx8
   replace hx:=hx.trans hx8
   clear hx8
   have hbk:=hT.blk
   have hsz:=hx.1
   have hdc:=kd.cells
   have hxc:=oX.cells
   have c1:=ky1.cells;have c2:=ky2.cells
   simp [g8,g6,b5,hbk,hdc,hxc,c1,c2]
   have hP1:P8 ≠ H.size + 3:=fun h=>by rw [h,b3] at b5;simp at b5
   have hP2:p' ≠ H.size + 3:=fun h=>by rw [h,b3] at hbk;have:=(Blk.row.inj hbk).2.1;cases F <;> exact i1A this (by decide)
   simp [b3,hsz,ky1.plain,ky2.plain,c1,c2,hdc,hxc,hP1,hP2]
   generalize hS':Array.setIfInBounds G8 _ _=G9
   have hl1:LxT a0b G8 G9:=b0c hS' b3 (by decide)
   have hl2:Lx G8 G9:=fun b ro cs h=>b0c (e:=a0h) hS' b3 (by decide) b ro cs h
   rw [a0v hS' b3]
   simp
   refine fun _=>⟨_,⟨1,r0x p.C (X0.map a0f) n,X0,(List.range m).map fun i=>j0o L' m1 n D q.bs q.cb i,[]⟩,k1,rfl,⟨y1,y2,_,_,_,rfl,ky1.setS hS' b3 (by decide),ky2.setS hS' b3 (by decide),b0v.lx2 oX.sls hl1 hl2,?_,Sls.nil⟩,.inr (.inl ⟨Tf L',bf bs',D,hTab,rfl,rfl,fun i hi hb=>hZr i hi hb _ (i1j _),hopt,hX0,by rw [hm1];rfl,rfl⟩)⟩
   rw [List.map_map]
   exact b0v.lx2 kd.sls hl1 hl2
end
section
open Go SX
set_option maxHeartbeats 1000000
variable {H G:a0e}
theorem Z0C {f:Nat→Int} {K:Nat}:∀ {n:Nat},(∀ i,i < n→lz (f i)≤K)→lz (sm f n)≤K + n
 | 0,_=>by rw [sm,c0K];omega
 | n + 1,h=>by
  have h1:=Z0C (n:=n) (fun i hi=>h i (by omega))
  have h2:=h n (by omega)
  have h3:=s0s (sm f n) (f n)
  rw [sm];omega
theorem M0W {M:Nat}:∀ {k:Nat},k≤M→fac k≤M ^ k
 | 0,_=>by simp [fac]
 | k + 1,h=>by
  rw [fac,i1G,i1L]
  exact j1f (M0W (by omega)) h
theorem w0B {z:Int} {M k:Nat} (hM:M≤4294967296) (h:z.natAbs≤fac M * (4294967296 ^ k) ^ M):lz z≤M * (k + 1) + 1:=by
 apply s0t
 have h1:fac M≤4294967296 ^ M:=i1t (M0W (i1j M)) (Nat.pow_le_pow_left hM M)
 have h2:fac M * (4294967296 ^ k) ^ M≤4294967296 ^ (M * (k + 1)):=by
  rw [← Nat.pow_mul,i1w,j1s,Nat.add_comm,k1h,i1L M k]
  exact i1r _ h1
 have h3:4294967296 ^ (M * (k + 1)) < 4294967296 ^ (M * (k + 1) + 1):=Nat.pow_lt_pow_right (by omega) (by omega)
 omega
section
variable {q:ScT} {n m K:Nat} (hA:∀ r c,lz (Tf q.A r c)≤K)
include hA
theorem V0u {r c:Nat}:lz (e0v n m (Tf q.A) (bbq q n) r c)≤K + 1:=by
 unfold e0v
 split
 ·have:=hA r c;omega
 ·split
  ·rw [f0p];have:=hA r (c - n);omega
  ·split
   ·split
    ·rw [g0F];omega
    ·rw [c0K];omega
   ·have:=hA r n;unfold bbq;omega
theorem s0u {r c:Nat}:lz (sg (bbq q n) r * e0v n m (Tf q.A) (bbq q n) r c)≤K + 1:=by
 have h:=V0u (n:=n) (m:=m) hA (r:=r) (c:=c)
 unfold sg
 split
 ·rw [Int.neg_mul,Int.one_mul,f0p];exact h
 ·rw [Int.one_mul];exact h
theorem N0d {i c:Nat}:lz (t0y q n m i c)≤K + 1 + i:=by
 unfold t0y
 refine Z0C fun r _=>?_
 split
 ·exact s0u hA
 ·rw [c0K];omega
theorem V0t (hC:∀ c,lz (ccq q c)≤K) {c r:Nat}:lz (i0f n m (Tf q.A) (bbq q n) (ccq q) c r)≤K + 1 + m:=by
 unfold i0f
 split
 ·have:=s0u (n:=n) (m:=m) hA (r:=r) (c:=c);omega
 ·split
  ·rw [f0p];exact N0d (i:=m) hA
  ·have:lz (cost n (ccq q) c)≤K:=by
    unfold cost;split
    ·exact hC _
    ·split
     ·rw [f0p];exact hC _
     ·rw [c0K];omega
   rw [f0p];omega
theorem N0e (hC:∀ c,lz (ccq q c)≤K) (hm:m < 1048576) {T:Nat→Nat→Int} {base:Nat→Nat} {D:Int} (h:U0m q n m T base D) :
  (∀ r c,r < m + 2→c≤2 * n + m→lz (T r c)≤(m + 2) * (K + m + 2) + 1)∧lz D≤(m + 2) * (K + m + 2) + 1:=by
 obtain ⟨h1,h2⟩:=Tab.bound h (B:=4294967296 ^ (K + 1 + m)) (Nat.one_le_pow _ _ (by omega)) (fun c r _ _=>by
  have h3:=B0s (i0f n m (Tf q.A) (bbq q n) (ccq q) c r)
  have h4:=V0t (n:=n) (m:=m) hA hC (c:=c) (r:=r)
  exact l1h (i1C h3 (j1y (by omega) h4)))
 have e:K + 1 + m + 1=K + m + 2:=by omega
 refine ⟨fun r c hr hc=>?_,?_⟩
 ·have:=w0B (M:=m + 2) (by omega) (h1 r c hr hc)
  rw [e] at this;exact this
 ·have:=w0B (M:=m + 2) (by omega) h2
  rw [e] at this;exact this
end
structure y0n (H:a0e) (u v:Value) (p:LPt) (q:ScT) (n m:Nat):Prop where
 hp:LPV H u p
 hv:SV H v q
 qn:q.n=n
 qA:q.A.length=m
 qC:q.C.length=n
 pC:p.C.length=n
 qb:q.bs.length=m
 row:∀ r ∈ q.A,r.length=n + 1
 b0:q.cb ≠ 0
 m1:m < 1048576
 n1:n < 1048576
 sz:∃ K S,(∀ r c,lz (Tf q.A r c)≤K)∧(∀ c,lz (ccq q c)≤K)∧Few S p.C∧(∀ x ∈ q.bs,szR x≤K)∧szR q.cb≤K∧(n + 1) * (2 * ((m + 2) * (K + m + 2) + 1 + m + S) + 10) < 16777216
theorem y0n.mono {u v:Value} {p:LPt} {q:ScT} {n m:Nat} (h:y0n H u v p q n m) (hx:Ext H G):y0n G u v p q n m :=
 { h with hp:=h.hp.mono hx,hv:=h.hv.mono hx }
theorem t0p {F:RK} {fl:Nat} {R:a0E} {u v:Value} {p:LPt} {q:ScT} {n m:Nat} (h:y0n H u v p q n m) (hf:fl≤H.size) (hR:q0E F R) :
  a0S env fl (m0b F) [eV,u,v] H (fun r H'=>p0G q p.C n m r H'∧Ext H H') R:=by
 obtain ⟨K,S,hA,hC,hS,hb,hc,hs⟩:=h.sz
 have hm:=h.m1
 have h1:K + m + 2≤(m + 2) * (K + m + 2):=by
  have:1 * (K + m + 2)≤(m + 2) * (K + m + 2):=i1r _ (by omega)
  omega
 have h2:1 * (2 * ((m + 2) * (K + m + 2) + 1 + m + S) + 10)≤(n + 1) * (2 * ((m + 2) * (K + m + 2) + 1 + m + S) + 10):=i1r _ (by omega)
 have hK:K + m < 16777214:=by omega
 exact v0L h.hp h.hv h.qn h.qA h.qC h.pC hS h.qb h.row hf (fun r c=>by have:=hA r c;omega) (fun c=>by have:=hC c;omega) (fun i c hi _=>by have:=N0d (n:=n) (m:=m) hA (i:=i) (c:=c);omega)
  (fun T base D hT=>N0e hA hC hm hT) hs (fun x hx=>by have:=hb x hx;omega) (by omega) h.b0 hm h.n1 hR
end
section
open Go SX
set_option maxHeartbeats 4000000
variable {fl:Nat} {H G:a0e} {R:a0E} {v w u:Value}
theorem LPV.shape {p:LPt} (h:LPV H u p):∃ a b c d,u=.agg #[a,b,c,d]:=by
 obtain ⟨_,_,_,rfl,_⟩:=h;exact ⟨_,_,_,_,rfl⟩
theorem SV.shape {q:ScT} (h:SV H v q):∃ s:Array Value,v=.agg s∧s.size=8:=by
 obtain ⟨_,_,_,_,_,rfl,_⟩:=h;exact ⟨_,rfl,rfl⟩
theorem z0M.shape {a:o0p} (h:z0M H v a):∃ s:Array Value,v=.agg s∧s.size=8∧s.toList.all a0t=true:=by
 obtain ⟨s1,s2,sX,sY,sR,rfl,h1,h2,h3,h4,h5⟩:=h
 exact ⟨_,rfl,rfl,by simp [h1.plain,h2.plain,h3.plain,h4.plain,h5.plain]⟩
theorem z0h:env.code K0p=none:=by rfl
theorem z0g {p:LPt} {q:ScT} {n m:Nat} (h:y0n H u v p q n m) (hf:fl≤H.size) :
  a0S env fl K0p [u,v] H (fun r H'=>((∃ ans k,r=.tuple #[ans,.int .i64 k,.bool true]∧p0G q p.C n m (.tuple #[ans,.int .i64 k]) H') ∨ (∃ ans,r=.tuple #[ans,.int .i64 0,.bool false]∧∃ s1 s2 s3 s4 s5 s6 s7 s8,ans=.agg #[s1,s2,s3,s4,s5,s6,s7,s8]∧[s1,s2,s3,s4,s5,s6,s7,s8].all a0t=true))∧Ext H H') R:=by
 obtain ⟨a,b,c,d,rfl⟩:=h.hp.shape
 obtain ⟨s,rfl,hs8⟩:=h.hv.shape
 obtain ⟨N,hN⟩:=t0p (F:=.few) (fl:=max fl H.size) (R:=fun w=>w=v0O) h (by omega) rfl
 change o0f _ _ (b0p env N (max fl H.size) r0X _ H) at hN
 refine ⟨N + 1,?_⟩
 have e1:b0p env (N + 1) fl K0p [.agg #[a,b,c,d],.agg s] H=d0Z [(.int .i64 0),(.bool false),(.slice none 0 0),(.bool false),(.slice none 0 0),(.slice none 0 0),(.slice none 0 0),(.slice none 0 0)] H (b0p env N (max fl H.size) r0X [.agg #[],.agg #[a,b,c,d],.agg s] H):=by
  rw [b0p]
  simp only [z0h]
  rw [show env.know K0p [.agg #[a,b,c,d],.agg s]=none from rfl]
  show (if K0p=K0p then _ else _)=_
  rw [i1n rfl]
  show (if (4=4∧s.size=8) then _ else _)=_
  rw [i1n ⟨rfl,hs8⟩]
 rw [e1]
 cases hc:b0p env N (max fl H.size) r0X [.agg #[],.agg #[a,b,c,d],.agg s] H with
 | bad=>rw [show eV=Value.agg #[] from rfl,hc] at hN;exact i1A hN id
 | pan w =>
  rw [show eV=Value.agg #[] from rfl,hc] at hN
  have hw:w=v0O:=hN
  subst hw
  exact ⟨.inr ⟨_,rfl,_,_,_,_,_,_,_,_,rfl,rfl⟩,Ext.refl H⟩
 | ok r =>
  rw [show eV=Value.agg #[] from rfl,hc] at hN
  obtain ⟨hQ,hx⟩:=hN
  obtain ⟨r,H'⟩:=r
  obtain ⟨ans,a',k,rfl,hA,hQ⟩:=hQ
  obtain ⟨t,rfl,ht8,htp⟩:=hA.shape
  have e2:d0Z [(.int .i64 0),(.bool false),(.slice none 0 0),(.bool false),(.slice none 0 0),(.slice none 0 0),(.slice none 0 0),(.slice none 0 0)] H (.ok (.tuple #[.agg t,.int .i64 k],H'))=.ok (.tuple #[.agg t,.int .i64 k,.bool true],H'):=by
   show (if t.size=8∧t.toList.all a0t=true then _ else _)=_
   rw [i1n ⟨ht8,htp⟩]
  rw [e2]
  exact ⟨.inl ⟨_,k,rfl,_,a',k,rfl,hA,hQ⟩,hx⟩
end
end Go.Proofs.YtilekhkgobmolaaGreat.AI
