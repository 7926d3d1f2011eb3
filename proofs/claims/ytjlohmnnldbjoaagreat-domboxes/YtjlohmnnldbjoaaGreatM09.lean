/- Part 10 of the proof: AiSy7, AiSy8, AiSy9, AiRat4, AiSz1. -/
import Derived.Test.YtjlohmnnldbjoaaGreatM06
import Derived.Test.YtjlohmnnldbjoaaGreatM08
set_option linter.unusedVariables false
set_option linter.unusedSimpArgs false
set_option linter.unusedSectionVars false
/- simplex.made: what holds while the first tableau is made. -/
namespace Go.Proofs.YtjlohmnnldbjoaaGreat.AI
section
open Go SX
set_option maxHeartbeats 4000000
variable {fl:Nat} {H G:a0f} {R:a0A} {v w u:Value}
theorem d0S {o:Option Nat} {H0 G':a0f} (h:Ext H0 G) (hx:d0G o G G') (ho:∀ b,o=some b→H0.size≤b):Ext H0 G':=by
 refine ⟨Nat.le_trans h.1 hx.1,fun b hb=>?_⟩
 rw [hx.2 b (Nat.lt_of_lt_of_le hb h.1) (fun he=>by have:=ho b he;omega)]
 exact h.2 b hb
theorem d0D.insert {eN sz fl2:Nat} {P:a0f→List Value→Int→Prop} {a b:List Value} {A B:List (List Int)} {x:Value} {X:List Int} (h:d0D eN sz P fl G (a ++ b) (A ++ B)) (hl:a.length=A.length)
  (hx:a0Z P fl2 G eN sz x X) (hf:fl≤fl2) (hn:∀ w ∈ a ++ b,∀ k,slB w=some k→k < fl2):d0D eN sz P fl G (a ++ x :: b) (A ++ X :: B):=by
 have hlen:=h.len
 simp only [List.length_append] at hlen
 have key:∀ i (h1:i < (A ++ X :: B).length) (h2:i < (a ++ x :: b).length),(i=a.length∧(a ++ x :: b)[i]=x∧(A ++ X :: B)[i]=X) ∨
   ∃ j,∃ (j1:j < (A ++ B).length) (j2:j < (a ++ b).length),(a ++ x :: b)[i]=(a ++ b)[j]∧(A ++ X :: B)[i]=(A ++ B)[j]∧j=(if i < a.length then i else i - 1)∧i ≠ a.length:=by
  intro i h1 h2
  simp only [List.length_append,List.length_cons] at h1 h2
  by_cases hi:i < a.length
  ·exact .inr ⟨i,by simp;omega,by simp;omega,by rw [List.getElem_append_left hi,List.getElem_append_left hi],by rw [List.getElem_append_left (by omega),List.getElem_append_left (by omega)],by rw [if_pos hi],by omega⟩
  ·by_cases he:i=a.length
   ·subst he
    exact .inl ⟨rfl,by simp,by rw [List.getElem_append_right (by omega)];simp [hl]⟩
   ·obtain ⟨d,rfl⟩:∃ d,i=a.length + 1 + d:=⟨i - a.length - 1,by omega⟩
    refine .inr ⟨a.length + d,by simp;omega,by simp;omega,?_,?_,by rw [if_neg hi];omega,he⟩
    ·rw [List.getElem_append_right (by omega),List.getElem_append_right (by omega)]
     simp only [show a.length + 1 + d - a.length=d + 1 by omega,List.getElem_cons_succ,show a.length + d - a.length=d by omega]
    ·rw [List.getElem_append_right (by omega),List.getElem_append_right (by omega)]
     simp only [show a.length + 1 + d - A.length=d + 1 by omega,List.getElem_cons_succ,show a.length + d - A.length=d by omega]
 have xge:∀ k,slB x=some k→fl2≤k:=fun k hk=>(hx.ge hk).1
 refine ⟨by simp;omega,fun i hi=>?_,fun i j hi hj hij=>?_⟩
 ·rcases key i hi (by simp at hi ⊢;omega) with ⟨_,e1,e2⟩ | ⟨j,j1,j2,e1,e2,_⟩
  ·rw [e1,e2];exact hx.low hf
  ·rw [e1,e2];exact h.own j j1
 ·rcases key i hi (by simp at hi ⊢;omega) with ⟨i0,e1,_⟩ | ⟨i',i1,i2,e1,_,ie,ine⟩ <;> rcases key j hj (by simp at hj ⊢;omega) with ⟨j0,e3,_⟩ | ⟨j',j1,j2,e3,_,je,jne⟩
  ·omega
  ·rw [e1,e3]
   cases hk:slB x with
   | none=>exact .inl rfl
   | some k =>
    right;intro h5
    have:=hn _ (List.getElem_mem j2) k h5.symm
    have:=xge k hk
    omega
  ·rw [e1,e3]
   cases hk:slB (a ++ b)[i'] with
   | none=>exact .inl rfl
   | some k =>
    right;intro h5
    have:=hn _ (List.getElem_mem i2) k hk
    have:=xge k h5.symm
    omega
  ·rw [e1,e3]
   refine h.apart i' j' i1 j1 ?_
   split at ie <;> split at je <;> omega
def u0z (G:a0f) (q:Nat):Prop:=a0f.blk G q=.row false b0N [.int .i64 0]
def t0U (G:a0f) (q:Nat):Prop:=Bx G q 0
theorem u0z.mono {G':a0f} {q:Nat} (h:u0z G q) (hx:Ext G G'):u0z G' q:=hx.blk h
theorem t0U.mono {G':a0f} {q:Nat} (h:t0U G q) (hx:Ext G G'):t0U G' q:=Bx.mono h hx
theorem u0z.off {G':a0f} {q:Nat} {o:Option Nat} (h:u0z G q) (hx:d0G o G G') (hl:Lx G G') (ho:o ≠ some q):u0z G' q:=(hx.2 q (a0k h) ho).trans h
theorem t0U.off {G':a0f} {q:Nat} {o:Option Nat} (h:t0U G q) (hx:d0G o G G') (hl:Lx G G') (ho:o ≠ some q):t0U G' q:=Bx.off h hx hl ho
theorem u0z.lxt {G':a0f} {q:Nat} (h:u0z G q) (hx:LxT b0N G G') (hl:Lx G G'):u0z G' q:=hx _ _ _ h
theorem t0U.lxt {G':a0f} {q:Nat} (h:t0U G q) (hx:LxT a0c G G') (hl:Lx G G'):t0U G' q:=by obtain ⟨s,h1,h2⟩:=h;exact ⟨s,hx _ _ _ h1,h2.lx hl⟩
theorem u0z.lt {q:Nat} (h:u0z G q):q < G.size:=a0k h
theorem t0U.lt {q:Nat} (h:t0U G q):q < G.size:=by obtain ⟨s,h,_⟩:=h;exact a0k h
structure d0q (H:a0f) (P2 P3 P6 P7 p n m:Nat) (sv:List Value) (rs:List Value) (M:List (List Int)) (sR sD sB:Value) (vs:List Value) (bs:List Nat) (G:a0f):Prop where
 ext:Ext H G
 b2:a0f.blk G P2=.row false a0h []
 b3:a0f.blk G P3=.row false a0q sv
 b6:a0f.blk G P6=.row false a0p [.pointer (some ⟨p,0,none⟩)]
 b7:u0z G P7
 bp:a0f.blk G p=.row false a0b [.int .i64 (n:Int),.int .i64 (m:Int),.int .i64 ((2 * n + m:Nat):Int),sR,.int .i64 1,sB,.int .i64 0]
 d:True
 rows:d0D b0N 1 PF H.size G rs M
 p7:∀ w ∈ rs,slB w ≠ some P7
 heads:a0Z PV H.size G b0L 1 sR vs
 basis:a0Z PK H.size G d0z 1 sB bs
 low:H.size≤p
section
variable {P2 P3 P6 P7 p n m i j:Nat} {sv rs vs:List Value} {M:List (List Int)} {sR sD sB:Value} {bs:List Nat} {x:Int}
theorem d0q.mono {G':a0f} (h:d0q H P2 P3 P6 P7 p n m sv rs M sR sD sB vs bs G) (hx:Ext G G'):d0q H P2 P3 P6 P7 p n m sv rs M sR sD sB vs bs G' :=
 ⟨h.ext.trans hx,hx.blk h.b2,hx.blk h.b3,hx.blk h.b6,h.b7.mono hx,hx.blk h.bp,trivial,h.rows.mono v0k hx,h.p7,h.heads.mono l0m hx,h.basis.mono l0l hx,h.low⟩
theorem d0q.store (h:d0q H P2 P3 P6 P7 p n m sv rs M sR sD sB vs bs G) (hi:i < M.length) (hj:j < M[i].length) {w:Value} (hw:f0n G w x) :
  ∃ G',d0F H.size G 1 (adr 1 (rs[i]'(by have:=h.rows.len;omega)) j) w=some G'∧d0q H P2 P3 P6 P7 p n m sv rs (M.set i (M[i].set j x)) sR sD sB vs bs G'∧d0G (slB (rs[i]'(by have:=h.rows.len;omega))) G G'∧Lx G G'∧G.size≤G'.size:=by
 obtain ⟨G',h1,h2,h3,h4⟩:=h.rows.store v0k hi hj (w:=w) (x:=x) hw.st.1 hw.st.2.1 hw.st.2.2
 have hr:=h.rows.own i hi
 have lx:∀ {e:Nat},b0N ≠ e→LxT e G G':=fun hne=>hr.lxT hne h3
 exact ⟨G',h1,⟨d0S h.ext h3 (fun b hb=>(hr.ge hb).1),lx (by decide) _ _ _ h.b2,lx (by decide) _ _ _ h.b3,lx (by decide) _ _ _ h.b6,h.b7.off h3 h4 (h.p7 _ (List.getElem_mem _)),lx (by decide) _ _ _ h.bp,trivial,h2,h.p7,h.heads.lxm (lx (by decide)) (fun _ _ h=>h),h.basis.lxm (lx (by decide)) (fun _ _ h=>h),h.low⟩,h3,h4,h3.1⟩
theorem d0q.ia (h:d0q H P2 P3 P6 P7 p n m sv rs M sR sD sB vs bs G) (hi:i < M.length) (hj:j < M[i].length):iaV 1 (rs[i]'(by have:=h.rows.len;omega)) (.int .i64 j)=some (adr 1 (rs[i]'(by have:=h.rows.len;omega)) j):=(h.rows.own i hi).sls.ia hj
theorem d0q.num (h:d0q H P2 P3 P6 P7 p n m sv rs M sR sD sB vs bs G) (hi:i < M.length) (hj:j < M[i].length) :
  ∃ w,b0F G false 1 (adr 1 (rs[i]'(by have:=h.rows.len;omega)) j)=some w∧f0n G w (Tf M i j):=by
 rw [n0p hi hj]
 obtain ⟨w,h1,h2,h3⟩:=(h.rows.own i hi).sls.load1 (j:=j) hj;exact ⟨w,h1,by simpa using h2,h3⟩
theorem d0q.bl (h:d0q H P2 P3 P6 P7 p n m sv rs M sR sD sB vs bs G) (hi:i < M.length) (hj:j < M[i].length):∃ b,AI.blkOf (adr 1 (rs[i]'(by have:=h.rows.len;omega)) j)=[b]∧P3 ≠ b∧b < G.size:=by
 obtain ⟨b,h1,h2,h3⟩:=(h.rows.own i hi).adr_blk hj
 refine ⟨b,h1,?_,h2⟩
 rintro rfl
 exact (h.rows.own i hi).ne h.b3 (by decide) h3
theorem d0q.dv (h:d0q H P2 P3 P6 P7 p n m sv rs M sR sD sB vs bs G):f0n G (.int .i64 1) 1:=⟨rfl,by unfold e0l;omega⟩
theorem d0q.ins {a b:List Value} {A B:List (List Int)} {G':a0f} {w:Value} {X:List Int} (h:d0q H P2 P3 P6 P7 p n m sv (a ++ b) (A ++ B) sR sD sB vs bs G) (hl:a.length=A.length) (hw:a0Z PF G.size G' b0N 1 w X) (hx:Ext G G'):d0q H P2 P3 P6 P7 p n m sv (a ++ w :: b) (A ++ X :: B) sR sD sB vs bs G':=by
 have h':=h.mono hx
 refine ⟨h'.ext,h'.b2,h'.b3,h'.b6,h'.b7,h'.bp,h'.d,h'.rows.insert hl hw h.ext.1 (fun y hy k hk=>?_),fun y hy=>?_,h'.heads,h'.basis,h'.low⟩
 ·obtain ⟨i,hi,rfl⟩:=List.getElem_of_mem hy
  exact ((h.rows.own i (by have:=h.rows.len;omega)).ge hk).2
 ·have h7:=h.b7.lt
  rcases List.mem_append.1 hy with h1 | h1
  ·exact h.p7 _ (List.mem_append.2 (.inl h1))
  ·rcases List.mem_cons.1 h1 with h1 | h1
   ·rw [h1];intro hk;have:=(hw.ge hk).1;omega
   ·exact h.p7 _ (List.mem_append.2 (.inr h1))
theorem d0q.push2 (h:d0q H P2 P3 P6 P7 p n m sv rs M sR sD sB vs bs G) {w:Value} (hw:a0u w=true) {b:Nat} (hv:vs.length < 1073741824) (hb:bs.length < 1073741824) :
  ∃ sR' G1 sB' G2,h0V H.size (G.push (.row false b0L [w])) b0L 1 24 sR (.slice (some ⟨G.size,0,none⟩) 1 1)=some (sR',G1)∧h0V H.size (G1.push (.row false d0z [.int .i64 (b:Int)])) d0z 1 8 sB (.slice (some ⟨G1.size,0,none⟩) 1 1)=some (sB',G2) ∧
   a0f.blk G1 P6=.row false a0p [.pointer (some ⟨p,0,none⟩)]∧a0f.blk G1 p=.row false a0b [.int .i64 (n:Int),.int .i64 (m:Int),.int .i64 ((2 * n + m:Nat):Int),sR,.int .i64 1,sB,.int .i64 0] ∧
   a0f.blk G2 P6=.row false a0p [.pointer (some ⟨p,0,none⟩)]∧a0f.blk G2 p=.row false a0b [.int .i64 (n:Int),.int .i64 (m:Int),.int .i64 ((2 * n + m:Nat):Int),sR,.int .i64 1,sB,.int .i64 0]∧a0K sR' = [sR']∧a0u sR' = true∧a0K sB' = [sB']∧a0u sB' = true ∧
   (∀ k,k ∈ AI.blkW sR→k ≠ P6∧k ≠ p)∧(∀ k,k ∈ AI.blkW sB→k ≠ P6) ∧
   ∀ G3,Array.setIfInBounds G2 p (.row false a0b [.int .i64 (n:Int),.int .i64 (m:Int),.int .i64 ((2 * n + m:Nat):Int),sR',.int .i64 1,sB',.int .i64 0])=G3→d0q H P2 P3 P6 P7 p n m sv rs M sR' sD sB' (vs ++ [w]) (bs ++ [b]) G3:=by
 obtain ⟨sR',G1,a1,o1,x1,y1⟩:=a0Z.app (P:=PV) (sz:=1) (e:=b0L) (by decide) (fun _ _ _ _ _ h=>h) h.heads (e2:=b0L) (c:=1) (bytes:=24) (new:=[w]) (x:=w) rfl rfl (by simp [hw]) hv (by omega) (by omega) h.ext.1
 have lx1:∀ {e:Nat},b0L ≠ e→LxT e G G1:=fun hne=>h.heads.lxT hne x1
 have e1:Ext H G1:=y1 H (Nat.le_refl _) h.ext
 obtain ⟨sB',G2,a2,o2,x2,y2⟩:=a0Z.app (P:=PK) (sz:=1) (e:=d0z) (by decide) (fun _ _ _ _ _ h=>h) (h.basis.lxm (Q':=PK) (lx1 (by decide)) (fun _ _ h=>h)) (e2:=d0z) (c:=1) (bytes:=8) (new:=[.int .i64 (b:Int)]) (x:=b) rfl rfl rfl hb (by omega) (by omega) e1.1
 have hob:=h.basis.lxm (Q':=PK) (G':=G1) (lx1 (by decide)) (fun _ _ h=>h)
 have lx2:∀ {e:Nat},d0z ≠ e→LxT e G1 G2:=fun hne=>hob.lxT hne x2
 have e2:Ext H G2:=y2 H (Nat.le_refl _) e1
 have p1:=lx1 (by decide) _ _ _ h.bp
 have p2:=lx2 (by decide) _ _ _ p1
 have q1:=lx1 (by decide) _ _ _ h.b6
 have q2:=lx2 (by decide) _ _ _ q1
 have nR6:=h.heads.ne h.b6 (by decide)
 have nRp:=h.heads.ne h.bp (by decide)
 have nB6:=h.basis.ne h.b6 (by decide)
 have hR:=h.heads.blkOf
 have hB:=h.basis.blkOf
 refine ⟨sR',G1,sB',G2,a1,a2,q1,p1,q2,p2,o1.cells.1,o1.cells.2,o2.cells.1,o2.cells.2,fun k hk=>?_,fun k hk=>?_,fun G3 hS=>?_⟩
 ·rcases hR with h0 | ⟨c,h0,h1⟩
  ·rw [h0] at hk;simp at hk
  ·rw [h0] at hk
   have:k=c:=by simpa using hk
   subst this
   exact ⟨fun h5=>nR6 (by rw [h1,h5]),fun h5=>nRp (by rw [h1,h5])⟩
 ·rcases hB with h0 | ⟨c,h0,h1⟩
  ·rw [h0] at hk;simp at hk
  ·rw [h0] at hk
   have:k=c:=by simpa using hk
   subst this
   exact fun h5=>nB6 (by rw [h1,h5])
 ·have lx3:∀ {e:Nat},a0b ≠ e→LxT e G2 G3:=fun hne=>a0V hS p2 hne
  have lxx:∀ {e:Nat},b0L ≠ e→d0z ≠ e→a0b ≠ e→LxT e G G3:=fun h1 h2 h3 b ro cs hb=>lx3 h3 b ro cs (lx2 h2 b ro cs (lx1 h1 b ro cs hb))
  have hl:Lx G G3:=lxx (by decide) (by decide) (by decide)
  exact ⟨b0x hS e2 h.low,lxx (by decide) (by decide) (by decide) _ _ _ h.b2,lxx (by decide) (by decide) (by decide) _ _ _ h.b3,lxx (by decide) (by decide) (by decide) _ _ _ h.b6,h.b7.lxt (lxx (by decide) (by decide) (by decide)) hl,a0C hS p2,trivial,⟨h.rows.len,fun r hr=>(h.rows.own r hr).lxm (lxx (by decide) (by decide) (by decide)) (fun cs x hx=>v0k.lx _ _ _ _ hl hx),h.rows.apart⟩,h.p7,
   (o1.lxm (Q':=PV) (lx2 (by decide)) (fun _ _ h=>h)).lxm (lx3 (by decide)) (fun _ _ h=>h),o2.lxm (lx3 (by decide)) (fun _ _ h=>h),h.low⟩
theorem d0q.one (h:d0q H P2 P3 P6 P7 p n m sv rs M sR sD sB vs bs G) (hf:fl≤G.size) (hb:n < 1048576) (hc:m < 1048576) :
  a0P env fl k0K [.pointer (some ⟨P6,0,none⟩),.pointer (some ⟨P7,0,none⟩)] G (fun r G'=>a0Z PF G.size G' b0N 1 r (List.replicate (2 * n + m + 1) 0)∧Ext G G') R:=by
 exact k0M hf h.b6 h.bp h.b7 (by omega)
end
structure d0p (H:a0f) (P2 P3 P6 P7 p n m:Nat) (sv:List Value) (rs:List Value) (M:List (List Int)) (sR sD sB:Value) (vs:List Value) (bs:List Nat) (G:a0f):Prop where
 ext:Ext H G
 b2:a0f.blk G P2=.row false a0g []
 b3:a0f.blk G P3=.row false a0q sv
 b6:a0f.blk G P6=.row false a0o [.pointer (some ⟨p,0,none⟩)]
 b7:t0U G P7
 bp:a0f.blk G p=.row false a0a [.int .i64 (n:Int),.int .i64 (m:Int),.int .i64 ((2 * n + m:Nat):Int),sR,.bool (a0n 1).1,sD,sB,.int .i64 0]
 d:Lim G sD (a0n 1).2
 rows:d0D a0c 2 PI H.size G rs M
 p7:∀ w ∈ rs,slB w ≠ some P7
 heads:a0Z PV H.size G a0Q 1 sR vs
 basis:a0Z PK H.size G d0z 1 sB bs
 low:H.size≤p
section
variable {P2 P3 P6 P7 p n m i j:Nat} {sv rs vs:List Value} {M:List (List Int)} {sR sD sB:Value} {bs:List Nat} {x:Int}
theorem d0p.mono {G':a0f} (h:d0p H P2 P3 P6 P7 p n m sv rs M sR sD sB vs bs G) (hx:Ext G G'):d0p H P2 P3 P6 P7 p n m sv rs M sR sD sB vs bs G' :=
 ⟨h.ext.trans hx,hx.blk h.b2,hx.blk h.b3,hx.blk h.b6,h.b7.mono hx,hx.blk h.bp,h.d.mono hx,h.rows.mono v0j hx,h.p7,h.heads.mono l0m hx,h.basis.mono l0l hx,h.low⟩
theorem d0p.store (h:d0p H P2 P3 P6 P7 p n m sv rs M sR sD sB vs bs G) (hi:i < M.length) (hj:j < M[i].length) {w:Value} (hw:f0i G w x) :
  ∃ G',d0F H.size G 2 (adr 2 (rs[i]'(by have:=h.rows.len;omega)) j) w=some G'∧d0p H P2 P3 P6 P7 p n m sv rs (M.set i (M[i].set j x)) sR sD sB vs bs G'∧d0G (slB (rs[i]'(by have:=h.rows.len;omega))) G G'∧Lx G G'∧G.size≤G'.size:=by
 obtain ⟨G',h1,h2,h3,h4⟩:=h.rows.store v0j hi hj (w:=w) (x:=x) hw.st.1 hw.st.2.1 hw.st.2.2
 have hr:=h.rows.own i hi
 have lx:∀ {e:Nat},a0c ≠ e→LxT e G G':=fun hne=>hr.lxT hne h3
 exact ⟨G',h1,⟨d0S h.ext h3 (fun b hb=>(hr.ge hb).1),lx (by decide) _ _ _ h.b2,lx (by decide) _ _ _ h.b3,lx (by decide) _ _ _ h.b6,h.b7.off h3 h4 (h.p7 _ (List.getElem_mem _)),lx (by decide) _ _ _ h.bp,h.d.lx h4,h2,h.p7,h.heads.lxm (lx (by decide)) (fun _ _ h=>h),h.basis.lxm (lx (by decide)) (fun _ _ h=>h),h.low⟩,h3,h4,h3.1⟩
theorem d0p.ia (h:d0p H P2 P3 P6 P7 p n m sv rs M sR sD sB vs bs G) (hi:i < M.length) (hj:j < M[i].length):iaV 2 (rs[i]'(by have:=h.rows.len;omega)) (.int .i64 j)=some (adr 2 (rs[i]'(by have:=h.rows.len;omega)) j):=(h.rows.own i hi).sls.ia hj
theorem d0p.num (h:d0p H P2 P3 P6 P7 p n m sv rs M sR sD sB vs bs G) (hi:i < M.length) (hj:j < M[i].length) :
  ∃ w,b0F G true 2 (adr 2 (rs[i]'(by have:=h.rows.len;omega)) j)=some w∧f0i G w (Tf M i j):=by
 rw [n0p hi hj]
 obtain ⟨cs,h1,_,h3⟩:=Sls.load (h.rows.own i hi).sls (j:=j) hj (by omega);exact ⟨_,h1,h3⟩
theorem d0p.bl (h:d0p H P2 P3 P6 P7 p n m sv rs M sR sD sB vs bs G) (hi:i < M.length) (hj:j < M[i].length):∃ b,AI.blkOf (adr 2 (rs[i]'(by have:=h.rows.len;omega)) j)=[b]∧P3 ≠ b∧b < G.size:=by
 obtain ⟨b,h1,h2,h3⟩:=(h.rows.own i hi).adr_blk hj
 refine ⟨b,h1,?_,h2⟩
 rintro rfl
 exact (h.rows.own i hi).ne h.b3 (by decide) h3
theorem d0p.dv (h:d0p H P2 P3 P6 P7 p n m sv rs M sR sD sB vs bs G):f0i G (.agg #[.bool (a0n 1).1,sD]) 1:=⟨sD,rfl,h.d⟩
theorem d0p.ins {a b:List Value} {A B:List (List Int)} {G':a0f} {w:Value} {X:List Int} (h:d0p H P2 P3 P6 P7 p n m sv (a ++ b) (A ++ B) sR sD sB vs bs G) (hl:a.length=A.length) (hw:a0Z PI G.size G' a0c 2 w X) (hx:Ext G G'):d0p H P2 P3 P6 P7 p n m sv (a ++ w :: b) (A ++ X :: B) sR sD sB vs bs G':=by
 have h':=h.mono hx
 refine ⟨h'.ext,h'.b2,h'.b3,h'.b6,h'.b7,h'.bp,h'.d,h'.rows.insert hl hw h.ext.1 (fun y hy k hk=>?_),fun y hy=>?_,h'.heads,h'.basis,h'.low⟩
 ·obtain ⟨i,hi,rfl⟩:=List.getElem_of_mem hy
  exact ((h.rows.own i (by have:=h.rows.len;omega)).ge hk).2
 ·have h7:=h.b7.lt
  rcases List.mem_append.1 hy with h1 | h1
  ·exact h.p7 _ (List.mem_append.2 (.inl h1))
  ·rcases List.mem_cons.1 h1 with h1 | h1
   ·rw [h1];intro hk;have:=(hw.ge hk).1;omega
   ·exact h.p7 _ (List.mem_append.2 (.inr h1))
theorem d0p.push2 (h:d0p H P2 P3 P6 P7 p n m sv rs M sR sD sB vs bs G) {w:Value} (hw:a0u w=true) {b:Nat} (hv:vs.length < 1073741824) (hb:bs.length < 1073741824) :
  ∃ sR' G1 sB' G2,h0V H.size (G.push (.row false a0Q [w])) a0Q 1 24 sR (.slice (some ⟨G.size,0,none⟩) 1 1)=some (sR',G1)∧h0V H.size (G1.push (.row false d0z [.int .i64 (b:Int)])) d0z 1 8 sB (.slice (some ⟨G1.size,0,none⟩) 1 1)=some (sB',G2) ∧
   a0f.blk G1 P6=.row false a0o [.pointer (some ⟨p,0,none⟩)]∧a0f.blk G1 p=.row false a0a [.int .i64 (n:Int),.int .i64 (m:Int),.int .i64 ((2 * n + m:Nat):Int),sR,.bool (a0n 1).1,sD,sB,.int .i64 0] ∧
   a0f.blk G2 P6=.row false a0o [.pointer (some ⟨p,0,none⟩)]∧a0f.blk G2 p=.row false a0a [.int .i64 (n:Int),.int .i64 (m:Int),.int .i64 ((2 * n + m:Nat):Int),sR,.bool (a0n 1).1,sD,sB,.int .i64 0]∧a0K sR' = [sR']∧a0u sR' = true∧a0K sB' = [sB']∧a0u sB' = true ∧
   (∀ k,k ∈ AI.blkW sR→k ≠ P6∧k ≠ p)∧(∀ k,k ∈ AI.blkW sB→k ≠ P6) ∧
   ∀ G3,Array.setIfInBounds G2 p (.row false a0a [.int .i64 (n:Int),.int .i64 (m:Int),.int .i64 ((2 * n + m:Nat):Int),sR',.bool (a0n 1).1,sD,sB',.int .i64 0])=G3→d0p H P2 P3 P6 P7 p n m sv rs M sR' sD sB' (vs ++ [w]) (bs ++ [b]) G3:=by
 obtain ⟨sR',G1,a1,o1,x1,y1⟩:=a0Z.app (P:=PV) (sz:=1) (e:=a0Q) (by decide) (fun _ _ _ _ _ h=>h) h.heads (e2:=a0Q) (c:=1) (bytes:=24) (new:=[w]) (x:=w) rfl rfl (by simp [hw]) hv (by omega) (by omega) h.ext.1
 have lx1:∀ {e:Nat},a0Q ≠ e→LxT e G G1:=fun hne=>h.heads.lxT hne x1
 have e1:Ext H G1:=y1 H (Nat.le_refl _) h.ext
 obtain ⟨sB',G2,a2,o2,x2,y2⟩:=a0Z.app (P:=PK) (sz:=1) (e:=d0z) (by decide) (fun _ _ _ _ _ h=>h) (h.basis.lxm (Q':=PK) (lx1 (by decide)) (fun _ _ h=>h)) (e2:=d0z) (c:=1) (bytes:=8) (new:=[.int .i64 (b:Int)]) (x:=b) rfl rfl rfl hb (by omega) (by omega) e1.1
 have hob:=h.basis.lxm (Q':=PK) (G':=G1) (lx1 (by decide)) (fun _ _ h=>h)
 have lx2:∀ {e:Nat},d0z ≠ e→LxT e G1 G2:=fun hne=>hob.lxT hne x2
 have e2:Ext H G2:=y2 H (Nat.le_refl _) e1
 have p1:=lx1 (by decide) _ _ _ h.bp
 have p2:=lx2 (by decide) _ _ _ p1
 have q1:=lx1 (by decide) _ _ _ h.b6
 have q2:=lx2 (by decide) _ _ _ q1
 have nR6:=h.heads.ne h.b6 (by decide)
 have nRp:=h.heads.ne h.bp (by decide)
 have nB6:=h.basis.ne h.b6 (by decide)
 have hR:=h.heads.blkOf
 have hB:=h.basis.blkOf
 refine ⟨sR',G1,sB',G2,a1,a2,q1,p1,q2,p2,o1.cells.1,o1.cells.2,o2.cells.1,o2.cells.2,fun k hk=>?_,fun k hk=>?_,fun G3 hS=>?_⟩
 ·rcases hR with h0 | ⟨c,h0,h1⟩
  ·rw [h0] at hk;simp at hk
  ·rw [h0] at hk
   have:k=c:=by simpa using hk
   subst this
   exact ⟨fun h5=>nR6 (by rw [h1,h5]),fun h5=>nRp (by rw [h1,h5])⟩
 ·rcases hB with h0 | ⟨c,h0,h1⟩
  ·rw [h0] at hk;simp at hk
  ·rw [h0] at hk
   have:k=c:=by simpa using hk
   subst this
   exact fun h5=>nB6 (by rw [h1,h5])
 ·have lx3:∀ {e:Nat},a0a ≠ e→LxT e G2 G3:=fun hne=>a0V hS p2 hne
  have lxx:∀ {e:Nat},a0Q ≠ e→d0z ≠ e→a0a ≠ e→LxT e G G3:=fun h1 h2 h3 b ro cs hb=>lx3 h3 b ro cs (lx2 h2 b ro cs (lx1 h1 b ro cs hb))
  have hl:Lx G G3:=lxx (by decide) (by decide) (by decide)
  exact ⟨b0x hS e2 h.low,lxx (by decide) (by decide) (by decide) _ _ _ h.b2,lxx (by decide) (by decide) (by decide) _ _ _ h.b3,lxx (by decide) (by decide) (by decide) _ _ _ h.b6,h.b7.lxt (lxx (by decide) (by decide) (by decide)) hl,a0C hS p2,h.d.lx hl,⟨h.rows.len,fun r hr=>(h.rows.own r hr).lxm (lxx (by decide) (by decide) (by decide)) (fun cs x hx=>v0j.lx _ _ _ _ hl hx),h.rows.apart⟩,h.p7,
   (o1.lxm (Q':=PV) (lx2 (by decide)) (fun _ _ h=>h)).lxm (lx3 (by decide)) (fun _ _ h=>h),o2.lxm (lx3 (by decide)) (fun _ _ h=>h),h.low⟩
theorem d0p.one (h:d0p H P2 P3 P6 P7 p n m sv rs M sR sD sB vs bs G) (hf:fl≤G.size) (hb:n < 1048576) (hc:m < 1048576) :
  a0P env fl k0J [.pointer (some ⟨P6,0,none⟩),.pointer (some ⟨P7,0,none⟩)] G (fun r G'=>a0Z PI G.size G' a0c 2 r (List.replicate (2 * n + m + 1) 0)∧Ext G G') R:=by
 obtain ⟨s7,b7,k7⟩:=h.b7;exact k0G hf h.b6 h.bp b7 k7 (by omega)
end
end
/- simplex.made, of either ring: the tableau's numbers; of small ones there is no panic. -/
section
open Go SX
set_option maxHeartbeats 4000000
variable {fl:Nat} {H G:a0f} {R:a0A} {v w u:Value}
theorem i0w {z:Int} (hf:fl≤H.size) (hz:e0l z) :
  a0P env fl p0k [.int .i64 z] H (fun r H'=>r=.int .i64 z∧Ext H H') R:=by
 refine a0l Q0C hf (h:=?_)
 intro ρ h0
 obtain ⟨h1,h2⟩:=hz
 have h1':¬ z≤-2147483648:=by omega
 have h2':¬ 2147483648≤z:=by omega
 simp [F0i,q0I,q0J,q0L,h0,h1,h2,h1',h2']
theorem w0s {z:Int} (h:b0q H v (a0n z)) (hf:fl≤H.size) (hz:e0l z) :
  a0P env fl f0m [eV,v] H (fun r H'=>f0n H' r z∧Ext H H') R:=by
 have hl:lz z < 1073741824:=by
  have:lz z≤1:=o0f (by obtain ⟨h1,h2⟩:=hz;omega)
  omega
 refine a0l Q0B hf (h:=?_)
 intro ρ h0
 obtain ⟨s0,rfl,k0⟩:=id h
 simp [F0h,q0E,q0F,h0,eV,k0.cells,k0.plain]
 generalize hG:Array.push (Array.push H _) _=G
 obtain ⟨hx2,_,b0⟩:=push2 hG
 have hx:=Ext.refl H
 clear hG
 replace hx:=hx.trans hx2
 refine (j0W (h.mono hx) hx.1 hl).mono ?_
 rintro _ G2 ⟨rfl,hx2⟩
 replace hx:=hx.trans hx2
 unfold toV
 have hfit:n0V z=true:=by
  unfold n0V
  obtain ⟨h1,h2⟩:=hz
  simp;omega
 simp [q0G,hfit,q0H]
 refine (i0w hx.1 hz).mono ?_
 rintro _ G3 ⟨rfl,hx2⟩
 simp
 exact fun _=>⟨rfl,hz⟩
theorem r0u {z:Int} (h:b0q H v (a0n z)) (hf:fl≤H.size) (hz:e0l z):a0P env fl f0m [eV,v] H (fun r H'=>f0n H' r z∧Ext H H') R:=w0s h hf hz
theorem r0e {z:Int} (h:b0q H v (a0n z)) (hf:fl≤H.size) (_:e0l z):a0P env fl f0G [eV,v] H (fun r H'=>f0i H' r z∧Ext H H') R:=g0K h hf
theorem w0q {a b:Int} {p:Nat} {cs:List Value} {va vb:Value} (hf:fl≤H.size) (hb:a0f.blk H p=.row false a0b cs) (ha:f0n H va a) (hbz:f0n H vb b) (la:lz a < 67108864) (lb:lz b < 67108864) (hR:e0E R) :
  a0P env fl u0u [.pointer (some ⟨p,0,none⟩),va,vb] H (fun r H'=>f0n H' r (a - b)∧Ext H H') R:=by
 obtain ⟨rfl,ha⟩:=ha;obtain ⟨rfl,hbz⟩:=hbz
 exact l0Z hf hb ha hbz hR
theorem v0F {a b:Int} {p:Nat} {cs:List Value} {va vb:Value} (hf:fl≤H.size) (hb:a0f.blk H p=.row false a0a cs) (ha:f0i H va a) (hbz:f0i H vb b) (la:lz a < 67108864) (lb:lz b < 67108864) (hR:f0v R) :
  a0P env fl u0r [.pointer (some ⟨p,0,none⟩),va,vb] H (fun r H'=>f0i H' r (a - b)∧Ext H H') R:=l0F hf hb ha hbz la lb
theorem Sls.load1x {α:Type} {P:a0f→List Value→α→Prop} {e:Nat} {v:Value} {l:List α} (h:Sls P H e 1 v l) (hx:Ext H G) {j:Nat} (hj:j < l.length):∃ w,b0F G false 1 (adr 1 v j)=some w∧P H [w] l[j]:=by
 obtain ⟨cs,h1,h2⟩:=h
 refine ⟨_,h1.load1 hx hj,?_⟩
 have h3:=h2 j hj
 have hl:=h1.1
 have:(cs.drop (j * 1)).take 1=[cs.getD j undef]:=by
  have hjc:j < cs.length:=by omega
  have e1:cs.getD j undef=cs[j]:=by simp [List.getD_eq_getElem?_getD,hjc]
  rw [Nat.mul_one,List.drop_eq_getElem_cons hjc,e1];rfl
 rw [this] at h3;exact h3
theorem n0Y {e bytes:Nat} {l:List Value} {a b:Value} (h:a0Z PV fl G e 1 v l) (ha:a0u a=true) (hb:a0u b=true) (hl:l.length + 2≤1073741824) (hby:bytes≤1024) (hfl:fl≤G.size) :
  ∃ v' G',h0V fl (G.push (.row false e [a,b])) e 1 bytes v (.slice (some ⟨G.size,0,none⟩) 2 2)=some (v',G')∧a0Z PV fl G' e 1 v' (l ++ [a,b])∧d0G (slB v) G G'∧(∀ H0,H0.size≤fl→Ext H0 G→Ext H0 G'):=by
 obtain ⟨cs,h1,h2⟩:=h
 have hx:Sl (G.push (.row false e [a,b])) e 1 (.slice (some ⟨G.size,0,none⟩) 2 2) 2 [a,b]:=(Own.mk (fl:=0) a0y rfl (Nat.zero_le _)).sl
 obtain ⟨v',G',a1,a2,a3,a4⟩:=j0x (h1.mono (Ext.push (Ext.refl G))) hx (by simp [ha,hb]) hl hby (by omega) (bytes:=bytes) (by simp;omega)
 have hcl:=h1.1
 rw [Nat.mul_one] at hcl
 refine ⟨v',G',a1,⟨cs ++ [a,b],by simpa using a2,fun k hk=>?_⟩,⟨?_,fun c hc hne=>?_⟩,fun H0 k1 k2=>a4 H0 k1 k2.push⟩
 ·have hcv:cs=l:=by
   apply List.ext_getElem hcl
   intro j j1 j2
   have h3:=h2 j j2
   rw [Nat.mul_one,List.drop_eq_getElem_cons j1] at h3
   have:[cs[j]]=[l[j]]:=h3
   simpa using this
  subst hcv
  show ((cs ++ [a,b]).drop (k * 1)).take 1=[(cs ++ [a,b])[k]]
  rw [Nat.mul_one,List.drop_eq_getElem_cons hk];rfl
 ·have:=a3.1;simp at this;omega
 ·rw [a3.2 c (by simp;omega) hne,d0H hc]
theorem R0i {G3:a0f} {z1 z2 r2:Blk} (hN:Array.setIfInBounds (Array.push (Array.push G z1) z2) (G.size + 1) r2=G3):Ext G G3∧a0f.blk G3 G.size=z1∧a0f.blk G3 (G.size + 1)=r2:=by
 rw [← hN]
 exact ⟨(Ext.refl G).push.push.set (Nat.le_succ _),by rw [b0g (Nat.succ_ne_self _)];simp,by rw [a0R (by simp)]⟩
theorem c0X {W i j r c:Nat} {L:List (List Int)} {x:Int} (hi:i < L.length) (hj:j < L[i].length):Tf (L.set i (L[i].set j x)) r c=if r=i∧c=j then x else Tf L r c:=by
 unfold Tf
 simp only [List.getD_eq_getElem?_getD,List.getElem?_set]
 by_cases hri:i=r
 ·subst hri
  simp only [if_true,hi,Option.getD_some,List.getElem?_set,true_and]
  by_cases hcj:j=c
  ·subst hcj;simp [hj]
  ·rw [if_neg hcj,if_neg (fun h=>hcj h.symm),List.getElem?_eq_getElem hi];rfl
 ·rw [if_neg hri,if_neg (fun h=>hri h.1.symm)]
def Rec (W:Nat) (M:List (List Int)):Prop:=∀ i (h:i < M.length),M[i].length=W
theorem Rec.set {W i j:Nat} {M:List (List Int)} {x:Int} (h:Rec W M) (hi:i < M.length):Rec W (M.set i (M[i].set j x)):=by
 intro r hr
 have hr':r < M.length:=by simpa using hr
 by_cases hri:r=i
 ·subst hri;simp [h r hr']
 ·rw [List.getElem_set_ne (by omega)];exact h r hr'
theorem Rec.ins {W i:Nat} {M:List (List Int)} {X:List Int} (h:Rec W M) (hX:X.length=W):Rec W (M.take i ++ X :: M.drop i):=by
 intro r hr
 have hm:(M.take i ++ X :: M.drop i)[r] ∈ M.take i ++ X :: M.drop i:=List.getElem_mem _
 rcases List.mem_append.1 hm with h1 | h1
 ·obtain ⟨k,hk,e⟩:=List.getElem_of_mem (List.mem_of_mem_take h1);rw [← e];exact h k hk
 ·rcases List.mem_cons.1 h1 with h1 | h1
  ·rw [h1];exact hX
  ·obtain ⟨k,hk,e⟩:=List.getElem_of_mem (List.mem_of_mem_drop h1);rw [← e];exact h k hk
theorem I0Y {i r c:Nat} {M:List (List Int)} {X:List Int} (hi:i≤M.length):Tf (M.take i ++ X :: M.drop i) r c=if r < i then Tf M r c else if r=i then X.getD c 0 else Tf M (r - 1) c:=by
 have hl:(M.take i).length=i:=by simp;omega
 unfold Tf
 simp only [List.getD_eq_getElem?_getD]
 by_cases h1:r < i
 ·rw [if_pos h1,List.getElem?_append_left (by omega),List.getElem?_take,if_pos h1]
 ·rw [if_neg h1,List.getElem?_append_right (by omega),hl]
  by_cases h2:r=i
  ·subst h2;simp
  ·rw [if_neg h2,List.getElem?_cons,if_neg (by omega),List.getElem?_drop,show i + (r - i - 1)=r - 1 by omega]
theorem c0v {n c:Nat}:(List.replicate n (0:Int)).getD c 0=0:=by
 rw [List.getD_eq_getElem?_getD,List.getElem?_replicate];split <;> rfl
end
/- simplex.made, of either ring. -/
section
open Go SX
set_option maxHeartbeats 4000000
variable {fl:Nat} {H G:a0f} {R:a0A} {v w u:Value}
def bbq (q:ScT) (n r:Nat):Int:=Tf q.A r n
def ccq (q:ScT) (c:Nat):Int:=q.C.getD c 0
def h0f (q:ScT) (n m i c:Nat):Int:=sm (fun r=>if bbq q n r < 0 then sg (bbq q n) r * d0d n m (Tf q.A) (bbq q n) r c else 0) i
def N0p (fl n m:Nat) (q:ScT) (r:Value) (H':a0f):Prop:=∃ p L bs sR sD sB vs,r=.pointer (some ⟨p,0,none⟩)∧b0B fl H' p n m L 1 bs 0 sR sD sB vs∧ShT n m L bs∧(∀ r c,r < m + 2→c≤2 * n + m→Tf L r c=f0Q n m (Tf q.A) (bbq q n) (ccq q) c r)∧∀ r,r < m→bf bs r=e0y n m (bbq q n) r
def J0h (H:a0f) (p P7 n m W:Nat) (q:ScT) (sv:List Value) (sA sD w9 w10:Value) (i:Nat) (ρ:Nat→Value) (G:a0f):Prop :=
 ρ 2=.pointer (some ⟨H.size,0,none⟩)∧ρ 3=.pointer (some ⟨H.size + 1,0,none⟩)∧ρ 6=.pointer (some ⟨p + 1,0,none⟩)∧ρ 8=.func (.func k0K) #[] #[.pointer (some ⟨p + 1,0,none⟩),.pointer (some ⟨P7,0,none⟩)]∧ρ 9=w9∧ρ 10=w10∧ρ 77=sA ∧
  ∃ vs bs M sR sB,d0q H H.size (H.size + 1) (p + 1) P7 p n m sv (vs ++ [w9,w10]) M sR sD sB vs bs G∧vs.length=i∧bs.length=i∧M.length=i + 2∧Rec W M ∧
   (∀ r c,r < i→c < W→Tf M r c=sg (bbq q n) r * d0d n m (Tf q.A) (bbq q n) r c)∧(∀ c,c < W→Tf M i c = -h0f q n m i c)∧(∀ c,c < W→Tf M (i + 1) c = -cost n (ccq q) c)∧∀ r,r < i→bf bs r=e0y n m (bbq q n) r
theorem m0a {q:ScT} {n m:Nat} (h:SV H v q) (hn0:q.n=n) (hAl:q.A.length=m) (hCl:q.C.length=n) (hrow:∀ r ∈ q.A,r.length=n + 1) (hf:fl≤H.size) (hzA:∀ r c,lz (Tf q.A r c) < 67108864) (hzC:∀ c,lz (ccq q c) < 67108864) (hzL:∀ i c,i≤m→c≤2 * n + m→lz (h0f q n m i c) < 67108864) (hm:m < 1048576) (hn:n < 1048576) (hR:e0E R) :
  a0P env fl w0c [eV,v] H (fun r H'=>N0p H.size n m q r H'∧Ext H H') R:=by
 obtain ⟨sA,sBy,sC,s1,s2,rfl,qA,qB,qC,q1,q2⟩:=h
 rw [hn0]
 refine a0l V0i hf (h:=?_)
 intro ρ h0
 have w1:IntKind.i64.wrap (2 * (n:Int))=2 * (n:Int):=a0L (by omega) (by omega)
 have w2:IntKind.i64.wrap (2 * (n:Int) + m)=2 * (n:Int) + m:=a0L (by omega) (by omega)
 have e2:((2 * n + m:Nat):Int)=2 * (n:Int) + m:=by omega
 have f1:e0l 1:=by unfold e0l;omega
 have f0:e0l 0:=by unfold e0l;omega
 have hslA:=qA.slen
 rw [hAl] at hslA
 simp [H0Y,A0V,h0,eV]
 generalize hG:Array.push (Array.push H _) _=G
 obtain ⟨hx,b2,b3⟩:=push2 hG
 clear hG
 simp [A0W,b3,hslA]
 refine a0v ?_
 simp [A0X,b2,b3,w1,w2]
 refine (c0i (n:=1) (by have:=hx.1;omega) (by omega) (by omega)).mono ?_
 rintro _ G1 ⟨kone,hx2⟩
 replace hx:=hx.trans hx2
 replace b2:=hx2.blk b2
 replace b3:=hx2.blk b3
 simp
 refine (r0u kone (by have:=hx.1;omega) f1).mono ?_
 rintro wd G2 ⟨kd,hx2⟩
 replace hx:=hx.trans hx2
 replace b2:=hx2.blk b2
 replace b3:=hx2.blk b3
 have hsz:=hx.1
 have hsz':H.size≤G2.size + 1:=by omega
 obtain ⟨rfl,_⟩:=kd
 have kd:True:=trivial
 obtain ⟨sD,_⟩:∃ x:Value,True:=⟨.nilFunc,trivial⟩
 simp [hsz']
 generalize hN:Array.setIfInBounds (Array.push (Array.push _ _) _) _ _=G3
 obtain ⟨hx2,bp,b6⟩:=R0i hN
 clear hN
 replace hx:=hx.trans hx2
 replace b2:=hx2.blk b2
 replace b3:=hx2.blk b3
 have hpH:=hsz
 generalize hpp:Array.size G2=p at *
 have kz0:b0q G3 (.agg #[.bool false,.slice none 0 0]) (a0n 0):=⟨_,by rw [d0n],by rw [d0n];exact Lim.nil⟩
 simp [A0Y,b2]
 refine (r0u kz0 (by have:=hx.1;omega) f0).mono ?_
 rintro wz G4 ⟨kz,hx2⟩
 replace hx:=hx.trans hx2
 replace b2:=hx2.blk b2
 replace b3:=hx2.blk b3
 replace b6:=hx2.blk b6
 replace bp:=hx2.blk bp
 have hsz:=hx.1
 obtain ⟨rfl,_⟩:=kz
 simp [hsz]
 generalize hN:Array.setIfInBounds (Array.push _ _) _ _=G5
 obtain ⟨hx2,b7⟩:=new1 hN
 clear hN
 have b7:u0z G5 G4.size:=b7
 have kz:True:=trivial
 replace hx:=hx.trans hx2
 replace b2:=hx2.blk b2
 replace b3:=hx2.blk b3
 replace b6:=hx2.blk b6
 replace bp:=hx2.blk bp
 generalize hp7:Array.size G4=P7 at *
 rw [← e2] at bp
 have hM:d0q H H.size (H.size + 1) (p + 1) P7 p n m _ ([] ++ []) ([] ++ []) (.slice none 0 0) sD (.slice none 0 0) [] [] G5:=⟨hx,b2,b3,b6,b7,bp,kd,⟨rfl,fun i hi=>by simp at hi,fun i j hi=>by simp at hi⟩,fun w hw=>by simp at hw,a0Z.nil,a0Z.nil,hpH⟩
 clear b2 b3 b6 bp b7 hx hx2 kz kz0 kd kone hp7 hsz hsz'
 have hP7l:=hM.b7.lt
 simp [A0Z,B0a]
 refine (hM.one (by have:=hM.ext.1;omega) hn hm).mono ?_
 rintro w9 G6 ⟨hw,hx2⟩
 replace hM:d0q H H.size (H.size + 1) (p + 1) P7 p n m _ ([w9] ++ []) ([List.replicate (2 * n + m + 1) 0] ++ []) (.slice none 0 0) sD (.slice none 0 0) [] [] G6:=hM.ins rfl hw hx2
 simp
 refine (hM.one (by have:=hM.ext.1;omega) hn hm).mono ?_
 rintro w10 G7 ⟨hw',hx3⟩
 replace hM:d0q H H.size (H.size + 1) (p + 1) P7 p n m _ [w9,w10] [List.replicate (2 * n + m + 1) 0,List.replicate (2 * n + m + 1) 0] (.slice none 0 0) sD (.slice none 0 0) [] [] G7:=hM.ins rfl hw' hx3
 clear hw hw' hx2 hx3
 have b3:=hM.b3
 have hslC:=qC.slen
 rw [hCl] at hslC
 obtain ⟨W,hW⟩:∃ W,W=2 * n + m + 1:=⟨_,rfl⟩
 rw [← hW] at hM
 simp [B0b,b3,hslC]
 refine c0h (n:=n) (fun k ρ G=>ρ 2=.pointer (some ⟨H.size,0,none⟩)∧ρ 3=.pointer (some ⟨H.size + 1,0,none⟩)∧ρ 5=.int .i64 (m:Int)∧ρ 6=.pointer (some ⟨p + 1,0,none⟩)∧ρ 8=.func (.func k0K) #[] #[.pointer (some ⟨p + 1,0,none⟩),.pointer (some ⟨P7,0,none⟩)]∧ρ 9=w9∧ρ 10=w10∧ρ 50=sC ∧
   ∃ M,d0q H H.size (H.size + 1) (p + 1) P7 p n m [.int .i64 (n:Int),sA,sBy,sC,.bool (a0e q.cb).1.1,s1,.bool (a0e q.cb).2.1,s2] [w9,w10] M (.slice none 0 0) sD (.slice none 0 0) [] [] G∧M.length=2∧Rec W M∧∀ r c,c < W→Tf M r c=if r=1 then (if c < k then -ccq q c else if n≤c∧c < n + k then ccq q (c - n) else 0) else 0)
   rfl rfl (by decide) (by omega) (by simp) (by simp) ?_ ?_ ?_ ?_
 ·refine ⟨by simp,by simp,by simp,by simp,by simp,by simp,by simp,by simp,_,hM,rfl,fun i hi=>?_,fun r c hc=>?_⟩
  ·have:i=0 ∨ i=1:=by simp at hi;omega
   rcases this with rfl | rfl <;> simp
  ·have hrep:∀ r,([List.replicate W 0,List.replicate W 0].getD r ([]:List Int)).getD c 0=0:=fun r=>by
    match r with
    | 0=>exact c0v
    | 1=>exact c0v
    | r + 2=>rfl
   have:Tf [List.replicate W 0,List.replicate W 0] r c=0:=hrep r
   rw [this]
   split
   ·rw [if_neg (by omega),if_neg (by omega)]
   ·rfl
 ·intro i ρ ρ' G h hI;simpa [h] using hI
 ·clear h0 ρ hM b3
  rintro k ρ G hk gk gn ⟨g2,g3,g5,g6,g8,g9,g10,g50,M,hM,hM2,hrec,hTf⟩
  have kC:=qC.mono c0f hM.ext
  have hkC:k < q.C.length:=by omega
  obtain ⟨cs,ec,hcl,kc⟩:=Sls.load kC hkC (by omega)
  have hcq:q.C[k]=ccq q k:=by unfold ccq;rw [List.getD_eq_getElem?_getD,List.getElem?_eq_getElem hkC];rfl
  rw [hcq] at kc
  obtain ⟨sc,hcs,kc⟩:=kc
  rw [hcs] at ec
  have hsz:=hM.ext.1
  simp [B0c,gk,g50,kC.ia hkC,ec,kc.cells,kc.plain,hsz]
  generalize hN:Array.setIfInBounds (Array.push _ _) _ _=G2
  obtain ⟨hx2,b12⟩:=new1 hN
  clear hN
  replace hM:=hM.mono hx2
  replace kc:=kc.mono hx2
  generalize hP12:Array.size G=P12 at *
  simp [B0d,g2,hM.b2,b12]
  refine (p0l (z:=ccq q k) ⟨sc,rfl,kc⟩ hM.ext.1 (hzC k) hR).mono ?_
  rintro wx G8 ⟨kx,hx2⟩
  replace hM:=hM.mono hx2
  have hs8:=hM.ext.1
  clear b12 kc kC ec
  have h1L:1 < M.length:=by omega
  have hk1:k < M[1].length:=by rw [hrec 1 h1L];omega
  have hk2:n + k < M[1].length:=by rw [hrec 1 h1L];omega
  obtain ⟨bw,hbw,hne,hblt⟩:∃ b,AI.blkOf (adr 1 w10 k)=[b]∧H.size + 1 ≠ b∧b < G8.size:=hM.bl (i:=1) (j:=k) h1L hk1
  obtain ⟨zz,hzz⟩:∃ z,z=ccq q k:=⟨_,rfl⟩
  rw [← hzz] at kx
  have hlzz:lz zz < 67108864:=by rw [hzz];exact hzC k
  have hne13:True:=trivial
  have w3:IntKind.i64.wrap ((n:Int) + k)=(n:Int) + k:=a0L (by omega) (by omega)
  have i1:iaV 1 w10 (.int .i64 (k:Int))=some (adr 1 w10 k):=hM.ia (i:=1) (j:=k) h1L hk1
  have i2:iaV 1 w10 (.int .i64 ((n + k:Nat):Int))=some (adr 1 w10 (n + k)):=hM.ia (i:=1) (j:=n + k) h1L hk2
  rw [show ((n + k:Nat):Int)=(n:Int) + k by omega] at i2
  refine c0g ?_
  simp [s0G,g2,g3,g10,hM.b2,hM.b3,w3]
  refine (j0i kx (by have:=hM.ext.1;omega) hlzz).mono ?_
  rintro wn G10 ⟨kn,hx2⟩
  replace hM:=hM.mono hx2
  replace kx:=kx.mono hx2
  obtain ⟨G11,st1,hM1,_,hlx1,_⟩:=hM.store (x:=-zz) (i:=1) (j:=k) h1L hk1 kn
  have h1L':1 < (M.set 1 (M[1].set k (-zz))).length:=by simp;omega
  have hk2':n + k < (M.set 1 (M[1].set k (-zz)))[1].length:=by rw [hrec.set h1L 1 h1L'];omega
  obtain ⟨G12,st2,hM2',_,_,_⟩:=hM1.store (x:=zz) (i:=1) (j:=n + k) h1L' hk2' (kx.lx hlx1)
  replace st1:d0F H.size G10 1 (adr 1 w10 k) wn=some G11:=st1
  replace st2:d0F H.size G11 1 (adr 1 w10 (n + k)) _=some G12:=st2
  simp [i1,i2,st1,st2,hbw,hne,hne13]
  refine Rnd.mk (by simp [gk]) (by simp [gn]) ⟨by simp [g2],by simp [g3],by simp [g5],by simp [g6],by simp [g8],by simp [g9],by simp [g10],by simp [g50],_,hM2',by simp [hM2],(hrec.set h1L).set h1L',fun r c hc=>?_⟩
  rw [c0X (W:=W) h1L' hk2',c0X (W:=W) h1L hk1,hTf r c hc,hzz]
  by_cases hr:r=1
  ·subst hr
   simp only [true_and,if_true]
   by_cases c1:c=n + k
   ·rw [if_pos c1,if_neg (by omega),if_pos (by omega),c1,show n + k - n=k by omega]
   ·rw [if_neg c1]
    by_cases c2:c=k
    ·rw [if_pos c2,if_pos (by omega),c2]
    ·rw [if_neg c2]
     have p1:(c < k + 1)=(c < k):=propext (by omega)
     have p2:(n≤c∧c < n + (k + 1))=(n≤c∧c < n + k):=propext (by omega)
     simp only [p1,p2]
  ·rw [if_neg (fun h=>hr h.1),if_neg (fun h=>hr h.1),if_neg hr,if_neg hr]
 ·clear h0 ρ hM b3
  rintro ρ G gk gn ⟨g2,g3,g5,g6,g8,g9,g10,g50,M,hM,hM2,hrec,hTf⟩
  simp [s0H,g3,hM.b3,hslA]
  generalize hsv:[Value.int .i64 (n:Int),sA,sBy,sC,.bool (a0e q.cb).1.1,s1,.bool (a0e q.cb).2.1,s2]=sv at hM
  have hsv1:∃ a b c d e f,sv=.int .i64 (n:Int) :: sA :: a :: b :: c :: d :: e :: f :: []:=⟨_,_,_,_,_,_,hsv.symm⟩
  refine c0h (n:=m) (J0h H p P7 n m W q sv sA sD w9 w10) rfl rfl (by decide) (by omega) (by simp) (by simp) ?_ ?_ ?_ ?_
  ·refine ⟨by simp [g2],by simp [g3],by simp [g6],by simp [g8],by simp [g9],by simp [g10],by simp,[],[],M,_,_,hM,rfl,rfl,hM2,hrec,fun r c hr=>by omega,fun c hc=>?_,fun c hc=>?_,fun r hr=>by omega⟩
   ·rw [hTf 0 c hc,if_neg (by decide)];rfl
   ·rw [hTf 1 c hc,if_pos rfl]
    unfold cost
    by_cases c1:c < n
    ·rw [if_pos c1,if_pos c1]
    ·rw [if_neg c1,if_neg c1]
     by_cases c2:c < 2 * n
     ·rw [if_pos c2,if_pos (by omega)];omega
     ·rw [if_neg c2,if_neg (by omega)];rfl
  ·intro i ρ ρ' G h hI;unfold J0h at *;simpa [h] using hI
  ·clear g2 g3 g5 g6 g8 g9 g10 g50 hM hM2 hrec hTf gk gn ρ M G
   rintro i ρ G hi gi gm ⟨g2,g3,g6,g8,g9,g10,g77,vs,bs,M,sR,sB,hM,hvl,hbl,hML,hrec,hT1,hT2,hT3,hT4⟩
   obtain ⟨x3,x4,x5,x6,x7,x8,hsv1⟩:=hsv1
   have hiA:i < q.A.length:=by omega
   obtain ⟨wr0,er0,wr,hwr,kr⟩:=Sls.load1x qA hM.ext hiA
   have hwr':wr0=wr:=by simpa using hwr
   subst hwr'
   have hrl:q.A[i].length=n + 1:=hrow _ (List.getElem_mem hiA)
   have b3:=hM.b3
   rw [hsv1] at b3
   simp [s0I,gi,g77,(qA.mono j0U hM.ext).ia hiA,er0,s0J,g8]
   refine (hM.one (by have:=hM.ext.1;omega) hn hm).mono ?_
   rintro x G2 ⟨hx,hx2⟩
   rw [← hW] at hx
   have hMt:d0q H H.size (H.size + 1) (p + 1) P7 p n m sv (vs ++ [w9,w10]) (M.take i ++ M.drop i) sR sD sB vs bs G:=by rw [List.take_append_drop];exact hM
   have hM':=hMt.ins (by simp;omega) hx hx2
   obtain ⟨M',hM'e⟩:∃ M',M' = M.take i ++ List.replicate W 0 :: M.drop i:=⟨_,rfl⟩
   rw [← hM'e] at hM'
   have hrec':Rec W M':=by rw [hM'e];exact hrec.ins (by simp)
   have hTi:∀ r c,Tf M' r c=if r < i then Tf M r c else if r=i then 0 else Tf M (r - 1) c:=fun r c=>by
    rw [hM'e,I0Y (by omega),c0v]
   have hML':M'.length=i + 3:=by rw [hM'e];simp;omega
   clear hx hMt hM hx2 hM'e
   have hiM:i < M'.length:=by omega
   have hxi:(vs ++ x :: [w9,w10])[i]'(by simp;omega)=x:=by rw [List.getElem_append_right (by omega)];simp [hvl]
   have kr2:=kr.mono c0f hM'.ext
   obtain ⟨v',hsl,kv,hel⟩:=kr2.first (n:=n) (k:=.i64) (by omega)
   have hvs:=kv.slen
   rw [List.length_take,Nat.min_eq_left (by omega)] at hvs
   have b3:=hM'.b3
   rw [hsv1] at b3
   simp [s0K,g3,b3,hsl,hel,hvs]
   refine c0h (n:=n) (fun k ρ G=>ρ 2=.pointer (some ⟨H.size,0,none⟩)∧ρ 3=.pointer (some ⟨H.size + 1,0,none⟩)∧ρ 6=.pointer (some ⟨p + 1,0,none⟩)∧ρ 8=.func (.func k0K) #[] #[.pointer (some ⟨p + 1,0,none⟩),.pointer (some ⟨P7,0,none⟩)]∧ρ 9=w9∧ρ 10=w10∧ρ 77=sA∧ρ 78=.int .i64 (m:Int)∧ρ 79=.int .i64 (i:Int)∧ρ 14=.int .i64 (i:Int)∧ρ 15=wr0∧ρ 16=x∧ρ 89=v' ∧
    ∃ M2,d0q H H.size (H.size + 1) (p + 1) P7 p n m sv (vs ++ x :: [w9,w10]) M2 sR sD sB vs bs G∧M2.length=i + 3∧Rec W M2∧∀ r c,c < W→Tf M2 r c=if r=i then (if c < k then Tf q.A i c else if n≤c∧c < n + k then -Tf q.A i (c - n) else 0) else Tf M' r c)
    rfl rfl (by decide) (by omega) (by simp) (by simp) ?_ ?_ ?_ ?_
   ·refine ⟨by simp [g2],by simp [g3],by simp [g6],by simp [g8],by simp [g9],by simp [g10],by simp [g77],by simp [gm],by simp [gi],by simp [gi],by simp,by simp,by simp,M',hM',hML',hrec',fun r c hc=>?_⟩
    by_cases hr:r=i
    ·subst hr;rw [if_pos rfl,if_neg (by omega),if_neg (by omega),hTi,if_neg (by omega),if_pos rfl]
    ·rw [if_neg hr]
   ·intro i ρ ρ' G h hI;simpa [h] using hI
   ·clear g2 g3 g6 g8 g9 g10 g77 gi gm hM' hrec' b3 hel hvs kr2 kv ρ
    rintro k ρ G hk gk gn ⟨g2,g3,g6,g8,g9,g10,g77,gm,gi,g14,g15,g16,g89,M2,hM,hM2,hrec2,hTf⟩
    obtain ⟨v'',hsl',kv,_⟩:=(kr.mono c0f hM.ext).first (n:=n) (k:=.i64) (by omega)
    have hvv:v'' = v':=by rw [hsl] at hsl';exact (Option.some.inj hsl').symm
    subst hvv
    have hkC:k < (q.A[i].take n).length:=by rw [List.length_take];omega
    obtain ⟨cs,ec,hcl,kc⟩:=Sls.load kv hkC (by omega)
    have hcq:(q.A[i].take n)[k]=Tf q.A i k:=by rw [List.getElem_take,n0p hiA (by omega)]
    rw [hcq] at kc
    obtain ⟨sc,hcs,kc⟩:=kc
    rw [hcs] at ec
    have hsz:=hM.ext.1
    simp [s0L,gk,g89,kv.ia hkC,ec,kc.cells,kc.plain,hsz]
    generalize hN:Array.setIfInBounds (Array.push _ _) _ _=G2
    obtain ⟨hx2,b12⟩:=new1 hN
    clear hN
    replace hM:=hM.mono hx2
    replace kc:=kc.mono hx2
    generalize hP12:Array.size G=P12 at *
    simp [s0M,g2,hM.b2,b12]
    refine (p0l (z:=Tf q.A i k) ⟨sc,rfl,kc⟩ hM.ext.1 (hzA _ _) hR).mono ?_
    rintro wx G8 ⟨kx,hx2⟩
    replace hM:=hM.mono hx2
    have hs8:=hM.ext.1
    clear b12 kc kv ec
    have h1L:i < M2.length:=by omega
    have hk1:k < M2[i].length:=by rw [hrec2 i h1L];omega
    have hk2:n + k < M2[i].length:=by rw [hrec2 i h1L];omega
    obtain ⟨bw,hbw,hne,hblt⟩:∃ b,AI.blkOf (adr 1 x k)=[b]∧H.size + 1 ≠ b∧b < G8.size:=by
     have:=hM.bl (i:=i) (j:=k) h1L hk1
     rw [hxi] at this;exact this
    obtain ⟨zz,hzz⟩:∃ z,z=Tf q.A i k:=⟨_,rfl⟩
    rw [← hzz] at kx
    have hlzz:lz zz < 67108864:=by rw [hzz];exact hzA i k
    have hne13:True:=trivial
    have b3:=hM.b3
    rw [hsv1] at b3
    have w3:IntKind.i64.wrap ((n:Int) + k)=(n:Int) + k:=a0L (by omega) (by omega)
    have i1:=hM.ia (i:=i) (j:=k) h1L hk1
    have i2:=hM.ia (i:=i) (j:=n + k) h1L hk2
    rw [hxi] at i1 i2
    rw [show ((n + k:Nat):Int)=(n:Int) + k by omega] at i2
    refine c0g ?_
    simp [s0N,g2,g3,g16,hM.b2,b3,w3]
    refine (j0i kx (by have:=hM.ext.1;omega) hlzz).mono ?_
    rintro wn G10 ⟨kn,hx2⟩
    replace hM:=hM.mono hx2
    replace kx:=kx.mono hx2
    obtain ⟨G11,st1,hM1,_,hlx1,_⟩:=hM.store (x:=zz) (i:=i) (j:=k) h1L hk1 kx
    have h1L':i < (M2.set i (M2[i].set k zz)).length:=by simp;omega
    have hk2':n + k < (M2.set i (M2[i].set k zz))[i].length:=by rw [hrec2.set h1L i h1L'];omega
    obtain ⟨G12,st2,hM2',_,_,_⟩:=hM1.store (x:=-zz) (i:=i) (j:=n + k) h1L' hk2' (kn.lx hlx1)
    rw [hxi] at st1 st2
    simp [i1,i2,st1,st2,hbw,hne,hne13]
    refine Rnd.mk ?_ ?_ ?_
    ·simp [gk]
    ·simp [gn]
    refine ⟨by simp [g2],by simp [g3],by simp [g6],by simp [g8],by simp [g9],by simp [g10],by simp [g77],by simp [gm],by simp [gi],by simp [g14],by simp [g15],by simp [g16],by simp [g89],_,hM2',by simp [hM2],(hrec2.set h1L).set h1L',fun r c hc=>?_⟩
    rw [c0X (W:=W) h1L' hk2',c0X (W:=W) h1L hk1,hTf r c hc,hzz]
    by_cases hr:r=i
    ·subst hr
     simp only [true_and,if_true]
     by_cases c1:c=n + k
     ·rw [if_pos c1,if_neg (by omega),if_pos (by omega),c1,show n + k - n=k by omega]
     ·rw [if_neg c1]
      by_cases c2:c=k
      ·rw [if_pos c2,if_pos (by omega),c2]
      ·rw [if_neg c2]
       have p1:(c < k + 1)=(c < k):=propext (by omega)
       have p2:(n≤c∧c < n + (k + 1))=(n≤c∧c < n + k):=propext (by omega)
       simp only [p1,p2]
    ·rw [if_neg (fun h=>hr h.1),if_neg (fun h=>hr h.1),if_neg hr,if_neg hr]
   ·clear g2 g3 g6 g8 g9 g10 g77 gi gm hM' hrec' b3 hel hvs kr2 kv hsl ρ
    rintro ρ G gk gn ⟨g2,g3,g6,g8,g9,g10,g77,gm,gi,g14,g15,g16,g89,M2,hM,hM2,hrec2,hTf⟩
    have b3:=hM.b3
    rw [hsv1] at b3
    have bp:=hM.bp
    rw [e2] at bp
    have b6:=hM.b6
    have b2:=hM.b2
    have hiM2:i < M2.length:=by omega
    have hj1:2 * n + i < M2[i].length:=by rw [hrec2 i hiM2];omega
    have w4:IntKind.i64.wrap (2 * (n:Int) + i)=2 * (n:Int) + i:=a0L (by omega) (by omega)
    have i1:=hM.ia (i:=i) (j:=2 * n + i) hiM2 hj1
    rw [hxi,show ((2 * n + i:Nat):Int)=2 * (n:Int) + i by omega] at i1
    obtain ⟨G2,st1,hM3,_,_,_⟩:=hM.store (x:=1) (i:=i) (j:=2 * n + i) hiM2 hj1 hM.dv
    rw [hxi] at st1
    refine a0v ?_
    simp [s0O,g3,g6,g14,g16,b3,b6,bp,w1,w4,i1,st1]
    obtain ⟨M3,hM3e⟩:∃ M3,M3=M2.set i (M2[i].set (2 * n + i) 1):=⟨_,rfl⟩
    have hrec3:Rec W M3:=by rw [hM3e];exact hrec2.set hiM2
    have hML3:M3.length=i + 3:=by rw [hM3e];simp [hM2]
    have hTf3:∀ r c,c < W→Tf M3 r c=if r=i∧c=2 * n + i then 1 else Tf M2 r c:=fun r c hc=>by rw [hM3e,c0X (W:=W) hiM2 hj1]
    rw [← hM3e] at hM3
    clear b3 bp b6 b2 st1 i1
    have b3:=hM3.b3
    rw [hsv1] at b3
    have bp:=hM3.bp
    rw [e2] at bp
    have b6:=hM3.b6
    have b2:=hM3.b2
    have kr3:=kr.mono c0f hM3.ext
    have hnl:n < q.A[i].length:=by omega
    obtain ⟨cs,ec,hcl,kc⟩:=Sls.load kr3 hnl (by omega)
    have hbq:q.A[i][n]=bbq q n i:=by unfold bbq;rw [n0p hiA hnl]
    rw [hbq] at kc
    refine g0J ?_
    simp [s0P,g2,g3,g6,g15,g16,b2,b3,b6,bp,kr3.ia hnl,ec]
    have hq1:=fun (R':a0A) (hR':e0E R')=>p0l (fl:=max H.size G2.size) (R:=R') kc (by have:=hM3.ext.1;omega) (hzA i n) hR'
    refine a0P.mono (hq1 _ (j0K rfl hR)) ?_
    clear hq1
    rintro wb G4 ⟨kb,hx2⟩
    replace hM3:=hM3.mono hx2
    have hiM3:i < M3.length:=by omega
    have hj2:2 * n + m < M3[i].length:=by rw [hrec3 i hiM3];omega
    have i1:=hM3.ia (i:=i) (j:=2 * n + m) hiM3 hj2
    rw [hxi,e2] at i1
    obtain ⟨G5,st1,hM4,_,_,_⟩:=hM3.store (x:=bbq q n i) (i:=i) (j:=2 * n + m) hiM3 hj2 kb
    rw [hxi] at st1
    simp [i1,st1]
    obtain ⟨M4,hM4e⟩:∃ M4,M4=M3.set i (M3[i].set (2 * n + m) (bbq q n i)):=⟨_,rfl⟩
    have hrec4:Rec W M4:=by rw [hM4e];exact hrec3.set hiM3
    have hML4:M4.length=i + 3:=by rw [hM4e];simp [hML3]
    have hTf4:∀ r c,c < W→Tf M4 r c=if r=i then d0d n m (Tf q.A) (bbq q n) i c else Tf M' r c:=fun r c hc=>by
     rw [hM4e,c0X (W:=W) hiM3 hj2,hTf3 r c hc,hTf r c hc]
     by_cases hr:r=i
     ·subst hr
      simp only [true_and,if_true]
      unfold d0d
      by_cases c0:c=2 * n + m
      ·rw [if_pos c0,if_neg (by omega),if_neg (by omega),if_neg (by omega)]
      ·rw [if_neg c0]
       by_cases c1:c=2 * n + r
       ·rw [if_pos c1,if_neg (by omega),if_neg (by omega),if_pos (by omega),if_pos (by omega)]
       ·rw [if_neg c1]
        by_cases c2:c < n
        ·rw [if_pos c2,if_pos c2]
        ·rw [if_neg c2,if_neg c2]
         by_cases c3:c < 2 * n
         ·rw [if_pos (by omega),if_pos c3]
         ·rw [if_neg (by omega),if_neg c3]
          by_cases c4:c < 2 * n + m
          ·rw [if_pos c4,if_neg (by omega)]
          ·omega
     ·rw [if_neg (fun h=>hr h.1),if_neg (fun h=>hr h.1),if_neg hr,if_neg hr]
    rw [← hM4e] at hM4
    clear b3 bp b6 b2 st1 i1 kc ec kr3 kb hx2
    have b3:=hM4.b3
    rw [hsv1] at b3
    have bp:=hM4.bp
    rw [e2] at bp
    have b6:=hM4.b6
    have b2:=hM4.b2
    have hiM4:i < M4.length:=by omega
    have hj3:2 * n + m < M4[i].length:=by rw [hrec4 i hiM4];omega
    obtain ⟨wv,ev,fv⟩:=hM4.num (i:=i) (j:=2 * n + m) hiM4 hj3
    have i1:=hM4.ia (i:=i) (j:=2 * n + m) hiM4 hj3
    rw [hxi] at ev i1
    rw [e2] at i1
    rw [hTf4 i (2 * n + m) (by omega),if_pos rfl,e0p] at fv
    simp [s0Q,g3,g14,b3,w1,w4]
    refine a0v ?_
    simp [s0R,g2,g6,g16,b2,b6,bp,i1,ev]
    refine (f0T fv (by have:=hM4.ext.1;omega) (hzA i n)).mono ?_
    rintro _ G6 ⟨rfl,hx2⟩
    replace hM4:=hM4.mono hx2
    clear b3 bp b6 b2 ev fv i1
    by_cases hneg:bbq q n i < 0
    ·have hc:b0T (bbq q n i) 0 = -1:=by unfold b0T;rw [if_pos hneg]
     have bp:=hM4.bp
     rw [e2] at bp
     have b6:=hM4.b6
     have hslx:=(hM4.rows.own i hiM4).slen
     rw [hxi,hrec4 i hiM4] at hslx
     have w5:IntKind.i64.wrap (2 * (n:Int) + m + i)=2 * (n:Int) + m + i:=a0L (by omega) (by omega)
     have hx9:(vs ++ x :: [w9,w10])[i + 1]'(by simp;omega)=w9:=by rw [List.getElem_append_right (by omega)];simp [hvl]
     simp [hc,s0S,g6,g14,b6,bp,w5,s0T,g16,hslx]
     refine c0h (n:=W) (fun k ρ G=>ρ 2=.pointer (some ⟨H.size,0,none⟩)∧ρ 3=.pointer (some ⟨H.size + 1,0,none⟩)∧ρ 6=.pointer (some ⟨p + 1,0,none⟩)∧ρ 8=.func (.func k0K) #[] #[.pointer (some ⟨p + 1,0,none⟩),.pointer (some ⟨P7,0,none⟩)]∧ρ 9=w9∧ρ 10=w10∧ρ 77=sA∧ρ 78=.int .i64 (m:Int)∧ρ 79=.int .i64 (i:Int)∧ρ 16=x∧ρ 20=.int .i64 (2 * (n:Int) + m + i) ∧
      ∃ M5,d0q H H.size (H.size + 1) (p + 1) P7 p n m sv (vs ++ x :: [w9,w10]) M5 sR sD sB vs bs G∧M5.length=i + 3∧Rec W M5∧∀ r c,c < W→Tf M5 r c=if r=i then (if c < k then -d0d n m (Tf q.A) (bbq q n) i c else d0d n m (Tf q.A) (bbq q n) i c) else if r=i + 1 then (if c < k then -h0f q n m i c - -d0d n m (Tf q.A) (bbq q n) i c else -h0f q n m i c) else Tf M' r c)
      rfl rfl (by decide) (by omega) (by simp) (by simp) ?_ ?_ ?_ ?_
     ·refine ⟨by simp [g2],by simp [g3],by simp [g6],by simp [g8],by simp [g9],by simp [g10],by simp [g77],by simp [gm],by simp [gi],by simp [g16],by simp,M4,hM4,hML4,hrec4,fun r c hc=>?_⟩
      rw [hTf4 r c hc]
      by_cases hri:r=i
      ·rw [if_pos hri,if_pos hri,if_neg (by omega)]
      ·rw [if_neg hri,if_neg hri]
       by_cases hri2:r=i + 1
       ·rw [if_pos hri2,if_neg (by omega),hri2,hTi,if_neg (by omega),if_neg (by omega),show i + 1 - 1=i by omega,hT2 c hc]
       ·rw [if_neg hri2]
     ·intro i ρ ρ' G h hI;simpa [h] using hI
     ·clear g2 g3 g6 g8 g9 g10 g77 gi gm g14 g15 g16 g89 b6 bp hslx hc
      rintro k ρ G hk gk gn ⟨g2,g3,g6,g8,g9,g10,g77,gm,gi,g16,g20,M5,hM,hML5,hrec5,hTf5⟩
      have hiM:i < M5.length:=by omega
      have hki:k < M5[i].length:=by rw [hrec5 i hiM];exact hk
      obtain ⟨wv,ev,fv⟩:=hM.num (i:=i) (j:=k) hiM hki
      have i1:=hM.ia (i:=i) (j:=k) hiM hki
      rw [hxi] at ev i1
      rw [hTf5 i k hk,if_pos rfl,if_neg (by omega)] at fv
      obtain ⟨oc,hoc⟩:∃ z,z=d0d n m (Tf q.A) (bbq q n) i k:=⟨_,rfl⟩
      rw [← hoc] at fv
      have hlo:lz oc < 67108864:=by
       rw [hoc];unfold d0d
       split
       ·exact hzA _ _
       ·split
        ·rw [e0s];exact hzA _ _
        ·split
         ·split
          ·rw [f0b];decide
          ·rw [c0L];decide
         ·exact hzA _ _
      have b2:=hM.b2
      have hsz:=hM.ext.1
      simp [s0U,gk]
      refine a0v ?_
      simp [s0V,g2,g16,gk,b2,i1,ev]
      refine (j0i fv (by omega) hlo).mono ?_
      rintro wn G2 ⟨kn,hx2⟩
      replace hM:=hM.mono hx2
      obtain ⟨G3,st1,hM6,_,_,hs3⟩:=hM.store (x:=-oc) (i:=i) (j:=k) hiM hki kn
      rw [hxi] at st1
      simp [i1,st1]
      obtain ⟨M6,hM6e⟩:∃ M6,M6=M5.set i (M5[i].set k (-oc)):=⟨_,rfl⟩
      have hrec6:Rec W M6:=by rw [hM6e];exact hrec5.set hiM
      have hML6:M6.length=i + 3:=by rw [hM6e];simp [hML5]
      have hTf6:∀ r c,Tf M6 r c=if r=i∧c=k then -oc else Tf M5 r c:=fun r c=>by rw [hM6e,c0X (W:=W) hiM hki]
      rw [← hM6e] at hM6
      have hiM6:i < M6.length:=by omega
      have hi1M6:i + 1 < M6.length:=by omega
      have hki6:k < M6[i].length:=by rw [hrec6 i hiM6];exact hk
      have hk16:k < M6[i + 1].length:=by rw [hrec6 (i + 1) hi1M6];exact hk
      obtain ⟨wx,ex,fx⟩:=hM6.num (i:=i) (j:=k) hiM6 hki6
      obtain ⟨wl,el,fl9⟩:=hM6.num (i:=i + 1) (j:=k) hi1M6 hk16
      have i2:=hM6.ia (i:=i + 1) (j:=k) hi1M6 hk16
      have i3:=hM6.ia (i:=i) (j:=k) hiM6 hki6
      rw [hxi] at ex i3
      rw [hx9] at el i2
      rw [hTf6 i k,if_pos ⟨rfl,rfl⟩] at fx
      rw [hTf6 (i + 1) k,if_neg (by omega),hTf5 (i + 1) k hk,if_neg (by omega),if_pos rfl,if_neg (by omega)] at fl9
      have b6:=hM6.b6
      have hsz:=hM6.ext.1
      refine g0J ?_
      simp [s0W,g6,g9,g16,b6,i2,i3,ex,el]
      have hq1:=fun (R':a0A) (hR':e0E R')=>w0q (fl:=H.size) (R:=R') hsz hM6.bp fl9 fx (by rw [e0s];exact hzL i k (by omega) (by omega)) (by rw [e0s];exact hlo) hR'
      refine a0P.mono (hq1 _ (j0K rfl hR)) ?_
      clear hq1
      rintro ws G4 ⟨kw,hx4⟩
      replace hM6:=hM6.mono hx4
      obtain ⟨G5,st2,hM7,_,_,_⟩:=hM6.store (x:=-h0f q n m i k - -oc) (i:=i + 1) (j:=k) hi1M6 hk16 kw
      rw [hx9] at st2
      simp [i2,st2]
      refine Rnd.mk ?_ ?_ ?_
      ·simp [gk]
      ·simp [gn]
      refine ⟨by simp [g2],by simp [g3],by simp [g6],by simp [g8],by simp [g9],by simp [g10],by simp [g77],by simp [gm],by simp [gi],by simp [g16],by simp [g20],_,hM7,by simp [hML6],hrec6.set hi1M6,fun r c hc=>?_⟩
      rw [c0X (W:=W) hi1M6 hk16,hTf6 r c,hTf5 r c hc,hoc]
      have p1:c ≠ k→(c < k + 1)=(c < k):=fun h=>propext (by omega)
      by_cases hri:r=i
      ·subst hri
       rw [if_neg (by omega)]
       by_cases hck:c=k
       ·subst hck;simp
       ·simp [hck,p1 hck]
      ·by_cases hri2:r=i + 1
       ·subst hri2
        by_cases hck:c=k
        ·subst hck;simp
        ·simp [hck,p1 hck]
       ·simp [hri,hri2]
     ·clear g2 g3 g6 g8 g9 g10 g77 gi gm g14 g15 g16 g89 b6 bp hslx hc
      rintro ρ G gk gn ⟨g2,g3,g6,g8,g9,g10,g77,gm,gi,g16,g20,M5,hM5,hML5,hrec5,hTf5'⟩
      have hbz:((e0y n m (bbq q n) i:Nat):Int)=2 * (n:Int) + m + i:=by unfold e0y;rw [if_pos hneg];omega
      have hTf5:∀ r c,c < W→Tf M5 r c=if r=i then sg (bbq q n) i * d0d n m (Tf q.A) (bbq q n) i c else if r=i + 1 then -h0f q n m (i + 1) c else Tf M' r c:=fun r c hc=>by
       rw [hTf5' r c hc]
       by_cases hri:r=i
       ·rw [if_pos hri,if_pos hri,if_pos hc];unfold sg;rw [if_pos hneg];omega
       ·rw [if_neg hri,if_neg hri]
        by_cases hri2:r=i + 1
        ·rw [if_pos hri2,if_pos hri2,if_pos hc]
         have:h0f q n m (i + 1) c=h0f q n m i c + -d0d n m (Tf q.A) (bbq q n) i c:=by unfold h0f;rw [sm,if_pos hneg];unfold sg;rw [if_pos hneg];omega
         rw [this];omega
        ·rw [if_neg hri2,if_neg hri2]
      have hx4:=(hM5.rows.own i (by omega)).cells
      rw [hxi] at hx4
      obtain ⟨sR',G8,sB',G9,a1,a2,q1,p1,q2,p2,c1,c2,c3,c4,hbR,hbB,hset⟩:=hM5.push2 (w:=x) hx4.2 (b:=e0y n m (bbq q n) i) (by omega) (by omega)
      have b6:=hM5.b6
      have bp:=hM5.bp
      rw [e2] at bp p1 p2
      refine c0g ?_
      have hpl8:=a0k p2
      rw [hbz] at a2
      simp [m0S,g6,g16,g20,b6,bp,hx4.1,a1,q1,p1,a2,q2,p2,c1,c2,c3,c4,hpH,hpl8]
      generalize hS1:Array.setIfInBounds G9 p _=G10
      have hM6:=hset G10 (by rw [← hS1,e2])
      clear hset
      refine ⟨⟨fun h=>(hbR _ h).1 rfl,fun x h=>(hbR x h).1,fun x h=>(hbR x h).2,fun h=>hbB _ h rfl⟩,?_⟩
      refine Rnd.mk ?_ ?_ ?_
      ·simp [gi]
      ·simp [gm]
      refine ⟨by simp [g2],by simp [g3],by simp [g6],by simp [g8],by simp [g9],by simp [g10],by simp [g77],vs ++ [x],bs ++ [e0y n m (bbq q n) i],M5,sR',sB',by simpa using hM6,by simp [hvl],by simp [hbl],hML5,hrec5,fun r c hr hc=>?_,fun c hc=>?_,fun c hc=>?_,fun r hr=>?_⟩
      ·rw [hTf5 r c hc]
       by_cases hri:r=i
       ·subst hri;rw [if_pos rfl]
       ·rw [if_neg hri,if_neg (by omega),hTi,if_pos (by omega),hT1 r c (by omega) hc]
      ·rw [hTf5 (i + 1) c hc,if_neg (by omega),if_pos rfl]
      ·rw [hTf5 (i + 2) c hc,if_neg (by omega),if_neg (by omega),hTi,if_neg (by omega),if_neg (by omega)]
       exact hT3 c hc
      ·unfold bf
       rw [List.getD_eq_getElem?_getD]
       by_cases hri:r=i
       ·subst hri
        rw [List.getElem?_append_right (by omega),show r - bs.length=0 by omega];rfl
       ·rw [List.getElem?_append_left (by omega),← List.getD_eq_getElem?_getD]
        exact hT4 r (by omega)
    ·have hc:¬ b0T (bbq q n i) 0 < 0:=by unfold b0T;rw [if_neg hneg];split <;> omega
     have hbz:((e0y n m (bbq q n) i:Nat):Int)=2 * (n:Int) + i:=by unfold e0y;rw [if_neg hneg];omega
     obtain ⟨M5,hM5e⟩:∃ M5,M5=M4:=⟨_,rfl⟩
     have hM5:=hM4
     have hML5:=hML4
     have hrec5:=hrec4
     have hTf5:∀ r c,c < W→Tf M4 r c=if r=i then sg (bbq q n) i * d0d n m (Tf q.A) (bbq q n) i c else if r=i + 1 then -h0f q n m (i + 1) c else Tf M' r c:=fun r c hc=>by
      rw [hTf4 r c hc]
      by_cases hri:r=i
      ·rw [if_pos hri,if_pos hri];unfold sg;rw [if_neg hneg,Int.one_mul]
      ·rw [if_neg hri,if_neg hri]
       by_cases hri2:r=i + 1
       ·rw [if_pos hri2,hri2,hTi,if_neg (by omega),if_neg (by omega),show i + 1 - 1=i by omega,hT2 c hc]
        have:h0f q n m (i + 1) c=h0f q n m i c:=by unfold h0f;rw [sm,if_neg hneg,Int.add_zero]
        rw [this]
       ·rw [if_neg hri2]
     rw [← hM5e] at hM5 hML5 hrec5 hTf5
     simp [hc]
     have hx4:=(hM5.rows.own i (by omega)).cells
     rw [hxi] at hx4
     obtain ⟨sR',G8,sB',G9,a1,a2,q1,p1,q2,p2,c1,c2,c3,c4,hbR,hbB,hset⟩:=hM5.push2 (w:=x) hx4.2 (b:=e0y n m (bbq q n) i) (by omega) (by omega)
     have b6:=hM5.b6
     have bp:=hM5.bp
     rw [e2] at bp p1 p2
     refine c0g ?_
     have hpl8:=a0k p2
     rw [hbz] at a2
     simp [m0S,g6,g16,b6,bp,hx4.1,a1,q1,p1,a2,q2,p2,c1,c2,c3,c4,hpH,hpl8]
     generalize hS1:Array.setIfInBounds G9 p _=G10
     have hM6:=hset G10 (by rw [← hS1,e2])
     clear hset
     refine ⟨⟨fun h=>(hbR _ h).1 rfl,fun x h=>(hbR x h).1,fun x h=>(hbR x h).2,fun h=>hbB _ h rfl⟩,?_⟩
     refine Rnd.mk ?_ ?_ ?_
     ·simp [gi]
     ·simp [gm]
     refine ⟨by simp [g2],by simp [g3],by simp [g6],by simp [g8],by simp [g9],by simp [g10],by simp [g77],vs ++ [x],bs ++ [e0y n m (bbq q n) i],M5,sR',sB',by simpa using hM6,by simp [hvl],by simp [hbl],hML5,hrec5,fun r c hr hc=>?_,fun c hc=>?_,fun c hc=>?_,fun r hr=>?_⟩
     ·rw [hTf5 r c hc]
      by_cases hri:r=i
      ·subst hri;rw [if_pos rfl]
      ·rw [if_neg hri,if_neg (by omega),hTi,if_pos (by omega),hT1 r c (by omega) hc]
     ·rw [hTf5 (i + 1) c hc,if_neg (by omega),if_pos rfl]
     ·rw [hTf5 (i + 2) c hc,if_neg (by omega),if_neg (by omega),hTi,if_neg (by omega),if_neg (by omega)]
      exact hT3 c hc
     ·unfold bf
      rw [List.getD_eq_getElem?_getD]
      by_cases hri:r=i
      ·subst hri
       rw [List.getElem?_append_right (by omega),show r - bs.length=0 by omega];rfl
      ·rw [List.getElem?_append_left (by omega),← List.getD_eq_getElem?_getD]
       exact hT4 r (by omega)
  ·clear g2 g3 g5 g6 g8 g9 g10 g50 hM hM2 hrec hTf gk gn ρ M G
   rintro ρ G gi gm ⟨g2,g3,g6,g8,g9,g10,g77,vs,bs,M,sR,sB,hM,hvl,hbl,hML,hrec,hT1,hT2,hT3,hT4⟩
   have b6:=hM.b6
   have bp:=hM.bp
   rw [e2] at bp
   have c9:=(hM.rows.own m (by omega)).cells
   have c10:=(hM.rows.own (m + 1) (by omega)).cells
   have r9:(vs ++ [w9,w10])[m]'(by simp;omega)=w9:=by rw [List.getElem_append_right (by omega)];simp [hvl]
   have r10:(vs ++ [w9,w10])[m + 1]'(by simp;omega)=w10:=by rw [List.getElem_append_right (by omega)];simp [hvl]
   rw [r9] at c9
   rw [r10] at c10
   obtain ⟨sR',G2,a1,o1,x1,y1⟩:=n0Y hM.heads c9.2 c10.2 (by omega) (bytes:=24) (by omega) hM.ext.1
   have lx1:∀ {e:Nat},b0L ≠ e→LxT e G G2:=fun hne=>hM.heads.lxT hne x1
   have p1:=lx1 (by decide) _ _ _ bp
   have q1:=lx1 (by decide) _ _ _ b6
   have nR6:=hM.heads.ne b6 (by decide)
   have hR':=hM.heads.blkOf
   obtain ⟨cR,pR⟩:=o1.cells
   have hpl:=a0k p1
   refine c0g ?_
   simp [s0X,g6,g9,g10,b6,bp,c9.1,c10.1,a1,q1,p1,cR,pR,hpH,hpl]
   have hnR:¬ (p + 1) ∈ blkW sR:=by
    rcases hR' with h0 | ⟨c,h0,h1⟩
    ·rw [h0];simp
    ·rw [h0,List.mem_singleton]
     intro h5;exact nR6 (by rw [h1,h5])
   generalize hS:Array.setIfInBounds G2 p _=G3
   have lx3:∀ {e:Nat},a0b ≠ e→LxT e G2 G3:=fun hne=>a0V hS p1 hne
   have q3:=lx3 (by decide) _ _ _ q1
   have hlx:Lx G G3:=fun b ro cs hb=>lx3 (by decide) b ro cs (lx1 (by decide) b ro cs hb)
   refine ⟨hnR,?_⟩
   simp [s0Y,g6,q3]
   refine fun _=>⟨p,M,bs,sR',sD,sB,vs ++ [w9,w10],rfl,⟨?_,hpH,f1,o1.lxm (Q':=PV) (lx3 (by decide)) (fun _ _ h=>h),⟨hM.rows.len,fun r hr=>((hM.rows.own r hr).lxm (Q':=PF) (lx1 (by decide)) (fun cs x hx=>v0k.lx _ _ _ _ (lx1 (by decide)) hx)).lxm (lx3 (by decide)) (fun cs x hx=>v0k.lx _ _ _ _ (lx3 (by decide)) hx),hM.rows.apart⟩,(hM.basis.lxm (Q':=PK) (lx1 (by decide)) (fun _ _ h=>h)).lxm (lx3 (by decide)) (fun _ _ h=>h)⟩,⟨hML,fun r hr=>by rw [hrec r hr,hW],hbl⟩,fun r c hr hc=>?_,fun r hr=>hT4 r hr⟩
   ·rw [a0C hS p1,e2]
   ·by_cases h1:r < m
    ·rw [hT1 r c h1 (by omega),d0Q h1]
    ·by_cases h2:r=m
     ·subst h2;rw [hT2 c (by omega),e0Y];rfl
     ·have:r=m + 1:=by omega
      subst this;rw [hT3 c (by omega),d0K]
def M0T (fl n m:Nat) (q:ScT) (r:Value) (H':a0f):Prop:=∃ p L bs sR sD sB vs,r=.pointer (some ⟨p,0,none⟩)∧b0A fl H' p n m L 1 bs 0 sR sD sB vs∧ShT n m L bs∧(∀ r c,r < m + 2→c≤2 * n + m→Tf L r c=f0Q n m (Tf q.A) (bbq q n) (ccq q) c r)∧∀ r,r < m→bf bs r=e0y n m (bbq q n) r
def J0a (H:a0f) (p P7 n m W:Nat) (q:ScT) (sv:List Value) (sA sD w9 w10:Value) (i:Nat) (ρ:Nat→Value) (G:a0f):Prop :=
 ρ 2=.pointer (some ⟨H.size,0,none⟩)∧ρ 3=.pointer (some ⟨H.size + 1,0,none⟩)∧ρ 6=.pointer (some ⟨p + 1,0,none⟩)∧ρ 8=.func (.func k0J) #[] #[.pointer (some ⟨p + 1,0,none⟩),.pointer (some ⟨P7,0,none⟩)]∧ρ 9=w9∧ρ 10=w10∧ρ 77=sA ∧
  ∃ vs bs M sR sB,d0p H H.size (H.size + 1) (p + 1) P7 p n m sv (vs ++ [w9,w10]) M sR sD sB vs bs G∧vs.length=i∧bs.length=i∧M.length=i + 2∧Rec W M ∧
   (∀ r c,r < i→c < W→Tf M r c=sg (bbq q n) r * d0d n m (Tf q.A) (bbq q n) r c)∧(∀ c,c < W→Tf M i c = -h0f q n m i c)∧(∀ c,c < W→Tf M (i + 1) c = -cost n (ccq q) c)∧∀ r,r < i→bf bs r=e0y n m (bbq q n) r
theorem l0G {q:ScT} {n m:Nat} (h:SV H v q) (hn0:q.n=n) (hAl:q.A.length=m) (hCl:q.C.length=n) (hrow:∀ r ∈ q.A,r.length=n + 1) (hf:fl≤H.size) (hzA:∀ r c,lz (Tf q.A r c) < 67108864) (hzC:∀ c,lz (ccq q c) < 67108864) (hzL:∀ i c,i≤m→c≤2 * n + m→lz (h0f q n m i c) < 67108864) (hm:m < 1048576) (hn:n < 1048576) (hR:f0v R) :
  a0P env fl v0W [eV,v] H (fun r H'=>M0T H.size n m q r H'∧Ext H H') R:=by
 obtain ⟨sA,sBy,sC,s1,s2,rfl,qA,qB,qC,q1,q2⟩:=h
 rw [hn0]
 refine a0l U0X hf (h:=?_)
 intro ρ h0
 have w1:IntKind.i64.wrap (2 * (n:Int))=2 * (n:Int):=a0L (by omega) (by omega)
 have w2:IntKind.i64.wrap (2 * (n:Int) + m)=2 * (n:Int) + m:=a0L (by omega) (by omega)
 have e2:((2 * n + m:Nat):Int)=2 * (n:Int) + m:=by omega
 have f1:e0l 1:=by unfold e0l;omega
 have f0:e0l 0:=by unfold e0l;omega
 have hslA:=qA.slen
 rw [hAl] at hslA
 simp [H0N,z0K,h0,eV]
 generalize hG:Array.push (Array.push H _) _=G
 obtain ⟨hx,b2,b3⟩:=push2 hG
 clear hG
 simp [z0L,b3,hslA]
 refine a0v ?_
 simp [z0M,b2,b3,w1,w2]
 refine (c0i (n:=1) (by have:=hx.1;omega) (by omega) (by omega)).mono ?_
 rintro _ G1 ⟨kone,hx2⟩
 replace hx:=hx.trans hx2
 replace b2:=hx2.blk b2
 replace b3:=hx2.blk b3
 simp
 refine (r0e kone (by have:=hx.1;omega) f1).mono ?_
 rintro wd G2 ⟨kd,hx2⟩
 replace hx:=hx.trans hx2
 replace b2:=hx2.blk b2
 replace b3:=hx2.blk b3
 have hsz:=hx.1
 have hsz':H.size≤G2.size + 1:=by omega
 obtain ⟨sD,rfl,kd⟩:=kd
 simp [hsz']
 generalize hN:Array.setIfInBounds (Array.push (Array.push _ _) _) _ _=G3
 obtain ⟨hx2,bp,b6⟩:=R0i hN
 clear hN
 replace kd:=kd.mono hx2
 replace hx:=hx.trans hx2
 replace b2:=hx2.blk b2
 replace b3:=hx2.blk b3
 have hpH:=hsz
 generalize hpp:Array.size G2=p at *
 have kz0:b0q G3 (.agg #[.bool false,.slice none 0 0]) (a0n 0):=⟨_,by rw [d0n],by rw [d0n];exact Lim.nil⟩
 simp [z0N,b2]
 refine (r0e kz0 (by have:=hx.1;omega) f0).mono ?_
 rintro wz G4 ⟨kz,hx2⟩
 replace hx:=hx.trans hx2
 replace b2:=hx2.blk b2
 replace b3:=hx2.blk b3
 replace b6:=hx2.blk b6
 replace bp:=hx2.blk bp
 have hsz:=hx.1
 replace kd:=kd.mono hx2
 obtain ⟨sz,rfl,kz⟩:=kz
 simp [hsz,kz.cells,kz.plain]
 generalize hN:Array.setIfInBounds (Array.push _ _) _ _=G5
 obtain ⟨hx2,b7⟩:=new1 hN
 clear hN
 have b7:t0U G5 G4.size:=⟨sz,b7,kz.mono hx2⟩
 replace hx:=hx.trans hx2
 replace b2:=hx2.blk b2
 replace b3:=hx2.blk b3
 replace b6:=hx2.blk b6
 replace bp:=hx2.blk bp
 replace kd:=kd.mono hx2
 generalize hp7:Array.size G4=P7 at *
 rw [← e2] at bp
 have hM:d0p H H.size (H.size + 1) (p + 1) P7 p n m _ ([] ++ []) ([] ++ []) (.slice none 0 0) sD (.slice none 0 0) [] [] G5:=⟨hx,b2,b3,b6,b7,bp,kd,⟨rfl,fun i hi=>by simp at hi,fun i j hi=>by simp at hi⟩,fun w hw=>by simp at hw,a0Z.nil,a0Z.nil,hpH⟩
 clear b2 b3 b6 bp b7 hx hx2 kz kz0 kd kone hp7 hsz hsz'
 have hP7l:=hM.b7.lt
 simp [z0O,z0P]
 refine (hM.one (by have:=hM.ext.1;omega) hn hm).mono ?_
 rintro w9 G6 ⟨hw,hx2⟩
 replace hM:d0p H H.size (H.size + 1) (p + 1) P7 p n m _ ([w9] ++ []) ([List.replicate (2 * n + m + 1) 0] ++ []) (.slice none 0 0) sD (.slice none 0 0) [] [] G6:=hM.ins rfl hw hx2
 simp
 refine (hM.one (by have:=hM.ext.1;omega) hn hm).mono ?_
 rintro w10 G7 ⟨hw',hx3⟩
 replace hM:d0p H H.size (H.size + 1) (p + 1) P7 p n m _ [w9,w10] [List.replicate (2 * n + m + 1) 0,List.replicate (2 * n + m + 1) 0] (.slice none 0 0) sD (.slice none 0 0) [] [] G7:=hM.ins rfl hw' hx3
 clear hw hw' hx2 hx3
 have b3:=hM.b3
 have hslC:=qC.slen
 rw [hCl] at hslC
 obtain ⟨W,hW⟩:∃ W,W=2 * n + m + 1:=⟨_,rfl⟩
 rw [← hW] at hM
 simp [z0Q,b3,hslC]
 refine c0h (n:=n) (fun k ρ G=>ρ 2=.pointer (some ⟨H.size,0,none⟩)∧ρ 3=.pointer (some ⟨H.size + 1,0,none⟩)∧ρ 5=.int .i64 (m:Int)∧ρ 6=.pointer (some ⟨p + 1,0,none⟩)∧ρ 8=.func (.func k0J) #[] #[.pointer (some ⟨p + 1,0,none⟩),.pointer (some ⟨P7,0,none⟩)]∧ρ 9=w9∧ρ 10=w10∧ρ 50=sC ∧
   ∃ M,d0p H H.size (H.size + 1) (p + 1) P7 p n m [.int .i64 (n:Int),sA,sBy,sC,.bool (a0e q.cb).1.1,s1,.bool (a0e q.cb).2.1,s2] [w9,w10] M (.slice none 0 0) sD (.slice none 0 0) [] [] G∧M.length=2∧Rec W M∧∀ r c,c < W→Tf M r c=if r=1 then (if c < k then -ccq q c else if n≤c∧c < n + k then ccq q (c - n) else 0) else 0)
   rfl rfl (by decide) (by omega) (by simp) (by simp) ?_ ?_ ?_ ?_
 ·refine ⟨by simp,by simp,by simp,by simp,by simp,by simp,by simp,by simp,_,hM,rfl,fun i hi=>?_,fun r c hc=>?_⟩
  ·have:i=0 ∨ i=1:=by simp at hi;omega
   rcases this with rfl | rfl <;> simp
  ·have hrep:∀ r,([List.replicate W 0,List.replicate W 0].getD r ([]:List Int)).getD c 0=0:=fun r=>by
    match r with
    | 0=>exact c0v
    | 1=>exact c0v
    | r + 2=>rfl
   have:Tf [List.replicate W 0,List.replicate W 0] r c=0:=hrep r
   rw [this]
   split
   ·rw [if_neg (by omega),if_neg (by omega)]
   ·rfl
 ·intro i ρ ρ' G h hI;simpa [h] using hI
 ·clear h0 ρ hM b3
  rintro k ρ G hk gk gn ⟨g2,g3,g5,g6,g8,g9,g10,g50,M,hM,hM2,hrec,hTf⟩
  have kC:=qC.mono c0f hM.ext
  have hkC:k < q.C.length:=by omega
  obtain ⟨cs,ec,hcl,kc⟩:=Sls.load kC hkC (by omega)
  have hcq:q.C[k]=ccq q k:=by unfold ccq;rw [List.getD_eq_getElem?_getD,List.getElem?_eq_getElem hkC];rfl
  rw [hcq] at kc
  obtain ⟨sc,hcs,kc⟩:=kc
  rw [hcs] at ec
  have hsz:=hM.ext.1
  simp [z0R,gk,g50,kC.ia hkC,ec,kc.cells,kc.plain,hsz]
  generalize hN:Array.setIfInBounds (Array.push _ _) _ _=G2
  obtain ⟨hx2,b12⟩:=new1 hN
  clear hN
  replace hM:=hM.mono hx2
  replace kc:=kc.mono hx2
  generalize hP12:Array.size G=P12 at *
  simp [z0S,g2,hM.b2,b12]
  refine (o0X (z:=ccq q k) ⟨sc,rfl,kc⟩ hM.ext.1 (hzC k) hR).mono ?_
  rintro wx G8 ⟨kx,hx2⟩
  replace hM:=hM.mono hx2
  have hs8:=hM.ext.1
  clear b12 kc kC ec
  have h1L:1 < M.length:=by omega
  have hk1:k < M[1].length:=by rw [hrec 1 h1L];omega
  have hk2:n + k < M[1].length:=by rw [hrec 1 h1L];omega
  obtain ⟨bw,hbw,hne,hblt⟩:∃ b,AI.blkOf (adr 2 w10 k)=[b]∧H.size + 1 ≠ b∧b < G8.size:=hM.bl (i:=1) (j:=k) h1L hk1
  obtain ⟨zz,hzz⟩:∃ z,z=ccq q k:=⟨_,rfl⟩
  rw [← hzz] at kx
  have hlzz:lz zz < 67108864:=by rw [hzz];exact hzC k
  obtain ⟨sx,rfl,kx⟩:=kx
  simp [hs8,kx.cells,kx.plain]
  generalize hN:Array.setIfInBounds (Array.push _ _) _ _=G9
  obtain ⟨hx9,b13⟩:=new1 hN
  clear hN
  have hne13:G8.size ≠ bw:=by omega
  replace hM:=hM.mono hx9
  replace kx:=kx.mono hx9
  generalize hP13:Array.size G8=P13 at *
  have kx:f0i G9 (.agg #[.bool (a0n zz).1,sx]) zz:=⟨sx,rfl,kx⟩
  have w3:IntKind.i64.wrap ((n:Int) + k)=(n:Int) + k:=a0L (by omega) (by omega)
  have i1:iaV 2 w10 (.int .i64 (k:Int))=some (adr 2 w10 k):=hM.ia (i:=1) (j:=k) h1L hk1
  have i2:iaV 2 w10 (.int .i64 ((n + k:Nat):Int))=some (adr 2 w10 (n + k)):=hM.ia (i:=1) (j:=n + k) h1L hk2
  rw [show ((n + k:Nat):Int)=(n:Int) + k by omega] at i2
  refine c0g ?_
  simp [s0e,g2,g3,g10,hM.b2,hM.b3,w3,b13]
  refine (j0f kx (by have:=hM.ext.1;omega) hlzz).mono ?_
  rintro wn G10 ⟨kn,hx2⟩
  replace hM:=hM.mono hx2
  replace kx:=kx.mono hx2
  replace b13:=hx2.blk b13
  obtain ⟨G11,st1,hM1,_,hlx1,_⟩:=hM.store (x:=-zz) (i:=1) (j:=k) h1L hk1 kn
  have h1L':1 < (M.set 1 (M[1].set k (-zz))).length:=by simp;omega
  have hk2':n + k < (M.set 1 (M[1].set k (-zz)))[1].length:=by rw [hrec.set h1L 1 h1L'];omega
  obtain ⟨G12,st2,hM2',_,_,_⟩:=hM1.store (x:=zz) (i:=1) (j:=n + k) h1L' hk2' (kx.lx hlx1)
  replace st1:d0F H.size G10 2 (adr 2 w10 k) wn=some G11:=st1
  replace st2:d0F H.size G11 2 (adr 2 w10 (n + k)) _=some G12:=st2
  simp [i1,i2,st1,st2,hbw,hne,hne13,b13]
  refine Rnd.mk (by simp [gk]) (by simp [gn]) ⟨by simp [g2],by simp [g3],by simp [g5],by simp [g6],by simp [g8],by simp [g9],by simp [g10],by simp [g50],_,hM2',by simp [hM2],(hrec.set h1L).set h1L',fun r c hc=>?_⟩
  rw [c0X (W:=W) h1L' hk2',c0X (W:=W) h1L hk1,hTf r c hc,hzz]
  by_cases hr:r=1
  ·subst hr
   simp only [true_and,if_true]
   by_cases c1:c=n + k
   ·rw [if_pos c1,if_neg (by omega),if_pos (by omega),c1,show n + k - n=k by omega]
   ·rw [if_neg c1]
    by_cases c2:c=k
    ·rw [if_pos c2,if_pos (by omega),c2]
    ·rw [if_neg c2]
     have p1:(c < k + 1)=(c < k):=propext (by omega)
     have p2:(n≤c∧c < n + (k + 1))=(n≤c∧c < n + k):=propext (by omega)
     simp only [p1,p2]
  ·rw [if_neg (fun h=>hr h.1),if_neg (fun h=>hr h.1),if_neg hr,if_neg hr]
 ·clear h0 ρ hM b3
  rintro ρ G gk gn ⟨g2,g3,g5,g6,g8,g9,g10,g50,M,hM,hM2,hrec,hTf⟩
  simp [s0f,g3,hM.b3,hslA]
  generalize hsv:[Value.int .i64 (n:Int),sA,sBy,sC,.bool (a0e q.cb).1.1,s1,.bool (a0e q.cb).2.1,s2]=sv at hM
  have hsv1:∃ a b c d e f,sv=.int .i64 (n:Int) :: sA :: a :: b :: c :: d :: e :: f :: []:=⟨_,_,_,_,_,_,hsv.symm⟩
  refine c0h (n:=m) (J0a H p P7 n m W q sv sA sD w9 w10) rfl rfl (by decide) (by omega) (by simp) (by simp) ?_ ?_ ?_ ?_
  ·refine ⟨by simp [g2],by simp [g3],by simp [g6],by simp [g8],by simp [g9],by simp [g10],by simp,[],[],M,_,_,hM,rfl,rfl,hM2,hrec,fun r c hr=>by omega,fun c hc=>?_,fun c hc=>?_,fun r hr=>by omega⟩
   ·rw [hTf 0 c hc,if_neg (by decide)];rfl
   ·rw [hTf 1 c hc,if_pos rfl]
    unfold cost
    by_cases c1:c < n
    ·rw [if_pos c1,if_pos c1]
    ·rw [if_neg c1,if_neg c1]
     by_cases c2:c < 2 * n
     ·rw [if_pos c2,if_pos (by omega)];omega
     ·rw [if_neg c2,if_neg (by omega)];rfl
  ·intro i ρ ρ' G h hI;unfold J0a at *;simpa [h] using hI
  ·clear g2 g3 g5 g6 g8 g9 g10 g50 hM hM2 hrec hTf gk gn ρ M G
   rintro i ρ G hi gi gm ⟨g2,g3,g6,g8,g9,g10,g77,vs,bs,M,sR,sB,hM,hvl,hbl,hML,hrec,hT1,hT2,hT3,hT4⟩
   obtain ⟨x3,x4,x5,x6,x7,x8,hsv1⟩:=hsv1
   have hiA:i < q.A.length:=by omega
   obtain ⟨wr0,er0,wr,hwr,kr⟩:=Sls.load1x qA hM.ext hiA
   have hwr':wr0=wr:=by simpa using hwr
   subst hwr'
   have hrl:q.A[i].length=n + 1:=hrow _ (List.getElem_mem hiA)
   have b3:=hM.b3
   rw [hsv1] at b3
   simp [s0g,gi,g77,(qA.mono j0U hM.ext).ia hiA,er0,s0h,g8]
   refine (hM.one (by have:=hM.ext.1;omega) hn hm).mono ?_
   rintro x G2 ⟨hx,hx2⟩
   rw [← hW] at hx
   have hMt:d0p H H.size (H.size + 1) (p + 1) P7 p n m sv (vs ++ [w9,w10]) (M.take i ++ M.drop i) sR sD sB vs bs G:=by rw [List.take_append_drop];exact hM
   have hM':=hMt.ins (by simp;omega) hx hx2
   obtain ⟨M',hM'e⟩:∃ M',M' = M.take i ++ List.replicate W 0 :: M.drop i:=⟨_,rfl⟩
   rw [← hM'e] at hM'
   have hrec':Rec W M':=by rw [hM'e];exact hrec.ins (by simp)
   have hTi:∀ r c,Tf M' r c=if r < i then Tf M r c else if r=i then 0 else Tf M (r - 1) c:=fun r c=>by
    rw [hM'e,I0Y (by omega),c0v]
   have hML':M'.length=i + 3:=by rw [hM'e];simp;omega
   clear hx hMt hM hx2 hM'e
   have hiM:i < M'.length:=by omega
   have hxi:(vs ++ x :: [w9,w10])[i]'(by simp;omega)=x:=by rw [List.getElem_append_right (by omega)];simp [hvl]
   have kr2:=kr.mono c0f hM'.ext
   obtain ⟨v',hsl,kv,hel⟩:=kr2.first (n:=n) (k:=.i64) (by omega)
   have hvs:=kv.slen
   rw [List.length_take,Nat.min_eq_left (by omega)] at hvs
   have b3:=hM'.b3
   rw [hsv1] at b3
   simp [s0i,g3,b3,hsl,hel,hvs]
   refine c0h (n:=n) (fun k ρ G=>ρ 2=.pointer (some ⟨H.size,0,none⟩)∧ρ 3=.pointer (some ⟨H.size + 1,0,none⟩)∧ρ 6=.pointer (some ⟨p + 1,0,none⟩)∧ρ 8=.func (.func k0J) #[] #[.pointer (some ⟨p + 1,0,none⟩),.pointer (some ⟨P7,0,none⟩)]∧ρ 9=w9∧ρ 10=w10∧ρ 77=sA∧ρ 78=.int .i64 (m:Int)∧ρ 79=.int .i64 (i:Int)∧ρ 14=.int .i64 (i:Int)∧ρ 15=wr0∧ρ 16=x∧ρ 89=v' ∧
    ∃ M2,d0p H H.size (H.size + 1) (p + 1) P7 p n m sv (vs ++ x :: [w9,w10]) M2 sR sD sB vs bs G∧M2.length=i + 3∧Rec W M2∧∀ r c,c < W→Tf M2 r c=if r=i then (if c < k then Tf q.A i c else if n≤c∧c < n + k then -Tf q.A i (c - n) else 0) else Tf M' r c)
    rfl rfl (by decide) (by omega) (by simp) (by simp) ?_ ?_ ?_ ?_
   ·refine ⟨by simp [g2],by simp [g3],by simp [g6],by simp [g8],by simp [g9],by simp [g10],by simp [g77],by simp [gm],by simp [gi],by simp [gi],by simp,by simp,by simp,M',hM',hML',hrec',fun r c hc=>?_⟩
    by_cases hr:r=i
    ·subst hr;rw [if_pos rfl,if_neg (by omega),if_neg (by omega),hTi,if_neg (by omega),if_pos rfl]
    ·rw [if_neg hr]
   ·intro i ρ ρ' G h hI;simpa [h] using hI
   ·clear g2 g3 g6 g8 g9 g10 g77 gi gm hM' hrec' b3 hel hvs kr2 kv ρ
    rintro k ρ G hk gk gn ⟨g2,g3,g6,g8,g9,g10,g77,gm,gi,g14,g15,g16,g89,M2,hM,hM2,hrec2,hTf⟩
    obtain ⟨v'',hsl',kv,_⟩:=(kr.mono c0f hM.ext).first (n:=n) (k:=.i64) (by omega)
    have hvv:v'' = v':=by rw [hsl] at hsl';exact (Option.some.inj hsl').symm
    subst hvv
    have hkC:k < (q.A[i].take n).length:=by rw [List.length_take];omega
    obtain ⟨cs,ec,hcl,kc⟩:=Sls.load kv hkC (by omega)
    have hcq:(q.A[i].take n)[k]=Tf q.A i k:=by rw [List.getElem_take,n0p hiA (by omega)]
    rw [hcq] at kc
    obtain ⟨sc,hcs,kc⟩:=kc
    rw [hcs] at ec
    have hsz:=hM.ext.1
    simp [s0j,gk,g89,kv.ia hkC,ec,kc.cells,kc.plain,hsz]
    generalize hN:Array.setIfInBounds (Array.push _ _) _ _=G2
    obtain ⟨hx2,b12⟩:=new1 hN
    clear hN
    replace hM:=hM.mono hx2
    replace kc:=kc.mono hx2
    generalize hP12:Array.size G=P12 at *
    simp [s0k,g2,hM.b2,b12]
    refine (o0X (z:=Tf q.A i k) ⟨sc,rfl,kc⟩ hM.ext.1 (hzA _ _) hR).mono ?_
    rintro wx G8 ⟨kx,hx2⟩
    replace hM:=hM.mono hx2
    have hs8:=hM.ext.1
    clear b12 kc kv ec
    have h1L:i < M2.length:=by omega
    have hk1:k < M2[i].length:=by rw [hrec2 i h1L];omega
    have hk2:n + k < M2[i].length:=by rw [hrec2 i h1L];omega
    obtain ⟨bw,hbw,hne,hblt⟩:∃ b,AI.blkOf (adr 2 x k)=[b]∧H.size + 1 ≠ b∧b < G8.size:=by
     have:=hM.bl (i:=i) (j:=k) h1L hk1
     rw [hxi] at this;exact this
    obtain ⟨zz,hzz⟩:∃ z,z=Tf q.A i k:=⟨_,rfl⟩
    rw [← hzz] at kx
    have hlzz:lz zz < 67108864:=by rw [hzz];exact hzA i k
    obtain ⟨sx,rfl,kx⟩:=kx
    simp [hs8,kx.cells,kx.plain]
    generalize hN:Array.setIfInBounds (Array.push _ _) _ _=G9
    obtain ⟨hx9,b13⟩:=new1 hN
    clear hN
    have hne13:G8.size ≠ bw:=by omega
    replace hM:=hM.mono hx9
    replace kx:=kx.mono hx9
    generalize hP13:Array.size G8=P13 at *
    have kx:f0i G9 (.agg #[.bool (a0n zz).1,sx]) zz:=⟨sx,rfl,kx⟩
    have b3:=hM.b3
    rw [hsv1] at b3
    have w3:IntKind.i64.wrap ((n:Int) + k)=(n:Int) + k:=a0L (by omega) (by omega)
    have i1:=hM.ia (i:=i) (j:=k) h1L hk1
    have i2:=hM.ia (i:=i) (j:=n + k) h1L hk2
    rw [hxi] at i1 i2
    rw [show ((n + k:Nat):Int)=(n:Int) + k by omega] at i2
    refine c0g ?_
    simp [s0l,g2,g3,g16,hM.b2,b3,w3,b13]
    refine (j0f kx (by have:=hM.ext.1;omega) hlzz).mono ?_
    rintro wn G10 ⟨kn,hx2⟩
    replace hM:=hM.mono hx2
    replace kx:=kx.mono hx2
    replace b13:=hx2.blk b13
    obtain ⟨G11,st1,hM1,_,hlx1,_⟩:=hM.store (x:=zz) (i:=i) (j:=k) h1L hk1 kx
    have h1L':i < (M2.set i (M2[i].set k zz)).length:=by simp;omega
    have hk2':n + k < (M2.set i (M2[i].set k zz))[i].length:=by rw [hrec2.set h1L i h1L'];omega
    obtain ⟨G12,st2,hM2',_,_,_⟩:=hM1.store (x:=-zz) (i:=i) (j:=n + k) h1L' hk2' (kn.lx hlx1)
    rw [hxi] at st1 st2
    simp [i1,i2,st1,st2,hbw,hne,hne13,b13]
    refine Rnd.mk ?_ ?_ ?_
    ·simp [gk]
    ·simp [gn]
    refine ⟨by simp [g2],by simp [g3],by simp [g6],by simp [g8],by simp [g9],by simp [g10],by simp [g77],by simp [gm],by simp [gi],by simp [g14],by simp [g15],by simp [g16],by simp [g89],_,hM2',by simp [hM2],(hrec2.set h1L).set h1L',fun r c hc=>?_⟩
    rw [c0X (W:=W) h1L' hk2',c0X (W:=W) h1L hk1,hTf r c hc,hzz]
    by_cases hr:r=i
    ·subst hr
     simp only [true_and,if_true]
     by_cases c1:c=n + k
     ·rw [if_pos c1,if_neg (by omega),if_pos (by omega),c1,show n + k - n=k by omega]
     ·rw [if_neg c1]
      by_cases c2:c=k
      ·rw [if_pos c2,if_pos (by omega),c2]
      ·rw [if_neg c2]
       have p1:(c < k + 1)=(c < k):=propext (by omega)
       have p2:(n≤c∧c < n + (k + 1))=(n≤c∧c < n + k):=propext (by omega)
       simp only [p1,p2]
    ·rw [if_neg (fun h=>hr h.1),if_neg (fun h=>hr h.1),if_neg hr,if_neg hr]
   ·clear g2 g3 g6 g8 g9 g10 g77 gi gm hM' hrec' b3 hel hvs kr2 kv hsl ρ
    rintro ρ G gk gn ⟨g2,g3,g6,g8,g9,g10,g77,gm,gi,g14,g15,g16,g89,M2,hM,hM2,hrec2,hTf⟩
    have b3:=hM.b3
    rw [hsv1] at b3
    have bp:=hM.bp
    rw [e2] at bp
    have b6:=hM.b6
    have b2:=hM.b2
    have hiM2:i < M2.length:=by omega
    have hj1:2 * n + i < M2[i].length:=by rw [hrec2 i hiM2];omega
    have w4:IntKind.i64.wrap (2 * (n:Int) + i)=2 * (n:Int) + i:=a0L (by omega) (by omega)
    have i1:=hM.ia (i:=i) (j:=2 * n + i) hiM2 hj1
    rw [hxi,show ((2 * n + i:Nat):Int)=2 * (n:Int) + i by omega] at i1
    obtain ⟨G2,st1,hM3,_,_,_⟩:=hM.store (x:=1) (i:=i) (j:=2 * n + i) hiM2 hj1 hM.dv
    rw [hxi] at st1
    refine a0v ?_
    simp [s0m,g3,g6,g14,g16,b3,b6,bp,w1,w4,i1,st1]
    obtain ⟨M3,hM3e⟩:∃ M3,M3=M2.set i (M2[i].set (2 * n + i) 1):=⟨_,rfl⟩
    have hrec3:Rec W M3:=by rw [hM3e];exact hrec2.set hiM2
    have hML3:M3.length=i + 3:=by rw [hM3e];simp [hM2]
    have hTf3:∀ r c,c < W→Tf M3 r c=if r=i∧c=2 * n + i then 1 else Tf M2 r c:=fun r c hc=>by rw [hM3e,c0X (W:=W) hiM2 hj1]
    rw [← hM3e] at hM3
    clear b3 bp b6 b2 st1 i1
    have b3:=hM3.b3
    rw [hsv1] at b3
    have bp:=hM3.bp
    rw [e2] at bp
    have b6:=hM3.b6
    have b2:=hM3.b2
    have kr3:=kr.mono c0f hM3.ext
    have hnl:n < q.A[i].length:=by omega
    obtain ⟨cs,ec,hcl,kc⟩:=Sls.load kr3 hnl (by omega)
    have hbq:q.A[i][n]=bbq q n i:=by unfold bbq;rw [n0p hiA hnl]
    rw [hbq] at kc
    refine g0J ?_
    simp [s0n,g2,g3,g6,g15,g16,b2,b3,b6,bp,kr3.ia hnl,ec]
    have hq1:=fun (R':a0A) (hR':f0v R')=>o0X (fl:=max H.size G2.size) (R:=R') kc (by have:=hM3.ext.1;omega) (hzA i n) hR'
    refine a0P.mono (hq1 _ trivial) ?_
    clear hq1
    rintro wb G4 ⟨kb,hx2⟩
    replace hM3:=hM3.mono hx2
    have hiM3:i < M3.length:=by omega
    have hj2:2 * n + m < M3[i].length:=by rw [hrec3 i hiM3];omega
    have i1:=hM3.ia (i:=i) (j:=2 * n + m) hiM3 hj2
    rw [hxi,e2] at i1
    obtain ⟨G5,st1,hM4,_,_,_⟩:=hM3.store (x:=bbq q n i) (i:=i) (j:=2 * n + m) hiM3 hj2 kb
    rw [hxi] at st1
    simp [i1,st1]
    obtain ⟨M4,hM4e⟩:∃ M4,M4=M3.set i (M3[i].set (2 * n + m) (bbq q n i)):=⟨_,rfl⟩
    have hrec4:Rec W M4:=by rw [hM4e];exact hrec3.set hiM3
    have hML4:M4.length=i + 3:=by rw [hM4e];simp [hML3]
    have hTf4:∀ r c,c < W→Tf M4 r c=if r=i then d0d n m (Tf q.A) (bbq q n) i c else Tf M' r c:=fun r c hc=>by
     rw [hM4e,c0X (W:=W) hiM3 hj2,hTf3 r c hc,hTf r c hc]
     by_cases hr:r=i
     ·subst hr
      simp only [true_and,if_true]
      unfold d0d
      by_cases c0:c=2 * n + m
      ·rw [if_pos c0,if_neg (by omega),if_neg (by omega),if_neg (by omega)]
      ·rw [if_neg c0]
       by_cases c1:c=2 * n + r
       ·rw [if_pos c1,if_neg (by omega),if_neg (by omega),if_pos (by omega),if_pos (by omega)]
       ·rw [if_neg c1]
        by_cases c2:c < n
        ·rw [if_pos c2,if_pos c2]
        ·rw [if_neg c2,if_neg c2]
         by_cases c3:c < 2 * n
         ·rw [if_pos (by omega),if_pos c3]
         ·rw [if_neg (by omega),if_neg c3]
          by_cases c4:c < 2 * n + m
          ·rw [if_pos c4,if_neg (by omega)]
          ·omega
     ·rw [if_neg (fun h=>hr h.1),if_neg (fun h=>hr h.1),if_neg hr,if_neg hr]
    rw [← hM4e] at hM4
    clear b3 bp b6 b2 st1 i1 kc ec kr3 kb hx2
    have b3:=hM4.b3
    rw [hsv1] at b3
    have bp:=hM4.bp
    rw [e2] at bp
    have b6:=hM4.b6
    have b2:=hM4.b2
    have hiM4:i < M4.length:=by omega
    have hj3:2 * n + m < M4[i].length:=by rw [hrec4 i hiM4];omega
    obtain ⟨wv,ev,fv⟩:=hM4.num (i:=i) (j:=2 * n + m) hiM4 hj3
    have i1:=hM4.ia (i:=i) (j:=2 * n + m) hiM4 hj3
    rw [hxi] at ev i1
    rw [e2] at i1
    rw [hTf4 i (2 * n + m) (by omega),if_pos rfl,e0p] at fv
    simp [s0o,g3,g14,b3,w1,w4]
    refine a0v ?_
    simp [s0p,g2,g6,g16,b2,b6,bp,i1,ev]
    refine (f0N fv (by have:=hM4.ext.1;omega) (hzA i n)).mono ?_
    rintro _ G6 ⟨rfl,hx2⟩
    replace hM4:=hM4.mono hx2
    clear b3 bp b6 b2 ev fv i1
    by_cases hneg:bbq q n i < 0
    ·have hc:b0T (bbq q n i) 0 = -1:=by unfold b0T;rw [if_pos hneg]
     have bp:=hM4.bp
     rw [e2] at bp
     have b6:=hM4.b6
     have hslx:=(hM4.rows.own i hiM4).slen
     rw [hxi,hrec4 i hiM4] at hslx
     have w5:IntKind.i64.wrap (2 * (n:Int) + m + i)=2 * (n:Int) + m + i:=a0L (by omega) (by omega)
     have hx9:(vs ++ x :: [w9,w10])[i + 1]'(by simp;omega)=w9:=by rw [List.getElem_append_right (by omega)];simp [hvl]
     simp [hc,s0q,g6,g14,b6,bp,w5,s0r,g16,hslx]
     refine c0h (n:=W) (fun k ρ G=>ρ 2=.pointer (some ⟨H.size,0,none⟩)∧ρ 3=.pointer (some ⟨H.size + 1,0,none⟩)∧ρ 6=.pointer (some ⟨p + 1,0,none⟩)∧ρ 8=.func (.func k0J) #[] #[.pointer (some ⟨p + 1,0,none⟩),.pointer (some ⟨P7,0,none⟩)]∧ρ 9=w9∧ρ 10=w10∧ρ 77=sA∧ρ 78=.int .i64 (m:Int)∧ρ 79=.int .i64 (i:Int)∧ρ 16=x∧ρ 20=.int .i64 (2 * (n:Int) + m + i) ∧
      ∃ M5,d0p H H.size (H.size + 1) (p + 1) P7 p n m sv (vs ++ x :: [w9,w10]) M5 sR sD sB vs bs G∧M5.length=i + 3∧Rec W M5∧∀ r c,c < W→Tf M5 r c=if r=i then (if c < k then -d0d n m (Tf q.A) (bbq q n) i c else d0d n m (Tf q.A) (bbq q n) i c) else if r=i + 1 then (if c < k then -h0f q n m i c - -d0d n m (Tf q.A) (bbq q n) i c else -h0f q n m i c) else Tf M' r c)
      rfl rfl (by decide) (by omega) (by simp) (by simp) ?_ ?_ ?_ ?_
     ·refine ⟨by simp [g2],by simp [g3],by simp [g6],by simp [g8],by simp [g9],by simp [g10],by simp [g77],by simp [gm],by simp [gi],by simp [g16],by simp,M4,hM4,hML4,hrec4,fun r c hc=>?_⟩
      rw [hTf4 r c hc]
      by_cases hri:r=i
      ·rw [if_pos hri,if_pos hri,if_neg (by omega)]
      ·rw [if_neg hri,if_neg hri]
       by_cases hri2:r=i + 1
       ·rw [if_pos hri2,if_neg (by omega),hri2,hTi,if_neg (by omega),if_neg (by omega),show i + 1 - 1=i by omega,hT2 c hc]
       ·rw [if_neg hri2]
     ·intro i ρ ρ' G h hI;simpa [h] using hI
     ·clear g2 g3 g6 g8 g9 g10 g77 gi gm g14 g15 g16 g89 b6 bp hslx hc
      rintro k ρ G hk gk gn ⟨g2,g3,g6,g8,g9,g10,g77,gm,gi,g16,g20,M5,hM,hML5,hrec5,hTf5⟩
      have hiM:i < M5.length:=by omega
      have hki:k < M5[i].length:=by rw [hrec5 i hiM];exact hk
      obtain ⟨wv,ev,fv⟩:=hM.num (i:=i) (j:=k) hiM hki
      have i1:=hM.ia (i:=i) (j:=k) hiM hki
      rw [hxi] at ev i1
      rw [hTf5 i k hk,if_pos rfl,if_neg (by omega)] at fv
      obtain ⟨oc,hoc⟩:∃ z,z=d0d n m (Tf q.A) (bbq q n) i k:=⟨_,rfl⟩
      rw [← hoc] at fv
      have hlo:lz oc < 67108864:=by
       rw [hoc];unfold d0d
       split
       ·exact hzA _ _
       ·split
        ·rw [e0s];exact hzA _ _
        ·split
         ·split
          ·rw [f0b];decide
          ·rw [c0L];decide
         ·exact hzA _ _
      have b2:=hM.b2
      have hsz:=hM.ext.1
      simp [s0s,gk]
      refine a0v ?_
      simp [s0t,g2,g16,gk,b2,i1,ev]
      refine (j0f fv (by omega) hlo).mono ?_
      rintro wn G2 ⟨kn,hx2⟩
      replace hM:=hM.mono hx2
      obtain ⟨G3,st1,hM6,_,_,hs3⟩:=hM.store (x:=-oc) (i:=i) (j:=k) hiM hki kn
      rw [hxi] at st1
      simp [i1,st1]
      obtain ⟨M6,hM6e⟩:∃ M6,M6=M5.set i (M5[i].set k (-oc)):=⟨_,rfl⟩
      have hrec6:Rec W M6:=by rw [hM6e];exact hrec5.set hiM
      have hML6:M6.length=i + 3:=by rw [hM6e];simp [hML5]
      have hTf6:∀ r c,Tf M6 r c=if r=i∧c=k then -oc else Tf M5 r c:=fun r c=>by rw [hM6e,c0X (W:=W) hiM hki]
      rw [← hM6e] at hM6
      have hiM6:i < M6.length:=by omega
      have hi1M6:i + 1 < M6.length:=by omega
      have hki6:k < M6[i].length:=by rw [hrec6 i hiM6];exact hk
      have hk16:k < M6[i + 1].length:=by rw [hrec6 (i + 1) hi1M6];exact hk
      obtain ⟨wx,ex,fx⟩:=hM6.num (i:=i) (j:=k) hiM6 hki6
      obtain ⟨wl,el,fl9⟩:=hM6.num (i:=i + 1) (j:=k) hi1M6 hk16
      have i2:=hM6.ia (i:=i + 1) (j:=k) hi1M6 hk16
      have i3:=hM6.ia (i:=i) (j:=k) hiM6 hki6
      rw [hxi] at ex i3
      rw [hx9] at el i2
      rw [hTf6 i k,if_pos ⟨rfl,rfl⟩] at fx
      rw [hTf6 (i + 1) k,if_neg (by omega),hTf5 (i + 1) k hk,if_neg (by omega),if_pos rfl,if_neg (by omega)] at fl9
      have b6:=hM6.b6
      have hsz:=hM6.ext.1
      refine g0J ?_
      simp [s0u,g6,g9,g16,b6,i2,i3,ex,el]
      have hq1:=fun (R':a0A) (hR':f0v R')=>v0F (fl:=H.size) (R:=R') hsz hM6.bp fl9 fx (by rw [e0s];exact hzL i k (by omega) (by omega)) (by rw [e0s];exact hlo) hR'
      refine a0P.mono (hq1 _ trivial) ?_
      clear hq1
      rintro ws G4 ⟨kw,hx4⟩
      replace hM6:=hM6.mono hx4
      obtain ⟨G5,st2,hM7,_,_,_⟩:=hM6.store (x:=-h0f q n m i k - -oc) (i:=i + 1) (j:=k) hi1M6 hk16 kw
      rw [hx9] at st2
      simp [i2,st2]
      refine Rnd.mk ?_ ?_ ?_
      ·simp [gk]
      ·simp [gn]
      refine ⟨by simp [g2],by simp [g3],by simp [g6],by simp [g8],by simp [g9],by simp [g10],by simp [g77],by simp [gm],by simp [gi],by simp [g16],by simp [g20],_,hM7,by simp [hML6],hrec6.set hi1M6,fun r c hc=>?_⟩
      rw [c0X (W:=W) hi1M6 hk16,hTf6 r c,hTf5 r c hc,hoc]
      have p1:c ≠ k→(c < k + 1)=(c < k):=fun h=>propext (by omega)
      by_cases hri:r=i
      ·subst hri
       rw [if_neg (by omega)]
       by_cases hck:c=k
       ·subst hck;simp
       ·simp [hck,p1 hck]
      ·by_cases hri2:r=i + 1
       ·subst hri2
        by_cases hck:c=k
        ·subst hck;simp
        ·simp [hck,p1 hck]
       ·simp [hri,hri2]
     ·clear g2 g3 g6 g8 g9 g10 g77 gi gm g14 g15 g16 g89 b6 bp hslx hc
      rintro ρ G gk gn ⟨g2,g3,g6,g8,g9,g10,g77,gm,gi,g16,g20,M5,hM5,hML5,hrec5,hTf5'⟩
      have hbz:((e0y n m (bbq q n) i:Nat):Int)=2 * (n:Int) + m + i:=by unfold e0y;rw [if_pos hneg];omega
      have hTf5:∀ r c,c < W→Tf M5 r c=if r=i then sg (bbq q n) i * d0d n m (Tf q.A) (bbq q n) i c else if r=i + 1 then -h0f q n m (i + 1) c else Tf M' r c:=fun r c hc=>by
       rw [hTf5' r c hc]
       by_cases hri:r=i
       ·rw [if_pos hri,if_pos hri,if_pos hc];unfold sg;rw [if_pos hneg];omega
       ·rw [if_neg hri,if_neg hri]
        by_cases hri2:r=i + 1
        ·rw [if_pos hri2,if_pos hri2,if_pos hc]
         have:h0f q n m (i + 1) c=h0f q n m i c + -d0d n m (Tf q.A) (bbq q n) i c:=by unfold h0f;rw [sm,if_pos hneg];unfold sg;rw [if_pos hneg];omega
         rw [this];omega
        ·rw [if_neg hri2,if_neg hri2]
      have hx4:=(hM5.rows.own i (by omega)).cells
      rw [hxi] at hx4
      obtain ⟨sR',G8,sB',G9,a1,a2,q1,p1,q2,p2,c1,c2,c3,c4,hbR,hbB,hset⟩:=hM5.push2 (w:=x) hx4.2 (b:=e0y n m (bbq q n) i) (by omega) (by omega)
      have b6:=hM5.b6
      have bp:=hM5.bp
      rw [e2] at bp p1 p2
      refine c0g ?_
      have hpl8:=a0k p2
      rw [hbz] at a2
      simp [m0P,g6,g16,g20,b6,bp,hx4.1,a1,q1,p1,a2,q2,p2,c1,c2,c3,c4,hpH,hpl8]
      generalize hS1:Array.setIfInBounds G9 p _=G10
      have hM6:=hset G10 (by rw [← hS1,e2])
      clear hset
      refine ⟨⟨fun h=>(hbR _ h).1 rfl,fun x h=>(hbR x h).1,fun x h=>(hbR x h).2,fun h=>hbB _ h rfl⟩,?_⟩
      refine Rnd.mk ?_ ?_ ?_
      ·simp [gi]
      ·simp [gm]
      refine ⟨by simp [g2],by simp [g3],by simp [g6],by simp [g8],by simp [g9],by simp [g10],by simp [g77],vs ++ [x],bs ++ [e0y n m (bbq q n) i],M5,sR',sB',by simpa using hM6,by simp [hvl],by simp [hbl],hML5,hrec5,fun r c hr hc=>?_,fun c hc=>?_,fun c hc=>?_,fun r hr=>?_⟩
      ·rw [hTf5 r c hc]
       by_cases hri:r=i
       ·subst hri;rw [if_pos rfl]
       ·rw [if_neg hri,if_neg (by omega),hTi,if_pos (by omega),hT1 r c (by omega) hc]
      ·rw [hTf5 (i + 1) c hc,if_neg (by omega),if_pos rfl]
      ·rw [hTf5 (i + 2) c hc,if_neg (by omega),if_neg (by omega),hTi,if_neg (by omega),if_neg (by omega)]
       exact hT3 c hc
      ·unfold bf
       rw [List.getD_eq_getElem?_getD]
       by_cases hri:r=i
       ·subst hri
        rw [List.getElem?_append_right (by omega),show r - bs.length=0 by omega];rfl
       ·rw [List.getElem?_append_left (by omega),← List.getD_eq_getElem?_getD]
        exact hT4 r (by omega)
    ·have hc:¬ b0T (bbq q n i) 0 < 0:=by unfold b0T;rw [if_neg hneg];split <;> omega
     have hbz:((e0y n m (bbq q n) i:Nat):Int)=2 * (n:Int) + i:=by unfold e0y;rw [if_neg hneg];omega
     obtain ⟨M5,hM5e⟩:∃ M5,M5=M4:=⟨_,rfl⟩
     have hM5:=hM4
     have hML5:=hML4
     have hrec5:=hrec4
     have hTf5:∀ r c,c < W→Tf M4 r c=if r=i then sg (bbq q n) i * d0d n m (Tf q.A) (bbq q n) i c else if r=i + 1 then -h0f q n m (i + 1) c else Tf M' r c:=fun r c hc=>by
      rw [hTf4 r c hc]
      by_cases hri:r=i
      ·rw [if_pos hri,if_pos hri];unfold sg;rw [if_neg hneg,Int.one_mul]
      ·rw [if_neg hri,if_neg hri]
       by_cases hri2:r=i + 1
       ·rw [if_pos hri2,hri2,hTi,if_neg (by omega),if_neg (by omega),show i + 1 - 1=i by omega,hT2 c hc]
        have:h0f q n m (i + 1) c=h0f q n m i c:=by unfold h0f;rw [sm,if_neg hneg,Int.add_zero]
        rw [this]
       ·rw [if_neg hri2]
     rw [← hM5e] at hM5 hML5 hrec5 hTf5
     simp [hc]
     have hx4:=(hM5.rows.own i (by omega)).cells
     rw [hxi] at hx4
     obtain ⟨sR',G8,sB',G9,a1,a2,q1,p1,q2,p2,c1,c2,c3,c4,hbR,hbB,hset⟩:=hM5.push2 (w:=x) hx4.2 (b:=e0y n m (bbq q n) i) (by omega) (by omega)
     have b6:=hM5.b6
     have bp:=hM5.bp
     rw [e2] at bp p1 p2
     refine c0g ?_
     have hpl8:=a0k p2
     rw [hbz] at a2
     simp [m0P,g6,g16,b6,bp,hx4.1,a1,q1,p1,a2,q2,p2,c1,c2,c3,c4,hpH,hpl8]
     generalize hS1:Array.setIfInBounds G9 p _=G10
     have hM6:=hset G10 (by rw [← hS1,e2])
     clear hset
     refine ⟨⟨fun h=>(hbR _ h).1 rfl,fun x h=>(hbR x h).1,fun x h=>(hbR x h).2,fun h=>hbB _ h rfl⟩,?_⟩
     refine Rnd.mk ?_ ?_ ?_
     ·simp [gi]
     ·simp [gm]
     refine ⟨by simp [g2],by simp [g3],by simp [g6],by simp [g8],by simp [g9],by simp [g10],by simp [g77],vs ++ [x],bs ++ [e0y n m (bbq q n) i],M5,sR',sB',by simpa using hM6,by simp [hvl],by simp [hbl],hML5,hrec5,fun r c hr hc=>?_,fun c hc=>?_,fun c hc=>?_,fun r hr=>?_⟩
     ·rw [hTf5 r c hc]
      by_cases hri:r=i
      ·subst hri;rw [if_pos rfl]
      ·rw [if_neg hri,if_neg (by omega),hTi,if_pos (by omega),hT1 r c (by omega) hc]
     ·rw [hTf5 (i + 1) c hc,if_neg (by omega),if_pos rfl]
     ·rw [hTf5 (i + 2) c hc,if_neg (by omega),if_neg (by omega),hTi,if_neg (by omega),if_neg (by omega)]
      exact hT3 c hc
     ·unfold bf
      rw [List.getD_eq_getElem?_getD]
      by_cases hri:r=i
      ·subst hri
       rw [List.getElem?_append_right (by omega),show r - bs.length=0 by omega];rfl
      ·rw [List.getElem?_append_left (by omega),← List.getD_eq_getElem?_getD]
       exact hT4 r (by omega)
  ·clear g2 g3 g5 g6 g8 g9 g10 g50 hM hM2 hrec hTf gk gn ρ M G
   rintro ρ G gi gm ⟨g2,g3,g6,g8,g9,g10,g77,vs,bs,M,sR,sB,hM,hvl,hbl,hML,hrec,hT1,hT2,hT3,hT4⟩
   have b6:=hM.b6
   have bp:=hM.bp
   rw [e2] at bp
   have c9:=(hM.rows.own m (by omega)).cells
   have c10:=(hM.rows.own (m + 1) (by omega)).cells
   have r9:(vs ++ [w9,w10])[m]'(by simp;omega)=w9:=by rw [List.getElem_append_right (by omega)];simp [hvl]
   have r10:(vs ++ [w9,w10])[m + 1]'(by simp;omega)=w10:=by rw [List.getElem_append_right (by omega)];simp [hvl]
   rw [r9] at c9
   rw [r10] at c10
   obtain ⟨sR',G2,a1,o1,x1,y1⟩:=n0Y hM.heads c9.2 c10.2 (by omega) (bytes:=24) (by omega) hM.ext.1
   have lx1:∀ {e:Nat},a0Q ≠ e→LxT e G G2:=fun hne=>hM.heads.lxT hne x1
   have p1:=lx1 (by decide) _ _ _ bp
   have q1:=lx1 (by decide) _ _ _ b6
   have nR6:=hM.heads.ne b6 (by decide)
   have hR':=hM.heads.blkOf
   obtain ⟨cR,pR⟩:=o1.cells
   have hpl:=a0k p1
   refine c0g ?_
   simp [s0v,g6,g9,g10,b6,bp,c9.1,c10.1,a1,q1,p1,cR,pR,hpH,hpl]
   have hnR:¬ (p + 1) ∈ blkW sR:=by
    rcases hR' with h0 | ⟨c,h0,h1⟩
    ·rw [h0];simp
    ·rw [h0,List.mem_singleton]
     intro h5;exact nR6 (by rw [h1,h5])
   generalize hS:Array.setIfInBounds G2 p _=G3
   have lx3:∀ {e:Nat},a0a ≠ e→LxT e G2 G3:=fun hne=>a0V hS p1 hne
   have q3:=lx3 (by decide) _ _ _ q1
   have hlx:Lx G G3:=fun b ro cs hb=>lx3 (by decide) b ro cs (lx1 (by decide) b ro cs hb)
   refine ⟨hnR,?_⟩
   simp [s0w,g6,q3]
   refine fun _=>⟨p,M,bs,sR',sD,sB,vs ++ [w9,w10],rfl,⟨?_,hpH,(hM.d.lx hlx),o1.lxm (Q':=PV) (lx3 (by decide)) (fun _ _ h=>h),⟨hM.rows.len,fun r hr=>((hM.rows.own r hr).lxm (Q':=PI) (lx1 (by decide)) (fun cs x hx=>v0j.lx _ _ _ _ (lx1 (by decide)) hx)).lxm (lx3 (by decide)) (fun cs x hx=>v0j.lx _ _ _ _ (lx3 (by decide)) hx),hM.rows.apart⟩,(hM.basis.lxm (Q':=PK) (lx1 (by decide)) (fun _ _ h=>h)).lxm (lx3 (by decide)) (fun _ _ h=>h)⟩,⟨hML,fun r hr=>by rw [hrec r hr,hW],hbl⟩,fun r c hr hc=>?_,fun r hr=>hT4 r hr⟩
   ·rw [a0C hS p1,e2]
   ·by_cases h1:r < m
    ·rw [hT1 r c h1 (by omega),d0Q h1]
    ·by_cases h2:r=m
     ·subst h2;rw [hT2 c (by omega),e0Y];rfl
     ·have:r=m + 1:=by omega
      subst this;rw [hT3 c (by omega),d0K]
end
/- rat: negated, Sub, Div. -/
section
open Go
set_option maxHeartbeats 4000000
variable {fl:Nat} {H G:a0f} {R:a0A} {v w:Value} {a b:b0R}
theorem i0Z {x:Rat} (h:b0X H v (a0e x)) (hf:fl≤H.size) (hn:szR x < 67108864) :
  a0P env fl w0j [v] H (fun r H'=>b0X H' r (a0e (-x))∧Ext H H') R:=by
 have k0:=h
 obtain ⟨s,u,rfl,hs,hu⟩:=h
 refine a0l V0C hf (h:=?_)
 intro ρ h0
 simp [I0s,D0d,h0]
 generalize hG:Array.push (Array.push H _) _=G
 have hx2:Ext H G:=by rw [← hG];exact (Ext.refl H).push.push
 have b0:a0f.blk G H.size=.row false a0d [.bool (a0e x).1.1,s,.bool (a0e x).2.1,u]:=by rw [← hG];simp
 have b1:a0f.blk G (H.size + 1)=.row false a0d [.bool false,.slice none 0 0,.bool false,.slice none 0 0]:=by rw [← hG];simp
 have hx:=Ext.refl H
 clear hG
 replace hx:=hx.trans hx2
 have k1:=hs.mono hx
 have k2:=hu.mono hx
 have ln:(a0n x.num).2.length=lz x.num:=rfl
 have l1:=e0d x
 refine a0v ?_
 simp [D0e,b0]
 refine (e0J (i:=a0n x.num) ⟨s,rfl,k1⟩ (by have:=hx.1;omega) (by omega)).mono ?_
 rintro _ G2 ⟨⟨s1,rfl,k3⟩,hx2⟩
 replace b0:=hx2.blk b0;replace b1:=hx2.blk b1;replace hx:=hx.trans hx2;replace k2:=k2.mono hx2
 rw [a0i] at k3 ⊢
 have hsz:=hx.1
 have hz:=a0k b1
 simp [b0,b1,k2.cells,k2.plain,k3.cells,k3.plain,hsz,hz]
 have e:a0e (-x)=(a0n (-x.num),a0n x.den):=by unfold a0e;rw [Rat.neg_num,Rat.neg_den]
 rw [e]
 exact fun _=>⟨s1,u,rfl,k3.setT b1 (by decide),k2.setT b1 (by decide)⟩
theorem i0N (h:b0X H v a) (k:b0X H w b) (hf:fl≤H.size) (hn:f0z a < 67108864) (hm:f0z b < 67108864) :
  a0P env fl n0N [v,w] H (fun r H'=>b0X H' r (a0e (b0O a - b0O b))∧Ext H H') R:=by
 have k0:=h
 have k1:=k
 obtain ⟨s,u,rfl,hs,hu⟩:=h
 obtain ⟨s',u',rfl,hs',hu'⟩:=k
 refine a0l V0u hf (h:=?_)
 intro ρ h0
 simp [I0k,C0k,h0]
 generalize hG:Array.push (Array.push (Array.push H _) _) _=G
 have hx2:Ext H G:=by rw [← hG];exact (Ext.refl H).push.push.push
 have b0:a0f.blk G H.size=.row false a0d [.bool a.1.1,s,.bool a.2.1,u]:=by rw [← hG];simp
 have b1:a0f.blk G (H.size + 1)=.row false a0d [.bool b.1.1,s',.bool b.2.1,u']:=by rw [← hG];simp
 have b2:a0f.blk G (H.size + 2)=.row false a0d [.bool false,.slice none 0 0,.bool false,.slice none 0 0]:=by rw [← hG];simp
 have hx:=Ext.refl H
 clear hG
 replace hx:=hx.trans hx2;replace k0:=k0.mono hx2;replace k1:=k1.mono hx2
 have sb:=b0U k1.ok.1 k1.ok.2
 refine a0v ?_
 simp [C0l,b0,b1]
 refine (b0H k1 (by have:=hx.1;omega) (by omega)).mono ?_
 rintro y G2 ⟨k2,hx2⟩
 replace b2:=hx2.blk b2;replace hx:=hx.trans hx2;replace k0:=k0.mono hx2
 simp
 refine (i0Z k2 (by have:=hx.1;omega) (by omega)).mono ?_
 rintro z G3 ⟨k3,hx2⟩
 replace b2:=hx2.blk b2;replace hx:=hx.trans hx2;replace k0:=k0.mono hx2
 have sn:=P0b (b0O b)
 simp
 refine (b0K k0 k3 hx.1 hn (by rw [a0x];omega)).mono ?_
 rintro _ G4 ⟨⟨s1,s2,rfl,k4,k5⟩,hx2⟩
 replace b2:=hx2.blk b2;replace hx:=hx.trans hx2
 rw [a0w,← Rat.sub_eq_add_neg] at k4 k5 ⊢
 have hz:=a0k b2
 simp [b2,k4.cells,k4.plain,k5.cells,k5.plain,hz]
 exact fun _=>⟨s1,s2,rfl,k4.setT b2 (by decide),k5.setT b2 (by decide)⟩
theorem i0M (h:b0X H v a) (k:b0X H w b) (hf:fl≤H.size) (hn:f0z a < 67108864) (hm:f0z b < 67108864) (hb0:b0O b ≠ 0) :
  a0P env fl u0t [v,w] H (fun r H'=>(∃ q,r=.tuple #[q,.int .i64 0]∧b0X H' q (a0e (b0O a / b0O b)))∧Ext H H') R:=by
 have k0:=h
 have k1:=k
 obtain ⟨s,u,rfl,hs,hu⟩:=h
 obtain ⟨s',u',rfl,hs',hu'⟩:=k
 refine a0l V0s hf (h:=?_)
 intro ρ h0
 simp [I0i,C0e,h0]
 generalize hG:Array.push (Array.push (Array.push H _) _) _=G
 have hx2:Ext H G:=by rw [← hG];exact (Ext.refl H).push.push.push
 have b0:a0f.blk G H.size=.row false a0d [.bool a.1.1,s,.bool a.2.1,u]:=by rw [← hG];simp
 have b1:a0f.blk G (H.size + 1)=.row false a0d [.bool b.1.1,s',.bool b.2.1,u']:=by rw [← hG];simp
 have b2:a0f.blk G (H.size + 2)=.row false a0d [.bool false,.slice none 0 0,.bool false,.slice none 0 0]:=by rw [← hG];simp
 have hx:=Ext.refl H
 clear hG
 replace hx:=hx.trans hx2;replace k0:=k0.mono hx2;replace k1:=k1.mono hx2
 have sa:=b0U k0.ok.1 k0.ok.2
 have sb:=b0U k1.ok.1 k1.ok.2
 refine a0v ?_
 simp [C0f,b0]
 refine (b0H k0 (by have:=hx.1;omega) (by omega)).mono ?_
 rintro _ G2 ⟨⟨s1,s2,rfl,k2,k3⟩,hx2⟩
 replace b0:=hx2.blk b0;replace b1:=hx2.blk b1;replace b2:=hx2.blk b2;replace hx:=hx.trans hx2;replace k0:=k0.mono hx2;replace k1:=k1.mono hx2
 simp [b1]
 refine (b0H k1 hx.1 (by omega)).mono ?_
 rintro _ G2 ⟨⟨s3,s4,rfl,k4,k5⟩,hx2⟩
 replace b0:=hx2.blk b0;replace b1:=hx2.blk b1;replace b2:=hx2.blk b2;replace hx:=hx.trans hx2;replace k0:=k0.mono hx2;replace k1:=k1.mono hx2;replace k2:=k2.mono hx2;replace k3:=k3.mono hx2
 clear k0 k1
 have hz0:=a0k b0
 simp [b0,k2.cells,k2.plain,k3.cells,k3.plain,hz0]
 generalize hS:Array.setIfInBounds _ _ _=G3
 have hsz:=hx.1;replace k2:=k2.setS hS b0 (by decide);replace k3:=k3.setS hS b0 (by decide);replace k4:=k4.setS hS b0 (by decide);replace k5:=k5.setS hS b0 (by decide);replace b1:=a0F hS b1 (by omega);replace b2:=a0F hS b2 (by omega);replace hx:=b0x hS hx (by omega);replace b0:=a0C hS b0;clear hS hsz
 have hz0:=a0k b1
 simp [b1,k4.cells,k4.plain,k5.cells,k5.plain,hz0]
 generalize hS:Array.setIfInBounds _ _ _=G3
 have hsz:=hx.1;replace k2:=k2.setS hS b1 (by decide);replace k3:=k3.setS hS b1 (by decide);replace k4:=k4.setS hS b1 (by decide);replace k5:=k5.setS hS b1 (by decide);replace b0:=a0F hS b0 (by omega);replace b2:=a0F hS b2 (by omega);replace hx:=b0x hS hx (by omega);replace b1:=a0C hS b1;clear hS hsz
 obtain ⟨x,hxv⟩:∃ x,x=b0O a:=⟨_,rfl⟩
 obtain ⟨y,hyv⟩:∃ y,y=b0O b:=⟨_,rfl⟩
 rw [← hxv] at sa k2 k3 b0 ⊢
 rw [← hyv] at sb k4 k5 b1 hb0 ⊢
 have k0:b0q _ (.agg #[.bool (a0e x).1.1,s1]) (a0n x.num):=⟨s1,rfl,k2⟩
 have k1:b0q _ (.agg #[.bool (a0e x).2.1,s2]) (a0n x.den):=⟨s2,rfl,k3⟩
 have k6:b0q _ (.agg #[.bool (a0e y).1.1,s3]) (a0n y.num):=⟨s3,rfl,k4⟩
 have k7:b0q _ (.agg #[.bool (a0e y).2.1,s4]) (a0n y.den):=⟨s4,rfl,k5⟩
 have l1:=e0d x
 have l2:=e0W x
 have l3:=e0d y
 have l4:=e0W y
 clear hs hu hs' hu' k2 k3 k4 k5
 refine a0v ?_
 simp [C0g,b0,b1]
 refine (b0j k0 k7 (by have:=hx.1;omega) (by rw [a0j];omega) (by rw [a0j];omega)).mono ?_
 rintro _ G4 ⟨k2,hx2⟩
 replace b0:=hx2.blk b0;replace b1:=hx2.blk b1;replace b2:=hx2.blk b2;replace hx:=hx.trans hx2;replace k1:=k1.mono hx2;replace k6:=k6.mono hx2;replace k7:=k7.mono hx2
 simp [b0,b1]
 refine (b0j k1 k6 hx.1 (by rw [a0j];omega) (by rw [a0j];omega)).mono ?_
 rintro _ G5 ⟨k3,hx2⟩
 replace b2:=hx2.blk b2;replace hx:=hx.trans hx2;replace k2:=k2.mono hx2;replace k6:=k6.mono hx2;replace k7:=k7.mono hx2
 rw [a0i,a0i] at k2 k3
 have q1:=c0F x.num y.den
 have q2:=c0F x.den y.num
 have hne:(x.den:Int) * y.num ≠ 0:=Int.mul_ne_zero (by have:=x.den_nz;omega) (fun h=>hb0 (Rat.num_eq_zero.1 h))
 rw [l0b]
 generalize x.num * y.den=p at *
 generalize (x.den:Int) * y.num=q at *
 simp
 have hq:=fun R'=>d0o (fl:=H.size) (R:=R') k2 k3 hx.1 (by rw [a0j];omega) (by rw [a0j];omega) (by rw [a0i];exact hne)
 simp only [a0i] at hq
 refine (hq _).mono ?_
 rintro _ G6 ⟨⟨_,rfl,s8,s9,rfl,k6,k7⟩,hx2⟩
 replace b2:=hx2.blk b2;replace hx:=hx.trans hx2
 have hz:=a0k b2
 simp [b2,k6.cells,k6.plain,k7.cells,k7.plain,hz]
 exact fun _=>⟨s8,s9,rfl,k6.setT b2 (by decide),k7.setT b2 (by decide)⟩
end
/- simplex.point, of either ring. -/
section
open Go SX
set_option maxHeartbeats 4000000
variable {fl:Nat} {H G:a0f} {R:a0A} {v w u:Value}
theorem x0r {a b D:Int} (hD:D ≠ 0):Rat.divInt a D + Rat.divInt b D=Rat.divInt (a + b) D:=by
 rw [Rat.divInt_add_divInt _ _ hD hD,← Int.add_mul,Rat.divInt_mul_right hD]
theorem R0q {b D:Int}:-Rat.divInt b D=Rat.divInt (-b) D:=by
 first
 | rw [Rat.neg_divInt]
 | rw [← Rat.neg_divInt]
theorem J0s {a b D:Int} (hD:D ≠ 0):Rat.divInt a D - Rat.divInt b D=Rat.divInt (a - b) D:=by
 rw [Rat.sub_eq_add_neg,R0q,x0r hD,Int.sub_eq_add_neg]
theorem x0s {D:Int}:Rat.divInt 0 D=0:=Rat.zero_divInt D
def ptq (n:Nat) (base:Nat→Nat) (F:Nat→Int) (q k:Nat):Int:=sm (fun i=>if base i=k then F i else if base i=n + k then -F i else 0) q
theorem i0J {n:Nat} {base:Nat→Nat} {F:Nat→Int} {K k:Nat}:∀ {q:Nat},(∀ i,i < q→lz (F i)≤K)→lz (ptq n base F q k)≤K + q
 | 0,_=>by unfold ptq;rw [sm,c0L];omega
 | q + 1,h=>by
  have h1:=i0J (n:=n) (base:=base) (k:=k) (q:=q) (fun i hi=>h i (by omega))
  have h2:=h q (by omega)
  have h3:∀ z,lz z≤K→lz (ptq n base F q k + z)≤K + (q + 1):=fun z hz=>by
   have:=o0e (ptq n base F q k) z;omega
  show lz (ptq n base F q k + if base q=k then F q else if base q=n + k then -F q else 0)≤_
  split
  ·exact h3 _ h2
  ·split
   ·exact h3 _ (by rw [e0s];exact h2)
   ·exact h3 _ (by rw [c0L];omega)
theorem c0V {n j:Nat} {f g:Nat→b0R} (h:∀ k,k < n→k ≠ j→g k=f k):((List.range n).map f).set j (g j)=(List.range n).map g:=by
 apply List.ext_getElem
 ·simp
 ·intro k h1 h2
  rw [List.getElem_set]
  simp only [List.getElem_map,List.getElem_range]
  split
  ·rename_i h3;rw [h3]
  ·rename_i h3;rw [h k (by simpa using h2) (fun h4=>h3 h4.symm)]
theorem i0g {f0 p n m:Nat} {L:List (List Int)} {k D x:Int} {bs:List Nat} {sR sD sB vx:Value} {vs:List Value} (h:b0B f0 H p n m L D bs k sR sD sB vs) (hf:fl≤H.size) (hx:f0n H vx x) (lx:lz x < 67108864) (lD:lz D < 67108864) (hD0:D ≠ 0) :
  a0P env fl n0O [.pointer (some ⟨p,0,none⟩),vx] H (fun r H'=>b0X H' r (a0e (Rat.divInt x D))∧Ext H H') R:=by
 obtain ⟨rfl,hx⟩:=hx
 exact k0O hf h.blk hx h.d hD0
theorem h0Z {f0 p n m:Nat} {L:List (List Int)} {k D x:Int} {bs:List Nat} {sR sD sB vx:Value} {vs:List Value} (h:b0A f0 H p n m L D bs k sR sD sB vs) (hf:fl≤H.size) (hx:f0i H vx x) (lx:lz x < 67108864) (lD:lz D < 67108864) (hD0:D ≠ 0) :
  a0P env fl n0M [.pointer (some ⟨p,0,none⟩),vx] H (fun r H'=>b0X H' r (a0e (Rat.divInt x D))∧Ext H H') R:=k0I hf h.blk h.d hx lx lD hD0
theorem k0N {f0 p n m:Nat} {L:List (List Int)} {k D:Int} {bs:List Nat} {sR sD sB:Value} {vs:List Value} {g:FuncId} {caps:Array Value} {F:Nat→Int} (h:b0B f0 H p n m L D bs k sR sD sB vs) (hf:fl≤H.size) (hS:ShT n m L bs) (hlD:lz D < 60000000) (hD0:D ≠ 0) (hF:∀ i,i < m→lz (F i)≤59999999) (hm:m < 1048576) (hn:n < 1048576)
  (hg:∀ (fl i:Nat) (G:a0f) (R':a0A),Ext H G→fl≤G.size→i < m→a0P env fl g (.int .i64 (i:Int) :: caps.toList) G (fun r G'=>f0n G' r (F i)∧Ext G G') R') :
  a0P env fl u0q [.pointer (some ⟨p,0,none⟩),.func (.func g) #[] caps] H (fun r H'=>a0Z PR H.size H' a0d 4 r ((List.range n).map fun k=>a0e (Rat.divInt (ptq n (bf bs) F m k) D))∧Ext H H') R:=by
 refine a0l V0m hf (h:=?_)
 intro ρ h0
 have hbk:=h.blk
 have hmk:=f0p (bytes:=64) (k:=.i64) (k':=.i64) (l:=n) (c:=n) (Nat.le_refl _) (by omega) (by omega)
 simp [I0c,B0x,B0y,h0,hbk,hmk]
 generalize hN:Array.push H _=G
 obtain ⟨hx,b0⟩:=k0C hN
 clear hN
 obtain ⟨hr1,hr2⟩:=j0m G n
 have ho:a0Z PR H.size G a0d 4 (.slice (some ⟨H.size,0,none⟩) n n) ((List.range n).map fun k=>if k < 0 then a0e 0 else e0B):=by
  refine ⟨_,by simpa using Own.mk (n:=n) (sz:=4) (cap:=n) b0 hr1 (Nat.le_refl _),fun k hk=>?_⟩
  simp only [List.getElem_map,List.getElem_range]
  rw [if_neg (by omega)]
  exact hr2 k (by simpa using hk)
 have hsl:=ho.slen
 simp only [List.length_map,List.length_range] at hsl
 clear b0 hr1 hr2 hmk hbk
 simp [B0z,hsl]
 refine c0h (n:=n) (fun k ρ G=>ρ 0=.pointer (some ⟨p,0,none⟩)∧ρ 1=.func (.func g) #[] caps∧Ext H G∧a0Z PR H.size G a0d 4 (ρ 5) ((List.range n).map fun j=>if j < k then a0e 0 else e0B)) rfl rfl (by decide) (by omega) (by simp) (by simp) ?_ ?_ ?_ ?_
 ·exact ⟨by simp [h0],by simp [h0],hx,by simpa using ho⟩
 ·intro i ρ ρ' G h hI;simpa [h] using hI
 ·clear h0 ρ hx ho hsl
  rintro k ρ G hk gk gn ⟨g0,g1,hx,ho⟩
  obtain ⟨s,g5⟩:∃ s,ρ 5=s:=⟨_,rfl⟩
  rw [g5] at ho
  simp [B0A,B0B,gk,g5]
  refine (c0p (n:=0) hx.1 (by omega) (by omega)).mono ?_
  rintro _ G2 ⟨⟨s1,s2,rfl,k1,k2⟩,hx2⟩
  replace ho:=ho.mono a0z hx2
  replace hx:=hx.trans hx2
  have hkl:k < ((List.range n).map fun j=>if j < k then a0e 0 else e0B).length:=by simpa using hk
  have hz0:((0:Int):Rat)=0:=rfl
  rw [hz0] at k1 k2
  obtain ⟨G3,hst,ho2,hxb⟩:=a0Z.store (x:=a0e 0) (w:=.agg #[.bool (a0e 0).1.1,s1,.bool (a0e 0).2.1,s2]) ho hkl (by decide) rfl (by simp [k1.plain,k2.plain]) (fun G' _ hl=>⟨s1,s2,rfl,k1.lx hl,k2.lx hl⟩) (by decide) (fun G' cs y _ hl h=>b0X.lx h hl)
  have ia:=ho.sls.ia (k:=.i64) hkl
  simp [gk,g5,ia,hst]
  have hset:=c0V (n:=n) (j:=k) (f:=fun j=>if j < k then a0e 0 else e0B) (g:=fun j=>if j < k + 1 then a0e 0 else e0B) (fun j _ hj=>by
   have:(j < k + 1)=(j < k):=propext (by omega)
   simp only [this])
  simp only [if_pos (Nat.lt_succ_self k)] at hset
  rw [hset] at ho2
  exact Rnd.mk (by simp [gk]) (by simp [gn]) ⟨by simp [g0],by simp [g1],d0S hx hxb (fun b hb=>(ho.ge hb).1),by simpa [g5] using ho2⟩
 ·clear h0 ρ hx ho hsl
  rintro ρ G gk gn ⟨g0,g1,hx,ho⟩
  have hG:=h.mono hx
  have hbk:=hG.blk
  have hslB:=hG.basis.sls.slen
  rw [hS.base] at hslB
  simp [B0C,g0,hbk,hslB]
  have hst0:((List.range n).map fun j=>if j < n then a0e 0 else e0B)=(List.range n).map fun k=>a0e (Rat.divInt (ptq n (bf bs) F 0 k) D):=by
   apply List.map_congr_left
   intro j hj
   rw [if_pos (by simpa using hj)]
   unfold ptq
   rw [sm,x0s]
  rw [hst0] at ho
  refine c0h (n:=m) (fun q ρ G=>ρ 0=.pointer (some ⟨p,0,none⟩)∧ρ 1=.func (.func g) #[] caps∧ρ 27=sB∧Ext H G∧a0Z PR H.size G a0d 4 (ρ 5) ((List.range n).map fun k=>a0e (Rat.divInt (ptq n (bf bs) F q k) D))) rfl rfl (by decide) (by omega) (by simp) (by simp) ?_ ?_ ?_ ?_
  ·exact ⟨by simp [g0],by simp [g1],by simp,hx,by simpa using ho⟩
  ·intro i ρ ρ' G h hI;simpa [h] using hI
  ·clear hx ho gk gn g0 g1 hst0 hG hbk hslB ρ G
   rintro q ρ G hq gq gm ⟨g0,g1,g27,hx,ho⟩
   obtain ⟨s,g5⟩:∃ s,ρ 5=s:=⟨_,rfl⟩
   rw [g5] at ho
   have hG:=h.mono hx
   have hbk:=hG.blk
   obtain ⟨lb,ib⟩:=hG.base (show q < bs.length by rw [hS.base];exact hq)
   obtain ⟨j,hj⟩:∃ j,j=bf bs q:=⟨_,rfl⟩
   rw [← hj] at lb
   have w2:IntKind.i64.wrap (2 * (n:Int))=2 * (n:Int):=a0L (by omega) (by omega)
   simp [B0D,gq,g27,ib,lb,t0c,g0,hbk]
   have hsucc:∀ k,ptq n (bf bs) F (q + 1) k=ptq n (bf bs) F q k + if j=k then F q else if j=n + k then -F q else 0:=fun k=>by
    show ptq n (bf bs) F q k + _=_;rw [hj]
   by_cases hjn:j < n
   ·simp [hjn,show ¬ n≤j by omega]
    have hjl:j < ((List.range n).map fun k=>a0e (Rat.divInt (ptq n (bf bs) F q k) D)).length:=by simpa using hjn
    have ia:=ho.sls.ia (k:=.i64) hjl
    obtain ⟨wx,ex,kx⟩:=b0l.load ho.sls hjl
    simp only [List.getElem_map,List.getElem_range] at kx
    refine a0v ?_
    simp [t0d,g0,g1,g5,gq,ia,ex]
    refine (hg _ q G _ hx (by have:=hx.1;omega) hq).mono ?_
    rintro wf G2 ⟨kf,hx2⟩
    have hG2:=hG.mono hx2
    replace kx:=kx.mono hx2
    replace ho:=ho.mono a0z hx2
    replace hx:=hx.trans hx2
    simp [g0]
    refine (i0g hG2 (by have:=hx.1;omega) kf (by have:=hF q hq;omega) (by omega) hD0).mono ?_
    rintro wv G3 ⟨kv,hx2⟩
    replace kx:=kx.mono hx2
    replace ho:=ho.mono a0z hx2
    replace hx:=hx.trans hx2
    simp
    have hlp:=i0J (n:=n) (base:=bf bs) (F:=F) (K:=59999999) (k:=j) (q:=q) (fun i hi=>hF i (by omega))
    have hs1:=b0k (ptq n (bf bs) F q j) D
    have hs2:=b0k (F q) D
    have hfq:=hF q hq
    refine (b0K kx kv hx.1 (by rw [a0x];omega) (by rw [a0x];omega)).mono ?_
    rintro _ G4 ⟨⟨s1,s2,rfl,k1,k2⟩,hx2⟩
    replace ho:=ho.mono a0z hx2
    replace hx:=hx.trans hx2
    rw [a0w,a0w,x0r hD0] at k1 k2 ⊢
    have hsj:=hsucc j
    rw [if_pos rfl] at hsj
    rw [← hsj] at k1 k2 ⊢
    obtain ⟨G5,hst,ho2,hxb⟩:=a0Z.store (x:=a0e (Rat.divInt (ptq n (bf bs) F (q + 1) j) D)) (w:=.agg #[.bool (a0e (Rat.divInt (ptq n (bf bs) F (q + 1) j) D)).1.1,s1,.bool (a0e (Rat.divInt (ptq n (bf bs) F (q + 1) j) D)).2.1,s2]) ho hjl (by decide) rfl (by simp [k1.plain,k2.plain]) (fun G' _ hl=>⟨s1,s2,rfl,k1.lx hl,k2.lx hl⟩) (by decide) (fun G' cs y _ hl h=>b0X.lx h hl)
    simp [g5,ia,hst]
    have hset:=c0V (n:=n) (j:=j) (f:=fun k=>a0e (Rat.divInt (ptq n (bf bs) F q k) D)) (g:=fun k=>a0e (Rat.divInt (ptq n (bf bs) F (q + 1) k) D)) (fun k _ hk=>by
     rw [hsucc k,if_neg (fun h=>hk h.symm),if_neg (by omega),Int.add_zero])
    rw [hset] at ho2
    exact Rnd.mk (by simp [gq]) (by simp [gm]) ⟨by simp [g0],by simp [g1],by simp [g27],d0S hx hxb (fun b hb=>(ho.ge hb).1),by simpa [g5] using ho2⟩
   ·have hge:n≤j:=by omega
    simp [hjn,hge,t0e,g0,hbk,w2]
    by_cases hjt:j < 2 * n
    ·simp [show (j:Int) < 2 * (n:Int) by omega,show ¬ 2 * (n:Int)≤(j:Int) by omega]
     have hjl:j - n < ((List.range n).map fun k=>a0e (Rat.divInt (ptq n (bf bs) F q k) D)).length:=by simp;omega
     have ia:=ho.sls.ia (k:=.i64) hjl
     have wj:IntKind.i64.wrap ((j:Int) - (n:Int))=((j - n:Nat):Int):=by
      rw [a0L (by omega) (by omega)];omega
     obtain ⟨wx,ex,kx⟩:=b0l.load ho.sls hjl
     simp only [List.getElem_map,List.getElem_range] at kx
     refine a0v ?_
     simp [t0f,g0,g1,g5,gq,hbk,wj,ia,ex]
     refine (hg _ q G _ hx (by have:=hx.1;omega) hq).mono ?_
     rintro wf G2 ⟨kf,hx2⟩
     have hG2:=hG.mono hx2
     replace kx:=kx.mono hx2
     replace ho:=ho.mono a0z hx2
     replace hx:=hx.trans hx2
     simp [g0]
     refine (i0g hG2 (by have:=hx.1;omega) kf (by have:=hF q hq;omega) (by omega) hD0).mono ?_
     rintro wv G3 ⟨kv,hx2⟩
     replace kx:=kx.mono hx2
     replace ho:=ho.mono a0z hx2
     replace hx:=hx.trans hx2
     simp
     have hlp:=i0J (n:=n) (base:=bf bs) (F:=F) (K:=59999999) (k:=j - n) (q:=q) (fun i hi=>hF i (by omega))
     have hs1:=b0k (ptq n (bf bs) F q (j - n)) D
     have hs2:=b0k (F q) D
     have hfq:=hF q hq
     refine (i0N kx kv (by have:=hx.1;omega) (by rw [a0x];omega) (by rw [a0x];omega)).mono ?_
     rintro _ G4 ⟨⟨s1,s2,rfl,k1,k2⟩,hx2⟩
     replace ho:=ho.mono a0z hx2
     replace hx:=hx.trans hx2
     rw [a0w,a0w,J0s hD0] at k1 k2 ⊢
     have hsj:=hsucc (j - n)
     rw [if_neg (by omega),if_pos (by omega),← Int.sub_eq_add_neg] at hsj
     rw [← hsj] at k1 k2 ⊢
     obtain ⟨G5,hst,ho2,hxb⟩:=a0Z.store (x:=a0e (Rat.divInt (ptq n (bf bs) F (q + 1) (j - n)) D)) (w:=.agg #[.bool (a0e (Rat.divInt (ptq n (bf bs) F (q + 1) (j - n)) D)).1.1,s1,.bool (a0e (Rat.divInt (ptq n (bf bs) F (q + 1) (j - n)) D)).2.1,s2]) ho hjl (by decide) rfl (by simp [k1.plain,k2.plain]) (fun G' _ hl=>⟨s1,s2,rfl,k1.lx hl,k2.lx hl⟩) (by decide) (fun G' cs y _ hl h=>b0X.lx h hl)
     simp [g5,ia,hst]
     have hset:=c0V (n:=n) (j:=j - n) (f:=fun k=>a0e (Rat.divInt (ptq n (bf bs) F q k) D)) (g:=fun k=>a0e (Rat.divInt (ptq n (bf bs) F (q + 1) k) D)) (fun k _ hk=>by
      rw [hsucc k,if_neg (by omega),if_neg (by omega),Int.add_zero])
     rw [hset] at ho2
     exact Rnd.mk (by simp [gq]) (by simp [gm]) ⟨by simp [g0],by simp [g1],by simp [g27],d0S hx hxb (fun b hb=>(ho.ge hb).1),by simpa [g5] using ho2⟩
    ·simp [show 2 * (n:Int)≤(j:Int) by omega,show ¬ (j:Int) < 2 * (n:Int) by omega]
     have hset:((List.range n).map fun k=>a0e (Rat.divInt (ptq n (bf bs) F q k) D))=(List.range n).map fun k=>a0e (Rat.divInt (ptq n (bf bs) F (q + 1) k) D):=by
      apply List.map_congr_left
      intro k hk
      have hk:k < n:=by simpa using hk
      rw [hsucc k,if_neg (by omega),if_neg (by omega),Int.add_zero]
     rw [hset] at ho
     exact Rnd.mk (by simp [gq]) (by simp [gm]) ⟨by simp [g0],by simp [g1],by simp [g27],hx,by simpa [g5] using ho⟩
  ·rintro ρ G gk gn ⟨g0,g1,g27,hx,ho⟩
   simp [t0g]
   exact fun _=>ho
theorem k0H {f0 p n m:Nat} {L:List (List Int)} {k D:Int} {bs:List Nat} {sR sD sB:Value} {vs:List Value} {g:FuncId} {caps:Array Value} {F:Nat→Int} (h:b0A f0 H p n m L D bs k sR sD sB vs) (hf:fl≤H.size) (hS:ShT n m L bs) (hlD:lz D < 60000000) (hD0:D ≠ 0) (hF:∀ i,i < m→lz (F i)≤59999999) (hm:m < 1048576) (hn:n < 1048576)
  (hg:∀ (fl i:Nat) (G:a0f) (R':a0A),Ext H G→fl≤G.size→i < m→a0P env fl g (.int .i64 (i:Int) :: caps.toList) G (fun r G'=>f0i G' r (F i)∧Ext G G') R') :
  a0P env fl u0n [.pointer (some ⟨p,0,none⟩),.func (.func g) #[] caps] H (fun r H'=>a0Z PR H.size H' a0d 4 r ((List.range n).map fun k=>a0e (Rat.divInt (ptq n (bf bs) F m k) D))∧Ext H H') R:=by
 refine a0l V0b hf (h:=?_)
 intro ρ h0
 have hbk:=h.blk
 have hmk:=f0p (bytes:=64) (k:=.i64) (k':=.i64) (l:=n) (c:=n) (Nat.le_refl _) (by omega) (by omega)
 simp [H0R,A0m,A0n,h0,hbk,hmk]
 generalize hN:Array.push H _=G
 obtain ⟨hx,b0⟩:=k0C hN
 clear hN
 obtain ⟨hr1,hr2⟩:=j0m G n
 have ho:a0Z PR H.size G a0d 4 (.slice (some ⟨H.size,0,none⟩) n n) ((List.range n).map fun k=>if k < 0 then a0e 0 else e0B):=by
  refine ⟨_,by simpa using Own.mk (n:=n) (sz:=4) (cap:=n) b0 hr1 (Nat.le_refl _),fun k hk=>?_⟩
  simp only [List.getElem_map,List.getElem_range]
  rw [if_neg (by omega)]
  exact hr2 k (by simpa using hk)
 have hsl:=ho.slen
 simp only [List.length_map,List.length_range] at hsl
 clear b0 hr1 hr2 hmk hbk
 simp [A0o,hsl]
 refine c0h (n:=n) (fun k ρ G=>ρ 0=.pointer (some ⟨p,0,none⟩)∧ρ 1=.func (.func g) #[] caps∧Ext H G∧a0Z PR H.size G a0d 4 (ρ 5) ((List.range n).map fun j=>if j < k then a0e 0 else e0B)) rfl rfl (by decide) (by omega) (by simp) (by simp) ?_ ?_ ?_ ?_
 ·exact ⟨by simp [h0],by simp [h0],hx,by simpa using ho⟩
 ·intro i ρ ρ' G h hI;simpa [h] using hI
 ·clear h0 ρ hx ho hsl
  rintro k ρ G hk gk gn ⟨g0,g1,hx,ho⟩
  obtain ⟨s,g5⟩:∃ s,ρ 5=s:=⟨_,rfl⟩
  rw [g5] at ho
  simp [A0p,A0q,gk,g5]
  refine (c0p (n:=0) hx.1 (by omega) (by omega)).mono ?_
  rintro _ G2 ⟨⟨s1,s2,rfl,k1,k2⟩,hx2⟩
  replace ho:=ho.mono a0z hx2
  replace hx:=hx.trans hx2
  have hkl:k < ((List.range n).map fun j=>if j < k then a0e 0 else e0B).length:=by simpa using hk
  have hz0:((0:Int):Rat)=0:=rfl
  rw [hz0] at k1 k2
  obtain ⟨G3,hst,ho2,hxb⟩:=a0Z.store (x:=a0e 0) (w:=.agg #[.bool (a0e 0).1.1,s1,.bool (a0e 0).2.1,s2]) ho hkl (by decide) rfl (by simp [k1.plain,k2.plain]) (fun G' _ hl=>⟨s1,s2,rfl,k1.lx hl,k2.lx hl⟩) (by decide) (fun G' cs y _ hl h=>b0X.lx h hl)
  have ia:=ho.sls.ia (k:=.i64) hkl
  simp [gk,g5,ia,hst]
  have hset:=c0V (n:=n) (j:=k) (f:=fun j=>if j < k then a0e 0 else e0B) (g:=fun j=>if j < k + 1 then a0e 0 else e0B) (fun j _ hj=>by
   have:(j < k + 1)=(j < k):=propext (by omega)
   simp only [this])
  simp only [if_pos (Nat.lt_succ_self k)] at hset
  rw [hset] at ho2
  exact Rnd.mk (by simp [gk]) (by simp [gn]) ⟨by simp [g0],by simp [g1],d0S hx hxb (fun b hb=>(ho.ge hb).1),by simpa [g5] using ho2⟩
 ·clear h0 ρ hx ho hsl
  rintro ρ G gk gn ⟨g0,g1,hx,ho⟩
  have hG:=h.mono hx
  have hbk:=hG.blk
  have hslB:=hG.basis.sls.slen
  rw [hS.base] at hslB
  simp [A0r,g0,hbk,hslB]
  have hst0:((List.range n).map fun j=>if j < n then a0e 0 else e0B)=(List.range n).map fun k=>a0e (Rat.divInt (ptq n (bf bs) F 0 k) D):=by
   apply List.map_congr_left
   intro j hj
   rw [if_pos (by simpa using hj)]
   unfold ptq
   rw [sm,x0s]
  rw [hst0] at ho
  refine c0h (n:=m) (fun q ρ G=>ρ 0=.pointer (some ⟨p,0,none⟩)∧ρ 1=.func (.func g) #[] caps∧ρ 27=sB∧Ext H G∧a0Z PR H.size G a0d 4 (ρ 5) ((List.range n).map fun k=>a0e (Rat.divInt (ptq n (bf bs) F q k) D))) rfl rfl (by decide) (by omega) (by simp) (by simp) ?_ ?_ ?_ ?_
  ·exact ⟨by simp [g0],by simp [g1],by simp,hx,by simpa using ho⟩
  ·intro i ρ ρ' G h hI;simpa [h] using hI
  ·clear hx ho gk gn g0 g1 hst0 hG hbk hslB ρ G
   rintro q ρ G hq gq gm ⟨g0,g1,g27,hx,ho⟩
   obtain ⟨s,g5⟩:∃ s,ρ 5=s:=⟨_,rfl⟩
   rw [g5] at ho
   have hG:=h.mono hx
   have hbk:=hG.blk
   obtain ⟨lb,ib⟩:=hG.base (show q < bs.length by rw [hS.base];exact hq)
   obtain ⟨j,hj⟩:∃ j,j=bf bs q:=⟨_,rfl⟩
   rw [← hj] at lb
   have w2:IntKind.i64.wrap (2 * (n:Int))=2 * (n:Int):=a0L (by omega) (by omega)
   simp [A0s,gq,g27,ib,lb,s0A,g0,hbk]
   have hsucc:∀ k,ptq n (bf bs) F (q + 1) k=ptq n (bf bs) F q k + if j=k then F q else if j=n + k then -F q else 0:=fun k=>by
    show ptq n (bf bs) F q k + _=_;rw [hj]
   by_cases hjn:j < n
   ·simp [hjn,show ¬ n≤j by omega]
    have hjl:j < ((List.range n).map fun k=>a0e (Rat.divInt (ptq n (bf bs) F q k) D)).length:=by simpa using hjn
    have ia:=ho.sls.ia (k:=.i64) hjl
    obtain ⟨wx,ex,kx⟩:=b0l.load ho.sls hjl
    simp only [List.getElem_map,List.getElem_range] at kx
    refine a0v ?_
    simp [s0B,g0,g1,g5,gq,ia,ex]
    refine (hg _ q G _ hx (by have:=hx.1;omega) hq).mono ?_
    rintro wf G2 ⟨kf,hx2⟩
    have hG2:=hG.mono hx2
    replace kx:=kx.mono hx2
    replace ho:=ho.mono a0z hx2
    replace hx:=hx.trans hx2
    simp [g0]
    refine (h0Z hG2 (by have:=hx.1;omega) kf (by have:=hF q hq;omega) (by omega) hD0).mono ?_
    rintro wv G3 ⟨kv,hx2⟩
    replace kx:=kx.mono hx2
    replace ho:=ho.mono a0z hx2
    replace hx:=hx.trans hx2
    simp
    have hlp:=i0J (n:=n) (base:=bf bs) (F:=F) (K:=59999999) (k:=j) (q:=q) (fun i hi=>hF i (by omega))
    have hs1:=b0k (ptq n (bf bs) F q j) D
    have hs2:=b0k (F q) D
    have hfq:=hF q hq
    refine (b0K kx kv hx.1 (by rw [a0x];omega) (by rw [a0x];omega)).mono ?_
    rintro _ G4 ⟨⟨s1,s2,rfl,k1,k2⟩,hx2⟩
    replace ho:=ho.mono a0z hx2
    replace hx:=hx.trans hx2
    rw [a0w,a0w,x0r hD0] at k1 k2 ⊢
    have hsj:=hsucc j
    rw [if_pos rfl] at hsj
    rw [← hsj] at k1 k2 ⊢
    obtain ⟨G5,hst,ho2,hxb⟩:=a0Z.store (x:=a0e (Rat.divInt (ptq n (bf bs) F (q + 1) j) D)) (w:=.agg #[.bool (a0e (Rat.divInt (ptq n (bf bs) F (q + 1) j) D)).1.1,s1,.bool (a0e (Rat.divInt (ptq n (bf bs) F (q + 1) j) D)).2.1,s2]) ho hjl (by decide) rfl (by simp [k1.plain,k2.plain]) (fun G' _ hl=>⟨s1,s2,rfl,k1.lx hl,k2.lx hl⟩) (by decide) (fun G' cs y _ hl h=>b0X.lx h hl)
    simp [g5,ia,hst]
    have hset:=c0V (n:=n) (j:=j) (f:=fun k=>a0e (Rat.divInt (ptq n (bf bs) F q k) D)) (g:=fun k=>a0e (Rat.divInt (ptq n (bf bs) F (q + 1) k) D)) (fun k _ hk=>by
     rw [hsucc k,if_neg (fun h=>hk h.symm),if_neg (by omega),Int.add_zero])
    rw [hset] at ho2
    exact Rnd.mk (by simp [gq]) (by simp [gm]) ⟨by simp [g0],by simp [g1],by simp [g27],d0S hx hxb (fun b hb=>(ho.ge hb).1),by simpa [g5] using ho2⟩
   ·have hge:n≤j:=by omega
    simp [hjn,hge,s0C,g0,hbk,w2]
    by_cases hjt:j < 2 * n
    ·simp [show (j:Int) < 2 * (n:Int) by omega,show ¬ 2 * (n:Int)≤(j:Int) by omega]
     have hjl:j - n < ((List.range n).map fun k=>a0e (Rat.divInt (ptq n (bf bs) F q k) D)).length:=by simp;omega
     have ia:=ho.sls.ia (k:=.i64) hjl
     have wj:IntKind.i64.wrap ((j:Int) - (n:Int))=((j - n:Nat):Int):=by
      rw [a0L (by omega) (by omega)];omega
     obtain ⟨wx,ex,kx⟩:=b0l.load ho.sls hjl
     simp only [List.getElem_map,List.getElem_range] at kx
     refine a0v ?_
     simp [s0D,g0,g1,g5,gq,hbk,wj,ia,ex]
     refine (hg _ q G _ hx (by have:=hx.1;omega) hq).mono ?_
     rintro wf G2 ⟨kf,hx2⟩
     have hG2:=hG.mono hx2
     replace kx:=kx.mono hx2
     replace ho:=ho.mono a0z hx2
     replace hx:=hx.trans hx2
     simp [g0]
     refine (h0Z hG2 (by have:=hx.1;omega) kf (by have:=hF q hq;omega) (by omega) hD0).mono ?_
     rintro wv G3 ⟨kv,hx2⟩
     replace kx:=kx.mono hx2
     replace ho:=ho.mono a0z hx2
     replace hx:=hx.trans hx2
     simp
     have hlp:=i0J (n:=n) (base:=bf bs) (F:=F) (K:=59999999) (k:=j - n) (q:=q) (fun i hi=>hF i (by omega))
     have hs1:=b0k (ptq n (bf bs) F q (j - n)) D
     have hs2:=b0k (F q) D
     have hfq:=hF q hq
     refine (i0N kx kv (by have:=hx.1;omega) (by rw [a0x];omega) (by rw [a0x];omega)).mono ?_
     rintro _ G4 ⟨⟨s1,s2,rfl,k1,k2⟩,hx2⟩
     replace ho:=ho.mono a0z hx2
     replace hx:=hx.trans hx2
     rw [a0w,a0w,J0s hD0] at k1 k2 ⊢
     have hsj:=hsucc (j - n)
     rw [if_neg (by omega),if_pos (by omega),← Int.sub_eq_add_neg] at hsj
     rw [← hsj] at k1 k2 ⊢
     obtain ⟨G5,hst,ho2,hxb⟩:=a0Z.store (x:=a0e (Rat.divInt (ptq n (bf bs) F (q + 1) (j - n)) D)) (w:=.agg #[.bool (a0e (Rat.divInt (ptq n (bf bs) F (q + 1) (j - n)) D)).1.1,s1,.bool (a0e (Rat.divInt (ptq n (bf bs) F (q + 1) (j - n)) D)).2.1,s2]) ho hjl (by decide) rfl (by simp [k1.plain,k2.plain]) (fun G' _ hl=>⟨s1,s2,rfl,k1.lx hl,k2.lx hl⟩) (by decide) (fun G' cs y _ hl h=>b0X.lx h hl)
     simp [g5,ia,hst]
     have hset:=c0V (n:=n) (j:=j - n) (f:=fun k=>a0e (Rat.divInt (ptq n (bf bs) F q k) D)) (g:=fun k=>a0e (Rat.divInt (ptq n (bf bs) F (q + 1) k) D)) (fun k _ hk=>by
      rw [hsucc k,if_neg (by omega),if_neg (by omega),Int.add_zero])
     rw [hset] at ho2
     exact Rnd.mk (by simp [gq]) (by simp [gm]) ⟨by simp [g0],by simp [g1],by simp [g27],d0S hx hxb (fun b hb=>(ho.ge hb).1),by simpa [g5] using ho2⟩
    ·simp [show 2 * (n:Int)≤(j:Int) by omega,show ¬ (j:Int) < 2 * (n:Int) by omega]
     have hset:((List.range n).map fun k=>a0e (Rat.divInt (ptq n (bf bs) F q k) D))=(List.range n).map fun k=>a0e (Rat.divInt (ptq n (bf bs) F (q + 1) k) D):=by
      apply List.map_congr_left
      intro k hk
      have hk:k < n:=by simpa using hk
      rw [hsucc k,if_neg (by omega),if_neg (by omega),Int.add_zero]
     rw [hset] at ho
     exact Rnd.mk (by simp [gq]) (by simp [gm]) ⟨by simp [g0],by simp [g1],by simp [g27],hx,by simpa [g5] using ho⟩
  ·rintro ρ G gk gn ⟨g0,g1,g27,hx,ho⟩
   simp [s0E]
   exact fun _=>ho
end
end Go.Proofs.YtjlohmnnldbjoaaGreat.AI
