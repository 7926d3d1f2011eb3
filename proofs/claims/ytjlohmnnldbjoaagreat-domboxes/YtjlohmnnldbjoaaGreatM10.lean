/- Part 11 of the proof: AiSz2, AiSz3, AiHas1, AiSz4, AiSz5, AiSz6, AiSz7, AiSz8, AiSz9, AiRefA2, AiRefA3, AiRefA4, AiRefA5, AiRefA6, AiRefA7, AiRefA8, AiRefA9, AiRefB1, AiRefB2, AiRefB3, AiRefB4, AiRefB9, AiRefB5, AiRefB6, AiRefB7, AiRefB8, AiRefC1, AiT1, AiBox1, AiAwk. -/
import Derived.Test.YtjlohmnnldbjoaaGreatM05
import Derived.Test.YtjlohmnnldbjoaaGreatM06
import Derived.Test.YtjlohmnnldbjoaaGreatM07
import Derived.Test.YtjlohmnnldbjoaaGreatM09
set_option linter.unusedVariables false
set_option linter.unusedSimpArgs false
set_option linter.unusedSectionVars false
/- simplex.duals, of either ring. -/
namespace Go.Proofs.YtjlohmnnldbjoaaGreat.AI
section
open Go SX
set_option maxHeartbeats 4000000
variable {fl:Nat} {H G:a0f} {R:a0A} {v w u:Value}
def d0E (L:List (List Int)) (g n:Nat) (D:Int) (bs:List Rat) (c:Rat) (i:Nat):Rat:=Rat.divInt (Tf L g (2 * n + i)) D * bs.getD i 0 / c
theorem g0F {f0 p n m g:Nat} {L:List (List Int)} {k D:Int} {bs:List Nat} {sR sD sB:Value} {vs:List Value} {q:ScT} {c:Rat} (h:b0B f0 H p n m L D bs k sR sD sB vs) (hf:fl≤H.size) (hS:ShT n m L bs) (hq:SV H v q) (hql:q.bs.length=m) (hc:b0X H w (a0e c)) (hg:g < m + 2) (hlD:lz D < 16777216) (hD0:D ≠ 0) (hF:∀ i,i < m→lz (Tf L g (2 * n + i)) < 16777216) (hK:∀ x ∈ q.bs,szR x < 16777216) (hcs:szR c < 16777216) (hc0:c ≠ 0) (hm:m < 1048576) (hn:n < 1048576) :
  a0P env fl u0p [.pointer (some ⟨p,0,none⟩),.int .i64 (g:Int),v,w] H (fun r H'=>a0Z PR H.size H' a0d 4 r ((List.range m).map fun i=>a0e (d0E L g n D q.bs c i))∧Ext H H') R:=by
 obtain ⟨sA,sB',sC,s1,s2,rfl,kA,kB,kC,k1,k2⟩:=hq
 obtain ⟨s3,s4,rfl,k3,k4⟩:=hc
 refine a0l V0k hf (h:=?_)
 intro ρ h0
 have c1:=k1.cells;have c2:=k2.cells;have c3:=k3.cells;have c4:=k4.cells
 simp [I0a,B0l,h0,kA.cells,kB.cells,kC.cells,c1,c2,c3,c4]
 generalize hN:Array.push (Array.push H _) _=G
 obtain ⟨hx,b0,b1⟩:=push2 hN
 clear hN
 have hbk:=(h.mono hx).blk
 simp [B0m,B0n,h0,hbk]
 refine c0h (n:=m) (fun i ρ G=>ρ 0=.pointer (some ⟨p,0,none⟩)∧ρ 1=.int .i64 (g:Int)∧ρ 6=.pointer (some ⟨H.size,0,none⟩)∧ρ 7=.pointer (some ⟨H.size + 1,0,none⟩)∧Ext H G∧a0f.blk G H.size=.row false a0q [.int .i64 q.n,sA,sB',sC,.bool (a0e q.cb).1.1,s1,.bool (a0e q.cb).2.1,s2]∧a0f.blk G (H.size + 1)=.row false a0d [.bool (a0e c).1.1,s3,.bool (a0e c).2.1,s4]∧(∀ b,slB (ρ 9)=some b→H.size + 2≤b)∧a0Z PR H.size G a0d 4 (ρ 9) ((List.range i).map fun i=>a0e (d0E L g n D q.bs c i))) rfl rfl (by decide) (by omega) (by simp) (by simp) ?_ ?_ ?_ ?_
 ·exact ⟨by simp [h0],by simp [h0],by simp,by simp,hx,b0,b1,by simp [slB],by simpa using a0Z.nil⟩
 ·intro i ρ ρ' G h hI;simpa [h] using hI
 ·clear h0 ρ hx b0 b1 hbk
  rintro i ρ G hi gi gn ⟨g0,g1,g6,g7,hx,b0,b1,hnb,ho⟩
  obtain ⟨s,g9⟩:∃ s,ρ 9=s:=⟨_,rfl⟩
  rw [g9] at ho hnb
  have hG:=h.mono hx
  have hbk:=hG.blk
  have hLl:=hS.len
  have hgL:g < L.length:=by omega
  have hcL:2 * n + i < L[g].length:=by rw [hS.row g hgL];omega
  have eh:=hG.head hgL
  have ehi:=hG.hia hgL
  obtain ⟨wt,et,kt⟩:=hG.num hgL hcL
  have ej:=hG.ia hgL hcL
  obtain ⟨jj,hjj⟩:∃ jj:Nat,jj=2 * n + i:=⟨_,rfl⟩
  rw [← hjj] at et ej
  obtain ⟨vg,hvg⟩:∃ x,x=vs[g]'(by have:=hG.rows.len;omega):=⟨_,rfl⟩
  rw [← hvg] at eh et ej
  have w2:IntKind.i64.wrap (2 * (n:Int))=2 * (n:Int):=a0L (by omega) (by omega)
  have w3:IntKind.i64.wrap (2 * (n:Int) + (i:Int))=(jj:Int):=by rw [a0L (by omega) (by omega)];omega
  have hib:i < (q.bs.map a0e).length:=by simp;omega
  have kB':=kB.mono a0z hx
  have ib:=kB'.ia (k:=.i64) hib
  simp [B0o,gi]
  refine a0v ?_
  simp [B0p,g0,g1,g6,hbk,eh,ehi,w2,w3,ej,et]
  refine (i0g hG (by have:=hx.1;omega) kt (by have:=hF i hi;omega) (by omega) hD0).mono ?_
  rintro wv G2 ⟨kv,hx2⟩
  replace ho:=ho.mono a0z hx2
  replace b0:=hx2.blk b0
  replace b1:=hx2.blk b1
  replace hx:=hx.trans hx2
  have kB2:=kB.mono a0z hx
  have ib:=kB2.ia (k:=.i64) hib
  obtain ⟨wx,ex,kx⟩:=b0l.load kB2 hib
  rw [List.getElem_map] at kx
  have hbx:szR q.bs[i] < 16777216:=hK _ (List.getElem_mem _)
  have hfi:=hF i hi
  have hsd:=b0k (Tf L g (2 * n + i)) D
  simp [g6,b0,ib,ex]
  refine (e0b kv kx (by have:=hx.1;omega) (by rw [a0x];omega) (by rw [a0x];omega)).mono ?_
  rintro wm G3 ⟨km,hx2⟩
  replace ho:=ho.mono a0z hx2
  replace b1:=hx2.blk b1
  replace b0:=hx2.blk b0
  replace hx:=hx.trans hx2
  rw [a0w,a0w] at km
  have hsm:=h0b (Rat.divInt (Tf L g (2 * n + i)) D) q.bs[i]
  have kc:b0X G3 (.agg #[.bool (a0e c).1.1,s3,.bool (a0e c).2.1,s4]) (a0e c):=⟨s3,s4,rfl,k3.mono hx,k4.mono hx⟩
  simp [g7,b1]
  refine (i0M km kc (by have:=hx.1;omega) (by rw [a0x];omega) (by rw [a0x];omega) (by rw [a0w];exact hc0)).mono ?_
  rintro _ G4 ⟨⟨wd,rfl,s5,s6,rfl,k5,k6⟩,hx2⟩
  replace ho:=ho.mono a0z hx2
  replace b0:=hx2.blk b0
  replace b1:=hx2.blk b1
  replace hx:=hx.trans hx2
  rw [a0w,a0w] at k5 k6 ⊢
  have hdual:Rat.divInt (Tf L g (2 * n + i)) D * q.bs[i] / c=d0E L g n D q.bs c i:=by
   unfold d0E;rw [List.getD_eq_getElem?_getD,List.getElem?_eq_getElem (by omega)];rfl
  rw [hdual] at k5 k6 ⊢
  have hfl:=hx.1
  have c5:=k5.cells;have c6:=k6.cells
  simp [hfl,c5,c6,k5.plain,k6.plain]
  generalize hN:Array.setIfInBounds (Array.push _ _) _ _=G5
  obtain ⟨hx2,b5⟩:=new1 hN
  clear hN
  replace ho:=ho.mono a0z hx2
  replace b0:=hx2.blk b0
  replace b1:=hx2.blk b1
  replace k5:=k5.mono hx2
  replace k6:=k6.mono hx2
  replace hx:=hx.trans hx2
  obtain ⟨s',G6,h1,h2,h3,h4⟩:=a0Z.app (P:=PR) (sz:=4) (e:=a0d) (by decide) (fun G' cs x _ hl h=>b0X.lx h hl) ho (e2:=a0d) (c:=1) (bytes:=64) (new:=[.bool (a0e (d0E L g n D q.bs c i)).1.1,s5,.bool (a0e (d0E L g n D q.bs c i)).2.1,s6]) (x:=a0e (d0E L g n D q.bs c i)) ⟨s5,s6,rfl,k5,k6⟩ rfl (by simp [k5.plain,k6.plain]) (by simp;omega) (by omega) (by omega) hx.1
  obtain ⟨m1,c1',hfr⟩:=d0W (by decide) h1
  simp [B0q,g9,b5,c5,c6,h1]
  exact Rnd.mk (by simp [gi]) (by simp [gn]) ⟨by simp [g0],by simp [g1],by simp [g6],by simp [g7],h4 _ (Nat.le_refl _) hx,(h3.2 _ (a0k b0) (fun h=>by have:=hnb _ h;omega)).trans b0,(h3.2 _ (a0k b1) (fun h=>by have:=hnb _ h;omega)).trans b1,by
   have hsz:=hx2.1
   have hsz2:=hx.1
   rw [hfr];simp [slB];have:=a0k b1;have:=a0k b5;omega,a0Z.cast (v':=s') (by simp) (by rw [List.range_succ,List.map_append];exact h2)⟩
 ·rintro ρ G gi gn ⟨g0,g1,g6,g7,hx,b0,b1,hnb,ho⟩
  obtain ⟨s,g9⟩:∃ s,ρ 9=s:=⟨_,rfl⟩
  rw [g9] at ho hnb
  simp [B0r,g9]
  exact fun _=>ho
theorem g0A {f0 p n m g:Nat} {L:List (List Int)} {k D:Int} {bs:List Nat} {sR sD sB:Value} {vs:List Value} {q:ScT} {c:Rat} (h:b0A f0 H p n m L D bs k sR sD sB vs) (hf:fl≤H.size) (hS:ShT n m L bs) (hq:SV H v q) (hql:q.bs.length=m) (hc:b0X H w (a0e c)) (hg:g < m + 2) (hlD:lz D < 16777216) (hD0:D ≠ 0) (hF:∀ i,i < m→lz (Tf L g (2 * n + i)) < 16777216) (hK:∀ x ∈ q.bs,szR x < 16777216) (hcs:szR c < 16777216) (hc0:c ≠ 0) (hm:m < 1048576) (hn:n < 1048576) :
  a0P env fl u0m [.pointer (some ⟨p,0,none⟩),.int .i64 (g:Int),v,w] H (fun r H'=>a0Z PR H.size H' a0d 4 r ((List.range m).map fun i=>a0e (d0E L g n D q.bs c i))∧Ext H H') R:=by
 obtain ⟨sA,sB',sC,s1,s2,rfl,kA,kB,kC,k1,k2⟩:=hq
 obtain ⟨s3,s4,rfl,k3,k4⟩:=hc
 refine a0l U0Z hf (h:=?_)
 intro ρ h0
 have c1:=k1.cells;have c2:=k2.cells;have c3:=k3.cells;have c4:=k4.cells
 simp [H0P,A0a,h0,kA.cells,kB.cells,kC.cells,c1,c2,c3,c4]
 generalize hN:Array.push (Array.push H _) _=G
 obtain ⟨hx,b0,b1⟩:=push2 hN
 clear hN
 have hbk:=(h.mono hx).blk
 simp [A0b,A0c,h0,hbk]
 refine c0h (n:=m) (fun i ρ G=>ρ 0=.pointer (some ⟨p,0,none⟩)∧ρ 1=.int .i64 (g:Int)∧ρ 6=.pointer (some ⟨H.size,0,none⟩)∧ρ 7=.pointer (some ⟨H.size + 1,0,none⟩)∧Ext H G∧a0f.blk G H.size=.row false a0q [.int .i64 q.n,sA,sB',sC,.bool (a0e q.cb).1.1,s1,.bool (a0e q.cb).2.1,s2]∧a0f.blk G (H.size + 1)=.row false a0d [.bool (a0e c).1.1,s3,.bool (a0e c).2.1,s4]∧(∀ b,slB (ρ 9)=some b→H.size + 2≤b)∧a0Z PR H.size G a0d 4 (ρ 9) ((List.range i).map fun i=>a0e (d0E L g n D q.bs c i))) rfl rfl (by decide) (by omega) (by simp) (by simp) ?_ ?_ ?_ ?_
 ·exact ⟨by simp [h0],by simp [h0],by simp,by simp,hx,b0,b1,by simp [slB],by simpa using a0Z.nil⟩
 ·intro i ρ ρ' G h hI;simpa [h] using hI
 ·clear h0 ρ hx b0 b1 hbk
  rintro i ρ G hi gi gn ⟨g0,g1,g6,g7,hx,b0,b1,hnb,ho⟩
  obtain ⟨s,g9⟩:∃ s,ρ 9=s:=⟨_,rfl⟩
  rw [g9] at ho hnb
  have hG:=h.mono hx
  have hbk:=hG.blk
  have hLl:=hS.len
  have hgL:g < L.length:=by omega
  have hcL:2 * n + i < L[g].length:=by rw [hS.row g hgL];omega
  have eh:=hG.head hgL
  have ehi:=hG.hia hgL
  obtain ⟨wt,et,kt⟩:=hG.num hgL hcL
  have ej:=hG.ia hgL hcL
  obtain ⟨jj,hjj⟩:∃ jj:Nat,jj=2 * n + i:=⟨_,rfl⟩
  rw [← hjj] at et ej
  obtain ⟨vg,hvg⟩:∃ x,x=vs[g]'(by have:=hG.rows.len;omega):=⟨_,rfl⟩
  rw [← hvg] at eh et ej
  have w2:IntKind.i64.wrap (2 * (n:Int))=2 * (n:Int):=a0L (by omega) (by omega)
  have w3:IntKind.i64.wrap (2 * (n:Int) + (i:Int))=(jj:Int):=by rw [a0L (by omega) (by omega)];omega
  have hib:i < (q.bs.map a0e).length:=by simp;omega
  have kB':=kB.mono a0z hx
  have ib:=kB'.ia (k:=.i64) hib
  simp [A0d,gi]
  refine a0v ?_
  simp [A0e,g0,g1,g6,hbk,eh,ehi,w2,w3,ej,et]
  refine (h0Z hG (by have:=hx.1;omega) kt (by have:=hF i hi;omega) (by omega) hD0).mono ?_
  rintro wv G2 ⟨kv,hx2⟩
  replace ho:=ho.mono a0z hx2
  replace b0:=hx2.blk b0
  replace b1:=hx2.blk b1
  replace hx:=hx.trans hx2
  have kB2:=kB.mono a0z hx
  have ib:=kB2.ia (k:=.i64) hib
  obtain ⟨wx,ex,kx⟩:=b0l.load kB2 hib
  rw [List.getElem_map] at kx
  have hbx:szR q.bs[i] < 16777216:=hK _ (List.getElem_mem _)
  have hfi:=hF i hi
  have hsd:=b0k (Tf L g (2 * n + i)) D
  simp [g6,b0,ib,ex]
  refine (e0b kv kx (by have:=hx.1;omega) (by rw [a0x];omega) (by rw [a0x];omega)).mono ?_
  rintro wm G3 ⟨km,hx2⟩
  replace ho:=ho.mono a0z hx2
  replace b1:=hx2.blk b1
  replace b0:=hx2.blk b0
  replace hx:=hx.trans hx2
  rw [a0w,a0w] at km
  have hsm:=h0b (Rat.divInt (Tf L g (2 * n + i)) D) q.bs[i]
  have kc:b0X G3 (.agg #[.bool (a0e c).1.1,s3,.bool (a0e c).2.1,s4]) (a0e c):=⟨s3,s4,rfl,k3.mono hx,k4.mono hx⟩
  simp [g7,b1]
  refine (i0M km kc (by have:=hx.1;omega) (by rw [a0x];omega) (by rw [a0x];omega) (by rw [a0w];exact hc0)).mono ?_
  rintro _ G4 ⟨⟨wd,rfl,s5,s6,rfl,k5,k6⟩,hx2⟩
  replace ho:=ho.mono a0z hx2
  replace b0:=hx2.blk b0
  replace b1:=hx2.blk b1
  replace hx:=hx.trans hx2
  rw [a0w,a0w] at k5 k6 ⊢
  have hdual:Rat.divInt (Tf L g (2 * n + i)) D * q.bs[i] / c=d0E L g n D q.bs c i:=by
   unfold d0E;rw [List.getD_eq_getElem?_getD,List.getElem?_eq_getElem (by omega)];rfl
  rw [hdual] at k5 k6 ⊢
  have hfl:=hx.1
  have c5:=k5.cells;have c6:=k6.cells
  simp [hfl,c5,c6,k5.plain,k6.plain]
  generalize hN:Array.setIfInBounds (Array.push _ _) _ _=G5
  obtain ⟨hx2,b5⟩:=new1 hN
  clear hN
  replace ho:=ho.mono a0z hx2
  replace b0:=hx2.blk b0
  replace b1:=hx2.blk b1
  replace k5:=k5.mono hx2
  replace k6:=k6.mono hx2
  replace hx:=hx.trans hx2
  obtain ⟨s',G6,h1,h2,h3,h4⟩:=a0Z.app (P:=PR) (sz:=4) (e:=a0d) (by decide) (fun G' cs x _ hl h=>b0X.lx h hl) ho (e2:=a0d) (c:=1) (bytes:=64) (new:=[.bool (a0e (d0E L g n D q.bs c i)).1.1,s5,.bool (a0e (d0E L g n D q.bs c i)).2.1,s6]) (x:=a0e (d0E L g n D q.bs c i)) ⟨s5,s6,rfl,k5,k6⟩ rfl (by simp [k5.plain,k6.plain]) (by simp;omega) (by omega) (by omega) hx.1
  obtain ⟨m1,c1',hfr⟩:=d0W (by decide) h1
  simp [A0f,g9,b5,c5,c6,h1]
  exact Rnd.mk (by simp [gi]) (by simp [gn]) ⟨by simp [g0],by simp [g1],by simp [g6],by simp [g7],h4 _ (Nat.le_refl _) hx,(h3.2 _ (a0k b0) (fun h=>by have:=hnb _ h;omega)).trans b0,(h3.2 _ (a0k b1) (fun h=>by have:=hnb _ h;omega)).trans b1,by
   have hsz:=hx2.1
   have hsz2:=hx.1
   rw [hfr];simp [slB];have:=a0k b1;have:=a0k b5;omega,a0Z.cast (v':=s') (by simp) (by rw [List.range_succ,List.map_append];exact h2)⟩
 ·rintro ρ G gi gn ⟨g0,g1,g6,g7,hx,b0,b1,hnb,ho⟩
  obtain ⟨s,g9⟩:∃ s,ρ 9=s:=⟨_,rfl⟩
  rw [g9] at ho hnb
  simp [A0g,g9]
  exact fun _=>ho
end
/- simplex.solved: a row's right side, of either ring. -/
section
open Go SX
set_option maxHeartbeats 4000000
variable {fl:Nat} {H G:a0f} {R:a0A} {v w u:Value}
theorem i0h {f0 p P n m i:Nat} {L:List (List Int)} {k D:Int} {bs:List Nat} {sR sD sB:Value} {vs:List Value} (h:b0B f0 H p n m L D bs k sR sD sB vs) (hf:fl≤H.size) (hS:ShT n m L bs) (hP:H.blk P=.row false a0p [.pointer (some ⟨p,0,none⟩)]) (hi:i < m + 2) :
  a0P env fl w0e [.int .i64 (i:Int),.pointer (some ⟨P,0,none⟩)] H (fun r H'=>f0n H' r (Tf L i (2 * n + m))∧Ext H H') R:=by
 refine a0l V0n hf (h:=?_)
 intro ρ h0
 have hiL:i < L.length:=by rw [hS.len];exact hi
 have hcL:2 * n + m < L[i].length:=by rw [hS.row i hiL];omega
 simp [I0d,B0E,h0]
 obtain ⟨G,hN,hx⟩:∃ G:a0f,G=H∧Ext H G:=⟨_,rfl,by exact Ext.refl H⟩
 subst hN
 replace h:=h.mono hx
 replace hP:=hx.blk hP
 have hbk:=h.blk
 have eh:=h.head hiL
 have ehi:=h.hia hiL
 obtain ⟨wt,en,fw⟩:=h.num hiL hcL
 have ej:=h.ia hiL hcL
 obtain ⟨jj,hjj⟩:∃ jj:Nat,jj=2 * n + m:=⟨_,rfl⟩
 rw [← hjj] at en ej fw ⊢
 obtain ⟨vi,hvi⟩:∃ x,x=vs[i]'(by have:=h.rows.len;omega):=⟨_,rfl⟩
 rw [← hvi] at eh en ej
 have e2:2 * (n:Int) + m=(jj:Int):=by omega
 refine a0v ?_
 simp [B0F,h0,hP,hbk,eh,ehi,e2,ej]
 simp [en]
 exact fw
theorem i0a {f0 p P n m i:Nat} {L:List (List Int)} {k D:Int} {bs:List Nat} {sR sD sB:Value} {vs:List Value} (h:b0A f0 H p n m L D bs k sR sD sB vs) (hf:fl≤H.size) (hS:ShT n m L bs) (hP:H.blk P=.row false a0o [.pointer (some ⟨p,0,none⟩)]) (hi:i < m + 2) :
  a0P env fl v0Y [.int .i64 (i:Int),.pointer (some ⟨P,0,none⟩)] H (fun r H'=>f0i H' r (Tf L i (2 * n + m))∧Ext H H') R:=by
 refine a0l V0c hf (h:=?_)
 intro ρ h0
 have hiL:i < L.length:=by rw [hS.len];exact hi
 have hcL:2 * n + m < L[i].length:=by rw [hS.row i hiL];omega
 simp [H0S,A0t,h0]
 obtain ⟨G,hN,hx⟩:∃ G:a0f,G=Array.push H (.row false a0c [.bool false,.slice none 0 0])∧Ext H G:=⟨_,rfl,by exact (Ext.refl H).push⟩
 rw [← hN]
 replace h:=h.mono hx
 replace hP:=hx.blk hP
 have hbk:=h.blk
 have eh:=h.head hiL
 have ehi:=h.hia hiL
 obtain ⟨wt,en,fw⟩:=h.num hiL hcL
 have ej:=h.ia hiL hcL
 obtain ⟨jj,hjj⟩:∃ jj:Nat,jj=2 * n + m:=⟨_,rfl⟩
 rw [← hjj] at en ej fw ⊢
 obtain ⟨vi,hvi⟩:∃ x,x=vs[i]'(by have:=h.rows.len;omega):=⟨_,rfl⟩
 rw [← hvi] at eh en ej
 have e2:2 * (n:Int) + m=(jj:Int):=by omega
 refine a0v ?_
 simp [A0u,h0,hP,hbk,eh,ehi,e2,ej]
 obtain ⟨sx,rfl,kx⟩:=fw
 simp [en]
 subst hN
 simp [hf,kx.cells,kx.plain]
 generalize hN:Array.setIfInBounds (Array.push _ _) _ _=G5
 obtain ⟨hx5,b5⟩:=new1 hN
 exact ⟨sx,rfl,kx.setS hN a0y (by decide)⟩
end
/- Plain laws that more than one law's walk needs. -/
section
open Go
set_option maxHeartbeats 4000000
variable {H G:a0f} {v:Value} {rows:List (List b0R)} {x:List b0R}
theorem R0g {a b c d:Nat}:o0N false (.int .i64 (a:Int)) [.int .i64 (b:Int),.int .i64 (c:Int),.int .i64 (d:Int)]=some (.int .i64 ((min (min (min a b) c) d:Nat):Int)):=by
 simp only [o0N,mn2,Bool.false_eq_true,if_false,Option.some.injEq,Value.int.injEq,true_and]
 repeat' split
 all_goals omega
theorem o0W {d:List e0f} {p:List b0R→e0f→Bool}:o0M id (List.zipWith p rows d)=true ↔ ∀ i (h:i < rows.length) (k:i < d.length),p rows[i] d[i]=true:=by
 unfold o0M
 rw [List.all_eq_true]
 constructor
 ·intro h i h1 h2
  have:=h ((List.zipWith p rows d)[i]'(by simp;omega)) (List.getElem_mem _)
  rwa [List.getElem_zipWith] at this
 ·intro h y hy
  obtain ⟨i,hi,rfl⟩:=List.getElem_of_mem hy
  rw [List.getElem_zipWith]
  have hi':i < rows.length∧i < d.length:=by rw [List.length_zipWith] at hi;omega
  exact h i hi'.1 hi'.2
theorem G0h {d:List e0f}:R0b rows d x=true ↔ d.length=rows.length∧∀ i (h:i < rows.length) (k:i < d.length),rows[i].length=x.length∧¬ 0 < F0C (0,e0n rows[i] x rows[i].length) (o0O d[i]):=by
 unfold R0b
 rw [Bool.and_eq_true,decide_eq_true_eq,o0W]
 unfold G0g
 simp only [Bool.and_eq_true,decide_eq_true_eq,Bool.not_eq_true',decide_eq_false_iff_not]
theorem h0F:∀ {rows:List (List b0R)} {d:List e0f} {r:List b0R},r ∈ c0e rows d→∃ q ∈ rows,r=i0T q
 | [],_,r,h=>by simp [c0e] at h
 | _ :: _,[],r,h=>by simp [c0e] at h
 | q :: rs,e :: es,r,h=>by
  simp only [c0e] at h
  split at h
  ·rcases List.mem_cons.1 h with rfl | h
   ·exact ⟨q,by simp,rfl⟩
   ·obtain ⟨q',h1,h2⟩:=h0F h;exact ⟨q',by simp [h1],h2⟩
  ·obtain ⟨q',h1,h2⟩:=h0F h;exact ⟨q',by simp [h1],h2⟩
theorem k0g:∀ {rows:List (List b0R)} {d:List e0f} {r:b0R},r ∈ d0B rows d→∃ e ∈ d,r=a0e (b0O e.2)
 | [],_,r,h=>by simp [d0B] at h
 | _ :: _,[],r,h=>by simp [d0B] at h
 | q :: rs,e :: es,r,h=>by
  simp only [d0B] at h
  split at h
  ·rcases List.mem_cons.1 h with rfl | h
   ·exact ⟨e,by simp,rfl⟩
   ·obtain ⟨q',h1,h2⟩:=k0g h;exact ⟨q',by simp [h1],h2⟩
  ·obtain ⟨q',h1,h2⟩:=k0g h;exact ⟨q',by simp [h1],h2⟩
theorem LPV.mono {p:LPt} (h:LPV H v p) (hx:Ext H G):LPV G v p:=by
 obtain ⟨a,b,c,h1,h2,h3,h4⟩:=h
 exact ⟨a,b,c,h1,h2.mono c0G hx,h3.mono a0z hx,h4.mono a0z hx⟩
end
/- simplex.solved, of either ring, of a problem that asks for nothing (no costs). -/
section
open Go SX
set_option maxHeartbeats 4000000
variable {fl:Nat} {H G:a0f} {R:a0A} {v w u:Value}
structure t0L where
 kind:Int
 V:Rat
 X:List Rat
 Y:List Rat
 Ray:List Rat
def F0z (H:a0f) (v:Value) (a:t0L):Prop:=∃ s1 s2 sX sY sR,v=.agg #[.int .i64 a.kind,.bool (a0e a.V).1.1,s1,.bool (a0e a.V).2.1,s2,sX,sY,sR] ∧
 Lim H s1 (a0e a.V).1.2∧Lim H s2 (a0e a.V).2.2∧b0l H sX (a.X.map a0e)∧b0l H sY (a.Y.map a0e)∧b0l H sR (a.Ray.map a0e)
theorem F0z.mono {a:t0L} (h:F0z H v a) (hx:Ext H G):F0z G v a:=by
 obtain ⟨s1,s2,sX,sY,sR,h1,h2,h3,h4,h5,h6⟩:=h
 exact ⟨s1,s2,sX,sY,sR,h1,h2.mono hx,h3.mono hx,h4.mono a0z hx,h5.mono a0z hx,h6.mono a0z hx⟩
def F0I (q:ScT) (n m:Nat) (T:Nat→Nat→Int) (base:Nat→Nat) (D:Int):Prop:=Tab m (2 * n + m) (f0Q n m (Tf q.A) (bbq q n) (ccq q)) (fun i=>bbq q n i < 0) T base D
def S0o (q:ScT) (n m:Nat) (a:t0L):Prop:=∃ T base D,F0I q n m T base D∧a.kind=2∧a.V=0∧a.X=[]∧a.Ray=[]∧(∀ c,c < 2 * n + m→0≤T m c)∧T m (2 * n + m) < 0∧a.Y=(List.range m).map fun i=>Rat.divInt (T m (2 * n + i)) D * q.bs.getD i 0 / 1
def S0n (q:ScT) (C:List b0R) (n m:Nat) (a:t0L):Prop:=∃ T base D,F0I q n m T base D∧a.kind=1∧a.Ray=[]∧(∀ i,i < m→¬ base i < 2 * n + m→T i (2 * n + m)=0)∧(∀ c,c < 2 * n + m→0≤T (m + 1) c) ∧
 a.X=((List.range n).map fun k=>Rat.divInt (ptq n base (fun i=>T i (2 * n + m)) m k) D)∧(a.Y=(List.range m).map fun i=>Rat.divInt (T (m + 1) (2 * n + i)) D * q.bs.getD i 0 / q.cb)∧a.V=e0n C (a.X.map a0e) n
def h0X (q:ScT) (C:List b0R) (n m:Nat) (r:Value) (H':a0f):Prop:=∃ ans a k,r=.tuple #[ans,.int .i64 k]∧F0z H' ans a∧(S0o q n m a ∨ S0n q C n m a)
theorem SV.mono {q:ScT} (h:SV H v q) (hx:Ext H G):SV G v q:=by
 obtain ⟨sA,sB,sC,s1,s2,h1,h2,h3,h4,h5,h6⟩:=h
 exact ⟨sA,sB,sC,s1,s2,h1,h2.mono j0U hx,h3.mono a0z hx,h4.mono c0f hx,h5.mono hx,h6.mono hx⟩
theorem d0D.low {eN sz f0:Nat} {P:a0f→List Value→Int→Prop} {vs:List Value} {L:List (List Int)} (h:d0D eN sz P fl H vs L) (hf:f0≤fl):d0D eN sz P f0 H vs L :=
 ⟨h.len,fun i hi=>(h.own i hi).low hf,h.apart⟩
theorem R0p {r1 r2 r3 r4:Blk} (h:Array.push (Array.push (Array.push (Array.push H r1) r2) r3) r4=G):Ext H G∧a0f.blk G H.size=r1∧a0f.blk G (H.size + 1)=r2∧a0f.blk G (H.size + 2)=r3∧a0f.blk G (H.size + 3)=r4:=by
 subst h
 refine ⟨(Ext.refl H).push.push.push.push,?_,?_,?_,?_⟩ <;> simp [a0B]
theorem J0o {q:ScT} {n m:Nat} {T:Nat→Nat→Int} {base:Nat→Nat} {D z:Int} (h:F0I q n m T base D) (he:(z = -1∧∀ c,c < 2 * n + m→0≤T m c) ∨ ∃ j:Nat,z=j∧j < 2 * n + m∧T m j < 0∧∀ i,i < m→T i j≤0):∀ c,c < 2 * n + m→0≤T m c:=by
 rcases he with ⟨_,h1⟩ | ⟨j,_,h1,h2,h3⟩
 ·exact h1
 ·have h4:=Tab.lack h (c:=j) (by omega)
  have h5:=g0f (f:=fun i=>-1 * (if base i < 2 * n + m then 0 else T i j)) (N:=m) (fun i hi=>by
   have:=h3 i hi
   split <;> omega)
  rw [e0w] at h5
  omega
theorem J0p {q:ScT} {n m:Nat} {T:Nat→Nat→Int} {base:Nat→Nat} {D z:Int} (h:F0I q n m T base D) (hZ:Zr m (2 * n + m) T base) (hC:∀ c,ccq q c=0) (he:(z = -1∧∀ c,c < 2 * n + m→0≤T (m + 1) c) ∨ ∃ j:Nat,z=j∧j < 2 * n + m∧T (m + 1) j < 0∧∀ i,i < m→T i j≤0):z = -1∧∀ c,c < 2 * n + m→0≤T (m + 1) c:=by
 rcases he with h1 | ⟨j,_,h1,h2,h3⟩
 ·exact h1
 ·have h4:=(F0x h h1 h3 (fun i hi hb=>hZ i hi hb j (by omega))).2
  rw [d0P (fun k _=>by rw [hC];simp)] at h4
  omega
theorem l0e {S:Nat} {X:List Rat} (h:∀ x ∈ X,szR x≤S):Few S (X.map a0e):=by
 intro x hx
 obtain ⟨y,hy,rfl⟩:=List.mem_map.1 hx
 exact ⟨by rw [a0x];exact h y hy,b0I _,b0I _⟩
theorem Few.mono' {S S':Nat} {X:List b0R} (h:Few S X) (hS:S≤S'):Few S' X:=fun x hx=>⟨Nat.le_trans (h x hx).1 hS,(h x hx).2⟩
theorem g0q {H0 G':a0f} {f0:Nat} (hx:Ext H0 G) (hk:f0h f0 G G') (hf:H0.size≤f0):Ext H0 G' :=
 ⟨Nat.le_trans hx.1 hk.size,fun b hb=>(hk.low b (by omega)).trans (hx.2 b hb)⟩
theorem b0B.floor {p n m f0:Nat} {L:List (List Int)} {k D:Int} {bs:List Nat} {sR sD sB:Value} {vs:List Value} (h:b0B fl H p n m L D bs k sR sD sB vs) (hf:f0≤fl):b0B f0 H p n m L D bs k sR sD sB vs :=
 ⟨h.blk,Nat.le_trans hf h.low,h.d,h.heads.low hf,h.rows.low hf,h.basis.low hf⟩
theorem j0N {q:ScT} {p:LPt} {n m Z S:Nat} (hp:LPV H u p) (h:SV H v q) (hn0:q.n=n) (hAl:q.A.length=m) (hCl:q.C.length=n) (hpC:p.C.length=n) (hpF:Few S p.C) (hql:q.bs.length=m) (hrow:∀ r ∈ q.A,r.length=n + 1) (hf:fl≤H.size)
  (hzA:∀ r c,lz (Tf q.A r c) < 67108864) (hzC:∀ c,ccq q c=0) (hzL:∀ i c,i≤m→c≤2 * n + m→lz (h0f q n m i c) < 67108864)
  (hB:∀ T base D,F0I q n m T base D→(∀ r c,r < m + 2→c≤2 * n + m→lz (T r c)≤Z)∧lz D≤Z) (hZ:(n + 1) * (2 * (Z + m + S) + 10) < 16777216) (hK:∀ x ∈ q.bs,szR x < 16777216) (hcs:szR q.cb < 16777216) (hc0:q.cb ≠ 0)
  (hm:m < 1048576) (hn:n < 1048576) (hR:e0E R) :
  a0P env fl l0U [eV,u,v] H (fun r H'=>h0X q p.C n m r H'∧Ext H H') R:=by
 have hp0:=hp
 have h00:=h
 obtain ⟨sA0,sB0,sC0,rfl,kA,kB,kC⟩:=hp
 obtain ⟨sA,sBy,sC,s1,s2,rfl,qA,qB,qC,q1,q2⟩:=h
 refine a0l U0W hf (h:=?_)
 intro ρ h0
 have hZ1:2 * (Z + m + S) + 10 < 16777216:=by
  have:1 * (2 * (Z + m + S) + 10)≤(n + 1) * (2 * (Z + m + S) + 10):=Nat.mul_le_mul_right _ (by omega)
  omega
 simp [H0M,z0z,h0,kA.cells,kB.cells,kC.cells,qA.cells,qB.cells,qC.cells,q1.cells,q2.cells]
 generalize hG:Array.push (Array.push (Array.push (Array.push H _) _) _) _=G
 obtain ⟨hx,b0,b1,b2,b3⟩:=R0p hG
 clear hG
 have hsv:=h00.mono hx
 simp [z0A,b0,b2]
 refine a0P.mono (m0a hsv hn0 hAl hCl hrow hx.1 hzA (fun c=>by rw [hzC,c0L];decide) hzL hm hn hR) ?_
 rintro _ G2 ⟨⟨p',L,bs,sR,sD,sB,vs,rfl,hT,hS,hTf,hbs⟩,hx2⟩
 replace hT:=hT.floor hx.1
 have hxG:=hx.trans hx2
 have hsz:=hxG.1
 simp [hsz]
 generalize hN:Array.setIfInBounds (Array.push _ _) _ _=G3
 obtain ⟨hx3,b5⟩:=new1 hN
 clear hN
 replace hx2:=hx2.trans hx3
 replace b1:=hx2.blk b1
 replace b2:=hx2.blk b2
 replace b3:=hx2.blk b3
 replace hT:=hT.mono hx3
 replace hx:=hx.trans hx2
 clear hx2 hx3 hxG hsz hsv b0
 obtain ⟨P8,hP8⟩:∃ x,x=G2.size:=⟨_,rfl⟩
 rw [← hP8] at b5 ⊢
 clear hP8
 have hbk:=hT.blk
 have hTab:F0I q n m (Tf L) (bf bs) 1:=n0U.congr hTf hbs rfl
 have hBd:Bnd m (2 * n + m) (f0Q n m (Tf q.A) (bbq q n) (ccq q)) (fun i=>bbq q n i < 0):=fun T base D hT=>by
  obtain ⟨h1,h2⟩:=hB T base D hT
  exact ⟨fun r c hr hc=>by have:=h1 r c hr hc;omega,by omega⟩
 have w1:IntKind.i64.wrap ((m:Int) + 1)=((m + 1:Nat):Int):=by rw [a0L (by omega) (by omega)];omega
 obtain ⟨m1,hm1⟩:∃ x:Nat,x=m + 1:=⟨_,rfl⟩
 rw [← hm1] at w1
 refine a0v ?_
 simp [z0B,b5,hbk,w1]
 simp [z0C,b5]
 refine a0P.mono (i0H hT hx.1 hS hTab hBd (.inl rfl) hm hn hR) ?_
 rintro _ G4 ⟨⟨z1,rfl,hQ1⟩,hK1⟩
 clear hTf hbs hbk hTab hS hT
 obtain ⟨L,D,bs,k1,sD,hT,hS,hTab,-,hFr,hend⟩:=hQ1
 replace hx:=g0q hx hK1 (Nat.le_refl _)
 replace b1:=hFr.2 b0z (by decide) (by decide) (by decide) _ _ _ b1
 replace b2:=hFr.2 a0q (by decide) (by decide) (by decide) _ _ _ b2
 replace b3:=hFr.2 b0d (by decide) (by decide) (by decide) _ _ _ b3
 replace b5:=hFr.2 a0p (by decide) (by decide) (by decide) _ _ _ b5
 clear hFr hK1
 have hbk:=hT.blk
 have hmL:m < L.length:=by rw [hS.len];omega
 have hcL:2 * n + m < L[m].length:=by rw [hS.row m hmL];omega
 have eh:=hT.head hmL
 have ehi:=hT.hia hmL
 obtain ⟨wt,en,fw⟩:=hT.num hmL hcL
 have ej:=hT.ia hmL hcL
 obtain ⟨jj,hjj⟩:∃ jj:Nat,jj=2 * n + m:=⟨_,rfl⟩
 rw [← hjj] at en ej fw hend
 obtain ⟨vi,hvi⟩:∃ x,x=vs[m]'(by have:=hT.rows.len;omega):=⟨_,rfl⟩
 rw [← hvi] at eh en ej
 have e2:2 * (n:Int) + m=(jj:Int):=by omega
 obtain ⟨hBz,hBd1⟩:=hB _ _ _ hTab
 have hz:=hBz m jj (by omega) (by omega)
 simp
 refine a0v ?_
 simp [z0D,b5,hbk,eh,ehi,e2,ej,en]
 refine a0P.mono (f0T fw hx.1 (by omega)) ?_
 rintro _ G5 ⟨rfl,hx5⟩
 replace b1:=hx5.blk b1
 replace b2:=hx5.blk b2
 replace b3:=hx5.blk b3
 replace b5:=hx5.blk b5
 replace hT:=hT.mono hx5
 replace hx:=hx.trans hx5
 clear hx5 en eh hbk
 by_cases hneg:Tf L m jj < 0
 ·have hcz:b0T (Tf L m jj) 0 = -1:=by unfold b0T;rw [if_pos hneg]
  simp [hcz]
  refine c0g ?_
  simp [z0E]
  refine (c0p (n:=0) (by have:=hx.1;omega) (by omega) (by omega)).mono ?_
  rintro _ G6 ⟨⟨y1,y2,rfl,ky1,ky2⟩,hx6⟩
  have hz0:((0:Int):Rat)=0:=rfl
  rw [hz0] at ky1 ky2 ⊢
  replace b1:=hx6.blk b1
  replace b2:=hx6.blk b2
  replace b3:=hx6.blk b3
  replace b5:=hx6.blk b5
  replace hT:=hT.mono hx6
  replace hx:=hx.trans hx6
  clear hx6
  simp [b2,b5]
  refine (c0p (n:=1) (by have:=hx.1;omega) (by omega) (by omega)).mono ?_
  rintro w7 G7 ⟨kw7,hx7⟩
  have hz1:((1:Int):Rat)=1:=rfl
  rw [hz1] at kw7
  replace b1:=hx7.blk b1
  replace b2:=hx7.blk b2
  replace b3:=hx7.blk b3
  replace b5:=hx7.blk b5
  replace ky1:=ky1.mono hx7
  replace ky2:=ky2.mono hx7
  replace hT:=hT.mono hx7
  replace hx:=hx.trans hx7
  clear hx7
  simp
  refine (g0F (q:=q) hT (by have:=hx.1;omega) hS (h00.mono hx) hql kw7 (g:=m) (by omega) (by omega) (by have:=hTab.pos;omega) (fun i hi=>by have:=hBz m (2 * n + i) (by omega) (by omega);omega) hK (by rw [q0Q];omega) (by decide) hm hn).mono ?_
  rintro wd G8 ⟨kd,hx8⟩
  replace b1:=hx8.blk b1
  replace b2:=hx8.blk b2
  replace b3:=hx8.blk b3
  replace b5:=hx8.blk b5
  replace ky1:=ky1.mono hx8
  replace ky2:=ky2.mono hx8
  replace hT:=hT.mono hx8
  replace hx:=hx.trans hx8
  clear hx8
  have hbk:=hT.blk
  have hsz:=hx.1
  have hdc:=kd.cells
  simp [b5,hbk,hdc]
  have c1:=ky1.cells;have c2:=ky2.cells
  have hP1:P8 ≠ H.size + 3:=fun h=>by rw [h,b3] at b5;simp at b5
  have hP2:p' ≠ H.size + 3:=fun h=>by rw [h,b3] at hbk;simp at hbk
  simp [b3,hsz,ky1.plain,ky2.plain,c1,c2,hdc,hP1,hP2]
  generalize hS':Array.setIfInBounds G8 _ _=G9
  have hl1:LxT a0d G8 G9:=a0V hS' b3 (by decide)
  have hl2:Lx G8 G9:=fun b ro cs h=>a0V (e:=a0m) hS' b3 (by decide) b ro cs h
  rw [a0C hS' b3]
  simp
  refine fun _=>⟨_,⟨2,0,[],(List.range m).map fun i=>d0E L m n D q.bs 1 i,[]⟩,k1,rfl,⟨y1,y2,_,_,_,rfl,ky1.setS hS' b3 (by decide),ky2.setS hS' b3 (by decide),Sls.nil,?_,Sls.nil⟩,.inl ⟨Tf L,bf bs,D,hTab,rfl,rfl,rfl,rfl,?_,?_,rfl⟩⟩
  ·rw [List.map_map]
   exact b0l.lx2 kd.sls hl1 hl2
  ·exact J0o hTab (by rw [← hjj];exact hend)
  ·rw [← hjj];exact hneg
 ·have hcz:¬ b0T (Tf L m jj) 0 < 0:=by unfold b0T;rw [if_neg hneg];split <;> omega
  simp [hcz]
  have h00r:∀ r,r < m→¬ bf bs r < 2 * n + m→Tf L r (2 * n + m)=0:=hTab.full (by rw [← hjj];omega)
  simp [z0F,b5]
  refine a0P.mono (n0T hT hx.1 hS hTab hBd h00r hm hn hR) ?_
  rintro _ G6 ⟨hQ1,hK1⟩
  clear hTab hS hT hBz hBd1 hz ej hend hcL hmL fw ehi hvi h00r
  obtain ⟨L,D,bs,k1,sD,hT,hS,hTab,hFr,hZr⟩:=hQ1
  replace hx:=g0q hx hK1 (Nat.le_refl _)
  replace b1:=hFr.2 b0z (by decide) (by decide) (by decide) _ _ _ b1
  replace b2:=hFr.2 a0q (by decide) (by decide) (by decide) _ _ _ b2
  replace b3:=hFr.2 b0d (by decide) (by decide) (by decide) _ _ _ b3
  replace b5:=hFr.2 a0p (by decide) (by decide) (by decide) _ _ _ b5
  clear hFr hK1
  simp
  simp [z0G,b5]
  refine a0P.mono (i0H hT hx.1 hS hTab hBd (.inr hm1) hm hn hR) ?_
  rintro _ G7 ⟨⟨z2,rfl,hQ1⟩,hK1⟩
  clear hTab hS hT
  obtain ⟨L',D,bs',k1,sD,hT,hS,hTab,hZr2,hFr,hend⟩:=hQ1
  replace hZr:=hZr2 hZr
  clear hZr2
  replace hx:=g0q hx hK1 (Nat.le_refl _)
  replace b1:=hFr.2 b0z (by decide) (by decide) (by decide) _ _ _ b1
  replace b2:=hFr.2 a0q (by decide) (by decide) (by decide) _ _ _ b2
  replace b3:=hFr.2 b0d (by decide) (by decide) (by decide) _ _ _ b3
  replace b5:=hFr.2 a0p (by decide) (by decide) (by decide) _ _ _ b5
  clear hFr hK1
  obtain ⟨hBz,hBd1⟩:=hB _ _ _ hTab
  simp
  simp [z0H,b5]
  refine a0P.mono (k0N (F:=fun i=>Tf L' i (2 * n + m)) hT hx.1 hS (by omega) (by have:=hTab.pos;omega) (fun i hi=>by have:=hBz i (2 * n + m) (by omega) (Nat.le_refl _);omega) hm hn (fun fl i G' R' hxx hfl hi=>by
   simp only [List.cons_append,List.nil_append]
   exact i0h (hT.mono hxx) hfl hS (hxx.blk b5) (by omega))) ?_
  rintro wX G8 ⟨oX,hx8⟩
  replace b1:=hx8.blk b1
  replace b2:=hx8.blk b2
  replace b3:=hx8.blk b3
  replace b5:=hx8.blk b5
  replace hT:=hT.mono hx8
  replace hx:=hx.trans hx8
  clear hx8
  simp
  rw [hm1] at hend
  obtain ⟨rfl,hopt⟩:=J0p hTab hZr hzC hend
  clear hend
  simp [z0I]
  simp [r0Z]
  refine (c0p (n:=0) hx.1 (by omega) (by omega)).mono ?_
  rintro _ G9 ⟨⟨y1,y2,rfl,ky1,ky2⟩,hx8⟩
  have hz0:((0:Int):Rat)=0:=rfl
  rw [hz0] at ky1 ky2 ⊢
  replace b1:=hx8.blk b1
  replace b2:=hx8.blk b2
  replace b3:=hx8.blk b3
  replace b5:=hx8.blk b5
  replace hT:=hT.mono hx8
  replace oX:=oX.mono a0z hx8
  replace hx:=hx.trans hx8
  clear hx8
  have hsz:=hx.1
  have c1:=ky1.cells;have c2:=ky2.cells
  simp [hsz,c1,c2,ky1.plain,ky2.plain]
  generalize hN:Array.setIfInBounds (Array.push _ _) _ _=G10
  obtain ⟨hx8,b7⟩:=new1 hN
  clear hN
  obtain ⟨P7,hP7⟩:∃ x,x=G9.size:=⟨_,rfl⟩
  rw [← hP7] at b7 ⊢
  have kC2:=kC.mono a0z (hx.trans hx8)
  have hslC:=kC2.slen
  rw [hpC] at hslC
  have b1':=hx8.blk b1
  obtain ⟨X0,hX0⟩:∃ x,x=(List.range n).map fun k=>Rat.divInt (ptq n (bf bs') (fun i=>Tf L' i (2 * n + m)) m k) D:=⟨_,rfl⟩
  have oX0:(List.range n).map (fun k=>a0e (Rat.divInt (ptq n (bf bs') (fun i=>Tf L' i (2 * n + m)) m k) D))=X0.map a0e:=by rw [hX0,List.map_map];rfl
  rw [oX0] at oX
  have hX0l:X0.length=n:=by rw [hX0];simp
  have hX0z:∀ x ∈ X0,szR x≤Z + m + S + 1:=by
   intro x hx
   rw [hX0] at hx
   obtain ⟨k,_,rfl⟩:=List.mem_map.1 hx
   have h1:=b0k (ptq n (bf bs') (fun i=>Tf L' i (2 * n + m)) m k) D
   have h2:=i0J (n:=n) (base:=bf bs') (F:=fun i=>Tf L' i (2 * n + m)) (K:=Z) (k:=k) (q:=m) (fun i hi=>hBz i _ (by omega) (Nat.le_refl _))
   omega
  have hFX:=l0e hX0z
  have hFC:=hpF.mono' (show S≤Z + m + S + 1 by omega)
  have hsd:∀ i,i≤n→szR (e0n p.C (X0.map a0e) i) < 33554432:=fun i hi=>by
   have h1:=k0u hFC hFX i
   have h2:i * (2 * (Z + m + S + 1) + 3)≤n * (2 * (Z + m + S) + 10):=Nat.mul_le_mul hi (by omega)
   rw [Nat.add_mul,Nat.one_mul] at hZ
   omega
  simp [s0a,b1',hslC]
  refine c0h (n:=n) (fun i ρ G=>ρ 5=.pointer (some ⟨H.size + 2,0,none⟩)∧ρ 6=.pointer (some ⟨H.size + 3,0,none⟩)∧ρ 8=.pointer (some ⟨P8,0,none⟩)∧ρ 10=.int .i64 (m1:Int)∧ρ 12=wX∧ρ 13=.pointer (some ⟨P7,0,none⟩)∧ρ 84=sC0∧Ext G9 G∧∃ y1 y2,a0f.blk G P7=.row false a0d [.bool (a0e (e0n p.C (X0.map a0e) i)).1.1,y1,.bool (a0e (e0n p.C (X0.map a0e) i)).2.1,y2]∧Lim G y1 (a0e (e0n p.C (X0.map a0e) i)).1.2∧Lim G y2 (a0e (e0n p.C (X0.map a0e) i)).2.2) rfl rfl (by decide) (by omega) (by simp) (by simp) ?_ ?_ ?_ ?_
  ·exact ⟨by simp,by simp,by simp,by simp,by simp,by simp,by simp,hx8,y1,y2,b7,ky1.mono hx8,ky2.mono hx8⟩
  ·intro i ρ ρ' G h hI;simpa [h] using hI
  ·clear b7 ky1 ky2 c1 c2 y1 y2 hx8 kC2 hslC b1'
   rintro i ρ G hi gi gn ⟨g5,g6,g8,g10,g12,g13,g84,hxa,y1,y2,b7,ky1,ky2⟩
   have hxG:=hx.trans hxa
   have kC2:=kC.mono a0z hxG
   have hiC:i < p.C.length:=by omega
   have iaC:=kC2.ia (k:=.i64) hiC
   obtain ⟨wc,ec,kc⟩:=b0l.load kC2 hiC
   obtain ⟨s5,s6,rfl,k5,k6⟩:=kc
   have c5:=k5.cells;have c6:=k6.cells
   have hsz:=hxG.1
   simp [s0b,gi,g84,iaC,ec,c5,c6,k5.plain,k6.plain,hsz]
   generalize hN:Array.setIfInBounds (Array.push _ _) _ _=G11
   obtain ⟨hxb,b8⟩:=new1 hN
   clear hN
   replace b7:=hxb.blk b7
   replace ky1:=ky1.mono hxb
   replace ky2:=ky2.mono hxb
   replace k5:=k5.mono hxb
   replace k6:=k6.mono hxb
   replace hxa:=hxa.trans hxb
   have hiX:i < (X0.map a0e).length:=by simp;omega
   have oX2:=oX.mono a0z hxa
   have iaX:=oX2.sls.ia (k:=.i64) hiX
   obtain ⟨wx,ex,kx⟩:=b0l.load oX2.sls hiX
   refine a0v ?_
   simp [s0c,g12,g13,b7,b8,iaX,ex]
   have hlC:=hpF _ (List.getElem_mem hiC)
   have hlX:=hFX _ (List.getElem_mem hiX)
   have hv1:=b0U hlC.2.1 hlC.2.2
   have hv2:=b0U hlX.2.1 hlX.2.2
   refine (e0b (a:=p.C[i]) ⟨s5,s6,rfl,k5,k6⟩ kx (by have:=hxb.1;omega) (by omega) (by omega)).mono ?_
   rintro wm G12 ⟨km,hxc⟩
   replace b7:=hxc.blk b7
   replace ky1:=ky1.mono hxc
   replace ky2:=ky2.mono hxc
   replace hxa:=hxa.trans hxc
   have hsm:=h0b (b0O p.C[i]) (b0O (X0.map a0e)[i])
   have hsz2:H.size≤G12.size:=(hx.trans hxa).1
   have hsdi:=hsd i (by omega)
   simp
   refine (b0K (a:=a0e (e0n p.C (X0.map a0e) i)) ⟨y1,y2,rfl,ky1,ky2⟩ km hsz2 (by rw [a0x];omega) (by rw [a0x];omega)).mono ?_
   rintro _ G13 ⟨⟨y3,y4,rfl,ky3,ky4⟩,hxc⟩
   replace b7:=hxc.blk b7
   replace hxa:=hxa.trans hxc
   have hdot:b0O (a0e (e0n p.C (X0.map a0e) i)) + b0O (a0e (b0O p.C[i] * b0O (X0.map a0e)[i]))=e0n p.C (X0.map a0e) (i + 1):=by
    rw [a0w,a0w,e0n,List.getD_eq_getElem?_getD,List.getD_eq_getElem?_getD,List.getElem?_eq_getElem hiC,List.getElem?_eq_getElem hiX];rfl
   rw [hdot] at ky3 ky4 ⊢
   have c3:=ky3.cells;have c4:=ky4.cells
   have hsz3:H.size≤G13.size:=(hx.trans hxa).1
   have hP7l:H.size≤P7:=by rw [hP7];exact hx.1
   simp [g13,b7,c3,c4,ky3.plain,ky4.plain,hP7l]
   generalize hS':Array.setIfInBounds G13 _ _=G14
   exact Rnd.mk (by simp [gi]) (by simp [gn]) ⟨by simp [g5],by simp [g6],by simp [g8],by simp [g10],by simp [g12],by simp [g13],by simp [g84],b0x hS' hxa (by omega),y3,y4,a0C hS' b7,ky3.setS hS' b7 (by decide),ky4.setS hS' b7 (by decide)⟩
  ·clear b7 ky1 ky2 c1 c2 y1 y2 hx8 kC2 hslC b1'
   rintro ρ G gi gn ⟨g5,g6,g8,g10,g12,g13,g84,hxa,y1,y2,b7,ky1,ky2⟩
   replace b1:=hxa.blk b1
   replace b2:=hxa.blk b2
   replace b3:=hxa.blk b3
   replace b5:=hxa.blk b5
   replace hT:=hT.mono hxa
   replace oX:=oX.mono a0z hxa
   replace hx:=hx.trans hxa
   clear hxa
   refine c0g ?_
   have kq:b0X G (.agg #[.bool (a0e q.cb).1.1,s1,.bool (a0e q.cb).2.1,s2]) (a0e q.cb):=⟨s1,s2,rfl,q1.mono hx,q2.mono hx⟩
   simp [s0d,g13,g12,g8,g10,g5,b7,b5,b2]
   refine (g0F (q:=q) hT (by have:=hx.1;omega) hS (h00.mono hx) hql kq (g:=m1) (by omega) (by omega) (by have:=hTab.pos;omega) (fun i hi=>by have:=hBz m1 (2 * n + i) (by omega) (by omega);omega) hK hcs hc0 hm hn).mono ?_
   rintro wd G8 ⟨kd,hx8⟩
   replace b1:=hx8.blk b1
   replace b2:=hx8.blk b2
   replace b3:=hx8.blk b3
   replace b5:=hx8.blk b5
   replace b7:=hx8.blk b7
   replace ky1:=ky1.mono hx8
   replace ky2:=ky2.mono hx8
   replace hT:=hT.mono hx8
   replace oX:=oX.mono a0z hx8
   replace hx:=hx.trans hx8
   clear hx8
   have hbk:=hT.blk
   have hsz:=hx.1
   have hdc:=kd.cells
   have hxc:=oX.cells
   have c1:=ky1.cells;have c2:=ky2.cells
   simp [g8,g6,b5,hbk,hdc,hxc,c1,c2]
   have hP1:P8 ≠ H.size + 3:=fun h=>by rw [h,b3] at b5;simp at b5
   have hP2:p' ≠ H.size + 3:=fun h=>by rw [h,b3] at hbk;simp at hbk
   simp [b3,hsz,ky1.plain,ky2.plain,c1,c2,hdc,hxc,hP1,hP2]
   generalize hS':Array.setIfInBounds G8 _ _=G9
   have hl1:LxT a0d G8 G9:=a0V hS' b3 (by decide)
   have hl2:Lx G8 G9:=fun b ro cs h=>a0V (e:=a0m) hS' b3 (by decide) b ro cs h
   rw [a0C hS' b3]
   simp
   refine fun _=>⟨_,⟨1,e0n p.C (X0.map a0e) n,X0,(List.range m).map fun i=>d0E L' m1 n D q.bs q.cb i,[]⟩,k1,rfl,⟨y1,y2,_,_,_,rfl,ky1.setS hS' b3 (by decide),ky2.setS hS' b3 (by decide),b0l.lx2 oX.sls hl1 hl2,?_,Sls.nil⟩,.inr ⟨Tf L',bf bs',D,hTab,rfl,rfl,fun i hi hb=>hZr i hi hb _ (Nat.le_refl _),hopt,hX0,by rw [hm1];rfl,rfl⟩⟩
   rw [List.map_map]
   exact b0l.lx2 kd.sls hl1 hl2
theorem b0A.floor {p n m f0:Nat} {L:List (List Int)} {k D:Int} {bs:List Nat} {sR sD sB:Value} {vs:List Value} (h:b0A fl H p n m L D bs k sR sD sB vs) (hf:f0≤fl):b0A f0 H p n m L D bs k sR sD sB vs :=
 ⟨h.blk,Nat.le_trans hf h.low,h.d,h.heads.low hf,h.rows.low hf,h.basis.low hf⟩
theorem j0w {q:ScT} {p:LPt} {n m Z S:Nat} (hp:LPV H u p) (h:SV H v q) (hn0:q.n=n) (hAl:q.A.length=m) (hCl:q.C.length=n) (hpC:p.C.length=n) (hpF:Few S p.C) (hql:q.bs.length=m) (hrow:∀ r ∈ q.A,r.length=n + 1) (hf:fl≤H.size)
  (hzA:∀ r c,lz (Tf q.A r c) < 67108864) (hzC:∀ c,ccq q c=0) (hzL:∀ i c,i≤m→c≤2 * n + m→lz (h0f q n m i c) < 67108864)
  (hB:∀ T base D,F0I q n m T base D→(∀ r c,r < m + 2→c≤2 * n + m→lz (T r c)≤Z)∧lz D≤Z) (hZ:(n + 1) * (2 * (Z + m + S) + 10) < 16777216) (hK:∀ x ∈ q.bs,szR x < 16777216) (hcs:szR q.cb < 16777216) (hc0:q.cb ≠ 0)
  (hm:m < 1048576) (hn:n < 1048576) (hR:f0v R) :
  a0P env fl u0f [eV,u,v] H (fun r H'=>h0X q p.C n m r H'∧Ext H H') R:=by
 have hp0:=hp
 have h00:=h
 obtain ⟨sA0,sB0,sC0,rfl,kA,kB,kC⟩:=hp
 obtain ⟨sA,sBy,sC,s1,s2,rfl,qA,qB,qC,q1,q2⟩:=h
 refine a0l U0D hf (h:=?_)
 intro ρ h0
 have hZ1:2 * (Z + m + S) + 10 < 16777216:=by
  have:1 * (2 * (Z + m + S) + 10)≤(n + 1) * (2 * (Z + m + S) + 10):=Nat.mul_le_mul_right _ (by omega)
  omega
 simp [H0t,x0L,h0,kA.cells,kB.cells,kC.cells,qA.cells,qB.cells,qC.cells,q1.cells,q2.cells]
 generalize hG:Array.push (Array.push (Array.push (Array.push H _) _) _) _=G
 obtain ⟨hx,b0,b1,b2,b3⟩:=R0p hG
 clear hG
 have hsv:=h00.mono hx
 simp [x0M,b0,b2]
 refine a0P.mono (l0G hsv hn0 hAl hCl hrow hx.1 hzA (fun c=>by rw [hzC,c0L];decide) hzL hm hn hR) ?_
 rintro _ G2 ⟨⟨p',L,bs,sR,sD,sB,vs,rfl,hT,hS,hTf,hbs⟩,hx2⟩
 replace hT:=hT.floor hx.1
 have hxG:=hx.trans hx2
 have hsz:=hxG.1
 simp [hsz]
 generalize hN:Array.setIfInBounds (Array.push _ _) _ _=G3
 obtain ⟨hx3,b5⟩:=new1 hN
 clear hN
 replace hx2:=hx2.trans hx3
 replace b1:=hx2.blk b1
 replace b2:=hx2.blk b2
 replace b3:=hx2.blk b3
 replace hT:=hT.mono hx3
 replace hx:=hx.trans hx2
 clear hx2 hx3 hxG hsz hsv b0
 obtain ⟨P8,hP8⟩:∃ x,x=G2.size:=⟨_,rfl⟩
 rw [← hP8] at b5 ⊢
 clear hP8
 have hbk:=hT.blk
 have hTab:F0I q n m (Tf L) (bf bs) 1:=n0U.congr hTf hbs rfl
 have hBd:Bnd m (2 * n + m) (f0Q n m (Tf q.A) (bbq q n) (ccq q)) (fun i=>bbq q n i < 0):=fun T base D hT=>by
  obtain ⟨h1,h2⟩:=hB T base D hT
  exact ⟨fun r c hr hc=>by have:=h1 r c hr hc;omega,by omega⟩
 have w1:IntKind.i64.wrap ((m:Int) + 1)=((m + 1:Nat):Int):=by rw [a0L (by omega) (by omega)];omega
 obtain ⟨m1,hm1⟩:∃ x:Nat,x=m + 1:=⟨_,rfl⟩
 rw [← hm1] at w1
 refine a0v ?_
 simp [x0N,b5,hbk,w1]
 simp [x0O,b5]
 refine a0P.mono (i0C hT hx.1 hS hTab hBd (.inl rfl) hm hn hR) ?_
 rintro _ G4 ⟨⟨z1,rfl,hQ1⟩,hK1⟩
 clear hTf hbs hbk hTab hS hT
 obtain ⟨L,D,bs,k1,sD,hT,hS,hTab,-,hFr,hend⟩:=hQ1
 replace hx:=g0q hx hK1 (Nat.le_refl _)
 replace b1:=hFr.2 b0z (by decide) (by decide) (by decide) _ _ _ b1
 replace b2:=hFr.2 a0q (by decide) (by decide) (by decide) _ _ _ b2
 replace b3:=hFr.2 b0d (by decide) (by decide) (by decide) _ _ _ b3
 replace b5:=hFr.2 a0o (by decide) (by decide) (by decide) _ _ _ b5
 clear hFr hK1
 have hbk:=hT.blk
 have hmL:m < L.length:=by rw [hS.len];omega
 have hcL:2 * n + m < L[m].length:=by rw [hS.row m hmL];omega
 have eh:=hT.head hmL
 have ehi:=hT.hia hmL
 obtain ⟨wt,en,fw⟩:=hT.num hmL hcL
 have ej:=hT.ia hmL hcL
 obtain ⟨jj,hjj⟩:∃ jj:Nat,jj=2 * n + m:=⟨_,rfl⟩
 rw [← hjj] at en ej fw hend
 obtain ⟨vi,hvi⟩:∃ x,x=vs[m]'(by have:=hT.rows.len;omega):=⟨_,rfl⟩
 rw [← hvi] at eh en ej
 have e2:2 * (n:Int) + m=(jj:Int):=by omega
 obtain ⟨hBz,hBd1⟩:=hB _ _ _ hTab
 have hz:=hBz m jj (by omega) (by omega)
 simp
 refine a0v ?_
 simp [x0P,b5,hbk,eh,ehi,e2,ej,en]
 refine a0P.mono (f0N fw hx.1 (by omega)) ?_
 rintro _ G5 ⟨rfl,hx5⟩
 replace b1:=hx5.blk b1
 replace b2:=hx5.blk b2
 replace b3:=hx5.blk b3
 replace b5:=hx5.blk b5
 replace hT:=hT.mono hx5
 replace hx:=hx.trans hx5
 clear hx5 en eh hbk
 by_cases hneg:Tf L m jj < 0
 ·have hcz:b0T (Tf L m jj) 0 = -1:=by unfold b0T;rw [if_pos hneg]
  simp [hcz]
  refine c0g ?_
  simp [x0Q]
  refine (c0p (n:=0) (by have:=hx.1;omega) (by omega) (by omega)).mono ?_
  rintro _ G6 ⟨⟨y1,y2,rfl,ky1,ky2⟩,hx6⟩
  have hz0:((0:Int):Rat)=0:=rfl
  rw [hz0] at ky1 ky2 ⊢
  replace b1:=hx6.blk b1
  replace b2:=hx6.blk b2
  replace b3:=hx6.blk b3
  replace b5:=hx6.blk b5
  replace hT:=hT.mono hx6
  replace hx:=hx.trans hx6
  clear hx6
  simp [b2,b5]
  refine (c0p (n:=1) (by have:=hx.1;omega) (by omega) (by omega)).mono ?_
  rintro w7 G7 ⟨kw7,hx7⟩
  have hz1:((1:Int):Rat)=1:=rfl
  rw [hz1] at kw7
  replace b1:=hx7.blk b1
  replace b2:=hx7.blk b2
  replace b3:=hx7.blk b3
  replace b5:=hx7.blk b5
  replace ky1:=ky1.mono hx7
  replace ky2:=ky2.mono hx7
  replace hT:=hT.mono hx7
  replace hx:=hx.trans hx7
  clear hx7
  simp
  refine (g0A (q:=q) hT (by have:=hx.1;omega) hS (h00.mono hx) hql kw7 (g:=m) (by omega) (by omega) (by have:=hTab.pos;omega) (fun i hi=>by have:=hBz m (2 * n + i) (by omega) (by omega);omega) hK (by rw [q0Q];omega) (by decide) hm hn).mono ?_
  rintro wd G8 ⟨kd,hx8⟩
  replace b1:=hx8.blk b1
  replace b2:=hx8.blk b2
  replace b3:=hx8.blk b3
  replace b5:=hx8.blk b5
  replace ky1:=ky1.mono hx8
  replace ky2:=ky2.mono hx8
  replace hT:=hT.mono hx8
  replace hx:=hx.trans hx8
  clear hx8
  have hbk:=hT.blk
  have hsz:=hx.1
  have hdc:=kd.cells
  simp [b5,hbk,hdc]
  have c1:=ky1.cells;have c2:=ky2.cells
  have hP1:P8 ≠ H.size + 3:=fun h=>by rw [h,b3] at b5;simp at b5
  have hP2:p' ≠ H.size + 3:=fun h=>by rw [h,b3] at hbk;simp at hbk
  simp [b3,hsz,ky1.plain,ky2.plain,c1,c2,hdc,hP1,hP2]
  generalize hS':Array.setIfInBounds G8 _ _=G9
  have hl1:LxT a0d G8 G9:=a0V hS' b3 (by decide)
  have hl2:Lx G8 G9:=fun b ro cs h=>a0V (e:=a0m) hS' b3 (by decide) b ro cs h
  rw [a0C hS' b3]
  simp
  refine fun _=>⟨_,⟨2,0,[],(List.range m).map fun i=>d0E L m n D q.bs 1 i,[]⟩,k1,rfl,⟨y1,y2,_,_,_,rfl,ky1.setS hS' b3 (by decide),ky2.setS hS' b3 (by decide),Sls.nil,?_,Sls.nil⟩,.inl ⟨Tf L,bf bs,D,hTab,rfl,rfl,rfl,rfl,?_,?_,rfl⟩⟩
  ·rw [List.map_map]
   exact b0l.lx2 kd.sls hl1 hl2
  ·exact J0o hTab (by rw [← hjj];exact hend)
  ·rw [← hjj];exact hneg
 ·have hcz:¬ b0T (Tf L m jj) 0 < 0:=by unfold b0T;rw [if_neg hneg];split <;> omega
  simp [hcz]
  have h00r:∀ r,r < m→¬ bf bs r < 2 * n + m→Tf L r (2 * n + m)=0:=hTab.full (by rw [← hjj];omega)
  simp [x0R,b5]
  refine a0P.mono (n0t hT hx.1 hS hTab hBd h00r hm hn hR) ?_
  rintro _ G6 ⟨hQ1,hK1⟩
  clear hTab hS hT hBz hBd1 hz ej hend hcL hmL fw ehi hvi h00r
  obtain ⟨L,D,bs,k1,sD,hT,hS,hTab,hFr,hZr⟩:=hQ1
  replace hx:=g0q hx hK1 (Nat.le_refl _)
  replace b1:=hFr.2 b0z (by decide) (by decide) (by decide) _ _ _ b1
  replace b2:=hFr.2 a0q (by decide) (by decide) (by decide) _ _ _ b2
  replace b3:=hFr.2 b0d (by decide) (by decide) (by decide) _ _ _ b3
  replace b5:=hFr.2 a0o (by decide) (by decide) (by decide) _ _ _ b5
  clear hFr hK1
  simp
  simp [x0S,b5]
  refine a0P.mono (i0C hT hx.1 hS hTab hBd (.inr hm1) hm hn hR) ?_
  rintro _ G7 ⟨⟨z2,rfl,hQ1⟩,hK1⟩
  clear hTab hS hT
  obtain ⟨L',D,bs',k1,sD,hT,hS,hTab,hZr2,hFr,hend⟩:=hQ1
  replace hZr:=hZr2 hZr
  clear hZr2
  replace hx:=g0q hx hK1 (Nat.le_refl _)
  replace b1:=hFr.2 b0z (by decide) (by decide) (by decide) _ _ _ b1
  replace b2:=hFr.2 a0q (by decide) (by decide) (by decide) _ _ _ b2
  replace b3:=hFr.2 b0d (by decide) (by decide) (by decide) _ _ _ b3
  replace b5:=hFr.2 a0o (by decide) (by decide) (by decide) _ _ _ b5
  clear hFr hK1
  obtain ⟨hBz,hBd1⟩:=hB _ _ _ hTab
  simp
  simp [x0T,b5]
  refine a0P.mono (k0H (F:=fun i=>Tf L' i (2 * n + m)) hT hx.1 hS (by omega) (by have:=hTab.pos;omega) (fun i hi=>by have:=hBz i (2 * n + m) (by omega) (Nat.le_refl _);omega) hm hn (fun fl i G' R' hxx hfl hi=>by
   simp only [List.cons_append,List.nil_append]
   exact i0a (hT.mono hxx) hfl hS (hxx.blk b5) (by omega))) ?_
  rintro wX G8 ⟨oX,hx8⟩
  replace b1:=hx8.blk b1
  replace b2:=hx8.blk b2
  replace b3:=hx8.blk b3
  replace b5:=hx8.blk b5
  replace hT:=hT.mono hx8
  replace hx:=hx.trans hx8
  clear hx8
  simp
  rw [hm1] at hend
  obtain ⟨rfl,hopt⟩:=J0p hTab hZr hzC hend
  clear hend
  simp [x0U]
  simp [r0K]
  refine (c0p (n:=0) hx.1 (by omega) (by omega)).mono ?_
  rintro _ G9 ⟨⟨y1,y2,rfl,ky1,ky2⟩,hx8⟩
  have hz0:((0:Int):Rat)=0:=rfl
  rw [hz0] at ky1 ky2 ⊢
  replace b1:=hx8.blk b1
  replace b2:=hx8.blk b2
  replace b3:=hx8.blk b3
  replace b5:=hx8.blk b5
  replace hT:=hT.mono hx8
  replace oX:=oX.mono a0z hx8
  replace hx:=hx.trans hx8
  clear hx8
  have hsz:=hx.1
  have c1:=ky1.cells;have c2:=ky2.cells
  simp [hsz,c1,c2,ky1.plain,ky2.plain]
  generalize hN:Array.setIfInBounds (Array.push _ _) _ _=G10
  obtain ⟨hx8,b7⟩:=new1 hN
  clear hN
  obtain ⟨P7,hP7⟩:∃ x,x=G9.size:=⟨_,rfl⟩
  rw [← hP7] at b7 ⊢
  have kC2:=kC.mono a0z (hx.trans hx8)
  have hslC:=kC2.slen
  rw [hpC] at hslC
  have b1':=hx8.blk b1
  obtain ⟨X0,hX0⟩:∃ x,x=(List.range n).map fun k=>Rat.divInt (ptq n (bf bs') (fun i=>Tf L' i (2 * n + m)) m k) D:=⟨_,rfl⟩
  have oX0:(List.range n).map (fun k=>a0e (Rat.divInt (ptq n (bf bs') (fun i=>Tf L' i (2 * n + m)) m k) D))=X0.map a0e:=by rw [hX0,List.map_map];rfl
  rw [oX0] at oX
  have hX0l:X0.length=n:=by rw [hX0];simp
  have hX0z:∀ x ∈ X0,szR x≤Z + m + S + 1:=by
   intro x hx
   rw [hX0] at hx
   obtain ⟨k,_,rfl⟩:=List.mem_map.1 hx
   have h1:=b0k (ptq n (bf bs') (fun i=>Tf L' i (2 * n + m)) m k) D
   have h2:=i0J (n:=n) (base:=bf bs') (F:=fun i=>Tf L' i (2 * n + m)) (K:=Z) (k:=k) (q:=m) (fun i hi=>hBz i _ (by omega) (Nat.le_refl _))
   omega
  have hFX:=l0e hX0z
  have hFC:=hpF.mono' (show S≤Z + m + S + 1 by omega)
  have hsd:∀ i,i≤n→szR (e0n p.C (X0.map a0e) i) < 33554432:=fun i hi=>by
   have h1:=k0u hFC hFX i
   have h2:i * (2 * (Z + m + S + 1) + 3)≤n * (2 * (Z + m + S) + 10):=Nat.mul_le_mul hi (by omega)
   rw [Nat.add_mul,Nat.one_mul] at hZ
   omega
  simp [r0L,b1',hslC]
  refine c0h (n:=n) (fun i ρ G=>ρ 5=.pointer (some ⟨H.size + 2,0,none⟩)∧ρ 6=.pointer (some ⟨H.size + 3,0,none⟩)∧ρ 8=.pointer (some ⟨P8,0,none⟩)∧ρ 10=.int .i64 (m1:Int)∧ρ 12=wX∧ρ 13=.pointer (some ⟨P7,0,none⟩)∧ρ 84=sC0∧Ext G9 G∧∃ y1 y2,a0f.blk G P7=.row false a0d [.bool (a0e (e0n p.C (X0.map a0e) i)).1.1,y1,.bool (a0e (e0n p.C (X0.map a0e) i)).2.1,y2]∧Lim G y1 (a0e (e0n p.C (X0.map a0e) i)).1.2∧Lim G y2 (a0e (e0n p.C (X0.map a0e) i)).2.2) rfl rfl (by decide) (by omega) (by simp) (by simp) ?_ ?_ ?_ ?_
  ·exact ⟨by simp,by simp,by simp,by simp,by simp,by simp,by simp,hx8,y1,y2,b7,ky1.mono hx8,ky2.mono hx8⟩
  ·intro i ρ ρ' G h hI;simpa [h] using hI
  ·clear b7 ky1 ky2 c1 c2 y1 y2 hx8 kC2 hslC b1'
   rintro i ρ G hi gi gn ⟨g5,g6,g8,g10,g12,g13,g84,hxa,y1,y2,b7,ky1,ky2⟩
   have hxG:=hx.trans hxa
   have kC2:=kC.mono a0z hxG
   have hiC:i < p.C.length:=by omega
   have iaC:=kC2.ia (k:=.i64) hiC
   obtain ⟨wc,ec,kc⟩:=b0l.load kC2 hiC
   obtain ⟨s5,s6,rfl,k5,k6⟩:=kc
   have c5:=k5.cells;have c6:=k6.cells
   have hsz:=hxG.1
   simp [r0M,gi,g84,iaC,ec,c5,c6,k5.plain,k6.plain,hsz]
   generalize hN:Array.setIfInBounds (Array.push _ _) _ _=G11
   obtain ⟨hxb,b8⟩:=new1 hN
   clear hN
   replace b7:=hxb.blk b7
   replace ky1:=ky1.mono hxb
   replace ky2:=ky2.mono hxb
   replace k5:=k5.mono hxb
   replace k6:=k6.mono hxb
   replace hxa:=hxa.trans hxb
   have hiX:i < (X0.map a0e).length:=by simp;omega
   have oX2:=oX.mono a0z hxa
   have iaX:=oX2.sls.ia (k:=.i64) hiX
   obtain ⟨wx,ex,kx⟩:=b0l.load oX2.sls hiX
   refine a0v ?_
   simp [r0N,g12,g13,b7,b8,iaX,ex]
   have hlC:=hpF _ (List.getElem_mem hiC)
   have hlX:=hFX _ (List.getElem_mem hiX)
   have hv1:=b0U hlC.2.1 hlC.2.2
   have hv2:=b0U hlX.2.1 hlX.2.2
   refine (e0b (a:=p.C[i]) ⟨s5,s6,rfl,k5,k6⟩ kx (by have:=hxb.1;omega) (by omega) (by omega)).mono ?_
   rintro wm G12 ⟨km,hxc⟩
   replace b7:=hxc.blk b7
   replace ky1:=ky1.mono hxc
   replace ky2:=ky2.mono hxc
   replace hxa:=hxa.trans hxc
   have hsm:=h0b (b0O p.C[i]) (b0O (X0.map a0e)[i])
   have hsz2:H.size≤G12.size:=(hx.trans hxa).1
   have hsdi:=hsd i (by omega)
   simp
   refine (b0K (a:=a0e (e0n p.C (X0.map a0e) i)) ⟨y1,y2,rfl,ky1,ky2⟩ km hsz2 (by rw [a0x];omega) (by rw [a0x];omega)).mono ?_
   rintro _ G13 ⟨⟨y3,y4,rfl,ky3,ky4⟩,hxc⟩
   replace b7:=hxc.blk b7
   replace hxa:=hxa.trans hxc
   have hdot:b0O (a0e (e0n p.C (X0.map a0e) i)) + b0O (a0e (b0O p.C[i] * b0O (X0.map a0e)[i]))=e0n p.C (X0.map a0e) (i + 1):=by
    rw [a0w,a0w,e0n,List.getD_eq_getElem?_getD,List.getD_eq_getElem?_getD,List.getElem?_eq_getElem hiC,List.getElem?_eq_getElem hiX];rfl
   rw [hdot] at ky3 ky4 ⊢
   have c3:=ky3.cells;have c4:=ky4.cells
   have hsz3:H.size≤G13.size:=(hx.trans hxa).1
   have hP7l:H.size≤P7:=by rw [hP7];exact hx.1
   simp [g13,b7,c3,c4,ky3.plain,ky4.plain,hP7l]
   generalize hS':Array.setIfInBounds G13 _ _=G14
   exact Rnd.mk (by simp [gi]) (by simp [gn]) ⟨by simp [g5],by simp [g6],by simp [g8],by simp [g10],by simp [g12],by simp [g13],by simp [g84],b0x hS' hxa (by omega),y3,y4,a0C hS' b7,ky3.setS hS' b7 (by decide),ky4.setS hS' b7 (by decide)⟩
  ·clear b7 ky1 ky2 c1 c2 y1 y2 hx8 kC2 hslC b1'
   rintro ρ G gi gn ⟨g5,g6,g8,g10,g12,g13,g84,hxa,y1,y2,b7,ky1,ky2⟩
   replace b1:=hxa.blk b1
   replace b2:=hxa.blk b2
   replace b3:=hxa.blk b3
   replace b5:=hxa.blk b5
   replace hT:=hT.mono hxa
   replace oX:=oX.mono a0z hxa
   replace hx:=hx.trans hxa
   clear hxa
   refine c0g ?_
   have kq:b0X G (.agg #[.bool (a0e q.cb).1.1,s1,.bool (a0e q.cb).2.1,s2]) (a0e q.cb):=⟨s1,s2,rfl,q1.mono hx,q2.mono hx⟩
   simp [r0O,g13,g12,g8,g10,g5,b7,b5,b2]
   refine (g0A (q:=q) hT (by have:=hx.1;omega) hS (h00.mono hx) hql kq (g:=m1) (by omega) (by omega) (by have:=hTab.pos;omega) (fun i hi=>by have:=hBz m1 (2 * n + i) (by omega) (by omega);omega) hK hcs hc0 hm hn).mono ?_
   rintro wd G8 ⟨kd,hx8⟩
   replace b1:=hx8.blk b1
   replace b2:=hx8.blk b2
   replace b3:=hx8.blk b3
   replace b5:=hx8.blk b5
   replace b7:=hx8.blk b7
   replace ky1:=ky1.mono hx8
   replace ky2:=ky2.mono hx8
   replace hT:=hT.mono hx8
   replace oX:=oX.mono a0z hx8
   replace hx:=hx.trans hx8
   clear hx8
   have hbk:=hT.blk
   have hsz:=hx.1
   have hdc:=kd.cells
   have hxc:=oX.cells
   have c1:=ky1.cells;have c2:=ky2.cells
   simp [g8,g6,b5,hbk,hdc,hxc,c1,c2]
   have hP1:P8 ≠ H.size + 3:=fun h=>by rw [h,b3] at b5;simp at b5
   have hP2:p' ≠ H.size + 3:=fun h=>by rw [h,b3] at hbk;simp at hbk
   simp [b3,hsz,ky1.plain,ky2.plain,c1,c2,hdc,hxc,hP1,hP2]
   generalize hS':Array.setIfInBounds G8 _ _=G9
   have hl1:LxT a0d G8 G9:=a0V hS' b3 (by decide)
   have hl2:Lx G8 G9:=fun b ro cs h=>a0V (e:=a0m) hS' b3 (by decide) b ro cs h
   rw [a0C hS' b3]
   simp
   refine fun _=>⟨_,⟨1,e0n p.C (X0.map a0e) n,X0,(List.range m).map fun i=>d0E L' m1 n D q.bs q.cb i,[]⟩,k1,rfl,⟨y1,y2,_,_,_,rfl,ky1.setS hS' b3 (by decide),ky2.setS hS' b3 (by decide),b0l.lx2 oX.sls hl1 hl2,?_,Sls.nil⟩,.inr ⟨Tf L',bf bs',D,hTab,rfl,rfl,fun i hi hb=>hZr i hi hb _ (Nat.le_refl _),hopt,hX0,by rw [hm1];rfl,rfl⟩⟩
   rw [List.map_map]
   exact b0l.lx2 kd.sls hl1 hl2
end
/- Sizes of a problem that is made whole: each tableau's numbers are few limbs. -/
section
open Go SX
set_option maxHeartbeats 1000000
variable {H G:a0f}
theorem R0e {f:Nat→Int} {K:Nat}:∀ {n:Nat},(∀ i,i < n→lz (f i)≤K)→lz (sm f n)≤K + n
 | 0,_=>by rw [sm,c0L];omega
 | n + 1,h=>by
  have h1:=R0e (n:=n) (fun i hi=>h i (by omega))
  have h2:=h n (by omega)
  have h3:=o0e (sm f n) (f n)
  rw [sm];omega
theorem J0g {M:Nat}:∀ {k:Nat},k≤M→fac k≤M ^ k
 | 0,_=>by simp [fac]
 | k + 1,h=>by
  rw [fac,Nat.pow_succ,Nat.mul_comm]
  exact Nat.mul_le_mul (J0g (by omega)) h
theorem r0A {z:Int} {M k:Nat} (hM:M≤4294967296) (h:z.natAbs≤fac M * (4294967296 ^ k) ^ M):lz z≤M * (k + 1) + 1:=by
 apply o0f
 have h1:fac M≤4294967296 ^ M:=Nat.le_trans (J0g (Nat.le_refl M)) (Nat.pow_le_pow_left hM M)
 have h2:fac M * (4294967296 ^ k) ^ M≤4294967296 ^ (M * (k + 1)):=by
  rw [← Nat.pow_mul,Nat.mul_add,Nat.mul_one,Nat.add_comm,Nat.pow_add,Nat.mul_comm M k]
  exact Nat.mul_le_mul_right _ h1
 have h3:4294967296 ^ (M * (k + 1)) < 4294967296 ^ (M * (k + 1) + 1):=Nat.pow_lt_pow_right (by omega) (by omega)
 omega
section
variable {q:ScT} {n m K:Nat} (hA:∀ r c,lz (Tf q.A r c)≤K)
include hA
theorem N0x {r c:Nat}:lz (d0d n m (Tf q.A) (bbq q n) r c)≤K + 1:=by
 unfold d0d
 split
 ·have:=hA r c;omega
 ·split
  ·rw [e0s];have:=hA r (c - n);omega
  ·split
   ·split
    ·rw [f0b];omega
    ·rw [c0L];omega
   ·have:=hA r n;unfold bbq;omega
theorem o0g {r c:Nat}:lz (sg (bbq q n) r * d0d n m (Tf q.A) (bbq q n) r c)≤K + 1:=by
 have h:=N0x (n:=n) (m:=m) hA (r:=r) (c:=c)
 unfold sg
 split
 ·rw [Int.neg_mul,Int.one_mul,e0s];exact h
 ·rw [Int.one_mul];exact h
theorem w0E {i c:Nat}:lz (h0f q n m i c)≤K + 1 + i:=by
 unfold h0f
 refine R0e fun r _=>?_
 split
 ·exact o0g hA
 ·rw [c0L];omega
theorem N0w (hC:∀ c,ccq q c=0) {c r:Nat}:lz (f0Q n m (Tf q.A) (bbq q n) (ccq q) c r)≤K + 1 + m:=by
 unfold f0Q
 split
 ·have:=o0g (n:=n) (m:=m) hA (r:=r) (c:=c);omega
 ·split
  ·rw [e0s];exact w0E (i:=m) hA
  ·have:cost n (ccq q) c=0:=by unfold cost;split;exact hC _;split;rw [hC];rfl;rfl
   rw [this];show lz 0≤_;rw [c0L];omega
theorem r0B (hC:∀ c,ccq q c=0) (hm:m < 1048576) {T:Nat→Nat→Int} {base:Nat→Nat} {D:Int} (h:F0I q n m T base D) :
  (∀ r c,r < m + 2→c≤2 * n + m→lz (T r c)≤(m + 2) * (K + m + 2) + 1)∧lz D≤(m + 2) * (K + m + 2) + 1:=by
 obtain ⟨h1,h2⟩:=Tab.bound h (B:=4294967296 ^ (K + 1 + m)) (Nat.one_le_pow _ _ (by omega)) (fun c r _ _=>by
  have h3:=w0D (f0Q n m (Tf q.A) (bbq q n) (ccq q) c r)
  have h4:=N0w (n:=n) (m:=m) hA hC (c:=c) (r:=r)
  exact Nat.le_of_lt (Nat.lt_of_lt_of_le h3 (Nat.pow_le_pow_right (by omega) h4)))
 have e:K + 1 + m + 1=K + m + 2:=by omega
 refine ⟨fun r c hr hc=>?_,?_⟩
 ·have:=r0A (M:=m + 2) (by omega) (h1 r c hr hc)
  rw [e] at this;exact this
 ·have:=r0A (M:=m + 2) (by omega) h2
  rw [e] at this;exact this
end
structure o0S (H:a0f) (u v:Value) (p:LPt) (q:ScT) (n m:Nat):Prop where
 hp:LPV H u p
 hv:SV H v q
 qn:q.n=n
 qA:q.A.length=m
 qC:q.C.length=n
 pC:p.C.length=n
 qb:q.bs.length=m
 row:∀ r ∈ q.A,r.length=n + 1
 costs:∀ c,ccq q c=0
 b0:q.cb ≠ 0
 m1:m < 1048576
 n1:n < 1048576
 sz:∃ K S,(∀ r c,lz (Tf q.A r c)≤K)∧Few S p.C∧(∀ x ∈ q.bs,szR x≤K)∧szR q.cb≤K∧(n + 1) * (2 * ((m + 2) * (K + m + 2) + 1 + m + S) + 10) < 16777216
theorem o0S.mono {u v:Value} {p:LPt} {q:ScT} {n m:Nat} (h:o0S H u v p q n m) (hx:Ext H G):o0S G u v p q n m :=
 { h with hp:=h.hp.mono hx,hv:=h.hv.mono hx }
theorem m0e {fl:Nat} {R:a0A} {u v:Value} {p:LPt} {q:ScT} {n m:Nat} (h:o0S H u v p q n m) (hf:fl≤H.size) (hR:e0E R) :
  a0P env fl l0U [eV,u,v] H (fun r H'=>h0X q p.C n m r H'∧Ext H H') R:=by
 obtain ⟨K,S,hA,hS,hb,hc,hs⟩:=h.sz
 have hm:=h.m1
 have h1:K + m + 2≤(m + 2) * (K + m + 2):=by
  have:1 * (K + m + 2)≤(m + 2) * (K + m + 2):=Nat.mul_le_mul_right _ (by omega)
  omega
 have h2:1 * (2 * ((m + 2) * (K + m + 2) + 1 + m + S) + 10)≤(n + 1) * (2 * ((m + 2) * (K + m + 2) + 1 + m + S) + 10):=Nat.mul_le_mul_right _ (by omega)
 have hK:K + m < 16777214:=by omega
 exact j0N h.hp h.hv h.qn h.qA h.qC h.pC hS h.qb h.row hf (fun r c=>by have:=hA r c;omega) h.costs (fun i c hi _=>by have:=w0E (n:=n) (m:=m) hA (i:=i) (c:=c);omega)
  (fun T base D hT=>r0B hA h.costs hm hT) hs (fun x hx=>by have:=hb x hx;omega) (by omega) h.b0 hm h.n1 hR
theorem l0I {fl:Nat} {R:a0A} {u v:Value} {p:LPt} {q:ScT} {n m:Nat} (h:o0S H u v p q n m) (hf:fl≤H.size) (hR:f0v R) :
  a0P env fl u0f [eV,u,v] H (fun r H'=>h0X q p.C n m r H'∧Ext H H') R:=by
 obtain ⟨K,S,hA,hS,hb,hc,hs⟩:=h.sz
 have hm:=h.m1
 have h1:K + m + 2≤(m + 2) * (K + m + 2):=by
  have:1 * (K + m + 2)≤(m + 2) * (K + m + 2):=Nat.mul_le_mul_right _ (by omega)
  omega
 have h2:1 * (2 * ((m + 2) * (K + m + 2) + 1 + m + S) + 10)≤(n + 1) * (2 * ((m + 2) * (K + m + 2) + 1 + m + S) + 10):=Nat.mul_le_mul_right _ (by omega)
 have hK:K + m < 16777214:=by omega
 exact j0w h.hp h.hv h.qn h.qA h.qC h.pC hS h.qb h.row hf (fun r c=>by have:=hA r c;omega) h.costs (fun i c hi _=>by have:=w0E (n:=n) (m:=m) hA (i:=i) (c:=c);omega)
  (fun T base D hT=>r0B hA h.costs hm hT) hs (fun x hx=>by have:=hb x hx;omega) (by omega) h.b0 hm h.n1 hR
end
/- simplex.quick, Any, Solve. -/
section
open Go SX
set_option maxHeartbeats 4000000
variable {fl:Nat} {H G:a0f} {R:a0A} {v w u:Value}
theorem LPV.shape {p:LPt} (h:LPV H u p):∃ a b c d,u=.agg #[a,b,c,d]:=by
 obtain ⟨_,_,_,rfl,_⟩:=h;exact ⟨_,_,_,_,rfl⟩
theorem SV.shape {q:ScT} (h:SV H v q):∃ s:Array Value,v=.agg s∧s.size=8:=by
 obtain ⟨_,_,_,_,_,rfl,_⟩:=h;exact ⟨_,rfl,rfl⟩
theorem F0z.shape {a:t0L} (h:F0z H v a):∃ s:Array Value,v=.agg s∧s.size=8∧s.toList.all a0u=true:=by
 obtain ⟨s1,s2,sX,sY,sR,rfl,h1,h2,h3,h4,h5⟩:=h
 exact ⟨_,rfl,rfl,by simp [h1.plain,h2.plain,h3.plain,h4.plain,h5.plain]⟩
theorem u0W:env.code l0S=none:=by rfl
theorem u0V {p:LPt} {q:ScT} {n m:Nat} (h:o0S H u v p q n m) (hf:fl≤H.size) :
  a0P env fl l0S [u,v] H (fun r H'=>((∃ ans k,r=.tuple #[ans,.int .i64 k,.bool true]∧h0X q p.C n m (.tuple #[ans,.int .i64 k]) H') ∨ (∃ ans,r=.tuple #[ans,.int .i64 0,.bool false]∧∃ s1 s2 s3 s4 s5 s6 s7 s8,ans=.agg #[s1,s2,s3,s4,s5,s6,s7,s8]∧[s1,s2,s3,s4,s5,s6,s7,s8].all a0u=true))∧Ext H H') R:=by
 obtain ⟨a,b,c,d,rfl⟩:=h.hp.shape
 obtain ⟨s,rfl,hs8⟩:=h.hv.shape
 obtain ⟨N,hN⟩:=m0e (fl:=max fl H.size) (R:=fun w=>w=q0T) h (by omega) rfl
 refine ⟨N + 1,?_⟩
 have e1:b0e env (N + 1) fl l0S [.agg #[a,b,c,d],.agg s] H=d0w [(.int .i64 0),(.bool false),(.slice none 0 0),(.bool false),(.slice none 0 0),(.slice none 0 0),(.slice none 0 0),(.slice none 0 0)] H (b0e env N (max fl H.size) l0U [.agg #[],.agg #[a,b,c,d],.agg s] H):=by
  rw [b0e]
  simp only [u0W]
  rw [show env.know l0S [.agg #[a,b,c,d],.agg s]=none from rfl]
  show (if l0S=l0S then _ else _)=_
  rw [if_pos rfl]
  show (if (4=4∧s.size=8) then _ else _)=_
  rw [if_pos ⟨rfl,hs8⟩]
 rw [e1]
 cases hc:b0e env N (max fl H.size) l0U [.agg #[],.agg #[a,b,c,d],.agg s] H with
 | bad=>rw [show eV=Value.agg #[] from rfl,hc] at hN;exact absurd hN id
 | pan w =>
  rw [show eV=Value.agg #[] from rfl,hc] at hN
  have hw:w=q0T:=hN
  subst hw
  exact ⟨.inr ⟨_,rfl,_,_,_,_,_,_,_,_,rfl,rfl⟩,Ext.refl H⟩
 | ok r =>
  rw [show eV=Value.agg #[] from rfl,hc] at hN
  obtain ⟨hQ,hx⟩:=hN
  obtain ⟨r,H'⟩:=r
  obtain ⟨ans,a',k,rfl,hA,hQ⟩:=hQ
  obtain ⟨t,rfl,ht8,htp⟩:=hA.shape
  have e2:d0w [(.int .i64 0),(.bool false),(.slice none 0 0),(.bool false),(.slice none 0 0),(.slice none 0 0),(.slice none 0 0),(.slice none 0 0)] H (.ok (.tuple #[.agg t,.int .i64 k],H'))=.ok (.tuple #[.agg t,.int .i64 k,.bool true],H'):=by
   show (if t.size=8∧t.toList.all a0u=true then _ else _)=_
   rw [if_pos ⟨ht8,htp⟩]
  rw [e2]
  exact ⟨.inl ⟨_,k,rfl,_,a',k,rfl,hA,hQ⟩,hx⟩
end
/- simplex.Any, Solve: of a problem without costs. -/
section
open Go SX
set_option maxHeartbeats 4000000
variable {fl:Nat} {H G:a0f} {R:a0A} {v w u:Value}
structure q0X (p:LPt) (n m S:Nat):Prop where
 pn:p.n=n
 pA:p.A.length=m
 pB:p.B.length=m
 pC:p.C.length=n
 row:∀ r ∈ p.A,Few S r∧r.length=n
 fB:Few S p.B
 fC:Few S p.C
 costs:∀ x ∈ p.C,b0O x=0
 S1:1≤S
 m1:m < 1048576
 n1:n < 1048576
 sz:(n + 1) * (2 * ((m + 2) * ((n + 3) * (S + 1) + m + 2) + 1 + m + S) + 10) < 16777216
structure t0S (p:LPt) (q:ScT) (n m K:Nat):Prop where
 qn:q.n=p.n
 qA:q.A.length=p.A.length
 qb:q.bs.length=p.A.length
 rows:∀ k,k < p.A.length→Whole (i0v p k) (q.A.getD k []) (q.bs.getD k 0) K
 cost:Whole (p.C.map b0O) q.C q.cb K
theorem o0A {p:LPt} {n m S k:Nat} (h:q0X p n m S) (hk:k < p.A.length):(i0v p k).length=n + 1:=by
 unfold i0v
 rw [List.getD_eq_getElem?_getD,List.getElem?_eq_getElem hk]
 simp [(h.row _ (List.getElem_mem hk)).2]
theorem b0Q {α:Type} {l:List α} {d:α} {k:Nat} (h:k < l.length):l.getD k d=l[k]:=by
 rw [List.getD_eq_getElem?_getD,List.getElem?_eq_getElem h];rfl
theorem q0X.sol {p:LPt} {q:ScT} {n m S:Nat} (h:q0X p n m S) (hq:t0S p q n m ((n + 3) * (S + 1))) (hp:LPV H u p) (hv:SV H v q):o0S H u v p q n m where
 hp:=hp
 hv:=hv
 qn:=by rw [hq.qn,h.pn]
 qA:=by rw [hq.qA,h.pA]
 qC:=by rw [hq.cost.len,List.length_map,h.pC]
 pC:=h.pC
 qb:=by rw [hq.qb,h.pA]
 row:=fun r hr=>by
  obtain ⟨k,hk,rfl⟩:=List.mem_iff_getElem.1 hr
  have hk2:k < p.A.length:=by rw [← hq.qA];exact hk
  have:=(hq.rows k hk2).len
  rw [b0Q hk,o0A h hk2] at this
  exact this
 costs:=fun c=>by
  unfold ccq
  by_cases hc:c < q.C.length
  ·have hl:=hq.cost.len
   rw [b0Q hc]
   have hc2:c < (p.C.map b0O).length:=by rw [← hl];exact hc
   have he:=hq.cost.eq c hc2
   rw [List.getElem_map,h.costs _ (List.getElem_mem _),Rat.zero_mul] at he
   exact Rat.intCast_inj.1 he
  ·rw [List.getD_eq_getElem?_getD,List.getElem?_eq_none (by omega)];rfl
 b0:=fun h0=>by have:=hq.cost.pos;rw [h0] at this;exact absurd this (Rat.lt_irrefl)
 m1:=h.m1
 n1:=h.n1
 sz:=by
  refine ⟨(n + 3) * (S + 1),S,fun r c=>?_,h.fC,fun x hx=>?_,hq.cost.szb,h.sz⟩
  ·unfold Tf
   by_cases hr:r < q.A.length
   ·have hW:=(hq.rows r (by rw [← hq.qA];exact hr)).szz
    by_cases hc:c < (q.A.getD r []).length
    ·rw [b0Q hc];exact hW _ (List.getElem_mem _)
    ·rw [List.getD_eq_getElem?_getD (l:=q.A.getD r []),List.getElem?_eq_none (by omega)];show lz 0≤_;rw [c0L];omega
   ·have:q.A.getD r []=[]:=by rw [List.getD_eq_getElem?_getD,List.getElem?_eq_none (by omega)];rfl
    rw [this];show lz 0≤_;rw [c0L];omega
  ·obtain ⟨k,hk,rfl⟩:=List.mem_iff_getElem.1 hx
   have:=(hq.rows k (by rw [← hq.qb];exact hk)).szb
   rw [b0Q hk] at this
   exact this
theorem F0z.setS {a:t0L} {G':a0f} {b:Nat} {X:Blk} {ro:Bool} {e:TypeId} {cs:List Value} (h:F0z G v a) (hS:Array.setIfInBounds G b X=G') (hb:a0f.blk G b=.row ro e cs) (h1:e ≠ a0m) (h2:e ≠ a0d):F0z G' v a:=by
 have hl1:LxT a0d G G':=a0V hS hb h2
 have hl2:Lx G G':=fun b ro cs h=>a0V (e:=a0m) hS hb h1 b ro cs h
 obtain ⟨s1,s2,sX,sY,sR,e1,k1,k2,k3,k4,k5⟩:=h
 exact ⟨s1,s2,sX,sY,sR,e1,k1.setS hS hb h1,k2.setS hS hb h1,b0l.lx2 k3 hl1 hl2,b0l.lx2 k4 hl1 hl2,b0l.lx2 k5 hl1 hl2⟩
def W0h (p:LPt) (n m S:Nat) (r:Value) (H':a0f):Prop:=∃ q,t0S p q n m ((n + 3) * (S + 1))∧h0X q p.C n m r H'
theorem j0a {p:LPt} {n m S:Nat} (h:q0X p n m S) (hp:LPV H v p) (hf:fl≤H.size) :
  a0P env fl Q0R [v] H (fun r H'=>W0h p n m S r H'∧Ext H H') R:=by
 have hp0:=hp
 obtain ⟨sA0,sB0,sC0,rfl,kA,kB,kC⟩:=hp
 refine a0l W0Z hf (h:=?_)
 intro ρ h0
 simp [T0o,L0s,h0,kA.cells,kB.cells,kC.cells]
 generalize hG:Array.push (Array.push H _) _=G
 obtain ⟨hx,b0,b1⟩:=push2 hG
 clear hG
 simp [L0t,b0]
 have hS:=h.S1
 have hK:(n + 3) * (S + 1) < 67108864:=by
  have h1:=h.sz
  have h2:1 * (2 * ((m + 2) * ((n + 3) * (S + 1) + m + 2) + 1 + m + S) + 10)≤(n + 1) * (2 * ((m + 2) * ((n + 3) * (S + 1) + m + 2) + 1 + m + S) + 10):=Nat.mul_le_mul_right _ (by omega)
  have h3:1 * ((n + 3) * (S + 1) + m + 2)≤(m + 2) * ((n + 3) * (S + 1) + m + 2):=Nat.mul_le_mul_right _ (by omega)
  omega
 refine (h0N (S:=S) (N:=n) (hp0.mono hx) hx.1 (fun r hr=>⟨(h.row r hr).1,by rw [(h.row r hr).2];exact Nat.le_refl _⟩) h.fB (by rw [h.pA,h.pB]) h.fC (by rw [h.pC];exact Nat.le_refl _) (by rw [h.pA];have:=h.m1;omega) hS rfl hK).mono ?_
 rintro wq G2 ⟨⟨q,hv,q1,q2,q3,q4,q5⟩,hx2⟩
 have hq:t0S p q n m ((n + 3) * (S + 1)):=⟨q1,q2,q3,q4,q5⟩
 clear q1 q2 q3 q4 q5
 replace b0:=hx2.blk b0
 replace b1:=hx2.blk b1
 replace hx:=hx.trans hx2
 clear hx2
 have hsz:=hx.1
 have hv0:=hv
 obtain ⟨sA,sBy,sC,s1,s2,rfl,qA,qB,qC,k1,k2⟩:=hv
 have c1:=k1.cells;have c2:=k2.cells
 simp [hsz,qA.cells,qA.plain,qB.cells,qB.plain,qC.cells,qC.plain,c1,c2,k1.plain,k2.plain]
 generalize hN:Array.setIfInBounds (Array.push _ _) _ _=G3
 obtain ⟨hx2,b2⟩:=new1 hN
 clear hN
 replace b0:=hx2.blk b0
 replace b1:=hx2.blk b1
 replace hv0:=hv0.mono hx2
 replace hx:=hx.trans hx2
 clear hx2
 obtain ⟨P2,hP2⟩:∃ x,x=G2.size:=⟨_,rfl⟩
 rw [← hP2] at b2 hsz ⊢
 simp [L0u,b0,b2]
 refine (u0V (h.sol hq (hp0.mono hx) hv0) hx.1).mono ?_
 rintro r G4 ⟨hr,hx2⟩
 replace b0:=hx2.blk b0
 replace b1:=hx2.blk b1
 replace b2:=hx2.blk b2
 replace hv0:=hv0.mono hx2
 replace hx:=hx.trans hx2
 clear hx2
 have hsz2:=hx.1
 rcases hr with ⟨ans,k,rfl,hQ⟩ | ⟨ans,rfl,s1',s2',s3',s4',s5',s6',s7',s8',rfl,hpl⟩
 ·obtain ⟨ans',a,k',he,hA,hQ⟩:=hQ
  obtain ⟨rfl,rfl⟩:ans=ans'∧k=k':=by simpa using he
  clear he
  have hA0:=hA
  obtain ⟨z1,z2,z3,z4,z5,rfl,l1,l2,l3,l4,l5⟩:=hA
  have d1:=l1.cells;have d2:=l2.cells
  simp [hsz2,d1,d2,l1.plain,l2.plain,l3.cells,l3.plain,l4.cells,l4.plain,l5.cells,l5.plain]
  generalize hN:Array.setIfInBounds (Array.push _ _) _ _=G5
  obtain ⟨hx2,b3⟩:=new1 hN
  clear hN
  replace b0:=hx2.blk b0
  replace b1:=hx2.blk b1
  replace b2:=hx2.blk b2
  replace hA0:=hA0.mono hx2
  replace hx:=hx.trans hx2
  clear hx2
  obtain ⟨P4,hP4⟩:∃ x,x=G4.size:=⟨_,rfl⟩
  rw [← hP4] at b3 ⊢
  simp [E0L,L0v,b3,b1,d1,d2,l1.plain,l2.plain,l3.cells,l3.plain,l4.cells,l4.plain,l5.cells,l5.plain]
  generalize hS':Array.setIfInBounds G5 _ _=G6
  rw [a0C hS' b1]
  simp
  exact fun _=>⟨q,hq,_,a,k,rfl,hA0.setS hS' b1 (by decide) (by decide),hQ⟩
 ·simp at hpl
  obtain ⟨p1,p2,p3,p4,p5,p6,p7,p8⟩:=hpl
  simp [hsz2,p1,p2,p3,p4,p5,p6,p7,p8]
  generalize hN:Array.setIfInBounds (Array.push _ _) _ _=G5
  obtain ⟨hx2,b3⟩:=new1 hN
  clear hN
  replace b0:=hx2.blk b0
  replace b1:=hx2.blk b1
  replace b2:=hx2.blk b2
  replace hv0:=hv0.mono hx2
  replace hx:=hx.trans hx2
  clear hx2
  simp [E0L,L0w,b0,b2]
  refine a0P.mono (l0I (h.sol hq (hp0.mono hx) hv0) hx.1 trivial) ?_
  rintro r G6 ⟨⟨ans,a,k,rfl,hA,hQ⟩,hx2⟩
  replace b1:=hx2.blk b1
  replace hx:=hx.trans hx2
  clear hx2
  have hsz3:=hx.1
  have hA0:=hA
  obtain ⟨z1,z2,z3,z4,z5,rfl,l1,l2,l3,l4,l5⟩:=hA
  have d1:=l1.cells;have d2:=l2.cells
  simp [b1,hsz3,d1,d2,l1.plain,l2.plain,l3.cells,l3.plain,l4.cells,l4.plain,l5.cells,l5.plain]
  generalize hS':Array.setIfInBounds G6 _ _=G7
  rw [a0C hS' b1]
  simp
  exact fun _=>⟨q,hq,_,a,k,rfl,hA0.setS hS' b1 (by decide) (by decide),hQ⟩
theorem h0M {p:LPt} {n m S:Nat} (h:q0X p n m S) (hp:LPV H v p) (hf:fl≤H.size) (hr:k0m p=true) :
  a0P env fl Q0K [v] H (fun r H'=>(∃ ans k,r=.tuple #[ans,.int .i64 k,.int .i64 0]∧W0h p n m S (.tuple #[ans,.int .i64 k]) H')∧Ext H H') R:=by
 have hp0:=hp
 obtain ⟨sA0,sB0,sC0,rfl,kA,kB,kC⟩:=hp
 refine a0l W0N hf (h:=?_)
 intro ρ h0
 simp [T0c,K0q,h0,kA.cells,kB.cells,kC.cells]
 generalize hG:Array.push (Array.push H _) _=G
 obtain ⟨hx,b0,b1⟩:=push2 hG
 clear hG
 simp [K0r,b0]
 refine (m0i (hp0.mono hx) hx.1).mono ?_
 rintro _ G2 ⟨rfl,hx2⟩
 replace b0:=hx2.blk b0
 replace b1:=hx2.blk b1
 replace hx:=hx.trans hx2
 clear hx2
 simp [hr]
 simp [K0s,b0]
 refine (j0a h (hp0.mono hx) hx.1).mono ?_
 rintro r G4 ⟨⟨q,hq,ans,a,k,rfl,hA,hQ⟩,hx2⟩
 replace b1:=hx2.blk b1
 replace hx:=hx.trans hx2
 clear hx2
 have hsz2:=hx.1
 have hA0:=hA
 obtain ⟨z1,z2,z3,z4,z5,rfl,l1,l2,l3,l4,l5⟩:=hA
 have d1:=l1.cells;have d2:=l2.cells
 simp [hsz2,d1,d2,l1.plain,l2.plain,l3.cells,l3.plain,l4.cells,l4.plain,l5.cells,l5.plain]
 generalize hN:Array.setIfInBounds (Array.push _ _) _ _=G5
 obtain ⟨hx2,b3⟩:=new1 hN
 clear hN
 replace b1:=hx2.blk b1
 replace hA0:=hA0.mono hx2
 replace hx:=hx.trans hx2
 clear hx2
 obtain ⟨P4,hP4⟩:∃ x,x=G4.size:=⟨_,rfl⟩
 rw [← hP4] at b3 ⊢
 simp [K0t,b3,b1,d1,d2,l1.plain,l2.plain,l3.cells,l3.plain,l4.cells,l4.plain,l5.cells,l5.plain]
 generalize hS':Array.setIfInBounds G5 _ _=G6
 rw [a0C hS' b1]
 simp
 exact fun _=>⟨_,k,⟨rfl,rfl⟩,q,hq,_,a,k,rfl,hA0.setS hS' b1 (by decide) (by decide),hQ⟩
end
/- What an answer of the simplex proves, in quotients. -/
section
open Go SX
set_option maxHeartbeats 1000000
def rs (f:Nat→Rat):Nat→Rat
 | 0=>0
 | n + 1=>rs f n + f n
theorem c0W {f g:Nat→Rat}:∀ {n:Nat},(∀ i,i < n→f i=g i)→rs f n=rs g n
 | 0,_=>rfl
 | n + 1,h=>by rw [rs,rs,c0W (fun i hi=>h i (by omega)),h n (by omega)]
theorem k0p {f:Nat→Rat} {c:Rat}:∀ {n:Nat},rs (fun i=>f i * c) n=rs f n * c
 | 0=>by rw [rs,rs,Rat.zero_mul]
 | n + 1=>by rw [rs,rs,k0p,Rat.add_mul]
theorem k0o {f:Nat→Int}:∀ {n:Nat},rs (fun i=>(f i:Rat)) n=((sm f n:Int):Rat)
 | 0=>rfl
 | n + 1=>by rw [rs,sm,k0o,Rat.intCast_add]
theorem p0f {a b:List b0R}:∀ {n:Nat},e0n a b n=rs (fun i=>b0O (a.getD i e0B) * b0O (b.getD i e0B)) n
 | 0=>rfl
 | n + 1=>by rw [e0n,rs,p0f]
def pA (p:LPt) (r k:Nat):Rat:=b0O ((p.A.getD r []).getD k e0B)
def pB (p:LPt) (r:Nat):Rat:=b0O (p.B.getD r e0B)
def pC (p:LPt) (k:Nat):Rat:=b0O (p.C.getD k e0B)
structure v0n (p:LPt) (n m:Nat) (a:t0L):Prop where
 kind:a.kind=2
 V:a.V=0
 X:a.X=[]
 Ray:a.Ray=[]
 Yl:a.Y.length=m
 Y0:∀ i,i < m→0≤a.Y.getD i 0
 YA:∀ k,k < n→rs (fun i=>a.Y.getD i 0 * pA p i k) m=0
 YB:rs (fun i=>a.Y.getD i 0 * pB p i) m < 0
structure M0G (p:LPt) (n m:Nat) (a:t0L):Prop where
 kind:a.kind=1
 Ray:a.Ray=[]
 Xl:a.X.length=n
 Yl:a.Y.length=m
 AX:∀ r,r < m→rs (fun k=>pA p r k * a.X.getD k 0) n≤pB p r
 Y0:∀ i,i < m→0≤a.Y.getD i 0
 YA:∀ k,k < n→rs (fun i=>a.Y.getD i 0 * pA p i k) m=pC p k
 V:a.V=rs (fun k=>pC p k * a.X.getD k 0) n
 YB:rs (fun i=>a.Y.getD i 0 * pB p i) m=a.V
theorem e0U {f:Nat→Rat} {n k:Nat} (h:k < n):((List.range n).map f).getD k 0=f k:=by
 rw [List.getD_eq_getElem?_getD];simp [h]
section
variable {p:LPt} {q:ScT} {n m S K:Nat}
theorem Whole.row_eq (h:q0X p n m S) (hq:t0S p q n m K) {r:Nat} (hr:r < m):0 < q.bs.getD r 0∧(∀ k,k < n→((Tf q.A r k:Int):Rat)=pA p r k * q.bs.getD r 0)∧((bbq q n r:Int):Rat)=pB p r * q.bs.getD r 0:=by
 have hr':r < p.A.length:=by rw [h.pA];exact hr
 have hW:=hq.rows r hr'
 have hl:=o0A h hr'
 have hrl:=(h.row _ (List.getElem_mem hr')).2
 refine ⟨hW.pos,fun k hk=>?_,?_⟩
 ·have e:=hW.eq k (by omega)
  have e1:(q.A.getD r [])[k]'(by rw [hW.len];omega)=Tf q.A r k:=by
   unfold Tf;rw [b0Q (l:=q.A.getD r []) (by rw [hW.len];omega)]
  rw [e1] at e
  rw [e]
  congr 1
  unfold pA i0v
  rw [List.getElem_append_left (by rw [List.length_map,b0Q hr'];omega),List.getElem_map,b0Q (l:=p.A.getD r []) (by rw [b0Q hr'];omega)]
 ·have e:=hW.eq n (by omega)
  have e1:(q.A.getD r [])[n]'(by rw [hW.len];omega)=bbq q n r:=by
   unfold bbq Tf;rw [b0Q (l:=q.A.getD r []) (by rw [hW.len];omega)]
  rw [e1] at e
  rw [e]
  congr 1
  unfold pB i0v
  rw [List.getElem_append_right (by rw [List.length_map,b0Q hr'];omega)]
  simp
theorem Whole.cost_eq (h:q0X p n m S) (hq:t0S p q n m K):0 < q.cb∧∀ k,k < n→((ccq q k:Int):Rat)=pC p k * q.cb:=by
 refine ⟨hq.cost.pos,fun k hk=>?_⟩
 have hk':k < (p.C.map b0O).length:=by rw [List.length_map,h.pC];exact hk
 have e:=hq.cost.eq k hk'
 have e1:q.C[k]'(by rw [hq.cost.len];exact hk')=ccq q k:=by unfold ccq;rw [b0Q]
 rw [e1] at e
 rw [e,List.getElem_map]
 unfold pC
 rw [b0Q (by rw [h.pC];exact hk)]
end
section
variable {p:LPt} {q:ScT} {n m S K:Nat} {a:t0L} {T:Nat→Nat→Int} {base:Nat→Nat} {D:Int}
theorem inv_pos {c:Rat} (h:0 < c):0 < c⁻¹:=Rat.inv_pos.2 h
theorem r0p {D:Int} (h:0 < D):(0:Rat) < (D:Rat):=Rat.intCast_pos.2 h
theorem j0A {D:Int} (h:0≤D):(0:Rat)≤(D:Rat):=Rat.intCast_nonneg.2 h
theorem l0Q {t D:Int} {b c:Rat}:Rat.divInt t D * b / c=(t:Rat) * b * ((D:Rat)⁻¹ * c⁻¹):=by
 rw [Rat.divInt_eq_div,Rat.div_def,Rat.div_def]
 grind
theorem n0D (h:q0X p n m S) (hq:t0S p q n m K) {t:Nat→Int} {c:Rat} (Y:Nat→Rat) (hY:∀ i,i < m→Y i=Rat.divInt (t i) D * q.bs.getD i 0 / c) :
  (∀ k,k < n→rs (fun i=>Y i * pA p i k) m=((sm (fun i=>t i * Tf q.A i k) m:Int):Rat) * ((D:Rat)⁻¹ * c⁻¹))∧rs (fun i=>Y i * pB p i) m=((sm (fun i=>t i * bbq q n i) m:Int):Rat) * ((D:Rat)⁻¹ * c⁻¹):=by
 refine ⟨fun k hk=>?_,?_⟩
 ·rw [← k0o,← k0p]
  refine c0W fun i hi=>?_
  obtain ⟨_,h2,_⟩:=Whole.row_eq h hq hi
  rw [hY i hi,l0Q,Rat.intCast_mul,h2 k hk]
  grind
 ·rw [← k0o,← k0p]
  refine c0W fun i hi=>?_
  obtain ⟨_,_,h3⟩:=Whole.row_eq h hq hi
  rw [hY i hi,l0Q,Rat.intCast_mul,h3]
  grind
theorem S0o.cert (h:q0X p n m S) (hq:t0S p q n m K) (hs:S0o q n m a):v0n p n m a:=by
 obtain ⟨T,base,D,hT,h1,h2,h3,h4,h5,h6,h7⟩:=hs
 have hD:=hT.pos
 obtain ⟨i1,i2,i3⟩:=u0B hT h5
 have hY:∀ i,i < m→a.Y.getD i 0=Rat.divInt (T m (2 * n + i)) D * q.bs.getD i 0 / 1:=fun i hi=>by rw [h7,e0U hi]
 obtain ⟨s1,s2⟩:=n0D h hq _ hY
 have hc:(0:Rat) < (D:Rat)⁻¹ * (1:Rat)⁻¹:=Rat.mul_pos (inv_pos (r0p hD)) (inv_pos (by decide))
 refine ⟨h1,h2,h3,h4,by rw [h7];simp,fun i hi=>?_,fun k hk=>?_,?_⟩
 ·rw [hY i hi,l0Q]
  exact Rat.mul_nonneg (Rat.mul_nonneg (j0A (i1 i hi)) (Rat.le_of_lt (Whole.row_eq h hq hi).1)) (Rat.le_of_lt hc)
 ·rw [s1 k hk,i2 k hk];simp
 ·rw [s2,i3]
  have h8:((T m (2 * n + m):Int):Rat) < 0:=by
   have:=Rat.intCast_lt_intCast.2 h6;simpa using this
  have h9:=Rat.mul_pos (a:=-((T m (2 * n + m):Int):Rat)) (by grind) hc
  grind
theorem S0n.cert (h:q0X p n m S) (hq:t0S p q n m K) (hs:S0n q p.C n m a):M0G p n m a:=by
 obtain ⟨T,base,D,hT,h1,h2,h3,h4,h5,h6,h7⟩:=hs
 have hD:=hT.pos
 obtain ⟨i1,i2,i3⟩:=SX.duals hT h4
 obtain ⟨j1,j2⟩:=R0o hT h3
 obtain ⟨hcb,hcc⟩:=Whole.cost_eq h hq
 have hY:∀ i,i < m→a.Y.getD i 0=Rat.divInt (T (m + 1) (2 * n + i)) D * q.bs.getD i 0 / q.cb:=fun i hi=>by rw [h6,e0U hi]
 have hX:∀ k,k < n→a.X.getD k 0=((ptq n base (fun i=>T i (2 * n + m)) m k:Int):Rat) * (D:Rat)⁻¹:=fun k hk=>by rw [h5,e0U hk,Rat.divInt_eq_div,Rat.div_def]
 obtain ⟨s1,s2⟩:=n0D h hq _ hY
 have hDr:=r0p hD
 have hDi:=inv_pos hDr
 have hci:=inv_pos hcb
 have hc:(0:Rat) < (D:Rat)⁻¹ * q.cb⁻¹:=Rat.mul_pos hDi hci
 have hDD:(D:Rat) * (D:Rat)⁻¹=1:=Rat.mul_inv_cancel _ (by grind)
 have hcc1:q.cb * q.cb⁻¹=1:=Rat.mul_inv_cancel _ (by grind)
 have hV:a.V=rs (fun k=>pC p k * a.X.getD k 0) n:=by
  rw [h7,p0f]
  refine c0W fun k hk=>?_
  unfold pC
  congr 1
  rw [b0Q (by rw [List.length_map,h5];simpa using hk),List.getElem_map,a0w,b0Q (by rw [h5];simpa using hk)]
 have hVs:rs (fun k=>pC p k * a.X.getD k 0) n=((T (m + 1) (2 * n + m):Int):Rat) * ((D:Rat)⁻¹ * q.cb⁻¹):=by
  rw [← j2,← k0o,← k0p]
  refine c0W fun k hk=>?_
  rw [hX k hk,Rat.intCast_mul,hcc k hk]
  show _=pC p k * q.cb * ((ptq n base (fun i=>T i (2 * n + m)) m k:Int):Rat) * ((D:Rat)⁻¹ * q.cb⁻¹)
  grind
 refine ⟨h1,h2,by rw [h5];simp,by rw [h6];simp,fun r hr=>?_,fun i hi=>?_,fun k hk=>?_,hV,?_⟩
 ·obtain ⟨r1,r2,r3⟩:=Whole.row_eq h hq hr
  have e1:rs (fun k=>pA p r k * a.X.getD k 0) n * (q.bs.getD r 0 * (D:Rat))=((sm (fun k=>Tf q.A r k * pt n m base (fun i=>T i (2 * n + m)) k) n:Int):Rat):=by
   rw [← k0o,← k0p]
   refine c0W fun k hk=>?_
   rw [hX k hk,Rat.intCast_mul,r2 k hk]
   show _=pA p r k * q.bs.getD r 0 * ((ptq n base (fun i=>T i (2 * n + m)) m k:Int):Rat)
   grind
  have e2:pB p r * (q.bs.getD r 0 * (D:Rat))=((D * bbq q n r:Int):Rat):=by
   rw [Rat.intCast_mul,r3];grind
  have e3:=Rat.intCast_le_intCast.2 (j1 r hr)
  rw [← e1,← e2] at e3
  exact Rat.le_of_mul_le_mul_right e3 (Rat.mul_pos r1 hDr)
 ·rw [hY i hi,l0Q]
  exact Rat.mul_nonneg (Rat.mul_nonneg (j0A (i1 i hi)) (Rat.le_of_lt (Whole.row_eq h hq hi).1)) (Rat.le_of_lt hc)
 ·rw [s1 k hk,i2 k hk,Rat.intCast_mul,hcc k hk]
  grind
 ·rw [s2,i3,hV,hVs]
end
end
/- dom.Empty: what it answers proves itself. -/
section
open Go SX
set_option maxHeartbeats 4000000
variable {fl:Nat} {H G:a0f} {R:a0A} {v w u:Value}
theorem f0u.mono {rows:List (List b0R)} (h:f0u H v rows) (hx:Ext H G):f0u G v rows:=by
 obtain ⟨s,h1,h2⟩:=h;exact ⟨s,h1,h2.mono c0G hx⟩
theorem G0c {S:Nat} {r:List b0R} (h:Few S r) (hS:1≤S):Few S (i0T r):=by
 intro x hx
 obtain ⟨y,hy,rfl⟩:=List.mem_map.1 hx
 obtain ⟨h1,h2,h3⟩:=h y hy
 have:=b0U h2 h3
 exact ⟨by rw [a0x];omega,b0I _,b0I _⟩
theorem i0r:∀ {rows:List (List b0R)} {d:List e0f},(d0B rows d).length=(c0e rows d).length
 | [],d=>by simp [c0e,d0B]
 | _ :: _,[]=>by simp [c0e,d0B]
 | r :: rs,e :: es=>by simp only [c0e,d0B];split <;> simp [i0r]
def i0Y (rows:List (List b0R)) (n:Int) (d:List e0f):LPt:=⟨n,c0e rows d,d0B rows d,List.replicate n.toNat (a0e 0)⟩
theorem N0D {rows:List (List b0R)} {n:Int} {d:List e0f} (hv:e0x rows n d=true) (hr:∀ r ∈ rows,Few 6 r) (hd:∀ e ∈ d,f0z e.2≤6∧b0D e.2.1.2∧b0D e.2.2.2) :
  q0X (i0Y rows n d) n.toNat (c0e rows d).length 6∧k0m (i0Y rows n d)=true∧n.toNat≤6∧(c0e rows d).length≤40:=by
 unfold e0x k0n at hv
 simp at hv
 obtain ⟨⟨⟨⟨⟨hn0,hn6⟩,hl⟩,hrow⟩,hdl⟩,_⟩:=hv
 have hml:(c0e rows d).length≤40:=by have:=k0f rows d;omega
 have hnn:((n.toNat:Nat):Int)=n:=by omega
 have hlen:∀ r ∈ c0e rows d,r.length=n.toNat:=fun r hr'=>by
  obtain ⟨q,h1,rfl⟩:=h0F hr'
  have h2:=List.all_eq_true.1 hrow _ h1
  unfold o0B at h2
  simp at h2
  unfold i0T
  rw [List.length_map];omega
 obtain ⟨k,hk⟩:∃ k,k=n.toNat:=⟨_,rfl⟩
 obtain ⟨m,hm⟩:∃ m,m=(c0e rows d).length:=⟨_,rfl⟩
 refine ⟨⟨hnn.symm,rfl,i0r,by simp [i0Y],fun r hr'=>⟨?_,hlen r hr'⟩,?_,?_,?_,by decide,by omega,by omega,?_⟩,?_,by omega,hml⟩
 ·obtain ⟨q,h1,rfl⟩:=h0F hr'
  exact G0c (hr q h1) (by decide)
 ·intro x hx
  obtain ⟨e,h1,rfl⟩:=k0g hx
  obtain ⟨h2,h3,h4⟩:=hd e h1
  have:=b0U h3 h4
  exact ⟨by rw [a0x];omega,b0I _,b0I _⟩
 ·intro x hx
  have:=(List.mem_replicate.1 hx).2
  subst this
  exact ⟨by rw [a0x,g0u];decide,b0I _,b0I _⟩
 ·intro x hx
  rw [(List.mem_replicate.1 hx).2,a0w]
 ·rw [← hk,← hm]
  have h1:(m + 2) * ((k + 3) * (6 + 1) + m + 2)≤42 * 105:=Nat.mul_le_mul (by omega) (by omega)
  have h2:(k + 1) * (2 * ((m + 2) * ((k + 3) * (6 + 1) + m + 2) + 1 + m + 6) + 10)≤7 * (2 * (42 * 105 + 1 + 40 + 6) + 10):=Nat.mul_le_mul (by omega) (by omega)
  omega
 ·unfold k0m i0Y
  have h1:j0g (fun r=>!decide ((r.length:Int)=n)) (c0e rows d)=false:=by
   cases ha:j0g (fun r=>!decide ((r.length:Int)=n)) (c0e rows d) with
   | false=>rfl
   | true =>
    obtain ⟨r,h1,h2⟩:=List.any_eq_true.1 ha
    have:=hlen r h1
    simp at h2;omega
  simp only [h1,i0r]
  simp
  omega
def I0X (a:t0L) (W:Nat):Prop:=(∀ x ∈ a.X,szR x≤W)∧∀ y ∈ a.Y,szR y≤W
theorem t0S.szA {p:LPt} {q:ScT} {n m S K:Nat} (h:q0X p n m S) (hq:t0S p q n m K) (r c:Nat):lz (Tf q.A r c)≤K:=by
 unfold Tf
 by_cases hr:r < q.A.length
 ·have hW:=(hq.rows r (by rw [← hq.qA];exact hr)).szz
  by_cases hc:c < (q.A.getD r []).length
  ·rw [b0Q hc];exact hW _ (List.getElem_mem _)
  ·rw [List.getD_eq_getElem?_getD (l:=q.A.getD r []),List.getElem?_eq_none (by omega)];show lz 0≤_;rw [c0L];omega
 ·have:q.A.getD r []=[]:=by rw [List.getD_eq_getElem?_getD,List.getElem?_eq_none (by omega)];rfl
  rw [this];show lz 0≤_;rw [c0L];omega
theorem t0S.costs {p:LPt} {q:ScT} {n m S K:Nat} (h:q0X p n m S) (hq:t0S p q n m K) (c:Nat):ccq q c=0:=by
 unfold ccq
 by_cases hc:c < q.C.length
 ·have hl:=hq.cost.len
  rw [b0Q hc]
  have hc2:c < (p.C.map b0O).length:=by rw [← hl];exact hc
  have he:=hq.cost.eq c hc2
  rw [List.getElem_map,h.costs _ (List.getElem_mem _),Rat.zero_mul] at he
  exact Rat.intCast_inj.1 he
 ·rw [List.getD_eq_getElem?_getD,List.getElem?_eq_none (by omega)];rfl
theorem t0G {t D:Int} {b c:Rat} {Z K:Nat} (h1:lz t≤Z) (h2:lz D≤Z) (h3:szR b≤K) (h4:szR c≤K):szR (Rat.divInt t D * b / c)≤Z + 1 + K + K:=by
 have a1:=b0k t D
 have a2:=h0b (Rat.divInt t D) b
 have a3:=P0a (Rat.divInt t D * b) c
 omega
theorem S0e {p:LPt} {q:ScT} {n m S K:Nat} {a:t0L} (h:q0X p n m S) (hq:t0S p q n m K) (hK:1≤K) (hs:S0o q n m a ∨ S0n q p.C n m a):I0X a ((m + 2) * (K + m + 2) + 1 + m + 1 + K + K):=by
 have hb:∀ i,i < m→szR (q.bs.getD i 0)≤K:=fun i hi=>(hq.rows i (by rw [h.pA];exact hi)).szb
 rcases hs with ⟨T,base,D,hT,h1,h2,h3,h4,h5,h6,h7⟩ | ⟨T,base,D,hT,h1,h2,h3,h4,h5,h6,h7⟩
 ·obtain ⟨z1,z2⟩:=r0B (hq.szA h) (hq.costs h) h.m1 hT
  refine ⟨fun x hx=>by rw [h3] at hx;simp at hx,fun y hy=>?_⟩
  rw [h7] at hy
  obtain ⟨i,hi,rfl⟩:=List.mem_map.1 hy
  have hi:=List.mem_range.1 hi
  have:=t0G (z1 m (2 * n + i) (by omega) (by omega)) z2 (hb i hi) (show szR 1≤K by rw [q0Q];exact hK)
  omega
 ·obtain ⟨z1,z2⟩:=r0B (hq.szA h) (hq.costs h) h.m1 hT
  refine ⟨fun x hx=>?_,fun y hy=>?_⟩
  ·rw [h5] at hx
   obtain ⟨k,_,rfl⟩:=List.mem_map.1 hx
   have e1:=b0k (ptq n base (fun i=>T i (2 * n + m)) m k) D
   have e2:=i0J (n:=n) (base:=base) (F:=fun i=>T i (2 * n + m)) (k:=k) (q:=m) (fun i hi=>z1 i (2 * n + m) (by omega) (Nat.le_refl _))
   omega
  ·rw [h6] at hy
   obtain ⟨i,hi,rfl⟩:=List.mem_map.1 hy
   have hi:=List.mem_range.1 hi
   have:=t0G (z1 (m + 1) (2 * n + i) (by omega) (by omega)) z2 (hb i hi) hq.cost.szb
   omega
def W0t:Value:=.agg #[.int .i64 0,.bool false,.slice none 0 0,.bool false,.slice none 0 0,.slice none 0 0,.slice none 0 0,.slice none 0 0]
def k0T (rows:List (List b0R)) (n:Int) (d:List e0f) (r:Value) (H':a0f):Prop :=
 if e0x rows n d=false then r=.tuple #[.bool false,W0t,.int .i64 1]
 else if j0g (fun e=>decide (e.1 < 0)) d=true then r=.tuple #[.bool true,W0t,.int .i64 0]
 else ∃ ans a,r=.tuple #[.bool (decide (a.kind=2)),ans,.int .i64 0]∧F0z H' ans a∧(v0n (i0Y rows n d) n.toNat (c0e rows d).length a ∨ M0G (i0Y rows n d) n.toNat (c0e rows d).length a)∧I0X a 6000
theorem g0C {rows:List (List b0R)} {n:Int} {d:List e0f} (h:f0u H v rows) (hd:h0W H w d) (hf:fl≤H.size) (hr:∀ r ∈ rows,Few 6 r∧r.length < 1073741824) (hrl:rows.length < 1073741824) (hfd:∀ e ∈ d,f0z e.2≤6∧b0D e.2.1.2∧b0D e.2.2.2) (hdl:d.length < 1073741824) :
  a0P env fl P0p [v,.int .i64 n,w] H (fun r H'=>k0T rows n d r H'∧Ext H H') R:=by
 have hp0:=h
 have hfe:M0I d:=fun x hx=>by have:=(hfd x hx).1;omega
 obtain ⟨s,rfl,hs⟩:=h
 refine a0l W0C hf (h:=?_)
 intro ρ h0
 simp [S0R,J0v,h0,hs.cells]
 generalize hG:Array.push (Array.push H _) _=G
 obtain ⟨hx,b0,b1⟩:=push2 hG
 clear hG
 simp [J0w,b0,h0]
 refine (g0D (S:=6) (hp0.mono hx) (hd.mono e0a hx) hx.1 (by decide) hr hrl hfe hdl).mono ?_
 rintro _ G2 ⟨rfl,hx2⟩
 replace b0:=hx2.blk b0
 replace b1:=hx2.blk b1
 replace hx:=hx.trans hx2
 clear hx2
 have hsz:=hx.1
 cases hv:e0x rows n d with
 | false =>
  simp [J0x,b1,hsz]
  generalize hS':Array.setIfInBounds G2 _ _=G3
  rw [a0C hS' b1]
  simp
  exact fun _=>by unfold k0T;rw [if_pos hv];rfl
 | true =>
  simp [J0y,b0,h0]
  refine (i0R (S:=6) (hp0.mono hx) (hd.mono e0a hx) hx.1 (by decide) hr hrl hfe hdl).mono ?_
  rintro r G3 ⟨hp,hx2⟩
  replace b0:=hx2.blk b0
  replace b1:=hx2.blk b1
  replace hx:=hx.trans hx2
  clear hx2
  have hsz2:=hx.1
  rw [hv] at hp
  cases hno:j0g (fun e=>decide (e.1 < 0)) d with
  | true =>
   rw [if_neg (by rw [hno];simp)] at hp
   obtain ⟨p,rfl,kp⟩:=hp
   obtain ⟨sA,sB,sC,rfl,kA,kB,kC⟩:=kp
   simp [hsz2,kA.cells,kB.cells,kC.cells,kA.plain,kB.plain,kC.plain]
   generalize hN:Array.setIfInBounds (Array.push _ _) _ _=G4
   obtain ⟨hx2,b2⟩:=new1 hN
   clear hN
   replace b1:=hx2.blk b1
   replace hx:=hx.trans hx2
   clear hx2
   have hsz3:=hx.1
   simp [z0J,J0z,b1,hsz3]
   generalize hS':Array.setIfInBounds G4 _ _=G5
   rw [a0C hS' b1]
   simp
   exact fun _=>by unfold k0T;rw [if_neg (by rw [hv];simp),if_pos hno];rfl
  | false =>
   rw [if_pos ⟨rfl,hno⟩] at hp
   obtain ⟨p,rfl,kp⟩:=hp
   have kp0:=kp
   obtain ⟨sA,sB,sC,rfl,kA,kB,kC⟩:=kp
   simp [hsz2,kA.cells,kB.cells,kC.cells,kA.plain,kB.plain,kC.plain]
   generalize hN:Array.setIfInBounds (Array.push _ _) _ _=G4
   obtain ⟨hx2,b2⟩:=new1 hN
   clear hN
   replace b1:=hx2.blk b1
   replace kp0:=kp0.mono hx2
   replace hx:=hx.trans hx2
   clear hx2
   obtain ⟨P2,hP2⟩:∃ x,x=G3.size:=⟨_,rfl⟩
   rw [← hP2] at b2 ⊢
   have hsz3:=hx.1
   obtain ⟨hok,hrt,hn6,hm40⟩:=N0D hv (fun r h=>(hr r h).1) hfd
   simp [z0J,J0A,b2]
   refine (h0M hok kp0 hx.1 hrt).mono ?_
   rintro _ G5 ⟨⟨ans,k,rfl,q,hq,ans',a,k',he,hA,hQ⟩,hx2⟩
   obtain ⟨rfl,rfl⟩:ans=ans'∧k=k':=by simpa using he
   clear he
   replace b1:=hx2.blk b1
   replace hx:=hx.trans hx2
   clear hx2
   have hsz4:=hx.1
   have hA0:=hA
   obtain ⟨z1,z2,z3,z4,z5,rfl,l1,l2,l3,l4,l5⟩:=hA
   have d1:=l1.cells;have d2:=l2.cells
   simp [hsz4,d1,d2,l1.plain,l2.plain,l3.cells,l3.plain,l4.cells,l4.plain,l5.cells,l5.plain]
   generalize hN:Array.setIfInBounds (Array.push _ _) _ _=G6
   obtain ⟨hx2,b3⟩:=new1 hN
   clear hN
   replace b1:=hx2.blk b1
   replace hA0:=hA0.mono hx2
   replace hx:=hx.trans hx2
   clear hx2
   obtain ⟨P4,hP4⟩:∃ x,x=G5.size:=⟨_,rfl⟩
   rw [← hP4] at b3 ⊢
   refine a0v ?_
   simp [J0B,b3,b1,d1,d2,l1.plain,l2.plain,l3.cells,l3.plain,l4.cells,l4.plain,l5.cells,l5.plain]
   generalize hS':Array.setIfInBounds G6 _ _=G7
   rw [a0C hS' b1]
   simp
   intro _
   unfold k0T
   rw [if_neg (by rw [hv];simp),if_neg (by rw [hno];simp)]
   have hsz:=S0e hok hq (by omega) hQ
   obtain ⟨kk,hkk⟩:∃ kk,kk=n.toNat:=⟨_,rfl⟩
   obtain ⟨m,hm⟩:∃ m,m=(c0e rows d).length:=⟨_,rfl⟩
   have hW:(m + 2) * ((kk + 3) * (6 + 1) + m + 2) + 1 + m + 1 + (kk + 3) * (6 + 1) + (kk + 3) * (6 + 1)≤6000:=by
    have h1:(m + 2) * ((kk + 3) * (6 + 1) + m + 2)≤42 * 105:=Nat.mul_le_mul (by omega) (by omega)
    omega
   rw [hm,hkk] at hW
   refine ⟨_,a,rfl,hA0.setS hS' b1 (by decide) (by decide),?_,fun x hx=>Nat.le_trans (hsz.1 x hx) hW,fun x hx=>Nat.le_trans (hsz.2 x hx) hW⟩
   rcases hQ with hQ | hQ
   ·exact .inl (hQ.cert hok hq)
   ·exact .inr (hQ.cert hok hq)
end
/- The reference's limbs: cmp, add. -/
section
open Go
set_option maxHeartbeats 4000000
variable {fl:Nat} {H G:a0f} {R:a0A} {v w:Value} {a b:List Nat}
end
/- The reference's limbs: twice. -/
section
open Go
set_option maxHeartbeats 4000000
variable {fl:Nat} {H G:a0f} {R:a0A} {v w:Value} {a b:List Nat}
end
/- The reference's limbs: sub. -/
section
open Go
set_option maxHeartbeats 4000000
variable {fl:Nat} {H G:a0f} {R:a0A} {v w:Value} {a b:List Nat}
end
/- The reference's limbs: mul. -/
section
open Go
set_option maxHeartbeats 4000000
variable {fl:Nat} {H G:a0f} {R:a0A} {v w:Value} {a b:List Nat}
end
/- The reference's limbs: divmod, bit by bit. -/
section
open Go
set_option maxHeartbeats 4000000
variable {fl:Nat} {H G:a0f} {R:a0A} {v w:Value} {a b:List Nat}
end
/- The reference's numbers: Neg, Mul. -/
section
open Go
set_option maxHeartbeats 4000000
variable {fl:Nat} {H G:a0f} {R:a0A} {v w:Value} {i j:Bool × List Nat}
end
/- The reference's numbers: Sub, Cmp. -/
section
open Go
set_option maxHeartbeats 4000000
variable {fl:Nat} {H G:a0f} {R:a0A} {v w:Value} {i j:Bool × List Nat}
end
/- The reference's numbers: Gcd. -/
section
open Go
set_option maxHeartbeats 4000000
variable {fl:Nat} {H G:a0f} {R:a0A} {v w:Value} {i j:Bool × List Nat}
end
/- The reference's numbers: Of; its quotients: nought. -/
section
open Go
set_option maxHeartbeats 4000000
variable {fl:Nat} {H G:a0f} {R:a0A} {v w:Value}
theorem l0q {n:Int} (hf:fl≤H.size) (h1:-9223372036854775808≤n) (h2:n < 9223372036854775808):a0P env fl P0u [.int .i64 n] H (fun r H'=>b0q H' r (a0n n)∧Ext H H') R:=by
 refine a0l W0M hf (h:=?_)
 intro ρ h0
 have e1:0≤n→IntKind.u64.wrap n=((n.natAbs:Nat):Int):=fun _=>by rw [a0J];omega
 have e2:n < 0→IntKind.u64.wrap (-IntKind.u64.wrap n)=((n.natAbs:Nat):Int):=fun _=>by rw [a0J,a0J];omega
 obtain ⟨m,hm⟩:∃ m,n.natAbs=m:=⟨_,rfl⟩
 rw [hm] at e1 e2
 have hm2:m < 18446744073709551616:=by omega
 simp [T0b,K0o,h0]
 generalize hG:Array.push H _=G
 obtain ⟨hx2,b0⟩:=k0C hG
 have hx:=Ext.refl H
 clear hG
 replace hx:=hx.trans hx2
 have q1:IntKind.u32.wrap ((m:Int))=((m % 4294967296:Nat):Int):=by rw [n0m];omega
 have q2:IntKind.u32.wrap (((m / 4294967296:Nat):Int))=((m / 4294967296:Nat):Int):=by rw [n0m];omega
 have q3:d0y 0 .shr (.int .u64 (m:Int)) (.int .u64 32)=some (.int .u64 ((m / 2 ^ 32:Nat):Int)):=O0O (s:=32) (by omega)
 have q4:m / 2 ^ 32=m / 4294967296:=rfl
 rw [q4] at q3
 by_cases hn:n < 0
 ·simp [-Int.natCast_emod,-Int.natCast_ediv,E0v,E0w,K0p,E0x,h0,hn,e2 hn,q1,q2,q3]
  generalize hG:Array.push G _=G1
  obtain ⟨hx2,b1⟩:=k0C hG
  clear hG
  replace b0:=hx2.blk b0;replace hx:=hx.trans hx2
  have hl:Lim G1 (.slice (some ⟨Array.size G,0,none⟩) 2 2) [m % 4294967296,m / 4294967296]:=by
   refine ⟨(Own.mk (fl:=0) (n:=2) (sz:=1) (cs:=d0b [m % 4294967296,m / 4294967296]) ?_ rfl (Nat.zero_le _)).sl,?_⟩
   ·rw [b1];rfl
   ·intro x hx;simp at hx;omega
  refine (l0r n hl hx.1 (by simp) ?_).mono ?_
  ·have:a0D [m % 4294967296,m / 4294967296]=m:=by simp [a0D];omega
   rw [this]
   simp;omega
  rintro _ G2 ⟨⟨s3,rfl,k5⟩,hx2⟩
  replace b0:=hx2.blk b0;replace b1:=hx2.blk b1;replace hx:=hx.trans hx2
  have hsz:=hx.1
  simp [b0,k5.cells,k5.plain,hsz]
  generalize hS:Array.setIfInBounds G2 _ _=G5
  have hsz:=hx.1;replace k5:=k5.setS hS b0 (by decide);replace hx:=b0x hS hx (by omega);replace b0:=a0C hS b0;clear hS hsz
  simp [b0]
  exact fun _=>⟨s3,rfl,k5⟩
 ·simp [-Int.natCast_emod,-Int.natCast_ediv,E0v,E0w,E0x,h0,hn,e1 (by omega),q1,q2,q3]
  generalize hG:Array.push G _=G1
  obtain ⟨hx2,b1⟩:=k0C hG
  clear hG
  replace b0:=hx2.blk b0;replace hx:=hx.trans hx2
  have hl:Lim G1 (.slice (some ⟨Array.size G,0,none⟩) 2 2) [m % 4294967296,m / 4294967296]:=by
   refine ⟨(Own.mk (fl:=0) (n:=2) (sz:=1) (cs:=d0b [m % 4294967296,m / 4294967296]) ?_ rfl (Nat.zero_le _)).sl,?_⟩
   ·rw [b1];rfl
   ·intro x hx;simp at hx;omega
  refine (l0r n hl hx.1 (by simp) ?_).mono ?_
  ·have:a0D [m % 4294967296,m / 4294967296]=m:=by simp [a0D];omega
   rw [this]
   simp;omega
  rintro _ G2 ⟨⟨s3,rfl,k5⟩,hx2⟩
  replace b0:=hx2.blk b0;replace hx:=hx.trans hx2
  have hsz:=hx.1
  simp [b0,k5.cells,k5.plain,hsz]
  generalize hS:Array.setIfInBounds G2 _ _=G5
  have hsz:=hx.1;replace k5:=k5.setS hS b0 (by decide);replace hx:=b0x hS hx (by omega);replace b0:=a0C hS b0;clear hS hsz
  simp [b0]
  exact fun _=>⟨s3,rfl,k5⟩
end
/- The reference's quotients: MayRat. -/
section
open Go
set_option maxHeartbeats 4000000
variable {fl:Nat} {H G:a0f} {R:a0A} {v w:Value} {a:b0R}
end
/- The reference's quotients: NormRat. -/
section
open Go
set_option maxHeartbeats 4000000
variable {fl:Nat} {H G:a0f} {R:a0A} {v w:Value} {a:b0R}
end
/- The reference's quotients: CmpRat. -/
section
open Go
set_option maxHeartbeats 4000000
variable {fl:Nat} {H G:a0f} {R:a0A} {v w:Value} {a b:b0R}
end
/- The reference's numbers: Div; its quotients: OfRat, Quo. -/
section
open Go
set_option maxHeartbeats 4000000
variable {fl:Nat} {H G:a0f} {R:a0A} {v w:Value} {i j:Bool × List Nat}
theorem c0U {n:Int} (hf:fl≤H.size) (h1:-9223372036854775808≤n) (h2:n < 9223372036854775808):a0P env fl F0D [.int .i64 n] H (fun r H'=>b0X H' r (a0e n)∧Ext H H') R:=by
 refine a0l W0B hf (h:=?_)
 intro ρ h0
 simp [S0Q,J0t,J0u,h0]
 generalize hG:Array.push H _=G
 obtain ⟨hx2,b0⟩:=k0C hG
 have hx:=Ext.refl H
 clear hG
 replace hx:=hx.trans hx2
 refine (l0q hx.1 h1 h2).mono ?_
 rintro _ G2 ⟨⟨s1,rfl,k1⟩,hx2⟩
 replace b0:=hx2.blk b0;replace hx:=hx.trans hx2
 simp
 refine (l0q hx.1 (by omega) (by omega)).mono ?_
 rintro _ G2 ⟨⟨s2,rfl,k2⟩,hx2⟩
 replace b0:=hx2.blk b0;replace hx:=hx.trans hx2;replace k1:=k1.mono hx2
 have hsz:=hx.1
 simp [b0,k1.cells,k1.plain,k2.cells,k2.plain,hsz,b0r]
 generalize hS:Array.setIfInBounds G2 _ _=G5
 have hsz:=hx.1;replace k1:=k1.setS hS b0 (by decide);replace k2:=k2.setS hS b0 (by decide);replace hx:=b0x hS hx (by omega);replace b0:=a0C hS b0;clear hS hsz
 simp [b0]
 have hc:a0e (n:Rat)=(a0n n,a0n 1):=by
  unfold a0e;rw [Rat.num_intCast,Rat.den_intCast];rfl
 rw [hc]
 exact fun _=>⟨s1,s2,rfl,k1,k2⟩
end
/- The reference's quotients: zero. -/
section
open Go
set_option maxHeartbeats 4000000
variable {fl:Nat} {H G:a0f} {R:a0A} {v w:Value} {a b:b0R}
end
/- The reference's f0x: MayExt. -/
section
open Go
set_option maxHeartbeats 4000000
variable {fl:Nat} {H G:a0f} {R:a0A} {v w:Value} {e f:e0f}
end
/- The reference's f0x: NormExt. -/
section
open Go
set_option maxHeartbeats 4000000
variable {fl:Nat} {H G:a0f} {R:a0A} {v w:Value} {e f:e0f}
end
/- The reference's f0x: CmpExt, MaxExt, MinExt. -/
section
open Go
set_option maxHeartbeats 4000000
variable {fl:Nat} {H G:a0f} {R:a0A} {v w:Value} {e f:e0f}
end
/- The reference's templates and values: Right, Values. -/
section
open Go
set_option maxHeartbeats 4000000
variable {fl:Nat} {H G:a0f} {R:a0A} {v w:Value}
end
/- The reference's templates: slots, row, few, Interval. -/
section
open Go
set_option maxHeartbeats 4000000
variable {fl:Nat} {H G:a0f} {R:a0A} {v w u:Value}
theorem a0Z.app2 {α:Type} {P:a0f→List Value→α→Prop} {e sz:Nat} {l:List α} (he:e ≠ a0m) (hO:∀ G' cs x,d0G (slB v) G G'→Lx G G'→P G cs x→P G' cs x) (h:a0Z P fl G e sz v l) {e2 c bytes:Nat} {new1 new2:List Value} {x1 x2:α} (hx1:P G new1 x1) (hx2:P G new2 x2) (hl1:new1.length=sz) (hl2:new2.length=sz) (hp1:new1.all a0u=true) (hp2:new2.all a0u=true) (hn:l.length < 1073741822) (hb:bytes≤1024) (hs:0 < sz) (hfl:fl≤G.size) :
  ∃ v' G',h0V fl (G.push (.row false e2 (new1 ++ new2))) e sz bytes v (.slice (some ⟨G.size,0,none⟩) 2 c)=some (v',G')∧a0Z P fl G' e sz v' (l ++ [x1,x2])∧d0G (slB v) G G'∧(∀ H0,H0.size≤fl→Ext H0 G→Ext H0 G'):=by
 obtain ⟨cs,h1,h2⟩:=h
 have hx:Sl (G.push (.row false e2 (new1 ++ new2))) e2 sz (.slice (some ⟨G.size,0,none⟩) 2 c) 2 (new1 ++ new2):=(Own.mk (fl:=0) a0y (by rw [List.length_append,hl1,hl2];omega) (Nat.zero_le _)).sl
 obtain ⟨v',G',a1,a2,a3,a4⟩:=j0x (h1.mono (Ext.push (Ext.refl G))) hx (by rw [List.all_append,hp1,hp2];rfl) (by omega) hb hs (bytes:=bytes) (by simp;omega)
 have a3':d0G (slB v) G G':=by
  refine ⟨?_,fun b hb hne=>?_⟩
  ·have:=a3.1;simp at this;omega
  ·rw [a3.2 b (by simp;omega) hne,d0H hb]
 have hL:=a0Z.lx ⟨cs,h1,h2⟩ he a3'
 refine ⟨v',G',a1,⟨cs ++ (new1 ++ new2),by simpa using a2,fun k hk=>?_⟩,a3',fun H0 k1 k2=>a4 H0 k1 k2.push⟩
 have hcs:=h1.1
 by_cases hkl:k < l.length
 ·have h3:(k + 1) * sz≤l.length * sz:=Nat.mul_le_mul_right _ hkl
  rw [Nat.add_mul,Nat.one_mul] at h3
  rw [List.getElem_append_left hkl,List.drop_append_of_le_length (by omega),List.take_append_of_le_length (by simp;omega)]
  exact hO _ _ _ a3' hL (h2 k hkl)
 ·by_cases hke:k=l.length
  ·subst hke
   rw [List.getElem_append_right (Nat.le_refl _),List.drop_append_of_le_length (by omega),List.drop_eq_nil_of_le (by omega),List.nil_append,List.take_append_of_le_length (by omega),← hl1,List.take_length]
   simpa using hO _ _ _ a3' hL hx1
  ·have hke:k=l.length + 1:=by simp at hk;omega
   subst hke
   have e1:(cs ++ (new1 ++ new2)).drop ((l.length + 1) * sz)=new2:=by
    rw [← List.append_assoc,List.drop_append,List.drop_eq_nil_of_le (by rw [List.length_append,hcs,hl1,Nat.add_mul];omega),List.nil_append,List.length_append,hcs,hl1,Nat.add_mul]
    simp
   rw [e1,List.getElem_append_right (by omega),← hl2,List.take_length]
   simpa using hO _ _ _ a3' hL hx2
theorem G0l {n:Int}:mn2 true 0 (mn2 false n 6)=max 0 (min n 6):=by
 simp only [mn2,Bool.false_eq_true,if_false,if_true]
 repeat' split
 all_goals omega
theorem k0R {n:Int} (hf:fl≤H.size):a0P env fl Q0I [.int .i64 n] H (fun r H'=>r=.int .i64 (max 0 (min n 6))∧Ext H H') R:=by
 refine a0l W0J hf (h:=?_)
 intro ρ h0
 simp [S0Y,K0a,K0b,h0]
 have h1:o0N true (.int .i64 0) [.int .i64 (mn2 false n 6)]=some (.int .i64 (max 0 (min n 6))):=by rw [← G0l];rfl
 have h2:o0N false (.int .i64 n) [.int .i64 6]=some (.int .i64 (mn2 false n 6)):=rfl
 simp [h2,h1]
theorem i0L {n:Nat} {i p k q:Int} (hf:fl≤H.size) (hn:n < 1073741824) (hp1:-9223372036854775808≤p) (hp2:p < 9223372036854775808) (hq1:-9223372036854775808≤q) (hq2:q < 9223372036854775808) :
  a0P env fl P0t [.int .i64 (n:Int),.int .i64 i,.int .i64 p,.int .i64 k,.int .i64 q] H (fun r H'=>a0Z PR H.size H' a0d 4 r ((List.range n).map fun (j:Nat)=>a0e ((if (j:Int)=k then q else if (j:Int)=i then p else 0:Int):Rat))∧Ext H H') R:=by
 refine a0l W0K hf (h:=?_)
 intro ρ h0
 simp [S0Z,K0c,K0d,K0e,h0]
 refine v0A (fun j ρ G=>ρ 0=.int .i64 (n:Int)∧ρ 1=.int .i64 i∧ρ 2=.int .i64 p∧ρ 3=.int .i64 k∧ρ 4=.int .i64 q∧ρ 12=.int .i64 (j:Int)∧Ext H G∧a0Z PR H.size G a0d 4 (ρ 11) ((List.range j).map fun (j:Nat)=>a0e ((if (j:Int)=k then q else if (j:Int)=i then p else 0:Int):Rat))) n (by decide) ⟨by simp [h0],by simp [h0],by simp [h0],by simp [h0],by simp [h0],by simp,Ext.refl H,by simpa using a0Z.nil⟩ ?_
 clear h0 ρ
 rintro j ρ G hj1 ⟨g0,g1,g2,g3,g4,g12,hx,ho⟩
 obtain ⟨s,g11⟩:∃ s,ρ 11=s:=⟨_,rfl⟩
 rw [g11] at ho
 simp [K0f,g0,g12]
 refine t0N.mk (by simp) (fun hj=>?_) (fun heq=>?_)
 ·obtain ⟨z,hz⟩:∃ z:Int,z=(if (j:Int)=k then q else if (j:Int)=i then p else 0):=⟨_,rfl⟩
  have hz1:-9223372036854775808≤z:=by rw [hz];split;exact hq1;split;exact hp1;omega
  have hz2:z < 9223372036854775808:=by rw [hz];split;exact hq2;split;exact hp2;omega
  have hlist:(List.range (j + 1)).map (fun (j:Nat)=>a0e ((if (j:Int)=k then q else if (j:Int)=i then p else 0:Int):Rat))=(List.range j).map (fun (j:Nat)=>a0e ((if (j:Int)=k then q else if (j:Int)=i then p else 0:Int):Rat)) ++ [a0e (z:Rat)]:=by
   rw [List.range_succ,List.map_append,List.map_singleton,← hz]
  by_cases h1:(j:Int)=k <;> by_cases h2:(j:Int)=i
  all_goals
   first | rw [if_pos h1] at hz | rw [if_neg h1,if_pos h2] at hz | rw [if_neg h1,if_neg h2] at hz
   subst hz
   try subst h1
   try subst h2
   simp [K0g,K0h,K0i,K0j,K0k,g1,g2,g3,g4,g12, *]
   simp [K0l,g11]
   refine (c0U hx.1 (by omega) (by omega)).mono ?_
   rintro _ G2 ⟨⟨s3,s4,rfl,k3,k4⟩,hx2⟩
   replace hx:=hx.trans hx2
   replace ho:=ho.mono a0z hx2
   try rw [show ((0:Int):Rat)=0 from rfl] at k3 k4 hlist ⊢
   obtain ⟨s',G4,h1,h2,h3,h4⟩:=a0Z.app (P:=PR) (sz:=4) (e:=a0d) (by decide) (fun G' cs x _ hl h=>b0X.lx h hl) ho (e2:=a0d) (c:=1) (bytes:=64) ⟨s3,s4,rfl,k3,k4⟩ rfl (by simp [k3.plain,k4.plain]) (by simp;omega) (by omega) (by omega) hx.1
   have k3':=k3.cells;have k4':=k4.cells
   simp [g11,k3',k4',h1]
   unfold I0W
   simp [E0t,g12,g0j (show j < 4611686018427387904 by omega)]
   exact t0M.mk ⟨by simp [g0],by simp [g1],by simp [g2],by simp [g3],by simp [g4],by simp,h4 _ (Nat.le_refl _) hx,by rw [hlist];exact a0Z.cast (v':=s') (by simp) h2⟩
 ·subst heq
  simp [E0u,g11]
  exact fun _=>ho
theorem o0t {l:List (List b0R)} (h:f0K H v l) (hf:fl≤H.size) (hl:l.length≤40) :
  a0P env fl Q0J [v] H (fun r H'=>f0u H' r l∧Ext H H') R:=by
 refine a0l W0L hf (h:=?_)
 intro ρ h0
 have hmn:o0N false (.int .i64 (l.length:Int)) [.int .i64 40]=some (.int .i64 (l.length:Int)):=by
  have:mn2 false (l.length:Int) 40=l.length:=by
   simp only [mn2,Bool.false_eq_true,if_false]
   split <;> omega
  show some (Value.int IntKind.i64 (mn2 false (l.length:Int) 40))=_
  rw [this]
 obtain ⟨u1,hu1,ku,oku⟩:=(h.mono c0G ((Ext.refl H).push (r:=.row false b0f [.slice none 0 0]))).first (n:=l.length) (k:=.i64) (Nat.le_refl _)
 rw [List.take_length] at ku
 simp [T0a,K0m,K0n,h0,h.slen,hmn,hu1,oku,ku.cells,ku.plain,hf]
 exact ⟨u1,rfl,f0K.lx3 ku (a0V rfl a0y (by decide)) (a0V rfl a0y (by decide)) (fun b ro cs h=>a0V (e:=a0m) rfl a0y (by decide) b ro cs h)⟩
def g0U (n i:Nat) (p:Int):List b0R:=(List.range n).map fun (j:Nat)=>a0e ((if (j:Int) = -1 then 0 else if (j:Int)=(i:Int) then p else 0:Int):Rat)
def b0G (n:Nat):Nat→List (List b0R)
 | 0=>[]
 | i + 1=>b0G n i ++ [g0U n i 1,g0U n i (-1)]
theorem b0E {n:Nat}:∀ i,(b0G n i).length=2 * i
 | 0=>rfl
 | i + 1=>by rw [b0G,List.length_append,b0E i];simp;omega
theorem f0c {n:Int} {m:Nat} (hf:fl≤H.size) (hm:max 0 (min n 6)=(m:Int)) :
  a0P env fl P0r [.int .i64 n] H (fun r H'=>f0u H' r (b0G m m)∧Ext H H') R:=by
 refine a0l W0H hf (h:=?_)
 intro ρ h0
 simp [S0W,J0Q,J0R,h0]
 generalize hN:Array.push H _=G
 obtain ⟨hx,b0⟩:=k0C hN
 clear hN
 refine (k0R hx.1).mono ?_
 rintro _ G2 ⟨rfl,hx2⟩
 rw [hm]
 have hm6:m≤6:=by omega
 replace b0:=hx2.blk b0
 replace hx:=hx.trans hx2
 simp [J0S,J0T]
 refine v0A (fun i ρ G=>ρ 0=.int .i64 (m:Int)∧ρ 2=.pointer (some ⟨H.size,0,none⟩)∧ρ 4=.int .i64 (i:Int)∧Ext H G∧a0f.blk G H.size=.row false b0f [.slice none 0 0]∧a0Z PS H.size G b0p 1 (ρ 3) (b0G m i)) m (by decide) ⟨by simp,by simp,by simp,hx,b0,by simpa [b0G] using a0Z.nil⟩ ?_
 clear h0 ρ hx b0 hx2
 rintro i ρ G hi1 ⟨g0,g2,g4,hx,b0,ho⟩
 obtain ⟨s,g3⟩:∃ s,ρ 3=s:=⟨_,rfl⟩
 rw [g3] at ho
 simp [J0U,g0,g4]
 refine t0N.mk (by simp) (fun hi=>?_) (fun heq=>?_)
 ·simp [J0V,g0,g3,g4]
  refine (i0L hx.1 (by omega) (by decide) (by decide) (by decide) (by decide)).mono ?_
  rintro wa G2 ⟨oa,hx2⟩
  replace b0:=hx2.blk b0
  replace ho:=ho.mono c0G hx2
  replace hx:=hx.trans hx2
  simp [g0,g4]
  refine (i0L hx.1 (by omega) (by decide) (by decide) (by decide) (by decide)).mono ?_
  rintro wb G3 ⟨ob,hx2⟩
  replace b0:=hx2.blk b0
  replace ho:=ho.mono c0G hx2
  replace oa:=oa.mono a0z hx2
  replace hx:=hx.trans hx2
  have hll:=b0E (n:=m) i
  obtain ⟨s',G4,h1,h2,h3,h4⟩:=a0Z.app2 (P:=PS) (sz:=1) (e:=b0p) (by decide) (fun G' cs x hxb hl ⟨w',q1,q2⟩=>⟨w',q1,b0l.lx2 q2 (ho.lxT (by decide) hxb) hl⟩) ho (e2:=b0p) (c:=2) (bytes:=24) (new1:=[wa]) (new2:=[wb]) (x1:=g0U m i 1) (x2:=g0U m i (-1)) ⟨wa,rfl,oa.sls⟩ ⟨wb,rfl,ob.sls⟩ rfl rfl (by simp [oa.sls.plain]) (by simp [ob.sls.plain]) (by omega) (by omega) (by omega) hx.1
  have b0':=(ho.lxT (e':=b0f) (by decide) h3) _ _ _ b0
  simp [g3,oa.sls.cells,ob.sls.cells]
  simp at h1
  simp [h1]
  unfold I0W
  simp [J0W,g4,g0j (show i < 4611686018427387904 by omega)]
  exact t0M.mk ⟨by simp [g0],by simp [g2],by simp,h4 _ (Nat.le_refl _) hx,b0',a0Z.cast (v':=s') (by simp) h2⟩
 ·subst heq
  simp [J0X,g3]
  refine (o0t ho.sls hx.1 (by rw [b0E];omega)).mono ?_
  rintro _ G2 ⟨⟨s2,rfl,ks⟩,hx2⟩
  replace b0:=hx2.blk b0
  replace hx:=hx.trans hx2
  have hsz:=hx.1
  simp [g2,b0,ks.cells,ks.plain,hsz]
  generalize hS':Array.setIfInBounds G2 _ _=G3
  rw [a0C hS' b0]
  simp
  exact fun _=>⟨s2,rfl,ks.lx3 (a0V hS' b0 (by decide)) (a0V hS' b0 (by decide)) (fun b ro cs h=>a0V (e:=a0m) hS' b0 (by decide) b ro cs h)⟩
end
/- Boxes: their rows, what is within, whether anything is. Plain laws. -/
section
open Go
set_option maxHeartbeats 1000000
theorem M0z {i:Nat} {s:Rat} {f:Nat→Rat}:∀ {n:Nat},rs (fun k=>(if k=i then s else 0) * f k) n=if i < n then s * f i else 0
 | 0=>by simp [rs]
 | n + 1=>by
  rw [rs,M0z]
  by_cases h1:i < n
  ·rw [if_pos h1,if_neg (by omega),if_pos (by omega),Rat.zero_mul,Rat.add_zero]
  ·by_cases h2:n=i
   ·subst h2;rw [if_neg h1,if_pos rfl,if_pos (by omega),Rat.zero_add]
   ·rw [if_neg h1,if_neg h2,if_neg (by omega),Rat.zero_mul,Rat.add_zero]
theorem M0y {f g:Nat→Rat}:∀ {n:Nat},rs (fun i=>f i + g i) n=rs f n + rs g n
 | 0=>by rw [rs,rs,rs];grind
 | n + 1=>by rw [rs,rs,rs,M0y];grind
theorem q0M:∀ {n:Nat},rs (fun _=>0) n=0
 | 0=>rfl
 | n + 1=>by rw [rs,q0M];grind
theorem F0g {f:Nat→Nat→Rat} {M:Nat}:∀ {N:Nat},rs (fun i=>rs (fun j=>f i j) M) N=rs (fun j=>rs (fun i=>f i j) N) M
 | 0=>by simp only [rs];rw [q0M]
 | N + 1=>by simp only [rs];rw [F0g,← M0y]
theorem R0R {f g:Nat→Rat}:∀ {n:Nat},(∀ i,i < n→f i≤g i)→rs f n≤rs g n
 | 0,_=>Rat.le_refl
 | n + 1,h=>by
  have h1:=R0R (n:=n) (fun i hi=>h i (by omega))
  have h2:=h n (by omega)
  rw [rs,rs];grind
theorem O0M {f:Nat→Rat} {c:Rat} {n:Nat}:rs (fun i=>c * f i) n=c * rs f n:=by
 rw [Rat.mul_comm,← k0p];exact c0W fun i _=>Rat.mul_comm _ _
theorem v0n.none {p:LPt} {n m:Nat} {a:t0L} (h:v0n p n m a) (x:Nat→Rat):¬ ∀ r,r < m→rs (fun k=>pA p r k * x k) n≤pB p r:=by
 intro hx
 have h1:rs (fun i=>a.Y.getD i 0 * rs (fun k=>pA p i k * x k) n) m≤rs (fun i=>a.Y.getD i 0 * pB p i) m :=
  R0R fun i hi=>Rat.mul_le_mul_of_nonneg_left (hx i hi) (h.Y0 i hi)
 have h2:rs (fun i=>a.Y.getD i 0 * rs (fun k=>pA p i k * x k) n) m=rs (fun k=>rs (fun i=>a.Y.getD i 0 * pA p i k) m * x k) n:=by
  have e1:∀ i,i < m→a.Y.getD i 0 * rs (fun k=>pA p i k * x k) n=rs (fun k=>a.Y.getD i 0 * pA p i k * x k) n:=fun i _=>by
   rw [← O0M];exact c0W fun k _=>by grind
  rw [c0W e1,F0g]
  exact c0W fun k _=>k0p
 have h3:rs (fun k=>rs (fun i=>a.Y.getD i 0 * pA p i k) m * x k) n=0:=by
  rw [c0W (g:=fun _=>0) (fun k hk=>by rw [h.YA k hk,Rat.zero_mul]),q0M]
 rw [h2,h3] at h1
 have:=h.YB
 grind
theorem r0I:∀ {rows:List (List b0R)} {d:List e0f},rows.length=d.length→(∀ e ∈ d,e.1=0)→c0e rows d=rows.map i0T∧d0B rows d=d.map fun e=>a0e (b0O e.2)
 | [],[],_,_=>⟨rfl,rfl⟩
 | [],_ :: _,h,_=>by simp at h
 | _ :: _,[],h,_=>by simp at h
 | r :: rs,e :: es,h,h0=>by
  obtain ⟨h1,h2⟩:=r0I (rows:=rs) (d:=es) (by simpa using h) (fun e he=>h0 e (by simp [he]))
  have h3:=h0 e (by simp)
  simp only [c0e,d0B,if_pos h3,h1,h2,List.map_cons]
  trivial
def bxD (lo hi:Nat→Int):Nat→List e0f
 | 0=>[]
 | i + 1=>bxD lo hi i ++ [(0,a0e (hi i:Int)),(0,a0e ((-lo i:Int):Rat))]
theorem e0q {lo hi:Nat→Int}:∀ i,(bxD lo hi i).length=2 * i
 | 0=>rfl
 | i + 1=>by rw [bxD,List.length_append,e0q i];simp;omega
theorem i0c {lo hi:Nat→Int} {e:e0f}:∀ {i},e ∈ bxD lo hi i→∃ k,k < i∧(e=(0,a0e (hi k:Int)) ∨ e=(0,a0e ((-lo k:Int):Rat)))
 | 0,h=>by simp [bxD] at h
 | i + 1,h=>by
  rw [bxD,List.mem_append] at h
  rcases h with h | h
  ·obtain ⟨k,h1,h2⟩:=i0c h;exact ⟨k,by omega,h2⟩
  ·exact ⟨i,by omega,by simpa using h⟩
theorem e0o {n:Nat} {r:List b0R}:∀ {m},r ∈ b0G n m→∃ i,i < m∧(r=g0U n i 1 ∨ r=g0U n i (-1))
 | 0,h=>by simp [b0G] at h
 | m + 1,h=>by
  rw [b0G,List.mem_append] at h
  rcases h with h | h
  ·obtain ⟨k,h1,h2⟩:=e0o h;exact ⟨k,by omega,h2⟩
  ·exact ⟨m,by omega,by simpa using h⟩
theorem F0w {α:Type} {l:List α} {a b d:α} {m k:Nat} (hl:l.length=2 * m) (hk:k < 2):(l ++ [a,b]).getD (2 * m + k) d=if k=0 then a else b:=by
 rw [List.getD_eq_getElem?_getD,List.getElem?_append_right (by omega),hl,show 2 * m + k - 2 * m=k by omega]
 match k,hk with
 | 0,_=>rfl
 | 1,_=>rfl
theorem w0I {α:Type} {l:List α} {a b d:α} {k:Nat} (hk:k < l.length):(l ++ [a,b]).getD k d=l.getD k d:=by
 rw [List.getD_eq_getElem?_getD,List.getElem?_append_left hk,List.getD_eq_getElem?_getD]
theorem i0k {n i k:Nat} (hk:k < 2):∀ {m:Nat},i < m→(b0G n m).getD (2 * i + k) []=g0U n i (if k=0 then 1 else -1)
 | 0,h=>by omega
 | m + 1,h=>by
  rw [b0G]
  have hl:=b0E (n:=n) m
  by_cases hi:i < m
  ·rw [w0I (by omega),i0k hk hi]
  ·have:i=m:=by omega
   subst this
   rw [F0w hl hk];split <;> rfl
theorem o0Z {lo hi:Nat→Int} {i k:Nat} (hk:k < 2):∀ {m:Nat},i < m→(bxD lo hi m).getD (2 * i + k) (0,e0B)=(0,a0e ((if k=0 then hi i else -lo i:Int):Rat))
 | 0,h=>by omega
 | m + 1,h=>by
  rw [bxD]
  have hl:=e0q (lo:=lo) (hi:=hi) m
  by_cases hi:i < m
  ·rw [w0I (by omega),o0Z hk hi]
  ·have:i=m:=by omega
   subst this
   rw [F0w hl hk];split <;> rfl
theorem h0p {n i:Nat} {p:Int}:(g0U n i p).length=n:=by unfold g0U;simp
theorem w0v {n i k:Nat} {p:Int} (hk:k < n):(g0U n i p).getD k e0B=a0e (((if k=i then p else 0:Int)):Rat):=by
 unfold g0U
 rw [List.getD_eq_getElem?_getD]
 simp [hk]
 congr 2
 by_cases h:k=i
 ·rw [if_pos (by omega),if_pos h]
 ·rw [if_neg (by omega),if_neg h]
def d0X (lo hi:Nat→Int):Nat→Bool
 | 0=>false
 | i + 1=>d0X lo hi i || decide (hi i < lo i)
def v0J (lo hi x:Nat→Int):Nat→Bool
 | 0=>true
 | i + 1=>v0J lo hi x i && decide (lo i≤x i) && decide (x i≤hi i)
theorem i0d {lo hi:Nat→Int}:∀ {n},d0X lo hi n=true ↔ ∃ i,i < n∧hi i < lo i
 | 0=>by simp [d0X]
 | n + 1=>by
  rw [d0X,Bool.or_eq_true,i0d,decide_eq_true_eq]
  constructor
  ·rintro (⟨i,h1,h2⟩ | h)
   ·exact ⟨i,by omega,h2⟩
   ·exact ⟨n,by omega,h⟩
  ·rintro ⟨i,h1,h2⟩
   by_cases h:i < n
   ·exact .inl ⟨i,h,h2⟩
   ·exact .inr (by have : i = n := by omega
                   subst this;exact h2)
theorem r0l {lo hi x:Nat→Int}:∀ {n},v0J lo hi x n=true ↔ ∀ i,i < n→lo i≤x i∧x i≤hi i
 | 0=>by simp [v0J]
 | n + 1=>by
  rw [v0J,Bool.and_eq_true,Bool.and_eq_true,r0l,decide_eq_true_eq,decide_eq_true_eq]
  constructor
  ·rintro ⟨⟨h1,h2⟩,h3⟩ i hi
   by_cases h:i < n
   ·exact h1 i h
   ·have:i=n:=by omega
    subst this;exact ⟨h2,h3⟩
  ·intro h
   exact ⟨⟨fun i hi=>h i (by omega),(h n (by omega)).1⟩,(h n (by omega)).2⟩
theorem F0f {n i:Nat} {p:Int} {f:Nat→Rat} (hi:i < n):rs (fun k=>b0O ((g0U n i p).getD k e0B) * f k) n=(p:Rat) * f i:=by
 have h1:=M0z (i:=i) (s:=(p:Rat)) (f:=f) (n:=n)
 rw [if_pos hi] at h1
 rw [← h1]
 refine c0W fun k hk=>?_
 rw [w0v hk,a0w]
 congr 1
 split <;> rfl
theorem u0I {r:List b0R} (h:∀ x ∈ r,∃ y:Rat,x=a0e y):i0T r=r:=by
 unfold i0T
 conv=>rhs;rw [← List.map_id r]
 apply List.map_congr_left
 intro x hx
 obtain ⟨y,rfl⟩:=h x hx
 rw [a0w];rfl
theorem j0P {n i:Nat} {p:Int}:∀ x ∈ g0U n i p,∃ y:Rat,x=a0e y:=by
 intro x hx
 unfold g0U at hx
 obtain ⟨k,_,rfl⟩:=List.mem_map.1 hx
 exact ⟨_,rfl⟩
section
variable {n:Nat} {lo hi:Nat→Int}
theorem l0K:c0e (b0G n n) (bxD lo hi n)=b0G n n∧d0B (b0G n n) (bxD lo hi n)=(bxD lo hi n).map (·.2):=by
 obtain ⟨h1,h2⟩:=r0I (rows:=b0G n n) (d:=bxD lo hi n) (by rw [b0E,e0q]) (fun e he=>by
  obtain ⟨k,_,h | h⟩:=i0c he <;> rw [h])
 rw [h1,h2]
 constructor
 ·conv=>rhs;rw [← List.map_id (b0G n n)]
  apply List.map_congr_left
  intro r hr
  obtain ⟨i,_,h | h⟩:=e0o hr <;> rw [h,u0I j0P] <;> rfl
 ·apply List.map_congr_left
  intro e he
  obtain ⟨k,_,h | h⟩:=i0c he <;> rw [h,a0w]
theorem Q0q {i k:Nat} (hk:k < 2) (hin:i < n) {f:Nat→Rat}:rs (fun c=>pA (i0Y (b0G n n) n (bxD lo hi n)) (2 * i + k) c * f c) n=((if k=0 then 1 else -1:Int):Rat) * f i:=by
 rw [← F0f hin]
 refine c0W fun c hc=>?_
 unfold pA i0Y
 rw [show (LPt.mk (n:Int) (c0e (b0G n n) (bxD lo hi n)) (d0B (b0G n n) (bxD lo hi n)) (List.replicate (n:Int).toNat (a0e 0))).A=b0G n n from l0K.1,i0k hk hin]
theorem Q0r {i k:Nat} (hk:k < 2) (hin:i < n):pB (i0Y (b0G n n) n (bxD lo hi n)) (2 * i + k)=((if k=0 then hi i else -lo i:Int):Rat):=by
 have hl:2 * i + k < (bxD lo hi n).length:=by rw [e0q];omega
 have h1:=o0Z (lo:=lo) (hi:=hi) hk hin
 unfold pB i0Y
 rw [show (LPt.mk (n:Int) (c0e (b0G n n) (bxD lo hi n)) (d0B (b0G n n) (bxD lo hi n)) (List.replicate (n:Int).toNat (a0e 0))).B=(bxD lo hi n).map (·.2) from l0K.2]
 rw [b0Q (by rw [List.length_map];exact hl),List.getElem_map]
 rw [b0Q hl] at h1
 rw [h1,a0w]
theorem n0z (hn:n≤6):e0x (b0G n n) n (bxD lo hi n)=true:=by
 have hA:o0M (o0B n) (b0G n n)=true:=List.all_eq_true.2 fun r hr=>by
  obtain ⟨i,_,h⟩:=e0o hr
  unfold o0B
  have hl:r.length=n:=by rcases h with h | h <;> rw [h,h0p]
  have hm:o0M r0D r=true:=List.all_eq_true.2 fun x hx=>by
   obtain ⟨y,rfl⟩:∃ y:Rat,x=a0e y:=by rcases h with h | h <;> (rw [h] at hx;exact j0P x hx)
   exact g0s y
  rw [hm,hl];simp
 have hD:j0g (fun e=>!v0i e) (bxD lo hi n)=false:=by
  cases ha:j0g (fun e=>!v0i e) (bxD lo hi n) with
  | false=>rfl
  | true =>
   obtain ⟨e,h1,h2⟩:=List.any_eq_true.1 ha
   obtain ⟨k,_,h | h⟩:=i0c h1 <;> (rw [h] at h2;simp [v0i,g0s] at h2)
 unfold e0x k0n
 rw [hA,hD,b0E,e0q]
 simp
 omega
theorem r0m:j0g (fun e=>decide (e.1 < 0)) (bxD lo hi n)=false:=by
 cases ha:j0g (fun e=>decide (e.1 < 0)) (bxD lo hi n) with
 | false=>rfl
 | true =>
  obtain ⟨e,h1,h2⟩:=List.any_eq_true.1 ha
  obtain ⟨k,_,h | h⟩:=i0c h1 <;> (rw [h] at h2;simp at h2)
theorem J0b {r:Nat} (h:r < 2 * n):∃ i k,r=2 * i + k∧k < 2∧i < n:=⟨r / 2,r % 2,by omega,by omega,by omega⟩
theorem r0n {a:t0L} (h:v0n (i0Y (b0G n n) n (bxD lo hi n)) n (2 * n) a ∨ M0G (i0Y (b0G n n) n (bxD lo hi n)) n (2 * n) a):decide (a.kind=2)=d0X lo hi n:=by
 rcases h with h | h
 ·have h1:=h.kind
  have h2:d0X lo hi n=true:=by
   cases hb:d0X lo hi n with
   | true=>rfl
   | false =>
    refine absurd (fun r hr=>?_) (h.none (fun i=>((lo i:Int):Rat)))
    obtain ⟨i,k,rfl,hk,hin⟩:=J0b hr
    rw [Q0q hk hin,Q0r hk hin]
    have hle:lo i≤hi i:=by
     have h3:¬ d0X lo hi n=true:=by rw [hb];simp
     rw [i0d] at h3
     by_cases h4:hi i < lo i
     ·exact absurd ⟨i,hin,h4⟩ h3
     ·omega
    by_cases h0:k=0
    ·rw [if_pos h0,if_pos h0,← Rat.intCast_mul]
     exact Rat.intCast_le_intCast.2 (by omega)
    ·rw [if_neg h0,if_neg h0,← Rat.intCast_mul]
     exact Rat.intCast_le_intCast.2 (by omega)
  rw [h2,h1];rfl
 ·have h1:=h.kind
  have h2:d0X lo hi n=false:=by
   cases hb:d0X lo hi n with
   | false=>rfl
   | true =>
    obtain ⟨i,hin,hlt⟩:=i0d.1 hb
    have a1:=h.AX (2 * i + 0) (by omega)
    have a2:=h.AX (2 * i + 1) (by omega)
    rw [Q0q (by omega) hin,Q0r (by omega) hin] at a1 a2
    simp only [if_true] at a1
    rw [if_neg (by decide),if_neg (by decide)] at a2
    have hlr:((hi i:Int):Rat) < ((lo i:Int):Rat):=Rat.intCast_lt_intCast.2 hlt
    have e1:((-1:Int):Rat) = -1:=rfl
    have e2:((1:Int):Rat)=1:=rfl
    rw [e2] at a1
    rw [e1,Rat.intCast_neg] at a2
    grind
  rw [h2,h1];rfl
def ptD (x:Nat→Int) (n:Nat):List b0R:=(List.range n).map fun i=>a0e ((x i:Int):Rat)
theorem N0E {x:Nat→Int} {i:Nat} (hin:i < n):(ptD x n).getD i e0B=a0e ((x i:Int):Rat):=by
 unfold ptD
 rw [List.getD_eq_getElem?_getD];simp [hin]
theorem t0X {a b:Rat}:(¬ 0 < F0C (0,a) (0,b)) ↔ a≤b:=by
 unfold F0C Q0x
 simp
 constructor
 ·intro h
  by_cases h1:a < b
  ·grind
  ·simp [h1] at h
   by_cases h2:b < a
   ·simp [h2] at h
   ·grind
 ·intro h
  by_cases h1:a < b
  ·simp [h1]
  ·have:¬ b < a:=by grind
   simp [h1,this]
theorem Q0p {x:Nat→Int}:R0b (b0G n n) (bxD lo hi n) (ptD x n)=v0J lo hi x n:=by
 rw [Bool.eq_iff_iff,G0h,r0l]
 have hrow:∀ i k,k < 2→i < n→∀ (h1:2 * i + k < (b0G n n).length) (h2:2 * i + k < (bxD lo hi n).length),((¬ 0 < F0C (0,e0n (b0G n n)[2 * i + k] (ptD x n) (b0G n n)[2 * i + k].length) (o0O (bxD lo hi n)[2 * i + k])) ↔ if k=0 then x i≤hi i else lo i≤x i)∧(b0G n n)[2 * i + k].length=n:=by
  intro i k hk hin h1 h2
  have e1:=i0k (n:=n) hk hin
  have e2:=o0Z (lo:=lo) (hi:=hi) hk hin
  rw [b0Q h1] at e1
  rw [b0Q h2] at e2
  rw [e1,e2,k0x,h0p,p0f,F0f hin,N0E hin,a0w,t0X]
  refine ⟨?_,rfl⟩
  rw [← Rat.intCast_mul,Rat.intCast_le_intCast]
  split <;> omega
 have hlx:(ptD x n).length=n:=by unfold ptD;simp
 constructor
 ·rintro ⟨_,h⟩ i hin
  have a1:=(h (2 * i + 0) (by rw [b0E];omega) (by rw [e0q];omega)).2
  have a2:=(h (2 * i + 1) (by rw [b0E];omega) (by rw [e0q];omega)).2
  rw [(hrow i 0 (by omega) hin _ _).1] at a1
  rw [(hrow i 1 (by omega) hin _ _).1] at a2
  simp at a1 a2
  exact ⟨a2,a1⟩
 ·intro h
  refine ⟨by rw [b0E,e0q],fun r h1 h2=>?_⟩
  rw [b0E] at h1
  obtain ⟨i,k,rfl,hk,hin⟩:=J0b h1
  obtain ⟨b1,b2⟩:=hrow i k hk hin (by rw [b0E];omega) h2
  obtain ⟨c1,c2⟩:=h i hin
  refine ⟨by rw [b2,hlx],b1.2 ?_⟩
  split <;> assumption
end
end
/- The document's example. -/
section
open Go
set_option maxHeartbeats 4000000
variable {fl:Nat} {H G:a0f} {R:a0A} {v w u:Value}
theorem v0I {lo hi:Nat→Int} {n:Nat} (hlo:∀ i,-128≤lo i∧lo i < 129) (hhi:∀ i,-128≤hi i∧hi i < 129):∀ e ∈ bxD lo hi n,f0z e.2≤6∧b0D e.2.1.2∧b0D e.2.2.2:=by
 intro e he
 have h1:∀ z:Int,-129≤z→z < 130→f0z (a0e (z:Rat))≤6:=fun z h1 h2=>by
  rw [a0x,q0P]
  have:=o0f (z:=z) (k:=1) (by omega)
  omega
 obtain ⟨k,_,h | h⟩:=i0c he
 ·rw [h];have:=hhi k;exact ⟨h1 _ (by omega) (by omega),b0I _,b0I _⟩
 ·rw [h];have:=hlo k;exact ⟨h1 _ (by omega) (by omega),b0I _,b0I _⟩
theorem i0j {n m:Nat}:∀ r ∈ b0G n m,Few 6 r:=by
 intro r hr
 have h1:∀ z:Int,-1≤z→z≤1→f0z (a0e (z:Rat))≤6:=fun z h1 h2=>by
  rw [a0x,q0P]
  have:=o0f (z:=z) (k:=1) (by omega)
  omega
 obtain ⟨i,_,h | h⟩:=e0o hr
 all_goals
  rw [h]
  intro x hx
  unfold g0U at hx
  obtain ⟨j,_,rfl⟩:=List.mem_map.1 hx
  refine ⟨h1 _ ?_ ?_,b0I _,b0I _⟩
  all_goals (split;omega;split <;> omega)
theorem h0q {n:Int} (hf:fl≤H.size):a0P env fl P0q [.int .i64 n] H (fun r H'=>r=.int .i64 n∧Ext H H') R:=by
 refine a0l W0D hf (h:=?_)
 intro ρ h0
 simp [S0S,J0C,J0D,h0]
theorem t0Y (hf:fl≤H.size):a0P env fl Q0F [] H (fun r H'=>r=.bool true∧Ext H H') R:=by
 refine a0l W0E hf (h:=?_)
 intro ρ h0
 have hx:=Ext.refl H
 simp [S0T,J0E,J0F]
 refine (f0c (n:=1) (m:=1) hx.1 (by decide)).mono ?_
 rintro _ G2 ⟨⟨sT,rfl,kT⟩,hx2⟩
 replace hx:=hx.trans hx2
 simp
 refine (c0U (n:=3) hx.1 (by decide) (by decide)).mono ?_
 rintro _ G3 ⟨⟨s1,s2,rfl,m1,m2⟩,hx2⟩
 replace kT:=kT.mono c0G hx2
 replace hx:=hx.trans hx2
 simp
 refine (c0U (n:=-4) hx.1 (by decide) (by decide)).mono ?_
 rintro _ G4 ⟨⟨s3,s4,rfl,m3,m4⟩,hx2⟩
 replace kT:=kT.mono c0G hx2
 replace m1:=m1.mono hx2
 replace m2:=m2.mono hx2
 replace hx:=hx.trans hx2
 have d1:=m1.cells;have d2:=m2.cells;have d3:=m3.cells;have d4:=m4.cells
 have hd:h0W (G4.push (.row false b0m [.int .i64 0,.bool (a0e ((3:Int):Rat)).1.1,s1,.bool (a0e ((3:Int):Rat)).2.1,s2,.int .i64 0,.bool (a0e ((-4:Int):Rat)).1.1,s3,.bool (a0e ((-4:Int):Rat)).2.1,s4])) (.slice (some ⟨G4.size,0,none⟩) 2 2) (bxD (fun _=>4) (fun _=>3) 1):=by
  refine ⟨_,(Own.mk (fl:=0) (n:=2) (sz:=5) a0y rfl (Nat.zero_le _)).sl,fun k hk=>?_⟩
  match k,hk with
  | 0,_=>exact ⟨s1,s2,rfl,m1.mono (Ext.refl G4).push,m2.mono (Ext.refl G4).push⟩
  | 1,_=>exact ⟨s3,s4,rfl,m3.mono (Ext.refl G4).push,m4.mono (Ext.refl G4).push⟩
 have hb:d0X (fun _=>4) (fun _=>3) 1=true:=by decide
 have hv3:a0e ((3:Int):Rat)=a0e 3:=rfl
 have hv4:a0e ((-4:Int):Rat)=a0e (-4):=rfl
 rw [hv3,hv4] at hd
 simp [d1,d2,d3,d4]
 refine (g0C (n:=1) (rows:=b0G 1 1) (d:=bxD (fun _=>4) (fun _=>3) 1) ⟨sT,rfl,kT.mono c0G (Ext.refl G4).push⟩ hd (by have:=hx.1;simp;omega) (fun r hr=>⟨i0j r hr,by obtain ⟨k,_,h | h⟩:=e0o hr <;> (rw [h,h0p];decide)⟩) (by rw [b0E];decide) (v0I (fun _=>⟨by decide,by decide⟩) (fun _=>⟨by decide,by decide⟩)) (by rw [e0q];decide)).mono ?_
 rintro r G5 ⟨hE,hx2⟩
 replace hx:=(hx.push).trans hx2
 unfold k0T at hE
 rw [if_neg (by rw [show ((1:Int))=((1:Nat):Int) from rfl,n0z (by decide)];simp),if_neg (by rw [r0m];simp)] at hE
 obtain ⟨ans,a,rfl,hA,hC,_⟩:=hE
 have hm:(c0e (b0G 1 1) (bxD (fun _=>4) (fun _=>3) 1)).length=2 * 1:=by rw [l0K.1,b0E]
 rw [hm] at hC
 have hkind:=r0n (n:=1) hC
 rw [hb] at hkind
 have hk:a.kind=2:=of_decide_eq_true hkind
 clear hC hkind
 obtain ⟨z1,z2,z3,z4,z5,rfl,l1,l2,l3,l4,l5⟩:=hA
 have e1:=l1.cells;have e2:=l2.cells
 have hsz:=hx.1
 rw [hk]
 simp [hsz,e1,e2,l1.plain,l2.plain,l3.cells,l3.plain,l4.cells,l4.plain,l5.cells,l5.plain]
 generalize hN:Array.setIfInBounds (Array.push _ _) _ _=G6
 obtain ⟨hx2,b9⟩:=new1 hN
 clear hN
 replace hx:=hx.trans hx2
 simp [J0G,b9]
 refine (h0q hx.1).mono ?_
 rintro _ G7 ⟨rfl,hx2⟩
 simp
end
end Go.Proofs.YtjlohmnnldbjoaaGreat.AI
