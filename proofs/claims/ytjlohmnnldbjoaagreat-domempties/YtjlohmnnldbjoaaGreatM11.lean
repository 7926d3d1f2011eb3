/- Part 12 of the proof: AiRat4, AiSz1, AiSz2, AiSz3, AiHas1, AiSz4, AiSz5, AiSz6, AiSz7, AiSz8, AiSz9, AiT1, AiBox1, AiAwk, AiRefD1, AiRefD2. -/
import Derived.Test.YtjlohmnnldbjoaaGreatM06
import Derived.Test.YtjlohmnnldbjoaaGreatM07
import Derived.Test.YtjlohmnnldbjoaaGreatM08
import Derived.Test.YtjlohmnnldbjoaaGreatM10
set_option linter.unusedVariables false
set_option linter.unusedSimpArgs false
set_option linter.unusedSectionVars false
namespace Go.Proofs.YtjlohmnnldbjoaaGreat.AI
section
open Go
set_option maxHeartbeats 4000000
variable {fl:Nat} {H G:a0f} {R:a0G} {v w:Value} {a b:b0q}
theorem l0t {x:Rat} (h:b0L H v (a0e x)) (hf:fl≤H.size) (hn:szR x < 67108864) :
  a0S env fl A0t [v] H (fun r H'=>b0L H' r (a0e (-x))∧Ext H H') R:=by
 have k0:=h
 obtain ⟨s,u,rfl,hs,hu⟩:=h
 refine a0i e1I hf (h:=?_)
 intro ρ h0
 simp [N0a,H0o,h0]
 generalize hG:Array.push (Array.push H _) _=G
 have hx2:Ext H G:=by rw [← hG];exact (Ext.refl H).push.push
 have b0:a0f.blk G H.size=.row false a0b [.bool (a0e x).1.1,s,.bool (a0e x).2.1,u]:=by rw [← hG];simp
 have b1:a0f.blk G (H.size + 1)=.row false a0b [.bool false,.slice none 0 0,.bool false,.slice none 0 0]:=by rw [← hG];simp
 have hx:=Ext.refl H
 clear hG
 replace hx:=hx.trans hx2
 have k1:=hs.mono hx
 have k2:=hu.mono hx
 have ln:(a0j x.num).2.length=lz x.num:=rfl
 have l1:=c0O x
 refine a0B ?_
 simp [H0p,b0]
 refine (f0f (i:=a0j x.num) ⟨s,rfl,k1⟩ (by have:=hx.1;omega) (by omega)).mono ?_
 rintro _ G2 ⟨⟨s1,rfl,k3⟩,hx2⟩
 replace b0:=hx2.blk b0;replace b1:=hx2.blk b1;replace hx:=hx.trans hx2;replace k2:=k2.mono hx2
 rw [a0h] at k3 ⊢
 have hsz:=hx.1
 have hz:=a0l b1
 simp [b0,b1,k2.cells,k2.plain,k3.cells,k3.plain,hsz,hz]
 have e:a0e (-x)=(a0j (-x.num),a0j x.den):=by unfold a0e;rw [Rat.neg_num,Rat.neg_den]
 rw [e]
 exact fun _=>⟨s1,u,rfl,k3.setT b1 (by decide),k2.setT b1 (by decide)⟩
theorem s0K (h:b0L H v a) (k:b0L H w b) (hf:fl≤H.size) (hn:d0W a < 67108864) (hm:d0W b < 67108864) :
  a0S env fl y0o [v,w] H (fun r H'=>b0L H' r (a0e (b0o a - b0o b))∧Ext H H') R:=by
 have k0:=h
 have k1:=k
 obtain ⟨s,u,rfl,hs,hu⟩:=h
 obtain ⟨s',u',rfl,hs',hu'⟩:=k
 refine a0i e1A hf (h:=?_)
 intro ρ h0
 simp [M0S,G0y,h0]
 generalize hG:Array.push (Array.push (Array.push H _) _) _=G
 have hx2:Ext H G:=by rw [← hG];exact (Ext.refl H).push.push.push
 have b0:a0f.blk G H.size=.row false a0b [.bool a.1.1,s,.bool a.2.1,u]:=by rw [← hG];simp
 have b1:a0f.blk G (H.size + 1)=.row false a0b [.bool b.1.1,s',.bool b.2.1,u']:=by rw [← hG];simp
 have b2:a0f.blk G (H.size + 2)=.row false a0b [.bool false,.slice none 0 0,.bool false,.slice none 0 0]:=by rw [← hG];simp
 have hx:=Ext.refl H
 clear hG
 replace hx:=hx.trans hx2;replace k0:=k0.mono hx2;replace k1:=k1.mono hx2
 have sb:=b0E k1.ok.1 k1.ok.2
 refine a0B ?_
 simp [G0z,b0,b1]
 refine (b0K k1 (by have:=hx.1;omega) (by omega)).mono ?_
 rintro y G2 ⟨k2,hx2⟩
 replace b2:=hx2.blk b2;replace hx:=hx.trans hx2;replace k0:=k0.mono hx2
 simp
 refine (l0t k2 (by have:=hx.1;omega) (by omega)).mono ?_
 rintro z G3 ⟨k3,hx2⟩
 replace b2:=hx2.blk b2;replace hx:=hx.trans hx2;replace k0:=k0.mono hx2
 have sn:=W0H (b0o b)
 simp
 refine (c0j k0 k3 hx.1 hn (by rw [a0I];omega)).mono ?_
 rintro _ G4 ⟨⟨s1,s2,rfl,k4,k5⟩,hx2⟩
 replace b2:=hx2.blk b2;replace hx:=hx.trans hx2
 rw [a0D,← Rat.sub_eq_add_neg] at k4 k5 ⊢
 have hz:=a0l b2
 simp [b2,k4.cells,k4.plain,k5.cells,k5.plain,hz]
 exact fun _=>⟨s1,s2,rfl,k4.setT b2 (by decide),k5.setT b2 (by decide)⟩
theorem s0J (h:b0L H v a) (k:b0L H w b) (hf:fl≤H.size) (hn:d0W a < 67108864) (hm:d0W b < 67108864) (hb0:b0o b ≠ 0) :
  a0S env fl A0p [v,w] H (fun r H'=>(∃ q,r=.tuple #[q,.int .i64 0]∧b0L H' q (a0e (b0o a / b0o b)))∧Ext H H') R:=by
 have k0:=h
 have k1:=k
 obtain ⟨s,u,rfl,hs,hu⟩:=h
 obtain ⟨s',u',rfl,hs',hu'⟩:=k
 refine a0i e1y hf (h:=?_)
 intro ρ h0
 simp [M0Q,G0g,h0]
 generalize hG:Array.push (Array.push (Array.push H _) _) _=G
 have hx2:Ext H G:=by rw [← hG];exact (Ext.refl H).push.push.push
 have b0:a0f.blk G H.size=.row false a0b [.bool a.1.1,s,.bool a.2.1,u]:=by rw [← hG];simp
 have b1:a0f.blk G (H.size + 1)=.row false a0b [.bool b.1.1,s',.bool b.2.1,u']:=by rw [← hG];simp
 have b2:a0f.blk G (H.size + 2)=.row false a0b [.bool false,.slice none 0 0,.bool false,.slice none 0 0]:=by rw [← hG];simp
 have hx:=Ext.refl H
 clear hG
 replace hx:=hx.trans hx2;replace k0:=k0.mono hx2;replace k1:=k1.mono hx2
 have sa:=b0E k0.ok.1 k0.ok.2
 have sb:=b0E k1.ok.1 k1.ok.2
 refine a0B ?_
 simp [G0h,b0]
 refine (b0K k0 (by have:=hx.1;omega) (by omega)).mono ?_
 rintro _ G2 ⟨⟨s1,s2,rfl,k2,k3⟩,hx2⟩
 replace b0:=hx2.blk b0;replace b1:=hx2.blk b1;replace b2:=hx2.blk b2;replace hx:=hx.trans hx2;replace k0:=k0.mono hx2;replace k1:=k1.mono hx2
 simp [b1]
 refine (b0K k1 hx.1 (by omega)).mono ?_
 rintro _ G2 ⟨⟨s3,s4,rfl,k4,k5⟩,hx2⟩
 replace b0:=hx2.blk b0;replace b1:=hx2.blk b1;replace b2:=hx2.blk b2;replace hx:=hx.trans hx2;replace k0:=k0.mono hx2;replace k1:=k1.mono hx2;replace k2:=k2.mono hx2;replace k3:=k3.mono hx2
 clear k0 k1
 have hz0:=a0l b0
 simp [b0,k2.cells,k2.plain,k3.cells,k3.plain,hz0]
 generalize hS:Array.setIfInBounds _ _ _=G3
 have hsz:=hx.1;replace k2:=k2.setS hS b0 (by decide);replace k3:=k3.setS hS b0 (by decide);replace k4:=k4.setS hS b0 (by decide);replace k5:=k5.setS hS b0 (by decide);replace b1:=a0o hS b1 (by omega);replace b2:=a0o hS b2 (by omega);replace hx:=a0E hS hx (by omega);replace b0:=a0s hS b0;clear hS hsz
 have hz0:=a0l b1
 simp [b1,k4.cells,k4.plain,k5.cells,k5.plain,hz0]
 generalize hS:Array.setIfInBounds _ _ _=G3
 have hsz:=hx.1;replace k2:=k2.setS hS b1 (by decide);replace k3:=k3.setS hS b1 (by decide);replace k4:=k4.setS hS b1 (by decide);replace k5:=k5.setS hS b1 (by decide);replace b0:=a0o hS b0 (by omega);replace b2:=a0o hS b2 (by omega);replace hx:=a0E hS hx (by omega);replace b1:=a0s hS b1;clear hS hsz
 obtain ⟨x,hxv⟩:∃ x,x=b0o a:=⟨_,rfl⟩
 obtain ⟨y,hyv⟩:∃ y,y=b0o b:=⟨_,rfl⟩
 rw [← hxv] at sa k2 k3 b0 ⊢
 rw [← hyv] at sb k4 k5 b1 hb0 ⊢
 have k0:b0d _ (.agg #[.bool (a0e x).1.1,s1]) (a0j x.num):=⟨s1,rfl,k2⟩
 have k1:b0d _ (.agg #[.bool (a0e x).2.1,s2]) (a0j x.den):=⟨s2,rfl,k3⟩
 have k6:b0d _ (.agg #[.bool (a0e y).1.1,s3]) (a0j y.num):=⟨s3,rfl,k4⟩
 have k7:b0d _ (.agg #[.bool (a0e y).2.1,s4]) (a0j y.den):=⟨s4,rfl,k5⟩
 have l1:=c0O x
 have l2:=d0m x
 have l3:=c0O y
 have l4:=d0m y
 clear hs hu hs' hu' k2 k3 k4 k5
 refine a0B ?_
 simp [G0i,b0,b1]
 refine (b0w k0 k7 (by have:=hx.1;omega) (by rw [a0g];omega) (by rw [a0g];omega)).mono ?_
 rintro _ G4 ⟨k2,hx2⟩
 replace b0:=hx2.blk b0;replace b1:=hx2.blk b1;replace b2:=hx2.blk b2;replace hx:=hx.trans hx2;replace k1:=k1.mono hx2;replace k6:=k6.mono hx2;replace k7:=k7.mono hx2
 simp [b0,b1]
 refine (b0w k1 k6 hx.1 (by rw [a0g];omega) (by rw [a0g];omega)).mono ?_
 rintro _ G5 ⟨k3,hx2⟩
 replace b2:=hx2.blk b2;replace hx:=hx.trans hx2;replace k2:=k2.mono hx2;replace k6:=k6.mono hx2;replace k7:=k7.mono hx2
 rw [a0h,a0h] at k2 k3
 have q1:=c0a x.num y.den
 have q2:=c0a x.den y.num
 have hne:(x.den:Int) * y.num ≠ 0:=j1W (by have:=x.den_nz;omega) (fun h=>hb0 (Rat.num_eq_zero.1 h))
 rw [o0j]
 generalize x.num * y.den=p at *
 generalize (x.den:Int) * y.num=q at *
 simp
 have hq:=fun R'=>d0K (fl:=H.size) (R:=R') k2 k3 hx.1 (by rw [a0g];omega) (by rw [a0g];omega) (by rw [a0h];exact hne)
 simp only [a0h] at hq
 refine (hq _).mono ?_
 rintro _ G6 ⟨⟨_,rfl,s8,s9,rfl,k6,k7⟩,hx2⟩
 replace b2:=hx2.blk b2;replace hx:=hx.trans hx2
 have hz:=a0l b2
 simp [b2,k6.cells,k6.plain,k7.cells,k7.plain,hz]
 exact fun _=>⟨s8,s9,rfl,k6.setT b2 (by decide),k7.setT b2 (by decide)⟩
end
section
open Go SX
set_option maxHeartbeats 4000000
variable {fl:Nat} {H G:a0f} {R:a0G} {v w u:Value} {F:RK}
theorem N0Z {a b D:Int} (hD:D ≠ 0):Rat.divInt a D + Rat.divInt b D=Rat.divInt (a + b) D:=by
 rw [Rat.divInt_add_divInt _ _ hD hD,← Int.add_mul,Rat.divInt_mul_right hD]
theorem Z0F {b D:Int}:-Rat.divInt b D=Rat.divInt (-b) D:=by
 first
 | rw [Rat.neg_divInt]
 | rw [← Rat.neg_divInt]
theorem Z0G {a b D:Int} (hD:D ≠ 0):Rat.divInt a D - Rat.divInt b D=Rat.divInt (a - b) D:=by
 rw [Rat.sub_eq_add_neg,Z0F,N0Z hD,j1F]
theorem V0B {D:Int}:Rat.divInt 0 D=0:=Rat.zero_divInt D
def ptq (n:Nat) (base:Nat→Nat) (Fv:Nat→Int) (q k:Nat):Int:=sm (fun i=>if base i=k then Fv i else if base i=n + k then -Fv i else 0) q
theorem r0Y {n:Nat} {base:Nat→Nat} {Fv:Nat→Int} {K k:Nat}:∀ {q:Nat},(∀ i,i < q→lz (Fv i)≤K)→lz (ptq n base Fv q k)≤K + q
 | 0,_=>by unfold ptq;rw [sm,d0C];omega
 | q + 1,h=>by
  have h1:=r0Y (n:=n) (base:=base) (k:=k) (q:=q) (fun i hi=>h i (by omega))
  have h2:=h q (by omega)
  have h3:∀ z,lz z≤K→lz (ptq n base Fv q k + z)≤K + (q + 1):=fun z hz=>by
   have:=o0s (ptq n base Fv q k) z;omega
  show lz (ptq n base Fv q k + if base q=k then Fv q else if base q=n + k then -Fv q else 0)≤_
  split
  ·exact h3 _ h2
  ·split
   ·exact h3 _ (by rw [h0c];exact h2)
   ·exact h3 _ (by rw [d0C];omega)
theorem g0m {n j:Nat} {f g:Nat→b0q} (h:∀ k,k < n→k ≠ j→g k=f k):((List.range n).map f).set j (g j)=(List.range n).map g:=by
 apply List.ext_getElem
 ·simp
 ·intro k h1 h2
  rw [List.getElem_set]
  simp only [i1x,k1s]
  split
  ·rename_i h3;rw [h3]
  ·rename_i h3;rw [h k (by simpa using h2) (fun h4=>h3 h4.symm)]
theorem t0g {f0 p n m:Nat} {L:List (List Int)} {k D x:Int} {bs:List Nat} {sR sD sB vx:Value} {vs:List Value} (h:e0M F f0 H p n m L D bs k sR sD sB vs) (hf:fl≤H.size) (hx:rV F H vx x) (lx:lz x < 67108864) (lD:lz D < 67108864) (hD0:D ≠ 0) :
  a0S env fl (F.p r0K r0J) [.pointer (some ⟨p,0,none⟩),vx] H (fun r H'=>b0L H' r (a0e (Rat.divInt x D))∧Ext H H') R:=by
 cases F
 ·obtain ⟨rfl,hx⟩:=hx
  exact n0R hf h.blk hx h.d hD0
 ·exact n0G hf h.blk h.d hx lx lD hD0
theorem y0O {f0 p n m:Nat} {L:List (List Int)} {k D:Int} {bs:List Nat} {sR sD sB:Value} {vs:List Value} {g:FuncId} {caps:Array Value} {Fv:Nat→Int} (h:e0M F f0 H p n m L D bs k sR sD sB vs) (hf:fl≤H.size) (hS:ShT n m L bs) (hlD:lz D < 60000000) (hD0:D ≠ 0) (hF:∀ i,i < m→lz (Fv i)≤59999999) (hm:m < 1048576) (hn:n < 1048576)
  (hg:∀ (fl i:Nat) (G:a0f) (R':a0G),Ext H G→fl≤G.size→i < m→a0S env fl g (.int .i64 (i:Int) :: caps.toList) G (fun r G'=>rV F G' r (Fv i)∧Ext G G') R') :
  a0S env fl (l0B F) [.pointer (some ⟨p,0,none⟩),.func (.func g) #[] caps] H (fun r H'=>b0e PR H.size H' a0b 4 r ((List.range n).map fun k=>a0e (Rat.divInt (ptq n (bf bs) Fv m k) D))∧Ext H H') R:=by
 refine a0i K0W hf (h:=?_)
 intro ρ h0
 have hbk:=h.blk
 have hmk:=h0d (bytes:=64) (k:=.i64) (k':=.i64) (l:=n) (c:=n) (h1A _) (by omega) (by omega)
 simp [h0U,o0Y,o0Z,h0,hbk,hmk]
 generalize hN:Array.push H _=G
 obtain ⟨hx,b0⟩:=g0r hN
 clear hN
 obtain ⟨hr1,hr2⟩:=r0d G n
 have ho:b0e PR H.size G a0b 4 (.slice (some ⟨H.size,0,none⟩) n n) ((List.range n).map fun k=>if k < 0 then a0e 0 else d0P):=by
  refine ⟨_,by simpa using Own.mk (n:=n) (sz:=4) (cap:=n) b0 hr1 (h1A _),fun k hk=>?_⟩
  simp only [i1x,k1s]
  rw [h1C (by omega)]
  exact hr2 k (by simpa using hk)
 have hsl:=ho.slen
 simp only [i1P,List.length_range] at hsl
 clear b0 hr1 hr2 hmk hbk
 simp [p0a,hsl]
 refine d0Q (n:=n) (fun k ρ G=>ρ 0=.pointer (some ⟨p,0,none⟩)∧ρ 1=.func (.func g) #[] caps∧Ext H G∧b0e PR H.size G a0b 4 (ρ 5) ((List.range n).map fun j=>if j < k then a0e 0 else d0P)) rfl rfl (by decide) (by omega) (by simp) (by simp) ?_ ?_ ?_ ?_
 ·exact ⟨by simp [h0],by simp [h0],hx,by simpa using ho⟩
 ·intro i ρ ρ' G h hI;simpa [h] using hI
 ·clear h0 ρ hx ho hsl
  rintro k ρ G hk gk gn ⟨g0,g1,hx,ho⟩
  obtain ⟨s,g5⟩:∃ s,ρ 5=s:=⟨_,rfl⟩
  rw [g5] at ho
  simp [p0b,p0c,gk,g5]
  refine (e0S (n:=0) hx.1 (by omega) (by omega)).mono ?_
  rintro _ G2 ⟨⟨s1,s2,rfl,k1,k2⟩,hx2⟩
  replace ho:=ho.mono a0u hx2
  replace hx:=hx.trans hx2
  have hkl:k < ((List.range n).map fun j=>if j < k then a0e 0 else d0P).length:=by simpa using hk
  have hz0:((0:Int):Rat)=0:=rfl
  rw [hz0] at k1 k2
  obtain ⟨G3,hst,ho2,hxb⟩:=b0e.store (x:=a0e 0) (w:=.agg #[.bool (a0e 0).1.1,s1,.bool (a0e 0).2.1,s2]) ho hkl (by decide) rfl (by simp [k1.plain,k2.plain]) (fun G' _ hl=>⟨s1,s2,rfl,k1.lx hl,k2.lx hl⟩) (by decide) (fun G' cs y _ hl h=>b0L.lx h hl)
  have ia:=ho.sls.ia (k:=.i64) hkl
  simp [gk,g5,ia,hst]
  have hset:=g0m (n:=n) (j:=k) (f:=fun j=>if j < k then a0e 0 else d0P) (g:=fun j=>if j < k + 1 then a0e 0 else d0P) (fun j _ hj=>by
   have:(j < k + 1)=(j < k):=k1B (by omega)
   simp only [this])
  simp only [h1F (Nat.lt_succ_self k)] at hset
  rw [hset] at ho2
  exact Rnd.mk (by simp [gk]) (by simp [gn]) ⟨by simp [g0],by simp [g1],l0z hx hxb (fun b hb=>(ho.ge hb).1),by simpa [g5] using ho2⟩
 ·clear h0 ρ hx ho hsl
  rintro ρ G gk gn ⟨g0,g1,hx,ho⟩
  have hG:=h.mono hx
  have hbk:=hG.blk
  have hslB:=hG.basis.sls.slen
  rw [hS.base] at hslB
  simp [p0d,g0,hbk,hslB]
  have hst0:((List.range n).map fun j=>if j < n then a0e 0 else d0P)=(List.range n).map fun k=>a0e (Rat.divInt (ptq n (bf bs) Fv 0 k) D):=by
   apply i1T
   intro j hj
   rw [h1F (by simpa using hj)]
   unfold ptq
   rw [sm,V0B]
  rw [hst0] at ho
  refine d0Q (n:=m) (fun q ρ G=>ρ 0=.pointer (some ⟨p,0,none⟩)∧ρ 1=.func (.func g) #[] caps∧ρ 27=sB∧Ext H G∧b0e PR H.size G a0b 4 (ρ 5) ((List.range n).map fun k=>a0e (Rat.divInt (ptq n (bf bs) Fv q k) D))) rfl rfl (by decide) (by omega) (by simp) (by simp) ?_ ?_ ?_ ?_
  ·exact ⟨by simp [g0],by simp [g1],by simp,hx,by simpa using ho⟩
  ·intro i ρ ρ' G h hI;simpa [h] using hI
  ·clear hx ho gk gn g0 g1 hst0 hG hbk hslB ρ G
   rintro q ρ G hq gq gm ⟨g0,g1,g27,hx,ho⟩
   obtain ⟨s,g5⟩:∃ s,ρ 5=s:=⟨_,rfl⟩
   rw [g5] at ho
   have hG:=h.mono hx
   have hbk:=hG.blk
   obtain ⟨lb,ib⟩:=hG.base (show q < bs.length by rw [hS.base];exact hq)
   obtain ⟨j,hj⟩:∃ j,j=bf bs q:=⟨_,rfl⟩
   rw [← hj] at lb
   have w2:IntKind.i64.wrap (2 * (n:Int))=2 * (n:Int):=a0Y (by omega) (by omega)
   simp [p0e,gq,g27,ib,lb,m0N,g0,hbk]
   have hsucc:∀ k,ptq n (bf bs) Fv (q + 1) k=ptq n (bf bs) Fv q k + if j=k then Fv q else if j=n + k then -Fv q else 0:=fun k=>by
    show ptq n (bf bs) Fv q k + _=_;rw [hj]
   by_cases hjn:j < n
   ·simp [hjn,show ¬ n≤j by omega]
    have hjl:j < ((List.range n).map fun k=>a0e (Rat.divInt (ptq n (bf bs) Fv q k) D)).length:=by simpa using hjn
    have ia:=ho.sls.ia (k:=.i64) hjl
    obtain ⟨wx,ex,kx⟩:=a0O.load ho.sls hjl
    simp only [i1x,k1s] at kx
    refine a0B ?_
    simp [m0O,g0,g1,g5,gq,ia,ex]
    refine (hg _ q G _ hx (by have:=hx.1;omega) hq).mono ?_
    rintro wf G2 ⟨kf,hx2⟩
    have hG2:=hG.mono hx2
    replace kx:=kx.mono hx2
    replace ho:=ho.mono a0u hx2
    replace hx:=hx.trans hx2
    simp [g0]
    refine (t0g hG2 (by have:=hx.1;omega) kf (by have:=hF q hq;omega) (by omega) hD0).mono ?_
    rintro wv G3 ⟨kv,hx2⟩
    replace kx:=kx.mono hx2
    replace ho:=ho.mono a0u hx2
    replace hx:=hx.trans hx2
    simp
    have hlp:=r0Y (n:=n) (base:=bf bs) (Fv:=Fv) (K:=59999999) (k:=j) (q:=q) (fun i hi=>hF i (by omega))
    have hs1:=b0W (ptq n (bf bs) Fv q j) D
    have hs2:=b0W (Fv q) D
    have hfq:=hF q hq
    refine (c0j kx kv hx.1 (by rw [a0I];omega) (by rw [a0I];omega)).mono ?_
    rintro _ G4 ⟨⟨s1,s2,rfl,k1,k2⟩,hx2⟩
    replace ho:=ho.mono a0u hx2
    replace hx:=hx.trans hx2
    rw [a0D,a0D,N0Z hD0] at k1 k2 ⊢
    have hsj:=hsucc j
    rw [h1F rfl] at hsj
    rw [← hsj] at k1 k2 ⊢
    obtain ⟨G5,hst,ho2,hxb⟩:=b0e.store (x:=a0e (Rat.divInt (ptq n (bf bs) Fv (q + 1) j) D)) (w:=.agg #[.bool (a0e (Rat.divInt (ptq n (bf bs) Fv (q + 1) j) D)).1.1,s1,.bool (a0e (Rat.divInt (ptq n (bf bs) Fv (q + 1) j) D)).2.1,s2]) ho hjl (by decide) rfl (by simp [k1.plain,k2.plain]) (fun G' _ hl=>⟨s1,s2,rfl,k1.lx hl,k2.lx hl⟩) (by decide) (fun G' cs y _ hl h=>b0L.lx h hl)
    simp [g5,ia,hst]
    have hset:=g0m (n:=n) (j:=j) (f:=fun k=>a0e (Rat.divInt (ptq n (bf bs) Fv q k) D)) (g:=fun k=>a0e (Rat.divInt (ptq n (bf bs) Fv (q + 1) k) D)) (fun k _ hk=>by
     rw [hsucc k,h1C (fun h=>hk h.symm),h1C (by omega),j1g])
    rw [hset] at ho2
    exact Rnd.mk (by simp [gq]) (by simp [gm]) ⟨by simp [g0],by simp [g1],by simp [g27],l0z hx hxb (fun b hb=>(ho.ge hb).1),by simpa [g5] using ho2⟩
   ·have hge:n≤j:=by omega
    simp [hjn,hge,m0P,g0,hbk,w2]
    by_cases hjt:j < 2 * n
    ·simp [show (j:Int) < 2 * (n:Int) by omega,show ¬ 2 * (n:Int)≤(j:Int) by omega]
     have hjl:j - n < ((List.range n).map fun k=>a0e (Rat.divInt (ptq n (bf bs) Fv q k) D)).length:=by simp;omega
     have ia:=ho.sls.ia (k:=.i64) hjl
     have wj:IntKind.i64.wrap ((j:Int) - (n:Int))=((j - n:Nat):Int):=by
      rw [a0Y (by omega) (by omega)];omega
     obtain ⟨wx,ex,kx⟩:=a0O.load ho.sls hjl
     simp only [i1x,k1s] at kx
     refine a0B ?_
     simp [m0Q,g0,g1,g5,gq,hbk,wj,ia,ex]
     refine (hg _ q G _ hx (by have:=hx.1;omega) hq).mono ?_
     rintro wf G2 ⟨kf,hx2⟩
     have hG2:=hG.mono hx2
     replace kx:=kx.mono hx2
     replace ho:=ho.mono a0u hx2
     replace hx:=hx.trans hx2
     simp [g0]
     refine (t0g hG2 (by have:=hx.1;omega) kf (by have:=hF q hq;omega) (by omega) hD0).mono ?_
     rintro wv G3 ⟨kv,hx2⟩
     replace kx:=kx.mono hx2
     replace ho:=ho.mono a0u hx2
     replace hx:=hx.trans hx2
     simp
     have hlp:=r0Y (n:=n) (base:=bf bs) (Fv:=Fv) (K:=59999999) (k:=j - n) (q:=q) (fun i hi=>hF i (by omega))
     have hs1:=b0W (ptq n (bf bs) Fv q (j - n)) D
     have hs2:=b0W (Fv q) D
     have hfq:=hF q hq
     refine (s0K kx kv (by have:=hx.1;omega) (by rw [a0I];omega) (by rw [a0I];omega)).mono ?_
     rintro _ G4 ⟨⟨s1,s2,rfl,k1,k2⟩,hx2⟩
     replace ho:=ho.mono a0u hx2
     replace hx:=hx.trans hx2
     rw [a0D,a0D,Z0G hD0] at k1 k2 ⊢
     have hsj:=hsucc (j - n)
     rw [h1C (by omega),h1F (by omega),← j1F] at hsj
     rw [← hsj] at k1 k2 ⊢
     obtain ⟨G5,hst,ho2,hxb⟩:=b0e.store (x:=a0e (Rat.divInt (ptq n (bf bs) Fv (q + 1) (j - n)) D)) (w:=.agg #[.bool (a0e (Rat.divInt (ptq n (bf bs) Fv (q + 1) (j - n)) D)).1.1,s1,.bool (a0e (Rat.divInt (ptq n (bf bs) Fv (q + 1) (j - n)) D)).2.1,s2]) ho hjl (by decide) rfl (by simp [k1.plain,k2.plain]) (fun G' _ hl=>⟨s1,s2,rfl,k1.lx hl,k2.lx hl⟩) (by decide) (fun G' cs y _ hl h=>b0L.lx h hl)
     simp [g5,ia,hst]
     have hset:=g0m (n:=n) (j:=j - n) (f:=fun k=>a0e (Rat.divInt (ptq n (bf bs) Fv q k) D)) (g:=fun k=>a0e (Rat.divInt (ptq n (bf bs) Fv (q + 1) k) D)) (fun k _ hk=>by
      rw [hsucc k,h1C (by omega),h1C (by omega),j1g])
     rw [hset] at ho2
     exact Rnd.mk (by simp [gq]) (by simp [gm]) ⟨by simp [g0],by simp [g1],by simp [g27],l0z hx hxb (fun b hb=>(ho.ge hb).1),by simpa [g5] using ho2⟩
    ·simp [show 2 * (n:Int)≤(j:Int) by omega,show ¬ (j:Int) < 2 * (n:Int) by omega]
     have hset:((List.range n).map fun k=>a0e (Rat.divInt (ptq n (bf bs) Fv q k) D))=(List.range n).map fun k=>a0e (Rat.divInt (ptq n (bf bs) Fv (q + 1) k) D):=by
      apply i1T
      intro k hk
      have hk:k < n:=by simpa using hk
      rw [hsucc k,h1C (by omega),h1C (by omega),j1g]
     rw [hset] at ho
     exact Rnd.mk (by simp [gq]) (by simp [gm]) ⟨by simp [g0],by simp [g1],by simp [g27],hx,by simpa [g5] using ho⟩
  ·rintro ρ G gk gn ⟨g0,g1,g27,hx,ho⟩
   simp [m0R]
   exact fun _=>ho
def j0m (L:List (List Int)) (g n:Nat) (D:Int) (bs:List Rat) (c:Rat) (i:Nat):Rat:=Rat.divInt (Tf L g (2 * n + i)) D * bs.getD i 0 / c
theorem o0k {f0 p n m g:Nat} {L:List (List Int)} {k D:Int} {bs:List Nat} {sR sD sB:Value} {vs:List Value} {q:ScT} {c:Rat} (h:e0M F f0 H p n m L D bs k sR sD sB vs) (hf:fl≤H.size) (hS:ShT n m L bs) (hq:SV H v q) (hql:q.bs.length=m) (hc:b0L H w (a0e c)) (hg:g < m + 2) (hlD:lz D < 16777216) (hD0:D ≠ 0) (hF:∀ i,i < m→lz (Tf L g (2 * n + i)) < 16777216) (hK:∀ x ∈ q.bs,szR x < 16777216) (hcs:szR c < 16777216) (hc0:c ≠ 0) (hm:m < 1048576) (hn:n < 1048576) :
  a0S env fl (l0A F) [.pointer (some ⟨p,0,none⟩),.int .i64 (g:Int),v,w] H (fun r H'=>b0e PR H.size H' a0b 4 r ((List.range m).map fun i=>a0e (j0m L g n D q.bs c i))∧Ext H H') R:=by
 obtain ⟨sA,sB',sC,s1,s2,rfl,kA,kB,kC,k1,k2⟩:=hq
 obtain ⟨s3,s4,rfl,k3,k4⟩:=hc
 refine a0i K0V hf (h:=?_)
 intro ρ h0
 have c1:=k1.cells;have c2:=k2.cells;have c3:=k3.cells;have c4:=k4.cells
 simp [h0T,o0y,h0,kA.cells,kB.cells,kC.cells,c1,c2,c3,c4]
 generalize hN:Array.push (Array.push H _) _=G
 obtain ⟨hx,b0,b1⟩:=push2 hN
 clear hN
 have hbk:=(h.mono hx).blk
 simp [o0z,o0A,h0,hbk]
 refine d0Q (n:=m) (fun i ρ G=>ρ 0=.pointer (some ⟨p,0,none⟩)∧ρ 1=.int .i64 (g:Int)∧ρ 6=.pointer (some ⟨H.size,0,none⟩)∧ρ 7=.pointer (some ⟨H.size + 1,0,none⟩)∧Ext H G∧a0f.blk G H.size=.row false a0P [.int .i64 q.n,sA,sB',sC,.bool (a0e q.cb).1.1,s1,.bool (a0e q.cb).2.1,s2]∧a0f.blk G (H.size + 1)=.row false a0b [.bool (a0e c).1.1,s3,.bool (a0e c).2.1,s4]∧(∀ b,slB (ρ 9)=some b→H.size + 2≤b)∧b0e PR H.size G a0b 4 (ρ 9) ((List.range i).map fun i=>a0e (j0m L g n D q.bs c i))) rfl rfl (by decide) (by omega) (by simp) (by simp) ?_ ?_ ?_ ?_
 ·exact ⟨by simp [h0],by simp [h0],by simp,by simp,hx,b0,b1,by simp [slB],by simpa using b0e.nil⟩
 ·intro i ρ ρ' G h hI;simpa [h] using hI
 ·clear h0 ρ hx b0 b1 hbk
  rintro i ρ G hi gi gn ⟨g0,g1,g6,g7,hx,b0,b1,hnb,ho⟩
  obtain ⟨s,g9⟩:∃ s,ρ 9=s:=⟨_,rfl⟩
  rw [g9] at ho hnb
  have hG:=h.mono hx
  have hbk:=hG.blk
  have hLl:=hS.len
  have hgL:g < L.length:=by omega
  have hcL:2 * n + i < L[g].length:=by rw [hS.row g hgL];omega
  have eh:=hG.head hgL
  have ehi:=hG.hia hgL
  obtain ⟨wt,et,kt⟩:=hG.num hgL hcL
  have ej:=hG.ia hgL hcL
  obtain ⟨jj,hjj⟩:∃ jj:Nat,jj=2 * n + i:=⟨_,rfl⟩
  rw [← hjj] at et ej
  obtain ⟨vg,hvg⟩:∃ x,x=vs[g]'(by have:=hG.rows.len;omega):=⟨_,rfl⟩
  rw [← hvg] at eh et ej
  have w2:IntKind.i64.wrap (2 * (n:Int))=2 * (n:Int):=a0Y (by omega) (by omega)
  have w3:IntKind.i64.wrap (2 * (n:Int) + (i:Int))=(jj:Int):=by rw [a0Y (by omega) (by omega)];omega
  have hib:i < (q.bs.map a0e).length:=by simp;omega
  have kB':=kB.mono a0u hx
  have ib:=kB'.ia (k:=.i64) hib
  simp [o0B,gi]
  refine a0B ?_
  simp [o0C,g0,g1,g6,hbk,eh,ehi,w2,w3,ej,et]
  refine (t0g hG (by have:=hx.1;omega) kt (by have:=hF i hi;omega) (by omega) hD0).mono ?_
  rintro wv G2 ⟨kv,hx2⟩
  replace ho:=ho.mono a0u hx2
  replace b0:=hx2.blk b0
  replace b1:=hx2.blk b1
  replace hx:=hx.trans hx2
  have kB2:=kB.mono a0u hx
  have ib:=kB2.ia (k:=.i64) hib
  obtain ⟨wx,ex,kx⟩:=a0O.load kB2 hib
  rw [i1x] at kx
  have hbx:szR q.bs[i] < 16777216:=hK _ (h1I _)
  have hfi:=hF i hi
  have hsd:=b0W (Tf L g (2 * n + i)) D
  simp [g6,b0,ib,ex]
  refine (h0w kv kx (by have:=hx.1;omega) (by rw [a0I];omega) (by rw [a0I];omega)).mono ?_
  rintro wm G3 ⟨km,hx2⟩
  replace ho:=ho.mono a0u hx2
  replace b1:=hx2.blk b1
  replace b0:=hx2.blk b0
  replace hx:=hx.trans hx2
  rw [a0D,a0D] at km
  have hsm:=h0D (Rat.divInt (Tf L g (2 * n + i)) D) q.bs[i]
  have kc:b0L G3 (.agg #[.bool (a0e c).1.1,s3,.bool (a0e c).2.1,s4]) (a0e c):=⟨s3,s4,rfl,k3.mono hx,k4.mono hx⟩
  simp [g7,b1]
  refine (s0J km kc (by have:=hx.1;omega) (by rw [a0I];omega) (by rw [a0I];omega) (by rw [a0D];exact hc0)).mono ?_
  rintro _ G4 ⟨⟨wd,rfl,s5,s6,rfl,k5,k6⟩,hx2⟩
  replace ho:=ho.mono a0u hx2
  replace b0:=hx2.blk b0
  replace b1:=hx2.blk b1
  replace hx:=hx.trans hx2
  rw [a0D,a0D] at k5 k6 ⊢
  have hdual:Rat.divInt (Tf L g (2 * n + i)) D * q.bs[i] / c=j0m L g n D q.bs c i:=by
   unfold j0m;rw [h1z,h1E (by omega)];rfl
  rw [hdual] at k5 k6 ⊢
  have hfl:=hx.1
  have c5:=k5.cells;have c6:=k6.cells
  simp [hfl,c5,c6,k5.plain,k6.plain]
  generalize hN:Array.setIfInBounds (Array.push _ _) _ _=G5
  obtain ⟨hx2,b5⟩:=new1 hN
  clear hN
  replace ho:=ho.mono a0u hx2
  replace b0:=hx2.blk b0
  replace b1:=hx2.blk b1
  replace k5:=k5.mono hx2
  replace k6:=k6.mono hx2
  replace hx:=hx.trans hx2
  obtain ⟨s',G6,h1,h2,h3,h4⟩:=b0e.app (P:=PR) (sz:=4) (e:=a0b) (by decide) (fun G' cs x _ hl h=>b0L.lx h hl) ho (e2:=a0b) (c:=1) (bytes:=64) (new:=[.bool (a0e (j0m L g n D q.bs c i)).1.1,s5,.bool (a0e (j0m L g n D q.bs c i)).2.1,s6]) (x:=a0e (j0m L g n D q.bs c i)) ⟨s5,s6,rfl,k5,k6⟩ rfl (by simp [k5.plain,k6.plain]) (by simp;omega) (by omega) (by omega) hx.1
  obtain ⟨m1,c1',hfr⟩:=e0t (by decide) h1
  simp [o0D,g9,b5,c5,c6,h1]
  exact Rnd.mk (by simp [gi]) (by simp [gn]) ⟨by simp [g0],by simp [g1],by simp [g6],by simp [g7],h4 _ (h1A _) hx,(h3.2 _ (a0l b0) (fun h=>by have:=hnb _ h;omega)).trans b0,(h3.2 _ (a0l b1) (fun h=>by have:=hnb _ h;omega)).trans b1,by
   have hsz:=hx2.1
   have hsz2:=hx.1
   rw [hfr];simp [slB];have:=a0l b1;have:=a0l b5;omega,b0e.cast (v':=s') (by simp) (by rw [k1w,k1t];exact h2)⟩
 ·rintro ρ G gi gn ⟨g0,g1,g6,g7,hx,b0,b1,hnb,ho⟩
  obtain ⟨s,g9⟩:∃ s,ρ 9=s:=⟨_,rfl⟩
  rw [g9] at ho hnb
  simp [o0E,g9]
  exact fun _=>ho
theorem r0h {f0 p P n m i:Nat} {L:List (List Int)} {k D:Int} {bs:List Nat} {sR sD sB:Value} {vs:List Value} (h:e0M F f0 H p n m L D bs k sR sD sB vs) (hf:fl≤H.size) (hS:ShT n m L bs) (hP:H.blk P=.row false (F.p a0M a0H) [.pointer (some ⟨p,0,none⟩)]) (hi:i < m + 2) :
  a0S env fl (k0m F) [.int .i64 (i:Int),.pointer (some ⟨P,0,none⟩)] H (fun r H'=>rV F H' r (Tf L i (2 * n + m))∧Ext H H') R:=by
 refine a0i y0b hf (h:=?_)
 intro ρ h0
 have hiL:i < L.length:=by rw [hS.len];exact hi
 have hcL:2 * n + m < L[i].length:=by rw [hS.row i hiL];omega
 obtain ⟨jj,hjj⟩:∃ jj:Nat,jj=2 * n + m:=⟨_,rfl⟩
 rw [← hjj] at hcL ⊢
 have e2:2 * (n:Int) + m=(jj:Int):=by omega
 cases F
 ·simp [e0n,h0t,h0]
  obtain ⟨vi,wt,-,eh,ehi,ej,en,fw⟩:=h.cell hiL hcL
  simp only [RK.w,RK.b,RK.p_few] at ej en hP
  have hbk:=h.blk
  refine a0B ?_
  simp [h0u,h0,hP,hbk,eh,ehi,e2,ej,en]
  exact fw
 ·simp [e0n,h0t,h0]
  generalize hN:Array.push H _=G
  have hx:Ext H G:=by rw [← hN];exact (Ext.refl H).push
  replace h:=h.mono hx
  replace hP:=hx.blk hP
  obtain ⟨vi,wt,-,eh,ehi,ej,en,fw⟩:=h.cell hiL hcL
  simp only [RK.w,RK.b,RK.p_all] at ej en hP
  have hbk:=h.blk
  refine a0B ?_
  obtain ⟨sx,rfl,kx⟩:=fw
  simp [h0u,h0,hP,hbk,eh,ehi,e2,ej,en]
  subst hN
  simp [hf,kx.cells,kx.plain]
  generalize hN:Array.setIfInBounds (Array.push _ _) _ _=G5
  obtain ⟨hx5,b5⟩:=new1 hN
  exact ⟨sx,rfl,kx.setS hN a0C (by decide)⟩
end
section
open Go
set_option maxHeartbeats 4000000
variable {H G:a0f} {v:Value} {rows:List (List b0q)} {x:List b0q}
theorem t0k {d:List d0h} {p:List b0q→d0h→Bool}:p0v id (List.zipWith p rows d)=true ↔ ∀ i (h:i < rows.length) (k:i < d.length),p rows[i] d[i]=true:=by
 unfold p0v
 rw [i1p]
 constructor
 ·intro h i h1 h2
  have:=h ((List.zipWith p rows d)[i]'(by simp;omega)) (h1I _)
  rwa [List.getElem_zipWith] at this
 ·intro h y hy
  obtain ⟨i,hi,rfl⟩:=i1O hy
  rw [List.getElem_zipWith]
  have hi':i < rows.length∧i < d.length:=by rw [List.length_zipWith] at hi;omega
  exact h i hi'.1 hi'.2
theorem L0k {d:List d0h}:Z0h rows d x=true ↔ d.length=rows.length∧∀ i (h:i < rows.length) (k:i < d.length),rows[i].length=x.length∧¬ 0 < K0r (0,d0V rows[i] x rows[i].length) (i0u d[i]):=by
 unfold Z0h
 rw [h1S,i1w,t0k]
 unfold L0j
 simp only [h1S,i1w,j1l,decide_eq_false_iff_not]
theorem j0G:∀ {rows:List (List b0q)} {d:List d0h} {r:List b0q},r ∈ b0J rows d→∃ q ∈ rows,r=h0P q
 | [],_,r,h=>by simp [b0J] at h
 | _ :: _,[],r,h=>by simp [b0J] at h
 | q :: rs,e :: es,r,h=>by
  simp only [b0J] at h
  split at h
  ·rcases j1G.1 h with rfl | h
   ·exact ⟨q,by simp,rfl⟩
   ·obtain ⟨q',h1,h2⟩:=j0G h;exact ⟨q',by simp [h1],h2⟩
  ·obtain ⟨q',h1,h2⟩:=j0G h;exact ⟨q',by simp [h1],h2⟩
theorem m0z:∀ {rows:List (List b0q)} {d:List d0h} {r:b0q},r ∈ c0N rows d→∃ e ∈ d,r=a0e (b0o e.2)
 | [],_,r,h=>by simp [c0N] at h
 | _ :: _,[],r,h=>by simp [c0N] at h
 | q :: rs,e :: es,r,h=>by
  simp only [c0N] at h
  split at h
  ·rcases j1G.1 h with rfl | h
   ·exact ⟨e,by simp,rfl⟩
   ·obtain ⟨q',h1,h2⟩:=m0z h;exact ⟨q',by simp [h1],h2⟩
  ·obtain ⟨q',h1,h2⟩:=m0z h;exact ⟨q',by simp [h1],h2⟩
theorem LPV.mono {p:LPt} (h:LPV H v p) (hx:Ext H G):LPV G v p:=by
 obtain ⟨a,b,c,h1,h2,h3,h4⟩:=h
 exact ⟨a,b,c,h1,h2.mono b0F hx,h3.mono a0u hx,h4.mono a0u hx⟩
end
section
open Go SX
set_option maxHeartbeats 4000000
variable {fl:Nat} {H G:a0f} {R:a0G} {v w u:Value} {F:RK}
structure t0a where
 kind:Int
 V:Rat
 X:List Rat
 Y:List Rat
 Ray:List Rat
def z0x (H:a0f) (v:Value) (a:t0a):Prop:=∃ s1 s2 sX sY sR,v=.agg #[.int .i64 a.kind,.bool (a0e a.V).1.1,s1,.bool (a0e a.V).2.1,s2,sX,sY,sR] ∧
 Lim H s1 (a0e a.V).1.2∧Lim H s2 (a0e a.V).2.2∧a0O H sX (a.X.map a0e)∧a0O H sY (a.Y.map a0e)∧a0O H sR (a.Ray.map a0e)
theorem z0x.mono {a:t0a} (h:z0x H v a) (hx:Ext H G):z0x G v a:=by
 obtain ⟨s1,s2,sX,sY,sR,h1,h2,h3,h4,h5,h6⟩:=h
 exact ⟨s1,s2,sX,sY,sR,h1,h2.mono hx,h3.mono hx,h4.mono a0u hx,h5.mono a0u hx,h6.mono a0u hx⟩
def U0q (q:ScT) (n m:Nat) (T:Nat→Nat→Int) (base:Nat→Nat) (D:Int):Prop:=Tab m (2 * n + m) (i0a n m (Tf q.A) (bbq q n) (ccq q)) (fun i=>bbq q n i < 0) T base D
def a1P (q:ScT) (n m:Nat) (a:t0a):Prop:=∃ T base D,U0q q n m T base D∧a.kind=2∧a.V=0∧a.X=[]∧a.Ray=[]∧(∀ c,c < 2 * n + m→0≤T m c)∧T m (2 * n + m) < 0∧a.Y=(List.range m).map fun i=>Rat.divInt (T m (2 * n + i)) D * q.bs.getD i 0 / 1
def a1O (q:ScT) (C:List b0q) (n m:Nat) (a:t0a):Prop:=∃ T base D,U0q q n m T base D∧a.kind=1∧a.Ray=[]∧(∀ i,i < m→¬ base i < 2 * n + m→T i (2 * n + m)=0)∧(∀ c,c < 2 * n + m→0≤T (m + 1) c) ∧
 a.X=((List.range n).map fun k=>Rat.divInt (ptq n base (fun i=>T i (2 * n + m)) m k) D)∧(a.Y=(List.range m).map fun i=>Rat.divInt (T (m + 1) (2 * n + i)) D * q.bs.getD i 0 / q.cb)∧a.V=d0V C (a.X.map a0e) n
def p0s (q:ScT) (C:List b0q) (n m:Nat) (r:Value) (H':a0f):Prop:=∃ ans a k,r=.tuple #[ans,.int .i64 k]∧z0x H' ans a∧(a1P q n m a ∨ a1O q C n m a)
theorem SV.mono {q:ScT} (h:SV H v q) (hx:Ext H G):SV G v q:=by
 obtain ⟨sA,sB,sC,s1,s2,h1,h2,h3,h4,h5,h6⟩:=h
 exact ⟨sA,sB,sC,s1,s2,h1,h2.mono p0V hx,h3.mono a0u hx,h4.mono d0i hx,h5.mono hx,h6.mono hx⟩
theorem e0A.low {eN sz f0:Nat} {P:a0f→List Value→Int→Prop} {vs:List Value} {L:List (List Int)} (h:e0A eN sz P fl H vs L) (hf:f0≤fl):e0A eN sz P f0 H vs L :=
 ⟨h.len,fun i hi=>(h.own i hi).low hf,h.apart⟩
theorem f1m {r1 r2 r3 r4:Blk} (h:Array.push (Array.push (Array.push (Array.push H r1) r2) r3) r4=G):Ext H G∧a0f.blk G H.size=r1∧a0f.blk G (H.size + 1)=r2∧a0f.blk G (H.size + 2)=r3∧a0f.blk G (H.size + 3)=r4:=by
 subst h
 refine ⟨(Ext.refl H).push.push.push.push,?_,?_,?_,?_⟩ <;> simp [a0K]
theorem Frm.at_ {e b:Nat} {ro:Bool} {cs:List Value} (h:Frm F.T F.E H G) (hb:a0f.blk H b=.row ro e cs) (h1:e ≠ a0d:=by decide) (h2:e ≠ a0c:=by decide) (h3:e ≠ d0A:=by decide) (h4:e ≠ a0a:=by decide) (h5:e ≠ g0x:=by decide):a0f.blk G b=.row ro e cs :=
 h.2 e (by cases F;exact h1;exact h2) (by cases F;exact h3;exact h4) h5 _ _ _ hb
theorem Frm.atQ {b:Nat} {ro:Bool} {cs:List Value} (h:Frm F.T F.E H G) (hb:a0f.blk H b=.row ro F.Q cs):a0f.blk G b=.row ro F.Q cs :=
 h.2 F.Q (by cases F <;> decide) (by cases F <;> decide) (by cases F <;> decide) _ _ _ hb
theorem Z0z {q:ScT} {n m:Nat} {T:Nat→Nat→Int} {base:Nat→Nat} {D z:Int} (h:U0q q n m T base D) (he:(z = -1∧∀ c,c < 2 * n + m→0≤T m c) ∨ ∃ j:Nat,z=j∧j < 2 * n + m∧T m j < 0∧∀ i,i < m→T i j≤0):∀ c,c < 2 * n + m→0≤T m c:=by
 rcases he with ⟨_,h1⟩ | ⟨j,_,h1,h2,h3⟩
 ·exact h1
 ·have h4:=Tab.lack h (c:=j) (by omega)
  have h5:=h0A (f:=fun i=>-1 * (if base i < 2 * n + m then 0 else T i j)) (N:=m) (fun i hi=>by
   have:=h3 i hi
   split <;> omega)
  rw [e0W] at h5
  omega
theorem Z0A {q:ScT} {n m:Nat} {T:Nat→Nat→Int} {base:Nat→Nat} {D z:Int} (h:U0q q n m T base D) (hZ:Zr m (2 * n + m) T base) (hC:∀ c,ccq q c=0) (he:(z = -1∧∀ c,c < 2 * n + m→0≤T (m + 1) c) ∨ ∃ j:Nat,z=j∧j < 2 * n + m∧T (m + 1) j < 0∧∀ i,i < m→T i j≤0):z = -1∧∀ c,c < 2 * n + m→0≤T (m + 1) c:=by
 rcases he with h1 | ⟨j,_,h1,h2,h3⟩
 ·exact h1
 ·have h4:=(K0m h h1 h3 (fun i hi hb=>hZ i hi hb j (by omega))).2
  rw [e0o (fun k _=>by rw [hC];simp)] at h4
  omega
theorem o0m {S:Nat} {X:List Rat} (h:∀ x ∈ X,szR x≤S):Few S (X.map a0e):=by
 intro x hx
 obtain ⟨y,hy,rfl⟩:=j1h.1 hx
 exact ⟨by rw [a0I];exact h y hy,b0N _,b0N _⟩
theorem Few.mono' {S S':Nat} {X:List b0q} (h:Few S X) (hS:S≤S'):Few S' X:=fun x hx=>⟨h1R (h x hx).1 hS,(h x hx).2⟩
theorem p0H {H0 G':a0f} {f0:Nat} (hx:Ext H0 G) (hk:f0L f0 G G') (hf:H0.size≤f0):Ext H0 G' :=
 ⟨h1R hx.1 hk.size,fun b hb=>(hk.low b (by omega)).trans (hx.2 b hb)⟩
theorem e0M.floor {p n m f0:Nat} {L:List (List Int)} {k D:Int} {bs:List Nat} {sR sD sB:Value} {vs:List Value} (h:e0M F fl H p n m L D bs k sR sD sB vs) (hf:f0≤fl):e0M F f0 H p n m L D bs k sR sD sB vs :=
 ⟨h.blk,h1R hf h.low,h.d,h.heads.low hf,h.rows.low hf,h.basis.low hf⟩
theorem v0s {q:ScT} {p:LPt} {n m Z S:Nat} (hp:LPV H u p) (h:SV H v q) (hn0:q.n=n) (hAl:q.A.length=m) (hCl:q.C.length=n) (hpC:p.C.length=n) (hpF:Few S p.C) (hql:q.bs.length=m) (hrow:∀ r ∈ q.A,r.length=n + 1) (hf:fl≤H.size)
  (hzA:∀ r c,lz (Tf q.A r c) < 67108864) (hzC:∀ c,ccq q c=0) (hzL:∀ i c,i≤m→c≤2 * n + m→lz (s0Z q n m i c) < 67108864)
  (hB:∀ T base D,U0q q n m T base D→(∀ r c,r < m + 2→c≤2 * n + m→lz (T r c)≤Z)∧lz D≤Z) (hZ:(n + 1) * (2 * (Z + m + S) + 10) < 16777216) (hK:∀ x ∈ q.bs,szR x < 16777216) (hcs:szR q.cb < 16777216) (hc0:q.cb ≠ 0)
  (hm:m < 1048576) (hn:n < 1048576) (hR:q0u F R) :
  a0S env fl (m0d F) [eV,u,v] H (fun r H'=>p0s q p.C n m r H'∧Ext H H') R:=by
 have hp0:=hp
 have h00:=h
 obtain ⟨sA0,sB0,sC0,rfl,kA,kB,kC⟩:=hp
 obtain ⟨sA,sBy,sC,s1,s2,rfl,qA,qB,qC,q1,q2⟩:=h
 refine a0i z0Y hf (h:=?_)
 intro ρ h0
 have hZ1:2 * (Z + m + S) + 10 < 16777216:=by
  have:1 * (2 * (Z + m + S) + 10)≤(n + 1) * (2 * (Z + m + S) + 10):=h1J _ (by omega)
  omega
 simp [f0J,m0S,h0,kA.cells,kB.cells,kC.cells,qA.cells,qB.cells,qC.cells,q1.cells,q2.cells]
 generalize hG:Array.push (Array.push (Array.push (Array.push H _) _) _) _=G
 obtain ⟨hx,b0,b1,b2,b3⟩:=f1m hG
 clear hG
 have hsv:=h00.mono hx
 simp [m0T,b0,b2]
 refine a0S.mono (z0n hsv hn0 hAl hCl hrow hx.1 hzA (fun c=>by rw [hzC,d0C];decide) hzL hm hn hR) ?_
 rintro _ G2 ⟨⟨p',L,bs,sR,sD,sB,vs,rfl,hT,hS,hTf,hbs⟩,hx2⟩
 replace hT:=hT.floor hx.1
 have hxG:=hx.trans hx2
 have hsz:=hxG.1
 simp [hsz]
 generalize hN:Array.setIfInBounds (Array.push _ _) _ _=G3
 obtain ⟨hx3,b5⟩:=new1 hN
 clear hN
 replace hx2:=hx2.trans hx3
 replace b1:=hx2.blk b1
 replace b2:=hx2.blk b2
 replace b3:=hx2.blk b3
 replace hT:=hT.mono hx3
 replace hx:=hx.trans hx2
 clear hx2 hx3 hxG hsz hsv b0
 obtain ⟨P8,hP8⟩:∃ x,x=G2.size:=⟨_,rfl⟩
 rw [← hP8] at b5 ⊢
 clear hP8
 have hbk:=hT.blk
 have hTab:U0q q n m (Tf L) (bf bs) 1:=A0C.congr hTf hbs rfl
 have hBd:Bnd m (2 * n + m) (i0a n m (Tf q.A) (bbq q n) (ccq q)) (fun i=>bbq q n i < 0):=fun T base D hT=>by
  obtain ⟨h1,h2⟩:=hB T base D hT
  exact ⟨fun r c hr hc=>by have:=h1 r c hr hc;omega,by omega⟩
 have w1:IntKind.i64.wrap ((m:Int) + 1)=((m + 1:Nat):Int):=by rw [a0Y (by omega) (by omega)];omega
 obtain ⟨m1,hm1⟩:∃ x:Nat,x=m + 1:=⟨_,rfl⟩
 rw [← hm1] at w1
 refine a0B ?_
 simp [m0U,b5,hbk,w1]
 simp [m0V,b5]
 refine a0S.mono (x0D hT hx.1 hS hTab hBd (.inl rfl) hm hn hR) ?_
 rintro _ G4 ⟨⟨z1,rfl,hQ1⟩,hK1⟩
 clear hTf hbs hbk hTab hS hT
 obtain ⟨L,D,bs,k1,sD,hT,hS,hTab,-,hFr,hend⟩:=hQ1
 replace hx:=p0H hx hK1 (h1A _)
 replace b1:=hFr.at_ b1
 replace b2:=hFr.at_ b2
 replace b3:=hFr.at_ b3
 replace b5:=hFr.atQ b5
 clear hFr hK1
 have hbk:=hT.blk
 have hmL:m < L.length:=by rw [hS.len];omega
 have hcL:2 * n + m < L[m].length:=by rw [hS.row m hmL];omega
 have eh:=hT.head hmL
 have ehi:=hT.hia hmL
 obtain ⟨wt,en,fw⟩:=hT.num hmL hcL
 have ej:=hT.ia hmL hcL
 obtain ⟨jj,hjj⟩:∃ jj:Nat,jj=2 * n + m:=⟨_,rfl⟩
 rw [← hjj] at en ej fw hend
 obtain ⟨vi,hvi⟩:∃ x,x=vs[m]'(by have:=hT.rows.len;omega):=⟨_,rfl⟩
 rw [← hvi] at eh en ej
 have e2:2 * (n:Int) + m=(jj:Int):=by omega
 obtain ⟨hBz,hBd1⟩:=hB _ _ _ hTab
 have hz:=hBz m jj (by omega) (by omega)
 simp
 refine a0B ?_
 simp [m0W,b5,hbk,eh,ehi,e2,ej,en]
 refine a0S.mono (r0o fw hx.1 (by omega)) ?_
 rintro _ G5 ⟨rfl,hx5⟩
 replace b1:=hx5.blk b1
 replace b2:=hx5.blk b2
 replace b3:=hx5.blk b3
 replace b5:=hx5.blk b5
 replace hT:=hT.mono hx5
 replace hx:=hx.trans hx5
 clear hx5 en eh hbk
 by_cases hneg:Tf L m jj < 0
 ·have hcz:c0z (Tf L m jj) 0 = -1:=by unfold c0z;rw [h1F hneg]
  simp [hcz]
  refine e0y ?_
  simp [m0X]
  refine (e0S (n:=0) (by have:=hx.1;omega) (by omega) (by omega)).mono ?_
  rintro _ G6 ⟨⟨y1,y2,rfl,ky1,ky2⟩,hx6⟩
  have hz0:((0:Int):Rat)=0:=rfl
  rw [hz0] at ky1 ky2 ⊢
  replace b1:=hx6.blk b1
  replace b2:=hx6.blk b2
  replace b3:=hx6.blk b3
  replace b5:=hx6.blk b5
  replace hT:=hT.mono hx6
  replace hx:=hx.trans hx6
  clear hx6
  simp [b2,b5]
  refine (e0S (n:=1) (by have:=hx.1;omega) (by omega) (by omega)).mono ?_
  rintro w7 G7 ⟨kw7,hx7⟩
  have hz1:((1:Int):Rat)=1:=rfl
  rw [hz1] at kw7
  replace b1:=hx7.blk b1
  replace b2:=hx7.blk b2
  replace b3:=hx7.blk b3
  replace b5:=hx7.blk b5
  replace ky1:=ky1.mono hx7
  replace ky2:=ky2.mono hx7
  replace hT:=hT.mono hx7
  replace hx:=hx.trans hx7
  clear hx7
  simp
  refine (o0k (q:=q) hT (by have:=hx.1;omega) hS (h00.mono hx) hql kw7 (g:=m) (by omega) (by omega) (by have:=hTab.pos;omega) (fun i hi=>by have:=hBz m (2 * n + i) (by omega) (by omega);omega) hK (by rw [K0g];omega) (by decide) hm hn).mono ?_
  rintro wd G8 ⟨kd,hx8⟩
  replace b1:=hx8.blk b1
  replace b2:=hx8.blk b2
  replace b3:=hx8.blk b3
  replace b5:=hx8.blk b5
  replace ky1:=ky1.mono hx8
  replace ky2:=ky2.mono hx8
  replace hT:=hT.mono hx8
  replace hx:=hx.trans hx8
  clear hx8
  have hbk:=hT.blk
  have hsz:=hx.1
  have hdc:=kd.cells
  simp [b5,hbk,hdc]
  have c1:=ky1.cells;have c2:=ky2.cells
  have hP1:P8 ≠ H.size + 3:=fun h=>by rw [h,b3] at b5;simp at b5
  have hP2:p' ≠ H.size + 3:=fun h=>by rw [h,b3] at hbk;have:=(Blk.row.inj hbk).2.1;cases F <;> exact h1Y this (by decide)
  simp [b3,hsz,ky1.plain,ky2.plain,c1,c2,hdc,hP1,hP2]
  generalize hS':Array.setIfInBounds G8 _ _=G9
  have hl1:LxT a0b G8 G9:=b0m hS' b3 (by decide)
  have hl2:Lx G8 G9:=fun b ro cs h=>b0m (e:=a0k) hS' b3 (by decide) b ro cs h
  rw [a0s hS' b3]
  simp
  refine fun _=>⟨_,⟨2,0,[],(List.range m).map fun i=>j0m L m n D q.bs 1 i,[]⟩,k1,rfl,⟨y1,y2,_,_,_,rfl,ky1.setS hS' b3 (by decide),ky2.setS hS' b3 (by decide),Sls.nil,?_,Sls.nil⟩,.inl ⟨Tf L,bf bs,D,hTab,rfl,rfl,rfl,rfl,?_,?_,rfl⟩⟩
  ·rw [List.map_map]
   exact a0O.lx2 kd.sls hl1 hl2
  ·exact Z0z hTab (by rw [← hjj];exact hend)
  ·rw [← hjj];exact hneg
 ·have hcz:¬ c0z (Tf L m jj) 0 < 0:=by unfold c0z;rw [h1C hneg];split <;> omega
  simp [hcz]
  have h00r:∀ r,r < m→¬ bf bs r < 2 * n + m→Tf L r (2 * n + m)=0:=hTab.full (by rw [← hjj];omega)
  simp [m0Y,b5]
  refine a0S.mono (L0u hT hx.1 hS hTab hBd h00r hm hn hR) ?_
  rintro _ G6 ⟨hQ1,hK1⟩
  clear hTab hS hT hBz hBd1 hz ej hend hcL hmL fw ehi hvi h00r
  obtain ⟨L,D,bs,k1,sD,hT,hS,hTab,hFr,hZr⟩:=hQ1
  replace hx:=p0H hx hK1 (h1A _)
  replace b1:=hFr.at_ b1
  replace b2:=hFr.at_ b2
  replace b3:=hFr.at_ b3
  replace b5:=hFr.atQ b5
  clear hFr hK1
  simp
  simp [m0Z,b5]
  refine a0S.mono (x0D hT hx.1 hS hTab hBd (.inr hm1) hm hn hR) ?_
  rintro _ G7 ⟨⟨z2,rfl,hQ1⟩,hK1⟩
  clear hTab hS hT
  obtain ⟨L',D,bs',k1,sD,hT,hS,hTab,hZr2,hFr,hend⟩:=hQ1
  replace hZr:=hZr2 hZr
  clear hZr2
  replace hx:=p0H hx hK1 (h1A _)
  replace b1:=hFr.at_ b1
  replace b2:=hFr.at_ b2
  replace b3:=hFr.at_ b3
  replace b5:=hFr.atQ b5
  clear hFr hK1
  obtain ⟨hBz,hBd1⟩:=hB _ _ _ hTab
  simp
  simp [n0a,b5]
  refine a0S.mono (y0O (Fv:=fun i=>Tf L' i (2 * n + m)) hT hx.1 hS (by omega) (by have:=hTab.pos;omega) (fun i hi=>by have:=hBz i (2 * n + m) (by omega) (h1A _);omega) hm hn (fun fl i G' R' hxx hfl hi=>by
   simp only [j1S,j1o]
   exact r0h (hT.mono hxx) hfl hS (hxx.blk b5) (by omega))) ?_
  rintro wX G8 ⟨oX,hx8⟩
  replace b1:=hx8.blk b1
  replace b2:=hx8.blk b2
  replace b3:=hx8.blk b3
  replace b5:=hx8.blk b5
  replace hT:=hT.mono hx8
  replace hx:=hx.trans hx8
  clear hx8
  simp
  rw [hm1] at hend
  obtain ⟨rfl,hopt⟩:=Z0A hTab hZr hzC hend
  clear hend
  simp [n0b]
  simp [l0b]
  refine (e0S (n:=0) hx.1 (by omega) (by omega)).mono ?_
  rintro _ G9 ⟨⟨y1,y2,rfl,ky1,ky2⟩,hx8⟩
  have hz0:((0:Int):Rat)=0:=rfl
  rw [hz0] at ky1 ky2 ⊢
  replace b1:=hx8.blk b1
  replace b2:=hx8.blk b2
  replace b3:=hx8.blk b3
  replace b5:=hx8.blk b5
  replace hT:=hT.mono hx8
  replace oX:=oX.mono a0u hx8
  replace hx:=hx.trans hx8
  clear hx8
  have hsz:=hx.1
  have c1:=ky1.cells;have c2:=ky2.cells
  simp [hsz,c1,c2,ky1.plain,ky2.plain]
  generalize hN:Array.setIfInBounds (Array.push _ _) _ _=G10
  obtain ⟨hx8,b7⟩:=new1 hN
  clear hN
  obtain ⟨P7,hP7⟩:∃ x,x=G9.size:=⟨_,rfl⟩
  rw [← hP7] at b7 ⊢
  have kC2:=kC.mono a0u (hx.trans hx8)
  have hslC:=kC2.slen
  rw [hpC] at hslC
  have b1':=hx8.blk b1
  obtain ⟨X0,hX0⟩:∃ x,x=(List.range n).map fun k=>Rat.divInt (ptq n (bf bs') (fun i=>Tf L' i (2 * n + m)) m k) D:=⟨_,rfl⟩
  have oX0:(List.range n).map (fun k=>a0e (Rat.divInt (ptq n (bf bs') (fun i=>Tf L' i (2 * n + m)) m k) D))=X0.map a0e:=by rw [hX0,List.map_map];rfl
  rw [oX0] at oX
  have hX0l:X0.length=n:=by rw [hX0];simp
  have hX0z:∀ x ∈ X0,szR x≤Z + m + S + 1:=by
   intro x hx
   rw [hX0] at hx
   obtain ⟨k,_,rfl⟩:=j1h.1 hx
   have h1:=b0W (ptq n (bf bs') (fun i=>Tf L' i (2 * n + m)) m k) D
   have h2:=r0Y (n:=n) (base:=bf bs') (Fv:=fun i=>Tf L' i (2 * n + m)) (K:=Z) (k:=k) (q:=m) (fun i hi=>hBz i _ (by omega) (h1A _))
   omega
  have hFX:=o0m hX0z
  have hFC:=hpF.mono' (show S≤Z + m + S + 1 by omega)
  have hsd:∀ i,i≤n→szR (d0V p.C (X0.map a0e) i) < 33554432:=fun i hi=>by
   have h1:=h0C hFC hFX i
   have h2:i * (2 * (Z + m + S + 1) + 3)≤n * (2 * (Z + m + S) + 10):=i1z hi (by omega)
   rw [h1X,i1r] at hZ
   omega
  simp [l0c,b1',hslC]
  refine d0Q (n:=n) (fun i ρ G=>ρ 5=.pointer (some ⟨H.size + 2,0,none⟩)∧ρ 6=.pointer (some ⟨H.size + 3,0,none⟩)∧ρ 8=.pointer (some ⟨P8,0,none⟩)∧ρ 10=.int .i64 (m1:Int)∧ρ 12=wX∧ρ 13=.pointer (some ⟨P7,0,none⟩)∧ρ 84=sC0∧Ext G9 G∧∃ y1 y2,a0f.blk G P7=.row false a0b [.bool (a0e (d0V p.C (X0.map a0e) i)).1.1,y1,.bool (a0e (d0V p.C (X0.map a0e) i)).2.1,y2]∧Lim G y1 (a0e (d0V p.C (X0.map a0e) i)).1.2∧Lim G y2 (a0e (d0V p.C (X0.map a0e) i)).2.2) rfl rfl (by decide) (by omega) (by simp) (by simp) ?_ ?_ ?_ ?_
  ·exact ⟨by simp,by simp,by simp,by simp,by simp,by simp,by simp,hx8,y1,y2,b7,ky1.mono hx8,ky2.mono hx8⟩
  ·intro i ρ ρ' G h hI;simpa [h] using hI
  ·clear b7 ky1 ky2 c1 c2 y1 y2 hx8 kC2 hslC b1'
   rintro i ρ G hi gi gn ⟨g5,g6,g8,g10,g12,g13,g84,hxa,y1,y2,b7,ky1,ky2⟩
   have hxG:=hx.trans hxa
   have kC2:=kC.mono a0u hxG
   have hiC:i < p.C.length:=by omega
   have iaC:=kC2.ia (k:=.i64) hiC
   obtain ⟨wc,ec,kc⟩:=a0O.load kC2 hiC
   obtain ⟨s5,s6,rfl,k5,k6⟩:=kc
   have c5:=k5.cells;have c6:=k6.cells
   have hsz:=hxG.1
   simp [l0d,gi,g84,iaC,ec,c5,c6,k5.plain,k6.plain,hsz]
   generalize hN:Array.setIfInBounds (Array.push _ _) _ _=G11
   obtain ⟨hxb,b8⟩:=new1 hN
   clear hN
   replace b7:=hxb.blk b7
   replace ky1:=ky1.mono hxb
   replace ky2:=ky2.mono hxb
   replace k5:=k5.mono hxb
   replace k6:=k6.mono hxb
   replace hxa:=hxa.trans hxb
   have hiX:i < (X0.map a0e).length:=by simp;omega
   have oX2:=oX.mono a0u hxa
   have iaX:=oX2.sls.ia (k:=.i64) hiX
   obtain ⟨wx,ex,kx⟩:=a0O.load oX2.sls hiX
   refine a0B ?_
   simp [l0e,g12,g13,b7,b8,iaX,ex]
   have hlC:=hpF _ (h1I hiC)
   have hlX:=hFX _ (h1I hiX)
   have hv1:=b0E hlC.2.1 hlC.2.2
   have hv2:=b0E hlX.2.1 hlX.2.2
   refine (h0w (a:=p.C[i]) ⟨s5,s6,rfl,k5,k6⟩ kx (by have:=hxb.1;omega) (by omega) (by omega)).mono ?_
   rintro wm G12 ⟨km,hxc⟩
   replace b7:=hxc.blk b7
   replace ky1:=ky1.mono hxc
   replace ky2:=ky2.mono hxc
   replace hxa:=hxa.trans hxc
   have hsm:=h0D (b0o p.C[i]) (b0o (X0.map a0e)[i])
   have hsz2:H.size≤G12.size:=(hx.trans hxa).1
   have hsdi:=hsd i (by omega)
   simp
   refine (c0j (a:=a0e (d0V p.C (X0.map a0e) i)) ⟨y1,y2,rfl,ky1,ky2⟩ km hsz2 (by rw [a0I];omega) (by rw [a0I];omega)).mono ?_
   rintro _ G13 ⟨⟨y3,y4,rfl,ky3,ky4⟩,hxc⟩
   replace b7:=hxc.blk b7
   replace hxa:=hxa.trans hxc
   have hdot:b0o (a0e (d0V p.C (X0.map a0e) i)) + b0o (a0e (b0o p.C[i] * b0o (X0.map a0e)[i]))=d0V p.C (X0.map a0e) (i + 1):=by
    rw [a0D,a0D,d0V,h1z,h1z,h1E hiC,h1E hiX];rfl
   rw [hdot] at ky3 ky4 ⊢
   have c3:=ky3.cells;have c4:=ky4.cells
   have hsz3:H.size≤G13.size:=(hx.trans hxa).1
   have hP7l:H.size≤P7:=by rw [hP7];exact hx.1
   simp [g13,b7,c3,c4,ky3.plain,ky4.plain,hP7l]
   generalize hS':Array.setIfInBounds G13 _ _=G14
   exact Rnd.mk (by simp [gi]) (by simp [gn]) ⟨by simp [g5],by simp [g6],by simp [g8],by simp [g10],by simp [g12],by simp [g13],by simp [g84],a0E hS' hxa (by omega),y3,y4,a0s hS' b7,ky3.setS hS' b7 (by decide),ky4.setS hS' b7 (by decide)⟩
  ·clear b7 ky1 ky2 c1 c2 y1 y2 hx8 kC2 hslC b1'
   rintro ρ G gi gn ⟨g5,g6,g8,g10,g12,g13,g84,hxa,y1,y2,b7,ky1,ky2⟩
   replace b1:=hxa.blk b1
   replace b2:=hxa.blk b2
   replace b3:=hxa.blk b3
   replace b5:=hxa.blk b5
   replace hT:=hT.mono hxa
   replace oX:=oX.mono a0u hxa
   replace hx:=hx.trans hxa
   clear hxa
   refine e0y ?_
   have kq:b0L G (.agg #[.bool (a0e q.cb).1.1,s1,.bool (a0e q.cb).2.1,s2]) (a0e q.cb):=⟨s1,s2,rfl,q1.mono hx,q2.mono hx⟩
   simp [l0f,g13,g12,g8,g10,g5,b7,b5,b2]
   refine (o0k (q:=q) hT (by have:=hx.1;omega) hS (h00.mono hx) hql kq (g:=m1) (by omega) (by omega) (by have:=hTab.pos;omega) (fun i hi=>by have:=hBz m1 (2 * n + i) (by omega) (by omega);omega) hK hcs hc0 hm hn).mono ?_
   rintro wd G8 ⟨kd,hx8⟩
   replace b1:=hx8.blk b1
   replace b2:=hx8.blk b2
   replace b3:=hx8.blk b3
   replace b5:=hx8.blk b5
   replace b7:=hx8.blk b7
   replace ky1:=ky1.mono hx8
   replace ky2:=ky2.mono hx8
   replace hT:=hT.mono hx8
   replace oX:=oX.mono a0u hx8
   replace hx:=hx.trans hx8
   clear hx8
   have hbk:=hT.blk
   have hsz:=hx.1
   have hdc:=kd.cells
   have hxc:=oX.cells
   have c1:=ky1.cells;have c2:=ky2.cells
   simp [g8,g6,b5,hbk,hdc,hxc,c1,c2]
   have hP1:P8 ≠ H.size + 3:=fun h=>by rw [h,b3] at b5;simp at b5
   have hP2:p' ≠ H.size + 3:=fun h=>by rw [h,b3] at hbk;have:=(Blk.row.inj hbk).2.1;cases F <;> exact h1Y this (by decide)
   simp [b3,hsz,ky1.plain,ky2.plain,c1,c2,hdc,hxc,hP1,hP2]
   generalize hS':Array.setIfInBounds G8 _ _=G9
   have hl1:LxT a0b G8 G9:=b0m hS' b3 (by decide)
   have hl2:Lx G8 G9:=fun b ro cs h=>b0m (e:=a0k) hS' b3 (by decide) b ro cs h
   rw [a0s hS' b3]
   simp
   refine fun _=>⟨_,⟨1,d0V p.C (X0.map a0e) n,X0,(List.range m).map fun i=>j0m L' m1 n D q.bs q.cb i,[]⟩,k1,rfl,⟨y1,y2,_,_,_,rfl,ky1.setS hS' b3 (by decide),ky2.setS hS' b3 (by decide),a0O.lx2 oX.sls hl1 hl2,?_,Sls.nil⟩,.inr ⟨Tf L',bf bs',D,hTab,rfl,rfl,fun i hi hb=>hZr i hi hb _ (h1A _),hopt,hX0,by rw [hm1];rfl,rfl⟩⟩
   rw [List.map_map]
   exact a0O.lx2 kd.sls hl1 hl2
end
section
open Go SX
set_option maxHeartbeats 1000000
variable {H G:a0f}
theorem Z0q {f:Nat→Int} {K:Nat}:∀ {n:Nat},(∀ i,i < n→lz (f i)≤K)→lz (sm f n)≤K + n
 | 0,_=>by rw [sm,d0C];omega
 | n + 1,h=>by
  have h1:=Z0q (n:=n) (fun i hi=>h i (by omega))
  have h2:=h n (by omega)
  have h3:=o0s (sm f n) (f n)
  rw [sm];omega
theorem N0O {M:Nat}:∀ {k:Nat},k≤M→fac k≤M ^ k
 | 0,_=>by simp [fac]
 | k + 1,h=>by
  rw [fac,h1Z,i1e]
  exact i1z (N0O (by omega)) h
theorem w0g {z:Int} {M k:Nat} (hM:M≤4294967296) (h:z.natAbs≤fac M * (4294967296 ^ k) ^ M):lz z≤M * (k + 1) + 1:=by
 apply t0G
 have h1:fac M≤4294967296 ^ M:=h1R (N0O (h1A M)) (Nat.pow_le_pow_left hM M)
 have h2:fac M * (4294967296 ^ k) ^ M≤4294967296 ^ (M * (k + 1)):=by
  rw [← Nat.pow_mul,h1P,i1H,Nat.add_comm,j1y,i1e M k]
  exact h1J _ h1
 have h3:4294967296 ^ (M * (k + 1)) < 4294967296 ^ (M * (k + 1) + 1):=Nat.pow_lt_pow_right (by omega) (by omega)
 omega
section
variable {q:ScT} {n m K:Nat} (hA:∀ r c,lz (Tf q.A r c)≤K)
include hA
theorem V0u {r c:Nat}:lz (e0r n m (Tf q.A) (bbq q n) r c)≤K + 1:=by
 unfold e0r
 split
 ·have:=hA r c;omega
 ·split
  ·rw [h0c];have:=hA r (c - n);omega
  ·split
   ·split
    ·rw [g0q];omega
    ·rw [d0C];omega
   ·have:=hA r n;unfold bbq;omega
theorem r0Z {r c:Nat}:lz (sg (bbq q n) r * e0r n m (Tf q.A) (bbq q n) r c)≤K + 1:=by
 have h:=V0u (n:=n) (m:=m) hA (r:=r) (c:=c)
 unfold sg
 split
 ·rw [Int.neg_mul,Int.one_mul,h0c];exact h
 ·rw [Int.one_mul];exact h
theorem N0T {i c:Nat}:lz (s0Z q n m i c)≤K + 1 + i:=by
 unfold s0Z
 refine Z0q fun r _=>?_
 split
 ·exact r0Z hA
 ·rw [d0C];omega
theorem V0t (hC:∀ c,ccq q c=0) {c r:Nat}:lz (i0a n m (Tf q.A) (bbq q n) (ccq q) c r)≤K + 1 + m:=by
 unfold i0a
 split
 ·have:=r0Z (n:=n) (m:=m) hA (r:=r) (c:=c);omega
 ·split
  ·rw [h0c];exact N0T (i:=m) hA
  ·have:cost n (ccq q) c=0:=by unfold cost;split;exact hC _;split;rw [hC];rfl;rfl
   rw [this];show lz 0≤_;rw [d0C];omega
theorem A0Q (hC:∀ c,ccq q c=0) (hm:m < 1048576) {T:Nat→Nat→Int} {base:Nat→Nat} {D:Int} (h:U0q q n m T base D) :
  (∀ r c,r < m + 2→c≤2 * n + m→lz (T r c)≤(m + 2) * (K + m + 2) + 1)∧lz D≤(m + 2) * (K + m + 2) + 1:=by
 obtain ⟨h1,h2⟩:=Tab.bound h (B:=4294967296 ^ (K + 1 + m)) (Nat.one_le_pow _ _ (by omega)) (fun c r _ _=>by
  have h3:=A0P (i0a n m (Tf q.A) (bbq q n) (ccq q) c r)
  have h4:=V0t (n:=n) (m:=m) hA hC (c:=c) (r:=r)
  exact j1Y (h1W h3 (i1R (by omega) h4)))
 have e:K + 1 + m + 1=K + m + 2:=by omega
 refine ⟨fun r c hr hc=>?_,?_⟩
 ·have:=w0g (M:=m + 2) (by omega) (h1 r c hr hc)
  rw [e] at this;exact this
 ·have:=w0g (M:=m + 2) (by omega) h2
  rw [e] at this;exact this
end
structure x0R (H:a0f) (u v:Value) (p:LPt) (q:ScT) (n m:Nat):Prop where
 hp:LPV H u p
 hv:SV H v q
 qn:q.n=n
 qA:q.A.length=m
 qC:q.C.length=n
 pC:p.C.length=n
 qb:q.bs.length=m
 row:∀ r ∈ q.A,r.length=n + 1
 costs:∀ c,ccq q c=0
 b0:q.cb ≠ 0
 m1:m < 1048576
 n1:n < 1048576
 sz:∃ K S,(∀ r c,lz (Tf q.A r c)≤K)∧Few S p.C∧(∀ x ∈ q.bs,szR x≤K)∧szR q.cb≤K∧(n + 1) * (2 * ((m + 2) * (K + m + 2) + 1 + m + S) + 10) < 16777216
theorem x0R.mono {u v:Value} {p:LPt} {q:ScT} {n m:Nat} (h:x0R H u v p q n m) (hx:Ext H G):x0R G u v p q n m :=
 { h with hp:=h.hp.mono hx,hv:=h.hv.mono hx }
theorem s0Q {F:RK} {fl:Nat} {R:a0G} {u v:Value} {p:LPt} {q:ScT} {n m:Nat} (h:x0R H u v p q n m) (hf:fl≤H.size) (hR:q0u F R) :
  a0S env fl (m0d F) [eV,u,v] H (fun r H'=>p0s q p.C n m r H'∧Ext H H') R:=by
 obtain ⟨K,S,hA,hS,hb,hc,hs⟩:=h.sz
 have hm:=h.m1
 have h1:K + m + 2≤(m + 2) * (K + m + 2):=by
  have:1 * (K + m + 2)≤(m + 2) * (K + m + 2):=h1J _ (by omega)
  omega
 have h2:1 * (2 * ((m + 2) * (K + m + 2) + 1 + m + S) + 10)≤(n + 1) * (2 * ((m + 2) * (K + m + 2) + 1 + m + S) + 10):=h1J _ (by omega)
 have hK:K + m < 16777214:=by omega
 exact v0s h.hp h.hv h.qn h.qA h.qC h.pC hS h.qb h.row hf (fun r c=>by have:=hA r c;omega) h.costs (fun i c hi _=>by have:=N0T (n:=n) (m:=m) hA (i:=i) (c:=c);omega)
  (fun T base D hT=>A0Q hA h.costs hm hT) hs (fun x hx=>by have:=hb x hx;omega) (by omega) h.b0 hm h.n1 hR
end
section
open Go SX
set_option maxHeartbeats 4000000
variable {fl:Nat} {H G:a0f} {R:a0G} {v w u:Value}
theorem LPV.shape {p:LPt} (h:LPV H u p):∃ a b c d,u=.agg #[a,b,c,d]:=by
 obtain ⟨_,_,_,rfl,_⟩:=h;exact ⟨_,_,_,_,rfl⟩
theorem SV.shape {q:ScT} (h:SV H v q):∃ s:Array Value,v=.agg s∧s.size=8:=by
 obtain ⟨_,_,_,_,_,rfl,_⟩:=h;exact ⟨_,rfl,rfl⟩
theorem z0x.shape {a:t0a} (h:z0x H v a):∃ s:Array Value,v=.agg s∧s.size=8∧s.toList.all a0F=true:=by
 obtain ⟨s1,s2,sX,sY,sR,rfl,h1,h2,h3,h4,h5⟩:=h
 exact ⟨_,rfl,rfl,by simp [h1.plain,h2.plain,h3.plain,h4.plain,h5.plain]⟩
theorem y0S:env.code p0I=none:=by rfl
theorem y0R {p:LPt} {q:ScT} {n m:Nat} (h:x0R H u v p q n m) (hf:fl≤H.size) :
  a0S env fl p0I [u,v] H (fun r H'=>((∃ ans k,r=.tuple #[ans,.int .i64 k,.bool true]∧p0s q p.C n m (.tuple #[ans,.int .i64 k]) H') ∨ (∃ ans,r=.tuple #[ans,.int .i64 0,.bool false]∧∃ s1 s2 s3 s4 s5 s6 s7 s8,ans=.agg #[s1,s2,s3,s4,s5,s6,s7,s8]∧[s1,s2,s3,s4,s5,s6,s7,s8].all a0F=true))∧Ext H H') R:=by
 obtain ⟨a,b,c,d,rfl⟩:=h.hp.shape
 obtain ⟨s,rfl,hs8⟩:=h.hv.shape
 obtain ⟨N,hN⟩:=s0Q (F:=.few) (fl:=max fl H.size) (R:=fun w=>w=v0x) h (by omega) rfl
 change n0Y _ _ (b0r env N (max fl H.size) r0G _ H) at hN
 refine ⟨N + 1,?_⟩
 have e1:b0r env (N + 1) fl p0I [.agg #[a,b,c,d],.agg s] H=d0S [(.int .i64 0),(.bool false),(.slice none 0 0),(.bool false),(.slice none 0 0),(.slice none 0 0),(.slice none 0 0),(.slice none 0 0)] H (b0r env N (max fl H.size) r0G [.agg #[],.agg #[a,b,c,d],.agg s] H):=by
  rw [b0r]
  simp only [y0S]
  rw [show env.know p0I [.agg #[a,b,c,d],.agg s]=none from rfl]
  show (if p0I=p0I then _ else _)=_
  rw [h1F rfl]
  show (if (4=4∧s.size=8) then _ else _)=_
  rw [h1F ⟨rfl,hs8⟩]
 rw [e1]
 cases hc:b0r env N (max fl H.size) r0G [.agg #[],.agg #[a,b,c,d],.agg s] H with
 | bad=>rw [show eV=Value.agg #[] from rfl,hc] at hN;exact h1Y hN id
 | pan w =>
  rw [show eV=Value.agg #[] from rfl,hc] at hN
  have hw:w=v0x:=hN
  subst hw
  exact ⟨.inr ⟨_,rfl,_,_,_,_,_,_,_,_,rfl,rfl⟩,Ext.refl H⟩
 | ok r =>
  rw [show eV=Value.agg #[] from rfl,hc] at hN
  obtain ⟨hQ,hx⟩:=hN
  obtain ⟨r,H'⟩:=r
  obtain ⟨ans,a',k,rfl,hA,hQ⟩:=hQ
  obtain ⟨t,rfl,ht8,htp⟩:=hA.shape
  have e2:d0S [(.int .i64 0),(.bool false),(.slice none 0 0),(.bool false),(.slice none 0 0),(.slice none 0 0),(.slice none 0 0),(.slice none 0 0)] H (.ok (.tuple #[.agg t,.int .i64 k],H'))=.ok (.tuple #[.agg t,.int .i64 k,.bool true],H'):=by
   show (if t.size=8∧t.toList.all a0F=true then _ else _)=_
   rw [h1F ⟨ht8,htp⟩]
  rw [e2]
  exact ⟨.inl ⟨_,k,rfl,_,a',k,rfl,hA,hQ⟩,hx⟩
structure t0f (p:LPt) (n m S:Nat):Prop where
 pn:p.n=n
 pA:p.A.length=m
 pB:p.B.length=m
 pC:p.C.length=n
 row:∀ r ∈ p.A,Few S r∧r.length=n
 fB:Few S p.B
 fC:Few S p.C
 costs:∀ x ∈ p.C,b0o x=0
 S1:1≤S
 m1:m < 1048576
 n1:n < 1048576
 sz:(n + 1) * (2 * ((m + 2) * ((n + 3) * (S + 1) + m + 2) + 1 + m + S) + 10) < 16777216
structure x0Q (p:LPt) (q:ScT) (n m K:Nat):Prop where
 qn:q.n=p.n
 qA:q.A.length=p.A.length
 qb:q.bs.length=p.A.length
 rows:∀ k,k < p.A.length→Whole (k0F p k) (q.A.getD k []) (q.bs.getD k 0) K
 cost:Whole (p.C.map b0o) q.C q.cb K
theorem s0N {p:LPt} {n m S k:Nat} (h:t0f p n m S) (hk:k < p.A.length):(k0F p k).length=n + 1:=by
 unfold k0F
 rw [h1z,h1E hk]
 simp [(h.row _ (h1I hk)).2]
theorem b0y {α:Type} {l:List α} {d:α} {k:Nat} (h:k < l.length):l.getD k d=l[k]:=by
 rw [h1z,h1E h];rfl
theorem t0f.sol {p:LPt} {q:ScT} {n m S:Nat} (h:t0f p n m S) (hq:x0Q p q n m ((n + 3) * (S + 1))) (hp:LPV H u p) (hv:SV H v q):x0R H u v p q n m where
 hp:=hp
 hv:=hv
 qn:=by rw [hq.qn,h.pn]
 qA:=by rw [hq.qA,h.pA]
 qC:=by rw [hq.cost.len,i1P,h.pC]
 pC:=h.pC
 qb:=by rw [hq.qb,h.pA]
 row:=fun r hr=>by
  obtain ⟨k,hk,rfl⟩:=List.mem_iff_getElem.1 hr
  have hk2:k < p.A.length:=by rw [← hq.qA];exact hk
  have:=(hq.rows k hk2).len
  rw [b0y hk,s0N h hk2] at this
  exact this
 costs:=fun c=>by
  unfold ccq
  by_cases hc:c < q.C.length
  ·have hl:=hq.cost.len
   rw [b0y hc]
   have hc2:c < (p.C.map b0o).length:=by rw [← hl];exact hc
   have he:=hq.cost.eq c hc2
   rw [i1x,h.costs _ (h1I _),k1n] at he
   exact Rat.intCast_inj.1 he
  ·rw [h1z,h1M (by omega)];rfl
 b0:=fun h0=>by have:=hq.cost.pos;rw [h0] at this;exact h1Y this (Rat.lt_irrefl)
 m1:=h.m1
 n1:=h.n1
 sz:=by
  refine ⟨(n + 3) * (S + 1),S,fun r c=>?_,h.fC,fun x hx=>?_,hq.cost.szb,h.sz⟩
  ·unfold Tf
   by_cases hr:r < q.A.length
   ·have hW:=(hq.rows r (by rw [← hq.qA];exact hr)).szz
    by_cases hc:c < (q.A.getD r []).length
    ·rw [b0y hc];exact hW _ (h1I _)
    ·rw [h1z (l:=q.A.getD r []),h1M (by omega)];show lz 0≤_;rw [d0C];omega
   ·have:q.A.getD r []=[]:=by rw [h1z,h1M (by omega)];rfl
    rw [this];show lz 0≤_;rw [d0C];omega
  ·obtain ⟨k,hk,rfl⟩:=List.mem_iff_getElem.1 hx
   have:=(hq.rows k (by rw [← hq.qb];exact hk)).szb
   rw [b0y hk] at this
   exact this
theorem z0x.setS {a:t0a} {G':a0f} {b:Nat} {X:Blk} {ro:Bool} {e:TypeId} {cs:List Value} (h:z0x G v a) (hS:Array.setIfInBounds G b X=G') (hb:a0f.blk G b=.row ro e cs) (h1:e ≠ a0k) (h2:e ≠ a0b):z0x G' v a:=by
 have hl1:LxT a0b G G':=b0m hS hb h2
 have hl2:Lx G G':=fun b ro cs h=>b0m (e:=a0k) hS hb h1 b ro cs h
 obtain ⟨s1,s2,sX,sY,sR,e1,k1,k2,k3,k4,k5⟩:=h
 exact ⟨s1,s2,sX,sY,sR,e1,k1.setS hS hb h1,k2.setS hS hb h1,a0O.lx2 k3 hl1 hl2,a0O.lx2 k4 hl1 hl2,a0O.lx2 k5 hl1 hl2⟩
def f1z (p:LPt) (n m S:Nat) (r:Value) (H':a0f):Prop:=∃ q,x0Q p q n m ((n + 3) * (S + 1))∧p0s q p.C n m r H'
theorem l0u {p:LPt} {n m S:Nat} (h:t0f p n m S) (hp:LPV H v p) (hf:fl≤H.size) :
  a0S env fl Y0U [v] H (fun r H'=>f1z p n m S r H'∧Ext H H') R:=by
 have hp0:=hp
 obtain ⟨sA0,sB0,sC0,rfl,kA,kB,kC⟩:=hp
 refine a0i g1T hf (h:=?_)
 intro ρ h0
 simp [c1l,S0t,h0,kA.cells,kB.cells,kC.cells]
 generalize hG:Array.push (Array.push H _) _=G
 obtain ⟨hx,b0,b1⟩:=push2 hG
 clear hG
 simp [S0u,b0]
 have hS:=h.S1
 have hK:(n + 3) * (S + 1) < 67108864:=by
  have h1:=h.sz
  have h2:1 * (2 * ((m + 2) * ((n + 3) * (S + 1) + m + 2) + 1 + m + S) + 10)≤(n + 1) * (2 * ((m + 2) * ((n + 3) * (S + 1) + m + 2) + 1 + m + S) + 10):=h1J _ (by omega)
  have h3:1 * ((n + 3) * (S + 1) + m + 2)≤(m + 2) * ((n + 3) * (S + 1) + m + 2):=h1J _ (by omega)
  omega
 refine (j0V (S:=S) (N:=n) (hp0.mono hx) hx.1 (fun r hr=>⟨(h.row r hr).1,by rw [(h.row r hr).2];exact h1A _⟩) h.fB (by rw [h.pA,h.pB]) h.fC (by rw [h.pC];exact h1A _) (by rw [h.pA];have:=h.m1;omega) hS rfl hK).mono ?_
 rintro wq G2 ⟨⟨q,hv,q1,q2,q3,q4,q5⟩,hx2⟩
 have hq:x0Q p q n m ((n + 3) * (S + 1)):=⟨q1,q2,q3,q4,q5⟩
 clear q1 q2 q3 q4 q5
 replace b0:=hx2.blk b0
 replace b1:=hx2.blk b1
 replace hx:=hx.trans hx2
 clear hx2
 have hsz:=hx.1
 have hv0:=hv
 obtain ⟨sA,sBy,sC,s1,s2,rfl,qA,qB,qC,k1,k2⟩:=hv
 have c1:=k1.cells;have c2:=k2.cells
 simp [hsz,qA.cells,qA.plain,qB.cells,qB.plain,qC.cells,qC.plain,c1,c2,k1.plain,k2.plain]
 generalize hN:Array.setIfInBounds (Array.push _ _) _ _=G3
 obtain ⟨hx2,b2⟩:=new1 hN
 clear hN
 replace b0:=hx2.blk b0
 replace b1:=hx2.blk b1
 replace hv0:=hv0.mono hx2
 replace hx:=hx.trans hx2
 clear hx2
 obtain ⟨P2,hP2⟩:∃ x,x=G2.size:=⟨_,rfl⟩
 rw [← hP2] at b2 hsz ⊢
 simp [S0v,b0,b2]
 refine (y0R (h.sol hq (hp0.mono hx) hv0) hx.1).mono ?_
 rintro r G4 ⟨hr,hx2⟩
 replace b0:=hx2.blk b0
 replace b1:=hx2.blk b1
 replace b2:=hx2.blk b2
 replace hv0:=hv0.mono hx2
 replace hx:=hx.trans hx2
 clear hx2
 have hsz2:=hx.1
 rcases hr with ⟨ans,k,rfl,hQ⟩ | ⟨ans,rfl,s1',s2',s3',s4',s5',s6',s7',s8',rfl,hpl⟩
 ·obtain ⟨ans',a,k',he,hA,hQ⟩:=hQ
  obtain ⟨rfl,rfl⟩:ans=ans'∧k=k':=by simpa using he
  clear he
  have hA0:=hA
  obtain ⟨z1,z2,z3,z4,z5,rfl,l1,l2,l3,l4,l5⟩:=hA
  have d1:=l1.cells;have d2:=l2.cells
  simp [hsz2,d1,d2,l1.plain,l2.plain,l3.cells,l3.plain,l4.cells,l4.plain,l5.cells,l5.plain]
  generalize hN:Array.setIfInBounds (Array.push _ _) _ _=G5
  obtain ⟨hx2,b3⟩:=new1 hN
  clear hN
  replace b0:=hx2.blk b0
  replace b1:=hx2.blk b1
  replace b2:=hx2.blk b2
  replace hA0:=hA0.mono hx2
  replace hx:=hx.trans hx2
  clear hx2
  obtain ⟨P4,hP4⟩:∃ x,x=G4.size:=⟨_,rfl⟩
  rw [← hP4] at b3 ⊢
  simp [J0r,S0w,b3,b1,d1,d2,l1.plain,l2.plain,l3.cells,l3.plain,l4.cells,l4.plain,l5.cells,l5.plain]
  generalize hS':Array.setIfInBounds G5 _ _=G6
  rw [a0s hS' b1]
  simp
  exact fun _=>⟨q,hq,_,a,k,rfl,hA0.setS hS' b1 (by decide) (by decide),hQ⟩
 ·simp at hpl
  obtain ⟨p1,p2,p3,p4,p5,p6,p7,p8⟩:=hpl
  simp [hsz2,p1,p2,p3,p4,p5,p6,p7,p8]
  generalize hN:Array.setIfInBounds (Array.push _ _) _ _=G5
  obtain ⟨hx2,b3⟩:=new1 hN
  clear hN
  replace b0:=hx2.blk b0
  replace b1:=hx2.blk b1
  replace b2:=hx2.blk b2
  replace hv0:=hv0.mono hx2
  replace hx:=hx.trans hx2
  clear hx2
  simp [J0r,S0x,b0,b2]
  refine a0S.mono (s0Q (F:=.all) (h.sol hq (hp0.mono hx) hv0) hx.1 trivial) ?_
  rintro r G6 ⟨⟨ans,a,k,rfl,hA,hQ⟩,hx2⟩
  replace b1:=hx2.blk b1
  replace hx:=hx.trans hx2
  clear hx2
  have hsz3:=hx.1
  have hA0:=hA
  obtain ⟨z1,z2,z3,z4,z5,rfl,l1,l2,l3,l4,l5⟩:=hA
  have d1:=l1.cells;have d2:=l2.cells
  simp [b1,hsz3,d1,d2,l1.plain,l2.plain,l3.cells,l3.plain,l4.cells,l4.plain,l5.cells,l5.plain]
  generalize hS':Array.setIfInBounds G6 _ _=G7
  rw [a0s hS' b1]
  simp
  exact fun _=>⟨q,hq,_,a,k,rfl,hA0.setS hS' b1 (by decide) (by decide),hQ⟩
theorem j0U {p:LPt} {n m S:Nat} (h:t0f p n m S) (hp:LPV H v p) (hf:fl≤H.size) (hr:n0n p=true) :
  a0S env fl Y0K [v] H (fun r H'=>(∃ ans k,r=.tuple #[ans,.int .i64 k,.int .i64 0]∧f1z p n m S (.tuple #[ans,.int .i64 k]) H')∧Ext H H') R:=by
 have hp0:=hp
 obtain ⟨sA0,sB0,sC0,rfl,kA,kB,kC⟩:=hp
 refine a0i g1t hf (h:=?_)
 intro ρ h0
 simp [b1L,P0N,h0,kA.cells,kB.cells,kC.cells]
 generalize hG:Array.push (Array.push H _) _=G
 obtain ⟨hx,b0,b1⟩:=push2 hG
 clear hG
 simp [P0O,b0]
 refine (p0U (hp0.mono hx) hx.1).mono ?_
 rintro _ G2 ⟨rfl,hx2⟩
 replace b0:=hx2.blk b0
 replace b1:=hx2.blk b1
 replace hx:=hx.trans hx2
 clear hx2
 simp [hr]
 simp [P0P,b0]
 refine (l0u h (hp0.mono hx) hx.1).mono ?_
 rintro r G4 ⟨⟨q,hq,ans,a,k,rfl,hA,hQ⟩,hx2⟩
 replace b1:=hx2.blk b1
 replace hx:=hx.trans hx2
 clear hx2
 have hsz2:=hx.1
 have hA0:=hA
 obtain ⟨z1,z2,z3,z4,z5,rfl,l1,l2,l3,l4,l5⟩:=hA
 have d1:=l1.cells;have d2:=l2.cells
 simp [hsz2,d1,d2,l1.plain,l2.plain,l3.cells,l3.plain,l4.cells,l4.plain,l5.cells,l5.plain]
 generalize hN:Array.setIfInBounds (Array.push _ _) _ _=G5
 obtain ⟨hx2,b3⟩:=new1 hN
 clear hN
 replace b1:=hx2.blk b1
 replace hA0:=hA0.mono hx2
 replace hx:=hx.trans hx2
 clear hx2
 obtain ⟨P4,hP4⟩:∃ x,x=G4.size:=⟨_,rfl⟩
 rw [← hP4] at b3 ⊢
 simp [P0Q,b3,b1,d1,d2,l1.plain,l2.plain,l3.cells,l3.plain,l4.cells,l4.plain,l5.cells,l5.plain]
 generalize hS':Array.setIfInBounds G5 _ _=G6
 rw [a0s hS' b1]
 simp
 exact fun _=>⟨_,k,⟨rfl,rfl⟩,q,hq,_,a,k,rfl,hA0.setS hS' b1 (by decide) (by decide),hQ⟩
end
section
open Go SX
set_option maxHeartbeats 1000000
def rs (f:Nat→Rat):Nat→Rat
 | 0=>0
 | n + 1=>rs f n + f n
theorem c0b {f g:Nat→Rat}:∀ {n:Nat},(∀ i,i < n→f i=g i)→rs f n=rs g n
 | 0,_=>rfl
 | n + 1,h=>by rw [rs,rs,c0b (fun i hi=>h i (by omega)),h n (by omega)]
theorem n0p {f:Nat→Rat} {c:Rat}:∀ {n:Nat},rs (fun i=>f i * c) n=rs f n * c
 | 0=>by rw [rs,rs,k1n]
 | n + 1=>by rw [rs,rs,n0p,Rat.add_mul]
theorem n0o {f:Nat→Int}:∀ {n:Nat},rs (fun i=>(f i:Rat)) n=((sm f n:Int):Rat)
 | 0=>rfl
 | n + 1=>by rw [rs,sm,n0o,Rat.intCast_add]
theorem k0l {a b:List b0q}:∀ {n:Nat},d0V a b n=rs (fun i=>b0o (a.getD i d0P) * b0o (b.getD i d0P)) n
 | 0=>rfl
 | n + 1=>by rw [d0V,rs,k0l]
def pA (p:LPt) (r k:Nat):Rat:=b0o ((p.A.getD r []).getD k d0P)
def pB (p:LPt) (r:Nat):Rat:=b0o (p.B.getD r d0P)
def pC (p:LPt) (k:Nat):Rat:=b0o (p.C.getD k d0P)
structure x0L (p:LPt) (n m:Nat) (a:t0a):Prop where
 kind:a.kind=2
 V:a.V=0
 X:a.X=[]
 Ray:a.Ray=[]
 Yl:a.Y.length=m
 Y0:∀ i,i < m→0≤a.Y.getD i 0
 YA:∀ k,k < n→rs (fun i=>a.Y.getD i 0 * pA p i k) m=0
 YB:rs (fun i=>a.Y.getD i 0 * pB p i) m < 0
structure z0z (p:LPt) (n m:Nat) (a:t0a):Prop where
 kind:a.kind=1
 Ray:a.Ray=[]
 Xl:a.X.length=n
 Yl:a.Y.length=m
 AX:∀ r,r < m→rs (fun k=>pA p r k * a.X.getD k 0) n≤pB p r
 Y0:∀ i,i < m→0≤a.Y.getD i 0
 YA:∀ k,k < n→rs (fun i=>a.Y.getD i 0 * pA p i k) m=pC p k
 V:a.V=rs (fun k=>pC p k * a.X.getD k 0) n
 YB:rs (fun i=>a.Y.getD i 0 * pB p i) m=a.V
theorem f0q {f:Nat→Rat} {n k:Nat} (h:k < n):((List.range n).map f).getD k 0=f k:=by
 rw [h1z];simp [h]
section
variable {p:LPt} {q:ScT} {n m S K:Nat}
theorem Whole.row_eq (h:t0f p n m S) (hq:x0Q p q n m K) {r:Nat} (hr:r < m):0 < q.bs.getD r 0∧(∀ k,k < n→((Tf q.A r k:Int):Rat)=pA p r k * q.bs.getD r 0)∧((bbq q n r:Int):Rat)=pB p r * q.bs.getD r 0:=by
 have hr':r < p.A.length:=by rw [h.pA];exact hr
 have hW:=hq.rows r hr'
 have hl:=s0N h hr'
 have hrl:=(h.row _ (h1I hr')).2
 refine ⟨hW.pos,fun k hk=>?_,?_⟩
 ·have e:=hW.eq k (by omega)
  have e1:(q.A.getD r [])[k]'(by rw [hW.len];omega)=Tf q.A r k:=by
   unfold Tf;rw [b0y (l:=q.A.getD r []) (by rw [hW.len];omega)]
  rw [e1] at e
  rw [e]
  congr 1
  unfold pA k0F
  rw [i1L (by rw [i1P,b0y hr'];omega),i1x,b0y (l:=p.A.getD r []) (by rw [b0y hr'];omega)]
 ·have e:=hW.eq n (by omega)
  have e1:(q.A.getD r [])[n]'(by rw [hW.len];omega)=bbq q n r:=by
   unfold bbq Tf;rw [b0y (l:=q.A.getD r []) (by rw [hW.len];omega)]
  rw [e1] at e
  rw [e]
  congr 1
  unfold pB k0F
  rw [i1h (by rw [i1P,b0y hr'];omega)]
  simp
theorem Whole.cost_eq (h:t0f p n m S) (hq:x0Q p q n m K):0 < q.cb∧∀ k,k < n→((ccq q k:Int):Rat)=pC p k * q.cb:=by
 refine ⟨hq.cost.pos,fun k hk=>?_⟩
 have hk':k < (p.C.map b0o).length:=by rw [i1P,h.pC];exact hk
 have e:=hq.cost.eq k hk'
 have e1:q.C[k]'(by rw [hq.cost.len];exact hk')=ccq q k:=by unfold ccq;rw [b0y]
 rw [e1] at e
 rw [e,i1x]
 unfold pC
 rw [b0y (by rw [h.pC];exact hk)]
end
section
variable {p:LPt} {q:ScT} {n m S K:Nat} {a:t0a} {T:Nat→Nat→Int} {base:Nat→Nat} {D:Int}
theorem inv_pos {c:Rat} (h:0 < c):0 < c⁻¹:=Rat.inv_pos.2 h
theorem v0R {D:Int} (h:0 < D):(0:Rat) < (D:Rat):=Rat.intCast_pos.2 h
theorem l0T {D:Int} (h:0≤D):(0:Rat)≤(D:Rat):=Rat.intCast_nonneg.2 h
theorem p0F {t D:Int} {b c:Rat}:Rat.divInt t D * b / c=(t:Rat) * b * ((D:Rat)⁻¹ * c⁻¹):=by
 rw [Rat.divInt_eq_div,Rat.div_def,Rat.div_def]
 grind
theorem r0y (h:t0f p n m S) (hq:x0Q p q n m K) {t:Nat→Int} {c:Rat} (Y:Nat→Rat) (hY:∀ i,i < m→Y i=Rat.divInt (t i) D * q.bs.getD i 0 / c) :
  (∀ k,k < n→rs (fun i=>Y i * pA p i k) m=((sm (fun i=>t i * Tf q.A i k) m:Int):Rat) * ((D:Rat)⁻¹ * c⁻¹))∧rs (fun i=>Y i * pB p i) m=((sm (fun i=>t i * bbq q n i) m:Int):Rat) * ((D:Rat)⁻¹ * c⁻¹):=by
 refine ⟨fun k hk=>?_,?_⟩
 ·rw [← n0o,← n0p]
  refine c0b fun i hi=>?_
  obtain ⟨_,h2,_⟩:=Whole.row_eq h hq hi
  rw [hY i hi,p0F,j1A,h2 k hk]
  grind
 ·rw [← n0o,← n0p]
  refine c0b fun i hi=>?_
  obtain ⟨_,_,h3⟩:=Whole.row_eq h hq hi
  rw [hY i hi,p0F,j1A,h3]
  grind
theorem a1P.cert (h:t0f p n m S) (hq:x0Q p q n m K) (hs:a1P q n m a):x0L p n m a:=by
 obtain ⟨T,base,D,hT,h1,h2,h3,h4,h5,h6,h7⟩:=hs
 have hD:=hT.pos
 obtain ⟨i1,i2,i3⟩:=y0v hT h5
 have hY:∀ i,i < m→a.Y.getD i 0=Rat.divInt (T m (2 * n + i)) D * q.bs.getD i 0 / 1:=fun i hi=>by rw [h7,f0q hi]
 obtain ⟨s1,s2⟩:=r0y h hq _ hY
 have hc:(0:Rat) < (D:Rat)⁻¹ * (1:Rat)⁻¹:=Rat.mul_pos (inv_pos (v0R hD)) (inv_pos (by decide))
 refine ⟨h1,h2,h3,h4,by rw [h7];simp,fun i hi=>?_,fun k hk=>?_,?_⟩
 ·rw [hY i hi,p0F]
  exact Rat.mul_nonneg (Rat.mul_nonneg (l0T (i1 i hi)) (Rat.le_of_lt (Whole.row_eq h hq hi).1)) (Rat.le_of_lt hc)
 ·rw [s1 k hk,i2 k hk];simp
 ·rw [s2,i3]
  have h8:((T m (2 * n + m):Int):Rat) < 0:=by
   have:=Rat.intCast_lt_intCast.2 h6;simpa using this
  have h9:=Rat.mul_pos (a:=-((T m (2 * n + m):Int):Rat)) (by grind) hc
  grind
theorem a1O.cert (h:t0f p n m S) (hq:x0Q p q n m K) (hs:a1O q p.C n m a):z0z p n m a:=by
 obtain ⟨T,base,D,hT,h1,h2,h3,h4,h5,h6,h7⟩:=hs
 have hD:=hT.pos
 obtain ⟨i1,i2,i3⟩:=SX.duals hT h4
 obtain ⟨j1,j2⟩:=Z0D hT h3
 obtain ⟨hcb,hcc⟩:=Whole.cost_eq h hq
 have hY:∀ i,i < m→a.Y.getD i 0=Rat.divInt (T (m + 1) (2 * n + i)) D * q.bs.getD i 0 / q.cb:=fun i hi=>by rw [h6,f0q hi]
 have hX:∀ k,k < n→a.X.getD k 0=((ptq n base (fun i=>T i (2 * n + m)) m k:Int):Rat) * (D:Rat)⁻¹:=fun k hk=>by rw [h5,f0q hk,Rat.divInt_eq_div,Rat.div_def]
 obtain ⟨s1,s2⟩:=r0y h hq _ hY
 have hDr:=v0R hD
 have hDi:=inv_pos hDr
 have hci:=inv_pos hcb
 have hc:(0:Rat) < (D:Rat)⁻¹ * q.cb⁻¹:=Rat.mul_pos hDi hci
 have hDD:(D:Rat) * (D:Rat)⁻¹=1:=Rat.mul_inv_cancel _ (by grind)
 have hcc1:q.cb * q.cb⁻¹=1:=Rat.mul_inv_cancel _ (by grind)
 have hV:a.V=rs (fun k=>pC p k * a.X.getD k 0) n:=by
  rw [h7,k0l]
  refine c0b fun k hk=>?_
  unfold pC
  congr 1
  rw [b0y (by rw [i1P,h5];simpa using hk),i1x,a0D,b0y (by rw [h5];simpa using hk)]
 have hVs:rs (fun k=>pC p k * a.X.getD k 0) n=((T (m + 1) (2 * n + m):Int):Rat) * ((D:Rat)⁻¹ * q.cb⁻¹):=by
  rw [← j2,← n0o,← n0p]
  refine c0b fun k hk=>?_
  rw [hX k hk,j1A,hcc k hk]
  show _=pC p k * q.cb * ((ptq n base (fun i=>T i (2 * n + m)) m k:Int):Rat) * ((D:Rat)⁻¹ * q.cb⁻¹)
  grind
 refine ⟨h1,h2,by rw [h5];simp,by rw [h6];simp,fun r hr=>?_,fun i hi=>?_,fun k hk=>?_,hV,?_⟩
 ·obtain ⟨r1,r2,r3⟩:=Whole.row_eq h hq hr
  have e1:rs (fun k=>pA p r k * a.X.getD k 0) n * (q.bs.getD r 0 * (D:Rat))=((sm (fun k=>Tf q.A r k * pt n m base (fun i=>T i (2 * n + m)) k) n:Int):Rat):=by
   rw [← n0o,← n0p]
   refine c0b fun k hk=>?_
   rw [hX k hk,j1A,r2 k hk]
   show _=pA p r k * q.bs.getD r 0 * ((ptq n base (fun i=>T i (2 * n + m)) m k:Int):Rat)
   grind
  have e2:pB p r * (q.bs.getD r 0 * (D:Rat))=((D * bbq q n r:Int):Rat):=by
   rw [j1A,r3];grind
  have e3:=Rat.intCast_le_intCast.2 (j1 r hr)
  rw [← e1,← e2] at e3
  exact Rat.le_of_mul_le_mul_right e3 (Rat.mul_pos r1 hDr)
 ·rw [hY i hi,p0F]
  exact Rat.mul_nonneg (Rat.mul_nonneg (l0T (i1 i hi)) (Rat.le_of_lt (Whole.row_eq h hq hi).1)) (Rat.le_of_lt hc)
 ·rw [s1 k hk,i2 k hk,j1A,hcc k hk]
  grind
 ·rw [s2,i3,hV,hVs]
end
end
section
open Go SX
set_option maxHeartbeats 4000000
variable {fl:Nat} {H G:a0f} {R:a0G} {v w u:Value}
theorem d0q.mono {rows:List (List b0q)} (h:d0q H v rows) (hx:Ext H G):d0q G v rows:=by
 obtain ⟨s,h1,h2⟩:=h;exact ⟨s,h1,h2.mono b0F hx⟩
theorem L0c {S:Nat} {r:List b0q} (h:Few S r) (hS:1≤S):Few S (h0P r):=by
 intro x hx
 obtain ⟨y,hy,rfl⟩:=j1h.1 hx
 obtain ⟨h1,h2,h3⟩:=h y hy
 have:=b0E h2 h3
 exact ⟨by rw [a0I];omega,b0N _,b0N _⟩
theorem k0z:∀ {rows:List (List b0q)} {d:List d0h},(c0N rows d).length=(b0J rows d).length
 | [],d=>by simp [b0J,c0N]
 | _ :: _,[]=>by simp [b0J,c0N]
 | r :: rs,e :: es=>by simp only [b0J,c0N];split <;> simp [k0z]
def i0q (rows:List (List b0q)) (n:Int) (d:List d0h):LPt:=⟨n,b0J rows d,c0N rows d,List.replicate n.toNat (a0e 0)⟩
theorem B0C {rows:List (List b0q)} {n:Int} {d:List d0h} (hv:c0x rows n d=true) (hr:∀ r ∈ rows,Few 6 r) (hd:∀ e ∈ d,d0W e.2≤6∧b0u e.2.1.2∧b0u e.2.2.2) :
  t0f (i0q rows n d) n.toNat (b0J rows d).length 6∧n0n (i0q rows n d)=true∧n.toNat≤6∧(b0J rows d).length≤40:=by
 unfold c0x h0x at hv
 simp at hv
 obtain ⟨⟨⟨⟨⟨hn0,hn6⟩,hl⟩,hrow⟩,hdl⟩,_⟩:=hv
 have hml:(b0J rows d).length≤40:=by have:=j0F rows d;omega
 have hnn:((n.toNat:Nat):Int)=n:=by omega
 have hlen:∀ r ∈ b0J rows d,r.length=n.toNat:=fun r hr'=>by
  obtain ⟨q,h1,rfl⟩:=j0G hr'
  have h2:=i1p.1 hrow _ h1
  unfold k0G at h2
  simp at h2
  unfold h0P
  rw [i1P];omega
 obtain ⟨k,hk⟩:∃ k,k=n.toNat:=⟨_,rfl⟩
 obtain ⟨m,hm⟩:∃ m,m=(b0J rows d).length:=⟨_,rfl⟩
 refine ⟨⟨hnn.symm,rfl,k0z,by simp [i0q],fun r hr'=>⟨?_,hlen r hr'⟩,?_,?_,?_,by decide,by omega,by omega,?_⟩,?_,by omega,hml⟩
 ·obtain ⟨q,h1,rfl⟩:=j0G hr'
  exact L0c (hr q h1) (by decide)
 ·intro x hx
  obtain ⟨e,h1,rfl⟩:=m0z hx
  obtain ⟨h2,h3,h4⟩:=hd e h1
  have:=b0E h3 h4
  exact ⟨by rw [a0I];omega,b0N _,b0N _⟩
 ·intro x hx
  have:=(j1r.1 hx).2
  subst this
  exact ⟨by rw [a0I,d0U];decide,b0N _,b0N _⟩
 ·intro x hx
  rw [(j1r.1 hx).2,a0D]
 ·rw [← hk,← hm]
  have h1:(m + 2) * ((k + 3) * (6 + 1) + m + 2)≤42 * 105:=i1z (by omega) (by omega)
  have h2:(k + 1) * (2 * ((m + 2) * ((k + 3) * (6 + 1) + m + 2) + 1 + m + 6) + 10)≤7 * (2 * (42 * 105 + 1 + 40 + 6) + 10):=i1z (by omega) (by omega)
  omega
 ·unfold n0n i0q
  have h1:d0G (fun r=>!decide ((r.length:Int)=n)) (b0J rows d)=false:=by
   cases ha:d0G (fun r=>!decide ((r.length:Int)=n)) (b0J rows d) with
   | false=>rfl
   | true =>
    obtain ⟨r,h1,h2⟩:=j1d.1 ha
    have:=hlen r h1
    simp at h2;omega
  simp only [h1,k0z]
  simp
  omega
def z0A (a:t0a) (W:Nat):Prop:=(∀ x ∈ a.X,szR x≤W)∧∀ y ∈ a.Y,szR y≤W
theorem x0Q.szA {p:LPt} {q:ScT} {n m S K:Nat} (h:t0f p n m S) (hq:x0Q p q n m K) (r c:Nat):lz (Tf q.A r c)≤K:=by
 unfold Tf
 by_cases hr:r < q.A.length
 ·have hW:=(hq.rows r (by rw [← hq.qA];exact hr)).szz
  by_cases hc:c < (q.A.getD r []).length
  ·rw [b0y hc];exact hW _ (h1I _)
  ·rw [h1z (l:=q.A.getD r []),h1M (by omega)];show lz 0≤_;rw [d0C];omega
 ·have:q.A.getD r []=[]:=by rw [h1z,h1M (by omega)];rfl
  rw [this];show lz 0≤_;rw [d0C];omega
theorem x0Q.costs {p:LPt} {q:ScT} {n m S K:Nat} (h:t0f p n m S) (hq:x0Q p q n m K) (c:Nat):ccq q c=0:=by
 unfold ccq
 by_cases hc:c < q.C.length
 ·have hl:=hq.cost.len
  rw [b0y hc]
  have hc2:c < (p.C.map b0o).length:=by rw [← hl];exact hc
  have he:=hq.cost.eq c hc2
  rw [i1x,h.costs _ (h1I _),k1n] at he
  exact Rat.intCast_inj.1 he
 ·rw [h1z,h1M (by omega)];rfl
theorem x0H {t D:Int} {b c:Rat} {Z K:Nat} (h1:lz t≤Z) (h2:lz D≤Z) (h3:szR b≤K) (h4:szR c≤K):szR (Rat.divInt t D * b / c)≤Z + 1 + K + K:=by
 have a1:=b0W t D
 have a2:=h0D (Rat.divInt t D) b
 have a3:=W0G (Rat.divInt t D * b) c
 omega
theorem a1G {p:LPt} {q:ScT} {n m S K:Nat} {a:t0a} (h:t0f p n m S) (hq:x0Q p q n m K) (hK:1≤K) (hs:a1P q n m a ∨ a1O q p.C n m a):z0A a ((m + 2) * (K + m + 2) + 1 + m + 1 + K + K):=by
 have hb:∀ i,i < m→szR (q.bs.getD i 0)≤K:=fun i hi=>(hq.rows i (by rw [h.pA];exact hi)).szb
 rcases hs with ⟨T,base,D,hT,h1,h2,h3,h4,h5,h6,h7⟩ | ⟨T,base,D,hT,h1,h2,h3,h4,h5,h6,h7⟩
 ·obtain ⟨z1,z2⟩:=A0Q (hq.szA h) (hq.costs h) h.m1 hT
  refine ⟨fun x hx=>by rw [h3] at hx;simp at hx,fun y hy=>?_⟩
  rw [h7] at hy
  obtain ⟨i,hi,rfl⟩:=j1h.1 hy
  have hi:=i1G.1 hi
  have:=x0H (z1 m (2 * n + i) (by omega) (by omega)) z2 (hb i hi) (show szR 1≤K by rw [K0g];exact hK)
  omega
 ·obtain ⟨z1,z2⟩:=A0Q (hq.szA h) (hq.costs h) h.m1 hT
  refine ⟨fun x hx=>?_,fun y hy=>?_⟩
  ·rw [h5] at hx
   obtain ⟨k,_,rfl⟩:=j1h.1 hx
   have e1:=b0W (ptq n base (fun i=>T i (2 * n + m)) m k) D
   have e2:=r0Y (n:=n) (base:=base) (Fv:=fun i=>T i (2 * n + m)) (k:=k) (q:=m) (fun i hi=>z1 i (2 * n + m) (by omega) (h1A _))
   omega
  ·rw [h6] at hy
   obtain ⟨i,hi,rfl⟩:=j1h.1 hy
   have hi:=i1G.1 hi
   have:=x0H (z1 (m + 1) (2 * n + i) (by omega) (by omega)) z2 (hb i hi) hq.cost.szb
   omega
def c1G:Value:=.agg #[.int .i64 0,.bool false,.slice none 0 0,.bool false,.slice none 0 0,.slice none 0 0,.slice none 0 0,.slice none 0 0]
def o0e (rows:List (List b0q)) (n:Int) (d:List d0h) (r:Value) (H':a0f):Prop :=
 if c0x rows n d=false then r=.tuple #[.bool false,c1G,.int .i64 1]
 else if d0G (fun e=>decide (e.1 < 0)) d=true then r=.tuple #[.bool true,c1G,.int .i64 0]
 else ∃ ans a,r=.tuple #[.bool (decide (a.kind=2)),ans,.int .i64 0]∧z0x H' ans a∧(x0L (i0q rows n d) n.toNat (b0J rows d).length a ∨ z0z (i0q rows n d) n.toNat (b0J rows d).length a)∧z0A a 6000
theorem i0z {rows:List (List b0q)} {n:Int} {d:List d0h} (h:d0q H v rows) (hd:d0n H w d) (hf:fl≤H.size) (hr:∀ r ∈ rows,Few 6 r∧r.length < 1073741824) (hrl:rows.length < 1073741824) (hfd:∀ e ∈ d,d0W e.2≤6∧b0u e.2.1.2∧b0u e.2.2.2) (hdl:d.length < 1073741824) :
  a0S env fl W0U [v,.int .i64 n,w] H (fun r H'=>o0e rows n d r H'∧Ext H H') R:=by
 have hp0:=h
 have hfe:z0s d:=fun x hx=>by have:=(hfd x hx).1;omega
 obtain ⟨s,rfl,hs⟩:=h
 refine a0i g1b hf (h:=?_)
 intro ρ h0
 simp [b1u,O0e,h0,hs.cells]
 generalize hG:Array.push (Array.push H _) _=G
 obtain ⟨hx,b0,b1⟩:=push2 hG
 clear hG
 simp [O0f,b0,h0]
 refine (i0A (S:=6) (hp0.mono hx) (hd.mono d0J hx) hx.1 (by decide) hr hrl hfe hdl).mono ?_
 rintro _ G2 ⟨rfl,hx2⟩
 replace b0:=hx2.blk b0
 replace b1:=hx2.blk b1
 replace hx:=hx.trans hx2
 clear hx2
 have hsz:=hx.1
 cases hv:c0x rows n d with
 | false =>
  simp [O0g,b1,hsz]
  generalize hS':Array.setIfInBounds G2 _ _=G3
  rw [a0s hS' b1]
  simp
  exact fun _=>by unfold o0e;rw [h1F hv];rfl
 | true =>
  simp [O0h,b0,h0]
  refine (l0k (S:=6) (hp0.mono hx) (hd.mono d0J hx) hx.1 (by decide) hr hrl hfe hdl).mono ?_
  rintro r G3 ⟨hp,hx2⟩
  replace b0:=hx2.blk b0
  replace b1:=hx2.blk b1
  replace hx:=hx.trans hx2
  clear hx2
  have hsz2:=hx.1
  rw [hv] at hp
  cases hno:d0G (fun e=>decide (e.1 < 0)) d with
  | true =>
   rw [h1C (by rw [hno];simp)] at hp
   obtain ⟨p,rfl,kp⟩:=hp
   obtain ⟨sA,sB,sC,rfl,kA,kB,kC⟩:=kp
   simp [hsz2,kA.cells,kB.cells,kC.cells,kA.plain,kB.plain,kC.plain]
   generalize hN:Array.setIfInBounds (Array.push _ _) _ _=G4
   obtain ⟨hx2,b2⟩:=new1 hN
   clear hN
   replace b1:=hx2.blk b1
   replace hx:=hx.trans hx2
   clear hx2
   have hsz3:=hx.1
   simp [E0K,O0i,b1,hsz3]
   generalize hS':Array.setIfInBounds G4 _ _=G5
   rw [a0s hS' b1]
   simp
   exact fun _=>by unfold o0e;rw [h1C (by rw [hv];simp),h1F hno];rfl
  | false =>
   rw [h1F ⟨rfl,hno⟩] at hp
   obtain ⟨p,rfl,kp⟩:=hp
   have kp0:=kp
   obtain ⟨sA,sB,sC,rfl,kA,kB,kC⟩:=kp
   simp [hsz2,kA.cells,kB.cells,kC.cells,kA.plain,kB.plain,kC.plain]
   generalize hN:Array.setIfInBounds (Array.push _ _) _ _=G4
   obtain ⟨hx2,b2⟩:=new1 hN
   clear hN
   replace b1:=hx2.blk b1
   replace kp0:=kp0.mono hx2
   replace hx:=hx.trans hx2
   clear hx2
   obtain ⟨P2,hP2⟩:∃ x,x=G3.size:=⟨_,rfl⟩
   rw [← hP2] at b2 ⊢
   have hsz3:=hx.1
   obtain ⟨hok,hrt,hn6,hm40⟩:=B0C hv (fun r h=>(hr r h).1) hfd
   simp [E0K,O0j,b2]
   refine (j0U hok kp0 hx.1 hrt).mono ?_
   rintro _ G5 ⟨⟨ans,k,rfl,q,hq,ans',a,k',he,hA,hQ⟩,hx2⟩
   obtain ⟨rfl,rfl⟩:ans=ans'∧k=k':=by simpa using he
   clear he
   replace b1:=hx2.blk b1
   replace hx:=hx.trans hx2
   clear hx2
   have hsz4:=hx.1
   have hA0:=hA
   obtain ⟨z1,z2,z3,z4,z5,rfl,l1,l2,l3,l4,l5⟩:=hA
   have d1:=l1.cells;have d2:=l2.cells
   simp [hsz4,d1,d2,l1.plain,l2.plain,l3.cells,l3.plain,l4.cells,l4.plain,l5.cells,l5.plain]
   generalize hN:Array.setIfInBounds (Array.push _ _) _ _=G6
   obtain ⟨hx2,b3⟩:=new1 hN
   clear hN
   replace b1:=hx2.blk b1
   replace hA0:=hA0.mono hx2
   replace hx:=hx.trans hx2
   clear hx2
   obtain ⟨P4,hP4⟩:∃ x,x=G5.size:=⟨_,rfl⟩
   rw [← hP4] at b3 ⊢
   refine a0B ?_
   simp [O0k,b3,b1,d1,d2,l1.plain,l2.plain,l3.cells,l3.plain,l4.cells,l4.plain,l5.cells,l5.plain]
   generalize hS':Array.setIfInBounds G6 _ _=G7
   rw [a0s hS' b1]
   simp
   intro _
   unfold o0e
   rw [h1C (by rw [hv];simp),h1C (by rw [hno];simp)]
   have hsz:=a1G hok hq (by omega) hQ
   obtain ⟨kk,hkk⟩:∃ kk,kk=n.toNat:=⟨_,rfl⟩
   obtain ⟨m,hm⟩:∃ m,m=(b0J rows d).length:=⟨_,rfl⟩
   have hW:(m + 2) * ((kk + 3) * (6 + 1) + m + 2) + 1 + m + 1 + (kk + 3) * (6 + 1) + (kk + 3) * (6 + 1)≤6000:=by
    have h1:(m + 2) * ((kk + 3) * (6 + 1) + m + 2)≤42 * 105:=i1z (by omega) (by omega)
    omega
   rw [hm,hkk] at hW
   refine ⟨_,a,rfl,hA0.setS hS' b1 (by decide) (by decide),?_,fun x hx=>h1R (hsz.1 x hx) hW,fun x hx=>h1R (hsz.2 x hx) hW⟩
   rcases hQ with hQ | hQ
   ·exact .inl (hQ.cert hok hq)
   ·exact .inr (hQ.cert hok hq)
end
section
open Go
set_option maxHeartbeats 4000000
variable {fl:Nat} {H G:a0f} {R:a0G} {v w u:Value}
theorem b0e.app2 {α:Type} {P:a0f→List Value→α→Prop} {e sz:Nat} {l:List α} (he:e ≠ a0k) (hO:∀ G' cs x,e0p (slB v) G G'→Lx G G'→P G cs x→P G' cs x) (h:b0e P fl G e sz v l) {e2 c bytes:Nat} {new1 new2:List Value} {x1 x2:α} (hx1:P G new1 x1) (hx2:P G new2 x2) (hl1:new1.length=sz) (hl2:new2.length=sz) (hp1:new1.all a0F=true) (hp2:new2.all a0F=true) (hn:l.length < 1073741822) (hb:bytes≤1024) (hs:0 < sz) (hfl:fl≤G.size) :
  ∃ v' G',k0c fl (G.push (.row false e2 (new1 ++ new2))) e sz bytes v (.slice (some ⟨G.size,0,none⟩) 2 c)=some (v',G')∧b0e P fl G' e sz v' (l ++ [x1,x2])∧e0p (slB v) G G'∧(∀ H0,H0.size≤fl→Ext H0 G→Ext H0 G'):=by
 obtain ⟨cs,h1,h2⟩:=h
 have hx:Sl (G.push (.row false e2 (new1 ++ new2))) e2 sz (.slice (some ⟨G.size,0,none⟩) 2 c) 2 (new1 ++ new2):=(Own.mk (fl:=0) a0C (by rw [i1l,hl1,hl2];omega) (i1C _)).sl
 obtain ⟨v',G',a1,a2,a3,a4⟩:=k0e (h1.mono (Ext.push (Ext.refl G))) hx (by rw [k1r,hp1,hp2];rfl) (by omega) hb hs (bytes:=bytes) (by simp;omega)
 have a3':e0p (slB v) G G':=by
  refine ⟨?_,fun b hb hne=>?_⟩
  ·have:=a3.1;simp at this;omega
  ·rw [a3.2 b (by simp;omega) hne,e0c hb]
 have hL:=b0e.lx ⟨cs,h1,h2⟩ he a3'
 refine ⟨v',G',a1,⟨cs ++ (new1 ++ new2),by simpa using a2,fun k hk=>?_⟩,a3',fun H0 k1 k2=>a4 H0 k1 k2.push⟩
 have hcs:=h1.1
 by_cases hkl:k < l.length
 ·have h3:(k + 1) * sz≤l.length * sz:=h1J _ hkl
  rw [h1X,i1r] at h3
  rw [i1L hkl,j1e (by omega),j1s (by simp;omega)]
  exact hO _ _ _ a3' hL (h2 k hkl)
 ·by_cases hke:k=l.length
  ·subst hke
   rw [i1h (h1A _),j1e (by omega),j1k (by omega),j1o,j1s (by omega),← hl1,h1T]
   simpa using hO _ _ _ a3' hL hx1
  ·have hke:k=l.length + 1:=by simp at hk;omega
   subst hke
   have e1:(cs ++ (new1 ++ new2)).drop ((l.length + 1) * sz)=new2:=by
    rw [← List.append_assoc,List.drop_append,j1k (by rw [i1l,hcs,hl1,h1X];omega),j1o,i1l,hcs,hl1,h1X]
    simp
   rw [e1,i1h (by omega),← hl2,h1T]
   simpa using hO _ _ _ a3' hL hx2
theorem L0r {n:Int}:mn2 true 0 (mn2 false n 6)=max 0 (min n 6):=by
 simp only [mn2,i1a,i1F,i1s]
 repeat' split
 all_goals omega
theorem o0a {n:Int} (hf:fl≤H.size):a0S env fl Y0I [.int .i64 n] H (fun r H'=>r=.int .i64 (max 0 (min n 6))∧Ext H H') R:=by
 refine a0i g1o hf (h:=?_)
 intro ρ h0
 simp [b1G,P0t,P0u,h0]
 have h1:t0I true (.int .i64 0) [.int .i64 (mn2 false n 6)]=some (.int .i64 (max 0 (min n 6))):=by rw [← L0r];rfl
 have h2:t0I false (.int .i64 n) [.int .i64 6]=some (.int .i64 (mn2 false n 6)):=rfl
 simp [h2,h1]
theorem k0X {n:Nat} {i p k q:Int} (hf:fl≤H.size) (hn:n < 1073741824) (hp1:-9223372036854775808≤p) (hp2:p < 9223372036854775808) (hq1:-9223372036854775808≤q) (hq2:q < 9223372036854775808) :
  a0S env fl W0Z [.int .i64 (n:Int),.int .i64 i,.int .i64 p,.int .i64 k,.int .i64 q] H (fun r H'=>b0e PR H.size H' a0b 4 r ((List.range n).map fun (j:Nat)=>a0e ((if (j:Int)=k then q else if (j:Int)=i then p else 0:Int):Rat))∧Ext H H') R:=by
 refine a0i g1p hf (h:=?_)
 intro ρ h0
 simp [b1H,P0v,P0w,P0x,h0]
 refine c0q (fun j ρ G=>ρ 0=.int .i64 (n:Int)∧ρ 1=.int .i64 i∧ρ 2=.int .i64 p∧ρ 3=.int .i64 k∧ρ 4=.int .i64 q∧ρ 12=.int .i64 (j:Int)∧Ext H G∧b0e PR H.size G a0b 4 (ρ 11) ((List.range j).map fun (j:Nat)=>a0e ((if (j:Int)=k then q else if (j:Int)=i then p else 0:Int):Rat))) n (by decide) ⟨by simp [h0],by simp [h0],by simp [h0],by simp [h0],by simp [h0],by simp,Ext.refl H,by simpa using b0e.nil⟩ ?_
 clear h0 ρ
 rintro j ρ G hj1 ⟨g0,g1,g2,g3,g4,g12,hx,ho⟩
 obtain ⟨s,g11⟩:∃ s,ρ 11=s:=⟨_,rfl⟩
 rw [g11] at ho
 simp [P0y,g0,g12]
 refine d0L.mk (by simp) (fun hj=>?_) (fun heq=>?_)
 ·obtain ⟨z,hz⟩:∃ z:Int,z=(if (j:Int)=k then q else if (j:Int)=i then p else 0):=⟨_,rfl⟩
  have hz1:-9223372036854775808≤z:=by rw [hz];split;exact hq1;split;exact hp1;omega
  have hz2:z < 9223372036854775808:=by rw [hz];split;exact hq2;split;exact hp2;omega
  have hlist:(List.range (j + 1)).map (fun (j:Nat)=>a0e ((if (j:Int)=k then q else if (j:Int)=i then p else 0:Int):Rat))=(List.range j).map (fun (j:Nat)=>a0e ((if (j:Int)=k then q else if (j:Int)=i then p else 0:Int):Rat)) ++ [a0e (z:Rat)]:=by
   rw [k1w,k1t,List.map_singleton,← hz]
  by_cases h1:(j:Int)=k <;> by_cases h2:(j:Int)=i
  all_goals
   first | rw [h1F h1] at hz | rw [h1C h1,h1F h2] at hz | rw [h1C h1,h1C h2] at hz
   subst hz
   try subst h1
   try subst h2
   simp [P0z,P0A,P0B,P0C,P0D,g1,g2,g3,g4,g12, *]
   simp [P0E,g11]
   refine (e0I hx.1 (by omega) (by omega)).mono ?_
   rintro _ G2 ⟨⟨s3,s4,rfl,k3,k4⟩,hx2⟩
   replace hx:=hx.trans hx2
   replace ho:=ho.mono a0u hx2
   try rw [show ((0:Int):Rat)=0 from rfl] at k3 k4 hlist ⊢
   obtain ⟨s',G4,h1,h2,h3,h4⟩:=b0e.app (P:=PR) (sz:=4) (e:=a0b) (by decide) (fun G' cs x _ hl h=>b0L.lx h hl) ho (e2:=a0b) (c:=1) (bytes:=64) ⟨s3,s4,rfl,k3,k4⟩ rfl (by simp [k3.plain,k4.plain]) (by simp;omega) (by omega) (by omega) hx.1
   have k3':=k3.cells;have k4':=k4.cells
   simp [g11,k3',k4',h1]
   unfold e0N
   simp [I0K,g12,b0a (show j < 4611686018427387904 by omega)]
   exact c0f.mk ⟨by simp [g0],by simp [g1],by simp [g2],by simp [g3],by simp [g4],by simp,h4 _ (h1A _) hx,by rw [hlist];exact b0e.cast (v':=s') (by simp) h2⟩
 ·subst heq
  simp [I0L,g11]
  exact fun _=>ho
theorem b0e.first {α:Type} {P:a0f→List Value→α→Prop} {f0 e sz:Nat} {l:List α} (h:b0e P f0 H e sz v l) {k:IntKind} :
  ∃ v',e0a sz v none (some (.int k l.length)) none=some v'∧b0e P f0 H e sz v' l∧elemOk H e v=true:=by
 obtain ⟨v1,h1,_,h3⟩:=h.sls.first (n:=l.length) (k:=k) (h1A _)
 refine ⟨v1,h1,?_,h3⟩
 obtain ⟨cs,⟨hl,⟨rfl,h0⟩ | ⟨b,cap,rfl,hb,hf⟩⟩,h2⟩:=h
 ·have:v1=.slice none 0 0:=by
   rw [h0] at h1
   exact (Option.some.inj (h1.symm.trans rfl))
  subst this
  exact ⟨cs,⟨hl,.inl ⟨rfl,h0⟩⟩,h2⟩
 ·unfold e0a at h1
  simp [bnd] at h1
  subst h1
  exact ⟨cs,⟨hl,.inr ⟨b,_,rfl,hb,hf⟩⟩,h2⟩
theorem s0m {f0:Nat} {l:List (List b0q)} (h:b0e PS f0 H a0R 1 v l) (hf:fl≤H.size) (hl:l.length≤40) :
  a0S env fl Y0J [v] H (fun r H'=>(∃ s,r=.agg #[s]∧b0e PS f0 H' a0R 1 s l)∧Ext H H') R:=by
 refine a0i g1q hf (h:=?_)
 intro ρ h0
 have hmn:t0I false (.int .i64 (l.length:Int)) [.int .i64 40]=some (.int .i64 (l.length:Int)):=by
  have:mn2 false (l.length:Int) 40=l.length:=by
   simp only [mn2,i1a,i1F]
   split <;> omega
  show some (Value.int IntKind.i64 (mn2 false (l.length:Int) 40))=_
  rw [this]
 obtain ⟨u1,hu1,ku,oku⟩:=(h.mono b0F ((Ext.refl H).push (r:=.row false a0J [.slice none 0 0]))).first (k:=.i64)
 have ku0:=ku.sls
 simp [b1I,P0F,P0G,h0,h.sls.slen,hmn,hu1,oku,ku0.cells,ku0.plain,hf]
 exact ku.lxm (b0m rfl a0C (by decide)) (fun cs x ⟨w',q1,q2⟩=>⟨w',q1,a0O.lx2 q2 (b0m rfl a0C (by decide)) (fun b ro cs h=>b0m (e:=a0k) rfl a0C (by decide) b ro cs h)⟩)
def i0R (n i:Nat) (p:Int):List b0q:=(List.range n).map fun (j:Nat)=>a0e ((if (j:Int) = -1 then 0 else if (j:Int)=(i:Int) then p else 0:Int):Rat)
def b0Z (n:Nat):Nat→List (List b0q)
 | 0=>[]
 | i + 1=>b0Z n i ++ [i0R n i 1,i0R n i (-1)]
theorem d0I {n:Nat}:∀ i,(b0Z n i).length=2 * i
 | 0=>rfl
 | i + 1=>by rw [b0Z,i1l,d0I i];simp;omega
theorem l0r {n:Int} {m:Nat} (hf:fl≤H.size) (hm:max 0 (min n 6)=(m:Int)) :
  a0S env fl W0X [.int .i64 n] H (fun r H'=>(∃ s,r=.agg #[s]∧b0e PS H.size H' a0R 1 s (b0Z m m))∧Ext H H') R:=by
 refine a0i g1m hf (h:=?_)
 intro ρ h0
 simp [b1E,P0j,P0k,h0]
 generalize hN:Array.push H _=G
 obtain ⟨hx,b0⟩:=g0r hN
 clear hN
 refine (o0a hx.1).mono ?_
 rintro _ G2 ⟨rfl,hx2⟩
 rw [hm]
 have hm6:m≤6:=by omega
 replace b0:=hx2.blk b0
 replace hx:=hx.trans hx2
 simp [P0l,P0m]
 refine c0q (fun i ρ G=>ρ 0=.int .i64 (m:Int)∧ρ 2=.pointer (some ⟨H.size,0,none⟩)∧ρ 4=.int .i64 (i:Int)∧Ext H G∧a0f.blk G H.size=.row false a0J [.slice none 0 0]∧b0e PS H.size G a0R 1 (ρ 3) (b0Z m i)) m (by decide) ⟨by simp,by simp,by simp,hx,b0,by simpa [b0Z] using b0e.nil⟩ ?_
 clear h0 ρ hx b0 hx2
 rintro i ρ G hi1 ⟨g0,g2,g4,hx,b0,ho⟩
 obtain ⟨s,g3⟩:∃ s,ρ 3=s:=⟨_,rfl⟩
 rw [g3] at ho
 simp [P0n,g0,g4]
 refine d0L.mk (by simp) (fun hi=>?_) (fun heq=>?_)
 ·simp [P0o,g0,g3,g4]
  refine (k0X hx.1 (by omega) (by decide) (by decide) (by decide) (by decide)).mono ?_
  rintro wa G2 ⟨oa,hx2⟩
  replace b0:=hx2.blk b0
  replace ho:=ho.mono b0F hx2
  replace hx:=hx.trans hx2
  simp [g0,g4]
  refine (k0X hx.1 (by omega) (by decide) (by decide) (by decide) (by decide)).mono ?_
  rintro wb G3 ⟨ob,hx2⟩
  replace b0:=hx2.blk b0
  replace ho:=ho.mono b0F hx2
  replace oa:=oa.mono a0u hx2
  replace hx:=hx.trans hx2
  have hll:=d0I (n:=m) i
  obtain ⟨s',G4,h1,h2,h3,h4⟩:=b0e.app2 (P:=PS) (sz:=1) (e:=a0R) (by decide) (fun G' cs x hxb hl ⟨w',q1,q2⟩=>⟨w',q1,a0O.lx2 q2 (ho.lxT (by decide) hxb) hl⟩) ho (e2:=a0R) (c:=2) (bytes:=24) (new1:=[wa]) (new2:=[wb]) (x1:=i0R m i 1) (x2:=i0R m i (-1)) ⟨wa,rfl,oa.sls⟩ ⟨wb,rfl,ob.sls⟩ rfl rfl (by simp [oa.sls.plain]) (by simp [ob.sls.plain]) (by omega) (by omega) (by omega) hx.1
  have b0':=(ho.lxT (e':=a0J) (by decide) h3) _ _ _ b0
  simp [g3,oa.sls.cells,ob.sls.cells]
  simp at h1
  simp [h1]
  unfold e0N
  simp [P0p,g4,b0a (show i < 4611686018427387904 by omega)]
  exact c0f.mk ⟨by simp [g0],by simp [g2],by simp,h4 _ (h1A _) hx,b0',b0e.cast (v':=s') (by simp) h2⟩
 ·subst heq
  simp [P0q,g3]
  refine (s0m ho hx.1 (by rw [d0I];omega)).mono ?_
  rintro _ G2 ⟨⟨s2,rfl,ks⟩,hx2⟩
  replace b0:=hx2.blk b0
  replace hx:=hx.trans hx2
  have hsz:=hx.1
  have ks0:=ks.sls
  simp [g2,b0,ks0.cells,ks0.plain,hsz]
  generalize hS':Array.setIfInBounds G2 _ _=G3
  rw [a0s hS' b0]
  simp
  exact fun _=>ks.lxm (b0m hS' b0 (by decide)) (fun cs x ⟨w',q1,q2⟩=>⟨w',q1,a0O.lx2 q2 (b0m hS' b0 (by decide)) (fun b ro cs h=>b0m (e:=a0k) hS' b0 (by decide) b ro cs h)⟩)
theorem k0A {n:Int} {m:Nat} (hf:fl≤H.size) (hm:max 0 (min n 6)=(m:Int)) :
  a0S env fl W0X [.int .i64 n] H (fun r H'=>d0q H' r (b0Z m m)∧Ext H H') R :=
 (l0r hf hm).mono fun r H' ⟨⟨s,h1,h2⟩,h3⟩=>⟨⟨s,h1,h2.sls⟩,h3⟩
end
section
open Go
set_option maxHeartbeats 1000000
theorem U0e {i:Nat} {s:Rat} {f:Nat→Rat}:∀ {n:Nat},rs (fun k=>(if k=i then s else 0) * f k) n=if i < n then s * f i else 0
 | 0=>by simp [rs]
 | n + 1=>by
  rw [rs,U0e]
  by_cases h1:i < n
  ·rw [h1F h1,h1C (by omega),h1F (by omega),k1n,j1O]
  ·by_cases h2:n=i
   ·subst h2;rw [h1C h1,h1F rfl,h1F (by omega),Rat.zero_add]
   ·rw [h1C h1,h1C h2,h1C (by omega),k1n,j1O]
theorem U0d {f g:Nat→Rat}:∀ {n:Nat},rs (fun i=>f i + g i) n=rs f n + rs g n
 | 0=>by rw [rs,rs,rs];grind
 | n + 1=>by rw [rs,rs,rs,U0d];grind
theorem v0q:∀ {n:Nat},rs (fun _=>0) n=0
 | 0=>rfl
 | n + 1=>by rw [rs,v0q];grind
theorem J0T {f:Nat→Nat→Rat} {M:Nat}:∀ {N:Nat},rs (fun i=>rs (fun j=>f i j) M) N=rs (fun j=>rs (fun i=>f i j) N) M
 | 0=>by simp only [rs];rw [v0q]
 | N + 1=>by simp only [rs];rw [J0T,← U0d]
theorem a1v {f g:Nat→Rat}:∀ {n:Nat},(∀ i,i < n→f i≤g i)→rs f n≤rs g n
 | 0,_=>Rat.le_refl
 | n + 1,h=>by
  have h1:=a1v (n:=n) (fun i hi=>h i (by omega))
  have h2:=h n (by omega)
  rw [rs,rs];grind
theorem W0u {f:Nat→Rat} {c:Rat} {n:Nat}:rs (fun i=>c * f i) n=c * rs f n:=by
 rw [Rat.mul_comm,← n0p];exact c0b fun i _=>Rat.mul_comm _ _
theorem x0L.none {p:LPt} {n m:Nat} {a:t0a} (h:x0L p n m a) (x:Nat→Rat):¬ ∀ r,r < m→rs (fun k=>pA p r k * x k) n≤pB p r:=by
 intro hx
 have h1:rs (fun i=>a.Y.getD i 0 * rs (fun k=>pA p i k * x k) n) m≤rs (fun i=>a.Y.getD i 0 * pB p i) m :=
  a1v fun i hi=>Rat.mul_le_mul_of_nonneg_left (hx i hi) (h.Y0 i hi)
 have h2:rs (fun i=>a.Y.getD i 0 * rs (fun k=>pA p i k * x k) n) m=rs (fun k=>rs (fun i=>a.Y.getD i 0 * pA p i k) m * x k) n:=by
  have e1:∀ i,i < m→a.Y.getD i 0 * rs (fun k=>pA p i k * x k) n=rs (fun k=>a.Y.getD i 0 * pA p i k * x k) n:=fun i _=>by
   rw [← W0u];exact c0b fun k _=>by grind
  rw [c0b e1,J0T]
  exact c0b fun k _=>n0p
 have h3:rs (fun k=>rs (fun i=>a.Y.getD i 0 * pA p i k) m * x k) n=0:=by
  rw [c0b (g:=fun _=>0) (fun k hk=>by rw [h.YA k hk,k1n]),v0q]
 rw [h2,h3] at h1
 have:=h.YB
 grind
theorem w0o:∀ {rows:List (List b0q)} {d:List d0h},rows.length=d.length→(∀ e ∈ d,e.1=0)→b0J rows d=rows.map h0P∧c0N rows d=d.map fun e=>a0e (b0o e.2)
 | [],[],_,_=>⟨rfl,rfl⟩
 | [],_ :: _,h,_=>by simp at h
 | _ :: _,[],h,_=>by simp at h
 | r :: rs,e :: es,h,h0=>by
  obtain ⟨h1,h2⟩:=w0o (rows:=rs) (d:=es) (by simpa using h) (fun e he=>h0 e (by simp [he]))
  have h3:=h0 e (by simp)
  simp only [b0J,c0N,h1F h3,h1,h2,List.map_cons]
  trivial
def bxD (lo hi:Nat→Int):Nat→List d0h
 | 0=>[]
 | i + 1=>bxD lo hi i ++ [(0,a0e (hi i:Int)),(0,a0e ((-lo i:Int):Rat))]
theorem k0h {lo hi:Nat→Int}:∀ i,(bxD lo hi i).length=2 * i
 | 0=>rfl
 | i + 1=>by rw [bxD,i1l,k0h i];simp;omega
theorem k0i {lo hi:Nat→Int} {e:d0h}:∀ {i},e ∈ bxD lo hi i→∃ k,k < i∧(e=(0,a0e (hi k:Int)) ∨ e=(0,a0e ((-lo k:Int):Rat)))
 | 0,h=>by simp [bxD] at h
 | i + 1,h=>by
  rw [bxD,i1g] at h
  rcases h with h | h
  ·obtain ⟨k,h1,h2⟩:=k0i h;exact ⟨k,by omega,h2⟩
  ·exact ⟨i,by omega,by simpa using h⟩
theorem f0B {n:Nat} {r:List b0q}:∀ {m},r ∈ b0Z n m→∃ i,i < m∧(r=i0R n i 1 ∨ r=i0R n i (-1))
 | 0,h=>by simp [b0Z] at h
 | m + 1,h=>by
  rw [b0Z,i1g] at h
  rcases h with h | h
  ·obtain ⟨k,h1,h2⟩:=f0B h;exact ⟨k,by omega,h2⟩
  ·exact ⟨m,by omega,by simpa using h⟩
theorem K0l {α:Type} {l:List α} {a b d:α} {m k:Nat} (hl:l.length=2 * m) (hk:k < 2):(l ++ [a,b]).getD (2 * m + k) d=if k=0 then a else b:=by
 rw [h1z,i1B (by omega),hl,show 2 * m + k - 2 * m=k by omega]
 match k,hk with
 | 0,_=>rfl
 | 1,_=>rfl
theorem A0W {α:Type} {l:List α} {a b d:α} {k:Nat} (hk:k < l.length):(l ++ [a,b]).getD k d=l.getD k d:=by
 rw [h1z,i1u hk,h1z]
theorem o0n {n i k:Nat} (hk:k < 2):∀ {m:Nat},i < m→(b0Z n m).getD (2 * i + k) []=i0R n i (if k=0 then 1 else -1)
 | 0,h=>by omega
 | m + 1,h=>by
  rw [b0Z]
  have hl:=d0I (n:=n) m
  by_cases hi:i < m
  ·rw [A0W (by omega),o0n hk hi]
  ·have:i=m:=by omega
   subst this
   rw [K0l hl hk];split <;> rfl
theorem z0N {lo hi:Nat→Int} {i k:Nat} (hk:k < 2):∀ {m:Nat},i < m→(bxD lo hi m).getD (2 * i + k) (0,d0P)=(0,a0e ((if k=0 then hi i else -lo i:Int):Rat))
 | 0,h=>by omega
 | m + 1,h=>by
  rw [bxD]
  have hl:=k0h (lo:=lo) (hi:=hi) m
  by_cases hi:i < m
  ·rw [A0W (by omega),z0N hk hi]
  ·have:i=m:=by omega
   subst this
   rw [K0l hl hk];split <;> rfl
theorem r0R {n i:Nat} {p:Int}:(i0R n i p).length=n:=by unfold i0R;simp
theorem A0H {n i k:Nat} {p:Int} (hk:k < n):(i0R n i p).getD k d0P=a0e (((if k=i then p else 0:Int)):Rat):=by
 unfold i0R
 rw [h1z]
 simp [hk]
 congr 2
 by_cases h:k=i
 ·rw [h1F (by omega),h1F h]
 ·rw [h1C (by omega),h1C h]
def g0S (lo hi:Nat→Int):Nat→Bool
 | 0=>false
 | i + 1=>g0S lo hi i || decide (hi i < lo i)
theorem k0j {lo hi:Nat→Int}:∀ {n},g0S lo hi n=true ↔ ∃ i,i < n∧hi i < lo i
 | 0=>by simp [g0S]
 | n + 1=>by
  rw [g0S,k1p,k0j,i1w]
  constructor
  ·rintro (⟨i,h1,h2⟩ | h)
   ·exact ⟨i,by omega,h2⟩
   ·exact ⟨n,by omega,h⟩
  ·rintro ⟨i,h1,h2⟩
   by_cases h:i < n
   ·exact .inl ⟨i,h,h2⟩
   ·exact .inr (by have : i = n := by omega
                   subst this;exact h2)
theorem W0t {n i:Nat} {p:Int} {f:Nat→Rat} (hi:i < n):rs (fun k=>b0o ((i0R n i p).getD k d0P) * f k) n=(p:Rat) * f i:=by
 have h1:=U0e (i:=i) (s:=(p:Rat)) (f:=f) (n:=n)
 rw [h1F hi] at h1
 rw [← h1]
 refine c0b fun k hk=>?_
 rw [A0H hk,a0D]
 congr 1
 split <;> rfl
theorem y0C {r:List b0q} (h:∀ x ∈ r,∃ y:Rat,x=a0e y):h0P r=r:=by
 unfold h0P
 conv=>rhs;rw [← List.map_id r]
 apply i1T
 intro x hx
 obtain ⟨y,rfl⟩:=h x hx
 rw [a0D];rfl
theorem m0j {n i:Nat} {p:Int}:∀ x ∈ i0R n i p,∃ y:Rat,x=a0e y:=by
 intro x hx
 unfold i0R at hx
 obtain ⟨k,_,rfl⟩:=j1h.1 hx
 exact ⟨_,rfl⟩
section
variable {n:Nat} {lo hi:Nat→Int}
theorem t0m:b0J (b0Z n n) (bxD lo hi n)=b0Z n n∧c0N (b0Z n n) (bxD lo hi n)=(bxD lo hi n).map (·.2):=by
 obtain ⟨h1,h2⟩:=w0o (rows:=b0Z n n) (d:=bxD lo hi n) (by rw [d0I,k0h]) (fun e he=>by
  obtain ⟨k,_,h | h⟩:=k0i he <;> rw [h])
 rw [h1,h2]
 constructor
 ·conv=>rhs;rw [← List.map_id (b0Z n n)]
  apply i1T
  intro r hr
  obtain ⟨i,_,h | h⟩:=f0B hr <;> rw [h,y0C m0j] <;> rfl
 ·apply i1T
  intro e he
  obtain ⟨k,_,h | h⟩:=k0i he <;> rw [h,a0D]
theorem Y0k {i k:Nat} (hk:k < 2) (hin:i < n) {f:Nat→Rat}:rs (fun c=>pA (i0q (b0Z n n) n (bxD lo hi n)) (2 * i + k) c * f c) n=((if k=0 then 1 else -1:Int):Rat) * f i:=by
 rw [← W0t hin]
 refine c0b fun c hc=>?_
 unfold pA i0q
 rw [show (LPt.mk (n:Int) (b0J (b0Z n n) (bxD lo hi n)) (c0N (b0Z n n) (bxD lo hi n)) (List.replicate (n:Int).toNat (a0e 0))).A=b0Z n n from t0m.1,o0n hk hin]
theorem Y0l {i k:Nat} (hk:k < 2) (hin:i < n):pB (i0q (b0Z n n) n (bxD lo hi n)) (2 * i + k)=((if k=0 then hi i else -lo i:Int):Rat):=by
 have hl:2 * i + k < (bxD lo hi n).length:=by rw [k0h];omega
 have h1:=z0N (lo:=lo) (hi:=hi) hk hin
 unfold pB i0q
 rw [show (LPt.mk (n:Int) (b0J (b0Z n n) (bxD lo hi n)) (c0N (b0Z n n) (bxD lo hi n)) (List.replicate (n:Int).toNat (a0e 0))).B=(bxD lo hi n).map (·.2) from t0m.2]
 rw [b0y (by rw [i1P];exact hl),i1x]
 rw [b0y hl] at h1
 rw [h1,a0D]
theorem z0O (hn:n≤6):c0x (b0Z n n) n (bxD lo hi n)=true:=by
 have hA:p0v (k0G n) (b0Z n n)=true:=i1p.2 fun r hr=>by
  obtain ⟨i,_,h⟩:=f0B hr
  unfold k0G
  have hl:r.length=n:=by rcases h with h | h <;> rw [h,r0R]
  have hm:p0v l0D r=true:=i1p.2 fun x hx=>by
   obtain ⟨y,rfl⟩:∃ y:Rat,x=a0e y:=by rcases h with h | h <;> (rw [h] at hx;exact m0j x hx)
   exact h0M y
  rw [hm,hl];simp
 have hD:d0G (fun e=>!m0n e) (bxD lo hi n)=false:=by
  cases ha:d0G (fun e=>!m0n e) (bxD lo hi n) with
  | false=>rfl
  | true =>
   obtain ⟨e,h1,h2⟩:=j1d.1 ha
   obtain ⟨k,_,h | h⟩:=k0i h1 <;> (rw [h] at h2;simp [m0n,h0M] at h2)
 unfold c0x h0x
 rw [hA,hD,d0I,k0h]
 simp
 omega
theorem K0N:d0G (fun e=>decide (e.1 < 0)) (bxD lo hi n)=false:=by
 cases ha:d0G (fun e=>decide (e.1 < 0)) (bxD lo hi n) with
 | false=>rfl
 | true =>
  obtain ⟨e,h1,h2⟩:=j1d.1 ha
  obtain ⟨k,_,h | h⟩:=k0i h1 <;> (rw [h] at h2;simp at h2)
theorem Y0m {r:Nat} (h:r < 2 * n):∃ i k,r=2 * i + k∧k < 2∧i < n:=⟨r / 2,r % 2,by omega,by omega,by omega⟩
theorem K0O {a:t0a} (h:x0L (i0q (b0Z n n) n (bxD lo hi n)) n (2 * n) a ∨ z0z (i0q (b0Z n n) n (bxD lo hi n)) n (2 * n) a):decide (a.kind=2)=g0S lo hi n:=by
 rcases h with h | h
 ·have h1:=h.kind
  have h2:g0S lo hi n=true:=by
   cases hb:g0S lo hi n with
   | true=>rfl
   | false =>
    refine h1Y (fun r hr=>?_) (h.none (fun i=>((lo i:Int):Rat)))
    obtain ⟨i,k,rfl,hk,hin⟩:=Y0m hr
    rw [Y0k hk hin,Y0l hk hin]
    have hle:lo i≤hi i:=by
     have h3:¬ g0S lo hi n=true:=by rw [hb];simp
     rw [k0j] at h3
     by_cases h4:hi i < lo i
     ·exact h1Y ⟨i,hin,h4⟩ h3
     ·omega
    by_cases h0:k=0
    ·rw [h1F h0,h1F h0,← j1A]
     exact Rat.intCast_le_intCast.2 (by omega)
    ·rw [h1C h0,h1C h0,← j1A]
     exact Rat.intCast_le_intCast.2 (by omega)
  rw [h2,h1];rfl
 ·have h1:=h.kind
  have h2:g0S lo hi n=false:=by
   cases hb:g0S lo hi n with
   | false=>rfl
   | true =>
    obtain ⟨i,hin,hlt⟩:=k0j.1 hb
    have a1:=h.AX (2 * i + 0) (by omega)
    have a2:=h.AX (2 * i + 1) (by omega)
    rw [Y0k (by omega) hin,Y0l (by omega) hin] at a1 a2
    simp only [i1s] at a1
    rw [h1C (by decide),h1C (by decide)] at a2
    have hlr:((hi i:Int):Rat) < ((lo i:Int):Rat):=Rat.intCast_lt_intCast.2 hlt
    have e1:((-1:Int):Rat) = -1:=rfl
    have e2:((1:Int):Rat)=1:=rfl
    rw [e2] at a1
    rw [e1,Rat.intCast_neg] at a2
    grind
  rw [h2,h1];rfl
theorem x0U {a b:Rat}:(¬ 0 < K0r (0,a) (0,b)) ↔ a≤b:=by
 unfold K0r t0o
 simp
 constructor
 ·intro h
  by_cases h1:a < b
  ·grind
  ·simp [h1] at h
   by_cases h2:b < a
   ·simp [h2] at h
   ·grind
 ·intro h
  by_cases h1:a < b
  ·simp [h1]
  ·have:¬ b < a:=by grind
   simp [h1,this]
end
end
section
open Go
set_option maxHeartbeats 4000000
variable {fl:Nat} {H G:a0f} {R:a0G} {v w u:Value}
theorem Y0j {lo hi:Nat→Int} {n:Nat} (hlo:∀ i,-128≤lo i∧lo i < 129) (hhi:∀ i,-128≤hi i∧hi i < 129):∀ e ∈ bxD lo hi n,d0W e.2≤6∧b0u e.2.1.2∧b0u e.2.2.2:=by
 intro e he
 have h1:∀ z:Int,-129≤z→z < 130→d0W (a0e (z:Rat))≤6:=fun z h1 h2=>by
  rw [a0I,K0f]
  have:=t0G (z:=z) (k:=1) (by omega)
  omega
 obtain ⟨k,_,h | h⟩:=k0i he
 ·rw [h];have:=hhi k;exact ⟨h1 _ (by omega) (by omega),b0N _,b0N _⟩
 ·rw [h];have:=hlo k;exact ⟨h1 _ (by omega) (by omega),b0N _,b0N _⟩
theorem y0x {n m:Nat}:∀ r ∈ b0Z n m,Few 6 r:=by
 intro r hr
 have h1:∀ z:Int,-1≤z→z≤1→d0W (a0e (z:Rat))≤6:=fun z h1 h2=>by
  rw [a0I,K0f]
  have:=t0G (z:=z) (k:=1) (by omega)
  omega
 obtain ⟨i,_,h | h⟩:=f0B hr
 all_goals
  rw [h]
  intro x hx
  unfold i0R at hx
  obtain ⟨j,_,rfl⟩:=j1h.1 hx
  refine ⟨h1 _ ?_ ?_,b0N _,b0N _⟩
  all_goals (split;omega;split <;> omega)
theorem e0E {n:Int} (hf:fl≤H.size):a0S env fl N0L [.int .i64 n] H (fun r H'=>r=.int .i64 n∧Ext H H') R:=by
 refine a0i g1d hf (h:=?_)
 intro ρ h0
 simp [b1w,O0o,O0p,h0]
theorem d0c (hf:fl≤H.size):a0S env fl N0M [] H (fun r H'=>r=.bool true∧Ext H H') R:=by
 refine a0i g1f hf (h:=?_)
 intro ρ h0
 have hx:=Ext.refl H
 simp [b1y,O0w,O0x]
 refine (k0A (n:=1) (m:=1) hx.1 (by decide)).mono ?_
 rintro _ G2 ⟨⟨sT,rfl,kT⟩,hx2⟩
 replace hx:=hx.trans hx2
 simp
 refine (e0I (n:=3) hx.1 (by decide) (by decide)).mono ?_
 rintro _ G3 ⟨⟨s1,s2,rfl,m1,m2⟩,hx2⟩
 replace kT:=kT.mono b0F hx2
 replace hx:=hx.trans hx2
 simp
 refine (e0I (n:=-4) hx.1 (by decide) (by decide)).mono ?_
 rintro _ G4 ⟨⟨s3,s4,rfl,m3,m4⟩,hx2⟩
 replace kT:=kT.mono b0F hx2
 replace m1:=m1.mono hx2
 replace m2:=m2.mono hx2
 replace hx:=hx.trans hx2
 have d1:=m1.cells;have d2:=m2.cells;have d3:=m3.cells;have d4:=m4.cells
 have hd:d0n (G4.push (.row false b0v [.int .i64 0,.bool (a0e ((3:Int):Rat)).1.1,s1,.bool (a0e ((3:Int):Rat)).2.1,s2,.int .i64 0,.bool (a0e ((-4:Int):Rat)).1.1,s3,.bool (a0e ((-4:Int):Rat)).2.1,s4])) (.slice (some ⟨G4.size,0,none⟩) 2 2) (bxD (fun _=>4) (fun _=>3) 1):=by
  refine ⟨_,(Own.mk (fl:=0) (n:=2) (sz:=5) a0C rfl (i1C _)).sl,fun k hk=>?_⟩
  match k,hk with
  | 0,_=>exact ⟨s1,s2,rfl,m1.mono (Ext.refl G4).push,m2.mono (Ext.refl G4).push⟩
  | 1,_=>exact ⟨s3,s4,rfl,m3.mono (Ext.refl G4).push,m4.mono (Ext.refl G4).push⟩
 have hb:g0S (fun _=>4) (fun _=>3) 1=true:=by decide
 have hv3:a0e ((3:Int):Rat)=a0e 3:=rfl
 have hv4:a0e ((-4:Int):Rat)=a0e (-4):=rfl
 rw [hv3,hv4] at hd
 simp [d1,d2,d3,d4]
 refine (i0z (n:=1) (rows:=b0Z 1 1) (d:=bxD (fun _=>4) (fun _=>3) 1) ⟨sT,rfl,kT.mono b0F (Ext.refl G4).push⟩ hd (by have:=hx.1;simp;omega) (fun r hr=>⟨y0x r hr,by obtain ⟨k,_,h | h⟩:=f0B hr <;> (rw [h,r0R];decide)⟩) (by rw [d0I];decide) (Y0j (fun _=>⟨by decide,by decide⟩) (fun _=>⟨by decide,by decide⟩)) (by rw [k0h];decide)).mono ?_
 rintro r G5 ⟨hE,hx2⟩
 replace hx:=(hx.push).trans hx2
 unfold o0e at hE
 rw [h1C (by rw [show ((1:Int))=((1:Nat):Int) from rfl,z0O (by decide)];simp),h1C (by rw [K0N];simp)] at hE
 obtain ⟨ans,a,rfl,hA,hC,_⟩:=hE
 have hm:(b0J (b0Z 1 1) (bxD (fun _=>4) (fun _=>3) 1)).length=2 * 1:=by rw [t0m.1,d0I]
 rw [hm] at hC
 have hkind:=K0O (n:=1) hC
 rw [hb] at hkind
 have hk:a.kind=2:=of_decide_eq_true hkind
 clear hC hkind
 obtain ⟨z1,z2,z3,z4,z5,rfl,l1,l2,l3,l4,l5⟩:=hA
 have e1:=l1.cells;have e2:=l2.cells
 have hsz:=hx.1
 rw [hk]
 simp [hsz,e1,e2,l1.plain,l2.plain,l3.cells,l3.plain,l4.cells,l4.plain,l5.cells,l5.plain]
 generalize hN:Array.setIfInBounds (Array.push _ _) _ _=G6
 obtain ⟨hx2,b9⟩:=new1 hN
 clear hN
 replace hx:=hx.trans hx2
 simp [O0y,b9]
 refine (e0E hx.1).mono ?_
 rintro _ G7 ⟨rfl,hx2⟩
 simp
theorem f0j {x:b0q} (h:b0L H v x) (hf:fl≤H.size) (hl:d0W x < 67108864):a0S env fl A0g [v] H (fun r H'=>r=.int .i64 (t0o (b0o x) 0)∧Ext H H') R:=by
 obtain ⟨s1,s2,rfl,k1,k2⟩:=h
 refine a0i f1Z hf (h:=?_)
 intro ρ h0
 simp [b1s,O0a,h0,k1.cells,k2.cells]
 generalize hG:Array.push H _=G
 obtain ⟨hx,b0⟩:=g0r hG
 simp [O0b,b0]
 refine (d0u (b:=d0P) ⟨s1,s2,rfl,k1.mono hx,k2.mono hx⟩ ⟨_,_,rfl,Lim.nil,Lim.nil⟩ hx.1 hl (by decide)).mono ?_
 rintro _ G2 ⟨rfl,hx2⟩
 simp [c0C]
def n0X (a:List b0q) (t:b0q) (b:List b0q) (n:Nat):List b0q:=(List.range n).map fun i=>a0e (b0o (a.getD i d0P) + b0o t * b0o (b.getD i d0P))
theorem y0N {a b:List b0q} {t:b0q} {i:Nat} (h1:i < a.length) (h2:i < b.length):n0X a t b (i + 1)=n0X a t b i ++ [a0e (b0o a[i] + b0o t * b0o b[i])]:=by
 unfold n0X
 rw [k1w,k1t,List.map_singleton,b0y h1,b0y h2]
theorem B0A {a b:List b0q} {t:b0q} {n:Nat}:(n0X a t b n).length=n:=by simp [n0X]
theorem s0o {S:Nat} {a b:List b0q} {t:b0q} (ha:a0O H u a) (kt:b0L H v t) (hb:a0O H w b) (he:a.length=b.length) (hf:fl≤H.size) (hS:S < 16777216) (fa:Few S a) (ft:Few S [t]) (fb:Few S b) (hal:a.length < 1073741824) :
  a0S env fl A0i [u,v,w] H (fun r H'=>(∃ q,r=.tuple #[q,.int .i64 0]∧b0e PR H.size H' a0b 4 q (n0X a t b a.length))∧Ext H H') R:=by
 obtain ⟨s1,s2,rfl,k1,k2⟩:=kt
 refine a0i d1N hf (h:=?_)
 intro ρ h0
 have hb':=hb.slen
 rw [← he] at hb'
 have ft:=ft t (by simp)
 simp [M0g,C0x,C0y,C0z,C0A,h0,ha.slen,hb',k1.cells,k2.cells]
 generalize hG:Array.push H _=G0
 obtain ⟨hx0,b0⟩:=g0r hG
 clear hG
 refine c0q (fun i ρ G=>ρ 0=u∧ρ 2=w∧ρ 4=.pointer (some ⟨H.size,0,none⟩)∧ρ 9=.int .i64 (i:Int)∧Ext G0 G∧(∀ b,slB (ρ 8)=some b→G0.size≤b)∧b0e PR H.size G a0b 4 (ρ 8) (n0X a t b i)) a.length (by decide) ⟨by simp [h0],by simp [h0],by simp,by simp,Ext.refl G0,by simp [slB],by simpa [n0X] using b0e.nil⟩ ?_
 clear h0 ρ
 rintro i ρ G hi1 ⟨g0,g2,g4,g9,hy,nd,ho⟩
 obtain ⟨s,g8⟩:∃ s,ρ 8=s:=⟨_,rfl⟩
 rw [g8] at ho nd
 have hx:=hx0.trans hy
 have ka:=ha.mono a0u hx
 simp [C0B,g0,g9,ka.slen]
 refine d0L.mk (by simp) (fun hi=>?_) (fun heq=>?_)
 ·have hib:i < b.length:=by omega
  have kb:=hb.mono a0u hx
  obtain ⟨wa,hla,k3⟩:=a0O.load ka hi
  obtain ⟨wb,hlb,k4⟩:=a0O.load kb hib
  have b1:=hy.blk b0
  have fai:=fa _ (h1I hi)
  have fbi:=fb _ (h1I hib)
  refine a0B ?_
  simp [C0C,g0,g2,g4,g8,g9,ka.ia hi,kb.ia hib,hla,hlb,b1]
  refine (i0G ⟨s1,s2,rfl,k1.mono hx,k2.mono hx⟩ k4 (by have:=hx.1;omega) (by omega) (by omega)).mono ?_
  rintro wm G2 ⟨km,hx2⟩
  have hsm:=h0D (b0o t) (b0o b[i])
  have hv1:=b0E ft.2.1 ft.2.2
  have hv2:=b0E fbi.2.1 fbi.2.2
  replace hx:=hx.trans hx2
  simp
  refine (i0E (k3.mono hx2) km hx.1 (by omega) (by rw [a0I];omega)).mono ?_
  rintro _ G3 ⟨⟨s3,s4,rfl,k5,k6⟩,hx3⟩
  rw [a0D] at k5 k6 ⊢
  replace hx:=hx.trans hx3
  replace ho:=(ho.mono a0u hx2).mono a0u hx3
  replace hy:=(hy.trans hx2).trans hx3
  obtain ⟨s',G4,a1,a2,a3,a4⟩:=b0e.app (P:=PR) (sz:=4) (e:=a0b) (by decide) (fun G' cs x _ hl h=>b0L.lx h hl) ho (e2:=a0b) (c:=1) (bytes:=64) ⟨s3,s4,rfl,k5,k6⟩ rfl (by simp [k5.plain,k6.plain]) (by rw [B0A];omega) (by omega) (by omega) hx.1
  obtain ⟨_,_,hfr⟩:=e0t (by decide) a1
  have nd':∀ b,slB s' = some b→G0.size≤b:=fun b hb=>by
   rw [hfr] at hb;simp [slB] at hb;have:=hy.1;omega
  have d1:=k5.cells;have d2:=k6.cells
  simp [d1,d2,g8,a1]
  unfold e0N
  simp [C0D,g9,b0a (show i < 4611686018427387904 by omega)]
  exact c0f.mk ⟨by simp [g0],by simp [g2],by simp [g4],by simp,A0a hy a3 nd,by simpa using nd',by rw [y0N hi hib];exact b0e.cast (v':=s') (by simp) a2⟩
 ·subst heq
  simp [C0E,g8]
  exact fun _=>ho
def h0E (A:List (List b0q)) (x:List b0q) (i:Nat):List b0q:=(List.range i).map fun r=>a0e (d0V (A.getD r []) x x.length)
theorem v0t {A:List (List b0q)} {x:List b0q} {i:Nat} (h:i < A.length):h0E A x (i + 1)=h0E A x i ++ [a0e (d0V A[i] x x.length)]:=by
 unfold h0E
 rw [k1w,k1t,List.map_singleton,b0y h]
theorem k0K {A:List (List b0q)} {x:List b0q} {n:Nat}:(h0E A x n).length=n:=by simp [h0E]
theorem q0o {S:Nat} {A:List (List b0q)} {x:List b0q} (hA:d0o H v A) (hxv:a0O H w x) (hf:fl≤H.size) (he:∀ r ∈ A,r.length=x.length) (fA:∀ r ∈ A,Few S r) (fx:Few S x) (hS:(x.length + 1) * (2 * S + 3) + 1 < 67108864) (hAl:A.length < 1073741824) :
  a0S env fl X0d [v,w] H (fun r H'=>(∃ q,r=.tuple #[q,.int .i64 0]∧a0O H' q (h0E A x A.length))∧Ext H H') R:=by
 refine a0i g1A hf (h:=?_)
 intro ρ h0
 simp [b1S,Q0M,Q0N,Q0O,h0]
 refine c0q (fun i ρ G=>ρ 0=v∧ρ 1=w∧ρ 7=.int .i64 (i:Int)∧Ext H G∧b0e PR H.size G a0b 4 (ρ 6) (h0E A x i)) A.length (by decide) ⟨by simp [h0],by simp [h0],by simp,Ext.refl H,by simpa [h0E] using b0e.nil⟩ ?_
 clear h0 ρ
 rintro i ρ G hi1 ⟨g0,g1,g7,hx,ho⟩
 obtain ⟨s,g6⟩:∃ s,ρ 6=s:=⟨_,rfl⟩
 rw [g6] at ho
 have kA:=hA.mono b0F hx
 simp [Q0P,g0,g7,kA.slen]
 refine d0L.mk (by simp) (fun hi=>?_) (fun heq=>?_)
 ·obtain ⟨wr,hlr,kr⟩:=d0o.load kA hi
  have hm:=h1I hi
  have hrl:=he _ hm
  simp [Q0Q,g0,g1,g7,kA.ia hi,hlr]
  refine (g0k kr (hxv.mono a0u hx) hx.1 hrl (fA _ hm) fx (by rw [hrl];exact hS)).mono ?_
  rintro _ G2 ⟨⟨_,rfl,s1,s2,rfl,k1,k2⟩,hx2⟩
  rw [hrl] at k1 k2
  replace ho:=ho.mono a0u hx2
  replace hx:=hx.trans hx2
  rw [hrl]
  have d1:=k1.cells;have d2:=k2.cells
  have hsz:=hx.1
  simp [d1,d2,k1.plain,k2.plain,hsz]
  generalize hN:Array.setIfInBounds (Array.push _ _) _ _=G3
  obtain ⟨hx3,b8⟩:=new1 hN
  clear hN
  replace ho:=ho.mono a0u hx3
  replace hx:=hx.trans hx3
  replace k1:=k1.mono hx3
  replace k2:=k2.mono hx3
  obtain ⟨P,hP⟩:∃ P,P=G2.size:=⟨_,rfl⟩
  rw [← hP] at b8 ⊢
  obtain ⟨s',G4,a1,a2,a3,a4⟩:=b0e.app (P:=PR) (sz:=4) (e:=a0b) (by decide) (fun G' cs x _ hl h=>b0L.lx h hl) ho (e2:=a0b) (c:=1) (bytes:=64) ⟨s1,s2,rfl,k1,k2⟩ rfl (by simp [k1.plain,k2.plain]) (by rw [k0K];omega) (by omega) (by omega) hx.1
  simp [Q0R,Q0S,b8,g6,d1,d2,a1]
  unfold e0N
  simp [Q0T,g7,b0a (show i < 4611686018427387904 by omega)]
  exact c0f.mk ⟨by simp [g0],by simp [g1],by simp,a4 _ (h1A _) hx,by rw [v0t hi];exact b0e.cast (v':=s') (by simp) a2⟩
 ·subst heq
  simp [Q0U,g6]
  exact fun _=>ho.sls
def h0b (y:List b0q) (A:List (List b0q)) (n i:Nat):List b0q:=(List.range n).map fun k=>a0e (rs (fun r=>b0o (y.getD r d0P) * b0o ((A.getD r []).getD k d0P)) i)
theorem c0U {y:List b0q} {A:List (List b0q)} {n i:Nat}:(h0b y A n i).length=n:=by simp [h0b]
theorem y0y {y:List b0q} {A:List (List b0q)} {n i:Nat} (h1:i < y.length) (h2:i < A.length):n0X (h0b y A n i) y[i] A[i] n=h0b y A n (i + 1):=by
 unfold n0X
 refine i1T fun k hk=>?_
 have hk:=i1G.1 hk
 have e:(h0b y A n i).getD k d0P=a0e (rs (fun r=>b0o (y.getD r d0P) * b0o ((A.getD r []).getD k d0P)) i):=by
  rw [b0y (by rw [c0U];exact hk)];simp [h0b]
 rw [e,a0D,rs,b0y (l:=y) h1,b0y (l:=A) h2]
theorem U0k {f:Nat→Rat} {K:Nat} (h:∀ i,szR (f i)≤K):∀ n,szR (rs f n)≤n * (K + 1) + 1
 | 0=>by rw [rs,d0U];omega
 | n + 1=>by
  have h1:=U0k h n
  have h2:=K0e (rs f n) (f n)
  have h3:=h n
  rw [rs,h1X];omega
theorem v0Z {S:Nat} {l:List b0q} (h:Few S l) (k:Nat):szR (b0o (l.getD k d0P))≤max S 1:=by
 by_cases hk:k < l.length
 ·rw [b0y hk]
  have h1:=h _ (h1I hk)
  have:=b0E h1.2.1 h1.2.2
  omega
 ·rw [h1z,h1M (by omega)]
  show szR (b0o d0P)≤_
  rw [c0C,d0U];omega
theorem r0T {S:Nat} {y:List b0q} {A:List (List b0q)} {n i:Nat} (hS:1≤S) (fy:Few S y) (fA:∀ r ∈ A,Few S r):Few (i * (2 * S + 1) + 1) (h0b y A n i):=by
 intro x hx
 obtain ⟨k,_,rfl⟩:=j1h.1 hx
 refine ⟨?_,b0N _,b0N _⟩
 rw [a0I]
 refine U0k (K:=2 * S) (fun r=>?_) i
 have h1:=v0Z fy r
 have h2:szR (b0o ((A.getD r []).getD k d0P))≤max S 1:=by
  by_cases hr:r < A.length
  ·rw [b0y (l:=A) hr];exact v0Z (fA _ (h1I hr)) k
  ·have:A.getD r []=[]:=by rw [h1z,h1M (by omega)];rfl
   rw [this];show szR (b0o d0P)≤_;rw [c0C,d0U];omega
 have h3:=h0D (b0o (y.getD r d0P)) (b0o ((A.getD r []).getD k d0P))
 omega
theorem Few.up {S S':Nat} {l:List b0q} (h:Few S l) (hS:S≤S'):Few S' l:=fun x hx=>⟨h1R (h x hx).1 hS,(h x hx).2⟩
theorem s0n {S n:Nat} {y:List b0q} {A:List (List b0q)} (hy:a0O H u y) (hA:d0o H v A) (hf:fl≤H.size) (hl:y.length=A.length) (hr:∀ r ∈ A,r.length=n) (hS1:1≤S) (fy:Few S y) (fA:∀ r ∈ A,Few S r) (hn:n≤1000) (hS:(A.length + 1) * (2 * S + 1) + 1 < 16777216) :
  a0S env fl Y0V [u,v,.int .i64 (n:Int)] H (fun r H'=>(∃ q,r=.tuple #[q,.int .i64 0]∧a0O H' q (h0b y A n A.length))∧Ext H H') R:=by
 refine a0i g1V hf (h:=?_)
 intro ρ h0
 have hAl:=hA.slen
 have hyl:=hy.slen
 rw [hl] at hyl
 have hn1:¬ (n:Int) < 0:=by omega
 have hn2:¬ 1000 < (n:Int):=by omega
 have hlA:A.length < 16777216:=by
  have:(A.length + 1) * 1≤(A.length + 1) * (2 * S + 1):=i1b _ (by omega)
  omega
 simp [c1n,S0F,S0G,S0H,S0I,h0,hAl,hyl,hn1,hn2]
 refine c0q (fun i ρ G=>ρ 0=u∧ρ 1=v∧ρ 2=.int .i64 (n:Int)∧ρ 9=.int .i64 (i:Int)∧Ext H G∧b0e PR H.size G a0b 4 (ρ 8) (List.replicate i (a0e 0))) n (by decide) ⟨by simp [h0],by simp [h0],by simp [h0],by simp,Ext.refl H,by simpa using b0e.nil⟩ ?_
 clear h0 ρ
 rintro i ρ G hi1 ⟨g0,g1,g2,g9,hx,ho⟩
 obtain ⟨s,g8⟩:∃ s,ρ 8=s:=⟨_,rfl⟩
 rw [g8] at ho
 simp [S0J,g2,g9]
 refine d0L.mk (by simp) (fun hi=>?_) (fun heq=>?_)
 ·simp [S0K,g8]
  refine (d0v hx.1).mono ?_
  rintro _ G2 ⟨⟨s1,s2,rfl,k1,k2⟩,hx2⟩
  replace ho:=ho.mono a0u hx2
  replace hx:=hx.trans hx2
  obtain ⟨s',G4,a1,a2,a3,a4⟩:=b0e.app (P:=PR) (sz:=4) (e:=a0b) (by decide) (fun G' cs x _ hl h=>b0L.lx h hl) ho (e2:=a0b) (c:=1) (bytes:=64) ⟨s1,s2,rfl,k1,k2⟩ rfl (by simp [k1.plain,k2.plain]) (by simp;omega) (by omega) (by omega) hx.1
  have d1:=k1.cells;have d2:=k2.cells
  simp [g8,d1,d2,a1]
  unfold e0N
  simp [S0L,g9,b0a (show i < 4611686018427387904 by omega)]
  exact c0f.mk ⟨by simp [g0],by simp [g1],by simp [g2],by simp,a4 _ (h1A _) hx,by rw [List.replicate_succ'];exact b0e.cast (v':=s') (by simp) a2⟩
 ·subst heq
  have h00:List.replicate i (a0e 0)=h0b y A i 0:=by
   refine List.ext_getElem (by simp [c0U]) fun k h1 h2=>?_
   simp [h0b,rs]
  rw [h00] at ho
  simp [S0M]
  refine c0q (fun j ρ G=>ρ 0=u∧ρ 1=v∧ρ 2=.int .i64 (i:Int)∧ρ 10=.int .i64 (j:Int)∧Ext H G∧a0O G (ρ 8) (h0b y A i j)) A.length (by decide) ⟨by simp [g0],by simp [g1],by simp [g2],by simp,hx,by simpa [g8] using ho.sls⟩ ?_
  clear g0 g1 g2 g8 g9 ho hx ρ
  rintro j ρ G hj1 ⟨g0,g1,g2,g10,hx,ho⟩
  obtain ⟨s,g8⟩:∃ s,ρ 8=s:=⟨_,rfl⟩
  rw [g8] at ho
  have kA:=hA.mono b0F hx
  have ky:=hy.mono a0u hx
  simp [S0N,g1,g10,kA.slen]
  refine d0L.mk (by simp) (fun hj=>?_) (fun heq=>?_)
  ·have hjy:j < y.length:=by omega
   obtain ⟨wr,hlr,kr⟩:=d0o.load kA hj
   obtain ⟨wy,hly,kyj⟩:=a0O.load ky hjy
   have hm:=h1I hj
   have hrj:=hr _ hm
   have hsl:=kr.slen
   rw [hrj] at hsl
   have hbd:j * (2 * S + 1) + (2 * S + 1)≤(A.length + 1) * (2 * S + 1):=by
    rw [h1X];have:=h1J (2 * S + 1) (show j≤A.length by omega);omega
   have hyj:y[j] ∈ y:=h1I hjy
   simp [J0s,g1,g2,g10,kA.ia hj,hlr,hsl]
   refine a0B ?_
   simp [J0t,g0,g1,g8,g10,kA.ia hj,ky.ia hjy,hlr,hly]
   refine (s0o (S:=j * (2 * S + 1) + S + 1) (t:=y[j]) ho kyj kr (by rw [c0U,hrj]) hx.1 (by omega) ((r0T hS1 fy fA).up (by omega)) (fun x hx=>by rw [k1v] at hx;subst hx;exact fy.up (by omega) _ hyj) ((fA _ hm).up (by omega)) (by rw [c0U];omega)).mono ?_
   rintro _ G2 ⟨⟨q,rfl,kq⟩,hx2⟩
   rw [c0U,y0y hjy hj] at kq
   replace hx:=hx.trans hx2
   simp
   unfold e0N
   simp [J0u,g10,b0a (show j < 4611686018427387904 by omega)]
   exact c0f.mk ⟨by simp [g0],by simp [g1],by simp [g2],by simp,hx,by simpa using kq.sls⟩
  ·subst heq
   simp [J0v,g8]
   exact fun _=>ho
end
end Go.Proofs.YtjlohmnnldbjoaaGreat.AI
