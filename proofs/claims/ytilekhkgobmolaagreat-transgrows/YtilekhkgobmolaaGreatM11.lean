/- Part 12 of the proof. -/
import Derived.Test.YtilekhkgobmolaaGreatM06
import Derived.Test.YtilekhkgobmolaaGreatM07
import Derived.Test.YtilekhkgobmolaaGreatM09
import Derived.Test.YtilekhkgobmolaaGreatM10
set_option linter.unusedVariables false
set_option linter.unusedSimpArgs false
set_option linter.unusedSectionVars false
namespace Go.Proofs.YtilekhkgobmolaaGreat.AI
section
open Go
set_option maxHeartbeats 4000000
variable {fl:Nat} {H G:a0e} {R:a0E} {v w u:Value}
theorem b0d.app2 {α:Type} {P:a0e→List Value→α→Prop} {e sz:Nat} {l:List α} (he:e ≠ a0h) (hO:∀ G' cs x,d0l (slB v) G G'→Lx G G'→P G cs x→P G' cs x) (h:b0d P fl G e sz v l) {e2 c bytes:Nat} {new1 new2:List Value} {x1 x2:α} (hx1:P G new1 x1) (hx2:P G new2 x2) (hl1:new1.length=sz) (hl2:new2.length=sz) (hp1:new1.all a0t=true) (hp2:new2.all a0t=true) (hn:l.length < 1073741822) (hb:bytes≤1024) (hs:0 < sz) (hfl:fl≤G.size) :
  ∃ v' G',i0x fl (G.push (.row false e2 (new1 ++ new2))) e sz bytes v (.slice (some ⟨G.size,0,none⟩) 2 c)=some (v',G')∧b0d P fl G' e sz v' (l ++ [x1,x2])∧d0l (slB v) G G'∧(∀ H0,H0.size≤fl→Ext H0 G→Ext H0 G'):=by
 obtain ⟨cs,h1,h2⟩:=h
 have hx:Sl (G.push (.row false e2 (new1 ++ new2))) e2 sz (.slice (some ⟨G.size,0,none⟩) 2 c) 2 (new1 ++ new2):=(Own.mk (fl:=0) a0D (by rw [i1E,hl1,hl2];omega) (j1l _)).sl
 obtain ⟨v',G',a1,a2,a3,a4⟩:=j0Y (h1.mono (Ext.push (Ext.refl G))) hx (by rw [k1H,hp1,hp2];rfl) (by omega) hb hs (bytes:=bytes) (by simp;omega)
 have a3':d0l (slB v) G G':=by
  refine ⟨?_,fun b hb hne=>?_⟩
  ·have:=a3.1;simp at this;omega
  ·rw [a3.2 b (by simp;omega) hne,d0K hb]
 have hL:=b0d.lx ⟨cs,h1,h2⟩ he a3'
 refine ⟨v',G',a1,⟨cs ++ (new1 ++ new2),by simpa using a2,fun k hk=>?_⟩,a3',fun H0 k1 k2=>a4 H0 k1 k2.push⟩
 have hcs:=h1.1
 by_cases hkl:k < l.length
 ·have h3:(k + 1) * sz≤l.length * sz:=i1r _ hkl
  rw [i1D,i1W] at h3
  rw [j1a hkl,j1w (by omega),j1N (by simp;omega)]
  exact hO _ _ _ a3' hL (h2 k hkl)
 ·by_cases hke:k=l.length
  ·subst hke
   rw [i1J (i1j _),j1w (by omega),j1E (by omega),j1J,j1N (by omega),← hl1,i1x]
   simpa using hO _ _ _ a3' hL hx1
  ·have hke:k=l.length + 1:=by simp at hk;omega
   subst hke
   have e1:(cs ++ (new1 ++ new2)).drop ((l.length + 1) * sz)=new2:=by
    rw [← k1f,List.drop_append,j1E (by rw [i1E,hcs,hl1,i1D];omega),j1J,i1E,hcs,hl1,i1D]
    simp
   rw [e1,i1J (by omega),← hl2,i1x]
   simpa using hO _ _ _ a3' hL hx2
theorem K0G {n:Int}:mn2 true 0 (mn2 false n 6)=max 0 (min n 6):=by
 simp only [mn2,i1H,j1h,i1X]
 repeat' split
 all_goals omega
theorem o0g {n:Int} (hf:fl≤H.size):a0S env fl Y0P [.int .i64 n] H (fun r H'=>r=.int .i64 (max 0 (min n 6))∧Ext H H') R:=by
 refine a0g g1Q hf (h:=?_)
 intro ρ h0
 simp [c1f,P0u,P0v,h0]
 have h1:u0c true (.int .i64 0) [.int .i64 (mn2 false n 6)]=some (.int .i64 (max 0 (min n 6))):=by rw [← K0G];rfl
 have h2:u0c false (.int .i64 n) [.int .i64 6]=some (.int .i64 (mn2 false n 6)):=rfl
 simp [h2,h1]
theorem k0Q {n:Nat} {i p k q:Int} (hf:fl≤H.size) (hn:n < 1073741824) (hp1:-9223372036854775808≤p) (hp2:p < 9223372036854775808) (hq1:-9223372036854775808≤q) (hq2:q < 9223372036854775808) :
  a0S env fl X0f [.int .i64 (n:Int),.int .i64 i,.int .i64 p,.int .i64 k,.int .i64 q] H (fun r H'=>b0d PR H.size H' a0b 4 r ((List.range n).map fun (j:Nat)=>a0f ((if (j:Int)=k then q else if (j:Int)=i then p else 0:Int):Rat))∧Ext H H') R:=by
 refine a0g g1R hf (h:=?_)
 intro ρ h0
 simp [c1g,P0w,P0x,P0y,h0]
 refine e0L (fun j ρ G=>ρ 0=.int .i64 (n:Int)∧ρ 1=.int .i64 i∧ρ 2=.int .i64 p∧ρ 3=.int .i64 k∧ρ 4=.int .i64 q∧ρ 12=.int .i64 (j:Int)∧Ext H G∧b0d PR H.size G a0b 4 (ρ 11) ((List.range j).map fun (j:Nat)=>a0f ((if (j:Int)=k then q else if (j:Int)=i then p else 0:Int):Rat))) n (by decide) ⟨by simp [h0],by simp [h0],by simp [h0],by simp [h0],by simp [h0],by simp,Ext.refl H,by simpa using b0d.nil⟩ ?_
 clear h0 ρ
 rintro j ρ G hj1 ⟨g0,g1,g2,g3,g4,g12,hx,ho⟩
 obtain ⟨s,g11⟩:∃ s,ρ 11=s:=⟨_,rfl⟩
 rw [g11] at ho
 simp [P0z,g0,g12]
 refine g0a.mk (by simp) (fun hj=>?_) (fun heq=>?_)
 ·obtain ⟨z,hz⟩:∃ z:Int,z=(if (j:Int)=k then q else if (j:Int)=i then p else 0):=⟨_,rfl⟩
  have hz1:-9223372036854775808≤z:=by rw [hz];split;exact hq1;split;exact hp1;omega
  have hz2:z < 9223372036854775808:=by rw [hz];split;exact hq2;split;exact hp2;omega
  have hlist:(List.range (j + 1)).map (fun (j:Nat)=>a0f ((if (j:Int)=k then q else if (j:Int)=i then p else 0:Int):Rat))=(List.range j).map (fun (j:Nat)=>a0f ((if (j:Int)=k then q else if (j:Int)=i then p else 0:Int):Rat)) ++ [a0f (z:Rat)]:=by
   rw [List.range_succ,k1K,List.map_singleton,← hz]
  by_cases h1:(j:Int)=k <;> by_cases h2:(j:Int)=i
  all_goals
   first | rw [i1n h1] at hz | rw [i1k h1,i1n h2] at hz | rw [i1k h1,i1k h2] at hz
   subst hz
   try subst h1
   try subst h2
   simp [P0A,P0B,P0C,P0D,P0E,g1,g2,g3,g4,g12, *]
   simp [P0F,g11]
   refine (g0z hx.1 (by omega) (by omega)).mono ?_
   rintro _ G2 ⟨⟨s3,s4,rfl,k3,k4⟩,hx2⟩
   replace hx:=hx.trans hx2
   replace ho:=ho.mono a0Q hx2
   try rw [show ((0:Int):Rat)=0 from rfl] at k3 k4 hlist ⊢
   obtain ⟨s',G4,h1,h2,h3,h4⟩:=b0d.app (P:=PR) (sz:=4) (e:=a0b) (by decide) (fun G' cs x _ hl h=>b0P.lx h hl) ho (e2:=a0b) (c:=1) (bytes:=64) ⟨s3,s4,rfl,k3,k4⟩ rfl (by simp [k3.plain,k4.plain]) (by simp;omega) (by omega) (by omega) hx.1
   have k3':=k3.cells;have k4':=k4.cells
   simp [g11,k3',k4',h1]
   unfold i0c
   simp [H0x,g12,b0G (show j < 4611686018427387904 by omega)]
   exact d0k.mk ⟨by simp [g0],by simp [g1],by simp [g2],by simp [g3],by simp [g4],by simp,h4 _ (i1j _) hx,by rw [hlist];exact b0d.cast (v':=s') (by simp) h2⟩
 ·subst heq
  simp [H0y,g11]
  exact fun _=>ho
theorem b0d.first {α:Type} {P:a0e→List Value→α→Prop} {f0 e sz:Nat} {l:List α} (h:b0d P f0 H e sz v l) {k:IntKind} :
  ∃ v',e0c sz v none (some (.int k l.length)) none=some v'∧b0d P f0 H e sz v' l∧elemOk H e v=true:=by
 obtain ⟨v1,h1,_,h3⟩:=h.sls.first (n:=l.length) (k:=k) (i1j _)
 refine ⟨v1,h1,?_,h3⟩
 obtain ⟨cs,⟨hl,⟨rfl,h0⟩ | ⟨b,cap,rfl,hb,hf⟩⟩,h2⟩:=h
 ·have:v1=.slice none 0 0:=by
   rw [h0] at h1
   exact (Option.some.inj (h1.symm.trans rfl))
  subst this
  exact ⟨cs,⟨hl,.inl ⟨rfl,h0⟩⟩,h2⟩
 ·unfold e0c at h1
  simp [bnd] at h1
  subst h1
  exact ⟨cs,⟨hl,.inr ⟨b,_,rfl,hb,hf⟩⟩,h2⟩
theorem s0L {f0:Nat} {l:List (List b0h)} (h:b0d PS f0 H a0M 1 v l) (hf:fl≤H.size) (hl:l.length≤40) :
  a0S env fl Y0Q [v] H (fun r H'=>(∃ s,r=.agg #[s]∧b0d PS f0 H' a0M 1 s l)∧Ext H H') R:=by
 refine a0g g1S hf (h:=?_)
 intro ρ h0
 have hmn:u0c false (.int .i64 (l.length:Int)) [.int .i64 40]=some (.int .i64 (l.length:Int)):=by
  have:mn2 false (l.length:Int) 40=l.length:=by
   simp only [mn2,i1H,j1h]
   split <;> omega
  show some (Value.int IntKind.i64 (mn2 false (l.length:Int) 40))=_
  rw [this]
 obtain ⟨u1,hu1,ku,oku⟩:=(h.mono d0A ((Ext.refl H).push (r:=.row false a0L [.slice none 0 0]))).first (k:=.i64)
 have ku0:=ku.sls
 simp [c1h,P0G,P0H,h0,h.sls.slen,hmn,hu1,oku,ku0.cells,ku0.plain,hf]
 exact ku.lxm (b0c rfl a0D (by decide)) (fun cs x ⟨w',q1,q2⟩=>⟨w',q1,b0v.lx2 q2 (b0c rfl a0D (by decide)) (fun b ro cs h=>b0c (e:=a0h) rfl a0D (by decide) b ro cs h)⟩)
def g0f (n i:Nat) (p:Int):List b0h:=(List.range n).map fun (j:Nat)=>a0f ((if (j:Int) = -1 then 0 else if (j:Int)=(i:Int) then p else 0:Int):Rat)
def c0d (n:Nat):Nat→List (List b0h)
 | 0=>[]
 | i + 1=>c0d n i ++ [g0f n i 1,g0f n i (-1)]
theorem d0Q {n:Nat}:∀ i,(c0d n i).length=2 * i
 | 0=>rfl
 | i + 1=>by rw [c0d,i1E,d0Q i];simp;omega
theorem l0m {n:Int} {m:Nat} (hf:fl≤H.size) (hm:max 0 (min n 6)=(m:Int)) :
  a0S env fl X0a [.int .i64 n] H (fun r H'=>(∃ s,r=.agg #[s]∧b0d PS H.size H' a0M 1 s (c0d m m))∧Ext H H') R:=by
 refine a0g g1B hf (h:=?_)
 intro ρ h0
 simp [b1Q,O0f,O0g,h0]
 generalize hN:Array.push H _=G
 obtain ⟨hx,b0⟩:=g0R hN
 clear hN
 refine (o0g hx.1).mono ?_
 rintro _ G2 ⟨rfl,hx2⟩
 rw [hm]
 have hm6:m≤6:=by omega
 replace b0:=hx2.blk b0
 replace hx:=hx.trans hx2
 simp [O0h,O0i]
 refine e0L (fun i ρ G=>ρ 0=.int .i64 (m:Int)∧ρ 2=.pointer (some ⟨H.size,0,none⟩)∧ρ 4=.int .i64 (i:Int)∧Ext H G∧a0e.blk G H.size=.row false a0L [.slice none 0 0]∧b0d PS H.size G a0M 1 (ρ 3) (c0d m i)) m (by decide) ⟨by simp,by simp,by simp,hx,b0,by simpa [c0d] using b0d.nil⟩ ?_
 clear h0 ρ hx b0 hx2
 rintro i ρ G hi1 ⟨g0,g2,g4,hx,b0,ho⟩
 obtain ⟨s,g3⟩:∃ s,ρ 3=s:=⟨_,rfl⟩
 rw [g3] at ho
 simp [O0j,g0,g4]
 refine g0a.mk (by simp) (fun hi=>?_) (fun heq=>?_)
 ·simp [O0k,g0,g3,g4]
  refine (k0Q hx.1 (by omega) (by decide) (by decide) (by decide) (by decide)).mono ?_
  rintro wa G2 ⟨oa,hx2⟩
  replace b0:=hx2.blk b0
  replace ho:=ho.mono d0A hx2
  replace hx:=hx.trans hx2
  simp [g0,g4]
  refine (k0Q hx.1 (by omega) (by decide) (by decide) (by decide) (by decide)).mono ?_
  rintro wb G3 ⟨ob,hx2⟩
  replace b0:=hx2.blk b0
  replace ho:=ho.mono d0A hx2
  replace oa:=oa.mono a0Q hx2
  replace hx:=hx.trans hx2
  have hll:=d0Q (n:=m) i
  obtain ⟨s',G4,h1,h2,h3,h4⟩:=b0d.app2 (P:=PS) (sz:=1) (e:=a0M) (by decide) (fun G' cs x hxb hl ⟨w',q1,q2⟩=>⟨w',q1,b0v.lx2 q2 (ho.lxT (by decide) hxb) hl⟩) ho (e2:=a0M) (c:=2) (bytes:=24) (new1:=[wa]) (new2:=[wb]) (x1:=g0f m i 1) (x2:=g0f m i (-1)) ⟨wa,rfl,oa.sls⟩ ⟨wb,rfl,ob.sls⟩ rfl rfl (by simp [oa.sls.plain]) (by simp [ob.sls.plain]) (by omega) (by omega) (by omega) hx.1
  have b0':=(ho.lxT (e':=a0L) (by decide) h3) _ _ _ b0
  simp [g3,oa.sls.cells,ob.sls.cells]
  simp at h1
  simp [h1]
  unfold i0c
  simp [O0l,g4,b0G (show i < 4611686018427387904 by omega)]
  exact d0k.mk ⟨by simp [g0],by simp [g2],by simp,h4 _ (i1j _) hx,b0',b0d.cast (v':=s') (by simp) h2⟩
 ·subst heq
  simp [O0m,g3]
  refine (s0L ho hx.1 (by rw [d0Q];omega)).mono ?_
  rintro _ G2 ⟨⟨s2,rfl,ks⟩,hx2⟩
  replace b0:=hx2.blk b0
  replace hx:=hx.trans hx2
  have hsz:=hx.1
  have ks0:=ks.sls
  simp [g2,b0,ks0.cells,ks0.plain,hsz]
  generalize hS':Array.setIfInBounds G2 _ _=G3
  rw [a0v hS' b0]
  simp
  exact fun _=>ks.lxm (b0c hS' b0 (by decide)) (fun cs x ⟨w',q1,q2⟩=>⟨w',q1,b0v.lx2 q2 (b0c hS' b0 (by decide)) (fun b ro cs h=>b0c (e:=a0h) hS' b0 (by decide) b ro cs h)⟩)
theorem k0u {n:Int} {m:Nat} (hf:fl≤H.size) (hm:max 0 (min n 6)=(m:Int)) :
  a0S env fl X0a [.int .i64 n] H (fun r H'=>d0q H' r (c0d m m)∧Ext H H') R :=
 (l0m hf hm).mono fun r H' ⟨⟨s,h1,h2⟩,h3⟩=>⟨⟨s,h1,h2.sls⟩,h3⟩
end
section
open Go
set_option maxHeartbeats 1000000
theorem U0b {i:Nat} {s:Rat} {f:Nat→Rat}:∀ {n:Nat},rs (fun k=>(if k=i then s else 0) * f k) n=if i < n then s * f i else 0
 | 0=>by simp [rs]
 | n + 1=>by
  rw [rs,U0b]
  by_cases h1:i < n
  ·rw [i1n h1,i1k (by omega),i1n (by omega),k1w,k1v]
  ·by_cases h2:n=i
   ·subst h2;rw [i1k h1,i1n rfl,i1n (by omega),Rat.zero_add]
   ·rw [i1k h1,i1k h2,i1k (by omega),k1w,k1v]
theorem x0U {f g:Nat→Rat}:∀ {n:Nat},rs (fun i=>f i + g i) n=rs f n + rs g n
 | 0=>by rw [rs,rs,rs];grind
 | n + 1=>by rw [rs,rs,rs,x0U];grind
theorem v0J:∀ {n:Nat},rs (fun _=>0) n=0
 | 0=>rfl
 | n + 1=>by rw [rs,v0J];grind
theorem r0k {f:Nat→Nat→Rat} {M:Nat}:∀ {N:Nat},rs (fun i=>rs (fun j=>f i j) M) N=rs (fun j=>rs (fun i=>f i j) N) M
 | 0=>by simp only [rs];rw [v0J]
 | N + 1=>by simp only [rs];rw [r0k,← x0U]
theorem W0u {f g:Nat→Rat}:∀ {n:Nat},(∀ i,i < n→f i≤g i)→rs f n≤rs g n
 | 0,_=>Rat.le_refl
 | n + 1,h=>by
  have h1:=W0u (n:=n) (fun i hi=>h i (by omega))
  have h2:=h n (by omega)
  rw [rs,rs];grind
theorem r0l {f:Nat→Rat} {c:Rat} {n:Nat}:rs (fun i=>c * f i) n=c * rs f n:=by
 rw [Rat.mul_comm,← i0F];exact b0F fun i _=>Rat.mul_comm _ _
theorem z0P.none {p:LPt} {n m:Nat} {a:o0p} (h:z0P p n m a) (x:Nat→Rat):¬ ∀ r,r < m→rs (fun k=>pA p r k * x k) n≤pB p r:=by
 intro hx
 have h1:rs (fun i=>a.Y.getD i 0 * rs (fun k=>pA p i k * x k) n) m≤rs (fun i=>a.Y.getD i 0 * pB p i) m :=
  W0u fun i hi=>Rat.mul_le_mul_of_nonneg_left (hx i hi) (h.Y0 i hi)
 have h2:rs (fun i=>a.Y.getD i 0 * rs (fun k=>pA p i k * x k) n) m=rs (fun k=>rs (fun i=>a.Y.getD i 0 * pA p i k) m * x k) n:=by
  have e1:∀ i,i < m→a.Y.getD i 0 * rs (fun k=>pA p i k * x k) n=rs (fun k=>a.Y.getD i 0 * pA p i k * x k) n:=fun i _=>by
   rw [← r0l];exact b0F fun k _=>by grind
  rw [b0F e1,r0k]
  exact b0F fun k _=>i0F
 have h3:rs (fun k=>rs (fun i=>a.Y.getD i 0 * pA p i k) m * x k) n=0:=by
  rw [b0F (g:=fun _=>0) (fun k hk=>by rw [h.YA k hk,k1w]),v0J]
 rw [h2,h3] at h1
 have:=h.YB
 grind
def bxD (lo hi:Nat→Int):Nat→List b0T
 | 0=>[]
 | i + 1=>bxD lo hi i ++ [(0,a0f (hi i:Int)),(0,a0f ((-lo i:Int):Rat))]
theorem A0l {lo hi:Nat→Int}:∀ i,(bxD lo hi i).length=2 * i
 | 0=>rfl
 | i + 1=>by rw [bxD,i1E,A0l i];simp;omega
theorem A0m {lo hi:Nat→Int} {e:b0T}:∀ {i},e ∈ bxD lo hi i→∃ k,k < i∧(e=(0,a0f (hi k:Int)) ∨ e=(0,a0f ((-lo k:Int):Rat)))
 | 0,h=>by simp [bxD] at h
 | i + 1,h=>by
  rw [bxD,i1F] at h
  rcases h with h | h
  ·obtain ⟨k,h1,h2⟩:=A0m h;exact ⟨k,by omega,h2⟩
  ·exact ⟨i,by omega,by simpa using h⟩
theorem h0S {n:Nat} {r:List b0h}:∀ {m},r ∈ c0d n m→∃ i,i < m∧(r=g0f n i 1 ∨ r=g0f n i (-1))
 | 0,h=>by simp [c0d] at h
 | m + 1,h=>by
  rw [c0d,i1F] at h
  rcases h with h | h
  ·obtain ⟨k,h1,h2⟩:=h0S h;exact ⟨k,by omega,h2⟩
  ·exact ⟨m,by omega,by simpa using h⟩
theorem W0J {α:Type} {l:List α} {a b d:α} {m k:Nat} (hl:l.length=2 * m) (hk:k < 2):(l ++ [a,b]).getD (2 * m + k) d=if k=0 then a else b:=by
 rw [i1h,j1c (by omega),hl,show 2 * m + k - 2 * m=k by omega]
 match k,hk with
 | 0,_=>rfl
 | 1,_=>rfl
theorem V0B {α:Type} {l:List α} {a b d:α} {k:Nat} (hk:k < l.length):(l ++ [a,b]).getD k d=l.getD k d:=by
 rw [i1h,i1V hk,i1h]
theorem o0z {n i k:Nat} (hk:k < 2):∀ {m:Nat},i < m→(c0d n m).getD (2 * i + k) []=g0f n i (if k=0 then 1 else -1)
 | 0,h=>by omega
 | m + 1,h=>by
  rw [c0d]
  have hl:=d0Q (n:=n) m
  by_cases hi:i < m
  ·rw [V0B (by omega),o0z hk hi]
  ·have:i=m:=by omega
   subst this
   rw [W0J hl hk];split <;> rfl
theorem s0m {n i:Nat} {p:Int}:(g0f n i p).length=n:=by unfold g0f;simp
theorem B0l {n i k:Nat} {p:Int} (hk:k < n):(g0f n i p).getD k c0o=a0f (((if k=i then p else 0:Int)):Rat):=by
 unfold g0f
 rw [i1h]
 simp [hk]
 congr 2
 by_cases h:k=i
 ·rw [i1n (by omega),i1n h]
 ·rw [i1k (by omega),i1k h]
theorem J0b {n i:Nat} {p:Int} {f:Nat→Rat} (hi:i < n):rs (fun k=>b0u ((g0f n i p).getD k c0o) * f k) n=(p:Rat) * f i:=by
 have h1:=U0b (i:=i) (s:=(p:Rat)) (f:=f) (n:=n)
 rw [i1n hi] at h1
 rw [← h1]
 refine b0F fun k hk=>?_
 rw [B0l hk,a0w]
 congr 1
 split <;> rfl
theorem t0Y {n i:Nat} {p:Int}:∀ x ∈ g0f n i p,∃ y:Rat,x=a0f y:=by
 intro x hx
 unfold g0f at hx
 obtain ⟨k,_,rfl⟩:=j1e.1 hx
 exact ⟨_,rfl⟩
section
variable {n:Nat} {lo hi:Nat→Int}
theorem A0n (hn:n≤6):f0i (c0d n n) n (bxD lo hi n)=true:=by
 have hA:z0J (r0j n) (c0d n n)=true:=i1U.2 fun r hr=>by
  obtain ⟨i,_,h⟩:=h0S hr
  unfold r0j
  have hl:r.length=n:=by rcases h with h | h <;> rw [h,s0m]
  have hm:z0J n0F r=true:=i1U.2 fun x hx=>by
   obtain ⟨y,rfl⟩:∃ y:Rat,x=a0f y:=by rcases h with h | h <;> (rw [h] at hx;exact t0Y x hx)
   exact f0O y
  rw [hm,hl];simp
 have hD:d0y (fun e=>!i0R e) (bxD lo hi n)=false:=by
  cases ha:d0y (fun e=>!i0R e) (bxD lo hi n) with
  | false=>rfl
  | true =>
   obtain ⟨e,h1,h2⟩:=List.any_eq_true.1 ha
   obtain ⟨k,_,h | h⟩:=A0m h1 <;> (rw [h] at h2;simp [i0R,f0O] at h2)
 unfold f0i l0b
 rw [hA,hD,d0Q,A0l]
 simp
 omega
end
end
section
open Go SX
set_option maxHeartbeats 1000000
def X0G (p:LPt) (n m:Nat) (z:Nat→Rat):Prop:=∀ r,r < m→rs (fun k=>pA p r k * z k) n≤pB p r
def p0M (p:LPt) (n:Nat) (z:Nat→Rat):Rat:=rs (fun k=>pC p k * z k) n
def U0k (p:LPt) (n m:Nat) (a:o0p):Prop :=
 (a.kind=2∧∀ z,¬ X0G p n m z) ∨ (a.kind=1∧(∃ z,X0G p n m z∧p0M p n z=a.V)∧∀ z,X0G p n m z→p0M p n z≤a.V) ∨ (a.kind=3∧∀ B,∃ z,X0G p n m z∧B < p0M p n z)
theorem U0a {f g:Nat→Rat} {w:Nat→Rat} {t:Rat} {n:Nat}:rs (fun k=>w k * (f k + t * g k)) n=rs (fun k=>w k * f k) n + t * rs (fun k=>w k * g k) n:=by
 rw [← r0l,← x0U]
 exact b0F fun k _=>by grind
section
variable {p:LPt} {n m:Nat} {a:o0p}
theorem J0E.opt (h:J0E p n m a):U0k p n m a:=by
 refine .inr (.inl ⟨h.kind,⟨fun k=>a.X.getD k 0,h.AX,h.V.symm⟩,fun z hz=>?_⟩)
 have h1:p0M p n z=rs (fun k=>rs (fun i=>a.Y.getD i 0 * pA p i k * z k) m) n:=b0F fun k hk=>by
  rw [← h.YA k hk,← i0F]
 rw [h1,r0k]
 have h2:rs (fun i=>rs (fun k=>a.Y.getD i 0 * pA p i k * z k) n) m≤rs (fun i=>a.Y.getD i 0 * pB p i) m:=W0u fun i hi=>by
  have e:rs (fun k=>a.Y.getD i 0 * pA p i k * z k) n=a.Y.getD i 0 * rs (fun k=>pA p i k * z k) n:=by
   rw [← r0l];exact b0F fun k _=>by grind
  rw [e]
  exact Rat.mul_le_mul_of_nonneg_left (hz i hi) (h.Y0 i hi)
 rw [h.YB] at h2
 exact h2
theorem z0P.opt (h:z0P p n m a):U0k p n m a:=.inl ⟨h.kind,fun z hz=>h.none z hz⟩
theorem z0Q.opt (h:z0Q p n m a):U0k p n m a:=by
 refine .inr (.inr ⟨h.kind,fun B=>?_⟩)
 have hc:=h.CR
 obtain ⟨c,hcd⟩:∃ c,c=rs (fun k=>pC p k * a.Ray.getD k 0) n:=⟨_,rfl⟩
 obtain ⟨x,hxd⟩:∃ x,x=rs (fun k=>pC p k * a.X.getD k 0) n:=⟨_,rfl⟩
 rw [← hcd] at hc
 -- how far
 obtain ⟨t,ht,htB⟩:∃ t:Rat,0≤t∧B < x + t * c:=by
  have hci:c * c⁻¹=1:=Rat.mul_inv_cancel _ (by grind)
  have h1:=inv_pos hc
  by_cases hB:B < x
  ·exact ⟨0,Rat.le_refl,by rw [k1w,k1v];exact hB⟩
  ·refine ⟨(B - x + 1) * c⁻¹,k1W (by grind) (l1r h1),?_⟩
   rw [Rat.mul_assoc,Rat.mul_comm c⁻¹ c,hci,Rat.mul_one];grind
 refine ⟨fun k=>a.X.getD k 0 + t * a.Ray.getD k 0,fun r hr=>?_,?_⟩
 ·rw [U0a]
  have h1:=h.AX r hr
  have h2:=k1W ht (b:=-rs (fun k=>pA p r k * a.Ray.getD k 0) n) (by have:=h.AR r hr;grind)
  grind
 ·unfold p0M
  rw [U0a,← hcd,← hxd];exact htB
end
structure f0H where
 X:List (Bool × List Nat)
 W:List (Bool × List Nat)
 K:Bool × List Nat
structure c0f where
 m:Int
 guards:List f0H
 set:List f0H
def iz:Bool × List Nat:=(false,[])
def aff0:f0H:=⟨[],[],iz⟩
def f0H.all (a:f0H):List (Bool × List Nat):=a.X ++ a.W
def vQ (x:Bool × List Nat):Rat:=((a0B x:Int):Rat)
def c0E (x:Bool × List Nat):b0h:=a0f (vQ x)
def w0K (N:Nat) (r:List b0h):List b0h:=r ++ List.replicate (N - r.length) (a0f 0)
def gC (y:List b0h) (set:List f0H) (j:Nat):Rat:=rs (fun i=>b0u (y.getD i c0o) * vQ ((set.getD i aff0).all.getD j iz)) set.length
def gK (y:List b0h) (set:List f0H):Rat:=rs (fun i=>b0u (y.getD i c0o) * vQ (set.getD i aff0).K) set.length
def c0B (rows:List (List b0h)) (e:c0f) (d:List b0T) (row N:Nat):LPt :=
 ⟨N,(d0w rows d).map (w0K N) ++ e.guards.map fun g=>g.all.map c0E,d0x rows d ++ e.guards.map fun g=>a0f (-vQ g.K),(List.range N).map fun j=>a0f (gC (rows.getD row []) e.set j)⟩
def U0y (a:f0H) (N:Nat) (z:Nat→Rat):Rat:=rs (fun j=>vQ (a.all.getD j iz) * z j) N + vQ a.K
def f1P (r:List b0h) (n:Nat) (z:Nat→Rat):Rat:=rs (fun c=>b0u (r.getD c c0o) * z c) n
def y0m (rows:List (List b0h)) (e:c0f) (d:List b0T) (N:Nat) (z:Nat→Rat):Prop :=
 (∀ x ∈ rows.zip d,x.2.1=0→f1P x.1 e.set.length z≤b0u x.2.2)∧∀ g ∈ e.guards,U0y g N z≤0
def n0X (y:List b0h) (e:c0f) (N:Nat) (z:Nat→Rat):Rat:=rs (fun i=>b0u (y.getD i c0o) * U0y (e.set.getD i aff0) N z) e.set.length
theorem J0y {α β:Type} {P:α→β→Prop} {a0:α} {b0:β}:∀ {A:List α} {B:List β},A.length=B.length→((∀ r,r < A.length→P (A.getD r a0) (B.getD r b0)) ↔ ∀ x ∈ A.zip B,P x.1 x.2)
 | [],[],_=>by simp
 | [],_ :: _,h=>by simp at h
 | _ :: _,[],h=>by simp at h
 | a :: A,b :: B,h=>by
  have ih:=J0y (P:=P) (a0:=a0) (b0:=b0) (A:=A) (B:=B) (by simpa using h)
  constructor
  ·intro h1 x hx
   rcases j1M.1 (by simpa using hx:x ∈ (a,b) :: A.zip B) with rfl | hx
   ·exact h1 0 (by simp)
   ·exact ih.1 (fun r hr=>by have:=h1 (r + 1) (by simpa using hr);simpa using this) x hx
  ·intro h1 r hr
   cases r with
   | zero=>exact h1 (a,b) (by simp)
   | succ r=>simpa using ih.2 (fun x hx=>h1 x (by simp;exact .inr hx)) r (by simpa using hr)
theorem w0M {Q:List b0h→b0h→Prop}:∀ {rows:List (List b0h)} {d:List b0T},(∀ x ∈ (d0w rows d).zip (d0x rows d),Q x.1 x.2) ↔ ∀ x ∈ rows.zip d,x.2.1=0→Q (i0g x.1) (a0f (b0u x.2.2))
 | [],d=>by simp [d0w,d0x]
 | _ :: _,[]=>by simp [d0w,d0x]
 | r :: rs,e :: es=>by
  have ih:=w0M (Q:=Q) (rows:=rs) (d:=es)
  simp only [d0w,d0x]
  by_cases h:e.1=0
  ·rw [i1n h,i1n h]
   simp only [List.zip_cons_cons,j1M,forall_eq_or_imp]
   rw [ih];simp [h]
  ·rw [i1k h,i1k h,ih]
   simp only [List.zip_cons_cons,j1M,forall_eq_or_imp]
   simp [h]
theorem T0Z {f:Nat→Rat} {n:Nat}:∀ {N:Nat},n≤N→(∀ k,n≤k→k < N→f k=0)→rs f N=rs f n
 | 0,h,_=>by rw [show n=0 by omega]
 | N + 1,h,h0=>by
  by_cases hN:n=N + 1
  ·rw [hN]
  ·rw [rs,T0Z (N:=N) (by omega) (fun k h1 h2=>h0 k h1 (by omega)),h0 N (by omega) (by omega),k1v]
theorem K0K {r:List b0h} {k:Nat} (h:k < r.length):b0u ((i0g r).getD k c0o)=b0u (r.getD k c0o):=by
 unfold i0g
 rw [b0I (by simpa using h),j1b,a0w,b0I h]
theorem B0V {r:List b0h} {n N:Nat} {z:Nat→Rat} (hr:r.length=n) (hN:n≤N):rs (fun k=>b0u ((w0K N (i0g r)).getD k c0o) * z k) N=f1P r n z:=by
 have hl:(i0g r).length=n:=by unfold i0g;simp [hr]
 rw [T0Z hN]
 ·refine b0F fun k hk=>?_
  unfold w0K
  rw [i1h,i1V (by omega),← i1h,K0K (by omega)]
 ·intro k h1 h2
  unfold w0K
  rw [i1h,j1c (by omega),j1T,i1n (by omega)]
  rw [i1O,a0w,k1w]
theorem U0z {l:List (Bool × List Nat)} {N:Nat} {z:Nat→Rat} (h:l.length=N):rs (fun k=>b0u ((l.map c0E).getD k c0o) * z k) N=rs (fun k=>vQ (l.getD k iz) * z k) N :=
 b0F fun k hk=>by rw [b0I (by simpa using by omega),j1b,b0I (by omega)];unfold c0E;rw [a0w]
section
variable {rows:List (List b0h)} {e:c0f} {d:List b0T} {row N:Nat} {z:Nat→Rat}
theorem K0r (hr:∀ r ∈ rows,r.length=e.set.length) (hN:e.set.length≤N) (hg:∀ g ∈ e.guards,g.all.length=N) :
  X0G (c0B rows e d row N) N (c0B rows e d row N).A.length z ↔ y0m rows e d N z:=by
 have hl:(c0B rows e d row N).A.length=(c0B rows e d row N).B.length:=by simp [c0B,h0V]
 have h1:=J0y (P:=fun a b=>rs (fun k=>b0u (a.getD k c0o) * z k) N≤b0u b) (a0:=[]) (b0:=c0o) hl
 refine Iff.trans h1 ?_
 unfold c0B y0m
 simp only
 rw [List.zip_append (by simp [h0V])]
 simp only [i1F,or_imp,forall_and]
 refine and_congr ?_ ?_
 ·rw [List.zip_map_left]
  have h2:=w0M (Q:=fun a b=>rs (fun k=>b0u ((w0K N a).getD k c0o) * z k) N≤b0u b) (rows:=rows) (d:=d)
  refine Iff.trans ?_ (Iff.trans h2 ?_)
  ·constructor
   ·intro h x hx;exact h (w0K N x.1,x.2) (j1e.2 ⟨x,hx,rfl⟩)
   ·intro h x hx;obtain ⟨y,hy,rfl⟩:=j1e.1 hx;exact h y hy
  ·constructor
   ·intro h x hx h0
    have:=h x hx h0
    rw [B0V (hr _ (List.of_mem_zip hx).1) hN,a0w] at this;exact this
   ·intro h x hx h0
    rw [B0V (hr _ (List.of_mem_zip hx).1) hN,a0w];exact h x hx h0
 ·rw [List.zip_map']
  have h3:∀ g ∈ e.guards,(rs (fun k=>b0u ((g.all.map c0E).getD k c0o) * z k) N≤b0u (a0f (-vQ g.K)) ↔ U0y g N z≤0):=fun g hg'=>by
   rw [U0z (hg g hg'),a0w];unfold U0y;constructor <;> intro h <;> grind
  constructor
  ·intro h g hg';have h4:=h (g.all.map c0E,a0f (-vQ g.K)) (j1e.2 ⟨g,hg',rfl⟩);exact (h3 g hg').1 h4
  ·intro h x hx;obtain ⟨g,hg',rfl⟩:=j1e.1 hx;exact (h3 g hg').2 (h g hg')
theorem V0p:p0M (c0B rows e d row N) N z + gK (rows.getD row []) e.set=n0X (rows.getD row []) e N z:=by
 have h1:p0M (c0B rows e d row N) N z=rs (fun i=>b0u ((rows.getD row []).getD i c0o) * rs (fun j=>vQ ((e.set.getD i aff0).all.getD j iz) * z j) N) e.set.length:=by
  have e1:p0M (c0B rows e d row N) N z=rs (fun j=>rs (fun i=>b0u ((rows.getD row []).getD i c0o) * vQ ((e.set.getD i aff0).all.getD j iz) * z j) e.set.length) N:=by
   unfold p0M
   refine b0F fun j hj=>?_
   unfold pC c0B
   rw [b0I (by simpa using hj),j1b,j1U,a0w]
   unfold gC;rw [← i0F]
  rw [e1,r0k]
  refine b0F fun i _=>?_
  rw [← r0l];exact b0F fun j _=>by grind
 rw [h1]
 unfold gK n0X
 rw [← x0U]
 exact b0F fun i _=>by unfold U0y;grind
end
def n0C (rows:List (List b0h)) (e:c0f) (d:List b0T) (row N:Nat) (x:b0T):Prop :=
 (x=(-1,c0o)∧(d0y (fun e=>decide (e.1 < 0)) d=true ∨ ∀ z,¬ y0m rows e d N z)) ∨
 (d0y (fun e=>decide (e.1 < 0)) d=false∧((∃ v,x=(0,a0f v)∧(∃ z,y0m rows e d N z∧n0X (rows.getD row []) e N z=v)∧∀ z,y0m rows e d N z→n0X (rows.getD row []) e N z≤v) ∨
 (x=(1,c0o)∧∀ B,∃ z,y0m rows e d N z∧B < n0X (rows.getD row []) e N z)))
section
variable {rows:List (List b0h)} {e:c0f} {d d':List b0T} {row N:Nat} {x y:b0T} {z:Nat→Rat}
theorem l0E:e0d (-1,c0o)=(-1,0):=by unfold e0d i0R;simp [i0a]
theorem h0Z:e0d (1,c0o)=(1,0):=by unfold e0d i0R;simp [i0a]
theorem f0A {v:Rat}:e0d (0,a0f v)=(0,v):=by unfold e0d i0R;simp [f0O,a0w]
theorem n0C.grows (h:n0C rows e d row N x) (h':n0C rows e d' row N y) (hs:∀ z,y0m rows e d N z→y0m rows e d' N z) (hd:d0y (fun e=>decide (e.1 < 0)) d=false→d0y (fun e=>decide (e.1 < 0)) d' = false) :
  ¬ 0 < n0E (e0d x) (e0d y):=by
 have hle:∀ {a b:Rat},¬ b < a→¬ 0 < n0E (0,a) (0,b):=fun h1 h2=>by
  unfold n0E at h2;simp at h2;exact h1 (A0s.1 h2)
 rcases h with ⟨rfl,_⟩ | ⟨h0,h⟩
 ·rw [l0E]
  rcases h' with ⟨rfl,_⟩ | ⟨_,⟨v,rfl,_⟩ | ⟨rfl,_⟩⟩
  ·rw [l0E];decide
  ·rw [f0A];unfold n0E;simp
  ·rw [h0Z];decide
 ·have h0':=hd h0
  rcases h with ⟨v,rfl,⟨z,hz,rfl⟩,hm⟩ | ⟨rfl,hu⟩
  ·rw [f0A]
   rcases h' with ⟨rfl,hn | hn⟩ | ⟨_,⟨w,rfl,_,hw⟩ | ⟨rfl,_⟩⟩
   ·rw [h0'] at hn;exact i1A hn (by decide)
   ·exact i1A (hs z hz) (hn z)
   ·rw [f0A];exact hle (by have:=hw z (hs z hz);grind)
   ·rw [h0Z];unfold n0E;simp
  ·rw [h0Z]
   rcases h' with ⟨rfl,hn | hn⟩ | ⟨_,⟨w,rfl,_,hw⟩ | ⟨rfl,_⟩⟩
   ·rw [h0'] at hn;exact i1A hn (by decide)
   ·obtain ⟨z,hz,_⟩:=hu 0;exact i1A (hs z hz) (hn z)
   ·obtain ⟨z,hz,hB⟩:=hu w
    have:=hw z (hs z hz);grind
   ·rw [h0Z];decide
theorem n0C.keeps (h:n0C rows e d row N x) (h0:d0y (fun e=>decide (e.1 < 0)) d=false) (hz:y0m rows e d N z):¬ 0 < n0E (0,n0X (rows.getD row []) e N z) (e0d x):=by
 rcases h with ⟨rfl,hn | hn⟩ | ⟨_,⟨w,rfl,_,hw⟩ | ⟨rfl,_⟩⟩
 ·rw [h0] at hn;exact i1A hn (by decide)
 ·exact i1A hz (hn z)
 ·rw [f0A];intro h2
  unfold n0E at h2;simp at h2
  have:=A0s.1 h2;have:=hw z hz;grind
 ·rw [h0Z];unfold n0E;simp
theorem n0C.unique (h:n0C rows e d row N x) (h':n0C rows e d row N y):x=y:=by
 rcases h with ⟨rfl,h⟩ | ⟨h0,h⟩ <;> rcases h' with ⟨rfl,h'⟩ | ⟨h0',h'⟩
 ·rfl
 ·rcases h with h | h
  ·rw [h] at h0';exact i1A h0' (by decide)
  ·rcases h' with ⟨v,_,⟨z,hz,_⟩,_⟩ | ⟨_,hu⟩
   ·exact i1A hz (h z)
   ·obtain ⟨z,hz,_⟩:=hu 0;exact i1A hz (h z)
 ·rcases h' with h' | h'
  ·rw [h'] at h0;exact i1A h0 (by decide)
  ·rcases h with ⟨v,_,⟨z,hz,_⟩,_⟩ | ⟨_,hu⟩
   ·exact i1A hz (h' z)
   ·obtain ⟨z,hz,_⟩:=hu 0;exact i1A hz (h' z)
 ·rcases h with ⟨v,rfl,⟨z,hz,rfl⟩,hm⟩ | ⟨rfl,hu⟩ <;> rcases h' with ⟨w,rfl,⟨z',hz',rfl⟩,hm'⟩ | ⟨rfl,hu'⟩
  ·have h1:=hm z' hz';have h2:=hm' z hz
   rw [Rat.le_antisymm h1 h2]
  ·obtain ⟨z',hz',hB⟩:=hu' (n0X (rows.getD row []) e N z);have:=hm z' hz';grind
  ·obtain ⟨z,hz,hB⟩:=hu (n0X (rows.getD row []) e N z');have:=hm' z hz;grind
  ·rfl
theorem M0s {b:List b0T} (hd:∀ x ∈ d,i0R x=true) (h0:d0y (fun e=>decide (e.1 < 0)) d=false) (h:y0m rows e d N z):y0m rows e (List.zipWith n0Z d b) N z:=by
 refine ⟨fun x hx hx0=>?_,h.2⟩
 obtain ⟨i,hi,rfl⟩:=j1t.1 hx
 rw [List.getElem_zip] at hx0 ⊢
 simp only [List.length_zip,List.length_zipWith] at hi
 simp only [List.getElem_zipWith] at hx0 ⊢
 have hm:=hd d[i] (i1p _)
 have ha:¬ d[i].1 < 0:=fun hn=>by
  have:=List.any_eq_false.1 h0 d[i] (i1p _)
  simp at this;omega
 have hk:=h.1 (rows[i],d[i]) (j1t.2 ⟨i,by simp;omega,by rw [List.getElem_zip]⟩)
 simp only at hk
 unfold n0Z at hx0 ⊢
 have hc:∀ {y:Int × Rat},(b0A y).1=y.1:=fun {y}=>by unfold b0A;split <;> simp_all
 rw [hc] at hx0
 by_cases h1:n0E (e0d d[i]) (e0d b[i]) < 0
 ·rw [i1n h1] at hx0 ⊢
  have h2:d[i].1=0∧b0u d[i].2 < (e0d b[i]).2:=by
   unfold n0E at h1
   rw [hx0] at h1
   unfold e0d at h1
   rw [i1n hm] at h1
   by_cases h3:d[i].1=0
   ·rw [i1n h3] at h1;simp at h1;exact ⟨h3,U0H.1 h1⟩
   ·rw [i1k h3] at h1;simp at h1
    split at h1
    ·omega
    ·split at h1 <;> omega
  have:=hk h2.1
  unfold b0A;rw [i1n hx0];show _≤b0u (a0f _);rw [a0w];grind
 ·rw [i1k h1] at hx0 ⊢
  unfold b0A;rw [i1n hx0];show _≤b0u (a0f _);rw [a0w]
  unfold e0d at hx0 ⊢
  rw [i1n hm] at hx0 ⊢
  by_cases h3:d[i].1=0
  ·rw [i1n h3];exact hk h3
  ·rw [i1k h3] at hx0;exact i1A hx0 h3
theorem y0p {b:List b0T} (hd:∀ x ∈ d,i0R x=true) (h0:d0y (fun e=>decide (e.1 < 0)) d=false):d0y (fun e=>decide (e.1 < 0)) (List.zipWith n0Z d b)=false:=by
 refine List.any_eq_false.2 fun x hx=>?_
 obtain ⟨i,hi,rfl⟩:=j1t.1 hx
 simp only [List.length_zipWith] at hi
 simp only [List.getElem_zipWith]
 have hm:=hd d[i] (i1p _)
 have ha:¬ d[i].1 < 0:=fun hn=>by
  have:=List.any_eq_false.1 h0 d[i] (i1p _)
  simp at this;omega
 have hv:(e0d d[i]).1=d[i].1:=by unfold e0d;rw [i1n hm];split <;> simp_all
 have hc:∀ {y:Int × Rat},(b0A y).1=y.1:=fun {y}=>by unfold b0A;split <;> simp_all
 unfold n0Z
 rw [hc]
 by_cases h1:n0E (e0d d[i]) (e0d b[i]) < 0
 ·rw [i1n h1]
  unfold n0E at h1
  rw [hv] at h1
  simp
  split at h1
  ·omega
  ·split at h1 <;> omega
 ·rw [i1k h1,hv];simpa using ha
end
theorem U0k.sup {rows:List (List b0h)} {e:c0f} {d:List b0T} {row N:Nat} {a:o0p} (hr:∀ r ∈ rows,r.length=e.set.length) (hN:e.set.length≤N) (hg:∀ g ∈ e.guards,g.all.length=N) (h0:d0y (fun e=>decide (e.1 < 0)) d=false)
  (h:U0k (c0B rows e d row N) N (c0B rows e d row N).A.length a) :
  (a.kind=2∧n0C rows e d row N (-1,c0o)) ∨ (a.kind=3∧n0C rows e d row N (1,c0o)) ∨ (a.kind=1∧n0C rows e d row N (0,a0f (a.V + gK (rows.getD row []) e.set))):=by
 have hF:=fun z=>K0r (d:=d) (row:=row) (z:=z) hr hN hg
 have hG:=fun z=>V0p (rows:=rows) (e:=e) (d:=d) (row:=row) (N:=N) (z:=z)
 rcases h with ⟨h1,h2⟩ | ⟨h1,⟨z,hz,hv⟩,h3⟩ | ⟨h1,h2⟩
 ·exact .inl ⟨h1,.inl ⟨rfl,.inr fun z hz=>h2 z ((hF z).2 hz)⟩⟩
 ·refine .inr (.inr ⟨h1,.inr ⟨h0,.inl ⟨_,rfl,⟨z,(hF z).1 hz,?_⟩,fun z' hz'=>?_⟩⟩⟩)
  ·rw [← hG,hv]
  ·have:=h3 z' ((hF z').2 hz');have:=hG z';grind
 ·refine .inr (.inl ⟨h1,.inr ⟨h0,.inr ⟨rfl,fun B=>?_⟩⟩⟩)
  obtain ⟨z,hz,hB⟩:=h2 (B - gK (rows.getD row []) e.set)
  exact ⟨z,(hF z).1 hz,by have:=hG z;grind⟩
theorem r0s {f:Nat→Rat} {K:Nat} (h:∀ i,szR (f i)≤K):∀ n,szR (rs f n)≤n * (K + 1) + 1
 | 0=>by rw [rs,e0w];omega
 | n + 1=>by
  have h1:=r0s h n
  have h2:=r0p (rs f n) (f n)
  have h3:=h n
  rw [rs,i1D];omega
def M0J (l:List (Bool × List Nat)):Prop:=∀ x ∈ l,x.2.length≤40∧b0a x.2
def v0U (a:f0H):Prop:=M0J a.X∧M0J a.W∧a.K.2.length≤40∧b0a a.K.2
structure l0e (e:c0f):Prop where
 set:∀ a ∈ e.set,v0U a
 guards:∀ a ∈ e.guards,v0U a
 ns:e.set.length≤3
 ng:e.guards.length≤6
 m:e.m≤3
def k0f (l:List f0H) (n m:Int):Bool:=!d0y (fun a=>!decide ((a.X.length:Int)=n) || !decide ((a.W.length:Int)=m)) l
def c0k (rows:List (List b0h)) (e:c0f) (d:List b0T) (row:Int):Bool :=
 f0i rows e.set.length d && decide (0≤row) && decide (row < rows.length) && decide (0≤e.m) && k0f e.set e.set.length e.m && k0f e.guards e.set.length e.m
theorem w0t {l:List f0H} {n m:Int}:k0f l n m=true ↔ ∀ a ∈ l,(a.X.length:Int)=n∧(a.W.length:Int)=m:=by
 unfold k0f d0y;simp [List.any_eq_false]
theorem M0J.sz {x:Bool × List Nat} {k:Nat} (h:x.2.length≤k) (h0:b0a x.2):szR (vQ x)≤max k 1:=by
 unfold vQ;rw [r0q];have:=w0C h0;omega
theorem v0U.all {a:f0H} (h:v0U a) (j:Nat):szR (vQ (a.all.getD j iz))≤40:=by
 rw [i1h]
 by_cases hj:j < a.all.length
 ·rw [i1m hj]
  have hm:a.all[j] ∈ a.X ++ a.W:=i1p hj
  rcases i1F.1 hm with hm | hm
  ·exact M0J.sz (k:=40) (h.1 _ hm).1 (h.1 _ hm).2
  ·exact M0J.sz (k:=40) (h.2.1 _ hm).1 (h.2.1 _ hm).2
 ·rw [i1s (by omega)];show szR ((0:Int):Rat)≤40;rw [r0q,c0K];decide
theorem v0U.aff0:v0U aff0:=⟨fun x hx=>by simp [AI.aff0] at hx,fun x hx=>by simp [AI.aff0] at hx,by decide,fun x hx=>by simp [AI.aff0,iz] at hx⟩
theorem l0e.at {e:c0f} (h:l0e e) (i:Nat):v0U (e.set.getD i aff0):=by
 rw [i1h]
 by_cases hi:i < e.set.length
 ·rw [i1m hi];exact h.set _ (i1p _)
 ·rw [i1s (by omega)];exact v0U.aff0
theorem l0e.gC {e:c0f} {y:List b0h} (h:l0e e) (hy:Few 6 y) (j n:Nat) (hn:n≤3):szR (rs (fun i=>b0u (y.getD i c0o) * vQ ((e.set.getD i aff0).all.getD j iz)) n)≤150:=by
 have h1:=r0s (f:=fun i=>b0u (y.getD i c0o) * vQ ((e.set.getD i aff0).all.getD j iz)) (K:=47) (fun i=>by
  have h1:=g0C (b0u (y.getD i c0o)) (vQ ((e.set.getD i aff0).all.getD j iz))
  have h2:=hy.sz i
  have h3:=(h.at i).all j
  omega) n
 omega
theorem l0e.gK {e:c0f} {y:List b0h} (h:l0e e) (hy:Few 6 y) (n:Nat) (hn:n≤3):szR (rs (fun i=>b0u (y.getD i c0o) * vQ (e.set.getD i aff0).K) n)≤150:=by
 have h1:=r0s (f:=fun i=>b0u (y.getD i c0o) * vQ (e.set.getD i aff0).K) (K:=47) (fun i=>by
  have h1:=g0C (b0u (y.getD i c0o)) (vQ (e.set.getD i aff0).K)
  have h2:=hy.sz i
  have h3:=M0J.sz (k:=40) (h.at i).2.2.1 (h.at i).2.2.2
  omega) n
 omega
theorem e0W {S:Nat} {x:Rat} (h:szR x≤S):d0b (a0f x)≤S∧b0a (a0f x).1.2∧b0a (a0f x).2.2:=⟨by rw [a0J];exact h,c0l _,c0l _⟩
theorem A0z {rows:List (List b0h)} {e:c0f} {d:List b0T} {row:Nat} {m:Nat} (ha:c0k rows e d row=true) (he:l0e e) (hm:e.m=(m:Int)) (hrl:rows.length≤8) (hr:∀ r ∈ rows,Few 6 r) (hd:∀ x ∈ d,d0b x.2≤6∧b0a x.2.1.2∧b0a x.2.2.2) :
  r0w (c0B rows e d row (e.set.length + m)) (e.set.length + m) (c0B rows e d row (e.set.length + m)).A.length 200∧n0m (c0B rows e d row (e.set.length + m))=true∧e.set.length + m≤6∧(c0B rows e d row (e.set.length + m)).A.length≤14∧(∀ r ∈ rows,r.length=e.set.length)∧(∀ g ∈ e.guards,g.all.length=e.set.length + m)∧∀ x ∈ d,i0R x=true:=by
 unfold c0k f0i l0b at ha
 simp only [i1y,j1n] at ha
 obtain ⟨⟨⟨⟨⟨⟨⟨⟨⟨⟨hn0,hn6⟩,hl⟩,hrow⟩,hdl⟩,hmay⟩,hr0⟩,hr1⟩,hm0⟩,hfs⟩,hfg⟩:=ha
 have hns:=he.ns;have hng:=he.ng;have hm3:=he.m
 have hrow':∀ r ∈ rows,r.length=e.set.length:=fun r hr'=>by
  have:=i1U.1 hrow r hr'
  unfold r0j at this;simp at this;omega
 have hg:∀ g ∈ e.guards,g.all.length=e.set.length + m:=fun g hg'=>by
  have:=w0t.1 hfg g hg'
  unfold f0H.all;rw [i1E];omega
 have hmay':∀ x ∈ d,i0R x=true:=fun x hx=>by
  have h1:d0y (fun e=>!i0R e) d=false:=by simpa using hmay
  have:=List.any_eq_false.1 h1 x hx
  simpa using this
 have hAl:(c0B rows e d row (e.set.length + m)).A.length≤14:=by
  have:=j0H rows d
  simp [c0B];omega
 have hBl:(c0B rows e d row (e.set.length + m)).B.length=(c0B rows e d row (e.set.length + m)).A.length:=by simp [c0B,h0V]
 have hCl:(c0B rows e d row (e.set.length + m)).C.length=e.set.length + m:=by simp [c0B]
 have hlen:∀ r ∈ (c0B rows e d row (e.set.length + m)).A,Few 200 r∧r.length=e.set.length + m:=fun r hr'=>by
  rcases i1F.1 hr' with h1 | h1
  ·obtain ⟨q,h2,rfl⟩:=j1e.1 h1
   obtain ⟨q',h3,rfl⟩:=m0w h2
   have hl':(i0g q').length=e.set.length:=by unfold i0g;rw [j1A];exact hrow' _ h3
   refine ⟨fun x hx=>?_,by unfold w0K;rw [i1E,k1J];omega⟩
   rcases i1F.1 hx with hx | hx
   ·have:=K0s (hr q' h3) (by decide) x hx
    exact ⟨by omega,this.2⟩
   ·rw [(k1F.1 hx).2]
    exact e0W (by rw [e0w];decide)
  ·obtain ⟨g,h2,rfl⟩:=j1e.1 h1
   refine ⟨fun x hx=>?_,by rw [j1A];exact hg g h2⟩
   obtain ⟨y,hy,rfl⟩:=j1e.1 hx
   obtain ⟨j,hj,rfl⟩:=j1t.1 hy
   have:=(he.guards g h2).all j
   rw [b0I hj] at this
   exact e0W (by omega)
 have hfB:Few 200 (c0B rows e d row (e.set.length + m)).B:=fun x hx=>by
  rcases i1F.1 hx with h1 | h1
  ·obtain ⟨x',h2,rfl⟩:=m0y h1
   obtain ⟨h3,h4,h5⟩:=hd x' h2
   have:=c0y h4 h5
   exact e0W (by omega)
  ·obtain ⟨g,h2,rfl⟩:=j1e.1 h1
   have:=M0J.sz (k:=40) (he.guards g h2).2.2.1 (he.guards g h2).2.2.2
   exact e0W (by rw [J0q];omega)
 have hfC:Few 200 (c0B rows e d row (e.set.length + m)).C:=fun x hx=>by
  obtain ⟨j,hj,rfl⟩:=j1e.1 hx
  have h1:Few 6 (rows.getD row []):=by rw [b0I (by omega)];exact hr _ (i1p _)
  have:=he.gC h1 j e.set.length he.ns
  exact e0W (i1t this (by decide))
 obtain ⟨M,hM⟩:∃ M,M=(c0B rows e d row (e.set.length + m)).A.length:=⟨_,rfl⟩
 refine ⟨⟨rfl,rfl,hBl,hCl,hlen,hfB,hfC,by decide,by omega,by omega,?_⟩,?_,by omega,hAl,hrow',hg,hmay'⟩
 ·rw [← hM] at hAl ⊢
  obtain ⟨N,hN⟩:∃ N,N=e.set.length + m:=⟨_,rfl⟩
  rw [← hN]
  have hN6:N≤6:=by omega
  have h1:(M + 2) * ((N + 3) * (200 + 1) + M + 2)≤16 * 1825:=j1f (by omega) (by omega)
  have h2:(N + 1) * (2 * ((M + 2) * ((N + 3) * (200 + 1) + M + 2) + 1 + M + 200) + 10)≤7 * (2 * (16 * 1825 + 1 + 14 + 200) + 10):=j1f (by omega) (by omega)
  omega
 ·unfold n0m
  have h1:d0y (fun r=>!decide ((r.length:Int)=(c0B rows e d row (e.set.length + m)).n)) (c0B rows e d row (e.set.length + m)).A=false:=by
   refine List.any_eq_false.2 fun r hr'=>?_
   have:=(hlen r hr').2
   show ¬ (!decide ((r.length:Int)=((e.set.length + m:Nat):Int)))=true
   simp [this]
  rw [h1,hBl,hCl]
  show (decide (0≤((e.set.length + m:Nat):Int)) && decide (((e.set.length + m:Nat):Int)≤60) && decide ((c0B rows e d row (e.set.length + m)).A.length≤60) && _ && decide (((e.set.length + m:Nat):Int)=((e.set.length + m:Nat):Int)) && !false)=true
  simp;omega
section
variable {rows:List (List b0h)} {e:c0f} {d:List b0T} {x w:List (Bool × List Nat)}
end
end
section
open Go SX
set_option maxHeartbeats 1000000
variable {fl:Nat} {H G:a0e} {R:a0E} {v w u:Value}
def PIr (H:a0e) (cs:List Value) (x:Bool × List Nat):Prop:=b0q H (.agg cs.toArray) x
theorem c0L:i0J PIr:=fun _ _ _ _ hx h=>b0q.mono h hx
abbrev e0X (H:a0e) (v:Value) (l:List (Bool × List Nat)):Prop:=Sls PIr H a0a 2 v l
theorem e0X.load {l:List (Bool × List Nat)} (h:e0X H v l) {j:Nat} (hj:j < l.length):∃ s,b0r H true 2 (adr 2 v j)=some (.agg #[.bool l[j].1,s])∧Lim H s l[j].2:=by
 obtain ⟨cs,h1,_,s,h3,h4⟩:=Sls.load h hj (by omega)
 exact ⟨s,by rw [h1,h3],h4⟩
theorem e0X.lim {l:List (Bool × List Nat)} (h:e0X H v l):∀ x ∈ l,b0a x.2:=fun x hx=>by
 obtain ⟨i,hi,rfl⟩:=j1v hx
 obtain ⟨s,_,k⟩:=e0X.load h hi
 exact k.ok
def J0z (H:a0e) (v:Value) (a:f0H):Prop:=∃ sX sW s,v=.agg #[sX,sW,.bool a.K.1,s]∧e0X H sX a.X∧e0X H sW a.W∧Lim H s a.K.2
theorem J0z.mono {a:f0H} (h:J0z H v a) (hx:Ext H G):J0z G v a:=by
 obtain ⟨sX,sW,s,h1,h2,h3,h4⟩:=h;exact ⟨sX,sW,s,h1,h2.mono c0L hx,h3.mono c0L hx,h4.mono hx⟩
def PAf (H:a0e) (cs:List Value) (a:f0H):Prop:=J0z H (.agg cs.toArray) a
theorem c0g:i0J PAf:=fun _ _ _ _ hx h=>J0z.mono h hx
abbrev h0b (H:a0e) (v:Value) (l:List f0H):Prop:=Sls PAf H f0K 4 v l
theorem h0b.load {l:List f0H} (h:h0b H v l) {j:Nat} (hj:j < l.length):∃ w,b0r H true 4 (adr 4 v j)=some w∧J0z H w l[j]:=by
 obtain ⟨cs,h1,_,h3⟩:=Sls.load h hj (by omega);exact ⟨_,h1,h3⟩
def j0f (H:a0e) (v:Value) (e:c0f):Prop:=∃ (f t:Int) (sG sS sP:Value),v=.agg #[.int .i64 f,.int .i64 t,.int .i64 e.m,sG,sS,sP]∧h0b H sG e.guards∧h0b H sS e.set∧a0V sP=[sP]∧a0t sP=true
theorem j0f.mono {e:c0f} (h:j0f H v e) (hx:Ext H G):j0f G v e:=by
 obtain ⟨f,t,sG,sS,sP,h1,h2,h3,h4,h5⟩:=h;exact ⟨f,t,sG,sS,sP,h1,h2.mono c0g hx,h3.mono c0g hx,h4,h5⟩
end
section
open Go SX
set_option maxHeartbeats 4000000
variable {fl:Nat} {H G:a0e} {R:a0E} {v w u:Value}
theorem M0E {x:Bool × List Nat}:c0E x=(a0k (a0B x),a0k 1):=by
 unfold c0E vQ a0f;rw [k1P,k1N];rfl
theorem d0H {x:Bool × List Nat} (h:b0q H v x) (hf:fl≤H.size) (hn:x.2.length < 536870912) :
  a0S env fl M0T [v] H (fun r H'=>b0P H' r (c0E x)∧Ext H H') R:=by
 have k0:=h
 obtain ⟨s,rfl,hs⟩:=h
 refine a0g h1C hf (h:=?_)
 intro ρ h0
 simp [c1O,S0m,h0,hs.cells]
 generalize hG:Array.push (Array.push H _) _=G
 obtain ⟨hx,b1,b2⟩:=push2 hG
 clear hG
 simp [S0n,b1]
 refine (e0B (i:=x) (j:=iz) (k0.mono hx) ⟨_,rfl,Lim.nil⟩ hx.1 hn (by decide)).mono ?_
 rintro _ G2 ⟨⟨s1,rfl,k1⟩,hx2⟩
 replace b2:=hx2.blk b2
 replace hx:=hx.trans hx2
 clear hx2
 simp
 refine (c0r (n:=1) hx.1 (by omega) (by omega)).mono ?_
 rintro _ G2 ⟨⟨s2,rfl,k2⟩,hx2⟩
 replace b2:=hx2.blk b2
 replace k1:=k1.mono hx2
 replace hx:=hx.trans hx2
 clear hx2
 have hsz:=hx.1
 have h0z:a0B iz=0:=by decide
 rw [h0z,j1Q] at k1 ⊢
 simp [b2,hsz,k1.cells,k1.plain,k2.cells,k2.plain]
 generalize hS':Array.setIfInBounds G2 _ _=G3
 rw [a0v hS' b2]
 simp
 rw [M0E]
 exact fun _=>⟨s1,s2,rfl,k1.setS hS' b2 (by decide),k2.setS hS' b2 (by decide)⟩
theorem k0E {e:b0T} (h:f0J H v e) (hf:fl≤H.size):a0S env fl Y0S [v] H (fun r H'=>r=.bool (decide (e.1 < 0))∧Ext H H') R:=by
 obtain ⟨s,u,rfl,hs,hu⟩:=h
 refine a0g g1Y hf (h:=?_)
 intro ρ h0
 simp [c1n,Q0a,Q0b,h0]
theorem h0J {a:List b0T} (ha:c0I H v a) (hf:fl≤H.size) (hfa:y0h a) (hal:a.length < 1073741824) :
  a0S env fl X0c [v] H (fun r H'=>r=.bool (d0y (fun e=>decide (e.1 < 0)) a)∧Ext H H') R:=by
 refine a0g g1H hf (h:=?_)
 intro ρ h0
 simp [b1W,O0G,O0H,h0]
 refine (f0I (p:=fun e=>decide (e.1 < 0)) ha (i1j _) hfa hal (fun fl G v e hf h hn=>k0E h hf)).mono ?_
 rintro _ G2 ⟨rfl,hx2⟩
 simp
theorem l0I {a:List f0H} {p:f0H→Bool} {g:FuncId} {c c2:Value} (I:a0e→Prop) (hI:∀ G G',Ext G G'→I G→I G') (h0:I H) (ha:h0b H v a) (hf:fl≤H.size) (hal:a.length < 1073741824)
  (hg:∀ (fl:Nat) (G:a0e) (v:Value) (e:f0H),I G→fl≤G.size→J0z G v e→a0S env fl g [v,c,c2] G (fun r H'=>r=.bool (p e)∧Ext G H') R) :
  a0S env fl A0E [v,.func (.func g) #[] #[c,c2]] H (fun r H'=>(∃ z:Int,r=.int .i64 z∧(0≤z ↔ d0y p a=true))∧Ext H H') R:=by
 refine a0g e1k hf (h:=?_)
 intro ρ h1
 simp [L0m,C0s,C0t,h1,ha.slen]
 refine c0W (n:=a.length) (fun i ρ G=>ρ 0=v∧ρ 1=.func (.func g) #[] #[c,c2]∧Ext H G∧d0y p (a.take i)=false)
  rfl rfl (by decide) (by omega) (by simp) (by simp) ?_ ?_ ?_ ?_
 ·exact ⟨by simp [h1],by simp [h1],Ext.refl H,by rw [k1V];exact h0N⟩
 ·intro i ρ ρ' G h hI;simpa [h] using hI
 ·clear h1 ρ
  rintro i ρ G hi gi gn ⟨g0,g1,hx,hc⟩
  have ka:=ha.mono c0g hx
  obtain ⟨w,hl,k0⟩:=h0b.load ka hi
  simp [C0u,C0v,gi,g0,g1,ka.ia hi,hl]
  refine (hg _ _ _ _ (hI _ _ hx h0) hx.1 k0).mono ?_
  rintro _ G2 ⟨rfl,hx2⟩
  have hx':=hx.trans hx2
  cases hp:p a[i]
  ·simp
   exact Rnd.mk (by simp [gi]) (by simp [gn]) ⟨by simp [g0],by simp [g1],hx',by rw [f0L hi,hc,hp];rfl⟩
  ·simp [C0w,gi]
   exact fun _=>h0O hi hp
 ·clear h1 ρ
  rintro ρ G gi gn ⟨g0,g1,hx,hc⟩
  rw [i1x] at hc
  simp [C0x,hc]
theorem j0d {a:List f0H} {p:f0H→Bool} {g:FuncId} {c c2:Value} (I:a0e→Prop) (hI:∀ G G',Ext G G'→I G→I G') (h0:I H) (ha:h0b H v a) (hf:fl≤H.size) (hal:a.length < 1073741824)
  (hg:∀ (fl:Nat) (G:a0e) (v:Value) (e:f0H),I G→fl≤G.size→J0z G v e→a0S env fl g [v,c,c2] G (fun r H'=>r=.bool (p e)∧Ext G H') R) :
  a0S env fl Z0g [v,.func (.func g) #[] #[c,c2]] H (fun r H'=>r=.bool (d0y p a)∧Ext H H') R:=by
 refine a0g h1x hf (h:=?_)
 intro ρ h1
 simp [c1J,R0T,R0U,h1]
 refine (l0I (p:=p) I hI h0 ha (i1j _) hal hg).mono ?_
 rintro _ G2 ⟨⟨z,rfl,hz⟩,hx2⟩
 simp
 intro _
 rw [k1G,j1n];exact hz
theorem k0D {a:f0H} {b c:Nat} {n m:Int} (h:J0z H v a) (hb:H.blk b=.row false e0F [.int .i64 n]) (hc:H.blk c=.row false e0F [.int .i64 m]) (hf:fl≤H.size) :
  a0S env fl Z0h [v,.pointer (some ⟨b,0,none⟩),.pointer (some ⟨c,0,none⟩)] H (fun r H'=>r=.bool (!decide ((a.X.length:Int)=n) || !decide ((a.W.length:Int)=m))∧Ext H H') R:=by
 obtain ⟨sX,sW,s,rfl,hX,hW,hs⟩:=h
 refine a0g h1y hf (h:=?_)
 intro ρ h0
 simp [c1K,R0V,h0,hX.cells,hW.cells,hs.cells]
 generalize hG:Array.push H _=G
 obtain ⟨hx,b3⟩:=g0R hG
 replace hb:=hx.blk hb
 replace hc:=hx.blk hc
 simp [R0W,h0,b3,hb,hc,hX.slen,hW.slen]
 by_cases h1:(a.X.length:Int)=n
 ·by_cases h2:(a.W.length:Int)=m
  ·simp [h1,h2]
  ·simp [h1,h2]
 ·simp [h1]
theorem h0I {l:List f0H} {n m:Int} (h:h0b H v l) (hf:fl≤H.size) (hal:l.length < 1073741824) :
  a0S env fl X0h [v,.int .i64 n,.int .i64 m] H (fun r H'=>r=.bool (k0f l n m)∧Ext H H') R:=by
 refine a0g g1W hf (h:=?_)
 intro ρ h0
 simp [c1l,P0W,h0]
 generalize hG:Array.push (Array.push H _) _=G
 obtain ⟨hx,b1,b2⟩:=push2 hG
 clear hG
 simp [P0X,h0]
 refine (j0d (p:=fun a=>!decide ((a.X.length:Int)=n) || !decide ((a.W.length:Int)=m)) (fun G=>G.blk H.size=.row false e0F [.int .i64 n]∧G.blk (H.size + 1)=.row false e0F [.int .i64 m]) (fun G G' hx h=>⟨hx.blk h.1,hx.blk h.2⟩) ⟨b1,b2⟩ (h.mono c0g hx) hx.1 hal
  (fun fl G v e hI hf h=>k0D h hI.1 hI.2 hf)).mono ?_
 rintro _ G2 ⟨rfl,hx2⟩
 simp
 exact fun _=>by unfold k0f;simp
theorem Z0P {r1 r2 r3:Blk} (h:Array.push (Array.push (Array.push H r1) r2) r3=G):Ext H G∧a0e.blk G H.size=r1∧a0e.blk G (H.size + 1)=r2∧a0e.blk G (H.size + 2)=r3:=by
 subst h
 refine ⟨(Ext.refl H).push.push.push,?_,?_,?_⟩ <;> simp [a0K]
theorem o0u {x:Int × Rat}:(b0A x).1=x.1:=by unfold b0A;split <;> simp_all
theorem r0W {e:b0T} {b:b0h} (h:f0J H v e) (k:b0P H w b) (hf:fl≤H.size) (hn:d0b e.2 < 67108864) (hm:d0b b < 67108864) (he:szR (e0d e).2 < 67108864) (hs:szR (e0d e).2 + szR (b0u b) + 1 < 67108864) :
  a0S env fl Y0N [v,w] H (fun r H'=>f0J H' r (if (e0d e).1=0 then (0,a0f ((e0d e).2 + b0u b)) else b0A (e0d e))∧Ext H H') R:=by
 have h':=h;have k':=k
 obtain ⟨s1,s2,rfl,l1,l2⟩:=h
 obtain ⟨s3,s4,rfl,l3,l4⟩:=k
 refine a0g g1K hf (h:=?_)
 intro ρ h0
 simp [b1Z,O0T,h0,l1.cells,l2.cells,l3.cells,l4.cells]
 generalize hG:Array.push (Array.push (Array.push H _) _) _=G
 obtain ⟨hx,b2,b3,b4⟩:=Z0P hG
 clear hG
 simp [O0U,b2]
 refine (n0N (h'.mono hx) hx.1 hn).mono ?_
 rintro _ G2 ⟨⟨y1,y2,rfl,q1,q2⟩,hx2⟩
 replace b2:=hx2.blk b2
 replace b3:=hx2.blk b3
 replace b4:=hx2.blk b4
 replace hx:=hx.trans hx2
 clear hx2
 have hsz:=hx.1
 simp [b2,hsz,q1.cells,q1.plain,q2.cells,q2.plain]
 generalize hS:Array.setIfInBounds G2 _ _=G3
 have c2:=a0v hS b2
 have c3:a0e.blk G3 (H.size + 1)=_:=a0p hS b3 (by omega)
 have c4:a0e.blk G3 (H.size + 2)=_:=a0p hS b4 (by omega)
 have hx3:=a0Y hS hx (i1j _)
 have m1:=q1.setS hS b2 (by decide)
 have m2:=q2.setS hS b2 (by decide)
 clear b2 b3 b4 q1 q2
 have hsz3:=hx3.1
 by_cases hk:(e0d e).1=0
 ·have hk':(b0A (e0d e)).1=0:=by rw [o0u];exact hk
  have hce:b0A (e0d e)=(0,a0f (e0d e).2):=by unfold b0A;rw [i1n hk]
  simp [H0s,c2,hk']
  simp [O0W,c2,c3]
  rw [hce] at m1 m2 ⊢
  rw [i1n hk]
  refine (b0E (a:=a0f (e0d e).2) ⟨y1,y2,rfl,m1,m2⟩ (k'.mono hx3) hx3.1 (by rw [a0J];exact he) hm).mono ?_
  rintro wa G5 ⟨ka,hx5⟩
  replace c4:=hx5.blk c4
  replace hx3:=hx3.trans hx5
  rw [a0w] at ka
  have hsa:=r0p (e0d e).2 (b0u b)
  simp
  refine (g0b ka hx3.1 (by rw [a0J];omega)).mono ?_
  rintro _ G6 ⟨⟨z1,z2,rfl,n1,n2⟩,hx6⟩
  replace c4:=hx6.blk c4
  replace hx3:=hx3.trans hx6
  rw [a0w] at n1 n2 ⊢
  have hsz6:=hx3.1
  simp [c4,hsz6,n1.cells,n1.plain,n2.cells,n2.plain]
  generalize hS':Array.setIfInBounds G6 _ _=G7
  rw [a0v hS' c4]
  simp
  exact fun _=>⟨_,_,rfl,n1.setS hS' c4 (by decide),n2.setS hS' c4 (by decide)⟩
 ·have hk':¬ (b0A (e0d e)).1=0:=by rw [o0u];exact hk
  simp [H0s,c2,hk']
  simp [O0V,c2,c4,hsz3,m1.cells,m1.plain,m2.cells,m2.plain]
  generalize hS':Array.setIfInBounds G3 _ _=G4
  rw [a0v hS' c4]
  simp
  rw [i1k hk]
  exact fun _=>⟨_,_,rfl,m1.setS hS' c4 (by decide),m2.setS hS' c4 (by decide)⟩
theorem d0q.shape {rows:List (List b0h)} (h:d0q H v rows):∃ s,v=.agg #[s]∧e0Y H s rows:=h
theorem g0K {rows:List (List b0h)} {e:c0f} {d:List b0T} {row:Int} (ht:d0q H v rows) (he:j0f H w e) (hd:c0I H u d) (hf:fl≤H.size) (hr:∀ r ∈ rows,Few 6 r∧r.length < 1073741824) (hrl:rows.length < 1073741824) (hfd:y0h d) (hdl:d.length < 1073741824) (hel:e.set.length < 1073741824) (hgl:e.guards.length < 1073741824) :
  a0S env fl X0b [v,w,u,.int .i64 row] H (fun r H'=>r=.bool (c0k rows e d row)∧Ext H H') R:=by
 have ht0:=ht
 obtain ⟨s,rfl,hs⟩:=ht
 obtain ⟨f,t,sG,sS,sP,rfl,hG,hS,hPc,hPp⟩:=he
 refine a0g g1G hf (h:=?_)
 intro ρ h0
 simp [b1V,O0D,h0,hs.cells,hG.cells,hS.cells,hPc]
 generalize hN:Array.push (Array.push H _) _=G
 obtain ⟨hx,b4,b5⟩:=push2 hN
 clear hN
 simp [O0E,b5,hS.slen]
 simp [O0F,h0,b4,b5]
 refine (n0M (S:=6) (ht0.mono hx) (hd.mono b0N hx) hx.1 (by decide) hr hrl hfd hdl).mono ?_
 rintro _ G2 ⟨rfl,hx2⟩
 replace b4:=hx2.blk b4
 replace b5:=hx2.blk b5
 replace hx:=hx.trans hx2
 clear hx2
 unfold c0k
 cases hv:f0i rows e.set.length d
 ·simp
 have hsl:=(hs.mono d0A hx).slen
 by_cases h1:0≤row
 ·by_cases h2:row < rows.length
  ·by_cases h3:0≤e.m
   ·simp [h0,h1,h2,h3,b4,b5,hsl]
    refine (h0I (l:=e.set) (hS.mono c0g hx) hx.1 hel).mono ?_
    rintro _ G3 ⟨rfl,hx2⟩
    replace b5:=hx2.blk b5
    replace hx:=hx.trans hx2
    clear hx2
    cases hq:k0f e.set e.set.length e.m
    ·simp
    ·simp [b5]
     refine (h0I (l:=e.guards) (hG.mono c0g hx) hx.1 hgl).mono ?_
     rintro _ G4 ⟨rfl,hx2⟩
     simp
   ·simp [h0,h1,h2,h3,b4,b5,hsl]
  ·simp [h0,h1,h2,b4,b5,hsl]
 ·simp [h0,h1]
def z0K (d:List b0T):Nat:=(d.filter fun x=>decide (x.1=0)).length
theorem t0J (d:List b0T):z0K d≤d.length:=List.length_filter_le _ _
theorem A0t {d:List b0T} {i:Nat} (h:i < d.length):z0K (d.take (i + 1))=z0K (d.take i) + if d[i].1=0 then 1 else 0:=by
 unfold z0K
 rw [i1B h,List.filter_append,i1E]
 by_cases h0:d[i].1=0 <;> simp [h0]
def x0Y (e:c0f) (d:List b0T):Bool:=decide (e.guards.length + z0K d≤60) && decide ((e.set.length:Int) + e.m≤60)
theorem l0q {rows:List (List b0h)} {e:c0f} {d:List b0T} (ht:d0q H v rows) (he:j0f H w e) (hd:c0I H u d) (hf:fl≤H.size) (hdl:d.length < 1073741824) (hel:e.set.length < 1073741824) (hgl:e.guards.length < 1073741824) (hm0:-1073741824 < e.m) (hm1:e.m < 1073741824) :
  a0S env fl Y0T [v,w,u] H (fun r H'=>r=.bool (x0Y e d)∧Ext H H') R:=by
 have ht0:=ht
 obtain ⟨s,rfl,hs⟩:=ht
 obtain ⟨f,t,sG,sS,sP,rfl,hG,hS,hPc,hPp⟩:=he
 refine a0g g1Z hf (h:=?_)
 intro ρ h0
 simp [c1o,Q0c,h0,hs.cells,hG.cells,hS.cells,hPc]
 generalize hN:Array.push (Array.push H _) _=G
 obtain ⟨hx,b3,b4⟩:=push2 hN
 clear hN
 simp [Q0d,b4,hG.slen]
 simp [Q0e,h0,hd.slen]
 have hcl:=t0J d
 refine c0W (n:=d.length) (fun i ρ G=>ρ 13=u∧ρ 4=.pointer (some ⟨H.size + 1,0,none⟩)∧Ext H G∧a0e.blk G (H.size + 1)=.row false b0H [.int .i64 f,.int .i64 t,.int .i64 e.m,sG,sS,sP]∧ρ 7=.int .i64 ((e.guards.length + z0K (d.take i):Nat):Int)) rfl rfl (by decide) (by omega) (by simp) (by simp) ?_ ?_ ?_ ?_
 ·exact ⟨by simp,by simp,hx,b4,by simp [z0K]⟩
 ·intro i ρ ρ' G h hI;simpa [h] using hI
 ·clear h0 ρ b3 b4 hx
  rintro i ρ G hi gi gn ⟨g13,g4,hx,b4,g7⟩
  have kd:=hd.mono b0N hx
  obtain ⟨wx,ex,kx⟩:=c0I.load kd hi
  obtain ⟨y1,y2,rfl,q1,q2⟩:=kx
  have hsz:=hx.1
  simp [Q0f,gi,g13,kd.ia hi,ex,q1.cells,q1.plain,q2.cells,q2.plain,hsz]
  generalize hN:Array.setIfInBounds (Array.push _ _) _ _=G3
  obtain ⟨hx2,b5⟩:=new1 hN
  clear hN
  replace b4:=hx2.blk b4
  replace hx:=hx.trans hx2
  have hcs:=A0t hi
  have hct:=t0J (d.take (i + 1))
  rw [j1m] at hct
  by_cases hk:d[i].1=0
  ·rw [i1n hk] at hcs
   have wr:IntKind.i64.wrap (((e.guards.length + z0K (d.take i):Nat):Int) + 1)=((e.guards.length + z0K (d.take (i + 1)):Nat):Int):=by
    rw [a0R (by omega) (by omega)];omega
   simp [H0A,b5,hk]
   simp [-Int.natCast_add,Q0g,g7,wr]
   exact Rnd.mk (by simp [gi]) (by simp [gn]) ⟨by simp [g13],by simp [g4],hx,b4,by simp⟩
  ·rw [i1k hk,j1p] at hcs
   simp [H0A,b5,hk]
   exact Rnd.mk (by simp [gi]) (by simp [gn]) ⟨by simp [g13],by simp [g4],hx,b4,by simp [g7,hcs]⟩
 ·rintro ρ G gi gn ⟨g13,g4,hx,b4,g7⟩
  rw [i1x] at g7
  have hSl:=(hS.mono c0g hx).slen
  have wr:IntKind.i64.wrap ((e.set.length:Int) + e.m)=(e.set.length:Int) + e.m:=a0R (by omega) (by omega)
  unfold x0Y
  by_cases h1:e.guards.length + z0K d≤60
  ·have h1':((e.guards.length + z0K d:Nat):Int)≤60:=by omega
   simp [-Int.natCast_add,H0B,g7,g4,b4,hSl,wr,h1,h1']
  ·have h1':¬ ((e.guards.length + z0K d:Nat):Int)≤60:=by omega
   simp [-Int.natCast_add,H0B,g7,g4,b4,hSl,wr,h1,h1']
def z0U (fl:Nat) (H:a0e) (e sz:Nat) (v:Value) (n:Nat) (cs:List Value):Prop :=
 cs.length=n * sz∧((v=.slice none 0 0∧n=0) ∨ ∃ b cells,v=.slice (some ⟨b,0,none⟩) n unk∧H.blk b=.row false e cells∧fl≤b∧n * sz≤cells.length∧cs=cells.take (n * sz))
theorem z0T {n:Nat} (hf:fl≤H.size) (hn:n≤1073741824) :
  a0S env fl A0F [.slice none 0 0,.int .i64 (n:Int)] H (fun r H'=>z0U H.size H' a0a 2 r 0 []∧Ext H H') R:=by
 refine a0g e1n hf (h:=?_)
 intro ρ h0
 have w0:IntKind.i64.wrap 0=0:=by decide
 have w1:IntKind.i64.wrap (n:Int)=(n:Int):=a0R (by omega) (by omega)
 simp [L0p,C0F,C0G,h0,show ¬ (n:Int) < 0 by omega]
 simp [C0H,C0I,h0,g0Z,w0,w1]
 refine ⟨fun h=>?_,fun h=>?_⟩
 ·have hg:y0O 32 (.slice none 0 0) (.int .i64 (n:Int))=some n:=by
   unfold y0O;simp only;rw [i1n ⟨by omega,by omega,by decide⟩];simp
  simp [C0J,h0,g0Z,hg,e0c,bnd,elemOk,unk,u0y]
  exact ⟨rfl,.inr ⟨H.size,e0G [.bool false,.slice none 0 0] n,rfl,a0D,i1j _,by simp,rfl⟩⟩
 ·simp [u0y,h0]
  exact ⟨rfl,.inl ⟨rfl,rfl⟩⟩
theorem z0U.sl {e sz n:Nat} {s:Value} {cs:List Value} (h:z0U fl G e sz s n cs):Sl G e sz s n cs:=by
 obtain ⟨h1,⟨rfl,rfl⟩ | ⟨b,cells,rfl,hb,hf,hl,rfl⟩⟩:=h
 ·exact ⟨h1,.inl ⟨rfl,rfl⟩⟩
 ·exact ⟨h1,.inr ⟨b,0,unk,false,cells,rfl,hb,by omega,by rw [j1q]⟩⟩
theorem z0U.mono {e sz n:Nat} {s:Value} {cs:List Value} {G':a0e} (h:z0U fl G e sz s n cs) (hx:Ext G G'):z0U fl G' e sz s n cs:=by
 obtain ⟨h1,h2 | ⟨b,cells,h2,hb,h3⟩⟩:=h
 ·exact ⟨h1,.inl h2⟩
 ·exact ⟨h1,.inr ⟨b,cells,h2,hx.blk hb,h3⟩⟩
theorem J0V {e e2 sz bytes n m:Nat} {s x:Value} {cs new:List Value} (ho:z0U fl G e sz s n cs) (hx:Sl G e2 sz x m new) (hp:new.all a0t=true) (hn:n + m≤1073741824) (hb:bytes≤1024) (hs:0 < sz) (hfl:fl≤G.size) :
  ∃ v' G',i0x fl G e sz bytes s x=some (v',G')∧z0U fl G' e sz v' (n + m) (cs ++ new)∧d0l (slB s) G G'∧(∀ H0,H0.size≤fl→Ext H0 G→Ext H0 G'):=by
 obtain ⟨hxl,hx⟩:=hx
 have hol:=ho.1
 by_cases hm:m=0
 ·subst hm
  have hnew:new=[]:=i1I.1 (by omega)
  subst hnew
  refine ⟨s,G,?_,by simpa using ho,(Ext.refl G).extB,fun _ _ h=>h⟩
  rcases hx with ⟨rfl,_⟩ | ⟨b,off,cap,ro,cells,rfl,_⟩ <;> rcases ho.2 with ⟨rfl,rfl⟩ | ⟨b',cells',rfl,_⟩ <;> simp [i0x]
 ·rcases hx with ⟨_,h0⟩ | ⟨b,off,cap,ro,cells,rfl,hbk,ho1,ho2⟩
  ·exact i1A h0 hm
  have hc:=f0m hbk ho1
  rw [← ho2] at hc
  rcases ho.2 with ⟨rfl,rfl⟩ | ⟨b',cells',rfl,hb',hf',hl',hcs'⟩
  ·have hcs:cs=[]:=i1I.1 (by omega)
   subst hcs
   refine ⟨.slice (some ⟨G.size,0,none⟩) m unk,G.push (.row false e new),?_,?_,(Ext.push (Ext.refl G)).extB,fun _ _ h=>h.push⟩
   ·unfold i0x
    simp only
    rw [i1k hm,i1n ⟨by omega,hb,hs⟩]
    simp only [hc,hp,k1E,j1h]
    rw [i1n ⟨by trivial,by trivial⟩]
   ·rw [i1P]
    refine ⟨by simpa using hxl,.inr ⟨G.size,new,rfl,a0D,hfl,by omega,?_⟩⟩
    rw [← hxl,i1x];rfl
  ·have hb'l:=a0i hb'
   have hc2:G.cells? b' 0 (n * sz)=some cs:=by
    rw [f0m hb' (by omega),j1q,← hcs']
   have hal:(cs ++ new).length=(n + m) * sz:=by rw [i1E,hol,hxl,i1D]
   refine ⟨.slice (some ⟨G.size,0,none⟩) (n + m) unk,(G.setIfInBounds b' .dead).push (.row false e (cs ++ new)),?_,?_,?_,?_⟩
   ·unfold i0x
    simp only
    rw [i1k hm,i1n ⟨by omega,hb,hs⟩]
    simp only [hc,hp,k1E,j1h,hc2]
    rw [i1k (fun h00:n=0∧unk=0=>i1A h00.2 (by decide)),i1k (fun h=>h.1 rfl)]
    simp only [hb']
    rw [i1n ⟨trivial,hf'⟩]
   ·exact ⟨hal,.inr ⟨G.size,cs ++ new,rfl,by rw [a0K];simp,hfl,by omega,by rw [← hal,i1x]⟩⟩
   ·refine ⟨by simp,fun c hc hne=>?_⟩
    have:b' ≠ c:=fun h=>hne (by simp [slB,h])
    rw [d0K (by simpa using hc),a0W this]
   ·intro H0 h1 h2
    exact (h2.set (by omega)).push
def y0j {α:Type} (P:a0e→List Value→α→Prop) (fl:Nat) (H:a0e) (e sz:Nat) (v:Value) (l:List α):Prop :=
 ∃ cs,z0U fl H e sz v l.length cs∧∀ k (h:k < l.length),P H ((cs.drop (k * sz)).take sz) l[k]
theorem y0j.sls {α:Type} {P:a0e→List Value→α→Prop} {e sz:Nat} {l:List α} (h:y0j P fl H e sz v l):Sls P H e sz v l:=by
 obtain ⟨cs,h1,h2⟩:=h;exact ⟨cs,h1.sl,h2⟩
theorem m0v {sz:Nat} (hs:0 < sz):∀ {n:Nat} {cs:List Value},cs.length=n * sz→(∀ k,k < n→((cs.drop (k * sz)).take sz).all a0t=true)→cs.all a0t=true
 | 0,cs,h,_=>by rw [i1I.1 (by omega:cs.length=0)];rfl
 | n + 1,cs,h,h2=>by
  have h3:=h2 0 (by omega)
  rw [l1q,j1q] at h3
  rw [i1D,i1W] at h
  have h4:=m0v hs (n:=n) (cs:=cs.drop sz) (by rw [List.length_drop];omega) (fun k hk=>by
   have:=h2 (k + 1) (by omega)
   rw [j1S]
   rwa [show sz + k * sz=(k + 1) * sz by rw [i1D];omega])
  rw [← j1Y sz cs,k1H,h3,h4];rfl
theorem PIr.plain {cs:List Value} {x:Bool × List Nat} (h:PIr H cs x):cs.all a0t=true:=by
 obtain ⟨s,h1,h2⟩:=h
 have h3:cs=[.bool x.1,s]:=by injection h1 with h1;simpa using l1m Array.toList h1
 subst h3;simp [h2.plain]
theorem PIr.lx {cs:List Value} {x:Bool × List Nat} (h:PIr H cs x) (hx:Lx H G):PIr G cs x:=by
 obtain ⟨s,h1,h2⟩:=h;exact ⟨s,h1,h2.lx hx⟩
theorem e0X.plainAll {l:List (Bool × List Nat)} {cs:List Value} (hl:cs.length=l.length * 2) (h:∀ k (h:k < l.length),PIr H ((cs.drop (k * 2)).take 2) l[k]):cs.all a0t=true :=
 m0v (by decide) hl fun k hk=>(h k hk).plain
theorem z0U.lx {e sz n:Nat} {cs:List Value} (h:z0U fl G e sz v n cs) (he:e ≠ a0h) {G':a0e} (hx:d0l (slB v) G G'):Lx G G':=by
 intro b ro cs' hb
 obtain ⟨hl,⟨rfl,_⟩ | ⟨p,cells,rfl,hp,_⟩⟩:=h
 ·rw [hx.2 b (a0i hb) (by simp [slB])];exact hb
 ·rw [hx.2 b (a0i hb) (by simp [slB];rintro rfl;rw [hp] at hb;cases hb;exact he rfl)];exact hb
theorem B0X {α:Type} {P:a0e→List Value→α→Prop} {sz:Nat} {cs new:List Value} {l m:List α} (hc:cs.length=l.length * sz) (hn:new.length=m.length * sz) (h1:∀ k (h:k < l.length),P H ((cs.drop (k * sz)).take sz) l[k]) (h2:∀ k (h:k < m.length),P H ((new.drop (k * sz)).take sz) m[k]) :
  ∀ k (h:k < (l ++ m).length),P H (((cs ++ new).drop (k * sz)).take sz) (l ++ m)[k]:=by
 intro k hk
 by_cases hkl:k < l.length
 ·have h3:(k + 1) * sz≤l.length * sz:=i1r _ hkl
  rw [i1D,i1W] at h3
  rw [j1a hkl,j1w (by omega),j1N (by simp;omega)]
  exact h1 k hkl
 ·rw [i1E] at hk
  rw [i1J (by omega),List.drop_append,j1E (by rw [hc];exact i1r _ (by omega)),j1J,hc,show k * sz - l.length * sz=(k - l.length) * sz by rw [Nat.sub_mul]]
  exact h2 _ (by omega)
theorem y0j.cat {s x:Value} {l m:List (Bool × List Nat)} (ho:y0j PIr fl G a0a 2 s l) (hx:e0X G x m) (hn:l.length + m.length≤1073741824) (hfl:fl≤G.size) :
  ∃ v' G',i0x fl G a0a 2 32 s x=some (v',G')∧y0j PIr fl G' a0a 2 v' (l ++ m)∧∀ H0,H0.size≤fl→Ext H0 G→Ext H0 G':=by
 obtain ⟨cs,h1,h2⟩:=ho
 obtain ⟨new,h3,h4⟩:=hx
 obtain ⟨v',G',a1,a2,a3,a4⟩:=J0V (bytes:=32) h1 h3 (e0X.plainAll h3.1 h4) hn (by decide) (by decide) hfl
 have hlx:=h1.lx (by decide) a3
 refine ⟨v',G',a1,⟨cs ++ new,by rw [i1E];exact a2,?_⟩,a4⟩
 exact B0X h1.1 h3.1 (fun k hk=>(h2 k hk).lx hlx) (fun k hk=>(h4 k hk).lx hlx)
def PIL (H:a0e) (cs:List Value) (l:List (Bool × List Nat)):Prop:=∃ w,cs=[w]∧e0X H w l
theorem V0w:i0J PIL:=fun _ _ _ _ hx ⟨w,h1,h2⟩=>⟨w,h1,h2.mono c0L hx⟩
theorem PIL.load {ll:List (List (Bool × List Nat))} (h:Sls PIL H b0i 1 v ll) {j:Nat} (hj:j < ll.length):∃ w,b0r H false 1 (adr 1 v j)=some w∧e0X H w ll[j]:=by
 obtain ⟨w,h1,w',h2,h3⟩:=Sls.load1 h hj
 cases h2;exact ⟨_,h1,h3⟩
theorem B0e {α:Type} {ll:List (List α)} {i:Nat}:(ll.take i).flatten.length≤ll.flatten.length:=by
 have:(ll.take i ++ ll.drop i).flatten.length=ll.flatten.length:=by rw [j1Y]
 rw [List.flatten_append,i1E] at this;omega
theorem s0h {α:Type} {ll:List (List α)} {i:Nat} (h:i < ll.length):(ll.take (i + 1)).flatten=(ll.take i).flatten ++ ll[i]:=by
 rw [i1B h,List.flatten_append];simp
theorem l0F {ll:List (List (Bool × List Nat))} (h:Sls PIL H b0i 1 v ll) (hf:fl≤H.size) (hn:ll.length < 1073741824) (hm:ll.flatten.length≤1073741824) :
  a0S env fl X0m [v] H (fun r H'=>e0X H' r ll.flatten∧Ext H H') R:=by
 refine a0g h1B hf (h:=?_)
 intro ρ h0
 simp [c1N,S0f,S0g,S0h,h0,h.slen]
 refine c0W (n:=ll.length) (fun i ρ G=>ρ 0=v∧ρ 9=v∧G=H∧ρ 3=.int .i64 ((ll.take i).flatten.length:Int)) rfl rfl (by decide) (by omega) (by simp) (by simp) ?_ ?_ ?_ ?_
 ·exact ⟨by simp [h0],by simp [h0],rfl,by simp⟩
 ·intro i ρ ρ' G h hI;simpa [h] using hI
 ·clear h0 ρ
  rintro i ρ G hi gi gn ⟨g0,g9,rfl,g3⟩
  obtain ⟨w,hl,k0⟩:=PIL.load h hi
  have hfs:=s0h hi
  have hle:=B0e (ll:=ll) (i:=i + 1)
  have hlen:(ll.take (i + 1)).flatten.length=(ll.take i).flatten.length + ll[i].length:=by rw [hfs,i1E]
  have wr:IntKind.i64.wrap (((ll.take i).flatten.length:Int) + (ll[i].length:Int))=((ll.take (i + 1)).flatten.length:Int):=by
   rw [a0R (by omega) (by omega)];omega
  obtain ⟨A,hA⟩:∃ A,A=(ll.take i).flatten.length:=⟨_,rfl⟩
  obtain ⟨B,hB⟩:∃ B,B=(ll.take (i + 1)).flatten.length:=⟨_,rfl⟩
  rw [← hA,← hB] at wr
  rw [← hA] at g3
  simp [S0i,gi,g9,h.ia hi,hl]
  simp [S0j,g3,k0.slen,wr]
  simp [S0k,show ¬ (B:Int) < 0 by omega]
  exact Rnd.mk (by simp [gi]) (by simp [gn]) ⟨by simp [g0],by simp [g9],rfl,by simp [hB]⟩
 ·clear h0 ρ
  rintro ρ G gi gn ⟨g0,g9,rfl,g3⟩
  rw [i1x] at g3
  obtain ⟨M,hM⟩:∃ M,M=ll.flatten.length:=⟨_,rfl⟩
  rw [← hM] at g3
  simp [S0l,g3]
  refine (z0T (i1j _) (by omega)).mono ?_
  rintro s G2 ⟨hs,hx⟩
  simp [I0e,g0,h.slen]
  refine c0W (n:=ll.length) (fun i ρ G'=>ρ 25=v∧Ext G G'∧y0j PIr G.size G' a0a 2 (ρ 6) (ll.take i).flatten) rfl rfl (by decide) (by omega) (by simp) (by simp) ?_ ?_ ?_ ?_
  ·exact ⟨by simp,hx,[],by simpa using hs,by simp⟩
  ·intro i ρ ρ' G h hI;simpa [h] using hI
  ·clear hs hx g0 g9 g3 gi gn ρ G2
   rintro i ρ G2 hi gi gn ⟨g25,hx,hs⟩
   have h':=h.mono V0w hx
   obtain ⟨w,hl,k0⟩:=PIL.load h' hi
   have hfs:=s0h hi
   have hle:=B0e (ll:=ll) (i:=i + 1)
   rw [hfs,i1E] at hle
   obtain ⟨v',G3,a1,a2,a3⟩:=hs.cat k0 (by omega) hx.1
   simp [I0f,gi,g25,h'.ia hi,hl]
   simp [I0g,a1]
   exact Rnd.mk (by simp [gi]) (by simp [gn]) ⟨by simp [g25],a3 _ (i1j _) hx,by rw [hfs];simpa using a2⟩
  ·rintro ρ G3 _ _ ⟨_,hx3,hs3⟩
   rw [i1x] at hs3
   simp [I0h]
   exact fun _=>hs3.sls
theorem b0d.up {α:Type} {Q:a0e→List Value→α→Prop} {f2 e sz:Nat} {l:List α} (h:b0d Q fl G e sz v l) (hb:∀ b,slB v=some b→f2≤b):b0d Q f2 G e sz v l:=by
 obtain ⟨cs',⟨hl',h1 | ⟨b',cap,rfl,hp,hf⟩⟩,h2⟩:=h
 ·exact ⟨cs',⟨hl',.inl h1⟩,h2⟩
 ·exact ⟨cs',⟨hl',.inr ⟨b',cap,rfl,hp,hb _ rfl⟩⟩,h2⟩
theorem b0d.appUp {α:Type} {P:a0e→List Value→α→Prop} {f2 e sz:Nat} {l:List α} (he:e ≠ a0h) (hO:∀ G' cs x,d0l (slB v) G G'→Lx G G'→P G cs x→P G' cs x) (h:b0d P f2 G e sz v l) {e2 c bytes:Nat} {new:List Value} {x:α} (hx:P G new x) (hl:new.length=sz) (hp:new.all a0t=true) (hn:l.length < 1073741824) (hb:bytes≤1024) (hs:0 < sz) (hfl:fl≤f2) (hf2:f2≤G.size) :
  ∃ v' G',i0x fl (G.push (.row false e2 new)) e sz bytes v (.slice (some ⟨G.size,0,none⟩) 1 c)=some (v',G')∧b0d P f2 G' e sz v' (l ++ [x])∧d0l (slB v) G G'∧(∀ H0,H0.size≤f2→Ext H0 G→Ext H0 G'):=by
 obtain ⟨v',G',a1,a2,a3,a4⟩:=b0d.app (e2:=e2) (c:=c) (bytes:=bytes) he hO (h.low hfl) hx hl hp hn hb hs (by omega)
 obtain ⟨_,_,hv⟩:=e0y (by decide) a1
 refine ⟨v',G',a1,a2.up (fun b hb=>?_),a3,fun H0 h1 h2=>⟨i1t h2.1 a3.1,fun b hb=>?_⟩⟩
 ·rw [hv] at hb;simp [slB] at hb;omega
 ·rw [a3.2 b (by have:=h2.1;omega) (fun h3=>by have:=(h.ge h3).1;omega)];exact h2.2 b hb
def v0T (E:Env) (fl nt tc b b2:Nat) (body:SCode) (Z:b0b→a0e→Prop) (Q:d0X) (R:a0E) (n i:Nat) (Inv:Nat→(Nat→Value)→a0e→Prop) (t:b0b) (H:a0e):Prop :=
 ∃ ρ' c,t=T nt ρ'∧ρ' tc=.bool c∧(c=true→i < n∧W E fl body (T nt ρ') H (t0W b2 b (d0k nt i Inv) Z Q) R)∧(c=false→Z (T nt ρ') H)
section
variable {E:Env} {fl nt tc b b2 n i:Nat} {body:SCode} {rc:List a0I} {Z:b0b→a0e→Prop} {Q:d0X} {R:a0E} {Inv:Nat→(Nat→Value)→a0e→Prop} {ρ:Nat→Value} {H:a0e}
theorem v0T.mk (c:Bool) (h1:ρ tc=.bool c) (h2:c=true→i < n∧W E fl body (T nt ρ) H (t0W b2 b (d0k nt i Inv) Z Q) R) (h3:c=false→Z (T nt ρ) H):v0T E fl nt tc b b2 body Z Q R n i Inv (T nt ρ) H:=⟨ρ,c,rfl,h1,h2,h3⟩
theorem Y0d (Inv:Nat→(Nat→Value)→a0e→Prop) (n:Nat) (htc:tc < nt) (hI:Inv 0 ρ H)
  (step:∀ i ρ G,i≤n→Inv i ρ G→WR E fl rc (T nt ρ) G (v0T E fl nt tc b b2 body Z Q R n i Inv) R) :
  W E fl (.loop (.seq (.seq (.reg rc) (.cond (.tmp tc) .skip (.exit b))) (.block b2 body))) (T nt ρ) H (e0Z b (h0H Z Q)) R:=by
 refine b0R (fun k t G=>∃ i ρ,i + k=n∧t=T nt ρ∧Inv i ρ G) Z n ⟨0,ρ,by omega,rfl,hI⟩ ?_ (fun _ _ h=>h)
 clear hI
 rintro k t G ⟨i,ρ,hik,rfl,hI⟩
 refine g0M (g0M (l0f ((step i ρ G (by omega) hI).mono ?_)))
 rintro t' G' ⟨ρ',c,rfl,h1,h2,h3⟩
 simp only [d0h]
 cases c with
 | true =>
  obtain ⟨hi,h2⟩:=h2 rfl
  refine j0j true (by rw [i0z,b0Q htc,h1]) (fun _=>r0J ?_) (by simp)
  simp only [d0h]
  refine l0O (h2.mono fun e t2 G2 hq=>?_)
  have fin:d0k nt i Inv t2 G2→m0j b (fun t' H'=>∃ k',k' < k∧∃ i ρ,i + k' = n∧t' = T nt ρ∧Inv i ρ H') Z Q .normal t2 G2:=by
   rintro ⟨ρ3,rfl,h4⟩
   exact ⟨k - 1,by omega,i + 1,ρ3,by omega,rfl,h4⟩
  cases e with
  | normal=>exact fin hq
  | exit j =>
   simp only [t0W] at hq
   show (if j=b2 then _ else _)
   by_cases hj:j=b2
   ·rw [i1n hj] at hq ⊢;exact fin hq
   ·rw [i1k hj] at hq ⊢
    show (if j=b then _ else _)
    by_cases hj2:j=b
    ·rw [i1n hj2] at hq ⊢;exact hq
    ·rw [i1k hj2] at hq ⊢;exact hq
  | ret=>exact hq
 | false =>
  refine j0j false (by rw [i0z,b0Q htc,h1]) (by simp) (fun _=>r0I ?_)
  show (if b=b then _ else _)
  rw [i1n rfl]
  exact h3 rfl
end
theorem e0Y.loadX {l:List (List b0h)} (h:e0Y H v l) (hx:Ext H G) {j:Nat} (hj:j < l.length):∃ w,b0r G false 1 (adr 1 v j)=some w∧b0v H w l[j]:=by
 obtain ⟨w,h1,h2⟩:=e0Y.load h hj
 obtain ⟨cs,a,b⟩:=id h
 have e1:=a.load1 (Ext.refl _) hj
 have e2:=a.load1 hx hj
 exact ⟨w,by rw [e2,← e1,h1],h2⟩
theorem s0J:∀ {rows:List (List b0h)} {d:List b0T},d.length≤rows.length→d0w (rows.take d.length) (d.take d.length)=d0w rows d
 | _,[],_=>by simp [d0w]
 | [],_ :: _,h=>by simp at h
 | r :: rows,e :: d,h=>by
  have:=s0J (rows:=rows) (d:=d) (by simpa using h)
  simp only [i1Y,k1A,d0w,this]
theorem s0K:∀ {rows:List (List b0h)} {d:List b0T},d.length≤rows.length→d0x (rows.take d.length) (d.take d.length)=d0x rows d
 | _,[],_=>by simp [d0x]
 | [],_ :: _,h=>by simp at h
 | r :: rows,e :: d,h=>by
  have:=s0K (rows:=rows) (d:=d) (by simpa using h)
  simp only [i1Y,k1A,d0x,this]
def PSf (f:Nat) (o:Option Nat) (H:a0e) (cs:List Value) (l:List b0h):Prop:=∃ v,cs=[v]∧b0v H v l∧(slB v=none ∨ slB v ≠ o)∧∀ b,slB v=some b→f≤b
theorem k0i {f:Nat} {o:Option Nat}:i0J (PSf f o):=fun _ _ _ _ hx ⟨v,h1,h2,h3,h4⟩=>⟨v,h1,h2.mono a0Q hx,h3,h4⟩
def v0X (H:a0e) (P N:Nat) (s w:Value) (rows:List (List b0h)) (d:List b0T) (i:Nat) (ρ:Nat→Value) (G:a0e):Prop :=
 ρ 2=.int .i64 (N:Int)∧ρ 3=.pointer (some ⟨H.size,0,none⟩)∧ρ 6=.pointer (some ⟨H.size + 1,0,none⟩)∧ρ 7=.pointer (some ⟨P,0,none⟩)∧ρ 15=w∧Ext H G ∧
  a0e.blk G H.size=.row false a0L [s]∧a0e.blk G (H.size + 1)=.row false b0J [.int .i64 0,.slice none 0 0,.slice none 0 0,.slice none 0 0] ∧
  ∃ sA sB,a0e.blk G P=.row false b0J [.int .i64 (N:Int),sA,sB,.slice none 0 0]∧b0d (PSf H.size (slB sB)) H.size G a0M 1 sA ((d0w (rows.take i) (d.take i)).map (w0K N)) ∧
   b0d PR H.size G a0b 4 sB (d0x (rows.take i) (d.take i))
def X0O (fl N:Nat) (A:List (List b0h)) (B:List b0h) (r:Value) (H':a0e):Prop :=
 ∃ sA sB,r=.agg #[.int .i64 (N:Int),sA,sB,.slice none 0 0]∧b0d (PSf fl (slB sB)) fl H' a0M 1 sA A∧b0d PR fl H' a0b 4 sB B
theorem n0u {S N:Nat} {rows:List (List b0h)} {d:List b0T} (h:d0q H v rows) (hd:c0I H w d) (hf:fl≤H.size) (hS:S < 67108864) (hN:N < 1073741824) (hr:∀ r ∈ rows,Few S r∧r.length≤N) (hdl:d.length≤rows.length) (hrl:rows.length < 1073741824) (hfd:y0h d) :
  a0S env fl Y0U [v,w,.int .i64 (N:Int)] H (fun r H'=>X0O H.size N ((d0w rows d).map (w0K N)) (d0x rows d) r H'∧Ext H H') R:=by
 obtain ⟨s,rfl,hs⟩:=h
 refine a0g h1a hf (h:=?_)
 intro ρ h0
 simp [c1p,Q0h,h0,hs.cells]
 generalize hG:Array.push (Array.push H _) _=G
 obtain ⟨hx,b0,b1⟩:=push2 hG
 clear hG
 have hb1l:=a0i b1
 have hsz:=hx.1
 simp [Q0i,h0,hsz]
 generalize hN:Array.setIfInBounds (Array.push _ _) _ _=G5
 obtain ⟨hx2,b3⟩:=new1 hN
 clear hN
 (try replace b0:=hx2.blk b0);(try replace b1:=hx2.blk b1);(try replace b3:=hx2.blk b3);(try replace b4:=hx2.blk b4);(try replace b5:=hx2.blk b5);(try replace b6:=hx2.blk b6);(try replace hx:=hx.trans hx2);(try replace k0:=k0.mono hx2);(try replace k1:=k1.mono hx2);(try replace k2:=k2.mono hx2);(try replace k3:=k3.mono hx2);(try replace k4:=k4.mono hx2)
 obtain ⟨P,hP⟩:∃ P,P=G.size:=⟨_,rfl⟩
 rw [← hP] at b3 hsz hb1l ⊢
 have hPne:P ≠ H.size + 1:=by omega
 have hPH:=hsz
 simp [Q0j,h0,hd.slen]
 refine c0W (n:=d.length) (v0X H P N s w rows d) rfl rfl (by decide) (by omega) (by simp) (by simp) ?_ ?_ ?_ ?_
 ·exact ⟨by simp [h0],by simp,by simp,by simp,by simp [h0],hx,b0,b1,_,_,b3,by simpa [d0w] using b0d.nil,by simpa [d0x] using b0d.nil⟩
 ·intro i ρ ρ' G h hI;simpa [v0X,h] using hI
 ·clear h0 ρ hx b0 b1 b3 hx2 hsz hb1l hP G5 G
  rintro i ρ G hi gi gn ⟨g2,g3,g6,g7,g15,hx,b0,b1,sA,sB,b3,hA,hB⟩
  have hir:i < rows.length:=by omega
  have kd:=hd.mono b0N hx
  have ks:=hs.mono d0A hx
  obtain ⟨we,hle,k0⟩:=c0I.load kd hi
  obtain ⟨s1,s2,rfl,k1,k2⟩:=id k0
  have hsz:=hx.1
  simp [Q0k,g15,gi,kd.ia hi,hle,k1.cells,k1.plain,k2.cells,k2.plain,hsz]
  generalize hN:Array.setIfInBounds (Array.push _ _) _ _=G3
  obtain ⟨hx2,b4⟩:=new1 hN
  clear hN
  (try replace b0:=hx2.blk b0);(try replace b1:=hx2.blk b1);(try replace b3:=hx2.blk b3);(try replace b4:=hx2.blk b4);(try replace b5:=hx2.blk b5);(try replace b6:=hx2.blk b6);(try replace hx:=hx.trans hx2);(try replace k0:=k0.mono hx2);(try replace k1:=k1.mono hx2);(try replace k2:=k2.mono hx2);(try replace k3:=k3.mono hx2);(try replace k4:=k4.mono hx2)
  replace ks:=ks.mono d0A hx2
  replace hA:=hA.mono k0i hx2
  replace hB:=hB.mono a0Q hx2
  obtain ⟨P2,hP2⟩:∃ P2,P2=G.size:=⟨_,rfl⟩
  rw [← hP2] at b4 hsz ⊢
  clear hx2 hle kd hP2 G
  by_cases he:d[i].1=0
  ·simp [H0H,b4,he]
   have hmk:=g0i (bytes:=64) (k:=.i64) (k':=.i64) (l:=0) (c:=N) (j1l _) (by omega) (by omega)
   simp only [Int.natCast_zero] at hmk
   simp [Q0l,g2,hmk]
   generalize hN:Array.push G3 _=G4
   obtain ⟨hx2,b5⟩:=g0R hN
   clear hN
   obtain ⟨wr,hlr,kr⟩:=e0Y.loadX ks hx2 hir
   obtain ⟨hfr,hrN⟩:=hr _ (i1p hir)
   have ho:b0d PR G3.size G4 a0b 4 (.slice (some ⟨G3.size,0,none⟩) 0 N) ([]:List b0h):=⟨[],Own.mk b5 rfl (i1j _),by simp⟩
   have hbs:=hx2.blk b0
   have hxs:=hx.1
   simp [Q0m,g3,hbs,(ks.mono d0A hx2).ia hir,hlr,kr.slen]
   clear hbs hlr
   refine c0W (n:=rows[i].length) (fun j ρ G=>ρ 2=.int .i64 (N:Int)∧ρ 3=.pointer (some ⟨H.size,0,none⟩)∧ρ 6=.pointer (some ⟨H.size + 1,0,none⟩)∧ρ 7=.pointer (some ⟨P,0,none⟩)∧ρ 15=w∧ρ 16=.int .i64 (d.length:Int)∧ρ 17=.int .i64 (i:Int)∧ρ 9=.pointer (some ⟨P2,0,none⟩)∧ρ 31=wr∧Ext G3 G∧b0d PR G3.size G a0b 4 (ρ 10) ((i0g rows[i]).take j)) rfl rfl (by decide) (by omega) (by simp) (by simp) ?_ ?_ ?_ ?_
   ·exact ⟨by simp [g2],by simp [g3],by simp [g6],by simp [g7],by simp [g15],by simp [gn],by simp [gi],by simp,by simp,hx2,by simpa using ho⟩
   ·intro i ρ ρ' G h hI;simpa [h] using hI
   ·clear g2 g3 g6 g7 g15 gi gn b5 ho hx2 hmk ρ G4
    rintro j ρ G hj gj gm ⟨g2,g3,g6,g7,g15,gn,gi,g9,g31,hx,ho⟩
    obtain ⟨r,g10⟩:∃ r,ρ 10=r:=⟨_,rfl⟩
    rw [g10] at ho
    have kv:=kr.mono a0Q hx
    obtain ⟨x,hlx,k0⟩:=b0v.load kv hj
    obtain ⟨y1,y2,rfl,q1,q2⟩:=id k0
    have hf2:=hfr _ (i1p hj)
    have hsz:=i1t hxs hx.1
    simp [Q0n,g31,gj,kv.ia hj,hlx,q1.cells,q1.plain,q2.cells,q2.plain,hsz]
    generalize hN:Array.setIfInBounds (Array.push _ _) _ _=G5
    obtain ⟨hx2,b6⟩:=new1 hN
    clear hN
    replace ho:=ho.mono a0Q hx2
    replace hx:=hx.trans hx2
    replace k0:=b0P.mono k0 hx2
    clear hx2 hlx kv q1 q2
    simp [H0C,b6]
    refine (b0E k0 (b:=c0o) f0d (i1t hxs hx.1) (by omega) (by decide)).mono ?_
    rintro _ G2 ⟨⟨s3,s4,rfl,k3,k4⟩,hx2⟩
    replace ho:=ho.mono a0Q hx2
    replace hx:=hx.trans hx2
    rw [f0h,k1v] at k3 k4 ⊢
    obtain ⟨s',G4,h1,h2,h3,h4⟩:=b0d.appUp (fl:=H.size) (P:=PR) (sz:=4) (e:=a0b) (by decide) (fun G' cs x _ hl h=>b0P.lx h hl) ho (e2:=a0b) (c:=1) (bytes:=64) (new:=[.bool (a0f (b0u rows[i][j])).1.1,s3,.bool (a0f (b0u rows[i][j])).2.1,s4]) (x:=a0f (b0u rows[i][j])) ⟨s3,s4,rfl,k3,k4⟩ rfl (by simp [k3.plain,k4.plain]) (by simp;omega) (by omega) (by omega) hxs hx.1
    simp [g10,k3.cells,k4.cells,h1]
    exact Rnd.mk (by simp [gj]) (by simp [gm]) ⟨by simp [g2],by simp [g3],by simp [g6],by simp [g7],by simp [g15],by simp [gn],by simp [gi],by simp [g9],by simp [g31],h4 _ (i1j _) hx,b0d.cast (v':=s') (by simp) (by unfold i0g;rw [r0t hj];exact h2)⟩
   clear g2 g3 g6 g7 g15 gi gn b5 ho hx2 hmk ρ G4
   rintro ρ G gz1 gz2 ⟨g2,g3,g6,g7,g15,gn,gi,g9,gz3,hx2,ho⟩
   clear gz1 gz2 gz3
   rw [i1v (by simp [i0g])] at ho
   refine Y0d (fun c ρ G=>ρ 2=.int .i64 (N:Int)∧ρ 3=.pointer (some ⟨H.size,0,none⟩)∧ρ 6=.pointer (some ⟨H.size + 1,0,none⟩)∧ρ 7=.pointer (some ⟨P,0,none⟩)∧ρ 15=w∧ρ 16=.int .i64 (d.length:Int)∧ρ 17=.int .i64 (i:Int)∧ρ 9=.pointer (some ⟨P2,0,none⟩)∧Ext G3 G∧b0d PR G3.size G a0b 4 (ρ 10) (i0g rows[i] ++ List.replicate c (a0f 0))) (N - rows[i].length) (by decide) ?_ ?_
   ·exact ⟨g2,g3,g6,g7,g15,gn,gi,g9,hx2,by simpa using ho⟩
   clear g2 g3 g6 g7 g15 gi gn ho hx2 ρ G g9
   rintro c ρ G hc ⟨g2,g3,g6,g7,g15,gn,gi,g9,hx2,ho⟩
   obtain ⟨r,g10⟩:∃ r,ρ 10=r:=⟨_,rfl⟩
   rw [g10] at ho
   have hol:(i0g rows[i] ++ List.replicate c (a0f 0)).length=rows[i].length + c:=by simp [i0g]
   have hsl:=ho.slen
   rw [hol] at hsl
   simp [-Int.natCast_add,H0D,g10,g2,hsl]
   refine v0T.mk (decide (((rows[i].length + c:Nat):Int) < (N:Int))) (by simp [-Int.natCast_add]) (fun hlt=>?_) (fun hge=>?_)
   ·have hlt':=of_decide_eq_true hlt
    refine ⟨by omega,?_⟩
    simp [H0E,g10]
    refine (c0h (n:=0) (i1t hxs hx2.1) (by decide) (by decide)).mono ?_
    rintro _ G2 ⟨⟨s3,s4,rfl,k3,k4⟩,hx3⟩
    replace ho:=ho.mono a0Q hx3
    replace hx2:=hx2.trans hx3
    have e0:((0:Int):Rat)=0:=rfl
    rw [e0] at k3 k4 ⊢
    obtain ⟨s',G4,h1,h2,h3,h4⟩:=b0d.appUp (fl:=H.size) (P:=PR) (sz:=4) (e:=a0b) (by decide) (fun G' cs x _ hl h=>b0P.lx h hl) ho (e2:=a0b) (c:=1) (bytes:=64) (new:=[.bool (a0f 0).1.1,s3,.bool (a0f 0).2.1,s4]) (x:=a0f 0) ⟨s3,s4,rfl,k3,k4⟩ rfl (by simp [k3.plain,k4.plain]) (by omega) (by omega) (by omega) hxs hx2.1
    simp [k3.cells,k4.cells,h1]
    exact d0k.mk ⟨by simp [g2],by simp [g3],by simp [g6],by simp [g7],by simp [g15],by simp [gn],by simp [gi],by simp [g9],h4 _ (i1j _) hx2,b0d.cast (v':=s') (by simp) (by rw [List.replicate_succ',← k1f];exact h2)⟩
   have hge':=of_decide_eq_false hge
   have hpad:i0g rows[i] ++ List.replicate c (a0f 0)=w0K N (i0g rows[i]):=by
    unfold w0K
    rw [show N - (i0g rows[i]).length=c by simp [i0g];omega]
   rw [hpad] at ho
   clear hpad hsl hol hge hge' hc
   replace b0:=hx2.blk b0
   replace b1:=hx2.blk b1
   replace b3:=hx2.blk b3
   replace b4:=hx2.blk b4
   replace hx:=hx.trans hx2
   replace k1:=k1.mono hx2
   replace k2:=k2.mono hx2
   replace hA:=hA.mono k0i hx2
   have hBlt:∀ b,slB sB=some b→b < G3.size:=fun b h=>(hB.ge h).2
   replace hB:=hB.mono a0Q hx2
   have hlA:=j0H (rows.take i) (d.take i)
   have hlB:=m0x (rows.take i) (d.take i)
   simp only [j1m] at hlA hlB
   have hrB:slB r=none ∨ slB r ≠ slB sB:=by
    cases hr1:slB r with
    | none=>exact .inl rfl
    | some b =>
     right;intro h
     have:=(ho.ge hr1).1
     have:=hBlt b h.symm
     omega
   obtain ⟨cr,pr⟩:=ho.cells
   obtain ⟨sA',G5,h1,h2,h3,h4⟩:=b0d.app (P:=PSf H.size (slB sB)) (sz:=1) (e:=a0M) (by decide)
    (fun G' cs x hxb hl ⟨w',q1,q2,q3,q4⟩=>⟨w',q1,q2.lx2 (hA.lxT (by decide) hxb) hl,q3,q4⟩) hA (e2:=a0M) (c:=1) (bytes:=24) (new:=[r]) (x:=w0K N (i0g rows[i])) ⟨r,rfl,ho.sls,hrB,fun b hb=>by have:=(ho.ge hb).1;omega⟩ rfl (by simp [pr]) (by rw [j1A];omega) (by omega) (by omega) hx.1
   obtain ⟨_,_,hAe⟩:=e0y (by decide) h1
   have hlx:=hA.lx (by decide) h3
   have hlr:=hA.lxT (e':=a0b) (by decide) h3
   have nA0:=hA.ne b0 (by decide)
   have nA1:=hA.ne b1 (by decide)
   have nA3:=hA.ne b3 (by decide)
   have nA4:=hA.ne b4 (by decide)
   have hAo:=hA.blkOf
   have c3:=b3
   replace b0:=(h3.2 _ (a0i b0) nA0).trans b0
   replace b1:=(h3.2 _ (a0i b1) nA1).trans b1
   replace b3:=(h3.2 _ (a0i b3) nA3).trans b3
   replace b4:=(h3.2 _ (a0i b4) nA4).trans b4
   replace hx:=h4 _ (i1j _) hx
   replace k1:=k1.lx hlx
   replace k2:=k2.lx hlx
   replace hB:=hB.lxm (Q':=PR) hlr (fun cs x h=>b0P.lx h hlx)
   refine c0J ?_
   simp [H0F,g7,g9,g10,c3,b3,b4,cr,h1]
   clear c3
   refine (b0E (a:=d[i].2) ⟨s1,s2,rfl,k1,k2⟩ (b:=c0o) f0d (by have:=hx.1;omega) (hfd _ (i1p hi)) (by decide)).mono ?_
   rintro _ G6 ⟨⟨s3,s4,rfl,k3,k4⟩,hx2⟩
   (try replace b0:=hx2.blk b0);(try replace b1:=hx2.blk b1);(try replace b3:=hx2.blk b3);(try replace b4:=hx2.blk b4);(try replace b5:=hx2.blk b5);(try replace b6:=hx2.blk b6);(try replace hx:=hx.trans hx2);(try replace k0:=k0.mono hx2);(try replace k1:=k1.mono hx2);(try replace k2:=k2.mono hx2);(try replace k3:=k3.mono hx2);(try replace k4:=k4.mono hx2)
   replace hA:=h2.mono k0i hx2
   replace hB:=hB.mono a0Q hx2
   rw [f0h,k1v] at k3 k4 ⊢
   obtain ⟨sB',G7,p1,p2,p3,p4⟩:=b0d.app (P:=PR) (sz:=4) (e:=a0b) (by decide) (fun G' cs x _ hl h=>b0P.lx h hl) hB (e2:=a0b) (c:=1) (bytes:=64) (new:=[.bool (a0f (b0u d[i].2)).1.1,s3,.bool (a0f (b0u d[i].2)).2.1,s4]) (x:=a0f (b0u d[i].2)) ⟨s3,s4,rfl,k3,k4⟩ rfl (by simp [k3.plain,k4.plain]) (by omega) (by omega) (by omega) hx.1
   obtain ⟨_,_,hBe⟩:=e0y (by decide) p1
   have hlx:=hB.lx (by decide) p3
   have nB0:=hB.ne b0 (by decide)
   have nB1:=hB.ne b1 (by decide)
   have nB3:=hB.ne b3 (by decide)
   have nB4:=hB.ne b4 (by decide)
   have hsBn:slB sB' = some (G6.size + 1):=by rw [hBe];simp [slB]
   have hA':b0d (PSf H.size (slB sB')) H.size G7 a0M 1 sA' ((d0w (rows.take (i + 1)) (d.take (i + 1))).map (w0K N)):=by
    rw [k0s hir hi,i1n he,k1K]
    refine hA.lxm (hB.lxT (by decide) p3) (fun cs x ⟨w',q1,q2,q3,q4⟩=>⟨w',q1,q2.off p3 q3 hlx,?_,q4⟩)
    cases hw:slB w' with
    | none=>exact .inl rfl
    | some b=>right;rw [hsBn];have:=q2.lt hw;simp;omega
   replace b0:=(p3.2 _ (a0i b0) nB0).trans b0
   replace b1:=(p3.2 _ (a0i b1) nB1).trans b1
   replace b3:=(p3.2 _ (a0i b3) nB3).trans b3
   replace hx:=p4 _ (i1j _) hx
   have hB':b0d PR H.size G7 a0b 4 sB' (d0x (rows.take (i + 1)) (d.take (i + 1))):=by rw [k0t hir hi,i1n he];exact p2
   obtain ⟨cA,pA⟩:=hA'.cells
   obtain ⟨cB,pB⟩:=hB'.cells
   have hz:=a0i b3
   simp [g7,b3,k3.cells,k4.cells,p1,cA,pA,cB,pB,hPH,hz]
   generalize hS1:Array.setIfInBounds G7 P _=G8
   have t1:∀ {e:Nat},b0J ≠ e→LxT e G7 G8:=fun hne=>b0c hS1 b3 hne
   have n0:P ≠ H.size:=by intro h;rw [h,b0] at b3;cases b3
   have hbo:∀ x,x ∈ blkW sA→slB sA=some x:=by
    rcases hAo with h | ⟨b,h,h'⟩
    ·rw [h];simp
    ·rw [h,h'];simp
   refine ⟨⟨fun x hx h=>nA3 (by rw [hbo x hx,h]),fun x hx h=>nA4 (by rw [hbo x hx,h])⟩,Rnd.mk (by simp [gi]) (by simp [gn]) ⟨by simp [g2],by simp [g3],by simp [g6],by simp [g7],by simp [g15],a0Y hS1 hx hPH,a0p hS1 b0 n0,a0p hS1 b1 hPne,sA',sB',a0v hS1 b3,?_,?_⟩⟩
   ·exact hA'.lxm (t1 (by decide)) (fun cs x ⟨w',q1,q2,q3,q4⟩=>⟨w',q1,q2.lx2 (t1 (by decide)) (t1 (by decide)),q3,q4⟩)
   ·exact hB'.lxm (t1 (by decide)) (fun cs x h=>b0P.lx h (t1 (by decide)))
  ·simp [H0H,b4,he]
   refine Rnd.mk (by simp [gi]) (by simp [gn]) ⟨by simp [g2],by simp [g3],by simp [g6],by simp [g7],by simp [g15],hx,b0,b1,sA,sB,b3,?_,?_⟩
   ·rw [k0s hir hi,i1k he,List.append_nil];exact hA
   ·rw [k0t hir hi,i1k he,List.append_nil];exact hB
 ·clear h0 ρ hx b0 b1 b3 hx2 hsz hb1l hP G5 G
  rintro ρ G gi gn ⟨g2,g3,g6,g7,g15,hx,b0,b1,sA,sB,b3,hA,hB⟩
  rw [s0J hdl] at hA
  rw [s0K hdl] at hB
  have hz:=a0i b1
  obtain ⟨cA,pA⟩:=hA.cells
  obtain ⟨cB,pB⟩:=hB.cells
  simp [H0G,g6,g7,b3,b1,cA,pA,cB,pB,hz]
  generalize hS:Array.setIfInBounds _ _ _=G9
  have t1:∀ {e:Nat},b0J ≠ e→LxT e G G9:=fun hne=>b0c hS b1 hne
  refine fun _=>⟨sA,sB,rfl,?_,?_⟩
  ·exact hA.lxm (t1 (by decide)) (fun cs x ⟨w',q1,q2,q3,q4⟩=>⟨w',q1,q2.lx2 (t1 (by decide)) (t1 (by decide)),q3,q4⟩)
  ·exact hB.lxm (t1 (by decide)) (fun cs x h=>b0P.lx h (t1 (by decide)))
def Oth (H:a0e) (P:Nat) (sA sB:Value) (G:a0e):Prop:=H.size≤G.size∧∀ b,b < H.size→b ≠ P→slB sA ≠ some b→slB sB ≠ some b→G.blk b=H.blk b
theorem Oth.ext {P:Nat} {sA sB:Value} {H0:a0e} (h:Oth H P sA sB G) (hf:H0.size≤fl) (hP:fl≤P) (hA:∀ b,slB sA=some b→fl≤b) (hB:∀ b,slB sB=some b→fl≤b) (hx:Ext H0 H):Ext H0 G :=
 ⟨i1t hx.1 h.1,fun b hb=>by
  rw [h.2 b (by have:=hx.1;omega) (by omega) (fun h1=>by have:=hA b h1;omega) (fun h1=>by have:=hB b h1;omega)];exact hx.2 b hb⟩
theorem Oth.step {P:Nat} {sA sB:Value} {G':a0e} (h:Oth H P sA sB G) (hx:Ext G G'):Oth H P sA sB G' :=
 ⟨i1t h.1 hx.1,fun b hb h1 h2 h3=>(hx.2 b (by have:=h.1;omega)).trans (h.2 b hb h1 h2 h3)⟩
theorem Oth.stepB {P:Nat} {sA sB s:Value} {G':a0e} (h:Oth H P sA sB G) (hx:d0l (slB s) G G') (hs:∀ b,slB s=some b→slB sA=some b ∨ slB sB=some b ∨ H.size≤b):Oth H P sA sB G' :=
 ⟨i1t h.1 hx.1,fun b hb h1 h2 h3=>(hx.2 b (by have:=h.1;omega) (fun h4=>by
  rcases hs b h4 with h5 | h5 | h5
  ·exact h2 h5
  ·exact h3 h5
  ·omega)).trans (h.2 b hb h1 h2 h3)⟩
theorem Oth.set {P:Nat} {sA sB:Value} {G':a0e} {X:Blk} (h:Oth H P sA sB G) (hS:Array.setIfInBounds G P X=G'):Oth H P sA sB G':=by
 subst hS
 exact ⟨by simpa using h.1,fun b hb h1 h2 h3=>(a0W (j1W h1)).trans (h.2 b hb h1 h2 h3)⟩
theorem PIL.two {b k:Nat} {ro:Bool} {x y:Value} {l m:List (Bool × List Nat)} (hb:a0e.blk G b=.row ro b0i [x,y]) (hx:e0X G x l) (hy:e0X G y m):Sls PIL G b0i 1 (.slice (some ⟨b,0,none⟩) 2 k) [l,m]:=by
 refine ⟨[x,y],⟨rfl,.inr ⟨b,0,k,ro,[x,y],rfl,hb,by simp,by simp⟩⟩,fun j hj=>?_⟩
 match j,hj with
 | 0,_=>exact ⟨x,rfl,hx⟩
 | 1,_=>exact ⟨y,rfl,hy⟩
theorem z0H {k:Bool × List Nat}:c0E (a0k (-a0B k))=a0f (-vQ k):=by
 unfold c0E vQ
 rw [a0j,Rat.intCast_neg]
structure W0R (fl f:Nat) (H:a0e) (P N:Nat) (sA sB sC:Value) (A:List (List b0h)) (B:List b0h):Prop where
 blk:a0e.blk H P=.row false b0J [.int .i64 (N:Int),sA,sB,sC]
 A:b0d (PSf f (slB sB)) fl H a0M 1 sA A
 B:b0d PR fl H a0b 4 sB B
theorem W0R.mono {P N f0:Nat} {sA sB sC:Value} {A:List (List b0h)} {B:List b0h} (h:W0R fl f0 H P N sA sB sC A B) (hx:Ext H G):W0R fl f0 G P N sA sB sC A B:=⟨hx.blk h.blk,h.A.mono k0i hx,h.B.mono a0Q hx⟩
theorem v0U.mem {a:f0H} (h:v0U a) {x:Bool × List Nat} (hx:x ∈ a.all):x.2.length≤40:=by
 rcases i1F.1 hx with h1 | h1
 ·exact (h.1 x h1).1
 ·exact (h.2.1 x h1).1
def p0E (fl f0:Nat) (H:a0e) (P N:Nat) (sA sB sC:Value) (A:List (List b0h)) (B:List b0h) (gs:List f0H) (G:a0e):Prop :=
 Oth H P sA sB G∧∃ sA' sB',W0R fl f0 G P N sA' sB' sC (A ++ gs.map fun g=>g.all.map c0E) (B ++ gs.map fun g=>a0f (-vQ g.K))∧(∀ b,slB sA' = some b→slB sA=some b ∨ slB sB=some b ∨ H.size≤b)∧(∀ b,slB sB' = some b→slB sA=some b ∨ slB sB=some b ∨ H.size≤b)
theorem p0E.low {P N f0:Nat} {sA sB sC:Value} {A:List (List b0h)} {B:List b0h} {gs:List f0H} (h:p0E fl f0 H P N sA sB sC A B gs G):H.size≤G.size:=h.1.1
theorem k0C {H0:a0e} {P N f0:Nat} {sA sB sC:Value} {A:List (List b0h)} {B:List b0h} {gs:List f0H} (h0x:Ext H0 H) (h0f:H0.size≤fl) (hf:fl≤H.size) (hf0:f0≤H.size) (hl:h0b H0 u gs) (hP:fl≤P) (hp:W0R fl f0 H P N sA sB sC A B)
  (hsz:gs.length + A.length + B.length < 1073741824) (hg:∀ g ∈ gs,v0U g∧g.all.length < 1073741824) :
  a0S env fl Y0V [.pointer (some ⟨P,0,none⟩),u] H (fun _ H'=>p0E fl f0 H P N sA sB sC A B gs H'∧f0Z fl H H') R:=by
 refine l0W h1b hf (h:=?_)
 intro ρ h0
 have hA0:∀ b,slB sA=some b→fl≤b:=fun b hb=>(hp.A.ge hb).1
 have hB0:∀ b,slB sB=some b→fl≤b:=fun b hb=>(hp.B.ge hb).1
 simp [c1q,Q0o,h0,(hl.mono c0g h0x).slen]
 refine o0r (n:=gs.length) (fun i ρ G=>ρ 0=.pointer (some ⟨P,0,none⟩)∧ρ 9=u∧p0E fl f0 H P N sA sB sC A B (gs.take i) G) rfl rfl (by decide) (by omega) (by simp) (by simp) ?_ ?_ ?_ ?_
 ·exact ⟨by simp [h0],by simp [h0],⟨i1j _,fun _ _ _ _ _=>rfl⟩,sA,sB,by simpa using hp,fun b hb=>.inl hb,fun b hb=>.inr (.inl hb)⟩
 ·intro i ρ ρ' G h hI;simpa [h] using hI
 ·clear h0 ρ
  rintro i ρ G hi gi gn ⟨g0,g9,hO,sA1,sB1,hpb,hA1,hB1⟩
  have hx:=hO.ext h0f hP hA0 hB0 h0x
  have kl:=hl.mono c0g hx
  obtain ⟨we,hle,k0⟩:=h0b.load kl hi
  obtain ⟨sX,sW,s,rfl,kX,kW,kK⟩:=k0
  obtain ⟨⟨hfX,hfW,hfK,hfO⟩,hgl⟩:=hg _ (i1p hi)
  have hGs:=hO.1
  have hflG:fl≤G.size:=i1t hf hGs
  simp [Q0p,Q0q,g9,gi,kl.ia hi,hle,kX.cells,kW.cells,kX.plain,kW.plain,kK.cells,kK.plain,hflG]
  generalize hN:Array.setIfInBounds (Array.push _ _) _ _=G3
  obtain ⟨hx2,b5⟩:=new1 hN
  clear hN
  obtain ⟨P2,hP2⟩:∃ P2,P2=G.size:=⟨_,rfl⟩
  rw [← hP2] at b5 ⊢
  have hp1:=hpb.mono hx2
  replace hO:=hO.step hx2
  replace kX:=kX.mono c0L hx2
  replace kW:=kW.mono c0L hx2
  replace kK:=kK.mono hx2
  clear hx hpb hx2 hP2 hle kl hflG hGs G
  simp [Q0r,b5,kX.cells,kW.cells]
  generalize hN:Array.push G3 _=G4
  obtain ⟨hx2,b6⟩:=g0R hN
  clear hN
  have hall:[gs[i].X,gs[i].W].flatten=gs[i].all:=by simp [f0H.all]
  have hfl4:fl≤G4.size:=i1t hf (i1t hO.1 hx2.1)
  refine (l0F (PIL.two b6 (kX.mono c0L hx2) (kW.mono c0L hx2)) hfl4 (by simp) (by rw [hall];omega)).mono ?_
  rintro c G5 ⟨kc,hx3⟩
  replace hx2:=hx2.trans hx3
  rw [hall] at kc
  replace hp1:=hp1.mono hx2
  replace hO:=hO.step hx2
  replace b5:=hx2.blk b5
  replace kK:=kK.mono hx2
  clear hx3 b6 hx2 hfl4 hall kX kW G4
  have hfl5:fl≤G5.size:=i1t hf hO.1
  have hf5:f0≤G5.size:=i1t hf0 hO.1
  have hfx:∀ x ∈ gs[i].all,x.2.length≤40:=fun x hx=>v0U.mem ⟨hfX,hfW,hfK,hfO⟩ hx
  simp [kc.slen]
  refine c0W (n:=gs[i].all.length) (fun j ρ G=>ρ 0=.pointer (some ⟨P,0,none⟩)∧ρ 9=u∧ρ 10=.int .i64 (gs.length:Int)∧ρ 11=.int .i64 (i:Int)∧ρ 5=.pointer (some ⟨P2,0,none⟩)∧ρ 20=c∧Ext G5 G∧b0d PR G5.size G a0b 4 (ρ 6) ((gs[i].all.map c0E).take j)) rfl rfl (by decide) (by omega) (by simp) (by simp) ?_ ?_ ?_ ?_
  ·exact ⟨by simp [g0],by simp [g9],by simp [gn],by simp [gi],by simp,by simp,Ext.refl _,by simpa using b0d.nil⟩
  ·intro i ρ ρ' G h hI;simpa [h] using hI
  ·clear g0 g9 gi gn ρ
   rintro j ρ G hj gj gm ⟨g0,g9,gn,gi,g5,g20,hx,ho⟩
   obtain ⟨r,g6⟩:∃ r,ρ 6=r:=⟨_,rfl⟩
   rw [g6] at ho
   have kv:=kc.mono c0L hx
   obtain ⟨y,hlx,q1⟩:=e0X.load kv hj
   have hsz:=i1t hfl5 hx.1
   simp [Q0s,g20,gj,kv.ia hj,hlx,q1.cells,q1.plain,hsz]
   generalize hN:Array.setIfInBounds (Array.push _ _) _ _=G6
   obtain ⟨hx2,b6⟩:=new1 hN
   clear hN
   replace ho:=ho.mono a0Q hx2
   replace hx:=hx.trans hx2
   replace q1:=q1.mono hx2
   clear hx2 hlx kv
   simp [Q0t,b6]
   refine (d0H (x:=gs[i].all[j]) ⟨_,rfl,q1⟩ (i1t hfl5 hx.1) (by have:=hfx _ (i1p hj);omega)).mono ?_
   rintro _ G2 ⟨⟨s3,s4,rfl,k3,k4⟩,hx2⟩
   replace ho:=ho.mono a0Q hx2
   replace hx:=hx.trans hx2
   obtain ⟨s',G4,h1,h2,h3,h4⟩:=b0d.appUp (fl:=fl) (P:=PR) (sz:=4) (e:=a0b) (by decide) (fun G' cs x _ hl h=>b0P.lx h hl) ho (e2:=a0b) (c:=1) (bytes:=64) (new:=[.bool (c0E gs[i].all[j]).1.1,s3,.bool (c0E gs[i].all[j]).2.1,s4]) (x:=c0E gs[i].all[j]) ⟨s3,s4,rfl,k3,k4⟩ rfl (by simp [k3.plain,k4.plain]) (by simp;omega) (by omega) (by omega) hfl5 hx.1
   simp [g6,k3.cells,k4.cells,h1]
   exact Rnd.mk (by simp [gj]) (by simp [gm]) ⟨by simp [g0],by simp [g9],by simp [gn],by simp [gi],by simp [g5],by simp [g20],h4 _ (i1j _) hx,b0d.cast (v':=s') (by simp) (by rw [r0t hj];exact h2)⟩
  clear g0 g9 gi gn ρ
  rintro ρ G gz1 gz2 ⟨g0,g9,gn,gi,g5,gz3,hx2,ho⟩
  clear gz1 gz2 gz3
  rw [i1v (by simp)] at ho
  obtain ⟨r,g6⟩:∃ r,ρ 6=r:=⟨_,rfl⟩
  rw [g6] at ho
  have hBlt:∀ b,slB sB1=some b→b < G5.size:=fun b h=>(hp1.B.ge h).2
  obtain ⟨b3,hA,hB⟩:=hp1.mono hx2
  replace b5:=hx2.blk b5
  replace hO:=hO.step hx2
  replace kK:=kK.mono hx2
  have hrB:slB r=none ∨ slB r ≠ slB sB1:=by
   cases hr1:slB r with
   | none=>exact .inl rfl
   | some b =>
    right;intro h
    have:=(ho.ge hr1).1
    have:=hBlt b h.symm
    omega
  have hHG:H.size≤G.size:=hO.1
  have hflG:fl≤G.size:=i1t hf hO.1
  obtain ⟨cr,pr⟩:=ho.cells
  obtain ⟨sA',G6,h1,h2,h3,h4⟩:=b0d.app (P:=PSf f0 (slB sB1)) (sz:=1) (e:=a0M) (by decide)
   (fun G' cs x hxb hl ⟨w',q1,q2,q3,q4⟩=>⟨w',q1,q2.lx2 (hA.lxT (by decide) hxb) hl,q3,q4⟩) hA (e2:=a0M) (c:=1) (bytes:=24) (new:=[r]) (x:=gs[i].all.map c0E) ⟨r,rfl,ho.sls,hrB,fun b hb=>by have:=(ho.ge hb).1;omega⟩ rfl (by simp [pr]) (by simp;omega) (by omega) (by omega) hflG
  obtain ⟨_,_,hAe⟩:=e0y (by decide) h1
  have hlx:=hA.lx (by decide) h3
  have hlr:=hA.lxT (e':=a0b) (by decide) h3
  have nA3:=hA.ne b3 (by decide)
  have nA5:=hA.ne b5 (by decide)
  have hAo:=hA.blkOf
  have c3:=b3
  have hGG:=h3.1
  replace hO:=hO.stepB h3 hA1
  replace b3:=(h3.2 _ (a0i b3) nA3).trans b3
  replace b5:=(h3.2 _ (a0i b5) nA5).trans b5
  replace kK:=kK.lx hlx
  replace hB:=hB.lxm (Q':=PR) hlr (fun cs x h=>b0P.lx h hlx)
  have hfl6:fl≤G6.size:=by omega
  refine c0J ?_
  simp [Q0u,g0,g5,g6,c3,b3,b5,cr,h1]
  clear c3
  refine (e0C (i:=gs[i].K) ⟨_,rfl,kK⟩ (by omega) (by omega)).mono ?_
  rintro _ G7 ⟨⟨s5,rfl,k5⟩,hx3⟩
  have hl5:(a0k (-a0B gs[i].K)).2.length≤40:=by
   have e1:=w0C hfO
   have:lz (-a0B gs[i].K)=lz (a0B gs[i].K):=by unfold lz;rw [Int.natAbs_neg]
   show lz (-a0B gs[i].K)≤40
   omega
  simp
  refine (d0H (x:=a0k (-a0B gs[i].K)) ⟨s5,rfl,k5⟩ (by have:=hx3.1;omega) (by omega)).mono ?_
  rintro _ G8 ⟨⟨s3,s4,rfl,k3,k4⟩,hx4⟩
  replace hx3:=hx3.trans hx4
  clear hx4 k5
  rw [z0H] at k3 k4 ⊢
  replace hO:=hO.step hx3
  replace b3:=hx3.blk b3
  replace b5:=hx3.blk b5
  replace hA:=h2.mono k0i hx3
  replace hB:=hB.mono a0Q hx3
  have hfl8:fl≤G8.size:=by have:=hx3.1;omega
  obtain ⟨sB',G9,p1,p2,p3,p4⟩:=b0d.app (P:=PR) (sz:=4) (e:=a0b) (by decide) (fun G' cs x _ hl h=>b0P.lx h hl) hB (e2:=a0b) (c:=1) (bytes:=64) (new:=[.bool (a0f (-vQ gs[i].K)).1.1,s3,.bool (a0f (-vQ gs[i].K)).2.1,s4]) (x:=a0f (-vQ gs[i].K)) ⟨s3,s4,rfl,k3,k4⟩ rfl (by simp [k3.plain,k4.plain]) (by simp;omega) (by omega) (by omega) hfl8
  obtain ⟨_,_,hBe⟩:=e0y (by decide) p1
  have hlx:=hB.lx (by decide) p3
  have nB3:=hB.ne b3 (by decide)
  have hsBn:slB sB' = some (G8.size + 1):=by rw [hBe];simp [slB]
  have hsAn:slB sA' = some (G.size + 1):=by rw [hAe];simp [slB]
  have hA':b0d (PSf f0 (slB sB')) fl G9 a0M 1 sA' (A ++ (gs.take (i + 1)).map fun g=>g.all.map c0E):=by
   rw [i1B hi,k1K,← k1f]
   refine hA.lxm (hB.lxT (by decide) p3) (fun cs x ⟨w',q1,q2,q3,q4⟩=>⟨w',q1,q2.off p3 q3 hlx,?_,q4⟩)
   cases hw:slB w' with
   | none=>exact .inl rfl
   | some b=>right;rw [hsBn];have:=q2.lt hw;simp;omega
  replace hO:=hO.stepB p3 hB1
  replace b3:=(p3.2 _ (a0i b3) nB3).trans b3
  have hB':b0d PR fl G9 a0b 4 sB' (B ++ (gs.take (i + 1)).map fun g=>a0f (-vQ g.K)):=by rw [i1B hi,k1K,← k1f];exact p2
  obtain ⟨cA,pA⟩:=hA'.cells
  obtain ⟨cB,pB⟩:=hB'.cells
  have hz:=a0i b3
  simp [g0,b3,k3.cells,k4.cells,p1,cA,pA,cB,pB,hP,hz]
  generalize hS1:Array.setIfInBounds G9 P _=G10
  have t1:∀ {e:Nat},b0J ≠ e→LxT e G9 G10:=fun hne=>b0c hS1 b3 hne
  have hbo:∀ x,x ∈ blkW sA1→slB sA1=some x:=by
   rcases hAo with h | ⟨b,h,h'⟩
   ·rw [h];simp
   ·rw [h,h'];simp
  refine ⟨⟨fun x hx h=>nA3 (by rw [hbo x hx,h]),fun x hx h=>nA5 (by rw [hbo x hx,h])⟩,Rnd.mk (by simp [gi]) (by simp [gn]) ⟨by simp [g0],by simp [g9],hO.set hS1,sA',sB',⟨a0v hS1 b3,?_,?_⟩,fun b hb=>.inr (.inr ?_),fun b hb=>.inr (.inr ?_)⟩⟩
  ·exact hA'.lxm (t1 (by decide)) (fun cs x ⟨w',q1,q2,q3,q4⟩=>⟨w',q1,q2.lx2 (t1 (by decide)) (t1 (by decide)),q3,q4⟩)
  ·exact hB'.lxm (t1 (by decide)) (fun cs x h=>b0P.lx h (t1 (by decide)))
  ·rw [hsAn] at hb;cases hb;omega
  ·rw [hsBn] at hb;cases hb;have:=hx3.1;omega
 ·rintro ρ G gi gn ⟨g0,g9,hq⟩
  rw [i1x] at hq
  simp
  exact hq
theorem Sls.lxm {α:Type} {Q Q':a0e→List Value→α→Prop} {e sz:Nat} {l:List α} (h:Sls Q H e sz v l) (h1:LxT e H G) (hQ:∀ cs x,Q H cs x→Q' G cs x):Sls Q' G e sz v l:=by
 obtain ⟨cs,⟨hl,hs⟩,hp⟩:=h
 refine ⟨cs,⟨hl,?_⟩,fun k hk=>hQ _ _ (hp k hk)⟩
 rcases hs with hs | ⟨b,off,cap,ro,cells,rfl,hb,ho,hcs⟩
 ·exact .inl hs
 ·exact .inr ⟨b,off,cap,ro,cells,rfl,h1 _ _ _ hb,ho,hcs⟩
theorem d0l.lxT {C e e':Nat} {ro:Bool} {cs:List Value} (h:d0l (some C) H G) (hb:a0e.blk H C=.row ro e' cs) (hne:e' ≠ e):LxT e H G:=by
 intro b ro' cs' hb'
 rw [h.2 b (a0i hb') (by rintro ⟨⟩;rw [hb] at hb';cases hb';exact hne rfl)];exact hb'
theorem d0l.trans' {o:Option Nat} {G':a0e} (h:d0l o H G) (k:d0l o G G'):d0l o H G' :=
 ⟨i1t h.1 k.1,fun b hb hne=>(k.2 b (by have:=h.1;omega) hne).trans (h.2 b hb hne)⟩
theorem b0d.blkAt {α:Type} {Q:a0e→List Value→α→Prop} {e sz C n k:Nat} {l:List α} (h:b0d Q fl G e sz (.slice (some ⟨C,0,none⟩) n k) l):∃ cs,a0e.blk G C=.row false e cs:=by
 obtain ⟨cs',⟨hl',⟨h1,_⟩ | ⟨b',cap,h1,hp,hf⟩⟩,h2⟩:=h
 ·cases h1
 ·cases h1;exact ⟨_,hp⟩
def n0D (y:List b0h) (set:List f0H) (N i j:Nat):List b0h :=
 (List.range N).map fun q=>a0f (rs (fun t=>b0u (y.getD t c0o) * vQ ((set.getD t aff0).all.getD q iz)) (if q < j then i + 1 else i))
def J0C (y:List b0h) (set:List f0H) (i:Nat):b0h:=a0f (rs (fun t=>b0u (y.getD t c0o) * vQ (set.getD t aff0).K) i)
section
variable {y:List b0h} {set:List f0H} {N i j:Nat}
theorem J0R:(n0D y set N i j).length=N:=by simp [n0D]
theorem w0d (h:j < (n0D y set N i j).length):(n0D y set N i j)[j]=a0f (rs (fun t=>b0u (y.getD t c0o) * vQ ((set.getD t aff0).all.getD j iz)) i):=by
 simp [n0D]
theorem J0S (hj:j < N):(n0D y set N i j).set j (a0f (rs (fun t=>b0u (y.getD t c0o) * vQ ((set.getD t aff0).all.getD j iz)) (i + 1)))=n0D y set N i (j + 1):=by
 apply k1Y
 ·simp [n0D]
 ·intro q h1 h2
  rw [List.getElem_set]
  by_cases hq:j=q
  ·subst hq;simp [n0D]
  ·rw [i1k hq]
   simp only [n0D,j1b,j1U]
   by_cases h3:q < j
   ·rw [i1n h3,i1n (by omega)]
   ·rw [i1k h3,i1k (by omega)]
theorem A0e:n0D y set N i N=n0D y set N (i + 1) 0:=by
 unfold n0D
 refine j1O fun q hq=>?_
 rw [i1n (j1r.1 hq),i1k (by omega)]
theorem A0f:n0D y set N 0 0=List.replicate N (a0f 0):=by
 apply k1Y
 ·simp [n0D]
 ·intro q h1 h2;simp [n0D,rs]
theorem J0Q:n0D y set N set.length 0=(List.range N).map fun j=>a0f (gC y set j):=by
 unfold n0D gC
 refine j1O fun q hq=>?_
 rw [i1k (by omega)]
theorem J0T:J0C y set set.length=a0f (gK y set):=rfl
end
def z0S (H:a0e) (C K N row:Nat) (s sS:Value) (y:List b0h) (set:List f0H) (i:Nat) (ρ:Nat→Value) (G:a0e):Prop :=
 ρ 2=.int .i64 (row:Int)∧ρ 3=.pointer (some ⟨H.size,0,none⟩)∧ρ 7=.pointer (some ⟨H.size + 2,0,none⟩)∧ρ 9=.slice (some ⟨C,0,none⟩) N N∧ρ 11=.pointer (some ⟨K,0,none⟩)∧ρ 37=sS∧Ext H G ∧
  a0e.blk G H.size=.row false a0L [s]∧a0e.blk G (H.size + 2)=.row false a0b [.bool false,.slice none 0 0,.bool false,.slice none 0 0] ∧
  b0d PR (H.size + 3) G a0b 4 (.slice (some ⟨C,0,none⟩) N N) (n0D y set N i 0) ∧
  ∃ s1 s2,a0e.blk G K=.row false a0b [.bool (J0C y set i).1.1,s1,.bool (J0C y set i).2.1,s2]∧Lim G s1 (J0C y set i).1.2∧Lim G s2 (J0C y set i).2.2
def d1k (f0 N:Nat) (y:List b0h) (set:List f0H) (r:Value) (H':a0e):Prop :=
 ∃ c k,r=.tuple #[c,k]∧(∀ b,slB c=some b→f0≤b)∧b0v H' c ((List.range N).map fun j=>a0f (gC y set j))∧b0P H' k (a0f (gK y set))
theorem n0v {rows:List (List b0h)} {e:c0f} {row m:Nat} (ht:d0q H v rows) (he:j0f H w e) (hf:fl≤H.size) (hfe:l0e e) (hm:e.m=(m:Int)) (hrow:row < rows.length) (hy:Few 6 rows[row]) (hyl:rows[row].length=e.set.length) (hal:∀ a ∈ e.set,a.all.length=e.set.length + m) :
  a0S env fl Y0W [v,w,.int .i64 (row:Int)] H (fun r H'=>d1k H.size (e.set.length + m) (rows.getD row []) e.set r H'∧Ext H H') R:=by
 have hyd:rows.getD row []=rows[row]:=b0I hrow
 rw [hyd]
 obtain ⟨y,hyy⟩:∃ y,y=rows[row]:=⟨_,rfl⟩
 obtain ⟨s,rfl,hs⟩:=ht
 obtain ⟨f,t,sG,sS,sP,rfl,hG,hS,hPc,hPp⟩:=he
 have hns:=hfe.ns;have hm3:=hfe.m
 rw [hm] at hm3
 obtain ⟨N,hN⟩:∃ N,N=e.set.length + m:=⟨_,rfl⟩
 rw [← hyy,← hN]
 rw [← hyy] at hy hyl
 rw [← hN] at hal
 refine a0g h1f hf (h:=?_)
 intro ρ h0
 simp [c1r,Q0v,h0,hs.cells,hG.cells,hS.cells,hPc]
 generalize hGG:Array.push (Array.push (Array.push H _) _) _=G
 obtain ⟨hx,b0,b1,b2⟩:=Z0P hGG
 clear hGG
 have hG3:H.size + 3≤G.size:=a0i b2
 simp [Q0w,b1,hS.slen]
 have wr:IntKind.i64.wrap ((e.set.length:Int) + e.m)=(N:Int):=by rw [hm,a0R (by omega) (by omega)];omega
 have hmk:=g0i (bytes:=64) (k:=.i64) (k':=.i64) (l:=N) (c:=N) (i1j _) (by omega) (by omega)
 simp [Q0x,b1,wr,hmk]
 generalize hGG:Array.push G _=G2
 obtain ⟨hx2,b3⟩:=g0R hGG
 clear hGG
 obtain ⟨C,hC⟩:∃ C,C=G.size:=⟨_,rfl⟩
 rw [← hC] at b3 hG3 ⊢
 have hCG:=a0i b3
 replace hx:=hx.trans hx2
 replace b0:=hx2.blk b0
 replace b1:=hx2.blk b1
 replace b2:=hx2.blk b2
 clear hx2 hmk wr hC G
 obtain ⟨hrl1,hrl2⟩:=r0i G2 N
 have hoC:b0d PR (H.size + 3) G2 a0b 4 (.slice (some ⟨C,0,none⟩) N N) (List.replicate N c0o):=⟨_,(Own.mk b3 hrl1 hG3 |> (fun h=>by simpa using h)),fun k hk=>by rw [List.getElem_replicate];exact hrl2 k (by simpa using hk)⟩
 clear hrl1 hrl2 b3
 simp [Q0y,g0Z]
 refine c0W (n:=N) (fun i ρ G=>ρ 2=.int .i64 (row:Int)∧ρ 3=.pointer (some ⟨H.size,0,none⟩)∧ρ 4=.pointer (some ⟨H.size + 1,0,none⟩)∧ρ 7=.pointer (some ⟨H.size + 2,0,none⟩)∧ρ 9=.slice (some ⟨C,0,none⟩) N N∧d0l (some C) G2 G∧b0d PR (H.size + 3) G a0b 4 (.slice (some ⟨C,0,none⟩) N N) (List.replicate i (a0f 0) ++ List.replicate (N - i) c0o)) rfl rfl (by decide) (by omega) (by simp) (by simp) ?_ ?_ ?_ ?_
 ·exact ⟨by simp [h0],by simp,by simp,by simp,by simp,(Ext.refl G2).extB,by simpa using hoC⟩
 ·intro i ρ ρ' G h hI;simpa [h] using hI
 ·clear h0 ρ hoC
  rintro i ρ G hi gi gn ⟨g2,g3,g4,g7,g9,hxb,ho⟩
  have hflG:H.size + 3≤G.size:=by have:=hxb.1;omega
  simp [Q0z,Q0A,gi,g9]
  refine (c0h (n:=0) (by omega) (by decide) (by decide)).mono ?_
  rintro _ G5 ⟨⟨s3,s4,rfl,k3,k4⟩,hx3⟩
  have e0:((0:Int):Rat)=0:=rfl
  rw [e0] at k3 k4 ⊢
  replace ho:=ho.mono a0Q hx3
  replace hxb:=hxb.trans' hx3.extB
  obtain ⟨G6,hst,ho2,hxb2⟩:=b0d.store (j:=i) (x:=a0f 0) (w:=.agg #[.bool (a0f 0).1.1,s3,.bool (a0f 0).2.1,s4]) (ho.low (fl':=H.size) (by omega)) (by simp;omega) (by decide) rfl (by simp [k3.plain,k4.plain]) (fun G' _ hl=>⟨s3,s4,rfl,k3.lx hl,k4.lx hl⟩) (by decide) (fun G' cs y _ hl h=>b0P.lx h hl)
  have hia:iaV 4 (.slice (some ⟨C,0,none⟩) N N) (.int .i64 (i:Int))=some (adr 4 (.slice (some ⟨C,0,none⟩) N N) i):=by
   have:=ho.sls.ia (k:=.i64) (j:=i) (by simp;omega);exact this
  simp [g9,hia,hst]
  refine Rnd.mk (by simp [gi]) (by simp [gn]) ⟨by simp [g2],by simp [g3],by simp [g4],by simp [g7],by simp [g9],hxb.trans' hxb2,?_⟩
  have hset:(List.replicate i (a0f 0) ++ List.replicate (N - i) c0o).set i (a0f 0)=List.replicate (i + 1) (a0f 0) ++ List.replicate (N - (i + 1)) c0o:=by
   rw [show N - i=(N - (i + 1)) + 1 by omega,l1e,List.set_append_right _ _ (by simp),k1J,l1i,List.set_cons_zero,List.replicate_succ',k1f];rfl
  rw [hset] at ho2
  exact ho2.up (fun b hb=>by simp [slB] at hb;omega)
 clear h0 ρ hoC
 rintro ρ G gz1 gz2 ⟨g2,g3,g4,g7,g9,hxb,ho⟩
 clear gz1 gz2
 rw [l1i,List.replicate_zero,List.append_nil,← A0f (y:=y) (set:=e.set)] at ho
 have hxG:=hxb.1
 replace b0:=(hxb.2 _ (by omega) (by simp;omega)).trans b0
 replace b1:=(hxb.2 _ (by omega) (by simp;omega)).trans b1
 replace b2:=(hxb.2 _ (by omega) (by simp;omega)).trans b2
 replace hx:Ext H G:=⟨by omega,fun b hb=>(hxb.2 b (by omega) (by simp;omega)).trans (hx.2 b hb)⟩
 replace hCG:C < G.size:=by omega
 clear hxb hxG G2
 simp [Q0B]
 refine (c0h (n:=0) (by omega) (by decide) (by decide)).mono ?_
 rintro _ G5 ⟨⟨s3,s4,rfl,k3,k4⟩,hx3⟩
 have e0:((0:Int):Rat)=0:=rfl
 rw [e0] at k3 k4 ⊢
 replace ho:=ho.mono a0Q hx3
 replace b0:=hx3.blk b0
 replace b1:=hx3.blk b1
 replace b2:=hx3.blk b2
 replace hx:=hx.trans hx3
 replace hCG:C < G5.size:=by have:=hx3.1;omega
 simp [k3.cells,k4.cells,k3.plain,k4.plain,show H.size≤G5.size by omega]
 generalize hGG:Array.setIfInBounds (Array.push _ _) _ _=G6
 obtain ⟨hx2,b4⟩:=new1 hGG
 clear hGG
 obtain ⟨K,hK⟩:∃ K,K=G5.size:=⟨_,rfl⟩
 rw [← hK] at b4 hCG ⊢
 replace ho:=ho.mono a0Q hx2
 replace b0:=hx2.blk b0
 replace b1:=hx2.blk b1
 replace b2:=hx2.blk b2
 replace hx:=hx.trans hx2
 replace k3:=k3.mono hx2
 replace k4:=k4.mono hx2
 clear hx2 hx3 hK G5 G
 simp [Q0C,g4,b1,(hS.mono c0g hx).slen]
 have hfy:∀ j,szR (b0u (y.getD j c0o))≤6 + 6 + 2:=fun j=>by have:=hy.sz j;omega
 refine c0W (n:=e.set.length) (z0S H C K N row s sS y e.set) rfl rfl (by decide) (by omega) (by simp) (by simp) ?_ ?_ ?_ ?_
 ·exact ⟨by simp [g2],by simp [g3],by simp [g7],by simp [g9],by simp,by simp,hx,b0,b2,ho,s3,s4,b4,k3,k4⟩
 ·intro i ρ ρ' G h hI;simpa [z0S,h] using hI
 ·clear g2 g3 g4 g7 g9 ρ b0 b1 b2 b4 k3 k4 ho hx G6
  rintro i ρ G hi gi gn ⟨g2,g3,g7,g9,g11,g37,hx,b0,b2,ho,k1,k2,bK,q1,q2⟩
  have kl:=hS.mono c0g hx
  obtain ⟨we,hle,k0⟩:=h0b.load kl hi
  obtain ⟨sX,sW,sk,rfl,kX,kW,kK⟩:=k0
  have hfa:=hfe.set _ (i1p hi)
  have hal':=hal _ (i1p hi)
  have hKl:=a0i bK
  simp [H0I,g37,gi,kl.ia hi,hle,kX.cells,kW.cells,kX.plain,kW.plain,kK.cells,kK.plain,show H.size≤G.size by omega]
  generalize hGG:Array.setIfInBounds (Array.push _ _) _ _=G3
  obtain ⟨hx2,b5⟩:=new1 hGG
  clear hGG
  obtain ⟨P,hP⟩:∃ P,P=G.size:=⟨_,rfl⟩
  rw [← hP] at b5 hKl ⊢
  replace ho:=ho.mono a0Q hx2
  replace b0:=hx2.blk b0
  replace b2:=hx2.blk b2
  replace bK:=hx2.blk bK
  replace hx:=hx.trans hx2
  replace q1:=q1.mono hx2
  replace q2:=q2.mono hx2
  replace kX:=kX.mono c0L hx2
  replace kW:=kW.mono c0L hx2
  replace kK:=kK.mono hx2
  have hPl:=a0i b5
  clear hx2 hle kl hP G
  obtain ⟨wr,hlr,kr⟩:=e0Y.load (hs.mono d0A hx) hrow
  rw [← hyy] at kr
  have hiy:i < y.length:=by omega
  obtain ⟨x,hlx,k0⟩:=b0v.load kr hiy
  obtain ⟨y1,y2,rfl,p1,p2⟩:=id k0
  simp [H0J,g2,g3,b0,(hs.mono d0A hx).ia hrow,hlr,kr.ia hiy,hlx,p1.cells,p1.plain,p2.cells,p2.plain,show H.size≤G3.size by omega]
  generalize hGG:Array.setIfInBounds (Array.push _ _) _ _=G4
  obtain ⟨hx2,b6⟩:=new1 hGG
  clear hGG
  obtain ⟨P2,hP2⟩:∃ P2,P2=G3.size:=⟨_,rfl⟩
  rw [← hP2] at b6 hPl ⊢
  replace ho:=ho.mono a0Q hx2
  replace b0:=hx2.blk b0
  replace b2:=hx2.blk b2
  replace bK:=hx2.blk bK
  replace b5:=hx2.blk b5
  replace hx:=hx.trans hx2
  replace q1:=q1.mono hx2
  replace q2:=q2.mono hx2
  replace kX:=kX.mono c0L hx2
  replace kW:=kW.mono c0L hx2
  replace kK:=kK.mono hx2
  replace p1:=p1.mono hx2
  replace p2:=p2.mono hx2
  have hP2l:=a0i b6
  clear hx2 hlr hlx kr k0 hP2 G3
  simp [H0K,b5,kX.cells,kW.cells]
  generalize hGG:Array.push G4 _=G5
  obtain ⟨hx2,b7⟩:=g0R hGG
  clear hGG
  have hall:[e.set[i].X,e.set[i].W].flatten=e.set[i].all:=by simp [f0H.all]
  refine (l0F (PIL.two b7 (kX.mono c0L hx2) (kW.mono c0L hx2)) (by have:=hx2.1;omega) (by simp) (by rw [hall];omega)).mono ?_
  rintro c G6 ⟨kc,hx3⟩
  replace hx2:=hx2.trans hx3
  rw [hall] at kc
  replace ho:=ho.mono a0Q hx2
  replace b0:=hx2.blk b0
  replace b2:=hx2.blk b2
  replace bK:=hx2.blk bK
  replace b5:=hx2.blk b5
  replace b6:=hx2.blk b6
  replace hx:=hx.trans hx2
  replace q1:=q1.mono hx2
  replace q2:=q2.mono hx2
  replace kK:=kK.mono hx2
  replace p1:=p1.mono hx2
  replace p2:=p2.mono hx2
  replace hP2l:=a0i b6
  clear hx3 b7 hx2 hall kX kW G5
  simp [kc.slen]
  obtain ⟨csC,bC⟩:=ho.blkAt
  have hya:=hy _ (i1p hiy)
  have hyv:y.getD i c0o=y[i]:=b0I hiy
  have hsv:e.set.getD i aff0=e.set[i]:=b0I hi
  refine c0W (n:=e.set[i].all.length) (fun j ρ G=>ρ 2=.int .i64 (row:Int)∧ρ 3=.pointer (some ⟨H.size,0,none⟩)∧ρ 7=.pointer (some ⟨H.size + 2,0,none⟩)∧ρ 9=.slice (some ⟨C,0,none⟩) N N∧ρ 11=.pointer (some ⟨K,0,none⟩)∧ρ 37=sS∧ρ 38=.int .i64 (e.set.length:Int)∧ρ 39=.int .i64 (i:Int)∧ρ 13=.pointer (some ⟨P,0,none⟩)∧ρ 14=.pointer (some ⟨P2,0,none⟩)∧ρ 57=c∧d0l (some C) G6 G∧b0d PR (H.size + 3) G a0b 4 (.slice (some ⟨C,0,none⟩) N N) (n0D y e.set N i j)) rfl rfl (by decide) (by omega) (by simp) (by simp) ?_ ?_ ?_ ?_
  ·exact ⟨by simp [g2],by simp [g3],by simp [g7],by simp [g9],by simp [g11],by simp [g37],by simp [gn],by simp [gi],by simp,by simp,by simp,(Ext.refl _).extB,ho⟩
  ·intro i ρ ρ' G h hI;simpa [h] using hI
  ·clear g2 g3 g7 g9 g11 g37 gn gi ho ρ
   rintro j ρ G hj gj gm ⟨g2,g3,g7,g9,g11,g37,gn,gi,g13,g14,g57,hxb,ho⟩
   have kcj:e0X G c e.set[i].all:=kc.lxm (hxb.lxT bC (by decide)) (fun cs x h=>h.lx (hxb.lxT bC (by decide)))
   replace b6:=(hxb.2 P2 hP2l (by simp;omega)).trans b6
   replace p1:=p1.lx (hxb.lxT bC (by decide))
   replace p2:=p2.lx (hxb.lxT bC (by decide))
   have hG6:=hxb.1
   obtain ⟨w',hlw,r1⟩:=e0X.load kcj hj
   have hflG:H.size + 3≤G.size:=by omega
   simp [H0L,g57,gj,kcj.ia hj,hlw,r1.cells,r1.plain,show H.size≤G.size by omega]
   generalize hGG:Array.setIfInBounds (Array.push _ _) _ _=G7
   obtain ⟨hx2,b8⟩:=new1 hGG
   clear hGG
   replace ho:=ho.mono a0Q hx2
   replace b6:=hx2.blk b6
   replace p1:=p1.mono hx2
   replace p2:=p2.mono hx2
   replace r1:=r1.mono hx2
   have hG7:=hx2.1
   replace hxb:=hxb.trans' hx2.extB
   clear hx2 kcj hlw
   have hjN:j < N:=by omega
   have hjl:j < (n0D y e.set N i j).length:=by rw [J0R];exact hjN
   have hia:iaV 4 (.slice (some ⟨C,0,none⟩) N N) (.int .i64 (j:Int))=some (adr 4 (.slice (some ⟨C,0,none⟩) N N) j):=ho.sls.ia hjl
   obtain ⟨xc,hlc,kc0⟩:=b0v.load ho.sls hjl
   have hav:e.set[i].all.getD j iz=e.set[i].all[j]:=b0I hj
   have hxa:=(hfe.at i).all j
   rw [hsv,hav] at hxa
   have hgc:=hfe.gC hy j i (by omega)
   have hxl:=v0U.mem hfa (i1p hj)
   have hm1:=g0C (b0u y[i]) (vQ e.set[i].all[j])
   have hy1:=hy.sz i
   rw [hyv] at hy1
   refine a0G ?_
   simp [H0M,g9,g14,hia,hlc,b6,b8]
   refine (d0H (x:=e.set[i].all[j]) ⟨_,rfl,r1⟩ (by omega) (by omega)).mono ?_
   rintro _ G8 ⟨⟨s3,s4,rfl,k3,k4⟩,hx3⟩
   have hG8:=hx3.1
   simp
   refine (f0w (a:=y[i]) (b:=c0E e.set[i].all[j]) ⟨y1,y2,rfl,p1.mono hx3,p2.mono hx3⟩ ⟨s3,s4,rfl,k3,k4⟩ (by omega) (by omega) (by unfold c0E;rw [a0J];omega)).mono ?_
   rintro _ G9 ⟨km,hx4⟩
   have hG9:=hx4.1
   replace hx3:=hx3.trans hx4
   clear hx4 k3 k4
   have hvw:b0u (c0E e.set[i].all[j])=vQ e.set[i].all[j]:=by unfold c0E;rw [a0w]
   rw [hvw] at km
   simp
   refine (b0E (kc0.mono hx3) km (by omega) (by rw [w0d,a0J];omega) (by rw [a0J];omega)).mono ?_
   rintro _ G10 ⟨⟨s3,s4,rfl,k3,k4⟩,hx4⟩
   have hG10:=hx4.1
   replace hx3:=hx3.trans hx4
   obtain ⟨Z,hZ⟩:∃ Z,Z=rs (fun t=>b0u (y.getD t c0o) * vQ ((e.set.getD t aff0).all.getD j iz)) (i + 1):=⟨_,rfl⟩
   have key:b0u (n0D y e.set N i j)[j] + b0u (a0f (b0u y[i] * vQ e.set[i].all[j]))=Z:=by
    rw [hZ]
    rw [w0d,a0w,a0w,rs,hyv,hsv,hav]
   rw [key] at k3 k4 ⊢
   replace ho:=ho.mono a0Q hx3
   replace hxb:=hxb.trans' hx3.extB
   obtain ⟨G11,hst,ho2,hxb2⟩:=b0d.store (j:=j) (x:=a0f Z) (w:=.agg #[.bool (a0f Z).1.1,s3,.bool (a0f Z).2.1,s4]) (ho.low (fl':=H.size) (by omega)) hjl (by decide) rfl (by simp [k3.plain,k4.plain]) (fun G' _ hl=>⟨s3,s4,rfl,k3.lx hl,k4.lx hl⟩) (by decide) (fun G' cs y _ hl h=>b0P.lx h hl)
   simp [hia,hst]
   rw [hZ,J0S hjN] at ho2
   exact Rnd.mk (by simp [gj]) (by simp [gm]) ⟨by simp [g2],by simp [g3],by simp [g7],by simp [g9],by simp [g11],by simp [g37],by simp [gn],by simp [gi],by simp [g13],by simp [g14],by simp [g57],hxb.trans' hxb2,ho2.up (fun b hb=>by simp [slB] at hb;omega)⟩
  clear g2 g3 g7 g9 g11 g37 gn gi ho ρ
  rintro ρ G gz1 gz2 ⟨g2,g3,g7,g9,g11,g37,gn,gi,g13,g14,gz3,hxb,ho⟩
  clear gz1 gz2 gz3
  rw [hal',A0e] at ho
  have t1:∀ {e:Nat},a0b ≠ e→LxT e G6 G:=fun hne=>hxb.lxT bC hne
  have hG6:=hxb.1
  replace hx:Ext H G:=⟨by omega,fun b hb=>(hxb.2 b (by omega) (by simp;omega)).trans (hx.2 b hb)⟩
  replace b0:=(hxb.2 _ (by omega) (by simp;omega)).trans b0
  replace b2:=(hxb.2 _ (by omega) (by simp;omega)).trans b2
  replace bK:=(hxb.2 K (by omega) (by simp;omega)).trans bK
  replace b5:=(hxb.2 P (by omega) (by simp;omega)).trans b5
  replace b6:=(hxb.2 P2 (by omega) (by simp;omega)).trans b6
  replace p1:=p1.lx (t1 (by decide))
  replace p2:=p2.lx (t1 (by decide))
  replace q1:=q1.lx (t1 (by decide))
  replace q2:=q2.lx (t1 (by decide))
  replace kK:=kK.lx (t1 (by decide))
  clear t1 hxb bC kc
  have hxa:=M0J.sz (k:=40) hfa.2.2.1 hfa.2.2.2
  have hgk:=hfe.gK hy i (by omega)
  have hm1:=g0C (b0u y[i]) (vQ e.set[i].K)
  have hy1:=hy.sz i
  rw [hyv] at hy1
  have hfk:=hfa.2.2.1
  refine a0G ?_
  simp [H0N,g11,g13,g14,bK,b5,b6]
  refine (d0H (x:=e.set[i].K) ⟨_,rfl,kK⟩ (by omega) (by omega)).mono ?_
  rintro _ G8 ⟨⟨s3,s4,rfl,k3,k4⟩,hx3⟩
  have hG8:=hx3.1
  simp
  refine (f0w (a:=y[i]) (b:=c0E e.set[i].K) ⟨y1,y2,rfl,p1.mono hx3,p2.mono hx3⟩ ⟨s3,s4,rfl,k3,k4⟩ (by omega) (by omega) (by unfold c0E;rw [a0J];omega)).mono ?_
  rintro _ G9 ⟨km,hx4⟩
  have hG9:=hx4.1
  replace hx3:=hx3.trans hx4
  clear hx4 k3 k4
  have hvw:b0u (c0E e.set[i].K)=vQ e.set[i].K:=by unfold c0E;rw [a0w]
  rw [hvw] at km
  simp
  refine (b0E (a:=J0C y e.set i) ⟨k1,k2,rfl,q1.mono hx3,q2.mono hx3⟩ km (by omega) (by unfold J0C;rw [a0J];omega) (by rw [a0J];omega)).mono ?_
  rintro _ G10 ⟨⟨s3,s4,rfl,k3,k4⟩,hx4⟩
  have hG10:=hx4.1
  replace hx3:=hx3.trans hx4
  have key:a0f (b0u (J0C y e.set i) + b0u (a0f (b0u y[i] * vQ e.set[i].K)))=J0C y e.set (i + 1):=by
   unfold J0C
   rw [a0w,a0w,rs,hyv,hsv]
  rw [key] at k3 k4 ⊢
  replace ho:=ho.mono a0Q hx3
  replace hx:=hx.trans hx3
  replace b0:=hx3.blk b0
  replace b2:=hx3.blk b2
  replace bK:=hx3.blk bK
  have hKl':=a0i bK
  simp [g11,bK,k3.cells,k4.cells,k3.plain,k4.plain,show H.size≤K by omega]
  generalize hS1:Array.setIfInBounds G10 K _=G11
  have t1:∀ {e:Nat},a0b ≠ e→LxT e G10 G11:=fun hne=>b0c hS1 bK hne
  refine Rnd.mk (by simp [gi]) (by simp [gn]) ⟨by simp [g2],by simp [g3],by simp [g7],by simp [g9],by simp [g11],by simp [g37],a0Y hS1 hx (by omega),a0p hS1 b0 (by omega),a0p hS1 b2 (by omega),?_,s3,s4,a0v hS1 bK,k3.lx (t1 (by decide)),k4.lx (t1 (by decide))⟩
  have hxb:d0l (some K) G10 G11:=by
   rw [← hS1]
   exact ⟨by simp,fun b hb hne=>a0W (by rintro rfl;exact hne rfl)⟩
  exact ho.off hxb (by right;simp [slB];omega) (fun cs x h=>b0P.lx h (t1 (by decide)))
 ·clear g2 g3 g4 g7 g9 ρ b0 b1 b2 b4 k3 k4 ho hx G6
  rintro ρ G gi gn ⟨g2,g3,g7,g9,g11,g37,hx,b0,b2,ho,k1,k2,bK,q1,q2⟩
  rw [J0Q] at ho
  rw [J0T] at bK q1 q2
  have kC:=ho.sls
  refine a0G ?_
  have hz:=a0i b2
  simp [H0O,g9,g11,g7,bK,b2,q1.cells,q2.cells,q1.plain,q2.plain,hz]
  generalize hS1:Array.setIfInBounds G _ _=G11
  have t1:∀ {e:Nat},a0b ≠ e→LxT e G G11:=fun hne=>b0c hS1 b2 hne
  have hxb:d0l (some (H.size + 2)) G G11:=by
   rw [← hS1]
   exact ⟨by simp,fun b hb hne=>a0W (by rintro rfl;exact hne rfl)⟩
  refine fun _=>⟨_,_,rfl,fun b hb=>by have:=(ho.ge hb).1;omega,(ho.off hxb (by right;simp [slB];omega) (fun cs x h=>b0P.lx h (t1 (by decide)))).sls,k1,k2,rfl,q1.lx (t1 (by decide)),q2.lx (t1 (by decide))⟩
end
end Go.Proofs.YtilekhkgobmolaaGreat.AI
