/- Part 11 of the proof: AiSz9, AiRefA2, AiRefA3, AiRefA4, AiRefA5, AiRefA6, AiRefA7, AiRefA8, AiRefA9, AiRefB1, AiRefB2, AiRefB3, AiRefB4, AiRefB9, AiRefB5, AiRefB6, AiRefB7, AiRefB8, AiRefC1, AiT1, AiBox1, AiOpt1, AiTr1, AiTr2, AiTr4, AiTr5, AiTr6, AiTr7, AiTr8, AiTr9, AiTr10, AiTr11, AiTr12. -/
import Derived.Test.YtilekhkgobmolaaGreatM05
import Derived.Test.YtilekhkgobmolaaGreatM06
import Derived.Test.YtilekhkgobmolaaGreatM07
import Derived.Test.YtilekhkgobmolaaGreatM09
set_option linter.unusedVariables false
set_option linter.unusedSimpArgs false
set_option linter.unusedSectionVars false
namespace Go.Proofs.YtilekhkgobmolaaGreat.AI
section
open Go SX
set_option maxHeartbeats 4000000
variable {fl:Nat} {H G:a0e} {R:a0u} {v w u:Value}
theorem e0n.mono {rows:List (List b0k)} (h:e0n H v rows) (hx:Ext H G):e0n G v rows:=by
 obtain ⟨s,h1,h2⟩:=h;exact ⟨s,h1,h2.mono d0O hx⟩
theorem G0x {S:Nat} {r:List b0k} (h:Few S r) (hS:1≤S):Few S (g0Z r):=by
 intro x hx
 obtain ⟨y,hy,rfl⟩:=a1z.1 hx
 obtain ⟨h1,h2,h3⟩:=h y hy
 have:=d0s h2 h3
 exact ⟨by rw [a0x];omega,b0H _,b0H _⟩
theorem g0R:∀ {rows:List (List b0k)} {d:List c0c},(d0e rows d).length=(d0d rows d).length
 | [],d=>by simp [d0d,d0e]
 | _ :: _,[]=>by simp [d0d,d0e]
 | r :: rs,e :: es=>by simp only [d0d,d0e];split <;> simp [g0R]
def G0T (rows:List (List b0k)) (n:Int) (d:List c0c):LPt:=⟨n,d0d rows d,d0e rows d,List.replicate n.toNat (a0f 0)⟩
def I0E (a:m0B) (W:Nat):Prop:=(∀ x ∈ a.X,szR x≤W)∧∀ y ∈ a.Y,szR y≤W
theorem p0U.szA {p:LPt} {q:ScT} {n m S K:Nat} (h:p0N p n m S) (hq:p0U p q n m K) (r c:Nat):lz (Tf q.A r c)≤K:=by
 unfold Tf
 by_cases hr:r < q.A.length
 ·have hW:=(hq.rows r (by rw [← hq.qA];exact hr)).szz
  by_cases hc:c < (q.A.getD r []).length
  ·rw [b0F hc];exact hW _ (Z0M _)
  ·rw [Z0C (l:=q.A.getD r []),Z0P (by omega)];show lz 0≤_;rw [c0v];omega
 ·have:q.A.getD r []=[]:=by rw [Z0C,Z0P (by omega)];rfl
  rw [this];show lz 0≤_;rw [c0v];omega
theorem v0y {t D:Int} {b c:Rat} {Z K:Nat} (h1:lz t≤Z) (h2:lz D≤Z) (h3:szR b≤K) (h4:szR c≤K):szR (Rat.divInt t D * b / c)≤Z + 1 + K + K:=by
 have a1:=b0L t D
 have a2:=f0J (Rat.divInt t D) b
 have a3:=P0R (Rat.divInt t D * b) c
 omega
theorem S0B {m n Z:Nat} {T:Nat→Nat→Int} {base:Nat→Nat} {D:Int} {x:Rat} (z1:∀ r c,r < m + 2→c≤2 * n + m→lz (T r c)≤Z) (z2:lz D≤Z) (hx:x ∈ (List.range n).map fun k=>Rat.divInt (ptq n base (fun i=>T i (2 * n + m)) m k) D):szR x≤Z + m + 1:=by
 obtain ⟨k,_,rfl⟩:=a1z.1 hx
 have e1:=b0L (ptq n base (fun i=>T i (2 * n + m)) m k) D
 have e2:=m0Q (n:=n) (base:=base) (Fv:=fun i=>T i (2 * n + m)) (k:=k) (q:=m) (fun i hi=>z1 i (2 * n + m) (by omega) (Z0E _))
 omega
theorem T0w {p:LPt} {q:ScT} {n m S K:Nat} {a:m0B} (h:p0N p n m S) (hq:p0U p q n m K) (hK:1≤K) (hs:T0F q n m a ∨ T0E q p.C n m a ∨ T0G q n m a):I0E a ((m + 2) * (K + m + 2) + 1 + m + 1 + K + K):=by
 have hb:∀ i,i < m→szR (q.bs.getD i 0)≤K:=fun i hi=>(hq.rows i (by rw [h.pA];exact hi)).szb
 rcases hs with ⟨T,base,D,hT,h1,h2,h3,h4,h5,h6,h7⟩ | ⟨T,base,D,hT,h1,h2,h3,h4,h5,h6,h7⟩ | ⟨T,base,D,j,hT,h1,h2,h3,h4,h5,h6,h7,h8,h9⟩ <;> obtain ⟨z1,z2⟩:=I0X (hq.szA h) hq.szC h.m1 hT
 ·refine ⟨fun x hx=>by rw [h3] at hx;simp at hx,fun y hy=>?_⟩
  rw [h7] at hy
  obtain ⟨i,hi,rfl⟩:=a1z.1 hy
  have hi:=a1G.1 hi
  have:=v0y (z1 m (2 * n + i) (by omega) (by omega)) z2 (hb i hi) (show szR 1≤K by rw [p0I];exact hK)
  omega
 ·refine ⟨fun x hx=>?_,fun y hy=>?_⟩
  ·rw [h5] at hx
   have:=S0B z1 z2 hx;omega
  ·rw [h6] at hy
   obtain ⟨i,hi,rfl⟩:=a1z.1 hy
   have hi:=a1G.1 hi
   have:=v0y (z1 (m + 1) (2 * n + i) (by omega) (by omega)) z2 (hb i hi) hq.cost.szb
   omega
 ·refine ⟨fun x hx=>?_,fun y hy=>by rw [h3] at hy;simp at hy⟩
  rw [h8] at hx
  have:=S0B z1 z2 hx;omega
theorem x0i.none {rows:List (List b0k)} {n:Int} {d:List c0c} {m:Nat} {a:m0B} (h:x0i (G0T rows n d) n.toNat m a):False:=by
 have h1:=h.CR
 have h2:rs (fun k=>pC (G0T rows n d) k * a.Ray.getD k 0) n.toNat=rs (fun _=>0 * 0) n.toNat:=b0E fun k hk=>by
  have h3:pC (G0T rows n d) k=0:=by
   unfold pC G0T
   rw [Z0C]
   simp [hk,a0s]
  rw [h3,b1E,b1E]
 rw [h2,h0l,Rat.mul_zero] at h1
 exact Z0T h1 (Rat.lt_irrefl)
def V0n:Value:=.agg #[.int .i64 0,.bool false,.slice none 0 0,.bool false,.slice none 0 0,.slice none 0 0,.slice none 0 0,.slice none 0 0]
end
section
open Go
set_option maxHeartbeats 4000000
variable {fl:Nat} {H G:a0e} {R:a0u} {v w:Value} {a b:List Nat}
end
section
open Go
set_option maxHeartbeats 4000000
variable {fl:Nat} {H G:a0e} {R:a0u} {v w:Value} {i j:Bool × List Nat}
end
section
open Go
set_option maxHeartbeats 4000000
variable {fl:Nat} {H G:a0e} {R:a0u} {v w:Value}
theorem d0w {n:Int} (hf:fl≤H.size) (h1:-9223372036854775808≤n) (h2:n < 9223372036854775808):a0V env fl F0N [.int .i64 n] H (fun r H'=>b0q H' r (a0l n)∧Ext H H') R:=by
 refine a0k Y0x hf (h:=?_)
 intro ρ h0
 have e1:0≤n→IntKind.u64.wrap n=((n.natAbs:Nat):Int):=fun _=>by rw [a0N];omega
 have e2:n < 0→IntKind.u64.wrap (-IntKind.u64.wrap n)=((n.natAbs:Nat):Int):=fun _=>by rw [a0N,a0N];omega
 obtain ⟨m,hm⟩:∃ m,n.natAbs=m:=⟨_,rfl⟩
 rw [hm] at e1 e2
 have hm2:m < 18446744073709551616:=by omega
 simp [U0s,J0x,h0]
 generalize hG:Array.push H _=G
 obtain ⟨hx2,b0⟩:=h0K hG
 have hx:=Ext.refl H
 clear hG
 replace hx:=hx.trans hx2
 have q1:IntKind.u32.wrap ((m:Int))=((m % 4294967296:Nat):Int):=by rw [p0M];omega
 have q2:IntKind.u32.wrap (((m / 4294967296:Nat):Int))=((m / 4294967296:Nat):Int):=by rw [p0M];omega
 have q3:d0I 0 .shr (.int .u64 (m:Int)) (.int .u64 32)=some (.int .u64 ((m / 2 ^ 32:Nat):Int)):=P0F (s:=32) (by omega)
 have q4:m / 2 ^ 32=m / 4294967296:=rfl
 rw [q4] at q3
 by_cases hn:n < 0
 ·simp [-Int.natCast_emod,-Int.natCast_ediv,E0j,E0k,J0y,E0l,h0,hn,e2 hn,q1,q2,q3]
  generalize hG:Array.push G _=G1
  obtain ⟨hx2,b1⟩:=h0K hG
  clear hG
  replace b0:=hx2.blk b0;replace hx:=hx.trans hx2
  have hl:Lim G1 (.slice (some ⟨Array.size G,0,none⟩) 2 2) [m % 4294967296,m / 4294967296]:=by
   refine ⟨(Own.mk (fl:=0) (n:=2) (sz:=1) (cs:=d0f [m % 4294967296,m / 4294967296]) ?_ rfl (a1x _)).sl,?_⟩
   ·rw [b1];rfl
   ·intro x hx;simp at hx;omega
  refine (m0X n hl hx.1 (by simp) ?_).mono ?_
  ·have:a0B [m % 4294967296,m / 4294967296]=m:=by simp [a0B];omega
   rw [this]
   simp;omega
  rintro _ G2 ⟨⟨s3,rfl,k5⟩,hx2⟩
  replace b0:=hx2.blk b0;replace b1:=hx2.blk b1;replace hx:=hx.trans hx2
  have hsz:=hx.1
  simp [b0,k5.cells,k5.plain,hsz]
  generalize hS:Array.setIfInBounds G2 _ _=G5
  have hsz:=hx.1;replace k5:=k5.setS hS b0 (by decide);replace hx:=b0J hS hx (by omega);replace b0:=a0M hS b0;clear hS hsz
  simp [b0]
  exact fun _=>⟨s3,rfl,k5⟩
 ·simp [-Int.natCast_emod,-Int.natCast_ediv,E0j,E0k,E0l,h0,hn,e1 (by omega),q1,q2,q3]
  generalize hG:Array.push G _=G1
  obtain ⟨hx2,b1⟩:=h0K hG
  clear hG
  replace b0:=hx2.blk b0;replace hx:=hx.trans hx2
  have hl:Lim G1 (.slice (some ⟨Array.size G,0,none⟩) 2 2) [m % 4294967296,m / 4294967296]:=by
   refine ⟨(Own.mk (fl:=0) (n:=2) (sz:=1) (cs:=d0f [m % 4294967296,m / 4294967296]) ?_ rfl (a1x _)).sl,?_⟩
   ·rw [b1];rfl
   ·intro x hx;simp at hx;omega
  refine (m0X n hl hx.1 (by simp) ?_).mono ?_
  ·have:a0B [m % 4294967296,m / 4294967296]=m:=by simp [a0B];omega
   rw [this]
   simp;omega
  rintro _ G2 ⟨⟨s3,rfl,k5⟩,hx2⟩
  replace b0:=hx2.blk b0;replace hx:=hx.trans hx2
  have hsz:=hx.1
  simp [b0,k5.cells,k5.plain,hsz]
  generalize hS:Array.setIfInBounds G2 _ _=G5
  have hsz:=hx.1;replace k5:=k5.setS hS b0 (by decide);replace hx:=b0J hS hx (by omega);replace b0:=a0M hS b0;clear hS hsz
  simp [b0]
  exact fun _=>⟨s3,rfl,k5⟩
end
section
open Go
set_option maxHeartbeats 4000000
variable {fl:Nat} {H G:a0e} {R:a0u} {v w:Value} {a:b0k}
end
section
open Go
set_option maxHeartbeats 4000000
variable {fl:Nat} {H G:a0e} {R:a0u} {v w:Value} {a b:b0k}
end
section
open Go
set_option maxHeartbeats 4000000
variable {fl:Nat} {H G:a0e} {R:a0u} {v w:Value} {i j:Bool × List Nat}
theorem b0B {n:Int} (hf:fl≤H.size) (h1:-9223372036854775808≤n) (h2:n < 9223372036854775808):a0V env fl y0l [.int .i64 n] H (fun r H'=>b0R H' r (a0f n)∧Ext H H') R:=by
 refine a0k Y0z hf (h:=?_)
 intro ρ h0
 simp [U0u,J0H,J0I,h0]
 generalize hG:Array.push H _=G
 obtain ⟨hx2,b0⟩:=h0K hG
 have hx:=Ext.refl H
 clear hG
 replace hx:=hx.trans hx2
 refine (d0w hx.1 h1 h2).mono ?_
 rintro _ G2 ⟨⟨s1,rfl,k1⟩,hx2⟩
 replace b0:=hx2.blk b0;replace hx:=hx.trans hx2
 simp
 refine (d0w hx.1 (by omega) (by omega)).mono ?_
 rintro _ G2 ⟨⟨s2,rfl,k2⟩,hx2⟩
 replace b0:=hx2.blk b0;replace hx:=hx.trans hx2;replace k1:=k1.mono hx2
 have hsz:=hx.1
 simp [b0,k1.cells,k1.plain,k2.cells,k2.plain,hsz,b0r]
 generalize hS:Array.setIfInBounds G2 _ _=G5
 have hsz:=hx.1;replace k1:=k1.setS hS b0 (by decide);replace k2:=k2.setS hS b0 (by decide);replace hx:=b0J hS hx (by omega);replace b0:=a0M hS b0;clear hS hsz
 simp [b0]
 have hc:a0f (n:Rat)=(a0l n,a0l 1):=by
  unfold a0f;rw [b1X,b1V];rfl
 rw [hc]
 exact fun _=>⟨s1,s2,rfl,k1,k2⟩
end
section
open Go
set_option maxHeartbeats 4000000
variable {fl:Nat} {H G:a0e} {R:a0u} {v w:Value} {a b:b0k}
end
section
open Go
set_option maxHeartbeats 4000000
variable {fl:Nat} {H G:a0e} {R:a0u} {v w:Value} {e f:c0c}
end
section
open Go
set_option maxHeartbeats 4000000
variable {fl:Nat} {H G:a0e} {R:a0u} {v w:Value}
end
section
open Go
set_option maxHeartbeats 4000000
variable {fl:Nat} {H G:a0e} {R:a0u} {v w u:Value}
theorem b0a.app2 {α:Type} {P:a0e→List Value→α→Prop} {e sz:Nat} {l:List α} (he:e ≠ a0m) (hO:∀ G' cs x,c0V (slB v) G G'→Lx G G'→P G cs x→P G' cs x) (h:b0a P fl G e sz v l) {e2 c bytes:Nat} {new1 new2:List Value} {x1 x2:α} (hx1:P G new1 x1) (hx2:P G new2 x2) (hl1:new1.length=sz) (hl2:new2.length=sz) (hp1:new1.all a0q=true) (hp2:new2.all a0q=true) (hn:l.length < 1073741822) (hb:bytes≤1024) (hs:0 < sz) (hfl:fl≤G.size) :
  ∃ v' G',h0g fl (G.push (.row false e2 (new1 ++ new2))) e sz bytes v (.slice (some ⟨G.size,0,none⟩) 2 c)=some (v',G')∧b0a P fl G' e sz v' (l ++ [x1,x2])∧c0V (slB v) G G'∧(∀ H0,H0.size≤fl→Ext H0 G→Ext H0 G'):=by
 obtain ⟨cs,h1,h2⟩:=h
 have hx:Sl (G.push (.row false e2 (new1 ++ new2))) e2 sz (.slice (some ⟨G.size,0,none⟩) 2 c) 2 (new1 ++ new2):=(Own.mk (fl:=0) a0v (by rw [Z0S,hl1,hl2];omega) (a1x _)).sl
 obtain ⟨v',G',a1,a2,a3,a4⟩:=k0p (h1.mono (Ext.push (Ext.refl G))) hx (by rw [b1O,hp1,hp2];rfl) (by omega) hb hs (bytes:=bytes) (by simp;omega)
 have a3':c0V (slB v) G G':=by
  refine ⟨?_,fun b hb hne=>?_⟩
  ·have:=a3.1;simp at this;omega
  ·rw [a3.2 b (by simp;omega) hne,d0q hb]
 have hL:=b0a.lx ⟨cs,h1,h2⟩ he a3'
 refine ⟨v',G',a1,⟨cs ++ (new1 ++ new2),by simpa using a2,fun k hk=>?_⟩,a3',fun H0 k1 k2=>a4 H0 k1 k2.push⟩
 have hcs:=h1.1
 by_cases hkl:k < l.length
 ·have h3:(k + 1) * sz≤l.length * sz:=Z0L _ hkl
  rw [Z0U,a1w] at h3
  rw [a1B hkl,a1J (by omega),a1X (by simp;omega)]
  exact hO _ _ _ a3' hL (h2 k hkl)
 ·by_cases hke:k=l.length
  ·subst hke
   rw [Z0Z (Z0E _),a1J (by omega),a1U (by omega),b1d,a1X (by omega),← hl1,a1a]
   simpa using hO _ _ _ a3' hL hx1
  ·have hke:k=l.length + 1:=by simp at hk;omega
   subst hke
   have e1:(cs ++ (new1 ++ new2)).drop ((l.length + 1) * sz)=new2:=by
    rw [← b1u,List.drop_append,a1U (by rw [Z0S,hcs,hl1,Z0U];omega),b1d,Z0S,hcs,hl1,Z0U]
    simp
   rw [e1,Z0Z (by omega),← hl2,a1a]
   simpa using hO _ _ _ a3' hL hx2
theorem G0G {n:Int}:mn2 true 0 (mn2 false n 6)=max 0 (min n 6):=by
 simp only [mn2,Z0V,a1v,a1p]
 repeat' split
 all_goals omega
theorem m0x {n:Int} (hf:fl≤H.size):a0V env fl R0Q [.int .i64 n] H (fun r H'=>r=.int .i64 (max 0 (min n 6))∧Ext H H') R:=by
 refine a0k Y0I hf (h:=?_)
 intro ρ h0
 simp [U0D,K0l,K0m,h0]
 have h1:r0Z true (.int .i64 0) [.int .i64 (mn2 false n 6)]=some (.int .i64 (max 0 (min n 6))):=by rw [← G0G];rfl
 have h2:r0Z false (.int .i64 n) [.int .i64 6]=some (.int .i64 (mn2 false n 6)):=rfl
 simp [h2,h1]
theorem j0t {n:Nat} {i p k q:Int} (hf:fl≤H.size) (hn:n < 1073741824) (hp1:-9223372036854775808≤p) (hp2:p < 9223372036854775808) (hq1:-9223372036854775808≤q) (hq2:q < 9223372036854775808) :
  a0V env fl Q0o [.int .i64 (n:Int),.int .i64 i,.int .i64 p,.int .i64 k,.int .i64 q] H (fun r H'=>b0a PR H.size H' a0b 4 r ((List.range n).map fun (j:Nat)=>a0f ((if (j:Int)=k then q else if (j:Int)=i then p else 0:Int):Rat))∧Ext H H') R:=by
 refine a0k Y0J hf (h:=?_)
 intro ρ h0
 simp [U0E,K0n,K0o,K0p,h0]
 refine x0w (fun j ρ G=>ρ 0=.int .i64 (n:Int)∧ρ 1=.int .i64 i∧ρ 2=.int .i64 p∧ρ 3=.int .i64 k∧ρ 4=.int .i64 q∧ρ 12=.int .i64 (j:Int)∧Ext H G∧b0a PR H.size G a0b 4 (ρ 11) ((List.range j).map fun (j:Nat)=>a0f ((if (j:Int)=k then q else if (j:Int)=i then p else 0:Int):Rat))) n (by decide) ⟨by simp [h0],by simp [h0],by simp [h0],by simp [h0],by simp [h0],by simp,Ext.refl H,by simpa using b0a.nil⟩ ?_
 clear h0 ρ
 rintro j ρ G hj1 ⟨g0,g1,g2,g3,g4,g12,hx,ho⟩
 obtain ⟨s,g11⟩:∃ s,ρ 11=s:=⟨_,rfl⟩
 rw [g11] at ho
 simp [K0q,g0,g12]
 refine v0E.mk (by simp) (fun hj=>?_) (fun heq=>?_)
 ·obtain ⟨z,hz⟩:∃ z:Int,z=(if (j:Int)=k then q else if (j:Int)=i then p else 0):=⟨_,rfl⟩
  have hz1:-9223372036854775808≤z:=by rw [hz];split;exact hq1;split;exact hp1;omega
  have hz2:z < 9223372036854775808:=by rw [hz];split;exact hq2;split;exact hp2;omega
  have hlist:(List.range (j + 1)).map (fun (j:Nat)=>a0f ((if (j:Int)=k then q else if (j:Int)=i then p else 0:Int):Rat))=(List.range j).map (fun (j:Nat)=>a0f ((if (j:Int)=k then q else if (j:Int)=i then p else 0:Int):Rat)) ++ [a0f (z:Rat)]:=by
   rw [List.range_succ,b1R,List.map_singleton,← hz]
  by_cases h1:(j:Int)=k <;> by_cases h2:(j:Int)=i
  all_goals
   first | rw [Z0I h1] at hz | rw [Z0F h1,Z0I h2] at hz | rw [Z0F h1,Z0F h2] at hz
   subst hz
   try subst h1
   try subst h2
   simp [K0r,K0s,K0t,K0u,K0v,g1,g2,g3,g4,g12, *]
   simp [K0w,g11]
   refine (b0B hx.1 (by omega) (by omega)).mono ?_
   rintro _ G2 ⟨⟨s3,s4,rfl,k3,k4⟩,hx2⟩
   replace hx:=hx.trans hx2
   replace ho:=ho.mono a0I hx2
   try rw [show ((0:Int):Rat)=0 from rfl] at k3 k4 hlist ⊢
   obtain ⟨s',G4,h1,h2,h3,h4⟩:=b0a.app (P:=PR) (sz:=4) (e:=a0b) (by decide) (fun G' cs x _ hl h=>b0R.lx h hl) ho (e2:=a0b) (c:=1) (bytes:=64) ⟨s3,s4,rfl,k3,k4⟩ rfl (by simp [k3.plain,k4.plain]) (by simp;omega) (by omega) (by omega) hx.1
   have k3':=k3.cells;have k4':=k4.cells
   simp [g11,k3',k4',h1]
   unfold I0D
   simp [E0o,g12,i0E (show j < 4611686018427387904 by omega)]
   exact l0V.mk ⟨by simp [g0],by simp [g1],by simp [g2],by simp [g3],by simp [g4],by simp,h4 _ (Z0E _) hx,by rw [hlist];exact b0a.cast (v':=s') (by simp) h2⟩
 ·subst heq
  simp [E0p,g11]
  exact fun _=>ho
theorem b0a.first {α:Type} {P:a0e→List Value→α→Prop} {f0 e sz:Nat} {l:List α} (h:b0a P f0 H e sz v l) {k:IntKind} :
  ∃ v',d0G sz v none (some (.int k l.length)) none=some v'∧b0a P f0 H e sz v' l∧elemOk H e v=true:=by
 obtain ⟨v1,h1,_,h3⟩:=h.sls.first (n:=l.length) (k:=k) (Z0E _)
 refine ⟨v1,h1,?_,h3⟩
 obtain ⟨cs,⟨hl,⟨rfl,h0⟩ | ⟨b,cap,rfl,hb,hf⟩⟩,h2⟩:=h
 ·have:v1=.slice none 0 0:=by
   rw [h0] at h1
   exact (Option.some.inj (h1.symm.trans rfl))
  subst this
  exact ⟨cs,⟨hl,.inl ⟨rfl,h0⟩⟩,h2⟩
 ·unfold d0G at h1
  simp [bnd] at h1
  subst h1
  exact ⟨cs,⟨hl,.inr ⟨b,_,rfl,hb,hf⟩⟩,h2⟩
theorem q0R {f0:Nat} {l:List (List b0k)} (h:b0a PS f0 H a0C 1 v l) (hf:fl≤H.size) (hl:l.length≤40) :
  a0V env fl R0R [v] H (fun r H'=>(∃ s,r=.agg #[s]∧b0a PS f0 H' a0C 1 s l)∧Ext H H') R:=by
 refine a0k Y0K hf (h:=?_)
 intro ρ h0
 have hmn:r0Z false (.int .i64 (l.length:Int)) [.int .i64 40]=some (.int .i64 (l.length:Int)):=by
  have:mn2 false (l.length:Int) 40=l.length:=by
   simp only [mn2,Z0V,a1v]
   split <;> omega
  show some (Value.int IntKind.i64 (mn2 false (l.length:Int) 40))=_
  rw [this]
 obtain ⟨u1,hu1,ku,oku⟩:=(h.mono d0O ((Ext.refl H).push (r:=.row false a0R [.slice none 0 0]))).first (k:=.i64)
 have ku0:=ku.sls
 simp [U0F,K0x,K0y,h0,h.sls.slen,hmn,hu1,oku,ku0.cells,ku0.plain,hf]
 exact ku.lxm (a0X rfl a0v (by decide)) (fun cs x ⟨w',q1,q2⟩=>⟨w',q1,b0y.lx2 q2 (a0X rfl a0v (by decide)) (fun b ro cs h=>a0X (e:=a0m) rfl a0v (by decide) b ro cs h)⟩)
def e0G (n i:Nat) (p:Int):List b0k:=(List.range n).map fun (j:Nat)=>a0f ((if (j:Int) = -1 then 0 else if (j:Int)=(i:Int) then p else 0:Int):Rat)
def b0I (n:Nat):Nat→List (List b0k)
 | 0=>[]
 | i + 1=>b0I n i ++ [e0G n i 1,e0G n i (-1)]
theorem c0T {n:Nat}:∀ i,(b0I n i).length=2 * i
 | 0=>rfl
 | i + 1=>by rw [b0I,Z0S,c0T i];simp;omega
theorem j0N {n:Int} {m:Nat} (hf:fl≤H.size) (hm:max 0 (min n 6)=(m:Int)) :
  a0V env fl O0s [.int .i64 n] H (fun r H'=>(∃ s,r=.agg #[s]∧b0a PS H.size H' a0C 1 s (b0I m m))∧Ext H H') R:=by
 refine a0k Y0y hf (h:=?_)
 intro ρ h0
 simp [U0t,J0z,J0A,h0]
 generalize hN:Array.push H _=G
 obtain ⟨hx,b0⟩:=h0K hN
 clear hN
 refine (m0x hx.1).mono ?_
 rintro _ G2 ⟨rfl,hx2⟩
 rw [hm]
 have hm6:m≤6:=by omega
 replace b0:=hx2.blk b0
 replace hx:=hx.trans hx2
 simp [J0B,J0C]
 refine x0w (fun i ρ G=>ρ 0=.int .i64 (m:Int)∧ρ 2=.pointer (some ⟨H.size,0,none⟩)∧ρ 4=.int .i64 (i:Int)∧Ext H G∧a0e.blk G H.size=.row false a0R [.slice none 0 0]∧b0a PS H.size G a0C 1 (ρ 3) (b0I m i)) m (by decide) ⟨by simp,by simp,by simp,hx,b0,by simpa [b0I] using b0a.nil⟩ ?_
 clear h0 ρ hx b0 hx2
 rintro i ρ G hi1 ⟨g0,g2,g4,hx,b0,ho⟩
 obtain ⟨s,g3⟩:∃ s,ρ 3=s:=⟨_,rfl⟩
 rw [g3] at ho
 simp [J0D,g0,g4]
 refine v0E.mk (by simp) (fun hi=>?_) (fun heq=>?_)
 ·simp [J0E,g0,g3,g4]
  refine (j0t hx.1 (by omega) (by decide) (by decide) (by decide) (by decide)).mono ?_
  rintro wa G2 ⟨oa,hx2⟩
  replace b0:=hx2.blk b0
  replace ho:=ho.mono d0O hx2
  replace hx:=hx.trans hx2
  simp [g0,g4]
  refine (j0t hx.1 (by omega) (by decide) (by decide) (by decide) (by decide)).mono ?_
  rintro wb G3 ⟨ob,hx2⟩
  replace b0:=hx2.blk b0
  replace ho:=ho.mono d0O hx2
  replace oa:=oa.mono a0I hx2
  replace hx:=hx.trans hx2
  have hll:=c0T (n:=m) i
  obtain ⟨s',G4,h1,h2,h3,h4⟩:=b0a.app2 (P:=PS) (sz:=1) (e:=a0C) (by decide) (fun G' cs x hxb hl ⟨w',q1,q2⟩=>⟨w',q1,b0y.lx2 q2 (ho.lxT (by decide) hxb) hl⟩) ho (e2:=a0C) (c:=2) (bytes:=24) (new1:=[wa]) (new2:=[wb]) (x1:=e0G m i 1) (x2:=e0G m i (-1)) ⟨wa,rfl,oa.sls⟩ ⟨wb,rfl,ob.sls⟩ rfl rfl (by simp [oa.sls.plain]) (by simp [ob.sls.plain]) (by omega) (by omega) (by omega) hx.1
  have b0':=(ho.lxT (e':=a0R) (by decide) h3) _ _ _ b0
  simp [g3,oa.sls.cells,ob.sls.cells]
  simp at h1
  simp [h1]
  unfold I0D
  simp [J0F,g4,i0E (show i < 4611686018427387904 by omega)]
  exact l0V.mk ⟨by simp [g0],by simp [g2],by simp,h4 _ (Z0E _) hx,b0',b0a.cast (v':=s') (by simp) h2⟩
 ·subst heq
  simp [J0G,g3]
  refine (q0R ho hx.1 (by rw [c0T];omega)).mono ?_
  rintro _ G2 ⟨⟨s2,rfl,ks⟩,hx2⟩
  replace b0:=hx2.blk b0
  replace hx:=hx.trans hx2
  have hsz:=hx.1
  have ks0:=ks.sls
  simp [g2,b0,ks0.cells,ks0.plain,hsz]
  generalize hS':Array.setIfInBounds G2 _ _=G3
  rw [a0M hS' b0]
  simp
  exact fun _=>ks.lxm (a0X hS' b0 (by decide)) (fun cs x ⟨w',q1,q2⟩=>⟨w',q1,b0y.lx2 q2 (a0X hS' b0 (by decide)) (fun b ro cs h=>a0X (e:=a0m) hS' b0 (by decide) b ro cs h)⟩)
theorem d0U {n:Int} {m:Nat} (hf:fl≤H.size) (hm:max 0 (min n 6)=(m:Int)) :
  a0V env fl O0s [.int .i64 n] H (fun r H'=>e0n H' r (b0I m m)∧Ext H H') R :=
 (j0N hf hm).mono fun r H' ⟨⟨s,h1,h2⟩,h3⟩=>⟨⟨s,h1,h2.sls⟩,h3⟩
end
section
open Go
set_option maxHeartbeats 1000000
theorem N0j {i:Nat} {s:Rat} {f:Nat→Rat}:∀ {n:Nat},rs (fun k=>(if k=i then s else 0) * f k) n=if i < n then s * f i else 0
 | 0=>by simp [rs]
 | n + 1=>by
  rw [rs,N0j]
  by_cases h1:i < n
  ·rw [Z0I h1,Z0F (by omega),Z0I (by omega),b1E,b1D]
  ·by_cases h2:n=i
   ·subst h2;rw [Z0F h1,Z0I rfl,Z0I (by omega),Rat.zero_add]
   ·rw [Z0F h1,Z0F h2,Z0F (by omega),b1E,b1D]
theorem v0s {f g:Nat→Rat}:∀ {n:Nat},rs (fun i=>f i + g i) n=rs f n + rs g n
 | 0=>by rw [rs,rs,rs];grind
 | n + 1=>by rw [rs,rs,rs,v0s];grind
theorem t0q:∀ {n:Nat},rs (fun _=>0) n=0
 | 0=>rfl
 | n + 1=>by rw [rs,t0q];grind
theorem p0D {f:Nat→Nat→Rat} {M:Nat}:∀ {N:Nat},rs (fun i=>rs (fun j=>f i j) M) N=rs (fun j=>rs (fun i=>f i j) N) M
 | 0=>by simp only [rs];rw [t0q]
 | N + 1=>by simp only [rs];rw [p0D,← v0s]
theorem P0D {f g:Nat→Rat}:∀ {n:Nat},(∀ i,i < n→f i≤g i)→rs f n≤rs g n
 | 0,_=>Rat.le_refl
 | n + 1,h=>by
  have h1:=P0D (n:=n) (fun i hi=>h i (by omega))
  have h2:=h n (by omega)
  rw [rs,rs];grind
theorem p0E {f:Nat→Rat} {c:Rat} {n:Nat}:rs (fun i=>c * f i) n=c * rs f n:=by
 rw [Rat.mul_comm,← h0l];exact b0E fun i _=>Rat.mul_comm _ _
theorem x0h.none {p:LPt} {n m:Nat} {a:m0B} (h:x0h p n m a) (x:Nat→Rat):¬ ∀ r,r < m→rs (fun k=>pA p r k * x k) n≤pB p r:=by
 intro hx
 have h1:rs (fun i=>a.Y.getD i 0 * rs (fun k=>pA p i k * x k) n) m≤rs (fun i=>a.Y.getD i 0 * pB p i) m :=
  P0D fun i hi=>Rat.mul_le_mul_of_nonneg_left (hx i hi) (h.Y0 i hi)
 have h2:rs (fun i=>a.Y.getD i 0 * rs (fun k=>pA p i k * x k) n) m=rs (fun k=>rs (fun i=>a.Y.getD i 0 * pA p i k) m * x k) n:=by
  have e1:∀ i,i < m→a.Y.getD i 0 * rs (fun k=>pA p i k * x k) n=rs (fun k=>a.Y.getD i 0 * pA p i k * x k) n:=fun i _=>by
   rw [← p0E];exact b0E fun k _=>by grind
  rw [b0E e1,p0D]
  exact b0E fun k _=>h0l
 have h3:rs (fun k=>rs (fun i=>a.Y.getD i 0 * pA p i k) m * x k) n=0:=by
  rw [b0E (g:=fun _=>0) (fun k hk=>by rw [h.YA k hk,b1E]),t0q]
 rw [h2,h3] at h1
 have:=h.YB
 grind
def bxD (lo hi:Nat→Int):Nat→List c0c
 | 0=>[]
 | i + 1=>bxD lo hi i ++ [(0,a0f (hi i:Int)),(0,a0f ((-lo i:Int):Rat))]
theorem x0C {lo hi:Nat→Int}:∀ i,(bxD lo hi i).length=2 * i
 | 0=>rfl
 | i + 1=>by rw [bxD,Z0S,x0C i];simp;omega
theorem x0D {lo hi:Nat→Int} {e:c0c}:∀ {i},e ∈ bxD lo hi i→∃ k,k < i∧(e=(0,a0f (hi k:Int)) ∨ e=(0,a0f ((-lo k:Int):Rat)))
 | 0,h=>by simp [bxD] at h
 | i + 1,h=>by
  rw [bxD,a1g] at h
  rcases h with h | h
  ·obtain ⟨k,h1,h2⟩:=x0D h;exact ⟨k,by omega,h2⟩
  ·exact ⟨i,by omega,by simpa using h⟩
theorem g0P {n:Nat} {r:List b0k}:∀ {m},r ∈ b0I n m→∃ i,i < m∧(r=e0G n i 1 ∨ r=e0G n i (-1))
 | 0,h=>by simp [b0I] at h
 | m + 1,h=>by
  rw [b0I,a1g] at h
  rcases h with h | h
  ·obtain ⟨k,h1,h2⟩:=g0P h;exact ⟨k,by omega,h2⟩
  ·exact ⟨m,by omega,by simpa using h⟩
theorem P0T {α:Type} {l:List α} {a b d:α} {m k:Nat} (hl:l.length=2 * m) (hk:k < 2):(l ++ [a,b]).getD (2 * m + k) d=if k=0 then a else b:=by
 rw [Z0C,a1u (by omega),hl,show 2 * m + k - 2 * m=k by omega]
 match k,hk with
 | 0,_=>rfl
 | 1,_=>rfl
theorem O0G {α:Type} {l:List α} {a b d:α} {k:Nat} (hk:k < l.length):(l ++ [a,b]).getD k d=l.getD k d:=by
 rw [Z0C,a1q hk,Z0C]
theorem m0L {n i k:Nat} (hk:k < 2):∀ {m:Nat},i < m→(b0I n m).getD (2 * i + k) []=e0G n i (if k=0 then 1 else -1)
 | 0,h=>by omega
 | m + 1,h=>by
  rw [b0I]
  have hl:=c0T (n:=n) m
  by_cases hi:i < m
  ·rw [O0G (by omega),m0L hk hi]
  ·have:i=m:=by omega
   subst this
   rw [P0T hl hk];split <;> rfl
theorem q0v {n i:Nat} {p:Int}:(e0G n i p).length=n:=by unfold e0G;simp
theorem y0w {n i k:Nat} {p:Int} (hk:k < n):(e0G n i p).getD k c0l=a0f (((if k=i then p else 0:Int)):Rat):=by
 unfold e0G
 rw [Z0C]
 simp [hk]
 congr 2
 by_cases h:k=i
 ·rw [Z0I (by omega),Z0I h]
 ·rw [Z0F (by omega),Z0F h]
theorem t0p {n i:Nat} {p:Int} {f:Nat→Rat} (hi:i < n):rs (fun k=>b0A ((e0G n i p).getD k c0l) * f k) n=(p:Rat) * f i:=by
 have h1:=N0j (i:=i) (s:=(p:Rat)) (f:=f) (n:=n)
 rw [Z0I hi] at h1
 rw [← h1]
 refine b0E fun k hk=>?_
 rw [y0w hk,a0s]
 congr 1
 split <;> rfl
theorem r0V {n i:Nat} {p:Int}:∀ x ∈ e0G n i p,∃ y:Rat,x=a0f y:=by
 intro x hx
 unfold e0G at hx
 obtain ⟨k,_,rfl⟩:=a1z.1 hx
 exact ⟨_,rfl⟩
section
variable {n:Nat} {lo hi:Nat→Int}
theorem x0E (hn:n≤6):f0e (b0I n n) n (bxD lo hi n)=true:=by
 have hA:x0b (p0C n) (b0I n n)=true:=a1o.2 fun r hr=>by
  obtain ⟨i,_,h⟩:=g0P hr
  unfold p0C
  have hl:r.length=n:=by rcases h with h | h <;> rw [h,q0v]
  have hm:x0b u0k r=true:=a1o.2 fun x hx=>by
   obtain ⟨y,rfl⟩:∃ y:Rat,x=a0f y:=by rcases h with h | h <;> (rw [h] at hx;exact r0V x hx)
   exact e0z y
  rw [hm,hl];simp
 have hD:f0W (fun e=>!l0U e) (bxD lo hi n)=false:=by
  cases ha:f0W (fun e=>!l0U e) (bxD lo hi n) with
  | false=>rfl
  | true =>
   obtain ⟨e,h1,h2⟩:=List.any_eq_true.1 ha
   obtain ⟨k,_,h | h⟩:=x0D h1 <;> (rw [h] at h2;simp [l0U,e0z] at h2)
 unfold f0e j0C
 rw [hA,hD,c0T,x0C]
 simp
 omega
end
end
section
open Go SX
set_option maxHeartbeats 1000000
def Q0L (p:LPt) (n m:Nat) (z:Nat→Rat):Prop:=∀ r,r < m→rs (fun k=>pA p r k * z k) n≤pB p r
def o0e (p:LPt) (n:Nat) (z:Nat→Rat):Rat:=rs (fun k=>pC p k * z k) n
def N0w (p:LPt) (n m:Nat) (a:m0B):Prop :=
 (a.kind=2∧∀ z,¬ Q0L p n m z) ∨ (a.kind=1∧(∃ z,Q0L p n m z∧o0e p n z=a.V)∧∀ z,Q0L p n m z→o0e p n z≤a.V) ∨ (a.kind=3∧∀ B,∃ z,Q0L p n m z∧B < o0e p n z)
theorem N0i {f g:Nat→Rat} {w:Nat→Rat} {t:Rat} {n:Nat}:rs (fun k=>w k * (f k + t * g k)) n=rs (fun k=>w k * f k) n + t * rs (fun k=>w k * g k) n:=by
 rw [← p0E,← v0s]
 exact b0E fun k _=>by grind
section
variable {p:LPt} {n m:Nat} {a:m0B}
theorem F0Q.opt (h:F0Q p n m a):N0w p n m a:=by
 refine .inr (.inl ⟨h.kind,⟨fun k=>a.X.getD k 0,h.AX,h.V.symm⟩,fun z hz=>?_⟩)
 have h1:o0e p n z=rs (fun k=>rs (fun i=>a.Y.getD i 0 * pA p i k * z k) m) n:=b0E fun k hk=>by
  rw [← h.YA k hk,← h0l]
 rw [h1,p0D]
 have h2:rs (fun i=>rs (fun k=>a.Y.getD i 0 * pA p i k * z k) n) m≤rs (fun i=>a.Y.getD i 0 * pB p i) m:=P0D fun i hi=>by
  have e:rs (fun k=>a.Y.getD i 0 * pA p i k * z k) n=a.Y.getD i 0 * rs (fun k=>pA p i k * z k) n:=by
   rw [← p0E];exact b0E fun k _=>by grind
  rw [e]
  exact Rat.mul_le_mul_of_nonneg_left (hz i hi) (h.Y0 i hi)
 rw [h.YB] at h2
 exact h2
theorem x0h.opt (h:x0h p n m a):N0w p n m a:=.inl ⟨h.kind,fun z hz=>h.none z hz⟩
theorem x0i.opt (h:x0i p n m a):N0w p n m a:=by
 refine .inr (.inr ⟨h.kind,fun B=>?_⟩)
 have hc:=h.CR
 obtain ⟨c,hcd⟩:∃ c,c=rs (fun k=>pC p k * a.Ray.getD k 0) n:=⟨_,rfl⟩
 obtain ⟨x,hxd⟩:∃ x,x=rs (fun k=>pC p k * a.X.getD k 0) n:=⟨_,rfl⟩
 rw [← hcd] at hc
 -- how far
 obtain ⟨t,ht,htB⟩:∃ t:Rat,0≤t∧B < x + t * c:=by
  have hci:c * c⁻¹=1:=Rat.mul_inv_cancel _ (by grind)
  have h1:=inv_pos hc
  by_cases hB:B < x
  ·exact ⟨0,Rat.le_refl,by rw [b1E,b1D];exact hB⟩
  ·refine ⟨(B - x + 1) * c⁻¹,c1e (by grind) (c1w h1),?_⟩
   rw [Rat.mul_assoc,Rat.mul_comm c⁻¹ c,hci,Rat.mul_one];grind
 refine ⟨fun k=>a.X.getD k 0 + t * a.Ray.getD k 0,fun r hr=>?_,?_⟩
 ·rw [N0i]
  have h1:=h.AX r hr
  have h2:=c1e ht (b:=-rs (fun k=>pA p r k * a.Ray.getD k 0) n) (by have:=h.AR r hr;grind)
  grind
 ·unfold o0e
  rw [N0i,← hcd,← hxd];exact htB
end
structure f0v where
 X:List (Bool × List Nat)
 W:List (Bool × List Nat)
 K:Bool × List Nat
structure c0R where
 m:Int
 guards:List f0v
 set:List f0v
def iz:Bool × List Nat:=(false,[])
def aff0:f0v:=⟨[],[],iz⟩
def f0v.all (a:f0v):List (Bool × List Nat):=a.X ++ a.W
def vQ (x:Bool × List Nat):Rat:=((a0P x:Int):Rat)
def c0q (x:Bool × List Nat):b0k:=a0f (vQ x)
def u0r (N:Nat) (r:List b0k):List b0k:=r ++ List.replicate (N - r.length) (a0f 0)
def gC (y:List b0k) (set:List f0v) (j:Nat):Rat:=rs (fun i=>b0A (y.getD i c0l) * vQ ((set.getD i aff0).all.getD j iz)) set.length
def gK (y:List b0k) (set:List f0v):Rat:=rs (fun i=>b0A (y.getD i c0l) * vQ (set.getD i aff0).K) set.length
def c0n (rows:List (List b0k)) (e:c0R) (d:List c0c) (row N:Nat):LPt :=
 ⟨N,(d0d rows d).map (u0r N) ++ e.guards.map fun g=>g.all.map c0q,d0e rows d ++ e.guards.map fun g=>a0f (-vQ g.K),(List.range N).map fun j=>a0f (gC (rows.getD row []) e.set j)⟩
def N0K (a:f0v) (N:Nat) (z:Nat→Rat):Rat:=rs (fun j=>vQ (a.all.getD j iz) * z j) N + vQ a.K
def U0n (r:List b0k) (n:Nat) (z:Nat→Rat):Rat:=rs (fun c=>b0A (r.getD c c0l) * z c) n
def v0M (rows:List (List b0k)) (e:c0R) (d:List c0c) (N:Nat) (z:Nat→Rat):Prop :=
 (∀ x ∈ rows.zip d,x.2.1=0→U0n x.1 e.set.length z≤b0A x.2.2)∧∀ g ∈ e.guards,N0K g N z≤0
def m0p (y:List b0k) (e:c0R) (N:Nat) (z:Nat→Rat):Rat:=rs (fun i=>b0A (y.getD i c0l) * N0K (e.set.getD i aff0) N z) e.set.length
theorem F0J {α β:Type} {P:α→β→Prop} {a0:α} {b0:β}:∀ {A:List α} {B:List β},A.length=B.length→((∀ r,r < A.length→P (A.getD r a0) (B.getD r b0)) ↔ ∀ x ∈ A.zip B,P x.1 x.2)
 | [],[],_=>by simp
 | [],_ :: _,h=>by simp at h
 | _ :: _,[],h=>by simp at h
 | a :: A,b :: B,h=>by
  have ih:=F0J (P:=P) (a0:=a0) (b0:=b0) (A:=A) (B:=B) (by simpa using h)
  constructor
  ·intro h1 x hx
   rcases a1W.1 (by simpa using hx:x ∈ (a,b) :: A.zip B) with rfl | hx
   ·exact h1 0 (by simp)
   ·exact ih.1 (fun r hr=>by have:=h1 (r + 1) (by simpa using hr);simpa using this) x hx
  ·intro h1 r hr
   cases r with
   | zero=>exact h1 (a,b) (by simp)
   | succ r=>simpa using ih.2 (fun x hx=>h1 x (by simp;exact .inr hx)) r (by simpa using hr)
theorem u0t {Q:List b0k→b0k→Prop}:∀ {rows:List (List b0k)} {d:List c0c},(∀ x ∈ (d0d rows d).zip (d0e rows d),Q x.1 x.2) ↔ ∀ x ∈ rows.zip d,x.2.1=0→Q (g0Z x.1) (a0f (b0A x.2.2))
 | [],d=>by simp [d0d,d0e]
 | _ :: _,[]=>by simp [d0d,d0e]
 | r :: rs,e :: es=>by
  have ih:=u0t (Q:=Q) (rows:=rs) (d:=es)
  simp only [d0d,d0e]
  by_cases h:e.1=0
  ·rw [Z0I h,Z0I h]
   simp only [List.zip_cons_cons,a1W,forall_eq_or_imp]
   rw [ih];simp [h]
  ·rw [Z0F h,Z0F h,ih]
   simp only [List.zip_cons_cons,a1W,forall_eq_or_imp]
   simp [h]
theorem N0h {f:Nat→Rat} {n:Nat}:∀ {N:Nat},n≤N→(∀ k,n≤k→k < N→f k=0)→rs f N=rs f n
 | 0,h,_=>by rw [show n=0 by omega]
 | N + 1,h,h0=>by
  by_cases hN:n=N + 1
  ·rw [hN]
  ·rw [rs,N0h (N:=N) (by omega) (fun k h1 h2=>h0 k h1 (by omega)),h0 N (by omega) (by omega),b1D]
theorem G0K {r:List b0k} {k:Nat} (h:k < r.length):b0A ((g0Z r).getD k c0l)=b0A (r.getD k c0l):=by
 unfold g0Z
 rw [b0F (by simpa using h),a1t,a0s,b0F h]
theorem z0g {r:List b0k} {n N:Nat} {z:Nat→Rat} (hr:r.length=n) (hN:n≤N):rs (fun k=>b0A ((u0r N (g0Z r)).getD k c0l) * z k) N=U0n r n z:=by
 have hl:(g0Z r).length=n:=by unfold g0Z;simp [hr]
 rw [N0h hN]
 ·refine b0E fun k hk=>?_
  unfold u0r
  rw [Z0C,a1q (by omega),← Z0C,G0K (by omega)]
 ·intro k h1 h2
  unfold u0r
  rw [Z0C,a1u (by omega),b1H,Z0I (by omega)]
  rw [a1f,a0s,b1E]
theorem N0L {l:List (Bool × List Nat)} {N:Nat} {z:Nat→Rat} (h:l.length=N):rs (fun k=>b0A ((l.map c0q).getD k c0l) * z k) N=rs (fun k=>vQ (l.getD k iz) * z k) N :=
 b0E fun k hk=>by rw [b0F (by simpa using by omega),a1t,b0F (by omega)];unfold c0q;rw [a0s]
section
variable {rows:List (List b0k)} {e:c0R} {d:List c0c} {row N:Nat} {z:Nat→Rat}
theorem G0w (hr:∀ r ∈ rows,r.length=e.set.length) (hN:e.set.length≤N) (hg:∀ g ∈ e.guards,g.all.length=N) :
  Q0L (c0n rows e d row N) N (c0n rows e d row N).A.length z ↔ v0M rows e d N z:=by
 have hl:(c0n rows e d row N).A.length=(c0n rows e d row N).B.length:=by simp [c0n,g0R]
 have h1:=F0J (P:=fun a b=>rs (fun k=>b0A (a.getD k c0l) * z k) N≤b0A b) (a0:=[]) (b0:=c0l) hl
 refine Iff.trans h1 ?_
 unfold c0n v0M
 simp only
 rw [List.zip_append (by simp [g0R])]
 simp only [a1g,or_imp,forall_and]
 refine and_congr ?_ ?_
 ·rw [List.zip_map_left]
  have h2:=u0t (Q:=fun a b=>rs (fun k=>b0A ((u0r N a).getD k c0l) * z k) N≤b0A b) (rows:=rows) (d:=d)
  refine Iff.trans ?_ (Iff.trans h2 ?_)
  ·constructor
   ·intro h x hx;exact h (u0r N x.1,x.2) (a1z.2 ⟨x,hx,rfl⟩)
   ·intro h x hx;obtain ⟨y,hy,rfl⟩:=a1z.1 hx;exact h y hy
  ·constructor
   ·intro h x hx h0
    have:=h x hx h0
    rw [z0g (hr _ (List.of_mem_zip hx).1) hN,a0s] at this;exact this
   ·intro h x hx h0
    rw [z0g (hr _ (List.of_mem_zip hx).1) hN,a0s];exact h x hx h0
 ·rw [List.zip_map']
  have h3:∀ g ∈ e.guards,(rs (fun k=>b0A ((g.all.map c0q).getD k c0l) * z k) N≤b0A (a0f (-vQ g.K)) ↔ N0K g N z≤0):=fun g hg'=>by
   rw [N0L (hg g hg'),a0s];unfold N0K;constructor <;> intro h <;> grind
  constructor
  ·intro h g hg';have h4:=h (g.all.map c0q,a0f (-vQ g.K)) (a1z.2 ⟨g,hg',rfl⟩);exact (h3 g hg').1 h4
  ·intro h x hx;obtain ⟨g,hg',rfl⟩:=a1z.1 hx;exact (h3 g hg').2 (h g hg')
theorem O0u:o0e (c0n rows e d row N) N z + gK (rows.getD row []) e.set=m0p (rows.getD row []) e N z:=by
 have h1:o0e (c0n rows e d row N) N z=rs (fun i=>b0A ((rows.getD row []).getD i c0l) * rs (fun j=>vQ ((e.set.getD i aff0).all.getD j iz) * z j) N) e.set.length:=by
  have e1:o0e (c0n rows e d row N) N z=rs (fun j=>rs (fun i=>b0A ((rows.getD row []).getD i c0l) * vQ ((e.set.getD i aff0).all.getD j iz) * z j) e.set.length) N:=by
   unfold o0e
   refine b0E fun j hj=>?_
   unfold pC c0n
   rw [b0F (by simpa using hj),a1t,b1c,a0s]
   unfold gC;rw [← h0l]
  rw [e1,p0D]
  refine b0E fun i _=>?_
  rw [← p0E];exact b0E fun j _=>by grind
 rw [h1]
 unfold gK m0p
 rw [← v0s]
 exact b0E fun i _=>by unfold N0K;grind
end
def l0Y (rows:List (List b0k)) (e:c0R) (d:List c0c) (row N:Nat) (x:c0c):Prop :=
 (x=(-1,c0l)∧(f0W (fun e=>decide (e.1 < 0)) d=true ∨ ∀ z,¬ v0M rows e d N z)) ∨
 (f0W (fun e=>decide (e.1 < 0)) d=false∧((∃ v,x=(0,a0f v)∧(∃ z,v0M rows e d N z∧m0p (rows.getD row []) e N z=v)∧∀ z,v0M rows e d N z→m0p (rows.getD row []) e N z≤v) ∨
 (x=(1,c0l)∧∀ B,∃ z,v0M rows e d N z∧B < m0p (rows.getD row []) e N z)))
section
variable {rows:List (List b0k)} {e:c0R} {d d':List c0c} {row N:Nat} {x y:c0c} {z:Nat→Rat}
theorem v0C:l0O (-1,c0l)=(-1,0):=by unfold l0O l0U;simp [g0V]
theorem i0C:l0O (1,c0l)=(1,0):=by unfold l0O l0U;simp [g0V]
theorem f0L {v:Rat}:l0O (0,a0f v)=(0,v):=by unfold l0O l0U;simp [e0z,a0s]
theorem l0Y.grows (h:l0Y rows e d row N x) (h':l0Y rows e d' row N y) (hs:∀ z,v0M rows e d N z→v0M rows e d' N z) (hd:f0W (fun e=>decide (e.1 < 0)) d=false→f0W (fun e=>decide (e.1 < 0)) d' = false) :
  ¬ 0 < I0J (l0O x) (l0O y):=by
 have hle:∀ {a b:Rat},¬ b < a→¬ 0 < I0J (0,a) (0,b):=fun h1 h2=>by
  unfold I0J at h2;simp at h2;exact h1 (x0J.1 h2)
 rcases h with ⟨rfl,_⟩ | ⟨h0,h⟩
 ·rw [v0C]
  rcases h' with ⟨rfl,_⟩ | ⟨_,⟨v,rfl,_⟩ | ⟨rfl,_⟩⟩
  ·rw [v0C];decide
  ·rw [f0L];unfold I0J;simp
  ·rw [i0C];decide
 ·have h0':=hd h0
  rcases h with ⟨v,rfl,⟨z,hz,rfl⟩,hm⟩ | ⟨rfl,hu⟩
  ·rw [f0L]
   rcases h' with ⟨rfl,hn | hn⟩ | ⟨_,⟨w,rfl,_,hw⟩ | ⟨rfl,_⟩⟩
   ·rw [h0'] at hn;exact Z0T hn (by decide)
   ·exact Z0T (hs z hz) (hn z)
   ·rw [f0L];exact hle (by have:=hw z (hs z hz);grind)
   ·rw [i0C];unfold I0J;simp
  ·rw [i0C]
   rcases h' with ⟨rfl,hn | hn⟩ | ⟨_,⟨w,rfl,_,hw⟩ | ⟨rfl,_⟩⟩
   ·rw [h0'] at hn;exact Z0T hn (by decide)
   ·obtain ⟨z,hz,_⟩:=hu 0;exact Z0T (hs z hz) (hn z)
   ·obtain ⟨z,hz,hB⟩:=hu w
    have:=hw z (hs z hz);grind
   ·rw [i0C];decide
theorem l0Y.keeps (h:l0Y rows e d row N x) (h0:f0W (fun e=>decide (e.1 < 0)) d=false) (hz:v0M rows e d N z):¬ 0 < I0J (0,m0p (rows.getD row []) e N z) (l0O x):=by
 rcases h with ⟨rfl,hn | hn⟩ | ⟨_,⟨w,rfl,_,hw⟩ | ⟨rfl,_⟩⟩
 ·rw [h0] at hn;exact Z0T hn (by decide)
 ·exact Z0T hz (hn z)
 ·rw [f0L];intro h2
  unfold I0J at h2;simp at h2
  have:=x0J.1 h2;have:=hw z hz;grind
 ·rw [i0C];unfold I0J;simp
theorem l0Y.unique (h:l0Y rows e d row N x) (h':l0Y rows e d row N y):x=y:=by
 rcases h with ⟨rfl,h⟩ | ⟨h0,h⟩ <;> rcases h' with ⟨rfl,h'⟩ | ⟨h0',h'⟩
 ·rfl
 ·rcases h with h | h
  ·rw [h] at h0';exact Z0T h0' (by decide)
  ·rcases h' with ⟨v,_,⟨z,hz,_⟩,_⟩ | ⟨_,hu⟩
   ·exact Z0T hz (h z)
   ·obtain ⟨z,hz,_⟩:=hu 0;exact Z0T hz (h z)
 ·rcases h' with h' | h'
  ·rw [h'] at h0;exact Z0T h0 (by decide)
  ·rcases h with ⟨v,_,⟨z,hz,_⟩,_⟩ | ⟨_,hu⟩
   ·exact Z0T hz (h' z)
   ·obtain ⟨z,hz,_⟩:=hu 0;exact Z0T hz (h' z)
 ·rcases h with ⟨v,rfl,⟨z,hz,rfl⟩,hm⟩ | ⟨rfl,hu⟩ <;> rcases h' with ⟨w,rfl,⟨z',hz',rfl⟩,hm'⟩ | ⟨rfl,hu'⟩
  ·have h1:=hm z' hz';have h2:=hm' z hz
   rw [Rat.le_antisymm h1 h2]
  ·obtain ⟨z',hz',hB⟩:=hu' (m0p (rows.getD row []) e N z);have:=hm z' hz';grind
  ·obtain ⟨z,hz,hB⟩:=hu (m0p (rows.getD row []) e N z');have:=hm' z hz;grind
  ·rfl
end
theorem N0w.sup {rows:List (List b0k)} {e:c0R} {d:List c0c} {row N:Nat} {a:m0B} (hr:∀ r ∈ rows,r.length=e.set.length) (hN:e.set.length≤N) (hg:∀ g ∈ e.guards,g.all.length=N) (h0:f0W (fun e=>decide (e.1 < 0)) d=false)
  (h:N0w (c0n rows e d row N) N (c0n rows e d row N).A.length a) :
  (a.kind=2∧l0Y rows e d row N (-1,c0l)) ∨ (a.kind=3∧l0Y rows e d row N (1,c0l)) ∨ (a.kind=1∧l0Y rows e d row N (0,a0f (a.V + gK (rows.getD row []) e.set))):=by
 have hF:=fun z=>G0w (d:=d) (row:=row) (z:=z) hr hN hg
 have hG:=fun z=>O0u (rows:=rows) (e:=e) (d:=d) (row:=row) (N:=N) (z:=z)
 rcases h with ⟨h1,h2⟩ | ⟨h1,⟨z,hz,hv⟩,h3⟩ | ⟨h1,h2⟩
 ·exact .inl ⟨h1,.inl ⟨rfl,.inr fun z hz=>h2 z ((hF z).2 hz)⟩⟩
 ·refine .inr (.inr ⟨h1,.inr ⟨h0,.inl ⟨_,rfl,⟨z,(hF z).1 hz,?_⟩,fun z' hz'=>?_⟩⟩⟩)
  ·rw [← hG,hv]
  ·have:=h3 z' ((hF z').2 hz');have:=hG z';grind
 ·refine .inr (.inl ⟨h1,.inr ⟨h0,.inr ⟨rfl,fun B=>?_⟩⟩⟩)
  obtain ⟨z,hz,hB⟩:=h2 (B - gK (rows.getD row []) e.set)
  exact ⟨z,(hF z).1 hz,by have:=hG z;grind⟩
theorem p0J {f:Nat→Rat} {K:Nat} (h:∀ i,szR (f i)≤K):∀ n,szR (rs f n)≤n * (K + 1) + 1
 | 0=>by rw [rs,f0K];omega
 | n + 1=>by
  have h1:=p0J h n
  have h2:=p0H (rs f n) (f n)
  have h3:=h n
  rw [rs,Z0U];omega
def I0F (l:List (Bool × List Nat)):Prop:=∀ x ∈ l,x.2.length≤40∧b0x x.2
def v0H (a:f0v):Prop:=I0F a.X∧I0F a.W∧a.K.2.length≤40∧b0x a.K.2
structure j0F (e:c0R):Prop where
 set:∀ a ∈ e.set,v0H a
 guards:∀ a ∈ e.guards,v0H a
 ns:e.set.length≤3
 ng:e.guards.length≤6
 m:e.m≤3
def i0J (l:List f0v) (n m:Int):Bool:=!f0W (fun a=>!decide ((a.X.length:Int)=n) || !decide ((a.W.length:Int)=m)) l
def c0W (rows:List (List b0k)) (e:c0R) (d:List c0c) (row:Int):Bool :=
 f0e rows e.set.length d && decide (0≤row) && decide (row < rows.length) && decide (0≤e.m) && i0J e.set e.set.length e.m && i0J e.guards e.set.length e.m
theorem u0b {l:List f0v} {n m:Int}:i0J l n m=true ↔ ∀ a ∈ l,(a.X.length:Int)=n∧(a.W.length:Int)=m:=by
 unfold i0J f0W;simp [List.any_eq_false]
theorem I0F.sz {x:Bool × List Nat} {k:Nat} (h:x.2.length≤k) (h0:b0x x.2):szR (vQ x)≤max k 1:=by
 unfold vQ;rw [j0c];have:=u0i h0;omega
theorem v0H.all {a:f0v} (h:v0H a) (j:Nat):szR (vQ (a.all.getD j iz))≤40:=by
 rw [Z0C]
 by_cases hj:j < a.all.length
 ·rw [Z0H hj]
  have hm:a.all[j] ∈ a.X ++ a.W:=Z0M hj
  rcases a1g.1 hm with hm | hm
  ·exact I0F.sz (k:=40) (h.1 _ hm).1 (h.1 _ hm).2
  ·exact I0F.sz (k:=40) (h.2.1 _ hm).1 (h.2.1 _ hm).2
 ·rw [Z0P (by omega)];show szR ((0:Int):Rat)≤40;rw [j0c,c0v];decide
theorem v0H.aff0:v0H aff0:=⟨fun x hx=>by simp [AI.aff0] at hx,fun x hx=>by simp [AI.aff0] at hx,by decide,fun x hx=>by simp [AI.aff0,iz] at hx⟩
theorem j0F.at {e:c0R} (h:j0F e) (i:Nat):v0H (e.set.getD i aff0):=by
 rw [Z0C]
 by_cases hi:i < e.set.length
 ·rw [Z0H hi];exact h.set _ (Z0M _)
 ·rw [Z0P (by omega)];exact v0H.aff0
theorem j0F.gC {e:c0R} {y:List b0k} (h:j0F e) (hy:Few 6 y) (j n:Nat) (hn:n≤3):szR (rs (fun i=>b0A (y.getD i c0l) * vQ ((e.set.getD i aff0).all.getD j iz)) n)≤150:=by
 have h1:=p0J (f:=fun i=>b0A (y.getD i c0l) * vQ ((e.set.getD i aff0).all.getD j iz)) (K:=47) (fun i=>by
  have h1:=f0J (b0A (y.getD i c0l)) (vQ ((e.set.getD i aff0).all.getD j iz))
  have h2:=hy.sz i
  have h3:=(h.at i).all j
  omega) n
 omega
theorem j0F.gK {e:c0R} {y:List b0k} (h:j0F e) (hy:Few 6 y) (n:Nat) (hn:n≤3):szR (rs (fun i=>b0A (y.getD i c0l) * vQ (e.set.getD i aff0).K) n)≤150:=by
 have h1:=p0J (f:=fun i=>b0A (y.getD i c0l) * vQ (e.set.getD i aff0).K) (K:=47) (fun i=>by
  have h1:=f0J (b0A (y.getD i c0l)) (vQ (e.set.getD i aff0).K)
  have h2:=hy.sz i
  have h3:=I0F.sz (k:=40) (h.at i).2.2.1 (h.at i).2.2.2
  omega) n
 omega
theorem f0j {S:Nat} {x:Rat} (h:szR x≤S):e0O (a0f x)≤S∧b0x (a0f x).1.2∧b0x (a0f x).2.2:=⟨by rw [a0x];exact h,b0H _,b0H _⟩
theorem x0Q {rows:List (List b0k)} {e:c0R} {d:List c0c} {row:Nat} {m:Nat} (ha:c0W rows e d row=true) (he:j0F e) (hm:e.m=(m:Int)) (hrl:rows.length≤8) (hr:∀ r ∈ rows,Few 6 r) (hd:∀ x ∈ d,e0O x.2≤6∧b0x x.2.1.2∧b0x x.2.2.2) :
  p0N (c0n rows e d row (e.set.length + m)) (e.set.length + m) (c0n rows e d row (e.set.length + m)).A.length 200∧l0D (c0n rows e d row (e.set.length + m))=true∧e.set.length + m≤6∧(c0n rows e d row (e.set.length + m)).A.length≤14∧(∀ r ∈ rows,r.length=e.set.length)∧(∀ g ∈ e.guards,g.all.length=e.set.length + m)∧∀ x ∈ d,l0U x=true:=by
 unfold c0W f0e j0C at ha
 simp only [Z0Q,a1E] at ha
 obtain ⟨⟨⟨⟨⟨⟨⟨⟨⟨⟨hn0,hn6⟩,hl⟩,hrow⟩,hdl⟩,hmay⟩,hr0⟩,hr1⟩,hm0⟩,hfs⟩,hfg⟩:=ha
 have hns:=he.ns;have hng:=he.ng;have hm3:=he.m
 have hrow':∀ r ∈ rows,r.length=e.set.length:=fun r hr'=>by
  have:=a1o.1 hrow r hr'
  unfold p0C at this;simp at this;omega
 have hg:∀ g ∈ e.guards,g.all.length=e.set.length + m:=fun g hg'=>by
  have:=u0b.1 hfg g hg'
  unfold f0v.all;rw [Z0S];omega
 have hmay':∀ x ∈ d,l0U x=true:=fun x hx=>by
  have h1:f0W (fun e=>!l0U e) d=false:=by simpa using hmay
  have:=List.any_eq_false.1 h1 x hx
  simpa using this
 have hAl:(c0n rows e d row (e.set.length + m)).A.length≤14:=by
  have:=i0m rows d
  simp [c0n];omega
 have hBl:(c0n rows e d row (e.set.length + m)).B.length=(c0n rows e d row (e.set.length + m)).A.length:=by simp [c0n,g0R]
 have hCl:(c0n rows e d row (e.set.length + m)).C.length=e.set.length + m:=by simp [c0n]
 have hlen:∀ r ∈ (c0n rows e d row (e.set.length + m)).A,Few 200 r∧r.length=e.set.length + m:=fun r hr'=>by
  rcases a1g.1 hr' with h1 | h1
  ·obtain ⟨q,h2,rfl⟩:=a1z.1 h1
   obtain ⟨q',h3,rfl⟩:=k0V h2
   have hl':(g0Z q').length=e.set.length:=by unfold g0Z;rw [a1P];exact hrow' _ h3
   refine ⟨fun x hx=>?_,by unfold u0r;rw [Z0S,b1Q];omega⟩
   rcases a1g.1 hx with hx | hx
   ·have:=G0x (hr q' h3) (by decide) x hx
    exact ⟨by omega,this.2⟩
   ·rw [(b1N.1 hx).2]
    exact f0j (by rw [f0K];decide)
  ·obtain ⟨g,h2,rfl⟩:=a1z.1 h1
   refine ⟨fun x hx=>?_,by rw [a1P];exact hg g h2⟩
   obtain ⟨y,hy,rfl⟩:=a1z.1 hx
   obtain ⟨j,hj,rfl⟩:=c1a.1 hy
   have:=(he.guards g h2).all j
   rw [b0F hj] at this
   exact f0j (by omega)
 have hfB:Few 200 (c0n rows e d row (e.set.length + m)).B:=fun x hx=>by
  rcases a1g.1 hx with h1 | h1
  ·obtain ⟨x',h2,rfl⟩:=k0X h1
   obtain ⟨h3,h4,h5⟩:=hd x' h2
   have:=d0s h4 h5
   exact f0j (by omega)
  ·obtain ⟨g,h2,rfl⟩:=a1z.1 h1
   have:=I0F.sz (k:=40) (he.guards g h2).2.2.1 (he.guards g h2).2.2.2
   exact f0j (by rw [F0C];omega)
 have hfC:Few 200 (c0n rows e d row (e.set.length + m)).C:=fun x hx=>by
  obtain ⟨j,hj,rfl⟩:=a1z.1 hx
  have h1:Few 6 (rows.getD row []):=by rw [b0F (by omega)];exact hr _ (Z0M _)
  have:=he.gC h1 j e.set.length he.ns
  exact f0j (Z0N this (by decide))
 obtain ⟨M,hM⟩:∃ M,M=(c0n rows e d row (e.set.length + m)).A.length:=⟨_,rfl⟩
 refine ⟨⟨rfl,rfl,hBl,hCl,hlen,hfB,hfC,by decide,by omega,by omega,?_⟩,?_,by omega,hAl,hrow',hg,hmay'⟩
 ·rw [← hM] at hAl ⊢
  obtain ⟨N,hN⟩:∃ N,N=e.set.length + m:=⟨_,rfl⟩
  rw [← hN]
  have hN6:N≤6:=by omega
  have h1:(M + 2) * ((N + 3) * (200 + 1) + M + 2)≤16 * 1825:=a1D (by omega) (by omega)
  have h2:(N + 1) * (2 * ((M + 2) * ((N + 3) * (200 + 1) + M + 2) + 1 + M + 200) + 10)≤7 * (2 * (16 * 1825 + 1 + 14 + 200) + 10):=a1D (by omega) (by omega)
  omega
 ·unfold l0D
  have h1:f0W (fun r=>!decide ((r.length:Int)=(c0n rows e d row (e.set.length + m)).n)) (c0n rows e d row (e.set.length + m)).A=false:=by
   refine List.any_eq_false.2 fun r hr'=>?_
   have:=(hlen r hr').2
   show ¬ (!decide ((r.length:Int)=((e.set.length + m:Nat):Int)))=true
   simp [this]
  rw [h1,hBl,hCl]
  show (decide (0≤((e.set.length + m:Nat):Int)) && decide (((e.set.length + m:Nat):Int)≤60) && decide ((c0n rows e d row (e.set.length + m)).A.length≤60) && _ && decide (((e.set.length + m:Nat):Int)=((e.set.length + m:Nat):Int)) && !false)=true
  simp;omega
section
variable {rows:List (List b0k)} {e:c0R} {d:List c0c} {x w:List (Bool × List Nat)}
end
end
section
open Go SX
set_option maxHeartbeats 1000000
variable {fl:Nat} {H G:a0e} {R:a0u} {v w u:Value}
def PIr (H:a0e) (cs:List Value) (x:Bool × List Nat):Prop:=b0q H (.agg cs.toArray) x
theorem c0a:h0p PIr:=fun _ _ _ _ hx h=>b0q.mono h hx
abbrev f0U (H:a0e) (v:Value) (l:List (Bool × List Nat)):Prop:=Sls PIr H a0a 2 v l
theorem f0U.load {l:List (Bool × List Nat)} (h:f0U H v l) {j:Nat} (hj:j < l.length):∃ s,b0o H true 2 (adr 2 v j)=some (.agg #[.bool l[j].1,s])∧Lim H s l[j].2:=by
 obtain ⟨cs,h1,_,s,h3,h4⟩:=Sls.load h hj (by omega)
 exact ⟨s,by rw [h1,h3],h4⟩
def F0O (H:a0e) (v:Value) (a:f0v):Prop:=∃ sX sW s,v=.agg #[sX,sW,.bool a.K.1,s]∧f0U H sX a.X∧f0U H sW a.W∧Lim H s a.K.2
theorem F0O.mono {a:f0v} (h:F0O H v a) (hx:Ext H G):F0O G v a:=by
 obtain ⟨sX,sW,s,h1,h2,h3,h4⟩:=h;exact ⟨sX,sW,s,h1,h2.mono c0a hx,h3.mono c0a hx,h4.mono hx⟩
def PAf (H:a0e) (cs:List Value) (a:f0v):Prop:=F0O H (.agg cs.toArray) a
theorem b0P:h0p PAf:=fun _ _ _ _ hx h=>F0O.mono h hx
abbrev h0o (H:a0e) (v:Value) (l:List f0v):Prop:=Sls PAf H e0A 4 v l
theorem h0o.load {l:List f0v} (h:h0o H v l) {j:Nat} (hj:j < l.length):∃ w,b0o H true 4 (adr 4 v j)=some w∧F0O H w l[j]:=by
 obtain ⟨cs,h1,_,h3⟩:=Sls.load h hj (by omega);exact ⟨_,h1,h3⟩
def n0R (H:a0e) (v:Value) (e:c0R):Prop:=∃ (f t:Int) (sG sS sP:Value),v=.agg #[.int .i64 f,.int .i64 t,.int .i64 e.m,sG,sS,sP]∧h0o H sG e.guards∧h0o H sS e.set∧a0S sP=[sP]∧a0q sP=true
theorem n0R.mono {e:c0R} (h:n0R H v e) (hx:Ext H G):n0R G v e:=by
 obtain ⟨f,t,sG,sS,sP,h1,h2,h3,h4,h5⟩:=h;exact ⟨f,t,sG,sS,sP,h1,h2.mono b0P hx,h3.mono b0P hx,h4,h5⟩
end
section
open Go SX
set_option maxHeartbeats 4000000
variable {fl:Nat} {H G:a0e} {R:a0u} {v w u:Value}
theorem I0z {x:Bool × List Nat}:c0q x=(a0l (a0P x),a0l 1):=by
 unfold c0q vQ a0f;rw [b1X,b1V];rfl
theorem d0o {x:Bool × List Nat} (h:b0q H v x) (hf:fl≤H.size) (hn:x.2.length < 536870912) :
  a0V env fl I0P [v] H (fun r H'=>b0R H' r (c0q x)∧Ext H H') R:=by
 have k0:=h
 obtain ⟨s,rfl,hs⟩:=h
 refine a0k Z0h hf (h:=?_)
 intro ρ h0
 simp [V0c,M0n,h0,hs.cells]
 generalize hG:Array.push (Array.push H _) _=G
 obtain ⟨hx,b1,b2⟩:=push2 hG
 clear hG
 simp [M0o,b1]
 refine (e0e (i:=x) (j:=iz) (k0.mono hx) ⟨_,rfl,Lim.nil⟩ hx.1 hn (by decide)).mono ?_
 rintro _ G2 ⟨⟨s1,rfl,k1⟩,hx2⟩
 replace b2:=hx2.blk b2
 replace hx:=hx.trans hx2
 clear hx2
 simp
 refine (c0e (n:=1) hx.1 (by omega) (by omega)).mono ?_
 rintro _ G2 ⟨⟨s2,rfl,k2⟩,hx2⟩
 replace b2:=hx2.blk b2
 replace k1:=k1.mono hx2
 replace hx:=hx.trans hx2
 clear hx2
 have hsz:=hx.1
 have h0z:a0P iz=0:=by decide
 rw [h0z,b1a] at k1 ⊢
 simp [b2,hsz,k1.cells,k1.plain,k2.cells,k2.plain]
 generalize hS':Array.setIfInBounds G2 _ _=G3
 rw [a0M hS' b2]
 simp
 rw [I0z]
 exact fun _=>⟨s1,s2,rfl,k1.setS hS' b2 (by decide),k2.setS hS' b2 (by decide)⟩
theorem j0f {e:c0c} (h:h0d H v e) (hf:fl≤H.size):a0V env fl R0T [v] H (fun r H'=>r=.bool (decide (e.1 < 0))∧Ext H H') R:=by
 obtain ⟨s,u,rfl,hs,hu⟩:=h
 refine a0k Y0P hf (h:=?_)
 intro ρ h0
 simp [U0K,K0M,K0N,h0]
theorem g0H {a:List c0c} (ha:d0J H v a) (hf:fl≤H.size) (hfa:N0u a) (hal:a.length < 1073741824) :
  a0V env fl Q0n [v] H (fun r H'=>r=.bool (f0W (fun e=>decide (e.1 < 0)) a)∧Ext H H') R:=by
 refine a0k Y0C hf (h:=?_)
 intro ρ h0
 simp [U0x,J0O,J0P,h0]
 refine (f0g (p:=fun e=>decide (e.1 < 0)) ha (Z0E _) hfa hal (fun fl G v e hf h hn=>j0f h hf)).mono ?_
 rintro _ G2 ⟨rfl,hx2⟩
 simp
theorem k0h {a:List f0v} {p:f0v→Bool} {g:FuncId} {c c2:Value} (I:a0e→Prop) (hI:∀ G G',Ext G G'→I G→I G') (h0:I H) (ha:h0o H v a) (hf:fl≤H.size) (hal:a.length < 1073741824)
  (hg:∀ (fl:Nat) (G:a0e) (v:Value) (e:f0v),I G→fl≤G.size→F0O G v e→a0V env fl g [v,c,c2] G (fun r H'=>r=.bool (p e)∧Ext G H') R) :
  a0V env fl x0V [v,.func (.func g) #[] #[c,c2]] H (fun r H'=>(∃ z:Int,r=.int .i64 z∧(0≤z ↔ f0W p a=true))∧Ext H H') R:=by
 refine a0k W0r hf (h:=?_)
 intro ρ h1
 simp [H0m,z0D,z0E,h1,ha.slen]
 refine c0F (n:=a.length) (fun i ρ G=>ρ 0=v∧ρ 1=.func (.func g) #[] #[c,c2]∧Ext H G∧f0W p (a.take i)=false)
  rfl rfl (by decide) (by omega) (by simp) (by simp) ?_ ?_ ?_ ?_
 ·exact ⟨by simp [h1],by simp [h1],Ext.refl H,by rw [c1d];exact o0a⟩
 ·intro i ρ ρ' G h hI;simpa [h] using hI
 ·clear h1 ρ
  rintro i ρ G hi gi gn ⟨g0,g1,hx,hc⟩
  have ka:=ha.mono b0P hx
  obtain ⟨w,hl,k0⟩:=h0o.load ka hi
  simp [z0F,z0G,gi,g0,g1,ka.ia hi,hl]
  refine (hg _ _ _ _ (hI _ _ hx h0) hx.1 k0).mono ?_
  rintro _ G2 ⟨rfl,hx2⟩
  have hx':=hx.trans hx2
  cases hp:p a[i]
  ·simp
   exact Rnd.mk (by simp [gi]) (by simp [gn]) ⟨by simp [g0],by simp [g1],hx',by rw [k0o hi,hc,hp];rfl⟩
  ·simp [z0H,gi]
   exact fun _=>o0b hi hp
 ·clear h1 ρ
  rintro ρ G gi gn ⟨g0,g1,hx,hc⟩
  rw [a1a] at hc
  simp [z0I,hc]
theorem h0L {a:List f0v} {p:f0v→Bool} {g:FuncId} {c c2:Value} (I:a0e→Prop) (hI:∀ G G',Ext G G'→I G→I G') (h0:I H) (ha:h0o H v a) (hf:fl≤H.size) (hal:a.length < 1073741824)
  (hg:∀ (fl:Nat) (G:a0e) (v:Value) (e:f0v),I G→fl≤G.size→F0O G v e→a0V env fl g [v,c,c2] G (fun r H'=>r=.bool (p e)∧Ext G H') R) :
  a0V env fl S0d [v,.func (.func g) #[] #[c,c2]] H (fun r H'=>r=.bool (f0W p a)∧Ext H H') R:=by
 refine a0k Z0c hf (h:=?_)
 intro ρ h1
 simp [U0X,L0U,L0V,h1]
 refine (k0h (p:=p) I hI h0 ha (Z0E _) hal hg).mono ?_
 rintro _ G2 ⟨⟨z,rfl,hz⟩,hx2⟩
 simp
 intro _
 rw [c1o,a1E];exact hz
theorem j0e {a:f0v} {b c:Nat} {n m:Int} (h:F0O H v a) (hb:H.blk b=.row false e0i [.int .i64 n]) (hc:H.blk c=.row false e0i [.int .i64 m]) (hf:fl≤H.size) :
  a0V env fl S0e [v,.pointer (some ⟨b,0,none⟩),.pointer (some ⟨c,0,none⟩)] H (fun r H'=>r=.bool (!decide ((a.X.length:Int)=n) || !decide ((a.W.length:Int)=m))∧Ext H H') R:=by
 obtain ⟨sX,sW,s,rfl,hX,hW,hs⟩:=h
 refine a0k Z0d hf (h:=?_)
 intro ρ h0
 simp [U0Y,L0W,h0,hX.cells,hW.cells,hs.cells]
 generalize hG:Array.push H _=G
 obtain ⟨hx,b3⟩:=h0K hG
 replace hb:=hx.blk hb
 replace hc:=hx.blk hc
 simp [L0X,h0,b3,hb,hc,hX.slen,hW.slen]
 by_cases h1:(a.X.length:Int)=n
 ·by_cases h2:(a.W.length:Int)=m
  ·simp [h1,h2]
  ·simp [h1,h2]
 ·simp [h1]
theorem g0G {l:List f0v} {n m:Int} (h:h0o H v l) (hf:fl≤H.size) (hal:l.length < 1073741824) :
  a0V env fl Q0q [v,.int .i64 n,.int .i64 m] H (fun r H'=>r=.bool (i0J l n m)∧Ext H H') R:=by
 refine a0k Y0N hf (h:=?_)
 intro ρ h0
 simp [U0I,K0I,h0]
 generalize hG:Array.push (Array.push H _) _=G
 obtain ⟨hx,b1,b2⟩:=push2 hG
 clear hG
 simp [K0J,h0]
 refine (h0L (p:=fun a=>!decide ((a.X.length:Int)=n) || !decide ((a.W.length:Int)=m)) (fun G=>G.blk H.size=.row false e0i [.int .i64 n]∧G.blk (H.size + 1)=.row false e0i [.int .i64 m]) (fun G G' hx h=>⟨hx.blk h.1,hx.blk h.2⟩) ⟨b1,b2⟩ (h.mono b0P hx) hx.1 hal
  (fun fl G v e hI hf h=>j0e h hI.1 hI.2 hf)).mono ?_
 rintro _ G2 ⟨rfl,hx2⟩
 simp
 exact fun _=>by unfold i0J;simp
theorem S0C {r1 r2 r3:Blk} (h:Array.push (Array.push (Array.push H r1) r2) r3=G):Ext H G∧a0e.blk G H.size=r1∧a0e.blk G (H.size + 1)=r2∧a0e.blk G (H.size + 2)=r3:=by
 subst h
 refine ⟨(Ext.refl H).push.push.push,?_,?_,?_⟩ <;> simp [a0y]
theorem m0G {x:Int × Rat}:(g0h x).1=x.1:=by unfold g0h;split <;> simp_all
theorem q0h {e:c0c} {b:b0k} (h:h0d H v e) (k:b0R H w b) (hf:fl≤H.size) (hn:e0O e.2 < 67108864) (hm:e0O b < 67108864) (he:szR (l0O e).2 < 67108864) (hs:szR (l0O e).2 + szR (b0A b) + 1 < 67108864) :
  a0V env fl R0O [v,w] H (fun r H'=>h0d H' r (if (l0O e).1=0 then (0,a0f ((l0O e).2 + b0A b)) else g0h (l0O e))∧Ext H H') R:=by
 have h':=h;have k':=k
 obtain ⟨s1,s2,rfl,l1,l2⟩:=h
 obtain ⟨s3,s4,rfl,l3,l4⟩:=k
 refine a0k Y0F hf (h:=?_)
 intro ρ h0
 simp [U0A,K0b,h0,l1.cells,l2.cells,l3.cells,l4.cells]
 generalize hG:Array.push (Array.push (Array.push H _) _) _=G
 obtain ⟨hx,b2,b3,b4⟩:=S0C hG
 clear hG
 simp [K0c,b2]
 refine (m0f (h'.mono hx) hx.1 hn).mono ?_
 rintro _ G2 ⟨⟨y1,y2,rfl,q1,q2⟩,hx2⟩
 replace b2:=hx2.blk b2
 replace b3:=hx2.blk b3
 replace b4:=hx2.blk b4
 replace hx:=hx.trans hx2
 clear hx2
 have hsz:=hx.1
 simp [b2,hsz,q1.cells,q1.plain,q2.cells,q2.plain]
 generalize hS:Array.setIfInBounds G2 _ _=G3
 have c2:=a0M hS b2
 have c3:a0e.blk G3 (H.size + 1)=_:=a0z hS b3 (by omega)
 have c4:a0e.blk G3 (H.size + 2)=_:=a0z hS b4 (by omega)
 have hx3:=b0J hS hx (Z0E _)
 have m1:=q1.setS hS b2 (by decide)
 have m2:=q2.setS hS b2 (by decide)
 clear b2 b3 b4 q1 q2
 have hsz3:=hx3.1
 by_cases hk:(l0O e).1=0
 ·have hk':(g0h (l0O e)).1=0:=by rw [m0G];exact hk
  have hce:g0h (l0O e)=(0,a0f (l0O e).2):=by unfold g0h;rw [Z0I hk]
  simp [E0m,c2,hk']
  simp [K0e,c2,c3]
  rw [hce] at m1 m2 ⊢
  rw [Z0I hk]
  refine (b0D (a:=a0f (l0O e).2) ⟨y1,y2,rfl,m1,m2⟩ (k'.mono hx3) hx3.1 (by rw [a0x];exact he) hm).mono ?_
  rintro wa G5 ⟨ka,hx5⟩
  replace c4:=hx5.blk c4
  replace hx3:=hx3.trans hx5
  rw [a0s] at ka
  have hsa:=p0H (l0O e).2 (b0A b)
  simp
  refine (f0x ka hx3.1 (by rw [a0x];omega)).mono ?_
  rintro _ G6 ⟨⟨z1,z2,rfl,n1,n2⟩,hx6⟩
  replace c4:=hx6.blk c4
  replace hx3:=hx3.trans hx6
  rw [a0s] at n1 n2 ⊢
  have hsz6:=hx3.1
  simp [c4,hsz6,n1.cells,n1.plain,n2.cells,n2.plain]
  generalize hS':Array.setIfInBounds G6 _ _=G7
  rw [a0M hS' c4]
  simp
  exact fun _=>⟨_,_,rfl,n1.setS hS' c4 (by decide),n2.setS hS' c4 (by decide)⟩
 ·have hk':¬ (g0h (l0O e)).1=0:=by rw [m0G];exact hk
  simp [E0m,c2,hk']
  simp [K0d,c2,c4,hsz3,m1.cells,m1.plain,m2.cells,m2.plain]
  generalize hS':Array.setIfInBounds G3 _ _=G4
  rw [a0M hS' c4]
  simp
  rw [Z0F hk]
  exact fun _=>⟨_,_,rfl,m1.setS hS' c4 (by decide),m2.setS hS' c4 (by decide)⟩
theorem e0n.shape {rows:List (List b0k)} (h:e0n H v rows):∃ s,v=.agg #[s]∧f0V H s rows:=h
theorem f0T {rows:List (List b0k)} {e:c0R} {d:List c0c} {row:Int} (ht:e0n H v rows) (he:n0R H w e) (hd:d0J H u d) (hf:fl≤H.size) (hr:∀ r ∈ rows,Few 6 r∧r.length < 1073741824) (hrl:rows.length < 1073741824) (hfd:N0u d) (hdl:d.length < 1073741824) (hel:e.set.length < 1073741824) (hgl:e.guards.length < 1073741824) :
  a0V env fl Q0m [v,w,u,.int .i64 row] H (fun r H'=>r=.bool (c0W rows e d row)∧Ext H H') R:=by
 have ht0:=ht
 obtain ⟨s,rfl,hs⟩:=ht
 obtain ⟨f,t,sG,sS,sP,rfl,hG,hS,hPc,hPp⟩:=he
 refine a0k Y0B hf (h:=?_)
 intro ρ h0
 simp [U0w,J0L,h0,hs.cells,hG.cells,hS.cells,hPc]
 generalize hN:Array.push (Array.push H _) _=G
 obtain ⟨hx,b4,b5⟩:=push2 hN
 clear hN
 simp [J0M,b5,hS.slen]
 simp [J0N,h0,b4,b5]
 refine (m0e (S:=6) (ht0.mono hx) (hd.mono d0h hx) hx.1 (by decide) hr hrl hfd hdl).mono ?_
 rintro _ G2 ⟨rfl,hx2⟩
 replace b4:=hx2.blk b4
 replace b5:=hx2.blk b5
 replace hx:=hx.trans hx2
 clear hx2
 unfold c0W
 cases hv:f0e rows e.set.length d
 ·simp
 have hsl:=(hs.mono d0O hx).slen
 by_cases h1:0≤row
 ·by_cases h2:row < rows.length
  ·by_cases h3:0≤e.m
   ·simp [h0,h1,h2,h3,b4,b5,hsl]
    refine (g0G (l:=e.set) (hS.mono b0P hx) hx.1 hel).mono ?_
    rintro _ G3 ⟨rfl,hx2⟩
    replace b5:=hx2.blk b5
    replace hx:=hx.trans hx2
    clear hx2
    cases hq:i0J e.set e.set.length e.m
    ·simp
    ·simp [b5]
     refine (g0G (l:=e.guards) (hG.mono b0P hx) hx.1 hgl).mono ?_
     rintro _ G4 ⟨rfl,hx2⟩
     simp
   ·simp [h0,h1,h2,h3,b4,b5,hsl]
  ·simp [h0,h1,h2,b4,b5,hsl]
 ·simp [h0,h1]
def x0c (d:List c0c):Nat:=(d.filter fun x=>decide (x.1=0)).length
theorem r0H (d:List c0c):x0c d≤d.length:=List.length_filter_le _ _
theorem x0K {d:List c0c} {i:Nat} (h:i < d.length):x0c (d.take (i + 1))=x0c (d.take i) + if d[i].1=0 then 1 else 0:=by
 unfold x0c
 rw [a1d h,List.filter_append,Z0S]
 by_cases h0:d[i].1=0 <;> simp [h0]
def v0x (e:c0R) (d:List c0c):Bool:=decide (e.guards.length + x0c d≤60) && decide ((e.set.length:Int) + e.m≤60)
theorem j0R {rows:List (List b0k)} {e:c0R} {d:List c0c} (ht:e0n H v rows) (he:n0R H w e) (hd:d0J H u d) (hf:fl≤H.size) (hdl:d.length < 1073741824) (hel:e.set.length < 1073741824) (hgl:e.guards.length < 1073741824) (hm0:-1073741824 < e.m) (hm1:e.m < 1073741824) :
  a0V env fl R0U [v,w,u] H (fun r H'=>r=.bool (v0x e d)∧Ext H H') R:=by
 have ht0:=ht
 obtain ⟨s,rfl,hs⟩:=ht
 obtain ⟨f,t,sG,sS,sP,rfl,hG,hS,hPc,hPp⟩:=he
 refine a0k Y0Q hf (h:=?_)
 intro ρ h0
 simp [U0L,K0O,h0,hs.cells,hG.cells,hS.cells,hPc]
 generalize hN:Array.push (Array.push H _) _=G
 obtain ⟨hx,b3,b4⟩:=push2 hN
 clear hN
 simp [K0P,b4,hG.slen]
 simp [K0Q,h0,hd.slen]
 have hcl:=r0H d
 refine c0F (n:=d.length) (fun i ρ G=>ρ 13=u∧ρ 4=.pointer (some ⟨H.size + 1,0,none⟩)∧Ext H G∧a0e.blk G (H.size + 1)=.row false c0r [.int .i64 f,.int .i64 t,.int .i64 e.m,sG,sS,sP]∧ρ 7=.int .i64 ((e.guards.length + x0c (d.take i):Nat):Int)) rfl rfl (by decide) (by omega) (by simp) (by simp) ?_ ?_ ?_ ?_
 ·exact ⟨by simp,by simp,hx,b4,by simp [x0c]⟩
 ·intro i ρ ρ' G h hI;simpa [h] using hI
 ·clear h0 ρ b3 b4 hx
  rintro i ρ G hi gi gn ⟨g13,g4,hx,b4,g7⟩
  have kd:=hd.mono d0h hx
  obtain ⟨wx,ex,kx⟩:=d0J.load kd hi
  obtain ⟨y1,y2,rfl,q1,q2⟩:=kx
  have hsz:=hx.1
  simp [K0R,gi,g13,kd.ia hi,ex,q1.cells,q1.plain,q2.cells,q2.plain,hsz]
  generalize hN:Array.setIfInBounds (Array.push _ _) _ _=G3
  obtain ⟨hx2,b5⟩:=new1 hN
  clear hN
  replace b4:=hx2.blk b4
  replace hx:=hx.trans hx2
  have hcs:=x0K hi
  have hct:=r0H (d.take (i + 1))
  rw [a1H] at hct
  by_cases hk:d[i].1=0
  ·rw [Z0I hk] at hcs
   have wr:IntKind.i64.wrap (((e.guards.length + x0c (d.take i):Nat):Int) + 1)=((e.guards.length + x0c (d.take (i + 1)):Nat):Int):=by
    rw [a0F (by omega) (by omega)];omega
   simp [E0r,b5,hk]
   simp [-Int.natCast_add,K0S,g7,wr]
   exact Rnd.mk (by simp [gi]) (by simp [gn]) ⟨by simp [g13],by simp [g4],hx,b4,by simp⟩
  ·rw [Z0F hk,a1N] at hcs
   simp [E0r,b5,hk]
   exact Rnd.mk (by simp [gi]) (by simp [gn]) ⟨by simp [g13],by simp [g4],hx,b4,by simp [g7,hcs]⟩
 ·rintro ρ G gi gn ⟨g13,g4,hx,b4,g7⟩
  rw [a1a] at g7
  have hSl:=(hS.mono b0P hx).slen
  have wr:IntKind.i64.wrap ((e.set.length:Int) + e.m)=(e.set.length:Int) + e.m:=a0F (by omega) (by omega)
  unfold v0x
  by_cases h1:e.guards.length + x0c d≤60
  ·have h1':((e.guards.length + x0c d:Nat):Int)≤60:=by omega
   simp [-Int.natCast_add,E0s,g7,g4,b4,hSl,wr,h1,h1']
  ·have h1':¬ ((e.guards.length + x0c d:Nat):Int)≤60:=by omega
   simp [-Int.natCast_add,E0s,g7,g4,b4,hSl,wr,h1,h1']
def x0m (fl:Nat) (H:a0e) (e sz:Nat) (v:Value) (n:Nat) (cs:List Value):Prop :=
 cs.length=n * sz∧((v=.slice none 0 0∧n=0) ∨ ∃ b cells,v=.slice (some ⟨b,0,none⟩) n unk∧H.blk b=.row false e cells∧fl≤b∧n * sz≤cells.length∧cs=cells.take (n * sz))
theorem x0l {n:Nat} (hf:fl≤H.size) (hn:n≤1073741824) :
  a0V env fl x0W [.slice none 0 0,.int .i64 (n:Int)] H (fun r H'=>x0m H.size H' a0a 2 r 0 []∧Ext H H') R:=by
 refine a0k W0u hf (h:=?_)
 intro ρ h0
 have w0:IntKind.i64.wrap 0=0:=by decide
 have w1:IntKind.i64.wrap (n:Int)=(n:Int):=a0F (by omega) (by omega)
 simp [H0p,z0Q,z0R,h0,show ¬ (n:Int) < 0 by omega]
 simp [z0S,z0T,h0,g0C,w0,w1]
 refine ⟨fun h=>?_,fun h=>?_⟩
 ·have hg:w0k 32 (.slice none 0 0) (.int .i64 (n:Int))=some n:=by
   unfold w0k;simp only;rw [Z0I ⟨by omega,by omega,by decide⟩];simp
  simp [z0U,h0,g0C,hg,d0G,bnd,elemOk,unk,s0o]
  exact ⟨rfl,.inr ⟨H.size,e0q [.bool false,.slice none 0 0] n,rfl,a0v,Z0E _,by simp,rfl⟩⟩
 ·simp [s0o,h0]
  exact ⟨rfl,.inl ⟨rfl,rfl⟩⟩
theorem x0m.sl {e sz n:Nat} {s:Value} {cs:List Value} (h:x0m fl G e sz s n cs):Sl G e sz s n cs:=by
 obtain ⟨h1,⟨rfl,rfl⟩ | ⟨b,cells,rfl,hb,hf,hl,rfl⟩⟩:=h
 ·exact ⟨h1,.inl ⟨rfl,rfl⟩⟩
 ·exact ⟨h1,.inr ⟨b,0,unk,false,cells,rfl,hb,by omega,by rw [b1n]⟩⟩
theorem x0m.mono {e sz n:Nat} {s:Value} {cs:List Value} {G':a0e} (h:x0m fl G e sz s n cs) (hx:Ext G G'):x0m fl G' e sz s n cs:=by
 obtain ⟨h1,h2 | ⟨b,cells,h2,hb,h3⟩⟩:=h
 ·exact ⟨h1,.inl h2⟩
 ·exact ⟨h1,.inr ⟨b,cells,h2,hx.blk hb,h3⟩⟩
theorem G0f {e e2 sz bytes n m:Nat} {s x:Value} {cs new:List Value} (ho:x0m fl G e sz s n cs) (hx:Sl G e2 sz x m new) (hp:new.all a0q=true) (hn:n + m≤1073741824) (hb:bytes≤1024) (hs:0 < sz) (hfl:fl≤G.size) :
  ∃ v' G',h0g fl G e sz bytes s x=some (v',G')∧x0m fl G' e sz v' (n + m) (cs ++ new)∧c0V (slB s) G G'∧(∀ H0,H0.size≤fl→Ext H0 G→Ext H0 G'):=by
 obtain ⟨hxl,hx⟩:=hx
 have hol:=ho.1
 by_cases hm:m=0
 ·subst hm
  have hnew:new=[]:=a1c.1 (by omega)
  subst hnew
  refine ⟨s,G,?_,by simpa using ho,(Ext.refl G).extB,fun _ _ h=>h⟩
  rcases hx with ⟨rfl,_⟩ | ⟨b,off,cap,ro,cells,rfl,_⟩ <;> rcases ho.2 with ⟨rfl,rfl⟩ | ⟨b',cells',rfl,_⟩ <;> simp [h0g]
 ·rcases hx with ⟨_,h0⟩ | ⟨b,off,cap,ro,cells,rfl,hbk,ho1,ho2⟩
  ·exact Z0T h0 hm
  have hc:=e0K hbk ho1
  rw [← ho2] at hc
  rcases ho.2 with ⟨rfl,rfl⟩ | ⟨b',cells',rfl,hb',hf',hl',hcs'⟩
  ·have hcs:cs=[]:=a1c.1 (by omega)
   subst hcs
   refine ⟨.slice (some ⟨G.size,0,none⟩) m unk,G.push (.row false e new),?_,?_,(Ext.push (Ext.refl G)).extB,fun _ _ h=>h.push⟩
   ·unfold h0g
    simp only
    rw [Z0F hm,Z0I ⟨by omega,hb,hs⟩]
    simp only [hc,hp,b1L,a1v]
    rw [Z0I ⟨by trivial,by trivial⟩]
   ·rw [a1i]
    refine ⟨by simpa using hxl,.inr ⟨G.size,new,rfl,a0v,hfl,by omega,?_⟩⟩
    rw [← hxl,a1a];rfl
  ·have hb'l:=a0g hb'
   have hc2:G.cells? b' 0 (n * sz)=some cs:=by
    rw [e0K hb' (by omega),b1n,← hcs']
   have hal:(cs ++ new).length=(n + m) * sz:=by rw [Z0S,hol,hxl,Z0U]
   refine ⟨.slice (some ⟨G.size,0,none⟩) (n + m) unk,(G.setIfInBounds b' .dead).push (.row false e (cs ++ new)),?_,?_,?_,?_⟩
   ·unfold h0g
    simp only
    rw [Z0F hm,Z0I ⟨by omega,hb,hs⟩]
    simp only [hc,hp,b1L,a1v,hc2]
    rw [Z0F (fun h00:n=0∧unk=0=>Z0T h00.2 (by decide)),Z0F (fun h=>h.1 rfl)]
    simp only [hb']
    rw [Z0I ⟨trivial,hf'⟩]
   ·exact ⟨hal,.inr ⟨G.size,cs ++ new,rfl,by rw [a0y];simp,hfl,by omega,by rw [← hal,a1a]⟩⟩
   ·refine ⟨by simp,fun c hc hne=>?_⟩
    have:b' ≠ c:=fun h=>hne (by simp [slB,h])
    rw [d0q (by simpa using hc),a0Q this]
   ·intro H0 h1 h2
    exact (h2.set (by omega)).push
def v0J {α:Type} (P:a0e→List Value→α→Prop) (fl:Nat) (H:a0e) (e sz:Nat) (v:Value) (l:List α):Prop :=
 ∃ cs,x0m fl H e sz v l.length cs∧∀ k (h:k < l.length),P H ((cs.drop (k * sz)).take sz) l[k]
theorem v0J.sls {α:Type} {P:a0e→List Value→α→Prop} {e sz:Nat} {l:List α} (h:v0J P fl H e sz v l):Sls P H e sz v l:=by
 obtain ⟨cs,h1,h2⟩:=h;exact ⟨cs,h1.sl,h2⟩
theorem k0U {sz:Nat} (hs:0 < sz):∀ {n:Nat} {cs:List Value},cs.length=n * sz→(∀ k,k < n→((cs.drop (k * sz)).take sz).all a0q=true)→cs.all a0q=true
 | 0,cs,h,_=>by rw [a1c.1 (by omega:cs.length=0)];rfl
 | n + 1,cs,h,h2=>by
  have h3:=h2 0 (by omega)
  rw [Nat.zero_mul,b1n] at h3
  rw [Z0U,a1w] at h
  have h4:=k0U hs (n:=n) (cs:=cs.drop sz) (by rw [List.length_drop];omega) (fun k hk=>by
   have:=h2 (k + 1) (by omega)
   rw [b1t]
   rwa [show sz + k * sz=(k + 1) * sz by rw [Z0U];omega])
  rw [← b1p sz cs,b1O,h3,h4];rfl
theorem PIr.plain {cs:List Value} {x:Bool × List Nat} (h:PIr H cs x):cs.all a0q=true:=by
 obtain ⟨s,h1,h2⟩:=h
 have h3:cs=[.bool x.1,s]:=by injection h1 with h1;simpa using congrArg Array.toList h1
 subst h3;simp [h2.plain]
theorem PIr.lx {cs:List Value} {x:Bool × List Nat} (h:PIr H cs x) (hx:Lx H G):PIr G cs x:=by
 obtain ⟨s,h1,h2⟩:=h;exact ⟨s,h1,h2.lx hx⟩
theorem f0U.plainAll {l:List (Bool × List Nat)} {cs:List Value} (hl:cs.length=l.length * 2) (h:∀ k (h:k < l.length),PIr H ((cs.drop (k * 2)).take 2) l[k]):cs.all a0q=true :=
 k0U (by decide) hl fun k hk=>(h k hk).plain
theorem x0m.lx {e sz n:Nat} {cs:List Value} (h:x0m fl G e sz v n cs) (he:e ≠ a0m) {G':a0e} (hx:c0V (slB v) G G'):Lx G G':=by
 intro b ro cs' hb
 obtain ⟨hl,⟨rfl,_⟩ | ⟨p,cells,rfl,hp,_⟩⟩:=h
 ·rw [hx.2 b (a0g hb) (by simp [slB])];exact hb
 ·rw [hx.2 b (a0g hb) (by simp [slB];rintro rfl;rw [hp] at hb;cases hb;exact he rfl)];exact hb
theorem z0i {α:Type} {P:a0e→List Value→α→Prop} {sz:Nat} {cs new:List Value} {l m:List α} (hc:cs.length=l.length * sz) (hn:new.length=m.length * sz) (h1:∀ k (h:k < l.length),P H ((cs.drop (k * sz)).take sz) l[k]) (h2:∀ k (h:k < m.length),P H ((new.drop (k * sz)).take sz) m[k]) :
  ∀ k (h:k < (l ++ m).length),P H (((cs ++ new).drop (k * sz)).take sz) (l ++ m)[k]:=by
 intro k hk
 by_cases hkl:k < l.length
 ·have h3:(k + 1) * sz≤l.length * sz:=Z0L _ hkl
  rw [Z0U,a1w] at h3
  rw [a1B hkl,a1J (by omega),a1X (by simp;omega)]
  exact h1 k hkl
 ·rw [Z0S] at hk
  rw [Z0Z (by omega),List.drop_append,a1U (by rw [hc];exact Z0L _ (by omega)),b1d,hc,show k * sz - l.length * sz=(k - l.length) * sz by rw [Nat.sub_mul]]
  exact h2 _ (by omega)
theorem v0J.cat {s x:Value} {l m:List (Bool × List Nat)} (ho:v0J PIr fl G a0a 2 s l) (hx:f0U G x m) (hn:l.length + m.length≤1073741824) (hfl:fl≤G.size) :
  ∃ v' G',h0g fl G a0a 2 32 s x=some (v',G')∧v0J PIr fl G' a0a 2 v' (l ++ m)∧∀ H0,H0.size≤fl→Ext H0 G→Ext H0 G':=by
 obtain ⟨cs,h1,h2⟩:=ho
 obtain ⟨new,h3,h4⟩:=hx
 obtain ⟨v',G',a1,a2,a3,a4⟩:=G0f (bytes:=32) h1 h3 (f0U.plainAll h3.1 h4) hn (by decide) (by decide) hfl
 have hlx:=h1.lx (by decide) a3
 refine ⟨v',G',a1,⟨cs ++ new,by rw [Z0S];exact a2,?_⟩,a4⟩
 exact z0i h1.1 h3.1 (fun k hk=>(h2 k hk).lx hlx) (fun k hk=>(h4 k hk).lx hlx)
def PIL (H:a0e) (cs:List Value) (l:List (Bool × List Nat)):Prop:=∃ w,cs=[w]∧f0U H w l
theorem O0A:h0p PIL:=fun _ _ _ _ hx ⟨w,h1,h2⟩=>⟨w,h1,h2.mono c0a hx⟩
theorem PIL.load {ll:List (List (Bool × List Nat))} (h:Sls PIL H b0b 1 v ll) {j:Nat} (hj:j < ll.length):∃ w,b0o H false 1 (adr 1 v j)=some w∧f0U H w ll[j]:=by
 obtain ⟨w,h1,w',h2,h3⟩:=Sls.load1 h hj
 cases h2;exact ⟨_,h1,h3⟩
theorem y0r {α:Type} {ll:List (List α)} {i:Nat}:(ll.take i).flatten.length≤ll.flatten.length:=by
 have:(ll.take i ++ ll.drop i).flatten.length=ll.flatten.length:=by rw [b1p]
 rw [List.flatten_append,Z0S] at this;omega
theorem q0s {α:Type} {ll:List (List α)} {i:Nat} (h:i < ll.length):(ll.take (i + 1)).flatten=(ll.take i).flatten ++ ll[i]:=by
 rw [a1d h,List.flatten_append];simp
theorem k0g {ll:List (List (Bool × List Nat))} (h:Sls PIL H b0b 1 v ll) (hf:fl≤H.size) (hn:ll.length < 1073741824) (hm:ll.flatten.length≤1073741824) :
  a0V env fl Q0u [v] H (fun r H'=>f0U H' r ll.flatten∧Ext H H') R:=by
 refine a0k Z0g hf (h:=?_)
 intro ρ h0
 simp [V0b,M0g,M0h,M0i,h0,h.slen]
 refine c0F (n:=ll.length) (fun i ρ G=>ρ 0=v∧ρ 9=v∧G=H∧ρ 3=.int .i64 ((ll.take i).flatten.length:Int)) rfl rfl (by decide) (by omega) (by simp) (by simp) ?_ ?_ ?_ ?_
 ·exact ⟨by simp [h0],by simp [h0],rfl,by simp⟩
 ·intro i ρ ρ' G h hI;simpa [h] using hI
 ·clear h0 ρ
  rintro i ρ G hi gi gn ⟨g0,g9,rfl,g3⟩
  obtain ⟨w,hl,k0⟩:=PIL.load h hi
  have hfs:=q0s hi
  have hle:=y0r (ll:=ll) (i:=i + 1)
  have hlen:(ll.take (i + 1)).flatten.length=(ll.take i).flatten.length + ll[i].length:=by rw [hfs,Z0S]
  have wr:IntKind.i64.wrap (((ll.take i).flatten.length:Int) + (ll[i].length:Int))=((ll.take (i + 1)).flatten.length:Int):=by
   rw [a0F (by omega) (by omega)];omega
  obtain ⟨A,hA⟩:∃ A,A=(ll.take i).flatten.length:=⟨_,rfl⟩
  obtain ⟨B,hB⟩:∃ B,B=(ll.take (i + 1)).flatten.length:=⟨_,rfl⟩
  rw [← hA,← hB] at wr
  rw [← hA] at g3
  simp [M0j,gi,g9,h.ia hi,hl]
  simp [M0k,g3,k0.slen,wr]
  simp [M0l,show ¬ (B:Int) < 0 by omega]
  exact Rnd.mk (by simp [gi]) (by simp [gn]) ⟨by simp [g0],by simp [g9],rfl,by simp [hB]⟩
 ·clear h0 ρ
  rintro ρ G gi gn ⟨g0,g9,rfl,g3⟩
  rw [a1a] at g3
  obtain ⟨M,hM⟩:∃ M,M=ll.flatten.length:=⟨_,rfl⟩
  rw [← hM] at g3
  simp [M0m,g3]
  refine (x0l (Z0E _) (by omega)).mono ?_
  rintro s G2 ⟨hs,hx⟩
  simp [E0S,g0,h.slen]
  refine c0F (n:=ll.length) (fun i ρ G'=>ρ 25=v∧Ext G G'∧v0J PIr G.size G' a0a 2 (ρ 6) (ll.take i).flatten) rfl rfl (by decide) (by omega) (by simp) (by simp) ?_ ?_ ?_ ?_
  ·exact ⟨by simp,hx,[],by simpa using hs,by simp⟩
  ·intro i ρ ρ' G h hI;simpa [h] using hI
  ·clear hs hx g0 g9 g3 gi gn ρ G2
   rintro i ρ G2 hi gi gn ⟨g25,hx,hs⟩
   have h':=h.mono O0A hx
   obtain ⟨w,hl,k0⟩:=PIL.load h' hi
   have hfs:=q0s hi
   have hle:=y0r (ll:=ll) (i:=i + 1)
   rw [hfs,Z0S] at hle
   obtain ⟨v',G3,a1,a2,a3⟩:=hs.cat k0 (by omega) hx.1
   simp [E0T,gi,g25,h'.ia hi,hl]
   simp [E0U,a1]
   exact Rnd.mk (by simp [gi]) (by simp [gn]) ⟨by simp [g25],a3 _ (Z0E _) hx,by rw [hfs];simpa using a2⟩
  ·rintro ρ G3 _ _ ⟨_,hx3,hs3⟩
   rw [a1a] at hs3
   simp [E0V]
   exact fun _=>hs3.sls
theorem b0a.up {α:Type} {Q:a0e→List Value→α→Prop} {f2 e sz:Nat} {l:List α} (h:b0a Q fl G e sz v l) (hb:∀ b,slB v=some b→f2≤b):b0a Q f2 G e sz v l:=by
 obtain ⟨cs',⟨hl',h1 | ⟨b',cap,rfl,hp,hf⟩⟩,h2⟩:=h
 ·exact ⟨cs',⟨hl',.inl h1⟩,h2⟩
 ·exact ⟨cs',⟨hl',.inr ⟨b',cap,rfl,hp,hb _ rfl⟩⟩,h2⟩
theorem b0a.appUp {α:Type} {P:a0e→List Value→α→Prop} {f2 e sz:Nat} {l:List α} (he:e ≠ a0m) (hO:∀ G' cs x,c0V (slB v) G G'→Lx G G'→P G cs x→P G' cs x) (h:b0a P f2 G e sz v l) {e2 c bytes:Nat} {new:List Value} {x:α} (hx:P G new x) (hl:new.length=sz) (hp:new.all a0q=true) (hn:l.length < 1073741824) (hb:bytes≤1024) (hs:0 < sz) (hfl:fl≤f2) (hf2:f2≤G.size) :
  ∃ v' G',h0g fl (G.push (.row false e2 new)) e sz bytes v (.slice (some ⟨G.size,0,none⟩) 1 c)=some (v',G')∧b0a P f2 G' e sz v' (l ++ [x])∧c0V (slB v) G G'∧(∀ H0,H0.size≤f2→Ext H0 G→Ext H0 G'):=by
 obtain ⟨v',G',a1,a2,a3,a4⟩:=b0a.app (e2:=e2) (c:=c) (bytes:=bytes) he hO (h.low hfl) hx hl hp hn hb hs (by omega)
 obtain ⟨_,_,hv⟩:=e0b (by decide) a1
 refine ⟨v',G',a1,a2.up (fun b hb=>?_),a3,fun H0 h1 h2=>⟨Z0N h2.1 a3.1,fun b hb=>?_⟩⟩
 ·rw [hv] at hb;simp [slB] at hb;omega
 ·rw [a3.2 b (by have:=h2.1;omega) (fun h3=>by have:=(h.ge h3).1;omega)];exact h2.2 b hb
def t0B (E:Env) (fl nt tc b b2:Nat) (body:SCode) (Z:a0W→a0e→Prop) (Q:d0K) (R:a0u) (n i:Nat) (Inv:Nat→(Nat→Value)→a0e→Prop) (t:a0W) (H:a0e):Prop :=
 ∃ ρ' c,t=T nt ρ'∧ρ' tc=.bool c∧(c=true→i < n∧W E fl body (T nt ρ') H (u0d b2 b (l0V nt i Inv) Z Q) R)∧(c=false→Z (T nt ρ') H)
section
variable {E:Env} {fl nt tc b b2 n i:Nat} {body:SCode} {rc:List a0D} {Z:a0W→a0e→Prop} {Q:d0K} {R:a0u} {Inv:Nat→(Nat→Value)→a0e→Prop} {ρ:Nat→Value} {H:a0e}
theorem t0B.mk (c:Bool) (h1:ρ tc=.bool c) (h2:c=true→i < n∧W E fl body (T nt ρ) H (u0d b2 b (l0V nt i Inv) Z Q) R) (h3:c=false→Z (T nt ρ) H):t0B E fl nt tc b b2 body Z Q R n i Inv (T nt ρ) H:=⟨ρ,c,rfl,h1,h2,h3⟩
theorem R0i (Inv:Nat→(Nat→Value)→a0e→Prop) (n:Nat) (htc:tc < nt) (hI:Inv 0 ρ H)
  (step:∀ i ρ G,i≤n→Inv i ρ G→WR E fl rc (T nt ρ) G (t0B E fl nt tc b b2 body Z Q R n i Inv) R) :
  W E fl (.loop (.seq (.seq (.reg rc) (.cond (.tmp tc) .skip (.exit b))) (.block b2 body))) (T nt ρ) H (f0h b (h0H Z Q)) R:=by
 refine b0U (fun k t G=>∃ i ρ,i + k=n∧t=T nt ρ∧Inv i ρ G) Z n ⟨0,ρ,by omega,rfl,hI⟩ ?_ (fun _ _ h=>h)
 clear hI
 rintro k t G ⟨i,ρ,hik,rfl,hI⟩
 refine h0q (h0q (l0Z ((step i ρ G (by omega) hI).mono ?_)))
 rintro t' G' ⟨ρ',c,rfl,h1,h2,h3⟩
 simp only [e0h]
 cases c with
 | true =>
  obtain ⟨hi,h2⟩:=h2 rfl
  refine k0m true (by rw [j0o,b0Q htc,h1]) (fun _=>t0J ?_) (by simp)
  simp only [e0h]
  refine n0W (h2.mono fun e t2 G2 hq=>?_)
  have fin:l0V nt i Inv t2 G2→o0x b (fun t' H'=>∃ k',k' < k∧∃ i ρ,i + k' = n∧t' = T nt ρ∧Inv i ρ H') Z Q .normal t2 G2:=by
   rintro ⟨ρ3,rfl,h4⟩
   exact ⟨k - 1,by omega,i + 1,ρ3,by omega,rfl,h4⟩
  cases e with
  | normal=>exact fin hq
  | exit j =>
   simp only [u0d] at hq
   show (if j=b2 then _ else _)
   by_cases hj:j=b2
   ·rw [Z0I hj] at hq ⊢;exact fin hq
   ·rw [Z0F hj] at hq ⊢
    show (if j=b then _ else _)
    by_cases hj2:j=b
    ·rw [Z0I hj2] at hq ⊢;exact hq
    ·rw [Z0F hj2] at hq ⊢;exact hq
  | ret=>exact hq
 | false =>
  refine k0m false (by rw [j0o,b0Q htc,h1]) (by simp) (fun _=>t0I ?_)
  show (if b=b then _ else _)
  rw [Z0I rfl]
  exact h3 rfl
end
theorem f0V.loadX {l:List (List b0k)} (h:f0V H v l) (hx:Ext H G) {j:Nat} (hj:j < l.length):∃ w,b0o G false 1 (adr 1 v j)=some w∧b0y H w l[j]:=by
 obtain ⟨w,h1,h2⟩:=f0V.load h hj
 obtain ⟨cs,a,b⟩:=id h
 have e1:=a.load1 (Ext.refl _) hj
 have e2:=a.load1 hx hj
 exact ⟨w,by rw [e2,← e1,h1],h2⟩
theorem q0P:∀ {rows:List (List b0k)} {d:List c0c},d.length≤rows.length→d0d (rows.take d.length) (d.take d.length)=d0d rows d
 | _,[],_=>by simp [d0d]
 | [],_ :: _,h=>by simp at h
 | r :: rows,e :: d,h=>by
  have:=q0P (rows:=rows) (d:=d) (by simpa using h)
  simp only [a1s,c1l,d0d,this]
theorem q0Q:∀ {rows:List (List b0k)} {d:List c0c},d.length≤rows.length→d0e (rows.take d.length) (d.take d.length)=d0e rows d
 | _,[],_=>by simp [d0e]
 | [],_ :: _,h=>by simp at h
 | r :: rows,e :: d,h=>by
  have:=q0Q (rows:=rows) (d:=d) (by simpa using h)
  simp only [a1s,c1l,d0e,this]
def PSf (f:Nat) (o:Option Nat) (H:a0e) (cs:List Value) (l:List b0k):Prop:=∃ v,cs=[v]∧b0y H v l∧(slB v=none ∨ slB v ≠ o)∧∀ b,slB v=some b→f≤b
theorem i0M {f:Nat} {o:Option Nat}:h0p (PSf f o):=fun _ _ _ _ hx ⟨v,h1,h2,h3,h4⟩=>⟨v,h1,h2.mono a0I hx,h3,h4⟩
def t0E (H:a0e) (P N:Nat) (s w:Value) (rows:List (List b0k)) (d:List c0c) (i:Nat) (ρ:Nat→Value) (G:a0e):Prop :=
 ρ 2=.int .i64 (N:Int)∧ρ 3=.pointer (some ⟨H.size,0,none⟩)∧ρ 6=.pointer (some ⟨H.size + 1,0,none⟩)∧ρ 7=.pointer (some ⟨P,0,none⟩)∧ρ 15=w∧Ext H G ∧
  a0e.blk G H.size=.row false a0R [s]∧a0e.blk G (H.size + 1)=.row false b0G [.int .i64 0,.slice none 0 0,.slice none 0 0,.slice none 0 0] ∧
  ∃ sA sB,a0e.blk G P=.row false b0G [.int .i64 (N:Int),sA,sB,.slice none 0 0]∧b0a (PSf H.size (slB sB)) H.size G a0C 1 sA ((d0d (rows.take i) (d.take i)).map (u0r N)) ∧
   b0a PR H.size G a0b 4 sB (d0e (rows.take i) (d.take i))
def Q0T (fl N:Nat) (A:List (List b0k)) (B:List b0k) (r:Value) (H':a0e):Prop :=
 ∃ sA sB,r=.agg #[.int .i64 (N:Int),sA,sB,.slice none 0 0]∧b0a (PSf fl (slB sB)) fl H' a0C 1 sA A∧b0a PR fl H' a0b 4 sB B
theorem l0K {S N:Nat} {rows:List (List b0k)} {d:List c0c} (h:e0n H v rows) (hd:d0J H w d) (hf:fl≤H.size) (hS:S < 67108864) (hN:N < 1073741824) (hr:∀ r ∈ rows,Few S r∧r.length≤N) (hdl:d.length≤rows.length) (hrl:rows.length < 1073741824) (hfd:N0u d) :
  a0V env fl R0V [v,w,.int .i64 (N:Int)] H (fun r H'=>Q0T H.size N ((d0d rows d).map (u0r N)) (d0e rows d) r H'∧Ext H H') R:=by
 obtain ⟨s,rfl,hs⟩:=h
 refine a0k Y0R hf (h:=?_)
 intro ρ h0
 simp [U0M,K0T,h0,hs.cells]
 generalize hG:Array.push (Array.push H _) _=G
 obtain ⟨hx,b0,b1⟩:=push2 hG
 clear hG
 have hb1l:=a0g b1
 have hsz:=hx.1
 simp [K0U,h0,hsz]
 generalize hN:Array.setIfInBounds (Array.push _ _) _ _=G5
 obtain ⟨hx2,b3⟩:=new1 hN
 clear hN
 (try replace b0:=hx2.blk b0);(try replace b1:=hx2.blk b1);(try replace b3:=hx2.blk b3);(try replace b4:=hx2.blk b4);(try replace b5:=hx2.blk b5);(try replace b6:=hx2.blk b6);(try replace hx:=hx.trans hx2);(try replace k0:=k0.mono hx2);(try replace k1:=k1.mono hx2);(try replace k2:=k2.mono hx2);(try replace k3:=k3.mono hx2);(try replace k4:=k4.mono hx2)
 obtain ⟨P,hP⟩:∃ P,P=G.size:=⟨_,rfl⟩
 rw [← hP] at b3 hsz hb1l ⊢
 have hPne:P ≠ H.size + 1:=by omega
 have hPH:=hsz
 simp [K0V,h0,hd.slen]
 refine c0F (n:=d.length) (t0E H P N s w rows d) rfl rfl (by decide) (by omega) (by simp) (by simp) ?_ ?_ ?_ ?_
 ·exact ⟨by simp [h0],by simp,by simp,by simp,by simp [h0],hx,b0,b1,_,_,b3,by simpa [d0d] using b0a.nil,by simpa [d0e] using b0a.nil⟩
 ·intro i ρ ρ' G h hI;simpa [t0E,h] using hI
 ·clear h0 ρ hx b0 b1 b3 hx2 hsz hb1l hP G5 G
  rintro i ρ G hi gi gn ⟨g2,g3,g6,g7,g15,hx,b0,b1,sA,sB,b3,hA,hB⟩
  have hir:i < rows.length:=by omega
  have kd:=hd.mono d0h hx
  have ks:=hs.mono d0O hx
  obtain ⟨we,hle,k0⟩:=d0J.load kd hi
  obtain ⟨s1,s2,rfl,k1,k2⟩:=id k0
  have hsz:=hx.1
  simp [K0W,g15,gi,kd.ia hi,hle,k1.cells,k1.plain,k2.cells,k2.plain,hsz]
  generalize hN:Array.setIfInBounds (Array.push _ _) _ _=G3
  obtain ⟨hx2,b4⟩:=new1 hN
  clear hN
  (try replace b0:=hx2.blk b0);(try replace b1:=hx2.blk b1);(try replace b3:=hx2.blk b3);(try replace b4:=hx2.blk b4);(try replace b5:=hx2.blk b5);(try replace b6:=hx2.blk b6);(try replace hx:=hx.trans hx2);(try replace k0:=k0.mono hx2);(try replace k1:=k1.mono hx2);(try replace k2:=k2.mono hx2);(try replace k3:=k3.mono hx2);(try replace k4:=k4.mono hx2)
  replace ks:=ks.mono d0O hx2
  replace hA:=hA.mono i0M hx2
  replace hB:=hB.mono a0I hx2
  obtain ⟨P2,hP2⟩:∃ P2,P2=G.size:=⟨_,rfl⟩
  rw [← hP2] at b4 hsz ⊢
  clear hx2 hle kd hP2 G
  by_cases he:d[i].1=0
  ·simp [E0y,b4,he]
   have hmk:=f0C (bytes:=64) (k:=.i64) (k':=.i64) (l:=0) (c:=N) (a1x _) (by omega) (by omega)
   simp only [Int.natCast_zero] at hmk
   simp [K0X,g2,hmk]
   generalize hN:Array.push G3 _=G4
   obtain ⟨hx2,b5⟩:=h0K hN
   clear hN
   obtain ⟨wr,hlr,kr⟩:=f0V.loadX ks hx2 hir
   obtain ⟨hfr,hrN⟩:=hr _ (Z0M hir)
   have ho:b0a PR G3.size G4 a0b 4 (.slice (some ⟨G3.size,0,none⟩) 0 N) ([]:List b0k):=⟨[],Own.mk b5 rfl (Z0E _),by simp⟩
   have hbs:=hx2.blk b0
   have hxs:=hx.1
   simp [K0Y,g3,hbs,(ks.mono d0O hx2).ia hir,hlr,kr.slen]
   clear hbs hlr
   refine c0F (n:=rows[i].length) (fun j ρ G=>ρ 2=.int .i64 (N:Int)∧ρ 3=.pointer (some ⟨H.size,0,none⟩)∧ρ 6=.pointer (some ⟨H.size + 1,0,none⟩)∧ρ 7=.pointer (some ⟨P,0,none⟩)∧ρ 15=w∧ρ 16=.int .i64 (d.length:Int)∧ρ 17=.int .i64 (i:Int)∧ρ 9=.pointer (some ⟨P2,0,none⟩)∧ρ 31=wr∧Ext G3 G∧b0a PR G3.size G a0b 4 (ρ 10) ((g0Z rows[i]).take j)) rfl rfl (by decide) (by omega) (by simp) (by simp) ?_ ?_ ?_ ?_
   ·exact ⟨by simp [g2],by simp [g3],by simp [g6],by simp [g7],by simp [g15],by simp [gn],by simp [gi],by simp,by simp,hx2,by simpa using ho⟩
   ·intro i ρ ρ' G h hI;simpa [h] using hI
   ·clear g2 g3 g6 g7 g15 gi gn b5 ho hx2 hmk ρ G4
    rintro j ρ G hj gj gm ⟨g2,g3,g6,g7,g15,gn,gi,g9,g31,hx,ho⟩
    obtain ⟨r,g10⟩:∃ r,ρ 10=r:=⟨_,rfl⟩
    rw [g10] at ho
    have kv:=kr.mono a0I hx
    obtain ⟨x,hlx,k0⟩:=b0y.load kv hj
    obtain ⟨y1,y2,rfl,q1,q2⟩:=id k0
    have hf2:=hfr _ (Z0M hj)
    have hsz:=Z0N hxs hx.1
    simp [K0Z,g31,gj,kv.ia hj,hlx,q1.cells,q1.plain,q2.cells,q2.plain,hsz]
    generalize hN:Array.setIfInBounds (Array.push _ _) _ _=G5
    obtain ⟨hx2,b6⟩:=new1 hN
    clear hN
    replace ho:=ho.mono a0I hx2
    replace hx:=hx.trans hx2
    replace k0:=b0R.mono k0 hx2
    clear hx2 hlx kv q1 q2
    simp [E0t,b6]
    refine (b0D k0 (b:=c0l) e0C (Z0N hxs hx.1) (by omega) (by decide)).mono ?_
    rintro _ G2 ⟨⟨s3,s4,rfl,k3,k4⟩,hx2⟩
    replace ho:=ho.mono a0I hx2
    replace hx:=hx.trans hx2
    rw [e0F,b1D] at k3 k4 ⊢
    obtain ⟨s',G4,h1,h2,h3,h4⟩:=b0a.appUp (fl:=H.size) (P:=PR) (sz:=4) (e:=a0b) (by decide) (fun G' cs x _ hl h=>b0R.lx h hl) ho (e2:=a0b) (c:=1) (bytes:=64) (new:=[.bool (a0f (b0A rows[i][j])).1.1,s3,.bool (a0f (b0A rows[i][j])).2.1,s4]) (x:=a0f (b0A rows[i][j])) ⟨s3,s4,rfl,k3,k4⟩ rfl (by simp [k3.plain,k4.plain]) (by simp;omega) (by omega) (by omega) hxs hx.1
    simp [g10,k3.cells,k4.cells,h1]
    exact Rnd.mk (by simp [gj]) (by simp [gm]) ⟨by simp [g2],by simp [g3],by simp [g6],by simp [g7],by simp [g15],by simp [gn],by simp [gi],by simp [g9],by simp [g31],h4 _ (Z0E _) hx,b0a.cast (v':=s') (by simp) (by unfold g0Z;rw [p0K hj];exact h2)⟩
   clear g2 g3 g6 g7 g15 gi gn b5 ho hx2 hmk ρ G4
   rintro ρ G gz1 gz2 ⟨g2,g3,g6,g7,g15,gn,gi,g9,gz3,hx2,ho⟩
   clear gz1 gz2 gz3
   rw [Z0R (by simp [g0Z])] at ho
   refine R0i (fun c ρ G=>ρ 2=.int .i64 (N:Int)∧ρ 3=.pointer (some ⟨H.size,0,none⟩)∧ρ 6=.pointer (some ⟨H.size + 1,0,none⟩)∧ρ 7=.pointer (some ⟨P,0,none⟩)∧ρ 15=w∧ρ 16=.int .i64 (d.length:Int)∧ρ 17=.int .i64 (i:Int)∧ρ 9=.pointer (some ⟨P2,0,none⟩)∧Ext G3 G∧b0a PR G3.size G a0b 4 (ρ 10) (g0Z rows[i] ++ List.replicate c (a0f 0))) (N - rows[i].length) (by decide) ?_ ?_
   ·exact ⟨g2,g3,g6,g7,g15,gn,gi,g9,hx2,by simpa using ho⟩
   clear g2 g3 g6 g7 g15 gi gn ho hx2 ρ G g9
   rintro c ρ G hc ⟨g2,g3,g6,g7,g15,gn,gi,g9,hx2,ho⟩
   obtain ⟨r,g10⟩:∃ r,ρ 10=r:=⟨_,rfl⟩
   rw [g10] at ho
   have hol:(g0Z rows[i] ++ List.replicate c (a0f 0)).length=rows[i].length + c:=by simp [g0Z]
   have hsl:=ho.slen
   rw [hol] at hsl
   simp [-Int.natCast_add,E0u,g10,g2,hsl]
   refine t0B.mk (decide (((rows[i].length + c:Nat):Int) < (N:Int))) (by simp [-Int.natCast_add]) (fun hlt=>?_) (fun hge=>?_)
   ·have hlt':=of_decide_eq_true hlt
    refine ⟨by omega,?_⟩
    simp [E0v,g10]
    refine (b0V (n:=0) (Z0N hxs hx2.1) (by decide) (by decide)).mono ?_
    rintro _ G2 ⟨⟨s3,s4,rfl,k3,k4⟩,hx3⟩
    replace ho:=ho.mono a0I hx3
    replace hx2:=hx2.trans hx3
    have e0:((0:Int):Rat)=0:=rfl
    rw [e0] at k3 k4 ⊢
    obtain ⟨s',G4,h1,h2,h3,h4⟩:=b0a.appUp (fl:=H.size) (P:=PR) (sz:=4) (e:=a0b) (by decide) (fun G' cs x _ hl h=>b0R.lx h hl) ho (e2:=a0b) (c:=1) (bytes:=64) (new:=[.bool (a0f 0).1.1,s3,.bool (a0f 0).2.1,s4]) (x:=a0f 0) ⟨s3,s4,rfl,k3,k4⟩ rfl (by simp [k3.plain,k4.plain]) (by omega) (by omega) (by omega) hxs hx2.1
    simp [k3.cells,k4.cells,h1]
    exact l0V.mk ⟨by simp [g2],by simp [g3],by simp [g6],by simp [g7],by simp [g15],by simp [gn],by simp [gi],by simp [g9],h4 _ (Z0E _) hx2,b0a.cast (v':=s') (by simp) (by rw [List.replicate_succ',← b1u];exact h2)⟩
   have hge':=of_decide_eq_false hge
   have hpad:g0Z rows[i] ++ List.replicate c (a0f 0)=u0r N (g0Z rows[i]):=by
    unfold u0r
    rw [show N - (g0Z rows[i]).length=c by simp [g0Z];omega]
   rw [hpad] at ho
   clear hpad hsl hol hge hge' hc
   replace b0:=hx2.blk b0
   replace b1:=hx2.blk b1
   replace b3:=hx2.blk b3
   replace b4:=hx2.blk b4
   replace hx:=hx.trans hx2
   replace k1:=k1.mono hx2
   replace k2:=k2.mono hx2
   replace hA:=hA.mono i0M hx2
   have hBlt:∀ b,slB sB=some b→b < G3.size:=fun b h=>(hB.ge h).2
   replace hB:=hB.mono a0I hx2
   have hlA:=i0m (rows.take i) (d.take i)
   have hlB:=k0W (rows.take i) (d.take i)
   simp only [a1H] at hlA hlB
   have hrB:slB r=none ∨ slB r ≠ slB sB:=by
    cases hr1:slB r with
    | none=>exact .inl rfl
    | some b =>
     right;intro h
     have:=(ho.ge hr1).1
     have:=hBlt b h.symm
     omega
   obtain ⟨cr,pr⟩:=ho.cells
   obtain ⟨sA',G5,h1,h2,h3,h4⟩:=b0a.app (P:=PSf H.size (slB sB)) (sz:=1) (e:=a0C) (by decide)
    (fun G' cs x hxb hl ⟨w',q1,q2,q3,q4⟩=>⟨w',q1,q2.lx2 (hA.lxT (by decide) hxb) hl,q3,q4⟩) hA (e2:=a0C) (c:=1) (bytes:=24) (new:=[r]) (x:=u0r N (g0Z rows[i])) ⟨r,rfl,ho.sls,hrB,fun b hb=>by have:=(ho.ge hb).1;omega⟩ rfl (by simp [pr]) (by rw [a1P];omega) (by omega) (by omega) hx.1
   obtain ⟨_,_,hAe⟩:=e0b (by decide) h1
   have hlx:=hA.lx (by decide) h3
   have hlr:=hA.lxT (e':=a0b) (by decide) h3
   have nA0:=hA.ne b0 (by decide)
   have nA1:=hA.ne b1 (by decide)
   have nA3:=hA.ne b3 (by decide)
   have nA4:=hA.ne b4 (by decide)
   have hAo:=hA.blkOf
   have c3:=b3
   replace b0:=(h3.2 _ (a0g b0) nA0).trans b0
   replace b1:=(h3.2 _ (a0g b1) nA1).trans b1
   replace b3:=(h3.2 _ (a0g b3) nA3).trans b3
   replace b4:=(h3.2 _ (a0g b4) nA4).trans b4
   replace hx:=h4 _ (Z0E _) hx
   replace k1:=k1.lx hlx
   replace k2:=k2.lx hlx
   replace hB:=hB.lxm (Q':=PR) hlr (fun cs x h=>b0R.lx h hlx)
   refine c0u ?_
   simp [E0w,g7,g9,g10,c3,b3,b4,cr,h1]
   clear c3
   refine (b0D (a:=d[i].2) ⟨s1,s2,rfl,k1,k2⟩ (b:=c0l) e0C (by have:=hx.1;omega) (hfd _ (Z0M hi)) (by decide)).mono ?_
   rintro _ G6 ⟨⟨s3,s4,rfl,k3,k4⟩,hx2⟩
   (try replace b0:=hx2.blk b0);(try replace b1:=hx2.blk b1);(try replace b3:=hx2.blk b3);(try replace b4:=hx2.blk b4);(try replace b5:=hx2.blk b5);(try replace b6:=hx2.blk b6);(try replace hx:=hx.trans hx2);(try replace k0:=k0.mono hx2);(try replace k1:=k1.mono hx2);(try replace k2:=k2.mono hx2);(try replace k3:=k3.mono hx2);(try replace k4:=k4.mono hx2)
   replace hA:=h2.mono i0M hx2
   replace hB:=hB.mono a0I hx2
   rw [e0F,b1D] at k3 k4 ⊢
   obtain ⟨sB',G7,p1,p2,p3,p4⟩:=b0a.app (P:=PR) (sz:=4) (e:=a0b) (by decide) (fun G' cs x _ hl h=>b0R.lx h hl) hB (e2:=a0b) (c:=1) (bytes:=64) (new:=[.bool (a0f (b0A d[i].2)).1.1,s3,.bool (a0f (b0A d[i].2)).2.1,s4]) (x:=a0f (b0A d[i].2)) ⟨s3,s4,rfl,k3,k4⟩ rfl (by simp [k3.plain,k4.plain]) (by omega) (by omega) (by omega) hx.1
   obtain ⟨_,_,hBe⟩:=e0b (by decide) p1
   have hlx:=hB.lx (by decide) p3
   have nB0:=hB.ne b0 (by decide)
   have nB1:=hB.ne b1 (by decide)
   have nB3:=hB.ne b3 (by decide)
   have nB4:=hB.ne b4 (by decide)
   have hsBn:slB sB' = some (G6.size + 1):=by rw [hBe];simp [slB]
   have hA':b0a (PSf H.size (slB sB')) H.size G7 a0C 1 sA' ((d0d (rows.take (i + 1)) (d.take (i + 1))).map (u0r N)):=by
    rw [i0U hir hi,Z0I he,b1R]
    refine hA.lxm (hB.lxT (by decide) p3) (fun cs x ⟨w',q1,q2,q3,q4⟩=>⟨w',q1,q2.off p3 q3 hlx,?_,q4⟩)
    cases hw:slB w' with
    | none=>exact .inl rfl
    | some b=>right;rw [hsBn];have:=q2.lt hw;simp;omega
   replace b0:=(p3.2 _ (a0g b0) nB0).trans b0
   replace b1:=(p3.2 _ (a0g b1) nB1).trans b1
   replace b3:=(p3.2 _ (a0g b3) nB3).trans b3
   replace hx:=p4 _ (Z0E _) hx
   have hB':b0a PR H.size G7 a0b 4 sB' (d0e (rows.take (i + 1)) (d.take (i + 1))):=by rw [i0V hir hi,Z0I he];exact p2
   obtain ⟨cA,pA⟩:=hA'.cells
   obtain ⟨cB,pB⟩:=hB'.cells
   have hz:=a0g b3
   simp [g7,b3,k3.cells,k4.cells,p1,cA,pA,cB,pB,hPH,hz]
   generalize hS1:Array.setIfInBounds G7 P _=G8
   have t1:∀ {e:Nat},b0G ≠ e→LxT e G7 G8:=fun hne=>a0X hS1 b3 hne
   have n0:P ≠ H.size:=by intro h;rw [h,b0] at b3;cases b3
   have hbo:∀ x,x ∈ blkW sA→slB sA=some x:=by
    rcases hAo with h | ⟨b,h,h'⟩
    ·rw [h];simp
    ·rw [h,h'];simp
   refine ⟨⟨fun x hx h=>nA3 (by rw [hbo x hx,h]),fun x hx h=>nA4 (by rw [hbo x hx,h])⟩,Rnd.mk (by simp [gi]) (by simp [gn]) ⟨by simp [g2],by simp [g3],by simp [g6],by simp [g7],by simp [g15],b0J hS1 hx hPH,a0z hS1 b0 n0,a0z hS1 b1 hPne,sA',sB',a0M hS1 b3,?_,?_⟩⟩
   ·exact hA'.lxm (t1 (by decide)) (fun cs x ⟨w',q1,q2,q3,q4⟩=>⟨w',q1,q2.lx2 (t1 (by decide)) (t1 (by decide)),q3,q4⟩)
   ·exact hB'.lxm (t1 (by decide)) (fun cs x h=>b0R.lx h (t1 (by decide)))
  ·simp [E0y,b4,he]
   refine Rnd.mk (by simp [gi]) (by simp [gn]) ⟨by simp [g2],by simp [g3],by simp [g6],by simp [g7],by simp [g15],hx,b0,b1,sA,sB,b3,?_,?_⟩
   ·rw [i0U hir hi,Z0F he,List.append_nil];exact hA
   ·rw [i0V hir hi,Z0F he,List.append_nil];exact hB
 ·clear h0 ρ hx b0 b1 b3 hx2 hsz hb1l hP G5 G
  rintro ρ G gi gn ⟨g2,g3,g6,g7,g15,hx,b0,b1,sA,sB,b3,hA,hB⟩
  rw [q0P hdl] at hA
  rw [q0Q hdl] at hB
  have hz:=a0g b1
  obtain ⟨cA,pA⟩:=hA.cells
  obtain ⟨cB,pB⟩:=hB.cells
  simp [E0x,g6,g7,b3,b1,cA,pA,cB,pB,hz]
  generalize hS:Array.setIfInBounds _ _ _=G9
  have t1:∀ {e:Nat},b0G ≠ e→LxT e G G9:=fun hne=>a0X hS b1 hne
  refine fun _=>⟨sA,sB,rfl,?_,?_⟩
  ·exact hA.lxm (t1 (by decide)) (fun cs x ⟨w',q1,q2,q3,q4⟩=>⟨w',q1,q2.lx2 (t1 (by decide)) (t1 (by decide)),q3,q4⟩)
  ·exact hB.lxm (t1 (by decide)) (fun cs x h=>b0R.lx h (t1 (by decide)))
def Oth (H:a0e) (P:Nat) (sA sB:Value) (G:a0e):Prop:=H.size≤G.size∧∀ b,b < H.size→b ≠ P→slB sA ≠ some b→slB sB ≠ some b→G.blk b=H.blk b
theorem Oth.ext {P:Nat} {sA sB:Value} {H0:a0e} (h:Oth H P sA sB G) (hf:H0.size≤fl) (hP:fl≤P) (hA:∀ b,slB sA=some b→fl≤b) (hB:∀ b,slB sB=some b→fl≤b) (hx:Ext H0 H):Ext H0 G :=
 ⟨Z0N hx.1 h.1,fun b hb=>by
  rw [h.2 b (by have:=hx.1;omega) (by omega) (fun h1=>by have:=hA b h1;omega) (fun h1=>by have:=hB b h1;omega)];exact hx.2 b hb⟩
theorem Oth.step {P:Nat} {sA sB:Value} {G':a0e} (h:Oth H P sA sB G) (hx:Ext G G'):Oth H P sA sB G' :=
 ⟨Z0N h.1 hx.1,fun b hb h1 h2 h3=>(hx.2 b (by have:=h.1;omega)).trans (h.2 b hb h1 h2 h3)⟩
theorem Oth.stepB {P:Nat} {sA sB s:Value} {G':a0e} (h:Oth H P sA sB G) (hx:c0V (slB s) G G') (hs:∀ b,slB s=some b→slB sA=some b ∨ slB sB=some b ∨ H.size≤b):Oth H P sA sB G' :=
 ⟨Z0N h.1 hx.1,fun b hb h1 h2 h3=>(hx.2 b (by have:=h.1;omega) (fun h4=>by
  rcases hs b h4 with h5 | h5 | h5
  ·exact h2 h5
  ·exact h3 h5
  ·omega)).trans (h.2 b hb h1 h2 h3)⟩
theorem Oth.set {P:Nat} {sA sB:Value} {G':a0e} {X:Blk} (h:Oth H P sA sB G) (hS:Array.setIfInBounds G P X=G'):Oth H P sA sB G':=by
 subst hS
 exact ⟨by simpa using h.1,fun b hb h1 h2 h3=>(a0Q (b1k h1)).trans (h.2 b hb h1 h2 h3)⟩
theorem PIL.two {b k:Nat} {ro:Bool} {x y:Value} {l m:List (Bool × List Nat)} (hb:a0e.blk G b=.row ro b0b [x,y]) (hx:f0U G x l) (hy:f0U G y m):Sls PIL G b0b 1 (.slice (some ⟨b,0,none⟩) 2 k) [l,m]:=by
 refine ⟨[x,y],⟨rfl,.inr ⟨b,0,k,ro,[x,y],rfl,hb,by simp,by simp⟩⟩,fun j hj=>?_⟩
 match j,hj with
 | 0,_=>exact ⟨x,rfl,hx⟩
 | 1,_=>exact ⟨y,rfl,hy⟩
theorem w0Z {k:Bool × List Nat}:c0q (a0l (-a0P k))=a0f (-vQ k):=by
 unfold c0q vQ
 rw [a0j,Rat.intCast_neg]
structure Q0c (fl f:Nat) (H:a0e) (P N:Nat) (sA sB sC:Value) (A:List (List b0k)) (B:List b0k):Prop where
 blk:a0e.blk H P=.row false b0G [.int .i64 (N:Int),sA,sB,sC]
 A:b0a (PSf f (slB sB)) fl H a0C 1 sA A
 B:b0a PR fl H a0b 4 sB B
theorem Q0c.mono {P N f0:Nat} {sA sB sC:Value} {A:List (List b0k)} {B:List b0k} (h:Q0c fl f0 H P N sA sB sC A B) (hx:Ext H G):Q0c fl f0 G P N sA sB sC A B:=⟨hx.blk h.blk,h.A.mono i0M hx,h.B.mono a0I hx⟩
theorem v0H.mem {a:f0v} (h:v0H a) {x:Bool × List Nat} (hx:x ∈ a.all):x.2.length≤40:=by
 rcases a1g.1 hx with h1 | h1
 ·exact (h.1 x h1).1
 ·exact (h.2.1 x h1).1
def n0S (fl f0:Nat) (H:a0e) (P N:Nat) (sA sB sC:Value) (A:List (List b0k)) (B:List b0k) (gs:List f0v) (G:a0e):Prop :=
 Oth H P sA sB G∧∃ sA' sB',Q0c fl f0 G P N sA' sB' sC (A ++ gs.map fun g=>g.all.map c0q) (B ++ gs.map fun g=>a0f (-vQ g.K))∧(∀ b,slB sA' = some b→slB sA=some b ∨ slB sB=some b ∨ H.size≤b)∧(∀ b,slB sB' = some b→slB sA=some b ∨ slB sB=some b ∨ H.size≤b)
theorem n0S.low {P N f0:Nat} {sA sB sC:Value} {A:List (List b0k)} {B:List b0k} {gs:List f0v} (h:n0S fl f0 H P N sA sB sC A B gs G):H.size≤G.size:=h.1.1
theorem j0d {H0:a0e} {P N f0:Nat} {sA sB sC:Value} {A:List (List b0k)} {B:List b0k} {gs:List f0v} (h0x:Ext H0 H) (h0f:H0.size≤fl) (hf:fl≤H.size) (hf0:f0≤H.size) (hl:h0o H0 u gs) (hP:fl≤P) (hp:Q0c fl f0 H P N sA sB sC A B)
  (hsz:gs.length + A.length + B.length < 1073741824) (hg:∀ g ∈ gs,v0H g∧g.all.length < 1073741824) :
  a0V env fl R0W [.pointer (some ⟨P,0,none⟩),u] H (fun _ H'=>n0S fl f0 H P N sA sB sC A B gs H'∧f0u fl H H') R:=by
 refine k0w Y0S hf (h:=?_)
 intro ρ h0
 have hA0:∀ b,slB sA=some b→fl≤b:=fun b hb=>(hp.A.ge hb).1
 have hB0:∀ b,slB sB=some b→fl≤b:=fun b hb=>(hp.B.ge hb).1
 simp [U0N,L0a,h0,(hl.mono b0P h0x).slen]
 refine m0D (n:=gs.length) (fun i ρ G=>ρ 0=.pointer (some ⟨P,0,none⟩)∧ρ 9=u∧n0S fl f0 H P N sA sB sC A B (gs.take i) G) rfl rfl (by decide) (by omega) (by simp) (by simp) ?_ ?_ ?_ ?_
 ·exact ⟨by simp [h0],by simp [h0],⟨Z0E _,fun _ _ _ _ _=>rfl⟩,sA,sB,by simpa using hp,fun b hb=>.inl hb,fun b hb=>.inr (.inl hb)⟩
 ·intro i ρ ρ' G h hI;simpa [h] using hI
 ·clear h0 ρ
  rintro i ρ G hi gi gn ⟨g0,g9,hO,sA1,sB1,hpb,hA1,hB1⟩
  have hx:=hO.ext h0f hP hA0 hB0 h0x
  have kl:=hl.mono b0P hx
  obtain ⟨we,hle,k0⟩:=h0o.load kl hi
  obtain ⟨sX,sW,s,rfl,kX,kW,kK⟩:=k0
  obtain ⟨⟨hfX,hfW,hfK,hfO⟩,hgl⟩:=hg _ (Z0M hi)
  have hGs:=hO.1
  have hflG:fl≤G.size:=Z0N hf hGs
  simp [L0b,L0c,g9,gi,kl.ia hi,hle,kX.cells,kW.cells,kX.plain,kW.plain,kK.cells,kK.plain,hflG]
  generalize hN:Array.setIfInBounds (Array.push _ _) _ _=G3
  obtain ⟨hx2,b5⟩:=new1 hN
  clear hN
  obtain ⟨P2,hP2⟩:∃ P2,P2=G.size:=⟨_,rfl⟩
  rw [← hP2] at b5 ⊢
  have hp1:=hpb.mono hx2
  replace hO:=hO.step hx2
  replace kX:=kX.mono c0a hx2
  replace kW:=kW.mono c0a hx2
  replace kK:=kK.mono hx2
  clear hx hpb hx2 hP2 hle kl hflG hGs G
  simp [L0d,b5,kX.cells,kW.cells]
  generalize hN:Array.push G3 _=G4
  obtain ⟨hx2,b6⟩:=h0K hN
  clear hN
  have hall:[gs[i].X,gs[i].W].flatten=gs[i].all:=by simp [f0v.all]
  have hfl4:fl≤G4.size:=Z0N hf (Z0N hO.1 hx2.1)
  refine (k0g (PIL.two b6 (kX.mono c0a hx2) (kW.mono c0a hx2)) hfl4 (by simp) (by rw [hall];omega)).mono ?_
  rintro c G5 ⟨kc,hx3⟩
  replace hx2:=hx2.trans hx3
  rw [hall] at kc
  replace hp1:=hp1.mono hx2
  replace hO:=hO.step hx2
  replace b5:=hx2.blk b5
  replace kK:=kK.mono hx2
  clear hx3 b6 hx2 hfl4 hall kX kW G4
  have hfl5:fl≤G5.size:=Z0N hf hO.1
  have hf5:f0≤G5.size:=Z0N hf0 hO.1
  have hfx:∀ x ∈ gs[i].all,x.2.length≤40:=fun x hx=>v0H.mem ⟨hfX,hfW,hfK,hfO⟩ hx
  simp [kc.slen]
  refine c0F (n:=gs[i].all.length) (fun j ρ G=>ρ 0=.pointer (some ⟨P,0,none⟩)∧ρ 9=u∧ρ 10=.int .i64 (gs.length:Int)∧ρ 11=.int .i64 (i:Int)∧ρ 5=.pointer (some ⟨P2,0,none⟩)∧ρ 20=c∧Ext G5 G∧b0a PR G5.size G a0b 4 (ρ 6) ((gs[i].all.map c0q).take j)) rfl rfl (by decide) (by omega) (by simp) (by simp) ?_ ?_ ?_ ?_
  ·exact ⟨by simp [g0],by simp [g9],by simp [gn],by simp [gi],by simp,by simp,Ext.refl _,by simpa using b0a.nil⟩
  ·intro i ρ ρ' G h hI;simpa [h] using hI
  ·clear g0 g9 gi gn ρ
   rintro j ρ G hj gj gm ⟨g0,g9,gn,gi,g5,g20,hx,ho⟩
   obtain ⟨r,g6⟩:∃ r,ρ 6=r:=⟨_,rfl⟩
   rw [g6] at ho
   have kv:=kc.mono c0a hx
   obtain ⟨y,hlx,q1⟩:=f0U.load kv hj
   have hsz:=Z0N hfl5 hx.1
   simp [L0e,g20,gj,kv.ia hj,hlx,q1.cells,q1.plain,hsz]
   generalize hN:Array.setIfInBounds (Array.push _ _) _ _=G6
   obtain ⟨hx2,b6⟩:=new1 hN
   clear hN
   replace ho:=ho.mono a0I hx2
   replace hx:=hx.trans hx2
   replace q1:=q1.mono hx2
   clear hx2 hlx kv
   simp [L0f,b6]
   refine (d0o (x:=gs[i].all[j]) ⟨_,rfl,q1⟩ (Z0N hfl5 hx.1) (by have:=hfx _ (Z0M hj);omega)).mono ?_
   rintro _ G2 ⟨⟨s3,s4,rfl,k3,k4⟩,hx2⟩
   replace ho:=ho.mono a0I hx2
   replace hx:=hx.trans hx2
   obtain ⟨s',G4,h1,h2,h3,h4⟩:=b0a.appUp (fl:=fl) (P:=PR) (sz:=4) (e:=a0b) (by decide) (fun G' cs x _ hl h=>b0R.lx h hl) ho (e2:=a0b) (c:=1) (bytes:=64) (new:=[.bool (c0q gs[i].all[j]).1.1,s3,.bool (c0q gs[i].all[j]).2.1,s4]) (x:=c0q gs[i].all[j]) ⟨s3,s4,rfl,k3,k4⟩ rfl (by simp [k3.plain,k4.plain]) (by simp;omega) (by omega) (by omega) hfl5 hx.1
   simp [g6,k3.cells,k4.cells,h1]
   exact Rnd.mk (by simp [gj]) (by simp [gm]) ⟨by simp [g0],by simp [g9],by simp [gn],by simp [gi],by simp [g5],by simp [g20],h4 _ (Z0E _) hx,b0a.cast (v':=s') (by simp) (by rw [p0K hj];exact h2)⟩
  clear g0 g9 gi gn ρ
  rintro ρ G gz1 gz2 ⟨g0,g9,gn,gi,g5,gz3,hx2,ho⟩
  clear gz1 gz2 gz3
  rw [Z0R (by simp)] at ho
  obtain ⟨r,g6⟩:∃ r,ρ 6=r:=⟨_,rfl⟩
  rw [g6] at ho
  have hBlt:∀ b,slB sB1=some b→b < G5.size:=fun b h=>(hp1.B.ge h).2
  obtain ⟨b3,hA,hB⟩:=hp1.mono hx2
  replace b5:=hx2.blk b5
  replace hO:=hO.step hx2
  replace kK:=kK.mono hx2
  have hrB:slB r=none ∨ slB r ≠ slB sB1:=by
   cases hr1:slB r with
   | none=>exact .inl rfl
   | some b =>
    right;intro h
    have:=(ho.ge hr1).1
    have:=hBlt b h.symm
    omega
  have hHG:H.size≤G.size:=hO.1
  have hflG:fl≤G.size:=Z0N hf hO.1
  obtain ⟨cr,pr⟩:=ho.cells
  obtain ⟨sA',G6,h1,h2,h3,h4⟩:=b0a.app (P:=PSf f0 (slB sB1)) (sz:=1) (e:=a0C) (by decide)
   (fun G' cs x hxb hl ⟨w',q1,q2,q3,q4⟩=>⟨w',q1,q2.lx2 (hA.lxT (by decide) hxb) hl,q3,q4⟩) hA (e2:=a0C) (c:=1) (bytes:=24) (new:=[r]) (x:=gs[i].all.map c0q) ⟨r,rfl,ho.sls,hrB,fun b hb=>by have:=(ho.ge hb).1;omega⟩ rfl (by simp [pr]) (by simp;omega) (by omega) (by omega) hflG
  obtain ⟨_,_,hAe⟩:=e0b (by decide) h1
  have hlx:=hA.lx (by decide) h3
  have hlr:=hA.lxT (e':=a0b) (by decide) h3
  have nA3:=hA.ne b3 (by decide)
  have nA5:=hA.ne b5 (by decide)
  have hAo:=hA.blkOf
  have c3:=b3
  have hGG:=h3.1
  replace hO:=hO.stepB h3 hA1
  replace b3:=(h3.2 _ (a0g b3) nA3).trans b3
  replace b5:=(h3.2 _ (a0g b5) nA5).trans b5
  replace kK:=kK.lx hlx
  replace hB:=hB.lxm (Q':=PR) hlr (fun cs x h=>b0R.lx h hlx)
  have hfl6:fl≤G6.size:=by omega
  refine c0u ?_
  simp [L0g,g0,g5,g6,c3,b3,b5,cr,h1]
  clear c3
  refine (e0f (i:=gs[i].K) ⟨_,rfl,kK⟩ (by omega) (by omega)).mono ?_
  rintro _ G7 ⟨⟨s5,rfl,k5⟩,hx3⟩
  have hl5:(a0l (-a0P gs[i].K)).2.length≤40:=by
   have e1:=u0i hfO
   have:lz (-a0P gs[i].K)=lz (a0P gs[i].K):=by unfold lz;rw [Int.natAbs_neg]
   show lz (-a0P gs[i].K)≤40
   omega
  simp
  refine (d0o (x:=a0l (-a0P gs[i].K)) ⟨s5,rfl,k5⟩ (by have:=hx3.1;omega) (by omega)).mono ?_
  rintro _ G8 ⟨⟨s3,s4,rfl,k3,k4⟩,hx4⟩
  replace hx3:=hx3.trans hx4
  clear hx4 k5
  rw [w0Z] at k3 k4 ⊢
  replace hO:=hO.step hx3
  replace b3:=hx3.blk b3
  replace b5:=hx3.blk b5
  replace hA:=h2.mono i0M hx3
  replace hB:=hB.mono a0I hx3
  have hfl8:fl≤G8.size:=by have:=hx3.1;omega
  obtain ⟨sB',G9,p1,p2,p3,p4⟩:=b0a.app (P:=PR) (sz:=4) (e:=a0b) (by decide) (fun G' cs x _ hl h=>b0R.lx h hl) hB (e2:=a0b) (c:=1) (bytes:=64) (new:=[.bool (a0f (-vQ gs[i].K)).1.1,s3,.bool (a0f (-vQ gs[i].K)).2.1,s4]) (x:=a0f (-vQ gs[i].K)) ⟨s3,s4,rfl,k3,k4⟩ rfl (by simp [k3.plain,k4.plain]) (by simp;omega) (by omega) (by omega) hfl8
  obtain ⟨_,_,hBe⟩:=e0b (by decide) p1
  have hlx:=hB.lx (by decide) p3
  have nB3:=hB.ne b3 (by decide)
  have hsBn:slB sB' = some (G8.size + 1):=by rw [hBe];simp [slB]
  have hsAn:slB sA' = some (G.size + 1):=by rw [hAe];simp [slB]
  have hA':b0a (PSf f0 (slB sB')) fl G9 a0C 1 sA' (A ++ (gs.take (i + 1)).map fun g=>g.all.map c0q):=by
   rw [a1d hi,b1R,← b1u]
   refine hA.lxm (hB.lxT (by decide) p3) (fun cs x ⟨w',q1,q2,q3,q4⟩=>⟨w',q1,q2.off p3 q3 hlx,?_,q4⟩)
   cases hw:slB w' with
   | none=>exact .inl rfl
   | some b=>right;rw [hsBn];have:=q2.lt hw;simp;omega
  replace hO:=hO.stepB p3 hB1
  replace b3:=(p3.2 _ (a0g b3) nB3).trans b3
  have hB':b0a PR fl G9 a0b 4 sB' (B ++ (gs.take (i + 1)).map fun g=>a0f (-vQ g.K)):=by rw [a1d hi,b1R,← b1u];exact p2
  obtain ⟨cA,pA⟩:=hA'.cells
  obtain ⟨cB,pB⟩:=hB'.cells
  have hz:=a0g b3
  simp [g0,b3,k3.cells,k4.cells,p1,cA,pA,cB,pB,hP,hz]
  generalize hS1:Array.setIfInBounds G9 P _=G10
  have t1:∀ {e:Nat},b0G ≠ e→LxT e G9 G10:=fun hne=>a0X hS1 b3 hne
  have hbo:∀ x,x ∈ blkW sA1→slB sA1=some x:=by
   rcases hAo with h | ⟨b,h,h'⟩
   ·rw [h];simp
   ·rw [h,h'];simp
  refine ⟨⟨fun x hx h=>nA3 (by rw [hbo x hx,h]),fun x hx h=>nA5 (by rw [hbo x hx,h])⟩,Rnd.mk (by simp [gi]) (by simp [gn]) ⟨by simp [g0],by simp [g9],hO.set hS1,sA',sB',⟨a0M hS1 b3,?_,?_⟩,fun b hb=>.inr (.inr ?_),fun b hb=>.inr (.inr ?_)⟩⟩
  ·exact hA'.lxm (t1 (by decide)) (fun cs x ⟨w',q1,q2,q3,q4⟩=>⟨w',q1,q2.lx2 (t1 (by decide)) (t1 (by decide)),q3,q4⟩)
  ·exact hB'.lxm (t1 (by decide)) (fun cs x h=>b0R.lx h (t1 (by decide)))
  ·rw [hsAn] at hb;cases hb;omega
  ·rw [hsBn] at hb;cases hb;have:=hx3.1;omega
 ·rintro ρ G gi gn ⟨g0,g9,hq⟩
  rw [a1a] at hq
  simp
  exact hq
end
end Go.Proofs.YtilekhkgobmolaaGreat.AI
