/- Part 11 of the proof: AiSz9, AiRefA2, AiRefA3, AiRefA4, AiRefA5, AiRefA6, AiRefA7, AiRefA8, AiRefA9, AiRefB1, AiRefB2, AiRefB3, AiRefB4, AiRefB9, AiRefB5, AiRefB6, AiRefB7, AiRefB8, AiRefC1, AiT1, AiBox1, AiOpt1, AiTr1, AiTr2, AiTr4, AiTr5, AiTr6, AiTr7, AiTr8, AiTr9, AiTr10, AiTr11, AiTr12. -/
import Derived.Test.YtilekhkgobmolaaGreatM06
import Derived.Test.YtilekhkgobmolaaGreatM07
import Derived.Test.YtilekhkgobmolaaGreatM09
set_option linter.unusedVariables false
set_option linter.unusedSimpArgs false
set_option linter.unusedSectionVars false
namespace Go.Proofs.YtilekhkgobmolaaGreat.AI
section
open Go SX
set_option maxHeartbeats 4000000
variable {fl:Nat} {H G:a0e} {R:a0u} {v w u:Value}
theorem d0a.mono {rows:List (List b0e)} (h:d0a H v rows) (hx:Ext H G):d0a G v rows:=by
 obtain ⟨s,h1,h2⟩:=h;exact ⟨s,h1,h2.mono c0N hx⟩
theorem H0r {S:Nat} {r:List b0e} (h:Few S r) (hS:1≤S):Few S (h0t r):=by
 intro x hx
 obtain ⟨y,hy,rfl⟩:=c1M.1 hx
 obtain ⟨h1,h2,h3⟩:=h y hy
 have:=d0u h2 h3
 exact ⟨by rw [a0A];omega,b0Z _,b0Z _⟩
theorem h0j:∀ {rows:List (List b0e)} {d:List b0W},(d0i rows d).length=(d0h rows d).length
 | [],d=>by simp [d0h,d0i]
 | _ :: _,[]=>by simp [d0h,d0i]
 | r :: rs,e :: es=>by simp only [d0h,d0i];split <;> simp [h0j]
def H0Q (rows:List (List b0e)) (n:Int) (d:List b0W):LPt:=⟨n,d0h rows d,d0i rows d,List.replicate n.toNat (a0f 0)⟩
def J0C (a:m0V) (W:Nat):Prop:=(∀ x ∈ a.X,szR x≤W)∧∀ y ∈ a.Y,szR y≤W
theorem q0n.szA {p:LPt} {q:ScT} {n m S K:Nat} (h:q0d p n m S) (hq:q0n p q n m K) (r c:Nat):lz (Tf q.A r c)≤K:=by
 unfold Tf
 by_cases hr:r < q.A.length
 ·have hW:=(hq.rows r (by rw [← hq.qA];exact hr)).szz
  by_cases hc:c < (q.A.getD r []).length
  ·rw [b0F hc];exact hW _ (c1a _)
  ·rw [b1Q (l:=q.A.getD r []),c1d (by omega)];show lz 0≤_;rw [c0x];omega
 ·have:q.A.getD r []=[]:=by rw [b1Q,c1d (by omega)];rfl
  rw [this];show lz 0≤_;rw [c0x];omega
theorem w0e {t D:Int} {b c:Rat} {Z K:Nat} (h1:lz t≤Z) (h2:lz D≤Z) (h3:szR b≤K) (h4:szR c≤K):szR (Rat.divInt t D * b / c)≤Z + 1 + K + K:=by
 have a1:=b0K t D
 have a2:=f0S (Rat.divInt t D) b
 have a3:=R0A (Rat.divInt t D * b) c
 omega
theorem U0q {m n Z:Nat} {T:Nat→Nat→Int} {base:Nat→Nat} {D:Int} {x:Rat} (z1:∀ r c,r < m + 2→c≤2 * n + m→lz (T r c)≤Z) (z2:lz D≤Z) (hx:x ∈ (List.range n).map fun k=>Rat.divInt (ptq n base (fun i=>T i (2 * n + m)) m k) D):szR x≤Z + m + 1:=by
 obtain ⟨k,_,rfl⟩:=c1M.1 hx
 have e1:=b0K (ptq n base (fun i=>T i (2 * n + m)) m k) D
 have e2:=n0k (n:=n) (base:=base) (Fv:=fun i=>T i (2 * n + m)) (k:=k) (q:=m) (fun i hi=>z1 i (2 * n + m) (by omega) (b1S _))
 omega
theorem V0u {p:LPt} {q:ScT} {n m S K:Nat} {a:m0V} (h:q0d p n m S) (hq:q0n p q n m K) (hK:1≤K) (hs:V0D q n m a ∨ V0C q p.C n m a ∨ V0E q n m a):J0C a ((m + 2) * (K + m + 2) + 1 + m + 1 + K + K):=by
 have hb:∀ i,i < m→szR (q.bs.getD i 0)≤K:=fun i hi=>(hq.rows i (by rw [h.pA];exact hi)).szb
 rcases hs with ⟨T,base,D,hT,h1,h2,h3,h4,h5,h6,h7⟩ | ⟨T,base,D,hT,h1,h2,h3,h4,h5,h6,h7⟩ | ⟨T,base,D,j,hT,h1,h2,h3,h4,h5,h6,h7,h8,h9⟩ <;> obtain ⟨z1,z2⟩:=J0Y (hq.szA h) hq.szC h.m1 hT
 ·refine ⟨fun x hx=>by rw [h3] at hx;simp at hx,fun y hy=>?_⟩
  rw [h7] at hy
  obtain ⟨i,hi,rfl⟩:=c1M.1 hy
  have hi:=c1W.1 hi
  have:=w0e (z1 m (2 * n + i) (by omega) (by omega)) z2 (hb i hi) (show szR 1≤K by rw [p0X];exact hK)
  omega
 ·refine ⟨fun x hx=>?_,fun y hy=>?_⟩
  ·rw [h5] at hx
   have:=U0q z1 z2 hx;omega
  ·rw [h6] at hy
   obtain ⟨i,hi,rfl⟩:=c1M.1 hy
   have hi:=c1W.1 hi
   have:=w0e (z1 (m + 1) (2 * n + i) (by omega) (by omega)) z2 (hb i hi) hq.cost.szb
   omega
 ·refine ⟨fun x hx=>?_,fun y hy=>by rw [h3] at hy;simp at hy⟩
  rw [h8] at hx
  have:=U0q z1 z2 hx;omega
theorem x0S.none {rows:List (List b0e)} {n:Int} {d:List b0W} {m:Nat} {a:m0V} (h:x0S (H0Q rows n d) n.toNat m a):False:=by
 have h1:=h.CR
 have h2:rs (fun k=>pC (H0Q rows n d) k * a.Ray.getD k 0) n.toNat=rs (fun _=>0 * 0) n.toNat:=b0E fun k hk=>by
  have h3:pC (H0Q rows n d) k=0:=by
   unfold pC H0Q
   rw [b1Q]
   simp [hk,a0s]
  rw [h3,d1V,d1V]
 rw [h2,h0H,Rat.mul_zero] at h1
 exact c1j h1 (Rat.lt_irrefl)
def X0p:Value:=.agg #[.int .i64 0,.bool false,.slice none 0 0,.bool false,.slice none 0 0,.slice none 0 0,.slice none 0 0,.slice none 0 0]
end
section
open Go
set_option maxHeartbeats 4000000
variable {fl:Nat} {H G:a0e} {R:a0u} {v w:Value} {a b:List Nat}
end
section
open Go
set_option maxHeartbeats 4000000
variable {fl:Nat} {H G:a0e} {R:a0u} {v w:Value} {i j:Bool × List Nat}
end
section
open Go
set_option maxHeartbeats 4000000
variable {fl:Nat} {H G:a0e} {R:a0u} {v w:Value}
theorem h0k {n:Int} (hf:fl≤H.size) (h1:-9223372036854775808≤n) (h2:n < 9223372036854775808):a0S env fl J0M [.int .i64 n] H (fun r H'=>b0r H' r (a0m n)∧Ext H H') R:=by
 refine a0g a1H hf (h:=?_)
 intro ρ h0
 have e1:0≤n→IntKind.u64.wrap n=((n.natAbs:Nat):Int):=fun _=>by rw [a0N];omega
 have e2:n < 0→IntKind.u64.wrap (-IntKind.u64.wrap n)=((n.natAbs:Nat):Int):=fun _=>by rw [a0N,a0N];omega
 obtain ⟨m,hm⟩:∃ m,n.natAbs=m:=⟨_,rfl⟩
 rw [hm] at e1 e2
 have hm2:m < 18446744073709551616:=by omega
 simp [W0q,K0L,h0]
 generalize hG:Array.push H _=G
 obtain ⟨hx2,b0⟩:=h0Z hG
 have hx:=Ext.refl H
 clear hG
 replace hx:=hx.trans hx2
 have q1:IntKind.u32.wrap ((m:Int))=((m % 4294967296:Nat):Int):=by rw [q0b];omega
 have q2:IntKind.u32.wrap (((m / 4294967296:Nat):Int))=((m / 4294967296:Nat):Int):=by rw [q0b];omega
 have q3:d0M 0 .shr (.int .u64 (m:Int)) (.int .u64 32)=some (.int .u64 ((m / 2 ^ 32:Nat):Int)):=R0o (s:=32) (by omega)
 have q4:m / 2 ^ 32=m / 4294967296:=rfl
 rw [q4] at q3
 by_cases hn:n < 0
 ·simp [-Int.natCast_emod,-Int.natCast_ediv,E0V,E0W,K0M,E0X,h0,hn,e2 hn,q1,q2,q3]
  generalize hG:Array.push G _=G1
  obtain ⟨hx2,b1⟩:=h0Z hG
  clear hG
  replace b0:=hx2.blk b0;replace hx:=hx.trans hx2
  have hl:Lim G1 (.slice (some ⟨Array.size G,0,none⟩) 2 2) [m % 4294967296,m / 4294967296]:=by
   refine ⟨(Own.mk (fl:=0) (n:=2) (sz:=1) (cs:=c0Y [m % 4294967296,m / 4294967296]) ?_ rfl (c1S _)).sl,?_⟩
   ·rw [b1];rfl
   ·intro x hx;simp at hx;omega
  refine (n0r n hl hx.1 (by simp) ?_).mono ?_
  ·have:a0B [m % 4294967296,m / 4294967296]=m:=by simp [a0B];omega
   rw [this]
   simp;omega
  rintro _ G2 ⟨⟨s3,rfl,k5⟩,hx2⟩
  replace b0:=hx2.blk b0;replace b1:=hx2.blk b1;replace hx:=hx.trans hx2
  have hsz:=hx.1
  simp [b0,k5.cells,k5.plain,hsz]
  generalize hS:Array.setIfInBounds G2 _ _=G5
  have hsz:=hx.1;replace k5:=k5.setS hS b0 (by decide);replace hx:=b0I hS hx (by omega);replace b0:=a0M hS b0;clear hS hsz
  simp [b0]
  exact fun _=>⟨s3,rfl,k5⟩
 ·simp [-Int.natCast_emod,-Int.natCast_ediv,E0V,E0W,E0X,h0,hn,e1 (by omega),q1,q2,q3]
  generalize hG:Array.push G _=G1
  obtain ⟨hx2,b1⟩:=h0Z hG
  clear hG
  replace b0:=hx2.blk b0;replace hx:=hx.trans hx2
  have hl:Lim G1 (.slice (some ⟨Array.size G,0,none⟩) 2 2) [m % 4294967296,m / 4294967296]:=by
   refine ⟨(Own.mk (fl:=0) (n:=2) (sz:=1) (cs:=c0Y [m % 4294967296,m / 4294967296]) ?_ rfl (c1S _)).sl,?_⟩
   ·rw [b1];rfl
   ·intro x hx;simp at hx;omega
  refine (n0r n hl hx.1 (by simp) ?_).mono ?_
  ·have:a0B [m % 4294967296,m / 4294967296]=m:=by simp [a0B];omega
   rw [this]
   simp;omega
  rintro _ G2 ⟨⟨s3,rfl,k5⟩,hx2⟩
  replace b0:=hx2.blk b0;replace hx:=hx.trans hx2
  have hsz:=hx.1
  simp [b0,k5.cells,k5.plain,hsz]
  generalize hS:Array.setIfInBounds G2 _ _=G5
  have hsz:=hx.1;replace k5:=k5.setS hS b0 (by decide);replace hx:=b0I hS hx (by omega);replace b0:=a0M hS b0;clear hS hsz
  simp [b0]
  exact fun _=>⟨s3,rfl,k5⟩
end
section
open Go
set_option maxHeartbeats 4000000
variable {fl:Nat} {H G:a0e} {R:a0u} {v w:Value} {a:b0e}
end
section
open Go
set_option maxHeartbeats 4000000
variable {fl:Nat} {H G:a0e} {R:a0u} {v w:Value} {a b:b0e}
end
section
open Go
set_option maxHeartbeats 4000000
variable {fl:Nat} {H G:a0e} {R:a0u} {v w:Value} {i j:Bool × List Nat}
theorem f0P {n:Int} (hf:fl≤H.size) (h1:-9223372036854775808≤n) (h2:n < 9223372036854775808):a0S env fl Q0f [.int .i64 n] H (fun r H'=>b0O H' r (a0f n)∧Ext H H') R:=by
 refine a0g a1J hf (h:=?_)
 intro ρ h0
 simp [W0s,K0V,K0W,h0]
 generalize hG:Array.push H _=G
 obtain ⟨hx2,b0⟩:=h0Z hG
 have hx:=Ext.refl H
 clear hG
 replace hx:=hx.trans hx2
 refine (h0k hx.1 h1 h2).mono ?_
 rintro _ G2 ⟨⟨s1,rfl,k1⟩,hx2⟩
 replace b0:=hx2.blk b0;replace hx:=hx.trans hx2
 simp
 refine (h0k hx.1 (by omega) (by omega)).mono ?_
 rintro _ G2 ⟨⟨s2,rfl,k2⟩,hx2⟩
 replace b0:=hx2.blk b0;replace hx:=hx.trans hx2;replace k1:=k1.mono hx2
 have hsz:=hx.1
 simp [b0,k1.cells,k1.plain,k2.cells,k2.plain,hsz,b0s]
 generalize hS:Array.setIfInBounds G2 _ _=G5
 have hsz:=hx.1;replace k1:=k1.setS hS b0 (by decide);replace k2:=k2.setS hS b0 (by decide);replace hx:=b0I hS hx (by omega);replace b0:=a0M hS b0;clear hS hsz
 simp [b0]
 have hc:a0f (n:Rat)=(a0m n,a0m 1):=by
  unfold a0f;rw [e1q,e1o];rfl
 rw [hc]
 exact fun _=>⟨s1,s2,rfl,k1,k2⟩
end
section
open Go
set_option maxHeartbeats 4000000
variable {fl:Nat} {H G:a0e} {R:a0u} {v w:Value} {a b:b0e}
end
section
open Go
set_option maxHeartbeats 4000000
variable {fl:Nat} {H G:a0e} {R:a0u} {v w:Value} {e f:b0W}
end
section
open Go
set_option maxHeartbeats 4000000
variable {fl:Nat} {H G:a0e} {R:a0u} {v w:Value}
end
section
open Go
set_option maxHeartbeats 4000000
variable {fl:Nat} {H G:a0e} {R:a0u} {v w u:Value}
theorem b0a.app2 {α:Type} {P:a0e→List Value→α→Prop} {e sz:Nat} {l:List α} (he:e ≠ a0l) (hO:∀ G' cs x,c0Z (slB v) G G'→Lx G G'→P G cs x→P G' cs x) (h:b0a P fl G e sz v l) {e2 c bytes:Nat} {new1 new2:List Value} {x1 x2:α} (hx1:P G new1 x1) (hx2:P G new2 x2) (hl1:new1.length=sz) (hl2:new2.length=sz) (hp1:new1.all a0q=true) (hp2:new2.all a0q=true) (hn:l.length < 1073741822) (hb:bytes≤1024) (hs:0 < sz) (hfl:fl≤G.size) :
  ∃ v' G',h0B fl (G.push (.row false e2 (new1 ++ new2))) e sz bytes v (.slice (some ⟨G.size,0,none⟩) 2 c)=some (v',G')∧b0a P fl G' e sz v' (l ++ [x1,x2])∧c0Z (slB v) G G'∧(∀ H0,H0.size≤fl→Ext H0 G→Ext H0 G'):=by
 obtain ⟨cs,h1,h2⟩:=h
 have hx:Sl (G.push (.row false e2 (new1 ++ new2))) e2 sz (.slice (some ⟨G.size,0,none⟩) 2 c) 2 (new1 ++ new2):=(Own.mk (fl:=0) a0v (by rw [c1g,hl1,hl2];omega) (c1S _)).sl
 obtain ⟨v',G',a1,a2,a3,a4⟩:=k0H (h1.mono (Ext.push (Ext.refl G))) hx (by rw [e1h,hp1,hp2];rfl) (by omega) hb hs (bytes:=bytes) (by simp;omega)
 have a3':c0Z (slB v) G G':=by
  refine ⟨?_,fun b hb hne=>?_⟩
  ·have:=a3.1;simp at this;omega
  ·rw [a3.2 b (by simp;omega) hne,d0s hb]
 have hL:=b0a.lx ⟨cs,h1,h2⟩ he a3'
 refine ⟨v',G',a1,⟨cs ++ (new1 ++ new2),by simpa using a2,fun k hk=>?_⟩,a3',fun H0 k1 k2=>a4 H0 k1 k2.push⟩
 have hcs:=h1.1
 by_cases hkl:k < l.length
 ·have h3:(k + 1) * sz≤l.length * sz:=b1Z _ hkl
  rw [c1i,c1H] at h3
  rw [c1I hkl,d1a (by omega),d1n (by simp;omega)]
  exact hO _ _ _ a3' hL (h2 k hkl)
 ·by_cases hke:k=l.length
  ·subst hke
   rw [c1o (b1S _),d1a (by omega),d1j (by omega),d1v,d1n (by omega),← hl1,c1h]
   simpa using hO _ _ _ a3' hL hx1
  ·have hke:k=l.length + 1:=by simp at hk;omega
   subst hke
   have e1:(cs ++ (new1 ++ new2)).drop ((l.length + 1) * sz)=new2:=by
    rw [← d1K,List.drop_append,d1j (by rw [c1g,hcs,hl1,c1i];omega),d1v,c1g,hcs,hl1,c1i]
    simp
   rw [e1,c1o (by omega),← hl2,c1h]
   simpa using hO _ _ _ a3' hL hx2
theorem H0C {n:Int}:mn2 true 0 (mn2 false n 6)=max 0 (min n 6):=by
 simp only [mn2,c1l,c1O,c1F]
 repeat' split
 all_goals omega
theorem m0Q {n:Int} (hf:fl≤H.size):a0S env fl T0B [.int .i64 n] H (fun r H'=>r=.int .i64 (max 0 (min n 6))∧Ext H H') R:=by
 refine a0g a1V hf (h:=?_)
 intro ρ h0
 simp [W0E,L0R,L0S,h0]
 have h1:s0C true (.int .i64 0) [.int .i64 (mn2 false n 6)]=some (.int .i64 (max 0 (min n 6))):=by rw [← H0C];rfl
 have h2:s0C false (.int .i64 n) [.int .i64 6]=some (.int .i64 (mn2 false n 6)):=rfl
 simp [h2,h1]
theorem j0L {n:Nat} {i p k q:Int} (hf:fl≤H.size) (hn:n < 1073741824) (hp1:-9223372036854775808≤p) (hp2:p < 9223372036854775808) (hq1:-9223372036854775808≤q) (hq2:q < 9223372036854775808) :
  a0S env fl R0W [.int .i64 (n:Int),.int .i64 i,.int .i64 p,.int .i64 k,.int .i64 q] H (fun r H'=>b0a PR H.size H' a0b 4 r ((List.range n).map fun (j:Nat)=>a0f ((if (j:Int)=k then q else if (j:Int)=i then p else 0:Int):Rat))∧Ext H H') R:=by
 refine a0g a1W hf (h:=?_)
 intro ρ h0
 simp [W0F,L0T,L0U,L0V,h0]
 refine h0A (fun j ρ G=>ρ 0=.int .i64 (n:Int)∧ρ 1=.int .i64 i∧ρ 2=.int .i64 p∧ρ 3=.int .i64 k∧ρ 4=.int .i64 q∧ρ 12=.int .i64 (j:Int)∧Ext H G∧b0a PR H.size G a0b 4 (ρ 11) ((List.range j).map fun (j:Nat)=>a0f ((if (j:Int)=k then q else if (j:Int)=i then p else 0:Int):Rat))) n (by decide) ⟨by simp [h0],by simp [h0],by simp [h0],by simp [h0],by simp [h0],by simp,Ext.refl H,by simpa using b0a.nil⟩ ?_
 clear h0 ρ
 rintro j ρ G hj1 ⟨g0,g1,g2,g3,g4,g12,hx,ho⟩
 obtain ⟨s,g11⟩:∃ s,ρ 11=s:=⟨_,rfl⟩
 rw [g11] at ho
 simp [L0W,g0,g12]
 refine i0X.mk (by simp) (fun hj=>?_) (fun heq=>?_)
 ·obtain ⟨z,hz⟩:∃ z:Int,z=(if (j:Int)=k then q else if (j:Int)=i then p else 0):=⟨_,rfl⟩
  have hz1:-9223372036854775808≤z:=by rw [hz];split;exact hq1;split;exact hp1;omega
  have hz2:z < 9223372036854775808:=by rw [hz];split;exact hq2;split;exact hp2;omega
  have hlist:(List.range (j + 1)).map (fun (j:Nat)=>a0f ((if (j:Int)=k then q else if (j:Int)=i then p else 0:Int):Rat))=(List.range j).map (fun (j:Nat)=>a0f ((if (j:Int)=k then q else if (j:Int)=i then p else 0:Int):Rat)) ++ [a0f (z:Rat)]:=by
   rw [List.range_succ,e1k,List.map_singleton,← hz]
  by_cases h1:(j:Int)=k <;> by_cases h2:(j:Int)=i
  all_goals
   first | rw [b1W h1] at hz | rw [b1T h1,b1W h2] at hz | rw [b1T h1,b1T h2] at hz
   subst hz
   try subst h1
   try subst h2
   simp [L0X,L0Y,L0Z,M0a,M0b,g1,g2,g3,g4,g12, *]
   simp [M0c,g11]
   refine (f0P hx.1 (by omega) (by omega)).mono ?_
   rintro _ G2 ⟨⟨s3,s4,rfl,k3,k4⟩,hx2⟩
   replace hx:=hx.trans hx2
   replace ho:=ho.mono a0H hx2
   try rw [show ((0:Int):Rat)=0 from rfl] at k3 k4 hlist ⊢
   obtain ⟨s',G4,h1,h2,h3,h4⟩:=b0a.app (P:=PR) (sz:=4) (e:=a0b) (by decide) (fun G' cs x _ hl h=>b0O.lx h hl) ho (e2:=a0b) (c:=1) (bytes:=64) ⟨s3,s4,rfl,k3,k4⟩ rfl (by simp [k3.plain,k4.plain]) (by simp;omega) (by omega) (by omega) hx.1
   have k3':=k3.cells;have k4':=k4.cells
   simp [g11,k3',k4',h1]
   unfold q0c
   simp [F0f,g12,c0t (show j < 4611686018427387904 by omega)]
   exact f0A.mk ⟨by simp [g0],by simp [g1],by simp [g2],by simp [g3],by simp [g4],by simp,h4 _ (b1S _) hx,by rw [hlist];exact b0a.cast (v':=s') (by simp) h2⟩
 ·subst heq
  simp [F0g,g11]
  exact fun _=>ho
theorem b0a.first {α:Type} {P:a0e→List Value→α→Prop} {f0 e sz:Nat} {l:List α} (h:b0a P f0 H e sz v l) {k:IntKind} :
  ∃ v',d0K sz v none (some (.int k l.length)) none=some v'∧b0a P f0 H e sz v' l∧elemOk H e v=true:=by
 obtain ⟨v1,h1,_,h3⟩:=h.sls.first (n:=l.length) (k:=k) (b1S _)
 refine ⟨v1,h1,?_,h3⟩
 obtain ⟨cs,⟨hl,⟨rfl,h0⟩ | ⟨b,cap,rfl,hb,hf⟩⟩,h2⟩:=h
 ·have:v1=.slice none 0 0:=by
   rw [h0] at h1
   exact (Option.some.inj (h1.symm.trans rfl))
  subst this
  exact ⟨cs,⟨hl,.inl ⟨rfl,h0⟩⟩,h2⟩
 ·unfold d0K at h1
  simp [bnd] at h1
  subst h1
  exact ⟨cs,⟨hl,.inr ⟨b,_,rfl,hb,hf⟩⟩,h2⟩
theorem r0p {f0:Nat} {l:List (List b0e)} (h:b0a PS f0 H a0C 1 v l) (hf:fl≤H.size) (hl:l.length≤40) :
  a0S env fl T0C [v] H (fun r H'=>(∃ s,r=.agg #[s]∧b0a PS f0 H' a0C 1 s l)∧Ext H H') R:=by
 refine a0g a1X hf (h:=?_)
 intro ρ h0
 have hmn:s0C false (.int .i64 (l.length:Int)) [.int .i64 40]=some (.int .i64 (l.length:Int)):=by
  have:mn2 false (l.length:Int) 40=l.length:=by
   simp only [mn2,c1l,c1O]
   split <;> omega
  show some (Value.int IntKind.i64 (mn2 false (l.length:Int) 40))=_
  rw [this]
 obtain ⟨u1,hu1,ku,oku⟩:=(h.mono c0N ((Ext.refl H).push (r:=.row false a0y [.slice none 0 0]))).first (k:=.i64)
 have ku0:=ku.sls
 simp [W0G,M0d,M0e,h0,h.sls.slen,hmn,hu1,oku,ku0.cells,ku0.plain,hf]
 exact ku.lxm (a0X rfl a0v (by decide)) (fun cs x ⟨w',q1,q2⟩=>⟨w',q1,b0n.lx2 q2 (a0X rfl a0v (by decide)) (fun b ro cs h=>a0X (e:=a0l) rfl a0v (by decide) b ro cs h)⟩)
def f0G (n i:Nat) (p:Int):List b0e:=(List.range n).map fun (j:Nat)=>a0f ((if (j:Int) = -1 then 0 else if (j:Int)=(i:Int) then p else 0:Int):Rat)
def b0S (n:Nat):Nat→List (List b0e)
 | 0=>[]
 | i + 1=>b0S n i ++ [f0G n i 1,f0G n i (-1)]
theorem d0x {n:Nat}:∀ i,(b0S n i).length=2 * i
 | 0=>rfl
 | i + 1=>by rw [b0S,c1g,d0x i];simp;omega
theorem k0f {n:Int} {m:Nat} (hf:fl≤H.size) (hm:max 0 (min n 6)=(m:Int)) :
  a0S env fl R0R [.int .i64 n] H (fun r H'=>(∃ s,r=.agg #[s]∧b0a PS H.size H' a0C 1 s (b0S m m))∧Ext H H') R:=by
 refine a0g a1I hf (h:=?_)
 intro ρ h0
 simp [W0r,K0N,K0O,h0]
 generalize hN:Array.push H _=G
 obtain ⟨hx,b0⟩:=h0Z hN
 clear hN
 refine (m0Q hx.1).mono ?_
 rintro _ G2 ⟨rfl,hx2⟩
 rw [hm]
 have hm6:m≤6:=by omega
 replace b0:=hx2.blk b0
 replace hx:=hx.trans hx2
 simp [K0P,K0Q]
 refine h0A (fun i ρ G=>ρ 0=.int .i64 (m:Int)∧ρ 2=.pointer (some ⟨H.size,0,none⟩)∧ρ 4=.int .i64 (i:Int)∧Ext H G∧a0e.blk G H.size=.row false a0y [.slice none 0 0]∧b0a PS H.size G a0C 1 (ρ 3) (b0S m i)) m (by decide) ⟨by simp,by simp,by simp,hx,b0,by simpa [b0S] using b0a.nil⟩ ?_
 clear h0 ρ hx b0 hx2
 rintro i ρ G hi1 ⟨g0,g2,g4,hx,b0,ho⟩
 obtain ⟨s,g3⟩:∃ s,ρ 3=s:=⟨_,rfl⟩
 rw [g3] at ho
 simp [K0R,g0,g4]
 refine i0X.mk (by simp) (fun hi=>?_) (fun heq=>?_)
 ·simp [K0S,g0,g3,g4]
  refine (j0L hx.1 (by omega) (by decide) (by decide) (by decide) (by decide)).mono ?_
  rintro wa G2 ⟨oa,hx2⟩
  replace b0:=hx2.blk b0
  replace ho:=ho.mono c0N hx2
  replace hx:=hx.trans hx2
  simp [g0,g4]
  refine (j0L hx.1 (by omega) (by decide) (by decide) (by decide) (by decide)).mono ?_
  rintro wb G3 ⟨ob,hx2⟩
  replace b0:=hx2.blk b0
  replace ho:=ho.mono c0N hx2
  replace oa:=oa.mono a0H hx2
  replace hx:=hx.trans hx2
  have hll:=d0x (n:=m) i
  obtain ⟨s',G4,h1,h2,h3,h4⟩:=b0a.app2 (P:=PS) (sz:=1) (e:=a0C) (by decide) (fun G' cs x hxb hl ⟨w',q1,q2⟩=>⟨w',q1,b0n.lx2 q2 (ho.lxT (by decide) hxb) hl⟩) ho (e2:=a0C) (c:=2) (bytes:=24) (new1:=[wa]) (new2:=[wb]) (x1:=f0G m i 1) (x2:=f0G m i (-1)) ⟨wa,rfl,oa.sls⟩ ⟨wb,rfl,ob.sls⟩ rfl rfl (by simp [oa.sls.plain]) (by simp [ob.sls.plain]) (by omega) (by omega) (by omega) hx.1
  have b0':=(ho.lxT (e':=a0y) (by decide) h3) _ _ _ b0
  simp [g3,oa.sls.cells,ob.sls.cells]
  simp at h1
  simp [h1]
  unfold q0c
  simp [K0T,g4,c0t (show i < 4611686018427387904 by omega)]
  exact f0A.mk ⟨by simp [g0],by simp [g2],by simp,h4 _ (b1S _) hx,b0',b0a.cast (v':=s') (by simp) h2⟩
 ·subst heq
  simp [K0U,g3]
  refine (r0p ho hx.1 (by rw [d0x];omega)).mono ?_
  rintro _ G2 ⟨⟨s2,rfl,ks⟩,hx2⟩
  replace b0:=hx2.blk b0
  replace hx:=hx.trans hx2
  have hsz:=hx.1
  have ks0:=ks.sls
  simp [g2,b0,ks0.cells,ks0.plain,hsz]
  generalize hS':Array.setIfInBounds G2 _ _=G3
  rw [a0M hS' b0]
  simp
  exact fun _=>ks.lxm (a0X hS' b0 (by decide)) (fun cs x ⟨w',q1,q2⟩=>⟨w',q1,b0n.lx2 q2 (a0X hS' b0 (by decide)) (fun b ro cs h=>a0X (e:=a0l) hS' b0 (by decide) b ro cs h)⟩)
theorem j0q {n:Int} {m:Nat} (hf:fl≤H.size) (hm:max 0 (min n 6)=(m:Int)) :
  a0S env fl R0R [.int .i64 n] H (fun r H'=>d0a H' r (b0S m m)∧Ext H H') R :=
 (k0f hf hm).mono fun r H' ⟨⟨s,h1,h2⟩,h3⟩=>⟨⟨s,h1,h2.sls⟩,h3⟩
end
section
open Go
set_option maxHeartbeats 1000000
theorem O0U {i:Nat} {s:Rat} {f:Nat→Rat}:∀ {n:Nat},rs (fun k=>(if k=i then s else 0) * f k) n=if i < n then s * f i else 0
 | 0=>by simp [rs]
 | n + 1=>by
  rw [rs,O0U]
  by_cases h1:i < n
  ·rw [b1W h1,b1T (by omega),b1W (by omega),d1V,d1U]
  ·by_cases h2:n=i
   ·subst h2;rw [b1T h1,b1W rfl,b1W (by omega),Rat.zero_add]
   ·rw [b1T h1,b1T h2,b1T (by omega),d1V,d1U]
theorem v0Z {f g:Nat→Rat}:∀ {n:Nat},rs (fun i=>f i + g i) n=rs f n + rs g n
 | 0=>by rw [rs,rs,rs];grind
 | n + 1=>by rw [rs,rs,rs,v0Z];grind
theorem t0S:∀ {n:Nat},rs (fun _=>0) n=0
 | 0=>rfl
 | n + 1=>by rw [rs,t0S];grind
theorem p0S {f:Nat→Nat→Rat} {M:Nat}:∀ {N:Nat},rs (fun i=>rs (fun j=>f i j) M) N=rs (fun j=>rs (fun i=>f i j) N) M
 | 0=>by simp only [rs];rw [t0S]
 | N + 1=>by simp only [rs];rw [p0S,← v0Z]
theorem R0m {f g:Nat→Rat}:∀ {n:Nat},(∀ i,i < n→f i≤g i)→rs f n≤rs g n
 | 0,_=>Rat.le_refl
 | n + 1,h=>by
  have h1:=R0m (n:=n) (fun i hi=>h i (by omega))
  have h2:=h n (by omega)
  rw [rs,rs];grind
theorem p0T {f:Nat→Rat} {c:Rat} {n:Nat}:rs (fun i=>c * f i) n=c * rs f n:=by
 rw [Rat.mul_comm,← h0H];exact b0E fun i _=>Rat.mul_comm _ _
theorem x0R.none {p:LPt} {n m:Nat} {a:m0V} (h:x0R p n m a) (x:Nat→Rat):¬ ∀ r,r < m→rs (fun k=>pA p r k * x k) n≤pB p r:=by
 intro hx
 have h1:rs (fun i=>a.Y.getD i 0 * rs (fun k=>pA p i k * x k) n) m≤rs (fun i=>a.Y.getD i 0 * pB p i) m :=
  R0m fun i hi=>Rat.mul_le_mul_of_nonneg_left (hx i hi) (h.Y0 i hi)
 have h2:rs (fun i=>a.Y.getD i 0 * rs (fun k=>pA p i k * x k) n) m=rs (fun k=>rs (fun i=>a.Y.getD i 0 * pA p i k) m * x k) n:=by
  have e1:∀ i,i < m→a.Y.getD i 0 * rs (fun k=>pA p i k * x k) n=rs (fun k=>a.Y.getD i 0 * pA p i k * x k) n:=fun i _=>by
   rw [← p0T];exact b0E fun k _=>by grind
  rw [b0E e1,p0S]
  exact b0E fun k _=>h0H
 have h3:rs (fun k=>rs (fun i=>a.Y.getD i 0 * pA p i k) m * x k) n=0:=by
  rw [b0E (g:=fun _=>0) (fun k hk=>by rw [h.YA k hk,d1V]),t0S]
 rw [h2,h3] at h1
 have:=h.YB
 grind
def bxD (lo hi:Nat→Int):Nat→List b0W
 | 0=>[]
 | i + 1=>bxD lo hi i ++ [(0,a0f (hi i:Int)),(0,a0f ((-lo i:Int):Rat))]
theorem y0l {lo hi:Nat→Int}:∀ i,(bxD lo hi i).length=2 * i
 | 0=>rfl
 | i + 1=>by rw [bxD,c1g,y0l i];simp;omega
theorem y0m {lo hi:Nat→Int} {e:b0W}:∀ {i},e ∈ bxD lo hi i→∃ k,k < i∧(e=(0,a0f (hi k:Int)) ∨ e=(0,a0f ((-lo k:Int):Rat)))
 | 0,h=>by simp [bxD] at h
 | i + 1,h=>by
  rw [bxD,c1s] at h
  rcases h with h | h
  ·obtain ⟨k,h1,h2⟩:=y0m h;exact ⟨k,by omega,h2⟩
  ·exact ⟨i,by omega,by simpa using h⟩
theorem h0h {n:Nat} {r:List b0e}:∀ {m},r ∈ b0S n m→∃ i,i < m∧(r=f0G n i 1 ∨ r=f0G n i (-1))
 | 0,h=>by simp [b0S] at h
 | m + 1,h=>by
  rw [b0S,c1s] at h
  rcases h with h | h
  ·obtain ⟨k,h1,h2⟩:=h0h h;exact ⟨k,by omega,h2⟩
  ·exact ⟨m,by omega,by simpa using h⟩
theorem R0C {α:Type} {l:List α} {a b d:α} {m k:Nat} (hl:l.length=2 * m) (hk:k < 2):(l ++ [a,b]).getD (2 * m + k) d=if k=0 then a else b:=by
 rw [b1Q,c1K (by omega),hl,show 2 * m + k - 2 * m=k by omega]
 match k,hk with
 | 0,_=>rfl
 | 1,_=>rfl
theorem Q0t {α:Type} {l:List α} {a b d:α} {k:Nat} (hk:k < l.length):(l ++ [a,b]).getD k d=l.getD k d:=by
 rw [b1Q,c1D hk,b1Q]
theorem n0f {n i k:Nat} (hk:k < 2):∀ {m:Nat},i < m→(b0S n m).getD (2 * i + k) []=f0G n i (if k=0 then 1 else -1)
 | 0,h=>by omega
 | m + 1,h=>by
  rw [b0S]
  have hl:=d0x (n:=n) m
  by_cases hi:i < m
  ·rw [Q0t (by omega),n0f hk hi]
  ·have:i=m:=by omega
   subst this
   rw [R0C hl hk];split <;> rfl
theorem q0S {n i:Nat} {p:Int}:(f0G n i p).length=n:=by unfold f0G;simp
theorem z0e {n i k:Nat} {p:Int} (hk:k < n):(f0G n i p).getD k c0m=a0f (((if k=i then p else 0:Int)):Rat):=by
 unfold f0G
 rw [b1Q]
 simp [hk]
 congr 2
 by_cases h:k=i
 ·rw [b1W (by omega),b1W h]
 ·rw [b1T (by omega),b1T h]
theorem G0f {n i:Nat} {p:Int} {f:Nat→Rat} (hi:i < n):rs (fun k=>b0A ((f0G n i p).getD k c0m) * f k) n=(p:Rat) * f i:=by
 have h1:=O0U (i:=i) (s:=(p:Rat)) (f:=f) (n:=n)
 rw [b1W hi] at h1
 rw [← h1]
 refine b0E fun k hk=>?_
 rw [z0e hk,a0s]
 congr 1
 split <;> rfl
theorem s0y {n i:Nat} {p:Int}:∀ x ∈ f0G n i p,∃ y:Rat,x=a0f y:=by
 intro x hx
 unfold f0G at hx
 obtain ⟨k,_,rfl⟩:=c1M.1 hx
 exact ⟨_,rfl⟩
section
variable {n:Nat} {lo hi:Nat→Int}
theorem y0n (hn:n≤6):f0g (b0S n n) n (bxD lo hi n)=true:=by
 have hA:x0L (p0R n) (b0S n n)=true:=c1C.2 fun r hr=>by
  obtain ⟨i,_,h⟩:=h0h hr
  unfold p0R
  have hl:r.length=n:=by rcases h with h | h <;> rw [h,q0S]
  have hm:x0L u0N r=true:=c1C.2 fun x hx=>by
   obtain ⟨y,rfl⟩:∃ y:Rat,x=a0f y:=by rcases h with h | h <;> (rw [h] at hx;exact s0y x hx)
   exact f0q y
  rw [hm,hl];simp
 have hD:d0E (fun e=>!m0J e) (bxD lo hi n)=false:=by
  cases ha:d0E (fun e=>!m0J e) (bxD lo hi n) with
  | false=>rfl
  | true =>
   obtain ⟨e,h1,h2⟩:=List.any_eq_true.1 ha
   obtain ⟨k,_,h | h⟩:=y0m h1 <;> (rw [h] at h2;simp [m0J,f0q] at h2)
 unfold f0g j0U
 rw [hA,hD,d0x,y0l]
 simp
 omega
end
end
section
open Go SX
set_option maxHeartbeats 1000000
def S0s (p:LPt) (n m:Nat) (z:Nat→Rat):Prop:=∀ r,r < m→rs (fun k=>pA p r k * z k) n≤pB p r
def o0v (p:LPt) (n:Nat) (z:Nat→Rat):Rat:=rs (fun k=>pC p k * z k) n
def P0f (p:LPt) (n m:Nat) (a:m0V):Prop :=
 (a.kind=2∧∀ z,¬ S0s p n m z) ∨ (a.kind=1∧(∃ z,S0s p n m z∧o0v p n z=a.V)∧∀ z,S0s p n m z→o0v p n z≤a.V) ∨ (a.kind=3∧∀ B,∃ z,S0s p n m z∧B < o0v p n z)
theorem O0T {f g:Nat→Rat} {w:Nat→Rat} {t:Rat} {n:Nat}:rs (fun k=>w k * (f k + t * g k)) n=rs (fun k=>w k * f k) n + t * rs (fun k=>w k * g k) n:=by
 rw [← p0T,← v0Z]
 exact b0E fun k _=>by grind
section
variable {p:LPt} {n m:Nat} {a:m0V}
theorem G0H.opt (h:G0H p n m a):P0f p n m a:=by
 refine .inr (.inl ⟨h.kind,⟨fun k=>a.X.getD k 0,h.AX,h.V.symm⟩,fun z hz=>?_⟩)
 have h1:o0v p n z=rs (fun k=>rs (fun i=>a.Y.getD i 0 * pA p i k * z k) m) n:=b0E fun k hk=>by
  rw [← h.YA k hk,← h0H]
 rw [h1,p0S]
 have h2:rs (fun i=>rs (fun k=>a.Y.getD i 0 * pA p i k * z k) n) m≤rs (fun i=>a.Y.getD i 0 * pB p i) m:=R0m fun i hi=>by
  have e:rs (fun k=>a.Y.getD i 0 * pA p i k * z k) n=a.Y.getD i 0 * rs (fun k=>pA p i k * z k) n:=by
   rw [← p0T];exact b0E fun k _=>by grind
  rw [e]
  exact Rat.mul_le_mul_of_nonneg_left (hz i hi) (h.Y0 i hi)
 rw [h.YB] at h2
 exact h2
theorem x0R.opt (h:x0R p n m a):P0f p n m a:=.inl ⟨h.kind,fun z hz=>h.none z hz⟩
theorem x0S.opt (h:x0S p n m a):P0f p n m a:=by
 refine .inr (.inr ⟨h.kind,fun B=>?_⟩)
 have hc:=h.CR
 obtain ⟨c,hcd⟩:∃ c,c=rs (fun k=>pC p k * a.Ray.getD k 0) n:=⟨_,rfl⟩
 obtain ⟨x,hxd⟩:∃ x,x=rs (fun k=>pC p k * a.X.getD k 0) n:=⟨_,rfl⟩
 rw [← hcd] at hc
 -- how far
 obtain ⟨t,ht,htB⟩:∃ t:Rat,0≤t∧B < x + t * c:=by
  have hci:c * c⁻¹=1:=Rat.mul_inv_cancel _ (by grind)
  have h1:=inv_pos hc
  by_cases hB:B < x
  ·exact ⟨0,Rat.le_refl,by rw [d1V,d1U];exact hB⟩
  ·refine ⟨(B - x + 1) * c⁻¹,e1w (by grind) (e1P h1),?_⟩
   rw [Rat.mul_assoc,Rat.mul_comm c⁻¹ c,hci,Rat.mul_one];grind
 refine ⟨fun k=>a.X.getD k 0 + t * a.Ray.getD k 0,fun r hr=>?_,?_⟩
 ·rw [O0T]
  have h1:=h.AX r hr
  have h2:=e1w ht (b:=-rs (fun k=>pA p r k * a.Ray.getD k 0) n) (by have:=h.AR r hr;grind)
  grind
 ·unfold o0v
  rw [O0T,← hcd,← hxd];exact htB
end
structure f0i where
 X:List (Bool × List Nat)
 W:List (Bool × List Nat)
 K:Bool × List Nat
structure c0c where
 m:Int
 guards:List f0i
 set:List f0i
def iz:Bool × List Nat:=(false,[])
def aff0:f0i:=⟨[],[],iz⟩
def f0i.all (a:f0i):List (Bool × List Nat):=a.X ++ a.W
def vQ (x:Bool × List Nat):Rat:=((a0P x:Int):Rat)
def c0s (x:Bool × List Nat):b0e:=a0f (vQ x)
def u0U (N:Nat) (r:List b0e):List b0e:=r ++ List.replicate (N - r.length) (a0f 0)
def gC (y:List b0e) (set:List f0i) (j:Nat):Rat:=rs (fun i=>b0A (y.getD i c0m) * vQ ((set.getD i aff0).all.getD j iz)) set.length
def gK (y:List b0e) (set:List f0i):Rat:=rs (fun i=>b0A (y.getD i c0m) * vQ (set.getD i aff0).K) set.length
def c0p (rows:List (List b0e)) (e:c0c) (d:List b0W) (row N:Nat):LPt :=
 ⟨N,(d0h rows d).map (u0U N) ++ e.guards.map fun g=>g.all.map c0s,d0i rows d ++ e.guards.map fun g=>a0f (-vQ g.K),(List.range N).map fun j=>a0f (gC (rows.getD row []) e.set j)⟩
def P0s (a:f0i) (N:Nat) (z:Nat→Rat):Rat:=rs (fun j=>vQ (a.all.getD j iz) * z j) N + vQ a.K
def Z0W (r:List b0e) (n:Nat) (z:Nat→Rat):Rat:=rs (fun c=>b0A (r.getD c c0m) * z c) n
def y0a (rows:List (List b0e)) (e:c0c) (d:List b0W) (N:Nat) (z:Nat→Rat):Prop :=
 (∀ x ∈ rows.zip d,x.2.1=0→Z0W x.1 e.set.length z≤b0A x.2.2)∧∀ g ∈ e.guards,P0s g N z≤0
def m0H (y:List b0e) (e:c0c) (N:Nat) (z:Nat→Rat):Rat:=rs (fun i=>b0A (y.getD i c0m) * P0s (e.set.getD i aff0) N z) e.set.length
theorem G0B {α β:Type} {P:α→β→Prop} {a0:α} {b0:β}:∀ {A:List α} {B:List β},A.length=B.length→((∀ r,r < A.length→P (A.getD r a0) (B.getD r b0)) ↔ ∀ x ∈ A.zip B,P x.1 x.2)
 | [],[],_=>by simp
 | [],_ :: _,h=>by simp at h
 | _ :: _,[],h=>by simp at h
 | a :: A,b :: B,h=>by
  have ih:=G0B (P:=P) (a0:=a0) (b0:=b0) (A:=A) (B:=B) (by simpa using h)
  constructor
  ·intro h1 x hx
   rcases d1m.1 (by simpa using hx:x ∈ (a,b) :: A.zip B) with rfl | hx
   ·exact h1 0 (by simp)
   ·exact ih.1 (fun r hr=>by have:=h1 (r + 1) (by simpa using hr);simpa using this) x hx
  ·intro h1 r hr
   cases r with
   | zero=>exact h1 (a,b) (by simp)
   | succ r=>simpa using ih.2 (fun x hx=>h1 x (by simp;exact .inr hx)) r (by simpa using hr)
theorem u0W {Q:List b0e→b0e→Prop}:∀ {rows:List (List b0e)} {d:List b0W},(∀ x ∈ (d0h rows d).zip (d0i rows d),Q x.1 x.2) ↔ ∀ x ∈ rows.zip d,x.2.1=0→Q (h0t x.1) (a0f (b0A x.2.2))
 | [],d=>by simp [d0h,d0i]
 | _ :: _,[]=>by simp [d0h,d0i]
 | r :: rs,e :: es=>by
  have ih:=u0W (Q:=Q) (rows:=rs) (d:=es)
  simp only [d0h,d0i]
  by_cases h:e.1=0
  ·rw [b1W h,b1W h]
   simp only [List.zip_cons_cons,d1m,forall_eq_or_imp]
   rw [ih];simp [h]
  ·rw [b1T h,b1T h,ih]
   simp only [List.zip_cons_cons,d1m,forall_eq_or_imp]
   simp [h]
theorem O0S {f:Nat→Rat} {n:Nat}:∀ {N:Nat},n≤N→(∀ k,n≤k→k < N→f k=0)→rs f N=rs f n
 | 0,h,_=>by rw [show n=0 by omega]
 | N + 1,h,h0=>by
  by_cases hN:n=N + 1
  ·rw [hN]
  ·rw [rs,O0S (N:=N) (by omega) (fun k h1 h2=>h0 k h1 (by omega)),h0 N (by omega) (by omega),d1U]
theorem H0H {r:List b0e} {k:Nat} (h:k < r.length):b0A ((h0t r).getD k c0m)=b0A (r.getD k c0m):=by
 unfold h0t
 rw [b0F (by simpa using h),c1J,a0s,b0F h]
theorem z0P {r:List b0e} {n N:Nat} {z:Nat→Rat} (hr:r.length=n) (hN:n≤N):rs (fun k=>b0A ((u0U N (h0t r)).getD k c0m) * z k) N=Z0W r n z:=by
 have hl:(h0t r).length=n:=by unfold h0t;simp [hr]
 rw [O0S hN]
 ·refine b0E fun k hk=>?_
  unfold u0U
  rw [b1Q,c1D (by omega),← b1Q,H0H (by omega)]
 ·intro k h1 h2
  unfold u0U
  rw [b1Q,c1K (by omega),d1Z,b1W (by omega)]
  rw [c1u,a0s,d1V]
theorem P0t {l:List (Bool × List Nat)} {N:Nat} {z:Nat→Rat} (h:l.length=N):rs (fun k=>b0A ((l.map c0s).getD k c0m) * z k) N=rs (fun k=>vQ (l.getD k iz) * z k) N :=
 b0E fun k hk=>by rw [b0F (by simpa using by omega),c1J,b0F (by omega)];unfold c0s;rw [a0s]
section
variable {rows:List (List b0e)} {e:c0c} {d:List b0W} {row N:Nat} {z:Nat→Rat}
theorem H0q (hr:∀ r ∈ rows,r.length=e.set.length) (hN:e.set.length≤N) (hg:∀ g ∈ e.guards,g.all.length=N) :
  S0s (c0p rows e d row N) N (c0p rows e d row N).A.length z ↔ y0a rows e d N z:=by
 have hl:(c0p rows e d row N).A.length=(c0p rows e d row N).B.length:=by simp [c0p,h0j]
 have h1:=G0B (P:=fun a b=>rs (fun k=>b0A (a.getD k c0m) * z k) N≤b0A b) (a0:=[]) (b0:=c0m) hl
 refine Iff.trans h1 ?_
 unfold c0p y0a
 simp only
 rw [List.zip_append (by simp [h0j])]
 simp only [c1s,or_imp,forall_and]
 refine and_congr ?_ ?_
 ·rw [List.zip_map_left]
  have h2:=u0W (Q:=fun a b=>rs (fun k=>b0A ((u0U N a).getD k c0m) * z k) N≤b0A b) (rows:=rows) (d:=d)
  refine Iff.trans ?_ (Iff.trans h2 ?_)
  ·constructor
   ·intro h x hx;exact h (u0U N x.1,x.2) (c1M.2 ⟨x,hx,rfl⟩)
   ·intro h x hx;obtain ⟨y,hy,rfl⟩:=c1M.1 hx;exact h y hy
  ·constructor
   ·intro h x hx h0
    have:=h x hx h0
    rw [z0P (hr _ (List.of_mem_zip hx).1) hN,a0s] at this;exact this
   ·intro h x hx h0
    rw [z0P (hr _ (List.of_mem_zip hx).1) hN,a0s];exact h x hx h0
 ·rw [List.zip_map']
  have h3:∀ g ∈ e.guards,(rs (fun k=>b0A ((g.all.map c0s).getD k c0m) * z k) N≤b0A (a0f (-vQ g.K)) ↔ P0s g N z≤0):=fun g hg'=>by
   rw [P0t (hg g hg'),a0s];unfold P0s;constructor <;> intro h <;> grind
  constructor
  ·intro h g hg';have h4:=h (g.all.map c0s,a0f (-vQ g.K)) (c1M.2 ⟨g,hg',rfl⟩);exact (h3 g hg').1 h4
  ·intro h x hx;obtain ⟨g,hg',rfl⟩:=c1M.1 hx;exact (h3 g hg').2 (h g hg')
theorem Q0i:o0v (c0p rows e d row N) N z + gK (rows.getD row []) e.set=m0H (rows.getD row []) e N z:=by
 have h1:o0v (c0p rows e d row N) N z=rs (fun i=>b0A ((rows.getD row []).getD i c0m) * rs (fun j=>vQ ((e.set.getD i aff0).all.getD j iz) * z j) N) e.set.length:=by
  have e1:o0v (c0p rows e d row N) N z=rs (fun j=>rs (fun i=>b0A ((rows.getD row []).getD i c0m) * vQ ((e.set.getD i aff0).all.getD j iz) * z j) e.set.length) N:=by
   unfold o0v
   refine b0E fun j hj=>?_
   unfold pC c0p
   rw [b0F (by simpa using hj),c1J,d1u,a0s]
   unfold gC;rw [← h0H]
  rw [e1,p0S]
  refine b0E fun i _=>?_
  rw [← p0T];exact b0E fun j _=>by grind
 rw [h1]
 unfold gK m0H
 rw [← v0Z]
 exact b0E fun i _=>by unfold P0s;grind
end
def o0p (rows:List (List b0e)) (e:c0c) (d:List b0W) (row N:Nat) (x:b0W):Prop :=
 (x=(-1,c0m)∧(d0E (fun e=>decide (e.1 < 0)) d=true ∨ ∀ z,¬ y0a rows e d N z)) ∨
 (d0E (fun e=>decide (e.1 < 0)) d=false∧((∃ v,x=(0,a0f v)∧(∃ z,y0a rows e d N z∧m0H (rows.getD row []) e N z=v)∧∀ z,y0a rows e d N z→m0H (rows.getD row []) e N z≤v) ∨
 (x=(1,c0m)∧∀ B,∃ z,y0a rows e d N z∧B < m0H (rows.getD row []) e N z)))
section
variable {rows:List (List b0e)} {e:c0c} {d d':List b0W} {row N:Nat} {x y:b0W} {z:Nat→Rat}
theorem w0i:m0j (-1,c0m)=(-1,0):=by unfold m0j m0J;simp [h0o]
theorem i0V:m0j (1,c0m)=(1,0):=by unfold m0j m0J;simp [h0o]
theorem f0U {v:Rat}:m0j (0,a0f v)=(0,v):=by unfold m0j m0J;simp [f0q,a0s]
theorem o0p.grows (h:o0p rows e d row N x) (h':o0p rows e d' row N y) (hs:∀ z,y0a rows e d N z→y0a rows e d' N z) (hd:d0E (fun e=>decide (e.1 < 0)) d=false→d0E (fun e=>decide (e.1 < 0)) d' = false) :
  ¬ 0 < J0H (m0j x) (m0j y):=by
 have hle:∀ {a b:Rat},¬ b < a→¬ 0 < J0H (0,a) (0,b):=fun h1 h2=>by
  unfold J0H at h2;simp at h2;exact h1 (y0s.1 h2)
 rcases h with ⟨rfl,_⟩ | ⟨h0,h⟩
 ·rw [w0i]
  rcases h' with ⟨rfl,_⟩ | ⟨_,⟨v,rfl,_⟩ | ⟨rfl,_⟩⟩
  ·rw [w0i];decide
  ·rw [f0U];unfold J0H;simp
  ·rw [i0V];decide
 ·have h0':=hd h0
  rcases h with ⟨v,rfl,⟨z,hz,rfl⟩,hm⟩ | ⟨rfl,hu⟩
  ·rw [f0U]
   rcases h' with ⟨rfl,hn | hn⟩ | ⟨_,⟨w,rfl,_,hw⟩ | ⟨rfl,_⟩⟩
   ·rw [h0'] at hn;exact c1j hn (by decide)
   ·exact c1j (hs z hz) (hn z)
   ·rw [f0U];exact hle (by have:=hw z (hs z hz);grind)
   ·rw [i0V];unfold J0H;simp
  ·rw [i0V]
   rcases h' with ⟨rfl,hn | hn⟩ | ⟨_,⟨w,rfl,_,hw⟩ | ⟨rfl,_⟩⟩
   ·rw [h0'] at hn;exact c1j hn (by decide)
   ·obtain ⟨z,hz,_⟩:=hu 0;exact c1j (hs z hz) (hn z)
   ·obtain ⟨z,hz,hB⟩:=hu w
    have:=hw z (hs z hz);grind
   ·rw [i0V];decide
theorem o0p.keeps (h:o0p rows e d row N x) (h0:d0E (fun e=>decide (e.1 < 0)) d=false) (hz:y0a rows e d N z):¬ 0 < J0H (0,m0H (rows.getD row []) e N z) (m0j x):=by
 rcases h with ⟨rfl,hn | hn⟩ | ⟨_,⟨w,rfl,_,hw⟩ | ⟨rfl,_⟩⟩
 ·rw [h0] at hn;exact c1j hn (by decide)
 ·exact c1j hz (hn z)
 ·rw [f0U];intro h2
  unfold J0H at h2;simp at h2
  have:=y0s.1 h2;have:=hw z hz;grind
 ·rw [i0V];unfold J0H;simp
theorem o0p.unique (h:o0p rows e d row N x) (h':o0p rows e d row N y):x=y:=by
 rcases h with ⟨rfl,h⟩ | ⟨h0,h⟩ <;> rcases h' with ⟨rfl,h'⟩ | ⟨h0',h'⟩
 ·rfl
 ·rcases h with h | h
  ·rw [h] at h0';exact c1j h0' (by decide)
  ·rcases h' with ⟨v,_,⟨z,hz,_⟩,_⟩ | ⟨_,hu⟩
   ·exact c1j hz (h z)
   ·obtain ⟨z,hz,_⟩:=hu 0;exact c1j hz (h z)
 ·rcases h' with h' | h'
  ·rw [h'] at h0;exact c1j h0 (by decide)
  ·rcases h with ⟨v,_,⟨z,hz,_⟩,_⟩ | ⟨_,hu⟩
   ·exact c1j hz (h' z)
   ·obtain ⟨z,hz,_⟩:=hu 0;exact c1j hz (h' z)
 ·rcases h with ⟨v,rfl,⟨z,hz,rfl⟩,hm⟩ | ⟨rfl,hu⟩ <;> rcases h' with ⟨w,rfl,⟨z',hz',rfl⟩,hm'⟩ | ⟨rfl,hu'⟩
  ·have h1:=hm z' hz';have h2:=hm' z hz
   rw [Rat.le_antisymm h1 h2]
  ·obtain ⟨z',hz',hB⟩:=hu' (m0H (rows.getD row []) e N z);have:=hm z' hz';grind
  ·obtain ⟨z,hz,hB⟩:=hu (m0H (rows.getD row []) e N z');have:=hm' z hz;grind
  ·rfl
end
theorem P0f.sup {rows:List (List b0e)} {e:c0c} {d:List b0W} {row N:Nat} {a:m0V} (hr:∀ r ∈ rows,r.length=e.set.length) (hN:e.set.length≤N) (hg:∀ g ∈ e.guards,g.all.length=N) (h0:d0E (fun e=>decide (e.1 < 0)) d=false)
  (h:P0f (c0p rows e d row N) N (c0p rows e d row N).A.length a) :
  (a.kind=2∧o0p rows e d row N (-1,c0m)) ∨ (a.kind=3∧o0p rows e d row N (1,c0m)) ∨ (a.kind=1∧o0p rows e d row N (0,a0f (a.V + gK (rows.getD row []) e.set))):=by
 have hF:=fun z=>H0q (d:=d) (row:=row) (z:=z) hr hN hg
 have hG:=fun z=>Q0i (rows:=rows) (e:=e) (d:=d) (row:=row) (N:=N) (z:=z)
 rcases h with ⟨h1,h2⟩ | ⟨h1,⟨z,hz,hv⟩,h3⟩ | ⟨h1,h2⟩
 ·exact .inl ⟨h1,.inl ⟨rfl,.inr fun z hz=>h2 z ((hF z).2 hz)⟩⟩
 ·refine .inr (.inr ⟨h1,.inr ⟨h0,.inl ⟨_,rfl,⟨z,(hF z).1 hz,?_⟩,fun z' hz'=>?_⟩⟩⟩)
  ·rw [← hG,hv]
  ·have:=h3 z' ((hF z').2 hz');have:=hG z';grind
 ·refine .inr (.inl ⟨h1,.inr ⟨h0,.inr ⟨rfl,fun B=>?_⟩⟩⟩)
  obtain ⟨z,hz,hB⟩:=h2 (B - gK (rows.getD row []) e.set)
  exact ⟨z,(hF z).1 hz,by have:=hG z;grind⟩
theorem p0Y {f:Nat→Rat} {K:Nat} (h:∀ i,szR (f i)≤K):∀ n,szR (rs f n)≤n * (K + 1) + 1
 | 0=>by rw [rs,f0T];omega
 | n + 1=>by
  have h1:=p0Y h n
  have h2:=p0V (rs f n) (f n)
  have h3:=h n
  rw [rs,c1i];omega
def J0D (l:List (Bool × List Nat)):Prop:=∀ x ∈ l,x.2.length≤40∧b0t x.2
def u0e (a:f0i):Prop:=J0D a.X∧J0D a.W∧a.K.2.length≤40∧b0t a.K.2
structure j0X (e:c0c):Prop where
 set:∀ a ∈ e.set,u0e a
 guards:∀ a ∈ e.guards,u0e a
 ns:e.set.length≤3
 ng:e.guards.length≤6
 m:e.m≤3
def j0d (l:List f0i) (n m:Int):Bool:=!d0E (fun a=>!decide ((a.X.length:Int)=n) || !decide ((a.W.length:Int)=m)) l
def c0o (rows:List (List b0e)) (e:c0c) (d:List b0W) (row:Int):Bool :=
 f0g rows e.set.length d && decide (0≤row) && decide (row < rows.length) && decide (0≤e.m) && j0d e.set e.set.length e.m && j0d e.guards e.set.length e.m
theorem u0C {l:List f0i} {n m:Int}:j0d l n m=true ↔ ∀ a ∈ l,(a.X.length:Int)=n∧(a.W.length:Int)=m:=by
 unfold j0d d0E;simp [List.any_eq_false]
theorem J0D.sz {x:Bool × List Nat} {k:Nat} (h:x.2.length≤k) (h0:b0t x.2):szR (vQ x)≤max k 1:=by
 unfold vQ;rw [p0W];have:=u0L h0;omega
theorem u0e.all {a:f0i} (h:u0e a) (j:Nat):szR (vQ (a.all.getD j iz))≤40:=by
 rw [b1Q]
 by_cases hj:j < a.all.length
 ·rw [b1V hj]
  have hm:a.all[j] ∈ a.X ++ a.W:=c1a hj
  rcases c1s.1 hm with hm | hm
  ·exact J0D.sz (k:=40) (h.1 _ hm).1 (h.1 _ hm).2
  ·exact J0D.sz (k:=40) (h.2.1 _ hm).1 (h.2.1 _ hm).2
 ·rw [c1d (by omega)];show szR ((0:Int):Rat)≤40;rw [p0W,c0x];decide
theorem u0e.aff0:u0e aff0:=⟨fun x hx=>by simp [AI.aff0] at hx,fun x hx=>by simp [AI.aff0] at hx,by decide,fun x hx=>by simp [AI.aff0,iz] at hx⟩
theorem j0X.at {e:c0c} (h:j0X e) (i:Nat):u0e (e.set.getD i aff0):=by
 rw [b1Q]
 by_cases hi:i < e.set.length
 ·rw [b1V hi];exact h.set _ (c1a _)
 ·rw [c1d (by omega)];exact u0e.aff0
theorem j0X.gC {e:c0c} {y:List b0e} (h:j0X e) (hy:Few 6 y) (j n:Nat) (hn:n≤3):szR (rs (fun i=>b0A (y.getD i c0m) * vQ ((e.set.getD i aff0).all.getD j iz)) n)≤150:=by
 have h1:=p0Y (f:=fun i=>b0A (y.getD i c0m) * vQ ((e.set.getD i aff0).all.getD j iz)) (K:=47) (fun i=>by
  have h1:=f0S (b0A (y.getD i c0m)) (vQ ((e.set.getD i aff0).all.getD j iz))
  have h2:=hy.sz i
  have h3:=(h.at i).all j
  omega) n
 omega
theorem j0X.gK {e:c0c} {y:List b0e} (h:j0X e) (hy:Few 6 y) (n:Nat) (hn:n≤3):szR (rs (fun i=>b0A (y.getD i c0m) * vQ (e.set.getD i aff0).K) n)≤150:=by
 have h1:=p0Y (f:=fun i=>b0A (y.getD i c0m) * vQ (e.set.getD i aff0).K) (K:=47) (fun i=>by
  have h1:=f0S (b0A (y.getD i c0m)) (vQ (e.set.getD i aff0).K)
  have h2:=hy.sz i
  have h3:=J0D.sz (k:=40) (h.at i).2.2.1 (h.at i).2.2.2
  omega) n
 omega
theorem f0n {S:Nat} {x:Rat} (h:szR x≤S):e0I (a0f x)≤S∧b0t (a0f x).1.2∧b0t (a0f x).2.2:=⟨by rw [a0A];exact h,b0Z _,b0Z _⟩
theorem y0z {rows:List (List b0e)} {e:c0c} {d:List b0W} {row:Nat} {m:Nat} (ha:c0o rows e d row=true) (he:j0X e) (hm:e.m=(m:Int)) (hrl:rows.length≤8) (hr:∀ r ∈ rows,Few 6 r) (hd:∀ x ∈ d,e0I x.2≤6∧b0t x.2.1.2∧b0t x.2.2.2) :
  q0d (c0p rows e d row (e.set.length + m)) (e.set.length + m) (c0p rows e d row (e.set.length + m)).A.length 200∧l0Y (c0p rows e d row (e.set.length + m))=true∧e.set.length + m≤6∧(c0p rows e d row (e.set.length + m)).A.length≤14∧(∀ r ∈ rows,r.length=e.set.length)∧(∀ g ∈ e.guards,g.all.length=e.set.length + m)∧∀ x ∈ d,m0J x=true:=by
 unfold c0o f0g j0U at ha
 simp only [c1e,c1X] at ha
 obtain ⟨⟨⟨⟨⟨⟨⟨⟨⟨⟨hn0,hn6⟩,hl⟩,hrow⟩,hdl⟩,hmay⟩,hr0⟩,hr1⟩,hm0⟩,hfs⟩,hfg⟩:=ha
 have hns:=he.ns;have hng:=he.ng;have hm3:=he.m
 have hrow':∀ r ∈ rows,r.length=e.set.length:=fun r hr'=>by
  have:=c1C.1 hrow r hr'
  unfold p0R at this;simp at this;omega
 have hg:∀ g ∈ e.guards,g.all.length=e.set.length + m:=fun g hg'=>by
  have:=u0C.1 hfg g hg'
  unfold f0i.all;rw [c1g];omega
 have hmay':∀ x ∈ d,m0J x=true:=fun x hx=>by
  have h1:d0E (fun e=>!m0J e) d=false:=by simpa using hmay
  have:=List.any_eq_false.1 h1 x hx
  simpa using this
 have hAl:(c0p rows e d row (e.set.length + m)).A.length≤14:=by
  have:=i0F rows d
  simp [c0p];omega
 have hBl:(c0p rows e d row (e.set.length + m)).B.length=(c0p rows e d row (e.set.length + m)).A.length:=by simp [c0p,h0j]
 have hCl:(c0p rows e d row (e.set.length + m)).C.length=e.set.length + m:=by simp [c0p]
 have hlen:∀ r ∈ (c0p rows e d row (e.set.length + m)).A,Few 200 r∧r.length=e.set.length + m:=fun r hr'=>by
  rcases c1s.1 hr' with h1 | h1
  ·obtain ⟨q,h2,rfl⟩:=c1M.1 h1
   obtain ⟨q',h3,rfl⟩:=l0q h2
   have hl':(h0t q').length=e.set.length:=by unfold h0t;rw [d1f];exact hrow' _ h3
   refine ⟨fun x hx=>?_,by unfold u0U;rw [c1g,e1j];omega⟩
   rcases c1s.1 hx with hx | hx
   ·have:=H0r (hr q' h3) (by decide) x hx
    exact ⟨by omega,this.2⟩
   ·rw [(e1g.1 hx).2]
    exact f0n (by rw [f0T];decide)
  ·obtain ⟨g,h2,rfl⟩:=c1M.1 h1
   refine ⟨fun x hx=>?_,by rw [d1f];exact hg g h2⟩
   obtain ⟨y,hy,rfl⟩:=c1M.1 hx
   obtain ⟨j,hj,rfl⟩:=e1t.1 hy
   have:=(he.guards g h2).all j
   rw [b0F hj] at this
   exact f0n (by omega)
 have hfB:Few 200 (c0p rows e d row (e.set.length + m)).B:=fun x hx=>by
  rcases c1s.1 hx with h1 | h1
  ·obtain ⟨x',h2,rfl⟩:=l0s h1
   obtain ⟨h3,h4,h5⟩:=hd x' h2
   have:=d0u h4 h5
   exact f0n (by omega)
  ·obtain ⟨g,h2,rfl⟩:=c1M.1 h1
   have:=J0D.sz (k:=40) (he.guards g h2).2.2.1 (he.guards g h2).2.2.2
   exact f0n (by rw [G0u];omega)
 have hfC:Few 200 (c0p rows e d row (e.set.length + m)).C:=fun x hx=>by
  obtain ⟨j,hj,rfl⟩:=c1M.1 hx
  have h1:Few 6 (rows.getD row []):=by rw [b0F (by omega)];exact hr _ (c1a _)
  have:=he.gC h1 j e.set.length he.ns
  exact f0n (c1b this (by decide))
 obtain ⟨M,hM⟩:∃ M,M=(c0p rows e d row (e.set.length + m)).A.length:=⟨_,rfl⟩
 refine ⟨⟨rfl,rfl,hBl,hCl,hlen,hfB,hfC,by decide,by omega,by omega,?_⟩,?_,by omega,hAl,hrow',hg,hmay'⟩
 ·rw [← hM] at hAl ⊢
  obtain ⟨N,hN⟩:∃ N,N=e.set.length + m:=⟨_,rfl⟩
  rw [← hN]
  have hN6:N≤6:=by omega
  have h1:(M + 2) * ((N + 3) * (200 + 1) + M + 2)≤16 * 1825:=c1R (by omega) (by omega)
  have h2:(N + 1) * (2 * ((M + 2) * ((N + 3) * (200 + 1) + M + 2) + 1 + M + 200) + 10)≤7 * (2 * (16 * 1825 + 1 + 14 + 200) + 10):=c1R (by omega) (by omega)
  omega
 ·unfold l0Y
  have h1:d0E (fun r=>!decide ((r.length:Int)=(c0p rows e d row (e.set.length + m)).n)) (c0p rows e d row (e.set.length + m)).A=false:=by
   refine List.any_eq_false.2 fun r hr'=>?_
   have:=(hlen r hr').2
   show ¬ (!decide ((r.length:Int)=((e.set.length + m:Nat):Int)))=true
   simp [this]
  rw [h1,hBl,hCl]
  show (decide (0≤((e.set.length + m:Nat):Int)) && decide (((e.set.length + m:Nat):Int)≤60) && decide ((c0p rows e d row (e.set.length + m)).A.length≤60) && _ && decide (((e.set.length + m:Nat):Int)=((e.set.length + m:Nat):Int)) && !false)=true
  simp;omega
section
variable {rows:List (List b0e)} {e:c0c} {d:List b0W} {x w:List (Bool × List Nat)}
end
end
section
open Go SX
set_option maxHeartbeats 1000000
variable {fl:Nat} {H G:a0e} {R:a0u} {v w u:Value}
def PIr (H:a0e) (cs:List Value) (x:Bool × List Nat):Prop:=b0r H (.agg cs.toArray) x
theorem c0y:h0J PIr:=fun _ _ _ _ hx h=>b0r.mono h hx
abbrev e0A (H:a0e) (v:Value) (l:List (Bool × List Nat)):Prop:=Sls PIr H a0a 2 v l
theorem e0A.load {l:List (Bool × List Nat)} (h:e0A H v l) {j:Nat} (hj:j < l.length):∃ s,b0q H true 2 (adr 2 v j)=some (.agg #[.bool l[j].1,s])∧Lim H s l[j].2:=by
 obtain ⟨cs,h1,_,s,h3,h4⟩:=Sls.load h hj (by omega)
 exact ⟨s,by rw [h1,h3],h4⟩
theorem e0A.lim {l:List (Bool × List Nat)} (h:e0A H v l):∀ x ∈ l,b0t x.2:=fun x hx=>by
 obtain ⟨i,hi,rfl⟩:=c1Z hx
 obtain ⟨s,_,k⟩:=e0A.load h hi
 exact k.ok
def G0C (H:a0e) (v:Value) (a:f0i):Prop:=∃ sX sW s,v=.agg #[sX,sW,.bool a.K.1,s]∧e0A H sX a.X∧e0A H sW a.W∧Lim H s a.K.2
theorem G0C.mono {a:f0i} (h:G0C H v a) (hx:Ext H G):G0C G v a:=by
 obtain ⟨sX,sW,s,h1,h2,h3,h4⟩:=h;exact ⟨sX,sW,s,h1,h2.mono c0y hx,h3.mono c0y hx,h4.mono hx⟩
def PAf (H:a0e) (cs:List Value) (a:f0i):Prop:=G0C H (.agg cs.toArray) a
theorem b0T:h0J PAf:=fun _ _ _ _ hx h=>G0C.mono h hx
abbrev g0n (H:a0e) (v:Value) (l:List f0i):Prop:=Sls PAf H f0k 4 v l
theorem g0n.load {l:List f0i} (h:g0n H v l) {j:Nat} (hj:j < l.length):∃ w,b0q H true 4 (adr 4 v j)=some w∧G0C H w l[j]:=by
 obtain ⟨cs,h1,_,h3⟩:=Sls.load h hj (by omega);exact ⟨_,h1,h3⟩
def i0c (H:a0e) (v:Value) (e:c0c):Prop:=∃ (f t:Int) (sG sS sP:Value),v=.agg #[.int .i64 f,.int .i64 t,.int .i64 e.m,sG,sS,sP]∧g0n H sG e.guards∧g0n H sS e.set∧a0R sP=[sP]∧a0q sP=true
theorem i0c.mono {e:c0c} (h:i0c H v e) (hx:Ext H G):i0c G v e:=by
 obtain ⟨f,t,sG,sS,sP,h1,h2,h3,h4,h5⟩:=h;exact ⟨f,t,sG,sS,sP,h1,h2.mono b0T hx,h3.mono b0T hx,h4,h5⟩
end
section
open Go SX
set_option maxHeartbeats 4000000
variable {fl:Nat} {H G:a0e} {R:a0u} {v w u:Value}
theorem J0y {x:Bool × List Nat}:c0s x=(a0m (a0P x),a0m 1):=by
 unfold c0s vQ a0f;rw [e1q,e1o];rfl
theorem d0q {x:Bool × List Nat} (h:b0r H v x) (hf:fl≤H.size) (hn:x.2.length < 536870912) :
  a0S env fl J0O [v] H (fun r H'=>b0O H' r (c0s x)∧Ext H H') R:=by
 have k0:=h
 obtain ⟨s,rfl,hs⟩:=h
 refine a0g b1v hf (h:=?_)
 intro ρ h0
 simp [X0e,N0X,h0,hs.cells]
 generalize hG:Array.push (Array.push H _) _=G
 obtain ⟨hx,b1,b2⟩:=push2 hG
 clear hG
 simp [N0Y,b1]
 refine (e0h (i:=x) (j:=iz) (k0.mono hx) ⟨_,rfl,Lim.nil⟩ hx.1 hn (by decide)).mono ?_
 rintro _ G2 ⟨⟨s1,rfl,k1⟩,hx2⟩
 replace b2:=hx2.blk b2
 replace hx:=hx.trans hx2
 clear hx2
 simp
 refine (c0f (n:=1) hx.1 (by omega) (by omega)).mono ?_
 rintro _ G2 ⟨⟨s2,rfl,k2⟩,hx2⟩
 replace b2:=hx2.blk b2
 replace k1:=k1.mono hx2
 replace hx:=hx.trans hx2
 clear hx2
 have hsz:=hx.1
 have h0z:a0P iz=0:=by decide
 rw [h0z,d1r] at k1 ⊢
 simp [b2,hsz,k1.cells,k1.plain,k2.cells,k2.plain]
 generalize hS':Array.setIfInBounds G2 _ _=G3
 rw [a0M hS' b2]
 simp
 rw [J0y]
 exact fun _=>⟨s1,s2,rfl,k1.setS hS' b2 (by decide),k2.setS hS' b2 (by decide)⟩
theorem j0z {e:b0W} (h:h0q H v e) (hf:fl≤H.size):a0S env fl T0E [v] H (fun r H'=>r=.bool (decide (e.1 < 0))∧Ext H H') R:=by
 obtain ⟨s,u,rfl,hs,hu⟩:=h
 refine a0g b1d hf (h:=?_)
 intro ρ h0
 simp [W0M,M0x,M0y,h0]
theorem g0W {a:List b0W} (ha:d0N H v a) (hf:fl≤H.size) (hfa:P0d a) (hal:a.length < 1073741824) :
  a0S env fl R0U [v] H (fun r H'=>r=.bool (d0E (fun e=>decide (e.1 < 0)) a)∧Ext H H') R:=by
 refine a0g a1O hf (h:=?_)
 intro ρ h0
 simp [W0x,L0o,L0p,h0]
 refine (f0j (p:=fun e=>decide (e.1 < 0)) ha (b1S _) hfa hal (fun fl G v e hf h hn=>j0z h hf)).mono ?_
 rintro _ G2 ⟨rfl,hx2⟩
 simp
theorem k0A {a:List f0i} {p:f0i→Bool} {g:FuncId} {c c2:Value} (I:a0e→Prop) (hI:∀ G G',Ext G G'→I G→I G') (h0:I H) (ha:g0n H v a) (hf:fl≤H.size) (hal:a.length < 1073741824)
  (hg:∀ (fl:Nat) (G:a0e) (v:Value) (e:f0i),I G→fl≤G.size→G0C G v e→a0S env fl g [v,c,c2] G (fun r H'=>r=.bool (p e)∧Ext G H') R) :
  a0S env fl y0E [v,.func (.func g) #[] #[c,c2]] H (fun r H'=>(∃ z:Int,r=.int .i64 z∧(0≤z ↔ d0E p a=true))∧Ext H H') R:=by
 refine a0g Y0t hf (h:=?_)
 intro ρ h1
 simp [I0k,A0m,A0n,h1,ha.slen]
 refine c0I (n:=a.length) (fun i ρ G=>ρ 0=v∧ρ 1=.func (.func g) #[] #[c,c2]∧Ext H G∧d0E p (a.take i)=false)
  rfl rfl (by decide) (by omega) (by simp) (by simp) ?_ ?_ ?_ ?_
 ·exact ⟨by simp [h1],by simp [h1],Ext.refl H,by rw [e1v];exact h0a⟩
 ·intro i ρ ρ' G h hI;simpa [h] using hI
 ·clear h1 ρ
  rintro i ρ G hi gi gn ⟨g0,g1,hx,hc⟩
  have ka:=ha.mono b0T hx
  obtain ⟨w,hl,k0⟩:=g0n.load ka hi
  simp [A0o,A0p,gi,g0,g1,ka.ia hi,hl]
  refine (hg _ _ _ _ (hI _ _ hx h0) hx.1 k0).mono ?_
  rintro _ G2 ⟨rfl,hx2⟩
  have hx':=hx.trans hx2
  cases hp:p a[i]
  ·simp
   exact Rnd.mk (by simp [gi]) (by simp [gn]) ⟨by simp [g0],by simp [g1],hx',by rw [f0l hi,hc,hp];rfl⟩
  ·simp [A0q,gi]
   exact fun _=>h0b hi hp
 ·clear h1 ρ
  rintro ρ G gi gn ⟨g0,g1,hx,hc⟩
  rw [c1h] at hc
  simp [A0r,hc]
theorem i0a {a:List f0i} {p:f0i→Bool} {g:FuncId} {c c2:Value} (I:a0e→Prop) (hI:∀ G G',Ext G G'→I G→I G') (h0:I H) (ha:g0n H v a) (hf:fl≤H.size) (hal:a.length < 1073741824)
  (hg:∀ (fl:Nat) (G:a0e) (v:Value) (e:f0i),I G→fl≤G.size→G0C G v e→a0S env fl g [v,c,c2] G (fun r H'=>r=.bool (p e)∧Ext G H') R) :
  a0S env fl T0O [v,.func (.func g) #[] #[c,c2]] H (fun r H'=>r=.bool (d0E p a)∧Ext H H') R:=by
 refine a0g b1q hf (h:=?_)
 intro ρ h1
 simp [W0Z,N0E,N0F,h1]
 refine (k0A (p:=p) I hI h0 ha (b1S _) hal hg).mono ?_
 rintro _ G2 ⟨⟨z,rfl,hz⟩,hx2⟩
 simp
 intro _
 rw [e1G,c1X];exact hz
theorem j0y {a:f0i} {b c:Nat} {n m:Int} (h:G0C H v a) (hb:H.blk b=.row false e0l [.int .i64 n]) (hc:H.blk c=.row false e0l [.int .i64 m]) (hf:fl≤H.size) :
  a0S env fl T0P [v,.pointer (some ⟨b,0,none⟩),.pointer (some ⟨c,0,none⟩)] H (fun r H'=>r=.bool (!decide ((a.X.length:Int)=n) || !decide ((a.W.length:Int)=m))∧Ext H H') R:=by
 obtain ⟨sX,sW,s,rfl,hX,hW,hs⟩:=h
 refine a0g b1r hf (h:=?_)
 intro ρ h0
 simp [X0a,N0G,h0,hX.cells,hW.cells,hs.cells]
 generalize hG:Array.push H _=G
 obtain ⟨hx,b3⟩:=h0Z hG
 replace hb:=hx.blk hb
 replace hc:=hx.blk hc
 simp [N0H,h0,b3,hb,hc,hX.slen,hW.slen]
 by_cases h1:(a.X.length:Int)=n
 ·by_cases h2:(a.W.length:Int)=m
  ·simp [h1,h2]
  ·simp [h1,h2]
 ·simp [h1]
theorem g0V {l:List f0i} {n m:Int} (h:g0n H v l) (hf:fl≤H.size) (hal:l.length < 1073741824) :
  a0S env fl R0Y [v,.int .i64 n,.int .i64 m] H (fun r H'=>r=.bool (j0d l n m)∧Ext H H') R:=by
 refine a0g b1b hf (h:=?_)
 intro ρ h0
 simp [W0K,M0t,h0]
 generalize hG:Array.push (Array.push H _) _=G
 obtain ⟨hx,b1,b2⟩:=push2 hG
 clear hG
 simp [M0u,h0]
 refine (i0a (p:=fun a=>!decide ((a.X.length:Int)=n) || !decide ((a.W.length:Int)=m)) (fun G=>G.blk H.size=.row false e0l [.int .i64 n]∧G.blk (H.size + 1)=.row false e0l [.int .i64 m]) (fun G G' hx h=>⟨hx.blk h.1,hx.blk h.2⟩) ⟨b1,b2⟩ (h.mono b0T hx) hx.1 hal
  (fun fl G v e hI hf h=>j0y h hI.1 hI.2 hf)).mono ?_
 rintro _ G2 ⟨rfl,hx2⟩
 simp
 exact fun _=>by unfold j0d;simp
theorem U0r {r1 r2 r3:Blk} (h:Array.push (Array.push (Array.push H r1) r2) r3=G):Ext H G∧a0e.blk G H.size=r1∧a0e.blk G (H.size + 1)=r2∧a0e.blk G (H.size + 2)=r3:=by
 subst h
 refine ⟨(Ext.refl H).push.push.push,?_,?_,?_⟩ <;> simp [a0x]
theorem n0a {x:Int × Rat}:(g0u x).1=x.1:=by unfold g0u;split <;> simp_all
theorem q0E {e:b0W} {b:b0e} (h:h0q H v e) (k:b0O H w b) (hf:fl≤H.size) (hn:e0I e.2 < 67108864) (hm:e0I b < 67108864) (he:szR (m0j e).2 < 67108864) (hs:szR (m0j e).2 + szR (b0A b) + 1 < 67108864) :
  a0S env fl T0z [v,w] H (fun r H'=>h0q H' r (if (m0j e).1=0 then (0,a0f ((m0j e).2 + b0A b)) else g0u (m0j e))∧Ext H H') R:=by
 have h':=h;have k':=k
 obtain ⟨s1,s2,rfl,l1,l2⟩:=h
 obtain ⟨s3,s4,rfl,l3,l4⟩:=k
 refine a0g a1R hf (h:=?_)
 intro ρ h0
 simp [W0A,L0B,h0,l1.cells,l2.cells,l3.cells,l4.cells]
 generalize hG:Array.push (Array.push (Array.push H _) _) _=G
 obtain ⟨hx,b2,b3,b4⟩:=U0r hG
 clear hG
 simp [L0C,b2]
 refine (m0x (h'.mono hx) hx.1 hn).mono ?_
 rintro _ G2 ⟨⟨y1,y2,rfl,q1,q2⟩,hx2⟩
 replace b2:=hx2.blk b2
 replace b3:=hx2.blk b3
 replace b4:=hx2.blk b4
 replace hx:=hx.trans hx2
 clear hx2
 have hsz:=hx.1
 simp [b2,hsz,q1.cells,q1.plain,q2.cells,q2.plain]
 generalize hS:Array.setIfInBounds G2 _ _=G3
 have c2:=a0M hS b2
 have c3:a0e.blk G3 (H.size + 1)=_:=a0z hS b3 (by omega)
 have c4:a0e.blk G3 (H.size + 2)=_:=a0z hS b4 (by omega)
 have hx3:=b0I hS hx (b1S _)
 have m1:=q1.setS hS b2 (by decide)
 have m2:=q2.setS hS b2 (by decide)
 clear b2 b3 b4 q1 q2
 have hsz3:=hx3.1
 by_cases hk:(m0j e).1=0
 ·have hk':(g0u (m0j e)).1=0:=by rw [n0a];exact hk
  have hce:g0u (m0j e)=(0,a0f (m0j e).2):=by unfold g0u;rw [b1W hk]
  simp [F0c,c2,hk']
  simp [L0E,c2,c3]
  rw [hce] at m1 m2 ⊢
  rw [b1W hk]
  refine (b0D (a:=a0f (m0j e).2) ⟨y1,y2,rfl,m1,m2⟩ (k'.mono hx3) hx3.1 (by rw [a0A];exact he) hm).mono ?_
  rintro wa G5 ⟨ka,hx5⟩
  replace c4:=hx5.blk c4
  replace hx3:=hx3.trans hx5
  rw [a0s] at ka
  have hsa:=p0V (m0j e).2 (b0A b)
  simp
  refine (f0C ka hx3.1 (by rw [a0A];omega)).mono ?_
  rintro _ G6 ⟨⟨z1,z2,rfl,n1,n2⟩,hx6⟩
  replace c4:=hx6.blk c4
  replace hx3:=hx3.trans hx6
  rw [a0s] at n1 n2 ⊢
  have hsz6:=hx3.1
  simp [c4,hsz6,n1.cells,n1.plain,n2.cells,n2.plain]
  generalize hS':Array.setIfInBounds G6 _ _=G7
  rw [a0M hS' c4]
  simp
  exact fun _=>⟨_,_,rfl,n1.setS hS' c4 (by decide),n2.setS hS' c4 (by decide)⟩
 ·have hk':¬ (g0u (m0j e)).1=0:=by rw [n0a];exact hk
  simp [F0c,c2,hk']
  simp [L0D,c2,c4,hsz3,m1.cells,m1.plain,m2.cells,m2.plain]
  generalize hS':Array.setIfInBounds G3 _ _=G4
  rw [a0M hS' c4]
  simp
  rw [b1T hk]
  exact fun _=>⟨_,_,rfl,m1.setS hS' c4 (by decide),m2.setS hS' c4 (by decide)⟩
theorem d0a.shape {rows:List (List b0e)} (h:d0a H v rows):∃ s,v=.agg #[s]∧e0B H s rows:=h
theorem g0c {rows:List (List b0e)} {e:c0c} {d:List b0W} {row:Int} (ht:d0a H v rows) (he:i0c H w e) (hd:d0N H u d) (hf:fl≤H.size) (hr:∀ r ∈ rows,Few 6 r∧r.length < 1073741824) (hrl:rows.length < 1073741824) (hfd:P0d d) (hdl:d.length < 1073741824) (hel:e.set.length < 1073741824) (hgl:e.guards.length < 1073741824) :
  a0S env fl R0T [v,w,u,.int .i64 row] H (fun r H'=>r=.bool (c0o rows e d row)∧Ext H H') R:=by
 have ht0:=ht
 obtain ⟨s,rfl,hs⟩:=ht
 obtain ⟨f,t,sG,sS,sP,rfl,hG,hS,hPc,hPp⟩:=he
 refine a0g a1N hf (h:=?_)
 intro ρ h0
 simp [W0w,L0l,h0,hs.cells,hG.cells,hS.cells,hPc]
 generalize hN:Array.push (Array.push H _) _=G
 obtain ⟨hx,b4,b5⟩:=push2 hN
 clear hN
 simp [L0m,b5,hS.slen]
 simp [L0n,h0,b4,b5]
 refine (m0w (S:=6) (ht0.mono hx) (hd.mono b0X hx) hx.1 (by decide) hr hrl hfd hdl).mono ?_
 rintro _ G2 ⟨rfl,hx2⟩
 replace b4:=hx2.blk b4
 replace b5:=hx2.blk b5
 replace hx:=hx.trans hx2
 clear hx2
 unfold c0o
 cases hv:f0g rows e.set.length d
 ·simp
 have hsl:=(hs.mono c0N hx).slen
 by_cases h1:0≤row
 ·by_cases h2:row < rows.length
  ·by_cases h3:0≤e.m
   ·simp [h0,h1,h2,h3,b4,b5,hsl]
    refine (g0V (l:=e.set) (hS.mono b0T hx) hx.1 hel).mono ?_
    rintro _ G3 ⟨rfl,hx2⟩
    replace b5:=hx2.blk b5
    replace hx:=hx.trans hx2
    clear hx2
    cases hq:j0d e.set e.set.length e.m
    ·simp
    ·simp [b5]
     refine (g0V (l:=e.guards) (hG.mono b0T hx) hx.1 hgl).mono ?_
     rintro _ G4 ⟨rfl,hx2⟩
     simp
   ·simp [h0,h1,h2,h3,b4,b5,hsl]
  ·simp [h0,h1,h2,b4,b5,hsl]
 ·simp [h0,h1]
def x0M (d:List b0W):Nat:=(d.filter fun x=>decide (x.1=0)).length
theorem s0i (d:List b0W):x0M d≤d.length:=List.length_filter_le _ _
theorem y0t {d:List b0W} {i:Nat} (h:i < d.length):x0M (d.take (i + 1))=x0M (d.take i) + if d[i].1=0 then 1 else 0:=by
 unfold x0M
 rw [c1k h,List.filter_append,c1g]
 by_cases h0:d[i].1=0 <;> simp [h0]
def w0d (e:c0c) (d:List b0W):Bool:=decide (e.guards.length + x0M d≤60) && decide ((e.set.length:Int) + e.m≤60)
theorem k0j {rows:List (List b0e)} {e:c0c} {d:List b0W} (ht:d0a H v rows) (he:i0c H w e) (hd:d0N H u d) (hf:fl≤H.size) (hdl:d.length < 1073741824) (hel:e.set.length < 1073741824) (hgl:e.guards.length < 1073741824) (hm0:-1073741824 < e.m) (hm1:e.m < 1073741824) :
  a0S env fl T0F [v,w,u] H (fun r H'=>r=.bool (w0d e d)∧Ext H H') R:=by
 have ht0:=ht
 obtain ⟨s,rfl,hs⟩:=ht
 obtain ⟨f,t,sG,sS,sP,rfl,hG,hS,hPc,hPp⟩:=he
 refine a0g b1e hf (h:=?_)
 intro ρ h0
 simp [W0N,M0z,h0,hs.cells,hG.cells,hS.cells,hPc]
 generalize hN:Array.push (Array.push H _) _=G
 obtain ⟨hx,b3,b4⟩:=push2 hN
 clear hN
 simp [M0A,b4,hG.slen]
 simp [M0B,h0,hd.slen]
 have hcl:=s0i d
 refine c0I (n:=d.length) (fun i ρ G=>ρ 13=u∧ρ 4=.pointer (some ⟨H.size + 1,0,none⟩)∧Ext H G∧a0e.blk G (H.size + 1)=.row false b0B [.int .i64 f,.int .i64 t,.int .i64 e.m,sG,sS,sP]∧ρ 7=.int .i64 ((e.guards.length + x0M (d.take i):Nat):Int)) rfl rfl (by decide) (by omega) (by simp) (by simp) ?_ ?_ ?_ ?_
 ·exact ⟨by simp,by simp,hx,b4,by simp [x0M]⟩
 ·intro i ρ ρ' G h hI;simpa [h] using hI
 ·clear h0 ρ b3 b4 hx
  rintro i ρ G hi gi gn ⟨g13,g4,hx,b4,g7⟩
  have kd:=hd.mono b0X hx
  obtain ⟨wx,ex,kx⟩:=d0N.load kd hi
  obtain ⟨y1,y2,rfl,q1,q2⟩:=kx
  have hsz:=hx.1
  simp [M0C,gi,g13,kd.ia hi,ex,q1.cells,q1.plain,q2.cells,q2.plain,hsz]
  generalize hN:Array.setIfInBounds (Array.push _ _) _ _=G3
  obtain ⟨hx2,b5⟩:=new1 hN
  clear hN
  replace b4:=hx2.blk b4
  replace hx:=hx.trans hx2
  have hcs:=y0t hi
  have hct:=s0i (d.take (i + 1))
  rw [c1T] at hct
  by_cases hk:d[i].1=0
  ·rw [b1W hk] at hcs
   have wr:IntKind.i64.wrap (((e.guards.length + x0M (d.take i):Nat):Int) + 1)=((e.guards.length + x0M (d.take (i + 1)):Nat):Int):=by
    rw [a0T (by omega) (by omega)];omega
   simp [F0i,b5,hk]
   simp [-Int.natCast_add,M0D,g7,wr]
   exact Rnd.mk (by simp [gi]) (by simp [gn]) ⟨by simp [g13],by simp [g4],hx,b4,by simp⟩
  ·rw [b1T hk,d1d] at hcs
   simp [F0i,b5,hk]
   exact Rnd.mk (by simp [gi]) (by simp [gn]) ⟨by simp [g13],by simp [g4],hx,b4,by simp [g7,hcs]⟩
 ·rintro ρ G gi gn ⟨g13,g4,hx,b4,g7⟩
  rw [c1h] at g7
  have hSl:=(hS.mono b0T hx).slen
  have wr:IntKind.i64.wrap ((e.set.length:Int) + e.m)=(e.set.length:Int) + e.m:=a0T (by omega) (by omega)
  unfold w0d
  by_cases h1:e.guards.length + x0M d≤60
  ·have h1':((e.guards.length + x0M d:Nat):Int)≤60:=by omega
   simp [-Int.natCast_add,F0j,g7,g4,b4,hSl,wr,h1,h1']
  ·have h1':¬ ((e.guards.length + x0M d:Nat):Int)≤60:=by omega
   simp [-Int.natCast_add,F0j,g7,g4,b4,hSl,wr,h1,h1']
def x0W (fl:Nat) (H:a0e) (e sz:Nat) (v:Value) (n:Nat) (cs:List Value):Prop :=
 cs.length=n * sz∧((v=.slice none 0 0∧n=0) ∨ ∃ b cells,v=.slice (some ⟨b,0,none⟩) n unk∧H.blk b=.row false e cells∧fl≤b∧n * sz≤cells.length∧cs=cells.take (n * sz))
theorem x0V {n:Nat} (hf:fl≤H.size) (hn:n≤1073741824) :
  a0S env fl y0F [.slice none 0 0,.int .i64 (n:Int)] H (fun r H'=>x0W H.size H' a0a 2 r 0 []∧Ext H H') R:=by
 refine a0g Y0w hf (h:=?_)
 intro ρ h0
 have w0:IntKind.i64.wrap 0=0:=by decide
 have w1:IntKind.i64.wrap (n:Int)=(n:Int):=a0T (by omega) (by omega)
 simp [I0n,A0z,A0A,h0,show ¬ (n:Int) < 0 by omega]
 simp [A0B,A0C,h0,g0Q,w0,w1]
 refine ⟨fun h=>?_,fun h=>?_⟩
 ·have hg:w0P 32 (.slice none 0 0) (.int .i64 (n:Int))=some n:=by
   unfold w0P;simp only;rw [b1W ⟨by omega,by omega,by decide⟩];simp
  simp [A0D,h0,g0Q,hg,d0K,bnd,elemOk,unk,s0R]
  exact ⟨rfl,.inr ⟨H.size,e0r [.bool false,.slice none 0 0] n,rfl,a0v,b1S _,by simp,rfl⟩⟩
 ·simp [s0R,h0]
  exact ⟨rfl,.inl ⟨rfl,rfl⟩⟩
theorem x0W.sl {e sz n:Nat} {s:Value} {cs:List Value} (h:x0W fl G e sz s n cs):Sl G e sz s n cs:=by
 obtain ⟨h1,⟨rfl,rfl⟩ | ⟨b,cells,rfl,hb,hf,hl,rfl⟩⟩:=h
 ·exact ⟨h1,.inl ⟨rfl,rfl⟩⟩
 ·exact ⟨h1,.inr ⟨b,0,unk,false,cells,rfl,hb,by omega,by rw [d1l]⟩⟩
theorem x0W.mono {e sz n:Nat} {s:Value} {cs:List Value} {G':a0e} (h:x0W fl G e sz s n cs) (hx:Ext G G'):x0W fl G' e sz s n cs:=by
 obtain ⟨h1,h2 | ⟨b,cells,h2,hb,h3⟩⟩:=h
 ·exact ⟨h1,.inl h2⟩
 ·exact ⟨h1,.inr ⟨b,cells,h2,hx.blk hb,h3⟩⟩
theorem G0X {e e2 sz bytes n m:Nat} {s x:Value} {cs new:List Value} (ho:x0W fl G e sz s n cs) (hx:Sl G e2 sz x m new) (hp:new.all a0q=true) (hn:n + m≤1073741824) (hb:bytes≤1024) (hs:0 < sz) (hfl:fl≤G.size) :
  ∃ v' G',h0B fl G e sz bytes s x=some (v',G')∧x0W fl G' e sz v' (n + m) (cs ++ new)∧c0Z (slB s) G G'∧(∀ H0,H0.size≤fl→Ext H0 G→Ext H0 G'):=by
 obtain ⟨hxl,hx⟩:=hx
 have hol:=ho.1
 by_cases hm:m=0
 ·subst hm
  have hnew:new=[]:=c1r.1 (by omega)
  subst hnew
  refine ⟨s,G,?_,by simpa using ho,(Ext.refl G).extB,fun _ _ h=>h⟩
  rcases hx with ⟨rfl,_⟩ | ⟨b,off,cap,ro,cells,rfl,_⟩ <;> rcases ho.2 with ⟨rfl,rfl⟩ | ⟨b',cells',rfl,_⟩ <;> simp [h0B]
 ·rcases hx with ⟨_,h0⟩ | ⟨b,off,cap,ro,cells,rfl,hbk,ho1,ho2⟩
  ·exact c1j h0 hm
  have hc:=e0M hbk ho1
  rw [← ho2] at hc
  rcases ho.2 with ⟨rfl,rfl⟩ | ⟨b',cells',rfl,hb',hf',hl',hcs'⟩
  ·have hcs:cs=[]:=c1r.1 (by omega)
   subst hcs
   refine ⟨.slice (some ⟨G.size,0,none⟩) m unk,G.push (.row false e new),?_,?_,(Ext.push (Ext.refl G)).extB,fun _ _ h=>h.push⟩
   ·unfold h0B
    simp only
    rw [b1T hm,b1W ⟨by omega,hb,hs⟩]
    simp only [hc,hp,e1e,c1O]
    rw [b1W ⟨by trivial,by trivial⟩]
   ·rw [c1y]
    refine ⟨by simpa using hxl,.inr ⟨G.size,new,rfl,a0v,hfl,by omega,?_⟩⟩
    rw [← hxl,c1h];rfl
  ·have hb'l:=a0j hb'
   have hc2:G.cells? b' 0 (n * sz)=some cs:=by
    rw [e0M hb' (by omega),d1l,← hcs']
   have hal:(cs ++ new).length=(n + m) * sz:=by rw [c1g,hol,hxl,c1i]
   refine ⟨.slice (some ⟨G.size,0,none⟩) (n + m) unk,(G.setIfInBounds b' .dead).push (.row false e (cs ++ new)),?_,?_,?_,?_⟩
   ·unfold h0B
    simp only
    rw [b1T hm,b1W ⟨by omega,hb,hs⟩]
    simp only [hc,hp,e1e,c1O,hc2]
    rw [b1T (fun h00:n=0∧unk=0=>c1j h00.2 (by decide)),b1T (fun h=>h.1 rfl)]
    simp only [hb']
    rw [b1W ⟨trivial,hf'⟩]
   ·exact ⟨hal,.inr ⟨G.size,cs ++ new,rfl,by rw [a0x];simp,hfl,by omega,by rw [← hal,c1h]⟩⟩
   ·refine ⟨by simp,fun c hc hne=>?_⟩
    have:b' ≠ c:=fun h=>hne (by simp [slB,h])
    rw [d0s (by simpa using hc),a0Q this]
   ·intro H0 h1 h2
    exact (h2.set (by omega)).push
def w0o {α:Type} (P:a0e→List Value→α→Prop) (fl:Nat) (H:a0e) (e sz:Nat) (v:Value) (l:List α):Prop :=
 ∃ cs,x0W fl H e sz v l.length cs∧∀ k (h:k < l.length),P H ((cs.drop (k * sz)).take sz) l[k]
theorem w0o.sls {α:Type} {P:a0e→List Value→α→Prop} {e sz:Nat} {l:List α} (h:w0o P fl H e sz v l):Sls P H e sz v l:=by
 obtain ⟨cs,h1,h2⟩:=h;exact ⟨cs,h1.sl,h2⟩
theorem l0p {sz:Nat} (hs:0 < sz):∀ {n:Nat} {cs:List Value},cs.length=n * sz→(∀ k,k < n→((cs.drop (k * sz)).take sz).all a0q=true)→cs.all a0q=true
 | 0,cs,h,_=>by rw [c1r.1 (by omega:cs.length=0)];rfl
 | n + 1,cs,h,h2=>by
  have h3:=h2 0 (by omega)
  rw [e1O,d1l] at h3
  rw [c1i,c1H] at h
  have h4:=l0p hs (n:=n) (cs:=cs.drop sz) (by rw [List.length_drop];omega) (fun k hk=>by
   have:=h2 (k + 1) (by omega)
   rw [d1s]
   rwa [show sz + k * sz=(k + 1) * sz by rw [c1i];omega])
  rw [← d1F sz cs,e1h,h3,h4];rfl
theorem PIr.plain {cs:List Value} {x:Bool × List Nat} (h:PIr H cs x):cs.all a0q=true:=by
 obtain ⟨s,h1,h2⟩:=h
 have h3:cs=[.bool x.1,s]:=by injection h1 with h1;simpa using e1K Array.toList h1
 subst h3;simp [h2.plain]
theorem PIr.lx {cs:List Value} {x:Bool × List Nat} (h:PIr H cs x) (hx:Lx H G):PIr G cs x:=by
 obtain ⟨s,h1,h2⟩:=h;exact ⟨s,h1,h2.lx hx⟩
theorem e0A.plainAll {l:List (Bool × List Nat)} {cs:List Value} (hl:cs.length=l.length * 2) (h:∀ k (h:k < l.length),PIr H ((cs.drop (k * 2)).take 2) l[k]):cs.all a0q=true :=
 l0p (by decide) hl fun k hk=>(h k hk).plain
theorem x0W.lx {e sz n:Nat} {cs:List Value} (h:x0W fl G e sz v n cs) (he:e ≠ a0l) {G':a0e} (hx:c0Z (slB v) G G'):Lx G G':=by
 intro b ro cs' hb
 obtain ⟨hl,⟨rfl,_⟩ | ⟨p,cells,rfl,hp,_⟩⟩:=h
 ·rw [hx.2 b (a0j hb) (by simp [slB])];exact hb
 ·rw [hx.2 b (a0j hb) (by simp [slB];rintro rfl;rw [hp] at hb;cases hb;exact he rfl)];exact hb
theorem z0R {α:Type} {P:a0e→List Value→α→Prop} {sz:Nat} {cs new:List Value} {l m:List α} (hc:cs.length=l.length * sz) (hn:new.length=m.length * sz) (h1:∀ k (h:k < l.length),P H ((cs.drop (k * sz)).take sz) l[k]) (h2:∀ k (h:k < m.length),P H ((new.drop (k * sz)).take sz) m[k]) :
  ∀ k (h:k < (l ++ m).length),P H (((cs ++ new).drop (k * sz)).take sz) (l ++ m)[k]:=by
 intro k hk
 by_cases hkl:k < l.length
 ·have h3:(k + 1) * sz≤l.length * sz:=b1Z _ hkl
  rw [c1i,c1H] at h3
  rw [c1I hkl,d1a (by omega),d1n (by simp;omega)]
  exact h1 k hkl
 ·rw [c1g] at hk
  rw [c1o (by omega),List.drop_append,d1j (by rw [hc];exact b1Z _ (by omega)),d1v,hc,show k * sz - l.length * sz=(k - l.length) * sz by rw [Nat.sub_mul]]
  exact h2 _ (by omega)
theorem w0o.cat {s x:Value} {l m:List (Bool × List Nat)} (ho:w0o PIr fl G a0a 2 s l) (hx:e0A G x m) (hn:l.length + m.length≤1073741824) (hfl:fl≤G.size) :
  ∃ v' G',h0B fl G a0a 2 32 s x=some (v',G')∧w0o PIr fl G' a0a 2 v' (l ++ m)∧∀ H0,H0.size≤fl→Ext H0 G→Ext H0 G':=by
 obtain ⟨cs,h1,h2⟩:=ho
 obtain ⟨new,h3,h4⟩:=hx
 obtain ⟨v',G',a1,a2,a3,a4⟩:=G0X (bytes:=32) h1 h3 (e0A.plainAll h3.1 h4) hn (by decide) (by decide) hfl
 have hlx:=h1.lx (by decide) a3
 refine ⟨v',G',a1,⟨cs ++ new,by rw [c1g];exact a2,?_⟩,a4⟩
 exact z0R h1.1 h3.1 (fun k hk=>(h2 k hk).lx hlx) (fun k hk=>(h4 k hk).lx hlx)
def PIL (H:a0e) (cs:List Value) (l:List (Bool × List Nat)):Prop:=∃ w,cs=[w]∧e0A H w l
theorem Q0p:h0J PIL:=fun _ _ _ _ hx ⟨w,h1,h2⟩=>⟨w,h1,h2.mono c0y hx⟩
theorem PIL.load {ll:List (List (Bool × List Nat))} (h:Sls PIL H b0b 1 v ll) {j:Nat} (hj:j < ll.length):∃ w,b0q H false 1 (adr 1 v j)=some w∧e0A H w ll[j]:=by
 obtain ⟨w,h1,w',h2,h3⟩:=Sls.load1 h hj
 cases h2;exact ⟨_,h1,h3⟩
theorem y0Z {α:Type} {ll:List (List α)} {i:Nat}:(ll.take i).flatten.length≤ll.flatten.length:=by
 have:(ll.take i ++ ll.drop i).flatten.length=ll.flatten.length:=by rw [d1F]
 rw [List.flatten_append,c1g] at this;omega
theorem q0P {α:Type} {ll:List (List α)} {i:Nat} (h:i < ll.length):(ll.take (i + 1)).flatten=(ll.take i).flatten ++ ll[i]:=by
 rw [c1k h,List.flatten_append];simp
theorem k0y {ll:List (List (Bool × List Nat))} (h:Sls PIL H b0b 1 v ll) (hf:fl≤H.size) (hn:ll.length < 1073741824) (hm:ll.flatten.length≤1073741824) :
  a0S env fl S0c [v] H (fun r H'=>e0A H' r ll.flatten∧Ext H H') R:=by
 refine a0g b1u hf (h:=?_)
 intro ρ h0
 simp [X0d,N0Q,N0R,N0S,h0,h.slen]
 refine c0I (n:=ll.length) (fun i ρ G=>ρ 0=v∧ρ 9=v∧G=H∧ρ 3=.int .i64 ((ll.take i).flatten.length:Int)) rfl rfl (by decide) (by omega) (by simp) (by simp) ?_ ?_ ?_ ?_
 ·exact ⟨by simp [h0],by simp [h0],rfl,by simp⟩
 ·intro i ρ ρ' G h hI;simpa [h] using hI
 ·clear h0 ρ
  rintro i ρ G hi gi gn ⟨g0,g9,rfl,g3⟩
  obtain ⟨w,hl,k0⟩:=PIL.load h hi
  have hfs:=q0P hi
  have hle:=y0Z (ll:=ll) (i:=i + 1)
  have hlen:(ll.take (i + 1)).flatten.length=(ll.take i).flatten.length + ll[i].length:=by rw [hfs,c1g]
  have wr:IntKind.i64.wrap (((ll.take i).flatten.length:Int) + (ll[i].length:Int))=((ll.take (i + 1)).flatten.length:Int):=by
   rw [a0T (by omega) (by omega)];omega
  obtain ⟨A,hA⟩:∃ A,A=(ll.take i).flatten.length:=⟨_,rfl⟩
  obtain ⟨B,hB⟩:∃ B,B=(ll.take (i + 1)).flatten.length:=⟨_,rfl⟩
  rw [← hA,← hB] at wr
  rw [← hA] at g3
  simp [N0T,gi,g9,h.ia hi,hl]
  simp [N0U,g3,k0.slen,wr]
  simp [N0V,show ¬ (B:Int) < 0 by omega]
  exact Rnd.mk (by simp [gi]) (by simp [gn]) ⟨by simp [g0],by simp [g9],rfl,by simp [hB]⟩
 ·clear h0 ρ
  rintro ρ G gi gn ⟨g0,g9,rfl,g3⟩
  rw [c1h] at g3
  obtain ⟨M,hM⟩:∃ M,M=ll.flatten.length:=⟨_,rfl⟩
  rw [← hM] at g3
  simp [N0W,g3]
  refine (x0V (b1S _) (by omega)).mono ?_
  rintro s G2 ⟨hs,hx⟩
  simp [F0I,g0,h.slen]
  refine c0I (n:=ll.length) (fun i ρ G'=>ρ 25=v∧Ext G G'∧w0o PIr G.size G' a0a 2 (ρ 6) (ll.take i).flatten) rfl rfl (by decide) (by omega) (by simp) (by simp) ?_ ?_ ?_ ?_
  ·exact ⟨by simp,hx,[],by simpa using hs,by simp⟩
  ·intro i ρ ρ' G h hI;simpa [h] using hI
  ·clear hs hx g0 g9 g3 gi gn ρ G2
   rintro i ρ G2 hi gi gn ⟨g25,hx,hs⟩
   have h':=h.mono Q0p hx
   obtain ⟨w,hl,k0⟩:=PIL.load h' hi
   have hfs:=q0P hi
   have hle:=y0Z (ll:=ll) (i:=i + 1)
   rw [hfs,c1g] at hle
   obtain ⟨v',G3,a1,a2,a3⟩:=hs.cat k0 (by omega) hx.1
   simp [F0J,gi,g25,h'.ia hi,hl]
   simp [F0K,a1]
   exact Rnd.mk (by simp [gi]) (by simp [gn]) ⟨by simp [g25],a3 _ (b1S _) hx,by rw [hfs];simpa using a2⟩
  ·rintro ρ G3 _ _ ⟨_,hx3,hs3⟩
   rw [c1h] at hs3
   simp [F0L]
   exact fun _=>hs3.sls
theorem b0a.up {α:Type} {Q:a0e→List Value→α→Prop} {f2 e sz:Nat} {l:List α} (h:b0a Q fl G e sz v l) (hb:∀ b,slB v=some b→f2≤b):b0a Q f2 G e sz v l:=by
 obtain ⟨cs',⟨hl',h1 | ⟨b',cap,rfl,hp,hf⟩⟩,h2⟩:=h
 ·exact ⟨cs',⟨hl',.inl h1⟩,h2⟩
 ·exact ⟨cs',⟨hl',.inr ⟨b',cap,rfl,hp,hb _ rfl⟩⟩,h2⟩
theorem b0a.appUp {α:Type} {P:a0e→List Value→α→Prop} {f2 e sz:Nat} {l:List α} (he:e ≠ a0l) (hO:∀ G' cs x,c0Z (slB v) G G'→Lx G G'→P G cs x→P G' cs x) (h:b0a P f2 G e sz v l) {e2 c bytes:Nat} {new:List Value} {x:α} (hx:P G new x) (hl:new.length=sz) (hp:new.all a0q=true) (hn:l.length < 1073741824) (hb:bytes≤1024) (hs:0 < sz) (hfl:fl≤f2) (hf2:f2≤G.size) :
  ∃ v' G',h0B fl (G.push (.row false e2 new)) e sz bytes v (.slice (some ⟨G.size,0,none⟩) 1 c)=some (v',G')∧b0a P f2 G' e sz v' (l ++ [x])∧c0Z (slB v) G G'∧(∀ H0,H0.size≤f2→Ext H0 G→Ext H0 G'):=by
 obtain ⟨v',G',a1,a2,a3,a4⟩:=b0a.app (e2:=e2) (c:=c) (bytes:=bytes) he hO (h.low hfl) hx hl hp hn hb hs (by omega)
 obtain ⟨_,_,hv⟩:=e0d (by decide) a1
 refine ⟨v',G',a1,a2.up (fun b hb=>?_),a3,fun H0 h1 h2=>⟨c1b h2.1 a3.1,fun b hb=>?_⟩⟩
 ·rw [hv] at hb;simp [slB] at hb;omega
 ·rw [a3.2 b (by have:=h2.1;omega) (fun h3=>by have:=(h.ge h3).1;omega)];exact h2.2 b hb
def u0d (E:Env) (fl nt tc b b2:Nat) (body:SCode) (Z:a0W→a0e→Prop) (Q:d0O) (R:a0u) (n i:Nat) (Inv:Nat→(Nat→Value)→a0e→Prop) (t:a0W) (H:a0e):Prop :=
 ∃ ρ' c,t=T nt ρ'∧ρ' tc=.bool c∧(c=true→i < n∧W E fl body (T nt ρ') H (s0v b2 b (f0A nt i Inv) Z Q) R)∧(c=false→Z (T nt ρ') H)
section
variable {E:Env} {fl nt tc b b2 n i:Nat} {body:SCode} {rc:List a0D} {Z:a0W→a0e→Prop} {Q:d0O} {R:a0u} {Inv:Nat→(Nat→Value)→a0e→Prop} {ρ:Nat→Value} {H:a0e}
theorem u0d.mk (c:Bool) (h1:ρ tc=.bool c) (h2:c=true→i < n∧W E fl body (T nt ρ) H (s0v b2 b (f0A nt i Inv) Z Q) R) (h3:c=false→Z (T nt ρ) H):u0d E fl nt tc b b2 body Z Q R n i Inv (T nt ρ) H:=⟨ρ,c,rfl,h1,h2,h3⟩
theorem S0Q (Inv:Nat→(Nat→Value)→a0e→Prop) (n:Nat) (htc:tc < nt) (hI:Inv 0 ρ H)
  (step:∀ i ρ G,i≤n→Inv i ρ G→WR E fl rc (T nt ρ) G (u0d E fl nt tc b b2 body Z Q R n i Inv) R) :
  W E fl (.loop (.seq (.seq (.reg rc) (.cond (.tmp tc) .skip (.exit b))) (.block b2 body))) (T nt ρ) H (e0L b (g0U Z Q)) R:=by
 refine b0P (fun k t G=>∃ i ρ,i + k=n∧t=T nt ρ∧Inv i ρ G) Z n ⟨0,ρ,by omega,rfl,hI⟩ ?_ (fun _ _ h=>h)
 clear hI
 rintro k t G ⟨i,ρ,hik,rfl,hI⟩
 refine g0d (g0d (j0Y ((step i ρ G (by omega) hI).mono ?_)))
 rintro t' G' ⟨ρ',c,rfl,h1,h2,h3⟩
 simp only [c0S]
 cases c with
 | true =>
  obtain ⟨hi,h2⟩:=h2 rfl
  refine i0g true (by rw [h0D,b0N htc,h1]) (fun _=>q0q ?_) (by simp)
  simp only [c0S]
  refine k0F (h2.mono fun e t2 G2 hq=>?_)
  have fin:f0A nt i Inv t2 G2→l0b b (fun t' H'=>∃ k',k' < k∧∃ i ρ,i + k' = n∧t' = T nt ρ∧Inv i ρ H') Z Q .normal t2 G2:=by
   rintro ⟨ρ3,rfl,h4⟩
   exact ⟨k - 1,by omega,i + 1,ρ3,by omega,rfl,h4⟩
  cases e with
  | normal=>exact fin hq
  | exit j =>
   simp only [s0v] at hq
   show (if j=b2 then _ else _)
   by_cases hj:j=b2
   ·rw [b1W hj] at hq ⊢;exact fin hq
   ·rw [b1T hj] at hq ⊢
    show (if j=b then _ else _)
    by_cases hj2:j=b
    ·rw [b1W hj2] at hq ⊢;exact hq
    ·rw [b1T hj2] at hq ⊢;exact hq
  | ret=>exact hq
 | false =>
  refine i0g false (by rw [h0D,b0N htc,h1]) (by simp) (fun _=>q0p ?_)
  show (if b=b then _ else _)
  rw [b1W rfl]
  exact h3 rfl
end
theorem e0B.loadX {l:List (List b0e)} (h:e0B H v l) (hx:Ext H G) {j:Nat} (hj:j < l.length):∃ w,b0q G false 1 (adr 1 v j)=some w∧b0n H w l[j]:=by
 obtain ⟨w,h1,h2⟩:=e0B.load h hj
 obtain ⟨cs,a,b⟩:=id h
 have e1:=a.load1 (Ext.refl _) hj
 have e2:=a.load1 hx hj
 exact ⟨w,by rw [e2,← e1,h1],h2⟩
theorem r0n:∀ {rows:List (List b0e)} {d:List b0W},d.length≤rows.length→d0h (rows.take d.length) (d.take d.length)=d0h rows d
 | _,[],_=>by simp [d0h]
 | [],_ :: _,h=>by simp at h
 | r :: rows,e :: d,h=>by
  have:=r0n (rows:=rows) (d:=d) (by simpa using h)
  simp only [c1G,e1a,d0h,this]
theorem r0o:∀ {rows:List (List b0e)} {d:List b0W},d.length≤rows.length→d0i (rows.take d.length) (d.take d.length)=d0i rows d
 | _,[],_=>by simp [d0i]
 | [],_ :: _,h=>by simp at h
 | r :: rows,e :: d,h=>by
  have:=r0o (rows:=rows) (d:=d) (by simpa using h)
  simp only [c1G,e1a,d0i,this]
def PSf (f:Nat) (o:Option Nat) (H:a0e) (cs:List Value) (l:List b0e):Prop:=∃ v,cs=[v]∧b0n H v l∧(slB v=none ∨ slB v ≠ o)∧∀ b,slB v=some b→f≤b
theorem j0g {f:Nat} {o:Option Nat}:h0J (PSf f o):=fun _ _ _ _ hx ⟨v,h1,h2,h3,h4⟩=>⟨v,h1,h2.mono a0H hx,h3,h4⟩
def u0h (H:a0e) (P N:Nat) (s w:Value) (rows:List (List b0e)) (d:List b0W) (i:Nat) (ρ:Nat→Value) (G:a0e):Prop :=
 ρ 2=.int .i64 (N:Int)∧ρ 3=.pointer (some ⟨H.size,0,none⟩)∧ρ 6=.pointer (some ⟨H.size + 1,0,none⟩)∧ρ 7=.pointer (some ⟨P,0,none⟩)∧ρ 15=w∧Ext H G ∧
  a0e.blk G H.size=.row false a0y [s]∧a0e.blk G (H.size + 1)=.row false b0G [.int .i64 0,.slice none 0 0,.slice none 0 0,.slice none 0 0] ∧
  ∃ sA sB,a0e.blk G P=.row false b0G [.int .i64 (N:Int),sA,sB,.slice none 0 0]∧b0a (PSf H.size (slB sB)) H.size G a0C 1 sA ((d0h (rows.take i) (d.take i)).map (u0U N)) ∧
   b0a PR H.size G a0b 4 sB (d0i (rows.take i) (d.take i))
def S0A (fl N:Nat) (A:List (List b0e)) (B:List b0e) (r:Value) (H':a0e):Prop :=
 ∃ sA sB,r=.agg #[.int .i64 (N:Int),sA,sB,.slice none 0 0]∧b0a (PSf fl (slB sB)) fl H' a0C 1 sA A∧b0a PR fl H' a0b 4 sB B
theorem m0f {S N:Nat} {rows:List (List b0e)} {d:List b0W} (h:d0a H v rows) (hd:d0N H w d) (hf:fl≤H.size) (hS:S < 67108864) (hN:N < 1073741824) (hr:∀ r ∈ rows,Few S r∧r.length≤N) (hdl:d.length≤rows.length) (hrl:rows.length < 1073741824) (hfd:P0d d) :
  a0S env fl T0G [v,w,.int .i64 (N:Int)] H (fun r H'=>S0A H.size N ((d0h rows d).map (u0U N)) (d0i rows d) r H'∧Ext H H') R:=by
 obtain ⟨s,rfl,hs⟩:=h
 refine a0g b1f hf (h:=?_)
 intro ρ h0
 simp [W0O,M0E,h0,hs.cells]
 generalize hG:Array.push (Array.push H _) _=G
 obtain ⟨hx,b0,b1⟩:=push2 hG
 clear hG
 have hb1l:=a0j b1
 have hsz:=hx.1
 simp [M0F,h0,hsz]
 generalize hN:Array.setIfInBounds (Array.push _ _) _ _=G5
 obtain ⟨hx2,b3⟩:=new1 hN
 clear hN
 (try replace b0:=hx2.blk b0);(try replace b1:=hx2.blk b1);(try replace b3:=hx2.blk b3);(try replace b4:=hx2.blk b4);(try replace b5:=hx2.blk b5);(try replace b6:=hx2.blk b6);(try replace hx:=hx.trans hx2);(try replace k0:=k0.mono hx2);(try replace k1:=k1.mono hx2);(try replace k2:=k2.mono hx2);(try replace k3:=k3.mono hx2);(try replace k4:=k4.mono hx2)
 obtain ⟨P,hP⟩:∃ P,P=G.size:=⟨_,rfl⟩
 rw [← hP] at b3 hsz hb1l ⊢
 have hPne:P ≠ H.size + 1:=by omega
 have hPH:=hsz
 simp [M0G,h0,hd.slen]
 refine c0I (n:=d.length) (u0h H P N s w rows d) rfl rfl (by decide) (by omega) (by simp) (by simp) ?_ ?_ ?_ ?_
 ·exact ⟨by simp [h0],by simp,by simp,by simp,by simp [h0],hx,b0,b1,_,_,b3,by simpa [d0h] using b0a.nil,by simpa [d0i] using b0a.nil⟩
 ·intro i ρ ρ' G h hI;simpa [u0h,h] using hI
 ·clear h0 ρ hx b0 b1 b3 hx2 hsz hb1l hP G5 G
  rintro i ρ G hi gi gn ⟨g2,g3,g6,g7,g15,hx,b0,b1,sA,sB,b3,hA,hB⟩
  have hir:i < rows.length:=by omega
  have kd:=hd.mono b0X hx
  have ks:=hs.mono c0N hx
  obtain ⟨we,hle,k0⟩:=d0N.load kd hi
  obtain ⟨s1,s2,rfl,k1,k2⟩:=id k0
  have hsz:=hx.1
  simp [M0H,g15,gi,kd.ia hi,hle,k1.cells,k1.plain,k2.cells,k2.plain,hsz]
  generalize hN:Array.setIfInBounds (Array.push _ _) _ _=G3
  obtain ⟨hx2,b4⟩:=new1 hN
  clear hN
  (try replace b0:=hx2.blk b0);(try replace b1:=hx2.blk b1);(try replace b3:=hx2.blk b3);(try replace b4:=hx2.blk b4);(try replace b5:=hx2.blk b5);(try replace b6:=hx2.blk b6);(try replace hx:=hx.trans hx2);(try replace k0:=k0.mono hx2);(try replace k1:=k1.mono hx2);(try replace k2:=k2.mono hx2);(try replace k3:=k3.mono hx2);(try replace k4:=k4.mono hx2)
  replace ks:=ks.mono c0N hx2
  replace hA:=hA.mono j0g hx2
  replace hB:=hB.mono a0H hx2
  obtain ⟨P2,hP2⟩:∃ P2,P2=G.size:=⟨_,rfl⟩
  rw [← hP2] at b4 hsz ⊢
  clear hx2 hle kd hP2 G
  by_cases he:d[i].1=0
  ·simp [F0p,b4,he]
   have hmk:=f0H (bytes:=64) (k:=.i64) (k':=.i64) (l:=0) (c:=N) (c1S _) (by omega) (by omega)
   simp only [Int.natCast_zero] at hmk
   simp [M0I,g2,hmk]
   generalize hN:Array.push G3 _=G4
   obtain ⟨hx2,b5⟩:=h0Z hN
   clear hN
   obtain ⟨wr,hlr,kr⟩:=e0B.loadX ks hx2 hir
   obtain ⟨hfr,hrN⟩:=hr _ (c1a hir)
   have ho:b0a PR G3.size G4 a0b 4 (.slice (some ⟨G3.size,0,none⟩) 0 N) ([]:List b0e):=⟨[],Own.mk b5 rfl (b1S _),by simp⟩
   have hbs:=hx2.blk b0
   have hxs:=hx.1
   simp [M0J,g3,hbs,(ks.mono c0N hx2).ia hir,hlr,kr.slen]
   clear hbs hlr
   refine c0I (n:=rows[i].length) (fun j ρ G=>ρ 2=.int .i64 (N:Int)∧ρ 3=.pointer (some ⟨H.size,0,none⟩)∧ρ 6=.pointer (some ⟨H.size + 1,0,none⟩)∧ρ 7=.pointer (some ⟨P,0,none⟩)∧ρ 15=w∧ρ 16=.int .i64 (d.length:Int)∧ρ 17=.int .i64 (i:Int)∧ρ 9=.pointer (some ⟨P2,0,none⟩)∧ρ 31=wr∧Ext G3 G∧b0a PR G3.size G a0b 4 (ρ 10) ((h0t rows[i]).take j)) rfl rfl (by decide) (by omega) (by simp) (by simp) ?_ ?_ ?_ ?_
   ·exact ⟨by simp [g2],by simp [g3],by simp [g6],by simp [g7],by simp [g15],by simp [gn],by simp [gi],by simp,by simp,hx2,by simpa using ho⟩
   ·intro i ρ ρ' G h hI;simpa [h] using hI
   ·clear g2 g3 g6 g7 g15 gi gn b5 ho hx2 hmk ρ G4
    rintro j ρ G hj gj gm ⟨g2,g3,g6,g7,g15,gn,gi,g9,g31,hx,ho⟩
    obtain ⟨r,g10⟩:∃ r,ρ 10=r:=⟨_,rfl⟩
    rw [g10] at ho
    have kv:=kr.mono a0H hx
    obtain ⟨x,hlx,k0⟩:=b0n.load kv hj
    obtain ⟨y1,y2,rfl,q1,q2⟩:=id k0
    have hf2:=hfr _ (c1a hj)
    have hsz:=c1b hxs hx.1
    simp [M0K,g31,gj,kv.ia hj,hlx,q1.cells,q1.plain,q2.cells,q2.plain,hsz]
    generalize hN:Array.setIfInBounds (Array.push _ _) _ _=G5
    obtain ⟨hx2,b6⟩:=new1 hN
    clear hN
    replace ho:=ho.mono a0H hx2
    replace hx:=hx.trans hx2
    replace k0:=b0O.mono k0 hx2
    clear hx2 hlx kv q1 q2
    simp [F0k,b6]
    refine (b0D k0 (b:=c0m) e0E (c1b hxs hx.1) (by omega) (by decide)).mono ?_
    rintro _ G2 ⟨⟨s3,s4,rfl,k3,k4⟩,hx2⟩
    replace ho:=ho.mono a0H hx2
    replace hx:=hx.trans hx2
    rw [e0H,d1U] at k3 k4 ⊢
    obtain ⟨s',G4,h1,h2,h3,h4⟩:=b0a.appUp (fl:=H.size) (P:=PR) (sz:=4) (e:=a0b) (by decide) (fun G' cs x _ hl h=>b0O.lx h hl) ho (e2:=a0b) (c:=1) (bytes:=64) (new:=[.bool (a0f (b0A rows[i][j])).1.1,s3,.bool (a0f (b0A rows[i][j])).2.1,s4]) (x:=a0f (b0A rows[i][j])) ⟨s3,s4,rfl,k3,k4⟩ rfl (by simp [k3.plain,k4.plain]) (by simp;omega) (by omega) (by omega) hxs hx.1
    simp [g10,k3.cells,k4.cells,h1]
    exact Rnd.mk (by simp [gj]) (by simp [gm]) ⟨by simp [g2],by simp [g3],by simp [g6],by simp [g7],by simp [g15],by simp [gn],by simp [gi],by simp [g9],by simp [g31],h4 _ (b1S _) hx,b0a.cast (v':=s') (by simp) (by unfold h0t;rw [p0Z hj];exact h2)⟩
   clear g2 g3 g6 g7 g15 gi gn b5 ho hx2 hmk ρ G4
   rintro ρ G gz1 gz2 ⟨g2,g3,g6,g7,g15,gn,gi,g9,gz3,hx2,ho⟩
   clear gz1 gz2 gz3
   rw [c1f (by simp [h0t])] at ho
   refine S0Q (fun c ρ G=>ρ 2=.int .i64 (N:Int)∧ρ 3=.pointer (some ⟨H.size,0,none⟩)∧ρ 6=.pointer (some ⟨H.size + 1,0,none⟩)∧ρ 7=.pointer (some ⟨P,0,none⟩)∧ρ 15=w∧ρ 16=.int .i64 (d.length:Int)∧ρ 17=.int .i64 (i:Int)∧ρ 9=.pointer (some ⟨P2,0,none⟩)∧Ext G3 G∧b0a PR G3.size G a0b 4 (ρ 10) (h0t rows[i] ++ List.replicate c (a0f 0))) (N - rows[i].length) (by decide) ?_ ?_
   ·exact ⟨g2,g3,g6,g7,g15,gn,gi,g9,hx2,by simpa using ho⟩
   clear g2 g3 g6 g7 g15 gi gn ho hx2 ρ G g9
   rintro c ρ G hc ⟨g2,g3,g6,g7,g15,gn,gi,g9,hx2,ho⟩
   obtain ⟨r,g10⟩:∃ r,ρ 10=r:=⟨_,rfl⟩
   rw [g10] at ho
   have hol:(h0t rows[i] ++ List.replicate c (a0f 0)).length=rows[i].length + c:=by simp [h0t]
   have hsl:=ho.slen
   rw [hol] at hsl
   simp [-Int.natCast_add,F0l,g10,g2,hsl]
   refine u0d.mk (decide (((rows[i].length + c:Nat):Int) < (N:Int))) (by simp [-Int.natCast_add]) (fun hlt=>?_) (fun hge=>?_)
   ·have hlt':=of_decide_eq_true hlt
    refine ⟨by omega,?_⟩
    simp [F0m,g10]
    refine (b0U (n:=0) (c1b hxs hx2.1) (by decide) (by decide)).mono ?_
    rintro _ G2 ⟨⟨s3,s4,rfl,k3,k4⟩,hx3⟩
    replace ho:=ho.mono a0H hx3
    replace hx2:=hx2.trans hx3
    have e0:((0:Int):Rat)=0:=rfl
    rw [e0] at k3 k4 ⊢
    obtain ⟨s',G4,h1,h2,h3,h4⟩:=b0a.appUp (fl:=H.size) (P:=PR) (sz:=4) (e:=a0b) (by decide) (fun G' cs x _ hl h=>b0O.lx h hl) ho (e2:=a0b) (c:=1) (bytes:=64) (new:=[.bool (a0f 0).1.1,s3,.bool (a0f 0).2.1,s4]) (x:=a0f 0) ⟨s3,s4,rfl,k3,k4⟩ rfl (by simp [k3.plain,k4.plain]) (by omega) (by omega) (by omega) hxs hx2.1
    simp [k3.cells,k4.cells,h1]
    exact f0A.mk ⟨by simp [g2],by simp [g3],by simp [g6],by simp [g7],by simp [g15],by simp [gn],by simp [gi],by simp [g9],h4 _ (b1S _) hx2,b0a.cast (v':=s') (by simp) (by rw [List.replicate_succ',← d1K];exact h2)⟩
   have hge':=of_decide_eq_false hge
   have hpad:h0t rows[i] ++ List.replicate c (a0f 0)=u0U N (h0t rows[i]):=by
    unfold u0U
    rw [show N - (h0t rows[i]).length=c by simp [h0t];omega]
   rw [hpad] at ho
   clear hpad hsl hol hge hge' hc
   replace b0:=hx2.blk b0
   replace b1:=hx2.blk b1
   replace b3:=hx2.blk b3
   replace b4:=hx2.blk b4
   replace hx:=hx.trans hx2
   replace k1:=k1.mono hx2
   replace k2:=k2.mono hx2
   replace hA:=hA.mono j0g hx2
   have hBlt:∀ b,slB sB=some b→b < G3.size:=fun b h=>(hB.ge h).2
   replace hB:=hB.mono a0H hx2
   have hlA:=i0F (rows.take i) (d.take i)
   have hlB:=l0r (rows.take i) (d.take i)
   simp only [c1T] at hlA hlB
   have hrB:slB r=none ∨ slB r ≠ slB sB:=by
    cases hr1:slB r with
    | none=>exact .inl rfl
    | some b =>
     right;intro h
     have:=(ho.ge hr1).1
     have:=hBlt b h.symm
     omega
   obtain ⟨cr,pr⟩:=ho.cells
   obtain ⟨sA',G5,h1,h2,h3,h4⟩:=b0a.app (P:=PSf H.size (slB sB)) (sz:=1) (e:=a0C) (by decide)
    (fun G' cs x hxb hl ⟨w',q1,q2,q3,q4⟩=>⟨w',q1,q2.lx2 (hA.lxT (by decide) hxb) hl,q3,q4⟩) hA (e2:=a0C) (c:=1) (bytes:=24) (new:=[r]) (x:=u0U N (h0t rows[i])) ⟨r,rfl,ho.sls,hrB,fun b hb=>by have:=(ho.ge hb).1;omega⟩ rfl (by simp [pr]) (by rw [d1f];omega) (by omega) (by omega) hx.1
   obtain ⟨_,_,hAe⟩:=e0d (by decide) h1
   have hlx:=hA.lx (by decide) h3
   have hlr:=hA.lxT (e':=a0b) (by decide) h3
   have nA0:=hA.ne b0 (by decide)
   have nA1:=hA.ne b1 (by decide)
   have nA3:=hA.ne b3 (by decide)
   have nA4:=hA.ne b4 (by decide)
   have hAo:=hA.blkOf
   have c3:=b3
   replace b0:=(h3.2 _ (a0j b0) nA0).trans b0
   replace b1:=(h3.2 _ (a0j b1) nA1).trans b1
   replace b3:=(h3.2 _ (a0j b3) nA3).trans b3
   replace b4:=(h3.2 _ (a0j b4) nA4).trans b4
   replace hx:=h4 _ (b1S _) hx
   replace k1:=k1.lx hlx
   replace k2:=k2.lx hlx
   replace hB:=hB.lxm (Q':=PR) hlr (fun cs x h=>b0O.lx h hlx)
   refine c0w ?_
   simp [F0n,g7,g9,g10,c3,b3,b4,cr,h1]
   clear c3
   refine (b0D (a:=d[i].2) ⟨s1,s2,rfl,k1,k2⟩ (b:=c0m) e0E (by have:=hx.1;omega) (hfd _ (c1a hi)) (by decide)).mono ?_
   rintro _ G6 ⟨⟨s3,s4,rfl,k3,k4⟩,hx2⟩
   (try replace b0:=hx2.blk b0);(try replace b1:=hx2.blk b1);(try replace b3:=hx2.blk b3);(try replace b4:=hx2.blk b4);(try replace b5:=hx2.blk b5);(try replace b6:=hx2.blk b6);(try replace hx:=hx.trans hx2);(try replace k0:=k0.mono hx2);(try replace k1:=k1.mono hx2);(try replace k2:=k2.mono hx2);(try replace k3:=k3.mono hx2);(try replace k4:=k4.mono hx2)
   replace hA:=h2.mono j0g hx2
   replace hB:=hB.mono a0H hx2
   rw [e0H,d1U] at k3 k4 ⊢
   obtain ⟨sB',G7,p1,p2,p3,p4⟩:=b0a.app (P:=PR) (sz:=4) (e:=a0b) (by decide) (fun G' cs x _ hl h=>b0O.lx h hl) hB (e2:=a0b) (c:=1) (bytes:=64) (new:=[.bool (a0f (b0A d[i].2)).1.1,s3,.bool (a0f (b0A d[i].2)).2.1,s4]) (x:=a0f (b0A d[i].2)) ⟨s3,s4,rfl,k3,k4⟩ rfl (by simp [k3.plain,k4.plain]) (by omega) (by omega) (by omega) hx.1
   obtain ⟨_,_,hBe⟩:=e0d (by decide) p1
   have hlx:=hB.lx (by decide) p3
   have nB0:=hB.ne b0 (by decide)
   have nB1:=hB.ne b1 (by decide)
   have nB3:=hB.ne b3 (by decide)
   have nB4:=hB.ne b4 (by decide)
   have hsBn:slB sB' = some (G6.size + 1):=by rw [hBe];simp [slB]
   have hA':b0a (PSf H.size (slB sB')) H.size G7 a0C 1 sA' ((d0h (rows.take (i + 1)) (d.take (i + 1))).map (u0U N)):=by
    rw [j0o hir hi,b1W he,e1k]
    refine hA.lxm (hB.lxT (by decide) p3) (fun cs x ⟨w',q1,q2,q3,q4⟩=>⟨w',q1,q2.off p3 q3 hlx,?_,q4⟩)
    cases hw:slB w' with
    | none=>exact .inl rfl
    | some b=>right;rw [hsBn];have:=q2.lt hw;simp;omega
   replace b0:=(p3.2 _ (a0j b0) nB0).trans b0
   replace b1:=(p3.2 _ (a0j b1) nB1).trans b1
   replace b3:=(p3.2 _ (a0j b3) nB3).trans b3
   replace hx:=p4 _ (b1S _) hx
   have hB':b0a PR H.size G7 a0b 4 sB' (d0i (rows.take (i + 1)) (d.take (i + 1))):=by rw [j0p hir hi,b1W he];exact p2
   obtain ⟨cA,pA⟩:=hA'.cells
   obtain ⟨cB,pB⟩:=hB'.cells
   have hz:=a0j b3
   simp [g7,b3,k3.cells,k4.cells,p1,cA,pA,cB,pB,hPH,hz]
   generalize hS1:Array.setIfInBounds G7 P _=G8
   have t1:∀ {e:Nat},b0G ≠ e→LxT e G7 G8:=fun hne=>a0X hS1 b3 hne
   have n0:P ≠ H.size:=by intro h;rw [h,b0] at b3;cases b3
   have hbo:∀ x,x ∈ blkW sA→slB sA=some x:=by
    rcases hAo with h | ⟨b,h,h'⟩
    ·rw [h];simp
    ·rw [h,h'];simp
   refine ⟨⟨fun x hx h=>nA3 (by rw [hbo x hx,h]),fun x hx h=>nA4 (by rw [hbo x hx,h])⟩,Rnd.mk (by simp [gi]) (by simp [gn]) ⟨by simp [g2],by simp [g3],by simp [g6],by simp [g7],by simp [g15],b0I hS1 hx hPH,a0z hS1 b0 n0,a0z hS1 b1 hPne,sA',sB',a0M hS1 b3,?_,?_⟩⟩
   ·exact hA'.lxm (t1 (by decide)) (fun cs x ⟨w',q1,q2,q3,q4⟩=>⟨w',q1,q2.lx2 (t1 (by decide)) (t1 (by decide)),q3,q4⟩)
   ·exact hB'.lxm (t1 (by decide)) (fun cs x h=>b0O.lx h (t1 (by decide)))
  ·simp [F0p,b4,he]
   refine Rnd.mk (by simp [gi]) (by simp [gn]) ⟨by simp [g2],by simp [g3],by simp [g6],by simp [g7],by simp [g15],hx,b0,b1,sA,sB,b3,?_,?_⟩
   ·rw [j0o hir hi,b1T he,List.append_nil];exact hA
   ·rw [j0p hir hi,b1T he,List.append_nil];exact hB
 ·clear h0 ρ hx b0 b1 b3 hx2 hsz hb1l hP G5 G
  rintro ρ G gi gn ⟨g2,g3,g6,g7,g15,hx,b0,b1,sA,sB,b3,hA,hB⟩
  rw [r0n hdl] at hA
  rw [r0o hdl] at hB
  have hz:=a0j b1
  obtain ⟨cA,pA⟩:=hA.cells
  obtain ⟨cB,pB⟩:=hB.cells
  simp [F0o,g6,g7,b3,b1,cA,pA,cB,pB,hz]
  generalize hS:Array.setIfInBounds _ _ _=G9
  have t1:∀ {e:Nat},b0G ≠ e→LxT e G G9:=fun hne=>a0X hS b1 hne
  refine fun _=>⟨sA,sB,rfl,?_,?_⟩
  ·exact hA.lxm (t1 (by decide)) (fun cs x ⟨w',q1,q2,q3,q4⟩=>⟨w',q1,q2.lx2 (t1 (by decide)) (t1 (by decide)),q3,q4⟩)
  ·exact hB.lxm (t1 (by decide)) (fun cs x h=>b0O.lx h (t1 (by decide)))
def Oth (H:a0e) (P:Nat) (sA sB:Value) (G:a0e):Prop:=H.size≤G.size∧∀ b,b < H.size→b ≠ P→slB sA ≠ some b→slB sB ≠ some b→G.blk b=H.blk b
theorem Oth.ext {P:Nat} {sA sB:Value} {H0:a0e} (h:Oth H P sA sB G) (hf:H0.size≤fl) (hP:fl≤P) (hA:∀ b,slB sA=some b→fl≤b) (hB:∀ b,slB sB=some b→fl≤b) (hx:Ext H0 H):Ext H0 G :=
 ⟨c1b hx.1 h.1,fun b hb=>by
  rw [h.2 b (by have:=hx.1;omega) (by omega) (fun h1=>by have:=hA b h1;omega) (fun h1=>by have:=hB b h1;omega)];exact hx.2 b hb⟩
theorem Oth.step {P:Nat} {sA sB:Value} {G':a0e} (h:Oth H P sA sB G) (hx:Ext G G'):Oth H P sA sB G' :=
 ⟨c1b h.1 hx.1,fun b hb h1 h2 h3=>(hx.2 b (by have:=h.1;omega)).trans (h.2 b hb h1 h2 h3)⟩
theorem Oth.stepB {P:Nat} {sA sB s:Value} {G':a0e} (h:Oth H P sA sB G) (hx:c0Z (slB s) G G') (hs:∀ b,slB s=some b→slB sA=some b ∨ slB sB=some b ∨ H.size≤b):Oth H P sA sB G' :=
 ⟨c1b h.1 hx.1,fun b hb h1 h2 h3=>(hx.2 b (by have:=h.1;omega) (fun h4=>by
  rcases hs b h4 with h5 | h5 | h5
  ·exact h2 h5
  ·exact h3 h5
  ·omega)).trans (h.2 b hb h1 h2 h3)⟩
theorem Oth.set {P:Nat} {sA sB:Value} {G':a0e} {X:Blk} (h:Oth H P sA sB G) (hS:Array.setIfInBounds G P X=G'):Oth H P sA sB G':=by
 subst hS
 exact ⟨by simpa using h.1,fun b hb h1 h2 h3=>(a0Q (d1B h1)).trans (h.2 b hb h1 h2 h3)⟩
theorem PIL.two {b k:Nat} {ro:Bool} {x y:Value} {l m:List (Bool × List Nat)} (hb:a0e.blk G b=.row ro b0b [x,y]) (hx:e0A G x l) (hy:e0A G y m):Sls PIL G b0b 1 (.slice (some ⟨b,0,none⟩) 2 k) [l,m]:=by
 refine ⟨[x,y],⟨rfl,.inr ⟨b,0,k,ro,[x,y],rfl,hb,by simp,by simp⟩⟩,fun j hj=>?_⟩
 match j,hj with
 | 0,_=>exact ⟨x,rfl,hx⟩
 | 1,_=>exact ⟨y,rfl,hy⟩
theorem x0J {k:Bool × List Nat}:c0s (a0m (-a0P k))=a0f (-vQ k):=by
 unfold c0s vQ
 rw [a0k,Rat.intCast_neg]
structure R0L (fl f:Nat) (H:a0e) (P N:Nat) (sA sB sC:Value) (A:List (List b0e)) (B:List b0e):Prop where
 blk:a0e.blk H P=.row false b0G [.int .i64 (N:Int),sA,sB,sC]
 A:b0a (PSf f (slB sB)) fl H a0C 1 sA A
 B:b0a PR fl H a0b 4 sB B
theorem R0L.mono {P N f0:Nat} {sA sB sC:Value} {A:List (List b0e)} {B:List b0e} (h:R0L fl f0 H P N sA sB sC A B) (hx:Ext H G):R0L fl f0 G P N sA sB sC A B:=⟨hx.blk h.blk,h.A.mono j0g hx,h.B.mono a0H hx⟩
theorem u0e.mem {a:f0i} (h:u0e a) {x:Bool × List Nat} (hx:x ∈ a.all):x.2.length≤40:=by
 rcases c1s.1 hx with h1 | h1
 ·exact (h.1 x h1).1
 ·exact (h.2.1 x h1).1
def o0m (fl f0:Nat) (H:a0e) (P N:Nat) (sA sB sC:Value) (A:List (List b0e)) (B:List b0e) (gs:List f0i) (G:a0e):Prop :=
 Oth H P sA sB G∧∃ sA' sB',R0L fl f0 G P N sA' sB' sC (A ++ gs.map fun g=>g.all.map c0s) (B ++ gs.map fun g=>a0f (-vQ g.K))∧(∀ b,slB sA' = some b→slB sA=some b ∨ slB sB=some b ∨ H.size≤b)∧(∀ b,slB sB' = some b→slB sA=some b ∨ slB sB=some b ∨ H.size≤b)
theorem o0m.low {P N f0:Nat} {sA sB sC:Value} {A:List (List b0e)} {B:List b0e} {gs:List f0i} (h:o0m fl f0 H P N sA sB sC A B gs G):H.size≤G.size:=h.1.1
theorem j0x {H0:a0e} {P N f0:Nat} {sA sB sC:Value} {A:List (List b0e)} {B:List b0e} {gs:List f0i} (h0x:Ext H0 H) (h0f:H0.size≤fl) (hf:fl≤H.size) (hf0:f0≤H.size) (hl:g0n H0 u gs) (hP:fl≤P) (hp:R0L fl f0 H P N sA sB sC A B)
  (hsz:gs.length + A.length + B.length < 1073741824) (hg:∀ g ∈ gs,u0e g∧g.all.length < 1073741824) :
  a0S env fl T0H [.pointer (some ⟨P,0,none⟩),u] H (fun _ H'=>o0m fl f0 H P N sA sB sC A B gs H'∧f0z fl H H') R:=by
 refine k0O b1g hf (h:=?_)
 intro ρ h0
 have hA0:∀ b,slB sA=some b→fl≤b:=fun b hb=>(hp.A.ge hb).1
 have hB0:∀ b,slB sB=some b→fl≤b:=fun b hb=>(hp.B.ge hb).1
 simp [W0P,M0L,h0,(hl.mono b0T h0x).slen]
 refine m0X (n:=gs.length) (fun i ρ G=>ρ 0=.pointer (some ⟨P,0,none⟩)∧ρ 9=u∧o0m fl f0 H P N sA sB sC A B (gs.take i) G) rfl rfl (by decide) (by omega) (by simp) (by simp) ?_ ?_ ?_ ?_
 ·exact ⟨by simp [h0],by simp [h0],⟨b1S _,fun _ _ _ _ _=>rfl⟩,sA,sB,by simpa using hp,fun b hb=>.inl hb,fun b hb=>.inr (.inl hb)⟩
 ·intro i ρ ρ' G h hI;simpa [h] using hI
 ·clear h0 ρ
  rintro i ρ G hi gi gn ⟨g0,g9,hO,sA1,sB1,hpb,hA1,hB1⟩
  have hx:=hO.ext h0f hP hA0 hB0 h0x
  have kl:=hl.mono b0T hx
  obtain ⟨we,hle,k0⟩:=g0n.load kl hi
  obtain ⟨sX,sW,s,rfl,kX,kW,kK⟩:=k0
  obtain ⟨⟨hfX,hfW,hfK,hfO⟩,hgl⟩:=hg _ (c1a hi)
  have hGs:=hO.1
  have hflG:fl≤G.size:=c1b hf hGs
  simp [M0M,M0N,g9,gi,kl.ia hi,hle,kX.cells,kW.cells,kX.plain,kW.plain,kK.cells,kK.plain,hflG]
  generalize hN:Array.setIfInBounds (Array.push _ _) _ _=G3
  obtain ⟨hx2,b5⟩:=new1 hN
  clear hN
  obtain ⟨P2,hP2⟩:∃ P2,P2=G.size:=⟨_,rfl⟩
  rw [← hP2] at b5 ⊢
  have hp1:=hpb.mono hx2
  replace hO:=hO.step hx2
  replace kX:=kX.mono c0y hx2
  replace kW:=kW.mono c0y hx2
  replace kK:=kK.mono hx2
  clear hx hpb hx2 hP2 hle kl hflG hGs G
  simp [M0O,b5,kX.cells,kW.cells]
  generalize hN:Array.push G3 _=G4
  obtain ⟨hx2,b6⟩:=h0Z hN
  clear hN
  have hall:[gs[i].X,gs[i].W].flatten=gs[i].all:=by simp [f0i.all]
  have hfl4:fl≤G4.size:=c1b hf (c1b hO.1 hx2.1)
  refine (k0y (PIL.two b6 (kX.mono c0y hx2) (kW.mono c0y hx2)) hfl4 (by simp) (by rw [hall];omega)).mono ?_
  rintro c G5 ⟨kc,hx3⟩
  replace hx2:=hx2.trans hx3
  rw [hall] at kc
  replace hp1:=hp1.mono hx2
  replace hO:=hO.step hx2
  replace b5:=hx2.blk b5
  replace kK:=kK.mono hx2
  clear hx3 b6 hx2 hfl4 hall kX kW G4
  have hfl5:fl≤G5.size:=c1b hf hO.1
  have hf5:f0≤G5.size:=c1b hf0 hO.1
  have hfx:∀ x ∈ gs[i].all,x.2.length≤40:=fun x hx=>u0e.mem ⟨hfX,hfW,hfK,hfO⟩ hx
  simp [kc.slen]
  refine c0I (n:=gs[i].all.length) (fun j ρ G=>ρ 0=.pointer (some ⟨P,0,none⟩)∧ρ 9=u∧ρ 10=.int .i64 (gs.length:Int)∧ρ 11=.int .i64 (i:Int)∧ρ 5=.pointer (some ⟨P2,0,none⟩)∧ρ 20=c∧Ext G5 G∧b0a PR G5.size G a0b 4 (ρ 6) ((gs[i].all.map c0s).take j)) rfl rfl (by decide) (by omega) (by simp) (by simp) ?_ ?_ ?_ ?_
  ·exact ⟨by simp [g0],by simp [g9],by simp [gn],by simp [gi],by simp,by simp,Ext.refl _,by simpa using b0a.nil⟩
  ·intro i ρ ρ' G h hI;simpa [h] using hI
  ·clear g0 g9 gi gn ρ
   rintro j ρ G hj gj gm ⟨g0,g9,gn,gi,g5,g20,hx,ho⟩
   obtain ⟨r,g6⟩:∃ r,ρ 6=r:=⟨_,rfl⟩
   rw [g6] at ho
   have kv:=kc.mono c0y hx
   obtain ⟨y,hlx,q1⟩:=e0A.load kv hj
   have hsz:=c1b hfl5 hx.1
   simp [M0P,g20,gj,kv.ia hj,hlx,q1.cells,q1.plain,hsz]
   generalize hN:Array.setIfInBounds (Array.push _ _) _ _=G6
   obtain ⟨hx2,b6⟩:=new1 hN
   clear hN
   replace ho:=ho.mono a0H hx2
   replace hx:=hx.trans hx2
   replace q1:=q1.mono hx2
   clear hx2 hlx kv
   simp [M0Q,b6]
   refine (d0q (x:=gs[i].all[j]) ⟨_,rfl,q1⟩ (c1b hfl5 hx.1) (by have:=hfx _ (c1a hj);omega)).mono ?_
   rintro _ G2 ⟨⟨s3,s4,rfl,k3,k4⟩,hx2⟩
   replace ho:=ho.mono a0H hx2
   replace hx:=hx.trans hx2
   obtain ⟨s',G4,h1,h2,h3,h4⟩:=b0a.appUp (fl:=fl) (P:=PR) (sz:=4) (e:=a0b) (by decide) (fun G' cs x _ hl h=>b0O.lx h hl) ho (e2:=a0b) (c:=1) (bytes:=64) (new:=[.bool (c0s gs[i].all[j]).1.1,s3,.bool (c0s gs[i].all[j]).2.1,s4]) (x:=c0s gs[i].all[j]) ⟨s3,s4,rfl,k3,k4⟩ rfl (by simp [k3.plain,k4.plain]) (by simp;omega) (by omega) (by omega) hfl5 hx.1
   simp [g6,k3.cells,k4.cells,h1]
   exact Rnd.mk (by simp [gj]) (by simp [gm]) ⟨by simp [g0],by simp [g9],by simp [gn],by simp [gi],by simp [g5],by simp [g20],h4 _ (b1S _) hx,b0a.cast (v':=s') (by simp) (by rw [p0Z hj];exact h2)⟩
  clear g0 g9 gi gn ρ
  rintro ρ G gz1 gz2 ⟨g0,g9,gn,gi,g5,gz3,hx2,ho⟩
  clear gz1 gz2 gz3
  rw [c1f (by simp)] at ho
  obtain ⟨r,g6⟩:∃ r,ρ 6=r:=⟨_,rfl⟩
  rw [g6] at ho
  have hBlt:∀ b,slB sB1=some b→b < G5.size:=fun b h=>(hp1.B.ge h).2
  obtain ⟨b3,hA,hB⟩:=hp1.mono hx2
  replace b5:=hx2.blk b5
  replace hO:=hO.step hx2
  replace kK:=kK.mono hx2
  have hrB:slB r=none ∨ slB r ≠ slB sB1:=by
   cases hr1:slB r with
   | none=>exact .inl rfl
   | some b =>
    right;intro h
    have:=(ho.ge hr1).1
    have:=hBlt b h.symm
    omega
  have hHG:H.size≤G.size:=hO.1
  have hflG:fl≤G.size:=c1b hf hO.1
  obtain ⟨cr,pr⟩:=ho.cells
  obtain ⟨sA',G6,h1,h2,h3,h4⟩:=b0a.app (P:=PSf f0 (slB sB1)) (sz:=1) (e:=a0C) (by decide)
   (fun G' cs x hxb hl ⟨w',q1,q2,q3,q4⟩=>⟨w',q1,q2.lx2 (hA.lxT (by decide) hxb) hl,q3,q4⟩) hA (e2:=a0C) (c:=1) (bytes:=24) (new:=[r]) (x:=gs[i].all.map c0s) ⟨r,rfl,ho.sls,hrB,fun b hb=>by have:=(ho.ge hb).1;omega⟩ rfl (by simp [pr]) (by simp;omega) (by omega) (by omega) hflG
  obtain ⟨_,_,hAe⟩:=e0d (by decide) h1
  have hlx:=hA.lx (by decide) h3
  have hlr:=hA.lxT (e':=a0b) (by decide) h3
  have nA3:=hA.ne b3 (by decide)
  have nA5:=hA.ne b5 (by decide)
  have hAo:=hA.blkOf
  have c3:=b3
  have hGG:=h3.1
  replace hO:=hO.stepB h3 hA1
  replace b3:=(h3.2 _ (a0j b3) nA3).trans b3
  replace b5:=(h3.2 _ (a0j b5) nA5).trans b5
  replace kK:=kK.lx hlx
  replace hB:=hB.lxm (Q':=PR) hlr (fun cs x h=>b0O.lx h hlx)
  have hfl6:fl≤G6.size:=by omega
  refine c0w ?_
  simp [M0R,g0,g5,g6,c3,b3,b5,cr,h1]
  clear c3
  refine (e0i (i:=gs[i].K) ⟨_,rfl,kK⟩ (by omega) (by omega)).mono ?_
  rintro _ G7 ⟨⟨s5,rfl,k5⟩,hx3⟩
  have hl5:(a0m (-a0P gs[i].K)).2.length≤40:=by
   have e1:=u0L hfO
   have:lz (-a0P gs[i].K)=lz (a0P gs[i].K):=by unfold lz;rw [Int.natAbs_neg]
   show lz (-a0P gs[i].K)≤40
   omega
  simp
  refine (d0q (x:=a0m (-a0P gs[i].K)) ⟨s5,rfl,k5⟩ (by have:=hx3.1;omega) (by omega)).mono ?_
  rintro _ G8 ⟨⟨s3,s4,rfl,k3,k4⟩,hx4⟩
  replace hx3:=hx3.trans hx4
  clear hx4 k5
  rw [x0J] at k3 k4 ⊢
  replace hO:=hO.step hx3
  replace b3:=hx3.blk b3
  replace b5:=hx3.blk b5
  replace hA:=h2.mono j0g hx3
  replace hB:=hB.mono a0H hx3
  have hfl8:fl≤G8.size:=by have:=hx3.1;omega
  obtain ⟨sB',G9,p1,p2,p3,p4⟩:=b0a.app (P:=PR) (sz:=4) (e:=a0b) (by decide) (fun G' cs x _ hl h=>b0O.lx h hl) hB (e2:=a0b) (c:=1) (bytes:=64) (new:=[.bool (a0f (-vQ gs[i].K)).1.1,s3,.bool (a0f (-vQ gs[i].K)).2.1,s4]) (x:=a0f (-vQ gs[i].K)) ⟨s3,s4,rfl,k3,k4⟩ rfl (by simp [k3.plain,k4.plain]) (by simp;omega) (by omega) (by omega) hfl8
  obtain ⟨_,_,hBe⟩:=e0d (by decide) p1
  have hlx:=hB.lx (by decide) p3
  have nB3:=hB.ne b3 (by decide)
  have hsBn:slB sB' = some (G8.size + 1):=by rw [hBe];simp [slB]
  have hsAn:slB sA' = some (G.size + 1):=by rw [hAe];simp [slB]
  have hA':b0a (PSf f0 (slB sB')) fl G9 a0C 1 sA' (A ++ (gs.take (i + 1)).map fun g=>g.all.map c0s):=by
   rw [c1k hi,e1k,← d1K]
   refine hA.lxm (hB.lxT (by decide) p3) (fun cs x ⟨w',q1,q2,q3,q4⟩=>⟨w',q1,q2.off p3 q3 hlx,?_,q4⟩)
   cases hw:slB w' with
   | none=>exact .inl rfl
   | some b=>right;rw [hsBn];have:=q2.lt hw;simp;omega
  replace hO:=hO.stepB p3 hB1
  replace b3:=(p3.2 _ (a0j b3) nB3).trans b3
  have hB':b0a PR fl G9 a0b 4 sB' (B ++ (gs.take (i + 1)).map fun g=>a0f (-vQ g.K)):=by rw [c1k hi,e1k,← d1K];exact p2
  obtain ⟨cA,pA⟩:=hA'.cells
  obtain ⟨cB,pB⟩:=hB'.cells
  have hz:=a0j b3
  simp [g0,b3,k3.cells,k4.cells,p1,cA,pA,cB,pB,hP,hz]
  generalize hS1:Array.setIfInBounds G9 P _=G10
  have t1:∀ {e:Nat},b0G ≠ e→LxT e G9 G10:=fun hne=>a0X hS1 b3 hne
  have hbo:∀ x,x ∈ blkW sA1→slB sA1=some x:=by
   rcases hAo with h | ⟨b,h,h'⟩
   ·rw [h];simp
   ·rw [h,h'];simp
  refine ⟨⟨fun x hx h=>nA3 (by rw [hbo x hx,h]),fun x hx h=>nA5 (by rw [hbo x hx,h])⟩,Rnd.mk (by simp [gi]) (by simp [gn]) ⟨by simp [g0],by simp [g9],hO.set hS1,sA',sB',⟨a0M hS1 b3,?_,?_⟩,fun b hb=>.inr (.inr ?_),fun b hb=>.inr (.inr ?_)⟩⟩
  ·exact hA'.lxm (t1 (by decide)) (fun cs x ⟨w',q1,q2,q3,q4⟩=>⟨w',q1,q2.lx2 (t1 (by decide)) (t1 (by decide)),q3,q4⟩)
  ·exact hB'.lxm (t1 (by decide)) (fun cs x h=>b0O.lx h (t1 (by decide)))
  ·rw [hsAn] at hb;cases hb;omega
  ·rw [hsBn] at hb;cases hb;have:=hx3.1;omega
 ·rintro ρ G gi gn ⟨g0,g9,hq⟩
  rw [c1h] at hq
  simp
  exact hq
end
end Go.Proofs.YtilekhkgobmolaaGreat.AI
