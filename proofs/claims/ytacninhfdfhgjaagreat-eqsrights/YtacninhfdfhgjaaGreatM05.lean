/- Part 6 of the proof. -/
import Derived.Test.YtacninhfdfhgjaaGreatM04
set_option linter.unusedVariables false
set_option linter.unusedSimpArgs false
set_option linter.unusedSectionVars false
namespace Go.Proofs.YtacninhfdfhgjaaGreat.AI
section
open Go
set_option maxHeartbeats 4000000
set_option maxRecDepth 20000
variable {fl:Nat} {H G:a0c} {R:a0E} {v w:Value} {a b:List Nat}
theorem k0E {e p o n c:Nat} {cs:List Value} (hb:G.blk p=.row false e cs):elemOk G e (.slice (some ⟨p,o,none⟩) n c)=true:=by
 unfold elemOk;simp only [hb];simp
theorem j0k {p o n cap lo hi:Nat} {x y:Option Value} (hx:bnd 0 x=some lo) (hy:bnd n y=some hi) (h1:lo≤hi) (h2:hi≤n) :
  c0D 1 (.slice (some ⟨p,o,none⟩) n cap) x y none=some (.slice (some ⟨p,o + lo,none⟩) (hi - lo) (if cap=unk then unk else cap - lo)):=by
 unfold c0D;simp only [hx,hy];rw [R0k ⟨h1,h2⟩];simp
theorem q0U {p o n cap:Nat} {ro:Bool} {L:List Nat} (hb:G.blk p=.row ro a0b (b0r L)) (hok:a0U L) (hL:o + n≤L.length):Lim G (.slice (some ⟨p,o,none⟩) n cap) ((L.drop o).take n):=by
 have hl:((L.drop o).take n).length=n:=by simp;omega
 refine ⟨⟨by simp [hl],.inr ⟨p,o,cap,ro,b0r L,by rw [hl],hb,by simp [hl];omega,?_⟩⟩,fun x hx=>hok x (List.mem_of_mem_drop (S0T hx))⟩
 rw [hl,R0O];simp [b0r,List.map_take,List.map_drop]
theorem r0c {L:List Nat} {o:Nat}:∀ {n:Nat},o + n≤L.length→a0l ((L.drop o).take n)=win L o n
 | 0,_=>by simp [a0l,win]
 | n + 1,h=>by
  rw [a0z (by simp;omega),r0c (by omega),win]
  simp [Q0T]
theorem L0g {b:List Nat} {k n:Nat} (hok:a0U b) (hk:b.length=k + 1) (hn:n≤31) (ht:b.getD k 0 * 2 ^ n < 4294967296):a0l b * 2 ^ n < 4294967296 ^ (k + 1):=by
 have h1:a0l b=win b 0 k + 4294967296 ^ k * b.getD k 0:=by
  rw [← h0A (L:=b) (n:=k + 1) (by omega),win,R0B]
 have h2:=h0O hok 0 k
 have h3:(b.getD k 0 + 1) * 2 ^ n≤4294967296:=by
  obtain ⟨m,hm⟩:∃ m,4294967296=m * 2 ^ n:=⟨2 ^ (32 - n),by rw [← S0C,show 32 - n + n=32 by omega]⟩
  rw [hm] at ht ⊢
  exact R0h _ (S0S ht)
 have h4:a0l b < 4294967296 ^ k * (b.getD k 0 + 1):=by rw [h1,R0b,R0O];omega
 have hp:0 < 2 ^ n:=S0Q n
 calc a0l b * 2 ^ n < 4294967296 ^ k * (b.getD k 0 + 1) * 2 ^ n:=Nat.mul_lt_mul_of_pos_right h4 hp
  _=4294967296 ^ k * ((b.getD k 0 + 1) * 2 ^ n):=R0i ..
  _≤4294967296 ^ k * 4294967296:=R0y _ h3
  _=4294967296 ^ (k + 1):=(R0m ..).symm
theorem x0L {o:List Nat} {k:Nat} (ho:o.length=k + 1) (h:a0l o < 4294967296 ^ k):a0l (o.take k)=a0l o:=by
 have h1:a0l o=a0l (o.take k) + 4294967296 ^ k * o.getD k 0:=by
  rw [← a0z (by omega),R0j (by omega)]
 have:o.getD k 0=0:=by
  by_cases h0:o.getD k 0=0
  ·exact h0
  ·have:=Nat.le_mul_of_pos_right (4294967296 ^ k) (by omega:0 < o.getD k 0);omega
 rw [this] at h1;omega
theorem L0f {b:List Nat} {k n:Nat} (hk:b.length=k + 1) (ht:2147483648≤b.getD k 0 * 2 ^ n):2147483648 * 4294967296 ^ k≤a0l b * 2 ^ n:=by
 have h1:a0l b=win b 0 k + 4294967296 ^ k * b.getD k 0:=by
  rw [← h0A (L:=b) (n:=k + 1) (by omega),win,R0B]
 rw [h1,R0o,R0i,R0u 2147483648]
 have:=R0y (4294967296 ^ k) ht
 omega
theorem w0E {x y la k n B:Nat} (h1:x < B ^ la) (hn:2 ^ n≤2147483648) (h2:2147483648 * B ^ k≤y):x * 2 ^ n < y * B ^ (la - k) ∨ la < k:=by
 by_cases hk:k≤la
 ·left
  have hp:0 < 2 ^ n:=S0Q n
  calc x * 2 ^ n < B ^ la * 2 ^ n:=Nat.mul_lt_mul_of_pos_right h1 hp
   _≤B ^ la * 2147483648:=R0y _ hn
   _=2147483648 * B ^ k * B ^ (la - k):=by rw [R0i,← S0C,show k + (la - k)=la by omega,R0u]
   _≤y * B ^ (la - k):=R0h _ h2
 ·right;omega
theorem Won.trans {L X Y:List Nat} {o n:Nat} (h:Won L X o n) (k:Won X Y o n):Won L Y o n:=⟨k.1.trans h.1,k.2.1,fun j hj=>(k.2.2 j hj).trans (h.2.2 j hj)⟩
theorem K0X {tag r:Nat} (h:r < 4294967296):b0X tag .shl (.int .u64 (r:Int)) (.int .u64 32)=some (.int .u64 ((r * 4294967296:Nat):Int)):=by
 have h1:=x0C (tag:=tag) (n:=r) (s:=32) (k':=.u64) (by omega)
 have h2:r * 2 ^ 32 % 18446744073709551616=r * 4294967296:=by omega
 rw [h2] at h1;exact h1
theorem O0S {tag x y:Nat} (hx:x < 4294967296) (hy:y < 4294967296):b0X tag .or (.int .u64 ((x * 4294967296:Nat):Int)) (.int .u64 (y:Int))=some (.int .u64 ((x * 4294967296 + y:Nat):Int)):=by
 rw [L0F (by omega) (by omega),o0t hy]
theorem p0e:∀ N:Nat,b0Q [.int .u32 0] N=b0r (List.replicate N 0)
 | 0=>rfl
 | n + 1=>by rw [b0Q,p0e n];rfl
theorem i0N (ha:Lim H v a) (hb:Lim H w b) (hf:fl≤H.size) (hna:a.length < 1073741823) (h2:2≤b.length) (hle:b.length≤a.length) (hb0:b.getD (b.length - 1) 0 ≠ 0) :
  a0N env fl q0F [v,w] H (fun r H'=>(∃ q o q' o',r=.tuple #[q,q']∧Lim H' q o∧a0l o=a0l a / a0l b∧o.length≤a.length∧Lim H' q' o'∧a0l o' = a0l a % a0l b∧o'.length≤a.length)∧Ext H H') R:=by
 refine a0d O0o hf (h:=?_)
 intro ρ h0
 simp only [x0q]
 obtain ⟨k,hk⟩:∃ k,b.length=k + 1:=⟨b.length - 1,by omega⟩
 have hk1:1≤k:=by omega
 rw [show b.length - 1=k by omega] at hb0
 have htl:=b0t hb.ok k
 have hial:=hb.ia (k:=.i64) (show k < b.length by omega)
 have hldl:=hb.load (show k < b.length by omega) (Ext.refl H)
 have htlt:=@L0g b k
 have htge:=@L0f b k
 generalize htp:b.getD k 0=tp at *
 have e0:IntKind.i64.wrap ((b.length:Int) - 1)=((k:Nat):Int):=by rw [a0S (by omega) (by omega)];omega
 simp [t0a,t0b,h0]
 refine b0A (fun c t G=>∃ n:Nat,G=H∧n + c=31∧t.length=147∧get t 0=v∧get t 1=w∧get t 6=.int .i64 ((n:Nat):Int)∧tp * 2 ^ n < 4294967296)
  (fun t G=>∃ n:Nat,G=H∧n≤31∧t.length=147∧get t 0=v∧get t 1=w∧get t 6=.int .i64 ((n:Nat):Int)∧tp * 2 ^ n < 4294967296∧2147483648≤tp * 2 ^ n) 31 ?_ ?_ ?_
 ·exact ⟨0,rfl,by omega,by simp,by simp [h0],by simp [h0],by simp,by omega⟩
 ·clear h0 ρ
  rintro c t G ⟨n,rfl,hn,ht,g0,g1,g6,hy⟩
  obtain ⟨ρ,rfl⟩:=toT ht
  simp only [b0o,Nat.reduceLT] at g0 g1 g6
  have hy2:tp * 2 ^ (n + 1)=2 * (tp * 2 ^ n):=by rw [R0m,← R0i];omega
  have hy3:2 ^ n≤tp * 2 ^ n:=Nat.le_mul_of_pos_left _ (by omega)
  have hy4:n=31→2147483648≤tp * 2 ^ n:=by rintro rfl;exact hy3
  have s1:=l0m (tag:=0) (n:=tp) (s:=n) (k':=.i64) (by omega)
  rw [R0s hy] at s1
  generalize hyd:tp * 2 ^ n=y at *
  have s2:b0X 0 .shr (.int .u32 (y:Int)) (.int .u64 31)=some (.int .u32 ((y / 2147483648:Nat):Int)):=l0n (tag:=0) (n:=y) (s:=31) (k':=.u64) (by omega)
  have e9:IntKind.i64.wrap ((n:Int) + 1)=((n + 1:Nat):Int):=by rw [a0S (by omega) (by omega)];omega
  by_cases hd:y / 2147483648=0
  ·have hdb:((y / 2147483648:Nat) == 0)=true:=by simp [hd]
   simp [-Int.natCast_ediv,-Int.natCast_add,-beq_iff_eq,n0m,n0n,g0,g1,g6,hb.slen,e0,hial,hldl,s1,s2,hdb,e9]
   exact ⟨c - 1,by omega,n + 1,by omega,rfl,by rw [hy2];omega⟩
  ·have hdb:((y / 2147483648:Nat) == 0)=false:=by simp [hd]
   simp [-Int.natCast_ediv,-Int.natCast_add,-beq_iff_eq,n0m,n0n,g0,g1,g6,hb.slen,e0,hial,hldl,s1,s2,hdb,e9]
   exact ⟨n,by omega,rfl,by rw [hyd];exact hy,by rw [hyd];omega⟩
 ·clear h0 ρ
  rintro t G ⟨n,rfl,hn,ht,g0,g1,g6,hy,hy2⟩
  obtain ⟨ρ,rfl⟩:=toT ht
  simp only [b0o,Nat.reduceLT] at g0 g1 g6
  refine a0Y ?_
  simp [t0c,g0,g1,g6]
  refine (e0z ha (Q0W _) (by omega) (by omega)).mono ?_
  rintro u G1 ⟨⟨L0,hu,hok0,hv0,hl0⟩,hx1⟩
  try simp [g0,g1,g6]
  refine (e0z (hb.mono hx1) hx1.1 (by omega) (by omega)).mono ?_
  rintro u2 G2 ⟨⟨L1,hu1,hok1,hv1,hl1⟩,hx2⟩
  have hx:=hx1.trans hx2
  have hxs:=hx.1
  have hx1s:=hx1.1
  obtain ⟨hul,⟨_,hbad⟩ | ⟨P,capu,rfl,hP,hfP⟩⟩:=hu.mono hx2
  ·omega
  obtain ⟨hul1,⟨_,hbad⟩ | ⟨Q,capv,rfl,hQ,hfQ⟩⟩:=hu1
  ·omega
  have hPl:P < G1.size:=by
   obtain ⟨_,⟨hbad,_⟩ | ⟨P',cap',he,hP',_⟩⟩:=hu
   ·cases hbad
   ·simp at he;rw [he.1];exact a0k hP'
  have hQl:=a0k hQ
  -- the divisor
  have hVlt:=htlt hb.ok hk hn hy
  have hVge:=htge hk hy2
  have hVt:=x0L (o:=L1) (k:=b.length) hl1 (by rw [hv1,hk];exact hVlt)
  have hlt0:=w0E (x:=a0l a) (y:=a0l b * 2 ^ n) (la:=a.length) (k:=k) (n:=n) (B:=4294967296) (e0S a ha.ok) (S0q (n:=2) (by omega) hn) hVge
  have hlt0:a0l a * 2 ^ n < a0l b * 2 ^ n * 4294967296 ^ (a.length - k):=by rcases hlt0 with h | h;exact h;omega
  have hpn:0 < 2 ^ n:=S0Q n
  have hqv:a0l a / a0l b=a0l a * 2 ^ n / (a0l b * 2 ^ n):=(Nat.mul_div_mul_right _ _ hpn).symm
  have hrv:a0l a % a0l b=a0l a * 2 ^ n % (a0l b * 2 ^ n) / 2 ^ n:=by rw [Nat.mul_mod_mul_right,Nat.mul_div_cancel _ hpn]
  rw [hv1] at hVt
  rw [hqv,hrv]
  generalize a0l b * 2 ^ n=V at *
  generalize a0l a * 2 ^ n=U0 at *
  clear hqv hrv htlt htge hial hldl e0 htp hb0 htl hy hy2 hul hul1 hpn hu hx1 hx2
  obtain ⟨j,hj⟩:∃ j,k=j + 1:=⟨k - 1,by omega⟩
  generalize hK:b.length=K at *
  have hLv:((L1.drop 0).take K)=L1.take K:=by rw [S0j]
  have hsl:=hb.slen
  rw [hK] at hsl
  have hslv:=j0k (p:=Q) (o:=0) (cap:=capv) (n:=K + 1) (x:=none) (y:=some (.int .i64 (K:Int))) (lo:=0) (hi:=K) rfl (by simp) (by omega) (by omega)
  rw [R0N,T0h,T0h] at hslv
  generalize (if capv=unk then unk else capv)=capw at hslv
  have hw1:IntKind.i64.wrap (((a.length + 1:Nat):Int) - (K:Int))=((a.length - k:Nat):Int):=by rw [a0S (by omega) (by omega)];omega
  have hmn:m0G true (.int .i64 ((a.length - k:Nat):Int)) [.int .i64 0]=some (.int .i64 ((a.length - k:Nat):Int)):=by
   simp only [m0G,mn2];rw [R0k trivial,R0c (by omega)]
  have hm:=k0x (bytes:=4) (k:=.i64) (k':=.i64) (l:=a.length - k) (c:=a.length - k) (Q0W _) (by omega) (by omega)
  generalize hN:a.length - k=N at *
  simp [-Int.natCast_add,hsl,k0E hQ,hslv]
  simp [-Int.natCast_add,t0d,t0e,d0j,hw1,hmn,hm]
  generalize hPQ:G2.size=PQ
  generalize hG3:G2.push (.row false a0b (b0Q [.int .u32 0] N))=G3
  have hx3:Ext G2 G3:=by rw [← hG3];exact (Ext.refl _).push
  have hP3:=hx3.blk hP
  have hQ3:=hx3.blk hQ
  have hPQ3:a0c.blk G3 PQ=.row false a0b (b0r (List.replicate N 0)):=by rw [← hG3,← hPQ,a0u,p0e]
  replace hx:=hx.trans hx3
  have hv3:Lim G3 (.slice (some ⟨Q,0,none⟩) K capw) (L1.take K):=by rw [← hLv];exact q0U hQ3 hok1 (by omega)
  have hLl:(L1.take K).length=K:=by simp;omega
  have hok2:=hv3.ok
  generalize L1.take K=Vl at *
  clear hG3 hx3 hP hQ hQ3 hok1 hslv hLv hv1 hl1 hm hmn hw1 L1
  generalize hSU:Value.slice (some ⟨P,0,none⟩) (a.length + 1) capu=SU
  generalize hSV:Value.slice (some ⟨Q,0,none⟩) K capw=SV at *
  generalize hSQ:Value.slice (some ⟨PQ,0,none⟩) N N=SQ
  -- its highest limbs
  have hia1:=hv3.ia (k:=.i64) (show k < Vl.length by omega)
  have hia2:=hv3.ia (k:=.i64) (show j < Vl.length by omega)
  have hld1:=hv3.load (show k < Vl.length by omega) (Ext.refl _)
  have hld2:=hv3.load (show j < Vl.length by omega) (Ext.refl _)
  have hV1:V=win Vl 0 k + 4294967296 ^ k * Vl.getD k 0:=by rw [← hVt,← h0A (L:=Vl) (n:=k + 1) (by omega),win,R0B]
  have hV2:V=win Vl 0 j + 4294967296 ^ j * (Vl.getD k 0 * 4294967296 + Vl.getD j 0):=by
   rw [← hVt,← h0A (L:=Vl) (n:=k + 1) (by omega),x0N (by omega),show k + 1 - 1=k by omega,show k + 1 - 2=j by omega,R0B,R0B]
  have hTt:=b0t hok2 k
  have hTn:=b0t hok2 j
  have hTg:2147483648≤Vl.getD k 0:=by
   by_cases h:2147483648≤Vl.getD k 0
   ·exact h
   ·exfalso
    have h3:=h0O hok2 0 k
    have:4294967296 ^ k * (Vl.getD k 0 + 1)≤4294967296 ^ k * 2147483648:=R0y _ (by omega)
    rw [R0b,R0O] at this
    rw [R0u] at hVge
    omega
  clear hV1
  generalize Vl.getD k 0=top at *
  generalize Vl.getD j 0=next at *
  have et:IntKind.u64.wrap (top:Int)=(top:Int):=by rw [a0m];omega
  have en:IntKind.u64.wrap (next:Int)=(next:Int):=by rw [a0m];omega
  have ew1:IntKind.i64.wrap ((K:Int) - 1)=(k:Int):=by rw [a0S (by omega) (by omega)];omega
  have ew2:IntKind.i64.wrap ((K:Int) - 2)=(j:Int):=by rw [a0S (by omega) (by omega)];omega
  have ew3:IntKind.i64.wrap (((a.length + 1:Nat):Int) - (K:Int))=(N:Int):=by rw [a0S (by omega) (by omega)];omega
  have ew4:IntKind.i64.wrap ((N:Int) - 1)=(N:Int) - 1:=a0S (by omega) (by omega)
  have hslu:d0j SU=some (.int .i64 ((a.length + 1:Nat):Int)):=by rw [← hSU];rfl
  have hslPQ:slB SV ≠ some PQ:=by rw [← hSV];simp [slB];omega
  have hslP:slB SV ≠ some P:=by rw [← hSV];simp [slB];omega
  refine a0Y ?_
  simp [-Int.natCast_add,t0f,t0g,hv3.slen,ew1,ew2,hia1,hia2,hld1,hld2,et,en,hLl,hslu,ew3,ew4,g6]
  clear hia1 hia2 hld1 hld2 et en ew1 ew2 ew3 ew4 hslu hsl
  refine b0A (fun c t G'=>∃ L Qs,t.length=147∧get t 4=SQ∧get t 6=.int .i64 (n:Int)∧get t 7=SU∧get t 8=SV∧get t 9=.int .i64 (K:Int)∧get t 10=.int .u64 (top:Int)∧get t 11=.int .u64 (next:Int)∧get t 12=.int .i64 ((c:Int) - 1) ∧
    Ext G G'∧Lim G' SV Vl∧a0c.blk G' P=.row false a0b (b0r L)∧a0c.blk G' PQ=.row false a0b (b0r Qs)∧L.length=a.length + 1∧a0U L∧Qs.length=N∧a0U Qs∧c≤N∧U0=a0l (Qs.drop c) * 4294967296 ^ c * V + a0l L∧a0l L < V * 4294967296 ^ c)
   (fun t G'=>∃ L Qs,t.length=147∧get t 4=SQ∧get t 6=.int .i64 (n:Int)∧get t 7=SU∧get t 9=.int .i64 (K:Int) ∧
    Ext G G'∧a0c.blk G' P=.row false a0b (b0r L)∧a0c.blk G' PQ=.row false a0b (b0r Qs)∧L.length=a.length + 1∧a0U L∧Qs.length=N∧a0U Qs∧U0=a0l Qs * V + a0l L∧a0l L < V) N ?_ ?_ ?_
  ·refine ⟨L0,List.replicate N 0,by simp,by simp [hSQ],by simp [g6],by simp [hSU],by simp,by simp,by simp,by simp,by simp,hx,hv3,hP3,hPQ3,hl0,hok0,by simp,fun z hz=>by rw [T0c] at hz;omega,Q0W _,?_,by rw [hv0];exact hlt0⟩
   rw [S0f (by simp),hv0];simp [a0l]
  ·clear hP3 hPQ3 hv0 hl0 hok0 L0 g0 g1 g6 ht ρ hx hv3 G3
   rintro c t G3 ⟨L,Qs,ht,g4,g6,g7,g8,g9,g10,g11,g12,hx,hv3,hP,hPQb,hLlen,hLok,hQlen,hQok,hcN,hU,hlt⟩
   obtain ⟨ρ,rfl⟩:=toT ht
   simp only [b0o,Nat.reduceLT] at g4 g6 g7 g8 g9 g10 g11 g12
   by_cases hc0:c=0
   ·subst hc0
    simp [-Int.natCast_add,n0o,g4,g6,g7,g8,g9,g10,g11,g12]
    exact ⟨hx,L,hP,Qs,hPQb,hLlen,hLok,hQlen,hQok,by simpa using hU,by simpa using hlt⟩
   ·obtain ⟨i,rfl⟩:∃ i,c=i + 1:=⟨c - 1,by omega⟩
    have ec:(((i + 1:Nat):Int) - 1)=(i:Int):=by omega
    rw [ec] at g12
    -- places
    obtain ⟨iK,hiK⟩:∃ iK,iK=i + K:=⟨_,rfl⟩
    have ew1:IntKind.i64.wrap ((i:Int) + (K:Int))=(iK:Int):=by rw [a0S (by omega) (by omega)];omega
    have ew2:IntKind.i64.wrap ((iK:Int) - 1)=((i + k:Nat):Int):=by rw [a0S (by omega) (by omega)];omega
    have ew3:IntKind.i64.wrap ((iK:Int) - 2)=((i + j:Nat):Int):=by rw [a0S (by omega) (by omega)];omega
    have ew4:IntKind.i64.wrap ((iK:Int) + 1)=((iK + 1:Nat):Int):=by rw [a0S (by omega) (by omega)];omega
    have ew5:IntKind.i64.wrap ((i:Int) - 1)=(i:Int) - 1:=a0S (by omega) (by omega)
    obtain ⟨hi1,hr1⟩:=i0P (k:=.i64) (cap:=capu) (o:=0) (n:=a.length + 1) hP (by omega) (show iK < a.length + 1 by omega)
    obtain ⟨hi2,hr2⟩:=i0P (k:=.i64) (cap:=capu) (o:=0) (n:=a.length + 1) hP (by omega) (show i + k < a.length + 1 by omega)
    obtain ⟨hi3,hr3⟩:=i0P (k:=.i64) (cap:=capu) (o:=0) (n:=a.length + 1) hP (by omega) (show i + j < a.length + 1 by omega)
    rw [hSU,R0B] at hi1 hi2 hi3
    rw [R0B] at hr1 hr2 hr3
    have hA1:=b0t hLok iK
    have hA2:=b0t hLok (i + k)
    have hA3:=b0t hLok (i + j)
    -- the window
    have hwin:=G0I (L:=L) (o:=i) (k:=K) (by omega)
    rw [show K - 2=j by omega,show K - 1=k by omega,← hiK] at hwin
    have hUw:win L i (K + 1) < V * 4294967296:=by
     have h1:=f0r (L:=L) (Q0W _)
     rw [Q0Z,hLlen,show a.length + 1=i + ((K + 1) + (a.length - i - K)) by omega,c0l,c0l,R0B] at h1
     have h2:4294967296 ^ i * win L i (K + 1) < 4294967296 ^ i * (V * 4294967296):=by
      rw [R0m,← R0i,Nat.mul_right_comm] at hlt
      rw [R0b] at h1
      have:V * 4294967296 * 4294967296 ^ i=4294967296 ^ i * (V * 4294967296):=R0u _ _
      omega
     exact R0W h2
    generalize L.getD iK 0=A1 at hA1 hr1 hwin
    generalize L.getD (i + k) 0=A2 at hA2 hr2 hwin
    generalize L.getD (i + j) 0=A3 at hA3 hr3 hwin
    obtain ⟨x,hX⟩:∃ x,x=A1 * 4294967296 + A2:=⟨_,rfl⟩
    rw [← hX] at hwin
    have gs:Gs (4294967296 ^ j) (win L i j) (win Vl 0 j) (win L i (K + 1)) V x A3 top next 4294967296 :=
     ⟨Nat.pow_pos (by omega),h0O hLok i j,h0O hok2 0 j,hwin,hV2,by omega,hTt,hTn,hA3,hUw⟩
    clear hwin
    have eA1:IntKind.u64.wrap (A1:Int)=(A1:Int):=by rw [a0m];omega
    have eA2:IntKind.u64.wrap (A2:Int)=(A2:Int):=by rw [a0m];omega
    have eA3:IntKind.u64.wrap (A3:Int)=(A3:Int):=by rw [a0m];omega
    have s1:=K0X (tag:=0) hA1
    have s2:=O0S (tag:=0) hA1 hA2
    have hxl:x < 18446744073709551616:=by omega
    have hqle:=gs.q_le
    have hxlt:=gs.x_lt
    rw [← hX] at s2
    have s3:=J0h (tag:=0) (a:=x) (b:=top) hxl (by omega)
    have s4:=K0Q (tag:=0) (a:=x) (b:=top) (by omega)
    have hgr:x / top * top + x % top=x:=S0U x top
    have hrt:=R0V x (show 0 < top by omega)
    have hgB:x / top≤4294967297:=by
     have:x / top < 4294967298:=by rw [S0l (by omega)];omega
     omega
    have hic:(i:Int) ≥ 0:=by omega
    simp [-Int.natCast_add,-Int.natCast_mul,-Int.natCast_ediv,-Int.natCast_emod,n0o,g4,g6,g7,g8,g9,g10,g11,g12,hic]
    refine a0Y ?_
    simp [-Int.natCast_add,-Int.natCast_mul,-Int.natCast_ediv,-Int.natCast_emod,o0F,g4,g6,g7,g8,g9,g10,g11,g12,ew1,ew2,hi1,hi2,hr1,hr2,eA1,eA2,s1,s2]
    refine a0Y ?_
    simp [-Int.natCast_add,-Int.natCast_mul,-Int.natCast_ediv,-Int.natCast_emod,o0G,g4,g6,g7,g8,g9,g10,g11,g12,s3,s4]
    clear s1 s2 s3 s4
    generalize x / top=gq at hgr hgB hqle ⊢
    generalize x % top=rr at hgr hrt ⊢
    have hslice:∃ cap',c0D 1 SU (some (.int .i64 (i:Int))) (some (.int .i64 ((iK + 1:Nat):Int))) none=some (.slice (some ⟨P,i,none⟩) (K + 1) cap'):=by
     rw [← hSU,j0k (lo:=i) (hi:=iK + 1) (by simp) (F0p (n:=iK + 1)) (by omega) (by omega),R0B,show iK + 1 - i=K + 1 by omega]
     exact ⟨_,rfl⟩
    obtain ⟨capt,hslice⟩:=hslice
    have helem:∀ (G':a0c) (cs:List Value),a0c.blk G' P=.row false a0b cs→elemOk G' a0b SU=true:=fun G' cs h=>by rw [← hSU];exact k0E h
    refine b0A (fun c t G'=>∃ g rest:Nat,c=g∧G' = G3∧t.length=147∧get t 4=SQ∧get t 6=.int .i64 (n:Int)∧get t 7=SU∧get t 8=SV∧get t 9=.int .i64 (K:Int)∧get t 10=.int .u64 (top:Int)∧get t 11=.int .u64 (next:Int)∧get t 12=.int .i64 (i:Int)∧get t 14=.int .u64 (g:Int)∧get t 15=.int .u64 (rest:Int) ∧
      g * top + rest=x∧win L i (K + 1) / V≤g∧g≤4294967297∧rest < 4294967296)
     (fun t G'=>∃ g rest:Nat,G' = G3∧t.length=147∧get t 4=SQ∧get t 6=.int .i64 (n:Int)∧get t 7=SU∧get t 8=SV∧get t 9=.int .i64 (K:Int)∧get t 10=.int .u64 (top:Int)∧get t 11=.int .u64 (next:Int)∧get t 12=.int .i64 (i:Int)∧get t 14=.int .u64 (g:Int) ∧
      g * top + rest=x∧win L i (K + 1) / V≤g∧g < 4294967296∧g * next≤rest * 4294967296 + A3) gq ?_ ?_ ?_
    ·exact ⟨gq,rr,rfl,rfl,by simp,by simp [g4],by simp [g6],by simp [g7],by simp [g8],by simp [g9],by simp [g10],by simp [g11],by simp [g12],by simp,by simp,hgr,hqle,hgB,by omega⟩
    ·clear g4 g6 g7 g8 g9 g10 g11 g12 ht ρ
     rintro c t G' ⟨g,rest,rfl,rfl,ht,g4,g6,g7,g8,g9,g10,g11,g12,g14,g15,hgx,hq,hgl,hrl⟩
     obtain ⟨ρ,rfl⟩:=toT ht
     simp only [b0o,Nat.reduceLT] at g4 g6 g7 g8 g9 g10 g11 g12 g14 g15
     obtain ⟨rt,hrt2⟩:∃ rt,rt=rest + top:=⟨_,rfl⟩
     have er:IntKind.u64.wrap ((rest:Int) + (top:Int))=(rt:Int):=by rw [a0m];omega
     by_cases hcB:4294967296≤c
     ·have hcB2:(4294967296:Int)≤(c:Int):=by omega
      have hcase:4294967296≤c ∨ rest * 4294967296 + A3 < c * next:=.inl hcB
      have hcs:(c:Int) ≥ 4294967296:=hcB2
      simp (config:={maxSteps:=4000000}) [-Int.natCast_add,-Int.natCast_mul,i0h,g4,g6,g7,g8,g9,g10,g11,g12,g14,g15,hcB,hcB2]
      obtain ⟨hq',hg0⟩:=gs.down hgx hq hcase
      obtain ⟨g',rfl⟩:∃ g',c=g' + 1:=⟨c - 1,by omega⟩
      rw [Nat.add_sub_cancel] at hq'
      have eg:IntKind.u64.wrap (((g' + 1:Nat):Int) - 1)=(g':Int):=by rw [a0m];omega
      have hgx':g' * top + rt=x:=by rw [← hgx,hrt2,R0o,R0S];omega
      by_cases hbr:4294967296≤rt
      ·have hbr2:(4294967296:Int)≤(rt:Int):=by omega
       simp [-Int.natCast_add,-Int.natCast_mul,hcs,g0J,g0K,g0L,g4,g6,g7,g8,g9,g10,g11,g12,g14,g15,eg,er,hbr,hbr2]
       have hgl':g' < 4294967296:=by
        by_cases h:g' = 4294967296
        ·subst h;rw [R0u] at hgx';omega
        ·omega
       refine ⟨g',rfl,rt,hgx',hq',hgl',?_⟩
       have h1:g' * next≤4294967295 * 4294967295:=S0k (by omega) (by omega)
       omega
      ·have hbr2:¬ (4294967296:Int)≤(rt:Int):=by omega
       simp [-Int.natCast_add,-Int.natCast_mul,hcs,g0J,g0K,g0L,g4,g6,g7,g8,g9,g10,g11,g12,g14,g15,eg,er,hbr,hbr2]
       exact ⟨g',by omega,rfl,rt,rfl,hgx',hq',by omega,by omega⟩
     ·have hcB2:¬ (4294967296:Int)≤(c:Int):=by omega
      have hcn:c * next≤4294967295 * 4294967295:=S0k (by omega) (by omega)
      obtain ⟨cn,hcn2⟩:∃ cn,cn=c * next:=⟨_,rfl⟩
      have em:IntKind.u64.wrap ((c:Int) * (next:Int))=(cn:Int):=by rw [a0m,← S0F,← hcn2];omega
      have s1:=K0X (tag:=0) hrl
      have s2:=O0S (tag:=0) hrl hA3
      obtain ⟨rA,hrA⟩:∃ rA,rA=rest * 4294967296 + A3:=⟨_,rfl⟩
      rw [← hrA] at s2
      by_cases hgt:rA < cn
      ·have hcase:4294967296≤c ∨ rest * 4294967296 + A3 < c * next:=.inr (by rw [← hrA,← hcn2];exact hgt)
       have hcs:rA < cn:=hgt
       simp (config:={maxSteps:=4000000}) [-Int.natCast_add,-Int.natCast_mul,i0h,g4,g6,g7,g8,g9,g10,g11,g12,g14,g15,hcB,hcB2,ew1,ew3,hi3,hr3,eA3,em,s1,s2,hgt]
       obtain ⟨hq',hg0⟩:=gs.down hgx hq hcase
       obtain ⟨g',rfl⟩:∃ g',c=g' + 1:=⟨c - 1,by omega⟩
       rw [Nat.add_sub_cancel] at hq'
       have eg:IntKind.u64.wrap (((g' + 1:Nat):Int) - 1)=(g':Int):=by rw [a0m];omega
       have hgx':g' * top + rt=x:=by rw [← hgx,hrt2,R0o,R0S];omega
       by_cases hbr:4294967296≤rt
       ·have hbr2:(4294967296:Int)≤(rt:Int):=by omega
        simp [-Int.natCast_add,-Int.natCast_mul,hcs,g0J,g0K,g0L,g4,g6,g7,g8,g9,g10,g11,g12,g14,g15,eg,er,hbr,hbr2]
        have hgl':g' < 4294967296:=by
         by_cases h:g' = 4294967296
         ·subst h;rw [R0u] at hgx';omega
         ·omega
        refine ⟨g',rfl,rt,hgx',hq',hgl',?_⟩
        have h1:g' * next≤4294967295 * 4294967295:=S0k (by omega) (by omega)
        omega
       ·have hbr2:¬ (4294967296:Int)≤(rt:Int):=by omega
        simp [-Int.natCast_add,-Int.natCast_mul,hcs,g0J,g0K,g0L,g4,g6,g7,g8,g9,g10,g11,g12,g14,g15,eg,er,hbr,hbr2]
        exact ⟨g',by omega,rfl,rt,rfl,hgx',hq',by omega,by omega⟩
      ·simp (config:={maxSteps:=4000000}) [-Int.natCast_add,-Int.natCast_mul,i0h,g4,g6,g7,g8,g9,g10,g11,g12,g14,g15,hcB,hcB2,ew1,ew3,hi3,hr3,eA3,em,s1,s2,hgt]
       exact ⟨c,rfl,rest,hgx,hq,by omega,by rw [← hrA,← hcn2];omega⟩
    ·clear g4 g6 g7 g8 g9 g10 g11 g12 ht ρ hgr hgB hqle hrt
     rintro t G' ⟨gg,rest,rfl,ht,g4,g6,g7,g8,g9,g10,g11,g12,g14,hgx,hq,hgl,hgn⟩
     obtain ⟨ρ,rfl⟩:=toT ht
     simp only [b0o,Nat.reduceLT] at g4 g6 g7 g8 g9 g10 g11 g12 g14
     have hq1:=gs.fine hgx hgl hgn
     have hVK:V < 4294967296 ^ (K + 1):=by
      rw [hk,R0m];omega
     simp [-Int.natCast_add,o0H,g4,g6,g7,g8,g9,g10,g11,g12,g14,ew1,ew4,helem _ _ hP,hslice]
     refine (k0C (n:=K + 1) hP hLok (by omega) hv3 hslP hfP hgl (by omega) (by omega)).mono ?_
     rintro _ G4 ⟨X0,cc,rfl,hXb0,hxb,hwon0,hs⟩
     rw [hVt] at hs
     obtain ⟨hc1,hc2⟩:=v0Q gs hq hq1 hs (h0O hwon0.2.1 i (K + 1)) hVK
     have hx4:=hxb.ext hfP hx
     have hv4:=hv3.off hxb hslP
     have hPQ4:a0c.blk G4 PQ=.row false a0b (b0r Qs):=by rw [hxb.2 PQ (a0k hPQb) (by simp;omega)];exact hPQb
     have hml:=R0V (win L i (K + 1)) gs.V0
     have hdm0:=(S0H (win L i (K + 1)) V).symm
     by_cases hcc:cc=0
     ·obtain ⟨hg1,hwin⟩:=hc1 hcc
      obtain ⟨X,hXe⟩:∃ X,X=X0:=⟨_,rfl⟩
      obtain ⟨g,hge⟩:∃ g,g=gg:=⟨_,rfl⟩
      subst hXe hge
      have hXb:=hXb0
      have hwon:=hwon0
      have hdm:win L i (K + 1)=V * g + win L i (K + 1) % V:=by rw [hg1];exact hdm0
      simp [-Int.natCast_add,hcc,k0W,g4,g6,g7,g8,g9,g10,g11,g12,g14]
      refine (a0g hx4.1).mono ?_
      rintro _ G6 ⟨rfl,hx6⟩
      have hPQ6:=hx6.blk hPQ4
      have hP6:=hx6.blk hXb
      have hPQl:=a0k hPQ6
      obtain ⟨hj1,_⟩:=i0P (k:=.i64) (cap:=N) (o:=0) (n:=N) hPQ6 (by omega) (show i < N by omega)
      rw [hSQ,R0B] at hj1
      have hile:i + 1≤Qs.length:=by omega
      have hfPQ:G.size≤PQ:=by omega
      rw [R0s hgl]
      obtain ⟨hd1,hd2⟩:=o0j (BB:=4294967296) (n:=a.length + 1) (q:=g) rfl hLlen hwon (by omega) (show i < Qs.length by omega) hU (by rw [hk];exact hVlt) hlt hdm hml hwin
      simp [-Int.natCast_add,k0X,hj1,hPQ6,hile,hfPQ,g4,g6,g7,g8,g9,g10,g11,g12,ew5]
      refine ⟨i,by omega,rfl,(hx4.trans hx6).set hfPQ,(hv4.mono hx6).off d0Z.refl.set hslPQ,X,by rw [a0L (by omega)];exact hP6,Qs.set i g,by rw [a0r hPQl,c0p],by rw [hwon.1,hLlen],hwon.2.1,by simpa using hQlen,b0q hQok hgl,by omega,hd2,hd1⟩
     ·obtain ⟨hg1,hgive⟩:=hc2 hcc
      obtain ⟨g,rfl⟩:∃ g,gg=g + 1:=⟨win L i (K + 1) / V,hg1⟩
      have hg2:g=win L i (K + 1) / V:=Nat.succ.inj hg1
      have eg:IntKind.u64.wrap (((g + 1:Nat):Int) - 1)=(g:Int):=by rw [a0m];omega
      have hdm:win L i (K + 1)=V * g + win L i (K + 1) % V:=by rw [hg2];exact hdm0
      simp [-Int.natCast_add,hcc,o0I,o0J,g4,g6,g7,g8,g9,g10,g11,g12,g14,eg,ew1,ew4,helem _ _ hXb0,hslice]
      refine (k0z (n:=K + 1) hXb0 hwon0.2.1 (by rw [hwon0.1];omega) hv4 hslP hfP (by omega) (by omega)).mono ?_
      rintro _ G5 ⟨X,c2,hXb,hxb2,hwon2,hs2⟩
      rw [hVt] at hs2
      have hwin:=hgive _ _ hs2 (h0O hwon2.2.1 i (K + 1))
      replace hPQ4:a0c.blk G5 PQ=.row false a0b (b0r Qs):=by rw [hxb2.2 PQ (a0k hPQ4) (by simp;omega)];exact hPQ4
      replace hx4:=hxb2.ext hfP hx4
      replace hv4:=hv4.off hxb2 hslP
      have hwon:=hwon0.trans hwon2
      replace hgl:g < 4294967296:=by omega
      simp [-Int.natCast_add,k0W,g4,g6,g7,g8,g9,g10,g11,g12]
      refine (a0g hx4.1).mono ?_
      rintro _ G6 ⟨rfl,hx6⟩
      have hPQ6:=hx6.blk hPQ4
      have hP6:=hx6.blk hXb
      have hPQl:=a0k hPQ6
      obtain ⟨hj1,_⟩:=i0P (k:=.i64) (cap:=N) (o:=0) (n:=N) hPQ6 (by omega) (show i < N by omega)
      rw [hSQ,R0B] at hj1
      have hile:i + 1≤Qs.length:=by omega
      have hfPQ:G.size≤PQ:=by omega
      rw [R0s hgl]
      obtain ⟨hd1,hd2⟩:=o0j (BB:=4294967296) (n:=a.length + 1) (q:=g) rfl hLlen hwon (by omega) (show i < Qs.length by omega) hU (by rw [hk];exact hVlt) hlt hdm hml hwin
      simp [-Int.natCast_add,k0X,hj1,hPQ6,hile,hfPQ,g4,g6,g7,g8,g9,g10,g11,g12,ew5]
      refine ⟨i,by omega,rfl,(hx4.trans hx6).set hfPQ,(hv4.mono hx6).off d0Z.refl.set hslPQ,X,by rw [a0L (by omega)];exact hP6,Qs.set i g,by rw [a0r hPQl,c0p],by rw [hwon.1,hLlen],hwon.2.1,by simpa using hQlen,b0q hQok hgl,by omega,hd2,hd1⟩
  ·clear hP3 hPQ3 hv0 hl0 hok0 L0 g0 g1 g6 ht ρ hx hv3 G3
   rintro t G3 ⟨L,Qs,ht,g4,g6,g7,g9,hx,hP,hPQb,hLlen,hLok,hQlen,hQok,hU,hlt⟩
   obtain ⟨ρ,rfl⟩:=toT ht
   simp only [b0o,Nat.reduceLT] at g4 g6 g7 g9
   have helem:elemOk G3 a0b SU=true:=by rw [← hSU];exact k0E hP
   have hslice:∃ cap',c0D 1 SU none (some (.int .i64 (K:Int))) none=some (.slice (some ⟨P,0,none⟩) K cap'):=by
    rw [← hSU,j0k (lo:=0) (hi:=K) rfl (by simp) (by omega) (by omega),R0B,T0h]
    exact ⟨_,rfl⟩
   obtain ⟨capt,hslice⟩:=hslice
   simp [-Int.natCast_add,o0K,g4,g6,g7,g9,helem,hslice]
   have hlim:=q0U (cap:=capt) hP hLok (show 0 + K≤L.length by omega)
   have hlv:a0l ((L.drop 0).take K)=a0l L:=by
    have h1:=f0r (L:=L) (Q0W _)
    rw [Q0Z,hLlen,show a.length + 1=K + (a.length + 1 - K) by omega,c0l,R0B] at h1
    have h2:win L K (a.length + 1 - K)=0:=by
     by_cases h0:win L K (a.length + 1 - K)=0
     ·exact h0
     ·have:=Nat.le_mul_of_pos_right (4294967296 ^ K) (by omega:0 < win L K (a.length + 1 - K))
      rw [hk] at this h1;omega
    rw [r0c (by omega),h1,h2,Nat.mul_zero,R0N]
   have hll:((L.drop 0).take K).length=K:=by simp;omega
   refine (k0y hlim hx.1 (by omega) (by omega)).mono ?_
   rintro r G4 ⟨⟨o,ho,hov,hol⟩,hx4⟩
   rw [hlv] at hov
   have hV0:0 < V:=by omega
   have e1:U0 / V=a0l Qs:=by rw [hU,R0u,Nat.mul_add_div hV0,S0p hlt,R0N]
   have e2:U0 % V=a0l L:=by rw [hU,R0u,Nat.mul_add_mod,R0s hlt]
   refine fun _=>⟨SQ,Qs,r,⟨rfl,rfl⟩,⟨by rw [← hSQ,← hQlen];exact (Own.mk (fl:=0) (hx4.blk hPQb) (by simp) (R0H _)).sl,hQok⟩,e1.symm,by omega,o,ho,by rw [hov,e2],by omega⟩
end
section
open Go
set_option maxHeartbeats 4000000
variable {fl:Nat} {H:a0c} {R:a0E} {v w:Value} {i j:Bool × List Nat}
theorem p0T (x y:Int):(if (decide (x < 0) != decide (y < 0))=true then -((x.natAbs / y.natAbs:Nat):Int) else ((x.natAbs / y.natAbs:Nat):Int))=x.tdiv y:=by
 have e1:∀ n:Int,0≤n→(n.natAbs:Int)=n:=fun n h=>Int.natAbs_of_nonneg h
 have e2:∀ n:Int,n < 0→(n.natAbs:Int) = -n:=fun n h=>by omega
 rw [Int.natCast_ediv]
 by_cases hx:x < 0 <;> by_cases hy:y < 0 <;> simp only [hx,hy,decide_true,decide_false,bne_self_eq_false,R0p,R0K,Bool.true_bne,Bool.false_bne,Bool.not_false,R0T]
 ·rw [e2 x hx,e2 y hy,← S0d (by omega),Int.neg_tdiv,Int.tdiv_neg,Int.neg_neg]
 ·rw [e2 x hx,e1 y (by omega),← S0d (by omega),Int.neg_tdiv,Int.neg_neg]
 ·rw [e1 x (by omega),e2 y hy,← S0d (by omega),Int.tdiv_neg,Int.neg_neg]
 ·rw [e1 x (by omega),e1 y (by omega),← S0d (by omega)]
theorem p0U (x y:Int):(if decide (x < 0)=true then -((x.natAbs % y.natAbs:Nat):Int) else ((x.natAbs % y.natAbs:Nat):Int))=x.tmod y:=by
 have h1:=Int.natAbs_tmod x y
 by_cases hx:x < 0
 ·simp only [hx,decide_true,R0T]
  have h2:x.tmod y≤0:=by
   have:=Int.tmod_nonneg (a:=-x) y (by omega)
   rw [Int.neg_tmod] at this;omega
  omega
 ·simp only [hx,decide_false,R0p,R0K]
  have h2:=Int.tmod_nonneg (a:=x) y (by omega)
  omega
theorem c0W (h:b0j H v i) (k:b0j H w j) (hf:fl≤H.size) (hn:i.2.length < 536870912) (hm:j.2.length < 536870912) (hj0:a0p j ≠ 0) :
  a0N env fl F0H [v,w] H (fun r H'=>(∃ q m,r=.tuple #[q,m,.int .i64 0]∧b0j H' q (a0n ((a0p i).tdiv (a0p j)))∧b0j H' m (a0n ((a0p i).tmod (a0p j))))∧Ext H H') R:=by
 have k0:=h
 have k1:=k
 obtain ⟨s,rfl,hs⟩:=h
 obtain ⟨u,rfl,hu⟩:=k
 refine a0d Q0H hf (h:=?_)
 intro ρ h0
 simp [N0g,E0F,h0]
 generalize hG:Array.push (Array.push (Array.push (Array.push H _) _) _) _=G
 have hx:Ext H G:=by rw [← hG];exact (Ext.refl H).push.push.push.push
 have b0:a0c.blk G H.size=.row false a0a [.bool i.1,s]:=by rw [← hG];simp
 have b1:a0c.blk G (H.size + 1)=.row false a0a [.bool j.1,u]:=by rw [← hG];simp
 have b2:a0c.blk G (H.size + 2)=.row false a0a [.bool false,.slice none 0 0]:=by rw [← hG];simp
 have b3:a0c.blk G (H.size + 3)=.row false a0a [.bool false,.slice none 0 0]:=by rw [← hG];simp
 have hz:H.size + 3 < G.size:=a0k b3
 clear hG
 replace k0:=k0.mono hx
 replace k1:=k1.mono hx
 refine a0Y ?_
 simp [E0G,h0,b0,b1]
 refine (b0p k0 (by omega) (by omega)).mono ?_
 rintro x G2 ⟨k2,hx2⟩
 replace b0:=hx2.blk b0;replace b1:=hx2.blk b1;replace b2:=hx2.blk b2;replace b3:=hx2.blk b3;replace hx:=hx.trans hx2;replace k0:=k0.mono hx2;replace k1:=k1.mono hx2
 try simp [h0,b0,b1]
 refine (b0p k1 hx.1 (by omega)).mono ?_
 rintro y G2 ⟨k3,hx2⟩
 replace b0:=hx2.blk b0;replace b1:=hx2.blk b1;replace b2:=hx2.blk b2;replace b3:=hx2.blk b3;replace hx:=hx.trans hx2;replace k0:=k0.mono hx2;replace k1:=k1.mono hx2;replace k2:=k2.mono hx2
 clear hs hu hz hx2
 have l1:=a0o k0.ok
 have l2:=a0o k1.ok
 have hl0:a0e (a0p j).natAbs ≠ []:=by intro h;exact hj0 (by have:=b0l.1 h;omega)
 have hl1:=List.length_pos_iff.2 hl0
 have e1:=p0T (a0p i) (a0p j)
 have e2:=p0U (a0p i) (a0p j)
 simp [E0H,E0I,h0,k3.slen,hl0]
 refine (d0C k2 k3 hx.1 (by omega)).mono ?_
 rintro _ G2 ⟨rfl,hx2⟩
 replace b0:=hx2.blk b0;replace b1:=hx2.blk b1;replace b2:=hx2.blk b2;replace b3:=hx2.blk b3;replace hx:=hx.trans hx2;replace k0:=k0.mono hx2;replace k1:=k1.mono hx2;replace k2:=k2.mono hx2;replace k3:=k3.mono hx2
 have hcmp:=c0r (a0p i).natAbs (a0p j).natAbs
 rw [b0w] at hcmp
 generalize p0r (a0e (a0p i).natAbs) (a0e (a0p j).natAbs)=c at hcmp
 by_cases hlt:(a0p i).natAbs < (a0p j).natAbs
 ·have hcl:c < 0:=by rw [hcmp,R0k hlt];omega
  simp [E0J,h0,hcl,b0]
  refine (b0e k0 hx.1 (by omega)).mono ?_
  rintro _ G2 ⟨rfl,hx2⟩
  replace b0:=hx2.blk b0;replace b1:=hx2.blk b1;replace b2:=hx2.blk b2;replace b3:=hx2.blk b3;replace hx:=hx.trans hx2;replace k0:=k0.mono hx2;replace k1:=k1.mono hx2;replace k2:=k2.mono hx2;replace k3:=k3.mono hx2
  try simp [h0]
  refine (b0G ((a0p i).tmod (a0p j)) k2 hx.1 (by omega) (by rw [a0f,← e2,R0s hlt])).mono ?_
  obtain ⟨s1,hsv,hs1⟩:∃ s1,s1=Value.slice none 0 0∧Lim G2 s1 (a0n ((a0p i).tdiv (a0p j))).2:=by
   refine ⟨_,rfl,?_⟩
   rw [← e1,S0p hlt]
   have:a0n (if (decide (a0p i < 0) != decide (a0p j < 0))=true then -((0:Nat):Int) else ((0:Nat):Int))=(false,[]):=by split <;> exact h0e
   rw [this];exact Lim.nil
  have hb1:(a0n ((a0p i).tdiv (a0p j))).1=false:=by
   rw [← e1,S0p hlt];split <;> simp [a0n]
  rw [← hsv,← hb1]
  rintro _ G2 ⟨⟨s2,rfl,hs2⟩,hx2⟩
  replace b0:=hx2.blk b0;replace b1:=hx2.blk b1;replace b2:=hx2.blk b2;replace b3:=hx2.blk b3;replace hx:=hx.trans hx2;replace k0:=k0.mono hx2;replace k1:=k1.mono hx2;replace k2:=k2.mono hx2;replace k3:=k3.mono hx2
  have hz:=a0k b3
  have hz2:=a0k b2
  simp [h0,b2,b3,hs1.cells,hs1.plain,hs2.cells,hs2.plain,hz,hz2]
  refine fun _=>⟨_,_,⟨rfl,rfl⟩,⟨s1,rfl,?_⟩,⟨s2,rfl,?_⟩⟩
  ·exact ((hs1.mono hx2).setT b2 (by decide)).setT (by rw [a0L (by omega)];exact b3) (by decide)
  ·exact (hs2.setT b2 (by decide)).setT (by rw [a0L (by omega)];exact b3) (by decide)
 ·have hcl:¬ c < 0:=by rw [hcmp,R0c hlt];split <;> omega
  by_cases h1:(a0e (a0p j).natAbs).length=1
  ·have hd0:(0:Nat) < (a0e (a0p j).natAbs).length:=by omega
   obtain ⟨d,hd⟩:∃ d,a0e (a0p j).natAbs=[d]:=by
    obtain ⟨d,hd⟩:=List.length_eq_one_iff.1 h1;exact ⟨d,hd⟩
   have hdv:(a0p j).natAbs=d:=by rw [← a0f (a0p j).natAbs,hd];simp [a0l]
   have hdl:d < 4294967296:=k3.ok d (by rw [hd];simp)
   have hdp:0 < d:=by omega
   rw [hd] at k3
   have hia:=k3.ia (k:=.i64) (j:=0) (by simp)
   have hld:=k3.load (j:=0) (by simp) (Ext.refl _)
   simp at hia hld
   simp [v0B,E0K,h0,hcl,hd,k3.slen,hia,hld]
   refine (j0A k2 hx.1 (by omega) hdp hdl).mono ?_
   rintro _ G2 ⟨⟨q1,o,rfl,k4,hov,hol⟩,hx2⟩
   replace b0:=hx2.blk b0;replace b1:=hx2.blk b1;replace b2:=hx2.blk b2;replace b3:=hx2.blk b3;replace hx:=hx.trans hx2;replace k0:=k0.mono hx2;replace k1:=k1.mono hx2;replace k2:=k2.mono hx2;replace k3:=k3.mono hx2
   have hmd:a0l (a0e (a0p i).natAbs) % d < 4294967296:=Nat.lt_trans (R0V _ hdp) hdl
   rw [a0f] at hov hmd ⊢
   generalize hrm:(a0p i).natAbs % d=rm at *
   simp [h0]
   refine a0Y ?_
   simp [E0L,h0,b0,b1]
   refine (b0e k0 (by have:=hx.1;omega) (by omega)).mono ?_
   rintro _ G2 ⟨rfl,hx2⟩
   replace b0:=hx2.blk b0;replace b1:=hx2.blk b1;replace b2:=hx2.blk b2;replace b3:=hx2.blk b3;replace hx:=hx.trans hx2;replace k0:=k0.mono hx2;replace k1:=k1.mono hx2;replace k2:=k2.mono hx2;replace k3:=k3.mono hx2;replace k4:=k4.mono hx2
   try simp [h0,b0,b1]
   refine (b0e k1 (by have:=hx.1;omega) (by omega)).mono ?_
   rintro _ G2 ⟨rfl,hx2⟩
   replace b0:=hx2.blk b0;replace b1:=hx2.blk b1;replace b2:=hx2.blk b2;replace b3:=hx2.blk b3;replace hx:=hx.trans hx2;replace k0:=k0.mono hx2;replace k1:=k1.mono hx2;replace k2:=k2.mono hx2;replace k3:=k3.mono hx2;replace k4:=k4.mono hx2
   try simp [h0]
   refine (b0G ((a0p i).tdiv (a0p j)) k4 (by have:=hx.1;omega) (by omega) (by rw [hov,← e1,hdv])).mono ?_
   rintro _ G2 ⟨⟨s1,rfl,hs1⟩,hx2⟩
   replace b0:=hx2.blk b0;replace b1:=hx2.blk b1;replace b2:=hx2.blk b2;replace b3:=hx2.blk b3;replace hx:=hx.trans hx2;replace k0:=k0.mono hx2;replace k1:=k1.mono hx2;replace k2:=k2.mono hx2;replace k3:=k3.mono hx2;replace k4:=k4.mono hx2
   try simp [h0,b0,b1]
   refine (b0e k0 (by have:=hx.1;omega) (by omega)).mono ?_
   rintro _ G2 ⟨rfl,hx2⟩
   replace b0:=hx2.blk b0;replace b1:=hx2.blk b1;replace b2:=hx2.blk b2;replace b3:=hx2.blk b3;replace hx:=hx.trans hx2;replace k0:=k0.mono hx2;replace k1:=k1.mono hx2;replace k2:=k2.mono hx2;replace k3:=k3.mono hx2;replace k4:=k4.mono hx2
   replace hs1:=hs1.mono hx2
   try simp [h0]
   generalize hG3:Array.push G2 _=G3
   have hx2:Ext G2 G3:=by rw [← hG3];exact (Ext.refl _).push
   have k5:Lim G3 (.slice (some ⟨G2.size,0,none⟩) 1 1) [rm]:=by
    refine ⟨(Own.mk (fl:=0) (cap:=1) (e:=a0b) (sz:=1) (n:=1) (cs:=b0r [rm]) ?_ (by simp) (R0H _)).sl,fun x hx=>by simp at hx;omega⟩
    rw [← hG3,a0u];rfl
   replace b0:=hx2.blk b0;replace b1:=hx2.blk b1;replace b2:=hx2.blk b2;replace b3:=hx2.blk b3;replace hx:=hx.trans hx2;replace k0:=k0.mono hx2;replace k1:=k1.mono hx2;replace k2:=k2.mono hx2;replace k3:=k3.mono hx2;replace k4:=k4.mono hx2
   replace hs1:=hs1.mono hx2
   refine (b0G ((a0p i).tmod (a0p j)) k5 (by have:=hx.1;omega) (by simp) (by rw [← e2,hdv,hrm];simp [a0l])).mono ?_
   rintro _ G2 ⟨⟨s2,rfl,hs2⟩,hx2⟩
   replace b0:=hx2.blk b0;replace b1:=hx2.blk b1;replace b2:=hx2.blk b2;replace b3:=hx2.blk b3;replace hx:=hx.trans hx2;replace k0:=k0.mono hx2;replace k1:=k1.mono hx2;replace k2:=k2.mono hx2;replace k3:=k3.mono hx2;replace k4:=k4.mono hx2;replace k5:=k5.mono hx2
   have hz:=a0k b3
   have hz2:=a0k b2
   simp [h0,b2,b3,hs1.cells,hs1.plain,hs2.cells,hs2.plain,hz,hz2]
   refine fun _=>⟨_,_,⟨rfl,rfl⟩,⟨s1,rfl,?_⟩,⟨s2,rfl,?_⟩⟩
   ·exact ((hs1.mono hx2).setT b2 (by decide)).setT (by rw [a0L (by omega)];exact b3) (by decide)
   ·exact (hs2.setT b2 (by decide)).setT (by rw [a0L (by omega)];exact b3) (by decide)
  ·have hlt2:2≤(a0e (a0p j).natAbs).length:=by omega
   have hle:(a0e (a0p j).natAbs).length≤(a0e (a0p i).natAbs).length:=b0g (by omega)
   have h1':¬ ((a0e (a0p j).natAbs).length:Int)=1:=by omega
   simp [v0B,E0M,h0,hcl,h1,h1',k3.slen]
   refine (i0N k2 k3 hx.1 (by omega) hlt2 hle (i0x (by omega))).mono ?_
   rintro _ G2 ⟨⟨q1,o,q2,o2,rfl,k4,hov,hol,k5,hov2,hol2⟩,hx2⟩
   replace b0:=hx2.blk b0;replace b1:=hx2.blk b1;replace b2:=hx2.blk b2;replace b3:=hx2.blk b3;replace hx:=hx.trans hx2;replace k0:=k0.mono hx2;replace k1:=k1.mono hx2
   rw [a0f,a0f] at hov hov2
   simp [h0]
   refine a0Y ?_
   simp [v0A,h0,b0,b1]
   refine (b0e k0 (by have:=hx.1;omega) (by omega)).mono ?_
   rintro _ G2 ⟨rfl,hx2⟩
   replace b0:=hx2.blk b0;replace b1:=hx2.blk b1;replace b2:=hx2.blk b2;replace b3:=hx2.blk b3;replace hx:=hx.trans hx2;replace k0:=k0.mono hx2;replace k1:=k1.mono hx2;replace k4:=k4.mono hx2;replace k5:=k5.mono hx2
   try simp [h0,b0,b1]
   refine (b0e k1 (by have:=hx.1;omega) (by omega)).mono ?_
   rintro _ G2 ⟨rfl,hx2⟩
   replace b0:=hx2.blk b0;replace b1:=hx2.blk b1;replace b2:=hx2.blk b2;replace b3:=hx2.blk b3;replace hx:=hx.trans hx2;replace k0:=k0.mono hx2;replace k4:=k4.mono hx2;replace k5:=k5.mono hx2
   try simp [h0]
   refine (b0G ((a0p i).tdiv (a0p j)) k4 (by have:=hx.1;omega) (by omega) (by rw [hov,← e1])).mono ?_
   rintro _ G2 ⟨⟨s1,rfl,hs1⟩,hx2⟩
   replace b0:=hx2.blk b0;replace b1:=hx2.blk b1;replace b2:=hx2.blk b2;replace b3:=hx2.blk b3;replace hx:=hx.trans hx2;replace k0:=k0.mono hx2;replace k5:=k5.mono hx2
   try simp [h0,b0,b1]
   refine (b0e k0 (by have:=hx.1;omega) (by omega)).mono ?_
   rintro _ G2 ⟨rfl,hx2⟩
   replace b2:=hx2.blk b2;replace b3:=hx2.blk b3;replace hx:=hx.trans hx2;replace k5:=k5.mono hx2
   replace hs1:=hs1.mono hx2
   try simp [h0]
   refine (b0G ((a0p i).tmod (a0p j)) k5 (by have:=hx.1;omega) (by omega) (by rw [hov2,← e2])).mono ?_
   rintro _ G2 ⟨⟨s2,rfl,hs2⟩,hx2⟩
   replace b2:=hx2.blk b2;replace b3:=hx2.blk b3;replace hx:=hx.trans hx2
   have hz:=a0k b3
   have hz2:=a0k b2
   simp [h0,b2,b3,hs1.cells,hs1.plain,hs2.cells,hs2.plain,hz,hz2]
   refine fun _=>⟨_,_,⟨rfl,rfl⟩,⟨s1,rfl,?_⟩,⟨s2,rfl,?_⟩⟩
   ·exact ((hs1.mono hx2).setT b2 (by decide)).setT (by rw [a0L (by omega)];exact b3) (by decide)
   ·exact (hs2.setT b2 (by decide)).setT (by rw [a0L (by omega)];exact b3) (by decide)
end
section
open Go
abbrev Log:=List (List Nat × List Nat)
def WRL (E:Env) (fl:Nat):List a0w→a0Q→a0c→Log→(a0Q→a0c→Log→Prop)→Prop
 | [],t,H,lg,Z=>Z t H lg
 | o :: r,t,H,lg,Z=>if b0d t o.g then WS E fl t H o.op (fun v H'=>WRL E fl r (put t o.dst v) H' (c0z t o.op :: lg) Z) (fun _=>False) else WRL E fl r (put t o.dst undef) H (([],[]) :: lg) Z
variable {E:Env} {fl:Nat} {t:a0Q} {H:a0c} {Q:c0S} {R:a0E}
theorem k0i (bef:List Nat) (pairs:List (Nat × Nat)) {Z:a0Q→a0c→Prop}:∀ (ops:List a0w) (i:Nat) (t:a0Q) (H:a0c) (log:Log),
  WRL E fl ops t H log (fun t' H' lg=>c0M lg.reverse pairs=true∧Z t' H')→∃ n t' H',b0J (a0T E n) fl bef pairs i ops t H none log=.fin .normal t' H'∧Z t' H'
 | [],i,t,H,log,h=>⟨0,t,H,by simp only [b0J];rw [R0k h.1],h.2⟩
 | o :: r,i,t,H,log,h=>by
  simp only [WRL] at h
  split at h
  ·rename_i hw
   obtain ⟨n,hn⟩:=x0O h
   cases hs:b0V (a0T E n) fl t H o.op with
   | bad=>rw [hs] at hn;exact R0q hn id
   | pan v=>rw [hs] at hn;exact R0q hn id
   | ok rr =>
    obtain ⟨v,H'⟩:=rr
    rw [hs] at hn
    obtain ⟨m,t2,H2,hm,hz⟩:=k0i bef pairs r (i + 1) _ _ _ hn
    refine ⟨max n m,t2,H2,?_,hz⟩
    have h1:=f0s (a0A E n (max n m) (by omega)) (Q0W fl) (t:=t) (H:=H) (so:=o.op) (by rw [hs];simp)
    have h2:=c0G (a0A E m (max n m) (by omega)) (Q0W fl) bef pairs r (i + 1) (put t o.dst v) H' none (c0z t o.op :: log) (by rw [hm];simp)
    simp only [b0J,i0G,R0p,R0K,hw,R0T,h1,hs,h2];exact hm
  ·rename_i hw
   obtain ⟨m,t2,H2,hm,hz⟩:=k0i bef pairs r (i + 1) _ _ _ h
   exact ⟨m,t2,H2,by simp only [b0J,i0G,R0p,R0K,hw];exact hm,hz⟩
theorem q0n {ops:List a0w} {bef:List Nat} {pairs:List (Nat × Nat)} (h:WRL E fl ops t H [] (fun t' H' lg=>c0M lg.reverse pairs=true∧Q .normal t' H')):W E fl (.draw ops bef pairs) t H Q R:=by
 obtain ⟨n,t',H',hn,hz⟩:=k0i bef pairs ops 0 t H [] h
 refine ⟨n + 1,?_⟩
 have h2:=c0G (a0A E n (n+1) (by omega)) (Q0W fl) bef pairs ops 0 t H none [] (by rw [hn];simp)
 simp only [a0J,h2,hn];exact hz
section
variable {Z:a0Q→a0c→Log→Prop} {lg:Log} {d:Option Nat} {op:SOp} {r:List a0w}
@[simp ↓] theorem N0n:WRL E fl [] t H lg Z=Z t H lg:=nr rfl
@[simp ↓] theorem L0l:WRL E fl (⟨d,none,op⟩ :: r) t H lg Z=WS E fl t H op (fun v H'=>WRL E fl r (put t d v) H' (c0z t op :: lg) Z) (fun _=>False):=by simp [WRL,b0d]
@[simp ↓] theorem O0Y {j:Nat} {w:Bool}:WRL E fl (⟨d,some (j,w),op⟩ :: r) t H lg Z=if p0X w (get t j)=true then WS E fl t H op (fun v H'=>WRL E fl r (put t d v) H' (c0z t op :: lg) Z) (fun _=>False) else WRL E fl r (put t d undef) H (([],[]) :: lg) Z:=by
 have h:b0d t (some (j,w))=p0X w (get t j):=by
  simp only [b0d]
  generalize get t j=v
  cases v <;> rfl
 show (if b0d t (some (j,w))=true then _ else _)=_
 rw [h]
theorem q0j {t t':a0Q} {ops:List a0w} {lg:Log} (h:t=t'):WRL E fl ops t H lg Z=WRL E fl ops t' H lg Z:=by rw [h]
attribute [congr] q0j
@[simp] theorem H0K {p:Addr}:blkOf (.pointer (some p))=[p.block]:=nr rfl
@[simp] theorem L0v {p:Addr} {n c:Nat}:blkOf (.slice (some p) n c)=[p.block]:=nr rfl
@[simp] theorem G0J {n c:Nat}:blkOf (.slice none n c)=[]:=nr rfl
@[simp] theorem N0Z {p:Addr} {n c:Nat}:blkW (.slice (some p) n c)=if n=0∧c=0 then [] else [p.block]:=nr rfl
@[simp] theorem H0L {n c:Nat}:blkW (.slice none n c)=[]:=nr rfl
attribute [simp] c0z c0M p0z
end
end
section
open Go
set_option maxHeartbeats 4000000
variable {fl:Nat} {H:a0c} {R:a0E} {v w:Value} {i j:Bool × List Nat}
theorem new2 {G:a0c} {z1 z2 r1 r2:Blk}:Ext G (Array.setIfInBounds (Array.setIfInBounds (Array.push (Array.push G z1) z2) G.size r1) (G.size + 1) r2) ∧
  a0c.blk (Array.setIfInBounds (Array.setIfInBounds (Array.push (Array.push G z1) z2) G.size r1) (G.size + 1) r2) G.size=r1 ∧
  a0c.blk (Array.setIfInBounds (Array.setIfInBounds (Array.push (Array.push G z1) z2) G.size r1) (G.size + 1) r2) (G.size + 1)=r2:=by
 refine ⟨(((Ext.refl G).push.push).set (by omega)).set (by omega),?_,?_⟩
 ·rw [a0L (by omega),a0r (by simp)]
 ·rw [a0r (by simp)]
theorem b0h (n:Nat):(a0n (n:Int))=(false,a0e n):=by unfold a0n;simp
theorem h0J (h:b0j H v i) (k:b0j H w j) (hf:fl≤H.size) (hn:i.2.length < 536870912) (hm:j.2.length < 536870912) :
  a0N env fl H0a [v,w] H (fun r H'=>b0j H' r (a0n (Int.gcd (a0p i) (a0p j)))∧Ext H H') R:=by
 have k0:=h
 have k1:=k
 obtain ⟨s,rfl,hs⟩:=h
 obtain ⟨u,rfl,hu⟩:=k
 refine a0d Q0l hf (h:=?_)
 intro ρ h0
 simp [M0K,C0N,h0]
 generalize hG:Array.push (Array.push (Array.push H _) _) _=G
 have hx:Ext H G:=by rw [← hG];exact (Ext.refl H).push.push.push
 have b0:a0c.blk G H.size=.row false a0a [.bool i.1,s]:=by rw [← hG];simp
 have b1:a0c.blk G (H.size + 1)=.row false a0a [.bool j.1,u]:=by rw [← hG];simp
 have b2:a0c.blk G (H.size + 2)=.row false a0a [.bool false,.slice none 0 0]:=by rw [← hG];simp
 have hz:H.size + 2 < G.size:=a0k b2
 clear hG
 replace k0:=k0.mono hx
 replace k1:=k1.mono hx
 have l1:=a0o k0.ok
 have l2:=a0o k1.ok
 refine a0Y ?_
 simp [C0O,h0,b0,b1]
 refine (b0p k0 (by omega) (by omega)).mono ?_
 rintro x G2 ⟨k2,hx2⟩
 replace b0:=hx2.blk b0;replace b1:=hx2.blk b1;replace b2:=hx2.blk b2;replace hx:=hx.trans hx2;replace k0:=k0.mono hx2;replace k1:=k1.mono hx2
 try simp [h0]
 refine (b0G (((a0p i).natAbs:Nat):Int) k2 (by have:=hx.1;omega) (by omega) (by simp [a0f])).mono ?_
 rintro x G2 ⟨k2,hx2⟩
 replace b0:=hx2.blk b0;replace b1:=hx2.blk b1;replace b2:=hx2.blk b2;replace hx:=hx.trans hx2;replace k0:=k0.mono hx2;replace k1:=k1.mono hx2
 try simp [h0,b1]
 refine (b0p k1 (by have:=hx.1;omega) (by omega)).mono ?_
 rintro y G2 ⟨k3,hx2⟩
 replace b0:=hx2.blk b0;replace b1:=hx2.blk b1;replace b2:=hx2.blk b2;replace hx:=hx.trans hx2;replace k0:=k0.mono hx2;replace k1:=k1.mono hx2;replace k2:=k2.mono hx2
 try simp [h0]
 refine (b0G (((a0p j).natAbs:Nat):Int) k3 (by have:=hx.1;omega) (by omega) (by simp [a0f])).mono ?_
 rintro y G2 ⟨k3,hx2⟩
 replace b0:=hx2.blk b0;replace b1:=hx2.blk b1;replace b2:=hx2.blk b2;replace hx:=hx.trans hx2;replace k0:=k0.mono hx2;replace k1:=k1.mono hx2;replace k2:=k2.mono hx2
 obtain ⟨s2,hxe,k2⟩:=k2
 obtain ⟨s3,hye,k3⟩:=k3
 have hsz:=hx.1
 have hsz1:H.size≤G2.size + 1:=by omega
 have hc0:=a0k b2
 simp [h0,hsz1,hxe,hye,k2.cells,k3.cells,k2.plain,k3.plain,hsz]
 rw [b0h] at k2 k3
 obtain ⟨hx2,b3,b4⟩:=new2 (G:=G2) (z1:=.row false a0a [.bool false,.slice none 0 0]) (z2:=.row false a0a [.bool false,.slice none 0 0]) (r1:=.row false a0a [.bool false,s2]) (r2:=.row false a0a [.bool false,s3])
 replace k2:=k2.mono hx2
 replace k3:=k3.mono hx2
 replace b2:=hx2.blk b2
 replace hx:=hx.trans hx2
 simp only [b0h]
 generalize Array.setIfInBounds _ _ _=G3 at *
 generalize hP:G2.size=P at *
 refine b0A (fun c t G=>∃ (a b:Nat) (s5 s6:Value),c=b∧t.length=30∧get t 4=.pointer (some ⟨H.size + 2,0,none⟩)∧get t 5=.pointer (some ⟨P,0,none⟩)∧get t 6=.pointer (some ⟨P + 1,0,none⟩) ∧
   Ext H G∧a0c.blk G (H.size + 2)=.row false a0a [.bool false,.slice none 0 0]∧a0c.blk G P=.row false a0a [.bool false,s5]∧a0c.blk G (P + 1)=.row false a0a [.bool false,s6]∧Lim G s5 (a0e a)∧Lim G s6 (a0e b) ∧
   (a0e a).length < 536870912∧(a0e b).length < 536870912∧Nat.gcd a b=Int.gcd (a0p i) (a0p j))
  (fun t G=>∃ (a:Nat) (s5:Value),t.length=30∧get t 4=.pointer (some ⟨H.size + 2,0,none⟩)∧get t 5=.pointer (some ⟨P,0,none⟩) ∧
   Ext H G∧a0c.blk G (H.size + 2)=.row false a0a [.bool false,.slice none 0 0]∧a0c.blk G P=.row false a0a [.bool false,s5]∧Lim G s5 (a0e a)∧a=Int.gcd (a0p i) (a0p j)) (a0p j).natAbs ?_ ?_ ?_
 ·exact ⟨(a0p i).natAbs,(a0p j).natAbs,s2,s3,rfl,by simp,by simp,by simp,by simp,hx,b2,b3,b4,k2,k3,by omega,by omega,rfl⟩
 ·clear h0 ρ k0 k1 k2 k3 b0 b1 b2 hx
  rintro c t G ⟨a,b,s5,s6,rfl,ht,g4,g5,g6,hx,b2,b3,b4,k5,k6,la,lb,hg⟩
  obtain ⟨ρ,rfl⟩:=toT ht
  simp only [b0o,Nat.reduceLT] at g4 g5 g6
  by_cases hb:c=0
  ·subst hb
   rw [a0C] at k6
   simp [v0r,g4,g5,g6,b2,b3,b4,k6.slen]
   rw [Nat.gcd_zero_right] at hg
   exact ⟨hx,by rw [← hg];exact k5⟩
  ·have hdl:0 < (a0e c).length:=List.length_pos_iff.2 (by rw [Ne,b0l];exact hb)
   have hdl':(0:Int) < ((a0e c).length:Int):=by omega
   have hnil:a0e c ≠ []:=by rw [Ne,b0l];exact hb
   simp [v0r,C0P,g4,g5,g6,b2,b3,b4,k6.slen,hdl,hdl',hnil]
   have k0:b0j G (.agg #[.bool false,s5]) (a0n (a:Int)):=⟨s5,by rw [b0h],by rw [b0h];exact k5⟩
   have k1:b0j G (.agg #[.bool false,s6]) (a0n (c:Int)):=⟨s6,by rw [b0h],by rw [b0h];exact k6⟩
   refine (c0W k0 k1 hx.1 (by rw [b0h];exact la) (by rw [b0h];exact lb) (by rw [a0s];omega)).mono ?_
   rintro _ G2 ⟨⟨q,m,rfl,k7,k8⟩,hx2⟩
   replace b2:=hx2.blk b2;replace b3:=hx2.blk b3;replace b4:=hx2.blk b4;replace hx:=hx.trans hx2;replace k0:=k0.mono hx2;replace k1:=k1.mono hx2;replace k5:=k5.mono hx2;replace k6:=k6.mono hx2
   rw [a0s,a0s] at k7 k8
   have hmod:((a:Int).tmod (c:Int))=((a % c:Nat):Int):=by rw [Int.tmod_eq_emod_of_nonneg (by omega)];rfl
   rw [hmod,b0h] at k8
   obtain ⟨s7,rfl,k7⟩:=k7
   obtain ⟨s8,rfl,k8⟩:=k8
   have hsz:=hx.1
   have hsz1:H.size≤G2.size + 1:=by omega
   have hc1:=a0k b4
   simp [g4,g5,g6,b3,b4,k7.cells,k8.cells,k7.plain,k8.plain,hsz,hsz1]
   obtain ⟨hx2,b5,b6⟩:=new2 (G:=G2) (z1:=.row false a0a [.bool false,.slice none 0 0]) (z2:=.row false a0a [.bool false,.slice none 0 0]) (r1:=.row false a0a [.bool (a0n (↑a / ↑c)).1,s7]) (r2:=.row false a0a [.bool false,s8])
   replace b2:=hx2.blk b2;replace b3:=hx2.blk b3;replace b4:=hx2.blk b4;replace hx:=hx.trans hx2;replace k0:=k0.mono hx2;replace k1:=k1.mono hx2;replace k5:=k5.mono hx2;replace k6:=k6.mono hx2;replace k8:=k8.mono hx2
   generalize Array.setIfInBounds (Array.setIfInBounds _ _ _) _ _=G3 at *
   have hl1:=a0k b3
   have hl2:=a0k b4
   have hHP:H.size≤P:=by omega
   have hHP1:H.size≤P + 1:=by omega
   have hne:P + 1 ≠ P:=by omega
   have hne2:P ≠ G2.size + 1:=by omega
   have hne3:G2.size + 1 ≠ P:=by omega
   refine q0n ?_
   simp [C0Q,g4,g5,g6,b4,b6,b3,k6.cells,k8.cells,k6.plain,k8.plain,hHP,hHP1,hne,hne2,hne3]
   have hmc:a % c < c:=R0V _ (by omega)
   refine ⟨a % c,hmc,(hx.set hHP).set hHP1,by rw [a0L (by omega),a0L (by omega)];exact b2,c,s6,by rw [a0r hl1],s8,by rw [a0r (by simpa using hl2)],?_,?_,lb,T0d (b0g (T0g hmc)) lb,by rw [Nat.gcd_comm,← Nat.gcd_rec,Nat.gcd_comm,hg]⟩
   ·exact (k6.setT b3 (by decide)).setT (by rw [a0L (by omega)];exact b4) (by decide)
   ·exact (k8.setT b3 (by decide)).setT (by rw [a0L (by omega)];exact b4) (by decide)
 ·clear h0 ρ k0 k1 k2 k3 b0 b1 b2 hx
  rintro t G ⟨a,s5,ht,g4,g5,hx,b2,b3,k5,hg⟩
  obtain ⟨ρ,rfl⟩:=toT ht
  simp only [b0o,Nat.reduceLT] at g4 g5
  have hl1:=a0k b2
  have hl2:=a0k b3
  subst hg
  simp [C0R,g4,g5,b2,b3,k5.cells,k5.plain,hl1]
  exact fun _=>⟨s5,rfl,k5.setT b2 (by decide)⟩
end
section
open Go
def q0g (E:Env) (fl fl':Nat) (f:FuncId) (args:List Value) (H:a0c) (d:Option Nat) (r:List a0w) (t:a0Q) (Z:a0Q→a0c→Prop) (R:a0E):Prop :=
 a0N E fl' f args H (fun v H'=>WR E fl r (put t d v) H' Z R) R
@[simp ↓ high] theorem L0m {E:Env} {fl:Nat} {t:a0Q} {H:a0c} {R:a0E} {d:Option Nat} {r:List a0w} {Z:a0Q→a0c→Prop} {f:FuncId} {az:List Opd} {lone:Bool} :
  WS E fl t H (.call f az lone) (fun v H'=>WR E fl r (put t d v) H' Z R) R=q0g E fl (if lone then fl else max fl H.size) f (az.map (ev t)) H d r t Z R:=nr rfl
def q0f (E:Env) (fl fl':Nat) (x:Value) (args:List Value) (H:a0c) (d:Option Nat) (r:List a0w) (t:a0Q) (Z:a0Q→a0c→Prop) (R:a0E):Prop :=
 match x with
 | .func (.func f) p q=>q0g E fl fl' f (p.toList ++ args ++ q.toList) H d r t Z R
 | _=>False
@[simp ↓ high] theorem H0s {E:Env} {fl:Nat} {t:a0Q} {H:a0c} {R:a0E} {d:Option Nat} {r:List a0w} {Z:a0Q→a0c→Prop} {x:Opd} {az:List Opd} {lone:Bool} :
  WS E fl t H (.callv x az lone) (fun v H'=>WR E fl r (put t d v) H' Z R) R=q0f E fl (if lone then fl else max fl H.size) (ev t x) (az.map (ev t)) H d r t Z R:=by
 simp only [WS,opA,q0f];generalize ev t x=y
 cases y <;> try rfl
 rename_i g _ _;cases g <;> rfl
@[simp] theorem H0o {E:Env} {fl fl':Nat} {t:a0Q} {H:a0c} {R:a0E} {d:Option Nat} {r:List a0w} {Z:a0Q→a0c→Prop} {f:FuncId} {p q:Array Value} {az:List Value} :
  q0f E fl fl' (.func (.func f) p q) az H d r t Z R=q0g E fl fl' f (p.toList ++ az ++ q.toList) H d r t Z R:=nr rfl
theorem m0t {E:Env} {fl fl' fl2:Nat} {t t':a0Q} {H:a0c} {R:a0E} {d:Option Nat} {r:List a0w} {Z:a0Q→a0c→Prop} {f:FuncId} {az az':List Value} (h:az=az') (ht:t=t') (hf:fl' = fl2) :
  q0g E fl fl' f az H d r t Z R=q0g E fl fl2 f az' H d r t' Z R:=by rw [h,ht,hf]
attribute [congr] m0t
section
variable {E:Env} {fl:Nat} {t:a0Q} {H:a0c} {Z:a0Q→a0c→Log→Prop} {lg:Log} {d:Option Nat} {r:List a0w}
def N0k (E:Env) (fl fl':Nat) (f:FuncId) (args:List Value) (H:a0c) (d:Option Nat) (r:List a0w) (t:a0Q) (lg:Log) (Z:a0Q→a0c→Log→Prop):Prop :=
 a0N E fl' f args H (fun v H'=>WRL E fl r (put t d v) H' lg Z) (fun _=>False)
@[simp ↓ high] theorem L0n {f:FuncId} {az:List Opd} {lone:Bool} :
  WS E fl t H (.call f az lone) (fun v H'=>WRL E fl r (put t d v) H' lg Z) (fun _=>False)=N0k E fl (if lone then fl else max fl H.size) f (az.map (ev t)) H d r t lg Z:=nr rfl
end
section
variable {H G G3:a0c} {q p:Nat} {X r0:Blk} {ro:Bool} {e:TypeId} {cs:List Value}
theorem a0q (hS:Array.setIfInBounds G q X=G3) (hb:a0c.blk G p=r0) (h:q ≠ p):a0c.blk G3 p=r0:=by rw [← hS,a0L h];exact hb
theorem a0K (hS:Array.setIfInBounds G q X=G3) (hb:a0c.blk G q=.row ro e cs):a0c.blk G3 q=X:=by rw [← hS,a0r (a0k hb)]
theorem a0R (hS:Array.setIfInBounds G q X=G3) (hx:Ext H G) (h:H.size≤q):Ext H G3:=by rw [← hS];exact hx.set h
theorem Lim.setS {v:Value} {l:List Nat} (k:Lim G v l) (hS:Array.setIfInBounds G q X=G3) (hb:a0c.blk G q=.row ro e cs) (hne:e ≠ a0b):Lim G3 v l:=by rw [← hS];exact k.setT hb hne
theorem b0j.setS {v:Value} {i:Bool × List Nat} (k:b0j G v i) (hS:Array.setIfInBounds G q X=G3) (hb:a0c.blk G q=.row ro e cs) (hne:e ≠ a0b):b0j G3 v i:=by rw [← hS];exact k.setT hb hne
theorem new1 {z r:Blk} (hN:Array.setIfInBounds (Array.push G z) G.size r=G3):Ext G G3∧a0c.blk G3 G.size=r:=by
 rw [← hN];exact ⟨((Ext.refl G).push).set (by omega),by rw [a0r (by simp)]⟩
theorem e0L {z:Blk} (hN:Array.push G z=G3):Ext G G3∧a0c.blk G3 G.size=z:=by
 rw [← hN];exact ⟨(Ext.refl G).push,a0u⟩
end
def lz (z:Int):Nat:=(a0e z.natAbs).length
theorem w0M {z:Int} {k:Nat} (h:z.natAbs < 4294967296 ^ k):lz z≤k:=d0k h
theorem w0L (z:Int):z.natAbs < 4294967296 ^ lz z:=d0q _
theorem i0J (x y:Int):lz (x * y)≤lz x + lz y:=by
 refine w0M ?_
 rw [Int.natAbs_mul,S0C]
 exact Nat.mul_lt_mul'' (w0L x) (w0L y)
theorem I0Z (x y:Int):lz (x + y)≤max (lz x) (lz y) + 1:=by
 refine w0M ?_
 have h1:=w0L x
 have h2:=w0L y
 have h3:(4294967296:Nat) ^ lz x≤4294967296 ^ max (lz x) (lz y):=S0q (by omega) (by omega)
 have h4:(4294967296:Nat) ^ lz y≤4294967296 ^ max (lz x) (lz y):=S0q (by omega) (by omega)
 have:=Int.natAbs_add_le x y
 rw [R0m]
 omega
theorem J0a (x:Int):lz (-x)=lz x:=by unfold lz;rw [Int.natAbs_neg]
theorem q0Y:lz 1=1:=by unfold lz;rw [c0F (by decide),show (1:Int).natAbs / 4294967296=0 from rfl,a0C];rfl
theorem F0M:lz 0=0:=by unfold lz;rw [show (0:Int).natAbs=0 from rfl,a0C];rfl
theorem a0t (z:Int):(a0n z).2.length=lz z:=rfl
theorem y0b {i:Bool × List Nat} (h:a0U i.2):lz (a0p i)≤i.2.length:=a0o h
end
section
open Go
set_option maxHeartbeats 4000000
variable {fl:Nat} {H:a0c} {R:a0E} {v w:Value} {i j:Bool × List Nat}
abbrev b0B:=(Bool × List Nat) × (Bool × List Nat)
def c0K (H:a0c) (v:Value) (a:b0B):Prop:=∃ s u,v=.agg #[.bool a.1.1,s,.bool a.2.1,u]∧Lim H s a.1.2∧Lim H u a.2.2
variable {a b:b0B}
theorem c0K.mono {G:a0c} (h:c0K H v a) (hx:Ext H G):c0K G v a:=by obtain ⟨s,u,h1,h2,h3⟩:=h;exact ⟨s,u,h1,h2.mono hx,h3.mono hx⟩
theorem c0K.setT (h:c0K H v a) {p:Nat} {ro:Bool} {e':TypeId} {cs':List Value} {r:Blk} (hb:H.blk p=.row ro e' cs') (hne:e' ≠ a0b):c0K (H.setIfInBounds p r) v a:=by
 obtain ⟨s,u,h1,h2,h3⟩:=h;exact ⟨s,u,h1,h2.setT hb hne,h3.setT hb hne⟩
theorem c0K.setS {G3:a0c} {q:Nat} {X:Blk} {ro:Bool} {e:TypeId} {cs:List Value} (k:c0K H v a) (hS:Array.setIfInBounds H q X=G3) (hb:a0c.blk H q=.row ro e cs) (hne:e ≠ a0b):c0K G3 v a:=by rw [← hS];exact k.setT hb hne
def e0g (a:b0B):Nat:=max a.1.2.length a.2.2.length
def c0B (a:b0B):Bool:=!a.1.1 && a.1.2.length == 0 && !a.2.1 && a.2.2.length == 0
def i0K (a:b0B):Bool:=c0B a || (c0V a.1 && c0V a.2 && !a.2.1 && a0p a.2 != 0 && Int.gcd (a0p a.1) (a0p a.2) == 1)
def d0X (a:b0B):Rat:=if c0B a then 0 else if i0K a then Rat.divInt (a0p a.1) (a0p a.2) else 0
def a0G (x:Rat):b0B:=(a0n x.num,a0n x.den)
theorem h0y (hz:c0B a=false) (hm:i0K a=true):a0G (d0X a)=(a0n (a0p a.1),a0n (a0p a.2)):=by
 unfold d0X
 rw [hz,hm]
 unfold i0K at hm
 rw [hz,S0R] at hm
 simp only [R0f,S0E,bne_iff_ne,ne_eq,beq_iff_eq] at hm
 obtain ⟨⟨⟨⟨h1,h2⟩,h3⟩,h4⟩,h5⟩:=hm
 have hq:0 < a0p a.2:=by
  unfold a0p at h4 ⊢;rw [h2,h3] at h4 ⊢;simp at h4 ⊢;omega
 have hd:((a0p a.2).toNat:Int)=a0p a.2:=S0J (by omega)
 have h6:Rat.divInt (a0p a.1) (a0p a.2) = ⟨a0p a.1,(a0p a.2).toNat,by omega,by rw [Nat.Coprime,← h5,Int.gcd];congr 1;omega⟩:=by
  rw [Rat.mk_eq_divInt,hd]
 simp only [R0p,R0K,R0T]
 rw [h6];unfold a0G;simp only [hd]
theorem i0u:a0G 0=((false,[]),a0n 1):=by
 show (a0n 0,a0n 1)=_;rw [h0e]
theorem j0p (x:Rat):c0B (a0G x)=false:=by
 have:=x.den_nz
 unfold c0B a0G
 have h:a0e (x.den:Int).natAbs ≠ []:=by rw [Ne,b0l];omega
 have h2:(a0e x.den).length ≠ 0:=by intro h3;exact h (R0x.1 h3)
 simp [a0n];intro _ _;simpa using h2
theorem j0W (x:Rat):i0K (a0G x)=true:=by
 have h1:=x.den_nz
 have h2:=x.reduced
 unfold i0K
 rw [j0p,S0R]
 unfold a0G
 simp only [l0N,a0s,R0f,S0E,bne_iff_ne,beq_iff_eq]
 refine ⟨⟨⟨⟨trivial,trivial⟩,by simp [a0n]⟩,by omega⟩,?_⟩
 rw [Int.gcd,Int.natAbs_natCast];exact h2
theorem p0W (x:Rat):d0X (a0G x)=x:=by
 unfold d0X
 rw [j0p,j0W]
 simp only [R0p,R0K,R0T]
 unfold a0G
 rw [a0s,a0s,Rat.num_divInt_den]
theorem g0S (h:c0K H v a) (hf:fl≤H.size):a0N env fl G0Y [v] H (fun r H'=>r=.bool (c0B a)∧Ext H H') R:=by
 obtain ⟨s,u,rfl,hs,hu⟩:=h
 refine a0d Q0j hf (h:=?_)
 intro ρ h0
 simp [M0I,C0K,h0]
 have hsl:=hs.slen
 have hul:=hu.slen
 cases h1:a.1.1
 ·by_cases h2:a.1.2=[]
  ·cases h3:a.2.1
   ·simp [m0f,h0,h1,h2,h3,hsl,hul,c0B]
   ·simp [m0f,h0,h1,h2,h3,hsl,hul,c0B]
  ·simp [m0f,h0,h1,h2,hsl,hul,c0B]
 ·simp [m0f,h0,h1,hsl,hul,c0B]
theorem g0R (h:b0j H v i) (hf:fl≤H.size) (hn:i.2.length < 536870912):a0N env fl G0Z [v] H (fun r H'=>r=.bool (a0p i == 0)∧Ext H H') R:=by
 have k0:=h
 obtain ⟨s,rfl,hs⟩:=h
 refine a0d Q0k hf (h:=?_)
 intro ρ h0
 simp [M0J,C0L,C0M,h0]
 refine (d0B (k0.mono (by simp)) (j:=(false,[])) ⟨_,rfl,Lim.nil⟩ (by simp) hn (by simp)).mono ?_
 rintro _ G2 ⟨rfl,hx2⟩
 have:a0p (false,[])=0:=by unfold a0p c0V;simp [a0l]
 rw [this]
 simp [e0C]
 intro _
 by_cases h1:a0p i < 0
 ·simp [h1];omega
 ·by_cases h2:0 < a0p i
  ·simp [h1,h2];omega
  ·simp [h1,h2];omega
theorem f0g (hf:fl≤H.size):a0N env fl H0b [] H (fun r H'=>b0j H' r (a0n 1)∧Ext H H') R:=by
 refine a0d Q0m hf (h:=?_)
 intro ρ h0
 simp [M0L,C0S,C0T,h0]
 refine (m0H (by simp) (by omega) (by omega)).mono ?_
 rintro _ G2 ⟨⟨s,rfl,hs⟩,hx2⟩
 have b0:=hx2.blk a0u
 have hz:=a0k b0
 simp [b0,hs.cells,hs.plain,hz]
 exact fun _=>⟨s,rfl,hs.setT b0 (by decide)⟩
theorem f0f (h:c0K H v a) (hf:fl≤H.size) (hn:e0g a < 536870912):a0N env fl F0D [v] H (fun r H'=>r=.bool (i0K a)∧Ext H H') R:=by
 have k0:=h
 have hn1:a.1.2.length < 536870912:=by unfold e0g at hn;omega
 have hn2:a.2.2.length < 536870912:=by unfold e0g at hn;omega
 obtain ⟨s,u,rfl,hs,hu⟩:=h
 have k1:b0j H (.agg #[.bool a.1.1,s]) a.1:=⟨s,rfl,hs⟩
 have k2:b0j H (.agg #[.bool a.2.1,u]) a.2:=⟨u,rfl,hu⟩
 refine a0d P0M hf (h:=?_)
 intro ρ h0
 simp [M0m,B0d,h0]
 generalize hG:Array.push H _=G
 have hx2:Ext H G:=by rw [← hG];simp
 have b0:a0c.blk G H.size=.row false a0h [.bool a.1.1,s,.bool a.2.1,u]:=by rw [← hG];simp
 have hx:=Ext.refl H
 clear hG
 replace hx:=hx.trans hx2;replace k0:=k0.mono hx2;replace k1:=k1.mono hx2;replace k2:=k2.mono hx2
 simp [B0e,h0,b0]
 refine (g0S k0 hx.1).mono ?_
 rintro _ G2 ⟨rfl,hx2⟩
 replace b0:=hx2.blk b0;replace hx:=hx.trans hx2;replace k1:=k1.mono hx2;replace k2:=k2.mono hx2
 unfold i0K
 cases hz:c0B a
 case true=>simp [B0f]
 simp [B0g,h0,b0]
 refine (c0v k1 hx.1 (by omega)).mono ?_
 rintro _ G2 ⟨rfl,hx2⟩
 replace b0:=hx2.blk b0;replace hx:=hx.trans hx2;replace k1:=k1.mono hx2;replace k2:=k2.mono hx2
 cases h1:c0V a.1
 case false=>simp
 simp [h0,b0]
 refine (c0v k2 hx.1 (by omega)).mono ?_
 rintro _ G2 ⟨rfl,hx2⟩
 replace b0:=hx2.blk b0;replace hx:=hx.trans hx2;replace k1:=k1.mono hx2;replace k2:=k2.mono hx2
 cases h2:c0V a.2
 case false=>simp
 cases h3:a.2.1
 case true=>simp [h0,b0,h3]
 simp [h0,b0,h3]
 rw [← h3]
 refine (g0R k2 hx.1 hn2).mono ?_
 rintro _ G2 ⟨rfl,hx2⟩
 replace b0:=hx2.blk b0;replace hx:=hx.trans hx2;replace k1:=k1.mono hx2;replace k2:=k2.mono hx2
 by_cases h4:a0p a.2=0
 ·simp [h4] <;> exact fun _=>h3
 have h4':(a0p a.2 == 0)=false:=by simp [h4]
 simp [h0,b0,h4,h4',h3]
 rw [← h3]
 refine (h0J k1 k2 hx.1 hn1 hn2).mono ?_
 rintro x G2 ⟨k3,hx2⟩
 replace hx:=hx.trans hx2;replace k2:=k2.mono hx2
 try simp [h0]
 refine (f0g hx.1).mono ?_
 rintro y G2 ⟨k4,hx2⟩
 replace hx:=hx.trans hx2;replace k2:=k2.mono hx2;replace k3:=k3.mono hx2
 try simp [h0]
 have hgl:(a0n ((Int.gcd (a0p a.1) (a0p a.2):Nat):Int)).2.length < 536870912:=by
  rw [b0h]
  show (a0e _).length < _
  have h5:Int.gcd (a0p a.1) (a0p a.2)≤(a0p a.2).natAbs:=Int.gcd_le_natAbs_right _ h4
  have:=b0g h5
  have:=a0o k2.ok
  omega
 refine (d0B k3 k4 hx.1 hgl (by rw [a0t,q0Y];decide)).mono ?_
 rintro _ G2 ⟨rfl,hx2⟩
 rw [a0s,a0s]
 simp
 intro _
 generalize Int.gcd (a0p a.1) (a0p a.2)=g
 have h6:(e0C (g:Int) 1 == 0)=(g == 1):=by
  unfold e0C
  by_cases hg:g=1
  ·subst hg;rfl
  ·have e:(g == 1)=false:=by simp [hg]
   rw [e];split
   ·rfl
   ·rename_i h7;split
    ·rfl
    ·omega
 simp [h3,h4,h6]
theorem c0P (h:c0K H v a) (hf:fl≤H.size) (hn:e0g a < 536870912):a0N env fl x0U [v] H (fun r H'=>c0K H' r (a0G (d0X a))∧Ext H H') R:=by
 have k0:=h
 have hn1:a.1.2.length < 536870912:=by unfold e0g at hn;omega
 have hn2:a.2.2.length < 536870912:=by unfold e0g at hn;omega
 obtain ⟨s,u,rfl,hs,hu⟩:=h
 have k1:b0j H (.agg #[.bool a.1.1,s]) a.1:=⟨s,rfl,hs⟩
 have k2:b0j H (.agg #[.bool a.2.1,u]) a.2:=⟨u,rfl,hu⟩
 refine a0d P0W hf (h:=?_)
 intro ρ h0
 simp [M0w,B0Q,h0]
 generalize hG:Array.push (Array.push H _) _=G
 have hx2:Ext H G:=by rw [← hG];simp
 have b0:a0c.blk G H.size=.row false a0h [.bool a.1.1,s,.bool a.2.1,u]:=by rw [← hG];simp
 have b1:a0c.blk G (H.size + 1)=.row false a0h [.bool false,.slice none 0 0,.bool false,.slice none 0 0]:=by rw [← hG];simp
 have hx:=Ext.refl H
 clear hG
 replace hx:=hx.trans hx2;replace k0:=k0.mono hx2;replace k1:=k1.mono hx2;replace k2:=k2.mono hx2
 simp [B0R,h0,b0]
 refine (g0S k0 hx.1).mono ?_
 rintro _ G2 ⟨rfl,hx2⟩
 replace b0:=hx2.blk b0;replace b1:=hx2.blk b1;replace hx:=hx.trans hx2;replace k0:=k0.mono hx2;replace k1:=k1.mono hx2;replace k2:=k2.mono hx2
 cases hz0:c0B a
 case true =>
  have hval:d0X a=0:=by unfold d0X;rw [hz0];rfl
  simp [u0Z,h0]
  refine (f0g hx.1).mono ?_
  rintro _ G2 ⟨⟨s1,rfl,hs1⟩,hx2⟩
  replace b0:=hx2.blk b0;replace b1:=hx2.blk b1;replace hx:=hx.trans hx2;replace k0:=k0.mono hx2;replace k1:=k1.mono hx2;replace k2:=k2.mono hx2
  have hz:=a0k b1
  simp [h0,b1,hs1.cells,hs1.plain,hz]
  refine fun _=>?_
  rw [hval,i0u]
  exact ⟨_,s1,rfl,Lim.nil,hs1.setT b1 (by decide)⟩
 simp [h0,b0]
 refine (f0f k0 hx.1 hn).mono ?_
 rintro _ G2 ⟨rfl,hx2⟩
 replace b0:=hx2.blk b0;replace b1:=hx2.blk b1;replace hx:=hx.trans hx2;replace k1:=k1.mono hx2;replace k2:=k2.mono hx2
 cases hm:i0K a
 case false =>
  have hval:d0X a=0:=by unfold d0X;rw [hz0,hm];rfl
  simp [u0Z,h0]
  refine (f0g hx.1).mono ?_
  rintro _ G2 ⟨⟨s1,rfl,hs1⟩,hx2⟩
  replace b0:=hx2.blk b0;replace b1:=hx2.blk b1;replace hx:=hx.trans hx2;replace k1:=k1.mono hx2;replace k2:=k2.mono hx2
  have hz:=a0k b1
  simp [h0,b1,hs1.cells,hs1.plain,hz]
  refine fun _=>?_
  rw [hval,i0u]
  exact ⟨_,s1,rfl,Lim.nil,hs1.setT b1 (by decide)⟩
 rw [h0y hz0 hm]
 simp [h0]
 refine a0Y ?_
 simp [B0S,h0,b0]
 have hv0:a0p (false,[])=0:=by unfold a0p c0V;simp [a0l]
 refine (e0T k1 (j:=(false,[])) ⟨_,rfl,Lim.nil⟩ (by have:=hx.1;omega) hn1 (by simp)).mono ?_
 rintro _ G2 ⟨⟨s1,rfl,k3⟩,hx2⟩
 replace b0:=hx2.blk b0;replace b1:=hx2.blk b1;replace hx:=hx.trans hx2;replace k2:=k2.mono hx2
 rw [hv0,Int.add_zero] at k3 ⊢
 try simp [h0,b0]
 refine (e0T k2 (j:=(false,[])) ⟨_,rfl,Lim.nil⟩ hx.1 hn2 (by simp)).mono ?_
 rintro _ G2 ⟨⟨s2,rfl,k4⟩,hx2⟩
 replace b1:=hx2.blk b1;replace hx:=hx.trans hx2;replace k3:=k3.mono hx2
 rw [hv0,Int.add_zero] at k4 ⊢
 have hz:=a0k b1
 simp [h0,b1,k3.cells,k3.plain,k4.cells,k4.plain,hz]
 exact fun _=>⟨s1,s2,rfl,k3.setT b1 (by decide),k4.setT b1 (by decide)⟩
end
section
open Go
def szR (x:Rat):Nat:=max (lz x.num) (lz x.den)
theorem h0g (x:Rat):e0g (a0G x)=szR x:=rfl
theorem l0o:szR 0=1:=by show max (lz 0) (lz 1)=1;rw [F0M,q0Y];rfl
theorem v0P (z:Int):szR (z:Rat)=max (lz z) 1:=by
 unfold szR;rw [Rat.num_intCast,Rat.den_intCast];show max (lz z) (lz 1)=_;rw [q0Y]
theorem l0P (n:Int) (d:Nat):mkRat n d=Rat.divInt n d:=rfl
theorem p0m (x y:Rat):x + y=Rat.divInt (x.num * y.den + y.num * x.den) (x.den * y.den):=by rw [Rat.add_def',l0P,S0F]
theorem g0m {a:b0B} (h1:a0U a.1.2) (h2:a0U a.2.2):szR (d0X a)≤max (e0g a) 1:=by
 by_cases hz:c0B a=true
 ·have:d0X a=0:=by unfold d0X;rw [hz];rfl
  rw [this,l0o];omega
 ·by_cases hm:i0K a=true
  ·have h3:=h0y (by simpa using hz) hm
   have h4:=h0g (d0X a)
   rw [h3] at h4
   rw [← h4]
   have:=y0b h1
   have:=y0b h2
   unfold e0g;simp only [a0t];omega
  ·have:d0X a=0:=by unfold d0X;simp [hz,hm]
   rw [this,l0o];omega
theorem r0D {p q g:Int} (hq:q ≠ 0) (hg:g=if q < 0 then -(Int.gcd p q:Int) else (Int.gcd p q:Int)):a0G (Rat.divInt p q)=(a0n (p.tdiv g),a0n (q.tdiv g))∧g ≠ 0:=by
 have hgp:0 < Int.gcd p q:=Int.gcd_pos_of_ne_zero_right _ hq
 have hg0:g ≠ 0:=by rw [hg];split <;> omega
 refine ⟨?_,hg0⟩
 have hdp : g ∣ p := by rw [hg]; split
                        ·exact Int.neg_dvd.2 (Int.gcd_dvd_left ..)
                        ·exact Int.gcd_dvd_left ..
 have hdq : g ∣ q := by rw [hg]; split
                        ·exact Int.neg_dvd.2 (Int.gcd_dvd_right ..)
                        ·exact Int.gcd_dvd_right ..
 have hna:g.natAbs=Int.gcd p q:=by rw [hg];split <;> simp
 have e1:=Int.tdiv_mul_cancel hdp
 have e2:=Int.tdiv_mul_cancel hdq
 have hcop:Int.gcd (p.tdiv g) (q.tdiv g)=1:=by
  have h1:Int.gcd (p.tdiv g * g) (q.tdiv g * g)=Int.gcd (p.tdiv g) (q.tdiv g) * g.natAbs:=Int.gcd_mul_right ..
  rw [e1,e2,hna] at h1
  have h2:1 * Int.gcd p q=Int.gcd (p.tdiv g) (q.tdiv g) * Int.gcd p q:=by rw [R0S];exact h1
  exact (Nat.eq_of_mul_eq_mul_right hgp h2).symm
 have hpos:0 < q.tdiv g:=by
  by_cases hq0:q < 0
  ·have:g < 0:=by rw [hg,R0k hq0];omega
   by_cases h:0 < q.tdiv g
   ·exact h
   ·have:=Int.mul_nonneg_of_nonpos_of_nonpos (a:=q.tdiv g) (b:=g) (by omega) (by omega);omega
  ·have:0 < g:=by rw [hg,R0c hq0];omega
   by_cases h:0 < q.tdiv g
   ·exact h
   ·have:=S0w (a:=q.tdiv g) (b:=g) (by omega) (by omega);omega
 have h3:Rat.divInt p q=Rat.divInt (p.tdiv g) (q.tdiv g):=by
  have h:=Rat.divInt_mul_right (n:=p.tdiv g) (d:=q.tdiv g) hg0
  rw [e1,e2] at h;exact h
 generalize p.tdiv g=x at *
 generalize q.tdiv g=y at *
 have hd:((y.toNat:Nat):Int)=y:=S0J (by omega)
 have h6:Rat.divInt x y = ⟨x,y.toNat,by omega,by rw [Nat.Coprime,← hcop,Int.gcd];congr 1;omega⟩:=by
  rw [Rat.mk_eq_divInt,hd]
 rw [h3,h6];unfold a0G;simp only [hd]
def v0W (x y:Rat):Int:=if x < y then -1 else if y < x then 1 else 0
theorem q0s (x y:Rat):e0C (x.num * y.den) (y.num * x.den)=v0W x y:=by
 unfold e0C v0W
 simp only [Rat.lt_iff,gt_iff_lt]
end
section
open Go
set_option maxHeartbeats 4000000
variable {fl:Nat} {H:a0c} {R:a0E} {v w:Value} {i j:Bool × List Nat} {a b:b0B}
theorem b0j.cells {i:Bool × List Nat} (h:b0j H v i):(a0M v).length=2∧(a0M v).all a0B=true:=by
 obtain ⟨s,rfl,hs⟩:=h;simp [hs.plain]
theorem m0k (h:b0j H v i) (k:b0j H w j) (hf:fl≤H.size) (hn:i.2.length < 536870912) (hm:j.2.length < 536870912) (hj0:a0p j ≠ 0) :
  a0N env fl q0w [v,w] H (fun r H'=>(∃ q,r=.tuple #[q,.int .i64 0]∧c0K H' q (a0G (Rat.divInt (a0p i) (a0p j))))∧Ext H H') R:=by
 have k0:=h
 have k1:=k
 obtain ⟨s,rfl,hs⟩:=h
 obtain ⟨u,rfl,hu⟩:=k
 refine a0d O0d hf (h:=?_)
 intro ρ h0
 simp [x0f,r0Q,h0]
 generalize hG:Array.push (Array.push (Array.push H _) _) _=G
 have hx:Ext H G:=by rw [← hG];exact (Ext.refl H).push.push.push
 have b0:a0c.blk G H.size=.row false a0a [.bool i.1,s]:=by rw [← hG];simp
 have b1:a0c.blk G (H.size + 1)=.row false a0a [.bool j.1,u]:=by rw [← hG];simp
 have b2:a0c.blk G (H.size + 2)=.row false a0h [.bool false,.slice none 0 0,.bool false,.slice none 0 0]:=by rw [← hG];simp
 clear hG
 replace k0:=k0.mono hx
 replace k1:=k1.mono hx
 have l1:=a0o k0.ok
 have l2:=a0o k1.ok
 simp [r0R,h0,b1]
 refine (g0R k1 hx.1 hm).mono ?_
 rintro _ G2 ⟨rfl,hx2⟩
 replace b0:=hx2.blk b0;replace b1:=hx2.blk b1;replace b2:=hx2.blk b2;replace hx:=hx.trans hx2;replace k0:=k0.mono hx2;replace k1:=k1.mono hx2
 have hj0':(a0p j == 0)=false:=by simp [hj0]
 simp [hj0',hj0,r0S,h0,b0,b1]
 refine (h0J k0 k1 hx.1 hn hm).mono ?_
 rintro x G2 ⟨⟨s1,rfl,k2⟩,hx2⟩
 replace b0:=hx2.blk b0;replace b1:=hx2.blk b1;replace b2:=hx2.blk b2;replace hx:=hx.trans hx2;replace k0:=k0.mono hx2;replace k1:=k1.mono hx2
 have hsz:=hx.1
 simp [h0,k2.cells,k2.plain,hsz]
 generalize hN:Array.setIfInBounds (Array.push _ _) _ _=G3
 obtain ⟨hx2,b3⟩:=new1 hN
 have hb2l:=a0k b2
 replace b0:=hx2.blk b0;replace b1:=hx2.blk b1;replace b2:=hx2.blk b2;replace hx:=hx.trans hx2;replace k0:=k0.mono hx2;replace k1:=k1.mono hx2;replace k2:=k2.mono hx2
 clear hN
 obtain ⟨P,hP⟩:∃ P,P=G2.size:=⟨_,rfl⟩
 rw [← hP] at b3 hsz hb2l ⊢
 have hgl:lz (Int.gcd (a0p i) (a0p j):Int) < 536870912:=by
  have h5:Int.gcd (a0p i) (a0p j)≤(a0p j).natAbs:=Int.gcd_le_natAbs_right _ hj0
  have:lz (Int.gcd (a0p i) (a0p j):Int)≤(a0e (a0p j).natAbs).length:=b0g (by simpa using h5)
  omega
 simp [r0T,h0,b1]
 refine (d0B k1 (j:=(false,[])) ⟨_,rfl,Lim.nil⟩ hx.1 hm (by simp)).mono ?_
 rintro _ G2 ⟨rfl,hx2⟩
 replace b0:=hx2.blk b0;replace b1:=hx2.blk b1;replace b2:=hx2.blk b2;replace b3:=hx2.blk b3;replace hx:=hx.trans hx2;replace k0:=k0.mono hx2;replace k1:=k1.mono hx2;replace k2:=k2.mono hx2
 have hv0:a0p (false,[])=0:=by unfold a0p c0V;simp [a0l]
 rw [hv0]
 obtain ⟨g,hg⟩:∃ g,g=if a0p j < 0 then -(Int.gcd (a0p i) (a0p j):Int) else (Int.gcd (a0p i) (a0p j):Int):=⟨_,rfl⟩
 obtain ⟨hq,hg0⟩:=r0D (p:=a0p i) hj0 hg
 rw [hq]
 have hgl2:lz g < 536870912:=by rw [hg];split;rw [J0a];exact hgl;exact hgl
 by_cases hneg:a0p j < 0
 ·have hcz:e0C (a0p j) 0 < 0:=by unfold e0C;rw [R0k hneg];omega
  simp [hcz,r0U,h0,b3]
  refine (l0S (i:=a0n (Int.gcd (a0p i) (a0p j))) ⟨s1,rfl,k2⟩ hx.1 (by rw [a0t];omega)).mono ?_
  rintro _ G2 ⟨⟨s2,rfl,k6⟩,hx2⟩
  replace b0:=hx2.blk b0;replace b1:=hx2.blk b1;replace b2:=hx2.blk b2;replace b3:=hx2.blk b3;replace hx:=hx.trans hx2;replace k0:=k0.mono hx2;replace k1:=k1.mono hx2;replace k2:=k2.mono hx2
  rw [a0s] at k6 ⊢
  rw [R0k hneg] at hg
  rw [← hg] at k6 ⊢
  have hz:=a0k b3
  simp [h0,b3,k6.cells,k6.plain,hsz]
  generalize hS:Array.setIfInBounds _ _ _=G3
  have hsz:=hx.1;replace k0:=k0.setS hS b3 (by decide);replace k1:=k1.setS hS b3 (by decide);replace k2:=k2.setS hS b3 (by decide);replace k6:=k6.setS hS b3 (by decide);replace b0:=a0q hS b0 (by omega);replace b1:=a0q hS b1 (by omega);replace b2:=a0q hS b2 (by omega);replace hx:=a0R hS hx (by omega);replace b3:=a0K hS b3;clear hS hsz
  clear k2
  have k2:=k6
  clear k6
  obtain ⟨s1,rfl⟩:∃ s1,s1=s2:=⟨_,rfl⟩
  simp [m0Z,h0,b0,b3]
  refine (c0W k0 ⟨s1,rfl,k2⟩ hx.1 hn (by rw [a0t];exact hgl2) (by rw [a0s];exact hg0)).mono ?_
  rintro _ G2 ⟨⟨_,_,rfl,⟨s3,rfl,k3⟩,k4⟩,hx2⟩
  replace b0:=hx2.blk b0;replace b1:=hx2.blk b1;replace b2:=hx2.blk b2;replace b3:=hx2.blk b3;replace hx:=hx.trans hx2;replace k0:=k0.mono hx2;replace k1:=k1.mono hx2;replace k2:=k2.mono hx2
  rw [a0s] at k3 ⊢
  have hz:=a0k b0
  simp [h0,b0,k3.cells,k3.plain,hz]
  generalize hS:Array.setIfInBounds _ _ _=G3
  have hsz:=hx.1;replace k0:=k0.setS hS b0 (by decide);replace k1:=k1.setS hS b0 (by decide);replace k2:=k2.setS hS b0 (by decide);replace k3:=k3.setS hS b0 (by decide);replace k4:=k4.setS hS b0 (by decide);replace b1:=a0q hS b1 (by omega);replace b2:=a0q hS b2 (by omega);replace b3:=a0q hS b3 (by omega);replace hx:=a0R hS hx (by omega);replace b0:=a0K hS b0;clear hS hsz
  simp [n0a,h0,b1,b3]
  refine (c0W k1 ⟨s1,rfl,k2⟩ hx.1 hm (by rw [a0t];exact hgl2) (by rw [a0s];exact hg0)).mono ?_
  rintro _ G2 ⟨⟨_,_,rfl,⟨s4,rfl,k4⟩,k5⟩,hx2⟩
  replace b0:=hx2.blk b0;replace b1:=hx2.blk b1;replace b2:=hx2.blk b2;replace b3:=hx2.blk b3;replace hx:=hx.trans hx2;replace k0:=k0.mono hx2;replace k1:=k1.mono hx2;replace k2:=k2.mono hx2;replace k3:=k3.mono hx2
  rw [a0s] at k4 ⊢
  have hz:=a0k b1
  simp [h0,b1,k4.cells,k4.plain,hz]
  generalize hS:Array.setIfInBounds _ _ _=G3
  have hsz:=hx.1;replace k0:=k0.setS hS b1 (by decide);replace k1:=k1.setS hS b1 (by decide);replace k2:=k2.setS hS b1 (by decide);replace k3:=k3.setS hS b1 (by decide);replace k4:=k4.setS hS b1 (by decide);replace k5:=k5.setS hS b1 (by decide);replace b0:=a0q hS b0 (by omega);replace b2:=a0q hS b2 (by omega);replace b3:=a0q hS b3 (by omega);replace hx:=a0R hS hx (by omega);replace b1:=a0K hS b1;clear hS hsz
  have hz:=a0k b2
  simp [n0b,h0,b0,b1,b2,k3.cells,k3.plain,k4.cells,k4.plain,hz]
  exact fun _=>⟨s3,s4,rfl,k3.setT b2 (by decide),k4.setT b2 (by decide)⟩
 ·have hcz:¬ e0C (a0p j) 0 < 0:=by unfold e0C;rw [R0c hneg];split <;> omega
  rw [R0c hneg] at hg
  rw [← hg] at k2 b3
  simp [hcz]
  simp [m0Z,h0,b0,b3]
  refine (c0W k0 ⟨s1,rfl,k2⟩ hx.1 hn (by rw [a0t];exact hgl2) (by rw [a0s];exact hg0)).mono ?_
  rintro _ G2 ⟨⟨_,_,rfl,⟨s3,rfl,k3⟩,k4⟩,hx2⟩
  replace b0:=hx2.blk b0;replace b1:=hx2.blk b1;replace b2:=hx2.blk b2;replace b3:=hx2.blk b3;replace hx:=hx.trans hx2;replace k0:=k0.mono hx2;replace k1:=k1.mono hx2;replace k2:=k2.mono hx2
  rw [a0s] at k3 ⊢
  have hz:=a0k b0
  simp [h0,b0,k3.cells,k3.plain,hz]
  generalize hS:Array.setIfInBounds _ _ _=G3
  have hsz:=hx.1;replace k0:=k0.setS hS b0 (by decide);replace k1:=k1.setS hS b0 (by decide);replace k2:=k2.setS hS b0 (by decide);replace k3:=k3.setS hS b0 (by decide);replace k4:=k4.setS hS b0 (by decide);replace b1:=a0q hS b1 (by omega);replace b2:=a0q hS b2 (by omega);replace b3:=a0q hS b3 (by omega);replace hx:=a0R hS hx (by omega);replace b0:=a0K hS b0;clear hS hsz
  simp [n0a,h0,b1,b3]
  refine (c0W k1 ⟨s1,rfl,k2⟩ hx.1 hm (by rw [a0t];exact hgl2) (by rw [a0s];exact hg0)).mono ?_
  rintro _ G2 ⟨⟨_,_,rfl,⟨s4,rfl,k4⟩,k5⟩,hx2⟩
  replace b0:=hx2.blk b0;replace b1:=hx2.blk b1;replace b2:=hx2.blk b2;replace b3:=hx2.blk b3;replace hx:=hx.trans hx2;replace k0:=k0.mono hx2;replace k1:=k1.mono hx2;replace k2:=k2.mono hx2;replace k3:=k3.mono hx2
  rw [a0s] at k4 ⊢
  have hz:=a0k b1
  simp [h0,b1,k4.cells,k4.plain,hz]
  generalize hS:Array.setIfInBounds _ _ _=G3
  have hsz:=hx.1;replace k0:=k0.setS hS b1 (by decide);replace k1:=k1.setS hS b1 (by decide);replace k2:=k2.setS hS b1 (by decide);replace k3:=k3.setS hS b1 (by decide);replace k4:=k4.setS hS b1 (by decide);replace k5:=k5.setS hS b1 (by decide);replace b0:=a0q hS b0 (by omega);replace b2:=a0q hS b2 (by omega);replace b3:=a0q hS b3 (by omega);replace hx:=a0R hS hx (by omega);replace b1:=a0K hS b1;clear hS hsz
  have hz:=a0k b2
  simp [n0b,h0,b0,b1,b2,k3.cells,k3.plain,k4.cells,k4.plain,hz]
  exact fun _=>⟨s3,s4,rfl,k3.setT b2 (by decide),k4.setT b2 (by decide)⟩
end
section
open Go
set_option maxHeartbeats 4000000
variable {fl:Nat} {H G:a0c} {R:a0E} {v w:Value} {i j:Bool × List Nat} {a b:b0B}
theorem c0K.p (h:c0K H v a):∃ s u,v=.agg #[.bool a.1.1,s,.bool a.2.1,u]∧Lim H s a.1.2∧Lim H u a.2.2∧b0j H (.agg #[.bool a.1.1,s]) a.1∧b0j H (.agg #[.bool a.2.1,u]) a.2:=by
 obtain ⟨s,u,h1,h2,h3⟩:=h;exact ⟨s,u,h1,h2,h3,⟨s,rfl,h2⟩,⟨u,rfl,h3⟩⟩
theorem c0K.ok (h:c0K H v a):a0U a.1.2∧a0U a.2.2:=by obtain ⟨s,u,_,h2,h3⟩:=h;exact ⟨h2.ok,h3.ok⟩
theorem h0v (x:Rat):lz x.num≤szR x:=by unfold szR;omega
theorem h0u (x:Rat):lz x.den≤szR x:=by unfold szR;omega
theorem j0K (h:b0j H v i) (k:b0j H w j) (hf:fl≤H.size) (hn:i.2.length < 536870912) (hm:j.2.length < 536870912) (hj0:a0p j ≠ 0) :
  a0N env fl I0E [v,w] H (fun r H'=>c0K H' r (a0G (Rat.divInt (a0p i) (a0p j)))∧Ext H H') R:=by
 have k0:=h
 have k1:=k
 obtain ⟨s,rfl,hs⟩:=h
 obtain ⟨u,rfl,hu⟩:=k
 refine a0d Q0t hf (h:=?_)
 intro ρ h0
 simp [M0S,D0r,h0]
 generalize hG:Array.push (Array.push (Array.push H _) _) _=G
 have hx:Ext H G:=by rw [← hG];exact (Ext.refl H).push.push.push
 have b0:a0c.blk G H.size=.row false a0a [.bool i.1,s]:=by rw [← hG];simp
 have b1:a0c.blk G (H.size + 1)=.row false a0a [.bool j.1,u]:=by rw [← hG];simp
 have b2:a0c.blk G (H.size + 2)=.row false a0h [.bool false,.slice none 0 0,.bool false,.slice none 0 0]:=by rw [← hG];simp
 clear hG
 replace k0:=k0.mono hx
 replace k1:=k1.mono hx
 simp [D0s,h0,b0,b1]
 refine (m0k k0 k1 hx.1 hn hm hj0).mono ?_
 rintro _ G2 ⟨⟨q,rfl,s1,s2,rfl,k2,k3⟩,hx2⟩
 replace b2:=hx2.blk b2;replace hx:=hx.trans hx2
 have hsz:=hx.1
 simp [h0,k2.cells,k2.plain,k3.cells,k3.plain,hsz]
 generalize hN:Array.setIfInBounds (Array.push _ _) _ _=G3
 obtain ⟨hx2,b3⟩:=new1 hN
 clear hN
 replace b2:=hx2.blk b2;replace hx:=hx.trans hx2;replace k2:=k2.mono hx2;replace k3:=k3.mono hx2
 have hz:=a0k b2
 simp [D0t,h0,b2,b3,k2.cells,k2.plain,k3.cells,k3.plain,hz]
 exact fun _=>⟨s1,s2,rfl,k2.setT b2 (by decide),k3.setT b2 (by decide)⟩
theorem h0r (h:b0j H v i) (hl:b0j H w j) {c:Nat} {p:Nat} (hb:H.blk p=.row false a0a (a0M w)) (hf:fl≤H.size) (hn:i.2.length < 536870912) (hm:j.2.length < 536870912) :
  a0N env fl I0F [.func (.func w0B) #[] #[],v,.slice (some ⟨p,0,none⟩) 1 c] H (fun r H'=>b0j H' r (a0n (a0p i + a0p j))∧Ext H H') R:=by
 have k0:=h
 have k1:=hl
 obtain ⟨s,rfl,hs⟩:=h
 obtain ⟨u,rfl,hu⟩:=hl
 simp at hb
 refine a0d Q0u hf (h:=?_)
 intro ρ h0
 have hpl:=a0k hb
 simp [M0T,D0u,D0v,h0,d0j]
 generalize hG:Array.push (Array.push H _) _=G
 have hx2:Ext H G:=by rw [← hG];exact (Ext.refl H).push.push
 have b0:a0c.blk G H.size=.row false a0a [.bool i.1,s]:=by rw [← hG];simp
 have b1:a0c.blk G (H.size + 1)=.row false a0a [.bool false,.slice none 0 0]:=by rw [← hG];simp
 have b2:a0c.blk G p=.row false a0a [.bool j.1,u]:=hx2.blk hb
 have hx:=hx2
 clear hG
 replace k0:=k0.mono hx2
 replace k1:=k1.mono hx2
 clear hb
 refine b0A (fun c' t G=>∃ n:Nat,n + c' = 1∧t.length=21∧get t 0=.func (.func w0B) #[] #[]∧get t 4=.pointer (some ⟨H.size,0,none⟩)∧get t 6=.pointer (some ⟨H.size + 1,0,none⟩)∧get t 9=.slice (some ⟨p,0,none⟩) 1 c∧get t 10=.int .i64 1∧get t 11=.int .i64 (n:Int) ∧
   Ext H G∧a0c.blk G (H.size + 1)=.row false a0a [.bool false,.slice none 0 0] ∧
   (n=0→a0c.blk G H.size=.row false a0a [.bool i.1,s]∧a0c.blk G p=.row false a0a [.bool j.1,u]∧b0j G (.agg #[.bool i.1,s]) i∧b0j G (.agg #[.bool j.1,u]) j) ∧
   (n=1→∃ s2,a0c.blk G H.size=.row false a0a [.bool (a0n (a0p i + a0p j)).1,s2]∧Lim G s2 (a0n (a0p i + a0p j)).2))
  (fun t G=>∃ s2,t.length=21∧get t 4=.pointer (some ⟨H.size,0,none⟩)∧get t 6=.pointer (some ⟨H.size + 1,0,none⟩)∧Ext H G∧a0c.blk G (H.size + 1)=.row false a0a [.bool false,.slice none 0 0] ∧
   a0c.blk G H.size=.row false a0a [.bool (a0n (a0p i + a0p j)).1,s2]∧Lim G s2 (a0n (a0p i + a0p j)).2) 1 ?_ ?_ ?_
 ·exact ⟨0,rfl,by simp,by simp [h0],by simp,by simp,by simp [h0],by simp,by simp,hx,b1,fun _=>⟨b0,b2,k0,k1⟩,by omega⟩
 ·clear h0 ρ k0 k1 b0 b1 b2 hx hx2 G
  rintro c' t G ⟨n,hnc,ht,g0,g4,g6,g9,g10,g11,hx,b1,hc0,hc1⟩
  obtain ⟨ρ,rfl⟩:=toT ht
  simp only [b0o,Nat.reduceLT] at g0 g4 g6 g9 g10 g11
  by_cases hn0:n=0
  ·subst hn0
   obtain ⟨b0,b2,k0,k1⟩:=hc0 rfl
   have hlt:=hx.1
   have hbl:=a0k b1
   have e9:IntKind.i64.wrap ((0:Int) + 1)=1:=by decide
   simp [v0u,D0w,g0,g4,g6,g9,g10,g11,iaV,b2]
   have hc:(a0M (Value.agg #[.bool j.1,u])).length=2:=rfl
   simp [hu.cells,hu.plain,hlt]
   generalize hN:Array.setIfInBounds (Array.push _ _) _ _=G3
   obtain ⟨hx2,b3⟩:=new1 hN
   clear hN
   replace b0:=hx2.blk b0;replace b1:=hx2.blk b1;replace b2:=hx2.blk b2;replace hx:=hx.trans hx2;replace k0:=k0.mono hx2;replace k1:=k1.mono hx2
   simp [D0x,D0y,g0,g4,g6,g9,g10,g11,b0,b3]
   refine (e0T k0 k1 hx.1 hn hm).mono ?_
   rintro _ G2 ⟨⟨s2,rfl,k2⟩,hx2⟩
   replace b0:=hx2.blk b0;replace b1:=hx2.blk b1;replace b2:=hx2.blk b2;replace hx:=hx.trans hx2;replace k0:=k0.mono hx2;replace k1:=k1.mono hx2
   have hz:=a0k b0
   simp [g0,g4,g6,g9,g10,g11,b0,k2.cells,k2.plain,hz,e9]
   exact ⟨0,by omega,1,rfl,rfl,hx.set (by omega),b1,by omega,fun _=>k2.setT b0 (by decide)⟩
  ·have:n=1:=by omega
   subst this
   obtain ⟨s2,b0,k0⟩:=hc1 rfl
   simp [v0u,g0,g4,g6,g9,g10,g11]
   exact ⟨hx,b1,s2,b0,k0⟩
 ·clear h0 ρ k0 k1 b0 b1 b2 hx hx2 G
  rintro t G ⟨s2,ht,g4,g6,hx,b1,b0,k0⟩
  obtain ⟨ρ,rfl⟩:=toT ht
  simp only [b0o,Nat.reduceLT] at g4 g6
  have hz:=a0k b1
  simp [D0z,g4,g6,b0,b1,k0.cells,k0.plain,hz]
  exact fun _=>⟨s2,rfl,k0.setT b1 (by decide)⟩
theorem m0i (h:c0K H v a) (k:c0K H w b) (hf:fl≤H.size) (hn:e0g a < 67108864) (hm:e0g b < 67108864) :
  a0N env fl I0s [v,w] H (fun r H'=>c0K H' r (a0G (d0X a + d0X b))∧Ext H H') R:=by
 have k0:=h
 have k1:=k
 obtain ⟨s,u,rfl,hs,hu⟩:=h
 obtain ⟨s',u',rfl,hs',hu'⟩:=k
 refine a0d P0U hf (h:=?_)
 intro ρ h0
 simp [M0u,B0H,h0]
 generalize hG:Array.push (Array.push (Array.push H _) _) _=G
 have hx:Ext H G:=by rw [← hG];exact (Ext.refl H).push.push.push
 have b0:a0c.blk G H.size=.row false a0h [.bool a.1.1,s,.bool a.2.1,u]:=by rw [← hG];simp
 have b1:a0c.blk G (H.size + 1)=.row false a0h [.bool b.1.1,s',.bool b.2.1,u']:=by rw [← hG];simp
 have b2:a0c.blk G (H.size + 2)=.row false a0h [.bool false,.slice none 0 0,.bool false,.slice none 0 0]:=by rw [← hG];simp
 clear hG
 replace k0:=k0.mono hx
 replace k1:=k1.mono hx
 have sa:=g0m k0.ok.1 k0.ok.2
 have sb:=g0m k1.ok.1 k1.ok.2
 refine a0Y ?_
 simp [B0I,h0,b0,b1]
 refine (c0P k0 (by have:=hx.1;omega) (by omega)).mono ?_
 rintro _ G2 ⟨⟨s1,s2,rfl,k2,k3⟩,hx2⟩
 replace b0:=hx2.blk b0;replace b1:=hx2.blk b1;replace b2:=hx2.blk b2;replace hx:=hx.trans hx2;replace k0:=k0.mono hx2;replace k1:=k1.mono hx2
 simp [h0,b1]
 refine (c0P k1 hx.1 (by omega)).mono ?_
 rintro _ G2 ⟨⟨s3,s4,rfl,k4,k5⟩,hx2⟩
 replace b0:=hx2.blk b0;replace b1:=hx2.blk b1;replace b2:=hx2.blk b2;replace hx:=hx.trans hx2;replace k0:=k0.mono hx2;replace k1:=k1.mono hx2;replace k2:=k2.mono hx2;replace k3:=k3.mono hx2
 clear k0 k1
 have hz0:=a0k b0
 simp [h0,b0,k2.cells,k2.plain,k3.cells,k3.plain,hz0]
 generalize hS:Array.setIfInBounds _ _ _=G3
 have hsz:=hx.1;replace k2:=k2.setS hS b0 (by decide);replace k3:=k3.setS hS b0 (by decide);replace k4:=k4.setS hS b0 (by decide);replace k5:=k5.setS hS b0 (by decide);replace b1:=a0q hS b1 (by omega);replace b2:=a0q hS b2 (by omega);replace hx:=a0R hS hx (by omega);replace b0:=a0K hS b0;clear hS hsz
 have hz0:=a0k b1
 simp [b1,k4.cells,k4.plain,k5.cells,k5.plain,hz0]
 generalize hS:Array.setIfInBounds _ _ _=G3
 have hsz:=hx.1;replace k2:=k2.setS hS b1 (by decide);replace k3:=k3.setS hS b1 (by decide);replace k4:=k4.setS hS b1 (by decide);replace k5:=k5.setS hS b1 (by decide);replace b0:=a0q hS b0 (by omega);replace b2:=a0q hS b2 (by omega);replace hx:=a0R hS hx (by omega);replace b1:=a0K hS b1;clear hS hsz
 obtain ⟨x,hxv⟩:∃ x,x=d0X a:=⟨_,rfl⟩
 obtain ⟨y,hyv⟩:∃ y,y=d0X b:=⟨_,rfl⟩
 rw [← hxv] at sa k2 k3 b0 ⊢
 rw [← hyv] at sb k4 k5 b1 ⊢
 have k0:b0j _ (.agg #[.bool (a0G x).1.1,s1]) (a0n x.num):=⟨s1,rfl,k2⟩
 have k1:b0j _ (.agg #[.bool (a0G x).2.1,s2]) (a0n x.den):=⟨s2,rfl,k3⟩
 have k6:b0j _ (.agg #[.bool (a0G y).1.1,s3]) (a0n y.num):=⟨s3,rfl,k4⟩
 have k7:b0j _ (.agg #[.bool (a0G y).2.1,s4]) (a0n y.den):=⟨s4,rfl,k5⟩
 have l1:=h0v x
 have l2:=h0u x
 have l3:=h0v y
 have l4:=h0u y
 clear hs hu hs' hu' k2 k3 k4 k5
 refine a0Y ?_
 simp [B0J,h0,b0,b1]
 refine (c0X k0 k7 (by have:=hx.1;omega) (by rw [a0t];omega) (by rw [a0t];omega)).mono ?_
 rintro _ G2 ⟨k2,hx2⟩
 replace b0:=hx2.blk b0;replace b1:=hx2.blk b1;replace b2:=hx2.blk b2;replace hx:=hx.trans hx2;replace k1:=k1.mono hx2;replace k6:=k6.mono hx2;replace k7:=k7.mono hx2
 rw [a0s,a0s] at k2
 simp [h0,b0,b1]
 refine (c0X k6 k1 (by have:=hx.1;omega) (by rw [a0t];omega) (by rw [a0t];omega)).mono ?_
 rintro _ G2 ⟨k3,hx2⟩
 replace b0:=hx2.blk b0;replace b1:=hx2.blk b1;replace b2:=hx2.blk b2;replace hx:=hx.trans hx2;replace k1:=k1.mono hx2;replace k2:=k2.mono hx2;replace k6:=k6.mono hx2;replace k7:=k7.mono hx2
 rw [a0s,a0s] at k3
 obtain ⟨s5,hk3,k3'⟩:=k3
 subst hk3
 simp [h0,k3'.cells]
 generalize hN:Array.push _ _=G3
 obtain ⟨hx2,b3⟩:=e0L hN
 have hGs:G3.size=G2.size + 1:=by rw [← hN];simp
 clear hN
 have k3:b0j G2 (.agg #[.bool (a0n (y.num * x.den)).1,s5]) (a0n (y.num * x.den)):=⟨s5,rfl,k3'⟩
 replace b0:=hx2.blk b0;replace b1:=hx2.blk b1;replace b2:=hx2.blk b2;replace hx:=hx.trans hx2;replace k1:=k1.mono hx2;replace k2:=k2.mono hx2;replace k3:=k3.mono hx2;replace k6:=k6.mono hx2;replace k7:=k7.mono hx2
 have m1:=i0J x.num y.den
 have m2:=i0J y.num x.den
 refine (h0r k2 k3 (by simpa using b3) (by have:=hx.1;omega) (by rw [a0t];omega) (by rw [a0t];omega)).mono ?_
 rintro _ G2 ⟨k4,hx2⟩
 replace b0:=hx2.blk b0;replace b1:=hx2.blk b1;replace b2:=hx2.blk b2;replace hx:=hx.trans hx2;replace k1:=k1.mono hx2;replace k6:=k6.mono hx2;replace k7:=k7.mono hx2
 rw [a0s,a0s] at k4
 simp [h0,b0,b1]
 refine (c0X k1 k7 hx.1 (by rw [a0t];omega) (by rw [a0t];omega)).mono ?_
 rintro _ G2 ⟨k5,hx2⟩
 replace b2:=hx2.blk b2;replace hx:=hx.trans hx2;replace k4:=k4.mono hx2;replace k6:=k6.mono hx2;replace k7:=k7.mono hx2
 rw [a0s,a0s] at k5
 simp [h0]
 have m3:=I0Z (x.num * y.den) (y.num * x.den)
 have m4:=i0J (x.den:Int) y.den
 refine (j0K k4 k5 hx.1 (by rw [a0t];omega) (by rw [a0t];omega) (by rw [a0s];have:=x.den_nz;have:=y.den_nz;exact Int.mul_ne_zero (by omega) (by omega))).mono ?_
 rintro _ G2 ⟨⟨s6,s7,rfl,k6,k7⟩,hx2⟩
 replace b2:=hx2.blk b2;replace hx:=hx.trans hx2
 rw [a0s,a0s,← p0m] at k6 k7 ⊢
 have hz:=a0k b2
 simp [h0,b2,k6.cells,k6.plain,k7.cells,k7.plain,hz]
 exact fun _=>⟨s6,s7,rfl,k6.setT b2 (by decide),k7.setT b2 (by decide)⟩
theorem m0j (h:c0K H v a) (k:c0K H w b) (hf:fl≤H.size) (hn:e0g a < 67108864) (hm:e0g b < 67108864) :
  a0N env fl I0g [v,w] H (fun r H'=>r=.int .i64 (v0W (d0X a) (d0X b))∧Ext H H') R:=by
 have k0:=h
 have k1:=k
 obtain ⟨s,u,rfl,hs,hu⟩:=h
 obtain ⟨s',u',rfl,hs',hu'⟩:=k
 refine a0d P0z hf (h:=?_)
 intro ρ h0
 simp [M0b,A0f,h0]
 generalize hG:Array.push (Array.push H _) _=G
 have hx:Ext H G:=by rw [← hG];exact (Ext.refl H).push.push
 have b0:a0c.blk G H.size=.row false a0h [.bool a.1.1,s,.bool a.2.1,u]:=by rw [← hG];simp
 have b1:a0c.blk G (H.size + 1)=.row false a0h [.bool b.1.1,s',.bool b.2.1,u']:=by rw [← hG];simp
 clear hG
 replace k0:=k0.mono hx
 replace k1:=k1.mono hx
 have sa:=g0m k0.ok.1 k0.ok.2
 have sb:=g0m k1.ok.1 k1.ok.2
 refine a0Y ?_
 simp [A0g,h0,b0,b1]
 refine (c0P k0 (by have:=hx.1;omega) (by omega)).mono ?_
 rintro _ G2 ⟨⟨s1,s2,rfl,k2,k3⟩,hx2⟩
 replace b0:=hx2.blk b0;replace b1:=hx2.blk b1;replace hx:=hx.trans hx2;replace k0:=k0.mono hx2;replace k1:=k1.mono hx2
 simp [h0,b1]
 refine (c0P k1 hx.1 (by omega)).mono ?_
 rintro _ G2 ⟨⟨s3,s4,rfl,k4,k5⟩,hx2⟩
 replace b0:=hx2.blk b0;replace b1:=hx2.blk b1;replace hx:=hx.trans hx2;replace k0:=k0.mono hx2;replace k1:=k1.mono hx2;replace k2:=k2.mono hx2;replace k3:=k3.mono hx2
 clear k0 k1
 have hz0:=a0k b0
 simp [h0,b0,k2.cells,k2.plain,k3.cells,k3.plain,hz0]
 generalize hS:Array.setIfInBounds _ _ _=G3
 have hsz:=hx.1;replace k2:=k2.setS hS b0 (by decide);replace k3:=k3.setS hS b0 (by decide);replace k4:=k4.setS hS b0 (by decide);replace k5:=k5.setS hS b0 (by decide);replace b1:=a0q hS b1 (by omega);replace hx:=a0R hS hx (by omega);replace b0:=a0K hS b0;clear hS hsz
 have hz0:=a0k b1
 simp [b1,k4.cells,k4.plain,k5.cells,k5.plain,hz0]
 generalize hS:Array.setIfInBounds _ _ _=G3
 have hsz:=hx.1;replace k2:=k2.setS hS b1 (by decide);replace k3:=k3.setS hS b1 (by decide);replace k4:=k4.setS hS b1 (by decide);replace k5:=k5.setS hS b1 (by decide);replace b0:=a0q hS b0 (by omega);replace hx:=a0R hS hx (by omega);replace b1:=a0K hS b1;clear hS hsz
 obtain ⟨x,hxv⟩:∃ x,x=d0X a:=⟨_,rfl⟩
 obtain ⟨y,hyv⟩:∃ y,y=d0X b:=⟨_,rfl⟩
 rw [← hxv] at sa k2 k3 b0 ⊢
 rw [← hyv] at sb k4 k5 b1 ⊢
 have k0:b0j _ (.agg #[.bool (a0G x).1.1,s1]) (a0n x.num):=⟨s1,rfl,k2⟩
 have k1:b0j _ (.agg #[.bool (a0G x).2.1,s2]) (a0n x.den):=⟨s2,rfl,k3⟩
 have k6:b0j _ (.agg #[.bool (a0G y).1.1,s3]) (a0n y.num):=⟨s3,rfl,k4⟩
 have k7:b0j _ (.agg #[.bool (a0G y).2.1,s4]) (a0n y.den):=⟨s4,rfl,k5⟩
 have l1:=h0v x
 have l2:=h0u x
 have l3:=h0v y
 have l4:=h0u y
 clear hs hu hs' hu' k2 k3 k4 k5
 refine a0Y ?_
 simp [A0h,h0,b0,b1]
 refine (c0X k0 k7 (by have:=hx.1;omega) (by rw [a0t];omega) (by rw [a0t];omega)).mono ?_
 rintro _ G2 ⟨k2,hx2⟩
 replace b0:=hx2.blk b0;replace b1:=hx2.blk b1;replace hx:=hx.trans hx2;replace k1:=k1.mono hx2;replace k6:=k6.mono hx2
 rw [a0s,a0s] at k2
 simp [h0,b0,b1]
 refine (c0X k6 k1 hx.1 (by rw [a0t];omega) (by rw [a0t];omega)).mono ?_
 rintro _ G2 ⟨k5,hx2⟩
 replace hx:=hx.trans hx2;replace k2:=k2.mono hx2
 rw [a0s,a0s] at k5
 simp [h0]
 have m3:=i0J x.num y.den
 have m4:=i0J y.num x.den
 refine (d0B k2 k5 hx.1 (by rw [a0t];omega) (by rw [a0t];omega)).mono ?_
 rintro _ G2 ⟨rfl,hx2⟩
 rw [a0s,a0s,q0s]
 simp
end
section
open Go
set_option maxHeartbeats 4000000
variable {fl:Nat} {H G:a0c} {R:a0E} {v w:Value} {a b:b0B}
abbrev d0d:=Int × b0B
def g0q (H:a0c) (v:Value) (e:d0d):Prop:=∃ s u,v=.agg #[.int .i64 e.1,.bool e.2.1.1,s,.bool e.2.2.1,u]∧Lim H s e.2.1.2∧Lim H u e.2.2.2
variable {e f:d0d}
theorem g0q.mono (h:g0q H v e) (hx:Ext H G):g0q G v e:=by obtain ⟨s,u,h1,h2,h3⟩:=h;exact ⟨s,u,h1,h2.mono hx,h3.mono hx⟩
theorem g0q.setT (h:g0q H v e) {p:Nat} {ro:Bool} {e':TypeId} {cs':List Value} {r:Blk} (hb:H.blk p=.row ro e' cs') (hne:e' ≠ a0b):g0q (H.setIfInBounds p r) v e:=by
 obtain ⟨s,u,h1,h2,h3⟩:=h;exact ⟨s,u,h1,h2.setT hb hne,h3.setT hb hne⟩
theorem g0q.setS {G3:a0c} {q:Nat} {X:Blk} {ro:Bool} {e':TypeId} {cs:List Value} (k:g0q H v e) (hS:Array.setIfInBounds H q X=G3) (hb:a0c.blk H q=.row ro e' cs) (hne:e' ≠ a0b):g0q G3 v e:=by rw [← hS];exact k.setT hb hne
theorem g0q.ok (h:g0q H v e):a0U e.2.1.2∧a0U e.2.2.2:=by obtain ⟨s,u,_,h2,h3⟩:=h;exact ⟨h2.ok,h3.ok⟩
def w0N (e:d0d):Bool:=if e.1 = -1 ∨ e.1=1 then c0B e.2 else if e.1=0 then i0K e.2 else false
def m0l:b0B:=((false,[]),(false,[]))
theorem q0a:c0B m0l=true:=rfl
theorem d0Y:d0X m0l=0:=by unfold d0X;rw [q0a];rfl
theorem v0D:c0K H (.agg #[.bool false,.slice none 0 0,.bool false,.slice none 0 0]) m0l:=⟨_,_,rfl,Lim.nil,Lim.nil⟩
theorem g0x (h:c0K H v a) (hf:fl≤H.size):a0N env fl I0B [v] H (fun r H'=>r=.bool (c0B a)∧Ext H H') R:=by
 obtain ⟨s,u,rfl,hs,hu⟩:=h
 refine a0d Q0o hf (h:=?_)
 intro ρ h0
 simp [M0N,D0a,h0]
 have hsl:=hs.slen
 have hul:=hu.slen
 cases h1:a.1.1
 ·by_cases h2:a.1.2=[]
  ·cases h3:a.2.1
   ·simp [m0g,h0,h1,h2,h3,hsl,hul,c0B]
   ·simp [m0g,h0,h1,h2,h3,hsl,hul,c0B]
  ·simp [m0g,h0,h1,h2,hsl,hul,c0B]
 ·simp [m0g,h0,h1,hsl,hul,c0B]
theorem l0I (h:g0q H v e) (hf:fl≤H.size) (hn:e0g e.2 < 67108864):a0N env fl I0q [v] H (fun r H'=>r=.bool (w0N e)∧Ext H H') R:=by
 obtain ⟨s,u,rfl,hs,hu⟩:=h
 have k0:c0K H (.agg #[.bool e.2.1.1,s,.bool e.2.2.1,u]) e.2:=⟨s,u,rfl,hs,hu⟩
 refine a0d P0Q hf (h:=?_)
 intro ρ h0
 simp [M0q,B0r,B0s,B0t,h0]
 generalize hG:Array.push H _=G
 obtain ⟨hx2,b0⟩:=e0L hG
 have hx:=Ext.refl H
 clear hG
 replace hx:=hx.trans hx2;replace k0:=k0.mono hx2
 unfold w0N
 by_cases h1:e.1 = -1
 ·simp [h1,u0Q,h0,b0]
  refine (g0x k0 hx.1).mono ?_
  rintro _ G2 ⟨rfl,hx2⟩
  simp
 ·by_cases h2:e.1=1
  ·simp [h2,o0X,u0Q,h0,b0]
   refine (g0x k0 hx.1).mono ?_
   rintro _ G2 ⟨rfl,hx2⟩
   simp
  ·by_cases h3:e.1=0
   ·simp [h3,o0X,u0R,B0u,h0,b0]
    refine (f0f k0 hx.1 (by omega)).mono ?_
    rintro _ G2 ⟨rfl,hx2⟩
    simp
   ·simp [h1,h2,h3,o0X,u0R,B0v,h0,b0]
theorem m0B (h:c0K H v a) (hf:fl≤H.size) (hn:e0g a < 67108864):a0N env fl I0d [v] H (fun r H'=>g0q H' r (0,a0G (d0X a))∧Ext H H') R:=by
 have k0:=h
 obtain ⟨s,u,rfl,hs,hu⟩:=h
 refine a0d P0w hf (h:=?_)
 intro ρ h0
 simp [L0Y,z0Z,A0a,h0]
 generalize hG:Array.push (Array.push H _) _=G
 have hx2:Ext H G:=by rw [← hG];exact (Ext.refl H).push.push
 have b0:a0c.blk G H.size=.row false a0h [.bool a.1.1,s,.bool a.2.1,u]:=by rw [← hG];simp
 have b1:a0c.blk G (H.size + 1)=.row false a0x [.int .i64 0,.bool false,.slice none 0 0,.bool false,.slice none 0 0]:=by rw [← hG];simp
 have hx:=Ext.refl H
 clear hG
 replace hx:=hx.trans hx2;replace k0:=k0.mono hx2
 try simp [b0]
 refine (m0i k0 (b:=m0l) v0D hx.1 hn (by decide)).mono ?_
 rintro _ G2 ⟨⟨s1,s2,rfl,k2,k3⟩,hx2⟩
 replace b1:=hx2.blk b1;replace hx:=hx.trans hx2
 rw [d0Y,Rat.add_zero] at k2 k3 ⊢
 have hz:=a0k b1
 simp [h0,b1,k2.cells,k2.plain,k3.cells,k3.plain,hz]
 exact fun _=>⟨s1,s2,rfl,k2.setT b1 (by decide),k3.setT b1 (by decide)⟩
end
section
open Go
def q0c (b2 b:Nat) (A:a0Q→a0c→Prop) (Z:a0Q→a0c→Prop) (Q:c0S):c0S
 | .normal,t,H=>A t H
 | .exit j,t,H=>if j=b2 then A t H else if j=b then Z t H else Q (.exit j) t H
 | .ret,t,H=>Q .ret t H
section
variable {b2 b:Nat} {A Z:a0Q→a0c→Prop} {Q:c0S} {t:a0Q} {H:a0c}
@[simp] theorem F0J:q0c b2 b A Z Q .normal t H=A t H:=nr rfl
@[simp] theorem I0M {j:Nat}:q0c b2 b A Z Q (.exit j) t H=if j=b2 then A t H else if j=b then Z t H else Q (.exit j) t H:=nr rfl
@[simp] theorem L0C:q0c b2 b A Z Q .ret t H=Q .ret t H:=nr rfl
end
def Rnd (nt ti tn n i:Nat) (Inv:Nat→(Nat→Value)→a0c→Prop) (t:a0Q) (H:a0c):Prop :=
 ∃ ρ,t=T nt ρ∧ρ ti=.int .i64 (i:Int)∧ρ tn=.int .i64 (n:Int)∧Inv (i + 1) ρ H
theorem Rnd.mk {nt ti tn n i:Nat} {Inv:Nat→(Nat→Value)→a0c→Prop} {ρ:Nat→Value} {H:a0c} (h1:ρ ti=.int .i64 (i:Int)) (h2:ρ tn=.int .i64 (n:Int)) (h3:Inv (i + 1) ρ H):Rnd nt ti tn n i Inv (T nt ρ) H:=⟨ρ,rfl,h1,h2,h3⟩
theorem g0s {E:Env} {fl nt ti tn tc tx b b2 n:Nat} {body:SCode} {Z:a0Q→a0c→Prop} {Q:c0S} {R:a0E} {ρ:Nat→Value} {H:a0c} {rc rx:List a0w} (Inv:Nat→(Nat→Value)→a0c→Prop)
  (hrc:rc=[⟨some tc,none,.bin 0 .lss (.tmp ti) (.tmp tn)⟩]) (hrx:rx=[⟨some tx,none,.bin 0 .add (.tmp ti) (.const (.int .i64 1))⟩,⟨some ti,none,.mv (.tmp tx)⟩])
  (hl:ti < nt∧tn < nt∧tc < nt∧tx < nt∧tc ≠ ti∧tc ≠ tn∧tx ≠ ti∧tx ≠ tn∧ti ≠ tn) (hn:n < 4611686018427387904)
  (h0:ρ ti=.int .i64 0) (hN:ρ tn=.int .i64 (n:Int)) (hI:Inv 0 ρ H)
  (stab:∀ i (ρ ρ':Nat→Value) H,(∀ k,k ≠ tc→k ≠ tx→k ≠ ti→ρ' k=ρ k)→Inv i ρ H→Inv i ρ' H)
  (step:∀ i ρ H,i < n→ρ ti=.int .i64 (i:Int)→ρ tn=.int .i64 (n:Int)→Inv i ρ H→W E fl body (T nt ρ) H (q0c b2 b (Rnd nt ti tn n i Inv) Z Q) R)
  (rest:∀ ρ H,ρ ti=.int .i64 (n:Int)→ρ tn=.int .i64 (n:Int)→Inv n ρ H→Z (T nt ρ) H) :
  W E fl (.loop (.seq (.reg rc) (.seq (.cond (.tmp tc) .skip (.exit b)) (.seq (.block b2 body) (.reg rx))))) (T nt ρ) H (d0w b (f0L Z Q)) R:=by
 subst hrc hrx
 obtain ⟨l1,l2,l3,l4,n1,n2,n3,n4,n5⟩:=hl
 refine b0A (fun k t G=>∃ i ρ,i + k=n∧t=T nt ρ∧ρ ti=.int .i64 (i:Int)∧ρ tn=.int .i64 (n:Int)∧Inv i ρ G) Z n ?_ ?_ (fun _ _ h=>h)
 ·exact ⟨0,ρ,by omega,rfl,h0,hN,hI⟩
 ·clear h0 hN hI ρ H
  rintro k t G ⟨i,ρ,hik,rfl,g1,g2,hI⟩
  have e9:IntKind.i64.wrap ((i:Int) + 1)=((i + 1:Nat):Int):=by rw [a0S (by omega) (by omega)];omega
  have hstab:∀ v,Inv i (upd ρ tc v) G:=fun v=>stab i ρ _ G (fun k h1 _ _=>g0W (Ne.symm h1)) hI
  refine e0c (i0q ?_)
  simp only [m0y,q0l,h0G,b0o l1,b0o l2,g1,g2,w0o,r0g,q0k,d0a,F0R]
  by_cases hi:i < n
  ·have hs:=step i (upd ρ tc (.bool true)) G hi (by rw [g0W n1];exact g1) (by rw [g0W n2];exact g2) (hstab _)
   have hd:decide ((i:Int) < (n:Int))=true:=by rw [R0E];omega
   rw [hd]
   refine e0c (i0p true (by rw [h0G,b0o l3,i0j]) (fun _=>o0d ?_) (by simp))
   refine e0c (k0j ?_)
   have hfin:∀ t' H',Rnd nt ti tn n i Inv t' H'→WR E fl [⟨some tx,none,.bin 0 .add (.tmp ti) (.const (.int .i64 1))⟩,⟨some ti,none,.mv (.tmp tx)⟩] t' H' (fun t' H'=>∃ k',k' < k∧∃ i ρ,i + k' = n∧t' = T nt ρ∧ρ ti=.int .i64 (i:Int)∧ρ tn=.int .i64 (n:Int)∧Inv i ρ H') R:=by
    rintro t' H' ⟨ρ',rfl,q1,q2,q3⟩
    simp only [m0y,q0l,H0z,h0G,w0y,b0o l1,q1,w0m,e9,r0g,q0k,F0R,b0o l4,i0j]
    refine ⟨k - 1,by omega,i + 1,_,by omega,rfl,i0j,?_,?_⟩
    ·rw [g0W n5,g0W n4];exact q2
    ·exact stab (i + 1) ρ' _ H' (fun k h1 h2 h3=>by rw [g0W (Ne.symm h3),g0W (Ne.symm h2)]) q3
   refine hs.mono fun e t' H' hq=>?_
   cases e with
   | normal=>exact i0q (hfin _ _ hq)
   | exit j =>
    simp only [q0c] at hq
    show (if j=b2 then _ else _)
    by_cases hj:j=b2
    ·rw [R0k hj] at hq ⊢;exact i0q (hfin _ _ hq)
    ·rw [R0c hj] at hq ⊢
     show (if j=b then _ else _)
     by_cases hj2:j=b
     ·rw [R0k hj2] at hq ⊢;exact hq
     ·rw [R0c hj2] at hq ⊢;exact hq
   | ret=>exact hq
  ·have:i=n:=by omega
   subst this
   have hd:decide ((i:Int) < (i:Int))=false:=by simp
   rw [hd]
   refine e0c (i0p false (by rw [h0G,b0o l3,i0j]) (by simp) (fun _=>o0c ?_))
   show (if b=b then _ else _)
   rw [R0k rfl]
   exact rest _ _ (by rw [g0W n1];exact g1) (by rw [g0W n2];exact g2) (hstab _)
theorem h0w {Q:c0S}:f0L (fun t H=>Q .normal t H) Q=Q:=by
 funext e t H;cases e <;> rfl
theorem x0P {E:Env} {fl nt ti tn tc tx b b2 n:Nat} {body:SCode} {Q:c0S} {R:a0E} {ρ:Nat→Value} {H:a0c} {rc rx:List a0w} (Inv:Nat→(Nat→Value)→a0c→Prop)
  (hrc:rc=[⟨some tc,none,.bin 0 .lss (.tmp ti) (.tmp tn)⟩]) (hrx:rx=[⟨some tx,none,.bin 0 .add (.tmp ti) (.const (.int .i64 1))⟩,⟨some ti,none,.mv (.tmp tx)⟩])
  (hl:ti < nt∧tn < nt∧tc < nt∧tx < nt∧tc ≠ ti∧tc ≠ tn∧tx ≠ ti∧tx ≠ tn∧ti ≠ tn) (hn:n < 4611686018427387904)
  (h0:ρ ti=.int .i64 0) (hN:ρ tn=.int .i64 (n:Int)) (hI:Inv 0 ρ H)
  (stab:∀ i (ρ ρ':Nat→Value) H,(∀ k,k ≠ tc→k ≠ tx→k ≠ ti→ρ' k=ρ k)→Inv i ρ H→Inv i ρ' H)
  (step:∀ i ρ H,i < n→ρ ti=.int .i64 (i:Int)→ρ tn=.int .i64 (n:Int)→Inv i ρ H→W E fl body (T nt ρ) H (q0c b2 b (Rnd nt ti tn n i Inv) (fun t H=>Q .normal t H) Q) R)
  (rest:∀ ρ H,ρ ti=.int .i64 (n:Int)→ρ tn=.int .i64 (n:Int)→Inv n ρ H→Q .normal (T nt ρ) H) :
  W E fl (.loop (.seq (.reg rc) (.seq (.cond (.tmp tc) .skip (.exit b)) (.seq (.block b2 body) (.reg rx))))) (T nt ρ) H (d0w b Q) R:=by
 rw [← h0w (Q:=Q)]
 exact g0s (Z:=fun t H=>Q .normal t H) (Q:=Q) Inv hrc hrx hl hn h0 hN hI stab step rest
def Sls {α:Type} (P:a0c→List Value→α→Prop) (H:a0c) (e sz:Nat) (v:Value) (l:List α):Prop :=
 ∃ cs,Sl H e sz v l.length cs∧∀ k (h:k < l.length),P H ((cs.drop (k * sz)).take sz) l[k]
def j0t {α:Type} (P:a0c→List Value→α→Prop):Prop:=∀ H G cs x,Ext H G→P H cs x→P G cs x
section
variable {α:Type} {P:a0c→List Value→α→Prop} {H G:a0c} {e sz:Nat} {v:Value} {l:List α}
theorem Sls.mono (hP:j0t P) (h:Sls P H e sz v l) (hx:Ext H G):Sls P G e sz v l:=by
 obtain ⟨cs,h1,h2⟩:=h;exact ⟨cs,h1.mono hx,fun k hk=>hP _ _ _ _ hx (h2 k hk)⟩
theorem Sls.slen (h:Sls P H e sz v l):d0j v=some (.int .i64 l.length):=by obtain ⟨cs,h1,_⟩:=h;exact h1.slen
theorem Sls.ia (h:Sls P H e sz v l) {k:IntKind} {j:Nat} (hj:j < l.length):iaV sz v (.int k j)=some (adr sz v j):=by obtain ⟨cs,h1,_⟩:=h;exact h1.ia hj
theorem Sls.load (h:Sls P H e sz v l) {j:Nat} (hj:j < l.length) (hs:0 < sz):∃ cs,b0y H true sz (adr sz v j)=some (.agg cs.toArray)∧cs.length=sz∧P H cs l[j]:=by
 obtain ⟨cs,h1,h2⟩:=h
 refine ⟨_,h1.load (Ext.refl H) hj hs,?_,h2 j hj⟩
 have:=h1.1
 have:(j + 1) * sz≤l.length * sz:=R0h _ hj
 rw [R0o,R0S] at this
 simp;omega
theorem Sls.load1 (h:Sls P H e 1 v l) {j:Nat} (hj:j < l.length):∃ w,b0y H false 1 (adr 1 v j)=some w∧P H [w] l[j]:=by
 obtain ⟨cs,h1,h2⟩:=h
 refine ⟨_,h1.load1 (Ext.refl H) hj,?_⟩
 have h3:=h2 j hj
 have hl:=h1.1
 have:(cs.drop (j * 1)).take 1=[cs.getD j undef]:=by
  have hjc:j < cs.length:=by omega
  have e1:cs.getD j undef=cs[j]:=by simp [Q0T,hjc]
  rw [R0O,R0L hjc,e1];rfl
 rw [this] at h3;exact h3
theorem Sls.cells (h:Sls P H e sz v l):a0M v=[v]:=by obtain ⟨cs,h1,_⟩:=h;exact h1.cells
theorem Sls.plain (h:Sls P H e sz v l):a0B v=true:=by obtain ⟨cs,h1,_⟩:=h;exact h1.plain
theorem Sls.nil:Sls P H e sz (.slice none 0 0) ([]:List α):=⟨[],Sl.nil,fun k hk=>by simp at hk⟩
end
def b0W {α:Type} (P:a0c→List Value→α→Prop) (fl:Nat) (H:a0c) (e sz:Nat) (v:Value) (l:List α):Prop :=
 ∃ cs,Own fl H e sz v l.length cs∧∀ k (h:k < l.length),P H ((cs.drop (k * sz)).take sz) l[k]
section
variable {α:Type} {P:a0c→List Value→α→Prop} {H G:a0c} {fl e sz:Nat} {v:Value} {l:List α}
theorem b0W.sls (h:b0W P fl H e sz v l):Sls P H e sz v l:=by obtain ⟨cs,h1,h2⟩:=h;exact ⟨cs,h1.sl,h2⟩
theorem b0W.mono (hP:j0t P) (h:b0W P fl H e sz v l) (hx:Ext H G):b0W P fl G e sz v l:=by
 obtain ⟨cs,h1,h2⟩:=h;exact ⟨cs,h1.mono hx,fun k hk=>hP _ _ _ _ hx (h2 k hk)⟩
theorem b0W.nil:b0W P fl H e sz (.slice none 0 0) ([]:List α):=⟨[],Own.nil,fun k hk=>by simp at hk⟩
theorem b0W.slen (h:b0W P fl H e sz v l):d0j v=some (.int .i64 l.length):=h.sls.slen
def Lx (H G:a0c):Prop:=∀ b ro cs,H.blk b=.row ro a0b cs→G.blk b=.row ro a0b cs
theorem b0W.lx (h:b0W P fl G e sz v l) (he:e ≠ a0b) {G':a0c} (hx:d0Z (slB v) G G'):Lx G G':=by
 intro b ro cs hb
 obtain ⟨cs',⟨hl,⟨rfl,_⟩ | ⟨p,cap,rfl,hp,_⟩⟩,_⟩:=h
 ·rw [hx.2 b (a0k hb) (by simp [slB])];exact hb
 ·rw [hx.2 b (a0k hb) (by simp [slB];rintro rfl;rw [hp] at hb;cases hb;exact he rfl)];exact hb
theorem b0W.app (he:e ≠ a0b) (hO:∀ G' cs x,d0Z (slB v) G G'→Lx G G'→P G cs x→P G' cs x) (h:b0W P fl G e sz v l) {e2 c bytes:Nat} {new:List Value} {x:α} (hx:P G new x) (hl:new.length=sz) (hp:new.all a0B=true) (hn:l.length < 1073741824) (hb:bytes≤1024) (hs:0 < sz) (hfl:fl≤G.size) :
  ∃ v' G',j0u fl (G.push (.row false e2 new)) e sz bytes v (.slice (some ⟨G.size,0,none⟩) 1 c)=some (v',G')∧b0W P fl G' e sz v' (l ++ [x])∧d0Z (slB v) G G'∧(∀ H0,H0.size≤fl→Ext H0 G→Ext H0 G'):=by
 obtain ⟨cs,h1,h2⟩:=h
 obtain ⟨v',G',a1,a2,a3,a4⟩:=c0E (e2:=e2) (c:=c) h1 hl hp hn hb hs hfl (bytes:=bytes)
 refine ⟨v',G',a1,⟨cs ++ new,by simpa using a2,fun k hk=>?_⟩,a3,a4⟩
 have hcs:=h1.1
 by_cases hkl:k < l.length
 ·have h3:(k + 1) * sz≤l.length * sz:=R0h _ hkl
  rw [R0o,R0S] at h3
  rw [S0Y hkl,R0X (by omega),S0o (by simp;omega)]
  exact hO _ _ _ a3 (b0W.lx ⟨cs,h1,h2⟩ he a3) (h2 k hkl)
 ·have hke:k=l.length:=by simp at hk;omega
  subst hke
  rw [S0z (Q0W _),R0X (by omega),S0f (by omega),S0O,← hl,Q0Z]
  simpa using hO _ _ _ a3 (b0W.lx ⟨cs,h1,h2⟩ he a3) hx
end
theorem Lim.lx {H G:a0c} {v:Value} {l:List Nat} (h:Lim H v l) (hx:Lx H G):Lim G v l:=by
 obtain ⟨⟨hl,h1 | ⟨b,off,cap,ro,cells,rfl,hb,ho,hcs⟩⟩,h2⟩:=h
 ·exact ⟨⟨hl,.inl h1⟩,h2⟩
 ·exact ⟨⟨hl,.inr ⟨b,off,cap,ro,cells,rfl,hx _ _ _ hb,ho,hcs⟩⟩,h2⟩
theorem c0K.lx {H G:a0c} {v:Value} {a:b0B} (h:c0K H v a) (hx:Lx H G):c0K G v a:=by obtain ⟨s,u,h1,h2,h3⟩:=h;exact ⟨s,u,h1,h2.lx hx,h3.lx hx⟩
theorem g0q.lx {H G:a0c} {v:Value} {e:d0d} (h:g0q H v e) (hx:Lx H G):g0q G v e:=by obtain ⟨s,u,h1,h2,h3⟩:=h;exact ⟨s,u,h1,h2.lx hx,h3.lx hx⟩
end
section
open Go
set_option maxHeartbeats 4000000
variable {fl:Nat} {H G:a0c} {R:a0E} {v w:Value}
def PR (H:a0c) (cs:List Value) (a:b0B):Prop:=c0K H (.agg cs.toArray) a
def PE (H:a0c) (cs:List Value) (e:d0d):Prop:=g0q H (.agg cs.toArray) e
theorem g0A:j0t PR:=fun _ _ _ _ hx h=>c0K.mono h hx
theorem d0A:j0t PE:=fun _ _ _ _ hx h=>g0q.mono h hx
abbrev c0w (H:a0c) (v:Value) (l:List b0B):Prop:=Sls PR H a0h 4 v l
abbrev c0R (H:a0c) (v:Value) (l:List d0d):Prop:=Sls PE H a0x 5 v l
def PS (H:a0c) (cs:List Value) (l:List b0B):Prop:=∃ v,cs=[v]∧c0w H v l
theorem b0H:j0t PS:=fun _ _ _ _ hx ⟨v,h1,h2⟩=>⟨v,h1,h2.mono g0A hx⟩
abbrev f0v (H:a0c) (v:Value) (l:List (List b0B)):Prop:=Sls PS H b0m 1 v l
theorem c0w.load {l:List b0B} (h:c0w H v l) {j:Nat} (hj:j < l.length):∃ w,b0y H true 4 (adr 4 v j)=some w∧c0K H w l[j]:=by
 obtain ⟨cs,h1,_,h3⟩:=Sls.load h hj (by omega);exact ⟨_,h1,h3⟩
theorem c0R.load {l:List d0d} (h:c0R H v l) {j:Nat} (hj:j < l.length):∃ w,b0y H true 5 (adr 5 v j)=some w∧g0q H w l[j]:=by
 obtain ⟨cs,h1,_,h3⟩:=Sls.load h hj (by omega);exact ⟨_,h1,h3⟩
theorem f0v.load {l:List (List b0B)} (h:f0v H v l) {j:Nat} (hj:j < l.length):∃ w,b0y H false 1 (adr 1 v j)=some w∧c0w H w l[j]:=by
 obtain ⟨w,h1,w',h2,h3⟩:=Sls.load1 h hj
 simp at h2;subst h2;exact ⟨_,h1,h3⟩
def Few (S:Nat) (l:List b0B):Prop:=∀ x ∈ l,e0g x≤S∧a0U x.1.2∧a0U x.2.2
theorem Few.sz {S:Nat} {l:List b0B} (h:Few S l) (n:Nat):szR (d0X (l.getD n m0l))≤S + 1:=by
 rw [Q0T]
 by_cases hn:n < l.length
 ·rw [R0a hn]
  obtain ⟨h1,h2,h3⟩:=h _ (R0g hn)
  have:=g0m h2 h3
  simp;omega
 ·rw [R0d (by omega)]
  show szR (d0X m0l)≤_
  rw [d0Y,l0o];omega
end
section
open Go
set_option maxHeartbeats 4000000
variable {fl:Nat} {H G:a0c} {R:a0E} {v w:Value} {a b:List d0d}
theorem b0W.cast {α:Type} {P:a0c→List Value→α→Prop} {fl e sz:Nat} {v v':Value} {l:List α} (h:v=v') (k:b0W P fl H e sz v' l):b0W P fl H e sz v l:=by rw [h];exact k
def v0U (l:List d0d):Prop:=∀ x ∈ l,e0g x.2 < 67108864
def c0L {α:Type} (p:α→Bool) (l:List α):Bool:=l.any p
def d0K {α:Type} (p:α→Bool) (l:List α):Bool:=l.all p
section
variable {α:Type} {p:α→Bool} {l:List α} {i:Nat}
theorem d0f:c0L p []=false:=rfl
theorem c0m:d0K p []=true:=rfl
theorem c0j (h:i < l.length):c0L p (l.take (i + 1))=(c0L p (l.take i) || p l[i]):=by
 unfold c0L;rw [R0l h,List.any_append];simp
theorem b0R (h:i < l.length):d0K p (l.take (i + 1))=(d0K p (l.take i) && p l[i]):=by
 unfold d0K;rw [R0l h,T0a];simp
theorem d0g (h:i < l.length) (hp:p l[i]=true):c0L p l=true:=List.any_eq_true.2 ⟨_,R0g h,hp⟩
theorem d0m (h:i < l.length) (hp:p l[i]=false):d0K p l=false:=by
 unfold d0K;rw [List.all_eq_false];exact ⟨l[i],R0g h,by simp [hp]⟩
end
theorem j0s {p:d0d→Bool} {g:FuncId} (ha:c0R H v a) (hf:fl≤H.size) (hfa:v0U a) (hal:a.length < 1073741824)
  (hg:∀ (fl:Nat) (G:a0c) (v:Value) (e:d0d),fl≤G.size→g0q G v e→e0g e.2 < 67108864→a0N env fl g [v] G (fun r H'=>r=.bool (p e)∧Ext G H') R) :
  a0N env fl I0A [v,.func (.func g) #[] #[]] H (fun r H'=>(∃ z:Int,r=.int .i64 z∧(0≤z ↔ c0L p a=true))∧Ext H H') R:=by
 refine a0d Q0n hf (h:=?_)
 intro ρ h0
 simp [M0M,C0U,C0V,h0,ha.slen]
 refine g0s (n:=a.length) (fun i ρ G=>ρ 0=v∧ρ 1=.func (.func g) #[] #[]∧Ext H G∧c0L p (a.take i)=false)
  rfl rfl (by decide) (by omega) (by simp) (by simp) ?_ ?_ ?_ ?_
 ·exact ⟨by simp [h0],by simp [h0],Ext.refl H,by rw [S0B];exact d0f⟩
 ·intro i ρ ρ' G h hI;simpa [h] using hI
 ·clear h0 ρ
  rintro i ρ G hi gi gn ⟨g0,g1,hx,hc⟩
  have ka:=ha.mono d0A hx
  obtain ⟨w,hl,k0⟩:=c0R.load ka hi
  simp [C0W,C0X,gi,g0,g1,ka.ia hi,hl]
  refine (hg _ _ _ _ hx.1 k0 (hfa _ (R0g hi))).mono ?_
  rintro _ G2 ⟨rfl,hx2⟩
  have hx':=hx.trans hx2
  cases hp:p a[i]
  ·simp
   refine Rnd.mk (by simp [gi]) (by simp [gn]) ⟨by simp [g0],by simp [g1],hx',by rw [c0j hi,hc,hp];rfl⟩
  ·simp [C0Y,gi]
   exact fun _=>d0g hi hp
 ·clear h0 ρ
  rintro ρ G gi gn ⟨g0,g1,hx,hc⟩
  rw [Q0Z] at hc
  simp [C0Z,hc]
theorem g0Y {p:d0d→Bool} {g:FuncId} (ha:c0R H v a) (hf:fl≤H.size) (hfa:v0U a) (hal:a.length < 1073741824)
  (hg:∀ (fl:Nat) (G:a0c) (v:Value) (e:d0d),fl≤G.size→g0q G v e→e0g e.2 < 67108864→a0N env fl g [v] G (fun r H'=>r=.bool (p e)∧Ext G H') R) :
  a0N env fl I0o [v,.func (.func g) #[] #[]] H (fun r H'=>r=.bool (c0L p a)∧Ext H H') R:=by
 refine a0d P0O hf (h:=?_)
 intro ρ h0
 simp [M0o,B0n,B0o,h0]
 refine (j0s (p:=p) ha (Q0W _) hfa hal hg).mono ?_
 rintro _ G2 ⟨⟨z,rfl,hz⟩,hx2⟩
 simp
 intro _
 rw [S0s,R0E];exact hz
theorem h0U {e:d0d} (h:g0q H v e) (hf:fl≤H.size) (hn:e0g e.2 < 67108864):a0N env fl I0p [v] H (fun r H'=>r=.bool (!w0N e)∧Ext H H') R:=by
 have k0:=h
 obtain ⟨s,u,rfl,hs,hu⟩:=h
 refine a0d P0P hf (h:=?_)
 intro ρ h0
 simp [M0p,B0p,B0q,h0]
 generalize hG:Array.push H _=G
 obtain ⟨hx2,b0⟩:=e0L hG
 have hx:=Ext.refl H
 clear hG
 replace hx:=hx.trans hx2;replace k0:=k0.mono hx2
 try simp [b0]
 refine (l0I k0 hx.1 hn).mono ?_
 rintro _ G2 ⟨rfl,hx2⟩
 simp
def c0C (H:a0c) (v:Value) (rows:List (List b0B)):Prop:=∃ s,v=.agg #[s]∧f0v H s rows
def j0L (n:Int) (r:List b0B):Bool:=decide ((r.length:Int)=n) && d0K i0K r
def d0W (rows:List (List b0B)) (n:Int):Bool:=decide (0≤n) && decide (n≤6) && decide (rows.length≤40) && d0K (j0L n) rows
theorem e0B {S:Nat} {rows:List (List b0B)} {n:Int} (h:c0C H v rows) (hf:fl≤H.size) (hS:S < 67108864) (hr:∀ r ∈ rows,Few S r∧r.length < 1073741824) (hrl:rows.length < 1073741824) :
  a0N env fl G0T [v,.int .i64 n] H (fun r H'=>r=.bool (d0W rows n)∧Ext H H') R:=by
 obtain ⟨s,rfl,hs⟩:=h
 refine a0d P0p hf (h:=?_)
 intro ρ h0
 simp [L0R,z0u,h0,hs.cells]
 generalize hG:Array.push H _=G
 obtain ⟨hx2,b0⟩:=e0L hG
 have hx:=Ext.refl H
 clear hG
 replace hx:=hx.trans hx2
 unfold d0W
 by_cases h1:n < 0
 ·have h1':¬ 0≤n:=by omega
  simp [m0c,o0V,h0,h1,h1']
 ·have h1':0≤n:=by omega
  by_cases h2:6 < n
  ·have h2':¬ n≤6:=by omega
   simp [m0c,o0V,h0,h1,h1',h2,h2']
  ·have h2':n≤6:=by omega
   by_cases h3:40 < rows.length
   ·have h3':¬ rows.length≤40:=by omega
    have h3'':(40:Int) < (rows.length:Int):=by omega
    simp [m0c,o0V,h0,b0,(hs.mono b0H hx).slen,hs.slen,h1,h1',h2,h2',h3,h3',h3'']
   ·have h3':rows.length≤40:=by omega
    have h3'':¬ (40:Int) < (rows.length:Int):=by omega
    simp [m0c,z0v,h0,b0,hs.slen,h1,h1',h2,h2',h3,h3',h3'']
    refine g0s (n:=rows.length) (fun i ρ G=>ρ 1=.int .i64 n∧ρ 22=s∧Ext H G∧d0K (j0L n) (rows.take i)=true)
     rfl rfl (by decide) (by omega) (by simp) (by simp) ?_ ?_ ?_ ?_
    ·exact ⟨by simp [h0],by simp,hx,by rw [S0B];exact c0m⟩
    ·intro i ρ ρ' G h hI;simpa [h] using hI
    ·clear h0 ρ hx b0 hx2
     rintro i ρ G hi gi gn ⟨g1,g22,hx,hc⟩
     have ks:=hs.mono b0H hx
     obtain ⟨w,hl,kw⟩:=f0v.load ks hi
     obtain ⟨hfew,hrl2⟩:=hr _ (R0g hi)
     by_cases hlen:(rows[i].length:Int)=n
     ·simp [u0v,u0w,z0x,g1,g22,gi,ks.ia hi,hl,kw.slen,hlen]
      refine x0P (n:=rows[i].length) (fun j ρ G=>ρ 1=.int .i64 n∧ρ 22=s∧ρ 24=.int .i64 (i:Int)∧ρ 23=.int .i64 (rows.length:Int)∧ρ 32=w∧Ext H G∧c0w G w rows[i]∧d0K i0K (rows[i].take j)=true)
       rfl rfl (by decide) (by omega) (by simp) (by simp [hlen]) ?_ ?_ ?_ ?_
      ·exact ⟨by simp [g1],by simp [g22],by simp [gi],by simp [gn],by simp,hx,kw,by rw [S0B];exact c0m⟩
      ·intro i ρ ρ' G h hI;simpa [h] using hI
      ·clear g1 g22 gi gn hx kw hl ks ρ G
       rintro j ρ G hj gj gm ⟨g1,g22,gi,gn,g32,hx,kw,hcj⟩
       obtain ⟨x,hlx,k0⟩:=c0w.load kw hj
       obtain ⟨s1,s2,rfl,k1,k2⟩:=id k0
       have hf2:=hfew _ (R0g hj)
       have hsz:=hx.1
       simp [u0r,g1,g22,g32,gj,kw.ia hj,hlx,k1.cells,k1.plain,k2.cells,k2.plain,hsz]
       generalize hN:Array.setIfInBounds (Array.push _ _) _ _=G3
       obtain ⟨hx2,b1⟩:=new1 hN
       clear hN
       replace hx:=hx.trans hx2;replace k0:=k0.mono hx2
       replace kw:=kw.mono g0A hx2
       simp [u0s,b1]
       refine (f0f k0 hx.1 (by omega)).mono ?_
       rintro _ G2 ⟨rfl,hx2⟩
       replace hx:=hx.trans hx2
       replace kw:=kw.mono g0A hx2
       cases hm:i0K rows[i][j]
       ·simp [u0t]
        intros
        exact d0m hi (by unfold j0L;rw [d0m hj hm];simp)
       ·simp
        exact Rnd.mk (by simp [gj]) (by simp [gm]) ⟨by simp [g1],by simp [g22],by simp [gi],by simp [gn],by simp [g32],hx,kw,by rw [b0R hj,hcj,hm];rfl⟩
      ·rintro ρ G gj gm ⟨g1,g22,gi,gn,g32,hx,kw,hcj⟩
       rw [Q0Z] at hcj
       simp
       exact Rnd.mk gi gn ⟨g1,g22,hx,by rw [b0R hi,hc];unfold j0L;simp [hlen,hcj]⟩
     ·simp [u0v,u0w,z0w,g1,g22,gi,ks.ia hi,hl,kw.slen,hlen]
      intro _
      exact d0m hi (by unfold j0L;simp [hlen])
    ·clear h0 ρ hx b0 hx2
     rintro ρ G gi gn ⟨g1,g22,hx,hc⟩
     rw [Q0Z] at hc
     simp [u0u,hc]
def c0h (rows:List (List b0B)) (n:Int) (d:List d0d):Bool:=d0W rows n && decide (d.length=rows.length) && !c0L (fun e=>!w0N e) d
theorem j0v {S:Nat} {rows:List (List b0B)} {n:Int} {d:List d0d} (h:c0C H v rows) (hd:c0R H w d) (hf:fl≤H.size) (hS:S < 67108864) (hr:∀ r ∈ rows,Few S r∧r.length < 1073741824) (hrl:rows.length < 1073741824) (hfd:v0U d) (hdl:d.length < 1073741824) :
  a0N env fl I0a [v,.int .i64 n,w] H (fun r H'=>r=.bool (c0h rows n d)∧Ext H H') R:=by
 have kt:=h
 obtain ⟨s,rfl,hs⟩:=h
 refine a0d P0s hf (h:=?_)
 intro ρ h0
 simp [L0U,z0C,h0,hs.cells]
 generalize hG:Array.push H _=G
 obtain ⟨hx2,b0⟩:=e0L hG
 have hx:=Ext.refl H
 clear hG
 replace hx:=hx.trans hx2
 have kt2:c0C G (.agg #[s]) rows:=⟨s,rfl,hs.mono b0H hx⟩
 unfold c0h
 simp [z0D,h0,b0]
 refine (e0B (n:=n) kt2 hx.1 hS hr hrl).mono ?_
 rintro _ G2 ⟨rfl,hx2⟩
 replace b0:=hx2.blk b0;replace hx:=hx.trans hx2
 cases h1:d0W rows n
 ·simp
 ·by_cases h2:d.length=rows.length
  ·have h2':(d.length:Int)=(rows.length:Int):=by omega
   simp [h0,b0,hd.slen,hs.slen,h2,h2']
   refine (g0Y (p:=fun e=>!w0N e) (hd.mono d0A hx) hx.1 hfd hdl (fun fl G v e hf h hn=>h0U h hf hn)).mono ?_
   rintro _ G2 ⟨rfl,hx2⟩
   simp
  ·have h2':¬ (d.length:Int)=(rows.length:Int):=by omega
   simp [h0,b0,hd.slen,hs.slen,h2,h2']
end
section
open Go
set_option maxHeartbeats 4000000
variable {fl:Nat} {H G:a0c} {R:a0E} {v w u:Value}
def LxT (e:Nat) (H G:a0c):Prop:=∀ b ro cs,H.blk b=.row ro e cs→G.blk b=.row ro e cs
theorem b0W.lxT {α:Type} {P:a0c→List Value→α→Prop} {fl e sz e':Nat} {v:Value} {l:List α} (h:b0W P fl G e sz v l) (he:e ≠ e') {G':a0c} (hx:d0Z (slB v) G G'):LxT e' G G':=by
 intro b ro cs hb
 obtain ⟨cs',⟨hl,⟨rfl,_⟩ | ⟨p,cap,rfl,hp,_⟩⟩,_⟩:=h
 ·rw [hx.2 b (a0k hb) (by simp [slB])];exact hb
 ·rw [hx.2 b (a0k hb) (by simp [slB];rintro rfl;rw [hp] at hb;cases hb;exact he rfl)];exact hb
theorem c0w.lx2 {l:List b0B} (h:c0w H v l) (h1:LxT a0h H G) (h2:Lx H G):c0w G v l:=by
 obtain ⟨cs,⟨hl,hs⟩,hp⟩:=h
 refine ⟨cs,⟨hl,?_⟩,fun k hk=>c0K.lx (hp k hk) h2⟩
 rcases hs with hs | ⟨b,off,cap,ro,cells,rfl,hb,ho,hcs⟩
 ·exact .inl hs
 ·exact .inr ⟨b,off,cap,ro,cells,rfl,h1 _ _ _ hb,ho,hcs⟩
theorem c0w.off {l:List b0B} {o:Option Nat} (h:c0w H v l) (hx:d0Z o H G) (hne:slB v=none ∨ slB v ≠ o) (h2:Lx H G):c0w G v l:=by
 obtain ⟨cs,⟨hl,hs⟩,hp⟩:=h
 refine ⟨cs,⟨hl,?_⟩,fun k hk=>c0K.lx (hp k hk) h2⟩
 rcases hs with hs | ⟨b,off,cap,ro,cells,rfl,hb,ho,hcs⟩
 ·exact .inl hs
 ·refine .inr ⟨b,off,cap,ro,cells,rfl,?_,ho,hcs⟩
  rw [hx.2 b (a0k hb) (by rcases hne with h | h;simp [slB] at h;exact fun h3=>h h3.symm)];exact hb
theorem c0w.lt {l:List b0B} (h:c0w H v l) {b:Nat} (hb:slB v=some b):b < H.size:=by
 obtain ⟨cs,⟨hl,⟨rfl,_⟩ | ⟨b',off,cap,ro,cells,rfl,hb',ho,hcs⟩⟩,hp⟩:=h
 ·simp [slB] at hb
 ·simp [slB] at hb;subst hb;exact a0k hb'
structure LPt where
 n:Int
 A:List (List b0B)
 B:List b0B
 C:List b0B
theorem b0W.ne {α:Type} {Q:a0c→List Value→α→Prop} {fl e sz e' p:Nat} {v:Value} {l:List α} {cs:List Value} {ro:Bool} (h:b0W Q fl G e sz v l) (hb:a0c.blk G p=.row ro e' cs) (he:e ≠ e'):slB v ≠ some p:=by
 obtain ⟨cs',⟨hl,⟨rfl,_⟩ | ⟨b,cap,rfl,hp,_⟩⟩,_⟩:=h
 ·simp [slB]
 ·simp [slB];rintro rfl;rw [hp] at hb;cases hb;exact he rfl
theorem b0W.cells {α:Type} {Q:a0c→List Value→α→Prop} {fl e sz:Nat} {v:Value} {l:List α} (h:b0W Q fl G e sz v l):a0M v=[v]∧a0B v=true:=⟨h.sls.cells,h.sls.plain⟩
theorem b0W.low {α:Type} {Q:a0c→List Value→α→Prop} {fl fl' e sz:Nat} {v:Value} {l:List α} (h:b0W Q fl G e sz v l) (hl:fl'≤fl):b0W Q fl' G e sz v l:=by
 obtain ⟨cs',⟨hl',h1 | ⟨b',cap,rfl,hp,hf⟩⟩,h2⟩:=h
 ·exact ⟨cs',⟨hl',.inl h1⟩,h2⟩
 ·exact ⟨cs',⟨hl',.inr ⟨b',cap,rfl,hp,by omega⟩⟩,h2⟩
theorem b0W.off {α:Type} {Q:a0c→List Value→α→Prop} {fl e sz:Nat} {v:Value} {l:List α} {o:Option Nat} {G':a0c} (h:b0W Q fl G e sz v l) (hx:d0Z o G G') (hne:slB v=none ∨ slB v ≠ o) (hQ:∀ cs x,Q G cs x→Q G' cs x):b0W Q fl G' e sz v l:=by
 obtain ⟨cs',⟨hl',h1 | ⟨b',cap,rfl,hp,hf⟩⟩,h2⟩:=h
 ·exact ⟨cs',⟨hl',.inl h1⟩,fun k hk=>hQ _ _ (h2 k hk)⟩
 ·refine ⟨cs',⟨hl',.inr ⟨b',cap,rfl,?_,hf⟩⟩,fun k hk=>hQ _ _ (h2 k hk)⟩
  rw [hx.2 b' (a0k hp) (by rcases hne with h | h;simp [slB] at h;exact fun h3=>h h3.symm)];exact hp
theorem b0W.lxm {α:Type} {Q:a0c→List Value→α→Prop} {fl e sz:Nat} {v:Value} {l:List α} {G':a0c} {Q':a0c→List Value→α→Prop} (h:b0W Q fl G e sz v l) (hx:LxT e G G') (hQ:∀ cs x,Q G cs x→Q' G' cs x):b0W Q' fl G' e sz v l:=by
 obtain ⟨cs',⟨hl',h1 | ⟨b',cap,rfl,hp,hf⟩⟩,h2⟩:=h
 ·exact ⟨cs',⟨hl',.inl h1⟩,fun k hk=>hQ _ _ (h2 k hk)⟩
 ·exact ⟨cs',⟨hl',.inr ⟨b',cap,rfl,hx _ _ _ hp,hf⟩⟩,fun k hk=>hQ _ _ (h2 k hk)⟩
theorem b0W.blkOf {α:Type} {Q:a0c→List Value→α→Prop} {fl e sz:Nat} {v:Value} {l:List α} (h:b0W Q fl G e sz v l):AI.blkW v=[] ∨ ∃ b,AI.blkW v=[b]∧slB v=some b:=by
 obtain ⟨cs',⟨hl',⟨rfl,_⟩ | ⟨b',cap,rfl,hp,hf⟩⟩,h2⟩:=h
 ·exact .inl rfl
 ·by_cases h00:l.length=0∧cap=0
  ·exact .inl (by simp only [AI.blkW];rw [R0k h00])
  ·exact .inr ⟨b',by simp only [AI.blkW];rw [R0c h00],rfl⟩
theorem h0s {G3:a0c} {q e e':Nat} {X:Blk} {cs:List Value} {ro:Bool} (hS:Array.setIfInBounds G q X=G3) (hb:a0c.blk G q=.row ro e' cs) (hne:e' ≠ e):LxT e G G3:=by
 intro b ro' cs' hb'
 rw [← hS,a0L (by rintro rfl;rw [hb] at hb';cases hb';exact hne rfl)];exact hb'
end
end Go.Proofs.YtacninhfdfhgjaaGreat.AI
