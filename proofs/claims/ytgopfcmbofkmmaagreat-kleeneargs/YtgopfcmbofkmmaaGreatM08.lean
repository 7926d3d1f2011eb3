/- Part 9 of the proof. -/
import Derived.Test.YtgopfcmbofkmmaaGreatRows
import Derived.Test.YtgopfcmbofkmmaaGreatM07
set_option linter.unusedVariables false
set_option linter.unusedSimpArgs false
set_option linter.unusedSectionVars false
set_option maxHeartbeats 4000000
namespace Go.Proofs.YtgopfcmbofkmmaaGreat.AI
open Go
section
set_option maxRecDepth 20000
variable {fl:Nat} {H G:a0c} {R:a0P} {v w:Value} {a b:List Nat}
theorem p0r {e p o n c:Nat} {cs:List Value} (hb:G.bk p=.row false e cs):elemOk G e (.slice (some ⟨p,o,none⟩) n c)=true:=by
 unfold elemOk;simp only [hb];simp
theorem n0j {p o n cap lo hi:Nat} {x y:Option Value} (hx:bnd 0 x=some lo) (hy:bnd n y=some hi) (h1:lo<=hi) (h2:hi<=n) :
  d0s 1 (.slice (some ⟨p,o,none⟩) n cap) x y none=some (.slice (some ⟨p,o + lo,none⟩) (hi - lo) (if cap=unk then unk else cap - lo)):=by
 unfold d0s;simp only [hx,hy];rw [M1Z ⟨h1,h2⟩];simp
theorem z0m {p o n cap:Nat} {ro:Bool} {L:List Nat} (hb:G.bk p=.row ro a0b (b0C L)) (hok:b0g L) (hL:o + n<=L.length):Lim G (.slice (some ⟨p,o,none⟩) n cap) ((L.drop o).take n):=by
 have hl:((L.drop o).take n).length=n:=by simp;omega
 refine ⟨⟨by simp [hl],.inr ⟨p,o,cap,ro,b0C L,by rw [hl],hb,by simp [hl];omega,?_⟩⟩,fun x hx=>hok x (List.mem_of_mem_drop (O1n hx))⟩
 rw [hl,N1W];simp [b0C,List.map_take,List.map_drop]
theorem z0B {L:List Nat} {o:Nat}:∀ {n:Nat},o + n<=L.length->a0q ((L.drop o).take n)=win L o n
 | 0,_=>by simp [a0q,win]
 | n + 1,h=>by
  rw [a0H (by simp;omega),z0B (by omega),win]
  simp [M1R]
theorem F1q {b:List Nat} {k n:Nat} (hok:b0g b) (hk:b.length=k + 1) (hn:n<=31) (ht:b.getD k 0 * 2 ^ n < 4294967296):a0q b * 2 ^ n < 4294967296 ^ (k + 1):=by
 have h1:a0q b=win b 0 k + 4294967296 ^ k * b.getD k 0:=by
  rw [<- k0Q (L:=b) (n:=k + 1) (by omega),win,N1q]
 have h2:=l0o hok 0 k
 have h3:(b.getD k 0 + 1) * 2 ^ n<=4294967296:=by
  obtain ⟨m,hm⟩:∃ m,4294967296=m * 2 ^ n:=⟨2 ^ (32 - n),by rw [<- O1S,show 32 - n + n=32 by omega]⟩
  rw [hm] at ht ⊢
  exact N1e _ (O1X ht)
 have h4:a0q b < 4294967296 ^ k * (b.getD k 0 + 1):=by rw [h1,N1a,N1W];omega
 have hp:0 < 2 ^ n:=O1T n
 calc a0q b * 2 ^ n < 4294967296 ^ k * (b.getD k 0 + 1) * 2 ^ n:=Nat.mul_lt_mul_of_pos_right h4 hp
  _=4294967296 ^ k * ((b.getD k 0 + 1) * 2 ^ n):=N1h ..
  _<=4294967296 ^ k * 4294967296:=N1w _ h3
  _=4294967296 ^ (k + 1):=(N1m ..).symm
theorem S0e {o:List Nat} {k:Nat} (ho:o.length=k + 1) (h:a0q o < 4294967296 ^ k):a0q (o.take k)=a0q o:=by
 have h1:a0q o=a0q (o.take k) + 4294967296 ^ k * o.getD k 0:=by
  rw [<- a0H (by omega),N1c (by omega)]
 have:o.getD k 0=0:=by
  by_cases h0:o.getD k 0=0
  ·exact h0
  ·have:=Nat.le_mul_of_pos_right (4294967296 ^ k) (by omega:0 < o.getD k 0);omega
 rw [this] at h1;omega
theorem F1p {b:List Nat} {k n:Nat} (hk:b.length=k + 1) (ht:2147483648<=b.getD k 0 * 2 ^ n):2147483648 * 4294967296 ^ k<=a0q b * 2 ^ n:=by
 have h1:a0q b=win b 0 k + 4294967296 ^ k * b.getD k 0:=by
  rw [<- k0Q (L:=b) (n:=k + 1) (by omega),win,N1q]
 rw [h1,N1t,N1h,N1p 2147483648]
 have:=N1w (4294967296 ^ k) ht
 omega
theorem H0g {x y la k n B:Nat} (h1:x < B ^ la) (hn:2 ^ n<=2147483648) (h2:2147483648 * B ^ k<=y):x * 2 ^ n < y * B ^ (la - k) ∨ la < k:=by
 by_cases hk:k<=la
 ·left
  have hp:0 < 2 ^ n:=O1T n
  calc x * 2 ^ n < B ^ la * 2 ^ n:=Nat.mul_lt_mul_of_pos_right h1 hp
   _<=B ^ la * 2147483648:=N1w _ hn
   _=2147483648 * B ^ k * B ^ (la - k):=by rw [N1h,<- O1S,show k + (la - k)=la by omega,N1p]
   _<=y * B ^ (la - k):=N1e _ h2
 ·right;omega
theorem Won.trans {L X Y:List Nat} {o n:Nat} (h:Won L X o n) (k:Won X Y o n):Won L Y o n:=⟨k.1.trans h.1,k.2.1,fun j hj=>(k.2.2 j hj).trans (h.2.2 j hj)⟩
theorem F1f {tag r:Nat} (h:r < 4294967296):c0k tag .shl (.int .u64 (r:Int)) (.int .u64 32)=some (.int .u64 ((r * 4294967296:Nat):Int)):=by
 have h1:=E0Y (tag:=tag) (n:=r) (s:=32) (k':=.u64) (by omega)
 have h2:r * 2 ^ 32 % 18446744073709551616=r * 4294967296:=by omega
 rw [h2] at h1;exact h1
theorem K1Y {tag x y:Nat} (hx:x < 4294967296) (hy:y < 4294967296):c0k tag .or (.int .u64 ((x * 4294967296:Nat):Int)) (.int .u64 (y:Int))=some (.int .u64 ((x * 4294967296 + y:Nat):Int)):=by
 rw [w1p (by omega) (by omega),v0u hy]
theorem w0p:∀ N:Nat,e0W [.int .u32 0] N=b0C (List.replicate N 0)
 | 0=>rfl
 | n + 1=>by rw [e0W,w0p n];rfl
theorem m0A (ha:Lim H v a) (hb:Lim H w b) (hf:fl<=H.size) (hna:a.length < 1073741823) (h2:2<=b.length) (hle:b.length<=a.length) (hb0:b.getD (b.length - 1) 0 ≠ 0) :
  b0k env fl y0I [v,w] H (fun r H'=>(∃ q o q' o',r=.tuple #[q,q']/\Lim H' q o/\a0q o=a0q a / a0q b/\o.length<=a.length/\Lim H' q' o'/\a0q o' = a0q a % a0q b/\o'.length<=a.length)/\Ext H H') R:=by
 refine a0i I1o hf (h:=?_)
 intro ρ h0
 simp only [R0F]
 obtain ⟨k,hk⟩:∃ k,b.length=k + 1:=⟨b.length - 1,by omega⟩
 have hk1:1<=k:=by omega
 rw [show b.length - 1=k by omega] at hb0
 have htl:=c0z hb.ok k
 have hial:=hb.ia (k:=.i64) (show k < b.length by omega)
 have hldl:=hb.load (show k < b.length by omega) (Ext.refl H)
 have htlt:=@F1q b k
 have htge:=@F1p b k
 generalize htp:b.getD k 0=tp at *
 have e0:IntKind.i64.wrap ((b.length:Int) - 1)=((k:Nat):Int):=by rw [b0d (by omega) (by omega)];omega
 simp [C0l,C0m,h0]
 refine b0X (fun c t G=>∃ n:Nat,G=H/\n + c=31/\t.length=147/\get t 0=v/\get t 1=w/\get t 6=.int .i64 ((n:Nat):Int)/\tp * 2 ^ n < 4294967296)
  (fun t G=>∃ n:Nat,G=H/\n<=31/\t.length=147/\get t 0=v/\get t 1=w/\get t 6=.int .i64 ((n:Nat):Int)/\tp * 2 ^ n < 4294967296/\2147483648<=tp * 2 ^ n) 31 ?_ ?_ ?_
 ·exact ⟨0,rfl,by omega,by simp,by simp [h0],by simp [h0],by simp,by omega⟩
 ·clear h0 ρ
  rintro c t G ⟨n,rfl,hn,ht,g0,g1,g6,hy⟩
  obtain ⟨ρ,rfl⟩:=toT ht
  simp only [b0H,Nat.reduceLT] at g0 g1 g6
  have hy2:tp * 2 ^ (n + 1)=2 * (tp * 2 ^ n):=by rw [N1m,<- N1h];omega
  have hy3:2 ^ n<=tp * 2 ^ n:=Nat.le_mul_of_pos_left _ (by omega)
  have hy4:n=31->2147483648<=tp * 2 ^ n:=by rintro rfl;exact hy3
  have s1:=q0m (tag:=0) (n:=tp) (s:=n) (k':=.i64) (by omega)
  rw [N1o hy] at s1
  generalize hyd:tp * 2 ^ n=y at *
  have s2:c0k 0 .shr (.int .u32 (y:Int)) (.int .u64 31)=some (.int .u32 ((y / 2147483648:Nat):Int)):=q0n (tag:=0) (n:=y) (s:=31) (k':=.u64) (by omega)
  have e9:IntKind.i64.wrap ((n:Int) + 1)=((n + 1:Nat):Int):=by rw [b0d (by omega) (by omega)];omega
  by_cases hd:y / 2147483648=0
  ·have hdb:((y / 2147483648:Nat) == 0)=true:=by simp [hd]
   simp [-Int.natCast_ediv,-Int.natCast_add,-beq_iff_eq,t0M,t0N,g0,g1,g6,hb.slen,e0,hial,hldl,s1,s2,hdb,e9]
   exact ⟨c - 1,by omega,n + 1,by omega,rfl,by rw [hy2];omega⟩
  ·have hdb:((y / 2147483648:Nat) == 0)=false:=by simp [hd]
   simp [-Int.natCast_ediv,-Int.natCast_add,-beq_iff_eq,t0M,t0N,g0,g1,g6,hb.slen,e0,hial,hldl,s1,s2,hdb,e9]
   exact ⟨n,by omega,rfl,by rw [hyd];exact hy,by rw [hyd];omega⟩
 ·clear h0 ρ
  rintro t G ⟨n,rfl,hn,ht,g0,g1,g6,hy,hy2⟩
  obtain ⟨ρ,rfl⟩:=toT ht
  simp only [b0H,Nat.reduceLT] at g0 g1 g6
  refine c0t ?_
  simp [C0n,g0,g1,g6]
  refine (g0P ha (M1U _) (by omega) (by omega)).mo ?_
  rintro u G1 ⟨⟨L0,hu,hok0,hv0,hl0⟩,hx1⟩
  try simp [g0,g1,g6]
  refine (g0P (hb.mo hx1) hx1.1 (by omega) (by omega)).mo ?_
  rintro u2 G2 ⟨⟨L1,hu1,hok1,hv1,hl1⟩,hx2⟩
  have hx:=hx1.trans hx2
  have hxs:=hx.1
  have hx1s:=hx1.1
  obtain ⟨hul,⟨_,hbad⟩ | ⟨P,capu,rfl,hP,hfP⟩⟩:=hu.mo hx2
  ·omega
  obtain ⟨hul1,⟨_,hbad⟩ | ⟨Q,capv,rfl,hQ,hfQ⟩⟩:=hu1
  ·omega
  have hPl:P < G1.size:=by
   obtain ⟨_,⟨hbad,_⟩ | ⟨P',cap',he,hP',_⟩⟩:=hu
   ·cases hbad
   ·simp at he;rw [he.1];exact a0r hP'
  have hQl:=a0r hQ
  -- the divisor
  have hVlt:=htlt hb.ok hk hn hy
  have hVge:=htge hk hy2
  have hVt:=S0e (o:=L1) (k:=b.length) hl1 (by rw [hv1,hk];exact hVlt)
  have hlt0:=H0g (x:=a0q a) (y:=a0q b * 2 ^ n) (la:=a.length) (k:=k) (n:=n) (B:=4294967296) (g0h a ha.ok) (O1E (n:=2) (by omega) hn) hVge
  have hlt0:a0q a * 2 ^ n < a0q b * 2 ^ n * 4294967296 ^ (a.length - k):=by rcases hlt0 with h | h;exact h;omega
  have hpn:0 < 2 ^ n:=O1T n
  have hqv:a0q a / a0q b=a0q a * 2 ^ n / (a0q b * 2 ^ n):=(Nat.mul_div_mul_right _ _ hpn).symm
  have hrv:a0q a % a0q b=a0q a * 2 ^ n % (a0q b * 2 ^ n) / 2 ^ n:=by rw [Nat.mul_mod_mul_right,Nat.mul_div_cancel _ hpn]
  rw [hv1] at hVt
  rw [hqv,hrv]
  generalize a0q b * 2 ^ n=V at *
  generalize a0q a * 2 ^ n=U0 at *
  clear hqv hrv htlt htge hial hldl e0 htp hb0 htl hy hy2 hul hul1 hpn hu hx1 hx2
  obtain ⟨j,hj⟩:∃ j,k=j + 1:=⟨k - 1,by omega⟩
  generalize hK:b.length=K at *
  have hLv:((L1.drop 0).take K)=L1.take K:=by rw [O1c]
  have hsl:=hb.slen
  rw [hK] at hsl
  have hslv:=n0j (p:=Q) (o:=0) (cap:=capv) (n:=K + 1) (x:=none) (y:=some (.int .i64 (K:Int))) (lo:=0) (hi:=K) rfl (by simp) (by omega) (by omega)
  rw [N1O,P1e,P1e] at hslv
  generalize (if capv=unk then unk else capv)=capw at hslv
  have hw1:IntKind.i64.wrap (((a.length + 1:Nat):Int) - (K:Int))=((a.length - k:Nat):Int):=by rw [b0d (by omega) (by omega)];omega
  have hmn:v0t true (.int .i64 ((a.length - k:Nat):Int)) [.int .i64 0]=some (.int .i64 ((a.length - k:Nat):Int)):=by
   simp only [v0t,mn2];rw [M1Z trivial,M1V (by omega)]
  have hm:=p0i (bytes:=4) (k:=.i64) (k':=.i64) (l:=a.length - k) (c:=a.length - k) (M1U _) (by omega) (by omega)
  generalize hN:a.length - k=N at *
  simp [-Int.natCast_add,hsl,p0r hQ,hslv]
  simp [-Int.natCast_add,C0o,C0p,i0q,hw1,hmn,hm]
  generalize hPQ:G2.size=PQ
  generalize hG3:G2.push (.row false a0b (e0W [.int .u32 0] N))=G3
  have hx3:Ext G2 G3:=by rw [<- hG3];exact (Ext.refl _).push
  have hP3:=hx3.bk hP
  have hQ3:=hx3.bk hQ
  have hPQ3:a0c.bk G3 PQ=.row false a0b (b0C (List.replicate N 0)):=by rw [<- hG3,<- hPQ,a0N,w0p]
  replace hx:=hx.trans hx3
  have hv3:Lim G3 (.slice (some ⟨Q,0,none⟩) K capw) (L1.take K):=by rw [<- hLv];exact z0m hQ3 hok1 (by omega)
  have hLl:(L1.take K).length=K:=by simp;omega
  have hok2:=hv3.ok
  generalize L1.take K=Vl at *
  clear hG3 hx3 hP hQ hQ3 hok1 hslv hLv hv1 hl1 hm hmn hw1 L1
  generalize hSU:Value.slice (some ⟨P,0,none⟩) (a.length + 1) capu=SU
  generalize hSV:Value.slice (some ⟨Q,0,none⟩) K capw=SV at *
  generalize hSQ:Value.slice (some ⟨PQ,0,none⟩) N N=SQ
  -- its highest limbs
  have hia1:=hv3.ia (k:=.i64) (show k < Vl.length by omega)
  have hia2:=hv3.ia (k:=.i64) (show j < Vl.length by omega)
  have hld1:=hv3.load (show k < Vl.length by omega) (Ext.refl _)
  have hld2:=hv3.load (show j < Vl.length by omega) (Ext.refl _)
  have hV1:V=win Vl 0 k + 4294967296 ^ k * Vl.getD k 0:=by rw [<- hVt,<- k0Q (L:=Vl) (n:=k + 1) (by omega),win,N1q]
  have hV2:V=win Vl 0 j + 4294967296 ^ j * (Vl.getD k 0 * 4294967296 + Vl.getD j 0):=by
   rw [<- hVt,<- k0Q (L:=Vl) (n:=k + 1) (by omega),S0g (by omega),show k + 1 - 1=k by omega,show k + 1 - 2=j by omega,N1q,N1q]
  have hTt:=c0z hok2 k
  have hTn:=c0z hok2 j
  have hTg:2147483648<=Vl.getD k 0:=by
   by_cases h:2147483648<=Vl.getD k 0
   ·exact h
   ·exfalso
    have h3:=l0o hok2 0 k
    have:4294967296 ^ k * (Vl.getD k 0 + 1)<=4294967296 ^ k * 2147483648:=N1w _ (by omega)
    rw [N1a,N1W] at this
    rw [N1p] at hVge
    omega
  clear hV1
  generalize Vl.getD k 0=top at *
  generalize Vl.getD j 0=next at *
  have et:IntKind.u64.wrap (top:Int)=(top:Int):=by rw [a0x];omega
  have en:IntKind.u64.wrap (next:Int)=(next:Int):=by rw [a0x];omega
  have ew1:IntKind.i64.wrap ((K:Int) - 1)=(k:Int):=by rw [b0d (by omega) (by omega)];omega
  have ew2:IntKind.i64.wrap ((K:Int) - 2)=(j:Int):=by rw [b0d (by omega) (by omega)];omega
  have ew3:IntKind.i64.wrap (((a.length + 1:Nat):Int) - (K:Int))=(N:Int):=by rw [b0d (by omega) (by omega)];omega
  have ew4:IntKind.i64.wrap ((N:Int) - 1)=(N:Int) - 1:=b0d (by omega) (by omega)
  have hslu:i0q SU=some (.int .i64 ((a.length + 1:Nat):Int)):=by rw [<- hSU];rfl
  have hslPQ:slB SV ≠ some PQ:=by rw [<- hSV];simp [slB];omega
  have hslP:slB SV ≠ some P:=by rw [<- hSV];simp [slB];omega
  refine c0t ?_
  simp [-Int.natCast_add,C0q,C0r,hv3.slen,ew1,ew2,hia1,hia2,hld1,hld2,et,en,hLl,hslu,ew3,ew4,g6]
  clear hia1 hia2 hld1 hld2 et en ew1 ew2 ew3 ew4 hslu hsl
  refine b0X (fun c t G'=>∃ L Qs,t.length=147/\get t 4=SQ/\get t 6=.int .i64 (n:Int)/\get t 7=SU/\get t 8=SV/\get t 9=.int .i64 (K:Int)/\get t 10=.int .u64 (top:Int)/\get t 11=.int .u64 (next:Int)/\get t 12=.int .i64 ((c:Int) - 1) /\
    Ext G G'/\Lim G' SV Vl/\a0c.bk G' P=.row false a0b (b0C L)/\a0c.bk G' PQ=.row false a0b (b0C Qs)/\L.length=a.length + 1/\b0g L/\Qs.length=N/\b0g Qs/\c<=N/\U0=a0q (Qs.drop c) * 4294967296 ^ c * V + a0q L/\a0q L < V * 4294967296 ^ c)
   (fun t G'=>∃ L Qs,t.length=147/\get t 4=SQ/\get t 6=.int .i64 (n:Int)/\get t 7=SU/\get t 9=.int .i64 (K:Int) /\
    Ext G G'/\a0c.bk G' P=.row false a0b (b0C L)/\a0c.bk G' PQ=.row false a0b (b0C Qs)/\L.length=a.length + 1/\b0g L/\Qs.length=N/\b0g Qs/\U0=a0q Qs * V + a0q L/\a0q L < V) N ?_ ?_ ?_
  ·refine ⟨L0,List.replicate N 0,by simp,by simp [hSQ],by simp [g6],by simp [hSU],by simp,by simp,by simp,by simp,by simp,hx,hv3,hP3,hPQ3,hl0,hok0,by simp,fun z hz=>by rw [P1i] at hz;omega,M1U _,?_,by rw [hv0];exact hlt0⟩
   rw [O1N (by simp),hv0];simp [a0q]
  ·clear hP3 hPQ3 hv0 hl0 hok0 L0 g0 g1 g6 ht ρ hx hv3 G3
   rintro c t G3 ⟨L,Qs,ht,g4,g6,g7,g8,g9,g10,g11,g12,hx,hv3,hP,hPQb,hLlen,hLok,hQlen,hQok,hcN,hU,hlt⟩
   obtain ⟨ρ,rfl⟩:=toT ht
   simp only [b0H,Nat.reduceLT] at g4 g6 g7 g8 g9 g10 g11 g12
   by_cases hc0:c=0
   ·subst hc0
    simp [-Int.natCast_add,t0O,g4,g6,g7,g8,g9,g10,g11,g12]
    exact ⟨hx,L,hP,Qs,hPQb,hLlen,hLok,hQlen,hQok,by simpa using hU,by simpa using hlt⟩
   ·obtain ⟨i,rfl⟩:∃ i,c=i + 1:=⟨c - 1,by omega⟩
    have ec:(((i + 1:Nat):Int) - 1)=(i:Int):=by omega
    rw [ec] at g12
    -- places
    obtain ⟨iK,hiK⟩:∃ iK,iK=i + K:=⟨_,rfl⟩
    have ew1:IntKind.i64.wrap ((i:Int) + (K:Int))=(iK:Int):=by rw [b0d (by omega) (by omega)];omega
    have ew2:IntKind.i64.wrap ((iK:Int) - 1)=((i + k:Nat):Int):=by rw [b0d (by omega) (by omega)];omega
    have ew3:IntKind.i64.wrap ((iK:Int) - 2)=((i + j:Nat):Int):=by rw [b0d (by omega) (by omega)];omega
    have ew4:IntKind.i64.wrap ((iK:Int) + 1)=((iK + 1:Nat):Int):=by rw [b0d (by omega) (by omega)];omega
    have ew5:IntKind.i64.wrap ((i:Int) - 1)=(i:Int) - 1:=b0d (by omega) (by omega)
    obtain ⟨hi1,hr1⟩:=m0C (k:=.i64) (cap:=capu) (o:=0) (n:=a.length + 1) hP (by omega) (show iK < a.length + 1 by omega)
    obtain ⟨hi2,hr2⟩:=m0C (k:=.i64) (cap:=capu) (o:=0) (n:=a.length + 1) hP (by omega) (show i + k < a.length + 1 by omega)
    obtain ⟨hi3,hr3⟩:=m0C (k:=.i64) (cap:=capu) (o:=0) (n:=a.length + 1) hP (by omega) (show i + j < a.length + 1 by omega)
    rw [hSU,N1q] at hi1 hi2 hi3
    rw [N1q] at hr1 hr2 hr3
    have hA1:=c0z hLok iK
    have hA2:=c0z hLok (i + k)
    have hA3:=c0z hLok (i + j)
    -- the window
    have hwin:=t1Y (L:=L) (o:=i) (k:=K) (by omega)
    rw [show K - 2=j by omega,show K - 1=k by omega,<- hiK] at hwin
    have hUw:win L i (K + 1) < V * 4294967296:=by
     have h1:=i0B (L:=L) (M1U _)
     rw [N1f,hLlen,show a.length + 1=i + ((K + 1) + (a.length - i - K)) by omega,c0O,c0O,N1q] at h1
     have h2:4294967296 ^ i * win L i (K + 1) < 4294967296 ^ i * (V * 4294967296):=by
      rw [N1m,<- N1h,Nat.mul_right_comm] at hlt
      rw [N1a] at h1
      have:V * 4294967296 * 4294967296 ^ i=4294967296 ^ i * (V * 4294967296):=N1p _ _
      omega
     exact N1Y h2
    generalize L.getD iK 0=A1 at hA1 hr1 hwin
    generalize L.getD (i + k) 0=A2 at hA2 hr2 hwin
    generalize L.getD (i + j) 0=A3 at hA3 hr3 hwin
    obtain ⟨x,hX⟩:∃ x,x=A1 * 4294967296 + A2:=⟨_,rfl⟩
    rw [<- hX] at hwin
    have gs:Gs (4294967296 ^ j) (win L i j) (win Vl 0 j) (win L i (K + 1)) V x A3 top next 4294967296 :=
     ⟨Nat.pow_pos (by omega),l0o hLok i j,l0o hok2 0 j,hwin,hV2,by omega,hTt,hTn,hA3,hUw⟩
    clear hwin
    have eA1:IntKind.u64.wrap (A1:Int)=(A1:Int):=by rw [a0x];omega
    have eA2:IntKind.u64.wrap (A2:Int)=(A2:Int):=by rw [a0x];omega
    have eA3:IntKind.u64.wrap (A3:Int)=(A3:Int):=by rw [a0x];omega
    have s1:=F1f (tag:=0) hA1
    have s2:=K1Y (tag:=0) hA1 hA2
    have hxl:x < 18446744073709551616:=by omega
    have hqle:=gs.q_le
    have hxlt:=gs.x_lt
    rw [<- hX] at s2
    have s3:=w1y (tag:=0) (a:=x) (b:=top) hxl (by omega)
    have s4:=B1Z (tag:=0) (a:=x) (b:=top) (by omega)
    have hgr:x / top * top + x % top=x:=P1a x top
    have hrt:=N1R x (show 0 < top by omega)
    have hgB:x / top<=4294967297:=by
     have:x / top < 4294967298:=by rw [O1b (by omega)];omega
     omega
    have hic:(i:Int) ≥ 0:=by omega
    simp [-Int.natCast_add,-Int.natCast_mul,-Int.natCast_ediv,-Int.natCast_emod,t0O,g4,g6,g7,g8,g9,g10,g11,g12,hic]
    refine c0t ?_
    simp [-Int.natCast_add,-Int.natCast_mul,-Int.natCast_ediv,-Int.natCast_emod,v0O,g4,g6,g7,g8,g9,g10,g11,g12,ew1,ew2,hi1,hi2,hr1,hr2,eA1,eA2,s1,s2]
    refine c0t ?_
    simp [-Int.natCast_add,-Int.natCast_mul,-Int.natCast_ediv,-Int.natCast_emod,v0P,g4,g6,g7,g8,g9,g10,g11,g12,s3,s4]
    clear s1 s2 s3 s4
    generalize x / top=gq at hgr hgB hqle ⊢
    generalize x % top=rr at hgr hrt ⊢
    have hslice:∃ cap',d0s 1 SU (some (.int .i64 (i:Int))) (some (.int .i64 ((iK + 1:Nat):Int))) none=some (.slice (some ⟨P,i,none⟩) (K + 1) cap'):=by
     rw [<- hSU,n0j (lo:=i) (hi:=iK + 1) (by simp) (V0r (n:=iK + 1)) (by omega) (by omega),N1q,show iK + 1 - i=K + 1 by omega]
     exact ⟨_,rfl⟩
    obtain ⟨capt,hslice⟩:=hslice
    have helem:∀ (G':a0c) (cs:List Value),a0c.bk G' P=.row false a0b cs->elemOk G' a0b SU=true:=fun G' cs h=>by rw [<- hSU];exact p0r h
    refine b0X (fun c t G'=>∃ g rest:Nat,c=g/\G' = G3/\t.length=147/\get t 4=SQ/\get t 6=.int .i64 (n:Int)/\get t 7=SU/\get t 8=SV/\get t 9=.int .i64 (K:Int)/\get t 10=.int .u64 (top:Int)/\get t 11=.int .u64 (next:Int)/\get t 12=.int .i64 (i:Int)/\get t 14=.int .u64 (g:Int)/\get t 15=.int .u64 (rest:Int) /\
      g * top + rest=x/\win L i (K + 1) / V<=g/\g<=4294967297/\rest < 4294967296)
     (fun t G'=>∃ g rest:Nat,G' = G3/\t.length=147/\get t 4=SQ/\get t 6=.int .i64 (n:Int)/\get t 7=SU/\get t 8=SV/\get t 9=.int .i64 (K:Int)/\get t 10=.int .u64 (top:Int)/\get t 11=.int .u64 (next:Int)/\get t 12=.int .i64 (i:Int)/\get t 14=.int .u64 (g:Int) /\
      g * top + rest=x/\win L i (K + 1) / V<=g/\g < 4294967296/\g * next<=rest * 4294967296 + A3) gq ?_ ?_ ?_
    ·exact ⟨gq,rr,rfl,rfl,by simp,by simp [g4],by simp [g6],by simp [g7],by simp [g8],by simp [g9],by simp [g10],by simp [g11],by simp [g12],by simp,by simp,hgr,hqle,hgB,by omega⟩
    ·clear g4 g6 g7 g8 g9 g10 g11 g12 ht ρ
     rintro c t G' ⟨g,rest,rfl,rfl,ht,g4,g6,g7,g8,g9,g10,g11,g12,g14,g15,hgx,hq,hgl,hrl⟩
     obtain ⟨ρ,rfl⟩:=toT ht
     simp only [b0H,Nat.reduceLT] at g4 g6 g7 g8 g9 g10 g11 g12 g14 g15
     obtain ⟨rt,hrt2⟩:∃ rt,rt=rest + top:=⟨_,rfl⟩
     have er:IntKind.u64.wrap ((rest:Int) + (top:Int))=(rt:Int):=by rw [a0x];omega
     by_cases hcB:4294967296<=c
     ·have hcB2:(4294967296:Int)<=(c:Int):=by omega
      have hcase:4294967296<=c ∨ rest * 4294967296 + A3 < c * next:=.inl hcB
      have hcs:(c:Int) ≥ 4294967296:=hcB2
      simp (config:={maxSteps:=4000000}) [-Int.natCast_add,-Int.natCast_mul,l0O,g4,g6,g7,g8,g9,g10,g11,g12,g14,g15,hcB,hcB2]
      obtain ⟨hq',hg0⟩:=gs.down hgx hq hcase
      obtain ⟨g',rfl⟩:∃ g',c=g' + 1:=⟨c - 1,by omega⟩
      rw [Nat.add_sub_cancel] at hq'
      have eg:IntKind.u64.wrap (((g' + 1:Nat):Int) - 1)=(g':Int):=by rw [a0x];omega
      have hgx':g' * top + rt=x:=by rw [<- hgx,hrt2,N1t,O1e];omega
      by_cases hbr:4294967296<=rt
      ·have hbr2:(4294967296:Int)<=(rt:Int):=by omega
       simp [-Int.natCast_add,-Int.natCast_mul,hcs,k0g,k0h,k0i,g4,g6,g7,g8,g9,g10,g11,g12,g14,g15,eg,er,hbr,hbr2]
       have hgl':g' < 4294967296:=by
        by_cases h:g' = 4294967296
        ·subst h;rw [N1p] at hgx';omega
        ·omega
       refine ⟨g',rfl,rt,hgx',hq',hgl',?_⟩
       have h1:g' * next<=4294967295 * 4294967295:=O1k (by omega) (by omega)
       omega
      ·have hbr2:¬ (4294967296:Int)<=(rt:Int):=by omega
       simp [-Int.natCast_add,-Int.natCast_mul,hcs,k0g,k0h,k0i,g4,g6,g7,g8,g9,g10,g11,g12,g14,g15,eg,er,hbr,hbr2]
       exact ⟨g',by omega,rfl,rt,rfl,hgx',hq',by omega,by omega⟩
     ·have hcB2:¬ (4294967296:Int)<=(c:Int):=by omega
      have hcn:c * next<=4294967295 * 4294967295:=O1k (by omega) (by omega)
      obtain ⟨cn,hcn2⟩:∃ cn,cn=c * next:=⟨_,rfl⟩
      have em:IntKind.u64.wrap ((c:Int) * (next:Int))=(cn:Int):=by rw [a0x,<- P1g,<- hcn2];omega
      have s1:=F1f (tag:=0) hrl
      have s2:=K1Y (tag:=0) hrl hA3
      obtain ⟨rA,hrA⟩:∃ rA,rA=rest * 4294967296 + A3:=⟨_,rfl⟩
      rw [<- hrA] at s2
      by_cases hgt:rA < cn
      ·have hcase:4294967296<=c ∨ rest * 4294967296 + A3 < c * next:=.inr (by rw [<- hrA,<- hcn2];exact hgt)
       have hcs:rA < cn:=hgt
       simp (config:={maxSteps:=4000000}) [-Int.natCast_add,-Int.natCast_mul,l0O,g4,g6,g7,g8,g9,g10,g11,g12,g14,g15,hcB,hcB2,ew1,ew3,hi3,hr3,eA3,em,s1,s2,hgt]
       obtain ⟨hq',hg0⟩:=gs.down hgx hq hcase
       obtain ⟨g',rfl⟩:∃ g',c=g' + 1:=⟨c - 1,by omega⟩
       rw [Nat.add_sub_cancel] at hq'
       have eg:IntKind.u64.wrap (((g' + 1:Nat):Int) - 1)=(g':Int):=by rw [a0x];omega
       have hgx':g' * top + rt=x:=by rw [<- hgx,hrt2,N1t,O1e];omega
       by_cases hbr:4294967296<=rt
       ·have hbr2:(4294967296:Int)<=(rt:Int):=by omega
        simp [-Int.natCast_add,-Int.natCast_mul,hcs,k0g,k0h,k0i,g4,g6,g7,g8,g9,g10,g11,g12,g14,g15,eg,er,hbr,hbr2]
        have hgl':g' < 4294967296:=by
         by_cases h:g' = 4294967296
         ·subst h;rw [N1p] at hgx';omega
         ·omega
        refine ⟨g',rfl,rt,hgx',hq',hgl',?_⟩
        have h1:g' * next<=4294967295 * 4294967295:=O1k (by omega) (by omega)
        omega
       ·have hbr2:¬ (4294967296:Int)<=(rt:Int):=by omega
        simp [-Int.natCast_add,-Int.natCast_mul,hcs,k0g,k0h,k0i,g4,g6,g7,g8,g9,g10,g11,g12,g14,g15,eg,er,hbr,hbr2]
        exact ⟨g',by omega,rfl,rt,rfl,hgx',hq',by omega,by omega⟩
      ·simp (config:={maxSteps:=4000000}) [-Int.natCast_add,-Int.natCast_mul,l0O,g4,g6,g7,g8,g9,g10,g11,g12,g14,g15,hcB,hcB2,ew1,ew3,hi3,hr3,eA3,em,s1,s2,hgt]
       exact ⟨c,rfl,rest,hgx,hq,by omega,by rw [<- hrA,<- hcn2];omega⟩
    ·clear g4 g6 g7 g8 g9 g10 g11 g12 ht ρ hgr hgB hqle hrt
     rintro t G' ⟨gg,rest,rfl,ht,g4,g6,g7,g8,g9,g10,g11,g12,g14,hgx,hq,hgl,hgn⟩
     obtain ⟨ρ,rfl⟩:=toT ht
     simp only [b0H,Nat.reduceLT] at g4 g6 g7 g8 g9 g10 g11 g12 g14
     have hq1:=gs.fine hgx hgl hgn
     have hVK:V < 4294967296 ^ (K + 1):=by
      rw [hk,N1m];omega
     simp [-Int.natCast_add,v0Q,g4,g6,g7,g8,g9,g10,g11,g12,g14,ew1,ew4,helem _ _ hP,hslice]
     refine (p0p (n:=K + 1) hP hLok (by omega) hv3 hslP hfP hgl (by omega) (by omega)).mo ?_
     rintro _ G4 ⟨X0,cc,rfl,hXb0,hxb,hwon0,hs⟩
     rw [hVt] at hs
     obtain ⟨hc1,hc2⟩:=F0m gs hq hq1 hs (l0o hwon0.2.1 i (K + 1)) hVK
     have hx4:=hxb.ext hfP hx
     have hv4:=hv3.off hxb hslP
     have hPQ4:a0c.bk G4 PQ=.row false a0b (b0C Qs):=by rw [hxb.2 PQ (a0r hPQb) (by simp;omega)];exact hPQb
     have hml:=N1R (win L i (K + 1)) gs.V0
     have hdm0:=(O1t (win L i (K + 1)) V).symm
     by_cases hcc:cc=0
     ·obtain ⟨hg1,hwin⟩:=hc1 hcc
      obtain ⟨X,hXe⟩:∃ X,X=X0:=⟨_,rfl⟩
      obtain ⟨g,hge⟩:∃ g,g=gg:=⟨_,rfl⟩
      subst hXe hge
      have hXb:=hXb0
      have hwon:=hwon0
      have hdm:win L i (K + 1)=V * g + win L i (K + 1) % V:=by rw [hg1];exact hdm0
      simp [-Int.natCast_add,hcc,p0I,g4,g6,g7,g8,g9,g10,g11,g12,g14]
      refine (a0h hx4.1).mo ?_
      rintro _ G6 ⟨rfl,hx6⟩
      have hPQ6:=hx6.bk hPQ4
      have hP6:=hx6.bk hXb
      have hPQl:=a0r hPQ6
      obtain ⟨hj1,_⟩:=m0C (k:=.i64) (cap:=N) (o:=0) (n:=N) hPQ6 (by omega) (show i < N by omega)
      rw [hSQ,N1q] at hj1
      have hile:i + 1<=Qs.length:=by omega
      have hfPQ:G.size<=PQ:=by omega
      rw [N1o hgl]
      obtain ⟨hd1,hd2⟩:=v0f (BB:=4294967296) (n:=a.length + 1) (q:=g) rfl hLlen hwon (by omega) (show i < Qs.length by omega) hU (by rw [hk];exact hVlt) hlt hdm hml hwin
      simp [-Int.natCast_add,p0J,hj1,hPQ6,hile,hfPQ,g4,g6,g7,g8,g9,g10,g11,g12,ew5]
      refine ⟨i,by omega,rfl,(hx4.trans hx6).set hfPQ,(hv4.mo hx6).off j0m.refl.set hslPQ,X,by rw [a0Y (by omega)];exact hP6,Qs.set i g,by rw [a0C hPQl,c0S],by rw [hwon.1,hLlen],hwon.2.1,by simpa using hQlen,b0W hQok hgl,by omega,hd2,hd1⟩
     ·obtain ⟨hg1,hgive⟩:=hc2 hcc
      obtain ⟨g,rfl⟩:∃ g,gg=g + 1:=⟨win L i (K + 1) / V,hg1⟩
      have hg2:g=win L i (K + 1) / V:=Nat.succ.inj hg1
      have eg:IntKind.u64.wrap (((g + 1:Nat):Int) - 1)=(g:Int):=by rw [a0x];omega
      have hdm:win L i (K + 1)=V * g + win L i (K + 1) % V:=by rw [hg2];exact hdm0
      simp [-Int.natCast_add,hcc,v0R,v0S,g4,g6,g7,g8,g9,g10,g11,g12,g14,eg,ew1,ew4,helem _ _ hXb0,hslice]
      refine (p0n (n:=K + 1) hXb0 hwon0.2.1 (by rw [hwon0.1];omega) hv4 hslP hfP (by omega) (by omega)).mo ?_
      rintro _ G5 ⟨X,c2,hXb,hxb2,hwon2,hs2⟩
      rw [hVt] at hs2
      have hwin:=hgive _ _ hs2 (l0o hwon2.2.1 i (K + 1))
      replace hPQ4:a0c.bk G5 PQ=.row false a0b (b0C Qs):=by rw [hxb2.2 PQ (a0r hPQ4) (by simp;omega)];exact hPQ4
      replace hx4:=hxb2.ext hfP hx4
      replace hv4:=hv4.off hxb2 hslP
      have hwon:=hwon0.trans hwon2
      replace hgl:g < 4294967296:=by omega
      simp [-Int.natCast_add,p0I,g4,g6,g7,g8,g9,g10,g11,g12]
      refine (a0h hx4.1).mo ?_
      rintro _ G6 ⟨rfl,hx6⟩
      have hPQ6:=hx6.bk hPQ4
      have hP6:=hx6.bk hXb
      have hPQl:=a0r hPQ6
      obtain ⟨hj1,_⟩:=m0C (k:=.i64) (cap:=N) (o:=0) (n:=N) hPQ6 (by omega) (show i < N by omega)
      rw [hSQ,N1q] at hj1
      have hile:i + 1<=Qs.length:=by omega
      have hfPQ:G.size<=PQ:=by omega
      rw [N1o hgl]
      obtain ⟨hd1,hd2⟩:=v0f (BB:=4294967296) (n:=a.length + 1) (q:=g) rfl hLlen hwon (by omega) (show i < Qs.length by omega) hU (by rw [hk];exact hVlt) hlt hdm hml hwin
      simp [-Int.natCast_add,p0J,hj1,hPQ6,hile,hfPQ,g4,g6,g7,g8,g9,g10,g11,g12,ew5]
      refine ⟨i,by omega,rfl,(hx4.trans hx6).set hfPQ,(hv4.mo hx6).off j0m.refl.set hslPQ,X,by rw [a0Y (by omega)];exact hP6,Qs.set i g,by rw [a0C hPQl,c0S],by rw [hwon.1,hLlen],hwon.2.1,by simpa using hQlen,b0W hQok hgl,by omega,hd2,hd1⟩
  ·clear hP3 hPQ3 hv0 hl0 hok0 L0 g0 g1 g6 ht ρ hx hv3 G3
   rintro t G3 ⟨L,Qs,ht,g4,g6,g7,g9,hx,hP,hPQb,hLlen,hLok,hQlen,hQok,hU,hlt⟩
   obtain ⟨ρ,rfl⟩:=toT ht
   simp only [b0H,Nat.reduceLT] at g4 g6 g7 g9
   have helem:elemOk G3 a0b SU=true:=by rw [<- hSU];exact p0r hP
   have hslice:∃ cap',d0s 1 SU none (some (.int .i64 (K:Int))) none=some (.slice (some ⟨P,0,none⟩) K cap'):=by
    rw [<- hSU,n0j (lo:=0) (hi:=K) rfl (by simp) (by omega) (by omega),N1q,P1e]
    exact ⟨_,rfl⟩
   obtain ⟨capt,hslice⟩:=hslice
   simp [-Int.natCast_add,v0T,g4,g6,g7,g9,helem,hslice]
   have hlim:=z0m (cap:=capt) hP hLok (show 0 + K<=L.length by omega)
   have hlv:a0q ((L.drop 0).take K)=a0q L:=by
    have h1:=i0B (L:=L) (M1U _)
    rw [N1f,hLlen,show a.length + 1=K + (a.length + 1 - K) by omega,c0O,N1q] at h1
    have h2:win L K (a.length + 1 - K)=0:=by
     by_cases h0:win L K (a.length + 1 - K)=0
     ·exact h0
     ·have:=Nat.le_mul_of_pos_right (4294967296 ^ K) (by omega:0 < win L K (a.length + 1 - K))
      rw [hk] at this h1;omega
    rw [z0B (by omega),h1,h2,Nat.mul_zero,N1O]
   have hll:((L.drop 0).take K).length=K:=by simp;omega
   refine (p0m hlim hx.1 (by omega) (by omega)).mo ?_
   rintro r G4 ⟨⟨o,ho,hov,hol⟩,hx4⟩
   rw [hlv] at hov
   have hV0:0 < V:=by omega
   have e1:U0 / V=a0q Qs:=by rw [hU,N1p,Nat.mul_add_div hV0,O1m hlt,N1O]
   have e2:U0 % V=a0q L:=by rw [hU,N1p,Nat.mul_add_mod,N1o hlt]
   refine fun _=>⟨SQ,Qs,r,⟨rfl,rfl⟩,⟨by rw [<- hSQ,<- hQlen];exact (Own.mk (fl:=0) (hx4.bk hPQb) (by simp) (N1K _)).sl,hQok⟩,e1.symm,by omega,o,ho,by rw [hov,e2],by omega⟩
end
section
variable {fl:Nat} {H:a0c} {R:a0P} {v w:Value} {i j:Bool × List Nat}
theorem x0H (x y:Int):(if (decide (x < 0) != decide (y < 0))=true then -((x.natAbs / y.natAbs:Nat):Int) else ((x.natAbs / y.natAbs:Nat):Int))=x.tdiv y:=by
 have e1:∀ n:Int,0<=n->(n.natAbs:Int)=n:=fun n h=>Int.natAbs_of_nonneg h
 have e2:∀ n:Int,n < 0->(n.natAbs:Int) = -n:=fun n h=>by omega
 rw [Int.natCast_ediv]
 by_cases hx:x < 0 <;> by_cases hy:y < 0 <;> simp only [hx,hy,decide_true,decide_false,bne_self_eq_false,N1g,N1G,Bool.true_bne,Bool.false_bne,Bool.not_false,N1E]
 ·rw [e2 x hx,e2 y hy,<- O1h (by omega),Int.neg_tdiv,Int.tdiv_neg,Int.neg_neg]
 ·rw [e2 x hx,e1 y (by omega),<- O1h (by omega),Int.neg_tdiv,Int.neg_neg]
 ·rw [e1 x (by omega),e2 y hy,<- O1h (by omega),Int.tdiv_neg,Int.neg_neg]
 ·rw [e1 x (by omega),e1 y (by omega),<- O1h (by omega)]
theorem x0I (x y:Int):(if decide (x < 0)=true then -((x.natAbs % y.natAbs:Nat):Int) else ((x.natAbs % y.natAbs:Nat):Int))=x.tmod y:=by
 have h1:=Int.natAbs_tmod x y
 by_cases hx:x < 0
 ·simp only [hx,decide_true,N1E]
  have h2:x.tmod y<=0:=by
   have:=Int.tmod_nonneg (a:=-x) y (by omega)
   rw [Int.neg_tmod] at this;omega
  omega
 ·simp only [hx,decide_false,N1g,N1G]
  have h2:=Int.tmod_nonneg (a:=x) y (by omega)
  omega
theorem m0w (h:c0m H v i) (k:c0m H w j) (hf:fl<=H.size) (hn:i.2.length < 536870912) (hm:j.2.length < 536870912) (hj0:a0B j ≠ 0) :
  b0k env fl m0o [v,w] H (fun r H'=>(∃ q m,r=.tuple #[q,m,.int .i64 0]/\n0t H.size H' q (a0J ((a0B i).tdiv (a0B j)))/\n0t H.size H' m (a0J ((a0B i).tmod (a0B j)))/\L1H q m)/\Ext H H') R:=by
 have k0:=h
 have k1:=k
 obtain ⟨s,rfl,hs⟩:=h
 obtain ⟨u,rfl,hu⟩:=k
 refine a0i H1X hf (h:=?_)
 intro ρ h0
 simp [R0w,A0M,h0]
 generalize hG:(((H.push _).push _).push _).push _=G
 have hx:Ext H G:=by rw [<- hG];exact (Ext.refl H).push.push.push.push
 have b0:a0c.bk G H.size=.row false a0a [.bool i.1,s]:=by rw [<- hG];simp
 have b1:a0c.bk G (H.size + 1)=.row false a0a [.bool j.1,u]:=by rw [<- hG];simp
 have b2:a0c.bk G (H.size + 2)=.row false a0a [.bool false,.slice none 0 0]:=by rw [<- hG];simp
 have b3:a0c.bk G (H.size + 3)=.row false a0a [.bool false,.slice none 0 0]:=by rw [<- hG];simp
 have hz:H.size + 3 < G.size:=a0r b3
 clear hG
 replace k0:=k0.mo hx
 replace k1:=k1.mo hx
 refine c0t ?_
 simp [A0N,h0,b0,b1]
 refine (b0u k0 (by omega) (by omega)).mo ?_
 rintro x G2 ⟨k2,hx2⟩
 try simp [h0,b0,b1]
 refine (b0u k1 hx.1 (by omega)).mo ?_
 rintro y G2 ⟨k3,hx2⟩
 clear hs hu hz hx2
 have l1:=a0L k0.ok
 have l2:=a0L k1.ok
 have hl0:a0l (a0B j).natAbs ≠ []:=by intro h;exact hj0 (by have:=b0O.1 h;omega)
 have hl1:=List.length_pos_iff.2 hl0
 have e1:=x0H (a0B i) (a0B j)
 have e2:=x0I (a0B i) (a0B j)
 simp [A0O,A0P,h0,k3.slen,hl0]
 refine (f0y k2 k3 hx.1 (by omega)).mo ?_
 rintro _ G2 ⟨rfl,hx2⟩
 have hcmp:=d0v (a0B i).natAbs (a0B j).natAbs
 rw [b0Y] at hcmp
 generalize x0Q (a0l (a0B i).natAbs) (a0l (a0B j).natAbs)=c at hcmp
 by_cases hlt:(a0B i).natAbs < (a0B j).natAbs
 ·have hcl:c < 0:=by rw [hcmp,M1Z hlt];omega
  simp [A0Q,h0,hcl,b0]
  refine (b0f k0 hx.1 (by omega)).mo ?_
  rintro _ G2 ⟨rfl,hx2⟩
  try simp [h0]
  have hsz0:=hx.1
  refine (f0a ((a0B i).tmod (a0B j)) k2 hx.1 (by omega) (by rw [a0p,<- e2,N1o hlt])).mo ?_
  obtain ⟨s1,hsv,hs1⟩:∃ s1,s1=Value.slice none 0 0/\j0G H.size G2 s1 (a0J ((a0B i).tdiv (a0B j))).2:=by
   refine ⟨_,rfl,?_⟩
   rw [<- e1,O1m hlt]
   have:a0J (if (decide (a0B i < 0) != decide (a0B j < 0))=true then -((0:Nat):Int) else ((0:Nat):Int))=(false,[]):=by split <;> exact n0Z
   rw [this];exact j0G.nil
  have hb1:(a0J ((a0B i).tdiv (a0B j))).1=false:=by
   rw [<- e1,O1m hlt];split <;> simp [a0J]
  rw [<- hsv,<- hb1]
  rintro _ G2 ⟨⟨s2,rfl,hs2⟩,hx2⟩
  have hz:=a0r b3
  have hz2:=a0r b2
  have hap:∀ x y,slB s1=some x->slB s2=some y->x ≠ y:=fun x y h1 h2=>by have:=(hs1.lt h1).2;have:=(hs2.lt h2).1;omega
  simp [h0,b2,b3,hs1.cells,hs1.plain,hs2.cells,hs2.plain,hz,hz2]
  refine fun _=>⟨_,_,⟨rfl,rfl⟩,⟨s1,rfl,?_⟩,⟨s2,rfl,?_⟩,?_⟩
  ·exact ((hs1.mo hx2).setT b2 (by decide)).setT (by rw [a0Y (by omega)];exact b3) (by decide)
  ·exact ((hs2.low hsz0).setT b2 (by decide)).setT (by rw [a0Y (by omega)];exact b3) (by decide)
  ·intro a s b u x y e1 e2 h1 h2
   cases e1;cases e2
   exact hap x y h1 h2
 ·have hcl:¬ c < 0:=by rw [hcmp,M1V hlt];split <;> omega
  by_cases h1:(a0l (a0B j).natAbs).length=1
  ·have hd0:(0:Nat) < (a0l (a0B j).natAbs).length:=by omega
   obtain ⟨d,hd⟩:∃ d,a0l (a0B j).natAbs=[d]:=by
    obtain ⟨d,hd⟩:=List.length_eq_one_iff.1 h1;exact ⟨d,hd⟩
   have hdv:(a0B j).natAbs=d:=by rw [<- a0p (a0B j).natAbs,hd];simp [a0q]
   have hdl:d < 4294967296:=k3.ok d (by rw [hd];simp)
   have hdp:0 < d:=by omega
   rw [hd] at k3
   have hia:=k3.ia (k:=.i64) (j:=0) (by simp)
   have hld:=k3.load (j:=0) (by simp) (Ext.refl _)
   simp at hia hld
   simp [t0C,A0R,h0,hcl,hd,k3.slen,hia,hld]
   refine (n0J k2 hx.1 (by omega) hdp hdl).mo ?_
   rintro _ G2 ⟨⟨q1,o,rfl,k4,hov,hol⟩,hx2⟩
   have hmd:a0q (a0l (a0B i).natAbs) % d < 4294967296:=Nat.lt_trans (N1R _ hdp) hdl
   rw [a0p] at hov hmd ⊢
   generalize hrm:(a0B i).natAbs % d=rm at *
   simp [h0]
   refine c0t ?_
   simp [A0S,h0,b0,b1]
   refine (b0f k0 (by have:=hx.1;omega) (by omega)).mo ?_
   rintro _ G2 ⟨rfl,hx2⟩
   try simp [h0,b0,b1]
   refine (b0f k1 (by have:=hx.1;omega) (by omega)).mo ?_
   rintro _ G2 ⟨rfl,hx2⟩
   try simp [h0]
   have hszA:=hx.1
   refine (f0a ((a0B i).tdiv (a0B j)) k4 (by have:=hx.1;omega) (by omega) (by rw [hov,<- e1,hdv])).mo ?_
   rintro _ G2 ⟨⟨s1,rfl,hs1⟩,hx2⟩
   replace hs1:=hs1.low hszA
   try simp [h0,b0,b1]
   refine (b0f k0 (by have:=hx.1;omega) (by omega)).mo ?_
   rintro _ G2 ⟨rfl,hx2⟩
   replace hs1:=hs1.mo hx2
   try simp [h0]
   generalize hG3:G2.push _=G3
   have hx2:Ext G2 G3:=by rw [<- hG3];exact (Ext.refl _).push
   have k5:Lim G3 (.slice (some ⟨G2.size,0,none⟩) 1 1) [rm]:=by
    refine ⟨(Own.mk (fl:=0) (cap:=1) (e:=a0b) (sz:=1) (n:=1) (cs:=b0C [rm]) ?_ (by simp) (N1K _)).sl,fun x hx=>by simp at hx;omega⟩
    rw [<- hG3,a0N];rfl
   replace hs1:=hs1.mo hx2
   have hsz0:=hx.1
   refine (f0a ((a0B i).tmod (a0B j)) k5 (by have:=hx.1;omega) (by simp) (by rw [<- e2,hdv,hrm];simp [a0q])).mo ?_
   rintro _ G2 ⟨⟨s2,rfl,hs2⟩,hx2⟩
   have hz:=a0r b3
   have hz2:=a0r b2
   have hap:∀ x y,slB s1=some x->slB s2=some y->x ≠ y:=fun x y h1 h2=>by have:=(hs1.lt h1).2;have:=(hs2.lt h2).1;omega
   simp [h0,b2,b3,hs1.cells,hs1.plain,hs2.cells,hs2.plain,hz,hz2]
   refine fun _=>⟨_,_,⟨rfl,rfl⟩,⟨s1,rfl,?_⟩,⟨s2,rfl,?_⟩,?_⟩
   ·exact ((hs1.mo hx2).setT b2 (by decide)).setT (by rw [a0Y (by omega)];exact b3) (by decide)
   ·exact ((hs2.low hsz0).setT b2 (by decide)).setT (by rw [a0Y (by omega)];exact b3) (by decide)
   ·intro a s b u x y e1 e2 h1 h2
    cases e1;cases e2
    exact hap x y h1 h2
  ·have hlt2:2<=(a0l (a0B j).natAbs).length:=by omega
   have hle:(a0l (a0B j).natAbs).length<=(a0l (a0B i).natAbs).length:=b0S (by omega)
   have h1':¬ ((a0l (a0B j).natAbs).length:Int)=1:=by omega
   simp [t0C,A0T,h0,hcl,h1,h1',k3.slen]
   refine (m0A k2 k3 hx.1 (by omega) hlt2 hle (m0j (by omega))).mo ?_
   rintro _ G2 ⟨⟨q1,o,q2,o2,rfl,k4,hov,hol,k5,hov2,hol2⟩,hx2⟩
   rw [a0p,a0p] at hov hov2
   simp [h0]
   refine c0t ?_
   simp [v0A,h0,b0,b1]
   refine (b0f k0 (by have:=hx.1;omega) (by omega)).mo ?_
   rintro _ G2 ⟨rfl,hx2⟩
   try simp [h0,b0,b1]
   refine (b0f k1 (by have:=hx.1;omega) (by omega)).mo ?_
   rintro _ G2 ⟨rfl,hx2⟩
   try simp [h0]
   have hszA:=hx.1
   refine (f0a ((a0B i).tdiv (a0B j)) k4 (by have:=hx.1;omega) (by omega) (by rw [hov,<- e1])).mo ?_
   rintro _ G2 ⟨⟨s1,rfl,hs1⟩,hx2⟩
   replace hs1:=hs1.low hszA
   try simp [h0,b0,b1]
   refine (b0f k0 (by have:=hx.1;omega) (by omega)).mo ?_
   rintro _ G2 ⟨rfl,hx2⟩
   replace hs1:=hs1.mo hx2
   try simp [h0]
   have hsz0:=hx.1
   refine (f0a ((a0B i).tmod (a0B j)) k5 (by have:=hx.1;omega) (by omega) (by rw [hov2,<- e2])).mo ?_
   rintro _ G2 ⟨⟨s2,rfl,hs2⟩,hx2⟩
   have hz:=a0r b3
   have hz2:=a0r b2
   have hap:∀ x y,slB s1=some x->slB s2=some y->x ≠ y:=fun x y h1 h2=>by have:=(hs1.lt h1).2;have:=(hs2.lt h2).1;omega
   simp [h0,b2,b3,hs1.cells,hs1.plain,hs2.cells,hs2.plain,hz,hz2]
   refine fun _=>⟨_,_,⟨rfl,rfl⟩,⟨s1,rfl,?_⟩,⟨s2,rfl,?_⟩,?_⟩
   ·exact ((hs1.mo hx2).setT b2 (by decide)).setT (by rw [a0Y (by omega)];exact b3) (by decide)
   ·exact ((hs2.low hsz0).setT b2 (by decide)).setT (by rw [a0Y (by omega)];exact b3) (by decide)
   ·intro a s b u x y e1 e2 h1 h2
    cases e1;cases e2
    exact hap x y h1 h2
end
section
abbrev Log:=List (List Nat × List Nat)
def WRL (E:Env) (fl:Nat):List a0v->a0U->a0c->Log->(a0U->a0c->Log->Prop)->Prop
 | [],t,H,lg,Z=>Z t H lg
 | o :: r,t,H,lg,Z=>if a0Q t o.g then WS E fl t H o.op (fun v H'=>WRL E fl r (put t o.dst v) H' (e0B t o.op H H' :: lg) Z) (fun _=>False) else WRL E fl r (put t o.dst undef) H (([],[]) :: lg) Z
variable {E:Env} {fl:Nat} {t:a0U} {H:a0c} {Q:d0K} {R:a0P}
theorem o0O (bef:List Nat) (pairs:List (Nat × Nat)) {Z:a0U->a0c->Prop}:∀ (ops:List a0v) (i:Nat) (t:a0U) (H:a0c) (log:Log),
  WRL E fl ops t H log (fun t' H' lg=>c0u lg.reverse pairs=true/\Z t' H')->∃ n t' H',b0T (a0M E n) fl bef pairs i ops t H none log=.fin .normal t' H'/\Z t' H'
 | [],i,t,H,log,h=>⟨0,t,H,by simp only [b0T];rw [M1Z h.1],h.2⟩
 | o :: r,i,t,H,log,h=>by
  simp only [WRL] at h
  split at h
  ·rename_i hw
   obtain ⟨n,hn⟩:=S0i h
   cases hs:b0i (a0M E n) fl t H o.op with
   | bad=>rw [hs] at hn;exact N1i hn id
   | pan v=>rw [hs] at hn;exact N1i hn id
   | ok rr =>
    obtain ⟨v,H'⟩:=rr
    rw [hs] at hn
    obtain ⟨m,t2,H2,hm,hz⟩:=o0O bef pairs r (i + 1) _ _ _ hn
    refine ⟨max n m,t2,H2,?_,hz⟩
    have h1:=i0E (a0F E n (max n m) (by omega)) (M1U fl) (t:=t) (H:=H) (so:=o.op) (by rw [hs];simp)
    have h2:=d0w (a0F E m (max n m) (by omega)) (M1U fl) bef pairs r (i + 1) (put t o.dst v) H' none (e0B t o.op H H' :: log) (by rw [hm];simp)
    simp only [b0T,j0u,N1g,N1G,hw,N1E,h1,hs,h2];exact hm
  ·rename_i hw
   obtain ⟨m,t2,H2,hm,hz⟩:=o0O bef pairs r (i + 1) _ _ _ h
   exact ⟨m,t2,H2,by simp only [b0T,j0u,N1g,N1G,hw];exact hm,hz⟩
theorem y0f {ops:List a0v} {bef:List Nat} {pairs:List (Nat × Nat)} (h:WRL E fl ops t H [] (fun t' H' lg=>c0u lg.reverse pairs=true/\Q .normal t' H')):W E fl (.draw ops bef pairs) t H Q R:=by
 obtain ⟨n,t',H',hn,hz⟩:=o0O bef pairs ops 0 t H [] h
 refine ⟨n + 1,?_⟩
 have h2:=d0w (a0F E n (n+1) (by omega)) (M1U fl) bef pairs ops 0 t H none [] (by rw [hn];simp)
 simp only [a0K,h2,hn];exact hz
section
variable {Z:a0U->a0c->Log->Prop} {lg:Log} {d:Option Nat} {op:SOp} {r:List a0v}
@[simp ↓] theorem G1X:WRL E fl [] t H lg Z=Z t H lg:=nr rfl
@[simp ↓] theorem F1D:WRL E fl (⟨d,none,op⟩ :: r) t H lg Z=WS E fl t H op (fun v H'=>WRL E fl r (put t d v) H' (e0B t op H H' :: lg) Z) (fun _=>False):=by simp [WRL,a0Q]
@[simp ↓] theorem L1N {j:Nat} {w:Bool}:WRL E fl (⟨d,some (j,w),op⟩ :: r) t H lg Z=if u0M w (get t j)=true then WS E fl t H op (fun v H'=>WRL E fl r (put t d v) H' (e0B t op H H' :: lg) Z) (fun _=>False) else WRL E fl r (put t d undef) H (([],[]) :: lg) Z:=by
 have h:a0Q t (some (j,w))=u0M w (get t j):=by
  simp only [a0Q]
  generalize get t j=v
  cases v <;> rfl
 show (if a0Q t (some (j,w))=true then _ else _)=_
 rw [h]
theorem y0c {t t':a0U} {ops:List a0v} {lg:Log} (h:t=t'):WRL E fl ops t H lg Z=WRL E fl ops t' H lg Z:=by rw [h]
attribute [congr] y0c
@[simp] theorem v1f {p:Addr}:blkOf (.pointer (some p))=[p.block]:=nr rfl
@[simp] theorem F1P {p:Addr} {n c:Nat}:blkOf (.slice (some p) n c)=[p.block]:=nr rfl
@[simp] theorem u1d {n c:Nat}:blkOf (.slice none n c)=[]:=nr rfl
@[simp] theorem H1K {p:Addr} {n c:Nat}:blkW (.slice (some p) n c)=if n=0/\c=0 then [] else [p.block]:=nr rfl
@[simp] theorem v1g {n c:Nat}:blkW (.slice none n c)=[]:=nr rfl
attribute [simp] c0j e0B a0W c0u t0e
end
end
section
variable {fl:Nat} {H:a0c} {R:a0P} {v w:Value} {i j:Bool × List Nat}
theorem K1X {G:a0c} {z1 z2 r1 r2:Blk}:Ext G (Array.setIfInBounds (Array.setIfInBounds (Array.push (Array.push G z1) z2) G.size r1) (G.size + 1) r2) /\
  a0c.bk (Array.setIfInBounds (Array.setIfInBounds (Array.push (Array.push G z1) z2) G.size r1) (G.size + 1) r2) G.size=r1 /\
  a0c.bk (Array.setIfInBounds (Array.setIfInBounds (Array.push (Array.push G z1) z2) G.size r1) (G.size + 1) r2) (G.size + 1)=r2:=by
 refine ⟨(((Ext.refl G).push.push).set (by omega)).set (by omega),?_,?_⟩
 ·rw [a0Y (by omega),a0C (by simp)]
 ·rw [a0C (by simp)]
theorem b0r (n:Nat):(a0J (n:Int))=(false,a0l n):=by unfold a0J;simp
theorem m0x (h:c0m H v i) (k:c0m H w j) (hf:fl<=H.size) (hn:i.2.length < 536870912) (hm:j.2.length < 536870912) :
  b0k env fl F0A [v,w] H (fun r H'=>n0t H.size H' r (a0J (Int.gcd (a0B i) (a0B j)))/\Ext H H') R:=by
 have k0:=h
 have k1:=k
 obtain ⟨s,rfl,hs⟩:=h
 obtain ⟨u,rfl,hu⟩:=k
 refine a0i M1l hf (h:=?_)
 intro ρ h0
 simp [G1O,U0f,h0]
 generalize hG:((H.push _).push _).push _=G
 have hx:Ext H G:=by rw [<- hG];exact (Ext.refl H).push.push.push
 have b0:a0c.bk G H.size=.row false a0a [.bool i.1,s]:=by rw [<- hG];simp
 have b1:a0c.bk G (H.size + 1)=.row false a0a [.bool j.1,u]:=by rw [<- hG];simp
 have b2:a0c.bk G (H.size + 2)=.row false a0a [.bool false,.slice none 0 0]:=by rw [<- hG];simp
 have hz:H.size + 2 < G.size:=a0r b2
 clear hG
 replace k0:=k0.mo hx
 replace k1:=k1.mo hx
 have l1:=a0L k0.ok
 have l2:=a0L k1.ok
 refine c0t ?_
 simp [U0g,h0,b0,b1]
 refine (b0u k0 (by omega) (by omega)).mo ?_
 rintro x G2 ⟨k2,hx2⟩
 try simp [h0]
 have hszA:=hx.1
 refine (f0a (((a0B i).natAbs:Nat):Int) k2 (by have:=hx.1;omega) (by omega) (by simp [a0p])).mo ?_
 rintro x G2 ⟨k2,hx2⟩
 replace k2:=k2.low hszA
 try simp [h0,b1]
 refine (b0u k1 (by have:=hx.1;omega) (by omega)).mo ?_
 rintro y G2 ⟨k3,hx2⟩
 try simp [h0]
 have hszB:=hx.1
 refine (f0a (((a0B j).natAbs:Nat):Int) k3 (by have:=hx.1;omega) (by omega) (by simp [a0p])).mo ?_
 rintro y G2 ⟨k3,hx2⟩
 replace k3:=k3.low hszB
 obtain ⟨s2,hxe,k2⟩:=k2
 obtain ⟨s3,hye,k3⟩:=k3
 have hsz:=hx.1
 have hsz1:H.size<=G2.size + 1:=by omega
 have hc0:=a0r b2
 simp [h0,hsz1,hxe,hye,k2.cells,k3.cells,k2.plain,k3.plain,hsz]
 rw [b0r] at k2 k3
 obtain ⟨hx2,b3,b4⟩:=K1X (G:=G2) (z1:=.row false a0a [.bool false,.slice none 0 0]) (z2:=.row false a0a [.bool false,.slice none 0 0]) (r1:=.row false a0a [.bool false,s2]) (r2:=.row false a0a [.bool false,s3])
 replace k2:=k2.mo hx2
 replace k3:=k3.mo hx2
 replace b2:=hx2.bk b2
 replace hx:=hx.trans hx2
 simp only [b0r]
 generalize Array.setIfInBounds _ _ _=G3 at *
 generalize hP:G2.size=P at *
 refine b0X (fun c t G=>∃ (a b:Nat) (s5 s6:Value),c=b/\t.length=30/\get t 4=.pointer (some ⟨H.size + 2,0,none⟩)/\get t 5=.pointer (some ⟨P,0,none⟩)/\get t 6=.pointer (some ⟨P + 1,0,none⟩) /\
   Ext H G/\a0c.bk G (H.size + 2)=.row false a0a [.bool false,.slice none 0 0]/\a0c.bk G P=.row false a0a [.bool false,s5]/\a0c.bk G (P + 1)=.row false a0a [.bool false,s6]/\j0G H.size G s5 (a0l a)/\j0G H.size G s6 (a0l b) /\
   (a0l a).length < 536870912/\(a0l b).length < 536870912/\Nat.gcd a b=Int.gcd (a0B i) (a0B j))
  (fun t G=>∃ (a:Nat) (s5:Value),t.length=30/\get t 4=.pointer (some ⟨H.size + 2,0,none⟩)/\get t 5=.pointer (some ⟨P,0,none⟩) /\
   Ext H G/\a0c.bk G (H.size + 2)=.row false a0a [.bool false,.slice none 0 0]/\a0c.bk G P=.row false a0a [.bool false,s5]/\j0G H.size G s5 (a0l a)/\a=Int.gcd (a0B i) (a0B j)) (a0B j).natAbs ?_ ?_ ?_
 ·exact ⟨(a0B i).natAbs,(a0B j).natAbs,s2,s3,rfl,by simp,by simp,by simp,by simp,hx,b2,b3,b4,k2,k3,by omega,by omega,rfl⟩
 ·clear h0 ρ k0 k1 k2 k3 b0 b1 b2 hx
  rintro c t G ⟨a,b,s5,s6,rfl,ht,g4,g5,g6,hx,b2,b3,b4,k5,k6,la,lb,hg⟩
  obtain ⟨ρ,rfl⟩:=toT ht
  simp only [b0H,Nat.reduceLT] at g4 g5 g6
  by_cases hb:c=0
  ·subst hb
   rw [a0G] at k6
   simp [E0u,g4,g5,g6,b2,b3,b4,k6.slen]
   rw [Nat.gcd_zero_right] at hg
   exact ⟨hx,by rw [<- hg];exact k5⟩
  ·have hdl:0 < (a0l c).length:=List.length_pos_iff.2 (by rw [Ne,b0O];exact hb)
   have hdl':(0:Int) < ((a0l c).length:Int):=by omega
   have hnil:a0l c ≠ []:=by rw [Ne,b0O];exact hb
   simp [E0u,U0h,g4,g5,g6,b2,b3,b4,k6.slen,hdl,hdl',hnil]
   have k0:c0m G (.agg #[.bool false,s5]) (a0J (a:Int)):=⟨s5,by rw [b0r],by rw [b0r];exact k5.lim⟩
   have k1:c0m G (.agg #[.bool false,s6]) (a0J (c:Int)):=⟨s6,by rw [b0r],by rw [b0r];exact k6.lim⟩
   have hsz0:=hx.1
   refine (m0w k0 k1 hx.1 (by rw [b0r];exact la) (by rw [b0r];exact lb) (by rw [b0m];omega)).mo ?_
   rintro _ G2 ⟨⟨q,m,rfl,k7,k8,_⟩,hx2⟩
   replace k7:=k7.low hsz0
   replace k8:=k8.low hsz0
   rw [b0m,b0m] at k7 k8
   have hmod:((a:Int).tmod (c:Int))=((a % c:Nat):Int):=by rw [Int.tmod_eq_emod_of_nonneg (by omega)];rfl
   rw [hmod,b0r] at k8
   obtain ⟨s7,rfl,k7⟩:=k7
   obtain ⟨s8,rfl,k8⟩:=k8
   have hsz:=hx.1
   have hsz1:H.size<=G2.size + 1:=by omega
   have hc1:=a0r b4
   simp [g4,g5,g6,b3,b4,k7.cells,k8.cells,k7.plain,k8.plain,hsz,hsz1]
   obtain ⟨hx2,b5,b6⟩:=K1X (G:=G2) (z1:=.row false a0a [.bool false,.slice none 0 0]) (z2:=.row false a0a [.bool false,.slice none 0 0]) (r1:=.row false a0a [.bool (a0J (↑a / ↑c)).1,s7]) (r2:=.row false a0a [.bool false,s8])
   generalize Array.setIfInBounds (Array.setIfInBounds _ _ _) _ _=G3 at *
   have hl1:=a0r b3
   have hl2:=a0r b4
   have hHP:H.size<=P:=by omega
   have hHP1:H.size<=P + 1:=by omega
   have hne:P + 1 ≠ P:=by omega
   have hne2:P ≠ G2.size + 1:=by omega
   have hne3:G2.size + 1 ≠ P:=by omega
   refine y0f ?_
   simp [U0i,g4,g5,g6,b4,b6,b3,k6.cells,k8.cells,k6.plain,k8.plain,hHP,hHP1,hne,hne2,hne3]
   have hmc:a % c < c:=N1R _ (by omega)
   refine ⟨a % c,hmc,(hx.set hHP).set hHP1,by rw [a0Y (by omega),a0Y (by omega)];exact b2,c,s6,by rw [a0C hl1],s8,by rw [a0C (by simpa using hl2)],?_,?_,lb,O1Q (b0S (Nat.le_of_lt hmc)) lb,by rw [Nat.gcd_comm,<- Nat.gcd_rec,Nat.gcd_comm,hg]⟩
   ·exact (k6.setT b3 (by decide)).setT (by rw [a0Y (by omega)];exact b4) (by decide)
   ·exact (k8.setT b3 (by decide)).setT (by rw [a0Y (by omega)];exact b4) (by decide)
 ·clear h0 ρ k0 k1 k2 k3 b0 b1 b2 hx
  rintro t G ⟨a,s5,ht,g4,g5,hx,b2,b3,k5,hg⟩
  obtain ⟨ρ,rfl⟩:=toT ht
  simp only [b0H,Nat.reduceLT] at g4 g5
  have hl1:=a0r b2
  have hl2:=a0r b3
  subst hg
  simp [U0j,g4,g5,b2,b3,k5.cells,k5.plain,hl1]
  exact fun _=>⟨s5,rfl,k5.setT b2 (by decide)⟩
theorem r0w (h:c0m H v i) (k:c0m H w j) (hf:fl<=H.size) (hn:i.2.length < 536870912) (hm:j.2.length < 536870912) :
  b0k env fl F0A [v,w] H (fun r H'=>c0m H' r (a0J (Int.gcd (a0B i) (a0B j)))/\Ext H H') R:=(m0x h k hf hn hm).mo fun _ _ h=>⟨h.1.int,h.2⟩
end
section
def x0Y (E:Env) (fl fl':Nat) (f:FuncId) (args:List Value) (H:a0c) (d:Option Nat) (r:List a0v) (t:a0U) (Z:a0U->a0c->Prop) (R:a0P):Prop :=
 b0k E fl' f args H (fun v H'=>WR E fl r (put t d v) H' Z R) R
@[simp ↓ high] theorem F1E {E:Env} {fl:Nat} {t:a0U} {H:a0c} {R:a0P} {d:Option Nat} {r:List a0v} {Z:a0U->a0c->Prop} {f:FuncId} {az:List Opd} {lone:Bool} :
  WS E fl t H (.call f az lone) (fun v H'=>WR E fl r (put t d v) H' Z R) R=x0Y E fl (if lone then fl else max fl H.size) f (az.map (ev t)) H d r t Z R:=nr rfl
def x0W (E:Env) (fl fl':Nat) (x:Value) (args:List Value) (H:a0c) (d:Option Nat) (r:List a0v) (t:a0U) (Z:a0U->a0c->Prop) (R:a0P):Prop :=
 match x with
 | .func (.func f) p q=>x0Y E fl fl' f (p.toList ++ args ++ q.toList) H d r t Z R
 | _=>False
@[simp ↓ high] theorem u1J {E:Env} {fl:Nat} {t:a0U} {H:a0c} {R:a0P} {d:Option Nat} {r:List a0v} {Z:a0U->a0c->Prop} {x:Opd} {az:List Opd} {lone:Bool} :
  WS E fl t H (.callv x az lone) (fun v H'=>WR E fl r (put t d v) H' Z R) R=x0W E fl (if lone then fl else max fl H.size) (ev t x) (az.map (ev t)) H d r t Z R:=by
 simp only [WS,opA,x0W];generalize ev t x=y
 cases y <;> try rfl
 rename_i g _ _;cases g <;> rfl
@[simp] theorem u1C {E:Env} {fl fl':Nat} {t:a0U} {H:a0c} {R:a0P} {d:Option Nat} {r:List a0v} {Z:a0U->a0c->Prop} {f:FuncId} {p q:Array Value} {az:List Value} :
  x0W E fl fl' (.func (.func f) p q) az H d r t Z R=x0Y E fl fl' f (p.toList ++ az ++ q.toList) H d r t Z R:=nr rfl
theorem s0s {E:Env} {fl fl' fl2:Nat} {t t':a0U} {H:a0c} {R:a0P} {d:Option Nat} {r:List a0v} {Z:a0U->a0c->Prop} {f:FuncId} {az az':List Value} (h:az=az') (ht:t=t') (hf:fl' = fl2) :
  x0Y E fl fl' f az H d r t Z R=x0Y E fl fl2 f az' H d r t' Z R:=by rw [h,ht,hf]
attribute [congr] s0s
section
variable {E:Env} {fl:Nat} {t:a0U} {H:a0c} {Z:a0U->a0c->Log->Prop} {lg:Log} {d:Option Nat} {r:List a0v}
def G1T (E:Env) (fl fl':Nat) (f:FuncId) (args:List Value) (H:a0c) (d:Option Nat) (r:List a0v) (t:a0U) (lg:Log) (Z:a0U->a0c->Log->Prop):Prop :=
 b0k E fl' f args H (fun v H'=>WRL E fl r (put t d v) H' lg Z) (fun _=>False)
@[simp ↓ high] theorem F1F {f:FuncId} {az:List Opd} {lone:Bool} :
  WS E fl t H (.call f az lone) (fun v H'=>WRL E fl r (put t d v) H' lg Z) (fun _=>False)=G1T E fl (if lone then fl else max fl H.size) f (az.map (ev t)) H d r t lg Z:=nr rfl
end
section
variable {H G G3:a0c} {q p:Nat} {X r0:Blk} {ro:Bool} {e:TypeId} {cs:List Value}
theorem w0s (hS:Array.setIfInBounds G q X=G3) (hb:a0c.bk G p=r0) (h:q ≠ p):a0c.bk G3 p=r0:=by rw [<- hS,a0Y h];exact hb
theorem k0L (hS:Array.setIfInBounds G q X=G3) (hb:a0c.bk G q=.row ro e cs):a0c.bk G3 q=X:=by rw [<- hS,a0C (a0r hb)]
theorem q0l (hS:Array.setIfInBounds G q X=G3) (hx:Ext H G) (h:H.size<=q):Ext H G3:=by rw [<- hS];exact hx.set h
theorem Lim.setS {v:Value} {l:List Nat} (k:Lim G v l) (hS:Array.setIfInBounds G q X=G3) (hb:a0c.bk G q=.row ro e cs) (hne:e ≠ a0b):Lim G3 v l:=by rw [<- hS];exact k.setT hb hne
theorem c0m.setS {v:Value} {i:Bool × List Nat} (k:c0m G v i) (hS:Array.setIfInBounds G q X=G3) (hb:a0c.bk G q=.row ro e cs) (hne:e ≠ a0b):c0m G3 v i:=by rw [<- hS];exact k.setT hb hne
theorem F0C {z r:Blk} (hN:Array.setIfInBounds (Array.push G z) G.size r=G3):Ext G G3/\a0c.bk G3 G.size=r:=by
 rw [<- hN];exact ⟨((Ext.refl G).push).set (by omega),by rw [a0C (by simp)]⟩
theorem t0i {z:Blk} (hN:Array.push G z=G3):Ext G G3/\a0c.bk G3 G.size=z:=by
 rw [<- hN];exact ⟨(Ext.refl G).push,a0N⟩
end
def lz (z:Int):Nat:=(a0l z.natAbs).length
theorem J1M {z:Int} {k:Nat} (h:z.natAbs < 4294967296 ^ k):lz z<=k:=f0I h
theorem w1b (z:Int):z.natAbs < 4294967296 ^ lz z:=j0S _
theorem S0B (x y:Int):lz (x * y)<=lz x + lz y:=by
 refine J1M ?_
 rw [Int.natAbs_mul,O1S]
 exact Nat.mul_lt_mul'' (w1b x) (w1b y)
theorem S0C:lz 1=1:=by unfold lz;rw [c0X (by decide),show (1:Int).natAbs / 4294967296=0 from rfl,a0G];rfl
theorem X0i:lz 0=0:=by unfold lz;rw [show (0:Int).natAbs=0 from rfl,a0G];rfl
theorem b0F (z:Int):(a0J z).2.length=lz z:=rfl
theorem z0v {i:Bool × List Nat} (h:b0g i.2):lz (a0B i)<=i.2.length:=a0L h
end
section
variable {fl:Nat} {H:a0c} {R:a0P} {v w:Value} {i j:Bool × List Nat}
abbrev d0d:=(Bool × List Nat) × (Bool × List Nat)
def j0o (H:a0c) (v:Value) (a:d0d):Prop:=∃ s u,v=.agg #[.bool a.1.1,s,.bool a.2.1,u]/\Lim H s a.1.2/\Lim H u a.2.2
variable {a b:d0d}
theorem j0o.mo {G:a0c} (h:j0o H v a) (hx:Ext H G):j0o G v a:=by obtain ⟨s,u,h1,h2,h3⟩:=h;exact ⟨s,u,h1,h2.mo hx,h3.mo hx⟩
theorem j0o.setT (h:j0o H v a) {p:Nat} {ro:Bool} {e':TypeId} {cs':List Value} {r:Blk} (hb:H.bk p=.row ro e' cs') (hne:e' ≠ a0b):j0o (H.setIfInBounds p r) v a:=by
 obtain ⟨s,u,h1,h2,h3⟩:=h;exact ⟨s,u,h1,h2.setT hb hne,h3.setT hb hne⟩
theorem j0o.setS {G3:a0c} {q:Nat} {X:Blk} {ro:Bool} {e:TypeId} {cs:List Value} (k:j0o H v a) (hS:Array.setIfInBounds H q X=G3) (hb:a0c.bk H q=.row ro e cs) (hne:e ≠ a0b):j0o G3 v a:=by rw [<- hS];exact k.setT hb hne
def n0F (a:d0d):Nat:=max a.1.2.length a.2.2.length
def e0p (a:d0d):Bool:=!a.1.1 && a.1.2.length == 0 && !a.2.1 && a.2.2.length == 0
def n0H (a:d0d):Bool:=e0p a || (d0k a.1 && d0k a.2 && !a.2.1 && a0B a.2 != 0 && Int.gcd (a0B a.1) (a0B a.2) == 1)
def l0E (a:d0d):Rat:=if e0p a then 0 else if n0H a then Rat.divInt (a0B a.1) (a0B a.2) else 0
def i0X (x:Rat):d0d:=(a0J x.num,a0J x.den)
theorem k0P (hz:e0p a=false) (hm:n0H a=true):i0X (l0E a)=(a0J (a0B a.1),a0J (a0B a.2)):=by
 unfold l0E
 rw [hz,hm]
 unfold n0H at hm
 rw [hz,O1U] at hm
 simp only [M1W,O1s,bne_iff_ne,ne_eq,beq_iff_eq] at hm
 obtain ⟨⟨⟨⟨h1,h2⟩,h3⟩,h4⟩,h5⟩:=hm
 have hq:0 < a0B a.2:=by
  unfold a0B at h4 ⊢;rw [h2,h3] at h4 ⊢;simp at h4 ⊢;omega
 have hd:((a0B a.2).toNat:Int)=a0B a.2:=P1c (by omega)
 have h6:Rat.divInt (a0B a.1) (a0B a.2) = ⟨a0B a.1,(a0B a.2).toNat,by omega,by rw [Nat.Coprime,<- h5,Int.gcd];congr 1;omega⟩:=by
  rw [Rat.mk_eq_divInt,hd]
 simp only [N1g,N1G,N1E]
 rw [h6];unfold i0X;simp only [hd]
theorem m0f:i0X 0=((false,[]),a0J 1):=by
 show (a0J 0,a0J 1)=_;rw [n0Z]
theorem g0I (h:j0o H v a) (hf:fl<=H.size):b0k env fl X0a [v] H (fun r H'=>r=.bool (e0p a)/\Ext H H') R:=by
 obtain ⟨s,u,rfl,hs,hu⟩:=h
 refine a0i M1h hf (h:=?_)
 intro ρ h0
 simp [G1K,T0S,h0]
 have hsl:=hs.slen
 have hul:=hu.slen
 cases h1:a.1.1
 ·by_cases h2:a.1.2=[]
  ·cases h3:a.2.1
   ·simp [r0V,h0,h1,h2,h3,hsl,hul,e0p]
   ·simp [r0V,h0,h1,h2,h3,hsl,hul,e0p]
  ·simp [r0V,h0,h1,h2,hsl,hul,e0p]
 ·simp [r0V,h0,h1,hsl,hul,e0p]
theorem k0l (h:c0m H v i) (hf:fl<=H.size) (hn:i.2.length < 536870912):b0k env fl X0b [v] H (fun r H'=>r=.bool (a0B i == 0)/\Ext H H') R:=by
 have k0:=h
 obtain ⟨s,rfl,hs⟩:=h
 refine a0i M1j hf (h:=?_)
 intro ρ h0
 simp [G1M,T0X,T0Y,h0]
 refine (f0x (k0.mo (by simp)) (j:=(false,[])) ⟨_,rfl,Lim.nil⟩ (by simp) hn (by simp)).mo ?_
 rintro _ G2 ⟨rfl,hx2⟩
 have:a0B (false,[])=0:=by unfold a0B d0k;simp [a0q]
 rw [this]
 simp [i0Y]
 intro _
 by_cases h1:a0B i < 0
 ·simp [h1];omega
 ·by_cases h2:0 < a0B i
  ·simp [h1,h2];omega
  ·simp [h1,h2];omega
theorem i0o (hf:fl<=H.size):b0k env fl S0n [] H (fun r H'=>c0m H' r (a0J 1)/\Ext H H') R:=by
 refine a0i M1m hf (h:=?_)
 intro ρ h0
 simp [E1X,U0k,U0l,h0]
 refine (t0j (by simp) (by omega) (by omega)).mo ?_
 rintro _ G2 ⟨⟨s,rfl,hs⟩,hx2⟩
 have b0:=hx2.bk a0N
 have hz:=a0r b0
 simp [b0,hs.cells,hs.plain,hz]
 exact fun _=>⟨s,rfl,hs.setT b0 (by decide)⟩
theorem f0C (h:j0o H v a) (hf:fl<=H.size) (hn:n0F a < 536870912):b0k env fl H0d [v] H (fun r H'=>r=.bool (n0H a)/\Ext H H') R:=by
 have k0:=h
 have hn1:a.1.2.length < 536870912:=by unfold n0F at hn;omega
 have hn2:a.2.2.length < 536870912:=by unfold n0F at hn;omega
 obtain ⟨s,u,rfl,hs,hu⟩:=h
 have k1:c0m H (.agg #[.bool a.1.1,s]) a.1:=⟨s,rfl,hs⟩
 have k2:c0m H (.agg #[.bool a.2.1,u]) a.2:=⟨u,rfl,hu⟩
 refine a0i M1b hf (h:=?_)
 intro ρ h0
 simp [G1G,T0r,h0]
 generalize hG:H.push _=G
 have hx2:Ext H G:=by rw [<- hG];simp
 have b0:a0c.bk G H.size=.row false a0d [.bool a.1.1,s,.bool a.2.1,u]:=by rw [<- hG];simp
 have hx:=Ext.refl H
 clear hG
 replace hx:=hx.trans hx2;replace k0:=k0.mo hx2;replace k1:=k1.mo hx2;replace k2:=k2.mo hx2
 simp [T0s,h0,b0]
 refine (g0I k0 hx.1).mo ?_
 rintro _ G2 ⟨rfl,hx2⟩
 replace b0:=hx2.bk b0;replace hx:=hx.trans hx2;replace k1:=k1.mo hx2;replace k2:=k2.mo hx2
 unfold n0H
 cases hz:e0p a
 case true=>simp [T0t]
 simp [T0u,h0,b0]
 refine (c0A k1 hx.1 (by omega)).mo ?_
 rintro _ G2 ⟨rfl,hx2⟩
 replace b0:=hx2.bk b0;replace hx:=hx.trans hx2;replace k1:=k1.mo hx2;replace k2:=k2.mo hx2
 cases h1:d0k a.1
 case false=>simp
 simp [h0,b0]
 refine (c0A k2 hx.1 (by omega)).mo ?_
 rintro _ G2 ⟨rfl,hx2⟩
 replace b0:=hx2.bk b0;replace hx:=hx.trans hx2;replace k1:=k1.mo hx2;replace k2:=k2.mo hx2
 cases h2:d0k a.2
 case false=>simp
 cases h3:a.2.1
 case true=>simp [h0,b0,h3]
 simp [h0,b0,h3]
 rw [<- h3]
 refine (k0l k2 hx.1 hn2).mo ?_
 rintro _ G2 ⟨rfl,hx2⟩
 replace b0:=hx2.bk b0;replace hx:=hx.trans hx2;replace k1:=k1.mo hx2;replace k2:=k2.mo hx2
 by_cases h4:a0B a.2=0
 ·simp [h4] <;> exact fun _=>h3
 have h4':(a0B a.2 == 0)=false:=by simp [h4]
 simp [h0,b0,h4,h4',h3]
 rw [<- h3]
 refine (r0w k1 k2 hx.1 hn1 hn2).mo ?_
 rintro x G2 ⟨k3,hx2⟩
 replace hx:=hx.trans hx2;replace k2:=k2.mo hx2
 try simp [h0]
 refine (i0o hx.1).mo ?_
 rintro y G2 ⟨k4,hx2⟩
 replace hx:=hx.trans hx2;replace k2:=k2.mo hx2;replace k3:=k3.mo hx2
 try simp [h0]
 have hgl:(a0J ((Int.gcd (a0B a.1) (a0B a.2):Nat):Int)).2.length < 536870912:=by
  rw [b0r]
  show (a0l _).length < _
  have h5:Int.gcd (a0B a.1) (a0B a.2)<=(a0B a.2).natAbs:=Int.gcd_le_natAbs_right _ h4
  have:=b0S h5
  have:=a0L k2.ok
  omega
 refine (f0x k3 k4 hx.1 hgl (by rw [b0F,S0C];decide)).mo ?_
 rintro _ G2 ⟨rfl,hx2⟩
 rw [b0m,b0m]
 simp
 intro _
 generalize Int.gcd (a0B a.1) (a0B a.2)=g
 have h6:(i0Y (g:Int) 1 == 0)=(g == 1):=by
  unfold i0Y
  by_cases hg:g=1
  ·subst hg;rfl
  ·have e:(g == 1)=false:=by simp [hg]
   rw [e];split
   ·rfl
   ·rename_i h7;split
    ·rfl
    ·omega
 simp [h3,h4,h6]
theorem j0j (h:j0o H v a) (hf:fl<=H.size) (hn:n0F a < 536870912):b0k env fl j0Q [v] H (fun r H'=>j0o H' r (i0X (l0E a))/\Ext H H') R:=by
 have k0:=h
 have hn1:a.1.2.length < 536870912:=by unfold n0F at hn;omega
 have hn2:a.2.2.length < 536870912:=by unfold n0F at hn;omega
 obtain ⟨s,u,rfl,hs,hu⟩:=h
 have k1:c0m H (.agg #[.bool a.1.1,s]) a.1:=⟨s,rfl,hs⟩
 have k2:c0m H (.agg #[.bool a.2.1,u]) a.2:=⟨u,rfl,hu⟩
 refine a0i I1i hf (h:=?_)
 intro ρ h0
 simp [E0Q,B0B,h0]
 generalize hG:(H.push _).push _=G
 have hx2:Ext H G:=by rw [<- hG];simp
 have b0:a0c.bk G H.size=.row false a0d [.bool a.1.1,s,.bool a.2.1,u]:=by rw [<- hG];simp
 have b1:a0c.bk G (H.size + 1)=.row false a0d [.bool false,.slice none 0 0,.bool false,.slice none 0 0]:=by rw [<- hG];simp
 have hx:=Ext.refl H
 clear hG
 replace hx:=hx.trans hx2;replace k0:=k0.mo hx2;replace k1:=k1.mo hx2;replace k2:=k2.mo hx2
 simp [B0C,h0,b0]
 refine (g0I k0 hx.1).mo ?_
 rintro _ G2 ⟨rfl,hx2⟩
 replace b0:=hx2.bk b0;replace b1:=hx2.bk b1;replace hx:=hx.trans hx2;replace k0:=k0.mo hx2;replace k1:=k1.mo hx2;replace k2:=k2.mo hx2
 cases hz0:e0p a
 case true =>
  have hval:l0E a=0:=by unfold l0E;rw [hz0];rfl
  simp [t0I,h0]
  refine (i0o hx.1).mo ?_
  rintro _ G2 ⟨⟨s1,rfl,hs1⟩,hx2⟩
  replace b0:=hx2.bk b0;replace b1:=hx2.bk b1;replace hx:=hx.trans hx2;replace k0:=k0.mo hx2;replace k1:=k1.mo hx2;replace k2:=k2.mo hx2
  have hz:=a0r b1
  simp [h0,b1,hs1.cells,hs1.plain,hz]
  refine fun _=>?_
  rw [hval,m0f]
  exact ⟨_,s1,rfl,Lim.nil,hs1.setT b1 (by decide)⟩
 simp [h0,b0]
 refine (f0C k0 hx.1 hn).mo ?_
 rintro _ G2 ⟨rfl,hx2⟩
 replace b0:=hx2.bk b0;replace b1:=hx2.bk b1;replace hx:=hx.trans hx2;replace k1:=k1.mo hx2;replace k2:=k2.mo hx2
 cases hm:n0H a
 case false =>
  have hval:l0E a=0:=by unfold l0E;rw [hz0,hm];rfl
  simp [t0I,h0]
  refine (i0o hx.1).mo ?_
  rintro _ G2 ⟨⟨s1,rfl,hs1⟩,hx2⟩
  replace b0:=hx2.bk b0;replace b1:=hx2.bk b1;replace hx:=hx.trans hx2;replace k1:=k1.mo hx2;replace k2:=k2.mo hx2
  have hz:=a0r b1
  simp [h0,b1,hs1.cells,hs1.plain,hz]
  refine fun _=>?_
  rw [hval,m0f]
  exact ⟨_,s1,rfl,Lim.nil,hs1.setT b1 (by decide)⟩
 rw [k0P hz0 hm]
 simp [h0]
 refine c0t ?_
 simp [B0D,h0,b0]
 have hv0:a0B (false,[])=0:=by unfold a0B d0k;simp [a0q]
 refine (l0f k1 (j:=(false,[])) ⟨_,rfl,Lim.nil⟩ (by have:=hx.1;omega) hn1 (by simp)).mo ?_
 rintro _ G2 ⟨⟨s1,rfl,k3⟩,hx2⟩
 replace b0:=hx2.bk b0;replace b1:=hx2.bk b1;replace hx:=hx.trans hx2;replace k2:=k2.mo hx2
 rw [hv0,Int.add_zero] at k3 ⊢
 try simp [h0,b0]
 refine (l0f k2 (j:=(false,[])) ⟨_,rfl,Lim.nil⟩ hx.1 hn2 (by simp)).mo ?_
 rintro _ G2 ⟨⟨s2,rfl,k4⟩,hx2⟩
 replace b1:=hx2.bk b1;replace hx:=hx.trans hx2;replace k3:=k3.mo hx2
 rw [hv0,Int.add_zero] at k4 ⊢
 have hz:=a0r b1
 simp [h0,b1,k3.cells,k3.plain,k4.cells,k4.plain,hz]
 exact fun _=>⟨s1,s2,rfl,k3.setT b1 (by decide),k4.setT b1 (by decide)⟩
end
section
def szR (x:Rat):Nat:=max (lz x.num) (lz x.den)
theorem x0h (x:Rat):n0F (i0X x)=szR x:=rfl
theorem q0r:szR 0=1:=by show max (lz 0) (lz 1)=1;rw [X0i,S0C];rfl
theorem u0I {a:d0d} (h1:b0g a.1.2) (h2:b0g a.2.2):szR (l0E a)<=max (n0F a) 1:=by
 by_cases hz:e0p a=true
 ·have:l0E a=0:=by unfold l0E;rw [hz];rfl
  rw [this,q0r];omega
 ·by_cases hm:n0H a=true
  ·have h3:=k0P (by simpa using hz) hm
   have h4:=x0h (l0E a)
   rw [h3] at h4
   rw [<- h4]
   have:=z0v h1
   have:=z0v h2
   unfold n0F;simp only [b0F];omega
  ·have:l0E a=0:=by unfold l0E;simp [hz,hm]
   rw [this,q0r];omega
def H1L (x y:Rat):Int:=if x < y then -1 else if y < x then 1 else 0
theorem y0p (x y:Rat):i0Y (x.num * y.den) (y.num * x.den)=H1L x y:=by
 unfold i0Y H1L
 simp only [Rat.lt_iff,gt_iff_lt]
end
section
variable {fl:Nat} {H:a0c} {R:a0P} {v w:Value} {i j:Bool × List Nat} {a b:d0d}
theorem c0m.cells {i:Bool × List Nat} (h:c0m H v i):(a0t v).length=2/\(a0t v).all a0n=true:=by
 obtain ⟨s,rfl,hs⟩:=h;simp [hs.plain]
end
section
variable {fl:Nat} {H G:a0c} {R:a0P} {v w:Value} {i j:Bool × List Nat} {a b:d0d}
theorem j0o.p (h:j0o H v a):∃ s u,v=.agg #[.bool a.1.1,s,.bool a.2.1,u]/\Lim H s a.1.2/\Lim H u a.2.2/\c0m H (.agg #[.bool a.1.1,s]) a.1/\c0m H (.agg #[.bool a.2.1,u]) a.2:=by
 obtain ⟨s,u,h1,h2,h3⟩:=h;exact ⟨s,u,h1,h2,h3,⟨s,rfl,h2⟩,⟨u,rfl,h3⟩⟩
theorem j0o.ok (h:j0o H v a):b0g a.1.2/\b0g a.2.2:=by obtain ⟨s,u,_,h2,h3⟩:=h;exact ⟨h2.ok,h3.ok⟩
theorem F0k (x:Rat):lz x.num<=szR x:=by unfold szR;omega
theorem F0j (x:Rat):lz x.den<=szR x:=by unfold szR;omega
theorem r0W (h:j0o H v a) (k:j0o H w b) (hf:fl<=H.size) (hn:n0F a < 67108864) (hm:n0F b < 67108864) :
  b0k env fl s0M [v,w] H (fun r H'=>r=.int .i64 (H1L (l0E a) (l0E b))/\Ext H H') R:=by
 have k0:=h
 have k1:=k
 obtain ⟨s,u,rfl,hs,hu⟩:=h
 obtain ⟨s',u',rfl,hs',hu'⟩:=k
 refine a0i H1S hf (h:=?_)
 intro ρ h0
 simp [R0r,A0p,h0]
 generalize hG:(H.push _).push _=G
 have hx:Ext H G:=by rw [<- hG];exact (Ext.refl H).push.push
 have b0:a0c.bk G H.size=.row false a0d [.bool a.1.1,s,.bool a.2.1,u]:=by rw [<- hG];simp
 have b1:a0c.bk G (H.size + 1)=.row false a0d [.bool b.1.1,s',.bool b.2.1,u']:=by rw [<- hG];simp
 clear hG
 replace k0:=k0.mo hx
 replace k1:=k1.mo hx
 have sa:=u0I k0.ok.1 k0.ok.2
 have sb:=u0I k1.ok.1 k1.ok.2
 refine c0t ?_
 simp [A0q,h0,b0,b1]
 refine (j0j k0 (by have:=hx.1;omega) (by omega)).mo ?_
 rintro _ G2 ⟨⟨s1,s2,rfl,k2,k3⟩,hx2⟩
 replace b0:=hx2.bk b0;replace b1:=hx2.bk b1;replace hx:=hx.trans hx2;replace k0:=k0.mo hx2;replace k1:=k1.mo hx2
 simp [h0,b1]
 refine (j0j k1 hx.1 (by omega)).mo ?_
 rintro _ G2 ⟨⟨s3,s4,rfl,k4,k5⟩,hx2⟩
 replace b0:=hx2.bk b0;replace b1:=hx2.bk b1;replace hx:=hx.trans hx2;replace k0:=k0.mo hx2;replace k1:=k1.mo hx2;replace k2:=k2.mo hx2;replace k3:=k3.mo hx2
 clear k0 k1
 have hz0:=a0r b0
 simp [h0,b0,k2.cells,k2.plain,k3.cells,k3.plain,hz0]
 generalize hS:Array.setIfInBounds _ _ _=G3
 have hsz:=hx.1;replace k2:=k2.setS hS b0 (by decide);replace k3:=k3.setS hS b0 (by decide);replace k4:=k4.setS hS b0 (by decide);replace k5:=k5.setS hS b0 (by decide);replace b1:=w0s hS b1 (by omega);replace hx:=q0l hS hx (by omega);replace b0:=k0L hS b0;clear hS hsz
 have hz0:=a0r b1
 simp [b1,k4.cells,k4.plain,k5.cells,k5.plain,hz0]
 generalize hS:Array.setIfInBounds _ _ _=G3
 have hsz:=hx.1;replace k2:=k2.setS hS b1 (by decide);replace k3:=k3.setS hS b1 (by decide);replace k4:=k4.setS hS b1 (by decide);replace k5:=k5.setS hS b1 (by decide);replace b0:=w0s hS b0 (by omega);replace hx:=q0l hS hx (by omega);replace b1:=k0L hS b1;clear hS hsz
 obtain ⟨x,hxv⟩:∃ x,x=l0E a:=⟨_,rfl⟩
 obtain ⟨y,hyv⟩:∃ y,y=l0E b:=⟨_,rfl⟩
 rw [<- hxv] at sa k2 k3 b0 ⊢
 rw [<- hyv] at sb k4 k5 b1 ⊢
 have k0:c0m _ (.agg #[.bool (i0X x).1.1,s1]) (a0J x.num):=⟨s1,rfl,k2⟩
 have k1:c0m _ (.agg #[.bool (i0X x).2.1,s2]) (a0J x.den):=⟨s2,rfl,k3⟩
 have k6:c0m _ (.agg #[.bool (i0X y).1.1,s3]) (a0J y.num):=⟨s3,rfl,k4⟩
 have k7:c0m _ (.agg #[.bool (i0X y).2.1,s4]) (a0J y.den):=⟨s4,rfl,k5⟩
 have l1:=F0k x
 have l2:=F0j x
 have l3:=F0k y
 have l4:=F0j y
 clear hs hu hs' hu' k2 k3 k4 k5
 refine c0t ?_
 simp [A0r,h0,b0,b1]
 refine (l0g k0 k7 (by have:=hx.1;omega) (by rw [b0F];omega) (by rw [b0F];omega)).mo ?_
 rintro _ G2 ⟨k2,hx2⟩
 replace b0:=hx2.bk b0;replace b1:=hx2.bk b1;replace hx:=hx.trans hx2;replace k1:=k1.mo hx2;replace k6:=k6.mo hx2
 rw [b0m,b0m] at k2
 simp [h0,b0,b1]
 refine (l0g k6 k1 hx.1 (by rw [b0F];omega) (by rw [b0F];omega)).mo ?_
 rintro _ G2 ⟨k5,hx2⟩
 replace hx:=hx.trans hx2;replace k2:=k2.mo hx2
 rw [b0m,b0m] at k5
 simp [h0]
 have m3:=S0B x.num y.den
 have m4:=S0B y.num x.den
 refine (f0x k2 k5 hx.1 (by rw [b0F];omega) (by rw [b0F];omega)).mo ?_
 rintro _ G2 ⟨rfl,hx2⟩
 rw [b0m,b0m,y0p]
 simp
end
section
variable {fl:Nat} {H G:a0c} {R:a0P} {v w:Value} {a b:d0d}
abbrev o0N:=Int × d0d
def q0v (H:a0c) (v:Value) (e:o0N):Prop:=∃ s u,v=.agg #[.int .i64 e.1,.bool e.2.1.1,s,.bool e.2.2.1,u]/\Lim H s e.2.1.2/\Lim H u e.2.2.2
variable {e f:o0N}
theorem q0v.mo (h:q0v H v e) (hx:Ext H G):q0v G v e:=by obtain ⟨s,u,h1,h2,h3⟩:=h;exact ⟨s,u,h1,h2.mo hx,h3.mo hx⟩
theorem q0v.setT (h:q0v H v e) {p:Nat} {ro:Bool} {e':TypeId} {cs':List Value} {r:Blk} (hb:H.bk p=.row ro e' cs') (hne:e' ≠ a0b):q0v (H.setIfInBounds p r) v e:=by
 obtain ⟨s,u,h1,h2,h3⟩:=h;exact ⟨s,u,h1,h2.setT hb hne,h3.setT hb hne⟩
theorem q0v.setS {G3:a0c} {q:Nat} {X:Blk} {ro:Bool} {e':TypeId} {cs:List Value} (k:q0v H v e) (hS:Array.setIfInBounds H q X=G3) (hb:a0c.bk H q=.row ro e' cs) (hne:e' ≠ a0b):q0v G3 v e:=by rw [<- hS];exact k.setT hb hne
theorem q0v.ok (h:q0v H v e):b0g e.2.1.2/\b0g e.2.2.2:=by obtain ⟨s,u,_,h2,h3⟩:=h;exact ⟨h2.ok,h3.ok⟩
def J1N (e:o0N):Bool:=if e.1 = -1 ∨ e.1=1 then e0p e.2 else if e.1=0 then n0H e.2 else false
def G1y:d0d:=((false,[]),(false,[]))
theorem x0M:e0p G1y=true:=rfl
theorem F0s:l0E G1y=0:=by unfold l0E;rw [x0M];rfl
theorem g0a (h:j0o H v a) (hf:fl<=H.size):b0k env fl w0R [v] H (fun r H'=>r=.bool (e0p a)/\Ext H H') R:=by
 obtain ⟨s,u,rfl,hs,hu⟩:=h
 refine a0i I1h hf (h:=?_)
 intro ρ h0
 simp [R0z,B0A,h0]
 have hsl:=hs.slen
 have hul:=hu.slen
 cases h1:a.1.1
 ·by_cases h2:a.1.2=[]
  ·cases h3:a.2.1
   ·simp [m0S,h0,h1,h2,h3,hsl,hul,e0p]
   ·simp [m0S,h0,h1,h2,h3,hsl,hul,e0p]
  ·simp [m0S,h0,h1,h2,hsl,hul,e0p]
 ·simp [m0S,h0,h1,hsl,hul,e0p]
theorem q0S (h:q0v H v e) (hf:fl<=H.size) (hn:n0F e.2 < 67108864):b0k env fl s0L [v] H (fun r H'=>r=.bool (J1N e)/\Ext H H') R:=by
 obtain ⟨s,u,rfl,hs,hu⟩:=h
 have k0:j0o H (.agg #[.bool e.2.1.1,s,.bool e.2.2.1,u]) e.2:=⟨s,u,rfl,hs,hu⟩
 refine a0i H1R hf (h:=?_)
 intro ρ h0
 simp [R0q,A0k,A0l,A0m,h0]
 generalize hG:H.push _=G
 obtain ⟨hx2,b0⟩:=t0i hG
 have hx:=Ext.refl H
 clear hG
 replace hx:=hx.trans hx2;replace k0:=k0.mo hx2
 unfold J1N
 by_cases h1:e.1 = -1
 ·simp [h1,t0y,h0,b0]
  refine (g0a k0 hx.1).mo ?_
  rintro _ G2 ⟨rfl,hx2⟩
  simp
 ·by_cases h2:e.1=1
  ·simp [h2,p0G,t0y,h0,b0]
   refine (g0a k0 hx.1).mo ?_
   rintro _ G2 ⟨rfl,hx2⟩
   simp
  ·by_cases h3:e.1=0
   ·simp [h3,p0G,t0z,A0n,h0,b0]
    refine (f0C k0 hx.1 (by omega)).mo ?_
    rintro _ G2 ⟨rfl,hx2⟩
    simp
   ·simp [h1,h2,h3,p0G,t0z,A0o,h0,b0]
end
section
def x0U (b2 b:Nat) (A:a0U->a0c->Prop) (Z:a0U->a0c->Prop) (Q:d0K):d0K
 | .normal,t,H=>A t H
 | .exit j,t,H=>if j=b2 then A t H else if j=b then Z t H else Q (.exit j) t H
 | .ret,t,H=>Q .ret t H
section
variable {b2 b:Nat} {A Z:a0U->a0c->Prop} {Q:d0K} {t:a0U} {H:a0c}
@[simp] theorem X0d:x0U b2 b A Z Q .normal t H=A t H:=nr rfl
@[simp] theorem v1P {j:Nat}:x0U b2 b A Z Q (.exit j) t H=if j=b2 then A t H else if j=b then Z t H else Q (.exit j) t H:=nr rfl
@[simp] theorem G1l:x0U b2 b A Z Q .ret t H=Q .ret t H:=nr rfl
end
def Rnd (nt ti tn n i:Nat) (Inv:Nat->(Nat->Value)->a0c->Prop) (t:a0U) (H:a0c):Prop :=
 ∃ ρ,t=T nt ρ/\ρ ti=.int .i64 (i:Int)/\ρ tn=.int .i64 (n:Int)/\Inv (i + 1) ρ H
theorem Rnd.mk {nt ti tn n i:Nat} {Inv:Nat->(Nat->Value)->a0c->Prop} {ρ:Nat->Value} {H:a0c} (h1:ρ ti=.int .i64 (i:Int)) (h2:ρ tn=.int .i64 (n:Int)) (h3:Inv (i + 1) ρ H):Rnd nt ti tn n i Inv (T nt ρ) H:=⟨ρ,rfl,h1,h2,h3⟩
theorem s0x {E:Env} {fl nt ti tn tc tx b b2 n:Nat} {body:SCode} {Z:a0U->a0c->Prop} {Q:d0K} {R:a0P} {ρ:Nat->Value} {H:a0c} {rc rx:List a0v} (Inv:Nat->(Nat->Value)->a0c->Prop)
  (hrc:rc=[⟨some tc,none,.bin 0 .lss (.tmp ti) (.tmp tn)⟩]) (hrx:rx=[⟨some tx,none,.bin 0 .add (.tmp ti) (.const (.int .i64 1))⟩,⟨some ti,none,.mv (.tmp tx)⟩])
  (hl:ti < nt/\tn < nt/\tc < nt/\tx < nt/\tc ≠ ti/\tc ≠ tn/\tx ≠ ti/\tx ≠ tn/\ti ≠ tn) (hn:n < 4611686018427387904)
  (h0:ρ ti=.int .i64 0) (hN:ρ tn=.int .i64 (n:Int)) (hI:Inv 0 ρ H)
  (stab:∀ i (ρ ρ':Nat->Value) H,(∀ k,k ≠ tc->k ≠ tx->k ≠ ti->ρ' k=ρ k)->Inv i ρ H->Inv i ρ' H)
  (step:∀ i ρ H,i < n->ρ ti=.int .i64 (i:Int)->ρ tn=.int .i64 (n:Int)->Inv i ρ H->W E fl body (T nt ρ) H (x0U b2 b (Rnd nt ti tn n i Inv) Z Q) R)
  (rest:∀ ρ H,ρ ti=.int .i64 (n:Int)->ρ tn=.int .i64 (n:Int)->Inv n ρ H->Z (T nt ρ) H) :
  W E fl (.loop (.seq (.reg rc) (.seq (.cond (.tmp tc) .skip (.exit b)) (.seq (.block b2 body) (.reg rx))))) (T nt ρ) H (f0t b (i0T Z Q)) R:=by
 subst hrc hrx
 obtain ⟨l1,l2,l3,l4,n1,n2,n3,n4,n5⟩:=hl
 refine b0X (fun k t G=>∃ i ρ,i + k=n/\t=T nt ρ/\ρ ti=.int .i64 (i:Int)/\ρ tn=.int .i64 (n:Int)/\Inv i ρ G) Z n ?_ ?_ (fun _ _ h=>h)
 ·exact ⟨0,ρ,by omega,rfl,h0,hN,hI⟩
 ·clear h0 hN hI ρ H
  rintro k t G ⟨i,ρ,hik,rfl,g1,g2,hI⟩
  have e9:IntKind.i64.wrap ((i:Int) + 1)=((i + 1:Nat):Int):=by rw [b0d (by omega) (by omega)];omega
  have hstab:∀ v,Inv i (upd ρ tc v) G:=fun v=>stab i ρ _ G (fun k h1 _ _=>k0p (Ne.symm h1)) hI
  refine i0G (m0d ?_)
  simp only [s0w,y0e,l0b,b0H l1,b0H l2,g1,g2,F0W,z0E,y0d,d0Z,X0s]
  by_cases hi:i < n
  ·have hs:=step i (upd ρ tc (.bool true)) G hi (by rw [k0p n1];exact g1) (by rw [k0p n2];exact g2) (hstab _)
   have hd:decide ((i:Int) < (n:Int))=true:=by rw [N1s];omega
   rw [hd]
   refine i0G (m0c true (by rw [l0b,b0H l3,l0S]) (fun _=>u0W ?_) (by simp))
   refine i0G (o0P ?_)
   have hfin:∀ t' H',Rnd nt ti tn n i Inv t' H'->WR E fl [⟨some tx,none,.bin 0 .add (.tmp ti) (.const (.int .i64 1))⟩,⟨some ti,none,.mv (.tmp tx)⟩] t' H' (fun t' H'=>∃ k',k' < k/\∃ i ρ,i + k' = n/\t' = T nt ρ/\ρ ti=.int .i64 (i:Int)/\ρ tn=.int .i64 (n:Int)/\Inv i ρ H') R:=by
    rintro t' H' ⟨ρ',rfl,q1,q2,q3⟩
    simp only [s0w,y0e,u1Q,l0b,G0m,b0H l1,q1,F0U,e9,z0E,y0d,X0s,b0H l4,l0S]
    refine ⟨k - 1,by omega,i + 1,_,by omega,rfl,l0S,?_,?_⟩
    ·rw [k0p n5,k0p n4];exact q2
    ·exact stab (i + 1) ρ' _ H' (fun k h1 h2 h3=>by rw [k0p (Ne.symm h3),k0p (Ne.symm h2)]) q3
   refine hs.mo fun e t' H' hq=>?_
   cases e with
   | normal=>exact m0d (hfin _ _ hq)
   | exit j =>
    simp only [x0U] at hq
    show (if j=b2 then _ else _)
    by_cases hj:j=b2
    ·rw [M1Z hj] at hq ⊢;exact m0d (hfin _ _ hq)
    ·rw [M1V hj] at hq ⊢
     show (if j=b then _ else _)
     by_cases hj2:j=b
     ·rw [M1Z hj2] at hq ⊢;exact hq
     ·rw [M1V hj2] at hq ⊢;exact hq
   | ret=>exact hq
  ·have:i=n:=by omega
   subst this
   have hd:decide ((i:Int) < (i:Int))=false:=by simp
   rw [hd]
   refine i0G (m0c false (by rw [l0b,b0H l3,l0S]) (by simp) (fun _=>u0V ?_))
   show (if b=b then _ else _)
   rw [M1Z rfl]
   exact rest _ _ (by rw [k0p n1];exact g1) (by rw [k0p n2];exact g2) (hstab _)
theorem k0N {Q:d0K}:i0T (fun t H=>Q .normal t H) Q=Q:=by
 funext e t H;cases e <;> rfl
theorem u1R {E:Env} {fl nt ti tn tc tx b b2 n:Nat} {body:SCode} {Q:d0K} {R:a0P} {ρ:Nat->Value} {H:a0c} {rc rx:List a0v} (Inv:Nat->(Nat->Value)->a0c->Prop)
  (hrc:rc=[⟨some tc,none,.bin 0 .lss (.tmp ti) (.tmp tn)⟩]) (hrx:rx=[⟨some tx,none,.bin 0 .add (.tmp ti) (.const (.int .i64 1))⟩,⟨some ti,none,.mv (.tmp tx)⟩])
  (hl:ti < nt/\tn < nt/\tc < nt/\tx < nt/\tc ≠ ti/\tc ≠ tn/\tx ≠ ti/\tx ≠ tn/\ti ≠ tn) (hn:n < 4611686018427387904)
  (h0:ρ ti=.int .i64 0) (hN:ρ tn=.int .i64 (n:Int)) (hI:Inv 0 ρ H)
  (stab:∀ i (ρ ρ':Nat->Value) H,(∀ k,k ≠ tc->k ≠ tx->k ≠ ti->ρ' k=ρ k)->Inv i ρ H->Inv i ρ' H)
  (step:∀ i ρ H,i < n->ρ ti=.int .i64 (i:Int)->ρ tn=.int .i64 (n:Int)->Inv i ρ H->W E fl body (T nt ρ) H (x0U b2 b (Rnd nt ti tn n i Inv) (fun t H=>Q .normal t H) Q) R)
  (rest:∀ ρ H,ρ ti=.int .i64 (n:Int)->ρ tn=.int .i64 (n:Int)->Inv n ρ H->Q .normal (T nt ρ) H) :
  W E fl (.loop (.seq (.reg rc) (.seq (.cond (.tmp tc) .skip (.exit b)) (.seq (.block b2 body) (.reg rx))))) (T nt ρ) H (f0t b Q) R:=by
 rw [<- k0N (Q:=Q)]
 exact s0x (Z:=fun t H=>Q .normal t H) (Q:=Q) Inv hrc hrx hl hn h0 hN hI stab step rest
def Sls {α:Type} (P:a0c->List Value->α->Prop) (H:a0c) (e sz:Nat) (v:Value) (l:List α):Prop :=
 ∃ cs,Sl H e sz v l.length cs/\∀ k (h:k < l.length),P H ((cs.drop (k * sz)).take sz) l[k]
def q0A {α:Type} (P:a0c->List Value->α->Prop):Prop:=∀ H G cs x,Ext H G->P H cs x->P G cs x
section
variable {α:Type} {P:a0c->List Value->α->Prop} {H G:a0c} {e sz:Nat} {v:Value} {l:List α}
theorem Sls.mo (hP:q0A P) (h:Sls P H e sz v l) (hx:Ext H G):Sls P G e sz v l:=by
 obtain ⟨cs,h1,h2⟩:=h;exact ⟨cs,h1.mo hx,fun k hk=>hP _ _ _ _ hx (h2 k hk)⟩
theorem Sls.slen (h:Sls P H e sz v l):i0q v=some (.int .i64 l.length):=by obtain ⟨cs,h1,_⟩:=h;exact h1.slen
theorem Sls.ia (h:Sls P H e sz v l) {k:IntKind} {j:Nat} (hj:j < l.length):iaV sz v (.int k j)=some (adr sz v j):=by obtain ⟨cs,h1,_⟩:=h;exact h1.ia hj
theorem Sls.load (h:Sls P H e sz v l) {j:Nat} (hj:j < l.length) (hs:0 < sz):∃ cs,b0w H true sz (adr sz v j)=some (.agg cs.toArray)/\cs.length=sz/\P H cs l[j]:=by
 obtain ⟨cs,h1,h2⟩:=h
 refine ⟨_,h1.load (Ext.refl H) hj hs,?_,h2 j hj⟩
 have:=h1.1
 have:(j + 1) * sz<=l.length * sz:=N1e _ hj
 rw [N1t,O1e] at this
 simp;omega
theorem Sls.load1 (h:Sls P H e 1 v l) {j:Nat} (hj:j < l.length):∃ w,b0w H false 1 (adr 1 v j)=some w/\P H [w] l[j]:=by
 obtain ⟨cs,h1,h2⟩:=h
 refine ⟨_,h1.load1 (Ext.refl H) hj,?_⟩
 have h3:=h2 j hj
 have hl:=h1.1
 have:(cs.drop (j * 1)).take 1=[cs.getD j undef]:=by
  have hjc:j < cs.length:=by omega
  have e1:cs.getD j undef=cs[j]:=by simp [M1R,hjc]
  rw [N1W,N1P hjc,e1];rfl
 rw [this] at h3;exact h3
theorem Sls.cells (h:Sls P H e sz v l):a0t v=[v]:=by obtain ⟨cs,h1,_⟩:=h;exact h1.cells
theorem Sls.plain (h:Sls P H e sz v l):a0n v=true:=by obtain ⟨cs,h1,_⟩:=h;exact h1.plain
theorem Sls.nil:Sls P H e sz (.slice none 0 0) ([]:List α):=⟨[],Sl.nil,fun k hk=>by simp at hk⟩
end
def k0t {α:Type} (P:a0c->List Value->α->Prop) (fl:Nat) (H:a0c) (e sz:Nat) (v:Value) (l:List α):Prop :=
 ∃ cs,Own fl H e sz v l.length cs/\∀ k (h:k < l.length),P H ((cs.drop (k * sz)).take sz) l[k]
section
variable {α:Type} {P:a0c->List Value->α->Prop} {H G:a0c} {fl e sz:Nat} {v:Value} {l:List α}
theorem k0t.sls (h:k0t P fl H e sz v l):Sls P H e sz v l:=by obtain ⟨cs,h1,h2⟩:=h;exact ⟨cs,h1.sl,h2⟩
theorem k0t.mo (hP:q0A P) (h:k0t P fl H e sz v l) (hx:Ext H G):k0t P fl G e sz v l:=by
 obtain ⟨cs,h1,h2⟩:=h;exact ⟨cs,h1.mo hx,fun k hk=>hP _ _ _ _ hx (h2 k hk)⟩
theorem k0t.nil:k0t P fl H e sz (.slice none 0 0) ([]:List α):=⟨[],Own.nil,fun k hk=>by simp at hk⟩
theorem k0t.slen (h:k0t P fl H e sz v l):i0q v=some (.int .i64 l.length):=h.sls.slen
def Lx (H G:a0c):Prop:=∀ b ro cs,H.bk b=.row ro a0b cs->G.bk b=.row ro a0b cs
theorem k0t.lx (h:k0t P fl G e sz v l) (he:e ≠ a0b) {G':a0c} (hx:j0m (slB v) G G'):Lx G G':=by
 intro b ro cs hb
 obtain ⟨cs',⟨hl,⟨rfl,_⟩ | ⟨p,cap,rfl,hp,_⟩⟩,_⟩:=h
 ·rw [hx.2 b (a0r hb) (by simp [slB])];exact hb
 ·rw [hx.2 b (a0r hb) (by simp [slB];rintro rfl;rw [hp] at hb;cases hb;exact he rfl)];exact hb
theorem k0t.app (he:e ≠ a0b) (hO:∀ G' cs x,j0m (slB v) G G'->Lx G G'->P G cs x->P G' cs x) (h:k0t P fl G e sz v l) {e2 c bytes:Nat} {new:List Value} {x:α} (hx:P G new x) (hl:new.length=sz) (hp:new.all a0n=true) (hn:l.length < 1073741824) (hb:bytes<=1024) (hs:0 < sz) (hfl:fl<=G.size) :
  ∃ v' G',n0w fl (G.push (.row false e2 new)) e sz bytes v (.slice (some ⟨G.size,0,none⟩) 1 c)=some (v',G')/\k0t P fl G' e sz v' (l ++ [x])/\j0m (slB v) G G'/\(∀ H0,H0.size<=fl->Ext H0 G->Ext H0 G'):=by
 obtain ⟨cs,h1,h2⟩:=h
 obtain ⟨v',G',a1,a2,a3,a4⟩:=e0c (e2:=e2) (c:=c) h1 hl hp hn hb hs hfl (bytes:=bytes)
 refine ⟨v',G',a1,⟨cs ++ new,by simpa using a2,fun k hk=>?_⟩,a3,a4⟩
 have hcs:=h1.1
 by_cases hkl:k < l.length
 ·have h3:(k + 1) * sz<=l.length * sz:=N1e _ hkl
  rw [N1t,O1e] at h3
  rw [List.getElem_append_left hkl,O1L (by omega),List.take_append_of_le_length (by simp;omega)]
  exact hO _ _ _ a3 (k0t.lx ⟨cs,h1,h2⟩ he a3) (h2 k hkl)
 ·have hke:k=l.length:=by simp at hk;omega
  subst hke
  rw [List.getElem_append_right (M1U _),O1L (by omega),O1N (by omega),O1R,<- hl,N1f]
  simpa using hO _ _ _ a3 (k0t.lx ⟨cs,h1,h2⟩ he a3) hx
end
theorem Lim.lx {H G:a0c} {v:Value} {l:List Nat} (h:Lim H v l) (hx:Lx H G):Lim G v l:=by
 obtain ⟨⟨hl,h1 | ⟨b,off,cap,ro,cells,rfl,hb,ho,hcs⟩⟩,h2⟩:=h
 ·exact ⟨⟨hl,.inl h1⟩,h2⟩
 ·exact ⟨⟨hl,.inr ⟨b,off,cap,ro,cells,rfl,hx _ _ _ hb,ho,hcs⟩⟩,h2⟩
theorem j0o.lx {H G:a0c} {v:Value} {a:d0d} (h:j0o H v a) (hx:Lx H G):j0o G v a:=by obtain ⟨s,u,h1,h2,h3⟩:=h;exact ⟨s,u,h1,h2.lx hx,h3.lx hx⟩
theorem q0v.lx {H G:a0c} {v:Value} {e:o0N} (h:q0v H v e) (hx:Lx H G):q0v G v e:=by obtain ⟨s,u,h1,h2,h3⟩:=h;exact ⟨s,u,h1,h2.lx hx,h3.lx hx⟩
end
section
variable {fl:Nat} {H G:a0c} {R:a0P} {v w:Value}
def PR (H:a0c) (cs:List Value) (a:d0d):Prop:=j0o H (.agg cs.toArray) a
def PE (H:a0c) (cs:List Value) (e:o0N):Prop:=q0v H (.agg cs.toArray) e
theorem l0e:q0A PR:=fun _ _ _ _ hx h=>j0o.mo h hx
abbrev f0H (H:a0c) (v:Value) (l:List d0d):Prop:=Sls PR H a0d 4 v l
abbrev F0F (H:a0c) (v:Value) (l:List o0N):Prop:=Sls PE H a0m 5 v l
def PS (H:a0c) (cs:List Value) (l:List d0d):Prop:=∃ v,cs=[v]/\f0H H v l
theorem j0V:q0A PS:=fun _ _ _ _ hx ⟨v,h1,h2⟩=>⟨v,h1,h2.mo l0e hx⟩
abbrev k0u (H:a0c) (v:Value) (l:List (List d0d)):Prop:=Sls PS H b0E 1 v l
theorem f0H.load {l:List d0d} (h:f0H H v l) {j:Nat} (hj:j < l.length):∃ w,b0w H true 4 (adr 4 v j)=some w/\j0o H w l[j]:=by
 obtain ⟨cs,h1,_,h3⟩:=Sls.load h hj (by omega);exact ⟨_,h1,h3⟩
theorem F0F.load {l:List o0N} (h:F0F H v l) {j:Nat} (hj:j < l.length):∃ w,b0w H true 5 (adr 5 v j)=some w/\q0v H w l[j]:=by
 obtain ⟨cs,h1,_,h3⟩:=Sls.load h hj (by omega);exact ⟨_,h1,h3⟩
theorem k0u.load {l:List (List d0d)} (h:k0u H v l) {j:Nat} (hj:j < l.length):∃ w,b0w H false 1 (adr 1 v j)=some w/\f0H H w l[j]:=by
 obtain ⟨w,h1,w',h2,h3⟩:=Sls.load1 h hj
 simp at h2;subst h2;exact ⟨_,h1,h3⟩
def Few (S:Nat) (l:List d0d):Prop:=∀ x ∈ l,n0F x<=S/\b0g x.1.2/\b0g x.2.2
theorem Few.sz {S:Nat} {l:List d0d} (h:Few S l) (n:Nat):szR (l0E (l.getD n G1y))<=S + 1:=by
 rw [M1R]
 by_cases hn:n < l.length
 ·rw [M1X hn]
  obtain ⟨h1,h2,h3⟩:=h _ (N1j hn)
  have:=u0I h2 h3
  simp;omega
 ·rw [N1d (by omega)]
  show szR (l0E G1y)<=_
  rw [F0s,q0r];omega
end
section
variable {fl:Nat} {H G:a0c} {R:a0P} {v w:Value} {a b:List o0N}
def j0J {α:Type} (p:α->Bool) (l:List α):Bool:=l.any p
def i0H {α:Type} (p:α->Bool) (l:List α):Bool:=l.all p
section
variable {α:Type} {p:α->Bool} {l:List α} {i:Nat}
theorem l0H:j0J p []=false:=rfl
theorem d0H:i0H p []=true:=rfl
theorem j0K (h:i < l.length):j0J p (l.take (i + 1))=(j0J p (l.take i) || p l[i]):=by
 unfold j0J;rw [N1x h,List.any_append];simp
theorem c0K (h:i < l.length):i0H p (l.take (i + 1))=(i0H p (l.take i) && p l[i]):=by
 unfold i0H;rw [N1x h,List.all_append];simp
theorem l0I (h:i < l.length) (hp:p l[i]=true):j0J p l=true:=List.any_eq_true.2 ⟨_,N1j h,hp⟩
theorem f0E (h:i < l.length) (hp:p l[i]=false):i0H p l=false:=by
 unfold i0H;rw [List.all_eq_false];exact ⟨l[i],N1j h,by simp [hp]⟩
end
def k0X (H:a0c) (v:Value) (rows:List (List d0d)):Prop:=∃ s,v=.agg #[s]/\k0u H s rows
def q0k (n:Int) (r:List d0d):Bool:=decide ((r.length:Int)=n) && i0H n0H r
def o0y (rows:List (List d0d)) (n:Int):Bool:=decide (0<=n) && decide (n<=6) && decide (rows.length<=40) && i0H (q0k n) rows
theorem l0D {S:Nat} {rows:List (List d0d)} {n:Int} (h:k0X H v rows) (hf:fl<=H.size) (hS:S < 67108864) (hr:∀ r ∈ rows,Few S r/\r.length < 1073741824) (hrl:rows.length < 1073741824) :
  b0k env fl S0m [v,.int .i64 n] H (fun r H'=>r=.bool (o0y rows n)/\Ext H H') R:=by
 obtain ⟨s,rfl,hs⟩:=h
 refine a0i M1g hf (h:=?_)
 intro ρ h0
 simp [E1W,T0O,h0,hs.cells]
 generalize hG:H.push _=G
 obtain ⟨hx2,b0⟩:=t0i hG
 have hx:=Ext.refl H
 clear hG
 replace hx:=hx.trans hx2
 unfold o0y
 by_cases h1:n < 0
 ·have h1':¬ 0<=n:=by omega
  simp [r0U,w0m,h0,h1,h1']
 ·have h1':0<=n:=by omega
  by_cases h2:6 < n
  ·have h2':¬ n<=6:=by omega
   simp [r0U,w0m,h0,h1,h1',h2,h2']
  ·have h2':n<=6:=by omega
   by_cases h3:40 < rows.length
   ·have h3':¬ rows.length<=40:=by omega
    have h3'':(40:Int) < (rows.length:Int):=by omega
    simp [r0U,w0m,h0,b0,(hs.mo j0V hx).slen,hs.slen,h1,h1',h2,h2',h3,h3',h3'']
   ·have h3':rows.length<=40:=by omega
    have h3'':¬ (40:Int) < (rows.length:Int):=by omega
    simp [r0U,T0P,h0,b0,hs.slen,h1,h1',h2,h2',h3,h3',h3'']
    refine s0x (n:=rows.length) (fun i ρ G=>ρ 1=.int .i64 n/\ρ 22=s/\Ext H G/\i0H (q0k n) (rows.take i)=true)
     rfl rfl (by decide) (by omega) (by simp) (by simp) ?_ ?_ ?_ ?_
    ·exact ⟨by simp [h0],by simp,hx,by rw [P1j];exact d0H⟩
    ·intro i ρ ρ' G h hI;simpa [h] using hI
    ·clear h0 ρ hx b0 hx2
     rintro i ρ G hi gi gn ⟨g1,g22,hx,hc⟩
     have ks:=hs.mo j0V hx
     obtain ⟨w,hl,kw⟩:=k0u.load ks hi
     obtain ⟨hfew,hrl2⟩:=hr _ (N1j hi)
     by_cases hlen:(rows[i].length:Int)=n
     ·simp [E0q,E0r,T0R,g1,g22,gi,ks.ia hi,hl,kw.slen,hlen]
      refine u1R (n:=rows[i].length) (fun j ρ G=>ρ 1=.int .i64 n/\ρ 22=s/\ρ 24=.int .i64 (i:Int)/\ρ 23=.int .i64 (rows.length:Int)/\ρ 32=w/\Ext H G/\f0H G w rows[i]/\i0H n0H (rows[i].take j)=true)
       rfl rfl (by decide) (by omega) (by simp) (by simp [hlen]) ?_ ?_ ?_ ?_
      ·exact ⟨by simp [g1],by simp [g22],by simp [gi],by simp [gn],by simp,hx,kw,by rw [P1j];exact d0H⟩
      ·intro i ρ ρ' G h hI;simpa [h] using hI
      ·clear g1 g22 gi gn hx kw hl ks ρ G
       rintro j ρ G hj gj gm ⟨g1,g22,gi,gn,g32,hx,kw,hcj⟩
       obtain ⟨x,hlx,k0⟩:=f0H.load kw hj
       obtain ⟨s1,s2,rfl,k1,k2⟩:=id k0
       have hf2:=hfew _ (N1j hj)
       have hsz:=hx.1
       simp [E0m,g1,g22,g32,gj,kw.ia hj,hlx,k1.cells,k1.plain,k2.cells,k2.plain,hsz]
       generalize hN:Array.setIfInBounds (Array.push _ _) _ _=G3
       obtain ⟨hx2,b1⟩:=F0C hN
       clear hN
       replace hx:=hx.trans hx2;replace k0:=k0.mo hx2
       replace kw:=kw.mo l0e hx2
       simp [E0n,b1]
       refine (f0C k0 hx.1 (by omega)).mo ?_
       rintro _ G2 ⟨rfl,hx2⟩
       replace hx:=hx.trans hx2
       replace kw:=kw.mo l0e hx2
       cases hm:n0H rows[i][j]
       ·simp [E0o]
        intros
        exact f0E hi (by unfold q0k;rw [f0E hj hm];simp)
       ·simp
        exact Rnd.mk (by simp [gj]) (by simp [gm]) ⟨by simp [g1],by simp [g22],by simp [gi],by simp [gn],by simp [g32],hx,kw,by rw [c0K hj,hcj,hm];rfl⟩
      ·rintro ρ G gj gm ⟨g1,g22,gi,gn,g32,hx,kw,hcj⟩
       rw [N1f] at hcj
       simp
       exact Rnd.mk gi gn ⟨g1,g22,hx,by rw [c0K hi,hc];unfold q0k;simp [hlen,hcj]⟩
     ·simp [E0q,E0r,T0Q,g1,g22,gi,ks.ia hi,hl,kw.slen,hlen]
      intro _
      exact f0E hi (by unfold q0k;simp [hlen])
    ·clear h0 ρ hx b0 hx2
     rintro ρ G gi gn ⟨g1,g22,hx,hc⟩
     rw [N1f] at hc
     simp [E0p,hc]
end
section
variable {fl:Nat} {H G:a0c} {R:a0P} {v w u:Value}
theorem f0H.off {l:List d0d} {o:Option Nat} (h:f0H H v l) (hx:j0m o H G) (hne:slB v=none ∨ slB v ≠ o) (h2:Lx H G):f0H G v l:=by
 obtain ⟨cs,⟨hl,hs⟩,hp⟩:=h
 refine ⟨cs,⟨hl,?_⟩,fun k hk=>j0o.lx (hp k hk) h2⟩
 rcases hs with hs | ⟨b,off,cap,ro,cells,rfl,hb,ho,hcs⟩
 ·exact .inl hs
 ·refine .inr ⟨b,off,cap,ro,cells,rfl,?_,ho,hcs⟩
  rw [hx.2 b (a0r hb) (by rcases hne with h | h;simp [slB] at h;exact fun h3=>h h3.symm)];exact hb
theorem f0H.lt {l:List d0d} (h:f0H H v l) {b:Nat} (hb:slB v=some b):b < H.size:=by
 obtain ⟨cs,⟨hl,⟨rfl,_⟩ | ⟨b',off,cap,ro,cells,rfl,hb',ho,hcs⟩⟩,hp⟩:=h
 ·simp [slB] at hb
 ·simp [slB] at hb;subst hb;exact a0r hb'
structure LPt where
 n:Int
 A:List (List d0d)
 B:List d0d
 C:List d0d
theorem k0t.ne {α:Type} {Q:a0c->List Value->α->Prop} {fl e sz e' p:Nat} {v:Value} {l:List α} {cs:List Value} {ro:Bool} (h:k0t Q fl G e sz v l) (hb:a0c.bk G p=.row ro e' cs) (he:e ≠ e'):slB v ≠ some p:=by
 obtain ⟨cs',⟨hl,⟨rfl,_⟩ | ⟨b,cap,rfl,hp,_⟩⟩,_⟩:=h
 ·simp [slB]
 ·simp [slB];rintro rfl;rw [hp] at hb;cases hb;exact he rfl
theorem k0t.cells {α:Type} {Q:a0c->List Value->α->Prop} {fl e sz:Nat} {v:Value} {l:List α} (h:k0t Q fl G e sz v l):a0t v=[v]/\a0n v=true:=⟨h.sls.cells,h.sls.plain⟩
theorem k0t.low {α:Type} {Q:a0c->List Value->α->Prop} {fl fl' e sz:Nat} {v:Value} {l:List α} (h:k0t Q fl G e sz v l) (hl:fl'<=fl):k0t Q fl' G e sz v l:=by
 obtain ⟨cs',⟨hl',h1 | ⟨b',cap,rfl,hp,hf⟩⟩,h2⟩:=h
 ·exact ⟨cs',⟨hl',.inl h1⟩,h2⟩
 ·exact ⟨cs',⟨hl',.inr ⟨b',cap,rfl,hp,by omega⟩⟩,h2⟩
theorem k0t.off {α:Type} {Q:a0c->List Value->α->Prop} {fl e sz:Nat} {v:Value} {l:List α} {o:Option Nat} {G':a0c} (h:k0t Q fl G e sz v l) (hx:j0m o G G') (hne:slB v=none ∨ slB v ≠ o) (hQ:∀ cs x,Q G cs x->Q G' cs x):k0t Q fl G' e sz v l:=by
 obtain ⟨cs',⟨hl',h1 | ⟨b',cap,rfl,hp,hf⟩⟩,h2⟩:=h
 ·exact ⟨cs',⟨hl',.inl h1⟩,fun k hk=>hQ _ _ (h2 k hk)⟩
 ·refine ⟨cs',⟨hl',.inr ⟨b',cap,rfl,?_,hf⟩⟩,fun k hk=>hQ _ _ (h2 k hk)⟩
  rw [hx.2 b' (a0r hp) (by rcases hne with h | h;simp [slB] at h;exact fun h3=>h h3.symm)];exact hp
theorem k0t.blkOf {α:Type} {Q:a0c->List Value->α->Prop} {fl e sz:Nat} {v:Value} {l:List α} (h:k0t Q fl G e sz v l):AI.blkW v=[] ∨ ∃ b,AI.blkW v=[b]/\slB v=some b:=by
 obtain ⟨cs',⟨hl',⟨rfl,_⟩ | ⟨b',cap,rfl,hp,hf⟩⟩,h2⟩:=h
 ·exact .inl rfl
 ·by_cases h00:l.length=0/\cap=0
  ·exact .inl (by simp only [AI.blkW];rw [M1Z h00])
  ·exact .inr ⟨b',by simp only [AI.blkW];rw [M1V h00],rfl⟩
end
section
def e0a (nt i:Nat) (Inv:Nat->(Nat->Value)->a0c->Prop) (t:a0U) (H:a0c):Prop:=∃ ρ2,t=T nt ρ2/\Inv (i + 1) ρ2 H
theorem e0a.mk {nt i:Nat} {Inv:Nat->(Nat->Value)->a0c->Prop} {ρ:Nat->Value} {H:a0c} (h:Inv (i + 1) ρ H):e0a nt i Inv (T nt ρ) H:=⟨ρ,rfl,h⟩
theorem b0D {n:Nat} (h:n < 4611686018427387904):IntKind.i64.wrap ((n:Int) + 1)=((n + 1:Nat):Int):=by rw [b0d (by omega) (by omega)];omega
def k0s (E:Env) (fl nt:Nat) (rx:List a0v) (R:a0P) (i:Nat) (Inv:Nat->(Nat->Value)->a0c->Prop) (t:a0U) (H:a0c):Prop :=
 WR E fl rx t H (e0a nt i Inv) R
def g0T (E:Env) (fl nt tc b b2 n:Nat) (body:SCode) (rx:List a0v) (Z:a0U->a0c->Prop) (Q:d0K) (R:a0P) (i:Nat) (Inv:Nat->(Nat->Value)->a0c->Prop) (t:a0U) (H:a0c):Prop :=
 ∃ ρ',t=T nt ρ'/\ρ' tc=.bool (decide (i < n))/\(i < n->W E fl body (T nt ρ') H (x0U b2 b (k0s E fl nt rx R i Inv) Z Q) R)/\(i=n->Z (T nt ρ') H)
section
variable {E:Env} {fl nt tc b b2 n i:Nat} {body:SCode} {rx rc:List a0v} {Z:a0U->a0c->Prop} {Q:d0K} {R:a0P} {Inv:Nat->(Nat->Value)->a0c->Prop} {ρ:Nat->Value} {H:a0c}
theorem g0T.mk (h1:ρ tc=.bool (decide (i < n))) (h2:i < n->W E fl body (T nt ρ) H (x0U b2 b (k0s E fl nt rx R i Inv) Z Q) R) (h3:i=n->Z (T nt ρ) H):g0T E fl nt tc b b2 n body rx Z Q R i Inv (T nt ρ) H:=⟨ρ,rfl,h1,h2,h3⟩
theorem f0r (Inv:Nat->(Nat->Value)->a0c->Prop) (n:Nat) (htc:tc < nt) (hI:Inv 0 ρ H)
  (step:∀ i ρ G,i<=n->Inv i ρ G->WR E fl rc (T nt ρ) G (g0T E fl nt tc b b2 n body rx Z Q R i Inv) R) :
  W E fl (.loop (.seq (.seq (.reg rc) (.cond (.tmp tc) .skip (.exit b))) (.seq (.block b2 body) (.reg rx)))) (T nt ρ) H (f0t b (i0T Z Q)) R:=by
 refine b0X (fun k t G=>∃ i ρ,i + k=n/\t=T nt ρ/\Inv i ρ G) Z n ⟨0,ρ,by omega,rfl,hI⟩ ?_ (fun _ _ h=>h)
 clear hI
 rintro k t G ⟨i,ρ,hik,rfl,hI⟩
 refine i0G (i0G (m0d ((step i ρ G (by omega) hI).mo ?_)))
 rintro t' G' ⟨ρ',rfl,h1,h2,h3⟩
 simp only [d0Z]
 by_cases hi:i < n
 ·have hd:ρ' tc=.bool true:=by rw [h1,decide_eq_true hi]
  refine m0c true (by rw [l0b,b0H htc,hd]) (fun _=>u0W ?_) (by simp)
  simp only [d0Z]
  refine i0G (o0P ((h2 hi).mo fun e t2 G2 hq=>?_))
  have fin:k0s E fl nt rx R i Inv t2 G2->i0T (fun t' H'=>W E fl (.reg rx) t' H' (p0h b (fun t' H'=>∃ k',k' < k/\∃ i ρ,i + k' = n/\t' = T nt ρ/\Inv i ρ H') Z Q) R) (p0h b (fun t' H'=>∃ k',k' < k/\∃ i ρ,i + k' = n/\t' = T nt ρ/\Inv i ρ H') Z Q) .normal t2 G2:=by
   intro h
   refine m0d (h.mo ?_)
   rintro t3 G3 ⟨ρ3,rfl,h4⟩
   exact ⟨k - 1,by omega,i + 1,ρ3,by omega,rfl,h4⟩
  cases e with
  | normal=>exact fin hq
  | exit j =>
   simp only [x0U] at hq
   show (if j=b2 then _ else _)
   by_cases hj:j=b2
   ·rw [M1Z hj] at hq ⊢;exact fin hq
   ·rw [M1V hj] at hq ⊢
    show (if j=b then _ else _)
    by_cases hj2:j=b
    ·rw [M1Z hj2] at hq ⊢;exact hq
    ·rw [M1V hj2] at hq ⊢;exact hq
  | ret=>exact hq
 ·have he:i=n:=by omega
  have hd:ρ' tc=.bool false:=by rw [h1,decide_eq_false hi]
  refine m0c false (by rw [l0b,b0H htc,hd]) (by simp) (fun _=>u0V ?_)
  show (if b=b then _ else _)
  rw [M1Z rfl]
  exact h3 he
end
end
section
variable {fl:Nat} {H G:a0c} {R:a0P} {v w:Value}
theorem Sls.at_ {α:Type} {P:a0c->List Value->α->Prop} {e sz:Nat} {l:List α} (h:Sls P H e sz v l) {j:Nat} (hj:j < l.length) (hs:0 < sz) :
  ∃ b o cs,adr sz v j=.pointer (some ⟨b,o,none⟩)/\cs.length=sz/\P H cs l[j]/\b0w H true sz (.pointer (some ⟨b,o,none⟩))=some (.agg cs.toArray) /\
   (∀ k n,k + n<=sz->0 < n->b0w H true n (.pointer (some ⟨b,o + k,none⟩))=some (.agg ((cs.drop k).take n).toArray)) /\
   ∀ k,k < sz->b0w H false 1 (.pointer (some ⟨b,o + k,none⟩))=some (cs.getD k undef):=by
 obtain ⟨cs,⟨hl,h1⟩,h2⟩:=h
 have h3:=h2 j hj
 rcases h1 with ⟨rfl,h1⟩ | ⟨b,off,cap,ro,cells,rfl,hb,ho,rfl⟩
 ·omega
 ·have hj2:(j + 1) * sz<=l.length * sz:=N1e sz hj
  rw [N1t,O1e] at hj2
  have e1:(((cells.drop off).take (l.length * sz)).drop (j * sz)).take sz=(cells.drop (off + j * sz)).take sz:=by
   rw [O1q,O1r,O1p,N1J (by omega)]
  rw [e1] at h3
  have agg:∀ k n,k + n<=sz->0 < n->b0w H true n (.pointer (some ⟨b,off + j * sz + k,none⟩))=some (.agg ((((cells.drop (off + j * sz)).take sz).drop k).take n).toArray):=by
   intro k n hk hn
   have hc:=i0x (off:=off + j * sz + k) (n:=n) hb (by omega)
   simp only [b0w]
   rw [M1V (by omega),M1V (by simp)]
   simp only [N1E,hc]
   rw [O1q,O1r,O1p,N1J (by omega)]
  refine ⟨b,off + j * sz,_,rfl,by simp;omega,h3,?_,agg,?_⟩
  ·have:=agg 0 sz (by omega) hs
   simpa [O1r] using this
  ·intro k hk
   have hc:=i0x (off:=off + j * sz + k) (n:=1) hb (by omega)
   simp only [b0w]
   rw [M1V (by simp),M1V (by simp)]
   simp only [hc,N1g,N1G]
   rw [List.head?_take,M1V (by simp),List.head?_drop,M1R,O1O,M1Z (by omega),O1A]
   rw [M1X (by omega)]
   rfl
def j0v (a:d0d):Bool:=decide (6 < a.1.2.length) || decide (6 < a.2.2.length)
theorem s0t {l:List d0d} (h:f0H H v l) (hf:fl<=H.size) (hl:l.length < 1073741824):b0k env fl v1H [v] H (fun r H'=>r=.bool (j0J j0v l)/\Ext H H') R:=by
 refine a0i M1a hf (h:=?_)
 intro ρ h0
 simp [G1F,T0m,T0n,h0]
 refine f0r (fun n ρ G=>ρ 0=v/\ρ 3=.int .i64 (n:Int)/\Ext H G/\j0J j0v (l.take n)=false) l.length (by decide) (by simp [h0,l0H]) ?_
 clear h0 ρ
 rintro n ρ G hn1 ⟨g0,g3,hx,hpre⟩
 have k:=h.mo l0e hx
 simp [T0o,g0,g3,k.slen]
 refine g0T.mk (by simp) (fun hlt=>?_) (fun heq=>?_)
 ·obtain ⟨b,o,cs,ha,hcl,hp,hall,hagg,hc⟩:=k.at_ hlt (by decide)
  obtain ⟨s,u,hcs,hs,hu⟩:=hp
  have hcs2:cs=[.bool l[n].1.1,s,.bool l[n].2.1,u]:=by simpa using congrArg (fun v=>match v with | Value.agg a=>a.toList | _=>[]) hcs
  subst hcs2
  have c1:=hc 1 (by decide)
  have c3:=hc 3 (by decide)
  simp at c1 c3
  have hb:j0J j0v (l.take (n + 1))=j0v l[n]:=by rw [j0K hlt,hpre,O1U]
  have yes:j0v l[n]=true->j0J j0v l=true:=l0I hlt
  by_cases h1:6 < l[n].1.2.length
  ·have h1':(6:Int) < (l[n].1.2.length:Int):=by omega
   simp [w0i,g0,g3,k.ia hlt,ha,c1,c3,hs.slen,hu.slen,h1,h1',E0e]
   exact fun _=>yes (by simp [j0v,h1])
  ·have h1':¬ (6:Int) < (l[n].1.2.length:Int):=by omega
   by_cases h2:6 < l[n].2.2.length
   ·have h2':(6:Int) < (l[n].2.2.length:Int):=by omega
    simp [w0i,g0,g3,k.ia hlt,ha,c1,c3,hs.slen,hu.slen,h1,h1',h2,h2',E0e]
    exact fun _=>yes (by simp [j0v,h2])
   ·have h2':¬ (6:Int) < (l[n].2.2.length:Int):=by omega
    simp [w0i,g0,g3,k.ia hlt,ha,c1,c3,hs.slen,hu.slen,h1,h1',h2,h2']
    unfold k0s
    simp [T0p,g3,b0D (show n < 4611686018427387904 by omega)]
    refine e0a.mk ⟨by simp [g0],by simp,hx,?_⟩
    rw [hb];simp [j0v,h1,h2]
 ·subst heq
  rw [N1f] at hpre
  simp [T0q]
  exact fun _=>hpre
end
section
variable {H:a0c} {v:Value} {m:Nat} {cs:List Value}
theorem m0n {α:Type} {Q:Nat->α->Prop}:∀ n,(∀ i,i < n->∃ x,Q i x)->∃ l:List α,l.length=n/\∀ i (h:i < l.length),Q i l[i]
 | 0,_=>⟨[],rfl,fun i h=>by simp at h⟩
 | n + 1,h=>by
  obtain ⟨l,h1,h2⟩:=m0n n (fun i hi=>h i (by omega))
  obtain ⟨x,hx⟩:=h n (by omega)
  refine ⟨l ++ [x],by simp [h1],fun i hi=>?_⟩
  by_cases h3:i < l.length
  ·rw [List.getElem_append_left h3];exact h2 i h3
  ·have:i=n:=by simp at hi;omega
   subst this
   rw [List.getElem_append_right (by omega)]
   simpa [h1] using hx
theorem t0c {α:Type} {Pr:Program} {P:a0c->List Value->α->Prop} {t e:TypeId} {sz:Nat} (hu:Pr.underlying t=some (.slice e)) (hc:Pr.cellsOf e=sz)
  (hel:∀ cs,cs.length=sz->IsT Pr H m e cs->∃ x,P H cs x) (h:IsT Pr H (m + 1) t [v]):∃ l,Sls P H e sz v l:=by
 unfold IsT at h
 rw [hu] at h
 rcases h with h | ⟨b,len,cap,cells,h1,h2,h3,h4,h5,h6⟩
 ·have:v=.slice none 0 0:=by simpa using h
  subst this
  exact ⟨[],Sls.nil⟩
 ·have:v=.slice (some ⟨b,0,none⟩) len cap:=by simpa using h1
  subst this
  rw [hc] at h5 h6
  have hj:∀ i,i < len->i * sz + sz<=cells.length:=by
   intro i hi
   have:(i + 1) * sz<=len * sz:=N1e _ hi
   rw [N1t,O1e] at this
   omega
  obtain ⟨l,hl,hk⟩:=m0n (Q:=fun i x=>P H ((cells.drop (i * sz)).take sz) x) len (fun i hi=>hel _ (by have:=hj i hi;simp;omega) (h6 i hi))
  subst hl
  refine ⟨l,cells,⟨h5,.inr ⟨b,0,cap,true,cells,rfl,h4,by omega,?_⟩⟩,hk⟩
  rw [O1c,<- h5,N1f]
structure m0a (P:Program):Prop where
 u3:P.underlying 3=some (.int .i64)
 u4:P.underlying 4=some .bool
 u103:P.underlying 160=some (.int .u32)
 u28:P.underlying 59=some (.slice 160)
 u30:∃ f g:Field,P.underlying 61=some (.struct #[f,g])/\f.type=4/\g.type=59
 u32:∃ f g:Field,P.underlying 63=some (.struct #[f,g])/\f.type=61/\g.type=61
 u34:∃ f g:Field,P.underlying 67=some (.struct #[f,g])/\f.type=3/\g.type=63
 u37:P.underlying 46=some (.slice 63)
 u27:P.underlying 42=some (.slice 67)
 u23:P.underlying 31=some (.slice 46)
 u25:∃ f:Field,P.underlying 33=some (.struct #[f])/\f.type=31
 c103:P.cellsOf 160=1
 c37:P.cellsOf 46=1
 c32:P.cellsOf 63=4
 c34:P.cellsOf 67=5
variable {P:Program}
theorem J1D (hP:m0a P) (h:IsT P H (m + 2) 59 [v]):∃ l,Lim H v l:=by
 obtain ⟨l,h⟩:=t0c (P:=fun _ cs (x:Nat)=>cs=[.int .u32 (x:Nat)]/\x < 4294967296) (sz:=1) hP.u28 hP.c103 (fun cs _ h=>by
  unfold IsT at h
  rw [hP.u103] at h
  obtain ⟨n,rfl,hn⟩:=h
  simp only [Lit.wf,M1W,N1s] at hn
  have h0:0<=n:=hn.1
  have h1:n<=4294967295:=hn.2
  exact ⟨n.toNat,by rw [P1c h0],by omega⟩) h
 obtain ⟨cs,h1,h2⟩:=h
 refine ⟨l,?_,fun x hx=>?_⟩
 ·have:cs=b0C l:=by
   apply List.ext_getElem
   ·have:=h1.1;simp [b0C];omega
   ·intro i h3 h4
    have h5:i < l.length:=by simpa using h4
    have h6:=(h2 i h5).1
    rw [N1W,N1P h3,List.take_succ_cons] at h6
    have h7:=(List.cons.inj h6).1
    rw [h7];simp [b0C]
  rw [<- this];exact h1
 ·obtain ⟨i,hi,rfl⟩:=P1d hx
  exact (h2 i hi).2
theorem v1S (hP:m0a P) (h:IsT P H (m + 1) 4 cs):∃ b,cs=[.bool b]:=by
 unfold IsT at h
 rw [hP.u4] at h;exact h
theorem h0S (hP:m0a P) (h:IsT P H (m + 1) 3 cs):∃ n,cs=[.int .i64 n]:=by
 unfold IsT at h
 rw [hP.u3] at h
 obtain ⟨n,h,_⟩:=h;exact ⟨n,h⟩
theorem J1E (hP:m0a P) (h:IsT P H (m + 1) 59 cs):∃ v,cs=[v]:=by
 unfold IsT at h
 rw [hP.u28] at h
 rcases h with h | ⟨b,len,cap,cells,h,_⟩ <;> exact ⟨_,h⟩
theorem H0l (hP:m0a P) (h:IsT P H (m + 3) 61 cs):∃ b s l,cs=[.bool b,s]/\Lim H s l:=by
 obtain ⟨f,g,hu,h1,h2⟩:=hP.u30
 unfold IsT at h
 rw [hu] at h
 obtain ⟨parts,rfl,hl,hp⟩:=h
 obtain ⟨p,q,rfl⟩:∃ p q,parts=[p,q]:=by
  match parts,hl with
  | [p,q],_=>exact ⟨p,q,rfl⟩
 obtain ⟨b,rfl⟩:=v1S hP (by simpa [h1] using hp 0 _ rfl)
 have h1':IsT P H (m + 2) 59 q:=by simpa [h2] using hp 1 _ rfl
 obtain ⟨s,rfl⟩:=J1E hP h1'
 obtain ⟨l,hl⟩:=J1D hP h1'
 exact ⟨b,s,l,rfl,hl⟩
theorem J1F (hP:m0a P) (h:IsT P H (m + 4) 63 cs):∃ a,j0o H (.agg cs.toArray) a:=by
 obtain ⟨f,g,hu,h1,h2⟩:=hP.u32
 unfold IsT at h
 rw [hu] at h
 obtain ⟨parts,rfl,hl,hp⟩:=h
 obtain ⟨p,q,rfl⟩:∃ p q,parts=[p,q]:=by
  match parts,hl with
  | [p,q],_=>exact ⟨p,q,rfl⟩
 obtain ⟨b,s,l,rfl,hs⟩:=H0l hP (by simpa [h1] using hp 0 _ rfl)
 obtain ⟨c,u,k,rfl,hu⟩:=H0l hP (by simpa [h2] using hp 1 _ rfl)
 exact ⟨((b,l),(c,k)),s,u,rfl,hs,hu⟩
theorem S0t (hP:m0a P) (h:IsT P H (m + 5) 46 [v]):∃ l,f0H H v l:=t0c hP.u37 hP.c32 (fun _ _ h=>J1F hP h) h
theorem v1U (hP:m0a P) (h:IsT P H (m + 6) 31 [v]):∃ l,k0u H v l:=t0c hP.u23 hP.c37 (fun cs hc h=>by
 obtain ⟨w,rfl⟩:∃ w,cs=[w]:=by
  match cs,hc with
  | [w],_=>exact ⟨w,rfl⟩
 obtain ⟨l,hl⟩:=S0t hP h
 exact ⟨l,w,rfl,hl⟩) h
theorem F0T (hP:m0a P) (h:IsV P H (m + 7) 33 v):∃ rows,k0X H v rows:=by
 obtain ⟨f,hu,h1⟩:=hP.u25
 unfold IsV at h;rw [hu] at h
 obtain ⟨cs,rfl,h⟩:=h
 unfold IsT at h
 rw [hu] at h
 obtain ⟨parts,hc,hl,hp⟩:=h
 obtain ⟨p,rfl⟩:∃ p,parts=[p]:=by
  match parts,hl with
  | [p],_=>exact ⟨p,rfl⟩
 have h1':IsT P H (m + 6) 31 p:=by simpa [h1] using hp 0 _ rfl
 obtain ⟨s,rfl⟩:∃ s,p=[s]:=by
  unfold IsT at h1'
  rw [hP.u23] at h1'
  rcases h1' with h | ⟨b,len,cap,cells,h,_⟩ <;> exact ⟨_,h⟩
 obtain ⟨l,hl⟩:=v1U hP h1'
 have:cs = #[s]:=by rw [<- O1K];simpa using hc
 exact ⟨l,s,by rw [this],hl⟩
theorem Sls.first {α:Type} {P:a0c->List Value->α->Prop} {e sz:Nat} {l:List α} (h:Sls P H e sz v l) {n:Nat} (hn:n<=l.length) {k:IntKind} :
  ∃ v',d0s sz v none (some (.int k n)) none=some v'/\Sls P H e sz v' (l.take n)/\elemOk H e v=true:=by
 obtain ⟨cs,h1,h2⟩:=h
 obtain ⟨v',h3,h4⟩:=h1.slice (lo:=0) (hi:=n) (x:=none) (y:=some (.int k n)) (N1K _) hn rfl (by simp [bnd])
 refine ⟨v',h3,⟨_,by rw [N1Z,N1J hn];simpa using h4,?_⟩,h1.elemOk (Ext.refl _)⟩
 intro j hj
 have hj2:j < n:=by simp at hj;omega
 have hj3:(j + 1) * sz<=n * sz:=N1e _ hj2
 rw [N1t,O1e] at hj3
 have:=h2 j (by omega)
 simp only [List.getElem_take,P1e,Nat.zero_mul,O1c]
 rw [O1q,O1r,N1J (by omega)]
 exact this
theorem types:m0a Tryz.prog where
 u3:=Tryz.underlying3
 u4:=by kernel_rfl
 u103:=Tryz.underlying160
 u28:=Tryz.underlying59
 u30:=⟨_,_,Tryz.underlying61,rfl,rfl⟩
 u32:=⟨_,_,Tryz.underlying63,rfl,rfl⟩
 u34:=⟨_,_,Tryz.underlying67,rfl,rfl⟩
 u37:=Tryz.underlying46
 u27:=Tryz.underlying42
 u23:=Tryz.underlying31
 u25:=⟨_,Tryz.underlying33,rfl⟩
 c103:=by kernel_rfl
 c37:=by kernel_rfl
 c32:=by kernel_rfl
 c34:=by kernel_rfl
end
section
variable {e f g:o0N}
variable {a b c:List o0N}
end
section
def l0U (E:Env) (fl nt tc b b2:Nat) (body:SCode) (rx:List a0v) (Z:a0U->a0c->Prop) (Q:d0K) (R:a0P) (n i:Nat) (Inv:Nat->(Nat->Value)->a0c->Prop) (t:a0U) (H:a0c):Prop :=
 ∃ ρ' c,t=T nt ρ'/\ρ' tc=.bool c/\(c=true->i < n/\W E fl body (T nt ρ') H (x0U b2 b (k0s E fl nt rx R i Inv) Z Q) R)/\(c=false->Z (T nt ρ') H)
section
variable {E:Env} {fl nt tc b b2 n i:Nat} {body:SCode} {rx rc:List a0v} {Z:a0U->a0c->Prop} {Q:d0K} {R:a0P} {Inv:Nat->(Nat->Value)->a0c->Prop} {ρ:Nat->Value} {H:a0c}
theorem l0U.mk (c:Bool) (h1:ρ tc=.bool c) (h2:c=true->i < n/\W E fl body (T nt ρ) H (x0U b2 b (k0s E fl nt rx R i Inv) Z Q) R) (h3:c=false->Z (T nt ρ) H):l0U E fl nt tc b b2 body rx Z Q R n i Inv (T nt ρ) H:=⟨ρ,c,rfl,h1,h2,h3⟩
theorem y0g (Inv:Nat->(Nat->Value)->a0c->Prop) (n:Nat) (htc:tc < nt) (hI:Inv 0 ρ H)
  (step:∀ i ρ G,i<=n->Inv i ρ G->WR E fl rc (T nt ρ) G (l0U E fl nt tc b b2 body rx Z Q R n i Inv) R) :
  W E fl (.loop (.seq (.seq (.reg rc) (.cond (.tmp tc) .skip (.exit b))) (.seq (.block b2 body) (.reg rx)))) (T nt ρ) H (f0t b (i0T Z Q)) R:=by
 refine b0X (fun k t G=>∃ i ρ,i + k=n/\t=T nt ρ/\Inv i ρ G) Z n ⟨0,ρ,by omega,rfl,hI⟩ ?_ (fun _ _ h=>h)
 clear hI
 rintro k t G ⟨i,ρ,hik,rfl,hI⟩
 refine i0G (i0G (m0d ((step i ρ G (by omega) hI).mo ?_)))
 rintro t' G' ⟨ρ',c,rfl,h1,h2,h3⟩
 simp only [d0Z]
 cases c with
 | true =>
  obtain ⟨hi,h2⟩:=h2 rfl
  refine m0c true (by rw [l0b,b0H htc,h1]) (fun _=>u0W ?_) (by simp)
  simp only [d0Z]
  refine i0G (o0P (h2.mo fun e t2 G2 hq=>?_))
  have fin:k0s E fl nt rx R i Inv t2 G2->i0T (fun t' H'=>W E fl (.reg rx) t' H' (p0h b (fun t' H'=>∃ k',k' < k/\∃ i ρ,i + k' = n/\t' = T nt ρ/\Inv i ρ H') Z Q) R) (p0h b (fun t' H'=>∃ k',k' < k/\∃ i ρ,i + k' = n/\t' = T nt ρ/\Inv i ρ H') Z Q) .normal t2 G2:=by
   intro h
   refine m0d (h.mo ?_)
   rintro t3 G3 ⟨ρ3,rfl,h4⟩
   exact ⟨k - 1,by omega,i + 1,ρ3,by omega,rfl,h4⟩
  cases e with
  | normal=>exact fin hq
  | exit j =>
   simp only [x0U] at hq
   show (if j=b2 then _ else _)
   by_cases hj:j=b2
   ·rw [M1Z hj] at hq ⊢;exact fin hq
   ·rw [M1V hj] at hq ⊢
    show (if j=b then _ else _)
    by_cases hj2:j=b
    ·rw [M1Z hj2] at hq ⊢;exact hq
    ·rw [M1V hj2] at hq ⊢;exact hq
  | ret=>exact hq
 | false =>
  refine m0c false (by rw [l0b,b0H htc,h1]) (by simp) (fun _=>u0V ?_)
  show (if b=b then _ else _)
  rw [M1Z rfl]
  exact h3 rfl
end
variable {fl:Nat} {H G:a0c} {R:a0P} {v w:Value}
def d0X:List (List d0d)->Nat
 | []=>0
 | r :: l=>d0X l + (1 + min r.length 201)
theorem x0C (l:List (List d0d)) (r:List d0d):d0X (l ++ [r])=d0X l + (1 + min r.length 201):=by
 induction l with
 | nil=>simp [d0X]
 | cons x l ih=>simp only [O1y,d0X,ih];omega
theorem x0D {l:List (List d0d)} {i:Nat} (h:i < l.length):d0X (l.take (i + 1))=d0X (l.take i) + (1 + min l[i].length 201):=by
 rw [N1x h,x0C]
def n0G (r:List d0d):Bool:=decide (r.length<=200) && j0J j0v r
theorem v0o (l:List (List d0d)):l.length<=d0X l:=by
 induction l with
 | nil=>simp [d0X]
 | cons x l ih=>simp only [N1I,d0X];omega
theorem z0x {l:List (List d0d)} {r:List d0d} (h:r ∈ l):min r.length 201 < d0X l:=by
 induction l with
 | nil=>simp at h
 | cons x l ih =>
  simp only [d0X]
  rcases O1W.1 h with rfl | h
  ·omega
  ·have:=ih h;omega
def H0j (l:List (List d0d)):Prop:=l.length<=200/\∀ r ∈ l,r.length<=200/\j0J j0v r=false
theorem X0e {l:List (List d0d)} (h:d0X l<=200) (k:j0J n0G l=false):H0j l:=by
 refine ⟨N1n (v0o l) h,fun r hr=>?_⟩
 have h1:=z0x hr
 have h2:r.length<=200:=by omega
 refine ⟨h2,?_⟩
 cases ha:j0J j0v r with
 | false=>rfl
 | true=>exact N1i (List.any_eq_true.2 ⟨r,hr,show n0G r=true by unfold n0G;rw [ha];simp [h2]⟩) (by unfold j0J at k;rw [k];decide)
theorem l0W {l:List (List d0d)} (h:k0u H v l) (hf:fl<=H.size):b0k env fl u1k [v] H (fun r H'=>(∃ c,r=.bool c/\(c=false->H0j l))/\Ext H H') R:=by
 refine a0i L1U hf (h:=?_)
 intro ρ h0
 simp [G1A,S0K,S0L,S0M,h0]
 refine y0g (fun n ρ G=>ρ 0=v/\ρ 4=.int .i64 (n:Int)/\ρ 3=.int .i64 ((d0X (l.take n):Nat):Int)/\d0X (l.take n)<=402/\n<=403/\Ext H G/\j0J n0G (l.take n)=false) l.length (by decide) (by simp [h0,l0H,d0X]) ?_
 clear h0 ρ
 rintro n ρ G hn1 ⟨g0,g4,g3,hb,hn2,hx,hpre⟩
 have k:=h.mo j0V hx
 have hn3:n<=d0X (l.take n):=by have:=v0o (l.take n);rw [N1Z] at this;omega
 by_cases hlt:n < l.length
 ·have hlt':(n:Int) < (l.length:Int):=by omega
  by_cases h2:d0X (l.take n)<=200
  ·have h2':((d0X (l.take n):Nat):Int)<=200:=by omega
   simp [v0G,g0,g4,g3,k.slen,hlt,h2,h2']
   refine l0U.mk true (by simp [h2']) (fun _=>⟨hlt,?_⟩) (by simp)
   obtain ⟨w,hlw,kr⟩:=k0u.load k hlt
   have hmn:v0t false (.int .i64 (l[n].length:Int)) [.int .i64 201]=some (.int .i64 ((min l[n].length 201:Nat):Int)):=by
    simp only [v0t,mn2,N1g,N1G,M1Q,Value.int.injEq,true_and]
    split <;> omega
   have hw1:IntKind.i64.wrap (((d0X (l.take n):Nat):Int) + 1)=((d0X (l.take n) + 1:Nat):Int):=b0D (by omega)
   have hs:=x0D hlt
   have hw2:IntKind.i64.wrap (((d0X (l.take n) + 1:Nat):Int) + ((min l[n].length 201:Nat):Int))=((d0X (l.take (n + 1)):Nat):Int):=by
    rw [b0d (by omega) (by omega),hs];omega
   simp only [Int.natCast_add,Int.cast_ofNat_Int] at hw1 hw2
   simp [S0N,g0,g4,g3,k.ia hlt,hlw,kr.slen,hmn]
   simp [hw1]
   rw [hw2]
   have hyes:n0G l[n]=true->j0J n0G l=true:=l0I hlt
   have hb1:j0J n0G (l.take (n + 1))=n0G l[n]:=by rw [j0K hlt,hpre,O1U]
   have hwn:=b0D (show n < 4611686018427387904 by omega)
   by_cases hl2:l[n].length<=200
   ·have hl2':(l[n].length:Int)<=200:=by omega
    simp [B0x,g0,g4,k.ia hlt,hlw,kr.slen,hl2,hl2']
    refine (s0t kr hx.1 (by omega)).mo ?_
    rintro _ G2 ⟨rfl,hx2⟩
    replace hx:=hx.trans hx2
    cases hlo:j0J j0v l[n] with
    | true=>simp [S0O]
    | false =>
     simp
     unfold k0s
     simp [B0y,g4,hwn]
     refine e0a.mk ⟨by simp [g0],by simp,by simp,by omega,by omega,hx,?_⟩
     rw [hb1];unfold n0G;simp [hlo]
   ·have hl2':¬ (l[n].length:Int)<=200:=by omega
    simp [B0x,g0,g4,k.ia hlt,hlw,kr.slen,hl2,hl2']
    unfold k0s
    simp [B0y,g4,hwn]
    refine e0a.mk ⟨by simp [g0],by simp,by simp,by omega,by omega,hx,?_⟩
    rw [hb1];unfold n0G;simp [hl2]
  ·have h2':¬ ((d0X (l.take n):Nat):Int)<=200:=by omega
   simp [v0G,g0,g4,g3,k.slen,hlt,h2,h2']
   refine l0U.mk false (by simp [h2']) (by simp) (fun _=>?_)
   have h3:(200:Int) < ((d0X (l.take n):Nat):Int):=by omega
   simp [B0z,g3,h3]
 ·have he:n=l.length:=by omega
  subst he
  simp [v0G,g0,g4,g3,k.slen]
  refine l0U.mk false (by simp) (by simp) (fun _=>?_)
  rw [N1f] at hpre g3
  simp [B0z,g3]
  intro _
  by_cases h3:d0X l<=200
  ·exact .inl ⟨by omega,X0e h3 hpre⟩
  ·exact .inr (by omega)
end
section
structure l0q where
 X:List (Bool × List Nat)
 W:List (Bool × List Nat)
 K:Bool × List Nat
structure w0B where
 m:Int
 guards:List l0q
 set:List l0q
def K1R (l:List (Bool × List Nat)):Prop:=∀ x ∈ l,x.2.length<=40/\b0g x.2
def L1L (a:l0q):Prop:=K1R a.X/\K1R a.W/\a.K.2.length<=40/\b0g a.K.2
end
section
variable {fl:Nat} {H G:a0c} {R:a0P} {v w u:Value}
def PIr (H:a0c) (cs:List Value) (x:Bool × List Nat):Prop:=c0m H (.agg cs.toArray) x
theorem e0d:q0A PIr:=fun _ _ _ _ hx h=>c0m.mo h hx
abbrev f0W (H:a0c) (v:Value) (l:List (Bool × List Nat)):Prop:=Sls PIr H a0a 2 v l
theorem f0W.load {l:List (Bool × List Nat)} (h:f0W H v l) {j:Nat} (hj:j < l.length):∃ s,b0w H true 2 (adr 2 v j)=some (.agg #[.bool l[j].1,s])/\Lim H s l[j].2:=by
 obtain ⟨cs,h1,_,s,h3,h4⟩:=Sls.load h hj (by omega)
 exact ⟨s,by rw [h1,h3],h4⟩
theorem f0W.lim {l:List (Bool × List Nat)} (h:f0W H v l):∀ x ∈ l,b0g x.2:=fun x hx=>by
 obtain ⟨i,hi,rfl⟩:=P1d hx
 obtain ⟨s,_,k⟩:=f0W.load h hi
 exact k.ok
def F0x (H:a0c) (v:Value) (a:l0q):Prop:=∃ sX sW s,v=.agg #[sX,sW,.bool a.K.1,s]/\f0W H sX a.X/\f0W H sW a.W/\Lim H s a.K.2
theorem F0x.mo {a:l0q} (h:F0x H v a) (hx:Ext H G):F0x G v a:=by
 obtain ⟨sX,sW,s,h1,h2,h3,h4⟩:=h;exact ⟨sX,sW,s,h1,h2.mo e0d hx,h3.mo e0d hx,h4.mo hx⟩
def PAf (H:a0c) (cs:List Value) (a:l0q):Prop:=F0x H (.agg cs.toArray) a
theorem b0j:q0A PAf:=fun _ _ _ _ hx h=>F0x.mo h hx
abbrev j0k (H:a0c) (v:Value) (l:List l0q):Prop:=Sls PAf H a0j 4 v l
theorem j0k.load {l:List l0q} (h:j0k H v l) {j:Nat} (hj:j < l.length):∃ w,b0w H true 4 (adr 4 v j)=some w/\F0x H w l[j]:=by
 obtain ⟨cs,h1,_,h3⟩:=Sls.load h hj (by omega);exact ⟨_,h1,h3⟩
def U0U (H:a0c) (v:Value) (e:w0B):Prop:=∃ (f t:Int) (sG sS sP:Value),v=.agg #[.int .i64 f,.int .i64 t,.int .i64 e.m,sG,sS,sP]/\j0k H sG e.guards/\j0k H sS e.set/\a0t sP=[sP]/\a0n sP=true
theorem U0U.mo {e:w0B} (h:U0U H v e) (hx:Ext H G):U0U G v e:=by
 obtain ⟨f,t,sG,sS,sP,h1,h2,h3,h4,h5⟩:=h;exact ⟨f,t,sG,sS,sP,h1,h2.mo b0j hx,h3.mo b0j hx,h4,h5⟩
end
section
variable {fl:Nat} {H G:a0c} {R:a0P} {v w u:Value}
theorem Sls.atX {α:Type} {P:a0c->List Value->α->Prop} {e sz:Nat} {l:List α} (h:Sls P H e sz v l) {j:Nat} (hj:j < l.length) (hs:0 < sz) :
  ∃ b o cs,adr sz v j=.pointer (some ⟨b,o,none⟩)/\cs.length=sz/\P H cs l[j] /\
   ∀ G,Ext H G->(∀ k n,k + n<=sz->0 < n->rdn (a0c.bk G b) (o + k) n=some (.agg ((cs.drop k).take n).toArray))/\∀ k,k < sz->rd (a0c.bk G b) (o + k)=some (cs.getD k undef):=by
 obtain ⟨cs,⟨hl,h1⟩,h2⟩:=h
 have h3:=h2 j hj
 rcases h1 with ⟨rfl,h1⟩ | ⟨b,off,cap,ro,cells,rfl,hb,ho,rfl⟩
 ·omega
 ·have hj2:(j + 1) * sz<=l.length * sz:=N1e sz hj
  rw [N1t,O1e] at hj2
  have e1:(((cells.drop off).take (l.length * sz)).drop (j * sz)).take sz=(cells.drop (off + j * sz)).take sz:=by
   rw [O1q,O1r,O1p,N1J (by omega)]
  rw [e1] at h3
  refine ⟨b,off + j * sz,_,rfl,by simp;omega,h3,fun G hx=>⟨fun k n hk hn=>?_,fun k hk=>?_⟩⟩
  ·rw [hx.bk hb,t1o,M1Z (by omega),O1q,O1r,O1p,N1J (by omega)]
  ·rw [hx.bk hb,B1X,M1R,O1O,M1Z (by omega),O1A,M1X (by omega)];rfl
def G1U (l:List (Bool × List Nat)):Prop:=∀ x ∈ l,x.2.length<=40
theorem j0n {l:List (Bool × List Nat)} (h:f0W H v l) (hf:fl<=H.size) (hl:l.length < 1073741824):b0k env fl X0c [v] H (fun r H'=>(∃ c,r=.bool c/\(c=false->G1U l))/\Ext H H') R:=by
 refine a0i M1q hf (h:=?_)
 intro ρ h0
 simp [G1Q,U0y,U0z,h0]
 refine f0r (fun n ρ G=>ρ 0=v/\ρ 3=.int .i64 (n:Int)/\G=H/\G1U (l.take n)) l.length (by decide) (by simp [h0,G1U]) ?_
 clear h0 ρ
 rintro n ρ G hn1 ⟨g0,g3,rfl,hpre⟩
 simp [U0A,g0,g3,h.slen]
 refine g0T.mk (by simp) (fun hlt=>?_) (fun heq=>?_)
 ·obtain ⟨b,o,cs,ha,hcl,⟨s,hcs,hs⟩,hat⟩:=h.atX hlt (by decide)
  have hcs2:cs=[.bool l[n].1,s]:=by simpa using congrArg (fun v=>match v with | Value.agg a=>a.toList | _=>[]) hcs
  subst hcs2
  have c1:=(hat _ (Ext.refl _)).2 1 (by decide)
  simp at c1
  by_cases h1:40 < l[n].2.length
  ·have h1':(40:Int) < (l[n].2.length:Int):=by omega
   simp [E0y,g0,g3,h.ia hlt,ha,c1,hs.slen,h1,h1',U0B]
  ·have h1':¬ (40:Int) < (l[n].2.length:Int):=by omega
   simp [E0y,g0,g3,h.ia hlt,ha,c1,hs.slen,h1,h1']
   unfold k0s
   simp [U0C,g3,b0D (show n < 4611686018427387904 by omega)]
   refine e0a.mk ⟨by simp [g0],by simp,rfl,fun x hx=>?_⟩
   rw [N1x hlt] at hx
   rcases N1B.1 hx with hx | hx
   ·exact hpre x hx
   ·rw [O1l.1 hx];omega
 ·subst heq
  rw [N1f] at hpre
  simp [U0D]
  exact hpre
theorem H0k {a:Bool × List Nat} {p c:Nat} {ro:Bool} {s:Value} (hb:H.bk p=.row ro a0a [.bool a.1,s]) (h:Lim H s a.2):f0W H (.slice (some ⟨p,0,none⟩) 1 c) [a]:=by
 refine ⟨[.bool a.1,s],⟨rfl,.inr ⟨p,0,c,ro,_,rfl,hb,by simp,by simp⟩⟩,fun j hj=>?_⟩
 have:j=0:=by simpa using hj
 subst this
 exact ⟨s,rfl,h⟩
def r0k (a:l0q):Prop:=L1L a/\a.X.length<=60/\a.W.length<=60
theorem m0i {l:List l0q} (h:j0k H v l) (hf:fl<=H.size) (hl:l.length < 1073741824):b0k env fl W0Y [v] H (fun r H'=>(∃ c,r=.bool c/\(c=false->∀ a ∈ l,r0k a))/\Ext H H') R:=by
 refine a0i M1d hf (h:=?_)
 intro ρ h0
 simp [G1I,T0w,T0x,h0]
 refine f0r (fun n ρ G=>ρ 0=v/\ρ 3=.int .i64 (n:Int)/\Ext H G/\∀ a ∈ l.take n,r0k a) l.length (by decide) (by simp [h0]) ?_
 clear h0 ρ
 rintro n ρ G hn1 ⟨g0,g3,hx,hpre⟩
 have k:=h.mo b0j hx
 simp [T0y,g0,g3,k.slen]
 refine g0T.mk (by simp) (fun hlt=>?_) (fun heq=>?_)
 ·obtain ⟨b,o,cs,ha,hcl,⟨sX,sW,s,hcs,kX,kW,kK⟩,hat⟩:=k.atX hlt (by decide)
  have hcs2:cs=[sX,sW,.bool l[n].K.1,s]:=by simpa using congrArg (fun v=>match v with | Value.agg a=>a.toList | _=>[]) hcs
  subst hcs2
  have c0:=(hat _ (Ext.refl _)).2 0 (by decide)
  have c1:=(hat _ (Ext.refl _)).2 1 (by decide)
  have c2:=(hat _ (Ext.refl _)).1 2 2 (by decide) (by decide)
  simp at c0 c1 c2
  by_cases h1:60 < l[n].X.length
  ·have h1':(60:Int) < (l[n].X.length:Int):=by omega
   simp [w0k,g0,g3,k.ia hlt,ha,c0,kX.slen,h1,h1',o0u]
  have h1':¬ (60:Int) < (l[n].X.length:Int):=by omega
  by_cases h2:60 < l[n].W.length
  ·have h2':(60:Int) < (l[n].W.length:Int):=by omega
   simp [w0k,g0,g3,k.ia hlt,ha,c0,c1,kX.slen,kW.slen,h1,h1',h2,h2',o0u]
  have h2':¬ (60:Int) < (l[n].W.length:Int):=by omega
  simp [w0k,g0,g3,k.ia hlt,ha,c0,c1,c2,kX.slen,kW.slen,h1,h1',h2,h2']
  generalize hGG:G.push _=G1
  obtain ⟨hx2,b0⟩:=t0i hGG
  clear hGG
  refine (j0n (H0k b0 (kK.mo hx2)) (by have:=hx.1;have:=hx2.1;omega) (by simp)).mo ?_
  rintro _ G2 ⟨⟨c,rfl,hc1⟩,hx3⟩
  replace hx2:=hx2.trans hx3
  cases c
  case true=>simp [o0u]
  have d0:=(hat _ hx2).2 0 (by decide)
  simp at d0
  simp [g0,g3,k.ia hlt,ha,d0]
  refine (j0n (kX.mo e0d hx2) (by have:=hx.1;have:=hx2.1;omega) (by omega)).mo ?_
  rintro _ G3 ⟨⟨c,rfl,hc2⟩,hx3⟩
  replace hx2:=hx2.trans hx3
  cases c
  case true=>simp [o0u]
  have d1:=(hat _ hx2).2 1 (by decide)
  simp at d1
  simp [g0,g3,k.ia hlt,ha,d1]
  refine (j0n (kW.mo e0d hx2) (by have:=hx.1;have:=hx2.1;omega) (by omega)).mo ?_
  rintro _ G4 ⟨⟨c,rfl,hc3⟩,hx3⟩
  replace hx2:=hx2.trans hx3
  cases c
  case true=>simp [o0u]
  simp
  unfold k0s
  simp [T0z,g3,b0D (show n < 4611686018427387904 by omega)]
  refine e0a.mk ⟨by simp [g0],by simp,hx.trans hx2,fun x hx=>?_⟩
  rw [N1x hlt] at hx
  rcases N1B.1 hx with hx | hx
  ·exact hpre x hx
  ·rw [O1l.1 hx]
   have hK:=hc1 rfl _ (O1l.2 rfl)
   exact ⟨⟨fun x hx=>⟨hc2 rfl x hx,kX.lim x hx⟩,fun x hx=>⟨hc3 rfl x hx,kW.lim x hx⟩,hK,kK.ok⟩,by omega,by omega⟩
 ·subst heq
  rw [N1f] at hpre
  simp [T0A]
  exact fun _=>hpre
def o0c (e:w0B):Prop:=(∀ a ∈ e.set,r0k a)/\(∀ a ∈ e.guards,r0k a)/\e.guards.length<=100/\e.set.length<=20
