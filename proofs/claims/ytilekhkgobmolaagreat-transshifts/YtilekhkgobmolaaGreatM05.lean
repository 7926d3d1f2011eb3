/- Part 6 of the proof: AiNum10, AiNum11, AiNum12, AiNum13, AiNum14, AiNum15, AiNum16, AiWd, AiNum17, AiCall, AiRat1, AiMath3, AiRat2. -/
import Derived.Test.YtilekhkgobmolaaGreatM04
set_option linter.unusedVariables false
set_option linter.unusedSimpArgs false
set_option linter.unusedSectionVars false
namespace Go.Proofs.YtilekhkgobmolaaGreat.AI
section
open Go
set_option maxHeartbeats 4000000
variable {fl:Nat} {H:a0e} {R:a0u} {v w:Value} {a:List Nat}
theorem g0n {l:List Nat} {n:Nat} (h:n < l.length):a0B (l.drop n)=l.getD n 0 + 4294967296 * a0B (l.drop (n + 1)):=by
 rw [a1L h,a0B,Z0C,Z0H h];rfl
theorem m0s {d:Nat} (ha:Lim H v a) (hf:fl≤H.size) (hna:a.length≤1073741824) (hd:0 < d) (hd2:d < 4294967296) :
  a0V env fl y0d [v,.int .u32 (d:Int)] H (fun r H'=>(∃ q o,r=.tuple #[q,.int .u32 ((a0B a % d:Nat):Int)]∧Lim H' q o∧a0B o=a0B a / d∧o.length=a.length)∧Ext H H') R:=by
 refine a0k W0V hf (h:=?_)
 intro ρ h0
 simp only [H0Q]
 have hm:=f0C (bytes:=4) (k:=.i64) (k':=.i64) (l:=a.length) (c:=a.length) (Z0E _) (by omega) (by omega)
 have w1:IntKind.i64.wrap ((a.length:Int) - 1)=(a.length:Int) - 1:=a0F (by omega) (by omega)
 simp [C0t,C0u,C0v,C0w,h0,ha.slen,hm,w1]
 generalize hPd:H.size=P
 have hP:H.size≤P:=by omega
 generalize hSL:Value.slice (some ⟨P,0,none⟩) a.length a.length=SL
 refine b0U (fun k t G'=>∃ r o,t.length=42∧get t 0=v∧get t 1=.int .u32 (d:Int)∧get t 6=SL∧get t 7=.int .u64 ((r:Nat):Int)∧get t 8=.int .i64 ((k:Int) - 1)∧k≤a.length ∧
   Ext H G'∧a0e.blk G' P=.row false a0m (d0f o)∧o.length=a.length∧b0x o∧r < d∧a0B (o.drop k) * d + r=a0B (a.drop k))
  (fun t G'=>∃ r o,t.length=42∧get t 6=SL∧get t 7=.int .u64 ((r:Nat):Int) ∧
   Ext H G'∧a0e.blk G' P=.row false a0m (d0f o)∧o.length=a.length∧b0x o∧r < d∧a0B o * d + r=a0B a) a.length ?_ ?_ ?_
 ·refine ⟨0,List.replicate a.length 0,by simp,by simp [h0],by simp [h0],by simp,by simp,by simp,by omega,Ext.push (Ext.refl _),?_,by simp,?_,hd,?_⟩
  ·rw [← hPd,a0v]
   congr 1
   generalize a.length=n
   induction n with
   | zero=>rfl
   | succ n ih=>rw [e0q,ih];rfl
  ·intro z hz;rw [b1N] at hz;omega
  ·simp [a0B]
 ·clear h0 ρ hm w1
  rintro k t G' ⟨r,o,ht,g0,g1,g6,g7,g8,hk,hx2,hb,hol,hok,hr,hs⟩
  obtain ⟨ρ,rfl⟩:=toT ht
  simp only [b0Q,Nat.reduceLT] at g0 g1 g6 g7 g8
  by_cases hk0:k=0
  ·subst hk0
   simp [s0I,g0,g1,g6,g7,g8]
   exact ⟨r,rfl,hx2,o,hb,hol,hok,hr,by simpa using hs⟩
  ·have e0:(k:Int) - 1=((k - 1:Nat):Int):=by omega
   have hka:k - 1 < a.length:=by omega
   rw [e0] at g8
   have hla:=ha.load hka hx2
   have hia:=ha.ia (k:=.i64) hka
   have hA2:=g0n hka
   have hA3:a.getD (k - 1) 0 < 4294967296:=ha.2 _ (by rw [Z0C,Z0H hka];exact Z0M hka)
   generalize a.getD (k - 1) 0=A at hla hA2 hA3
   have hlo:k - 1 < o.length:=by omega
   obtain ⟨hio,hro⟩:=j0Z (k:=.i64) (cap:=a.length) hb hlo hol
   rw [hSL] at hio
   have s2:r * 2 ^ 32 % 18446744073709551616=r * 4294967296:=by omega
   have s1:d0I 0 .shl (.int .u64 (r:Int)) (.int .u64 32)=some (.int .u64 ((r * 4294967296:Nat):Int)):=by
    have:=F0s (tag:=0) (n:=r) (s:=32) (k':=.u64) (by omega)
    rw [s2] at this;exact this
   have s3:=S0w (tag:=0) (a:=r * 4294967296) (b:=A) (by omega) (by omega)
   rw [u0o hA3] at s3
   have eA:IntKind.u64.wrap (A:Int)=(A:Int):=by rw [a0N];omega
   have eD:IntKind.u64.wrap (d:Int)=(d:Int):=by rw [a0N];omega
   have s4:=S0F (tag:=0) (a:=r * 4294967296 + A) (b:=d) (by omega) (by omega)
   have s5:=T0m (tag:=0) (a:=r * 4294967296 + A) (b:=d) (by omega)
   have w2:IntKind.i64.wrap (((k - 1:Nat):Int) - 1)=((k - 1:Nat):Int) - 1:=a0F (by omega) (by omega)
   simp [-Int.natCast_add,-Int.natCast_mul,-Int.natCast_ediv,-Int.natCast_emod,s0I,C0x,C0y,C0z,C0A,g0,g1,g6,g7,g8,hla,hia,s1,s3,eA,eD,s4,s5,hio,w2]
   have hq1:(r * 4294967296 + A) / d < 4294967296:=by
    rw [b1q hd]
    have:(r + 1) * 4294967296≤d * 4294967296:=Z0L _ hr
    rw [a1b 4294967296 d];omega
   have hq2:=b1S (r * 4294967296 + A) d
   have hq3:=b1j (r * 4294967296 + A) hd
   clear s4 s5
   generalize (r * 4294967296 + A) / d=Q at hq1 hq2 ⊢
   generalize (r * 4294967296 + A) % d=r2 at hq2 hq3 ⊢
   refine (a0o (by have:=hx2.1;omega)).mono ?_
   rintro _ G3 ⟨rfl,hx3⟩
   replace hb:=hx3.blk hb
   have hxx:=hx2.trans hx3
   have hPl:=a0g hb
   have hle:k - 1 + 1≤o.length:=hlo
   rw [a1k hq1]
   simp [-Int.natCast_emod,-Int.natCast_ediv,-Int.natCast_add,hb,hle]
   refine ⟨k - 1,by omega,r2,rfl,rfl,by omega,hxx.set (by omega),o.set (k - 1) Q,by rw [a0H hPl,d0H],by simp [hol],e0a hok hq1,hq3,?_⟩
   have hdr:a0B ((o.set (k - 1) Q).drop (k - 1))=Q + 4294967296 * a0B (o.drop k):=by
    rw [g0n (by simpa using hlo),Z0C,b1h hlo,show k - 1 + 1=k by omega,List.drop_set_of_lt (by omega)];rfl
   rw [hdr,hA2,show k - 1 + 1=k by omega,← hs,Z0U,a1e,a1b Q d]
   generalize a0B (List.drop k o) * d=Z
   omega
 ·clear h0 ρ hm w1
  rintro t G' ⟨r,o,ht,g6,g7,hx2,hb,hol,hok,hr,hs⟩
  obtain ⟨ρ,rfl⟩:=toT ht
  simp only [b0Q,Nat.reduceLT] at g6 g7
  have hy:Lim G' SL o:=by
   rw [← hSL,← hol]
   exact ⟨(Own.mk (fl:=0) hb (by simp) (a1x _)).sl,hok⟩
  simp [C0B,g6,g7]
  refine (a0o (by have:=hx2.1;omega)).mono ?_
  rintro _ G3 ⟨rfl,hx3⟩
  have e1:a0B a % d=r:=by rw [← hs,a1b,Nat.mul_add_mod,a1k hr]
  have e2:a0B a / d=a0B o:=by rw [← hs,a1b,Nat.mul_add_div hd,Nat.div_eq_of_lt hr];rfl
  have e3:((a0B a:Nat):Int) % (d:Int)=((r:Nat):Int):=by rw [← e1];rfl
  rw [a1k (by omega),e3,e2]
  simp
  exact fun _=>⟨o,hy.mono hx3,rfl,hol⟩
end
section
open Go
set_option maxHeartbeats 4000000
variable {fl:Nat} {H:a0e} {R:a0u} {v w:Value} {a b:List Nat}
theorem s0b {x y s:Nat} (h:y < 2 ^ s):y ||| x * 2 ^ s=y + x * 2 ^ s:=by
 have:=Nat.two_pow_add_eq_or_of_lt (i:=s) (b:=y) h x
 rw [Nat.or_comm,a1b x,← this,Nat.add_comm]
theorem f0P {n:Nat} (ha:Lim H v a) (hf:fl≤H.size) (hna:a.length < 1073741824) (hn:n < 32) :
  a0V env fl w0f [v,.int .i64 (n:Int)] H (fun r H'=>(∃ o,Own H.size H' a0m 1 r (a.length + 1) (d0f o)∧b0x o∧a0B o=a0B a * 2 ^ n∧o.length=a.length + 1)∧Ext H H') R:=by
 refine a0k X0c hf (h:=?_)
 intro ρ h0
 simp only [H0X]
 have hm:=U0h (bytes:=4) (k:=.i64) (k':=.i64) (l:=0) (c:=(a.length:Int) + 1) (by omega) (by omega) (by omega) (by omega)
 have w1:IntKind.i64.wrap ((a.length:Int) + 1)=(a.length:Int) + 1:=a0F (by omega) (by omega)
 simp [D0e,D0f,D0g,D0h,h0,ha.slen,hm,w1]
 have hp:2 ^ n≤2147483648:=b1g (n:=2) (by omega) (show n≤31 by omega)
 have hp0:0 < 2 ^ n:=b1U n
 refine b0U (fun k t G'=>∃ i c out s,i + k=a.length∧t.length=38∧get t 1=.int .i64 (n:Int)∧get t 5=s∧get t 6=.int .u64 ((c:Nat):Int)∧get t 13=v∧get t 14=.int .i64 a.length∧get t 15=.int .i64 ((i:Nat):Int) ∧
   Ext H G'∧Own H.size G' a0m 1 s i (d0f out)∧b0x out∧out.length=i∧c < 2 ^ n∧a0B out + 4294967296 ^ i * c=a0B (a.take i) * 2 ^ n)
  (fun t G'=>∃ c out s,t.length=38∧get t 5=s∧get t 6=.int .u64 ((c:Nat):Int) ∧
   Ext H G'∧Own H.size G' a0m 1 s a.length (d0f out)∧b0x out∧out.length=a.length∧c < 2 ^ n∧a0B out + 4294967296 ^ a.length * c=a0B a * 2 ^ n) a.length ?_ ?_ ?_
 ·exact ⟨0,0,[],.slice (some ⟨H.size,0,none⟩) 0 (a.length + 1),by omega,by simp,by simp [h0],by simp,by simp,by simp [h0],by simp,by simp,by simp,
   Own.mk (by simp [d0f]) rfl (Z0E _),by intro x hx;simp at hx,rfl,hp0,by simp [a0B]⟩
 ·clear hm w1 h0 ρ
  rintro k t G' ⟨i,c,out,s,hik,ht,g1,g5,g6,g13,g14,g15,hx,ho,hok,hol,hc,hs⟩
  obtain ⟨ρ,rfl⟩:=toT ht
  simp only [b0Q,Nat.reduceLT] at g1 g5 g6 g13 g14 g15
  by_cases hi:i < a.length
  ·have hla:=ha.load hi hx
   have hia:=ha.ia (k:=.i64) hi
   have hA2:=b0i hi
   have hA3:a.getD i 0 < 4294967296:=ha.2 _ (by rw [Z0C,Z0H hi];exact Z0M hi)
   generalize a.getD i 0=A at hla hA2 hA3
   have eA:IntKind.u64.wrap (A:Int)=(A:Int):=by rw [a0N];omega
   have hAn:A * 2 ^ n≤4294967295 * 2147483648:=a1D (by omega) hp
   have s1:=F0s (tag:=0) (n:=A) (s:=n) (k':=.i64) (by omega)
   rw [a1k (by omega)] at s1
   have s2:=S0w (tag:=0) (a:=c) (b:=A * 2 ^ n) (by omega) (by omega)
   rw [s0b hc] at s2
   have e9:IntKind.i64.wrap ((i:Int) + 1)=((i + 1:Nat):Int):=by rw [a0F (by omega) (by omega)];omega
   simp [-Int.natCast_add,-Int.natCast_mul,-Int.natCast_pow,s0N,D0i,D0j,D0k,D0l,D0m,g1,g5,g6,g13,g14,g15,hi,hia,hla,eA,s1,s2]
   generalize hD:c + A * 2 ^ n=D
   refine (a0o hx.1).mono ?_
   rintro _ G2 ⟨rfl,hx2⟩
   obtain ⟨s',G3,h1,h2,h3,h4⟩:=g0f (e2:=a0m) (new:=[.int .u32 ((D % 4294967296:Nat):Int)]) (c:=1) (bytes:=4) (ho.mono hx2) rfl rfl (by omega) (by omega) (by omega) (by have:=hx.1;have:=hx2.1;omega)
   simp [-Int.natCast_emod,-Int.natCast_add,h1,g1,g5,g6,g13,g14,g15,e9]
   have hDq:D / 4294967296 < 2 ^ n:=by
    rw [b1q (by omega),← hD]
    have:(A + 1) * 2 ^ n≤4294967296 * 2 ^ n:=Z0L _ hA3
    rw [Z0U] at this
    rw [a1b (2 ^ n)];omega
   refine ⟨k - 1,by omega,i + 1,by omega,D / 4294967296,rfl,rfl,h4 _ (Z0E _) (hx.trans hx2),out ++ [D % 4294967296],by simpa [d0f] using h2,?_,by simp [hol],hDq,?_⟩
   ·intro x hx
    rcases a1g.1 hx with hx | hx
    ·exact hok x hx
    ·simp at hx;omega
   ·rw [d0D,hol,hA2,a1r,Z0U,← hs]
    have e3:4294967296 ^ i * 4294967296 * (D / 4294967296)=4294967296 ^ i * (4294967296 * (D / 4294967296)):=a1e ..
    have e4:4294967296 ^ i * (D % 4294967296) + 4294967296 ^ i * (4294967296 * (D / 4294967296))=4294967296 ^ i * D:=by rw [← Z0X,Nat.mod_add_div]
    have e5:4294967296 ^ i * D=4294967296 ^ i * c + 4294967296 ^ i * A * 2 ^ n:=by rw [← hD,Z0X,a1e]
    omega
  ·simp [s0N,g1,g5,g6,g13,g14,g15,hi]
   have:i=a.length:=by omega
   subst this
   refine ⟨c,rfl,hx,out,ho,hok,hol,hc,?_⟩
   rw [hs,Z0R (Z0E _)]
 ·clear hm w1 h0 ρ
  rintro t G' ⟨c,out,s,ht,g5,g6,hx,ho,hok,hol,hc,hs⟩
  obtain ⟨ρ,rfl⟩:=toT ht
  simp only [b0Q,Nat.reduceLT] at g5 g6
  simp [v0h,g5,g6]
  refine (a0o hx.1).mono ?_
  rintro _ G2 ⟨rfl,hx2⟩
  obtain ⟨s',G3,h1,h2,h3,h4⟩:=g0f (e2:=a0m) (new:=[.int .u32 ((c % 4294967296:Nat):Int)]) (c:=1) (bytes:=4) (ho.mono hx2) rfl rfl (by omega) (by omega) (by omega) (by have:=hx.1;have:=hx2.1;omega)
  simp [-Int.natCast_emod,-Int.natCast_add,h1]
  refine fun _=>⟨out ++ [c % 4294967296],by simpa [hol,d0f] using h2,?_,?_,by simp [hol]⟩
  ·intro x hx
   rcases a1g.1 hx with hx | hx
   ·exact hok x hx
   ·simp at hx;omega
  ·rw [d0D,hol,a1k (by omega)];exact hs
theorem p0Y {n A N A1 M:Nat} (hn:n < 32) (hA:A < 4294967296) (hN:N=A1 + 4294967296 * M) :
  (A + 4294967296 * N) / 2 ^ n=(A + A1 * 4294967296) / 2 ^ n % 4294967296 + 4294967296 * (N / 2 ^ n):=by
 have hB:(4294967296:Nat)=2 ^ n * 2 ^ (32 - n):=by rw [← b1T,show n + (32 - n)=32 by omega]
 have hP:=b1U n
 have hQ:=b1U (32 - n)
 generalize 2 ^ n=P at *
 generalize 2 ^ (32 - n)=Q at *
 have e1:(A + 4294967296 * N) / P=A / P + Q * N:=by rw [hB,a1e,Nat.add_mul_div_left _ _ hP]
 have e2:(A + A1 * 4294967296) / P=A / P + Q * A1:=by rw [a1b A1,hB,a1e,Nat.add_mul_div_left _ _ hP]
 have e3:N % P=A1 % P:=by rw [hN,hB,a1e,Nat.add_mul_mod_self_left]
 have e4:Q * N=4294967296 * (N / P) + Q * (A1 % P):=by
  have:=b1S N P
  rw [e3] at this
  calc Q * N=Q * (P * (N / P) + A1 % P):=by rw [this]
   _=_:=by rw [Z0X,← a1e,a1b Q P,← hB]
 have e5:Q * A1=4294967296 * (A1 / P) + Q * (A1 % P):=by
  have:=b1S A1 P
  calc Q * A1=Q * (P * (A1 / P) + A1 % P):=by rw [this]
   _=_:=by rw [Z0X,← a1e,a1b Q P,← hB]
 have h1:A / P < Q:=by rw [b1q hP,a1b,← hB];exact hA
 have h2:Q * (A1 % P) + Q≤4294967296:=by
  have:=b1j A1 hP
  have:Q * (A1 % P + 1)≤Q * P:=a1h Q this
  rw [Z0X,a1b Q P,← hB] at this
  omega
 rw [e1,e2,e4,e5]
 clear e1 e2 e3 e4 e5 hN
 generalize A / P=x at *
 generalize N / P=y at *
 generalize A1 / P=z at *
 generalize Q * (A1 % P)=q at *
 omega
theorem h0Z {o:List Nat} {i z:Nat} (hlo:i < o.length):a0B (List.take (i + 1) (o.set i z))=a0B (List.take i o) + 4294967296 ^ i * z:=by
 rw [d0Z (by simpa using hlo),d0D,a1H,List.length_set,a1I (by omega),List.take_set_of_le (by omega),Z0C,b1h hlo,a1f]
theorem t0O {x y z s i q:Nat} (h:x=y + 4294967296 ^ i * z) (hs:y + 4294967296 ^ i * (z + 4294967296 * q)=s):x + 4294967296 ^ (i + 1) * q=s:=by
 rw [h,← hs,a1r,Z0X,a1e,a1R]
theorem o0B {n:Nat} (ha:Lim H v a) (hf:fl≤H.size) (hna:a.length < 1073741824) (hn:n < 32) :
  a0V env fl y0i [v,.int .i64 (n:Int)] H (fun r H'=>(∃ o,Lim H' r o∧a0B o=a0B a / 2 ^ n∧o.length=a.length)∧Ext H H') R:=by
 refine a0k X0f hf (h:=?_)
 intro ρ h0
 simp only [I0a]
 have hm:=f0C (bytes:=4) (k:=.i64) (k':=.i64) (l:=a.length) (c:=a.length) (Z0E _) (by omega) (by omega)
 simp [D0s,D0t,D0u,h0,ha.slen,hm]
 generalize hPd:H.size=P
 generalize hSL:Value.slice (some ⟨P,0,none⟩) a.length a.length=SL
 refine b0U (fun k t G'=>∃ i o,i + k=a.length∧t.length=44∧get t 0=v∧get t 1=.int .i64 (n:Int)∧get t 5=SL∧get t 12=.int .i64 a.length∧get t 13=.int .i64 ((i:Nat):Int) ∧
   Ext H G'∧a0e.blk G' P=.row false a0m (d0f o)∧o.length=a.length∧b0x o∧a0B (o.take i) + 4294967296 ^ i * (a0B (a.drop i) / 2 ^ n)=a0B a / 2 ^ n)
  (fun t G'=>∃ o,t.length=44∧get t 5=SL ∧
   Ext H G'∧a0e.blk G' P=.row false a0m (d0f o)∧o.length=a.length∧b0x o∧a0B o=a0B a / 2 ^ n) a.length ?_ ?_ ?_
 ·refine ⟨0,List.replicate a.length 0,by omega,by simp,by simp [h0],by simp [h0],by simp,by simp,by simp,Ext.push (Ext.refl _),?_,by simp,?_,by simp [a0B]⟩
  ·rw [← hPd,a0v]
   congr 1
   generalize a.length=n
   induction n with
   | zero=>rfl
   | succ n ih=>rw [e0q,ih];rfl
  ·intro z hz;rw [b1N] at hz;omega
 ·clear h0 ρ hm
  rintro k t G' ⟨i,o,hik,ht,g0,g1,g5,g12,g13,hx2,hb,hol,hok,hs⟩
  obtain ⟨ρ,rfl⟩:=toT ht
  simp only [b0Q,Nat.reduceLT] at g0 g1 g5 g12 g13
  by_cases hi:i < a.length
  ·have hla:=ha.load hi hx2
   have hia:=ha.ia (k:=.i64) hi
   have hA2:=g0n hi
   have hA3:a.getD i 0 < 4294967296:=ha.2 _ (by rw [Z0C,Z0H hi];exact Z0M hi)
   generalize a.getD i 0=A at hla hA2 hA3
   have hlo:i < o.length:=by omega
   obtain ⟨hio,hro⟩:=j0Z (k:=.i64) (cap:=a.length) hb hlo hol
   rw [hSL] at hio
   have eA:IntKind.u64.wrap (A:Int)=(A:Int):=by rw [a0N];omega
   have e9:IntKind.i64.wrap ((i:Int) + 1)=((i + 1:Nat):Int):=by rw [a0F (by omega) (by omega)];omega
   by_cases hi1:i + 1 < a.length
   ·have hla1:=ha.load hi1 hx2
    have hia1:=ha.ia (k:=.i64) hi1
    have hN:=g0n hi1
    have hA13:a.getD (i + 1) 0 < 4294967296:=ha.2 _ (by rw [Z0C,Z0H hi1];exact Z0M hi1)
    generalize a.getD (i + 1) 0=A1 at hla1 hN hA13
    have eA1:IntKind.u64.wrap (A1:Int)=(A1:Int):=by rw [a0N];omega
    have s1:d0I 0 .shl (.int .u64 (A1:Int)) (.int .u64 32)=some (.int .u64 ((A1 * 4294967296:Nat):Int)):=by
     have:=F0s (tag:=0) (n:=A1) (s:=32) (k':=.u64) (by omega)
     rw [show A1 * 2 ^ 32 % 18446744073709551616=A1 * 4294967296 by omega] at this;exact this
    have s2:=S0w (tag:=0) (a:=A) (b:=A1 * 4294967296) (by omega) (by omega)
    rw [show A ||| A1 * 4294967296=A + A1 * 4294967296 from s0b (s:=32) hA3] at s2
    have s3:=P0F (tag:=0) (n:=A + A1 * 4294967296) (s:=n) (k':=.i64) (by omega)
    simp [-Int.natCast_add,-Int.natCast_mul,-Int.natCast_pow,-Int.natCast_ediv,p0u,t0b,t0c,t0d,t0e,t0f,t0g,g0,g1,g5,g12,g13,hi,hi1,hia,hla,hia1,hla1,eA,eA1,e9,s1,s2,s3,ha.slen,hio]
    refine (a0o (by have:=hx2.1;omega)).mono ?_
    rintro _ G3 ⟨rfl,hx3⟩
    replace hb:=hx3.blk hb
    have hxx:=hx2.trans hx3
    have hPl:=a0g hb
    have hle:i + 1≤o.length:=hlo
    have hbl:=p0Y hn hA3 hN
    simp [-Int.natCast_emod,-Int.natCast_ediv,-Int.natCast_add,hb,hle]
    have hz:(A + A1 * 4294967296) / 2 ^ n % 4294967296 < 4294967296:=b1j _ (by omega)
    rw [hA2,hbl] at hs
    generalize (A + A1 * 4294967296) / 2 ^ n % 4294967296=z at hs hz ⊢
    have hset:a0B (List.take (i + 1) (o.set i z))=a0B (List.take i o) + 4294967296 ^ i * z:=h0Z hlo
    refine ⟨k - 1,by omega,i + 1,by omega,rfl,hxx.set (by omega),o.set i z,by rw [a0H hPl,d0H],by simp [hol],e0a hok hz,?_⟩
    exact t0O hset hs
   ·obtain ⟨A1,hA1⟩:∃ x:Nat,x=0:=⟨0,rfl⟩
    have hN:a0B (List.drop (i + 1) a)=A1 + 4294967296 * 0:=by rw [a1U (by omega),hA1];simp [a0B]
    have s3:d0I 0 .shr (.int .u64 (A:Int)) (.int .i64 (n:Int))=some (.int .u64 (((A + A1 * 4294967296) / 2 ^ n:Nat):Int)):=by
     rw [P0F (by omega),show A + A1 * 4294967296=A by rw [hA1];omega]
    clear hA1
    simp [-Int.natCast_add,-Int.natCast_mul,-Int.natCast_pow,-Int.natCast_ediv,p0u,t0b,t0c,t0d,t0e,t0f,t0g,g0,g1,g5,g12,g13,hi,hi1,hia,hla,eA,e9,s3,ha.slen,hio]
    refine (a0o (by have:=hx2.1;omega)).mono ?_
    rintro _ G3 ⟨rfl,hx3⟩
    replace hb:=hx3.blk hb
    have hxx:=hx2.trans hx3
    have hPl:=a0g hb
    have hle:i + 1≤o.length:=hlo
    have hbl:=p0Y hn hA3 hN
    simp [-Int.natCast_emod,-Int.natCast_ediv,-Int.natCast_add,hb,hle]
    have hz:(A + A1 * 4294967296) / 2 ^ n % 4294967296 < 4294967296:=b1j _ (by omega)
    rw [hA2,hbl] at hs
    generalize (A + A1 * 4294967296) / 2 ^ n % 4294967296=z at hs hz ⊢
    have hset:a0B (List.take (i + 1) (o.set i z))=a0B (List.take i o) + 4294967296 ^ i * z:=h0Z hlo
    refine ⟨k - 1,by omega,i + 1,by omega,rfl,hxx.set (by omega),o.set i z,by rw [a0H hPl,d0H],by simp [hol],e0a hok hz,?_⟩
    exact t0O hset hs
  ·simp [p0u,g0,g1,g5,g12,g13,hi]
   have:i=a.length:=by omega
   subst this
   refine ⟨hx2,o,hb,hol,hok,?_⟩
   rw [Z0R (by omega),a1U (Z0E _)] at hs
   simpa [a0B] using hs
 ·clear h0 ρ hm
  rintro t G' ⟨o,ht,g5,hx2,hb,hol,hok,hs⟩
  obtain ⟨ρ,rfl⟩:=toT ht
  simp only [b0Q,Nat.reduceLT] at g5
  have hy:Lim G' SL o:=by
   rw [← hSL,← hol]
   exact ⟨(Own.mk (fl:=0) hb (by simp) (a1x _)).sl,hok⟩
  simp [v0j,g5]
  exact fun _=>⟨o,hy,hs,hol⟩
end
section
open Go
set_option maxHeartbeats 4000000
variable {fl:Nat} {H G:a0e} {R:a0u} {v w:Value} {a b:List Nat} {K:l0X}
theorem x0L {E:Env} {f:FuncId} {args:List Value} {sf:t0D} (hc:E.code f=some sf) (hl:args.length=sf.np:=by rfl) (hnt:args.length≤sf.nt:=by exact of_decide_eq_true rfl)
  (h:∀ ρ:Nat→Value,(∀ i,ρ i=args.getD i undef)→W E fl sf.body (T sf.nt ρ) H (R0J (fun t' H'=>w0Q H' t' sf.res fun v=>K v H')) R) :
  a0V E fl f args H K R :=
 o0g (K:=K) hc hl hnt (fun t h1 h2=>by
  have h3:=h (get t) h2
  rw [← F0R h1] at h3
  refine h3.mono fun e t' H' hq=>?_
  cases e with
  | exit i=>exact Z0T hq id
  | normal=>exact ⟨trivial,hq⟩
  | ret=>exact ⟨trivial,hq⟩)
@[simp] theorem T0n {t:a0W} {P:Value→Prop}:w0Q H t [] P=P (.tuple #[]):=by simp [w0Q,e0r,d0c]
theorem c0V.refl {o:Option Nat}:c0V o H H:=(Ext.refl H).extB
theorem c0V.trans {o:Option Nat} {H1 H2 H3:a0e} (h:c0V o H1 H2) (k:c0V o H2 H3):c0V o H1 H3 :=
 ⟨Z0N h.1 k.1,fun b hb hne=>(k.2 b (Z0W hb h.1) hne).trans (h.2 b hb hne)⟩
theorem c0V.set {p:Nat} {r:Blk} (h:c0V (some p) H G):c0V (some p) H (G.setIfInBounds p r) :=
 ⟨by have:=h.1;simpa using this,fun b hb hne=>by rw [a0Q (by simpa using hne)];exact h.2 b hb hne⟩
theorem c0V.ext {p:Nat} {H0:a0e} (h:c0V (some p) H G) (hp:H0.size≤p) (h0:Ext H0 H):Ext H0 G :=
 ⟨Z0N h0.1 h.1,fun b hb=>(h.2 b (Z0W hb h0.1) (by simp;omega)).trans (h0.2 b hb)⟩
theorem Sl.off {e sz n p:Nat} {cs:List Value} (h:Sl H e sz v n cs) (hx:c0V (some p) H G) (hne:slB v ≠ some p):Sl G e sz v n cs:=by
 obtain ⟨hl,h | ⟨b,off,cap,ro,cells,rfl,hb,ho,hcs⟩⟩:=h
 ·exact ⟨hl,.inl h⟩
 ·exact ⟨hl,.inr ⟨b,off,cap,ro,cells,rfl,by rw [hx.2 b (a0g hb) (fun h=>hne (by simp only [slB];exact h.symm))];exact hb,ho,hcs⟩⟩
theorem Lim.off {p:Nat} (h:Lim H v a) (hx:c0V (some p) H G) (hne:slB v ≠ some p):Lim G v a:=⟨h.1.off hx hne,h.2⟩
def win (L:List Nat) (o:Nat):Nat→Nat
 | 0=>0
 | i + 1=>win L o i + 4294967296 ^ i * L.getD (o + i) 0
theorem i0D {L L':List Nat} {o:Nat}:∀ {i:Nat},(∀ j,j < i→L.getD (o + j) 0=L'.getD (o + j) 0)→win L o i=win L' o i
 | 0,_=>rfl
 | i + 1,h=>by rw [win,win,i0D (fun j hj=>h j (by omega)),h i (by omega)]
theorem P0Y {L:List Nat} {o i j z:Nat} (h:o + i≤j):win (L.set j z) o i=win L o i :=
 i0D fun k hk=>e0N (by omega)
theorem e0B {L:List Nat} (h:b0x L) (i:Nat):L.getD i 0 < 4294967296:=by
 rw [Z0C]
 by_cases hi:i < L.length
 ·rw [Z0H hi];exact h _ (Z0M hi)
 ·rw [Z0P (by omega)];simp
theorem j0D {L:List Nat} (h:b0x L) (o:Nat):∀ i,win L o i < 4294967296 ^ i
 | 0=>by simp [win]
 | i + 1=>by
  rw [win,a1r]
  have h1:=j0D h o i
  have h2:=e0B h (o + i)
  have:4294967296 ^ i * (L.getD (o + i) 0 + 1)≤4294967296 ^ i * 4294967296:=a1h _ h2
  rw [Z0X,b1f] at this
  omega
theorem g0Q {L:List Nat}:∀ {i:Nat},i≤L.length→a0B (L.take i)=win L 0 i
 | 0,_=>by simp [a0B,win]
 | i + 1,h=>by rw [b0i (by omega),g0Q (by omega),win,a1i]
theorem j0h {L:List Nat} {n:Nat} (h:L.length≤n):win L 0 n=a0B L:=by
 obtain ⟨k,rfl⟩:∃ k,n=L.length + k:=⟨n - L.length,by omega⟩
 clear h
 induction k with
 | zero=>rw [a1N,← g0Q (Z0E _),a1a]
 | succ k ih=>rw [← a1R,win,ih,Z0C,Z0P (by omega)];simp
theorem k0N {e p o n cap:Nat} {L:List Nat} (hb:G.blk p=.row false e (d0f L)) (hL:o + n≤L.length) {k:IntKind} {z:Nat} (hz:z < n) :
  iaV 1 (.slice (some ⟨p,o,none⟩) n cap) (.int k (z:Int))=some (.pointer (some ⟨p,o + z,none⟩))∧rd (G.blk p) (o + z)=some (.int .u32 ((L.getD (o + z) 0:Nat):Int)):=by
 refine ⟨?_,?_⟩
 ·simp only [iaV];rw [Z0I (by omega)];simp
 ·rw [hb];simp [d0f,Z0C,show o + z < L.length by omega]
theorem r0r {x y u v g c t ch cm bo B P:Nat} (h:x + g * y=u + c * P) (ht:t=c + v * g) (hc:t=ch * B + cm) {z w:Nat} (hz:z + cm=w + bo * B) :
  (x + P * z) + g * (y + P * v)=(u + P * w) + (ch + bo) * (P * B):=by
 have h1:P * z + P * cm=P * w + P * (bo * B):=by rw [← Z0X,hz,Z0X]
 have h2:P * (c + v * g)=P * (ch * B) + P * cm:=by rw [← ht,hc,Z0X]
 rw [Z0X] at h2 ⊢
 rw [Z0U]
 have e1:g * (P * v)=P * (v * g):=by grind
 have e2:ch * (P * B)=P * (ch * B):=by grind
 have e3:bo * (P * B)=P * (bo * B):=by grind
 have e4:c * P=P * c:=by grind
 omega
theorem q0u {x y u v c t ch cm B P w:Nat} (h:x + c * P=u + y) (ht:t=c + w + v) (hc:t=ch * B + cm) :
  (x + P * cm) + ch * (P * B)=(u + P * w) + (y + P * v):=by
 have h2:P * (c + w + v)=P * (ch * B) + P * cm:=by rw [← ht,hc,Z0X]
 rw [Z0X,Z0X] at h2
 have e2:ch * (P * B)=P * (ch * B):=by grind
 have e4:c * P=P * c:=by grind
 omega
def Won (L X:List Nat) (o i:Nat):Prop:=X.length=L.length∧b0x X∧∀ j,j < o ∨ o + i≤j→X.getD j 0=L.getD j 0
theorem Won.zero {L:List Nat} {o:Nat} (h:b0x L):Won L L o 0:=⟨rfl,h,fun _ _=>rfl⟩
theorem Won.step {L X:List Nat} {o i z:Nat} (h:Won L X o i) (hz:z < 4294967296):Won L (X.set (o + i) z) o (i + 1) :=
 ⟨by simp [h.1],e0a h.2.1 hz,fun j hj=>by rw [e0N (by omega)];exact h.2.2 j (by omega)⟩
theorem Won.win {L X:List Nat} {o i z:Nat} (h:Won L X o i) (hi:o + i < L.length):AI.win (X.set (o + i) z) o (i + 1)=AI.win X o i + 4294967296 ^ i * z:=by
 rw [AI.win,P0Y (by omega),Z0C,b1h (by rw [h.1];exact hi)];rfl
theorem o0F {L:List Nat} {p o n cap g:Nat} (hb:H.blk p=.row false a0m (d0f L)) (hok:b0x L) (hL:o + n≤L.length) (hv:Lim H v a) (hne:slB v ≠ some p) (hf:fl≤p) (hg:g < 4294967296) (hn:n < 1073741824) (ha:a.length≤n) :
  a0V env fl y0g [.slice (some ⟨p,o,none⟩) n cap,v,.int .u64 (g:Int)] H (fun r G=>∃ X c,r=.bool (c != 0)∧G.blk p=.row false a0m (d0f X)∧c0V (some p) H G∧Won L X o n∧win X o n + g * a0B a=win L o n + c * 4294967296 ^ n) R:=by
 refine x0L X0d (h:=?_)
 intro ρ h0
 simp only [H0Y]
 simp [D0n,D0o,D0p,h0,g0C]
 generalize hSL:Value.slice (some ⟨p,o,none⟩) n cap=SL
 refine b0U (fun k t G=>∃ i c X,i + k=n∧t.length=49∧get t 0=SL∧get t 1=v∧get t 2=.int .u64 ((g:Nat):Int)∧get t 7=.int .u64 ((c:Nat):Int)∧get t 11=.int .i64 n∧get t 12=.int .i64 ((i:Nat):Int) ∧
   G.blk p=.row false a0m (d0f X)∧c0V (some p) H G∧Won L X o i∧c≤4294967296∧win X o i + g * win a 0 i=win L o i + c * 4294967296 ^ i)
  (fun t G=>∃ c X,t.length=49∧get t 7=.int .u64 ((c:Nat):Int)∧G.blk p=.row false a0m (d0f X)∧c0V (some p) H G∧Won L X o n∧win X o n + g * win a 0 n=win L o n + c * 4294967296 ^ n) n ?_ ?_ ?_
 ·exact ⟨0,0,L,by omega,by simp,by simp [h0,hSL],by simp [h0],by simp [h0],by simp,by simp,by simp,hb,c0V.refl,Won.zero hok,by omega,by simp [win]⟩
 ·clear h0 ρ
  rintro k t G ⟨i,c,X,hik,ht,g0,g1,g2,g7,g11,g12,hX,hx,hw,hc,hs⟩
  obtain ⟨ρ,rfl⟩:=toT ht
  simp only [b0Q,Nat.reduceLT] at g0 g1 g2 g7 g11 g12
  by_cases hi:i < n
  ·have e9:IntKind.i64.wrap ((i:Int) + 1)=((i + 1:Nat):Int):=by rw [a0F (by omega) (by omega)];omega
   obtain ⟨hi1,hi2⟩:=k0N (k:=.i64) (cap:=cap) hX (by rw [hw.1];exact hL) hi
   rw [hSL] at hi1
   have hXl:X.getD (o + i) 0=L.getD (o + i) 0:=hw.2.2 _ (by omega)
   have hA:=e0B hok (o + i)
   rw [hXl] at hi2
   have hLw:win L o (i + 1)=win L o i + 4294967296 ^ i * L.getD (o + i) 0:=rfl
   have haw:win a 0 (i + 1)=win a 0 i + 4294967296 ^ i * a.getD i 0:=by rw [win,a1i]
   generalize L.getD (o + i) 0=A at hi2 hA hLw
   have eA:IntKind.u64.wrap (A:Int)=(A:Int):=by rw [a0N];omega
   have hv':=hv.off hx hne
   have hV:=e0B hv.ok i
   by_cases hia:i < a.length
   ·have hla:=hv'.load hia (Ext.refl _)
    have hia2:=hv'.ia (k:=.i64) hia
    generalize a.getD i 0=V at hla haw hV
    have eV:IntKind.u64.wrap (V:Int)=(V:Int):=by rw [a0N];omega
    have hVg:V * g≤4294967295 * 4294967295:=a1D (by omega) (by omega)
    have e1:IntKind.u64.wrap ((V:Int) * (g:Int))=((V * g:Nat):Int):=by rw [a0N,← b1b];omega
    have e2:IntKind.u64.wrap ((c:Int) + ((V * g:Nat):Int))=((c + V * g:Nat):Int):=by rw [a0N,← Int.natCast_add];omega
    have e3:=R0m (tag:=0) (a:=c + V * g)
    simp [-Int.natCast_add,-Int.natCast_mul,-Int.natCast_ediv,-Int.natCast_emod,p0s,s0O,s0P,s0Q,s0R,s0S,s0T,p0r,g0,g1,g2,g7,g11,g12,hi,hv'.slen,hia,hia2,hla,eV,e1,e2,hi1,hi2,e3,eA]
    generalize hD:c + V * g=D at *
    have hDD:D=(D / 4294967296) * 4294967296 + D % 4294967296:=(c1g D 4294967296).symm
    have hcm:=b1j D (show 0 < 4294967296 by omega)
    generalize D / 4294967296=ch at *
    generalize D % 4294967296=cm at *
    have hbo:IntKind.u64.wrap ((A:Int) - (cm:Int))=((if cm≤A then A - cm else A + 18446744073709551616 - cm:Nat):Int):=by rw [a0N];split <;> omega
    have hchb:ch≤4294967295:=by omega
    obtain ⟨bo,z,q,hbq,hz1,hz2,hq1,hq2,hq3⟩:∃ bo z q:Nat,(if cm≤A then A - cm else A + 18446744073709551616 - cm:Nat)=q∧z + cm=A + bo * 4294967296∧z < 4294967296∧q % 4294967296=z∧q / 9223372036854775808=bo∧bo≤1:=by
     by_cases h:cm≤A
     ·exact ⟨0,A - cm,A - cm,by rw [Z0I h],by omega,by omega,by omega,by omega,by omega⟩
     ·exact ⟨1,A + 4294967296 - cm,A + 18446744073709551616 - cm,by rw [Z0F h],by omega,by omega,by omega,by omega,by omega⟩
    have e8:IntKind.u64.wrap ((ch:Int) + (bo:Int))=((ch + bo:Nat):Int):=by rw [a0N];omega
    rw [hbq] at hbo
    simp [-Int.natCast_add,-Int.natCast_mul,-Int.natCast_ediv,-Int.natCast_emod,hbo,g0,g7,g11,g12]
    refine (a0o (by have:=a0g hX;omega)).mono ?_
    rintro _ G3 ⟨rfl,hx3⟩
    rw [hq1,hq2]
    have hX3:=hx3.blk hX
    have hpl:=a0g hX3
    have hle:o + i + 1≤X.length:=by rw [hw.1];omega
    simp [-Int.natCast_add,-Int.natCast_mul,-Int.natCast_ediv,-Int.natCast_emod,hi1,hX3,hle,hf,e8,e9]
    refine ⟨k - 1,by omega,i + 1,by omega,ch + bo,rfl,rfl,X.set (o + i) z,by rw [a0H hpl,d0H],(hx.trans hx3.extB).set,hw.step hz2,by omega,?_⟩
    rw [hw.win (by omega),haw,hLw,a1r]
    exact r0r hs hD.symm hDD hz1
   ·have hV0:a.getD i 0=0:=by rw [Z0C,Z0P (by omega)];rfl
    rw [hV0] at haw
    obtain ⟨V,hV⟩:∃ V,V=0:=⟨0,rfl⟩
    replace haw:win a 0 (i + 1)=win a 0 i + 4294967296 ^ i * V:=by rw [haw,hV]
    have hVg:V * g=0:=by rw [hV,Nat.zero_mul]
    have e3:=R0m (tag:=0) (a:=c)
    have ec:c=c + V * g:=by omega
    rw [ec] at e3 g7
    have hDb:c + V * g≤4294967296:=by omega
    simp [-Int.natCast_add,-Int.natCast_mul,-Int.natCast_ediv,-Int.natCast_emod,p0s,s0O,s0P,s0Q,s0R,s0S,s0T,p0r,g0,g1,g2,g7,g11,g12,hi,hv'.slen,hia,hi1,hi2,e3,eA]
    generalize hD:c + V * g=D at *
    have hDD:D=(D / 4294967296) * 4294967296 + D % 4294967296:=(c1g D 4294967296).symm
    have hcm:=b1j D (show 0 < 4294967296 by omega)
    generalize D / 4294967296=ch at *
    generalize D % 4294967296=cm at *
    have hbo:IntKind.u64.wrap ((A:Int) - (cm:Int))=((if cm≤A then A - cm else A + 18446744073709551616 - cm:Nat):Int):=by rw [a0N];split <;> omega
    have hchb:ch≤4294967295:=by omega
    obtain ⟨bo,z,q,hbq,hz1,hz2,hq1,hq2,hq3⟩:∃ bo z q:Nat,(if cm≤A then A - cm else A + 18446744073709551616 - cm:Nat)=q∧z + cm=A + bo * 4294967296∧z < 4294967296∧q % 4294967296=z∧q / 9223372036854775808=bo∧bo≤1:=by
     by_cases h:cm≤A
     ·exact ⟨0,A - cm,A - cm,by rw [Z0I h],by omega,by omega,by omega,by omega,by omega⟩
     ·exact ⟨1,A + 4294967296 - cm,A + 18446744073709551616 - cm,by rw [Z0F h],by omega,by omega,by omega,by omega,by omega⟩
    have e8:IntKind.u64.wrap ((ch:Int) + (bo:Int))=((ch + bo:Nat):Int):=by rw [a0N];omega
    rw [hbq] at hbo
    simp [-Int.natCast_add,-Int.natCast_mul,-Int.natCast_ediv,-Int.natCast_emod,hbo,g0,g7,g11,g12]
    refine (a0o (by have:=a0g hX;omega)).mono ?_
    rintro _ G3 ⟨rfl,hx3⟩
    rw [hq1,hq2]
    have hX3:=hx3.blk hX
    have hpl:=a0g hX3
    have hle:o + i + 1≤X.length:=by rw [hw.1];omega
    simp [-Int.natCast_add,-Int.natCast_mul,-Int.natCast_ediv,-Int.natCast_emod,hi1,hX3,hle,hf,e8,e9]
    refine ⟨k - 1,by omega,i + 1,by omega,ch + bo,rfl,rfl,X.set (o + i) z,by rw [a0H hpl,d0H],(hx.trans hx3.extB).set,hw.step hz2,by omega,?_⟩
    rw [hw.win (by omega),haw,hLw,a1r]
    exact r0r hs hD.symm hDD hz1
  ·simp [p0s,g0,g1,g2,g7,g11,g12,hi]
   have:i=n:=by omega
   subst this
   exact ⟨c,rfl,X,hX,hx,hw,hs⟩
 ·clear h0 ρ
  rintro t G ⟨c,X,ht,g7,hX,hx,hw,hs⟩
  obtain ⟨ρ,rfl⟩:=toT ht
  simp only [b0Q,Nat.reduceLT] at g7
  simp [v0i,g7]
  refine ⟨X,c,rfl,hX,hx,hw,?_⟩
  rw [← hs]
  congr 2
  rw [j0h ha]
theorem o0C {L:List Nat} {p o n cap:Nat} (hb:H.blk p=.row false a0m (d0f L)) (hok:b0x L) (hL:o + n≤L.length) (hv:Lim H v a) (hne:slB v ≠ some p) (hf:fl≤p) (hn:n < 1073741824) (ha:a.length≤n) :
  a0V env fl y0h [.slice (some ⟨p,o,none⟩) n cap,v] H (fun _ G=>∃ X c,G.blk p=.row false a0m (d0f X)∧c0V (some p) H G∧Won L X o n∧win X o n + c * 4294967296 ^ n=win L o n + a0B a) R:=by
 refine x0L X0e (h:=?_)
 intro ρ h0
 simp only [H0Z]
 simp [D0q,D0r,h0,g0C]
 generalize hSL:Value.slice (some ⟨p,o,none⟩) n cap=SL
 refine I0I (fun k t G=>∃ i c X,i + k=n∧t.length=37∧get t 0=SL∧get t 1=v∧get t 4=.int .u64 ((c:Nat):Int)∧get t 7=.int .i64 n∧get t 8=.int .i64 ((i:Nat):Int) ∧
   G.blk p=.row false a0m (d0f X)∧c0V (some p) H G∧Won L X o i∧c≤1∧win X o i + c * 4294967296 ^ i=win L o i + win a 0 i) ?_ n ?_
 ·clear h0 ρ
  rintro k t G ⟨i,c,X,hik,ht,g0,g1,g4,g7,g8,hX,hx,hw,hc,hs⟩
  obtain ⟨ρ,rfl⟩:=toT ht
  simp only [b0Q,Nat.reduceLT] at g0 g1 g4 g7 g8
  by_cases hi:i < n
  ·have e9:IntKind.i64.wrap ((i:Int) + 1)=((i + 1:Nat):Int):=by rw [a0F (by omega) (by omega)];omega
   obtain ⟨hi1,hi2⟩:=k0N (k:=.i64) (cap:=cap) hX (by rw [hw.1];exact hL) hi
   rw [hSL] at hi1
   have hXl:X.getD (o + i) 0=L.getD (o + i) 0:=hw.2.2 _ (by omega)
   have hA:=e0B hok (o + i)
   rw [hXl] at hi2
   have hLw:win L o (i + 1)=win L o i + 4294967296 ^ i * L.getD (o + i) 0:=rfl
   have haw:win a 0 (i + 1)=win a 0 i + 4294967296 ^ i * a.getD i 0:=by rw [win,a1i]
   generalize L.getD (o + i) 0=A at hi2 hA hLw
   have eA:IntKind.u64.wrap (A:Int)=(A:Int):=by rw [a0N];omega
   have e1:IntKind.u64.wrap ((c:Int) + (A:Int))=((c + A:Nat):Int):=by rw [a0N];omega
   have hv':=hv.off hx hne
   have hV:=e0B hv.ok i
   by_cases hia:i < a.length
   ·have hla:=hv'.load hia (Ext.refl _)
    have hia2:=hv'.ia (k:=.i64) hia
    generalize a.getD i 0=V at hla haw hV
    have eV:IntKind.u64.wrap (V:Int)=(V:Int):=by rw [a0N];omega
    have e2:IntKind.u64.wrap (((c + A:Nat):Int) + (V:Int))=((c + A + V:Nat):Int):=by rw [a0N];omega
    simp [-Int.natCast_add,-Int.natCast_mul,-Int.natCast_ediv,-Int.natCast_emod,p0t,s0U,s0V,s0W,s0X,s0Y,s0Z,t0a,g0,g1,g4,g7,g8,hi,hv'.slen,hia,hia2,hla,eV,e1,e2,hi1,hi2,eA]
    generalize hD:c + A + V=D at *
    have hDD:D=(D / 4294967296) * 4294967296 + D % 4294967296:=(c1g D 4294967296).symm
    have hcm:=b1j D (show 0 < 4294967296 by omega)
    refine (a0o (by have:=a0g hX;omega)).mono ?_
    rintro _ G3 ⟨rfl,hx3⟩
    generalize D / 4294967296=ch at *
    generalize D % 4294967296=cm at *
    have hX3:=hx3.blk hX
    have hpl:=a0g hX3
    have hle:o + i + 1≤X.length:=by rw [hw.1];omega
    simp [-Int.natCast_add,-Int.natCast_mul,-Int.natCast_ediv,-Int.natCast_emod,hi1,hX3,hle,hf,e9]
    refine ⟨k - 1,by omega,i + 1,by omega,ch,rfl,rfl,X.set (o + i) cm,by rw [a0H hpl,d0H],(hx.trans hx3.extB).set,hw.step hcm,by omega,?_⟩
    rw [hw.win (by omega),haw,hLw,a1r]
    exact q0u hs hD.symm hDD
   ·have hV0:a.getD i 0=0:=by rw [Z0C,Z0P (by omega)];rfl
    rw [hV0] at haw
    obtain ⟨V,hV⟩:∃ V,V=0:=⟨0,rfl⟩
    replace haw:win a 0 (i + 1)=win a 0 i + 4294967296 ^ i * V:=by rw [haw,hV]
    have e1':IntKind.u64.wrap ((c:Int) + (A:Int))=((c + A + V:Nat):Int):=by rw [e1,hV];rfl
    simp [-Int.natCast_add,-Int.natCast_mul,-Int.natCast_ediv,-Int.natCast_emod,p0t,s0U,s0V,s0W,s0X,s0Y,s0Z,t0a,g0,g1,g4,g7,g8,hi,hv'.slen,hia,hi1,hi2,e1',eA]
    generalize hD:c + A + V=D at *
    have hDD:D=(D / 4294967296) * 4294967296 + D % 4294967296:=(c1g D 4294967296).symm
    have hcm:=b1j D (show 0 < 4294967296 by omega)
    refine (a0o (by have:=a0g hX;omega)).mono ?_
    rintro _ G3 ⟨rfl,hx3⟩
    generalize D / 4294967296=ch at *
    generalize D % 4294967296=cm at *
    have hX3:=hx3.blk hX
    have hpl:=a0g hX3
    have hle:o + i + 1≤X.length:=by rw [hw.1];omega
    simp [-Int.natCast_add,-Int.natCast_mul,-Int.natCast_ediv,-Int.natCast_emod,hi1,hX3,hle,hf,e9]
    refine ⟨k - 1,by omega,i + 1,by omega,ch,rfl,rfl,X.set (o + i) cm,by rw [a0H hpl,d0H],(hx.trans hx3.extB).set,hw.step hcm,by omega,?_⟩
    rw [hw.win (by omega),haw,hLw,a1r]
    exact q0u hs hD.symm hDD
  ·simp [p0t,g0,g1,g4,g7,g8,hi]
   have:i=n:=by omega
   subst this
   exact ⟨X,hX,hx,hw,c,by rw [hs,j0h ha]⟩
 ·exact ⟨0,0,L,by omega,by simp,by simp [h0,hSL],by simp [h0],by simp,by simp,by simp,hb,c0V.refl,Won.zero hok,by omega,by simp [win]⟩
end
section
open Go
theorem d0l {L:List Nat} {o i:Nat}:∀ {j:Nat},win L o (i + j)=win L o i + 4294967296 ^ i * win L (o + i) j
 | 0=>by simp [win]
 | j + 1=>by
  rw [← a1R,win,d0l,win,Z0X,← a1e,← b1T,a1R o i j,a1R]
theorem P0Z {L:List Nat} {o k:Nat} (hk:2≤k):win L o (k + 1)=win L o (k - 2) + 4294967296 ^ (k - 2) * ((L.getD (o + k) 0 * 4294967296 + L.getD (o + (k - 1)) 0) * 4294967296 + L.getD (o + (k - 2)) 0):=by
 obtain ⟨j,rfl⟩:∃ j,k=j + 2:=⟨k - 2,by omega⟩
 rw [show j + 2 - 2=j by omega,show j + 2 + 1=j + 3 by omega,d0l,show j + 2 - 1=j + 1 by omega]
 congr 2
 simp only [win]
 rw [show o + j + 0=o + j by omega,show o + j + 1=o + (j + 1) by omega,show o + j + 2=o + (j + 2) by omega]
 omega
theorem I0B {L:List Nat} {o k:Nat} (hk:2≤k):win L o k=win L o (k - 2) + 4294967296 ^ (k - 2) * (L.getD (o + (k - 1)) 0 * 4294967296 + L.getD (o + (k - 2)) 0):=by
 obtain ⟨j,rfl⟩:∃ j,k=j + 2:=⟨k - 2,by omega⟩
 rw [show j + 2 - 2=j by omega,d0l,show j + 2 - 1=j + 1 by omega]
 congr 2
 simp only [win]
 rw [show o + j + 0=o + j by omega,show o + j + 1=o + (j + 1) by omega]
 omega
structure Gs (W low lowV Uw V x u3 top next B:Nat):Prop where
 W0:0 < W
 hlow:low < W
 hlowV:lowV < W
 hU:Uw=low + W * (x * B + u3)
 hV:V=lowV + W * (top * B + next)
 hB:B≤2 * top
 htop:top < B
 hnext:next < B
 hu3:u3 < B
 lt:Uw < V * B
variable {W low lowV Uw V x u3 top next B g rest q:Nat}
theorem Gs.V0 (h:Gs W low lowV Uw V x u3 top next B):0 < V:=by
 rw [h.hV]
 have h1:0 < top:=by have:=h.hB;have:=h.htop;omega
 have h2:0 < B:=by have:=h.htop;omega
 have:=Nat.mul_pos h.W0 (show 0 < top * B + next by have:=Nat.mul_pos h1 h2;omega)
 omega
theorem Gs.V_lt (h:Gs W low lowV Uw V x u3 top next B):V < W * (top * B + next + 1):=by
 rw [h.hV,Z0X W (top * B + next) 1,b1f];have:=h.hlowV;omega
theorem Gs.U_lt (h:Gs W low lowV Uw V x u3 top next B):Uw < W * (x * B + u3 + 1):=by
 rw [h.hU,Z0X W (x * B + u3) 1,b1f];have:=h.hlow;omega
theorem Gs.V_ge (h:Gs W low lowV Uw V x u3 top next B):W * (top * B + next)≤V:=by rw [h.hV];omega
theorem Gs.U_ge (h:Gs W low lowV Uw V x u3 top next B):W * (x * B + u3)≤Uw:=by rw [h.hU];omega
theorem Gs.q_lt (h:Gs W low lowV Uw V x u3 top next B):Uw / V < B:=by
 rw [b1q h.V0,a1b];exact h.lt
theorem Gs.q_le (h:Gs W low lowV Uw V x u3 top next B):Uw / V≤x / top:=by
 have h1:0 < top:=by have:=h.hB;have:=h.htop;omega
 rw [Nat.le_div_iff_mul_le h1]
 have h2:=Nat.div_mul_le_self Uw V
 generalize Uw / V=q at *
 have h3:W * (q * (top * B))≤q * V:=by
  calc W * (q * (top * B))≤W * (q * (top * B + next)):=a1h _ (a1h _ (by omega))
   _=q * (W * (top * B + next)):=by grind
   _≤q * V:=a1h _ h.V_ge
 have h4:=h.U_lt
 have h5:q * (top * B) < x * B + u3 + 1:=b1o (a:=W) (by omega)
 have h6:=h.hu3
 have h7:q * top * B < (x + 1) * B:=by rw [a1e,Z0U];omega
 have:=b1Z h7
 omega
theorem Gs.x_lt (h:Gs W low lowV Uw V x u3 top next B):x < top * B + B:=by
 have h1:=h.U_ge
 have h2:=h.lt
 have h3:=h.V_lt
 have hB:0 < B:=by have:=h.htop;omega
 have h4:W * (x * B + u3) < W * ((top * B + next + 1) * B):=by
  have:V * B≤W * (top * B + next + 1) * B:=Z0L _ (by omega)
  rw [a1e] at this;omega
 have h5:=b1o h4
 have h6:x * B < (top * B + next + 1) * B:=by omega
 have:=b1Z h6
 have:=h.hnext
 omega
theorem Gs.down (h:Gs W low lowV Uw V x u3 top next B) (hx:g * top + rest=x) (hq:Uw / V≤g) (hc:B≤g ∨ rest * B + u3 < g * next):Uw / V≤g - 1∧0 < g:=by
 have h1:=h.q_lt
 have hB:0 < B:=by have:=h.htop;omega
 rcases hc with hc | hc
 ·omega
 ·have hne:Uw / V ≠ g:=by
   intro he
   have h2:=Nat.div_mul_le_self Uw V
   rw [he] at h2
   have h3:W * (g * (top * B + next))≤g * V:=by
    calc W * (g * (top * B + next))=g * (W * (top * B + next)):=by grind
     _≤g * V:=a1h _ h.V_ge
   have h4:=h.U_lt
   have h5:g * (top * B + next) < x * B + u3 + 1:=b1o (a:=W) (by omega)
   rw [← hx,Z0U,Z0X,← a1e] at h5
   omega
  generalize Uw / V=q at *
  omega
theorem Gs.fine (h:Gs W low lowV Uw V x u3 top next B) (hx:g * top + rest=x) (hg:g < B) (hc:g * next≤rest * B + u3):g≤Uw / V + 1:=by
 by_cases hgq:g≤Uw / V + 1
 ·exact hgq
 ·exfalso
  have hgq2:Uw / V + 1≤g - 1:=by generalize Uw / V=q at *;omega
  have h1:Uw < (Uw / V + 1) * V:=by
   have:=b1S Uw V
   have h2:=b1j Uw h.V0
   rw [Z0U,a1b (Uw / V)];omega
  have h2:(Uw / V + 1) * V≤(g - 1) * V:=Z0L _ hgq2
  have h3:(g - 1) * V≤(g - 1) * (W * (top * B + next + 1)):=a1h _ (by have:=h.V_lt;omega)
  have h4:=h.U_ge
  have h5:W * (x * B + u3) < W * ((g - 1) * (top * B + next + 1)):=by
   have:(g - 1) * (W * (top * B + next + 1))=W * ((g - 1) * (top * B + next + 1)):=by grind
   omega
  have h6:=b1o h5
  obtain ⟨g1,rfl⟩:∃ g1,g=g1 + 1:=⟨g - 1,by generalize Uw / V=q at *;omega⟩
  rw [show g1 + 1 - 1=g1 by omega] at h6
  have h7:(g1 + 1) * (top * B + next)≤x * B + u3:=by
   rw [← hx,Z0U ((g1 + 1) * top),Z0X (g1 + 1),← a1e];omega
  have h8:top * B + next < g1:=by
   rw [Z0U,a1w] at h7
   rw [Z0X,b1f] at h6
   omega
  have h9:B≤top * B:=Nat.le_mul_of_pos_left _ (by have:=h.hB;have:=h.htop;omega)
  omega
theorem F0E {X c P:Nat} (h:Gs W low lowV Uw V x u3 top next B) (h1:Uw / V≤g) (h2:g≤Uw / V + 1) (hs:X + g * V=Uw + c * P) (hX:X < P) (hP:V < P) :
  (c=0→g=Uw / V∧X=Uw % V)∧(c ≠ 0→g=Uw / V + 1∧∀ X' c',X' + c' * P=X + V→X' < P→X' = Uw % V):=by
 have hd:=b1S Uw V
 have hm:=b1j Uw h.V0
 generalize Uw / V=q at *
 generalize Uw % V=r at *
 refine ⟨fun hc=>?_,fun hc=>?_⟩
 ·subst hc
  rw [Nat.zero_mul,a1N] at hs
  by_cases hg:g=q
  ·subst hg;refine ⟨rfl,?_⟩;rw [a1b g V] at hs;omega
  ·have:g=q + 1:=by omega
   subst this
   rw [Z0U,a1w,a1b q V] at hs;omega
 ·have hcP:P≤c * P:=Nat.le_mul_of_pos_left _ (by omega)
  by_cases hg:g=q
  ·subst hg;rw [a1b g V] at hs;omega
  ·have hg:g=q + 1:=by omega
   subst hg
   refine ⟨rfl,fun X' c' h3 h4=>?_⟩
   rw [Z0U,a1w,a1b q V] at hs
   have hc1:c=1:=by
    by_cases hc2:2≤c
    ·have:2 * P≤c * P:=Z0L _ hc2
     omega
    ·omega
   subst hc1
   have hc'1:c' = 1:=by
    by_cases h5:c' = 0
    ·subst h5;omega
    ·by_cases h6:2≤c'
     ·have:2 * P≤c' * P:=Z0L _ h6
      omega
     ·omega
   subst hc'1
   omega
theorem t0X {BB i k n q r V U0:Nat} {L X Q:List Nat} (hBB:BB=4294967296) (hL:L.length=n) (hw:Won L X i (k + 1)) (hn:i + (k + 1)≤n) (hQ:i < Q.length) (hU:U0=a0B (Q.drop (i + 1)) * BB ^ (i + 1) * V + a0B L) (hV:V < BB ^ k) (hlt:a0B L < V * BB ^ (i + 1))
  (hq:win L i (k + 1)=V * q + r) (hr:r < V) (hX:win X i (k + 1)=r) :
  a0B X < V * BB ^ i∧U0=a0B ((Q.set i q).drop i) * BB ^ i * V + a0B X:=by
 obtain ⟨j,rfl⟩:∃ j,n=i + (k + 1) + j:=⟨n - (i + (k + 1)),by omega⟩
 have e1:a0B L=win L 0 i + BB ^ i * (win L i (k + 1) + BB ^ (k + 1) * win L (i + (k + 1)) j):=by
  have h1:=g0Q (L:=L) (Z0E _)
  rw [a1a,hL,a1R,d0l,d0l,a1i] at h1
  rw [h1,hBB]
 have e2:a0B X=win X 0 i + BB ^ i * (win X i (k + 1) + BB ^ (k + 1) * win X (i + (k + 1)) j):=by
  have h1:=g0Q (L:=X) (Z0E _)
  rw [a1a,hw.1,hL,a1R,d0l,d0l,a1i] at h1
  rw [h1,hBB]
 have e3:win X 0 i=win L 0 i:=i0D fun j hj=>hw.2.2 _ (by omega)
 have e4:win X (i + (k + 1)) j=win L (i + (k + 1)) j:=i0D fun j hj=>hw.2.2 _ (by omega)
 have hP:0 < BB ^ i:=Nat.pow_pos (by omega)
 have e5:win L (i + (k + 1)) j=0:=by
  by_cases h0:win L (i + (k + 1)) j=0
  ·exact h0
  ·exfalso
   have h1:BB ^ i * BB ^ (k + 1)≤a0B L:=by
    rw [e1]
    have:BB ^ i * BB ^ (k + 1)≤BB ^ i * (win L i (k + 1) + BB ^ (k + 1) * win L (i + (k + 1)) j):=a1h _ (by
     have:=Nat.le_mul_of_pos_right (BB ^ (k + 1)) (by omega:0 < win L (i + (k + 1)) j);omega)
    omega
   have h2:V * BB ^ (i + 1)≤BB ^ k * BB ^ (i + 1):=Z0L _ (by omega)
   have h3:BB ^ k * BB ^ (i + 1)=BB ^ i * BB ^ (k + 1):=by rw [← b1T,← b1T];congr 1;omega
   omega
 rw [e5,Nat.mul_zero,a1N] at e1
 rw [e3,e4,e5,Nat.mul_zero,a1N,hX] at e2
 have hlow:win L 0 i < BB ^ i:=by
  rw [← e3,hBB];exact j0D hw.2.1 0 i
 refine ⟨?_,?_⟩
 ·rw [e2]
  have:BB ^ i * (r + 1)≤BB ^ i * V:=a1h _ hr
  rw [Z0X,b1f] at this
  rw [a1b V];omega
 ·have h5:=g0n (l:=Q.set i q) (n:=i) (by simpa using hQ)
  rw [Z0C,b1h hQ,a1f,List.drop_set_of_lt (show i < i + 1 by omega),← hBB] at h5
  rw [hU,e1,e2,hq,h5,a1r]
  grind
end
section
open Go
set_option maxHeartbeats 4000000
set_option maxRecDepth 20000
variable {fl:Nat} {H G:a0e} {R:a0u} {v w:Value} {a b:List Nat}
theorem o0I {e p o n c:Nat} {cs:List Value} (hb:G.blk p=.row false e cs):elemOk G e (.slice (some ⟨p,o,none⟩) n c)=true:=by
 unfold elemOk;simp only [hb];simp
theorem l0I {p o n cap lo hi:Nat} {x y:Option Value} (hx:bnd 0 x=some lo) (hy:bnd n y=some hi) (h1:lo≤hi) (h2:hi≤n) :
  d0G 1 (.slice (some ⟨p,o,none⟩) n cap) x y none=some (.slice (some ⟨p,o + lo,none⟩) (hi - lo) (if cap=unk then unk else cap - lo)):=by
 unfold d0G;simp only [hx,hy];rw [Z0I ⟨h1,h2⟩];simp
theorem y0A {p o n cap:Nat} {ro:Bool} {L:List Nat} (hb:G.blk p=.row ro a0m (d0f L)) (hok:b0x L) (hL:o + n≤L.length):Lim G (.slice (some ⟨p,o,none⟩) n cap) ((L.drop o).take n):=by
 have hl:((L.drop o).take n).length=n:=by simp;omega
 refine ⟨⟨by simp [hl],.inr ⟨p,o,cap,ro,d0f L,by rw [hl],hb,by simp [hl];omega,?_⟩⟩,fun x hx=>hok x (List.mem_of_mem_drop (b1r hx))⟩
 rw [hl,b1f];simp [d0f,List.map_take,List.map_drop]
theorem y0G {L:List Nat} {o:Nat}:∀ {n:Nat},o + n≤L.length→a0B ((L.drop o).take n)=win L o n
 | 0,_=>by simp [a0B,win]
 | n + 1,h=>by
  rw [b0i (by simp;omega),y0G (by omega),win]
  simp [Z0C]
theorem T0B {b:List Nat} {k n:Nat} (hok:b0x b) (hk:b.length=k + 1) (hn:n≤31) (ht:b.getD k 0 * 2 ^ n < 4294967296):a0B b * 2 ^ n < 4294967296 ^ (k + 1):=by
 have h1:a0B b=win b 0 k + 4294967296 ^ k * b.getD k 0:=by
  rw [← j0h (L:=b) (n:=k + 1) (by omega),win,a1i]
 have h2:=j0D hok 0 k
 have h3:(b.getD k 0 + 1) * 2 ^ n≤4294967296:=by
  obtain ⟨m,hm⟩:∃ m,4294967296=m * 2 ^ n:=⟨2 ^ (32 - n),by rw [← b1T,show 32 - n + n=32 by omega]⟩
  rw [hm] at ht ⊢
  exact Z0L _ (b1Z ht)
 have h4:a0B b < 4294967296 ^ k * (b.getD k 0 + 1):=by rw [h1,Z0X,b1f];omega
 have hp:0 < 2 ^ n:=b1U n
 calc a0B b * 2 ^ n < 4294967296 ^ k * (b.getD k 0 + 1) * 2 ^ n:=Nat.mul_lt_mul_of_pos_right h4 hp
  _=4294967296 ^ k * ((b.getD k 0 + 1) * 2 ^ n):=a1e ..
  _≤4294967296 ^ k * 4294967296:=a1h _ h3
  _=4294967296 ^ (k + 1):=(a1r ..).symm
theorem I0y {o:List Nat} {k:Nat} (ho:o.length=k + 1) (h:a0B o < 4294967296 ^ k):a0B (o.take k)=a0B o:=by
 have h1:a0B o=a0B (o.take k) + 4294967296 ^ k * o.getD k 0:=by
  rw [← b0i (by omega),Z0R (by omega)]
 have:o.getD k 0=0:=by
  by_cases h0:o.getD k 0=0
  ·exact h0
  ·have:=Nat.le_mul_of_pos_right (4294967296 ^ k) (by omega:0 < o.getD k 0);omega
 rw [this] at h1;omega
theorem T0A {b:List Nat} {k n:Nat} (hk:b.length=k + 1) (ht:2147483648≤b.getD k 0 * 2 ^ n):2147483648 * 4294967296 ^ k≤a0B b * 2 ^ n:=by
 have h1:a0B b=win b 0 k + 4294967296 ^ k * b.getD k 0:=by
  rw [← j0h (L:=b) (n:=k + 1) (by omega),win,a1i]
 rw [h1,Z0U,a1e,a1b 2147483648]
 have:=a1h (4294967296 ^ k) ht
 omega
theorem G0y {x y la k n B:Nat} (h1:x < B ^ la) (hn:2 ^ n≤2147483648) (h2:2147483648 * B ^ k≤y):x * 2 ^ n < y * B ^ (la - k) ∨ la < k:=by
 by_cases hk:k≤la
 ·left
  have hp:0 < 2 ^ n:=b1U n
  calc x * 2 ^ n < B ^ la * 2 ^ n:=Nat.mul_lt_mul_of_pos_right h1 hp
   _≤B ^ la * 2147483648:=a1h _ hn
   _=2147483648 * B ^ k * B ^ (la - k):=by rw [a1e,← b1T,show k + (la - k)=la by omega,a1b]
   _≤y * B ^ (la - k):=Z0L _ h2
 ·right;omega
theorem Won.trans {L X Y:List Nat} {o n:Nat} (h:Won L X o n) (k:Won X Y o n):Won L Y o n:=⟨k.1.trans h.1,k.2.1,fun j hj=>(k.2.2 j hj).trans (h.2.2 j hj)⟩
theorem T0p {tag r:Nat} (h:r < 4294967296):d0I tag .shl (.int .u64 (r:Int)) (.int .u64 32)=some (.int .u64 ((r * 4294967296:Nat):Int)):=by
 have h1:=F0s (tag:=tag) (n:=r) (s:=32) (k':=.u64) (by omega)
 have h2:r * 2 ^ 32 % 18446744073709551616=r * 4294967296:=by omega
 rw [h2] at h1;exact h1
theorem X0W {tag x y:Nat} (hx:x < 4294967296) (hy:y < 4294967296):d0I tag .or (.int .u64 ((x * 4294967296:Nat):Int)) (.int .u64 (y:Int))=some (.int .u64 ((x * 4294967296 + y:Nat):Int)):=by
 rw [S0w (by omega) (by omega),u0o hy]
theorem v0r:∀ N:Nat,e0q [.int .u32 0] N=d0f (List.replicate N 0)
 | 0=>rfl
 | n + 1=>by rw [e0q,v0r n];rfl
theorem k0L (ha:Lim H v a) (hb:Lim H w b) (hf:fl≤H.size) (hna:a.length < 1073741823) (h2:2≤b.length) (hle:b.length≤a.length) (hb0:b.getD (b.length - 1) 0 ≠ 0) :
  a0V env fl y0e [v,w] H (fun r H'=>(∃ q o q' o',r=.tuple #[q,q']∧Lim H' q o∧a0B o=a0B a / a0B b∧o.length≤a.length∧Lim H' q' o'∧a0B o' = a0B a % a0B b∧o'.length≤a.length)∧Ext H H') R:=by
 refine a0k W0W hf (h:=?_)
 intro ρ h0
 simp only [H0R]
 obtain ⟨k,hk⟩:∃ k,b.length=k + 1:=⟨b.length - 1,by omega⟩
 have hk1:1≤k:=by omega
 rw [show b.length - 1=k by omega] at hb0
 have htl:=e0B hb.ok k
 have hial:=hb.ia (k:=.i64) (show k < b.length by omega)
 have hldl:=hb.load (show k < b.length by omega) (Ext.refl H)
 have htlt:=@T0B b k
 have htge:=@T0A b k
 generalize htp:b.getD k 0=tp at *
 have e0:IntKind.i64.wrap ((b.length:Int) - 1)=((k:Nat):Int):=by rw [a0F (by omega) (by omega)];omega
 simp [C0C,C0D,h0]
 refine b0U (fun c t G=>∃ n:Nat,G=H∧n + c=31∧t.length=147∧get t 0=v∧get t 1=w∧get t 6=.int .i64 ((n:Nat):Int)∧tp * 2 ^ n < 4294967296)
  (fun t G=>∃ n:Nat,G=H∧n≤31∧t.length=147∧get t 0=v∧get t 1=w∧get t 6=.int .i64 ((n:Nat):Int)∧tp * 2 ^ n < 4294967296∧2147483648≤tp * 2 ^ n) 31 ?_ ?_ ?_
 ·exact ⟨0,rfl,by omega,by simp,by simp [h0],by simp [h0],by simp,by omega⟩
 ·clear h0 ρ
  rintro c t G ⟨n,rfl,hn,ht,g0,g1,g6,hy⟩
  obtain ⟨ρ,rfl⟩:=toT ht
  simp only [b0Q,Nat.reduceLT] at g0 g1 g6
  have hy2:tp * 2 ^ (n + 1)=2 * (tp * 2 ^ n):=by rw [a1r,← a1e];omega
  have hy3:2 ^ n≤tp * 2 ^ n:=Nat.le_mul_of_pos_left _ (by omega)
  have hy4:n=31→2147483648≤tp * 2 ^ n:=by rintro rfl;exact hy3
  have s1:=P0E (tag:=0) (n:=tp) (s:=n) (k':=.i64) (by omega)
  rw [a1k hy] at s1
  generalize hyd:tp * 2 ^ n=y at *
  have s2:d0I 0 .shr (.int .u32 (y:Int)) (.int .u64 31)=some (.int .u32 ((y / 2147483648:Nat):Int)):=P0G (tag:=0) (n:=y) (s:=31) (k':=.u64) (by omega)
  have e9:IntKind.i64.wrap ((n:Int) + 1)=((n + 1:Nat):Int):=by rw [a0F (by omega) (by omega)];omega
  by_cases hd:y / 2147483648=0
  ·have hdb:((y / 2147483648:Nat) == 0)=true:=by simp [hd]
   simp [-Int.natCast_ediv,-Int.natCast_add,-beq_iff_eq,s0J,s0K,g0,g1,g6,hb.slen,e0,hial,hldl,s1,s2,hdb,e9]
   exact ⟨c - 1,by omega,n + 1,by omega,rfl,by rw [hy2];omega⟩
  ·have hdb:((y / 2147483648:Nat) == 0)=false:=by simp [hd]
   simp [-Int.natCast_ediv,-Int.natCast_add,-beq_iff_eq,s0J,s0K,g0,g1,g6,hb.slen,e0,hial,hldl,s1,s2,hdb,e9]
   exact ⟨n,by omega,rfl,by rw [hyd];exact hy,by rw [hyd];omega⟩
 ·clear h0 ρ
  rintro t G ⟨n,rfl,hn,ht,g0,g1,g6,hy,hy2⟩
  obtain ⟨ρ,rfl⟩:=toT ht
  simp only [b0Q,Nat.reduceLT] at g0 g1 g6
  refine a0A ?_
  simp [C0E,g0,g1,g6]
  refine (f0P ha (Z0E _) (by omega) (by omega)).mono ?_
  rintro u G1 ⟨⟨L0,hu,hok0,hv0,hl0⟩,hx1⟩
  try simp [g0,g1,g6]
  refine (f0P (hb.mono hx1) hx1.1 (by omega) (by omega)).mono ?_
  rintro u2 G2 ⟨⟨L1,hu1,hok1,hv1,hl1⟩,hx2⟩
  have hx:=hx1.trans hx2
  have hxs:=hx.1
  have hx1s:=hx1.1
  obtain ⟨hul,⟨_,hbad⟩ | ⟨P,capu,rfl,hP,hfP⟩⟩:=hu.mono hx2
  ·omega
  obtain ⟨hul1,⟨_,hbad⟩ | ⟨Q,capv,rfl,hQ,hfQ⟩⟩:=hu1
  ·omega
  have hPl:P < G1.size:=by
   obtain ⟨_,⟨hbad,_⟩ | ⟨P',cap',he,hP',_⟩⟩:=hu
   ·cases hbad
   ·simp at he;rw [he.1];exact a0g hP'
  have hQl:=a0g hQ
  -- the divisor
  have hVlt:=htlt hb.ok hk hn hy
  have hVge:=htge hk hy2
  have hVt:=I0y (o:=L1) (k:=b.length) hl1 (by rw [hv1,hk];exact hVlt)
  have hlt0:=G0y (x:=a0B a) (y:=a0B b * 2 ^ n) (la:=a.length) (k:=k) (n:=n) (B:=4294967296) (g0o a ha.ok) (b1g (n:=2) (by omega) hn) hVge
  have hlt0:a0B a * 2 ^ n < a0B b * 2 ^ n * 4294967296 ^ (a.length - k):=by rcases hlt0 with h | h;exact h;omega
  have hpn:0 < 2 ^ n:=b1U n
  have hqv:a0B a / a0B b=a0B a * 2 ^ n / (a0B b * 2 ^ n):=(Nat.mul_div_mul_right _ _ hpn).symm
  have hrv:a0B a % a0B b=a0B a * 2 ^ n % (a0B b * 2 ^ n) / 2 ^ n:=by rw [Nat.mul_mod_mul_right,Nat.mul_div_cancel _ hpn]
  rw [hv1] at hVt
  rw [hqv,hrv]
  generalize a0B b * 2 ^ n=V at *
  generalize a0B a * 2 ^ n=U0 at *
  clear hqv hrv htlt htge hial hldl e0 htp hb0 htl hy hy2 hul hul1 hpn hu hx1 hx2
  obtain ⟨j,hj⟩:∃ j,k=j + 1:=⟨k - 1,by omega⟩
  generalize hK:b.length=K at *
  have hLv:((L1.drop 0).take K)=L1.take K:=by rw [b1n]
  have hsl:=hb.slen
  rw [hK] at hsl
  have hslv:=l0I (p:=Q) (o:=0) (cap:=capv) (n:=K + 1) (x:=none) (y:=some (.int .i64 (K:Int))) (lo:=0) (hi:=K) rfl (by simp) (by omega) (by omega)
  rw [a1N,Nat.sub_zero,Nat.sub_zero] at hslv
  generalize (if capv=unk then unk else capv)=capw at hslv
  have hw1:IntKind.i64.wrap (((a.length + 1:Nat):Int) - (K:Int))=((a.length - k:Nat):Int):=by rw [a0F (by omega) (by omega)];omega
  have hmn:r0Z true (.int .i64 ((a.length - k:Nat):Int)) [.int .i64 0]=some (.int .i64 ((a.length - k:Nat):Int)):=by
   simp only [r0Z,mn2];rw [Z0I trivial,Z0F (by omega)]
  have hm:=f0C (bytes:=4) (k:=.i64) (k':=.i64) (l:=a.length - k) (c:=a.length - k) (Z0E _) (by omega) (by omega)
  generalize hN:a.length - k=N at *
  simp [-Int.natCast_add,hsl,o0I hQ,hslv]
  simp [-Int.natCast_add,C0F,C0G,g0C,hw1,hmn,hm]
  generalize hPQ:G2.size=PQ
  generalize hG3:G2.push (.row false a0m (e0q [.int .u32 0] N))=G3
  have hx3:Ext G2 G3:=by rw [← hG3];exact (Ext.refl _).push
  have hP3:=hx3.blk hP
  have hQ3:=hx3.blk hQ
  have hPQ3:a0e.blk G3 PQ=.row false a0m (d0f (List.replicate N 0)):=by rw [← hG3,← hPQ,a0v,v0r]
  replace hx:=hx.trans hx3
  have hv3:Lim G3 (.slice (some ⟨Q,0,none⟩) K capw) (L1.take K):=by rw [← hLv];exact y0A hQ3 hok1 (by omega)
  have hLl:(L1.take K).length=K:=by simp;omega
  have hok2:=hv3.ok
  generalize L1.take K=Vl at *
  clear hG3 hx3 hP hQ hQ3 hok1 hslv hLv hv1 hl1 hm hmn hw1 L1
  generalize hSU:Value.slice (some ⟨P,0,none⟩) (a.length + 1) capu=SU
  generalize hSV:Value.slice (some ⟨Q,0,none⟩) K capw=SV at *
  generalize hSQ:Value.slice (some ⟨PQ,0,none⟩) N N=SQ
  -- its highest limbs
  have hia1:=hv3.ia (k:=.i64) (show k < Vl.length by omega)
  have hia2:=hv3.ia (k:=.i64) (show j < Vl.length by omega)
  have hld1:=hv3.load (show k < Vl.length by omega) (Ext.refl _)
  have hld2:=hv3.load (show j < Vl.length by omega) (Ext.refl _)
  have hV1:V=win Vl 0 k + 4294967296 ^ k * Vl.getD k 0:=by rw [← hVt,← j0h (L:=Vl) (n:=k + 1) (by omega),win,a1i]
  have hV2:V=win Vl 0 j + 4294967296 ^ j * (Vl.getD k 0 * 4294967296 + Vl.getD j 0):=by
   rw [← hVt,← j0h (L:=Vl) (n:=k + 1) (by omega),I0B (by omega),show k + 1 - 1=k by omega,show k + 1 - 2=j by omega,a1i,a1i]
  have hTt:=e0B hok2 k
  have hTn:=e0B hok2 j
  have hTg:2147483648≤Vl.getD k 0:=by
   by_cases h:2147483648≤Vl.getD k 0
   ·exact h
   ·exfalso
    have h3:=j0D hok2 0 k
    have:4294967296 ^ k * (Vl.getD k 0 + 1)≤4294967296 ^ k * 2147483648:=a1h _ (by omega)
    rw [Z0X,b1f] at this
    rw [a1b] at hVge
    omega
  clear hV1
  generalize Vl.getD k 0=top at *
  generalize Vl.getD j 0=next at *
  have et:IntKind.u64.wrap (top:Int)=(top:Int):=by rw [a0N];omega
  have en:IntKind.u64.wrap (next:Int)=(next:Int):=by rw [a0N];omega
  have ew1:IntKind.i64.wrap ((K:Int) - 1)=(k:Int):=by rw [a0F (by omega) (by omega)];omega
  have ew2:IntKind.i64.wrap ((K:Int) - 2)=(j:Int):=by rw [a0F (by omega) (by omega)];omega
  have ew3:IntKind.i64.wrap (((a.length + 1:Nat):Int) - (K:Int))=(N:Int):=by rw [a0F (by omega) (by omega)];omega
  have ew4:IntKind.i64.wrap ((N:Int) - 1)=(N:Int) - 1:=a0F (by omega) (by omega)
  have hslu:g0C SU=some (.int .i64 ((a.length + 1:Nat):Int)):=by rw [← hSU];rfl
  have hslPQ:slB SV ≠ some PQ:=by rw [← hSV];simp [slB];omega
  have hslP:slB SV ≠ some P:=by rw [← hSV];simp [slB];omega
  refine a0A ?_
  simp [-Int.natCast_add,C0H,C0I,hv3.slen,ew1,ew2,hia1,hia2,hld1,hld2,et,en,hLl,hslu,ew3,ew4,g6]
  clear hia1 hia2 hld1 hld2 et en ew1 ew2 ew3 ew4 hslu hsl
  refine b0U (fun c t G'=>∃ L Qs,t.length=147∧get t 4=SQ∧get t 6=.int .i64 (n:Int)∧get t 7=SU∧get t 8=SV∧get t 9=.int .i64 (K:Int)∧get t 10=.int .u64 (top:Int)∧get t 11=.int .u64 (next:Int)∧get t 12=.int .i64 ((c:Int) - 1) ∧
    Ext G G'∧Lim G' SV Vl∧a0e.blk G' P=.row false a0m (d0f L)∧a0e.blk G' PQ=.row false a0m (d0f Qs)∧L.length=a.length + 1∧b0x L∧Qs.length=N∧b0x Qs∧c≤N∧U0=a0B (Qs.drop c) * 4294967296 ^ c * V + a0B L∧a0B L < V * 4294967296 ^ c)
   (fun t G'=>∃ L Qs,t.length=147∧get t 4=SQ∧get t 6=.int .i64 (n:Int)∧get t 7=SU∧get t 9=.int .i64 (K:Int) ∧
    Ext G G'∧a0e.blk G' P=.row false a0m (d0f L)∧a0e.blk G' PQ=.row false a0m (d0f Qs)∧L.length=a.length + 1∧b0x L∧Qs.length=N∧b0x Qs∧U0=a0B Qs * V + a0B L∧a0B L < V) N ?_ ?_ ?_
  ·refine ⟨L0,List.replicate N 0,by simp,by simp [hSQ],by simp [g6],by simp [hSU],by simp,by simp,by simp,by simp,by simp,hx,hv3,hP3,hPQ3,hl0,hok0,by simp,fun z hz=>by rw [b1N] at hz;omega,Z0E _,?_,by rw [hv0];exact hlt0⟩
   rw [a1U (by simp),hv0];simp [a0B]
  ·clear hP3 hPQ3 hv0 hl0 hok0 L0 g0 g1 g6 ht ρ hx hv3 G3
   rintro c t G3 ⟨L,Qs,ht,g4,g6,g7,g8,g9,g10,g11,g12,hx,hv3,hP,hPQb,hLlen,hLok,hQlen,hQok,hcN,hU,hlt⟩
   obtain ⟨ρ,rfl⟩:=toT ht
   simp only [b0Q,Nat.reduceLT] at g4 g6 g7 g8 g9 g10 g11 g12
   by_cases hc0:c=0
   ·subst hc0
    simp [-Int.natCast_add,s0L,g4,g6,g7,g8,g9,g10,g11,g12]
    exact ⟨hx,L,hP,Qs,hPQb,hLlen,hLok,hQlen,hQok,by simpa using hU,by simpa using hlt⟩
   ·obtain ⟨i,rfl⟩:∃ i,c=i + 1:=⟨c - 1,by omega⟩
    have ec:(((i + 1:Nat):Int) - 1)=(i:Int):=by omega
    rw [ec] at g12
    -- places
    obtain ⟨iK,hiK⟩:∃ iK,iK=i + K:=⟨_,rfl⟩
    have ew1:IntKind.i64.wrap ((i:Int) + (K:Int))=(iK:Int):=by rw [a0F (by omega) (by omega)];omega
    have ew2:IntKind.i64.wrap ((iK:Int) - 1)=((i + k:Nat):Int):=by rw [a0F (by omega) (by omega)];omega
    have ew3:IntKind.i64.wrap ((iK:Int) - 2)=((i + j:Nat):Int):=by rw [a0F (by omega) (by omega)];omega
    have ew4:IntKind.i64.wrap ((iK:Int) + 1)=((iK + 1:Nat):Int):=by rw [a0F (by omega) (by omega)];omega
    have ew5:IntKind.i64.wrap ((i:Int) - 1)=(i:Int) - 1:=a0F (by omega) (by omega)
    obtain ⟨hi1,hr1⟩:=k0N (k:=.i64) (cap:=capu) (o:=0) (n:=a.length + 1) hP (by omega) (show iK < a.length + 1 by omega)
    obtain ⟨hi2,hr2⟩:=k0N (k:=.i64) (cap:=capu) (o:=0) (n:=a.length + 1) hP (by omega) (show i + k < a.length + 1 by omega)
    obtain ⟨hi3,hr3⟩:=k0N (k:=.i64) (cap:=capu) (o:=0) (n:=a.length + 1) hP (by omega) (show i + j < a.length + 1 by omega)
    rw [hSU,a1i] at hi1 hi2 hi3
    rw [a1i] at hr1 hr2 hr3
    have hA1:=e0B hLok iK
    have hA2:=e0B hLok (i + k)
    have hA3:=e0B hLok (i + j)
    -- the window
    have hwin:=P0Z (L:=L) (o:=i) (k:=K) (by omega)
    rw [show K - 2=j by omega,show K - 1=k by omega,← hiK] at hwin
    have hUw:win L i (K + 1) < V * 4294967296:=by
     have h1:=g0Q (L:=L) (Z0E _)
     rw [a1a,hLlen,show a.length + 1=i + ((K + 1) + (a.length - i - K)) by omega,d0l,d0l,a1i] at h1
     have h2:4294967296 ^ i * win L i (K + 1) < 4294967296 ^ i * (V * 4294967296):=by
      rw [a1r,← a1e,Nat.mul_right_comm] at hlt
      rw [Z0X] at h1
      have:V * 4294967296 * 4294967296 ^ i=4294967296 ^ i * (V * 4294967296):=a1b _ _
      omega
     exact b1o h2
    generalize L.getD iK 0=A1 at hA1 hr1 hwin
    generalize L.getD (i + k) 0=A2 at hA2 hr2 hwin
    generalize L.getD (i + j) 0=A3 at hA3 hr3 hwin
    obtain ⟨x,hX⟩:∃ x,x=A1 * 4294967296 + A2:=⟨_,rfl⟩
    rw [← hX] at hwin
    have gs:Gs (4294967296 ^ j) (win L i j) (win Vl 0 j) (win L i (K + 1)) V x A3 top next 4294967296 :=
     ⟨Nat.pow_pos (by omega),j0D hLok i j,j0D hok2 0 j,hwin,hV2,by omega,hTt,hTn,hA3,hUw⟩
    clear hwin
    have eA1:IntKind.u64.wrap (A1:Int)=(A1:Int):=by rw [a0N];omega
    have eA2:IntKind.u64.wrap (A2:Int)=(A2:Int):=by rw [a0N];omega
    have eA3:IntKind.u64.wrap (A3:Int)=(A3:Int):=by rw [a0N];omega
    have s1:=T0p (tag:=0) hA1
    have s2:=X0W (tag:=0) hA1 hA2
    have hxl:x < 18446744073709551616:=by omega
    have hqle:=gs.q_le
    have hxlt:=gs.x_lt
    rw [← hX] at s2
    have s3:=S0F (tag:=0) (a:=x) (b:=top) hxl (by omega)
    have s4:=T0m (tag:=0) (a:=x) (b:=top) (by omega)
    have hgr:x / top * top + x % top=x:=c1g x top
    have hrt:=b1j x (show 0 < top by omega)
    have hgB:x / top≤4294967297:=by
     have:x / top < 4294967298:=by rw [b1q (by omega)];omega
     omega
    have hic:(i:Int) ≥ 0:=by omega
    simp [-Int.natCast_add,-Int.natCast_mul,-Int.natCast_ediv,-Int.natCast_emod,s0L,g4,g6,g7,g8,g9,g10,g11,g12,hic]
    refine a0A ?_
    simp [-Int.natCast_add,-Int.natCast_mul,-Int.natCast_ediv,-Int.natCast_emod,u0Z,g4,g6,g7,g8,g9,g10,g11,g12,ew1,ew2,hi1,hi2,hr1,hr2,eA1,eA2,s1,s2]
    refine a0A ?_
    simp [-Int.natCast_add,-Int.natCast_mul,-Int.natCast_ediv,-Int.natCast_emod,v0a,g4,g6,g7,g8,g9,g10,g11,g12,s3,s4]
    clear s1 s2 s3 s4
    generalize x / top=gq at hgr hgB hqle ⊢
    generalize x % top=rr at hgr hrt ⊢
    have hslice:∃ cap',d0G 1 SU (some (.int .i64 (i:Int))) (some (.int .i64 ((iK + 1:Nat):Int))) none=some (.slice (some ⟨P,i,none⟩) (K + 1) cap'):=by
     rw [← hSU,l0I (lo:=i) (hi:=iK + 1) (by simp) (N0P (n:=iK + 1)) (by omega) (by omega),a1i,show iK + 1 - i=K + 1 by omega]
     exact ⟨_,rfl⟩
    obtain ⟨capt,hslice⟩:=hslice
    have helem:∀ (G':a0e) (cs:List Value),a0e.blk G' P=.row false a0m cs→elemOk G' a0m SU=true:=fun G' cs h=>by rw [← hSU];exact o0I h
    refine b0U (fun c t G'=>∃ g rest:Nat,c=g∧G' = G3∧t.length=147∧get t 4=SQ∧get t 6=.int .i64 (n:Int)∧get t 7=SU∧get t 8=SV∧get t 9=.int .i64 (K:Int)∧get t 10=.int .u64 (top:Int)∧get t 11=.int .u64 (next:Int)∧get t 12=.int .i64 (i:Int)∧get t 14=.int .u64 (g:Int)∧get t 15=.int .u64 (rest:Int) ∧
      g * top + rest=x∧win L i (K + 1) / V≤g∧g≤4294967297∧rest < 4294967296)
     (fun t G'=>∃ g rest:Nat,G' = G3∧t.length=147∧get t 4=SQ∧get t 6=.int .i64 (n:Int)∧get t 7=SU∧get t 8=SV∧get t 9=.int .i64 (K:Int)∧get t 10=.int .u64 (top:Int)∧get t 11=.int .u64 (next:Int)∧get t 12=.int .i64 (i:Int)∧get t 14=.int .u64 (g:Int) ∧
      g * top + rest=x∧win L i (K + 1) / V≤g∧g < 4294967296∧g * next≤rest * 4294967296 + A3) gq ?_ ?_ ?_
    ·exact ⟨gq,rr,rfl,rfl,by simp,by simp [g4],by simp [g6],by simp [g7],by simp [g8],by simp [g9],by simp [g10],by simp [g11],by simp [g12],by simp,by simp,hgr,hqle,hgB,by omega⟩
    ·clear g4 g6 g7 g8 g9 g10 g11 g12 ht ρ
     rintro c t G' ⟨g,rest,rfl,rfl,ht,g4,g6,g7,g8,g9,g10,g11,g12,g14,g15,hgx,hq,hgl,hrl⟩
     obtain ⟨ρ,rfl⟩:=toT ht
     simp only [b0Q,Nat.reduceLT] at g4 g6 g7 g8 g9 g10 g11 g12 g14 g15
     obtain ⟨rt,hrt2⟩:∃ rt,rt=rest + top:=⟨_,rfl⟩
     have er:IntKind.u64.wrap ((rest:Int) + (top:Int))=(rt:Int):=by rw [a0N];omega
     by_cases hcB:4294967296≤c
     ·have hcB2:(4294967296:Int)≤(c:Int):=by omega
      have hcase:4294967296≤c ∨ rest * 4294967296 + A3 < c * next:=.inl hcB
      have hcs:(c:Int) ≥ 4294967296:=hcB2
      simp (config:={maxSteps:=4000000}) [-Int.natCast_add,-Int.natCast_mul,k0c,g4,g6,g7,g8,g9,g10,g11,g12,g14,g15,hcB,hcB2]
      obtain ⟨hq',hg0⟩:=gs.down hgx hq hcase
      obtain ⟨g',rfl⟩:∃ g',c=g' + 1:=⟨c - 1,by omega⟩
      rw [Nat.add_sub_cancel] at hq'
      have eg:IntKind.u64.wrap (((g' + 1:Nat):Int) - 1)=(g':Int):=by rw [a0N];omega
      have hgx':g' * top + rt=x:=by rw [← hgx,hrt2,Z0U,a1w];omega
      by_cases hbr:4294967296≤rt
      ·have hbr2:(4294967296:Int)≤(rt:Int):=by omega
       simp [-Int.natCast_add,-Int.natCast_mul,hcs,i0o,i0p,i0q,g4,g6,g7,g8,g9,g10,g11,g12,g14,g15,eg,er,hbr,hbr2]
       have hgl':g' < 4294967296:=by
        by_cases h:g' = 4294967296
        ·subst h;rw [a1b] at hgx';omega
        ·omega
       refine ⟨g',rfl,rt,hgx',hq',hgl',?_⟩
       have h1:g' * next≤4294967295 * 4294967295:=a1D (by omega) (by omega)
       omega
      ·have hbr2:¬ (4294967296:Int)≤(rt:Int):=by omega
       simp [-Int.natCast_add,-Int.natCast_mul,hcs,i0o,i0p,i0q,g4,g6,g7,g8,g9,g10,g11,g12,g14,g15,eg,er,hbr,hbr2]
       exact ⟨g',by omega,rfl,rt,rfl,hgx',hq',by omega,by omega⟩
     ·have hcB2:¬ (4294967296:Int)≤(c:Int):=by omega
      have hcn:c * next≤4294967295 * 4294967295:=a1D (by omega) (by omega)
      obtain ⟨cn,hcn2⟩:∃ cn,cn=c * next:=⟨_,rfl⟩
      have em:IntKind.u64.wrap ((c:Int) * (next:Int))=(cn:Int):=by rw [a0N,← b1b,← hcn2];omega
      have s1:=T0p (tag:=0) hrl
      have s2:=X0W (tag:=0) hrl hA3
      obtain ⟨rA,hrA⟩:∃ rA,rA=rest * 4294967296 + A3:=⟨_,rfl⟩
      rw [← hrA] at s2
      by_cases hgt:rA < cn
      ·have hcase:4294967296≤c ∨ rest * 4294967296 + A3 < c * next:=.inr (by rw [← hrA,← hcn2];exact hgt)
       have hcs:rA < cn:=hgt
       simp (config:={maxSteps:=4000000}) [-Int.natCast_add,-Int.natCast_mul,k0c,g4,g6,g7,g8,g9,g10,g11,g12,g14,g15,hcB,hcB2,ew1,ew3,hi3,hr3,eA3,em,s1,s2,hgt]
       obtain ⟨hq',hg0⟩:=gs.down hgx hq hcase
       obtain ⟨g',rfl⟩:∃ g',c=g' + 1:=⟨c - 1,by omega⟩
       rw [Nat.add_sub_cancel] at hq'
       have eg:IntKind.u64.wrap (((g' + 1:Nat):Int) - 1)=(g':Int):=by rw [a0N];omega
       have hgx':g' * top + rt=x:=by rw [← hgx,hrt2,Z0U,a1w];omega
       by_cases hbr:4294967296≤rt
       ·have hbr2:(4294967296:Int)≤(rt:Int):=by omega
        simp [-Int.natCast_add,-Int.natCast_mul,hcs,i0o,i0p,i0q,g4,g6,g7,g8,g9,g10,g11,g12,g14,g15,eg,er,hbr,hbr2]
        have hgl':g' < 4294967296:=by
         by_cases h:g' = 4294967296
         ·subst h;rw [a1b] at hgx';omega
         ·omega
        refine ⟨g',rfl,rt,hgx',hq',hgl',?_⟩
        have h1:g' * next≤4294967295 * 4294967295:=a1D (by omega) (by omega)
        omega
       ·have hbr2:¬ (4294967296:Int)≤(rt:Int):=by omega
        simp [-Int.natCast_add,-Int.natCast_mul,hcs,i0o,i0p,i0q,g4,g6,g7,g8,g9,g10,g11,g12,g14,g15,eg,er,hbr,hbr2]
        exact ⟨g',by omega,rfl,rt,rfl,hgx',hq',by omega,by omega⟩
      ·simp (config:={maxSteps:=4000000}) [-Int.natCast_add,-Int.natCast_mul,k0c,g4,g6,g7,g8,g9,g10,g11,g12,g14,g15,hcB,hcB2,ew1,ew3,hi3,hr3,eA3,em,s1,s2,hgt]
       exact ⟨c,rfl,rest,hgx,hq,by omega,by rw [← hrA,← hcn2];omega⟩
    ·clear g4 g6 g7 g8 g9 g10 g11 g12 ht ρ hgr hgB hqle hrt
     rintro t G' ⟨gg,rest,rfl,ht,g4,g6,g7,g8,g9,g10,g11,g12,g14,hgx,hq,hgl,hgn⟩
     obtain ⟨ρ,rfl⟩:=toT ht
     simp only [b0Q,Nat.reduceLT] at g4 g6 g7 g8 g9 g10 g11 g12 g14
     have hq1:=gs.fine hgx hgl hgn
     have hVK:V < 4294967296 ^ (K + 1):=by
      rw [hk,a1r];omega
     simp [-Int.natCast_add,v0b,g4,g6,g7,g8,g9,g10,g11,g12,g14,ew1,ew4,helem _ _ hP,hslice]
     refine (o0F (n:=K + 1) hP hLok (by omega) hv3 hslP hfP hgl (by omega) (by omega)).mono ?_
     rintro _ G4 ⟨X0,cc,rfl,hXb0,hxb,hwon0,hs⟩
     rw [hVt] at hs
     obtain ⟨hc1,hc2⟩:=F0E gs hq hq1 hs (j0D hwon0.2.1 i (K + 1)) hVK
     have hx4:=hxb.ext hfP hx
     have hv4:=hv3.off hxb hslP
     have hPQ4:a0e.blk G4 PQ=.row false a0m (d0f Qs):=by rw [hxb.2 PQ (a0g hPQb) (by simp;omega)];exact hPQb
     have hml:=b1j (win L i (K + 1)) gs.V0
     have hdm0:=(b1S (win L i (K + 1)) V).symm
     by_cases hcc:cc=0
     ·obtain ⟨hg1,hwin⟩:=hc1 hcc
      obtain ⟨X,hXe⟩:∃ X,X=X0:=⟨_,rfl⟩
      obtain ⟨g,hge⟩:∃ g,g=gg:=⟨_,rfl⟩
      subst hXe hge
      have hXb:=hXb0
      have hwon:=hwon0
      have hdm:win L i (K + 1)=V * g + win L i (K + 1) % V:=by rw [hg1];exact hdm0
      simp [-Int.natCast_add,hcc,p0p,g4,g6,g7,g8,g9,g10,g11,g12,g14]
      refine (a0o hx4.1).mono ?_
      rintro _ G6 ⟨rfl,hx6⟩
      have hPQ6:=hx6.blk hPQ4
      have hP6:=hx6.blk hXb
      have hPQl:=a0g hPQ6
      obtain ⟨hj1,_⟩:=k0N (k:=.i64) (cap:=N) (o:=0) (n:=N) hPQ6 (by omega) (show i < N by omega)
      rw [hSQ,a1i] at hj1
      have hile:i + 1≤Qs.length:=by omega
      have hfPQ:G.size≤PQ:=by omega
      rw [a1k hgl]
      obtain ⟨hd1,hd2⟩:=t0X (BB:=4294967296) (n:=a.length + 1) (q:=g) rfl hLlen hwon (by omega) (show i < Qs.length by omega) hU (by rw [hk];exact hVlt) hlt hdm hml hwin
      simp [-Int.natCast_add,p0q,hj1,hPQ6,hile,hfPQ,g4,g6,g7,g8,g9,g10,g11,g12,ew5]
      refine ⟨i,by omega,rfl,(hx4.trans hx6).set hfPQ,(hv4.mono hx6).off c0V.refl.set hslPQ,X,by rw [a0Q (by omega)];exact hP6,Qs.set i g,by rw [a0H hPQl,d0H],by rw [hwon.1,hLlen],hwon.2.1,by simpa using hQlen,e0a hQok hgl,by omega,hd2,hd1⟩
     ·obtain ⟨hg1,hgive⟩:=hc2 hcc
      obtain ⟨g,rfl⟩:∃ g,gg=g + 1:=⟨win L i (K + 1) / V,hg1⟩
      have hg2:g=win L i (K + 1) / V:=Nat.succ.inj hg1
      have eg:IntKind.u64.wrap (((g + 1:Nat):Int) - 1)=(g:Int):=by rw [a0N];omega
      have hdm:win L i (K + 1)=V * g + win L i (K + 1) % V:=by rw [hg2];exact hdm0
      simp [-Int.natCast_add,hcc,v0c,v0d,g4,g6,g7,g8,g9,g10,g11,g12,g14,eg,ew1,ew4,helem _ _ hXb0,hslice]
      refine (o0C (n:=K + 1) hXb0 hwon0.2.1 (by rw [hwon0.1];omega) hv4 hslP hfP (by omega) (by omega)).mono ?_
      rintro _ G5 ⟨X,c2,hXb,hxb2,hwon2,hs2⟩
      rw [hVt] at hs2
      have hwin:=hgive _ _ hs2 (j0D hwon2.2.1 i (K + 1))
      replace hPQ4:a0e.blk G5 PQ=.row false a0m (d0f Qs):=by rw [hxb2.2 PQ (a0g hPQ4) (by simp;omega)];exact hPQ4
      replace hx4:=hxb2.ext hfP hx4
      replace hv4:=hv4.off hxb2 hslP
      have hwon:=hwon0.trans hwon2
      replace hgl:g < 4294967296:=by omega
      simp [-Int.natCast_add,p0p,g4,g6,g7,g8,g9,g10,g11,g12]
      refine (a0o hx4.1).mono ?_
      rintro _ G6 ⟨rfl,hx6⟩
      have hPQ6:=hx6.blk hPQ4
      have hP6:=hx6.blk hXb
      have hPQl:=a0g hPQ6
      obtain ⟨hj1,_⟩:=k0N (k:=.i64) (cap:=N) (o:=0) (n:=N) hPQ6 (by omega) (show i < N by omega)
      rw [hSQ,a1i] at hj1
      have hile:i + 1≤Qs.length:=by omega
      have hfPQ:G.size≤PQ:=by omega
      rw [a1k hgl]
      obtain ⟨hd1,hd2⟩:=t0X (BB:=4294967296) (n:=a.length + 1) (q:=g) rfl hLlen hwon (by omega) (show i < Qs.length by omega) hU (by rw [hk];exact hVlt) hlt hdm hml hwin
      simp [-Int.natCast_add,p0q,hj1,hPQ6,hile,hfPQ,g4,g6,g7,g8,g9,g10,g11,g12,ew5]
      refine ⟨i,by omega,rfl,(hx4.trans hx6).set hfPQ,(hv4.mono hx6).off c0V.refl.set hslPQ,X,by rw [a0Q (by omega)];exact hP6,Qs.set i g,by rw [a0H hPQl,d0H],by rw [hwon.1,hLlen],hwon.2.1,by simpa using hQlen,e0a hQok hgl,by omega,hd2,hd1⟩
  ·clear hP3 hPQ3 hv0 hl0 hok0 L0 g0 g1 g6 ht ρ hx hv3 G3
   rintro t G3 ⟨L,Qs,ht,g4,g6,g7,g9,hx,hP,hPQb,hLlen,hLok,hQlen,hQok,hU,hlt⟩
   obtain ⟨ρ,rfl⟩:=toT ht
   simp only [b0Q,Nat.reduceLT] at g4 g6 g7 g9
   have helem:elemOk G3 a0m SU=true:=by rw [← hSU];exact o0I hP
   have hslice:∃ cap',d0G 1 SU none (some (.int .i64 (K:Int))) none=some (.slice (some ⟨P,0,none⟩) K cap'):=by
    rw [← hSU,l0I (lo:=0) (hi:=K) rfl (by simp) (by omega) (by omega),a1i,Nat.sub_zero]
    exact ⟨_,rfl⟩
   obtain ⟨capt,hslice⟩:=hslice
   simp [-Int.natCast_add,v0e,g4,g6,g7,g9,helem,hslice]
   have hlim:=y0A (cap:=capt) hP hLok (show 0 + K≤L.length by omega)
   have hlv:a0B ((L.drop 0).take K)=a0B L:=by
    have h1:=g0Q (L:=L) (Z0E _)
    rw [a1a,hLlen,show a.length + 1=K + (a.length + 1 - K) by omega,d0l,a1i] at h1
    have h2:win L K (a.length + 1 - K)=0:=by
     by_cases h0:win L K (a.length + 1 - K)=0
     ·exact h0
     ·have:=Nat.le_mul_of_pos_right (4294967296 ^ K) (by omega:0 < win L K (a.length + 1 - K))
      rw [hk] at this h1;omega
    rw [y0G (by omega),h1,h2,Nat.mul_zero,a1N]
   have hll:((L.drop 0).take K).length=K:=by simp;omega
   refine (o0B hlim hx.1 (by omega) (by omega)).mono ?_
   rintro r G4 ⟨⟨o,ho,hov,hol⟩,hx4⟩
   rw [hlv] at hov
   have hV0:0 < V:=by omega
   have e1:U0 / V=a0B Qs:=by rw [hU,a1b,Nat.mul_add_div hV0,Nat.div_eq_of_lt hlt,a1N]
   have e2:U0 % V=a0B L:=by rw [hU,a1b,Nat.mul_add_mod,a1k hlt]
   refine fun _=>⟨SQ,Qs,r,⟨rfl,rfl⟩,⟨by rw [← hSQ,← hQlen];exact (Own.mk (fl:=0) (hx4.blk hPQb) (by simp) (a1x _)).sl,hQok⟩,e1.symm,by omega,o,ho,by rw [hov,e2],by omega⟩
end
section
open Go
set_option maxHeartbeats 4000000
variable {fl:Nat} {H:a0e} {R:a0u} {v w:Value} {i j:Bool × List Nat}
theorem w0U (x y:Int):(if (decide (x < 0) != decide (y < 0))=true then -((x.natAbs / y.natAbs:Nat):Int) else ((x.natAbs / y.natAbs:Nat):Int))=x.tdiv y:=by
 have e1:∀ n:Int,0≤n→(n.natAbs:Int)=n:=fun n h=>Int.natAbs_of_nonneg h
 have e2:∀ n:Int,n < 0→(n.natAbs:Int) = -n:=fun n h=>by omega
 rw [Int.natCast_ediv]
 by_cases hx:x < 0 <;> by_cases hy:y < 0 <;> simp only [hx,hy,decide_true,decide_false,bne_self_eq_false,Z0V,a1v,Bool.true_bne,Bool.false_bne,Bool.not_false,a1p]
 ·rw [e2 x hx,e2 y hy,← a1S (by omega),Int.neg_tdiv,Int.tdiv_neg,Int.neg_neg]
 ·rw [e2 x hx,e1 y (by omega),← a1S (by omega),Int.neg_tdiv,Int.neg_neg]
 ·rw [e1 x (by omega),e2 y hy,← a1S (by omega),Int.tdiv_neg,Int.neg_neg]
 ·rw [e1 x (by omega),e1 y (by omega),← a1S (by omega)]
theorem w0W (x y:Int):(if decide (x < 0)=true then -((x.natAbs % y.natAbs:Nat):Int) else ((x.natAbs % y.natAbs:Nat):Int))=x.tmod y:=by
 have h1:=Int.natAbs_tmod x y
 by_cases hx:x < 0
 ·simp only [hx,decide_true,a1p]
  have h2:x.tmod y≤0:=by
   have:=Int.tmod_nonneg (a:=-x) y (by omega)
   rw [Int.neg_tmod] at this;omega
  omega
 ·simp only [hx,decide_false,Z0V,a1v]
  have h2:=Int.tmod_nonneg (a:=x) y (by omega)
  omega
theorem b0O (h:b0q H v i) (k:b0q H w j) (hf:fl≤H.size) (hn:i.2.length < 536870912) (hm:j.2.length < 536870912) (hj0:a0P j ≠ 0) :
  a0V env fl k0B [v,w] H (fun r H'=>(∃ q m,r=.tuple #[q,m,.int .i64 0]∧b0q H' q (a0l ((a0P i).tdiv (a0P j)))∧b0q H' m (a0l ((a0P i).tmod (a0P j))))∧Ext H H') R:=by
 have k0:=h
 have k1:=k
 obtain ⟨s,rfl,hs⟩:=h
 obtain ⟨u,rfl,hu⟩:=k
 refine a0k W0M hf (h:=?_)
 intro ρ h0
 simp [H0H,B0B,h0]
 generalize hG:Array.push (Array.push (Array.push (Array.push H _) _) _) _=G
 have hx:Ext H G:=by rw [← hG];exact (Ext.refl H).push.push.push.push
 have b0:a0e.blk G H.size=.row false a0a [.bool i.1,s]:=by rw [← hG];simp
 have b1:a0e.blk G (H.size + 1)=.row false a0a [.bool j.1,u]:=by rw [← hG];simp
 have b2:a0e.blk G (H.size + 2)=.row false a0a [.bool false,.slice none 0 0]:=by rw [← hG];simp
 have b3:a0e.blk G (H.size + 3)=.row false a0a [.bool false,.slice none 0 0]:=by rw [← hG];simp
 have hz:H.size + 3 < G.size:=a0g b3
 clear hG
 replace k0:=k0.mono hx
 replace k1:=k1.mono hx
 refine a0A ?_
 simp [B0C,h0,b0,b1]
 refine (b0K k0 (by omega) (by omega)).mono ?_
 rintro x G2 ⟨k2,hx2⟩
 replace b0:=hx2.blk b0;replace b1:=hx2.blk b1;replace b2:=hx2.blk b2;replace b3:=hx2.blk b3;replace hx:=hx.trans hx2;replace k0:=k0.mono hx2;replace k1:=k1.mono hx2
 try simp [h0,b0,b1]
 refine (b0K k1 hx.1 (by omega)).mono ?_
 rintro y G2 ⟨k3,hx2⟩
 replace b0:=hx2.blk b0;replace b1:=hx2.blk b1;replace b2:=hx2.blk b2;replace b3:=hx2.blk b3;replace hx:=hx.trans hx2;replace k0:=k0.mono hx2;replace k1:=k1.mono hx2;replace k2:=k2.mono hx2
 clear hs hu hz hx2
 have l1:=a0U k0.ok
 have l2:=a0U k1.ok
 have hl0:a0K (a0P j).natAbs ≠ []:=by intro h;exact hj0 (by have:=b0S.1 h;omega)
 have hl1:=c1k.2 hl0
 have e1:=w0U (a0P i) (a0P j)
 have e2:=w0W (a0P i) (a0P j)
 simp [B0D,B0E,h0,k3.slen,hl0]
 refine (e0S k2 k3 hx.1 (by omega)).mono ?_
 rintro _ G2 ⟨rfl,hx2⟩
 replace b0:=hx2.blk b0;replace b1:=hx2.blk b1;replace b2:=hx2.blk b2;replace b3:=hx2.blk b3;replace hx:=hx.trans hx2;replace k0:=k0.mono hx2;replace k1:=k1.mono hx2;replace k2:=k2.mono hx2;replace k3:=k3.mono hx2
 have hcmp:=f0w (a0P i).natAbs (a0P j).natAbs
 rw [e0c] at hcmp
 generalize N0T (a0K (a0P i).natAbs) (a0K (a0P j).natAbs)=c at hcmp
 by_cases hlt:(a0P i).natAbs < (a0P j).natAbs
 ·have hcl:c < 0:=by rw [hcmp,Z0I hlt];omega
  simp [B0F,h0,hcl,b0]
  refine (b0t k0 hx.1 (by omega)).mono ?_
  rintro _ G2 ⟨rfl,hx2⟩
  replace b0:=hx2.blk b0;replace b1:=hx2.blk b1;replace b2:=hx2.blk b2;replace b3:=hx2.blk b3;replace hx:=hx.trans hx2;replace k0:=k0.mono hx2;replace k1:=k1.mono hx2;replace k2:=k2.mono hx2;replace k3:=k3.mono hx2
  try simp [h0]
  refine (b0Z ((a0P i).tmod (a0P j)) k2 hx.1 (by omega) (by rw [a0J,← e2,a1k hlt])).mono ?_
  obtain ⟨s1,hsv,hs1⟩:∃ s1,s1=Value.slice none 0 0∧Lim G2 s1 (a0l ((a0P i).tdiv (a0P j))).2:=by
   refine ⟨_,rfl,?_⟩
   rw [← e1,Nat.div_eq_of_lt hlt]
   have:a0l (if (decide (a0P i < 0) != decide (a0P j < 0))=true then -((0:Nat):Int) else ((0:Nat):Int))=(false,[]):=by split <;> exact e0w
   rw [this];exact Lim.nil
  have hb1:(a0l ((a0P i).tdiv (a0P j))).1=false:=by
   rw [← e1,Nat.div_eq_of_lt hlt];split <;> simp [a0l]
  rw [← hsv,← hb1]
  rintro _ G2 ⟨⟨s2,rfl,hs2⟩,hx2⟩
  replace b0:=hx2.blk b0;replace b1:=hx2.blk b1;replace b2:=hx2.blk b2;replace b3:=hx2.blk b3;replace hx:=hx.trans hx2;replace k0:=k0.mono hx2;replace k1:=k1.mono hx2;replace k2:=k2.mono hx2;replace k3:=k3.mono hx2
  have hz:=a0g b3
  have hz2:=a0g b2
  simp [h0,b2,b3,hs1.cells,hs1.plain,hs2.cells,hs2.plain,hz,hz2]
  refine fun _=>⟨_,_,⟨rfl,rfl⟩,⟨s1,rfl,?_⟩,⟨s2,rfl,?_⟩⟩
  ·exact ((hs1.mono hx2).setT b2 (by decide)).setT (by rw [a0Q (by omega)];exact b3) (by decide)
  ·exact (hs2.setT b2 (by decide)).setT (by rw [a0Q (by omega)];exact b3) (by decide)
 ·have hcl:¬ c < 0:=by rw [hcmp,Z0F hlt];split <;> omega
  by_cases h1:(a0K (a0P j).natAbs).length=1
  ·have hd0:(0:Nat) < (a0K (a0P j).natAbs).length:=by omega
   obtain ⟨d,hd⟩:∃ d,a0K (a0P j).natAbs=[d]:=by
    obtain ⟨d,hd⟩:=List.length_eq_one_iff.1 h1;exact ⟨d,hd⟩
   have hdv:(a0P j).natAbs=d:=by rw [← a0J (a0P j).natAbs,hd];simp [a0B]
   have hdl:d < 4294967296:=k3.ok d (by rw [hd];simp)
   have hdp:0 < d:=by omega
   rw [hd] at k3
   have hia:=k3.ia (k:=.i64) (j:=0) (by simp)
   have hld:=k3.load (j:=0) (by simp) (Ext.refl _)
   simp at hia hld
   simp [s0G,B0G,h0,hcl,hd,k3.slen,hia,hld]
   refine (m0s k2 hx.1 (by omega) hdp hdl).mono ?_
   rintro _ G2 ⟨⟨q1,o,rfl,k4,hov,hol⟩,hx2⟩
   replace b0:=hx2.blk b0;replace b1:=hx2.blk b1;replace b2:=hx2.blk b2;replace b3:=hx2.blk b3;replace hx:=hx.trans hx2;replace k0:=k0.mono hx2;replace k1:=k1.mono hx2;replace k2:=k2.mono hx2;replace k3:=k3.mono hx2
   have hmd:a0B (a0K (a0P i).natAbs) % d < 4294967296:=Nat.lt_trans (b1j _ hdp) hdl
   rw [a0J] at hov hmd ⊢
   generalize hrm:(a0P i).natAbs % d=rm at *
   simp [h0]
   refine a0A ?_
   simp [B0H,h0,b0,b1]
   refine (b0t k0 (by have:=hx.1;omega) (by omega)).mono ?_
   rintro _ G2 ⟨rfl,hx2⟩
   replace b0:=hx2.blk b0;replace b1:=hx2.blk b1;replace b2:=hx2.blk b2;replace b3:=hx2.blk b3;replace hx:=hx.trans hx2;replace k0:=k0.mono hx2;replace k1:=k1.mono hx2;replace k2:=k2.mono hx2;replace k3:=k3.mono hx2;replace k4:=k4.mono hx2
   try simp [h0,b0,b1]
   refine (b0t k1 (by have:=hx.1;omega) (by omega)).mono ?_
   rintro _ G2 ⟨rfl,hx2⟩
   replace b0:=hx2.blk b0;replace b1:=hx2.blk b1;replace b2:=hx2.blk b2;replace b3:=hx2.blk b3;replace hx:=hx.trans hx2;replace k0:=k0.mono hx2;replace k1:=k1.mono hx2;replace k2:=k2.mono hx2;replace k3:=k3.mono hx2;replace k4:=k4.mono hx2
   try simp [h0]
   refine (b0Z ((a0P i).tdiv (a0P j)) k4 (by have:=hx.1;omega) (by omega) (by rw [hov,← e1,hdv])).mono ?_
   rintro _ G2 ⟨⟨s1,rfl,hs1⟩,hx2⟩
   replace b0:=hx2.blk b0;replace b1:=hx2.blk b1;replace b2:=hx2.blk b2;replace b3:=hx2.blk b3;replace hx:=hx.trans hx2;replace k0:=k0.mono hx2;replace k1:=k1.mono hx2;replace k2:=k2.mono hx2;replace k3:=k3.mono hx2;replace k4:=k4.mono hx2
   try simp [h0,b0,b1]
   refine (b0t k0 (by have:=hx.1;omega) (by omega)).mono ?_
   rintro _ G2 ⟨rfl,hx2⟩
   replace b0:=hx2.blk b0;replace b1:=hx2.blk b1;replace b2:=hx2.blk b2;replace b3:=hx2.blk b3;replace hx:=hx.trans hx2;replace k0:=k0.mono hx2;replace k1:=k1.mono hx2;replace k2:=k2.mono hx2;replace k3:=k3.mono hx2;replace k4:=k4.mono hx2
   replace hs1:=hs1.mono hx2
   try simp [h0]
   generalize hG3:Array.push G2 _=G3
   have hx2:Ext G2 G3:=by rw [← hG3];exact (Ext.refl _).push
   have k5:Lim G3 (.slice (some ⟨G2.size,0,none⟩) 1 1) [rm]:=by
    refine ⟨(Own.mk (fl:=0) (cap:=1) (e:=a0m) (sz:=1) (n:=1) (cs:=d0f [rm]) ?_ (by simp) (a1x _)).sl,fun x hx=>by simp at hx;omega⟩
    rw [← hG3,a0v];rfl
   replace b0:=hx2.blk b0;replace b1:=hx2.blk b1;replace b2:=hx2.blk b2;replace b3:=hx2.blk b3;replace hx:=hx.trans hx2;replace k0:=k0.mono hx2;replace k1:=k1.mono hx2;replace k2:=k2.mono hx2;replace k3:=k3.mono hx2;replace k4:=k4.mono hx2
   replace hs1:=hs1.mono hx2
   refine (b0Z ((a0P i).tmod (a0P j)) k5 (by have:=hx.1;omega) (by simp) (by rw [← e2,hdv,hrm];simp [a0B])).mono ?_
   rintro _ G2 ⟨⟨s2,rfl,hs2⟩,hx2⟩
   replace b0:=hx2.blk b0;replace b1:=hx2.blk b1;replace b2:=hx2.blk b2;replace b3:=hx2.blk b3;replace hx:=hx.trans hx2;replace k0:=k0.mono hx2;replace k1:=k1.mono hx2;replace k2:=k2.mono hx2;replace k3:=k3.mono hx2;replace k4:=k4.mono hx2;replace k5:=k5.mono hx2
   have hz:=a0g b3
   have hz2:=a0g b2
   simp [h0,b2,b3,hs1.cells,hs1.plain,hs2.cells,hs2.plain,hz,hz2]
   refine fun _=>⟨_,_,⟨rfl,rfl⟩,⟨s1,rfl,?_⟩,⟨s2,rfl,?_⟩⟩
   ·exact ((hs1.mono hx2).setT b2 (by decide)).setT (by rw [a0Q (by omega)];exact b3) (by decide)
   ·exact (hs2.setT b2 (by decide)).setT (by rw [a0Q (by omega)];exact b3) (by decide)
  ·have hlt2:2≤(a0K (a0P j).natAbs).length:=by omega
   have hle:(a0K (a0P j).natAbs).length≤(a0K (a0P i).natAbs).length:=b0m (by omega)
   have h1':¬ ((a0K (a0P j).natAbs).length:Int)=1:=by omega
   simp [s0G,B0I,h0,hcl,h1,h1',k3.slen]
   refine (k0L k2 k3 hx.1 (by omega) hlt2 hle (k0v (by omega))).mono ?_
   rintro _ G2 ⟨⟨q1,o,q2,o2,rfl,k4,hov,hol,k5,hov2,hol2⟩,hx2⟩
   replace b0:=hx2.blk b0;replace b1:=hx2.blk b1;replace b2:=hx2.blk b2;replace b3:=hx2.blk b3;replace hx:=hx.trans hx2;replace k0:=k0.mono hx2;replace k1:=k1.mono hx2
   rw [a0J,a0J] at hov hov2
   simp [h0]
   refine a0A ?_
   simp [u0W,h0,b0,b1]
   refine (b0t k0 (by have:=hx.1;omega) (by omega)).mono ?_
   rintro _ G2 ⟨rfl,hx2⟩
   replace b0:=hx2.blk b0;replace b1:=hx2.blk b1;replace b2:=hx2.blk b2;replace b3:=hx2.blk b3;replace hx:=hx.trans hx2;replace k0:=k0.mono hx2;replace k1:=k1.mono hx2;replace k4:=k4.mono hx2;replace k5:=k5.mono hx2
   try simp [h0,b0,b1]
   refine (b0t k1 (by have:=hx.1;omega) (by omega)).mono ?_
   rintro _ G2 ⟨rfl,hx2⟩
   replace b0:=hx2.blk b0;replace b1:=hx2.blk b1;replace b2:=hx2.blk b2;replace b3:=hx2.blk b3;replace hx:=hx.trans hx2;replace k0:=k0.mono hx2;replace k4:=k4.mono hx2;replace k5:=k5.mono hx2
   try simp [h0]
   refine (b0Z ((a0P i).tdiv (a0P j)) k4 (by have:=hx.1;omega) (by omega) (by rw [hov,← e1])).mono ?_
   rintro _ G2 ⟨⟨s1,rfl,hs1⟩,hx2⟩
   replace b0:=hx2.blk b0;replace b1:=hx2.blk b1;replace b2:=hx2.blk b2;replace b3:=hx2.blk b3;replace hx:=hx.trans hx2;replace k0:=k0.mono hx2;replace k5:=k5.mono hx2
   try simp [h0,b0,b1]
   refine (b0t k0 (by have:=hx.1;omega) (by omega)).mono ?_
   rintro _ G2 ⟨rfl,hx2⟩
   replace b2:=hx2.blk b2;replace b3:=hx2.blk b3;replace hx:=hx.trans hx2;replace k5:=k5.mono hx2
   replace hs1:=hs1.mono hx2
   try simp [h0]
   refine (b0Z ((a0P i).tmod (a0P j)) k5 (by have:=hx.1;omega) (by omega) (by rw [hov2,← e2])).mono ?_
   rintro _ G2 ⟨⟨s2,rfl,hs2⟩,hx2⟩
   replace b2:=hx2.blk b2;replace b3:=hx2.blk b3;replace hx:=hx.trans hx2
   have hz:=a0g b3
   have hz2:=a0g b2
   simp [h0,b2,b3,hs1.cells,hs1.plain,hs2.cells,hs2.plain,hz,hz2]
   refine fun _=>⟨_,_,⟨rfl,rfl⟩,⟨s1,rfl,?_⟩,⟨s2,rfl,?_⟩⟩
   ·exact ((hs1.mono hx2).setT b2 (by decide)).setT (by rw [a0Q (by omega)];exact b3) (by decide)
   ·exact (hs2.setT b2 (by decide)).setT (by rw [a0Q (by omega)];exact b3) (by decide)
end
section
open Go
abbrev Log:=List (List Nat × List Nat)
def WRL (E:Env) (fl:Nat):List a0D→a0W→a0e→Log→(a0W→a0e→Log→Prop)→Prop
 | [],t,H,lg,Z=>Z t H lg
 | o :: r,t,H,lg,Z=>if b0c t o.g then WS E fl t H o.op (fun v H'=>WRL E fl r (put t o.dst v) H' (c0O t o.op :: lg) Z) (fun _=>False) else WRL E fl r (put t o.dst undef) H (([],[]) :: lg) Z
variable {E:Env} {fl:Nat} {t:a0W} {H:a0e} {Q:d0K} {R:a0u}
theorem n0V (bef:List Nat) (pairs:List (Nat × Nat)) {Z:a0W→a0e→Prop}:∀ (ops:List a0D) (i:Nat) (t:a0W) (H:a0e) (log:Log),
  WRL E fl ops t H log (fun t' H' lg=>c0E lg.reverse pairs=true∧Z t' H')→∃ n t' H',b0M (b0h E n) fl bef pairs i ops t H none log=.fin .normal t' H'∧Z t' H'
 | [],i,t,H,log,h=>⟨0,t,H,by simp only [b0M];rw [Z0I h.1],h.2⟩
 | o :: r,i,t,H,log,h=>by
  simp only [WRL] at h
  split at h
  ·rename_i hw
   obtain ⟨n,hn⟩:=x0v h
   cases hs:b0v (b0h E n) fl t H o.op with
   | bad=>rw [hs] at hn;exact Z0T hn id
   | pan v=>rw [hs] at hn;exact Z0T hn id
   | ok rr =>
    obtain ⟨v,H'⟩:=rr
    rw [hs] at hn
    obtain ⟨m,t2,H2,hm,hz⟩:=n0V bef pairs r (i + 1) _ _ _ hn
    refine ⟨max n m,t2,H2,?_,hz⟩
    have h1:=f0s (a0E E n (max n m) (by omega)) (Z0E fl) (t:=t) (H:=H) (so:=o.op) (by rw [hs];simp)
    have h2:=c0S (a0E E m (max n m) (by omega)) (Z0E fl) bef pairs r (i + 1) (put t o.dst v) H' none (c0O t o.op :: log) (by rw [hm];simp)
    simp only [b0M,g0m,Z0V,a1v,hw,a1p,h1,hs,h2];exact hm
  ·rename_i hw
   obtain ⟨m,t2,H2,hm,hz⟩:=n0V bef pairs r (i + 1) _ _ _ h
   exact ⟨m,t2,H2,by simp only [b0M,g0m,Z0V,a1v,hw];exact hm,hz⟩
theorem c0u {ops:List a0D} {bef:List Nat} {pairs:List (Nat × Nat)} (h:WRL E fl ops t H [] (fun t' H' lg=>c0E lg.reverse pairs=true∧Q .normal t' H')):W E fl (.draw ops bef pairs) t H Q R:=by
 obtain ⟨n,t',H',hn,hz⟩:=n0V bef pairs ops 0 t H [] h
 refine ⟨n + 1,?_⟩
 have h2:=c0S (a0E E n (n+1) (by omega)) (Z0E fl) bef pairs ops 0 t H none [] (by rw [hn];simp)
 simp only [a0Y,h2,hn];exact hz
section
variable {Z:a0W→a0e→Log→Prop} {lg:Log} {d:Option Nat} {op:SOp} {r:List a0D}
@[simp ↓] theorem V0t:WRL E fl [] t H lg Z=Z t H lg:=nr rfl
@[simp ↓] theorem t0G:WRL E fl (⟨d,none,op⟩ :: r) t H lg Z=WS E fl t H op (fun v H'=>WRL E fl r (put t d v) H' (c0O t op :: lg) Z) (fun _=>False):=by simp [WRL,b0c]
@[simp ↓] theorem Y0m {j:Nat} {w:Bool}:WRL E fl (⟨d,some (j,w),op⟩ :: r) t H lg Z=if w0Y w (get t j)=true then WS E fl t H op (fun v H'=>WRL E fl r (put t d v) H' (c0O t op :: lg) Z) (fun _=>False) else WRL E fl r (put t d undef) H (([],[]) :: lg) Z:=by
 have h:b0c t (some (j,w))=w0Y w (get t j):=by
  simp only [b0c]
  generalize get t j=v
  cases v <;> rfl
 show (if b0c t (some (j,w))=true then _ else _)=_
 rw [h]
theorem x0r {t t':a0W} {ops:List a0D} {lg:Log} (h:t=t'):WRL E fl ops t H lg Z=WRL E fl ops t' H lg Z:=by rw [h]
attribute [congr] x0r
@[simp] theorem R0t {p:Addr}:blkOf (.pointer (some p))=[p.block]:=nr rfl
@[simp] theorem T0U {p:Addr} {n c:Nat}:blkOf (.slice (some p) n c)=[p.block]:=nr rfl
@[simp] theorem Q0d {n c:Nat}:blkOf (.slice none n c)=[]:=nr rfl
@[simp] theorem W0k {p:Addr} {n c:Nat}:blkW (.slice (some p) n c)=if n=0∧c=0 then [] else [p.block]:=nr rfl
@[simp] theorem R0u {n c:Nat}:blkW (.slice none n c)=[]:=nr rfl
attribute [simp] c0O c0E q0D
end
end
section
open Go
set_option maxHeartbeats 4000000
variable {fl:Nat} {H:a0e} {R:a0u} {v w:Value} {i j:Bool × List Nat}
theorem new2 {G:a0e} {z1 z2 r1 r2:Blk}:Ext G (Array.setIfInBounds (Array.setIfInBounds (Array.push (Array.push G z1) z2) G.size r1) (G.size + 1) r2) ∧
  a0e.blk (Array.setIfInBounds (Array.setIfInBounds (Array.push (Array.push G z1) z2) G.size r1) (G.size + 1) r2) G.size=r1 ∧
  a0e.blk (Array.setIfInBounds (Array.setIfInBounds (Array.push (Array.push G z1) z2) G.size r1) (G.size + 1) r2) (G.size + 1)=r2:=by
 refine ⟨(((Ext.refl G).push.push).set (by omega)).set (by omega),?_,?_⟩
 ·rw [a0Q (by omega),a0H (by simp)]
 ·rw [a0H (by simp)]
theorem a0p (n:Nat):(a0l (n:Int))=(false,a0K n):=by unfold a0l;simp
theorem e0Q (h:b0q H v i) (k:b0q H w j) (hf:fl≤H.size) (hn:i.2.length < 536870912) (hm:j.2.length < 536870912) :
  a0V env fl q0l [v,w] H (fun r H'=>b0q H' r (a0l (Int.gcd (a0P i) (a0P j)))∧Ext H H') R:=by
 have k0:=h
 have k1:=k
 obtain ⟨s,rfl,hs⟩:=h
 obtain ⟨u,rfl,hu⟩:=k
 refine a0k W0K hf (h:=?_)
 intro ρ h0
 simp [H0F,B0s,h0]
 generalize hG:Array.push (Array.push (Array.push H _) _) _=G
 have hx:Ext H G:=by rw [← hG];exact (Ext.refl H).push.push.push
 have b0:a0e.blk G H.size=.row false a0a [.bool i.1,s]:=by rw [← hG];simp
 have b1:a0e.blk G (H.size + 1)=.row false a0a [.bool j.1,u]:=by rw [← hG];simp
 have b2:a0e.blk G (H.size + 2)=.row false a0a [.bool false,.slice none 0 0]:=by rw [← hG];simp
 have hz:H.size + 2 < G.size:=a0g b2
 clear hG
 replace k0:=k0.mono hx
 replace k1:=k1.mono hx
 have l1:=a0U k0.ok
 have l2:=a0U k1.ok
 refine a0A ?_
 simp [B0t,h0,b0,b1]
 refine (b0K k0 (by omega) (by omega)).mono ?_
 rintro x G2 ⟨k2,hx2⟩
 replace b0:=hx2.blk b0;replace b1:=hx2.blk b1;replace b2:=hx2.blk b2;replace hx:=hx.trans hx2;replace k0:=k0.mono hx2;replace k1:=k1.mono hx2
 try simp [h0]
 refine (b0Z (((a0P i).natAbs:Nat):Int) k2 (by have:=hx.1;omega) (by omega) (by simp [a0J])).mono ?_
 rintro x G2 ⟨k2,hx2⟩
 replace b0:=hx2.blk b0;replace b1:=hx2.blk b1;replace b2:=hx2.blk b2;replace hx:=hx.trans hx2;replace k0:=k0.mono hx2;replace k1:=k1.mono hx2
 try simp [h0,b1]
 refine (b0K k1 (by have:=hx.1;omega) (by omega)).mono ?_
 rintro y G2 ⟨k3,hx2⟩
 replace b0:=hx2.blk b0;replace b1:=hx2.blk b1;replace b2:=hx2.blk b2;replace hx:=hx.trans hx2;replace k0:=k0.mono hx2;replace k1:=k1.mono hx2;replace k2:=k2.mono hx2
 try simp [h0]
 refine (b0Z (((a0P j).natAbs:Nat):Int) k3 (by have:=hx.1;omega) (by omega) (by simp [a0J])).mono ?_
 rintro y G2 ⟨k3,hx2⟩
 replace b0:=hx2.blk b0;replace b1:=hx2.blk b1;replace b2:=hx2.blk b2;replace hx:=hx.trans hx2;replace k0:=k0.mono hx2;replace k1:=k1.mono hx2;replace k2:=k2.mono hx2
 obtain ⟨s2,hxe,k2⟩:=k2
 obtain ⟨s3,hye,k3⟩:=k3
 have hsz:=hx.1
 have hsz1:H.size≤G2.size + 1:=by omega
 have hc0:=a0g b2
 simp [h0,hsz1,hxe,hye,k2.cells,k3.cells,k2.plain,k3.plain,hsz]
 rw [a0p] at k2 k3
 obtain ⟨hx2,b3,b4⟩:=new2 (G:=G2) (z1:=.row false a0a [.bool false,.slice none 0 0]) (z2:=.row false a0a [.bool false,.slice none 0 0]) (r1:=.row false a0a [.bool false,s2]) (r2:=.row false a0a [.bool false,s3])
 replace k2:=k2.mono hx2
 replace k3:=k3.mono hx2
 replace b2:=hx2.blk b2
 replace hx:=hx.trans hx2
 simp only [a0p]
 generalize Array.setIfInBounds _ _ _=G3 at *
 generalize hP:G2.size=P at *
 refine b0U (fun c t G=>∃ (a b:Nat) (s5 s6:Value),c=b∧t.length=30∧get t 4=.pointer (some ⟨H.size + 2,0,none⟩)∧get t 5=.pointer (some ⟨P,0,none⟩)∧get t 6=.pointer (some ⟨P + 1,0,none⟩) ∧
   Ext H G∧a0e.blk G (H.size + 2)=.row false a0a [.bool false,.slice none 0 0]∧a0e.blk G P=.row false a0a [.bool false,s5]∧a0e.blk G (P + 1)=.row false a0a [.bool false,s6]∧Lim G s5 (a0K a)∧Lim G s6 (a0K b) ∧
   (a0K a).length < 536870912∧(a0K b).length < 536870912∧Nat.gcd a b=Int.gcd (a0P i) (a0P j))
  (fun t G=>∃ (a:Nat) (s5:Value),t.length=30∧get t 4=.pointer (some ⟨H.size + 2,0,none⟩)∧get t 5=.pointer (some ⟨P,0,none⟩) ∧
   Ext H G∧a0e.blk G (H.size + 2)=.row false a0a [.bool false,.slice none 0 0]∧a0e.blk G P=.row false a0a [.bool false,s5]∧Lim G s5 (a0K a)∧a=Int.gcd (a0P i) (a0P j)) (a0P j).natAbs ?_ ?_ ?_
 ·exact ⟨(a0P i).natAbs,(a0P j).natAbs,s2,s3,rfl,by simp,by simp,by simp,by simp,hx,b2,b3,b4,k2,k3,by omega,by omega,rfl⟩
 ·clear h0 ρ k0 k1 k2 k3 b0 b1 b2 hx
  rintro c t G ⟨a,b,s5,s6,rfl,ht,g4,g5,g6,hx,b2,b3,b4,k5,k6,la,lb,hg⟩
  obtain ⟨ρ,rfl⟩:=toT ht
  simp only [b0Q,Nat.reduceLT] at g4 g5 g6
  by_cases hb:c=0
  ·subst hb
   rw [b0n] at k6
   simp [s0F,g4,g5,g6,b2,b3,b4,k6.slen]
   rw [Nat.gcd_zero_right] at hg
   exact ⟨hx,by rw [← hg];exact k5⟩
  ·have hdl:0 < (a0K c).length:=c1k.2 (by rw [Ne,b0S];exact hb)
   have hdl':(0:Int) < ((a0K c).length:Int):=by omega
   have hnil:a0K c ≠ []:=by rw [Ne,b0S];exact hb
   simp [s0F,B0u,g4,g5,g6,b2,b3,b4,k6.slen,hdl,hdl',hnil]
   have k0:b0q G (.agg #[.bool false,s5]) (a0l (a:Int)):=⟨s5,by rw [a0p],by rw [a0p];exact k5⟩
   have k1:b0q G (.agg #[.bool false,s6]) (a0l (c:Int)):=⟨s6,by rw [a0p],by rw [a0p];exact k6⟩
   refine (b0O k0 k1 hx.1 (by rw [a0p];exact la) (by rw [a0p];exact lb) (by rw [a0j];omega)).mono ?_
   rintro _ G2 ⟨⟨q,m,rfl,k7,k8⟩,hx2⟩
   replace b2:=hx2.blk b2;replace b3:=hx2.blk b3;replace b4:=hx2.blk b4;replace hx:=hx.trans hx2;replace k0:=k0.mono hx2;replace k1:=k1.mono hx2;replace k5:=k5.mono hx2;replace k6:=k6.mono hx2
   rw [a0j,a0j] at k7 k8
   have hmod:((a:Int).tmod (c:Int))=((a % c:Nat):Int):=by rw [Int.tmod_eq_emod_of_nonneg (by omega)];rfl
   rw [hmod,a0p] at k8
   obtain ⟨s7,rfl,k7⟩:=k7
   obtain ⟨s8,rfl,k8⟩:=k8
   have hsz:=hx.1
   have hsz1:H.size≤G2.size + 1:=by omega
   have hc1:=a0g b4
   simp [g4,g5,g6,b3,b4,k7.cells,k8.cells,k7.plain,k8.plain,hsz,hsz1]
   obtain ⟨hx2,b5,b6⟩:=new2 (G:=G2) (z1:=.row false a0a [.bool false,.slice none 0 0]) (z2:=.row false a0a [.bool false,.slice none 0 0]) (r1:=.row false a0a [.bool (a0l (↑a / ↑c)).1,s7]) (r2:=.row false a0a [.bool false,s8])
   replace b2:=hx2.blk b2;replace b3:=hx2.blk b3;replace b4:=hx2.blk b4;replace hx:=hx.trans hx2;replace k0:=k0.mono hx2;replace k1:=k1.mono hx2;replace k5:=k5.mono hx2;replace k6:=k6.mono hx2;replace k8:=k8.mono hx2
   generalize Array.setIfInBounds (Array.setIfInBounds _ _ _) _ _=G3 at *
   have hl1:=a0g b3
   have hl2:=a0g b4
   have hHP:H.size≤P:=by omega
   have hHP1:H.size≤P + 1:=by omega
   have hne:P + 1 ≠ P:=by omega
   have hne2:P ≠ G2.size + 1:=by omega
   have hne3:G2.size + 1 ≠ P:=by omega
   refine c0u ?_
   simp [B0v,g4,g5,g6,b4,b6,b3,k6.cells,k8.cells,k6.plain,k8.plain,hHP,hHP1,hne,hne2,hne3]
   have hmc:a % c < c:=b1j _ (by omega)
   refine ⟨a % c,hmc,(hx.set hHP).set hHP1,by rw [a0Q (by omega),a0Q (by omega)];exact b2,c,s6,by rw [a0H hl1],s8,by rw [a0H (by simpa using hl2)],?_,?_,lb,Nat.lt_of_le_of_lt (b0m (Nat.le_of_lt hmc)) lb,by rw [Nat.gcd_comm,← Nat.gcd_rec,Nat.gcd_comm,hg]⟩
   ·exact (k6.setT b3 (by decide)).setT (by rw [a0Q (by omega)];exact b4) (by decide)
   ·exact (k8.setT b3 (by decide)).setT (by rw [a0Q (by omega)];exact b4) (by decide)
 ·clear h0 ρ k0 k1 k2 k3 b0 b1 b2 hx
  rintro t G ⟨a,s5,ht,g4,g5,hx,b2,b3,k5,hg⟩
  obtain ⟨ρ,rfl⟩:=toT ht
  simp only [b0Q,Nat.reduceLT] at g4 g5
  have hl1:=a0g b2
  have hl2:=a0g b3
  subst hg
  simp [B0w,g4,g5,b2,b3,k5.cells,k5.plain,hl1]
  exact fun _=>⟨s5,rfl,k5.setT b2 (by decide)⟩
end
section
open Go
def x0j (E:Env) (fl fl':Nat) (f:FuncId) (args:List Value) (H:a0e) (d:Option Nat) (r:List a0D) (t:a0W) (Z:a0W→a0e→Prop) (R:a0u):Prop :=
 a0V E fl' f args H (fun v H'=>WR E fl r (put t d v) H' Z R) R
@[simp ↓ high] theorem T0K {E:Env} {fl:Nat} {t:a0W} {H:a0e} {R:a0u} {d:Option Nat} {r:List a0D} {Z:a0W→a0e→Prop} {f:FuncId} {az:List Opd} {lone:Bool} :
  WS E fl t H (.call f az lone) (fun v H'=>WR E fl r (put t d v) H' Z R) R=x0j E fl (if lone then fl else max fl H.size) f (az.map (ev t)) H d r t Z R:=nr rfl
def x0f (E:Env) (fl fl':Nat) (x:Value) (args:List Value) (H:a0e) (d:Option Nat) (r:List a0D) (t:a0W) (Z:a0W→a0e→Prop) (R:a0u):Prop :=
 match x with
 | .func (.func f) p q=>x0j E fl fl' f (p.toList ++ args ++ q.toList) H d r t Z R
 | _=>False
@[simp ↓ high] theorem Q0Z {E:Env} {fl:Nat} {t:a0W} {H:a0e} {R:a0u} {d:Option Nat} {r:List a0D} {Z:a0W→a0e→Prop} {x:Opd} {az:List Opd} {lone:Bool} :
  WS E fl t H (.callv x az lone) (fun v H'=>WR E fl r (put t d v) H' Z R) R=x0f E fl (if lone then fl else max fl H.size) (ev t x) (az.map (ev t)) H d r t Z R:=by
 simp only [WS,opA,x0f];generalize ev t x=y
 cases y <;> try rfl
 rename_i g _ _;cases g <;> rfl
@[simp] theorem Q0J {E:Env} {fl fl':Nat} {t:a0W} {H:a0e} {R:a0u} {d:Option Nat} {r:List a0D} {Z:a0W→a0e→Prop} {f:FuncId} {p q:Array Value} {az:List Value} :
  x0f E fl fl' (.func (.func f) p q) az H d r t Z R=x0j E fl fl' f (p.toList ++ az ++ q.toList) H d r t Z R:=nr rfl
theorem r0y {E:Env} {fl fl' fl2:Nat} {t t':a0W} {H:a0e} {R:a0u} {d:Option Nat} {r:List a0D} {Z:a0W→a0e→Prop} {f:FuncId} {az az':List Value} (h:az=az') (ht:t=t') (hf:fl' = fl2) :
  x0j E fl fl' f az H d r t Z R=x0j E fl fl2 f az' H d r t' Z R:=by rw [h,ht,hf]
attribute [congr] r0y
section
variable {E:Env} {fl:Nat} {t:a0W} {H:a0e} {Z:a0W→a0e→Log→Prop} {lg:Log} {d:Option Nat} {r:List a0D}
def V0p (E:Env) (fl fl':Nat) (f:FuncId) (args:List Value) (H:a0e) (d:Option Nat) (r:List a0D) (t:a0W) (lg:Log) (Z:a0W→a0e→Log→Prop):Prop :=
 a0V E fl' f args H (fun v H'=>WRL E fl r (put t d v) H' lg Z) (fun _=>False)
@[simp ↓ high] theorem T0L {f:FuncId} {az:List Opd} {lone:Bool} :
  WS E fl t H (.call f az lone) (fun v H'=>WRL E fl r (put t d v) H' lg Z) (fun _=>False)=V0p E fl (if lone then fl else max fl H.size) f (az.map (ev t)) H d r t lg Z:=nr rfl
end
section
variable {H G G3:a0e} {q p:Nat} {X r0:Blk} {ro:Bool} {e:TypeId} {cs:List Value}
theorem a0z (hS:Array.setIfInBounds G q X=G3) (hb:a0e.blk G p=r0) (h:q ≠ p):a0e.blk G3 p=r0:=by rw [← hS,a0Q h];exact hb
theorem a0M (hS:Array.setIfInBounds G q X=G3) (hb:a0e.blk G q=.row ro e cs):a0e.blk G3 q=X:=by rw [← hS,a0H (a0g hb)]
theorem b0J (hS:Array.setIfInBounds G q X=G3) (hx:Ext H G) (h:H.size≤q):Ext H G3:=by rw [← hS];exact hx.set h
theorem Lim.setS {v:Value} {l:List Nat} (k:Lim G v l) (hS:Array.setIfInBounds G q X=G3) (hb:a0e.blk G q=.row ro e cs) (hne:e ≠ a0m):Lim G3 v l:=by rw [← hS];exact k.setT hb hne
theorem b0q.setS {v:Value} {i:Bool × List Nat} (k:b0q G v i) (hS:Array.setIfInBounds G q X=G3) (hb:a0e.blk G q=.row ro e cs) (hne:e ≠ a0m):b0q G3 v i:=by rw [← hS];exact k.setT hb hne
theorem new1 {z r:Blk} (hN:Array.setIfInBounds (Array.push G z) G.size r=G3):Ext G G3∧a0e.blk G3 G.size=r:=by
 rw [← hN];exact ⟨((Ext.refl G).push).set (by omega),by rw [a0H (by simp)]⟩
theorem h0K {z:Blk} (hN:Array.push G z=G3):Ext G G3∧a0e.blk G3 G.size=z:=by
 rw [← hN];exact ⟨(Ext.refl G).push,a0v⟩
end
def lz (z:Int):Nat:=(a0K z.natAbs).length
theorem m0q {z:Int} {k:Nat} (h:z.natAbs < 4294967296 ^ k):lz z≤k:=g0N h
theorem y0E (z:Int):z.natAbs < 4294967296 ^ lz z:=k0I _
theorem r0X {x y:Int} (h:x.natAbs≤y.natAbs):lz x≤lz y:=b0m h
theorem c0X (x y:Int):lz (x * y)≤lz x + lz y:=by
 refine m0q ?_
 rw [b1m,b1T]
 exact Nat.mul_lt_mul'' (y0E x) (y0E y)
theorem q0A (x y:Int):lz (x + y)≤max (lz x) (lz y) + 1:=by
 refine m0q ?_
 have h1:=y0E x
 have h2:=y0E y
 have h3:(4294967296:Nat) ^ lz x≤4294967296 ^ max (lz x) (lz y):=b1g (by omega) (by omega)
 have h4:(4294967296:Nat) ^ lz y≤4294967296 ^ max (lz x) (lz y):=b1g (by omega) (by omega)
 have:=Int.natAbs_add_le x y
 rw [a1r]
 omega
theorem e0P (x:Int):lz (-x)=lz x:=by unfold lz;rw [Int.natAbs_neg]
theorem f0O:lz 1=1:=by unfold lz;rw [e0y (by decide),show (1:Int).natAbs / 4294967296=0 from rfl,b0n];rfl
theorem c0v:lz 0=0:=by unfold lz;rw [show (0:Int).natAbs=0 from rfl,b0n];rfl
theorem a0n (z:Int):(a0l z).2.length=lz z:=rfl
theorem u0i {i:Bool × List Nat} (h:b0x i.2):lz (a0P i)≤i.2.length:=a0U h
end
section
open Go
set_option maxHeartbeats 4000000
variable {fl:Nat} {H:a0e} {R:a0u} {v w:Value} {i j:Bool × List Nat}
abbrev b0k:=(Bool × List Nat) × (Bool × List Nat)
def b0R (H:a0e) (v:Value) (a:b0k):Prop:=∃ s u,v=.agg #[.bool a.1.1,s,.bool a.2.1,u]∧Lim H s a.1.2∧Lim H u a.2.2
variable {a b:b0k}
theorem b0R.mono {G:a0e} (h:b0R H v a) (hx:Ext H G):b0R G v a:=by obtain ⟨s,u,h1,h2,h3⟩:=h;exact ⟨s,u,h1,h2.mono hx,h3.mono hx⟩
theorem b0R.setT (h:b0R H v a) {p:Nat} {ro:Bool} {e':TypeId} {cs':List Value} {r:Blk} (hb:H.blk p=.row ro e' cs') (hne:e' ≠ a0m):b0R (H.setIfInBounds p r) v a:=by
 obtain ⟨s,u,h1,h2,h3⟩:=h;exact ⟨s,u,h1,h2.setT hb hne,h3.setT hb hne⟩
theorem b0R.setS {G3:a0e} {q:Nat} {X:Blk} {ro:Bool} {e:TypeId} {cs:List Value} (k:b0R H v a) (hS:Array.setIfInBounds H q X=G3) (hb:a0e.blk H q=.row ro e cs) (hne:e ≠ a0m):b0R G3 v a:=by rw [← hS];exact k.setT hb hne
def e0O (a:b0k):Nat:=max a.1.2.length a.2.2.length
def f0t (a:b0k):Bool:=!a.1.1 && a.1.2.length == 0 && !a.2.1 && a.2.2.length == 0
def u0k (a:b0k):Bool:=f0t a || (k0J a.1 && k0J a.2 && !a.2.1 && a0P a.2 != 0 && Int.gcd (a0P a.1) (a0P a.2) == 1)
def b0A (a:b0k):Rat:=if f0t a then 0 else if u0k a then Rat.divInt (a0P a.1) (a0P a.2) else 0
def a0f (x:Rat):b0k:=(a0l x.num,a0l x.den)
theorem n0O (hz:f0t a=false) (hm:u0k a=true):a0f (b0A a)=(a0l (a0P a.1),a0l (a0P a.2)):=by
 unfold b0A
 rw [hz,hm]
 unfold u0k at hm
 rw [hz,Bool.false_or] at hm
 simp only [Z0Q,b1A,bne_iff_ne,ne_eq,beq_iff_eq] at hm
 obtain ⟨⟨⟨⟨h1,h2⟩,h3⟩,h4⟩,h5⟩:=hm
 have hq:0 < a0P a.2:=by
  unfold a0P at h4 ⊢;rw [h2,h3] at h4 ⊢;simp at h4 ⊢;omega
 have hd:((a0P a.2).toNat:Int)=a0P a.2:=c1i (by omega)
 have h6:Rat.divInt (a0P a.1) (a0P a.2) = ⟨a0P a.1,(a0P a.2).toNat,by omega,by rw [Nat.Coprime,← h5,Int.gcd];congr 1;omega⟩:=by
  rw [Rat.mk_eq_divInt,hd]
 simp only [Z0V,a1v,a1p]
 rw [h6];unfold a0f;simp only [hd]
theorem k0r:a0f 0=((false,[]),a0l 1):=by
 show (a0l 0,a0l 1)=_;rw [e0w]
theorem l0R (x:Rat):f0t (a0f x)=false:=by
 have:=x.den_nz
 unfold f0t a0f
 have h:a0K (x.den:Int).natAbs ≠ []:=by rw [Ne,b0S];omega
 have h2:(a0K x.den).length ≠ 0:=by intro h3;exact h (a1c.1 h3)
 simp [a0l];intro _ _;simpa using h2
theorem e0z (x:Rat):u0k (a0f x)=true:=by
 have h1:=x.den_nz
 have h2:=x.reduced
 unfold u0k
 rw [l0R,Bool.false_or]
 unfold a0f
 simp only [q0C,a0j,Z0Q,b1A,bne_iff_ne,beq_iff_eq]
 refine ⟨⟨⟨⟨trivial,trivial⟩,by simp [a0l]⟩,by omega⟩,?_⟩
 rw [Int.gcd,Int.natAbs_natCast];exact h2
theorem a0s (x:Rat):b0A (a0f x)=x:=by
 unfold b0A
 rw [l0R,e0z]
 simp only [Z0V,a1v,a1p]
 unfold a0f
 rw [a0j,a0j,c1r]
theorem i0s (h:b0R H v a) (hf:fl≤H.size):a0V env fl v0Z [v] H (fun r H'=>r=.bool (f0t a)∧Ext H H') R:=by
 obtain ⟨s,u,rfl,hs,hu⟩:=h
 refine a0k W0B hf (h:=?_)
 intro ρ h0
 simp [H0w,A0G,h0]
 have hsl:=hs.slen
 have hul:=hu.slen
 cases h1:a.1.1
 ·by_cases h2:a.1.2=[]
  ·cases h3:a.2.1
   ·simp [l0y,h0,h1,h2,h3,hsl,hul,f0t]
   ·simp [l0y,h0,h1,h2,h3,hsl,hul,f0t]
  ·simp [l0y,h0,h1,h2,hsl,hul,f0t]
 ·simp [l0y,h0,h1,hsl,hul,f0t]
theorem i0r (h:b0q H v i) (hf:fl≤H.size) (hn:i.2.length < 536870912):a0V env fl w0b [v] H (fun r H'=>r=.bool (a0P i == 0)∧Ext H H') R:=by
 have k0:=h
 obtain ⟨s,rfl,hs⟩:=h
 refine a0k W0I hf (h:=?_)
 intro ρ h0
 simp [H0D,B0k,B0l,h0]
 refine (d0v (k0.mono (by simp)) (j:=(false,[])) ⟨_,rfl,Lim.nil⟩ (by simp) hn (by simp)).mono ?_
 rintro _ G2 ⟨rfl,hx2⟩
 have:a0P (false,[])=0:=by unfold a0P k0J;simp [a0B]
 rw [this]
 simp [c0Q]
 intro _
 by_cases h1:a0P i < 0
 ·simp [h1];omega
 ·by_cases h2:0 < a0P i
  ·simp [h1,h2];omega
  ·simp [h1,h2];omega
theorem e0V (hf:fl≤H.size):a0V env fl r0Q [] H (fun r H'=>b0q H' r (a0l 1)∧Ext H H') R:=by
 refine a0k W0t hf (h:=?_)
 intro ρ h0
 simp [H0o,z0O,z0P,h0]
 refine (c0e (by simp) (by omega) (by omega)).mono ?_
 rintro _ G2 ⟨⟨s,rfl,hs⟩,hx2⟩
 have b0:=hx2.blk a0v
 have hz:=a0g b0
 simp [b0,hs.cells,hs.plain,hz]
 exact fun _=>⟨s,rfl,hs.setT b0 (by decide)⟩
theorem g0A (h:b0R H v a) (hf:fl≤H.size) (hn:e0O a < 536870912):a0V env fl r0P [v] H (fun r H'=>r=.bool (u0k a)∧Ext H H') R:=by
 have k0:=h
 have hn1:a.1.2.length < 536870912:=by unfold e0O at hn;omega
 have hn2:a.2.2.length < 536870912:=by unfold e0O at hn;omega
 obtain ⟨s,u,rfl,hs,hu⟩:=h
 have k1:b0q H (.agg #[.bool a.1.1,s]) a.1:=⟨s,rfl,hs⟩
 have k2:b0q H (.agg #[.bool a.2.1,u]) a.2:=⟨u,rfl,hu⟩
 refine a0k W0p hf (h:=?_)
 intro ρ h0
 simp [H0k,z0y,h0]
 generalize hG:Array.push H _=G
 have hx2:Ext H G:=by rw [← hG];simp
 have b0:a0e.blk G H.size=.row false a0b [.bool a.1.1,s,.bool a.2.1,u]:=by rw [← hG];simp
 have hx:=Ext.refl H
 clear hG
 replace hx:=hx.trans hx2;replace k0:=k0.mono hx2;replace k1:=k1.mono hx2;replace k2:=k2.mono hx2
 simp [z0z,h0,b0]
 refine (i0s k0 hx.1).mono ?_
 rintro _ G2 ⟨rfl,hx2⟩
 replace b0:=hx2.blk b0;replace hx:=hx.trans hx2;replace k1:=k1.mono hx2;replace k2:=k2.mono hx2
 unfold u0k
 cases hz:f0t a
 case true=>simp [z0A]
 simp [z0B,h0,b0]
 refine (e0R k1 hx.1 (by omega)).mono ?_
 rintro _ G2 ⟨rfl,hx2⟩
 replace b0:=hx2.blk b0;replace hx:=hx.trans hx2;replace k1:=k1.mono hx2;replace k2:=k2.mono hx2
 cases h1:k0J a.1
 case false=>simp
 simp [h0,b0]
 refine (e0R k2 hx.1 (by omega)).mono ?_
 rintro _ G2 ⟨rfl,hx2⟩
 replace b0:=hx2.blk b0;replace hx:=hx.trans hx2;replace k1:=k1.mono hx2;replace k2:=k2.mono hx2
 cases h2:k0J a.2
 case false=>simp
 cases h3:a.2.1
 case true=>simp [h0,b0,h3]
 simp [h0,b0,h3]
 rw [← h3]
 refine (i0r k2 hx.1 hn2).mono ?_
 rintro _ G2 ⟨rfl,hx2⟩
 replace b0:=hx2.blk b0;replace hx:=hx.trans hx2;replace k1:=k1.mono hx2;replace k2:=k2.mono hx2
 by_cases h4:a0P a.2=0
 ·simp [h4]
  exact fun _=>h3
 have h4':(a0P a.2 == 0)=false:=by simp [h4]
 simp [h0,b0,h4,h4',h3]
 rw [← h3]
 refine (e0Q k1 k2 hx.1 hn1 hn2).mono ?_
 rintro x G2 ⟨k3,hx2⟩
 replace hx:=hx.trans hx2;replace k2:=k2.mono hx2
 try simp [h0]
 refine (e0V hx.1).mono ?_
 rintro y G2 ⟨k4,hx2⟩
 replace hx:=hx.trans hx2;replace k2:=k2.mono hx2;replace k3:=k3.mono hx2
 try simp [h0]
 have hgl:(a0l ((Int.gcd (a0P a.1) (a0P a.2):Nat):Int)).2.length < 536870912:=by
  rw [a0p]
  show (a0K _).length < _
  have h5:Int.gcd (a0P a.1) (a0P a.2)≤(a0P a.2).natAbs:=Int.gcd_le_natAbs_right _ h4
  have:=b0m h5
  have:=a0U k2.ok
  omega
 refine (d0v k3 k4 hx.1 hgl (by rw [a0n,f0O];decide)).mono ?_
 rintro _ G2 ⟨rfl,hx2⟩
 rw [a0j,a0j]
 simp
 intro _
 generalize Int.gcd (a0P a.1) (a0P a.2)=g
 have h6:(c0Q (g:Int) 1 == 0)=(g == 1):=by
  unfold c0Q
  by_cases hg:g=1
  ·subst hg;rfl
  ·have e:(g == 1)=false:=by simp [hg]
   rw [e];split
   ·rfl
   ·rename_i h7;split
    ·rfl
    ·omega
 simp [h3,h4,h6]
theorem b0W (h:b0R H v a) (hf:fl≤H.size) (hn:e0O a < 536870912):a0V env fl y0m [v] H (fun r H'=>b0R H' r (a0f (b0A a))∧Ext H H') R:=by
 have k0:=h
 have hn1:a.1.2.length < 536870912:=by unfold e0O at hn;omega
 have hn2:a.2.2.length < 536870912:=by unfold e0O at hn;omega
 obtain ⟨s,u,rfl,hs,hu⟩:=h
 have k1:b0q H (.agg #[.bool a.1.1,s]) a.1:=⟨s,rfl,hs⟩
 have k2:b0q H (.agg #[.bool a.2.1,u]) a.2:=⟨u,rfl,hu⟩
 refine a0k Z0n hf (h:=?_)
 intro ρ h0
 simp [V0i,M0G,h0]
 generalize hG:Array.push (Array.push H _) _=G
 have hx2:Ext H G:=by rw [← hG];simp
 have b0:a0e.blk G H.size=.row false a0b [.bool a.1.1,s,.bool a.2.1,u]:=by rw [← hG];simp
 have b1:a0e.blk G (H.size + 1)=.row false a0b [.bool false,.slice none 0 0,.bool false,.slice none 0 0]:=by rw [← hG];simp
 have hx:=Ext.refl H
 clear hG
 replace hx:=hx.trans hx2;replace k0:=k0.mono hx2;replace k1:=k1.mono hx2;replace k2:=k2.mono hx2
 simp [M0H,h0,b0]
 refine (i0s k0 hx.1).mono ?_
 rintro _ G2 ⟨rfl,hx2⟩
 replace b0:=hx2.blk b0;replace b1:=hx2.blk b1;replace hx:=hx.trans hx2;replace k0:=k0.mono hx2;replace k1:=k1.mono hx2;replace k2:=k2.mono hx2
 cases hz0:f0t a
 case true =>
  have hval:b0A a=0:=by unfold b0A;rw [hz0];rfl
  simp [E0W,h0]
  refine (e0V hx.1).mono ?_
  rintro _ G2 ⟨⟨s1,rfl,hs1⟩,hx2⟩
  replace b0:=hx2.blk b0;replace b1:=hx2.blk b1;replace hx:=hx.trans hx2;replace k0:=k0.mono hx2;replace k1:=k1.mono hx2;replace k2:=k2.mono hx2
  have hz:=a0g b1
  simp [h0,b1,hs1.cells,hs1.plain,hz]
  refine fun _=>?_
  rw [hval,k0r]
  exact ⟨_,s1,rfl,Lim.nil,hs1.setT b1 (by decide)⟩
 simp [h0,b0]
 refine (g0A k0 hx.1 hn).mono ?_
 rintro _ G2 ⟨rfl,hx2⟩
 replace b0:=hx2.blk b0;replace b1:=hx2.blk b1;replace hx:=hx.trans hx2;replace k1:=k1.mono hx2;replace k2:=k2.mono hx2
 cases hm:u0k a
 case false =>
  have hval:b0A a=0:=by unfold b0A;rw [hz0,hm];rfl
  simp [E0W,h0]
  refine (e0V hx.1).mono ?_
  rintro _ G2 ⟨⟨s1,rfl,hs1⟩,hx2⟩
  replace b0:=hx2.blk b0;replace b1:=hx2.blk b1;replace hx:=hx.trans hx2;replace k1:=k1.mono hx2;replace k2:=k2.mono hx2
  have hz:=a0g b1
  simp [h0,b1,hs1.cells,hs1.plain,hz]
  refine fun _=>?_
  rw [hval,k0r]
  exact ⟨_,s1,rfl,Lim.nil,hs1.setT b1 (by decide)⟩
 rw [n0O hz0 hm]
 simp [h0]
 refine a0A ?_
 simp [M0I,h0,b0]
 have hv0:a0P (false,[])=0:=by unfold a0P k0J;simp [a0B]
 refine (e0e k1 (j:=(false,[])) ⟨_,rfl,Lim.nil⟩ (by have:=hx.1;omega) hn1 (by simp)).mono ?_
 rintro _ G2 ⟨⟨s1,rfl,k3⟩,hx2⟩
 replace b0:=hx2.blk b0;replace b1:=hx2.blk b1;replace hx:=hx.trans hx2;replace k2:=k2.mono hx2
 rw [hv0,b1a] at k3 ⊢
 try simp [h0,b0]
 refine (e0e k2 (j:=(false,[])) ⟨_,rfl,Lim.nil⟩ hx.1 hn2 (by simp)).mono ?_
 rintro _ G2 ⟨⟨s2,rfl,k4⟩,hx2⟩
 replace b1:=hx2.blk b1;replace hx:=hx.trans hx2;replace k3:=k3.mono hx2
 rw [hv0,b1a] at k4 ⊢
 have hz:=a0g b1
 simp [h0,b1,k3.cells,k3.plain,k4.cells,k4.plain,hz]
 exact fun _=>⟨s1,s2,rfl,k3.setT b1 (by decide),k4.setT b1 (by decide)⟩
end
section
open Go
def szR (x:Rat):Nat:=max (lz x.num) (lz x.den)
theorem a0x (x:Rat):e0O (a0f x)=szR x:=rfl
theorem F0D (x:Rat):1≤szR x:=by
 unfold szR
 have:lz x.den ≠ 0:=by
  unfold lz
  intro h
  have:=b0S.1 (a1c.1 h)
  have:=x.den_nz
  omega
 omega
theorem f0K:szR 0=1:=by show max (lz 0) (lz 1)=1;rw [c0v,f0O];rfl
theorem p0I:szR 1=1:=by show max (lz 1) (lz 1)=1;rw [f0O];rfl
theorem j0c (z:Int):szR (z:Rat)=max (lz z) 1:=by
 unfold szR;rw [b1X,b1V];show max (lz z) (lz 1)=_;rw [f0O]
theorem b0L (p q:Int):szR (Rat.divInt p q)≤max (max (lz p) (lz q)) 1:=by
 unfold szR
 rw [Rat.num_divInt,Rat.den_divInt]
 have h1:lz (q.sign * p / ↑(q.gcd p))≤lz p:=by
  refine r0X ?_
  rw [Int.natAbs_ediv_of_dvd]
  ·refine Z0N (b1e _ _) ?_
   rw [b1m]
   have : q.sign.natAbs ≤ 1 := by rcases Int.lt_trichotomy q 0 with h | h | h
                                  ·rw [Int.sign_eq_neg_one_of_neg h];decide
                                  ·rw [h];decide
                                  ·rw [Int.sign_eq_one_of_pos h];decide
   calc _≤1 * p.natAbs:=Z0L _ this
    _=_:=a1w _
  ·exact Int.dvd_mul_of_dvd_right (c1s ..)
 have h2:lz ((if q=0 then 1 else q.natAbs / q.gcd p:Nat):Int)≤max (lz q) 1:=by
  split
  ·show lz 1≤_;rw [f0O];omega
  ·have:lz ((q.natAbs / q.gcd p:Nat):Int)≤lz q:=r0X (by rw [Int.natAbs_natCast];exact b1e _ _)
   omega
 omega
theorem j0s (n:Int) (d:Nat):mkRat n d=Rat.divInt n d:=rfl
theorem m0E (x y:Rat):x + y=Rat.divInt (x.num * y.den + y.num * x.den) (x.den * y.den):=by rw [Rat.add_def',j0s,b1b]
theorem m0T (x y:Rat):x * y=Rat.divInt (x.num * y.num) (x.den * y.den):=by rw [Rat.mul_def',j0s,b1b]
theorem m0I (x y:Rat):x / y=Rat.divInt (x.num * y.den) (x.den * y.num):=by
 rw [c1t,Rat.inv_def]
 conv=>lhs;lhs;rw [← c1r x]
 rw [Rat.divInt_mul_divInt]
theorem p0H (x y:Rat):szR (x + y)≤szR x + szR y + 1:=by
 rw [m0E]
 refine Z0N (b0L _ _) ?_
 have h1:=q0A (x.num * y.den) (y.num * x.den)
 have h2:=c0X x.num y.den
 have h3:=c0X y.num x.den
 have h4:=c0X (x.den:Int) y.den
 unfold szR;omega
theorem f0J (x y:Rat):szR (x * y)≤szR x + szR y:=by
 rw [m0T]
 refine Z0N (b0L _ _) ?_
 have h2:=c0X x.num y.num
 have h4:=c0X (x.den:Int) y.den
 have:=F0D x
 unfold szR at *;omega
theorem F0C (x:Rat):szR (-x)=szR x:=by unfold szR;rw [Rat.neg_num,Rat.neg_den,e0P]
theorem P0R (x y:Rat):szR (x / y)≤szR x + szR y:=by
 rw [m0I]
 refine Z0N (b0L _ _) ?_
 have h2:=c0X x.num y.den
 have h4:=c0X (x.den:Int) y.num
 have:=F0D x
 unfold szR at *;omega
theorem d0s {a:b0k} (h1:b0x a.1.2) (h2:b0x a.2.2):szR (b0A a)≤max (e0O a) 1:=by
 by_cases hz:f0t a=true
 ·have:b0A a=0:=by unfold b0A;rw [hz];rfl
  rw [this,f0K];omega
 ·by_cases hm:u0k a=true
  ·have h3:=n0O (by simpa using hz) hm
   have h4:=a0x (b0A a)
   rw [h3] at h4
   rw [← h4]
   have:=u0i h1
   have:=u0i h2
   unfold e0O;simp only [a0n];omega
  ·have:b0A a=0:=by unfold b0A;simp [hz,hm]
   rw [this,f0K];omega
theorem z0r {p q g:Int} (hq:q ≠ 0) (hg:g=if q < 0 then -(Int.gcd p q:Int) else (Int.gcd p q:Int)):a0f (Rat.divInt p q)=(a0l (p.tdiv g),a0l (q.tdiv g))∧g ≠ 0:=by
 have hgp:0 < Int.gcd p q:=Int.gcd_pos_of_ne_zero_right _ hq
 have hg0:g ≠ 0:=by rw [hg];split <;> omega
 refine ⟨?_,hg0⟩
 have hdp : g ∣ p := by rw [hg]; split
                        ·exact Int.neg_dvd.2 (Int.gcd_dvd_left ..)
                        ·exact Int.gcd_dvd_left ..
 have hdq : g ∣ q := by rw [hg]; split
                        ·exact Int.neg_dvd.2 (c1s ..)
                        ·exact c1s ..
 have hna:g.natAbs=Int.gcd p q:=by rw [hg];split <;> simp
 have e1:=Int.tdiv_mul_cancel hdp
 have e2:=Int.tdiv_mul_cancel hdq
 have hcop:Int.gcd (p.tdiv g) (q.tdiv g)=1:=by
  have h1:Int.gcd (p.tdiv g * g) (q.tdiv g * g)=Int.gcd (p.tdiv g) (q.tdiv g) * g.natAbs:=Int.gcd_mul_right ..
  rw [e1,e2,hna] at h1
  have h2:1 * Int.gcd p q=Int.gcd (p.tdiv g) (q.tdiv g) * Int.gcd p q:=by rw [a1w];exact h1
  exact (Nat.eq_of_mul_eq_mul_right hgp h2).symm
 have hpos:0 < q.tdiv g:=by
  by_cases hq0:q < 0
  ·have:g < 0:=by rw [hg,Z0I hq0];omega
   by_cases h:0 < q.tdiv g
   ·exact h
   ·have:=Int.mul_nonneg_of_nonpos_of_nonpos (a:=q.tdiv g) (b:=g) (by omega) (by omega);omega
  ·have:0 < g:=by rw [hg,Z0F hq0];omega
   by_cases h:0 < q.tdiv g
   ·exact h
   ·have:=a1K (a:=q.tdiv g) (b:=g) (by omega) (by omega);omega
 have h3:Rat.divInt p q=Rat.divInt (p.tdiv g) (q.tdiv g):=by
  have h:=Rat.divInt_mul_right (n:=p.tdiv g) (d:=q.tdiv g) hg0
  rw [e1,e2] at h;exact h
 generalize p.tdiv g=x at *
 generalize q.tdiv g=y at *
 have hd:((y.toNat:Nat):Int)=y:=c1i (by omega)
 have h6:Rat.divInt x y = ⟨x,y.toNat,by omega,by rw [Nat.Coprime,← hcop,Int.gcd];congr 1;omega⟩:=by
  rw [Rat.mk_eq_divInt,hd]
 rw [h3,h6];unfold a0f;simp only [hd]
def W0m (x y:Rat):Int:=if x < y then -1 else if y < x then 1 else 0
theorem x0J {x y:Rat}:0 < W0m x y ↔ y < x:=by
 unfold W0m;split
 ·rename_i h;simp;exact Rat.not_lt.2 (c1w h)
 ·split <;> simp_all
end
section
open Go
set_option maxHeartbeats 4000000
variable {fl:Nat} {H:a0e} {R:a0u} {v w:Value} {i j:Bool × List Nat} {a b:b0k}
theorem b0q.cells {i:Bool × List Nat} (h:b0q H v i):(a0S v).length=2∧(a0S v).all a0q=true:=by
 obtain ⟨s,rfl,hs⟩:=h;simp [hs.plain]
theorem d0x (h:b0q H v i) (k:b0q H w j) (hf:fl≤H.size) (hn:i.2.length < 536870912) (hm:j.2.length < 536870912) (hj0:a0P j ≠ 0) :
  a0V env fl o0l [v,w] H (fun r H'=>(∃ q,r=.tuple #[q,.int .i64 0]∧b0R H' q (a0f (Rat.divInt (a0P i) (a0P j))))∧Ext H H') R:=by
 have k0:=h
 have k1:=k
 obtain ⟨s,rfl,hs⟩:=h
 obtain ⟨u,rfl,hu⟩:=k
 refine a0k W0C hf (h:=?_)
 intro ρ h0
 simp [H0x,A0H,h0]
 generalize hG:Array.push (Array.push (Array.push H _) _) _=G
 have hx:Ext H G:=by rw [← hG];exact (Ext.refl H).push.push.push
 have b0:a0e.blk G H.size=.row false a0a [.bool i.1,s]:=by rw [← hG];simp
 have b1:a0e.blk G (H.size + 1)=.row false a0a [.bool j.1,u]:=by rw [← hG];simp
 have b2:a0e.blk G (H.size + 2)=.row false a0b [.bool false,.slice none 0 0,.bool false,.slice none 0 0]:=by rw [← hG];simp
 clear hG
 replace k0:=k0.mono hx
 replace k1:=k1.mono hx
 have l1:=a0U k0.ok
 have l2:=a0U k1.ok
 simp [A0I,h0,b1]
 refine (i0r k1 hx.1 hm).mono ?_
 rintro _ G2 ⟨rfl,hx2⟩
 replace b0:=hx2.blk b0;replace b1:=hx2.blk b1;replace b2:=hx2.blk b2;replace hx:=hx.trans hx2;replace k0:=k0.mono hx2;replace k1:=k1.mono hx2
 have hj0':(a0P j == 0)=false:=by simp [hj0]
 simp [hj0',hj0,A0J,h0,b0,b1]
 refine (e0Q k0 k1 hx.1 hn hm).mono ?_
 rintro x G2 ⟨⟨s1,rfl,k2⟩,hx2⟩
 replace b0:=hx2.blk b0;replace b1:=hx2.blk b1;replace b2:=hx2.blk b2;replace hx:=hx.trans hx2;replace k0:=k0.mono hx2;replace k1:=k1.mono hx2
 have hsz:=hx.1
 simp [h0,k2.cells,k2.plain,hsz]
 generalize hN:Array.setIfInBounds (Array.push _ _) _ _=G3
 obtain ⟨hx2,b3⟩:=new1 hN
 have hb2l:=a0g b2
 replace b0:=hx2.blk b0;replace b1:=hx2.blk b1;replace b2:=hx2.blk b2;replace hx:=hx.trans hx2;replace k0:=k0.mono hx2;replace k1:=k1.mono hx2;replace k2:=k2.mono hx2
 clear hN
 obtain ⟨P,hP⟩:∃ P,P=G2.size:=⟨_,rfl⟩
 rw [← hP] at b3 hsz hb2l ⊢
 have hgl:lz (Int.gcd (a0P i) (a0P j):Int) < 536870912:=by
  have h5:Int.gcd (a0P i) (a0P j)≤(a0P j).natAbs:=Int.gcd_le_natAbs_right _ hj0
  have:lz (Int.gcd (a0P i) (a0P j):Int)≤(a0K (a0P j).natAbs).length:=b0m (by simpa using h5)
  omega
 simp [A0K,h0,b1]
 refine (d0v k1 (j:=(false,[])) ⟨_,rfl,Lim.nil⟩ hx.1 hm (by simp)).mono ?_
 rintro _ G2 ⟨rfl,hx2⟩
 replace b0:=hx2.blk b0;replace b1:=hx2.blk b1;replace b2:=hx2.blk b2;replace b3:=hx2.blk b3;replace hx:=hx.trans hx2;replace k0:=k0.mono hx2;replace k1:=k1.mono hx2;replace k2:=k2.mono hx2
 have hv0:a0P (false,[])=0:=by unfold a0P k0J;simp [a0B]
 rw [hv0]
 obtain ⟨g,hg⟩:∃ g,g=if a0P j < 0 then -(Int.gcd (a0P i) (a0P j):Int) else (Int.gcd (a0P i) (a0P j):Int):=⟨_,rfl⟩
 obtain ⟨hq,hg0⟩:=z0r (p:=a0P i) hj0 hg
 rw [hq]
 have hgl2:lz g < 536870912:=by rw [hg];split;rw [e0P];exact hgl;exact hgl
 by_cases hneg:a0P j < 0
 ·have hcz:c0Q (a0P j) 0 < 0:=by unfold c0Q;rw [Z0I hneg];omega
  simp [hcz,A0L,h0,b3]
  refine (e0f (i:=a0l (Int.gcd (a0P i) (a0P j))) ⟨s1,rfl,k2⟩ hx.1 (by rw [a0n];omega)).mono ?_
  rintro _ G2 ⟨⟨s2,rfl,k6⟩,hx2⟩
  replace b0:=hx2.blk b0;replace b1:=hx2.blk b1;replace b2:=hx2.blk b2;replace b3:=hx2.blk b3;replace hx:=hx.trans hx2;replace k0:=k0.mono hx2;replace k1:=k1.mono hx2;replace k2:=k2.mono hx2
  rw [a0j] at k6 ⊢
  rw [Z0I hneg] at hg
  rw [← hg] at k6 ⊢
  have hz:=a0g b3
  simp [h0,b3,k6.cells,k6.plain,hsz]
  generalize hS:Array.setIfInBounds _ _ _=G3
  have hsz:=hx.1;replace k0:=k0.setS hS b3 (by decide);replace k1:=k1.setS hS b3 (by decide);replace k2:=k2.setS hS b3 (by decide);replace k6:=k6.setS hS b3 (by decide);replace b0:=a0z hS b0 (by omega);replace b1:=a0z hS b1 (by omega);replace b2:=a0z hS b2 (by omega);replace hx:=b0J hS hx (by omega);replace b3:=a0M hS b3;clear hS hsz
  clear k2
  have k2:=k6
  clear k6
  obtain ⟨s1,rfl⟩:∃ s1,s1=s2:=⟨_,rfl⟩
  simp [s0r,h0,b0,b3]
  refine (b0O k0 ⟨s1,rfl,k2⟩ hx.1 hn (by rw [a0n];exact hgl2) (by rw [a0j];exact hg0)).mono ?_
  rintro _ G2 ⟨⟨_,_,rfl,⟨s3,rfl,k3⟩,k4⟩,hx2⟩
  replace b0:=hx2.blk b0;replace b1:=hx2.blk b1;replace b2:=hx2.blk b2;replace b3:=hx2.blk b3;replace hx:=hx.trans hx2;replace k0:=k0.mono hx2;replace k1:=k1.mono hx2;replace k2:=k2.mono hx2
  rw [a0j] at k3 ⊢
  have hz:=a0g b0
  simp [h0,b0,k3.cells,k3.plain,hz]
  generalize hS:Array.setIfInBounds _ _ _=G3
  have hsz:=hx.1;replace k0:=k0.setS hS b0 (by decide);replace k1:=k1.setS hS b0 (by decide);replace k2:=k2.setS hS b0 (by decide);replace k3:=k3.setS hS b0 (by decide);replace k4:=k4.setS hS b0 (by decide);replace b1:=a0z hS b1 (by omega);replace b2:=a0z hS b2 (by omega);replace b3:=a0z hS b3 (by omega);replace hx:=b0J hS hx (by omega);replace b0:=a0M hS b0;clear hS hsz
  simp [s0s,h0,b1,b3]
  refine (b0O k1 ⟨s1,rfl,k2⟩ hx.1 hm (by rw [a0n];exact hgl2) (by rw [a0j];exact hg0)).mono ?_
  rintro _ G2 ⟨⟨_,_,rfl,⟨s4,rfl,k4⟩,k5⟩,hx2⟩
  replace b0:=hx2.blk b0;replace b1:=hx2.blk b1;replace b2:=hx2.blk b2;replace b3:=hx2.blk b3;replace hx:=hx.trans hx2;replace k0:=k0.mono hx2;replace k1:=k1.mono hx2;replace k2:=k2.mono hx2;replace k3:=k3.mono hx2
  rw [a0j] at k4 ⊢
  have hz:=a0g b1
  simp [h0,b1,k4.cells,k4.plain,hz]
  generalize hS:Array.setIfInBounds _ _ _=G3
  have hsz:=hx.1;replace k0:=k0.setS hS b1 (by decide);replace k1:=k1.setS hS b1 (by decide);replace k2:=k2.setS hS b1 (by decide);replace k3:=k3.setS hS b1 (by decide);replace k4:=k4.setS hS b1 (by decide);replace k5:=k5.setS hS b1 (by decide);replace b0:=a0z hS b0 (by omega);replace b2:=a0z hS b2 (by omega);replace b3:=a0z hS b3 (by omega);replace hx:=b0J hS hx (by omega);replace b1:=a0M hS b1;clear hS hsz
  have hz:=a0g b2
  simp [s0t,h0,b0,b1,b2,k3.cells,k3.plain,k4.cells,k4.plain,hz]
  exact fun _=>⟨s3,s4,rfl,k3.setT b2 (by decide),k4.setT b2 (by decide)⟩
 ·have hcz:¬ c0Q (a0P j) 0 < 0:=by unfold c0Q;rw [Z0F hneg];split <;> omega
  rw [Z0F hneg] at hg
  rw [← hg] at k2 b3
  simp [hcz]
  simp [s0r,h0,b0,b3]
  refine (b0O k0 ⟨s1,rfl,k2⟩ hx.1 hn (by rw [a0n];exact hgl2) (by rw [a0j];exact hg0)).mono ?_
  rintro _ G2 ⟨⟨_,_,rfl,⟨s3,rfl,k3⟩,k4⟩,hx2⟩
  replace b0:=hx2.blk b0;replace b1:=hx2.blk b1;replace b2:=hx2.blk b2;replace b3:=hx2.blk b3;replace hx:=hx.trans hx2;replace k0:=k0.mono hx2;replace k1:=k1.mono hx2;replace k2:=k2.mono hx2
  rw [a0j] at k3 ⊢
  have hz:=a0g b0
  simp [h0,b0,k3.cells,k3.plain,hz]
  generalize hS:Array.setIfInBounds _ _ _=G3
  have hsz:=hx.1;replace k0:=k0.setS hS b0 (by decide);replace k1:=k1.setS hS b0 (by decide);replace k2:=k2.setS hS b0 (by decide);replace k3:=k3.setS hS b0 (by decide);replace k4:=k4.setS hS b0 (by decide);replace b1:=a0z hS b1 (by omega);replace b2:=a0z hS b2 (by omega);replace b3:=a0z hS b3 (by omega);replace hx:=b0J hS hx (by omega);replace b0:=a0M hS b0;clear hS hsz
  simp [s0s,h0,b1,b3]
  refine (b0O k1 ⟨s1,rfl,k2⟩ hx.1 hm (by rw [a0n];exact hgl2) (by rw [a0j];exact hg0)).mono ?_
  rintro _ G2 ⟨⟨_,_,rfl,⟨s4,rfl,k4⟩,k5⟩,hx2⟩
  replace b0:=hx2.blk b0;replace b1:=hx2.blk b1;replace b2:=hx2.blk b2;replace b3:=hx2.blk b3;replace hx:=hx.trans hx2;replace k0:=k0.mono hx2;replace k1:=k1.mono hx2;replace k2:=k2.mono hx2;replace k3:=k3.mono hx2
  rw [a0j] at k4 ⊢
  have hz:=a0g b1
  simp [h0,b1,k4.cells,k4.plain,hz]
  generalize hS:Array.setIfInBounds _ _ _=G3
  have hsz:=hx.1;replace k0:=k0.setS hS b1 (by decide);replace k1:=k1.setS hS b1 (by decide);replace k2:=k2.setS hS b1 (by decide);replace k3:=k3.setS hS b1 (by decide);replace k4:=k4.setS hS b1 (by decide);replace k5:=k5.setS hS b1 (by decide);replace b0:=a0z hS b0 (by omega);replace b2:=a0z hS b2 (by omega);replace b3:=a0z hS b3 (by omega);replace hx:=b0J hS hx (by omega);replace b1:=a0M hS b1;clear hS hsz
  have hz:=a0g b2
  simp [s0t,h0,b0,b1,b2,k3.cells,k3.plain,k4.cells,k4.plain,hz]
  exact fun _=>⟨s3,s4,rfl,k3.setT b2 (by decide),k4.setT b2 (by decide)⟩
end
end Go.Proofs.YtilekhkgobmolaaGreat.AI
