/- Part 6 of the proof. -/
import Derived.Test.YtilekhkgobmolaaGreatM04
set_option linter.unusedVariables false
set_option linter.unusedSimpArgs false
set_option linter.unusedSectionVars false
namespace Go.Proofs.YtilekhkgobmolaaGreat.AI
section
open Go
set_option maxHeartbeats 4000000
variable {fl:Nat} {H:a0e} {R:a0E} {v w:Value} {a:List Nat}
theorem f0P {l:List Nat} {n:Nat} (h:n < l.length):a0u (l.drop n)=l.getD n 0 + 4294967296 * a0u (l.drop (n + 1)):=by
 rw [i1Z h,a0u,i1h,i1m h];rfl
theorem o0b {d:Nat} (ha:Lim H v a) (hf:fl≤H.size) (hna:a.length≤1073741824) (hd:0 < d) (hd2:d < 4294967296) :
  a0S env fl A0P [v,.int .u32 (d:Int)] H (fun r H'=>(∃ q o,r=.tuple #[q,.int .u32 ((a0u a % d:Nat):Int)]∧Lim H' q o∧a0u o=a0u a / d∧o.length=a.length)∧Ext H H') R:=by
 refine a0g e1R hf (h:=?_)
 intro ρ h0
 simp only [L0T]
 have hm:=g0i (bytes:=4) (k:=.i64) (k':=.i64) (l:=a.length) (c:=a.length) (i1j _) (by omega) (by omega)
 have w1:IntKind.i64.wrap ((a.length:Int) - 1)=(a.length:Int) - 1:=a0R (by omega) (by omega)
 simp [F0s,F0t,F0u,F0v,h0,ha.slen,hm,w1]
 generalize hPd:H.size=P
 have hP:H.size≤P:=by omega
 generalize hSL:Value.slice (some ⟨P,0,none⟩) a.length a.length=SL
 refine b0R (fun k t G'=>∃ r o,t.length=42∧get t 0=v∧get t 1=.int .u32 (d:Int)∧get t 6=SL∧get t 7=.int .u64 ((r:Nat):Int)∧get t 8=.int .i64 ((k:Int) - 1)∧k≤a.length ∧
   Ext H G'∧a0e.blk G' P=.row false a0h (b0Y o)∧o.length=a.length∧b0a o∧r < d∧a0u (o.drop k) * d + r=a0u (a.drop k))
  (fun t G'=>∃ r o,t.length=42∧get t 6=SL∧get t 7=.int .u64 ((r:Nat):Int) ∧
   Ext H G'∧a0e.blk G' P=.row false a0h (b0Y o)∧o.length=a.length∧b0a o∧r < d∧a0u o * d + r=a0u a) a.length ?_ ?_ ?_
 ·refine ⟨0,List.replicate a.length 0,by simp,by simp [h0],by simp [h0],by simp,by simp,by simp,by omega,Ext.push (Ext.refl _),?_,by simp,?_,hd,?_⟩
  ·rw [← hPd,a0D]
   congr 1
   generalize a.length=n
   induction n with
   | zero=>rfl
   | succ n ih=>rw [e0G,ih];rfl
  ·intro z hz;rw [k1F] at hz;omega
  ·simp [a0u]
 ·clear h0 ρ hm w1
  rintro k t G' ⟨r,o,ht,g0,g1,g6,g7,g8,hk,hx2,hb,hol,hok,hr,hs⟩
  obtain ⟨ρ,rfl⟩:=toT ht
  simp only [b0Q,Nat.reduceLT] at g0 g1 g6 g7 g8
  by_cases hk0:k=0
  ·subst hk0
   simp [u0X,g0,g1,g6,g7,g8]
   exact ⟨r,rfl,hx2,o,hb,hol,hok,hr,by simpa using hs⟩
  ·have e0:(k:Int) - 1=((k - 1:Nat):Int):=by omega
   have hka:k - 1 < a.length:=by omega
   rw [e0] at g8
   have hla:=ha.load hka hx2
   have hia:=ha.ia (k:=.i64) hka
   have hA2:=f0P hka
   have hA3:a.getD (k - 1) 0 < 4294967296:=ha.2 _ (by rw [i1h,i1m hka];exact i1p hka)
   generalize a.getD (k - 1) 0=A at hla hA2 hA3
   have hlo:k - 1 < o.length:=by omega
   obtain ⟨hio,hro⟩:=f0u (k:=.i64) (cap:=a.length) hb hlo hol
   rw [hSL] at hio
   have s2:r * 2 ^ 32 % 18446744073709551616=r * 4294967296:=by omega
   have s1:d0m 0 .shl (.int .u64 (r:Int)) (.int .u64 32)=some (.int .u64 ((r * 4294967296:Nat):Int)):=by
    have:=J0g (tag:=0) (n:=r) (s:=32) (k':=.u64) (by omega)
    rw [s2] at this;exact this
   have s3:=Z0I (tag:=0) (a:=r * 4294967296) (b:=A) (by omega) (by omega)
   rw [w0H hA3] at s3
   have eA:IntKind.u64.wrap (A:Int)=(A:Int):=by rw [a0x];omega
   have eD:IntKind.u64.wrap (d:Int)=(d:Int):=by rw [a0x];omega
   have s4:=Z0S (tag:=0) (a:=r * 4294967296 + A) (b:=d) (by omega) (by omega)
   have s5:=a1F (tag:=0) (a:=r * 4294967296 + A) (b:=d) (by omega)
   have w2:IntKind.i64.wrap (((k - 1:Nat):Int) - 1)=((k - 1:Nat):Int) - 1:=a0R (by omega) (by omega)
   simp [-Int.natCast_add,-Int.natCast_mul,-Int.natCast_ediv,-Int.natCast_emod,u0X,F0w,F0x,F0y,F0z,g0,g1,g6,g7,g8,hla,hia,s1,s3,eA,eD,s4,s5,hio,w2]
   have hq1:(r * 4294967296 + A) / d < 4294967296:=by
    rw [j1Z hd]
    have:(r + 1) * 4294967296≤d * 4294967296:=i1r _ hr
    rw [i1L 4294967296 d];omega
   have hq2:=k1t (r * 4294967296 + A) d
   have hq3:=j1G (r * 4294967296 + A) hd
   clear s4 s5
   generalize (r * 4294967296 + A) / d=Q at hq1 hq2 ⊢
   generalize (r * 4294967296 + A) % d=r2 at hq2 hq3 ⊢
   refine (a0r (by have:=hx2.1;omega)).mono ?_
   rintro _ G3 ⟨rfl,hx3⟩
   replace hb:=hx3.blk hb
   have hxx:=hx2.trans hx3
   have hPl:=a0i hb
   have hle:k - 1 + 1≤o.length:=hlo
   rw [i1K hq1]
   simp [-Int.natCast_emod,-Int.natCast_ediv,-Int.natCast_add,hb,hle]
   refine ⟨k - 1,by omega,r2,rfl,rfl,by omega,hxx.set (by omega),o.set (k - 1) Q,by rw [a0z hPl,d0I],by simp [hol],b0X hok hq1,hq3,?_⟩
   have hdr:a0u ((o.set (k - 1) Q).drop (k - 1))=Q + 4294967296 * a0u (o.drop k):=by
    rw [f0P (by simpa using hlo),i1h,j1F hlo,show k - 1 + 1=k by omega,List.drop_set_of_lt (by omega)];rfl
   rw [hdr,hA2,show k - 1 + 1=k by omega,← hs,i1D,i1z,i1L Q d]
   generalize a0u (List.drop k o) * d=Z
   omega
 ·clear h0 ρ hm w1
  rintro t G' ⟨r,o,ht,g6,g7,hx2,hb,hol,hok,hr,hs⟩
  obtain ⟨ρ,rfl⟩:=toT ht
  simp only [b0Q,Nat.reduceLT] at g6 g7
  have hy:Lim G' SL o:=by
   rw [← hSL,← hol]
   exact ⟨(Own.mk (fl:=0) hb (by simp) (j1l _)).sl,hok⟩
  simp [F0A,g6,g7]
  refine (a0r (by have:=hx2.1;omega)).mono ?_
  rintro _ G3 ⟨rfl,hx3⟩
  have e1:a0u a % d=r:=by rw [← hs,i1L,Nat.mul_add_mod,i1K hr]
  have e2:a0u a / d=a0u o:=by rw [← hs,i1L,Nat.mul_add_div hd,k1b hr];rfl
  have e3:((a0u a:Nat):Int) % (d:Int)=((r:Nat):Int):=by rw [← e1];rfl
  rw [i1K (by omega),e3,e2]
  simp
  exact fun _=>⟨o,hy.mono hx3,rfl,hol⟩
end
section
open Go
set_option maxHeartbeats 4000000
variable {fl:Nat} {H:a0e} {R:a0E} {v w:Value} {a b:List Nat}
theorem u0e {x y s:Nat} (h:y < 2 ^ s):y ||| x * 2 ^ s=y + x * 2 ^ s:=by
 have:=k1i (i:=s) (b:=y) h x
 rw [Nat.or_comm,i1L x,← this,Nat.add_comm]
theorem g0G {n:Nat} (ha:Lim H v a) (hf:fl≤H.size) (hna:a.length < 1073741824) (hn:n < 32) :
  a0S env fl y0H [v,.int .i64 (n:Int)] H (fun r H'=>(∃ o,Own H.size H' a0h 1 r (a.length + 1) (b0Y o)∧b0a o∧a0u o=a0u a * 2 ^ n∧o.length=a.length + 1)∧Ext H H') R:=by
 refine a0g e1Y hf (h:=?_)
 intro ρ h0
 simp only [M0a]
 have hm:=X0v (bytes:=4) (k:=.i64) (k':=.i64) (l:=0) (c:=(a.length:Int) + 1) (by omega) (by omega) (by omega) (by omega)
 have w1:IntKind.i64.wrap ((a.length:Int) + 1)=(a.length:Int) + 1:=a0R (by omega) (by omega)
 simp [G0d,G0e,G0f,G0g,h0,ha.slen,hm,w1]
 have hp:2 ^ n≤2147483648:=j1y (n:=2) (by omega) (show n≤31 by omega)
 have hp0:0 < 2 ^ n:=k1M n
 refine b0R (fun k t G'=>∃ i c out s,i + k=a.length∧t.length=38∧get t 1=.int .i64 (n:Int)∧get t 5=s∧get t 6=.int .u64 ((c:Nat):Int)∧get t 13=v∧get t 14=.int .i64 a.length∧get t 15=.int .i64 ((i:Nat):Int) ∧
   Ext H G'∧Own H.size G' a0h 1 s i (b0Y out)∧b0a out∧out.length=i∧c < 2 ^ n∧a0u out + 4294967296 ^ i * c=a0u (a.take i) * 2 ^ n)
  (fun t G'=>∃ c out s,t.length=38∧get t 5=s∧get t 6=.int .u64 ((c:Nat):Int) ∧
   Ext H G'∧Own H.size G' a0h 1 s a.length (b0Y out)∧b0a out∧out.length=a.length∧c < 2 ^ n∧a0u out + 4294967296 ^ a.length * c=a0u a * 2 ^ n) a.length ?_ ?_ ?_
 ·exact ⟨0,0,[],.slice (some ⟨H.size,0,none⟩) 0 (a.length + 1),by omega,by simp,by simp [h0],by simp,by simp,by simp [h0],by simp,by simp,by simp,
   Own.mk (by simp [b0Y]) rfl (i1j _),by intro x hx;simp at hx,rfl,hp0,by simp [a0u]⟩
 ·clear hm w1 h0 ρ
  rintro k t G' ⟨i,c,out,s,hik,ht,g1,g5,g6,g13,g14,g15,hx,ho,hok,hol,hc,hs⟩
  obtain ⟨ρ,rfl⟩:=toT ht
  simp only [b0Q,Nat.reduceLT] at g1 g5 g6 g13 g14 g15
  by_cases hi:i < a.length
  ·have hla:=ha.load hi hx
   have hia:=ha.ia (k:=.i64) hi
   have hA2:=a0P hi
   have hA3:a.getD i 0 < 4294967296:=ha.2 _ (by rw [i1h,i1m hi];exact i1p hi)
   generalize a.getD i 0=A at hla hA2 hA3
   have eA:IntKind.u64.wrap (A:Int)=(A:Int):=by rw [a0x];omega
   have hAn:A * 2 ^ n≤4294967295 * 2147483648:=j1f (by omega) hp
   have s1:=J0g (tag:=0) (n:=A) (s:=n) (k':=.i64) (by omega)
   rw [i1K (by omega)] at s1
   have s2:=Z0I (tag:=0) (a:=c) (b:=A * 2 ^ n) (by omega) (by omega)
   rw [u0e hc] at s2
   have e9:IntKind.i64.wrap ((i:Int) + 1)=((i + 1:Nat):Int):=by rw [a0R (by omega) (by omega)];omega
   simp [-Int.natCast_add,-Int.natCast_mul,-Int.natCast_pow,v0c,G0h,G0i,G0j,G0k,G0l,g1,g5,g6,g13,g14,g15,hi,hia,hla,eA,s1,s2]
   generalize hD:c + A * 2 ^ n=D
   refine (a0r hx.1).mono ?_
   rintro _ G2 ⟨rfl,hx2⟩
   obtain ⟨s',G3,h1,h2,h3,h4⟩:=e0h (e2:=a0h) (new:=[.int .u32 ((D % 4294967296:Nat):Int)]) (c:=1) (bytes:=4) (ho.mono hx2) rfl rfl (by omega) (by omega) (by omega) (by have:=hx.1;have:=hx2.1;omega)
   simp [-Int.natCast_emod,-Int.natCast_add,h1,g1,g5,g6,g13,g14,g15,e9]
   have hDq:D / 4294967296 < 2 ^ n:=by
    rw [j1Z (by omega),← hD]
    have:(A + 1) * 2 ^ n≤4294967296 * 2 ^ n:=i1r _ hA3
    rw [i1D] at this
    rw [i1L (2 ^ n)];omega
   refine ⟨k - 1,by omega,i + 1,by omega,D / 4294967296,rfl,rfl,h4 _ (i1j _) (hx.trans hx2),out ++ [D % 4294967296],by simpa [b0Y] using h2,?_,by simp [hol],hDq,?_⟩
   ·intro x hx
    rcases i1F.1 hx with hx | hx
    ·exact hok x hx
    ·simp at hx;omega
   ·rw [c0e,hol,hA2,i1G,i1D,← hs]
    have e3:4294967296 ^ i * 4294967296 * (D / 4294967296)=4294967296 ^ i * (4294967296 * (D / 4294967296)):=i1z ..
    have e4:4294967296 ^ i * (D % 4294967296) + 4294967296 ^ i * (4294967296 * (D / 4294967296))=4294967296 ^ i * D:=by rw [← i1w,k1L]
    have e5:4294967296 ^ i * D=4294967296 ^ i * c + 4294967296 ^ i * A * 2 ^ n:=by rw [← hD,i1w,i1z]
    omega
  ·simp [v0c,g1,g5,g6,g13,g14,g15,hi]
   have:i=a.length:=by omega
   subst this
   refine ⟨c,rfl,hx,out,ho,hok,hol,hc,?_⟩
   rw [hs,i1v (i1j _)]
 ·clear hm w1 h0 ρ
  rintro t G' ⟨c,out,s,ht,g5,g6,hx,ho,hok,hol,hc,hs⟩
  obtain ⟨ρ,rfl⟩:=toT ht
  simp only [b0Q,Nat.reduceLT] at g5 g6
  simp [x0A,g5,g6]
  refine (a0r hx.1).mono ?_
  rintro _ G2 ⟨rfl,hx2⟩
  obtain ⟨s',G3,h1,h2,h3,h4⟩:=e0h (e2:=a0h) (new:=[.int .u32 ((c % 4294967296:Nat):Int)]) (c:=1) (bytes:=4) (ho.mono hx2) rfl rfl (by omega) (by omega) (by omega) (by have:=hx.1;have:=hx2.1;omega)
  simp [-Int.natCast_emod,-Int.natCast_add,h1]
  refine fun _=>⟨out ++ [c % 4294967296],by simpa [hol,b0Y] using h2,?_,?_,by simp [hol]⟩
  ·intro x hx
   rcases i1F.1 hx with hx | hx
   ·exact hok x hx
   ·simp at hx;omega
  ·rw [c0e,hol,i1K (by omega)];exact hs
theorem r0M {n A N A1 M:Nat} (hn:n < 32) (hA:A < 4294967296) (hN:N=A1 + 4294967296 * M) :
  (A + 4294967296 * N) / 2 ^ n=(A + A1 * 4294967296) / 2 ^ n % 4294967296 + 4294967296 * (N / 2 ^ n):=by
 have hB:(4294967296:Nat)=2 ^ n * 2 ^ (32 - n):=by rw [← k1h,show n + (32 - n)=32 by omega]
 have hP:=k1M n
 have hQ:=k1M (32 - n)
 generalize 2 ^ n=P at *
 generalize 2 ^ (32 - n)=Q at *
 have e1:(A + 4294967296 * N) / P=A / P + Q * N:=by rw [hB,i1z,Nat.add_mul_div_left _ _ hP]
 have e2:(A + A1 * 4294967296) / P=A / P + Q * A1:=by rw [i1L A1,hB,i1z,Nat.add_mul_div_left _ _ hP]
 have e3:N % P=A1 % P:=by rw [hN,hB,i1z,Nat.add_mul_mod_self_left]
 have e4:Q * N=4294967296 * (N / P) + Q * (A1 % P):=by
  have:=k1t N P
  rw [e3] at this
  calc Q * N=Q * (P * (N / P) + A1 % P):=by rw [this]
   _=_:=by rw [i1w,← i1z,i1L Q P,← hB]
 have e5:Q * A1=4294967296 * (A1 / P) + Q * (A1 % P):=by
  have:=k1t A1 P
  calc Q * A1=Q * (P * (A1 / P) + A1 % P):=by rw [this]
   _=_:=by rw [i1w,← i1z,i1L Q P,← hB]
 have h1:A / P < Q:=by rw [j1Z hP,i1L,← hB];exact hA
 have h2:Q * (A1 % P) + Q≤4294967296:=by
  have:=j1G A1 hP
  have:Q * (A1 % P + 1)≤Q * P:=i1N Q this
  rw [i1w,i1L Q P,← hB] at this
  omega
 rw [e1,e2,e4,e5]
 clear e1 e2 e3 e4 e5 hN
 generalize A / P=x at *
 generalize N / P=y at *
 generalize A1 / P=z at *
 generalize Q * (A1 % P)=q at *
 omega
theorem d0o {o:List Nat} {i z:Nat} (hlo:i < o.length):a0u (List.take (i + 1) (o.set i z))=a0u (List.take i o) + 4294967296 ^ i * z:=by
 rw [e0x (by simpa using hlo),c0e,j1m,List.length_set,j1g (by omega),List.take_set_of_le (by omega),i1h,j1F hlo,i1O]
theorem w0g {x y z s i q:Nat} (h:x=y + 4294967296 ^ i * z) (hs:y + 4294967296 ^ i * (z + 4294967296 * q)=s):x + 4294967296 ^ (i + 1) * q=s:=by
 rw [h,← hs,i1G,i1w,i1z,j1C]
theorem q0g {n:Nat} (ha:Lim H v a) (hf:fl≤H.size) (hna:a.length < 1073741824) (hn:n < 32) :
  a0S env fl A0U [v,.int .i64 (n:Int)] H (fun r H'=>(∃ o,Lim H' r o∧a0u o=a0u a / 2 ^ n∧o.length=a.length)∧Ext H H') R:=by
 refine a0g f1b hf (h:=?_)
 intro ρ h0
 simp only [M0d]
 have hm:=g0i (bytes:=4) (k:=.i64) (k':=.i64) (l:=a.length) (c:=a.length) (i1j _) (by omega) (by omega)
 simp [G0r,G0s,G0t,h0,ha.slen,hm]
 generalize hPd:H.size=P
 generalize hSL:Value.slice (some ⟨P,0,none⟩) a.length a.length=SL
 refine b0R (fun k t G'=>∃ i o,i + k=a.length∧t.length=44∧get t 0=v∧get t 1=.int .i64 (n:Int)∧get t 5=SL∧get t 12=.int .i64 a.length∧get t 13=.int .i64 ((i:Nat):Int) ∧
   Ext H G'∧a0e.blk G' P=.row false a0h (b0Y o)∧o.length=a.length∧b0a o∧a0u (o.take i) + 4294967296 ^ i * (a0u (a.drop i) / 2 ^ n)=a0u a / 2 ^ n)
  (fun t G'=>∃ o,t.length=44∧get t 5=SL ∧
   Ext H G'∧a0e.blk G' P=.row false a0h (b0Y o)∧o.length=a.length∧b0a o∧a0u o=a0u a / 2 ^ n) a.length ?_ ?_ ?_
 ·refine ⟨0,List.replicate a.length 0,by omega,by simp,by simp [h0],by simp [h0],by simp,by simp,by simp,Ext.push (Ext.refl _),?_,by simp,?_,by simp [a0u]⟩
  ·rw [← hPd,a0D]
   congr 1
   generalize a.length=n
   induction n with
   | zero=>rfl
   | succ n ih=>rw [e0G,ih];rfl
  ·intro z hz;rw [k1F] at hz;omega
 ·clear h0 ρ hm
  rintro k t G' ⟨i,o,hik,ht,g0,g1,g5,g12,g13,hx2,hb,hol,hok,hs⟩
  obtain ⟨ρ,rfl⟩:=toT ht
  simp only [b0Q,Nat.reduceLT] at g0 g1 g5 g12 g13
  by_cases hi:i < a.length
  ·have hla:=ha.load hi hx2
   have hia:=ha.ia (k:=.i64) hi
   have hA2:=f0P hi
   have hA3:a.getD i 0 < 4294967296:=ha.2 _ (by rw [i1h,i1m hi];exact i1p hi)
   generalize a.getD i 0=A at hla hA2 hA3
   have hlo:i < o.length:=by omega
   obtain ⟨hio,hro⟩:=f0u (k:=.i64) (cap:=a.length) hb hlo hol
   rw [hSL] at hio
   have eA:IntKind.u64.wrap (A:Int)=(A:Int):=by rw [a0x];omega
   have e9:IntKind.i64.wrap ((i:Int) + 1)=((i + 1:Nat):Int):=by rw [a0R (by omega) (by omega)];omega
   by_cases hi1:i + 1 < a.length
   ·have hla1:=ha.load hi1 hx2
    have hia1:=ha.ia (k:=.i64) hi1
    have hN:=f0P hi1
    have hA13:a.getD (i + 1) 0 < 4294967296:=ha.2 _ (by rw [i1h,i1m hi1];exact i1p hi1)
    generalize a.getD (i + 1) 0=A1 at hla1 hN hA13
    have eA1:IntKind.u64.wrap (A1:Int)=(A1:Int):=by rw [a0x];omega
    have s1:d0m 0 .shl (.int .u64 (A1:Int)) (.int .u64 32)=some (.int .u64 ((A1 * 4294967296:Nat):Int)):=by
     have:=J0g (tag:=0) (n:=A1) (s:=32) (k':=.u64) (by omega)
     rw [show A1 * 2 ^ 32 % 18446744073709551616=A1 * 4294967296 by omega] at this;exact this
    have s2:=Z0I (tag:=0) (a:=A) (b:=A1 * 4294967296) (by omega) (by omega)
    rw [show A ||| A1 * 4294967296=A + A1 * 4294967296 from u0e (s:=32) hA3] at s2
    have s3:=W0w (tag:=0) (n:=A + A1 * 4294967296) (s:=n) (k':=.i64) (by omega)
    simp [-Int.natCast_add,-Int.natCast_mul,-Int.natCast_pow,-Int.natCast_ediv,r0b,v0q,v0r,v0s,v0t,v0u,v0v,g0,g1,g5,g12,g13,hi,hi1,hia,hla,hia1,hla1,eA,eA1,e9,s1,s2,s3,ha.slen,hio]
    refine (a0r (by have:=hx2.1;omega)).mono ?_
    rintro _ G3 ⟨rfl,hx3⟩
    replace hb:=hx3.blk hb
    have hxx:=hx2.trans hx3
    have hPl:=a0i hb
    have hle:i + 1≤o.length:=hlo
    have hbl:=r0M hn hA3 hN
    simp [-Int.natCast_emod,-Int.natCast_ediv,-Int.natCast_add,hb,hle]
    have hz:(A + A1 * 4294967296) / 2 ^ n % 4294967296 < 4294967296:=j1G _ (by omega)
    rw [hA2,hbl] at hs
    generalize (A + A1 * 4294967296) / 2 ^ n % 4294967296=z at hs hz ⊢
    have hset:a0u (List.take (i + 1) (o.set i z))=a0u (List.take i o) + 4294967296 ^ i * z:=d0o hlo
    refine ⟨k - 1,by omega,i + 1,by omega,rfl,hxx.set (by omega),o.set i z,by rw [a0z hPl,d0I],by simp [hol],b0X hok hz,?_⟩
    exact w0g hset hs
   ·obtain ⟨A1,hA1⟩:∃ x:Nat,x=0:=⟨0,rfl⟩
    have hN:a0u (List.drop (i + 1) a)=A1 + 4294967296 * 0:=by rw [j1E (by omega),hA1];simp [a0u]
    have s3:d0m 0 .shr (.int .u64 (A:Int)) (.int .i64 (n:Int))=some (.int .u64 (((A + A1 * 4294967296) / 2 ^ n:Nat):Int)):=by
     rw [W0w (by omega),show A + A1 * 4294967296=A by rw [hA1];omega]
    clear hA1
    simp [-Int.natCast_add,-Int.natCast_mul,-Int.natCast_pow,-Int.natCast_ediv,r0b,v0q,v0r,v0s,v0t,v0u,v0v,g0,g1,g5,g12,g13,hi,hi1,hia,hla,eA,e9,s3,ha.slen,hio]
    refine (a0r (by have:=hx2.1;omega)).mono ?_
    rintro _ G3 ⟨rfl,hx3⟩
    replace hb:=hx3.blk hb
    have hxx:=hx2.trans hx3
    have hPl:=a0i hb
    have hle:i + 1≤o.length:=hlo
    have hbl:=r0M hn hA3 hN
    simp [-Int.natCast_emod,-Int.natCast_ediv,-Int.natCast_add,hb,hle]
    have hz:(A + A1 * 4294967296) / 2 ^ n % 4294967296 < 4294967296:=j1G _ (by omega)
    rw [hA2,hbl] at hs
    generalize (A + A1 * 4294967296) / 2 ^ n % 4294967296=z at hs hz ⊢
    have hset:a0u (List.take (i + 1) (o.set i z))=a0u (List.take i o) + 4294967296 ^ i * z:=d0o hlo
    refine ⟨k - 1,by omega,i + 1,by omega,rfl,hxx.set (by omega),o.set i z,by rw [a0z hPl,d0I],by simp [hol],b0X hok hz,?_⟩
    exact w0g hset hs
  ·simp [r0b,g0,g1,g5,g12,g13,hi]
   have:i=a.length:=by omega
   subst this
   refine ⟨hx2,o,hb,hol,hok,?_⟩
   rw [i1v (by omega),j1E (i1j _)] at hs
   simpa [a0u] using hs
 ·clear h0 ρ hm
  rintro t G' ⟨o,ht,g5,hx2,hb,hol,hok,hs⟩
  obtain ⟨ρ,rfl⟩:=toT ht
  simp only [b0Q,Nat.reduceLT] at g5
  have hy:Lim G' SL o:=by
   rw [← hSL,← hol]
   exact ⟨(Own.mk (fl:=0) hb (by simp) (j1l _)).sl,hok⟩
  simp [x0C,g5]
  exact fun _=>⟨o,hy,hs,hol⟩
end
section
open Go
set_option maxHeartbeats 4000000
variable {fl:Nat} {H G:a0e} {R:a0E} {v w:Value} {a b:List Nat} {K:n0H}
theorem A0u {E:Env} {f:FuncId} {args:List Value} {sf:v0W} (hc:E.code f=some sf) (hl:args.length=sf.np:=by rfl) (hnt:args.length≤sf.nt:=by exact of_decide_eq_true rfl)
  (h:∀ ρ:Nat→Value,(∀ i,ρ i=args.getD i undef)→W E fl sf.body (T sf.nt ρ) H (Y0E (fun t' H'=>z0w H' t' sf.res fun v=>K v H')) R) :
  a0S E fl f args H K R :=
 p0O (K:=K) hc hl hnt (fun t h1 h2=>by
  have h3:=h (get t) h2
  rw [← J0G h1] at h3
  refine h3.mono fun e t' H' hq=>?_
  cases e with
  | exit i=>exact i1A hq id
  | normal=>exact ⟨trivial,hq⟩
  | ret=>exact ⟨trivial,hq⟩)
@[simp] theorem a1G {t:b0b} {P:Value→Prop}:z0w H t [] P=P (.tuple #[]):=by simp [z0w,e0O,d0v]
theorem d0l.refl {o:Option Nat}:d0l o H H:=(Ext.refl H).extB
theorem d0l.trans {o:Option Nat} {H1 H2 H3:a0e} (h:d0l o H1 H2) (k:d0l o H2 H3):d0l o H1 H3 :=
 ⟨i1t h.1 k.1,fun b hb hne=>(k.2 b (i1C hb h.1) hne).trans (h.2 b hb hne)⟩
theorem d0l.set {p:Nat} {r:Blk} (h:d0l (some p) H G):d0l (some p) H (G.setIfInBounds p r) :=
 ⟨by have:=h.1;simpa using this,fun b hb hne=>by rw [a0W (by simpa using hne)];exact h.2 b hb hne⟩
theorem d0l.ext {p:Nat} {H0:a0e} (h:d0l (some p) H G) (hp:H0.size≤p) (h0:Ext H0 H):Ext H0 G :=
 ⟨i1t h0.1 h.1,fun b hb=>(h.2 b (i1C hb h0.1) (by simp;omega)).trans (h0.2 b hb)⟩
theorem Sl.off {e sz n p:Nat} {cs:List Value} (h:Sl H e sz v n cs) (hx:d0l (some p) H G) (hne:slB v ≠ some p):Sl G e sz v n cs:=by
 obtain ⟨hl,h | ⟨b,off,cap,ro,cells,rfl,hb,ho,hcs⟩⟩:=h
 ·exact ⟨hl,.inl h⟩
 ·exact ⟨hl,.inr ⟨b,off,cap,ro,cells,rfl,by rw [hx.2 b (a0i hb) (fun h=>hne (by simp only [slB];exact h.symm))];exact hb,ho,hcs⟩⟩
theorem Lim.off {p:Nat} (h:Lim H v a) (hx:d0l (some p) H G) (hne:slB v ≠ some p):Lim G v a:=⟨h.1.off hx hne,h.2⟩
def win (L:List Nat) (o:Nat):Nat→Nat
 | 0=>0
 | i + 1=>win L o i + 4294967296 ^ i * L.getD (o + i) 0
theorem j0W {L L':List Nat} {o:Nat}:∀ {i:Nat},(∀ j,j < i→L.getD (o + j) 0=L'.getD (o + j) 0)→win L o i=win L' o i
 | 0,_=>rfl
 | i + 1,h=>by rw [win,win,j0W (fun j hj=>h j (by omega)),h i (by omega)]
theorem W0O {L:List Nat} {o i j z:Nat} (h:o + i≤j):win (L.set j z) o i=win L o i :=
 j0W fun k hk=>b0L (by omega)
theorem b0Z {L:List Nat} (h:b0a L) (i:Nat):L.getD i 0 < 4294967296:=by
 rw [i1h]
 by_cases hi:i < L.length
 ·rw [i1m hi];exact h _ (i1p hi)
 ·rw [i1s (by omega)];simp
theorem l0c {L:List Nat} (h:b0a L) (o:Nat):∀ i,win L o i < 4294967296 ^ i
 | 0=>by simp [win]
 | i + 1=>by
  rw [win,i1G]
  have h1:=l0c h o i
  have h2:=b0Z h (o + i)
  have:4294967296 ^ i * (L.getD (o + i) 0 + 1)≤4294967296 ^ i * 4294967296:=i1N _ h2
  rw [i1w,j1s] at this
  omega
theorem h0U {L:List Nat}:∀ {i:Nat},i≤L.length→a0u (L.take i)=win L 0 i
 | 0,_=>by simp [a0u,win]
 | i + 1,h=>by rw [a0P (by omega),h0U (by omega),win,i1P]
theorem k0H {L:List Nat} {n:Nat} (h:L.length≤n):win L 0 n=a0u L:=by
 obtain ⟨k,rfl⟩:∃ k,n=L.length + k:=⟨n - L.length,by omega⟩
 clear h
 induction k with
 | zero=>rw [j1p,← h0U (i1j _),i1x]
 | succ k ih=>rw [← j1C,win,ih,i1h,i1s (by omega)];simp
theorem m0o {e p o n cap:Nat} {L:List Nat} (hb:G.blk p=.row false e (b0Y L)) (hL:o + n≤L.length) {k:IntKind} {z:Nat} (hz:z < n) :
  iaV 1 (.slice (some ⟨p,o,none⟩) n cap) (.int k (z:Int))=some (.pointer (some ⟨p,o + z,none⟩))∧rd (G.blk p) (o + z)=some (.int .u32 ((L.getD (o + z) 0:Nat):Int)):=by
 refine ⟨?_,?_⟩
 ·simp only [iaV];rw [i1n (by omega)];simp
 ·rw [hb];simp [b0Y,i1h,show o + z < L.length by omega]
theorem t0s {x y u v g c t ch cm bo B P:Nat} (h:x + g * y=u + c * P) (ht:t=c + v * g) (hc:t=ch * B + cm) {z w:Nat} (hz:z + cm=w + bo * B) :
  (x + P * z) + g * (y + P * v)=(u + P * w) + (ch + bo) * (P * B):=by
 have h1:P * z + P * cm=P * w + P * (bo * B):=by rw [← i1w,hz,i1w]
 have h2:P * (c + v * g)=P * (ch * B) + P * cm:=by rw [← ht,hc,i1w]
 rw [i1w] at h2 ⊢
 rw [i1D]
 have e1:g * (P * v)=P * (v * g):=by grind
 have e2:ch * (P * B)=P * (ch * B):=by grind
 have e3:bo * (P * B)=P * (bo * B):=by grind
 have e4:c * P=P * c:=by grind
 omega
theorem s0j {x y u v c t ch cm B P w:Nat} (h:x + c * P=u + y) (ht:t=c + w + v) (hc:t=ch * B + cm) :
  (x + P * cm) + ch * (P * B)=(u + P * w) + (y + P * v):=by
 have h2:P * (c + w + v)=P * (ch * B) + P * cm:=by rw [← ht,hc,i1w]
 rw [i1w,i1w] at h2
 have e2:ch * (P * B)=P * (ch * B):=by grind
 have e4:c * P=P * c:=by grind
 omega
def Won (L X:List Nat) (o i:Nat):Prop:=X.length=L.length∧b0a X∧∀ j,j < o ∨ o + i≤j→X.getD j 0=L.getD j 0
theorem Won.zero {L:List Nat} {o:Nat} (h:b0a L):Won L L o 0:=⟨rfl,h,fun _ _=>rfl⟩
theorem Won.step {L X:List Nat} {o i z:Nat} (h:Won L X o i) (hz:z < 4294967296):Won L (X.set (o + i) z) o (i + 1) :=
 ⟨by simp [h.1],b0X h.2.1 hz,fun j hj=>by rw [b0L (by omega)];exact h.2.2 j (by omega)⟩
theorem Won.win {L X:List Nat} {o i z:Nat} (h:Won L X o i) (hi:o + i < L.length):AI.win (X.set (o + i) z) o (i + 1)=AI.win X o i + 4294967296 ^ i * z:=by
 rw [AI.win,W0O (by omega),i1h,j1F (by rw [h.1];exact hi)];rfl
theorem q0k {L:List Nat} {p o n cap g:Nat} (hb:H.blk p=.row false a0h (b0Y L)) (hok:b0a L) (hL:o + n≤L.length) (hv:Lim H v a) (hne:slB v ≠ some p) (hf:fl≤p) (hg:g < 4294967296) (hn:n < 1073741824) (ha:a.length≤n) :
  a0S env fl A0S [.slice (some ⟨p,o,none⟩) n cap,v,.int .u64 (g:Int)] H (fun r G=>∃ X c,r=.bool (c != 0)∧G.blk p=.row false a0h (b0Y X)∧d0l (some p) H G∧Won L X o n∧win X o n + g * a0u a=win L o n + c * 4294967296 ^ n) R:=by
 refine A0u e1Z (h:=?_)
 intro ρ h0
 simp only [M0b]
 simp [G0m,G0n,G0o,h0,g0Z]
 generalize hSL:Value.slice (some ⟨p,o,none⟩) n cap=SL
 refine b0R (fun k t G=>∃ i c X,i + k=n∧t.length=49∧get t 0=SL∧get t 1=v∧get t 2=.int .u64 ((g:Nat):Int)∧get t 7=.int .u64 ((c:Nat):Int)∧get t 11=.int .i64 n∧get t 12=.int .i64 ((i:Nat):Int) ∧
   G.blk p=.row false a0h (b0Y X)∧d0l (some p) H G∧Won L X o i∧c≤4294967296∧win X o i + g * win a 0 i=win L o i + c * 4294967296 ^ i)
  (fun t G=>∃ c X,t.length=49∧get t 7=.int .u64 ((c:Nat):Int)∧G.blk p=.row false a0h (b0Y X)∧d0l (some p) H G∧Won L X o n∧win X o n + g * win a 0 n=win L o n + c * 4294967296 ^ n) n ?_ ?_ ?_
 ·exact ⟨0,0,L,by omega,by simp,by simp [h0,hSL],by simp [h0],by simp [h0],by simp,by simp,by simp,hb,d0l.refl,Won.zero hok,by omega,by simp [win]⟩
 ·clear h0 ρ
  rintro k t G ⟨i,c,X,hik,ht,g0,g1,g2,g7,g11,g12,hX,hx,hw,hc,hs⟩
  obtain ⟨ρ,rfl⟩:=toT ht
  simp only [b0Q,Nat.reduceLT] at g0 g1 g2 g7 g11 g12
  by_cases hi:i < n
  ·have e9:IntKind.i64.wrap ((i:Int) + 1)=((i + 1:Nat):Int):=by rw [a0R (by omega) (by omega)];omega
   obtain ⟨hi1,hi2⟩:=m0o (k:=.i64) (cap:=cap) hX (by rw [hw.1];exact hL) hi
   rw [hSL] at hi1
   have hXl:X.getD (o + i) 0=L.getD (o + i) 0:=hw.2.2 _ (by omega)
   have hA:=b0Z hok (o + i)
   rw [hXl] at hi2
   have hLw:win L o (i + 1)=win L o i + 4294967296 ^ i * L.getD (o + i) 0:=rfl
   have haw:win a 0 (i + 1)=win a 0 i + 4294967296 ^ i * a.getD i 0:=by rw [win,i1P]
   generalize L.getD (o + i) 0=A at hi2 hA hLw
   have eA:IntKind.u64.wrap (A:Int)=(A:Int):=by rw [a0x];omega
   have hv':=hv.off hx hne
   have hV:=b0Z hv.ok i
   by_cases hia:i < a.length
   ·have hla:=hv'.load hia (Ext.refl _)
    have hia2:=hv'.ia (k:=.i64) hia
    generalize a.getD i 0=V at hla haw hV
    have eV:IntKind.u64.wrap (V:Int)=(V:Int):=by rw [a0x];omega
    have hVg:V * g≤4294967295 * 4294967295:=j1f (by omega) (by omega)
    have e1:IntKind.u64.wrap ((V:Int) * (g:Int))=((V * g:Nat):Int):=by rw [a0x,← j1I];omega
    have e2:IntKind.u64.wrap ((c:Int) + ((V * g:Nat):Int))=((c + V * g:Nat):Int):=by rw [a0x,← Int.natCast_add];omega
    have e3:=Y0h (tag:=0) (a:=c + V * g)
    simp [-Int.natCast_add,-Int.natCast_mul,-Int.natCast_ediv,-Int.natCast_emod,q0Z,v0d,v0e,v0f,v0g,v0h,v0i,q0Y,g0,g1,g2,g7,g11,g12,hi,hv'.slen,hia,hia2,hla,eV,e1,e2,hi1,hi2,e3,eA]
    generalize hD:c + V * g=D at *
    have hDD:D=(D / 4294967296) * 4294967296 + D % 4294967296:=(l1a D 4294967296).symm
    have hcm:=j1G D (show 0 < 4294967296 by omega)
    generalize D / 4294967296=ch at *
    generalize D % 4294967296=cm at *
    have hbo:IntKind.u64.wrap ((A:Int) - (cm:Int))=((if cm≤A then A - cm else A + 18446744073709551616 - cm:Nat):Int):=by rw [a0x];split <;> omega
    have hchb:ch≤4294967295:=by omega
    obtain ⟨bo,z,q,hbq,hz1,hz2,hq1,hq2,hq3⟩:∃ bo z q:Nat,(if cm≤A then A - cm else A + 18446744073709551616 - cm:Nat)=q∧z + cm=A + bo * 4294967296∧z < 4294967296∧q % 4294967296=z∧q / 9223372036854775808=bo∧bo≤1:=by
     by_cases h:cm≤A
     ·exact ⟨0,A - cm,A - cm,by rw [i1n h],by omega,by omega,by omega,by omega,by omega⟩
     ·exact ⟨1,A + 4294967296 - cm,A + 18446744073709551616 - cm,by rw [i1k h],by omega,by omega,by omega,by omega,by omega⟩
    have e8:IntKind.u64.wrap ((ch:Int) + (bo:Int))=((ch + bo:Nat):Int):=by rw [a0x];omega
    rw [hbq] at hbo
    simp [-Int.natCast_add,-Int.natCast_mul,-Int.natCast_ediv,-Int.natCast_emod,hbo,g0,g7,g11,g12]
    refine (a0r (by have:=a0i hX;omega)).mono ?_
    rintro _ G3 ⟨rfl,hx3⟩
    rw [hq1,hq2]
    have hX3:=hx3.blk hX
    have hpl:=a0i hX3
    have hle:o + i + 1≤X.length:=by rw [hw.1];omega
    simp [-Int.natCast_add,-Int.natCast_mul,-Int.natCast_ediv,-Int.natCast_emod,hi1,hX3,hle,hf,e8,e9]
    refine ⟨k - 1,by omega,i + 1,by omega,ch + bo,rfl,rfl,X.set (o + i) z,by rw [a0z hpl,d0I],(hx.trans hx3.extB).set,hw.step hz2,by omega,?_⟩
    rw [hw.win (by omega),haw,hLw,i1G]
    exact t0s hs hD.symm hDD hz1
   ·have hV0:a.getD i 0=0:=by rw [i1h,i1s (by omega)];rfl
    rw [hV0] at haw
    obtain ⟨V,hV⟩:∃ V,V=0:=⟨0,rfl⟩
    replace haw:win a 0 (i + 1)=win a 0 i + 4294967296 ^ i * V:=by rw [haw,hV]
    have hVg:V * g=0:=by rw [hV,l1q]
    have e3:=Y0h (tag:=0) (a:=c)
    have ec:c=c + V * g:=by omega
    rw [ec] at e3 g7
    have hDb:c + V * g≤4294967296:=by omega
    simp [-Int.natCast_add,-Int.natCast_mul,-Int.natCast_ediv,-Int.natCast_emod,q0Z,v0d,v0e,v0f,v0g,v0h,v0i,q0Y,g0,g1,g2,g7,g11,g12,hi,hv'.slen,hia,hi1,hi2,e3,eA]
    generalize hD:c + V * g=D at *
    have hDD:D=(D / 4294967296) * 4294967296 + D % 4294967296:=(l1a D 4294967296).symm
    have hcm:=j1G D (show 0 < 4294967296 by omega)
    generalize D / 4294967296=ch at *
    generalize D % 4294967296=cm at *
    have hbo:IntKind.u64.wrap ((A:Int) - (cm:Int))=((if cm≤A then A - cm else A + 18446744073709551616 - cm:Nat):Int):=by rw [a0x];split <;> omega
    have hchb:ch≤4294967295:=by omega
    obtain ⟨bo,z,q,hbq,hz1,hz2,hq1,hq2,hq3⟩:∃ bo z q:Nat,(if cm≤A then A - cm else A + 18446744073709551616 - cm:Nat)=q∧z + cm=A + bo * 4294967296∧z < 4294967296∧q % 4294967296=z∧q / 9223372036854775808=bo∧bo≤1:=by
     by_cases h:cm≤A
     ·exact ⟨0,A - cm,A - cm,by rw [i1n h],by omega,by omega,by omega,by omega,by omega⟩
     ·exact ⟨1,A + 4294967296 - cm,A + 18446744073709551616 - cm,by rw [i1k h],by omega,by omega,by omega,by omega,by omega⟩
    have e8:IntKind.u64.wrap ((ch:Int) + (bo:Int))=((ch + bo:Nat):Int):=by rw [a0x];omega
    rw [hbq] at hbo
    simp [-Int.natCast_add,-Int.natCast_mul,-Int.natCast_ediv,-Int.natCast_emod,hbo,g0,g7,g11,g12]
    refine (a0r (by have:=a0i hX;omega)).mono ?_
    rintro _ G3 ⟨rfl,hx3⟩
    rw [hq1,hq2]
    have hX3:=hx3.blk hX
    have hpl:=a0i hX3
    have hle:o + i + 1≤X.length:=by rw [hw.1];omega
    simp [-Int.natCast_add,-Int.natCast_mul,-Int.natCast_ediv,-Int.natCast_emod,hi1,hX3,hle,hf,e8,e9]
    refine ⟨k - 1,by omega,i + 1,by omega,ch + bo,rfl,rfl,X.set (o + i) z,by rw [a0z hpl,d0I],(hx.trans hx3.extB).set,hw.step hz2,by omega,?_⟩
    rw [hw.win (by omega),haw,hLw,i1G]
    exact t0s hs hD.symm hDD hz1
  ·simp [q0Z,g0,g1,g2,g7,g11,g12,hi]
   have:i=n:=by omega
   subst this
   exact ⟨c,rfl,X,hX,hx,hw,hs⟩
 ·clear h0 ρ
  rintro t G ⟨c,X,ht,g7,hX,hx,hw,hs⟩
  obtain ⟨ρ,rfl⟩:=toT ht
  simp only [b0Q,Nat.reduceLT] at g7
  simp [x0B,g7]
  refine ⟨X,c,rfl,hX,hx,hw,?_⟩
  rw [← hs]
  congr 2
  rw [k0H ha]
theorem q0h {L:List Nat} {p o n cap:Nat} (hb:H.blk p=.row false a0h (b0Y L)) (hok:b0a L) (hL:o + n≤L.length) (hv:Lim H v a) (hne:slB v ≠ some p) (hf:fl≤p) (hn:n < 1073741824) (ha:a.length≤n) :
  a0S env fl A0T [.slice (some ⟨p,o,none⟩) n cap,v] H (fun _ G=>∃ X c,G.blk p=.row false a0h (b0Y X)∧d0l (some p) H G∧Won L X o n∧win X o n + c * 4294967296 ^ n=win L o n + a0u a) R:=by
 refine A0u f1a (h:=?_)
 intro ρ h0
 simp only [M0c]
 simp [G0p,G0q,h0,g0Z]
 generalize hSL:Value.slice (some ⟨p,o,none⟩) n cap=SL
 refine M0L (fun k t G=>∃ i c X,i + k=n∧t.length=37∧get t 0=SL∧get t 1=v∧get t 4=.int .u64 ((c:Nat):Int)∧get t 7=.int .i64 n∧get t 8=.int .i64 ((i:Nat):Int) ∧
   G.blk p=.row false a0h (b0Y X)∧d0l (some p) H G∧Won L X o i∧c≤1∧win X o i + c * 4294967296 ^ i=win L o i + win a 0 i) ?_ n ?_
 ·clear h0 ρ
  rintro k t G ⟨i,c,X,hik,ht,g0,g1,g4,g7,g8,hX,hx,hw,hc,hs⟩
  obtain ⟨ρ,rfl⟩:=toT ht
  simp only [b0Q,Nat.reduceLT] at g0 g1 g4 g7 g8
  by_cases hi:i < n
  ·have e9:IntKind.i64.wrap ((i:Int) + 1)=((i + 1:Nat):Int):=by rw [a0R (by omega) (by omega)];omega
   obtain ⟨hi1,hi2⟩:=m0o (k:=.i64) (cap:=cap) hX (by rw [hw.1];exact hL) hi
   rw [hSL] at hi1
   have hXl:X.getD (o + i) 0=L.getD (o + i) 0:=hw.2.2 _ (by omega)
   have hA:=b0Z hok (o + i)
   rw [hXl] at hi2
   have hLw:win L o (i + 1)=win L o i + 4294967296 ^ i * L.getD (o + i) 0:=rfl
   have haw:win a 0 (i + 1)=win a 0 i + 4294967296 ^ i * a.getD i 0:=by rw [win,i1P]
   generalize L.getD (o + i) 0=A at hi2 hA hLw
   have eA:IntKind.u64.wrap (A:Int)=(A:Int):=by rw [a0x];omega
   have e1:IntKind.u64.wrap ((c:Int) + (A:Int))=((c + A:Nat):Int):=by rw [a0x];omega
   have hv':=hv.off hx hne
   have hV:=b0Z hv.ok i
   by_cases hia:i < a.length
   ·have hla:=hv'.load hia (Ext.refl _)
    have hia2:=hv'.ia (k:=.i64) hia
    generalize a.getD i 0=V at hla haw hV
    have eV:IntKind.u64.wrap (V:Int)=(V:Int):=by rw [a0x];omega
    have e2:IntKind.u64.wrap (((c + A:Nat):Int) + (V:Int))=((c + A + V:Nat):Int):=by rw [a0x];omega
    simp [-Int.natCast_add,-Int.natCast_mul,-Int.natCast_ediv,-Int.natCast_emod,r0a,v0j,v0k,v0l,v0m,v0n,v0o,v0p,g0,g1,g4,g7,g8,hi,hv'.slen,hia,hia2,hla,eV,e1,e2,hi1,hi2,eA]
    generalize hD:c + A + V=D at *
    have hDD:D=(D / 4294967296) * 4294967296 + D % 4294967296:=(l1a D 4294967296).symm
    have hcm:=j1G D (show 0 < 4294967296 by omega)
    refine (a0r (by have:=a0i hX;omega)).mono ?_
    rintro _ G3 ⟨rfl,hx3⟩
    generalize D / 4294967296=ch at *
    generalize D % 4294967296=cm at *
    have hX3:=hx3.blk hX
    have hpl:=a0i hX3
    have hle:o + i + 1≤X.length:=by rw [hw.1];omega
    simp [-Int.natCast_add,-Int.natCast_mul,-Int.natCast_ediv,-Int.natCast_emod,hi1,hX3,hle,hf,e9]
    refine ⟨k - 1,by omega,i + 1,by omega,ch,rfl,rfl,X.set (o + i) cm,by rw [a0z hpl,d0I],(hx.trans hx3.extB).set,hw.step hcm,by omega,?_⟩
    rw [hw.win (by omega),haw,hLw,i1G]
    exact s0j hs hD.symm hDD
   ·have hV0:a.getD i 0=0:=by rw [i1h,i1s (by omega)];rfl
    rw [hV0] at haw
    obtain ⟨V,hV⟩:∃ V,V=0:=⟨0,rfl⟩
    replace haw:win a 0 (i + 1)=win a 0 i + 4294967296 ^ i * V:=by rw [haw,hV]
    have e1':IntKind.u64.wrap ((c:Int) + (A:Int))=((c + A + V:Nat):Int):=by rw [e1,hV];rfl
    simp [-Int.natCast_add,-Int.natCast_mul,-Int.natCast_ediv,-Int.natCast_emod,r0a,v0j,v0k,v0l,v0m,v0n,v0o,v0p,g0,g1,g4,g7,g8,hi,hv'.slen,hia,hi1,hi2,e1',eA]
    generalize hD:c + A + V=D at *
    have hDD:D=(D / 4294967296) * 4294967296 + D % 4294967296:=(l1a D 4294967296).symm
    have hcm:=j1G D (show 0 < 4294967296 by omega)
    refine (a0r (by have:=a0i hX;omega)).mono ?_
    rintro _ G3 ⟨rfl,hx3⟩
    generalize D / 4294967296=ch at *
    generalize D % 4294967296=cm at *
    have hX3:=hx3.blk hX
    have hpl:=a0i hX3
    have hle:o + i + 1≤X.length:=by rw [hw.1];omega
    simp [-Int.natCast_add,-Int.natCast_mul,-Int.natCast_ediv,-Int.natCast_emod,hi1,hX3,hle,hf,e9]
    refine ⟨k - 1,by omega,i + 1,by omega,ch,rfl,rfl,X.set (o + i) cm,by rw [a0z hpl,d0I],(hx.trans hx3.extB).set,hw.step hcm,by omega,?_⟩
    rw [hw.win (by omega),haw,hLw,i1G]
    exact s0j hs hD.symm hDD
  ·simp [r0a,g0,g1,g4,g7,g8,hi]
   have:i=n:=by omega
   subst this
   exact ⟨X,hX,hx,hw,c,by rw [hs,k0H ha]⟩
 ·exact ⟨0,0,L,by omega,by simp,by simp [h0,hSL],by simp [h0],by simp,by simp,by simp,hb,d0l.refl,Won.zero hok,by omega,by simp [win]⟩
end
section
open Go
theorem d0E {L:List Nat} {o i:Nat}:∀ {j:Nat},win L o (i + j)=win L o i + 4294967296 ^ i * win L (o + i) j
 | 0=>by simp [win]
 | j + 1=>by
  rw [← j1C,win,d0E,win,i1w,← i1z,← k1h,j1C o i j,j1C]
theorem W0P {L:List Nat} {o k:Nat} (hk:2≤k):win L o (k + 1)=win L o (k - 2) + 4294967296 ^ (k - 2) * ((L.getD (o + k) 0 * 4294967296 + L.getD (o + (k - 1)) 0) * 4294967296 + L.getD (o + (k - 2)) 0):=by
 obtain ⟨j,rfl⟩:∃ j,k=j + 2:=⟨k - 2,by omega⟩
 rw [show j + 2 - 2=j by omega,show j + 2 + 1=j + 3 by omega,d0E,show j + 2 - 1=j + 1 by omega]
 congr 2
 simp only [win]
 rw [show o + j + 0=o + j by omega,show o + j + 1=o + (j + 1) by omega,show o + j + 2=o + (j + 2) by omega]
 omega
theorem M0G {L:List Nat} {o k:Nat} (hk:2≤k):win L o k=win L o (k - 2) + 4294967296 ^ (k - 2) * (L.getD (o + (k - 1)) 0 * 4294967296 + L.getD (o + (k - 2)) 0):=by
 obtain ⟨j,rfl⟩:∃ j,k=j + 2:=⟨k - 2,by omega⟩
 rw [show j + 2 - 2=j by omega,d0E,show j + 2 - 1=j + 1 by omega]
 congr 2
 simp only [win]
 rw [show o + j + 0=o + j by omega,show o + j + 1=o + (j + 1) by omega]
 omega
structure Gs (W low lowV Uw V x u3 top next B:Nat):Prop where
 W0:0 < W
 hlow:low < W
 hlowV:lowV < W
 hU:Uw=low + W * (x * B + u3)
 hV:V=lowV + W * (top * B + next)
 hB:B≤2 * top
 htop:top < B
 hnext:next < B
 hu3:u3 < B
 lt:Uw < V * B
variable {W low lowV Uw V x u3 top next B g rest q:Nat}
theorem Gs.V0 (h:Gs W low lowV Uw V x u3 top next B):0 < V:=by
 rw [h.hV]
 have h1:0 < top:=by have:=h.hB;have:=h.htop;omega
 have h2:0 < B:=by have:=h.htop;omega
 have:=Nat.mul_pos h.W0 (show 0 < top * B + next by have:=Nat.mul_pos h1 h2;omega)
 omega
theorem Gs.V_lt (h:Gs W low lowV Uw V x u3 top next B):V < W * (top * B + next + 1):=by
 rw [h.hV,i1w W (top * B + next) 1,j1s];have:=h.hlowV;omega
theorem Gs.U_lt (h:Gs W low lowV Uw V x u3 top next B):Uw < W * (x * B + u3 + 1):=by
 rw [h.hU,i1w W (x * B + u3) 1,j1s];have:=h.hlow;omega
theorem Gs.V_ge (h:Gs W low lowV Uw V x u3 top next B):W * (top * B + next)≤V:=by rw [h.hV];omega
theorem Gs.U_ge (h:Gs W low lowV Uw V x u3 top next B):W * (x * B + u3)≤Uw:=by rw [h.hU];omega
theorem Gs.q_lt (h:Gs W low lowV Uw V x u3 top next B):Uw / V < B:=by
 rw [j1Z h.V0,i1L];exact h.lt
theorem Gs.q_le (h:Gs W low lowV Uw V x u3 top next B):Uw / V≤x / top:=by
 have h1:0 < top:=by have:=h.hB;have:=h.htop;omega
 rw [Nat.le_div_iff_mul_le h1]
 have h2:=Nat.div_mul_le_self Uw V
 generalize Uw / V=q at *
 have h3:W * (q * (top * B))≤q * V:=by
  calc W * (q * (top * B))≤W * (q * (top * B + next)):=i1N _ (i1N _ (by omega))
   _=q * (W * (top * B + next)):=by grind
   _≤q * V:=i1N _ h.V_ge
 have h4:=h.U_lt
 have h5:q * (top * B) < x * B + u3 + 1:=j1L (a:=W) (by omega)
 have h6:=h.hu3
 have h7:q * top * B < (x + 1) * B:=by rw [i1z,i1D];omega
 have:=k1S h7
 omega
theorem Gs.x_lt (h:Gs W low lowV Uw V x u3 top next B):x < top * B + B:=by
 have h1:=h.U_ge
 have h2:=h.lt
 have h3:=h.V_lt
 have hB:0 < B:=by have:=h.htop;omega
 have h4:W * (x * B + u3) < W * ((top * B + next + 1) * B):=by
  have:V * B≤W * (top * B + next + 1) * B:=i1r _ (by omega)
  rw [i1z] at this;omega
 have h5:=j1L h4
 have h6:x * B < (top * B + next + 1) * B:=by omega
 have:=k1S h6
 have:=h.hnext
 omega
theorem Gs.down (h:Gs W low lowV Uw V x u3 top next B) (hx:g * top + rest=x) (hq:Uw / V≤g) (hc:B≤g ∨ rest * B + u3 < g * next):Uw / V≤g - 1∧0 < g:=by
 have h1:=h.q_lt
 have hB:0 < B:=by have:=h.htop;omega
 rcases hc with hc | hc
 ·omega
 ·have hne:Uw / V ≠ g:=by
   intro he
   have h2:=Nat.div_mul_le_self Uw V
   rw [he] at h2
   have h3:W * (g * (top * B + next))≤g * V:=by
    calc W * (g * (top * B + next))=g * (W * (top * B + next)):=by grind
     _≤g * V:=i1N _ h.V_ge
   have h4:=h.U_lt
   have h5:g * (top * B + next) < x * B + u3 + 1:=j1L (a:=W) (by omega)
   rw [← hx,i1D,i1w,← i1z] at h5
   omega
  generalize Uw / V=q at *
  omega
theorem Gs.fine (h:Gs W low lowV Uw V x u3 top next B) (hx:g * top + rest=x) (hg:g < B) (hc:g * next≤rest * B + u3):g≤Uw / V + 1:=by
 by_cases hgq:g≤Uw / V + 1
 ·exact hgq
 ·exfalso
  have hgq2:Uw / V + 1≤g - 1:=by generalize Uw / V=q at *;omega
  have h1:Uw < (Uw / V + 1) * V:=by
   have:=k1t Uw V
   have h2:=j1G Uw h.V0
   rw [i1D,i1L (Uw / V)];omega
  have h2:(Uw / V + 1) * V≤(g - 1) * V:=i1r _ hgq2
  have h3:(g - 1) * V≤(g - 1) * (W * (top * B + next + 1)):=i1N _ (by have:=h.V_lt;omega)
  have h4:=h.U_ge
  have h5:W * (x * B + u3) < W * ((g - 1) * (top * B + next + 1)):=by
   have:(g - 1) * (W * (top * B + next + 1))=W * ((g - 1) * (top * B + next + 1)):=by grind
   omega
  have h6:=j1L h5
  obtain ⟨g1,rfl⟩:∃ g1,g=g1 + 1:=⟨g - 1,by generalize Uw / V=q at *;omega⟩
  rw [show g1 + 1 - 1=g1 by omega] at h6
  have h7:(g1 + 1) * (top * B + next)≤x * B + u3:=by
   rw [← hx,i1D ((g1 + 1) * top),i1w (g1 + 1),← i1z];omega
  have h8:top * B + next < g1:=by
   rw [i1D,i1W] at h7
   rw [i1w,j1s] at h6
   omega
  have h9:B≤top * B:=Nat.le_mul_of_pos_left _ (by have:=h.hB;have:=h.htop;omega)
  omega
theorem J0s {X c P:Nat} (h:Gs W low lowV Uw V x u3 top next B) (h1:Uw / V≤g) (h2:g≤Uw / V + 1) (hs:X + g * V=Uw + c * P) (hX:X < P) (hP:V < P) :
  (c=0→g=Uw / V∧X=Uw % V)∧(c ≠ 0→g=Uw / V + 1∧∀ X' c',X' + c' * P=X + V→X' < P→X' = Uw % V):=by
 have hd:=k1t Uw V
 have hm:=j1G Uw h.V0
 generalize Uw / V=q at *
 generalize Uw % V=r at *
 refine ⟨fun hc=>?_,fun hc=>?_⟩
 ·subst hc
  rw [l1q,j1p] at hs
  by_cases hg:g=q
  ·subst hg;refine ⟨rfl,?_⟩;rw [i1L g V] at hs;omega
  ·have:g=q + 1:=by omega
   subst this
   rw [i1D,i1W,i1L q V] at hs;omega
 ·have hcP:P≤c * P:=Nat.le_mul_of_pos_left _ (by omega)
  by_cases hg:g=q
  ·subst hg;rw [i1L g V] at hs;omega
  ·have hg:g=q + 1:=by omega
   subst hg
   refine ⟨rfl,fun X' c' h3 h4=>?_⟩
   rw [i1D,i1W,i1L q V] at hs
   have hc1:c=1:=by
    by_cases hc2:2≤c
    ·have:2 * P≤c * P:=i1r _ hc2
     omega
    ·omega
   subst hc1
   have hc'1:c' = 1:=by
    by_cases h5:c' = 0
    ·subst h5;omega
    ·by_cases h6:2≤c'
     ·have:2 * P≤c' * P:=i1r _ h6
      omega
     ·omega
   subst hc'1
   omega
theorem w0p {BB i k n q r V U0:Nat} {L X Q:List Nat} (hBB:BB=4294967296) (hL:L.length=n) (hw:Won L X i (k + 1)) (hn:i + (k + 1)≤n) (hQ:i < Q.length) (hU:U0=a0u (Q.drop (i + 1)) * BB ^ (i + 1) * V + a0u L) (hV:V < BB ^ k) (hlt:a0u L < V * BB ^ (i + 1))
  (hq:win L i (k + 1)=V * q + r) (hr:r < V) (hX:win X i (k + 1)=r) :
  a0u X < V * BB ^ i∧U0=a0u ((Q.set i q).drop i) * BB ^ i * V + a0u X:=by
 obtain ⟨j,rfl⟩:∃ j,n=i + (k + 1) + j:=⟨n - (i + (k + 1)),by omega⟩
 have e1:a0u L=win L 0 i + BB ^ i * (win L i (k + 1) + BB ^ (k + 1) * win L (i + (k + 1)) j):=by
  have h1:=h0U (L:=L) (i1j _)
  rw [i1x,hL,j1C,d0E,d0E,i1P] at h1
  rw [h1,hBB]
 have e2:a0u X=win X 0 i + BB ^ i * (win X i (k + 1) + BB ^ (k + 1) * win X (i + (k + 1)) j):=by
  have h1:=h0U (L:=X) (i1j _)
  rw [i1x,hw.1,hL,j1C,d0E,d0E,i1P] at h1
  rw [h1,hBB]
 have e3:win X 0 i=win L 0 i:=j0W fun j hj=>hw.2.2 _ (by omega)
 have e4:win X (i + (k + 1)) j=win L (i + (k + 1)) j:=j0W fun j hj=>hw.2.2 _ (by omega)
 have hP:0 < BB ^ i:=Nat.pow_pos (by omega)
 have e5:win L (i + (k + 1)) j=0:=by
  by_cases h0:win L (i + (k + 1)) j=0
  ·exact h0
  ·exfalso
   have h1:BB ^ i * BB ^ (k + 1)≤a0u L:=by
    rw [e1]
    have:BB ^ i * BB ^ (k + 1)≤BB ^ i * (win L i (k + 1) + BB ^ (k + 1) * win L (i + (k + 1)) j):=i1N _ (by
     have:=Nat.le_mul_of_pos_right (BB ^ (k + 1)) (by omega:0 < win L (i + (k + 1)) j);omega)
    omega
   have h2:V * BB ^ (i + 1)≤BB ^ k * BB ^ (i + 1):=i1r _ (by omega)
   have h3:BB ^ k * BB ^ (i + 1)=BB ^ i * BB ^ (k + 1):=by rw [← k1h,← k1h];congr 1;omega
   omega
 rw [e5,Nat.mul_zero,j1p] at e1
 rw [e3,e4,e5,Nat.mul_zero,j1p,hX] at e2
 have hlow:win L 0 i < BB ^ i:=by
  rw [← e3,hBB];exact l0c hw.2.1 0 i
 refine ⟨?_,?_⟩
 ·rw [e2]
  have:BB ^ i * (r + 1)≤BB ^ i * V:=i1N _ hr
  rw [i1w,j1s] at this
  rw [i1L V];omega
 ·have h5:=f0P (l:=Q.set i q) (n:=i) (by simpa using hQ)
  rw [i1h,j1F hQ,i1O,List.drop_set_of_lt (show i < i + 1 by omega),← hBB] at h5
  rw [hU,e1,e2,hq,h5,i1G]
  grind
end
section
open Go
set_option maxHeartbeats 4000000
set_option maxRecDepth 20000
variable {fl:Nat} {H G:a0e} {R:a0E} {v w:Value} {a b:List Nat}
theorem q0n {e p o n c:Nat} {cs:List Value} (hb:G.blk p=.row false e cs):elemOk G e (.slice (some ⟨p,o,none⟩) n c)=true:=by
 unfold elemOk;simp only [hb];simp
theorem n0r {p o n cap lo hi:Nat} {x y:Option Value} (hx:bnd 0 x=some lo) (hy:bnd n y=some hi) (h1:lo≤hi) (h2:hi≤n) :
  e0c 1 (.slice (some ⟨p,o,none⟩) n cap) x y none=some (.slice (some ⟨p,o + lo,none⟩) (hi - lo) (if cap=unk then unk else cap - lo)):=by
 unfold e0c;simp only [hx,hy];rw [i1n ⟨h1,h2⟩];simp
theorem B0o {p o n cap:Nat} {ro:Bool} {L:List Nat} (hb:G.blk p=.row ro a0h (b0Y L)) (hok:b0a L) (hL:o + n≤L.length):Lim G (.slice (some ⟨p,o,none⟩) n cap) ((L.drop o).take n):=by
 have hl:((L.drop o).take n).length=n:=by simp;omega
 refine ⟨⟨by simp [hl],.inr ⟨p,o,cap,ro,b0Y L,by rw [hl],hb,by simp [hl];omega,?_⟩⟩,fun x hx=>hok x (List.mem_of_mem_drop (k1c hx))⟩
 rw [hl,j1s];simp [b0Y,List.map_take,List.map_drop]
theorem B0v {L:List Nat} {o:Nat}:∀ {n:Nat},o + n≤L.length→a0u ((L.drop o).take n)=win L o n
 | 0,_=>by simp [a0u,win]
 | n + 1,h=>by
  rw [a0P (by simp;omega),B0v (by omega),win]
  simp [i1h]
theorem a1Y {b:List Nat} {k n:Nat} (hok:b0a b) (hk:b.length=k + 1) (hn:n≤31) (ht:b.getD k 0 * 2 ^ n < 4294967296):a0u b * 2 ^ n < 4294967296 ^ (k + 1):=by
 have h1:a0u b=win b 0 k + 4294967296 ^ k * b.getD k 0:=by
  rw [← k0H (L:=b) (n:=k + 1) (by omega),win,i1P]
 have h2:=l0c hok 0 k
 have h3:(b.getD k 0 + 1) * 2 ^ n≤4294967296:=by
  obtain ⟨m,hm⟩:∃ m,4294967296=m * 2 ^ n:=⟨2 ^ (32 - n),by rw [← k1h,show 32 - n + n=32 by omega]⟩
  rw [hm] at ht ⊢
  exact i1r _ (k1S ht)
 have h4:a0u b < 4294967296 ^ k * (b.getD k 0 + 1):=by rw [h1,i1w,j1s];omega
 have hp:0 < 2 ^ n:=k1M n
 calc a0u b * 2 ^ n < 4294967296 ^ k * (b.getD k 0 + 1) * 2 ^ n:=Nat.mul_lt_mul_of_pos_right h4 hp
  _=4294967296 ^ k * ((b.getD k 0 + 1) * 2 ^ n):=i1z ..
  _≤4294967296 ^ k * 4294967296:=i1N _ h3
  _=4294967296 ^ (k + 1):=(i1G ..).symm
theorem M0D {o:List Nat} {k:Nat} (ho:o.length=k + 1) (h:a0u o < 4294967296 ^ k):a0u (o.take k)=a0u o:=by
 have h1:a0u o=a0u (o.take k) + 4294967296 ^ k * o.getD k 0:=by
  rw [← a0P (by omega),i1v (by omega)]
 have:o.getD k 0=0:=by
  by_cases h0:o.getD k 0=0
  ·exact h0
  ·have:=Nat.le_mul_of_pos_right (4294967296 ^ k) (by omega:0 < o.getD k 0);omega
 rw [this] at h1;omega
theorem a1X {b:List Nat} {k n:Nat} (hk:b.length=k + 1) (ht:2147483648≤b.getD k 0 * 2 ^ n):2147483648 * 4294967296 ^ k≤a0u b * 2 ^ n:=by
 have h1:a0u b=win b 0 k + 4294967296 ^ k * b.getD k 0:=by
  rw [← k0H (L:=b) (n:=k + 1) (by omega),win,i1P]
 rw [h1,i1D,i1z,i1L 2147483648]
 have:=i1N (4294967296 ^ k) ht
 omega
theorem K0t {x y la k n B:Nat} (h1:x < B ^ la) (hn:2 ^ n≤2147483648) (h2:2147483648 * B ^ k≤y):x * 2 ^ n < y * B ^ (la - k) ∨ la < k:=by
 by_cases hk:k≤la
 ·left
  have hp:0 < 2 ^ n:=k1M n
  calc x * 2 ^ n < B ^ la * 2 ^ n:=Nat.mul_lt_mul_of_pos_right h1 hp
   _≤B ^ la * 2147483648:=i1N _ hn
   _=2147483648 * B ^ k * B ^ (la - k):=by rw [i1z,← k1h,show k + (la - k)=la by omega,i1L]
   _≤y * B ^ (la - k):=i1r _ h2
 ·right;omega
theorem Won.trans {L X Y:List Nat} {o n:Nat} (h:Won L X o n) (k:Won X Y o n):Won L Y o n:=⟨k.1.trans h.1,k.2.1,fun j hj=>(k.2.2 j hj).trans (h.2.2 j hj)⟩
theorem a1M {tag r:Nat} (h:r < 4294967296):d0m tag .shl (.int .u64 (r:Int)) (.int .u64 32)=some (.int .u64 ((r * 4294967296:Nat):Int)):=by
 have h1:=J0g (tag:=tag) (n:=r) (s:=32) (k':=.u64) (by omega)
 have h2:r * 2 ^ 32 % 18446744073709551616=r * 4294967296:=by omega
 rw [h2] at h1;exact h1
theorem f1W {tag x y:Nat} (hx:x < 4294967296) (hy:y < 4294967296):d0m tag .or (.int .u64 ((x * 4294967296:Nat):Int)) (.int .u64 (y:Int))=some (.int .u64 ((x * 4294967296 + y:Nat):Int)):=by
 rw [Z0I (by omega) (by omega),w0H hy]
theorem x0T:∀ N:Nat,e0G [.int .u32 0] N=b0Y (List.replicate N 0)
 | 0=>rfl
 | n + 1=>by rw [e0G,x0T n];rfl
theorem m0m (ha:Lim H v a) (hb:Lim H w b) (hf:fl≤H.size) (hna:a.length < 1073741823) (h2:2≤b.length) (hle:b.length≤a.length) (hb0:b.getD (b.length - 1) 0 ≠ 0) :
  a0S env fl A0Q [v,w] H (fun r H'=>(∃ q o q' o',r=.tuple #[q,q']∧Lim H' q o∧a0u o=a0u a / a0u b∧o.length≤a.length∧Lim H' q' o'∧a0u o' = a0u a % a0u b∧o'.length≤a.length)∧Ext H H') R:=by
 refine a0g e1S hf (h:=?_)
 intro ρ h0
 simp only [L0U]
 obtain ⟨k,hk⟩:∃ k,b.length=k + 1:=⟨b.length - 1,by omega⟩
 have hk1:1≤k:=by omega
 rw [show b.length - 1=k by omega] at hb0
 have htl:=b0Z hb.ok k
 have hial:=hb.ia (k:=.i64) (show k < b.length by omega)
 have hldl:=hb.load (show k < b.length by omega) (Ext.refl H)
 have htlt:=@a1Y b k
 have htge:=@a1X b k
 generalize htp:b.getD k 0=tp at *
 have e0:IntKind.i64.wrap ((b.length:Int) - 1)=((k:Nat):Int):=by rw [a0R (by omega) (by omega)];omega
 simp [F0B,F0C,h0]
 refine b0R (fun c t G=>∃ n:Nat,G=H∧n + c=31∧t.length=147∧get t 0=v∧get t 1=w∧get t 6=.int .i64 ((n:Nat):Int)∧tp * 2 ^ n < 4294967296)
  (fun t G=>∃ n:Nat,G=H∧n≤31∧t.length=147∧get t 0=v∧get t 1=w∧get t 6=.int .i64 ((n:Nat):Int)∧tp * 2 ^ n < 4294967296∧2147483648≤tp * 2 ^ n) 31 ?_ ?_ ?_
 ·exact ⟨0,rfl,by omega,by simp,by simp [h0],by simp [h0],by simp,by omega⟩
 ·clear h0 ρ
  rintro c t G ⟨n,rfl,hn,ht,g0,g1,g6,hy⟩
  obtain ⟨ρ,rfl⟩:=toT ht
  simp only [b0Q,Nat.reduceLT] at g0 g1 g6
  have hy2:tp * 2 ^ (n + 1)=2 * (tp * 2 ^ n):=by rw [i1G,← i1z];omega
  have hy3:2 ^ n≤tp * 2 ^ n:=Nat.le_mul_of_pos_left _ (by omega)
  have hy4:n=31→2147483648≤tp * 2 ^ n:=by rintro rfl;exact hy3
  have s1:=r0m (tag:=0) (n:=tp) (s:=n) (k':=.i64) (by omega)
  rw [i1K hy] at s1
  generalize hyd:tp * 2 ^ n=y at *
  have s2:d0m 0 .shr (.int .u32 (y:Int)) (.int .u64 31)=some (.int .u32 ((y / 2147483648:Nat):Int)):=r0n (tag:=0) (n:=y) (s:=31) (k':=.u64) (by omega)
  have e9:IntKind.i64.wrap ((n:Int) + 1)=((n + 1:Nat):Int):=by rw [a0R (by omega) (by omega)];omega
  by_cases hd:y / 2147483648=0
  ·have hdb:((y / 2147483648:Nat) == 0)=true:=by simp [hd]
   simp [-Int.natCast_ediv,-Int.natCast_add,-beq_iff_eq,u0Y,u0Z,g0,g1,g6,hb.slen,e0,hial,hldl,s1,s2,hdb,e9]
   exact ⟨c - 1,by omega,n + 1,by omega,rfl,by rw [hy2];omega⟩
  ·have hdb:((y / 2147483648:Nat) == 0)=false:=by simp [hd]
   simp [-Int.natCast_ediv,-Int.natCast_add,-beq_iff_eq,u0Y,u0Z,g0,g1,g6,hb.slen,e0,hial,hldl,s1,s2,hdb,e9]
   exact ⟨n,by omega,rfl,by rw [hyd];exact hy,by rw [hyd];omega⟩
 ·clear h0 ρ
  rintro t G ⟨n,rfl,hn,ht,g0,g1,g6,hy,hy2⟩
  obtain ⟨ρ,rfl⟩:=toT ht
  simp only [b0Q,Nat.reduceLT] at g0 g1 g6
  refine a0G ?_
  simp [F0D,g0,g1,g6]
  refine (g0G ha (i1j _) (by omega) (by omega)).mono ?_
  rintro u G1 ⟨⟨L0,hu,hok0,hv0,hl0⟩,hx1⟩
  try simp [g0,g1,g6]
  refine (g0G (hb.mono hx1) hx1.1 (by omega) (by omega)).mono ?_
  rintro u2 G2 ⟨⟨L1,hu1,hok1,hv1,hl1⟩,hx2⟩
  have hx:=hx1.trans hx2
  have hxs:=hx.1
  have hx1s:=hx1.1
  obtain ⟨hul,⟨_,hbad⟩ | ⟨P,capu,rfl,hP,hfP⟩⟩:=hu.mono hx2
  ·omega
  obtain ⟨hul1,⟨_,hbad⟩ | ⟨Q,capv,rfl,hQ,hfQ⟩⟩:=hu1
  ·omega
  have hPl:P < G1.size:=by
   obtain ⟨_,⟨hbad,_⟩ | ⟨P',cap',he,hP',_⟩⟩:=hu
   ·cases hbad
   ·simp at he;rw [he.1];exact a0i hP'
  have hQl:=a0i hQ
  -- the divisor
  have hVlt:=htlt hb.ok hk hn hy
  have hVge:=htge hk hy2
  have hVt:=M0D (o:=L1) (k:=b.length) hl1 (by rw [hv1,hk];exact hVlt)
  have hlt0:=K0t (x:=a0u a) (y:=a0u b * 2 ^ n) (la:=a.length) (k:=k) (n:=n) (B:=4294967296) (g0k a ha.ok) (j1y (n:=2) (by omega) hn) hVge
  have hlt0:a0u a * 2 ^ n < a0u b * 2 ^ n * 4294967296 ^ (a.length - k):=by rcases hlt0 with h | h;exact h;omega
  have hpn:0 < 2 ^ n:=k1M n
  have hqv:a0u a / a0u b=a0u a * 2 ^ n / (a0u b * 2 ^ n):=(Nat.mul_div_mul_right _ _ hpn).symm
  have hrv:a0u a % a0u b=a0u a * 2 ^ n % (a0u b * 2 ^ n) / 2 ^ n:=by rw [Nat.mul_mod_mul_right,Nat.mul_div_cancel _ hpn]
  rw [hv1] at hVt
  rw [hqv,hrv]
  generalize a0u b * 2 ^ n=V at *
  generalize a0u a * 2 ^ n=U0 at *
  clear hqv hrv htlt htge hial hldl e0 htp hb0 htl hy hy2 hul hul1 hpn hu hx1 hx2
  obtain ⟨j,hj⟩:∃ j,k=j + 1:=⟨k - 1,by omega⟩
  generalize hK:b.length=K at *
  have hLv:((L1.drop 0).take K)=L1.take K:=by rw [j1q]
  have hsl:=hb.slen
  rw [hK] at hsl
  have hslv:=n0r (p:=Q) (o:=0) (cap:=capv) (n:=K + 1) (x:=none) (y:=some (.int .i64 (K:Int))) (lo:=0) (hi:=K) rfl (by simp) (by omega) (by omega)
  rw [j1p,l1p,l1p] at hslv
  generalize (if capv=unk then unk else capv)=capw at hslv
  have hw1:IntKind.i64.wrap (((a.length + 1:Nat):Int) - (K:Int))=((a.length - k:Nat):Int):=by rw [a0R (by omega) (by omega)];omega
  have hmn:u0c true (.int .i64 ((a.length - k:Nat):Int)) [.int .i64 0]=some (.int .i64 ((a.length - k:Nat):Int)):=by
   simp only [u0c,mn2];rw [i1n trivial,i1k (by omega)]
  have hm:=g0i (bytes:=4) (k:=.i64) (k':=.i64) (l:=a.length - k) (c:=a.length - k) (i1j _) (by omega) (by omega)
  generalize hN:a.length - k=N at *
  simp [-Int.natCast_add,hsl,q0n hQ,hslv]
  simp [-Int.natCast_add,F0E,F0F,g0Z,hw1,hmn,hm]
  generalize hPQ:G2.size=PQ
  generalize hG3:G2.push (.row false a0h (e0G [.int .u32 0] N))=G3
  have hx3:Ext G2 G3:=by rw [← hG3];exact (Ext.refl _).push
  have hP3:=hx3.blk hP
  have hQ3:=hx3.blk hQ
  have hPQ3:a0e.blk G3 PQ=.row false a0h (b0Y (List.replicate N 0)):=by rw [← hG3,← hPQ,a0D,x0T]
  replace hx:=hx.trans hx3
  have hv3:Lim G3 (.slice (some ⟨Q,0,none⟩) K capw) (L1.take K):=by rw [← hLv];exact B0o hQ3 hok1 (by omega)
  have hLl:(L1.take K).length=K:=by simp;omega
  have hok2:=hv3.ok
  generalize L1.take K=Vl at *
  clear hG3 hx3 hP hQ hQ3 hok1 hslv hLv hv1 hl1 hm hmn hw1 L1
  generalize hSU:Value.slice (some ⟨P,0,none⟩) (a.length + 1) capu=SU
  generalize hSV:Value.slice (some ⟨Q,0,none⟩) K capw=SV at *
  generalize hSQ:Value.slice (some ⟨PQ,0,none⟩) N N=SQ
  -- its highest limbs
  have hia1:=hv3.ia (k:=.i64) (show k < Vl.length by omega)
  have hia2:=hv3.ia (k:=.i64) (show j < Vl.length by omega)
  have hld1:=hv3.load (show k < Vl.length by omega) (Ext.refl _)
  have hld2:=hv3.load (show j < Vl.length by omega) (Ext.refl _)
  have hV1:V=win Vl 0 k + 4294967296 ^ k * Vl.getD k 0:=by rw [← hVt,← k0H (L:=Vl) (n:=k + 1) (by omega),win,i1P]
  have hV2:V=win Vl 0 j + 4294967296 ^ j * (Vl.getD k 0 * 4294967296 + Vl.getD j 0):=by
   rw [← hVt,← k0H (L:=Vl) (n:=k + 1) (by omega),M0G (by omega),show k + 1 - 1=k by omega,show k + 1 - 2=j by omega,i1P,i1P]
  have hTt:=b0Z hok2 k
  have hTn:=b0Z hok2 j
  have hTg:2147483648≤Vl.getD k 0:=by
   by_cases h:2147483648≤Vl.getD k 0
   ·exact h
   ·exfalso
    have h3:=l0c hok2 0 k
    have:4294967296 ^ k * (Vl.getD k 0 + 1)≤4294967296 ^ k * 2147483648:=i1N _ (by omega)
    rw [i1w,j1s] at this
    rw [i1L] at hVge
    omega
  clear hV1
  generalize Vl.getD k 0=top at *
  generalize Vl.getD j 0=next at *
  have et:IntKind.u64.wrap (top:Int)=(top:Int):=by rw [a0x];omega
  have en:IntKind.u64.wrap (next:Int)=(next:Int):=by rw [a0x];omega
  have ew1:IntKind.i64.wrap ((K:Int) - 1)=(k:Int):=by rw [a0R (by omega) (by omega)];omega
  have ew2:IntKind.i64.wrap ((K:Int) - 2)=(j:Int):=by rw [a0R (by omega) (by omega)];omega
  have ew3:IntKind.i64.wrap (((a.length + 1:Nat):Int) - (K:Int))=(N:Int):=by rw [a0R (by omega) (by omega)];omega
  have ew4:IntKind.i64.wrap ((N:Int) - 1)=(N:Int) - 1:=a0R (by omega) (by omega)
  have hslu:g0Z SU=some (.int .i64 ((a.length + 1:Nat):Int)):=by rw [← hSU];rfl
  have hslPQ:slB SV ≠ some PQ:=by rw [← hSV];simp [slB];omega
  have hslP:slB SV ≠ some P:=by rw [← hSV];simp [slB];omega
  refine a0G ?_
  simp [-Int.natCast_add,F0G,F0H,hv3.slen,ew1,ew2,hia1,hia2,hld1,hld2,et,en,hLl,hslu,ew3,ew4,g6]
  clear hia1 hia2 hld1 hld2 et en ew1 ew2 ew3 ew4 hslu hsl
  refine b0R (fun c t G'=>∃ L Qs,t.length=147∧get t 4=SQ∧get t 6=.int .i64 (n:Int)∧get t 7=SU∧get t 8=SV∧get t 9=.int .i64 (K:Int)∧get t 10=.int .u64 (top:Int)∧get t 11=.int .u64 (next:Int)∧get t 12=.int .i64 ((c:Int) - 1) ∧
    Ext G G'∧Lim G' SV Vl∧a0e.blk G' P=.row false a0h (b0Y L)∧a0e.blk G' PQ=.row false a0h (b0Y Qs)∧L.length=a.length + 1∧b0a L∧Qs.length=N∧b0a Qs∧c≤N∧U0=a0u (Qs.drop c) * 4294967296 ^ c * V + a0u L∧a0u L < V * 4294967296 ^ c)
   (fun t G'=>∃ L Qs,t.length=147∧get t 4=SQ∧get t 6=.int .i64 (n:Int)∧get t 7=SU∧get t 9=.int .i64 (K:Int) ∧
    Ext G G'∧a0e.blk G' P=.row false a0h (b0Y L)∧a0e.blk G' PQ=.row false a0h (b0Y Qs)∧L.length=a.length + 1∧b0a L∧Qs.length=N∧b0a Qs∧U0=a0u Qs * V + a0u L∧a0u L < V) N ?_ ?_ ?_
  ·refine ⟨L0,List.replicate N 0,by simp,by simp [hSQ],by simp [g6],by simp [hSU],by simp,by simp,by simp,by simp,by simp,hx,hv3,hP3,hPQ3,hl0,hok0,by simp,fun z hz=>by rw [k1F] at hz;omega,i1j _,?_,by rw [hv0];exact hlt0⟩
   rw [j1E (by simp),hv0];simp [a0u]
  ·clear hP3 hPQ3 hv0 hl0 hok0 L0 g0 g1 g6 ht ρ hx hv3 G3
   rintro c t G3 ⟨L,Qs,ht,g4,g6,g7,g8,g9,g10,g11,g12,hx,hv3,hP,hPQb,hLlen,hLok,hQlen,hQok,hcN,hU,hlt⟩
   obtain ⟨ρ,rfl⟩:=toT ht
   simp only [b0Q,Nat.reduceLT] at g4 g6 g7 g8 g9 g10 g11 g12
   by_cases hc0:c=0
   ·subst hc0
    simp [-Int.natCast_add,v0a,g4,g6,g7,g8,g9,g10,g11,g12]
    exact ⟨hx,L,hP,Qs,hPQb,hLlen,hLok,hQlen,hQok,by simpa using hU,by simpa using hlt⟩
   ·obtain ⟨i,rfl⟩:∃ i,c=i + 1:=⟨c - 1,by omega⟩
    have ec:(((i + 1:Nat):Int) - 1)=(i:Int):=by omega
    rw [ec] at g12
    -- places
    obtain ⟨iK,hiK⟩:∃ iK,iK=i + K:=⟨_,rfl⟩
    have ew1:IntKind.i64.wrap ((i:Int) + (K:Int))=(iK:Int):=by rw [a0R (by omega) (by omega)];omega
    have ew2:IntKind.i64.wrap ((iK:Int) - 1)=((i + k:Nat):Int):=by rw [a0R (by omega) (by omega)];omega
    have ew3:IntKind.i64.wrap ((iK:Int) - 2)=((i + j:Nat):Int):=by rw [a0R (by omega) (by omega)];omega
    have ew4:IntKind.i64.wrap ((iK:Int) + 1)=((iK + 1:Nat):Int):=by rw [a0R (by omega) (by omega)];omega
    have ew5:IntKind.i64.wrap ((i:Int) - 1)=(i:Int) - 1:=a0R (by omega) (by omega)
    obtain ⟨hi1,hr1⟩:=m0o (k:=.i64) (cap:=capu) (o:=0) (n:=a.length + 1) hP (by omega) (show iK < a.length + 1 by omega)
    obtain ⟨hi2,hr2⟩:=m0o (k:=.i64) (cap:=capu) (o:=0) (n:=a.length + 1) hP (by omega) (show i + k < a.length + 1 by omega)
    obtain ⟨hi3,hr3⟩:=m0o (k:=.i64) (cap:=capu) (o:=0) (n:=a.length + 1) hP (by omega) (show i + j < a.length + 1 by omega)
    rw [hSU,i1P] at hi1 hi2 hi3
    rw [i1P] at hr1 hr2 hr3
    have hA1:=b0Z hLok iK
    have hA2:=b0Z hLok (i + k)
    have hA3:=b0Z hLok (i + j)
    -- the window
    have hwin:=W0P (L:=L) (o:=i) (k:=K) (by omega)
    rw [show K - 2=j by omega,show K - 1=k by omega,← hiK] at hwin
    have hUw:win L i (K + 1) < V * 4294967296:=by
     have h1:=h0U (L:=L) (i1j _)
     rw [i1x,hLlen,show a.length + 1=i + ((K + 1) + (a.length - i - K)) by omega,d0E,d0E,i1P] at h1
     have h2:4294967296 ^ i * win L i (K + 1) < 4294967296 ^ i * (V * 4294967296):=by
      rw [i1G,← i1z,Nat.mul_right_comm] at hlt
      rw [i1w] at h1
      have:V * 4294967296 * 4294967296 ^ i=4294967296 ^ i * (V * 4294967296):=i1L _ _
      omega
     exact j1L h2
    generalize L.getD iK 0=A1 at hA1 hr1 hwin
    generalize L.getD (i + k) 0=A2 at hA2 hr2 hwin
    generalize L.getD (i + j) 0=A3 at hA3 hr3 hwin
    obtain ⟨x,hX⟩:∃ x,x=A1 * 4294967296 + A2:=⟨_,rfl⟩
    rw [← hX] at hwin
    have gs:Gs (4294967296 ^ j) (win L i j) (win Vl 0 j) (win L i (K + 1)) V x A3 top next 4294967296 :=
     ⟨Nat.pow_pos (by omega),l0c hLok i j,l0c hok2 0 j,hwin,hV2,by omega,hTt,hTn,hA3,hUw⟩
    clear hwin
    have eA1:IntKind.u64.wrap (A1:Int)=(A1:Int):=by rw [a0x];omega
    have eA2:IntKind.u64.wrap (A2:Int)=(A2:Int):=by rw [a0x];omega
    have eA3:IntKind.u64.wrap (A3:Int)=(A3:Int):=by rw [a0x];omega
    have s1:=a1M (tag:=0) hA1
    have s2:=f1W (tag:=0) hA1 hA2
    have hxl:x < 18446744073709551616:=by omega
    have hqle:=gs.q_le
    have hxlt:=gs.x_lt
    rw [← hX] at s2
    have s3:=Z0S (tag:=0) (a:=x) (b:=top) hxl (by omega)
    have s4:=a1F (tag:=0) (a:=x) (b:=top) (by omega)
    have hgr:x / top * top + x % top=x:=l1a x top
    have hrt:=j1G x (show 0 < top by omega)
    have hgB:x / top≤4294967297:=by
     have:x / top < 4294967298:=by rw [j1Z (by omega)];omega
     omega
    have hic:(i:Int) ≥ 0:=by omega
    simp [-Int.natCast_add,-Int.natCast_mul,-Int.natCast_ediv,-Int.natCast_emod,v0a,g4,g6,g7,g8,g9,g10,g11,g12,hic]
    refine a0G ?_
    simp [-Int.natCast_add,-Int.natCast_mul,-Int.natCast_ediv,-Int.natCast_emod,x0s,g4,g6,g7,g8,g9,g10,g11,g12,ew1,ew2,hi1,hi2,hr1,hr2,eA1,eA2,s1,s2]
    refine a0G ?_
    simp [-Int.natCast_add,-Int.natCast_mul,-Int.natCast_ediv,-Int.natCast_emod,x0t,g4,g6,g7,g8,g9,g10,g11,g12,s3,s4]
    clear s1 s2 s3 s4
    generalize x / top=gq at hgr hgB hqle ⊢
    generalize x % top=rr at hgr hrt ⊢
    have hslice:∃ cap',e0c 1 SU (some (.int .i64 (i:Int))) (some (.int .i64 ((iK + 1:Nat):Int))) none=some (.slice (some ⟨P,i,none⟩) (K + 1) cap'):=by
     rw [← hSU,n0r (lo:=i) (hi:=iK + 1) (by simp) (U0D (n:=iK + 1)) (by omega) (by omega),i1P,show iK + 1 - i=K + 1 by omega]
     exact ⟨_,rfl⟩
    obtain ⟨capt,hslice⟩:=hslice
    have helem:∀ (G':a0e) (cs:List Value),a0e.blk G' P=.row false a0h cs→elemOk G' a0h SU=true:=fun G' cs h=>by rw [← hSU];exact q0n h
    refine b0R (fun c t G'=>∃ g rest:Nat,c=g∧G' = G3∧t.length=147∧get t 4=SQ∧get t 6=.int .i64 (n:Int)∧get t 7=SU∧get t 8=SV∧get t 9=.int .i64 (K:Int)∧get t 10=.int .u64 (top:Int)∧get t 11=.int .u64 (next:Int)∧get t 12=.int .i64 (i:Int)∧get t 14=.int .u64 (g:Int)∧get t 15=.int .u64 (rest:Int) ∧
      g * top + rest=x∧win L i (K + 1) / V≤g∧g≤4294967297∧rest < 4294967296)
     (fun t G'=>∃ g rest:Nat,G' = G3∧t.length=147∧get t 4=SQ∧get t 6=.int .i64 (n:Int)∧get t 7=SU∧get t 8=SV∧get t 9=.int .i64 (K:Int)∧get t 10=.int .u64 (top:Int)∧get t 11=.int .u64 (next:Int)∧get t 12=.int .i64 (i:Int)∧get t 14=.int .u64 (g:Int) ∧
      g * top + rest=x∧win L i (K + 1) / V≤g∧g < 4294967296∧g * next≤rest * 4294967296 + A3) gq ?_ ?_ ?_
    ·exact ⟨gq,rr,rfl,rfl,by simp,by simp [g4],by simp [g6],by simp [g7],by simp [g8],by simp [g9],by simp [g10],by simp [g11],by simp [g12],by simp,by simp,hgr,hqle,hgB,by omega⟩
    ·clear g4 g6 g7 g8 g9 g10 g11 g12 ht ρ
     rintro c t G' ⟨g,rest,rfl,rfl,ht,g4,g6,g7,g8,g9,g10,g11,g12,g14,g15,hgx,hq,hgl,hrl⟩
     obtain ⟨ρ,rfl⟩:=toT ht
     simp only [b0Q,Nat.reduceLT] at g4 g6 g7 g8 g9 g10 g11 g12 g14 g15
     obtain ⟨rt,hrt2⟩:∃ rt,rt=rest + top:=⟨_,rfl⟩
     have er:IntKind.u64.wrap ((rest:Int) + (top:Int))=(rt:Int):=by rw [a0x];omega
     by_cases hcB:4294967296≤c
     ·have hcB2:(4294967296:Int)≤(c:Int):=by omega
      have hcase:4294967296≤c ∨ rest * 4294967296 + A3 < c * next:=.inl hcB
      have hcs:(c:Int) ≥ 4294967296:=hcB2
      simp (config:={maxSteps:=4000000}) [-Int.natCast_add,-Int.natCast_mul,l0A,g4,g6,g7,g8,g9,g10,g11,g12,g14,g15,hcB,hcB2]
      obtain ⟨hq',hg0⟩:=gs.down hgx hq hcase
      obtain ⟨g',rfl⟩:∃ g',c=g' + 1:=⟨c - 1,by omega⟩
      rw [Nat.add_sub_cancel] at hq'
      have eg:IntKind.u64.wrap (((g' + 1:Nat):Int) - 1)=(g':Int):=by rw [a0x];omega
      have hgx':g' * top + rt=x:=by rw [← hgx,hrt2,i1D,i1W];omega
      by_cases hbr:4294967296≤rt
      ·have hbr2:(4294967296:Int)≤(rt:Int):=by omega
       simp [-Int.natCast_add,-Int.natCast_mul,hcs,j0J,j0K,j0L,g4,g6,g7,g8,g9,g10,g11,g12,g14,g15,eg,er,hbr,hbr2]
       have hgl':g' < 4294967296:=by
        by_cases h:g' = 4294967296
        ·subst h;rw [i1L] at hgx';omega
        ·omega
       refine ⟨g',rfl,rt,hgx',hq',hgl',?_⟩
       have h1:g' * next≤4294967295 * 4294967295:=j1f (by omega) (by omega)
       omega
      ·have hbr2:¬ (4294967296:Int)≤(rt:Int):=by omega
       simp [-Int.natCast_add,-Int.natCast_mul,hcs,j0J,j0K,j0L,g4,g6,g7,g8,g9,g10,g11,g12,g14,g15,eg,er,hbr,hbr2]
       exact ⟨g',by omega,rfl,rt,rfl,hgx',hq',by omega,by omega⟩
     ·have hcB2:¬ (4294967296:Int)≤(c:Int):=by omega
      have hcn:c * next≤4294967295 * 4294967295:=j1f (by omega) (by omega)
      obtain ⟨cn,hcn2⟩:∃ cn,cn=c * next:=⟨_,rfl⟩
      have em:IntKind.u64.wrap ((c:Int) * (next:Int))=(cn:Int):=by rw [a0x,← j1I,← hcn2];omega
      have s1:=a1M (tag:=0) hrl
      have s2:=f1W (tag:=0) hrl hA3
      obtain ⟨rA,hrA⟩:∃ rA,rA=rest * 4294967296 + A3:=⟨_,rfl⟩
      rw [← hrA] at s2
      by_cases hgt:rA < cn
      ·have hcase:4294967296≤c ∨ rest * 4294967296 + A3 < c * next:=.inr (by rw [← hrA,← hcn2];exact hgt)
       have hcs:rA < cn:=hgt
       simp (config:={maxSteps:=4000000}) [-Int.natCast_add,-Int.natCast_mul,l0A,g4,g6,g7,g8,g9,g10,g11,g12,g14,g15,hcB,hcB2,ew1,ew3,hi3,hr3,eA3,em,s1,s2,hgt]
       obtain ⟨hq',hg0⟩:=gs.down hgx hq hcase
       obtain ⟨g',rfl⟩:∃ g',c=g' + 1:=⟨c - 1,by omega⟩
       rw [Nat.add_sub_cancel] at hq'
       have eg:IntKind.u64.wrap (((g' + 1:Nat):Int) - 1)=(g':Int):=by rw [a0x];omega
       have hgx':g' * top + rt=x:=by rw [← hgx,hrt2,i1D,i1W];omega
       by_cases hbr:4294967296≤rt
       ·have hbr2:(4294967296:Int)≤(rt:Int):=by omega
        simp [-Int.natCast_add,-Int.natCast_mul,hcs,j0J,j0K,j0L,g4,g6,g7,g8,g9,g10,g11,g12,g14,g15,eg,er,hbr,hbr2]
        have hgl':g' < 4294967296:=by
         by_cases h:g' = 4294967296
         ·subst h;rw [i1L] at hgx';omega
         ·omega
        refine ⟨g',rfl,rt,hgx',hq',hgl',?_⟩
        have h1:g' * next≤4294967295 * 4294967295:=j1f (by omega) (by omega)
        omega
       ·have hbr2:¬ (4294967296:Int)≤(rt:Int):=by omega
        simp [-Int.natCast_add,-Int.natCast_mul,hcs,j0J,j0K,j0L,g4,g6,g7,g8,g9,g10,g11,g12,g14,g15,eg,er,hbr,hbr2]
        exact ⟨g',by omega,rfl,rt,rfl,hgx',hq',by omega,by omega⟩
      ·simp (config:={maxSteps:=4000000}) [-Int.natCast_add,-Int.natCast_mul,l0A,g4,g6,g7,g8,g9,g10,g11,g12,g14,g15,hcB,hcB2,ew1,ew3,hi3,hr3,eA3,em,s1,s2,hgt]
       exact ⟨c,rfl,rest,hgx,hq,by omega,by rw [← hrA,← hcn2];omega⟩
    ·clear g4 g6 g7 g8 g9 g10 g11 g12 ht ρ hgr hgB hqle hrt
     rintro t G' ⟨gg,rest,rfl,ht,g4,g6,g7,g8,g9,g10,g11,g12,g14,hgx,hq,hgl,hgn⟩
     obtain ⟨ρ,rfl⟩:=toT ht
     simp only [b0Q,Nat.reduceLT] at g4 g6 g7 g8 g9 g10 g11 g12 g14
     have hq1:=gs.fine hgx hgl hgn
     have hVK:V < 4294967296 ^ (K + 1):=by
      rw [hk,i1G];omega
     simp [-Int.natCast_add,x0u,g4,g6,g7,g8,g9,g10,g11,g12,g14,ew1,ew4,helem _ _ hP,hslice]
     refine (q0k (n:=K + 1) hP hLok (by omega) hv3 hslP hfP hgl (by omega) (by omega)).mono ?_
     rintro _ G4 ⟨X0,cc,rfl,hXb0,hxb,hwon0,hs⟩
     rw [hVt] at hs
     obtain ⟨hc1,hc2⟩:=J0s gs hq hq1 hs (l0c hwon0.2.1 i (K + 1)) hVK
     have hx4:=hxb.ext hfP hx
     have hv4:=hv3.off hxb hslP
     have hPQ4:a0e.blk G4 PQ=.row false a0h (b0Y Qs):=by rw [hxb.2 PQ (a0i hPQb) (by simp;omega)];exact hPQb
     have hml:=j1G (win L i (K + 1)) gs.V0
     have hdm0:=(k1t (win L i (K + 1)) V).symm
     by_cases hcc:cc=0
     ·obtain ⟨hg1,hwin⟩:=hc1 hcc
      obtain ⟨X,hXe⟩:∃ X,X=X0:=⟨_,rfl⟩
      obtain ⟨g,hge⟩:∃ g,g=gg:=⟨_,rfl⟩
      subst hXe hge
      have hXb:=hXb0
      have hwon:=hwon0
      have hdm:win L i (K + 1)=V * g + win L i (K + 1) % V:=by rw [hg1];exact hdm0
      simp [-Int.natCast_add,hcc,q0W,g4,g6,g7,g8,g9,g10,g11,g12,g14]
      refine (a0r hx4.1).mono ?_
      rintro _ G6 ⟨rfl,hx6⟩
      have hPQ6:=hx6.blk hPQ4
      have hP6:=hx6.blk hXb
      have hPQl:=a0i hPQ6
      obtain ⟨hj1,_⟩:=m0o (k:=.i64) (cap:=N) (o:=0) (n:=N) hPQ6 (by omega) (show i < N by omega)
      rw [hSQ,i1P] at hj1
      have hile:i + 1≤Qs.length:=by omega
      have hfPQ:G.size≤PQ:=by omega
      rw [i1K hgl]
      obtain ⟨hd1,hd2⟩:=w0p (BB:=4294967296) (n:=a.length + 1) (q:=g) rfl hLlen hwon (by omega) (show i < Qs.length by omega) hU (by rw [hk];exact hVlt) hlt hdm hml hwin
      simp [-Int.natCast_add,q0X,hj1,hPQ6,hile,hfPQ,g4,g6,g7,g8,g9,g10,g11,g12,ew5]
      refine ⟨i,by omega,rfl,(hx4.trans hx6).set hfPQ,(hv4.mono hx6).off d0l.refl.set hslPQ,X,by rw [a0W (by omega)];exact hP6,Qs.set i g,by rw [a0z hPQl,d0I],by rw [hwon.1,hLlen],hwon.2.1,by simpa using hQlen,b0X hQok hgl,by omega,hd2,hd1⟩
     ·obtain ⟨hg1,hgive⟩:=hc2 hcc
      obtain ⟨g,rfl⟩:∃ g,gg=g + 1:=⟨win L i (K + 1) / V,hg1⟩
      have hg2:g=win L i (K + 1) / V:=Nat.succ.inj hg1
      have eg:IntKind.u64.wrap (((g + 1:Nat):Int) - 1)=(g:Int):=by rw [a0x];omega
      have hdm:win L i (K + 1)=V * g + win L i (K + 1) % V:=by rw [hg2];exact hdm0
      simp [-Int.natCast_add,hcc,x0v,x0w,g4,g6,g7,g8,g9,g10,g11,g12,g14,eg,ew1,ew4,helem _ _ hXb0,hslice]
      refine (q0h (n:=K + 1) hXb0 hwon0.2.1 (by rw [hwon0.1];omega) hv4 hslP hfP (by omega) (by omega)).mono ?_
      rintro _ G5 ⟨X,c2,hXb,hxb2,hwon2,hs2⟩
      rw [hVt] at hs2
      have hwin:=hgive _ _ hs2 (l0c hwon2.2.1 i (K + 1))
      replace hPQ4:a0e.blk G5 PQ=.row false a0h (b0Y Qs):=by rw [hxb2.2 PQ (a0i hPQ4) (by simp;omega)];exact hPQ4
      replace hx4:=hxb2.ext hfP hx4
      replace hv4:=hv4.off hxb2 hslP
      have hwon:=hwon0.trans hwon2
      replace hgl:g < 4294967296:=by omega
      simp [-Int.natCast_add,q0W,g4,g6,g7,g8,g9,g10,g11,g12]
      refine (a0r hx4.1).mono ?_
      rintro _ G6 ⟨rfl,hx6⟩
      have hPQ6:=hx6.blk hPQ4
      have hP6:=hx6.blk hXb
      have hPQl:=a0i hPQ6
      obtain ⟨hj1,_⟩:=m0o (k:=.i64) (cap:=N) (o:=0) (n:=N) hPQ6 (by omega) (show i < N by omega)
      rw [hSQ,i1P] at hj1
      have hile:i + 1≤Qs.length:=by omega
      have hfPQ:G.size≤PQ:=by omega
      rw [i1K hgl]
      obtain ⟨hd1,hd2⟩:=w0p (BB:=4294967296) (n:=a.length + 1) (q:=g) rfl hLlen hwon (by omega) (show i < Qs.length by omega) hU (by rw [hk];exact hVlt) hlt hdm hml hwin
      simp [-Int.natCast_add,q0X,hj1,hPQ6,hile,hfPQ,g4,g6,g7,g8,g9,g10,g11,g12,ew5]
      refine ⟨i,by omega,rfl,(hx4.trans hx6).set hfPQ,(hv4.mono hx6).off d0l.refl.set hslPQ,X,by rw [a0W (by omega)];exact hP6,Qs.set i g,by rw [a0z hPQl,d0I],by rw [hwon.1,hLlen],hwon.2.1,by simpa using hQlen,b0X hQok hgl,by omega,hd2,hd1⟩
  ·clear hP3 hPQ3 hv0 hl0 hok0 L0 g0 g1 g6 ht ρ hx hv3 G3
   rintro t G3 ⟨L,Qs,ht,g4,g6,g7,g9,hx,hP,hPQb,hLlen,hLok,hQlen,hQok,hU,hlt⟩
   obtain ⟨ρ,rfl⟩:=toT ht
   simp only [b0Q,Nat.reduceLT] at g4 g6 g7 g9
   have helem:elemOk G3 a0h SU=true:=by rw [← hSU];exact q0n hP
   have hslice:∃ cap',e0c 1 SU none (some (.int .i64 (K:Int))) none=some (.slice (some ⟨P,0,none⟩) K cap'):=by
    rw [← hSU,n0r (lo:=0) (hi:=K) rfl (by simp) (by omega) (by omega),i1P,l1p]
    exact ⟨_,rfl⟩
   obtain ⟨capt,hslice⟩:=hslice
   simp [-Int.natCast_add,x0x,g4,g6,g7,g9,helem,hslice]
   have hlim:=B0o (cap:=capt) hP hLok (show 0 + K≤L.length by omega)
   have hlv:a0u ((L.drop 0).take K)=a0u L:=by
    have h1:=h0U (L:=L) (i1j _)
    rw [i1x,hLlen,show a.length + 1=K + (a.length + 1 - K) by omega,d0E,i1P] at h1
    have h2:win L K (a.length + 1 - K)=0:=by
     by_cases h0:win L K (a.length + 1 - K)=0
     ·exact h0
     ·have:=Nat.le_mul_of_pos_right (4294967296 ^ K) (by omega:0 < win L K (a.length + 1 - K))
      rw [hk] at this h1;omega
    rw [B0v (by omega),h1,h2,Nat.mul_zero,j1p]
   have hll:((L.drop 0).take K).length=K:=by simp;omega
   refine (q0g hlim hx.1 (by omega) (by omega)).mono ?_
   rintro r G4 ⟨⟨o,ho,hov,hol⟩,hx4⟩
   rw [hlv] at hov
   have hV0:0 < V:=by omega
   have e1:U0 / V=a0u Qs:=by rw [hU,i1L,Nat.mul_add_div hV0,k1b hlt,j1p]
   have e2:U0 % V=a0u L:=by rw [hU,i1L,Nat.mul_add_mod,i1K hlt]
   refine fun _=>⟨SQ,Qs,r,⟨rfl,rfl⟩,⟨by rw [← hSQ,← hQlen];exact (Own.mk (fl:=0) (hx4.blk hPQb) (by simp) (j1l _)).sl,hQok⟩,e1.symm,by omega,o,ho,by rw [hov,e2],by omega⟩
end
section
open Go
set_option maxHeartbeats 4000000
variable {fl:Nat} {H:a0e} {R:a0E} {v w:Value} {i j:Bool × List Nat}
theorem z0C (x y:Int):(if (decide (x < 0) != decide (y < 0))=true then -((x.natAbs / y.natAbs:Nat):Int) else ((x.natAbs / y.natAbs:Nat):Int))=x.tdiv y:=by
 have e1:∀ n:Int,0≤n→(n.natAbs:Int)=n:=fun n h=>Int.natAbs_of_nonneg h
 have e2:∀ n:Int,n < 0→(n.natAbs:Int) = -n:=fun n h=>by omega
 rw [Int.natCast_ediv]
 by_cases hx:x < 0 <;> by_cases hy:y < 0 <;> simp only [hx,hy,decide_true,decide_false,bne_self_eq_false,i1H,j1h,Bool.true_bne,Bool.false_bne,Bool.not_false,i1X]
 ·rw [e2 x hx,e2 y hy,← j1D (by omega),Int.neg_tdiv,Int.tdiv_neg,Int.neg_neg]
 ·rw [e2 x hx,e1 y (by omega),← j1D (by omega),Int.neg_tdiv,Int.neg_neg]
 ·rw [e1 x (by omega),e2 y hy,← j1D (by omega),Int.tdiv_neg,Int.neg_neg]
 ·rw [e1 x (by omega),e1 y (by omega),← j1D (by omega)]
theorem z0E (x y:Int):(if decide (x < 0)=true then -((x.natAbs % y.natAbs:Nat):Int) else ((x.natAbs % y.natAbs:Nat):Int))=x.tmod y:=by
 have h1:=Int.natAbs_tmod x y
 by_cases hx:x < 0
 ·simp only [hx,decide_true,i1X]
  have h2:x.tmod y≤0:=by
   have:=Int.tmod_nonneg (a:=-x) y (by omega)
   rw [Int.neg_tmod] at this;omega
  omega
 ·simp only [hx,decide_false,i1H,j1h]
  have h2:=Int.tmod_nonneg (a:=x) y (by omega)
  omega
theorem b0V (h:b0q H v i) (k:b0q H w j) (hf:fl≤H.size) (hn:i.2.length < 536870912) (hm:j.2.length < 536870912) (hj0:a0B j ≠ 0) :
  a0S env fl m0c [v,w] H (fun r H'=>(∃ q m,r=.tuple #[q,m,.int .i64 0]∧b0q H' q (a0k ((a0B i).tdiv (a0B j)))∧b0q H' m (a0k ((a0B i).tmod (a0B j))))∧Ext H H') R:=by
 have k0:=h
 have k1:=k
 obtain ⟨s,rfl,hs⟩:=h
 obtain ⟨u,rfl,hu⟩:=k
 refine a0g e1I hf (h:=?_)
 intro ρ h0
 simp [L0K,E0y,h0]
 generalize hG:Array.push (Array.push (Array.push (Array.push H _) _) _) _=G
 have hx:Ext H G:=by rw [← hG];exact (Ext.refl H).push.push.push.push
 have b0:a0e.blk G H.size=.row false a0a [.bool i.1,s]:=by rw [← hG];simp
 have b1:a0e.blk G (H.size + 1)=.row false a0a [.bool j.1,u]:=by rw [← hG];simp
 have b2:a0e.blk G (H.size + 2)=.row false a0a [.bool false,.slice none 0 0]:=by rw [← hG];simp
 have b3:a0e.blk G (H.size + 3)=.row false a0a [.bool false,.slice none 0 0]:=by rw [← hG];simp
 have hz:H.size + 3 < G.size:=a0i b3
 clear hG
 replace k0:=k0.mono hx
 replace k1:=k1.mono hx
 refine a0G ?_
 simp [E0z,h0,b0,b1]
 refine (b0M k0 (by omega) (by omega)).mono ?_
 rintro x G2 ⟨k2,hx2⟩
 replace b0:=hx2.blk b0;replace b1:=hx2.blk b1;replace b2:=hx2.blk b2;replace b3:=hx2.blk b3;replace hx:=hx.trans hx2;replace k0:=k0.mono hx2;replace k1:=k1.mono hx2
 try simp [h0,b0,b1]
 refine (b0M k1 hx.1 (by omega)).mono ?_
 rintro y G2 ⟨k3,hx2⟩
 replace b0:=hx2.blk b0;replace b1:=hx2.blk b1;replace b2:=hx2.blk b2;replace b3:=hx2.blk b3;replace hx:=hx.trans hx2;replace k0:=k0.mono hx2;replace k1:=k1.mono hx2;replace k2:=k2.mono hx2
 clear hs hu hz hx2
 have l1:=a0A k0.ok
 have l2:=a0A k1.ok
 have hl0:a0o (a0B j).natAbs ≠ []:=by intro h;exact hj0 (by have:=b0K.1 h;omega)
 have hl1:=l1d.2 hl0
 have e1:=z0C (a0B i) (a0B j)
 have e2:=z0E (a0B i) (a0B j)
 simp [E0A,E0B,h0,k3.slen,hl0]
 refine (f0s k2 k3 hx.1 (by omega)).mono ?_
 rintro _ G2 ⟨rfl,hx2⟩
 replace b0:=hx2.blk b0;replace b1:=hx2.blk b1;replace b2:=hx2.blk b2;replace b3:=hx2.blk b3;replace hx:=hx.trans hx2;replace k0:=k0.mono hx2;replace k1:=k1.mono hx2;replace k2:=k2.mono hx2;replace k3:=k3.mono hx2
 have hcmp:=d0L (a0B i).natAbs (a0B j).natAbs
 rw [c0b] at hcmp
 generalize y0u (a0o (a0B i).natAbs) (a0o (a0B j).natAbs)=c at hcmp
 by_cases hlt:(a0B i).natAbs < (a0B j).natAbs
 ·have hcl:c < 0:=by rw [hcmp,i1n hlt];omega
  simp [E0C,h0,hcl,b0]
  refine (b0x k0 hx.1 (by omega)).mono ?_
  rintro _ G2 ⟨rfl,hx2⟩
  replace b0:=hx2.blk b0;replace b1:=hx2.blk b1;replace b2:=hx2.blk b2;replace b3:=hx2.blk b3;replace hx:=hx.trans hx2;replace k0:=k0.mono hx2;replace k1:=k1.mono hx2;replace k2:=k2.mono hx2;replace k3:=k3.mono hx2
  try simp [h0]
  refine (c0n ((a0B i).tmod (a0B j)) k2 hx.1 (by omega) (by rw [a0q,← e2,i1K hlt])).mono ?_
  obtain ⟨s1,hsv,hs1⟩:∃ s1,s1=Value.slice none 0 0∧Lim G2 s1 (a0k ((a0B i).tdiv (a0B j))).2:=by
   refine ⟨_,rfl,?_⟩
   rw [← e1,k1b hlt]
   have:a0k (if (decide (a0B i < 0) != decide (a0B j < 0))=true then -((0:Nat):Int) else ((0:Nat):Int))=(false,[]):=by split <;> exact e0k
   rw [this];exact Lim.nil
  have hb1:(a0k ((a0B i).tdiv (a0B j))).1=false:=by
   rw [← e1,k1b hlt];split <;> simp [a0k]
  rw [← hsv,← hb1]
  rintro _ G2 ⟨⟨s2,rfl,hs2⟩,hx2⟩
  replace b0:=hx2.blk b0;replace b1:=hx2.blk b1;replace b2:=hx2.blk b2;replace b3:=hx2.blk b3;replace hx:=hx.trans hx2;replace k0:=k0.mono hx2;replace k1:=k1.mono hx2;replace k2:=k2.mono hx2;replace k3:=k3.mono hx2
  have hz:=a0i b3
  have hz2:=a0i b2
  simp [h0,b2,b3,hs1.cells,hs1.plain,hs2.cells,hs2.plain,hz,hz2]
  refine fun _=>⟨_,_,⟨rfl,rfl⟩,⟨s1,rfl,?_⟩,⟨s2,rfl,?_⟩⟩
  ·exact ((hs1.mono hx2).setT b2 (by decide)).setT (by rw [a0W (by omega)];exact b3) (by decide)
  ·exact (hs2.setT b2 (by decide)).setT (by rw [a0W (by omega)];exact b3) (by decide)
 ·have hcl:¬ c < 0:=by rw [hcmp,i1k hlt];split <;> omega
  by_cases h1:(a0o (a0B j).natAbs).length=1
  ·have hd0:(0:Nat) < (a0o (a0B j).natAbs).length:=by omega
   obtain ⟨d,hd⟩:∃ d,a0o (a0B j).natAbs=[d]:=by
    obtain ⟨d,hd⟩:=List.length_eq_one_iff.1 h1;exact ⟨d,hd⟩
   have hdv:(a0B j).natAbs=d:=by rw [← a0q (a0B j).natAbs,hd];simp [a0u]
   have hdl:d < 4294967296:=k3.ok d (by rw [hd];simp)
   have hdp:0 < d:=by omega
   rw [hd] at k3
   have hia:=k3.ia (k:=.i64) (j:=0) (by simp)
   have hld:=k3.load (j:=0) (by simp) (Ext.refl _)
   simp at hia hld
   simp [u0V,E0D,h0,hcl,hd,k3.slen,hia,hld]
   refine (o0b k2 hx.1 (by omega) hdp hdl).mono ?_
   rintro _ G2 ⟨⟨q1,o,rfl,k4,hov,hol⟩,hx2⟩
   replace b0:=hx2.blk b0;replace b1:=hx2.blk b1;replace b2:=hx2.blk b2;replace b3:=hx2.blk b3;replace hx:=hx.trans hx2;replace k0:=k0.mono hx2;replace k1:=k1.mono hx2;replace k2:=k2.mono hx2;replace k3:=k3.mono hx2
   have hmd:a0u (a0o (a0B i).natAbs) % d < 4294967296:=Nat.lt_trans (j1G _ hdp) hdl
   rw [a0q] at hov hmd ⊢
   generalize hrm:(a0B i).natAbs % d=rm at *
   simp [h0]
   refine a0G ?_
   simp [E0E,h0,b0,b1]
   refine (b0x k0 (by have:=hx.1;omega) (by omega)).mono ?_
   rintro _ G2 ⟨rfl,hx2⟩
   replace b0:=hx2.blk b0;replace b1:=hx2.blk b1;replace b2:=hx2.blk b2;replace b3:=hx2.blk b3;replace hx:=hx.trans hx2;replace k0:=k0.mono hx2;replace k1:=k1.mono hx2;replace k2:=k2.mono hx2;replace k3:=k3.mono hx2;replace k4:=k4.mono hx2
   try simp [h0,b0,b1]
   refine (b0x k1 (by have:=hx.1;omega) (by omega)).mono ?_
   rintro _ G2 ⟨rfl,hx2⟩
   replace b0:=hx2.blk b0;replace b1:=hx2.blk b1;replace b2:=hx2.blk b2;replace b3:=hx2.blk b3;replace hx:=hx.trans hx2;replace k0:=k0.mono hx2;replace k1:=k1.mono hx2;replace k2:=k2.mono hx2;replace k3:=k3.mono hx2;replace k4:=k4.mono hx2
   try simp [h0]
   refine (c0n ((a0B i).tdiv (a0B j)) k4 (by have:=hx.1;omega) (by omega) (by rw [hov,← e1,hdv])).mono ?_
   rintro _ G2 ⟨⟨s1,rfl,hs1⟩,hx2⟩
   replace b0:=hx2.blk b0;replace b1:=hx2.blk b1;replace b2:=hx2.blk b2;replace b3:=hx2.blk b3;replace hx:=hx.trans hx2;replace k0:=k0.mono hx2;replace k1:=k1.mono hx2;replace k2:=k2.mono hx2;replace k3:=k3.mono hx2;replace k4:=k4.mono hx2
   try simp [h0,b0,b1]
   refine (b0x k0 (by have:=hx.1;omega) (by omega)).mono ?_
   rintro _ G2 ⟨rfl,hx2⟩
   replace b0:=hx2.blk b0;replace b1:=hx2.blk b1;replace b2:=hx2.blk b2;replace b3:=hx2.blk b3;replace hx:=hx.trans hx2;replace k0:=k0.mono hx2;replace k1:=k1.mono hx2;replace k2:=k2.mono hx2;replace k3:=k3.mono hx2;replace k4:=k4.mono hx2
   replace hs1:=hs1.mono hx2
   try simp [h0]
   generalize hG3:Array.push G2 _=G3
   have hx2:Ext G2 G3:=by rw [← hG3];exact (Ext.refl _).push
   have k5:Lim G3 (.slice (some ⟨G2.size,0,none⟩) 1 1) [rm]:=by
    refine ⟨(Own.mk (fl:=0) (cap:=1) (e:=a0h) (sz:=1) (n:=1) (cs:=b0Y [rm]) ?_ (by simp) (j1l _)).sl,fun x hx=>by simp at hx;omega⟩
    rw [← hG3,a0D];rfl
   replace b0:=hx2.blk b0;replace b1:=hx2.blk b1;replace b2:=hx2.blk b2;replace b3:=hx2.blk b3;replace hx:=hx.trans hx2;replace k0:=k0.mono hx2;replace k1:=k1.mono hx2;replace k2:=k2.mono hx2;replace k3:=k3.mono hx2;replace k4:=k4.mono hx2
   replace hs1:=hs1.mono hx2
   refine (c0n ((a0B i).tmod (a0B j)) k5 (by have:=hx.1;omega) (by simp) (by rw [← e2,hdv,hrm];simp [a0u])).mono ?_
   rintro _ G2 ⟨⟨s2,rfl,hs2⟩,hx2⟩
   replace b0:=hx2.blk b0;replace b1:=hx2.blk b1;replace b2:=hx2.blk b2;replace b3:=hx2.blk b3;replace hx:=hx.trans hx2;replace k0:=k0.mono hx2;replace k1:=k1.mono hx2;replace k2:=k2.mono hx2;replace k3:=k3.mono hx2;replace k4:=k4.mono hx2;replace k5:=k5.mono hx2
   have hz:=a0i b3
   have hz2:=a0i b2
   simp [h0,b2,b3,hs1.cells,hs1.plain,hs2.cells,hs2.plain,hz,hz2]
   refine fun _=>⟨_,_,⟨rfl,rfl⟩,⟨s1,rfl,?_⟩,⟨s2,rfl,?_⟩⟩
   ·exact ((hs1.mono hx2).setT b2 (by decide)).setT (by rw [a0W (by omega)];exact b3) (by decide)
   ·exact (hs2.setT b2 (by decide)).setT (by rw [a0W (by omega)];exact b3) (by decide)
  ·have hlt2:2≤(a0o (a0B j).natAbs).length:=by omega
   have hle:(a0o (a0B j).natAbs).length≤(a0o (a0B i).natAbs).length:=b0e (by omega)
   have h1':¬ ((a0o (a0B j).natAbs).length:Int)=1:=by omega
   simp [u0V,E0F,h0,hcl,h1,h1',k3.slen]
   refine (m0m k2 k3 hx.1 (by omega) hlt2 hle (l0V (by omega))).mono ?_
   rintro _ G2 ⟨⟨q1,o,q2,o2,rfl,k4,hov,hol,k5,hov2,hol2⟩,hx2⟩
   replace b0:=hx2.blk b0;replace b1:=hx2.blk b1;replace b2:=hx2.blk b2;replace b3:=hx2.blk b3;replace hx:=hx.trans hx2;replace k0:=k0.mono hx2;replace k1:=k1.mono hx2
   rw [a0q,a0q] at hov hov2
   simp [h0]
   refine a0G ?_
   simp [x0p,h0,b0,b1]
   refine (b0x k0 (by have:=hx.1;omega) (by omega)).mono ?_
   rintro _ G2 ⟨rfl,hx2⟩
   replace b0:=hx2.blk b0;replace b1:=hx2.blk b1;replace b2:=hx2.blk b2;replace b3:=hx2.blk b3;replace hx:=hx.trans hx2;replace k0:=k0.mono hx2;replace k1:=k1.mono hx2;replace k4:=k4.mono hx2;replace k5:=k5.mono hx2
   try simp [h0,b0,b1]
   refine (b0x k1 (by have:=hx.1;omega) (by omega)).mono ?_
   rintro _ G2 ⟨rfl,hx2⟩
   replace b0:=hx2.blk b0;replace b1:=hx2.blk b1;replace b2:=hx2.blk b2;replace b3:=hx2.blk b3;replace hx:=hx.trans hx2;replace k0:=k0.mono hx2;replace k4:=k4.mono hx2;replace k5:=k5.mono hx2
   try simp [h0]
   refine (c0n ((a0B i).tdiv (a0B j)) k4 (by have:=hx.1;omega) (by omega) (by rw [hov,← e1])).mono ?_
   rintro _ G2 ⟨⟨s1,rfl,hs1⟩,hx2⟩
   replace b0:=hx2.blk b0;replace b1:=hx2.blk b1;replace b2:=hx2.blk b2;replace b3:=hx2.blk b3;replace hx:=hx.trans hx2;replace k0:=k0.mono hx2;replace k5:=k5.mono hx2
   try simp [h0,b0,b1]
   refine (b0x k0 (by have:=hx.1;omega) (by omega)).mono ?_
   rintro _ G2 ⟨rfl,hx2⟩
   replace b2:=hx2.blk b2;replace b3:=hx2.blk b3;replace hx:=hx.trans hx2;replace k5:=k5.mono hx2
   replace hs1:=hs1.mono hx2
   try simp [h0]
   refine (c0n ((a0B i).tmod (a0B j)) k5 (by have:=hx.1;omega) (by omega) (by rw [hov2,← e2])).mono ?_
   rintro _ G2 ⟨⟨s2,rfl,hs2⟩,hx2⟩
   replace b2:=hx2.blk b2;replace b3:=hx2.blk b3;replace hx:=hx.trans hx2
   have hz:=a0i b3
   have hz2:=a0i b2
   simp [h0,b2,b3,hs1.cells,hs1.plain,hs2.cells,hs2.plain,hz,hz2]
   refine fun _=>⟨_,_,⟨rfl,rfl⟩,⟨s1,rfl,?_⟩,⟨s2,rfl,?_⟩⟩
   ·exact ((hs1.mono hx2).setT b2 (by decide)).setT (by rw [a0W (by omega)];exact b3) (by decide)
   ·exact (hs2.setT b2 (by decide)).setT (by rw [a0W (by omega)];exact b3) (by decide)
end
section
open Go
abbrev Log:=List (List Nat × List Nat)
def WRL (E:Env) (fl:Nat):List a0I→b0b→a0e→Log→(b0b→a0e→Log→Prop)→Prop
 | [],t,H,lg,Z=>Z t H lg
 | o :: r,t,H,lg,Z=>if b0j t o.g then WS E fl t H o.op (fun v H'=>WRL E fl r (put t o.dst v) H' (d0i t o.op :: lg) Z) (fun _=>False) else WRL E fl r (put t o.dst undef) H (([],[]) :: lg) Z
variable {E:Env} {fl:Nat} {t:b0b} {H:a0e} {Q:d0X} {R:a0E}
theorem p0H (bef:List Nat) (pairs:List (Nat × Nat)) {Z:b0b→a0e→Prop}:∀ (ops:List a0I) (i:Nat) (t:b0b) (H:a0e) (log:Log),
  WRL E fl ops t H log (fun t' H' lg=>c0U lg.reverse pairs=true∧Z t' H')→∃ n t' H',b0S (b0p E n) fl bef pairs i ops t H none log=.fin .normal t' H'∧Z t' H'
 | [],i,t,H,log,h=>⟨0,t,H,by simp only [b0S];rw [i1n h.1],h.2⟩
 | o :: r,i,t,H,log,h=>by
  simp only [WRL] at h
  split at h
  ·rename_i hw
   obtain ⟨n,hn⟩:=A0d h
   cases hs:b0z (b0p E n) fl t H o.op with
   | bad=>rw [hs] at hn;exact i1A hn id
   | pan v=>rw [hs] at hn;exact i1A hn id
   | ok rr =>
    obtain ⟨v,H'⟩:=rr
    rw [hs] at hn
    obtain ⟨m,t2,H2,hm,hz⟩:=p0H bef pairs r (i + 1) _ _ _ hn
    refine ⟨max n m,t2,H2,?_,hz⟩
    have h1:=f0Y (a0N E n (max n m) (by omega)) (i1j fl) (t:=t) (H:=H) (so:=o.op) (by rw [hs];simp)
    have h2:=d0n (a0N E m (max n m) (by omega)) (i1j fl) bef pairs r (i + 1) (put t o.dst v) H' none (d0i t o.op :: log) (by rw [hm];simp)
    simp only [b0S,h0m,i1H,j1h,hw,i1X,h1,hs,h2];exact hm
  ·rename_i hw
   obtain ⟨m,t2,H2,hm,hz⟩:=p0H bef pairs r (i + 1) _ _ _ h
   exact ⟨m,t2,H2,by simp only [b0S,h0m,i1H,j1h,hw];exact hm,hz⟩
theorem c0J {ops:List a0I} {bef:List Nat} {pairs:List (Nat × Nat)} (h:WRL E fl ops t H [] (fun t' H' lg=>c0U lg.reverse pairs=true∧Q .normal t' H')):W E fl (.draw ops bef pairs) t H Q R:=by
 obtain ⟨n,t',H',hn,hz⟩:=p0H bef pairs ops 0 t H [] h
 refine ⟨n + 1,?_⟩
 have h2:=d0n (a0N E n (n+1) (by omega)) (i1j fl) bef pairs ops 0 t H none [] (by rw [hn];simp)
 simp only [b0f,h2,hn];exact hz
section
variable {Z:b0b→a0e→Log→Prop} {lg:Log} {d:Option Nat} {op:SOp} {r:List a0I}
@[simp ↓] theorem d1o:WRL E fl [] t H lg Z=Z t H lg:=nr rfl
@[simp ↓] theorem v0Z:WRL E fl (⟨d,none,op⟩ :: r) t H lg Z=WS E fl t H op (fun v H'=>WRL E fl r (put t d v) H' (d0i t op :: lg) Z) (fun _=>False):=by simp [WRL,b0j]
@[simp ↓] theorem g1m {j:Nat} {w:Bool}:WRL E fl (⟨d,some (j,w),op⟩ :: r) t H lg Z=if z0G w (get t j)=true then WS E fl t H op (fun v H'=>WRL E fl r (put t d v) H' (d0i t op :: lg) Z) (fun _=>False) else WRL E fl r (put t d undef) H (([],[]) :: lg) Z:=by
 have h:b0j t (some (j,w))=z0G w (get t j):=by
  simp only [b0j]
  generalize get t j=v
  cases v <;> rfl
 show (if b0j t (some (j,w))=true then _ else _)=_
 rw [h]
theorem z0Z {t t':b0b} {ops:List a0I} {lg:Log} (h:t=t'):WRL E fl ops t H lg Z=WRL E fl ops t' H lg Z:=by rw [h]
attribute [congr] z0Z
@[simp] theorem Y0n {p:Addr}:blkOf (.pointer (some p))=[p.block]:=nr rfl
@[simp] theorem b1t {p:Addr} {n c:Nat}:blkOf (.slice (some p) n c)=[p.block]:=nr rfl
@[simp] theorem W0S {n c:Nat}:blkOf (.slice none n c)=[]:=nr rfl
@[simp] theorem e1e {p:Addr} {n c:Nat}:blkW (.slice (some p) n c)=if n=0∧c=0 then [] else [p.block]:=nr rfl
@[simp] theorem Y0o {n c:Nat}:blkW (.slice none n c)=[]:=nr rfl
attribute [simp] d0i c0U s0w
end
end
section
open Go
set_option maxHeartbeats 4000000
variable {fl:Nat} {H:a0e} {R:a0E} {v w:Value} {i j:Bool × List Nat}
theorem new2 {G:a0e} {z1 z2 r1 r2:Blk}:Ext G (Array.setIfInBounds (Array.setIfInBounds (Array.push (Array.push G z1) z2) G.size r1) (G.size + 1) r2) ∧
  a0e.blk (Array.setIfInBounds (Array.setIfInBounds (Array.push (Array.push G z1) z2) G.size r1) (G.size + 1) r2) G.size=r1 ∧
  a0e.blk (Array.setIfInBounds (Array.setIfInBounds (Array.push (Array.push G z1) z2) G.size r1) (G.size + 1) r2) (G.size + 1)=r2:=by
 refine ⟨(((Ext.refl G).push.push).set (by omega)).set (by omega),?_,?_⟩
 ·rw [a0W (by omega),a0z (by simp)]
 ·rw [a0z (by simp)]
theorem a0s (n:Nat):(a0k (n:Int))=(false,a0o n):=by unfold a0k;simp
theorem f0q (h:b0q H v i) (k:b0q H w j) (hf:fl≤H.size) (hn:i.2.length < 536870912) (hm:j.2.length < 536870912) :
  a0S env fl s0a [v,w] H (fun r H'=>b0q H' r (a0k (Int.gcd (a0B i) (a0B j)))∧Ext H H') R:=by
 have k0:=h
 have k1:=k
 obtain ⟨s,rfl,hs⟩:=h
 obtain ⟨u,rfl,hu⟩:=k
 refine a0g e1G hf (h:=?_)
 intro ρ h0
 simp [L0I,E0p,h0]
 generalize hG:Array.push (Array.push (Array.push H _) _) _=G
 have hx:Ext H G:=by rw [← hG];exact (Ext.refl H).push.push.push
 have b0:a0e.blk G H.size=.row false a0a [.bool i.1,s]:=by rw [← hG];simp
 have b1:a0e.blk G (H.size + 1)=.row false a0a [.bool j.1,u]:=by rw [← hG];simp
 have b2:a0e.blk G (H.size + 2)=.row false a0a [.bool false,.slice none 0 0]:=by rw [← hG];simp
 have hz:H.size + 2 < G.size:=a0i b2
 clear hG
 replace k0:=k0.mono hx
 replace k1:=k1.mono hx
 have l1:=a0A k0.ok
 have l2:=a0A k1.ok
 refine a0G ?_
 simp [E0q,h0,b0,b1]
 refine (b0M k0 (by omega) (by omega)).mono ?_
 rintro x G2 ⟨k2,hx2⟩
 replace b0:=hx2.blk b0;replace b1:=hx2.blk b1;replace b2:=hx2.blk b2;replace hx:=hx.trans hx2;replace k0:=k0.mono hx2;replace k1:=k1.mono hx2
 try simp [h0]
 refine (c0n (((a0B i).natAbs:Nat):Int) k2 (by have:=hx.1;omega) (by omega) (by simp [a0q])).mono ?_
 rintro x G2 ⟨k2,hx2⟩
 replace b0:=hx2.blk b0;replace b1:=hx2.blk b1;replace b2:=hx2.blk b2;replace hx:=hx.trans hx2;replace k0:=k0.mono hx2;replace k1:=k1.mono hx2
 try simp [h0,b1]
 refine (b0M k1 (by have:=hx.1;omega) (by omega)).mono ?_
 rintro y G2 ⟨k3,hx2⟩
 replace b0:=hx2.blk b0;replace b1:=hx2.blk b1;replace b2:=hx2.blk b2;replace hx:=hx.trans hx2;replace k0:=k0.mono hx2;replace k1:=k1.mono hx2;replace k2:=k2.mono hx2
 try simp [h0]
 refine (c0n (((a0B j).natAbs:Nat):Int) k3 (by have:=hx.1;omega) (by omega) (by simp [a0q])).mono ?_
 rintro y G2 ⟨k3,hx2⟩
 replace b0:=hx2.blk b0;replace b1:=hx2.blk b1;replace b2:=hx2.blk b2;replace hx:=hx.trans hx2;replace k0:=k0.mono hx2;replace k1:=k1.mono hx2;replace k2:=k2.mono hx2
 obtain ⟨s2,hxe,k2⟩:=k2
 obtain ⟨s3,hye,k3⟩:=k3
 have hsz:=hx.1
 have hsz1:H.size≤G2.size + 1:=by omega
 have hc0:=a0i b2
 simp [h0,hsz1,hxe,hye,k2.cells,k3.cells,k2.plain,k3.plain,hsz]
 rw [a0s] at k2 k3
 obtain ⟨hx2,b3,b4⟩:=new2 (G:=G2) (z1:=.row false a0a [.bool false,.slice none 0 0]) (z2:=.row false a0a [.bool false,.slice none 0 0]) (r1:=.row false a0a [.bool false,s2]) (r2:=.row false a0a [.bool false,s3])
 replace k2:=k2.mono hx2
 replace k3:=k3.mono hx2
 replace b2:=hx2.blk b2
 replace hx:=hx.trans hx2
 simp only [a0s]
 generalize Array.setIfInBounds _ _ _=G3 at *
 generalize hP:G2.size=P at *
 refine b0R (fun c t G=>∃ (a b:Nat) (s5 s6:Value),c=b∧t.length=30∧get t 4=.pointer (some ⟨H.size + 2,0,none⟩)∧get t 5=.pointer (some ⟨P,0,none⟩)∧get t 6=.pointer (some ⟨P + 1,0,none⟩) ∧
   Ext H G∧a0e.blk G (H.size + 2)=.row false a0a [.bool false,.slice none 0 0]∧a0e.blk G P=.row false a0a [.bool false,s5]∧a0e.blk G (P + 1)=.row false a0a [.bool false,s6]∧Lim G s5 (a0o a)∧Lim G s6 (a0o b) ∧
   (a0o a).length < 536870912∧(a0o b).length < 536870912∧Nat.gcd a b=Int.gcd (a0B i) (a0B j))
  (fun t G=>∃ (a:Nat) (s5:Value),t.length=30∧get t 4=.pointer (some ⟨H.size + 2,0,none⟩)∧get t 5=.pointer (some ⟨P,0,none⟩) ∧
   Ext H G∧a0e.blk G (H.size + 2)=.row false a0a [.bool false,.slice none 0 0]∧a0e.blk G P=.row false a0a [.bool false,s5]∧Lim G s5 (a0o a)∧a=Int.gcd (a0B i) (a0B j)) (a0B j).natAbs ?_ ?_ ?_
 ·exact ⟨(a0B i).natAbs,(a0B j).natAbs,s2,s3,rfl,by simp,by simp,by simp,by simp,hx,b2,b3,b4,k2,k3,by omega,by omega,rfl⟩
 ·clear h0 ρ k0 k1 k2 k3 b0 b1 b2 hx
  rintro c t G ⟨a,b,s5,s6,rfl,ht,g4,g5,g6,hx,b2,b3,b4,k5,k6,la,lb,hg⟩
  obtain ⟨ρ,rfl⟩:=toT ht
  simp only [b0Q,Nat.reduceLT] at g4 g5 g6
  by_cases hb:c=0
  ·subst hb
   rw [a0X] at k6
   simp [u0U,g4,g5,g6,b2,b3,b4,k6.slen]
   rw [Nat.gcd_zero_right] at hg
   exact ⟨hx,by rw [← hg];exact k5⟩
  ·have hdl:0 < (a0o c).length:=l1d.2 (by rw [Ne,b0K];exact hb)
   have hdl':(0:Int) < ((a0o c).length:Int):=by omega
   have hnil:a0o c ≠ []:=by rw [Ne,b0K];exact hb
   simp [u0U,E0r,g4,g5,g6,b2,b3,b4,k6.slen,hdl,hdl',hnil]
   have k0:b0q G (.agg #[.bool false,s5]) (a0k (a:Int)):=⟨s5,by rw [a0s],by rw [a0s];exact k5⟩
   have k1:b0q G (.agg #[.bool false,s6]) (a0k (c:Int)):=⟨s6,by rw [a0s],by rw [a0s];exact k6⟩
   refine (b0V k0 k1 hx.1 (by rw [a0s];exact la) (by rw [a0s];exact lb) (by rw [a0j];omega)).mono ?_
   rintro _ G2 ⟨⟨q,m,rfl,k7,k8⟩,hx2⟩
   replace b2:=hx2.blk b2;replace b3:=hx2.blk b3;replace b4:=hx2.blk b4;replace hx:=hx.trans hx2;replace k0:=k0.mono hx2;replace k1:=k1.mono hx2;replace k5:=k5.mono hx2;replace k6:=k6.mono hx2
   rw [a0j,a0j] at k7 k8
   have hmod:((a:Int).tmod (c:Int))=((a % c:Nat):Int):=by rw [Int.tmod_eq_emod_of_nonneg (by omega)];rfl
   rw [hmod,a0s] at k8
   obtain ⟨s7,rfl,k7⟩:=k7
   obtain ⟨s8,rfl,k8⟩:=k8
   have hsz:=hx.1
   have hsz1:H.size≤G2.size + 1:=by omega
   have hc1:=a0i b4
   simp [g4,g5,g6,b3,b4,k7.cells,k8.cells,k7.plain,k8.plain,hsz,hsz1]
   obtain ⟨hx2,b5,b6⟩:=new2 (G:=G2) (z1:=.row false a0a [.bool false,.slice none 0 0]) (z2:=.row false a0a [.bool false,.slice none 0 0]) (r1:=.row false a0a [.bool (a0k (↑a / ↑c)).1,s7]) (r2:=.row false a0a [.bool false,s8])
   replace b2:=hx2.blk b2;replace b3:=hx2.blk b3;replace b4:=hx2.blk b4;replace hx:=hx.trans hx2;replace k0:=k0.mono hx2;replace k1:=k1.mono hx2;replace k5:=k5.mono hx2;replace k6:=k6.mono hx2;replace k8:=k8.mono hx2
   generalize Array.setIfInBounds (Array.setIfInBounds _ _ _) _ _=G3 at *
   have hl1:=a0i b3
   have hl2:=a0i b4
   have hHP:H.size≤P:=by omega
   have hHP1:H.size≤P + 1:=by omega
   have hne:P + 1 ≠ P:=by omega
   have hne2:P ≠ G2.size + 1:=by omega
   have hne3:G2.size + 1 ≠ P:=by omega
   refine c0J ?_
   simp [E0s,g4,g5,g6,b4,b6,b3,k6.cells,k8.cells,k6.plain,k8.plain,hHP,hHP1,hne,hne2,hne3]
   have hmc:a % c < c:=j1G _ (by omega)
   refine ⟨a % c,hmc,(hx.set hHP).set hHP1,by rw [a0W (by omega),a0W (by omega)];exact b2,c,s6,by rw [a0z hl1],s8,by rw [a0z (by simpa using hl2)],?_,?_,lb,l1k (b0e (l1h hmc)) lb,by rw [Nat.gcd_comm,← Nat.gcd_rec,Nat.gcd_comm,hg]⟩
   ·exact (k6.setT b3 (by decide)).setT (by rw [a0W (by omega)];exact b4) (by decide)
   ·exact (k8.setT b3 (by decide)).setT (by rw [a0W (by omega)];exact b4) (by decide)
 ·clear h0 ρ k0 k1 k2 k3 b0 b1 b2 hx
  rintro t G ⟨a,s5,ht,g4,g5,hx,b2,b3,k5,hg⟩
  obtain ⟨ρ,rfl⟩:=toT ht
  simp only [b0Q,Nat.reduceLT] at g4 g5
  have hl1:=a0i b2
  have hl2:=a0i b3
  subst hg
  simp [E0t,g4,g5,b2,b3,k5.cells,k5.plain,hl1]
  exact fun _=>⟨s5,rfl,k5.setT b2 (by decide)⟩
end
section
open Go
def z0R (E:Env) (fl fl':Nat) (f:FuncId) (args:List Value) (H:a0e) (d:Option Nat) (r:List a0I) (t:b0b) (Z:b0b→a0e→Prop) (R:a0E):Prop :=
 a0S E fl' f args H (fun v H'=>WR E fl r (put t d v) H' Z R) R
@[simp ↓ high] theorem b1j {E:Env} {fl:Nat} {t:b0b} {H:a0e} {R:a0E} {d:Option Nat} {r:List a0I} {Z:b0b→a0e→Prop} {f:FuncId} {az:List Opd} {lone:Bool} :
  WS E fl t H (.call f az lone) (fun v H'=>WR E fl r (put t d v) H' Z R) R=z0R E fl (if lone then fl else max fl H.size) f (az.map (ev t)) H d r t Z R:=nr rfl
def z0N (E:Env) (fl fl':Nat) (x:Value) (args:List Value) (H:a0e) (d:Option Nat) (r:List a0I) (t:b0b) (Z:b0b→a0e→Prop) (R:a0E):Prop :=
 match x with
 | .func (.func f) p q=>z0R E fl fl' f (p.toList ++ args ++ q.toList) H d r t Z R
 | _=>False
@[simp ↓ high] theorem X0U {E:Env} {fl:Nat} {t:b0b} {H:a0e} {R:a0E} {d:Option Nat} {r:List a0I} {Z:b0b→a0e→Prop} {x:Opd} {az:List Opd} {lone:Bool} :
  WS E fl t H (.callv x az lone) (fun v H'=>WR E fl r (put t d v) H' Z R) R=z0N E fl (if lone then fl else max fl H.size) (ev t x) (az.map (ev t)) H d r t Z R:=by
 simp only [WS,opA,z0N];generalize ev t x=y
 cases y <;> try rfl
 rename_i g _ _;cases g <;> rfl
@[simp] theorem X0E {E:Env} {fl fl':Nat} {t:b0b} {H:a0e} {R:a0E} {d:Option Nat} {r:List a0I} {Z:b0b→a0e→Prop} {f:FuncId} {p q:Array Value} {az:List Value} :
  z0N E fl fl' (.func (.func f) p q) az H d r t Z R=z0R E fl fl' f (p.toList ++ az ++ q.toList) H d r t Z R:=nr rfl
theorem t0z {E:Env} {fl fl' fl2:Nat} {t t':b0b} {H:a0e} {R:a0E} {d:Option Nat} {r:List a0I} {Z:b0b→a0e→Prop} {f:FuncId} {az az':List Value} (h:az=az') (ht:t=t') (hf:fl' = fl2) :
  z0R E fl fl' f az H d r t Z R=z0R E fl fl2 f az' H d r t' Z R:=by rw [h,ht,hf]
attribute [congr] t0z
section
variable {E:Env} {fl:Nat} {t:b0b} {H:a0e} {Z:b0b→a0e→Log→Prop} {lg:Log} {d:Option Nat} {r:List a0I}
def d1j (E:Env) (fl fl':Nat) (f:FuncId) (args:List Value) (H:a0e) (d:Option Nat) (r:List a0I) (t:b0b) (lg:Log) (Z:b0b→a0e→Log→Prop):Prop :=
 a0S E fl' f args H (fun v H'=>WRL E fl r (put t d v) H' lg Z) (fun _=>False)
@[simp ↓ high] theorem b1k {f:FuncId} {az:List Opd} {lone:Bool} :
  WS E fl t H (.call f az lone) (fun v H'=>WRL E fl r (put t d v) H' lg Z) (fun _=>False)=d1j E fl (if lone then fl else max fl H.size) f (az.map (ev t)) H d r t lg Z:=nr rfl
end
section
variable {H G G3:a0e} {q p:Nat} {X r0:Blk} {ro:Bool} {e:TypeId} {cs:List Value}
theorem a0p (hS:Array.setIfInBounds G q X=G3) (hb:a0e.blk G p=r0) (h:q ≠ p):a0e.blk G3 p=r0:=by rw [← hS,a0W h];exact hb
theorem a0v (hS:Array.setIfInBounds G q X=G3) (hb:a0e.blk G q=.row ro e cs):a0e.blk G3 q=X:=by rw [← hS,a0z (a0i hb)]
theorem a0Y (hS:Array.setIfInBounds G q X=G3) (hx:Ext H G) (h:H.size≤q):Ext H G3:=by rw [← hS];exact hx.set h
theorem Lim.setS {v:Value} {l:List Nat} (k:Lim G v l) (hS:Array.setIfInBounds G q X=G3) (hb:a0e.blk G q=.row ro e cs) (hne:e ≠ a0h):Lim G3 v l:=by rw [← hS];exact k.setT hb hne
theorem b0q.setS {v:Value} {i:Bool × List Nat} (k:b0q G v i) (hS:Array.setIfInBounds G q X=G3) (hb:a0e.blk G q=.row ro e cs) (hne:e ≠ a0h):b0q G3 v i:=by rw [← hS];exact k.setT hb hne
theorem new1 {z r:Blk} (hN:Array.setIfInBounds (Array.push G z) G.size r=G3):Ext G G3∧a0e.blk G3 G.size=r:=by
 rw [← hN];exact ⟨((Ext.refl G).push).set (by omega),by rw [a0z (by simp)]⟩
theorem g0R {z:Blk} (hN:Array.push G z=G3):Ext G G3∧a0e.blk G3 G.size=z:=by
 rw [← hN];exact ⟨(Ext.refl G).push,a0D⟩
end
def lz (z:Int):Nat:=(a0o z.natAbs).length
theorem s0t {z:Int} {k:Nat} (h:z.natAbs < 4294967296 ^ k):lz z≤k:=e0m h
theorem B0s (z:Int):z.natAbs < 4294967296 ^ lz z:=e0z _
theorem u0a {x y:Int} (h:x.natAbs≤y.natAbs):lz x≤lz y:=b0e h
theorem c0V (x y:Int):lz (x * y)≤lz x + lz y:=by
 refine s0t ?_
 rw [j1R,k1h]
 exact Nat.mul_lt_mul'' (B0s x) (B0s y)
theorem s0s (x y:Int):lz (x + y)≤max (lz x) (lz y) + 1:=by
 refine s0t ?_
 have h1:=B0s x
 have h2:=B0s y
 have h3:(4294967296:Nat) ^ lz x≤4294967296 ^ max (lz x) (lz y):=j1y (by omega) (by omega)
 have h4:(4294967296:Nat) ^ lz y≤4294967296 ^ max (lz x) (lz y):=j1y (by omega) (by omega)
 have:=Int.natAbs_add_le x y
 rw [i1G]
 omega
theorem f0p (x:Int):lz (-x)=lz x:=by unfold lz;rw [Int.natAbs_neg]
theorem g0F:lz 1=1:=by unfold lz;rw [e0n (by decide),show (1:Int).natAbs / 4294967296=0 from rfl,a0X];rfl
theorem c0K:lz 0=0:=by unfold lz;rw [show (0:Int).natAbs=0 from rfl,a0X];rfl
theorem a0n (z:Int):(a0k z).2.length=lz z:=rfl
theorem w0C {i:Bool × List Nat} (h:b0a i.2):lz (a0B i)≤i.2.length:=a0A h
end
section
open Go
set_option maxHeartbeats 4000000
variable {fl:Nat} {H:a0e} {R:a0E} {v w:Value} {i j:Bool × List Nat}
abbrev b0h:=(Bool × List Nat) × (Bool × List Nat)
def b0P (H:a0e) (v:Value) (a:b0h):Prop:=∃ s u,v=.agg #[.bool a.1.1,s,.bool a.2.1,u]∧Lim H s a.1.2∧Lim H u a.2.2
variable {a b:b0h}
theorem b0P.mono {G:a0e} (h:b0P H v a) (hx:Ext H G):b0P G v a:=by obtain ⟨s,u,h1,h2,h3⟩:=h;exact ⟨s,u,h1,h2.mono hx,h3.mono hx⟩
theorem b0P.setT (h:b0P H v a) {p:Nat} {ro:Bool} {e':TypeId} {cs':List Value} {r:Blk} (hb:H.blk p=.row ro e' cs') (hne:e' ≠ a0h):b0P (H.setIfInBounds p r) v a:=by
 obtain ⟨s,u,h1,h2,h3⟩:=h;exact ⟨s,u,h1,h2.setT hb hne,h3.setT hb hne⟩
theorem b0P.setS {G3:a0e} {q:Nat} {X:Blk} {ro:Bool} {e:TypeId} {cs:List Value} (k:b0P H v a) (hS:Array.setIfInBounds H q X=G3) (hb:a0e.blk H q=.row ro e cs) (hne:e ≠ a0h):b0P G3 v a:=by rw [← hS];exact k.setT hb hne
def d0b (a:b0h):Nat:=max a.1.2.length a.2.2.length
def d0O (a:b0h):Bool:=!a.1.1 && a.1.2.length == 0 && !a.2.1 && a.2.2.length == 0
def n0F (a:b0h):Bool:=d0O a || (g0h a.1 && g0h a.2 && !a.2.1 && a0B a.2 != 0 && Int.gcd (a0B a.1) (a0B a.2) == 1)
def b0u (a:b0h):Rat:=if d0O a then 0 else if n0F a then Rat.divInt (a0B a.1) (a0B a.2) else 0
def a0f (x:Rat):b0h:=(a0k x.num,a0k x.den)
theorem J0x (a:b0h):d0O a=true ↔ a=((false,[]),(false,[])):=by
 obtain ⟨⟨b1,l1⟩,⟨b2,l2⟩⟩:=a
 unfold d0O;cases b1 <;> cases b2 <;> simp
theorem k0G (hz:d0O a=false) (hm:n0F a=true):a0f (b0u a)=(a0k (a0B a.1),a0k (a0B a.2)):=by
 unfold b0u
 rw [hz,hm]
 unfold n0F at hm
 rw [hz,k1Q] at hm
 simp only [i1y,k1e,bne_iff_ne,ne_eq,beq_iff_eq] at hm
 obtain ⟨⟨⟨⟨h1,h2⟩,h3⟩,h4⟩,h5⟩:=hm
 have hq:0 < a0B a.2:=by
  unfold a0B at h4 ⊢;rw [h2,h3] at h4 ⊢;simp at h4 ⊢;omega
 have hd:((a0B a.2).toNat:Int)=a0B a.2:=k1z (by omega)
 have h6:Rat.divInt (a0B a.1) (a0B a.2) = ⟨a0B a.1,(a0B a.2).toNat,by omega,by rw [Nat.Coprime,← h5,Int.gcd];congr 1;omega⟩:=by
  rw [Rat.mk_eq_divInt,hd]
 simp only [i1H,j1h,i1X]
 rw [h6];unfold a0f;simp only [hd]
theorem l0R:a0f 0=((false,[]),a0k 1):=by
 show (a0k 0,a0k 1)=_;rw [e0k]
theorem n0A (x:Rat):d0O (a0f x)=false:=by
 have:=x.den_nz
 unfold d0O a0f
 have h:a0o (x.den:Int).natAbs ≠ []:=by rw [Ne,b0K];omega
 have h2:(a0o x.den).length ≠ 0:=by intro h3;exact h (i1I.1 h3)
 simp [a0k];intro _ _;simpa using h2
theorem f0O (x:Rat):n0F (a0f x)=true:=by
 have h1:=x.den_nz
 have h2:=x.reduced
 unfold n0F
 rw [n0A,k1Q]
 unfold a0f
 simp only [s0v,a0j,i1y,k1e,bne_iff_ne,beq_iff_eq]
 refine ⟨⟨⟨⟨trivial,trivial⟩,by simp [a0k]⟩,by omega⟩,?_⟩
 rw [Int.gcd,Int.natAbs_natCast];exact h2
theorem a0w (x:Rat):b0u (a0f x)=x:=by
 unfold b0u
 rw [n0A,f0O]
 simp only [i1H,j1h,i1X]
 unfold a0f
 rw [a0j,a0j,l1l]
theorem j0N (h:b0P H v a) (hf:fl≤H.size):a0S env fl y0B [v] H (fun r H'=>r=.bool (d0O a)∧Ext H H') R:=by
 obtain ⟨s,u,rfl,hs,hu⟩:=h
 refine a0g e1u hf (h:=?_)
 intro ρ h0
 simp [L0w,D0v,h0]
 have hsl:=hs.slen
 have hul:=hu.slen
 cases h1:a.1.1
 ·by_cases h2:a.1.2=[]
  ·cases h3:a.2.1
   ·simp [n0c,h0,h1,h2,h3,hsl,hul,d0O]
   ·simp [n0c,h0,h1,h2,h3,hsl,hul,d0O]
  ·simp [n0c,h0,h1,h2,hsl,hul,d0O]
 ·simp [n0c,h0,h1,hsl,hul,d0O]
theorem j0M (h:b0q H v i) (hf:fl≤H.size) (hn:i.2.length < 536870912):a0S env fl y0D [v] H (fun r H'=>r=.bool (a0B i == 0)∧Ext H H') R:=by
 have k0:=h
 obtain ⟨s,rfl,hs⟩:=h
 refine a0g e1E hf (h:=?_)
 intro ρ h0
 simp [L0G,E0h,E0i,h0]
 refine (d0R (k0.mono (by simp)) (j:=(false,[])) ⟨_,rfl,Lim.nil⟩ (by simp) hn (by simp)).mono ?_
 rintro _ G2 ⟨rfl,hx2⟩
 have:a0B (false,[])=0:=by unfold a0B g0h;simp [a0u]
 rw [this]
 simp [c0A]
 intro _
 by_cases h1:a0B i < 0
 ·simp [h1];omega
 ·by_cases h2:0 < a0B i
  ·simp [h1,h2];omega
  ·simp [h1,h2];omega
theorem f0x (hf:fl≤H.size):a0S env fl t0S [] H (fun r H'=>b0q H' r (a0k 1)∧Ext H H') R:=by
 refine a0g e1m hf (h:=?_)
 intro ρ h0
 simp [L0o,C0D,C0E,h0]
 refine (c0r (by simp) (by omega) (by omega)).mono ?_
 rintro _ G2 ⟨⟨s,rfl,hs⟩,hx2⟩
 have b0:=hx2.blk a0D
 have hz:=a0i b0
 simp [b0,hs.cells,hs.plain,hz]
 exact fun _=>⟨s,rfl,hs.setT b0 (by decide)⟩
theorem h0D (h:b0P H v a) (hf:fl≤H.size) (hn:d0b a < 536870912):a0S env fl t0R [v] H (fun r H'=>r=.bool (n0F a)∧Ext H H') R:=by
 have k0:=h
 have hn1:a.1.2.length < 536870912:=by unfold d0b at hn;omega
 have hn2:a.2.2.length < 536870912:=by unfold d0b at hn;omega
 obtain ⟨s,u,rfl,hs,hu⟩:=h
 have k1:b0q H (.agg #[.bool a.1.1,s]) a.1:=⟨s,rfl,hs⟩
 have k2:b0q H (.agg #[.bool a.2.1,u]) a.2:=⟨u,rfl,hu⟩
 refine a0g e1i hf (h:=?_)
 intro ρ h0
 simp [L0k,C0n,h0]
 generalize hG:Array.push H _=G
 have hx2:Ext H G:=by rw [← hG];simp
 have b0:a0e.blk G H.size=.row false a0b [.bool a.1.1,s,.bool a.2.1,u]:=by rw [← hG];simp
 have hx:=Ext.refl H
 clear hG
 replace hx:=hx.trans hx2;replace k0:=k0.mono hx2;replace k1:=k1.mono hx2;replace k2:=k2.mono hx2
 simp [C0o,h0,b0]
 refine (j0N k0 hx.1).mono ?_
 rintro _ G2 ⟨rfl,hx2⟩
 replace b0:=hx2.blk b0;replace hx:=hx.trans hx2;replace k1:=k1.mono hx2;replace k2:=k2.mono hx2
 unfold n0F
 cases hz:d0O a
 case true=>simp [C0p]
 simp [C0q,h0,b0]
 refine (f0r k1 hx.1 (by omega)).mono ?_
 rintro _ G2 ⟨rfl,hx2⟩
 replace b0:=hx2.blk b0;replace hx:=hx.trans hx2;replace k1:=k1.mono hx2;replace k2:=k2.mono hx2
 cases h1:g0h a.1
 case false=>simp
 simp [h0,b0]
 refine (f0r k2 hx.1 (by omega)).mono ?_
 rintro _ G2 ⟨rfl,hx2⟩
 replace b0:=hx2.blk b0;replace hx:=hx.trans hx2;replace k1:=k1.mono hx2;replace k2:=k2.mono hx2
 cases h2:g0h a.2
 case false=>simp
 cases h3:a.2.1
 case true=>simp [h0,b0,h3]
 simp [h0,b0,h3]
 rw [← h3]
 refine (j0M k2 hx.1 hn2).mono ?_
 rintro _ G2 ⟨rfl,hx2⟩
 replace b0:=hx2.blk b0;replace hx:=hx.trans hx2;replace k1:=k1.mono hx2;replace k2:=k2.mono hx2
 by_cases h4:a0B a.2=0
 ·simp [h4] <;> exact fun _=>h3
 have h4':(a0B a.2 == 0)=false:=by simp [h4]
 simp [h0,b0,h4,h4',h3]
 rw [← h3]
 refine (f0q k1 k2 hx.1 hn1 hn2).mono ?_
 rintro x G2 ⟨k3,hx2⟩
 replace hx:=hx.trans hx2;replace k2:=k2.mono hx2
 try simp [h0]
 refine (f0x hx.1).mono ?_
 rintro y G2 ⟨k4,hx2⟩
 replace hx:=hx.trans hx2;replace k2:=k2.mono hx2;replace k3:=k3.mono hx2
 try simp [h0]
 have hgl:(a0k ((Int.gcd (a0B a.1) (a0B a.2):Nat):Int)).2.length < 536870912:=by
  rw [a0s]
  show (a0o _).length < _
  have h5:Int.gcd (a0B a.1) (a0B a.2)≤(a0B a.2).natAbs:=Int.gcd_le_natAbs_right _ h4
  have:=b0e h5
  have:=a0A k2.ok
  omega
 refine (d0R k3 k4 hx.1 hgl (by rw [a0n,g0F];decide)).mono ?_
 rintro _ G2 ⟨rfl,hx2⟩
 rw [a0j,a0j]
 simp
 intro _
 generalize Int.gcd (a0B a.1) (a0B a.2)=g
 have h6:(c0A (g:Int) 1 == 0)=(g == 1):=by
  unfold c0A
  by_cases hg:g=1
  ·subst hg;rfl
  ·have e:(g == 1)=false:=by simp [hg]
   rw [e];split
   ·rfl
   ·rename_i h7;split
    ·rfl
    ·omega
 simp [h3,h4,h6]
theorem c0i (h:b0P H v a) (hf:fl≤H.size) (hn:d0b a < 536870912):a0S env fl A0Z [v] H (fun r H'=>b0P H' r (a0f (b0u a))∧Ext H H') R:=by
 have k0:=h
 have hn1:a.1.2.length < 536870912:=by unfold d0b at hn;omega
 have hn2:a.2.2.length < 536870912:=by unfold d0b at hn;omega
 obtain ⟨s,u,rfl,hs,hu⟩:=h
 have k1:b0q H (.agg #[.bool a.1.1,s]) a.1:=⟨s,rfl,hs⟩
 have k2:b0q H (.agg #[.bool a.2.1,u]) a.2:=⟨u,rfl,hu⟩
 refine a0g h1I hf (h:=?_)
 intro ρ h0
 simp [c1U,S0F,h0]
 generalize hG:Array.push (Array.push H _) _=G
 have hx2:Ext H G:=by rw [← hG];simp
 have b0:a0e.blk G H.size=.row false a0b [.bool a.1.1,s,.bool a.2.1,u]:=by rw [← hG];simp
 have b1:a0e.blk G (H.size + 1)=.row false a0b [.bool false,.slice none 0 0,.bool false,.slice none 0 0]:=by rw [← hG];simp
 have hx:=Ext.refl H
 clear hG
 replace hx:=hx.trans hx2;replace k0:=k0.mono hx2;replace k1:=k1.mono hx2;replace k2:=k2.mono hx2
 simp [S0G,h0,b0]
 refine (j0N k0 hx.1).mono ?_
 rintro _ G2 ⟨rfl,hx2⟩
 replace b0:=hx2.blk b0;replace b1:=hx2.blk b1;replace hx:=hx.trans hx2;replace k0:=k0.mono hx2;replace k1:=k1.mono hx2;replace k2:=k2.mono hx2
 cases hz0:d0O a
 case true =>
  have hval:b0u a=0:=by unfold b0u;rw [hz0];rfl
  simp [I0i,h0]
  refine (f0x hx.1).mono ?_
  rintro _ G2 ⟨⟨s1,rfl,hs1⟩,hx2⟩
  replace b0:=hx2.blk b0;replace b1:=hx2.blk b1;replace hx:=hx.trans hx2;replace k0:=k0.mono hx2;replace k1:=k1.mono hx2;replace k2:=k2.mono hx2
  have hz:=a0i b1
  simp [h0,b1,hs1.cells,hs1.plain,hz]
  refine fun _=>?_
  rw [hval,l0R]
  exact ⟨_,s1,rfl,Lim.nil,hs1.setT b1 (by decide)⟩
 simp [h0,b0]
 refine (h0D k0 hx.1 hn).mono ?_
 rintro _ G2 ⟨rfl,hx2⟩
 replace b0:=hx2.blk b0;replace b1:=hx2.blk b1;replace hx:=hx.trans hx2;replace k1:=k1.mono hx2;replace k2:=k2.mono hx2
 cases hm:n0F a
 case false =>
  have hval:b0u a=0:=by unfold b0u;rw [hz0,hm];rfl
  simp [I0i,h0]
  refine (f0x hx.1).mono ?_
  rintro _ G2 ⟨⟨s1,rfl,hs1⟩,hx2⟩
  replace b0:=hx2.blk b0;replace b1:=hx2.blk b1;replace hx:=hx.trans hx2;replace k1:=k1.mono hx2;replace k2:=k2.mono hx2
  have hz:=a0i b1
  simp [h0,b1,hs1.cells,hs1.plain,hz]
  refine fun _=>?_
  rw [hval,l0R]
  exact ⟨_,s1,rfl,Lim.nil,hs1.setT b1 (by decide)⟩
 rw [k0G hz0 hm]
 simp [h0]
 refine a0G ?_
 simp [S0H,h0,b0]
 have hv0:a0B (false,[])=0:=by unfold a0B g0h;simp [a0u]
 refine (e0B k1 (j:=(false,[])) ⟨_,rfl,Lim.nil⟩ (by have:=hx.1;omega) hn1 (by simp)).mono ?_
 rintro _ G2 ⟨⟨s1,rfl,k3⟩,hx2⟩
 replace b0:=hx2.blk b0;replace b1:=hx2.blk b1;replace hx:=hx.trans hx2;replace k2:=k2.mono hx2
 rw [hv0,j1Q] at k3 ⊢
 try simp [h0,b0]
 refine (e0B k2 (j:=(false,[])) ⟨_,rfl,Lim.nil⟩ hx.1 hn2 (by simp)).mono ?_
 rintro _ G2 ⟨⟨s2,rfl,k4⟩,hx2⟩
 replace b1:=hx2.blk b1;replace hx:=hx.trans hx2;replace k3:=k3.mono hx2
 rw [hv0,j1Q] at k4 ⊢
 have hz:=a0i b1
 simp [h0,b1,k3.cells,k3.plain,k4.cells,k4.plain,hz]
 exact fun _=>⟨s1,s2,rfl,k3.setT b1 (by decide),k4.setT b1 (by decide)⟩
end
section
open Go
def szR (x:Rat):Nat:=max (lz x.num) (lz x.den)
theorem a0J (x:Rat):d0b (a0f x)=szR x:=rfl
theorem J0r (x:Rat):1≤szR x:=by
 unfold szR
 have:lz x.den ≠ 0:=by
  unfold lz
  intro h
  have:=b0K.1 (i1I.1 h)
  have:=x.den_nz
  omega
 omega
theorem e0w:szR 0=1:=by show max (lz 0) (lz 1)=1;rw [c0K,g0F];rfl
theorem r0r:szR 1=1:=by show max (lz 1) (lz 1)=1;rw [g0F];rfl
theorem r0q (z:Int):szR (z:Rat)=max (lz z) 1:=by
 unfold szR;rw [k1P,k1N];show max (lz z) (lz 1)=_;rw [g0F]
theorem b0O (p q:Int):szR (Rat.divInt p q)≤max (max (lz p) (lz q)) 1:=by
 unfold szR
 rw [Rat.num_divInt,Rat.den_divInt]
 have h1:lz (q.sign * p / ↑(q.gcd p))≤lz p:=by
  refine u0a ?_
  rw [Int.natAbs_ediv_of_dvd]
  ·refine i1t (j1K _ _) ?_
   rw [j1R]
   have : q.sign.natAbs ≤ 1 := by rcases Int.lt_trichotomy q 0 with h | h | h
                                  ·rw [Int.sign_eq_neg_one_of_neg h];decide
                                  ·rw [h];decide
                                  ·rw [Int.sign_eq_one_of_pos h];decide
   calc _≤1 * p.natAbs:=i1r _ this
    _=_:=i1W _
  ·exact Int.dvd_mul_of_dvd_right (l1n ..)
 have h2:lz ((if q=0 then 1 else q.natAbs / q.gcd p:Nat):Int)≤max (lz q) 1:=by
  split
  ·show lz 1≤_;rw [g0F];omega
  ·have:lz ((q.natAbs / q.gcd p:Nat):Int)≤lz q:=u0a (by rw [Int.natAbs_natCast];exact j1K _ _)
   omega
 omega
theorem k0P (n:Int) (d:Nat):mkRat n d=Rat.divInt n d:=rfl
theorem o0s (x y:Rat):x + y=Rat.divInt (x.num * y.den + y.num * x.den) (x.den * y.den):=by rw [Rat.add_def',k0P,j1I]
theorem o0H (x y:Rat):x * y=Rat.divInt (x.num * y.num) (x.den * y.den):=by rw [Rat.mul_def',k0P,j1I]
theorem o0w (x y:Rat):x / y=Rat.divInt (x.num * y.den) (x.den * y.num):=by
 rw [l1o,Rat.inv_def]
 conv=>lhs;lhs;rw [← l1l x]
 rw [Rat.divInt_mul_divInt]
theorem r0p (x y:Rat):szR (x + y)≤szR x + szR y + 1:=by
 rw [o0s]
 refine i1t (b0O _ _) ?_
 have h1:=s0s (x.num * y.den) (y.num * x.den)
 have h2:=c0V x.num y.den
 have h3:=c0V y.num x.den
 have h4:=c0V (x.den:Int) y.den
 unfold szR;omega
theorem g0C (x y:Rat):szR (x * y)≤szR x + szR y:=by
 rw [o0H]
 refine i1t (b0O _ _) ?_
 have h2:=c0V x.num y.num
 have h4:=c0V (x.den:Int) y.den
 have:=J0r x
 unfold szR at *;omega
theorem J0q (x:Rat):szR (-x)=szR x:=by unfold szR;rw [Rat.neg_num,Rat.neg_den,f0p]
theorem W0H (x y:Rat):szR (x / y)≤szR x + szR y:=by
 rw [o0w]
 refine i1t (b0O _ _) ?_
 have h2:=c0V x.num y.den
 have h4:=c0V (x.den:Int) y.num
 have:=J0r x
 unfold szR at *;omega
theorem c0y {a:b0h} (h1:b0a a.1.2) (h2:b0a a.2.2):szR (b0u a)≤max (d0b a) 1:=by
 by_cases hz:d0O a=true
 ·have:b0u a=0:=by unfold b0u;rw [hz];rfl
  rw [this,e0w];omega
 ·by_cases hm:n0F a=true
  ·have h3:=k0G (by simpa using hz) hm
   have h4:=a0J (b0u a)
   rw [h3] at h4
   rw [← h4]
   have:=w0C h1
   have:=w0C h2
   unfold d0b;simp only [a0n];omega
  ·have:b0u a=0:=by unfold b0u;simp [hz,hm]
   rw [this,e0w];omega
theorem C0g {p q g:Int} (hq:q ≠ 0) (hg:g=if q < 0 then -(Int.gcd p q:Int) else (Int.gcd p q:Int)):a0f (Rat.divInt p q)=(a0k (p.tdiv g),a0k (q.tdiv g))∧g ≠ 0:=by
 have hgp:0 < Int.gcd p q:=Int.gcd_pos_of_ne_zero_right _ hq
 have hg0:g ≠ 0:=by rw [hg];split <;> omega
 refine ⟨?_,hg0⟩
 have hdp : g ∣ p := by rw [hg]; split
                        ·exact Int.neg_dvd.2 (Int.gcd_dvd_left ..)
                        ·exact Int.gcd_dvd_left ..
 have hdq : g ∣ q := by rw [hg]; split
                        ·exact Int.neg_dvd.2 (l1n ..)
                        ·exact l1n ..
 have hna:g.natAbs=Int.gcd p q:=by rw [hg];split <;> simp
 have e1:=Int.tdiv_mul_cancel hdp
 have e2:=Int.tdiv_mul_cancel hdq
 have hcop:Int.gcd (p.tdiv g) (q.tdiv g)=1:=by
  have h1:Int.gcd (p.tdiv g * g) (q.tdiv g * g)=Int.gcd (p.tdiv g) (q.tdiv g) * g.natAbs:=Int.gcd_mul_right ..
  rw [e1,e2,hna] at h1
  have h2:1 * Int.gcd p q=Int.gcd (p.tdiv g) (q.tdiv g) * Int.gcd p q:=by rw [i1W];exact h1
  exact (Nat.eq_of_mul_eq_mul_right hgp h2).symm
 have hpos:0 < q.tdiv g:=by
  by_cases hq0:q < 0
  ·have:g < 0:=by rw [hg,i1n hq0];omega
   by_cases h:0 < q.tdiv g
   ·exact h
   ·have:=Int.mul_nonneg_of_nonpos_of_nonpos (a:=q.tdiv g) (b:=g) (by omega) (by omega);omega
  ·have:0 < g:=by rw [hg,i1k hq0];omega
   by_cases h:0 < q.tdiv g
   ·exact h
   ·have:=j1k (a:=q.tdiv g) (b:=g) (by omega) (by omega);omega
 have h3:Rat.divInt p q=Rat.divInt (p.tdiv g) (q.tdiv g):=by
  have h:=Rat.divInt_mul_right (n:=p.tdiv g) (d:=q.tdiv g) hg0
  rw [e1,e2] at h;exact h
 generalize p.tdiv g=x at *
 generalize q.tdiv g=y at *
 have hd:((y.toNat:Nat):Int)=y:=k1z (by omega)
 have h6:Rat.divInt x y = ⟨x,y.toNat,by omega,by rw [Nat.Coprime,← hcop,Int.gcd];congr 1;omega⟩:=by
  rw [Rat.mk_eq_divInt,hd]
 rw [h3,h6];unfold a0f;simp only [hd]
def M0M (x y:Rat):Int:=if x < y then -1 else if y < x then 1 else 0
theorem U0I (x y:Rat):c0A (x.num * y.den) (y.num * x.den)=M0M x y:=by
 unfold c0A M0M
 simp only [Rat.lt_iff,gt_iff_lt]
theorem U0H {x y:Rat}:M0M x y < 0 ↔ x < y:=by
 unfold M0M;split
 ·simp_all
 ·split <;> simp_all
theorem A0s {x y:Rat}:0 < M0M x y ↔ y < x:=by
 unfold M0M;split
 ·rename_i h;simp;exact Rat.not_lt.2 (l1r h)
 ·split <;> simp_all
end
end Go.Proofs.YtilekhkgobmolaaGreat.AI
