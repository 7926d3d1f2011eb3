/- Part 6 of the proof: AiBits, AiNum10, AiNum11, AiNum12, AiNum13, AiNum14, AiNum15, AiNum16, AiWd, AiNum17, AiCall, AiRat1, AiMath3. -/
import Derived.Test.YtilekhkgobmolaaGreatM04
set_option linter.unusedVariables false
set_option linter.unusedSimpArgs false
set_option linter.unusedSectionVars false
namespace Go.Proofs.YtilekhkgobmolaaGreat.AI
section
open Go
section
variable {tag:Nat}
theorem q0a (n:Nat):IntKind.u64.wrap (n:Int)=((n % 18446744073709551616:Nat):Int):=by rw [a0N];omega
theorem R0J (n:Nat):IntKind.u32.wrap (n:Int)=((n % 4294967296:Nat):Int):=by rw [q0b];omega
theorem G0k {n s:Nat} {k':IntKind} (hs:s≤64):d0M tag .shl (.int .u64 (n:Int)) (.int k' (s:Int))=some (.int .u64 ((n * 2 ^ s % 18446744073709551616:Nat):Int)):=by
 rw [u0r (by omega)]
 have:min (s:Int).toNat IntKind.u64.bits=s:=by show min (s:Int).toNat 64=s;omega
 rw [this]
 have e:(n:Int) * 2 ^ s=((n * 2 ^ s:Nat):Int):=by simp
 rw [e,q0a]
theorem R0n {n s:Nat} {k':IntKind} (hs:s≤32):d0M tag .shl (.int .u32 (n:Int)) (.int k' (s:Int))=some (.int .u32 ((n * 2 ^ s % 4294967296:Nat):Int)):=by
 rw [u0r (by omega)]
 have:min (s:Int).toNat IntKind.u32.bits=s:=by show min (s:Int).toNat 32=s;omega
 rw [this]
 have e:(n:Int) * 2 ^ s=((n * 2 ^ s:Nat):Int):=by simp
 rw [e,R0J]
theorem R0o {n s:Nat} {k':IntKind} (hs:s≤64):d0M tag .shr (.int .u64 (n:Int)) (.int k' (s:Int))=some (.int .u64 ((n / 2 ^ s:Nat):Int)):=by
 rw [k0l (by omega)]
 have:min (s:Int).toNat IntKind.u64.bits=s:=by show min (s:Int).toNat 64=s;omega
 rw [this]
 have e:(2:Int) ^ s=((2 ^ s:Nat):Int):=by simp
 rw [e,H0p]
theorem R0p {n s:Nat} {k':IntKind} (hs:s≤32):d0M tag .shr (.int .u32 (n:Int)) (.int k' (s:Int))=some (.int .u32 ((n / 2 ^ s:Nat):Int)):=by
 rw [k0l (by omega)]
 have:min (s:Int).toNat IntKind.u32.bits=s:=by show min (s:Int).toNat 32=s;omega
 rw [this]
 have e:(2:Int) ^ s=((2 ^ s:Nat):Int):=by simp
 rw [e,H0p]
theorem U0l {a b:Nat} (ha:a < 18446744073709551616) (hb:b < 18446744073709551616):d0M tag .or (.int .u64 (a:Int)) (.int .u64 (b:Int))=some (.int .u64 ((a ||| b:Nat):Int)):=by
 rw [P0y]
 have e1:(BitVec.ofInt IntKind.u64.bits (a:Int) ||| BitVec.ofInt IntKind.u64.bits (b:Int)).toNat=a ||| b:=by
  show (BitVec.ofInt 64 (a:Int) ||| BitVec.ofInt 64 (b:Int)).toNat=a ||| b
  rw [BitVec.toNat_or]
  simp only [BitVec.ofInt_natCast,BitVec.toNat_ofNat]
  rw [c1x (by omega),c1x (by omega)]
 rw [e1,q0a]
 have:a ||| b < 2 ^ 64:=Nat.or_lt_two_pow (by omega) (by omega)
 rw [c1x (by omega)]
theorem S0U {a:Nat}:d0M tag .and (.int .u64 (a:Int)) (.int .u64 4294967295)=some (.int .u64 ((a % 4294967296:Nat):Int)):=by
 rw [H0b]
 have e1:(BitVec.ofInt IntKind.u64.bits (a:Int) &&& BitVec.ofInt IntKind.u64.bits (4294967295:Int)).toNat=a % 4294967296:=by
  show (BitVec.ofInt 64 (a:Int) &&& BitVec.ofInt 64 (4294967295:Int)).toNat=a % 4294967296
  rw [BitVec.toNat_and]
  have:(BitVec.ofInt 64 (4294967295:Int)).toNat=2 ^ 32 - 1:=rfl
  rw [this,Nat.and_two_pow_sub_one_eq_mod]
  simp only [BitVec.ofInt_natCast,BitVec.toNat_ofNat]
  omega
 rw [e1,q0a,c1x (by omega)]
theorem u0R {x y:Nat} (h:y < 4294967296):x * 4294967296 ||| y=x * 4294967296 + y:=by
 have:=Nat.two_pow_add_eq_or_of_lt (i:=32) (b:=y) (by omega) x
 rw [c1q] at this
 exact this.symm
theorem U0u {a b:Nat} (ha:a < 18446744073709551616) (hb:b ≠ 0):d0M tag .quo (.int .u64 (a:Int)) (.int .u64 (b:Int))=some (.int .u64 ((a / b:Nat):Int)):=by
 rw [u0q (by omega),d1i (by omega)]
 have:(a:Int) / (b:Int)=((a / b:Nat):Int):=rfl
 rw [this,q0a,c1x (Nat.lt_of_le_of_lt (d1w a b) ha)]
theorem V0i {a b:Nat} (hb:b ≠ 0):d0M tag .rem (.int .u64 (a:Int)) (.int .u64 (b:Int))=some (.int .u64 ((a % b:Nat):Int)):=by
 rw [H0d (by omega),Int.tmod_eq_emod_of_nonneg (by omega)]
 rfl
end
end
section
open Go
set_option maxHeartbeats 4000000
variable {fl:Nat} {H:a0e} {R:a0u} {v w:Value} {a:List Nat}
theorem g0A {l:List Nat} {n:Nat} (h:n < l.length):a0B (l.drop n)=l.getD n 0 + 4294967296 * a0B (l.drop (n + 1)):=by
 rw [c1V h,a0B,b1Q,b1V h];rfl
theorem m0L {d:Nat} (ha:Lim H v a) (hf:fl≤H.size) (hna:a.length≤1073741824) (hd:0 < d) (hd2:d < 4294967296) :
  a0S env fl y0M [v,.int .u32 (d:Int)] H (fun r H'=>(∃ q o,r=.tuple #[q,.int .u32 ((a0B a % d:Nat):Int)]∧Lim H' q o∧a0B o=a0B a / d∧o.length=a.length)∧Ext H H') R:=by
 refine a0g Y0X hf (h:=?_)
 intro ρ h0
 simp only [I0O]
 have hm:=f0H (bytes:=4) (k:=.i64) (k':=.i64) (l:=a.length) (c:=a.length) (b1S _) (by omega) (by omega)
 have w1:IntKind.i64.wrap ((a.length:Int) - 1)=(a.length:Int) - 1:=a0T (by omega) (by omega)
 simp [D0e,D0f,D0g,D0h,h0,ha.slen,hm,w1]
 generalize hPd:H.size=P
 have hP:H.size≤P:=by omega
 generalize hSL:Value.slice (some ⟨P,0,none⟩) a.length a.length=SL
 refine b0P (fun k t G'=>∃ r o,t.length=42∧get t 0=v∧get t 1=.int .u32 (d:Int)∧get t 6=SL∧get t 7=.int .u64 ((r:Nat):Int)∧get t 8=.int .i64 ((k:Int) - 1)∧k≤a.length ∧
   Ext H G'∧a0e.blk G' P=.row false a0l (c0Y o)∧o.length=a.length∧b0t o∧r < d∧a0B (o.drop k) * d + r=a0B (a.drop k))
  (fun t G'=>∃ r o,t.length=42∧get t 6=SL∧get t 7=.int .u64 ((r:Nat):Int) ∧
   Ext H G'∧a0e.blk G' P=.row false a0l (c0Y o)∧o.length=a.length∧b0t o∧r < d∧a0B o * d + r=a0B a) a.length ?_ ?_ ?_
 ·refine ⟨0,List.replicate a.length 0,by simp,by simp [h0],by simp [h0],by simp,by simp,by simp,by omega,Ext.push (Ext.refl _),?_,by simp,?_,hd,?_⟩
  ·rw [← hPd,a0v]
   congr 1
   generalize a.length=n
   induction n with
   | zero=>rfl
   | succ n ih=>rw [e0r,ih];rfl
  ·intro z hz;rw [e1g] at hz;omega
  ·simp [a0B]
 ·clear h0 ρ hm w1
  rintro k t G' ⟨r,o,ht,g0,g1,g6,g7,g8,hk,hx2,hb,hol,hok,hr,hs⟩
  obtain ⟨ρ,rfl⟩:=toT ht
  simp only [b0N,Nat.reduceLT] at g0 g1 g6 g7 g8
  by_cases hk0:k=0
  ·subst hk0
   simp [t0l,g0,g1,g6,g7,g8]
   exact ⟨r,rfl,hx2,o,hb,hol,hok,hr,by simpa using hs⟩
  ·have e0:(k:Int) - 1=((k - 1:Nat):Int):=by omega
   have hka:k - 1 < a.length:=by omega
   rw [e0] at g8
   have hla:=ha.load hka hx2
   have hia:=ha.ia (k:=.i64) hka
   have hA2:=g0A hka
   have hA3:a.getD (k - 1) 0 < 4294967296:=ha.2 _ (by rw [b1Q,b1V hka];exact c1a hka)
   generalize a.getD (k - 1) 0=A at hla hA2 hA3
   have hlo:k - 1 < o.length:=by omega
   obtain ⟨hio,hro⟩:=k0r (k:=.i64) (cap:=a.length) hb hlo hol
   rw [hSL] at hio
   have s2:r * 2 ^ 32 % 18446744073709551616=r * 4294967296:=by omega
   have s1:d0M 0 .shl (.int .u64 (r:Int)) (.int .u64 32)=some (.int .u64 ((r * 4294967296:Nat):Int)):=by
    have:=G0k (tag:=0) (n:=r) (s:=32) (k':=.u64) (by omega)
    rw [s2] at this;exact this
   have s3:=U0l (tag:=0) (a:=r * 4294967296) (b:=A) (by omega) (by omega)
   rw [u0R hA3] at s3
   have eA:IntKind.u64.wrap (A:Int)=(A:Int):=by rw [a0N];omega
   have eD:IntKind.u64.wrap (d:Int)=(d:Int):=by rw [a0N];omega
   have s4:=U0u (tag:=0) (a:=r * 4294967296 + A) (b:=d) (by omega) (by omega)
   have s5:=V0i (tag:=0) (a:=r * 4294967296 + A) (b:=d) (by omega)
   have w2:IntKind.i64.wrap (((k - 1:Nat):Int) - 1)=((k - 1:Nat):Int) - 1:=a0T (by omega) (by omega)
   simp [-Int.natCast_add,-Int.natCast_mul,-Int.natCast_ediv,-Int.natCast_emod,t0l,D0i,D0j,D0k,D0l,g0,g1,g6,g7,g8,hla,hia,s1,s3,eA,eD,s4,s5,hio,w2]
   have hq1:(r * 4294967296 + A) / d < 4294967296:=by
    rw [d1G hd]
    have:(r + 1) * 4294967296≤d * 4294967296:=b1Z _ hr
    rw [c1q 4294967296 d];omega
   have hq2:=e1l (r * 4294967296 + A) d
   have hq3:=d1A (r * 4294967296 + A) hd
   clear s4 s5
   generalize (r * 4294967296 + A) / d=Q at hq1 hq2 ⊢
   generalize (r * 4294967296 + A) % d=r2 at hq2 hq3 ⊢
   refine (a0o (by have:=hx2.1;omega)).mono ?_
   rintro _ G3 ⟨rfl,hx3⟩
   replace hb:=hx3.blk hb
   have hxx:=hx2.trans hx3
   have hPl:=a0j hb
   have hle:k - 1 + 1≤o.length:=hlo
   rw [c1x hq1]
   simp [-Int.natCast_emod,-Int.natCast_ediv,-Int.natCast_add,hb,hle]
   refine ⟨k - 1,by omega,r2,rfl,rfl,by omega,hxx.set (by omega),o.set (k - 1) Q,by rw [a0I hPl,d0L],by simp [hol],e0c hok hq1,hq3,?_⟩
   have hdr:a0B ((o.set (k - 1) Q).drop (k - 1))=Q + 4294967296 * a0B (o.drop k):=by
    rw [g0A (by simpa using hlo),b1Q,d1y hlo,show k - 1 + 1=k by omega,List.drop_set_of_lt (by omega)];rfl
   rw [hdr,hA2,show k - 1 + 1=k by omega,← hs,c1i,c1t,c1q Q d]
   generalize a0B (List.drop k o) * d=Z
   omega
 ·clear h0 ρ hm w1
  rintro t G' ⟨r,o,ht,g6,g7,hx2,hb,hol,hok,hr,hs⟩
  obtain ⟨ρ,rfl⟩:=toT ht
  simp only [b0N,Nat.reduceLT] at g6 g7
  have hy:Lim G' SL o:=by
   rw [← hSL,← hol]
   exact ⟨(Own.mk (fl:=0) hb (by simp) (c1S _)).sl,hok⟩
  simp [D0m,g6,g7]
  refine (a0o (by have:=hx2.1;omega)).mono ?_
  rintro _ G3 ⟨rfl,hx3⟩
  have e1:a0B a % d=r:=by rw [← hs,c1q,Nat.mul_add_mod,c1x hr]
  have e2:a0B a / d=a0B o:=by rw [← hs,c1q,Nat.mul_add_div hd,Nat.div_eq_of_lt hr];rfl
  have e3:((a0B a:Nat):Int) % (d:Int)=((r:Nat):Int):=by rw [← e1];rfl
  rw [c1x (by omega),e3,e2]
  simp
  exact fun _=>⟨o,hy.mono hx3,rfl,hol⟩
end
section
open Go
set_option maxHeartbeats 4000000
variable {fl:Nat} {H:a0e} {R:a0u} {v w:Value} {a b:List Nat}
theorem s0E {x y s:Nat} (h:y < 2 ^ s):y ||| x * 2 ^ s=y + x * 2 ^ s:=by
 have:=Nat.two_pow_add_eq_or_of_lt (i:=s) (b:=y) h x
 rw [Nat.or_comm,c1q x,← this,Nat.add_comm]
theorem f0Y {n:Nat} (ha:Lim H v a) (hf:fl≤H.size) (hna:a.length < 1073741824) (hn:n < 32) :
  a0S env fl w0J [v,.int .i64 (n:Int)] H (fun r H'=>(∃ o,Own H.size H' a0l 1 r (a.length + 1) (c0Y o)∧b0t o∧a0B o=a0B a * 2 ^ n∧o.length=a.length + 1)∧Ext H H') R:=by
 refine a0g Z0e hf (h:=?_)
 intro ρ h0
 simp only [I0V]
 have hm:=W0f (bytes:=4) (k:=.i64) (k':=.i64) (l:=0) (c:=(a.length:Int) + 1) (by omega) (by omega) (by omega) (by omega)
 have w1:IntKind.i64.wrap ((a.length:Int) + 1)=(a.length:Int) + 1:=a0T (by omega) (by omega)
 simp [D0P,D0Q,D0R,D0S,h0,ha.slen,hm,w1]
 have hp:2 ^ n≤2147483648:=d1x (n:=2) (by omega) (show n≤31 by omega)
 have hp0:0 < 2 ^ n:=e1n n
 refine b0P (fun k t G'=>∃ i c out s,i + k=a.length∧t.length=38∧get t 1=.int .i64 (n:Int)∧get t 5=s∧get t 6=.int .u64 ((c:Nat):Int)∧get t 13=v∧get t 14=.int .i64 a.length∧get t 15=.int .i64 ((i:Nat):Int) ∧
   Ext H G'∧Own H.size G' a0l 1 s i (c0Y out)∧b0t out∧out.length=i∧c < 2 ^ n∧a0B out + 4294967296 ^ i * c=a0B (a.take i) * 2 ^ n)
  (fun t G'=>∃ c out s,t.length=38∧get t 5=s∧get t 6=.int .u64 ((c:Nat):Int) ∧
   Ext H G'∧Own H.size G' a0l 1 s a.length (c0Y out)∧b0t out∧out.length=a.length∧c < 2 ^ n∧a0B out + 4294967296 ^ a.length * c=a0B a * 2 ^ n) a.length ?_ ?_ ?_
 ·exact ⟨0,0,[],.slice (some ⟨H.size,0,none⟩) 0 (a.length + 1),by omega,by simp,by simp [h0],by simp,by simp,by simp [h0],by simp,by simp,by simp,
   Own.mk (by simp [c0Y]) rfl (b1S _),by intro x hx;simp at hx,rfl,hp0,by simp [a0B]⟩
 ·clear hm w1 h0 ρ
  rintro k t G' ⟨i,c,out,s,hik,ht,g1,g5,g6,g13,g14,g15,hx,ho,hok,hol,hc,hs⟩
  obtain ⟨ρ,rfl⟩:=toT ht
  simp only [b0N,Nat.reduceLT] at g1 g5 g6 g13 g14 g15
  by_cases hi:i < a.length
  ·have hla:=ha.load hi hx
   have hia:=ha.ia (k:=.i64) hi
   have hA2:=b0j hi
   have hA3:a.getD i 0 < 4294967296:=ha.2 _ (by rw [b1Q,b1V hi];exact c1a hi)
   generalize a.getD i 0=A at hla hA2 hA3
   have eA:IntKind.u64.wrap (A:Int)=(A:Int):=by rw [a0N];omega
   have hAn:A * 2 ^ n≤4294967295 * 2147483648:=c1R (by omega) hp
   have s1:=G0k (tag:=0) (n:=A) (s:=n) (k':=.i64) (by omega)
   rw [c1x (by omega)] at s1
   have s2:=U0l (tag:=0) (a:=c) (b:=A * 2 ^ n) (by omega) (by omega)
   rw [s0E hc] at s2
   have e9:IntKind.i64.wrap ((i:Int) + 1)=((i + 1:Nat):Int):=by rw [a0T (by omega) (by omega)];omega
   simp [-Int.natCast_add,-Int.natCast_mul,-Int.natCast_pow,t0q,D0T,D0U,D0V,D0W,D0X,g1,g5,g6,g13,g14,g15,hi,hia,hla,eA,s1,s2]
   generalize hD:c + A * 2 ^ n=D
   refine (a0o hx.1).mono ?_
   rintro _ G2 ⟨rfl,hx2⟩
   obtain ⟨s',G3,h1,h2,h3,h4⟩:=g0s (e2:=a0l) (new:=[.int .u32 ((D % 4294967296:Nat):Int)]) (c:=1) (bytes:=4) (ho.mono hx2) rfl rfl (by omega) (by omega) (by omega) (by have:=hx.1;have:=hx2.1;omega)
   simp [-Int.natCast_emod,-Int.natCast_add,h1,g1,g5,g6,g13,g14,g15,e9]
   have hDq:D / 4294967296 < 2 ^ n:=by
    rw [d1G (by omega),← hD]
    have:(A + 1) * 2 ^ n≤4294967296 * 2 ^ n:=b1Z _ hA3
    rw [c1i] at this
    rw [c1q (2 ^ n)];omega
   refine ⟨k - 1,by omega,i + 1,by omega,D / 4294967296,rfl,rfl,h4 _ (b1S _) (hx.trans hx2),out ++ [D % 4294967296],by simpa [c0Y] using h2,?_,by simp [hol],hDq,?_⟩
   ·intro x hx
    rcases c1s.1 hx with hx | hx
    ·exact hok x hx
    ·simp at hx;omega
   ·rw [d0H,hol,hA2,c1E,c1i,← hs]
    have e3:4294967296 ^ i * 4294967296 * (D / 4294967296)=4294967296 ^ i * (4294967296 * (D / 4294967296)):=c1t ..
    have e4:4294967296 ^ i * (D % 4294967296) + 4294967296 ^ i * (4294967296 * (D / 4294967296))=4294967296 ^ i * D:=by rw [← c1n,Nat.mod_add_div]
    have e5:4294967296 ^ i * D=4294967296 ^ i * c + 4294967296 ^ i * A * 2 ^ n:=by rw [← hD,c1n,c1t]
    omega
  ·simp [t0q,g1,g5,g6,g13,g14,g15,hi]
   have:i=a.length:=by omega
   subst this
   refine ⟨c,rfl,hx,out,ho,hok,hol,hc,?_⟩
   rw [hs,c1f (b1S _)]
 ·clear hm w1 h0 ρ
  rintro t G' ⟨c,out,s,ht,g5,g6,hx,ho,hok,hol,hc,hs⟩
  obtain ⟨ρ,rfl⟩:=toT ht
  simp only [b0N,Nat.reduceLT] at g5 g6
  simp [v0K,g5,g6]
  refine (a0o hx.1).mono ?_
  rintro _ G2 ⟨rfl,hx2⟩
  obtain ⟨s',G3,h1,h2,h3,h4⟩:=g0s (e2:=a0l) (new:=[.int .u32 ((c % 4294967296:Nat):Int)]) (c:=1) (bytes:=4) (ho.mono hx2) rfl rfl (by omega) (by omega) (by omega) (by have:=hx.1;have:=hx2.1;omega)
  simp [-Int.natCast_emod,-Int.natCast_add,h1]
  refine fun _=>⟨out ++ [c % 4294967296],by simpa [hol,c0Y] using h2,?_,?_,by simp [hol]⟩
  ·intro x hx
   rcases c1s.1 hx with hx | hx
   ·exact hok x hx
   ·simp at hx;omega
  ·rw [d0H,hol,c1x (by omega)];exact hs
theorem q0u {n A N A1 M:Nat} (hn:n < 32) (hA:A < 4294967296) (hN:N=A1 + 4294967296 * M) :
  (A + 4294967296 * N) / 2 ^ n=(A + A1 * 4294967296) / 2 ^ n % 4294967296 + 4294967296 * (N / 2 ^ n):=by
 have hB:(4294967296:Nat)=2 ^ n * 2 ^ (32 - n):=by rw [← e1m,show n + (32 - n)=32 by omega]
 have hP:=e1n n
 have hQ:=e1n (32 - n)
 generalize 2 ^ n=P at *
 generalize 2 ^ (32 - n)=Q at *
 have e1:(A + 4294967296 * N) / P=A / P + Q * N:=by rw [hB,c1t,Nat.add_mul_div_left _ _ hP]
 have e2:(A + A1 * 4294967296) / P=A / P + Q * A1:=by rw [c1q A1,hB,c1t,Nat.add_mul_div_left _ _ hP]
 have e3:N % P=A1 % P:=by rw [hN,hB,c1t,Nat.add_mul_mod_self_left]
 have e4:Q * N=4294967296 * (N / P) + Q * (A1 % P):=by
  have:=e1l N P
  rw [e3] at this
  calc Q * N=Q * (P * (N / P) + A1 % P):=by rw [this]
   _=_:=by rw [c1n,← c1t,c1q Q P,← hB]
 have e5:Q * A1=4294967296 * (A1 / P) + Q * (A1 % P):=by
  have:=e1l A1 P
  calc Q * A1=Q * (P * (A1 / P) + A1 % P):=by rw [this]
   _=_:=by rw [c1n,← c1t,c1q Q P,← hB]
 have h1:A / P < Q:=by rw [d1G hP,c1q,← hB];exact hA
 have h2:Q * (A1 % P) + Q≤4294967296:=by
  have:=d1A A1 hP
  have:Q * (A1 % P + 1)≤Q * P:=c1v Q this
  rw [c1n,c1q Q P,← hB] at this
  omega
 rw [e1,e2,e4,e5]
 clear e1 e2 e3 e4 e5 hN
 generalize A / P=x at *
 generalize N / P=y at *
 generalize A1 / P=z at *
 generalize Q * (A1 % P)=q at *
 omega
theorem i0s {o:List Nat} {i z:Nat} (hlo:i < o.length):a0B (List.take (i + 1) (o.set i z))=a0B (List.take i o) + 4294967296 ^ i * z:=by
 rw [e0b (by simpa using hlo),d0H,c1T,List.length_set,c1N (by omega),List.take_set_of_le (by omega),b1Q,d1y hlo,c1u]
theorem u0p {x y z s i q:Nat} (h:x=y + 4294967296 ^ i * z) (hs:y + 4294967296 ^ i * (z + 4294967296 * q)=s):x + 4294967296 ^ (i + 1) * q=s:=by
 rw [h,← hs,c1E,c1n,c1t,d1h]
theorem o0Q {n:Nat} (ha:Lim H v a) (hf:fl≤H.size) (hna:a.length < 1073741824) (hn:n < 32) :
  a0S env fl y0R [v,.int .i64 (n:Int)] H (fun r H'=>(∃ o,Lim H' r o∧a0B o=a0B a / 2 ^ n∧o.length=a.length)∧Ext H H') R:=by
 refine a0g Z0h hf (h:=?_)
 intro ρ h0
 simp only [I0Y]
 have hm:=f0H (bytes:=4) (k:=.i64) (k':=.i64) (l:=a.length) (c:=a.length) (b1S _) (by omega) (by omega)
 simp [E0d,E0e,E0f,h0,ha.slen,hm]
 generalize hPd:H.size=P
 generalize hSL:Value.slice (some ⟨P,0,none⟩) a.length a.length=SL
 refine b0P (fun k t G'=>∃ i o,i + k=a.length∧t.length=44∧get t 0=v∧get t 1=.int .i64 (n:Int)∧get t 5=SL∧get t 12=.int .i64 a.length∧get t 13=.int .i64 ((i:Nat):Int) ∧
   Ext H G'∧a0e.blk G' P=.row false a0l (c0Y o)∧o.length=a.length∧b0t o∧a0B (o.take i) + 4294967296 ^ i * (a0B (a.drop i) / 2 ^ n)=a0B a / 2 ^ n)
  (fun t G'=>∃ o,t.length=44∧get t 5=SL ∧
   Ext H G'∧a0e.blk G' P=.row false a0l (c0Y o)∧o.length=a.length∧b0t o∧a0B o=a0B a / 2 ^ n) a.length ?_ ?_ ?_
 ·refine ⟨0,List.replicate a.length 0,by omega,by simp,by simp [h0],by simp [h0],by simp,by simp,by simp,Ext.push (Ext.refl _),?_,by simp,?_,by simp [a0B]⟩
  ·rw [← hPd,a0v]
   congr 1
   generalize a.length=n
   induction n with
   | zero=>rfl
   | succ n ih=>rw [e0r,ih];rfl
  ·intro z hz;rw [e1g] at hz;omega
 ·clear h0 ρ hm
  rintro k t G' ⟨i,o,hik,ht,g0,g1,g5,g12,g13,hx2,hb,hol,hok,hs⟩
  obtain ⟨ρ,rfl⟩:=toT ht
  simp only [b0N,Nat.reduceLT] at g0 g1 g5 g12 g13
  by_cases hi:i < a.length
  ·have hla:=ha.load hi hx2
   have hia:=ha.ia (k:=.i64) hi
   have hA2:=g0A hi
   have hA3:a.getD i 0 < 4294967296:=ha.2 _ (by rw [b1Q,b1V hi];exact c1a hi)
   generalize a.getD i 0=A at hla hA2 hA3
   have hlo:i < o.length:=by omega
   obtain ⟨hio,hro⟩:=k0r (k:=.i64) (cap:=a.length) hb hlo hol
   rw [hSL] at hio
   have eA:IntKind.u64.wrap (A:Int)=(A:Int):=by rw [a0N];omega
   have e9:IntKind.i64.wrap ((i:Int) + 1)=((i + 1:Nat):Int):=by rw [a0T (by omega) (by omega)];omega
   by_cases hi1:i + 1 < a.length
   ·have hla1:=ha.load hi1 hx2
    have hia1:=ha.ia (k:=.i64) hi1
    have hN:=g0A hi1
    have hA13:a.getD (i + 1) 0 < 4294967296:=ha.2 _ (by rw [b1Q,b1V hi1];exact c1a hi1)
    generalize a.getD (i + 1) 0=A1 at hla1 hN hA13
    have eA1:IntKind.u64.wrap (A1:Int)=(A1:Int):=by rw [a0N];omega
    have s1:d0M 0 .shl (.int .u64 (A1:Int)) (.int .u64 32)=some (.int .u64 ((A1 * 4294967296:Nat):Int)):=by
     have:=G0k (tag:=0) (n:=A1) (s:=32) (k':=.u64) (by omega)
     rw [show A1 * 2 ^ 32 % 18446744073709551616=A1 * 4294967296 by omega] at this;exact this
    have s2:=U0l (tag:=0) (a:=A) (b:=A1 * 4294967296) (by omega) (by omega)
    rw [show A ||| A1 * 4294967296=A + A1 * 4294967296 from s0E (s:=32) hA3] at s2
    have s3:=R0o (tag:=0) (n:=A + A1 * 4294967296) (s:=n) (k':=.i64) (by omega)
    simp [-Int.natCast_add,-Int.natCast_mul,-Int.natCast_pow,-Int.natCast_ediv,p0J,t0E,t0F,t0G,t0H,t0I,t0J,g0,g1,g5,g12,g13,hi,hi1,hia,hla,hia1,hla1,eA,eA1,e9,s1,s2,s3,ha.slen,hio]
    refine (a0o (by have:=hx2.1;omega)).mono ?_
    rintro _ G3 ⟨rfl,hx3⟩
    replace hb:=hx3.blk hb
    have hxx:=hx2.trans hx3
    have hPl:=a0j hb
    have hle:i + 1≤o.length:=hlo
    have hbl:=q0u hn hA3 hN
    simp [-Int.natCast_emod,-Int.natCast_ediv,-Int.natCast_add,hb,hle]
    have hz:(A + A1 * 4294967296) / 2 ^ n % 4294967296 < 4294967296:=d1A _ (by omega)
    rw [hA2,hbl] at hs
    generalize (A + A1 * 4294967296) / 2 ^ n % 4294967296=z at hs hz ⊢
    have hset:a0B (List.take (i + 1) (o.set i z))=a0B (List.take i o) + 4294967296 ^ i * z:=i0s hlo
    refine ⟨k - 1,by omega,i + 1,by omega,rfl,hxx.set (by omega),o.set i z,by rw [a0I hPl,d0L],by simp [hol],e0c hok hz,?_⟩
    exact u0p hset hs
   ·obtain ⟨A1,hA1⟩:∃ x:Nat,x=0:=⟨0,rfl⟩
    have hN:a0B (List.drop (i + 1) a)=A1 + 4294967296 * 0:=by rw [d1j (by omega),hA1];simp [a0B]
    have s3:d0M 0 .shr (.int .u64 (A:Int)) (.int .i64 (n:Int))=some (.int .u64 (((A + A1 * 4294967296) / 2 ^ n:Nat):Int)):=by
     rw [R0o (by omega),show A + A1 * 4294967296=A by rw [hA1];omega]
    clear hA1
    simp [-Int.natCast_add,-Int.natCast_mul,-Int.natCast_pow,-Int.natCast_ediv,p0J,t0E,t0F,t0G,t0H,t0I,t0J,g0,g1,g5,g12,g13,hi,hi1,hia,hla,eA,e9,s3,ha.slen,hio]
    refine (a0o (by have:=hx2.1;omega)).mono ?_
    rintro _ G3 ⟨rfl,hx3⟩
    replace hb:=hx3.blk hb
    have hxx:=hx2.trans hx3
    have hPl:=a0j hb
    have hle:i + 1≤o.length:=hlo
    have hbl:=q0u hn hA3 hN
    simp [-Int.natCast_emod,-Int.natCast_ediv,-Int.natCast_add,hb,hle]
    have hz:(A + A1 * 4294967296) / 2 ^ n % 4294967296 < 4294967296:=d1A _ (by omega)
    rw [hA2,hbl] at hs
    generalize (A + A1 * 4294967296) / 2 ^ n % 4294967296=z at hs hz ⊢
    have hset:a0B (List.take (i + 1) (o.set i z))=a0B (List.take i o) + 4294967296 ^ i * z:=i0s hlo
    refine ⟨k - 1,by omega,i + 1,by omega,rfl,hxx.set (by omega),o.set i z,by rw [a0I hPl,d0L],by simp [hol],e0c hok hz,?_⟩
    exact u0p hset hs
  ·simp [p0J,g0,g1,g5,g12,g13,hi]
   have:i=a.length:=by omega
   subst this
   refine ⟨hx2,o,hb,hol,hok,?_⟩
   rw [c1f (by omega),d1j (b1S _)] at hs
   simpa [a0B] using hs
 ·clear h0 ρ hm
  rintro t G' ⟨o,ht,g5,hx2,hb,hol,hok,hs⟩
  obtain ⟨ρ,rfl⟩:=toT ht
  simp only [b0N,Nat.reduceLT] at g5
  have hy:Lim G' SL o:=by
   rw [← hSL,← hol]
   exact ⟨(Own.mk (fl:=0) hb (by simp) (c1S _)).sl,hok⟩
  simp [v0M,g5]
  exact fun _=>⟨o,hy,hs,hol⟩
end
section
open Go
set_option maxHeartbeats 4000000
variable {fl:Nat} {H G:a0e} {R:a0u} {v w:Value} {a b:List Nat} {K:m0q}
theorem y0u {E:Env} {f:FuncId} {args:List Value} {sf:u0g} (hc:E.code f=some sf) (hl:args.length=sf.np:=by rfl) (hnt:args.length≤sf.nt:=by exact of_decide_eq_true rfl)
  (h:∀ ρ:Nat→Value,(∀ i,ρ i=args.getD i undef)→W E fl sf.body (T sf.nt ρ) H (T0q (fun t' H'=>x0y H' t' sf.res fun v=>K v H')) R) :
  a0S E fl f args H K R :=
 o0x (K:=K) hc hl hnt (fun t h1 h2=>by
  have h3:=h (get t) h2
  rw [← G0I h1] at h3
  refine h3.mono fun e t' H' hq=>?_
  cases e with
  | exit i=>exact c1j hq id
  | normal=>exact ⟨trivial,hq⟩
  | ret=>exact ⟨trivial,hq⟩)
@[simp] theorem V0j {t:a0W} {P:Value→Prop}:x0y H t [] P=P (.tuple #[]):=by simp [x0y,e0s,d0g]
theorem c0Z.refl {o:Option Nat}:c0Z o H H:=(Ext.refl H).extB
theorem c0Z.trans {o:Option Nat} {H1 H2 H3:a0e} (h:c0Z o H1 H2) (k:c0Z o H2 H3):c0Z o H1 H3 :=
 ⟨c1b h.1 k.1,fun b hb hne=>(k.2 b (c1m hb h.1) hne).trans (h.2 b hb hne)⟩
theorem c0Z.set {p:Nat} {r:Blk} (h:c0Z (some p) H G):c0Z (some p) H (G.setIfInBounds p r) :=
 ⟨by have:=h.1;simpa using this,fun b hb hne=>by rw [a0Q (by simpa using hne)];exact h.2 b hb hne⟩
theorem c0Z.ext {p:Nat} {H0:a0e} (h:c0Z (some p) H G) (hp:H0.size≤p) (h0:Ext H0 H):Ext H0 G :=
 ⟨c1b h0.1 h.1,fun b hb=>(h.2 b (c1m hb h0.1) (by simp;omega)).trans (h0.2 b hb)⟩
theorem Sl.off {e sz n p:Nat} {cs:List Value} (h:Sl H e sz v n cs) (hx:c0Z (some p) H G) (hne:slB v ≠ some p):Sl G e sz v n cs:=by
 obtain ⟨hl,h | ⟨b,off,cap,ro,cells,rfl,hb,ho,hcs⟩⟩:=h
 ·exact ⟨hl,.inl h⟩
 ·exact ⟨hl,.inr ⟨b,off,cap,ro,cells,rfl,by rw [hx.2 b (a0j hb) (fun h=>hne (by simp only [slB];exact h.symm))];exact hb,ho,hcs⟩⟩
theorem Lim.off {p:Nat} (h:Lim H v a) (hx:c0Z (some p) H G) (hne:slB v ≠ some p):Lim G v a:=⟨h.1.off hx hne,h.2⟩
def win (L:List Nat) (o:Nat):Nat→Nat
 | 0=>0
 | i + 1=>win L o i + 4294967296 ^ i * L.getD (o + i) 0
theorem i0W {L L':List Nat} {o:Nat}:∀ {i:Nat},(∀ j,j < i→L.getD (o + j) 0=L'.getD (o + j) 0)→win L o i=win L' o i
 | 0,_=>rfl
 | i + 1,h=>by rw [win,win,i0W (fun j hj=>h j (by omega)),h i (by omega)]
theorem R0H {L:List Nat} {o i j z:Nat} (h:o + i≤j):win (L.set j z) o i=win L o i :=
 i0W fun k hk=>e0P (by omega)
theorem e0C {L:List Nat} (h:b0t L) (i:Nat):L.getD i 0 < 4294967296:=by
 rw [b1Q]
 by_cases hi:i < L.length
 ·rw [b1V hi];exact h _ (c1a hi)
 ·rw [c1d (by omega)];simp
theorem j0V {L:List Nat} (h:b0t L) (o:Nat):∀ i,win L o i < 4294967296 ^ i
 | 0=>by simp [win]
 | i + 1=>by
  rw [win,c1E]
  have h1:=j0V h o i
  have h2:=e0C h (o + i)
  have:4294967296 ^ i * (L.getD (o + i) 0 + 1)≤4294967296 ^ i * 4294967296:=c1v _ h2
  rw [c1n,d1p] at this
  omega
theorem h0i {L:List Nat}:∀ {i:Nat},i≤L.length→a0B (L.take i)=win L 0 i
 | 0,_=>by simp [a0B,win]
 | i + 1,h=>by rw [b0j (by omega),h0i (by omega),win,c1y]
theorem j0B {L:List Nat} {n:Nat} (h:L.length≤n):win L 0 n=a0B L:=by
 obtain ⟨k,rfl⟩:∃ k,n=L.length + k:=⟨n - L.length,by omega⟩
 clear h
 induction k with
 | zero=>rw [d1d,← h0i (b1S _),c1h]
 | succ k ih=>rw [← d1h,win,ih,b1Q,c1d (by omega)];simp
theorem l0i {e p o n cap:Nat} {L:List Nat} (hb:G.blk p=.row false e (c0Y L)) (hL:o + n≤L.length) {k:IntKind} {z:Nat} (hz:z < n) :
  iaV 1 (.slice (some ⟨p,o,none⟩) n cap) (.int k (z:Int))=some (.pointer (some ⟨p,o + z,none⟩))∧rd (G.blk p) (o + z)=some (.int .u32 ((L.getD (o + z) 0:Nat):Int)):=by
 refine ⟨?_,?_⟩
 ·simp only [iaV];rw [b1W (by omega)];simp
 ·rw [hb];simp [c0Y,b1Q,show o + z < L.length by omega]
theorem r0P {x y u v g c t ch cm bo B P:Nat} (h:x + g * y=u + c * P) (ht:t=c + v * g) (hc:t=ch * B + cm) {z w:Nat} (hz:z + cm=w + bo * B) :
  (x + P * z) + g * (y + P * v)=(u + P * w) + (ch + bo) * (P * B):=by
 have h1:P * z + P * cm=P * w + P * (bo * B):=by rw [← c1n,hz,c1n]
 have h2:P * (c + v * g)=P * (ch * B) + P * cm:=by rw [← ht,hc,c1n]
 rw [c1n] at h2 ⊢
 rw [c1i]
 have e1:g * (P * v)=P * (v * g):=by grind
 have e2:ch * (P * B)=P * (ch * B):=by grind
 have e3:bo * (P * B)=P * (bo * B):=by grind
 have e4:c * P=P * c:=by grind
 omega
theorem q0R {x y u v c t ch cm B P w:Nat} (h:x + c * P=u + y) (ht:t=c + w + v) (hc:t=ch * B + cm) :
  (x + P * cm) + ch * (P * B)=(u + P * w) + (y + P * v):=by
 have h2:P * (c + w + v)=P * (ch * B) + P * cm:=by rw [← ht,hc,c1n]
 rw [c1n,c1n] at h2
 have e2:ch * (P * B)=P * (ch * B):=by grind
 have e4:c * P=P * c:=by grind
 omega
def Won (L X:List Nat) (o i:Nat):Prop:=X.length=L.length∧b0t X∧∀ j,j < o ∨ o + i≤j→X.getD j 0=L.getD j 0
theorem Won.zero {L:List Nat} {o:Nat} (h:b0t L):Won L L o 0:=⟨rfl,h,fun _ _=>rfl⟩
theorem Won.step {L X:List Nat} {o i z:Nat} (h:Won L X o i) (hz:z < 4294967296):Won L (X.set (o + i) z) o (i + 1) :=
 ⟨by simp [h.1],e0c h.2.1 hz,fun j hj=>by rw [e0P (by omega)];exact h.2.2 j (by omega)⟩
theorem Won.win {L X:List Nat} {o i z:Nat} (h:Won L X o i) (hi:o + i < L.length):AI.win (X.set (o + i) z) o (i + 1)=AI.win X o i + 4294967296 ^ i * z:=by
 rw [AI.win,R0H (by omega),b1Q,d1y (by rw [h.1];exact hi)];rfl
theorem o0U {L:List Nat} {p o n cap g:Nat} (hb:H.blk p=.row false a0l (c0Y L)) (hok:b0t L) (hL:o + n≤L.length) (hv:Lim H v a) (hne:slB v ≠ some p) (hf:fl≤p) (hg:g < 4294967296) (hn:n < 1073741824) (ha:a.length≤n) :
  a0S env fl y0P [.slice (some ⟨p,o,none⟩) n cap,v,.int .u64 (g:Int)] H (fun r G=>∃ X c,r=.bool (c != 0)∧G.blk p=.row false a0l (c0Y X)∧c0Z (some p) H G∧Won L X o n∧win X o n + g * a0B a=win L o n + c * 4294967296 ^ n) R:=by
 refine y0u Z0f (h:=?_)
 intro ρ h0
 simp only [I0W]
 simp [D0Y,D0Z,E0a,h0,g0Q]
 generalize hSL:Value.slice (some ⟨p,o,none⟩) n cap=SL
 refine b0P (fun k t G=>∃ i c X,i + k=n∧t.length=49∧get t 0=SL∧get t 1=v∧get t 2=.int .u64 ((g:Nat):Int)∧get t 7=.int .u64 ((c:Nat):Int)∧get t 11=.int .i64 n∧get t 12=.int .i64 ((i:Nat):Int) ∧
   G.blk p=.row false a0l (c0Y X)∧c0Z (some p) H G∧Won L X o i∧c≤4294967296∧win X o i + g * win a 0 i=win L o i + c * 4294967296 ^ i)
  (fun t G=>∃ c X,t.length=49∧get t 7=.int .u64 ((c:Nat):Int)∧G.blk p=.row false a0l (c0Y X)∧c0Z (some p) H G∧Won L X o n∧win X o n + g * win a 0 n=win L o n + c * 4294967296 ^ n) n ?_ ?_ ?_
 ·exact ⟨0,0,L,by omega,by simp,by simp [h0,hSL],by simp [h0],by simp [h0],by simp,by simp,by simp,hb,c0Z.refl,Won.zero hok,by omega,by simp [win]⟩
 ·clear h0 ρ
  rintro k t G ⟨i,c,X,hik,ht,g0,g1,g2,g7,g11,g12,hX,hx,hw,hc,hs⟩
  obtain ⟨ρ,rfl⟩:=toT ht
  simp only [b0N,Nat.reduceLT] at g0 g1 g2 g7 g11 g12
  by_cases hi:i < n
  ·have e9:IntKind.i64.wrap ((i:Int) + 1)=((i + 1:Nat):Int):=by rw [a0T (by omega) (by omega)];omega
   obtain ⟨hi1,hi2⟩:=l0i (k:=.i64) (cap:=cap) hX (by rw [hw.1];exact hL) hi
   rw [hSL] at hi1
   have hXl:X.getD (o + i) 0=L.getD (o + i) 0:=hw.2.2 _ (by omega)
   have hA:=e0C hok (o + i)
   rw [hXl] at hi2
   have hLw:win L o (i + 1)=win L o i + 4294967296 ^ i * L.getD (o + i) 0:=rfl
   have haw:win a 0 (i + 1)=win a 0 i + 4294967296 ^ i * a.getD i 0:=by rw [win,c1y]
   generalize L.getD (o + i) 0=A at hi2 hA hLw
   have eA:IntKind.u64.wrap (A:Int)=(A:Int):=by rw [a0N];omega
   have hv':=hv.off hx hne
   have hV:=e0C hv.ok i
   by_cases hia:i < a.length
   ·have hla:=hv'.load hia (Ext.refl _)
    have hia2:=hv'.ia (k:=.i64) hia
    generalize a.getD i 0=V at hla haw hV
    have eV:IntKind.u64.wrap (V:Int)=(V:Int):=by rw [a0N];omega
    have hVg:V * g≤4294967295 * 4294967295:=c1R (by omega) (by omega)
    have e1:IntKind.u64.wrap ((V:Int) * (g:Int))=((V * g:Nat):Int):=by rw [a0N,← d1t];omega
    have e2:IntKind.u64.wrap ((c:Int) + ((V * g:Nat):Int))=((c + V * g:Nat):Int):=by rw [a0N,← Int.natCast_add];omega
    have e3:=S0U (tag:=0) (a:=c + V * g)
    simp [-Int.natCast_add,-Int.natCast_mul,-Int.natCast_ediv,-Int.natCast_emod,p0H,t0r,t0s,t0t,t0u,t0v,t0w,p0G,g0,g1,g2,g7,g11,g12,hi,hv'.slen,hia,hia2,hla,eV,e1,e2,hi1,hi2,e3,eA]
    generalize hD:c + V * g=D at *
    have hDD:D=(D / 4294967296) * 4294967296 + D % 4294967296:=(e1A D 4294967296).symm
    have hcm:=d1A D (show 0 < 4294967296 by omega)
    generalize D / 4294967296=ch at *
    generalize D % 4294967296=cm at *
    have hbo:IntKind.u64.wrap ((A:Int) - (cm:Int))=((if cm≤A then A - cm else A + 18446744073709551616 - cm:Nat):Int):=by rw [a0N];split <;> omega
    have hchb:ch≤4294967295:=by omega
    obtain ⟨bo,z,q,hbq,hz1,hz2,hq1,hq2,hq3⟩:∃ bo z q:Nat,(if cm≤A then A - cm else A + 18446744073709551616 - cm:Nat)=q∧z + cm=A + bo * 4294967296∧z < 4294967296∧q % 4294967296=z∧q / 9223372036854775808=bo∧bo≤1:=by
     by_cases h:cm≤A
     ·exact ⟨0,A - cm,A - cm,by rw [b1W h],by omega,by omega,by omega,by omega,by omega⟩
     ·exact ⟨1,A + 4294967296 - cm,A + 18446744073709551616 - cm,by rw [b1T h],by omega,by omega,by omega,by omega,by omega⟩
    have e8:IntKind.u64.wrap ((ch:Int) + (bo:Int))=((ch + bo:Nat):Int):=by rw [a0N];omega
    rw [hbq] at hbo
    simp [-Int.natCast_add,-Int.natCast_mul,-Int.natCast_ediv,-Int.natCast_emod,hbo,g0,g7,g11,g12]
    refine (a0o (by have:=a0j hX;omega)).mono ?_
    rintro _ G3 ⟨rfl,hx3⟩
    rw [hq1,hq2]
    have hX3:=hx3.blk hX
    have hpl:=a0j hX3
    have hle:o + i + 1≤X.length:=by rw [hw.1];omega
    simp [-Int.natCast_add,-Int.natCast_mul,-Int.natCast_ediv,-Int.natCast_emod,hi1,hX3,hle,hf,e8,e9]
    refine ⟨k - 1,by omega,i + 1,by omega,ch + bo,rfl,rfl,X.set (o + i) z,by rw [a0I hpl,d0L],(hx.trans hx3.extB).set,hw.step hz2,by omega,?_⟩
    rw [hw.win (by omega),haw,hLw,c1E]
    exact r0P hs hD.symm hDD hz1
   ·have hV0:a.getD i 0=0:=by rw [b1Q,c1d (by omega)];rfl
    rw [hV0] at haw
    obtain ⟨V,hV⟩:∃ V,V=0:=⟨0,rfl⟩
    replace haw:win a 0 (i + 1)=win a 0 i + 4294967296 ^ i * V:=by rw [haw,hV]
    have hVg:V * g=0:=by rw [hV,e1O]
    have e3:=S0U (tag:=0) (a:=c)
    have ec:c=c + V * g:=by omega
    rw [ec] at e3 g7
    have hDb:c + V * g≤4294967296:=by omega
    simp [-Int.natCast_add,-Int.natCast_mul,-Int.natCast_ediv,-Int.natCast_emod,p0H,t0r,t0s,t0t,t0u,t0v,t0w,p0G,g0,g1,g2,g7,g11,g12,hi,hv'.slen,hia,hi1,hi2,e3,eA]
    generalize hD:c + V * g=D at *
    have hDD:D=(D / 4294967296) * 4294967296 + D % 4294967296:=(e1A D 4294967296).symm
    have hcm:=d1A D (show 0 < 4294967296 by omega)
    generalize D / 4294967296=ch at *
    generalize D % 4294967296=cm at *
    have hbo:IntKind.u64.wrap ((A:Int) - (cm:Int))=((if cm≤A then A - cm else A + 18446744073709551616 - cm:Nat):Int):=by rw [a0N];split <;> omega
    have hchb:ch≤4294967295:=by omega
    obtain ⟨bo,z,q,hbq,hz1,hz2,hq1,hq2,hq3⟩:∃ bo z q:Nat,(if cm≤A then A - cm else A + 18446744073709551616 - cm:Nat)=q∧z + cm=A + bo * 4294967296∧z < 4294967296∧q % 4294967296=z∧q / 9223372036854775808=bo∧bo≤1:=by
     by_cases h:cm≤A
     ·exact ⟨0,A - cm,A - cm,by rw [b1W h],by omega,by omega,by omega,by omega,by omega⟩
     ·exact ⟨1,A + 4294967296 - cm,A + 18446744073709551616 - cm,by rw [b1T h],by omega,by omega,by omega,by omega,by omega⟩
    have e8:IntKind.u64.wrap ((ch:Int) + (bo:Int))=((ch + bo:Nat):Int):=by rw [a0N];omega
    rw [hbq] at hbo
    simp [-Int.natCast_add,-Int.natCast_mul,-Int.natCast_ediv,-Int.natCast_emod,hbo,g0,g7,g11,g12]
    refine (a0o (by have:=a0j hX;omega)).mono ?_
    rintro _ G3 ⟨rfl,hx3⟩
    rw [hq1,hq2]
    have hX3:=hx3.blk hX
    have hpl:=a0j hX3
    have hle:o + i + 1≤X.length:=by rw [hw.1];omega
    simp [-Int.natCast_add,-Int.natCast_mul,-Int.natCast_ediv,-Int.natCast_emod,hi1,hX3,hle,hf,e8,e9]
    refine ⟨k - 1,by omega,i + 1,by omega,ch + bo,rfl,rfl,X.set (o + i) z,by rw [a0I hpl,d0L],(hx.trans hx3.extB).set,hw.step hz2,by omega,?_⟩
    rw [hw.win (by omega),haw,hLw,c1E]
    exact r0P hs hD.symm hDD hz1
  ·simp [p0H,g0,g1,g2,g7,g11,g12,hi]
   have:i=n:=by omega
   subst this
   exact ⟨c,rfl,X,hX,hx,hw,hs⟩
 ·clear h0 ρ
  rintro t G ⟨c,X,ht,g7,hX,hx,hw,hs⟩
  obtain ⟨ρ,rfl⟩:=toT ht
  simp only [b0N,Nat.reduceLT] at g7
  simp [v0L,g7]
  refine ⟨X,c,rfl,hX,hx,hw,?_⟩
  rw [← hs]
  congr 2
  rw [j0B ha]
theorem o0R {L:List Nat} {p o n cap:Nat} (hb:H.blk p=.row false a0l (c0Y L)) (hok:b0t L) (hL:o + n≤L.length) (hv:Lim H v a) (hne:slB v ≠ some p) (hf:fl≤p) (hn:n < 1073741824) (ha:a.length≤n) :
  a0S env fl y0Q [.slice (some ⟨p,o,none⟩) n cap,v] H (fun _ G=>∃ X c,G.blk p=.row false a0l (c0Y X)∧c0Z (some p) H G∧Won L X o n∧win X o n + c * 4294967296 ^ n=win L o n + a0B a) R:=by
 refine y0u Z0g (h:=?_)
 intro ρ h0
 simp only [I0X]
 simp [E0b,E0c,h0,g0Q]
 generalize hSL:Value.slice (some ⟨p,o,none⟩) n cap=SL
 refine J0G (fun k t G=>∃ i c X,i + k=n∧t.length=37∧get t 0=SL∧get t 1=v∧get t 4=.int .u64 ((c:Nat):Int)∧get t 7=.int .i64 n∧get t 8=.int .i64 ((i:Nat):Int) ∧
   G.blk p=.row false a0l (c0Y X)∧c0Z (some p) H G∧Won L X o i∧c≤1∧win X o i + c * 4294967296 ^ i=win L o i + win a 0 i) ?_ n ?_
 ·clear h0 ρ
  rintro k t G ⟨i,c,X,hik,ht,g0,g1,g4,g7,g8,hX,hx,hw,hc,hs⟩
  obtain ⟨ρ,rfl⟩:=toT ht
  simp only [b0N,Nat.reduceLT] at g0 g1 g4 g7 g8
  by_cases hi:i < n
  ·have e9:IntKind.i64.wrap ((i:Int) + 1)=((i + 1:Nat):Int):=by rw [a0T (by omega) (by omega)];omega
   obtain ⟨hi1,hi2⟩:=l0i (k:=.i64) (cap:=cap) hX (by rw [hw.1];exact hL) hi
   rw [hSL] at hi1
   have hXl:X.getD (o + i) 0=L.getD (o + i) 0:=hw.2.2 _ (by omega)
   have hA:=e0C hok (o + i)
   rw [hXl] at hi2
   have hLw:win L o (i + 1)=win L o i + 4294967296 ^ i * L.getD (o + i) 0:=rfl
   have haw:win a 0 (i + 1)=win a 0 i + 4294967296 ^ i * a.getD i 0:=by rw [win,c1y]
   generalize L.getD (o + i) 0=A at hi2 hA hLw
   have eA:IntKind.u64.wrap (A:Int)=(A:Int):=by rw [a0N];omega
   have e1:IntKind.u64.wrap ((c:Int) + (A:Int))=((c + A:Nat):Int):=by rw [a0N];omega
   have hv':=hv.off hx hne
   have hV:=e0C hv.ok i
   by_cases hia:i < a.length
   ·have hla:=hv'.load hia (Ext.refl _)
    have hia2:=hv'.ia (k:=.i64) hia
    generalize a.getD i 0=V at hla haw hV
    have eV:IntKind.u64.wrap (V:Int)=(V:Int):=by rw [a0N];omega
    have e2:IntKind.u64.wrap (((c + A:Nat):Int) + (V:Int))=((c + A + V:Nat):Int):=by rw [a0N];omega
    simp [-Int.natCast_add,-Int.natCast_mul,-Int.natCast_ediv,-Int.natCast_emod,p0I,t0x,t0y,t0z,t0A,t0B,t0C,t0D,g0,g1,g4,g7,g8,hi,hv'.slen,hia,hia2,hla,eV,e1,e2,hi1,hi2,eA]
    generalize hD:c + A + V=D at *
    have hDD:D=(D / 4294967296) * 4294967296 + D % 4294967296:=(e1A D 4294967296).symm
    have hcm:=d1A D (show 0 < 4294967296 by omega)
    refine (a0o (by have:=a0j hX;omega)).mono ?_
    rintro _ G3 ⟨rfl,hx3⟩
    generalize D / 4294967296=ch at *
    generalize D % 4294967296=cm at *
    have hX3:=hx3.blk hX
    have hpl:=a0j hX3
    have hle:o + i + 1≤X.length:=by rw [hw.1];omega
    simp [-Int.natCast_add,-Int.natCast_mul,-Int.natCast_ediv,-Int.natCast_emod,hi1,hX3,hle,hf,e9]
    refine ⟨k - 1,by omega,i + 1,by omega,ch,rfl,rfl,X.set (o + i) cm,by rw [a0I hpl,d0L],(hx.trans hx3.extB).set,hw.step hcm,by omega,?_⟩
    rw [hw.win (by omega),haw,hLw,c1E]
    exact q0R hs hD.symm hDD
   ·have hV0:a.getD i 0=0:=by rw [b1Q,c1d (by omega)];rfl
    rw [hV0] at haw
    obtain ⟨V,hV⟩:∃ V,V=0:=⟨0,rfl⟩
    replace haw:win a 0 (i + 1)=win a 0 i + 4294967296 ^ i * V:=by rw [haw,hV]
    have e1':IntKind.u64.wrap ((c:Int) + (A:Int))=((c + A + V:Nat):Int):=by rw [e1,hV];rfl
    simp [-Int.natCast_add,-Int.natCast_mul,-Int.natCast_ediv,-Int.natCast_emod,p0I,t0x,t0y,t0z,t0A,t0B,t0C,t0D,g0,g1,g4,g7,g8,hi,hv'.slen,hia,hi1,hi2,e1',eA]
    generalize hD:c + A + V=D at *
    have hDD:D=(D / 4294967296) * 4294967296 + D % 4294967296:=(e1A D 4294967296).symm
    have hcm:=d1A D (show 0 < 4294967296 by omega)
    refine (a0o (by have:=a0j hX;omega)).mono ?_
    rintro _ G3 ⟨rfl,hx3⟩
    generalize D / 4294967296=ch at *
    generalize D % 4294967296=cm at *
    have hX3:=hx3.blk hX
    have hpl:=a0j hX3
    have hle:o + i + 1≤X.length:=by rw [hw.1];omega
    simp [-Int.natCast_add,-Int.natCast_mul,-Int.natCast_ediv,-Int.natCast_emod,hi1,hX3,hle,hf,e9]
    refine ⟨k - 1,by omega,i + 1,by omega,ch,rfl,rfl,X.set (o + i) cm,by rw [a0I hpl,d0L],(hx.trans hx3.extB).set,hw.step hcm,by omega,?_⟩
    rw [hw.win (by omega),haw,hLw,c1E]
    exact q0R hs hD.symm hDD
  ·simp [p0I,g0,g1,g4,g7,g8,hi]
   have:i=n:=by omega
   subst this
   exact ⟨X,hX,hx,hw,c,by rw [hs,j0B ha]⟩
 ·exact ⟨0,0,L,by omega,by simp,by simp [h0,hSL],by simp [h0],by simp,by simp,by simp,hb,c0Z.refl,Won.zero hok,by omega,by simp [win]⟩
end
section
open Go
theorem d0n {L:List Nat} {o i:Nat}:∀ {j:Nat},win L o (i + j)=win L o i + 4294967296 ^ i * win L (o + i) j
 | 0=>by simp [win]
 | j + 1=>by
  rw [← d1h,win,d0n,win,c1n,← c1t,← e1m,d1h o i j,d1h]
theorem R0I {L:List Nat} {o k:Nat} (hk:2≤k):win L o (k + 1)=win L o (k - 2) + 4294967296 ^ (k - 2) * ((L.getD (o + k) 0 * 4294967296 + L.getD (o + (k - 1)) 0) * 4294967296 + L.getD (o + (k - 2)) 0):=by
 obtain ⟨j,rfl⟩:∃ j,k=j + 2:=⟨k - 2,by omega⟩
 rw [show j + 2 - 2=j by omega,show j + 2 + 1=j + 3 by omega,d0n,show j + 2 - 1=j + 1 by omega]
 congr 2
 simp only [win]
 rw [show o + j + 0=o + j by omega,show o + j + 1=o + (j + 1) by omega,show o + j + 2=o + (j + 2) by omega]
 omega
theorem J0A {L:List Nat} {o k:Nat} (hk:2≤k):win L o k=win L o (k - 2) + 4294967296 ^ (k - 2) * (L.getD (o + (k - 1)) 0 * 4294967296 + L.getD (o + (k - 2)) 0):=by
 obtain ⟨j,rfl⟩:∃ j,k=j + 2:=⟨k - 2,by omega⟩
 rw [show j + 2 - 2=j by omega,d0n,show j + 2 - 1=j + 1 by omega]
 congr 2
 simp only [win]
 rw [show o + j + 0=o + j by omega,show o + j + 1=o + (j + 1) by omega]
 omega
structure Gs (W low lowV Uw V x u3 top next B:Nat):Prop where
 W0:0 < W
 hlow:low < W
 hlowV:lowV < W
 hU:Uw=low + W * (x * B + u3)
 hV:V=lowV + W * (top * B + next)
 hB:B≤2 * top
 htop:top < B
 hnext:next < B
 hu3:u3 < B
 lt:Uw < V * B
variable {W low lowV Uw V x u3 top next B g rest q:Nat}
theorem Gs.V0 (h:Gs W low lowV Uw V x u3 top next B):0 < V:=by
 rw [h.hV]
 have h1:0 < top:=by have:=h.hB;have:=h.htop;omega
 have h2:0 < B:=by have:=h.htop;omega
 have:=Nat.mul_pos h.W0 (show 0 < top * B + next by have:=Nat.mul_pos h1 h2;omega)
 omega
theorem Gs.V_lt (h:Gs W low lowV Uw V x u3 top next B):V < W * (top * B + next + 1):=by
 rw [h.hV,c1n W (top * B + next) 1,d1p];have:=h.hlowV;omega
theorem Gs.U_lt (h:Gs W low lowV Uw V x u3 top next B):Uw < W * (x * B + u3 + 1):=by
 rw [h.hU,c1n W (x * B + u3) 1,d1p];have:=h.hlow;omega
theorem Gs.V_ge (h:Gs W low lowV Uw V x u3 top next B):W * (top * B + next)≤V:=by rw [h.hV];omega
theorem Gs.U_ge (h:Gs W low lowV Uw V x u3 top next B):W * (x * B + u3)≤Uw:=by rw [h.hU];omega
theorem Gs.q_lt (h:Gs W low lowV Uw V x u3 top next B):Uw / V < B:=by
 rw [d1G h.V0,c1q];exact h.lt
theorem Gs.q_le (h:Gs W low lowV Uw V x u3 top next B):Uw / V≤x / top:=by
 have h1:0 < top:=by have:=h.hB;have:=h.htop;omega
 rw [Nat.le_div_iff_mul_le h1]
 have h2:=Nat.div_mul_le_self Uw V
 generalize Uw / V=q at *
 have h3:W * (q * (top * B))≤q * V:=by
  calc W * (q * (top * B))≤W * (q * (top * B + next)):=c1v _ (c1v _ (by omega))
   _=q * (W * (top * B + next)):=by grind
   _≤q * V:=c1v _ h.V_ge
 have h4:=h.U_lt
 have h5:q * (top * B) < x * B + u3 + 1:=d1E (a:=W) (by omega)
 have h6:=h.hu3
 have h7:q * top * B < (x + 1) * B:=by rw [c1t,c1i];omega
 have:=e1s h7
 omega
theorem Gs.x_lt (h:Gs W low lowV Uw V x u3 top next B):x < top * B + B:=by
 have h1:=h.U_ge
 have h2:=h.lt
 have h3:=h.V_lt
 have hB:0 < B:=by have:=h.htop;omega
 have h4:W * (x * B + u3) < W * ((top * B + next + 1) * B):=by
  have:V * B≤W * (top * B + next + 1) * B:=b1Z _ (by omega)
  rw [c1t] at this;omega
 have h5:=d1E h4
 have h6:x * B < (top * B + next + 1) * B:=by omega
 have:=e1s h6
 have:=h.hnext
 omega
theorem Gs.down (h:Gs W low lowV Uw V x u3 top next B) (hx:g * top + rest=x) (hq:Uw / V≤g) (hc:B≤g ∨ rest * B + u3 < g * next):Uw / V≤g - 1∧0 < g:=by
 have h1:=h.q_lt
 have hB:0 < B:=by have:=h.htop;omega
 rcases hc with hc | hc
 ·omega
 ·have hne:Uw / V ≠ g:=by
   intro he
   have h2:=Nat.div_mul_le_self Uw V
   rw [he] at h2
   have h3:W * (g * (top * B + next))≤g * V:=by
    calc W * (g * (top * B + next))=g * (W * (top * B + next)):=by grind
     _≤g * V:=c1v _ h.V_ge
   have h4:=h.U_lt
   have h5:g * (top * B + next) < x * B + u3 + 1:=d1E (a:=W) (by omega)
   rw [← hx,c1i,c1n,← c1t] at h5
   omega
  generalize Uw / V=q at *
  omega
theorem Gs.fine (h:Gs W low lowV Uw V x u3 top next B) (hx:g * top + rest=x) (hg:g < B) (hc:g * next≤rest * B + u3):g≤Uw / V + 1:=by
 by_cases hgq:g≤Uw / V + 1
 ·exact hgq
 ·exfalso
  have hgq2:Uw / V + 1≤g - 1:=by generalize Uw / V=q at *;omega
  have h1:Uw < (Uw / V + 1) * V:=by
   have:=e1l Uw V
   have h2:=d1A Uw h.V0
   rw [c1i,c1q (Uw / V)];omega
  have h2:(Uw / V + 1) * V≤(g - 1) * V:=b1Z _ hgq2
  have h3:(g - 1) * V≤(g - 1) * (W * (top * B + next + 1)):=c1v _ (by have:=h.V_lt;omega)
  have h4:=h.U_ge
  have h5:W * (x * B + u3) < W * ((g - 1) * (top * B + next + 1)):=by
   have:(g - 1) * (W * (top * B + next + 1))=W * ((g - 1) * (top * B + next + 1)):=by grind
   omega
  have h6:=d1E h5
  obtain ⟨g1,rfl⟩:∃ g1,g=g1 + 1:=⟨g - 1,by generalize Uw / V=q at *;omega⟩
  rw [show g1 + 1 - 1=g1 by omega] at h6
  have h7:(g1 + 1) * (top * B + next)≤x * B + u3:=by
   rw [← hx,c1i ((g1 + 1) * top),c1n (g1 + 1),← c1t];omega
  have h8:top * B + next < g1:=by
   rw [c1i,c1H] at h7
   rw [c1n,d1p] at h6
   omega
  have h9:B≤top * B:=Nat.le_mul_of_pos_left _ (by have:=h.hB;have:=h.htop;omega)
  omega
theorem G0w {X c P:Nat} (h:Gs W low lowV Uw V x u3 top next B) (h1:Uw / V≤g) (h2:g≤Uw / V + 1) (hs:X + g * V=Uw + c * P) (hX:X < P) (hP:V < P) :
  (c=0→g=Uw / V∧X=Uw % V)∧(c ≠ 0→g=Uw / V + 1∧∀ X' c',X' + c' * P=X + V→X' < P→X' = Uw % V):=by
 have hd:=e1l Uw V
 have hm:=d1A Uw h.V0
 generalize Uw / V=q at *
 generalize Uw % V=r at *
 refine ⟨fun hc=>?_,fun hc=>?_⟩
 ·subst hc
  rw [e1O,d1d] at hs
  by_cases hg:g=q
  ·subst hg;refine ⟨rfl,?_⟩;rw [c1q g V] at hs;omega
  ·have:g=q + 1:=by omega
   subst this
   rw [c1i,c1H,c1q q V] at hs;omega
 ·have hcP:P≤c * P:=Nat.le_mul_of_pos_left _ (by omega)
  by_cases hg:g=q
  ·subst hg;rw [c1q g V] at hs;omega
  ·have hg:g=q + 1:=by omega
   subst hg
   refine ⟨rfl,fun X' c' h3 h4=>?_⟩
   rw [c1i,c1H,c1q q V] at hs
   have hc1:c=1:=by
    by_cases hc2:2≤c
    ·have:2 * P≤c * P:=b1Z _ hc2
     omega
    ·omega
   subst hc1
   have hc'1:c' = 1:=by
    by_cases h5:c' = 0
    ·subst h5;omega
    ·by_cases h6:2≤c'
     ·have:2 * P≤c' * P:=b1Z _ h6
      omega
     ·omega
   subst hc'1
   omega
theorem u0y {BB i k n q r V U0:Nat} {L X Q:List Nat} (hBB:BB=4294967296) (hL:L.length=n) (hw:Won L X i (k + 1)) (hn:i + (k + 1)≤n) (hQ:i < Q.length) (hU:U0=a0B (Q.drop (i + 1)) * BB ^ (i + 1) * V + a0B L) (hV:V < BB ^ k) (hlt:a0B L < V * BB ^ (i + 1))
  (hq:win L i (k + 1)=V * q + r) (hr:r < V) (hX:win X i (k + 1)=r) :
  a0B X < V * BB ^ i∧U0=a0B ((Q.set i q).drop i) * BB ^ i * V + a0B X:=by
 obtain ⟨j,rfl⟩:∃ j,n=i + (k + 1) + j:=⟨n - (i + (k + 1)),by omega⟩
 have e1:a0B L=win L 0 i + BB ^ i * (win L i (k + 1) + BB ^ (k + 1) * win L (i + (k + 1)) j):=by
  have h1:=h0i (L:=L) (b1S _)
  rw [c1h,hL,d1h,d0n,d0n,c1y] at h1
  rw [h1,hBB]
 have e2:a0B X=win X 0 i + BB ^ i * (win X i (k + 1) + BB ^ (k + 1) * win X (i + (k + 1)) j):=by
  have h1:=h0i (L:=X) (b1S _)
  rw [c1h,hw.1,hL,d1h,d0n,d0n,c1y] at h1
  rw [h1,hBB]
 have e3:win X 0 i=win L 0 i:=i0W fun j hj=>hw.2.2 _ (by omega)
 have e4:win X (i + (k + 1)) j=win L (i + (k + 1)) j:=i0W fun j hj=>hw.2.2 _ (by omega)
 have hP:0 < BB ^ i:=Nat.pow_pos (by omega)
 have e5:win L (i + (k + 1)) j=0:=by
  by_cases h0:win L (i + (k + 1)) j=0
  ·exact h0
  ·exfalso
   have h1:BB ^ i * BB ^ (k + 1)≤a0B L:=by
    rw [e1]
    have:BB ^ i * BB ^ (k + 1)≤BB ^ i * (win L i (k + 1) + BB ^ (k + 1) * win L (i + (k + 1)) j):=c1v _ (by
     have:=Nat.le_mul_of_pos_right (BB ^ (k + 1)) (by omega:0 < win L (i + (k + 1)) j);omega)
    omega
   have h2:V * BB ^ (i + 1)≤BB ^ k * BB ^ (i + 1):=b1Z _ (by omega)
   have h3:BB ^ k * BB ^ (i + 1)=BB ^ i * BB ^ (k + 1):=by rw [← e1m,← e1m];congr 1;omega
   omega
 rw [e5,Nat.mul_zero,d1d] at e1
 rw [e3,e4,e5,Nat.mul_zero,d1d,hX] at e2
 have hlow:win L 0 i < BB ^ i:=by
  rw [← e3,hBB];exact j0V hw.2.1 0 i
 refine ⟨?_,?_⟩
 ·rw [e2]
  have:BB ^ i * (r + 1)≤BB ^ i * V:=c1v _ hr
  rw [c1n,d1p] at this
  rw [c1q V];omega
 ·have h5:=g0A (l:=Q.set i q) (n:=i) (by simpa using hQ)
  rw [b1Q,d1y hQ,c1u,List.drop_set_of_lt (show i < i + 1 by omega),← hBB] at h5
  rw [hU,e1,e2,hq,h5,c1E]
  grind
end
section
open Go
set_option maxHeartbeats 4000000
set_option maxRecDepth 20000
variable {fl:Nat} {H G:a0e} {R:a0u} {v w:Value} {a b:List Nat}
theorem o0X {e p o n c:Nat} {cs:List Value} (hb:G.blk p=.row false e cs):elemOk G e (.slice (some ⟨p,o,none⟩) n c)=true:=by
 unfold elemOk;simp only [hb];simp
theorem m0d {p o n cap lo hi:Nat} {x y:Option Value} (hx:bnd 0 x=some lo) (hy:bnd n y=some hi) (h1:lo≤hi) (h2:hi≤n) :
  d0K 1 (.slice (some ⟨p,o,none⟩) n cap) x y none=some (.slice (some ⟨p,o + lo,none⟩) (hi - lo) (if cap=unk then unk else cap - lo)):=by
 unfold d0K;simp only [hx,hy];rw [b1W ⟨h1,h2⟩];simp
theorem z0i {p o n cap:Nat} {ro:Bool} {L:List Nat} (hb:G.blk p=.row ro a0l (c0Y L)) (hok:b0t L) (hL:o + n≤L.length):Lim G (.slice (some ⟨p,o,none⟩) n cap) ((L.drop o).take n):=by
 have hl:((L.drop o).take n).length=n:=by simp;omega
 refine ⟨⟨by simp [hl],.inr ⟨p,o,cap,ro,c0Y L,by rw [hl],hb,by simp [hl];omega,?_⟩⟩,fun x hx=>hok x (List.mem_of_mem_drop (d1I hx))⟩
 rw [hl,d1p];simp [c0Y,List.map_take,List.map_drop]
theorem z0p {L:List Nat} {o:Nat}:∀ {n:Nat},o + n≤L.length→a0B ((L.drop o).take n)=win L o n
 | 0,_=>by simp [a0B,win]
 | n + 1,h=>by
  rw [b0j (by simp;omega),z0p (by omega),win]
  simp [b1Q]
theorem V0z {b:List Nat} {k n:Nat} (hok:b0t b) (hk:b.length=k + 1) (hn:n≤31) (ht:b.getD k 0 * 2 ^ n < 4294967296):a0B b * 2 ^ n < 4294967296 ^ (k + 1):=by
 have h1:a0B b=win b 0 k + 4294967296 ^ k * b.getD k 0:=by
  rw [← j0B (L:=b) (n:=k + 1) (by omega),win,c1y]
 have h2:=j0V hok 0 k
 have h3:(b.getD k 0 + 1) * 2 ^ n≤4294967296:=by
  obtain ⟨m,hm⟩:∃ m,4294967296=m * 2 ^ n:=⟨2 ^ (32 - n),by rw [← e1m,show 32 - n + n=32 by omega]⟩
  rw [hm] at ht ⊢
  exact b1Z _ (e1s ht)
 have h4:a0B b < 4294967296 ^ k * (b.getD k 0 + 1):=by rw [h1,c1n,d1p];omega
 have hp:0 < 2 ^ n:=e1n n
 calc a0B b * 2 ^ n < 4294967296 ^ k * (b.getD k 0 + 1) * 2 ^ n:=Nat.mul_lt_mul_of_pos_right h4 hp
  _=4294967296 ^ k * ((b.getD k 0 + 1) * 2 ^ n):=c1t ..
  _≤4294967296 ^ k * 4294967296:=c1v _ h3
  _=4294967296 ^ (k + 1):=(c1E ..).symm
theorem J0x {o:List Nat} {k:Nat} (ho:o.length=k + 1) (h:a0B o < 4294967296 ^ k):a0B (o.take k)=a0B o:=by
 have h1:a0B o=a0B (o.take k) + 4294967296 ^ k * o.getD k 0:=by
  rw [← b0j (by omega),c1f (by omega)]
 have:o.getD k 0=0:=by
  by_cases h0:o.getD k 0=0
  ·exact h0
  ·have:=Nat.le_mul_of_pos_right (4294967296 ^ k) (by omega:0 < o.getD k 0);omega
 rw [this] at h1;omega
theorem V0y {b:List Nat} {k n:Nat} (hk:b.length=k + 1) (ht:2147483648≤b.getD k 0 * 2 ^ n):2147483648 * 4294967296 ^ k≤a0B b * 2 ^ n:=by
 have h1:a0B b=win b 0 k + 4294967296 ^ k * b.getD k 0:=by
  rw [← j0B (L:=b) (n:=k + 1) (by omega),win,c1y]
 rw [h1,c1i,c1t,c1q 2147483648]
 have:=c1v (4294967296 ^ k) ht
 omega
theorem H0s {x y la k n B:Nat} (h1:x < B ^ la) (hn:2 ^ n≤2147483648) (h2:2147483648 * B ^ k≤y):x * 2 ^ n < y * B ^ (la - k) ∨ la < k:=by
 by_cases hk:k≤la
 ·left
  have hp:0 < 2 ^ n:=e1n n
  calc x * 2 ^ n < B ^ la * 2 ^ n:=Nat.mul_lt_mul_of_pos_right h1 hp
   _≤B ^ la * 2147483648:=c1v _ hn
   _=2147483648 * B ^ k * B ^ (la - k):=by rw [c1t,← e1m,show k + (la - k)=la by omega,c1q]
   _≤y * B ^ (la - k):=b1Z _ h2
 ·right;omega
theorem Won.trans {L X Y:List Nat} {o n:Nat} (h:Won L X o n) (k:Won X Y o n):Won L Y o n:=⟨k.1.trans h.1,k.2.1,fun j hj=>(k.2.2 j hj).trans (h.2.2 j hj)⟩
theorem V0n {tag r:Nat} (h:r < 4294967296):d0M tag .shl (.int .u64 (r:Int)) (.int .u64 32)=some (.int .u64 ((r * 4294967296:Nat):Int)):=by
 have h1:=G0k (tag:=tag) (n:=r) (s:=32) (k':=.u64) (by omega)
 have h2:r * 2 ^ 32 % 18446744073709551616=r * 4294967296:=by omega
 rw [h2] at h1;exact h1
theorem a1e {tag x y:Nat} (hx:x < 4294967296) (hy:y < 4294967296):d0M tag .or (.int .u64 ((x * 4294967296:Nat):Int)) (.int .u64 (y:Int))=some (.int .u64 ((x * 4294967296 + y:Nat):Int)):=by
 rw [U0l (by omega) (by omega),u0R hy]
theorem v0Y:∀ N:Nat,e0r [.int .u32 0] N=c0Y (List.replicate N 0)
 | 0=>rfl
 | n + 1=>by rw [e0r,v0Y n];rfl
theorem l0g (ha:Lim H v a) (hb:Lim H w b) (hf:fl≤H.size) (hna:a.length < 1073741823) (h2:2≤b.length) (hle:b.length≤a.length) (hb0:b.getD (b.length - 1) 0 ≠ 0) :
  a0S env fl y0N [v,w] H (fun r H'=>(∃ q o q' o',r=.tuple #[q,q']∧Lim H' q o∧a0B o=a0B a / a0B b∧o.length≤a.length∧Lim H' q' o'∧a0B o' = a0B a % a0B b∧o'.length≤a.length)∧Ext H H') R:=by
 refine a0g Y0Y hf (h:=?_)
 intro ρ h0
 simp only [I0P]
 obtain ⟨k,hk⟩:∃ k,b.length=k + 1:=⟨b.length - 1,by omega⟩
 have hk1:1≤k:=by omega
 rw [show b.length - 1=k by omega] at hb0
 have htl:=e0C hb.ok k
 have hial:=hb.ia (k:=.i64) (show k < b.length by omega)
 have hldl:=hb.load (show k < b.length by omega) (Ext.refl H)
 have htlt:=@V0z b k
 have htge:=@V0y b k
 generalize htp:b.getD k 0=tp at *
 have e0:IntKind.i64.wrap ((b.length:Int) - 1)=((k:Nat):Int):=by rw [a0T (by omega) (by omega)];omega
 simp [D0n,D0o,h0]
 refine b0P (fun c t G=>∃ n:Nat,G=H∧n + c=31∧t.length=147∧get t 0=v∧get t 1=w∧get t 6=.int .i64 ((n:Nat):Int)∧tp * 2 ^ n < 4294967296)
  (fun t G=>∃ n:Nat,G=H∧n≤31∧t.length=147∧get t 0=v∧get t 1=w∧get t 6=.int .i64 ((n:Nat):Int)∧tp * 2 ^ n < 4294967296∧2147483648≤tp * 2 ^ n) 31 ?_ ?_ ?_
 ·exact ⟨0,rfl,by omega,by simp,by simp [h0],by simp [h0],by simp,by omega⟩
 ·clear h0 ρ
  rintro c t G ⟨n,rfl,hn,ht,g0,g1,g6,hy⟩
  obtain ⟨ρ,rfl⟩:=toT ht
  simp only [b0N,Nat.reduceLT] at g0 g1 g6
  have hy2:tp * 2 ^ (n + 1)=2 * (tp * 2 ^ n):=by rw [c1E,← c1t];omega
  have hy3:2 ^ n≤tp * 2 ^ n:=Nat.le_mul_of_pos_left _ (by omega)
  have hy4:n=31→2147483648≤tp * 2 ^ n:=by rintro rfl;exact hy3
  have s1:=R0n (tag:=0) (n:=tp) (s:=n) (k':=.i64) (by omega)
  rw [c1x hy] at s1
  generalize hyd:tp * 2 ^ n=y at *
  have s2:d0M 0 .shr (.int .u32 (y:Int)) (.int .u64 31)=some (.int .u32 ((y / 2147483648:Nat):Int)):=R0p (tag:=0) (n:=y) (s:=31) (k':=.u64) (by omega)
  have e9:IntKind.i64.wrap ((n:Int) + 1)=((n + 1:Nat):Int):=by rw [a0T (by omega) (by omega)];omega
  by_cases hd:y / 2147483648=0
  ·have hdb:((y / 2147483648:Nat) == 0)=true:=by simp [hd]
   simp [-Int.natCast_ediv,-Int.natCast_add,-beq_iff_eq,t0m,t0n,g0,g1,g6,hb.slen,e0,hial,hldl,s1,s2,hdb,e9]
   exact ⟨c - 1,by omega,n + 1,by omega,rfl,by rw [hy2];omega⟩
  ·have hdb:((y / 2147483648:Nat) == 0)=false:=by simp [hd]
   simp [-Int.natCast_ediv,-Int.natCast_add,-beq_iff_eq,t0m,t0n,g0,g1,g6,hb.slen,e0,hial,hldl,s1,s2,hdb,e9]
   exact ⟨n,by omega,rfl,by rw [hyd];exact hy,by rw [hyd];omega⟩
 ·clear h0 ρ
  rintro t G ⟨n,rfl,hn,ht,g0,g1,g6,hy,hy2⟩
  obtain ⟨ρ,rfl⟩:=toT ht
  simp only [b0N,Nat.reduceLT] at g0 g1 g6
  refine a0F ?_
  simp [D0p,g0,g1,g6]
  refine (f0Y ha (b1S _) (by omega) (by omega)).mono ?_
  rintro u G1 ⟨⟨L0,hu,hok0,hv0,hl0⟩,hx1⟩
  try simp [g0,g1,g6]
  refine (f0Y (hb.mono hx1) hx1.1 (by omega) (by omega)).mono ?_
  rintro u2 G2 ⟨⟨L1,hu1,hok1,hv1,hl1⟩,hx2⟩
  have hx:=hx1.trans hx2
  have hxs:=hx.1
  have hx1s:=hx1.1
  obtain ⟨hul,⟨_,hbad⟩ | ⟨P,capu,rfl,hP,hfP⟩⟩:=hu.mono hx2
  ·omega
  obtain ⟨hul1,⟨_,hbad⟩ | ⟨Q,capv,rfl,hQ,hfQ⟩⟩:=hu1
  ·omega
  have hPl:P < G1.size:=by
   obtain ⟨_,⟨hbad,_⟩ | ⟨P',cap',he,hP',_⟩⟩:=hu
   ·cases hbad
   ·simp at he;rw [he.1];exact a0j hP'
  have hQl:=a0j hQ
  -- the divisor
  have hVlt:=htlt hb.ok hk hn hy
  have hVge:=htge hk hy2
  have hVt:=J0x (o:=L1) (k:=b.length) hl1 (by rw [hv1,hk];exact hVlt)
  have hlt0:=H0s (x:=a0B a) (y:=a0B b * 2 ^ n) (la:=a.length) (k:=k) (n:=n) (B:=4294967296) (g0B a ha.ok) (d1x (n:=2) (by omega) hn) hVge
  have hlt0:a0B a * 2 ^ n < a0B b * 2 ^ n * 4294967296 ^ (a.length - k):=by rcases hlt0 with h | h;exact h;omega
  have hpn:0 < 2 ^ n:=e1n n
  have hqv:a0B a / a0B b=a0B a * 2 ^ n / (a0B b * 2 ^ n):=(Nat.mul_div_mul_right _ _ hpn).symm
  have hrv:a0B a % a0B b=a0B a * 2 ^ n % (a0B b * 2 ^ n) / 2 ^ n:=by rw [Nat.mul_mod_mul_right,Nat.mul_div_cancel _ hpn]
  rw [hv1] at hVt
  rw [hqv,hrv]
  generalize a0B b * 2 ^ n=V at *
  generalize a0B a * 2 ^ n=U0 at *
  clear hqv hrv htlt htge hial hldl e0 htp hb0 htl hy hy2 hul hul1 hpn hu hx1 hx2
  obtain ⟨j,hj⟩:∃ j,k=j + 1:=⟨k - 1,by omega⟩
  generalize hK:b.length=K at *
  have hLv:((L1.drop 0).take K)=L1.take K:=by rw [d1l]
  have hsl:=hb.slen
  rw [hK] at hsl
  have hslv:=m0d (p:=Q) (o:=0) (cap:=capv) (n:=K + 1) (x:=none) (y:=some (.int .i64 (K:Int))) (lo:=0) (hi:=K) rfl (by simp) (by omega) (by omega)
  rw [d1d,Nat.sub_zero,Nat.sub_zero] at hslv
  generalize (if capv=unk then unk else capv)=capw at hslv
  have hw1:IntKind.i64.wrap (((a.length + 1:Nat):Int) - (K:Int))=((a.length - k:Nat):Int):=by rw [a0T (by omega) (by omega)];omega
  have hmn:s0C true (.int .i64 ((a.length - k:Nat):Int)) [.int .i64 0]=some (.int .i64 ((a.length - k:Nat):Int)):=by
   simp only [s0C,mn2];rw [b1W trivial,b1T (by omega)]
  have hm:=f0H (bytes:=4) (k:=.i64) (k':=.i64) (l:=a.length - k) (c:=a.length - k) (b1S _) (by omega) (by omega)
  generalize hN:a.length - k=N at *
  simp [-Int.natCast_add,hsl,o0X hQ,hslv]
  simp [-Int.natCast_add,D0q,D0r,g0Q,hw1,hmn,hm]
  generalize hPQ:G2.size=PQ
  generalize hG3:G2.push (.row false a0l (e0r [.int .u32 0] N))=G3
  have hx3:Ext G2 G3:=by rw [← hG3];exact (Ext.refl _).push
  have hP3:=hx3.blk hP
  have hQ3:=hx3.blk hQ
  have hPQ3:a0e.blk G3 PQ=.row false a0l (c0Y (List.replicate N 0)):=by rw [← hG3,← hPQ,a0v,v0Y]
  replace hx:=hx.trans hx3
  have hv3:Lim G3 (.slice (some ⟨Q,0,none⟩) K capw) (L1.take K):=by rw [← hLv];exact z0i hQ3 hok1 (by omega)
  have hLl:(L1.take K).length=K:=by simp;omega
  have hok2:=hv3.ok
  generalize L1.take K=Vl at *
  clear hG3 hx3 hP hQ hQ3 hok1 hslv hLv hv1 hl1 hm hmn hw1 L1
  generalize hSU:Value.slice (some ⟨P,0,none⟩) (a.length + 1) capu=SU
  generalize hSV:Value.slice (some ⟨Q,0,none⟩) K capw=SV at *
  generalize hSQ:Value.slice (some ⟨PQ,0,none⟩) N N=SQ
  -- its highest limbs
  have hia1:=hv3.ia (k:=.i64) (show k < Vl.length by omega)
  have hia2:=hv3.ia (k:=.i64) (show j < Vl.length by omega)
  have hld1:=hv3.load (show k < Vl.length by omega) (Ext.refl _)
  have hld2:=hv3.load (show j < Vl.length by omega) (Ext.refl _)
  have hV1:V=win Vl 0 k + 4294967296 ^ k * Vl.getD k 0:=by rw [← hVt,← j0B (L:=Vl) (n:=k + 1) (by omega),win,c1y]
  have hV2:V=win Vl 0 j + 4294967296 ^ j * (Vl.getD k 0 * 4294967296 + Vl.getD j 0):=by
   rw [← hVt,← j0B (L:=Vl) (n:=k + 1) (by omega),J0A (by omega),show k + 1 - 1=k by omega,show k + 1 - 2=j by omega,c1y,c1y]
  have hTt:=e0C hok2 k
  have hTn:=e0C hok2 j
  have hTg:2147483648≤Vl.getD k 0:=by
   by_cases h:2147483648≤Vl.getD k 0
   ·exact h
   ·exfalso
    have h3:=j0V hok2 0 k
    have:4294967296 ^ k * (Vl.getD k 0 + 1)≤4294967296 ^ k * 2147483648:=c1v _ (by omega)
    rw [c1n,d1p] at this
    rw [c1q] at hVge
    omega
  clear hV1
  generalize Vl.getD k 0=top at *
  generalize Vl.getD j 0=next at *
  have et:IntKind.u64.wrap (top:Int)=(top:Int):=by rw [a0N];omega
  have en:IntKind.u64.wrap (next:Int)=(next:Int):=by rw [a0N];omega
  have ew1:IntKind.i64.wrap ((K:Int) - 1)=(k:Int):=by rw [a0T (by omega) (by omega)];omega
  have ew2:IntKind.i64.wrap ((K:Int) - 2)=(j:Int):=by rw [a0T (by omega) (by omega)];omega
  have ew3:IntKind.i64.wrap (((a.length + 1:Nat):Int) - (K:Int))=(N:Int):=by rw [a0T (by omega) (by omega)];omega
  have ew4:IntKind.i64.wrap ((N:Int) - 1)=(N:Int) - 1:=a0T (by omega) (by omega)
  have hslu:g0Q SU=some (.int .i64 ((a.length + 1:Nat):Int)):=by rw [← hSU];rfl
  have hslPQ:slB SV ≠ some PQ:=by rw [← hSV];simp [slB];omega
  have hslP:slB SV ≠ some P:=by rw [← hSV];simp [slB];omega
  refine a0F ?_
  simp [-Int.natCast_add,D0s,D0t,hv3.slen,ew1,ew2,hia1,hia2,hld1,hld2,et,en,hLl,hslu,ew3,ew4,g6]
  clear hia1 hia2 hld1 hld2 et en ew1 ew2 ew3 ew4 hslu hsl
  refine b0P (fun c t G'=>∃ L Qs,t.length=147∧get t 4=SQ∧get t 6=.int .i64 (n:Int)∧get t 7=SU∧get t 8=SV∧get t 9=.int .i64 (K:Int)∧get t 10=.int .u64 (top:Int)∧get t 11=.int .u64 (next:Int)∧get t 12=.int .i64 ((c:Int) - 1) ∧
    Ext G G'∧Lim G' SV Vl∧a0e.blk G' P=.row false a0l (c0Y L)∧a0e.blk G' PQ=.row false a0l (c0Y Qs)∧L.length=a.length + 1∧b0t L∧Qs.length=N∧b0t Qs∧c≤N∧U0=a0B (Qs.drop c) * 4294967296 ^ c * V + a0B L∧a0B L < V * 4294967296 ^ c)
   (fun t G'=>∃ L Qs,t.length=147∧get t 4=SQ∧get t 6=.int .i64 (n:Int)∧get t 7=SU∧get t 9=.int .i64 (K:Int) ∧
    Ext G G'∧a0e.blk G' P=.row false a0l (c0Y L)∧a0e.blk G' PQ=.row false a0l (c0Y Qs)∧L.length=a.length + 1∧b0t L∧Qs.length=N∧b0t Qs∧U0=a0B Qs * V + a0B L∧a0B L < V) N ?_ ?_ ?_
  ·refine ⟨L0,List.replicate N 0,by simp,by simp [hSQ],by simp [g6],by simp [hSU],by simp,by simp,by simp,by simp,by simp,hx,hv3,hP3,hPQ3,hl0,hok0,by simp,fun z hz=>by rw [e1g] at hz;omega,b1S _,?_,by rw [hv0];exact hlt0⟩
   rw [d1j (by simp),hv0];simp [a0B]
  ·clear hP3 hPQ3 hv0 hl0 hok0 L0 g0 g1 g6 ht ρ hx hv3 G3
   rintro c t G3 ⟨L,Qs,ht,g4,g6,g7,g8,g9,g10,g11,g12,hx,hv3,hP,hPQb,hLlen,hLok,hQlen,hQok,hcN,hU,hlt⟩
   obtain ⟨ρ,rfl⟩:=toT ht
   simp only [b0N,Nat.reduceLT] at g4 g6 g7 g8 g9 g10 g11 g12
   by_cases hc0:c=0
   ·subst hc0
    simp [-Int.natCast_add,t0o,g4,g6,g7,g8,g9,g10,g11,g12]
    exact ⟨hx,L,hP,Qs,hPQb,hLlen,hLok,hQlen,hQok,by simpa using hU,by simpa using hlt⟩
   ·obtain ⟨i,rfl⟩:∃ i,c=i + 1:=⟨c - 1,by omega⟩
    have ec:(((i + 1:Nat):Int) - 1)=(i:Int):=by omega
    rw [ec] at g12
    -- places
    obtain ⟨iK,hiK⟩:∃ iK,iK=i + K:=⟨_,rfl⟩
    have ew1:IntKind.i64.wrap ((i:Int) + (K:Int))=(iK:Int):=by rw [a0T (by omega) (by omega)];omega
    have ew2:IntKind.i64.wrap ((iK:Int) - 1)=((i + k:Nat):Int):=by rw [a0T (by omega) (by omega)];omega
    have ew3:IntKind.i64.wrap ((iK:Int) - 2)=((i + j:Nat):Int):=by rw [a0T (by omega) (by omega)];omega
    have ew4:IntKind.i64.wrap ((iK:Int) + 1)=((iK + 1:Nat):Int):=by rw [a0T (by omega) (by omega)];omega
    have ew5:IntKind.i64.wrap ((i:Int) - 1)=(i:Int) - 1:=a0T (by omega) (by omega)
    obtain ⟨hi1,hr1⟩:=l0i (k:=.i64) (cap:=capu) (o:=0) (n:=a.length + 1) hP (by omega) (show iK < a.length + 1 by omega)
    obtain ⟨hi2,hr2⟩:=l0i (k:=.i64) (cap:=capu) (o:=0) (n:=a.length + 1) hP (by omega) (show i + k < a.length + 1 by omega)
    obtain ⟨hi3,hr3⟩:=l0i (k:=.i64) (cap:=capu) (o:=0) (n:=a.length + 1) hP (by omega) (show i + j < a.length + 1 by omega)
    rw [hSU,c1y] at hi1 hi2 hi3
    rw [c1y] at hr1 hr2 hr3
    have hA1:=e0C hLok iK
    have hA2:=e0C hLok (i + k)
    have hA3:=e0C hLok (i + j)
    -- the window
    have hwin:=R0I (L:=L) (o:=i) (k:=K) (by omega)
    rw [show K - 2=j by omega,show K - 1=k by omega,← hiK] at hwin
    have hUw:win L i (K + 1) < V * 4294967296:=by
     have h1:=h0i (L:=L) (b1S _)
     rw [c1h,hLlen,show a.length + 1=i + ((K + 1) + (a.length - i - K)) by omega,d0n,d0n,c1y] at h1
     have h2:4294967296 ^ i * win L i (K + 1) < 4294967296 ^ i * (V * 4294967296):=by
      rw [c1E,← c1t,Nat.mul_right_comm] at hlt
      rw [c1n] at h1
      have:V * 4294967296 * 4294967296 ^ i=4294967296 ^ i * (V * 4294967296):=c1q _ _
      omega
     exact d1E h2
    generalize L.getD iK 0=A1 at hA1 hr1 hwin
    generalize L.getD (i + k) 0=A2 at hA2 hr2 hwin
    generalize L.getD (i + j) 0=A3 at hA3 hr3 hwin
    obtain ⟨x,hX⟩:∃ x,x=A1 * 4294967296 + A2:=⟨_,rfl⟩
    rw [← hX] at hwin
    have gs:Gs (4294967296 ^ j) (win L i j) (win Vl 0 j) (win L i (K + 1)) V x A3 top next 4294967296 :=
     ⟨Nat.pow_pos (by omega),j0V hLok i j,j0V hok2 0 j,hwin,hV2,by omega,hTt,hTn,hA3,hUw⟩
    clear hwin
    have eA1:IntKind.u64.wrap (A1:Int)=(A1:Int):=by rw [a0N];omega
    have eA2:IntKind.u64.wrap (A2:Int)=(A2:Int):=by rw [a0N];omega
    have eA3:IntKind.u64.wrap (A3:Int)=(A3:Int):=by rw [a0N];omega
    have s1:=V0n (tag:=0) hA1
    have s2:=a1e (tag:=0) hA1 hA2
    have hxl:x < 18446744073709551616:=by omega
    have hqle:=gs.q_le
    have hxlt:=gs.x_lt
    rw [← hX] at s2
    have s3:=U0u (tag:=0) (a:=x) (b:=top) hxl (by omega)
    have s4:=V0i (tag:=0) (a:=x) (b:=top) (by omega)
    have hgr:x / top * top + x % top=x:=e1A x top
    have hrt:=d1A x (show 0 < top by omega)
    have hgB:x / top≤4294967297:=by
     have:x / top < 4294967298:=by rw [d1G (by omega)];omega
     omega
    have hic:(i:Int) ≥ 0:=by omega
    simp [-Int.natCast_add,-Int.natCast_mul,-Int.natCast_ediv,-Int.natCast_emod,t0o,g4,g6,g7,g8,g9,g10,g11,g12,hic]
    refine a0F ?_
    simp [-Int.natCast_add,-Int.natCast_mul,-Int.natCast_ediv,-Int.natCast_emod,v0C,g4,g6,g7,g8,g9,g10,g11,g12,ew1,ew2,hi1,hi2,hr1,hr2,eA1,eA2,s1,s2]
    refine a0F ?_
    simp [-Int.natCast_add,-Int.natCast_mul,-Int.natCast_ediv,-Int.natCast_emod,v0D,g4,g6,g7,g8,g9,g10,g11,g12,s3,s4]
    clear s1 s2 s3 s4
    generalize x / top=gq at hgr hgB hqle ⊢
    generalize x % top=rr at hgr hrt ⊢
    have hslice:∃ cap',d0K 1 SU (some (.int .i64 (i:Int))) (some (.int .i64 ((iK + 1:Nat):Int))) none=some (.slice (some ⟨P,i,none⟩) (K + 1) cap'):=by
     rw [← hSU,m0d (lo:=i) (hi:=iK + 1) (by simp) (P0A (n:=iK + 1)) (by omega) (by omega),c1y,show iK + 1 - i=K + 1 by omega]
     exact ⟨_,rfl⟩
    obtain ⟨capt,hslice⟩:=hslice
    have helem:∀ (G':a0e) (cs:List Value),a0e.blk G' P=.row false a0l cs→elemOk G' a0l SU=true:=fun G' cs h=>by rw [← hSU];exact o0X h
    refine b0P (fun c t G'=>∃ g rest:Nat,c=g∧G' = G3∧t.length=147∧get t 4=SQ∧get t 6=.int .i64 (n:Int)∧get t 7=SU∧get t 8=SV∧get t 9=.int .i64 (K:Int)∧get t 10=.int .u64 (top:Int)∧get t 11=.int .u64 (next:Int)∧get t 12=.int .i64 (i:Int)∧get t 14=.int .u64 (g:Int)∧get t 15=.int .u64 (rest:Int) ∧
      g * top + rest=x∧win L i (K + 1) / V≤g∧g≤4294967297∧rest < 4294967296)
     (fun t G'=>∃ g rest:Nat,G' = G3∧t.length=147∧get t 4=SQ∧get t 6=.int .i64 (n:Int)∧get t 7=SU∧get t 8=SV∧get t 9=.int .i64 (K:Int)∧get t 10=.int .u64 (top:Int)∧get t 11=.int .u64 (next:Int)∧get t 12=.int .i64 (i:Int)∧get t 14=.int .u64 (g:Int) ∧
      g * top + rest=x∧win L i (K + 1) / V≤g∧g < 4294967296∧g * next≤rest * 4294967296 + A3) gq ?_ ?_ ?_
    ·exact ⟨gq,rr,rfl,rfl,by simp,by simp [g4],by simp [g6],by simp [g7],by simp [g8],by simp [g9],by simp [g10],by simp [g11],by simp [g12],by simp,by simp,hgr,hqle,hgB,by omega⟩
    ·clear g4 g6 g7 g8 g9 g10 g11 g12 ht ρ
     rintro c t G' ⟨g,rest,rfl,rfl,ht,g4,g6,g7,g8,g9,g10,g11,g12,g14,g15,hgx,hq,hgl,hrl⟩
     obtain ⟨ρ,rfl⟩:=toT ht
     simp only [b0N,Nat.reduceLT] at g4 g6 g7 g8 g9 g10 g11 g12 g14 g15
     obtain ⟨rt,hrt2⟩:∃ rt,rt=rest + top:=⟨_,rfl⟩
     have er:IntKind.u64.wrap ((rest:Int) + (top:Int))=(rt:Int):=by rw [a0N];omega
     by_cases hcB:4294967296≤c
     ·have hcB2:(4294967296:Int)≤(c:Int):=by omega
      have hcase:4294967296≤c ∨ rest * 4294967296 + A3 < c * next:=.inl hcB
      have hcs:(c:Int) ≥ 4294967296:=hcB2
      simp (config:={maxSteps:=4000000}) [-Int.natCast_add,-Int.natCast_mul,k0u,g4,g6,g7,g8,g9,g10,g11,g12,g14,g15,hcB,hcB2]
      obtain ⟨hq',hg0⟩:=gs.down hgx hq hcase
      obtain ⟨g',rfl⟩:∃ g',c=g' + 1:=⟨c - 1,by omega⟩
      rw [Nat.add_sub_cancel] at hq'
      have eg:IntKind.u64.wrap (((g' + 1:Nat):Int) - 1)=(g':Int):=by rw [a0N];omega
      have hgx':g' * top + rt=x:=by rw [← hgx,hrt2,c1i,c1H];omega
      by_cases hbr:4294967296≤rt
      ·have hbr2:(4294967296:Int)≤(rt:Int):=by omega
       simp [-Int.natCast_add,-Int.natCast_mul,hcs,i0H,i0I,i0J,g4,g6,g7,g8,g9,g10,g11,g12,g14,g15,eg,er,hbr,hbr2]
       have hgl':g' < 4294967296:=by
        by_cases h:g' = 4294967296
        ·subst h;rw [c1q] at hgx';omega
        ·omega
       refine ⟨g',rfl,rt,hgx',hq',hgl',?_⟩
       have h1:g' * next≤4294967295 * 4294967295:=c1R (by omega) (by omega)
       omega
      ·have hbr2:¬ (4294967296:Int)≤(rt:Int):=by omega
       simp [-Int.natCast_add,-Int.natCast_mul,hcs,i0H,i0I,i0J,g4,g6,g7,g8,g9,g10,g11,g12,g14,g15,eg,er,hbr,hbr2]
       exact ⟨g',by omega,rfl,rt,rfl,hgx',hq',by omega,by omega⟩
     ·have hcB2:¬ (4294967296:Int)≤(c:Int):=by omega
      have hcn:c * next≤4294967295 * 4294967295:=c1R (by omega) (by omega)
      obtain ⟨cn,hcn2⟩:∃ cn,cn=c * next:=⟨_,rfl⟩
      have em:IntKind.u64.wrap ((c:Int) * (next:Int))=(cn:Int):=by rw [a0N,← d1t,← hcn2];omega
      have s1:=V0n (tag:=0) hrl
      have s2:=a1e (tag:=0) hrl hA3
      obtain ⟨rA,hrA⟩:∃ rA,rA=rest * 4294967296 + A3:=⟨_,rfl⟩
      rw [← hrA] at s2
      by_cases hgt:rA < cn
      ·have hcase:4294967296≤c ∨ rest * 4294967296 + A3 < c * next:=.inr (by rw [← hrA,← hcn2];exact hgt)
       have hcs:rA < cn:=hgt
       simp (config:={maxSteps:=4000000}) [-Int.natCast_add,-Int.natCast_mul,k0u,g4,g6,g7,g8,g9,g10,g11,g12,g14,g15,hcB,hcB2,ew1,ew3,hi3,hr3,eA3,em,s1,s2,hgt]
       obtain ⟨hq',hg0⟩:=gs.down hgx hq hcase
       obtain ⟨g',rfl⟩:∃ g',c=g' + 1:=⟨c - 1,by omega⟩
       rw [Nat.add_sub_cancel] at hq'
       have eg:IntKind.u64.wrap (((g' + 1:Nat):Int) - 1)=(g':Int):=by rw [a0N];omega
       have hgx':g' * top + rt=x:=by rw [← hgx,hrt2,c1i,c1H];omega
       by_cases hbr:4294967296≤rt
       ·have hbr2:(4294967296:Int)≤(rt:Int):=by omega
        simp [-Int.natCast_add,-Int.natCast_mul,hcs,i0H,i0I,i0J,g4,g6,g7,g8,g9,g10,g11,g12,g14,g15,eg,er,hbr,hbr2]
        have hgl':g' < 4294967296:=by
         by_cases h:g' = 4294967296
         ·subst h;rw [c1q] at hgx';omega
         ·omega
        refine ⟨g',rfl,rt,hgx',hq',hgl',?_⟩
        have h1:g' * next≤4294967295 * 4294967295:=c1R (by omega) (by omega)
        omega
       ·have hbr2:¬ (4294967296:Int)≤(rt:Int):=by omega
        simp [-Int.natCast_add,-Int.natCast_mul,hcs,i0H,i0I,i0J,g4,g6,g7,g8,g9,g10,g11,g12,g14,g15,eg,er,hbr,hbr2]
        exact ⟨g',by omega,rfl,rt,rfl,hgx',hq',by omega,by omega⟩
      ·simp (config:={maxSteps:=4000000}) [-Int.natCast_add,-Int.natCast_mul,k0u,g4,g6,g7,g8,g9,g10,g11,g12,g14,g15,hcB,hcB2,ew1,ew3,hi3,hr3,eA3,em,s1,s2,hgt]
       exact ⟨c,rfl,rest,hgx,hq,by omega,by rw [← hrA,← hcn2];omega⟩
    ·clear g4 g6 g7 g8 g9 g10 g11 g12 ht ρ hgr hgB hqle hrt
     rintro t G' ⟨gg,rest,rfl,ht,g4,g6,g7,g8,g9,g10,g11,g12,g14,hgx,hq,hgl,hgn⟩
     obtain ⟨ρ,rfl⟩:=toT ht
     simp only [b0N,Nat.reduceLT] at g4 g6 g7 g8 g9 g10 g11 g12 g14
     have hq1:=gs.fine hgx hgl hgn
     have hVK:V < 4294967296 ^ (K + 1):=by
      rw [hk,c1E];omega
     simp [-Int.natCast_add,v0E,g4,g6,g7,g8,g9,g10,g11,g12,g14,ew1,ew4,helem _ _ hP,hslice]
     refine (o0U (n:=K + 1) hP hLok (by omega) hv3 hslP hfP hgl (by omega) (by omega)).mono ?_
     rintro _ G4 ⟨X0,cc,rfl,hXb0,hxb,hwon0,hs⟩
     rw [hVt] at hs
     obtain ⟨hc1,hc2⟩:=G0w gs hq hq1 hs (j0V hwon0.2.1 i (K + 1)) hVK
     have hx4:=hxb.ext hfP hx
     have hv4:=hv3.off hxb hslP
     have hPQ4:a0e.blk G4 PQ=.row false a0l (c0Y Qs):=by rw [hxb.2 PQ (a0j hPQb) (by simp;omega)];exact hPQb
     have hml:=d1A (win L i (K + 1)) gs.V0
     have hdm0:=(e1l (win L i (K + 1)) V).symm
     by_cases hcc:cc=0
     ·obtain ⟨hg1,hwin⟩:=hc1 hcc
      obtain ⟨X,hXe⟩:∃ X,X=X0:=⟨_,rfl⟩
      obtain ⟨g,hge⟩:∃ g,g=gg:=⟨_,rfl⟩
      subst hXe hge
      have hXb:=hXb0
      have hwon:=hwon0
      have hdm:win L i (K + 1)=V * g + win L i (K + 1) % V:=by rw [hg1];exact hdm0
      simp [-Int.natCast_add,hcc,p0E,g4,g6,g7,g8,g9,g10,g11,g12,g14]
      refine (a0o hx4.1).mono ?_
      rintro _ G6 ⟨rfl,hx6⟩
      have hPQ6:=hx6.blk hPQ4
      have hP6:=hx6.blk hXb
      have hPQl:=a0j hPQ6
      obtain ⟨hj1,_⟩:=l0i (k:=.i64) (cap:=N) (o:=0) (n:=N) hPQ6 (by omega) (show i < N by omega)
      rw [hSQ,c1y] at hj1
      have hile:i + 1≤Qs.length:=by omega
      have hfPQ:G.size≤PQ:=by omega
      rw [c1x hgl]
      obtain ⟨hd1,hd2⟩:=u0y (BB:=4294967296) (n:=a.length + 1) (q:=g) rfl hLlen hwon (by omega) (show i < Qs.length by omega) hU (by rw [hk];exact hVlt) hlt hdm hml hwin
      simp [-Int.natCast_add,p0F,hj1,hPQ6,hile,hfPQ,g4,g6,g7,g8,g9,g10,g11,g12,ew5]
      refine ⟨i,by omega,rfl,(hx4.trans hx6).set hfPQ,(hv4.mono hx6).off c0Z.refl.set hslPQ,X,by rw [a0Q (by omega)];exact hP6,Qs.set i g,by rw [a0I hPQl,d0L],by rw [hwon.1,hLlen],hwon.2.1,by simpa using hQlen,e0c hQok hgl,by omega,hd2,hd1⟩
     ·obtain ⟨hg1,hgive⟩:=hc2 hcc
      obtain ⟨g,rfl⟩:∃ g,gg=g + 1:=⟨win L i (K + 1) / V,hg1⟩
      have hg2:g=win L i (K + 1) / V:=Nat.succ.inj hg1
      have eg:IntKind.u64.wrap (((g + 1:Nat):Int) - 1)=(g:Int):=by rw [a0N];omega
      have hdm:win L i (K + 1)=V * g + win L i (K + 1) % V:=by rw [hg2];exact hdm0
      simp [-Int.natCast_add,hcc,v0F,v0G,g4,g6,g7,g8,g9,g10,g11,g12,g14,eg,ew1,ew4,helem _ _ hXb0,hslice]
      refine (o0R (n:=K + 1) hXb0 hwon0.2.1 (by rw [hwon0.1];omega) hv4 hslP hfP (by omega) (by omega)).mono ?_
      rintro _ G5 ⟨X,c2,hXb,hxb2,hwon2,hs2⟩
      rw [hVt] at hs2
      have hwin:=hgive _ _ hs2 (j0V hwon2.2.1 i (K + 1))
      replace hPQ4:a0e.blk G5 PQ=.row false a0l (c0Y Qs):=by rw [hxb2.2 PQ (a0j hPQ4) (by simp;omega)];exact hPQ4
      replace hx4:=hxb2.ext hfP hx4
      replace hv4:=hv4.off hxb2 hslP
      have hwon:=hwon0.trans hwon2
      replace hgl:g < 4294967296:=by omega
      simp [-Int.natCast_add,p0E,g4,g6,g7,g8,g9,g10,g11,g12]
      refine (a0o hx4.1).mono ?_
      rintro _ G6 ⟨rfl,hx6⟩
      have hPQ6:=hx6.blk hPQ4
      have hP6:=hx6.blk hXb
      have hPQl:=a0j hPQ6
      obtain ⟨hj1,_⟩:=l0i (k:=.i64) (cap:=N) (o:=0) (n:=N) hPQ6 (by omega) (show i < N by omega)
      rw [hSQ,c1y] at hj1
      have hile:i + 1≤Qs.length:=by omega
      have hfPQ:G.size≤PQ:=by omega
      rw [c1x hgl]
      obtain ⟨hd1,hd2⟩:=u0y (BB:=4294967296) (n:=a.length + 1) (q:=g) rfl hLlen hwon (by omega) (show i < Qs.length by omega) hU (by rw [hk];exact hVlt) hlt hdm hml hwin
      simp [-Int.natCast_add,p0F,hj1,hPQ6,hile,hfPQ,g4,g6,g7,g8,g9,g10,g11,g12,ew5]
      refine ⟨i,by omega,rfl,(hx4.trans hx6).set hfPQ,(hv4.mono hx6).off c0Z.refl.set hslPQ,X,by rw [a0Q (by omega)];exact hP6,Qs.set i g,by rw [a0I hPQl,d0L],by rw [hwon.1,hLlen],hwon.2.1,by simpa using hQlen,e0c hQok hgl,by omega,hd2,hd1⟩
  ·clear hP3 hPQ3 hv0 hl0 hok0 L0 g0 g1 g6 ht ρ hx hv3 G3
   rintro t G3 ⟨L,Qs,ht,g4,g6,g7,g9,hx,hP,hPQb,hLlen,hLok,hQlen,hQok,hU,hlt⟩
   obtain ⟨ρ,rfl⟩:=toT ht
   simp only [b0N,Nat.reduceLT] at g4 g6 g7 g9
   have helem:elemOk G3 a0l SU=true:=by rw [← hSU];exact o0X hP
   have hslice:∃ cap',d0K 1 SU none (some (.int .i64 (K:Int))) none=some (.slice (some ⟨P,0,none⟩) K cap'):=by
    rw [← hSU,m0d (lo:=0) (hi:=K) rfl (by simp) (by omega) (by omega),c1y,Nat.sub_zero]
    exact ⟨_,rfl⟩
   obtain ⟨capt,hslice⟩:=hslice
   simp [-Int.natCast_add,v0H,g4,g6,g7,g9,helem,hslice]
   have hlim:=z0i (cap:=capt) hP hLok (show 0 + K≤L.length by omega)
   have hlv:a0B ((L.drop 0).take K)=a0B L:=by
    have h1:=h0i (L:=L) (b1S _)
    rw [c1h,hLlen,show a.length + 1=K + (a.length + 1 - K) by omega,d0n,c1y] at h1
    have h2:win L K (a.length + 1 - K)=0:=by
     by_cases h0:win L K (a.length + 1 - K)=0
     ·exact h0
     ·have:=Nat.le_mul_of_pos_right (4294967296 ^ K) (by omega:0 < win L K (a.length + 1 - K))
      rw [hk] at this h1;omega
    rw [z0p (by omega),h1,h2,Nat.mul_zero,d1d]
   have hll:((L.drop 0).take K).length=K:=by simp;omega
   refine (o0Q hlim hx.1 (by omega) (by omega)).mono ?_
   rintro r G4 ⟨⟨o,ho,hov,hol⟩,hx4⟩
   rw [hlv] at hov
   have hV0:0 < V:=by omega
   have e1:U0 / V=a0B Qs:=by rw [hU,c1q,Nat.mul_add_div hV0,Nat.div_eq_of_lt hlt,d1d]
   have e2:U0 % V=a0B L:=by rw [hU,c1q,Nat.mul_add_mod,c1x hlt]
   refine fun _=>⟨SQ,Qs,r,⟨rfl,rfl⟩,⟨by rw [← hSQ,← hQlen];exact (Own.mk (fl:=0) (hx4.blk hPQb) (by simp) (c1S _)).sl,hQok⟩,e1.symm,by omega,o,ho,by rw [hov,e2],by omega⟩
end
section
open Go
set_option maxHeartbeats 4000000
variable {fl:Nat} {H:a0e} {R:a0u} {v w:Value} {i j:Bool × List Nat}
theorem x0E (x y:Int):(if (decide (x < 0) != decide (y < 0))=true then -((x.natAbs / y.natAbs:Nat):Int) else ((x.natAbs / y.natAbs:Nat):Int))=x.tdiv y:=by
 have e1:∀ n:Int,0≤n→(n.natAbs:Int)=n:=fun n h=>Int.natAbs_of_nonneg h
 have e2:∀ n:Int,n < 0→(n.natAbs:Int) = -n:=fun n h=>by omega
 rw [Int.natCast_ediv]
 by_cases hx:x < 0 <;> by_cases hy:y < 0 <;> simp only [hx,hy,decide_true,decide_false,bne_self_eq_false,c1l,c1O,Bool.true_bne,Bool.false_bne,Bool.not_false,c1F]
 ·rw [e2 x hx,e2 y hy,← d1i (by omega),Int.neg_tdiv,Int.tdiv_neg,Int.neg_neg]
 ·rw [e2 x hx,e1 y (by omega),← d1i (by omega),Int.neg_tdiv,Int.neg_neg]
 ·rw [e1 x (by omega),e2 y hy,← d1i (by omega),Int.tdiv_neg,Int.neg_neg]
 ·rw [e1 x (by omega),e1 y (by omega),← d1i (by omega)]
theorem x0G (x y:Int):(if decide (x < 0)=true then -((x.natAbs % y.natAbs:Nat):Int) else ((x.natAbs % y.natAbs:Nat):Int))=x.tmod y:=by
 have h1:=Int.natAbs_tmod x y
 by_cases hx:x < 0
 ·simp only [hx,decide_true,c1F]
  have h2:x.tmod y≤0:=by
   have:=Int.tmod_nonneg (a:=-x) y (by omega)
   rw [Int.neg_tmod] at this;omega
  omega
 ·simp only [hx,decide_false,c1l,c1O]
  have h2:=Int.tmod_nonneg (a:=x) y (by omega)
  omega
theorem b0M (h:b0r H v i) (k:b0r H w j) (hf:fl≤H.size) (hn:i.2.length < 536870912) (hm:j.2.length < 536870912) (hj0:a0P j ≠ 0) :
  a0S env fl k0U [v,w] H (fun r H'=>(∃ q m,r=.tuple #[q,m,.int .i64 0]∧b0r H' q (a0m ((a0P i).tdiv (a0P j)))∧b0r H' m (a0m ((a0P i).tmod (a0P j))))∧Ext H H') R:=by
 have k0:=h
 have k1:=k
 obtain ⟨s,rfl,hs⟩:=h
 obtain ⟨u,rfl,hu⟩:=k
 refine a0g Y0O hf (h:=?_)
 intro ρ h0
 simp [I0F,C0k,h0]
 generalize hG:Array.push (Array.push (Array.push (Array.push H _) _) _) _=G
 have hx:Ext H G:=by rw [← hG];exact (Ext.refl H).push.push.push.push
 have b0:a0e.blk G H.size=.row false a0a [.bool i.1,s]:=by rw [← hG];simp
 have b1:a0e.blk G (H.size + 1)=.row false a0a [.bool j.1,u]:=by rw [← hG];simp
 have b2:a0e.blk G (H.size + 2)=.row false a0a [.bool false,.slice none 0 0]:=by rw [← hG];simp
 have b3:a0e.blk G (H.size + 3)=.row false a0a [.bool false,.slice none 0 0]:=by rw [← hG];simp
 have hz:H.size + 3 < G.size:=a0j b3
 clear hG
 replace k0:=k0.mono hx
 replace k1:=k1.mono hx
 refine a0F ?_
 simp [C0l,h0,b0,b1]
 refine (b0J k0 (by omega) (by omega)).mono ?_
 rintro x G2 ⟨k2,hx2⟩
 replace b0:=hx2.blk b0;replace b1:=hx2.blk b1;replace b2:=hx2.blk b2;replace b3:=hx2.blk b3;replace hx:=hx.trans hx2;replace k0:=k0.mono hx2;replace k1:=k1.mono hx2
 try simp [h0,b0,b1]
 refine (b0J k1 hx.1 (by omega)).mono ?_
 rintro y G2 ⟨k3,hx2⟩
 replace b0:=hx2.blk b0;replace b1:=hx2.blk b1;replace b2:=hx2.blk b2;replace b3:=hx2.blk b3;replace hx:=hx.trans hx2;replace k0:=k0.mono hx2;replace k1:=k1.mono hx2;replace k2:=k2.mono hx2
 clear hs hu hz hx2
 have l1:=a0V k0.ok
 have l2:=a0V k1.ok
 have hl0:a0K (a0P j).natAbs ≠ []:=by intro h;exact hj0 (by have:=b0Q.1 h;omega)
 have hl1:=e1D.2 hl0
 have e1:=x0E (a0P i) (a0P j)
 have e2:=x0G (a0P i) (a0P j)
 simp [C0m,C0n,h0,k3.slen,hl0]
 refine (e0T k2 k3 hx.1 (by omega)).mono ?_
 rintro _ G2 ⟨rfl,hx2⟩
 replace b0:=hx2.blk b0;replace b1:=hx2.blk b1;replace b2:=hx2.blk b2;replace b3:=hx2.blk b3;replace hx:=hx.trans hx2;replace k0:=k0.mono hx2;replace k1:=k1.mono hx2;replace k2:=k2.mono hx2;replace k3:=k3.mono hx2
 have hcmp:=f0B (a0P i).natAbs (a0P j).natAbs
 rw [e0f] at hcmp
 generalize P0E (a0K (a0P i).natAbs) (a0K (a0P j).natAbs)=c at hcmp
 by_cases hlt:(a0P i).natAbs < (a0P j).natAbs
 ·have hcl:c < 0:=by rw [hcmp,b1W hlt];omega
  simp [C0o,h0,hcl,b0]
  refine (b0v k0 hx.1 (by omega)).mono ?_
  rintro _ G2 ⟨rfl,hx2⟩
  replace b0:=hx2.blk b0;replace b1:=hx2.blk b1;replace b2:=hx2.blk b2;replace b3:=hx2.blk b3;replace hx:=hx.trans hx2;replace k0:=k0.mono hx2;replace k1:=k1.mono hx2;replace k2:=k2.mono hx2;replace k3:=k3.mono hx2
  try simp [h0]
  refine (c0b ((a0P i).tmod (a0P j)) k2 hx.1 (by omega) (by rw [a0J,← e2,c1x hlt])).mono ?_
  obtain ⟨s1,hsv,hs1⟩:∃ s1,s1=Value.slice none 0 0∧Lim G2 s1 (a0m ((a0P i).tdiv (a0P j))).2:=by
   refine ⟨_,rfl,?_⟩
   rw [← e1,Nat.div_eq_of_lt hlt]
   have:a0m (if (decide (a0P i < 0) != decide (a0P j < 0))=true then -((0:Nat):Int) else ((0:Nat):Int))=(false,[]):=by split <;> exact e0x
   rw [this];exact Lim.nil
  have hb1:(a0m ((a0P i).tdiv (a0P j))).1=false:=by
   rw [← e1,Nat.div_eq_of_lt hlt];split <;> simp [a0m]
  rw [← hsv,← hb1]
  rintro _ G2 ⟨⟨s2,rfl,hs2⟩,hx2⟩
  replace b0:=hx2.blk b0;replace b1:=hx2.blk b1;replace b2:=hx2.blk b2;replace b3:=hx2.blk b3;replace hx:=hx.trans hx2;replace k0:=k0.mono hx2;replace k1:=k1.mono hx2;replace k2:=k2.mono hx2;replace k3:=k3.mono hx2
  have hz:=a0j b3
  have hz2:=a0j b2
  simp [h0,b2,b3,hs1.cells,hs1.plain,hs2.cells,hs2.plain,hz,hz2]
  refine fun _=>⟨_,_,⟨rfl,rfl⟩,⟨s1,rfl,?_⟩,⟨s2,rfl,?_⟩⟩
  ·exact ((hs1.mono hx2).setT b2 (by decide)).setT (by rw [a0Q (by omega)];exact b3) (by decide)
  ·exact (hs2.setT b2 (by decide)).setT (by rw [a0Q (by omega)];exact b3) (by decide)
 ·have hcl:¬ c < 0:=by rw [hcmp,b1T hlt];split <;> omega
  by_cases h1:(a0K (a0P j).natAbs).length=1
  ·have hd0:(0:Nat) < (a0K (a0P j).natAbs).length:=by omega
   obtain ⟨d,hd⟩:∃ d,a0K (a0P j).natAbs=[d]:=by
    obtain ⟨d,hd⟩:=List.length_eq_one_iff.1 h1;exact ⟨d,hd⟩
   have hdv:(a0P j).natAbs=d:=by rw [← a0J (a0P j).natAbs,hd];simp [a0B]
   have hdl:d < 4294967296:=k3.ok d (by rw [hd];simp)
   have hdp:0 < d:=by omega
   rw [hd] at k3
   have hia:=k3.ia (k:=.i64) (j:=0) (by simp)
   have hld:=k3.load (j:=0) (by simp) (Ext.refl _)
   simp at hia hld
   simp [t0j,C0p,h0,hcl,hd,k3.slen,hia,hld]
   refine (m0L k2 hx.1 (by omega) hdp hdl).mono ?_
   rintro _ G2 ⟨⟨q1,o,rfl,k4,hov,hol⟩,hx2⟩
   replace b0:=hx2.blk b0;replace b1:=hx2.blk b1;replace b2:=hx2.blk b2;replace b3:=hx2.blk b3;replace hx:=hx.trans hx2;replace k0:=k0.mono hx2;replace k1:=k1.mono hx2;replace k2:=k2.mono hx2;replace k3:=k3.mono hx2
   have hmd:a0B (a0K (a0P i).natAbs) % d < 4294967296:=Nat.lt_trans (d1A _ hdp) hdl
   rw [a0J] at hov hmd ⊢
   generalize hrm:(a0P i).natAbs % d=rm at *
   simp [h0]
   refine a0F ?_
   simp [C0q,h0,b0,b1]
   refine (b0v k0 (by have:=hx.1;omega) (by omega)).mono ?_
   rintro _ G2 ⟨rfl,hx2⟩
   replace b0:=hx2.blk b0;replace b1:=hx2.blk b1;replace b2:=hx2.blk b2;replace b3:=hx2.blk b3;replace hx:=hx.trans hx2;replace k0:=k0.mono hx2;replace k1:=k1.mono hx2;replace k2:=k2.mono hx2;replace k3:=k3.mono hx2;replace k4:=k4.mono hx2
   try simp [h0,b0,b1]
   refine (b0v k1 (by have:=hx.1;omega) (by omega)).mono ?_
   rintro _ G2 ⟨rfl,hx2⟩
   replace b0:=hx2.blk b0;replace b1:=hx2.blk b1;replace b2:=hx2.blk b2;replace b3:=hx2.blk b3;replace hx:=hx.trans hx2;replace k0:=k0.mono hx2;replace k1:=k1.mono hx2;replace k2:=k2.mono hx2;replace k3:=k3.mono hx2;replace k4:=k4.mono hx2
   try simp [h0]
   refine (c0b ((a0P i).tdiv (a0P j)) k4 (by have:=hx.1;omega) (by omega) (by rw [hov,← e1,hdv])).mono ?_
   rintro _ G2 ⟨⟨s1,rfl,hs1⟩,hx2⟩
   replace b0:=hx2.blk b0;replace b1:=hx2.blk b1;replace b2:=hx2.blk b2;replace b3:=hx2.blk b3;replace hx:=hx.trans hx2;replace k0:=k0.mono hx2;replace k1:=k1.mono hx2;replace k2:=k2.mono hx2;replace k3:=k3.mono hx2;replace k4:=k4.mono hx2
   try simp [h0,b0,b1]
   refine (b0v k0 (by have:=hx.1;omega) (by omega)).mono ?_
   rintro _ G2 ⟨rfl,hx2⟩
   replace b0:=hx2.blk b0;replace b1:=hx2.blk b1;replace b2:=hx2.blk b2;replace b3:=hx2.blk b3;replace hx:=hx.trans hx2;replace k0:=k0.mono hx2;replace k1:=k1.mono hx2;replace k2:=k2.mono hx2;replace k3:=k3.mono hx2;replace k4:=k4.mono hx2
   replace hs1:=hs1.mono hx2
   try simp [h0]
   generalize hG3:Array.push G2 _=G3
   have hx2:Ext G2 G3:=by rw [← hG3];exact (Ext.refl _).push
   have k5:Lim G3 (.slice (some ⟨G2.size,0,none⟩) 1 1) [rm]:=by
    refine ⟨(Own.mk (fl:=0) (cap:=1) (e:=a0l) (sz:=1) (n:=1) (cs:=c0Y [rm]) ?_ (by simp) (c1S _)).sl,fun x hx=>by simp at hx;omega⟩
    rw [← hG3,a0v];rfl
   replace b0:=hx2.blk b0;replace b1:=hx2.blk b1;replace b2:=hx2.blk b2;replace b3:=hx2.blk b3;replace hx:=hx.trans hx2;replace k0:=k0.mono hx2;replace k1:=k1.mono hx2;replace k2:=k2.mono hx2;replace k3:=k3.mono hx2;replace k4:=k4.mono hx2
   replace hs1:=hs1.mono hx2
   refine (c0b ((a0P i).tmod (a0P j)) k5 (by have:=hx.1;omega) (by simp) (by rw [← e2,hdv,hrm];simp [a0B])).mono ?_
   rintro _ G2 ⟨⟨s2,rfl,hs2⟩,hx2⟩
   replace b0:=hx2.blk b0;replace b1:=hx2.blk b1;replace b2:=hx2.blk b2;replace b3:=hx2.blk b3;replace hx:=hx.trans hx2;replace k0:=k0.mono hx2;replace k1:=k1.mono hx2;replace k2:=k2.mono hx2;replace k3:=k3.mono hx2;replace k4:=k4.mono hx2;replace k5:=k5.mono hx2
   have hz:=a0j b3
   have hz2:=a0j b2
   simp [h0,b2,b3,hs1.cells,hs1.plain,hs2.cells,hs2.plain,hz,hz2]
   refine fun _=>⟨_,_,⟨rfl,rfl⟩,⟨s1,rfl,?_⟩,⟨s2,rfl,?_⟩⟩
   ·exact ((hs1.mono hx2).setT b2 (by decide)).setT (by rw [a0Q (by omega)];exact b3) (by decide)
   ·exact (hs2.setT b2 (by decide)).setT (by rw [a0Q (by omega)];exact b3) (by decide)
  ·have hlt2:2≤(a0K (a0P j).natAbs).length:=by omega
   have hle:(a0K (a0P j).natAbs).length≤(a0K (a0P i).natAbs).length:=b0o (by omega)
   have h1':¬ ((a0K (a0P j).natAbs).length:Int)=1:=by omega
   simp [t0j,C0r,h0,hcl,h1,h1',k3.slen]
   refine (l0g k2 k3 hx.1 (by omega) hlt2 hle (k0N (by omega))).mono ?_
   rintro _ G2 ⟨⟨q1,o,q2,o2,rfl,k4,hov,hol,k5,hov2,hol2⟩,hx2⟩
   replace b0:=hx2.blk b0;replace b1:=hx2.blk b1;replace b2:=hx2.blk b2;replace b3:=hx2.blk b3;replace hx:=hx.trans hx2;replace k0:=k0.mono hx2;replace k1:=k1.mono hx2
   rw [a0J,a0J] at hov hov2
   simp [h0]
   refine a0F ?_
   simp [v0z,h0,b0,b1]
   refine (b0v k0 (by have:=hx.1;omega) (by omega)).mono ?_
   rintro _ G2 ⟨rfl,hx2⟩
   replace b0:=hx2.blk b0;replace b1:=hx2.blk b1;replace b2:=hx2.blk b2;replace b3:=hx2.blk b3;replace hx:=hx.trans hx2;replace k0:=k0.mono hx2;replace k1:=k1.mono hx2;replace k4:=k4.mono hx2;replace k5:=k5.mono hx2
   try simp [h0,b0,b1]
   refine (b0v k1 (by have:=hx.1;omega) (by omega)).mono ?_
   rintro _ G2 ⟨rfl,hx2⟩
   replace b0:=hx2.blk b0;replace b1:=hx2.blk b1;replace b2:=hx2.blk b2;replace b3:=hx2.blk b3;replace hx:=hx.trans hx2;replace k0:=k0.mono hx2;replace k4:=k4.mono hx2;replace k5:=k5.mono hx2
   try simp [h0]
   refine (c0b ((a0P i).tdiv (a0P j)) k4 (by have:=hx.1;omega) (by omega) (by rw [hov,← e1])).mono ?_
   rintro _ G2 ⟨⟨s1,rfl,hs1⟩,hx2⟩
   replace b0:=hx2.blk b0;replace b1:=hx2.blk b1;replace b2:=hx2.blk b2;replace b3:=hx2.blk b3;replace hx:=hx.trans hx2;replace k0:=k0.mono hx2;replace k5:=k5.mono hx2
   try simp [h0,b0,b1]
   refine (b0v k0 (by have:=hx.1;omega) (by omega)).mono ?_
   rintro _ G2 ⟨rfl,hx2⟩
   replace b2:=hx2.blk b2;replace b3:=hx2.blk b3;replace hx:=hx.trans hx2;replace k5:=k5.mono hx2
   replace hs1:=hs1.mono hx2
   try simp [h0]
   refine (c0b ((a0P i).tmod (a0P j)) k5 (by have:=hx.1;omega) (by omega) (by rw [hov2,← e2])).mono ?_
   rintro _ G2 ⟨⟨s2,rfl,hs2⟩,hx2⟩
   replace b2:=hx2.blk b2;replace b3:=hx2.blk b3;replace hx:=hx.trans hx2
   have hz:=a0j b3
   have hz2:=a0j b2
   simp [h0,b2,b3,hs1.cells,hs1.plain,hs2.cells,hs2.plain,hz,hz2]
   refine fun _=>⟨_,_,⟨rfl,rfl⟩,⟨s1,rfl,?_⟩,⟨s2,rfl,?_⟩⟩
   ·exact ((hs1.mono hx2).setT b2 (by decide)).setT (by rw [a0Q (by omega)];exact b3) (by decide)
   ·exact (hs2.setT b2 (by decide)).setT (by rw [a0Q (by omega)];exact b3) (by decide)
end
section
open Go
abbrev Log:=List (List Nat × List Nat)
def WRL (E:Env) (fl:Nat):List a0D→a0W→a0e→Log→(a0W→a0e→Log→Prop)→Prop
 | [],t,H,lg,Z=>Z t H lg
 | o :: r,t,H,lg,Z=>if b0c t o.g then WS E fl t H o.op (fun v H'=>WRL E fl r (put t o.dst v) H' (c0T t o.op :: lg) Z) (fun _=>False) else WRL E fl r (put t o.dst undef) H (([],[]) :: lg) Z
variable {E:Env} {fl:Nat} {t:a0W} {H:a0e} {Q:d0O} {R:a0u}
theorem o0q (bef:List Nat) (pairs:List (Nat × Nat)) {Z:a0W→a0e→Prop}:∀ (ops:List a0D) (i:Nat) (t:a0W) (H:a0e) (log:Log),
  WRL E fl ops t H log (fun t' H' lg=>c0H lg.reverse pairs=true∧Z t' H')→∃ n t' H',b0L (b0i E n) fl bef pairs i ops t H none log=.fin .normal t' H'∧Z t' H'
 | [],i,t,H,log,h=>⟨0,t,H,by simp only [b0L];rw [b1W h.1],h.2⟩
 | o :: r,i,t,H,log,h=>by
  simp only [WRL] at h
  split at h
  ·rename_i hw
   obtain ⟨n,hn⟩:=y0g h
   cases hs:b0x (b0i E n) fl t H o.op with
   | bad=>rw [hs] at hn;exact c1j hn id
   | pan v=>rw [hs] at hn;exact c1j hn id
   | ok rr =>
    obtain ⟨v,H'⟩:=rr
    rw [hs] at hn
    obtain ⟨m,t2,H2,hm,hz⟩:=o0q bef pairs r (i + 1) _ _ _ hn
    refine ⟨max n m,t2,H2,?_,hz⟩
    have h1:=f0x (a0E E n (max n m) (by omega)) (b1S fl) (t:=t) (H:=H) (so:=o.op) (by rw [hs];simp)
    have h2:=c0W (a0E E m (max n m) (by omega)) (b1S fl) bef pairs r (i + 1) (put t o.dst v) H' none (c0T t o.op :: log) (by rw [hm];simp)
    simp only [b0L,g0z,c1l,c1O,hw,c1F,h1,hs,h2];exact hm
  ·rename_i hw
   obtain ⟨m,t2,H2,hm,hz⟩:=o0q bef pairs r (i + 1) _ _ _ h
   exact ⟨m,t2,H2,by simp only [b0L,g0z,c1l,c1O,hw];exact hm,hz⟩
theorem c0w {ops:List a0D} {bef:List Nat} {pairs:List (Nat × Nat)} (h:WRL E fl ops t H [] (fun t' H' lg=>c0H lg.reverse pairs=true∧Q .normal t' H')):W E fl (.draw ops bef pairs) t H Q R:=by
 obtain ⟨n,t',H',hn,hz⟩:=o0q bef pairs ops 0 t H [] h
 refine ⟨n + 1,?_⟩
 have h2:=c0W (a0E E n (n+1) (by omega)) (b1S fl) bef pairs ops 0 t H none [] (by rw [hn];simp)
 simp only [a0Y,h2,hn];exact hz
section
variable {Z:a0W→a0e→Log→Prop} {lg:Log} {d:Option Nat} {op:SOp} {r:List a0D}
@[simp ↓] theorem X0w:WRL E fl [] t H lg Z=Z t H lg:=nr rfl
@[simp ↓] theorem u0j:WRL E fl (⟨d,none,op⟩ :: r) t H lg Z=WS E fl t H op (fun v H'=>WRL E fl r (put t d v) H' (c0T t op :: lg) Z) (fun _=>False):=by simp [WRL,b0c]
@[simp ↓] theorem a1u {j:Nat} {w:Bool}:WRL E fl (⟨d,some (j,w),op⟩ :: r) t H lg Z=if x0I w (get t j)=true then WS E fl t H op (fun v H'=>WRL E fl r (put t d v) H' (c0T t op :: lg) Z) (fun _=>False) else WRL E fl r (put t d undef) H (([],[]) :: lg) Z:=by
 have h:b0c t (some (j,w))=x0I w (get t j):=by
  simp only [b0c]
  generalize get t j=v
  cases v <;> rfl
 show (if b0c t (some (j,w))=true then _ else _)=_
 rw [h]
theorem y0c {t t':a0W} {ops:List a0D} {lg:Log} (h:t=t'):WRL E fl ops t H lg Z=WRL E fl ops t' H lg Z:=by rw [h]
attribute [congr] y0c
@[simp] theorem T0a {p:Addr}:blkOf (.pointer (some p))=[p.block]:=nr rfl
@[simp] theorem V0S {p:Addr} {n c:Nat}:blkOf (.slice (some p) n c)=[p.block]:=nr rfl
@[simp] theorem R0M {n c:Nat}:blkOf (.slice none n c)=[]:=nr rfl
@[simp] theorem Y0m {p:Addr} {n c:Nat}:blkW (.slice (some p) n c)=if n=0∧c=0 then [] else [p.block]:=nr rfl
@[simp] theorem T0b {n c:Nat}:blkW (.slice none n c)=[]:=nr rfl
attribute [simp] c0T c0H r0b
end
end
section
open Go
set_option maxHeartbeats 4000000
variable {fl:Nat} {H:a0e} {R:a0u} {v w:Value} {i j:Bool × List Nat}
theorem new2 {G:a0e} {z1 z2 r1 r2:Blk}:Ext G (Array.setIfInBounds (Array.setIfInBounds (Array.push (Array.push G z1) z2) G.size r1) (G.size + 1) r2) ∧
  a0e.blk (Array.setIfInBounds (Array.setIfInBounds (Array.push (Array.push G z1) z2) G.size r1) (G.size + 1) r2) G.size=r1 ∧
  a0e.blk (Array.setIfInBounds (Array.setIfInBounds (Array.push (Array.push G z1) z2) G.size r1) (G.size + 1) r2) (G.size + 1)=r2:=by
 refine ⟨(((Ext.refl G).push.push).set (by omega)).set (by omega),?_,?_⟩
 ·rw [a0Q (by omega),a0I (by simp)]
 ·rw [a0I (by simp)]
theorem a0p (n:Nat):(a0m (n:Int))=(false,a0K n):=by unfold a0m;simp
theorem e0R (h:b0r H v i) (k:b0r H w j) (hf:fl≤H.size) (hn:i.2.length < 536870912) (hm:j.2.length < 536870912) :
  a0S env fl q0I [v,w] H (fun r H'=>b0r H' r (a0m (Int.gcd (a0P i) (a0P j)))∧Ext H H') R:=by
 have k0:=h
 have k1:=k
 obtain ⟨s,rfl,hs⟩:=h
 obtain ⟨u,rfl,hu⟩:=k
 refine a0g Y0M hf (h:=?_)
 intro ρ h0
 simp [I0D,C0b,h0]
 generalize hG:Array.push (Array.push (Array.push H _) _) _=G
 have hx:Ext H G:=by rw [← hG];exact (Ext.refl H).push.push.push
 have b0:a0e.blk G H.size=.row false a0a [.bool i.1,s]:=by rw [← hG];simp
 have b1:a0e.blk G (H.size + 1)=.row false a0a [.bool j.1,u]:=by rw [← hG];simp
 have b2:a0e.blk G (H.size + 2)=.row false a0a [.bool false,.slice none 0 0]:=by rw [← hG];simp
 have hz:H.size + 2 < G.size:=a0j b2
 clear hG
 replace k0:=k0.mono hx
 replace k1:=k1.mono hx
 have l1:=a0V k0.ok
 have l2:=a0V k1.ok
 refine a0F ?_
 simp [C0c,h0,b0,b1]
 refine (b0J k0 (by omega) (by omega)).mono ?_
 rintro x G2 ⟨k2,hx2⟩
 replace b0:=hx2.blk b0;replace b1:=hx2.blk b1;replace b2:=hx2.blk b2;replace hx:=hx.trans hx2;replace k0:=k0.mono hx2;replace k1:=k1.mono hx2
 try simp [h0]
 refine (c0b (((a0P i).natAbs:Nat):Int) k2 (by have:=hx.1;omega) (by omega) (by simp [a0J])).mono ?_
 rintro x G2 ⟨k2,hx2⟩
 replace b0:=hx2.blk b0;replace b1:=hx2.blk b1;replace b2:=hx2.blk b2;replace hx:=hx.trans hx2;replace k0:=k0.mono hx2;replace k1:=k1.mono hx2
 try simp [h0,b1]
 refine (b0J k1 (by have:=hx.1;omega) (by omega)).mono ?_
 rintro y G2 ⟨k3,hx2⟩
 replace b0:=hx2.blk b0;replace b1:=hx2.blk b1;replace b2:=hx2.blk b2;replace hx:=hx.trans hx2;replace k0:=k0.mono hx2;replace k1:=k1.mono hx2;replace k2:=k2.mono hx2
 try simp [h0]
 refine (c0b (((a0P j).natAbs:Nat):Int) k3 (by have:=hx.1;omega) (by omega) (by simp [a0J])).mono ?_
 rintro y G2 ⟨k3,hx2⟩
 replace b0:=hx2.blk b0;replace b1:=hx2.blk b1;replace b2:=hx2.blk b2;replace hx:=hx.trans hx2;replace k0:=k0.mono hx2;replace k1:=k1.mono hx2;replace k2:=k2.mono hx2
 obtain ⟨s2,hxe,k2⟩:=k2
 obtain ⟨s3,hye,k3⟩:=k3
 have hsz:=hx.1
 have hsz1:H.size≤G2.size + 1:=by omega
 have hc0:=a0j b2
 simp [h0,hsz1,hxe,hye,k2.cells,k3.cells,k2.plain,k3.plain,hsz]
 rw [a0p] at k2 k3
 obtain ⟨hx2,b3,b4⟩:=new2 (G:=G2) (z1:=.row false a0a [.bool false,.slice none 0 0]) (z2:=.row false a0a [.bool false,.slice none 0 0]) (r1:=.row false a0a [.bool false,s2]) (r2:=.row false a0a [.bool false,s3])
 replace k2:=k2.mono hx2
 replace k3:=k3.mono hx2
 replace b2:=hx2.blk b2
 replace hx:=hx.trans hx2
 simp only [a0p]
 generalize Array.setIfInBounds _ _ _=G3 at *
 generalize hP:G2.size=P at *
 refine b0P (fun c t G=>∃ (a b:Nat) (s5 s6:Value),c=b∧t.length=30∧get t 4=.pointer (some ⟨H.size + 2,0,none⟩)∧get t 5=.pointer (some ⟨P,0,none⟩)∧get t 6=.pointer (some ⟨P + 1,0,none⟩) ∧
   Ext H G∧a0e.blk G (H.size + 2)=.row false a0a [.bool false,.slice none 0 0]∧a0e.blk G P=.row false a0a [.bool false,s5]∧a0e.blk G (P + 1)=.row false a0a [.bool false,s6]∧Lim G s5 (a0K a)∧Lim G s6 (a0K b) ∧
   (a0K a).length < 536870912∧(a0K b).length < 536870912∧Nat.gcd a b=Int.gcd (a0P i) (a0P j))
  (fun t G=>∃ (a:Nat) (s5:Value),t.length=30∧get t 4=.pointer (some ⟨H.size + 2,0,none⟩)∧get t 5=.pointer (some ⟨P,0,none⟩) ∧
   Ext H G∧a0e.blk G (H.size + 2)=.row false a0a [.bool false,.slice none 0 0]∧a0e.blk G P=.row false a0a [.bool false,s5]∧Lim G s5 (a0K a)∧a=Int.gcd (a0P i) (a0P j)) (a0P j).natAbs ?_ ?_ ?_
 ·exact ⟨(a0P i).natAbs,(a0P j).natAbs,s2,s3,rfl,by simp,by simp,by simp,by simp,hx,b2,b3,b4,k2,k3,by omega,by omega,rfl⟩
 ·clear h0 ρ k0 k1 k2 k3 b0 b1 b2 hx
  rintro c t G ⟨a,b,s5,s6,rfl,ht,g4,g5,g6,hx,b2,b3,b4,k5,k6,la,lb,hg⟩
  obtain ⟨ρ,rfl⟩:=toT ht
  simp only [b0N,Nat.reduceLT] at g4 g5 g6
  by_cases hb:c=0
  ·subst hb
   rw [b0p] at k6
   simp [t0i,g4,g5,g6,b2,b3,b4,k6.slen]
   rw [Nat.gcd_zero_right] at hg
   exact ⟨hx,by rw [← hg];exact k5⟩
  ·have hdl:0 < (a0K c).length:=e1D.2 (by rw [Ne,b0Q];exact hb)
   have hdl':(0:Int) < ((a0K c).length:Int):=by omega
   have hnil:a0K c ≠ []:=by rw [Ne,b0Q];exact hb
   simp [t0i,C0d,g4,g5,g6,b2,b3,b4,k6.slen,hdl,hdl',hnil]
   have k0:b0r G (.agg #[.bool false,s5]) (a0m (a:Int)):=⟨s5,by rw [a0p],by rw [a0p];exact k5⟩
   have k1:b0r G (.agg #[.bool false,s6]) (a0m (c:Int)):=⟨s6,by rw [a0p],by rw [a0p];exact k6⟩
   refine (b0M k0 k1 hx.1 (by rw [a0p];exact la) (by rw [a0p];exact lb) (by rw [a0k];omega)).mono ?_
   rintro _ G2 ⟨⟨q,m,rfl,k7,k8⟩,hx2⟩
   replace b2:=hx2.blk b2;replace b3:=hx2.blk b3;replace b4:=hx2.blk b4;replace hx:=hx.trans hx2;replace k0:=k0.mono hx2;replace k1:=k1.mono hx2;replace k5:=k5.mono hx2;replace k6:=k6.mono hx2
   rw [a0k,a0k] at k7 k8
   have hmod:((a:Int).tmod (c:Int))=((a % c:Nat):Int):=by rw [Int.tmod_eq_emod_of_nonneg (by omega)];rfl
   rw [hmod,a0p] at k8
   obtain ⟨s7,rfl,k7⟩:=k7
   obtain ⟨s8,rfl,k8⟩:=k8
   have hsz:=hx.1
   have hsz1:H.size≤G2.size + 1:=by omega
   have hc1:=a0j b4
   simp [g4,g5,g6,b3,b4,k7.cells,k8.cells,k7.plain,k8.plain,hsz,hsz1]
   obtain ⟨hx2,b5,b6⟩:=new2 (G:=G2) (z1:=.row false a0a [.bool false,.slice none 0 0]) (z2:=.row false a0a [.bool false,.slice none 0 0]) (r1:=.row false a0a [.bool (a0m (↑a / ↑c)).1,s7]) (r2:=.row false a0a [.bool false,s8])
   replace b2:=hx2.blk b2;replace b3:=hx2.blk b3;replace b4:=hx2.blk b4;replace hx:=hx.trans hx2;replace k0:=k0.mono hx2;replace k1:=k1.mono hx2;replace k5:=k5.mono hx2;replace k6:=k6.mono hx2;replace k8:=k8.mono hx2
   generalize Array.setIfInBounds (Array.setIfInBounds _ _ _) _ _=G3 at *
   have hl1:=a0j b3
   have hl2:=a0j b4
   have hHP:H.size≤P:=by omega
   have hHP1:H.size≤P + 1:=by omega
   have hne:P + 1 ≠ P:=by omega
   have hne2:P ≠ G2.size + 1:=by omega
   have hne3:G2.size + 1 ≠ P:=by omega
   refine c0w ?_
   simp [C0e,g4,g5,g6,b4,b6,b3,k6.cells,k8.cells,k6.plain,k8.plain,hHP,hHP1,hne,hne2,hne3]
   have hmc:a % c < c:=d1A _ (by omega)
   refine ⟨a % c,hmc,(hx.set hHP).set hHP1,by rw [a0Q (by omega),a0Q (by omega)];exact b2,c,s6,by rw [a0I hl1],s8,by rw [a0I (by simpa using hl2)],?_,?_,lb,Nat.lt_of_le_of_lt (b0o (Nat.le_of_lt hmc)) lb,by rw [Nat.gcd_comm,← Nat.gcd_rec,Nat.gcd_comm,hg]⟩
   ·exact (k6.setT b3 (by decide)).setT (by rw [a0Q (by omega)];exact b4) (by decide)
   ·exact (k8.setT b3 (by decide)).setT (by rw [a0Q (by omega)];exact b4) (by decide)
 ·clear h0 ρ k0 k1 k2 k3 b0 b1 b2 hx
  rintro t G ⟨a,s5,ht,g4,g5,hx,b2,b3,k5,hg⟩
  obtain ⟨ρ,rfl⟩:=toT ht
  simp only [b0N,Nat.reduceLT] at g4 g5
  have hl1:=a0j b2
  have hl2:=a0j b3
  subst hg
  simp [C0f,g4,g5,b2,b3,k5.cells,k5.plain,hl1]
  exact fun _=>⟨s5,rfl,k5.setT b2 (by decide)⟩
end
section
open Go
def x0T (E:Env) (fl fl':Nat) (f:FuncId) (args:List Value) (H:a0e) (d:Option Nat) (r:List a0D) (t:a0W) (Z:a0W→a0e→Prop) (R:a0u):Prop :=
 a0S E fl' f args H (fun v H'=>WR E fl r (put t d v) H' Z R) R
@[simp ↓ high] theorem V0I {E:Env} {fl:Nat} {t:a0W} {H:a0e} {R:a0u} {d:Option Nat} {r:List a0D} {Z:a0W→a0e→Prop} {f:FuncId} {az:List Opd} {lone:Bool} :
  WS E fl t H (.call f az lone) (fun v H'=>WR E fl r (put t d v) H' Z R) R=x0T E fl (if lone then fl else max fl H.size) f (az.map (ev t)) H d r t Z R:=nr rfl
def x0P (E:Env) (fl fl':Nat) (x:Value) (args:List Value) (H:a0e) (d:Option Nat) (r:List a0D) (t:a0W) (Z:a0W→a0e→Prop) (R:a0u):Prop :=
 match x with
 | .func (.func f) p q=>x0T E fl fl' f (p.toList ++ args ++ q.toList) H d r t Z R
 | _=>False
@[simp ↓ high] theorem S0G {E:Env} {fl:Nat} {t:a0W} {H:a0e} {R:a0u} {d:Option Nat} {r:List a0D} {Z:a0W→a0e→Prop} {x:Opd} {az:List Opd} {lone:Bool} :
  WS E fl t H (.callv x az lone) (fun v H'=>WR E fl r (put t d v) H' Z R) R=x0P E fl (if lone then fl else max fl H.size) (ev t x) (az.map (ev t)) H d r t Z R:=by
 simp only [WS,opA,x0P];generalize ev t x=y
 cases y <;> try rfl
 rename_i g _ _;cases g <;> rfl
@[simp] theorem S0q {E:Env} {fl fl':Nat} {t:a0W} {H:a0e} {R:a0u} {d:Option Nat} {r:List a0D} {Z:a0W→a0e→Prop} {f:FuncId} {p q:Array Value} {az:List Value} :
  x0P E fl fl' (.func (.func f) p q) az H d r t Z R=x0T E fl fl' f (p.toList ++ az ++ q.toList) H d r t Z R:=nr rfl
theorem r0W {E:Env} {fl fl' fl2:Nat} {t t':a0W} {H:a0e} {R:a0u} {d:Option Nat} {r:List a0D} {Z:a0W→a0e→Prop} {f:FuncId} {az az':List Value} (h:az=az') (ht:t=t') (hf:fl' = fl2) :
  x0T E fl fl' f az H d r t Z R=x0T E fl fl2 f az' H d r t' Z R:=by rw [h,ht,hf]
attribute [congr] r0W
section
variable {E:Env} {fl:Nat} {t:a0W} {H:a0e} {Z:a0W→a0e→Log→Prop} {lg:Log} {d:Option Nat} {r:List a0D}
def X0r (E:Env) (fl fl':Nat) (f:FuncId) (args:List Value) (H:a0e) (d:Option Nat) (r:List a0D) (t:a0W) (lg:Log) (Z:a0W→a0e→Log→Prop):Prop :=
 a0S E fl' f args H (fun v H'=>WRL E fl r (put t d v) H' lg Z) (fun _=>False)
@[simp ↓ high] theorem V0J {f:FuncId} {az:List Opd} {lone:Bool} :
  WS E fl t H (.call f az lone) (fun v H'=>WRL E fl r (put t d v) H' lg Z) (fun _=>False)=X0r E fl (if lone then fl else max fl H.size) f (az.map (ev t)) H d r t lg Z:=nr rfl
end
section
variable {H G G3:a0e} {q p:Nat} {X r0:Blk} {ro:Bool} {e:TypeId} {cs:List Value}
theorem a0z (hS:Array.setIfInBounds G q X=G3) (hb:a0e.blk G p=r0) (h:q ≠ p):a0e.blk G3 p=r0:=by rw [← hS,a0Q h];exact hb
theorem a0M (hS:Array.setIfInBounds G q X=G3) (hb:a0e.blk G q=.row ro e cs):a0e.blk G3 q=X:=by rw [← hS,a0I (a0j hb)]
theorem b0I (hS:Array.setIfInBounds G q X=G3) (hx:Ext H G) (h:H.size≤q):Ext H G3:=by rw [← hS];exact hx.set h
theorem Lim.setS {v:Value} {l:List Nat} (k:Lim G v l) (hS:Array.setIfInBounds G q X=G3) (hb:a0e.blk G q=.row ro e cs) (hne:e ≠ a0l):Lim G3 v l:=by rw [← hS];exact k.setT hb hne
theorem b0r.setS {v:Value} {i:Bool × List Nat} (k:b0r G v i) (hS:Array.setIfInBounds G q X=G3) (hb:a0e.blk G q=.row ro e cs) (hne:e ≠ a0l):b0r G3 v i:=by rw [← hS];exact k.setT hb hne
theorem new1 {z r:Blk} (hN:Array.setIfInBounds (Array.push G z) G.size r=G3):Ext G G3∧a0e.blk G3 G.size=r:=by
 rw [← hN];exact ⟨((Ext.refl G).push).set (by omega),by rw [a0I (by simp)]⟩
theorem h0Z {z:Blk} (hN:Array.push G z=G3):Ext G G3∧a0e.blk G3 G.size=z:=by
 rw [← hN];exact ⟨(Ext.refl G).push,a0v⟩
end
def lz (z:Int):Nat:=(a0K z.natAbs).length
theorem q0Y {z:Int} {k:Nat} (h:z.natAbs < 4294967296 ^ k):lz z≤k:=h0e h
theorem z0m (z:Int):z.natAbs < 4294967296 ^ lz z:=l0d _
theorem s0A {x y:Int} (h:x.natAbs≤y.natAbs):lz x≤lz y:=b0o h
theorem d0b (x y:Int):lz (x * y)≤lz x + lz y:=by
 refine q0Y ?_
 rw [d1D,e1m]
 exact Nat.mul_lt_mul'' (z0m x) (z0m y)
theorem q0X (x y:Int):lz (x + y)≤max (lz x) (lz y) + 1:=by
 refine q0Y ?_
 have h1:=z0m x
 have h2:=z0m y
 have h3:(4294967296:Nat) ^ lz x≤4294967296 ^ max (lz x) (lz y):=d1x (by omega) (by omega)
 have h4:(4294967296:Nat) ^ lz y≤4294967296 ^ max (lz x) (lz y):=d1x (by omega) (by omega)
 have:=Int.natAbs_add_le x y
 rw [c1E]
 omega
theorem e0Q (x:Int):lz (-x)=lz x:=by unfold lz;rw [Int.natAbs_neg]
theorem f0X:lz 1=1:=by unfold lz;rw [e0z (by decide),show (1:Int).natAbs / 4294967296=0 from rfl,b0p];rfl
theorem c0x:lz 0=0:=by unfold lz;rw [show (0:Int).natAbs=0 from rfl,b0p];rfl
theorem a0n (z:Int):(a0m z).2.length=lz z:=rfl
theorem u0L {i:Bool × List Nat} (h:b0t i.2):lz (a0P i)≤i.2.length:=a0V h
end
section
open Go
set_option maxHeartbeats 4000000
variable {fl:Nat} {H:a0e} {R:a0u} {v w:Value} {i j:Bool × List Nat}
abbrev b0e:=(Bool × List Nat) × (Bool × List Nat)
def b0O (H:a0e) (v:Value) (a:b0e):Prop:=∃ s u,v=.agg #[.bool a.1.1,s,.bool a.2.1,u]∧Lim H s a.1.2∧Lim H u a.2.2
variable {a b:b0e}
theorem b0O.mono {G:a0e} (h:b0O H v a) (hx:Ext H G):b0O G v a:=by obtain ⟨s,u,h1,h2,h3⟩:=h;exact ⟨s,u,h1,h2.mono hx,h3.mono hx⟩
theorem b0O.setT (h:b0O H v a) {p:Nat} {ro:Bool} {e':TypeId} {cs':List Value} {r:Blk} (hb:H.blk p=.row ro e' cs') (hne:e' ≠ a0l):b0O (H.setIfInBounds p r) v a:=by
 obtain ⟨s,u,h1,h2,h3⟩:=h;exact ⟨s,u,h1,h2.setT hb hne,h3.setT hb hne⟩
theorem b0O.setS {G3:a0e} {q:Nat} {X:Blk} {ro:Bool} {e:TypeId} {cs:List Value} (k:b0O H v a) (hS:Array.setIfInBounds H q X=G3) (hb:a0e.blk H q=.row ro e cs) (hne:e ≠ a0l):b0O G3 v a:=by rw [← hS];exact k.setT hb hne
def e0I (a:b0e):Nat:=max a.1.2.length a.2.2.length
def f0y (a:b0e):Bool:=!a.1.1 && a.1.2.length == 0 && !a.2.1 && a.2.2.length == 0
def u0N (a:b0e):Bool:=f0y a || (l0e a.1 && l0e a.2 && !a.2.1 && a0P a.2 != 0 && Int.gcd (a0P a.1) (a0P a.2) == 1)
def b0A (a:b0e):Rat:=if f0y a then 0 else if u0N a then Rat.divInt (a0P a.1) (a0P a.2) else 0
def a0f (x:Rat):b0e:=(a0m x.num,a0m x.den)
theorem o0j (hz:f0y a=false) (hm:u0N a=true):a0f (b0A a)=(a0m (a0P a.1),a0m (a0P a.2)):=by
 unfold b0A
 rw [hz,hm]
 unfold u0N at hm
 rw [hz,e1H] at hm
 simp only [c1e,d1R,bne_iff_ne,ne_eq,beq_iff_eq] at hm
 obtain ⟨⟨⟨⟨h1,h2⟩,h3⟩,h4⟩,h5⟩:=hm
 have hq:0 < a0P a.2:=by
  unfold a0P at h4 ⊢;rw [h2,h3] at h4 ⊢;simp at h4 ⊢;omega
 have hd:((a0P a.2).toNat:Int)=a0P a.2:=d1Y (by omega)
 have h6:Rat.divInt (a0P a.1) (a0P a.2) = ⟨a0P a.1,(a0P a.2).toNat,by omega,by rw [Nat.Coprime,← h5,Int.gcd];congr 1;omega⟩:=by
  rw [Rat.mk_eq_divInt,hd]
 simp only [c1l,c1O,c1F]
 rw [h6];unfold a0f;simp only [hd]
theorem k0J:a0f 0=((false,[]),a0m 1):=by
 show (a0m 0,a0m 1)=_;rw [e0x]
theorem m0m (x:Rat):f0y (a0f x)=false:=by
 have:=x.den_nz
 unfold f0y a0f
 have h:a0K (x.den:Int).natAbs ≠ []:=by rw [Ne,b0Q];omega
 have h2:(a0K x.den).length ≠ 0:=by intro h3;exact h (c1r.1 h3)
 simp [a0m];intro _ _;simpa using h2
theorem f0q (x:Rat):u0N (a0f x)=true:=by
 have h1:=x.den_nz
 have h2:=x.reduced
 unfold u0N
 rw [m0m,e1H]
 unfold a0f
 simp only [r0a,a0k,c1e,d1R,bne_iff_ne,beq_iff_eq]
 refine ⟨⟨⟨⟨trivial,trivial⟩,by simp [a0m]⟩,by omega⟩,?_⟩
 rw [Int.gcd,Int.natAbs_natCast];exact h2
theorem a0s (x:Rat):b0A (a0f x)=x:=by
 unfold b0A
 rw [m0m,f0q]
 simp only [c1l,c1O,c1F]
 unfold a0f
 rw [a0k,a0k,e1J]
theorem i0L (h:b0O H v a) (hf:fl≤H.size):a0S env fl w0D [v] H (fun r H'=>r=.bool (f0y a)∧Ext H H') R:=by
 obtain ⟨s,u,rfl,hs,hu⟩:=h
 refine a0g Y0D hf (h:=?_)
 intro ρ h0
 simp [I0u,B0p,h0]
 have hsl:=hs.slen
 have hul:=hu.slen
 cases h1:a.1.1
 ·by_cases h2:a.1.2=[]
  ·cases h3:a.2.1
   ·simp [l0T,h0,h1,h2,h3,hsl,hul,f0y]
   ·simp [l0T,h0,h1,h2,h3,hsl,hul,f0y]
  ·simp [l0T,h0,h1,h2,hsl,hul,f0y]
 ·simp [l0T,h0,h1,hsl,hul,f0y]
theorem i0K (h:b0r H v i) (hf:fl≤H.size) (hn:i.2.length < 536870912):a0S env fl w0F [v] H (fun r H'=>r=.bool (a0P i == 0)∧Ext H H') R:=by
 have k0:=h
 obtain ⟨s,rfl,hs⟩:=h
 refine a0g Y0K hf (h:=?_)
 intro ρ h0
 simp [I0B,B0T,B0U,h0]
 refine (d0y (k0.mono (by simp)) (j:=(false,[])) ⟨_,rfl,Lim.nil⟩ (by simp) hn (by simp)).mono ?_
 rintro _ G2 ⟨rfl,hx2⟩
 have:a0P (false,[])=0:=by unfold a0P l0e;simp [a0B]
 rw [this]
 simp [c0V]
 intro _
 by_cases h1:a0P i < 0
 ·simp [h1];omega
 ·by_cases h2:0 < a0P i
  ·simp [h1,h2];omega
  ·simp [h1,h2];omega
theorem e0W (hf:fl≤H.size):a0S env fl s0r [] H (fun r H'=>b0r H' r (a0m 1)∧Ext H H') R:=by
 refine a0g Y0v hf (h:=?_)
 intro ρ h0
 simp [I0m,A0x,A0y,h0]
 refine (c0f (by simp) (by omega) (by omega)).mono ?_
 rintro _ G2 ⟨⟨s,rfl,hs⟩,hx2⟩
 have b0:=hx2.blk a0v
 have hz:=a0j b0
 simp [b0,hs.cells,hs.plain,hz]
 exact fun _=>⟨s,rfl,hs.setT b0 (by decide)⟩
theorem g0O (h:b0O H v a) (hf:fl≤H.size) (hn:e0I a < 536870912):a0S env fl s0q [v] H (fun r H'=>r=.bool (u0N a)∧Ext H H') R:=by
 have k0:=h
 have hn1:a.1.2.length < 536870912:=by unfold e0I at hn;omega
 have hn2:a.2.2.length < 536870912:=by unfold e0I at hn;omega
 obtain ⟨s,u,rfl,hs,hu⟩:=h
 have k1:b0r H (.agg #[.bool a.1.1,s]) a.1:=⟨s,rfl,hs⟩
 have k2:b0r H (.agg #[.bool a.2.1,u]) a.2:=⟨u,rfl,hu⟩
 refine a0g Y0r hf (h:=?_)
 intro ρ h0
 simp [I0i,A0h,h0]
 generalize hG:Array.push H _=G
 have hx2:Ext H G:=by rw [← hG];simp
 have b0:a0e.blk G H.size=.row false a0b [.bool a.1.1,s,.bool a.2.1,u]:=by rw [← hG];simp
 have hx:=Ext.refl H
 clear hG
 replace hx:=hx.trans hx2;replace k0:=k0.mono hx2;replace k1:=k1.mono hx2;replace k2:=k2.mono hx2
 simp [A0i,h0,b0]
 refine (i0L k0 hx.1).mono ?_
 rintro _ G2 ⟨rfl,hx2⟩
 replace b0:=hx2.blk b0;replace hx:=hx.trans hx2;replace k1:=k1.mono hx2;replace k2:=k2.mono hx2
 unfold u0N
 cases hz:f0y a
 case true=>simp [A0j]
 simp [A0k,h0,b0]
 refine (e0S k1 hx.1 (by omega)).mono ?_
 rintro _ G2 ⟨rfl,hx2⟩
 replace b0:=hx2.blk b0;replace hx:=hx.trans hx2;replace k1:=k1.mono hx2;replace k2:=k2.mono hx2
 cases h1:l0e a.1
 case false=>simp
 simp [h0,b0]
 refine (e0S k2 hx.1 (by omega)).mono ?_
 rintro _ G2 ⟨rfl,hx2⟩
 replace b0:=hx2.blk b0;replace hx:=hx.trans hx2;replace k1:=k1.mono hx2;replace k2:=k2.mono hx2
 cases h2:l0e a.2
 case false=>simp
 cases h3:a.2.1
 case true=>simp [h0,b0,h3]
 simp [h0,b0,h3]
 rw [← h3]
 refine (i0K k2 hx.1 hn2).mono ?_
 rintro _ G2 ⟨rfl,hx2⟩
 replace b0:=hx2.blk b0;replace hx:=hx.trans hx2;replace k1:=k1.mono hx2;replace k2:=k2.mono hx2
 by_cases h4:a0P a.2=0
 ·simp [h4]
  exact fun _=>h3
 have h4':(a0P a.2 == 0)=false:=by simp [h4]
 simp [h0,b0,h4,h4',h3]
 rw [← h3]
 refine (e0R k1 k2 hx.1 hn1 hn2).mono ?_
 rintro x G2 ⟨k3,hx2⟩
 replace hx:=hx.trans hx2;replace k2:=k2.mono hx2
 try simp [h0]
 refine (e0W hx.1).mono ?_
 rintro y G2 ⟨k4,hx2⟩
 replace hx:=hx.trans hx2;replace k2:=k2.mono hx2;replace k3:=k3.mono hx2
 try simp [h0]
 have hgl:(a0m ((Int.gcd (a0P a.1) (a0P a.2):Nat):Int)).2.length < 536870912:=by
  rw [a0p]
  show (a0K _).length < _
  have h5:Int.gcd (a0P a.1) (a0P a.2)≤(a0P a.2).natAbs:=Int.gcd_le_natAbs_right _ h4
  have:=b0o h5
  have:=a0V k2.ok
  omega
 refine (d0y k3 k4 hx.1 hgl (by rw [a0n,f0X];decide)).mono ?_
 rintro _ G2 ⟨rfl,hx2⟩
 rw [a0k,a0k]
 simp
 intro _
 generalize Int.gcd (a0P a.1) (a0P a.2)=g
 have h6:(c0V (g:Int) 1 == 0)=(g == 1):=by
  unfold c0V
  by_cases hg:g=1
  ·subst hg;rfl
  ·have e:(g == 1)=false:=by simp [hg]
   rw [e];split
   ·rfl
   ·rename_i h7;split
    ·rfl
    ·omega
 simp [h3,h4,h6]
theorem b0V (h:b0O H v a) (hf:fl≤H.size) (hn:e0I a < 536870912):a0S env fl y0U [v] H (fun r H'=>b0O H' r (a0f (b0A a))∧Ext H H') R:=by
 have k0:=h
 have hn1:a.1.2.length < 536870912:=by unfold e0I at hn;omega
 have hn2:a.2.2.length < 536870912:=by unfold e0I at hn;omega
 obtain ⟨s,u,rfl,hs,hu⟩:=h
 have k1:b0r H (.agg #[.bool a.1.1,s]) a.1:=⟨s,rfl,hs⟩
 have k2:b0r H (.agg #[.bool a.2.1,u]) a.2:=⟨u,rfl,hu⟩
 refine a0g b1B hf (h:=?_)
 intro ρ h0
 simp [X0k,O0q,h0]
 generalize hG:Array.push (Array.push H _) _=G
 have hx2:Ext H G:=by rw [← hG];simp
 have b0:a0e.blk G H.size=.row false a0b [.bool a.1.1,s,.bool a.2.1,u]:=by rw [← hG];simp
 have b1:a0e.blk G (H.size + 1)=.row false a0b [.bool false,.slice none 0 0,.bool false,.slice none 0 0]:=by rw [← hG];simp
 have hx:=Ext.refl H
 clear hG
 replace hx:=hx.trans hx2;replace k0:=k0.mono hx2;replace k1:=k1.mono hx2;replace k2:=k2.mono hx2
 simp [O0r,h0,b0]
 refine (i0L k0 hx.1).mono ?_
 rintro _ G2 ⟨rfl,hx2⟩
 replace b0:=hx2.blk b0;replace b1:=hx2.blk b1;replace hx:=hx.trans hx2;replace k0:=k0.mono hx2;replace k1:=k1.mono hx2;replace k2:=k2.mono hx2
 cases hz0:f0y a
 case true =>
  have hval:b0A a=0:=by unfold b0A;rw [hz0];rfl
  simp [F0M,h0]
  refine (e0W hx.1).mono ?_
  rintro _ G2 ⟨⟨s1,rfl,hs1⟩,hx2⟩
  replace b0:=hx2.blk b0;replace b1:=hx2.blk b1;replace hx:=hx.trans hx2;replace k0:=k0.mono hx2;replace k1:=k1.mono hx2;replace k2:=k2.mono hx2
  have hz:=a0j b1
  simp [h0,b1,hs1.cells,hs1.plain,hz]
  refine fun _=>?_
  rw [hval,k0J]
  exact ⟨_,s1,rfl,Lim.nil,hs1.setT b1 (by decide)⟩
 simp [h0,b0]
 refine (g0O k0 hx.1 hn).mono ?_
 rintro _ G2 ⟨rfl,hx2⟩
 replace b0:=hx2.blk b0;replace b1:=hx2.blk b1;replace hx:=hx.trans hx2;replace k1:=k1.mono hx2;replace k2:=k2.mono hx2
 cases hm:u0N a
 case false =>
  have hval:b0A a=0:=by unfold b0A;rw [hz0,hm];rfl
  simp [F0M,h0]
  refine (e0W hx.1).mono ?_
  rintro _ G2 ⟨⟨s1,rfl,hs1⟩,hx2⟩
  replace b0:=hx2.blk b0;replace b1:=hx2.blk b1;replace hx:=hx.trans hx2;replace k1:=k1.mono hx2;replace k2:=k2.mono hx2
  have hz:=a0j b1
  simp [h0,b1,hs1.cells,hs1.plain,hz]
  refine fun _=>?_
  rw [hval,k0J]
  exact ⟨_,s1,rfl,Lim.nil,hs1.setT b1 (by decide)⟩
 rw [o0j hz0 hm]
 simp [h0]
 refine a0F ?_
 simp [O0s,h0,b0]
 have hv0:a0P (false,[])=0:=by unfold a0P l0e;simp [a0B]
 refine (e0h k1 (j:=(false,[])) ⟨_,rfl,Lim.nil⟩ (by have:=hx.1;omega) hn1 (by simp)).mono ?_
 rintro _ G2 ⟨⟨s1,rfl,k3⟩,hx2⟩
 replace b0:=hx2.blk b0;replace b1:=hx2.blk b1;replace hx:=hx.trans hx2;replace k2:=k2.mono hx2
 rw [hv0,d1r] at k3 ⊢
 try simp [h0,b0]
 refine (e0h k2 (j:=(false,[])) ⟨_,rfl,Lim.nil⟩ hx.1 hn2 (by simp)).mono ?_
 rintro _ G2 ⟨⟨s2,rfl,k4⟩,hx2⟩
 replace b1:=hx2.blk b1;replace hx:=hx.trans hx2;replace k3:=k3.mono hx2
 rw [hv0,d1r] at k4 ⊢
 have hz:=a0j b1
 simp [h0,b1,k3.cells,k3.plain,k4.cells,k4.plain,hz]
 exact fun _=>⟨s1,s2,rfl,k3.setT b1 (by decide),k4.setT b1 (by decide)⟩
end
section
open Go
def szR (x:Rat):Nat:=max (lz x.num) (lz x.den)
theorem a0A (x:Rat):e0I (a0f x)=szR x:=rfl
theorem G0v (x:Rat):1≤szR x:=by
 unfold szR
 have:lz x.den ≠ 0:=by
  unfold lz
  intro h
  have:=b0Q.1 (c1r.1 h)
  have:=x.den_nz
  omega
 omega
theorem f0T:szR 0=1:=by show max (lz 0) (lz 1)=1;rw [c0x,f0X];rfl
theorem p0X:szR 1=1:=by show max (lz 1) (lz 1)=1;rw [f0X];rfl
theorem p0W (z:Int):szR (z:Rat)=max (lz z) 1:=by
 unfold szR;rw [e1q,e1o];show max (lz z) (lz 1)=_;rw [f0X]
theorem b0K (p q:Int):szR (Rat.divInt p q)≤max (max (lz p) (lz q)) 1:=by
 unfold szR
 rw [Rat.num_divInt,Rat.den_divInt]
 have h1:lz (q.sign * p / ↑(q.gcd p))≤lz p:=by
  refine s0A ?_
  rw [Int.natAbs_ediv_of_dvd]
  ·refine c1b (d1w _ _) ?_
   rw [d1D]
   have : q.sign.natAbs ≤ 1 := by rcases Int.lt_trichotomy q 0 with h | h | h
                                  ·rw [Int.sign_eq_neg_one_of_neg h];decide
                                  ·rw [h];decide
                                  ·rw [Int.sign_eq_one_of_pos h];decide
   calc _≤1 * p.natAbs:=b1Z _ this
    _=_:=c1H _
  ·exact Int.dvd_mul_of_dvd_right (e1L ..)
 have h2:lz ((if q=0 then 1 else q.natAbs / q.gcd p:Nat):Int)≤max (lz q) 1:=by
  split
  ·show lz 1≤_;rw [f0X];omega
  ·have:lz ((q.natAbs / q.gcd p:Nat):Int)≤lz q:=s0A (by rw [Int.natAbs_natCast];exact d1w _ _)
   omega
 omega
theorem j0K (n:Int) (d:Nat):mkRat n d=Rat.divInt n d:=rfl
theorem m0Y (x y:Rat):x + y=Rat.divInt (x.num * y.den + y.num * x.den) (x.den * y.den):=by rw [Rat.add_def',j0K,d1t]
theorem n0n (x y:Rat):x * y=Rat.divInt (x.num * y.num) (x.den * y.den):=by rw [Rat.mul_def',j0K,d1t]
theorem n0c (x y:Rat):x / y=Rat.divInt (x.num * y.den) (x.den * y.num):=by
 rw [e1M,Rat.inv_def]
 conv=>lhs;lhs;rw [← e1J x]
 rw [Rat.divInt_mul_divInt]
theorem p0V (x y:Rat):szR (x + y)≤szR x + szR y + 1:=by
 rw [m0Y]
 refine c1b (b0K _ _) ?_
 have h1:=q0X (x.num * y.den) (y.num * x.den)
 have h2:=d0b x.num y.den
 have h3:=d0b y.num x.den
 have h4:=d0b (x.den:Int) y.den
 unfold szR;omega
theorem f0S (x y:Rat):szR (x * y)≤szR x + szR y:=by
 rw [n0n]
 refine c1b (b0K _ _) ?_
 have h2:=d0b x.num y.num
 have h4:=d0b (x.den:Int) y.den
 have:=G0v x
 unfold szR at *;omega
theorem G0u (x:Rat):szR (-x)=szR x:=by unfold szR;rw [Rat.neg_num,Rat.neg_den,e0Q]
theorem R0A (x y:Rat):szR (x / y)≤szR x + szR y:=by
 rw [n0c]
 refine c1b (b0K _ _) ?_
 have h2:=d0b x.num y.den
 have h4:=d0b (x.den:Int) y.num
 have:=G0v x
 unfold szR at *;omega
theorem d0u {a:b0e} (h1:b0t a.1.2) (h2:b0t a.2.2):szR (b0A a)≤max (e0I a) 1:=by
 by_cases hz:f0y a=true
 ·have:b0A a=0:=by unfold b0A;rw [hz];rfl
  rw [this,f0T];omega
 ·by_cases hm:u0N a=true
  ·have h3:=o0j (by simpa using hz) hm
   have h4:=a0A (b0A a)
   rw [h3] at h4
   rw [← h4]
   have:=u0L h1
   have:=u0L h2
   unfold e0I;simp only [a0n];omega
  ·have:b0A a=0:=by unfold b0A;simp [hz,hm]
   rw [this,f0T];omega
theorem A0a {p q g:Int} (hq:q ≠ 0) (hg:g=if q < 0 then -(Int.gcd p q:Int) else (Int.gcd p q:Int)):a0f (Rat.divInt p q)=(a0m (p.tdiv g),a0m (q.tdiv g))∧g ≠ 0:=by
 have hgp:0 < Int.gcd p q:=Int.gcd_pos_of_ne_zero_right _ hq
 have hg0:g ≠ 0:=by rw [hg];split <;> omega
 refine ⟨?_,hg0⟩
 have hdp : g ∣ p := by rw [hg]; split
                        ·exact Int.neg_dvd.2 (Int.gcd_dvd_left ..)
                        ·exact Int.gcd_dvd_left ..
 have hdq : g ∣ q := by rw [hg]; split
                        ·exact Int.neg_dvd.2 (e1L ..)
                        ·exact e1L ..
 have hna:g.natAbs=Int.gcd p q:=by rw [hg];split <;> simp
 have e1:=Int.tdiv_mul_cancel hdp
 have e2:=Int.tdiv_mul_cancel hdq
 have hcop:Int.gcd (p.tdiv g) (q.tdiv g)=1:=by
  have h1:Int.gcd (p.tdiv g * g) (q.tdiv g * g)=Int.gcd (p.tdiv g) (q.tdiv g) * g.natAbs:=Int.gcd_mul_right ..
  rw [e1,e2,hna] at h1
  have h2:1 * Int.gcd p q=Int.gcd (p.tdiv g) (q.tdiv g) * Int.gcd p q:=by rw [c1H];exact h1
  exact (Nat.eq_of_mul_eq_mul_right hgp h2).symm
 have hpos:0 < q.tdiv g:=by
  by_cases hq0:q < 0
  ·have:g < 0:=by rw [hg,b1W hq0];omega
   by_cases h:0 < q.tdiv g
   ·exact h
   ·have:=Int.mul_nonneg_of_nonpos_of_nonpos (a:=q.tdiv g) (b:=g) (by omega) (by omega);omega
  ·have:0 < g:=by rw [hg,b1T hq0];omega
   by_cases h:0 < q.tdiv g
   ·exact h
   ·have:=d1b (a:=q.tdiv g) (b:=g) (by omega) (by omega);omega
 have h3:Rat.divInt p q=Rat.divInt (p.tdiv g) (q.tdiv g):=by
  have h:=Rat.divInt_mul_right (n:=p.tdiv g) (d:=q.tdiv g) hg0
  rw [e1,e2] at h;exact h
 generalize p.tdiv g=x at *
 generalize q.tdiv g=y at *
 have hd:((y.toNat:Nat):Int)=y:=d1Y (by omega)
 have h6:Rat.divInt x y = ⟨x,y.toNat,by omega,by rw [Nat.Coprime,← hcop,Int.gcd];congr 1;omega⟩:=by
  rw [Rat.mk_eq_divInt,hd]
 rw [h3,h6];unfold a0f;simp only [hd]
def Y0o (x y:Rat):Int:=if x < y then -1 else if y < x then 1 else 0
theorem y0s {x y:Rat}:0 < Y0o x y ↔ y < x:=by
 unfold Y0o;split
 ·rename_i h;simp;exact Rat.not_lt.2 (e1P h)
 ·split <;> simp_all
end
end Go.Proofs.YtilekhkgobmolaaGreat.AI
