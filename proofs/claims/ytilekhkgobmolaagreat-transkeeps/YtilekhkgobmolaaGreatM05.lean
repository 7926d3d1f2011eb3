/- Part 6 of the proof. -/
import Derived.Test.YtilekhkgobmolaaGreatM04
set_option linter.unusedVariables false
set_option linter.unusedSimpArgs false
set_option linter.unusedSectionVars false
set_option maxHeartbeats 4000000
namespace Go.Proofs.YtilekhkgobmolaaGreat.AI
open Go
section
variable {fl:Nat} {H:a0f} {R:a0D} {v w:Value} {a:List Nat}
theorem f0T {l:List Nat} {n:Nat} (h:n < l.length):a0y (l.drop n)=l.getD n 0 + 4294967296 * a0y (l.drop (n + 1)):=by
 rw [l1q h,a0y,k1v,k1A h];rfl
theorem o0v {d:Nat} (ha:Lim H v a) (hf:fl<=H.size) (b1:a.length<=1073741824) (hd:0 < d) (a9:d < 4294967296) :
  a0O env fl B0B [v,.int .u32 (d:Int)] H (fun r H'=>(∃ q o,r=.tuple #[q,.int .u32 ((a0y a % d:Nat):Int)]/\Lim H' q o/\a0y o=a0y a / d/\o.length=a.length)/\Ext H H') R:=by
 refine a0i g1Z hf (h:=?_)
 intro ρ L
 simp only [N0b]
 have hm:=g0o (bytes:=4) (k:=.i64) (k':=.i64) (l:=a.length) (c:=a.length) (k1x _) (by omega) (by omega)
 have w1:IntKind.i64.wrap ((a.length:Int) - 1)=(a.length:Int) - 1:=a0S (by omega) (by omega)
 simp [G0g,G0h,G0i,G0j,L,ha.slen,hm,w1]
 generalize a3:H.size=P
 have hP:H.size<=P:=by omega
 generalize O:Value.slice (some ⟨P,0,none⟩) a.length a.length=SL
 refine b0U (fun k t G'=>∃ r o,t.length=42/\get t 0=v/\get t 1=.int .u32 (d:Int)/\get t 6=SL/\get t 7=.int .u64 ((r:Nat):Int)/\get t 8=.int .i64 ((k:Int) - 1)/\k<=a.length /\
   Ext H G'/\a0f.bk G' P=.row false a0l (c0e o)/\o.length=a.length/\b0u o/\r < d/\a0y (o.drop k) * d + r=a0y (a.drop k))
  (fun t G'=>∃ r o,t.length=42/\get t 6=SL/\get t 7=.int .u64 ((r:Nat):Int) /\
   Ext H G'/\a0f.bk G' P=.row false a0l (c0e o)/\o.length=a.length/\b0u o/\r < d/\a0y o * d + r=a0y a) a.length ?_ ?_ ?_
 ·refine ⟨0,List.replicate a.length 0,by simp,by simp [L],by simp [L],by simp,by simp,by simp,by omega,Ext.push (Ext.refl _),?_,by simp,?_,hd,?_⟩
  ·rw [<- a3,a0G]
   congr 1
   generalize a.length=n
   induction n with
   | zero=>rfl
   | succ n ih=>rw [e0M,ih];rfl
  ·intro z hz;rw [m1W] at hz;omega
  ·simp [a0y]
 ·clear L ρ hm w1
  rintro k t G' ⟨r,o,ht,g0,g1,I,J,g8,hk,j,hb,e,y,hr,hs⟩
  obtain ⟨ρ,rfl⟩:=toT ht
  simp only [b0T,Nat.reduceLT] at g0 g1 I J g8
  by_cases a6:k=0
  ·subst a6
   simp [v0J,g0,g1,I,J,g8]
   exact ⟨r,rfl,j,o,hb,e,y,hr,by simpa using hs⟩
  ·have e0:(k:Int) - 1=((k - 1:Nat):Int):=by omega
   have u:k - 1 < a.length:=by omega
   rw [e0] at g8
   have a0:=ha.load u j
   have hia:=ha.ia (k:=.i64) u
   have M:=f0T u
   have N:a.getD (k - 1) 0 < 4294967296:=ha.2 _ (by rw [k1v,k1A u];exact k1D u)
   generalize a.getD (k - 1) 0=A at a0 M N
   have x:k - 1 < o.length:=by omega
   obtain ⟨U,b4⟩:=f0B (k:=.i64) (cap:=a.length) hb x e
   rw [O] at U
   have s2:r * 2 ^ 32 % 18446744073709551616=r * 4294967296:=by omega
   have s1:d0p 0 .shl (.int .u64 (r:Int)) (.int .u64 32)=some (.int .u64 ((r * 4294967296:Nat):Int)):=by
    have:=K0n (tag:=0) (n:=r) (s:=32) (k':=.u64) (by omega)
    rw [s2] at this;exact this
   have s3:=b1J (tag:=0) (a:=r * 4294967296) (b:=A) (by omega) (by omega)
   rw [x0t N] at s3
   have eA:IntKind.u64.wrap (A:Int)=(A:Int):=by rw [a0z];omega
   have eD:IntKind.u64.wrap (d:Int)=(d:Int):=by rw [a0z];omega
   have s4:=b1T (tag:=0) (a:=r * 4294967296 + A) (b:=d) (by omega) (by omega)
   have s5:=c1H (tag:=0) (a:=r * 4294967296 + A) (b:=d) (by omega)
   have w2:IntKind.i64.wrap (((k - 1:Nat):Int) - 1)=((k - 1:Nat):Int) - 1:=a0S (by omega) (by omega)
   simp [-Int.natCast_add,-Int.natCast_mul,-Int.natCast_ediv,-Int.natCast_emod,v0J,G0k,G0l,G0m,G0n,g0,g1,I,J,g8,a0,hia,s1,s3,eA,eD,s4,s5,U,w2]
   have G:(r * 4294967296 + A) / d < 4294967296:=by
    rw [m1p hd]
    have:(r + 1) * 4294967296<=d * 4294967296:=k1E _ hr
    rw [k1Z 4294967296 d];omega
   have a1:=m1K (r * 4294967296 + A) d
   have a2:=l1T (r * 4294967296 + A) hd
   clear s4 s5
   generalize (r * 4294967296 + A) / d=Q at G a1 ⊢
   generalize (r * 4294967296 + A) % d=r2 at a1 a2 ⊢
   refine (a0t (by have:=j.1;omega)).mo ?_
   rintro _ G3 ⟨rfl,F⟩
   replace hb:=F.bk hb
   have a8:=j.trans F
   have a4:=a0k hb
   have a7:k - 1 + 1<=o.length:=x
   rw [k1Y G]
   simp [-Int.natCast_emod,-Int.natCast_ediv,-Int.natCast_add,hb,a7]
   refine ⟨k - 1,by omega,r2,rfl,rfl,by omega,a8.set (by omega),o.set (k - 1) Q,by rw [a0A a4,d0M],by simp [e],c0c y G,a2,?_⟩
   have a5:a0y ((o.set (k - 1) Q).drop (k - 1))=Q + 4294967296 * a0y (o.drop k):=by
    rw [f0T (by simpa using x),k1v,l1W x,show k - 1 + 1=k by omega,List.drop_set_of_lt (by omega)];rfl
   rw [a5,M,show k - 1 + 1=k by omega,<- hs,k1R,k1O,k1Z Q d]
   generalize a0y (List.drop k o) * d=Z
   omega
 ·clear L ρ hm w1
  rintro t G' ⟨r,o,ht,I,J,j,hb,e,y,hr,hs⟩
  obtain ⟨ρ,rfl⟩:=toT ht
  simp only [b0T,Nat.reduceLT] at I J
  have hy:Lim G' SL o:=by
   rw [<- O,<- e]
   exact ⟨(Own.mk (fl:=0) hb (by simp) (l1D _)).sl,y⟩
  simp [G0o,I,J]
  refine (a0t (by have:=j.1;omega)).mo ?_
  rintro _ G3 ⟨rfl,F⟩
  have e1:a0y a % d=r:=by rw [<- hs,k1Z,Nat.mul_add_mod,k1Y hr]
  have e2:a0y a / d=a0y o:=by rw [<- hs,k1Z,Nat.mul_add_div hd,m1r hr];rfl
  have e3:((a0y a:Nat):Int) % (d:Int)=((r:Nat):Int):=by rw [<- e1];rfl
  rw [k1Y (by omega),e3,e2]
  simp
  exact fun _=>⟨o,hy.mo F,rfl,e⟩
end
section
variable {fl:Nat} {H:a0f} {R:a0D} {v w:Value} {a b:List Nat}
theorem u0R {x y s:Nat} (h:y < 2 ^ s):y ||| x * 2 ^ s=y + x * 2 ^ s:=by
 have:=m1x (i:=s) (b:=y) h x
 rw [Nat.or_comm,k1Z x,<- this,Nat.add_comm]
theorem g0P {n:Nat} (U:Lim H v a) (hf:fl<=H.size) (a4:a.length < 1073741824) (hn:n < 32) :
  a0O env fl z0u [v,.int .i64 (n:Int)] H (fun r H'=>(∃ o,Own H.size H' a0l 1 r (a.length + 1) (c0e o)/\b0u o/\a0y o=a0y a * 2 ^ n/\o.length=a.length + 1)/\Ext H H') R:=by
 refine a0i h1i hf (h:=?_)
 intro ρ J
 simp only [N0i]
 have hm:=Z0x (bytes:=4) (k:=.i64) (k':=.i64) (l:=0) (c:=(a.length:Int) + 1) (by omega) (by omega) (by omega) (by omega)
 have w1:IntKind.i64.wrap ((a.length:Int) + 1)=(a.length:Int) + 1:=a0S (by omega) (by omega)
 simp [G0R,G0S,G0T,G0U,J,U.slen,hm,w1]
 have hp:2 ^ n<=2147483648:=l1P (n:=2) (by omega) (show n<=31 by omega)
 have a1:0 < 2 ^ n:=n1f n
 refine b0U (fun k t G'=>∃ i c out s,i + k=a.length/\t.length=38/\get t 1=.int .i64 (n:Int)/\get t 5=s/\get t 6=.int .u64 ((c:Nat):Int)/\get t 13=v/\get t 14=.int .i64 a.length/\get t 15=.int .i64 ((i:Nat):Int) /\
   Ext H G'/\Own H.size G' a0l 1 s i (c0e out)/\b0u out/\out.length=i/\c < 2 ^ n/\a0y out + 4294967296 ^ i * c=a0y (a.take i) * 2 ^ n)
  (fun t G'=>∃ c out s,t.length=38/\get t 5=s/\get t 6=.int .u64 ((c:Nat):Int) /\
   Ext H G'/\Own H.size G' a0l 1 s a.length (c0e out)/\b0u out/\out.length=a.length/\c < 2 ^ n/\a0y out + 4294967296 ^ a.length * c=a0y a * 2 ^ n) a.length ?_ ?_ ?_
 ·exact ⟨0,0,[],.slice (some ⟨H.size,0,none⟩) 0 (a.length + 1),by omega,by simp,by simp [J],by simp,by simp,by simp [J],by simp,by simp,by simp,
   Own.mk (by simp [c0e]) rfl (k1x _),by intro x e;simp at e,rfl,a1,by simp [a0y]⟩
 ·clear hm w1 J ρ
  rintro k t G' ⟨i,c,out,s,a3,ht,O,G,I,u,y,z,e,ho,F,j,hc,hs⟩
  obtain ⟨ρ,rfl⟩:=toT ht
  simp only [b0T,Nat.reduceLT] at O G I u y z
  by_cases hi:i < a.length
  ·have N:=U.load hi e
   have hia:=U.ia (k:=.i64) hi
   have L:=a0R hi
   have M:a.getD i 0 < 4294967296:=U.2 _ (by rw [k1v,k1A hi];exact k1D hi)
   generalize a.getD i 0=A at N L M
   have eA:IntKind.u64.wrap (A:Int)=(A:Int):=by rw [a0z];omega
   have a2:A * 2 ^ n<=4294967295 * 2147483648:=l1u (by omega) hp
   have s1:=K0n (tag:=0) (n:=A) (s:=n) (k':=.i64) (by omega)
   rw [k1Y (by omega)] at s1
   have s2:=b1J (tag:=0) (a:=c) (b:=A * 2 ^ n) (by omega) (by omega)
   rw [u0R hc] at s2
   have e9:IntKind.i64.wrap ((i:Int) + 1)=((i + 1:Nat):Int):=by rw [a0S (by omega) (by omega)];omega
   simp [-Int.natCast_add,-Int.natCast_mul,-Int.natCast_pow,v0O,G0V,G0W,G0X,G0Y,G0Z,O,G,I,u,y,z,hi,hia,N,eA,s1,s2]
   generalize hD:c + A * 2 ^ n=D
   refine (a0t e.1).mo ?_
   rintro _ G2 ⟨rfl,q⟩
   obtain ⟨s',G3,Z,h2,h3,h4⟩:=e0m (e2:=a0l) (new:=[.int .u32 ((D % 4294967296:Nat):Int)]) (c:=1) (bytes:=4) (ho.mo q) rfl rfl (by omega) (by omega) (by omega) (by have:=e.1;have:=q.1;omega)
   simp [-Int.natCast_emod,-Int.natCast_add,Z,O,G,I,u,y,z,e9]
   have a0:D / 4294967296 < 2 ^ n:=by
    rw [m1p (by omega),<- hD]
    have:(A + 1) * 2 ^ n<=4294967296 * 2 ^ n:=k1E _ M
    rw [k1R] at this
    rw [k1Z (2 ^ n)];omega
   refine ⟨k - 1,by omega,i + 1,by omega,D / 4294967296,rfl,rfl,h4 _ (k1x _) (e.trans q),out ++ [D % 4294967296],by simpa [c0e] using h2,?_,by simp [j],a0,?_⟩
   ·intro x e
    rcases k1T.1 e with e | e
    ·exact F x e
    ·simp at e;omega
   ·rw [c0n,j,L,k1V,k1R,<- hs]
    have e3:4294967296 ^ i * 4294967296 * (D / 4294967296)=4294967296 ^ i * (4294967296 * (D / 4294967296)):=k1O ..
    have e4:4294967296 ^ i * (D % 4294967296) + 4294967296 ^ i * (4294967296 * (D / 4294967296))=4294967296 ^ i * D:=by rw [<- k1K,n1e]
    have e5:4294967296 ^ i * D=4294967296 ^ i * c + 4294967296 ^ i * A * 2 ^ n:=by rw [<- hD,k1K,k1O]
    omega
  ·simp [v0O,O,G,I,u,y,z,hi]
   have:i=a.length:=by omega
   subst this
   refine ⟨c,rfl,e,out,ho,F,j,hc,?_⟩
   rw [hs,k1J (k1x _)]
 ·clear hm w1 J ρ
  rintro t G' ⟨c,out,s,ht,G,I,e,ho,F,j,hc,hs⟩
  obtain ⟨ρ,rfl⟩:=toT ht
  simp only [b0T,Nat.reduceLT] at G I
  simp [y0m,G,I]
  refine (a0t e.1).mo ?_
  rintro _ G2 ⟨rfl,q⟩
  obtain ⟨s',G3,Z,h2,h3,h4⟩:=e0m (e2:=a0l) (new:=[.int .u32 ((c % 4294967296:Nat):Int)]) (c:=1) (bytes:=4) (ho.mo q) rfl rfl (by omega) (by omega) (by omega) (by have:=e.1;have:=q.1;omega)
  simp [-Int.natCast_emod,-Int.natCast_add,Z]
  refine fun _=>⟨out ++ [c % 4294967296],by simpa [j,c0e] using h2,?_,?_,by simp [j]⟩
  ·intro x e
   rcases k1T.1 e with e | e
   ·exact F x e
   ·simp at e;omega
  ·rw [c0n,j,k1Y (by omega)];exact hs
theorem s0m {n A N c M:Nat} (H:n < 32) (hA:A < 4294967296) (u:N=c + 4294967296 * M) :
  (A + 4294967296 * N) / 2 ^ n=(A + c * 4294967296) / 2 ^ n % 4294967296 + 4294967296 * (N / 2 ^ n):=by
 have hB:(4294967296:Nat)=2 ^ n * 2 ^ (32 - n):=by rw [<- m1w,show n + (32 - n)=32 by omega]
 have e:=n1f n
 have G:=n1f (32 - n)
 generalize 2 ^ n=P at *
 generalize 2 ^ (32 - n)=Q at *
 have h:(A + 4294967296 * N) / P=A / P + Q * N:=by rw [hB,k1O,Nat.add_mul_div_left _ _ e]
 have e2:(A + c * 4294967296) / P=A / P + Q * c:=by rw [k1Z c,hB,k1O,Nat.add_mul_div_left _ _ e]
 have j:N % P=c % P:=by rw [u,hB,k1O,Nat.add_mul_mod_self_left]
 have k:Q * N=4294967296 * (N / P) + Q * (c % P):=by
  have:=m1K N P
  rw [j] at this
  calc Q * N=Q * (P * (N / P) + c % P):=by rw [this]
   _=_:=by rw [k1K,<- k1O,k1Z Q P,<- hB]
 have s:Q * c=4294967296 * (c / P) + Q * (c % P):=by
  have:=m1K c P
  calc Q * c=Q * (P * (c / P) + c % P):=by rw [this]
   _=_:=by rw [k1K,<- k1O,k1Z Q P,<- hB]
 have v:A / P < Q:=by rw [m1p e,k1Z,<- hB];exact hA
 have F:Q * (c % P) + Q<=4294967296:=by
  have:=l1T c e
  have:Q * (c % P + 1)<=Q * P:=l1c Q this
  rw [k1K,k1Z Q P,<- hB] at this
  omega
 rw [h,e2,k,s]
 clear h e2 j k s u
 generalize A / P=x at *
 generalize N / P=y at *
 generalize c / P=z at *
 generalize Q * (c % P)=q at *
 omega
theorem d0r {o:List Nat} {i z:Nat} (c:i < o.length):a0y (List.take (i + 1) (o.set i z))=a0y (List.take i o) + 4294967296 ^ i * z:=by
 rw [e0B (by simpa using c),c0n,l1v,List.length_set,l1x (by omega),List.take_set_of_le (by omega),k1v,l1W c,l1d]
theorem w0S {x y z s i q:Nat} (h:x=y + 4294967296 ^ i * z) (hs:y + 4294967296 ^ i * (z + 4294967296 * q)=s):x + 4294967296 ^ (i + 1) * q=s:=by
 rw [h,<- hs,k1V,k1K,k1O,l1R]
theorem q0I {n:Nat} (N:Lim H v a) (hf:fl<=H.size) (b8:a.length < 1073741824) (hn:n < 32) :
  a0O env fl B0G [v,.int .i64 (n:Int)] H (fun r H'=>(∃ o,Lim H' r o/\a0y o=a0y a / 2 ^ n/\o.length=a.length)/\Ext H H') R:=by
 refine a0i h1l hf (h:=?_)
 intro ρ h0
 simp only [N0l]
 have hm:=g0o (bytes:=4) (k:=.i64) (k':=.i64) (l:=a.length) (c:=a.length) (k1x _) (by omega) (by omega)
 simp [H0f,H0g,H0h,h0,N.slen,hm]
 generalize b4:H.size=P
 generalize a8:Value.slice (some ⟨P,0,none⟩) a.length a.length=SL
 refine b0U (fun k t G'=>∃ i o,i + k=a.length/\t.length=44/\get t 0=v/\get t 1=.int .i64 (n:Int)/\get t 5=SL/\get t 12=.int .i64 a.length/\get t 13=.int .i64 ((i:Nat):Int) /\
   Ext H G'/\a0f.bk G' P=.row false a0l (c0e o)/\o.length=a.length/\b0u o/\a0y (o.take i) + 4294967296 ^ i * (a0y (a.drop i) / 2 ^ n)=a0y a / 2 ^ n)
  (fun t G'=>∃ o,t.length=44/\get t 5=SL /\
   Ext H G'/\a0f.bk G' P=.row false a0l (c0e o)/\o.length=a.length/\b0u o/\a0y o=a0y a / 2 ^ n) a.length ?_ ?_ ?_
 ·refine ⟨0,List.replicate a.length 0,by omega,by simp,by simp [h0],by simp [h0],by simp,by simp,by simp,Ext.push (Ext.refl _),?_,by simp,?_,by simp [a0y]⟩
  ·rw [<- b4,a0G]
   congr 1
   generalize a.length=n
   induction n with
   | zero=>rfl
   | succ n ih=>rw [e0M,ih];rfl
  ·intro z hz;rw [m1W] at hz;omega
 ·clear h0 ρ hm
  rintro k t G' ⟨i,o,b5,ht,g0,g1,U,J,L,j,hb,u,F,hs⟩
  obtain ⟨ρ,rfl⟩:=toT ht
  simp only [b0T,Nat.reduceLT] at g0 g1 U J L
  by_cases hi:i < a.length
  ·have a4:=N.load hi j
   have hia:=N.ia (k:=.i64) hi
   have a0:=f0T hi
   have M:a.getD i 0 < 4294967296:=N.2 _ (by rw [k1v,k1A hi];exact k1D hi)
   generalize a.getD i 0=A at a4 a0 M
   have y:i < o.length:=by omega
   obtain ⟨a3,b9⟩:=f0B (k:=.i64) (cap:=a.length) hb y u
   rw [a8] at a3
   have eA:IntKind.u64.wrap (A:Int)=(A:Int):=by rw [a0z];omega
   have e9:IntKind.i64.wrap ((i:Int) + 1)=((i + 1:Nat):Int):=by rw [a0S (by omega) (by omega)];omega
   by_cases q:i + 1 < a.length
   ·have O:=N.load q j
    have a9:=N.ia (k:=.i64) q
    have hN:=f0T q
    have a7:a.getD (i + 1) 0 < 4294967296:=N.2 _ (by rw [k1v,k1A q];exact k1D q)
    generalize a.getD (i + 1) 0=e at O hN a7
    have b1:IntKind.u64.wrap (e:Int)=(e:Int):=by rw [a0z];omega
    have s1:d0p 0 .shl (.int .u64 (e:Int)) (.int .u64 32)=some (.int .u64 ((e * 4294967296:Nat):Int)):=by
     have:=K0n (tag:=0) (n:=e) (s:=32) (k':=.u64) (by omega)
     rw [show e * 2 ^ 32 % 18446744073709551616=e * 4294967296 by omega] at this;exact this
    have s2:=b1J (tag:=0) (a:=A) (b:=e * 4294967296) (by omega) (by omega)
    rw [show A ||| e * 4294967296=A + e * 4294967296 from u0R (s:=32) M] at s2
    have s3:=Y0u (tag:=0) (n:=A + e * 4294967296) (s:=n) (k':=.i64) (by omega)
    simp [-Int.natCast_add,-Int.natCast_mul,-Int.natCast_pow,-Int.natCast_ediv,r0C,w0c,w0d,w0e,w0f,w0g,w0h,g0,g1,U,J,L,hi,q,hia,a4,a9,O,eA,b1,e9,s1,s2,s3,N.slen,a3]
    refine (a0t (by have:=j.1;omega)).mo ?_
    rintro _ G3 ⟨rfl,I⟩
    replace hb:=I.bk hb
    have a6:=j.trans I
    have a1:=a0k hb
    have a5:i + 1<=o.length:=y
    have a2:=s0m hn M hN
    simp [-Int.natCast_emod,-Int.natCast_ediv,-Int.natCast_add,hb,a5]
    have hz:(A + e * 4294967296) / 2 ^ n % 4294967296 < 4294967296:=l1T _ (by omega)
    rw [a0,a2] at hs
    generalize (A + e * 4294967296) / 2 ^ n % 4294967296=z at hs hz ⊢
    have G:a0y (List.take (i + 1) (o.set i z))=a0y (List.take i o) + 4294967296 ^ i * z:=d0r y
    refine ⟨k - 1,by omega,i + 1,by omega,rfl,a6.set (by omega),o.set i z,by rw [a0A a1,d0M],by simp [u],c0c F hz,?_⟩
    exact w0S G hs
   ·obtain ⟨e,Z⟩:∃ x:Nat,x=0:=⟨0,rfl⟩
    have hN:a0y (List.drop (i + 1) a)=e + 4294967296 * 0:=by rw [l1V (by omega),Z];simp [a0y]
    have s3:d0p 0 .shr (.int .u64 (A:Int)) (.int .i64 (n:Int))=some (.int .u64 (((A + e * 4294967296) / 2 ^ n:Nat):Int)):=by
     rw [Y0u (by omega),show A + e * 4294967296=A by rw [Z];omega]
    clear Z
    simp [-Int.natCast_add,-Int.natCast_mul,-Int.natCast_pow,-Int.natCast_ediv,r0C,w0c,w0d,w0e,w0f,w0g,w0h,g0,g1,U,J,L,hi,q,hia,a4,eA,e9,s3,N.slen,a3]
    refine (a0t (by have:=j.1;omega)).mo ?_
    rintro _ G3 ⟨rfl,I⟩
    replace hb:=I.bk hb
    have a6:=j.trans I
    have a1:=a0k hb
    have a5:i + 1<=o.length:=y
    have a2:=s0m hn M hN
    simp [-Int.natCast_emod,-Int.natCast_ediv,-Int.natCast_add,hb,a5]
    have hz:(A + e * 4294967296) / 2 ^ n % 4294967296 < 4294967296:=l1T _ (by omega)
    rw [a0,a2] at hs
    generalize (A + e * 4294967296) / 2 ^ n % 4294967296=z at hs hz ⊢
    have G:a0y (List.take (i + 1) (o.set i z))=a0y (List.take i o) + 4294967296 ^ i * z:=d0r y
    refine ⟨k - 1,by omega,i + 1,by omega,rfl,a6.set (by omega),o.set i z,by rw [a0A a1,d0M],by simp [u],c0c F hz,?_⟩
    exact w0S G hs
  ·simp [r0C,g0,g1,U,J,L,hi]
   have:i=a.length:=by omega
   subst this
   refine ⟨j,o,hb,u,F,?_⟩
   rw [k1J (by omega),l1V (k1x _)] at hs
   simpa [a0y] using hs
 ·clear h0 ρ hm
  rintro t G' ⟨o,ht,U,j,hb,u,F,hs⟩
  obtain ⟨ρ,rfl⟩:=toT ht
  simp only [b0T,Nat.reduceLT] at U
  have hy:Lim G' SL o:=by
   rw [<- a8,<- u]
   exact ⟨(Own.mk (fl:=0) hb (by simp) (l1D _)).sl,F⟩
  simp [y0o,U]
  exact fun _=>⟨o,hy,hs,u⟩
end
section
variable {fl:Nat} {H G:a0f} {R:a0D} {v w:Value} {a b:List Nat} {K:o0d}
theorem B0h {E:Env} {f:FuncId} {args:List Value} {c:w0J} (hc:E.code f=some c) (x:args.length=c.np:=by rfl) (j:args.length<=c.nt:=by exact of_decide_eq_true rfl)
  (h:∀ ρ:Nat->Value,(∀ i,ρ i=args.getD i undef)->W E fl c.body (T c.nt ρ) H (a1F (fun t' H'=>A0l H' t' c.res fun v=>K v H')) R) :
  a0O E fl f args H K R :=
 q0o (K:=K) hc x j (fun t s u=>by
  have q:=h (get t) u
  rw [<- K0M s] at q
  refine q.mo fun e t' H' k=>?_
  cases e with
  | exit i=>exact k1Q k id
  | normal=>exact ⟨trivial,k⟩
  | ret=>exact ⟨trivial,k⟩)
@[simp] theorem c1I {t:b0c} {P:Value->Prop}:A0l H t [] P=P (.tuple #[]):=by simp [A0l,e0S,d0y]
theorem d0o.refl {o:Option Nat}:d0o o H H:=(Ext.refl H).extB
theorem d0o.trans {o:Option Nat} {H1 e j:a0f} (h:d0o o H1 e) (k:d0o o e j):d0o o H1 j :=
 ⟨k1H h.1 k.1,fun b hb c=>(k.2 b (k1P hb h.1) c).trans (h.2 b hb c)⟩
theorem d0o.set {p:Nat} {r:Blk} (h:d0o (some p) H G):d0o (some p) H (G.setIfInBounds p r) :=
 ⟨by have:=h.1;simpa using this,fun b hb c=>by rw [a0T (by simpa using c)];exact h.2 b hb c⟩
theorem d0o.ext {p:Nat} {H0:a0f} (h:d0o (some p) H G) (hp:H0.size<=p) (c:Ext H0 H):Ext H0 G :=
 ⟨k1H c.1 h.1,fun b hb=>(h.2 b (k1P hb c.1) (by simp;omega)).trans (c.2 b hb)⟩
theorem Sl.off {e sz n p:Nat} {cs:List Value} (h:Sl H e sz v n cs) (q:d0o (some p) H G) (j:slB v ≠ some p):Sl G e sz v n cs:=by
 obtain ⟨k,h | ⟨b,off,cap,ro,cells,rfl,hb,ho,c⟩⟩:=h
 ·exact ⟨k,.inl h⟩
 ·exact ⟨k,.inr ⟨b,off,cap,ro,cells,rfl,by rw [q.2 b (a0k hb) (fun h=>j (by simp only [slB];exact h.symm))];exact hb,ho,c⟩⟩
theorem Lim.off {p:Nat} (h:Lim H v a) (e:d0o (some p) H G) (c:slB v ≠ some p):Lim G v a:=⟨h.1.off e c,h.2⟩
def win (L:List Nat) (o:Nat):Nat->Nat
 | 0=>0
 | i + 1=>win L o i + 4294967296 ^ i * L.getD (o + i) 0
theorem k0n {L c:List Nat} {o:Nat}:∀ {i:Nat},(∀ j,j < i->L.getD (o + j) 0=c.getD (o + j) 0)->win L o i=win c o i
 | 0,_=>rfl
 | i + 1,h=>by rw [win,win,k0n (fun j e=>h j (by omega)),h i (by omega)]
theorem Y0M {L:List Nat} {o i j z:Nat} (h:o + i<=j):win (L.set j z) o i=win L o i :=
 k0n fun k c=>b0P (by omega)
theorem c0i {L:List Nat} (h:b0u L) (i:Nat):L.getD i 0 < 4294967296:=by
 rw [k1v]
 by_cases hi:i < L.length
 ·rw [k1A hi];exact h _ (k1D hi)
 ·rw [k1G (by omega)];simp
theorem l0x {L:List Nat} (h:b0u L) (o:Nat):∀ i,win L o i < 4294967296 ^ i
 | 0=>by simp [win]
 | i + 1=>by
  rw [win,k1V]
  have e:=l0x h o i
  have c:=c0i h (o + i)
  have:4294967296 ^ i * (L.getD (o + i) 0 + 1)<=4294967296 ^ i * 4294967296:=l1c _ c
  rw [k1K,l1H] at this
  omega
theorem i0d {L:List Nat}:∀ {i:Nat},i<=L.length->a0y (L.take i)=win L 0 i
 | 0,_=>by simp [a0y,win]
 | i + 1,h=>by rw [a0R (by omega),i0d (by omega),win,l1e]
theorem l0b {L:List Nat} {n:Nat} (h:L.length<=n):win L 0 n=a0y L:=by
 obtain ⟨k,rfl⟩:∃ k,n=L.length + k:=⟨n - L.length,by omega⟩
 clear h
 induction k with
 | zero=>rw [l1A,<- i0d (k1x _),k1M]
 | succ k ih=>rw [<- l1R,win,ih,k1v,k1G (by omega)];simp
theorem m0N {e p o n cap:Nat} {L:List Nat} (hb:G.bk p=.row false e (c0e L)) (c:o + n<=L.length) {k:IntKind} {z:Nat} (h:z < n) :
  iaV 1 (.slice (some ⟨p,o,none⟩) n cap) (.int k (z:Int))=some (.pointer (some ⟨p,o + z,none⟩))/\rd (G.bk p) (o + z)=some (.int .u32 ((L.getD (o + z) 0:Nat):Int)):=by
 refine ⟨?_,?_⟩
 ·simp only [iaV];rw [k1B (by omega)];simp
 ·rw [hb];simp [c0e,k1v,show o + z < L.length by omega]
theorem t0X {x y u v g c t j k e B P:Nat} (h:x + g * y=u + c * P) (s:t=c + v * g) (hc:t=j * B + k) {z w:Nat} (F:z + k=w + e * B) :
  (x + P * z) + g * (y + P * v)=(u + P * w) + (j + e) * (P * B):=by
 have J:P * z + P * k=P * w + P * (e * B):=by rw [<- k1K,F,k1K]
 have q:P * (c + v * g)=P * (j * B) + P * k:=by rw [<- s,hc,k1K]
 rw [k1K] at q ⊢
 rw [k1R]
 have G:g * (P * v)=P * (v * g):=by grind
 have e2:j * (P * B)=P * (j * B):=by grind
 have H:e * (P * B)=P * (e * B):=by grind
 have I:c * P=P * c:=by grind
 omega
theorem s0L {x y u v c t e j B P w:Nat} (h:x + c * P=u + y) (q:t=c + w + v) (hc:t=e * B + j) :
  (x + P * j) + e * (P * B)=(u + P * w) + (y + P * v):=by
 have k:P * (c + w + v)=P * (e * B) + P * j:=by rw [<- q,hc,k1K]
 rw [k1K,k1K] at k
 have e2:e * (P * B)=P * (e * B):=by grind
 have s:c * P=P * c:=by grind
 omega
def Won (L X:List Nat) (o i:Nat):Prop:=X.length=L.length/\b0u X/\∀ j,j < o ∨ o + i<=j->X.getD j 0=L.getD j 0
theorem Won.zero {L:List Nat} {o:Nat} (h:b0u L):Won L L o 0:=⟨rfl,h,fun _ _=>rfl⟩
theorem Won.step {L X:List Nat} {o i z:Nat} (h:Won L X o i) (c:z < 4294967296):Won L (X.set (o + i) z) o (i + 1) :=
 ⟨by simp [h.1],c0c h.2.1 c,fun j e=>by rw [b0P (by omega)];exact h.2.2 j (by omega)⟩
theorem Won.win {L X:List Nat} {o i z:Nat} (h:Won L X o i) (hi:o + i < L.length):AI.win (X.set (o + i) z) o (i + 1)=AI.win X o i + 4294967296 ^ i * z:=by
 rw [AI.win,Y0M (by omega),k1v,l1W (by rw [h.1];exact hi)];rfl
theorem q0M {L:List Nat} {p o n cap g:Nat} (hb:H.bk p=.row false a0l (c0e L)) (b5:b0u L) (hL:o + n<=L.length) (hv:Lim H v a) (c2:slB v ≠ some p) (hf:fl<=p) (hg:g < 4294967296) (hn:n < 1073741824) (ha:a.length<=n) :
  a0O env fl B0E [.slice (some ⟨p,o,none⟩) n cap,v,.int .u64 (g:Int)] H (fun r G=>∃ X c,r=.bool (c != 0)/\G.bk p=.row false a0l (c0e X)/\d0o (some p) H G/\Won L X o n/\win X o n + g * a0y a=win L o n + c * 4294967296 ^ n) R:=by
 refine B0h h1j (h:=?_)
 intro ρ h0
 simp only [N0j]
 simp [H0a,H0b,H0c,h0,g0b]
 generalize a8:Value.slice (some ⟨p,o,none⟩) n cap=SL
 refine b0U (fun k t G=>∃ i c X,i + k=n/\t.length=49/\get t 0=SL/\get t 1=v/\get t 2=.int .u64 ((g:Nat):Int)/\get t 7=.int .u64 ((c:Nat):Int)/\get t 11=.int .i64 n/\get t 12=.int .i64 ((i:Nat):Int) /\
   G.bk p=.row false a0l (c0e X)/\d0o (some p) H G/\Won L X o i/\c<=4294967296/\win X o i + g * win a 0 i=win L o i + c * 4294967296 ^ i)
  (fun t G=>∃ c X,t.length=49/\get t 7=.int .u64 ((c:Nat):Int)/\G.bk p=.row false a0l (c0e X)/\d0o (some p) H G/\Won L X o n/\win X o n + g * win a 0 n=win L o n + c * 4294967296 ^ n) n ?_ ?_ ?_
 ·exact ⟨0,0,L,by omega,by simp,by simp [h0,a8],by simp [h0],by simp [h0],by simp,by simp,by simp,hb,d0o.refl,Won.zero b5,by omega,by simp [win]⟩
 ·clear h0 ρ
  rintro k t G ⟨i,c,X,c5,ht,g0,g1,g2,M,j,s,U,hx,I,hc,hs⟩
  obtain ⟨ρ,rfl⟩:=toT ht
  simp only [b0T,Nat.reduceLT] at g0 g1 g2 M j s
  by_cases hi:i < n
  ·have e9:IntKind.i64.wrap ((i:Int) + 1)=((i + 1:Nat):Int):=by rw [a0S (by omega) (by omega)];omega
   obtain ⟨F,N⟩:=m0N (k:=.i64) (cap:=cap) U (by rw [I.1];exact hL) hi
   rw [a8] at F
   have c0:X.getD (o + i) 0=L.getD (o + i) 0:=I.2.2 _ (by omega)
   have hA:=c0i b5 (o + i)
   rw [c0] at N
   have a0:win L o (i + 1)=win L o i + 4294967296 ^ i * L.getD (o + i) 0:=rfl
   have u:win a 0 (i + 1)=win a 0 i + 4294967296 ^ i * a.getD i 0:=by rw [win,l1e]
   generalize L.getD (o + i) 0=A at N hA a0
   have eA:IntKind.u64.wrap (A:Int)=(A:Int):=by rw [a0z];omega
   have O:=hv.off hx c2
   have hV:=c0i hv.ok i
   by_cases hia:i < a.length
   ·have b4:=O.load hia (Ext.refl _)
    have b1:=O.ia (k:=.i64) hia
    generalize a.getD i 0=V at b4 u hV
    have eV:IntKind.u64.wrap (V:Int)=(V:Int):=by rw [a0z];omega
    have b9:V * g<=4294967295 * 4294967295:=l1u (by omega) (by omega)
    have e1:IntKind.u64.wrap ((V:Int) * (g:Int))=((V * g:Nat):Int):=by rw [a0z,<- l1Y];omega
    have e2:IntKind.u64.wrap ((c:Int) + ((V * g:Nat):Int))=((c + V * g:Nat):Int):=by rw [a0z,<- Int.natCast_add];omega
    have e3:=a1j (tag:=0) (a:=c + V * g)
    simp [-Int.natCast_add,-Int.natCast_mul,-Int.natCast_ediv,-Int.natCast_emod,r0A,v0P,v0Q,v0R,v0S,v0T,v0U,r0z,g0,g1,g2,M,j,s,hi,O.slen,hia,b1,b4,eV,e1,e2,F,N,e3,eA]
    generalize hD:c + V * g=D at *
    have Z:D=(D / 4294967296) * 4294967296 + D % 4294967296:=(n1s D 4294967296).symm
    have c1:=l1T D (show 0 < 4294967296 by omega)
    generalize D / 4294967296=ch at *
    generalize D % 4294967296=cm at *
    have y:IntKind.u64.wrap ((A:Int) - (cm:Int))=((if cm<=A then A - cm else A + 18446744073709551616 - cm:Nat):Int):=by rw [a0z];split <;> omega
    have a9:ch<=4294967295:=by omega
    obtain ⟨e,z,q,a1,a6,a7,a4,a5,c3⟩:∃ e z q:Nat,(if cm<=A then A - cm else A + 18446744073709551616 - cm:Nat)=q/\z + cm=A + e * 4294967296/\z < 4294967296/\q % 4294967296=z/\q / 9223372036854775808=e/\e<=1:=by
     by_cases h:cm<=A
     ·exact ⟨0,A - cm,A - cm,by rw [k1B h],by omega,by omega,by omega,by omega,by omega⟩
     ·exact ⟨1,A + 4294967296 - cm,A + 18446744073709551616 - cm,by rw [k1y h],by omega,by omega,by omega,by omega,by omega⟩
    have e8:IntKind.u64.wrap ((ch:Int) + (e:Int))=((ch + e:Nat):Int):=by rw [a0z];omega
    rw [a1] at y
    simp [-Int.natCast_add,-Int.natCast_mul,-Int.natCast_ediv,-Int.natCast_emod,y,g0,M,j,s]
    refine (a0t (by have:=a0k U;omega)).mo ?_
    rintro _ G3 ⟨rfl,J⟩
    rw [a4,a5]
    have x:=J.bk U
    have a3:=a0k x
    have a2:o + i + 1<=X.length:=by rw [I.1];omega
    simp [-Int.natCast_add,-Int.natCast_mul,-Int.natCast_ediv,-Int.natCast_emod,F,x,a2,hf,e8,e9]
    refine ⟨k - 1,by omega,i + 1,by omega,ch + e,rfl,rfl,X.set (o + i) z,by rw [a0A a3,d0M],(hx.trans J.extB).set,I.step a7,by omega,?_⟩
    rw [I.win (by omega),u,a0,k1V]
    exact t0X hs hD.symm Z a6
   ·have b8:a.getD i 0=0:=by rw [k1v,k1G (by omega)];rfl
    rw [b8] at u
    obtain ⟨V,hV⟩:∃ V,V=0:=⟨0,rfl⟩
    replace u:win a 0 (i + 1)=win a 0 i + 4294967296 ^ i * V:=by rw [u,hV]
    have b9:V * g=0:=by rw [hV,n1H]
    have e3:=a1j (tag:=0) (a:=c)
    have ec:c=c + V * g:=by omega
    rw [ec] at e3 M
    have c4:c + V * g<=4294967296:=by omega
    simp [-Int.natCast_add,-Int.natCast_mul,-Int.natCast_ediv,-Int.natCast_emod,r0A,v0P,v0Q,v0R,v0S,v0T,v0U,r0z,g0,g1,g2,M,j,s,hi,O.slen,hia,F,N,e3,eA]
    generalize hD:c + V * g=D at *
    have Z:D=(D / 4294967296) * 4294967296 + D % 4294967296:=(n1s D 4294967296).symm
    have c1:=l1T D (show 0 < 4294967296 by omega)
    generalize D / 4294967296=ch at *
    generalize D % 4294967296=cm at *
    have y:IntKind.u64.wrap ((A:Int) - (cm:Int))=((if cm<=A then A - cm else A + 18446744073709551616 - cm:Nat):Int):=by rw [a0z];split <;> omega
    have a9:ch<=4294967295:=by omega
    obtain ⟨e,z,q,a1,a6,a7,a4,a5,c3⟩:∃ e z q:Nat,(if cm<=A then A - cm else A + 18446744073709551616 - cm:Nat)=q/\z + cm=A + e * 4294967296/\z < 4294967296/\q % 4294967296=z/\q / 9223372036854775808=e/\e<=1:=by
     by_cases h:cm<=A
     ·exact ⟨0,A - cm,A - cm,by rw [k1B h],by omega,by omega,by omega,by omega,by omega⟩
     ·exact ⟨1,A + 4294967296 - cm,A + 18446744073709551616 - cm,by rw [k1y h],by omega,by omega,by omega,by omega,by omega⟩
    have e8:IntKind.u64.wrap ((ch:Int) + (e:Int))=((ch + e:Nat):Int):=by rw [a0z];omega
    rw [a1] at y
    simp [-Int.natCast_add,-Int.natCast_mul,-Int.natCast_ediv,-Int.natCast_emod,y,g0,M,j,s]
    refine (a0t (by have:=a0k U;omega)).mo ?_
    rintro _ G3 ⟨rfl,J⟩
    rw [a4,a5]
    have x:=J.bk U
    have a3:=a0k x
    have a2:o + i + 1<=X.length:=by rw [I.1];omega
    simp [-Int.natCast_add,-Int.natCast_mul,-Int.natCast_ediv,-Int.natCast_emod,F,x,a2,hf,e8,e9]
    refine ⟨k - 1,by omega,i + 1,by omega,ch + e,rfl,rfl,X.set (o + i) z,by rw [a0A a3,d0M],(hx.trans J.extB).set,I.step a7,by omega,?_⟩
    rw [I.win (by omega),u,a0,k1V]
    exact t0X hs hD.symm Z a6
  ·simp [r0A,g0,g1,g2,M,j,s,hi]
   have:i=n:=by omega
   subst this
   exact ⟨c,rfl,X,U,hx,I,hs⟩
 ·clear h0 ρ
  rintro t G ⟨c,X,ht,M,U,hx,I,hs⟩
  obtain ⟨ρ,rfl⟩:=toT ht
  simp only [b0T,Nat.reduceLT] at M
  simp [y0n,M]
  refine ⟨X,c,rfl,U,hx,I,?_⟩
  rw [<- hs]
  congr 2
  rw [l0b ha]
theorem q0J {L:List Nat} {p o n cap:Nat} (hb:H.bk p=.row false a0l (c0e L)) (a0:b0u L) (hL:o + n<=L.length) (hv:Lim H v a) (a4:slB v ≠ some p) (hf:fl<=p) (hn:n < 1073741824) (ha:a.length<=n) :
  a0O env fl B0F [.slice (some ⟨p,o,none⟩) n cap,v] H (fun _ G=>∃ X c,G.bk p=.row false a0l (c0e X)/\d0o (some p) H G/\Won L X o n/\win X o n + c * 4294967296 ^ n=win L o n + a0y a) R:=by
 refine B0h h1k (h:=?_)
 intro ρ h0
 simp only [N0k]
 simp [H0d,H0e,h0,g0b]
 generalize O:Value.slice (some ⟨p,o,none⟩) n cap=SL
 refine N0U (fun k t G=>∃ i c X,i + k=n/\t.length=37/\get t 0=SL/\get t 1=v/\get t 4=.int .u64 ((c:Nat):Int)/\get t 7=.int .i64 n/\get t 8=.int .i64 ((i:Nat):Int) /\
   G.bk p=.row false a0l (c0e X)/\d0o (some p) H G/\Won L X o i/\c<=1/\win X o i + c * 4294967296 ^ i=win L o i + win a 0 i) ?_ n ?_
 ·clear h0 ρ
  rintro k t G ⟨i,c,X,a5,ht,g0,g1,g4,g7,g8,N,hx,y,hc,hs⟩
  obtain ⟨ρ,rfl⟩:=toT ht
  simp only [b0T,Nat.reduceLT] at g0 g1 g4 g7 g8
  by_cases hi:i < n
  ·have e9:IntKind.i64.wrap ((i:Int) + 1)=((i + 1:Nat):Int):=by rw [a0S (by omega) (by omega)];omega
   obtain ⟨q,u⟩:=m0N (k:=.i64) (cap:=cap) N (by rw [y.1];exact hL) hi
   rw [O] at q
   have a3:X.getD (o + i) 0=L.getD (o + i) 0:=y.2.2 _ (by omega)
   have hA:=c0i a0 (o + i)
   rw [a3] at u
   have F:win L o (i + 1)=win L o i + 4294967296 ^ i * L.getD (o + i) 0:=rfl
   have e:win a 0 (i + 1)=win a 0 i + 4294967296 ^ i * a.getD i 0:=by rw [win,l1e]
   generalize L.getD (o + i) 0=A at u hA F
   have eA:IntKind.u64.wrap (A:Int)=(A:Int):=by rw [a0z];omega
   have e1:IntKind.u64.wrap ((c:Int) + (A:Int))=((c + A:Nat):Int):=by rw [a0z];omega
   have x:=hv.off hx a4
   have hV:=c0i hv.ok i
   by_cases hia:i < a.length
   ·have Z:=x.load hia (Ext.refl _)
    have U:=x.ia (k:=.i64) hia
    generalize a.getD i 0=V at Z e hV
    have eV:IntKind.u64.wrap (V:Int)=(V:Int):=by rw [a0z];omega
    have e2:IntKind.u64.wrap (((c + A:Nat):Int) + (V:Int))=((c + A + V:Nat):Int):=by rw [a0z];omega
    simp [-Int.natCast_add,-Int.natCast_mul,-Int.natCast_ediv,-Int.natCast_emod,r0B,v0V,v0W,v0X,v0Y,v0Z,w0a,w0b,g0,g1,g4,g7,g8,hi,x.slen,hia,U,Z,eV,e1,e2,q,u,eA]
    generalize hD:c + A + V=D at *
    have z:D=(D / 4294967296) * 4294967296 + D % 4294967296:=(n1s D 4294967296).symm
    have I:=l1T D (show 0 < 4294967296 by omega)
    refine (a0t (by have:=a0k N;omega)).mo ?_
    rintro _ G3 ⟨rfl,s⟩
    generalize D / 4294967296=ch at *
    generalize D % 4294967296=cm at *
    have j:=s.bk N
    have M:=a0k j
    have J:o + i + 1<=X.length:=by rw [y.1];omega
    simp [-Int.natCast_add,-Int.natCast_mul,-Int.natCast_ediv,-Int.natCast_emod,q,j,J,hf,e9]
    refine ⟨k - 1,by omega,i + 1,by omega,ch,rfl,rfl,X.set (o + i) cm,by rw [a0A M,d0M],(hx.trans s.extB).set,y.step I,by omega,?_⟩
    rw [y.win (by omega),e,F,k1V]
    exact s0L hs hD.symm z
   ·have a2:a.getD i 0=0:=by rw [k1v,k1G (by omega)];rfl
    rw [a2] at e
    obtain ⟨V,hV⟩:∃ V,V=0:=⟨0,rfl⟩
    replace e:win a 0 (i + 1)=win a 0 i + 4294967296 ^ i * V:=by rw [e,hV]
    have a1:IntKind.u64.wrap ((c:Int) + (A:Int))=((c + A + V:Nat):Int):=by rw [e1,hV];rfl
    simp [-Int.natCast_add,-Int.natCast_mul,-Int.natCast_ediv,-Int.natCast_emod,r0B,v0V,v0W,v0X,v0Y,v0Z,w0a,w0b,g0,g1,g4,g7,g8,hi,x.slen,hia,q,u,a1,eA]
    generalize hD:c + A + V=D at *
    have z:D=(D / 4294967296) * 4294967296 + D % 4294967296:=(n1s D 4294967296).symm
    have I:=l1T D (show 0 < 4294967296 by omega)
    refine (a0t (by have:=a0k N;omega)).mo ?_
    rintro _ G3 ⟨rfl,s⟩
    generalize D / 4294967296=ch at *
    generalize D % 4294967296=cm at *
    have j:=s.bk N
    have M:=a0k j
    have J:o + i + 1<=X.length:=by rw [y.1];omega
    simp [-Int.natCast_add,-Int.natCast_mul,-Int.natCast_ediv,-Int.natCast_emod,q,j,J,hf,e9]
    refine ⟨k - 1,by omega,i + 1,by omega,ch,rfl,rfl,X.set (o + i) cm,by rw [a0A M,d0M],(hx.trans s.extB).set,y.step I,by omega,?_⟩
    rw [y.win (by omega),e,F,k1V]
    exact s0L hs hD.symm z
  ·simp [r0B,g0,g1,g4,g7,g8,hi]
   have:i=n:=by omega
   subst this
   exact ⟨X,N,hx,y,c,by rw [hs,l0b ha]⟩
 ·exact ⟨0,0,L,by omega,by simp,by simp [h0,O],by simp [h0],by simp,by simp,by simp,hb,d0o.refl,Won.zero a0,by omega,by simp [win]⟩
end
section
theorem d0H {L:List Nat} {o i:Nat}:∀ {j:Nat},win L o (i + j)=win L o i + 4294967296 ^ i * win L (o + i) j
 | 0=>by simp [win]
 | j + 1=>by
  rw [<- l1R,win,d0H,win,k1K,<- k1O,<- m1w,l1R o i j,l1R]
theorem Y0N {L:List Nat} {o k:Nat} (c:2<=k):win L o (k + 1)=win L o (k - 2) + 4294967296 ^ (k - 2) * ((L.getD (o + k) 0 * 4294967296 + L.getD (o + (k - 1)) 0) * 4294967296 + L.getD (o + (k - 2)) 0):=by
 obtain ⟨j,rfl⟩:∃ j,k=j + 2:=⟨k - 2,by omega⟩
 rw [show j + 2 - 2=j by omega,show j + 2 + 1=j + 3 by omega,d0H,show j + 2 - 1=j + 1 by omega]
 congr 2
 simp only [win]
 rw [show o + j + 0=o + j by omega,show o + j + 1=o + (j + 1) by omega,show o + j + 2=o + (j + 2) by omega]
 omega
theorem N0N {L:List Nat} {o k:Nat} (c:2<=k):win L o k=win L o (k - 2) + 4294967296 ^ (k - 2) * (L.getD (o + (k - 1)) 0 * 4294967296 + L.getD (o + (k - 2)) 0):=by
 obtain ⟨j,rfl⟩:∃ j,k=j + 2:=⟨k - 2,by omega⟩
 rw [show j + 2 - 2=j by omega,d0H,show j + 2 - 1=j + 1 by omega]
 congr 2
 simp only [win]
 rw [show o + j + 0=o + j by omega,show o + j + 1=o + (j + 1) by omega]
 omega
structure Gs (W low lowV Uw V x u3 top next B:Nat):Prop where
 W0:0 < W
 hlow:low < W
 hlowV:lowV < W
 hU:Uw=low + W * (x * B + u3)
 hV:V=lowV + W * (top * B + next)
 hB:B<=2 * top
 htop:top < B
 hnext:next < B
 hu3:u3 < B
 lt:Uw < V * B
variable {W low lowV Uw V x u3 top next B g rest q:Nat}
theorem Gs.V0 (h:Gs W low lowV Uw V x u3 top next B):0 < V:=by
 rw [h.hV]
 have c:0 < top:=by have:=h.hB;have:=h.htop;omega
 have e:0 < B:=by have:=h.htop;omega
 have:=Nat.mul_pos h.W0 (show 0 < top * B + next by have:=Nat.mul_pos c e;omega)
 omega
theorem Gs.V_lt (h:Gs W low lowV Uw V x u3 top next B):V < W * (top * B + next + 1):=by
 rw [h.hV,k1K W (top * B + next) 1,l1H];have:=h.hlowV;omega
theorem Gs.U_lt (h:Gs W low lowV Uw V x u3 top next B):Uw < W * (x * B + u3 + 1):=by
 rw [h.hU,k1K W (x * B + u3) 1,l1H];have:=h.hlow;omega
theorem Gs.V_ge (h:Gs W low lowV Uw V x u3 top next B):W * (top * B + next)<=V:=by rw [h.hV];omega
theorem Gs.U_ge (h:Gs W low lowV Uw V x u3 top next B):W * (x * B + u3)<=Uw:=by rw [h.hU];omega
theorem Gs.q_lt (h:Gs W low lowV Uw V x u3 top next B):Uw / V < B:=by
 rw [m1p h.V0,k1Z];exact h.lt
theorem Gs.q_le (h:Gs W low lowV Uw V x u3 top next B):Uw / V<=x / top:=by
 have c:0 < top:=by have:=h.hB;have:=h.htop;omega
 rw [Nat.le_div_iff_mul_le c]
 have j:=Nat.div_mul_le_self Uw V
 generalize Uw / V=q at *
 have k:W * (q * (top * B))<=q * V:=by
  calc W * (q * (top * B))<=W * (q * (top * B + next)):=l1c _ (l1c _ (by omega))
   _=q * (W * (top * B + next)):=by grind
   _<=q * V:=l1c _ h.V_ge
 have s:=h.U_lt
 have u:q * (top * B) < x * B + u3 + 1:=m1a (a:=W) (by omega)
 have v:=h.hu3
 have e:q * top * B < (x + 1) * B:=by rw [k1O,k1R];omega
 have:=n1l e
 omega
theorem Gs.x_lt (h:Gs W low lowV Uw V x u3 top next B):x < top * B + B:=by
 have j:=h.U_ge
 have k:=h.lt
 have q:=h.V_lt
 have hB:0 < B:=by have:=h.htop;omega
 have c:W * (x * B + u3) < W * ((top * B + next + 1) * B):=by
  have:V * B<=W * (top * B + next + 1) * B:=k1E _ (by omega)
  rw [k1O] at this;omega
 have s:=m1a c
 have e:x * B < (top * B + next + 1) * B:=by omega
 have:=n1l e
 have:=h.hnext
 omega
theorem Gs.down (h:Gs W low lowV Uw V x u3 top next B) (s:g * top + rest=x) (z:Uw / V<=g) (hc:B<=g ∨ rest * B + u3 < g * next):Uw / V<=g - 1/\0 < g:=by
 have u:=h.q_lt
 have hB:0 < B:=by have:=h.htop;omega
 rcases hc with hc | hc
 ·omega
 ·have k:Uw / V ≠ g:=by
   intro j
   have c:=Nat.div_mul_le_self Uw V
   rw [j] at c
   have v:W * (g * (top * B + next))<=g * V:=by
    calc W * (g * (top * B + next))=g * (W * (top * B + next)):=by grind
     _<=g * V:=l1c _ h.V_ge
   have y:=h.U_lt
   have e:g * (top * B + next) < x * B + u3 + 1:=m1a (a:=W) (by omega)
   rw [<- s,k1R,k1K,<- k1O] at e
   omega
  generalize Uw / V=q at *
  omega
theorem Gs.fine (h:Gs W low lowV Uw V x u3 top next B) (y:g * top + rest=x) (J:g < B) (hc:g * next<=rest * B + u3):g<=Uw / V + 1:=by
 by_cases j:g<=Uw / V + 1
 ·exact j
 ·exfalso
  have e:Uw / V + 1<=g - 1:=by generalize Uw / V=q at *;omega
  have z:Uw < (Uw / V + 1) * V:=by
   have:=m1K Uw V
   have s:=l1T Uw h.V0
   rw [k1R,k1Z (Uw / V)];omega
  have s:(Uw / V + 1) * V<=(g - 1) * V:=k1E _ e
  have F:(g - 1) * V<=(g - 1) * (W * (top * B + next + 1)):=l1c _ (by have:=h.V_lt;omega)
  have G:=h.U_ge
  have u:W * (x * B + u3) < W * ((g - 1) * (top * B + next + 1)):=by
   have:(g - 1) * (W * (top * B + next + 1))=W * ((g - 1) * (top * B + next + 1)):=by grind
   omega
  have k:=m1a u
  obtain ⟨c,rfl⟩:∃ c,g=c + 1:=⟨g - 1,by generalize Uw / V=q at *;omega⟩
  rw [show c + 1 - 1=c by omega] at k
  have v:(c + 1) * (top * B + next)<=x * B + u3:=by
   rw [<- y,k1R ((c + 1) * top),k1K (c + 1),<- k1O];omega
  have H:top * B + next < c:=by
   rw [k1R,l1l] at v
   rw [k1K,l1H] at k
   omega
  have I:B<=top * B:=Nat.le_mul_of_pos_left _ (by have:=h.hB;have:=h.htop;omega)
  omega
theorem K0y {X c P:Nat} (h:Gs W low lowV Uw V x u3 top next B) (F:Uw / V<=g) (G:g<=Uw / V + 1) (hs:X + g * V=Uw + c * P) (L:X < P) (J:V < P) :
  (c=0->g=Uw / V/\X=Uw % V)/\(c ≠ 0->g=Uw / V + 1/\∀ k c',k + c' * P=X + V->k < P->k = Uw % V):=by
 have M:=m1K Uw V
 have N:=l1T Uw h.V0
 generalize Uw / V=q at *
 generalize Uw % V=r at *
 refine ⟨fun hc=>?_,fun hc=>?_⟩
 ·subst hc
  rw [n1H,l1A] at hs
  by_cases j:g=q
  ·subst j;refine ⟨rfl,?_⟩;rw [k1Z g V] at hs;omega
  ·have:g=q + 1:=by omega
   subst this
   rw [k1R,l1l,k1Z q V] at hs;omega
 ·have z:P<=c * P:=Nat.le_mul_of_pos_left _ (by omega)
  by_cases j:g=q
  ·subst j;rw [k1Z g V] at hs;omega
  ·have j:g=q + 1:=by omega
   subst j
   refine ⟨rfl,fun k c' H I=>?_⟩
   rw [k1R,l1l,k1Z q V] at hs
   have s:c=1:=by
    by_cases u:2<=c
    ·have:2 * P<=c * P:=k1E _ u
     omega
    ·omega
   subst s
   have e:c' = 1:=by
    by_cases v:c' = 0
    ·subst v;omega
    ·by_cases y:2<=c'
     ·have:2 * P<=c' * P:=k1E _ y
      omega
     ·omega
   subst e
   omega
theorem x0c {BB i k n q r V u:Nat} {L X Q:List Nat} (c:BB=4294967296) (z:L.length=n) (h:Won L X i (k + 1)) (hn:i + (k + 1)<=n) (F:i < Q.length) (hU:u=a0y (Q.drop (i + 1)) * BB ^ (i + 1) * V + a0y L) (hV:V < BB ^ k) (M:a0y L < V * BB ^ (i + 1))
  (N:win L i (k + 1)=V * q + r) (O:r < V) (I:win X i (k + 1)=r) :
  a0y X < V * BB ^ i/\u=a0y ((Q.set i q).drop i) * BB ^ i * V + a0y X:=by
 obtain ⟨j,rfl⟩:∃ j,n=i + (k + 1) + j:=⟨n - (i + (k + 1)),by omega⟩
 have s:a0y L=win L 0 i + BB ^ i * (win L i (k + 1) + BB ^ (k + 1) * win L (i + (k + 1)) j):=by
  have e:=i0d (L:=L) (k1x _)
  rw [k1M,z,l1R,d0H,d0H,l1e] at e
  rw [e,c]
 have e2:a0y X=win X 0 i + BB ^ i * (win X i (k + 1) + BB ^ (k + 1) * win X (i + (k + 1)) j):=by
  have e:=i0d (L:=X) (k1x _)
  rw [k1M,h.1,z,l1R,d0H,d0H,l1e] at e
  rw [e,c]
 have v:win X 0 i=win L 0 i:=k0n fun j J=>h.2.2 _ (by omega)
 have G:win X (i + (k + 1)) j=win L (i + (k + 1)) j:=k0n fun j J=>h.2.2 _ (by omega)
 have Z:0 < BB ^ i:=Nat.pow_pos (by omega)
 have x:win L (i + (k + 1)) j=0:=by
  by_cases H:win L (i + (k + 1)) j=0
  ·exact H
  ·exfalso
   have e:BB ^ i * BB ^ (k + 1)<=a0y L:=by
    rw [s]
    have:BB ^ i * BB ^ (k + 1)<=BB ^ i * (win L i (k + 1) + BB ^ (k + 1) * win L (i + (k + 1)) j):=l1c _ (by
     have:=Nat.le_mul_of_pos_right (BB ^ (k + 1)) (by omega:0 < win L (i + (k + 1)) j);omega)
    omega
   have R:V * BB ^ (i + 1)<=BB ^ k * BB ^ (i + 1):=k1E _ (by omega)
   have U:BB ^ k * BB ^ (i + 1)=BB ^ i * BB ^ (k + 1):=by rw [<- m1w,<- m1w];congr 1;omega
   omega
 rw [x,Nat.mul_zero,l1A] at s
 rw [v,G,x,Nat.mul_zero,l1A,I] at e2
 have hlow:win L 0 i < BB ^ i:=by
  rw [<- v,c];exact l0x h.2.1 0 i
 refine ⟨?_,?_⟩
 ·rw [e2]
  have:BB ^ i * (r + 1)<=BB ^ i * V:=l1c _ O
  rw [k1K,l1H] at this
  rw [k1Z V];omega
 ·have y:=f0T (l:=Q.set i q) (n:=i) (by simpa using F)
  rw [k1v,l1W F,l1d,List.drop_set_of_lt (show i < i + 1 by omega),<- c] at y
  rw [hU,s,e2,N,y,k1V]
  grind
end
section
set_option maxRecDepth 20000
variable {fl:Nat} {H G:a0f} {R:a0D} {v w:Value} {a b:List Nat}
theorem q0P {e p o n c:Nat} {cs:List Value} (hb:G.bk p=.row false e cs):elemOk G e (.slice (some ⟨p,o,none⟩) n c)=true:=by
 unfold elemOk;simp only [hb];simp
theorem n0O {p o n cap lo hi:Nat} {x y:Option Value} (h:bnd 0 x=some lo) (j:bnd n y=some hi) (c:lo<=hi) (e:hi<=n) :
  e0g 1 (.slice (some ⟨p,o,none⟩) n cap) x y none=some (.slice (some ⟨p,o + lo,none⟩) (hi - lo) (if cap=unk then unk else cap - lo)):=by
 unfold e0g;simp only [h,j];rw [k1B ⟨c,e⟩];simp
theorem C0c {p o n cap:Nat} {ro:Bool} {L:List Nat} (hb:G.bk p=.row ro a0l (c0e L)) (e:b0u L) (j:o + n<=L.length):Lim G (.slice (some ⟨p,o,none⟩) n cap) ((L.drop o).take n):=by
 have c:((L.drop o).take n).length=n:=by simp;omega
 refine ⟨⟨by simp [c],.inr ⟨p,o,cap,ro,c0e L,by rw [c],hb,by simp [c];omega,?_⟩⟩,fun x h=>e x (List.mem_of_mem_drop (m1s h))⟩
 rw [c,l1H];simp [c0e,List.map_take,List.map_drop]
theorem C0j {L:List Nat} {o:Nat}:∀ {n:Nat},o + n<=L.length->a0y ((L.drop o).take n)=win L o n
 | 0,_=>by simp [a0y,win]
 | n + 1,h=>by
  rw [a0R (by simp;omega),C0j (by omega),win]
  simp [k1v]
theorem d1b {b:List Nat} {k n:Nat} (c:b0u b) (v:b.length=k + 1) (x:n<=31) (e:b.getD k 0 * 2 ^ n < 4294967296):a0y b * 2 ^ n < 4294967296 ^ (k + 1):=by
 have h:a0y b=win b 0 k + 4294967296 ^ k * b.getD k 0:=by
  rw [<- l0b (L:=b) (n:=k + 1) (by omega),win,l1e]
 have u:=l0x c 0 k
 have j:(b.getD k 0 + 1) * 2 ^ n<=4294967296:=by
  obtain ⟨m,s⟩:∃ m,4294967296=m * 2 ^ n:=⟨2 ^ (32 - n),by rw [<- m1w,show 32 - n + n=32 by omega]⟩
  rw [s] at e ⊢
  exact k1E _ (n1l e)
 have q:a0y b < 4294967296 ^ k * (b.getD k 0 + 1):=by rw [h,k1K,l1H];omega
 have hp:0 < 2 ^ n:=n1f n
 calc a0y b * 2 ^ n < 4294967296 ^ k * (b.getD k 0 + 1) * 2 ^ n:=Nat.mul_lt_mul_of_pos_right q hp
  _=4294967296 ^ k * ((b.getD k 0 + 1) * 2 ^ n):=k1O ..
  _<=4294967296 ^ k * 4294967296:=l1c _ j
  _=4294967296 ^ (k + 1):=(k1V ..).symm
theorem N0K {o:List Nat} {k:Nat} (ho:o.length=k + 1) (h:a0y o < 4294967296 ^ k):a0y (o.take k)=a0y o:=by
 have e:a0y o=a0y (o.take k) + 4294967296 ^ k * o.getD k 0:=by
  rw [<- a0R (by omega),k1J (by omega)]
 have:o.getD k 0=0:=by
  by_cases c:o.getD k 0=0
  ·exact c
  ·have:=Nat.le_mul_of_pos_right (4294967296 ^ k) (by omega:0 < o.getD k 0);omega
 rw [this] at e;omega
theorem d1a {b:List Nat} {k n:Nat} (h:b.length=k + 1) (e:2147483648<=b.getD k 0 * 2 ^ n):2147483648 * 4294967296 ^ k<=a0y b * 2 ^ n:=by
 have c:a0y b=win b 0 k + 4294967296 ^ k * b.getD k 0:=by
  rw [<- l0b (L:=b) (n:=k + 1) (by omega),win,l1e]
 rw [c,k1R,k1O,k1Z 2147483648]
 have:=l1c (4294967296 ^ k) e
 omega
theorem L0z {x y la k n B:Nat} (c:x < B ^ la) (h:2 ^ n<=2147483648) (e:2147483648 * B ^ k<=y):x * 2 ^ n < y * B ^ (la - k) ∨ la < k:=by
 by_cases j:k<=la
 ·left
  have hp:0 < 2 ^ n:=n1f n
  calc x * 2 ^ n < B ^ la * 2 ^ n:=Nat.mul_lt_mul_of_pos_right c hp
   _<=B ^ la * 2147483648:=l1c _ h
   _=2147483648 * B ^ k * B ^ (la - k):=by rw [k1O,<- m1w,show k + (la - k)=la by omega,k1Z]
   _<=y * B ^ (la - k):=k1E _ e
 ·right;omega
theorem Won.trans {L X Y:List Nat} {o n:Nat} (h:Won L X o n) (k:Won X Y o n):Won L Y o n:=⟨k.1.trans h.1,k.2.1,fun j c=>(k.2.2 j c).trans (h.2.2 j c)⟩
theorem c1P {tag r:Nat} (h:r < 4294967296):d0p tag .shl (.int .u64 (r:Int)) (.int .u64 32)=some (.int .u64 ((r * 4294967296:Nat):Int)):=by
 have c:=K0n (tag:=tag) (n:=r) (s:=32) (k':=.u64) (by omega)
 have e:r * 2 ^ 32 % 18446744073709551616=r * 4294967296:=by omega
 rw [e] at c;exact c
theorem i1i {tag x y:Nat} (e:x < 4294967296) (c:y < 4294967296):d0p tag .or (.int .u64 ((x * 4294967296:Nat):Int)) (.int .u64 (y:Int))=some (.int .u64 ((x * 4294967296 + y:Nat):Int)):=by
 rw [b1J (by omega) (by omega),x0t c]
theorem y0I:∀ N:Nat,e0M [.int .u32 0] N=c0e (List.replicate N 0)
 | 0=>rfl
 | n + 1=>by rw [e0M,y0I n];rfl
theorem m0L (ha:Lim H v a) (hb:Lim H w b) (hf:fl<=H.size) (t7:a.length < 1073741823) (h2:2<=b.length) (t5:b.length<=a.length) (m9:b.getD (b.length - 1) 0 ≠ 0) :
  a0O env fl B0C [v,w] H (fun r H'=>(∃ q o q' o',r=.tuple #[q,q']/\Lim H' q o/\a0y o=a0y a / a0y b/\o.length<=a.length/\Lim H' q' o'/\a0y o' = a0y a % a0y b/\o'.length<=a.length)/\Ext H H') R:=by
 refine a0i h1a hf (h:=?_)
 intro ρ h0
 simp only [N0c]
 obtain ⟨k,hk⟩:∃ k,b.length=k + 1:=⟨b.length - 1,by omega⟩
 have t4:1<=k:=by omega
 rw [show b.length - 1=k by omega] at m9
 have r5:=c0i hb.ok k
 have f3:=hb.ia (k:=.i64) (show k < b.length by omega)
 have f6:=hb.load (show k < b.length by omega) (Ext.refl H)
 have j9:=@d1b b k
 have j8:=@d1a b k
 generalize r6:b.getD k 0=tp at *
 have e0:IntKind.i64.wrap ((b.length:Int) - 1)=((k:Nat):Int):=by rw [a0S (by omega) (by omega)];omega
 simp [G0p,G0q,h0]
 refine b0U (fun c t G=>∃ n:Nat,G=H/\n + c=31/\t.length=147/\get t 0=v/\get t 1=w/\get t 6=.int .i64 ((n:Nat):Int)/\tp * 2 ^ n < 4294967296)
  (fun t G=>∃ n:Nat,G=H/\n<=31/\t.length=147/\get t 0=v/\get t 1=w/\get t 6=.int .i64 ((n:Nat):Int)/\tp * 2 ^ n < 4294967296/\2147483648<=tp * 2 ^ n) 31 ?_ ?_ ?_
 ·exact ⟨0,rfl,by omega,by simp,by simp [h0],by simp [h0],by simp,by omega⟩
 ·clear h0 ρ
  rintro c t G ⟨n,rfl,hn,ht,g0,g1,M,hy⟩
  obtain ⟨ρ,rfl⟩:=toT ht
  simp only [b0T,Nat.reduceLT] at g0 g1 M
  have i7:tp * 2 ^ (n + 1)=2 * (tp * 2 ^ n):=by rw [k1V,<- k1O];omega
  have s5:2 ^ n<=tp * 2 ^ n:=Nat.le_mul_of_pos_left _ (by omega)
  have u0:n=31->2147483648<=tp * 2 ^ n:=by rintro rfl;exact s5
  have s1:=r0N (tag:=0) (n:=tp) (s:=n) (k':=.i64) (by omega)
  rw [k1Y hy] at s1
  generalize o5:tp * 2 ^ n=y at *
  have s2:d0p 0 .shr (.int .u32 (y:Int)) (.int .u64 31)=some (.int .u32 ((y / 2147483648:Nat):Int)):=r0O (tag:=0) (n:=y) (s:=31) (k':=.u64) (by omega)
  have e9:IntKind.i64.wrap ((n:Int) + 1)=((n + 1:Nat):Int):=by rw [a0S (by omega) (by omega)];omega
  by_cases hd:y / 2147483648=0
  ·have k8:((y / 2147483648:Nat) == 0)=true:=by simp [hd]
   simp [-Int.natCast_ediv,-Int.natCast_add,-beq_iff_eq,v0K,v0L,g0,g1,M,hb.slen,e0,f3,f6,s1,s2,k8,e9]
   exact ⟨c - 1,by omega,n + 1,by omega,rfl,by rw [i7];omega⟩
  ·have k8:((y / 2147483648:Nat) == 0)=false:=by simp [hd]
   simp [-Int.natCast_ediv,-Int.natCast_add,-beq_iff_eq,v0K,v0L,g0,g1,M,hb.slen,e0,f3,f6,s1,s2,k8,e9]
   exact ⟨n,by omega,rfl,by rw [o5];exact hy,by rw [o5];omega⟩
 ·clear h0 ρ
  rintro t G ⟨n,rfl,hn,ht,g0,g1,M,hy,i7⟩
  obtain ⟨ρ,rfl⟩:=toT ht
  simp only [b0T,Nat.reduceLT] at g0 g1 M
  refine a0C ?_
  simp [G0r,g0,g1,M]
  refine (g0P ha (k1x _) (by omega) (by omega)).mo ?_
  rintro u G1 ⟨⟨L0,hu,f8,i5,l3⟩,h4⟩
  try simp [g0,g1,M]
  refine (g0P (hb.mo h4) h4.1 (by omega) (by omega)).mo ?_
  rintro u2 G2 ⟨⟨L1,r8,j5,l9,n3⟩,m0⟩
  have hx:=h4.trans m0
  have t9:=hx.1
  have s6:=h4.1
  obtain ⟨r9,⟨_,e7⟩ | ⟨P,d2,rfl,hP,i0⟩⟩:=hu.mo m0
  ·omega
  obtain ⟨o3,⟨_,e7⟩ | ⟨Q,d6,rfl,hQ,t3⟩⟩:=r8
  ·omega
  have s8:P < G1.size:=by
   obtain ⟨_,⟨e7,_⟩ | ⟨P',d1,he,o9,_⟩⟩:=hu
   ·cases e7
   ·simp at he;rw [he.1];exact a0k o9
  have s9:=a0k hQ
  -- the divisor
  have e4:=j9 hb.ok hk hn hy
  have i9:=j8 hk i7
  have e5:=N0K (o:=L1) (k:=b.length) n3 (by rw [l9,hk];exact e4)
  have f7:=L0z (x:=a0y a) (y:=a0y b * 2 ^ n) (la:=a.length) (k:=k) (n:=n) (B:=4294967296) (g0q a ha.ok) (l1P (n:=2) (by omega) hn) i9
  have f7:a0y a * 2 ^ n < a0y b * 2 ^ n * 4294967296 ^ (a.length - k):=by rcases f7 with h | h;exact h;omega
  have l4:0 < 2 ^ n:=n1f n
  have n8:a0y a / a0y b=a0y a * 2 ^ n / (a0y b * 2 ^ n):=(Nat.mul_div_mul_right _ _ l4).symm
  have o1:a0y a % a0y b=a0y a * 2 ^ n % (a0y b * 2 ^ n) / 2 ^ n:=by rw [Nat.mul_mod_mul_right,Nat.mul_div_cancel _ l4]
  rw [l9] at e5
  rw [n8,o1]
  generalize a0y b * 2 ^ n=V at *
  generalize a0y a * 2 ^ n=U0 at *
  clear n8 o1 j9 j8 f3 f6 e0 r6 m9 r5 hy i7 r9 o3 l4 hu h4 m0
  obtain ⟨j,hj⟩:∃ j,k=j + 1:=⟨k - 1,by omega⟩
  generalize hK:b.length=K at *
  have m6:((L1.drop 0).take K)=L1.take K:=by rw [l1F]
  have l8:=hb.slen
  rw [hK] at l8
  have d5:=n0O (p:=Q) (o:=0) (cap:=d6) (n:=K + 1) (x:=none) (y:=some (.int .i64 (K:Int))) (lo:=0) (hi:=K) rfl (by simp) (by omega) (by omega)
  rw [l1A,n1G,n1G] at d5
  generalize (if d6=unk then unk else d6)=capw at d5
  have o4:IntKind.i64.wrap (((a.length + 1:Nat):Int) - (K:Int))=((a.length - k:Nat):Int):=by rw [a0S (by omega) (by omega)];omega
  have n6:u0P true (.int .i64 ((a.length - k:Nat):Int)) [.int .i64 0]=some (.int .i64 ((a.length - k:Nat):Int)):=by
   simp only [u0P,mn2];rw [k1B trivial,k1y (by omega)]
  have hm:=g0o (bytes:=4) (k:=.i64) (k':=.i64) (l:=a.length - k) (c:=a.length - k) (k1x _) (by omega) (by omega)
  generalize hN:a.length - k=N at *
  simp [-Int.natCast_add,l8,q0P hQ,d5]
  simp [-Int.natCast_add,G0s,G0t,g0b,o4,n6,hm]
  generalize p1:G2.size=PQ
  generalize k2:G2.push (.row false a0l (e0M [.int .u32 0] N))=G3
  have i6:Ext G2 G3:=by rw [<- k2];exact (Ext.refl _).push
  have k3:=i6.bk hP
  have m7:=i6.bk hQ
  have d9:a0f.bk G3 PQ=.row false a0l (c0e (List.replicate N 0)):=by rw [<- k2,<- p1,a0G,y0I]
  replace hx:=hx.trans i6
  have a2:Lim G3 (.slice (some ⟨Q,0,none⟩) K capw) (L1.take K):=by rw [<- m6];exact C0c m7 j5 (by omega)
  have o8:(L1.take K).length=K:=by simp;omega
  have d3:=a2.ok
  generalize L1.take K=Vl at *
  clear k2 i6 hP hQ m7 j5 d5 m6 l9 n3 hm n6 o4 L1
  generalize c6:Value.slice (some ⟨P,0,none⟩) (a.length + 1) d2=SU
  generalize m8:Value.slice (some ⟨Q,0,none⟩) K capw=SV at *
  generalize h7:Value.slice (some ⟨PQ,0,none⟩) N N=SQ
  -- its highest limbs
  have j1:=a2.ia (k:=.i64) (show k < Vl.length by omega)
  have j2:=a2.ia (k:=.i64) (show j < Vl.length by omega)
  have j3:=a2.load (show k < Vl.length by omega) (Ext.refl _)
  have j4:=a2.load (show j < Vl.length by omega) (Ext.refl _)
  have p6:V=win Vl 0 k + 4294967296 ^ k * Vl.getD k 0:=by rw [<- e5,<- l0b (L:=Vl) (n:=k + 1) (by omega),win,l1e]
  have p8:V=win Vl 0 j + 4294967296 ^ j * (Vl.getD k 0 * 4294967296 + Vl.getD j 0):=by
   rw [<- e5,<- l0b (L:=Vl) (n:=k + 1) (by omega),N0N (by omega),show k + 1 - 1=k by omega,show k + 1 - 2=j by omega,l1e,l1e]
  have p3:=c0i d3 k
  have p2:=c0i d3 j
  have t0:2147483648<=Vl.getD k 0:=by
   by_cases h:2147483648<=Vl.getD k 0
   ·exact h
   ·exfalso
    have h3:=l0x d3 0 k
    have:4294967296 ^ k * (Vl.getD k 0 + 1)<=4294967296 ^ k * 2147483648:=l1c _ (by omega)
    rw [k1K,l1H] at this
    rw [k1Z] at i9
    omega
  clear p6
  generalize Vl.getD k 0=top at *
  generalize Vl.getD j 0=next at *
  have et:IntKind.u64.wrap (top:Int)=(top:Int):=by rw [a0z];omega
  have en:IntKind.u64.wrap (next:Int)=(next:Int):=by rw [a0z];omega
  have b4:IntKind.i64.wrap ((K:Int) - 1)=(k:Int):=by rw [a0S (by omega) (by omega)];omega
  have h6:IntKind.i64.wrap ((K:Int) - 2)=(j:Int):=by rw [a0S (by omega) (by omega)];omega
  have d7:IntKind.i64.wrap (((a.length + 1:Nat):Int) - (K:Int))=(N:Int):=by rw [a0S (by omega) (by omega)];omega
  have d8:IntKind.i64.wrap ((N:Int) - 1)=(N:Int) - 1:=a0S (by omega) (by omega)
  have j7:g0b SU=some (.int .i64 ((a.length + 1:Nat):Int)):=by rw [<- c6];rfl
  have g2:slB SV ≠ some PQ:=by rw [<- m8];simp [slB];omega
  have d4:slB SV ≠ some P:=by rw [<- m8];simp [slB];omega
  refine a0C ?_
  simp [-Int.natCast_add,G0u,G0v,a2.slen,b4,h6,j1,j2,j3,j4,et,en,o8,j7,d7,d8,M]
  clear j1 j2 j3 j4 et en b4 h6 d7 d8 j7 l8
  refine b0U (fun c t G'=>∃ L Qs,t.length=147/\get t 4=SQ/\get t 6=.int .i64 (n:Int)/\get t 7=SU/\get t 8=SV/\get t 9=.int .i64 (K:Int)/\get t 10=.int .u64 (top:Int)/\get t 11=.int .u64 (next:Int)/\get t 12=.int .i64 ((c:Int) - 1) /\
    Ext G G'/\Lim G' SV Vl/\a0f.bk G' P=.row false a0l (c0e L)/\a0f.bk G' PQ=.row false a0l (c0e Qs)/\L.length=a.length + 1/\b0u L/\Qs.length=N/\b0u Qs/\c<=N/\U0=a0y (Qs.drop c) * 4294967296 ^ c * V + a0y L/\a0y L < V * 4294967296 ^ c)
   (fun t G'=>∃ L Qs,t.length=147/\get t 4=SQ/\get t 6=.int .i64 (n:Int)/\get t 7=SU/\get t 9=.int .i64 (K:Int) /\
    Ext G G'/\a0f.bk G' P=.row false a0l (c0e L)/\a0f.bk G' PQ=.row false a0l (c0e Qs)/\L.length=a.length + 1/\b0u L/\Qs.length=N/\b0u Qs/\U0=a0y Qs * V + a0y L/\a0y L < V) N ?_ ?_ ?_
  ·refine ⟨L0,List.replicate N 0,by simp,by simp [h7],by simp [M],by simp [c6],by simp,by simp,by simp,by simp,by simp,hx,a2,k3,d9,l3,f8,by simp,fun z hz=>by rw [m1W] at hz;omega,k1x _,?_,by rw [i5];exact f7⟩
   rw [l1V (by simp),i5];simp [a0y]
  ·clear k3 d9 i5 l3 f8 L0 g0 g1 M ht ρ hx a2 G3
   rintro c t G3 ⟨L,Qs,ht,Z,M,g7,g8,g9,F,I,e,hx,a2,hP,b9,O,a1,a4,c0,t1,hU,c9⟩
   obtain ⟨ρ,rfl⟩:=toT ht
   simp only [b0T,Nat.reduceLT] at Z M g7 g8 g9 F I e
   by_cases q4:c=0
   ·subst q4
    simp [-Int.natCast_add,v0M,Z,M,g7,g8,g9,F,I,e]
    exact ⟨hx,L,hP,Qs,b9,O,a1,a4,c0,by simpa using hU,by simpa using c9⟩
   ·obtain ⟨i,rfl⟩:∃ i,c=i + 1:=⟨c - 1,by omega⟩
    have ec:(((i + 1:Nat):Int) - 1)=(i:Int):=by omega
    rw [ec] at e
    -- places
    obtain ⟨iK,r1⟩:∃ iK,iK=i + K:=⟨_,rfl⟩
    have b4:IntKind.i64.wrap ((i:Int) + (K:Int))=(iK:Int):=by rw [a0S (by omega) (by omega)];omega
    have h6:IntKind.i64.wrap ((iK:Int) - 1)=((i + k:Nat):Int):=by rw [a0S (by omega) (by omega)];omega
    have d7:IntKind.i64.wrap ((iK:Int) - 2)=((i + j:Nat):Int):=by rw [a0S (by omega) (by omega)];omega
    have d8:IntKind.i64.wrap ((iK:Int) + 1)=((iK + 1:Nat):Int):=by rw [a0S (by omega) (by omega)];omega
    have m4:IntKind.i64.wrap ((i:Int) - 1)=(i:Int) - 1:=a0S (by omega) (by omega)
    obtain ⟨n0,l5⟩:=m0N (k:=.i64) (cap:=d2) (o:=0) (n:=a.length + 1) hP (by omega) (show iK < a.length + 1 by omega)
    obtain ⟨n2,l6⟩:=m0N (k:=.i64) (cap:=d2) (o:=0) (n:=a.length + 1) hP (by omega) (show i + k < a.length + 1 by omega)
    obtain ⟨l2,i4⟩:=m0N (k:=.i64) (cap:=d2) (o:=0) (n:=a.length + 1) hP (by omega) (show i + j < a.length + 1 by omega)
    rw [c6,l1e] at n0 n2 l2
    rw [l1e] at l5 l6 i4
    have k0:=c0i a1 iK
    have m5:=c0i a1 (i + k)
    have k1:=c0i a1 (i + j)
    -- the window
    have U:=Y0N (L:=L) (o:=i) (k:=K) (by omega)
    rw [show K - 2=j by omega,show K - 1=k by omega,<- r1] at U
    have p4:win L i (K + 1) < V * 4294967296:=by
     have h1:=i0d (L:=L) (k1x _)
     rw [k1M,O,show a.length + 1=i + ((K + 1) + (a.length - i - K)) by omega,d0H,d0H,l1e] at h1
     have h2:4294967296 ^ i * win L i (K + 1) < 4294967296 ^ i * (V * 4294967296):=by
      rw [k1V,<- k1O,Nat.mul_right_comm] at c9
      rw [k1K] at h1
      have:V * 4294967296 * 4294967296 ^ i=4294967296 ^ i * (V * 4294967296):=k1Z _ _
      omega
     exact m1a h2
    generalize L.getD iK 0=A1 at k0 l5 U
    generalize L.getD (i + k) 0=A2 at m5 l6 U
    generalize L.getD (i + j) 0=A3 at k1 i4 U
    obtain ⟨x,hX⟩:∃ x,x=A1 * 4294967296 + A2:=⟨_,rfl⟩
    rw [<- hX] at U
    have gs:Gs (4294967296 ^ j) (win L i j) (win Vl 0 j) (win L i (K + 1)) V x A3 top next 4294967296 :=
     ⟨Nat.pow_pos (by omega),l0x a1 i j,l0x d3 0 j,U,p8,by omega,p3,p2,k1,p4⟩
    clear U
    have o6:IntKind.u64.wrap (A1:Int)=(A1:Int):=by rw [a0z];omega
    have o7:IntKind.u64.wrap (A2:Int)=(A2:Int):=by rw [a0z];omega
    have m3:IntKind.u64.wrap (A3:Int)=(A3:Int):=by rw [a0z];omega
    have s1:=c1P (tag:=0) k0
    have s2:=i1i (tag:=0) k0 m5
    have s0:x < 18446744073709551616:=by omega
    have f9:=gs.q_le
    have s7:=gs.x_lt
    rw [<- hX] at s2
    have s3:=b1T (tag:=0) (a:=x) (b:=top) s0 (by omega)
    have s4:=c1H (tag:=0) (a:=x) (b:=top) (by omega)
    have i2:x / top * top + x % top=x:=n1s x top
    have o0:=l1T x (show 0 < top by omega)
    have l0:x / top<=4294967297:=by
     have:x / top < 4294967298:=by rw [m1p (by omega)];omega
     omega
    have r2:(i:Int) ≥ 0:=by omega
    simp [-Int.natCast_add,-Int.natCast_mul,-Int.natCast_ediv,-Int.natCast_emod,v0M,Z,M,g7,g8,g9,F,I,e,r2]
    refine a0C ?_
    simp [-Int.natCast_add,-Int.natCast_mul,-Int.natCast_ediv,-Int.natCast_emod,y0e,Z,M,g7,g8,g9,F,I,e,b4,h6,n0,n2,l5,l6,o6,o7,s1,s2]
    refine a0C ?_
    simp [-Int.natCast_add,-Int.natCast_mul,-Int.natCast_ediv,-Int.natCast_emod,y0f,Z,M,g7,g8,g9,F,I,e,s3,s4]
    clear s1 s2 s3 s4
    generalize x / top=gq at i2 l0 f9 ⊢
    generalize x % top=rr at i2 o0 ⊢
    have J:∃ d1,e0g 1 SU (some (.int .i64 (i:Int))) (some (.int .i64 ((iK + 1:Nat):Int))) none=some (.slice (some ⟨P,i,none⟩) (K + 1) d1):=by
     rw [<- c6,n0O (lo:=i) (hi:=iK + 1) (by simp) (W0B (n:=iK + 1)) (by omega) (by omega),l1e,show iK + 1 - i=K + 1 by omega]
     exact ⟨_,rfl⟩
    obtain ⟨i8,J⟩:=J
    have a9:∀ (G':a0f) (cs:List Value),a0f.bk G' P=.row false a0l cs->elemOk G' a0l SU=true:=fun G' cs h=>by rw [<- c6];exact q0P h
    refine b0U (fun c t G'=>∃ g rest:Nat,c=g/\G' = G3/\t.length=147/\get t 4=SQ/\get t 6=.int .i64 (n:Int)/\get t 7=SU/\get t 8=SV/\get t 9=.int .i64 (K:Int)/\get t 10=.int .u64 (top:Int)/\get t 11=.int .u64 (next:Int)/\get t 12=.int .i64 (i:Int)/\get t 14=.int .u64 (g:Int)/\get t 15=.int .u64 (rest:Int) /\
      g * top + rest=x/\win L i (K + 1) / V<=g/\g<=4294967297/\rest < 4294967296)
     (fun t G'=>∃ g rest:Nat,G' = G3/\t.length=147/\get t 4=SQ/\get t 6=.int .i64 (n:Int)/\get t 7=SU/\get t 8=SV/\get t 9=.int .i64 (K:Int)/\get t 10=.int .u64 (top:Int)/\get t 11=.int .u64 (next:Int)/\get t 12=.int .i64 (i:Int)/\get t 14=.int .u64 (g:Int) /\
      g * top + rest=x/\win L i (K + 1) / V<=g/\g < 4294967296/\g * next<=rest * 4294967296 + A3) gq ?_ ?_ ?_
    ·exact ⟨gq,rr,rfl,rfl,by simp,by simp [Z],by simp [M],by simp [g7],by simp [g8],by simp [g9],by simp [F],by simp [I],by simp [e],by simp,by simp,i2,f9,l0,by omega⟩
    ·clear Z M g7 g8 g9 F I e ht ρ
     rintro c t G' ⟨g,rest,rfl,rfl,ht,Z,M,g7,g8,g9,F,I,e,a0,b5,c8,hq,c4,n9⟩
     obtain ⟨ρ,rfl⟩:=toT ht
     simp only [b0T,Nat.reduceLT] at Z M g7 g8 g9 F I e a0 b5
     obtain ⟨rt,j6⟩:∃ rt,rt=rest + top:=⟨_,rfl⟩
     have er:IntKind.u64.wrap ((rest:Int) + (top:Int))=(rt:Int):=by rw [a0z];omega
     by_cases h8:4294967296<=c
     ·have c1:(4294967296:Int)<=(c:Int):=by omega
      have c7:4294967296<=c ∨ rest * 4294967296 + A3 < c * next:=.inl h8
      have f1:(c:Int) ≥ 4294967296:=c1
      simp (config:={maxSteps:=4000000}) [-Int.natCast_add,-Int.natCast_mul,l0U,Z,M,g7,g8,g9,F,I,e,a0,b5,h8,c1]
      obtain ⟨d0,q7⟩:=gs.down c8 hq c7
      obtain ⟨g',rfl⟩:∃ g',c=g' + 1:=⟨c - 1,by omega⟩
      rw [Nat.add_sub_cancel] at d0
      have eg:IntKind.u64.wrap (((g' + 1:Nat):Int) - 1)=(g':Int):=by rw [a0z];omega
      have a6:g' * top + rt=x:=by rw [<- c8,j6,k1R,l1l];omega
      by_cases e8:4294967296<=rt
      ·have a5:(4294967296:Int)<=(rt:Int):=by omega
       simp [-Int.natCast_add,-Int.natCast_mul,f1,j0Y,j0Z,k0a,Z,M,g7,g8,g9,F,I,e,a0,b5,eg,er,e8,a5]
       have f2:g' < 4294967296:=by
        by_cases h:g' = 4294967296
        ·subst h;rw [k1Z] at a6;omega
        ·omega
       refine ⟨g',rfl,rt,a6,d0,f2,?_⟩
       have h1:g' * next<=4294967295 * 4294967295:=l1u (by omega) (by omega)
       omega
      ·have a5:¬ (4294967296:Int)<=(rt:Int):=by omega
       simp [-Int.natCast_add,-Int.natCast_mul,f1,j0Y,j0Z,k0a,Z,M,g7,g8,g9,F,I,e,a0,b5,eg,er,e8,a5]
       exact ⟨g',by omega,rfl,rt,rfl,a6,d0,by omega,by omega⟩
     ·have c1:¬ (4294967296:Int)<=(c:Int):=by omega
      have t2:c * next<=4294967295 * 4294967295:=l1u (by omega) (by omega)
      obtain ⟨cn,f0⟩:∃ cn,cn=c * next:=⟨_,rfl⟩
      have em:IntKind.u64.wrap ((c:Int) * (next:Int))=(cn:Int):=by rw [a0z,<- l1Y,<- f0];omega
      have s1:=c1P (tag:=0) n9
      have s2:=i1i (tag:=0) n9 k1
      obtain ⟨rA,l7⟩:∃ rA,rA=rest * 4294967296 + A3:=⟨_,rfl⟩
      rw [<- l7] at s2
      by_cases i3:rA < cn
      ·have c7:4294967296<=c ∨ rest * 4294967296 + A3 < c * next:=.inr (by rw [<- l7,<- f0];exact i3)
       have f1:rA < cn:=i3
       simp (config:={maxSteps:=4000000}) [-Int.natCast_add,-Int.natCast_mul,l0U,Z,M,g7,g8,g9,F,I,e,a0,b5,h8,c1,b4,d7,l2,i4,m3,em,s1,s2,i3]
       obtain ⟨d0,q7⟩:=gs.down c8 hq c7
       obtain ⟨g',rfl⟩:∃ g',c=g' + 1:=⟨c - 1,by omega⟩
       rw [Nat.add_sub_cancel] at d0
       have eg:IntKind.u64.wrap (((g' + 1:Nat):Int) - 1)=(g':Int):=by rw [a0z];omega
       have a6:g' * top + rt=x:=by rw [<- c8,j6,k1R,l1l];omega
       by_cases e8:4294967296<=rt
       ·have a5:(4294967296:Int)<=(rt:Int):=by omega
        simp [-Int.natCast_add,-Int.natCast_mul,f1,j0Y,j0Z,k0a,Z,M,g7,g8,g9,F,I,e,a0,b5,eg,er,e8,a5]
        have f2:g' < 4294967296:=by
         by_cases h:g' = 4294967296
         ·subst h;rw [k1Z] at a6;omega
         ·omega
        refine ⟨g',rfl,rt,a6,d0,f2,?_⟩
        have h1:g' * next<=4294967295 * 4294967295:=l1u (by omega) (by omega)
        omega
       ·have a5:¬ (4294967296:Int)<=(rt:Int):=by omega
        simp [-Int.natCast_add,-Int.natCast_mul,f1,j0Y,j0Z,k0a,Z,M,g7,g8,g9,F,I,e,a0,b5,eg,er,e8,a5]
        exact ⟨g',by omega,rfl,rt,rfl,a6,d0,by omega,by omega⟩
      ·simp (config:={maxSteps:=4000000}) [-Int.natCast_add,-Int.natCast_mul,l0U,Z,M,g7,g8,g9,F,I,e,a0,b5,h8,c1,b4,d7,l2,i4,m3,em,s1,s2,i3]
       exact ⟨c,rfl,rest,c8,hq,by omega,by rw [<- l7,<- f0];omega⟩
    ·clear Z M g7 g8 g9 F I e ht ρ i2 l0 f9 o0
     rintro t G' ⟨gg,rest,rfl,ht,Z,M,g7,g8,g9,F,I,e,a0,c8,hq,c4,r0⟩
     obtain ⟨ρ,rfl⟩:=toT ht
     simp only [b0T,Nat.reduceLT] at Z M g7 g8 g9 F I e a0
     have r4:=gs.fine c8 c4 r0
     have p9:V < 4294967296 ^ (K + 1):=by
      rw [hk,k1V];omega
     simp [-Int.natCast_add,y0g,Z,M,g7,g8,g9,F,I,e,a0,b4,d8,a9 _ _ hP,J]
     refine (q0M (n:=K + 1) hP a1 (by omega) a2 d4 i0 c4 (by omega) (by omega)).mo ?_
     rintro _ G4 ⟨X0,cc,rfl,e6,m2,a8,hs⟩
     rw [e5] at hs
     obtain ⟨q5,q6⟩:=K0y gs hq r4 hs (l0x a8.2.1 i (K + 1)) p9
     have c5:=m2.ext i0 hx
     have g3:=a2.off m2 d4
     have b8:a0f.bk G4 PQ=.row false a0l (c0e Qs):=by rw [m2.2 PQ (a0k b9) (by simp;omega)];exact b9
     have n5:=l1T (win L i (K + 1)) gs.V0
     have j0:=(m1K (win L i (K + 1)) V).symm
     by_cases h9:cc=0
     ·obtain ⟨i1,U⟩:=q5 h9
      obtain ⟨X,q2⟩:∃ X,X=X0:=⟨_,rfl⟩
      obtain ⟨g,q9⟩:∃ g,g=gg:=⟨_,rfl⟩
      subst q2 q9
      have k5:=e6
      have a7:=a8
      have k9:win L i (K + 1)=V * g + win L i (K + 1) % V:=by rw [i1];exact j0
      simp [-Int.natCast_add,h9,r0x,Z,M,g7,g8,g9,F,I,e,a0]
      refine (a0t c5.1).mo ?_
      rintro _ G6 ⟨rfl,b1⟩
      have a3:=b1.bk b8
      have k4:=b1.bk k5
      have e3:=a0k a3
      obtain ⟨f5,_⟩:=m0N (k:=.i64) (cap:=N) (o:=0) (n:=N) a3 (by omega) (show i < N by omega)
      rw [h7,l1e] at f5
      have f4:i + 1<=Qs.length:=by omega
      have c3:G.size<=PQ:=by omega
      rw [k1Y c4]
      obtain ⟨k6,k7⟩:=x0c (BB:=4294967296) (n:=a.length + 1) (q:=g) rfl O a7 (by omega) (show i < Qs.length by omega) hU (by rw [hk];exact e4) c9 k9 n5 U
      simp [-Int.natCast_add,r0y,f5,a3,f4,c3,Z,M,g7,g8,g9,F,I,e,m4]
      refine ⟨i,by omega,rfl,(c5.trans b1).set c3,(g3.mo b1).off d0o.refl.set g2,X,by rw [a0T (by omega)];exact k4,Qs.set i g,by rw [a0A e3,d0M],by rw [a7.1,O],a7.2.1,by simpa using a4,c0c c0 c4,by omega,k7,k6⟩
     ·obtain ⟨i1,l1⟩:=q6 h9
      obtain ⟨g,rfl⟩:∃ g,gg=g + 1:=⟨win L i (K + 1) / V,i1⟩
      have q8:g=win L i (K + 1) / V:=Nat.succ.inj i1
      have eg:IntKind.u64.wrap (((g + 1:Nat):Int) - 1)=(g:Int):=by rw [a0z];omega
      have k9:win L i (K + 1)=V * g + win L i (K + 1) % V:=by rw [q8];exact j0
      simp [-Int.natCast_add,h9,y0h,y0i,Z,M,g7,g8,g9,F,I,e,a0,eg,b4,d8,a9 _ _ e6,J]
      refine (q0J (n:=K + 1) e6 a8.2.1 (by rw [a8.1];omega) g3 d4 i0 (by omega) (by omega)).mo ?_
      rintro _ G5 ⟨X,c2,k5,h5,g5,o2⟩
      rw [e5] at o2
      have U:=l1 _ _ o2 (l0x g5.2.1 i (K + 1))
      replace b8:a0f.bk G5 PQ=.row false a0l (c0e Qs):=by rw [h5.2 PQ (a0k b8) (by simp;omega)];exact b8
      replace c5:=h5.ext i0 c5
      replace g3:=g3.off h5 d4
      have a7:=a8.trans g5
      replace c4:g < 4294967296:=by omega
      simp [-Int.natCast_add,r0x,Z,M,g7,g8,g9,F,I,e]
      refine (a0t c5.1).mo ?_
      rintro _ G6 ⟨rfl,b1⟩
      have a3:=b1.bk b8
      have k4:=b1.bk k5
      have e3:=a0k a3
      obtain ⟨f5,_⟩:=m0N (k:=.i64) (cap:=N) (o:=0) (n:=N) a3 (by omega) (show i < N by omega)
      rw [h7,l1e] at f5
      have f4:i + 1<=Qs.length:=by omega
      have c3:G.size<=PQ:=by omega
      rw [k1Y c4]
      obtain ⟨k6,k7⟩:=x0c (BB:=4294967296) (n:=a.length + 1) (q:=g) rfl O a7 (by omega) (show i < Qs.length by omega) hU (by rw [hk];exact e4) c9 k9 n5 U
      simp [-Int.natCast_add,r0y,f5,a3,f4,c3,Z,M,g7,g8,g9,F,I,e,m4]
      refine ⟨i,by omega,rfl,(c5.trans b1).set c3,(g3.mo b1).off d0o.refl.set g2,X,by rw [a0T (by omega)];exact k4,Qs.set i g,by rw [a0A e3,d0M],by rw [a7.1,O],a7.2.1,by simpa using a4,c0c c0 c4,by omega,k7,k6⟩
  ·clear k3 d9 i5 l3 f8 L0 g0 g1 M ht ρ hx a2 G3
   rintro t G3 ⟨L,Qs,ht,Z,M,g7,g9,hx,hP,b9,O,a1,a4,c0,hU,c9⟩
   obtain ⟨ρ,rfl⟩:=toT ht
   simp only [b0T,Nat.reduceLT] at Z M g7 g9
   have a9:elemOk G3 a0l SU=true:=by rw [<- c6];exact q0P hP
   have J:∃ d1,e0g 1 SU none (some (.int .i64 (K:Int))) none=some (.slice (some ⟨P,0,none⟩) K d1):=by
    rw [<- c6,n0O (lo:=0) (hi:=K) rfl (by simp) (by omega) (by omega),l1e,n1G]
    exact ⟨_,rfl⟩
   obtain ⟨i8,J⟩:=J
   simp [-Int.natCast_add,y0j,Z,M,g7,g9,a9,J]
   have n4:=C0c (cap:=i8) hP a1 (show 0 + K<=L.length by omega)
   have r3:a0y ((L.drop 0).take K)=a0y L:=by
    have h1:=i0d (L:=L) (k1x _)
    rw [k1M,O,show a.length + 1=K + (a.length + 1 - K) by omega,d0H,l1e] at h1
    have h2:win L K (a.length + 1 - K)=0:=by
     by_cases h0:win L K (a.length + 1 - K)=0
     ·exact h0
     ·have:=Nat.le_mul_of_pos_right (4294967296 ^ K) (by omega:0 < win L K (a.length + 1 - K))
      rw [hk] at this h1;omega
    rw [C0j (by omega),h1,h2,Nat.mul_zero,l1A]
   have t6:((L.drop 0).take K).length=K:=by simp;omega
   refine (q0I n4 hx.1 (by omega) (by omega)).mo ?_
   rintro r G4 ⟨⟨o,ho,n7,t8⟩,c5⟩
   rw [r3] at n7
   have p5:0 < V:=by omega
   have e1:U0 / V=a0y Qs:=by rw [hU,k1Z,Nat.mul_add_div p5,m1r c9,l1A]
   have e2:U0 % V=a0y L:=by rw [hU,k1Z,Nat.mul_add_mod,k1Y c9]
   refine fun _=>⟨SQ,Qs,r,⟨rfl,rfl⟩,⟨by rw [<- h7,<- a4];exact (Own.mk (fl:=0) (c5.bk b9) (by simp) (l1D _)).sl,c0⟩,e1.symm,by omega,o,ho,by rw [n7,e2],by omega⟩
end
section
variable {fl:Nat} {H:a0f} {R:a0D} {v w:Value} {i j:Bool × List Nat}
theorem p0W (x y:Int):(if (decide (x < 0) != decide (y < 0))=true then -((x.natAbs / y.natAbs:Nat):Int) else ((x.natAbs / y.natAbs:Nat):Int))=x.tdiv y:=by
 have c:∀ n:Int,0<=n->(n.natAbs:Int)=n:=fun n h=>Int.natAbs_of_nonneg h
 have e2:∀ n:Int,n < 0->(n.natAbs:Int) = -n:=fun n h=>by omega
 rw [Int.natCast_ediv]
 by_cases e:x < 0 <;> by_cases j:y < 0 <;> simp only [e,j,decide_true,decide_false,bne_self_eq_false,k1W,l1y,Bool.true_bne,Bool.false_bne,Bool.not_false,l1o]
 ·rw [e2 x e,e2 y j,<- l1U (by omega),Int.neg_tdiv,Int.tdiv_neg,Int.neg_neg]
 ·rw [e2 x e,c y (by omega),<- l1U (by omega),Int.neg_tdiv,Int.neg_neg]
 ·rw [c x (by omega),e2 y j,<- l1U (by omega),Int.tdiv_neg,Int.neg_neg]
 ·rw [c x (by omega),c y (by omega),<- l1U (by omega)]
theorem p0X (x y:Int):(if decide (x < 0)=true then -((x.natAbs % y.natAbs:Nat):Int) else ((x.natAbs % y.natAbs:Nat):Int))=x.tmod y:=by
 have h:=Int.natAbs_tmod x y
 by_cases c:x < 0
 ·simp only [c,decide_true,l1o]
  have e:x.tmod y<=0:=by
   have:=Int.tmod_nonneg (a:=-x) y (by omega)
   rw [Int.neg_tmod] at this;omega
  omega
 ·simp only [c,decide_false,k1W,l1y]
  have e:=Int.tmod_nonneg (a:=x) y (by omega)
  omega
theorem b0Z (h:b0g H v i) (k:b0g H w j) (hf:fl<=H.size) (hn:i.2.length < 536870912) (hm:j.2.length < 536870912) (c1:a0s j ≠ 0) :
  a0O env fl m0x [v,w] H (fun r H'=>(∃ q m,r=.tuple #[q,m,.int .i64 0]/\b0g H' q (a0g ((a0s i).tdiv (a0s j)))/\b0g H' m (a0g ((a0s i).tmod (a0s j))))/\Ext H H') R:=by
 have I:=h
 have M:=k
 obtain ⟨s,rfl,hs⟩:=h
 obtain ⟨u,rfl,hu⟩:=k
 refine a0i g1Q hf (h:=?_)
 intro ρ U
 simp [M0S,F0m,U]
 generalize hG:(((H.push _).push _).push _).push _=G
 have F:Ext H G:=by rw [<- hG];exact (Ext.refl H).push.push.push.push
 have b0:a0f.bk G H.size=.row false a0a [.bool i.1,s]:=by rw [<- hG];simp
 have J:a0f.bk G (H.size + 1)=.row false a0a [.bool j.1,u]:=by rw [<- hG];simp
 have b2:a0f.bk G (H.size + 2)=.row false a0a [.bool false,.slice none 0 0]:=by rw [<- hG];simp
 have b3:a0f.bk G (H.size + 3)=.row false a0a [.bool false,.slice none 0 0]:=by rw [<- hG];simp
 have hz:H.size + 3 < G.size:=a0k b3
 clear hG
 replace I:=I.mo F
 replace M:=M.mo F
 refine a0C ?_
 simp [F0n,U,b0,J]
 refine (b0R I (by omega) (by omega)).mo ?_
 rintro x G2 ⟨O,z⟩
 replace b0:=z.bk b0;replace J:=z.bk J;replace b2:=z.bk b2;replace b3:=z.bk b3;replace F:=F.trans z;replace I:=I.mo z;replace M:=M.mo z
 try simp [U,b0,J]
 refine (b0R M F.1 (by omega)).mo ?_
 rintro y G2 ⟨N,z⟩
 replace b0:=z.bk b0;replace J:=z.bk J;replace b2:=z.bk b2;replace b3:=z.bk b3;replace F:=F.trans z;replace I:=I.mo z;replace M:=M.mo z;replace O:=O.mo z
 clear hs hu hz z
 have l1:=a0x I.ok
 have l2:=a0x M.ok
 have b4:a0p (a0s j).natAbs ≠ []:=by intro h;exact c1 (by have:=b0N.1 h;omega)
 have c9:=n1v.2 b4
 have e1:=p0W (a0s i) (a0s j)
 have e2:=p0X (a0s i) (a0s j)
 simp [F0o,F0p,U,N.slen,b4]
 refine (f0z O N F.1 (by omega)).mo ?_
 rintro _ G2 ⟨rfl,z⟩
 replace b0:=z.bk b0;replace J:=z.bk J;replace b2:=z.bk b2;replace b3:=z.bk b3;replace F:=F.trans z;replace I:=I.mo z;replace M:=M.mo z;replace O:=O.mo z;replace N:=N.mo z
 have a0:=d0Q (a0s i).natAbs (a0s j).natAbs
 rw [c0k] at a0
 generalize z0h (a0p (a0s i).natAbs) (a0p (a0s j).natAbs)=c at a0
 by_cases a1:(a0s i).natAbs < (a0s j).natAbs
 ·have a4:c < 0:=by rw [a0,k1B a1];omega
  simp [F0q,U,a4,b0]
  refine (b0B I F.1 (by omega)).mo ?_
  rintro _ G2 ⟨rfl,z⟩
  replace b0:=z.bk b0;replace J:=z.bk J;replace b2:=z.bk b2;replace b3:=z.bk b3;replace F:=F.trans z;replace I:=I.mo z;replace M:=M.mo z;replace O:=O.mo z;replace N:=N.mo z
  try simp [U]
  refine (c0w ((a0s i).tmod (a0s j)) O F.1 (by omega) (by rw [a0q,<- e2,k1Y a1])).mo ?_
  obtain ⟨s1,c6,L⟩:∃ s1,s1=Value.slice none 0 0/\Lim G2 s1 (a0g ((a0s i).tdiv (a0s j))).2:=by
   refine ⟨_,rfl,?_⟩
   rw [<- e1,m1r a1]
   have:a0g (if (decide (a0s i < 0) != decide (a0s j < 0))=true then -((0:Nat):Int) else ((0:Nat):Int))=(false,[]):=by split <;> exact e0p
   rw [this];exact Lim.nil
  have c0:(a0g ((a0s i).tdiv (a0s j))).1=false:=by
   rw [<- e1,m1r a1];split <;> simp [a0g]
  rw [<- c6,<- c0]
  rintro _ G2 ⟨⟨s2,rfl,Z⟩,z⟩
  replace b0:=z.bk b0;replace J:=z.bk J;replace b2:=z.bk b2;replace b3:=z.bk b3;replace F:=F.trans z;replace I:=I.mo z;replace M:=M.mo z;replace O:=O.mo z;replace N:=N.mo z
  have hz:=a0k b3
  have a3:=a0k b2
  simp [U,b2,b3,L.cells,L.plain,Z.cells,Z.plain,hz,a3]
  refine fun _=>⟨_,_,⟨rfl,rfl⟩,⟨s1,rfl,?_⟩,⟨s2,rfl,?_⟩⟩
  ·exact ((L.mo z).setT b2 (by decide)).setT (by rw [a0T (by omega)];exact b3) (by decide)
  ·exact (Z.setT b2 (by decide)).setT (by rw [a0T (by omega)];exact b3) (by decide)
 ·have a4:¬ c < 0:=by rw [a0,k1y a1];split <;> omega
  by_cases h1:(a0p (a0s j).natAbs).length=1
  ·have c8:(0:Nat) < (a0p (a0s j).natAbs).length:=by omega
   obtain ⟨d,hd⟩:∃ d,a0p (a0s j).natAbs=[d]:=by
    obtain ⟨d,hd⟩:=List.length_eq_one_iff.1 h1;exact ⟨d,hd⟩
   have a9:(a0s j).natAbs=d:=by rw [<- a0q (a0s j).natAbs,hd];simp [a0y]
   have a7:d < 4294967296:=N.ok d (by rw [hd];simp)
   have a8:0 < d:=by omega
   rw [hd] at N
   have hia:=N.ia (k:=.i64) (j:=0) (by simp)
   have b5:=N.load (j:=0) (by simp) (Ext.refl _)
   simp at hia b5
   simp [v0H,F0r,U,a4,hd,N.slen,hia,b5]
   refine (o0v O F.1 (by omega) a8 a7).mo ?_
   rintro _ G2 ⟨⟨q1,o,rfl,k4,a2,c4⟩,z⟩
   replace b0:=z.bk b0;replace J:=z.bk J;replace b2:=z.bk b2;replace b3:=z.bk b3;replace F:=F.trans z;replace I:=I.mo z;replace M:=M.mo z;replace O:=O.mo z;replace N:=N.mo z
   have c3:a0y (a0p (a0s i).natAbs) % d < 4294967296:=Nat.lt_trans (l1T _ a8) a7
   rw [a0q] at a2 c3 ⊢
   generalize c5:(a0s i).natAbs % d=rm at *
   simp [U]
   refine a0C ?_
   simp [F0s,U,b0,J]
   refine (b0B I (by have:=F.1;omega) (by omega)).mo ?_
   rintro _ G2 ⟨rfl,z⟩
   replace b0:=z.bk b0;replace J:=z.bk J;replace b2:=z.bk b2;replace b3:=z.bk b3;replace F:=F.trans z;replace I:=I.mo z;replace M:=M.mo z;replace O:=O.mo z;replace N:=N.mo z;replace k4:=k4.mo z
   try simp [U,b0,J]
   refine (b0B M (by have:=F.1;omega) (by omega)).mo ?_
   rintro _ G2 ⟨rfl,z⟩
   replace b0:=z.bk b0;replace J:=z.bk J;replace b2:=z.bk b2;replace b3:=z.bk b3;replace F:=F.trans z;replace I:=I.mo z;replace M:=M.mo z;replace O:=O.mo z;replace N:=N.mo z;replace k4:=k4.mo z
   try simp [U]
   refine (c0w ((a0s i).tdiv (a0s j)) k4 (by have:=F.1;omega) (by omega) (by rw [a2,<- e1,a9])).mo ?_
   rintro _ G2 ⟨⟨s1,rfl,L⟩,z⟩
   replace b0:=z.bk b0;replace J:=z.bk J;replace b2:=z.bk b2;replace b3:=z.bk b3;replace F:=F.trans z;replace I:=I.mo z;replace M:=M.mo z;replace O:=O.mo z;replace N:=N.mo z;replace k4:=k4.mo z
   try simp [U,b0,J]
   refine (b0B I (by have:=F.1;omega) (by omega)).mo ?_
   rintro _ G2 ⟨rfl,z⟩
   replace b0:=z.bk b0;replace J:=z.bk J;replace b2:=z.bk b2;replace b3:=z.bk b3;replace F:=F.trans z;replace I:=I.mo z;replace M:=M.mo z;replace O:=O.mo z;replace N:=N.mo z;replace k4:=k4.mo z
   replace L:=L.mo z
   try simp [U]
   generalize a6:G2.push _=G3
   have z:Ext G2 G3:=by rw [<- a6];exact (Ext.refl _).push
   have k5:Lim G3 (.slice (some ⟨G2.size,0,none⟩) 1 1) [rm]:=by
    refine ⟨(Own.mk (fl:=0) (cap:=1) (e:=a0l) (sz:=1) (n:=1) (cs:=c0e [rm]) ?_ (by simp) (l1D _)).sl,fun x F=>by simp at F;omega⟩
    rw [<- a6,a0G];rfl
   replace b0:=z.bk b0;replace J:=z.bk J;replace b2:=z.bk b2;replace b3:=z.bk b3;replace F:=F.trans z;replace I:=I.mo z;replace M:=M.mo z;replace O:=O.mo z;replace N:=N.mo z;replace k4:=k4.mo z
   replace L:=L.mo z
   refine (c0w ((a0s i).tmod (a0s j)) k5 (by have:=F.1;omega) (by simp) (by rw [<- e2,a9,c5];simp [a0y])).mo ?_
   rintro _ G2 ⟨⟨s2,rfl,Z⟩,z⟩
   replace b0:=z.bk b0;replace J:=z.bk J;replace b2:=z.bk b2;replace b3:=z.bk b3;replace F:=F.trans z;replace I:=I.mo z;replace M:=M.mo z;replace O:=O.mo z;replace N:=N.mo z;replace k4:=k4.mo z;replace k5:=k5.mo z
   have hz:=a0k b3
   have a3:=a0k b2
   simp [U,b2,b3,L.cells,L.plain,Z.cells,Z.plain,hz,a3]
   refine fun _=>⟨_,_,⟨rfl,rfl⟩,⟨s1,rfl,?_⟩,⟨s2,rfl,?_⟩⟩
   ·exact ((L.mo z).setT b2 (by decide)).setT (by rw [a0T (by omega)];exact b3) (by decide)
   ·exact (Z.setT b2 (by decide)).setT (by rw [a0T (by omega)];exact b3) (by decide)
  ·have b8:2<=(a0p (a0s j).natAbs).length:=by omega
   have c2:(a0p (a0s j).natAbs).length<=(a0p (a0s i).natAbs).length:=a0X (by omega)
   have b9:¬ ((a0p (a0s j).natAbs).length:Int)=1:=by omega
   simp [v0H,F0t,U,a4,h1,b9,N.slen]
   refine (m0L O N F.1 (by omega) b8 c2 (m0q (by omega))).mo ?_
   rintro _ G2 ⟨⟨q1,o,q2,o2,rfl,k4,a2,c4,k5,a5,c7⟩,z⟩
   replace b0:=z.bk b0;replace J:=z.bk J;replace b2:=z.bk b2;replace b3:=z.bk b3;replace F:=F.trans z;replace I:=I.mo z;replace M:=M.mo z
   rw [a0q,a0q] at a2 a5
   simp [U]
   refine a0C ?_
   simp [y0b,U,b0,J]
   refine (b0B I (by have:=F.1;omega) (by omega)).mo ?_
   rintro _ G2 ⟨rfl,z⟩
   replace b0:=z.bk b0;replace J:=z.bk J;replace b2:=z.bk b2;replace b3:=z.bk b3;replace F:=F.trans z;replace I:=I.mo z;replace M:=M.mo z;replace k4:=k4.mo z;replace k5:=k5.mo z
   try simp [U,b0,J]
   refine (b0B M (by have:=F.1;omega) (by omega)).mo ?_
   rintro _ G2 ⟨rfl,z⟩
   replace b0:=z.bk b0;replace J:=z.bk J;replace b2:=z.bk b2;replace b3:=z.bk b3;replace F:=F.trans z;replace I:=I.mo z;replace k4:=k4.mo z;replace k5:=k5.mo z
   try simp [U]
   refine (c0w ((a0s i).tdiv (a0s j)) k4 (by have:=F.1;omega) (by omega) (by rw [a2,<- e1])).mo ?_
   rintro _ G2 ⟨⟨s1,rfl,L⟩,z⟩
   replace b0:=z.bk b0;replace J:=z.bk J;replace b2:=z.bk b2;replace b3:=z.bk b3;replace F:=F.trans z;replace I:=I.mo z;replace k5:=k5.mo z
   try simp [U,b0,J]
   refine (b0B I (by have:=F.1;omega) (by omega)).mo ?_
   rintro _ G2 ⟨rfl,z⟩
   replace b2:=z.bk b2;replace b3:=z.bk b3;replace F:=F.trans z;replace k5:=k5.mo z
   replace L:=L.mo z
   try simp [U]
   refine (c0w ((a0s i).tmod (a0s j)) k5 (by have:=F.1;omega) (by omega) (by rw [a5,<- e2])).mo ?_
   rintro _ G2 ⟨⟨s2,rfl,Z⟩,z⟩
   replace b2:=z.bk b2;replace b3:=z.bk b3;replace F:=F.trans z
   have hz:=a0k b3
   have a3:=a0k b2
   simp [U,b2,b3,L.cells,L.plain,Z.cells,Z.plain,hz,a3]
   refine fun _=>⟨_,_,⟨rfl,rfl⟩,⟨s1,rfl,?_⟩,⟨s2,rfl,?_⟩⟩
   ·exact ((L.mo z).setT b2 (by decide)).setT (by rw [a0T (by omega)];exact b3) (by decide)
   ·exact (Z.setT b2 (by decide)).setT (by rw [a0T (by omega)];exact b3) (by decide)
end
section
abbrev Log:=List (List Nat × List Nat)
def WRL (E:Env) (fl:Nat):List a0J->b0c->a0f->Log->(b0c->a0f->Log->Prop)->Prop
 | [],t,H,lg,Z=>Z t H lg
 | o :: r,t,H,lg,Z=>if b0k t o.g then WS E fl t H o.op (fun v H'=>WRL E fl r (put t o.dst v) H' (d0m t o.op :: lg) Z) (fun _=>False) else WRL E fl r (put t o.dst undef) H (([],[]) :: lg) Z
variable {E:Env} {fl:Nat} {t:b0c} {H:a0f} {Q:e0c} {R:a0D}
theorem q0g (bef:List Nat) (pairs:List (Nat × Nat)) {Z:b0c->a0f->Prop}:∀ (ops:List a0J) (i:Nat) (t:b0c) (H:a0f) (c:Log),
  WRL E fl ops t H c (fun t' H' lg=>d0a lg.reverse pairs=true/\Z t' H')->∃ n t' H',b0V (b0q E n) fl bef pairs i ops t H none c=.fin .normal t' H'/\Z t' H'
 | [],i,t,H,c,h=>⟨0,t,H,by simp only [b0V];rw [k1B h.1],h.2⟩
 | o :: r,i,t,H,c,h=>by
  simp only [WRL] at h
  split at h
  ·rename_i q
   obtain ⟨n,e⟩:=A0S h
   cases hs:b0E (b0q E n) fl t H o.op with
   | bad=>rw [hs] at e;exact k1Q e id
   | pan v=>rw [hs] at e;exact k1Q e id
   | ok rr =>
    obtain ⟨v,H'⟩:=rr
    rw [hs] at e
    obtain ⟨m,u,k,j,s⟩:=q0g bef pairs r (i + 1) _ _ _ e
    refine ⟨max n m,u,k,?_,s⟩
    have x:=g0c (a0P E n (max n m) (by omega)) (k1x fl) (t:=t) (H:=H) (so:=o.op) (by rw [hs];simp)
    have y:=d0q (a0P E m (max n m) (by omega)) (k1x fl) bef pairs r (i + 1) (put t o.dst v) H' none (d0m t o.op :: c) (by rw [j];simp)
    simp only [b0V,h0r,k1W,l1y,q,l1o,x,hs,y];exact j
  ·rename_i q
   obtain ⟨m,u,k,j,s⟩:=q0g bef pairs r (i + 1) _ _ _ h
   exact ⟨m,u,k,by simp only [b0V,h0r,k1W,l1y,q];exact j,s⟩
theorem c0R {ops:List a0J} {bef:List Nat} {pairs:List (Nat × Nat)} (h:WRL E fl ops t H [] (fun t' H' lg=>d0a lg.reverse pairs=true/\Q .normal t' H')):W E fl (.draw ops bef pairs) t H Q R:=by
 obtain ⟨n,t',H',c,j⟩:=q0g bef pairs ops 0 t H [] h
 refine ⟨n + 1,?_⟩
 have e:=d0q (a0P E n (n+1) (by omega)) (k1x fl) bef pairs ops 0 t H none [] (by rw [c];simp)
 simp only [b0h,e,c];exact j
section
variable {Z:b0c->a0f->Log->Prop} {lg:Log} {d:Option Nat} {op:SOp} {r:List a0J}
@[simp ↓] theorem f1w:WRL E fl [] t H lg Z=Z t H lg:=nr rfl
@[simp ↓] theorem w0M:WRL E fl (⟨d,none,op⟩ :: r) t H lg Z=WS E fl t H op (fun v H'=>WRL E fl r (put t d v) H' (d0m t op :: lg) Z) (fun _=>False):=by simp [WRL,b0k]
@[simp ↓] theorem i1z {j:Nat} {w:Bool}:WRL E fl (⟨d,some (j,w),op⟩ :: r) t H lg Z=if A0t w (get t j)=true then WS E fl t H op (fun v H'=>WRL E fl r (put t d v) H' (d0m t op :: lg) Z) (fun _=>False) else WRL E fl r (put t d undef) H (([],[]) :: lg) Z:=by
 have h:b0k t (some (j,w))=A0t w (get t j):=by
  simp only [b0k]
  generalize get t j=v
  cases v <;> rfl
 show (if b0k t (some (j,w))=true then _ else _)=_
 rw [h]
theorem A0O {t t':b0c} {ops:List a0J} {lg:Log} (h:t=t'):WRL E fl ops t H lg Z=WRL E fl ops t' H lg Z:=by rw [h]
attribute [congr] A0O
@[simp] theorem a1p {p:Addr}:blkOf (.pointer (some p))=[p.block]:=nr rfl
@[simp] theorem d1v {p:Addr} {n c:Nat}:blkOf (.slice (some p) n c)=[p.block]:=nr rfl
@[simp] theorem Y0Q {n c:Nat}:blkOf (.slice none n c)=[]:=nr rfl
@[simp] theorem g1m {p:Addr} {n c:Nat}:blkW (.slice (some p) n c)=if n=0/\c=0 then [] else [p.block]:=nr rfl
@[simp] theorem a1q {n c:Nat}:blkW (.slice none n c)=[]:=nr rfl
attribute [simp] d0m d0a s0Y
end
end
section
variable {fl:Nat} {H:a0f} {R:a0D} {v w:Value} {i j:Bool × List Nat}
theorem new2 {G:a0f} {z1 z2 r1 r2:Blk}:Ext G (Array.setIfInBounds (Array.setIfInBounds (Array.push (Array.push G z1) z2) G.size r1) (G.size + 1) r2) /\
  a0f.bk (Array.setIfInBounds (Array.setIfInBounds (Array.push (Array.push G z1) z2) G.size r1) (G.size + 1) r2) G.size=r1 /\
  a0f.bk (Array.setIfInBounds (Array.setIfInBounds (Array.push (Array.push G z1) z2) G.size r1) (G.size + 1) r2) (G.size + 1)=r2:=by
 refine ⟨(((Ext.refl G).push.push).set (by omega)).set (by omega),?_,?_⟩
 ·rw [a0T (by omega),a0A (by simp)]
 ·rw [a0A (by simp)]
theorem a0u (n:Nat):(a0g (n:Int))=(false,a0p n):=by unfold a0g;simp
theorem f0x (h:b0g H v i) (k:b0g H w j) (hf:fl<=H.size) (hn:i.2.length < 536870912) (hm:j.2.length < 536870912) :
  a0O env fl s0B [v,w] H (fun r H'=>b0g H' r (a0g (Int.gcd (a0s i) (a0s j)))/\Ext H H') R:=by
 have F:=h
 have I:=k
 obtain ⟨s,rfl,hs⟩:=h
 obtain ⟨u,rfl,hu⟩:=k
 refine a0i g1O hf (h:=?_)
 intro ρ h0
 simp [M0Q,F0d,h0]
 generalize hG:((H.push _).push _).push _=G
 have z:Ext H G:=by rw [<- hG];exact (Ext.refl H).push.push.push
 have b0:a0f.bk G H.size=.row false a0a [.bool i.1,s]:=by rw [<- hG];simp
 have M:a0f.bk G (H.size + 1)=.row false a0a [.bool j.1,u]:=by rw [<- hG];simp
 have b2:a0f.bk G (H.size + 2)=.row false a0a [.bool false,.slice none 0 0]:=by rw [<- hG];simp
 have hz:H.size + 2 < G.size:=a0k b2
 clear hG
 replace F:=F.mo z
 replace I:=I.mo z
 have l1:=a0x F.ok
 have l2:=a0x I.ok
 refine a0C ?_
 simp [F0e,h0,b0,M]
 refine (b0R F (by omega) (by omega)).mo ?_
 rintro x O ⟨J,e⟩
 replace b0:=e.bk b0;replace M:=e.bk M;replace b2:=e.bk b2;replace z:=z.trans e;replace F:=F.mo e;replace I:=I.mo e
 try simp [h0]
 refine (c0w (((a0s i).natAbs:Nat):Int) J (by have:=z.1;omega) (by omega) (by simp [a0q])).mo ?_
 rintro x O ⟨J,e⟩
 replace b0:=e.bk b0;replace M:=e.bk M;replace b2:=e.bk b2;replace z:=z.trans e;replace F:=F.mo e;replace I:=I.mo e
 try simp [h0,M]
 refine (b0R I (by have:=z.1;omega) (by omega)).mo ?_
 rintro y O ⟨N,e⟩
 replace b0:=e.bk b0;replace M:=e.bk M;replace b2:=e.bk b2;replace z:=z.trans e;replace F:=F.mo e;replace I:=I.mo e;replace J:=J.mo e
 try simp [h0]
 refine (c0w (((a0s j).natAbs:Nat):Int) N (by have:=z.1;omega) (by omega) (by simp [a0q])).mo ?_
 rintro y O ⟨N,e⟩
 replace b0:=e.bk b0;replace M:=e.bk M;replace b2:=e.bk b2;replace z:=z.trans e;replace F:=F.mo e;replace I:=I.mo e;replace J:=J.mo e
 obtain ⟨s2,c0,J⟩:=J
 obtain ⟨s3,c1,N⟩:=N
 have hsz:=z.1
 have U:H.size<=O.size + 1:=by omega
 have c2:=a0k b2
 simp [h0,U,c0,c1,J.cells,N.cells,J.plain,N.plain,hsz]
 rw [a0u] at J N
 obtain ⟨e,b3,L⟩:=new2 (G:=O) (z1:=.row false a0a [.bool false,.slice none 0 0]) (z2:=.row false a0a [.bool false,.slice none 0 0]) (r1:=.row false a0a [.bool false,s2]) (r2:=.row false a0a [.bool false,s3])
 replace J:=J.mo e
 replace N:=N.mo e
 replace b2:=e.bk b2
 replace z:=z.trans e
 simp only [a0u]
 generalize Array.setIfInBounds _ _ _=G3 at *
 generalize hP:O.size=P at *
 refine b0U (fun c t G=>∃ (a b:Nat) (s5 s6:Value),c=b/\t.length=30/\get t 4=.pointer (some ⟨H.size + 2,0,none⟩)/\get t 5=.pointer (some ⟨P,0,none⟩)/\get t 6=.pointer (some ⟨P + 1,0,none⟩) /\
   Ext H G/\a0f.bk G (H.size + 2)=.row false a0a [.bool false,.slice none 0 0]/\a0f.bk G P=.row false a0a [.bool false,s5]/\a0f.bk G (P + 1)=.row false a0a [.bool false,s6]/\Lim G s5 (a0p a)/\Lim G s6 (a0p b) /\
   (a0p a).length < 536870912/\(a0p b).length < 536870912/\Nat.gcd a b=Int.gcd (a0s i) (a0s j))
  (fun t G=>∃ (a:Nat) (s5:Value),t.length=30/\get t 4=.pointer (some ⟨H.size + 2,0,none⟩)/\get t 5=.pointer (some ⟨P,0,none⟩) /\
   Ext H G/\a0f.bk G (H.size + 2)=.row false a0a [.bool false,.slice none 0 0]/\a0f.bk G P=.row false a0a [.bool false,s5]/\Lim G s5 (a0p a)/\a=Int.gcd (a0s i) (a0s j)) (a0s j).natAbs ?_ ?_ ?_
 ·exact ⟨(a0s i).natAbs,(a0s j).natAbs,s2,s3,rfl,by simp,by simp,by simp,by simp,z,b2,b3,L,J,N,by omega,by omega,rfl⟩
 ·clear h0 ρ F I J N b0 M b2 z
  rintro c t G ⟨a,b,s5,s6,rfl,ht,g4,g5,g6,z,b2,b3,L,k5,Z,la,lb,hg⟩
  obtain ⟨ρ,rfl⟩:=toT ht
  simp only [b0T,Nat.reduceLT] at g4 g5 g6
  by_cases hb:c=0
  ·subst hb
   rw [a0Y] at Z
   simp [v0G,g4,g5,g6,b2,b3,L,Z.slen]
   rw [Nat.gcd_zero_right] at hg
   exact ⟨z,by rw [<- hg];exact k5⟩
  ·have b8:0 < (a0p c).length:=n1v.2 (by rw [Ne,b0N];exact hb)
   have a3:(0:Int) < ((a0p c).length:Int):=by omega
   have a9:a0p c ≠ []:=by rw [Ne,b0N];exact hb
   simp [v0G,F0f,g4,g5,g6,b2,b3,L,Z.slen,b8,a3,a9]
   have F:b0g G (.agg #[.bool false,s5]) (a0g (a:Int)):=⟨s5,by rw [a0u],by rw [a0u];exact k5⟩
   have I:b0g G (.agg #[.bool false,s6]) (a0g (c:Int)):=⟨s6,by rw [a0u],by rw [a0u];exact Z⟩
   refine (b0Z F I z.1 (by rw [a0u];exact la) (by rw [a0u];exact lb) (by rw [a0h];omega)).mo ?_
   rintro _ O ⟨⟨q,m,rfl,k7,k8⟩,e⟩
   replace b2:=e.bk b2;replace b3:=e.bk b3;replace L:=e.bk L;replace z:=z.trans e;replace F:=F.mo e;replace I:=I.mo e;replace k5:=k5.mo e;replace Z:=Z.mo e
   rw [a0h,a0h] at k7 k8
   have a6:((a:Int).tmod (c:Int))=((a % c:Nat):Int):=by rw [Int.tmod_eq_emod_of_nonneg (by omega)];rfl
   rw [a6,a0u] at k8
   obtain ⟨s7,rfl,k7⟩:=k7
   obtain ⟨s8,rfl,k8⟩:=k8
   have hsz:=z.1
   have U:H.size<=O.size + 1:=by omega
   have c3:=a0k L
   simp [g4,g5,g6,b3,L,k7.cells,k8.cells,k7.plain,k8.plain,hsz,U]
   obtain ⟨e,b5,b6⟩:=new2 (G:=O) (z1:=.row false a0a [.bool false,.slice none 0 0]) (z2:=.row false a0a [.bool false,.slice none 0 0]) (r1:=.row false a0a [.bool (a0g (↑a / ↑c)).1,s7]) (r2:=.row false a0a [.bool false,s8])
   replace b2:=e.bk b2;replace b3:=e.bk b3;replace L:=e.bk L;replace z:=z.trans e;replace F:=F.mo e;replace I:=I.mo e;replace k5:=k5.mo e;replace Z:=Z.mo e;replace k8:=k8.mo e
   generalize Array.setIfInBounds (Array.setIfInBounds _ _ _) _ _=G3 at *
   have a1:=a0k b3
   have a4:=a0k L
   have a2:H.size<=P:=by omega
   have a0:H.size<=P + 1:=by omega
   have b9:P + 1 ≠ P:=by omega
   have a7:P ≠ O.size + 1:=by omega
   have a8:O.size + 1 ≠ P:=by omega
   refine c0R ?_
   simp [F0g,g4,g5,g6,L,b6,b3,Z.cells,k8.cells,Z.plain,k8.plain,a2,a0,b9,a7,a8]
   have a5:a % c < c:=l1T _ (by omega)
   refine ⟨a % c,a5,(z.set a2).set a0,by rw [a0T (by omega),a0T (by omega)];exact b2,c,s6,by rw [a0A a1],s8,by rw [a0A (by simpa using a4)],?_,?_,lb,n1C (a0X (n1d a5)) lb,by rw [Nat.gcd_comm,<- Nat.gcd_rec,Nat.gcd_comm,hg]⟩
   ·exact (Z.setT b3 (by decide)).setT (by rw [a0T (by omega)];exact L) (by decide)
   ·exact (k8.setT b3 (by decide)).setT (by rw [a0T (by omega)];exact L) (by decide)
 ·clear h0 ρ F I J N b0 M b2 z
  rintro t G ⟨a,s5,ht,g4,g5,z,b2,b3,k5,hg⟩
  obtain ⟨ρ,rfl⟩:=toT ht
  simp only [b0T,Nat.reduceLT] at g4 g5
  have a1:=a0k b2
  have a4:=a0k b3
  subst hg
  simp [F0h,g4,g5,b2,b3,k5.cells,k5.plain,a1]
  exact fun _=>⟨s5,rfl,k5.setT b2 (by decide)⟩
end
section
def A0G (E:Env) (fl fl':Nat) (f:FuncId) (args:List Value) (H:a0f) (d:Option Nat) (r:List a0J) (t:b0c) (Z:b0c->a0f->Prop) (R:a0D):Prop :=
 a0O E fl' f args H (fun v H'=>WR E fl r (put t d v) H' Z R) R
@[simp ↓ high] theorem d1l {E:Env} {fl:Nat} {t:b0c} {H:a0f} {R:a0D} {d:Option Nat} {r:List a0J} {Z:b0c->a0f->Prop} {f:FuncId} {c:List Opd} {lone:Bool} :
  WS E fl t H (.call f c lone) (fun v H'=>WR E fl r (put t d v) H' Z R) R=A0G E fl (if lone then fl else max fl H.size) f (c.map (ev t)) H d r t Z R:=nr rfl
def A0C (E:Env) (fl fl':Nat) (x:Value) (args:List Value) (H:a0f) (d:Option Nat) (r:List a0J) (t:b0c) (Z:b0c->a0f->Prop) (R:a0D):Prop :=
 match x with
 | .func (.func f) p q=>A0G E fl fl' f (p.toList ++ args ++ q.toList) H d r t Z R
 | _=>False
@[simp ↓ high] theorem Z0W {E:Env} {fl:Nat} {t:b0c} {H:a0f} {R:a0D} {d:Option Nat} {r:List a0J} {Z:b0c->a0f->Prop} {x:Opd} {c:List Opd} {lone:Bool} :
  WS E fl t H (.callv x c lone) (fun v H'=>WR E fl r (put t d v) H' Z R) R=A0C E fl (if lone then fl else max fl H.size) (ev t x) (c.map (ev t)) H d r t Z R:=by
 simp only [WS,opA,A0C];generalize ev t x=y
 cases y <;> try rfl
 rename_i g _ _;cases g <;> rfl
@[simp] theorem Z0G {E:Env} {fl fl':Nat} {t:b0c} {H:a0f} {R:a0D} {d:Option Nat} {r:List a0J} {Z:b0c->a0f->Prop} {f:FuncId} {p q:Array Value} {c:List Value} :
  A0C E fl fl' (.func (.func f) p q) c H d r t Z R=A0G E fl fl' f (p.toList ++ c ++ q.toList) H d r t Z R:=nr rfl
theorem u0e {E:Env} {fl fl' e:Nat} {t t':b0c} {H:a0f} {R:a0D} {d:Option Nat} {r:List a0J} {Z:b0c->a0f->Prop} {f:FuncId} {j c:List Value} (h:j=c) (q:t=t') (k:fl' = e) :
  A0G E fl fl' f j H d r t Z R=A0G E fl e f c H d r t' Z R:=by rw [h,q,k]
attribute [congr] u0e
section
variable {E:Env} {fl:Nat} {t:b0c} {H:a0f} {Z:b0c->a0f->Log->Prop} {lg:Log} {d:Option Nat} {r:List a0J}
def f1r (E:Env) (fl fl':Nat) (f:FuncId) (args:List Value) (H:a0f) (d:Option Nat) (r:List a0J) (t:b0c) (lg:Log) (Z:b0c->a0f->Log->Prop):Prop :=
 a0O E fl' f args H (fun v H'=>WRL E fl r (put t d v) H' lg Z) (fun _=>False)
@[simp ↓ high] theorem d1m {f:FuncId} {c:List Opd} {lone:Bool} :
  WS E fl t H (.call f c lone) (fun v H'=>WRL E fl r (put t d v) H' lg Z) (fun _=>False)=f1r E fl (if lone then fl else max fl H.size) f (c.map (ev t)) H d r t lg Z:=nr rfl
end
section
variable {H G G3:a0f} {q p:Nat} {X r0:Blk} {ro:Bool} {e:TypeId} {cs:List Value}
theorem a0o (c:Array.setIfInBounds G q X=G3) (hb:a0f.bk G p=r0) (h:q ≠ p):a0f.bk G3 p=r0:=by rw [<- c,a0T h];exact hb
theorem a0r (c:Array.setIfInBounds G q X=G3) (hb:a0f.bk G q=.row ro e cs):a0f.bk G3 q=X:=by rw [<- c,a0A (a0k hb)]
theorem a0I (c:Array.setIfInBounds G q X=G3) (e:Ext H G) (h:H.size<=q):Ext H G3:=by rw [<- c];exact e.set h
theorem Lim.setS {v:Value} {l:List Nat} (k:Lim G v l) (h:Array.setIfInBounds G q X=G3) (hb:a0f.bk G q=.row ro e cs) (c:e ≠ a0l):Lim G3 v l:=by rw [<- h];exact k.setT hb c
theorem b0g.setS {v:Value} {i:Bool × List Nat} (k:b0g G v i) (h:Array.setIfInBounds G q X=G3) (hb:a0f.bk G q=.row ro e cs) (c:e ≠ a0l):b0g G3 v i:=by rw [<- h];exact k.setT hb c
theorem new1 {z r:Blk} (c:Array.setIfInBounds (Array.push G z) G.size r=G3):Ext G G3/\a0f.bk G3 G.size=r:=by
 rw [<- c];exact ⟨((Ext.refl G).push).set (by omega),by rw [a0A (by simp)]⟩
theorem g0e {z:Blk} (c:Array.push G z=G3):Ext G G3/\a0f.bk G3 G.size=z:=by
 rw [<- c];exact ⟨(Ext.refl G).push,a0G⟩
end
def lz (z:Int):Nat:=(a0p z.natAbs).length
theorem q0G {z:Int} {k:Nat} (h:z.natAbs < 4294967296 ^ k):lz z<=k:=e0r h
theorem C0g (z:Int):z.natAbs < 4294967296 ^ lz z:=e0E _
theorem m0I {x y:Int} (h:x.natAbs<=y.natAbs):lz x<=lz y:=a0X h
theorem c0h (x y:Int):lz (x * y)<=lz x + lz y:=by
 refine q0G ?_
 rw [m1f,m1w]
 exact Nat.mul_lt_mul'' (C0g x) (C0g y)
theorem h0s (x y:Int):lz (x + y)<=max (lz x) (lz y) + 1:=by
 refine q0G ?_
 have c:=C0g x
 have e:=C0g y
 have h:(4294967296:Nat) ^ lz x<=4294967296 ^ max (lz x) (lz y):=l1P (by omega) (by omega)
 have j:(4294967296:Nat) ^ lz y<=4294967296 ^ max (lz x) (lz y):=l1P (by omega) (by omega)
 have:=Int.natAbs_add_le x y
 rw [k1V]
 omega
theorem f0w (x:Int):lz (-x)=lz x:=by unfold lz;rw [Int.natAbs_neg]
theorem g0O:lz 1=1:=by unfold lz;rw [e0s (by decide),show (1:Int).natAbs / 4294967296=0 from rfl,a0Y];rfl
theorem c0v:lz 0=0:=by unfold lz;rw [show (0:Int).natAbs=0 from rfl,a0Y];rfl
theorem a0j (z:Int):(a0g z).2.length=lz z:=rfl
theorem m0J {i:Bool × List Nat} (h:b0u i.2):lz (a0s i)<=i.2.length:=a0x h
end
section
variable {fl:Nat} {H:a0f} {R:a0D} {v w:Value} {i j:Bool × List Nat}
abbrev b0b:=(Bool × List Nat) × (Bool × List Nat)
def b0L (H:a0f) (v:Value) (a:b0b):Prop:=∃ s u,v=.agg #[.bool a.1.1,s,.bool a.2.1,u]/\Lim H s a.1.2/\Lim H u a.2.2
variable {a b:b0b}
theorem b0L.mo {G:a0f} (h:b0L H v a) (c:Ext H G):b0L G v a:=by obtain ⟨s,u,e,j,k⟩:=h;exact ⟨s,u,e,j.mo c,k.mo c⟩
theorem b0L.setT (h:b0L H v a) {p:Nat} {ro:Bool} {e':TypeId} {e:List Value} {r:Blk} (hb:H.bk p=.row ro e' e) (c:e' ≠ a0l):b0L (H.setIfInBounds p r) v a:=by
 obtain ⟨s,u,j,k,q⟩:=h;exact ⟨s,u,j,k.setT hb c,q.setT hb c⟩
theorem b0L.setS {G3:a0f} {q:Nat} {X:Blk} {ro:Bool} {e:TypeId} {cs:List Value} (k:b0L H v a) (h:Array.setIfInBounds H q X=G3) (hb:a0f.bk H q=.row ro e cs) (c:e ≠ a0l):b0L G3 v a:=by rw [<- h];exact k.setT hb c
def d0J (a:b0b):Nat:=max a.1.2.length a.2.2.length
def d0T (a:b0b):Bool:=!a.1.1 && a.1.2.length == 0 && !a.2.1 && a.2.2.length == 0
def o0b (a:b0b):Bool:=d0T a || (g0n a.1 && g0n a.2 && !a.2.1 && a0s a.2 != 0 && Int.gcd (a0s a.1) (a0s a.2) == 1)
def b0t (a:b0b):Rat:=if d0T a then 0 else if o0b a then Rat.divInt (a0s a.1) (a0s a.2) else 0
def a0e (x:Rat):b0b:=(a0g x.num,a0g x.den)
theorem K0D (a:b0b):d0T a=true <-> a=((false,[]),(false,[])):=by
 obtain ⟨⟨c,e⟩,⟨b2,h⟩⟩:=a
 unfold d0T;cases c <;> cases b2 <;> simp
theorem l0a (j:d0T a=false) (c:o0b a=true):a0e (b0t a)=(a0g (a0s a.1),a0g (a0s a.2)):=by
 unfold b0t
 rw [j,c]
 unfold o0b at c
 rw [j,n1i] at c
 simp only [k1L,m1k,bne_iff_ne,ne_eq,beq_iff_eq] at c
 obtain ⟨⟨⟨⟨v,k⟩,q⟩,e⟩,s⟩:=c
 have x:0 < a0s a.2:=by
  unfold a0s at e ⊢;rw [k,q] at e ⊢;simp at e ⊢;omega
 have h:((a0s a.2).toNat:Int)=a0s a.2:=m1P (by omega)
 have u:Rat.divInt (a0s a.1) (a0s a.2) = ⟨a0s a.1,(a0s a.2).toNat,by omega,by rw [Nat.Coprime,<- s,Int.gcd];congr 1;omega⟩:=by
  rw [Rat.mk_eq_divInt,h]
 simp only [k1W,l1y,l1o]
 rw [u];unfold a0e;simp only [h]
theorem m0m:a0e 0=((false,[]),a0g 1):=by
 show (a0g 0,a0g 1)=_;rw [e0p]
theorem n0Y (x:Rat):d0T (a0e x)=false:=by
 have:=x.den_nz
 unfold d0T a0e
 have h:a0p (x.den:Int).natAbs ≠ []:=by rw [Ne,b0N];omega
 have c:(a0p x.den).length ≠ 0:=by intro e;exact h (k1U.1 e)
 simp [a0g];intro _ _;simpa using c
theorem f0d (x:Rat):o0b (a0e x)=true:=by
 have e:=x.den_nz
 have c:=x.reduced
 unfold o0b
 rw [n0Y,n1i]
 unfold a0e
 simp only [s0W,a0h,k1L,m1k,bne_iff_ne,beq_iff_eq]
 refine ⟨⟨⟨⟨trivial,trivial⟩,by simp [a0g]⟩,by omega⟩,?_⟩
 rw [Int.gcd,Int.natAbs_natCast];exact c
theorem a0w (x:Rat):b0t (a0e x)=x:=by
 unfold b0t
 rw [n0Y,f0d]
 simp only [k1W,l1y,l1o]
 unfold a0e
 rw [a0h,a0h,n1D]
theorem k0c (h:b0L H v a) (q:fl<=H.size):a0O env fl z0o [v] H (fun r H'=>r=.bool (d0T a)/\Ext H H') R:=by
 obtain ⟨s,u,rfl,hs,x⟩:=h
 refine a0i g1C q (h:=?_)
 intro ρ j
 simp [M0E,E0j,j]
 have c:=hs.slen
 have e:=x.slen
 cases h1:a.1.1
 ·by_cases k:a.1.2=[]
  ·cases h3:a.2.1
   ·simp [n0A,j,h1,k,h3,c,e,d0T]
   ·simp [n0A,j,h1,k,h3,c,e,d0T]
  ·simp [n0A,j,h1,k,c,e,d0T]
 ·simp [n0A,j,h1,c,e,d0T]
theorem k0b (h:b0g H v i) (q:fl<=H.size) (u:i.2.length < 536870912):a0O env fl z0q [v] H (fun r H'=>r=.bool (a0s i == 0)/\Ext H H') R:=by
 have y:=h
 obtain ⟨s,rfl,hs⟩:=h
 refine a0i g1M q (h:=?_)
 intro ρ k
 simp [M0O,E0V,E0W,k]
 refine (d0W (y.mo (by simp)) (j:=(false,[])) ⟨_,rfl,Lim.nil⟩ (by simp) u (by simp)).mo ?_
 rintro _ z ⟨rfl,x⟩
 have:a0s (false,[])=0:=by unfold a0s g0n;simp [a0y]
 rw [this]
 simp [c0L]
 intro _
 by_cases c:a0s i < 0
 ·simp [c];omega
 ·by_cases e:0 < a0s i
  ·simp [c,e];omega
  ·simp [c,e];omega
theorem f0E (j:fl<=H.size):a0O env fl u0D [] H (fun r H'=>b0g H' r (a0g 1)/\Ext H H') R:=by
 refine a0i g1u j (h:=?_)
 intro ρ e
 simp [M0w,D0r,D0s,e]
 refine (c0C (by simp) (by omega) (by omega)).mo ?_
 rintro _ q ⟨⟨s,rfl,hs⟩,c⟩
 have b0:=c.bk a0G
 have k:=a0k b0
 simp [b0,hs.cells,hs.plain,k]
 exact fun _=>⟨s,rfl,hs.setT b0 (by decide)⟩
theorem h0L (h:b0L H v a) (hf:fl<=H.size) (hn:d0J a < 536870912):a0O env fl u0C [v] H (fun r H'=>r=.bool (o0b a)/\Ext H H') R:=by
 have U:=h
 have O:a.1.2.length < 536870912:=by unfold d0J at hn;omega
 have J:a.2.2.length < 536870912:=by unfold d0J at hn;omega
 obtain ⟨s,u,rfl,hs,hu⟩:=h
 have q:b0g H (.agg #[.bool a.1.1,s]) a.1:=⟨s,rfl,hs⟩
 have k:b0g H (.agg #[.bool a.2.1,u]) a.2:=⟨u,rfl,hu⟩
 refine a0i g1q hf (h:=?_)
 intro ρ z
 simp [M0s,D0b,z]
 generalize M:H.push _=G
 have c:Ext H G:=by rw [<- M];simp
 have b0:a0f.bk G H.size=.row false a0b [.bool a.1.1,s,.bool a.2.1,u]:=by rw [<- M];simp
 have j:=Ext.refl H
 clear M
 replace j:=j.trans c;replace U:=U.mo c;replace q:=q.mo c;replace k:=k.mo c
 simp [D0c,z,b0]
 refine (k0c U j.1).mo ?_
 rintro _ F ⟨rfl,c⟩
 replace b0:=c.bk b0;replace j:=j.trans c;replace q:=q.mo c;replace k:=k.mo c
 unfold o0b
 cases hz:d0T a
 case true=>simp [D0d]
 simp [D0e,z,b0]
 refine (f0y q j.1 (by omega)).mo ?_
 rintro _ F ⟨rfl,c⟩
 replace b0:=c.bk b0;replace j:=j.trans c;replace q:=q.mo c;replace k:=k.mo c
 cases h1:g0n a.1
 case false=>simp
 simp [z,b0]
 refine (f0y k j.1 (by omega)).mo ?_
 rintro _ F ⟨rfl,c⟩
 replace b0:=c.bk b0;replace j:=j.trans c;replace q:=q.mo c;replace k:=k.mo c
 cases h2:g0n a.2
 case false=>simp
 cases h3:a.2.1
 case true=>simp [z,b0,h3]
 simp [z,b0,h3]
 rw [<- h3]
 refine (k0b k j.1 J).mo ?_
 rintro _ F ⟨rfl,c⟩
 replace b0:=c.bk b0;replace j:=j.trans c;replace q:=q.mo c;replace k:=k.mo c
 by_cases I:a0s a.2=0
 ·simp [I] <;> exact fun _=>h3
 have L:(a0s a.2 == 0)=false:=by simp [I]
 simp [z,b0,I,L,h3]
 rw [<- h3]
 refine (f0x q k j.1 O J).mo ?_
 rintro x F ⟨Z,c⟩
 replace j:=j.trans c;replace k:=k.mo c
 try simp [z]
 refine (f0E j.1).mo ?_
 rintro y F ⟨k4,c⟩
 replace j:=j.trans c;replace k:=k.mo c;replace Z:=Z.mo c
 try simp [z]
 have N:(a0g ((Int.gcd (a0s a.1) (a0s a.2):Nat):Int)).2.length < 536870912:=by
  rw [a0u]
  show (a0p _).length < _
  have h5:Int.gcd (a0s a.1) (a0s a.2)<=(a0s a.2).natAbs:=m1N _ I
  have:=a0X h5
  have:=a0x k.ok
  omega
 refine (d0W Z k4 j.1 N (by rw [a0j,g0O];decide)).mo ?_
 rintro _ F ⟨rfl,c⟩
 rw [a0h,a0h]
 simp
 intro _
 generalize Int.gcd (a0s a.1) (a0s a.2)=g
 have h6:(c0L (g:Int) 1 == 0)=(g == 1):=by
  unfold c0L
  by_cases hg:g=1
  ·subst hg;rfl
  ·have e:(g == 1)=false:=by simp [hg]
   rw [e];split
   ·rfl
   ·rename_i h7;split
    ·rfl
    ·omega
 simp [h3,I,h6]
theorem c0p (h:b0L H v a) (hf:fl<=H.size) (hn:d0J a < 536870912):a0O env fl B0K [v] H (fun r H'=>b0L H' r (a0e (b0t a))/\Ext H H') R:=by
 have I:=h
 have a0:a.1.2.length < 536870912:=by unfold d0J at hn;omega
 have a1:a.2.2.length < 536870912:=by unfold d0J at hn;omega
 obtain ⟨s,u,rfl,hs,hu⟩:=h
 have F:b0g H (.agg #[.bool a.1.1,s]) a.1:=⟨s,rfl,hs⟩
 have x:b0g H (.agg #[.bool a.2.1,u]) a.2:=⟨u,rfl,hu⟩
 refine a0i j1X hf (h:=?_)
 intro ρ y
 simp [f1c,U0C,y]
 generalize U:(H.push _).push _=G
 have c:Ext H G:=by rw [<- U];simp
 have b0:a0f.bk G H.size=.row false a0b [.bool a.1.1,s,.bool a.2.1,u]:=by rw [<- U];simp
 have e:a0f.bk G (H.size + 1)=.row false a0b [.bool false,.slice none 0 0,.bool false,.slice none 0 0]:=by rw [<- U];simp
 have k:=Ext.refl H
 clear U
 replace k:=k.trans c;replace I:=I.mo c;replace F:=F.mo c;replace x:=x.mo c
 simp [U0D,y,b0]
 refine (k0c I k.1).mo ?_
 rintro _ L ⟨rfl,c⟩
 replace b0:=c.bk b0;replace e:=c.bk e;replace k:=k.trans c;replace I:=I.mo c;replace F:=F.mo c;replace x:=x.mo c
 cases hz0:d0T a
 case true =>
  have z:b0t a=0:=by unfold b0t;rw [hz0];rfl
  simp [J0p,y]
  refine (f0E k.1).mo ?_
  rintro _ L ⟨⟨O,rfl,q⟩,c⟩
  replace b0:=c.bk b0;replace e:=c.bk e;replace k:=k.trans c;replace I:=I.mo c;replace F:=F.mo c;replace x:=x.mo c
  have N:=a0k e
  simp [y,e,q.cells,q.plain,N]
  refine fun _=>?_
  rw [z,m0m]
  exact ⟨_,O,rfl,Lim.nil,q.setT e (by decide)⟩
 simp [y,b0]
 refine (h0L I k.1 hn).mo ?_
 rintro _ L ⟨rfl,c⟩
 replace b0:=c.bk b0;replace e:=c.bk e;replace k:=k.trans c;replace F:=F.mo c;replace x:=x.mo c
 cases hm:o0b a
 case false =>
  have z:b0t a=0:=by unfold b0t;rw [hz0,hm];rfl
  simp [J0p,y]
  refine (f0E k.1).mo ?_
  rintro _ L ⟨⟨O,rfl,q⟩,c⟩
  replace b0:=c.bk b0;replace e:=c.bk e;replace k:=k.trans c;replace F:=F.mo c;replace x:=x.mo c
  have N:=a0k e
  simp [y,e,q.cells,q.plain,N]
  refine fun _=>?_
  rw [z,m0m]
  exact ⟨_,O,rfl,Lim.nil,q.setT e (by decide)⟩
 rw [l0a hz0 hm]
 simp [y]
 refine a0C ?_
 simp [U0E,y,b0]
 have M:a0s (false,[])=0:=by unfold a0s g0n;simp [a0y]
 refine (e0G F (j:=(false,[])) ⟨_,rfl,Lim.nil⟩ (by have:=k.1;omega) a0 (by simp)).mo ?_
 rintro _ L ⟨⟨O,rfl,J⟩,c⟩
 replace b0:=c.bk b0;replace e:=c.bk e;replace k:=k.trans c;replace x:=x.mo c
 rw [M,l1O] at J ⊢
 try simp [y,b0]
 refine (e0G x (j:=(false,[])) ⟨_,rfl,Lim.nil⟩ k.1 a1 (by simp)).mo ?_
 rintro _ L ⟨⟨s2,rfl,Z⟩,c⟩
 replace e:=c.bk e;replace k:=k.trans c;replace J:=J.mo c
 rw [M,l1O] at Z ⊢
 have N:=a0k e
 simp [y,e,J.cells,J.plain,Z.cells,Z.plain,N]
 exact fun _=>⟨O,s2,rfl,J.setT e (by decide),Z.setT e (by decide)⟩
end
section
def szR (x:Rat):Nat:=max (lz x.num) (lz x.den)
theorem a0E (x:Rat):d0J (a0e x)=szR x:=rfl
theorem K0x (x:Rat):1<=szR x:=by
 unfold szR
 have:lz x.den ≠ 0:=by
  unfold lz
  intro h
  have:=b0N.1 (k1U.1 h)
  have:=x.den_nz
  omega
 omega
theorem f0H:szR 0=1:=by show max (lz 0) (lz 1)=1;rw [c0v,g0O];rfl
theorem r0S:szR 1=1:=by show max (lz 1) (lz 1)=1;rw [g0O];rfl
theorem n0R (z:Int):szR (z:Rat)=max (lz z) 1:=by
 unfold szR;rw [n1h,n1g];show max (lz z) (lz 1)=_;rw [g0O]
theorem b0S (p q:Int):szR (Rat.divInt p q)<=max (max (lz p) (lz q)) 1:=by
 unfold szR
 rw [Rat.num_divInt,Rat.den_divInt]
 have c:lz (q.sign * p / ↑(q.gcd p))<=lz p:=by
  refine m0I ?_
  rw [Int.natAbs_ediv_of_dvd]
  ·refine k1H (l1J _ _) ?_
   rw [m1f]
   have : q.sign.natAbs <= 1 := by rcases Int.lt_trichotomy q 0 with h | h | h
                                   ·rw [Int.sign_eq_neg_one_of_neg h];decide
                                   ·rw [h];decide
                                   ·rw [Int.sign_eq_one_of_pos h];decide
   calc _<=1 * p.natAbs:=k1E _ this
    _=_:=l1l _
  ·exact Int.dvd_mul_of_dvd_right (n1j ..)
 have e:lz ((if q=0 then 1 else q.natAbs / q.gcd p:Nat):Int)<=max (lz q) 1:=by
  split
  ·show lz 1<=_;rw [g0O];omega
  ·have:lz ((q.natAbs / q.gcd p:Nat):Int)<=lz q:=m0I (by rw [Int.natAbs_natCast];exact l1J _ _)
   omega
 omega
theorem l0j (n:Int) (d:Nat):mkRat n d=Rat.divInt n d:=rfl
theorem k0q (x y:Rat):x + y=Rat.divInt (x.num * y.den + y.num * x.den) (x.den * y.den):=by rw [Rat.add_def',l0j,l1Y]
theorem k0C (x y:Rat):x * y=Rat.divInt (x.num * y.num) (x.den * y.den):=by rw [Rat.mul_def',l0j,l1Y]
theorem o0S (x y:Rat):x / y=Rat.divInt (x.num * y.den) (x.den * y.num):=by
 rw [n1F,Rat.inv_def]
 conv=>lhs;lhs;rw [<- n1D x]
 rw [Rat.divInt_mul_divInt]
theorem r0Q (x y:Rat):szR (x + y)<=szR x + szR y + 1:=by
 rw [k0q]
 refine k1H (b0S _ _) ?_
 have c:=h0s (x.num * y.den) (y.num * x.den)
 have e:=c0h x.num y.den
 have h:=c0h y.num x.den
 have j:=c0h (x.den:Int) y.den
 unfold szR;omega
theorem f0L (x y:Rat):szR (x * y)<=szR x + szR y:=by
 rw [k0C]
 refine k1H (b0S _ _) ?_
 have c:=c0h x.num y.num
 have e:=c0h (x.den:Int) y.den
 have:=K0x x
 unfold szR at *;omega
theorem K0w (x:Rat):szR (-x)=szR x:=by unfold szR;rw [Rat.neg_num,Rat.neg_den,f0w]
theorem Y0F (x y:Rat):szR (x / y)<=szR x + szR y:=by
 rw [o0S]
 refine k1H (b0S _ _) ?_
 have c:=c0h x.num y.den
 have e:=c0h (x.den:Int) y.num
 have:=K0x x
 unfold szR at *;omega
theorem b0W {a:b0b} (j:b0u a.1.2) (k:b0u a.2.2):szR (b0t a)<=max (d0J a) 1:=by
 by_cases c:d0T a=true
 ·have:b0t a=0:=by unfold b0t;rw [c];rfl
  rw [this,f0H];omega
 ·by_cases h:o0b a=true
  ·have q:=l0a (by simpa using c) h
   have e:=a0E (b0t a)
   rw [q] at e
   rw [<- e]
   have:=m0J j
   have:=m0J k
   unfold d0J;simp only [a0j];omega
  ·have:b0t a=0:=by unfold b0t;simp [c,h]
   rw [this,f0H];omega
theorem t0n {p q g:Int} (N:q ≠ 0) (c:g=if q < 0 then -(Int.gcd p q:Int) else (Int.gcd p q:Int)):a0e (Rat.divInt p q)=(a0g (p.tdiv g),a0g (q.tdiv g))/\g ≠ 0:=by
 have v:0 < Int.gcd p q:=Int.gcd_pos_of_ne_zero_right _ N
 have j:g ≠ 0:=by rw [c];split <;> omega
 refine ⟨?_,j⟩
 have s : g ∣ p := by rw [c]; split
                      ·exact Int.neg_dvd.2 (Int.gcd_dvd_left ..)
                      ·exact Int.gcd_dvd_left ..
 have u : g ∣ q := by rw [c]; split
                      ·exact Int.neg_dvd.2 (n1j ..)
                      ·exact n1j ..
 have z:g.natAbs=Int.gcd p q:=by rw [c];split <;> simp
 have F:=Int.tdiv_mul_cancel s
 have e2:=Int.tdiv_mul_cancel u
 have e:Int.gcd (p.tdiv g) (q.tdiv g)=1:=by
  have G:Int.gcd (p.tdiv g * g) (q.tdiv g * g)=Int.gcd (p.tdiv g) (q.tdiv g) * g.natAbs:=Int.gcd_mul_right ..
  rw [F,e2,z] at G
  have J:1 * Int.gcd p q=Int.gcd (p.tdiv g) (q.tdiv g) * Int.gcd p q:=by rw [l1l];exact G
  exact (Nat.eq_of_mul_eq_mul_right v J).symm
 have I:0 < q.tdiv g:=by
  by_cases k:q < 0
  ·have:g < 0:=by rw [c,k1B k];omega
   by_cases h:0 < q.tdiv g
   ·exact h
   ·have:=Int.mul_nonneg_of_nonpos_of_nonpos (a:=q.tdiv g) (b:=g) (by omega) (by omega);omega
  ·have:0 < g:=by rw [c,k1y k];omega
   by_cases h:0 < q.tdiv g
   ·exact h
   ·have:=l1C (a:=q.tdiv g) (b:=g) (by omega) (by omega);omega
 have L:Rat.divInt p q=Rat.divInt (p.tdiv g) (q.tdiv g):=by
  have h:=Rat.divInt_mul_right (n:=p.tdiv g) (d:=q.tdiv g) j
  rw [F,e2] at h;exact h
 generalize p.tdiv g=x at *
 generalize q.tdiv g=y at *
 have H:((y.toNat:Nat):Int)=y:=m1P (by omega)
 have M:Rat.divInt x y = ⟨x,y.toNat,by omega,by rw [Nat.Coprime,<- e,Int.gcd];congr 1;omega⟩:=by
  rw [Rat.mk_eq_divInt,H]
 rw [L,M];unfold a0e;simp only [H]
def Y0U (x y:Rat):Int:=if x < y then -1 else if y < x then 1 else 0
theorem W0F (x y:Rat):c0L (x.num * y.den) (y.num * x.den)=Y0U x y:=by
 unfold c0L Y0U
 simp only [Rat.lt_iff,gt_iff_lt]
theorem u0s {x y:Rat}:0 < Y0U x y <-> y < x:=by
 unfold Y0U;split
 ·rename_i h;simp;exact Rat.not_lt.2 (n1I h)
 ·split <;> simp_all
