/- Part 8 of the proof. -/
import Derived.Test.YtgopfcmbofkmmaaGreatM06
set_option linter.unusedVariables false
set_option linter.unusedSimpArgs false
set_option linter.unusedSectionVars false
set_option maxHeartbeats 4000000
namespace Go.Proofs.YtgopfcmbofkmmaaGreat.AI
open Go
section
variable {fl:Nat} {H:a0c} {R:a0P} {v w:Value} {a b:List Nat}
theorem Lim.ok {l:List Nat} (h:Lim H v l):b0g l:=h.2
theorem a0H {l:List Nat} {n:Nat} (h:n < l.length):a0q (l.take (n + 1))=a0q (l.take n) + 4294967296 ^ n * l.getD n 0:=by
 rw [d0J h,c0a,N1Z,N1J (by omega)]
theorem p0o (ha:Lim H v a) (hb:Lim H w b) (hf:fl<=H.size) (a8:a.length < 1073741824) (a9:b.length < 1073741824) :
  b0k env fl y0Q [v,w] H (fun r H'=>(∃ o,Lim H' r o/\a0q o=a0q a + a0q b/\o.length=max a.length b.length + 1)/\Ext H H') R:=by
 refine a0i I1A hf (h:=?_)
 intro ρ h0
 simp only [R0N]
 refine i0G (m0d ?_)
 simp [-u0X,D0x,h0]
 refine i0G (u1S (fun t G=>G=H/\t.length=55/\∃ v w q M,get t 0=v/\get t 1=w/\Lim H v q/\Lim H w M/\M.length<=q.length/\q.length=max a.length b.length/\a0q q + a0q M = a0q a + a0q b) ?_ ?_)
 ·simp [D0y,D0z,h0,ha.slen,hb.slen]
  exact ⟨fun h=>⟨b,hb,a,ha,by omega,by omega,by omega⟩,fun h=>⟨a,ha,b,hb,by omega,by omega,by omega⟩⟩
 clear h0 ρ
 rintro t G ⟨rfl,ht,v,w,q,M,g0,L,O,Q,a7,Z,a0⟩
 obtain ⟨ρ,rfl⟩:=toT ht
 simp only [b0H,Nat.reduceLT] at g0 L
 have b0:q.length < 1073741824:=by omega
 rw [<- Z,<- a0]
 clear ha hb a8 a9 Z a0 a b
 have w1:IntKind.i64.wrap ((q.length:Int) + 1)=(q.length:Int) + 1:=b0d (by omega) (by omega)
 have hm:=G1p (bytes:=4) (k:=.i64) (k':=.i64) (l:=0) (c:=(q.length:Int) + 1) (by omega) (by omega) (by omega) (by omega)
 simp [D0A,D0B,D0C,g0,L,O.slen,w1,hm]
 refine b0X (fun k t G'=>∃ i c out s,i + k=q.length/\t.length=55/\get t 1=w/\get t 5=s/\get t 6=.int .u64 ((c:Nat):Int)/\get t 20=v/\get t 21=.int .i64 q.length/\get t 22=.int .i64 ((i:Nat):Int) /\
   Ext G G'/\Own G.size G' a0b 1 s i (b0C out)/\b0g out/\out.length=i/\c<=1/\a0q out + 4294967296 ^ i * c=a0q (q.take i) + a0q (M.take i))
  (fun t G'=>∃ c out s,t.length=55/\get t 5=s/\get t 6=.int .u64 ((c:Nat):Int) /\
   Ext G G'/\Own G.size G' a0b 1 s q.length (b0C out)/\b0g out/\out.length=q.length/\c<=1/\a0q out + 4294967296 ^ q.length * c=a0q q + a0q M) q.length ?_ ?_ ?_
 ·exact ⟨0,0,[],.slice (some ⟨G.size,0,none⟩) 0 (q.length + 1),by omega,by simp,by simp [L],by simp,by simp,by simp,by simp,by simp,by simp,
   Own.mk (by simp [b0C]) rfl (M1U _),by intro x j;simp at j,rfl,by omega,by simp [a0q]⟩
 ·clear g0 L hm w1 ht ρ
  rintro k t G' ⟨i,c,out,s,b1,ht,L,U,Y,F,I,J,j,ho,S,y,hc,hs⟩
  obtain ⟨ρ,rfl⟩:=toT ht
  simp only [b0H,Nat.reduceLT] at L U Y F I J
  by_cases hi:i < q.length
  ·have a4:=O.load hi j
   have a1:=a0H hi
   have a6:q.getD i 0 < 4294967296:=O.2 _ (by rw [M1R,M1X hi];exact N1j hi)
   generalize q.getD i 0=A at a4 a1 a6
   have e1:IntKind.u64.wrap ((c:Int) + IntKind.u64.wrap (A:Int))=((c + A:Nat):Int):=by rw [a0x,a0x];omega
   have e9:IntKind.i64.wrap ((i:Int) + 1)=((i + 1:Nat):Int):=by rw [b0d (by omega) (by omega)];omega
   by_cases z:i < M.length
   ·have a5:=Q.load z j
    have N:=a0H z
    have a2:M.getD i 0 < 4294967296:=Q.2 _ (by rw [M1R,M1X z];exact N1j z)
    generalize M.getD i 0=B at a5 N a2
    have e2:IntKind.u64.wrap (((c + A:Nat):Int) + IntKind.u64.wrap (B:Int))=((c + A + B:Nat):Int):=by rw [a0x,a0x];omega
    simp [-Int.natCast_add,p0Z,u0v,u0w,u0x,p0V,p0W,p0X,p0Y,L,U,Y,F,I,J,hi,O.ia hi,a4,Q.slen,e1,z,Q.ia z,a5,e2]
    generalize a3:c + A + B=c2
    refine (a0h j.1).mo ?_
    rintro _ G2 ⟨rfl,u⟩
    obtain ⟨s',G3,h1,h2,h3,h4⟩:=e0c (e2:=a0b) (new:=[.int .u32 ((c2 % 4294967296:Nat):Int)]) (c:=1) (bytes:=4) (ho.mo u) rfl rfl (by omega) (by omega) (by omega) (by have:=j.1;have:=u.1;omega)
    simp [-Int.natCast_emod,-Int.natCast_add,h1,L,U,Y,F,I,J,e9]
    refine ⟨k - 1,by omega,i + 1,by omega,c2 / 4294967296,rfl,rfl,h4 _ (M1U _) (j.trans u),out ++ [c2 % 4294967296],by simpa [b0C] using h2,?_,by simp [y],by omega,?_⟩
    ·intro x j
     rcases N1B.1 j with j | j
     ·exact S x j
     ·simp at j;omega
    ·rw [c0a,y,a1,N,N1m]
     have e3:4294967296 ^ i * 4294967296 * (c2 / 4294967296)=4294967296 ^ i * (4294967296 * (c2 / 4294967296)):=N1h ..
     have e4:4294967296 ^ i * (c2 % 4294967296) + 4294967296 ^ i * (4294967296 * (c2 / 4294967296))=4294967296 ^ i * c2:=by rw [<- N1a,Nat.mod_add_div]
     have e5:4294967296 ^ i * c2=4294967296 ^ i * c + 4294967296 ^ i * A + 4294967296 ^ i * B:=by rw [<- a3,N1a,N1a]
     omega
   ·have N:a0q (M.take (i + 1))=a0q (M.take i) + 4294967296 ^ i * 0:=by rw [N1c (by omega),N1c (by omega)];simp
    have a2:(0:Nat) < 4294967296:=by omega
    have e2:c + A=c + A + 0:=rfl
    rw [e2] at e1
    generalize (0:Nat)=B at N a2 e1
    simp [-Int.natCast_add,p0Z,u0v,u0w,u0x,p0V,p0W,p0X,p0Y,L,U,Y,F,I,J,hi,O.ia hi,a4,Q.slen,e1,z]
    generalize a3:c + A + B=c2
    refine (a0h j.1).mo ?_
    rintro _ G2 ⟨rfl,u⟩
    obtain ⟨s',G3,h1,h2,h3,h4⟩:=e0c (e2:=a0b) (new:=[.int .u32 ((c2 % 4294967296:Nat):Int)]) (c:=1) (bytes:=4) (ho.mo u) rfl rfl (by omega) (by omega) (by omega) (by have:=j.1;have:=u.1;omega)
    simp [-Int.natCast_emod,-Int.natCast_add,h1,L,U,Y,F,I,J,e9]
    refine ⟨k - 1,by omega,i + 1,by omega,c2 / 4294967296,rfl,rfl,h4 _ (M1U _) (j.trans u),out ++ [c2 % 4294967296],by simpa [b0C] using h2,?_,by simp [y],by omega,?_⟩
    ·intro x j
     rcases N1B.1 j with j | j
     ·exact S x j
     ·simp at j;omega
    ·rw [c0a,y,a1,N,N1m]
     have e3:4294967296 ^ i * 4294967296 * (c2 / 4294967296)=4294967296 ^ i * (4294967296 * (c2 / 4294967296)):=N1h ..
     have e4:4294967296 ^ i * (c2 % 4294967296) + 4294967296 ^ i * (4294967296 * (c2 / 4294967296))=4294967296 ^ i * c2:=by rw [<- N1a,Nat.mod_add_div]
     have e5:4294967296 ^ i * c2=4294967296 ^ i * c + 4294967296 ^ i * A + 4294967296 ^ i * B:=by rw [<- a3,N1a,N1a]
     omega
  ·simp [p0Z,L,U,Y,F,I,J,hi]
   have:i=q.length:=by omega
   subst this
   refine ⟨c,rfl,j,out,ho,S,y,hc,?_⟩
   rw [hs,N1c (M1U _),N1c a7]
 ·clear g0 L hm w1 ht ρ
  rintro t G' ⟨c,out,s,ht,U,Y,j,ho,S,y,hc,hs⟩
  obtain ⟨ρ,rfl⟩:=toT ht
  simp only [b0H,Nat.reduceLT] at U Y
  simp [w0c,U,Y]
  refine (a0h j.1).mo ?_
  rintro _ G2 ⟨rfl,u⟩
  obtain ⟨s',G3,h1,h2,h3,h4⟩:=e0c (e2:=a0b) (new:=[.int .u32 ((c % 4294967296:Nat):Int)]) (c:=1) (bytes:=4) (ho.mo u) rfl rfl (by omega) (by omega) (by omega) (by have:=j.1;have:=u.1;omega)
  simp [-Int.natCast_emod,-Int.natCast_add,h1]
  refine fun _=>⟨out ++ [c % 4294967296],⟨by simpa [y,b0C] using h2.sl,?_⟩,?_,by simp [y]⟩
  ·intro x j
   rcases N1B.1 j with j | j
   ·exact S x j
   ·simp at j;omega
  ·rw [c0a,y,N1o (by omega)];exact hs
theorem j0a (ha:Lim H v a) (hb:Lim H w b) (hf:fl<=H.size) (a6:a.length < 1073741824) (a2:b.length<=a.length) (a3:a0q b<=a0q a) :
  b0k env fl w0W [v,w] H (fun r H'=>(∃ o,Lim H' r o/\a0q o=a0q a - a0q b/\o.length=a.length)/\Ext H H') R:=by
 refine a0i I1B hf (h:=?_)
 intro ρ Z
 simp only [R0O]
 have hm:=G1p (bytes:=4) (k:=.i64) (k':=.i64) (l:=0) (c:=(a.length:Int)) (by omega) (by omega) (by omega) (by omega)
 simp [D0D,D0E,D0F,D0G,Z,ha.slen,hm]
 refine b0X (fun k t M=>∃ i c out s,i + k=a.length/\t.length=46/\get t 1=w/\get t 5=s/\get t 6=.int .u64 ((c:Nat):Int)/\get t 14=v/\get t 15=.int .i64 a.length/\get t 16=.int .i64 ((i:Nat):Int) /\
   Ext H M/\Own H.size M a0b 1 s i (b0C out)/\b0g out/\out.length=i/\c<=1/\a0q out + a0q (b.take i)=a0q (a.take i) + 4294967296 ^ i * c)
  (fun t M=>∃ c out s,t.length=46/\get t 5=s /\
   Ext H M/\Own H.size M a0b 1 s a.length (b0C out)/\b0g out/\out.length=a.length/\c<=1/\a0q out + a0q b=a0q a + 4294967296 ^ a.length * c) a.length ?_ ?_ ?_
 ·exact ⟨0,0,[],.slice (some ⟨H.size,0,none⟩) 0 a.length,by omega,by simp,by simp [Z],by simp,by simp,by simp [Z],by simp,by simp,by simp,
   Own.mk (by simp [b0C]) rfl (M1U _),by intro x j;simp at j,rfl,by omega,by simp [a0q]⟩
 ·clear hm Z ρ
  rintro k t M ⟨i,c,out,s,a5,ht,U,L,Y,z,F,G,j,ho,I,q,hc,hs⟩
  obtain ⟨ρ,rfl⟩:=toT ht
  simp only [b0H,Nat.reduceLT] at U L Y z F G
  by_cases hi:i < a.length
  ·have Q:=ha.load hi j
   have N:=a0H hi
   have a1:a.getD i 0 < 4294967296:=ha.2 _ (by rw [M1R,M1X hi];exact N1j hi)
   generalize a.getD i 0=A at Q N a1
   have e9:IntKind.i64.wrap ((i:Int) + 1)=((i + 1:Nat):Int):=by rw [b0d (by omega) (by omega)];omega
   by_cases u:i < b.length
   ·have a0:=hb.load u j
    have J:=a0H u
    have O:b.getD i 0 < 4294967296:=hb.2 _ (by rw [M1R,M1X u];exact N1j u)
    generalize b.getD i 0=B at a0 J O
    have e2:IntKind.u64.wrap ((c:Int) + IntKind.u64.wrap (B:Int))=((c + B:Nat):Int):=by rw [a0x,a0x];omega
    have S:IntKind.u64.wrap (IntKind.u64.wrap (A:Int) - ((c + B:Nat):Int))=(((A + 18446744073709551616 - (c + B)) % 18446744073709551616:Nat):Int):=by rw [a0x,a0x];omega
    simp [-Int.natCast_add,-Int.natCast_emod,q0d,u0y,u0z,u0A,u0B,u0C,q0a,q0b,q0c,U,L,Y,z,F,G,hi,ha.ia hi,Q,hb.slen,u,hb.ia u,a0,e2,S]
    generalize hD:(A + 18446744073709551616 - (c + B)) % 18446744073709551616=D
    refine (a0h j.1).mo ?_
    rintro _ G2 ⟨rfl,y⟩
    obtain ⟨s',G3,h1,h2,h3,h4⟩:=e0c (e2:=a0b) (new:=[.int .u32 ((D % 4294967296:Nat):Int)]) (c:=1) (bytes:=4) (ho.mo y) rfl rfl (by omega) (by omega) (by omega) (by have:=j.1;have:=y.1;omega)
    simp [-Int.natCast_emod,-Int.natCast_add,h1,U,L,Y,z,F,G,e9]
    refine ⟨k - 1,by omega,i + 1,by omega,D / 9223372036854775808,rfl,rfl,h4 _ (M1U _) (j.trans y),out ++ [D % 4294967296],by simpa [b0C] using h2,?_,by simp [q],by omega,?_⟩
    ·intro x j
     rcases N1B.1 j with j | j
     ·exact I x j
     ·simp at j;omega
    ·rw [c0a,q,N,J,N1m]
     have S:4294967296 ^ i * 4294967296 * (D / 9223372036854775808)=4294967296 ^ i * (4294967296 * (D / 9223372036854775808)):=N1h ..
     have e4:D % 4294967296 + c + B=A + 4294967296 * (D / 9223372036854775808):=by omega
     have e5:4294967296 ^ i * (D % 4294967296) + 4294967296 ^ i * c + 4294967296 ^ i * B=4294967296 ^ i * A + 4294967296 ^ i * (4294967296 * (D / 9223372036854775808)):=by
      rw [<- N1a,<- N1a,<- N1a,e4]
     omega
   ·have J:a0q (b.take (i + 1))=a0q (b.take i) + 4294967296 ^ i * 0:=by rw [N1c (by omega),N1c (by omega)];simp
    have O:(0:Nat) < 4294967296:=by omega
    have S:IntKind.u64.wrap (IntKind.u64.wrap (A:Int) - (c:Int))=(((A + 18446744073709551616 - (c + 0)) % 18446744073709551616:Nat):Int):=by rw [a0x,a0x];omega
    generalize hB:(0:Nat)=B at J O S
    simp [-Int.natCast_add,-Int.natCast_emod,q0d,u0y,u0z,u0A,u0B,u0C,q0a,q0b,q0c,U,L,Y,z,F,G,hi,ha.ia hi,Q,hb.slen,u,S]
    generalize hD:(A + 18446744073709551616 - (c + B)) % 18446744073709551616=D
    refine (a0h j.1).mo ?_
    rintro _ G2 ⟨rfl,y⟩
    obtain ⟨s',G3,h1,h2,h3,h4⟩:=e0c (e2:=a0b) (new:=[.int .u32 ((D % 4294967296:Nat):Int)]) (c:=1) (bytes:=4) (ho.mo y) rfl rfl (by omega) (by omega) (by omega) (by have:=j.1;have:=y.1;omega)
    simp [-Int.natCast_emod,-Int.natCast_add,h1,U,L,Y,z,F,G,e9]
    refine ⟨k - 1,by omega,i + 1,by omega,D / 9223372036854775808,rfl,rfl,h4 _ (M1U _) (j.trans y),out ++ [D % 4294967296],by simpa [b0C] using h2,?_,by simp [q],by omega,?_⟩
    ·intro x j
     rcases N1B.1 j with j | j
     ·exact I x j
     ·simp at j;omega
    ·rw [c0a,q,N,J,N1m]
     have S:4294967296 ^ i * 4294967296 * (D / 9223372036854775808)=4294967296 ^ i * (4294967296 * (D / 9223372036854775808)):=N1h ..
     have e4:D % 4294967296 + c + B=A + 4294967296 * (D / 9223372036854775808):=by omega
     have e5:4294967296 ^ i * (D % 4294967296) + 4294967296 ^ i * c + 4294967296 ^ i * B=4294967296 ^ i * A + 4294967296 ^ i * (4294967296 * (D / 9223372036854775808)):=by
      rw [<- N1a,<- N1a,<- N1a,e4]
     omega
  ·simp [q0d,U,L,Y,z,F,G,hi]
   have:i=a.length:=by omega
   subst this
   refine ⟨j,c,out,ho,I,q,hc,?_⟩
   rw [N1c (M1U _),N1c a2] at hs
   exact hs
 ·clear hm Z ρ
  rintro t M ⟨c,out,s,ht,L,j,ho,I,q,hc,hs⟩
  obtain ⟨ρ,rfl⟩:=toT ht
  simp only [b0H,Nat.reduceLT] at L
  simp [w0d,L]
  refine fun _=>⟨out,⟨by simpa [q] using ho.sl,I⟩,?_,q⟩
  have h2:=g0h out I
  rw [q] at h2
  have:c=0:=by
   refine Decidable.byContradiction fun a4=>?_
   have:c=1:=by omega
   subst this
   omega
  subst this
  omega
def x0Q (a b:List Nat):Int:=if a.length ≠ b.length then i0Y a.length b.length else i0Y (a0q a) (a0q b)
theorem b0Y {x y:Nat}:i0Y (x:Int) (y:Int)=if x < y then -1 else if y < x then 1 else 0:=by
 unfold i0Y;(repeat' split) <;> omega
theorem r0u {i:Nat} (u:a.length=b.length) (s:b0g a) (hb:b0g b) (hi:i < a.length) (w:a.drop (i + 1)=b.drop (i + 1)) (z:a.getD i 0 ≠ b.getD i 0) :
  i0Y (a0q a:Int) (a0q b:Int)=i0Y (a.getD i 0:Int) (b.getD i 0:Int):=by
 have j:a0q a=a0q (a.take i) + 4294967296 ^ i * a.getD i 0 + 4294967296 ^ (i + 1) * a0q (a.drop (i + 1)):=by
  have:=g0g (a.take (i + 1)) (a.drop (i + 1))
  rw [List.take_append_drop,N1Z,N1J (by omega)] at this
  rw [this,a0H hi]
 have k:a0q b=a0q (b.take i) + 4294967296 ^ i * b.getD i 0 + 4294967296 ^ (i + 1) * a0q (b.drop (i + 1)):=by
  have:=g0g (b.take (i + 1)) (b.drop (i + 1))
  rw [List.take_append_drop,N1Z,N1J (by omega)] at this
  rw [this,a0H (by omega)]
 have q:=g0h (a.take i) (fun x h=>s x (O1n h))
 have r:=g0h (b.take i) (fun x h=>hb x (O1n h))
 rw [N1Z,N1J (by omega)] at q r
 rw [w] at j
 generalize 4294967296 ^ (i + 1) * a0q (b.drop (i + 1))=Z at j k
 generalize a.getD i 0=x at *
 generalize b.getD i 0=y at *
 generalize 4294967296 ^ i=P at *
 rw [b0Y,b0Y]
 by_cases c:x < y
 ·have:P * (x + 1)<=P * y:=N1w P c
  rw [N1a] at this
  rw [M1Z (by omega),M1Z c]
 ·have:P * (y + 1)<=P * x:=N1w P (by omega)
  rw [N1a] at this
  rw [M1V (by omega),M1Z (by omega),M1V c,M1Z (by omega)]
theorem f0y (M:Lim H v a) (hb:Lim H w b) (hf:fl<=H.size) (a1:a.length < 4611686018427387904) :
  b0k env fl q0W [v,w] H (fun r H'=>r=.int .i64 (x0Q a b)/\Ext H H') R:=by
 refine a0i H1U hf (h:=?_)
 intro ρ L
 simp only [R0t]
 have w1:IntKind.i64.wrap ((a.length:Int) - 1)=(a.length:Int) - 1:=b0d (by omega) (by omega)
 simp [A0u,A0v,A0w,A0x,L,M.slen,hb.slen,w1]
 refine ⟨fun h=>?_,fun x=>?_⟩
 ·refine (j0Z (M1U _)).mo ?_
  rintro _ G ⟨rfl,hx⟩
  simp [x0Q,h]
 have N:x0Q a b=i0Y (a0q a) (a0q b):=by simp [x0Q,x]
 rw [N]
 refine b0X (fun k t J=>t.length=41/\get t 0=v/\get t 1=w/\get t 5=.int .i64 ((k:Int) - 1)/\J = H/\k<=a.length/\a.drop k=b.drop k)
  (fun t J=>t.length=41/\J = H/\a=b) a.length (by simp [L,x]) ?_ ?_
 ·clear L ρ
  rintro k t J ⟨Y,F,I,u,rfl,hk,O⟩
  obtain ⟨ρ,rfl⟩:=toT Y
  simp only [b0H,Nat.reduceLT] at F I u
  by_cases S:k=0
  ·subst S
   simp [t0A,F,I,u]
   simpa using O
  ·have e0:(k:Int) - 1=((k - 1:Nat):Int):=by omega
   have c:k - 1 < a.length:=by omega
   have j:k - 1 < b.length:=by omega
   have y:=M.load c (Ext.refl _)
   have z:=hb.load j (Ext.refl _)
   have w2:IntKind.i64.wrap (((k - 1:Nat):Int) - 1)=((k - 1:Nat):Int) - 1:=b0d (by omega) (by omega)
   rw [e0] at u
   have q:=M.ia (k:=.i64) c
   have s:=hb.ia (k:=.i64) j
   have Q:=r0u x M.ok hb.ok c (by rw [show k - 1 + 1=k by omega];exact O)
   generalize Z:a.getD (k - 1) 0=A at y Q
   generalize hB:b.getD (k - 1) 0=B at z Q
   simp [t0A,F,I,u]
   refine c0t ?_
   simp [A0y,F,I,u,y,q,z,s]
   refine ⟨fun U=>?_,fun a0=>?_⟩
   ·refine c0t ?_
    simp [A0z,F,I,u,y,q,z,s]
    refine (h0V (M1U _)).mo ?_
    rintro _ G ⟨rfl,hx⟩
    simp [Q U]
   ·simp [A0A,F,I,u,w2]
    refine ⟨k - 1,by omega,rfl,by omega,?_⟩
    rw [N1P c,N1P j,show k - 1 + 1=k by omega,O]
    congr 1
    rw [M1R,M1X c] at Z
    rw [M1R,M1X j] at hB
    simp at Z hB;omega
 ·clear L ρ
  rintro t J ⟨Y,rfl,rfl⟩
  obtain ⟨ρ,rfl⟩:=toT Y
  simp [A0B,i0Y]
end
section
variable {fl:Nat} {H:a0c} {R:a0P} {v:Value} {i:Bool × List Nat} {a b:List Nat}
theorem c0m.ok (h:c0m H v i):b0g i.2:=by obtain ⟨s,_,hs⟩:=h;exact hs.ok
theorem F0p {l:List Nat} (h:l.length=0 ∨ l.getD (l.length - 1) 0 ≠ 0):c0V l=l:=by
 rcases List.eq_nil_or_concat l with rfl | ⟨c,x,rfl⟩
 ·rfl
 ·have:x ≠ 0:=by
   rcases h with h | h
   ·simp at h
   ·simpa [M1R] using h
  rw [List.concat_eq_append];exact k0O this
theorem m0u (i:Bool × List Nat):c0V (d0N i)=d0N i:=by
 unfold d0N
 by_cases h:d0k i=true
 ·rw [M1Z h]
  refine F0p ?_
  unfold d0k at h
  by_cases c:i.2.length=0
  ·exact .inl c
  ·rw [M1V c] at h;exact .inr (by simpa using h)
 ·rw [M1V h];rfl
theorem z0n (h:b0g i.2):b0g (d0N i):=by
 unfold d0N;split
 ·exact h
 ·intro x c;simp at c
theorem S0f (i:Bool × List Nat):(a0B i).natAbs=a0q (d0N i):=by
 unfold a0B d0N
 by_cases h:d0k i=true
 ·rw [M1Z h,M1Z h];split <;> omega
 ·rw [M1V h,M1V h];rfl
theorem h0U (h:b0g i.2):d0N i=a0l (a0B i).natAbs:=by
 rw [S0f,<- c0b _ (z0n h),m0u]
theorem z0C (i:Bool × List Nat):w1m i=decide (a0B i < 0):=by
 unfold w1m a0B
 by_cases h:d0k i=true
 ·rw [M1Z h,h,O1H]
  by_cases c:i.1=true
  ·have k:a0q i.2 ≠ 0:=by
    intro k
    have q:=(j0W i.2).1 k
    have j:=m0u i
    unfold d0N at j
    rw [M1Z h,q] at j
    unfold d0k at h
    rw [<- j] at h
    simp [c] at h
   rw [M1Z c,c];simp;omega
  ·rw [M1V c];simp [c]
 ·rw [M1V h];simp [h]
theorem x0i (i:Bool × List Nat):(d0N i).length<=i.2.length:=by unfold d0N;split <;> simp
theorem a0L (h:b0g i.2):(a0l (a0B i).natAbs).length<=i.2.length:=by rw [<- h0U h];exact x0i i
theorem b0S {m n:Nat} (h:m<=n):(a0l m).length<=(a0l n).length:=f0I (O1Q h (j0S n))
theorem d0v (m n:Nat):x0Q (a0l m) (a0l n)=i0Y m n:=by
 unfold x0Q
 rw [a0p,a0p]
 split
 ·rename_i h
  rw [b0Y,b0Y]
  by_cases c:m < n
  ·have:=b0S (Nat.le_of_lt c)
   rw [M1Z c,M1Z (by omega)]
  ·have:=b0S (show n<=m by omega)
   have k:m ≠ n:=fun j=>h (by rw [j])
   rw [M1V c,M1Z (by omega:n < m),M1V (by omega),M1Z (by omega)]
 ·rfl
theorem b0u (h:c0m H v i) (c:fl<=H.size) (j:i.2.length < 4611686018427387904) :
  b0k env fl g0b [v] H (fun r H'=>Lim H' r (a0l (a0B i).natAbs)/\Ext H H') R:=by
 rw [<- h0U h.ok];exact n0I h c j
theorem b0f (h:c0m H v i) (c:fl<=H.size) (j:i.2.length < 4611686018427387904) :
  b0k env fl d0x [v] H (fun r H'=>r=.bool (decide (a0B i < 0))/\Ext H H') R:=by
 rw [<- z0C];exact r0y h c j
theorem i0A {l:List Nat} {b:Bool} (z:Int) (h:Lim H v l) (c:fl<=H.size) (j:l.length<=1073741824) (k:(if b then -(a0q l:Int) else a0q l)=z) :
  b0k env fl g0c [.bool b,v] H (fun r H'=>n0t fl H' r (a0J z)/\Ext H H') R:=by
 rw [<- k,<- z0y h.ok];exact (l0h h c j).mo fun _ _ h=>⟨h.1.low c,h.2⟩
theorem f0a {l:List Nat} {b:Bool} (z:Int) (h:Lim H v l) (c:fl<=H.size) (j:l.length<=1073741824) (k:(if b then -(a0q l:Int) else a0q l)=z) :
  b0k env fl g0c [.bool b,v] H (fun r H'=>n0t H.size H' r (a0J z)/\Ext H H') R:=by
 rw [<- k,<- z0y h.ok];exact l0h h c j
theorem c0m.setT (h:c0m H v i) {p:Nat} {ro:Bool} {k:TypeId} {c:List Value} {r:Blk} (hb:H.bk p=.row ro k c) (j:k ≠ a0b):c0m (H.setIfInBounds p r) v i:=by
 obtain ⟨s,q,u⟩:=h;exact ⟨s,q,u.setT hb j⟩
end
section
variable {fl:Nat} {H:a0c} {R:a0P} {v w:Value} {i j:Bool × List Nat}
theorem m0z (h:c0m H v i) (J:fl<=H.size) (Q:i.2.length<=1073741824) :
  b0k env fl n0E [v] H (fun r H'=>n0t H.size H' r (a0J (-a0B i))/\Ext H H') R:=by
 have z:=h
 obtain ⟨s,rfl,hs⟩:=h
 refine a0i I1C J (h:=?_)
 intro ρ x
 simp [R0P,D0M,x]
 generalize y:(H.push _).push _=G
 have j:Ext H G:=by rw [<- y];simp
 have w:a0c.bk G H.size=.row false a0a [.bool i.1,s]:=by rw [<- y];simp
 have c:a0c.bk G (H.size + 1)=.row false a0a [.bool false,.slice none 0 0]:=by rw [<- y];simp
 have I:H.size + 1 < G.size:=a0r c
 refine c0t ?_
 simp [D0N,x,w,c]
 refine (b0f (z.mo j) (by omega) (by omega)).mo ?_
 rintro _ N ⟨rfl,q⟩
 replace w:=q.bk w
 replace c:=q.bk c
 replace j:=j.trans q
 simp [x,w,c]
 refine (b0u (z.mo j) j.1 (by omega)).mo ?_
 rintro l G3 ⟨L,u⟩
 replace c:=u.bk c
 replace j:=j.trans u
 try simp [x]
 have:=a0L z.ok
 refine (i0A (-a0B i) L j.1 (by omega) (by rw [a0p];simp;split <;> omega)).mo ?_
 rintro _ O ⟨⟨M,rfl,k⟩,F⟩
 replace c:=F.bk c
 have I:=a0r c
 simp [c,k.cells,k.plain,I]
 exact fun _=>⟨M,rfl,k.setT c (by decide)⟩
theorem r0x (h:c0m H v i) (c:fl<=H.size) (j:i.2.length<=1073741824) :
  b0k env fl n0E [v] H (fun r H'=>c0m H' r (a0J (-a0B i))/\Ext H H') R:=(m0z h c j).mo fun _ _ h=>⟨h.1.int,h.2⟩
theorem j0x (h:c0m H v i) (k:c0m H w j) (hf:fl<=H.size) (hn:i.2.length < 536870912) (hm:j.2.length < 536870912) :
  b0k env fl m0q [v,w] H (fun r H'=>n0t H.size H' r (a0J (a0B i + a0B j))/\Ext H H') R:=by
 have Z:=h
 have kk:=k
 obtain ⟨s,rfl,hs⟩:=h
 obtain ⟨u,rfl,hu⟩:=k
 refine a0i I1t hf (h:=?_)
 intro ρ M
 simp [R0I,C0L,M]
 generalize Y:((H.push _).push _).push _=G
 have z:Ext H G:=by rw [<- Y];exact (Ext.refl H).push.push.push
 have F:a0c.bk G H.size=.row false a0a [.bool i.1,s]:=by rw [<- Y];simp
 have I:a0c.bk G (H.size + 1)=.row false a0a [.bool j.1,u]:=by rw [<- Y];simp
 have b2:a0c.bk G (H.size + 2)=.row false a0a [.bool false,.slice none 0 0]:=by rw [<- Y];simp
 have U:H.size + 1 < G.size:=a0r I
 clear Y
 refine c0t ?_
 simp [C0M,M,F,I]
 refine (b0u (Z.mo z) (by omega) (by omega)).mo ?_
 rintro x O ⟨J,c⟩
 replace F:=c.bk F
 replace I:=c.bk I
 replace b2:=c.bk b2
 replace z:=z.trans c
 try simp [M,F,I]
 refine (b0u (kk.mo z) z.1 (by omega)).mo ?_
 rintro y G3 ⟨q,S⟩
 replace F:=S.bk F
 replace I:=S.bk I
 replace b2:=S.bk b2
 replace z:=z.trans S
 replace J:=J.mo S
 try simp [M]
 refine c0t ?_
 simp [C0N,M,F,I]
 refine (b0f (Z.mo z) (by have:=z.1;omega) (by omega)).mo ?_
 rintro _ O ⟨rfl,c⟩
 replace F:=c.bk F
 replace I:=c.bk I
 replace b2:=c.bk b2
 replace z:=z.trans c
 replace J:=J.mo c
 replace q:=q.mo c
 try simp [M,F,I]
 refine (b0f (kk.mo z) z.1 (by omega)).mo ?_
 rintro _ O ⟨rfl,c⟩
 replace F:=c.bk F
 replace I:=c.bk I
 replace b2:=c.bk b2
 replace z:=z.trans c
 replace J:=J.mo c
 replace q:=q.mo c
 clear hs hu U c
 have l1:=a0L Z.ok
 have l2:=a0L kk.ok
 simp [M]
 refine ⟨fun a4=>?_,fun a1=>?_⟩
 ·simp [C0O,M,F]
  refine (b0f (Z.mo z) z.1 (by omega)).mo ?_
  rintro _ O ⟨rfl,c⟩
  replace F:=c.bk F
  replace I:=c.bk I
  replace b2:=c.bk b2
  replace z:=z.trans c
  replace J:=J.mo c
  replace q:=q.mo c
  try simp [M]
  refine (p0o J q z.1 (by omega) (by omega)).mo ?_
  rintro r O ⟨⟨o,ho,N,a0⟩,c⟩
  replace F:=c.bk F
  replace I:=c.bk I
  replace b2:=c.bk b2
  replace z:=z.trans c
  replace J:=J.mo c
  replace q:=q.mo c
  try simp [M]
  rw [a0p,a0p] at N
  refine (i0A (a0B i + a0B j) ho z.1 (by omega) (by rw [N];simp;split <;> omega)).mo ?_
  rintro _ O ⟨⟨s',rfl,L⟩,c⟩
  replace F:=c.bk F
  replace I:=c.bk I
  replace b2:=c.bk b2
  replace z:=z.trans c
  replace J:=J.mo c
  replace q:=q.mo c
  have U:=a0r b2
  simp [b2,L.cells,L.plain,U]
  exact fun _=>⟨s',rfl,L.setT b2 (by decide)⟩
 ·simp [C0P,M]
  refine (f0y J q z.1 (by omega)).mo ?_
  rintro _ O ⟨rfl,c⟩
  replace F:=c.bk F
  replace I:=c.bk I
  replace b2:=c.bk b2
  replace z:=z.trans c
  replace J:=J.mo c
  replace q:=q.mo c
  rw [d0v,b0Y]
  try simp [M]
  refine ⟨fun a2=>?_,fun a3=>?_⟩
  ·have Q:(a0B j).natAbs<=(a0B i).natAbs:=by
    (repeat' split at a2) <;> omega
   simp [C0Q,M,F]
   refine (b0f (Z.mo z) z.1 (by omega)).mo ?_
   rintro _ O ⟨rfl,c⟩
   replace F:=c.bk F
   replace I:=c.bk I
   replace b2:=c.bk b2
   replace z:=z.trans c
   replace J:=J.mo c
   replace q:=q.mo c
   try simp [M]
   refine (j0a J q z.1 (by omega) (b0S Q) (by rw [a0p,a0p];exact Q)).mo ?_
   rintro r O ⟨⟨o,ho,N,a0⟩,c⟩
   replace F:=c.bk F
   replace I:=c.bk I
   replace b2:=c.bk b2
   replace z:=z.trans c
   replace J:=J.mo c
   replace q:=q.mo c
   try simp [M]
   rw [a0p,a0p] at N
   refine (i0A (a0B i + a0B j) ho z.1 (by omega) (by rw [N];simp;split <;> omega)).mo ?_
   rintro _ O ⟨⟨s',rfl,L⟩,c⟩
   replace F:=c.bk F
   replace I:=c.bk I
   replace b2:=c.bk b2
   replace z:=z.trans c
   replace J:=J.mo c
   replace q:=q.mo c
   have U:=a0r b2
   simp [b2,L.cells,L.plain,U]
   exact fun _=>⟨s',rfl,L.setT b2 (by decide)⟩
  ·have Q:(a0B i).natAbs<=(a0B j).natAbs:=by
    (repeat' split at a3) <;> omega
   simp [C0R,M,I]
   refine (b0f (kk.mo z) z.1 (by omega)).mo ?_
   rintro _ O ⟨rfl,c⟩
   replace F:=c.bk F
   replace I:=c.bk I
   replace b2:=c.bk b2
   replace z:=z.trans c
   replace J:=J.mo c
   replace q:=q.mo c
   try simp [M]
   refine (j0a q J z.1 (by omega) (b0S Q) (by rw [a0p,a0p];exact Q)).mo ?_
   rintro r O ⟨⟨o,ho,N,a0⟩,c⟩
   replace F:=c.bk F
   replace I:=c.bk I
   replace b2:=c.bk b2
   replace z:=z.trans c
   replace J:=J.mo c
   replace q:=q.mo c
   try simp [M]
   rw [a0p,a0p] at N
   refine (i0A (a0B i + a0B j) ho z.1 (by omega) (by rw [N];simp;split <;> omega)).mo ?_
   rintro _ O ⟨⟨s',rfl,L⟩,c⟩
   replace F:=c.bk F
   replace I:=c.bk I
   replace b2:=c.bk b2
   replace z:=z.trans c
   replace J:=J.mo c
   replace q:=q.mo c
   have U:=a0r b2
   simp [b2,L.cells,L.plain,U]
   exact fun _=>⟨s',rfl,L.setT b2 (by decide)⟩
theorem l0f (h:c0m H v i) (k:c0m H w j) (c:fl<=H.size) (s:i.2.length < 536870912) (q:j.2.length < 536870912) :
  b0k env fl m0q [v,w] H (fun r H'=>c0m H' r (a0J (a0B i + a0B j))/\Ext H H') R:=(j0x h k c s q).mo fun _ _ h=>⟨h.1.int,h.2⟩
theorem z0l (z:Int):(a0J z).2.length=(a0l z.natAbs).length:=rfl
theorem t0k (h:c0m H v i) (k:c0m H w j) (Q:fl<=H.size) (Y:i.2.length < 536870912) (hm:j.2.length < 536870912) :
  b0k env fl y0Z [v,w] H (fun r H'=>n0t H.size H' r (a0J (a0B i - a0B j))/\Ext H H') R:=by
 have S:=h
 have N:=k
 obtain ⟨s,rfl,hs⟩:=h
 obtain ⟨u,rfl,hu⟩:=k
 refine a0i I1D Q (h:=?_)
 intro ρ M
 simp [R0Q,D0U,M]
 generalize I:((H.push _).push _).push _=G
 have y:Ext H G:=by rw [<- I];exact (Ext.refl H).push.push.push
 have z:a0c.bk G H.size=.row false a0a [.bool i.1,s]:=by rw [<- I];simp
 have F:a0c.bk G (H.size + 1)=.row false a0a [.bool j.1,u]:=by rw [<- I];simp
 have b2:a0c.bk G (H.size + 2)=.row false a0a [.bool false,.slice none 0 0]:=by rw [<- I];simp
 clear I
 refine c0t ?_
 simp [D0V,M,z,F]
 refine (r0x (N.mo y) (by have:=y.1;omega) (by omega)).mo ?_
 rintro x O ⟨U,c⟩
 replace z:=c.bk z
 replace F:=c.bk F
 replace b2:=c.bk b2
 replace y:=y.trans c
 try simp [M]
 have J:(a0J (-a0B j)).2.length < 536870912:=by
  rw [z0l,Int.natAbs_neg];have:=a0L N.ok;omega
 have L:=y.1
 refine (j0x (S.mo y) U y.1 Y J).mo ?_
 rintro _ O ⟨⟨s',rfl,q⟩,c⟩
 replace q:=q.low L
 replace z:=c.bk z
 replace F:=c.bk F
 replace b2:=c.bk b2
 replace y:=y.trans c
 have Z:=a0r b2
 simp [b2,q.cells,q.plain,Z]
 rw [b0m] at q ⊢
 exact fun _=>⟨s',by rw [Int.sub_eq_add_neg],by rw [Int.sub_eq_add_neg];exact q.setT b2 (by decide)⟩
theorem f0x (h:c0m H v i) (k:c0m H w j) (Y:fl<=H.size) (hn:i.2.length < 536870912) (Z:j.2.length < 536870912) :
  b0k env fl F0z [v,w] H (fun r H'=>r=.int .i64 (i0Y (a0B i) (a0B j))/\Ext H H') R:=by
 have L:=h
 have S:=k
 obtain ⟨s,rfl,hs⟩:=h
 obtain ⟨u,rfl,hu⟩:=k
 refine a0i M1k Y (h:=?_)
 intro ρ I
 simp [G1N,T0Z,I]
 generalize U:(H.push _).push _=G
 have q:Ext H G:=by rw [<- U];exact (Ext.refl H).push.push
 have z:a0c.bk G H.size=.row false a0a [.bool i.1,s]:=by rw [<- U];simp
 have F:a0c.bk G (H.size + 1)=.row false a0a [.bool j.1,u]:=by rw [<- U];simp
 clear U
 simp [U0a,I,z,F]
 have l1:=a0L L.ok
 have l2:=a0L S.ok
 refine (b0f (L.mo q) q.1 (by omega)).mo ?_
 rintro _ J ⟨rfl,c⟩
 replace z:=c.bk z
 replace F:=c.bk F
 replace q:=q.trans c
 by_cases O:a0B i < 0
 ·simp [O,F]
  refine (b0f (S.mo q) q.1 (by omega)).mo ?_
  rintro _ J ⟨rfl,c⟩
  replace z:=c.bk z
  replace F:=c.bk F
  replace q:=q.trans c
  by_cases Q:a0B j < 0
  ·simp [Q,E0s,I,z,F]
   refine (b0f (L.mo q) q.1 (by omega)).mo ?_
   rintro _ J ⟨rfl,c⟩
   replace z:=c.bk z
   replace F:=c.bk F
   replace q:=q.trans c
   simp [O,E0t,I,z,F]
   refine (b0f (L.mo q) q.1 (by omega)).mo ?_
   rintro _ J ⟨rfl,c⟩
   replace z:=c.bk z
   replace F:=c.bk F
   replace q:=q.trans c
   simp [O,I]
   refine c0t ?_
   simp [U0d,I,z,F]
   refine (b0u (S.mo q) (by have:=q.1;omega) (by omega)).mo ?_
   rintro x J ⟨M,c⟩
   replace z:=c.bk z
   replace F:=c.bk F
   replace q:=q.trans c
   try simp [I,z]
   refine (b0u (L.mo q) q.1 (by omega)).mo ?_
   rintro y J ⟨N,c⟩
   replace M:=M.mo c
   replace z:=c.bk z
   replace F:=c.bk F
   replace q:=q.trans c
   try simp [I,z]
   refine (f0y M N q.1 (by omega)).mo ?_
   rintro _ J ⟨rfl,c⟩
   rw [d0v,b0Y]
   have:(if (a0B j).natAbs < (a0B i).natAbs then (-1:Int) else if (a0B i).natAbs < (a0B j).natAbs then 1 else 0)=i0Y (a0B i) (a0B j):=by
    unfold i0Y;(repeat' split) <;> omega
   simp [this]
  ·simp [Q,U0b,I]
   have:i0Y (a0B i) (a0B j) = -1:=by unfold i0Y;rw [M1Z (by omega)]
   simp [this]
 ·simp [O,E0s,I,z,F]
  refine (b0f (L.mo q) q.1 (by omega)).mo ?_
  rintro _ J ⟨rfl,c⟩
  replace z:=c.bk z
  replace F:=c.bk F
  replace q:=q.trans c
  simp [O,I,F]
  refine (b0f (S.mo q) q.1 (by omega)).mo ?_
  rintro _ J ⟨rfl,c⟩
  replace z:=c.bk z
  replace F:=c.bk F
  replace q:=q.trans c
  by_cases Q:a0B j < 0
  ·simp [Q,U0c,I]
   have:i0Y (a0B i) (a0B j)=1:=by unfold i0Y;rw [M1V (by omega),M1Z (by omega)]
   simp [this]
  ·simp [Q,E0t,I,z]
   refine (b0f (L.mo q) q.1 (by omega)).mo ?_
   rintro _ J ⟨rfl,c⟩
   replace z:=c.bk z
   replace F:=c.bk F
   replace q:=q.trans c
   simp [O,I]
   refine c0t ?_
   simp [U0e,I,z,F]
   refine (b0u (L.mo q) (by have:=q.1;omega) (by omega)).mo ?_
   rintro x J ⟨M,c⟩
   replace z:=c.bk z
   replace F:=c.bk F
   replace q:=q.trans c
   try simp [I,F]
   refine (b0u (S.mo q) q.1 (by omega)).mo ?_
   rintro y J ⟨N,c⟩
   replace M:=M.mo c
   replace z:=c.bk z
   replace F:=c.bk F
   replace q:=q.trans c
   try simp [I,z]
   refine (f0y M N q.1 (by omega)).mo ?_
   rintro _ J ⟨rfl,c⟩
   rw [d0v,b0Y]
   have:(if (a0B i).natAbs < (a0B j).natAbs then (-1:Int) else if (a0B j).natAbs < (a0B i).natAbs then 1 else 0)=i0Y (a0B i) (a0B j):=by
    unfold i0Y;(repeat' split) <;> omega
   simp [this]
theorem o0n {n:Int} (J:fl<=H.size) (Q:-9223372036854775808<=n) (S:n < 9223372036854775808) :
  b0k env fl j0P [.int .i64 n] H (fun r H'=>n0t H.size H' r (a0J n)/\Ext H H') R:=by
 refine a0i H1Y J (h:=?_)
 intro ρ s
 simp only [R0x]
 refine i0G (m0d ?_)
 simp [-u0X,A0U,s]
 generalize z:H.push _=G
 have j:Ext H G:=by rw [<- z];exact (Ext.refl H).push
 have b2:a0c.bk G H.size=.row false a0a [.bool false,.slice none 0 0]:=by rw [<- z];simp
 clear z
 refine i0G (m0d ?_)
 simp [-u0X,A0V,s]
 refine i0G (u1S (fun t F=>F = G/\t.length=19/\get t 0=.int .i64 n/\get t 2=.pointer (some ⟨H.size,0,none⟩)/\get t 3=.int .u64 ((n.natAbs:Nat):Int)) ?_ ?_)
 ·have I:0<=n->IntKind.u64.wrap n=((n.natAbs:Nat):Int):=fun _=>by rw [a0x];omega
  have e2:n < 0->IntKind.u64.wrap (-IntKind.u64.wrap n)=((n.natAbs:Nat):Int):=fun _=>by rw [a0x,a0x];omega
  simp [A0W,A0X,s]
  exact ⟨e2,I⟩
 clear s ρ
 rintro t F ⟨rfl,M,u,w,y⟩
 obtain ⟨ρ,rfl⟩:=toT M
 simp only [b0H,Nat.reduceLT] at u w y
 simp [A0Y,u,w,y]
 refine (a0h j.1).mo ?_
 rintro _ k ⟨rfl,c⟩
 replace b2:=c.bk b2
 replace j:=j.trans c
 try simp [u,w,y]
 rw [show ((n.natAbs:Nat):Int) / 4294967296=((n.natAbs / 4294967296:Nat):Int) by omega]
 refine (a0h j.1).mo ?_
 rintro _ k ⟨rfl,c⟩
 replace b2:=c.bk b2
 replace j:=j.trans c
 simp
 have L:Lim (Array.push k (.row false a0b [.int .u32 (((n.natAbs:Nat):Int) % 4294967296),.int .u32 (((n.natAbs:Nat):Int) / 4294967296 % 4294967296)]))
   (.slice (some ⟨Array.size k,0,none⟩) 2 2) [n.natAbs % 4294967296,n.natAbs / 4294967296 % 4294967296]:=by
  refine ⟨(Own.mk (fl:=0) (n:=2) (sz:=1) (cs:=b0C [n.natAbs % 4294967296,n.natAbs / 4294967296 % 4294967296]) ?_ rfl (N1K _)).sl,?_⟩
  ·rw [a0N];simp [b0C]
  ·intro x j;simp at j;omega
 have c:Ext k (Array.push k (.row false a0b [.int .u32 (((n.natAbs:Nat):Int) % 4294967296),.int .u32 (((n.natAbs:Nat):Int) / 4294967296 % 4294967296)])):=(Ext.refl k).push
 replace b2:=c.bk b2
 replace j:=j.trans c
 refine (i0A n L j.1 (by simp) (by simp [a0q];split <;> omega)).mo ?_
 rintro _ k ⟨⟨O,rfl,q⟩,c⟩
 replace b2:=c.bk b2
 replace j:=j.trans c
 have N:=a0r b2
 simp [b2,q.cells,q.plain,N]
 exact fun _=>⟨O,rfl,q.setT b2 (by decide)⟩
theorem t0j {n:Int} (k:fl<=H.size) (c:-9223372036854775808<=n) (j:n < 9223372036854775808) :
  b0k env fl j0P [.int .i64 n] H (fun r H'=>c0m H' r (a0J n)/\Ext H H') R:=(o0n k c j).mo fun _ _ h=>⟨h.1.int,h.2⟩
theorem l0N:∀ (l:List Nat) (j z:Nat),j < l.length->a0q (l.set j z) + 4294967296 ^ j * l.getD j 0=a0q l + 4294967296 ^ j * z
 | [],j,z,h=>by simp at h
 | x :: l,0,z,_=>by simp [a0q];omega
 | x :: l,j + 1,z,h=>by
  have k:=l0N l j z (by simpa using h)
  rw [List.set_cons_succ,List.getD_cons_succ,a0q,a0q,N1m]
  have c:4294967296 ^ j * 4294967296 * l.getD j 0=4294967296 * (4294967296 ^ j * l.getD j 0):=by rw [N1p (4294967296 ^ j),N1h]
  have e2:4294967296 ^ j * 4294967296 * z=4294967296 * (4294967296 ^ j * z):=by rw [N1p (4294967296 ^ j),N1h]
  rw [c,e2];omega
theorem c0S (l:List Nat) (j z:Nat):b0C (l.set j z)=(b0C l).set j (.int .u32 (z:Nat)):=by simp [b0C,List.map_set]
theorem b0W {l:List Nat} {j z:Nat} (h:b0g l) (k:z < 4294967296):b0g (l.set j z):=by
 intro x c
 rcases List.mem_or_eq_of_mem_set c with c | rfl
 ·exact h x c
 ·exact k
theorem i0C {G:a0c} {e n p cap:Nat} {l:List Nat} (hb:G.bk p=.row false e (b0C l)) {k:IntKind} {z:Nat} (c:z < l.length) (h:l.length=n) :
  iaV 1 (.slice (some ⟨p,0,none⟩) n cap) (.int k (z:Int))=some (.pointer (some ⟨p,z,none⟩))/\rd (G.bk p) z=some (.int .u32 ((l.getD z 0:Nat):Int)):=by
 refine ⟨?_,?_⟩
 ·simp only [iaV];rw [M1Z (by omega)];simp
 ·rw [hb];simp [b0C,M1R,c]
theorem b0Q {l:List Nat} {a b z:Nat} (h:a ≠ b):(l.set a z).getD b 0=l.getD b 0:=by
 rw [M1R,M1R,List.getElem?_set_ne h]
theorem m0y (h:c0m H v i) (k:c0m H w j) (hf:fl<=H.size) (hn:i.2.length < 268435456) (hm:j.2.length < 268435456) :
  b0k env fl h0Q [v,w] H (fun r H'=>n0t H.size H' r (a0J (a0B i * a0B j))/\Ext H H') R:=by
 have hh:=h
 have kk:=k
 obtain ⟨s,rfl,hs⟩:=h
 obtain ⟨u,rfl,hu⟩:=k
 refine a0i I1j hf (h:=?_)
 intro ρ h0
 simp [R0A,B0E,h0]
 generalize hG:((H.push _).push _).push _=G
 have O:Ext H G:=by rw [<- hG];exact (Ext.refl H).push.push.push
 have b0:a0c.bk G H.size=.row false a0a [.bool i.1,s]:=by rw [<- hG];simp
 have b1:a0c.bk G (H.size + 1)=.row false a0a [.bool j.1,u]:=by rw [<- hG];simp
 have b2:a0c.bk G (H.size + 2)=.row false a0a [.bool false,.slice none 0 0]:=by rw [<- hG];simp
 clear hG
 have l1:=a0L hh.ok
 have l2:=a0L kk.ok
 refine c0t ?_
 simp [B0F,h0,b0,b1]
 refine (b0u (hh.mo O) (by have:=O.1;omega) (by omega)).mo ?_
 rintro x G2 ⟨hl,F⟩
 replace b0:=F.bk b0
 replace b1:=F.bk b1
 replace b2:=F.bk b2
 replace O:=O.trans F
 try simp [h0,b1]
 refine (b0u (kk.mo O) O.1 (by omega)).mo ?_
 rintro y G2 ⟨a1,F⟩
 replace hl:=hl.mo F
 replace b0:=F.bk b0
 replace b1:=F.bk b1
 replace b2:=F.bk b2
 replace O:=O.trans F
 generalize hA:a0l (a0B i).natAbs=A at hl l1
 generalize hB:a0l (a0B j).natAbs=B at a1 l2
 have w1:IntKind.i64.wrap ((A.length:Int) + (B.length:Int))=((A.length + B.length:Nat):Int):=by rw [b0d (by omega) (by omega)];omega
 have b6:=p0i (bytes:=4) (k:=.i64) (k':=.i64) (l:=A.length + B.length) (c:=A.length + B.length) (M1U _) (by omega) (by omega)
 simp [-Int.natCast_add,B0G,B0H,h0,hl.slen,a1.slen,w1,b6]
 have hP:H.size<=G2.size:=O.1
 generalize c9:G2.size=P at hP
 generalize b4:Value.slice (some ⟨P,0,none⟩) (A.length + B.length) (A.length + B.length)=SL
 refine b0X (fun k t G'=>∃ a o,a + k=A.length/\t.length=78/\get t 2=.pointer (some ⟨H.size,0,none⟩)/\get t 3=.pointer (some ⟨H.size + 1,0,none⟩)/\get t 4=.pointer (some ⟨H.size + 2,0,none⟩) /\
   get t 6=y/\get t 7=SL/\get t 23=x/\get t 24=.int .i64 A.length/\get t 25=.int .i64 ((a:Nat):Int) /\
   Ext G2 G'/\a0c.bk G' P=.row false a0b (b0C o)/\o.length=A.length + B.length/\b0g o/\a0q o=a0q (A.take a) * a0q B/\∀ q,a + B.length<=q->o.getD q 0=0)
  (fun t G'=>∃ o,t.length=78/\get t 2=.pointer (some ⟨H.size,0,none⟩)/\get t 3=.pointer (some ⟨H.size + 1,0,none⟩)/\get t 4=.pointer (some ⟨H.size + 2,0,none⟩)/\get t 7=SL /\
   Ext G2 G'/\a0c.bk G' P=.row false a0b (b0C o)/\o.length=A.length + B.length/\b0g o/\a0q o=a0q A * a0q B) A.length ?_ ?_ ?_
 ·refine ⟨0,List.replicate (A.length + B.length) 0,by omega,by simp,by simp,by simp,by simp,by simp,by simp,by simp,by simp,by simp,Ext.push (Ext.refl _),?_,by simp,?_,?_,?_⟩
  ·rw [<- c9,a0N]
   congr 1
   generalize A.length + B.length=n
   induction n with
   | zero=>rfl
   | succ n ih=>rw [e0W,ih];rfl
  ·intro z hz;rw [P1i] at hz;omega
  ·simp only [P1j,a0q,Nat.zero_mul]
   generalize A.length + B.length=n
   induction n with
   | zero=>rfl
   | succ n ih=>rw [List.replicate_succ,a0q,ih]
  ·intro q _;rw [M1R,O1I];split <;> rfl
 ·clear h0 ρ w1 b6
  rintro k t G' ⟨a,o,d5,ht,S,Y,Q,g6,Z,I,J,L,F,hb,M,N,hs,hz⟩
  obtain ⟨ρ,rfl⟩:=toT ht
  simp only [b0H,Nat.reduceLT] at S Y Q g6 Z I J L
  by_cases ha:a < A.length
  ·have a6:=hl.load ha F
   have d2:=hl.ia (k:=.i64) ha
   have c0:=a0H ha
   have c5:A.getD a 0 < 4294967296:=hl.2 _ (by rw [M1R,M1X ha];exact N1j ha)
   generalize A.getD a 0=U at a6 c0 c5
   simp [t0J,B0I,B0J,B0K,S,Y,Q,g6,Z,I,J,L,ha,a6,d2,a1.slen]
   refine b0X (fun k2 t G'=>∃ q c o,q + k2=B.length/\t.length=78/\get t 2=.pointer (some ⟨H.size,0,none⟩)/\get t 3=.pointer (some ⟨H.size + 1,0,none⟩)/\get t 4=.pointer (some ⟨H.size + 2,0,none⟩) /\
     get t 6=y/\get t 7=SL/\get t 23=x/\get t 24=.int .i64 A.length/\get t 25=.int .i64 ((a:Nat):Int)/\get t 8=.int .i64 ((a:Nat):Int)/\get t 9=.int .u32 ((U:Nat):Int) /\
     get t 10=.int .u64 ((c:Nat):Int)/\get t 30=y/\get t 31=.int .i64 B.length/\get t 32=.int .i64 ((q:Nat):Int) /\
     Ext G2 G'/\a0c.bk G' P=.row false a0b (b0C o)/\o.length=A.length + B.length/\b0g o/\c < 4294967296 /\
     a0q o + 4294967296 ^ (a + q) * c=a0q (A.take a) * a0q B + 4294967296 ^ a * (U * a0q (B.take q))/\∀ q,a + B.length<=q->o.getD q 0=0)
    (fun t G'=>∃ c o,t.length=78/\get t 2=.pointer (some ⟨H.size,0,none⟩)/\get t 3=.pointer (some ⟨H.size + 1,0,none⟩)/\get t 4=.pointer (some ⟨H.size + 2,0,none⟩) /\
     get t 6=y/\get t 7=SL/\get t 23=x/\get t 24=.int .i64 A.length/\get t 25=.int .i64 ((a:Nat):Int)/\get t 8=.int .i64 ((a:Nat):Int) /\
     get t 10=.int .u64 ((c:Nat):Int) /\
     Ext G2 G'/\a0c.bk G' P=.row false a0b (b0C o)/\o.length=A.length + B.length/\b0g o/\c < 4294967296 /\
     a0q o + 4294967296 ^ (a + B.length) * c=a0q (A.take (a + 1)) * a0q B/\∀ q,a + B.length<=q->o.getD q 0=0) B.length ?_ ?_ ?_
   ·exact ⟨0,0,o,by omega,by simp,by simp [S],by simp [Y],by simp [Q],by simp [g6],by simp [Z],by simp [I],by simp [J],by simp [L],by simp,by simp,by simp,by simp,by simp,by simp,
     F,hb,M,N,by omega,by simp [hs,a0q],hz⟩
   ·clear hs hz N M hb F a6 o S Y Q g6 Z I J L ht ρ G'
    rintro k2 t G' ⟨q,c,o,d6,ht,S,Y,Q,g6,Z,I,J,L,g8,g9,a3,a7,a8,a9,F,hb,M,N,hc,hs,hz⟩
    obtain ⟨ρ,rfl⟩:=toT ht
    simp only [b0H,Nat.reduceLT] at S Y Q g6 Z I J L g8 g9 a3 a7 a8 a9
    by_cases hq:q < B.length
    ·have c3:=a1.load hq F
     have d3:=a1.ia (k:=.i64) hq
     have c2:=a0H hq
     have c7:B.getD q 0 < 4294967296:=a1.2 _ (by rw [M1R,M1X hq];exact N1j hq)
     generalize B.getD q 0=V at c3 c2 c7
     have a0:a + q < o.length:=by omega
     obtain ⟨a4,b7⟩:=i0C (k:=.i64) (cap:=A.length + B.length) hb a0 M
     rw [b4] at a4
     have a2:=l0N o (a + q) ((c + (U * V + o.getD (a + q) 0)) % 4294967296) a0
     have d0:o.getD (a + q) 0 < 4294967296:=N _ (by rw [M1R,M1X a0];exact N1j a0)
     generalize o.getD (a + q) 0=Wd at b7 a2 d0
     have d4:U * V<=4294967295 * 4294967295:=O1k (by omega) (by omega)
     have e1:IntKind.u64.wrap (U:Int)=(U:Int):=by rw [a0x];omega
     have e2:IntKind.u64.wrap (V:Int)=(V:Int):=by rw [a0x];omega
     have e3:IntKind.u64.wrap (Wd:Int)=(Wd:Int):=by rw [a0x];omega
     have e4:IntKind.u64.wrap ((U:Int) * (V:Int))=((U * V:Nat):Int):=by rw [a0x,<- P1g];omega
     have e5:IntKind.u64.wrap (((U * V:Nat):Int) + (Wd:Int))=((U * V + Wd:Nat):Int):=by rw [a0x];omega
     have e6:IntKind.u64.wrap ((c:Int) + ((U * V + Wd:Nat):Int))=((c + (U * V + Wd):Nat):Int):=by rw [a0x];omega
     have e7:IntKind.i64.wrap ((a:Int) + (q:Int))=((a + q:Nat):Int):=by rw [b0d (by omega) (by omega)];omega
     have e8:IntKind.i64.wrap ((q:Int) + 1)=((q + 1:Nat):Int):=by rw [b0d (by omega) (by omega)];omega
     simp [-Int.natCast_add,-Int.natCast_mul,t0K,B0L,v0H,v0I,v0J,v0K,S,Y,Q,g6,Z,I,J,L,g8,g9,a3,a7,a8,a9,hq,c3,d3,e1,e2,e3,e4,e5,e6,e7,e8,a4,b7]
     refine (a0h (by have:=F.1;omega)).mo ?_
     rintro _ G3 ⟨rfl,a5⟩
     replace hb:=a5.bk hb
     have b9:=F.trans a5
     have b3:=a0r hb
     have b5:a + q + 1<=o.length:=a0
     generalize d1:c + (U * V + Wd)=c1 at *
     simp [-Int.natCast_emod,-Int.natCast_ediv,-Int.natCast_add,hb,hP,b5]
     refine ⟨k2 - 1,by omega,q + 1,by omega,c1 / 4294967296,by omega,rfl,b9.set (by omega),o.set (a + q) (c1 % 4294967296),by rw [a0C b3,c0S],by simp [M],b0W N (by omega),by omega,?_,?_⟩
     ·have f1:4294967296 ^ (a + (q + 1)) * (c1 / 4294967296)=4294967296 ^ (a + q) * (4294967296 * (c1 / 4294967296)):=by
       rw [show a + (q + 1)=a + q + 1 by omega,N1m,N1h]
      have f2:4294967296 ^ (a + q) * (c1 % 4294967296) + 4294967296 ^ (a + q) * (4294967296 * (c1 / 4294967296))=4294967296 ^ (a + q) * c1:=by rw [<- N1a,Nat.mod_add_div]
      have f3:4294967296 ^ (a + q) * c1=4294967296 ^ (a + q) * c + (4294967296 ^ (a + q) * (U * V) + 4294967296 ^ (a + q) * Wd):=by rw [<- d1,N1a,N1a]
      have f4:4294967296 ^ a * (U * (a0q (List.take q B) + 4294967296 ^ q * V))=4294967296 ^ a * (U * a0q (List.take q B)) + 4294967296 ^ (a + q) * (U * V):=by
       rw [N1a,N1a,O1S]
       congr 1
       rw [N1h,O1F U]
      rw [c2,f4,f1]
      omega
     ·intro r hr
      have:=hz r hr
      rw [<- M1R,b0Q (by omega)];exact this
    ·simp [t0K,S,Y,Q,g6,Z,I,J,L,g8,g9,a3,a7,a8,a9,hq]
     have:q=B.length:=by omega
     subst this
     refine ⟨c,rfl,F,o,hb,M,N,hc,?_,by simpa using hz⟩
     rw [hs,N1c (M1U _),c0,N1t,N1h]
   ·clear hs hz N M hb F a6 o S Y Q g6 Z I J L ht ρ G'
    rintro t G' ⟨c,o,ht,S,Y,Q,g6,Z,I,J,L,g8,a3,F,hb,M,N,hc,hs,hz⟩
    obtain ⟨ρ,rfl⟩:=toT ht
    simp only [b0H,Nat.reduceLT] at S Y Q g6 Z I J L g8 a3
    have a0:a + B.length < o.length:=by omega
    obtain ⟨a4,b7⟩:=i0C (k:=.i64) (cap:=A.length + B.length) hb a0 M
    rw [b4] at a4
    have a2:=l0N o (a + B.length) (c % 4294967296) a0
    rw [hz _ (M1U _)] at a2
    have e7:IntKind.i64.wrap ((a:Int) + (B.length:Int))=((a + B.length:Nat):Int):=by rw [b0d (by omega) (by omega)];omega
    have e8:IntKind.i64.wrap ((a:Int) + 1)=((a + 1:Nat):Int):=by rw [b0d (by omega) (by omega)];omega
    simp [-Int.natCast_add,v0L,S,Y,Q,g6,Z,I,J,L,g8,a3,a1.slen,e7,a4]
    refine (a0h (by have:=F.1;omega)).mo ?_
    rintro _ G3 ⟨rfl,a5⟩
    replace hb:=a5.bk hb
    have b9:=F.trans a5
    have b3:=a0r hb
    have b5:a + B.length + 1<=o.length:=a0
    simp [-Int.natCast_emod,-Int.natCast_ediv,-Int.natCast_add,v0M,S,Y,Q,g6,Z,I,J,L,hb,hP,b5,e8]
    refine ⟨k - 1,by omega,a + 1,by omega,rfl,b9.set (by omega),o.set (a + B.length) (c % 4294967296),by rw [a0C b3,c0S],by simp [M],b0W N (by omega),?_,?_⟩
    ·rw [N1o hc] at a2 ⊢
     omega
    ·intro r hr
     have:=hz r (by omega)
     rw [<- M1R,b0Q (by omega)];exact this
  ·simp [t0J,S,Y,Q,g6,Z,I,J,L,ha]
   have:a=A.length:=by omega
   subst this
   exact ⟨F,o,hb,M,N,by rw [hs,N1c (M1U _)]⟩
 ·clear h0 ρ w1 b6
  rintro t G' ⟨o,ht,S,Y,Q,Z,F,hb,M,N,hs⟩
  obtain ⟨ρ,rfl⟩:=toT ht
  simp only [b0H,Nat.reduceLT] at S Y Q Z
  replace b0:=F.bk b0
  replace b1:=F.bk b1
  replace b2:=F.bk b2
  replace O:=O.trans F
  have hy:Lim G' SL o:=by
   rw [<- b4,<- M]
   exact ⟨(Own.mk (fl:=0) hb (by simp) (N1K _)).sl,N⟩
  refine c0t ?_
  simp [v0N,S,Y,Q,Z,b0,b1]
  refine (b0f (hh.mo O) (by have:=O.1;omega) (by omega)).mo ?_
  rintro _ G2 ⟨rfl,F⟩
  replace b0:=F.bk b0
  replace b1:=F.bk b1
  replace b2:=F.bk b2
  replace O:=O.trans F
  replace hy:=hy.mo F
  try simp [S,Y,Q,Z,b1]
  refine (b0f (kk.mo O) O.1 (by omega)).mo ?_
  rintro _ G2 ⟨rfl,F⟩
  replace b0:=F.bk b0
  replace b1:=F.bk b1
  replace b2:=F.bk b2
  replace O:=O.trans F
  replace hy:=hy.mo F
  try simp [S,Y,Q,Z,b1]
  have c6:a0q A=(a0B i).natAbs:=by rw [<- hA,a0p]
  have c8:a0q B=(a0B j).natAbs:=by rw [<- hB,a0p]
  rw [c6,c8,<- Int.natAbs_mul] at hs
  have c4:(if (decide (a0B i < 0) != decide (a0B j < 0))=true then -((a0B i * a0B j).natAbs:Int) else ((a0B i * a0B j).natAbs:Int))=a0B i * a0B j:=by
   by_cases hi:a0B i < 0 <;> by_cases hj:a0B j < 0
   ·have:=Int.mul_pos_of_neg_of_neg hi hj
    simp [hi,hj];omega
   ·have:=Int.mul_nonpos_of_nonpos_of_nonneg (Int.le_of_lt hi) (show 0<=a0B j by omega)
    simp [hi,hj];omega
   ·have:=Int.mul_nonpos_of_nonneg_of_nonpos (show 0<=a0B i by omega) (Int.le_of_lt hj)
    simp [hi,hj];omega
   ·have:=Int.mul_nonneg (show 0<=a0B i by omega) (show 0<=a0B j by omega)
    simp [hi,hj];omega
  refine (i0A (a0B i * a0B j) hy O.1 (by omega) (by rw [hs];exact c4)).mo ?_
  rintro _ G2 ⟨⟨s',rfl,b8⟩,F⟩
  replace b0:=F.bk b0
  replace b1:=F.bk b1
  replace b2:=F.bk b2
  replace O:=O.trans F
  have hz:=a0r b2
  simp [b2,b8.cells,b8.plain,hz,Q]
  exact fun _=>⟨s',rfl,b8.setT b2 (by decide)⟩
theorem l0g (h:c0m H v i) (k:c0m H w j) (c:fl<=H.size) (s:i.2.length < 268435456) (q:j.2.length < 268435456) :
  b0k env fl h0Q [v,w] H (fun r H'=>c0m H' r (a0J (a0B i * a0B j))/\Ext H H') R:=(m0y h k c s q).mo fun _ _ h=>⟨h.1.int,h.2⟩
end
section
section
variable {tag:Nat}
theorem q0u (n:Nat):IntKind.u64.wrap (n:Int)=((n % 18446744073709551616:Nat):Int):=by rw [a0x];omega
theorem q0t (n:Nat):IntKind.u32.wrap (n:Int)=((n % 4294967296:Nat):Int):=by rw [k0R];omega
theorem E0Y {n s:Nat} {k':IntKind} (hs:s<=64):c0k tag .shl (.int .u64 (n:Int)) (.int k' (s:Int))=some (.int .u64 ((n * 2 ^ s % 18446744073709551616:Nat):Int)):=by
 rw [v0d (by omega)]
 have:min (s:Int).toNat IntKind.u64.bits=s:=by show min (s:Int).toNat 64=s;omega
 rw [this]
 have e:(n:Int) * 2 ^ s=((n * 2 ^ s:Nat):Int):=by simp
 rw [e,q0u]
theorem q0m {n s:Nat} {k':IntKind} (hs:s<=32):c0k tag .shl (.int .u32 (n:Int)) (.int k' (s:Int))=some (.int .u32 ((n * 2 ^ s % 4294967296:Nat):Int)):=by
 rw [v0d (by omega)]
 have:min (s:Int).toNat IntKind.u32.bits=s:=by show min (s:Int).toNat 32=s;omega
 rw [this]
 have e:(n:Int) * 2 ^ s=((n * 2 ^ s:Nat):Int):=by simp
 rw [e,q0t]
theorem F1g {n s:Nat} {k':IntKind} (hs:s<=64):c0k tag .shr (.int .u64 (n:Int)) (.int k' (s:Int))=some (.int .u64 ((n / 2 ^ s:Nat):Int)):=by
 rw [l0J (by omega)]
 have:min (s:Int).toNat IntKind.u64.bits=s:=by show min (s:Int).toNat 64=s;omega
 rw [this]
 have e:(2:Int) ^ s=((2 ^ s:Nat):Int):=by simp
 rw [e,H0f]
theorem q0n {n s:Nat} {k':IntKind} (hs:s<=32):c0k tag .shr (.int .u32 (n:Int)) (.int k' (s:Int))=some (.int .u32 ((n / 2 ^ s:Nat):Int)):=by
 rw [l0J (by omega)]
 have:min (s:Int).toNat IntKind.u32.bits=s:=by show min (s:Int).toNat 32=s;omega
 rw [this]
 have e:(2:Int) ^ s=((2 ^ s:Nat):Int):=by simp
 rw [e,H0f]
theorem w1p {a b:Nat} (h:a < 18446744073709551616) (hb:b < 18446744073709551616):c0k tag .or (.int .u64 (a:Int)) (.int .u64 (b:Int))=some (.int .u64 ((a ||| b:Nat):Int)):=by
 rw [k0v]
 have c:(BitVec.ofInt IntKind.u64.bits (a:Int) ||| BitVec.ofInt IntKind.u64.bits (b:Int)).toNat=a ||| b:=by
  show (BitVec.ofInt 64 (a:Int) ||| BitVec.ofInt 64 (b:Int)).toNat=a ||| b
  rw [BitVec.toNat_or]
  simp only [BitVec.ofInt_natCast,BitVec.toNat_ofNat]
  rw [N1o (by omega),N1o (by omega)]
 rw [c,q0u]
 have:a ||| b < 2 ^ 64:=Nat.or_lt_two_pow (by omega) (by omega)
 rw [N1o (by omega)]
theorem u1X {a:Nat}:c0k tag .and (.int .u64 (a:Int)) (.int .u64 4294967295)=some (.int .u64 ((a % 4294967296:Nat):Int)):=by
 rw [F0V]
 have c:(BitVec.ofInt IntKind.u64.bits (a:Int) &&& BitVec.ofInt IntKind.u64.bits (4294967295:Int)).toNat=a % 4294967296:=by
  show (BitVec.ofInt 64 (a:Int) &&& BitVec.ofInt 64 (4294967295:Int)).toNat=a % 4294967296
  rw [BitVec.toNat_and]
  have:(BitVec.ofInt 64 (4294967295:Int)).toNat=2 ^ 32 - 1:=rfl
  rw [this,Nat.and_two_pow_sub_one_eq_mod]
  simp only [BitVec.ofInt_natCast,BitVec.toNat_ofNat]
  omega
 rw [c,q0u,N1o (by omega)]
theorem v0u {x y:Nat} (h:y < 4294967296):x * 4294967296 ||| y=x * 4294967296 + y:=by
 have:=O1u (i:=32) (b:=y) (by omega) x
 rw [N1p] at this
 exact this.symm
theorem w1y {a b:Nat} (c:a < 18446744073709551616) (hb:b ≠ 0):c0k tag .quo (.int .u64 (a:Int)) (.int .u64 (b:Int))=some (.int .u64 ((a / b:Nat):Int)):=by
 rw [F0X (by omega),O1h (by omega)]
 have:(a:Int) / (b:Int)=((a / b:Nat):Int):=rfl
 rw [this,q0u,N1o (O1Q (Nat.div_le_self a b) c)]
theorem B1Z {a b:Nat} (hb:b ≠ 0):c0k tag .rem (.int .u64 (a:Int)) (.int .u64 (b:Int))=some (.int .u64 ((a % b:Nat):Int)):=by
 rw [F0Y (by omega),Int.tmod_eq_emod_of_nonneg (by omega)]
 rfl
end
end
section
variable {fl:Nat} {H:a0c} {R:a0P} {v w:Value} {a:List Nat}
theorem f0O {l:List Nat} {n:Nat} (h:n < l.length):a0q (l.drop n)=l.getD n 0 + 4294967296 * a0q (l.drop (n + 1)):=by
 rw [N1P h,a0q,M1R,M1X h];rfl
theorem n0J {d:Nat} (ha:Lim H v a) (hf:fl<=H.size) (b0:a.length<=1073741824) (hd:0 < d) (a9:d < 4294967296) :
  b0k env fl y0H [v,.int .u32 (d:Int)] H (fun r H'=>(∃ q o,r=.tuple #[q,.int .u32 ((a0q a % d:Nat):Int)]/\Lim H' q o/\a0q o=a0q a / d/\o.length=a.length)/\Ext H H') R:=by
 refine a0i I1n hf (h:=?_)
 intro ρ M
 simp only [R0E]
 have hm:=p0i (bytes:=4) (k:=.i64) (k':=.i64) (l:=a.length) (c:=a.length) (M1U _) (by omega) (by omega)
 have w1:IntKind.i64.wrap ((a.length:Int) - 1)=(a.length:Int) - 1:=b0d (by omega) (by omega)
 simp [C0c,C0d,C0e,C0f,M,ha.slen,hm,w1]
 generalize a2:H.size=P
 have hP:H.size<=P:=by omega
 generalize S:Value.slice (some ⟨P,0,none⟩) a.length a.length=SL
 refine b0X (fun k t G=>∃ r o,t.length=42/\get t 0=v/\get t 1=.int .u32 (d:Int)/\get t 6=SL/\get t 7=.int .u64 ((r:Nat):Int)/\get t 8=.int .i64 ((k:Int) - 1)/\k<=a.length /\
   Ext H G/\a0c.bk G P=.row false a0b (b0C o)/\o.length=a.length/\b0g o/\r < d/\a0q (o.drop k) * d + r=a0q (a.drop k))
  (fun t G=>∃ r o,t.length=42/\get t 6=SL/\get t 7=.int .u64 ((r:Nat):Int) /\
   Ext H G/\a0c.bk G P=.row false a0b (b0C o)/\o.length=a.length/\b0g o/\r < d/\a0q o * d + r=a0q a) a.length ?_ ?_ ?_
 ·refine ⟨0,List.replicate a.length 0,by simp,by simp [M],by simp [M],by simp,by simp,by simp,by omega,Ext.push (Ext.refl _),?_,by simp,?_,hd,?_⟩
  ·rw [<- a2,a0N]
   congr 1
   generalize a.length=n
   induction n with
   | zero=>rfl
   | succ n ih=>rw [e0W,ih];rfl
  ·intro z hz;rw [P1i] at hz;omega
  ·simp [a0q]
 ·clear M ρ hm w1
  rintro k t G ⟨r,o,ht,g0,g1,J,L,g8,hk,u,hb,j,y,hr,hs⟩
  obtain ⟨ρ,rfl⟩:=toT ht
  simp only [b0H,Nat.reduceLT] at g0 g1 J L g8
  by_cases a6:k=0
  ·subst a6
   simp [t0L,g0,g1,J,L,g8]
   exact ⟨r,rfl,u,o,hb,j,y,hr,by simpa using hs⟩
  ·have e0:(k:Int) - 1=((k - 1:Nat):Int):=by omega
   have w:k - 1 < a.length:=by omega
   rw [e0] at g8
   have Y:=ha.load w u
   have a5:=ha.ia (k:=.i64) w
   have N:=f0O w
   have O:a.getD (k - 1) 0 < 4294967296:=ha.2 _ (by rw [M1R,M1X w];exact N1j w)
   generalize a.getD (k - 1) 0=A at Y N O
   have x:k - 1 < o.length:=by omega
   obtain ⟨U,b1⟩:=i0C (k:=.i64) (cap:=a.length) hb x j
   rw [S] at U
   have s2:r * 2 ^ 32 % 18446744073709551616=r * 4294967296:=by omega
   have s1:c0k 0 .shl (.int .u64 (r:Int)) (.int .u64 32)=some (.int .u64 ((r * 4294967296:Nat):Int)):=by
    have:=E0Y (tag:=0) (n:=r) (s:=32) (k':=.u64) (by omega)
    rw [s2] at this;exact this
   have s3:=w1p (tag:=0) (a:=r * 4294967296) (b:=A) (by omega) (by omega)
   rw [v0u O] at s3
   have eA:IntKind.u64.wrap (A:Int)=(A:Int):=by rw [a0x];omega
   have eD:IntKind.u64.wrap (d:Int)=(d:Int):=by rw [a0x];omega
   have s4:=w1y (tag:=0) (a:=r * 4294967296 + A) (b:=d) (by omega) (by omega)
   have s5:=B1Z (tag:=0) (a:=r * 4294967296 + A) (b:=d) (by omega)
   have w2:IntKind.i64.wrap (((k - 1:Nat):Int) - 1)=((k - 1:Nat):Int) - 1:=b0d (by omega) (by omega)
   simp [-Int.natCast_add,-Int.natCast_mul,-Int.natCast_ediv,-Int.natCast_emod,t0L,C0g,C0h,C0i,C0j,g0,g1,J,L,g8,Y,a5,s1,s3,eA,eD,s4,s5,U,w2]
   have I:(r * 4294967296 + A) / d < 4294967296:=by
    rw [O1b hd]
    have:(r + 1) * 4294967296<=d * 4294967296:=N1e _ hr
    rw [N1p 4294967296 d];omega
   have a0:=O1t (r * 4294967296 + A) d
   have a1:=N1R (r * 4294967296 + A) hd
   clear s4 s5
   generalize (r * 4294967296 + A) / d=Q at I a0 ⊢
   generalize (r * 4294967296 + A) % d=r2 at a0 a1 ⊢
   refine (a0h (by have:=u.1;omega)).mo ?_
   rintro _ G3 ⟨rfl,F⟩
   replace hb:=F.bk hb
   have a8:=u.trans F
   have a3:=a0r hb
   have a7:k - 1 + 1<=o.length:=x
   rw [N1o I]
   simp [-Int.natCast_emod,-Int.natCast_ediv,-Int.natCast_add,hb,a7]
   refine ⟨k - 1,by omega,r2,rfl,rfl,by omega,a8.set (by omega),o.set (k - 1) Q,by rw [a0C a3,c0S],by simp [j],b0W y I,a1,?_⟩
   have a4:a0q ((o.set (k - 1) Q).drop (k - 1))=Q + 4294967296 * a0q (o.drop k):=by
    rw [f0O (by simpa using x),M1R,O1v x,show k - 1 + 1=k by omega,List.drop_set_of_lt (by omega)];rfl
   rw [a4,N,show k - 1 + 1=k by omega,<- hs,N1t,N1h,N1p Q d]
   generalize a0q (List.drop k o) * d=Z
   omega
 ·clear M ρ hm w1
  rintro t G ⟨r,o,ht,J,L,u,hb,j,y,hr,hs⟩
  obtain ⟨ρ,rfl⟩:=toT ht
  simp only [b0H,Nat.reduceLT] at J L
  have hy:Lim G SL o:=by
   rw [<- S,<- j]
   exact ⟨(Own.mk (fl:=0) hb (by simp) (N1K _)).sl,y⟩
  simp [C0k,J,L]
  refine (a0h (by have:=u.1;omega)).mo ?_
  rintro _ G3 ⟨rfl,F⟩
  have e1:a0q a % d=r:=by rw [<- hs,N1p,Nat.mul_add_mod,N1o hr]
  have e2:a0q a / d=a0q o:=by rw [<- hs,N1p,Nat.mul_add_div hd,O1m hr];rfl
  have e3:((a0q a:Nat):Int) % (d:Int)=((r:Nat):Int):=by rw [<- e1];rfl
  rw [N1o (by omega),e3,e2]
  simp
  exact fun _=>⟨o,hy.mo F,rfl,j⟩
end
section
variable {fl:Nat} {H:a0c} {R:a0P} {v w:Value} {a b:List Nat}
theorem t0m {x y s:Nat} (h:y < 2 ^ s):y ||| x * 2 ^ s=y + x * 2 ^ s:=by
 have:=O1u (i:=s) (b:=y) h x
 rw [Nat.or_comm,N1p x,<- this,Nat.add_comm]
theorem g0P {n:Nat} (S:Lim H v a) (hf:fl<=H.size) (a4:a.length < 1073741824) (hn:n < 32) :
  b0k env fl w0V [v,.int .i64 (n:Int)] H (fun r H'=>(∃ o,Own H.size H' a0b 1 r (a.length + 1) (b0C o)/\b0g o/\a0q o=a0q a * 2 ^ n/\o.length=a.length + 1)/\Ext H H') R:=by
 refine a0i I1w hf (h:=?_)
 intro ρ L
 simp only [R0J]
 have hm:=G1p (bytes:=4) (k:=.i64) (k':=.i64) (l:=0) (c:=(a.length:Int) + 1) (by omega) (by omega) (by omega) (by omega)
 have w1:IntKind.i64.wrap ((a.length:Int) + 1)=(a.length:Int) + 1:=b0d (by omega) (by omega)
 simp [D0g,D0h,D0i,D0j,L,S.slen,hm,w1]
 have hp:2 ^ n<=2147483648:=O1E (n:=2) (by omega) (show n<=31 by omega)
 have a1:0 < 2 ^ n:=O1T n
 refine b0X (fun k t G=>∃ i c out s,i + k=a.length/\t.length=38/\get t 1=.int .i64 (n:Int)/\get t 5=s/\get t 6=.int .u64 ((c:Nat):Int)/\get t 13=v/\get t 14=.int .i64 a.length/\get t 15=.int .i64 ((i:Nat):Int) /\
   Ext H G/\Own H.size G a0b 1 s i (b0C out)/\b0g out/\out.length=i/\c < 2 ^ n/\a0q out + 4294967296 ^ i * c=a0q (a.take i) * 2 ^ n)
  (fun t G=>∃ c out s,t.length=38/\get t 5=s/\get t 6=.int .u64 ((c:Nat):Int) /\
   Ext H G/\Own H.size G a0b 1 s a.length (b0C out)/\b0g out/\out.length=a.length/\c < 2 ^ n/\a0q out + 4294967296 ^ a.length * c=a0q a * 2 ^ n) a.length ?_ ?_ ?_
 ·exact ⟨0,0,[],.slice (some ⟨H.size,0,none⟩) 0 (a.length + 1),by omega,by simp,by simp [L],by simp,by simp,by simp [L],by simp,by simp,by simp,
   Own.mk (by simp [b0C]) rfl (M1U _),by intro x j;simp at j,rfl,a1,by simp [a0q]⟩
 ·clear hm w1 L ρ
  rintro k t G ⟨i,c,out,s,a3,ht,Q,I,J,w,y,z,j,ho,F,q,hc,hs⟩
  obtain ⟨ρ,rfl⟩:=toT ht
  simp only [b0H,Nat.reduceLT] at Q I J w y z
  by_cases hi:i < a.length
  ·have O:=S.load hi j
   have a0:=S.ia (k:=.i64) hi
   have M:=a0H hi
   have N:a.getD i 0 < 4294967296:=S.2 _ (by rw [M1R,M1X hi];exact N1j hi)
   generalize a.getD i 0=A at O M N
   have eA:IntKind.u64.wrap (A:Int)=(A:Int):=by rw [a0x];omega
   have a2:A * 2 ^ n<=4294967295 * 2147483648:=O1k (by omega) hp
   have s1:=E0Y (tag:=0) (n:=A) (s:=n) (k':=.i64) (by omega)
   rw [N1o (by omega)] at s1
   have s2:=w1p (tag:=0) (a:=c) (b:=A * 2 ^ n) (by omega) (by omega)
   rw [t0m hc] at s2
   have e9:IntKind.i64.wrap ((i:Int) + 1)=((i + 1:Nat):Int):=by rw [b0d (by omega) (by omega)];omega
   simp [-Int.natCast_add,-Int.natCast_mul,-Int.natCast_pow,u0b,D0k,D0l,D0m,D0n,D0o,Q,I,J,w,y,z,hi,a0,O,eA,s1,s2]
   generalize hD:c + A * 2 ^ n=D
   refine (a0h j.1).mo ?_
   rintro _ G2 ⟨rfl,u⟩
   obtain ⟨s',G3,U,Y,h3,h4⟩:=e0c (e2:=a0b) (new:=[.int .u32 ((D % 4294967296:Nat):Int)]) (c:=1) (bytes:=4) (ho.mo u) rfl rfl (by omega) (by omega) (by omega) (by have:=j.1;have:=u.1;omega)
   simp [-Int.natCast_emod,-Int.natCast_add,U,Q,I,J,w,y,z,e9]
   have Z:D / 4294967296 < 2 ^ n:=by
    rw [O1b (by omega),<- hD]
    have:(A + 1) * 2 ^ n<=4294967296 * 2 ^ n:=N1e _ N
    rw [N1t] at this
    rw [N1p (2 ^ n)];omega
   refine ⟨k - 1,by omega,i + 1,by omega,D / 4294967296,rfl,rfl,h4 _ (M1U _) (j.trans u),out ++ [D % 4294967296],by simpa [b0C] using Y,?_,by simp [q],Z,?_⟩
   ·intro x j
    rcases N1B.1 j with j | j
    ·exact F x j
    ·simp at j;omega
   ·rw [c0a,q,M,N1m,N1t,<- hs]
    have e3:4294967296 ^ i * 4294967296 * (D / 4294967296)=4294967296 ^ i * (4294967296 * (D / 4294967296)):=N1h ..
    have e4:4294967296 ^ i * (D % 4294967296) + 4294967296 ^ i * (4294967296 * (D / 4294967296))=4294967296 ^ i * D:=by rw [<- N1a,Nat.mod_add_div]
    have e5:4294967296 ^ i * D=4294967296 ^ i * c + 4294967296 ^ i * A * 2 ^ n:=by rw [<- hD,N1a,N1h]
    omega
  ·simp [u0b,Q,I,J,w,y,z,hi]
   have:i=a.length:=by omega
   subst this
   refine ⟨c,rfl,j,out,ho,F,q,hc,?_⟩
   rw [hs,N1c (M1U _)]
 ·clear hm w1 L ρ
  rintro t G ⟨c,out,s,ht,I,J,j,ho,F,q,hc,hs⟩
  obtain ⟨ρ,rfl⟩:=toT ht
  simp only [b0H,Nat.reduceLT] at I J
  simp [v0Z,I,J]
  refine (a0h j.1).mo ?_
  rintro _ G2 ⟨rfl,u⟩
  obtain ⟨s',G3,U,Y,h3,h4⟩:=e0c (e2:=a0b) (new:=[.int .u32 ((c % 4294967296:Nat):Int)]) (c:=1) (bytes:=4) (ho.mo u) rfl rfl (by omega) (by omega) (by omega) (by have:=j.1;have:=u.1;omega)
  simp [-Int.natCast_emod,-Int.natCast_add,U]
  refine fun _=>⟨out ++ [c % 4294967296],by simpa [q,b0C] using Y,?_,?_,by simp [q]⟩
  ·intro x j
   rcases N1B.1 j with j | j
   ·exact F x j
   ·simp at j;omega
  ·rw [c0a,q,N1o (by omega)];exact hs
theorem q0F {n A N c M:Nat} (H:n < 32) (u:A < 4294967296) (s:N=c + 4294967296 * M) :
  (A + 4294967296 * N) / 2 ^ n=(A + c * 4294967296) / 2 ^ n % 4294967296 + 4294967296 * (N / 2 ^ n):=by
 have hB:(4294967296:Nat)=2 ^ n * 2 ^ (32 - n):=by rw [<- O1S,show n + (32 - n)=32 by omega]
 have hP:=O1T n
 have G:=O1T (32 - n)
 generalize 2 ^ n=P at *
 generalize 2 ^ (32 - n)=Q at *
 have h:(A + 4294967296 * N) / P=A / P + Q * N:=by rw [hB,N1h,Nat.add_mul_div_left _ _ hP]
 have e2:(A + c * 4294967296) / P=A / P + Q * c:=by rw [N1p c,hB,N1h,Nat.add_mul_div_left _ _ hP]
 have j:N % P=c % P:=by rw [s,hB,N1h,Nat.add_mul_mod_self_left]
 have k:Q * N=4294967296 * (N / P) + Q * (c % P):=by
  have:=O1t N P
  rw [j] at this
  calc Q * N=Q * (P * (N / P) + c % P):=by rw [this]
   _=_:=by rw [N1a,<- N1h,N1p Q P,<- hB]
 have r:Q * c=4294967296 * (c / P) + Q * (c % P):=by
  have:=O1t c P
  calc Q * c=Q * (P * (c / P) + c % P):=by rw [this]
   _=_:=by rw [N1a,<- N1h,N1p Q P,<- hB]
 have w:A / P < Q:=by rw [O1b hP,N1p,<- hB];exact u
 have F:Q * (c % P) + Q<=4294967296:=by
  have:=N1R c hP
  have:Q * (c % P + 1)<=Q * P:=N1w Q this
  rw [N1a,N1p Q P,<- hB] at this
  omega
 rw [h,e2,k,r]
 clear h e2 j k r s
 generalize A / P=x at *
 generalize N / P=y at *
 generalize c / P=z at *
 generalize Q * (c % P)=q at *
 omega
theorem c0H {o:List Nat} {i z:Nat} (c:i < o.length):a0q (List.take (i + 1) (o.set i z))=a0q (List.take i o) + 4294967296 ^ i * z:=by
 rw [d0J (by simpa using c),c0a,N1Z,List.length_set,N1J (by omega),List.take_set_of_le (by omega),M1R,O1v c,N1D]
theorem v0c {x y z s i q:Nat} (h:x=y + 4294967296 ^ i * z) (hs:y + 4294967296 ^ i * (z + 4294967296 * q)=s):x + 4294967296 ^ (i + 1) * q=s:=by
 rw [h,<- hs,N1m,N1a,N1h,N1U]
theorem p0m {n:Nat} (N:Lim H v a) (hf:fl<=H.size) (b2:a.length < 1073741824) (hn:n < 32) :
  b0k env fl y0P [v,.int .i64 (n:Int)] H (fun r H'=>(∃ o,Lim H' r o/\a0q o=a0q a / 2 ^ n/\o.length=a.length)/\Ext H H') R:=by
 refine a0i I1z hf (h:=?_)
 intro ρ h0
 simp only [R0M]
 have hm:=p0i (bytes:=4) (k:=.i64) (k':=.i64) (l:=a.length) (c:=a.length) (M1U _) (by omega) (by omega)
 simp [D0u,D0v,D0w,h0,N.slen,hm]
 generalize b0:H.size=P
 generalize a6:Value.slice (some ⟨P,0,none⟩) a.length a.length=SL
 refine b0X (fun k t O=>∃ i o,i + k=a.length/\t.length=44/\get t 0=v/\get t 1=.int .i64 (n:Int)/\get t 5=SL/\get t 12=.int .i64 a.length/\get t 13=.int .i64 ((i:Nat):Int) /\
   Ext H O/\a0c.bk O P=.row false a0b (b0C o)/\o.length=a.length/\b0g o/\a0q (o.take i) + 4294967296 ^ i * (a0q (a.drop i) / 2 ^ n)=a0q a / 2 ^ n)
  (fun t O=>∃ o,t.length=44/\get t 5=SL /\
   Ext H O/\a0c.bk O P=.row false a0b (b0C o)/\o.length=a.length/\b0g o/\a0q o=a0q a / 2 ^ n) a.length ?_ ?_ ?_
 ·refine ⟨0,List.replicate a.length 0,by omega,by simp,by simp [h0],by simp [h0],by simp,by simp,by simp,Ext.push (Ext.refl _),?_,by simp,?_,by simp [a0q]⟩
  ·rw [<- b0,a0N]
   congr 1
   generalize a.length=n
   induction n with
   | zero=>rfl
   | succ n ih=>rw [e0W,ih];rfl
  ·intro z hz;rw [P1i] at hz;omega
 ·clear h0 ρ hm
  rintro k t O ⟨i,o,b1,ht,g0,g1,S,J,L,q,hb,w,F,hs⟩
  obtain ⟨ρ,rfl⟩:=toT ht
  simp only [b0H,Nat.reduceLT] at g0 g1 S J L
  by_cases hi:i < a.length
  ·have a2:=N.load hi q
   have a7:=N.ia (k:=.i64) hi
   have Y:=f0O hi
   have M:a.getD i 0 < 4294967296:=N.2 _ (by rw [M1R,M1X hi];exact N1j hi)
   generalize a.getD i 0=A at a2 Y M
   have y:i < o.length:=by omega
   obtain ⟨a1,b3⟩:=i0C (k:=.i64) (cap:=a.length) hb y w
   rw [a6] at a1
   have eA:IntKind.u64.wrap (A:Int)=(A:Int):=by rw [a0x];omega
   have e9:IntKind.i64.wrap ((i:Int) + 1)=((i + 1:Nat):Int):=by rw [b0d (by omega) (by omega)];omega
   by_cases u:i + 1 < a.length
   ·have Q:=N.load u q
    have a8:=N.ia (k:=.i64) u
    have hN:=f0O u
    have a5:a.getD (i + 1) 0 < 4294967296:=N.2 _ (by rw [M1R,M1X u];exact N1j u)
    generalize a.getD (i + 1) 0=j at Q hN a5
    have a9:IntKind.u64.wrap (j:Int)=(j:Int):=by rw [a0x];omega
    have s1:c0k 0 .shl (.int .u64 (j:Int)) (.int .u64 32)=some (.int .u64 ((j * 4294967296:Nat):Int)):=by
     have:=E0Y (tag:=0) (n:=j) (s:=32) (k':=.u64) (by omega)
     rw [show j * 2 ^ 32 % 18446744073709551616=j * 4294967296 by omega] at this;exact this
    have s2:=w1p (tag:=0) (a:=A) (b:=j * 4294967296) (by omega) (by omega)
    rw [show A ||| j * 4294967296=A + j * 4294967296 from t0m (s:=32) M] at s2
    have s3:=F1g (tag:=0) (n:=A + j * 4294967296) (s:=n) (k':=.i64) (by omega)
    simp [-Int.natCast_add,-Int.natCast_mul,-Int.natCast_pow,-Int.natCast_ediv,p0U,u0p,u0q,u0r,u0s,u0t,u0u,g0,g1,S,J,L,hi,u,a7,a2,a8,Q,eA,a9,e9,s1,s2,s3,N.slen,a1]
    refine (a0h (by have:=q.1;omega)).mo ?_
    rintro _ G3 ⟨rfl,I⟩
    replace hb:=I.bk hb
    have a4:=q.trans I
    have Z:=a0r hb
    have a3:i + 1<=o.length:=y
    have a0:=q0F hn M hN
    simp [-Int.natCast_emod,-Int.natCast_ediv,-Int.natCast_add,hb,a3]
    have hz:(A + j * 4294967296) / 2 ^ n % 4294967296 < 4294967296:=N1R _ (by omega)
    rw [Y,a0] at hs
    generalize (A + j * 4294967296) / 2 ^ n % 4294967296=z at hs hz ⊢
    have G:a0q (List.take (i + 1) (o.set i z))=a0q (List.take i o) + 4294967296 ^ i * z:=c0H y
    refine ⟨k - 1,by omega,i + 1,by omega,rfl,a4.set (by omega),o.set i z,by rw [a0C Z,c0S],by simp [w],b0W F hz,?_⟩
    exact v0c G hs
   ·obtain ⟨j,U⟩:∃ x:Nat,x=0:=⟨0,rfl⟩
    have hN:a0q (List.drop (i + 1) a)=j + 4294967296 * 0:=by rw [O1N (by omega),U];simp [a0q]
    have s3:c0k 0 .shr (.int .u64 (A:Int)) (.int .i64 (n:Int))=some (.int .u64 (((A + j * 4294967296) / 2 ^ n:Nat):Int)):=by
     rw [F1g (by omega),show A + j * 4294967296=A by rw [U];omega]
    clear U
    simp [-Int.natCast_add,-Int.natCast_mul,-Int.natCast_pow,-Int.natCast_ediv,p0U,u0p,u0q,u0r,u0s,u0t,u0u,g0,g1,S,J,L,hi,u,a7,a2,eA,e9,s3,N.slen,a1]
    refine (a0h (by have:=q.1;omega)).mo ?_
    rintro _ G3 ⟨rfl,I⟩
    replace hb:=I.bk hb
    have a4:=q.trans I
    have Z:=a0r hb
    have a3:i + 1<=o.length:=y
    have a0:=q0F hn M hN
    simp [-Int.natCast_emod,-Int.natCast_ediv,-Int.natCast_add,hb,a3]
    have hz:(A + j * 4294967296) / 2 ^ n % 4294967296 < 4294967296:=N1R _ (by omega)
    rw [Y,a0] at hs
    generalize (A + j * 4294967296) / 2 ^ n % 4294967296=z at hs hz ⊢
    have G:a0q (List.take (i + 1) (o.set i z))=a0q (List.take i o) + 4294967296 ^ i * z:=c0H y
    refine ⟨k - 1,by omega,i + 1,by omega,rfl,a4.set (by omega),o.set i z,by rw [a0C Z,c0S],by simp [w],b0W F hz,?_⟩
    exact v0c G hs
  ·simp [p0U,g0,g1,S,J,L,hi]
   have:i=a.length:=by omega
   subst this
   refine ⟨q,o,hb,w,F,?_⟩
   rw [N1c (by omega),O1N (M1U _)] at hs
   simpa [a0q] using hs
 ·clear h0 ρ hm
  rintro t O ⟨o,ht,S,q,hb,w,F,hs⟩
  obtain ⟨ρ,rfl⟩:=toT ht
  simp only [b0H,Nat.reduceLT] at S
  have hy:Lim O SL o:=by
   rw [<- a6,<- w]
   exact ⟨(Own.mk (fl:=0) hb (by simp) (N1K _)).sl,F⟩
  simp [w0b,S]
  exact fun _=>⟨o,hy,hs,w⟩
end
section
variable {fl:Nat} {H G:a0c} {R:a0P} {v w:Value} {a b:List Nat} {K:n0z}
theorem y0v {E:Env} {f:FuncId} {args:List Value} {c:n0v} (hc:E.code f=some c) (u:args.length=c.np:=by rfl) (j:args.length<=c.nt:=by exact of_decide_eq_true rfl)
  (h:∀ ρ:Nat->Value,(∀ i,ρ i=args.getD i undef)->W E fl c.body (T c.nt ρ) H (F1X (fun t' H'=>x0V H' t' c.res fun v=>K v H')) R) :
  b0k E fl f args H K R :=
 v0g (K:=K) hc u j (fun t r s=>by
  have q:=h (get t) s
  rw [<- U0W r] at q
  refine q.mo fun e t' H' k=>?_
  cases e with
  | exit i=>exact N1i k id
  | normal=>exact ⟨trivial,k⟩
  | ret=>exact ⟨trivial,k⟩)
@[simp] theorem C1a {t:a0U} {P:Value->Prop}:x0V H t [] P=P (.tuple #[]):=by simp [x0V,c0N,b0K]
theorem j0m.refl {o:Option Nat}:j0m o H H:=(Ext.refl H).extB
theorem j0m.trans {o:Option Nat} {H1 j q:a0c} (h:j0m o H1 j) (k:j0m o j q):j0m o H1 q :=
 ⟨N1n h.1 k.1,fun b hb c=>(k.2 b (N1k hb h.1) c).trans (h.2 b hb c)⟩
theorem j0m.set {p:Nat} {r:Blk} (h:j0m (some p) H G):j0m (some p) H (G.setIfInBounds p r) :=
 ⟨by have:=h.1;simpa using this,fun b hb c=>by rw [a0Y (by simpa using c)];exact h.2 b hb c⟩
theorem j0m.ext {p:Nat} {c:a0c} (h:j0m (some p) H G) (hp:c.size<=p) (j:Ext c H):Ext c G :=
 ⟨N1n j.1 h.1,fun b hb=>(h.2 b (N1k hb j.1) (by simp;omega)).trans (j.2 b hb)⟩
theorem Sl.off {e sz n p:Nat} {cs:List Value} (h:Sl H e sz v n cs) (q:j0m (some p) H G) (j:slB v ≠ some p):Sl G e sz v n cs:=by
 obtain ⟨k,h | ⟨b,off,cap,ro,cells,rfl,hb,ho,c⟩⟩:=h
 ·exact ⟨k,.inl h⟩
 ·exact ⟨k,.inr ⟨b,off,cap,ro,cells,rfl,by rw [q.2 b (a0r hb) (fun h=>j (by simp only [slB];exact h.symm))];exact hb,ho,c⟩⟩
theorem Lim.off {p:Nat} (h:Lim H v a) (j:j0m (some p) H G) (c:slB v ≠ some p):Lim G v a:=⟨h.1.off j c,h.2⟩
def win (L:List Nat) (o:Nat):Nat->Nat
 | 0=>0
 | i + 1=>win L o i + 4294967296 ^ i * L.getD (o + i) 0
theorem k0q {L c:List Nat} {o:Nat}:∀ {i:Nat},(∀ j,j < i->L.getD (o + j) 0=c.getD (o + j) 0)->win L o i=win c o i
 | 0,_=>rfl
 | i + 1,h=>by rw [win,win,k0q (fun j k=>h j (by omega)),h i (by omega)]
theorem t1X {L:List Nat} {o i j z:Nat} (h:o + i<=j):win (L.set j z) o i=win L o i :=
 k0q fun k c=>b0Q (by omega)
theorem c0z {L:List Nat} (h:b0g L) (i:Nat):L.getD i 0 < 4294967296:=by
 rw [M1R]
 by_cases hi:i < L.length
 ·rw [M1X hi];exact h _ (N1j hi)
 ·rw [N1d (by omega)];simp
theorem l0o {L:List Nat} (h:b0g L) (o:Nat):∀ i,win L o i < 4294967296 ^ i
 | 0=>by simp [win]
 | i + 1=>by
  rw [win,N1m]
  have j:=l0o h o i
  have c:=c0z h (o + i)
  have:4294967296 ^ i * (L.getD (o + i) 0 + 1)<=4294967296 ^ i * 4294967296:=N1w _ c
  rw [N1a,N1W] at this
  omega
theorem i0B {L:List Nat}:∀ {i:Nat},i<=L.length->a0q (L.take i)=win L 0 i
 | 0,_=>by simp [a0q,win]
 | i + 1,h=>by rw [a0H (by omega),i0B (by omega),win,N1q]
theorem k0Q {L:List Nat} {n:Nat} (h:L.length<=n):win L 0 n=a0q L:=by
 obtain ⟨k,rfl⟩:∃ k,n=L.length + k:=⟨n - L.length,by omega⟩
 clear h
 induction k with
 | zero=>rw [N1O,<- i0B (M1U _),N1f]
 | succ k ih=>rw [<- N1U,win,ih,M1R,N1d (by omega)];simp
theorem m0C {e p o n cap:Nat} {L:List Nat} (hb:G.bk p=.row false e (b0C L)) (c:o + n<=L.length) {k:IntKind} {z:Nat} (h:z < n) :
  iaV 1 (.slice (some ⟨p,o,none⟩) n cap) (.int k (z:Int))=some (.pointer (some ⟨p,o + z,none⟩))/\rd (G.bk p) (o + z)=some (.int .u32 ((L.getD (o + z) 0:Nat):Int)):=by
 refine ⟨?_,?_⟩
 ·simp only [iaV];rw [M1Z (by omega)];simp
 ·rw [hb];simp [b0C,M1R,show o + z < L.length by omega]
theorem s0j {x y u v g c t k q j B P:Nat} (h:x + g * y=u + c * P) (s:t=c + v * g) (hc:t=k * B + q) {z w:Nat} (F:z + q=w + j * B) :
  (x + P * z) + g * (y + P * v)=(u + P * w) + (k + j) * (P * B):=by
 have J:P * z + P * q=P * w + P * (j * B):=by rw [<- N1a,F,N1a]
 have r:P * (c + v * g)=P * (k * B) + P * q:=by rw [<- s,hc,N1a]
 rw [N1a] at r ⊢
 rw [N1t]
 have G:g * (P * v)=P * (v * g):=by grind
 have e2:k * (P * B)=P * (k * B):=by grind
 have H:j * (P * B)=P * (j * B):=by grind
 have I:c * P=P * c:=by grind
 omega
theorem r0j {x y u v c t j k B P w:Nat} (h:x + c * P=u + y) (r:t=c + w + v) (hc:t=j * B + k) :
  (x + P * k) + j * (P * B)=(u + P * w) + (y + P * v):=by
 have q:P * (c + w + v)=P * (j * B) + P * k:=by rw [<- r,hc,N1a]
 rw [N1a,N1a] at q
 have e2:j * (P * B)=P * (j * B):=by grind
 have s:c * P=P * c:=by grind
 omega
def Won (L X:List Nat) (o i:Nat):Prop:=X.length=L.length/\b0g X/\∀ j,j < o ∨ o + i<=j->X.getD j 0=L.getD j 0
theorem Won.zero {L:List Nat} {o:Nat} (h:b0g L):Won L L o 0:=⟨rfl,h,fun _ _=>rfl⟩
theorem Won.step {L X:List Nat} {o i z:Nat} (h:Won L X o i) (c:z < 4294967296):Won L (X.set (o + i) z) o (i + 1) :=
 ⟨by simp [h.1],b0W h.2.1 c,fun j k=>by rw [b0Q (by omega)];exact h.2.2 j (by omega)⟩
theorem Won.win {L X:List Nat} {o i z:Nat} (h:Won L X o i) (hi:o + i < L.length):AI.win (X.set (o + i) z) o (i + 1)=AI.win X o i + 4294967296 ^ i * z:=by
 rw [AI.win,t1X (by omega),M1R,O1v (by rw [h.1];exact hi)];rfl
theorem p0p {L:List Nat} {p o n cap g:Nat} (hb:H.bk p=.row false a0b (b0C L)) (b0:b0g L) (hL:o + n<=L.length) (hv:Lim H v a) (b5:slB v ≠ some p) (hf:fl<=p) (hg:g < 4294967296) (hn:n < 1073741824) (ha:a.length<=n) :
  b0k env fl y0N [.slice (some ⟨p,o,none⟩) n cap,v,.int .u64 (g:Int)] H (fun r G=>∃ X c,r=.bool (c != 0)/\G.bk p=.row false a0b (b0C X)/\j0m (some p) H G/\Won L X o n/\win X o n + g * a0q a=win L o n + c * 4294967296 ^ n) R:=by
 refine y0v I1x (h:=?_)
 intro ρ h0
 simp only [R0K]
 simp [D0p,D0q,D0r,h0,i0q]
 generalize a6:Value.slice (some ⟨p,o,none⟩) n cap=SL
 refine b0X (fun k t G=>∃ i c X,i + k=n/\t.length=49/\get t 0=SL/\get t 1=v/\get t 2=.int .u64 ((g:Nat):Int)/\get t 7=.int .u64 ((c:Nat):Int)/\get t 11=.int .i64 n/\get t 12=.int .i64 ((i:Nat):Int) /\
   G.bk p=.row false a0b (b0C X)/\j0m (some p) H G/\Won L X o i/\c<=4294967296/\win X o i + g * win a 0 i=win L o i + c * 4294967296 ^ i)
  (fun t G=>∃ c X,t.length=49/\get t 7=.int .u64 ((c:Nat):Int)/\G.bk p=.row false a0b (b0C X)/\j0m (some p) H G/\Won L X o n/\win X o n + g * win a 0 n=win L o n + c * 4294967296 ^ n) n ?_ ?_ ?_
 ·exact ⟨0,0,L,by omega,by simp,by simp [h0,a6],by simp [h0],by simp [h0],by simp,by simp,by simp,hb,j0m.refl,Won.zero b0,by omega,by simp [win]⟩
 ·clear h0 ρ
  rintro k t G ⟨i,c,X,b8,ht,g0,g1,g2,M,s,u,S,hx,I,hc,hs⟩
  obtain ⟨ρ,rfl⟩:=toT ht
  simp only [b0H,Nat.reduceLT] at g0 g1 g2 M s u
  by_cases hi:i < n
  ·have e9:IntKind.i64.wrap ((i:Int) + 1)=((i + 1:Nat):Int):=by rw [b0d (by omega) (by omega)];omega
   obtain ⟨F,N⟩:=m0C (k:=.i64) (cap:=cap) S (by rw [I.1];exact hL) hi
   rw [a6] at F
   have b3:X.getD (o + i) 0=L.getD (o + i) 0:=I.2.2 _ (by omega)
   have hA:=c0z b0 (o + i)
   rw [b3] at N
   have Y:win L o (i + 1)=win L o i + 4294967296 ^ i * L.getD (o + i) 0:=rfl
   have w:win a 0 (i + 1)=win a 0 i + 4294967296 ^ i * a.getD i 0:=by rw [win,N1q]
   generalize L.getD (o + i) 0=A at N hA Y
   have eA:IntKind.u64.wrap (A:Int)=(A:Int):=by rw [a0x];omega
   have Q:=hv.off hx b5
   have hV:=c0z hv.ok i
   by_cases O:i < a.length
   ·have a9:=Q.load O (Ext.refl _)
    have a8:=Q.ia (k:=.i64) O
    generalize a.getD i 0=V at a9 w hV
    have eV:IntKind.u64.wrap (V:Int)=(V:Int):=by rw [a0x];omega
    have b2:V * g<=4294967295 * 4294967295:=O1k (by omega) (by omega)
    have e1:IntKind.u64.wrap ((V:Int) * (g:Int))=((V * g:Nat):Int):=by rw [a0x,<- P1g];omega
    have e2:IntKind.u64.wrap ((c:Int) + ((V * g:Nat):Int))=((c + V * g:Nat):Int):=by rw [a0x,<- Int.natCast_add];omega
    have e3:=u1X (tag:=0) (a:=c + V * g)
    simp [-Int.natCast_add,-Int.natCast_mul,-Int.natCast_ediv,-Int.natCast_emod,p0S,u0c,u0d,u0e,u0f,u0g,u0h,p0R,g0,g1,g2,M,s,u,hi,Q.slen,O,a8,a9,eV,e1,e2,F,N,e3,eA]
    generalize hD:c + V * g=D at *
    have U:D=(D / 4294967296) * 4294967296 + D % 4294967296:=(P1a D 4294967296).symm
    have b4:=N1R D (show 0 < 4294967296 by omega)
    generalize D / 4294967296=ch at *
    generalize D % 4294967296=cm at *
    have y:IntKind.u64.wrap ((A:Int) - (cm:Int))=((if cm<=A then A - cm else A + 18446744073709551616 - cm:Nat):Int):=by rw [a0x];split <;> omega
    have a7:ch<=4294967295:=by omega
    obtain ⟨j,z,q,Z,a4,a5,a2,a3,b6⟩:∃ j z q:Nat,(if cm<=A then A - cm else A + 18446744073709551616 - cm:Nat)=q/\z + cm=A + j * 4294967296/\z < 4294967296/\q % 4294967296=z/\q / 9223372036854775808=j/\j<=1:=by
     by_cases h:cm<=A
     ·exact ⟨0,A - cm,A - cm,by rw [M1Z h],by omega,by omega,by omega,by omega,by omega⟩
     ·exact ⟨1,A + 4294967296 - cm,A + 18446744073709551616 - cm,by rw [M1V h],by omega,by omega,by omega,by omega,by omega⟩
    have e8:IntKind.u64.wrap ((ch:Int) + (j:Int))=((ch + j:Nat):Int):=by rw [a0x];omega
    rw [Z] at y
    simp [-Int.natCast_add,-Int.natCast_mul,-Int.natCast_ediv,-Int.natCast_emod,y,g0,M,s,u]
    refine (a0h (by have:=a0r S;omega)).mo ?_
    rintro _ G3 ⟨rfl,J⟩
    rw [a2,a3]
    have x:=J.bk S
    have a1:=a0r x
    have a0:o + i + 1<=X.length:=by rw [I.1];omega
    simp [-Int.natCast_add,-Int.natCast_mul,-Int.natCast_ediv,-Int.natCast_emod,F,x,a0,hf,e8,e9]
    refine ⟨k - 1,by omega,i + 1,by omega,ch + j,rfl,rfl,X.set (o + i) z,by rw [a0C a1,c0S],(hx.trans J.extB).set,I.step a5,by omega,?_⟩
    rw [I.win (by omega),w,Y,N1m]
    exact s0j hs hD.symm U a4
   ·have b1:a.getD i 0=0:=by rw [M1R,N1d (by omega)];rfl
    rw [b1] at w
    obtain ⟨V,hV⟩:∃ V,V=0:=⟨0,rfl⟩
    replace w:win a 0 (i + 1)=win a 0 i + 4294967296 ^ i * V:=by rw [w,hV]
    have b2:V * g=0:=by rw [hV,Nat.zero_mul]
    have e3:=u1X (tag:=0) (a:=c)
    have ec:c=c + V * g:=by omega
    rw [ec] at e3 M
    have b7:c + V * g<=4294967296:=by omega
    simp [-Int.natCast_add,-Int.natCast_mul,-Int.natCast_ediv,-Int.natCast_emod,p0S,u0c,u0d,u0e,u0f,u0g,u0h,p0R,g0,g1,g2,M,s,u,hi,Q.slen,O,F,N,e3,eA]
    generalize hD:c + V * g=D at *
    have U:D=(D / 4294967296) * 4294967296 + D % 4294967296:=(P1a D 4294967296).symm
    have b4:=N1R D (show 0 < 4294967296 by omega)
    generalize D / 4294967296=ch at *
    generalize D % 4294967296=cm at *
    have y:IntKind.u64.wrap ((A:Int) - (cm:Int))=((if cm<=A then A - cm else A + 18446744073709551616 - cm:Nat):Int):=by rw [a0x];split <;> omega
    have a7:ch<=4294967295:=by omega
    obtain ⟨j,z,q,Z,a4,a5,a2,a3,b6⟩:∃ j z q:Nat,(if cm<=A then A - cm else A + 18446744073709551616 - cm:Nat)=q/\z + cm=A + j * 4294967296/\z < 4294967296/\q % 4294967296=z/\q / 9223372036854775808=j/\j<=1:=by
     by_cases h:cm<=A
     ·exact ⟨0,A - cm,A - cm,by rw [M1Z h],by omega,by omega,by omega,by omega,by omega⟩
     ·exact ⟨1,A + 4294967296 - cm,A + 18446744073709551616 - cm,by rw [M1V h],by omega,by omega,by omega,by omega,by omega⟩
    have e8:IntKind.u64.wrap ((ch:Int) + (j:Int))=((ch + j:Nat):Int):=by rw [a0x];omega
    rw [Z] at y
    simp [-Int.natCast_add,-Int.natCast_mul,-Int.natCast_ediv,-Int.natCast_emod,y,g0,M,s,u]
    refine (a0h (by have:=a0r S;omega)).mo ?_
    rintro _ G3 ⟨rfl,J⟩
    rw [a2,a3]
    have x:=J.bk S
    have a1:=a0r x
    have a0:o + i + 1<=X.length:=by rw [I.1];omega
    simp [-Int.natCast_add,-Int.natCast_mul,-Int.natCast_ediv,-Int.natCast_emod,F,x,a0,hf,e8,e9]
    refine ⟨k - 1,by omega,i + 1,by omega,ch + j,rfl,rfl,X.set (o + i) z,by rw [a0C a1,c0S],(hx.trans J.extB).set,I.step a5,by omega,?_⟩
    rw [I.win (by omega),w,Y,N1m]
    exact s0j hs hD.symm U a4
  ·simp [p0S,g0,g1,g2,M,s,u,hi]
   have:i=n:=by omega
   subst this
   exact ⟨c,rfl,X,S,hx,I,hs⟩
 ·clear h0 ρ
  rintro t G ⟨c,X,ht,M,S,hx,I,hs⟩
  obtain ⟨ρ,rfl⟩:=toT ht
  simp only [b0H,Nat.reduceLT] at M
  simp [w0a,M]
  refine ⟨X,c,rfl,S,hx,I,?_⟩
  rw [<- hs]
  congr 2
  rw [k0Q ha]
theorem p0n {L:List Nat} {p o n cap:Nat} (hb:H.bk p=.row false a0b (b0C L)) (U:b0g L) (hL:o + n<=L.length) (hv:Lim H v a) (a3:slB v ≠ some p) (hf:fl<=p) (hn:n < 1073741824) (ha:a.length<=n) :
  b0k env fl y0O [.slice (some ⟨p,o,none⟩) n cap,v] H (fun _ G=>∃ X c,G.bk p=.row false a0b (b0C X)/\j0m (some p) H G/\Won L X o n/\win X o n + c * 4294967296 ^ n=win L o n + a0q a) R:=by
 refine y0v I1y (h:=?_)
 intro ρ h0
 simp only [R0L]
 simp [D0s,D0t,h0,i0q]
 generalize O:Value.slice (some ⟨p,o,none⟩) n cap=SL
 refine S0j (fun k t G=>∃ i c X,i + k=n/\t.length=37/\get t 0=SL/\get t 1=v/\get t 4=.int .u64 ((c:Nat):Int)/\get t 7=.int .i64 n/\get t 8=.int .i64 ((i:Nat):Int) /\
   G.bk p=.row false a0b (b0C X)/\j0m (some p) H G/\Won L X o i/\c<=1/\win X o i + c * 4294967296 ^ i=win L o i + win a 0 i) ?_ n ?_
 ·clear h0 ρ
  rintro k t G ⟨i,c,X,a4,ht,Y,Z,g4,g7,g8,N,hx,y,hc,hs⟩
  obtain ⟨ρ,rfl⟩:=toT ht
  simp only [b0H,Nat.reduceLT] at Y Z g4 g7 g8
  by_cases hi:i < n
  ·have e9:IntKind.i64.wrap ((i:Int) + 1)=((i + 1:Nat):Int):=by rw [b0d (by omega) (by omega)];omega
   obtain ⟨r,u⟩:=m0C (k:=.i64) (cap:=cap) N (by rw [y.1];exact hL) hi
   rw [O] at r
   have a2:X.getD (o + i) 0=L.getD (o + i) 0:=y.2.2 _ (by omega)
   have hA:=c0z U (o + i)
   rw [a2] at u
   have F:win L o (i + 1)=win L o i + 4294967296 ^ i * L.getD (o + i) 0:=rfl
   have j:win a 0 (i + 1)=win a 0 i + 4294967296 ^ i * a.getD i 0:=by rw [win,N1q]
   generalize L.getD (o + i) 0=A at u hA F
   have eA:IntKind.u64.wrap (A:Int)=(A:Int):=by rw [a0x];omega
   have e1:IntKind.u64.wrap ((c:Int) + (A:Int))=((c + A:Nat):Int):=by rw [a0x];omega
   have x:=hv.off hx a3
   have hV:=c0z hv.ok i
   by_cases w:i < a.length
   ·have S:=x.load w (Ext.refl _)
    have Q:=x.ia (k:=.i64) w
    generalize a.getD i 0=V at S j hV
    have eV:IntKind.u64.wrap (V:Int)=(V:Int):=by rw [a0x];omega
    have e2:IntKind.u64.wrap (((c + A:Nat):Int) + (V:Int))=((c + A + V:Nat):Int):=by rw [a0x];omega
    simp [-Int.natCast_add,-Int.natCast_mul,-Int.natCast_ediv,-Int.natCast_emod,p0T,u0i,u0j,u0k,u0l,u0m,u0n,u0o,Y,Z,g4,g7,g8,hi,x.slen,w,Q,S,eV,e1,e2,r,u,eA]
    generalize hD:c + A + V=D at *
    have z:D=(D / 4294967296) * 4294967296 + D % 4294967296:=(P1a D 4294967296).symm
    have I:=N1R D (show 0 < 4294967296 by omega)
    refine (a0h (by have:=a0r N;omega)).mo ?_
    rintro _ G3 ⟨rfl,s⟩
    generalize D / 4294967296=ch at *
    generalize D % 4294967296=cm at *
    have q:=s.bk N
    have M:=a0r q
    have J:o + i + 1<=X.length:=by rw [y.1];omega
    simp [-Int.natCast_add,-Int.natCast_mul,-Int.natCast_ediv,-Int.natCast_emod,r,q,J,hf,e9]
    refine ⟨k - 1,by omega,i + 1,by omega,ch,rfl,rfl,X.set (o + i) cm,by rw [a0C M,c0S],(hx.trans s.extB).set,y.step I,by omega,?_⟩
    rw [y.win (by omega),j,F,N1m]
    exact r0j hs hD.symm z
   ·have a1:a.getD i 0=0:=by rw [M1R,N1d (by omega)];rfl
    rw [a1] at j
    obtain ⟨V,hV⟩:∃ V,V=0:=⟨0,rfl⟩
    replace j:win a 0 (i + 1)=win a 0 i + 4294967296 ^ i * V:=by rw [j,hV]
    have a0:IntKind.u64.wrap ((c:Int) + (A:Int))=((c + A + V:Nat):Int):=by rw [e1,hV];rfl
    simp [-Int.natCast_add,-Int.natCast_mul,-Int.natCast_ediv,-Int.natCast_emod,p0T,u0i,u0j,u0k,u0l,u0m,u0n,u0o,Y,Z,g4,g7,g8,hi,x.slen,w,r,u,a0,eA]
    generalize hD:c + A + V=D at *
    have z:D=(D / 4294967296) * 4294967296 + D % 4294967296:=(P1a D 4294967296).symm
    have I:=N1R D (show 0 < 4294967296 by omega)
    refine (a0h (by have:=a0r N;omega)).mo ?_
    rintro _ G3 ⟨rfl,s⟩
    generalize D / 4294967296=ch at *
    generalize D % 4294967296=cm at *
    have q:=s.bk N
    have M:=a0r q
    have J:o + i + 1<=X.length:=by rw [y.1];omega
    simp [-Int.natCast_add,-Int.natCast_mul,-Int.natCast_ediv,-Int.natCast_emod,r,q,J,hf,e9]
    refine ⟨k - 1,by omega,i + 1,by omega,ch,rfl,rfl,X.set (o + i) cm,by rw [a0C M,c0S],(hx.trans s.extB).set,y.step I,by omega,?_⟩
    rw [y.win (by omega),j,F,N1m]
    exact r0j hs hD.symm z
  ·simp [p0T,Y,Z,g4,g7,g8,hi]
   have:i=n:=by omega
   subst this
   exact ⟨X,N,hx,y,c,by rw [hs,k0Q ha]⟩
 ·exact ⟨0,0,L,by omega,by simp,by simp [h0,O],by simp [h0],by simp,by simp,by simp,hb,j0m.refl,Won.zero U,by omega,by simp [win]⟩
end
section
theorem c0O {L:List Nat} {o i:Nat}:∀ {j:Nat},win L o (i + j)=win L o i + 4294967296 ^ i * win L (o + i) j
 | 0=>by simp [win]
 | j + 1=>by
  rw [<- N1U,win,c0O,win,N1a,<- N1h,<- O1S,N1U o i j,N1U]
theorem t1Y {L:List Nat} {o k:Nat} (c:2<=k):win L o (k + 1)=win L o (k - 2) + 4294967296 ^ (k - 2) * ((L.getD (o + k) 0 * 4294967296 + L.getD (o + (k - 1)) 0) * 4294967296 + L.getD (o + (k - 2)) 0):=by
 obtain ⟨j,rfl⟩:∃ j,k=j + 2:=⟨k - 2,by omega⟩
 rw [show j + 2 - 2=j by omega,show j + 2 + 1=j + 3 by omega,c0O,show j + 2 - 1=j + 1 by omega]
 congr 2
 simp only [win]
 rw [show o + j + 0=o + j by omega,show o + j + 1=o + (j + 1) by omega,show o + j + 2=o + (j + 2) by omega]
 omega
theorem S0g {L:List Nat} {o k:Nat} (c:2<=k):win L o k=win L o (k - 2) + 4294967296 ^ (k - 2) * (L.getD (o + (k - 1)) 0 * 4294967296 + L.getD (o + (k - 2)) 0):=by
 obtain ⟨j,rfl⟩:∃ j,k=j + 2:=⟨k - 2,by omega⟩
 rw [show j + 2 - 2=j by omega,c0O,show j + 2 - 1=j + 1 by omega]
 congr 2
 simp only [win]
 rw [show o + j + 0=o + j by omega,show o + j + 1=o + (j + 1) by omega]
 omega
structure Gs (W low lowV Uw V x u3 top next B:Nat):Prop where
 W0:0 < W
 hlow:low < W
 hlowV:lowV < W
 hU:Uw=low + W * (x * B + u3)
 hV:V=lowV + W * (top * B + next)
 hB:B<=2 * top
 htop:top < B
 hnext:next < B
 hu3:u3 < B
 lt:Uw < V * B
variable {W low lowV Uw V x u3 top next B g rest q:Nat}
theorem Gs.V0 (h:Gs W low lowV Uw V x u3 top next B):0 < V:=by
 rw [h.hV]
 have c:0 < top:=by have:=h.hB;have:=h.htop;omega
 have j:0 < B:=by have:=h.htop;omega
 have:=Nat.mul_pos h.W0 (show 0 < top * B + next by have:=Nat.mul_pos c j;omega)
 omega
theorem Gs.V_lt (h:Gs W low lowV Uw V x u3 top next B):V < W * (top * B + next + 1):=by
 rw [h.hV,N1a W (top * B + next) 1,N1W];have:=h.hlowV;omega
theorem Gs.U_lt (h:Gs W low lowV Uw V x u3 top next B):Uw < W * (x * B + u3 + 1):=by
 rw [h.hU,N1a W (x * B + u3) 1,N1W];have:=h.hlow;omega
theorem Gs.V_ge (h:Gs W low lowV Uw V x u3 top next B):W * (top * B + next)<=V:=by rw [h.hV];omega
theorem Gs.U_ge (h:Gs W low lowV Uw V x u3 top next B):W * (x * B + u3)<=Uw:=by rw [h.hU];omega
theorem Gs.q_lt (h:Gs W low lowV Uw V x u3 top next B):Uw / V < B:=by
 rw [O1b h.V0,N1p];exact h.lt
theorem Gs.q_le (h:Gs W low lowV Uw V x u3 top next B):Uw / V<=x / top:=by
 have c:0 < top:=by have:=h.hB;have:=h.htop;omega
 rw [Nat.le_div_iff_mul_le c]
 have k:=Nat.div_mul_le_self Uw V
 generalize Uw / V=q at *
 have r:W * (q * (top * B))<=q * V:=by
  calc W * (q * (top * B))<=W * (q * (top * B + next)):=N1w _ (N1w _ (by omega))
   _=q * (W * (top * B + next)):=by grind
   _<=q * V:=N1w _ h.V_ge
 have s:=h.U_lt
 have u:q * (top * B) < x * B + u3 + 1:=N1Y (a:=W) (by omega)
 have w:=h.hu3
 have j:q * top * B < (x + 1) * B:=by rw [N1h,N1t];omega
 have:=O1X j
 omega
theorem Gs.x_lt (h:Gs W low lowV Uw V x u3 top next B):x < top * B + B:=by
 have k:=h.U_ge
 have q:=h.lt
 have r:=h.V_lt
 have hB:0 < B:=by have:=h.htop;omega
 have c:W * (x * B + u3) < W * ((top * B + next + 1) * B):=by
  have:V * B<=W * (top * B + next + 1) * B:=N1e _ (by omega)
  rw [N1h] at this;omega
 have s:=N1Y c
 have j:x * B < (top * B + next + 1) * B:=by omega
 have:=O1X j
 have:=h.hnext
 omega
theorem Gs.down (h:Gs W low lowV Uw V x u3 top next B) (s:g * top + rest=x) (z:Uw / V<=g) (hc:B<=g ∨ rest * B + u3 < g * next):Uw / V<=g - 1/\0 < g:=by
 have u:=h.q_lt
 have hB:0 < B:=by have:=h.htop;omega
 rcases hc with hc | hc
 ·omega
 ·have r:Uw / V ≠ g:=by
   intro k
   have c:=Nat.div_mul_le_self Uw V
   rw [k] at c
   have w:W * (g * (top * B + next))<=g * V:=by
    calc W * (g * (top * B + next))=g * (W * (top * B + next)):=by grind
     _<=g * V:=N1w _ h.V_ge
   have y:=h.U_lt
   have j:g * (top * B + next) < x * B + u3 + 1:=N1Y (a:=W) (by omega)
   rw [<- s,N1t,N1a,<- N1h] at j
   omega
  generalize Uw / V=q at *
  omega
theorem Gs.fine (h:Gs W low lowV Uw V x u3 top next B) (y:g * top + rest=x) (J:g < B) (hc:g * next<=rest * B + u3):g<=Uw / V + 1:=by
 by_cases k:g<=Uw / V + 1
 ·exact k
 ·exfalso
  have j:Uw / V + 1<=g - 1:=by generalize Uw / V=q at *;omega
  have z:Uw < (Uw / V + 1) * V:=by
   have:=O1t Uw V
   have s:=N1R Uw h.V0
   rw [N1t,N1p (Uw / V)];omega
  have s:(Uw / V + 1) * V<=(g - 1) * V:=N1e _ j
  have F:(g - 1) * V<=(g - 1) * (W * (top * B + next + 1)):=N1w _ (by have:=h.V_lt;omega)
  have G:=h.U_ge
  have u:W * (x * B + u3) < W * ((g - 1) * (top * B + next + 1)):=by
   have:(g - 1) * (W * (top * B + next + 1))=W * ((g - 1) * (top * B + next + 1)):=by grind
   omega
  have r:=N1Y u
  obtain ⟨c,rfl⟩:∃ c,g=c + 1:=⟨g - 1,by generalize Uw / V=q at *;omega⟩
  rw [show c + 1 - 1=c by omega] at r
  have w:(c + 1) * (top * B + next)<=x * B + u3:=by
   rw [<- y,N1t ((c + 1) * top),N1a (c + 1),<- N1h];omega
  have H:top * B + next < c:=by
   rw [N1t,O1e] at w
   rw [N1a,N1W] at r
   omega
  have I:B<=top * B:=Nat.le_mul_of_pos_left _ (by have:=h.hB;have:=h.htop;omega)
  omega
theorem F0m {X c P:Nat} (h:Gs W low lowV Uw V x u3 top next B) (G:Uw / V<=g) (H:g<=Uw / V + 1) (hs:X + g * V=Uw + c * P) (L:X < P) (hP:V < P) :
  (c=0->g=Uw / V/\X=Uw % V)/\(c ≠ 0->g=Uw / V + 1/\∀ s c',s + c' * P=X + V->s < P->s = Uw % V):=by
 have M:=O1t Uw V
 have N:=N1R Uw h.V0
 generalize Uw / V=q at *
 generalize Uw % V=r at *
 refine ⟨fun hc=>?_,fun hc=>?_⟩
 ·subst hc
  rw [Nat.zero_mul,N1O] at hs
  by_cases k:g=q
  ·subst k;refine ⟨rfl,?_⟩;rw [N1p g V] at hs;omega
  ·have:g=q + 1:=by omega
   subst this
   rw [N1t,O1e,N1p q V] at hs;omega
 ·have F:P<=c * P:=Nat.le_mul_of_pos_left _ (by omega)
  by_cases k:g=q
  ·subst k;rw [N1p g V] at hs;omega
  ·have k:g=q + 1:=by omega
   subst k
   refine ⟨rfl,fun s c' I J=>?_⟩
   rw [N1t,O1e,N1p q V] at hs
   have u:c=1:=by
    by_cases w:2<=c
    ·have:2 * P<=c * P:=N1e _ w
     omega
    ·omega
   subst u
   have j:c' = 1:=by
    by_cases y:c' = 0
    ·subst y;omega
    ·by_cases z:2<=c'
     ·have:2 * P<=c' * P:=N1e _ z
      omega
     ·omega
   subst j
   omega
theorem v0f {BB i k n q r V w:Nat} {L X Q:List Nat} (c:BB=4294967296) (F:L.length=n) (s:Won L X i (k + 1)) (Y:i + (k + 1)<=n) (G:i < Q.length) (hU:w=a0q (Q.drop (i + 1)) * BB ^ (i + 1) * V + a0q L) (hV:V < BB ^ k) (N:a0q L < V * BB ^ (i + 1))
  (O:win L i (k + 1)=V * q + r) (R:r < V) (J:win X i (k + 1)=r) :
  a0q X < V * BB ^ i/\w=a0q ((Q.set i q).drop i) * BB ^ i * V + a0q X:=by
 obtain ⟨j,rfl⟩:∃ j,n=i + (k + 1) + j:=⟨n - (i + (k + 1)),by omega⟩
 have u:a0q L=win L 0 i + BB ^ i * (win L i (k + 1) + BB ^ (k + 1) * win L (i + (k + 1)) j):=by
  have h:=i0B (L:=L) (M1U _)
  rw [N1f,F,N1U,c0O,c0O,N1q] at h
  rw [h,c]
 have e2:a0q X=win X 0 i + BB ^ i * (win X i (k + 1) + BB ^ (k + 1) * win X (i + (k + 1)) j):=by
  have h:=i0B (L:=X) (M1U _)
  rw [N1f,s.1,F,N1U,c0O,c0O,N1q] at h
  rw [h,c]
 have x:win X 0 i=win L 0 i:=k0q fun j M=>s.2.2 _ (by omega)
 have H:win X (i + (k + 1)) j=win L (i + (k + 1)) j:=k0q fun j M=>s.2.2 _ (by omega)
 have hP:0 < BB ^ i:=Nat.pow_pos (by omega)
 have y:win L (i + (k + 1)) j=0:=by
  by_cases I:win L (i + (k + 1)) j=0
  ·exact I
  ·exfalso
   have h:BB ^ i * BB ^ (k + 1)<=a0q L:=by
    rw [u]
    have:BB ^ i * BB ^ (k + 1)<=BB ^ i * (win L i (k + 1) + BB ^ (k + 1) * win L (i + (k + 1)) j):=N1w _ (by
     have:=Nat.le_mul_of_pos_right (BB ^ (k + 1)) (by omega:0 < win L (i + (k + 1)) j);omega)
    omega
   have S:V * BB ^ (i + 1)<=BB ^ k * BB ^ (i + 1):=N1e _ (by omega)
   have U:BB ^ k * BB ^ (i + 1)=BB ^ i * BB ^ (k + 1):=by rw [<- O1S,<- O1S];congr 1;omega
   omega
 rw [y,Nat.mul_zero,N1O] at u
 rw [x,H,y,Nat.mul_zero,N1O,J] at e2
 have hlow:win L 0 i < BB ^ i:=by
  rw [<- x,c];exact l0o s.2.1 0 i
 refine ⟨?_,?_⟩
 ·rw [e2]
  have:BB ^ i * (r + 1)<=BB ^ i * V:=N1w _ R
  rw [N1a,N1W] at this
  rw [N1p V];omega
 ·have z:=f0O (l:=Q.set i q) (n:=i) (by simpa using G)
  rw [M1R,O1v G,N1D,List.drop_set_of_lt (show i < i + 1 by omega),<- c] at z
  rw [hU,u,e2,O,z,N1m]
  grind
