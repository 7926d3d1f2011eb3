/- Part 8 of the proof. -/
import Derived.Test.YtgopfcmbofkmmaaGreatM06
set_option linter.unusedVariables false
set_option linter.unusedSimpArgs false
set_option linter.unusedSectionVars false
set_option maxHeartbeats 4000000
namespace Go.Proofs.YtgopfcmbofkmmaaGreat.AI
open Go
section
variable {fl:Nat} {H:a0c} {R:a0P} {v w:Value} {a b:List Nat}
theorem Lim.ok {l:List Nat} (h:Lim H v l):b0g l:=h.2
theorem a0H {l:List Nat} {n:Nat} (h:n < l.length):a0q (l.take (n + 1))=a0q (l.take n) + 4294967296 ^ n * l.getD n 0:=by
 rw [d0J h,c0a,N1Z,N1J (by omega)]
theorem p0o (ha:Lim H v a) (hb:Lim H w b) (hf:fl<=H.size) (hna:a.length < 1073741824) (hnb:b.length < 1073741824) :
  b0k env fl y0Q [v,w] H (fun r H'=>(∃ o,Lim H' r o/\a0q o=a0q a + a0q b/\o.length=max a.length b.length + 1)/\Ext H H') R:=by
 refine a0i I1A hf (h:=?_)
 intro ρ h0
 simp only [R0N]
 refine i0G (m0d ?_)
 simp [-u0X,D0x,h0]
 refine i0G (u1S (fun t G=>G=H/\t.length=55/\∃ v w a' b',get t 0=v/\get t 1=w/\Lim H v a'/\Lim H w b'/\b'.length<=a'.length/\a'.length=max a.length b.length/\a0q a' + a0q b' = a0q a + a0q b) ?_ ?_)
 ·simp [D0y,D0z,h0,ha.slen,hb.slen]
  exact ⟨fun h=>⟨b,hb,a,ha,by omega,by omega,by omega⟩,fun h=>⟨a,ha,b,hb,by omega,by omega,by omega⟩⟩
 clear h0 ρ
 rintro t G ⟨rfl,ht,v,w,a',b',g0,g1,ha',hb',hle,hlen,hsum⟩
 obtain ⟨ρ,rfl⟩:=toT ht
 simp only [b0H,Nat.reduceLT] at g0 g1
 have hna':a'.length < 1073741824:=by omega
 rw [<- hlen,<- hsum]
 clear ha hb hna hnb hlen hsum a b
 have w1:IntKind.i64.wrap ((a'.length:Int) + 1)=(a'.length:Int) + 1:=b0d (by omega) (by omega)
 have hm:=G1p (bytes:=4) (k:=.i64) (k':=.i64) (l:=0) (c:=(a'.length:Int) + 1) (by omega) (by omega) (by omega) (by omega)
 simp [D0A,D0B,D0C,g0,g1,ha'.slen,w1,hm]
 refine b0X (fun k t G'=>∃ i c out s,i + k=a'.length/\t.length=55/\get t 1=w/\get t 5=s/\get t 6=.int .u64 ((c:Nat):Int)/\get t 20=v/\get t 21=.int .i64 a'.length/\get t 22=.int .i64 ((i:Nat):Int) /\
   Ext G G'/\Own G.size G' a0b 1 s i (b0C out)/\b0g out/\out.length=i/\c<=1/\a0q out + 4294967296 ^ i * c=a0q (a'.take i) + a0q (b'.take i))
  (fun t G'=>∃ c out s,t.length=55/\get t 5=s/\get t 6=.int .u64 ((c:Nat):Int) /\
   Ext G G'/\Own G.size G' a0b 1 s a'.length (b0C out)/\b0g out/\out.length=a'.length/\c<=1/\a0q out + 4294967296 ^ a'.length * c=a0q a' + a0q b') a'.length ?_ ?_ ?_
 ·exact ⟨0,0,[],.slice (some ⟨G.size,0,none⟩) 0 (a'.length + 1),by omega,by simp,by simp [g1],by simp,by simp,by simp,by simp,by simp,by simp,
   Own.mk (by simp [b0C]) rfl (M1U _),by intro x hx;simp at hx,rfl,by omega,by simp [a0q]⟩
 ·clear g0 g1 hm w1 ht ρ
  rintro k t G' ⟨i,c,out,s,hik,ht,g1,g5,g6,g20,g21,g22,hx,ho,hok,hol,hc,hs⟩
  obtain ⟨ρ,rfl⟩:=toT ht
  simp only [b0H,Nat.reduceLT] at g1 g5 g6 g20 g21 g22
  by_cases hi:i < a'.length
  ·have hla:=ha'.load hi hx
   have hA2:=a0H hi
   have hA3:a'.getD i 0 < 4294967296:=ha'.2 _ (by rw [M1R,M1X hi];exact N1j hi)
   generalize a'.getD i 0=A at hla hA2 hA3
   have e1:IntKind.u64.wrap ((c:Int) + IntKind.u64.wrap (A:Int))=((c + A:Nat):Int):=by rw [a0x,a0x];omega
   have e9:IntKind.i64.wrap ((i:Int) + 1)=((i + 1:Nat):Int):=by rw [b0d (by omega) (by omega)];omega
   by_cases hib:i < b'.length
   ·have hlb:=hb'.load hib hx
    have hB2:=a0H hib
    have hB3:b'.getD i 0 < 4294967296:=hb'.2 _ (by rw [M1R,M1X hib];exact N1j hib)
    generalize b'.getD i 0=B at hlb hB2 hB3
    have e2:IntKind.u64.wrap (((c + A:Nat):Int) + IntKind.u64.wrap (B:Int))=((c + A + B:Nat):Int):=by rw [a0x,a0x];omega
    simp [-Int.natCast_add,p0Z,u0v,u0w,u0x,p0V,p0W,p0X,p0Y,g1,g5,g6,g20,g21,g22,hi,ha'.ia hi,hla,hb'.slen,e1,hib,hb'.ia hib,hlb,e2]
    generalize hc2:c + A + B=c2
    refine (a0h hx.1).mo ?_
    rintro _ G2 ⟨rfl,hx2⟩
    obtain ⟨s',G3,h1,h2,h3,h4⟩:=e0c (e2:=a0b) (new:=[.int .u32 ((c2 % 4294967296:Nat):Int)]) (c:=1) (bytes:=4) (ho.mo hx2) rfl rfl (by omega) (by omega) (by omega) (by have:=hx.1;have:=hx2.1;omega)
    simp [-Int.natCast_emod,-Int.natCast_add,h1,g1,g5,g6,g20,g21,g22,e9]
    refine ⟨k - 1,by omega,i + 1,by omega,c2 / 4294967296,rfl,rfl,h4 _ (M1U _) (hx.trans hx2),out ++ [c2 % 4294967296],by simpa [b0C] using h2,?_,by simp [hol],by omega,?_⟩
    ·intro x hx
     rcases N1B.1 hx with hx | hx
     ·exact hok x hx
     ·simp at hx;omega
    ·rw [c0a,hol,hA2,hB2,N1m]
     have e3:4294967296 ^ i * 4294967296 * (c2 / 4294967296)=4294967296 ^ i * (4294967296 * (c2 / 4294967296)):=N1h ..
     have e4:4294967296 ^ i * (c2 % 4294967296) + 4294967296 ^ i * (4294967296 * (c2 / 4294967296))=4294967296 ^ i * c2:=by rw [<- N1a,Nat.mod_add_div]
     have e5:4294967296 ^ i * c2=4294967296 ^ i * c + 4294967296 ^ i * A + 4294967296 ^ i * B:=by rw [<- hc2,N1a,N1a]
     omega
   ·have hB2:a0q (b'.take (i + 1))=a0q (b'.take i) + 4294967296 ^ i * 0:=by rw [N1c (by omega),N1c (by omega)];simp
    have hB3:(0:Nat) < 4294967296:=by omega
    have e2:c + A=c + A + 0:=rfl
    rw [e2] at e1
    generalize (0:Nat)=B at hB2 hB3 e1
    simp [-Int.natCast_add,p0Z,u0v,u0w,u0x,p0V,p0W,p0X,p0Y,g1,g5,g6,g20,g21,g22,hi,ha'.ia hi,hla,hb'.slen,e1,hib]
    generalize hc2:c + A + B=c2
    refine (a0h hx.1).mo ?_
    rintro _ G2 ⟨rfl,hx2⟩
    obtain ⟨s',G3,h1,h2,h3,h4⟩:=e0c (e2:=a0b) (new:=[.int .u32 ((c2 % 4294967296:Nat):Int)]) (c:=1) (bytes:=4) (ho.mo hx2) rfl rfl (by omega) (by omega) (by omega) (by have:=hx.1;have:=hx2.1;omega)
    simp [-Int.natCast_emod,-Int.natCast_add,h1,g1,g5,g6,g20,g21,g22,e9]
    refine ⟨k - 1,by omega,i + 1,by omega,c2 / 4294967296,rfl,rfl,h4 _ (M1U _) (hx.trans hx2),out ++ [c2 % 4294967296],by simpa [b0C] using h2,?_,by simp [hol],by omega,?_⟩
    ·intro x hx
     rcases N1B.1 hx with hx | hx
     ·exact hok x hx
     ·simp at hx;omega
    ·rw [c0a,hol,hA2,hB2,N1m]
     have e3:4294967296 ^ i * 4294967296 * (c2 / 4294967296)=4294967296 ^ i * (4294967296 * (c2 / 4294967296)):=N1h ..
     have e4:4294967296 ^ i * (c2 % 4294967296) + 4294967296 ^ i * (4294967296 * (c2 / 4294967296))=4294967296 ^ i * c2:=by rw [<- N1a,Nat.mod_add_div]
     have e5:4294967296 ^ i * c2=4294967296 ^ i * c + 4294967296 ^ i * A + 4294967296 ^ i * B:=by rw [<- hc2,N1a,N1a]
     omega
  ·simp [p0Z,g1,g5,g6,g20,g21,g22,hi]
   have:i=a'.length:=by omega
   subst this
   refine ⟨c,rfl,hx,out,ho,hok,hol,hc,?_⟩
   rw [hs,N1c (M1U _),N1c hle]
 ·clear g0 g1 hm w1 ht ρ
  rintro t G' ⟨c,out,s,ht,g5,g6,hx,ho,hok,hol,hc,hs⟩
  obtain ⟨ρ,rfl⟩:=toT ht
  simp only [b0H,Nat.reduceLT] at g5 g6
  simp [w0c,g5,g6]
  refine (a0h hx.1).mo ?_
  rintro _ G2 ⟨rfl,hx2⟩
  obtain ⟨s',G3,h1,h2,h3,h4⟩:=e0c (e2:=a0b) (new:=[.int .u32 ((c % 4294967296:Nat):Int)]) (c:=1) (bytes:=4) (ho.mo hx2) rfl rfl (by omega) (by omega) (by omega) (by have:=hx.1;have:=hx2.1;omega)
  simp [-Int.natCast_emod,-Int.natCast_add,h1]
  refine fun _=>⟨out ++ [c % 4294967296],⟨by simpa [hol,b0C] using h2.sl,?_⟩,?_,by simp [hol]⟩
  ·intro x hx
   rcases N1B.1 hx with hx | hx
   ·exact hok x hx
   ·simp at hx;omega
  ·rw [c0a,hol,N1o (by omega)];exact hs
theorem j0a (ha:Lim H v a) (hb:Lim H w b) (hf:fl<=H.size) (hna:a.length < 1073741824) (hle:b.length<=a.length) (hnat:a0q b<=a0q a) :
  b0k env fl w0W [v,w] H (fun r H'=>(∃ o,Lim H' r o/\a0q o=a0q a - a0q b/\o.length=a.length)/\Ext H H') R:=by
 refine a0i I1B hf (h:=?_)
 intro ρ h0
 simp only [R0O]
 have hm:=G1p (bytes:=4) (k:=.i64) (k':=.i64) (l:=0) (c:=(a.length:Int)) (by omega) (by omega) (by omega) (by omega)
 simp [D0D,D0E,D0F,D0G,h0,ha.slen,hm]
 refine b0X (fun k t G'=>∃ i c out s,i + k=a.length/\t.length=46/\get t 1=w/\get t 5=s/\get t 6=.int .u64 ((c:Nat):Int)/\get t 14=v/\get t 15=.int .i64 a.length/\get t 16=.int .i64 ((i:Nat):Int) /\
   Ext H G'/\Own H.size G' a0b 1 s i (b0C out)/\b0g out/\out.length=i/\c<=1/\a0q out + a0q (b.take i)=a0q (a.take i) + 4294967296 ^ i * c)
  (fun t G'=>∃ c out s,t.length=46/\get t 5=s /\
   Ext H G'/\Own H.size G' a0b 1 s a.length (b0C out)/\b0g out/\out.length=a.length/\c<=1/\a0q out + a0q b=a0q a + 4294967296 ^ a.length * c) a.length ?_ ?_ ?_
 ·exact ⟨0,0,[],.slice (some ⟨H.size,0,none⟩) 0 a.length,by omega,by simp,by simp [h0],by simp,by simp,by simp [h0],by simp,by simp,by simp,
   Own.mk (by simp [b0C]) rfl (M1U _),by intro x hx;simp at hx,rfl,by omega,by simp [a0q]⟩
 ·clear hm h0 ρ
  rintro k t G' ⟨i,c,out,s,hik,ht,g1,g5,g6,g14,g15,g16,hx,ho,hok,hol,hc,hs⟩
  obtain ⟨ρ,rfl⟩:=toT ht
  simp only [b0H,Nat.reduceLT] at g1 g5 g6 g14 g15 g16
  by_cases hi:i < a.length
  ·have hla:=ha.load hi hx
   have hA2:=a0H hi
   have hA3:a.getD i 0 < 4294967296:=ha.2 _ (by rw [M1R,M1X hi];exact N1j hi)
   generalize a.getD i 0=A at hla hA2 hA3
   have e9:IntKind.i64.wrap ((i:Int) + 1)=((i + 1:Nat):Int):=by rw [b0d (by omega) (by omega)];omega
   by_cases hib:i < b.length
   ·have hlb:=hb.load hib hx
    have hB2:=a0H hib
    have hB3:b.getD i 0 < 4294967296:=hb.2 _ (by rw [M1R,M1X hib];exact N1j hib)
    generalize b.getD i 0=B at hlb hB2 hB3
    have e2:IntKind.u64.wrap ((c:Int) + IntKind.u64.wrap (B:Int))=((c + B:Nat):Int):=by rw [a0x,a0x];omega
    have e3:IntKind.u64.wrap (IntKind.u64.wrap (A:Int) - ((c + B:Nat):Int))=(((A + 18446744073709551616 - (c + B)) % 18446744073709551616:Nat):Int):=by rw [a0x,a0x];omega
    simp [-Int.natCast_add,-Int.natCast_emod,q0d,u0y,u0z,u0A,u0B,u0C,q0a,q0b,q0c,g1,g5,g6,g14,g15,g16,hi,ha.ia hi,hla,hb.slen,hib,hb.ia hib,hlb,e2,e3]
    generalize hD:(A + 18446744073709551616 - (c + B)) % 18446744073709551616=D
    refine (a0h hx.1).mo ?_
    rintro _ G2 ⟨rfl,hx2⟩
    obtain ⟨s',G3,h1,h2,h3,h4⟩:=e0c (e2:=a0b) (new:=[.int .u32 ((D % 4294967296:Nat):Int)]) (c:=1) (bytes:=4) (ho.mo hx2) rfl rfl (by omega) (by omega) (by omega) (by have:=hx.1;have:=hx2.1;omega)
    simp [-Int.natCast_emod,-Int.natCast_add,h1,g1,g5,g6,g14,g15,g16,e9]
    refine ⟨k - 1,by omega,i + 1,by omega,D / 9223372036854775808,rfl,rfl,h4 _ (M1U _) (hx.trans hx2),out ++ [D % 4294967296],by simpa [b0C] using h2,?_,by simp [hol],by omega,?_⟩
    ·intro x hx
     rcases N1B.1 hx with hx | hx
     ·exact hok x hx
     ·simp at hx;omega
    ·rw [c0a,hol,hA2,hB2,N1m]
     have e3:4294967296 ^ i * 4294967296 * (D / 9223372036854775808)=4294967296 ^ i * (4294967296 * (D / 9223372036854775808)):=N1h ..
     have e4:D % 4294967296 + c + B=A + 4294967296 * (D / 9223372036854775808):=by omega
     have e5:4294967296 ^ i * (D % 4294967296) + 4294967296 ^ i * c + 4294967296 ^ i * B=4294967296 ^ i * A + 4294967296 ^ i * (4294967296 * (D / 9223372036854775808)):=by
      rw [<- N1a,<- N1a,<- N1a,e4]
     omega
   ·have hB2:a0q (b.take (i + 1))=a0q (b.take i) + 4294967296 ^ i * 0:=by rw [N1c (by omega),N1c (by omega)];simp
    have hB3:(0:Nat) < 4294967296:=by omega
    have e3:IntKind.u64.wrap (IntKind.u64.wrap (A:Int) - (c:Int))=(((A + 18446744073709551616 - (c + 0)) % 18446744073709551616:Nat):Int):=by rw [a0x,a0x];omega
    generalize hB:(0:Nat)=B at hB2 hB3 e3
    simp [-Int.natCast_add,-Int.natCast_emod,q0d,u0y,u0z,u0A,u0B,u0C,q0a,q0b,q0c,g1,g5,g6,g14,g15,g16,hi,ha.ia hi,hla,hb.slen,hib,e3]
    generalize hD:(A + 18446744073709551616 - (c + B)) % 18446744073709551616=D
    refine (a0h hx.1).mo ?_
    rintro _ G2 ⟨rfl,hx2⟩
    obtain ⟨s',G3,h1,h2,h3,h4⟩:=e0c (e2:=a0b) (new:=[.int .u32 ((D % 4294967296:Nat):Int)]) (c:=1) (bytes:=4) (ho.mo hx2) rfl rfl (by omega) (by omega) (by omega) (by have:=hx.1;have:=hx2.1;omega)
    simp [-Int.natCast_emod,-Int.natCast_add,h1,g1,g5,g6,g14,g15,g16,e9]
    refine ⟨k - 1,by omega,i + 1,by omega,D / 9223372036854775808,rfl,rfl,h4 _ (M1U _) (hx.trans hx2),out ++ [D % 4294967296],by simpa [b0C] using h2,?_,by simp [hol],by omega,?_⟩
    ·intro x hx
     rcases N1B.1 hx with hx | hx
     ·exact hok x hx
     ·simp at hx;omega
    ·rw [c0a,hol,hA2,hB2,N1m]
     have e3:4294967296 ^ i * 4294967296 * (D / 9223372036854775808)=4294967296 ^ i * (4294967296 * (D / 9223372036854775808)):=N1h ..
     have e4:D % 4294967296 + c + B=A + 4294967296 * (D / 9223372036854775808):=by omega
     have e5:4294967296 ^ i * (D % 4294967296) + 4294967296 ^ i * c + 4294967296 ^ i * B=4294967296 ^ i * A + 4294967296 ^ i * (4294967296 * (D / 9223372036854775808)):=by
      rw [<- N1a,<- N1a,<- N1a,e4]
     omega
  ·simp [q0d,g1,g5,g6,g14,g15,g16,hi]
   have:i=a.length:=by omega
   subst this
   refine ⟨hx,c,out,ho,hok,hol,hc,?_⟩
   rw [N1c (M1U _),N1c hle] at hs
   exact hs
 ·clear hm h0 ρ
  rintro t G' ⟨c,out,s,ht,g5,hx,ho,hok,hol,hc,hs⟩
  obtain ⟨ρ,rfl⟩:=toT ht
  simp only [b0H,Nat.reduceLT] at g5
  simp [w0d,g5]
  refine fun _=>⟨out,⟨by simpa [hol] using ho.sl,hok⟩,?_,hol⟩
  have h2:=g0h out hok
  rw [hol] at h2
  have:c=0:=by
   refine Decidable.byContradiction fun hc0=>?_
   have:c=1:=by omega
   subst this
   omega
  subst this
  omega
def x0Q (a b:List Nat):Int:=if a.length ≠ b.length then i0Y a.length b.length else i0Y (a0q a) (a0q b)
theorem b0Y {x y:Nat}:i0Y (x:Int) (y:Int)=if x < y then -1 else if y < x then 1 else 0:=by
 unfold i0Y;(repeat' split) <;> omega
theorem r0u {i:Nat} (hab:a.length=b.length) (ha:b0g a) (hb:b0g b) (hi:i < a.length) (he:a.drop (i + 1)=b.drop (i + 1)) (hne:a.getD i 0 ≠ b.getD i 0) :
  i0Y (a0q a:Int) (a0q b:Int)=i0Y (a.getD i 0:Int) (b.getD i 0:Int):=by
 have h1:a0q a=a0q (a.take i) + 4294967296 ^ i * a.getD i 0 + 4294967296 ^ (i + 1) * a0q (a.drop (i + 1)):=by
  have:=g0g (a.take (i + 1)) (a.drop (i + 1))
  rw [List.take_append_drop,N1Z,N1J (by omega)] at this
  rw [this,a0H hi]
 have h2:a0q b=a0q (b.take i) + 4294967296 ^ i * b.getD i 0 + 4294967296 ^ (i + 1) * a0q (b.drop (i + 1)):=by
  have:=g0g (b.take (i + 1)) (b.drop (i + 1))
  rw [List.take_append_drop,N1Z,N1J (by omega)] at this
  rw [this,a0H (by omega)]
 have h3:=g0h (a.take i) (fun x hx=>ha x (O1n hx))
 have h4:=g0h (b.take i) (fun x hx=>hb x (O1n hx))
 rw [N1Z,N1J (by omega)] at h3 h4
 rw [he] at h1
 generalize 4294967296 ^ (i + 1) * a0q (b.drop (i + 1))=Z at h1 h2
 generalize a.getD i 0=x at *
 generalize b.getD i 0=y at *
 generalize 4294967296 ^ i=P at *
 rw [b0Y,b0Y]
 by_cases hxy:x < y
 ·have:P * (x + 1)<=P * y:=N1w P hxy
  rw [N1a] at this
  rw [M1Z (by omega),M1Z hxy]
 ·have:P * (y + 1)<=P * x:=N1w P (by omega)
  rw [N1a] at this
  rw [M1V (by omega),M1Z (by omega),M1V hxy,M1Z (by omega)]
theorem f0y (ha:Lim H v a) (hb:Lim H w b) (hf:fl<=H.size) (hna:a.length < 4611686018427387904) :
  b0k env fl q0W [v,w] H (fun r H'=>r=.int .i64 (x0Q a b)/\Ext H H') R:=by
 refine a0i H1U hf (h:=?_)
 intro ρ h0
 simp only [R0t]
 have w1:IntKind.i64.wrap ((a.length:Int) - 1)=(a.length:Int) - 1:=b0d (by omega) (by omega)
 simp [A0u,A0v,A0w,A0x,h0,ha.slen,hb.slen,w1]
 refine ⟨fun h=>?_,fun hab=>?_⟩
 ·refine (j0Z (M1U _)).mo ?_
  rintro _ G ⟨rfl,hx⟩
  simp [x0Q,h]
 have hcl:x0Q a b=i0Y (a0q a) (a0q b):=by simp [x0Q,hab]
 rw [hcl]
 refine b0X (fun k t G'=>t.length=41/\get t 0=v/\get t 1=w/\get t 5=.int .i64 ((k:Int) - 1)/\G' = H/\k<=a.length/\a.drop k=b.drop k)
  (fun t G'=>t.length=41/\G' = H/\a=b) a.length (by simp [h0,hab]) ?_ ?_
 ·clear h0 ρ
  rintro k t G' ⟨ht,g0,g1,g5,rfl,hk,hd⟩
  obtain ⟨ρ,rfl⟩:=toT ht
  simp only [b0H,Nat.reduceLT] at g0 g1 g5
  by_cases hk0:k=0
  ·subst hk0
   simp [t0A,g0,g1,g5]
   simpa using hd
  ·have e0:(k:Int) - 1=((k - 1:Nat):Int):=by omega
   have hka:k - 1 < a.length:=by omega
   have hkb:k - 1 < b.length:=by omega
   have hla:=ha.load hka (Ext.refl _)
   have hlb:=hb.load hkb (Ext.refl _)
   have w2:IntKind.i64.wrap (((k - 1:Nat):Int) - 1)=((k - 1:Nat):Int) - 1:=b0d (by omega) (by omega)
   rw [e0] at g5
   have hla':=ha.ia (k:=.i64) hka
   have hlb':=hb.ia (k:=.i64) hkb
   have hh:=r0u hab ha.ok hb.ok hka (by rw [show k - 1 + 1=k by omega];exact hd)
   generalize hA:a.getD (k - 1) 0=A at hla hh
   generalize hB:b.getD (k - 1) 0=B at hlb hh
   simp [t0A,g0,g1,g5]
   refine c0t ?_
   simp [A0y,g0,g1,g5,hla,hla',hlb,hlb']
   refine ⟨fun hne=>?_,fun heq=>?_⟩
   ·refine c0t ?_
    simp [A0z,g0,g1,g5,hla,hla',hlb,hlb']
    refine (h0V (M1U _)).mo ?_
    rintro _ G ⟨rfl,hx⟩
    simp [hh hne]
   ·simp [A0A,g0,g1,g5,w2]
    refine ⟨k - 1,by omega,rfl,by omega,?_⟩
    rw [N1P hka,N1P hkb,show k - 1 + 1=k by omega,hd]
    congr 1
    rw [M1R,M1X hka] at hA
    rw [M1R,M1X hkb] at hB
    simp at hA hB;omega
 ·clear h0 ρ
  rintro t G' ⟨ht,rfl,rfl⟩
  obtain ⟨ρ,rfl⟩:=toT ht
  simp [A0B,i0Y]
end
section
variable {fl:Nat} {H:a0c} {R:a0P} {v:Value} {i:Bool × List Nat} {a b:List Nat}
theorem c0m.ok (h:c0m H v i):b0g i.2:=by obtain ⟨s,_,hs⟩:=h;exact hs.ok
theorem F0p {l:List Nat} (h:l.length=0 ∨ l.getD (l.length - 1) 0 ≠ 0):c0V l=l:=by
 rcases List.eq_nil_or_concat l with rfl | ⟨l',x,rfl⟩
 ·rfl
 ·have:x ≠ 0:=by
   rcases h with h | h
   ·simp at h
   ·simpa [M1R] using h
  rw [List.concat_eq_append];exact k0O this
theorem m0u (i:Bool × List Nat):c0V (d0N i)=d0N i:=by
 unfold d0N
 by_cases h:d0k i=true
 ·rw [M1Z h]
  refine F0p ?_
  unfold d0k at h
  by_cases h0:i.2.length=0
  ·exact .inl h0
  ·rw [M1V h0] at h;exact .inr (by simpa using h)
 ·rw [M1V h];rfl
theorem z0n (h:b0g i.2):b0g (d0N i):=by
 unfold d0N;split
 ·exact h
 ·intro x hx;simp at hx
theorem S0f (i:Bool × List Nat):(a0B i).natAbs=a0q (d0N i):=by
 unfold a0B d0N
 by_cases h:d0k i=true
 ·rw [M1Z h,M1Z h];split <;> omega
 ·rw [M1V h,M1V h];rfl
theorem h0U (h:b0g i.2):d0N i=a0l (a0B i).natAbs:=by
 rw [S0f,<- c0b _ (z0n h),m0u]
theorem z0C (i:Bool × List Nat):w1m i=decide (a0B i < 0):=by
 unfold w1m a0B
 by_cases h:d0k i=true
 ·rw [M1Z h,h,O1H]
  by_cases hn:i.1=true
  ·have h0:a0q i.2 ≠ 0:=by
    intro h0
    have h1:=(j0W i.2).1 h0
    have h2:=m0u i
    unfold d0N at h2
    rw [M1Z h,h1] at h2
    unfold d0k at h
    rw [<- h2] at h
    simp [hn] at h
   rw [M1Z hn,hn];simp;omega
  ·rw [M1V hn];simp [hn]
 ·rw [M1V h];simp [h]
theorem x0i (i:Bool × List Nat):(d0N i).length<=i.2.length:=by unfold d0N;split <;> simp
theorem a0L (h:b0g i.2):(a0l (a0B i).natAbs).length<=i.2.length:=by rw [<- h0U h];exact x0i i
theorem b0S {m n:Nat} (h:m<=n):(a0l m).length<=(a0l n).length:=f0I (O1Q h (j0S n))
theorem d0v (m n:Nat):x0Q (a0l m) (a0l n)=i0Y m n:=by
 unfold x0Q
 rw [a0p,a0p]
 split
 ·rename_i h
  rw [b0Y,b0Y]
  by_cases hmn:m < n
  ·have:=b0S (Nat.le_of_lt hmn)
   rw [M1Z hmn,M1Z (by omega)]
  ·have:=b0S (show n<=m by omega)
   have hne:m ≠ n:=fun h2=>h (by rw [h2])
   rw [M1V hmn,M1Z (by omega:n < m),M1V (by omega),M1Z (by omega)]
 ·rfl
theorem b0u (h:c0m H v i) (hf:fl<=H.size) (hn:i.2.length < 4611686018427387904) :
  b0k env fl g0b [v] H (fun r H'=>Lim H' r (a0l (a0B i).natAbs)/\Ext H H') R:=by
 rw [<- h0U h.ok];exact n0I h hf hn
theorem b0f (h:c0m H v i) (hf:fl<=H.size) (hn:i.2.length < 4611686018427387904) :
  b0k env fl d0x [v] H (fun r H'=>r=.bool (decide (a0B i < 0))/\Ext H H') R:=by
 rw [<- z0C];exact r0y h hf hn
theorem i0A {l:List Nat} {b:Bool} (z:Int) (h:Lim H v l) (hf:fl<=H.size) (hn:l.length<=1073741824) (hz:(if b then -(a0q l:Int) else a0q l)=z) :
  b0k env fl g0c [.bool b,v] H (fun r H'=>n0t fl H' r (a0J z)/\Ext H H') R:=by
 rw [<- hz,<- z0y h.ok];exact (l0h h hf hn).mo fun _ _ h=>⟨h.1.low hf,h.2⟩
theorem f0a {l:List Nat} {b:Bool} (z:Int) (h:Lim H v l) (hf:fl<=H.size) (hn:l.length<=1073741824) (hz:(if b then -(a0q l:Int) else a0q l)=z) :
  b0k env fl g0c [.bool b,v] H (fun r H'=>n0t H.size H' r (a0J z)/\Ext H H') R:=by
 rw [<- hz,<- z0y h.ok];exact l0h h hf hn
theorem c0m.setT (h:c0m H v i) {p:Nat} {ro:Bool} {e':TypeId} {cs':List Value} {r:Blk} (hb:H.bk p=.row ro e' cs') (hne:e' ≠ a0b):c0m (H.setIfInBounds p r) v i:=by
 obtain ⟨s,h1,h2⟩:=h;exact ⟨s,h1,h2.setT hb hne⟩
end
section
variable {fl:Nat} {H:a0c} {R:a0P} {v w:Value} {i j:Bool × List Nat}
theorem m0z (h:c0m H v i) (hf:fl<=H.size) (hn:i.2.length<=1073741824) :
  b0k env fl n0E [v] H (fun r H'=>n0t H.size H' r (a0J (-a0B i))/\Ext H H') R:=by
 have hh:=h
 obtain ⟨s,rfl,hs⟩:=h
 refine a0i I1C hf (h:=?_)
 intro ρ h0
 simp [R0P,D0M,h0]
 generalize hG:(H.push _).push _=G
 have hx:Ext H G:=by rw [<- hG];simp
 have b0:a0c.bk G H.size=.row false a0a [.bool i.1,s]:=by rw [<- hG];simp
 have b1:a0c.bk G (H.size + 1)=.row false a0a [.bool false,.slice none 0 0]:=by rw [<- hG];simp
 have hz:H.size + 1 < G.size:=a0r b1
 refine c0t ?_
 simp [D0N,h0,b0,b1]
 refine (b0f (hh.mo hx) (by omega) (by omega)).mo ?_
 rintro _ G2 ⟨rfl,hx2⟩
 replace b0:=hx2.bk b0
 replace b1:=hx2.bk b1
 replace hx:=hx.trans hx2
 simp [h0,b0,b1]
 refine (b0u (hh.mo hx) hx.1 (by omega)).mo ?_
 rintro l G3 ⟨hl,hx3⟩
 replace b1:=hx3.bk b1
 replace hx:=hx.trans hx3
 try simp [h0]
 have:=a0L hh.ok
 refine (i0A (-a0B i) hl hx.1 (by omega) (by rw [a0p];simp;split <;> omega)).mo ?_
 rintro _ G4 ⟨⟨s',rfl,hs'⟩,hx4⟩
 replace b1:=hx4.bk b1
 have hz:=a0r b1
 simp [b1,hs'.cells,hs'.plain,hz]
 exact fun _=>⟨s',rfl,hs'.setT b1 (by decide)⟩
theorem r0x (h:c0m H v i) (hf:fl<=H.size) (hn:i.2.length<=1073741824) :
  b0k env fl n0E [v] H (fun r H'=>c0m H' r (a0J (-a0B i))/\Ext H H') R:=(m0z h hf hn).mo fun _ _ h=>⟨h.1.int,h.2⟩
theorem j0x (h:c0m H v i) (k:c0m H w j) (hf:fl<=H.size) (hn:i.2.length < 536870912) (hm:j.2.length < 536870912) :
  b0k env fl m0q [v,w] H (fun r H'=>n0t H.size H' r (a0J (a0B i + a0B j))/\Ext H H') R:=by
 have hh:=h
 have kk:=k
 obtain ⟨s,rfl,hs⟩:=h
 obtain ⟨u,rfl,hu⟩:=k
 refine a0i I1t hf (h:=?_)
 intro ρ h0
 simp [R0I,C0L,h0]
 generalize hG:((H.push _).push _).push _=G
 have hx:Ext H G:=by rw [<- hG];exact (Ext.refl H).push.push.push
 have b0:a0c.bk G H.size=.row false a0a [.bool i.1,s]:=by rw [<- hG];simp
 have b1:a0c.bk G (H.size + 1)=.row false a0a [.bool j.1,u]:=by rw [<- hG];simp
 have b2:a0c.bk G (H.size + 2)=.row false a0a [.bool false,.slice none 0 0]:=by rw [<- hG];simp
 have hz:H.size + 1 < G.size:=a0r b1
 clear hG
 refine c0t ?_
 simp [C0M,h0,b0,b1]
 refine (b0u (hh.mo hx) (by omega) (by omega)).mo ?_
 rintro x G2 ⟨hl,hx2⟩
 replace b0:=hx2.bk b0
 replace b1:=hx2.bk b1
 replace b2:=hx2.bk b2
 replace hx:=hx.trans hx2
 try simp [h0,b0,b1]
 refine (b0u (kk.mo hx) hx.1 (by omega)).mo ?_
 rintro y G3 ⟨hl2,hx3⟩
 replace b0:=hx3.bk b0
 replace b1:=hx3.bk b1
 replace b2:=hx3.bk b2
 replace hx:=hx.trans hx3
 replace hl:=hl.mo hx3
 try simp [h0]
 refine c0t ?_
 simp [C0N,h0,b0,b1]
 refine (b0f (hh.mo hx) (by have:=hx.1;omega) (by omega)).mo ?_
 rintro _ G2 ⟨rfl,hx2⟩
 replace b0:=hx2.bk b0
 replace b1:=hx2.bk b1
 replace b2:=hx2.bk b2
 replace hx:=hx.trans hx2
 replace hl:=hl.mo hx2
 replace hl2:=hl2.mo hx2
 try simp [h0,b0,b1]
 refine (b0f (kk.mo hx) hx.1 (by omega)).mo ?_
 rintro _ G2 ⟨rfl,hx2⟩
 replace b0:=hx2.bk b0
 replace b1:=hx2.bk b1
 replace b2:=hx2.bk b2
 replace hx:=hx.trans hx2
 replace hl:=hl.mo hx2
 replace hl2:=hl2.mo hx2
 clear hs hu hz hx2
 have l1:=a0L hh.ok
 have l2:=a0L kk.ok
 simp [h0]
 refine ⟨fun hsame=>?_,fun hdiff=>?_⟩
 ·simp [C0O,h0,b0]
  refine (b0f (hh.mo hx) hx.1 (by omega)).mo ?_
  rintro _ G2 ⟨rfl,hx2⟩
  replace b0:=hx2.bk b0
  replace b1:=hx2.bk b1
  replace b2:=hx2.bk b2
  replace hx:=hx.trans hx2
  replace hl:=hl.mo hx2
  replace hl2:=hl2.mo hx2
  try simp [h0]
  refine (p0o hl hl2 hx.1 (by omega) (by omega)).mo ?_
  rintro r G2 ⟨⟨o,ho,hon,hol⟩,hx2⟩
  replace b0:=hx2.bk b0
  replace b1:=hx2.bk b1
  replace b2:=hx2.bk b2
  replace hx:=hx.trans hx2
  replace hl:=hl.mo hx2
  replace hl2:=hl2.mo hx2
  try simp [h0]
  rw [a0p,a0p] at hon
  refine (i0A (a0B i + a0B j) ho hx.1 (by omega) (by rw [hon];simp;split <;> omega)).mo ?_
  rintro _ G2 ⟨⟨s',rfl,hs'⟩,hx2⟩
  replace b0:=hx2.bk b0
  replace b1:=hx2.bk b1
  replace b2:=hx2.bk b2
  replace hx:=hx.trans hx2
  replace hl:=hl.mo hx2
  replace hl2:=hl2.mo hx2
  have hz:=a0r b2
  simp [b2,hs'.cells,hs'.plain,hz]
  exact fun _=>⟨s',rfl,hs'.setT b2 (by decide)⟩
 ·simp [C0P,h0]
  refine (f0y hl hl2 hx.1 (by omega)).mo ?_
  rintro _ G2 ⟨rfl,hx2⟩
  replace b0:=hx2.bk b0
  replace b1:=hx2.bk b1
  replace b2:=hx2.bk b2
  replace hx:=hx.trans hx2
  replace hl:=hl.mo hx2
  replace hl2:=hl2.mo hx2
  rw [d0v,b0Y]
  try simp [h0]
  refine ⟨fun hge=>?_,fun hlt=>?_⟩
  ·have hab:(a0B j).natAbs<=(a0B i).natAbs:=by
    (repeat' split at hge) <;> omega
   simp [C0Q,h0,b0]
   refine (b0f (hh.mo hx) hx.1 (by omega)).mo ?_
   rintro _ G2 ⟨rfl,hx2⟩
   replace b0:=hx2.bk b0
   replace b1:=hx2.bk b1
   replace b2:=hx2.bk b2
   replace hx:=hx.trans hx2
   replace hl:=hl.mo hx2
   replace hl2:=hl2.mo hx2
   try simp [h0]
   refine (j0a hl hl2 hx.1 (by omega) (b0S hab) (by rw [a0p,a0p];exact hab)).mo ?_
   rintro r G2 ⟨⟨o,ho,hon,hol⟩,hx2⟩
   replace b0:=hx2.bk b0
   replace b1:=hx2.bk b1
   replace b2:=hx2.bk b2
   replace hx:=hx.trans hx2
   replace hl:=hl.mo hx2
   replace hl2:=hl2.mo hx2
   try simp [h0]
   rw [a0p,a0p] at hon
   refine (i0A (a0B i + a0B j) ho hx.1 (by omega) (by rw [hon];simp;split <;> omega)).mo ?_
   rintro _ G2 ⟨⟨s',rfl,hs'⟩,hx2⟩
   replace b0:=hx2.bk b0
   replace b1:=hx2.bk b1
   replace b2:=hx2.bk b2
   replace hx:=hx.trans hx2
   replace hl:=hl.mo hx2
   replace hl2:=hl2.mo hx2
   have hz:=a0r b2
   simp [b2,hs'.cells,hs'.plain,hz]
   exact fun _=>⟨s',rfl,hs'.setT b2 (by decide)⟩
  ·have hab:(a0B i).natAbs<=(a0B j).natAbs:=by
    (repeat' split at hlt) <;> omega
   simp [C0R,h0,b1]
   refine (b0f (kk.mo hx) hx.1 (by omega)).mo ?_
   rintro _ G2 ⟨rfl,hx2⟩
   replace b0:=hx2.bk b0
   replace b1:=hx2.bk b1
   replace b2:=hx2.bk b2
   replace hx:=hx.trans hx2
   replace hl:=hl.mo hx2
   replace hl2:=hl2.mo hx2
   try simp [h0]
   refine (j0a hl2 hl hx.1 (by omega) (b0S hab) (by rw [a0p,a0p];exact hab)).mo ?_
   rintro r G2 ⟨⟨o,ho,hon,hol⟩,hx2⟩
   replace b0:=hx2.bk b0
   replace b1:=hx2.bk b1
   replace b2:=hx2.bk b2
   replace hx:=hx.trans hx2
   replace hl:=hl.mo hx2
   replace hl2:=hl2.mo hx2
   try simp [h0]
   rw [a0p,a0p] at hon
   refine (i0A (a0B i + a0B j) ho hx.1 (by omega) (by rw [hon];simp;split <;> omega)).mo ?_
   rintro _ G2 ⟨⟨s',rfl,hs'⟩,hx2⟩
   replace b0:=hx2.bk b0
   replace b1:=hx2.bk b1
   replace b2:=hx2.bk b2
   replace hx:=hx.trans hx2
   replace hl:=hl.mo hx2
   replace hl2:=hl2.mo hx2
   have hz:=a0r b2
   simp [b2,hs'.cells,hs'.plain,hz]
   exact fun _=>⟨s',rfl,hs'.setT b2 (by decide)⟩
theorem l0f (h:c0m H v i) (k:c0m H w j) (hf:fl<=H.size) (hn:i.2.length < 536870912) (hm:j.2.length < 536870912) :
  b0k env fl m0q [v,w] H (fun r H'=>c0m H' r (a0J (a0B i + a0B j))/\Ext H H') R:=(j0x h k hf hn hm).mo fun _ _ h=>⟨h.1.int,h.2⟩
theorem z0l (z:Int):(a0J z).2.length=(a0l z.natAbs).length:=rfl
theorem t0k (h:c0m H v i) (k:c0m H w j) (hf:fl<=H.size) (hn:i.2.length < 536870912) (hm:j.2.length < 536870912) :
  b0k env fl y0Z [v,w] H (fun r H'=>n0t H.size H' r (a0J (a0B i - a0B j))/\Ext H H') R:=by
 have hh:=h
 have kk:=k
 obtain ⟨s,rfl,hs⟩:=h
 obtain ⟨u,rfl,hu⟩:=k
 refine a0i I1D hf (h:=?_)
 intro ρ h0
 simp [R0Q,D0U,h0]
 generalize hG:((H.push _).push _).push _=G
 have hx:Ext H G:=by rw [<- hG];exact (Ext.refl H).push.push.push
 have b0:a0c.bk G H.size=.row false a0a [.bool i.1,s]:=by rw [<- hG];simp
 have b1:a0c.bk G (H.size + 1)=.row false a0a [.bool j.1,u]:=by rw [<- hG];simp
 have b2:a0c.bk G (H.size + 2)=.row false a0a [.bool false,.slice none 0 0]:=by rw [<- hG];simp
 clear hG
 refine c0t ?_
 simp [D0V,h0,b0,b1]
 refine (r0x (kk.mo hx) (by have:=hx.1;omega) (by omega)).mo ?_
 rintro x G2 ⟨hl,hx2⟩
 replace b0:=hx2.bk b0
 replace b1:=hx2.bk b1
 replace b2:=hx2.bk b2
 replace hx:=hx.trans hx2
 try simp [h0]
 have hlen:(a0J (-a0B j)).2.length < 536870912:=by
  rw [z0l,Int.natAbs_neg];have:=a0L kk.ok;omega
 have hsz0:=hx.1
 refine (j0x (hh.mo hx) hl hx.1 hn hlen).mo ?_
 rintro _ G2 ⟨⟨s',rfl,hs'⟩,hx2⟩
 replace hs':=hs'.low hsz0
 replace b0:=hx2.bk b0
 replace b1:=hx2.bk b1
 replace b2:=hx2.bk b2
 replace hx:=hx.trans hx2
 have hz:=a0r b2
 simp [b2,hs'.cells,hs'.plain,hz]
 rw [b0m] at hs' ⊢
 exact fun _=>⟨s',by rw [Int.sub_eq_add_neg],by rw [Int.sub_eq_add_neg];exact hs'.setT b2 (by decide)⟩
theorem f0x (h:c0m H v i) (k:c0m H w j) (hf:fl<=H.size) (hn:i.2.length < 536870912) (hm:j.2.length < 536870912) :
  b0k env fl F0z [v,w] H (fun r H'=>r=.int .i64 (i0Y (a0B i) (a0B j))/\Ext H H') R:=by
 have hh:=h
 have kk:=k
 obtain ⟨s,rfl,hs⟩:=h
 obtain ⟨u,rfl,hu⟩:=k
 refine a0i M1k hf (h:=?_)
 intro ρ h0
 simp [G1N,T0Z,h0]
 generalize hG:(H.push _).push _=G
 have hx:Ext H G:=by rw [<- hG];exact (Ext.refl H).push.push
 have b0:a0c.bk G H.size=.row false a0a [.bool i.1,s]:=by rw [<- hG];simp
 have b1:a0c.bk G (H.size + 1)=.row false a0a [.bool j.1,u]:=by rw [<- hG];simp
 clear hG
 simp [U0a,h0,b0,b1]
 have l1:=a0L hh.ok
 have l2:=a0L kk.ok
 refine (b0f (hh.mo hx) hx.1 (by omega)).mo ?_
 rintro _ G2 ⟨rfl,hx2⟩
 replace b0:=hx2.bk b0
 replace b1:=hx2.bk b1
 replace hx:=hx.trans hx2
 by_cases hI:a0B i < 0
 ·simp [hI,b1]
  refine (b0f (kk.mo hx) hx.1 (by omega)).mo ?_
  rintro _ G2 ⟨rfl,hx2⟩
  replace b0:=hx2.bk b0
  replace b1:=hx2.bk b1
  replace hx:=hx.trans hx2
  by_cases hJ:a0B j < 0
  ·simp [hJ,E0s,h0,b0,b1]
   refine (b0f (hh.mo hx) hx.1 (by omega)).mo ?_
   rintro _ G2 ⟨rfl,hx2⟩
   replace b0:=hx2.bk b0
   replace b1:=hx2.bk b1
   replace hx:=hx.trans hx2
   simp [hI,E0t,h0,b0,b1]
   refine (b0f (hh.mo hx) hx.1 (by omega)).mo ?_
   rintro _ G2 ⟨rfl,hx2⟩
   replace b0:=hx2.bk b0
   replace b1:=hx2.bk b1
   replace hx:=hx.trans hx2
   simp [hI,h0]
   refine c0t ?_
   simp [U0d,h0,b0,b1]
   refine (b0u (kk.mo hx) (by have:=hx.1;omega) (by omega)).mo ?_
   rintro x G2 ⟨hl,hx2⟩
   replace b0:=hx2.bk b0
   replace b1:=hx2.bk b1
   replace hx:=hx.trans hx2
   try simp [h0,b0]
   refine (b0u (hh.mo hx) hx.1 (by omega)).mo ?_
   rintro y G2 ⟨hl2,hx2⟩
   replace hl:=hl.mo hx2
   replace b0:=hx2.bk b0
   replace b1:=hx2.bk b1
   replace hx:=hx.trans hx2
   try simp [h0,b0]
   refine (f0y hl hl2 hx.1 (by omega)).mo ?_
   rintro _ G2 ⟨rfl,hx2⟩
   rw [d0v,b0Y]
   have:(if (a0B j).natAbs < (a0B i).natAbs then (-1:Int) else if (a0B i).natAbs < (a0B j).natAbs then 1 else 0)=i0Y (a0B i) (a0B j):=by
    unfold i0Y;(repeat' split) <;> omega
   simp [this]
  ·simp [hJ,U0b,h0]
   have:i0Y (a0B i) (a0B j) = -1:=by unfold i0Y;rw [M1Z (by omega)]
   simp [this]
 ·simp [hI,E0s,h0,b0,b1]
  refine (b0f (hh.mo hx) hx.1 (by omega)).mo ?_
  rintro _ G2 ⟨rfl,hx2⟩
  replace b0:=hx2.bk b0
  replace b1:=hx2.bk b1
  replace hx:=hx.trans hx2
  simp [hI,h0,b1]
  refine (b0f (kk.mo hx) hx.1 (by omega)).mo ?_
  rintro _ G2 ⟨rfl,hx2⟩
  replace b0:=hx2.bk b0
  replace b1:=hx2.bk b1
  replace hx:=hx.trans hx2
  by_cases hJ:a0B j < 0
  ·simp [hJ,U0c,h0]
   have:i0Y (a0B i) (a0B j)=1:=by unfold i0Y;rw [M1V (by omega),M1Z (by omega)]
   simp [this]
  ·simp [hJ,E0t,h0,b0]
   refine (b0f (hh.mo hx) hx.1 (by omega)).mo ?_
   rintro _ G2 ⟨rfl,hx2⟩
   replace b0:=hx2.bk b0
   replace b1:=hx2.bk b1
   replace hx:=hx.trans hx2
   simp [hI,h0]
   refine c0t ?_
   simp [U0e,h0,b0,b1]
   refine (b0u (hh.mo hx) (by have:=hx.1;omega) (by omega)).mo ?_
   rintro x G2 ⟨hl,hx2⟩
   replace b0:=hx2.bk b0
   replace b1:=hx2.bk b1
   replace hx:=hx.trans hx2
   try simp [h0,b1]
   refine (b0u (kk.mo hx) hx.1 (by omega)).mo ?_
   rintro y G2 ⟨hl2,hx2⟩
   replace hl:=hl.mo hx2
   replace b0:=hx2.bk b0
   replace b1:=hx2.bk b1
   replace hx:=hx.trans hx2
   try simp [h0,b0]
   refine (f0y hl hl2 hx.1 (by omega)).mo ?_
   rintro _ G2 ⟨rfl,hx2⟩
   rw [d0v,b0Y]
   have:(if (a0B i).natAbs < (a0B j).natAbs then (-1:Int) else if (a0B j).natAbs < (a0B i).natAbs then 1 else 0)=i0Y (a0B i) (a0B j):=by
    unfold i0Y;(repeat' split) <;> omega
   simp [this]
theorem o0n {n:Int} (hf:fl<=H.size) (h1:-9223372036854775808<=n) (h2:n < 9223372036854775808) :
  b0k env fl j0P [.int .i64 n] H (fun r H'=>n0t H.size H' r (a0J n)/\Ext H H') R:=by
 refine a0i H1Y hf (h:=?_)
 intro ρ h0
 simp only [R0x]
 refine i0G (m0d ?_)
 simp [-u0X,A0U,h0]
 generalize hG:H.push _=G
 have hx:Ext H G:=by rw [<- hG];exact (Ext.refl H).push
 have b2:a0c.bk G H.size=.row false a0a [.bool false,.slice none 0 0]:=by rw [<- hG];simp
 clear hG
 refine i0G (m0d ?_)
 simp [-u0X,A0V,h0]
 refine i0G (u1S (fun t G'=>G' = G/\t.length=19/\get t 0=.int .i64 n/\get t 2=.pointer (some ⟨H.size,0,none⟩)/\get t 3=.int .u64 ((n.natAbs:Nat):Int)) ?_ ?_)
 ·have e1:0<=n->IntKind.u64.wrap n=((n.natAbs:Nat):Int):=fun _=>by rw [a0x];omega
  have e2:n < 0->IntKind.u64.wrap (-IntKind.u64.wrap n)=((n.natAbs:Nat):Int):=fun _=>by rw [a0x,a0x];omega
  simp [A0W,A0X,h0]
  exact ⟨e2,e1⟩
 clear h0 ρ
 rintro t G' ⟨rfl,ht,g0,g2,g3⟩
 obtain ⟨ρ,rfl⟩:=toT ht
 simp only [b0H,Nat.reduceLT] at g0 g2 g3
 simp [A0Y,g0,g2,g3]
 refine (a0h hx.1).mo ?_
 rintro _ G2 ⟨rfl,hx2⟩
 replace b2:=hx2.bk b2
 replace hx:=hx.trans hx2
 try simp [g0,g2,g3]
 rw [show ((n.natAbs:Nat):Int) / 4294967296=((n.natAbs / 4294967296:Nat):Int) by omega]
 refine (a0h hx.1).mo ?_
 rintro _ G2 ⟨rfl,hx2⟩
 replace b2:=hx2.bk b2
 replace hx:=hx.trans hx2
 simp
 have hl:Lim (Array.push G2 (.row false a0b [.int .u32 (((n.natAbs:Nat):Int) % 4294967296),.int .u32 (((n.natAbs:Nat):Int) / 4294967296 % 4294967296)]))
   (.slice (some ⟨Array.size G2,0,none⟩) 2 2) [n.natAbs % 4294967296,n.natAbs / 4294967296 % 4294967296]:=by
  refine ⟨(Own.mk (fl:=0) (n:=2) (sz:=1) (cs:=b0C [n.natAbs % 4294967296,n.natAbs / 4294967296 % 4294967296]) ?_ rfl (N1K _)).sl,?_⟩
  ·rw [a0N];simp [b0C]
  ·intro x hx;simp at hx;omega
 have hx2:Ext G2 (Array.push G2 (.row false a0b [.int .u32 (((n.natAbs:Nat):Int) % 4294967296),.int .u32 (((n.natAbs:Nat):Int) / 4294967296 % 4294967296)])):=(Ext.refl G2).push
 replace b2:=hx2.bk b2
 replace hx:=hx.trans hx2
 refine (i0A n hl hx.1 (by simp) (by simp [a0q];split <;> omega)).mo ?_
 rintro _ G2 ⟨⟨s',rfl,hs'⟩,hx2⟩
 replace b2:=hx2.bk b2
 replace hx:=hx.trans hx2
 have hz:=a0r b2
 simp [b2,hs'.cells,hs'.plain,hz]
 exact fun _=>⟨s',rfl,hs'.setT b2 (by decide)⟩
theorem t0j {n:Int} (hf:fl<=H.size) (h1:-9223372036854775808<=n) (h2:n < 9223372036854775808) :
  b0k env fl j0P [.int .i64 n] H (fun r H'=>c0m H' r (a0J n)/\Ext H H') R:=(o0n hf h1 h2).mo fun _ _ h=>⟨h.1.int,h.2⟩
theorem l0N:∀ (l:List Nat) (j z:Nat),j < l.length->a0q (l.set j z) + 4294967296 ^ j * l.getD j 0=a0q l + 4294967296 ^ j * z
 | [],j,z,h=>by simp at h
 | x :: l,0,z,_=>by simp [a0q];omega
 | x :: l,j + 1,z,h=>by
  have ih:=l0N l j z (by simpa using h)
  rw [List.set_cons_succ,List.getD_cons_succ,a0q,a0q,N1m]
  have e1:4294967296 ^ j * 4294967296 * l.getD j 0=4294967296 * (4294967296 ^ j * l.getD j 0):=by rw [N1p (4294967296 ^ j),N1h]
  have e2:4294967296 ^ j * 4294967296 * z=4294967296 * (4294967296 ^ j * z):=by rw [N1p (4294967296 ^ j),N1h]
  rw [e1,e2];omega
theorem c0S (l:List Nat) (j z:Nat):b0C (l.set j z)=(b0C l).set j (.int .u32 (z:Nat)):=by simp [b0C,List.map_set]
theorem b0W {l:List Nat} {j z:Nat} (h:b0g l) (hz:z < 4294967296):b0g (l.set j z):=by
 intro x hx
 rcases List.mem_or_eq_of_mem_set hx with hx | rfl
 ·exact h x hx
 ·exact hz
theorem i0C {G:a0c} {e n p cap:Nat} {l:List Nat} (hb:G.bk p=.row false e (b0C l)) {k:IntKind} {z:Nat} (hz:z < l.length) (hn:l.length=n) :
  iaV 1 (.slice (some ⟨p,0,none⟩) n cap) (.int k (z:Int))=some (.pointer (some ⟨p,z,none⟩))/\rd (G.bk p) z=some (.int .u32 ((l.getD z 0:Nat):Int)):=by
 refine ⟨?_,?_⟩
 ·simp only [iaV];rw [M1Z (by omega)];simp
 ·rw [hb];simp [b0C,M1R,hz]
theorem b0Q {l:List Nat} {a b z:Nat} (h:a ≠ b):(l.set a z).getD b 0=l.getD b 0:=by
 rw [M1R,M1R,List.getElem?_set_ne h]
theorem m0y (h:c0m H v i) (k:c0m H w j) (hf:fl<=H.size) (hn:i.2.length < 268435456) (hm:j.2.length < 268435456) :
  b0k env fl h0Q [v,w] H (fun r H'=>n0t H.size H' r (a0J (a0B i * a0B j))/\Ext H H') R:=by
 have hh:=h
 have kk:=k
 obtain ⟨s,rfl,hs⟩:=h
 obtain ⟨u,rfl,hu⟩:=k
 refine a0i I1j hf (h:=?_)
 intro ρ h0
 simp [R0A,B0E,h0]
 generalize hG:((H.push _).push _).push _=G
 have hx:Ext H G:=by rw [<- hG];exact (Ext.refl H).push.push.push
 have b0:a0c.bk G H.size=.row false a0a [.bool i.1,s]:=by rw [<- hG];simp
 have b1:a0c.bk G (H.size + 1)=.row false a0a [.bool j.1,u]:=by rw [<- hG];simp
 have b2:a0c.bk G (H.size + 2)=.row false a0a [.bool false,.slice none 0 0]:=by rw [<- hG];simp
 clear hG
 have l1:=a0L hh.ok
 have l2:=a0L kk.ok
 refine c0t ?_
 simp [B0F,h0,b0,b1]
 refine (b0u (hh.mo hx) (by have:=hx.1;omega) (by omega)).mo ?_
 rintro x G2 ⟨hl,hx2⟩
 replace b0:=hx2.bk b0
 replace b1:=hx2.bk b1
 replace b2:=hx2.bk b2
 replace hx:=hx.trans hx2
 try simp [h0,b1]
 refine (b0u (kk.mo hx) hx.1 (by omega)).mo ?_
 rintro y G2 ⟨hl2,hx2⟩
 replace hl:=hl.mo hx2
 replace b0:=hx2.bk b0
 replace b1:=hx2.bk b1
 replace b2:=hx2.bk b2
 replace hx:=hx.trans hx2
 generalize hA:a0l (a0B i).natAbs=A at hl l1
 generalize hB:a0l (a0B j).natAbs=B at hl2 l2
 have w1:IntKind.i64.wrap ((A.length:Int) + (B.length:Int))=((A.length + B.length:Nat):Int):=by rw [b0d (by omega) (by omega)];omega
 have hmk:=p0i (bytes:=4) (k:=.i64) (k':=.i64) (l:=A.length + B.length) (c:=A.length + B.length) (M1U _) (by omega) (by omega)
 simp [-Int.natCast_add,B0G,B0H,h0,hl.slen,hl2.slen,w1,hmk]
 have hP:H.size<=G2.size:=hx.1
 generalize hPd:G2.size=P at hP
 generalize hSL:Value.slice (some ⟨P,0,none⟩) (A.length + B.length) (A.length + B.length)=SL
 refine b0X (fun k t G'=>∃ a o,a + k=A.length/\t.length=78/\get t 2=.pointer (some ⟨H.size,0,none⟩)/\get t 3=.pointer (some ⟨H.size + 1,0,none⟩)/\get t 4=.pointer (some ⟨H.size + 2,0,none⟩) /\
   get t 6=y/\get t 7=SL/\get t 23=x/\get t 24=.int .i64 A.length/\get t 25=.int .i64 ((a:Nat):Int) /\
   Ext G2 G'/\a0c.bk G' P=.row false a0b (b0C o)/\o.length=A.length + B.length/\b0g o/\a0q o=a0q (A.take a) * a0q B/\∀ q,a + B.length<=q->o.getD q 0=0)
  (fun t G'=>∃ o,t.length=78/\get t 2=.pointer (some ⟨H.size,0,none⟩)/\get t 3=.pointer (some ⟨H.size + 1,0,none⟩)/\get t 4=.pointer (some ⟨H.size + 2,0,none⟩)/\get t 7=SL /\
   Ext G2 G'/\a0c.bk G' P=.row false a0b (b0C o)/\o.length=A.length + B.length/\b0g o/\a0q o=a0q A * a0q B) A.length ?_ ?_ ?_
 ·refine ⟨0,List.replicate (A.length + B.length) 0,by omega,by simp,by simp,by simp,by simp,by simp,by simp,by simp,by simp,by simp,Ext.push (Ext.refl _),?_,by simp,?_,?_,?_⟩
  ·rw [<- hPd,a0N]
   congr 1
   generalize A.length + B.length=n
   induction n with
   | zero=>rfl
   | succ n ih=>rw [e0W,ih];rfl
  ·intro z hz;rw [P1i] at hz;omega
  ·simp only [P1j,a0q,Nat.zero_mul]
   generalize A.length + B.length=n
   induction n with
   | zero=>rfl
   | succ n ih=>rw [List.replicate_succ,a0q,ih]
  ·intro q _;rw [M1R,O1I];split <;> rfl
 ·clear h0 ρ w1 hmk
  rintro k t G' ⟨a,o,hak,ht,g2,g3,g4,g6,g7,g23,g24,g25,hx2,hb,hol,hok,hs,hz⟩
  obtain ⟨ρ,rfl⟩:=toT ht
  simp only [b0H,Nat.reduceLT] at g2 g3 g4 g6 g7 g23 g24 g25
  by_cases ha:a < A.length
  ·have hla:=hl.load ha hx2
   have hia:=hl.ia (k:=.i64) ha
   have hA2:=a0H ha
   have hA3:A.getD a 0 < 4294967296:=hl.2 _ (by rw [M1R,M1X ha];exact N1j ha)
   generalize A.getD a 0=U at hla hA2 hA3
   simp [t0J,B0I,B0J,B0K,g2,g3,g4,g6,g7,g23,g24,g25,ha,hla,hia,hl2.slen]
   refine b0X (fun k2 t G'=>∃ q c o,q + k2=B.length/\t.length=78/\get t 2=.pointer (some ⟨H.size,0,none⟩)/\get t 3=.pointer (some ⟨H.size + 1,0,none⟩)/\get t 4=.pointer (some ⟨H.size + 2,0,none⟩) /\
     get t 6=y/\get t 7=SL/\get t 23=x/\get t 24=.int .i64 A.length/\get t 25=.int .i64 ((a:Nat):Int)/\get t 8=.int .i64 ((a:Nat):Int)/\get t 9=.int .u32 ((U:Nat):Int) /\
     get t 10=.int .u64 ((c:Nat):Int)/\get t 30=y/\get t 31=.int .i64 B.length/\get t 32=.int .i64 ((q:Nat):Int) /\
     Ext G2 G'/\a0c.bk G' P=.row false a0b (b0C o)/\o.length=A.length + B.length/\b0g o/\c < 4294967296 /\
     a0q o + 4294967296 ^ (a + q) * c=a0q (A.take a) * a0q B + 4294967296 ^ a * (U * a0q (B.take q))/\∀ q,a + B.length<=q->o.getD q 0=0)
    (fun t G'=>∃ c o,t.length=78/\get t 2=.pointer (some ⟨H.size,0,none⟩)/\get t 3=.pointer (some ⟨H.size + 1,0,none⟩)/\get t 4=.pointer (some ⟨H.size + 2,0,none⟩) /\
     get t 6=y/\get t 7=SL/\get t 23=x/\get t 24=.int .i64 A.length/\get t 25=.int .i64 ((a:Nat):Int)/\get t 8=.int .i64 ((a:Nat):Int) /\
     get t 10=.int .u64 ((c:Nat):Int) /\
     Ext G2 G'/\a0c.bk G' P=.row false a0b (b0C o)/\o.length=A.length + B.length/\b0g o/\c < 4294967296 /\
     a0q o + 4294967296 ^ (a + B.length) * c=a0q (A.take (a + 1)) * a0q B/\∀ q,a + B.length<=q->o.getD q 0=0) B.length ?_ ?_ ?_
   ·exact ⟨0,0,o,by omega,by simp,by simp [g2],by simp [g3],by simp [g4],by simp [g6],by simp [g7],by simp [g23],by simp [g24],by simp [g25],by simp,by simp,by simp,by simp,by simp,by simp,
     hx2,hb,hol,hok,by omega,by simp [hs,a0q],hz⟩
   ·clear hs hz hok hol hb hx2 hla o g2 g3 g4 g6 g7 g23 g24 g25 ht ρ G'
    rintro k2 t G' ⟨q,c,o,hqk,ht,g2,g3,g4,g6,g7,g23,g24,g25,g8,g9,g10,g30,g31,g32,hx2,hb,hol,hok,hc,hs,hz⟩
    obtain ⟨ρ,rfl⟩:=toT ht
    simp only [b0H,Nat.reduceLT] at g2 g3 g4 g6 g7 g23 g24 g25 g8 g9 g10 g30 g31 g32
    by_cases hq:q < B.length
    ·have hlb:=hl2.load hq hx2
     have hib:=hl2.ia (k:=.i64) hq
     have hB2:=a0H hq
     have hB3:B.getD q 0 < 4294967296:=hl2.2 _ (by rw [M1R,M1X hq];exact N1j hq)
     generalize B.getD q 0=V at hlb hB2 hB3
     have hlo:a + q < o.length:=by omega
     obtain ⟨hio,hro⟩:=i0C (k:=.i64) (cap:=A.length + B.length) hb hlo hol
     rw [hSL] at hio
     have hset:=l0N o (a + q) ((c + (U * V + o.getD (a + q) 0)) % 4294967296) hlo
     have hW3:o.getD (a + q) 0 < 4294967296:=hok _ (by rw [M1R,M1X hlo];exact N1j hlo)
     generalize o.getD (a + q) 0=Wd at hro hset hW3
     have hUV:U * V<=4294967295 * 4294967295:=O1k (by omega) (by omega)
     have e1:IntKind.u64.wrap (U:Int)=(U:Int):=by rw [a0x];omega
     have e2:IntKind.u64.wrap (V:Int)=(V:Int):=by rw [a0x];omega
     have e3:IntKind.u64.wrap (Wd:Int)=(Wd:Int):=by rw [a0x];omega
     have e4:IntKind.u64.wrap ((U:Int) * (V:Int))=((U * V:Nat):Int):=by rw [a0x,<- P1g];omega
     have e5:IntKind.u64.wrap (((U * V:Nat):Int) + (Wd:Int))=((U * V + Wd:Nat):Int):=by rw [a0x];omega
     have e6:IntKind.u64.wrap ((c:Int) + ((U * V + Wd:Nat):Int))=((c + (U * V + Wd):Nat):Int):=by rw [a0x];omega
     have e7:IntKind.i64.wrap ((a:Int) + (q:Int))=((a + q:Nat):Int):=by rw [b0d (by omega) (by omega)];omega
     have e8:IntKind.i64.wrap ((q:Int) + 1)=((q + 1:Nat):Int):=by rw [b0d (by omega) (by omega)];omega
     simp [-Int.natCast_add,-Int.natCast_mul,t0K,B0L,v0H,v0I,v0J,v0K,g2,g3,g4,g6,g7,g23,g24,g25,g8,g9,g10,g30,g31,g32,hq,hlb,hib,e1,e2,e3,e4,e5,e6,e7,e8,hio,hro]
     refine (a0h (by have:=hx2.1;omega)).mo ?_
     rintro _ G3 ⟨rfl,hx3⟩
     replace hb:=hx3.bk hb
     have hxx:=hx2.trans hx3
     have hPl:=a0r hb
     have hle:a + q + 1<=o.length:=hlo
     generalize hc1:c + (U * V + Wd)=c1 at *
     simp [-Int.natCast_emod,-Int.natCast_ediv,-Int.natCast_add,hb,hP,hle]
     refine ⟨k2 - 1,by omega,q + 1,by omega,c1 / 4294967296,by omega,rfl,hxx.set (by omega),o.set (a + q) (c1 % 4294967296),by rw [a0C hPl,c0S],by simp [hol],b0W hok (by omega),by omega,?_,?_⟩
     ·have f1:4294967296 ^ (a + (q + 1)) * (c1 / 4294967296)=4294967296 ^ (a + q) * (4294967296 * (c1 / 4294967296)):=by
       rw [show a + (q + 1)=a + q + 1 by omega,N1m,N1h]
      have f2:4294967296 ^ (a + q) * (c1 % 4294967296) + 4294967296 ^ (a + q) * (4294967296 * (c1 / 4294967296))=4294967296 ^ (a + q) * c1:=by rw [<- N1a,Nat.mod_add_div]
      have f3:4294967296 ^ (a + q) * c1=4294967296 ^ (a + q) * c + (4294967296 ^ (a + q) * (U * V) + 4294967296 ^ (a + q) * Wd):=by rw [<- hc1,N1a,N1a]
      have f4:4294967296 ^ a * (U * (a0q (List.take q B) + 4294967296 ^ q * V))=4294967296 ^ a * (U * a0q (List.take q B)) + 4294967296 ^ (a + q) * (U * V):=by
       rw [N1a,N1a,O1S]
       congr 1
       rw [N1h,O1F U]
      rw [hB2,f4,f1]
      omega
     ·intro r hr
      have:=hz r hr
      rw [<- M1R,b0Q (by omega)];exact this
    ·simp [t0K,g2,g3,g4,g6,g7,g23,g24,g25,g8,g9,g10,g30,g31,g32,hq]
     have:q=B.length:=by omega
     subst this
     refine ⟨c,rfl,hx2,o,hb,hol,hok,hc,?_,by simpa using hz⟩
     rw [hs,N1c (M1U _),hA2,N1t,N1h]
   ·clear hs hz hok hol hb hx2 hla o g2 g3 g4 g6 g7 g23 g24 g25 ht ρ G'
    rintro t G' ⟨c,o,ht,g2,g3,g4,g6,g7,g23,g24,g25,g8,g10,hx2,hb,hol,hok,hc,hs,hz⟩
    obtain ⟨ρ,rfl⟩:=toT ht
    simp only [b0H,Nat.reduceLT] at g2 g3 g4 g6 g7 g23 g24 g25 g8 g10
    have hlo:a + B.length < o.length:=by omega
    obtain ⟨hio,hro⟩:=i0C (k:=.i64) (cap:=A.length + B.length) hb hlo hol
    rw [hSL] at hio
    have hset:=l0N o (a + B.length) (c % 4294967296) hlo
    rw [hz _ (M1U _)] at hset
    have e7:IntKind.i64.wrap ((a:Int) + (B.length:Int))=((a + B.length:Nat):Int):=by rw [b0d (by omega) (by omega)];omega
    have e8:IntKind.i64.wrap ((a:Int) + 1)=((a + 1:Nat):Int):=by rw [b0d (by omega) (by omega)];omega
    simp [-Int.natCast_add,v0L,g2,g3,g4,g6,g7,g23,g24,g25,g8,g10,hl2.slen,e7,hio]
    refine (a0h (by have:=hx2.1;omega)).mo ?_
    rintro _ G3 ⟨rfl,hx3⟩
    replace hb:=hx3.bk hb
    have hxx:=hx2.trans hx3
    have hPl:=a0r hb
    have hle:a + B.length + 1<=o.length:=hlo
    simp [-Int.natCast_emod,-Int.natCast_ediv,-Int.natCast_add,v0M,g2,g3,g4,g6,g7,g23,g24,g25,hb,hP,hle,e8]
    refine ⟨k - 1,by omega,a + 1,by omega,rfl,hxx.set (by omega),o.set (a + B.length) (c % 4294967296),by rw [a0C hPl,c0S],by simp [hol],b0W hok (by omega),?_,?_⟩
    ·rw [N1o hc] at hset ⊢
     omega
    ·intro r hr
     have:=hz r (by omega)
     rw [<- M1R,b0Q (by omega)];exact this
  ·simp [t0J,g2,g3,g4,g6,g7,g23,g24,g25,ha]
   have:a=A.length:=by omega
   subst this
   exact ⟨hx2,o,hb,hol,hok,by rw [hs,N1c (M1U _)]⟩
 ·clear h0 ρ w1 hmk
  rintro t G' ⟨o,ht,g2,g3,g4,g7,hx2,hb,hol,hok,hs⟩
  obtain ⟨ρ,rfl⟩:=toT ht
  simp only [b0H,Nat.reduceLT] at g2 g3 g4 g7
  replace b0:=hx2.bk b0
  replace b1:=hx2.bk b1
  replace b2:=hx2.bk b2
  replace hx:=hx.trans hx2
  have hy:Lim G' SL o:=by
   rw [<- hSL,<- hol]
   exact ⟨(Own.mk (fl:=0) hb (by simp) (N1K _)).sl,hok⟩
  refine c0t ?_
  simp [v0N,g2,g3,g4,g7,b0,b1]
  refine (b0f (hh.mo hx) (by have:=hx.1;omega) (by omega)).mo ?_
  rintro _ G2 ⟨rfl,hx2⟩
  replace b0:=hx2.bk b0
  replace b1:=hx2.bk b1
  replace b2:=hx2.bk b2
  replace hx:=hx.trans hx2
  replace hy:=hy.mo hx2
  try simp [g2,g3,g4,g7,b1]
  refine (b0f (kk.mo hx) hx.1 (by omega)).mo ?_
  rintro _ G2 ⟨rfl,hx2⟩
  replace b0:=hx2.bk b0
  replace b1:=hx2.bk b1
  replace b2:=hx2.bk b2
  replace hx:=hx.trans hx2
  replace hy:=hy.mo hx2
  try simp [g2,g3,g4,g7,b1]
  have hAn:a0q A=(a0B i).natAbs:=by rw [<- hA,a0p]
  have hBn:a0q B=(a0B j).natAbs:=by rw [<- hB,a0p]
  rw [hAn,hBn,<- Int.natAbs_mul] at hs
  have hsgn:(if (decide (a0B i < 0) != decide (a0B j < 0))=true then -((a0B i * a0B j).natAbs:Int) else ((a0B i * a0B j).natAbs:Int))=a0B i * a0B j:=by
   by_cases hi:a0B i < 0 <;> by_cases hj:a0B j < 0
   ·have:=Int.mul_pos_of_neg_of_neg hi hj
    simp [hi,hj];omega
   ·have:=Int.mul_nonpos_of_nonpos_of_nonneg (Int.le_of_lt hi) (show 0<=a0B j by omega)
    simp [hi,hj];omega
   ·have:=Int.mul_nonpos_of_nonneg_of_nonpos (show 0<=a0B i by omega) (Int.le_of_lt hj)
    simp [hi,hj];omega
   ·have:=Int.mul_nonneg (show 0<=a0B i by omega) (show 0<=a0B j by omega)
    simp [hi,hj];omega
  refine (i0A (a0B i * a0B j) hy hx.1 (by omega) (by rw [hs];exact hsgn)).mo ?_
  rintro _ G2 ⟨⟨s',rfl,hs'⟩,hx2⟩
  replace b0:=hx2.bk b0
  replace b1:=hx2.bk b1
  replace b2:=hx2.bk b2
  replace hx:=hx.trans hx2
  have hz:=a0r b2
  simp [b2,hs'.cells,hs'.plain,hz,g4]
  exact fun _=>⟨s',rfl,hs'.setT b2 (by decide)⟩
theorem l0g (h:c0m H v i) (k:c0m H w j) (hf:fl<=H.size) (hn:i.2.length < 268435456) (hm:j.2.length < 268435456) :
  b0k env fl h0Q [v,w] H (fun r H'=>c0m H' r (a0J (a0B i * a0B j))/\Ext H H') R:=(m0y h k hf hn hm).mo fun _ _ h=>⟨h.1.int,h.2⟩
end
section
section
variable {tag:Nat}
theorem q0u (n:Nat):IntKind.u64.wrap (n:Int)=((n % 18446744073709551616:Nat):Int):=by rw [a0x];omega
theorem q0t (n:Nat):IntKind.u32.wrap (n:Int)=((n % 4294967296:Nat):Int):=by rw [k0R];omega
theorem E0Y {n s:Nat} {k':IntKind} (hs:s<=64):c0k tag .shl (.int .u64 (n:Int)) (.int k' (s:Int))=some (.int .u64 ((n * 2 ^ s % 18446744073709551616:Nat):Int)):=by
 rw [v0d (by omega)]
 have:min (s:Int).toNat IntKind.u64.bits=s:=by show min (s:Int).toNat 64=s;omega
 rw [this]
 have e:(n:Int) * 2 ^ s=((n * 2 ^ s:Nat):Int):=by simp
 rw [e,q0u]
theorem q0m {n s:Nat} {k':IntKind} (hs:s<=32):c0k tag .shl (.int .u32 (n:Int)) (.int k' (s:Int))=some (.int .u32 ((n * 2 ^ s % 4294967296:Nat):Int)):=by
 rw [v0d (by omega)]
 have:min (s:Int).toNat IntKind.u32.bits=s:=by show min (s:Int).toNat 32=s;omega
 rw [this]
 have e:(n:Int) * 2 ^ s=((n * 2 ^ s:Nat):Int):=by simp
 rw [e,q0t]
theorem F1g {n s:Nat} {k':IntKind} (hs:s<=64):c0k tag .shr (.int .u64 (n:Int)) (.int k' (s:Int))=some (.int .u64 ((n / 2 ^ s:Nat):Int)):=by
 rw [l0J (by omega)]
 have:min (s:Int).toNat IntKind.u64.bits=s:=by show min (s:Int).toNat 64=s;omega
 rw [this]
 have e:(2:Int) ^ s=((2 ^ s:Nat):Int):=by simp
 rw [e,H0f]
theorem q0n {n s:Nat} {k':IntKind} (hs:s<=32):c0k tag .shr (.int .u32 (n:Int)) (.int k' (s:Int))=some (.int .u32 ((n / 2 ^ s:Nat):Int)):=by
 rw [l0J (by omega)]
 have:min (s:Int).toNat IntKind.u32.bits=s:=by show min (s:Int).toNat 32=s;omega
 rw [this]
 have e:(2:Int) ^ s=((2 ^ s:Nat):Int):=by simp
 rw [e,H0f]
theorem w1p {a b:Nat} (ha:a < 18446744073709551616) (hb:b < 18446744073709551616):c0k tag .or (.int .u64 (a:Int)) (.int .u64 (b:Int))=some (.int .u64 ((a ||| b:Nat):Int)):=by
 rw [k0v]
 have e1:(BitVec.ofInt IntKind.u64.bits (a:Int) ||| BitVec.ofInt IntKind.u64.bits (b:Int)).toNat=a ||| b:=by
  show (BitVec.ofInt 64 (a:Int) ||| BitVec.ofInt 64 (b:Int)).toNat=a ||| b
  rw [BitVec.toNat_or]
  simp only [BitVec.ofInt_natCast,BitVec.toNat_ofNat]
  rw [N1o (by omega),N1o (by omega)]
 rw [e1,q0u]
 have:a ||| b < 2 ^ 64:=Nat.or_lt_two_pow (by omega) (by omega)
 rw [N1o (by omega)]
theorem u1X {a:Nat}:c0k tag .and (.int .u64 (a:Int)) (.int .u64 4294967295)=some (.int .u64 ((a % 4294967296:Nat):Int)):=by
 rw [F0V]
 have e1:(BitVec.ofInt IntKind.u64.bits (a:Int) &&& BitVec.ofInt IntKind.u64.bits (4294967295:Int)).toNat=a % 4294967296:=by
  show (BitVec.ofInt 64 (a:Int) &&& BitVec.ofInt 64 (4294967295:Int)).toNat=a % 4294967296
  rw [BitVec.toNat_and]
  have:(BitVec.ofInt 64 (4294967295:Int)).toNat=2 ^ 32 - 1:=rfl
  rw [this,Nat.and_two_pow_sub_one_eq_mod]
  simp only [BitVec.ofInt_natCast,BitVec.toNat_ofNat]
  omega
 rw [e1,q0u,N1o (by omega)]
theorem v0u {x y:Nat} (h:y < 4294967296):x * 4294967296 ||| y=x * 4294967296 + y:=by
 have:=O1u (i:=32) (b:=y) (by omega) x
 rw [N1p] at this
 exact this.symm
theorem w1y {a b:Nat} (ha:a < 18446744073709551616) (hb:b ≠ 0):c0k tag .quo (.int .u64 (a:Int)) (.int .u64 (b:Int))=some (.int .u64 ((a / b:Nat):Int)):=by
 rw [F0X (by omega),O1h (by omega)]
 have:(a:Int) / (b:Int)=((a / b:Nat):Int):=rfl
 rw [this,q0u,N1o (O1Q (Nat.div_le_self a b) ha)]
theorem B1Z {a b:Nat} (hb:b ≠ 0):c0k tag .rem (.int .u64 (a:Int)) (.int .u64 (b:Int))=some (.int .u64 ((a % b:Nat):Int)):=by
 rw [F0Y (by omega),Int.tmod_eq_emod_of_nonneg (by omega)]
 rfl
end
end
section
variable {fl:Nat} {H:a0c} {R:a0P} {v w:Value} {a:List Nat}
theorem f0O {l:List Nat} {n:Nat} (h:n < l.length):a0q (l.drop n)=l.getD n 0 + 4294967296 * a0q (l.drop (n + 1)):=by
 rw [N1P h,a0q,M1R,M1X h];rfl
theorem n0J {d:Nat} (ha:Lim H v a) (hf:fl<=H.size) (hna:a.length<=1073741824) (hd:0 < d) (hd2:d < 4294967296) :
  b0k env fl y0H [v,.int .u32 (d:Int)] H (fun r H'=>(∃ q o,r=.tuple #[q,.int .u32 ((a0q a % d:Nat):Int)]/\Lim H' q o/\a0q o=a0q a / d/\o.length=a.length)/\Ext H H') R:=by
 refine a0i I1n hf (h:=?_)
 intro ρ h0
 simp only [R0E]
 have hm:=p0i (bytes:=4) (k:=.i64) (k':=.i64) (l:=a.length) (c:=a.length) (M1U _) (by omega) (by omega)
 have w1:IntKind.i64.wrap ((a.length:Int) - 1)=(a.length:Int) - 1:=b0d (by omega) (by omega)
 simp [C0c,C0d,C0e,C0f,h0,ha.slen,hm,w1]
 generalize hPd:H.size=P
 have hP:H.size<=P:=by omega
 generalize hSL:Value.slice (some ⟨P,0,none⟩) a.length a.length=SL
 refine b0X (fun k t G'=>∃ r o,t.length=42/\get t 0=v/\get t 1=.int .u32 (d:Int)/\get t 6=SL/\get t 7=.int .u64 ((r:Nat):Int)/\get t 8=.int .i64 ((k:Int) - 1)/\k<=a.length /\
   Ext H G'/\a0c.bk G' P=.row false a0b (b0C o)/\o.length=a.length/\b0g o/\r < d/\a0q (o.drop k) * d + r=a0q (a.drop k))
  (fun t G'=>∃ r o,t.length=42/\get t 6=SL/\get t 7=.int .u64 ((r:Nat):Int) /\
   Ext H G'/\a0c.bk G' P=.row false a0b (b0C o)/\o.length=a.length/\b0g o/\r < d/\a0q o * d + r=a0q a) a.length ?_ ?_ ?_
 ·refine ⟨0,List.replicate a.length 0,by simp,by simp [h0],by simp [h0],by simp,by simp,by simp,by omega,Ext.push (Ext.refl _),?_,by simp,?_,hd,?_⟩
  ·rw [<- hPd,a0N]
   congr 1
   generalize a.length=n
   induction n with
   | zero=>rfl
   | succ n ih=>rw [e0W,ih];rfl
  ·intro z hz;rw [P1i] at hz;omega
  ·simp [a0q]
 ·clear h0 ρ hm w1
  rintro k t G' ⟨r,o,ht,g0,g1,g6,g7,g8,hk,hx2,hb,hol,hok,hr,hs⟩
  obtain ⟨ρ,rfl⟩:=toT ht
  simp only [b0H,Nat.reduceLT] at g0 g1 g6 g7 g8
  by_cases hk0:k=0
  ·subst hk0
   simp [t0L,g0,g1,g6,g7,g8]
   exact ⟨r,rfl,hx2,o,hb,hol,hok,hr,by simpa using hs⟩
  ·have e0:(k:Int) - 1=((k - 1:Nat):Int):=by omega
   have hka:k - 1 < a.length:=by omega
   rw [e0] at g8
   have hla:=ha.load hka hx2
   have hia:=ha.ia (k:=.i64) hka
   have hA2:=f0O hka
   have hA3:a.getD (k - 1) 0 < 4294967296:=ha.2 _ (by rw [M1R,M1X hka];exact N1j hka)
   generalize a.getD (k - 1) 0=A at hla hA2 hA3
   have hlo:k - 1 < o.length:=by omega
   obtain ⟨hio,hro⟩:=i0C (k:=.i64) (cap:=a.length) hb hlo hol
   rw [hSL] at hio
   have s2:r * 2 ^ 32 % 18446744073709551616=r * 4294967296:=by omega
   have s1:c0k 0 .shl (.int .u64 (r:Int)) (.int .u64 32)=some (.int .u64 ((r * 4294967296:Nat):Int)):=by
    have:=E0Y (tag:=0) (n:=r) (s:=32) (k':=.u64) (by omega)
    rw [s2] at this;exact this
   have s3:=w1p (tag:=0) (a:=r * 4294967296) (b:=A) (by omega) (by omega)
   rw [v0u hA3] at s3
   have eA:IntKind.u64.wrap (A:Int)=(A:Int):=by rw [a0x];omega
   have eD:IntKind.u64.wrap (d:Int)=(d:Int):=by rw [a0x];omega
   have s4:=w1y (tag:=0) (a:=r * 4294967296 + A) (b:=d) (by omega) (by omega)
   have s5:=B1Z (tag:=0) (a:=r * 4294967296 + A) (b:=d) (by omega)
   have w2:IntKind.i64.wrap (((k - 1:Nat):Int) - 1)=((k - 1:Nat):Int) - 1:=b0d (by omega) (by omega)
   simp [-Int.natCast_add,-Int.natCast_mul,-Int.natCast_ediv,-Int.natCast_emod,t0L,C0g,C0h,C0i,C0j,g0,g1,g6,g7,g8,hla,hia,s1,s3,eA,eD,s4,s5,hio,w2]
   have hq1:(r * 4294967296 + A) / d < 4294967296:=by
    rw [O1b hd]
    have:(r + 1) * 4294967296<=d * 4294967296:=N1e _ hr
    rw [N1p 4294967296 d];omega
   have hq2:=O1t (r * 4294967296 + A) d
   have hq3:=N1R (r * 4294967296 + A) hd
   clear s4 s5
   generalize (r * 4294967296 + A) / d=Q at hq1 hq2 ⊢
   generalize (r * 4294967296 + A) % d=r2 at hq2 hq3 ⊢
   refine (a0h (by have:=hx2.1;omega)).mo ?_
   rintro _ G3 ⟨rfl,hx3⟩
   replace hb:=hx3.bk hb
   have hxx:=hx2.trans hx3
   have hPl:=a0r hb
   have hle:k - 1 + 1<=o.length:=hlo
   rw [N1o hq1]
   simp [-Int.natCast_emod,-Int.natCast_ediv,-Int.natCast_add,hb,hle]
   refine ⟨k - 1,by omega,r2,rfl,rfl,by omega,hxx.set (by omega),o.set (k - 1) Q,by rw [a0C hPl,c0S],by simp [hol],b0W hok hq1,hq3,?_⟩
   have hdr:a0q ((o.set (k - 1) Q).drop (k - 1))=Q + 4294967296 * a0q (o.drop k):=by
    rw [f0O (by simpa using hlo),M1R,O1v hlo,show k - 1 + 1=k by omega,List.drop_set_of_lt (by omega)];rfl
   rw [hdr,hA2,show k - 1 + 1=k by omega,<- hs,N1t,N1h,N1p Q d]
   generalize a0q (List.drop k o) * d=Z
   omega
 ·clear h0 ρ hm w1
  rintro t G' ⟨r,o,ht,g6,g7,hx2,hb,hol,hok,hr,hs⟩
  obtain ⟨ρ,rfl⟩:=toT ht
  simp only [b0H,Nat.reduceLT] at g6 g7
  have hy:Lim G' SL o:=by
   rw [<- hSL,<- hol]
   exact ⟨(Own.mk (fl:=0) hb (by simp) (N1K _)).sl,hok⟩
  simp [C0k,g6,g7]
  refine (a0h (by have:=hx2.1;omega)).mo ?_
  rintro _ G3 ⟨rfl,hx3⟩
  have e1:a0q a % d=r:=by rw [<- hs,N1p,Nat.mul_add_mod,N1o hr]
  have e2:a0q a / d=a0q o:=by rw [<- hs,N1p,Nat.mul_add_div hd,O1m hr];rfl
  have e3:((a0q a:Nat):Int) % (d:Int)=((r:Nat):Int):=by rw [<- e1];rfl
  rw [N1o (by omega),e3,e2]
  simp
  exact fun _=>⟨o,hy.mo hx3,rfl,hol⟩
end
section
variable {fl:Nat} {H:a0c} {R:a0P} {v w:Value} {a b:List Nat}
theorem t0m {x y s:Nat} (h:y < 2 ^ s):y ||| x * 2 ^ s=y + x * 2 ^ s:=by
 have:=O1u (i:=s) (b:=y) h x
 rw [Nat.or_comm,N1p x,<- this,Nat.add_comm]
theorem g0P {n:Nat} (ha:Lim H v a) (hf:fl<=H.size) (hna:a.length < 1073741824) (hn:n < 32) :
  b0k env fl w0V [v,.int .i64 (n:Int)] H (fun r H'=>(∃ o,Own H.size H' a0b 1 r (a.length + 1) (b0C o)/\b0g o/\a0q o=a0q a * 2 ^ n/\o.length=a.length + 1)/\Ext H H') R:=by
 refine a0i I1w hf (h:=?_)
 intro ρ h0
 simp only [R0J]
 have hm:=G1p (bytes:=4) (k:=.i64) (k':=.i64) (l:=0) (c:=(a.length:Int) + 1) (by omega) (by omega) (by omega) (by omega)
 have w1:IntKind.i64.wrap ((a.length:Int) + 1)=(a.length:Int) + 1:=b0d (by omega) (by omega)
 simp [D0g,D0h,D0i,D0j,h0,ha.slen,hm,w1]
 have hp:2 ^ n<=2147483648:=O1E (n:=2) (by omega) (show n<=31 by omega)
 have hp0:0 < 2 ^ n:=O1T n
 refine b0X (fun k t G'=>∃ i c out s,i + k=a.length/\t.length=38/\get t 1=.int .i64 (n:Int)/\get t 5=s/\get t 6=.int .u64 ((c:Nat):Int)/\get t 13=v/\get t 14=.int .i64 a.length/\get t 15=.int .i64 ((i:Nat):Int) /\
   Ext H G'/\Own H.size G' a0b 1 s i (b0C out)/\b0g out/\out.length=i/\c < 2 ^ n/\a0q out + 4294967296 ^ i * c=a0q (a.take i) * 2 ^ n)
  (fun t G'=>∃ c out s,t.length=38/\get t 5=s/\get t 6=.int .u64 ((c:Nat):Int) /\
   Ext H G'/\Own H.size G' a0b 1 s a.length (b0C out)/\b0g out/\out.length=a.length/\c < 2 ^ n/\a0q out + 4294967296 ^ a.length * c=a0q a * 2 ^ n) a.length ?_ ?_ ?_
 ·exact ⟨0,0,[],.slice (some ⟨H.size,0,none⟩) 0 (a.length + 1),by omega,by simp,by simp [h0],by simp,by simp,by simp [h0],by simp,by simp,by simp,
   Own.mk (by simp [b0C]) rfl (M1U _),by intro x hx;simp at hx,rfl,hp0,by simp [a0q]⟩
 ·clear hm w1 h0 ρ
  rintro k t G' ⟨i,c,out,s,hik,ht,g1,g5,g6,g13,g14,g15,hx,ho,hok,hol,hc,hs⟩
  obtain ⟨ρ,rfl⟩:=toT ht
  simp only [b0H,Nat.reduceLT] at g1 g5 g6 g13 g14 g15
  by_cases hi:i < a.length
  ·have hla:=ha.load hi hx
   have hia:=ha.ia (k:=.i64) hi
   have hA2:=a0H hi
   have hA3:a.getD i 0 < 4294967296:=ha.2 _ (by rw [M1R,M1X hi];exact N1j hi)
   generalize a.getD i 0=A at hla hA2 hA3
   have eA:IntKind.u64.wrap (A:Int)=(A:Int):=by rw [a0x];omega
   have hAn:A * 2 ^ n<=4294967295 * 2147483648:=O1k (by omega) hp
   have s1:=E0Y (tag:=0) (n:=A) (s:=n) (k':=.i64) (by omega)
   rw [N1o (by omega)] at s1
   have s2:=w1p (tag:=0) (a:=c) (b:=A * 2 ^ n) (by omega) (by omega)
   rw [t0m hc] at s2
   have e9:IntKind.i64.wrap ((i:Int) + 1)=((i + 1:Nat):Int):=by rw [b0d (by omega) (by omega)];omega
   simp [-Int.natCast_add,-Int.natCast_mul,-Int.natCast_pow,u0b,D0k,D0l,D0m,D0n,D0o,g1,g5,g6,g13,g14,g15,hi,hia,hla,eA,s1,s2]
   generalize hD:c + A * 2 ^ n=D
   refine (a0h hx.1).mo ?_
   rintro _ G2 ⟨rfl,hx2⟩
   obtain ⟨s',G3,h1,h2,h3,h4⟩:=e0c (e2:=a0b) (new:=[.int .u32 ((D % 4294967296:Nat):Int)]) (c:=1) (bytes:=4) (ho.mo hx2) rfl rfl (by omega) (by omega) (by omega) (by have:=hx.1;have:=hx2.1;omega)
   simp [-Int.natCast_emod,-Int.natCast_add,h1,g1,g5,g6,g13,g14,g15,e9]
   have hDq:D / 4294967296 < 2 ^ n:=by
    rw [O1b (by omega),<- hD]
    have:(A + 1) * 2 ^ n<=4294967296 * 2 ^ n:=N1e _ hA3
    rw [N1t] at this
    rw [N1p (2 ^ n)];omega
   refine ⟨k - 1,by omega,i + 1,by omega,D / 4294967296,rfl,rfl,h4 _ (M1U _) (hx.trans hx2),out ++ [D % 4294967296],by simpa [b0C] using h2,?_,by simp [hol],hDq,?_⟩
   ·intro x hx
    rcases N1B.1 hx with hx | hx
    ·exact hok x hx
    ·simp at hx;omega
   ·rw [c0a,hol,hA2,N1m,N1t,<- hs]
    have e3:4294967296 ^ i * 4294967296 * (D / 4294967296)=4294967296 ^ i * (4294967296 * (D / 4294967296)):=N1h ..
    have e4:4294967296 ^ i * (D % 4294967296) + 4294967296 ^ i * (4294967296 * (D / 4294967296))=4294967296 ^ i * D:=by rw [<- N1a,Nat.mod_add_div]
    have e5:4294967296 ^ i * D=4294967296 ^ i * c + 4294967296 ^ i * A * 2 ^ n:=by rw [<- hD,N1a,N1h]
    omega
  ·simp [u0b,g1,g5,g6,g13,g14,g15,hi]
   have:i=a.length:=by omega
   subst this
   refine ⟨c,rfl,hx,out,ho,hok,hol,hc,?_⟩
   rw [hs,N1c (M1U _)]
 ·clear hm w1 h0 ρ
  rintro t G' ⟨c,out,s,ht,g5,g6,hx,ho,hok,hol,hc,hs⟩
  obtain ⟨ρ,rfl⟩:=toT ht
  simp only [b0H,Nat.reduceLT] at g5 g6
  simp [v0Z,g5,g6]
  refine (a0h hx.1).mo ?_
  rintro _ G2 ⟨rfl,hx2⟩
  obtain ⟨s',G3,h1,h2,h3,h4⟩:=e0c (e2:=a0b) (new:=[.int .u32 ((c % 4294967296:Nat):Int)]) (c:=1) (bytes:=4) (ho.mo hx2) rfl rfl (by omega) (by omega) (by omega) (by have:=hx.1;have:=hx2.1;omega)
  simp [-Int.natCast_emod,-Int.natCast_add,h1]
  refine fun _=>⟨out ++ [c % 4294967296],by simpa [hol,b0C] using h2,?_,?_,by simp [hol]⟩
  ·intro x hx
   rcases N1B.1 hx with hx | hx
   ·exact hok x hx
   ·simp at hx;omega
  ·rw [c0a,hol,N1o (by omega)];exact hs
theorem q0F {n A N A1 M:Nat} (hn:n < 32) (hA:A < 4294967296) (hN:N=A1 + 4294967296 * M) :
  (A + 4294967296 * N) / 2 ^ n=(A + A1 * 4294967296) / 2 ^ n % 4294967296 + 4294967296 * (N / 2 ^ n):=by
 have hB:(4294967296:Nat)=2 ^ n * 2 ^ (32 - n):=by rw [<- O1S,show n + (32 - n)=32 by omega]
 have hP:=O1T n
 have hQ:=O1T (32 - n)
 generalize 2 ^ n=P at *
 generalize 2 ^ (32 - n)=Q at *
 have e1:(A + 4294967296 * N) / P=A / P + Q * N:=by rw [hB,N1h,Nat.add_mul_div_left _ _ hP]
 have e2:(A + A1 * 4294967296) / P=A / P + Q * A1:=by rw [N1p A1,hB,N1h,Nat.add_mul_div_left _ _ hP]
 have e3:N % P=A1 % P:=by rw [hN,hB,N1h,Nat.add_mul_mod_self_left]
 have e4:Q * N=4294967296 * (N / P) + Q * (A1 % P):=by
  have:=O1t N P
  rw [e3] at this
  calc Q * N=Q * (P * (N / P) + A1 % P):=by rw [this]
   _=_:=by rw [N1a,<- N1h,N1p Q P,<- hB]
 have e5:Q * A1=4294967296 * (A1 / P) + Q * (A1 % P):=by
  have:=O1t A1 P
  calc Q * A1=Q * (P * (A1 / P) + A1 % P):=by rw [this]
   _=_:=by rw [N1a,<- N1h,N1p Q P,<- hB]
 have h1:A / P < Q:=by rw [O1b hP,N1p,<- hB];exact hA
 have h2:Q * (A1 % P) + Q<=4294967296:=by
  have:=N1R A1 hP
  have:Q * (A1 % P + 1)<=Q * P:=N1w Q this
  rw [N1a,N1p Q P,<- hB] at this
  omega
 rw [e1,e2,e4,e5]
 clear e1 e2 e3 e4 e5 hN
 generalize A / P=x at *
 generalize N / P=y at *
 generalize A1 / P=z at *
 generalize Q * (A1 % P)=q at *
 omega
theorem c0H {o:List Nat} {i z:Nat} (hlo:i < o.length):a0q (List.take (i + 1) (o.set i z))=a0q (List.take i o) + 4294967296 ^ i * z:=by
 rw [d0J (by simpa using hlo),c0a,N1Z,List.length_set,N1J (by omega),List.take_set_of_le (by omega),M1R,O1v hlo,N1D]
theorem v0c {x y z s i q:Nat} (h:x=y + 4294967296 ^ i * z) (hs:y + 4294967296 ^ i * (z + 4294967296 * q)=s):x + 4294967296 ^ (i + 1) * q=s:=by
 rw [h,<- hs,N1m,N1a,N1h,N1U]
theorem p0m {n:Nat} (ha:Lim H v a) (hf:fl<=H.size) (hna:a.length < 1073741824) (hn:n < 32) :
  b0k env fl y0P [v,.int .i64 (n:Int)] H (fun r H'=>(∃ o,Lim H' r o/\a0q o=a0q a / 2 ^ n/\o.length=a.length)/\Ext H H') R:=by
 refine a0i I1z hf (h:=?_)
 intro ρ h0
 simp only [R0M]
 have hm:=p0i (bytes:=4) (k:=.i64) (k':=.i64) (l:=a.length) (c:=a.length) (M1U _) (by omega) (by omega)
 simp [D0u,D0v,D0w,h0,ha.slen,hm]
 generalize hPd:H.size=P
 generalize hSL:Value.slice (some ⟨P,0,none⟩) a.length a.length=SL
 refine b0X (fun k t G'=>∃ i o,i + k=a.length/\t.length=44/\get t 0=v/\get t 1=.int .i64 (n:Int)/\get t 5=SL/\get t 12=.int .i64 a.length/\get t 13=.int .i64 ((i:Nat):Int) /\
   Ext H G'/\a0c.bk G' P=.row false a0b (b0C o)/\o.length=a.length/\b0g o/\a0q (o.take i) + 4294967296 ^ i * (a0q (a.drop i) / 2 ^ n)=a0q a / 2 ^ n)
  (fun t G'=>∃ o,t.length=44/\get t 5=SL /\
   Ext H G'/\a0c.bk G' P=.row false a0b (b0C o)/\o.length=a.length/\b0g o/\a0q o=a0q a / 2 ^ n) a.length ?_ ?_ ?_
 ·refine ⟨0,List.replicate a.length 0,by omega,by simp,by simp [h0],by simp [h0],by simp,by simp,by simp,Ext.push (Ext.refl _),?_,by simp,?_,by simp [a0q]⟩
  ·rw [<- hPd,a0N]
   congr 1
   generalize a.length=n
   induction n with
   | zero=>rfl
   | succ n ih=>rw [e0W,ih];rfl
  ·intro z hz;rw [P1i] at hz;omega
 ·clear h0 ρ hm
  rintro k t G' ⟨i,o,hik,ht,g0,g1,g5,g12,g13,hx2,hb,hol,hok,hs⟩
  obtain ⟨ρ,rfl⟩:=toT ht
  simp only [b0H,Nat.reduceLT] at g0 g1 g5 g12 g13
  by_cases hi:i < a.length
  ·have hla:=ha.load hi hx2
   have hia:=ha.ia (k:=.i64) hi
   have hA2:=f0O hi
   have hA3:a.getD i 0 < 4294967296:=ha.2 _ (by rw [M1R,M1X hi];exact N1j hi)
   generalize a.getD i 0=A at hla hA2 hA3
   have hlo:i < o.length:=by omega
   obtain ⟨hio,hro⟩:=i0C (k:=.i64) (cap:=a.length) hb hlo hol
   rw [hSL] at hio
   have eA:IntKind.u64.wrap (A:Int)=(A:Int):=by rw [a0x];omega
   have e9:IntKind.i64.wrap ((i:Int) + 1)=((i + 1:Nat):Int):=by rw [b0d (by omega) (by omega)];omega
   by_cases hi1:i + 1 < a.length
   ·have hla1:=ha.load hi1 hx2
    have hia1:=ha.ia (k:=.i64) hi1
    have hN:=f0O hi1
    have hA13:a.getD (i + 1) 0 < 4294967296:=ha.2 _ (by rw [M1R,M1X hi1];exact N1j hi1)
    generalize a.getD (i + 1) 0=A1 at hla1 hN hA13
    have eA1:IntKind.u64.wrap (A1:Int)=(A1:Int):=by rw [a0x];omega
    have s1:c0k 0 .shl (.int .u64 (A1:Int)) (.int .u64 32)=some (.int .u64 ((A1 * 4294967296:Nat):Int)):=by
     have:=E0Y (tag:=0) (n:=A1) (s:=32) (k':=.u64) (by omega)
     rw [show A1 * 2 ^ 32 % 18446744073709551616=A1 * 4294967296 by omega] at this;exact this
    have s2:=w1p (tag:=0) (a:=A) (b:=A1 * 4294967296) (by omega) (by omega)
    rw [show A ||| A1 * 4294967296=A + A1 * 4294967296 from t0m (s:=32) hA3] at s2
    have s3:=F1g (tag:=0) (n:=A + A1 * 4294967296) (s:=n) (k':=.i64) (by omega)
    simp [-Int.natCast_add,-Int.natCast_mul,-Int.natCast_pow,-Int.natCast_ediv,p0U,u0p,u0q,u0r,u0s,u0t,u0u,g0,g1,g5,g12,g13,hi,hi1,hia,hla,hia1,hla1,eA,eA1,e9,s1,s2,s3,ha.slen,hio]
    refine (a0h (by have:=hx2.1;omega)).mo ?_
    rintro _ G3 ⟨rfl,hx3⟩
    replace hb:=hx3.bk hb
    have hxx:=hx2.trans hx3
    have hPl:=a0r hb
    have hle:i + 1<=o.length:=hlo
    have hbl:=q0F hn hA3 hN
    simp [-Int.natCast_emod,-Int.natCast_ediv,-Int.natCast_add,hb,hle]
    have hz:(A + A1 * 4294967296) / 2 ^ n % 4294967296 < 4294967296:=N1R _ (by omega)
    rw [hA2,hbl] at hs
    generalize (A + A1 * 4294967296) / 2 ^ n % 4294967296=z at hs hz ⊢
    have hset:a0q (List.take (i + 1) (o.set i z))=a0q (List.take i o) + 4294967296 ^ i * z:=c0H hlo
    refine ⟨k - 1,by omega,i + 1,by omega,rfl,hxx.set (by omega),o.set i z,by rw [a0C hPl,c0S],by simp [hol],b0W hok hz,?_⟩
    exact v0c hset hs
   ·obtain ⟨A1,hA1⟩:∃ x:Nat,x=0:=⟨0,rfl⟩
    have hN:a0q (List.drop (i + 1) a)=A1 + 4294967296 * 0:=by rw [O1N (by omega),hA1];simp [a0q]
    have s3:c0k 0 .shr (.int .u64 (A:Int)) (.int .i64 (n:Int))=some (.int .u64 (((A + A1 * 4294967296) / 2 ^ n:Nat):Int)):=by
     rw [F1g (by omega),show A + A1 * 4294967296=A by rw [hA1];omega]
    clear hA1
    simp [-Int.natCast_add,-Int.natCast_mul,-Int.natCast_pow,-Int.natCast_ediv,p0U,u0p,u0q,u0r,u0s,u0t,u0u,g0,g1,g5,g12,g13,hi,hi1,hia,hla,eA,e9,s3,ha.slen,hio]
    refine (a0h (by have:=hx2.1;omega)).mo ?_
    rintro _ G3 ⟨rfl,hx3⟩
    replace hb:=hx3.bk hb
    have hxx:=hx2.trans hx3
    have hPl:=a0r hb
    have hle:i + 1<=o.length:=hlo
    have hbl:=q0F hn hA3 hN
    simp [-Int.natCast_emod,-Int.natCast_ediv,-Int.natCast_add,hb,hle]
    have hz:(A + A1 * 4294967296) / 2 ^ n % 4294967296 < 4294967296:=N1R _ (by omega)
    rw [hA2,hbl] at hs
    generalize (A + A1 * 4294967296) / 2 ^ n % 4294967296=z at hs hz ⊢
    have hset:a0q (List.take (i + 1) (o.set i z))=a0q (List.take i o) + 4294967296 ^ i * z:=c0H hlo
    refine ⟨k - 1,by omega,i + 1,by omega,rfl,hxx.set (by omega),o.set i z,by rw [a0C hPl,c0S],by simp [hol],b0W hok hz,?_⟩
    exact v0c hset hs
  ·simp [p0U,g0,g1,g5,g12,g13,hi]
   have:i=a.length:=by omega
   subst this
   refine ⟨hx2,o,hb,hol,hok,?_⟩
   rw [N1c (by omega),O1N (M1U _)] at hs
   simpa [a0q] using hs
 ·clear h0 ρ hm
  rintro t G' ⟨o,ht,g5,hx2,hb,hol,hok,hs⟩
  obtain ⟨ρ,rfl⟩:=toT ht
  simp only [b0H,Nat.reduceLT] at g5
  have hy:Lim G' SL o:=by
   rw [<- hSL,<- hol]
   exact ⟨(Own.mk (fl:=0) hb (by simp) (N1K _)).sl,hok⟩
  simp [w0b,g5]
  exact fun _=>⟨o,hy,hs,hol⟩
end
section
variable {fl:Nat} {H G:a0c} {R:a0P} {v w:Value} {a b:List Nat} {K:n0z}
theorem y0v {E:Env} {f:FuncId} {args:List Value} {sf:n0v} (hc:E.code f=some sf) (hl:args.length=sf.np:=by rfl) (hnt:args.length<=sf.nt:=by exact of_decide_eq_true rfl)
  (h:∀ ρ:Nat->Value,(∀ i,ρ i=args.getD i undef)->W E fl sf.body (T sf.nt ρ) H (F1X (fun t' H'=>x0V H' t' sf.res fun v=>K v H')) R) :
  b0k E fl f args H K R :=
 v0g (K:=K) hc hl hnt (fun t h1 h2=>by
  have h3:=h (get t) h2
  rw [<- U0W h1] at h3
  refine h3.mo fun e t' H' hq=>?_
  cases e with
  | exit i=>exact N1i hq id
  | normal=>exact ⟨trivial,hq⟩
  | ret=>exact ⟨trivial,hq⟩)
@[simp] theorem C1a {t:a0U} {P:Value->Prop}:x0V H t [] P=P (.tuple #[]):=by simp [x0V,c0N,b0K]
theorem j0m.refl {o:Option Nat}:j0m o H H:=(Ext.refl H).extB
theorem j0m.trans {o:Option Nat} {H1 H2 H3:a0c} (h:j0m o H1 H2) (k:j0m o H2 H3):j0m o H1 H3 :=
 ⟨N1n h.1 k.1,fun b hb hne=>(k.2 b (N1k hb h.1) hne).trans (h.2 b hb hne)⟩
theorem j0m.set {p:Nat} {r:Blk} (h:j0m (some p) H G):j0m (some p) H (G.setIfInBounds p r) :=
 ⟨by have:=h.1;simpa using this,fun b hb hne=>by rw [a0Y (by simpa using hne)];exact h.2 b hb hne⟩
theorem j0m.ext {p:Nat} {H0:a0c} (h:j0m (some p) H G) (hp:H0.size<=p) (h0:Ext H0 H):Ext H0 G :=
 ⟨N1n h0.1 h.1,fun b hb=>(h.2 b (N1k hb h0.1) (by simp;omega)).trans (h0.2 b hb)⟩
theorem Sl.off {e sz n p:Nat} {cs:List Value} (h:Sl H e sz v n cs) (hx:j0m (some p) H G) (hne:slB v ≠ some p):Sl G e sz v n cs:=by
 obtain ⟨hl,h | ⟨b,off,cap,ro,cells,rfl,hb,ho,hcs⟩⟩:=h
 ·exact ⟨hl,.inl h⟩
 ·exact ⟨hl,.inr ⟨b,off,cap,ro,cells,rfl,by rw [hx.2 b (a0r hb) (fun h=>hne (by simp only [slB];exact h.symm))];exact hb,ho,hcs⟩⟩
theorem Lim.off {p:Nat} (h:Lim H v a) (hx:j0m (some p) H G) (hne:slB v ≠ some p):Lim G v a:=⟨h.1.off hx hne,h.2⟩
def win (L:List Nat) (o:Nat):Nat->Nat
 | 0=>0
 | i + 1=>win L o i + 4294967296 ^ i * L.getD (o + i) 0
theorem k0q {L L':List Nat} {o:Nat}:∀ {i:Nat},(∀ j,j < i->L.getD (o + j) 0=L'.getD (o + j) 0)->win L o i=win L' o i
 | 0,_=>rfl
 | i + 1,h=>by rw [win,win,k0q (fun j hj=>h j (by omega)),h i (by omega)]
theorem t1X {L:List Nat} {o i j z:Nat} (h:o + i<=j):win (L.set j z) o i=win L o i :=
 k0q fun k hk=>b0Q (by omega)
theorem c0z {L:List Nat} (h:b0g L) (i:Nat):L.getD i 0 < 4294967296:=by
 rw [M1R]
 by_cases hi:i < L.length
 ·rw [M1X hi];exact h _ (N1j hi)
 ·rw [N1d (by omega)];simp
theorem l0o {L:List Nat} (h:b0g L) (o:Nat):∀ i,win L o i < 4294967296 ^ i
 | 0=>by simp [win]
 | i + 1=>by
  rw [win,N1m]
  have h1:=l0o h o i
  have h2:=c0z h (o + i)
  have:4294967296 ^ i * (L.getD (o + i) 0 + 1)<=4294967296 ^ i * 4294967296:=N1w _ h2
  rw [N1a,N1W] at this
  omega
theorem i0B {L:List Nat}:∀ {i:Nat},i<=L.length->a0q (L.take i)=win L 0 i
 | 0,_=>by simp [a0q,win]
 | i + 1,h=>by rw [a0H (by omega),i0B (by omega),win,N1q]
theorem k0Q {L:List Nat} {n:Nat} (h:L.length<=n):win L 0 n=a0q L:=by
 obtain ⟨k,rfl⟩:∃ k,n=L.length + k:=⟨n - L.length,by omega⟩
 clear h
 induction k with
 | zero=>rw [N1O,<- i0B (M1U _),N1f]
 | succ k ih=>rw [<- N1U,win,ih,M1R,N1d (by omega)];simp
theorem m0C {e p o n cap:Nat} {L:List Nat} (hb:G.bk p=.row false e (b0C L)) (hL:o + n<=L.length) {k:IntKind} {z:Nat} (hz:z < n) :
  iaV 1 (.slice (some ⟨p,o,none⟩) n cap) (.int k (z:Int))=some (.pointer (some ⟨p,o + z,none⟩))/\rd (G.bk p) (o + z)=some (.int .u32 ((L.getD (o + z) 0:Nat):Int)):=by
 refine ⟨?_,?_⟩
 ·simp only [iaV];rw [M1Z (by omega)];simp
 ·rw [hb];simp [b0C,M1R,show o + z < L.length by omega]
theorem s0j {x y u v g c t ch cm bo B P:Nat} (h:x + g * y=u + c * P) (ht:t=c + v * g) (hc:t=ch * B + cm) {z w:Nat} (hz:z + cm=w + bo * B) :
  (x + P * z) + g * (y + P * v)=(u + P * w) + (ch + bo) * (P * B):=by
 have h1:P * z + P * cm=P * w + P * (bo * B):=by rw [<- N1a,hz,N1a]
 have h2:P * (c + v * g)=P * (ch * B) + P * cm:=by rw [<- ht,hc,N1a]
 rw [N1a] at h2 ⊢
 rw [N1t]
 have e1:g * (P * v)=P * (v * g):=by grind
 have e2:ch * (P * B)=P * (ch * B):=by grind
 have e3:bo * (P * B)=P * (bo * B):=by grind
 have e4:c * P=P * c:=by grind
 omega
theorem r0j {x y u v c t ch cm B P w:Nat} (h:x + c * P=u + y) (ht:t=c + w + v) (hc:t=ch * B + cm) :
  (x + P * cm) + ch * (P * B)=(u + P * w) + (y + P * v):=by
 have h2:P * (c + w + v)=P * (ch * B) + P * cm:=by rw [<- ht,hc,N1a]
 rw [N1a,N1a] at h2
 have e2:ch * (P * B)=P * (ch * B):=by grind
 have e4:c * P=P * c:=by grind
 omega
def Won (L X:List Nat) (o i:Nat):Prop:=X.length=L.length/\b0g X/\∀ j,j < o ∨ o + i<=j->X.getD j 0=L.getD j 0
theorem Won.zero {L:List Nat} {o:Nat} (h:b0g L):Won L L o 0:=⟨rfl,h,fun _ _=>rfl⟩
theorem Won.step {L X:List Nat} {o i z:Nat} (h:Won L X o i) (hz:z < 4294967296):Won L (X.set (o + i) z) o (i + 1) :=
 ⟨by simp [h.1],b0W h.2.1 hz,fun j hj=>by rw [b0Q (by omega)];exact h.2.2 j (by omega)⟩
theorem Won.win {L X:List Nat} {o i z:Nat} (h:Won L X o i) (hi:o + i < L.length):AI.win (X.set (o + i) z) o (i + 1)=AI.win X o i + 4294967296 ^ i * z:=by
 rw [AI.win,t1X (by omega),M1R,O1v (by rw [h.1];exact hi)];rfl
theorem p0p {L:List Nat} {p o n cap g:Nat} (hb:H.bk p=.row false a0b (b0C L)) (hok:b0g L) (hL:o + n<=L.length) (hv:Lim H v a) (hne:slB v ≠ some p) (hf:fl<=p) (hg:g < 4294967296) (hn:n < 1073741824) (ha:a.length<=n) :
  b0k env fl y0N [.slice (some ⟨p,o,none⟩) n cap,v,.int .u64 (g:Int)] H (fun r G=>∃ X c,r=.bool (c != 0)/\G.bk p=.row false a0b (b0C X)/\j0m (some p) H G/\Won L X o n/\win X o n + g * a0q a=win L o n + c * 4294967296 ^ n) R:=by
 refine y0v I1x (h:=?_)
 intro ρ h0
 simp only [R0K]
 simp [D0p,D0q,D0r,h0,i0q]
 generalize hSL:Value.slice (some ⟨p,o,none⟩) n cap=SL
 refine b0X (fun k t G=>∃ i c X,i + k=n/\t.length=49/\get t 0=SL/\get t 1=v/\get t 2=.int .u64 ((g:Nat):Int)/\get t 7=.int .u64 ((c:Nat):Int)/\get t 11=.int .i64 n/\get t 12=.int .i64 ((i:Nat):Int) /\
   G.bk p=.row false a0b (b0C X)/\j0m (some p) H G/\Won L X o i/\c<=4294967296/\win X o i + g * win a 0 i=win L o i + c * 4294967296 ^ i)
  (fun t G=>∃ c X,t.length=49/\get t 7=.int .u64 ((c:Nat):Int)/\G.bk p=.row false a0b (b0C X)/\j0m (some p) H G/\Won L X o n/\win X o n + g * win a 0 n=win L o n + c * 4294967296 ^ n) n ?_ ?_ ?_
 ·exact ⟨0,0,L,by omega,by simp,by simp [h0,hSL],by simp [h0],by simp [h0],by simp,by simp,by simp,hb,j0m.refl,Won.zero hok,by omega,by simp [win]⟩
 ·clear h0 ρ
  rintro k t G ⟨i,c,X,hik,ht,g0,g1,g2,g7,g11,g12,hX,hx,hw,hc,hs⟩
  obtain ⟨ρ,rfl⟩:=toT ht
  simp only [b0H,Nat.reduceLT] at g0 g1 g2 g7 g11 g12
  by_cases hi:i < n
  ·have e9:IntKind.i64.wrap ((i:Int) + 1)=((i + 1:Nat):Int):=by rw [b0d (by omega) (by omega)];omega
   obtain ⟨hi1,hi2⟩:=m0C (k:=.i64) (cap:=cap) hX (by rw [hw.1];exact hL) hi
   rw [hSL] at hi1
   have hXl:X.getD (o + i) 0=L.getD (o + i) 0:=hw.2.2 _ (by omega)
   have hA:=c0z hok (o + i)
   rw [hXl] at hi2
   have hLw:win L o (i + 1)=win L o i + 4294967296 ^ i * L.getD (o + i) 0:=rfl
   have haw:win a 0 (i + 1)=win a 0 i + 4294967296 ^ i * a.getD i 0:=by rw [win,N1q]
   generalize L.getD (o + i) 0=A at hi2 hA hLw
   have eA:IntKind.u64.wrap (A:Int)=(A:Int):=by rw [a0x];omega
   have hv':=hv.off hx hne
   have hV:=c0z hv.ok i
   by_cases hia:i < a.length
   ·have hla:=hv'.load hia (Ext.refl _)
    have hia2:=hv'.ia (k:=.i64) hia
    generalize a.getD i 0=V at hla haw hV
    have eV:IntKind.u64.wrap (V:Int)=(V:Int):=by rw [a0x];omega
    have hVg:V * g<=4294967295 * 4294967295:=O1k (by omega) (by omega)
    have e1:IntKind.u64.wrap ((V:Int) * (g:Int))=((V * g:Nat):Int):=by rw [a0x,<- P1g];omega
    have e2:IntKind.u64.wrap ((c:Int) + ((V * g:Nat):Int))=((c + V * g:Nat):Int):=by rw [a0x,<- Int.natCast_add];omega
    have e3:=u1X (tag:=0) (a:=c + V * g)
    simp [-Int.natCast_add,-Int.natCast_mul,-Int.natCast_ediv,-Int.natCast_emod,p0S,u0c,u0d,u0e,u0f,u0g,u0h,p0R,g0,g1,g2,g7,g11,g12,hi,hv'.slen,hia,hia2,hla,eV,e1,e2,hi1,hi2,e3,eA]
    generalize hD:c + V * g=D at *
    have hDD:D=(D / 4294967296) * 4294967296 + D % 4294967296:=(P1a D 4294967296).symm
    have hcm:=N1R D (show 0 < 4294967296 by omega)
    generalize D / 4294967296=ch at *
    generalize D % 4294967296=cm at *
    have hbo:IntKind.u64.wrap ((A:Int) - (cm:Int))=((if cm<=A then A - cm else A + 18446744073709551616 - cm:Nat):Int):=by rw [a0x];split <;> omega
    have hchb:ch<=4294967295:=by omega
    obtain ⟨bo,z,q,hbq,hz1,hz2,hq1,hq2,hq3⟩:∃ bo z q:Nat,(if cm<=A then A - cm else A + 18446744073709551616 - cm:Nat)=q/\z + cm=A + bo * 4294967296/\z < 4294967296/\q % 4294967296=z/\q / 9223372036854775808=bo/\bo<=1:=by
     by_cases h:cm<=A
     ·exact ⟨0,A - cm,A - cm,by rw [M1Z h],by omega,by omega,by omega,by omega,by omega⟩
     ·exact ⟨1,A + 4294967296 - cm,A + 18446744073709551616 - cm,by rw [M1V h],by omega,by omega,by omega,by omega,by omega⟩
    have e8:IntKind.u64.wrap ((ch:Int) + (bo:Int))=((ch + bo:Nat):Int):=by rw [a0x];omega
    rw [hbq] at hbo
    simp [-Int.natCast_add,-Int.natCast_mul,-Int.natCast_ediv,-Int.natCast_emod,hbo,g0,g7,g11,g12]
    refine (a0h (by have:=a0r hX;omega)).mo ?_
    rintro _ G3 ⟨rfl,hx3⟩
    rw [hq1,hq2]
    have hX3:=hx3.bk hX
    have hpl:=a0r hX3
    have hle:o + i + 1<=X.length:=by rw [hw.1];omega
    simp [-Int.natCast_add,-Int.natCast_mul,-Int.natCast_ediv,-Int.natCast_emod,hi1,hX3,hle,hf,e8,e9]
    refine ⟨k - 1,by omega,i + 1,by omega,ch + bo,rfl,rfl,X.set (o + i) z,by rw [a0C hpl,c0S],(hx.trans hx3.extB).set,hw.step hz2,by omega,?_⟩
    rw [hw.win (by omega),haw,hLw,N1m]
    exact s0j hs hD.symm hDD hz1
   ·have hV0:a.getD i 0=0:=by rw [M1R,N1d (by omega)];rfl
    rw [hV0] at haw
    obtain ⟨V,hV⟩:∃ V,V=0:=⟨0,rfl⟩
    replace haw:win a 0 (i + 1)=win a 0 i + 4294967296 ^ i * V:=by rw [haw,hV]
    have hVg:V * g=0:=by rw [hV,Nat.zero_mul]
    have e3:=u1X (tag:=0) (a:=c)
    have ec:c=c + V * g:=by omega
    rw [ec] at e3 g7
    have hDb:c + V * g<=4294967296:=by omega
    simp [-Int.natCast_add,-Int.natCast_mul,-Int.natCast_ediv,-Int.natCast_emod,p0S,u0c,u0d,u0e,u0f,u0g,u0h,p0R,g0,g1,g2,g7,g11,g12,hi,hv'.slen,hia,hi1,hi2,e3,eA]
    generalize hD:c + V * g=D at *
    have hDD:D=(D / 4294967296) * 4294967296 + D % 4294967296:=(P1a D 4294967296).symm
    have hcm:=N1R D (show 0 < 4294967296 by omega)
    generalize D / 4294967296=ch at *
    generalize D % 4294967296=cm at *
    have hbo:IntKind.u64.wrap ((A:Int) - (cm:Int))=((if cm<=A then A - cm else A + 18446744073709551616 - cm:Nat):Int):=by rw [a0x];split <;> omega
    have hchb:ch<=4294967295:=by omega
    obtain ⟨bo,z,q,hbq,hz1,hz2,hq1,hq2,hq3⟩:∃ bo z q:Nat,(if cm<=A then A - cm else A + 18446744073709551616 - cm:Nat)=q/\z + cm=A + bo * 4294967296/\z < 4294967296/\q % 4294967296=z/\q / 9223372036854775808=bo/\bo<=1:=by
     by_cases h:cm<=A
     ·exact ⟨0,A - cm,A - cm,by rw [M1Z h],by omega,by omega,by omega,by omega,by omega⟩
     ·exact ⟨1,A + 4294967296 - cm,A + 18446744073709551616 - cm,by rw [M1V h],by omega,by omega,by omega,by omega,by omega⟩
    have e8:IntKind.u64.wrap ((ch:Int) + (bo:Int))=((ch + bo:Nat):Int):=by rw [a0x];omega
    rw [hbq] at hbo
    simp [-Int.natCast_add,-Int.natCast_mul,-Int.natCast_ediv,-Int.natCast_emod,hbo,g0,g7,g11,g12]
    refine (a0h (by have:=a0r hX;omega)).mo ?_
    rintro _ G3 ⟨rfl,hx3⟩
    rw [hq1,hq2]
    have hX3:=hx3.bk hX
    have hpl:=a0r hX3
    have hle:o + i + 1<=X.length:=by rw [hw.1];omega
    simp [-Int.natCast_add,-Int.natCast_mul,-Int.natCast_ediv,-Int.natCast_emod,hi1,hX3,hle,hf,e8,e9]
    refine ⟨k - 1,by omega,i + 1,by omega,ch + bo,rfl,rfl,X.set (o + i) z,by rw [a0C hpl,c0S],(hx.trans hx3.extB).set,hw.step hz2,by omega,?_⟩
    rw [hw.win (by omega),haw,hLw,N1m]
    exact s0j hs hD.symm hDD hz1
  ·simp [p0S,g0,g1,g2,g7,g11,g12,hi]
   have:i=n:=by omega
   subst this
   exact ⟨c,rfl,X,hX,hx,hw,hs⟩
 ·clear h0 ρ
  rintro t G ⟨c,X,ht,g7,hX,hx,hw,hs⟩
  obtain ⟨ρ,rfl⟩:=toT ht
  simp only [b0H,Nat.reduceLT] at g7
  simp [w0a,g7]
  refine ⟨X,c,rfl,hX,hx,hw,?_⟩
  rw [<- hs]
  congr 2
  rw [k0Q ha]
theorem p0n {L:List Nat} {p o n cap:Nat} (hb:H.bk p=.row false a0b (b0C L)) (hok:b0g L) (hL:o + n<=L.length) (hv:Lim H v a) (hne:slB v ≠ some p) (hf:fl<=p) (hn:n < 1073741824) (ha:a.length<=n) :
  b0k env fl y0O [.slice (some ⟨p,o,none⟩) n cap,v] H (fun _ G=>∃ X c,G.bk p=.row false a0b (b0C X)/\j0m (some p) H G/\Won L X o n/\win X o n + c * 4294967296 ^ n=win L o n + a0q a) R:=by
 refine y0v I1y (h:=?_)
 intro ρ h0
 simp only [R0L]
 simp [D0s,D0t,h0,i0q]
 generalize hSL:Value.slice (some ⟨p,o,none⟩) n cap=SL
 refine S0j (fun k t G=>∃ i c X,i + k=n/\t.length=37/\get t 0=SL/\get t 1=v/\get t 4=.int .u64 ((c:Nat):Int)/\get t 7=.int .i64 n/\get t 8=.int .i64 ((i:Nat):Int) /\
   G.bk p=.row false a0b (b0C X)/\j0m (some p) H G/\Won L X o i/\c<=1/\win X o i + c * 4294967296 ^ i=win L o i + win a 0 i) ?_ n ?_
 ·clear h0 ρ
  rintro k t G ⟨i,c,X,hik,ht,g0,g1,g4,g7,g8,hX,hx,hw,hc,hs⟩
  obtain ⟨ρ,rfl⟩:=toT ht
  simp only [b0H,Nat.reduceLT] at g0 g1 g4 g7 g8
  by_cases hi:i < n
  ·have e9:IntKind.i64.wrap ((i:Int) + 1)=((i + 1:Nat):Int):=by rw [b0d (by omega) (by omega)];omega
   obtain ⟨hi1,hi2⟩:=m0C (k:=.i64) (cap:=cap) hX (by rw [hw.1];exact hL) hi
   rw [hSL] at hi1
   have hXl:X.getD (o + i) 0=L.getD (o + i) 0:=hw.2.2 _ (by omega)
   have hA:=c0z hok (o + i)
   rw [hXl] at hi2
   have hLw:win L o (i + 1)=win L o i + 4294967296 ^ i * L.getD (o + i) 0:=rfl
   have haw:win a 0 (i + 1)=win a 0 i + 4294967296 ^ i * a.getD i 0:=by rw [win,N1q]
   generalize L.getD (o + i) 0=A at hi2 hA hLw
   have eA:IntKind.u64.wrap (A:Int)=(A:Int):=by rw [a0x];omega
   have e1:IntKind.u64.wrap ((c:Int) + (A:Int))=((c + A:Nat):Int):=by rw [a0x];omega
   have hv':=hv.off hx hne
   have hV:=c0z hv.ok i
   by_cases hia:i < a.length
   ·have hla:=hv'.load hia (Ext.refl _)
    have hia2:=hv'.ia (k:=.i64) hia
    generalize a.getD i 0=V at hla haw hV
    have eV:IntKind.u64.wrap (V:Int)=(V:Int):=by rw [a0x];omega
    have e2:IntKind.u64.wrap (((c + A:Nat):Int) + (V:Int))=((c + A + V:Nat):Int):=by rw [a0x];omega
    simp [-Int.natCast_add,-Int.natCast_mul,-Int.natCast_ediv,-Int.natCast_emod,p0T,u0i,u0j,u0k,u0l,u0m,u0n,u0o,g0,g1,g4,g7,g8,hi,hv'.slen,hia,hia2,hla,eV,e1,e2,hi1,hi2,eA]
    generalize hD:c + A + V=D at *
    have hDD:D=(D / 4294967296) * 4294967296 + D % 4294967296:=(P1a D 4294967296).symm
    have hcm:=N1R D (show 0 < 4294967296 by omega)
    refine (a0h (by have:=a0r hX;omega)).mo ?_
    rintro _ G3 ⟨rfl,hx3⟩
    generalize D / 4294967296=ch at *
    generalize D % 4294967296=cm at *
    have hX3:=hx3.bk hX
    have hpl:=a0r hX3
    have hle:o + i + 1<=X.length:=by rw [hw.1];omega
    simp [-Int.natCast_add,-Int.natCast_mul,-Int.natCast_ediv,-Int.natCast_emod,hi1,hX3,hle,hf,e9]
    refine ⟨k - 1,by omega,i + 1,by omega,ch,rfl,rfl,X.set (o + i) cm,by rw [a0C hpl,c0S],(hx.trans hx3.extB).set,hw.step hcm,by omega,?_⟩
    rw [hw.win (by omega),haw,hLw,N1m]
    exact r0j hs hD.symm hDD
   ·have hV0:a.getD i 0=0:=by rw [M1R,N1d (by omega)];rfl
    rw [hV0] at haw
    obtain ⟨V,hV⟩:∃ V,V=0:=⟨0,rfl⟩
    replace haw:win a 0 (i + 1)=win a 0 i + 4294967296 ^ i * V:=by rw [haw,hV]
    have e1':IntKind.u64.wrap ((c:Int) + (A:Int))=((c + A + V:Nat):Int):=by rw [e1,hV];rfl
    simp [-Int.natCast_add,-Int.natCast_mul,-Int.natCast_ediv,-Int.natCast_emod,p0T,u0i,u0j,u0k,u0l,u0m,u0n,u0o,g0,g1,g4,g7,g8,hi,hv'.slen,hia,hi1,hi2,e1',eA]
    generalize hD:c + A + V=D at *
    have hDD:D=(D / 4294967296) * 4294967296 + D % 4294967296:=(P1a D 4294967296).symm
    have hcm:=N1R D (show 0 < 4294967296 by omega)
    refine (a0h (by have:=a0r hX;omega)).mo ?_
    rintro _ G3 ⟨rfl,hx3⟩
    generalize D / 4294967296=ch at *
    generalize D % 4294967296=cm at *
    have hX3:=hx3.bk hX
    have hpl:=a0r hX3
    have hle:o + i + 1<=X.length:=by rw [hw.1];omega
    simp [-Int.natCast_add,-Int.natCast_mul,-Int.natCast_ediv,-Int.natCast_emod,hi1,hX3,hle,hf,e9]
    refine ⟨k - 1,by omega,i + 1,by omega,ch,rfl,rfl,X.set (o + i) cm,by rw [a0C hpl,c0S],(hx.trans hx3.extB).set,hw.step hcm,by omega,?_⟩
    rw [hw.win (by omega),haw,hLw,N1m]
    exact r0j hs hD.symm hDD
  ·simp [p0T,g0,g1,g4,g7,g8,hi]
   have:i=n:=by omega
   subst this
   exact ⟨X,hX,hx,hw,c,by rw [hs,k0Q ha]⟩
 ·exact ⟨0,0,L,by omega,by simp,by simp [h0,hSL],by simp [h0],by simp,by simp,by simp,hb,j0m.refl,Won.zero hok,by omega,by simp [win]⟩
end
section
theorem c0O {L:List Nat} {o i:Nat}:∀ {j:Nat},win L o (i + j)=win L o i + 4294967296 ^ i * win L (o + i) j
 | 0=>by simp [win]
 | j + 1=>by
  rw [<- N1U,win,c0O,win,N1a,<- N1h,<- O1S,N1U o i j,N1U]
theorem t1Y {L:List Nat} {o k:Nat} (hk:2<=k):win L o (k + 1)=win L o (k - 2) + 4294967296 ^ (k - 2) * ((L.getD (o + k) 0 * 4294967296 + L.getD (o + (k - 1)) 0) * 4294967296 + L.getD (o + (k - 2)) 0):=by
 obtain ⟨j,rfl⟩:∃ j,k=j + 2:=⟨k - 2,by omega⟩
 rw [show j + 2 - 2=j by omega,show j + 2 + 1=j + 3 by omega,c0O,show j + 2 - 1=j + 1 by omega]
 congr 2
 simp only [win]
 rw [show o + j + 0=o + j by omega,show o + j + 1=o + (j + 1) by omega,show o + j + 2=o + (j + 2) by omega]
 omega
theorem S0g {L:List Nat} {o k:Nat} (hk:2<=k):win L o k=win L o (k - 2) + 4294967296 ^ (k - 2) * (L.getD (o + (k - 1)) 0 * 4294967296 + L.getD (o + (k - 2)) 0):=by
 obtain ⟨j,rfl⟩:∃ j,k=j + 2:=⟨k - 2,by omega⟩
 rw [show j + 2 - 2=j by omega,c0O,show j + 2 - 1=j + 1 by omega]
 congr 2
 simp only [win]
 rw [show o + j + 0=o + j by omega,show o + j + 1=o + (j + 1) by omega]
 omega
structure Gs (W low lowV Uw V x u3 top next B:Nat):Prop where
 W0:0 < W
 hlow:low < W
 hlowV:lowV < W
 hU:Uw=low + W * (x * B + u3)
 hV:V=lowV + W * (top * B + next)
 hB:B<=2 * top
 htop:top < B
 hnext:next < B
 hu3:u3 < B
 lt:Uw < V * B
variable {W low lowV Uw V x u3 top next B g rest q:Nat}
theorem Gs.V0 (h:Gs W low lowV Uw V x u3 top next B):0 < V:=by
 rw [h.hV]
 have h1:0 < top:=by have:=h.hB;have:=h.htop;omega
 have h2:0 < B:=by have:=h.htop;omega
 have:=Nat.mul_pos h.W0 (show 0 < top * B + next by have:=Nat.mul_pos h1 h2;omega)
 omega
theorem Gs.V_lt (h:Gs W low lowV Uw V x u3 top next B):V < W * (top * B + next + 1):=by
 rw [h.hV,N1a W (top * B + next) 1,N1W];have:=h.hlowV;omega
theorem Gs.U_lt (h:Gs W low lowV Uw V x u3 top next B):Uw < W * (x * B + u3 + 1):=by
 rw [h.hU,N1a W (x * B + u3) 1,N1W];have:=h.hlow;omega
theorem Gs.V_ge (h:Gs W low lowV Uw V x u3 top next B):W * (top * B + next)<=V:=by rw [h.hV];omega
theorem Gs.U_ge (h:Gs W low lowV Uw V x u3 top next B):W * (x * B + u3)<=Uw:=by rw [h.hU];omega
theorem Gs.q_lt (h:Gs W low lowV Uw V x u3 top next B):Uw / V < B:=by
 rw [O1b h.V0,N1p];exact h.lt
theorem Gs.q_le (h:Gs W low lowV Uw V x u3 top next B):Uw / V<=x / top:=by
 have h1:0 < top:=by have:=h.hB;have:=h.htop;omega
 rw [Nat.le_div_iff_mul_le h1]
 have h2:=Nat.div_mul_le_self Uw V
 generalize Uw / V=q at *
 have h3:W * (q * (top * B))<=q * V:=by
  calc W * (q * (top * B))<=W * (q * (top * B + next)):=N1w _ (N1w _ (by omega))
   _=q * (W * (top * B + next)):=by grind
   _<=q * V:=N1w _ h.V_ge
 have h4:=h.U_lt
 have h5:q * (top * B) < x * B + u3 + 1:=N1Y (a:=W) (by omega)
 have h6:=h.hu3
 have h7:q * top * B < (x + 1) * B:=by rw [N1h,N1t];omega
 have:=O1X h7
 omega
theorem Gs.x_lt (h:Gs W low lowV Uw V x u3 top next B):x < top * B + B:=by
 have h1:=h.U_ge
 have h2:=h.lt
 have h3:=h.V_lt
 have hB:0 < B:=by have:=h.htop;omega
 have h4:W * (x * B + u3) < W * ((top * B + next + 1) * B):=by
  have:V * B<=W * (top * B + next + 1) * B:=N1e _ (by omega)
  rw [N1h] at this;omega
 have h5:=N1Y h4
 have h6:x * B < (top * B + next + 1) * B:=by omega
 have:=O1X h6
 have:=h.hnext
 omega
theorem Gs.down (h:Gs W low lowV Uw V x u3 top next B) (hx:g * top + rest=x) (hq:Uw / V<=g) (hc:B<=g ∨ rest * B + u3 < g * next):Uw / V<=g - 1/\0 < g:=by
 have h1:=h.q_lt
 have hB:0 < B:=by have:=h.htop;omega
 rcases hc with hc | hc
 ·omega
 ·have hne:Uw / V ≠ g:=by
   intro he
   have h2:=Nat.div_mul_le_self Uw V
   rw [he] at h2
   have h3:W * (g * (top * B + next))<=g * V:=by
    calc W * (g * (top * B + next))=g * (W * (top * B + next)):=by grind
     _<=g * V:=N1w _ h.V_ge
   have h4:=h.U_lt
   have h5:g * (top * B + next) < x * B + u3 + 1:=N1Y (a:=W) (by omega)
   rw [<- hx,N1t,N1a,<- N1h] at h5
   omega
  generalize Uw / V=q at *
  omega
theorem Gs.fine (h:Gs W low lowV Uw V x u3 top next B) (hx:g * top + rest=x) (hg:g < B) (hc:g * next<=rest * B + u3):g<=Uw / V + 1:=by
 by_cases hgq:g<=Uw / V + 1
 ·exact hgq
 ·exfalso
  have hgq2:Uw / V + 1<=g - 1:=by generalize Uw / V=q at *;omega
  have h1:Uw < (Uw / V + 1) * V:=by
   have:=O1t Uw V
   have h2:=N1R Uw h.V0
   rw [N1t,N1p (Uw / V)];omega
  have h2:(Uw / V + 1) * V<=(g - 1) * V:=N1e _ hgq2
  have h3:(g - 1) * V<=(g - 1) * (W * (top * B + next + 1)):=N1w _ (by have:=h.V_lt;omega)
  have h4:=h.U_ge
  have h5:W * (x * B + u3) < W * ((g - 1) * (top * B + next + 1)):=by
   have:(g - 1) * (W * (top * B + next + 1))=W * ((g - 1) * (top * B + next + 1)):=by grind
   omega
  have h6:=N1Y h5
  obtain ⟨g1,rfl⟩:∃ g1,g=g1 + 1:=⟨g - 1,by generalize Uw / V=q at *;omega⟩
  rw [show g1 + 1 - 1=g1 by omega] at h6
  have h7:(g1 + 1) * (top * B + next)<=x * B + u3:=by
   rw [<- hx,N1t ((g1 + 1) * top),N1a (g1 + 1),<- N1h];omega
  have h8:top * B + next < g1:=by
   rw [N1t,O1e] at h7
   rw [N1a,N1W] at h6
   omega
  have h9:B<=top * B:=Nat.le_mul_of_pos_left _ (by have:=h.hB;have:=h.htop;omega)
  omega
theorem F0m {X c P:Nat} (h:Gs W low lowV Uw V x u3 top next B) (h1:Uw / V<=g) (h2:g<=Uw / V + 1) (hs:X + g * V=Uw + c * P) (hX:X < P) (hP:V < P) :
  (c=0->g=Uw / V/\X=Uw % V)/\(c ≠ 0->g=Uw / V + 1/\∀ X' c',X' + c' * P=X + V->X' < P->X' = Uw % V):=by
 have hd:=O1t Uw V
 have hm:=N1R Uw h.V0
 generalize Uw / V=q at *
 generalize Uw % V=r at *
 refine ⟨fun hc=>?_,fun hc=>?_⟩
 ·subst hc
  rw [Nat.zero_mul,N1O] at hs
  by_cases hg:g=q
  ·subst hg;refine ⟨rfl,?_⟩;rw [N1p g V] at hs;omega
  ·have:g=q + 1:=by omega
   subst this
   rw [N1t,O1e,N1p q V] at hs;omega
 ·have hcP:P<=c * P:=Nat.le_mul_of_pos_left _ (by omega)
  by_cases hg:g=q
  ·subst hg;rw [N1p g V] at hs;omega
  ·have hg:g=q + 1:=by omega
   subst hg
   refine ⟨rfl,fun X' c' h3 h4=>?_⟩
   rw [N1t,O1e,N1p q V] at hs
   have hc1:c=1:=by
    by_cases hc2:2<=c
    ·have:2 * P<=c * P:=N1e _ hc2
     omega
    ·omega
   subst hc1
   have hc'1:c' = 1:=by
    by_cases h5:c' = 0
    ·subst h5;omega
    ·by_cases h6:2<=c'
     ·have:2 * P<=c' * P:=N1e _ h6
      omega
     ·omega
   subst hc'1
   omega
theorem v0f {BB i k n q r V U0:Nat} {L X Q:List Nat} (hBB:BB=4294967296) (hL:L.length=n) (hw:Won L X i (k + 1)) (hn:i + (k + 1)<=n) (hQ:i < Q.length) (hU:U0=a0q (Q.drop (i + 1)) * BB ^ (i + 1) * V + a0q L) (hV:V < BB ^ k) (hlt:a0q L < V * BB ^ (i + 1))
  (hq:win L i (k + 1)=V * q + r) (hr:r < V) (hX:win X i (k + 1)=r) :
  a0q X < V * BB ^ i/\U0=a0q ((Q.set i q).drop i) * BB ^ i * V + a0q X:=by
 obtain ⟨j,rfl⟩:∃ j,n=i + (k + 1) + j:=⟨n - (i + (k + 1)),by omega⟩
 have e1:a0q L=win L 0 i + BB ^ i * (win L i (k + 1) + BB ^ (k + 1) * win L (i + (k + 1)) j):=by
  have h1:=i0B (L:=L) (M1U _)
  rw [N1f,hL,N1U,c0O,c0O,N1q] at h1
  rw [h1,hBB]
 have e2:a0q X=win X 0 i + BB ^ i * (win X i (k + 1) + BB ^ (k + 1) * win X (i + (k + 1)) j):=by
  have h1:=i0B (L:=X) (M1U _)
  rw [N1f,hw.1,hL,N1U,c0O,c0O,N1q] at h1
  rw [h1,hBB]
 have e3:win X 0 i=win L 0 i:=k0q fun j hj=>hw.2.2 _ (by omega)
 have e4:win X (i + (k + 1)) j=win L (i + (k + 1)) j:=k0q fun j hj=>hw.2.2 _ (by omega)
 have hP:0 < BB ^ i:=Nat.pow_pos (by omega)
 have e5:win L (i + (k + 1)) j=0:=by
  by_cases h0:win L (i + (k + 1)) j=0
  ·exact h0
  ·exfalso
   have h1:BB ^ i * BB ^ (k + 1)<=a0q L:=by
    rw [e1]
    have:BB ^ i * BB ^ (k + 1)<=BB ^ i * (win L i (k + 1) + BB ^ (k + 1) * win L (i + (k + 1)) j):=N1w _ (by
     have:=Nat.le_mul_of_pos_right (BB ^ (k + 1)) (by omega:0 < win L (i + (k + 1)) j);omega)
    omega
   have h2:V * BB ^ (i + 1)<=BB ^ k * BB ^ (i + 1):=N1e _ (by omega)
   have h3:BB ^ k * BB ^ (i + 1)=BB ^ i * BB ^ (k + 1):=by rw [<- O1S,<- O1S];congr 1;omega
   omega
 rw [e5,Nat.mul_zero,N1O] at e1
 rw [e3,e4,e5,Nat.mul_zero,N1O,hX] at e2
 have hlow:win L 0 i < BB ^ i:=by
  rw [<- e3,hBB];exact l0o hw.2.1 0 i
 refine ⟨?_,?_⟩
 ·rw [e2]
  have:BB ^ i * (r + 1)<=BB ^ i * V:=N1w _ hr
  rw [N1a,N1W] at this
  rw [N1p V];omega
 ·have h5:=f0O (l:=Q.set i q) (n:=i) (by simpa using hQ)
  rw [M1R,O1v hQ,N1D,List.drop_set_of_lt (show i < i + 1 by omega),<- hBB] at h5
  rw [hU,e1,e2,hq,h5,N1m]
  grind
