/- Part 10 of the proof. -/
import Derived.Test.YtgopfcmbofkmmaaGreatM08
set_option linter.unusedVariables false
set_option linter.unusedSimpArgs false
set_option linter.unusedSectionVars false
set_option maxHeartbeats 4000000
namespace Go.Proofs.YtgopfcmbofkmmaaGreat.AI
open Go
section
@[simp] theorem t1W {w:Bool}:u0M w undef=false:=nr rfl
variable {fl:Nat} {H G:a0c} {R:a0P} {v w:Value} {l:List Nat} {i:Bool × List Nat}
def newB (H:a0c) (r:Value):Prop:=∀ q,slB r=some q->H.size<=q
theorem Own.newB {e sz n:Nat} {cs:List Value} (h:Own H.size G e sz v n cs):AI.newB H v:=by
 obtain ⟨_,⟨rfl,_⟩ | ⟨b,cap,rfl,_,hb⟩⟩:=h
 ·intro q hq;cases hq
 ·intro q hq
  simp only [slB,M1Q] at hq
  omega
theorem newB.of {u:Value} (h:newB H v) (he:slB u=slB v):newB H u:=fun q hq=>h q (by rw [<- he];exact hq)
theorem newB.ne {p:Nat} (h:newB H v) (hp:p < H.size):slB v ≠ some p:=fun he=>by have:=h p he;omega
theorem F0g {x y z:Option Value} {n:Nat} {u:Value} (h:d0s n v x y z=some u):slB u=slB v:=by
 unfold d0s at h
 split at h
 ·rename_i p len cap
  split at h
  ·split at h
   ·split at h
    ·simp only [M1Q] at h
     subst h
     cases p <;> rfl
    ·split at h
     ·split at h
      ·simp only [M1Q] at h
       subst h
       cases p <;> rfl
      ·cases h
     ·cases h
   ·cases h
  ·cases h
 ·cases h
theorem e0S (h:Lim H v l) (hf:fl<=H.size) (hn:l.length < 4611686018427387904):b0k env fl l0w [v] H (fun r H'=>(Lim H' r (c0V l)/\slB r=slB v)/\Ext H H') R:=by
 refine a0i I1b hf (h:=?_)
 intro ρ h0
 simp [E0L,B0l,B0m,h0,h.slen]
 refine b0X (fun k t G=>G=H/\t.length=21/\get t 0=v/\get t 3=.int .i64 k/\k<=l.length/\c0V (l.take k)=c0V l)
  (fun t G=>∃ k:Nat,G=H/\t.length=21/\get t 0=v/\get t 3=.int .i64 k/\k<=l.length/\c0V l=l.take k) l.length (by simp [h0]) ?_ ?_
 ·rintro k t G ⟨rfl,ht,g0,g3,hk,htr⟩
  obtain ⟨ρ,rfl⟩:=toT ht
  simp only [b0H,Nat.reduceLT] at g0 g3
  by_cases hk0:k=0
  ·subst hk0
   simp [t0F,g0,g3]
   exact ⟨0,by simp,by simp,by rw [<- htr];rfl⟩
  ·have hp:0 < k:=by omega
   have w1:IntKind.i64.wrap ((k:Int) - 1)=((k - 1:Nat):Int):=by rw [b0d (by omega) (by omega)];omega
   simp [t0F,B0n,g0,g3,hp,w1,h.ia (show k - 1 < l.length by omega),h.load (show k - 1 < l.length by omega)]
   have hk1:l.take k=l.take (k - 1) ++ [l.getD (k - 1) 0]:=by rw [<- d0J (by omega)];congr 1;omega
   rw [M1R] at hk1
   refine ⟨fun hz=>⟨k - 1,by omega,rfl,by omega,?_⟩,fun hz=>⟨k,rfl,hk,?_⟩⟩
   ·rw [<- htr,hk1,hz,n0n]
   ·rw [<- htr,hk1,k0O hz]
 ·rintro t G ⟨k,rfl,ht,g0,g3,hk,htr⟩
  obtain ⟨ρ,rfl⟩:=toT ht
  simp only [b0H,Nat.reduceLT] at g0 g3
  obtain ⟨v',h1,h2⟩:=h.take hk (x:=none) rfl (y:=some (.int .i64 (k:Int))) (by simp)
  simp [B0o,g0,g3,h.elemOk,h1]
  rw [htr];exact ⟨h2,F0g h1⟩
theorem l0m (h:Lim H v l) (hf:fl<=H.size) (hn:l.length < 4611686018427387904):b0k env fl l0w [v] H (fun r H'=>Lim H' r (c0V l)/\Ext H H') R:=(e0S h hf hn).mo fun _ _ h=>⟨h.1.1,h.2⟩
theorem c0U (h:c0m H v i) (hf:fl<=H.size) (hn:i.2.length < 4611686018427387904):b0k env fl F0B [v] H (fun r H'=>r=.bool (d0k i)/\Ext H H') R:=by
 obtain ⟨s,rfl,hs⟩:=h
 obtain ⟨bi,li⟩:=i
 simp only at hs hn ⊢
 refine a0i M1o hf (h:=?_)
 intro ρ h0
 simp [E1Y,U0s,h0]
 generalize hG:H.push _=G
 obtain ⟨hx2,b0⟩:=t0i hG
 have hx:=Ext.refl H
 clear hG
 replace hx:=hx.trans hx2
 have ks:=hs.mo hx
 unfold d0k
 simp [U0t,h0,b0,ks.slen]
 by_cases hl:li.length=0
 ·have hnil:li=[]:=by simpa using hl
  subst hnil
  cases bi <;> simp [E0w,b0]
 ·have hp:0 < li.length:=by omega
  have hne:li ≠ []:=fun h=>hl (by rw [h];rfl)
  have w1:IntKind.i64.wrap ((li.length:Int) - 1)=((li.length - 1:Nat):Int):=by rw [b0d (by omega) (by omega)];omega
  have hlt:li.length - 1 < li.length:=by omega
  have h1:=ks.ia hlt (k:=.i64)
  have h2:=ks.load hlt (Ext.refl _)
  have e1:((li.length:Int)=0)=False:=by simp;omega
  have e2:((0:Int) < (li.length:Int))=True:=by simp;omega
  rw [M1R] at h2
  simp [hne,hp,E0w,b0,e1,e2,w1,h1,h2]
theorem F1e {G G3:a0c} {q:Nat} {r:Blk} {ro:Bool} {cs:List Value} {s:Value} (hS:Array.setIfInBounds G q r=G3) (hx:Ext H G) (hs:Lim G s l) (hb:a0c.bk G q=.row ro a0a cs) (hq:H.size<=q) :
  Lim G3 s l/\Ext H G3/\a0c.bk G3 q=r:=⟨by rw [<- hS];exact hs.setT hb (by decide),q0l hS hx hq,k0L hS hb⟩
theorem X0m (h:b0g i.2):(if d0k i then i else (false,[]))=a0J (a0B i):=by
 cases hm:d0k i with
 | false=>simp [a0B,hm,a0J,a0G]
 | true =>
  have h1:=h0U h
  unfold d0N at h1
  rw [hm] at h1
  have h2:=z0C i
  unfold w1m at h2
  rw [hm] at h2
  simp at h1 h2
  simp only [N1E]
  exact Prod.ext (by rw [h2];rfl) h1
theorem l0l (h:c0m H v i) (hf:fl<=H.size) (hn:i.2.length < 4611686018427387904):b0k env fl l0v [v] H (fun r H'=>c0m H' r (a0J (a0B i))/\Ext H H') R:=by
 rw [<- X0m h.ok]
 have k0:=h
 obtain ⟨s,rfl,hs⟩:=h
 refine a0i H1Z hf (h:=?_)
 intro ρ h0
 simp [E0K,A0Z,h0,hs.cells]
 generalize hG:(H.push _).push _=G
 have hx2:Ext H G:=by rw [<- hG];exact (Ext.refl H).push.push
 have b0:a0c.bk G H.size=.row false a0a [.bool i.1,s]:=by rw [<- hG];simp
 have b1:a0c.bk G (H.size + 1)=.row false a0a [.bool false,.slice none 0 0]:=by rw [<- hG];simp
 have hx:=Ext.refl H
 clear hG
 replace hx:=hx.trans hx2;replace k0:=k0.mo hx2
 simp [B0a,b0]
 refine (c0U k0 hx.1 hn).mo ?_
 rintro _ G2 ⟨rfl,hx2⟩
 replace b0:=hx2.bk b0;replace b1:=hx2.bk b1;replace hx:=hx.trans hx2;replace k0:=k0.mo hx2
 have hsz:=hx.1
 have hlt:=a0r b1
 cases hm:d0k i with
 | true =>
  obtain ⟨s',he,hs'⟩:=k0
  have:s' = s:=by simpa using he.symm
  subst this
  simp [B0c,b0,b1,hs'.cells,hs'.plain,hsz]
  generalize hS:Array.setIfInBounds G2 _ _=G3
  obtain ⟨kS,hx3,b3⟩:=F1e hS hx hs' b1 (by omega)
  simp [b3]
  exact fun _=>⟨s',rfl,kS⟩
 | false =>
  simp [B0b,b0,b1,hsz]
  generalize hS:Array.setIfInBounds G2 _ _=G3
  have b3:=k0L hS b1
  simp [b3]
  exact fun _=>⟨.slice none 0 0,rfl,Lim.nil⟩
theorem x0A {b:Bool} (z:Int) (h:Lim H v l) (hf:fl<=H.size) (hn:l.length<=1073741824) (hz:(if b then -(a0q l:Int) else a0q l)=z) :
  b0k env fl x0T [.bool b,v] H (fun r H'=>c0m H' r (a0J z)/\Ext H H') R:=by
 rw [<- hz,<- z0y h.ok]
 refine a0i M1p hf (h:=?_)
 intro ρ h0
 simp [E1Z,U0u,U0v,h0]
 generalize hG:H.push _=G
 obtain ⟨hx2,b0⟩:=t0i hG
 have hx:=Ext.refl H
 clear hG
 replace hx:=hx.trans hx2
 replace h:=h.mo hx
 refine (l0m h hx.1 (by omega)).mo ?_
 rintro u G2 ⟨ht,hx2⟩
 replace b0:=hx2.bk b0;replace hx:=hx.trans hx2
 have hsz:=hx.1
 simp
 by_cases hl:c0V l=[]
 ·have hk:mkI b l=(false,[]):=by simp [mkI,hl]
  rw [hk]
  rw [hl] at ht
  simp [E0x,U0w,ht.slen,b0,hsz]
  generalize hS:Array.setIfInBounds G2 _ _=G3
  have b3:=k0L hS b0
  simp [b3]
  exact fun _=>⟨.slice none 0 0,rfl,Lim.nil⟩
 ·have hk:mkI b l=(b,c0V l):=by simp [mkI,hl]
  rw [hk]
  have hl':¬ (c0V l).length=0:=by simpa using hl
  have hle:(c0V l).length<=l.length:=by
   rw [c0b l h.ok];exact f0I (g0h l h.ok)
  simp [E0x,U0x,ht.slen,b0,hsz,hl,h0]
  have hx4:Ext G2 (G2.push (.row false a0b [])):=(Ext.refl G2).push
  have hlt:=a0r b0
  obtain ⟨v',G',h1,h2,h3,h4⟩:=o0Q (fl:=H.size) (G:=G2.push (.row false a0b [])) (s:=.slice (some ⟨G2.size,0,none⟩) 0 0) (e:=a0b) (cs:=[]) (sz:=1) (n:=0) (bytes:=4) (e2:=a0b)
   (Own.mk a0N rfl hsz) (ht.mo hx4).1 k0H (by omega) (by omega) (by omega) (by simp;omega)
  rw [N1q,O1R] at h2
  have b4:G'.bk H.size=.row false a0a [.bool false,.slice none 0 0]:=by
   rw [h3.2 _ (by simp;omega) (by simp [slB];omega)]
   exact hx4.bk b0
  have kL:Lim G' v' (c0V l):=⟨h2.sl,ht.2⟩
  have hx5:Ext H G':=h4 H (M1U _) (hx.trans hx4)
  simp [h1,kL.cells,kL.plain,b4,b0e]
  generalize hS:Array.setIfInBounds G' _ _=G3
  obtain ⟨kS,hx3,b3⟩:=F1e hS hx5 kL b4 (by omega)
  simp [b3]
  exact fun _=>⟨v',rfl,kS⟩
end
section
variable {fl:Nat} {H G:a0c} {R:a0P} {v w:Value} {a b:List Nat}
theorem m0R (ha:Lim H v a) (hb:Lim H w b) (hf:fl<=H.size) (hna:a.length < 4611686018427387904) :
  b0k env fl r0a [v,w] H (fun r H'=>r=.int .i64 (x0Q a b)/\Ext H H') R:=by
 refine a0i I1q hf (h:=?_)
 intro ρ h0
 have w1:IntKind.i64.wrap ((a.length:Int) - 1)=(a.length:Int) - 1:=b0d (by omega) (by omega)
 by_cases hab:a.length=b.length
 ·have hab':(a.length:Int)=(b.length:Int):=by omega
  simp [u0F,p0K,p0L,C0w,h0,ha.slen,hb.slen,hab]
  rw [<- hab,w1]
  have hcl:x0Q a b=i0Y (a0q a) (a0q b):=by simp [x0Q,hab]
  rw [hcl]
  refine b0X (fun k t G'=>t.length=41/\get t 0=v/\get t 1=w/\get t 5=.int .i64 ((k:Int) - 1)/\G' = H/\k<=a.length/\a.drop k=b.drop k)
   (fun t G'=>t.length=41/\G' = H/\a=b) a.length (by simp [h0,hab]) ?_ ?_
  ·clear h0 ρ
   rintro k t G' ⟨ht,g0,g1,g5,rfl,hk,hd⟩
   obtain ⟨ρ,rfl⟩:=toT ht
   simp only [b0H,Nat.reduceLT] at g0 g1 g5
   by_cases hk0:k=0
   ·subst hk0
    simp [t0Q,g0,g1,g5]
    simpa using hd
   ·have e0:(k:Int) - 1=((k - 1:Nat):Int):=by omega
    have hka:k - 1 < a.length:=by omega
    have hkb:k - 1 < b.length:=by omega
    have hla:=ha.load hka (Ext.refl _)
    have hlb:=hb.load hkb (Ext.refl _)
    have w2:IntKind.i64.wrap (((k - 1:Nat):Int) - 1)=((k - 1:Nat):Int) - 1:=b0d (by omega) (by omega)
    rw [e0] at g5
    have hla':=ha.ia (k:=.i64) hka
    have hlb':=hb.ia (k:=.i64) hkb
    have hh:=r0u hab ha.ok hb.ok hka (by rw [show k - 1 + 1=k by omega];exact hd)
    have hfin:a.getD (k - 1) 0=b.getD (k - 1) 0->a.drop (k - 1)=b.drop (k - 1):=by
     intro he
     rw [N1P hka,N1P hkb,show k - 1 + 1=k by omega,hd]
     rw [M1R,M1X hka,M1R,M1X hkb] at he
     congr 1
    generalize a.getD (k - 1) 0=A at hla hh hfin
    generalize b.getD (k - 1) 0=B at hlb hh hfin
    simp [t0Q,g0,g1,g5]
    refine c0t ?_
    simp [C0x,g0,g1,g5,hla,hla',hlb,hlb']
    refine ⟨fun hlt=>?_,fun hnlt=>?_⟩
    ·simp [C0y]
     rw [hh (by omega),b0Y,M1Z hlt]
    ·refine c0t ?_
     simp [C0z,g0,g1,g5,hla,hla',hlb,hlb']
     refine ⟨fun hlt=>?_,fun hge=>?_⟩
     ·simp [v0U]
      rw [hh (by omega),b0Y,M1V (by omega),M1Z hlt]
     ·simp [v0V,g5,w2]
      exact ⟨k - 1,by omega,g0,g1,rfl,by omega,hfin (by omega)⟩
  ·rintro t G' ⟨ht,rfl,hab2⟩
   obtain ⟨ρ,rfl⟩:=toT ht
   simp [v0W]
   rw [hab2];simp [i0Y]
 ·have hab':¬ (a.length:Int)=(b.length:Int):=by omega
  have hcl:x0Q a b=i0Y a.length b.length:=by simp [x0Q,hab]
  rw [hcl,b0Y]
  by_cases hlt:a.length < b.length
  ·have hlt':(a.length:Int) < (b.length:Int):=by omega
   simp [u0F,p0K,p0L,t0P,C0u,h0,ha.slen,hb.slen,hab,hlt]
  ·have hlt':¬ (a.length:Int) < (b.length:Int):=by omega
   have hgt:b.length < a.length:=by omega
   simp [u0F,p0K,p0L,t0P,C0v,h0,ha.slen,hb.slen,hab,hlt,hgt]
theorem p0j {l:List Nat} {n:Nat}:a0q (l.take (n + 1))=a0q (l.take n) + 4294967296 ^ n * l.getD n 0:=by
 by_cases h:n < l.length
 ·exact a0H h
 ·rw [N1c (by omega),N1c (by omega),M1R,N1d (by omega)];simp
theorem S0F {x c:Nat} (hx:x < 4294967296) (h2:x % 2=0) (hc:c<=1):c0k 0 .or (.int .u32 (x:Int)) (.int .u32 (c:Int))=some (.int .u32 ((x + c:Nat):Int)):=by
 rw [k0v]
 have e1:(BitVec.ofInt IntKind.u32.bits (x:Int) ||| BitVec.ofInt IntKind.u32.bits (c:Int)).toNat=x + c:=by
  show (BitVec.ofInt 32 (x:Int) ||| BitVec.ofInt 32 (c:Int)).toNat=x + c
  rw [BitVec.toNat_or,O1z,O1z]
  have e2:((x:Int) % (2 ^ 32:Nat)).toNat=x:=by omega
  have e3:((c:Int) % (2 ^ 32:Nat)).toNat=c:=by omega
  rw [e2,e3]
  have:=O1u (i:=1) (b:=c) (by omega) (x / 2)
  have e4:2 ^ 1 * (x / 2)=x:=by omega
  rw [e4] at this
  exact this.symm
 rw [e1,q0t]
 congr 3
 omega
theorem n0R {o:Bool} (ha:Lim H v a) (hf:fl<=H.size) (hna:a.length < 1073741822) :
  b0k env fl y0J [v,.bool o] H (fun r H'=>(Lim H' r (a0l (2 * a0q a + o.toNat))/\newB H r)/\Ext H H') R:=by
 refine a0i I1r hf (h:=?_)
 intro ρ h0
 simp [R0H,C0A,C0B,C0C,C0D,h0]
 cases o with
 | true =>
  simp [C0E,t0R]
  refine f0r (fun n ρ G=>ρ 0=v/\ρ 7=.int .i64 (n:Int)/\∃ c,ρ 6=.int .u32 ((c:Nat):Int)/\Ext H G/\∃ out,Own H.size G a0b 1 (ρ 5) n (b0C out)/\b0g out/\out.length=n/\c<=1 /\
    a0q out + 4294967296 ^ n * c=2 * a0q (a.take n) + 1) a.length (by decide) ⟨by simp [h0],by simp,1,by simp,Ext.refl H,[],by simp;exact Own.nil,by intro x hx;simp at hx,rfl,by omega,by simp [a0q]⟩ ?_
  clear h0 ρ
  rintro n ρ G hn1 ⟨g0,g7,c,g6,hx,out,ho,hok,hol,hc,hs⟩
  have ka:=ha.mo hx
  have e9:=b0D (show n < 4611686018427387904 by omega)
  obtain ⟨s,g5⟩:∃ s,ρ 5=s:=⟨_,rfl⟩
  rw [g5] at ho
  simp [t0S,g0,g7,ka.slen]
  refine g0T.mk (by simp) (fun hlt=>?_) (fun heq=>?_)
  ·have hA2:=a0H hlt
   have hA3:=c0z ha.ok n
   have a1:=ka.ia hlt (k:=.i64)
   have a2:=ka.load hlt (Ext.refl _)
   generalize a.getD n 0=A at hA2 hA3 a2
   have q1:c0k 0 .shl (.int .u32 (A:Int)) (.int .u64 1)=some (.int .u32 ((A * 2 ^ 1 % 4294967296:Nat):Int)):=q0m (s:=1) (by omega)
   have q2:=S0F (x:=A * 2 ^ 1 % 4294967296) (c:=c) (by omega) (by omega) hc
   have q3:c0k 0 .shr (.int .u32 (A:Int)) (.int .u64 31)=some (.int .u32 ((A / 2 ^ 31:Nat):Int)):=q0n (s:=31) (by omega)
   obtain ⟨y,hy⟩:∃ y,A * 2 ^ 1 % 4294967296 + c=y:=⟨_,rfl⟩
   obtain ⟨y0,hy0⟩:∃ y0,A * 2 ^ 1 % 4294967296=y0:=⟨_,rfl⟩
   obtain ⟨c',hc'⟩:∃ c',A / 2 ^ 31=c':=⟨_,rfl⟩
   rw [hy] at q2
   rw [hy0] at q1 q2
   rw [hc'] at q3
   obtain ⟨s',G3,h1,h2,h3,h4⟩:=e0c (e2:=a0b) (new:=[.int .u32 (y:Int)]) (c:=1) (bytes:=4) ho rfl rfl (by omega) (by omega) (by omega) hx.1
   have hx3:=h4 _ (M1U _) hx
   have kb:=ha.mo hx3
   have b1:=kb.ia hlt (k:=.i64)
   have b2:=kb.load hlt (Ext.refl _)
   have hfin:a0q (out ++ [y]) + 4294967296 ^ (n + 1) * c' = 2 * a0q (a.take (n + 1)) + 1:=by
    rw [c0a,hol,hA2,N1m]
    have e3:4294967296 ^ n * 4294967296 * c' = 4294967296 ^ n * (4294967296 * c'):=N1h ..
    have e4:y + 4294967296 * c' = c + 2 * A:=by omega
    have e5:4294967296 ^ n * y + 4294967296 ^ n * (4294967296 * c')=4294967296 ^ n * c + 4294967296 ^ n * (2 * A):=by rw [<- N1a,e4,N1a]
    have e6:4294967296 ^ n * (2 * A)=2 * (4294967296 ^ n * A):=by rw [O1F]
    omega
   have b2':b0w G3 false 1 (adr 1 v n)=some (.int .u32 (A:Int)):=by
    rw [ka.load hlt (Ext.refl _)] at a2
    rw [b2];exact a2
   simp [-Int.natCast_emod,-Int.natCast_add,-k0v,t0T,t0U,g0,g5,g6,g7,a1,a2,q1,q2,q3,h1,b2']
   unfold k0s
   simp [-Int.natCast_add,t0V,g7,e9]
   refine e0a.mk ⟨by simp [g0],by simp,c',by simp,hx3,out ++ [y],by simpa [b0C] using h2,?_,by simp [hol],by omega,hfin⟩
   intro x hx
   rcases N1B.1 hx with hx | hx
   ·exact hok x hx
   ·simp at hx;omega
  ·subst heq
   rw [N1f] at hs
   obtain ⟨s',G3,h1,h2,h3,h4⟩:=e0c (e2:=a0b) (new:=[.int .u32 (c:Int)]) (c:=1) (bytes:=4) ho rfl rfl (by omega) (by omega) (by omega) hx.1
   have hx3:=h4 _ (M1U _) hx
   simp [-Int.natCast_add,p0M,p0N,g5,g6,h1]
   have hok2:b0g (out ++ [c]):=by
    intro x hx
    rcases N1B.1 hx with hx | hx
    ·exact hok x hx
    ·simp at hx;omega
   refine (e0S (l:=out ++ [c]) ⟨by have:=h2.sl;simpa [hol,b0C] using this,hok2⟩ hx3.1 (by simp;omega)).mo ?_
   rintro r G2 ⟨⟨ht,hsb⟩,hx2⟩
   simp
   intro _
   rw [c0b _ hok2,c0a,hol,hs] at ht
   exact ⟨ht,(Own.newB h2).of hsb⟩
 | false =>
  simp [t0R]
  refine f0r (fun n ρ G=>ρ 0=v/\ρ 7=.int .i64 (n:Int)/\∃ c,ρ 6=.int .u32 ((c:Nat):Int)/\Ext H G/\∃ out,Own H.size G a0b 1 (ρ 5) n (b0C out)/\b0g out/\out.length=n/\c<=1 /\
    a0q out + 4294967296 ^ n * c=2 * a0q (a.take n) + 0) a.length (by decide) ⟨by simp [h0],by simp,0,by simp,Ext.refl H,[],by simp;exact Own.nil,by intro x hx;simp at hx,rfl,by omega,by simp [a0q]⟩ ?_
  clear h0 ρ
  rintro n ρ G hn1 ⟨g0,g7,c,g6,hx,out,ho,hok,hol,hc,hs⟩
  have ka:=ha.mo hx
  have e9:=b0D (show n < 4611686018427387904 by omega)
  obtain ⟨s,g5⟩:∃ s,ρ 5=s:=⟨_,rfl⟩
  rw [g5] at ho
  simp [t0S,g0,g7,ka.slen]
  refine g0T.mk (by simp) (fun hlt=>?_) (fun heq=>?_)
  ·have hA2:=a0H hlt
   have hA3:=c0z ha.ok n
   have a1:=ka.ia hlt (k:=.i64)
   have a2:=ka.load hlt (Ext.refl _)
   generalize a.getD n 0=A at hA2 hA3 a2
   have q1:c0k 0 .shl (.int .u32 (A:Int)) (.int .u64 1)=some (.int .u32 ((A * 2 ^ 1 % 4294967296:Nat):Int)):=q0m (s:=1) (by omega)
   have q2:=S0F (x:=A * 2 ^ 1 % 4294967296) (c:=c) (by omega) (by omega) hc
   have q3:c0k 0 .shr (.int .u32 (A:Int)) (.int .u64 31)=some (.int .u32 ((A / 2 ^ 31:Nat):Int)):=q0n (s:=31) (by omega)
   obtain ⟨y,hy⟩:∃ y,A * 2 ^ 1 % 4294967296 + c=y:=⟨_,rfl⟩
   obtain ⟨y0,hy0⟩:∃ y0,A * 2 ^ 1 % 4294967296=y0:=⟨_,rfl⟩
   obtain ⟨c',hc'⟩:∃ c',A / 2 ^ 31=c':=⟨_,rfl⟩
   rw [hy] at q2
   rw [hy0] at q1 q2
   rw [hc'] at q3
   obtain ⟨s',G3,h1,h2,h3,h4⟩:=e0c (e2:=a0b) (new:=[.int .u32 (y:Int)]) (c:=1) (bytes:=4) ho rfl rfl (by omega) (by omega) (by omega) hx.1
   have hx3:=h4 _ (M1U _) hx
   have kb:=ha.mo hx3
   have b1:=kb.ia hlt (k:=.i64)
   have b2:=kb.load hlt (Ext.refl _)
   have hfin:a0q (out ++ [y]) + 4294967296 ^ (n + 1) * c' = 2 * a0q (a.take (n + 1)) + 0:=by
    rw [c0a,hol,hA2,N1m]
    have e3:4294967296 ^ n * 4294967296 * c' = 4294967296 ^ n * (4294967296 * c'):=N1h ..
    have e4:y + 4294967296 * c' = c + 2 * A:=by omega
    have e5:4294967296 ^ n * y + 4294967296 ^ n * (4294967296 * c')=4294967296 ^ n * c + 4294967296 ^ n * (2 * A):=by rw [<- N1a,e4,N1a]
    have e6:4294967296 ^ n * (2 * A)=2 * (4294967296 ^ n * A):=by rw [O1F]
    omega
   have b2':b0w G3 false 1 (adr 1 v n)=some (.int .u32 (A:Int)):=by
    rw [ka.load hlt (Ext.refl _)] at a2
    rw [b2];exact a2
   simp [-Int.natCast_emod,-Int.natCast_add,-k0v,t0T,t0U,g0,g5,g6,g7,a1,a2,q1,q2,q3,h1,b2']
   unfold k0s
   simp [-Int.natCast_add,t0V,g7,e9]
   refine e0a.mk ⟨by simp [g0],by simp,c',by simp,hx3,out ++ [y],by simpa [b0C] using h2,?_,by simp [hol],by omega,hfin⟩
   intro x hx
   rcases N1B.1 hx with hx | hx
   ·exact hok x hx
   ·simp at hx;omega
  ·subst heq
   rw [N1f] at hs
   obtain ⟨s',G3,h1,h2,h3,h4⟩:=e0c (e2:=a0b) (new:=[.int .u32 (c:Int)]) (c:=1) (bytes:=4) ho rfl rfl (by omega) (by omega) (by omega) hx.1
   have hx3:=h4 _ (M1U _) hx
   simp [-Int.natCast_add,p0M,p0N,g5,g6,h1]
   have hok2:b0g (out ++ [c]):=by
    intro x hx
    rcases N1B.1 hx with hx | hx
    ·exact hok x hx
    ·simp at hx;omega
   refine (e0S (l:=out ++ [c]) ⟨by have:=h2.sl;simpa [hol,b0C] using this,hok2⟩ hx3.1 (by simp;omega)).mo ?_
   rintro r G2 ⟨⟨ht,hsb⟩,hx2⟩
   simp
   intro _
   rw [c0b _ hok2,c0a,hol,hs] at ht
   exact ⟨ht,(Own.newB h2).of hsb⟩
theorem f0M {p z x:Nat} {L:List Nat} (hb:G.bk p=.row false a0b (b0C L)) (hf:fl<=p) (hz:z < L.length) :
  n0l fl G 1 (.pointer (some ⟨p,z,none⟩)) (.int .u32 (x:Int))=some (G.setIfInBounds p (.row false a0b (b0C (L.set z x)))):=by
 have h1:a0t (.int .u32 (x:Int))=[.int .u32 (x:Int)]:=rfl
 rw [u0H hb hf (by rw [h1];rfl) (by simp;omega) (by rw [h1];rfl),h1,c0S]
 simp [b0e]
theorem G0f {n:Nat} {s:Value} (h:Own fl G a0b 1 s n (b0C a)) (hn:n=a.length) (h0:0 < a.length):∃ p cap,s=.slice (some ⟨p,0,none⟩) a.length cap/\G.bk p=.row false a0b (b0C a)/\fl<=p:=by
 obtain ⟨hl,⟨_,h1⟩ | ⟨b,cap,h1,h2,h3⟩⟩:=h
 ·omega
 ·exact ⟨b,cap,by rw [<- hn];exact h1,h2,h3⟩
theorem r0Q (ha:Lim H v a) (hb:Lim H w b) (hf:fl<=H.size) (hna:a.length < 1073741824) (hle:b.length<=a.length) (hnat:a0q b<=a0q a) (h0a:0 < a.length) :
  b0k env fl r0b [v,w] H (fun r H'=>(Lim H' r (a0l (a0q a - a0q b))/\newB H r)/\Ext H H') R:=by
 refine a0i I1s hf (h:=?_)
 intro ρ h0
 have hx4:Ext H (H.push (.row false a0b [])):=(Ext.refl H).push
 obtain ⟨v',G',h1,h2,h3,h4⟩:=o0Q (fl:=H.size) (G:=H.push (.row false a0b [])) (s:=.slice (some ⟨H.size,0,none⟩) 0 0) (e:=a0b) (cs:=[]) (sz:=1) (n:=0) (bytes:=4) (e2:=a0b)
  (Own.mk a0N rfl (M1U _)) (ha.mo hx4).1 k0H (by omega) (by omega) (by omega) (by simp)
 rw [N1q,O1R] at h2
 obtain ⟨p,cap,rfl,hbp,hp⟩:=G0f h2 rfl h0a
 have hx5:Ext H G':=h4 H (M1U _) hx4
 simp [E0R,C0F,C0G,C0H,C0I,h0,h1]
 refine f0r (fun n ρ G=>ρ 1=w/\ρ 5=.slice (some ⟨p,0,none⟩) a.length cap/\ρ 7=.int .i64 (n:Int)/\∃ c,ρ 6=.int .u64 ((c:Nat):Int)/\Ext H G/\∃ L,a0c.bk G p=.row false a0b (b0C L)/\L.length=a.length/\b0g L/\(∀ j,n<=j->L.getD j 0=a.getD j 0)/\c<=1 /\
   a0q (L.take n) + a0q (b.take n)=a0q (a.take n) + 4294967296 ^ n * c) a.length (by decide) ⟨by simp [h0],by simp,by simp,0,by simp,hx5,a,hbp,rfl,ha.ok,fun _ _=>rfl,by omega,by simp [a0q]⟩ ?_
 clear h0 ρ h1 h2 h3 h4 hbp hx5 hx4 G'
 rintro n ρ G hn1 ⟨g1,g5,g7,c,g6,hx,L,hbp,hL,hok,hrest,hc,hs⟩
 have e9:=b0D (show n < 4611686018427387904 by omega)
 have hsl:i0q (.slice (some ⟨p,0,none⟩) a.length cap)=some (.int .i64 (a.length:Int)):=rfl
 simp [C0J,g5,g7,hsl]
 refine g0T.mk (by simp) (fun hlt=>?_) (fun heq=>?_)
 ·have kb:=hb.mo hx
  have hnL:n < L.length:=by omega
  obtain ⟨o1,o2⟩:=i0C (k:=.i64) (cap:=cap) hbp hnL hL
  have hA2:=a0H hlt
  have hB2:=p0j (l:=b) (n:=n)
  have hA3:=c0z ha.ok n
  have hB3:=c0z hb.ok n
  rw [hrest n (M1U _)] at o2
  have hB:n < b.length->iaV 1 w (.int .i64 (n:Int))=some (adr 1 w n)/\b0w G false 1 (adr 1 w n)=some (.int .u32 ((b.getD n 0:Nat):Int)):=fun h=>⟨kb.ia h,kb.load h (Ext.refl _)⟩
  have hBz:¬ n < b.length->b.getD n 0=0:=fun h=>by rw [M1R,N1d (by omega)];rfl
  generalize a.getD n 0=A at hA2 hA3 o2
  generalize b.getD n 0=B at hB2 hB3 hB hBz
  obtain ⟨S,hS⟩:∃ S,c + B=S:=⟨_,rfl⟩
  have eA:IntKind.u64.wrap (A:Int)=(A:Int):=by rw [a0x];omega
  by_cases ib:n < b.length
  ·obtain ⟨b1,b2⟩:=hB ib
   have e2:IntKind.u64.wrap ((c:Int) + IntKind.u64.wrap (B:Int))=(S:Int):=by rw [a0x,a0x];omega
   simp [-Int.natCast_add,t0W,t0X,C0K,g1,g6,g7,kb.slen,ib,b1,b2,e2]
   by_cases hge:S<=A
   ·have q1:IntKind.u64.wrap ((A:Int) - (S:Int))=((A - S:Nat):Int):=by rw [a0x];omega
    have q2:IntKind.u32.wrap (((A - S:Nat):Int))=((A - S:Nat):Int):=by rw [k0R];omega
    have hst:=f0M (fl:=H.size) (x:=A - S) hbp hp hnL
    simp [-Int.natCast_add,m0T,t0Y,p0O,g1,g5,g6,g7,o1,o2,eA,hge,q1,q2,hst]
    have hfin:a0q ((L.set n (A-S)).take (n + 1)) + a0q (b.take (n + 1))=a0q (a.take (n + 1)) + 4294967296 ^ (n + 1) * 0:=by
     rw [c0H hnL,hA2,hB2,N1m]
     have e3:4294967296 ^ n * 4294967296 * 0=4294967296 ^ n * (4294967296 * 0):=N1h ..
     have e4:(A-S) + c + B=A + 4294967296 * 0:=by omega
     have e5:4294967296 ^ n * (A-S) + 4294967296 ^ n * c + 4294967296 ^ n * B=4294967296 ^ n * A + 4294967296 ^ n * (4294967296 * 0):=by rw [<- N1a,<- N1a,e4,N1a]
     omega
    unfold k0s
    simp [-Int.natCast_add,k0j,g7,e9]
    exact e0a.mk ⟨by simp [g1],by simp [g5],by simp,0,by simp,hx.set hp,L.set n (A-S),a0C (a0r hbp),by simp [hL],b0W hok (by omega),fun j hj=>by have h:=(b0Q (l:=L) (z:=A-S) (show n ≠ j by omega)).trans (hrest j (by omega));rw [M1R,M1R] at h;exact h,by omega,hfin⟩
   ·have hge':A < S:=by omega
    have q0:IntKind.u64.wrap ((A:Int) + 4294967296)=((A + 4294967296:Nat):Int):=by rw [a0x];omega
    have q1:IntKind.u64.wrap (((A + 4294967296:Nat):Int) - (S:Int))=((A + 4294967296 - S:Nat):Int):=by rw [a0x];omega
    have q2:IntKind.u32.wrap (((A + 4294967296 - S:Nat):Int))=((A + 4294967296 - S:Nat):Int):=by rw [k0R];omega
    have hst:=f0M (fl:=H.size) (x:=A + 4294967296 - S) hbp hp hnL
    simp [-Int.natCast_add,m0T,p0P,p0Q,g1,g5,g6,g7,o1,o2,eA,hge,hge',q0,q1,q2,hst]
    have hfin:a0q ((L.set n (A+4294967296-S)).take (n + 1)) + a0q (b.take (n + 1))=a0q (a.take (n + 1)) + 4294967296 ^ (n + 1) * 1:=by
     rw [c0H hnL,hA2,hB2,N1m]
     have e3:4294967296 ^ n * 4294967296 * 1=4294967296 ^ n * (4294967296 * 1):=N1h ..
     have e4:(A+4294967296-S) + c + B=A + 4294967296 * 1:=by omega
     have e5:4294967296 ^ n * (A+4294967296-S) + 4294967296 ^ n * c + 4294967296 ^ n * B=4294967296 ^ n * A + 4294967296 ^ n * (4294967296 * 1):=by rw [<- N1a,<- N1a,e4,N1a]
     omega
    unfold k0s
    simp [-Int.natCast_add,k0j,g7,e9]
    exact e0a.mk ⟨by simp [g1],by simp [g5],by simp,1,by simp,hx.set hp,L.set n (A+4294967296-S),a0C (a0r hbp),by simp [hL],b0W hok (by omega),fun j hj=>by have h:=(b0Q (l:=L) (z:=A+4294967296-S) (show n ≠ j by omega)).trans (hrest j (by omega));rw [M1R,M1R] at h;exact h,by omega,hfin⟩
  ·have hBn:=hBz ib
   have hcS:c=S:=by omega
   rw [hcS] at g6
   simp [-Int.natCast_add,t0W,t0X,g1,g6,g7,kb.slen,ib]
   by_cases hge:S<=A
   ·have q1:IntKind.u64.wrap ((A:Int) - (S:Int))=((A - S:Nat):Int):=by rw [a0x];omega
    have q2:IntKind.u32.wrap (((A - S:Nat):Int))=((A - S:Nat):Int):=by rw [k0R];omega
    have hst:=f0M (fl:=H.size) (x:=A - S) hbp hp hnL
    simp [-Int.natCast_add,m0T,t0Y,p0O,g1,g5,g6,g7,o1,o2,eA,hge,q1,q2,hst]
    have hfin:a0q ((L.set n (A-S)).take (n + 1)) + a0q (b.take (n + 1))=a0q (a.take (n + 1)) + 4294967296 ^ (n + 1) * 0:=by
     rw [c0H hnL,hA2,hB2,N1m]
     have e3:4294967296 ^ n * 4294967296 * 0=4294967296 ^ n * (4294967296 * 0):=N1h ..
     have e4:(A-S) + c + B=A + 4294967296 * 0:=by omega
     have e5:4294967296 ^ n * (A-S) + 4294967296 ^ n * c + 4294967296 ^ n * B=4294967296 ^ n * A + 4294967296 ^ n * (4294967296 * 0):=by rw [<- N1a,<- N1a,e4,N1a]
     omega
    unfold k0s
    simp [-Int.natCast_add,k0j,g7,e9]
    exact e0a.mk ⟨by simp [g1],by simp [g5],by simp,0,by simp,hx.set hp,L.set n (A-S),a0C (a0r hbp),by simp [hL],b0W hok (by omega),fun j hj=>by have h:=(b0Q (l:=L) (z:=A-S) (show n ≠ j by omega)).trans (hrest j (by omega));rw [M1R,M1R] at h;exact h,by omega,hfin⟩
   ·have hge':A < S:=by omega
    have q0:IntKind.u64.wrap ((A:Int) + 4294967296)=((A + 4294967296:Nat):Int):=by rw [a0x];omega
    have q1:IntKind.u64.wrap (((A + 4294967296:Nat):Int) - (S:Int))=((A + 4294967296 - S:Nat):Int):=by rw [a0x];omega
    have q2:IntKind.u32.wrap (((A + 4294967296 - S:Nat):Int))=((A + 4294967296 - S:Nat):Int):=by rw [k0R];omega
    have hst:=f0M (fl:=H.size) (x:=A + 4294967296 - S) hbp hp hnL
    simp [-Int.natCast_add,m0T,p0P,p0Q,g1,g5,g6,g7,o1,o2,eA,hge,hge',q0,q1,q2,hst]
    have hfin:a0q ((L.set n (A+4294967296-S)).take (n + 1)) + a0q (b.take (n + 1))=a0q (a.take (n + 1)) + 4294967296 ^ (n + 1) * 1:=by
     rw [c0H hnL,hA2,hB2,N1m]
     have e3:4294967296 ^ n * 4294967296 * 1=4294967296 ^ n * (4294967296 * 1):=N1h ..
     have e4:(A+4294967296-S) + c + B=A + 4294967296 * 1:=by omega
     have e5:4294967296 ^ n * (A+4294967296-S) + 4294967296 ^ n * c + 4294967296 ^ n * B=4294967296 ^ n * A + 4294967296 ^ n * (4294967296 * 1):=by rw [<- N1a,<- N1a,e4,N1a]
     omega
    unfold k0s
    simp [-Int.natCast_add,k0j,g7,e9]
    exact e0a.mk ⟨by simp [g1],by simp [g5],by simp,1,by simp,hx.set hp,L.set n (A+4294967296-S),a0C (a0r hbp),by simp [hL],b0W hok (by omega),fun j hj=>by have h:=(b0Q (l:=L) (z:=A+4294967296-S) (show n ≠ j by omega)).trans (hrest j (by omega));rw [M1R,M1R] at h;exact h,by omega,hfin⟩
 ·subst heq
  rw [N1c (by omega),N1c hle,N1f] at hs
  have hLlt:=g0h L hok
  rw [hL] at hLlt
  have hc0:c=0:=by
   rcases O1P c with h | h
   ·exact h
   ·have:c=1:=by omega
    subst this
    omega
  subst hc0
  simp [v0X,g5]
  refine (e0S (l:=L) ⟨⟨by simp,.inr ⟨p,0,cap,false,b0C L,by rw [hL],hbp,by simp,by rw [O1c,N1W,<- m0t (l:=L),N1f]⟩⟩,hok⟩ hx.1 (by omega)).mo ?_
  rintro r G2 ⟨⟨ht,hsb⟩,hx2⟩
  simp
  intro _
  rw [c0b _ hok,show a0q L=a0q a - a0q b by omega] at ht
  refine ⟨ht,fun q hq=>?_⟩
  rw [hsb] at hq
  simp only [slB,M1Q] at hq
  omega
theorem o0m:∀ n,a0q (List.replicate n 0)=0
 | 0=>rfl
 | n + 1=>by rw [List.replicate_succ,a0q,o0m n]
theorem x0L (n:Nat):b0C (List.replicate n 0)=e0W [.int .u32 0] n:=by
 unfold b0C
 induction n with
 | zero=>rfl
 | succ n ih=>simp only [List.replicate_succ,O1o,ih];rfl
theorem V0g {E:Env} {nt tc b b2:Nat} {body:SCode} {rx rc:List a0v} {Q:d0K} {ρ:Nat->Value} (Inv:Nat->(Nat->Value)->a0c->Prop) (n:Nat) (htc:tc < nt) (hI:Inv 0 ρ H)
  (step:∀ i ρ G,i<=n->Inv i ρ G->WR E fl rc (T nt ρ) G (l0U E fl nt tc b b2 body rx (fun t H=>Q .normal t H) Q R n i Inv) R) :
  W E fl (.loop (.seq (.seq (.reg rc) (.cond (.tmp tc) .skip (.exit b))) (.seq (.block b2 body) (.reg rx)))) (T nt ρ) H (f0t b Q) R:=by
 have h:=y0g (Z:=fun t H=>Q .normal t H) (Q:=Q) Inv n htc hI step
 rwa [k0N] at h
theorem V0k {x:Nat} (hx:x < 4294967296):c0k 0 .and (.int .u32 (x:Int)) (.int .u32 1)=some (.int .u32 ((x % 2:Nat):Int)):=by
 have h0:c0k 0 .and (.int .u32 (x:Int)) (.int .u32 1)=some (.int .u32 (IntKind.u32.wrap (BitVec.ofInt IntKind.u32.bits (x:Int) &&& BitVec.ofInt IntKind.u32.bits 1).toNat)):=by unfold c0k;simp
 rw [h0]
 have e1:(BitVec.ofInt IntKind.u32.bits (x:Int) &&& BitVec.ofInt IntKind.u32.bits 1).toNat=x % 2:=by
  show (BitVec.ofInt 32 (x:Int) &&& BitVec.ofInt 32 1).toNat=x % 2
  rw [BitVec.toNat_and,O1z,O1z]
  have e2:((x:Int) % (2 ^ 32:Nat)).toNat=x:=by omega
  have e3:((1:Int) % (2 ^ 32:Nat)).toNat=1:=by decide
  rw [e2,e3,Nat.and_one_is_mod]
 rw [e1,q0t]
 congr 3
 omega
theorem w1q {x k:Nat} (hk:k < 32) (hx:x < 4294967296) (h2:x % 2 ^ (k + 1)=0):x + 2 ^ k < 4294967296/\c0k 0 .or (.int .u32 (x:Int)) (.int .u32 ((2 ^ k:Nat):Int))=some (.int .u32 ((x + 2 ^ k:Nat):Int)):=by
 have hp:2 ^ k < 2 ^ (k + 1):=Nat.pow_lt_pow_right (by omega) (by omega)
 obtain ⟨y,rfl⟩:=Nat.dvd_of_mod_eq_zero h2
 have hle:2 ^ (k + 1) * (y + 1)<=4294967296:=by
  have e:(4294967296:Nat)=2 ^ (k + 1) * 2 ^ (31 - k):=by rw [<- O1S,show k + 1 + (31 - k)=32 by omega]
  rw [e] at hx ⊢
  exact N1w _ (N1Y hx)
 have hlt:2 ^ (k + 1) * y + 2 ^ k < 4294967296:=by rw [N1a] at hle;omega
 refine ⟨hlt,?_⟩
 have hor:=O1u hp y
 rw [k0v]
 have e1:(BitVec.ofInt IntKind.u32.bits ((2 ^ (k + 1) * y:Nat):Int) ||| BitVec.ofInt IntKind.u32.bits ((2 ^ k:Nat):Int)).toNat=2 ^ (k + 1) * y + 2 ^ k:=by
  show (BitVec.ofInt 32 ((2 ^ (k + 1) * y:Nat):Int) ||| BitVec.ofInt 32 ((2 ^ k:Nat):Int)).toNat=_
  rw [BitVec.toNat_or,O1z,O1z]
  rw [hor]
  generalize 2 ^ (k + 1) * y=x at *
  generalize 2 ^ k=z at *
  have e2:((x:Int) % (2 ^ 32:Nat)).toNat=x:=by omega
  have e3:((z:Int) % (2 ^ 32:Nat)).toNat=z:=by omega
  rw [e2,e3]
 rw [e1,q0t,N1o hlt]
theorem F0Z {X B R t:Nat} (hB:0 < B) (hR:X % B=R) (ht:t < 2):(2 * R + t < B->(2 * X + t) / B=2 * (X / B)/\(2 * X + t) % B=2 * R + t)/\(B<=2 * R + t->(2 * X + t) / B=2 * (X / B) + 1/\(2 * X + t) % B=2 * R + t - B):=by
 have h1:=O1t X B
 rw [hR] at h1
 have hRB:R < B:=by rw [<- hR];exact N1R _ hB
 have e:2 * X + t=B * (2 * (X / B)) + (2 * R + t):=by rw [O1F];omega
 constructor
 ·intro h
  rw [e,Nat.mul_add_div hB,Nat.mul_add_mod,O1m h,N1o h]
  exact ⟨rfl,rfl⟩
 ·intro h
  have hlt2:2 * R + t - B < B:=by omega
  have e2:2 * X + t=B * (2 * (X / B)) + B + (2 * R + t - B):=by omega
  rw [<- Nat.mul_succ] at e2
  rw [e2,Nat.mul_add_div hB,Nat.mul_add_mod,O1m hlt2,N1o hlt2]
  exact ⟨rfl,rfl⟩
theorem z0d (A k:Nat):A / 2 ^ k=2 * (A / 2 ^ (k + 1)) + A / 2 ^ k % 2:=by
 rw [N1m,<- Nat.div_div_eq_div_mul];omega
theorem n0Q {A B:Nat} (ha:Lim H v (a0l A)) (hb:Lim H w (a0l B)) (hB:0 < B) (hf:fl<=H.size) (hna:(a0l A).length < 536870912) (hnb:(a0l B).length < 536870912) :
  b0k env fl y0z [v,w] H (fun r H'=>(∃ x y,r=.tuple #[x,y]/\Lim H' x (a0l (A / B))/\Lim H' y (a0l (A % B)))/\Ext H H') R:=by
 refine a0i I1a hf (h:=?_)
 intro ρ h0
 simp [R0y,B0d,B0e,h0]
 refine (m0R ha hb (M1U _) (by omega)).mo ?_
 rintro _ G ⟨rfl,hx⟩
 rw [d0v,b0Y]
 by_cases hlt:A < B
 ·simp [hlt,B0f,h0]
  refine fun _=>⟨.slice none 0 0,v,⟨rfl,rfl⟩,?_,?_⟩
  ·rw [O1m hlt,a0G];exact Lim.nil
  ·rw [N1o hlt];exact ha.mo hx
 have hnn:¬ (if B < A then (1:Int) else 0) < 0:=by split <;> decide
 obtain ⟨a,hA⟩:∃ a,a=a0l A:=⟨_,rfl⟩
 rw [<- hA] at ha hna
 have hAn:a0q a=A:=by rw [hA,a0p]
 have hm:=G1p (bytes:=4) (k:=.i64) (k':=.i64) (l:=(a.length:Int)) (c:=(a.length:Int)) (by omega) (by omega) (by omega) (by omega)
 have w1:IntKind.i64.wrap ((a.length:Int) - 1)=(a.length:Int) - 1:=b0d (by omega) (by omega)
 have ka:=ha.mo hx
 simp [hlt,hnn,h0,B0g,B0h,B0i,ka.slen,hm,w1]
 rw [<- x0L]
 generalize hG:G.push _=G0
 obtain ⟨hx2,b0⟩:=t0i hG
 clear hG
 have hx0:=hx.trans hx2
 have hP:=hx.1
 generalize Array.size G=p at b0 hP
 refine y0g (fun n ρ G=>ρ 0=v/\ρ 1=w/\ρ 6=.slice (some ⟨p,0,none⟩) a.length a.length/\ρ 8=.int .i64 ((a.length:Int) - 1 - n)/\n<=a.length/\Ext H G/\Lim G (ρ 7) (a0l (a0q (a.drop (a.length - n)) % B)) /\
   ∃ o,a0c.bk G p=.row false a0b (b0C o)/\o.length=a.length/\b0g o/\a0q o=4294967296 ^ (a.length - n) * (a0q (a.drop (a.length - n)) / B)/\∀ t,t < a.length - n->o.getD t 0=0)
  a.length (by decide) ⟨by simp [h0],by simp [h0],by simp,by simp,by omega,hx0,by simp [a0q,a0G];exact Lim.nil,List.replicate a.length 0,b0,by simp,by intro x hx;simp at hx;omega,by simp [a0q,o0m],fun t _=>by simp [M1R,O1I];split <;> rfl⟩ ?_
 clear h0 ρ hm b0 hx0 hx2 hx ka w1 G G0 hnn
 rintro n ρ G hn1 ⟨g0,g1,g6,g8,hn,hx,hr,o,hbo,hol,hok,hs,hz⟩
 by_cases hnl:n < a.length
 ·obtain ⟨i,hi⟩:∃ i,a.length - n=i + 1:=⟨a.length - n - 1,by omega⟩
  have hil:i < a.length:=by omega
  have g8':ρ 8=.int .i64 (i:Int):=by rw [g8];congr 1;omega
  have e8:IntKind.i64.wrap ((i:Int) - 1)=(a.length:Int) - 1 - ((n + 1:Nat):Int):=by rw [b0d (by omega) (by omega)];omega
  rw [hi] at hr hs hz
  have hdr:=f0O hil
  have hA3:=c0z ha.ok i
  have aL:∀ G2,Ext H G2->b0w G2 false 1 (adr 1 v i)=some (.int .u32 ((a.getD i 0:Nat):Int)):=fun G2 h=>ha.load hil h
  generalize a.getD i 0=U at hdr hA3 aL
  generalize a0q (a.drop (i + 1))=D at hdr hr hs
  simp [t0D,g8']
  refine l0U.mk true (by simp) (fun _=>⟨hnl,?_⟩) (by simp)
  simp [B0j]
  refine V0g (fun q ρ G=>ρ 0=v/\ρ 1=w/\ρ 6=.slice (some ⟨p,0,none⟩) a.length a.length/\ρ 8=.int .i64 (i:Int)/\ρ 9=.int .i64 ((31:Int) - q)/\q<=32/\Ext H G/\Lim G (ρ 7) (a0l ((D * 2 ^ q + U / 2 ^ (32 - q)) % B)) /\
    ∃ o,a0c.bk G p=.row false a0b (b0C o)/\o.length=a.length/\b0g o/\a0q o=4294967296 ^ i * (2 ^ (32 - q) * ((D * 2 ^ q + U / 2 ^ (32 - q)) / B))/\(∀ t,t < i->o.getD t 0=0)/\o.getD i 0 % 2 ^ (32 - q)=0)
   32 (by decide) ?_ ?_
  ·have hU:U / 2 ^ 32=0:=O1m (by omega)
   refine ⟨by simp [g0],by simp [g1],by simp [g6],by simp [g8'],by simp,by omega,hx,?_,o,hbo,hol,hok,?_,fun t ht=>hz t (by omega),?_⟩
   ·rw [P1e,hU,Nat.pow_zero,N1W,N1O];simpa using hr
   ·rw [P1e,hU,Nat.pow_zero,N1W,N1O,hs,N1m,N1h]
   ·rw [hz i (by omega)]
  clear g0 g1 g6 g8 g8' hx hr hbo hol hok hs hz o G ρ
  rintro q ρ G hq1 ⟨g0,g1,g6,g8,g9,hq2,hx,hr,o,hbo,hol,hok,hs,hz,hbit⟩
  by_cases hq:q < 32
  ·obtain ⟨k,hk⟩:∃ k,32 - q=k + 1:=⟨31 - q,by omega⟩
   have g9':ρ 9=.int .i64 (k:Int):=by rw [g9];congr 1;omega
   have e9:IntKind.i64.wrap ((k:Int) - 1)=(31:Int) - ((q + 1:Nat):Int):=by rw [b0d (by omega) (by omega)];omega
   have hk2:32 - (q + 1)=k:=by omega
   have ek:IntKind.u64.wrap (k:Int)=(k:Int):=by rw [a0x];omega
   have ka:=ha.mo hx
   have a1:=ka.ia hil (k:=.i64)
   have a2:=aL G hx
   have hsh:c0k 0 .shr (.int .u32 (U:Int)) (.int .u64 (k:Int))=some (.int .u32 ((U / 2 ^ k:Nat):Int)):=q0n (by omega)
   have hUk:U / 2 ^ k < 4294967296:=O1Q (Nat.div_le_self _ _) hA3
   have han:=V0k hUk
   have hhb:=z0d U k
   rw [hk] at hr hs hbit
   obtain ⟨X,hX⟩:∃ X,D * 2 ^ q + U / 2 ^ (k + 1)=X:=⟨_,rfl⟩
   have hXs:D * 2 ^ (q + 1) + U / 2 ^ k=2 * X + U / 2 ^ k % 2:=by
    have:D * 2 ^ (q + 1)=2 * (D * 2 ^ q):=by rw [N1m,<- N1h,N1p]
    omega
   rw [hX] at hr hs
   obtain ⟨bt,hbt⟩:∃ bt,U / 2 ^ k % 2=bt:=⟨_,rfl⟩
   rw [hbt] at han hXs
   have hbt2:bt < 2:=by omega
   obtain ⟨Uk,hUK⟩:∃ Uk,U / 2 ^ k=Uk:=⟨_,rfl⟩
   rw [hUK] at hsh han hXs hUk hhb hbt
   have hst:=F0Z (X:=X) hB rfl hbt2
   have hRB:X % B < B:=N1R _ hB
   obtain ⟨r0,g7⟩:∃ r0,ρ 7=r0:=⟨_,rfl⟩
   rw [g7] at hr
   have hlenR:(a0l (X % B)).length<=(a0l B).length:=b0S (Nat.le_of_lt hRB)
   have hbn:((bt:Int) == 1).toNat=bt:=by
    have:bt=0 ∨ bt=1:=by omega
    rcases this with h | h <;> rw [h] <;> rfl
   simp [t0E,g9']
   refine l0U.mk true (by simp) (fun _=>⟨hq,?_⟩) (by simp)
   simp [B0k,g0,g7,g8,g9',a1,a2,ek,hsh,han]
   refine (n0R hr hx.1 (by omega)).mo ?_
   rintro r1 G1 ⟨⟨hr1,hn1'⟩,hx2⟩
   have hnp1:=hn1'.ne (a0r hbo)
   rw [a0p,hbn] at hr1
   replace hx:=hx.trans hx2
   replace hbo:=hx2.bk hbo
   have kb:=hb.mo hx
   obtain ⟨R',hR'⟩:∃ R',2 * (X % B) + bt=R':=⟨_,rfl⟩
   rw [hR'] at hr1
   have hlen:(a0l R').length<=(a0l B).length + 1:=by
    refine f0I ?_
    have:=j0S B
    rw [N1m]
    omega
   rw [hR'] at hst
   simp [v0B,g1]
   refine (m0R hr1 kb hx.1 (by omega)).mo ?_
   rintro _ G2 ⟨rfl,hx2⟩
   rw [d0v,b0Y]
   replace hx:=hx.trans hx2
   replace hbo:=hx2.bk hbo
   replace kb:=kb.mo hx2
   replace hr1:=hr1.mo hx2
   have hiL:i < o.length:=by omega
   by_cases hge:B<=R'
   ·have hc1:¬ R' < B:=by omega
    have hc2:((0:Int)<=if B < R' then 1 else 0):=by split <;> decide
    obtain ⟨d1,d2⟩:=hst.2 hge
    simp [hc1,hc2,v0C,g1]
    refine (r0Q hr1 kb hx.1 (by omega) (b0S hge) (by rw [a0p,a0p];exact hge) (by
     rcases O1P (a0l R').length with h | h
     ·have:=b0O.1 (N1r.1 h);omega
     ·exact h)).mo ?_
    rintro r2 G3 ⟨⟨hr2,hn2'⟩,hx2⟩
    have hnp2:=hn2'.ne (a0r hbo)
    rw [a0p,a0p] at hr2
    replace hx:=hx.trans hx2
    replace hbo:=hx2.bk hbo
    obtain ⟨o1,o2⟩:=i0C (k:=.i64) (cap:=a.length) hbo hiL hol
    have hol3:=c0z hok i
    have hset:=l0N o i (o.getD i 0 + 2 ^ k) hiL
    generalize hy:o.getD i 0=y at o2 hol3 hset hbit
    obtain ⟨hy1,hor⟩:=w1q (by omega) hol3 hbit
    have hsl:c0k 0 .shl (.int .u32 1) (.int .u64 (k:Int))=some (.int .u32 ((2 ^ k:Nat):Int)):=by
     have h:=q0m (tag:=0) (n:=1) (s:=k) (k':=.u64) (by omega)
     have h2:1 * 2 ^ k % 4294967296=2 ^ k:=by rw [O1e];exact N1o (by omega)
     rw [h2] at h;exact h
    have hsto:=f0M (fl:=H.size) (x:=y + 2 ^ k) hbo hP hiL
    have hyb:(y + 2 ^ k) % 2 ^ k=0:=by
     obtain ⟨z,hz⟩:=Nat.dvd_of_mod_eq_zero hbit
     rw [hz,N1m,N1h,Nat.add_mod_right,Nat.mul_mod_right]
    have hpk:2 ^ (k + 1)=2 * 2 ^ k:=by rw [N1m,N1p]
    obtain ⟨K,hpk'⟩:∃ K,K=2 ^ k:=⟨_,rfl⟩
    rw [<- hpk'] at hy1 hor hsl hsto hyb hset hpk
    have hbo':=hbo
    have hmodK:∀ y,y % K=0->True:=fun _ _=>trivial
    simp [-Int.natCast_add,-k0v,v0D,g6,g8,g9',o1,o2,ek,hsl,hor,hsto]
    unfold k0s
    simp [-Int.natCast_add,p0H,g9',e9]
    refine e0a.mk ⟨by simp [g0],by simp [g1],by simp [g6],by simp [g8],by simp,by omega,hx.set hP,?_,o.set i (y + K),a0C (a0r hbo),by simp [hol],b0W hok hy1,?_,?_,?_⟩
    ·rw [hk2,hUK,hXs,d2]
     simp
     exact Lim.off hr2 (j0m.refl.set) hnp2
    ·rw [hk2,hUK,hXs,d1,<- hpk']
     rw [hs,hpk] at hset
     have f1:4294967296 ^ i * (K * (2 * (X / B) + 1))=4294967296 ^ i * (2 * K * (X / B)) + 4294967296 ^ i * K:=by
      rw [<- N1a];congr 1;rw [N1a,N1W];congr 1;rw [O1F,N1h]
     rw [N1a] at hset
     omega
    ·intro t ht
     have h:=(b0Q (l:=o) (z:=y + K) (show i ≠ t by omega)).trans (hz t ht)
     rw [M1R] at h;exact h
    ·rw [hk2,<- hpk',O1v hiL];exact hyb
   ·obtain ⟨d1,d2⟩:=hst.1 (by omega)
    have hc1:R' < B:=by omega
    have hpk:2 ^ (k + 1)=2 * 2 ^ k:=by rw [N1m,N1p]
    simp [hc1]
    unfold k0s
    simp [-Int.natCast_add,p0H,g9',e9]
    refine e0a.mk ⟨by simp [g0],by simp [g1],by simp [g6],by simp [g8],by simp,by omega,hx,?_,o,hbo,hol,hok,?_,?_,?_⟩
    ·rw [hk2,hUK,hXs,d2]
     simp
     exact hr1
    ·rw [hk2,hUK,hXs,d1,hs,hpk]
     congr 1
     rw [O1F,N1h]
    ·intro t ht
     have h:=hz t ht
     rw [M1R] at h;exact h
    ·rw [hk2]
     obtain ⟨z,hz2⟩:=Nat.dvd_of_mod_eq_zero hbit
     rw [M1R] at hz2
     rw [hz2,N1m,N1h,Nat.mul_mod_right]
  ·have hq3:q=32:=by omega
   subst hq3
   rw [Nat.sub_self,Nat.pow_zero,Nat.div_one,O1e] at hs
   rw [Nat.sub_self,Nat.pow_zero,Nat.div_one] at hr
   have hD:D * 2 ^ 32 + U=a0q (a.drop i):=by rw [hdr];omega
   rw [hD] at hr hs
   simp [t0E,g9]
   refine l0U.mk false (by simp) (by simp) (fun _=>?_)
   unfold k0s
   simp [-Int.natCast_add,v0E,g8,e8]
   have hi2:a.length - (n + 1)=i:=by omega
   refine e0a.mk ⟨by simp [g0],by simp [g1],by simp [g6],by simp,by omega,hx,by rw [hi2];simpa using hr,o,hbo,hol,hok,by rw [hi2];exact hs,fun t ht=>?_⟩
   have h:=hz t (by omega)
   rw [M1R] at h;exact h
 ·have hn2:n=a.length:=by omega
  subst hn2
  rw [Nat.sub_self,O1c,hAn] at hr hs
  rw [Nat.pow_zero,O1e] at hs
  simp [t0D,g8]
  refine l0U.mk false (by simp;omega) (by simp) (fun _=>?_)
  obtain ⟨r0,g7⟩:∃ r0,ρ 7=r0:=⟨_,rfl⟩
  rw [g7] at hr
  simp [v0F,g6,g7]
  refine (l0m (l:=o) ⟨⟨by simp,.inr ⟨p,0,a.length,false,b0C o,by rw [hol],hbo,by simp,by rw [O1c,N1W,<- m0t (l:=o),N1f]⟩⟩,hok⟩ hx.1 (by omega)).mo ?_
  rintro r G2 ⟨ht,hx2⟩
  rw [c0b _ hok,hs] at ht
  simp [g7]
  exact fun _=>⟨_,_,⟨rfl,rfl⟩,ht,hr.mo hx2⟩
end
section
variable {fl:Nat} {H G:a0c} {R:a0P} {v w:Value} {i j:Bool × List Nat}
theorem n0B {n:Nat} (h:0 < n):0 < (a0l n).length:=by
 rcases O1P (a0l n).length with h2 | h2
 ·have:=b0O.1 (N1r.1 h2);omega
 ·exact h2
theorem m0Q (h:c0m H v i) (k:c0m H w j) (hf:fl<=H.size) (hn:i.2.length < 268435456) (hm:j.2.length < 268435456):b0k env fl v1K [v,w] H (fun r H'=>c0m H' r (a0J (Int.gcd (a0B i) (a0B j)))/\Ext H H') R:=by
 have k0:=h
 have k1:=k
 have hok:=h.ok
 have hok2:=k.ok
 obtain ⟨s,rfl,hs⟩:=h
 obtain ⟨u,rfl,hu⟩:=k
 refine a0i M1n hf (h:=?_)
 intro ρ h0
 simp [G1P,U0m,h0,hs.cells,hu.cells]
 generalize hG:((H.push _).push _).push _=G
 have hx2:Ext H G:=by rw [<- hG];exact (Ext.refl H).push.push.push
 have b0:a0c.bk G H.size=.row false a0a [.bool i.1,s]:=by rw [<- hG];simp
 have b1:a0c.bk G (H.size + 1)=.row false a0a [.bool j.1,u]:=by rw [<- hG];simp
 have b2:a0c.bk G (H.size + 2)=.row false a0a [.bool false,.slice none 0 0]:=by rw [<- hG];simp
 have hx:=Ext.refl H
 clear hG
 replace hx:=hx.trans hx2;replace k0:=k0.mo hx2;replace k1:=k1.mo hx2
 have l1:=a0L hok
 have l2:=a0L hok2
 have hfd:∀ x s:Value,S0r false 1 1 (.agg #[x,s])=some s:=fun _ _=>rfl
 refine c0t ?_
 simp [U0n,b0]
 refine (l0l k0 (by have:=hx.1;omega) (by omega)).mo ?_
 rintro _ G2 ⟨⟨s1,rfl,k2⟩,hx2⟩
 replace b0:=hx2.bk b0;replace b1:=hx2.bk b1;replace b2:=hx2.bk b2;replace hx:=hx.trans hx2;replace k0:=k0.mo hx2;replace k1:=k1.mo hx2
 simp [b1,hfd]
 refine (l0l k1 hx.1 (by omega)).mo ?_
 rintro _ G2 ⟨⟨s2,rfl,k3⟩,hx2⟩
 replace b0:=hx2.bk b0;replace b1:=hx2.bk b1;replace b2:=hx2.bk b2;replace hx:=hx.trans hx2;replace k0:=k0.mo hx2;replace k1:=k1.mo hx2;replace k2:=k2.mo hx2
 simp [hfd]
 refine b0X (fun c t G=>∃ (a b:Nat) (s5 s6:Value),c=b/\t.length=28/\get t 4=.pointer (some ⟨H.size + 2,0,none⟩)/\get t 5=s5/\get t 6=s6 /\
   Ext H G/\a0c.bk G (H.size + 2)=.row false a0a [.bool false,.slice none 0 0]/\Lim G s5 (a0l a)/\Lim G s6 (a0l b) /\
   (a0l a).length < 536870912/\(a0l b).length < 536870912/\Nat.gcd a b=Int.gcd (a0B i) (a0B j))
  (fun t G=>∃ (a:Nat) (s5:Value),t.length=28/\get t 4=.pointer (some ⟨H.size + 2,0,none⟩)/\get t 5=s5 /\
   Ext H G/\a0c.bk G (H.size + 2)=.row false a0a [.bool false,.slice none 0 0]/\Lim G s5 (a0l a)/\(a0l a).length < 536870912/\a=Int.gcd (a0B i) (a0B j)) (a0B j).natAbs ?_ ?_ ?_
 ·exact ⟨(a0B i).natAbs,(a0B j).natAbs,s1,s2,rfl,by simp,by simp,by simp,by simp,hx,b2,k2,k3,by omega,by omega,rfl⟩
 ·clear h0 ρ k0 k1 k2 k3 b0 b1 b2 hx
  rintro c t G ⟨a,b,s5,s6,rfl,ht,g4,g5,g6,hx,b2,k5,k6,la,lb,hg⟩
  obtain ⟨ρ,rfl⟩:=toT ht
  simp only [b0H,Nat.reduceLT] at g4 g5 g6
  by_cases hb:c=0
  ·subst hb
   have hd:=a0G
   have hsl:=k6.slen
   rw [hd] at hsl
   simp at hsl
   simp [E0v,g6,hsl]
   have hga:a=Int.gcd (a0B i) (a0B j):=by simpa using hg
   rw [hga] at k5 la
   exact ⟨g4,hx,b2,by rw [g5];exact k5,la⟩
  ·have hpos:=n0B (show 0 < c by omega)
   have hpos':(0:Int) < ((a0l c).length:Int):=by omega
   have hne:a0l c ≠ []:=fun h=>by rw [h] at hpos;simp at hpos
   simp [E0v,U0o,g5,g6,k6.slen,hpos,hpos',hne]
   refine (n0Q k5 k6 (by omega) hx.1 la lb).mo ?_
   rintro _ G2 ⟨⟨x,y,rfl,k7,k8⟩,hx2⟩
   simp [U0p,U0q,g6]
   have hlt:=N1R a (show c > 0 by omega)
   have hlc:(a0l (a % c)).length<=(a0l c).length:=b0S (Nat.le_of_lt hlt)
   exact ⟨a % c,hlt,g4,hx.trans hx2,hx2.bk b2,c,k6.mo hx2,k8,lb,by omega,by rw [Nat.gcd_comm,<- Nat.gcd_rec,Nat.gcd_comm];exact hg⟩
 ·clear h0 ρ k0 k1 k2 k3 b0 b1 b2 hx
  rintro t G ⟨a,s5,ht,g4,g5,hx,b2,k5,la,rfl⟩
  obtain ⟨ρ,rfl⟩:=toT ht
  simp only [b0H,Nat.reduceLT] at g4 g5
  simp [U0r,g5]
  refine (x0A ((Int.gcd (a0B i) (a0B j):Nat):Int) k5 hx.1 (by omega) (by simp [a0p])).mo ?_
  rintro _ G2 ⟨⟨s3,rfl,k5⟩,hx2⟩
  replace b2:=hx2.bk b2;replace hx:=hx.trans hx2
  have hsz:=hx.1
  simp [g4,b2,k5.cells,k5.plain,hsz]
  generalize hS:Array.setIfInBounds G2 _ _=G5
  have hsz:=hx.1;replace k5:=k5.setS hS b2 (by decide);replace hx:=q0l hS hx (by omega);replace b2:=k0L hS b2;clear hS hsz
  simp [b2]
  exact fun _=>⟨s3,rfl,k5⟩
end
section
variable {fl:Nat} {H G:a0c} {R:a0P} {v w:Value}
end
section
variable {fl:Nat} {H G:a0c} {R:a0P} {v w:Value} {a:d0d}
theorem k0z {n:Nat}:a0l n=[1] <-> n=1:=by
 constructor
 ·intro h
  have:=a0p n
  rw [h] at this
  simpa [a0q] using this.symm
 ·rintro rfl
  rw [c0X (by omega)]
  simp [a0G]
theorem F1s {i:Bool × List Nat} (h:d0k i=true) (hl:i.2 ≠ []) (hok:b0g i.2):a0B i ≠ 0:=by
 intro h0
 have h1:=h0U hok
 unfold d0N at h1
 rw [h,h0] at h1
 simp [a0G] at h1
 exact hl h1
theorem n0P (h:j0o H v a) (hf:fl<=H.size) (hn:n0F a < 268435456):b0k env fl v1J [v] H (fun r H'=>r=.bool (n0H a)/\Ext H H') R:=by
 have hn1:a.1.2.length < 268435456:=by unfold n0F at hn;omega
 have hn2:a.2.2.length < 268435456:=by unfold n0F at hn;omega
 obtain ⟨s,u,rfl,hs,hu⟩:=h
 obtain ⟨⟨p,lp⟩,⟨q,lq⟩⟩:=a
 simp only at hs hu hn1 hn2
 have k0:c0m H (.agg #[.bool p,s]) (p,lp):=⟨s,rfl,hs⟩
 have k1:c0m H (.agg #[.bool q,u]) (q,lq):=⟨u,rfl,hu⟩
 refine a0i M1c hf (h:=?_)
 intro ρ h0
 simp [G1H,T0v,h0]
 generalize hG:H.push _=G
 obtain ⟨hx2,b0⟩:=t0i hG
 have hx:=Ext.refl H
 clear hG
 replace hs:=hs.mo hx2
 replace hu:=hu.mo hx2
 replace hx:=hx.trans hx2;replace k0:=k0.mo hx2;replace k1:=k1.mo hx2
 have hsl:=hs.slen
 have hul:=hu.slen
 by_cases hc:lq=[]/\q=false
 ·obtain ⟨rfl,rfl⟩:=hc
  have hm:n0H ((p,lp),(false,[]))=(!p && lp.length == 0):=by
   unfold n0H e0p
   have:a0B (false,([]:List Nat))=0:=by simp [a0B,a0q,d0k]
   rw [this]
   cases p <;> simp
  rw [hm]
  simp [w0j,b0,hul]
  cases lp with
  | nil=>cases p <;> simp [E0f,b0,hsl]
  | cons y l =>
   have hne:¬ ((l.length:Int) + 1=0):=by omega
   cases p <;> simp [E0f,b0,hsl,hne]
 ·have hm:n0H ((p,lp),(q,lq))=(d0k (p,lp) && d0k (q,lq) && !q && decide (Int.gcd (a0B (p,lp)) (a0B (q,lq))=1)):=by
   have hz:e0p ((p,lp),(q,lq))=false:=by
    unfold e0p
    cases lq with
    | nil=>cases q with
     | true=>simp
     | false=>exact N1i ⟨rfl,rfl⟩ hc
    | cons y l=>simp
   unfold n0H
   rw [hz,O1U]
   by_cases h1:d0k (q,lq)=true/\q=false
   ·obtain ⟨h1,rfl⟩:=h1
    have hl:lq ≠ []:=fun h=>hc ⟨h,rfl⟩
    have hv:=F1s (i:=(false,lq)) h1 hl hu.ok
    have hv2:(a0B (false,lq) != 0)=true:=bne_iff_ne.2 hv
    rw [h1,hv2]
    cases d0k (p,lp) <;> simp [BEq.beq]
   ·cases h2:d0k (q,lq) <;> cases q <;> simp_all
  rw [hm]
  have hg1:∀ (s:Value) (g:Nat) (G:a0c),Lim G s (a0l g)->(decide (((a0l g).length:Int)=1)=true->b0w G false 1 (adr 1 s 0)=some (.int .u32 ((a0l g).getD 0 0:Nat))):=fun s g G h hl=>h.load (by have:=of_decide_eq_true hl;omega) (Ext.refl _)
  cases lq with
  | nil =>
   have hqt:q=true:=by cases q with
    | true=>rfl
    | false=>exact N1i ⟨rfl,rfl⟩ hc
   subst hqt
   simp [w0j,E0g,b0,hul]
   refine (m0Q k0 k1 hx.1 hn1 hn2).mo ?_
   rintro _ G2 ⟨⟨sg,rfl,kg⟩,hx2⟩
   replace b0:=hx2.bk b0;replace hx:=hx.trans hx2;replace k0:=k0.mo hx2;replace k1:=k1.mo hx2
   have hsz:=hx.1
   obtain ⟨g,hg⟩:∃ g,Int.gcd (a0B (p,lp)) (a0B (true,[]))=g:=⟨_,rfl⟩
   rw [hg] at kg ⊢
   simp [kg.cells,kg.plain,hsz]
   generalize hN:Array.setIfInBounds (Array.push _ _) _ _=G3
   obtain ⟨hx2,b2⟩:=F0C hN
   clear hN
   replace b0:=hx2.bk b0;replace hx:=hx.trans hx2;replace k0:=k0.mo hx2;replace k1:=k1.mo hx2
   replace kg:Lim G3 sg (a0l g):=kg.mo hx2
   simp [E0h,b0]
   refine (c0U k0 hx.1 (N1k hn1 (by omega))).mo ?_
   rintro _ G4 ⟨rfl,hx2⟩
   replace b0:=hx2.bk b0;replace b2:=hx2.bk b2;replace hx:=hx.trans hx2;replace k0:=k0.mo hx2;replace k1:=k1.mo hx2
   replace kg:=kg.mo hx2
   cases h1:d0k (p,lp) with
   | false=>simp
   | true =>
   simp [b0]
   refine (c0U k1 hx.1 (N1k hn2 (by omega))).mo ?_
   rintro _ G5 ⟨rfl,hx2⟩
   replace b0:=hx2.bk b0;replace b2:=hx2.bk b2;replace hx:=hx.trans hx2;replace k0:=k0.mo hx2;replace k1:=k1.mo hx2
   replace kg:=kg.mo hx2
   have hmf:d0k (true,([]:List Nat))=false:=rfl
   simp [hmf]
  | cons y l =>
   have hne:¬ ((l.length:Int) + 1=0):=by omega
   simp [w0j,E0g,b0,hul,hne]
   refine (m0Q k0 k1 hx.1 hn1 hn2).mo ?_
   rintro _ G2 ⟨⟨sg,rfl,kg⟩,hx2⟩
   replace b0:=hx2.bk b0;replace hx:=hx.trans hx2;replace k0:=k0.mo hx2;replace k1:=k1.mo hx2
   have hsz:=hx.1
   obtain ⟨g,hg⟩:∃ g,Int.gcd (a0B (p,lp)) (a0B (q,y::l))=g:=⟨_,rfl⟩
   rw [hg] at kg ⊢
   simp [kg.cells,kg.plain,hsz]
   generalize hN:Array.setIfInBounds (Array.push _ _) _ _=G3
   obtain ⟨hx2,b2⟩:=F0C hN
   clear hN
   replace b0:=hx2.bk b0;replace hx:=hx.trans hx2;replace k0:=k0.mo hx2;replace k1:=k1.mo hx2
   replace kg:Lim G3 sg (a0l g):=kg.mo hx2
   simp [E0h,b0]
   refine (c0U k0 hx.1 (N1k hn1 (by omega))).mo ?_
   rintro _ G4 ⟨rfl,hx2⟩
   replace b0:=hx2.bk b0;replace b2:=hx2.bk b2;replace hx:=hx.trans hx2;replace k1:=k1.mo hx2
   replace kg:=kg.mo hx2
   cases h1:d0k (p,lp) with
   | false=>simp
   | true =>
   simp [b0]
   refine (c0U k1 hx.1 (N1k hn2 (by omega))).mo ?_
   rintro _ G5 ⟨rfl,hx2⟩
   replace b0:=hx2.bk b0;replace b2:=hx2.bk b2;replace hx:=hx.trans hx2
   replace kg:=kg.mo hx2
   cases h2:d0k (q,y :: l) with
   | false=>simp
   | true =>
   cases q with
   | true=>simp [b0]
   | false =>
   by_cases hgl:(a0l g).length=1
   ·obtain ⟨z,hz⟩:=List.length_eq_one_iff.1 hgl
    have hgz:(g=1)=(z=1):=propext ⟨fun h=>by have:=k0z.2 h;rw [hz] at this;simpa using this,fun h=>k0z.1 (by rw [hz,h])⟩
    have h3:=kg.ia (show 0 < (a0l g).length by omega) (k:=.i64)
    have h4:=kg.load (show 0 < (a0l g).length by omega) (Ext.refl _)
    rw [hz] at h4
    simp at h3 h4
    simp [b0,b2,kg.slen,hgl,hz,h3,h4,hgz]
    intro _
    rw [O1d,beq_iff_eq,N1s]
    omega
   ·have hgl':¬ ((a0l g).length:Int)=1:=by omega
    have hg1:¬ g=1:=fun h=>hgl (by rw [k0z.2 h];rfl)
    simp [b0,b2,kg.slen,hgl,hgl',hg1]
end
section
variable {fl:Nat} {H G:a0c} {R:a0P} {v w:Value} {a b:d0d}
end
section
variable {fl:Nat} {H G:a0c} {R:a0P} {v w:Value} {e f:o0N}
end
section
variable {fl:Nat} {H G:a0c} {R:a0P} {v w:Value}
theorem V0e {E:Env} {nt tc b b2:Nat} {body:SCode} {rx rc:List a0v} {Q:d0K} {ρ:Nat->Value} (Inv:Nat->(Nat->Value)->a0c->Prop) (n:Nat) (htc:tc < nt) (hI:Inv 0 ρ H)
  (step:∀ i ρ G,i<=n->Inv i ρ G->WR E fl rc (T nt ρ) G (g0T E fl nt tc b b2 n body rx (fun t H=>Q .normal t H) Q R i Inv) R) :
  W E fl (.loop (.seq (.seq (.reg rc) (.cond (.tmp tc) .skip (.exit b))) (.seq (.block b2 body) (.reg rx)))) (T nt ρ) H (f0t b Q) R:=by
 have h:=f0r (Z:=fun t H=>Q .normal t H) (Q:=Q) Inv n htc hI step
 rwa [k0N] at h
theorem n0O {S:Nat} {rows:List (List d0d)} {n:Int} (h:k0X H v rows) (hf:fl<=H.size) (hS:S < 67108864) (hr:∀ r ∈ rows,Few S r/\r.length < 1073741824) (hrl:rows.length < 1073741824) :
  b0k env fl v1C [v,.int .i64 n] H (fun r H'=>r=.bool (o0y rows n)/\Ext H H') R:=by
 obtain ⟨s,rfl,hs⟩:=h
 refine a0i L1Y hf (h:=?_)
 intro ρ h0
 simp [G1E,T0d,h0,hs.cells]
 generalize hG:H.push _=G
 obtain ⟨hx2,b0⟩:=t0i hG
 have hx:=Ext.refl H
 clear hG
 replace hx:=hx.trans hx2
 unfold o0y
 by_cases h1:n < 0
 ·have h1':¬ 0<=n:=by omega
  simp [r0T,w0e,h0,h1,h1']
 have h1':0<=n:=by omega
 by_cases h2:6 < n
 ·have h2':¬ n<=6:=by omega
  simp [r0T,w0e,h0,h1,h1',h2,h2']
 have h2':n<=6:=by omega
 by_cases h3:40 < rows.length
 ·have h3':¬ rows.length<=40:=by omega
  have h3'':(40:Int) < (rows.length:Int):=by omega
  simp [r0T,w0e,h0,b0,hs.slen,h1,h1',h2,h2',h3,h3',h3'']
 have h3':rows.length<=40:=by omega
 have h3'':¬ (40:Int) < (rows.length:Int):=by omega
 simp [r0T,T0e,h0,b0,hs.slen,h1,h1',h2,h2',h3,h3',h3'']
 have ks0:=hs.mo j0V hx
 refine f0r (fun i ρ G'=>ρ 1=.int .i64 n/\ρ 2=.pointer (some ⟨H.size,0,none⟩)/\ρ 5=.int .i64 (i:Int)/\Ext G G'/\i0H (q0k n) (rows.take i)=true) rows.length (by decide) (by simp [h0,Ext.refl G,d0H]) ?_
 clear h0 ρ hx2
 rintro i ρ G1 hi1 ⟨g1,g2,g5,hx1,hc⟩
 have b1:=hx1.bk b0
 have ks:=ks0.mo j0V hx1
 simp [T0f,g2,g5,b1,ks.slen]
 refine g0T.mk (by simp) (fun hi=>?_) (fun heq=>?_)
 ·obtain ⟨w,hl,kw⟩:=k0u.load ks hi
  obtain ⟨hfew,hrl2⟩:=hr _ (N1j hi)
  have hwn:=b0D (show i < 4611686018427387904 by omega)
  by_cases hlen:(rows[i].length:Int)=n
  ·simp [D0S,T0h,g1,g2,g5,b1,ks.ia hi,hl,kw.slen,hlen]
   refine V0e (fun j ρ G'=>ρ 1=.int .i64 n/\ρ 2=.pointer (some ⟨H.size,0,none⟩)/\ρ 5=.int .i64 (i:Int)/\ρ 6=.int .i64 (j:Int)/\Ext G G'/\i0H n0H (rows[i].take j)=true) rows[i].length (by decide) (by simp [g1,g2,g5,hx1,d0H]) ?_
   clear g1 g2 g5 hx1 kw hl ks b1 ρ G1
   rintro j ρ G1 hj1 ⟨g1,g2,g5,g6,hx1,hcj⟩
   have b1:=hx1.bk b0
   have ks:=ks0.mo j0V hx1
   simp [T0i,g1,g6]
   refine g0T.mk (by simp [<- hlen]) (fun hj=>?_) (fun heq=>?_)
   ·obtain ⟨w,hl,kw⟩:=k0u.load ks hi
    obtain ⟨x,hlx,k0⟩:=f0H.load kw hj
    simp [T0j,g1,g2,g5,g6,b1,ks.ia hi,hl,kw.ia hj,hlx]
    refine (n0P k0 (by have:=hx.1;have:=hx1.1;omega) (by have:=(hfew _ (N1j hj)).1;omega)).mo ?_
    rintro _ G2 ⟨rfl,hx2⟩
    replace hx1:=hx1.trans hx2
    cases hm:n0H rows[i][j]
    ·simp [D0O]
     intros
     exact f0E hi (by unfold q0k;rw [f0E hj hm];simp)
    ·simp
     unfold k0s
     simp [D0P,g6,b0D (show j < 4611686018427387904 by omega)]
     exact e0a.mk ⟨by simp [g1],by simp [g2],by simp [g5],by simp,hx1,by rw [c0K hj,hcj,hm];rfl⟩
   ·subst heq
    rw [N1f] at hcj
    unfold k0s
    simp [D0Q,g5,hwn]
    exact e0a.mk ⟨by simp [g1],by simp [g2],by simp,hx1,by rw [c0K hi,hc];unfold q0k;simp [hlen,hcj]⟩
  ·simp [D0S,T0g,g1,g2,g5,b1,ks.ia hi,hl,kw.slen,hlen]
   intro _
   exact f0E hi (by unfold q0k;simp [hlen])
 ·subst heq
  rw [N1f] at hc
  simp [D0R,hc]
end
section
variable {fl:Nat} {H G:a0c} {R:a0P} {v w u:Value}
def j0I (n m:Int) (a:l0q):Bool:=decide ((a.X.length:Int)=n) && decide ((a.W.length:Int)=m) && d0k a.K && i0H d0k a.X && i0H d0k a.W
def f0s (l:List l0q) (n m:Int):Bool:=i0H (j0I n m) l
structure EdT where
 f:Int
 t:Int
 e:w0B
structure ViT where
 l:Int
 m:Int
 g:List l0q
structure u0R where
 nl:Nat
 ns:Nat
 E:List EdT
 V:List ViT
def inB (n:Nat) (i:Int):Bool:=decide (0<=i) && decide (i < n)
def l0F (m:Int):Bool:=decide (0<=m) && decide (m<=40)
def m0k (nl ns:Nat) (x:EdT):Bool:=inB nl x.f && inB nl x.t && l0F x.e.m && decide (x.e.set.length=ns) && f0s x.e.guards ns x.e.m && f0s x.e.set ns x.e.m
def s0r (nl ns:Nat) (x:ViT):Bool:=inB nl x.l && l0F x.m && f0s x.g ns x.m
def r0r (l:u0R):Bool:=decide (1<=l.nl) && decide (l.nl<=40) && decide (l.ns<=6) && decide (l.E.length<=200) && decide (l.V.length<=200)
def d0j (l:u0R):Bool:=r0r l && i0H (m0k l.nl l.ns) l.E && i0H (s0r l.nl l.ns) l.V
theorem f0W.loadV {l:List (Bool × List Nat)} (h:f0W H v l) {j:Nat} (hj:j < l.length):∃ w,b0w H true 2 (adr 2 v j)=some w/\c0m H w l[j]:=by
 obtain ⟨s,h1,h2⟩:=f0W.load h hj;exact ⟨_,h1,s,rfl,h2⟩
def PEs (H:a0c) (cs:List Value) (l:List o0N):Prop:=∃ v,cs=[v]/\F0F H v l
abbrev S0h (H:a0c) (v:Value) (l:List (List o0N)):Prop:=Sls PEs H k0W 1 v l
theorem S0h.load {l:List (List o0N)} (h:S0h H v l) {j:Nat} (hj:j < l.length):∃ w,b0w H false 1 (adr 1 v j)=some w/\F0F H w l[j]:=by
 obtain ⟨w,h1,w',h2,h3⟩:=Sls.load1 h hj
 simp only [List.cons.injEq,and_true] at h2
 subst h2
 exact ⟨w,h1,h3⟩
def EdV (H:a0c) (cs:List Value) (x:EdT):Prop:=∃ sG sS sP:Value,cs=[.int .i64 x.f,.int .i64 x.t,.int .i64 x.e.m,sG,sS,sP]/\j0k H sG x.e.guards/\j0k H sS x.e.set/\a0t sP=[sP]/\a0n sP=true
theorem o0k:q0A EdV:=fun _ _ _ _ hx ⟨sG,sS,sP,h1,h2,h3,h4⟩=>⟨sG,sS,sP,h1,h2.mo b0j hx,h3.mo b0j hx,h4⟩
def ViV (H:a0c) (cs:List Value) (x:ViT):Prop:=∃ (s:Int) (sG:Value),cs=[.int .i64 x.l,.int .i64 s,.int .i64 x.m,sG]/\j0k H sG x.g
theorem o0l:q0A ViV:=fun _ _ _ _ hx ⟨s,sG,h1,h2⟩=>⟨s,sG,h1,h2.mo b0j hx⟩
def G1V (v:Value) (n:Nat):Prop:=i0q v=some (.int .i64 n)/\a0t v=[v]/\a0n v=true
def F1B (H:a0c) (cs:List Value) (l:u0R):Prop:=∃ sL sS sE sV:Value,cs=[sL,sS,sE,sV]/\G1V sL l.nl/\G1V sS l.ns/\Sls EdV H b0b 6 sE l.E/\Sls ViV H d0t 4 sV l.V
def x0P (H:a0c) (v:Value) (l:u0R):Prop:=∃ cs,v=.agg cs.toArray/\F1B H cs l
theorem F1B.mo {cs:List Value} {l:u0R} (h:F1B H cs l) (hx:Ext H G):F1B G cs l:=by
 obtain ⟨sL,sS,sE,sV,h1,h2,h3,h4,h5⟩:=h;exact ⟨sL,sS,sE,sV,h1,h2,h3,h4.mo o0k hx,h5.mo o0l hx⟩
theorem x0P.mo {l:u0R} (h:x0P H v l) (hx:Ext H G):x0P G v l:=by obtain ⟨cs,h1,h2⟩:=h;exact ⟨cs,h1,h2.mo hx⟩
def p0d (l:u0R):Prop:=l.nl<=60/\l.ns<=10/\l.E.length<=300/\l.V.length<=300/\(∀ x ∈ l.E,o0c x.e)/\∀ x ∈ l.V,x.g.length<=100/\∀ a ∈ x.g,r0k a
theorem l0X {a:List (Bool × List Nat)} {p:Bool × List Nat->Bool} {g:FuncId} (I:a0c->Prop) (hI:∀ G G',Ext G G'->I G->I G') (h0:I H) (ha:f0W H v a) (hf:fl<=H.size) (hal:a.length < 1073741824)
  (hg:∀ (fl:Nat) (G:a0c) (v:Value) (e:Bool × List Nat),e ∈ a->I G->fl<=G.size->c0m G v e->b0k env fl g [v] G (fun r H'=>r=.bool (p e)/\Ext G H') R) :
  b0k env fl w0S [v,.func (.func g) #[] #[]] H (fun r H'=>(∃ z:Int,r=.int .i64 z/\(0<=z <-> j0J p a=true))/\Ext H H') R:=by
 refine a0i I1u hf (h:=?_)
 intro ρ h1
 simp [E0S,C0S,C0T,h1,ha.slen]
 refine s0x (n:=a.length) (fun i ρ G=>ρ 0=v/\ρ 1=.func (.func g) #[] #[]/\Ext H G/\j0J p (a.take i)=false)
  rfl rfl (by decide) (by omega) (by simp) (by simp) ?_ ?_ ?_ ?_
 ·exact ⟨by simp [h1],by simp [h1],Ext.refl H,by rw [P1j];exact l0H⟩
 ·intro i ρ ρ' G h hI;simpa [h] using hI
 ·clear h1 ρ
  rintro i ρ G hi gi gn ⟨g0,g1,hx,hc⟩
  have ka:=ha.mo e0d hx
  obtain ⟨w,hl,k0⟩:=f0W.loadV ka hi
  simp [C0U,C0V,gi,g0,g1,ka.ia hi,hl]
  refine (hg _ _ _ _ (N1j hi) (hI _ _ hx h0) hx.1 k0).mo ?_
  rintro _ G2 ⟨rfl,hx2⟩
  have hx':=hx.trans hx2
  cases hp:p a[i]
  ·simp
   exact Rnd.mk (by simp [gi]) (by simp [gn]) ⟨by simp [g0],by simp [g1],hx',by rw [j0K hi,hc,hp];rfl⟩
  ·simp [C0W,gi]
   exact fun _=>l0I hi hp
 ·clear h1 ρ
  rintro ρ G gi gn ⟨g0,g1,hx,hc⟩
  rw [N1f] at hc
  simp [C0X,hc]
theorem j0F {a:List (Bool × List Nat)} {p:Bool × List Nat->Bool} {g:FuncId} (I:a0c->Prop) (hI:∀ G G',Ext G G'->I G->I G') (h0:I H) (ha:f0W H v a) (hf:fl<=H.size) (hal:a.length < 1073741824)
  (hg:∀ (fl:Nat) (G:a0c) (v:Value) (e:Bool × List Nat),e ∈ a->I G->fl<=G.size->c0m G v e->b0k env fl g [v] G (fun r H'=>r=.bool (p e)/\Ext G H') R) :
  b0k env fl w0N [v,.func (.func g) #[] #[]] H (fun r H'=>r=.bool (j0J p a)/\Ext H H') R:=by
 refine a0i I1d hf (h:=?_)
 intro ρ h1
 simp [E0M,B0p,B0q,h1]
 refine (l0X (p:=p) I hI h0 ha (M1U _) hal hg).mo ?_
 rintro _ G2 ⟨⟨z,rfl,hz⟩,hx2⟩
 simp
 intro _
 rw [O1d,N1s];exact hz
theorem l0r {a:List (l0q)} {p:l0q->Bool} {g:FuncId} {c c2 c3:Value} (I:a0c->Prop) (hI:∀ G G',Ext G G'->I G->I G') (h0:I H) (ha:j0k H v a) (hf:fl<=H.size) (hal:a.length < 1073741824)
  (hg:∀ (fl:Nat) (G:a0c) (v:Value) (e:l0q),e ∈ a->I G->fl<=G.size->F0x G v e->b0k env fl g [v,c,c2,c3] G (fun r H'=>r=.bool (p e)/\Ext G H') R) :
  b0k env fl w0T [v,.func (.func g) #[] #[c,c2,c3]] H (fun r H'=>(∃ z:Int,r=.int .i64 z/\(0<=z <-> j0J p a=true))/\Ext H H') R:=by
 refine a0i I1v hf (h:=?_)
 intro ρ h1
 simp [E0T,C0Y,C0Z,h1,ha.slen]
 refine s0x (n:=a.length) (fun i ρ G=>ρ 0=v/\ρ 1=.func (.func g) #[] #[c,c2,c3]/\Ext H G/\j0J p (a.take i)=false)
  rfl rfl (by decide) (by omega) (by simp) (by simp) ?_ ?_ ?_ ?_
 ·exact ⟨by simp [h1],by simp [h1],Ext.refl H,by rw [P1j];exact l0H⟩
 ·intro i ρ ρ' G h hI;simpa [h] using hI
 ·clear h1 ρ
  rintro i ρ G hi gi gn ⟨g0,g1,hx,hc⟩
  have ka:=ha.mo b0j hx
  obtain ⟨w,hl,k0⟩:=j0k.load ka hi
  simp [D0a,D0b,gi,g0,g1,ka.ia hi,hl]
  refine (hg _ _ _ _ (N1j hi) (hI _ _ hx h0) hx.1 k0).mo ?_
  rintro _ G2 ⟨rfl,hx2⟩
  have hx':=hx.trans hx2
  cases hp:p a[i]
  ·simp
   exact Rnd.mk (by simp [gi]) (by simp [gn]) ⟨by simp [g0],by simp [g1],hx',by rw [j0K hi,hc,hp];rfl⟩
  ·simp [D0c,gi]
   exact fun _=>l0I hi hp
 ·clear h1 ρ
  rintro ρ G gi gn ⟨g0,g1,hx,hc⟩
  rw [N1f] at hc
  simp [D0d,hc]
theorem j0l {a:List (l0q)} {p:l0q->Bool} {g:FuncId} {c c2 c3:Value} (I:a0c->Prop) (hI:∀ G G',Ext G G'->I G->I G') (h0:I H) (ha:j0k H v a) (hf:fl<=H.size) (hal:a.length < 1073741824)
  (hg:∀ (fl:Nat) (G:a0c) (v:Value) (e:l0q),e ∈ a->I G->fl<=G.size->F0x G v e->b0k env fl g [v,c,c2,c3] G (fun r H'=>r=.bool (p e)/\Ext G H') R) :
  b0k env fl s0N [v,.func (.func g) #[] #[c,c2,c3]] H (fun r H'=>r=.bool (j0J p a)/\Ext H H') R:=by
 refine a0i I1f hf (h:=?_)
 intro ρ h1
 simp [E0O,B0t,B0u,h1]
 refine (l0r (p:=p) I hI h0 ha (M1U _) hal hg).mo ?_
 rintro _ G2 ⟨⟨z,rfl,hz⟩,hx2⟩
 simp
 intro _
 rw [O1d,N1s];exact hz
def F1A (l:List (Bool × List Nat)):Prop:=∀ x ∈ l,x.2.length < 4611686018427387904
def okA (a:l0q):Prop:=F1A a.X/\F1A a.W/\a.K.2.length < 4611686018427387904/\a.X.length < 1073741824/\a.W.length < 1073741824
theorem r0k.ok {a:l0q} (h:r0k a):okA a :=
 ⟨fun x hx=>by have:=(h.1.1 x hx).1;omega,fun x hx=>by have:=(h.1.2.1 x hx).1;omega,by have:=h.1.2.2.1;omega,by have:=h.2.1;omega,by have:=h.2.2;omega⟩
theorem l0k {l:List (Bool × List Nat)} (h:f0W H v l) (hf:fl<=H.size) (hl:F1A l) (hal:l.length < 1073741824) :
  b0k env fl u1n [v] H (fun r H'=>r=.bool (i0H d0k l)/\Ext H H') R:=by
 refine a0i M1r hf (h:=?_)
 intro ρ h0
 simp [G1R,U0E,U0F,h0]
 refine f0r (fun n ρ G=>ρ 0=v/\ρ 3=.int .i64 (n:Int)/\Ext H G/\i0H d0k (l.take n)=true) l.length (by decide) (by simp [h0,d0H]) ?_
 clear h0 ρ
 rintro n ρ G hn1 ⟨g0,g3,hx,hc⟩
 have k:=h.mo e0d hx
 simp [U0G,g0,g3,k.slen]
 refine g0T.mk (by simp) (fun hlt=>?_) (fun heq=>?_)
 ·obtain ⟨w,hw,k0⟩:=f0W.loadV k hlt
  simp [U0H,g0,g3,k.ia hlt,hw]
  refine (c0U k0 hx.1 (hl _ (N1j hlt))).mo ?_
  rintro _ G2 ⟨rfl,hx2⟩
  cases hp:d0k l[n]
  ·simp [U0I]
   intros
   exact f0E hlt hp
  ·simp
   unfold k0s
   simp [U0J,g3,b0D (show n < 4611686018427387904 by omega)]
   exact e0a.mk ⟨by simp [g0],by simp,hx.trans hx2,by rw [c0K hlt,hc,hp];rfl⟩
 ·subst heq
  rw [N1f] at hc
  simp [U0K,hc]
theorem g0H {l:List l0q} {n m:Int} (h:j0k H v l) (hf:fl<=H.size) (hl:∀ a ∈ l,okA a) (hal:l.length < 1073741824) :
  b0k env fl W0Z [v,.int .i64 n,.int .i64 m] H (fun r H'=>r=.bool (f0s l n m)/\Ext H H') R:=by
 refine a0i M1e hf (h:=?_)
 intro ρ h0
 simp [G1J,T0B,T0C,h0]
 unfold f0s
 refine f0r (fun i ρ G=>ρ 0=v/\ρ 1=.int .i64 n/\ρ 2=.int .i64 m/\ρ 7=.int .i64 (i:Int)/\Ext H G/\i0H (j0I n m) (l.take i)=true) l.length (by decide) (by simp [h0,d0H]) ?_
 clear h0 ρ
 rintro i ρ G hn1 ⟨g0,g1,g2,g7,hx,hc⟩
 have k:=h.mo b0j hx
 simp [T0D,g0,g7,k.slen]
 refine g0T.mk (by simp) (fun hlt=>?_) (fun heq=>?_)
 ·obtain ⟨w,hw,sX,sW,s,rfl,kX,kW,kK⟩:=j0k.load k hlt
  have hok:=hl _ (N1j hlt)
  have hsz:=hx.1
  simp [T0E,g0,g7,k.ia hlt,hw,kX.cells,kW.cells,kK.cells,kX.plain,kW.plain,kK.plain,hsz]
  generalize hGG:Array.setIfInBounds (G.push _) _ _=G1
  obtain ⟨hx1,b0⟩:=F0C hGG
  clear hGG
  replace kX:=kX.mo e0d hx1
  replace kW:=kW.mo e0d hx1
  replace kK:=kK.mo hx1
  have no:j0I n m l[i]=false->i0H (j0I n m) l=false:=fun h=>f0E hlt h
  by_cases h1:(l[i].X.length:Int)=n
  case neg =>
   simp [w0l,o0v,b0,g1,kX.slen,h1]
   intros
   exact no (by unfold j0I;simp [h1])
  by_cases h2:(l[i].W.length:Int)=m
  case neg =>
   simp [w0l,o0v,b0,g1,g2,kX.slen,kW.slen,h1,h2]
   intros
   exact no (by unfold j0I;simp [h2])
  simp [w0l,b0,g1,g2,kX.slen,kW.slen,h1,h2]
  refine (c0U ⟨s,rfl,kK⟩ (by have:=hx1.1;omega) hok.2.2.1).mo ?_
  rintro _ G2 ⟨rfl,hx2⟩
  cases hp:d0k l[i].K
  case false =>
   simp [o0v]
   intros
   exact no (by unfold j0I;simp [hp])
  simp [hx2.bk b0]
  refine (l0k (kX.mo e0d hx2) (by have:=hx1.1;have:=hx2.1;omega) hok.1 hok.2.2.2.1).mo ?_
  rintro _ G3 ⟨rfl,hx3⟩
  replace hx2:=hx2.trans hx3
  cases hp2:i0H d0k l[i].X
  case false =>
   simp [o0v]
   intros
   exact no (by unfold j0I;simp [hp2])
  simp [hx2.bk b0]
  refine (l0k (kW.mo e0d hx2) (by have:=hx1.1;have:=hx2.1;omega) hok.2.1 hok.2.2.2.2).mo ?_
  rintro _ G4 ⟨rfl,hx3⟩
  replace hx2:=hx2.trans hx3
  cases hp3:i0H d0k l[i].W
  case false =>
   simp [o0v]
   intros
   exact no (by unfold j0I;simp [hp3])
  simp
  unfold k0s
  simp [T0F,g7,b0D (show i < 4611686018427387904 by omega)]
  exact e0a.mk ⟨by simp [g0],by simp [g1],by simp [g2],by simp,hx.trans (hx1.trans hx2),by rw [c0K hlt,hc];unfold j0I;simp [h1,h2,hp,hp2,hp3]⟩
 ·subst heq
  rw [N1f] at hc
  simp [T0G,hc]
theorem o0M {l:u0R} (h:x0P H v l) (hf:fl<=H.size):b0k env fl v1y [v] H (fun r H'=>(∃ c,r=.bool c/\(c=false->p0d l))/\Ext H H') R:=by
 obtain ⟨cs,rfl,sL,sS,sE,sV,rfl,hL,hS,hE,hV⟩:=h
 refine a0i L1V hf (h:=?_)
 intro ρ h0
 simp [G1B,S0P,h0,hL.2.1,hS.2.1,hE.cells,hV.cells]
 generalize hGG:H.push _=G
 obtain ⟨hx,b0⟩:=t0i hGG
 clear hGG
 have lL:=hL.1
 have lS:=hS.1
 have lE:=hE.slen
 have lV:=hV.slen
 by_cases h1:60 < l.nl
 ·have h1':(60:Int) < (l.nl:Int):=by omega
  simp [o0s,r0R,b0,lL,h1,h1']
 have h1':¬ (60:Int) < (l.nl:Int):=by omega
 by_cases h2:10 < l.ns
 ·have h2':(10:Int) < (l.ns:Int):=by omega
  simp [o0s,r0R,b0,lL,lS,h1,h1',h2,h2']
 have h2':¬ (10:Int) < (l.ns:Int):=by omega
 by_cases h3:300 < l.E.length
 ·have h3':(300:Int) < (l.E.length:Int):=by omega
  simp [o0s,r0R,b0,lL,lS,lE,h1,h1',h2,h2',h3,h3']
 have h3':¬ (300:Int) < (l.E.length:Int):=by omega
 by_cases h4:300 < l.V.length
 ·have h4':(300:Int) < (l.V.length:Int):=by omega
  simp [o0s,r0R,b0,lL,lS,lE,lV,h1,h1',h2,h2',h3,h3',h4,h4']
 have h4':¬ (300:Int) < (l.V.length:Int):=by omega
 simp [o0s,S0Q,b0,lL,lS,lE,lV,h1,h1',h2,h2',h3,h3',h4,h4']
 refine f0r (fun n ρ G=>ρ 1=.pointer (some ⟨H.size,0,none⟩)/\ρ 3=.int .i64 (n:Int)/\Ext H G/\a0c.bk G H.size=.row false a0Z [sL,sS,sE,sV]/\∀ x ∈ l.E.take n,o0c x.e) l.E.length (by decide) ?_ ?_
 ·exact ⟨by simp,by simp,hx,b0,fun x hx=>by simp at hx⟩
 clear h0 ρ hx b0 G
 rintro n ρ G hn ⟨g1,g3,hx,b0,hq⟩
 have k:=hE.mo o0k hx
 simp [S0R,g1,g3,b0,lE]
 refine g0T.mk (by simp) (fun hlt=>?_) (fun heq=>?_)
 ·obtain ⟨b,o,cs,ha,hcl,⟨sG,sT,sP,rfl,kG,kS,_⟩,hat⟩:=k.atX hlt (by decide)
  have c3:=(hat _ (Ext.refl _)).2 3 (by decide)
  have c4:=(hat _ (Ext.refl _)).2 4 (by decide)
  simp at c3 c4
  have lG:=kG.slen
  have lT:=kS.slen
  by_cases q1:100 < l.E[n].e.guards.length
  ·have q1':(100:Int) < (l.E[n].e.guards.length:Int):=by omega
   simp [v0Y,g1,g3,b0,k.ia hlt,ha,c3,lG,q1,q1',r0S]
  have q1':¬ (100:Int) < (l.E[n].e.guards.length:Int):=by omega
  by_cases q2:20 < l.E[n].e.set.length
  ·have q2':(20:Int) < (l.E[n].e.set.length:Int):=by omega
   simp [v0Y,g1,g3,b0,k.ia hlt,ha,c3,c4,lG,lT,q1,q1',q2,q2',r0S]
  have q2':¬ (20:Int) < (l.E[n].e.set.length:Int):=by omega
  simp [v0Y,g1,g3,b0,k.ia hlt,ha,c3,c4,lG,lT,q1,q1',q2,q2']
  refine (m0i kG hx.1 (by omega)).mo ?_
  rintro _ G2 ⟨⟨c1,rfl,hc1⟩,hx2⟩
  cases c1
  case true=>simp [r0S]
  have d4:=(hat _ hx2).2 4 (by decide)
  simp at d4
  simp [g1,g3,hx2.bk b0,k.ia hlt,ha,d4]
  refine (m0i (kS.mo b0j hx2) (by have:=hx.1;have:=hx2.1;omega) (by omega)).mo ?_
  rintro _ G3 ⟨⟨c1,rfl,hc2⟩,hx3⟩
  replace hx2:=hx2.trans hx3
  cases c1
  case true=>simp [r0S]
  simp
  unfold k0s
  simp [S0S,g3,b0D (show n < 4611686018427387904 by omega)]
  refine e0a.mk ⟨by simp [g1],by simp,hx.trans hx2,hx2.bk b0,fun x hx=>?_⟩
  rw [N1x hlt] at hx
  rcases N1B.1 hx with hx | hx
  ·exact hq x hx
  ·rw [O1l.1 hx];exact ⟨hc2 rfl,hc1 rfl,by omega,by omega⟩
 ·subst heq
  rw [N1f] at hq
  simp [S0T]
  refine f0r (fun n ρ G=>ρ 1=.pointer (some ⟨H.size,0,none⟩)/\ρ 4=.int .i64 (n:Int)/\Ext H G/\a0c.bk G H.size=.row false a0Z [sL,sS,sE,sV]/\∀ x ∈ l.V.take n,x.g.length<=100/\∀ a ∈ x.g,r0k a) l.V.length (by decide) ?_ ?_
  ·exact ⟨by simp [g1],by simp,hx,b0,fun x hx=>by simp at hx⟩
  clear k g1 g3 hx b0 ρ G
  rintro n ρ G hn ⟨g1,g4,hx,b0,hr⟩
  have k:=hV.mo o0l hx
  simp [S0U,g1,g4,b0,lV]
  refine g0T.mk (by simp) (fun hlt=>?_) (fun heq=>?_)
  ·obtain ⟨b,o,cs,ha,hcl,⟨s,sG,rfl,kG⟩,hat⟩:=k.atX hlt (by decide)
   have c3:=(hat _ (Ext.refl _)).2 3 (by decide)
   simp at c3
   have lG:=kG.slen
   by_cases q1:100 < l.V[n].g.length
   ·have q1':(100:Int) < (l.V[n].g.length:Int):=by omega
    simp [t0Z,g1,g4,b0,k.ia hlt,ha,c3,lG,q1,q1',u0a]
   have q1':¬ (100:Int) < (l.V[n].g.length:Int):=by omega
   simp [t0Z,g1,g4,b0,k.ia hlt,ha,c3,lG,q1,q1']
   refine (m0i kG hx.1 (by omega)).mo ?_
   rintro _ G2 ⟨⟨c1,rfl,hc1⟩,hx2⟩
   cases c1
   case true=>simp [u0a]
   simp
   unfold k0s
   simp [D0e,g4,b0D (show n < 4611686018427387904 by omega)]
   refine e0a.mk ⟨by simp [g1],by simp,hx.trans hx2,hx2.bk b0,fun x hx=>?_⟩
   rw [N1x hlt] at hx
   rcases N1B.1 hx with hx | hx
   ·exact hr x hx
   ·rw [O1l.1 hx];exact ⟨by omega,hc1 rfl⟩
  ·subst heq
   rw [N1f] at hr
   simp [D0f]
   exact fun _=>⟨by omega,by omega,by omega,by omega,hq,hr⟩
theorem o0c.okG {e:w0B} (h:o0c e):∀ a ∈ e.guards,okA a:=fun a ha=>(h.2.1 a ha).ok
theorem o0c.okS {e:w0B} (h:o0c e):∀ a ∈ e.set,okA a:=fun a ha=>(h.1 a ha).ok
theorem noE {l:u0R} {n:Nat} (hn:n < l.E.length) (h:m0k l.nl l.ns l.E[n]=false):d0j l=false:=by
 unfold d0j;rw [f0E hn h];simp
theorem noV {l:u0R} {n:Nat} (hn:n < l.V.length) (h:s0r l.nl l.ns l.V[n]=false):d0j l=false:=by
 unfold d0j;rw [f0E hn h];simp
theorem n0N {l:u0R} (h:x0P H v l) (hg:p0d l) (hf:fl<=H.size):b0k env fl v1A [v] H (fun r H'=>r=.bool (d0j l)/\Ext H H') R:=by
 obtain ⟨cs,rfl,sL,sS,sE,sV,rfl,hL,hS,hE,hV⟩:=h
 obtain ⟨_,_,_,_,hgE,hgV⟩:=hg
 refine a0i L1X hf (h:=?_)
 intro ρ h0
 simp [G1D,S0X,h0,hL.2.1,hS.2.1,hE.cells,hV.cells]
 generalize hGG:H.push _=G
 obtain ⟨hx,b0⟩:=t0i hGG
 clear hGG
 have lL:=hL.1
 have lS:=hS.1
 have lE:=hE.slen
 have lV:=hV.slen
 simp [S0Y,b0,lS]
 have no:r0r l=false->d0j l=false:=fun h=>by unfold d0j;rw [h];rfl
 by_cases h1:l.nl < 1
 ·have h1':(l.nl:Int) < 1:=by omega
  simp [m0U,o0t,b0,lL,h1,h1']
  intros;exact no (by unfold r0r;rw [decide_eq_false (by omega:¬ 1<=l.nl)];simp)
 have h1':¬ (l.nl:Int) < 1:=by omega
 by_cases h2:40 < l.nl
 ·have h2':(40:Int) < (l.nl:Int):=by omega
  simp [m0U,o0t,b0,lL,h1,h1',h2,h2']
  intros;exact no (by unfold r0r;rw [decide_eq_false (by omega:¬ l.nl<=40)];simp)
 have h2':¬ (40:Int) < (l.nl:Int):=by omega
 by_cases h3:6 < l.ns
 ·have h3':(6:Int) < (l.ns:Int):=by omega
  simp [m0U,o0t,b0,lL,h1,h1',h2,h2',h3,h3']
  intros;exact no (by unfold r0r;rw [decide_eq_false (by omega:¬ l.ns<=6)];simp)
 have h3':¬ (6:Int) < (l.ns:Int):=by omega
 by_cases h4:200 < l.E.length
 ·have h4':(200:Int) < (l.E.length:Int):=by omega
  simp [m0U,o0t,b0,lL,lE,h1,h1',h2,h2',h3,h3',h4,h4']
  intros;exact no (by unfold r0r;rw [decide_eq_false (by omega:¬ l.E.length<=200)];simp)
 have h4':¬ (200:Int) < (l.E.length:Int):=by omega
 by_cases h5:200 < l.V.length
 ·have h5':(200:Int) < (l.V.length:Int):=by omega
  simp [m0U,o0t,b0,lL,lE,lV,h1,h1',h2,h2',h3,h3',h4,h4',h5,h5']
  intros;exact no (by unfold r0r;rw [decide_eq_false (by omega:¬ l.V.length<=200)];simp)
 have h5':¬ (200:Int) < (l.V.length:Int):=by omega
 have hlow:r0r l=true:=by
  unfold r0r
  simp only [M1W,N1s]
  exact ⟨⟨⟨⟨by omega,by omega⟩,by omega⟩,by omega⟩,by omega⟩
 simp [m0U,S0Z,b0,lL,lE,lV,h1,h1',h2,h2',h3,h3',h4,h4',h5,h5']
 refine f0r (fun n ρ G=>ρ 1=.pointer (some ⟨H.size,0,none⟩)/\ρ 3=.int .i64 (l.ns:Int)/\ρ 4=.int .i64 (n:Int)/\Ext H G/\a0c.bk G H.size=.row false a0Z [sL,sS,sE,sV]/\i0H (m0k l.nl l.ns) (l.E.take n)=true) l.E.length (by decide) ?_ ?_
 ·exact ⟨by simp,by simp,by simp,hx,b0,d0H⟩
 clear h0 ρ hx b0 G
 rintro n ρ G hn ⟨g1,g3,g4,hx,b0,hq⟩
 have k:=hE.mo o0k hx
 simp [T0a,g1,g4,b0,lE]
 refine g0T.mk (by simp) (fun hlt=>?_) (fun heq=>?_)
 ·obtain ⟨cs,hw,hcl,sG,sT,sP,rfl,kG,kS,hPc,hPp⟩:=k.load hlt (by decide)
  have hge:=hgE _ (N1j hlt)
  obtain ⟨e,he⟩:∃ e,e=l.E[n]:=⟨_,rfl⟩
  have no:m0k l.nl l.ns e=false->d0j l=false:=fun h=>noE hlt (by rw [<- he];exact h)
  simp only [<- he] at hw kG kS hge
  have hsz:=hx.1
  simp [T0b,g1,g4,b0,k.ia hlt,hw,kG.cells,kS.cells,kG.plain,kS.plain,hPc,hPp,hsz]
  generalize hGG:Array.setIfInBounds (G.push _) _ _=G1
  obtain ⟨hx1,b1⟩:=F0C hGG
  clear hGG
  replace kG:=kG.mo b0j hx1
  replace kS:=kS.mo b0j hx1
  have c0:=hx1.bk b0
  have lT:=kS.slen
  by_cases q1:e.f < 0
  ·simp [k0k,j0i,b1,q1]
   intros;exact no (by unfold m0k inB;rw [decide_eq_false (by omega:¬ 0<=e.f)];simp)
  by_cases q2:(l.nl:Int)<=e.f
  ·simp [k0k,j0i,b1,c0,g1,lL,q1,q2]
   intros;exact no (by unfold m0k inB;rw [decide_eq_false (by omega:¬ e.f < (l.nl:Int))];simp)
  by_cases q3:e.t < 0
  ·simp [k0k,j0i,b1,c0,g1,lL,q1,q2,q3]
   intros;exact no (by unfold m0k inB;rw [decide_eq_false (by omega:¬ 0<=e.t)];simp)
  by_cases q4:(l.nl:Int)<=e.t
  ·simp [k0k,j0i,b1,c0,g1,lL,q1,q2,q3,q4]
   intros;exact no (by unfold m0k inB;rw [decide_eq_false (by omega:¬ e.t < (l.nl:Int))];simp)
  by_cases q5:e.e.m < 0
  ·simp [k0k,j0i,b1,c0,g1,lL,q1,q2,q3,q4,q5]
   intros;exact no (by unfold m0k l0F;rw [decide_eq_false (by omega:¬ 0<=e.e.m)];simp)
  by_cases q6:40 < e.e.m
  ·simp [k0k,j0i,b1,c0,g1,lL,q1,q2,q3,q4,q5,q6]
   intros;exact no (by unfold m0k l0F;rw [decide_eq_false (by omega:¬ e.e.m<=40)];simp)
  by_cases q7:e.e.set.length=l.ns
  case neg =>
   have q7':¬ (e.e.set.length:Int)=(l.ns:Int):=by omega
   simp [k0k,j0i,b1,c0,g1,g3,lL,lT,q1,q2,q3,q4,q5,q6,q7,q7']
   intros;exact no (by unfold m0k;rw [decide_eq_false q7];simp)
  have q7':(e.e.set.length:Int)=(l.ns:Int):=by omega
  simp [k0k,b1,c0,g1,g3,lL,lT,q1,q2,q3,q4,q5,q6,q7,q7']
  refine (g0H kG (by have:=hx1.1;omega) hge.okG (by have:=hge.2.2.1;omega)).mo ?_
  rintro _ G2 ⟨rfl,hx2⟩
  cases hp:f0s e.e.guards l.ns e.e.m
  case false =>
   simp [j0i]
   intros;exact no (by unfold m0k;rw [hp];simp)
  simp [hx2.bk b1,g3]
  refine (g0H (kS.mo b0j hx2) (by have:=hx1.1;have:=hx2.1;omega) hge.okS (by have:=hge.2.2.2;omega)).mo ?_
  rintro _ G3 ⟨rfl,hx3⟩
  replace hx2:=hx2.trans hx3
  cases hp2:f0s e.e.set l.ns e.e.m
  case false =>
   simp [j0i]
   intros;exact no (by unfold m0k;rw [hp2];simp)
  simp
  unfold k0s
  simp [T0c,g4,b0D (show n < 4611686018427387904 by omega)]
  refine e0a.mk ⟨by simp [g1],by simp [g3],by simp,hx.trans (hx1.trans hx2),hx2.bk c0,?_⟩
  rw [c0K hlt,hq,<- he]
  unfold m0k inB l0F
  simp only [O1H,M1W,N1s]
  exact ⟨⟨⟨⟨⟨⟨by omega,by omega⟩,by omega,by omega⟩,by omega,by omega⟩,q7⟩,hp⟩,hp2⟩
 ·subst heq
  rw [N1f] at hq
  simp [D0H]
  refine f0r (fun n ρ G=>ρ 1=.pointer (some ⟨H.size,0,none⟩)/\ρ 3=.int .i64 (l.ns:Int)/\ρ 6=.int .i64 (n:Int)/\Ext H G/\a0c.bk G H.size=.row false a0Z [sL,sS,sE,sV]/\i0H (s0r l.nl l.ns) (l.V.take n)=true) l.V.length (by decide) ?_ ?_
  ·exact ⟨by simp [g1],by simp [g3],by simp,hx,b0,d0H⟩
  clear k g1 g3 g4 hx b0 ρ G
  rintro n ρ G hn ⟨g1,g3,g6,hx,b0,hr⟩
  have k:=hV.mo o0l hx
  simp [D0I,g1,g6,b0,lV]
  refine g0T.mk (by simp) (fun hlt=>?_) (fun heq=>?_)
  ·obtain ⟨cs,hw,hcl,s,sG,rfl,kG⟩:=k.load hlt (by decide)
   obtain ⟨hge1,hge2⟩:=hgV _ (N1j hlt)
   obtain ⟨e,he⟩:∃ e,e=l.V[n]:=⟨_,rfl⟩
   have no:s0r l.nl l.ns e=false->d0j l=false:=fun h=>noV hlt (by rw [<- he];exact h)
   simp only [<- he] at hw kG hge1 hge2
   have hsz:=hx.1
   simp [D0J,g1,g6,b0,k.ia hlt,hw,kG.cells,kG.plain,hsz]
   generalize hGG:Array.setIfInBounds (G.push _) _ _=G1
   obtain ⟨hx1,b1⟩:=F0C hGG
   clear hGG
   replace kG:=kG.mo b0j hx1
   have c0:=hx1.bk b0
   by_cases q1:e.l < 0
   ·simp [k0J,k0K,b1,q1]
    intros;exact no (by unfold s0r inB;rw [decide_eq_false (by omega:¬ 0<=e.l)];simp)
   by_cases q2:(l.nl:Int)<=e.l
   ·simp [k0J,k0K,b1,c0,g1,lL,q1,q2]
    intros;exact no (by unfold s0r inB;rw [decide_eq_false (by omega:¬ e.l < (l.nl:Int))];simp)
   by_cases q5:e.m < 0
   ·simp [k0J,k0K,b1,c0,g1,lL,q1,q2,q5]
    intros;exact no (by unfold s0r l0F;rw [decide_eq_false (by omega:¬ 0<=e.m)];simp)
   by_cases q6:40 < e.m
   ·simp [k0J,k0K,b1,c0,g1,lL,q1,q2,q5,q6]
    intros;exact no (by unfold s0r l0F;rw [decide_eq_false (by omega:¬ e.m<=40)];simp)
   simp [k0J,b1,c0,g1,g3,lL,q1,q2,q5,q6]
   refine (g0H kG (by have:=hx1.1;omega) (fun a ha=>(hge2 a ha).ok) (by omega)).mo ?_
   rintro _ G2 ⟨rfl,hx2⟩
   cases hp:f0s e.g l.ns e.m
   case false =>
    simp [k0K]
    intros;exact no (by unfold s0r;rw [hp];simp)
   simp
   unfold k0s
   simp [D0K,g6,b0D (show n < 4611686018427387904 by omega)]
   refine e0a.mk ⟨by simp [g1],by simp [g3],by simp,hx.trans (hx1.trans hx2),hx2.bk c0,?_⟩
   rw [c0K hlt,hr,<- he]
   unfold s0r inB l0F
   simp only [O1H,M1W,N1s]
   exact ⟨⟨⟨by omega,by omega⟩,by omega,by omega⟩,hp⟩
  ·subst heq
   rw [N1f] at hr
   simp [D0L]
   intros
   unfold d0j
   rw [hlow,hq,hr];rfl
theorem K1m {z1 z2:Blk} (hG:Array.push (Array.push H z1) z2=G):Ext H G/\a0c.bk G H.size=z1/\a0c.bk G (H.size + 1)=z2/\G.size=H.size + 2:=by
 rw [<- hG];exact ⟨(Ext.refl H).push.push,by simp,by simp,by simp⟩
theorem j0w {x:Bool × List Nat} (h:c0m H v x) (hf:fl<=H.size) (hl:x.2.length < 4611686018427387904):b0k env fl w0O [v] H (fun r H'=>r=.bool (!d0k x)/\Ext H H') R:=by
 have k0:=h
 obtain ⟨s,rfl,hs⟩:=h
 refine a0i I1e hf (h:=?_)
 intro ρ h0
 simp [E0N,B0r,h0,hs.cells]
 generalize hG:H.push _=G
 obtain ⟨hx,b0⟩:=t0i hG
 simp [B0s,b0]
 refine (c0A (k0.mo hx) hx.1 hl).mo ?_
 rintro _ G2 ⟨rfl,hx2⟩
 simp
theorem V0l {l:List (Bool × List Nat)}:(!j0J (fun x=>!d0k x) l)=i0H d0k l:=by
 unfold j0J i0H
 induction l with
 | nil=>rfl
 | cons x l ih=>simp only [List.any_cons,N1u,Bool.not_or,Bool.not_not,ih]
theorem f0N {l:List (Bool × List Nat)} {n:Int} (h:f0W H v l) (hf:fl<=H.size) (hl:F1A l) (hal:l.length < 1073741824) :
  b0k env fl m0p [v,.int .i64 n] H (fun r H'=>r=.bool (decide ((l.length:Int)=n) && i0H d0k l)/\Ext H H') R:=by
 refine a0i I1c hf (h:=?_)
 intro ρ h0
 by_cases h1:(l.length:Int)=n
 ·simp [x0E,t0G,t0H,h0,h.slen,h1]
  refine (j0F (p:=fun x=>!d0k x) (fun _=>True) (fun _ _ _ h=>h) trivial h (M1U _) hal (fun fl G v e he _ hf hv=>j0w hv hf (hl e he))).mo ?_
  rintro _ G2 ⟨rfl,hx2⟩
  simp
  exact fun _=>by rw [<- V0l,Bool.not_not]
 ·simp [x0E,t0G,t0H,h0,h.slen,h1]
theorem k0C {a:l0q} {n m:Int} {p q r:Nat} (h:F0x H v a) (ho:okA a) (hp:H.bk p=.row false b0J [.func (.func m0p) #[] #[]]) (hq:H.bk q=.row false c0h [.int .i64 n]) (hr:H.bk r=.row false c0h [.int .i64 m]) (hf:fl<=H.size) :
  b0k env fl w0P [v,.pointer (some ⟨p,0,none⟩),.pointer (some ⟨q,0,none⟩),.pointer (some ⟨r,0,none⟩)] H (fun r H'=>r=.bool (!j0I n m a)/\Ext H H') R:=by
 obtain ⟨sX,sW,s,rfl,kX,kW,kK⟩:=h
 obtain ⟨oX,oW,oK,lX,lW⟩:=ho
 refine a0i I1g hf (h:=?_)
 intro ρ h0
 simp [E0P,B0v,h0,kX.cells,kW.cells,kK.cells]
 generalize hG:H.push _=G
 obtain ⟨hx,b0⟩:=t0i hG
 clear hG
 simp [B0w,h0,b0,hx.bk hp,hx.bk hq]
 refine (f0N (n:=n) (kX.mo e0d hx) hx.1 oX lX).mo ?_
 rintro _ G2 ⟨rfl,hx2⟩
 replace b0:=hx2.bk b0
 replace hx:=hx.trans hx2
 unfold j0I
 by_cases h1:(a.X.length:Int)=n
 case neg=>simp [h1]
 cases h2:i0H d0k a.X
 case false=>simp [h1]
 simp [h0,b0,h1,hx.bk hp,hx.bk hr]
 refine (f0N (n:=m) (kW.mo e0d hx) hx.1 oW lW).mo ?_
 rintro _ G3 ⟨rfl,hx2⟩
 replace b0:=hx2.bk b0
 replace hx:=hx.trans hx2
 by_cases h3:(a.W.length:Int)=m
 case neg=>simp [h3]
 cases h4:i0H d0k a.W
 case false=>simp [h3]
 simp [b0,h3]
 refine (c0A ⟨s,rfl,kK.mo hx⟩ hx.1 oK).mo ?_
 rintro _ G4 ⟨rfl,hx2⟩
 simp
theorem s0y {l:List l0q} {n m:Int}:(!j0J (fun a=>!j0I n m a) l)=f0s l n m:=by
 unfold j0J f0s i0H
 induction l with
 | nil=>rfl
 | cons x l ih=>simp only [List.any_cons,N1u,Bool.not_or,Bool.not_not,ih]
theorem e0Z {l:List l0q} {n m:Int} (h:j0k H v l) (hf:fl<=H.size) (hl:∀ a ∈ l,okA a) (hal:l.length < 1073741824) :
  b0k env fl S0q [v,.int .i64 n,.int .i64 m] H (fun r H'=>r=.bool (f0s l n m)/\Ext H H') R:=by
 refine a0i M1u hf (h:=?_)
 intro ρ h0
 simp [F1a,U0L,h0]
 generalize hG:(H.push _).push _=G
 obtain ⟨hx,b1,b2,hs2⟩:=K1m hG
 clear hG
 have hsz:=hx.1
 have cF:a0t (.func (.func m0p) #[] #[])=[.func (.func m0p) #[] #[]]:=rfl
 have pF:a0n (.func (.func m0p) #[] #[])=true:=rfl
 simp [U0M,hsz,cF,pF]
 generalize hG:Array.setIfInBounds (G.push _) _ _=G1
 obtain ⟨hx1,b3⟩:=F0C hG
 clear hG
 replace b1:=hx1.bk b1
 replace b2:=hx1.bk b2
 replace hx:=hx.trans hx1
 simp [U0N,h0]
 refine (j0l (p:=fun a=>!j0I n m a) (fun K=>K.bk G.size=.row false b0J [.func (.func m0p) #[] #[]]/\K.bk H.size=.row false c0h [.int .i64 n]/\K.bk (H.size + 1)=.row false c0h [.int .i64 m]) (fun G G' hx h=>⟨hx.bk h.1,hx.bk h.2.1,hx.bk h.2.2⟩) ⟨b3,b1,b2⟩ (h.mo b0j hx) hx.1 hal (fun fl G v e he hI hf hv=>k0C hv (hl e he) hI.1 hI.2.1 hI.2.2 hf)).mo ?_
 rintro _ G2 ⟨rfl,hx2⟩
 simp
 exact fun _=>by rw [<- s0y,Bool.not_not]
theorem d0i {i:Int} {n p:Nat} (hb:H.bk p=.row false c0h [.int .i64 (n:Int)]) (hf:fl<=H.size):b0k env fl S0o [.int .i64 i,.pointer (some ⟨p,0,none⟩)] H (fun r H'=>r=.bool (inB n i)/\Ext H H') R:=by
 refine a0i M1s hf (h:=?_)
 intro ρ h0
 unfold inB
 by_cases h1:0<=i
 ·simp [u1v,E0z,E0A,h0,hb,h1]
 ·simp [u1v,E0z,E0A,h0,hb,h1]
theorem f0w {i:Int} (hf:fl<=H.size):b0k env fl S0p [.int .i64 i] H (fun r H'=>r=.bool (l0F i)/\Ext H H') R:=by
 refine a0i M1t hf (h:=?_)
 intro ρ h0
 unfold l0F
 by_cases h1:0<=i
 ·simp [u1w,E0B,E0C,h0,h1]
 ·simp [u1w,E0B,E0C,h0,h1]
theorem l0y {l:u0R} (h:x0P H v l) (hg:p0d l) (hf:fl<=H.size):b0k env fl S0l [v] H (fun r H'=>r=.bool (d0j l)/\Ext H H') R:=by
 obtain ⟨cs,rfl,sL,sS,sE,sV,rfl,hL,hS,hE,hV⟩:=h
 obtain ⟨_,_,_,_,hgE,hgV⟩:=hg
 refine a0i M1f hf (h:=?_)
 intro ρ h0
 simp [E1V,T0H,h0,hL.2.1,hS.2.1,hE.cells,hV.cells]
 generalize hGG:H.push _=G
 obtain ⟨hx,b0⟩:=t0i hGG
 clear hGG
 have lL:=hL.1
 have lS:=hS.1
 have lE:=hE.slen
 have lV:=hV.slen
 have hsz:=hx.1
 have hbl:=a0r b0
 refine y0f ?_
 simp [T0I,b0,lL,lS,hsz]
 refine ⟨by omega,?_⟩
 generalize hGG:Array.setIfInBounds (G.push _) _ _=G1
 obtain ⟨hx1,b1⟩:=F0C hGG
 clear hGG
 replace b0:=hx1.bk b0
 replace hx:=hx.trans hx1
 obtain ⟨P,hP⟩:∃ P,P=G.size:=⟨_,rfl⟩
 rw [<- hP] at b1 ⊢
 clear hx1 hP hsz hbl
 have no:r0r l=false->d0j l=false:=fun h=>by unfold d0j;rw [h];rfl
 by_cases h1:l.nl < 1
 ·have h1':(l.nl:Int) < 1:=by omega
  simp [m0V,o0w,b0,b1,lL,h1,h1']
  intros;exact no (by unfold r0r;rw [decide_eq_false (by omega:¬ 1<=l.nl)];simp)
 have h1':¬ (l.nl:Int) < 1:=by omega
 by_cases h2:40 < l.nl
 ·have h2':(40:Int) < (l.nl:Int):=by omega
  simp [m0V,o0w,b0,b1,lL,h1,h1',h2,h2']
  intros;exact no (by unfold r0r;rw [decide_eq_false (by omega:¬ l.nl<=40)];simp)
 have h2':¬ (40:Int) < (l.nl:Int):=by omega
 by_cases h3:6 < l.ns
 ·have h3':(6:Int) < (l.ns:Int):=by omega
  simp [m0V,o0w,b0,b1,lL,h1,h1',h2,h2',h3,h3']
  intros;exact no (by unfold r0r;rw [decide_eq_false (by omega:¬ l.ns<=6)];simp)
 have h3':¬ (6:Int) < (l.ns:Int):=by omega
 by_cases h4:200 < l.E.length
 ·have h4':(200:Int) < (l.E.length:Int):=by omega
  simp [m0V,o0w,b0,b1,lL,lE,h1,h1',h2,h2',h3,h3',h4,h4']
  intros;exact no (by unfold r0r;rw [decide_eq_false (by omega:¬ l.E.length<=200)];simp)
 have h4':¬ (200:Int) < (l.E.length:Int):=by omega
 by_cases h5:200 < l.V.length
 ·have h5':(200:Int) < (l.V.length:Int):=by omega
  simp [m0V,o0w,b0,b1,lL,lE,lV,h1,h1',h2,h2',h3,h3',h4,h4',h5,h5']
  intros;exact no (by unfold r0r;rw [decide_eq_false (by omega:¬ l.V.length<=200)];simp)
 have h5':¬ (200:Int) < (l.V.length:Int):=by omega
 have hlow:r0r l=true:=by
  unfold r0r
  simp only [M1W,N1s]
  exact ⟨⟨⟨⟨by omega,by omega⟩,by omega⟩,by omega⟩,by omega⟩
 simp [m0V,b0,b1,lL,lE,lV,h1,h1',h2,h2',h3,h3',h4,h4',h5,h5']
 simp [T0J,T0K,T0L,b0,lE]
 refine s0x (n:=l.E.length) (fun n ρ G=>ρ 1=.pointer (some ⟨H.size,0,none⟩)/\ρ 4=.int .i64 (l.ns:Int)/\ρ 5=.func (.func S0o) #[] #[.pointer (some ⟨P,0,none⟩)]/\ρ 6=.func (.func S0p) #[] #[]/\ρ 41=sE/\Ext H G/\a0c.bk G H.size=.row false a0Z [sL,sS,sE,sV]/\a0c.bk G P=.row false c0h [.int .i64 (l.nl:Int)]/\i0H (m0k l.nl l.ns) (l.E.take n)=true) rfl rfl (by decide) (by omega) (by simp) (by simp) ?_ ?_ ?_ ?_
 ·exact ⟨by simp,by simp,by simp,by simp,by simp,hx,b0,b1,d0H⟩
 ·intro i ρ ρ' G h hI;simpa [h] using hI
 ·clear h0 ρ hx b0 b1 G G1
  rintro n ρ G hlt gi gn ⟨g1,g4,g5,g6,g41,hx,b0,b1,hq⟩
  have k:=hE.mo o0k hx
  obtain ⟨cs,hw,hcl,sG,sT,sP,rfl,kG,kS,hPc,hPp⟩:=k.load hlt (by decide)
  have hge:=hgE _ (N1j hlt)
  obtain ⟨e,he⟩:∃ e,e=l.E[n]:=⟨_,rfl⟩
  have no:m0k l.nl l.ns e=false->d0j l=false:=fun h=>noE hlt (by rw [<- he];exact h)
  simp only [<- he] at hw kG kS hge
  have hsz:=hx.1
  simp [T0M,g41,gi,b0,k.ia hlt,hw,kG.cells,kS.cells,kG.plain,kS.plain,hPc,hPp,hsz]
  generalize hGG:Array.setIfInBounds (G.push _) _ _=G1
  obtain ⟨hx1,b2⟩:=F0C hGG
  clear hGG
  replace kG:=kG.mo b0j hx1
  replace kS:=kS.mo b0j hx1
  replace b0:=hx1.bk b0
  replace b1:=hx1.bk b1
  replace hx:=hx.trans hx1
  have lT:=kS.slen
  clear k hx1 hw
  obtain ⟨Q,hQ⟩:∃ Q,Q=G.size:=⟨_,rfl⟩
  rw [<- hQ] at b2 ⊢
  clear hQ hsz
  simp [T0N,b2,g5]
  refine (d0i (i:=e.f) b1 hx.1).mo ?_
  rintro _ G2 ⟨rfl,hx1⟩
  replace kG:=kG.mo b0j hx1
  replace kS:=kS.mo b0j hx1
  replace b0:=hx1.bk b0
  replace b1:=hx1.bk b1
  replace b2:=hx1.bk b2
  replace hx:=hx.trans hx1
  clear hx1
  cases q1:inB l.nl e.f
  case false =>
   simp [j0C]
   intros;exact no (by unfold m0k;rw [q1];simp)
  simp [b2,g5]
  refine (d0i (i:=e.t) b1 hx.1).mo ?_
  rintro _ G2 ⟨rfl,hx1⟩
  replace kG:=kG.mo b0j hx1
  replace kS:=kS.mo b0j hx1
  replace b0:=hx1.bk b0
  replace b1:=hx1.bk b1
  replace b2:=hx1.bk b2
  replace hx:=hx.trans hx1
  clear hx1
  cases q2:inB l.nl e.t
  case false =>
   simp [j0C]
   intros;exact no (by unfold m0k;rw [q2];simp)
  simp [b2,g6]
  refine (f0w (i:=e.e.m) hx.1).mo ?_
  rintro _ G2 ⟨rfl,hx1⟩
  replace kG:=kG.mo b0j hx1
  replace kS:=kS.mo b0j hx1
  replace b0:=hx1.bk b0
  replace b1:=hx1.bk b1
  replace b2:=hx1.bk b2
  replace hx:=hx.trans hx1
  clear hx1
  cases q3:l0F e.e.m
  case false =>
   simp [j0C]
   intros;exact no (by unfold m0k;rw [q3];simp)
  by_cases q7:e.e.set.length=l.ns
  case neg =>
   have q7':¬ (e.e.set.length:Int)=(l.ns:Int):=by omega
   simp [j0C,b2,g4,lT,q7,q7']
   intros;exact no (by unfold m0k;rw [decide_eq_false q7];simp)
  have q7':(e.e.set.length:Int)=(l.ns:Int):=by omega
  simp [b2,g4,lT,q7,q7']
  refine (e0Z kS hx.1 hge.okS (by have:=hge.2.2.2;omega)).mo ?_
  rintro _ G2 ⟨rfl,hx1⟩
  replace kG:=kG.mo b0j hx1
  replace kS:=kS.mo b0j hx1
  replace b0:=hx1.bk b0
  replace b1:=hx1.bk b1
  replace b2:=hx1.bk b2
  replace hx:=hx.trans hx1
  clear hx1
  cases hp2:f0s e.e.set l.ns e.e.m
  case false =>
   simp [j0C]
   intros;exact no (by unfold m0k;rw [hp2];simp)
  simp [b2,g4]
  refine (e0Z kG hx.1 hge.okG (by have:=hge.2.2.1;omega)).mo ?_
  rintro _ G2 ⟨rfl,hx1⟩
  replace kG:=kG.mo b0j hx1
  replace kS:=kS.mo b0j hx1
  replace b0:=hx1.bk b0
  replace b1:=hx1.bk b1
  replace b2:=hx1.bk b2
  replace hx:=hx.trans hx1
  clear hx1
  cases hp:f0s e.e.guards l.ns e.e.m
  case false =>
   simp [j0C]
   intros;exact no (by unfold m0k;rw [hp];simp)
  simp
  refine Rnd.mk (by simp [gi]) (by simp [gn]) ⟨by simp [g1],by simp [g4],by simp [g5],by simp [g6],by simp [g41],hx,b0,b1,?_⟩
  rw [c0K hlt,hq,<- he]
  unfold m0k
  rw [q1,q2,q3,decide_eq_true q7,hp,hp2];rfl
 ·clear h0 ρ hx b0 b1 G G1
  rintro ρ G gi gn ⟨g1,g4,g5,g6,g41,hx,b0,b1,hq⟩
  rw [N1f] at hq
  simp [E0i,g1,b0,lV]
  clear gi gn g41
  refine s0x (n:=l.V.length) (fun n ρ G=>ρ 1=.pointer (some ⟨H.size,0,none⟩)/\ρ 4=.int .i64 (l.ns:Int)/\ρ 5=.func (.func S0o) #[] #[.pointer (some ⟨P,0,none⟩)]/\ρ 6=.func (.func S0p) #[] #[]/\ρ 93=sV/\Ext H G/\a0c.bk G H.size=.row false a0Z [sL,sS,sE,sV]/\a0c.bk G P=.row false c0h [.int .i64 (l.nl:Int)]/\i0H (s0r l.nl l.ns) (l.V.take n)=true) rfl rfl (by decide) (by omega) (by simp) (by simp) ?_ ?_ ?_ ?_
  ·exact ⟨by simp [g1],by simp [g4],by simp [g5],by simp [g6],by simp,hx,b0,b1,d0H⟩
  ·intro i ρ ρ' G h hI;simpa [h] using hI
  ·clear g1 g4 g5 g6 hx b0 b1 ρ G
   rintro n ρ G hlt gi gn ⟨g1,g4,g5,g6,g93,hx,b0,b1,hr⟩
   have k:=hV.mo o0l hx
   obtain ⟨cs,hw,hcl,s,sG,rfl,kG⟩:=k.load hlt (by decide)
   obtain ⟨hge1,hge2⟩:=hgV _ (N1j hlt)
   obtain ⟨e,he⟩:∃ e,e=l.V[n]:=⟨_,rfl⟩
   have no:s0r l.nl l.ns e=false->d0j l=false:=fun h=>noV hlt (by rw [<- he];exact h)
   simp only [<- he] at hw kG hge1 hge2
   have hsz:=hx.1
   simp [E0j,g93,gi,b0,k.ia hlt,hw,kG.cells,kG.plain,hsz]
   generalize hGG:Array.setIfInBounds (G.push _) _ _=G1
   obtain ⟨hx1,b2⟩:=F0C hGG
   clear hGG
   replace kG:=kG.mo b0j hx1
   replace b0:=hx1.bk b0
   replace b1:=hx1.bk b1
   replace hx:=hx.trans hx1
   clear k hx1 hw
   obtain ⟨Q,hQ⟩:∃ Q,Q=G.size:=⟨_,rfl⟩
   rw [<- hQ] at b2 ⊢
   clear hQ hsz
   simp [E0k,b2,g5]
   refine (d0i (i:=e.l) b1 hx.1).mo ?_
   rintro _ G2 ⟨rfl,hx1⟩
   replace kG:=kG.mo b0j hx1
   replace b0:=hx1.bk b0
   replace b1:=hx1.bk b1
   replace b2:=hx1.bk b2
   replace hx:=hx.trans hx1
   clear hx1
   cases q1:inB l.nl e.l
   case false =>
    simp [q0g]
    intros;exact no (by unfold s0r;rw [q1];simp)
   simp [b2,g6]
   refine (f0w (i:=e.m) hx.1).mo ?_
   rintro _ G2 ⟨rfl,hx1⟩
   replace kG:=kG.mo b0j hx1
   replace b0:=hx1.bk b0
   replace b1:=hx1.bk b1
   replace b2:=hx1.bk b2
   replace hx:=hx.trans hx1
   clear hx1
   cases q3:l0F e.m
   case false =>
    simp [q0g]
    intros;exact no (by unfold s0r;rw [q3];simp)
   simp [b2,g4]
   refine (e0Z kG hx.1 (fun a ha=>(hge2 a ha).ok) (by omega)).mo ?_
   rintro _ G2 ⟨rfl,hx1⟩
   replace kG:=kG.mo b0j hx1
   replace b0:=hx1.bk b0
   replace b1:=hx1.bk b1
   replace b2:=hx1.bk b2
   replace hx:=hx.trans hx1
   clear hx1
   cases hp:f0s e.g l.ns e.m
   case false =>
    simp [q0g]
    intros;exact no (by unfold s0r;rw [hp];simp)
   simp
   refine Rnd.mk (by simp [gi]) (by simp [gn]) ⟨by simp [g1],by simp [g4],by simp [g5],by simp [g6],by simp [g93],hx,b0,b1,?_⟩
   rw [c0K hlt,hr,<- he]
   unfold s0r
   rw [q1,q3,hp];rfl
  ·clear g1 g4 g5 g6 hx b0 b1 ρ G
   rintro ρ G gi gn ⟨g1,g4,g5,g6,g93,hx,b0,b1,hr⟩
   rw [N1f] at hr
   simp [E0l]
   intros
   unfold d0j
   rw [hlow,hq,hr];rfl
structure u1F where
 d:Int
 th:List d0d
 n:Int
def F0H (H:a0c) (v:Value) (o:u1F):Prop:=∃ s,v=.agg #[.int .i64 o.d,s,.int .i64 o.n]/\f0H H s o.th
theorem F0H.mo {o:u1F} (h:F0H H v o) (hx:Ext H G):F0H G v o:=by obtain ⟨s,h1,h2⟩:=h;exact ⟨s,h1,h2.mo l0e hx⟩
theorem R0p {l:List d0d} {s:Value} {c:Nat} (h:f0H H s l):k0u (H.push (.row false b0E [s])) (.slice (some ⟨H.size,0,none⟩) 1 c) [l]:=by
 refine ⟨[s],⟨by simp,.inr ⟨H.size,0,c,false,[s],by simp,a0N,by simp,by simp⟩⟩,fun i hi=>?_⟩
 have:i=0:=by simpa using hi
 subst this
 exact ⟨s,by simp,h.mo l0e (Ext.refl H).push⟩
theorem q0z {o:u1F} (h:F0H H v o) (hf:fl<=H.size):b0k env fl v1z [v] H (fun r H'=>(∃ c,r=.bool c/\(c=false->H0j [o.th]))/\Ext H H') R:=by
 obtain ⟨s,rfl,hs⟩:=h
 refine a0i L1W hf (h:=?_)
 intro ρ h0
 simp [G1C,S0V,h0,hs.cells]
 generalize hG:H.push _=G
 obtain ⟨hx,b0⟩:=t0i hG
 clear hG
 have ks:=hs.mo l0e hx
 by_cases h1:6 < o.d <;> by_cases h2:o.d<=20 <;> by_cases h3:4 < o.n <;> by_cases h4:o.n<=20 <;> simp [S0W,b0,h1,h2,h3,h4,ks.cells,show u0M true undef=false from rfl] <;> first | exact hx | skip
 all_goals
  refine (l0W (R0p ks) (by simp;have:=hx.1;omega)).mo ?_
  rintro _ G3 ⟨⟨c,rfl,hr⟩,hx2⟩
  simp
  intro _
  cases c with
  | false=>exact .inl ⟨rfl,hr rfl⟩
  | true=>exact .inr rfl
end
section
structure G1W (E E':Env):Prop where
 code:E'.code=E.code
 quick:E.quick=none
 prim:∀ f args G n r,E.prim f args G n=some r->E'.prim f args G n=some r
theorem q0K {E E':Env} (hE:G1W E E'):∀ n,U0T (a0M E n) (a0M E' n)
 | 0=>fun _ _ _ _ _ _ h=>by simp [a0M] at h
 | n + 1=>fun fl fl' f args H hf h=>by
  have ih:=q0K hE n
  simp only [a0M,hE.code,hE.quick] at h ⊢
  split at h
  ·split at h
   ·rename_i v bs hp
    rw [hE.prim _ _ _ _ _ hp]
   ·exact N1i rfl h
  ·rename_i sf hsf
   try simp only
   split at h
   ·rename_i hl
    rw [M1Z hl];rw [M1Z hl]
    have h2:a0K (a0M E n) fl n sf.body (args ++ List.replicate (sf.nt - args.length) undef) H ≠ .bad:=by intro hb;rw [hb] at h;exact h rfl
    rw [a0O ih hf n n _ _ _ (M1U _) h2]
   ·exact N1i rfl h
theorem b0k.lift {E E':Env} (hE:G1W E E') {fl:Nat} {f:FuncId} {args:List Value} {H:a0c} {K:n0z} {R:a0P} (h:b0k E fl f args H K R):b0k E' fl f args H K R:=by
 obtain ⟨n,h⟩:=h
 refine ⟨n,?_⟩
 have hb:a0M E n fl f args H ≠ .bad:=fun hb=>by rw [hb] at h;exact h
 rw [q0K hE n fl fl f args H (M1U _) hb]
 exact h
def w1v (f:FuncId):List Value->(Nat->Blk)->Nat->Option (Value × List Blk)
 | [],_,_=>if f=x0R then some (.bool true,[]) else none
 | _ :: _,_,_=>none
def v0h:Env:=⟨env.code,none,w1v⟩
theorem p0e:G1W env v0h where
 code:=rfl
 quick:=rfl
 prim f args G n r h:=by cases h
variable {fl:Nat} {H:a0c} {R:a0P}
theorem d0u:b0k v0h fl x0R [] H (fun r H'=>r=.bool true/\Ext H H') R:=by
 refine ⟨1,?_⟩
 have e:a0M v0h 1 fl x0R [] H=.ok (.bool true,H):=rfl
 rw [e]
 exact ⟨rfl,Ext.refl H⟩
end
section
variable {fl:Nat} {H G:a0c} {R:a0P} {v w u:Value}
theorem r0v {n:Int} (hf:fl<=H.size):b0k env fl V0T [.int .i64 n] H (fun r H'=>r=.int .i64 n/\Ext H H') R:=by
 refine a0i L1T hf (h:=?_)
 intro ρ h0
 simp [C1u,S0I,S0J,h0]
theorem f0H.short {l:List d0d} (h:f0H H v l) (k:j0J j0v l=false):Few 6 l:=by
 intro y hy
 obtain ⟨i,hi,rfl⟩:=P1d hy
 obtain ⟨w,_,s,t,_,h1,h2⟩:=f0H.load h hi
 have h3:=List.any_eq_false.1 k _ hy
 unfold j0v at h3
 simp at h3
 exact ⟨by unfold n0F;omega,h1.ok,h2.ok⟩
def v1N (rows:List (List d0d)):Prop:=(∀ r ∈ rows,Few 6 r/\r.length < 1073741824)/\rows.length<=200
theorem k0u.short {l:List (List d0d)} (h:k0u H v l) (k:H0j l):v1N l:=by
 refine ⟨fun r hr=>?_,k.1⟩
 have hk2:=k.2 r hr
 obtain ⟨i,hi,rfl⟩:=P1d hr
 obtain ⟨w,_,hk⟩:=k0u.load h hi
 exact ⟨f0H.short hk hk2.2,by omega⟩
theorem g0O {l:u0R} {rows:List (List d0d)} {o:u1F} (h:x0P H v l) (ht:k0X H w rows) (ho:F0H H u o) (hf:fl<=H.size) (hg:p0d l) (hr:v1N rows)
  (hn:(d0j l && o0y rows (l.ns:Int))=false):b0k env fl W0E [v,w,u] H (fun r H'=>r=.tuple #[.slice none 0 0,.int .i64 0,.int .i64 1]/\Ext H H') R:=by
 obtain ⟨cs,rfl,sL,sS,sE,sV,rfl,hL,hS,hE,hV⟩:=h
 obtain ⟨s,rfl,hs⟩:=ht
 obtain ⟨t,rfl,hT⟩:=ho
 refine a0i L1Z hf (h:=?_)
 intro ρ h0
 simp [D1Z,T0k,h0,hL.2.1,hS.2.1,hE.cells,hV.cells,hs.cells,hT.cells]
 generalize hGG:((H.push _).push _).push _=G
 have hx:Ext H G:=by rw [<- hGG];exact (Ext.refl H).push.push.push
 have b0:a0c.bk G H.size=.row false a0Z [sL,sS,sE,sV]:=by rw [<- hGG];simp
 have b1:a0c.bk G (H.size + 1)=.row false a0w [s]:=by rw [<- hGG];simp
 have b2:a0c.bk G (H.size + 2)=.row false c0G [.int .i64 o.d,t,.int .i64 o.n]:=by rw [<- hGG];simp
 clear hGG
 have lowV:∀ G,Ext H G->x0P G (.agg #[sL,sS,sE,sV]) l:=fun G hx=>⟨[sL,sS,sE,sV],rfl,sL,sS,sE,sV,rfl,hL,hS,hE.mo o0k hx,hV.mo o0l hx⟩
 have tempV:∀ G,Ext H G->k0X G (.agg #[s]) rows:=fun G hx=>⟨s,rfl,hs.mo j0V hx⟩
 have lS:=hS.1
 simp [T0l,b0]
 refine (l0y (lowV _ hx) hg hx.1).mo ?_
 rintro _ G2 ⟨rfl,hx2⟩
 replace b0:=hx2.bk b0
 replace b1:=hx2.bk b1
 replace hx:=hx.trans hx2
 clear hx2
 cases h1:d0j l
 ·simp [D0T]
 rw [h1,O1H] at hn
 simp [b0,b1,lS]
 refine (l0D (n:=(l.ns:Int)) (tempV _ hx) (by have:=hx.1;omega) (by decide:6 < 67108864) hr.1 (by have:=hr.2;omega)).mo ?_
 rintro _ G3 ⟨rfl,hx2⟩
 replace hx:=hx.trans hx2
 rw [hn]
 simp [D0T]
theorem l0Y {l:u0R} {rows:List (List d0d)} {o:u1F} (h:x0P H v l) (ht:k0X H w rows) (ho:F0H H u o) (hf:fl<=H.size) :
  b0k v0h fl f_5 [v,w,u] H (fun r H'=>r=.bool true/\Ext H H') R:=by
 obtain ⟨cs,rfl,sL,sS,sE,sV,rfl,hL,hS,hE,hV⟩:=h
 obtain ⟨s,rfl,hs⟩:=ht
 obtain ⟨t,rfl,hT⟩:=ho
 refine a0i (E:=v0h) (show v0h.code f_5=some s_5 from e_5) hf (h:=?_)
 intro ρ h0
 simp [s_5,z1k,h0,hL.2.1,hS.2.1,hE.cells,hV.cells,hs.cells,hT.cells]
 generalize hGG:((H.push _).push _).push _=G
 have hx:Ext H G:=by rw [<- hGG];exact (Ext.refl H).push.push.push
 have b0:a0c.bk G H.size=.row false a0Z [sL,sS,sE,sV]:=by rw [<- hGG];simp
 have b1:a0c.bk G (H.size + 1)=.row false a0w [s]:=by rw [<- hGG];simp
 have b2:a0c.bk G (H.size + 2)=.row false c0G [.int .i64 o.d,t,.int .i64 o.n]:=by rw [<- hGG];simp
 clear hGG
 have lowV:∀ G,Ext H G->x0P G (.agg #[sL,sS,sE,sV]) l:=fun G hx=>⟨[sL,sS,sE,sV],rfl,sL,sS,sE,sV,rfl,hL,hS,hE.mo o0k hx,hV.mo o0l hx⟩
 have tempV:∀ G,Ext H G->k0X G (.agg #[s]) rows:=fun G hx=>⟨s,rfl,hs.mo j0V hx⟩
 have optV:∀ G,Ext H G->F0H G (.agg #[.int .i64 o.d,t,.int .i64 o.n]) o:=fun G hx=>⟨t,rfl,hT.mo l0e hx⟩
 have lS:=hS.1
 simp [z1l,b0]
 refine (b0k.lift p0e (o0M (lowV _ hx) hx.1)).mo ?_
 rintro _ G2 ⟨⟨c,rfl,hg⟩,hx2⟩
 replace b0:=hx2.bk b0
 replace b1:=hx2.bk b1
 replace b2:=hx2.bk b2
 replace hx:=hx.trans hx2
 clear hx2
 cases c
 case true =>
  simp [R0j]
  refine d0u.mo ?_
  rintro _ GA ⟨rfl,hxA⟩
  simp
 replace hg:=hg rfl
 simp [b1]
 refine (b0k.lift p0e (l0W (hs.mo j0V hx) hx.1)).mo ?_
 rintro _ G3 ⟨⟨c,rfl,hr⟩,hx2⟩
 replace b0:=hx2.bk b0
 replace b1:=hx2.bk b1
 replace b2:=hx2.bk b2
 replace hx:=hx.trans hx2
 clear hx2
 cases c
 case true =>
  simp [R0j]
  refine d0u.mo ?_
  rintro _ GA ⟨rfl,hxA⟩
  simp
 replace hr:=hs.short (hr rfl)
 simp [b2]
 refine (b0k.lift p0e (q0z (optV _ hx) hx.1)).mo ?_
 rintro _ G4 ⟨⟨c,rfl,_⟩,hx2⟩
 replace b0:=hx2.bk b0
 replace b1:=hx2.bk b1
 replace b2:=hx2.bk b2
 replace hx:=hx.trans hx2
 clear hx2
 cases c
 case true =>
  simp [R0j]
  refine d0u.mo ?_
  rintro _ GA ⟨rfl,hxA⟩
  simp
 simp [z1m,b0]
 refine (b0k.lift p0e (n0N (lowV _ hx) hg hx.1)).mo ?_
 rintro _ G5 ⟨rfl,hx2⟩
 replace b0:=hx2.bk b0
 replace b1:=hx2.bk b1
 replace b2:=hx2.bk b2
 replace hx:=hx.trans hx2
 clear hx2
 cases h1:d0j l
 ·simp [s1i,b0,b1,b2]
  refine (b0k.lift p0e (g0O (lowV _ hx) (tempV _ hx) (optV _ hx) hx.1 hg hr (by rw [h1];rfl))).mo ?_
  rintro _ G6 ⟨rfl,hx2⟩
  replace b0:=hx2.bk b0
  replace b1:=hx2.bk b1
  replace b2:=hx2.bk b2
  replace hx:=hx.trans hx2
  clear hx2
  simp [s1j]
  refine (b0k.lift p0e (r0v (n:=1) hx.1)).mo ?_
  rintro _ G7 ⟨rfl,hx2⟩
  replace b0:=hx2.bk b0
  replace b1:=hx2.bk b1
  replace b2:=hx2.bk b2
  replace hx:=hx.trans hx2
  clear hx2
  simp [show i0q (.slice none 0 0)=some (.int .i64 0) from rfl]
  refine d0u.mo ?_
  rintro _ GA ⟨rfl,hxA⟩
  simp
 simp [b0,b1,lS]
 refine (b0k.lift p0e (n0O (n:=(l.ns:Int)) (tempV _ hx) (by have:=hx.1;omega) (by decide:6 < 67108864) hr.1 (by have:=hr.2;omega))).mo ?_
 rintro _ G6 ⟨rfl,hx2⟩
 replace b0:=hx2.bk b0
 replace b1:=hx2.bk b1
 replace b2:=hx2.bk b2
 replace hx:=hx.trans hx2
 clear hx2
 cases h2:o0y rows (l.ns:Int)
 ·simp [s1i,b0,b1,b2]
  refine (b0k.lift p0e (g0O (lowV _ hx) (tempV _ hx) (optV _ hx) hx.1 hg hr (by rw [h1,h2];rfl))).mo ?_
  rintro _ G6 ⟨rfl,hx2⟩
  replace b0:=hx2.bk b0
  replace b1:=hx2.bk b1
  replace b2:=hx2.bk b2
  replace hx:=hx.trans hx2
  clear hx2
  simp [s1j]
  refine (b0k.lift p0e (r0v (n:=1) hx.1)).mo ?_
  rintro _ G7 ⟨rfl,hx2⟩
  replace b0:=hx2.bk b0
  replace b1:=hx2.bk b1
  replace b2:=hx2.bk b2
  replace hx:=hx.trans hx2
  clear hx2
  simp [show i0q (.slice none 0 0)=some (.int .i64 0) from rfl]
  refine d0u.mo ?_
  rintro _ GA ⟨rfl,hxA⟩
  simp
 ·simp [z1n]
  refine d0u.mo ?_
  rintro _ GA ⟨rfl,hxA⟩
  simp
end
section
variable {H:a0c} {v:Value} {m:Nat} {cs:List Value} {P:Program}
structure h0H (P:Program):Prop where
 t:m0a P
 u78:∃ f g h:Field,P.underlying 166=some (.struct #[f,g,h])/\f.type=164/\g.type=164/\h.type=61
 u76:P.underlying 164=some (.slice 61)
 u49:P.underlying 95=some (.slice 166)
 u50:P.underlying 96=some (.slice 4)
 u52:∃ a b c d e f:Field,P.underlying 98=some (.struct #[a,b,c,d,e,f])/\a.type=3/\b.type=3/\c.type=3/\d.type=95/\e.type=95/\f.type=96
 u24:P.underlying 24=some (.slice 98)
 u55:∃ a b c d:Field,P.underlying 101=some (.struct #[a,b,c,d])/\a.type=3/\b.type=3/\c.type=3/\d.type=95
 u25:P.underlying 25=some (.slice 101)
 u22:P.underlying 22=some (.slice 79)
 u23:P.underlying 23=some (.slice 9)
 u27:∃ a b c d:Field,P.underlying 27=some (.struct #[a,b,c,d])/\a.type=22/\b.type=23/\c.type=24/\d.type=25
 u31:P.underlying 35=some (.slice 42)
 c44:P.cellsOf 61=2
 c78:P.cellsOf 166=4
 c52:P.cellsOf 98=6
 c55:P.cellsOf 101=4
 c36:P.cellsOf 42=1
theorem g0f {t e:TypeId} (hu:P.underlying t=some (.slice e)) (h:IsT P H (m + 1) t cs):∃ v,cs=[v]/\a0t v=[v]/\a0n v=true:=by
 unfold IsT at h
 rw [hu] at h
 rcases h with h | ⟨b,len,cap,cells,h,_⟩ <;> exact ⟨_,h,rfl,rfl⟩
theorem v1T {t e:TypeId} (hu:P.underlying t=some (.slice e)) (h:IsT P H (m + 1) t cs):∃ v n,cs=[v]/\G1V v n:=by
 unfold IsT at h
 rw [hu] at h
 rcases h with h | ⟨b,len,cap,cells,h,_⟩
 ·exact ⟨_,0,h,rfl,rfl,rfl⟩
 ·exact ⟨_,len,h,rfl,rfl,rfl⟩
theorem S0s (hP:h0H P) (h:IsT P H (m + 4) 164 [v]):∃ l,f0W H v l:=t0c hP.u76 hP.c44 (fun cs _ h=>by
 obtain ⟨b,s,l,rfl,hl⟩:=H0l hP.t h
 exact ⟨(b,l),s,rfl,hl⟩) h
theorem J1C (hP:h0H P) (h:IsT P H (m + 5) 166 cs):∃ a,F0x H (.agg cs.toArray) a:=by
 obtain ⟨f,g,k,hu,h1,h2,h3⟩:=hP.u78
 unfold IsT at h
 rw [hu] at h
 obtain ⟨parts,rfl,hl,hp⟩:=h
 obtain ⟨p,q,r,rfl⟩:∃ p q r,parts=[p,q,r]:=by
  match parts,hl with
  | [p,q,r],_=>exact ⟨p,q,r,rfl⟩
 have h1':IsT P H (m + 4) 164 p:=by simpa [h1] using hp 0 _ rfl
 have h2':IsT P H (m + 4) 164 q:=by simpa [h2] using hp 1 _ rfl
 obtain ⟨sX,rfl,_⟩:=g0f hP.u76 h1'
 obtain ⟨sW,rfl,_⟩:=g0f hP.u76 h2'
 obtain ⟨X,hX⟩:=S0s hP h1'
 obtain ⟨W,hW⟩:=S0s hP h2'
 obtain ⟨b,s,l,rfl,hs⟩:=H0l (m:=m + 1) hP.t (by simpa [h3] using hp 2 _ rfl)
 exact ⟨⟨X,W,(b,l)⟩,sX,sW,s,rfl,hX,hW,hs⟩
theorem z0g (hP:h0H P) (h:IsT P H (m + 6) 95 [v]):∃ l,j0k H v l:=t0c hP.u49 hP.c78 (fun _ _ h=>J1C hP h) h
theorem M1z (hP:h0H P) (h:IsT P H (m + 7) 98 cs):∃ x,EdV H cs x:=by
 obtain ⟨a,b,c,d,e,f,hu,h1,h2,h3,h4,h5,h6⟩:=hP.u52
 unfold IsT at h
 rw [hu] at h
 obtain ⟨parts,rfl,hl,hp⟩:=h
 obtain ⟨p1,p2,p3,p4,p5,p6,rfl⟩:∃ p1 p2 p3 p4 p5 p6,parts=[p1,p2,p3,p4,p5,p6]:=by
  match parts,hl with
  | [p1,p2,p3,p4,p5,p6],_=>exact ⟨p1,p2,p3,p4,p5,p6,rfl⟩
 obtain ⟨n1,rfl⟩:=h0S (m:=m + 5) hP.t (by simpa [h1] using hp 0 _ rfl)
 obtain ⟨n2,rfl⟩:=h0S (m:=m + 5) hP.t (by simpa [h2] using hp 1 _ rfl)
 obtain ⟨n3,rfl⟩:=h0S (m:=m + 5) hP.t (by simpa [h3] using hp 2 _ rfl)
 have h4':IsT P H (m + 6) 95 p4:=by simpa [h4] using hp 3 _ rfl
 have h5':IsT P H (m + 6) 95 p5:=by simpa [h5] using hp 4 _ rfl
 have h6':IsT P H (m + 6) 96 p6:=by simpa [h6] using hp 5 _ rfl
 obtain ⟨sG,rfl,_⟩:=g0f hP.u49 h4'
 obtain ⟨sS,rfl,_⟩:=g0f hP.u49 h5'
 obtain ⟨sP,rfl,hPc,hPp⟩:=g0f hP.u50 h6'
 obtain ⟨G,hG⟩:=z0g hP h4'
 obtain ⟨S,hS⟩:=z0g hP h5'
 exact ⟨⟨n1,n2,⟨n3,G,S⟩⟩,sG,sS,sP,rfl,hG,hS,hPc,hPp⟩
theorem M1A (hP:h0H P) (h:IsT P H (m + 7) 101 cs):∃ x,ViV H cs x:=by
 obtain ⟨a,b,c,d,hu,h1,h2,h3,h4⟩:=hP.u55
 unfold IsT at h
 rw [hu] at h
 obtain ⟨parts,rfl,hl,hp⟩:=h
 obtain ⟨p1,p2,p3,p4,rfl⟩:∃ p1 p2 p3 p4,parts=[p1,p2,p3,p4]:=by
  match parts,hl with
  | [p1,p2,p3,p4],_=>exact ⟨p1,p2,p3,p4,rfl⟩
 obtain ⟨n1,rfl⟩:=h0S (m:=m + 5) hP.t (by simpa [h1] using hp 0 _ rfl)
 obtain ⟨n2,rfl⟩:=h0S (m:=m + 5) hP.t (by simpa [h2] using hp 1 _ rfl)
 obtain ⟨n3,rfl⟩:=h0S (m:=m + 5) hP.t (by simpa [h3] using hp 2 _ rfl)
 have h4':IsT P H (m + 6) 95 p4:=by simpa [h4] using hp 3 _ rfl
 obtain ⟨sG,rfl,_⟩:=g0f hP.u49 h4'
 obtain ⟨G,hG⟩:=z0g hP h4'
 exact ⟨⟨n1,n3,G⟩,n2,sG,rfl,hG⟩
theorem u1Y (hP:h0H P) (h:IsV P H (m + 9) 27 v):∃ l,x0P H v l:=by
 obtain ⟨a,b,c,d,hu,h1,h2,h3,h4⟩:=hP.u27
 unfold IsV at h;rw [hu] at h
 obtain ⟨cs,rfl,h⟩:=h
 unfold IsT at h
 rw [hu] at h
 obtain ⟨parts,hc,hl,hp⟩:=h
 obtain ⟨p1,p2,p3,p4,rfl⟩:∃ p1 p2 p3 p4,parts=[p1,p2,p3,p4]:=by
  match parts,hl with
  | [p1,p2,p3,p4],_=>exact ⟨p1,p2,p3,p4,rfl⟩
 have h1':IsT P H (m + 8) 22 p1:=by simpa [h1] using hp 0 _ rfl
 have h2':IsT P H (m + 8) 23 p2:=by simpa [h2] using hp 1 _ rfl
 have h3':IsT P H (m + 8) 24 p3:=by simpa [h3] using hp 2 _ rfl
 have h4':IsT P H (m + 8) 25 p4:=by simpa [h4] using hp 3 _ rfl
 obtain ⟨sL,nl,rfl,hL⟩:=v1T hP.u22 h1'
 obtain ⟨sS,ns,rfl,hS⟩:=v1T hP.u23 h2'
 obtain ⟨sE,rfl,_⟩:=g0f hP.u24 h3'
 obtain ⟨sV,rfl,_⟩:=g0f hP.u25 h4'
 obtain ⟨E,hE⟩:=t0c (P:=EdV) hP.u24 hP.c52 (fun _ _ h=>M1z hP h) h3'
 obtain ⟨V,hV⟩:=t0c (P:=ViV) hP.u25 hP.c55 (fun _ _ h=>M1A hP h) h4'
 have:cs = #[sL,sS,sE,sV]:=by rw [<- O1K];simpa using hc
 exact ⟨⟨nl,ns,E,V⟩,[sL,sS,sE,sV],by rw [this],sL,sS,sE,sV,rfl,hL,hS,hE,hV⟩
theorem t1S:h0H Tryz.prog where
 t:=types
 u78:=⟨_,_,_,Tryz.underlying166,rfl,rfl,rfl⟩
 u76:=Tryz.underlying164
 u49:=Tryz.underlying95
 u50:=by kernel_rfl
 u52:=⟨_,_,_,_,_,_,Tryz.underlying98,rfl,rfl,rfl,rfl,rfl,rfl⟩
 u24:=Tryz.underlying24
 u55:=⟨_,_,_,_,Tryz.underlying101,rfl,rfl,rfl,rfl⟩
 u25:=Tryz.underlying25
 u22:=Tryz.underlying22
 u23:=Tryz.underlying23
 u27:=⟨_,_,_,_,Tryz.underlying27,rfl,rfl,rfl,rfl⟩
 u31:=Tryz.underlying35
 c44:=by kernel_rfl
 c78:=by kernel_rfl
 c52:=by kernel_rfl
 c55:=by kernel_rfl
 c36:=by kernel_rfl
structure s0v (P:Program):Prop where
 t:h0H P
 u48:∃ f g h:Field,P.underlying 48=some (.struct #[f,g,h])/\f.type=3/\g.type=46/\h.type=3
 u46:P.underlying 46=some (.slice 63)
theorem u1Z (hP:s0v P) (h:IsV P H (m + 6) 48 v):∃ o,F0H H v o:=by
 obtain ⟨f,g,k,hu,h1,h2,h3⟩:=hP.u48
 unfold IsV at h;rw [hu] at h
 obtain ⟨cs,rfl,h⟩:=h
 unfold IsT at h
 rw [hu] at h
 obtain ⟨parts,hc,hl,hp⟩:=h
 obtain ⟨p,q,r,rfl⟩:∃ p q r,parts=[p,q,r]:=by
  match parts,hl with
  | [p,q,r],_=>exact ⟨p,q,r,rfl⟩
 obtain ⟨n1,rfl⟩:=h0S (m:=m + 4) hP.t.t (by simpa [h1] using hp 0 _ rfl)
 have h2':IsT P H (m + 5) 46 q:=by simpa [h2] using hp 1 _ rfl
 obtain ⟨n3,rfl⟩:=h0S (m:=m + 4) hP.t.t (by simpa [h3] using hp 2 _ rfl)
 obtain ⟨s,rfl,_⟩:=g0f hP.u46 h2'
 obtain ⟨l,hl⟩:=S0t hP.t.t h2'
 have:cs = #[.int .i64 n1,s,.int .i64 n3]:=by rw [<- O1K];simpa using hc
 exact ⟨⟨n1,l,n3⟩,s,by rw [this],hl⟩
theorem t0b (hP:s0v P) {vs:List Value} (h:F0G P H 12 [27,33,48] vs):∃ u v w l rows o,vs=[u,v,w]/\x0P H u l/\k0X H v rows/\F0H H w o:=by
 match vs,h with
 | [u,v,w],⟨h1,h2,h3,_⟩ =>
  obtain ⟨l,hl⟩:=u1Y (m:=3) hP.t h1
  obtain ⟨t,ht⟩:=F0T (m:=5) hP.t.t h2
  obtain ⟨o,ho⟩:=u1Z (m:=6) hP h3
  exact ⟨u,v,w,l,t,o,rfl,hl,ht,ho⟩
theorem t1T:s0v Tryz.prog where
 t:=t1S
 u48:=⟨_,_,_,Tryz.underlying48,rfl,rfl,rfl⟩
 u46:=Tryz.underlying46
end
section
def o0e:List Value->Option (List Nat)
 | []=>some []
 | v :: r=>match v with
  | .int .u32 (.ofNat x)=>cond (Nat.blt x 4294967296) (match o0e r with | some l=>some (x :: l) | none=>none) none
  | _=>none
theorem r0o:∀ {cs:List Value} {l:List Nat},o0e cs=some l->cs=b0C l/\∀ x ∈ l,x < 4294967296
 | [],l,h=>by simp [o0e] at h;subst h;simp [b0C]
 | v :: r,l,h=>by
  unfold o0e at h
  split at h
  ·rename_i x
   cases hb:Nat.blt x 4294967296 with
   | false=>rw [hb] at h;cases h
   | true =>
    rw [hb] at h
    simp only [cond_true] at h
    cases hr:o0e r with
    | none=>rw [hr] at h;cases h
    | some l' =>
     rw [hr] at h
     simp only [M1Q] at h
     subst h
     obtain ⟨h1,h2⟩:=r0o hr
     subst h1
     refine ⟨rfl,fun y hy=>?_⟩
     rcases O1W.1 hy with rfl | hy
     ·simpa using hb
     ·exact h2 y hy
  ·cases h
def rdL (G:Nat->Blk):Value->Option (List Nat)
 | .slice none 0 0=>some []
 | .slice (some ⟨b,off,none⟩) n _ =>
  match G b with
  | .row _ e cs=>cond (and (Nat.beq e a0b) (and (Nat.ble (Nat.add off n) cs.length) (Nat.ble n 60000000))) (o0e ((cs.drop off).take n)) none
  | .dead=>none
 | _=>none
theorem r0X {H:a0c} {v:Value} {l:List Nat} (h:rdL H.bk v=some l):Lim H v l/\l.length<=60000000:=by
 unfold rdL at h
 split at h
 ·simp only [M1Q] at h;subst h;exact ⟨Lim.nil,by simp⟩
 ·rename_i b off n cap
  split at h
  ·rename_i ro e cs hb
   cases hc:and (Nat.beq e a0b) (and (Nat.ble (Nat.add off n) cs.length) (Nat.ble n 60000000)) with
   | false=>rw [hc] at h;cases h
   | true =>
    rw [hc] at h
    simp only [M1W,Nat.beq_eq,Nat.ble_eq,Nat.add_eq] at hc
    obtain ⟨rfl,h1,h2⟩:=hc
    simp only [cond_true] at h
    obtain ⟨h3,h4⟩:=r0o h
    have hl:l.length=n:=by
     have:=congrArg List.length h3
     simp at this;omega
    refine ⟨⟨⟨by simp,.inr ⟨b,off,cap,ro,cs,by rw [hl],hb,by omega,by rw [<- h3,hl,N1W]⟩⟩,h4⟩,by omega⟩
  ·cases h
 ·cases h
def rdI (G:Nat->Blk):Value->Option (Bool × List Nat)
 | .agg a=>match a.toList with
  | [.bool s,sl]=>match rdL G sl with | some l=>some (s,l) | none=>none
  | _=>none
 | _=>none
theorem e0A {H:a0c} {v:Value} {i:Bool × List Nat} (h:rdI H.bk v=some i):c0m H v i/\i.2.length<=60000000:=by
 unfold rdI at h
 split at h
 ·rename_i a
  split at h
  ·rename_i s sl ha
   cases hl:rdL H.bk sl with
   | none=>rw [hl] at h;cases h
   | some l =>
    rw [hl] at h
    simp only [M1Q] at h
    subst h
    obtain ⟨h1,h2⟩:=r0X hl
    refine ⟨⟨sl,?_,h1⟩,h2⟩
    obtain ⟨a⟩:=a
    simp only at ha
    subst ha;rfl
  ·cases h
 ·cases h
def rdR (G:Nat->Blk):Value->Option d0d
 | .agg a=>match a.toList with
  | [.bool s,sl,.bool s',sl']=>match rdL G sl,rdL G sl' with | some l,some l'=>some ((s,l),(s',l')) | _,_=>none
  | _=>none
 | _=>none
theorem r0Y {H:a0c} {v:Value} {i:d0d} (h:rdR H.bk v=some i):j0o H v i/\n0F i<=60000000:=by
 unfold rdR at h
 split at h
 ·rename_i a
  split at h
  ·rename_i s sl s' sl' ha
   split at h
   ·rename_i l l' hl hl'
    simp only [M1Q] at h
    subst h
    obtain ⟨h1,h2⟩:=r0X hl
    obtain ⟨h3,h4⟩:=r0X hl'
    refine ⟨⟨sl,sl',?_,h1,h3⟩,by unfold n0F;simp only;omega⟩
    obtain ⟨a⟩:=a
    simp only at ha
    subst ha;rfl
   ·cases h
  ·cases h
 ·cases h
def rdE (G:Nat->Blk):Value->Option o0N
 | .agg a=>match a.toList with
  | [.int .i64 e,.bool s,sl,.bool s',sl']=>match rdL G sl,rdL G sl' with | some l,some l'=>some (e,((s,l),(s',l'))) | _,_=>none
  | _=>none
 | _=>none
theorem B1W {H:a0c} {v:Value} {i:o0N} (h:rdE H.bk v=some i):q0v H v i/\n0F i.2<=60000000:=by
 unfold rdE at h
 split at h
 ·rename_i a
  split at h
  ·rename_i e s sl s' sl' ha
   split at h
   ·rename_i l l' hl hl'
    simp only [M1Q] at h
    subst h
    obtain ⟨h1,h2⟩:=r0X hl
    obtain ⟨h3,h4⟩:=r0X hl'
    refine ⟨⟨sl,sl',?_,h1,h3⟩,by unfold n0F;simp only;omega⟩
    obtain ⟨a⟩:=a
    simp only at ha
    subst ha;rfl
   ·cases h
  ·cases h
 ·cases h
def u1i:Nat->Nat->List Nat
 | 0,_=>[]
 | k + 1,n=>cond (Nat.beq n 0) [] (Nat.mod n 4294967296 :: u1i k (Nat.div n 4294967296))
theorem y0t:∀ {k n:Nat},n < 4294967296 ^ k->u1i k n=a0l n
 | 0,n,h=>by
  have:n=0:=by simpa using h
  subst this;simp [u1i,a0G]
 | k + 1,n,h=>by
  by_cases hn:n=0
  ·subst hn;simp [u1i,a0G]
  ·have e:Nat.beq n 0=false:=by
    cases hb:Nat.beq n 0 with
    | false=>rfl
    | true=>exact N1i (Nat.eq_of_beq_eq_true hb) hn
   rw [c0X hn,u1i,e,cond_false]
   have:n / 4294967296 < 4294967296 ^ k:=by
    rw [O1b (by omega)]
    rwa [N1m] at h
   rw [show Nat.div n 4294967296=n / 4294967296 from rfl,y0t this];rfl
def F1W (n:Nat):List Nat:=u1i (Nat.add (Nat.div (Nat.log2 n) 32) 1) n
theorem y0s (n:Nat):F1W n=a0l n:=by
 unfold F1W
 refine y0t ?_
 have h1:n < 2 ^ (Nat.log2 n + 1):=Nat.lt_log2_self
 have h2:(4294967296:Nat) ^ (Nat.add (Nat.div (Nat.log2 n) 32) 1)=2 ^ (32 * (Nat.log2 n / 32 + 1)):=by
  rw [Nat.pow_mul];rfl
 rw [h2]
 refine N1k h1 (O1E (by omega) ?_)
 have:=O1t (Nat.log2 n) 32
 have:=N1R (Nat.log2 n) (show 0 < 32 by omega)
 omega
def y0l:Int->Bool × List Nat
 | .ofNat n=>(false,F1W n)
 | .negSucc n=>(true,F1W (Nat.add n 1))
theorem h0L (z:Int):y0l z=a0J z:=by
 cases z with
 | ofNat n=>simp [y0l,a0J,y0s]
 | negSucc n=>simp [y0l,a0J,y0s]
def v0v (m:Nat) (i:Bool × List Nat):Value × List Blk :=
 match i.2 with
 | []=>(.agg #[.bool i.1,.slice none 0 0],[])
 | x :: l=>(.agg #[.bool i.1,.slice (some ⟨m,0,none⟩) (Nat.add l.length 1) unk],[.row false a0b (b0C (x :: l))])
def cpI (i:Bool × List Nat):Value × n0A :=
 match i.2 with
 | []=>(.agg #[.bool i.1,.slice none 0 0],[])
 | x :: l=>(.agg #[.bool i.1,.slice (some ⟨0,0,none⟩) (l.length + 1) unk],[(a0b,b0C (x :: l))])
theorem F0r (m:Nat) (l:List Nat):(b0C l).map (shC m)=b0C l:=by simp [b0C,shC]
theorem X0o (m:Nat) (i:Bool × List Nat):v0v m i=(shV m (cpI i).1,c0L false m (cpI i).2):=by
 obtain ⟨s,l⟩:=i
 cases l with
 | nil=>simp [v0v,cpI,shV,shA,shC,c0L]
 | cons x l =>
  simp only [v0v,cpI,shV,shA,c0L,O1o,List.map_nil,F0r,shC]
  rfl
