/- Part 8 of the proof: AiRefA3, AiRefA4, AiRefA5, AiRefA6, AiRefA7, AiRefA8, AiRefA9, AiRefB1, AiRefB2, AiRefB3, AiRefB4, AiRefB9, AiRefC3, AiRefB5, AiRefB6, AiRefB7, AiRefB8, AiRefC1, AiRefC2. -/
import Derived.Test.YtjlohmnnldbjoaaGreatM06
set_option linter.unusedVariables false
set_option linter.unusedSimpArgs false
set_option linter.unusedSectionVars false
namespace Go.Proofs.YtjlohmnnldbjoaaGreat.AI
section
open Go
set_option maxHeartbeats 4000000
variable {fl:Nat} {H G:a0f} {R:a0E} {v w:Value} {a b:List Nat}
theorem N0e {x c:Nat} (hx:x < 4294967296) (h2:x % 2=0) (hc:c≤1):d0a 0 .or (.int .u32 (x:Int)) (.int .u32 (c:Int))=some (.int .u32 ((x + c:Nat):Int)):=by
 rw [j0S]
 have e1:(BitVec.ofInt IntKind.u32.bits (x:Int) ||| BitVec.ofInt IntKind.u32.bits (c:Int)).toNat=x + c:=by
  show (BitVec.ofInt 32 (x:Int) ||| BitVec.ofInt 32 (c:Int)).toNat=x + c
  rw [BitVec.toNat_or,h1M,h1M]
  have e2:((x:Int) % (2 ^ 32:Nat)).toNat=x:=by omega
  have e3:((c:Int) % (2 ^ 32:Nat)).toNat=c:=by omega
  rw [e2,e3]
  have:=h1G (i:=1) (b:=c) (by omega) (x / 2)
  have e4:2 ^ 1 * (x / 2)=x:=by omega
  rw [e4] at this
  exact this.symm
 rw [e1,r0c]
 congr 3
 omega
theorem n0Q {o:Bool} (ha:Lim H v a) (hf:fl≤H.size) (hna:a.length < 1073741822) :
  a0U env fl z0X [v,.bool o] H (fun r H'=>(Lim H' r (a0p (2 * a0w a + o.toNat))∧newB H r)∧Ext H H') R:=by
 refine a0i c1S hf (h:=?_)
 intro ρ h0
 simp [M0d,G0w,G0x,G0y,G0z,h0]
 cases o with
 | true =>
  simp [G0A,u0s]
  refine c0l (fun n ρ G=>ρ 0=v∧ρ 7=.int .i64 (n:Int)∧∃ c,ρ 6=.int .u32 ((c:Nat):Int)∧Ext H G∧∃ out,Own H.size G a0j 1 (ρ 5) n (c0b out)∧b0s out∧out.length=n∧c≤1 ∧
    a0w out + 4294967296 ^ n * c=2 * a0w (a.take n) + 1) a.length (by decide) ⟨by simp [h0],by simp,1,by simp,Ext.refl H,[],by simp;exact Own.nil,by intro x hx;simp at hx,rfl,by omega,by simp [a0w]⟩ ?_
  clear h0 ρ
  rintro n ρ G hn1 ⟨g0,g7,c,g6,hx,out,ho,hok,hol,hc,hs⟩
  have ka:=ha.mono hx
  have e9:=a0R (show n < 4611686018427387904 by omega)
  obtain ⟨s,g5⟩:∃ s,ρ 5=s:=⟨_,rfl⟩
  rw [g5] at ho
  simp [u0t,g0,g7,ka.slen]
  refine d0f.mk (by simp) (fun hlt=>?_) (fun heq=>?_)
  ·have hA2:=a0P hlt
   have hA3:=c0a ha.ok n
   have a1:=ka.ia hlt (k:=.i64)
   have a2:=ka.load hlt (Ext.refl _)
   generalize a.getD n 0=A at hA2 hA3 a2
   have q1:d0a 0 .shl (.int .u32 (A:Int)) (.int .u64 1)=some (.int .u32 ((A * 2 ^ 1 % 4294967296:Nat):Int)):=q0X (s:=1) (by omega)
   have q2:=N0e (x:=A * 2 ^ 1 % 4294967296) (c:=c) (by omega) (by omega) hc
   have q3:d0a 0 .shr (.int .u32 (A:Int)) (.int .u64 31)=some (.int .u32 ((A / 2 ^ 31:Nat):Int)):=q0Y (s:=31) (by omega)
   obtain ⟨y,hy⟩:∃ y,A * 2 ^ 1 % 4294967296 + c=y:=⟨_,rfl⟩
   obtain ⟨y0,hy0⟩:∃ y0,A * 2 ^ 1 % 4294967296=y0:=⟨_,rfl⟩
   obtain ⟨c',hc'⟩:∃ c',A / 2 ^ 31=c':=⟨_,rfl⟩
   rw [hy] at q2
   rw [hy0] at q1 q2
   rw [hc'] at q3
   obtain ⟨s',G3,h1,h2,h3,h4⟩:=d0X (e2:=a0j) (new:=[.int .u32 (y:Int)]) (c:=1) (bytes:=4) ho rfl rfl (by omega) (by omega) (by omega) hx.1
   have hx3:=h4 _ (f1I _) hx
   have kb:=ha.mono hx3
   have b1:=kb.ia hlt (k:=.i64)
   have b2:=kb.load hlt (Ext.refl _)
   have hfin:a0w (out ++ [y]) + 4294967296 ^ (n + 1) * c' = 2 * a0w (a.take (n + 1)) + 1:=by
    rw [c0g,hol,hA2,g1f]
    have e3:4294967296 ^ n * 4294967296 * c' = 4294967296 ^ n * (4294967296 * c'):=f1Z ..
    have e4:y + 4294967296 * c' = c + 2 * A:=by omega
    have e5:4294967296 ^ n * y + 4294967296 ^ n * (4294967296 * c')=4294967296 ^ n * c + 4294967296 ^ n * (2 * A):=by rw [← f1V,e4,f1V]
    have e6:4294967296 ^ n * (2 * A)=2 * (4294967296 ^ n * A):=by rw [h1E]
    omega
   have b2':b0y G3 false 1 (adr 1 v n)=some (.int .u32 (A:Int)):=by
    rw [ka.load hlt (Ext.refl _)] at a2
    rw [b2];exact a2
   simp [-Int.natCast_emod,-Int.natCast_add,-j0S,u0u,u0v,g0,g5,g6,g7,a1,a2,q1,q2,q3,h1,b2']
   unfold e0t
   simp [-Int.natCast_add,u0w,g7,e9]
   refine b0T.mk ⟨by simp [g0],by simp,c',by simp,hx3,out ++ [y],by simpa [c0b] using h2,?_,by simp [hol],by omega,hfin⟩
   intro x hx
   rcases g1o.1 hx with hx | hx
   ·exact hok x hx
   ·simp at hx;omega
  ·subst heq
   rw [g1d] at hs
   obtain ⟨s',G3,h1,h2,h3,h4⟩:=d0X (e2:=a0j) (new:=[.int .u32 (c:Int)]) (c:=1) (bytes:=4) ho rfl rfl (by omega) (by omega) (by omega) hx.1
   have hx3:=h4 _ (f1I _) hx
   simp [-Int.natCast_add,q0K,q0L,g5,g6,h1]
   have hok2:b0s (out ++ [c]):=by
    intro x hx
    rcases g1o.1 hx with hx | hx
    ·exact hok x hx
    ·simp at hx;omega
   refine (e0C (l:=out ++ [c]) ⟨by have:=h2.sl;simpa [hol,c0b] using this,hok2⟩ hx3.1 (by simp;omega)).mono ?_
   rintro r G2 ⟨⟨ht,hsb⟩,hx2⟩
   simp
   intro _
   rw [b0S _ hok2,c0g,hol,hs] at ht
   exact ⟨ht,(Own.newB h2).of hsb⟩
 | false =>
  simp [u0s]
  refine c0l (fun n ρ G=>ρ 0=v∧ρ 7=.int .i64 (n:Int)∧∃ c,ρ 6=.int .u32 ((c:Nat):Int)∧Ext H G∧∃ out,Own H.size G a0j 1 (ρ 5) n (c0b out)∧b0s out∧out.length=n∧c≤1 ∧
    a0w out + 4294967296 ^ n * c=2 * a0w (a.take n) + 0) a.length (by decide) ⟨by simp [h0],by simp,0,by simp,Ext.refl H,[],by simp;exact Own.nil,by intro x hx;simp at hx,rfl,by omega,by simp [a0w]⟩ ?_
  clear h0 ρ
  rintro n ρ G hn1 ⟨g0,g7,c,g6,hx,out,ho,hok,hol,hc,hs⟩
  have ka:=ha.mono hx
  have e9:=a0R (show n < 4611686018427387904 by omega)
  obtain ⟨s,g5⟩:∃ s,ρ 5=s:=⟨_,rfl⟩
  rw [g5] at ho
  simp [u0t,g0,g7,ka.slen]
  refine d0f.mk (by simp) (fun hlt=>?_) (fun heq=>?_)
  ·have hA2:=a0P hlt
   have hA3:=c0a ha.ok n
   have a1:=ka.ia hlt (k:=.i64)
   have a2:=ka.load hlt (Ext.refl _)
   generalize a.getD n 0=A at hA2 hA3 a2
   have q1:d0a 0 .shl (.int .u32 (A:Int)) (.int .u64 1)=some (.int .u32 ((A * 2 ^ 1 % 4294967296:Nat):Int)):=q0X (s:=1) (by omega)
   have q2:=N0e (x:=A * 2 ^ 1 % 4294967296) (c:=c) (by omega) (by omega) hc
   have q3:d0a 0 .shr (.int .u32 (A:Int)) (.int .u64 31)=some (.int .u32 ((A / 2 ^ 31:Nat):Int)):=q0Y (s:=31) (by omega)
   obtain ⟨y,hy⟩:∃ y,A * 2 ^ 1 % 4294967296 + c=y:=⟨_,rfl⟩
   obtain ⟨y0,hy0⟩:∃ y0,A * 2 ^ 1 % 4294967296=y0:=⟨_,rfl⟩
   obtain ⟨c',hc'⟩:∃ c',A / 2 ^ 31=c':=⟨_,rfl⟩
   rw [hy] at q2
   rw [hy0] at q1 q2
   rw [hc'] at q3
   obtain ⟨s',G3,h1,h2,h3,h4⟩:=d0X (e2:=a0j) (new:=[.int .u32 (y:Int)]) (c:=1) (bytes:=4) ho rfl rfl (by omega) (by omega) (by omega) hx.1
   have hx3:=h4 _ (f1I _) hx
   have kb:=ha.mono hx3
   have b1:=kb.ia hlt (k:=.i64)
   have b2:=kb.load hlt (Ext.refl _)
   have hfin:a0w (out ++ [y]) + 4294967296 ^ (n + 1) * c' = 2 * a0w (a.take (n + 1)) + 0:=by
    rw [c0g,hol,hA2,g1f]
    have e3:4294967296 ^ n * 4294967296 * c' = 4294967296 ^ n * (4294967296 * c'):=f1Z ..
    have e4:y + 4294967296 * c' = c + 2 * A:=by omega
    have e5:4294967296 ^ n * y + 4294967296 ^ n * (4294967296 * c')=4294967296 ^ n * c + 4294967296 ^ n * (2 * A):=by rw [← f1V,e4,f1V]
    have e6:4294967296 ^ n * (2 * A)=2 * (4294967296 ^ n * A):=by rw [h1E]
    omega
   have b2':b0y G3 false 1 (adr 1 v n)=some (.int .u32 (A:Int)):=by
    rw [ka.load hlt (Ext.refl _)] at a2
    rw [b2];exact a2
   simp [-Int.natCast_emod,-Int.natCast_add,-j0S,u0u,u0v,g0,g5,g6,g7,a1,a2,q1,q2,q3,h1,b2']
   unfold e0t
   simp [-Int.natCast_add,u0w,g7,e9]
   refine b0T.mk ⟨by simp [g0],by simp,c',by simp,hx3,out ++ [y],by simpa [c0b] using h2,?_,by simp [hol],by omega,hfin⟩
   intro x hx
   rcases g1o.1 hx with hx | hx
   ·exact hok x hx
   ·simp at hx;omega
  ·subst heq
   rw [g1d] at hs
   obtain ⟨s',G3,h1,h2,h3,h4⟩:=d0X (e2:=a0j) (new:=[.int .u32 (c:Int)]) (c:=1) (bytes:=4) ho rfl rfl (by omega) (by omega) (by omega) hx.1
   have hx3:=h4 _ (f1I _) hx
   simp [-Int.natCast_add,q0K,q0L,g5,g6,h1]
   have hok2:b0s (out ++ [c]):=by
    intro x hx
    rcases g1o.1 hx with hx | hx
    ·exact hok x hx
    ·simp at hx;omega
   refine (e0C (l:=out ++ [c]) ⟨by have:=h2.sl;simpa [hol,c0b] using this,hok2⟩ hx3.1 (by simp;omega)).mono ?_
   rintro r G2 ⟨⟨ht,hsb⟩,hx2⟩
   simp
   intro _
   rw [b0S _ hok2,c0g,hol,hs] at ht
   exact ⟨ht,(Own.newB h2).of hsb⟩
theorem e0h {p z x:Nat} {L:List Nat} (hb:G.blk p=.row false a0j (c0b L)) (hf:fl≤p) (hz:z < L.length) :
  e0N fl G 1 (.pointer (some ⟨p,z,none⟩)) (.int .u32 (x:Int))=some (G.setIfInBounds p (.row false a0j (c0b (L.set z x)))):=by
 have h1:a0W (.int .u32 (x:Int))=[.int .u32 (x:Int)]:=rfl
 rw [n0h hb hf (by rw [h1];rfl) (by simp;omega) (by rw [h1];rfl),h1,d0u]
 simp [b0v]
theorem K0g {n:Nat} {s:Value} (h:Own fl G a0j 1 s n (c0b a)) (hn:n=a.length) (h0:0 < a.length):∃ p cap,s=.slice (some ⟨p,0,none⟩) a.length cap∧G.blk p=.row false a0j (c0b a)∧fl≤p:=by
 obtain ⟨hl,⟨_,h1⟩ | ⟨b,cap,h1,h2,h3⟩⟩:=h
 ·omega
 ·exact ⟨b,cap,by rw [← hn];exact h1,h2,h3⟩
theorem k0K (ha:Lim H v a) (hb:Lim H w b) (hf:fl≤H.size) (hna:a.length < 1073741824) (hle:b.length≤a.length) (hnat:a0w b≤a0w a) (h0a:0 < a.length) :
  a0U env fl r0A [v,w] H (fun r H'=>(Lim H' r (a0p (a0w a - a0w b))∧newB H r)∧Ext H H') R:=by
 refine a0i c1D hf (h:=?_)
 intro ρ h0
 have hx4:Ext H (H.push (.row false a0j [])):=(Ext.refl H).push
 obtain ⟨v',G',h1,h2,h3,h4⟩:=j0R (fl:=H.size) (G:=H.push (.row false a0j [])) (s:=.slice (some ⟨H.size,0,none⟩) 0 0) (e:=a0j) (cs:=[]) (sz:=1) (n:=0) (bytes:=4) (e2:=a0j)
  (Own.mk a0D rfl (f1I _)) (ha.mono hx4).1 k0j (by omega) (by omega) (by omega) (by simp)
 rw [g1v,h1u] at h2
 obtain ⟨p,cap,rfl,hbp,hp⟩:=K0g h2 rfl h0a
 have hx5:Ext H G':=h4 H (f1I _) hx4
 simp [L0O,E0I,E0J,E0K,E0L,h0,h1]
 refine c0l (fun n ρ G=>ρ 1=w∧ρ 5=.slice (some ⟨p,0,none⟩) a.length cap∧ρ 7=.int .i64 (n:Int)∧∃ c,ρ 6=.int .u64 ((c:Nat):Int)∧Ext H G∧∃ L,a0f.blk G p=.row false a0j (c0b L)∧L.length=a.length∧b0s L∧(∀ j,n≤j→L.getD j 0=a.getD j 0)∧c≤1 ∧
   a0w (L.take n) + a0w (b.take n)=a0w (a.take n) + 4294967296 ^ n * c) a.length (by decide) ⟨by simp [h0],by simp,by simp,0,by simp,hx5,a,hbp,rfl,ha.ok,fun _ _=>rfl,by omega,by simp [a0w]⟩ ?_
 clear h0 ρ h1 h2 h3 h4 hbp hx5 hx4 G'
 rintro n ρ G hn1 ⟨g1,g5,g7,c,g6,hx,L,hbp,hL,hok,hrest,hc,hs⟩
 have e9:=a0R (show n < 4611686018427387904 by omega)
 have hsl:i0H (.slice (some ⟨p,0,none⟩) a.length cap)=some (.int .i64 (a.length:Int)):=rfl
 simp [E0M,g5,g7,hsl]
 refine d0f.mk (by simp) (fun hlt=>?_) (fun heq=>?_)
 ·have kb:=hb.mono hx
  have hnL:n < L.length:=by omega
  obtain ⟨o1,o2⟩:=e0Z (k:=.i64) (cap:=cap) hbp hnL hL
  have hA2:=a0P hlt
  have hB2:=f0K (l:=b) (n:=n)
  have hA3:=c0a ha.ok n
  have hB3:=c0a hb.ok n
  rw [hrest n (f1I _)] at o2
  have hB:n < b.length→iaV 1 w (.int .i64 (n:Int))=some (adr 1 w n)∧b0y G false 1 (adr 1 w n)=some (.int .u32 ((b.getD n 0:Nat):Int)):=fun h=>⟨kb.ia h,kb.load h (Ext.refl _)⟩
  have hBz:¬ n < b.length→b.getD n 0=0:=fun h=>by rw [f1H,f1T (by omega)];rfl
  generalize a.getD n 0=A at hA2 hA3 o2
  generalize b.getD n 0=B at hB2 hB3 hB hBz
  obtain ⟨S,hS⟩:∃ S,c + B=S:=⟨_,rfl⟩
  have eA:IntKind.u64.wrap (A:Int)=(A:Int):=by rw [a0x];omega
  by_cases ib:n < b.length
  ·obtain ⟨b1,b2⟩:=hB ib
   have e2:IntKind.u64.wrap ((c:Int) + IntKind.u64.wrap (B:Int))=(S:Int):=by rw [a0x,a0x];omega
   simp [-Int.natCast_add,u0h,u0i,E0N,g1,g6,g7,kb.slen,ib,b1,b2,e2]
   by_cases hge:S≤A
   ·have q1:IntKind.u64.wrap ((A:Int) - (S:Int))=((A - S:Nat):Int):=by rw [a0x];omega
    have q2:IntKind.u32.wrap (((A - S:Nat):Int))=((A - S:Nat):Int):=by rw [e0O];omega
    have hst:=e0h (fl:=H.size) (x:=A - S) hbp hp hnL
    simp [-Int.natCast_add,m0V,u0j,q0E,g1,g5,g6,g7,o1,o2,eA,hge,q1,q2,hst]
    have hfin:a0w ((L.set n (A-S)).take (n + 1)) + a0w (b.take (n + 1))=a0w (a.take (n + 1)) + 4294967296 ^ (n + 1) * 0:=by
     rw [d0c hnL,hA2,hB2,g1f]
     have e3:4294967296 ^ n * 4294967296 * 0=4294967296 ^ n * (4294967296 * 0):=f1Z ..
     have e4:(A-S) + c + B=A + 4294967296 * 0:=by omega
     have e5:4294967296 ^ n * (A-S) + 4294967296 ^ n * c + 4294967296 ^ n * B=4294967296 ^ n * A + 4294967296 ^ n * (4294967296 * 0):=by rw [← f1V,← f1V,e4,f1V]
     omega
    unfold e0t
    simp [-Int.natCast_add,j0w,g7,e9]
    exact b0T.mk ⟨by simp [g1],by simp [g5],by simp,0,by simp,hx.set hp,L.set n (A-S),a0B (a0l hbp),by simp [hL],b0Y hok (by omega),fun j hj=>by have h:=(b0L (l:=L) (z:=A-S) (show n ≠ j by omega)).trans (hrest j (by omega));rw [f1H,f1H] at h;exact h,by omega,hfin⟩
   ·have hge':A < S:=by omega
    have q0:IntKind.u64.wrap ((A:Int) + 4294967296)=((A + 4294967296:Nat):Int):=by rw [a0x];omega
    have q1:IntKind.u64.wrap (((A + 4294967296:Nat):Int) - (S:Int))=((A + 4294967296 - S:Nat):Int):=by rw [a0x];omega
    have q2:IntKind.u32.wrap (((A + 4294967296 - S:Nat):Int))=((A + 4294967296 - S:Nat):Int):=by rw [e0O];omega
    have hst:=e0h (fl:=H.size) (x:=A + 4294967296 - S) hbp hp hnL
    simp [-Int.natCast_add,m0V,q0F,q0G,g1,g5,g6,g7,o1,o2,eA,hge,hge',q0,q1,q2,hst]
    have hfin:a0w ((L.set n (A+4294967296-S)).take (n + 1)) + a0w (b.take (n + 1))=a0w (a.take (n + 1)) + 4294967296 ^ (n + 1) * 1:=by
     rw [d0c hnL,hA2,hB2,g1f]
     have e3:4294967296 ^ n * 4294967296 * 1=4294967296 ^ n * (4294967296 * 1):=f1Z ..
     have e4:(A+4294967296-S) + c + B=A + 4294967296 * 1:=by omega
     have e5:4294967296 ^ n * (A+4294967296-S) + 4294967296 ^ n * c + 4294967296 ^ n * B=4294967296 ^ n * A + 4294967296 ^ n * (4294967296 * 1):=by rw [← f1V,← f1V,e4,f1V]
     omega
    unfold e0t
    simp [-Int.natCast_add,j0w,g7,e9]
    exact b0T.mk ⟨by simp [g1],by simp [g5],by simp,1,by simp,hx.set hp,L.set n (A+4294967296-S),a0B (a0l hbp),by simp [hL],b0Y hok (by omega),fun j hj=>by have h:=(b0L (l:=L) (z:=A+4294967296-S) (show n ≠ j by omega)).trans (hrest j (by omega));rw [f1H,f1H] at h;exact h,by omega,hfin⟩
  ·have hBn:=hBz ib
   have hcS:c=S:=by omega
   rw [hcS] at g6
   simp [-Int.natCast_add,u0h,u0i,g1,g6,g7,kb.slen,ib]
   by_cases hge:S≤A
   ·have q1:IntKind.u64.wrap ((A:Int) - (S:Int))=((A - S:Nat):Int):=by rw [a0x];omega
    have q2:IntKind.u32.wrap (((A - S:Nat):Int))=((A - S:Nat):Int):=by rw [e0O];omega
    have hst:=e0h (fl:=H.size) (x:=A - S) hbp hp hnL
    simp [-Int.natCast_add,m0V,u0j,q0E,g1,g5,g6,g7,o1,o2,eA,hge,q1,q2,hst]
    have hfin:a0w ((L.set n (A-S)).take (n + 1)) + a0w (b.take (n + 1))=a0w (a.take (n + 1)) + 4294967296 ^ (n + 1) * 0:=by
     rw [d0c hnL,hA2,hB2,g1f]
     have e3:4294967296 ^ n * 4294967296 * 0=4294967296 ^ n * (4294967296 * 0):=f1Z ..
     have e4:(A-S) + c + B=A + 4294967296 * 0:=by omega
     have e5:4294967296 ^ n * (A-S) + 4294967296 ^ n * c + 4294967296 ^ n * B=4294967296 ^ n * A + 4294967296 ^ n * (4294967296 * 0):=by rw [← f1V,← f1V,e4,f1V]
     omega
    unfold e0t
    simp [-Int.natCast_add,j0w,g7,e9]
    exact b0T.mk ⟨by simp [g1],by simp [g5],by simp,0,by simp,hx.set hp,L.set n (A-S),a0B (a0l hbp),by simp [hL],b0Y hok (by omega),fun j hj=>by have h:=(b0L (l:=L) (z:=A-S) (show n ≠ j by omega)).trans (hrest j (by omega));rw [f1H,f1H] at h;exact h,by omega,hfin⟩
   ·have hge':A < S:=by omega
    have q0:IntKind.u64.wrap ((A:Int) + 4294967296)=((A + 4294967296:Nat):Int):=by rw [a0x];omega
    have q1:IntKind.u64.wrap (((A + 4294967296:Nat):Int) - (S:Int))=((A + 4294967296 - S:Nat):Int):=by rw [a0x];omega
    have q2:IntKind.u32.wrap (((A + 4294967296 - S:Nat):Int))=((A + 4294967296 - S:Nat):Int):=by rw [e0O];omega
    have hst:=e0h (fl:=H.size) (x:=A + 4294967296 - S) hbp hp hnL
    simp [-Int.natCast_add,m0V,q0F,q0G,g1,g5,g6,g7,o1,o2,eA,hge,hge',q0,q1,q2,hst]
    have hfin:a0w ((L.set n (A+4294967296-S)).take (n + 1)) + a0w (b.take (n + 1))=a0w (a.take (n + 1)) + 4294967296 ^ (n + 1) * 1:=by
     rw [d0c hnL,hA2,hB2,g1f]
     have e3:4294967296 ^ n * 4294967296 * 1=4294967296 ^ n * (4294967296 * 1):=f1Z ..
     have e4:(A+4294967296-S) + c + B=A + 4294967296 * 1:=by omega
     have e5:4294967296 ^ n * (A+4294967296-S) + 4294967296 ^ n * c + 4294967296 ^ n * B=4294967296 ^ n * A + 4294967296 ^ n * (4294967296 * 1):=by rw [← f1V,← f1V,e4,f1V]
     omega
    unfold e0t
    simp [-Int.natCast_add,j0w,g7,e9]
    exact b0T.mk ⟨by simp [g1],by simp [g5],by simp,1,by simp,hx.set hp,L.set n (A+4294967296-S),a0B (a0l hbp),by simp [hL],b0Y hok (by omega),fun j hj=>by have h:=(b0L (l:=L) (z:=A+4294967296-S) (show n ≠ j by omega)).trans (hrest j (by omega));rw [f1H,f1H] at h;exact h,by omega,hfin⟩
 ·subst heq
  rw [f1W (by omega),f1W hle,g1d] at hs
  have hLlt:=f0J L hok
  rw [hL] at hLlt
  have hc0:c=0:=by
   rcases h1P c with h | h
   ·exact h
   ·have:c=1:=by omega
    subst this
    omega
  subst hc0
  simp [w0E,g5]
  refine (e0C (l:=L) ⟨⟨by simp,.inr ⟨p,0,cap,false,c0b L,by rw [hL],hbp,by simp,by rw [h1o,g1S,← i0v (l:=L),g1d]⟩⟩,hok⟩ hx.1 (by omega)).mono ?_
  rintro r G2 ⟨⟨ht,hsb⟩,hx2⟩
  simp
  intro _
  rw [b0S _ hok,show a0w L=a0w a - a0w b by omega] at ht
  refine ⟨ht,fun q hq=>?_⟩
  rw [hsb] at hq
  simp only [slB,f1L] at hq
  omega
theorem m0q (ha:Lim H v a) (hb:Lim H w b) (hf:fl≤H.size) (hna:a.length < 1073741824) (hle:b.length≤a.length) (hnat:a0w b≤a0w a) (h0a:0 < a.length) :
  a0U env fl r0A [v,w] H (fun r H'=>Lim H' r (a0p (a0w a - a0w b))∧Ext H H') R:=(k0K ha hb hf hna hle hnat h0a).mono fun _ _ h=>⟨h.1.1,h.2⟩
theorem k0c:∀ n,a0w (List.replicate n 0)=0
 | 0=>rfl
 | n + 1=>by rw [List.replicate_succ,a0w,k0c n]
theorem p0c (n:Nat):c0b (List.replicate n 0)=f0n [.int .u32 0] n:=by
 unfold c0b
 induction n with
 | zero=>rfl
 | succ n ih=>simp only [List.replicate_succ,List.map_cons,ih];rfl
theorem t0I (ha:Lim H v a) (hb:Lim H w b) (hf:fl≤H.size) (hna:a.length < 536870912) (hnb:b.length < 536870912) :
  a0U env fl z0J [v,w] H (fun r H'=>Lim H' r (a0p (a0w a * a0w b))∧Ext H H') R:=by
 refine a0i b1X hf (h:=?_)
 intro ρ h0
 have w1:IntKind.i64.wrap ((a.length:Int) + (b.length:Int))=((a.length + b.length:Nat):Int):=by rw [a0Q (by omega) (by omega)];omega
 have hm:=V0X (bytes:=4) (k:=.i64) (k':=.i64) (l:=((a.length + b.length:Nat):Int)) (c:=((a.length + b.length:Nat):Int)) (by omega) (by omega) (by omega) (by omega)
 simp [-Int.natCast_add,L0j,B0z,B0A,B0B,h0,ha.slen,hb.slen,w1,hm]
 rw [← p0c]
 generalize hN:a.length + b.length=N
 generalize hG:Array.push H _=G0
 obtain ⟨hx0,b0⟩:=g0B hG
 clear hG
 refine c0l (fun n ρ G=>ρ 0=v∧ρ 1=w∧ρ 5=.slice (some ⟨H.size,0,none⟩) N N∧ρ 6=.int .i64 (n:Int)∧Ext H G∧∃ o,a0f.blk G H.size=.row false a0j (c0b o)∧o.length=N∧b0s o∧a0w o=a0w (a.take n) * a0w b∧∀ q,n + b.length≤q→o.getD q 0=0)
  a.length (by decide) ⟨by simp [h0],by simp [h0],by simp,by simp,hx0,List.replicate N 0,b0,by simp,by intro x hx;simp at hx;omega,by simp [a0w,k0c],fun q _=>by simp [f1H,h1B];split <;> rfl⟩ ?_
 clear h0 ρ w1 hm b0 hx0 G0
 rintro i ρ G hn1 ⟨g0,g1,g5,g6,hx,o,hbo,hol,hok,hs,hz⟩
 have ka:=ha.mono hx
 have e8:=a0R (show i < 4611686018427387904 by omega)
 simp [B0C,g0,g6,ka.slen]
 refine d0f.mk (by simp) (fun hlt=>?_) (fun heq=>?_)
 ·have hA2:=a0P hlt
  have hA3:=c0a ha.ok i
  have a1:=ka.ia hlt (k:=.i64)
  have aL:∀ G2,Ext H G2→b0y G2 false 1 (adr 1 v i)=some (.int .u32 ((a.getD i 0:Nat):Int)):=fun G2 h=>ha.load hlt h
  generalize a.getD i 0=U at hA2 hA3 aL
  simp [B0D,B0E]
  refine c0l (fun q ρ G=>ρ 0=v∧ρ 1=w∧ρ 5=.slice (some ⟨H.size,0,none⟩) N N∧ρ 6=.int .i64 (i:Int)∧ρ 8=.int .i64 (q:Int)∧∃ c,ρ 7=.int .u64 ((c:Nat):Int)∧Ext H G∧∃ o,a0f.blk G H.size=.row false a0j (c0b o)∧o.length=N∧b0s o∧c < 4294967296 ∧
    a0w o + 4294967296 ^ (i + q) * c=a0w (a.take i) * a0w b + 4294967296 ^ i * (U * a0w (b.take q))∧∀ q,i + b.length≤q→o.getD q 0=0)
   b.length (by decide) ⟨by simp [g0],by simp [g1],by simp [g5],by simp [g6],by simp,0,by simp,hx,o,hbo,hol,hok,by omega,by simp [hs,a0w],hz⟩ ?_
  clear g0 g1 g5 g6 hx hbo hol hok hs hz ka o G ρ
  rintro q ρ G hq1 ⟨g0,g1,g5,g6,g8,c,g7,hx,o,hbo,hol,hok,hc,hs,hz⟩
  have kb:=hb.mono hx
  have ka:=ha.mono hx
  have e9:=a0R (show q < 4611686018427387904 by omega)
  simp [B0F,g1,g8,kb.slen]
  refine d0f.mk (by simp) (fun hq=>?_) (fun heq=>?_)
  ·have hB2:=a0P hq
   have hB3:=c0a hb.ok q
   have b1:=kb.ia hq (k:=.i64)
   have b2:=kb.load hq (Ext.refl _)
   have a2:=aL G hx
   generalize b.getD q 0=V at hB2 hB3 b2
   have hlo:i + q < o.length:=by omega
   obtain ⟨hio,hro⟩:=e0Z (k:=.i64) (cap:=N) hbo hlo hol
   have hset:=h0y o (i + q) ((c + (U * V + o.getD (i + q) 0)) % 4294967296) hlo
   have hW3:=c0a hok (i + q)
   generalize o.getD (i + q) 0=Wd at hro hset hW3
   have hUV:U * V≤4294967295 * 4294967295:=g1B (by omega) (by omega)
   have e1:IntKind.u64.wrap (U:Int)=(U:Int):=by rw [a0x];omega
   have e2:IntKind.u64.wrap (V:Int)=(V:Int):=by rw [a0x];omega
   have e3:IntKind.u64.wrap (Wd:Int)=(Wd:Int):=by rw [a0x];omega
   have e4:IntKind.u64.wrap ((U:Int) * (V:Int))=((U * V:Nat):Int):=by rw [a0x,← g1a];omega
   have e5:IntKind.u64.wrap (((U * V:Nat):Int) + (Wd:Int))=((U * V + Wd:Nat):Int):=by rw [a0x];omega
   have e7:IntKind.i64.wrap ((i:Int) + (q:Int))=((i + q:Nat):Int):=by rw [a0Q (by omega) (by omega)];omega
   obtain ⟨c1,hc1⟩:∃ c1,c + (U * V + Wd)=c1:=⟨_,rfl⟩
   have e6:IntKind.u64.wrap (((U * V + Wd:Nat):Int) + (c:Int))=(c1:Int):=by rw [a0x];omega
   rw [hc1] at hset
   have q2:IntKind.u32.wrap ((c1:Int))=((c1 % 4294967296:Nat):Int):=by rw [e0O];omega
   have hst:=e0h (fl:=H.size) (x:=c1 % 4294967296) hbo (f1I _) hlo
   simp
   refine a0G ?_
   simp [-Int.natCast_add,-Int.natCast_mul,-Int.natCast_emod,-Int.natCast_ediv,B0G,B0H,B0I,g0,g1,g5,g6,g7,g8,a1,a2,b1,b2,e1,e2,e3,e4,e5,e6,e7,hio,hro,q2,hst]
   unfold e0t
   simp [-Int.natCast_add,w0l,g8,e9]
   refine b0T.mk ⟨by simp [g0],by simp [g1],by simp [g5],by simp [g6],by simp,c1 / 4294967296,by simp,hx.set (f1I _),o.set (i + q) (c1 % 4294967296),a0B (a0l hbo),by simp [hol],b0Y hok (by omega),by omega,?_,?_⟩
   ·have f1:4294967296 ^ (i + (q + 1)) * (c1 / 4294967296)=4294967296 ^ (i + q) * (4294967296 * (c1 / 4294967296)):=by
     rw [show i + (q + 1)=i + q + 1 by omega,g1f,f1Z]
    have f2:4294967296 ^ (i + q) * (c1 % 4294967296) + 4294967296 ^ (i + q) * (4294967296 * (c1 / 4294967296))=4294967296 ^ (i + q) * c1:=by rw [← f1V,i1h]
    have f3:4294967296 ^ (i + q) * c1=4294967296 ^ (i + q) * c + (4294967296 ^ (i + q) * (U * V) + 4294967296 ^ (i + q) * Wd):=by rw [← hc1,f1V,f1V]
    have f4:4294967296 ^ i * (U * (a0w (List.take q b) + 4294967296 ^ q * V))=4294967296 ^ i * (U * a0w (List.take q b)) + 4294967296 ^ (i + q) * (U * V):=by
     rw [f1V,f1V,h1F]
     congr 1
     rw [f1Z,h1E U]
    rw [hB2,f4,f1]
    omega
   ·intro r hr
    have:=hz r hr
    have h:=(b0L (l:=o) (z:=c1 % 4294967296) (show i + q ≠ r by omega)).trans this
    rw [f1H] at h;exact h
  ·subst heq
   have hlo:i + b.length < o.length:=by omega
   obtain ⟨hio,hro⟩:=e0Z (k:=.i64) (cap:=N) hbo hlo hol
   have hset:=h0y o (i + b.length) (c % 4294967296) hlo
   rw [hz _ (f1I _)] at hset
   have e7:IntKind.i64.wrap ((i:Int) + (b.length:Int))=((i + b.length:Nat):Int):=by rw [a0Q (by omega) (by omega)];omega
   have q2:IntKind.u32.wrap ((c:Int))=(c:Int):=by rw [e0O];omega
   have hst:=e0h (fl:=H.size) (x:=c) hbo (f1I _) hlo
   simp [-Int.natCast_add,w0m,g1,g5,g6,g7,kb.slen,e7,q2,hio,hst]
   unfold e0t
   simp [-Int.natCast_add,w0n,g6,e8]
   refine b0T.mk ⟨by simp [g0],by simp [g1],by simp [g5],by simp,hx.set (f1I _),o.set (i + b.length) c,a0B (a0l hbo),by simp [hol],b0Y hok (by omega),?_,?_⟩
   ·rw [g1j hc] at hset
    rw [hA2,g1e,f1Z]
    rw [g1d] at hs
    omega
   ·intro r hr
    have:=hz r (by omega)
    have h:=(b0L (l:=o) (z:=c) (show i + b.length ≠ r by omega)).trans this
    rw [f1H] at h;exact h
 ·subst heq
  rw [g1d] at hs
  simp [w0o,g5]
  refine (f0a (l:=o) ⟨⟨by simp,.inr ⟨H.size,0,N,false,c0b o,by rw [hol],hbo,by simp,by rw [h1o,g1S,← i0v (l:=o),g1d]⟩⟩,hok⟩ hx.1 (by omega)).mono ?_
  rintro r G2 ⟨ht,hx2⟩
  simp
  intro _
  rw [b0S _ hok,hs] at ht
  exact ht
theorem T0f {E:Env} {nt tc b b2:Nat} {body:SCode} {rx rc:List a0L} {Q:d0R} {ρ:Nat→Value} (Inv:Nat→(Nat→Value)→a0f→Prop) (n:Nat) (htc:tc < nt) (hI:Inv 0 ρ H)
  (step:∀ i ρ G,i≤n→Inv i ρ G→WR E fl rc (T nt ρ) G (j0N E fl nt tc b b2 body rx (fun t H=>Q .normal t H) Q R n i Inv) R) :
  W E fl (.loop (.seq (.seq (.reg rc) (.cond (.tmp tc) .skip (.exit b))) (.seq (.block b2 body) (.reg rx)))) (T nt ρ) H (e0H b Q) R:=by
 have h:=z0s (Z:=fun t H=>Q .normal t H) (Q:=Q) Inv n htc hI step
 rwa [h0G] at h
theorem T0j {x:Nat} (hx:x < 4294967296):d0a 0 .and (.int .u32 (x:Int)) (.int .u32 1)=some (.int .u32 ((x % 2:Nat):Int)):=by
 have h0:d0a 0 .and (.int .u32 (x:Int)) (.int .u32 1)=some (.int .u32 (IntKind.u32.wrap (BitVec.ofInt IntKind.u32.bits (x:Int) &&& BitVec.ofInt IntKind.u32.bits 1).toNat)):=by unfold d0a;simp
 rw [h0]
 have e1:(BitVec.ofInt IntKind.u32.bits (x:Int) &&& BitVec.ofInt IntKind.u32.bits 1).toNat=x % 2:=by
  show (BitVec.ofInt 32 (x:Int) &&& BitVec.ofInt 32 1).toNat=x % 2
  rw [BitVec.toNat_and,h1M,h1M]
  have e2:((x:Int) % (2 ^ 32:Nat)).toNat=x:=by omega
  have e3:((1:Int) % (2 ^ 32:Nat)).toNat=1:=by decide
  rw [e2,e3,Nat.and_one_is_mod]
 rw [e1,r0c]
 congr 3
 omega
theorem X0U {x k:Nat} (hk:k < 32) (hx:x < 4294967296) (h2:x % 2 ^ (k + 1)=0):x + 2 ^ k < 4294967296∧d0a 0 .or (.int .u32 (x:Int)) (.int .u32 ((2 ^ k:Nat):Int))=some (.int .u32 ((x + 2 ^ k:Nat):Int)):=by
 have hp:2 ^ k < 2 ^ (k + 1):=Nat.pow_lt_pow_right (by omega) (by omega)
 obtain ⟨y,rfl⟩:=Nat.dvd_of_mod_eq_zero h2
 have hle:2 ^ (k + 1) * (y + 1)≤4294967296:=by
  have e:(4294967296:Nat)=2 ^ (k + 1) * 2 ^ (31 - k):=by rw [← h1F,show k + 1 + (31 - k)=32 by omega]
  rw [e] at hx ⊢
  exact g1l _ (h1j hx)
 have hlt:2 ^ (k + 1) * y + 2 ^ k < 4294967296:=by rw [f1V] at hle;omega
 refine ⟨hlt,?_⟩
 have hor:=h1G hp y
 rw [j0S]
 have e1:(BitVec.ofInt IntKind.u32.bits ((2 ^ (k + 1) * y:Nat):Int) ||| BitVec.ofInt IntKind.u32.bits ((2 ^ k:Nat):Int)).toNat=2 ^ (k + 1) * y + 2 ^ k:=by
  show (BitVec.ofInt 32 ((2 ^ (k + 1) * y:Nat):Int) ||| BitVec.ofInt 32 ((2 ^ k:Nat):Int)).toNat=_
  rw [BitVec.toNat_or,h1M,h1M]
  rw [hor]
  generalize 2 ^ (k + 1) * y=x at *
  generalize 2 ^ k=z at *
  have e2:((x:Int) % (2 ^ 32:Nat)).toNat=x:=by omega
  have e3:((z:Int) % (2 ^ 32:Nat)).toNat=z:=by omega
  rw [e2,e3]
 rw [e1,r0c,g1j hlt]
theorem J0Y {X B R t:Nat} (hB:0 < B) (hR:X % B=R) (ht:t < 2):(2 * R + t < B→(2 * X + t) / B=2 * (X / B)∧(2 * X + t) % B=2 * R + t)∧(B≤2 * R + t→(2 * X + t) / B=2 * (X / B) + 1∧(2 * X + t) % B=2 * R + t - B):=by
 have h1:=h1V X B
 rw [hR] at h1
 have hRB:R < B:=by rw [← hR];exact h1e _ hB
 have e:2 * X + t=B * (2 * (X / B)) + (2 * R + t):=by rw [h1E];omega
 constructor
 ·intro h
  rw [e,Nat.mul_add_div hB,Nat.mul_add_mod,h1z h,g1j h]
  exact ⟨rfl,rfl⟩
 ·intro h
  have hlt2:2 * R + t - B < B:=by omega
  have e2:2 * X + t=B * (2 * (X / B)) + B + (2 * R + t - B):=by omega
  rw [← Nat.mul_succ] at e2
  rw [e2,Nat.mul_add_div hB,Nat.mul_add_mod,h1z hlt2,g1j hlt2]
  exact ⟨rfl,rfl⟩
theorem A0l (A k:Nat):A / 2 ^ k=2 * (A / 2 ^ (k + 1)) + A / 2 ^ k % 2:=by
 rw [g1f,← Nat.div_div_eq_div_mul];omega
theorem i0m {A B:Nat} (ha:Lim H v (a0p A)) (hb:Lim H w (a0p B)) (hB:0 < B) (hf:fl≤H.size) (hna:(a0p A).length < 536870912) (hnb:(a0p B).length < 536870912) :
  a0U env fl x0Y [v,w] H (fun r H'=>(∃ x y,r=.tuple #[x,y]∧Lim H' x (a0p (A / B))∧Lim H' y (a0p (A % B)))∧Ext H H') R:=by
 refine a0i c1J hf (h:=?_)
 intro ρ h0
 simp [L0U,F0o,F0p,h0]
 refine (i0F ha hb (f1I _) (by omega)).mono ?_
 rintro _ G ⟨rfl,hx⟩
 rw [d0x,c0d]
 by_cases hlt:A < B
 ·simp [hlt,F0q,h0]
  refine fun _=>⟨.slice none 0 0,v,⟨rfl,rfl⟩,?_,?_⟩
  ·rw [h1z hlt,a0Y];exact Lim.nil
  ·rw [g1j hlt];exact ha.mono hx
 have hnn:¬ (if B < A then (1:Int) else 0) < 0:=by split <;> decide
 obtain ⟨a,hA⟩:∃ a,a=a0p A:=⟨_,rfl⟩
 rw [← hA] at ha hna
 have hAn:a0w a=A:=by rw [hA,a0q]
 have hm:=V0X (bytes:=4) (k:=.i64) (k':=.i64) (l:=(a.length:Int)) (c:=(a.length:Int)) (by omega) (by omega) (by omega) (by omega)
 have w1:IntKind.i64.wrap ((a.length:Int) - 1)=(a.length:Int) - 1:=a0Q (by omega) (by omega)
 have ka:=ha.mono hx
 simp [hlt,hnn,h0,F0r,F0s,F0t,ka.slen,hm,w1]
 rw [← p0c]
 generalize hG:Array.push G _=G0
 obtain ⟨hx2,b0⟩:=g0B hG
 clear hG
 have hx0:=hx.trans hx2
 have hP:=hx.1
 generalize Array.size G=p at b0 hP
 refine z0s (fun n ρ G=>ρ 0=v∧ρ 1=w∧ρ 6=.slice (some ⟨p,0,none⟩) a.length a.length∧ρ 8=.int .i64 ((a.length:Int) - 1 - n)∧n≤a.length∧Ext H G∧Lim G (ρ 7) (a0p (a0w (a.drop (a.length - n)) % B)) ∧
   ∃ o,a0f.blk G p=.row false a0j (c0b o)∧o.length=a.length∧b0s o∧a0w o=4294967296 ^ (a.length - n) * (a0w (a.drop (a.length - n)) / B)∧∀ t,t < a.length - n→o.getD t 0=0)
  a.length (by decide) ⟨by simp [h0],by simp [h0],by simp,by simp,by omega,hx0,by simp [a0w,a0Y];exact Lim.nil,List.replicate a.length 0,b0,by simp,by intro x hx;simp at hx;omega,by simp [a0w,k0c],fun t _=>by simp [f1H,h1B];split <;> rfl⟩ ?_
 clear h0 ρ hm b0 hx0 hx2 hx ka w1 G G0 hnn
 rintro n ρ G hn1 ⟨g0,g1,g6,g8,hn,hx,hr,o,hbo,hol,hok,hs,hz⟩
 by_cases hnl:n < a.length
 ·obtain ⟨i,hi⟩:∃ i,a.length - n=i + 1:=⟨a.length - n - 1,by omega⟩
  have hil:i < a.length:=by omega
  have g8':ρ 8=.int .i64 (i:Int):=by rw [g8];congr 1;omega
  have e8:IntKind.i64.wrap ((i:Int) - 1)=(a.length:Int) - 1 - ((n + 1:Nat):Int):=by rw [a0Q (by omega) (by omega)];omega
  rw [hi] at hr hs hz
  have hdr:=f0s hil
  have hA3:=c0a ha.ok i
  have aL:∀ G2,Ext H G2→b0y G2 false 1 (adr 1 v i)=some (.int .u32 ((a.getD i 0:Nat):Int)):=fun G2 h=>ha.load hil h
  generalize a.getD i 0=U at hdr hA3 aL
  generalize a0w (a.drop (i + 1))=D at hdr hr hs
  simp [u0l,g8']
  refine j0N.mk true (by simp) (fun _=>⟨hnl,?_⟩) (by simp)
  simp [F0u]
  refine T0f (fun q ρ G=>ρ 0=v∧ρ 1=w∧ρ 6=.slice (some ⟨p,0,none⟩) a.length a.length∧ρ 8=.int .i64 (i:Int)∧ρ 9=.int .i64 ((31:Int) - q)∧q≤32∧Ext H G∧Lim G (ρ 7) (a0p ((D * 2 ^ q + U / 2 ^ (32 - q)) % B)) ∧
    ∃ o,a0f.blk G p=.row false a0j (c0b o)∧o.length=a.length∧b0s o∧a0w o=4294967296 ^ i * (2 ^ (32 - q) * ((D * 2 ^ q + U / 2 ^ (32 - q)) / B))∧(∀ t,t < i→o.getD t 0=0)∧o.getD i 0 % 2 ^ (32 - q)=0)
   32 (by decide) ?_ ?_
  ·have hU:U / 2 ^ 32=0:=h1z (by omega)
   refine ⟨by simp [g0],by simp [g1],by simp [g6],by simp [g8'],by simp,by omega,hx,?_,o,hbo,hol,hok,?_,fun t ht=>hz t (by omega),?_⟩
   ·rw [i1P,hU,Nat.pow_zero,g1S,g1M];simpa using hr
   ·rw [i1P,hU,Nat.pow_zero,g1S,g1M,hs,g1f,f1Z]
   ·rw [hz i (by omega)]
  clear g0 g1 g6 g8 g8' hx hr hbo hol hok hs hz o G ρ
  rintro q ρ G hq1 ⟨g0,g1,g6,g8,g9,hq2,hx,hr,o,hbo,hol,hok,hs,hz,hbit⟩
  by_cases hq:q < 32
  ·obtain ⟨k,hk⟩:∃ k,32 - q=k + 1:=⟨31 - q,by omega⟩
   have g9':ρ 9=.int .i64 (k:Int):=by rw [g9];congr 1;omega
   have e9:IntKind.i64.wrap ((k:Int) - 1)=(31:Int) - ((q + 1:Nat):Int):=by rw [a0Q (by omega) (by omega)];omega
   have hk2:32 - (q + 1)=k:=by omega
   have ek:IntKind.u64.wrap (k:Int)=(k:Int):=by rw [a0x];omega
   have ka:=ha.mono hx
   have a1:=ka.ia hil (k:=.i64)
   have a2:=aL G hx
   have hsh:d0a 0 .shr (.int .u32 (U:Int)) (.int .u64 (k:Int))=some (.int .u32 ((U / 2 ^ k:Nat):Int)):=q0Y (by omega)
   have hUk:U / 2 ^ k < 4294967296:=i1I (g1Q _ _) hA3
   have han:=T0j hUk
   have hhb:=A0l U k
   rw [hk] at hr hs hbit
   obtain ⟨X,hX⟩:∃ X,D * 2 ^ q + U / 2 ^ (k + 1)=X:=⟨_,rfl⟩
   have hXs:D * 2 ^ (q + 1) + U / 2 ^ k=2 * X + U / 2 ^ k % 2:=by
    have:D * 2 ^ (q + 1)=2 * (D * 2 ^ q):=by rw [g1f,← f1Z,g1k]
    omega
   rw [hX] at hr hs
   obtain ⟨bt,hbt⟩:∃ bt,U / 2 ^ k % 2=bt:=⟨_,rfl⟩
   rw [hbt] at han hXs
   have hbt2:bt < 2:=by omega
   obtain ⟨Uk,hUK⟩:∃ Uk,U / 2 ^ k=Uk:=⟨_,rfl⟩
   rw [hUK] at hsh han hXs hUk hhb hbt
   have hst:=J0Y (X:=X) hB rfl hbt2
   have hRB:X % B < B:=h1e _ hB
   obtain ⟨r0,g7⟩:∃ r0,ρ 7=r0:=⟨_,rfl⟩
   rw [g7] at hr
   have hlenR:(a0p (X % B)).length≤(a0p B).length:=a0X (i1g hRB)
   have hbn:((bt:Int) == 1).toNat=bt:=by
    have:bt=0 ∨ bt=1:=by omega
    rcases this with h | h <;> rw [h] <;> rfl
   simp [u0m,g9']
   refine j0N.mk true (by simp) (fun _=>⟨hq,?_⟩) (by simp)
   simp [F0v,g0,g7,g8,g9',a1,a2,ek,hsh,han]
   refine (n0Q hr hx.1 (by omega)).mono ?_
   rintro r1 G1 ⟨⟨hr1,hn1'⟩,hx2⟩
   have hnp1:=hn1'.ne (a0l hbo)
   rw [a0q,hbn] at hr1
   replace hx:=hx.trans hx2
   replace hbo:=hx2.blk hbo
   have kb:=hb.mono hx
   obtain ⟨R',hR'⟩:∃ R',2 * (X % B) + bt=R':=⟨_,rfl⟩
   rw [hR'] at hr1
   have hlen:(a0p R').length≤(a0p B).length + 1:=by
    refine e0d ?_
    have:=e0q B
    rw [g1f]
    omega
   rw [hR'] at hst
   simp [w0G,g1]
   refine (i0F hr1 kb hx.1 (by omega)).mono ?_
   rintro _ G2 ⟨rfl,hx2⟩
   rw [d0x,c0d]
   replace hx:=hx.trans hx2
   replace hbo:=hx2.blk hbo
   replace kb:=kb.mono hx2
   replace hr1:=hr1.mono hx2
   have hiL:i < o.length:=by omega
   by_cases hge:B≤R'
   ·have hc1:¬ R' < B:=by omega
    have hc2:((0:Int)≤if B < R' then 1 else 0):=by split <;> decide
    obtain ⟨d1,d2⟩:=hst.2 hge
    simp [hc1,hc2,w0H,g1]
    refine (k0K hr1 kb hx.1 (by omega) (a0X hge) (by rw [a0q,a0q];exact hge) (by
     rcases h1P (a0p R').length with h | h
     ·have:=b0I.1 (g1p.1 h);omega
     ·exact h)).mono ?_
    rintro r2 G3 ⟨⟨hr2,hn2'⟩,hx2⟩
    have hnp2:=hn2'.ne (a0l hbo)
    rw [a0q,a0q] at hr2
    replace hx:=hx.trans hx2
    replace hbo:=hx2.blk hbo
    obtain ⟨o1,o2⟩:=e0Z (k:=.i64) (cap:=a.length) hbo hiL hol
    have hol3:=c0a hok i
    have hset:=h0y o i (o.getD i 0 + 2 ^ k) hiL
    generalize hy:o.getD i 0=y at o2 hol3 hset hbit
    obtain ⟨hy1,hor⟩:=X0U (by omega) hol3 hbit
    have hsl:d0a 0 .shl (.int .u32 1) (.int .u64 (k:Int))=some (.int .u32 ((2 ^ k:Nat):Int)):=by
     have h:=q0X (tag:=0) (n:=1) (s:=k) (k':=.u64) (by omega)
     have h2:1 * 2 ^ k % 4294967296=2 ^ k:=by rw [g1A];exact g1j (by omega)
     rw [h2] at h;exact h
    have hsto:=e0h (fl:=H.size) (x:=y + 2 ^ k) hbo hP hiL
    have hyb:(y + 2 ^ k) % 2 ^ k=0:=by
     obtain ⟨z,hz⟩:=Nat.dvd_of_mod_eq_zero hbit
     rw [hz,g1f,f1Z,Nat.add_mod_right,Nat.mul_mod_right]
    have hpk:2 ^ (k + 1)=2 * 2 ^ k:=by rw [g1f,g1k]
    obtain ⟨K,hpk'⟩:∃ K,K=2 ^ k:=⟨_,rfl⟩
    rw [← hpk'] at hy1 hor hsl hsto hyb hset hpk
    have hbo':=hbo
    have hmodK:∀ y,y % K=0→True:=fun _ _=>trivial
    simp [-Int.natCast_add,-j0S,w0I,g6,g8,g9',o1,o2,ek,hsl,hor,hsto]
    unfold e0t
    simp [-Int.natCast_add,q0H,g9',e9]
    refine b0T.mk ⟨by simp [g0],by simp [g1],by simp [g6],by simp [g8],by simp,by omega,hx.set hP,?_,o.set i (y + K),a0B (a0l hbo),by simp [hol],b0Y hok hy1,?_,?_,?_⟩
    ·rw [hk2,hUK,hXs,d2]
     simp
     exact Lim.off hr2 (e0l.refl.set) hnp2
    ·rw [hk2,hUK,hXs,d1,← hpk']
     rw [hs,hpk] at hset
     have f1:4294967296 ^ i * (K * (2 * (X / B) + 1))=4294967296 ^ i * (2 * K * (X / B)) + 4294967296 ^ i * K:=by
      rw [← f1V];congr 1;rw [f1V,g1S];congr 1;rw [h1E,f1Z]
     rw [f1V] at hset
     omega
    ·intro t ht
     have h:=(b0L (l:=o) (z:=y + K) (show i ≠ t by omega)).trans (hz t ht)
     rw [f1H] at h;exact h
    ·rw [hk2,← hpk',h1h hiL];exact hyb
   ·obtain ⟨d1,d2⟩:=hst.1 (by omega)
    have hc1:R' < B:=by omega
    have hpk:2 ^ (k + 1)=2 * 2 ^ k:=by rw [g1f,g1k]
    simp [hc1]
    unfold e0t
    simp [-Int.natCast_add,q0H,g9',e9]
    refine b0T.mk ⟨by simp [g0],by simp [g1],by simp [g6],by simp [g8],by simp,by omega,hx,?_,o,hbo,hol,hok,?_,?_,?_⟩
    ·rw [hk2,hUK,hXs,d2]
     simp
     exact hr1
    ·rw [hk2,hUK,hXs,d1,hs,hpk]
     congr 1
     rw [h1E,f1Z]
    ·intro t ht
     have h:=hz t ht
     rw [f1H] at h;exact h
    ·rw [hk2]
     obtain ⟨z,hz2⟩:=Nat.dvd_of_mod_eq_zero hbit
     rw [f1H] at hz2
     rw [hz2,g1f,f1Z,Nat.mul_mod_right]
  ·have hq3:q=32:=by omega
   subst hq3
   rw [Nat.sub_self,Nat.pow_zero,Nat.div_one,g1A] at hs
   rw [Nat.sub_self,Nat.pow_zero,Nat.div_one] at hr
   have hD:D * 2 ^ 32 + U=a0w (a.drop i):=by rw [hdr];omega
   rw [hD] at hr hs
   simp [u0m,g9]
   refine j0N.mk false (by simp) (by simp) (fun _=>?_)
   unfold e0t
   simp [-Int.natCast_add,w0J,g8,e8]
   have hi2:a.length - (n + 1)=i:=by omega
   refine b0T.mk ⟨by simp [g0],by simp [g1],by simp [g6],by simp,by omega,hx,by rw [hi2];simpa using hr,o,hbo,hol,hok,by rw [hi2];exact hs,fun t ht=>?_⟩
   have h:=hz t (by omega)
   rw [f1H] at h;exact h
 ·have hn2:n=a.length:=by omega
  subst hn2
  rw [Nat.sub_self,h1o,hAn] at hr hs
  rw [Nat.pow_zero,g1A] at hs
  simp [u0l,g8]
  refine j0N.mk false (by simp;omega) (by simp) (fun _=>?_)
  obtain ⟨r0,g7⟩:∃ r0,ρ 7=r0:=⟨_,rfl⟩
  rw [g7] at hr
  simp [w0K,g6,g7]
  refine (f0a (l:=o) ⟨⟨by simp,.inr ⟨p,0,a.length,false,c0b o,by rw [hol],hbo,by simp,by rw [h1o,g1S,← i0v (l:=o),g1d]⟩⟩,hok⟩ hx.1 (by omega)).mono ?_
  rintro r G2 ⟨ht,hx2⟩
  rw [b0S _ hok,hs] at ht
  simp [g7]
  exact fun _=>⟨_,_,⟨rfl,rfl⟩,ht,hr.mono hx2⟩
end
section
open Go
set_option maxHeartbeats 4000000
variable {fl:Nat} {H G:a0f} {R:a0E} {v w:Value} {i j:Bool × List Nat}
theorem i0E (h:b0f H v i) (hf:fl≤H.size) (hn:i.2.length≤1073741824):a0U env fl t0m [v] H (fun r H'=>b0f H' r (a0k (-a0z i))∧Ext H H') R:=by
 have k0:=h
 have hok:=h.ok
 obtain ⟨s,rfl,hs⟩:=h
 refine a0i c1w hf (h:=?_)
 intro ρ h0
 simp [L0I,D0T,h0,hs.cells]
 generalize hG:Array.push (Array.push H _) _=G
 have hx2:Ext H G:=by rw [← hG];exact (Ext.refl H).push.push
 have b0:a0f.blk G H.size=.row false a0a [.bool i.1,s]:=by rw [← hG];simp
 have b1:a0f.blk G (H.size + 1)=.row false a0a [.bool false,.slice none 0 0]:=by rw [← hG];simp
 have hx:=Ext.refl H
 clear hG
 replace hx:=hx.trans hx2;replace k0:=k0.mono hx2
 simp [D0U,b0]
 refine (b0M k0 hx.1 (by omega)).mono ?_
 rintro _ G2 ⟨⟨s1,rfl,k1⟩,hx2⟩
 replace b0:=hx2.blk b0;replace b1:=hx2.blk b1;replace hx:=hx.trans hx2;replace k0:=k0.mono hx2
 have hsz:=hx.1
 simp [b0,k1.cells,k1.plain,hsz]
 generalize hS:Array.setIfInBounds G2 _ _=G3
 have hsz:=hx.1;replace k0:=k0.setS hS b0 (by decide);replace k1:=k1.setS hS b0 (by decide);replace b1:=a0o hS b1 (by omega);replace hx:=a0J hS hx (by omega);replace b0:=a0u hS b0;clear hS hsz
 simp [D0V,b0]
 have hl:=a0v hok
 refine (c0c (-a0z i) k1 hx.1 (by show (a0p _).length≤_;omega) ?_).mono ?_
 ·show (if (!decide (a0z i < 0))=true then -((a0w (a0p (a0z i).natAbs):Nat):Int) else _)=_
  rw [a0q]
  by_cases hz:a0z i < 0 <;> simp [hz,a0q,a0k] <;> omega
 rintro _ G2 ⟨⟨s2,rfl,k2⟩,hx2⟩
 replace b0:=hx2.blk b0;replace b1:=hx2.blk b1;replace hx:=hx.trans hx2;replace k0:=k0.mono hx2;replace k1:=k1.mono hx2
 have hsz:=hx.1
 simp [b1,k2.cells,k2.plain,hsz]
 generalize hS:Array.setIfInBounds G2 _ _=G4
 have hsz:=hx.1;replace k0:=k0.setS hS b1 (by decide);replace k1:=k1.setS hS b1 (by decide);replace k2:=k2.setS hS b1 (by decide);replace b0:=a0o hS b0 (by omega);replace hx:=a0J hS hx (by omega);replace b1:=a0u hS b1;clear hS hsz
 simp [b1]
 exact fun _=>⟨s2,rfl,k2⟩
theorem V0b (x y:Int):(if (decide (x < 0) != decide (y < 0))=true then -((x.natAbs * y.natAbs:Nat):Int) else ((x.natAbs * y.natAbs:Nat):Int))=x * y:=by
 rw [← h1n]
 by_cases hi:x < 0 <;> by_cases hj:y < 0
 ·have:=Int.mul_pos_of_neg_of_neg hi hj
  simp [hi,hj];omega
 ·have:=g1G (Int.le_of_lt hi) (show 0≤y by omega)
  simp [hi,hj];omega
 ·have:=Int.mul_nonpos_of_nonneg_of_nonpos (show 0≤x by omega) (Int.le_of_lt hj)
  simp [hi,hj];omega
 ·have:=i1a (show 0≤x by omega) (show 0≤y by omega)
  simp [hi,hj];omega
theorem d0z (h:b0f H v i) (k:b0f H w j) (hf:fl≤H.size) (hn:i.2.length < 268435456) (hm:j.2.length < 268435456):a0U env fl A0e [v,w] H (fun r H'=>b0f H' r (a0k (a0z i * a0z j))∧Ext H H') R:=by
 have k0:=h
 have k1:=k
 have hok:=h.ok
 have hok2:=k.ok
 obtain ⟨s,rfl,hs⟩:=h
 obtain ⟨u,rfl,hu⟩:=k
 refine a0i f1a hf (h:=?_)
 intro ρ h0
 simp [a1z,Q0Z,h0,hs.cells,hu.cells]
 generalize hG:Array.push (Array.push (Array.push H _) _) _=G
 have hx2:Ext H G:=by rw [← hG];exact (Ext.refl H).push.push.push
 have b0:a0f.blk G H.size=.row false a0a [.bool i.1,s]:=by rw [← hG];simp
 have b1:a0f.blk G (H.size + 1)=.row false a0a [.bool j.1,u]:=by rw [← hG];simp
 have b2:a0f.blk G (H.size + 2)=.row false a0a [.bool false,.slice none 0 0]:=by rw [← hG];simp
 have hx:=Ext.refl H
 clear hG
 replace hx:=hx.trans hx2;replace k0:=k0.mono hx2;replace k1:=k1.mono hx2
 simp [R0a,b0]
 refine (b0M k0 hx.1 (by omega)).mono ?_
 rintro _ G2 ⟨⟨s1,rfl,k2⟩,hx2⟩
 replace b0:=hx2.blk b0;replace b1:=hx2.blk b1;replace b2:=hx2.blk b2;replace hx:=hx.trans hx2;replace k0:=k0.mono hx2;replace k1:=k1.mono hx2
 have hsz:=hx.1
 simp [b0,k2.cells,k2.plain,hsz]
 generalize hS:Array.setIfInBounds G2 _ _=G3
 have hsz:=hx.1;replace k0:=k0.setS hS b0 (by decide);replace k1:=k1.setS hS b0 (by decide);replace k2:=k2.setS hS b0 (by decide);replace b1:=a0o hS b1 (by omega);replace b2:=a0o hS b2 (by omega);replace hx:=a0J hS hx (by omega);replace b0:=a0u hS b0;clear hS hsz
 simp [R0b,b1]
 refine (b0M k1 hx.1 (by omega)).mono ?_
 rintro _ G2 ⟨⟨s2,rfl,k3⟩,hx2⟩
 replace b0:=hx2.blk b0;replace b1:=hx2.blk b1;replace b2:=hx2.blk b2;replace hx:=hx.trans hx2;replace k0:=k0.mono hx2;replace k1:=k1.mono hx2;replace k2:=k2.mono hx2
 have hsz:=hx.1
 simp [b1,k3.cells,k3.plain,hsz]
 generalize hS:Array.setIfInBounds G2 _ _=G4
 have hsz:=hx.1;replace k0:=k0.setS hS b1 (by decide);replace k1:=k1.setS hS b1 (by decide);replace k2:=k2.setS hS b1 (by decide);replace k3:=k3.setS hS b1 (by decide);replace b0:=a0o hS b0 (by omega);replace b2:=a0o hS b2 (by omega);replace hx:=a0J hS hx (by omega);replace b1:=a0u hS b1;clear hS hsz
 clear k0 k1
 have hl:=a0v hok
 have hl2:=a0v hok2
 refine a0G ?_
 simp [R0c,b0,b1]
 refine (t0I k2 k3 (by have:=hx.1;omega) (by show (a0p _).length < _;omega) (by show (a0p _).length < _;omega)).mono ?_
 rintro x G2 ⟨k4,hx2⟩
 replace b0:=hx2.blk b0;replace b1:=hx2.blk b1;replace b2:=hx2.blk b2;replace hx:=hx.trans hx2;replace k2:=k2.mono hx2;replace k3:=k3.mono hx2
 rw [show a0w (a0k (a0z i)).2=(a0z i).natAbs from a0q _,show a0w (a0k (a0z j)).2=(a0z j).natAbs from a0q _] at k4
 simp
 have hlen:(a0p ((a0z i).natAbs * (a0z j).natAbs)).length≤i.2.length + j.2.length:=by
  refine f1Y (e0d (k:=(a0p (a0z i).natAbs).length + (a0p (a0z j).natAbs).length) ?_) (by omega)
  rw [h1F]
  exact Nat.mul_lt_mul_of_lt_of_le (e0q _) (i1g (e0q _)) (Nat.pow_pos (by omega))
 refine (c0c (a0z i * a0z j) k4 hx.1 (by omega) ?_).mono ?_
 ·rw [a0q]
  exact V0b _ _
 rintro _ G2 ⟨⟨s3,rfl,k5⟩,hx2⟩
 replace b0:=hx2.blk b0;replace b1:=hx2.blk b1;replace b2:=hx2.blk b2;replace hx:=hx.trans hx2;replace k2:=k2.mono hx2;replace k3:=k3.mono hx2;replace k4:=k4.mono hx2
 have hsz:=hx.1
 simp [b2,k5.cells,k5.plain,hsz]
 generalize hS:Array.setIfInBounds G2 _ _=G5
 have hsz:=hx.1;replace k2:=k2.setS hS b2 (by decide);replace k3:=k3.setS hS b2 (by decide);replace k4:=k4.setS hS b2 (by decide);replace k5:=k5.setS hS b2 (by decide);replace b0:=a0o hS b0 (by omega);replace b1:=a0o hS b1 (by omega);replace hx:=a0J hS hx (by omega);replace b2:=a0u hS b2;clear hS hsz
 simp [b2]
 exact fun _=>⟨s3,rfl,k5⟩
theorem c0i {n:Nat} (h:0 < n):0 < (a0p n).length:=by
 rcases h1P (a0p n).length with h2 | h2
 ·have:=b0I.1 (g1p.1 h2);omega
 ·exact h2
theorem m0n (h:b0f H v i) (k:b0f H w j) (hf:fl≤H.size) (hn:i.2.length < 268435456) (hm:j.2.length < 268435456):a0U env fl x0Q [v,w] H (fun r H'=>b0f H' r (a0k (a0z i + a0z j))∧Ext H H') R:=by
 have k0:=h
 have k1:=k
 have hok:=h.ok
 have hok2:=k.ok
 obtain ⟨s,rfl,hs⟩:=h
 obtain ⟨u,rfl,hu⟩:=k
 refine a0i c1e hf (h:=?_)
 intro ρ h0
 simp [L0q,C0u,h0,hs.cells,hu.cells]
 generalize hG:Array.push (Array.push (Array.push H _) _) _=G
 have hx2:Ext H G:=by rw [← hG];exact (Ext.refl H).push.push.push
 have b0:a0f.blk G H.size=.row false a0a [.bool i.1,s]:=by rw [← hG];simp
 have b1:a0f.blk G (H.size + 1)=.row false a0a [.bool j.1,u]:=by rw [← hG];simp
 have b2:a0f.blk G (H.size + 2)=.row false a0a [.bool false,.slice none 0 0]:=by rw [← hG];simp
 have hx:=Ext.refl H
 clear hG
 replace hx:=hx.trans hx2;replace k0:=k0.mono hx2;replace k1:=k1.mono hx2
 simp [C0v,b0]
 refine (b0M k0 hx.1 (by omega)).mono ?_
 rintro _ G2 ⟨⟨s1,rfl,k2⟩,hx2⟩
 replace b0:=hx2.blk b0;replace b1:=hx2.blk b1;replace b2:=hx2.blk b2;replace hx:=hx.trans hx2;replace k0:=k0.mono hx2;replace k1:=k1.mono hx2
 have hsz:=hx.1
 simp [b0,k2.cells,k2.plain,hsz]
 generalize hS:Array.setIfInBounds G2 _ _=G3
 have hsz:=hx.1;replace k0:=k0.setS hS b0 (by decide);replace k1:=k1.setS hS b0 (by decide);replace k2:=k2.setS hS b0 (by decide);replace b1:=a0o hS b1 (by omega);replace b2:=a0o hS b2 (by omega);replace hx:=a0J hS hx (by omega);replace b0:=a0u hS b0;clear hS hsz
 simp [C0w,b1]
 refine (b0M k1 hx.1 (by omega)).mono ?_
 rintro _ G2 ⟨⟨s2,rfl,k3⟩,hx2⟩
 replace b0:=hx2.blk b0;replace b1:=hx2.blk b1;replace b2:=hx2.blk b2;replace hx:=hx.trans hx2;replace k0:=k0.mono hx2;replace k1:=k1.mono hx2;replace k2:=k2.mono hx2
 have hsz:=hx.1
 simp [b1,k3.cells,k3.plain,hsz]
 generalize hS:Array.setIfInBounds G2 _ _=G4
 have hsz:=hx.1;replace k0:=k0.setS hS b1 (by decide);replace k1:=k1.setS hS b1 (by decide);replace k2:=k2.setS hS b1 (by decide);replace k3:=k3.setS hS b1 (by decide);replace b0:=a0o hS b0 (by omega);replace b2:=a0o hS b2 (by omega);replace hx:=a0J hS hx (by omega);replace b1:=a0u hS b1;clear hS hsz
 clear k0 k1
 have hl:=a0v hok
 have hl2:=a0v hok2
 obtain ⟨x,hx'⟩:∃ x,a0z i=x:=⟨_,rfl⟩
 obtain ⟨y,hy'⟩:∃ y,a0z j=y:=⟨_,rfl⟩
 rw [hx'] at b0 k2 hl ⊢
 rw [hy'] at b1 k3 hl2 ⊢
 have n1:a0w (a0k x).2=x.natAbs:=a0q _
 have n2:a0w (a0k y).2=y.natAbs:=a0q _
 have l1:(a0k x).2.length=(a0p x.natAbs).length:=rfl
 have l2:(a0k y).2.length=(a0p y.natAbs).length:=rfl
 have hlen:∀ m,m≤x.natAbs + y.natAbs→(a0p m).length≤i.2.length + j.2.length + 1:=by
  intro m hm
  refine f1Y (e0d (k:=(a0p x.natAbs).length + (a0p y.natAbs).length + 1) ?_) (by omega)
  have h1:=e0q x.natAbs
  have h2:=e0q y.natAbs
  have h3:4294967296 ^ (a0p x.natAbs).length≤4294967296 ^ ((a0p x.natAbs).length + (a0p y.natAbs).length):=g1W (by omega) (by omega)
  have h4:4294967296 ^ (a0p y.natAbs).length≤4294967296 ^ ((a0p x.natAbs).length + (a0p y.natAbs).length):=g1W (by omega) (by omega)
  rw [g1f]
  omega
 have c1:(a0k x).1=decide (x < 0):=rfl
 have c2:(a0k y).1=decide (y < 0):=rfl
 rw [c1] at b0
 rw [c2] at b1
 by_cases hsg:decide (x < 0)=decide (y < 0)
 ·simp [t0M,b0,b1,hsg]
  refine a0G ?_
  simp [C0x,b0,b1,hsg]
  refine (t0H k2 k3 (by have:=hx.1;omega) (by omega) (by omega)).mono ?_
  rintro z G2 ⟨k4,hx2⟩
  replace b0:=hx2.blk b0;replace b1:=hx2.blk b1;replace b2:=hx2.blk b2;replace hx:=hx.trans hx2;replace k2:=k2.mono hx2;replace k3:=k3.mono hx2
  rw [n1,n2] at k4
  simp
  refine (c0c (x + y) k4 hx.1 (by have:=hlen _ (f1I _);omega) ?_).mono ?_
  ·rw [a0q]
   by_cases hx0:x < 0
   ·have hy0:y < 0:=by simpa [hx0] using hsg
    simp [hy0];omega
   ·have hy0:¬ y < 0:=by simpa [hx0] using hsg
    simp [hy0];omega
  rintro _ G2 ⟨⟨s3,rfl,k5⟩,hx2⟩
  replace b0:=hx2.blk b0;replace b1:=hx2.blk b1;replace b2:=hx2.blk b2;replace hx:=hx.trans hx2;replace k2:=k2.mono hx2;replace k3:=k3.mono hx2;replace k4:=k4.mono hx2
  have hsz:=hx.1
  simp [b2,k5.cells,k5.plain,hsz]
  generalize hS:Array.setIfInBounds G2 _ _=G5
  have hsz:=hx.1;replace k2:=k2.setS hS b2 (by decide);replace k3:=k3.setS hS b2 (by decide);replace k4:=k4.setS hS b2 (by decide);replace k5:=k5.setS hS b2 (by decide);replace b0:=a0o hS b0 (by omega);replace b1:=a0o hS b1 (by omega);replace hx:=a0J hS hx (by omega);replace b2:=a0u hS b2;clear hS hsz
  simp [b2]
  exact fun _=>⟨s3,rfl,k5⟩
 ·simp [t0M,b0,b1,hsg,C0y]
  refine (i0F k2 k3 hx.1 (by omega)).mono ?_
  rintro _ G2 ⟨rfl,hx2⟩
  replace b0:=hx2.blk b0;replace b1:=hx2.blk b1;replace b2:=hx2.blk b2;replace hx:=hx.trans hx2;replace k2:=k2.mono hx2;replace k3:=k3.mono hx2
  rw [show x0J (a0k x).2 (a0k y).2=c0x x.natAbs y.natAbs from d0x _ _,c0d]
  by_cases hge:y.natAbs≤x.natAbs
  ·have q1:¬ x.natAbs < y.natAbs:=by omega
   have q2:((0:Int)≤if y.natAbs < x.natAbs then 1 else 0):=by split <;> decide
   simp [q1,q2]
   refine a0G ?_
   simp [C0z,b0,b1]
   have hpos:0 < x.natAbs:=by
    rcases h1P x.natAbs with h0 | h0
    ·have e1:x=0:=by omega
     have e2:y=0:=by omega
     subst e1 e2;exact g1g rfl hsg
    ·exact h0
   refine (m0q k2 k3 (by have:=hx.1;omega) (by omega) (a0X hge) (by rw [n1,n2];exact hge) (c0i hpos)).mono ?_
   rintro z G2 ⟨k4,hx2⟩
   replace b0:=hx2.blk b0;replace b1:=hx2.blk b1;replace b2:=hx2.blk b2;replace hx:=hx.trans hx2;replace k2:=k2.mono hx2;replace k3:=k3.mono hx2
   rw [n1,n2] at k4
   simp
   refine (c0c (x + y) k4 hx.1 (by have:=hlen (x.natAbs - y.natAbs) (by omega);omega) ?_).mono ?_
   ·rw [a0q]
    by_cases hx0:x < 0
    ·have hy0:¬ y < 0:=by simpa [hx0] using hsg
     simp [hx0];omega
    ·have hy0:y < 0:=by simpa [hx0] using hsg
     simp [hx0];omega
   rintro _ G2 ⟨⟨s3,rfl,k5⟩,hx2⟩
   replace b0:=hx2.blk b0;replace b1:=hx2.blk b1;replace b2:=hx2.blk b2;replace hx:=hx.trans hx2;replace k2:=k2.mono hx2;replace k3:=k3.mono hx2;replace k4:=k4.mono hx2
   have hsz:=hx.1
   simp [b2,k5.cells,k5.plain,hsz]
   generalize hS:Array.setIfInBounds G2 _ _=G5
   have hsz:=hx.1;replace k2:=k2.setS hS b2 (by decide);replace k3:=k3.setS hS b2 (by decide);replace k4:=k4.setS hS b2 (by decide);replace k5:=k5.setS hS b2 (by decide);replace b0:=a0o hS b0 (by omega);replace b1:=a0o hS b1 (by omega);replace hx:=a0J hS hx (by omega);replace b2:=a0u hS b2;clear hS hsz
   simp [b2]
   exact fun _=>⟨s3,rfl,k5⟩
  ·have q1:x.natAbs < y.natAbs:=by omega
   simp [q1]
   refine a0G ?_
   simp [C0A,b0,b1]
   refine (m0q k3 k2 (by have:=hx.1;omega) (by omega) (a0X (by omega)) (by rw [n1,n2];omega) (c0i (by omega))).mono ?_
   rintro z G2 ⟨k4,hx2⟩
   replace b0:=hx2.blk b0;replace b1:=hx2.blk b1;replace b2:=hx2.blk b2;replace hx:=hx.trans hx2;replace k2:=k2.mono hx2;replace k3:=k3.mono hx2
   rw [n1,n2] at k4
   simp
   refine (c0c (x + y) k4 hx.1 (by have:=hlen (y.natAbs - x.natAbs) (by omega);omega) ?_).mono ?_
   ·rw [a0q]
    by_cases hx0:x < 0
    ·have hy0:¬ y < 0:=by simpa [hx0] using hsg
     simp [hy0];omega
    ·have hy0:y < 0:=by simpa [hx0] using hsg
     simp [hy0];omega
   rintro _ G2 ⟨⟨s3,rfl,k5⟩,hx2⟩
   replace b0:=hx2.blk b0;replace b1:=hx2.blk b1;replace b2:=hx2.blk b2;replace hx:=hx.trans hx2;replace k2:=k2.mono hx2;replace k3:=k3.mono hx2;replace k4:=k4.mono hx2
   have hsz:=hx.1
   simp [b2,k5.cells,k5.plain,hsz]
   generalize hS:Array.setIfInBounds G2 _ _=G5
   have hsz:=hx.1;replace k2:=k2.setS hS b2 (by decide);replace k3:=k3.setS hS b2 (by decide);replace k4:=k4.setS hS b2 (by decide);replace k5:=k5.setS hS b2 (by decide);replace b0:=a0o hS b0 (by omega);replace b1:=a0o hS b1 (by omega);replace hx:=a0J hS hx (by omega);replace b2:=a0u hS b2;clear hS hsz
   simp [b2]
   exact fun _=>⟨s3,rfl,k5⟩
theorem t0G (h:b0f H v i) (k:b0f H w j) (hf:fl≤H.size) (hn:i.2.length < 268435456) (hm:j.2.length < 268435456):a0U env fl z0I [v,w] H (fun r H'=>b0f H' r (a0k (a0z i - a0z j))∧Ext H H') R:=by
 have k0:=h
 have k1:=k
 have hok2:=k.ok
 obtain ⟨s,rfl,hs⟩:=h
 obtain ⟨u,rfl,hu⟩:=k
 refine a0i b1V hf (h:=?_)
 intro ρ h0
 simp [L0h,B0t,h0,hs.cells,hu.cells]
 generalize hG:Array.push (Array.push (Array.push H _) _) _=G
 have hx2:Ext H G:=by rw [← hG];exact (Ext.refl H).push.push.push
 have b0:a0f.blk G H.size=.row false a0a [.bool i.1,s]:=by rw [← hG];simp
 have b1:a0f.blk G (H.size + 1)=.row false a0a [.bool j.1,u]:=by rw [← hG];simp
 have b2:a0f.blk G (H.size + 2)=.row false a0a [.bool false,.slice none 0 0]:=by rw [← hG];simp
 have hx:=Ext.refl H
 clear hG
 replace hx:=hx.trans hx2;replace k0:=k0.mono hx2;replace k1:=k1.mono hx2
 refine a0G ?_
 simp [B0u,b0,b1]
 refine (i0E k1 (by have:=hx.1;omega) (by omega)).mono ?_
 rintro x G2 ⟨k2,hx2⟩
 replace b0:=hx2.blk b0;replace b1:=hx2.blk b1;replace b2:=hx2.blk b2;replace hx:=hx.trans hx2;replace k0:=k0.mono hx2;replace k1:=k1.mono hx2
 have hlen:(a0k (-a0z j)).2.length < 268435456:=by
  rw [r0O,Int.natAbs_neg];have:=a0v hok2;omega
 simp
 refine (m0n k0 k2 hx.1 hn hlen).mono ?_
 rintro _ G2 ⟨⟨s3,rfl,k5⟩,hx2⟩
 rw [a0h,← h1N] at k5 ⊢
 replace b0:=hx2.blk b0;replace b1:=hx2.blk b1;replace b2:=hx2.blk b2;replace hx:=hx.trans hx2;replace k0:=k0.mono hx2;replace k1:=k1.mono hx2;replace k2:=k2.mono hx2
 have hsz:=hx.1
 simp [b2,k5.cells,k5.plain,hsz]
 generalize hS:Array.setIfInBounds G2 _ _=G5
 have hsz:=hx.1;replace k0:=k0.setS hS b2 (by decide);replace k1:=k1.setS hS b2 (by decide);replace k2:=k2.setS hS b2 (by decide);replace k5:=k5.setS hS b2 (by decide);replace b0:=a0o hS b0 (by omega);replace b1:=a0o hS b1 (by omega);replace hx:=a0J hS hx (by omega);replace b2:=a0u hS b2;clear hS hsz
 simp [b2]
 exact fun _=>⟨s3,rfl,k5⟩
theorem t0F (h:b0f H v i) (k:b0f H w j) (hf:fl≤H.size) (hn:i.2.length < 268435456) (hm:j.2.length < 268435456):a0U env fl X0y [v,w] H (fun r H'=>r=.int .i64 (c0x (a0z i) (a0z j))∧Ext H H') R:=by
 have k0:=h
 have k1:=k
 obtain ⟨s,rfl,hs⟩:=h
 obtain ⟨u,rfl,hu⟩:=k
 refine a0i e1Z hf (h:=?_)
 intro ρ h0
 simp [a1y,Q0U,h0,hs.cells,hu.cells]
 generalize hG:Array.push (Array.push H _) _=G
 have hx2:Ext H G:=by rw [← hG];exact (Ext.refl H).push.push
 have b0:a0f.blk G H.size=.row false a0a [.bool i.1,s]:=by rw [← hG];simp
 have b1:a0f.blk G (H.size + 1)=.row false a0a [.bool j.1,u]:=by rw [← hG];simp
 have hx:=Ext.refl H
 clear hG
 replace hx:=hx.trans hx2;replace k0:=k0.mono hx2;replace k1:=k1.mono hx2
 simp [Q0V,b0,b1]
 refine (t0G k0 k1 hx.1 hn hm).mono ?_
 rintro _ G2 ⟨⟨s3,rfl,k5⟩,hx2⟩
 obtain ⟨z,hz⟩:∃ z,a0z i - a0z j=z:=⟨_,rfl⟩
 rw [hz] at k5 ⊢
 replace hx:=hx.trans hx2
 have hsz:=hx.1
 simp [k5.cells,k5.plain,hsz]
 generalize hN:Array.setIfInBounds (Array.push _ _) _ _=G3
 obtain ⟨hx2,b2⟩:=new1 hN
 clear hN
 replace hx:=hx.trans hx2;replace k5:=k5.mono hx2
 have hsl:=k5.slen
 have hc1:(a0k z).1=decide (z < 0):=rfl
 have hc2:(a0k z).2.length=(a0p z.natAbs).length:=rfl
 rw [hc1] at b2
 rw [hc2] at hsl
 unfold c0x
 by_cases h0z:z=0
 ·have e1:a0z i=a0z j:=by omega
  subst h0z
  have hd:a0p (Int.natAbs 0)=[]:=a0Y
  simp [x0h,Q0W,b2,hsl,hd,a0Y,e1]
 ·have hpos:=c0i (show 0 < z.natAbs by omega)
  have hne:a0p z.natAbs ≠ []:=fun h=>by rw [h] at hpos;simp at hpos
  by_cases hneg:z < 0
  ·have e1:a0z i < a0z j:=by omega
   simp [x0h,I0F,Q0X,b2,hsl,hne,hneg,e1]
  ·have e1:¬ a0z i < a0z j:=by omega
   have e2:a0z j < a0z i:=by omega
   simp [x0h,I0F,Q0Y,b2,hsl,hne,hneg,e1,e2]
theorem i0D (h:b0f H v i) (k:b0f H w j) (hf:fl≤H.size) (hn:i.2.length < 268435456) (hm:j.2.length < 268435456):a0U env fl x0T [v,w] H (fun r H'=>b0f H' r (a0k (Int.gcd (a0z i) (a0z j)))∧Ext H H') R:=by
 have k0:=h
 have k1:=k
 have hok:=h.ok
 have hok2:=k.ok
 obtain ⟨s,rfl,hs⟩:=h
 obtain ⟨u,rfl,hu⟩:=k
 refine a0i c1r hf (h:=?_)
 intro ρ h0
 simp [L0D,D0A,h0,hs.cells,hu.cells]
 generalize hG:Array.push (Array.push (Array.push H _) _) _=G
 have hx2:Ext H G:=by rw [← hG];exact (Ext.refl H).push.push.push
 have b0:a0f.blk G H.size=.row false a0a [.bool i.1,s]:=by rw [← hG];simp
 have b1:a0f.blk G (H.size + 1)=.row false a0a [.bool j.1,u]:=by rw [← hG];simp
 have b2:a0f.blk G (H.size + 2)=.row false a0a [.bool false,.slice none 0 0]:=by rw [← hG];simp
 have hx:=Ext.refl H
 clear hG
 replace hx:=hx.trans hx2;replace k0:=k0.mono hx2;replace k1:=k1.mono hx2
 have l1:=a0v hok
 have l2:=a0v hok2
 have hfd:∀ x s:Value,J0H false 1 1 (.agg #[x,s])=some s:=fun _ _=>rfl
 refine a0G ?_
 simp [D0B,b0]
 refine (b0M k0 (by have:=hx.1;omega) (by omega)).mono ?_
 rintro _ G2 ⟨⟨s1,rfl,k2⟩,hx2⟩
 replace b0:=hx2.blk b0;replace b1:=hx2.blk b1;replace b2:=hx2.blk b2;replace hx:=hx.trans hx2;replace k0:=k0.mono hx2;replace k1:=k1.mono hx2
 simp [b1,hfd]
 refine (b0M k1 hx.1 (by omega)).mono ?_
 rintro _ G2 ⟨⟨s2,rfl,k3⟩,hx2⟩
 replace b0:=hx2.blk b0;replace b1:=hx2.blk b1;replace b2:=hx2.blk b2;replace hx:=hx.trans hx2;replace k0:=k0.mono hx2;replace k1:=k1.mono hx2;replace k2:=k2.mono hx2
 simp [hfd]
 refine b0Z (fun c t G=>∃ (a b:Nat) (s5 s6:Value),c=b∧t.length=28∧get t 4=.pointer (some ⟨H.size + 2,0,none⟩)∧get t 5=s5∧get t 6=s6 ∧
   Ext H G∧a0f.blk G (H.size + 2)=.row false a0a [.bool false,.slice none 0 0]∧Lim G s5 (a0p a)∧Lim G s6 (a0p b) ∧
   (a0p a).length < 536870912∧(a0p b).length < 536870912∧Nat.gcd a b=Int.gcd (a0z i) (a0z j))
  (fun t G=>∃ (a:Nat) (s5:Value),t.length=28∧get t 4=.pointer (some ⟨H.size + 2,0,none⟩)∧get t 5=s5 ∧
   Ext H G∧a0f.blk G (H.size + 2)=.row false a0a [.bool false,.slice none 0 0]∧Lim G s5 (a0p a)∧(a0p a).length < 536870912∧a=Int.gcd (a0z i) (a0z j)) (a0z j).natAbs ?_ ?_ ?_
 ·exact ⟨(a0z i).natAbs,(a0z j).natAbs,s1,s2,rfl,by simp,by simp,by simp,by simp,hx,b2,k2,k3,by omega,by omega,rfl⟩
 ·clear h0 ρ k0 k1 k2 k3 b0 b1 b2 hx
  rintro c t G ⟨a,b,s5,s6,rfl,ht,g4,g5,g6,hx,b2,k5,k6,la,lb,hg⟩
  obtain ⟨ρ,rfl⟩:=toT ht
  simp only [b0U,Nat.reduceLT] at g4 g5 g6
  by_cases hb:c=0
  ·subst hb
   have hd:=a0Y
   have hsl:=k6.slen
   rw [hd] at hsl
   simp at hsl
   simp [u0c,g6,hsl]
   have hga:a=Int.gcd (a0z i) (a0z j):=by simpa using hg
   rw [hga] at k5 la
   exact ⟨g4,hx,b2,by rw [g5];exact k5,la⟩
  ·have hpos:=c0i (show 0 < c by omega)
   have hpos':(0:Int) < ((a0p c).length:Int):=by omega
   have hne:a0p c ≠ []:=fun h=>by rw [h] at hpos;simp at hpos
   simp [u0c,D0C,g5,g6,k6.slen,hpos,hpos',hne]
   refine (i0m k5 k6 (by omega) hx.1 la lb).mono ?_
   rintro _ G2 ⟨⟨x,y,rfl,k7,k8⟩,hx2⟩
   simp [D0D,D0E,g6]
   have hlt:=h1e a (show c > 0 by omega)
   have hlc:(a0p (a % c)).length≤(a0p c).length:=a0X (i1g hlt)
   exact ⟨a % c,hlt,g4,hx.trans hx2,hx2.blk b2,c,k6.mono hx2,k8,lb,by omega,by rw [Nat.gcd_comm,← Nat.gcd_rec,Nat.gcd_comm];exact hg⟩
 ·clear h0 ρ k0 k1 k2 k3 b0 b1 b2 hx
  rintro t G ⟨a,s5,ht,g4,g5,hx,b2,k5,la,rfl⟩
  obtain ⟨ρ,rfl⟩:=toT ht
  simp only [b0U,Nat.reduceLT] at g4 g5
  simp [D0F,g5]
  refine (c0c ((Int.gcd (a0z i) (a0z j):Nat):Int) k5 hx.1 (by omega) (by simp [a0q])).mono ?_
  rintro _ G2 ⟨⟨s3,rfl,k5⟩,hx2⟩
  replace b2:=hx2.blk b2;replace hx:=hx.trans hx2
  have hsz:=hx.1
  simp [g4,b2,k5.cells,k5.plain,hsz]
  generalize hS:Array.setIfInBounds G2 _ _=G5
  have hsz:=hx.1;replace k5:=k5.setS hS b2 (by decide);replace hx:=a0J hS hx (by omega);replace b2:=a0u hS b2;clear hS hsz
  simp [b2]
  exact fun _=>⟨s3,rfl,k5⟩
end
section
open Go
set_option maxHeartbeats 4000000
variable {fl:Nat} {H G:a0f} {R:a0E} {v w:Value}
theorem k0n {n:Int} (hf:fl≤H.size) (h1:-9223372036854775808≤n) (h2:n < 9223372036854775808):a0U env fl T0U [.int .i64 n] H (fun r H'=>b0f H' r (a0k n)∧Ext H H') R:=by
 refine a0i e1F hf (h:=?_)
 intro ρ h0
 have e1:0≤n→IntKind.u64.wrap n=((n.natAbs:Nat):Int):=fun _=>by rw [a0x];omega
 have e2:n < 0→IntKind.u64.wrap (-IntKind.u64.wrap n)=((n.natAbs:Nat):Int):=fun _=>by rw [a0x,a0x];omega
 obtain ⟨m,hm⟩:∃ m,n.natAbs=m:=⟨_,rfl⟩
 rw [hm] at e1 e2
 have hm2:m < 18446744073709551616:=by omega
 simp [a1e,O0M,h0]
 generalize hG:Array.push H _=G
 obtain ⟨hx2,b0⟩:=g0B hG
 have hx:=Ext.refl H
 clear hG
 replace hx:=hx.trans hx2
 have q1:IntKind.u32.wrap ((m:Int))=((m % 4294967296:Nat):Int):=by rw [e0O];omega
 have q2:IntKind.u32.wrap (((m / 4294967296:Nat):Int))=((m / 4294967296:Nat):Int):=by rw [e0O];omega
 have q3:d0a 0 .shr (.int .u64 (m:Int)) (.int .u64 32)=some (.int .u64 ((m / 2 ^ 32:Nat):Int)):=V0c (s:=32) (by omega)
 have q4:m / 2 ^ 32=m / 4294967296:=rfl
 rw [q4] at q3
 by_cases hn:n < 0
 ·simp [-Int.natCast_emod,-Int.natCast_ediv,I0h,I0i,O0N,I0j,h0,hn,e2 hn,q1,q2,q3]
  generalize hG:Array.push G _=G1
  obtain ⟨hx2,b1⟩:=g0B hG
  clear hG
  replace b0:=hx2.blk b0;replace hx:=hx.trans hx2
  have hl:Lim G1 (.slice (some ⟨Array.size G,0,none⟩) 2 2) [m % 4294967296,m / 4294967296]:=by
   refine ⟨(Own.mk (fl:=0) (n:=2) (sz:=1) (cs:=c0b [m % 4294967296,m / 4294967296]) ?_ rfl (g1I _)).sl,?_⟩
   ·rw [b1];rfl
   ·intro x hx;simp at hx;omega
  refine (c0c n hl hx.1 (by simp) ?_).mono ?_
  ·have:a0w [m % 4294967296,m / 4294967296]=m:=by simp [a0w];omega
   rw [this]
   simp;omega
  rintro _ G2 ⟨⟨s3,rfl,k5⟩,hx2⟩
  replace b0:=hx2.blk b0;replace b1:=hx2.blk b1;replace hx:=hx.trans hx2
  have hsz:=hx.1
  simp [b0,k5.cells,k5.plain,hsz]
  generalize hS:Array.setIfInBounds G2 _ _=G5
  have hsz:=hx.1;replace k5:=k5.setS hS b0 (by decide);replace hx:=a0J hS hx (by omega);replace b0:=a0u hS b0;clear hS hsz
  simp [b0]
  exact fun _=>⟨s3,rfl,k5⟩
 ·simp [-Int.natCast_emod,-Int.natCast_ediv,I0h,I0i,I0j,h0,hn,e1 (by omega),q1,q2,q3]
  generalize hG:Array.push G _=G1
  obtain ⟨hx2,b1⟩:=g0B hG
  clear hG
  replace b0:=hx2.blk b0;replace hx:=hx.trans hx2
  have hl:Lim G1 (.slice (some ⟨Array.size G,0,none⟩) 2 2) [m % 4294967296,m / 4294967296]:=by
   refine ⟨(Own.mk (fl:=0) (n:=2) (sz:=1) (cs:=c0b [m % 4294967296,m / 4294967296]) ?_ rfl (g1I _)).sl,?_⟩
   ·rw [b1];rfl
   ·intro x hx;simp at hx;omega
  refine (c0c n hl hx.1 (by simp) ?_).mono ?_
  ·have:a0w [m % 4294967296,m / 4294967296]=m:=by simp [a0w];omega
   rw [this]
   simp;omega
  rintro _ G2 ⟨⟨s3,rfl,k5⟩,hx2⟩
  replace b0:=hx2.blk b0;replace hx:=hx.trans hx2
  have hsz:=hx.1
  simp [b0,k5.cells,k5.plain,hsz]
  generalize hS:Array.setIfInBounds G2 _ _=G5
  have hsz:=hx.1;replace k5:=k5.setS hS b0 (by decide);replace hx:=a0J hS hx (by omega);replace b0:=a0u hS b0;clear hS hsz
  simp [b0]
  exact fun _=>⟨s3,rfl,k5⟩
theorem v0A:a0e 0=((false,[]),a0k 1):=by
 show (a0k 0,a0k 1)=_
 rw [e0b]
theorem d0p (hf:fl≤H.size):a0U env fl M0V [] H (fun r H'=>b0X H' r (a0e 0)∧Ext H H') R:=by
 refine a0i f1g hf (h:=?_)
 intro ρ h0
 simp [a1F,R0E,R0F,h0]
 generalize hG:Array.push H _=G
 obtain ⟨hx2,b0⟩:=g0B hG
 have hx:=Ext.refl H
 clear hG
 replace hx:=hx.trans hx2
 refine (k0n hx.1 (by omega) (by omega)).mono ?_
 rintro _ G2 ⟨⟨s3,rfl,k5⟩,hx2⟩
 replace b0:=hx2.blk b0;replace hx:=hx.trans hx2
 have hsz:=hx.1
 simp [b0,k5.cells,k5.plain,hsz,b0v]
 generalize hS:Array.setIfInBounds G2 _ _=G5
 have hsz:=hx.1;replace k5:=k5.setS hS b0 (by decide);replace hx:=a0J hS hx (by omega);replace b0:=a0u hS b0;clear hS hsz
 simp [b0]
 rw [v0A]
 exact fun _=>⟨.slice none 0 0,s3,rfl,Lim.nil,k5⟩
end
section
open Go
set_option maxHeartbeats 4000000
variable {fl:Nat} {H G:a0f} {R:a0E} {v w:Value} {a:b0x}
theorem j0X {n:Nat}:a0p n=[1] ↔ n=1:=by
 constructor
 ·intro h
  have:=a0q n
  rw [h] at this
  simpa [a0w] using this.symm
 ·rintro rfl
  rw [e0e (by omega)]
  simp [a0Y]
theorem Z0f {i:Bool × List Nat} (h:f0H i=true) (hl:i.2 ≠ []) (hok:b0s i.2):a0z i ≠ 0:=by
 intro h0
 have h1:=j0a hok
 unfold e0I at h1
 rw [h,h0] at h1
 simp [a0Y] at h1
 exact hl h1
theorem f0j (h:b0X H v a) (hf:fl≤H.size) (hn:e0F a < 268435456):a0U env fl T0V [v] H (fun r H'=>r=.bool (l0t a)∧Ext H H') R:=by
 have hn1:a.1.2.length < 268435456:=by unfold e0F at hn;omega
 have hn2:a.2.2.length < 268435456:=by unfold e0F at hn;omega
 obtain ⟨s,u,rfl,hs,hu⟩:=h
 obtain ⟨⟨p,lp⟩,⟨q,lq⟩⟩:=a
 simp only at hs hu hn1 hn2
 have k0:b0f H (.agg #[.bool p,s]) (p,lp):=⟨s,rfl,hs⟩
 have k1:b0f H (.agg #[.bool q,u]) (q,lq):=⟨u,rfl,hu⟩
 refine a0i f1r hf (h:=?_)
 intro ρ h0
 simp [a1Q,S0y,h0]
 generalize hG:Array.push H _=G
 obtain ⟨hx2,b0⟩:=g0B hG
 have hx:=Ext.refl H
 clear hG
 replace hs:=hs.mono hx2
 replace hu:=hu.mono hx2
 replace hx:=hx.trans hx2;replace k0:=k0.mono hx2;replace k1:=k1.mono hx2
 have hsl:=hs.slen
 have hul:=hu.slen
 by_cases hc:lq=[]∧q=false
 ·obtain ⟨rfl,rfl⟩:=hc
  have hm:l0t ((p,lp),(false,[]))=(!p && lp.length == 0):=by
   unfold l0t d0C
   have:a0z (false,([]:List Nat))=0:=by simp [a0z,a0w,f0H]
   rw [this]
   cases p <;> simp
  rw [hm]
  simp [x0i,b0,hul]
  cases lp with
  | nil=>cases p <;> simp [I0X,b0,hsl]
  | cons y l =>
   have hne:¬ ((l.length:Int) + 1=0):=by omega
   cases p <;> simp [I0X,b0,hsl,hne]
 ·have hm:l0t ((p,lp),(q,lq))=(f0H (p,lp) && f0H (q,lq) && !q && decide (Int.gcd (a0z (p,lp)) (a0z (q,lq))=1)):=by
   have hz:d0C ((p,lp),(q,lq))=false:=by
    unfold d0C
    cases lq with
    | nil=>cases q with
     | true=>simp
     | false=>exact g1g ⟨rfl,rfl⟩ hc
    | cons y l=>simp
   unfold l0t
   rw [hz,Bool.false_or]
   by_cases h1:f0H (q,lq)=true∧q=false
   ·obtain ⟨h1,rfl⟩:=h1
    have hl:lq ≠ []:=fun h=>hc ⟨h,rfl⟩
    have hv:=Z0f (i:=(false,lq)) h1 hl hu.ok
    have hv2:(a0z (false,lq) != 0)=true:=bne_iff_ne.2 hv
    rw [h1,hv2]
    cases f0H (p,lp) <;> simp [BEq.beq]
   ·cases h2:f0H (q,lq) <;> cases q <;> simp_all
  rw [hm]
  have hg1:∀ (s:Value) (g:Nat) (G:a0f),Lim G s (a0p g)→(decide (((a0p g).length:Int)=1)=true→b0y G false 1 (adr 1 s 0)=some (.int .u32 ((a0p g).getD 0 0:Nat))):=fun s g G h hl=>h.load (by have:=of_decide_eq_true hl;omega) (Ext.refl _)
  cases lq with
  | nil =>
   have hqt:q=true:=by cases q with
    | true=>rfl
    | false=>exact g1g ⟨rfl,rfl⟩ hc
   subst hqt
   simp [x0i,I0Y,b0,hul]
   refine (i0D k0 k1 hx.1 hn1 hn2).mono ?_
   rintro _ G2 ⟨⟨sg,rfl,kg⟩,hx2⟩
   replace b0:=hx2.blk b0;replace hx:=hx.trans hx2;replace k0:=k0.mono hx2;replace k1:=k1.mono hx2
   have hsz:=hx.1
   obtain ⟨g,hg⟩:∃ g,Int.gcd (a0z (p,lp)) (a0z (true,[]))=g:=⟨_,rfl⟩
   rw [hg] at kg ⊢
   simp [kg.cells,kg.plain,hsz]
   generalize hN:Array.setIfInBounds (Array.push _ _) _ _=G3
   obtain ⟨hx2,b2⟩:=new1 hN
   clear hN
   replace b0:=hx2.blk b0;replace hx:=hx.trans hx2;replace k0:=k0.mono hx2;replace k1:=k1.mono hx2
   replace kg:Lim G3 sg (a0p g):=kg.mono hx2
   simp [I0Z,b0]
   refine (e0J k0 hx.1 (g1c hn1 (by omega))).mono ?_
   rintro _ G4 ⟨rfl,hx2⟩
   replace b0:=hx2.blk b0;replace b2:=hx2.blk b2;replace hx:=hx.trans hx2;replace k0:=k0.mono hx2;replace k1:=k1.mono hx2
   replace kg:=kg.mono hx2
   cases h1:f0H (p,lp) with
   | false=>simp
   | true =>
   simp [b0]
   refine (e0J k1 hx.1 (g1c hn2 (by omega))).mono ?_
   rintro _ G5 ⟨rfl,hx2⟩
   replace b0:=hx2.blk b0;replace b2:=hx2.blk b2;replace hx:=hx.trans hx2;replace k0:=k0.mono hx2;replace k1:=k1.mono hx2
   replace kg:=kg.mono hx2
   have hmf:f0H (true,([]:List Nat))=false:=rfl
   simp [hmf]
  | cons y l =>
   have hne:¬ ((l.length:Int) + 1=0):=by omega
   simp [x0i,I0Y,b0,hul,hne]
   refine (i0D k0 k1 hx.1 hn1 hn2).mono ?_
   rintro _ G2 ⟨⟨sg,rfl,kg⟩,hx2⟩
   replace b0:=hx2.blk b0;replace hx:=hx.trans hx2;replace k0:=k0.mono hx2;replace k1:=k1.mono hx2
   have hsz:=hx.1
   obtain ⟨g,hg⟩:∃ g,Int.gcd (a0z (p,lp)) (a0z (q,y::l))=g:=⟨_,rfl⟩
   rw [hg] at kg ⊢
   simp [kg.cells,kg.plain,hsz]
   generalize hN:Array.setIfInBounds (Array.push _ _) _ _=G3
   obtain ⟨hx2,b2⟩:=new1 hN
   clear hN
   replace b0:=hx2.blk b0;replace hx:=hx.trans hx2;replace k0:=k0.mono hx2;replace k1:=k1.mono hx2
   replace kg:Lim G3 sg (a0p g):=kg.mono hx2
   simp [I0Z,b0]
   refine (e0J k0 hx.1 (g1c hn1 (by omega))).mono ?_
   rintro _ G4 ⟨rfl,hx2⟩
   replace b0:=hx2.blk b0;replace b2:=hx2.blk b2;replace hx:=hx.trans hx2;replace k1:=k1.mono hx2
   replace kg:=kg.mono hx2
   cases h1:f0H (p,lp) with
   | false=>simp
   | true =>
   simp [b0]
   refine (e0J k1 hx.1 (g1c hn2 (by omega))).mono ?_
   rintro _ G5 ⟨rfl,hx2⟩
   replace b0:=hx2.blk b0;replace b2:=hx2.blk b2;replace hx:=hx.trans hx2
   replace kg:=kg.mono hx2
   cases h2:f0H (q,y :: l) with
   | false=>simp
   | true =>
   cases q with
   | true=>simp [b0]
   | false =>
   by_cases hgl:(a0p g).length=1
   ·obtain ⟨z,hz⟩:=List.length_eq_one_iff.1 hgl
    have hgz:(g=1)=(z=1):=h1K ⟨fun h=>by have:=j0X.2 h;rw [hz] at this;simpa using this,fun h=>j0X.1 (by rw [hz,h])⟩
    have h3:=kg.ia (show 0 < (a0p g).length by omega) (k:=.i64)
    have h4:=kg.load (show 0 < (a0p g).length by omega) (Ext.refl _)
    rw [hz] at h4
    simp at h3 h4
    simp [b0,b2,kg.slen,hgl,hz,h3,h4,hgz]
    intro _
    rw [i1y,beq_iff_eq,g1T]
    omega
   ·have hgl':¬ ((a0p g).length:Int)=1:=by omega
    have hg1:¬ g=1:=fun h=>hgl (by rw [j0X.2 h];rfl)
    simp [b0,b2,kg.slen,hgl,hgl',hg1]
theorem b0z (h:b0X H v a) (hf:fl≤H.size) (hn:e0F a < 268435456):a0U env fl v0J [v] H (fun r H'=>b0X H' r (a0e (b0u a))∧Ext H H') R:=by
 have hn1:a.1.2.length < 268435456:=by unfold e0F at hn;omega
 have hn2:a.2.2.length < 268435456:=by unfold e0F at hn;omega
 have k0:=h
 obtain ⟨s,u,rfl,hs,hu⟩:=h
 refine a0i e1Y hf (h:=?_)
 intro ρ h0
 simp [a1x,Q0R,h0,hs.cells,hu.cells]
 generalize hG:Array.push (Array.push H _) _=G
 have hx2:Ext H G:=by rw [← hG];exact (Ext.refl H).push.push
 have b0:a0f.blk G H.size=.row false a0b [.bool a.1.1,s,.bool a.2.1,u]:=by rw [← hG];simp
 have b1:a0f.blk G (H.size + 1)=.row false a0b [.bool false,.slice none 0 0,.bool false,.slice none 0 0]:=by rw [← hG];simp
 have hx:=Ext.refl H
 clear hG
 replace hx:=hx.trans hx2;replace k0:=k0.mono hx2
 replace hs:=hs.mono hx2
 replace hu:=hu.mono hx2
 simp [Q0S,b0]
 refine (f0j k0 hx.1 hn).mono ?_
 rintro _ G2 ⟨rfl,hx2⟩
 replace b0:=hx2.blk b0;replace b1:=hx2.blk b1;replace hx:=hx.trans hx2;replace k0:=k0.mono hx2
 replace hs:=hs.mono hx2
 replace hu:=hu.mono hx2
 have hsz:=hx.1
 cases hm:l0t a with
 | false =>
  have hv:b0u a=0:=by
   unfold b0u
   rw [hm]
   split <;> rfl
  simp
  simp [I0E]
  refine (d0p hx.1).mono ?_
  rintro _ G3 ⟨⟨s3,u3,rfl,k3,k4⟩,hx2⟩
  replace b0:=hx2.blk b0;replace b1:=hx2.blk b1;replace hx:=hx.trans hx2;replace k0:=k0.mono hx2
  have hsz:=hx.1
  simp [b1,k3.cells,k3.plain,k4.cells,k4.plain,hsz]
  generalize hS:Array.setIfInBounds G3 _ _=G5
  have hsz:=hx.1;replace k0:=k0.setS hS b1 (by decide);replace k3:=k3.setS hS b1 (by decide);replace k4:=k4.setS hS b1 (by decide);replace b0:=a0o hS b0 (by omega);replace hx:=a0J hS hx (by omega);replace b1:=a0u hS b1;clear hS hsz
  simp [b1]
  rw [hv]
  exact fun _=>⟨s3,u3,rfl,k3,k4⟩
 | true =>
  simp [b0,hu.slen]
  refine ⟨fun hnil=>?_,fun hne=>?_⟩
  ·have hv:b0u a=0:=by
    cases hz:d0C a with
    | true=>unfold b0u;rw [hz];rfl
    | false =>
     exfalso
     unfold l0t at hm
     rw [hz] at hm
     simp at hm
     obtain ⟨⟨⟨⟨m1,m2⟩,m3⟩,m4⟩,m5⟩:=hm
     exact m4 (by unfold a0z;rw [hnil];simp [a0w])
   simp [I0E]
   refine (d0p hx.1).mono ?_
   rintro _ G3 ⟨⟨s3,u3,rfl,k3,k4⟩,hx2⟩
   replace b0:=hx2.blk b0;replace b1:=hx2.blk b1;replace hx:=hx.trans hx2;replace k0:=k0.mono hx2
   have hsz:=hx.1
   simp [b1,k3.cells,k3.plain,k4.cells,k4.plain,hsz]
   generalize hS:Array.setIfInBounds G3 _ _=G5
   have hsz:=hx.1;replace k0:=k0.setS hS b1 (by decide);replace k3:=k3.setS hS b1 (by decide);replace k4:=k4.setS hS b1 (by decide);replace b0:=a0o hS b0 (by omega);replace hx:=a0J hS hx (by omega);replace b1:=a0u hS b1;clear hS hsz
   simp [b1]
   rw [hv]
   exact fun _=>⟨s3,u3,rfl,k3,k4⟩
  ·have hz:d0C a=false:=by
    unfold d0C
    cases hl:a.2.2 with
    | nil=>exact g1g hl hne
    | cons y l=>simp
   have hvp:=k0y hz hm
   unfold l0t at hm
   rw [hz] at hm
   simp at hm
   obtain ⟨⟨⟨⟨m1,m2⟩,m3⟩,m4⟩,m5⟩:=hm
   rw [hvp]
   refine a0G ?_
   simp [Q0T,b0]
   refine (c0c (a0z a.1) hs (by have:=hx.1;omega) (by omega) (by unfold a0z;rw [m1];rfl)).mono ?_
   rintro _ G3 ⟨⟨s3,rfl,k3⟩,hx2⟩
   replace b0:=hx2.blk b0;replace b1:=hx2.blk b1;replace hx:=hx.trans hx2;replace k0:=k0.mono hx2
   replace hu:=hu.mono hx2
   simp [b0]
   refine (c0c (a0z a.2) hu hx.1 (by omega) (by unfold a0z;rw [m2,m3];rfl)).mono ?_
   rintro _ G4 ⟨⟨s4,rfl,k4⟩,hx2⟩
   replace b0:=hx2.blk b0;replace b1:=hx2.blk b1;replace hx:=hx.trans hx2;replace k0:=k0.mono hx2;replace k3:=k3.mono hx2
   have hsz:=hx.1
   simp [b1,k3.cells,k3.plain,k4.cells,k4.plain,hsz,b0v]
   generalize hS:Array.setIfInBounds G4 _ _=G5
   have hsz:=hx.1;replace k0:=k0.setS hS b1 (by decide);replace k3:=k3.setS hS b1 (by decide);replace k4:=k4.setS hS b1 (by decide);replace b0:=a0o hS b0 (by omega);replace hx:=a0J hS hx (by omega);replace b1:=a0u hS b1;clear hS hsz
   simp [b1]
   exact fun _=>⟨s3,s4,rfl,k3,k4⟩
end
section
open Go
set_option maxHeartbeats 4000000
variable {fl:Nat} {H G:a0f} {R:a0E} {v w:Value} {a b:b0x}
theorem d0o (h:b0X H v a) (k:b0X H w b) (hf:fl≤H.size) (hn:e0F a < 67108864) (hm:e0F b < 67108864):a0U env fl K0n [v,w] H (fun r H'=>r=.int .i64 (v0C (b0u a) (b0u b))∧Ext H H') R:=by
 have k0:=h
 have k1:=k
 obtain ⟨s,u,rfl,hs,hu⟩:=h
 obtain ⟨s',u',rfl,hs',hu'⟩:=k
 have z1:=b0N hs.ok hu.ok
 have z2:=b0N hs'.ok hu'.ok
 refine a0i e1E hf (h:=?_)
 intro ρ h0
 simp [a1d,O0I,h0,hs.cells,hu.cells,hs'.cells,hu'.cells]
 generalize hG:Array.push (Array.push H _) _=G
 have hx2:Ext H G:=by rw [← hG];exact (Ext.refl H).push.push
 have b0:a0f.blk G H.size=.row false a0b [.bool a.1.1,s,.bool a.2.1,u]:=by rw [← hG];simp
 have b1:a0f.blk G (H.size + 1)=.row false a0b [.bool b.1.1,s',.bool b.2.1,u']:=by rw [← hG];simp
 have hx:=Ext.refl H
 clear hG
 replace hx:=hx.trans hx2;replace k0:=k0.mono hx2;replace k1:=k1.mono hx2
 simp [O0J,b0]
 refine (b0z k0 hx.1 (by omega)).mono ?_
 rintro _ G2 ⟨⟨s1,u1,rfl,k2,k3⟩,hx2⟩
 replace b0:=hx2.blk b0;replace b1:=hx2.blk b1;replace hx:=hx.trans hx2;replace k0:=k0.mono hx2;replace k1:=k1.mono hx2
 have hsz:=hx.1
 simp [b0,k2.cells,k2.plain,k3.cells,k3.plain,hsz]
 generalize hS:Array.setIfInBounds G2 _ _=G3
 have hsz:=hx.1;replace k0:=k0.setS hS b0 (by decide);replace k1:=k1.setS hS b0 (by decide);replace k2:=k2.setS hS b0 (by decide);replace k3:=k3.setS hS b0 (by decide);replace b1:=a0o hS b1 (by omega);replace hx:=a0J hS hx (by omega);replace b0:=a0u hS b0;clear hS hsz
 simp [O0K,b1]
 refine (b0z k1 hx.1 (by omega)).mono ?_
 rintro _ G2 ⟨⟨s2,u2,rfl,k4,k5⟩,hx2⟩
 replace b0:=hx2.blk b0;replace b1:=hx2.blk b1;replace hx:=hx.trans hx2;replace k0:=k0.mono hx2;replace k1:=k1.mono hx2;replace k2:=k2.mono hx2;replace k3:=k3.mono hx2
 have hsz:=hx.1
 simp [b1,k4.cells,k4.plain,k5.cells,k5.plain,hsz]
 generalize hS:Array.setIfInBounds G2 _ _=G4
 have hsz:=hx.1;replace k0:=k0.setS hS b1 (by decide);replace k1:=k1.setS hS b1 (by decide);replace k2:=k2.setS hS b1 (by decide);replace k3:=k3.setS hS b1 (by decide);replace k4:=k4.setS hS b1 (by decide);replace k5:=k5.setS hS b1 (by decide);replace b0:=a0o hS b0 (by omega);replace hx:=a0J hS hx (by omega);replace b1:=a0u hS b1;clear hS hsz
 clear k0 k1 hs hu hs' hu'
 generalize b0u a=x at *
 generalize b0u b=y at *
 have x1:=d0j x
 have x2:=d0P x
 have y1:=d0j y
 have y2:=d0P y
 have c1:(a0e x).1.2.length=lz x.num:=a0g _
 have c2:(a0e x).2.2.length=lz x.den:=a0g _
 have c3:(a0e y).1.2.length=lz y.num:=a0g _
 have c4:(a0e y).2.2.length=lz y.den:=a0g _
 have i1:b0f G4 (.agg #[.bool (a0e x).1.1,s1]) (a0k x.num):=⟨s1,rfl,k2⟩
 have i2:b0f G4 (.agg #[.bool (a0e x).2.1,u1]) (a0k x.den):=⟨u1,rfl,k3⟩
 have i3:b0f G4 (.agg #[.bool (a0e y).1.1,s2]) (a0k y.num):=⟨s2,rfl,k4⟩
 have i4:b0f G4 (.agg #[.bool (a0e y).2.1,u2]) (a0k y.den):=⟨u2,rfl,k5⟩
 clear k2 k3 k4 k5
 refine a0G ?_
 simp [O0L,b0,b1]
 refine (d0z i1 i4 (by have:=hx.1;omega) (by rw [a0g];omega) (by rw [a0g];omega)).mono ?_
 rintro m1 G5 ⟨j1,hx2⟩
 replace b0:=hx2.blk b0;replace b1:=hx2.blk b1;replace hx:=hx.trans hx2
 replace i2:=i2.mono hx2
 replace i3:=i3.mono hx2
 simp [b0,b1]
 refine (d0z i3 i2 hx.1 (by rw [a0g];omega) (by rw [a0g];omega)).mono ?_
 rintro m2 G6 ⟨j2,hx2⟩
 replace hx:=hx.trans hx2
 replace j1:=j1.mono hx2
 rw [a0h,a0h] at j1 j2
 simp
 have q1:=c0f x.num y.den
 have q2:=c0f y.num x.den
 refine (t0F j1 j2 hx.1 (by rw [a0g];omega) (by rw [a0g];omega)).mono ?_
 rintro _ G7 ⟨rfl,hx2⟩
 rw [a0h,a0h,T0s]
 simp
end
section
open Go
set_option maxHeartbeats 4000000
variable {fl:Nat} {H G:a0f} {R:a0E} {v w:Value} {i j:Bool × List Nat}
theorem m0o (h:b0f H v i) (k:b0f H w j) (hf:fl≤H.size) (hn:i.2.length < 268435456) (hm:j.2.length < 268435456) (hj0:a0z j ≠ 0) :
  a0U env fl x0X [v,w] H (fun r H'=>(∃ q m,r=.tuple #[q,m,.int .i64 0]∧b0f H' q (a0k ((a0z i).tdiv (a0z j)))∧b0f H' m (a0k ((a0z i).tmod (a0z j))))∧Ext H H') R:=by
 have k0:=h
 have k1:=k
 have hok:=h.ok
 have hok2:=k.ok
 obtain ⟨s,rfl,hs⟩:=h
 obtain ⟨u,rfl,hu⟩:=k
 refine a0i c1A hf (h:=?_)
 intro ρ h0
 simp [L0M,E0r,h0,hs.cells,hu.cells]
 generalize hG:Array.push (Array.push (Array.push (Array.push H _) _) _) _=G
 have hx2:Ext H G:=by rw [← hG];exact (Ext.refl H).push.push.push.push
 have b0:a0f.blk G H.size=.row false a0a [.bool i.1,s]:=by rw [← hG];simp
 have b1:a0f.blk G (H.size + 1)=.row false a0a [.bool j.1,u]:=by rw [← hG];simp
 have b2:a0f.blk G (H.size + 2)=.row false a0a [.bool false,.slice none 0 0]:=by rw [← hG];simp
 have b3:a0f.blk G (H.size + 3)=.row false a0a [.bool false,.slice none 0 0]:=by rw [← hG];simp
 have hx:=Ext.refl H
 clear hG
 replace hx:=hx.trans hx2;replace k0:=k0.mono hx2;replace k1:=k1.mono hx2
 simp [E0s,b0]
 refine (b0M k0 hx.1 (by omega)).mono ?_
 rintro _ G2 ⟨⟨s1,rfl,k2⟩,hx2⟩
 replace b0:=hx2.blk b0;replace b1:=hx2.blk b1;replace b2:=hx2.blk b2;replace b3:=hx2.blk b3;replace hx:=hx.trans hx2;replace k0:=k0.mono hx2;replace k1:=k1.mono hx2
 have hsz:=hx.1
 simp [b0,k2.cells,k2.plain,hsz]
 generalize hS:Array.setIfInBounds G2 _ _=G3
 have hsz:=hx.1;replace k0:=k0.setS hS b0 (by decide);replace k1:=k1.setS hS b0 (by decide);replace k2:=k2.setS hS b0 (by decide);replace b1:=a0o hS b1 (by omega);replace b2:=a0o hS b2 (by omega);replace b3:=a0o hS b3 (by omega);replace hx:=a0J hS hx (by omega);replace b0:=a0u hS b0;clear hS hsz
 simp [E0t,b1]
 refine (b0M k1 hx.1 (by omega)).mono ?_
 rintro _ G2 ⟨⟨s2,rfl,k3⟩,hx2⟩
 replace b0:=hx2.blk b0;replace b1:=hx2.blk b1;replace b2:=hx2.blk b2;replace b3:=hx2.blk b3;replace hx:=hx.trans hx2;replace k0:=k0.mono hx2;replace k1:=k1.mono hx2;replace k2:=k2.mono hx2
 have hsz:=hx.1
 simp [b1,k3.cells,k3.plain,hsz]
 generalize hS:Array.setIfInBounds G2 _ _=G4
 have hsz:=hx.1;replace k0:=k0.setS hS b1 (by decide);replace k1:=k1.setS hS b1 (by decide);replace k2:=k2.setS hS b1 (by decide);replace k3:=k3.setS hS b1 (by decide);replace b0:=a0o hS b0 (by omega);replace b2:=a0o hS b2 (by omega);replace b3:=a0o hS b3 (by omega);replace hx:=a0J hS hx (by omega);replace b1:=a0u hS b1;clear hS hsz
 clear k0 k1
 have hl:=a0v hok
 have hl2:=a0v hok2
 obtain ⟨x,hx'⟩:∃ x,a0z i=x:=⟨_,rfl⟩
 obtain ⟨y,hy'⟩:∃ y,a0z j=y:=⟨_,rfl⟩
 rw [hx'] at b0 k2 hl ⊢
 rw [hy'] at b1 k3 hl2 hj0 ⊢
 have hpos:0 < y.natAbs:=by omega
 have hne:¬ a0p y.natAbs=[]:=by intro h;have:=c0i hpos;rw [h] at this;simp at this
 have c1:(a0k x).1=decide (x < 0):=rfl
 have c2:(a0k y).1=decide (y < 0):=rfl
 rw [c1] at b0
 rw [c2] at b1
 have hsl:i0H s2=some (.int .i64 ((a0p y.natAbs).length:Int)):=k3.slen
 have k2':Lim G4 s1 (a0p x.natAbs):=k2
 have k3':Lim G4 s2 (a0p y.natAbs):=k3
 clear k2 k3
 simp [E0u,b1,hsl,hne,E0v,b0]
 refine (i0m k2' k3' hpos hx.1 (by omega) (by omega)).mono ?_
 rintro _ G2 ⟨⟨p,q,rfl,k4,k5⟩,hx2⟩
 replace b0:=hx2.blk b0;replace b1:=hx2.blk b1;replace b2:=hx2.blk b2;replace b3:=hx2.blk b3;replace hx:=hx.trans hx2
 have e1:=o0Y x y
 have e2:=o0Z x y
 have e3:(a0p (x.natAbs / y.natAbs)).length≤(a0p x.natAbs).length:=a0X (g1Q _ _)
 have e4:(a0p (x.natAbs % y.natAbs)).length≤(a0p y.natAbs).length:=a0X (i1g (h1e _ hpos))
 simp
 refine a0G ?_
 simp [E0w,b0,b1]
 refine (c0c (x.tdiv y) k4 (by have:=hx.1;omega) (by omega) (by rw [a0q,← e1])).mono ?_
 rintro _ G5 ⟨⟨s3,rfl,k6⟩,hx2⟩
 replace b0:=hx2.blk b0;replace b1:=hx2.blk b1;replace b2:=hx2.blk b2;replace b3:=hx2.blk b3;replace hx:=hx.trans hx2;replace k4:=k4.mono hx2;replace k5:=k5.mono hx2
 simp [b0]
 refine (c0c (x.tmod y) k5 hx.1 (by omega) (by rw [a0q,← e2])).mono ?_
 rintro _ G5 ⟨⟨s4,rfl,k7⟩,hx2⟩
 replace b0:=hx2.blk b0;replace b1:=hx2.blk b1;replace b2:=hx2.blk b2;replace b3:=hx2.blk b3;replace hx:=hx.trans hx2;replace k4:=k4.mono hx2;replace k5:=k5.mono hx2;replace k6:=k6.mono hx2
 have hsz:=hx.1
 simp [b2,k6.cells,k6.plain,hsz]
 generalize hS:Array.setIfInBounds G5 _ _=G6
 have hsz:=hx.1;replace k4:=k4.setS hS b2 (by decide);replace k5:=k5.setS hS b2 (by decide);replace k6:=k6.setS hS b2 (by decide);replace k7:=k7.setS hS b2 (by decide);replace b0:=a0o hS b0 (by omega);replace b1:=a0o hS b1 (by omega);replace b3:=a0o hS b3 (by omega);replace hx:=a0J hS hx (by omega);replace b2:=a0u hS b2;clear hS hsz
 have hsz:=hx.1
 have hz3:=a0l b3
 simp [b2,b3,k7.cells,k7.plain,hsz,hz3]
 exact fun _=>⟨_,_,⟨rfl,rfl⟩,⟨s3,rfl,k6.setT b3 (by decide)⟩,⟨s4,rfl,k7.setT b3 (by decide)⟩⟩
theorem d0O {n:Int} (hf:fl≤H.size) (h1:-9223372036854775808≤n) (h2:n < 9223372036854775808):a0U env fl K0m [.int .i64 n] H (fun r H'=>b0X H' r (a0e n)∧Ext H H') R:=by
 refine a0i e1q hf (h:=?_)
 intro ρ h0
 simp [Z0P,N0s,N0t,h0]
 generalize hG:Array.push H _=G
 obtain ⟨hx2,b0⟩:=g0B hG
 have hx:=Ext.refl H
 clear hG
 replace hx:=hx.trans hx2
 refine (k0n hx.1 h1 h2).mono ?_
 rintro _ G2 ⟨⟨s1,rfl,k1⟩,hx2⟩
 replace b0:=hx2.blk b0;replace hx:=hx.trans hx2
 simp
 refine (k0n hx.1 (by omega) (by omega)).mono ?_
 rintro _ G2 ⟨⟨s2,rfl,k2⟩,hx2⟩
 replace b0:=hx2.blk b0;replace hx:=hx.trans hx2;replace k1:=k1.mono hx2
 have hsz:=hx.1
 simp [b0,k1.cells,k1.plain,k2.cells,k2.plain,hsz,b0v]
 generalize hS:Array.setIfInBounds G2 _ _=G5
 have hsz:=hx.1;replace k1:=k1.setS hS b0 (by decide);replace k2:=k2.setS hS b0 (by decide);replace hx:=a0J hS hx (by omega);replace b0:=a0u hS b0;clear hS hsz
 simp [b0]
 have hc:a0e (n:Rat)=(a0k n,a0k 1):=by
  unfold a0e;rw [i1L,i1J];rfl
 rw [hc]
 exact fun _=>⟨s1,s2,rfl,k1,k2⟩
theorem m0p (h:b0f H v i) (k:b0f H w j) (hf:fl≤H.size) (hn:i.2.length < 268435456) (hm:j.2.length < 268435456) (hj0:a0z j ≠ 0) :
  a0U env fl x0P [v,w] H (fun r H'=>(∃ q,r=.tuple #[q,.int .i64 0]∧b0X H' q (a0e (Rat.divInt (a0z i) (a0z j))))∧Ext H H') R:=by
 have k0:=h
 have k1:=k
 have hok:=h.ok
 have hok2:=k.ok
 obtain ⟨s,rfl,hs⟩:=h
 obtain ⟨u,rfl,hu⟩:=k
 refine a0i c1d hf (h:=?_)
 intro ρ h0
 simp [L0p,C0l,h0,hs.cells,hu.cells]
 generalize hG:Array.push (Array.push (Array.push H _) _) _=G
 have hx2:Ext H G:=by rw [← hG];exact (Ext.refl H).push.push.push
 have b0:a0f.blk G H.size=.row false a0a [.bool i.1,s]:=by rw [← hG];simp
 have b1:a0f.blk G (H.size + 1)=.row false a0a [.bool j.1,u]:=by rw [← hG];simp
 have b2:a0f.blk G (H.size + 2)=.row false a0b [.bool false,.slice none 0 0,.bool false,.slice none 0 0]:=by rw [← hG];simp
 have hx:=Ext.refl H
 clear hG
 replace hx:=hx.trans hx2;replace k0:=k0.mono hx2;replace k1:=k1.mono hx2
 simp [C0m,b0]
 refine (b0M k0 hx.1 (by omega)).mono ?_
 rintro _ G2 ⟨⟨s1,rfl,k2⟩,hx2⟩
 replace b0:=hx2.blk b0;replace b1:=hx2.blk b1;replace b2:=hx2.blk b2;replace hx:=hx.trans hx2;replace k0:=k0.mono hx2;replace k1:=k1.mono hx2
 have hsz:=hx.1
 simp [b0,k2.cells,k2.plain,hsz]
 generalize hS:Array.setIfInBounds G2 _ _=G3
 have hsz:=hx.1;replace k0:=k0.setS hS b0 (by decide);replace k1:=k1.setS hS b0 (by decide);replace k2:=k2.setS hS b0 (by decide);replace b1:=a0o hS b1 (by omega);replace b2:=a0o hS b2 (by omega);replace hx:=a0J hS hx (by omega);replace b0:=a0u hS b0;clear hS hsz
 simp [C0n,b1]
 refine (b0M k1 hx.1 (by omega)).mono ?_
 rintro _ G2 ⟨⟨s2,rfl,k3⟩,hx2⟩
 replace b0:=hx2.blk b0;replace b1:=hx2.blk b1;replace b2:=hx2.blk b2;replace hx:=hx.trans hx2;replace k0:=k0.mono hx2;replace k1:=k1.mono hx2;replace k2:=k2.mono hx2
 have hsz:=hx.1
 simp [b1,k3.cells,k3.plain,hsz]
 generalize hS:Array.setIfInBounds G2 _ _=G4
 have hsz:=hx.1;replace k0:=k0.setS hS b1 (by decide);replace k1:=k1.setS hS b1 (by decide);replace k2:=k2.setS hS b1 (by decide);replace k3:=k3.setS hS b1 (by decide);replace b0:=a0o hS b0 (by omega);replace b2:=a0o hS b2 (by omega);replace hx:=a0J hS hx (by omega);replace b1:=a0u hS b1;clear hS hsz
 clear k0 k1
 have hl:=a0v hok
 have hl2:=a0v hok2
 obtain ⟨x,hx'⟩:∃ x,a0z i=x:=⟨_,rfl⟩
 obtain ⟨y,hy'⟩:∃ y,a0z j=y:=⟨_,rfl⟩
 rw [hx'] at b0 k2 hl ⊢
 rw [hy'] at b1 k3 hl2 hj0 ⊢
 have hpos:0 < y.natAbs:=by omega
 have hne:¬ a0p y.natAbs=[]:=by intro h;have:=c0i hpos;rw [h] at this;simp at this
 have hsl:i0H s2=some (.int .i64 ((a0p y.natAbs).length:Int)):=k3.slen
 have k4:b0f G4 (.agg #[.bool (a0k x).1,s1]) (a0k x):=⟨s1,rfl,k2⟩
 have k5:b0f G4 (.agg #[.bool (a0k y).1,s2]) (a0k y):=⟨s2,rfl,k3⟩
 clear k2 k3
 have lx:(a0k x).2.length=lz x:=rfl
 have ly:(a0k y).2.length=lz y:=rfl
 change lz x≤_ at hl
 change lz y≤_ at hl2
 have hgl:lz (Int.gcd x y:Int)≤lz y:=by
  have h5:Int.gcd x y≤y.natAbs:=h1X _ hj0
  exact a0X (by simpa using h5)
 simp [C0o,b1,hsl,hne,C0p,b0]
 refine (i0D k4 k5 hx.1 (by omega) (by omega)).mono ?_
 rintro _ G2 ⟨⟨s3,rfl,k6⟩,hx2⟩
 replace b0:=hx2.blk b0;replace b1:=hx2.blk b1;replace b2:=hx2.blk b2;replace hx:=hx.trans hx2;replace k4:=k4.mono hx2;replace k5:=k5.mono hx2
 rw [a0h,a0h] at k6 ⊢
 have hsz:=hx.1
 simp [k6.cells,k6.plain,hsz]
 generalize hN:Array.setIfInBounds (Array.push _ _) _ _=G3
 obtain ⟨hx2,b3⟩:=new1 hN
 have hb2l:=a0l b2
 clear hN
 replace b0:=hx2.blk b0;replace b1:=hx2.blk b1;replace b2:=hx2.blk b2;replace hx:=hx.trans hx2;replace k4:=k4.mono hx2;replace k5:=k5.mono hx2;replace k6:=k6.mono hx2
 obtain ⟨P,hP⟩:∃ P,P=G2.size:=⟨_,rfl⟩
 rw [← hP] at b3 hsz hb2l ⊢
 obtain ⟨g,hg⟩:∃ g:Int,g=(Int.gcd x y:Int):=⟨_,rfl⟩
 rw [← hg] at k6 b3 hgl ⊢
 have hg0:g ≠ 0:=by
  have:=Int.gcd_pos_of_ne_zero_right x hj0
  omega
 have k7:b0f G3 (.agg #[.bool (a0k g).1,s3]) (a0k g):=⟨s3,rfl,k6⟩
 have lg:(a0k g).2.length=lz g:=rfl
 clear k6
 have hdx:lz (x.tdiv g)≤lz x:=l0Z (by rw [Int.natAbs_tdiv];exact g1Q _ _)
 have hdy:lz (y.tdiv g)≤lz y:=l0Z (by rw [Int.natAbs_tdiv];exact g1Q _ _)
 simp [C0q,b0,b3]
 refine (m0o k4 k7 hx.1 (by omega) (by omega) (by rw [a0h];exact hg0)).mono ?_
 rintro _ G2 ⟨⟨_,_,rfl,⟨s4,rfl,k0⟩,⟨s5,rfl,k1⟩⟩,hx2⟩
 replace b0:=hx2.blk b0;replace b1:=hx2.blk b1;replace b2:=hx2.blk b2;replace b3:=hx2.blk b3;replace hx:=hx.trans hx2;replace k4:=k4.mono hx2;replace k5:=k5.mono hx2;replace k7:=k7.mono hx2
 rw [a0h,a0h] at k0 k1 ⊢
 generalize x.tmod g=m1 at k1 ⊢
 have hsz:=hx.1
 have hb3l:=a0l b3
 have hsz':H.size≤G2.size + 1:=by omega
 simp [k0.cells,k0.plain,k1.cells,k1.plain,hsz,hsz']
 generalize hN:Array.setIfInBounds _ (Array.size G2 + 1) _=G5
 obtain ⟨hx2,b4⟩:Ext G2 G5∧a0f.blk G5 G2.size=.row false a0a [.bool (a0k (x.tdiv g)).1,s4]:=by
  rw [← hN]
  exact ⟨((Ext.refl G2).push.push.set (f1I _)).set (Nat.le_succ _),by rw [b0h (Nat.succ_ne_self _),a0B (by simp)]⟩
 clear hN k1
 replace b0:=hx2.blk b0;replace b1:=hx2.blk b1;replace b2:=hx2.blk b2;replace b3:=hx2.blk b3;replace hx:=hx.trans hx2;replace k0:=k0.mono hx2;replace k4:=k4.mono hx2;replace k5:=k5.mono hx2;replace k7:=k7.mono hx2
 obtain ⟨P4,hP4⟩:∃ P,P=G2.size:=⟨_,rfl⟩
 rw [← hP4] at b4 hsz hb3l ⊢
 simp [C0r,b1,b3]
 refine (m0o k5 k7 hx.1 (by omega) (by omega) (by rw [a0h];exact hg0)).mono ?_
 rintro _ G6 ⟨⟨_,_,rfl,⟨s6,rfl,k1⟩,⟨s7,rfl,k2⟩⟩,hx2⟩
 replace b0:=hx2.blk b0;replace b1:=hx2.blk b1;replace b2:=hx2.blk b2;replace b3:=hx2.blk b3;replace b4:=hx2.blk b4;replace hx:=hx.trans hx2;replace k0:=k0.mono hx2;replace k4:=k4.mono hx2;replace k5:=k5.mono hx2;replace k7:=k7.mono hx2
 rw [a0h,a0h] at k1 k2 ⊢
 generalize y.tmod g=m2 at k2 ⊢
 have hsz2:=hx.1
 have hb4l:=a0l b4
 have hsz':H.size≤G6.size + 1:=by omega
 simp [k1.cells,k1.plain,k2.cells,k2.plain,hsz2,hsz']
 generalize hN:Array.setIfInBounds _ (Array.size G6 + 1) _=G7
 obtain ⟨hx2,b5⟩:Ext G6 G7∧a0f.blk G7 G6.size=.row false a0a [.bool (a0k (y.tdiv g)).1,s6]:=by
  rw [← hN]
  exact ⟨((Ext.refl G6).push.push.set (f1I _)).set (Nat.le_succ _),by rw [b0h (Nat.succ_ne_self _),a0B (by simp)]⟩
 clear hN k2
 replace b0:=hx2.blk b0;replace b1:=hx2.blk b1;replace b2:=hx2.blk b2;replace b3:=hx2.blk b3;replace b4:=hx2.blk b4;replace hx:=hx.trans hx2;replace k0:=k0.mono hx2;replace k1:=k1.mono hx2;replace k4:=k4.mono hx2;replace k5:=k5.mono hx2;replace k7:=k7.mono hx2
 obtain ⟨P5,hP5⟩:∃ P,P=G6.size:=⟨_,rfl⟩
 rw [← hP5] at b5 hsz2 hb4l ⊢
 have j4:b0f G7 (.agg #[.bool (a0k (x.tdiv g)).1,s4]) (a0k (x.tdiv g)):=⟨s4,rfl,k0⟩
 have j5:b0f G7 (.agg #[.bool (a0k (y.tdiv g)).1,s6]) (a0k (y.tdiv g)):=⟨s6,rfl,k1⟩
 have cy:(a0k (y.tdiv g)).1=decide (y.tdiv g < 0):=rfl
 obtain ⟨g',hg'⟩:∃ g',g' = if y < 0 then -(Int.gcd x y:Int) else (Int.gcd x y:Int):=⟨_,rfl⟩
 obtain ⟨hq,hg0'⟩:=s0f (p:=x) hj0 hg'
 rw [hq]
 have hgpos:0 < g:=by omega
 have hsg:y.tdiv g < 0 ↔ y < 0:=by
  have e2:y.tdiv g * g=y:=Int.tdiv_mul_cancel (by rw [hg];exact i1k ..)
  constructor
  ·intro h
   rw [← e2];exact Int.mul_neg_of_neg_of_pos h hgpos
  ·intro h
   by_cases h2:y.tdiv g < 0
   ·exact h2
   ·have:=i1a (show 0≤y.tdiv g by omega) (show 0≤g by omega);omega
 simp [C0s,b5]
 by_cases hneg:y < 0
 ·rw [f1N hneg,← hg] at hg'
  have c1:decide (y.tdiv g < 0)=true:=by simp [hsg,hneg]
  rw [cy,c1]
  have cl1:(a0k (x.tdiv g)).2.length=lz (x.tdiv g):=rfl
  have cl2:(a0k (y.tdiv g)).2.length=lz (y.tdiv g):=rfl
  simp [C0t,b4]
  refine (i0E j4 hx.1 (by omega)).mono ?_
  rintro _ G2 ⟨⟨s8,rfl,k2⟩,hx2⟩
  replace j5:=j5.mono hx2
  replace b0:=hx2.blk b0;replace b1:=hx2.blk b1;replace b2:=hx2.blk b2;replace b3:=hx2.blk b3;replace b4:=hx2.blk b4;replace b5:=hx2.blk b5;replace hx:=hx.trans hx2;replace k0:=k0.mono hx2;replace k1:=k1.mono hx2;replace k4:=k4.mono hx2;replace k5:=k5.mono hx2;replace k7:=k7.mono hx2
  rw [a0h] at k2 ⊢
  have hb4l':=a0l b4
  simp [b4,k2.cells,k2.plain,hsz]
  generalize hS:Array.setIfInBounds G2 _ _=G8
  replace j5:=j5.setS hS b4 (by decide)
  have hsz:=hx.1;replace k0:=k0.setS hS b4 (by decide);replace k1:=k1.setS hS b4 (by decide);replace k2:=k2.setS hS b4 (by decide);replace k4:=k4.setS hS b4 (by decide);replace k5:=k5.setS hS b4 (by decide);replace k7:=k7.setS hS b4 (by decide);replace b0:=a0o hS b0 (by omega);replace b1:=a0o hS b1 (by omega);replace b2:=a0o hS b2 (by omega);replace b3:=a0o hS b3 (by omega);replace b5:=a0o hS b5 (by omega);replace hx:=a0J hS hx (by omega);replace b4:=a0u hS b4;clear hS hsz
  simp [w0p,b5]
  refine (i0E j5 hx.1 (by omega)).mono ?_
  rintro _ G2 ⟨⟨s9,rfl,k3⟩,hx2⟩
  replace b0:=hx2.blk b0;replace b1:=hx2.blk b1;replace b2:=hx2.blk b2;replace b3:=hx2.blk b3;replace b4:=hx2.blk b4;replace b5:=hx2.blk b5;replace hx:=hx.trans hx2;replace k0:=k0.mono hx2;replace k1:=k1.mono hx2;replace k2:=k2.mono hx2;replace k4:=k4.mono hx2;replace k5:=k5.mono hx2;replace k7:=k7.mono hx2
  rw [a0h] at k3 ⊢
  simp [b5,k3.cells,k3.plain,hsz2]
  generalize hS:Array.setIfInBounds G2 _ _=G9
  have hsz:=hx.1;replace k0:=k0.setS hS b5 (by decide);replace k1:=k1.setS hS b5 (by decide);replace k2:=k2.setS hS b5 (by decide);replace k3:=k3.setS hS b5 (by decide);replace k4:=k4.setS hS b5 (by decide);replace k5:=k5.setS hS b5 (by decide);replace k7:=k7.setS hS b5 (by decide);replace b0:=a0o hS b0 (by omega);replace b1:=a0o hS b1 (by omega);replace b2:=a0o hS b2 (by omega);replace b3:=a0o hS b3 (by omega);replace b4:=a0o hS b4 (by omega);replace hx:=a0J hS hx (by omega);replace b5:=a0u hS b5;clear hS hsz
  have hz:=a0l b2
  have hsz:=hx.1
  have t1:x.tdiv g' = -(x.tdiv g):=by rw [hg',Int.tdiv_neg]
  have t2:y.tdiv g' = -(y.tdiv g):=by rw [hg',Int.tdiv_neg]
  rw [t1,t2]
  simp [q0n,b4,b5,b2,k2.cells,k2.plain,k3.cells,k3.plain,hz]
  exact fun _=>⟨s8,s9,rfl,k2.setT b2 (by decide),k3.setT b2 (by decide)⟩
 ·rw [f1K hneg,← hg] at hg'
  have c1:decide (y.tdiv g < 0)=false:=by simp [hsg];omega
  rw [cy,c1] at b5
  have hz:=a0l b2
  have hsz:=hx.1
  rw [cy,c1]
  have cq:(a0k (y.tdiv g)).1=false:=by rw [cy,c1]
  rw [hg']
  simp [q0n,b4,b5,b2,k0.cells,k0.plain,k1.cells,k1.plain,hz]
  refine fun _=>⟨s4,s6,by rw [cq],k0.setT b2 (by decide),k1.setT b2 (by decide)⟩
end
section
open Go
set_option maxHeartbeats 4000000
variable {fl:Nat} {H G:a0f} {R:a0E} {v w:Value} {a b:b0x}
theorem i0l (h:b0X H v a) (k:b0X H w b) (hf:fl≤H.size) (hn:e0F a < 67108864) (hm:e0F b < 67108864):a0U env fl V0P [v,w] H (fun r H'=>b0X H' r (a0e (b0u a * b0u b))∧Ext H H') R:=by
 have k0:=h
 have k1:=k
 obtain ⟨s,u,rfl,hs,hu⟩:=h
 obtain ⟨s',u',rfl,hs',hu'⟩:=k
 have z1:=b0N hs.ok hu.ok
 have z2:=b0N hs'.ok hu'.ok
 refine a0i f1i hf (h:=?_)
 intro ρ h0
 simp [a1H,R0L,h0,hs.cells,hu.cells,hs'.cells,hu'.cells]
 generalize hG:Array.push (Array.push (Array.push H _) _) _=G
 have hx2:Ext H G:=by rw [← hG];exact (Ext.refl H).push.push.push
 have b0:a0f.blk G H.size=.row false a0b [.bool a.1.1,s,.bool a.2.1,u]:=by rw [← hG];simp
 have b1:a0f.blk G (H.size + 1)=.row false a0b [.bool b.1.1,s',.bool b.2.1,u']:=by rw [← hG];simp
 have b2:a0f.blk G (H.size + 2)=.row false a0b [.bool false,.slice none 0 0,.bool false,.slice none 0 0]:=by rw [← hG];simp
 have hx:=Ext.refl H
 clear hG
 replace hx:=hx.trans hx2;replace k0:=k0.mono hx2;replace k1:=k1.mono hx2
 simp [R0M,b0]
 refine (b0z k0 hx.1 (by omega)).mono ?_
 rintro _ G2 ⟨⟨s1,u1,rfl,k2,k3⟩,hx2⟩
 replace b0:=hx2.blk b0;replace b1:=hx2.blk b1;replace b2:=hx2.blk b2;replace hx:=hx.trans hx2;replace k0:=k0.mono hx2;replace k1:=k1.mono hx2
 have hsz:=hx.1
 simp [b0,k2.cells,k2.plain,k3.cells,k3.plain,hsz]
 generalize hS:Array.setIfInBounds G2 _ _=G3
 have hsz:=hx.1;replace k0:=k0.setS hS b0 (by decide);replace k1:=k1.setS hS b0 (by decide);replace k2:=k2.setS hS b0 (by decide);replace k3:=k3.setS hS b0 (by decide);replace b1:=a0o hS b1 (by omega);replace b2:=a0o hS b2 (by omega);replace hx:=a0J hS hx (by omega);replace b0:=a0u hS b0;clear hS hsz
 simp [R0N,b1]
 refine (b0z k1 hx.1 (by omega)).mono ?_
 rintro _ G2 ⟨⟨s2,u2,rfl,k4,k5⟩,hx2⟩
 replace b0:=hx2.blk b0;replace b1:=hx2.blk b1;replace b2:=hx2.blk b2;replace hx:=hx.trans hx2;replace k0:=k0.mono hx2;replace k1:=k1.mono hx2;replace k2:=k2.mono hx2;replace k3:=k3.mono hx2
 have hsz:=hx.1
 simp [b1,k4.cells,k4.plain,k5.cells,k5.plain,hsz]
 generalize hS:Array.setIfInBounds G2 _ _=G4
 have hsz:=hx.1;replace k0:=k0.setS hS b1 (by decide);replace k1:=k1.setS hS b1 (by decide);replace k2:=k2.setS hS b1 (by decide);replace k3:=k3.setS hS b1 (by decide);replace k4:=k4.setS hS b1 (by decide);replace k5:=k5.setS hS b1 (by decide);replace b0:=a0o hS b0 (by omega);replace b2:=a0o hS b2 (by omega);replace hx:=a0J hS hx (by omega);replace b1:=a0u hS b1;clear hS hsz
 clear k0 k1 hs hu hs' hu'
 generalize b0u a=x at *
 generalize b0u b=y at *
 have x1:=d0j x
 have x2:=d0P x
 have y1:=d0j y
 have y2:=d0P y
 have c1:(a0e x).1.2.length=lz x.num:=a0g _
 have c2:(a0e x).2.2.length=lz x.den:=a0g _
 have c3:(a0e y).1.2.length=lz y.num:=a0g _
 have c4:(a0e y).2.2.length=lz y.den:=a0g _
 have i1:b0f G4 (.agg #[.bool (a0e x).1.1,s1]) (a0k x.num):=⟨s1,rfl,k2⟩
 have i2:b0f G4 (.agg #[.bool (a0e x).2.1,u1]) (a0k x.den):=⟨u1,rfl,k3⟩
 have i3:b0f G4 (.agg #[.bool (a0e y).1.1,s2]) (a0k y.num):=⟨s2,rfl,k4⟩
 have i4:b0f G4 (.agg #[.bool (a0e y).2.1,u2]) (a0k y.den):=⟨u2,rfl,k5⟩
 clear k2 k3 k4 k5
 refine a0G ?_
 simp [R0O,b0,b1]
 refine (d0z i1 i3 (by have:=hx.1;omega) (by rw [a0g];omega) (by rw [a0g];omega)).mono ?_
 rintro m1 G5 ⟨j1,hx2⟩
 replace b0:=hx2.blk b0;replace b1:=hx2.blk b1;replace b2:=hx2.blk b2;replace hx:=hx.trans hx2
 replace i1:=i1.mono hx2
 replace i2:=i2.mono hx2
 replace i3:=i3.mono hx2
 replace i4:=i4.mono hx2
 simp [b0,b1]
 refine (d0z i2 i4 (by have:=hx.1;omega) (by rw [a0g];omega) (by rw [a0g];omega)).mono ?_
 rintro m2 G6 ⟨j2,hx2⟩
 replace b2:=hx2.blk b2;replace hx:=hx.trans hx2
 replace j1:=j1.mono hx2
 rw [a0h,a0h] at j1 j2
 simp
 have q1:=c0f x.num y.num
 have q2:=c0f x.den y.den
 have hne:(x.den:Int) * y.den ≠ 0:=i1e (by have:=x.den_nz;omega) (by have:=y.den_nz;omega)
 rw [k0b]
 generalize x.num * y.num=p at *
 generalize (x.den:Int) * y.den=q at *
 have hq:=fun R'=>m0p (fl:=max H.size G6.size) (R:=R') j1 j2 (by have:=hx.1;omega) (by rw [a0g];omega) (by rw [a0g];omega) (by rw [a0h];exact hne)
 simp only [a0h] at hq
 refine (hq _).mono ?_
 rintro _ G6 ⟨⟨_,rfl,s8,s9,rfl,k6,k7⟩,hx2⟩
 replace b2:=hx2.blk b2;replace hx:=hx.trans hx2
 have hsz:=hx.1
 have hb2l:=a0l b2
 simp [k6.cells,k6.plain,k7.cells,k7.plain,hsz]
 generalize hN:Array.setIfInBounds (Array.push _ _) _ _=G7
 obtain ⟨hx2,b3⟩:=new1 hN
 clear hN
 replace b2:=hx2.blk b2;replace hx:=hx.trans hx2;replace k6:=k6.mono hx2;replace k7:=k7.mono hx2
 obtain ⟨P,hP⟩:∃ P,P=G6.size:=⟨_,rfl⟩
 rw [← hP] at b3 hsz hb2l ⊢
 have hz:=a0l b2
 simp [R0P,b2,b3,k6.cells,k6.plain,k7.cells,k7.plain,hz]
 exact fun _=>⟨s8,s9,rfl,k6.setT b2 (by decide),k7.setT b2 (by decide)⟩
theorem i0j (h:b0X H v a) (k:b0X H w b) (hf:fl≤H.size) (hn:e0F a < 67108864) (hm:e0F b < 67108864):a0U env fl V0O [v,w] H (fun r H'=>b0X H' r (a0e (b0u a + b0u b))∧Ext H H') R:=by
 have k0:=h
 have k1:=k
 obtain ⟨s,u,rfl,hs,hu⟩:=h
 obtain ⟨s',u',rfl,hs',hu'⟩:=k
 have z1:=b0N hs.ok hu.ok
 have z2:=b0N hs'.ok hu'.ok
 refine a0i f1h hf (h:=?_)
 intro ρ h0
 simp [a1G,R0G,h0,hs.cells,hu.cells,hs'.cells,hu'.cells]
 generalize hG:Array.push (Array.push (Array.push H _) _) _=G
 have hx2:Ext H G:=by rw [← hG];exact (Ext.refl H).push.push.push
 have b0:a0f.blk G H.size=.row false a0b [.bool a.1.1,s,.bool a.2.1,u]:=by rw [← hG];simp
 have b1:a0f.blk G (H.size + 1)=.row false a0b [.bool b.1.1,s',.bool b.2.1,u']:=by rw [← hG];simp
 have b2:a0f.blk G (H.size + 2)=.row false a0b [.bool false,.slice none 0 0,.bool false,.slice none 0 0]:=by rw [← hG];simp
 have hx:=Ext.refl H
 clear hG
 replace hx:=hx.trans hx2;replace k0:=k0.mono hx2;replace k1:=k1.mono hx2
 simp [R0H,b0]
 refine (b0z k0 hx.1 (by omega)).mono ?_
 rintro _ G2 ⟨⟨s1,u1,rfl,k2,k3⟩,hx2⟩
 replace b0:=hx2.blk b0;replace b1:=hx2.blk b1;replace b2:=hx2.blk b2;replace hx:=hx.trans hx2;replace k0:=k0.mono hx2;replace k1:=k1.mono hx2
 have hsz:=hx.1
 simp [b0,k2.cells,k2.plain,k3.cells,k3.plain,hsz]
 generalize hS:Array.setIfInBounds G2 _ _=G3
 have hsz:=hx.1;replace k0:=k0.setS hS b0 (by decide);replace k1:=k1.setS hS b0 (by decide);replace k2:=k2.setS hS b0 (by decide);replace k3:=k3.setS hS b0 (by decide);replace b1:=a0o hS b1 (by omega);replace b2:=a0o hS b2 (by omega);replace hx:=a0J hS hx (by omega);replace b0:=a0u hS b0;clear hS hsz
 simp [R0I,b1]
 refine (b0z k1 hx.1 (by omega)).mono ?_
 rintro _ G2 ⟨⟨s2,u2,rfl,k4,k5⟩,hx2⟩
 replace b0:=hx2.blk b0;replace b1:=hx2.blk b1;replace b2:=hx2.blk b2;replace hx:=hx.trans hx2;replace k0:=k0.mono hx2;replace k1:=k1.mono hx2;replace k2:=k2.mono hx2;replace k3:=k3.mono hx2
 have hsz:=hx.1
 simp [b1,k4.cells,k4.plain,k5.cells,k5.plain,hsz]
 generalize hS:Array.setIfInBounds G2 _ _=G4
 have hsz:=hx.1;replace k0:=k0.setS hS b1 (by decide);replace k1:=k1.setS hS b1 (by decide);replace k2:=k2.setS hS b1 (by decide);replace k3:=k3.setS hS b1 (by decide);replace k4:=k4.setS hS b1 (by decide);replace k5:=k5.setS hS b1 (by decide);replace b0:=a0o hS b0 (by omega);replace b2:=a0o hS b2 (by omega);replace hx:=a0J hS hx (by omega);replace b1:=a0u hS b1;clear hS hsz
 clear k0 k1 hs hu hs' hu'
 generalize b0u a=x at *
 generalize b0u b=y at *
 have x1:=d0j x
 have x2:=d0P x
 have y1:=d0j y
 have y2:=d0P y
 have c1:(a0e x).1.2.length=lz x.num:=a0g _
 have c2:(a0e x).2.2.length=lz x.den:=a0g _
 have c3:(a0e y).1.2.length=lz y.num:=a0g _
 have c4:(a0e y).2.2.length=lz y.den:=a0g _
 have i1:b0f G4 (.agg #[.bool (a0e x).1.1,s1]) (a0k x.num):=⟨s1,rfl,k2⟩
 have i2:b0f G4 (.agg #[.bool (a0e x).2.1,u1]) (a0k x.den):=⟨u1,rfl,k3⟩
 have i3:b0f G4 (.agg #[.bool (a0e y).1.1,s2]) (a0k y.num):=⟨s2,rfl,k4⟩
 have i4:b0f G4 (.agg #[.bool (a0e y).2.1,u2]) (a0k y.den):=⟨u2,rfl,k5⟩
 clear k2 k3 k4 k5
 refine a0G ?_
 simp [R0J,b0,b1]
 refine (d0z i1 i4 (by have:=hx.1;omega) (by rw [a0g];omega) (by rw [a0g];omega)).mono ?_
 rintro m1 G5 ⟨j1,hx2⟩
 replace b0:=hx2.blk b0;replace b1:=hx2.blk b1;replace b2:=hx2.blk b2;replace hx:=hx.trans hx2
 replace i1:=i1.mono hx2
 replace i2:=i2.mono hx2
 replace i3:=i3.mono hx2
 replace i4:=i4.mono hx2
 simp [b0,b1]
 refine (d0z i3 i2 (by have:=hx.1;omega) (by rw [a0g];omega) (by rw [a0g];omega)).mono ?_
 rintro m2 G6 ⟨j2,hx2⟩
 replace b0:=hx2.blk b0;replace b1:=hx2.blk b1;replace b2:=hx2.blk b2;replace hx:=hx.trans hx2
 replace i1:=i1.mono hx2
 replace i2:=i2.mono hx2
 replace i3:=i3.mono hx2
 replace i4:=i4.mono hx2
 replace j1:=j1.mono hx2
 rw [a0h,a0h] at j1 j2
 simp
 have q1:=c0f x.num y.den
 have q2:=c0f y.num x.den
 have q3:=c0f x.den y.den
 have q4:=o0g (x.num * y.den) (y.num * x.den)
 have hne:(x.den:Int) * y.den ≠ 0:=i1e (by have:=x.den_nz;omega) (by have:=y.den_nz;omega)
 rw [j0P]
 generalize x.num * y.den=p1 at *
 generalize y.num * x.den=p2 at *
 refine (m0n j1 j2 (by have:=hx.1;omega) (by rw [a0g];omega) (by rw [a0g];omega)).mono ?_
 rintro m3 G7 ⟨j3,hx2⟩
 replace b0:=hx2.blk b0;replace b1:=hx2.blk b1;replace b2:=hx2.blk b2;replace hx:=hx.trans hx2
 replace i1:=i1.mono hx2
 replace i2:=i2.mono hx2
 replace i3:=i3.mono hx2
 replace i4:=i4.mono hx2
 clear j1 j2
 rw [a0h,a0h] at j3
 simp [b0,b1]
 refine (d0z i2 i4 (by have:=hx.1;omega) (by rw [a0g];omega) (by rw [a0g];omega)).mono ?_
 rintro m4 G8 ⟨j4,hx2⟩
 replace b2:=hx2.blk b2;replace hx:=hx.trans hx2
 replace j3:=j3.mono hx2
 rw [a0h,a0h] at j4
 simp
 generalize (x.den:Int) * y.den=q at *
 generalize p1 + p2=p at *
 have hq:=fun R'=>m0p (fl:=max H.size G8.size) (R:=R') j3 j4 (by have:=hx.1;omega) (by rw [a0g];omega) (by rw [a0g];omega) (by rw [a0h];exact hne)
 simp only [a0h] at hq
 refine (hq _).mono ?_
 rintro _ G6 ⟨⟨_,rfl,s8,s9,rfl,k6,k7⟩,hx2⟩
 replace b2:=hx2.blk b2;replace hx:=hx.trans hx2
 have hsz:=hx.1
 have hb2l:=a0l b2
 simp [k6.cells,k6.plain,k7.cells,k7.plain,hsz]
 generalize hN:Array.setIfInBounds (Array.push _ _) _ _=G7
 obtain ⟨hx2,b3⟩:=new1 hN
 clear hN
 replace b2:=hx2.blk b2;replace hx:=hx.trans hx2;replace k6:=k6.mono hx2;replace k7:=k7.mono hx2
 obtain ⟨P,hP⟩:∃ P,P=G6.size:=⟨_,rfl⟩
 rw [← hP] at b3 hsz hb2l ⊢
 have hz:=a0l b2
 simp [R0K,b2,b3,k6.cells,k6.plain,k7.cells,k7.plain,hz]
 exact fun _=>⟨s8,s9,rfl,k6.setT b2 (by decide),k7.setT b2 (by decide)⟩
theorem k0L (h:b0X H v a) (hf:fl≤H.size):a0U env fl X0E [v] H (fun r H'=>r=.bool (d0C a)∧Ext H H') R:=by
 obtain ⟨s,u,rfl,hs,hu⟩:=h
 obtain ⟨⟨p,lp⟩,⟨q,lq⟩⟩:=a
 simp only at hs hu
 refine a0i f1s hf (h:=?_)
 intro ρ h0
 simp [a1R,S0z,h0]
 generalize hG:Array.push H _=G
 obtain ⟨hx2,b0⟩:=g0B hG
 clear hG
 have hsl:=(hs.mono hx2).slen
 have hul:=(hu.mono hx2).slen
 unfold d0C
 cases lp with
 | nil =>
  cases p with
  | true=>simp [s0z,b0,hsl,hul]
  | false =>
   cases lq with
   | nil=>cases q <;> simp [s0z,b0,hsl,hul]
   | cons y l =>
    have hne:¬ ((l.length:Int) + 1=0):=by omega
    simp [s0z,b0,hsl,hul,hne]
 | cons y l =>
  have hne:¬ ((l.length:Int) + 1=0):=by omega
  simp [s0z,b0,hsl,hul,hne]
end
section
open Go
set_option maxHeartbeats 4000000
variable {fl:Nat} {H G:a0f} {R:a0E} {v w:Value} {e f:d0K}
theorem i0k (h:j0O H v e) (hf:fl≤H.size) (hn:e0F e.2 < 268435456):a0U env fl V0K [v] H (fun r H'=>r=.bool (n0r e)∧Ext H H') R:=by
 obtain ⟨s,u,rfl,hs,hu⟩:=h
 have k0:b0X H (.agg #[.bool e.2.1.1,s,.bool e.2.2.1,u]) e.2:=⟨s,u,rfl,hs,hu⟩
 refine a0i e1S hf (h:=?_)
 intro ρ h0
 simp [a1r,Q0x,h0,hs.cells,hu.cells]
 generalize hG:Array.push H _=G
 obtain ⟨hx2,b0⟩:=g0B hG
 have hx:=Ext.refl H
 clear hG
 replace hx:=hx.trans hx2;replace k0:=k0.mono hx2
 unfold n0r
 by_cases h3:e.1=0
 ·simp [h3,s0x,Q0y,b0]
  refine (f0j k0 hx.1 hn).mono ?_
  rintro _ G2 ⟨rfl,hx2⟩
  simp
 ·by_cases h2:e.1=1
  ·simp [h2,s0x,x0e,b0]
   refine (k0L k0 hx.1).mono ?_
   rintro _ G2 ⟨rfl,hx2⟩
   simp
  ·by_cases h1:e.1 = -1
   ·simp [h1,s0x,x0e,b0]
    refine (k0L k0 hx.1).mono ?_
    rintro _ G2 ⟨rfl,hx2⟩
    simp
   ·simp [h1,h2,h3,s0x,x0e,b0]
theorem h0e (h:j0O H v e) (hf:fl≤H.size) (hn:e0F e.2 < 268435456):a0U env fl V0L [v] H (fun r H'=>j0O H' r (k0C (x0s e))∧Ext H H') R:=by
 have k0:=h
 obtain ⟨s,u,rfl,hs,hu⟩:=h
 have k1:b0X H (.agg #[.bool e.2.1.1,s,.bool e.2.2.1,u]) e.2:=⟨s,u,rfl,hs,hu⟩
 refine a0i e1T hf (h:=?_)
 intro ρ h0
 simp [a1s,Q0z,h0,hs.cells,hu.cells]
 generalize hG:Array.push (Array.push H _) _=G
 have hx2:Ext H G:=by rw [← hG];exact (Ext.refl H).push.push
 have b0:a0f.blk G H.size=.row false b0F [.int .i64 e.1,.bool e.2.1.1,s,.bool e.2.2.1,u]:=by rw [← hG];simp
 have b1:a0f.blk G (H.size + 1)=.row false b0F [.int .i64 0,.bool false,.slice none 0 0,.bool false,.slice none 0 0]:=by rw [← hG];simp
 have hx:=Ext.refl H
 clear hG
 replace hx:=hx.trans hx2;replace k0:=k0.mono hx2;replace k1:=k1.mono hx2
 simp [Q0A,b0]
 refine (i0k k0 hx.1 hn).mono ?_
 rintro _ G2 ⟨rfl,hx2⟩
 replace b0:=hx2.blk b0;replace b1:=hx2.blk b1;replace hx:=hx.trans hx2;replace k0:=k0.mono hx2;replace k1:=k1.mono hx2
 have hsz:=hx.1
 unfold x0s
 cases hm:n0r e with
 | false =>
  simp [Q0B]
  refine (d0p hx.1).mono ?_
  rintro _ G3 ⟨⟨s3,u3,rfl,k3,k4⟩,hx2⟩
  replace b0:=hx2.blk b0;replace b1:=hx2.blk b1;replace hx:=hx.trans hx2;replace k0:=k0.mono hx2;replace k1:=k1.mono hx2
  have hsz:=hx.1
  simp [b1,k3.cells,k3.plain,k4.cells,k4.plain,hsz,b0v]
  generalize hS:Array.setIfInBounds G3 _ _=G5
  have hsz:=hx.1;replace k0:=k0.setS hS b1 (by decide);replace k1:=k1.setS hS b1 (by decide);replace k3:=k3.setS hS b1 (by decide);replace k4:=k4.setS hS b1 (by decide);replace b0:=a0o hS b0 (by omega);replace hx:=a0J hS hx (by omega);replace b1:=a0u hS b1;clear hS hsz
  simp [b1]
  exact fun _=>⟨s3,u3,rfl,k3,k4⟩
 | true =>
  by_cases h3:e.1=0
  ·simp [h3,I0v,Q0D,b0]
   refine (b0z k1 hx.1 hn).mono ?_
   rintro _ G3 ⟨⟨s3,u3,rfl,k3,k4⟩,hx2⟩
   replace b0:=hx2.blk b0;replace b1:=hx2.blk b1;replace hx:=hx.trans hx2;replace k0:=k0.mono hx2;replace k1:=k1.mono hx2
   have hsz:=hx.1
   simp [b1,k3.cells,k3.plain,k4.cells,k4.plain,hsz,b0v]
   generalize hS:Array.setIfInBounds G3 _ _=G5
   have hsz:=hx.1;replace k0:=k0.setS hS b1 (by decide);replace k1:=k1.setS hS b1 (by decide);replace k3:=k3.setS hS b1 (by decide);replace k4:=k4.setS hS b1 (by decide);replace b0:=a0o hS b0 (by omega);replace hx:=a0J hS hx (by omega);replace b1:=a0u hS b1;clear hS hsz
   simp [b1]
   exact fun _=>⟨s3,u3,rfl,k3,k4⟩
  ·have hz:d0C e.2=true:=by
    unfold n0r at hm
    by_cases hc:e.1 = -1 ∨ e.1=1
    ·rw [f1N hc] at hm;exact hm
    ·rw [f1K hc,f1K h3] at hm;exact g1g hm (by decide)
   have he:=(J0B _).1 hz
   have hc:k0C (e.1,0)=e:=by
    unfold k0C
    simp only
    rw [f1K h3]
    exact Prod.ext rfl he.symm
   obtain ⟨s5,u5,hv5,k5,k6⟩:=k0
   have hss:s5=s∧u5=u:=by simpa [eq_comm] using hv5
   obtain ⟨rfl,rfl⟩:=hss
   simp [h3,I0v,Q0C,b0,b1,k5.cells,k5.plain,k6.cells,k6.plain,hsz]
   generalize hS:Array.setIfInBounds G2 _ _=G5
   have hsz:=hx.1;replace k1:=k1.setS hS b1 (by decide);replace k5:=k5.setS hS b1 (by decide);replace k6:=k6.setS hS b1 (by decide);replace b0:=a0o hS b0 (by omega);replace hx:=a0J hS hx (by omega);replace b1:=a0u hS b1;clear hS hsz
   simp [b1]
   rw [hc]
   exact fun _=>⟨s5,u5,rfl,k5,k6⟩
end
section
open Go
set_option maxHeartbeats 4000000
variable {fl:Nat} {H G:a0f} {R:a0E} {v w:Value}
theorem t0a {E:Env} {nt tc b b2:Nat} {body:SCode} {rx rc:List a0L} {Q:d0R} {ρ:Nat→Value} (Inv:Nat→(Nat→Value)→a0f→Prop) (n:Nat) (htc:tc < nt) (hI:Inv 0 ρ H)
  (step:∀ i ρ G,i≤n→Inv i ρ G→WR E fl rc (T nt ρ) G (d0f E fl nt tc b b2 n body rx (fun t H=>Q .normal t H) Q R i Inv) R) :
  W E fl (.loop (.seq (.seq (.reg rc) (.cond (.tmp tc) .skip (.exit b))) (.seq (.block b2 body) (.reg rx)))) (T nt ρ) H (e0H b Q) R:=by
 have h:=c0l (Z:=fun t H=>Q .normal t H) (Q:=Q) Inv n htc hI step
 rwa [h0G] at h
theorem n0O {S:Nat} {rows:List (List b0x)} {n:Int} (h:d0U H v rows) (hf:fl≤H.size) (hS:S < 67108864) (hr:∀ r ∈ rows,Few S r∧r.length < 1073741824) (hrl:rows.length < 1073741824) :
  a0U env fl X0u [v,.int .i64 n] H (fun r H'=>r=.bool (g0j rows n)∧Ext H H') R:=by
 obtain ⟨s,rfl,hs⟩:=h
 refine a0i e1R hf (h:=?_)
 intro ρ h0
 simp [a1q,Q0q,h0,hs.cells]
 generalize hG:Array.push H _=G
 obtain ⟨hx2,b0⟩:=g0B hG
 have hx:=Ext.refl H
 clear hG
 replace hx:=hx.trans hx2
 unfold g0j
 by_cases h1:n < 0
 ·have h1':¬ 0≤n:=by omega
  simp [s0w,x0d,h0,h1,h1']
 have h1':0≤n:=by omega
 by_cases h2:6 < n
 ·have h2':¬ n≤6:=by omega
  simp [s0w,x0d,h0,h1,h1',h2,h2']
 have h2':n≤6:=by omega
 by_cases h3:40 < rows.length
 ·have h3':¬ rows.length≤40:=by omega
  have h3'':(40:Int) < (rows.length:Int):=by omega
  simp [s0w,x0d,h0,b0,hs.slen,h1,h1',h2,h2',h3,h3',h3'']
 have h3':rows.length≤40:=by omega
 have h3'':¬ (40:Int) < (rows.length:Int):=by omega
 simp [s0w,Q0r,h0,b0,hs.slen,h1,h1',h2,h2',h3,h3',h3'']
 have ks0:=hs.mono b0w hx
 refine c0l (fun i ρ G'=>ρ 1=.int .i64 n∧ρ 2=.pointer (some ⟨H.size,0,none⟩)∧ρ 5=.int .i64 (i:Int)∧Ext G G'∧r0e (i0G n) (rows.take i)=true) rows.length (by decide) (by simp [h0,Ext.refl G,l0j]) ?_
 clear h0 ρ hx2
 rintro i ρ G1 hi1 ⟨g1,g2,g5,hx1,hc⟩
 have b1:=hx1.blk b0
 have ks:=ks0.mono b0w hx1
 simp [Q0s,g2,g5,b1,ks.slen]
 refine d0f.mk (by simp) (fun hi=>?_) (fun heq=>?_)
 ·obtain ⟨w,hl,kw⟩:=d0v.load ks hi
  obtain ⟨hfew,hrl2⟩:=hr _ (f1Q hi)
  have hwn:=a0R (show i < 4611686018427387904 by omega)
  by_cases hlen:(rows[i].length:Int)=n
  ·simp [I0u,Q0u,g1,g2,g5,b1,ks.ia hi,hl,kw.slen,hlen]
   refine t0a (fun j ρ G'=>ρ 1=.int .i64 n∧ρ 2=.pointer (some ⟨H.size,0,none⟩)∧ρ 5=.int .i64 (i:Int)∧ρ 6=.int .i64 (j:Int)∧Ext G G'∧r0e l0t (rows[i].take j)=true) rows[i].length (by decide) (by simp [g1,g2,g5,hx1,l0j]) ?_
   clear g1 g2 g5 hx1 kw hl ks b1 ρ G1
   rintro j ρ G1 hj1 ⟨g1,g2,g5,g6,hx1,hcj⟩
   have b1:=hx1.blk b0
   have ks:=ks0.mono b0w hx1
   simp [Q0v,g1,g6]
   refine d0f.mk (by simp [← hlen]) (fun hj=>?_) (fun heq=>?_)
   ·obtain ⟨w,hl,kw⟩:=d0v.load ks hi
    obtain ⟨x,hlx,k0⟩:=a0T.load kw hj
    simp [Q0w,g1,g2,g5,g6,b1,ks.ia hi,hl,kw.ia hj,hlx]
    refine (f0j k0 (by have:=hx.1;have:=hx1.1;omega) (by have:=(hfew _ (f1Q hj)).1;omega)).mono ?_
    rintro _ G2 ⟨rfl,hx2⟩
    replace hx1:=hx1.trans hx2
    cases hm:l0t rows[i][j]
    ·simp [I0q]
     intros
     exact j0Q hi (by unfold i0G;rw [j0Q hj hm];simp)
    ·simp
     unfold e0t
     simp [I0r,g6,a0R (show j < 4611686018427387904 by omega)]
     exact b0T.mk ⟨by simp [g1],by simp [g2],by simp [g5],by simp,hx1,by rw [i0P hj,hcj,hm];rfl⟩
   ·subst heq
    rw [g1d] at hcj
    unfold e0t
    simp [I0s,g5,hwn]
    exact b0T.mk ⟨by simp [g1],by simp [g2],by simp,hx1,by rw [i0P hi,hc];unfold i0G;simp [hlen,hcj]⟩
  ·simp [I0u,Q0t,g1,g2,g5,b1,ks.ia hi,hl,kw.slen,hlen]
   intro _
   exact j0Q hi (by unfold i0G;simp [hlen])
 ·subst heq
  rw [g1d] at hc
  simp [I0t,hc]
theorem m0m {S:Nat} {rows:List (List b0x)} {n:Int} {d:List d0K} (h:d0U H v rows) (hd:g0m H w d) (hf:fl≤H.size) (hS:S < 67108864) (hr:∀ r ∈ rows,Few S r∧r.length < 1073741824) (hrl:rows.length < 1073741824) (hfd:z0h d) (hdl:d.length < 1073741824) :
  a0U env fl X0o [v,.int .i64 n,w] H (fun r H'=>r=.bool (c0v rows n d)∧Ext H H') R:=by
 obtain ⟨s,rfl,hs⟩:=h
 refine a0i e1x hf (h:=?_)
 intro ρ h0
 simp [Z0W,N0V,h0,hs.cells]
 generalize hG:Array.push H _=G
 obtain ⟨hx2,b0⟩:=g0B hG
 have hx:=Ext.refl H
 clear hG
 replace hx:=hx.trans hx2
 have kt2:d0U G (.agg #[s]) rows:=⟨s,rfl,hs.mono b0w hx⟩
 unfold c0v
 simp [N0W,h0,b0]
 refine (n0O (n:=n) kt2 hx.1 hS hr hrl).mono ?_
 rintro _ G2 ⟨rfl,hx2⟩
 replace b0:=hx2.blk b0;replace hx:=hx.trans hx2
 cases h1:g0j rows n
 ·simp [I0e]
 by_cases h2:d.length=rows.length
 ·have h2':(d.length:Int)=(rows.length:Int):=by omega
  simp [h0,b0,hd.slen,hs.slen,h2,h2',N0X]
  refine c0l (fun i ρ G=>ρ 2=w∧ρ 7=.int .i64 (i:Int)∧Ext H G∧f0B (fun e=>!n0r e) (d.take i)=false) d.length (by decide) (by simp [h0,hx,l0l]) ?_
  clear h0 ρ
  rintro i ρ G1 hi1 ⟨g2,g7,hx1,hc⟩
  have kd:=hd.mono c0R hx1
  simp [N0Y,g2,g7,kd.slen]
  refine d0f.mk (by simp) (fun hi=>?_) (fun heq=>?_)
  ·obtain ⟨x,hl,k0⟩:=g0m.load kd hi
   simp [N0Z,g2,g7,kd.ia hi,hl]
   refine (i0k k0 hx1.1 (by have:=hfd _ (f1Q hi);omega)).mono ?_
   rintro _ G3 ⟨rfl,hx3⟩
   replace hx1:=hx1.trans hx3
   cases hm:n0r d[i]
   ·simp [O0a]
    intros
    exact l0m hi (by simp [hm])
   ·simp
    unfold e0t
    simp [O0b,g7,a0R (show i < 4611686018427387904 by omega)]
    exact b0T.mk ⟨by simp [g2],by simp,hx1,by rw [i0R hi,hc,hm];rfl⟩
  ·subst heq
   rw [g1d] at hc
   simp [O0c,hc]
 ·have h2':¬ (d.length:Int)=(rows.length:Int):=by omega
  simp [h0,b0,hd.slen,hs.slen,h2,h2',I0e]
end
section
open Go
set_option maxHeartbeats 4000000
variable {fl:Nat} {H G:a0f} {R:a0E} {v w:Value} {a b:List d0K}
end
end Go.Proofs.YtjlohmnnldbjoaaGreat.AI
