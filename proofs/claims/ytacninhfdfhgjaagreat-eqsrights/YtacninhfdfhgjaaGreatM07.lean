/- Part 8 of the proof. -/
import Derived.Test.YtacninhfdfhgjaaGreatM05
import Derived.Test.YtacninhfdfhgjaaGreatM06
set_option linter.unusedVariables false
set_option linter.unusedSimpArgs false
set_option linter.unusedSectionVars false
namespace Go.Proofs.YtacninhfdfhgjaaGreat.AI
section
open Go
set_option maxHeartbeats 4000000
variable {fl:Nat} {H G:a0c} {R:a0E} {v w:Value} {a:b0B}
theorem h0f {n:Nat}:a0e n=[1] ↔ n=1:=by
 constructor
 ·intro h
  have:=a0f n
  rw [h] at this
  simpa [a0l] using this.symm
 ·rintro rfl
  rw [c0F (by omega)]
  simp [a0C]
theorem L0i {i:Bool × List Nat} (h:c0V i=true) (hl:i.2 ≠ []) (hok:a0U i.2):a0p i ≠ 0:=by
 intro h0
 have h1:=g0y hok
 unfold d0o at h1
 rw [h,h0] at h1
 simp [a0C] at h1
 exact hl h1
theorem d0H (h:c0K H v a) (hf:fl≤H.size) (hn:e0g a < 268435456):a0N env fl F0F [v] H (fun r H'=>r=.bool (i0K a)∧Ext H H') R:=by
 have hn1:a.1.2.length < 268435456:=by unfold e0g at hn;omega
 have hn2:a.2.2.length < 268435456:=by unfold e0g at hn;omega
 obtain ⟨s,u,rfl,hs,hu⟩:=h
 obtain ⟨⟨p,lp⟩,⟨q,lq⟩⟩:=a
 simp only at hs hu hn1 hn2
 have k0:b0j H (.agg #[.bool p,s]) (p,lp):=⟨s,rfl,hs⟩
 have k1:b0j H (.agg #[.bool q,u]) (q,lq):=⟨u,rfl,hu⟩
 refine a0d P0S hf (h:=?_)
 intro ρ h0
 simp [M0s,B0E,h0]
 generalize hG:Array.push H _=G
 obtain ⟨hx2,b0⟩:=e0L hG
 have hx:=Ext.refl H
 clear hG
 replace hs:=hs.mono hx2
 replace hu:=hu.mono hx2
 replace hx:=hx.trans hx2;replace k0:=k0.mono hx2;replace k1:=k1.mono hx2
 have hsl:=hs.slen
 have hul:=hu.slen
 by_cases hc:lq=[]∧q=false
 ·obtain ⟨rfl,rfl⟩:=hc
  have hm:i0K ((p,lp),(false,[]))=(!p && lp.length == 0):=by
   unfold i0K c0B
   have:a0p (false,([]:List Nat))=0:=by simp [a0p,a0l,c0V]
   rw [this]
   cases p <;> simp
  rw [hm]
  simp [o0Z,b0,hul]
  cases lp with
  | nil=>cases p <;> simp [u0W,b0,hsl]
  | cons y l =>
   have hne:¬ ((l.length:Int) + 1=0):=by omega
   cases p <;> simp [u0W,b0,hsl,hne]
 ·have hm:i0K ((p,lp),(q,lq))=(c0V (p,lp) && c0V (q,lq) && !q && decide (Int.gcd (a0p (p,lp)) (a0p (q,lq))=1)):=by
   have hz:c0B ((p,lp),(q,lq))=false:=by
    unfold c0B
    cases lq with
    | nil=>cases q with
     | true=>simp
     | false=>exact R0q ⟨rfl,rfl⟩ hc
    | cons y l=>simp
   unfold i0K
   rw [hz,S0R]
   by_cases h1:c0V (q,lq)=true∧q=false
   ·obtain ⟨h1,rfl⟩:=h1
    have hl:lq ≠ []:=fun h=>hc ⟨h,rfl⟩
    have hv:=L0i (i:=(false,lq)) h1 hl hu.ok
    have hv2:(a0p (false,lq) != 0)=true:=bne_iff_ne.2 hv
    rw [h1,hv2]
    cases c0V (p,lp) <;> simp [BEq.beq]
   ·cases h2:c0V (q,lq) <;> cases q <;> simp_all
  rw [hm]
  have hg1:∀ (s:Value) (g:Nat) (G:a0c),Lim G s (a0e g)→(decide (((a0e g).length:Int)=1)=true→b0y G false 1 (adr 1 s 0)=some (.int .u32 ((a0e g).getD 0 0:Nat))):=fun s g G h hl=>h.load (by have:=of_decide_eq_true hl;omega) (Ext.refl _)
  cases lq with
  | nil =>
   have hqt:q=true:=by cases q with
    | true=>rfl
    | false=>exact R0q ⟨rfl,rfl⟩ hc
   subst hqt
   simp [o0Z,u0X,b0,hul]
   refine (i0V k0 k1 hx.1 hn1 hn2).mono ?_
   rintro _ G2 ⟨⟨sg,rfl,kg⟩,hx2⟩
   replace b0:=hx2.blk b0;replace hx:=hx.trans hx2;replace k0:=k0.mono hx2;replace k1:=k1.mono hx2
   have hsz:=hx.1
   obtain ⟨g,hg⟩:∃ g,Int.gcd (a0p (p,lp)) (a0p (true,[]))=g:=⟨_,rfl⟩
   rw [hg] at kg ⊢
   simp [kg.cells,kg.plain,hsz]
   generalize hN:Array.setIfInBounds (Array.push _ _) _ _=G3
   obtain ⟨hx2,b2⟩:=new1 hN
   clear hN
   replace b0:=hx2.blk b0;replace hx:=hx.trans hx2;replace k0:=k0.mono hx2;replace k1:=k1.mono hx2
   replace kg:Lim G3 sg (a0e g):=kg.mono hx2
   simp [u0Y,b0]
   refine (c0s k0 hx.1 (R0r hn1 (by omega))).mono ?_
   rintro _ G4 ⟨rfl,hx2⟩
   replace b0:=hx2.blk b0;replace b2:=hx2.blk b2;replace hx:=hx.trans hx2;replace k0:=k0.mono hx2;replace k1:=k1.mono hx2
   replace kg:=kg.mono hx2
   cases h1:c0V (p,lp) with
   | false=>simp
   | true =>
   simp [b0]
   refine (c0s k1 hx.1 (R0r hn2 (by omega))).mono ?_
   rintro _ G5 ⟨rfl,hx2⟩
   replace b0:=hx2.blk b0;replace b2:=hx2.blk b2;replace hx:=hx.trans hx2;replace k0:=k0.mono hx2;replace k1:=k1.mono hx2
   replace kg:=kg.mono hx2
   have hmf:c0V (true,([]:List Nat))=false:=rfl
   simp [hmf]
  | cons y l =>
   have hne:¬ ((l.length:Int) + 1=0):=by omega
   simp [o0Z,u0X,b0,hul,hne]
   refine (i0V k0 k1 hx.1 hn1 hn2).mono ?_
   rintro _ G2 ⟨⟨sg,rfl,kg⟩,hx2⟩
   replace b0:=hx2.blk b0;replace hx:=hx.trans hx2;replace k0:=k0.mono hx2;replace k1:=k1.mono hx2
   have hsz:=hx.1
   obtain ⟨g,hg⟩:∃ g,Int.gcd (a0p (p,lp)) (a0p (q,y::l))=g:=⟨_,rfl⟩
   rw [hg] at kg ⊢
   simp [kg.cells,kg.plain,hsz]
   generalize hN:Array.setIfInBounds (Array.push _ _) _ _=G3
   obtain ⟨hx2,b2⟩:=new1 hN
   clear hN
   replace b0:=hx2.blk b0;replace hx:=hx.trans hx2;replace k0:=k0.mono hx2;replace k1:=k1.mono hx2
   replace kg:Lim G3 sg (a0e g):=kg.mono hx2
   simp [u0Y,b0]
   refine (c0s k0 hx.1 (R0r hn1 (by omega))).mono ?_
   rintro _ G4 ⟨rfl,hx2⟩
   replace b0:=hx2.blk b0;replace b2:=hx2.blk b2;replace hx:=hx.trans hx2;replace k1:=k1.mono hx2
   replace kg:=kg.mono hx2
   cases h1:c0V (p,lp) with
   | false=>simp
   | true =>
   simp [b0]
   refine (c0s k1 hx.1 (R0r hn2 (by omega))).mono ?_
   rintro _ G5 ⟨rfl,hx2⟩
   replace b0:=hx2.blk b0;replace b2:=hx2.blk b2;replace hx:=hx.trans hx2
   replace kg:=kg.mono hx2
   cases h2:c0V (q,y :: l) with
   | false=>simp
   | true =>
   cases q with
   | true=>simp [b0]
   | false =>
   by_cases hgl:(a0e g).length=1
   ·obtain ⟨z,hz⟩:=List.length_eq_one_iff.1 hgl
    have hgz:(g=1)=(z=1):=propext ⟨fun h=>by have:=h0f.2 h;rw [hz] at this;simpa using this,fun h=>h0f.1 (by rw [hz,h])⟩
    have h3:=kg.ia (show 0 < (a0e g).length by omega) (k:=.i64)
    have h4:=kg.load (show 0 < (a0e g).length by omega) (Ext.refl _)
    rw [hz] at h4
    simp at h3 h4
    simp [b0,b2,kg.slen,hgl,hz,h3,h4,hgz]
    intro _
    rw [S0s,beq_iff_eq,R0E]
    omega
   ·have hgl':¬ ((a0e g).length:Int)=1:=by omega
    have hg1:¬ g=1:=fun h=>hgl (by rw [h0f.2 h];rfl)
    simp [b0,b2,kg.slen,hgl,hgl',hg1]
theorem f0e (h:c0K H v a) (hf:fl≤H.size) (hn:e0g a < 268435456):a0N env fl H0d [v] H (fun r H'=>c0K H' r (a0G (d0X a))∧Ext H H') R:=by
 have hn1:a.1.2.length < 268435456:=by unfold e0g at hn;omega
 have hn2:a.2.2.length < 268435456:=by unfold e0g at hn;omega
 have k0:=h
 obtain ⟨s,u,rfl,hs,hu⟩:=h
 refine a0d Q0C hf (h:=?_)
 intro ρ h0
 simp [N0b,E0h,h0,hs.cells,hu.cells]
 generalize hG:Array.push (Array.push H _) _=G
 have hx2:Ext H G:=by rw [← hG];exact (Ext.refl H).push.push
 have b0:a0c.blk G H.size=.row false a0h [.bool a.1.1,s,.bool a.2.1,u]:=by rw [← hG];simp
 have b1:a0c.blk G (H.size + 1)=.row false a0h [.bool false,.slice none 0 0,.bool false,.slice none 0 0]:=by rw [← hG];simp
 have hx:=Ext.refl H
 clear hG
 replace hx:=hx.trans hx2;replace k0:=k0.mono hx2
 replace hs:=hs.mono hx2
 replace hu:=hu.mono hx2
 simp [E0i,b0]
 refine (d0H k0 hx.1 hn).mono ?_
 rintro _ G2 ⟨rfl,hx2⟩
 replace b0:=hx2.blk b0;replace b1:=hx2.blk b1;replace hx:=hx.trans hx2;replace k0:=k0.mono hx2
 replace hs:=hs.mono hx2
 replace hu:=hu.mono hx2
 have hsz:=hx.1
 cases hm:i0K a with
 | false =>
  have hv:d0X a=0:=by
   unfold d0X
   rw [hm]
   split <;> rfl
  simp
  simp [v0y]
  refine (f0U hx.1).mono ?_
  rintro _ G3 ⟨⟨s3,u3,rfl,k3,k4⟩,hx2⟩
  replace b0:=hx2.blk b0;replace b1:=hx2.blk b1;replace hx:=hx.trans hx2;replace k0:=k0.mono hx2
  have hsz:=hx.1
  simp [b1,k3.cells,k3.plain,k4.cells,k4.plain,hsz]
  generalize hS:Array.setIfInBounds G3 _ _=G5
  have hsz:=hx.1;replace k0:=k0.setS hS b1 (by decide);replace k3:=k3.setS hS b1 (by decide);replace k4:=k4.setS hS b1 (by decide);replace b0:=a0q hS b0 (by omega);replace hx:=a0R hS hx (by omega);replace b1:=a0K hS b1;clear hS hsz
  simp [b1]
  rw [hv]
  exact fun _=>⟨s3,u3,rfl,k3,k4⟩
 | true =>
  simp [b0,hu.slen]
  refine ⟨fun hnil=>?_,fun hne=>?_⟩
  ·have hv:d0X a=0:=by
    cases hz:c0B a with
    | true=>unfold d0X;rw [hz];rfl
    | false =>
     exfalso
     unfold i0K at hm
     rw [hz] at hm
     simp at hm
     obtain ⟨⟨⟨⟨m1,m2⟩,m3⟩,m4⟩,m5⟩:=hm
     exact m4 (by unfold a0p;rw [hnil];simp [a0l])
   simp [v0y]
   refine (f0U hx.1).mono ?_
   rintro _ G3 ⟨⟨s3,u3,rfl,k3,k4⟩,hx2⟩
   replace b0:=hx2.blk b0;replace b1:=hx2.blk b1;replace hx:=hx.trans hx2;replace k0:=k0.mono hx2
   have hsz:=hx.1
   simp [b1,k3.cells,k3.plain,k4.cells,k4.plain,hsz]
   generalize hS:Array.setIfInBounds G3 _ _=G5
   have hsz:=hx.1;replace k0:=k0.setS hS b1 (by decide);replace k3:=k3.setS hS b1 (by decide);replace k4:=k4.setS hS b1 (by decide);replace b0:=a0q hS b0 (by omega);replace hx:=a0R hS hx (by omega);replace b1:=a0K hS b1;clear hS hsz
   simp [b1]
   rw [hv]
   exact fun _=>⟨s3,u3,rfl,k3,k4⟩
  ·have hz:c0B a=false:=by
    unfold c0B
    cases hl:a.2.2 with
    | nil=>exact R0q hl hne
    | cons y l=>simp
   have hvp:=h0y hz hm
   unfold i0K at hm
   rw [hz] at hm
   simp at hm
   obtain ⟨⟨⟨⟨m1,m2⟩,m3⟩,m4⟩,m5⟩:=hm
   rw [hvp]
   refine a0Y ?_
   simp [E0j,b0]
   refine (b0K (a0p a.1) hs (by have:=hx.1;omega) (by omega) (by unfold a0p;rw [m1];rfl)).mono ?_
   rintro _ G3 ⟨⟨s3,rfl,k3⟩,hx2⟩
   replace b0:=hx2.blk b0;replace b1:=hx2.blk b1;replace hx:=hx.trans hx2;replace k0:=k0.mono hx2
   replace hu:=hu.mono hx2
   simp [b0]
   refine (b0K (a0p a.2) hu hx.1 (by omega) (by unfold a0p;rw [m2,m3];rfl)).mono ?_
   rintro _ G4 ⟨⟨s4,rfl,k4⟩,hx2⟩
   replace b0:=hx2.blk b0;replace b1:=hx2.blk b1;replace hx:=hx.trans hx2;replace k0:=k0.mono hx2;replace k3:=k3.mono hx2
   have hsz:=hx.1
   simp [b1,k3.cells,k3.plain,k4.cells,k4.plain,hsz,a0V]
   generalize hS:Array.setIfInBounds G4 _ _=G5
   have hsz:=hx.1;replace k0:=k0.setS hS b1 (by decide);replace k3:=k3.setS hS b1 (by decide);replace k4:=k4.setS hS b1 (by decide);replace b0:=a0q hS b0 (by omega);replace hx:=a0R hS hx (by omega);replace b1:=a0K hS b1;clear hS hsz
   simp [b1]
   exact fun _=>⟨s3,s4,rfl,k3,k4⟩
end
section
open Go
set_option maxHeartbeats 4000000
variable {fl:Nat} {H G:a0c} {R:a0E} {v w:Value} {a b:b0B}
theorem j0G (h:c0K H v a) (k:c0K H w b) (hf:fl≤H.size) (hn:e0g a < 67108864) (hm:e0g b < 67108864):a0N env fl I0u [v,w] H (fun r H'=>r=.int .i64 (v0W (d0X a) (d0X b))∧Ext H H') R:=by
 have k0:=h
 have k1:=k
 obtain ⟨s,u,rfl,hs,hu⟩:=h
 obtain ⟨s',u',rfl,hs',hu'⟩:=k
 have z1:=g0m hs.ok hu.ok
 have z2:=g0m hs'.ok hu'.ok
 refine a0d Q0a hf (h:=?_)
 intro ρ h0
 simp [M0A,C0j,h0,hs.cells,hu.cells,hs'.cells,hu'.cells]
 generalize hG:Array.push (Array.push H _) _=G
 have hx2:Ext H G:=by rw [← hG];exact (Ext.refl H).push.push
 have b0:a0c.blk G H.size=.row false a0h [.bool a.1.1,s,.bool a.2.1,u]:=by rw [← hG];simp
 have b1:a0c.blk G (H.size + 1)=.row false a0h [.bool b.1.1,s',.bool b.2.1,u']:=by rw [← hG];simp
 have hx:=Ext.refl H
 clear hG
 replace hx:=hx.trans hx2;replace k0:=k0.mono hx2;replace k1:=k1.mono hx2
 simp [C0k,b0]
 refine (f0e k0 hx.1 (by omega)).mono ?_
 rintro _ G2 ⟨⟨s1,u1,rfl,k2,k3⟩,hx2⟩
 replace b0:=hx2.blk b0;replace b1:=hx2.blk b1;replace hx:=hx.trans hx2;replace k0:=k0.mono hx2;replace k1:=k1.mono hx2
 have hsz:=hx.1
 simp [b0,k2.cells,k2.plain,k3.cells,k3.plain,hsz]
 generalize hS:Array.setIfInBounds G2 _ _=G3
 have hsz:=hx.1;replace k0:=k0.setS hS b0 (by decide);replace k1:=k1.setS hS b0 (by decide);replace k2:=k2.setS hS b0 (by decide);replace k3:=k3.setS hS b0 (by decide);replace b1:=a0q hS b1 (by omega);replace hx:=a0R hS hx (by omega);replace b0:=a0K hS b0;clear hS hsz
 simp [C0l,b1]
 refine (f0e k1 hx.1 (by omega)).mono ?_
 rintro _ G2 ⟨⟨s2,u2,rfl,k4,k5⟩,hx2⟩
 replace b0:=hx2.blk b0;replace b1:=hx2.blk b1;replace hx:=hx.trans hx2;replace k0:=k0.mono hx2;replace k1:=k1.mono hx2;replace k2:=k2.mono hx2;replace k3:=k3.mono hx2
 have hsz:=hx.1
 simp [b1,k4.cells,k4.plain,k5.cells,k5.plain,hsz]
 generalize hS:Array.setIfInBounds G2 _ _=G4
 have hsz:=hx.1;replace k0:=k0.setS hS b1 (by decide);replace k1:=k1.setS hS b1 (by decide);replace k2:=k2.setS hS b1 (by decide);replace k3:=k3.setS hS b1 (by decide);replace k4:=k4.setS hS b1 (by decide);replace k5:=k5.setS hS b1 (by decide);replace b0:=a0q hS b0 (by omega);replace hx:=a0R hS hx (by omega);replace b1:=a0K hS b1;clear hS hsz
 clear k0 k1 hs hu hs' hu'
 generalize d0X a=x at *
 generalize d0X b=y at *
 have x1:=h0v x
 have x2:=h0u x
 have y1:=h0v y
 have y2:=h0u y
 have c1:(a0G x).1.2.length=lz x.num:=a0t _
 have c2:(a0G x).2.2.length=lz x.den:=a0t _
 have c3:(a0G y).1.2.length=lz y.num:=a0t _
 have c4:(a0G y).2.2.length=lz y.den:=a0t _
 have i1:b0j G4 (.agg #[.bool (a0G x).1.1,s1]) (a0n x.num):=⟨s1,rfl,k2⟩
 have i2:b0j G4 (.agg #[.bool (a0G x).2.1,u1]) (a0n x.den):=⟨u1,rfl,k3⟩
 have i3:b0j G4 (.agg #[.bool (a0G y).1.1,s2]) (a0n y.num):=⟨s2,rfl,k4⟩
 have i4:b0j G4 (.agg #[.bool (a0G y).2.1,u2]) (a0n y.den):=⟨u2,rfl,k5⟩
 clear k2 k3 k4 k5
 refine a0Y ?_
 simp [C0m,b0,b1]
 refine (i0W i1 i4 (by have:=hx.1;omega) (by rw [a0t];omega) (by rw [a0t];omega)).mono ?_
 rintro m1 G5 ⟨j1,hx2⟩
 replace b0:=hx2.blk b0;replace b1:=hx2.blk b1;replace hx:=hx.trans hx2
 replace i2:=i2.mono hx2
 replace i3:=i3.mono hx2
 simp [b0,b1]
 refine (i0W i3 i2 hx.1 (by rw [a0t];omega) (by rw [a0t];omega)).mono ?_
 rintro m2 G6 ⟨j2,hx2⟩
 replace hx:=hx.trans hx2
 replace j1:=j1.mono hx2
 rw [a0s,a0s] at j1 j2
 simp
 have q1:=i0J x.num y.den
 have q2:=i0J y.num x.den
 refine (m0S j1 j2 hx.1 (by rw [a0t];omega) (by rw [a0t];omega)).mono ?_
 rintro _ G7 ⟨rfl,hx2⟩
 rw [a0s,a0s,q0s]
 simp
theorem h0N (h:c0K H v a) (hf:fl≤H.size):a0N env fl I0D [v] H (fun r H'=>r=.bool (c0B a)∧Ext H H') R:=by
 obtain ⟨s,u,rfl,hs,hu⟩:=h
 obtain ⟨⟨p,lp⟩,⟨q,lq⟩⟩:=a
 simp only at hs hu
 refine a0d Q0s hf (h:=?_)
 intro ρ h0
 simp [M0R,D0q,h0]
 generalize hG:Array.push H _=G
 obtain ⟨hx2,b0⟩:=e0L hG
 clear hG
 have hsl:=(hs.mono hx2).slen
 have hul:=(hu.mono hx2).slen
 unfold c0B
 cases lp with
 | nil =>
  cases p with
  | true=>simp [m0h,b0,hsl,hul]
  | false =>
   cases lq with
   | nil=>cases q <;> simp [m0h,b0,hsl,hul]
   | cons y l =>
    have hne:¬ ((l.length:Int) + 1=0):=by omega
    simp [m0h,b0,hsl,hul,hne]
 | cons y l =>
  have hne:¬ ((l.length:Int) + 1=0):=by omega
  simp [m0h,b0,hsl,hul,hne]
end
section
open Go
set_option maxHeartbeats 4000000
variable {fl:Nat} {H G:a0c} {R:a0E} {v w:Value} {e f:d0d}
theorem j0H (h:g0q H v e) (hf:fl≤H.size) (hn:e0g e.2 < 268435456):a0N env fl I0r [v] H (fun r H'=>r=.bool (w0N e)∧Ext H H') R:=by
 obtain ⟨s,u,rfl,hs,hu⟩:=h
 have k0:c0K H (.agg #[.bool e.2.1.1,s,.bool e.2.2.1,u]) e.2:=⟨s,u,rfl,hs,hu⟩
 refine a0d P0T hf (h:=?_)
 intro ρ h0
 simp [M0t,B0F,h0,hs.cells,hu.cells]
 generalize hG:Array.push H _=G
 obtain ⟨hx2,b0⟩:=e0L hG
 have hx:=Ext.refl H
 clear hG
 replace hx:=hx.trans hx2;replace k0:=k0.mono hx2
 unfold w0N
 by_cases h3:e.1=0
 ·simp [h3,m0e,B0G,b0]
  refine (d0H k0 hx.1 hn).mono ?_
  rintro _ G2 ⟨rfl,hx2⟩
  simp
 ·by_cases h2:e.1=1
  ·simp [h2,m0e,p0a,b0]
   refine (h0N k0 hx.1).mono ?_
   rintro _ G2 ⟨rfl,hx2⟩
   simp
  ·by_cases h1:e.1 = -1
   ·simp [h1,m0e,p0a,b0]
    refine (h0N k0 hx.1).mono ?_
    rintro _ G2 ⟨rfl,hx2⟩
    simp
   ·simp [h1,h2,h3,m0e,p0a,b0]
end
section
open Go
set_option maxHeartbeats 4000000
variable {fl:Nat} {H G:a0c} {R:a0E} {v w:Value}
theorem q0m {E:Env} {nt tc b b2:Nat} {body:SCode} {rx rc:List a0w} {Q:c0S} {ρ:Nat→Value} (Inv:Nat→(Nat→Value)→a0c→Prop) (n:Nat) (htc:tc < nt) (hI:Inv 0 ρ H)
  (step:∀ i ρ G,i≤n→Inv i ρ G→WR E fl rc (T nt ρ) G (c0i E fl nt tc b b2 n body rx (fun t H=>Q .normal t H) Q R i Inv) R) :
  W E fl (.loop (.seq (.seq (.reg rc) (.cond (.tmp tc) .skip (.exit b))) (.seq (.block b2 body) (.reg rx)))) (T nt ρ) H (d0w b Q) R:=by
 have h:=b0D (Z:=fun t H=>Q .normal t H) (Q:=Q) Inv n htc hI step
 rwa [h0w] at h
theorem f0T {S:Nat} {rows:List (List b0B)} {n:Int} (h:c0C H v rows) (hf:fl≤H.size) (hS:S < 67108864) (hr:∀ r ∈ rows,Few S r∧r.length < 1073741824) (hrl:rows.length < 1073741824) :
  a0N env fl G0U [v,.int .i64 n] H (fun r H'=>r=.bool (d0W rows n)∧Ext H H') R:=by
 obtain ⟨s,rfl,hs⟩:=h
 refine a0d P0u hf (h:=?_)
 intro ρ h0
 simp [L0W,z0K,h0,hs.cells]
 generalize hG:Array.push H _=G
 obtain ⟨hx2,b0⟩:=e0L hG
 have hx:=Ext.refl H
 clear hG
 replace hx:=hx.trans hx2
 unfold d0W
 by_cases h1:n < 0
 ·have h1':¬ 0≤n:=by omega
  simp [m0d,o0W,h0,h1,h1']
 have h1':0≤n:=by omega
 by_cases h2:6 < n
 ·have h2':¬ n≤6:=by omega
  simp [m0d,o0W,h0,h1,h1',h2,h2']
 have h2':n≤6:=by omega
 by_cases h3:40 < rows.length
 ·have h3':¬ rows.length≤40:=by omega
  have h3'':(40:Int) < (rows.length:Int):=by omega
  simp [m0d,o0W,h0,b0,hs.slen,h1,h1',h2,h2',h3,h3',h3'']
 have h3':rows.length≤40:=by omega
 have h3'':¬ (40:Int) < (rows.length:Int):=by omega
 simp [m0d,z0L,h0,b0,hs.slen,h1,h1',h2,h2',h3,h3',h3'']
 have ks0:=hs.mono b0H hx
 refine b0D (fun i ρ G'=>ρ 1=.int .i64 n∧ρ 2=.pointer (some ⟨H.size,0,none⟩)∧ρ 5=.int .i64 (i:Int)∧Ext G G'∧d0K (j0L n) (rows.take i)=true) rows.length (by decide) (by simp [h0,Ext.refl G,c0m]) ?_
 clear h0 ρ hx2
 rintro i ρ G1 hi1 ⟨g1,g2,g5,hx1,hc⟩
 have b1:=hx1.blk b0
 have ks:=ks0.mono b0H hx1
 simp [z0M,g2,g5,b1,ks.slen]
 refine c0i.mk (by simp) (fun hi=>?_) (fun heq=>?_)
 ·obtain ⟨w,hl,kw⟩:=f0v.load ks hi
  obtain ⟨hfew,hrl2⟩:=hr _ (R0g hi)
  have hwn:=a0D (show i < 4611686018427387904 by omega)
  by_cases hlen:(rows[i].length:Int)=n
  ·simp [u0G,z0O,g1,g2,g5,b1,ks.ia hi,hl,kw.slen,hlen]
   refine q0m (fun j ρ G'=>ρ 1=.int .i64 n∧ρ 2=.pointer (some ⟨H.size,0,none⟩)∧ρ 5=.int .i64 (i:Int)∧ρ 6=.int .i64 (j:Int)∧Ext G G'∧d0K i0K (rows[i].take j)=true) rows[i].length (by decide) (by simp [g1,g2,g5,hx1,c0m]) ?_
   clear g1 g2 g5 hx1 kw hl ks b1 ρ G1
   rintro j ρ G1 hj1 ⟨g1,g2,g5,g6,hx1,hcj⟩
   have b1:=hx1.blk b0
   have ks:=ks0.mono b0H hx1
   simp [z0P,g1,g6]
   refine c0i.mk (by simp [← hlen]) (fun hj=>?_) (fun heq=>?_)
   ·obtain ⟨w,hl,kw⟩:=f0v.load ks hi
    obtain ⟨x,hlx,k0⟩:=c0w.load kw hj
    simp [z0Q,g1,g2,g5,g6,b1,ks.ia hi,hl,kw.ia hj,hlx]
    refine (d0H k0 (by have:=hx.1;have:=hx1.1;omega) (by have:=(hfew _ (R0g hj)).1;omega)).mono ?_
    rintro _ G2 ⟨rfl,hx2⟩
    replace hx1:=hx1.trans hx2
    cases hm:i0K rows[i][j]
    ·simp [u0C]
     intros
     exact d0m hi (by unfold j0L;rw [d0m hj hm];simp)
    ·simp
     unfold d0l
     simp [u0D,g6,a0D (show j < 4611686018427387904 by omega)]
     exact b0u.mk ⟨by simp [g1],by simp [g2],by simp [g5],by simp,hx1,by rw [b0R hj,hcj,hm];rfl⟩
   ·subst heq
    rw [Q0Z] at hcj
    unfold d0l
    simp [u0E,g5,hwn]
    exact b0u.mk ⟨by simp [g1],by simp [g2],by simp,hx1,by rw [b0R hi,hc];unfold j0L;simp [hlen,hcj]⟩
  ·simp [u0G,z0N,g1,g2,g5,b1,ks.ia hi,hl,kw.slen,hlen]
   intro _
   exact d0m hi (by unfold j0L;simp [hlen])
 ·subst heq
  rw [Q0Z] at hc
  simp [u0F,hc]
theorem i0U {S:Nat} {rows:List (List b0B)} {n:Int} {d:List d0d} (h:c0C H v rows) (hd:c0R H w d) (hf:fl≤H.size) (hS:S < 67108864) (hr:∀ r ∈ rows,Few S r∧r.length < 1073741824) (hrl:rows.length < 1073741824) (hfd:v0U d) (hdl:d.length < 1073741824) :
  a0N env fl I0c [v,.int .i64 n,w] H (fun r H'=>r=.bool (c0h rows n d)∧Ext H H') R:=by
 obtain ⟨s,rfl,hs⟩:=h
 refine a0d P0v hf (h:=?_)
 intro ρ h0
 simp [L0X,z0R,h0,hs.cells]
 generalize hG:Array.push H _=G
 obtain ⟨hx2,b0⟩:=e0L hG
 have hx:=Ext.refl H
 clear hG
 replace hx:=hx.trans hx2
 have kt2:c0C G (.agg #[s]) rows:=⟨s,rfl,hs.mono b0H hx⟩
 unfold c0h
 simp [z0S,h0,b0]
 refine (f0T (n:=n) kt2 hx.1 hS hr hrl).mono ?_
 rintro _ G2 ⟨rfl,hx2⟩
 replace b0:=hx2.blk b0;replace hx:=hx.trans hx2
 cases h1:d0W rows n
 ·simp [u0H]
 by_cases h2:d.length=rows.length
 ·have h2':(d.length:Int)=(rows.length:Int):=by omega
  simp [h0,b0,hd.slen,hs.slen,h2,h2',z0T]
  refine b0D (fun i ρ G=>ρ 2=w∧ρ 7=.int .i64 (i:Int)∧Ext H G∧c0L (fun e=>!w0N e) (d.take i)=false) d.length (by decide) (by simp [h0,hx,d0f]) ?_
  clear h0 ρ
  rintro i ρ G1 hi1 ⟨g2,g7,hx1,hc⟩
  have kd:=hd.mono d0A hx1
  simp [z0U,g2,g7,kd.slen]
  refine c0i.mk (by simp) (fun hi=>?_) (fun heq=>?_)
  ·obtain ⟨x,hl,k0⟩:=c0R.load kd hi
   simp [z0V,g2,g7,kd.ia hi,hl]
   refine (j0H k0 hx1.1 (by have:=hfd _ (R0g hi);omega)).mono ?_
   rintro _ G3 ⟨rfl,hx3⟩
   replace hx1:=hx1.trans hx3
   cases hm:w0N d[i]
   ·simp [z0W]
    intros
    exact d0g hi (by simp [hm])
   ·simp
    unfold d0l
    simp [z0X,g7,a0D (show i < 4611686018427387904 by omega)]
    exact b0u.mk ⟨by simp [g2],by simp,hx1,by rw [c0j hi,hc,hm];rfl⟩
  ·subst heq
   rw [Q0Z] at hc
   simp [z0Y,hc]
 ·have h2':¬ (d.length:Int)=(rows.length:Int):=by omega
  simp [h0,b0,hd.slen,hs.slen,h2,h2',u0H]
end
section
open Go
set_option maxHeartbeats 4000000
variable {fl:Nat} {H G:a0c} {R:a0E} {v w u:Value}
def g0t (n m:Int) (a:h0P):Bool:=decide ((a.X.length:Int)=n) && decide ((a.W.length:Int)=m) && c0V a.K && d0K c0V a.X && d0K c0V a.W
def d0v (l:List h0P) (n m:Int):Bool:=d0K (g0t n m) l
structure EdT where
 f:Int
 t:Int
 e:p0j
structure ViT where
 l:Int
 m:Int
 g:List h0P
structure l0r where
 nl:Nat
 ns:Nat
 E:List EdT
 V:List ViT
def inB (n:Nat) (i:Int):Bool:=decide (0≤i) && decide (i < n)
def i0d (m:Int):Bool:=decide (0≤m) && decide (m≤40)
def i0z (nl ns:Nat) (x:EdT):Bool:=inB nl x.f && inB nl x.t && i0d x.e.m && decide (x.e.set.length=ns) && d0v x.e.guards ns x.e.m && d0v x.e.set ns x.e.m
def m0s (nl ns:Nat) (x:ViT):Bool:=inB nl x.l && i0d x.m && d0v x.g ns x.m
def l0u (l:l0r):Bool:=decide (1≤l.nl) && decide (l.nl≤40) && decide (l.ns≤6) && decide (l.E.length≤200) && decide (l.V.length≤200)
def c0c (l:l0r):Bool:=l0u l && d0K (i0z l.nl l.ns) l.E && d0K (m0s l.nl l.ns) l.V
theorem e0a.loadV {l:List (Bool × List Nat)} (h:e0a H v l) {j:Nat} (hj:j < l.length):∃ w,b0y H true 2 (adr 2 v j)=some w∧b0j H w l[j]:=by
 obtain ⟨s,h1,h2⟩:=e0a.load h hj;exact ⟨_,h1,s,rfl,h2⟩
def PEs (H:a0c) (cs:List Value) (l:List d0d):Prop:=∃ v,cs=[v]∧c0R H v l
theorem d0r:j0t PEs:=fun _ _ _ _ hx ⟨v,h1,h2⟩=>⟨v,h1,h2.mono d0A hx⟩
abbrev c0b (H:a0c) (v:Value) (l:List (List d0d)):Prop:=Sls PEs H b0v 1 v l
theorem c0b.load {l:List (List d0d)} (h:c0b H v l) {j:Nat} (hj:j < l.length):∃ w,b0y H false 1 (adr 1 v j)=some w∧c0R H w l[j]:=by
 obtain ⟨w,h1,w',h2,h3⟩:=Sls.load1 h hj
 simp only [List.cons.injEq,and_true] at h2
 subst h2
 exact ⟨w,h1,h3⟩
def EdV (H:a0c) (cs:List Value) (x:EdT):Prop:=∃ sG sS sP:Value,cs=[.int .i64 x.f,.int .i64 x.t,.int .i64 x.e.m,sG,sS,sP]∧f0W H sG x.e.guards∧f0W H sS x.e.set∧a0M sP=[sP]∧a0B sP=true
theorem i0L:j0t EdV:=fun _ _ _ _ hx ⟨sG,sS,sP,h1,h2,h3,h4⟩=>⟨sG,sS,sP,h1,h2.mono a0X hx,h3.mono a0X hx,h4⟩
def ViV (H:a0c) (cs:List Value) (x:ViT):Prop:=∃ (s:Int) (sG:Value),cs=[.int .i64 x.l,.int .i64 s,.int .i64 x.m,sG]∧f0W H sG x.g
theorem i0M:j0t ViV:=fun _ _ _ _ hx ⟨s,sG,h1,h2⟩=>⟨s,sG,h1,h2.mono a0X hx⟩
def E0X (v:Value) (n:Nat):Prop:=d0j v=some (.int .i64 n)∧a0M v=[v]∧a0B v=true
def L0k (H:a0c) (cs:List Value) (l:l0r):Prop:=∃ sL sS sE sV:Value,cs=[sL,sS,sE,sV]∧E0X sL l.nl∧E0X sS l.ns∧Sls EdV H b0Y 6 sE l.E∧Sls ViV H g0Z 4 sV l.V
def m0w (H:a0c) (v:Value) (l:l0r):Prop:=∃ cs,v=.agg cs.toArray∧L0k H cs l
theorem L0k.mono {cs:List Value} {l:l0r} (h:L0k H cs l) (hx:Ext H G):L0k G cs l:=by
 obtain ⟨sL,sS,sE,sV,h1,h2,h3,h4,h5⟩:=h;exact ⟨sL,sS,sE,sV,h1,h2,h3,h4.mono i0L hx,h5.mono i0M hx⟩
theorem m0w.mono {l:l0r} (h:m0w H v l) (hx:Ext H G):m0w G v l:=by obtain ⟨cs,h1,h2⟩:=h;exact ⟨cs,h1,h2.mono hx⟩
def i0F (l:l0r):Prop:=l.nl≤60∧l.ns≤10∧l.E.length≤300∧l.V.length≤300∧(∀ x ∈ l.E,j0Q x.e)∧∀ x ∈ l.V,x.g.length≤100∧∀ a ∈ x.g,l0L a
theorem i0l {a:List (Bool × List Nat)} {p:Bool × List Nat→Bool} {g:FuncId} (I:a0c→Prop) (hI:∀ G G',Ext G G'→I G→I G') (h0:I H) (ha:e0a H v a) (hf:fl≤H.size) (hal:a.length < 1073741824)
  (hg:∀ (fl:Nat) (G:a0c) (v:Value) (e:Bool × List Nat),e ∈ a→I G→fl≤G.size→b0j G v e→a0N env fl g [v] G (fun r H'=>r=.bool (p e)∧Ext G H') R) :
  a0N env fl I0H [v,.func (.func g) #[] #[]] H (fun r H'=>(∃ z:Int,r=.int .i64 z∧(0≤z ↔ c0L p a=true))∧Ext H H') R:=by
 refine a0d Q0F hf (h:=?_)
 intro ρ h1
 simp [N0e,E0t,E0u,h1,ha.slen]
 refine g0s (n:=a.length) (fun i ρ G=>ρ 0=v∧ρ 1=.func (.func g) #[] #[]∧Ext H G∧c0L p (a.take i)=false)
  rfl rfl (by decide) (by omega) (by simp) (by simp) ?_ ?_ ?_ ?_
 ·exact ⟨by simp [h1],by simp [h1],Ext.refl H,by rw [S0B];exact d0f⟩
 ·intro i ρ ρ' G h hI;simpa [h] using hI
 ·clear h1 ρ
  rintro i ρ G hi gi gn ⟨g0,g1,hx,hc⟩
  have ka:=ha.mono d0b hx
  obtain ⟨w,hl,k0⟩:=e0a.loadV ka hi
  simp [E0v,E0w,gi,g0,g1,ka.ia hi,hl]
  refine (hg _ _ _ _ (R0g hi) (hI _ _ hx h0) hx.1 k0).mono ?_
  rintro _ G2 ⟨rfl,hx2⟩
  have hx':=hx.trans hx2
  cases hp:p a[i]
  ·simp
   exact Rnd.mk (by simp [gi]) (by simp [gn]) ⟨by simp [g0],by simp [g1],hx',by rw [c0j hi,hc,hp];rfl⟩
  ·simp [E0x,gi]
   exact fun _=>d0g hi hp
 ·clear h1 ρ
  rintro ρ G gi gn ⟨g0,g1,hx,hc⟩
  rw [Q0Z] at hc
  simp [E0y,hc]
theorem g0o {a:List (Bool × List Nat)} {p:Bool × List Nat→Bool} {g:FuncId} (I:a0c→Prop) (hI:∀ G G',Ext G G'→I G→I G') (h0:I H) (ha:e0a H v a) (hf:fl≤H.size) (hal:a.length < 1073741824)
  (hg:∀ (fl:Nat) (G:a0c) (v:Value) (e:Bool × List Nat),e ∈ a→I G→fl≤G.size→b0j G v e→a0N env fl g [v] G (fun r H'=>r=.bool (p e)∧Ext G H') R) :
  a0N env fl I0w [v,.func (.func g) #[] #[]] H (fun r H'=>r=.bool (c0L p a)∧Ext H H') R:=by
 refine a0d Q0e hf (h:=?_)
 intro ρ h1
 simp [M0D,C0y,C0z,h1]
 refine (i0l (p:=p) I hI h0 ha (Q0W _) hal hg).mono ?_
 rintro _ G2 ⟨⟨z,rfl,hz⟩,hx2⟩
 simp
 intro _
 rw [S0s,R0E];exact hz
theorem i0m {a:List (b0B)} {p:b0B→Bool} {g:FuncId} (I:a0c→Prop) (hI:∀ G G',Ext G G'→I G→I G') (h0:I H) (ha:c0w H v a) (hf:fl≤H.size) (hal:a.length < 1073741824)
  (hg:∀ (fl:Nat) (G:a0c) (v:Value) (e:b0B),e ∈ a→I G→fl≤G.size→c0K G v e→a0N env fl g [v] G (fun r H'=>r=.bool (p e)∧Ext G H') R) :
  a0N env fl I0t [v,.func (.func g) #[] #[]] H (fun r H'=>(∃ z:Int,r=.int .i64 z∧(0≤z ↔ c0L p a=true))∧Ext H H') R:=by
 refine a0d P0V hf (h:=?_)
 intro ρ h1
 simp [M0v,B0K,B0L,h1,ha.slen]
 refine g0s (n:=a.length) (fun i ρ G=>ρ 0=v∧ρ 1=.func (.func g) #[] #[]∧Ext H G∧c0L p (a.take i)=false)
  rfl rfl (by decide) (by omega) (by simp) (by simp) ?_ ?_ ?_ ?_
 ·exact ⟨by simp [h1],by simp [h1],Ext.refl H,by rw [S0B];exact d0f⟩
 ·intro i ρ ρ' G h hI;simpa [h] using hI
 ·clear h1 ρ
  rintro i ρ G hi gi gn ⟨g0,g1,hx,hc⟩
  have ka:=ha.mono g0A hx
  obtain ⟨w,hl,k0⟩:=c0w.load ka hi
  simp [B0M,B0N,gi,g0,g1,ka.ia hi,hl]
  refine (hg _ _ _ _ (R0g hi) (hI _ _ hx h0) hx.1 k0).mono ?_
  rintro _ G2 ⟨rfl,hx2⟩
  have hx':=hx.trans hx2
  cases hp:p a[i]
  ·simp
   exact Rnd.mk (by simp [gi]) (by simp [gn]) ⟨by simp [g0],by simp [g1],hx',by rw [c0j hi,hc,hp];rfl⟩
  ·simp [B0O,gi]
   exact fun _=>d0g hi hp
 ·clear h1 ρ
  rintro ρ G gi gn ⟨g0,g1,hx,hc⟩
  rw [Q0Z] at hc
  simp [B0P,hc]
theorem g0p {a:List (b0B)} {p:b0B→Bool} {g:FuncId} (I:a0c→Prop) (hI:∀ G G',Ext G G'→I G→I G') (h0:I H) (ha:c0w H v a) (hf:fl≤H.size) (hal:a.length < 1073741824)
  (hg:∀ (fl:Nat) (G:a0c) (v:Value) (e:b0B),e ∈ a→I G→fl≤G.size→c0K G v e→a0N env fl g [v] G (fun r H'=>r=.bool (p e)∧Ext G H') R) :
  a0N env fl I0e [v,.func (.func g) #[] #[]] H (fun r H'=>r=.bool (c0L p a)∧Ext H H') R:=by
 refine a0d P0x hf (h:=?_)
 intro ρ h1
 simp [L0Z,A0b,A0c,h1]
 refine (i0m (p:=p) I hI h0 ha (Q0W _) hal hg).mono ?_
 rintro _ G2 ⟨⟨z,rfl,hz⟩,hx2⟩
 simp
 intro _
 rw [S0s,R0E];exact hz
theorem h0Q {a:List (h0P)} {p:h0P→Bool} {g:FuncId} {c c2 c3:Value} (I:a0c→Prop) (hI:∀ G G',Ext G G'→I G→I G') (h0:I H) (ha:f0W H v a) (hf:fl≤H.size) (hal:a.length < 1073741824)
  (hg:∀ (fl:Nat) (G:a0c) (v:Value) (e:h0P),e ∈ a→I G→fl≤G.size→v0T G v e→a0N env fl g [v,c,c2,c3] G (fun r H'=>r=.bool (p e)∧Ext G H') R) :
  a0N env fl I0I [v,.func (.func g) #[] #[c,c2,c3]] H (fun r H'=>(∃ z:Int,r=.int .i64 z∧(0≤z ↔ c0L p a=true))∧Ext H H') R:=by
 refine a0d Q0G hf (h:=?_)
 intro ρ h1
 simp [N0f,E0z,E0A,h1,ha.slen]
 refine g0s (n:=a.length) (fun i ρ G=>ρ 0=v∧ρ 1=.func (.func g) #[] #[c,c2,c3]∧Ext H G∧c0L p (a.take i)=false)
  rfl rfl (by decide) (by omega) (by simp) (by simp) ?_ ?_ ?_ ?_
 ·exact ⟨by simp [h1],by simp [h1],Ext.refl H,by rw [S0B];exact d0f⟩
 ·intro i ρ ρ' G h hI;simpa [h] using hI
 ·clear h1 ρ
  rintro i ρ G hi gi gn ⟨g0,g1,hx,hc⟩
  have ka:=ha.mono a0X hx
  obtain ⟨w,hl,k0⟩:=f0W.load ka hi
  simp [E0B,E0C,gi,g0,g1,ka.ia hi,hl]
  refine (hg _ _ _ _ (R0g hi) (hI _ _ hx h0) hx.1 k0).mono ?_
  rintro _ G2 ⟨rfl,hx2⟩
  have hx':=hx.trans hx2
  cases hp:p a[i]
  ·simp
   exact Rnd.mk (by simp [gi]) (by simp [gn]) ⟨by simp [g0],by simp [g1],hx',by rw [c0j hi,hc,hp];rfl⟩
  ·simp [E0D,gi]
   exact fun _=>d0g hi hp
 ·clear h1 ρ
  rintro ρ G gi gn ⟨g0,g1,hx,hc⟩
  rw [Q0Z] at hc
  simp [E0E,hc]
theorem f0X {a:List (h0P)} {p:h0P→Bool} {g:FuncId} {c c2 c3:Value} (I:a0c→Prop) (hI:∀ G G',Ext G G'→I G→I G') (h0:I H) (ha:f0W H v a) (hf:fl≤H.size) (hal:a.length < 1073741824)
  (hg:∀ (fl:Nat) (G:a0c) (v:Value) (e:h0P),e ∈ a→I G→fl≤G.size→v0T G v e→a0N env fl g [v,c,c2,c3] G (fun r H'=>r=.bool (p e)∧Ext G H') R) :
  a0N env fl I0y [v,.func (.func g) #[] #[c,c2,c3]] H (fun r H'=>r=.bool (c0L p a)∧Ext H H') R:=by
 refine a0d Q0h hf (h:=?_)
 intro ρ h1
 simp [M0G,C0G,C0H,h1]
 refine (h0Q (p:=p) I hI h0 ha (Q0W _) hal hg).mono ?_
 rintro _ G2 ⟨⟨z,rfl,hz⟩,hx2⟩
 simp
 intro _
 rw [S0s,R0E];exact hz
theorem h0R {a:List (List d0d)} {p:List d0d→Bool} {g:FuncId} {c c2:Value} (I:a0c→Prop) (hI:∀ G G',Ext G G'→I G→I G') (h0:I H) (ha:c0b H v a) (hf:fl≤H.size) (hal:a.length < 1073741824)
  (hg:∀ (fl:Nat) (G:a0c) (v:Value) (e:List d0d),e ∈ a→I G→fl≤G.size→c0R G v e→a0N env fl g [v,c,c2] G (fun r H'=>r=.bool (p e)∧Ext G H') R) :
  a0N env fl I0n [v,.func (.func g) #[] #[c,c2]] H (fun r H'=>(∃ z:Int,r=.int .i64 z∧(0≤z ↔ c0L p a=true))∧Ext H H') R:=by
 refine a0d P0N hf (h:=?_)
 intro ρ h1
 simp [M0n,B0h,B0i,h1,ha.slen]
 refine g0s (n:=a.length) (fun i ρ G=>ρ 0=v∧ρ 1=.func (.func g) #[] #[c,c2]∧Ext H G∧c0L p (a.take i)=false)
  rfl rfl (by decide) (by omega) (by simp) (by simp) ?_ ?_ ?_ ?_
 ·exact ⟨by simp [h1],by simp [h1],Ext.refl H,by rw [S0B];exact d0f⟩
 ·intro i ρ ρ' G h hI;simpa [h] using hI
 ·clear h1 ρ
  rintro i ρ G hi gi gn ⟨g0,g1,hx,hc⟩
  have ka:=ha.mono d0r hx
  obtain ⟨w,hl,k0⟩:=c0b.load ka hi
  simp [B0j,B0k,gi,g0,g1,ka.ia hi,hl]
  refine (hg _ _ _ _ (R0g hi) (hI _ _ hx h0) hx.1 k0).mono ?_
  rintro _ G2 ⟨rfl,hx2⟩
  have hx':=hx.trans hx2
  cases hp:p a[i]
  ·simp
   exact Rnd.mk (by simp [gi]) (by simp [gn]) ⟨by simp [g0],by simp [g1],hx',by rw [c0j hi,hc,hp];rfl⟩
  ·simp [B0l,gi]
   exact fun _=>d0g hi hp
 ·clear h1 ρ
  rintro ρ G gi gn ⟨g0,g1,hx,hc⟩
  rw [Q0Z] at hc
  simp [B0m,hc]
theorem f0Y {a:List (List d0d)} {p:List d0d→Bool} {g:FuncId} {c c2:Value} (I:a0c→Prop) (hI:∀ G G',Ext G G'→I G→I G') (h0:I H) (ha:c0b H v a) (hf:fl≤H.size) (hal:a.length < 1073741824)
  (hg:∀ (fl:Nat) (G:a0c) (v:Value) (e:List d0d),e ∈ a→I G→fl≤G.size→c0R G v e→a0N env fl g [v,c,c2] G (fun r H'=>r=.bool (p e)∧Ext G H') R) :
  a0N env fl H0Y [v,.func (.func g) #[] #[c,c2]] H (fun r H'=>r=.bool (c0L p a)∧Ext H H') R:=by
 refine a0d P0q hf (h:=?_)
 intro ρ h1
 simp [L0S,z0y,z0z,h1]
 refine (h0R (p:=p) I hI h0 ha (Q0W _) hal hg).mono ?_
 rintro _ G2 ⟨⟨z,rfl,hz⟩,hx2⟩
 simp
 intro _
 rw [S0s,R0E];exact hz
theorem m0b {x:b0B} (h:c0K H v x) (hf:fl≤H.size) (hl:e0g x < 67108864):a0N env fl I0h [v] H (fun r H'=>r=.int .i64 (v0W (d0X x) 0)∧Ext H H') R:=by
 obtain ⟨s1,s2,rfl,k1,k2⟩:=h
 refine a0d P0B hf (h:=?_)
 intro ρ h0
 simp [M0d,A0k,h0,k1.cells,k2.cells]
 generalize hG:Array.push H _=G
 obtain ⟨hx,b0⟩:=e0L hG
 simp [A0l,b0]
 refine (j0G (b:=m0l) ⟨s1,s2,rfl,k1.mono hx,k2.mono hx⟩ ⟨_,_,rfl,Lim.nil,Lim.nil⟩ hx.1 hl (by decide)).mono ?_
 rintro _ G2 ⟨rfl,hx2⟩
 simp [d0Y]
end
section
open Go
set_option maxHeartbeats 4000000
variable {fl:Nat} {H G:a0c} {R:a0E} {v w:Value} {i j:Bool × List Nat}
theorem g0I {n:Int} (hf:fl≤H.size) (h1:-9223372036854775808≤n) (h2:n < 9223372036854775808):a0N env fl G0V [.int .i64 n] H (fun r H'=>c0K H' r (a0G n)∧Ext H H') R:=by
 refine a0d P0A hf (h:=?_)
 intro ρ h0
 simp [M0c,A0i,A0j,h0]
 generalize hG:Array.push H _=G
 obtain ⟨hx2,b0⟩:=e0L hG
 have hx:=Ext.refl H
 clear hG
 replace hx:=hx.trans hx2
 refine (h0n hx.1 h1 h2).mono ?_
 rintro _ G2 ⟨⟨s1,rfl,k1⟩,hx2⟩
 replace b0:=hx2.blk b0;replace hx:=hx.trans hx2
 simp
 refine (h0n hx.1 (by omega) (by omega)).mono ?_
 rintro _ G2 ⟨⟨s2,rfl,k2⟩,hx2⟩
 replace b0:=hx2.blk b0;replace hx:=hx.trans hx2;replace k1:=k1.mono hx2
 have hsz:=hx.1
 simp [b0,k1.cells,k1.plain,k2.cells,k2.plain,hsz,a0V]
 generalize hS:Array.setIfInBounds G2 _ _=G5
 have hsz:=hx.1;replace k1:=k1.setS hS b0 (by decide);replace k2:=k2.setS hS b0 (by decide);replace hx:=a0R hS hx (by omega);replace b0:=a0K hS b0;clear hS hsz
 simp [b0]
 have hc:a0G (n:Rat)=(a0n n,a0n 1):=by
  unfold a0G;rw [Rat.num_intCast,Rat.den_intCast];rfl
 rw [hc]
 exact fun _=>⟨s1,s2,rfl,k1,k2⟩
end
section
open Go
set_option maxHeartbeats 4000000
variable {fl:Nat} {H G:a0c} {R:a0E} {v w u:Value}
def nzR (x:b0B):Bool:=!decide (v0W (d0X x) 0=0)
def k0k (r:List b0B):d0d:=if c0L nzR r then (1,m0l) else (0,a0G 0)
def h0S (rows:List (List b0B)):List d0d:=rows.map k0k
theorem i0s {rows:List (List b0B)} {i:Nat} (h:i < rows.length):h0S (rows.take (i + 1))=h0S (rows.take i) ++ [k0k rows[i]]:=by
 unfold h0S;rw [R0l h,List.map_append];rfl
theorem h0V {x:b0B} (h:c0K H v x) (hf:fl≤H.size) (hn:e0g x < 67108864):a0N env fl I0f [v] H (fun r H'=>r=.bool (nzR x)∧Ext H H') R:=by
 have k0:=h
 obtain ⟨s1,s2,rfl,k1,k2⟩:=h
 refine a0d P0y hf (h:=?_)
 intro ρ h0
 simp [M0a,A0d,h0,k1.cells,k2.cells]
 generalize hG:Array.push H _=G
 obtain ⟨hx,b0⟩:=e0L hG
 simp [A0e,b0]
 refine (m0j (b:=m0l) (k0.mono hx) ⟨_,_,rfl,Lim.nil,Lim.nil⟩ hx.1 hn (by decide)).mono ?_
 rintro _ G2 ⟨rfl,hx2⟩
 simp [d0Y]
 exact fun _=>by unfold nzR;by_cases h:v0W (d0X x) 0=0 <;> simp [h]
theorem f0P {rows:List (List b0B)} (h:c0C H v rows) (hf:fl≤H.size) (hr:∀ r ∈ rows,Few 6 r∧r.length < 1073741824) (hrl:rows.length < 1073741824) :
  a0N env fl G0P [v] H (fun r H'=>b0W PE H.size H' a0x 5 r (h0S rows)∧Ext H H') R:=by
 obtain ⟨s,rfl,hs⟩:=h
 refine a0d P0f hf (h:=?_)
 intro ρ h0
 simp [L0H,y0l,h0,hs.cells]
 generalize hG:Array.push H _=G
 obtain ⟨hx,b0⟩:=e0L hG
 clear hG
 simp [y0m,y0n,b0,hs.slen]
 refine g0s (n:=rows.length) (fun i ρ G'=>ρ 8=s∧Ext H G'∧b0W PE H.size G' a0x 5 (ρ 3) (h0S (rows.take i))) rfl rfl (by decide) (by omega) (by simp) (by simp) ?_ ?_ ?_ ?_
 ·exact ⟨by simp,hx,by simpa [h0S] using b0W.nil⟩
 ·intro i ρ ρ' G h hI;simpa [h] using hI
 ·clear h0 ρ hx b0 G
  rintro i ρ G hi gi gn ⟨g8,hx,ho⟩
  obtain ⟨o,g3⟩:∃ s,ρ 3=s:=⟨_,rfl⟩
  rw [g3] at ho
  have ks:=hs.mono b0H hx
  obtain ⟨w,hl,kw⟩:=f0v.load ks hi
  obtain ⟨hfew,hrl2⟩:=hr _ (R0g hi)
  simp [y0o,y0p,g8,gi,ks.ia hi,hl]
  refine (m0B (a:=m0l) ⟨_,_,rfl,Lim.nil,Lim.nil⟩ hx.1 (by decide)).mono ?_
  rintro _ G2 ⟨⟨s1,s2,rfl,k1,k2⟩,hx2⟩
  rw [d0Y] at k1 k2
  replace ho:=ho.mono d0A hx2
  replace kw:=kw.mono g0A hx2
  replace hx:=hx.trans hx2
  clear hx2 ks hl
  have hsz:=hx.1
  simp [k1.cells,k2.cells,k1.plain,k2.plain,hsz,d0Y]
  generalize hGG:Array.setIfInBounds (Array.push G2 _) _ _=G3
  obtain ⟨hy,b2⟩:=new1 hGG
  clear hGG
  simp [y0q]
  refine (g0p (p:=nzR) (fun _=>True) (fun _ _ _ h=>h) trivial (kw.mono g0A hy) (by have:=hy.1;omega) hrl2 (fun fl G v e he _ hf hv=>h0V hv hf (by have:=(hfew e he).1;omega))).mono ?_
  rintro _ G4 ⟨rfl,hy2⟩
  replace b2:=hy2.blk b2
  replace hy:=hy.trans hy2
  clear hy2
  have hlen:(h0S (rows.take i)).length=i:=by unfold h0S;simp;omega
  cases hp:c0L nzR rows[i]
  ·simp
   have he:k0k rows[i]=(0,a0G 0):=by unfold k0k;rw [hp];rfl
   replace ho:=ho.mono d0A hy
   obtain ⟨s',G5,h1,h2,h3,h4⟩:=b0W.app (P:=PE) (sz:=5) (e:=a0x) (by decide) (fun G' cs x _ hl h=>g0q.lx h hl) ho (e2:=a0x) (c:=1) (bytes:=72) (new:=[.int .i64 0,.bool (a0G 0).1.1,s1,.bool (a0G 0).2.1,s2]) (x:=k0k rows[i]) (by rw [he];exact ⟨s1,s2,rfl,k1.mono hy,k2.mono hy⟩) rfl (by simp [k1.plain,k2.plain]) (by omega) (by omega) (by omega) (by have:=hx.1;have:=hy.1;omega)
   try simp at h1
   simp [s0Q,g3,b2,k1.cells,k2.cells,h1]
   refine Rnd.mk (by simp [gi]) (by simp [gn]) ⟨by simp [g8],h4 _ (Q0W _) (hx.trans hy),?_⟩
   rw [i0s hi]
   exact b0W.cast (v':=s') (by simp) h2
  ·simp [y0r,b2,hsz]
   have he:k0k rows[i]=(1,m0l):=by unfold k0k;rw [hp];rfl
   generalize hS:Array.setIfInBounds G4 _ _=G6
   replace hy:=a0R hS hy (Q0W _)
   replace b2:=a0K hS b2
   clear hS
   replace ho:=ho.mono d0A hy
   obtain ⟨s',G5,h1,h2,h3,h4⟩:=b0W.app (P:=PE) (sz:=5) (e:=a0x) (by decide) (fun G' cs x _ hl h=>g0q.lx h hl) ho (e2:=a0x) (c:=1) (bytes:=72) (new:=[.int .i64 1,.bool false,.slice none 0 0,.bool false,.slice none 0 0]) (x:=k0k rows[i]) (by rw [he];exact ⟨_,_,rfl,Lim.nil,Lim.nil⟩) rfl (by simp [a0B]) (by omega) (by omega) (by omega) (by have:=hx.1;have:=hy.1;omega)
   try simp at h1
   simp [s0Q,g3,b2,g3,h1]
   refine Rnd.mk (by simp [gi]) (by simp [gn]) ⟨by simp [g8],h4 _ (Q0W _) (hx.trans hy),?_⟩
   rw [i0s hi]
   exact b0W.cast (v':=s') (by simp) h2
 ·clear h0 ρ hx b0 G
  rintro ρ G gi gn ⟨g8,hx,ho⟩
  rw [Q0Z] at ho
  simp [s0P]
  exact fun _=>ho
def q0i (G:a0c) (p:Nat) (e:d0d):Prop:=∃ s1 s2,a0c.blk G p=.row false a0x [.int .i64 e.1,.bool e.2.1.1,s1,.bool e.2.2.1,s2]∧Lim G s1 e.2.1.2∧Lim G s2 e.2.2.2
theorem q0i.mono {p:Nat} {e:d0d} (h:q0i H p e) (hx:Ext H G):q0i G p e:=by
 obtain ⟨s1,s2,h1,h2,h3⟩:=h;exact ⟨s1,s2,hx.blk h1,h2.mono hx,h3.mono hx⟩
theorem l0C {r:List b0B} {j:Nat} (h:j < r.length):k0k (r.take (j + 1))=if nzR r[j] then (1,m0l) else k0k (r.take j):=by
 unfold k0k
 rw [c0j h]
 cases nzR r[j] <;> simp
theorem j0E {rows:List (List b0B)} (h:c0C H v rows) (hf:fl≤H.size) (hr:∀ r ∈ rows,Few 6 r∧r.length < 1073741824) (hrl:rows.length < 1073741824) :
  a0N env fl H0U [v] H (fun r H'=>b0W PE H.size H' a0x 5 r (h0S rows)∧Ext H H') R:=by
 obtain ⟨s,rfl,hs⟩:=h
 refine a0d P0g hf (h:=?_)
 intro ρ h0
 simp [L0I,y0s,h0,hs.cells]
 generalize hG:Array.push H _=G
 obtain ⟨hx,b0⟩:=e0L hG
 clear hG
 simp [y0t,y0u]
 refine b0D (fun i ρ G'=>ρ 1=.pointer (some ⟨H.size,0,none⟩)∧ρ 4=.int .i64 (i:Int)∧Ext H G'∧a0c.blk G' H.size=.row false a0i [s]∧b0W PE H.size G' a0x 5 (ρ 3) (h0S (rows.take i))) rows.length (by decide) ?_ ?_
 ·exact ⟨by simp,by simp,hx,b0,by simpa [h0S] using b0W.nil⟩
 clear h0 ρ hx b0 G
 rintro i ρ G hi1 ⟨g1,g4,hx,b0,ho⟩
 obtain ⟨o,g3⟩:∃ s,ρ 3=s:=⟨_,rfl⟩
 rw [g3] at ho
 have ks:=hs.mono b0H hx
 simp [y0v,g1,g4,b0,ks.slen]
 refine c0i.mk (by simp) (fun hi=>?_) (fun heq=>?_)
 ·obtain ⟨hfew,hrl2⟩:=hr _ (R0g hi)
  simp [y0w]
  refine (g0I (n:=0) hx.1 (by decide) (by decide)).mono ?_
  rintro _ G2 ⟨⟨s1,s2,rfl,k1,k2⟩,hx2⟩
  rw [show ((0:Int):Rat)=0 from rfl] at k1 k2 ⊢
  replace ho:=ho.mono d0A hx2
  replace b0:=hx2.blk b0
  replace hx:=hx.trans hx2
  clear hx2 ks
  have hsz:=hx.1
  simp [k1.cells,k2.cells,k1.plain,k2.plain,hsz]
  generalize hGG:Array.setIfInBounds (Array.push G2 _) _ _=G3
  obtain ⟨hy,b2⟩:=new1 hGG
  clear hGG
  obtain ⟨p,hp⟩:∃ p,p=G2.size:=⟨_,rfl⟩
  rw [← hp] at b2 ⊢
  have e0:q0i G3 p (k0k (rows[i].take 0)):=⟨s1,s2,b2,k1.mono hy,k2.mono hy⟩
  simp [y0x]
  refine b0D (fun j ρ G'=>ρ 1=.pointer (some ⟨H.size,0,none⟩)∧ρ 3=o∧ρ 4=.int .i64 (i:Int)∧ρ 5=.pointer (some ⟨p,0,none⟩)∧ρ 6=.int .i64 (j:Int)∧Ext G2 G'∧q0i G' p (k0k (rows[i].take j))) rows[i].length (by decide) ?_ ?_
  ·exact ⟨by simp [g1],by simp [g3],by simp [g4],by simp,by simp,hy,e0⟩
  clear g1 g3 g4 hy b2 e0 k1 k2 ρ G3
  rintro j ρ G3 hj1 ⟨g1,g3,g4,g5,g6,hy,he⟩
  have c0:=hy.blk b0
  have ks:=hs.mono b0H (hx.trans hy)
  obtain ⟨w,hl,kw⟩:=f0v.load ks hi
  simp [y0y,g1,g4,g6,c0,ks.ia hi,hl,kw.slen]
  refine c0i.mk (by simp) (fun hj=>?_) (fun heq=>?_)
  ·obtain ⟨x,hlx,k0⟩:=c0w.load kw hj
   simp [y0z,g1,g4,g6,c0,ks.ia hi,hl,kw.ia hj,hlx]
   refine (m0b k0 (by have:=hx.1;have:=hy.1;omega) (by have:=(hfew _ (R0g hj)).1;omega)).mono ?_
   rintro _ G4 ⟨rfl,hy2⟩
   replace he:=he.mono hy2
   replace hy:=hy.trans hy2
   have wj:=a0D (show j < 4611686018427387904 by omega)
   by_cases hz:v0W (d0X rows[i][j]) 0=0
   ·have hn:nzR rows[i][j]=false:=by unfold nzR;simp [hz]
    simp [hz]
    unfold d0l
    simp [t0N,g6,wj]
    exact b0u.mk ⟨by simp [g1],by simp [g3],by simp [g4],by simp [g5],by simp,hy,by rw [l0C hj,hn];exact he⟩
   ·have hn:nzR rows[i][j]=true:=by unfold nzR;simp [hz]
    obtain ⟨t1,t2,b2,_,_⟩:=he
    have hpf:H.size≤p:=by omega
    simp [hz,y0A,g5,b2,hpf]
    generalize hS:Array.setIfInBounds G4 _ _=G6
    replace hy:=a0R hS hy (by omega)
    replace b2:=a0K hS b2
    clear hS
    unfold d0l
    simp [t0N,g6,wj]
    exact b0u.mk ⟨by simp [g1],by simp [g3],by simp [g4],by simp [g5],by simp,hy,by rw [l0C hj,hn];exact ⟨_,_,b2,Lim.nil,Lim.nil⟩⟩
  ·subst heq
   rw [Q0Z] at he
   obtain ⟨t1,t2,b2,q1,q2⟩:=he
   have hlen:(h0S (rows.take i)).length=i:=by unfold h0S;simp;omega
   replace ho:=ho.mono d0A hy
   obtain ⟨s',G5,h1,h2,h3,h4⟩:=b0W.app (P:=PE) (sz:=5) (e:=a0x) (by decide) (fun G' cs x _ hl h=>g0q.lx h hl) ho (e2:=a0x) (c:=1) (bytes:=72) (new:=[.int .i64 (k0k rows[i]).1,.bool (k0k rows[i]).2.1.1,t1,.bool (k0k rows[i]).2.2.1,t2]) (x:=k0k rows[i]) ⟨t1,t2,rfl,q1,q2⟩ rfl (by simp [q1.plain,q2.plain]) (by omega) (by omega) (by omega) (by have:=hx.1;have:=hy.1;omega)
   have b0':=(ho.lxT (e':=a0i) (by decide) h3) _ _ _ c0
   try simp at h1
   simp [t0K,g3,g5,b2,q1.cells,q2.cells,h1]
   unfold d0l
   simp [t0L,g4,a0D (show i < 4611686018427387904 by omega)]
   refine b0u.mk ⟨by simp [g1],by simp,h4 _ (Q0W _) (hx.trans hy),b0',?_⟩
   rw [i0s hi]
   exact b0W.cast (v':=s') (by simp) h2
 ·subst heq
  rw [Q0Z] at ho
  simp [t0M,g3]
  exact fun _=>ho
def L0j (l:List (Bool × List Nat)):Prop:=∀ x ∈ l,x.2.length < 4611686018427387904
def okA (a:h0P):Prop:=L0j a.X∧L0j a.W∧a.K.2.length < 4611686018427387904∧a.X.length < 1073741824∧a.W.length < 1073741824
theorem l0L.ok {a:h0P} (h:l0L a):okA a :=
 ⟨fun x hx=>by have:=(h.1.1 x hx).1;omega,fun x hx=>by have:=(h.1.2.1 x hx).1;omega,by have:=h.1.2.2.1;omega,by have:=h.2.1;omega,by have:=h.2.2;omega⟩
theorem h0K {l:List (Bool × List Nat)} (h:e0a H v l) (hf:fl≤H.size) (hl:L0j l) (hal:l.length < 1073741824) :
  a0N env fl H0c [v] H (fun r H'=>r=.bool (d0K c0V l)∧Ext H H') R:=by
 refine a0d Q0q hf (h:=?_)
 intro ρ h0
 simp [M0P,D0d,D0e,h0]
 refine b0D (fun n ρ G=>ρ 0=v∧ρ 3=.int .i64 (n:Int)∧Ext H G∧d0K c0V (l.take n)=true) l.length (by decide) (by simp [h0,c0m]) ?_
 clear h0 ρ
 rintro n ρ G hn1 ⟨g0,g3,hx,hc⟩
 have k:=h.mono d0b hx
 simp [D0f,g0,g3,k.slen]
 refine c0i.mk (by simp) (fun hlt=>?_) (fun heq=>?_)
 ·obtain ⟨w,hw,k0⟩:=e0a.loadV k hlt
  simp [D0g,g0,g3,k.ia hlt,hw]
  refine (c0s k0 hx.1 (hl _ (R0g hlt))).mono ?_
  rintro _ G2 ⟨rfl,hx2⟩
  cases hp:c0V l[n]
  ·simp [D0h]
   intros
   exact d0m hlt hp
  ·simp
   unfold d0l
   simp [D0i,g3,a0D (show n < 4611686018427387904 by omega)]
   exact b0u.mk ⟨by simp [g0],by simp,hx.trans hx2,by rw [b0R hlt,hc,hp];rfl⟩
 ·subst heq
  rw [Q0Z] at hc
  simp [D0j,hc]
theorem e0w {l:List h0P} {n m:Int} (h:f0W H v l) (hf:fl≤H.size) (hl:∀ a ∈ l,okA a) (hal:l.length < 1073741824) :
  a0N env fl F0E [v,.int .i64 n,.int .i64 m] H (fun r H'=>r=.bool (d0v l n m)∧Ext H H') R:=by
 refine a0d P0R hf (h:=?_)
 intro ρ h0
 simp [M0r,B0w,B0x,h0]
 unfold d0v
 refine b0D (fun i ρ G=>ρ 0=v∧ρ 1=.int .i64 n∧ρ 2=.int .i64 m∧ρ 7=.int .i64 (i:Int)∧Ext H G∧d0K (g0t n m) (l.take i)=true) l.length (by decide) (by simp [h0,c0m]) ?_
 clear h0 ρ
 rintro i ρ G hn1 ⟨g0,g1,g2,g7,hx,hc⟩
 have k:=h.mono a0X hx
 simp [B0y,g0,g7,k.slen]
 refine c0i.mk (by simp) (fun hlt=>?_) (fun heq=>?_)
 ·obtain ⟨w,hw,sX,sW,s,rfl,kX,kW,kK⟩:=f0W.load k hlt
  have hok:=hl _ (R0g hlt)
  have hsz:=hx.1
  simp [B0z,g0,g7,k.ia hlt,hw,kX.cells,kW.cells,kK.cells,kX.plain,kW.plain,kK.plain,hsz]
  generalize hGG:Array.setIfInBounds (Array.push G _) _ _=G1
  obtain ⟨hx1,b0⟩:=new1 hGG
  clear hGG
  replace kX:=kX.mono d0b hx1
  replace kW:=kW.mono d0b hx1
  replace kK:=kK.mono hx1
  have no:g0t n m l[i]=false→d0K (g0t n m) l=false:=fun h=>d0m hlt h
  by_cases h1:(l[i].X.length:Int)=n
  case neg =>
   simp [o0Y,k0b,b0,g1,kX.slen,h1]
   intros
   exact no (by unfold g0t;simp [h1])
  by_cases h2:(l[i].W.length:Int)=m
  case neg =>
   simp [o0Y,k0b,b0,g1,g2,kX.slen,kW.slen,h1,h2]
   intros
   exact no (by unfold g0t;simp [h2])
  simp [o0Y,b0,g1,g2,kX.slen,kW.slen,h1,h2]
  refine (c0s ⟨s,rfl,kK⟩ (by have:=hx1.1;omega) hok.2.2.1).mono ?_
  rintro _ G2 ⟨rfl,hx2⟩
  cases hp:c0V l[i].K
  case false =>
   simp [k0b]
   intros
   exact no (by unfold g0t;simp [hp])
  simp [hx2.blk b0]
  refine (h0K (kX.mono d0b hx2) (by have:=hx1.1;have:=hx2.1;omega) hok.1 hok.2.2.2.1).mono ?_
  rintro _ G3 ⟨rfl,hx3⟩
  replace hx2:=hx2.trans hx3
  cases hp2:d0K c0V l[i].X
  case false =>
   simp [k0b]
   intros
   exact no (by unfold g0t;simp [hp2])
  simp [hx2.blk b0]
  refine (h0K (kW.mono d0b hx2) (by have:=hx1.1;have:=hx2.1;omega) hok.2.1 hok.2.2.2.2).mono ?_
  rintro _ G4 ⟨rfl,hx3⟩
  replace hx2:=hx2.trans hx3
  cases hp3:d0K c0V l[i].W
  case false =>
   simp [k0b]
   intros
   exact no (by unfold g0t;simp [hp3])
  simp
  unfold d0l
  simp [B0A,g7,a0D (show i < 4611686018427387904 by omega)]
  exact b0u.mk ⟨by simp [g0],by simp [g1],by simp [g2],by simp,hx.trans (hx1.trans hx2),by rw [b0R hlt,hc];unfold g0t;simp [h1,h2,hp,hp2,hp3]⟩
 ·subst heq
  rw [Q0Z] at hc
  simp [B0B,hc]
theorem k0g {l:l0r} (h:m0w H v l) (hf:fl≤H.size):a0N env fl f_4 [v] H (fun r H'=>(∃ c,r=.bool c∧(c=false→i0F l))∧Ext H H') R:=by
 obtain ⟨cs,rfl,sL,sS,sE,sV,rfl,hL,hS,hE,hV⟩:=h
 refine a0d e_4 hf (h:=?_)
 intro ρ h0
 simp [s_4,J0I,h0,hL.2.1,hS.2.1,hE.cells,hV.cells]
 generalize hGG:Array.push H _=G
 obtain ⟨hx,b0⟩:=e0L hGG
 clear hGG
 have lL:=hL.1
 have lS:=hS.1
 have lE:=hE.slen
 have lV:=hV.slen
 by_cases h1:60 < l.nl
 ·have h1':(60:Int) < (l.nl:Int):=by omega
  simp [p0M,u0U,b0,lL,h1,h1']
 have h1':¬ (60:Int) < (l.nl:Int):=by omega
 by_cases h2:10 < l.ns
 ·have h2':(10:Int) < (l.ns:Int):=by omega
  simp [p0M,u0U,b0,lL,lS,h1,h1',h2,h2']
 have h2':¬ (10:Int) < (l.ns:Int):=by omega
 by_cases h3:300 < l.E.length
 ·have h3':(300:Int) < (l.E.length:Int):=by omega
  simp [p0M,u0U,b0,lL,lS,lE,h1,h1',h2,h2',h3,h3']
 have h3':¬ (300:Int) < (l.E.length:Int):=by omega
 by_cases h4:300 < l.V.length
 ·have h4':(300:Int) < (l.V.length:Int):=by omega
  simp [p0M,u0U,b0,lL,lS,lE,lV,h1,h1',h2,h2',h3,h3',h4,h4']
 have h4':¬ (300:Int) < (l.V.length:Int):=by omega
 simp [p0M,J0J,b0,lL,lS,lE,lV,h1,h1',h2,h2',h3,h3',h4,h4']
 refine b0D (fun n ρ G=>ρ 1=.pointer (some ⟨H.size,0,none⟩)∧ρ 3=.int .i64 (n:Int)∧Ext H G∧a0c.blk G H.size=.row false b0f [sL,sS,sE,sV]∧∀ x ∈ l.E.take n,j0Q x.e) l.E.length (by decide) ?_ ?_
 ·exact ⟨by simp,by simp,hx,b0,fun x hx=>by simp at hx⟩
 clear h0 ρ hx b0 G
 rintro n ρ G hn ⟨g1,g3,hx,b0,hq⟩
 have k:=hE.mono i0L hx
 simp [J0K,g1,g3,b0,lE]
 refine c0i.mk (by simp) (fun hlt=>?_) (fun heq=>?_)
 ·obtain ⟨b,o,cs,ha,hcl,⟨sG,sT,sP,rfl,kG,kS,_⟩,hat⟩:=k.atX hlt (by decide)
  have c3:=(hat _ (Ext.refl _)).2 3 (by decide)
  have c4:=(hat _ (Ext.refl _)).2 4 (by decide)
  simp at c3 c4
  have lG:=kG.slen
  have lT:=kS.slen
  by_cases q1:100 < l.E[n].e.guards.length
  ·have q1':(100:Int) < (l.E[n].e.guards.length:Int):=by omega
   simp [w0W,g1,g3,b0,k.ia hlt,ha,c3,lG,q1,q1',u0V]
  have q1':¬ (100:Int) < (l.E[n].e.guards.length:Int):=by omega
  by_cases q2:20 < l.E[n].e.set.length
  ·have q2':(20:Int) < (l.E[n].e.set.length:Int):=by omega
   simp [w0W,g1,g3,b0,k.ia hlt,ha,c3,c4,lG,lT,q1,q1',q2,q2',u0V]
  have q2':¬ (20:Int) < (l.E[n].e.set.length:Int):=by omega
  simp [w0W,g1,g3,b0,k.ia hlt,ha,c3,c4,lG,lT,q1,q1',q2,q2']
  refine (i0w kG hx.1 (by omega)).mono ?_
  rintro _ G2 ⟨⟨c1,rfl,hc1⟩,hx2⟩
  cases c1
  case true=>simp [u0V]
  have d4:=(hat _ hx2).2 4 (by decide)
  simp at d4
  simp [g1,g3,hx2.blk b0,k.ia hlt,ha,d4]
  refine (i0w (kS.mono a0X hx2) (by have:=hx.1;have:=hx2.1;omega) (by omega)).mono ?_
  rintro _ G3 ⟨⟨c1,rfl,hc2⟩,hx3⟩
  replace hx2:=hx2.trans hx3
  cases c1
  case true=>simp [u0V]
  simp
  unfold d0l
  simp [J0L,g3,a0D (show n < 4611686018427387904 by omega)]
  refine b0u.mk ⟨by simp [g1],by simp,hx.trans hx2,hx2.blk b0,fun x hx=>?_⟩
  rw [R0l hlt] at hx
  rcases R0v.1 hx with hx | hx
  ·exact hq x hx
  ·rw [R0U.1 hx];exact ⟨hc2 rfl,hc1 rfl,by omega,by omega⟩
 ·subst heq
  rw [Q0Z] at hq
  simp [J0M]
  refine b0D (fun n ρ G=>ρ 1=.pointer (some ⟨H.size,0,none⟩)∧ρ 4=.int .i64 (n:Int)∧Ext H G∧a0c.blk G H.size=.row false b0f [sL,sS,sE,sV]∧∀ x ∈ l.V.take n,x.g.length≤100∧∀ a ∈ x.g,l0L a) l.V.length (by decide) ?_ ?_
  ·exact ⟨by simp [g1],by simp,hx,b0,fun x hx=>by simp at hx⟩
  clear k g1 g3 hx b0 ρ G
  rintro n ρ G hn ⟨g1,g4,hx,b0,hr⟩
  have k:=hV.mono i0M hx
  simp [J0N,g1,g4,b0,lV]
  refine c0i.mk (by simp) (fun hlt=>?_) (fun heq=>?_)
  ·obtain ⟨b,o,cs,ha,hcl,⟨s,sG,rfl,kG⟩,hat⟩:=k.atX hlt (by decide)
   have c3:=(hat _ (Ext.refl _)).2 3 (by decide)
   simp at c3
   have lG:=kG.slen
   by_cases q1:100 < l.V[n].g.length
   ·have q1':(100:Int) < (l.V[n].g.length:Int):=by omega
    simp [u0S,g1,g4,b0,k.ia hlt,ha,c3,lG,q1,q1',u0T]
   have q1':¬ (100:Int) < (l.V[n].g.length:Int):=by omega
   simp [u0S,g1,g4,b0,k.ia hlt,ha,c3,lG,q1,q1']
   refine (i0w kG hx.1 (by omega)).mono ?_
   rintro _ G2 ⟨⟨c1,rfl,hc1⟩,hx2⟩
   cases c1
   case true=>simp [u0T]
   simp
   unfold d0l
   simp [B0C,g4,a0D (show n < 4611686018427387904 by omega)]
   refine b0u.mk ⟨by simp [g1],by simp,hx.trans hx2,hx2.blk b0,fun x hx=>?_⟩
   rw [R0l hlt] at hx
   rcases R0v.1 hx with hx | hx
   ·exact hr x hx
   ·rw [R0U.1 hx];exact ⟨by omega,hc1 rfl⟩
  ·subst heq
   rw [Q0Z] at hr
   simp [B0D]
   exact fun _=>⟨by omega,by omega,by omega,by omega,hq,hr⟩
theorem j0Q.okG {e:p0j} (h:j0Q e):∀ a ∈ e.guards,okA a:=fun a ha=>(h.2.1 a ha).ok
theorem j0Q.okS {e:p0j} (h:j0Q e):∀ a ∈ e.set,okA a:=fun a ha=>(h.1 a ha).ok
theorem noE {l:l0r} {n:Nat} (hn:n < l.E.length) (h:i0z l.nl l.ns l.E[n]=false):c0c l=false:=by
 unfold c0c;rw [d0m hn h];simp
theorem noV {l:l0r} {n:Nat} (hn:n < l.V.length) (h:m0s l.nl l.ns l.V[n]=false):c0c l=false:=by
 unfold c0c;rw [d0m hn h];simp
theorem j0D {l:l0r} (h:m0w H v l) (hg:i0F l) (hf:fl≤H.size):a0N env fl I0b [v] H (fun r H'=>r=.bool (c0c l)∧Ext H H') R:=by
 obtain ⟨cs,rfl,sL,sS,sE,sV,rfl,hL,hS,hE,hV⟩:=h
 obtain ⟨_,_,_,_,hgE,hgV⟩:=hg
 refine a0d P0t hf (h:=?_)
 intro ρ h0
 simp [L0V,z0E,h0,hL.2.1,hS.2.1,hE.cells,hV.cells]
 generalize hGG:Array.push H _=G
 obtain ⟨hx,b0⟩:=e0L hGG
 clear hGG
 have lL:=hL.1
 have lS:=hS.1
 have lE:=hE.slen
 have lV:=hV.slen
 simp [z0F,b0,lS]
 have no:l0u l=false→c0c l=false:=fun h=>by unfold c0c;rw [h];rfl
 by_cases h1:l.nl < 1
 ·have h1':(l.nl:Int) < 1:=by omega
  simp [j0f,k0a,b0,lL,h1,h1']
  intros;exact no (by unfold l0u;rw [decide_eq_false (by omega:¬ 1≤l.nl)];simp)
 have h1':¬ (l.nl:Int) < 1:=by omega
 by_cases h2:40 < l.nl
 ·have h2':(40:Int) < (l.nl:Int):=by omega
  simp [j0f,k0a,b0,lL,h1,h1',h2,h2']
  intros;exact no (by unfold l0u;rw [decide_eq_false (by omega:¬ l.nl≤40)];simp)
 have h2':¬ (40:Int) < (l.nl:Int):=by omega
 by_cases h3:6 < l.ns
 ·have h3':(6:Int) < (l.ns:Int):=by omega
  simp [j0f,k0a,b0,lL,h1,h1',h2,h2',h3,h3']
  intros;exact no (by unfold l0u;rw [decide_eq_false (by omega:¬ l.ns≤6)];simp)
 have h3':¬ (6:Int) < (l.ns:Int):=by omega
 by_cases h4:200 < l.E.length
 ·have h4':(200:Int) < (l.E.length:Int):=by omega
  simp [j0f,k0a,b0,lL,lE,h1,h1',h2,h2',h3,h3',h4,h4']
  intros;exact no (by unfold l0u;rw [decide_eq_false (by omega:¬ l.E.length≤200)];simp)
 have h4':¬ (200:Int) < (l.E.length:Int):=by omega
 by_cases h5:200 < l.V.length
 ·have h5':(200:Int) < (l.V.length:Int):=by omega
  simp [j0f,k0a,b0,lL,lE,lV,h1,h1',h2,h2',h3,h3',h4,h4',h5,h5']
  intros;exact no (by unfold l0u;rw [decide_eq_false (by omega:¬ l.V.length≤200)];simp)
 have h5':¬ (200:Int) < (l.V.length:Int):=by omega
 have hlow:l0u l=true:=by
  unfold l0u
  simp only [R0f,R0E]
  exact ⟨⟨⟨⟨by omega,by omega⟩,by omega⟩,by omega⟩,by omega⟩
 simp [j0f,z0G,b0,lL,lE,lV,h1,h1',h2,h2',h3,h3',h4,h4',h5,h5']
 refine b0D (fun n ρ G=>ρ 1=.pointer (some ⟨H.size,0,none⟩)∧ρ 3=.int .i64 (l.ns:Int)∧ρ 4=.int .i64 (n:Int)∧Ext H G∧a0c.blk G H.size=.row false b0f [sL,sS,sE,sV]∧d0K (i0z l.nl l.ns) (l.E.take n)=true) l.E.length (by decide) ?_ ?_
 ·exact ⟨by simp,by simp,by simp,hx,b0,c0m⟩
 clear h0 ρ hx b0 G
 rintro n ρ G hn ⟨g1,g3,g4,hx,b0,hq⟩
 have k:=hE.mono i0L hx
 simp [z0H,g1,g4,b0,lE]
 refine c0i.mk (by simp) (fun hlt=>?_) (fun heq=>?_)
 ·obtain ⟨cs,hw,hcl,sG,sT,sP,rfl,kG,kS,hPc,hPp⟩:=k.load hlt (by decide)
  have hge:=hgE _ (R0g hlt)
  obtain ⟨e,he⟩:∃ e,e=l.E[n]:=⟨_,rfl⟩
  have no:i0z l.nl l.ns e=false→c0c l=false:=fun h=>noE hlt (by rw [← he];exact h)
  simp only [← he] at hw kG kS hge
  have hsz:=hx.1
  simp [z0I,g1,g4,b0,k.ia hlt,hw,kG.cells,kS.cells,kG.plain,kS.plain,hPc,hPp,hsz]
  generalize hGG:Array.setIfInBounds (Array.push G _) _ _=G1
  obtain ⟨hx1,b1⟩:=new1 hGG
  clear hGG
  replace kG:=kG.mono a0X hx1
  replace kS:=kS.mono a0X hx1
  have c0:=hx1.blk b0
  have lT:=kS.slen
  by_cases q1:e.f < 0
  ·simp [g0Q,f0V,b1,q1]
   intros;exact no (by unfold i0z inB;rw [decide_eq_false (by omega:¬ 0≤e.f)];simp)
  by_cases q2:(l.nl:Int)≤e.f
  ·simp [g0Q,f0V,b1,c0,g1,lL,q1,q2]
   intros;exact no (by unfold i0z inB;rw [decide_eq_false (by omega:¬ e.f < (l.nl:Int))];simp)
  by_cases q3:e.t < 0
  ·simp [g0Q,f0V,b1,c0,g1,lL,q1,q2,q3]
   intros;exact no (by unfold i0z inB;rw [decide_eq_false (by omega:¬ 0≤e.t)];simp)
  by_cases q4:(l.nl:Int)≤e.t
  ·simp [g0Q,f0V,b1,c0,g1,lL,q1,q2,q3,q4]
   intros;exact no (by unfold i0z inB;rw [decide_eq_false (by omega:¬ e.t < (l.nl:Int))];simp)
  by_cases q5:e.e.m < 0
  ·simp [g0Q,f0V,b1,c0,g1,lL,q1,q2,q3,q4,q5]
   intros;exact no (by unfold i0z i0d;rw [decide_eq_false (by omega:¬ 0≤e.e.m)];simp)
  by_cases q6:40 < e.e.m
  ·simp [g0Q,f0V,b1,c0,g1,lL,q1,q2,q3,q4,q5,q6]
   intros;exact no (by unfold i0z i0d;rw [decide_eq_false (by omega:¬ e.e.m≤40)];simp)
  by_cases q7:e.e.set.length=l.ns
  case neg =>
   have q7':¬ (e.e.set.length:Int)=(l.ns:Int):=by omega
   simp [g0Q,f0V,b1,c0,g1,g3,lL,lT,q1,q2,q3,q4,q5,q6,q7,q7']
   intros;exact no (by unfold i0z;rw [decide_eq_false q7];simp)
  have q7':(e.e.set.length:Int)=(l.ns:Int):=by omega
  simp [g0Q,b1,c0,g1,g3,lL,lT,q1,q2,q3,q4,q5,q6,q7,q7']
  refine (e0w kG (by have:=hx1.1;omega) hge.okG (by have:=hge.2.2.1;omega)).mono ?_
  rintro _ G2 ⟨rfl,hx2⟩
  cases hp:d0v e.e.guards l.ns e.e.m
  case false =>
   simp [f0V]
   intros;exact no (by unfold i0z;rw [hp];simp)
  simp [hx2.blk b1,g3]
  refine (e0w (kS.mono a0X hx2) (by have:=hx1.1;have:=hx2.1;omega) hge.okS (by have:=hge.2.2.2;omega)).mono ?_
  rintro _ G3 ⟨rfl,hx3⟩
  replace hx2:=hx2.trans hx3
  cases hp2:d0v e.e.set l.ns e.e.m
  case false =>
   simp [f0V]
   intros;exact no (by unfold i0z;rw [hp2];simp)
  simp
  unfold d0l
  simp [z0J,g4,a0D (show n < 4611686018427387904 by omega)]
  refine b0u.mk ⟨by simp [g1],by simp [g3],by simp,hx.trans (hx1.trans hx2),hx2.blk c0,?_⟩
  rw [b0R hlt,hq,← he]
  unfold i0z inB i0d
  simp only [Bool.true_and,R0f,R0E]
  exact ⟨⟨⟨⟨⟨⟨by omega,by omega⟩,by omega,by omega⟩,by omega,by omega⟩,q7⟩,hp⟩,hp2⟩
 ·subst heq
  rw [Q0Z] at hq
  simp [u0x]
  refine b0D (fun n ρ G=>ρ 1=.pointer (some ⟨H.size,0,none⟩)∧ρ 3=.int .i64 (l.ns:Int)∧ρ 6=.int .i64 (n:Int)∧Ext H G∧a0c.blk G H.size=.row false b0f [sL,sS,sE,sV]∧d0K (m0s l.nl l.ns) (l.V.take n)=true) l.V.length (by decide) ?_ ?_
  ·exact ⟨by simp [g1],by simp [g3],by simp,hx,b0,c0m⟩
  clear k g1 g3 g4 hx b0 ρ G
  rintro n ρ G hn ⟨g1,g3,g6,hx,b0,hr⟩
  have k:=hV.mono i0M hx
  simp [u0y,g1,g6,b0,lV]
  refine c0i.mk (by simp) (fun hlt=>?_) (fun heq=>?_)
  ·obtain ⟨cs,hw,hcl,s,sG,rfl,kG⟩:=k.load hlt (by decide)
   obtain ⟨hge1,hge2⟩:=hgV _ (R0g hlt)
   obtain ⟨e,he⟩:∃ e,e=l.V[n]:=⟨_,rfl⟩
   have no:m0s l.nl l.ns e=false→c0c l=false:=fun h=>noV hlt (by rw [← he];exact h)
   simp only [← he] at hw kG hge1 hge2
   have hsz:=hx.1
   simp [u0z,g1,g6,b0,k.ia hlt,hw,kG.cells,kG.plain,hsz]
   generalize hGG:Array.setIfInBounds (Array.push G _) _ _=G1
   obtain ⟨hx1,b1⟩:=new1 hGG
   clear hGG
   replace kG:=kG.mono a0X hx1
   have c0:=hx1.blk b0
   by_cases q1:e.l < 0
   ·simp [h0p,h0q,b1,q1]
    intros;exact no (by unfold m0s inB;rw [decide_eq_false (by omega:¬ 0≤e.l)];simp)
   by_cases q2:(l.nl:Int)≤e.l
   ·simp [h0p,h0q,b1,c0,g1,lL,q1,q2]
    intros;exact no (by unfold m0s inB;rw [decide_eq_false (by omega:¬ e.l < (l.nl:Int))];simp)
   by_cases q5:e.m < 0
   ·simp [h0p,h0q,b1,c0,g1,lL,q1,q2,q5]
    intros;exact no (by unfold m0s i0d;rw [decide_eq_false (by omega:¬ 0≤e.m)];simp)
   by_cases q6:40 < e.m
   ·simp [h0p,h0q,b1,c0,g1,lL,q1,q2,q5,q6]
    intros;exact no (by unfold m0s i0d;rw [decide_eq_false (by omega:¬ e.m≤40)];simp)
   simp [h0p,b1,c0,g1,g3,lL,q1,q2,q5,q6]
   refine (e0w kG (by have:=hx1.1;omega) (fun a ha=>(hge2 a ha).ok) (by omega)).mono ?_
   rintro _ G2 ⟨rfl,hx2⟩
   cases hp:d0v e.g l.ns e.m
   case false =>
    simp [h0q]
    intros;exact no (by unfold m0s;rw [hp];simp)
   simp
   unfold d0l
   simp [u0A,g6,a0D (show n < 4611686018427387904 by omega)]
   refine b0u.mk ⟨by simp [g1],by simp [g3],by simp,hx.trans (hx1.trans hx2),hx2.blk c0,?_⟩
   rw [b0R hlt,hr,← he]
   unfold m0s inB i0d
   simp only [Bool.true_and,R0f,R0E]
   exact ⟨⟨⟨by omega,by omega⟩,by omega,by omega⟩,hp⟩
  ·subst heq
   rw [Q0Z] at hr
   simp [u0B]
   intros
   unfold c0c
   rw [hlow,hq,hr];rfl
theorem p0L {z1 z2:Blk} (hG:Array.push (Array.push H z1) z2=G):Ext H G∧a0c.blk G H.size=z1∧a0c.blk G (H.size + 1)=z2∧G.size=H.size + 2:=by
 rw [← hG];exact ⟨(Ext.refl H).push.push,by simp,by simp,by simp⟩
theorem g0f {x:Bool × List Nat} (h:b0j H v x) (hf:fl≤H.size) (hl:x.2.length < 4611686018427387904):a0N env fl I0x [v] H (fun r H'=>r=.bool (!c0V x)∧Ext H H') R:=by
 have k0:=h
 obtain ⟨s,rfl,hs⟩:=h
 refine a0d Q0f hf (h:=?_)
 intro ρ h0
 simp [M0E,C0A,h0,hs.cells]
 generalize hG:Array.push H _=G
 obtain ⟨hx,b0⟩:=e0L hG
 simp [C0B,b0]
 refine (c0v (k0.mono hx) hx.1 hl).mono ?_
 rintro _ G2 ⟨rfl,hx2⟩
 simp
theorem F0n {l:List (Bool × List Nat)}:(!c0L (fun x=>!c0V x) l)=d0K c0V l:=by
 unfold c0L d0K
 induction l with
 | nil=>rfl
 | cons x l ih=>simp only [List.any_cons,R0D,Bool.not_or,Bool.not_not,ih]
theorem d0O {l:List (Bool × List Nat)} {n:Int} (h:e0a H v l) (hf:fl≤H.size) (hl:L0j l) (hal:l.length < 1073741824) :
  a0N env fl v0X [v,.int .i64 n] H (fun r H'=>r=.bool (decide ((l.length:Int)=n) && d0K c0V l)∧Ext H H') R:=by
 refine a0d Q0d hf (h:=?_)
 intro ρ h0
 by_cases h1:(l.length:Int)=n
 ·simp [K0V,v0p,v0q,h0,h.slen,h1]
  refine (g0o (p:=fun x=>!c0V x) (fun _=>True) (fun _ _ _ h=>h) trivial h (Q0W _) hal (fun fl G v e he _ hf hv=>g0f hv hf (hl e he))).mono ?_
  rintro _ G2 ⟨rfl,hx2⟩
  simp
  exact fun _=>by rw [← F0n,Bool.not_not]
 ·simp [K0V,v0p,v0q,h0,h.slen,h1]
theorem h0h {a:h0P} {n m:Int} {p q r:Nat} (h:v0T H v a) (ho:okA a) (hp:H.blk p=.row false b0s [.func (.func v0X) #[] #[]]) (hq:H.blk q=.row false h0b [.int .i64 n]) (hr:H.blk r=.row false h0b [.int .i64 m]) (hf:fl≤H.size) :
  a0N env fl I0z [v,.pointer (some ⟨p,0,none⟩),.pointer (some ⟨q,0,none⟩),.pointer (some ⟨r,0,none⟩)] H (fun r H'=>r=.bool (!g0t n m a)∧Ext H H') R:=by
 obtain ⟨sX,sW,s,rfl,kX,kW,kK⟩:=h
 obtain ⟨oX,oW,oK,lX,lW⟩:=ho
 refine a0d Q0i hf (h:=?_)
 intro ρ h0
 simp [M0H,C0I,h0,kX.cells,kW.cells,kK.cells]
 generalize hG:Array.push H _=G
 obtain ⟨hx,b0⟩:=e0L hG
 clear hG
 simp [C0J,h0,b0,hx.blk hp,hx.blk hq]
 refine (d0O (n:=n) (kX.mono d0b hx) hx.1 oX lX).mono ?_
 rintro _ G2 ⟨rfl,hx2⟩
 replace b0:=hx2.blk b0
 replace hx:=hx.trans hx2
 unfold g0t
 by_cases h1:(a.X.length:Int)=n
 case neg=>simp [h1]
 cases h2:d0K c0V a.X
 case false=>simp [h1]
 simp [h0,b0,h1,hx.blk hp,hx.blk hr]
 refine (d0O (n:=m) (kW.mono d0b hx) hx.1 oW lW).mono ?_
 rintro _ G3 ⟨rfl,hx2⟩
 replace b0:=hx2.blk b0
 replace hx:=hx.trans hx2
 by_cases h3:(a.W.length:Int)=m
 case neg=>simp [h3]
 cases h4:d0K c0V a.W
 case false=>simp [h3]
 simp [b0,h3]
 refine (c0v ⟨s,rfl,kK.mono hx⟩ hx.1 oK).mono ?_
 rintro _ G4 ⟨rfl,hx2⟩
 simp
theorem m0z {l:List h0P} {n m:Int}:(!c0L (fun a=>!g0t n m a) l)=d0v l n m:=by
 unfold c0L d0v d0K
 induction l with
 | nil=>rfl
 | cons x l ih=>simp only [List.any_cons,R0D,Bool.not_or,Bool.not_not,ih]
theorem d0p {l:List h0P} {n m:Int} (h:f0W H v l) (hf:fl≤H.size) (hl:∀ a ∈ l,okA a) (hal:l.length < 1073741824) :
  a0N env fl F0C [v,.int .i64 n,.int .i64 m] H (fun r H'=>r=.bool (d0v l n m)∧Ext H H') R:=by
 refine a0d P0L hf (h:=?_)
 intro ρ h0
 simp [M0l,B0a,h0]
 generalize hG:Array.push (Array.push H _) _=G
 obtain ⟨hx,b1,b2,hs2⟩:=p0L hG
 clear hG
 have hsz:=hx.1
 have cF:a0M (.func (.func v0X) #[] #[])=[.func (.func v0X) #[] #[]]:=rfl
 have pF:a0B (.func (.func v0X) #[] #[])=true:=rfl
 simp [B0b,hsz,cF,pF]
 generalize hG:Array.setIfInBounds (Array.push G _) _ _=G1
 obtain ⟨hx1,b3⟩:=new1 hG
 clear hG
 replace b1:=hx1.blk b1
 replace b2:=hx1.blk b2
 replace hx:=hx.trans hx1
 simp [B0c,h0]
 refine (f0X (p:=fun a=>!g0t n m a) (fun K=>K.blk G.size=.row false b0s [.func (.func v0X) #[] #[]]∧K.blk H.size=.row false h0b [.int .i64 n]∧K.blk (H.size + 1)=.row false h0b [.int .i64 m]) (fun G G' hx h=>⟨hx.blk h.1,hx.blk h.2.1,hx.blk h.2.2⟩) ⟨b3,b1,b2⟩ (h.mono a0X hx) hx.1 hal (fun fl G v e he hI hf hv=>h0h hv (hl e he) hI.1 hI.2.1 hI.2.2 hf)).mono ?_
 rintro _ G2 ⟨rfl,hx2⟩
 simp
 exact fun _=>by rw [← m0z,Bool.not_not]
theorem c0y {i:Int} {n p:Nat} (hb:H.blk p=.row false h0b [.int .i64 (n:Int)]) (hf:fl≤H.size):a0N env fl F0A [.int .i64 i,.pointer (some ⟨p,0,none⟩)] H (fun r H'=>r=.bool (inB n i)∧Ext H H') R:=by
 refine a0d P0J hf (h:=?_)
 intro ρ h0
 unfold inB
 by_cases h1:0≤i
 ·simp [K0T,u0M,u0N,h0,hb,h1]
 ·simp [K0T,u0M,u0N,h0,hb,h1]
theorem d0z {i:Int} (hf:fl≤H.size):a0N env fl F0B [.int .i64 i] H (fun r H'=>r=.bool (i0d i)∧Ext H H') R:=by
 refine a0d P0K hf (h:=?_)
 intro ρ h0
 unfold i0d
 by_cases h1:0≤i
 ·simp [K0U,u0O,u0P,h0,h1]
 ·simp [K0U,u0O,u0P,h0,h1]
theorem h0Y {l:l0r} (h:m0w H v l) (hg:i0F l) (hf:fl≤H.size):a0N env fl H0X [v] H (fun r H'=>r=.bool (c0c l)∧Ext H H') R:=by
 obtain ⟨cs,rfl,sL,sS,sE,sV,rfl,hL,hS,hE,hV⟩:=h
 obtain ⟨_,_,_,_,hgE,hgV⟩:=hg
 refine a0d P0o hf (h:=?_)
 intro ρ h0
 simp [L0Q,z0n,h0,hL.2.1,hS.2.1,hE.cells,hV.cells]
 generalize hGG:Array.push H _=G
 obtain ⟨hx,b0⟩:=e0L hGG
 clear hGG
 have lL:=hL.1
 have lS:=hS.1
 have lE:=hE.slen
 have lV:=hV.slen
 have hsz:=hx.1
 have hbl:=a0k b0
 refine q0n ?_
 simp [z0o,b0,lL,lS,hsz]
 refine ⟨by omega,?_⟩
 generalize hGG:Array.setIfInBounds (Array.push G _) _ _=G1
 obtain ⟨hx1,b1⟩:=new1 hGG
 clear hGG
 replace b0:=hx1.blk b0
 replace hx:=hx.trans hx1
 obtain ⟨P,hP⟩:∃ P,P=G.size:=⟨_,rfl⟩
 rw [← hP] at b1 ⊢
 clear hx1 hP hsz hbl
 have no:l0u l=false→c0c l=false:=fun h=>by unfold c0c;rw [h];rfl
 by_cases h1:l.nl < 1
 ·have h1':(l.nl:Int) < 1:=by omega
  simp [j0e,j0Z,b0,b1,lL,h1,h1']
  intros;exact no (by unfold l0u;rw [decide_eq_false (by omega:¬ 1≤l.nl)];simp)
 have h1':¬ (l.nl:Int) < 1:=by omega
 by_cases h2:40 < l.nl
 ·have h2':(40:Int) < (l.nl:Int):=by omega
  simp [j0e,j0Z,b0,b1,lL,h1,h1',h2,h2']
  intros;exact no (by unfold l0u;rw [decide_eq_false (by omega:¬ l.nl≤40)];simp)
 have h2':¬ (40:Int) < (l.nl:Int):=by omega
 by_cases h3:6 < l.ns
 ·have h3':(6:Int) < (l.ns:Int):=by omega
  simp [j0e,j0Z,b0,b1,lL,h1,h1',h2,h2',h3,h3']
  intros;exact no (by unfold l0u;rw [decide_eq_false (by omega:¬ l.ns≤6)];simp)
 have h3':¬ (6:Int) < (l.ns:Int):=by omega
 by_cases h4:200 < l.E.length
 ·have h4':(200:Int) < (l.E.length:Int):=by omega
  simp [j0e,j0Z,b0,b1,lL,lE,h1,h1',h2,h2',h3,h3',h4,h4']
  intros;exact no (by unfold l0u;rw [decide_eq_false (by omega:¬ l.E.length≤200)];simp)
 have h4':¬ (200:Int) < (l.E.length:Int):=by omega
 by_cases h5:200 < l.V.length
 ·have h5':(200:Int) < (l.V.length:Int):=by omega
  simp [j0e,j0Z,b0,b1,lL,lE,lV,h1,h1',h2,h2',h3,h3',h4,h4',h5,h5']
  intros;exact no (by unfold l0u;rw [decide_eq_false (by omega:¬ l.V.length≤200)];simp)
 have h5':¬ (200:Int) < (l.V.length:Int):=by omega
 have hlow:l0u l=true:=by
  unfold l0u
  simp only [R0f,R0E]
  exact ⟨⟨⟨⟨by omega,by omega⟩,by omega⟩,by omega⟩,by omega⟩
 simp [j0e,b0,b1,lL,lE,lV,h1,h1',h2,h2',h3,h3',h4,h4',h5,h5']
 simp [z0p,z0q,z0r,b0,lE]
 refine g0s (n:=l.E.length) (fun n ρ G=>ρ 1=.pointer (some ⟨H.size,0,none⟩)∧ρ 4=.int .i64 (l.ns:Int)∧ρ 5=.func (.func F0A) #[] #[.pointer (some ⟨P,0,none⟩)]∧ρ 6=.func (.func F0B) #[] #[]∧ρ 41=sE∧Ext H G∧a0c.blk G H.size=.row false b0f [sL,sS,sE,sV]∧a0c.blk G P=.row false h0b [.int .i64 (l.nl:Int)]∧d0K (i0z l.nl l.ns) (l.E.take n)=true) rfl rfl (by decide) (by omega) (by simp) (by simp) ?_ ?_ ?_ ?_
 ·exact ⟨by simp,by simp,by simp,by simp,by simp,hx,b0,b1,c0m⟩
 ·intro i ρ ρ' G h hI;simpa [h] using hI
 ·clear h0 ρ hx b0 b1 G G1
  rintro n ρ G hlt gi gn ⟨g1,g4,g5,g6,g41,hx,b0,b1,hq⟩
  have k:=hE.mono i0L hx
  obtain ⟨cs,hw,hcl,sG,sT,sP,rfl,kG,kS,hPc,hPp⟩:=k.load hlt (by decide)
  have hge:=hgE _ (R0g hlt)
  obtain ⟨e,he⟩:∃ e,e=l.E[n]:=⟨_,rfl⟩
  have no:i0z l.nl l.ns e=false→c0c l=false:=fun h=>noE hlt (by rw [← he];exact h)
  simp only [← he] at hw kG kS hge
  have hsz:=hx.1
  simp [z0s,g41,gi,b0,k.ia hlt,hw,kG.cells,kS.cells,kG.plain,kS.plain,hPc,hPp,hsz]
  generalize hGG:Array.setIfInBounds (Array.push G _) _ _=G1
  obtain ⟨hx1,b2⟩:=new1 hGG
  clear hGG
  replace kG:=kG.mono a0X hx1
  replace kS:=kS.mono a0X hx1
  replace b0:=hx1.blk b0
  replace b1:=hx1.blk b1
  replace hx:=hx.trans hx1
  have lT:=kS.slen
  clear k hx1 hw
  obtain ⟨Q,hQ⟩:∃ Q,Q=G.size:=⟨_,rfl⟩
  rw [← hQ] at b2 ⊢
  clear hQ hsz
  simp [z0t,b2,g5]
  refine (c0y (i:=e.f) b1 hx.1).mono ?_
  rintro _ G2 ⟨rfl,hx1⟩
  replace kG:=kG.mono a0X hx1
  replace kS:=kS.mono a0X hx1
  replace b0:=hx1.blk b0
  replace b1:=hx1.blk b1
  replace b2:=hx1.blk b2
  replace hx:=hx.trans hx1
  clear hx1
  cases q1:inB l.nl e.f
  case false =>
   simp [g0j]
   intros;exact no (by unfold i0z;rw [q1];simp)
  simp [b2,g5]
  refine (c0y (i:=e.t) b1 hx.1).mono ?_
  rintro _ G2 ⟨rfl,hx1⟩
  replace kG:=kG.mono a0X hx1
  replace kS:=kS.mono a0X hx1
  replace b0:=hx1.blk b0
  replace b1:=hx1.blk b1
  replace b2:=hx1.blk b2
  replace hx:=hx.trans hx1
  clear hx1
  cases q2:inB l.nl e.t
  case false =>
   simp [g0j]
   intros;exact no (by unfold i0z;rw [q2];simp)
  simp [b2,g6]
  refine (d0z (i:=e.e.m) hx.1).mono ?_
  rintro _ G2 ⟨rfl,hx1⟩
  replace kG:=kG.mono a0X hx1
  replace kS:=kS.mono a0X hx1
  replace b0:=hx1.blk b0
  replace b1:=hx1.blk b1
  replace b2:=hx1.blk b2
  replace hx:=hx.trans hx1
  clear hx1
  cases q3:i0d e.e.m
  case false =>
   simp [g0j]
   intros;exact no (by unfold i0z;rw [q3];simp)
  by_cases q7:e.e.set.length=l.ns
  case neg =>
   have q7':¬ (e.e.set.length:Int)=(l.ns:Int):=by omega
   simp [g0j,b2,g4,lT,q7,q7']
   intros;exact no (by unfold i0z;rw [decide_eq_false q7];simp)
  have q7':(e.e.set.length:Int)=(l.ns:Int):=by omega
  simp [b2,g4,lT,q7,q7']
  refine (d0p kS hx.1 hge.okS (by have:=hge.2.2.2;omega)).mono ?_
  rintro _ G2 ⟨rfl,hx1⟩
  replace kG:=kG.mono a0X hx1
  replace kS:=kS.mono a0X hx1
  replace b0:=hx1.blk b0
  replace b1:=hx1.blk b1
  replace b2:=hx1.blk b2
  replace hx:=hx.trans hx1
  clear hx1
  cases hp2:d0v e.e.set l.ns e.e.m
  case false =>
   simp [g0j]
   intros;exact no (by unfold i0z;rw [hp2];simp)
  simp [b2,g4]
  refine (d0p kG hx.1 hge.okG (by have:=hge.2.2.1;omega)).mono ?_
  rintro _ G2 ⟨rfl,hx1⟩
  replace kG:=kG.mono a0X hx1
  replace kS:=kS.mono a0X hx1
  replace b0:=hx1.blk b0
  replace b1:=hx1.blk b1
  replace b2:=hx1.blk b2
  replace hx:=hx.trans hx1
  clear hx1
  cases hp:d0v e.e.guards l.ns e.e.m
  case false =>
   simp [g0j]
   intros;exact no (by unfold i0z;rw [hp];simp)
  simp
  refine Rnd.mk (by simp [gi]) (by simp [gn]) ⟨by simp [g1],by simp [g4],by simp [g5],by simp [g6],by simp [g41],hx,b0,b1,?_⟩
  rw [b0R hlt,hq,← he]
  unfold i0z
  rw [q1,q2,q3,decide_eq_true q7,hp,hp2];rfl
 ·clear h0 ρ hx b0 b1 G G1
  rintro ρ G gi gn ⟨g1,g4,g5,g6,g41,hx,b0,b1,hq⟩
  rw [Q0Z] at hq
  simp [u0n,g1,b0,lV]
  clear gi gn g41
  refine g0s (n:=l.V.length) (fun n ρ G=>ρ 1=.pointer (some ⟨H.size,0,none⟩)∧ρ 4=.int .i64 (l.ns:Int)∧ρ 5=.func (.func F0A) #[] #[.pointer (some ⟨P,0,none⟩)]∧ρ 6=.func (.func F0B) #[] #[]∧ρ 93=sV∧Ext H G∧a0c.blk G H.size=.row false b0f [sL,sS,sE,sV]∧a0c.blk G P=.row false h0b [.int .i64 (l.nl:Int)]∧d0K (m0s l.nl l.ns) (l.V.take n)=true) rfl rfl (by decide) (by omega) (by simp) (by simp) ?_ ?_ ?_ ?_
  ·exact ⟨by simp [g1],by simp [g4],by simp [g5],by simp [g6],by simp,hx,b0,b1,c0m⟩
  ·intro i ρ ρ' G h hI;simpa [h] using hI
  ·clear g1 g4 g5 g6 hx b0 b1 ρ G
   rintro n ρ G hlt gi gn ⟨g1,g4,g5,g6,g93,hx,b0,b1,hr⟩
   have k:=hV.mono i0M hx
   obtain ⟨cs,hw,hcl,s,sG,rfl,kG⟩:=k.load hlt (by decide)
   obtain ⟨hge1,hge2⟩:=hgV _ (R0g hlt)
   obtain ⟨e,he⟩:∃ e,e=l.V[n]:=⟨_,rfl⟩
   have no:m0s l.nl l.ns e=false→c0c l=false:=fun h=>noV hlt (by rw [← he];exact h)
   simp only [← he] at hw kG hge1 hge2
   have hsz:=hx.1
   simp [u0o,g93,gi,b0,k.ia hlt,hw,kG.cells,kG.plain,hsz]
   generalize hGG:Array.setIfInBounds (Array.push G _) _ _=G1
   obtain ⟨hx1,b2⟩:=new1 hGG
   clear hGG
   replace kG:=kG.mono a0X hx1
   replace b0:=hx1.blk b0
   replace b1:=hx1.blk b1
   replace hx:=hx.trans hx1
   clear k hx1 hw
   obtain ⟨Q,hQ⟩:∃ Q,Q=G.size:=⟨_,rfl⟩
   rw [← hQ] at b2 ⊢
   clear hQ hsz
   simp [u0p,b2,g5]
   refine (c0y (i:=e.l) b1 hx.1).mono ?_
   rintro _ G2 ⟨rfl,hx1⟩
   replace kG:=kG.mono a0X hx1
   replace b0:=hx1.blk b0
   replace b1:=hx1.blk b1
   replace b2:=hx1.blk b2
   replace hx:=hx.trans hx1
   clear hx1
   cases q1:inB l.nl e.l
   case false =>
    simp [l0j]
    intros;exact no (by unfold m0s;rw [q1];simp)
   simp [b2,g6]
   refine (d0z (i:=e.m) hx.1).mono ?_
   rintro _ G2 ⟨rfl,hx1⟩
   replace kG:=kG.mono a0X hx1
   replace b0:=hx1.blk b0
   replace b1:=hx1.blk b1
   replace b2:=hx1.blk b2
   replace hx:=hx.trans hx1
   clear hx1
   cases q3:i0d e.m
   case false =>
    simp [l0j]
    intros;exact no (by unfold m0s;rw [q3];simp)
   simp [b2,g4]
   refine (d0p kG hx.1 (fun a ha=>(hge2 a ha).ok) (by omega)).mono ?_
   rintro _ G2 ⟨rfl,hx1⟩
   replace kG:=kG.mono a0X hx1
   replace b0:=hx1.blk b0
   replace b1:=hx1.blk b1
   replace b2:=hx1.blk b2
   replace hx:=hx.trans hx1
   clear hx1
   cases hp:d0v e.g l.ns e.m
   case false =>
    simp [l0j]
    intros;exact no (by unfold m0s;rw [hp];simp)
   simp
   refine Rnd.mk (by simp [gi]) (by simp [gn]) ⟨by simp [g1],by simp [g4],by simp [g5],by simp [g6],by simp [g93],hx,b0,b1,?_⟩
   rw [b0R hlt,hr,← he]
   unfold m0s
   rw [q1,q3,hp];rfl
  ·clear g1 g4 g5 g6 hx b0 b1 ρ G
   rintro ρ G gi gn ⟨g1,g4,g5,g6,g93,hx,b0,b1,hr⟩
   rw [Q0Z] at hr
   simp [u0q]
   intros
   unfold c0c
   rw [hlow,hq,hr];rfl
def g0u:d0d:=(-1,m0l)
def p0o:List Value:=[.int .i64 (-1),.bool false,.slice none 0 0,.bool false,.slice none 0 0]
def E0U:List Value:=[.int .i64 0,.bool false,.slice none 0 0,.bool false,.slice none 0 0]
theorem j0h (z:List Value):∀ n,b0Q z (n + 1)=b0Q z n ++ z
 | 0=>by simp [b0Q]
 | n + 1=>by
  have h:=j0h z n
  show z ++ b0Q z (n + 1)=z ++ b0Q z n ++ z
  rw [h,List.append_assoc]
theorem e0x (z:List Value):∀ n,(b0Q z n).length=n * z.length
 | 0=>by simp [b0Q]
 | n + 1=>by rw [j0h,R0A,e0x z n,R0o];omega
theorem G0p {z:List Value} {n k:Nat} (h:k < n):((b0Q z n).drop (k * z.length)).take z.length=z:=by
 induction n generalizing k with
 | zero=>omega
 | succ n ih =>
  show ((z ++ b0Q z n).drop (k * z.length)).take z.length=z
  cases k with
  | zero=>simp
  | succ k =>
   rw [show (k + 1) * z.length=z.length + k * z.length by rw [R0o];omega,← S0i,List.drop_left]
   exact ih (by omega)
theorem p0Z {a z:List Value} {j k:Nat} (h:a.length=z.length):a0V (b0Q a j ++ b0Q z (k + 1)) (j * a.length) a=b0Q a (j + 1) ++ b0Q z k:=by
 have hl:=e0x a j
 rw [f0j _ _ _ (by simp only [R0A,e0x,R0o];omega),← hl,List.take_left,j0h a j]
 congr 1
 show ((b0Q a j ++ (z ++ b0Q z k)).drop ((b0Q a j).length + a.length))=b0Q z k
 rw [← S0i,List.drop_left,h,List.drop_left]
theorem o0m {o:Option Nat} {q:Nat} {X:Blk} {G3:a0c} (h:d0Z o H G) (hS:Array.setIfInBounds G q X=G3) (hq:H.size≤q ∨ o=some q):d0Z o H G3:=by
 subst hS
 refine ⟨by have:=h.1;simpa using this,fun b hb hne=>?_⟩
 rw [a0L (by rcases hq with hq | hq <;> intro he <;> subst he;omega;exact hne hq)]
 exact h.2 b hb hne
def N0i (B nl m i:Nat) (G:a0c):Prop:=∃ cells:List Value,a0c.blk G B=.row false b0v cells∧cells.length=nl ∧
 ∀ k,k < i→∃ c,cells[k]? = some (.slice (some ⟨c,0,none⟩) m m)∧c ≠ B∧a0c.blk G c=.row false a0x (b0Q p0o m)
theorem w0t {c m:Nat} (h:a0c.blk G c=.row false a0x (b0Q p0o m)):c0R G (.slice (some ⟨c,0,none⟩) m m) (List.replicate m g0u):=by
 refine ⟨b0Q p0o m,?_,fun k hk=>?_⟩
 ·rw [R0J]
  exact (Own.mk (fl:=0) h (by rw [e0x];rfl) (R0H _)).sl
 rw [R0J] at hk
 have:=G0p (z:=p0o) hk
 rw [show p0o.length=5 from rfl] at this
 rw [this,S0u]
 exact ⟨_,_,rfl,Lim.nil,Lim.nil⟩
theorem N0i.exts {B nl m:Nat} (h:N0i B nl m nl G):c0b G (.slice (some ⟨B,0,none⟩) nl nl) (List.replicate nl (List.replicate m g0u)):=by
 obtain ⟨cells,h1,h2,h3⟩:=h
 refine ⟨cells,?_,fun k hk=>?_⟩
 ·rw [R0J]
  exact (Own.mk (fl:=0) h1 (by omega) (R0H _)).sl
 rw [R0J] at hk
 obtain ⟨c,g1,g2,g3⟩:=h3 k hk
 rw [S0u]
 refine ⟨_,?_,w0t g3⟩
 rw [R0O]
 apply S0G
 intro i
 rw [S0y,S0m]
 cases i with
 | zero=>simpa using g1
 | succ i=>simp
theorem d0n {l:l0r} {rows:List (List b0B)} (h:m0w H v l) (ht:c0C H w rows) (hf:fl≤H.size) (hnl:l.nl≤60) (hrl:rows.length≤200) :
  a0N env fl F0x [v,w] H (fun r H'=>c0b H' r (List.replicate l.nl (List.replicate rows.length g0u))∧Ext H H') R:=by
 obtain ⟨cs,rfl,sL,sS,sE,sV,rfl,hL,hS,hE,hV⟩:=h
 obtain ⟨s,rfl,hs⟩:=ht
 refine a0d P0h hf (h:=?_)
 intro ρ h0
 simp [L0J,y0B,h0,hL.2.1,hS.2.1,hE.cells,hV.cells,hs.cells]
 generalize hGG:Array.push (Array.push H _) _=G
 obtain ⟨hx,b0,b1,hsz⟩:=p0L hGG
 clear hGG
 have lL:=hL.1
 have ls:=hs.slen
 obtain ⟨n,hn⟩:∃ n,n=l.nl:=⟨_,rfl⟩
 obtain ⟨m,hm⟩:∃ m,m=rows.length:=⟨_,rfl⟩
 rw [← hn] at lL hnl ⊢
 rw [← hm] at ls hrl ⊢
 have hmk:∀ k:Nat,k≤200→∀ b:Nat,b≤1024→mkV b (.int .i64 (k:Int)) (.int .i64 (k:Int))=some (k,k):=fun k hk b hb=>by
  simp [mkV];omega
 simp [y0C,b0,lL,hmk n (by omega)]
 generalize hGG:Array.push G _=G1
 obtain ⟨hx1,bB⟩:=e0L hGG
 clear hGG
 replace b1:=hx1.blk b1
 replace hx:=hx.trans hx1
 obtain ⟨B,hB⟩:∃ B,B=G.size:=⟨_,rfl⟩
 rw [← hB] at bB ⊢
 have zB:d0j (.slice (some ⟨B,0,none⟩) n n)=some (.int .i64 (n:Int)):=rfl
 have iB:∀ i:Nat,i < n→iaV 1 (.slice (some ⟨B,0,none⟩) n n) (.int .i64 (i:Int))=some (.pointer (some ⟨B,i,none⟩)):=fun i hi=>by simp [iaV];omega
 simp [y0D,zB]
 refine g0s (n:=n) (fun i ρ G=>ρ 3=.pointer (some ⟨H.size + 1,0,none⟩)∧ρ 5=.slice (some ⟨B,0,none⟩) n n∧Ext H G∧a0c.blk G (H.size + 1)=.row false a0i [s]∧N0i B n m i G) rfl rfl (by decide) (by omega) (by simp) (by simp) ?_ ?_ ?_ ?_
 ·exact ⟨by simp,by simp,hx,b1,_,bB,by rw [e0x];simp,fun k hk=>by omega⟩
 ·intro i ρ ρ' G h hI;simpa [h] using hI
 ·clear h0 ρ hx b0 b1 hx1 bB G1
  rintro i ρ G0 hi gi gn ⟨g3,g5,hx,b1,cells,bB,hcl,hP⟩
  have hBl:=a0k bB
  have h1l:=a0k b1
  have hi':i + 1≤n:=hi
  have cS:∀ c:Nat,a0M (.slice (some ⟨c,0,none⟩) m m)=[.slice (some ⟨c,0,none⟩) m m]:=fun _=>rfl
  have pS:∀ c:Nat,a0B (.slice (some ⟨c,0,none⟩) m m)=true:=fun _=>rfl
  have hfB:H.size≤B:=by omega
  simp [y0E,y0F,g3,g5,gi,b1,ls,hmk m (by omega),iB i hi,cS,pS,hfB,c0q hBl,bB,hcl,hi']
  obtain ⟨p,hp⟩:∃ p,p=G0.size:=⟨_,rfl⟩
  rw [← hp]
  generalize hS:Array.setIfInBounds (Array.push G0 _) _ _=G2
  have hpB:B ≠ p:=by omega
  have e1:d0Z (some B) G0 G2:=o0m ((Ext.refl G0).push.extB) hS (.inr rfl)
  have b2:a0c.blk G2 B=.row false b0v (cells.set i (.slice (some ⟨p,0,none⟩) m m)):=a0K hS (by rw [c0q hBl];exact bB)
  have c2:a0c.blk G2 p=.row false a0x (b0Q E0U m):=a0q hS (by rw [hp];exact a0u) hpB
  clear hS
  obtain ⟨cl,hcl2⟩:∃ x,x=cells.set i (.slice (some ⟨p,0,none⟩) m m):=⟨_,rfl⟩
  have hget:cl[i]? = some (.slice (some ⟨p,0,none⟩) m m):=by rw [hcl2,S0g (by omega)]
  rw [← hcl2] at b2
  have zp:d0j (.slice (some ⟨p,0,none⟩) m m)=some (.int .i64 (m:Int)):=rfl
  have ip:∀ j:Nat,j < m→iaV 5 (.slice (some ⟨p,0,none⟩) m m) (.int .i64 (j:Int))=some (.pointer (some ⟨p,j * 5,none⟩)):=fun j hj=>by simp [iaV];omega
  simp [y0G,g5,gi,iB i hi,b2,hget,zp]
  refine x0P (n:=m) (fun j ρ G'=>ρ 3=.pointer (some ⟨H.size + 1,0,none⟩)∧ρ 5=.slice (some ⟨B,0,none⟩) n n∧ρ 6=.int .i64 (i:Int)∧ρ 14=.int .i64 (i:Int)∧ρ 13=.int .i64 (n:Int)∧d0Z (some B) G0 G'∧a0c.blk G' B=.row false b0v cl∧a0c.blk G' p=.row false a0x (b0Q p0o j ++ b0Q E0U (m - j))) rfl rfl (by decide) (by omega) (by simp) (by simp) ?_ ?_ ?_ ?_
  ·exact ⟨by simp [g3],by simp [g5],by simp,by simp [gi],by simp [gn],e1,b2,by simpa [b0Q] using c2⟩
  ·intro i ρ ρ' G h hI;simpa [h] using hI
  ·clear g3 g5 gi gn e1 b2 c2 ρ G2
   rintro j ρ G2 hj gj gm ⟨g3,g5,g6,gi,gn,e1,b2,c2⟩
   have hlen:(b0Q p0o j ++ b0Q E0U (m - j)).length=m * 5:=by
    rw [R0A,e0x,e0x,show p0o.length=5 from rfl,show E0U.length=5 from rfl,← R0o];congr 1;omega
   have hj5:j * 5 + 5≤m * 5:=by omega
   have hfp:H.size≤p:=by omega
   have hw:a0V (b0Q p0o j ++ b0Q E0U (m - j)) (j * 5) p0o=b0Q p0o (j + 1) ++ b0Q E0U (m - (j + 1)):=by
    have:=p0Z (a:=p0o) (z:=E0U) (j:=j) (k:=m - (j + 1)) rfl
    rw [show m - (j + 1) + 1=m - j by omega] at this
    exact this
   obtain ⟨row,hrow⟩:∃ x,x=b0Q p0o j ++ b0Q E0U (m - j):=⟨_,rfl⟩
   rw [← hrow] at c2 hlen hw
   simp [y0H,y0I,g5,g6,gj,iB i hi,b2,hget,ip j hj,hfp,c2,hlen,hj5]
   generalize hS:Array.setIfInBounds G2 _ _=G3
   exact Rnd.mk (by simp [gj]) (by simp [gm]) ⟨by simp [g3],by simp [g5],by simp [g6],by simp [gi],by simp [gn],o0m e1 hS (.inl (by omega)),a0q hS b2 (Ne.symm hpB),(a0K hS c2).trans (T0f (Blk.row false a0x) hw)⟩
  ·clear g3 g5 gi gn e1 b2 c2 ρ G2
   rintro ρ G2 gj gm ⟨g3,g5,g6,gi,gn,e1,b2,c2⟩
   have hx2:Ext H G2:=e1.ext hfB hx
   simp
   refine Rnd.mk (by simp [gi]) (by simp [gn]) ⟨by simp [g3],by simp [g5],hx2,by rw [e1.2 _ h1l (by simp;omega)];exact b1,cl,b2,by rw [hcl2,List.length_set];exact hcl,fun k hk=>?_⟩
   by_cases hki:k=i
   ·subst hki
    refine ⟨p,hget,Ne.symm hpB,?_⟩
    rw [c2,Nat.sub_self];simp [b0Q]
   ·obtain ⟨c,q1,q2,q3⟩:=hP k (by omega)
    refine ⟨c,by rw [hcl2,List.getElem?_set_ne (by omega)];exact q1,q2,?_⟩
    rw [e1.2 c (a0k q3) (by simpa using Ne.symm q2)];exact q3
 ·clear h0 ρ hx b0 b1 hx1 bB G1
  rintro ρ G0 gi gn ⟨g3,g5,hx,b1,hI⟩
  simp [u0c,g5]
  exact fun _=>hI.exts
def x0T (l:l0r) (rows:List (List b0B)) (d:List (List d0d)):Bool:=c0c l && d0W rows l.ns && decide (d.length=l.nl) && d0K (c0h rows l.ns) d
def F0I (rows:List (List b0B)):Prop:=(∀ r ∈ rows,Few 6 r∧r.length < 1073741824)∧rows.length≤200
def I0K (d:List (List d0d)):Prop:=d.length≤60∧∀ x ∈ d,v0U x∧x.length < 1073741824
theorem h0W {rows:List (List b0B)} {n:Int} {d:List d0d} {p q:Nat} {s:Value} (hs:f0v H s rows) (hd:c0R H v d) (hp:a0c.blk H p=.row false a0i [s]) (hq:a0c.blk H q=.row false h0b [.int .i64 n]) (hf:fl≤H.size) (hr:F0I rows) (hfd:v0U d) (hdl:d.length < 1073741824) :
  a0N env fl H0Z [v,.pointer (some ⟨p,0,none⟩),.pointer (some ⟨q,0,none⟩)] H (fun r H'=>r=.bool (!c0h rows n d)∧Ext H H') R:=by
 refine a0d P0r hf (h:=?_)
 intro ρ h0
 simp [L0T,z0A,z0B,h0,hp,hq]
 refine (j0v (n:=n) ⟨s,rfl,hs⟩ hd (Q0W _) (by decide) hr.1 (by have:=hr.2;omega) hfd hdl).mono ?_
 rintro _ G2 ⟨rfl,hx2⟩
 simp
theorem l0A {rows:List (List b0B)} {n:Int} {d:List (List d0d)}:(!c0L (fun x=>!c0h rows n x) d)=d0K (c0h rows n) d:=by
 unfold c0L d0K
 induction d with
 | nil=>rfl
 | cons x l ih=>simp only [List.any_cons,R0D,Bool.not_or,Bool.not_not,ih]
theorem f0Q {l:l0r} {rows:List (List b0B)} {d:List (List d0d)} (h:m0w H v l) (ht:c0C H w rows) (hd:c0b H u d) (hf:fl≤H.size) (hg:i0F l) (hr:F0I rows) (hfd:I0K d) :
  a0N env fl f_8 [v,w,u] H (fun r H'=>r=.bool (x0T l rows d)∧Ext H H') R:=by
 obtain ⟨cs,rfl,sL,sS,sE,sV,rfl,hL,hS,hE,hV⟩:=h
 obtain ⟨s,rfl,hs⟩:=ht
 refine a0d e_8 hf (h:=?_)
 intro ρ h0
 simp [s_8,K0z,h0,hL.2.1,hS.2.1,hE.cells,hV.cells,hs.cells]
 generalize hGG:Array.push (Array.push H _) _=G
 obtain ⟨hx,b0,b1,hsz⟩:=p0L hGG
 clear hGG
 have lL:=hL.1
 have lS:=hS.1
 have hszl:H.size≤G.size:=hx.1
 simp [K0A,b0,lS,hszl]
 generalize hGG:Array.setIfInBounds (Array.push G _) _ _=G1
 obtain ⟨hx1,b2⟩:=new1 hGG
 clear hGG
 replace b0:=hx1.blk b0
 replace b1:=hx1.blk b1
 replace hx:=hx.trans hx1
 obtain ⟨P,hP⟩:∃ P,P=G.size:=⟨_,rfl⟩
 rw [← hP] at b2 ⊢
 have kl:m0w G1 (.agg #[sL,sS,sE,sV]) l:=⟨[sL,sS,sE,sV],rfl,sL,sS,sE,sV,rfl,hL,hS,hE.mono i0L hx,hV.mono i0M hx⟩
 simp [K0B,b0]
 refine (h0Y kl hg hx.1).mono ?_
 rintro _ G2 ⟨rfl,hx2⟩
 replace b0:=hx2.blk b0
 replace b1:=hx2.blk b1
 replace b2:=hx2.blk b2
 replace hx:=hx.trans hx2
 unfold x0T
 cases q1:c0c l
 case false=>simp
 simp [b1,b2]
 refine (e0B (n:=(l.ns:Int)) ⟨s,rfl,hs.mono b0H hx⟩ hx.1 (show 6 < 67108864 by decide) hr.1 (by have:=hr.2;omega)).mono ?_
 rintro _ G3 ⟨rfl,hx2⟩
 replace b0:=hx2.blk b0
 replace b1:=hx2.blk b1
 replace b2:=hx2.blk b2
 replace hx:=hx.trans hx2
 cases q2:d0W rows l.ns
 case false=>simp
 by_cases q3:d.length=l.nl
 case neg =>
  have q3':¬ (d.length:Int)=(l.nl:Int):=by omega
  simp [h0,b0,hd.slen,lL,q3,q3']
 have q3':(d.length:Int)=(l.nl:Int):=by omega
 simp [h0,b0,hd.slen,lL,q3,q3']
 refine (f0Y (p:=fun x=>!c0h rows l.ns x) (fun K=>f0v K s rows∧K.blk (H.size + 1)=.row false a0i [s]∧K.blk P=.row false h0b [.int .i64 (l.ns:Int)]) (fun G G' hx h=>⟨h.1.mono b0H hx,hx.blk h.2.1,hx.blk h.2.2⟩) ⟨hs.mono b0H hx,b1,b2⟩ (hd.mono d0r hx) hx.1 (by have:=hfd.1;omega) (fun fl G v e he hI hf hv=>h0W hI.1 hv hI.2.1 hI.2.2 hf hr (hfd.2 e he).1 (hfd.2 e he).2)).mono ?_
 rintro _ G4 ⟨rfl,hx2⟩
 simp
 exact fun _=>by rw [← l0A,Bool.not_not]
theorem l0Z {l:l0r} {rows:List (List b0B)} {d:List (List d0d)} (h:m0w H v l) (ht:c0C H w rows) (hd:c0b H u d) (hf:fl≤H.size) (hg:i0F l) (hr:F0I rows) (hfd:I0K d) :
  a0N env fl f_9 [v,w,u] H (fun r H'=>r=.bool (x0T l rows d)∧Ext H H') R:=by
 obtain ⟨cs,rfl,sL,sS,sE,sV,rfl,hL,hS,hE,hV⟩:=h
 obtain ⟨s,rfl,hs⟩:=ht
 refine a0d e_9 hf (h:=?_)
 intro ρ h0
 simp [s_9,K0H,h0,hL.2.1,hS.2.1,hE.cells,hV.cells,hs.cells]
 generalize hGG:Array.push (Array.push H _) _=G
 obtain ⟨hx,b0,b1,hsz⟩:=p0L hGG
 clear hGG
 have lL:=hL.1
 have lS:=hS.1
 have kl:m0w G (.agg #[sL,sS,sE,sV]) l:=⟨[sL,sS,sE,sV],rfl,sL,sS,sE,sV,rfl,hL,hS,hE.mono i0L hx,hV.mono i0M hx⟩
 simp [K0I,b0]
 refine (j0D kl hg hx.1).mono ?_
 rintro _ G2 ⟨rfl,hx2⟩
 replace b0:=hx2.blk b0
 replace b1:=hx2.blk b1
 replace hx:=hx.trans hx2
 unfold x0T
 cases q1:c0c l
 case false=>simp [w0Y]
 by_cases q3:d.length=l.nl
 case neg =>
  have q3':¬ (d.length:Int)=(l.nl:Int):=by omega
  simp [h0,b0,hd.slen,lL,q3,q3',w0Y]
 have q3':(d.length:Int)=(l.nl:Int):=by omega
 simp [h0,b0,b1,hd.slen,lL,lS,q3,q3']
 refine (f0T (n:=(l.ns:Int)) ⟨s,rfl,hs.mono b0H hx⟩ hx.1 (show 6 < 67108864 by decide) hr.1 (by have:=hr.2;omega)).mono ?_
 rintro _ G3 ⟨rfl,hx2⟩
 replace b0:=hx2.blk b0
 replace b1:=hx2.blk b1
 replace hx:=hx.trans hx2
 cases q2:d0W rows l.ns
 case false=>simp [w0Y]
 simp [K0J]
 refine b0D (fun i ρ G=>ρ 2=u∧ρ 3=.pointer (some ⟨H.size,0,none⟩)∧ρ 4=.pointer (some ⟨H.size + 1,0,none⟩)∧ρ 7=.int .i64 (i:Int)∧Ext H G∧a0c.blk G H.size=.row false b0f [sL,sS,sE,sV]∧a0c.blk G (H.size + 1)=.row false a0i [s]∧d0K (c0h rows l.ns) (d.take i)=true) d.length (by decide) ?_ ?_
 ·exact ⟨by simp [h0],by simp,by simp,by simp,hx,b0,b1,c0m⟩
 clear h0 hx b0 b1 ρ
 rintro i ρ G hi1 ⟨g2,g3,g4,g7,hx,b0,b1,hc⟩
 have k:=hd.mono d0r hx
 simp [K0K,g2,g7,k.slen]
 refine c0i.mk (by simp) (fun hlt=>?_) (fun heq=>?_)
 ·obtain ⟨w,hw,kw⟩:=c0b.load k hlt
  refine e0c (a0Y ?_)
  simp [K0L,g2,g3,g4,g7,b0,b1,lS,k.ia hlt,hw]
  refine (i0U (n:=(l.ns:Int)) ⟨s,rfl,hs.mono b0H hx⟩ kw hx.1 (show 6 < 67108864 by decide) hr.1 (by have:=hr.2;omega) (hfd.2 _ (R0g hlt)).1 (hfd.2 _ (R0g hlt)).2).mono ?_
  rintro _ G2 ⟨rfl,hx2⟩
  cases hp:c0h rows l.ns d[i]
  ·simp [K0M]
   exact fun _=>d0m hlt hp
  ·simp
   unfold d0l
   simp [K0N,g7,a0D (show i < 4611686018427387904 by have:=hfd.1;omega)]
   exact b0u.mk ⟨by simp [g2],by simp [g3],by simp [g4],by simp,hx.trans hx2,hx2.blk b0,hx2.blk b1,by rw [b0R hlt,hc,hp];rfl⟩
 ·subst heq
  rw [Q0Z] at hc
  simp [K0O]
  exact fun _=>hc
theorem b0W.app2 {α:Type} {P:a0c→List Value→α→Prop} {e sz:Nat} {l:List α} (he:e ≠ a0b) (hO:∀ G' cs x,d0Z (slB v) G G'→Lx G G'→P G cs x→P G' cs x) (h:b0W P fl G e sz v l) {e2 c bytes:Nat} {new1 new2:List Value} {x1 x2:α} (hx1:P G new1 x1) (hx2:P G new2 x2) (hl1:new1.length=sz) (hl2:new2.length=sz) (hp1:new1.all a0B=true) (hp2:new2.all a0B=true) (hn:l.length < 1073741822) (hb:bytes≤1024) (hs:0 < sz) (hfl:fl≤G.size) :
  ∃ v' G',j0u fl (G.push (.row false e2 (new1 ++ new2))) e sz bytes v (.slice (some ⟨G.size,0,none⟩) 2 c)=some (v',G')∧b0W P fl G' e sz v' (l ++ [x1,x2])∧d0Z (slB v) G G'∧(∀ H0,H0.size≤fl→Ext H0 G→Ext H0 G'):=by
 obtain ⟨cs,h1,h2⟩:=h
 have hx:Sl (G.push (.row false e2 (new1 ++ new2))) e2 sz (.slice (some ⟨G.size,0,none⟩) 2 c) 2 (new1 ++ new2):=(Own.mk (fl:=0) a0u (by rw [R0A,hl1,hl2];omega) (R0H _)).sl
 obtain ⟨v',G',a1,a2,a3,a4⟩:=i0r (h1.mono (Ext.push (Ext.refl G))) hx (by rw [T0a,hp1,hp2];rfl) (by omega) hb hs (bytes:=bytes) (by simp;omega)
 have a3':d0Z (slB v) G G':=by
  refine ⟨?_,fun b hb hne=>?_⟩
  ·have:=a3.1;simp at this;omega
  ·rw [a3.2 b (by simp;omega) hne,c0q hb]
 have hL:=b0W.lx ⟨cs,h1,h2⟩ he a3'
 refine ⟨v',G',a1,⟨cs ++ (new1 ++ new2),by simpa using a2,fun k hk=>?_⟩,a3',fun H0 k1 k2=>a4 H0 k1 k2.push⟩
 have hcs:=h1.1
 by_cases hkl:k < l.length
 ·have h3:(k + 1) * sz≤l.length * sz:=R0h _ hkl
  rw [R0o,R0S] at h3
  rw [S0Y hkl,R0X (by omega),S0o (by simp;omega)]
  exact hO _ _ _ a3' hL (h2 k hkl)
 ·by_cases hke:k=l.length
  ·subst hke
   rw [S0z (Q0W _),R0X (by omega),S0f (by omega),S0O,S0o (by omega),← hl1,Q0Z]
   simpa using hO _ _ _ a3' hL hx1
  ·have hke:k=l.length + 1:=by simp at hk;omega
   subst hke
   have e1:(cs ++ (new1 ++ new2)).drop ((l.length + 1) * sz)=new2:=by
    rw [← List.append_assoc,List.drop_append,S0f (by rw [R0A,hcs,hl1,R0o];omega),S0O,R0A,hcs,hl1,R0o]
    simp
   rw [e1,S0z (by omega),← hl2,Q0Z]
   simpa using hO _ _ _ a3' hL hx2
theorem w0O {n:Int}:mn2 true 0 (mn2 false n 6)=max 0 (min n 6):=by
 simp only [mn2,R0p,R0K,R0T]
 repeat' split
 all_goals omega
theorem j0F {n:Int} (hf:fl≤H.size):a0N env fl I0j [.int .i64 n] H (fun r H'=>r=.int .i64 (max 0 (min n 6))∧Ext H H') R:=by
 refine a0d P0E hf (h:=?_)
 intro ρ h0
 simp [M0g,A0u,A0v,h0]
 have h1:m0G true (.int .i64 0) [.int .i64 (mn2 false n 6)]=some (.int .i64 (max 0 (min n 6))):=by rw [← w0O];rfl
 have h2:m0G false (.int .i64 n) [.int .i64 6]=some (.int .i64 (mn2 false n 6)):=rfl
 simp [h2,h1]
theorem h0L {n:Nat} {i p k q:Int} (hf:fl≤H.size) (hn:n < 1073741824) (hp1:-9223372036854775808≤p) (hp2:p < 9223372036854775808) (hq1:-9223372036854775808≤q) (hq2:q < 9223372036854775808) :
  a0N env fl G0W [.int .i64 (n:Int),.int .i64 i,.int .i64 p,.int .i64 k,.int .i64 q] H (fun r H'=>b0W PR H.size H' a0h 4 r ((List.range n).map fun (j:Nat)=>a0G ((if (j:Int)=k then q else if (j:Int)=i then p else 0:Int):Rat))∧Ext H H') R:=by
 refine a0d P0F hf (h:=?_)
 intro ρ h0
 simp [M0h,A0w,A0x,A0y,h0]
 refine b0D (fun j ρ G=>ρ 0=.int .i64 (n:Int)∧ρ 1=.int .i64 i∧ρ 2=.int .i64 p∧ρ 3=.int .i64 k∧ρ 4=.int .i64 q∧ρ 12=.int .i64 (j:Int)∧Ext H G∧b0W PR H.size G a0h 4 (ρ 11) ((List.range j).map fun (j:Nat)=>a0G ((if (j:Int)=k then q else if (j:Int)=i then p else 0:Int):Rat))) n (by decide) ⟨by simp [h0],by simp [h0],by simp [h0],by simp [h0],by simp [h0],by simp,Ext.refl H,by simpa using b0W.nil⟩ ?_
 clear h0 ρ
 rintro j ρ G hj1 ⟨g0,g1,g2,g3,g4,g12,hx,ho⟩
 obtain ⟨s,g11⟩:∃ s,ρ 11=s:=⟨_,rfl⟩
 rw [g11] at ho
 simp [A0z,g0,g12]
 refine c0i.mk (by simp) (fun hj=>?_) (fun heq=>?_)
 ·obtain ⟨z,hz⟩:∃ z:Int,z=(if (j:Int)=k then q else if (j:Int)=i then p else 0):=⟨_,rfl⟩
  have hz1:-9223372036854775808≤z:=by rw [hz];split;exact hq1;split;exact hp1;omega
  have hz2:z < 9223372036854775808:=by rw [hz];split;exact hq2;split;exact hp2;omega
  have hlist:(List.range (j + 1)).map (fun (j:Nat)=>a0G ((if (j:Int)=k then q else if (j:Int)=i then p else 0:Int):Rat))=(List.range j).map (fun (j:Nat)=>a0G ((if (j:Int)=k then q else if (j:Int)=i then p else 0:Int):Rat)) ++ [a0G (z:Rat)]:=by
   rw [List.range_succ,List.map_append,List.map_singleton,← hz]
  by_cases h1:(j:Int)=k <;> by_cases h2:(j:Int)=i
  all_goals
   first | rw [R0k h1] at hz | rw [R0c h1,R0k h2] at hz | rw [R0c h1,R0c h2] at hz
   subst hz
   try subst h1
   try subst h2
   simp [A0A,A0B,A0C,A0D,A0E,g1,g2,g3,g4,g12, *]
   simp [A0F,g11]
   refine (g0I hx.1 (by omega) (by omega)).mono ?_
   rintro _ G2 ⟨⟨s3,s4,rfl,k3,k4⟩,hx2⟩
   replace hx:=hx.trans hx2
   replace ho:=ho.mono g0A hx2
   try rw [show ((0:Int):Rat)=0 from rfl] at k3 k4 hlist ⊢
   obtain ⟨s',G4,h1,h2,h3,h4⟩:=b0W.app (P:=PR) (sz:=4) (e:=a0h) (by decide) (fun G' cs x _ hl h=>c0K.lx h hl) ho (e2:=a0h) (c:=1) (bytes:=64) ⟨s3,s4,rfl,k3,k4⟩ rfl (by simp [k3.plain,k4.plain]) (by simp;omega) (by omega) (by omega) hx.1
   have k3':=k3.cells;have k4':=k4.cells
   simp [g11,k3',k4',h1]
   unfold d0l
   simp [u0J,g12,a0D (show j < 4611686018427387904 by omega)]
   exact b0u.mk ⟨by simp [g0],by simp [g1],by simp [g2],by simp [g3],by simp [g4],by simp,h4 _ (Q0W _) hx,by rw [hlist];exact b0W.cast (v':=s') (by simp) h2⟩
 ·subst heq
  simp [u0K,g11]
  exact fun _=>ho
theorem b0W.first {α:Type} {P:a0c→List Value→α→Prop} {f0 e sz:Nat} {l:List α} (h:b0W P f0 H e sz v l) {k:IntKind} :
  ∃ v',c0D sz v none (some (.int k l.length)) none=some v'∧b0W P f0 H e sz v' l∧elemOk H e v=true:=by
 obtain ⟨v1,h1,_,h3⟩:=h.sls.first (n:=l.length) (k:=k) (Q0W _)
 refine ⟨v1,h1,?_,h3⟩
 obtain ⟨cs,⟨hl,⟨rfl,h0⟩ | ⟨b,cap,rfl,hb,hf⟩⟩,h2⟩:=h
 ·have:v1=.slice none 0 0:=by
   rw [h0] at h1
   exact (Option.some.inj (h1.symm.trans rfl))
  subst this
  exact ⟨cs,⟨hl,.inl ⟨rfl,h0⟩⟩,h2⟩
 ·unfold c0D at h1
  simp [bnd] at h1
  subst h1
  exact ⟨cs,⟨hl,.inr ⟨b,_,rfl,hb,hf⟩⟩,h2⟩
theorem m0a {f0:Nat} {l:List (List b0B)} (h:b0W PS f0 H b0m 1 v l) (hf:fl≤H.size) (hl:l.length≤40) :
  a0N env fl I0k [v] H (fun r H'=>(∃ s,r=.agg #[s]∧b0W PS f0 H' b0m 1 s l)∧Ext H H') R:=by
 refine a0d P0G hf (h:=?_)
 intro ρ h0
 have hmn:m0G false (.int .i64 (l.length:Int)) [.int .i64 40]=some (.int .i64 (l.length:Int)):=by
  have:mn2 false (l.length:Int) 40=l.length:=by
   simp only [mn2,R0p,R0K]
   split <;> omega
  show some (Value.int IntKind.i64 (mn2 false (l.length:Int) 40))=_
  rw [this]
 obtain ⟨u1,hu1,ku,oku⟩:=(h.mono b0H ((Ext.refl H).push (r:=.row false a0i [.slice none 0 0]))).first (k:=.i64)
 have ku0:=ku.sls
 simp [M0i,A0G,A0H,h0,h.sls.slen,hmn,hu1,oku,ku0.cells,ku0.plain,hf]
 exact ku.lxm (h0s rfl a0u (by decide)) (fun cs x ⟨w',q1,q2⟩=>⟨w',q1,c0w.lx2 q2 (h0s rfl a0u (by decide)) (fun b ro cs h=>h0s (e:=a0b) rfl a0u (by decide) b ro cs h)⟩)
def q0R (n i:Nat) (p:Int):List b0B:=(List.range n).map fun (j:Nat)=>a0G ((if (j:Int) = -1 then 0 else if (j:Int)=(i:Int) then p else 0:Int):Rat)
def c0k (n:Nat):Nat→List (List b0B)
 | 0=>[]
 | i + 1=>c0k n i ++ [q0R n i 1,q0R n i (-1)]
theorem f0o {n:Nat}:∀ i,(c0k n i).length=2 * i
 | 0=>rfl
 | i + 1=>by rw [c0k,R0A,f0o i];simp;omega
theorem i0b {n:Int} {m:Nat} (hf:fl≤H.size) (hm:max 0 (min n 6)=(m:Int)) :
  a0N env fl G0S [.int .i64 n] H (fun r H'=>(∃ s,r=.agg #[s]∧b0W PS H.size H' b0m 1 s (c0k m m))∧Ext H H') R:=by
 refine a0d P0l hf (h:=?_)
 intro ρ h0
 simp [L0N,y0V,y0W,h0]
 generalize hN:Array.push H _=G
 obtain ⟨hx,b0⟩:=e0L hN
 clear hN
 refine (j0F hx.1).mono ?_
 rintro _ G2 ⟨rfl,hx2⟩
 rw [hm]
 have hm6:m≤6:=by omega
 replace b0:=hx2.blk b0
 replace hx:=hx.trans hx2
 simp [y0X,y0Y]
 refine b0D (fun i ρ G=>ρ 0=.int .i64 (m:Int)∧ρ 2=.pointer (some ⟨H.size,0,none⟩)∧ρ 4=.int .i64 (i:Int)∧Ext H G∧a0c.blk G H.size=.row false a0i [.slice none 0 0]∧b0W PS H.size G b0m 1 (ρ 3) (c0k m i)) m (by decide) ⟨by simp,by simp,by simp,hx,b0,by simpa [c0k] using b0W.nil⟩ ?_
 clear h0 ρ hx b0 hx2
 rintro i ρ G hi1 ⟨g0,g2,g4,hx,b0,ho⟩
 obtain ⟨s,g3⟩:∃ s,ρ 3=s:=⟨_,rfl⟩
 rw [g3] at ho
 simp [y0Z,g0,g4]
 refine c0i.mk (by simp) (fun hi=>?_) (fun heq=>?_)
 ·simp [z0a,g0,g3,g4]
  refine (h0L hx.1 (by omega) (by decide) (by decide) (by decide) (by decide)).mono ?_
  rintro wa G2 ⟨oa,hx2⟩
  replace b0:=hx2.blk b0
  replace ho:=ho.mono b0H hx2
  replace hx:=hx.trans hx2
  simp [g0,g4]
  refine (h0L hx.1 (by omega) (by decide) (by decide) (by decide) (by decide)).mono ?_
  rintro wb G3 ⟨ob,hx2⟩
  replace b0:=hx2.blk b0
  replace ho:=ho.mono b0H hx2
  replace oa:=oa.mono g0A hx2
  replace hx:=hx.trans hx2
  have hll:=f0o (n:=m) i
  obtain ⟨s',G4,h1,h2,h3,h4⟩:=b0W.app2 (P:=PS) (sz:=1) (e:=b0m) (by decide) (fun G' cs x hxb hl ⟨w',q1,q2⟩=>⟨w',q1,c0w.lx2 q2 (ho.lxT (by decide) hxb) hl⟩) ho (e2:=b0m) (c:=2) (bytes:=24) (new1:=[wa]) (new2:=[wb]) (x1:=q0R m i 1) (x2:=q0R m i (-1)) ⟨wa,rfl,oa.sls⟩ ⟨wb,rfl,ob.sls⟩ rfl rfl (by simp [oa.sls.plain]) (by simp [ob.sls.plain]) (by omega) (by omega) (by omega) hx.1
  have b0':=(ho.lxT (e':=a0i) (by decide) h3) _ _ _ b0
  simp [g3,oa.sls.cells,ob.sls.cells]
  simp at h1
  simp [h1]
  unfold d0l
  simp [z0b,g4,a0D (show i < 4611686018427387904 by omega)]
  exact b0u.mk ⟨by simp [g0],by simp [g2],by simp,h4 _ (Q0W _) hx,b0',b0W.cast (v':=s') (by simp) h2⟩
 ·subst heq
  simp [z0c,g3]
  refine (m0a ho hx.1 (by rw [f0o];omega)).mono ?_
  rintro _ G2 ⟨⟨s2,rfl,ks⟩,hx2⟩
  replace b0:=hx2.blk b0
  replace hx:=hx.trans hx2
  have hsz:=hx.1
  have ks0:=ks.sls
  simp [g2,b0,ks0.cells,ks0.plain,hsz]
  generalize hS':Array.setIfInBounds G2 _ _=G3
  rw [a0K hS' b0]
  simp
  exact fun _=>ks.lxm (h0s hS' b0 (by decide)) (fun cs x ⟨w',q1,q2⟩=>⟨w',q1,c0w.lx2 q2 (h0s hS' b0 (by decide)) (fun b ro cs h=>h0s (e:=a0b) hS' b0 (by decide) b ro cs h)⟩)
theorem h0m {n:Int} {m:Nat} (hf:fl≤H.size) (hm:max 0 (min n 6)=(m:Int)) :
  a0N env fl G0S [.int .i64 n] H (fun r H'=>c0C H' r (c0k m m)∧Ext H H') R :=
 (i0b hf hm).mono fun r H' ⟨⟨s,h1,h2⟩,h3⟩=>⟨⟨s,h1,h2.sls⟩,h3⟩
theorem r0f {n:Int} (hf:fl≤H.size):a0N env fl H0W [.int .i64 n] H (fun r H'=>r=.int .i64 n∧Ext H H') R:=by
 refine a0d P0n hf (h:=?_)
 intro ρ h0
 simp [L0P,z0l,z0m,h0]
theorem o0l {b:Nat} (h:a0c.blk H b=.emap) (hx:Ext H G):a0c.blk G b=.emap:=by
 have hlt:b < H.size:=by
  by_cases h0:b < H.size
  ·exact h0
  ·exfalso;simp [a0c.blk,R0e,S0e (show H.size≤b by omega)] at h
 rw [hx.2 b hlt];exact h
theorem j0w {c:Value} (hf:fl≤H.size):a0N env fl I0v [.slice none 0 0,c] H (fun r H'=>(∃ b,r=.map (some b)∧a0c.blk H' b=.emap)∧Ext H H') R:=by
 refine a0d Q0c hf (h:=?_)
 intro ρ h0
 have z0:d0j (.slice none 0 0)=some (.int .i64 0):=rfl
 simp [M0C,C0u,C0v,C0w,h0,z0]
 generalize hG:Array.push H _=G
 obtain ⟨hx,b0⟩:=e0L hG
 clear hG
 refine g0s (n:=0) (fun i ρ G=>ρ 5=.map (some H.size)∧a0c.blk G H.size=.emap) rfl rfl (by decide) (by omega) (by simp) (by simp) ?_ ?_ ?_ ?_
 ·exact ⟨by simp,b0⟩
 ·intro i ρ ρ' G h hI;simpa [h] using hI
 ·intro i ρ G hi;omega
 ·rintro ρ G gi gn ⟨g5,hb⟩
  simp [C0x,g5]
  exact fun _=>hb
theorem k0n {sL sS sV:Value} (cL:a0M sL=[sL]) (cS:a0M sS=[sS]) (cV:a0M sV=[sV]) (hf:fl≤H.size) :
  a0N env fl I0l [.agg #[sL,sS,.slice none 0 0,sV]] H (fun r H'=>(∃ b,r=.map (some b)∧a0c.blk H' b=.emap)∧Ext H H') R:=by
 refine a0d P0H hf (h:=?_)
 intro ρ h0
 simp [M0j,A0I,h0,cL,cS,cV]
 generalize hG:Array.push H _=G
 obtain ⟨hx,b0⟩:=e0L hG
 clear hG
 simp [A0J,b0]
 refine (j0w hx.1).mono ?_
 rintro _ G2 ⟨⟨b,rfl,hb⟩,hx2⟩
 simp
 exact fun _=>hb
theorem l0H {rows:List (List b0B)} (ht:c0C H v rows) (hf:fl≤H.size) (hr:F0I rows) :
  a0N env fl I0m [v,.bool true,.slice none 0 0,u] H (fun r H'=>(∃ q,r=.tuple #[q,.int .i64 0]∧c0R H' q (h0S rows))∧Ext H H') R:=by
 obtain ⟨s,rfl,hs⟩:=ht
 refine a0d P0I hf (h:=?_)
 intro ρ h0
 simp [M0k,A0V,h0,hs.cells]
 generalize hG:Array.push H _=G
 obtain ⟨hx,b0⟩:=e0L hG
 clear hG
 have hne:¬ H.size=G.size:=by have:=a0k b0;omega
 have hm:mkV 32 (.int .i64 1) (.int .i64 1)=some (1,1):=by simp [mkV]
 refine a0Y ?_
 simp [A0W,b0,hm,hs.cells,hne]
 generalize hG:Array.push G _=G1
 obtain ⟨hx1,b1⟩:=e0L hG
 clear hG
 replace b0:=hx1.blk b0
 replace hx:=hx.trans hx1
 have cS:a0M (.slice (some ⟨G.size,0,none⟩) 1 1)=[.slice (some ⟨G.size,0,none⟩) 1 1]:=rfl
 refine (d0n (l:=⟨1,0,[],[]⟩) (rows:=rows) ⟨[_,_,_,_],rfl,_,_,_,_,rfl,(by exact ⟨rfl,rfl,rfl⟩),(by exact ⟨rfl,rfl,rfl⟩),Sls.nil,Sls.nil⟩ ⟨s,rfl,hs.mono b0H hx⟩ hx.1 (by decide) hr.2).mono ?_
 rintro vB G2 ⟨kB,hx2⟩
 replace b0:=hx2.blk b0
 replace hx:=hx.trans hx2
 have iB:iaV 1 vB (.int .i64 0)=some (adr 1 vB 0):=kB.ia (j:=0) (by simp)
 obtain ⟨w0,hw0,kw⟩:=c0b.load kB (j:=0) (by simp)
 simp [iB,hw0,A0X,A0Y,h0,b0]
 refine (f0P (rows:=rows) ⟨s,rfl,hs.mono b0H hx⟩ hx.1 hr.1 (by have:=hr.2;omega)).mono ?_
 rintro q G3 ⟨oq,hx2⟩
 have kq:c0R G3 q (h0S rows):=oq.sls
 replace hx:=hx.trans hx2
 have z0:d0j (.slice none 0 0)=some (.int .i64 0):=rfl
 simp [A0Z,h0,z0]
 refine g0s (n:=0) (fun i ρ G=>ρ 10=q∧c0R G q (h0S rows)) rfl rfl (by decide) (by omega) (by simp) (by simp) ?_ ?_ ?_ ?_
 ·exact ⟨by simp,kq⟩
 ·intro i ρ ρ' G h hI;simpa [h] using hI
 ·intro i ρ G hi;omega
 ·rintro ρ G gi gn ⟨g10,hb⟩
  simp [u0L,g10]
  exact fun _=>hb
def q0d (ns:Nat):l0r:=⟨1,ns,[],[]⟩
theorem p0A {ns:Nat} (h:ns≤6):c0c (q0d ns)=true:=by
 unfold c0c l0u q0d
 simp [c0m,h]
theorem p0t {rows:List (List b0B)} {d:List (List d0d)} {ns:Nat} {sL sS:Value} (hL:E0X sL 1) (hS:E0X sS ns) (ht:c0C H w rows) (hd:c0b H u d) (hf:fl≤H.size) (hr:F0I rows) (hfd:I0K d) (hok:x0T (q0d ns) rows d=true) (hns:ns≤6) :
  a0N env fl H0V [.agg #[sL,sS,.slice none 0 0,.slice none 0 0],w,u] H (fun r H'=>(∃ q,r=.tuple #[q,.int .i64 0]∧c0b H' q [h0S rows])∧Ext H H') R:=by
 obtain ⟨s,rfl,hs⟩:=ht
 refine a0d P0m hf (h:=?_)
 intro ρ h0
 simp [L0O,z0d,h0,hL.2.1,hS.2.1,hs.cells]
 generalize hGG:Array.push (Array.push H _) _=G
 obtain ⟨hx,b0,b1,hsz⟩:=p0L hGG
 clear hGG
 have lL:d0j sL=some (.int .i64 1):=hL.1
 simp [z0e,h0,b0,b1]
 refine (f0Q (l:=q0d ns) (rows:=rows) (d:=d) ⟨_,rfl,_,_,_,_,rfl,hL,hS,Sls.nil,Sls.nil⟩ ⟨s,rfl,hs.mono b0H hx⟩ (hd.mono d0r hx) hx.1 ⟨by show 1≤60;omega,by show ns≤10;omega,by simp [q0d],by simp [q0d],fun x hx=>by simp [q0d] at hx,fun x hx=>by simp [q0d] at hx⟩ hr hfd).mono ?_
 rintro _ G2 ⟨rfl,hx2⟩
 replace b0:=hx2.blk b0
 replace b1:=hx2.blk b1
 replace hx:=hx.trans hx2
 rw [hok]
 simp [z0f,b0]
 refine (k0n hL.2.1 hS.2.1 rfl hx.1).mono ?_
 rintro _ G3 ⟨⟨bm,rfl,bM⟩,hx2⟩
 replace b0:=hx2.blk b0
 replace b1:=hx2.blk b1
 replace hx:=hx.trans hx2
 simp [z0g,z0h,b0,lL]
 refine g0s (n:=1) (fun i ρ G=>ρ 2=u∧ρ 4=.pointer (some ⟨H.size + 1,0,none⟩)∧ρ 8=.map (some bm)∧Ext H G∧a0c.blk G (H.size + 1)=.row false a0i [s]∧a0c.blk G bm=.emap∧(i=0→ρ 9=.slice none 0 0)∧(i=1→c0b G (ρ 9) [h0S rows])) rfl rfl (by decide) (by omega) (by simp) (by simp) ?_ ?_ ?_ ?_
 ·exact ⟨by simp [h0],by simp,by simp,hx,b1,bM,fun _=>by simp,fun h=>by omega⟩
 ·intro i ρ ρ' G h hI;simpa [h] using hI
 ·clear h0 hx b0 b1 bM ρ
  rintro i ρ G hi gi gn ⟨g2,g4,g8,hx,b1,bM,g9,_⟩
  have hi0:i=0:=by omega
  subst hi0
  replace g9:=g9 rfl
  have gi':ρ 23=.int .i64 0:=gi
  simp [z0i,z0j,g2,g4,g8,gi',b1,bM]
  refine (l0H (rows:=rows) ⟨s,rfl,hs.mono b0H hx⟩ hx.1 hr).mono ?_
  rintro _ G4 ⟨⟨q,rfl,kq⟩,hx2⟩
  replace b1:=hx2.blk b1
  replace bM:=o0l bM hx2
  replace hx:=hx.trans hx2
  have hO:∀ G' cs (x:List d0d),d0Z (slB (.slice none 0 0)) G4 G'→Lx G4 G'→PEs G4 cs x→PEs G' cs x:=fun G' cs x hxb _ h=>d0r _ _ _ _ ⟨hxb.1,fun b hb=>hxb.2 b hb (by simp [slB])⟩ h
  obtain ⟨s',G5,h1,h2,h3,h4⟩:=b0W.app (P:=PEs) (sz:=1) (e:=b0v) (fl:=H.size) (v:=.slice none 0 0) (l:=[]) (by decide) hO b0W.nil (e2:=b0v) (c:=1) (bytes:=24) (new:=[q]) (x:=h0S rows) ⟨q,rfl,kq⟩ rfl (by simp [kq.plain]) (by simp) (by omega) (by omega) hx.1
  have hx5:Ext G4 G5:=⟨h3.1,fun b hb=>h3.2 b hb (by simp [slB])⟩
  simp [z0k,u0l,g9,kq.cells,h1]
  exact Rnd.mk (by simp [gi']) (by simp [gn]) ⟨by simp [g2],by simp [g4],by simp [g8],hx.trans hx5,hx5.blk b1,o0l bM hx5,fun h=>by omega,fun _=>(b0W.cast (v':=s') (by simp) h2).sls⟩
 ·clear h0 hx b0 b1 bM ρ
  rintro ρ G gi gn ⟨g2,g4,g8,hx,b1,bM,_,g9⟩
  simp [u0m]
  exact fun _=>g9 rfl
theorem L0D:c0k 1 1=[[a0G ((1:Int):Rat)],[a0G ((-1:Int):Rat)]]:=by simp [c0k,q0R]
theorem I0W {z:Int} (h:z ≠ 0):nzR (a0G (z:Rat))=true:=by
 unfold nzR
 rw [p0W]
 have:v0W (z:Rat) 0 ≠ 0:=by
  unfold v0W
  split
  ·decide
  ·split
   ·decide
   ·rename_i h1 h2
    exfalso
    apply h
    have:(z:Rat)=0:=Rat.le_antisymm (Rat.not_lt.1 h2) (Rat.not_lt.1 h1)
    exact_mod_cast this
 simp [this]
theorem I0V:h0S (c0k 1 1)=[(1,m0l),(1,m0l)]:=by
 rw [L0D]
 have h1:=I0W (z:=1) (by decide)
 have h2:=I0W (z:=-1) (by decide)
 unfold h0S k0k c0L
 simp only [List.map_cons,List.map_nil,List.any_cons,List.any_nil,h1,h2]
 rfl
theorem x0Y:F0I (c0k 1 1):=by
 rw [L0D]
 refine ⟨fun r hr=>?_,by decide⟩
 have h1:∀ z:Int,-1≤z→z≤1→e0g (a0G (z:Rat))≤6:=fun z h1 h2=>by
  rw [h0g,v0P]
  have:=w0M (z:=z) (k:=1) (by omega)
  omega
 have:r=[a0G ((1:Int):Rat)] ∨ r=[a0G ((-1:Int):Rat)]:=by simpa using hr
 rcases this with rfl | rfl <;>
 ·refine ⟨fun x hx=>?_,by simp⟩
  rw [R0U.1 hx]
  exact ⟨h1 _ (by decide) (by decide),i0y _,i0y _⟩
theorem I0U:x0T (q0d 1) (c0k 1 1) [[g0u,g0u]]=true:=by
 have h0:c0c (q0d 1)=true:=p0A (by decide)
 have h1:d0W (c0k 1 1) ((1:Nat):Int)=true:=by
  rw [L0D];unfold d0W d0K j0L;simp [j0W,d0K]
 have h2:c0h (c0k 1 1) ((1:Nat):Int) [g0u,g0u]=true:=by
  unfold c0h;rw [h1,L0D];decide
 unfold x0T
 rw [h0]
 show (true && d0W (c0k 1 1) ((1:Nat):Int) && decide ([[g0u,g0u]].length=1) && d0K (c0h (c0k 1 1) ((1:Nat):Int)) [[g0u,g0u]])=true
 rw [h1]
 show d0K (c0h (c0k 1 1) ((1:Nat):Int)) [[g0u,g0u]]=true
 show ((c0h (c0k 1 1) ((1:Nat):Int)) [g0u,g0u] && true)=true
 rw [h2];rfl
theorem F0r:I0K [[g0u,g0u]]:=by
 refine ⟨by decide,fun x hx=>?_⟩
 rw [R0U.1 hx]
 refine ⟨fun y hy=>?_,by decide⟩
 have:y=g0u:=by simpa using hy
 rw [this];decide
theorem Q0O {z1 z2 z3 r3:Blk} {G3:a0c} (hN:Array.setIfInBounds (Array.push (Array.push (Array.push G z1) z2) z3) (G.size + 2) r3=G3):Ext G G3∧a0c.blk G3 (G.size + 2)=r3:=by
 subst hN
 exact ⟨((Ext.refl G).push.push.push).set (by omega),by rw [a0r (by simp)]⟩
theorem c0u (hf:fl≤H.size):a0N env fl f_6 [] H (fun r H'=>r=.bool true∧Ext H H') R:=by
 refine a0d e_6 hf (h:=?_)
 intro ρ h0
 have cX:∀ s,a0M (.string s)=[.string s]:=fun _=>rfl
 have pX:∀ s,a0B (.string s)=true:=fun _=>rfl
 simp [s_6,K0l,K0m,cX,pX]
 generalize hG:Array.setIfInBounds _ _ _=G
 obtain ⟨hx,b2⟩:=Q0O hG
 clear hG
 simp [K0n]
 refine (h0m (n:=1) (m:=1) hx.1 (by decide)).mono ?_
 rintro _ G2 ⟨⟨s,rfl,kT⟩,hx2⟩
 replace b2:=hx2.blk b2
 replace hx:=hx.trans hx2
 have hsz:=hx.1
 simp [kT.cells,kT.plain,hsz]
 generalize hGG:Array.setIfInBounds (Array.push G2 _) _ _=G3
 obtain ⟨hx2,b3⟩:=new1 hGG
 clear hGG
 replace b2:=hx2.blk b2
 replace kT:=kT.mono b0H hx2
 replace hx:=hx.trans hx2
 obtain ⟨P,hP⟩:∃ P,P=G2.size:=⟨_,rfl⟩
 rw [← hP] at b3 ⊢
 have z1:E0X (.slice (some ⟨H.size,0,none⟩) 1 1) 1:=⟨rfl,rfl,rfl⟩
 have z2:E0X (.slice (some ⟨H.size + 1,0,none⟩) 1 1) 1:=⟨rfl,rfl,rfl⟩
 refine a0Y ?_
 simp [K0o,b2,b3]
 refine (d0n (l:=q0d 1) (rows:=c0k 1 1) ⟨[_,_,_,_],rfl,_,_,_,_,rfl,(by exact ⟨rfl,rfl,rfl⟩),(by exact ⟨rfl,rfl,rfl⟩),Sls.nil,Sls.nil⟩ ⟨s,rfl,kT⟩ (by have:=hx.1;omega) (by decide) x0Y.2).mono ?_
 rintro vB G4 ⟨kB,hx2⟩
 replace b2:=hx2.blk b2
 replace b3:=hx2.blk b3
 replace kT:=kT.mono b0H hx2
 replace hx:=hx.trans hx2
 have kB':c0b G4 vB [[g0u,g0u]]:=by
  have e:List.replicate (q0d 1).nl (List.replicate (c0k 1 1).length g0u)=[[g0u,g0u]]:=by rw [f0o];rfl
  rw [e] at kB;exact kB
 simp
 refine (p0t (rows:=c0k 1 1) (d:=[[g0u,g0u]]) (ns:=1) z1 z2 ⟨s,rfl,kT⟩ kB' (by have:=hx.1;omega) x0Y F0r I0U (by decide)).mono ?_
 rintro _ G5 ⟨⟨q,rfl,kq⟩,hx2⟩
 replace hx:=hx.trans hx2
 rw [I0V] at kq
 simp [K0p]
 refine (r0f hx.1).mono ?_
 rintro _ G6 ⟨rfl,hx2⟩
 replace kq:=kq.mono d0r hx2
 have zq:d0j q=some (.int .i64 1):=kq.slen
 have i0:iaV 1 q (.int .i64 0)=some (adr 1 q 0):=kq.ia (j:=0) (by simp)
 obtain ⟨w0,hw,kw⟩:=c0b.load kq (j:=0) (by simp)
 have zw:d0j w0=some (.int .i64 2):=kw.slen
 have j0:iaV 5 w0 (.int .i64 0)=some (adr 5 w0 0):=kw.ia (j:=0) (by simp)
 have j1:iaV 5 w0 (.int .i64 1)=some (adr 5 w0 1):=kw.ia (j:=1) (by simp)
 obtain ⟨b,o,cs,ha,hcl,⟨s1,s2,hcs,_,_⟩,hat⟩:=kw.atX (j:=0) (by simp) (by decide)
 obtain ⟨b',o',cs',ha',hcl',⟨s1',s2',hcs',_,_⟩,hat'⟩:=kw.atX (j:=1) (by simp) (by decide)
 have hcs2:cs=[.int .i64 1,.bool false,s1,.bool false,s2]:=by simpa [m0l] using T0f (fun v=>match v with | Value.agg a=>a.toList | _=>[]) hcs
 have hcs2':cs' = [.int .i64 1,.bool false,s1',.bool false,s2']:=by simpa [m0l] using T0f (fun v=>match v with | Value.agg a=>a.toList | _=>[]) hcs'
 subst hcs2 hcs2'
 have c0:=(hat _ (Ext.refl _)).2 0 (by decide)
 have c1:=(hat' _ (Ext.refl _)).2 0 (by decide)
 simp at c0 c1
 simp [zq,i0,hw,zw,j0,j1,ha,ha',c0,c1]
theorem c0w.short {l:List b0B} (h:c0w H v l) (k:c0L e0D l=false):Few 6 l:=by
 intro y hy
 obtain ⟨i,hi,rfl⟩:=S0X hy
 obtain ⟨w,_,s,t,_,h1,h2⟩:=c0w.load h hi
 have h3:=List.any_eq_false.1 k _ hy
 unfold e0D at h3
 simp at h3
 exact ⟨by unfold e0g;omega,h1.ok,h2.ok⟩
theorem f0v.short {l:List (List b0B)} (h:f0v H v l) (k:F0K l):F0I l:=by
 refine ⟨fun r hr=>?_,k.1⟩
 have hk2:=k.2 r hr
 obtain ⟨i,hi,rfl⟩:=S0X hr
 obtain ⟨w,_,hk⟩:=f0v.load h hi
 exact ⟨c0w.short hk hk2.2,by omega⟩
theorem w0D (rows:List (List b0B)):v0U (h0S rows):=by
 intro x hx
 obtain ⟨r,_,rfl⟩:=List.mem_map.1 hx
 unfold k0k
 split
 ·decide
 ·show e0g (a0G 0) < 67108864
  rw [h0g,show (0:Rat)=((0:Int):Rat) from rfl,v0P]
  have:=w0M (z:=0) (k:=1) (by decide)
  omega
theorem j0r {l:l0r} {rows:List (List b0B)} {d:List (List d0d)} (h:m0w H v l) (ht:c0C H w rows) (hd:c0b H u d) (hf:fl≤H.size) :
  a0N env fl f_3 [v,w,u] H (fun r H'=>r=.bool true∧Ext H H') R:=by
 obtain ⟨cs,rfl,sL,sS,sE,sV,rfl,hL,hS,hE,hV⟩:=h
 obtain ⟨s,rfl,hs⟩:=ht
 refine a0d e_3 hf (h:=?_)
 intro ρ h0
 simp [s_3,J0r,h0,hL.2.1,hS.2.1,hE.cells,hV.cells,hs.cells]
 generalize hGG:Array.push (Array.push H _) _=G
 obtain ⟨hx,b0,b1,hsz⟩:=p0L hGG
 clear hGG
 have lL:=hL.1
 have lowV:∀ G,Ext H G→m0w G (.agg #[sL,sS,sE,sV]) l:=fun G hx=>⟨[sL,sS,sE,sV],rfl,sL,sS,sE,sV,rfl,hL,hS,hE.mono i0L hx,hV.mono i0M hx⟩
 have tempV:∀ G,Ext H G→c0C G (.agg #[s]) rows:=fun G hx=>⟨s,rfl,hs.mono b0H hx⟩
 simp [J0s,b0]
 refine (k0g (lowV _ hx) hx.1).mono ?_
 rintro _ G2 ⟨⟨c,rfl,hg⟩,hx2⟩
 replace b0:=hx2.blk b0
 replace b1:=hx2.blk b1
 replace hx:=hx.trans hx2
 clear hx2
 cases c
 case true =>
  simp [w0V]
  refine (c0u (by have:=hx.1;omega)).mono ?_
  rintro _ GA ⟨rfl,hxA⟩
  simp
 replace hg:=hg rfl
 simp [b1]
 refine (m0v (hs.mono b0H hx) hx.1).mono ?_
 rintro _ G3 ⟨⟨c,rfl,hr⟩,hx2⟩
 replace b0:=hx2.blk b0
 replace b1:=hx2.blk b1
 replace hx:=hx.trans hx2
 clear hx2
 cases c
 case true =>
  simp [w0V]
  refine (c0u (by have:=hx.1;omega)).mono ?_
  rintro _ GA ⟨rfl,hxA⟩
  simp
 replace hr:=hs.short (hr rfl)
 by_cases h1:60 < d.length
 ·have h1':(60:Int) < (d.length:Int):=by omega
  simp [h0,hd.slen,h1,h1',w0V]
  refine (c0u (by have:=hx.1;omega)).mono ?_
  rintro _ GA ⟨rfl,hxA⟩
  simp
 have h1':¬ (60:Int) < (d.length:Int):=by omega
 simp [h0,hd.slen,h1,h1',J0w]
 refine b0D (fun i ρ G=>ρ 2=u∧ρ 3=.pointer (some ⟨H.size,0,none⟩)∧ρ 4=.pointer (some ⟨H.size + 1,0,none⟩)∧ρ 7=.int .i64 (i:Int)∧Ext H G∧a0c.blk G H.size=.row false b0f [sL,sS,sE,sV]∧a0c.blk G (H.size + 1)=.row false a0i [s]∧∀ x ∈ d.take i,v0U x∧x.length < 1073741824) d.length (by decide) ?_ ?_
 ·exact ⟨by simp [h0],by simp,by simp,by simp,hx,b0,b1,fun x hx=>by simp at hx⟩
 clear h0 hx b0 b1 ρ
 rintro i ρ G hi1 ⟨g2,g3,g4,g7,hx,b0,b1,hq⟩
 have k:=hd.mono d0r hx
 simp [J0x,g2,g7,k.slen]
 refine c0i.mk (by simp) (fun hlt=>?_) (fun heq=>?_)
 ·obtain ⟨w,hw,kw⟩:=c0b.load k hlt
  simp [J0y,g2,g7,k.ia hlt,hw]
  refine (m0u kw hx.1).mono ?_
  rintro _ G2 ⟨rfl,hx2⟩
  replace b0:=hx2.blk b0
  replace b1:=hx2.blk b1
  replace hx:=hx.trans hx2
  clear hx2
  by_cases q1:100 < d[i].length
  ·simp [q1,G0c]
   refine (c0u (by have:=hx.1;omega)).mono ?_
   rintro _ GA ⟨rfl,hxA⟩
   simp
  cases q2:c0L g0z d[i]
  case true =>
   simp [G0c]
   refine (c0u (by have:=hx.1;omega)).mono ?_
   rintro _ GA ⟨rfl,hxA⟩
   simp
  simp [q1]
  unfold d0l
  simp [J0z,g7,a0D (show i < 4611686018427387904 by omega)]
  refine b0u.mk ⟨by simp [g2],by simp [g3],by simp [g4],by simp,hx,b0,b1,fun x hx=>?_⟩
  rw [R0l hlt] at hx
  rcases R0v.1 hx with hx | hx
  ·exact hq x hx
  ·rw [R0U.1 hx];exact ⟨I0L q2,by omega⟩
 ·subst heq
  rw [Q0Z] at hq
  have hfd:I0K d:=⟨by omega,hq⟩
  clear k
  refine a0Y ?_
  simp [J0A,g2,g3,g4,b0,b1]
  refine (f0Q (lowV _ hx) (tempV _ hx) (hd.mono d0r hx) (by have:=hx.1;omega) hg hr hfd).mono ?_
  rintro _ G2 ⟨rfl,hx2⟩
  replace b0:=hx2.blk b0
  replace b1:=hx2.blk b1
  replace hx:=hx.trans hx2
  clear hx2
  simp [g2,g3,g4,b0,b1]
  refine (l0Z (lowV _ hx) (tempV _ hx) (hd.mono d0r hx) (by have:=hx.1;omega) hg hr hfd).mono ?_
  rintro _ G2 ⟨rfl,hx2⟩
  replace b0:=hx2.blk b0
  replace b1:=hx2.blk b1
  replace hx:=hx.trans hx2
  clear hx2
  generalize x0T l rows d=ok
  have hneq:b0X 1 .neq (.bool ok) (.bool ok)=some (.bool false):=by cases ok <;> rfl
  simp [g2,g3,g4,b0,b1,hneq]
  refine (f0P (tempV _ hx) (by have:=hx.1;omega) hr.1 (by have:=hr.2;omega)).mono ?_
  rintro q1 G2 ⟨o1,hx2⟩
  have k1:c0R G2 q1 (h0S rows):=o1.sls
  replace b0:=hx2.blk b0
  replace b1:=hx2.blk b1
  replace hx:=hx.trans hx2
  clear hx2
  simp [g4,b1]
  refine (j0E (tempV _ hx) (by have:=hx.1;omega) hr.1 (by have:=hr.2;omega)).mono ?_
  rintro q2 G3 ⟨o2,hx2⟩
  replace k1:=k1.mono d0A hx2
  have k2:c0R G3 q2 (h0S rows):=o2.sls
  replace b0:=hx2.blk b0
  replace b1:=hx2.blk b1
  replace hx:=hx.trans hx2
  clear hx2
  simp
  refine (k0h k1 k2 (by have:=hx.1;omega) (w0D rows) (by unfold h0S;simp;have:=hr.2;omega)).mono ?_
  rintro _ G4 ⟨rfl,hx2⟩
  replace b0:=hx2.blk b0
  replace b1:=hx2.blk b1
  replace hx:=hx.trans hx2
  clear hx2
  clear o1 o2 k1 k2
  simp [A0K,g3,g4,b0,b1]
  refine (d0n (lowV _ hx) (tempV _ hx) hx.1 hg.1 hr.2).mono ?_
  rintro vB G5 ⟨kB,hx2⟩
  replace b0:=hx2.blk b0
  replace b1:=hx2.blk b1
  replace hx:=hx.trans hx2
  clear hx2
  have lB:d0j vB=some (.int .i64 (l.nl:Int)):=by have:=kB.slen;rw [R0J] at this;exact this
  have ls:=hs.slen
  simp [A0L,A0M,g3,b0,lB,lL]
  refine b0D (fun i ρ G=>ρ 4=.pointer (some ⟨H.size + 1,0,none⟩)∧ρ 8=vB∧ρ 9=.int .i64 (i:Int)∧Ext G5 G∧a0c.blk G (H.size + 1)=.row false a0i [s]) l.nl (by decide) ?_ ?_
  ·exact ⟨by simp [g4],by simp,by simp,Ext.refl _,b1⟩
  clear g2 g3 g4 g7 b0 b1 ρ
  rintro i ρ G hi1 ⟨g4,g8,g9,hy,b1⟩
  have wi:=a0D (show i < 4611686018427387904 by have:=hg.1;omega)
  simp [A0N,g8,g9,lB]
  refine c0i.mk (by simp) (fun hlt=>?_) (fun heq=>?_)
  ·have hir:i < (List.replicate l.nl (List.replicate rows.length g0u)).length:=by rw [R0J];exact hlt
   have k:=kB.mono d0r hy
   obtain ⟨w,hw,kw⟩:=c0b.load k hir
   rw [S0u] at kw
   have lw:d0j w=some (.int .i64 (rows.length:Int)):=by have:=kw.slen;rw [R0J] at this;exact this
   refine e0c (e0c (a0Y ?_))
   simp [A0O,A0P,g4,g8,g9,k.ia hir,hw,lw,b1,ls]
   refine q0m (fun j ρ G=>ρ 4=.pointer (some ⟨H.size + 1,0,none⟩)∧ρ 8=vB∧ρ 9=.int .i64 (i:Int)∧ρ 10=.int .i64 (j:Int)∧Ext G5 G∧a0c.blk G (H.size + 1)=.row false a0i [s]) rows.length (by decide) ?_ ?_
   ·exact ⟨by simp [g4],by simp [g8],by simp [g9],by simp,hy,b1⟩
   clear g4 g8 g9 hy b1 k kw hw ρ G
   rintro j ρ G hj1 ⟨g4,g8,g9,g10,hy,b1⟩
   have k:=kB.mono d0r hy
   obtain ⟨w,hw,kw⟩:=c0b.load k hir
   rw [S0u] at kw
   have lw:d0j w=some (.int .i64 (rows.length:Int)):=by have:=kw.slen;rw [R0J] at this;exact this
   simp [A0Q,g8,g9,g10,k.ia hir,hw,lw]
   refine c0i.mk (by simp) (fun hj=>?_) (fun heq=>?_)
   ·have hjr:j < (List.replicate rows.length g0u).length:=by rw [R0J];exact hj
    obtain ⟨x,hl,k0⟩:=c0R.load kw hjr
    rw [S0u] at k0
    simp [A0R,g8,g9,g10,k.ia hir,hw,kw.ia hjr,hl]
    refine (h0D (a:=g0u) (b:=g0u) k0 ⟨_,_,rfl,Lim.nil,Lim.nil⟩ (by have:=hx.1;have:=hy.1;omega) (by decide)).mono ?_
    rintro _ G6 ⟨rfl,hx2⟩
    simp
    unfold d0l
    simp [A0S,g10,a0D (show j < 4611686018427387904 by have:=hr.2;omega)]
    exact b0u.mk ⟨by simp [g4],by simp [g8],by simp [g9],by simp,hy.trans hx2,hx2.blk b1⟩
   ·unfold d0l
    simp [A0T,g9,wi]
    exact b0u.mk ⟨by simp [g4],by simp [g8],by simp,hy,b1⟩
  ·simp [A0U]
   refine (c0u (by have:=hx.1;have:=hy.1;omega)).mono ?_
   rintro _ GA ⟨rfl,hxA⟩
   simp
end
end Go.Proofs.YtacninhfdfhgjaaGreat.AI
