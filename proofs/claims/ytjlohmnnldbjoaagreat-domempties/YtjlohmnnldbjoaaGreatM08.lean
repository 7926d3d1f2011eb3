/- Part 9 of the proof: AiRefB9, AiRefC3, AiRefB5, AiRefB6, AiRefB7, AiRefB8, AiRefC1, AiRefC2, AiRefC4, AiRefC5, AiRefC6, AiRefC7, AiLp1, AiSx1, AiSx2. -/
import Derived.Test.YtjlohmnnldbjoaaGreatM06
import Derived.Test.YtjlohmnnldbjoaaGreatM07
set_option linter.unusedVariables false
set_option linter.unusedSimpArgs false
set_option linter.unusedSectionVars false
namespace Go.Proofs.YtjlohmnnldbjoaaGreat.AI
section
open Go
set_option maxHeartbeats 4000000
variable {fl:Nat} {H G:a0f} {R:a0G} {v w:Value} {i j:Bool × List Nat}
theorem m0B (h:b0d H v i) (k:b0d H w j) (hf:fl≤H.size) (hn:i.2.length < 268435456) (hm:j.2.length < 268435456) (hj0:a0z j ≠ 0) :
  a0S env fl y0l [v,w] H (fun r H'=>(∃ q m,r=.tuple #[q,m,.int .i64 0]∧b0d H' q (a0j ((a0z i).tdiv (a0z j)))∧b0d H' m (a0j ((a0z i).tmod (a0z j))))∧Ext H H') R:=by
 have k0:=h
 have k1:=k
 have hok:=h.ok
 have hok2:=k.ok
 obtain ⟨s,rfl,hs⟩:=h
 obtain ⟨u,rfl,hu⟩:=k
 refine a0i e1l hf (h:=?_)
 intro ρ h0
 simp [M0E,E0L,h0,hs.cells,hu.cells]
 generalize hG:Array.push (Array.push (Array.push (Array.push H _) _) _) _=G
 have hx2:Ext H G:=by rw [← hG];exact (Ext.refl H).push.push.push.push
 have b0:a0f.blk G H.size=.row false a0a [.bool i.1,s]:=by rw [← hG];simp
 have b1:a0f.blk G (H.size + 1)=.row false a0a [.bool j.1,u]:=by rw [← hG];simp
 have b2:a0f.blk G (H.size + 2)=.row false a0a [.bool false,.slice none 0 0]:=by rw [← hG];simp
 have b3:a0f.blk G (H.size + 3)=.row false a0a [.bool false,.slice none 0 0]:=by rw [← hG];simp
 have hx:=Ext.refl H
 clear hG
 replace hx:=hx.trans hx2;replace k0:=k0.mono hx2;replace k1:=k1.mono hx2
 simp [E0M,b0]
 refine (b0Q k0 hx.1 (by omega)).mono ?_
 rintro _ G2 ⟨⟨s1,rfl,k2⟩,hx2⟩
 replace b0:=hx2.blk b0;replace b1:=hx2.blk b1;replace b2:=hx2.blk b2;replace b3:=hx2.blk b3;replace hx:=hx.trans hx2;replace k0:=k0.mono hx2;replace k1:=k1.mono hx2
 have hsz:=hx.1
 simp [b0,k2.cells,k2.plain,hsz]
 generalize hS:Array.setIfInBounds G2 _ _=G3
 have hsz:=hx.1;replace k0:=k0.setS hS b0 (by decide);replace k1:=k1.setS hS b0 (by decide);replace k2:=k2.setS hS b0 (by decide);replace b1:=a0o hS b1 (by omega);replace b2:=a0o hS b2 (by omega);replace b3:=a0o hS b3 (by omega);replace hx:=a0E hS hx (by omega);replace b0:=a0s hS b0;clear hS hsz
 simp [E0N,b1]
 refine (b0Q k1 hx.1 (by omega)).mono ?_
 rintro _ G2 ⟨⟨s2,rfl,k3⟩,hx2⟩
 replace b0:=hx2.blk b0;replace b1:=hx2.blk b1;replace b2:=hx2.blk b2;replace b3:=hx2.blk b3;replace hx:=hx.trans hx2;replace k0:=k0.mono hx2;replace k1:=k1.mono hx2;replace k2:=k2.mono hx2
 have hsz:=hx.1
 simp [b1,k3.cells,k3.plain,hsz]
 generalize hS:Array.setIfInBounds G2 _ _=G4
 have hsz:=hx.1;replace k0:=k0.setS hS b1 (by decide);replace k1:=k1.setS hS b1 (by decide);replace k2:=k2.setS hS b1 (by decide);replace k3:=k3.setS hS b1 (by decide);replace b0:=a0o hS b0 (by omega);replace b2:=a0o hS b2 (by omega);replace b3:=a0o hS b3 (by omega);replace hx:=a0E hS hx (by omega);replace b1:=a0s hS b1;clear hS hsz
 clear k0 k1
 have hl:=a0v hok
 have hl2:=a0v hok2
 obtain ⟨x,hx'⟩:∃ x,a0z i=x:=⟨_,rfl⟩
 obtain ⟨y,hy'⟩:∃ y,a0z j=y:=⟨_,rfl⟩
 rw [hx'] at b0 k2 hl ⊢
 rw [hy'] at b1 k3 hl2 hj0 ⊢
 have hpos:0 < y.natAbs:=by omega
 have hne:¬ a0p y.natAbs=[]:=by intro h;have:=c0k hpos;rw [h] at this;simp at this
 have c1:(a0j x).1=decide (x < 0):=rfl
 have c2:(a0j y).1=decide (y < 0):=rfl
 rw [c1] at b0
 rw [c2] at b1
 have hsl:i0r s2=some (.int .i64 ((a0p y.natAbs).length:Int)):=k3.slen
 have k2':Lim G4 s1 (a0p x.natAbs):=k2
 have k3':Lim G4 s2 (a0p y.natAbs):=k3
 clear k2 k3
 simp [E0O,b1,hsl,hne,E0P,b0]
 refine (i0H k2' k3' hpos hx.1 (by omega) (by omega)).mono ?_
 rintro _ G2 ⟨⟨p,q,rfl,k4,k5⟩,hx2⟩
 replace b0:=hx2.blk b0;replace b1:=hx2.blk b1;replace b2:=hx2.blk b2;replace b3:=hx2.blk b3;replace hx:=hx.trans hx2
 have e1:=p0k x y
 have e2:=p0l x y
 have e3:(a0p (x.natAbs / y.natAbs)).length≤(a0p x.natAbs).length:=a0V (i1M _ _)
 have e4:(a0p (x.natAbs % y.natAbs)).length≤(a0p y.natAbs).length:=a0V (j1Y (i1X _ hpos))
 simp
 refine a0B ?_
 simp [E0Q,b0,b1]
 refine (c0e (x.tdiv y) k4 (by have:=hx.1;omega) (by omega) (by rw [a0q,← e1])).mono ?_
 rintro _ G5 ⟨⟨s3,rfl,k6⟩,hx2⟩
 replace b0:=hx2.blk b0;replace b1:=hx2.blk b1;replace b2:=hx2.blk b2;replace b3:=hx2.blk b3;replace hx:=hx.trans hx2;replace k4:=k4.mono hx2;replace k5:=k5.mono hx2
 simp [b0]
 refine (c0e (x.tmod y) k5 hx.1 (by omega) (by rw [a0q,← e2])).mono ?_
 rintro _ G5 ⟨⟨s4,rfl,k7⟩,hx2⟩
 replace b0:=hx2.blk b0;replace b1:=hx2.blk b1;replace b2:=hx2.blk b2;replace b3:=hx2.blk b3;replace hx:=hx.trans hx2;replace k4:=k4.mono hx2;replace k5:=k5.mono hx2;replace k6:=k6.mono hx2
 have hsz:=hx.1
 simp [b2,k6.cells,k6.plain,hsz]
 generalize hS:Array.setIfInBounds G5 _ _=G6
 have hsz:=hx.1;replace k4:=k4.setS hS b2 (by decide);replace k5:=k5.setS hS b2 (by decide);replace k6:=k6.setS hS b2 (by decide);replace k7:=k7.setS hS b2 (by decide);replace b0:=a0o hS b0 (by omega);replace b1:=a0o hS b1 (by omega);replace b3:=a0o hS b3 (by omega);replace hx:=a0E hS hx (by omega);replace b2:=a0s hS b2;clear hS hsz
 have hsz:=hx.1
 have hz3:=a0l b3
 simp [b2,b3,k7.cells,k7.plain,hsz,hz3]
 exact fun _=>⟨_,_,⟨rfl,rfl⟩,⟨s3,rfl,k6.setT b3 (by decide)⟩,⟨s4,rfl,k7.setT b3 (by decide)⟩⟩
theorem e0I {n:Int} (hf:fl≤H.size) (h1:-9223372036854775808≤n) (h2:n < 9223372036854775808):a0S env fl N0K [.int .i64 n] H (fun r H'=>b0L H' r (a0e n)∧Ext H H') R:=by
 refine a0i g1a hf (h:=?_)
 intro ρ h0
 simp [b1t,O0c,O0d,h0]
 generalize hG:Array.push H _=G
 obtain ⟨hx2,b0⟩:=g0r hG
 have hx:=Ext.refl H
 clear hG
 replace hx:=hx.trans hx2
 refine (k0B hx.1 h1 h2).mono ?_
 rintro _ G2 ⟨⟨s1,rfl,k1⟩,hx2⟩
 replace b0:=hx2.blk b0;replace hx:=hx.trans hx2
 simp
 refine (k0B hx.1 (by omega) (by omega)).mono ?_
 rintro _ G2 ⟨⟨s2,rfl,k2⟩,hx2⟩
 replace b0:=hx2.blk b0;replace hx:=hx.trans hx2;replace k1:=k1.mono hx2
 have hsz:=hx.1
 simp [b0,k1.cells,k1.plain,k2.cells,k2.plain,hsz,b0t]
 generalize hS:Array.setIfInBounds G2 _ _=G5
 have hsz:=hx.1;replace k1:=k1.setS hS b0 (by decide);replace k2:=k2.setS hS b0 (by decide);replace hx:=a0E hS hx (by omega);replace b0:=a0s hS b0;clear hS hsz
 simp [b0]
 have hc:a0e (n:Rat)=(a0j n,a0j 1):=by
  unfold a0e;rw [k1A,k1y];rfl
 rw [hc]
 exact fun _=>⟨s1,s2,rfl,k1,k2⟩
theorem m0C (h:b0d H v i) (k:b0d H w j) (hf:fl≤H.size) (hn:i.2.length < 268435456) (hm:j.2.length < 268435456) (hj0:a0z j ≠ 0) :
  a0S env fl y0d [v,w] H (fun r H'=>(∃ q,r=.tuple #[q,.int .i64 0]∧b0L H' q (a0e (Rat.divInt (a0z i) (a0z j))))∧Ext H H') R:=by
 have k0:=h
 have k1:=k
 have hok:=h.ok
 have hok2:=k.ok
 obtain ⟨s,rfl,hs⟩:=h
 obtain ⟨u,rfl,hu⟩:=k
 refine a0i d1O hf (h:=?_)
 intro ρ h0
 simp [M0h,C0F,h0,hs.cells,hu.cells]
 generalize hG:Array.push (Array.push (Array.push H _) _) _=G
 have hx2:Ext H G:=by rw [← hG];exact (Ext.refl H).push.push.push
 have b0:a0f.blk G H.size=.row false a0a [.bool i.1,s]:=by rw [← hG];simp
 have b1:a0f.blk G (H.size + 1)=.row false a0a [.bool j.1,u]:=by rw [← hG];simp
 have b2:a0f.blk G (H.size + 2)=.row false a0b [.bool false,.slice none 0 0,.bool false,.slice none 0 0]:=by rw [← hG];simp
 have hx:=Ext.refl H
 clear hG
 replace hx:=hx.trans hx2;replace k0:=k0.mono hx2;replace k1:=k1.mono hx2
 simp [C0G,b0]
 refine (b0Q k0 hx.1 (by omega)).mono ?_
 rintro _ G2 ⟨⟨s1,rfl,k2⟩,hx2⟩
 replace b0:=hx2.blk b0;replace b1:=hx2.blk b1;replace b2:=hx2.blk b2;replace hx:=hx.trans hx2;replace k0:=k0.mono hx2;replace k1:=k1.mono hx2
 have hsz:=hx.1
 simp [b0,k2.cells,k2.plain,hsz]
 generalize hS:Array.setIfInBounds G2 _ _=G3
 have hsz:=hx.1;replace k0:=k0.setS hS b0 (by decide);replace k1:=k1.setS hS b0 (by decide);replace k2:=k2.setS hS b0 (by decide);replace b1:=a0o hS b1 (by omega);replace b2:=a0o hS b2 (by omega);replace hx:=a0E hS hx (by omega);replace b0:=a0s hS b0;clear hS hsz
 simp [C0H,b1]
 refine (b0Q k1 hx.1 (by omega)).mono ?_
 rintro _ G2 ⟨⟨s2,rfl,k3⟩,hx2⟩
 replace b0:=hx2.blk b0;replace b1:=hx2.blk b1;replace b2:=hx2.blk b2;replace hx:=hx.trans hx2;replace k0:=k0.mono hx2;replace k1:=k1.mono hx2;replace k2:=k2.mono hx2
 have hsz:=hx.1
 simp [b1,k3.cells,k3.plain,hsz]
 generalize hS:Array.setIfInBounds G2 _ _=G4
 have hsz:=hx.1;replace k0:=k0.setS hS b1 (by decide);replace k1:=k1.setS hS b1 (by decide);replace k2:=k2.setS hS b1 (by decide);replace k3:=k3.setS hS b1 (by decide);replace b0:=a0o hS b0 (by omega);replace b2:=a0o hS b2 (by omega);replace hx:=a0E hS hx (by omega);replace b1:=a0s hS b1;clear hS hsz
 clear k0 k1
 have hl:=a0v hok
 have hl2:=a0v hok2
 obtain ⟨x,hx'⟩:∃ x,a0z i=x:=⟨_,rfl⟩
 obtain ⟨y,hy'⟩:∃ y,a0z j=y:=⟨_,rfl⟩
 rw [hx'] at b0 k2 hl ⊢
 rw [hy'] at b1 k3 hl2 hj0 ⊢
 have hpos:0 < y.natAbs:=by omega
 have hne:¬ a0p y.natAbs=[]:=by intro h;have:=c0k hpos;rw [h] at this;simp at this
 have hsl:i0r s2=some (.int .i64 ((a0p y.natAbs).length:Int)):=k3.slen
 have k4:b0d G4 (.agg #[.bool (a0j x).1,s1]) (a0j x):=⟨s1,rfl,k2⟩
 have k5:b0d G4 (.agg #[.bool (a0j y).1,s2]) (a0j y):=⟨s2,rfl,k3⟩
 clear k2 k3
 have lx:(a0j x).2.length=lz x:=rfl
 have ly:(a0j y).2.length=lz y:=rfl
 change lz x≤_ at hl
 change lz y≤_ at hl2
 have hgl:lz (Int.gcd x y:Int)≤lz y:=by
  have h5:Int.gcd x y≤y.natAbs:=j1P _ hj0
  exact a0V (by simpa using h5)
 simp [C0I,b1,hsl,hne,C0J,b0]
 refine (i0Z k4 k5 hx.1 (by omega) (by omega)).mono ?_
 rintro _ G2 ⟨⟨s3,rfl,k6⟩,hx2⟩
 replace b0:=hx2.blk b0;replace b1:=hx2.blk b1;replace b2:=hx2.blk b2;replace hx:=hx.trans hx2;replace k4:=k4.mono hx2;replace k5:=k5.mono hx2
 rw [a0h,a0h] at k6 ⊢
 have hsz:=hx.1
 simp [k6.cells,k6.plain,hsz]
 generalize hN:Array.setIfInBounds (Array.push _ _) _ _=G3
 obtain ⟨hx2,b3⟩:=new1 hN
 have hb2l:=a0l b2
 clear hN
 replace b0:=hx2.blk b0;replace b1:=hx2.blk b1;replace b2:=hx2.blk b2;replace hx:=hx.trans hx2;replace k4:=k4.mono hx2;replace k5:=k5.mono hx2;replace k6:=k6.mono hx2
 obtain ⟨P,hP⟩:∃ P,P=G2.size:=⟨_,rfl⟩
 rw [← hP] at b3 hsz hb2l ⊢
 obtain ⟨g,hg⟩:∃ g:Int,g=(Int.gcd x y:Int):=⟨_,rfl⟩
 rw [← hg] at k6 b3 hgl ⊢
 have hg0:g ≠ 0:=by
  have:=Int.gcd_pos_of_ne_zero_right x hj0
  omega
 have k7:b0d G3 (.agg #[.bool (a0j g).1,s3]) (a0j g):=⟨s3,rfl,k6⟩
 have lg:(a0j g).2.length=lz g:=rfl
 clear k6
 have hdx:lz (x.tdiv g)≤lz x:=m0m (by rw [Int.natAbs_tdiv];exact i1M _ _)
 have hdy:lz (y.tdiv g)≤lz y:=m0m (by rw [Int.natAbs_tdiv];exact i1M _ _)
 simp [C0K,b0,b3]
 refine (m0B k4 k7 hx.1 (by omega) (by omega) (by rw [a0h];exact hg0)).mono ?_
 rintro _ G2 ⟨⟨_,_,rfl,⟨s4,rfl,k0⟩,⟨s5,rfl,k1⟩⟩,hx2⟩
 replace b0:=hx2.blk b0;replace b1:=hx2.blk b1;replace b2:=hx2.blk b2;replace b3:=hx2.blk b3;replace hx:=hx.trans hx2;replace k4:=k4.mono hx2;replace k5:=k5.mono hx2;replace k7:=k7.mono hx2
 rw [a0h,a0h] at k0 k1 ⊢
 generalize x.tmod g=m1 at k1 ⊢
 have hsz:=hx.1
 have hb3l:=a0l b3
 have hsz':H.size≤G2.size + 1:=by omega
 simp [k0.cells,k0.plain,k1.cells,k1.plain,hsz,hsz']
 generalize hN:Array.setIfInBounds _ (Array.size G2 + 1) _=G5
 obtain ⟨hx2,b4⟩:Ext G2 G5∧a0f.blk G5 G2.size=.row false a0a [.bool (a0j (x.tdiv g)).1,s4]:=by
  rw [← hN]
  exact ⟨((Ext.refl G2).push.push.set (h1A _)).set (Nat.le_succ _),by rw [b0h (Nat.succ_ne_self _),a0A (by simp)]⟩
 clear hN k1
 replace b0:=hx2.blk b0;replace b1:=hx2.blk b1;replace b2:=hx2.blk b2;replace b3:=hx2.blk b3;replace hx:=hx.trans hx2;replace k0:=k0.mono hx2;replace k4:=k4.mono hx2;replace k5:=k5.mono hx2;replace k7:=k7.mono hx2
 obtain ⟨P4,hP4⟩:∃ P,P=G2.size:=⟨_,rfl⟩
 rw [← hP4] at b4 hsz hb3l ⊢
 simp [C0L,b1,b3]
 refine (m0B k5 k7 hx.1 (by omega) (by omega) (by rw [a0h];exact hg0)).mono ?_
 rintro _ G6 ⟨⟨_,_,rfl,⟨s6,rfl,k1⟩,⟨s7,rfl,k2⟩⟩,hx2⟩
 replace b0:=hx2.blk b0;replace b1:=hx2.blk b1;replace b2:=hx2.blk b2;replace b3:=hx2.blk b3;replace b4:=hx2.blk b4;replace hx:=hx.trans hx2;replace k0:=k0.mono hx2;replace k4:=k4.mono hx2;replace k5:=k5.mono hx2;replace k7:=k7.mono hx2
 rw [a0h,a0h] at k1 k2 ⊢
 generalize y.tmod g=m2 at k2 ⊢
 have hsz2:=hx.1
 have hb4l:=a0l b4
 have hsz':H.size≤G6.size + 1:=by omega
 simp [k1.cells,k1.plain,k2.cells,k2.plain,hsz2,hsz']
 generalize hN:Array.setIfInBounds _ (Array.size G6 + 1) _=G7
 obtain ⟨hx2,b5⟩:Ext G6 G7∧a0f.blk G7 G6.size=.row false a0a [.bool (a0j (y.tdiv g)).1,s6]:=by
  rw [← hN]
  exact ⟨((Ext.refl G6).push.push.set (h1A _)).set (Nat.le_succ _),by rw [b0h (Nat.succ_ne_self _),a0A (by simp)]⟩
 clear hN k2
 replace b0:=hx2.blk b0;replace b1:=hx2.blk b1;replace b2:=hx2.blk b2;replace b3:=hx2.blk b3;replace b4:=hx2.blk b4;replace hx:=hx.trans hx2;replace k0:=k0.mono hx2;replace k1:=k1.mono hx2;replace k4:=k4.mono hx2;replace k5:=k5.mono hx2;replace k7:=k7.mono hx2
 obtain ⟨P5,hP5⟩:∃ P,P=G6.size:=⟨_,rfl⟩
 rw [← hP5] at b5 hsz2 hb4l ⊢
 have j4:b0d G7 (.agg #[.bool (a0j (x.tdiv g)).1,s4]) (a0j (x.tdiv g)):=⟨s4,rfl,k0⟩
 have j5:b0d G7 (.agg #[.bool (a0j (y.tdiv g)).1,s6]) (a0j (y.tdiv g)):=⟨s6,rfl,k1⟩
 have cy:(a0j (y.tdiv g)).1=decide (y.tdiv g < 0):=rfl
 obtain ⟨g',hg'⟩:∃ g',g' = if y < 0 then -(Int.gcd x y:Int) else (Int.gcd x y:Int):=⟨_,rfl⟩
 obtain ⟨hq,hg0'⟩:=s0l (p:=x) hj0 hg'
 rw [hq]
 have hgpos:0 < g:=by omega
 have hsg:y.tdiv g < 0 ↔ y < 0:=by
  have e2:y.tdiv g * g=y:=Int.tdiv_mul_cancel (by rw [hg];exact k1c ..)
  constructor
  ·intro h
   rw [← e2];exact Int.mul_neg_of_neg_of_pos h hgpos
  ·intro h
   by_cases h2:y.tdiv g < 0
   ·exact h2
   ·have:=j1T (show 0≤y.tdiv g by omega) (show 0≤g by omega);omega
 simp [C0M,b5]
 by_cases hneg:y < 0
 ·rw [h1F hneg,← hg] at hg'
  have c1:decide (y.tdiv g < 0)=true:=by simp [hsg,hneg]
  rw [cy,c1]
  have cl1:(a0j (x.tdiv g)).2.length=lz (x.tdiv g):=rfl
  have cl2:(a0j (y.tdiv g)).2.length=lz (y.tdiv g):=rfl
  simp [C0N,b4]
  refine (j0a j4 hx.1 (by omega)).mono ?_
  rintro _ G2 ⟨⟨s8,rfl,k2⟩,hx2⟩
  replace j5:=j5.mono hx2
  replace b0:=hx2.blk b0;replace b1:=hx2.blk b1;replace b2:=hx2.blk b2;replace b3:=hx2.blk b3;replace b4:=hx2.blk b4;replace b5:=hx2.blk b5;replace hx:=hx.trans hx2;replace k0:=k0.mono hx2;replace k1:=k1.mono hx2;replace k4:=k4.mono hx2;replace k5:=k5.mono hx2;replace k7:=k7.mono hx2
  rw [a0h] at k2 ⊢
  have hb4l':=a0l b4
  simp [b4,k2.cells,k2.plain,hsz]
  generalize hS:Array.setIfInBounds G2 _ _=G8
  replace j5:=j5.setS hS b4 (by decide)
  have hsz:=hx.1;replace k0:=k0.setS hS b4 (by decide);replace k1:=k1.setS hS b4 (by decide);replace k2:=k2.setS hS b4 (by decide);replace k4:=k4.setS hS b4 (by decide);replace k5:=k5.setS hS b4 (by decide);replace k7:=k7.setS hS b4 (by decide);replace b0:=a0o hS b0 (by omega);replace b1:=a0o hS b1 (by omega);replace b2:=a0o hS b2 (by omega);replace b3:=a0o hS b3 (by omega);replace b5:=a0o hS b5 (by omega);replace hx:=a0E hS hx (by omega);replace b4:=a0s hS b4;clear hS hsz
  simp [w0F,b5]
  refine (j0a j5 hx.1 (by omega)).mono ?_
  rintro _ G2 ⟨⟨s9,rfl,k3⟩,hx2⟩
  replace b0:=hx2.blk b0;replace b1:=hx2.blk b1;replace b2:=hx2.blk b2;replace b3:=hx2.blk b3;replace b4:=hx2.blk b4;replace b5:=hx2.blk b5;replace hx:=hx.trans hx2;replace k0:=k0.mono hx2;replace k1:=k1.mono hx2;replace k2:=k2.mono hx2;replace k4:=k4.mono hx2;replace k5:=k5.mono hx2;replace k7:=k7.mono hx2
  rw [a0h] at k3 ⊢
  simp [b5,k3.cells,k3.plain,hsz2]
  generalize hS:Array.setIfInBounds G2 _ _=G9
  have hsz:=hx.1;replace k0:=k0.setS hS b5 (by decide);replace k1:=k1.setS hS b5 (by decide);replace k2:=k2.setS hS b5 (by decide);replace k3:=k3.setS hS b5 (by decide);replace k4:=k4.setS hS b5 (by decide);replace k5:=k5.setS hS b5 (by decide);replace k7:=k7.setS hS b5 (by decide);replace b0:=a0o hS b0 (by omega);replace b1:=a0o hS b1 (by omega);replace b2:=a0o hS b2 (by omega);replace b3:=a0o hS b3 (by omega);replace b4:=a0o hS b4 (by omega);replace hx:=a0E hS hx (by omega);replace b5:=a0s hS b5;clear hS hsz
  have hz:=a0l b2
  have hsz:=hx.1
  have t1:x.tdiv g' = -(x.tdiv g):=by rw [hg',Int.tdiv_neg]
  have t2:y.tdiv g' = -(y.tdiv g):=by rw [hg',Int.tdiv_neg]
  rw [t1,t2]
  simp [q0v,b4,b5,b2,k2.cells,k2.plain,k3.cells,k3.plain,hz]
  exact fun _=>⟨s8,s9,rfl,k2.setT b2 (by decide),k3.setT b2 (by decide)⟩
 ·rw [h1C hneg,← hg] at hg'
  have c1:decide (y.tdiv g < 0)=false:=by simp [hsg];omega
  rw [cy,c1] at b5
  have hz:=a0l b2
  have hsz:=hx.1
  rw [cy,c1]
  have cq:(a0j (y.tdiv g)).1=false:=by rw [cy,c1]
  rw [hg']
  simp [q0v,b4,b5,b2,k0.cells,k0.plain,k1.cells,k1.plain,hz]
  refine fun _=>⟨s4,s6,by rw [cq],k0.setT b2 (by decide),k1.setT b2 (by decide)⟩
end
section
open Go
set_option maxHeartbeats 4000000
variable {fl:Nat} {H G:a0f} {R:a0G} {v w:Value} {a b:b0q}
theorem i0G (h:b0L H v a) (k:b0L H w b) (hf:fl≤H.size) (hn:d0W a < 67108864) (hm:d0W b < 67108864):a0S env fl X0n [v,w] H (fun r H'=>b0L H' r (a0e (b0o a * b0o b))∧Ext H H') R:=by
 have k0:=h
 have k1:=k
 obtain ⟨s,u,rfl,hs,hu⟩:=h
 obtain ⟨s',u',rfl,hs',hu'⟩:=k
 have z1:=b0E hs.ok hu.ok
 have z2:=b0E hs'.ok hu'.ok
 refine a0i g1Y hf (h:=?_)
 intro ρ h0
 simp [c1q,S0V,h0,hs.cells,hu.cells,hs'.cells,hu'.cells]
 generalize hG:Array.push (Array.push (Array.push H _) _) _=G
 have hx2:Ext H G:=by rw [← hG];exact (Ext.refl H).push.push.push
 have b0:a0f.blk G H.size=.row false a0b [.bool a.1.1,s,.bool a.2.1,u]:=by rw [← hG];simp
 have b1:a0f.blk G (H.size + 1)=.row false a0b [.bool b.1.1,s',.bool b.2.1,u']:=by rw [← hG];simp
 have b2:a0f.blk G (H.size + 2)=.row false a0b [.bool false,.slice none 0 0,.bool false,.slice none 0 0]:=by rw [← hG];simp
 have hx:=Ext.refl H
 clear hG
 replace hx:=hx.trans hx2;replace k0:=k0.mono hx2;replace k1:=k1.mono hx2
 simp [S0W,b0]
 refine (b0z k0 hx.1 (by omega)).mono ?_
 rintro _ G2 ⟨⟨s1,u1,rfl,k2,k3⟩,hx2⟩
 replace b0:=hx2.blk b0;replace b1:=hx2.blk b1;replace b2:=hx2.blk b2;replace hx:=hx.trans hx2;replace k0:=k0.mono hx2;replace k1:=k1.mono hx2
 have hsz:=hx.1
 simp [b0,k2.cells,k2.plain,k3.cells,k3.plain,hsz]
 generalize hS:Array.setIfInBounds G2 _ _=G3
 have hsz:=hx.1;replace k0:=k0.setS hS b0 (by decide);replace k1:=k1.setS hS b0 (by decide);replace k2:=k2.setS hS b0 (by decide);replace k3:=k3.setS hS b0 (by decide);replace b1:=a0o hS b1 (by omega);replace b2:=a0o hS b2 (by omega);replace hx:=a0E hS hx (by omega);replace b0:=a0s hS b0;clear hS hsz
 simp [S0X,b1]
 refine (b0z k1 hx.1 (by omega)).mono ?_
 rintro _ G2 ⟨⟨s2,u2,rfl,k4,k5⟩,hx2⟩
 replace b0:=hx2.blk b0;replace b1:=hx2.blk b1;replace b2:=hx2.blk b2;replace hx:=hx.trans hx2;replace k0:=k0.mono hx2;replace k1:=k1.mono hx2;replace k2:=k2.mono hx2;replace k3:=k3.mono hx2
 have hsz:=hx.1
 simp [b1,k4.cells,k4.plain,k5.cells,k5.plain,hsz]
 generalize hS:Array.setIfInBounds G2 _ _=G4
 have hsz:=hx.1;replace k0:=k0.setS hS b1 (by decide);replace k1:=k1.setS hS b1 (by decide);replace k2:=k2.setS hS b1 (by decide);replace k3:=k3.setS hS b1 (by decide);replace k4:=k4.setS hS b1 (by decide);replace k5:=k5.setS hS b1 (by decide);replace b0:=a0o hS b0 (by omega);replace b2:=a0o hS b2 (by omega);replace hx:=a0E hS hx (by omega);replace b1:=a0s hS b1;clear hS hsz
 clear k0 k1 hs hu hs' hu'
 generalize b0o a=x at *
 generalize b0o b=y at *
 have x1:=c0O x
 have x2:=d0m x
 have y1:=c0O y
 have y2:=d0m y
 have c1:(a0e x).1.2.length=lz x.num:=a0g _
 have c2:(a0e x).2.2.length=lz x.den:=a0g _
 have c3:(a0e y).1.2.length=lz y.num:=a0g _
 have c4:(a0e y).2.2.length=lz y.den:=a0g _
 have i1:b0d G4 (.agg #[.bool (a0e x).1.1,s1]) (a0j x.num):=⟨s1,rfl,k2⟩
 have i2:b0d G4 (.agg #[.bool (a0e x).2.1,u1]) (a0j x.den):=⟨u1,rfl,k3⟩
 have i3:b0d G4 (.agg #[.bool (a0e y).1.1,s2]) (a0j y.num):=⟨s2,rfl,k4⟩
 have i4:b0d G4 (.agg #[.bool (a0e y).2.1,u2]) (a0j y.den):=⟨u2,rfl,k5⟩
 clear k2 k3 k4 k5
 refine a0B ?_
 simp [S0Y,b0,b1]
 refine (d0D i1 i3 (by have:=hx.1;omega) (by rw [a0g];omega) (by rw [a0g];omega)).mono ?_
 rintro m1 G5 ⟨j1,hx2⟩
 replace b0:=hx2.blk b0;replace b1:=hx2.blk b1;replace b2:=hx2.blk b2;replace hx:=hx.trans hx2
 replace i1:=i1.mono hx2
 replace i2:=i2.mono hx2
 replace i3:=i3.mono hx2
 replace i4:=i4.mono hx2
 simp [b0,b1]
 refine (d0D i2 i4 (by have:=hx.1;omega) (by rw [a0g];omega) (by rw [a0g];omega)).mono ?_
 rintro m2 G6 ⟨j2,hx2⟩
 replace b2:=hx2.blk b2;replace hx:=hx.trans hx2
 replace j1:=j1.mono hx2
 rw [a0h,a0h] at j1 j2
 simp
 have q1:=c0a x.num y.num
 have q2:=c0a x.den y.den
 have hne:(x.den:Int) * y.den ≠ 0:=j1W (by have:=x.den_nz;omega) (by have:=y.den_nz;omega)
 rw [k0p]
 generalize x.num * y.num=p at *
 generalize (x.den:Int) * y.den=q at *
 have hq:=fun R'=>m0C (fl:=max H.size G6.size) (R:=R') j1 j2 (by have:=hx.1;omega) (by rw [a0g];omega) (by rw [a0g];omega) (by rw [a0h];exact hne)
 simp only [a0h] at hq
 refine (hq _).mono ?_
 rintro _ G6 ⟨⟨_,rfl,s8,s9,rfl,k6,k7⟩,hx2⟩
 replace b2:=hx2.blk b2;replace hx:=hx.trans hx2
 have hsz:=hx.1
 have hb2l:=a0l b2
 simp [k6.cells,k6.plain,k7.cells,k7.plain,hsz]
 generalize hN:Array.setIfInBounds (Array.push _ _) _ _=G7
 obtain ⟨hx2,b3⟩:=new1 hN
 clear hN
 replace b2:=hx2.blk b2;replace hx:=hx.trans hx2;replace k6:=k6.mono hx2;replace k7:=k7.mono hx2
 obtain ⟨P,hP⟩:∃ P,P=G6.size:=⟨_,rfl⟩
 rw [← hP] at b3 hsz hb2l ⊢
 have hz:=a0l b2
 simp [S0Z,b2,b3,k6.cells,k6.plain,k7.cells,k7.plain,hz]
 exact fun _=>⟨s8,s9,rfl,k6.setT b2 (by decide),k7.setT b2 (by decide)⟩
theorem i0E (h:b0L H v a) (k:b0L H w b) (hf:fl≤H.size) (hn:d0W a < 67108864) (hm:d0W b < 67108864):a0S env fl X0m [v,w] H (fun r H'=>b0L H' r (a0e (b0o a + b0o b))∧Ext H H') R:=by
 have k0:=h
 have k1:=k
 obtain ⟨s,u,rfl,hs,hu⟩:=h
 obtain ⟨s',u',rfl,hs',hu'⟩:=k
 have z1:=b0E hs.ok hu.ok
 have z2:=b0E hs'.ok hu'.ok
 refine a0i g1X hf (h:=?_)
 intro ρ h0
 simp [c1p,S0Q,h0,hs.cells,hu.cells,hs'.cells,hu'.cells]
 generalize hG:Array.push (Array.push (Array.push H _) _) _=G
 have hx2:Ext H G:=by rw [← hG];exact (Ext.refl H).push.push.push
 have b0:a0f.blk G H.size=.row false a0b [.bool a.1.1,s,.bool a.2.1,u]:=by rw [← hG];simp
 have b1:a0f.blk G (H.size + 1)=.row false a0b [.bool b.1.1,s',.bool b.2.1,u']:=by rw [← hG];simp
 have b2:a0f.blk G (H.size + 2)=.row false a0b [.bool false,.slice none 0 0,.bool false,.slice none 0 0]:=by rw [← hG];simp
 have hx:=Ext.refl H
 clear hG
 replace hx:=hx.trans hx2;replace k0:=k0.mono hx2;replace k1:=k1.mono hx2
 simp [S0R,b0]
 refine (b0z k0 hx.1 (by omega)).mono ?_
 rintro _ G2 ⟨⟨s1,u1,rfl,k2,k3⟩,hx2⟩
 replace b0:=hx2.blk b0;replace b1:=hx2.blk b1;replace b2:=hx2.blk b2;replace hx:=hx.trans hx2;replace k0:=k0.mono hx2;replace k1:=k1.mono hx2
 have hsz:=hx.1
 simp [b0,k2.cells,k2.plain,k3.cells,k3.plain,hsz]
 generalize hS:Array.setIfInBounds G2 _ _=G3
 have hsz:=hx.1;replace k0:=k0.setS hS b0 (by decide);replace k1:=k1.setS hS b0 (by decide);replace k2:=k2.setS hS b0 (by decide);replace k3:=k3.setS hS b0 (by decide);replace b1:=a0o hS b1 (by omega);replace b2:=a0o hS b2 (by omega);replace hx:=a0E hS hx (by omega);replace b0:=a0s hS b0;clear hS hsz
 simp [S0S,b1]
 refine (b0z k1 hx.1 (by omega)).mono ?_
 rintro _ G2 ⟨⟨s2,u2,rfl,k4,k5⟩,hx2⟩
 replace b0:=hx2.blk b0;replace b1:=hx2.blk b1;replace b2:=hx2.blk b2;replace hx:=hx.trans hx2;replace k0:=k0.mono hx2;replace k1:=k1.mono hx2;replace k2:=k2.mono hx2;replace k3:=k3.mono hx2
 have hsz:=hx.1
 simp [b1,k4.cells,k4.plain,k5.cells,k5.plain,hsz]
 generalize hS:Array.setIfInBounds G2 _ _=G4
 have hsz:=hx.1;replace k0:=k0.setS hS b1 (by decide);replace k1:=k1.setS hS b1 (by decide);replace k2:=k2.setS hS b1 (by decide);replace k3:=k3.setS hS b1 (by decide);replace k4:=k4.setS hS b1 (by decide);replace k5:=k5.setS hS b1 (by decide);replace b0:=a0o hS b0 (by omega);replace b2:=a0o hS b2 (by omega);replace hx:=a0E hS hx (by omega);replace b1:=a0s hS b1;clear hS hsz
 clear k0 k1 hs hu hs' hu'
 generalize b0o a=x at *
 generalize b0o b=y at *
 have x1:=c0O x
 have x2:=d0m x
 have y1:=c0O y
 have y2:=d0m y
 have c1:(a0e x).1.2.length=lz x.num:=a0g _
 have c2:(a0e x).2.2.length=lz x.den:=a0g _
 have c3:(a0e y).1.2.length=lz y.num:=a0g _
 have c4:(a0e y).2.2.length=lz y.den:=a0g _
 have i1:b0d G4 (.agg #[.bool (a0e x).1.1,s1]) (a0j x.num):=⟨s1,rfl,k2⟩
 have i2:b0d G4 (.agg #[.bool (a0e x).2.1,u1]) (a0j x.den):=⟨u1,rfl,k3⟩
 have i3:b0d G4 (.agg #[.bool (a0e y).1.1,s2]) (a0j y.num):=⟨s2,rfl,k4⟩
 have i4:b0d G4 (.agg #[.bool (a0e y).2.1,u2]) (a0j y.den):=⟨u2,rfl,k5⟩
 clear k2 k3 k4 k5
 refine a0B ?_
 simp [S0T,b0,b1]
 refine (d0D i1 i4 (by have:=hx.1;omega) (by rw [a0g];omega) (by rw [a0g];omega)).mono ?_
 rintro m1 G5 ⟨j1,hx2⟩
 replace b0:=hx2.blk b0;replace b1:=hx2.blk b1;replace b2:=hx2.blk b2;replace hx:=hx.trans hx2
 replace i1:=i1.mono hx2
 replace i2:=i2.mono hx2
 replace i3:=i3.mono hx2
 replace i4:=i4.mono hx2
 simp [b0,b1]
 refine (d0D i3 i2 (by have:=hx.1;omega) (by rw [a0g];omega) (by rw [a0g];omega)).mono ?_
 rintro m2 G6 ⟨j2,hx2⟩
 replace b0:=hx2.blk b0;replace b1:=hx2.blk b1;replace b2:=hx2.blk b2;replace hx:=hx.trans hx2
 replace i1:=i1.mono hx2
 replace i2:=i2.mono hx2
 replace i3:=i3.mono hx2
 replace i4:=i4.mono hx2
 replace j1:=j1.mono hx2
 rw [a0h,a0h] at j1 j2
 simp
 have q1:=c0a x.num y.den
 have q2:=c0a y.num x.den
 have q3:=c0a x.den y.den
 have q4:=o0s (x.num * y.den) (y.num * x.den)
 have hne:(x.den:Int) * y.den ≠ 0:=j1W (by have:=x.den_nz;omega) (by have:=y.den_nz;omega)
 rw [k0d]
 generalize x.num * y.den=p1 at *
 generalize y.num * x.den=p2 at *
 refine (m0A j1 j2 (by have:=hx.1;omega) (by rw [a0g];omega) (by rw [a0g];omega)).mono ?_
 rintro m3 G7 ⟨j3,hx2⟩
 replace b0:=hx2.blk b0;replace b1:=hx2.blk b1;replace b2:=hx2.blk b2;replace hx:=hx.trans hx2
 replace i1:=i1.mono hx2
 replace i2:=i2.mono hx2
 replace i3:=i3.mono hx2
 replace i4:=i4.mono hx2
 clear j1 j2
 rw [a0h,a0h] at j3
 simp [b0,b1]
 refine (d0D i2 i4 (by have:=hx.1;omega) (by rw [a0g];omega) (by rw [a0g];omega)).mono ?_
 rintro m4 G8 ⟨j4,hx2⟩
 replace b2:=hx2.blk b2;replace hx:=hx.trans hx2
 replace j3:=j3.mono hx2
 rw [a0h,a0h] at j4
 simp
 generalize (x.den:Int) * y.den=q at *
 generalize p1 + p2=p at *
 have hq:=fun R'=>m0C (fl:=max H.size G8.size) (R:=R') j3 j4 (by have:=hx.1;omega) (by rw [a0g];omega) (by rw [a0g];omega) (by rw [a0h];exact hne)
 simp only [a0h] at hq
 refine (hq _).mono ?_
 rintro _ G6 ⟨⟨_,rfl,s8,s9,rfl,k6,k7⟩,hx2⟩
 replace b2:=hx2.blk b2;replace hx:=hx.trans hx2
 have hsz:=hx.1
 have hb2l:=a0l b2
 simp [k6.cells,k6.plain,k7.cells,k7.plain,hsz]
 generalize hN:Array.setIfInBounds (Array.push _ _) _ _=G7
 obtain ⟨hx2,b3⟩:=new1 hN
 clear hN
 replace b2:=hx2.blk b2;replace hx:=hx.trans hx2;replace k6:=k6.mono hx2;replace k7:=k7.mono hx2
 obtain ⟨P,hP⟩:∃ P,P=G6.size:=⟨_,rfl⟩
 rw [← hP] at b3 hsz hb2l ⊢
 have hz:=a0l b2
 simp [S0U,b2,b3,k6.cells,k6.plain,k7.cells,k7.plain,hz]
 exact fun _=>⟨s8,s9,rfl,k6.setT b2 (by decide),k7.setT b2 (by decide)⟩
theorem k0Z (h:b0L H v a) (hf:fl≤H.size):a0S env fl Y0Z [v] H (fun r H'=>r=.bool (d0F a)∧Ext H H') R:=by
 obtain ⟨s,u,rfl,hs,hu⟩:=h
 obtain ⟨⟨p,lp⟩,⟨q,lq⟩⟩:=a
 simp only at hs hu
 refine a0i h1l hf (h:=?_)
 intro ρ h0
 simp [c1C,T0R,h0]
 generalize hG:Array.push H _=G
 obtain ⟨hx2,b0⟩:=g0r hG
 clear hG
 have hsl:=(hs.mono hx2).slen
 have hul:=(hu.mono hx2).slen
 unfold d0F
 cases lp with
 | nil =>
  cases p with
  | true=>simp [s0G,b0,hsl,hul]
  | false =>
   cases lq with
   | nil=>cases q <;> simp [s0G,b0,hsl,hul]
   | cons y l =>
    have hne:¬ ((l.length:Int) + 1=0):=by omega
    simp [s0G,b0,hsl,hul,hne]
 | cons y l =>
  have hne:¬ ((l.length:Int) + 1=0):=by omega
  simp [s0G,b0,hsl,hul,hne]
end
section
open Go
set_option maxHeartbeats 4000000
variable {fl:Nat} {H G:a0f} {R:a0G} {v w:Value} {e f:d0h}
theorem i0F (h:i0w H v e) (hf:fl≤H.size) (hn:d0W e.2 < 268435456):a0S env fl X0h [v] H (fun r H'=>r=.bool (m0n e)∧Ext H H') R:=by
 obtain ⟨s,u,rfl,hs,hu⟩:=h
 have k0:b0L H (.agg #[.bool e.2.1.1,s,.bool e.2.2.1,u]) e.2:=⟨s,u,rfl,hs,hu⟩
 refine a0i g1I hf (h:=?_)
 intro ρ h0
 simp [c1a,R0H,h0,hs.cells,hu.cells]
 generalize hG:Array.push H _=G
 obtain ⟨hx2,b0⟩:=g0r hG
 have hx:=Ext.refl H
 clear hG
 replace hx:=hx.trans hx2;replace k0:=k0.mono hx2
 unfold m0n
 by_cases h3:e.1=0
 ·simp [h3,s0E,R0I,b0]
  refine (f0u k0 hx.1 hn).mono ?_
  rintro _ G2 ⟨rfl,hx2⟩
  simp
 ·by_cases h2:e.1=1
  ·simp [h2,s0E,x0w,b0]
   refine (k0Z k0 hx.1).mono ?_
   rintro _ G2 ⟨rfl,hx2⟩
   simp
  ·by_cases h1:e.1 = -1
   ·simp [h1,s0E,x0w,b0]
    refine (k0Z k0 hx.1).mono ?_
    rintro _ G2 ⟨rfl,hx2⟩
    simp
   ·simp [h1,h2,h3,s0E,x0w,b0]
theorem h0p (h:i0w H v e) (hf:fl≤H.size) (hn:d0W e.2 < 268435456):a0S env fl X0i [v] H (fun r H'=>i0w H' r (c0l (i0u e))∧Ext H H') R:=by
 have k0:=h
 obtain ⟨s,u,rfl,hs,hu⟩:=h
 have k1:b0L H (.agg #[.bool e.2.1.1,s,.bool e.2.2.1,u]) e.2:=⟨s,u,rfl,hs,hu⟩
 refine a0i g1J hf (h:=?_)
 intro ρ h0
 simp [c1b,R0J,h0,hs.cells,hu.cells]
 generalize hG:Array.push (Array.push H _) _=G
 have hx2:Ext H G:=by rw [← hG];exact (Ext.refl H).push.push
 have b0:a0f.blk G H.size=.row false b0v [.int .i64 e.1,.bool e.2.1.1,s,.bool e.2.2.1,u]:=by rw [← hG];simp
 have b1:a0f.blk G (H.size + 1)=.row false b0v [.int .i64 0,.bool false,.slice none 0 0,.bool false,.slice none 0 0]:=by rw [← hG];simp
 have hx:=Ext.refl H
 clear hG
 replace hx:=hx.trans hx2;replace k0:=k0.mono hx2;replace k1:=k1.mono hx2
 simp [R0K,b0]
 refine (i0F k0 hx.1 hn).mono ?_
 rintro _ G2 ⟨rfl,hx2⟩
 replace b0:=hx2.blk b0;replace b1:=hx2.blk b1;replace hx:=hx.trans hx2;replace k0:=k0.mono hx2;replace k1:=k1.mono hx2
 have hsz:=hx.1
 unfold i0u
 cases hm:m0n e with
 | false =>
  simp [R0L]
  refine (d0v hx.1).mono ?_
  rintro _ G3 ⟨⟨s3,u3,rfl,k3,k4⟩,hx2⟩
  replace b0:=hx2.blk b0;replace b1:=hx2.blk b1;replace hx:=hx.trans hx2;replace k0:=k0.mono hx2;replace k1:=k1.mono hx2
  have hsz:=hx.1
  simp [b1,k3.cells,k3.plain,k4.cells,k4.plain,hsz,b0t]
  generalize hS:Array.setIfInBounds G3 _ _=G5
  have hsz:=hx.1;replace k0:=k0.setS hS b1 (by decide);replace k1:=k1.setS hS b1 (by decide);replace k3:=k3.setS hS b1 (by decide);replace k4:=k4.setS hS b1 (by decide);replace b0:=a0o hS b0 (by omega);replace hx:=a0E hS hx (by omega);replace b1:=a0s hS b1;clear hS hsz
  simp [b1]
  exact fun _=>⟨s3,u3,rfl,k3,k4⟩
 | true =>
  by_cases h3:e.1=0
  ·simp [h3,J0e,R0N,b0]
   refine (b0z k1 hx.1 hn).mono ?_
   rintro _ G3 ⟨⟨s3,u3,rfl,k3,k4⟩,hx2⟩
   replace b0:=hx2.blk b0;replace b1:=hx2.blk b1;replace hx:=hx.trans hx2;replace k0:=k0.mono hx2;replace k1:=k1.mono hx2
   have hsz:=hx.1
   simp [b1,k3.cells,k3.plain,k4.cells,k4.plain,hsz,b0t]
   generalize hS:Array.setIfInBounds G3 _ _=G5
   have hsz:=hx.1;replace k0:=k0.setS hS b1 (by decide);replace k1:=k1.setS hS b1 (by decide);replace k3:=k3.setS hS b1 (by decide);replace k4:=k4.setS hS b1 (by decide);replace b0:=a0o hS b0 (by omega);replace hx:=a0E hS hx (by omega);replace b1:=a0s hS b1;clear hS hsz
   simp [b1]
   exact fun _=>⟨s3,u3,rfl,k3,k4⟩
  ·have hz:d0F e.2=true:=by
    unfold m0n at hm
    by_cases hc:e.1 = -1 ∨ e.1=1
    ·rw [h1F hc] at hm;exact hm
    ·rw [h1C hc,h1C h3] at hm;exact h1Y hm (by decide)
   have he:=(K0o _).1 hz
   have hc:c0l (e.1,0)=e:=by
    unfold c0l
    simp only
    rw [h1C h3]
    exact Prod.ext rfl he.symm
   obtain ⟨s5,u5,hv5,k5,k6⟩:=k0
   have hss:s5=s∧u5=u:=by simpa [eq_comm] using hv5
   obtain ⟨rfl,rfl⟩:=hss
   simp [h3,J0e,R0M,b0,b1,k5.cells,k5.plain,k6.cells,k6.plain,hsz]
   generalize hS:Array.setIfInBounds G2 _ _=G5
   have hsz:=hx.1;replace k1:=k1.setS hS b1 (by decide);replace k5:=k5.setS hS b1 (by decide);replace k6:=k6.setS hS b1 (by decide);replace b0:=a0o hS b0 (by omega);replace hx:=a0E hS hx (by omega);replace b1:=a0s hS b1;clear hS hsz
   simp [b1]
   rw [hc]
   exact fun _=>⟨s5,u5,rfl,k5,k6⟩
end
section
open Go
set_option maxHeartbeats 4000000
variable {fl:Nat} {H G:a0f} {R:a0G} {v w:Value}
theorem U0v {E:Env} {nt tc b b2:Nat} {body:SCode} {rx rc:List a0L} {Q:d0X} {ρ:Nat→Value} (Inv:Nat→(Nat→Value)→a0f→Prop) (n:Nat) (htc:tc < nt) (hI:Inv 0 ρ H)
  (step:∀ i ρ G,i≤n→Inv i ρ G→WR E fl rc (T nt ρ) G (d0L E fl nt tc b b2 n body rx (fun t H=>Q .normal t H) Q R i Inv) R) :
  W E fl (.loop (.seq (.seq (.reg rc) (.cond (.tmp tc) .skip (.exit b))) (.seq (.block b2 body) (.reg rx)))) (T nt ρ) H (e0P b Q) R:=by
 have h:=c0q (Z:=fun t H=>Q .normal t H) (Q:=Q) Inv n htc hI step
 rwa [h0V] at h
theorem n0Z {S:Nat} {rows:List (List b0q)} {n:Int} (h:d0q H v rows) (hf:fl≤H.size) (hS:S < 67108864) (hr:∀ r ∈ rows,Few S r∧r.length < 1073741824) (hrl:rows.length < 1073741824) :
  a0S env fl Y0P [v,.int .i64 n] H (fun r H'=>r=.bool (h0x rows n)∧Ext H H') R:=by
 obtain ⟨s,rfl,hs⟩:=h
 refine a0i g1H hf (h:=?_)
 intro ρ h0
 simp [b1Z,R0A,h0,hs.cells]
 generalize hG:Array.push H _=G
 obtain ⟨hx2,b0⟩:=g0r hG
 have hx:=Ext.refl H
 clear hG
 replace hx:=hx.trans hx2
 unfold h0x
 by_cases h1:n < 0
 ·have h1':¬ 0≤n:=by omega
  simp [s0D,x0v,h0,h1,h1']
 have h1':0≤n:=by omega
 by_cases h2:6 < n
 ·have h2':¬ n≤6:=by omega
  simp [s0D,x0v,h0,h1,h1',h2,h2']
 have h2':n≤6:=by omega
 by_cases h3:40 < rows.length
 ·have h3':¬ rows.length≤40:=by omega
  have h3'':(40:Int) < (rows.length:Int):=by omega
  simp [s0D,x0v,h0,b0,hs.slen,h1,h1',h2,h2',h3,h3',h3'']
 have h3':rows.length≤40:=by omega
 have h3'':¬ (40:Int) < (rows.length:Int):=by omega
 simp [s0D,R0B,h0,b0,hs.slen,h1,h1',h2,h2',h3,h3',h3'']
 have ks0:=hs.mono b0F hx
 refine c0q (fun i ρ G'=>ρ 1=.int .i64 n∧ρ 2=.pointer (some ⟨H.size,0,none⟩)∧ρ 5=.int .i64 (i:Int)∧Ext G G'∧p0v (k0G n) (rows.take i)=true) rows.length (by decide) (by simp [h0,Ext.refl G,j0i]) ?_
 clear h0 ρ hx2
 rintro i ρ G1 hi1 ⟨g1,g2,g5,hx1,hc⟩
 have b1:=hx1.blk b0
 have ks:=ks0.mono b0F hx1
 simp [R0C,g2,g5,b1,ks.slen]
 refine d0L.mk (by simp) (fun hi=>?_) (fun heq=>?_)
 ·obtain ⟨w,hl,kw⟩:=d0o.load ks hi
  obtain ⟨hfew,hrl2⟩:=hr _ (h1I hi)
  have hwn:=b0a (show i < 4611686018427387904 by omega)
  by_cases hlen:(rows[i].length:Int)=n
  ·simp [J0d,R0E,g1,g2,g5,b1,ks.ia hi,hl,kw.slen,hlen]
   refine U0v (fun j ρ G'=>ρ 1=.int .i64 n∧ρ 2=.pointer (some ⟨H.size,0,none⟩)∧ρ 5=.int .i64 (i:Int)∧ρ 6=.int .i64 (j:Int)∧Ext G G'∧p0v l0D (rows[i].take j)=true) rows[i].length (by decide) (by simp [g1,g2,g5,hx1,j0i]) ?_
   clear g1 g2 g5 hx1 kw hl ks b1 ρ G1
   rintro j ρ G1 hj1 ⟨g1,g2,g5,g6,hx1,hcj⟩
   have b1:=hx1.blk b0
   have ks:=ks0.mono b0F hx1
   simp [R0F,g1,g6]
   refine d0L.mk (by simp [← hlen]) (fun hj=>?_) (fun heq=>?_)
   ·obtain ⟨w,hl,kw⟩:=d0o.load ks hi
    obtain ⟨x,hlx,k0⟩:=a0O.load kw hj
    simp [R0G,g1,g2,g5,g6,b1,ks.ia hi,hl,kw.ia hj,hlx]
    refine (f0u k0 (by have:=hx.1;have:=hx1.1;omega) (by have:=(hfew _ (h1I hj)).1;omega)).mono ?_
    rintro _ G2 ⟨rfl,hx2⟩
    replace hx1:=hx1.trans hx2
    cases hm:l0D rows[i][j]
    ·simp [I0Z]
     intros
     exact g0Q hi (by unfold k0G;rw [g0Q hj hm];simp)
    ·simp
     unfold e0N
     simp [J0a,g6,b0a (show j < 4611686018427387904 by omega)]
     exact c0f.mk ⟨by simp [g1],by simp [g2],by simp [g5],by simp,hx1,by rw [g0R hj,hcj,hm];rfl⟩
   ·subst heq
    rw [h1T] at hcj
    unfold e0N
    simp [J0b,g5,hwn]
    exact c0f.mk ⟨by simp [g1],by simp [g2],by simp,hx1,by rw [g0R hi,hc];unfold k0G;simp [hlen,hcj]⟩
  ·simp [J0d,R0D,g1,g2,g5,b1,ks.ia hi,hl,kw.slen,hlen]
   intro _
   exact g0Q hi (by unfold k0G;simp [hlen])
 ·subst heq
  rw [h1T] at hc
  simp [J0c,hc]
theorem d0T {S:Nat} {rows:List (List b0q)} {n:Int} {d:List d0h} (h:d0q H v rows) (hd:d0n H w d) (hf:fl≤H.size) (hS:S < 67108864) (hr:∀ r ∈ rows,Few S r∧r.length < 1073741824) (hrl:rows.length < 1073741824) (hfd:z0s d) (hdl:d.length < 1073741824) :
  a0S env fl W0V [v,.int .i64 n,w] H (fun r H'=>r=.bool (c0x rows n d)∧Ext H H') R:=by
 obtain ⟨s,rfl,hs⟩:=h
 refine a0i g1k hf (h:=?_)
 intro ρ h0
 simp [b1C,O0U,h0,hs.cells]
 generalize hG:Array.push H _=G
 obtain ⟨hx2,b0⟩:=g0r hG
 have hx:=Ext.refl H
 clear hG
 replace hx:=hx.trans hx2
 have kt2:d0q G (.agg #[s]) rows:=⟨s,rfl,hs.mono b0F hx⟩
 unfold c0x
 simp [O0V,h0,b0]
 refine (n0Z (n:=n) kt2 hx.1 hS hr hrl).mono ?_
 rintro _ G2 ⟨rfl,hx2⟩
 replace b0:=hx2.blk b0;replace hx:=hx.trans hx2
 cases h1:h0x rows n
 ·simp [I0J]
 by_cases h2:d.length=rows.length
 ·have h2':(d.length:Int)=(rows.length:Int):=by omega
  simp [h0,b0,hd.slen,hs.slen,h2,h2',O0W]
  refine c0q (fun i ρ G=>ρ 2=w∧ρ 7=.int .i64 (i:Int)∧Ext H G∧d0G (fun e=>!m0n e) (d.take i)=false) d.length (by decide) (by simp [h0,hx,f0M]) ?_
  clear h0 ρ
  rintro i ρ G1 hi1 ⟨g2,g7,hx1,hc⟩
  have kd:=hd.mono d0J hx1
  simp [O0X,g2,g7,kd.slen]
  refine d0L.mk (by simp) (fun hi=>?_) (fun heq=>?_)
  ·obtain ⟨x,hl,k0⟩:=d0n.load kd hi
   simp [O0Y,g2,g7,kd.ia hi,hl]
   refine (i0F k0 hx1.1 (by have:=hfd _ (h1I hi);omega)).mono ?_
   rintro _ G3 ⟨rfl,hx3⟩
   replace hx1:=hx1.trans hx3
   cases hm:m0n d[i]
   ·simp [O0Z]
    intros
    exact f0N hi (by simp [hm])
   ·simp
    unfold e0N
    simp [P0a,g7,b0a (show i < 4611686018427387904 by omega)]
    exact c0f.mk ⟨by simp [g2],by simp,hx1,by rw [e0O hi,hc,hm];rfl⟩
  ·subst heq
   rw [h1T] at hc
   simp [P0b,hc]
 ·have h2':¬ (d.length:Int)=(rows.length:Int):=by omega
  simp [h0,b0,hd.slen,hs.slen,h2,h2',I0J]
end
section
open Go
set_option maxHeartbeats 4000000
variable {fl:Nat} {H G:a0f} {R:a0G} {v w:Value} {a b:List d0h}
end
section
open Go
set_option maxHeartbeats 4000000
variable {fl:Nat} {H G:a0f} {R:a0G} {v w u:Value}
theorem A0K (x:Rat):((a0e x).1.2.length:Int)=if x=0 then 0 else ((lz x.num:Nat):Int):=by
 split
 ·rename_i h;subst h;rw [v0Q];rfl
 ·rfl
theorem o0t {x:Rat} (h:x ≠ 0):0 < lz x.num:=c0k (by have:x.num ≠ 0:=fun h2=>h (Rat.num_eq_zero.1 h2);omega)
theorem L0i (a b c d:Value):L0g true 0 2 (.agg #[a,b,c,d])=some (.agg #[a,b]):=rfl
theorem L0h (a b:Value):L0g false 1 1 (.agg #[a,b])=some b:=rfl
theorem Z0e (a b c d e:Value):L0g false 0 1 (.agg #[a,b,c,d,e])=some a:=rfl
theorem g0k {S:Nat} {a b:List b0q} (ha:a0O H v a) (hb:a0O H w b) (hf:fl≤H.size) (he:a.length=b.length) (hfa:Few S a) (hfb:Few S b) (hS:(a.length + 1) * (2 * S + 3) + 1 < 67108864) :
  a0S env fl L0a [v,w] H (fun r H'=>(∃ q,r=.tuple #[q,.int .i64 0]∧b0L H' q (a0e (d0V a b a.length)))∧Ext H H') R:=by
 refine a0i g1y hf (h:=?_)
 intro ρ h0
 have hal:a.length < 67108864:=by
  have:(a.length + 1) * 1≤(a.length + 1) * (2 * S + 3):=i1b _ (by omega)
  omega
 have hSl:S < 33554432:=by
  have:1 * (2 * S + 3)≤(a.length + 1) * (2 * S + 3):=h1J _ (by omega)
  omega
 simp [b1Q,Q0x,Q0y,h0,ha.slen,hb.slen,he]
 generalize hG:Array.push H _=G
 obtain ⟨hx2,b0⟩:=g0r hG
 have hx:=Ext.refl H
 clear hG
 replace hx:=hx.trans hx2
 simp [Q0z]
 refine (d0v hx.1).mono ?_
 rintro _ G2 ⟨⟨s1,s2,rfl,k0,k1⟩,hx2⟩
 replace b0:=hx2.blk b0;replace hx:=hx.trans hx2
 have hsz:=hx.1
 simp [h0,k0.cells,k0.plain,k1.cells,k1.plain,hsz]
 generalize hN:Array.setIfInBounds (Array.push _ _) _ _=G3
 obtain ⟨hx2,b1⟩:=new1 hN
 have hb0l:=a0l b0
 clear hN
 replace b0:=hx2.blk b0;replace hx:=hx.trans hx2;replace k0:=k0.mono hx2;replace k1:=k1.mono hx2
 obtain ⟨P,hP⟩:∃ P,P=G2.size:=⟨_,rfl⟩
 rw [← hP] at b1 hsz hb0l ⊢
 simp [Q0A]
 refine c0q (fun i ρ G=>ρ 0=v∧ρ 1=w∧ρ 4=.pointer (some ⟨H.size,0,none⟩)∧ρ 5=.int .i64 0∧ρ 6=.pointer (some ⟨P,0,none⟩)∧ρ 7=.int .i64 (i:Int)∧Ext H G ∧
   a0f.blk G H.size=.row false a0b [.bool false,.slice none 0 0,.bool false,.slice none 0 0] ∧
   ∃ s1 s2,a0f.blk G P=.row false a0b [.bool (a0e (d0V a b i)).1.1,s1,.bool (a0e (d0V a b i)).2.1,s2]∧Lim G s1 (a0e (d0V a b i)).1.2∧Lim G s2 (a0e (d0V a b i)).2.2)
  a.length (by decide) ⟨by simp [h0],by simp [h0],by simp,by simp,by simp,by simp,hx,b0,s1,s2,b1,k0,k1⟩ ?_
 clear h0 ρ k0 k1 b0 b1 hx hx2
 rintro i ρ G hi1 ⟨g0,g1,g4,g5,g6,g7,hx,b0,s1,s2,b1,k0,k1⟩
 have ka:=ha.mono a0u hx
 have kb:=hb.mono a0u hx
 simp [Q0B,g0,g7,ka.slen]
 refine d0L.mk (by simp) (fun hi=>?_) (fun heq=>?_)
 ·have hib:i < b.length:=by omega
  obtain ⟨wa,hla,k2⟩:=a0O.load ka hi
  obtain ⟨wb,hlb,k3⟩:=a0O.load kb hib
  have fa:=hfa _ (h1I hi)
  have fb:=hfb _ (h1I hib)
  have hd:d0V a b (i + 1)=d0V a b i + b0o a[i] * b0o b[i]:=by
   rw [d0V,h1z,h1z,h1E hi,h1E hib];rfl
  have hwn:=b0a (show i < 4611686018427387904 by omega)
  obtain ⟨ea,hea⟩:∃ x,x=a[i]:=⟨_,rfl⟩
  obtain ⟨eb,heb⟩:∃ x,x=b[i]:=⟨_,rfl⟩
  rw [← hea,← heb] at hd
  rw [← hea] at fa k2
  rw [← heb] at fb k3
  simp [Q0C,g0,g7,ka.ia hi,hla]
  refine (b0z k2 hx.1 (by omega)).mono ?_
  rintro _ G2 ⟨⟨t1,t2,rfl,q1,q2⟩,hx2⟩
  replace ka:=ka.mono a0u hx2
  replace kb:=kb.mono a0u hx2
  replace k2:=k2.mono hx2
  replace k3:=k3.mono hx2
  replace k0:=k0.mono hx2
  replace k1:=k1.mono hx2
  replace b0:=hx2.blk b0
  replace b1:=hx2.blk b1
  replace hx:=hx.trans hx2
  have hsl:=q1.slen
  rw [A0K] at hsl
  by_cases hva:b0o ea=0
  ·have hz0:d0V a b i + b0o ea * b0o eb=d0V a b i:=by rw [hva,k1n,j1O]
   rw [h1F hva] at hsl
   simp [L0i,L0h,hsl]
   unfold e0N
   simp [x0s,g7,hwn]
   exact c0f.mk ⟨by simp [g0],by simp [g1],by simp [g4],by simp [g5],by simp [g6],by simp,hx,b0,s1,s2,by rw [hd,hz0];exact b1,by rw [hd,hz0];exact k0,by rw [hd,hz0];exact k1⟩
  rw [h1C hva] at hsl
  obtain ⟨wb',hlb',k3'⟩:=a0O.load kb hib
  rw [← heb] at k3'
  simp [L0i,L0h,hsl,o0t hva,g1,g7,kb.ia hib,hlb']
  refine (b0z k3' hx.1 (by omega)).mono ?_
  rintro _ G2 ⟨⟨t3,t4,rfl,q3,q4⟩,hx2⟩
  clear k3'
  replace ka:=ka.mono a0u hx2
  replace kb:=kb.mono a0u hx2
  replace k2:=k2.mono hx2
  replace k3:=k3.mono hx2
  replace k0:=k0.mono hx2
  replace k1:=k1.mono hx2
  replace b0:=hx2.blk b0
  replace b1:=hx2.blk b1
  replace hx:=hx.trans hx2
  have hsl2:=q3.slen
  rw [A0K] at hsl2
  by_cases hvb:b0o eb=0
  ·have hz0:d0V a b i + b0o ea * b0o eb=d0V a b i:=by rw [hvb,Rat.mul_zero,j1O]
   rw [h1F hvb] at hsl2
   simp [L0i,L0h,hsl2]
   unfold e0N
   simp [x0s,g7,hwn]
   exact c0f.mk ⟨by simp [g0],by simp [g1],by simp [g4],by simp [g5],by simp [g6],by simp,hx,b0,s1,s2,by rw [hd,hz0];exact b1,by rw [hd,hz0];exact k0,by rw [hd,hz0];exact k1⟩
  rw [h1C hvb] at hsl2
  simp [L0i,L0h,hsl2,o0t hvb]
  clear q1 q2 q3 q4 hsl hsl2 hlb' hla hlb k2 k3
  refine a0B ?_
  obtain ⟨wa,hla,k2⟩:=a0O.load ka hi
  obtain ⟨wb,hlb,k3⟩:=a0O.load kb hib
  rw [← hea] at k2
  rw [← heb] at k3
  have k4:b0L _ (.agg #[.bool (a0e (d0V a b i)).1.1,s1,.bool (a0e (d0V a b i)).2.1,s2]) (a0e (d0V a b i)):=⟨s1,s2,rfl,k0,k1⟩
  simp [Q0D,g0,g1,g6,g7,ka.ia hi,kb.ia hib,hla,hlb,b1]
  refine (i0G k2 k3 (by have:=hx.1;omega) (by omega) (by omega)).mono ?_
  rintro _ G2 ⟨k5,hx2⟩
  replace k4:=k4.mono hx2
  replace k0:=k0.mono hx2
  replace k1:=k1.mono hx2
  replace b0:=hx2.blk b0
  replace b1:=hx2.blk b1
  replace hx:=hx.trans hx2
  have hsd:=h0C hfa hfb i
  have hsd2:i * (2 * S + 3)≤a.length * (2 * S + 3):=h1J _ (by omega)
  rw [h1X,i1r] at hS
  have hsm:=h0D (b0o ea) (b0o eb)
  have hs1:=b0E fa.2.1 fa.2.2
  have hs2:=b0E fb.2.1 fb.2.2
  simp
  refine (i0E k4 k5 hx.1 (by rw [a0I];omega) (by rw [a0I];omega)).mono ?_
  rintro _ G2 ⟨⟨s3,s4,rfl,k6,k7⟩,hx2⟩
  replace k0:=k0.mono hx2
  replace k1:=k1.mono hx2
  replace b0:=hx2.blk b0
  replace b1:=hx2.blk b1
  replace hx:=hx.trans hx2
  rw [a0D,a0D,← hd] at k6 k7 ⊢
  have hz:=a0l b1
  simp [g0,g1,g4,g5,g6,b1,k6.cells,k6.plain,k7.cells,k7.plain,hsz]
  generalize hS':Array.setIfInBounds _ _ _=G3
  have hS:=hS'
  replace k6:=k6.setS hS b1 (by decide)
  replace k7:=k7.setS hS b1 (by decide)
  replace b0:=a0o hS b0 (by omega)
  replace hx:=a0E hS hx (by omega)
  replace b1:=a0s hS b1
  unfold e0N
  simp [x0s,g7,hwn]
  exact c0f.mk ⟨by simp [g0],by simp [g1],by simp [g4],by simp [g5],by simp [g6],by simp,hx,b0,s3,s4,b1,k6,k7⟩
 ·subst heq
  have hz:=a0l b0
  simp [Q0E,g4,g6,b1,b0,k0.cells,k0.plain,k1.cells,k1.plain,hz]
  refine fun _=>⟨s1,s2,?_,?_,?_⟩
  ·rw [← he]
  ·rw [← he];exact k0.setT b0 (by decide)
  ·rw [← he];exact k1.setT b0 (by decide)
theorem g0j {d:List d0h} (hd:d0n H v d) (hf:fl≤H.size) (hfd:z0s d) (hdl:d.length < 1073741824) :
  a0S env fl W0W [v] H (fun r H'=>r=.bool (d0G (fun e=>decide ((i0u e).1 < 0)) d)∧Ext H H') R:=by
 refine a0i g1l hf (h:=?_)
 intro ρ h0
 simp [b1D,P0c,P0d,h0]
 refine c0q (fun n ρ G=>ρ 0=v∧ρ 3=.int .i64 (n:Int)∧Ext H G∧d0G (fun e:d0h=>decide ((i0u e).1 < 0)) (d.take n)=false) d.length (by decide) (by simp [h0,Ext.refl H,f0M]) ?_
 clear h0 ρ
 rintro n ρ G hn1 ⟨g0,g3,hx,hc⟩
 have kd:=hd.mono d0J hx
 simp [P0e,g0,g3,kd.slen]
 refine d0L.mk (by simp) (fun hi=>?_) (fun heq=>?_)
 ·obtain ⟨x,hl,k0⟩:=d0n.load kd hi
  simp [P0f,g0,g3,kd.ia hi,hl]
  refine (h0p k0 hx.1 (by have:=hfd _ (h1I hi);omega)).mono ?_
  rintro _ G3 ⟨⟨s1,s2,rfl,k1,k2⟩,hx3⟩
  replace hx:=hx.trans hx3
  have kx:(c0l (i0u d[n])).1=(i0u d[n]).1:=by unfold c0l;split <;> simp_all
  rw [kx]
  by_cases hneg:(i0u d[n]).1 < 0
  ·simp [Z0e,hneg,P0g]
   intros
   exact f0N hi (by simp [hneg])
  ·simp [Z0e,hneg]
   unfold e0N
   simp [P0h,g3,b0a (show n < 4611686018427387904 by omega)]
   exact c0f.mk ⟨by simp [g0],by simp,hx,by rw [e0O hi,hc];simp [hneg]⟩
 ·subst heq
  rw [h1T] at hc
  simp [P0i,hc]
theorem g0u {n:Nat} (hf:fl≤H.size) (hn:n < 1073741824) :
  a0S env fl X0l [.int .i64 (n:Int)] H (fun r H'=>b0e PR H.size H' a0b 4 r (List.replicate n (a0e 0))∧Ext H H') R:=by
 refine a0i g1U hf (h:=?_)
 intro ρ h0
 simp [c1m,S0y,S0z,S0A,h0]
 refine c0q (fun i ρ G=>ρ 0=.int .i64 (n:Int)∧ρ 4=.int .i64 (i:Int)∧Ext H G∧b0e PR H.size G a0b 4 (ρ 3) (List.replicate i (a0e 0))) n (by decide) ⟨by simp [h0],by simp,Ext.refl H,by simpa using b0e.nil⟩ ?_
 clear h0 ρ
 rintro i ρ G hi1 ⟨g0,g4,hx,ho⟩
 obtain ⟨s,g3⟩:∃ s,ρ 3=s:=⟨_,rfl⟩
 rw [g3] at ho
 simp [S0B,g0,g4]
 refine d0L.mk (by simp) (fun hi=>?_) (fun heq=>?_)
 ·simp [S0C,g3]
  refine (e0I (n:=0) hx.1 (by omega) (by omega)).mono ?_
  rintro _ G2 ⟨⟨s3,s4,rfl,k3,k4⟩,hx2⟩
  replace hx:=hx.trans hx2
  replace ho:=ho.mono a0u hx2
  obtain ⟨s',G4,h1,h2,h3,h4⟩:=b0e.app (P:=PR) (sz:=4) (e:=a0b) (by decide) (fun G' cs x _ hl h=>b0L.lx h hl) ho (e2:=a0b) (c:=1) (bytes:=64) (new:=[.bool (a0e 0).1.1,s3,.bool (a0e 0).2.1,s4]) (x:=a0e 0) ⟨s3,s4,rfl,k3,k4⟩ rfl (by simp [k3.plain,k4.plain]) (by simp;omega) (by omega) (by omega) hx.1
  have k3':a0U s3=[s3]:=k3.cells
  simp [g3,k3.cells,k4.cells,h1]
  unfold e0N
  simp [S0D,g4,b0a (show i < 4611686018427387904 by omega)]
  exact c0f.mk ⟨by simp [g0],by simp,h4 _ (h1A _) hx,b0e.cast (v':=s') (by simp) (by rw [List.replicate_succ'];exact h2)⟩
 ·subst heq
  simp [S0E,g3]
  exact fun _=>ho
theorem A0a {o:Option Nat} {H0 G':a0f} (h:Ext H0 G) (hx:e0p o G G') (ho:∀ b,o=some b→H0.size≤b):Ext H0 G':=by
 refine ⟨h1R h.1 hx.1,fun b hb=>?_⟩
 rw [hx.2 b (h1W hb h.1) (fun he=>by have:=ho b he;omega)]
 exact h.2 b hb
theorem b0e.app0 {α β:Type} {P:a0f→List Value→α→Prop} {Q:a0f→List Value→β→Prop} {fl fl' fl2 e sz sz' e' bytes:Nat} {v w:Value} {l:List α} {H':a0f} (h:b0e P fl G e sz v l) (k:b0e Q fl' H' e' sz' w ([]:List β)) :
  k0c fl2 H e sz bytes v w=some (v,H):=by
 obtain ⟨cs,⟨_,h1⟩,_⟩:=h
 obtain ⟨cs',⟨_,k1⟩,_⟩:=k
 rcases h1 with ⟨rfl,_⟩ | ⟨b,c,rfl,_⟩ <;> rcases k1 with ⟨rfl,_⟩ | ⟨b',c',rfl,_⟩ <;> simp [k0c]
def U0p (H:a0f) (P m:Nat) (s w sC:Value) (rows:List (List b0q)) (d:List d0h) (i:Nat) (ρ:Nat→Value) (G:a0f):Prop :=
 ρ 1=.int .i64 (m:Int)∧ρ 2=.int .i64 0∧ρ 3=w∧ρ 4=.pointer (some ⟨H.size,0,none⟩)∧ρ 8=.pointer (some ⟨H.size + 1,0,none⟩)∧ρ 9=.pointer (some ⟨P,0,none⟩)∧ρ 10=.int .i64 (i:Int)∧Ext H G ∧
  a0f.blk G H.size=.row false a0J [s]∧a0f.blk G (H.size + 1)=.row false b0j [.int .i64 0,.slice none 0 0,.slice none 0 0,.slice none 0 0] ∧
  ∃ sA sB,a0f.blk G P=.row false b0j [.int .i64 (m:Int),sA,sB,sC]∧b0e (PSo (slB sB)) H.size G a0R 1 sA (b0J (rows.take i) (d.take i)) ∧
   b0e PR H.size G a0b 4 sB (c0N (rows.take i) (d.take i))∧a0O G sC (List.replicate m (a0e 0))∧(slB sC=none ∨ slB sC ≠ slB sB)
theorem q0m {S m:Nat} {rows:List (List b0q)} {d:List d0h} (h:d0q H v rows) (hd:d0n H w d) (hf:fl≤H.size) (hS:S < 67108864) (hr:∀ r ∈ rows,Few S r∧r.length=m) (hm:m < 1073741824) (hfd:z0s d) (hdl:d.length < 1073741824) (hdr:d.length=rows.length) (hmay:∀ e ∈ d,m0n e=true) :
  a0S env fl Y0L [v,.int .i64 (m:Int),.int .i64 0,w] H (fun r H'=>LPV H' r ⟨m,b0J rows d,c0N rows d,List.replicate m (a0e 0)⟩∧Ext H H') R:=by
 obtain ⟨s,rfl,hs⟩:=h
 refine a0i g1u hf (h:=?_)
 intro ρ h0
 have w0:IntKind.i64.wrap ((m:Int) + 0)=(m:Int):=by rw [j1g];exact a0Y (by omega) (by omega)
 rw [j1g] at w0
 simp [b1M,P0R,h0,hs.cells]
 generalize hG:Array.push (Array.push H _) _=G
 have hx:Ext H G:=by rw [← hG];exact (Ext.refl H).push.push
 have b0:a0f.blk G H.size=.row false a0J [s]:=by rw [← hG];simp
 have b1:a0f.blk G (H.size + 1)=.row false b0j [.int .i64 0,.slice none 0 0,.slice none 0 0,.slice none 0 0]:=by rw [← hG];simp
 clear hG
 simp [P0S,h0,w0]
 refine (g0u (n:=m) hx.1 hm).mono ?_
 rintro sC G4 ⟨hC,hx2⟩
 replace b0:=hx2.blk b0;replace b1:=hx2.blk b1;replace hx:=hx.trans hx2
 have kC:=hC.sls
 have hsz:=hx.1
 have hb1l:=a0l b1
 simp [h0,kC.cells,kC.plain,hsz]
 generalize hN:Array.setIfInBounds (Array.push _ _) _ _=G5
 obtain ⟨hx2,b3⟩:=new1 hN
 clear hN
 replace b0:=hx2.blk b0;replace b1:=hx2.blk b1;replace hx:=hx.trans hx2
 replace kC:=kC.mono a0u hx2
 obtain ⟨P,hP⟩:∃ P,P=G4.size:=⟨_,rfl⟩
 rw [← hP] at b3 hsz hb1l ⊢
 have hPH:=hsz
 have hPne:P ≠ H.size + 1:=by omega
 simp [P0T]
 refine c0q (U0p H P m s w sC rows d) d.length (by decide) ⟨by simp [h0],by simp [h0],by simp [h0],by simp,by simp,by simp,by simp,hx,b0,b1,_,_,b3,by simpa [b0J] using b0e.nil,by simpa [c0N] using b0e.nil,kC,by
   cases hsc:slB sC with
   | none=>exact .inl rfl
   | some b=>right;simp [slB]⟩ ?_
 clear h0 ρ hx b0 b1 b3 kC hC hx2
 rintro i ρ G hi1 ⟨g1,g2,g3,g4,g8,g9,g10,hx,b0,b1,sA,sB,b3,hA,hB,kC,hCB⟩
 have kd:=hd.mono d0J hx
 simp [P0U,g3,g10,kd.slen]
 refine d0L.mk (by simp) (fun hi=>?_) (fun heq=>?_)
 ·have hir:i < rows.length:=by omega
  have hwn:=b0a (show i < 4611686018427387904 by omega)
  have ks:=hs.mono b0F hx
  obtain ⟨we,hle,k0⟩:=d0n.load kd hi
  have hme:=hmay _ (h1I hi)
  obtain ⟨e,hee⟩:∃ e,e=d[i]:=⟨_,rfl⟩
  have hfe:=hfd _ (h1I hi)
  have pA:=h0Q hir hi
  have pB:=h0R hir hi
  rw [← hee] at hme k0 hfe pA pB
  simp [P0V,g3,g10,kd.ia hi,hle]
  refine (h0p k0 hx.1 (by omega)).mono ?_
  rintro _ G2 ⟨⟨s1,s2,rfl,k1,k2⟩,hx2⟩
  replace b0:=hx2.blk b0;replace b1:=hx2.blk b1;replace b3:=hx2.blk b3;replace hx:=hx.trans hx2
  replace ks:=ks.mono b0F hx2
  replace hA:=hA.mono i0T hx2
  replace hB:=hB.mono a0u hx2
  replace kC:=kC.mono a0u hx2
  have hsz:=hx.1
  simp [k1.cells,k1.plain,k2.cells,k2.plain,hsz]
  generalize hN:Array.setIfInBounds (Array.push _ _) _ _=G3
  obtain ⟨hx2,b4⟩:=new1 hN
  clear hN
  replace b0:=hx2.blk b0;replace b1:=hx2.blk b1;replace b3:=hx2.blk b3;replace hx:=hx.trans hx2;replace k1:=k1.mono hx2;replace k2:=k2.mono hx2
  replace ks:=ks.mono b0F hx2
  replace hA:=hA.mono i0T hx2
  replace hB:=hB.mono a0u hx2
  replace kC:=kC.mono a0u hx2
  obtain ⟨P2,hP2⟩:∃ P2,P2=G2.size:=⟨_,rfl⟩
  rw [← hP2] at b4 hsz ⊢
  have hve:i0u e=if e.1=0 then (0,b0o e.2) else (e.1,0):=by unfold i0u;rw [h1F hme]
  by_cases he:e.1=0
  ·rw [h1F he] at hve pA pB
   have hcE:c0l (i0u e)=(0,a0e (b0o e.2)):=by rw [hve];rfl
   rw [hcE] at b4 k1 k2
   simp only at b4 k1 k2
   obtain ⟨q,hq⟩:∃ q,q=a0e (b0o e.2):=⟨_,rfl⟩
   rw [← hq] at b4 k1 k2 pB
   rw [hcE,← hq]
   simp [I0U,b4,P0W,P0X]
   obtain ⟨hfew,hrlen⟩:=hr _ (h1I hir)
   have hBlt:∀ b,slB sB=some b→b < G3.size:=fun b h=>(hB.ge h).2
   have hlA:=j0F (rows.take i) (d.take i)
   have hlB:=m0y (rows.take i) (d.take i)
   simp only [i1E] at hlA hlB
   obtain ⟨ri,hri⟩:∃ r,r=rows[i]:=⟨_,rfl⟩
   rw [← hri] at hfew hrlen pA
   refine c0q (fun k ρ G'=>ρ 1=.int .i64 (m:Int)∧ρ 2=.int .i64 0∧ρ 3=w∧ρ 4=.pointer (some ⟨H.size,0,none⟩)∧ρ 8=.pointer (some ⟨H.size + 1,0,none⟩)∧ρ 9=.pointer (some ⟨P,0,none⟩)∧ρ 10=.int .i64 (i:Int)∧ρ 11=.pointer (some ⟨P2,0,none⟩)∧ρ 13=.int .i64 (k:Int) ∧
    Ext G3 G'∧b0e PR H.size G' a0b 4 (ρ 12) ((h0P ri).take k)∧∀ b,slB (ρ 12)=some b→G3.size≤b) m (by decide)
    ⟨by simp [g1],by simp [g2],by simp [g3],by simp [g4],by simp [g8],by simp [g9],by simp [g10],by simp,by simp,Ext.refl G3,by simpa using b0e.nil,by simp [slB]⟩ ?_
   clear g1 g2 g3 g4 g8 g9 g10 ρ
   rintro k ρ G4 hk1 ⟨g1,g2,g3,g4,g8,g9,g10,g11,g13,hx3,ho,hge⟩
   obtain ⟨a,g12⟩:∃ s,ρ 12=s:=⟨_,rfl⟩
   rw [g12] at ho hge
   simp [P0Y,g1,g13]
   have hown:(h0P ri).length=m:=by unfold h0P;simp [hrlen]
   refine d0L.mk (by simp) (fun hk=>?_) (fun heq=>?_)
   ·have ks4:=ks.mono b0F hx3
    obtain ⟨wr,hlr,kr⟩:=d0o.load ks4 hir
    rw [← hri] at kr
    have hkr:k < ri.length:=by omega
    obtain ⟨wx,hlx,kx⟩:=a0O.load kr hkr
    simp [P0Z,g4,g10,g12,g13,hx3.blk b0,ks4.ia hir,hlr,kr.ia hkr,hlx]
    refine (b0z kx (by have:=hx.1;have:=hx3.1;omega) (by have:=(hfew _ (h1I hkr)).1;omega)).mono ?_
    rintro _ G5 ⟨⟨s3,s4,rfl,k3,k4⟩,hx2⟩
    replace hx3:=hx3.trans hx2
    replace ho:=ho.mono a0u hx2
    obtain ⟨v',G6,h1,h2,h3,h4⟩:=b0e.app (P:=PR) (sz:=4) (e:=a0b) (by decide) (fun G' cs x _ hl h=>b0L.lx h hl) ho (e2:=a0b) (c:=1) (bytes:=64) (new:=[.bool (a0e (b0o ri[k])).1.1,s3,.bool (a0e (b0o ri[k])).2.1,s4]) (x:=a0e (b0o ri[k])) ⟨s3,s4,rfl,k3,k4⟩ rfl (by simp [k3.plain,k4.plain]) (by simp;omega) (by omega) (by omega) (by have:=hx.1;have:=hx3.1;omega)
    obtain ⟨m1,c1,hfr⟩:=e0t (by decide) h1
    simp [g12,k3.cells,k4.cells,h1]
    unfold e0N
    simp [I0P,g13,b0a (show k < 4611686018427387904 by omega)]
    refine c0f.mk ⟨by simp [g1],by simp [g2],by simp [g3],by simp [g4],by simp [g8],by simp [g9],by simp [g10],by simp [g11],by simp,A0a hx3 h3 hge,b0e.cast (v':=v') (by simp) (by unfold h0P;rw [r0i hkr];exact h2),?_⟩
    intro b hb
    have hb':slB v' = some b:=by simpa using hb
    rw [hfr] at hb'
    simp [slB] at hb'
    have:=hx3.1
    omega
   ·subst heq
    rw [h1O (by omega)] at ho
    have hx2:=hx3
    replace b0:=hx2.blk b0;replace b1:=hx2.blk b1;replace b3:=hx2.blk b3;replace b4:=hx2.blk b4;replace hx:=hx.trans hx2;replace k1:=k1.mono hx2;replace k2:=k2.mono hx2
    replace hA:=hA.mono i0T hx2
    replace hB:=hB.mono a0u hx2
    replace kC:=kC.mono a0u hx2
    simp [I0Q,g2,g12]
    have hn0:=fun R'=>g0u (n:=0) (fl:=H.size) (H:=G4) (R:=R') hx.1 (by omega)
    simp only [Int.natCast_zero] at hn0
    refine (hn0 _).mono ?_
    rintro z G5 ⟨hz0,hx2⟩
    replace b0:=hx2.blk b0;replace b1:=hx2.blk b1;replace b3:=hx2.blk b3;replace b4:=hx2.blk b4;replace hx:=hx.trans hx2;replace k1:=k1.mono hx2;replace k2:=k2.mono hx2
    replace hA:=hA.mono i0T hx2
    replace hB:=hB.mono a0u hx2
    replace kC:=kC.mono a0u hx2
    replace ho:=ho.mono a0u hx2
    have happ:=b0e.app0 (H:=G5) (e:=a0b) (sz:=4) (bytes:=64) (fl2:=H.size) ho hz0
    have hrB:slB a=none ∨ slB a ≠ slB sB:=by
     cases hr1:slB a with
     | none=>exact .inl rfl
     | some b =>
      right;intro h
      have h1:=hge b hr1
      have h2:=hBlt b h.symm
      omega
    obtain ⟨cr,pr⟩:=ho.cells
    simp [g2,g12,happ]
    obtain ⟨sA',G6,h1,h2,h3,h4⟩:=b0e.app (P:=PSo (slB sB)) (sz:=1) (e:=a0R) (by decide)
     (fun G' cs x hxb hl ⟨w',q1,q2,q3⟩=>⟨w',q1,q2.lx2 (hA.lxT (by decide) hxb) hl,q3⟩) hA (e2:=a0R) (c:=1) (bytes:=24) (new:=[a]) (x:=h0P ri) ⟨a,rfl,ho.sls,hrB⟩ rfl (by simp [pr]) (by omega) (by omega) (by omega) hx.1
    have hlx:=hA.lx (by decide) h3
    have hlr:=hA.lxT (e':=a0b) (by decide) h3
    have nA0:=hA.ne b0 (by decide)
    have nA1:=hA.ne b1 (by decide)
    have nA3:=hA.ne b3 (by decide)
    have nA4:=hA.ne b4 (by decide)
    obtain ⟨cA,pA'⟩:=h2.cells
    have hz3:=a0l b3
    simp [I0R,g9,b3,cr,h1,cA,pA',hPH]
    replace b0:=(h3.2 _ (a0l b0) nA0).trans b0
    replace b1:=(h3.2 _ (a0l b1) nA1).trans b1
    replace b3:=(h3.2 _ (a0l b3) nA3).trans b3
    replace b4:=(h3.2 _ (a0l b4) nA4).trans b4
    replace hx:=h4 _ (h1A _) hx
    replace k1:=k1.lx hlx
    replace k2:=k2.lx hlx
    replace kC:=a0O.lx2 kC hlr hlx
    replace hB:=hB.lxm (Q':=PR) hlr (fun cs x h=>b0L.lx h hlx)
    rw [← pA] at h2
    replace hA:=h2
    clear h1 h2 h3 h4 ho happ hz0
    have hz:=a0l b3
    simp [b3,cA,pA',hPH,hz]
    generalize hS1:Array.setIfInBounds G6 P _=G7
    have t1:∀ {e:Nat},b0j ≠ e→LxT e G6 G7:=fun hne=>b0m hS1 b3 hne
    have n0:P ≠ H.size:=by intro h;rw [h,b0] at b3;cases b3
    have n4:P ≠ P2:=by intro h;rw [h,b4] at b3;cases b3
    replace hA:=hA.lxm (Q':=PSo (slB sB)) (t1 (by decide)) (fun cs x ⟨w',q1,q2,q3⟩=>⟨w',q1,q2.lx2 (t1 (by decide)) (t1 (by decide)),q3⟩)
    replace hB:=hB.lxm (Q':=PR) (t1 (by decide)) (fun cs x h=>b0L.lx h (t1 (by decide)))
    replace kC:=a0O.lx2 kC (t1 (by decide)) (t1 (by decide))
    replace k1:=k1.lx (t1 (by decide))
    replace k2:=k2.lx (t1 (by decide))
    replace b0:=a0o hS1 b0 n0
    replace b1:=a0o hS1 b1 hPne
    replace b4:=a0o hS1 b4 n4
    replace hx:=a0E hS1 hx hPH
    replace b3:=a0s hS1 b3
    clear hS1
    obtain ⟨sB',G8,p1,p2,p3,p4⟩:=b0e.app (P:=PR) (sz:=4) (e:=a0b) (by decide) (fun G' cs x _ hl h=>b0L.lx h hl) hB (e2:=a0b) (c:=1) (bytes:=64) (new:=[.bool q.1.1,s1,.bool q.2.1,s2]) (x:=q) ⟨s1,s2,rfl,k1,k2⟩ rfl (by simp [k1.plain,k2.plain]) (by omega) (by omega) (by omega) hx.1
    obtain ⟨_,_,hBe⟩:=e0t (by decide) p1
    obtain ⟨cB,pB'⟩:=p2.cells
    simp [I0S,g9,g11,b3,b4,k1.cells,k2.cells,p1]
    have hlx:=hB.lx (by decide) p3
    have nB0:=hB.ne b0 (by decide)
    have nB1:=hB.ne b1 (by decide)
    have nB3:=hB.ne b3 (by decide)
    have hsBn:slB sB' = some (G7.size + 1):=by rw [hBe];simp [slB]
    have hA':b0e (PSo (slB sB')) H.size G8 a0R 1 sA' (b0J (rows.take (i + 1)) (d.take (i + 1))):=by
     refine hA.lxm (hB.lxT (by decide) p3) (fun cs x ⟨w',q1,q2,q3⟩=>⟨w',q1,q2.off p3 q3 hlx,?_⟩)
     cases hw:slB w' with
     | none=>exact .inl rfl
     | some b=>right;rw [hsBn];have:=q2.lt hw;simp;omega
    have hCB':slB sC=none ∨ slB sC ≠ slB sB':=by
     cases hw:slB sC with
     | none=>exact .inl rfl
     | some b=>right;rw [hsBn];have:=a0O.lt kC hw;simp;omega
    replace kC:=a0O.off kC p3 hCB hlx
    replace b0:=(p3.2 _ (a0l b0) nB0).trans b0
    replace b1:=(p3.2 _ (a0l b1) nB1).trans b1
    replace b3:=(p3.2 _ (a0l b3) nB3).trans b3
    replace hx:=p4 _ (h1A _) hx
    rw [← pB] at p2
    have hz:=a0l b3
    simp [b3,cB,pB',hPH,hz]
    generalize hS1:Array.setIfInBounds G8 P _=G9
    have t1:∀ {e:Nat},b0j ≠ e→LxT e G8 G9:=fun hne=>b0m hS1 b3 hne
    unfold e0N
    simp [v0p,g10,hwn]
    refine c0f.mk ⟨by simp [g1],by simp [g2],by simp [g3],by simp [g4],by simp [g8],by simp [g9],by simp,a0E hS1 hx hPH,a0o hS1 b0 n0,a0o hS1 b1 hPne,sA',sB',a0s hS1 b3,?_,?_,?_,hCB'⟩
    ·exact hA'.lxm (t1 (by decide)) (fun cs x ⟨w',q1,q2,q3⟩=>⟨w',q1,q2.lx2 (t1 (by decide)) (t1 (by decide)),q3⟩)
    ·exact p2.lxm (t1 (by decide)) (fun cs x h=>b0L.lx h (t1 (by decide)))
    ·exact a0O.lx2 kC (t1 (by decide)) (t1 (by decide))
  ·rw [h1C he,List.append_nil] at pA pB
   rw [h1C he] at hve
   have hcE:(c0l (i0u e)).1=e.1:=by rw [hve];unfold c0l;rw [h1C he]
   rw [hcE] at b4
   simp [I0U,b4,he]
   unfold e0N
   simp [v0p,g10,hwn]
   exact c0f.mk ⟨by simp [g1],by simp [g2],by simp [g3],by simp [g4],by simp [g8],by simp [g9],by simp,hx,b0,b1,sA,sB,b3,by rw [pA];exact hA,by rw [pB];exact hB,kC,hCB⟩
 ·subst heq
  rw [hdr,h1T,← hdr,h1T] at hA hB
  have hz:=a0l b1
  obtain ⟨cA,pA⟩:=hA.cells
  obtain ⟨cB,pB⟩:=hB.cells
  simp [I0T,g8,g9,b3,b1,cA,pA,cB,pB,kC.cells,kC.plain,hz]
  generalize hS:Array.setIfInBounds _ _ _=G9
  have t1:∀ {e:Nat},b0j ≠ e→LxT e G G9:=fun hne=>b0m hS b1 hne
  refine fun _=>⟨sA,sB,sC,rfl,?_,a0O.lx2 hB.sls (t1 (by decide)) (t1 (by decide)),a0O.lx2 kC (t1 (by decide)) (t1 (by decide))⟩
  exact d0o.lx3 (hA.imp (fun cs x ⟨w',q1,q2,_⟩=>⟨w',q1,q2⟩)).sls (t1 (by decide)) (t1 (by decide)) (t1 (by decide))
theorem f0S {rows:List (List b0q)} {n:Int} {d:List d0h} (h:c0x rows n d=true):d.length=rows.length∧(∀ e ∈ d,m0n e=true)∧0≤n∧n≤6∧rows.length≤40∧∀ r ∈ rows,(r.length:Int)=n:=by
 unfold c0x h0x at h
 simp only [h1S,i1w,j1l] at h
 obtain ⟨⟨⟨⟨⟨h1,h2⟩,h3⟩,h4⟩,h5⟩,h6⟩:=h
 refine ⟨h5,fun e he=>?_,h1,h2,h3,fun r hr=>?_⟩
 ·cases hm:m0n e with
  | true=>rfl
  | false=>exact h1Y (j1d.2 ⟨e,he,(by rw [hm];rfl:(!m0n e)=true)⟩) (by unfold d0G at h6;rw [h6];decide)
 ·unfold p0v at h4
  have:=i1p.1 h4 r hr
  unfold k0G at this
  simp only [h1S,i1w] at this
  exact this.1
theorem l0V {d:List d0h} (h:∀ e ∈ d,m0n e=true):d0G (fun e=>decide ((i0u e).1 < 0)) d=d0G (fun e:d0h=>decide (e.1 < 0)) d:=by
 induction d with
 | nil=>rfl
 | cons e l ih =>
  have h1:=h e (by simp)
  have h2:(i0u e).1=e.1:=by unfold i0u;rw [h1F h1];split;rename_i h;rw [h];rfl
  have h3:=ih (fun x hx=>h x (by simp [hx]))
  unfold d0G at h3 ⊢
  rw [List.any_cons,List.any_cons,h3,h2]
theorem l0s {S:Nat} {rows:List (List b0q)} {n:Int} {d:List d0h} (h:d0q H v rows) (hd:d0n H w d) (hf:fl≤H.size) (hS:S < 67108864) (hr:∀ r ∈ rows,Few S r∧r.length < 1073741824) (hrl:rows.length < 1073741824) (hfd:z0s d) (hdl:d.length < 1073741824) :
  a0S env fl Y0C [v,.int .i64 n,w] H (fun r H'=>(if c0x rows n d=true∧d0G (fun e=>decide (e.1 < 0)) d=false then ∃ p,r=.tuple #[p,.bool true]∧LPV H' p ⟨n,b0J rows d,c0N rows d,List.replicate n.toNat (a0e 0)⟩ else ∃ p,r=.tuple #[p,.bool false]∧LPV H' p ⟨0,[],[],[]⟩)∧Ext H H') R:=by
 obtain ⟨s,rfl,hs⟩:=h
 refine a0i g1c hf (h:=?_)
 intro ρ h0
 simp [b1v,O0l,h0,hs.cells]
 generalize hG:Array.push (Array.push H _) _=G
 have hx:Ext H G:=by rw [← hG];exact (Ext.refl H).push.push
 have b0:a0f.blk G H.size=.row false a0J [s]:=by rw [← hG];simp
 have b1:a0f.blk G (H.size + 1)=.row false b0j [.int .i64 0,.slice none 0 0,.slice none 0 0,.slice none 0 0]:=by rw [← hG];simp
 clear hG
 have kt:d0q G (.agg #[s]) rows:=⟨s,rfl,hs.mono b0F hx⟩
 simp [O0m,h0,b0]
 refine (d0T kt (hd.mono d0J hx) hx.1 hS hr hrl hfd hdl).mono ?_
 rintro _ G2 ⟨rfl,hx2⟩
 replace b0:=hx2.blk b0;replace b1:=hx2.blk b1;replace hx:=hx.trans hx2
 cases hv:c0x rows n d
 ·have hz:=a0l b1
  simp [F0b,h0,b1,hz]
  exact fun _=>⟨_,_,_,rfl,Sls.nil,Sls.nil,Sls.nil⟩
 obtain ⟨hdr,hmay,hn0,hn6,hr40,hrn⟩:=f0S hv
 simp [h0]
 refine (g0j (hd.mono d0J hx) hx.1 hfd hdl).mono ?_
 rintro _ G2 ⟨rfl,hx2⟩
 replace b0:=hx2.blk b0;replace b1:=hx2.blk b1;replace hx:=hx.trans hx2
 rw [l0V hmay]
 cases hno:d0G (fun e:d0h=>decide (e.1 < 0)) d
 case true =>
  have hz:=a0l b1
  simp [F0b,h0,b1,hz]
  exact fun _=>⟨_,_,_,rfl,Sls.nil,Sls.nil,Sls.nil⟩
 obtain ⟨m,rfl⟩:∃ m:Nat,n=m:=⟨n.toNat,by omega⟩
 have kt:d0q G2 (.agg #[s]) rows:=⟨s,rfl,hs.mono b0F hx⟩
 simp [O0n,h0,b0]
 refine (q0m (S:=S) (m:=m) kt (hd.mono d0J hx) hx.1 hS (fun r hr'=>⟨(hr r hr').1,by have:=hrn r hr';omega⟩) (by omega) hfd hdl hdr hmay).mono ?_
 rintro _ G3 ⟨⟨sA,sB,sC,rfl,kA,kB,kC⟩,hx2⟩
 replace b1:=hx2.blk b1;replace hx:=hx.trans hx2
 have hz:=a0l b1
 simp [b1,kA.cells,kA.plain,kB.cells,kB.plain,kC.cells,kC.plain,hz]
 generalize hS:Array.setIfInBounds _ _ _=G9
 have t1:∀ {e:Nat},b0j ≠ e→LxT e G3 G9:=fun hne=>b0m hS b1 hne
 refine fun _=>⟨sA,sB,sC,rfl,?_,a0O.lx2 kB (t1 (by decide)) (t1 (by decide)),a0O.lx2 kC (t1 (by decide)) (t1 (by decide))⟩
 exact d0o.lx3 kA (t1 (by decide)) (t1 (by decide)) (t1 (by decide))
theorem l0L {a:List (List b0q)} {p:List b0q→Bool} {g:FuncId} {c:Value} (I:a0f→Prop) (hI:∀ G G',Ext G G'→I G→I G') (h0:I H) (ha:d0o H v a) (hf:fl≤H.size) (hal:a.length < 1073741824)
  (hg:∀ (fl:Nat) (G:a0f) (v:Value) (e:List b0q),I G→fl≤G.size→a0O G v e→a0S env fl g [v,c] G (fun r H'=>r=.bool (p e)∧Ext G H') R) :
  a0S env fl A0k [v,.func (.func g) #[] #[c]] H (fun r H'=>(∃ z:Int,r=.int .i64 z∧(0≤z ↔ d0G p a=true))∧Ext H H') R:=by
 refine a0i e1i hf (h:=?_)
 intro ρ h1
 simp [M0B,E0q,E0r,h1,ha.slen]
 refine d0Q (n:=a.length) (fun i ρ G=>ρ 0=v∧ρ 1=.func (.func g) #[] #[c]∧Ext H G∧d0G p (a.take i)=false)
  rfl rfl (by decide) (by omega) (by simp) (by simp) ?_ ?_ ?_ ?_
 ·exact ⟨by simp [h1],by simp [h1],Ext.refl H,by rw [k1g];exact f0M⟩
 ·intro i ρ ρ' G h hI;simpa [h] using hI
 ·clear h1 ρ
  rintro i ρ G hi gi gn ⟨g0,g1,hx,hc⟩
  have ka:=ha.mono b0F hx
  obtain ⟨w,hl,k0⟩:=d0o.load ka hi
  simp [E0s,E0t,gi,g0,g1,ka.ia hi,hl]
  refine (hg _ _ _ _ (hI _ _ hx h0) hx.1 k0).mono ?_
  rintro _ G2 ⟨rfl,hx2⟩
  have hx':=hx.trans hx2
  cases hp:p a[i]
  ·simp
   exact Rnd.mk (by simp [gi]) (by simp [gn]) ⟨by simp [g0],by simp [g1],hx',by rw [e0O hi,hc,hp];rfl⟩
  ·simp [E0u,gi]
   exact fun _=>f0N hi hp
 ·clear h1 ρ
  rintro ρ G gi gn ⟨g0,g1,hx,hc⟩
  rw [h1T] at hc
  simp [E0v,hc]
theorem j0f {a:List (List b0q)} {p:List b0q→Bool} {g:FuncId} {c:Value} (I:a0f→Prop) (hI:∀ G G',Ext G G'→I G→I G') (h0:I H) (ha:d0o H v a) (hf:fl≤H.size) (hal:a.length < 1073741824)
  (hg:∀ (fl:Nat) (G:a0f) (v:Value) (e:List b0q),I G→fl≤G.size→a0O G v e→a0S env fl g [v,c] G (fun r H'=>r=.bool (p e)∧Ext G H') R) :
  a0S env fl A0e [v,.func (.func g) #[] #[c]] H (fun r H'=>r=.bool (d0G p a)∧Ext H H') R:=by
 refine a0i d1K hf (h:=?_)
 intro ρ h1
 simp [M0d,C0l,C0m,h1]
 refine (l0L (p:=p) I hI h0 ha (h1A _) hal hg).mono ?_
 rintro _ G2 ⟨⟨z,rfl,hz⟩,hx2⟩
 simp
 intro _
 rw [k1o,i1w];exact hz
theorem m0l {l:List b0q} {b:Nat} {n:Int} {r:List Value} {e:TypeId} (hl:a0O H v l) (hb:H.blk b=.row false e (.int .i64 n :: r)) (hf:fl≤H.size) :
  a0S env fl A0f [v,.pointer (some ⟨b,0,none⟩)] H (fun r H'=>r=.bool (!decide ((l.length:Int)=n))∧Ext H H') R:=by
 refine a0i d1L hf (h:=?_)
 intro ρ h0
 simp [M0e,C0n,C0o,h0,hl.slen,hb]
 by_cases h:(l.length:Int)=n
 ·simp [h]
 ·simp [h]
def n0n (p:LPt):Bool:=decide (0≤p.n) && decide (p.n≤60) && decide (p.A.length≤60) && decide (p.B.length=p.A.length) && decide ((p.C.length:Int)=p.n) && !d0G (fun r=>!decide ((r.length:Int)=p.n)) p.A
theorem p0U {p:LPt} (h:LPV H v p) (hf:fl≤H.size):a0S env fl Y0T [v] H (fun r H'=>r=.bool (n0n p)∧Ext H H') R:=by
 obtain ⟨sA,sB,sC,rfl,hA,hB,hC⟩:=h
 refine a0i g1S hf (h:=?_)
 intro ρ h0
 simp [c1k,S0r,h0,hA.cells,hB.cells,hC.cells]
 generalize hG:Array.push H _=G
 obtain ⟨hx2,b0⟩:=g0r hG
 have hx:=Ext.refl H
 clear hG
 replace hx:=hx.trans hx2
 unfold n0n
 by_cases h1:p.n < 0
 ·have h1':¬ 0≤p.n:=by omega
  simp [n0j,p0f,h0,b0,h1,h1']
 have h1':0≤p.n:=by omega
 by_cases h2:60 < p.n
 ·have h2':¬ p.n≤60:=by omega
  simp [n0j,p0f,h0,b0,h1,h1',h2,h2']
 have h2':p.n≤60:=by omega
 by_cases h3:60 < p.A.length
 ·have h3':¬ p.A.length≤60:=by omega
  have h3'':(60:Int) < (p.A.length:Int):=by omega
  simp [n0j,p0f,h0,b0,h1,h1',h2,h2',h3,h3',h3'',hA.slen]
 have h3':p.A.length≤60:=by omega
 have h3'':¬ (60:Int) < (p.A.length:Int):=by omega
 by_cases h4:p.B.length=p.A.length
 case neg =>
  have h4':¬ (p.B.length:Int)=(p.A.length:Int):=by omega
  simp [n0j,p0f,h0,b0,h1,h1',h2,h2',h3,h3',h3'',h4,h4',hA.slen,hB.slen]
 have h4':(p.B.length:Int)=(p.A.length:Int):=by omega
 by_cases h5:(p.C.length:Int)=p.n
 case neg =>
  simp [n0j,p0f,h0,b0,h1,h1',h2,h2',h3,h3',h3'',h4,h4',h5,hA.slen,hB.slen,hC.slen]
 simp [n0j,S0s,h0,b0,h1,h1',h2,h2',h3,h3',h3'',h4,h4',h5,hA.slen,hB.slen,hC.slen]
 refine (j0f (p:=fun r=>!decide ((r.length:Int)=p.n)) (c:=.pointer (some ⟨H.size,0,none⟩)) (fun G=>a0f.blk G H.size=.row false b0j [.int .i64 p.n,sA,sB,sC]) (fun _ _ hx h=>hx.blk h) b0 (hA.mono b0F hx) hx.1 (by omega)
  (fun fl G v e hb hf hl=>m0l hl hb hf)).mono ?_
 rintro _ G2 ⟨rfl,hx2⟩
 simp
theorem f0n {S:Nat} {l:List b0q} (hv:a0O H v l) (hf:fl≤H.size) (hfw:Few S l) (hS:S < 67108864) (hl:l.length < 1073741824) :
  a0S env fl y0k [v] H (fun r H'=>b0e PR H.size H' a0b 4 r (h0P l)∧Ext H H') R:=by
 refine a0i e1k hf (h:=?_)
 intro ρ h0
 have w1:IntKind.i64.wrap ((l.length:Int) + 1)=(l.length:Int) + 1:=a0Y (by omega) (by omega)
 have hm:=X0v (bytes:=64) (k:=.i64) (k':=.i64) (l:=0) (c:=(l.length:Int) + 1) (by omega) (by omega) (by omega) (by omega)
 simp [M0D,E0E,E0F,E0G,h0,hv.slen,w1,hm]
 refine d0Q (n:=l.length) (fun i ρ G=>ρ 10=v∧Ext H G∧b0e PR H.size G a0b 4 (ρ 3) ((h0P l).take i))
  rfl rfl (by decide) (by omega) (by simp) (by simp) ?_ ?_ ?_ ?_
 ·refine ⟨by simp [h0],(Ext.refl H).push,?_⟩
  simp
  exact ⟨[],Own.mk a0C rfl (h1A _),fun k hk=>by simp at hk⟩
 ·intro i ρ ρ' G h hI;simpa [h] using hI
 ·clear h0 ρ
  rintro i ρ G hi gi gn ⟨g6,hx,ho⟩
  obtain ⟨s,g3⟩:∃ s,ρ 3=s:=⟨_,rfl⟩
  rw [g3] at ho
  have kv:=hv.mono a0u hx
  obtain ⟨x,hlx,k0⟩:=a0O.load kv hi
  obtain ⟨s1,s2,rfl,k1,k2⟩:=id k0
  have hf2:=hfw _ (h1I hi)
  have hsz:=hx.1
  simp [E0H,g6,gi,kv.ia hi,hlx,k1.cells,k1.plain,k2.cells,k2.plain,hsz]
  generalize hN:Array.setIfInBounds (Array.push _ _) _ _=G3
  obtain ⟨hx2,b1⟩:=new1 hN
  clear hN
  replace hx:=hx.trans hx2;replace k0:=k0.mono hx2
  replace ho:=ho.mono a0u hx2
  simp [E0I,b1]
  refine (c0j k0 (b:=d0P) e0T hx.1 (by omega) (by decide)).mono ?_
  rintro _ G2 ⟨⟨s3,s4,rfl,k3,k4⟩,hx2⟩
  replace hx:=hx.trans hx2
  replace ho:=ho.mono a0u hx2
  rw [c0C,j1O] at k3 k4 ⊢
  obtain ⟨s',G4,h1,h2,h3,h4⟩:=b0e.app (P:=PR) (sz:=4) (e:=a0b) (by decide) (fun G' cs x _ hl h=>b0L.lx h hl) ho (e2:=a0b) (c:=1) (bytes:=64) (new:=[.bool (a0e (b0o l[i])).1.1,s3,.bool (a0e (b0o l[i])).2.1,s4]) (x:=a0e (b0o l[i])) ⟨s3,s4,rfl,k3,k4⟩ rfl (by simp [k3.plain,k4.plain]) (by simp;omega) (by omega) (by omega) hx.1
  simp [g3,k3.cells,k4.cells,h1]
  exact Rnd.mk (by simp [gi]) (by simp [gn]) ⟨by simp [g6],h4 _ (h1A _) hx,b0e.cast (v':=s') (by simp) (by unfold h0P;rw [r0i hi];exact h2)⟩
 ·clear h0 ρ
  rintro ρ G gi gn ⟨g6,hx,ho⟩
  obtain ⟨s,g3⟩:∃ s,ρ 3=s:=⟨_,rfl⟩
  rw [g3] at ho
  rw [h1O (by simp [h0P])] at ho
  simp [E0J,g3]
  exact fun _=>ho
def PI (H:a0f) (cs:List Value) (z:Int):Prop:=b0d H (.agg cs.toArray) (a0j z)
theorem d0i:l0i PI:=fun _ _ _ _ hx h=>b0d.mono h hx
theorem b0d.lx {i:Bool × List Nat} (h:b0d H v i) (hx:Lx H G):b0d G v i:=by obtain ⟨s,h1,h2⟩:=h;exact ⟨s,h1,h2.lx hx⟩
theorem V0w {G3:a0f} {z1 z2 r1 r2:Blk} (hN:Array.setIfInBounds (Array.setIfInBounds (Array.push (Array.push G z1) z2) G.size r1) (G.size + 1) r2=G3):Ext G G3∧a0f.blk G3 G.size=r1∧a0f.blk G3 (G.size + 1)=r2:=by
 rw [← hN];exact new2
theorem b0e.store {α:Type} {Q:a0f→List Value→α→Prop} {fl e sz:Nat} {v:Value} {l:List α} {j:Nat} {x:α} {w:Value} (h:b0e Q fl G e sz v l) (hj:j < l.length) (hs:0 < sz) (hw:(a0U w).length=sz) (hp:(a0U w).all a0F=true)
  (hx:∀ G',e0p (slB v) G G'→Lx G G'→Q G' (a0U w) x) (he:e ≠ a0k) (hO:∀ G' cs y,e0p (slB v) G G'→Lx G G'→Q G cs y→Q G' cs y) :
  ∃ G',e0X fl G sz (adr sz v j) w=some G'∧b0e Q fl G' e sz v (l.set j x)∧e0p (slB v) G G':=by
 obtain ⟨cs,⟨hl,⟨rfl,h0⟩ | ⟨b,cap,rfl,hb,hf⟩⟩,h2⟩:=id h
 ·omega
 have hj2:(j + 1) * sz≤l.length * sz:=h1J _ hj
 rw [h1X,i1r] at hj2
 have hst:=n0u (fl:=fl) (b:=b) (o:=0 + j * sz) (n:=sz) (x:=w) hb hf hw (by omega) hp
 have hwe:=h0G (a0U w) cs (0 + j * sz) (by rw [hw];omega)
 have hwl:=c0y (a0U w) cs (0 + j * sz)
 generalize b0t cs (0 + j * sz) (a0U w)=cs' at *
 have hxb:e0p (slB (.slice (some ⟨b,0,none⟩) l.length cap)) G (G.setIfInBounds b (.row false e cs')):=e0p.refl.set
 have hlx:=b0e.lx h he hxb
 refine ⟨_,hst,⟨cs',⟨by rw [hwl,hl,List.length_set],.inr ⟨b,cap,by rw [List.length_set],by rw [a0A (a0l hb)],hf⟩⟩,fun k hk=>?_⟩,hxb⟩
 rw [List.length_set] at hk
 have hk2:(k + 1) * sz≤l.length * sz:=h1J _ hk
 rw [h1X,i1r] at hk2
 rw [i1o,hw] at hwe
 by_cases hkj:k=j
 ·subst hkj
  have key:(cs'.drop (k * sz)).take sz=a0U w:=by
   rw [hwe,List.append_assoc,List.drop_left' (by simp;omega),List.take_left' hw]
  rw [List.getElem_set_self,key]
  exact hx _ hxb hlx
 ·rw [k1l (by omega)]
  have key:(cs'.drop (k * sz)).take sz=(cs.drop (k * sz)).take sz:=by
   rw [hwe]
   apply j1L
   intro i
   by_cases hi:i < sz
   ·rw [i1S,h1F hi,i1S,h1F hi,i1Z,i1Z]
    by_cases hlt:k < j
    ·have:(k + 1) * sz≤j * sz:=h1J _ hlt
     rw [h1X,i1r] at this
     rw [List.append_assoc,i1u (by simp;omega),i1S,h1F (by omega)]
    ·have:(j + 1) * sz≤k * sz:=h1J _ (by omega)
     rw [h1X,i1r] at this
     rw [i1B (by simp [hw];omega),i1Z]
     congr 1
     simp [hw];omega
   ·rw [i1S,h1C hi,i1S,h1C hi]
  rw [key];exact hO _ _ _ hxb hlx (h2 k hk)
structure Whole (xs:List Rat) (zs:List Int) (by':Rat) (K:Nat):Prop where
 len:zs.length=xs.length
 pos:0 < by'
 eq:∀ i (h:i < xs.length),((zs[i]'(by omega):Int):Rat)=xs[i] * by'
 szz:∀ z ∈ zs,lz z≤K
 szb:szR by'≤K
def z0E (H:a0f) (P:Nat) (v:Value) (xs:List Rat) (S:Nat) (i:Nat) (ρ:Nat→Value) (G:a0f):Prop :=
 ρ 0=v∧ρ 22=v∧ρ 3=.pointer (some ⟨H.size,0,none⟩)∧ρ 4=.pointer (some ⟨P,0,none⟩)∧Ext H G ∧
  a0f.blk G H.size=.row false a0b [.bool false,.slice none 0 0,.bool false,.slice none 0 0] ∧
  ∃ (m:Nat) (s:Value),0 < m∧a0f.blk G P=.row false a0a [.bool false,s]∧Lim G s (a0p m)∧(∀ k (h:k < xs.length),k < i→xs[k].den ∣ m)∧lz m≤1 + i * S
theorem x0J (a b:Nat):((a:Int).tdiv (b:Int))=((a / b:Nat):Int):=by rw [i1Y (by omega)];rfl
theorem V0r (m q:Nat) (hm:0 < m) (hq:0 < q):m ∣ m * (q / Nat.gcd m q)∧q ∣ m * (q / Nat.gcd m q)∧0 < m * (q / Nat.gcd m q)∧q / Nat.gcd m q≤q:=by
 have hg:=Nat.gcd_pos_of_pos_left q hm
 refine ⟨Nat.dvd_mul_right _ _,?_,Nat.mul_pos hm (Nat.div_pos (Nat.le_of_dvd hq (Nat.gcd_dvd_right m q)) hg),i1M _ _⟩
 obtain ⟨c,hc⟩:=Nat.gcd_dvd_left m q
 have h1:Nat.gcd m q * (q / Nat.gcd m q)=q:=Nat.mul_div_cancel' (Nat.gcd_dvd_right m q)
 refine ⟨c,?_⟩
 calc m * (q / Nat.gcd m q)=(Nat.gcd m q * c) * (q / Nat.gcd m q):=by rw [← hc]
  _=(Nat.gcd m q * (q / Nat.gcd m q)) * c:=by grind
  _=q * c:=by rw [h1]
def o0d (xs:List Rat) (m:Nat):List Int:=xs.map fun x=>x.num * ((m / x.den:Nat):Int)
def z0F (H:a0f) (P P2:Nat) (v:Value) (xs:List Rat) (m K:Nat) (s:Value) (i:Nat) (ρ:Nat→Value) (G:a0f):Prop :=
 ρ 44=v∧ρ 3=.pointer (some ⟨H.size,0,none⟩)∧ρ 4=.pointer (some ⟨P,0,none⟩)∧ρ 11=.pointer (some ⟨P2,0,none⟩)∧Ext H G ∧
  a0f.blk G H.size=.row false a0b [.bool false,.slice none 0 0,.bool false,.slice none 0 0]∧a0f.blk G P=.row false a0a [.bool false,s]∧Lim G s (a0p m) ∧
  slB (ρ 10) ≠ some P∧slB (ρ 10) ≠ some P2 ∧
  ∃ (g:Nat) (sg:Value),a0f.blk G P2=.row false a0a [.bool false,sg]∧Lim G sg (a0p g)∧b0e PI H.size G a0a 2 (ρ 10) ((o0d xs m).take i) ∧
   (∀ k (h:k < xs.length),k < i→(g:Int) ∣ (o0d xs m).getD k 0)∧lz g≤K∧(i=0→g=0)
def p0r (H:a0f) (P P2:Nat) (so:Value) (xs:List Rat) (m g:Nat) (s sg:Value) (i:Nat) (ρ:Nat→Value) (G:a0f):Prop :=
 ρ 10=so∧ρ 3=.pointer (some ⟨H.size,0,none⟩)∧ρ 4=.pointer (some ⟨P,0,none⟩)∧ρ 11=.pointer (some ⟨P2,0,none⟩)∧Ext H G ∧
  a0f.blk G H.size=.row false a0b [.bool false,.slice none 0 0,.bool false,.slice none 0 0]∧a0f.blk G P=.row false a0a [.bool false,s]∧Lim G s (a0p m) ∧
  a0f.blk G P2=.row false a0a [.bool false,sg]∧Lim G sg (a0p g) ∧
  ∃ L:List Int,b0e PI H.size G a0a 2 so L∧L.length=xs.length∧∀ k,k < xs.length→L.getD k 0=if k < i then (o0d xs m).getD k 0 / (g:Int) else (o0d xs m).getD k 0
theorem OwnsI.load {fl:Nat} {l:List Int} (h:b0e PI fl H a0a 2 v l) {j:Nat} (hj:j < l.length):∃ w,b0x H true 2 (adr 2 v j)=some w∧b0d H w (a0j l[j]):=by
 obtain ⟨cs,h1,_,h3⟩:=Sls.load h.sls hj (by omega);exact ⟨_,h1,h3⟩
theorem N0S {z:Int} {g:Nat} (h:(g:Int) ∣ z):lz (z / (g:Int))≤lz z:=by
 refine m0m ?_
 rw [Int.natAbs_ediv_of_dvd h]
 exact i1M _ _
theorem x0K {x:Rat} {m g:Nat} (hm:x.den ∣ m) (hm0:0 < m) (hg:0 < g) (hd:(g:Int) ∣ x.num * ((m / x.den:Nat):Int)) :
  ((x.num * ((m / x.den:Nat):Int) / (g:Int):Int):Rat)=x * Rat.divInt (m:Int) (g:Int):=by
 obtain ⟨c,rfl⟩:=hm
 have hdp:=x.den_pos
 rw [Nat.mul_div_cancel_left _ hdp] at hd ⊢
 obtain ⟨z,hz⟩:=hd
 have hg0:(g:Int) ≠ 0:=by omega
 rw [hz,Int.mul_ediv_cancel_left _ hg0]
 conv=>rhs;lhs;rw [← k1z x]
 rw [Rat.divInt_mul_divInt]
 have h1:((z:Int):Rat)=Rat.divInt z 1:=by
  have:=k1z (z:Rat)
  rw [k1A,k1y] at this;exact this.symm
 rw [h1,Rat.divInt_eq_divInt_iff (by omega) (j1W (by omega) hg0)]
 rw [h1V,Int.mul_one]
 have:x.num * ((x.den:Int) * (c:Int))=(x.den:Int) * (x.num * c):=by grind
 rw [this,hz];grind
theorem o0i {m g:Nat} (hm:0 < m) (hg:0 < g):0 < Rat.divInt (m:Int) (g:Int):=by
 have h1:Rat.divInt (m:Int) (g:Int)=(m:Rat) * (g:Rat)⁻¹:=by rw [← Rat.div_def];exact Rat.divInt_eq_div _ _
 rw [h1]
 exact Rat.mul_pos (Rat.natCast_pos.2 hm) (Rat.inv_pos.2 (Rat.natCast_pos.2 hg))
theorem g0v {S:Nat} {xs:List Rat} (hv:a0O H v (xs.map a0e)) (hf:fl≤H.size) (hS:∀ x ∈ xs,szR x≤S) (hK:(xs.length + 2) * (S + 1) < 67108864) :
  a0S env fl y0j [v] H (fun r H'=>(∃ q1 q2 by' zs,r=.tuple #[q1,q2]∧Whole xs zs by' ((xs.length + 2) * (S + 1))∧b0e PI H.size H' a0a 2 q1 zs∧b0L H' q2 (a0e by'))∧Ext H H') R:=by
 refine a0i e1j hf (h:=?_)
 intro ρ h0
 have hxl:xs.length < 67108864:=by
  have:(xs.length + 2) * 1≤(xs.length + 2) * (S + 1):=i1b _ (by omega)
  omega
 have hvl:=hv.slen
 rw [i1P] at hvl
 simp [M0C,E0w,h0]
 generalize hG:Array.push H _=G
 obtain ⟨hx2,b0⟩:=g0r hG
 have hx:=Ext.refl H
 clear hG
 replace hx:=hx.trans hx2
 simp [E0x]
 refine (c0W (n:=1) hx.1 (by omega) (by omega)).mono ?_
 rintro _ G2 ⟨⟨s1,rfl,k0⟩,hx2⟩
 replace b0:=hx2.blk b0;replace hx:=hx.trans hx2
 have hsz:=hx.1
 simp [h0,k0.cells,k0.plain,hsz]
 generalize hN:Array.setIfInBounds (Array.push _ _) _ _=G3
 obtain ⟨hx2,b1⟩:=new1 hN
 have hb0l:=a0l b0
 clear hN
 replace b0:=hx2.blk b0;replace hx:=hx.trans hx2;replace k0:=k0.mono hx2
 obtain ⟨P,hP⟩:∃ P,P=G2.size:=⟨_,rfl⟩
 rw [← hP] at b1 hsz hb0l ⊢
 simp [E0y,h0,hvl]
 have h1c:a0j 1=(false,a0p 1):=a0t 1
 rw [h1c] at b1 k0
 refine d0Q (n:=xs.length) (z0E H P v xs S) rfl rfl (by decide) (by omega) (by simp) (by simp) ?_ ?_ ?_ ?_
 ·exact ⟨by simp [h0],by simp [h0],by simp,by simp,hx,b0,1,s1,by omega,b1,k0,fun k _ hk=>by omega,by rw [show ((1:Nat):Int)=1 from rfl,g0q];omega⟩
 ·intro i ρ ρ' G h hI;simpa [z0E,h] using hI
 ·clear h0 ρ hx b0 b1 k0 hx2
  rintro i ρ G hi gi gn ⟨g0,g22,g3,g4,hx,b0,m,s,hm0,b1,k0,hdv,hlm⟩
  have kv:=hv.mono a0u hx
  have hil:i < (xs.map a0e).length:=by simpa using hi
  obtain ⟨x,hlx,k1⟩:=a0O.load kv hil
  rw [i1x] at k1
  obtain ⟨s1,s2,rfl,k2,k3⟩:=id k1
  have hsx:=hS _ (h1I hi)
  have hsz:=hx.1
  have hden:=xs[i].den_pos
  simp [E0z,g22,gi,kv.ia hil,hlx,k2.cells,k2.plain,k3.cells,k3.plain,hsz]
  generalize hN:Array.setIfInBounds (Array.push _ _) _ _=G3
  obtain ⟨hx2,b2⟩:=new1 hN
  clear hN
  replace b0:=hx2.blk b0;replace b1:=hx2.blk b1;replace hx:=hx.trans hx2;replace k0:=k0.mono hx2;replace k1:=k1.mono hx2;replace k2:=k2.mono hx2;replace k3:=k3.mono hx2
  have e2:(a0e xs[i]).2=a0j ((xs[i].den:Nat):Int):=rfl
  rw [e2] at k3 b2
  have k4:b0d G3 (.agg #[.bool false,s]) (a0j (m:Int)):=⟨s,by rw [a0t],by rw [a0t];exact k0⟩
  have k5:b0d G3 (.agg #[.bool (a0j ((xs[i].den:Nat):Int)).1,s2]) (a0j ((xs[i].den:Nat):Int)):=⟨s2,rfl,k3⟩
  have hld:=d0m xs[i]
  have hiS:i * S≤xs.length * S:=h1J _ (by omega)
  have hKe:(xs.length + 2) * (S + 1)=xs.length * S + xs.length + 2 * S + 2:=by grind
  refine a0B ?_
  simp [E0A,g4,b1,b2]
  refine (f0d k4 k5 (by have:=hx.1;omega) (by rw [a0g];omega) (by rw [a0g];omega)).mono ?_
  rintro _ G4 ⟨k6,hx2⟩
  replace b0:=hx2.blk b0;replace b1:=hx2.blk b1;replace b2:=hx2.blk b2;replace hx:=hx.trans hx2;replace k0:=k0.mono hx2;replace k1:=k1.mono hx2;replace k2:=k2.mono hx2;replace k3:=k3.mono hx2;replace k4:=k4.mono hx2;replace k5:=k5.mono hx2
  rw [a0h,a0h] at k6
  simp
  have hgg:Int.gcd (m:Int) (xs[i].den:Int)=Nat.gcd m xs[i].den:=rfl
  rw [hgg] at k6
  have hgp:=Nat.gcd_pos_of_pos_left xs[i].den hm0
  have hlg:lz (Nat.gcd m xs[i].den:Int)≤lz m:=a0V (Nat.gcd_le_left _ hm0)
  refine (b0T k5 k6 (by have:=hx.1;omega) (by rw [a0g];omega) (by rw [a0g];omega) (by rw [a0h];omega)).mono ?_
  rintro _ G4 ⟨⟨_,_,rfl,⟨s3,rfl,k7⟩,⟨s4,rfl,k8⟩⟩,hx2⟩
  replace b0:=hx2.blk b0;replace b1:=hx2.blk b1;replace b2:=hx2.blk b2;replace hx:=hx.trans hx2;replace k0:=k0.mono hx2;replace k1:=k1.mono hx2;replace k2:=k2.mono hx2;replace k3:=k3.mono hx2;replace k4:=k4.mono hx2;replace k5:=k5.mono hx2;replace k6:=k6.mono hx2
  rw [a0h,a0h,x0J] at k7 ⊢
  rw [a0h,a0h] at k8
  have hsz:=hx.1
  have hsz1:H.size≤G4.size + 1:=by omega
  simp [k7.cells,k7.plain,k8.cells,k8.plain,hsz,hsz1]
  generalize hN:Array.setIfInBounds (Array.setIfInBounds (Array.push (Array.push _ _) _) _ _) _ _=G5
  obtain ⟨hx2,b3,_⟩:=V0w hN
  clear hN
  replace b0:=hx2.blk b0;replace b1:=hx2.blk b1;replace b2:=hx2.blk b2;replace hx:=hx.trans hx2;replace k0:=k0.mono hx2;replace k1:=k1.mono hx2;replace k2:=k2.mono hx2;replace k3:=k3.mono hx2;replace k4:=k4.mono hx2;replace k5:=k5.mono hx2;replace k6:=k6.mono hx2;replace k7:=k7.mono hx2;replace k8:=k8.mono hx2
  simp [E0B,g4,b1,b3]
  obtain ⟨hl1,hl2,hl3,hl4⟩:=V0r m xs[i].den hm0 hden
  have hlq:lz ((xs[i].den / Nat.gcd m xs[i].den:Nat):Int)≤lz (xs[i].den:Int):=a0V hl4
  refine (b0w k4 (j:=a0j ((xs[i].den / Nat.gcd m xs[i].den:Nat):Int)) ⟨s3,rfl,k7⟩ hx.1 (by rw [a0g];omega) (by rw [a0g];omega)).mono ?_
  rintro _ G6 ⟨⟨s5,rfl,k8⟩,hx2⟩
  replace b0:=hx2.blk b0;replace b1:=hx2.blk b1;replace b2:=hx2.blk b2;replace b3:=hx2.blk b3;replace hx:=hx.trans hx2;replace k0:=k0.mono hx2;replace k1:=k1.mono hx2;replace k2:=k2.mono hx2;replace k3:=k3.mono hx2;replace k4:=k4.mono hx2;replace k5:=k5.mono hx2;replace k6:=k6.mono hx2;replace k7:=k7.mono hx2
  rw [a0h,a0h,← h1V,a0t] at k8 ⊢
  have hPs:H.size≤P:=by assumption
  simp [g4,b1,k8.cells,k8.plain,hPs]
  generalize hS':Array.setIfInBounds _ _ _=G7
  have hne:P ≠ H.size:=by omega
  have hx':=a0E hS' hx hPs
  have b0':=a0o hS' b0 hne
  have k8':=k8.setS hS' b1 (by decide)
  have b1':=a0s hS' b1
  have hlm2:=c0a (m:Int) ((xs[i].den / Nat.gcd m xs[i].den:Nat):Int)
  refine Rnd.mk (by simp [gi]) (by simp [gn]) ⟨by simp [g0],by simp [g22],by simp [g3],by simp [g4],hx',b0',m * (xs[i].den / Nat.gcd m xs[i].den),s5,hl3,b1',k8',fun k h hk=>?_,?_⟩
  ·by_cases hki:k=i
   ·subst hki;exact hl2
   ·exact Nat.dvd_trans (hdv k h (by omega)) hl1
  ·rw [h1V,h1X,i1r];omega
 ·clear h0 ρ hx b0 b1 k0 hx2
  rintro ρ G gi gn ⟨g0,g22,g3,g4,hx,b0,m,s,hm0,b1,k0,hdv,hlm⟩
  have hPs:H.size≤P:=by assumption
  have hKe:(xs.length + 2) * (S + 1)=xs.length * S + xs.length + 2 * S + 2:=by grind
  have hK2:(xs.length + 1) * (S + 1)≤(xs.length + 2) * (S + 1):=h1J _ (by omega)
  have hsz:=hx.1
  have hb1l:=a0l b1
  simp [E0C,E0D,hsz]
  generalize hN:Array.setIfInBounds (Array.push _ _) _ _=G3
  obtain ⟨hx2,b2⟩:=new1 hN
  clear hN
  replace b0:=hx2.blk b0;replace b1:=hx2.blk b1;replace hx:=hx.trans hx2;replace k0:=k0.mono hx2
  obtain ⟨P2,hP2⟩:∃ P2,P2=G.size:=⟨_,rfl⟩
  rw [← hP2] at b2 hsz hb1l ⊢
  simp [w0I,g0,hvl]
  refine d0Q (n:=xs.length) (z0F H P P2 v xs m ((xs.length + 1) * (S + 1)) s) rfl rfl (by decide) (by omega) (by simp) (by simp) ?_ ?_ ?_ ?_
  ·exact ⟨by simp [g0],by simp [g3],by simp [g4],by simp,hx,b0,b1,k0,by simp [slB],by simp [slB],0,_,b2,by rw [a0W];exact Lim.nil,by simpa using b0e.nil,fun k _ hk=>by omega,by rw [show ((0:Nat):Int)=0 from rfl,d0C];omega,fun _=>rfl⟩
  ·intro i ρ ρ' G h hI;simpa [z0F,h] using hI
  ·clear g0 g22 g3 g4 gi gn hx b0 b1 b2 k0 hx2 ρ
   rintro i ρ G hi gi gn ⟨g44,g3,g4,g11,hx,b0,b1,k0,ns1,ns2,g,sg,b2,k1,ho,hdg,hlg,hg0⟩
   obtain ⟨so,g10⟩:∃ so,ρ 10=so:=⟨_,rfl⟩
   rw [g10] at ns1 ns2 ho
   have kv:=hv.mono a0u hx
   have hil:i < (xs.map a0e).length:=by simpa using hi
   obtain ⟨x,hlx,k2⟩:=a0O.load kv hil
   rw [i1x] at k2
   obtain ⟨s1,s2,rfl,k3,k4⟩:=k2
   have hsx:=hS _ (h1I hi)
   have hsz:=hx.1
   have hden:=xs[i].den_pos
   have hln:=c0O xs[i]
   have hld:=d0m xs[i]
   have hyl:i < (o0d xs m).length:=by simpa [o0d] using hi
   have hyi:(o0d xs m)[i]=xs[i].num * ((m / xs[i].den:Nat):Int):=by simp [o0d]
   have hyd:(o0d xs m).getD i 0=xs[i].num * ((m / xs[i].den:Nat):Int):=by rw [h1z,h1E hyl,← hyi];rfl
   obtain ⟨y,hy⟩:∃ y,y=xs[i].num * ((m / xs[i].den:Nat):Int):=⟨_,rfl⟩
   have hly:lz y≤(xs.length + 1) * (S + 1):=by
    have h1:=c0a xs[i].num ((m / xs[i].den:Nat):Int)
    have h2:lz ((m / xs[i].den:Nat):Int)≤lz m:=a0V (i1M _ _)
    have h3:(xs.length + 1) * (S + 1)=xs.length * S + xs.length + S + 1:=by grind
    rw [hy];omega
   simp [w0J,g44,gi,kv.ia hil,hlx,k3.cells,k3.plain,k4.cells,k4.plain,hsz]
   generalize hN:Array.setIfInBounds (Array.push _ _) _ _=G3
   obtain ⟨hx2,b3⟩:=new1 hN
   clear hN
   replace b0:=hx2.blk b0;replace b1:=hx2.blk b1;replace b2:=hx2.blk b2;replace hx:=hx.trans hx2;replace k0:=k0.mono hx2;replace k1:=k1.mono hx2;replace k3:=k3.mono hx2;replace k4:=k4.mono hx2
   replace ho:=ho.mono d0i hx2
   have e2:(a0e xs[i]).2=a0j ((xs[i].den:Nat):Int):=rfl
   have e1:(a0e xs[i]).1=a0j xs[i].num:=rfl
   rw [e1] at k3
   rw [e2] at k4
   rw [e1,e2] at b3
   simp [w0K,g4,b1,b3]
   refine (b0T (i:=a0j (m:Int)) (j:=a0j ((xs[i].den:Nat):Int)) ⟨s,by rw [a0t],by rw [a0t];exact k0⟩ ⟨s2,rfl,k4⟩ hx.1 (by rw [a0g];omega) (by rw [a0g];omega) (by rw [a0h];omega)).mono ?_
   rintro _ G4 ⟨⟨_,_,rfl,⟨s3,rfl,k5⟩,⟨s4,rfl,k6⟩⟩,hx2⟩
   replace b0:=hx2.blk b0;replace b1:=hx2.blk b1;replace b2:=hx2.blk b2;replace b3:=hx2.blk b3;replace hx:=hx.trans hx2;replace k0:=k0.mono hx2;replace k1:=k1.mono hx2;replace k3:=k3.mono hx2
   replace ho:=ho.mono d0i hx2
   rw [a0h,a0h,x0J] at k5 ⊢
   rw [a0h,a0h] at k6
   have hsz:=hx.1
   have hsz1:H.size≤G4.size + 1:=by omega
   simp [k5.cells,k5.plain,k6.cells,k6.plain,hsz,hsz1]
   generalize hN:Array.setIfInBounds (Array.setIfInBounds (Array.push (Array.push _ _) _) _ _) _ _=G5
   obtain ⟨hx2,b4,_⟩:=V0w hN
   clear hN
   replace b0:=hx2.blk b0;replace b1:=hx2.blk b1;replace b2:=hx2.blk b2;replace b3:=hx2.blk b3;replace hx:=hx.trans hx2;replace k0:=k0.mono hx2;replace k1:=k1.mono hx2;replace k3:=k3.mono hx2;replace k5:=k5.mono hx2;replace k6:=k6.mono hx2
   replace ho:=ho.mono d0i hx2
   have hlq:lz ((m / xs[i].den:Nat):Int)≤lz m:=a0V (i1M _ _)
   simp [w0L,b3,b4]
   refine (b0w (i:=a0j xs[i].num) (j:=a0j ((m / xs[i].den:Nat):Int)) ⟨s1,rfl,k3⟩ ⟨s3,rfl,k5⟩ hx.1 (by rw [a0g];omega) (by rw [a0g];omega)).mono ?_
   rintro _ G6 ⟨⟨s5,rfl,k7⟩,hx2⟩
   replace b0:=hx2.blk b0;replace b1:=hx2.blk b1;replace b2:=hx2.blk b2;replace b3:=hx2.blk b3;replace b4:=hx2.blk b4;replace hx:=hx.trans hx2;replace k0:=k0.mono hx2;replace k1:=k1.mono hx2;replace k3:=k3.mono hx2;replace k5:=k5.mono hx2;replace k6:=k6.mono hx2
   replace ho:=ho.mono d0i hx2
   rw [a0h,a0h,← hy] at k7 ⊢
   have hsz:=hx.1
   have hso:∀ b,slB so=some b→b < G6.size:=fun b h=>(ho.ge h).2
   simp [k7.cells,k7.plain,hsz]
   generalize hN:Array.setIfInBounds (Array.push _ _) _ _=G7
   obtain ⟨hx2,b5⟩:=new1 hN
   clear hN b3 b4
   replace b0:=hx2.blk b0;replace b1:=hx2.blk b1;replace b2:=hx2.blk b2;replace hx:=hx.trans hx2;replace k0:=k0.mono hx2;replace k1:=k1.mono hx2;replace k3:=k3.mono hx2;replace k5:=k5.mono hx2;replace k6:=k6.mono hx2;replace k7:=k7.mono hx2
   replace ho:=ho.mono d0i hx2
   obtain ⟨Y,hY⟩:∃ Y,Y=G6.size:=⟨_,rfl⟩
   rw [← hY] at b5 hso ⊢
   have ns3:slB so ≠ some Y:=fun h=>by have:=hso _ h;omega
   have ns0:=ho.ne b0 (by decide)
   obtain ⟨so',G8,h1,h2,h3,h4⟩:=b0e.app (P:=PI) (sz:=2) (e:=a0a) (by decide) (fun G' cs x _ hl h=>b0d.lx h hl) ho (e2:=a0a) (c:=1) (bytes:=32) (new:=[.bool (a0j y).1,s5]) (x:=y) ⟨s5,rfl,k7⟩ rfl (by simp [k7.plain]) (by simp;omega) (by omega) (by omega) hx.1
   obtain ⟨_,_,hfr⟩:=e0t (by decide) h1
   have hfs:slB so' = some (G7.size + 1):=by rw [hfr];simp [slB]
   simp [w0M,g10,b5,k7.cells,h1]
   have hlx8:=ho.lx (by decide) h3
   have hP1l:=a0l b1
   have hP2l:=a0l b2
   replace b0:=(h3.2 _ (a0l b0) ns0).trans b0
   replace b1:=(h3.2 _ (a0l b1) ns1).trans b1
   replace b2:=(h3.2 _ (a0l b2) ns2).trans b2
   replace b5:=(h3.2 _ (a0l b5) ns3).trans b5
   replace hx:=h4 _ (h1A _) hx
   replace k0:=k0.lx hlx8
   replace k1:=k1.lx hlx8
   replace k7:=k7.lx hlx8
   simp [w0N,g11,b2,b5]
   refine (f0d (i:=a0j (g:Int)) (j:=a0j y) ⟨sg,by rw [a0t],by rw [a0t];exact k1⟩ ⟨s5,rfl,k7⟩ hx.1 (by rw [a0g];omega) (by rw [a0g];omega)).mono ?_
   rintro _ G9 ⟨⟨s6,rfl,k8⟩,hx2⟩
   replace b0:=hx2.blk b0;replace b1:=hx2.blk b1;replace b2:=hx2.blk b2;replace hx:=hx.trans hx2;replace k0:=k0.mono hx2;replace k1:=k1.mono hx2
   replace h2:=h2.mono d0i hx2
   rw [a0h,a0h,a0t] at k8 ⊢
   have hP2s:H.size≤P2:=by assumption
   simp [g11,b2,k8.cells,k8.plain,hP2s]
   generalize hS':Array.setIfInBounds _ _ _=G10
   have hxb:e0p (some P2) G9 G10:=by rw [← hS'];exact e0p.refl.set
   have hlx10:Lx G9 G10:=b0m hS' b2 (by decide)
   have hne:P2 ≠ H.size:=by omega
   have hne2:P2 ≠ P:=by omega
   refine Rnd.mk (by simp [gi]) (by simp [gn]) ⟨by simp [g44],by simp [g3],by simp [g4],by simp [g11],a0E hS' hx hP2s,a0o hS' b0 hne,a0o hS' b1 hne2,k0.lx hlx10,by simp [hfs];omega,by simp [hfs];omega,Int.gcd g y,s6,a0s hS' b2,k8.lx hlx10,?_,?_,?_,by omega⟩
   ·refine b0e.cast (v':=so') (by simp) ?_
    rw [i1I hyl,hyi,← hy]
    exact h2.off hxb (.inr (by rw [hfs];simp;omega)) (fun cs x h=>b0d.lx h hlx10)
   ·intro k h hk
    by_cases hki:k=i
    ·subst hki;rw [hyd,← hy];exact k1c ..
    ·exact Int.dvd_trans (Int.gcd_dvd_left ..) (hdg k h (by omega))
   ·by_cases hy0:y=0
    ·rw [hy0,Int.gcd_zero_right];exact hlg
    ·exact h1R (a0V (j1P _ hy0)) hly
  ·clear g0 g22 g3 g4 gi gn hx b0 b1 b2 k0 hx2 ρ
   rintro ρ G gi gn ⟨g44,g3,g4,g11,hx,b0,b1,k0,ns1,ns2,g,sg,b2,k1,ho,hdg,hlg,hg0⟩
   obtain ⟨so,g10⟩:∃ so,ρ 10=so:=⟨_,rfl⟩
   rw [g10] at ns1 ns2 ho
   have hyl:(o0d xs m).length=xs.length:=by simp [o0d]
   rw [h1O (by omega)] at ho
   have hv0:a0z (false,[])=0:=by unfold a0z f0R;simp [a0w]
   simp [w0O,g11,b2]
   refine (c0V (i:=a0j (g:Int)) (j:=(false,[])) ⟨sg,by rw [a0t],by rw [a0t];exact k1⟩ ⟨_,rfl,Lim.nil⟩ hx.1 (by rw [a0g];omega) (by simp)).mono ?_
   rintro _ G2 ⟨rfl,hx2⟩
   replace b0:=hx2.blk b0;replace b1:=hx2.blk b1;replace b2:=hx2.blk b2;replace hx:=hx.trans hx2;replace k0:=k0.mono hx2;replace k1:=k1.mono hx2
   replace ho:=ho.mono d0i hx2
   rw [hv0,a0h]
   have hP2s:H.size≤P2:=by assumption
   have hne:P2 ≠ H.size:=by omega
   have hne2:P2 ≠ P:=by omega
   by_cases hg:g=0
   ·have hcz:c0z (g:Int) 0=0:=by rw [hg];rfl
    simp [hcz,w0P]
    refine (c0W (n:=1) hx.1 (by omega) (by omega)).mono ?_
    rintro _ G2 ⟨⟨s6,rfl,k3⟩,hx2⟩
    replace b0:=hx2.blk b0;replace b1:=hx2.blk b1;replace b2:=hx2.blk b2;replace hx:=hx.trans hx2;replace k0:=k0.mono hx2;replace k1:=k1.mono hx2
    replace ho:=ho.mono d0i hx2
    have h1c:a0j 1=(false,a0p 1):=a0t 1
    rw [h1c] at k3 ⊢
    simp [g11,b2,k3.cells,k3.plain,hP2s]
    generalize hS':Array.setIfInBounds _ _ _=G3
    have hxb:e0p (some P2) G2 G3:=by rw [← hS'];exact e0p.refl.set
    have hlx3:Lx G2 G3:=b0m hS' b2 (by decide)
    replace ho:=ho.off hxb (.inr ns2) (fun cs x h=>b0d.lx h hlx3)
    replace hx:=a0E hS' hx hP2s
    replace b0:=a0o hS' b0 hne
    replace b1:=a0o hS' b1 hne2
    replace b2:=a0s hS' b2
    replace k0:=k0.lx hlx3
    clear k1
    have k1:=k3.lx hlx3
    obtain ⟨sg2,hs2⟩:∃ x,x=s6:=⟨_,rfl⟩
    rw [← hs2] at k1 b2
    obtain ⟨gg,hgg⟩:∃ gg:Nat,(gg=g∧0 < g) ∨ gg=1:=⟨1,.inr rfl⟩
    have hg1:(1:Nat)=gg:=by rcases hgg with ⟨h,h'⟩ | h <;> omega
    rw [hg1] at k1
    have hdg':∀ k,k < xs.length→(gg:Int) ∣ (o0d xs m).getD k 0:=fun k hk=>by
     rcases hgg with ⟨h,_⟩ | h
     ·rw [h];exact hdg k hk hk
     ·rw [h];exact Int.one_dvd _
    have hgp:0 < gg:=by rcases hgg with ⟨h,h'⟩ | h <;> omega
    have hK4:(xs.length + 1) * (S + 1)=xs.length * S + xs.length + S + 1:=by grind
    have hlgg:lz gg≤(xs.length + 1) * (S + 1):=by
     rcases hgg with ⟨h,_⟩ | h
     ·rw [h];exact hlg
     ·rw [h,show ((1:Nat):Int)=1 from rfl,g0q];omega
    have hly:∀ k (h:k < xs.length),lz (xs[k].num * ((m / xs[k].den:Nat):Int))≤(xs.length + 1) * (S + 1):=fun k hk=>by
     have h1:=c0a xs[k].num ((m / xs[k].den:Nat):Int)
     have h2:lz ((m / xs[k].den:Nat):Int)≤lz m:=a0V (i1M _ _)
     have h4:=c0O xs[k]
     have h5:=hS _ (h1I hk)
     omega
    have hyD:∀ k (h:k < xs.length),(o0d xs m).getD k 0=xs[k].num * ((m / xs[k].den:Nat):Int):=fun k hk=>by
     rw [h1z,h1E (by omega)];simp [o0d]
    simp [q0F,g10,ho.slen,hyl]
    refine d0Q (n:=xs.length) (p0r H P P2 so xs m gg s sg2) rfl rfl (by decide) (by omega) (by simp) (by simp) ?_ ?_ ?_ ?_
    ·exact ⟨by simp [g10],by simp [g3],by simp [g4],by simp [g11],hx,b0,b1,k0,b2,k1,o0d xs m,ho,hyl,fun k _=>by simp⟩
    ·intro i ρ ρ' G h hI;simpa [p0r,h] using hI
    ·clear g44 g3 g4 g11 g10 gi gn hx b0 b1 b2 k0 k1 ho hx2 ρ
     rintro i ρ G hi gi gn ⟨g10,g3,g4,g11,hx,b0,b1,k0,b2,k1,L,ho,hL,hLk⟩
     have hiL:i < L.length:=by omega
     have hLi:L[i]=(o0d xs m).getD i 0:=by
      have:=hLk i hi
      rw [h1C (by omega),h1z,h1E hiL] at this;exact this
     obtain ⟨wi,hli,kwi⟩:=OwnsI.load ho hiL
     have hlz:lz L[i] < 67108864:=by
      have:=hly i hi
      rw [hLi,hyD i hi];omega
     simp [q0G,gi]
     refine a0B ?_
     simp [q0H,g10,g11,ho.sls.ia hiL,hli,b2]
     refine (b0T (j:=a0j (gg:Int)) kwi ⟨sg2,by rw [a0t],by rw [a0t];exact k1⟩ hx.1 (by rw [a0g];omega) (by rw [a0g];omega) (by rw [a0h];omega)).mono ?_
     rintro _ G4 ⟨⟨_,_,rfl,⟨s3,rfl,k5⟩,_⟩,hx2⟩
     replace b0:=hx2.blk b0;replace b1:=hx2.blk b1;replace b2:=hx2.blk b2;replace hx:=hx.trans hx2;replace k0:=k0.mono hx2;replace k1:=k1.mono hx2
     replace ho:=ho.mono d0i hx2
     have hdv2:(gg:Int) ∣ L[i]:=by rw [hLi];exact hdg' i hi
     rw [a0h,a0h,Int.tdiv_eq_ediv_of_dvd hdv2] at k5 ⊢
     have ns0:=ho.ne b0 (by decide)
     obtain ⟨G5,hst,ho2,hxb⟩:=b0e.store (j:=i) (x:=L[i] / (gg:Int)) (w:=.agg #[.bool (a0j (L[i] / (gg:Int))).1,s3]) ho hiL (by omega) rfl (by simp [k5.plain]) (fun G' _ hl=>⟨s3,rfl,k5.lx hl⟩) (by decide) (fun G' cs y _ hl h=>b0d.lx h hl)
     have hlx5:=ho.lx (by decide) hxb
     simp [g10,ho.sls.ia hiL,hst]
     have hx5:Ext H G5:=⟨h1R hx.1 hxb.1,fun b hb=>(hxb.2 b (h1W hb hx.1) (fun h=>by have:=(ho.ge h).1;omega)).trans (hx.2 b hb)⟩
     refine Rnd.mk (by simp [gi]) (by simp [gn]) ⟨by simp [g10],by simp [g3],by simp [g4],by simp [g11],hx5,(hxb.2 _ (a0l b0) ns0).trans b0,(hxb.2 _ (a0l b1) ns1).trans b1,k0.lx hlx5,(hxb.2 _ (a0l b2) ns2).trans b2,k1.lx hlx5,L.set i (L[i] / (gg:Int)),ho2,by simpa using hL,fun k hk=>?_⟩
     by_cases hki:k=i
     ·subst hki
      rw [h1F (by omega),h1z,j1a hiL,i1k,hLi]
     ·rw [h1z,List.getElem?_set_ne (by omega),← h1z,hLk k hk]
      by_cases hlt:k < i
      ·rw [h1F hlt,h1F (by omega)]
      ·rw [h1C hlt,h1C (by omega)]
    ·clear g44 g3 g4 g11 g10 gi gn hx b0 b1 b2 k0 k1 ho hx2 ρ
     rintro ρ G gi gn ⟨g10,g3,g4,g11,hx,b0,b1,k0,b2,k1,L,ho,hL,hLk⟩
     simp [q0I,g4,g11,b1,b2]
     refine (d0K (i:=a0j (m:Int)) (j:=a0j (gg:Int)) ⟨s,by rw [a0t],by rw [a0t];exact k0⟩ ⟨sg2,by rw [a0t],by rw [a0t];exact k1⟩ hx.1 (by rw [a0g];omega) (by rw [a0g];omega) (by rw [a0h];omega)).mono ?_
     rintro _ G4 ⟨⟨_,rfl,s3,s4,rfl,k5,k6⟩,hx2⟩
     replace b0:=hx2.blk b0;replace b1:=hx2.blk b1;replace b2:=hx2.blk b2;replace hx:=hx.trans hx2;replace k0:=k0.mono hx2;replace k1:=k1.mono hx2
     replace ho:=ho.mono d0i hx2
     rw [a0h,a0h] at k5 k6 ⊢
     have hsz:=hx.1
     simp [k5.cells,k5.plain,k6.cells,k6.plain,hsz]
     generalize hN:Array.setIfInBounds (Array.push _ _) _ _=G5
     obtain ⟨hx2,b3⟩:=new1 hN
     clear hN
     replace b0:=hx2.blk b0;replace b1:=hx2.blk b1;replace b2:=hx2.blk b2;replace hx:=hx.trans hx2;replace k0:=k0.mono hx2;replace k1:=k1.mono hx2;replace k5:=k5.mono hx2;replace k6:=k6.mono hx2
     replace ho:=ho.mono d0i hx2
     refine a0B ?_
     have hz:=a0l b0
     simp [q0J,g3,g10,b0,b3,k5.cells,k5.plain,k6.cells,k6.plain,hz]
     generalize hS':Array.setIfInBounds _ _ _=G6
     refine fun _=>?_
     have hl6:Lx _ G6:=b0m hS' b0 (by decide)
     have hl7:LxT a0a _ G6:=b0m hS' b0 (by decide)
     refine ⟨so,_,⟨rfl,rfl⟩,Rat.divInt m gg,L,?_,ho.lxm hl7 (fun cs x h=>b0d.lx h hl6),s3,s4,rfl,k5.lx hl6,k6.lx hl6⟩
     have hLv:∀ k (h:k < xs.length),L[k]'(by omega)=xs[k].num * ((m / xs[k].den:Nat):Int) / (gg:Int)∧(gg:Int) ∣ xs[k].num * ((m / xs[k].den:Nat):Int):=by
      intro k hk
      have h1:=hLk k hk
      have h2:=hdg' k hk
      have h3:=hyD k hk
      rw [h1F hk,h3,h1z,h1E (by omega)] at h1
      rw [h3] at h2
      exact ⟨h1,h2⟩
     refine ⟨hL,?_,fun k hk=>?_,fun z hz=>?_,?_⟩
     ·exact o0i hm0 hgp
     ·rw [(hLv k hk).1];exact x0K (hdv k hk hk) hm0 hgp (hLv k hk).2
     ·obtain ⟨k,hk,rfl⟩:=i1O hz
      have hk':k < xs.length:=by omega
      have h1:=hly k hk'
      have h6:=N0S (hLv k hk').2
      rw [(hLv k hk').1]
      omega
     ·have:=b0W (m:Int) (gg:Int)
      omega
   ·have hcz:¬ c0z (g:Int) 0=0:=by unfold c0z;split;omega;split <;> omega
    simp [hcz]
    obtain ⟨sg2,hs2⟩:∃ x,x=sg:=⟨_,rfl⟩
    rw [← hs2] at k1 b2
    obtain ⟨gg,hgg1,hgg⟩:∃ gg:Nat,gg=g∧((gg=g∧0 < g) ∨ gg=1):=⟨g,rfl,.inl ⟨rfl,by omega⟩⟩
    have hg1:g=gg:=hgg1.symm
    rw [hg1] at k1
    have hdg':∀ k,k < xs.length→(gg:Int) ∣ (o0d xs m).getD k 0:=fun k hk=>by
     rcases hgg with ⟨h,_⟩ | h
     ·rw [h];exact hdg k hk hk
     ·rw [h];exact Int.one_dvd _
    have hgp:0 < gg:=by rcases hgg with ⟨h,h'⟩ | h <;> omega
    have hK4:(xs.length + 1) * (S + 1)=xs.length * S + xs.length + S + 1:=by grind
    have hlgg:lz gg≤(xs.length + 1) * (S + 1):=by
     rcases hgg with ⟨h,_⟩ | h
     ·rw [h];exact hlg
     ·rw [h,show ((1:Nat):Int)=1 from rfl,g0q];omega
    have hly:∀ k (h:k < xs.length),lz (xs[k].num * ((m / xs[k].den:Nat):Int))≤(xs.length + 1) * (S + 1):=fun k hk=>by
     have h1:=c0a xs[k].num ((m / xs[k].den:Nat):Int)
     have h2:lz ((m / xs[k].den:Nat):Int)≤lz m:=a0V (i1M _ _)
     have h4:=c0O xs[k]
     have h5:=hS _ (h1I hk)
     omega
    have hyD:∀ k (h:k < xs.length),(o0d xs m).getD k 0=xs[k].num * ((m / xs[k].den:Nat):Int):=fun k hk=>by
     rw [h1z,h1E (by omega)];simp [o0d]
    simp [q0F,g10,ho.slen,hyl]
    refine d0Q (n:=xs.length) (p0r H P P2 so xs m gg s sg2) rfl rfl (by decide) (by omega) (by simp) (by simp) ?_ ?_ ?_ ?_
    ·exact ⟨by simp [g10],by simp [g3],by simp [g4],by simp [g11],hx,b0,b1,k0,b2,k1,o0d xs m,ho,hyl,fun k _=>by simp⟩
    ·intro i ρ ρ' G h hI;simpa [p0r,h] using hI
    ·clear g44 g3 g4 g11 g10 gi gn hx b0 b1 b2 k0 k1 ho hx2 ρ
     rintro i ρ G hi gi gn ⟨g10,g3,g4,g11,hx,b0,b1,k0,b2,k1,L,ho,hL,hLk⟩
     have hiL:i < L.length:=by omega
     have hLi:L[i]=(o0d xs m).getD i 0:=by
      have:=hLk i hi
      rw [h1C (by omega),h1z,h1E hiL] at this;exact this
     obtain ⟨wi,hli,kwi⟩:=OwnsI.load ho hiL
     have hlz:lz L[i] < 67108864:=by
      have:=hly i hi
      rw [hLi,hyD i hi];omega
     simp [q0G,gi]
     refine a0B ?_
     simp [q0H,g10,g11,ho.sls.ia hiL,hli,b2]
     refine (b0T (j:=a0j (gg:Int)) kwi ⟨sg2,by rw [a0t],by rw [a0t];exact k1⟩ hx.1 (by rw [a0g];omega) (by rw [a0g];omega) (by rw [a0h];omega)).mono ?_
     rintro _ G4 ⟨⟨_,_,rfl,⟨s3,rfl,k5⟩,_⟩,hx2⟩
     replace b0:=hx2.blk b0;replace b1:=hx2.blk b1;replace b2:=hx2.blk b2;replace hx:=hx.trans hx2;replace k0:=k0.mono hx2;replace k1:=k1.mono hx2
     replace ho:=ho.mono d0i hx2
     have hdv2:(gg:Int) ∣ L[i]:=by rw [hLi];exact hdg' i hi
     rw [a0h,a0h,Int.tdiv_eq_ediv_of_dvd hdv2] at k5 ⊢
     have ns0:=ho.ne b0 (by decide)
     obtain ⟨G5,hst,ho2,hxb⟩:=b0e.store (j:=i) (x:=L[i] / (gg:Int)) (w:=.agg #[.bool (a0j (L[i] / (gg:Int))).1,s3]) ho hiL (by omega) rfl (by simp [k5.plain]) (fun G' _ hl=>⟨s3,rfl,k5.lx hl⟩) (by decide) (fun G' cs y _ hl h=>b0d.lx h hl)
     have hlx5:=ho.lx (by decide) hxb
     simp [g10,ho.sls.ia hiL,hst]
     have hx5:Ext H G5:=⟨h1R hx.1 hxb.1,fun b hb=>(hxb.2 b (h1W hb hx.1) (fun h=>by have:=(ho.ge h).1;omega)).trans (hx.2 b hb)⟩
     refine Rnd.mk (by simp [gi]) (by simp [gn]) ⟨by simp [g10],by simp [g3],by simp [g4],by simp [g11],hx5,(hxb.2 _ (a0l b0) ns0).trans b0,(hxb.2 _ (a0l b1) ns1).trans b1,k0.lx hlx5,(hxb.2 _ (a0l b2) ns2).trans b2,k1.lx hlx5,L.set i (L[i] / (gg:Int)),ho2,by simpa using hL,fun k hk=>?_⟩
     by_cases hki:k=i
     ·subst hki
      rw [h1F (by omega),h1z,j1a hiL,i1k,hLi]
     ·rw [h1z,List.getElem?_set_ne (by omega),← h1z,hLk k hk]
      by_cases hlt:k < i
      ·rw [h1F hlt,h1F (by omega)]
      ·rw [h1C hlt,h1C (by omega)]
    ·clear g44 g3 g4 g11 g10 gi gn hx b0 b1 b2 k0 k1 ho hx2 ρ
     rintro ρ G gi gn ⟨g10,g3,g4,g11,hx,b0,b1,k0,b2,k1,L,ho,hL,hLk⟩
     simp [q0I,g4,g11,b1,b2]
     refine (d0K (i:=a0j (m:Int)) (j:=a0j (gg:Int)) ⟨s,by rw [a0t],by rw [a0t];exact k0⟩ ⟨sg2,by rw [a0t],by rw [a0t];exact k1⟩ hx.1 (by rw [a0g];omega) (by rw [a0g];omega) (by rw [a0h];omega)).mono ?_
     rintro _ G4 ⟨⟨_,rfl,s3,s4,rfl,k5,k6⟩,hx2⟩
     replace b0:=hx2.blk b0;replace hx:=hx.trans hx2
     replace ho:=ho.mono d0i hx2
     rw [a0h,a0h] at k5 k6 ⊢
     have hsz:=hx.1
     simp [k5.cells,k5.plain,k6.cells,k6.plain,hsz]
     generalize hN:Array.setIfInBounds (Array.push _ _) _ _=G5
     obtain ⟨hx2,b3⟩:=new1 hN
     clear hN
     replace b0:=hx2.blk b0;replace hx:=hx.trans hx2;replace k5:=k5.mono hx2;replace k6:=k6.mono hx2
     replace ho:=ho.mono d0i hx2
     refine a0B ?_
     have hz:=a0l b0
     simp [q0J,g3,g10,b0,b3,k5.cells,k5.plain,k6.cells,k6.plain,hz]
     generalize hS':Array.setIfInBounds _ _ _=G6
     refine fun _=>?_
     have hl6:Lx _ G6:=b0m hS' b0 (by decide)
     have hl7:LxT a0a _ G6:=b0m hS' b0 (by decide)
     refine ⟨so,_,⟨rfl,rfl⟩,Rat.divInt m gg,L,?_,ho.lxm hl7 (fun cs x h=>b0d.lx h hl6),s3,s4,rfl,k5.lx hl6,k6.lx hl6⟩
     have hLv:∀ k (h:k < xs.length),L[k]'(by omega)=xs[k].num * ((m / xs[k].den:Nat):Int) / (gg:Int)∧(gg:Int) ∣ xs[k].num * ((m / xs[k].den:Nat):Int):=by
      intro k hk
      have h1:=hLk k hk
      have h2:=hdg' k hk
      have h3:=hyD k hk
      rw [h1F hk,h3,h1z,h1E (by omega)] at h1
      rw [h3] at h2
      exact ⟨h1,h2⟩
     refine ⟨hL,?_,fun k hk=>?_,fun z hz=>?_,?_⟩
     ·exact o0i hm0 hgp
     ·rw [(hLv k hk).1];exact x0K (hdv k hk hk) hm0 hgp (hLv k hk).2
     ·obtain ⟨k,hk,rfl⟩:=i1O hz
      have hk':k < xs.length:=by omega
      have h1:=hly k hk'
      have h6:=N0S (hLv k hk').2
      rw [(hLv k hk').1]
      omega
     ·have:=b0W (m:Int) (gg:Int)
      omega
def r0O (z:Int):Bool:=decide (-9223372036854775808≤z∧z < 9223372036854775808)
def toV (z:Int):Value:=.tuple #[.int .i64 (if r0O z then z else 0),.bool (r0O z)]
theorem W0O {n:Nat} (h:n≤9223372036854775808):IntKind.i64.wrap (IntKind.u64.wrap (0 - (n:Int))) = -(n:Int):=by
 rw [a0x]
 show (if (true && decide (((0 - (n:Int)) % 18446744073709551616) % (2 ^ 64:Int) ≥ (2 ^ 63:Int)))=true then ((0 - (n:Int)) % 18446744073709551616) % (2 ^ 64:Int) - (2 ^ 64:Int) else ((0 - (n:Int)) % 18446744073709551616) % (2 ^ 64:Int)) = -(n:Int)
 rw [show (2 ^ 64:Int)=18446744073709551616 from rfl,show (2 ^ 63:Int)=9223372036854775808 from rfl]
 simp only [Bool.true_and,i1w]
 split <;> omega
theorem f1F {i:Nat} (h:i < 2):(4294967296:Nat) ^ i=2 ^ (32 * i):=by
 rw [Nat.pow_mul]
theorem L0e {z:Int} (h:2 < lz z):r0O z=false:=by
 have:¬ z.natAbs < 4294967296 ^ 2:=fun h2=>by have:=e0h h2;unfold lz at h;omega
 unfold r0O;simp;intro _;omega
theorem m0p {z:Int} (h:b0d H v (a0j z)) (hf:fl≤H.size) (hl:lz z < 1073741824) :
  a0S env fl A0y [v] H (fun r H'=>r=toV z∧Ext H H') R:=by
 refine a0i f1a hf (h:=?_)
 intro ρ h0
 obtain ⟨s0,rfl,k0⟩:=id h
 simp [N0s,I0v,I0w,h0,k0.cells,k0.plain]
 generalize hG:Array.push H _=G
 obtain ⟨hx2,b0⟩:=g0r hG
 have hx:=Ext.refl H
 clear hG
 replace hx:=hx.trans hx2;replace k0:=k0.mono hx2
 have hcl:(a0j z).2.length=lz z:=a0g z
 refine (b0R (h.mono hx) hx.1 (by rw [a0g];omega)).mono ?_
 rintro w G2 ⟨k1,hx2⟩
 replace b0:=hx2.blk b0;replace hx:=hx.trans hx2;replace k0:=k0.mono hx2
 rw [a0h] at k1
 obtain ⟨d,hd⟩:∃ d,d=z.natAbs:=⟨_,rfl⟩
 have hld:(a0p d).length=lz z:=by rw [hd];rfl
 rw [← hd] at k1
 simp [I0x,k1.slen,hld]
 refine ⟨fun h2=>?_,fun h2=>?_⟩
 ·simp [I0y,toV,L0e (z:=z) (by omega)]
 ·simp [I0z,I0A,k1.slen,hld]
  refine d0Q (n:=lz z) (fun i ρ G=>ρ 1=.pointer (some ⟨H.size,0,none⟩)∧ρ 13=w∧Ext H G∧a0f.blk G H.size=.row false a0a [.bool (a0j z).1,s0]∧Lim G w (a0p d)∧ρ 5=.int .u64 ((a0w ((a0p d).take i):Nat):Int)) rfl rfl (by decide) (by omega) (by simp) (by simp) ?_ ?_ ?_ ?_
  ·exact ⟨by simp,by simp,hx,b0,k1,by simp [a0w]⟩
  ·intro i ρ ρ' G h hI;simpa [h] using hI
  ·clear h0 ρ hx b0 k0 k1 hx2
   rintro i ρ G hi gi gn ⟨g1,g13,hx,b0,k1,g5⟩
   have hil:i < (a0p d).length:=by omega
   have hla:=k1.load hil (Ext.refl G)
   have hA2:=a0Q hil
   have hA3:(a0p d).getD i 0 < 4294967296:=k1.2 _ (by rw [h1z,h1E hil];exact h1I hil)
   have hA1:=f0U ((a0p d).take i) (fun x hx=>k1.2 _ (j1u hx))
   rw [i1E,i1N (by omega),f1F (by omega)] at hA1
   rw [f1F (by omega)] at hA2
   obtain ⟨A,hA⟩:∃ A,A=(a0p d).getD i 0:=⟨_,rfl⟩
   obtain ⟨N,hN⟩:∃ N,N=a0w ((a0p d).take i):=⟨_,rfl⟩
   rw [← hA] at hla hA2 hA3
   rw [← hN] at hA1 hA2 g5
   have hp:(2:Nat) ^ (32 * i)≤4294967296:=by
    have:(2:Nat) ^ (32 * i)≤2 ^ 32:=i1R (by omega) (by omega)
    exact this
   have hAp:A * 2 ^ (32 * i)≤4294967295 * 4294967296:=i1z (by omega) hp
   have eA:IntKind.u64.wrap (A:Int)=(A:Int):=by rw [a0x];omega
   have e32:IntKind.i64.wrap (32 * (i:Int))=((32 * i:Nat):Int):=by rw [a0Y (by omega) (by omega)];omega
   have s1:=J0W (tag:=0) (n:=A) (s:=32 * i) (k':=.i64) (by omega)
   rw [i1d (by omega)] at s1
   have s2:=Z0w (tag:=0) (a:=N) (b:=A * 2 ^ (32 * i)) (by omega) (by omega)
   rw [t0K hA1] at s2
   simp [-Int.natCast_add,-Int.natCast_mul,-Int.natCast_pow,I0B,I0C,gi,g13,g5,k1.ia hil,hla,eA,e32,s1,s2]
   exact Rnd.mk (by simp [gi]) (by simp [gn]) ⟨by simp [g1],by simp [g13],hx,b0,k1,by simp [-Int.natCast_add,-Int.natCast_mul,-Int.natCast_pow];rw [hA2,i1e]⟩
  ·clear h0 ρ hx b0 k0 k1 hx2
   rintro ρ G gi gn ⟨g1,g13,hx,b0,k1,g5⟩
   have hd2:d < 4294967296 ^ (lz z):=by have:=e0u d;rwa [hld] at this
   have hd3:d < 18446744073709551616:=h1W hd2 (h1R (i1R (by omega) (show lz z≤2 by omega)) (by decide))
   rw [h1O (by omega),a0q] at g5
   have hb0:=a0l b0
   simp [x0p,g1,b0]
   refine (b0B (h.mono hx) hx.1 (by rw [a0g];omega)).mono ?_
   rintro _ G3 ⟨rfl,hx2⟩
   replace b0:=hx2.blk b0;replace hx:=hx.trans hx2
   rw [a0h]
   have hb0:=a0l b0
   have hu:r0O z=false→toV z=.tuple #[.int .i64 0,.bool false]:=fun h=>by rw [toV,h];rfl
   have hv:r0O z=true→toV z=.tuple #[.int .i64 z,.bool true]:=fun h=>by rw [toV,h];rfl
   clear hx2
   by_cases hz:z < 0
   ·by_cases hz2:(d:Int)≤9223372036854775808
    ·have hf1:r0O z=true:=by unfold r0O;simp;omega
     have e1:=W0O (n:=d) (by omega)
     have e2:-(d:Int)=z:=by omega
     rw [e2] at e1
     simp [hz,hz2,g5,x0q,e1,hv hf1]
     try (rw [show IntKind.i64.wrap (IntKind.u64.wrap (-(d:Int)))=z by rw [← Int.zero_sub];exact e1];simp)
    ·have hf1:r0O z=false:=by unfold r0O;simp;omega
     simp [hz,hz2,g5,q0Y,g1,b0]
     refine (b0B (h.mono hx) hx.1 (by rw [a0g];omega)).mono ?_
     rintro _ G4 ⟨rfl,hx2⟩
     rw [a0h]
     simp [hz,q0Z,hu hf1]
   ·simp [hz,g5,q0Y,g1,b0]
    refine (b0B (h.mono hx) hx.1 (by rw [a0g];omega)).mono ?_
    rintro _ G4 ⟨rfl,hx2⟩
    rw [a0h]
    have e2:(d:Int)=z:=by omega
    by_cases hz2:z < 9223372036854775808
    ·have hf1:r0O z=true:=by unfold r0O;simp;omega
     have e1:IntKind.i64.wrap z=z:=a0Y (by omega) hz2
     simp [hz,hz2,g5,x0r,e1,hv hf1,e2]
    ·have hf1:r0O z=false:=by unfold r0O;simp;omega
     simp [hz,hz2,g5,q0Z,hu hf1,e2]
end
end Go.Proofs.YtjlohmnnldbjoaaGreat.AI
