/- Part 12 of the proof. -/
import Derived.Test.YtilekhkgobmolaaGreatM10
set_option linter.unusedVariables false
set_option linter.unusedSimpArgs false
set_option linter.unusedSectionVars false
set_option maxHeartbeats 4000000
namespace Go.Proofs.YtilekhkgobmolaaGreat.AI
open Go
section
variable {fl:Nat} {H G:a0f} {R:a0D} {v w:Value} {i j:Bool × List Nat}
theorem m0Y (h:b0g H v i) (k:b0g H w j) (hf:fl<=H.size) (hn:i.2.length < 268435456) (hm:j.2.length < 268435456) (a1:a0s j ≠ 0) :
  a0O env fl Z0m [v,w] H (fun r H'=>(∃ q m,r=.tuple #[q,m,.int .i64 0]/\b0g H' q (a0g ((a0s i).tdiv (a0s j)))/\b0g H' m (a0g ((a0s i).tmod (a0s j))))/\Ext H H') R:=by
 have I:=h
 have J:=k
 have a4:=h.ok
 have a0:=k.ok
 obtain ⟨s,rfl,hs⟩:=h
 obtain ⟨u,rfl,hu⟩:=k
 refine a0i j1G hf (h:=?_)
 intro ρ h0
 simp [e1L,T0s,h0,hs.cells,hu.cells]
 generalize hG:(((H.push _).push _).push _).push _=G
 have c:Ext H G:=by rw [<- hG];exact (Ext.refl H).push.push.push.push
 have b0:a0f.bk G H.size=.row false a0a [.bool i.1,s]:=by rw [<- hG];simp
 have F:a0f.bk G (H.size + 1)=.row false a0a [.bool j.1,u]:=by rw [<- hG];simp
 have b2:a0f.bk G (H.size + 2)=.row false a0a [.bool false,.slice none 0 0]:=by rw [<- hG];simp
 have b3:a0f.bk G (H.size + 3)=.row false a0a [.bool false,.slice none 0 0]:=by rw [<- hG];simp
 have z:=Ext.refl H
 clear hG
 replace z:=z.trans c;replace I:=I.mo c;replace J:=J.mo c
 simp [T0t,b0]
 refine (b0Q I z.1 (by omega)).mo ?_
 rintro _ G2 ⟨⟨s1,rfl,M⟩,c⟩
 replace b0:=c.bk b0;replace F:=c.bk F;replace b2:=c.bk b2;replace b3:=c.bk b3;replace z:=z.trans c;replace I:=I.mo c;replace J:=J.mo c
 have hsz:=z.1
 simp [b0,M.cells,M.plain,hsz]
 generalize e:Array.setIfInBounds G2 _ _=G3
 have hsz:=z.1;replace I:=I.setS e b0 (by decide);replace J:=J.setS e b0 (by decide);replace M:=M.setS e b0 (by decide);replace F:=a0o e F (by omega);replace b2:=a0o e b2 (by omega);replace b3:=a0o e b3 (by omega);replace z:=a0I e z (by omega);replace b0:=a0r e b0;clear e hsz
 simp [T0u,F]
 refine (b0Q J z.1 (by omega)).mo ?_
 rintro _ G2 ⟨⟨s2,rfl,N⟩,c⟩
 replace b0:=c.bk b0;replace F:=c.bk F;replace b2:=c.bk b2;replace b3:=c.bk b3;replace z:=z.trans c;replace I:=I.mo c;replace J:=J.mo c;replace M:=M.mo c
 have hsz:=z.1
 simp [F,N.cells,N.plain,hsz]
 generalize e:Array.setIfInBounds G2 _ _=G4
 have hsz:=z.1;replace I:=I.setS e F (by decide);replace J:=J.setS e F (by decide);replace M:=M.setS e F (by decide);replace N:=N.setS e F (by decide);replace b0:=a0o e b0 (by omega);replace b2:=a0o e b2 (by omega);replace b3:=a0o e b3 (by omega);replace z:=a0I e z (by omega);replace F:=a0r e F;clear e hsz
 clear I J
 have hl:=a0x a4
 have a2:=a0x a0
 obtain ⟨x,a6⟩:∃ x,a0s i=x:=⟨_,rfl⟩
 obtain ⟨y,a7⟩:∃ y,a0s j=y:=⟨_,rfl⟩
 rw [a6] at b0 M hl ⊢
 rw [a7] at F N a2 a1 ⊢
 have L:0 < y.natAbs:=by omega
 have a3:¬ a0p y.natAbs=[]:=by intro h;have:=b0Y L;rw [h] at this;simp at this
 have c1:(a0g x).1=decide (x < 0):=rfl
 have c2:(a0g y).1=decide (y < 0):=rfl
 rw [c1] at b0
 rw [c2] at F
 have a5:g0b s2=some (.int .i64 ((a0p y.natAbs).length:Int)):=N.slen
 have a9:Lim G4 s1 (a0p x.natAbs):=M
 have b4:Lim G4 s2 (a0p y.natAbs):=N
 clear M N
 simp [T0v,F,a5,a3,T0w,b0]
 refine (i0P a9 b4 L z.1 (by omega) (by omega)).mo ?_
 rintro _ G2 ⟨⟨p,q,rfl,O,U⟩,c⟩
 replace b0:=c.bk b0;replace F:=c.bk F;replace b2:=c.bk b2;replace b3:=c.bk b3;replace z:=z.trans c
 have e1:=p0W x y
 have e2:=p0X x y
 have e3:(a0p (x.natAbs / y.natAbs)).length<=(a0p x.natAbs).length:=a0X (l1J _ _)
 have e4:(a0p (x.natAbs % y.natAbs)).length<=(a0p y.natAbs).length:=a0X (n1d (l1T _ L))
 simp
 refine a0C ?_
 simp [T0x,b0,F]
 refine (c0j (x.tdiv y) O (by have:=z.1;omega) (by omega) (by rw [a0q,<- e1])).mo ?_
 rintro _ G5 ⟨⟨s3,rfl,Z⟩,c⟩
 replace b0:=c.bk b0;replace F:=c.bk F;replace b2:=c.bk b2;replace b3:=c.bk b3;replace z:=z.trans c;replace O:=O.mo c;replace U:=U.mo c
 simp [b0]
 refine (c0j (x.tmod y) U z.1 (by omega) (by rw [a0q,<- e2])).mo ?_
 rintro _ G5 ⟨⟨s4,rfl,k7⟩,c⟩
 replace b0:=c.bk b0;replace F:=c.bk F;replace b2:=c.bk b2;replace b3:=c.bk b3;replace z:=z.trans c;replace O:=O.mo c;replace U:=U.mo c;replace Z:=Z.mo c
 have hsz:=z.1
 simp [b2,Z.cells,Z.plain,hsz]
 generalize e:Array.setIfInBounds G5 _ _=G6
 have hsz:=z.1;replace O:=O.setS e b2 (by decide);replace U:=U.setS e b2 (by decide);replace Z:=Z.setS e b2 (by decide);replace k7:=k7.setS e b2 (by decide);replace b0:=a0o e b0 (by omega);replace F:=a0o e F (by omega);replace b3:=a0o e b3 (by omega);replace z:=a0I e z (by omega);replace b2:=a0r e b2;clear e hsz
 have hsz:=z.1
 have a8:=a0k b3
 simp [b2,b3,k7.cells,k7.plain,hsz,a8]
 exact fun _=>⟨_,_,⟨rfl,rfl⟩,⟨s3,rfl,Z.setT b3 (by decide)⟩,⟨s4,rfl,k7.setT b3 (by decide)⟩⟩
theorem g0H {n:Int} (z:fl<=H.size) (x:-9223372036854775808<=n) (y:n < 9223372036854775808):a0O env fl X0e [.int .i64 n] H (fun r H'=>b0L H' r (a0e n)/\Ext H H') R:=by
 refine a0i i1Q z (h:=?_)
 intro ρ v
 simp [d1V,P0A,P0B,v]
 generalize u:H.push _=G
 obtain ⟨c,b0⟩:=g0e u
 have e:=Ext.refl H
 clear u
 replace e:=e.trans c
 refine (f0e e.1 x y).mo ?_
 rintro _ s ⟨⟨F,rfl,j⟩,c⟩
 replace b0:=c.bk b0;replace e:=e.trans c
 simp
 refine (f0e e.1 (by omega) (by omega)).mo ?_
 rintro _ s ⟨⟨I,rfl,q⟩,c⟩
 replace b0:=c.bk b0;replace e:=e.trans c;replace j:=j.mo c
 have hsz:=e.1
 simp [b0,j.cells,j.plain,q.cells,q.plain,hsz,b0x]
 generalize k:Array.setIfInBounds s _ _=G5
 have hsz:=e.1;replace j:=j.setS k b0 (by decide);replace q:=q.setS k b0 (by decide);replace e:=a0I k e (by omega);replace b0:=a0r k b0;clear k hsz
 simp [b0]
 have hc:a0e (n:Rat)=(a0g n,a0g 1):=by
  unfold a0e;rw [n1h,n1g];rfl
 rw [hc]
 exact fun _=>⟨F,I,rfl,j,q⟩
theorem j0j (h:b0g H v i) (k:b0g H w j) (hf:fl<=H.size) (hn:i.2.length < 268435456) (hm:j.2.length < 268435456) (a4:a0s j ≠ 0) :
  a0O env fl X0f [v,w] H (fun r H'=>(∃ q,r=.tuple #[q,.int .i64 0]/\b0L H' q (a0e (Rat.divInt (a0s i) (a0s j))))/\Ext H H') R:=by
 have J:=h
 have I:=k
 have c8:=h.ok
 have b9:=k.ok
 obtain ⟨s,rfl,hs⟩:=h
 obtain ⟨u,rfl,hu⟩:=k
 refine a0i j1d hf (h:=?_)
 intro ρ h0
 simp [e1i,Q0O,h0,hs.cells,hu.cells]
 generalize hG:((H.push _).push _).push _=G
 have c:Ext H G:=by rw [<- hG];exact (Ext.refl H).push.push.push
 have b0:a0f.bk G H.size=.row false a0a [.bool i.1,s]:=by rw [<- hG];simp
 have F:a0f.bk G (H.size + 1)=.row false a0a [.bool j.1,u]:=by rw [<- hG];simp
 have b2:a0f.bk G (H.size + 2)=.row false a0b [.bool false,.slice none 0 0,.bool false,.slice none 0 0]:=by rw [<- hG];simp
 have z:=Ext.refl H
 clear hG
 replace z:=z.trans c;replace J:=J.mo c;replace I:=I.mo c
 simp [Q0P,b0]
 refine (b0Q J z.1 (by omega)).mo ?_
 rintro _ G2 ⟨⟨s1,rfl,L⟩,c⟩
 replace b0:=c.bk b0;replace F:=c.bk F;replace b2:=c.bk b2;replace z:=z.trans c;replace J:=J.mo c;replace I:=I.mo c
 have hsz:=z.1
 simp [b0,L.cells,L.plain,hsz]
 generalize e:Array.setIfInBounds G2 _ _=G3
 have hsz:=z.1;replace J:=J.setS e b0 (by decide);replace I:=I.setS e b0 (by decide);replace L:=L.setS e b0 (by decide);replace F:=a0o e F (by omega);replace b2:=a0o e b2 (by omega);replace z:=a0I e z (by omega);replace b0:=a0r e b0;clear e hsz
 simp [Q0Q,F]
 refine (b0Q I z.1 (by omega)).mo ?_
 rintro _ G2 ⟨⟨s2,rfl,k3⟩,c⟩
 replace b0:=c.bk b0;replace F:=c.bk F;replace b2:=c.bk b2;replace z:=z.trans c;replace J:=J.mo c;replace I:=I.mo c;replace L:=L.mo c
 have hsz:=z.1
 simp [F,k3.cells,k3.plain,hsz]
 generalize e:Array.setIfInBounds G2 _ _=G4
 have hsz:=z.1;replace J:=J.setS e F (by decide);replace I:=I.setS e F (by decide);replace L:=L.setS e F (by decide);replace k3:=k3.setS e F (by decide);replace b0:=a0o e b0 (by omega);replace b2:=a0o e b2 (by omega);replace z:=a0I e z (by omega);replace F:=a0r e F;clear e hsz
 clear J I
 have hl:=a0x c8
 have b8:=a0x b9
 obtain ⟨x,d0⟩:∃ x,a0s i=x:=⟨_,rfl⟩
 obtain ⟨y,d1⟩:∃ y,a0s j=y:=⟨_,rfl⟩
 rw [d0] at b0 L hl ⊢
 rw [d1] at F k3 b8 a4 ⊢
 have c0:0 < y.natAbs:=by omega
 have c7:¬ a0p y.natAbs=[]:=by intro h;have:=b0Y c0;rw [h] at this;simp at this
 have c9:g0b s2=some (.int .i64 ((a0p y.natAbs).length:Int)):=k3.slen
 have O:b0g G4 (.agg #[.bool (a0g x).1,s1]) (a0g x):=⟨s1,rfl,L⟩
 have U:b0g G4 (.agg #[.bool (a0g y).1,s2]) (a0g y):=⟨s2,rfl,k3⟩
 clear L k3
 have lx:(a0g x).2.length=lz x:=rfl
 have ly:(a0g y).2.length=lz y:=rfl
 change lz x<=_ at hl
 change lz y<=_ at b8
 have c6:lz (Int.gcd x y:Int)<=lz y:=by
  have h5:Int.gcd x y<=y.natAbs:=m1N _ a4
  exact a0X (by simpa using h5)
 simp [Q0R,F,c9,c7,Q0S,b0]
 refine (j0h O U z.1 (by omega) (by omega)).mo ?_
 rintro _ G2 ⟨⟨s3,rfl,k6⟩,c⟩
 replace b0:=c.bk b0;replace F:=c.bk F;replace b2:=c.bk b2;replace z:=z.trans c;replace O:=O.mo c;replace U:=U.mo c
 rw [a0h,a0h] at k6 ⊢
 have hsz:=z.1
 simp [k6.cells,k6.plain,hsz]
 generalize hN:Array.setIfInBounds (Array.push _ _) _ _=G3
 obtain ⟨c,b3⟩:=new1 hN
 have a6:=a0k b2
 clear hN
 replace b0:=c.bk b0;replace F:=c.bk F;replace b2:=c.bk b2;replace z:=z.trans c;replace O:=O.mo c;replace U:=U.mo c;replace k6:=k6.mo c
 obtain ⟨P,hP⟩:∃ P,P=G2.size:=⟨_,rfl⟩
 rw [<- hP] at b3 hsz a6 ⊢
 obtain ⟨g,hg⟩:∃ g:Int,g=(Int.gcd x y:Int):=⟨_,rfl⟩
 rw [<- hg] at k6 b3 c6 ⊢
 have a9:g ≠ 0:=by
  have:=Int.gcd_pos_of_ne_zero_right x a4
  omega
 have Z:b0g G3 (.agg #[.bool (a0g g).1,s3]) (a0g g):=⟨s3,rfl,k6⟩
 have lg:(a0g g).2.length=lz g:=rfl
 clear k6
 have d5:lz (x.tdiv g)<=lz x:=m0I (by rw [Int.natAbs_tdiv];exact l1J _ _)
 have d6:lz (y.tdiv g)<=lz y:=m0I (by rw [Int.natAbs_tdiv];exact l1J _ _)
 simp [Q0T,b0,b3]
 refine (m0Y O Z z.1 (by omega) (by omega) (by rw [a0h];exact a9)).mo ?_
 rintro _ G2 ⟨⟨_,_,rfl,⟨s4,rfl,J⟩,⟨s5,rfl,I⟩⟩,c⟩
 replace b0:=c.bk b0;replace F:=c.bk F;replace b2:=c.bk b2;replace b3:=c.bk b3;replace z:=z.trans c;replace O:=O.mo c;replace U:=U.mo c;replace Z:=Z.mo c
 rw [a0h,a0h] at J I ⊢
 generalize x.tmod g=m1 at I ⊢
 have hsz:=z.1
 have a7:=a0k b3
 have a2:H.size<=G2.size + 1:=by omega
 simp [J.cells,J.plain,I.cells,I.plain,hsz,a2]
 generalize hN:Array.setIfInBounds _ (Array.size G2 + 1) _=G5
 obtain ⟨c,M⟩:Ext G2 G5/\a0f.bk G5 G2.size=.row false a0a [.bool (a0g (x.tdiv g)).1,s4]:=by
  rw [<- hN]
  exact ⟨((Ext.refl G2).push.push.set (k1x _)).set (Nat.le_succ _),by rw [a0T (Nat.succ_ne_self _),a0A (by simp)]⟩
 clear hN I
 replace b0:=c.bk b0;replace F:=c.bk F;replace b2:=c.bk b2;replace b3:=c.bk b3;replace z:=z.trans c;replace J:=J.mo c;replace O:=O.mo c;replace U:=U.mo c;replace Z:=Z.mo c
 obtain ⟨P4,c3⟩:∃ P,P=G2.size:=⟨_,rfl⟩
 rw [<- c3] at M hsz a7 ⊢
 simp [Q0U,F,b3]
 refine (m0Y U Z z.1 (by omega) (by omega) (by rw [a0h];exact a9)).mo ?_
 rintro _ G6 ⟨⟨_,_,rfl,⟨s6,rfl,I⟩,⟨s7,rfl,L⟩⟩,c⟩
 replace b0:=c.bk b0;replace F:=c.bk F;replace b2:=c.bk b2;replace b3:=c.bk b3;replace M:=c.bk M;replace z:=z.trans c;replace J:=J.mo c;replace O:=O.mo c;replace U:=U.mo c;replace Z:=Z.mo c
 rw [a0h,a0h] at I L ⊢
 generalize y.tmod g=m2 at L ⊢
 have a3:=z.1
 have a8:=a0k M
 have a2:H.size<=G6.size + 1:=by omega
 simp [I.cells,I.plain,L.cells,L.plain,a3,a2]
 generalize hN:Array.setIfInBounds _ (Array.size G6 + 1) _=G7
 obtain ⟨c,N⟩:Ext G6 G7/\a0f.bk G7 G6.size=.row false a0a [.bool (a0g (y.tdiv g)).1,s6]:=by
  rw [<- hN]
  exact ⟨((Ext.refl G6).push.push.set (k1x _)).set (Nat.le_succ _),by rw [a0T (Nat.succ_ne_self _),a0A (by simp)]⟩
 clear hN L
 replace b0:=c.bk b0;replace F:=c.bk F;replace b2:=c.bk b2;replace b3:=c.bk b3;replace M:=c.bk M;replace z:=z.trans c;replace J:=J.mo c;replace I:=I.mo c;replace O:=O.mo c;replace U:=U.mo c;replace Z:=Z.mo c
 obtain ⟨P5,c4⟩:∃ P,P=G6.size:=⟨_,rfl⟩
 rw [<- c4] at N a3 a8 ⊢
 have j4:b0g G7 (.agg #[.bool (a0g (x.tdiv g)).1,s4]) (a0g (x.tdiv g)):=⟨s4,rfl,J⟩
 have j5:b0g G7 (.agg #[.bool (a0g (y.tdiv g)).1,s6]) (a0g (y.tdiv g)):=⟨s6,rfl,I⟩
 have cy:(a0g (y.tdiv g)).1=decide (y.tdiv g < 0):=rfl
 obtain ⟨g',a0⟩:∃ g',g' = if y < 0 then -(Int.gcd x y:Int) else (Int.gcd x y:Int):=⟨_,rfl⟩
 obtain ⟨hq,d2⟩:=t0n (p:=x) a4 a0
 rw [hq]
 have a5:0 < g:=by omega
 have c2:y.tdiv g < 0 <-> y < 0:=by
  have e2:y.tdiv g * g=y:=Int.tdiv_mul_cancel (by rw [hg];exact n1j ..)
  constructor
  ·intro h
   rw [<- e2];exact Int.mul_neg_of_neg_of_pos h a5
  ·intro h
   by_cases h2:y.tdiv g < 0
   ·exact h2
   ·have:=m1R (show 0<=y.tdiv g by omega) (show 0<=g by omega);omega
 simp [Q0V,N]
 by_cases a1:y < 0
 ·rw [k1B a1,<- hg] at a0
  have c1:decide (y.tdiv g < 0)=true:=by simp [c2,a1]
  rw [cy,c1]
  have d3:(a0g (x.tdiv g)).2.length=lz (x.tdiv g):=rfl
  have d4:(a0g (y.tdiv g)).2.length=lz (y.tdiv g):=rfl
  simp [Q0W,M]
  refine (j0i j4 z.1 (by omega)).mo ?_
  rintro _ G2 ⟨⟨s8,rfl,L⟩,c⟩
  replace j5:=j5.mo c
  replace b0:=c.bk b0;replace F:=c.bk F;replace b2:=c.bk b2;replace b3:=c.bk b3;replace M:=c.bk M;replace N:=c.bk N;replace z:=z.trans c;replace J:=J.mo c;replace I:=I.mo c;replace O:=O.mo c;replace U:=U.mo c;replace Z:=Z.mo c
  rw [a0h] at L ⊢
  have c5:=a0k M
  simp [M,L.cells,L.plain,hsz]
  generalize e:Array.setIfInBounds G2 _ _=G8
  replace j5:=j5.setS e M (by decide)
  have hsz:=z.1;replace J:=J.setS e M (by decide);replace I:=I.setS e M (by decide);replace L:=L.setS e M (by decide);replace O:=O.setS e M (by decide);replace U:=U.setS e M (by decide);replace Z:=Z.setS e M (by decide);replace b0:=a0o e b0 (by omega);replace F:=a0o e F (by omega);replace b2:=a0o e b2 (by omega);replace b3:=a0o e b3 (by omega);replace N:=a0o e N (by omega);replace z:=a0I e z (by omega);replace M:=a0r e M;clear e hsz
  simp [I0C,N]
  refine (j0i j5 z.1 (by omega)).mo ?_
  rintro _ G2 ⟨⟨s9,rfl,k3⟩,c⟩
  replace b0:=c.bk b0;replace F:=c.bk F;replace b2:=c.bk b2;replace b3:=c.bk b3;replace M:=c.bk M;replace N:=c.bk N;replace z:=z.trans c;replace J:=J.mo c;replace I:=I.mo c;replace L:=L.mo c;replace O:=O.mo c;replace U:=U.mo c;replace Z:=Z.mo c
  rw [a0h] at k3 ⊢
  simp [N,k3.cells,k3.plain,a3]
  generalize e:Array.setIfInBounds G2 _ _=G9
  have hsz:=z.1;replace J:=J.setS e N (by decide);replace I:=I.setS e N (by decide);replace L:=L.setS e N (by decide);replace k3:=k3.setS e N (by decide);replace O:=O.setS e N (by decide);replace U:=U.setS e N (by decide);replace Z:=Z.setS e N (by decide);replace b0:=a0o e b0 (by omega);replace F:=a0o e F (by omega);replace b2:=a0o e b2 (by omega);replace b3:=a0o e b3 (by omega);replace M:=a0o e M (by omega);replace z:=a0I e z (by omega);replace N:=a0r e N;clear e hsz
  have hz:=a0k b2
  have hsz:=z.1
  have t1:x.tdiv g' = -(x.tdiv g):=by rw [a0,Int.tdiv_neg]
  have t2:y.tdiv g' = -(y.tdiv g):=by rw [a0,Int.tdiv_neg]
  rw [t1,t2]
  simp [w0r,M,N,b2,L.cells,L.plain,k3.cells,k3.plain,hz]
  exact fun _=>⟨s8,s9,rfl,L.setT b2 (by decide),k3.setT b2 (by decide)⟩
 ·rw [k1y a1,<- hg] at a0
  have c1:decide (y.tdiv g < 0)=false:=by simp [c2];omega
  rw [cy,c1] at N
  have hz:=a0k b2
  have hsz:=z.1
  rw [cy,c1]
  have cq:(a0g (y.tdiv g)).1=false:=by rw [cy,c1]
  rw [a0]
  simp [w0r,M,N,b2,J.cells,J.plain,I.cells,I.plain,hz]
  refine fun _=>⟨s4,s6,by rw [cq],J.setT b2 (by decide),I.setT b2 (by decide)⟩
end
section
variable {fl:Nat} {H G:a0f} {R:a0D} {v w:Value} {a b:b0b}
theorem l0n (h:b0L H v a) (I:fl<=H.size):a0O env fl B0u [v] H (fun r H'=>r=.bool (d0T a)/\Ext H H') R:=by
 obtain ⟨s,u,rfl,hs,z⟩:=h
 obtain ⟨⟨p,J⟩,⟨q,L⟩⟩:=a
 simp only at hs z
 refine a0i g1I I (h:=?_)
 intro ρ F
 simp [M0K,E0J,F]
 generalize x:H.push _=G
 obtain ⟨k,b0⟩:=g0e x
 clear x
 have c:=(hs.mo k).slen
 have e:=(z.mo k).slen
 unfold d0T
 cases J with
 | nil =>
  cases p with
  | true=>simp [n0B,b0,c,e]
  | false =>
   cases L with
   | nil=>cases q <;> simp [n0B,b0,c,e]
   | cons y l =>
    have j:¬ ((l.length:Int) + 1=0):=by omega
    simp [n0B,b0,c,e,j]
 | cons y l =>
  have j:¬ ((l.length:Int) + 1=0):=by omega
  simp [n0B,b0,c,e,j]
end
section
variable {fl:Nat} {H G:a0f} {R:a0D} {v w:Value} {e f:c0f}
theorem o0E (h:g0L H v e) (L:fl<=H.size) (M:d0J e.2 < 268435456):a0O env fl b1o [v] H (fun r H'=>r=.bool (i0K e)/\Ext H H') R:=by
 obtain ⟨s,u,rfl,hs,I⟩:=h
 have k:b0L H (.agg #[.bool e.2.1.1,s,.bool e.2.2.1,u]) e.2:=⟨s,u,rfl,hs,I⟩
 refine a0i k1c L (h:=?_)
 intro ρ J
 simp [f1h,V0d,J,hs.cells,I.cells]
 generalize F:H.push _=G
 obtain ⟨c,b0⟩:=g0e F
 have j:=Ext.refl H
 clear F
 replace j:=j.trans c;replace k:=k.mo c
 unfold i0K
 by_cases z:e.1=0
 ·simp [z,t0F,V0e,b0]
  refine (i0O k j.1 M).mo ?_
  rintro _ q ⟨rfl,c⟩
  simp
 ·by_cases y:e.1=1
  ·simp [y,t0F,y0C,b0]
   refine (l0n k j.1).mo ?_
   rintro _ q ⟨rfl,c⟩
   simp
  ·by_cases x:e.1 = -1
   ·simp [x,t0F,y0C,b0]
    refine (l0n k j.1).mo ?_
    rintro _ q ⟨rfl,c⟩
    simp
   ·simp [x,y,z,t0F,y0C,b0]
theorem h0F (h:g0L H v e) (hf:fl<=H.size) (Z:d0J e.2 < 268435456):a0O env fl Z0k [v] H (fun r H'=>g0L H' r (c0g (g0f e))/\Ext H H') R:=by
 have y:=h
 obtain ⟨s,u,rfl,hs,hu⟩:=h
 have x:b0L H (.agg #[.bool e.2.1.1,s,.bool e.2.2.1,u]) e.2:=⟨s,u,rfl,hs,hu⟩
 refine a0i j1w hf (h:=?_)
 intro ρ h0
 simp [e1B,S0z,h0,hs.cells,hu.cells]
 generalize M:(H.push _).push _=G
 have c:Ext H G:=by rw [<- M];exact (Ext.refl H).push.push
 have b0:a0f.bk G H.size=.row false a0Z [.int .i64 e.1,.bool e.2.1.1,s,.bool e.2.2.1,u]:=by rw [<- M];simp
 have j:a0f.bk G (H.size + 1)=.row false a0Z [.int .i64 0,.bool false,.slice none 0 0,.bool false,.slice none 0 0]:=by rw [<- M];simp
 have q:=Ext.refl H
 clear M
 replace q:=q.trans c;replace y:=y.mo c;replace x:=x.mo c
 simp [S0A,b0]
 refine (o0E y q.1 Z).mo ?_
 rintro _ G2 ⟨rfl,c⟩
 replace b0:=c.bk b0;replace j:=c.bk j;replace q:=q.trans c;replace y:=y.mo c;replace x:=x.mo c
 have hsz:=q.1
 unfold g0f
 cases hm:i0K e with
 | false =>
  simp [S0B]
  refine (e0A q.1).mo ?_
  rintro _ G3 ⟨⟨U,u3,rfl,z,F⟩,c⟩
  replace b0:=c.bk b0;replace j:=c.bk j;replace q:=q.trans c;replace y:=y.mo c;replace x:=x.mo c
  have hsz:=q.1
  simp [j,z.cells,z.plain,F.cells,F.plain,hsz,b0x]
  generalize k:Array.setIfInBounds G3 _ _=G5
  have hsz:=q.1;replace y:=y.setS k j (by decide);replace x:=x.setS k j (by decide);replace z:=z.setS k j (by decide);replace F:=F.setS k j (by decide);replace b0:=a0o k b0 (by omega);replace q:=a0I k q (by omega);replace j:=a0r k j;clear k hsz
  simp [j]
  exact fun _=>⟨U,u3,rfl,z,F⟩
 | true =>
  by_cases L:e.1=0
  ·simp [L,I0Y,S0D,b0]
   refine (b0I x q.1 Z).mo ?_
   rintro _ G3 ⟨⟨U,u3,rfl,z,F⟩,c⟩
   replace b0:=c.bk b0;replace j:=c.bk j;replace q:=q.trans c;replace y:=y.mo c;replace x:=x.mo c
   have hsz:=q.1
   simp [j,z.cells,z.plain,F.cells,F.plain,hsz,b0x]
   generalize k:Array.setIfInBounds G3 _ _=G5
   have hsz:=q.1;replace y:=y.setS k j (by decide);replace x:=x.setS k j (by decide);replace z:=z.setS k j (by decide);replace F:=F.setS k j (by decide);replace b0:=a0o k b0 (by omega);replace q:=a0I k q (by omega);replace j:=a0r k j;clear k hsz
   simp [j]
   exact fun _=>⟨U,u3,rfl,z,F⟩
  ·have hz:d0T e.2=true:=by
    unfold i0K at hm
    by_cases hc:e.1 = -1 ∨ e.1=1
    ·rw [k1B hc] at hm;exact hm
    ·rw [k1y hc,k1y L] at hm;exact k1Q hm (by decide)
   have he:=(K0D _).1 hz
   have hc:c0g (e.1,0)=e:=by
    unfold c0g
    simp only
    rw [k1y L]
    exact Prod.ext rfl he.symm
   obtain ⟨s5,u5,O,I,J⟩:=y
   have N:s5=s/\u5=u:=by simpa [eq_comm] using O
   obtain ⟨rfl,rfl⟩:=N
   simp [L,I0Y,S0C,b0,j,I.cells,I.plain,J.cells,J.plain,hsz]
   generalize k:Array.setIfInBounds G2 _ _=G5
   have hsz:=q.1;replace x:=x.setS k j (by decide);replace I:=I.setS k j (by decide);replace J:=J.setS k j (by decide);replace b0:=a0o k b0 (by omega);replace q:=a0I k q (by omega);replace j:=a0r k j;clear k hsz
   simp [j]
   rw [hc]
   exact fun _=>⟨s5,u5,rfl,I,J⟩
theorem o0C (h:g0L H v e) (k:g0L H w f) (hf:fl<=H.size) (hn:d0J e.2 < 67108864) (hm:d0J f.2 < 67108864):a0O env fl a1Q [v,w] H (fun r H'=>r=.int .i64 (u0r (g0f e) (g0f f))/\Ext H H') R:=by
 have F:=h
 have I:=k
 have l1:=s0R h
 have l2:=s0R k
 obtain ⟨s,u,rfl,hs,hu⟩:=h
 obtain ⟨s',u',rfl,a1,a2⟩:=k
 refine a0i j1b hf (h:=?_)
 intro ρ h0
 simp [e1g,Q0r,h0,hs.cells,hu.cells,a1.cells,a2.cells]
 generalize hG:(H.push _).push _=G
 have c:Ext H G:=by rw [<- hG];exact (Ext.refl H).push.push
 have b0:a0f.bk G H.size=.row false a0Z [.int .i64 e.1,.bool e.2.1.1,s,.bool e.2.2.1,u]:=by rw [<- hG];simp
 have j:a0f.bk G (H.size + 1)=.row false a0Z [.int .i64 f.1,.bool f.2.1.1,s',.bool f.2.2.1,u']:=by rw [<- hG];simp
 have z:=Ext.refl H
 clear hG
 replace z:=z.trans c;replace F:=F.mo c;replace I:=I.mo c
 simp [Q0s,b0]
 refine (h0F F z.1 (by omega)).mo ?_
 rintro _ G2 ⟨⟨s1,s2,rfl,J,L⟩,c⟩
 replace b0:=c.bk b0;replace j:=c.bk j;replace z:=z.trans c;replace F:=F.mo c;replace I:=I.mo c
 have M:=a0k b0
 simp [b0,J.cells,J.plain,L.cells,L.plain,M]
 generalize q:Array.setIfInBounds G2 _ _=G3
 have hsz:=z.1;replace F:=F.setS q b0 (by decide);replace I:=I.setS q b0 (by decide);replace J:=J.setS q b0 (by decide);replace L:=L.setS q b0 (by decide);replace j:=a0o q j (by omega);replace z:=a0I q z (by omega);replace b0:=a0r q b0;clear q hsz
 simp [Q0t,j]
 refine (h0F I z.1 (by omega)).mo ?_
 rintro _ G2 ⟨⟨s3,s4,rfl,N,O⟩,c⟩
 replace b0:=c.bk b0;replace j:=c.bk j;replace z:=z.trans c;replace F:=F.mo c;replace I:=I.mo c;replace J:=J.mo c;replace L:=L.mo c
 clear F I
 have M:=a0k j
 simp [j,N.cells,N.plain,O.cells,O.plain,M]
 generalize q:Array.setIfInBounds G2 _ _=G3
 have hsz:=z.1;replace J:=J.setS q j (by decide);replace L:=L.setS q j (by decide);replace N:=N.setS q j (by decide);replace O:=O.setS q j (by decide);replace b0:=a0o q b0 (by omega);replace z:=a0I q z (by omega);replace j:=a0r q j;clear q hsz
 obtain ⟨x,a3⟩:∃ x,x=g0f e:=⟨_,rfl⟩
 obtain ⟨y,a4⟩:∃ y,y=g0f f:=⟨_,rfl⟩
 rw [<- a3] at l1 J L b0 ⊢
 rw [<- a4] at l2 N O j ⊢
 have kx:(c0g x).1=x.1:=by unfold c0g;split <;> simp_all
 have ky:(c0g y).1=y.1:=by unfold c0g;split <;> simp_all
 rw [kx] at b0
 rw [ky] at j
 unfold u0r
 simp [Q0u,b0,j]
 by_cases h1:x.1=y.1
 ·have U:¬ x.1 < y.1:=by omega
  have Z:¬ y.1 < x.1:=by omega
  by_cases h3:x.1=0
  ·have h4:y.1=0:=by omega
   have kr:b0L _ (.agg #[.bool (c0g x).2.1.1,s1,.bool (c0g x).2.2.1,s2]) (c0g x).2:=⟨s1,s2,rfl,J,L⟩
   have kq:b0L _ (.agg #[.bool (c0g y).2.1.1,s3,.bool (c0g y).2.2.1,s4]) (c0g y).2:=⟨s3,s4,rfl,N,O⟩
   simp [h1,U,h3,h4,I0v,Q0y,b0,j]
   refine (o0D kr kq z.1 (by omega) (by omega)).mo ?_
   rintro _ G2 ⟨rfl,c⟩
   have e1:b0t (c0g x).2=x.2:=by unfold c0g;rw [k1B h3];exact a0w _
   have e2:b0t (c0g y).2=y.2:=by unfold c0g;rw [k1B h4];exact a0w _
   simp [e1,e2]
  ·have h4:y.1 ≠ 0:=by omega
   simp [h1,U,h3,h4,I0v,Q0x,b0,j]
 ·by_cases U:x.1 < y.1
  ·simp [h1,U,I0u,Q0v,b0,j]
  ·have Z:y.1 < x.1:=by omega
   have a0:y.1<=x.1:=by omega
   simp [h1,U,Z,a0,I0u,Q0w,b0,j]
end
section
variable {fl:Nat} {H G:a0f} {R:a0D} {v w:Value}
end
section
variable {fl:Nat} {H G:a0f} {R:a0D} {v w u:Value}
theorem b0d.app2 {α:Type} {P:a0f->List Value->α->Prop} {e sz:Nat} {l:List α} (he:e ≠ a0l) (I:∀ G' cs x,d0o (slB v) G G'->Lx G G'->P G cs x->P G' cs x) (h:b0d P fl G e sz v l) {e2 c bytes:Nat} {new1 new2:List Value} {x1 x2:α} (N:P G new1 x1) (O:P G new2 x2) (q:new1.length=sz) (z:new2.length=sz) (L:new1.all a0v=true) (M:new2.all a0v=true) (hn:l.length < 1073741822) (hb:bytes<=1024) (hs:0 < sz) (a0:fl<=G.size) :
  ∃ v' G',i0H fl (G.push (.row false e2 (new1 ++ new2))) e sz bytes v (.slice (some ⟨G.size,0,none⟩) 2 c)=some (v',G')/\b0d P fl G' e sz v' (l ++ [x1,x2])/\d0o (slB v) G G'/\(∀ H0,H0.size<=fl->Ext H0 G->Ext H0 G'):=by
 obtain ⟨cs,F,U⟩:=h
 have hx:Sl (G.push (.row false e2 (new1 ++ new2))) e2 sz (.slice (some ⟨G.size,0,none⟩) 2 c) 2 (new1 ++ new2):=(Own.mk (fl:=0) a0G (by rw [k1S,q,z];omega) (l1D _)).sl
 obtain ⟨v',G',Z,a2,R,a4⟩:=k0r (F.mo (Ext.push (Ext.refl G))) hx (by rw [m1Z,L,M];rfl) (by omega) hb hs (bytes:=bytes) (by simp;omega)
 have j:d0o (slB v) G G':=by
  refine ⟨?_,fun b hb J=>?_⟩
  ·have:=R.1;simp at this;omega
  ·rw [R.2 b (by simp;omega) J,d0P hb]
 have H:=b0d.lx ⟨cs,F,U⟩ he j
 refine ⟨v',G',Z,⟨cs ++ (new1 ++ new2),by simpa using a2,fun k hk=>?_⟩,j,fun H0 k1 k2=>a4 H0 k1 k2.push⟩
 have y:=F.1
 by_cases u:k < l.length
 ·have h3:(k + 1) * sz<=l.length * sz:=k1E _ u
  rw [k1R,l1l] at h3
  rw [l1s u,l1M (by omega),m1c (by simp;omega)]
  exact I _ _ _ j H (U k u)
 ·by_cases s:k=l.length
  ·subst s
   rw [k1X (k1x _),l1M (by omega),l1V (by omega),l1Z,m1c (by omega),<- q,k1M]
   simpa using I _ _ _ j H N
  ·have s:k=l.length + 1:=by simp at hk;omega
   subst s
   have e1:(cs ++ (new1 ++ new2)).drop ((l.length + 1) * sz)=new2:=by
    rw [<- m1u,List.drop_append,l1V (by rw [k1S,y,q,k1R];omega),l1Z,k1S,y,q,k1R]
    simp
   rw [e1,k1X (by omega),<- z,k1M]
   simpa using I _ _ _ j H O
theorem L0N {n:Int}:mn2 true 0 (mn2 false n 6)=max 0 (min n 6):=by
 simp only [mn2,k1W,l1y,l1o]
 repeat' split
 all_goals omega
theorem o0A {n:Int} (k:fl<=H.size):a0O env fl a1R [.int .i64 n] H (fun r H'=>r=.int .i64 (max 0 (min n 6))/\Ext H H') R:=by
 refine a0i j1f k (h:=?_)
 intro ρ c
 simp [e1k,R0b,R0c,c]
 have e:u0P true (.int .i64 0) [.int .i64 (mn2 false n 6)]=some (.int .i64 (max 0 (min n 6))):=by rw [<- L0N];rfl
 have j:u0P false (.int .i64 n) [.int .i64 6]=some (.int .i64 (mn2 false n 6)):=rfl
 simp [j,e]
theorem l0l {n:Nat} {i p k q:Int} (hf:fl<=H.size) (hn:n < 1073741824) (a0:-9223372036854775808<=p) (a1:p < 9223372036854775808) (a2:-9223372036854775808<=q) (a3:q < 9223372036854775808) :
  a0O env fl Z0g [.int .i64 (n:Int),.int .i64 i,.int .i64 p,.int .i64 k,.int .i64 q] H (fun r H'=>b0d PR H.size H' a0b 4 r ((List.range n).map fun (j:Nat)=>a0e ((if (j:Int)=k then q else if (j:Int)=i then p else 0:Int):Rat))/\Ext H H') R:=by
 refine a0i j1g hf (h:=?_)
 intro ρ F
 simp [e1l,R0d,R0e,R0f,F]
 refine d0C (fun j ρ G=>ρ 0=.int .i64 (n:Int)/\ρ 1=.int .i64 i/\ρ 2=.int .i64 p/\ρ 3=.int .i64 k/\ρ 4=.int .i64 q/\ρ 12=.int .i64 (j:Int)/\Ext H G/\b0d PR H.size G a0b 4 (ρ 11) ((List.range j).map fun (j:Nat)=>a0e ((if (j:Int)=k then q else if (j:Int)=i then p else 0:Int):Rat))) n (by decide) ⟨by simp [F],by simp [F],by simp [F],by simp [F],by simp [F],by simp,Ext.refl H,by simpa using b0d.nil⟩ ?_
 clear F ρ
 rintro j ρ G a6 ⟨g0,g1,g2,g3,g4,y,M,ho⟩
 obtain ⟨s,v⟩:∃ s,ρ 11=s:=⟨_,rfl⟩
 rw [v] at ho
 simp [R0g,g0,y]
 refine e0T.mk (by simp) (fun hj=>?_) (fun Z=>?_)
 ·obtain ⟨z,I⟩:∃ z:Int,z=(if (j:Int)=k then q else if (j:Int)=i then p else 0):=⟨_,rfl⟩
  have a7:-9223372036854775808<=z:=by rw [I];split;exact a2;split;exact a0;omega
  have a8:z < 9223372036854775808:=by rw [I];split;exact a3;split;exact a1;omega
  have u:(List.range (j + 1)).map (fun (j:Nat)=>a0e ((if (j:Int)=k then q else if (j:Int)=i then p else 0:Int):Rat))=(List.range j).map (fun (j:Nat)=>a0e ((if (j:Int)=k then q else if (j:Int)=i then p else 0:Int):Rat)) ++ [a0e (z:Rat)]:=by
   rw [List.range_succ,n1c,List.map_singleton,<- I]
  by_cases J:(j:Int)=k <;> by_cases L:(j:Int)=i
  all_goals
   first | rw [k1B J] at I | rw [k1y J,k1B L] at I | rw [k1y J,k1y L] at I
   subst I
   try subst J
   try subst L
   simp [R0h,R0i,R0j,R0k,R0l,g1,g2,g3,g4,y, *]
   simp [R0m,v]
   refine (g0H M.1 (by omega) (by omega)).mo ?_
   rintro _ G2 ⟨⟨s3,s4,rfl,O,U⟩,N⟩
   replace M:=M.trans N
   replace ho:=ho.mo a0K N
   try rw [show ((0:Int):Rat)=0 from rfl] at O U u ⊢
   obtain ⟨s',G4,J,L,h3,h4⟩:=b0d.app (P:=PR) (sz:=4) (e:=a0b) (by decide) (fun G' cs x _ hl h=>b0L.lx h hl) ho (e2:=a0b) (c:=1) (bytes:=64) ⟨s3,s4,rfl,O,U⟩ rfl (by simp [O.plain,U.plain]) (by simp;omega) (by omega) (by omega) M.1
   have a4:=O.cells;have a5:=U.cells
   simp [v,a4,a5,J]
   unfold f0N
   simp [I0E,y,b0z (show j < 4611686018427387904 by omega)]
   exact c0s.mk ⟨by simp [g0],by simp [g1],by simp [g2],by simp [g3],by simp [g4],by simp,h4 _ (k1x _) M,by rw [u];exact b0d.cast (v':=s') (by simp) L⟩
 ·subst Z
  simp [I0F,v]
  exact fun _=>ho
theorem b0d.first {α:Type} {P:a0f->List Value->α->Prop} {f0 e sz:Nat} {l:List α} (h:b0d P f0 H e sz v l) {k:IntKind} :
  ∃ v',e0g sz v none (some (.int k l.length)) none=some v'/\b0d P f0 H e sz v' l/\elemOk H e v=true:=by
 obtain ⟨u,c,_,x⟩:=h.sls.first (n:=l.length) (k:=k) (k1x _)
 refine ⟨u,c,?_,x⟩
 obtain ⟨cs,⟨s,⟨rfl,j⟩ | ⟨b,cap,rfl,hb,y⟩⟩,q⟩:=h
 ·have:u=.slice none 0 0:=by
   rw [j] at c
   exact (Option.some.inj (c.symm.trans rfl))
  subst this
  exact ⟨cs,⟨s,.inl ⟨rfl,j⟩⟩,q⟩
 ·unfold e0g at c
  simp [bnd] at c
  subst c
  exact ⟨cs,⟨s,.inr ⟨b,_,rfl,hb,y⟩⟩,q⟩
theorem t0o {f0:Nat} {l:List (List b0b)} (h:b0d PS f0 H a0N 1 v l) (y:fl<=H.size) (I:l.length<=40) :
  a0O env fl a1S [v] H (fun r H'=>(∃ s,r=.agg #[s]/\b0d PS f0 H' a0N 1 s l)/\Ext H H') R:=by
 refine a0i j1h y (h:=?_)
 intro ρ F
 have j:u0P false (.int .i64 (l.length:Int)) [.int .i64 40]=some (.int .i64 (l.length:Int)):=by
  have:mn2 false (l.length:Int) 40=l.length:=by
   simp only [mn2,k1W,l1y]
   split <;> omega
  show some (Value.int IntKind.i64 (mn2 false (l.length:Int) 40))=_
  rw [this]
 obtain ⟨J,q,z,u⟩:=(h.mo d0u ((Ext.refl H).push (r:=.row false a0M [.slice none 0 0]))).first (k:=.i64)
 have c:=z.sls
 simp [e1m,R0n,R0o,F,h.sls.slen,j,q,u,c.cells,c.plain,y]
 exact z.lxm (b0f rfl a0G (by decide)) (fun cs x ⟨w',q1,G⟩=>⟨w',q1,b0r.lx2 G (b0f rfl a0G (by decide)) (fun b ro cs h=>b0f (e:=a0l) rfl a0G (by decide) b ro cs h)⟩)
def g0m (n i:Nat) (p:Int):List b0b:=(List.range n).map fun (j:Nat)=>a0e ((if (j:Int) = -1 then 0 else if (j:Int)=(i:Int) then p else 0:Int):Rat)
def c0m (n:Nat):Nat->List (List b0b)
 | 0=>[]
 | i + 1=>c0m n i ++ [g0m n i 1,g0m n i (-1)]
theorem d0V {n:Nat}:∀ i,(c0m n i).length=2 * i
 | 0=>rfl
 | i + 1=>by rw [c0m,k1S,d0V i];simp;omega
theorem l0G {n:Int} {m:Nat} (hf:fl<=H.size) (hm:max 0 (min n 6)=(m:Int)) :
  a0O env fl Z0a [.int .i64 n] H (fun r H'=>(∃ s,r=.agg #[s]/\b0d PS H.size H' a0N 1 s (c0m m m))/\Ext H H') R:=by
 refine a0i i1P hf (h:=?_)
 intro ρ Z
 simp [d1U,P0s,P0t,Z]
 generalize hN:H.push _=G
 obtain ⟨k,b0⟩:=g0e hN
 clear hN
 refine (o0A k.1).mo ?_
 rintro _ I ⟨rfl,j⟩
 rw [hm]
 have a2:m<=6:=by omega
 replace b0:=j.bk b0
 replace k:=k.trans j
 simp [P0u,P0v]
 refine d0C (fun i ρ G=>ρ 0=.int .i64 (m:Int)/\ρ 2=.pointer (some ⟨H.size,0,none⟩)/\ρ 4=.int .i64 (i:Int)/\Ext H G/\a0f.bk G H.size=.row false a0M [.slice none 0 0]/\b0d PS H.size G a0N 1 (ρ 3) (c0m m i)) m (by decide) ⟨by simp,by simp,by simp,k,b0,by simpa [c0m] using b0d.nil⟩ ?_
 clear Z ρ k b0 j
 rintro i ρ G a0 ⟨y,U,F,k,b0,ho⟩
 obtain ⟨s,z⟩:∃ s,ρ 3=s:=⟨_,rfl⟩
 rw [z] at ho
 simp [P0w,y,F]
 refine e0T.mk (by simp) (fun hi=>?_) (fun L=>?_)
 ·simp [P0x,y,z,F]
  refine (l0l k.1 (by omega) (by decide) (by decide) (by decide) (by decide)).mo ?_
  rintro wa I ⟨v,j⟩
  replace b0:=j.bk b0
  replace ho:=ho.mo d0u j
  replace k:=k.trans j
  simp [y,F]
  refine (l0l k.1 (by omega) (by decide) (by decide) (by decide) (by decide)).mo ?_
  rintro wb G3 ⟨N,j⟩
  replace b0:=j.bk b0
  replace ho:=ho.mo d0u j
  replace v:=v.mo a0K j
  replace k:=k.trans j
  have a1:=d0V (n:=m) i
  obtain ⟨s',G4,h1,h2,h3,h4⟩:=b0d.app2 (P:=PS) (sz:=1) (e:=a0N) (by decide) (fun G' cs x M hl ⟨w',q1,O⟩=>⟨w',q1,b0r.lx2 O (ho.lxT (by decide) M) hl⟩) ho (e2:=a0N) (c:=2) (bytes:=24) (new1:=[wa]) (new2:=[wb]) (x1:=g0m m i 1) (x2:=g0m m i (-1)) ⟨wa,rfl,v.sls⟩ ⟨wb,rfl,N.sls⟩ rfl rfl (by simp [v.sls.plain]) (by simp [N.sls.plain]) (by omega) (by omega) (by omega) k.1
  have J:=(ho.lxT (e':=a0M) (by decide) h3) _ _ _ b0
  simp [z,v.sls.cells,N.sls.cells]
  simp at h1
  simp [h1]
  unfold f0N
  simp [P0y,F,b0z (show i < 4611686018427387904 by omega)]
  exact c0s.mk ⟨by simp [y],by simp [U],by simp,h4 _ (k1x _) k,J,b0d.cast (v':=s') (by simp) h2⟩
 ·subst L
  simp [P0z,z]
  refine (t0o ho k.1 (by rw [d0V];omega)).mo ?_
  rintro _ I ⟨⟨s2,rfl,ks⟩,j⟩
  replace b0:=j.bk b0
  replace k:=k.trans j
  have hsz:=k.1
  have u:=ks.sls
  simp [U,b0,u.cells,u.plain,hsz]
  generalize q:Array.setIfInBounds I _ _=G3
  rw [a0r q b0]
  simp
  exact fun _=>ks.lxm (b0f q b0 (by decide)) (fun cs x ⟨w',q1,O⟩=>⟨w',q1,b0r.lx2 O (b0f q b0 (by decide)) (fun b ro cs h=>b0f (e:=a0l) q b0 (by decide) b ro cs h)⟩)
theorem k0O {n:Int} {m:Nat} (j:fl<=H.size) (k:max 0 (min n 6)=(m:Int)) :
  a0O env fl Z0a [.int .i64 n] H (fun r H'=>d0f H' r (c0m m m)/\Ext H H') R :=
 (l0G j k).mo fun r H' ⟨⟨s,c,e⟩,h⟩=>⟨⟨s,c,e.sls⟩,h⟩
end
section
theorem V0Y {i:Nat} {s:Rat} {f:Nat->Rat}:∀ {n:Nat},rs (fun k=>(if k=i then s else 0) * f k) n=if i < n then s * f i else 0
 | 0=>by simp [rs]
 | n + 1=>by
  rw [rs,V0Y]
  by_cases c:i < n
  ·rw [k1B c,k1y (by omega),k1B (by omega),m1F,m1q]
  ·by_cases e:n=i
   ·subst e;rw [k1y c,k1B rfl,k1B (by omega),Rat.zero_add]
   ·rw [k1y c,k1y e,k1y (by omega),m1F,m1q]
theorem y0J {f g:Nat->Rat}:∀ {n:Nat},rs (fun i=>f i + g i) n=rs f n + rs g n
 | 0=>by rw [rs,rs,rs];grind
 | n + 1=>by rw [rs,rs,rs,y0J];grind
theorem w0w:∀ {n:Nat},rs (fun _=>0) n=0
 | 0=>rfl
 | n + 1=>by rw [rs,w0w];grind
theorem r0L {f:Nat->Nat->Rat} {M:Nat}:∀ {N:Nat},rs (fun i=>rs (fun j=>f i j) M) N=rs (fun j=>rs (fun i=>f i j) N) M
 | 0=>by simp only [rs];rw [w0w]
 | N + 1=>by simp only [rs];rw [r0L,<- y0J]
theorem Y0s {f g:Nat->Rat}:∀ {n:Nat},(∀ i,i < n->f i<=g i)->rs f n<=rs g n
 | 0,_=>Rat.le_refl
 | n + 1,h=>by
  have c:=Y0s (n:=n) (fun i hi=>h i (by omega))
  have e:=h n (by omega)
  rw [rs,rs];grind
theorem r0M {f:Nat->Rat} {c:Rat} {n:Nat}:rs (fun i=>c * f i) n=c * rs f n:=by
 rw [Rat.mul_comm,<- i0R];exact b0C fun i _=>Rat.mul_comm _ _
theorem A0E.none {p:LPt} {n m:Nat} {a:o0L} (h:A0E p n m a) (x:Nat->Rat):¬ ∀ r,r < m->rs (fun k=>pA p r k * x k) n<=pB p r:=by
 intro u
 have e:rs (fun i=>a.Y.getD i 0 * rs (fun k=>pA p i k * x k) n) m<=rs (fun i=>a.Y.getD i 0 * pB p i) m :=
  Y0s fun i hi=>Rat.mul_le_mul_of_nonneg_left (u i hi) (h.Y0 i hi)
 have j:rs (fun i=>a.Y.getD i 0 * rs (fun k=>pA p i k * x k) n) m=rs (fun k=>rs (fun i=>a.Y.getD i 0 * pA p i k) m * x k) n:=by
  have c:∀ i,i < m->a.Y.getD i 0 * rs (fun k=>pA p i k * x k) n=rs (fun k=>a.Y.getD i 0 * pA p i k * x k) n:=fun i _=>by
   rw [<- r0M];exact b0C fun k _=>by grind
  rw [b0C c,r0L]
  exact b0C fun k _=>i0R
 have q:rs (fun k=>rs (fun i=>a.Y.getD i 0 * pA p i k) m * x k) n=0:=by
  rw [b0C (g:=fun _=>0) (fun k s=>by rw [h.YA k s,m1F]),w0w]
 rw [j,q] at e
 have:=h.YB
 grind
def bxD (lo hi:Nat->Int):Nat->List c0f
 | 0=>[]
 | i + 1=>bxD lo hi i ++ [(0,a0e (hi i:Int)),(0,a0e ((-lo i:Int):Rat))]
theorem A0Z {lo hi:Nat->Int}:∀ i,(bxD lo hi i).length=2 * i
 | 0=>rfl
 | i + 1=>by rw [bxD,k1S,A0Z i];simp;omega
theorem B0a {lo hi:Nat->Int} {e:c0f}:∀ {i},e ∈ bxD lo hi i->∃ k,k < i/\(e=(0,a0e (hi k:Int)) ∨ e=(0,a0e ((-lo k:Int):Rat)))
 | 0,h=>by simp [bxD] at h
 | i + 1,h=>by
  rw [bxD,k1T] at h
  rcases h with h | h
  ·obtain ⟨k,j,c⟩:=B0a h;exact ⟨k,by omega,c⟩
  ·exact ⟨i,by omega,by simpa using h⟩
theorem i0b {n:Nat} {r:List b0b}:∀ {m},r ∈ c0m n m->∃ i,i < m/\(r=g0m n i 1 ∨ r=g0m n i (-1))
 | 0,h=>by simp [c0m] at h
 | m + 1,h=>by
  rw [c0m,k1T] at h
  rcases h with h | h
  ·obtain ⟨k,e,c⟩:=i0b h;exact ⟨k,by omega,c⟩
  ·exact ⟨m,by omega,by simpa using h⟩
theorem Y0H {α:Type} {l:List α} {a b d:α} {m k:Nat} (e:l.length=2 * m) (c:k < 2):(l ++ [a,b]).getD (2 * m + k) d=if k=0 then a else b:=by
 rw [k1v,l1n (by omega),e,show 2 * m + k - 2 * m=k by omega]
 match k,c with
 | 0,_=>rfl
 | 1,_=>rfl
theorem X0z {α:Type} {l:List α} {a b d:α} {k:Nat} (c:k < l.length):(l ++ [a,b]).getD k d=l.getD k d:=by
 rw [k1v,l1i c,k1v]
theorem o0W {n i k:Nat} (c:k < 2):∀ {m:Nat},i < m->(c0m n m).getD (2 * i + k) []=g0m n i (if k=0 then 1 else -1)
 | 0,h=>by omega
 | m + 1,h=>by
  rw [c0m]
  have e:=d0V (n:=n) m
  by_cases hi:i < m
  ·rw [X0z (by omega),o0W c hi]
  ·have:i=m:=by omega
   subst this
   rw [Y0H e c];split <;> rfl
theorem s0O {n i:Nat} {p:Int}:(g0m n i p).length=n:=by unfold g0m;simp
theorem B0X {n i k:Nat} {p:Int} (c:k < n):(g0m n i p).getD k c0z=a0e (((if k=i then p else 0:Int)):Rat):=by
 unfold g0m
 rw [k1v]
 simp [c]
 congr 2
 by_cases h:k=i
 ·rw [k1B (by omega),k1B h]
 ·rw [k1y (by omega),k1y h]
theorem K0i {n i:Nat} {p:Int} {f:Nat->Rat} (hi:i < n):rs (fun k=>b0t ((g0m n i p).getD k c0z) * f k) n=(p:Rat) * f i:=by
 have c:=V0Y (i:=i) (s:=(p:Rat)) (f:=f) (n:=n)
 rw [k1B hi] at c
 rw [<- c]
 refine b0C fun k e=>?_
 rw [B0X e,a0w]
 congr 1
 split <;> rfl
theorem u0L {n i:Nat} {p:Int}:∀ x ∈ g0m n i p,∃ y:Rat,x=a0e y:=by
 intro x c
 unfold g0m at c
 obtain ⟨k,_,rfl⟩:=l1r.1 c
 exact ⟨_,rfl⟩
section
variable {n:Nat} {lo hi:Nat->Int}
theorem B0b (F:n<=6):f0p (c0m n n) n (bxD lo hi n)=true:=by
 have hA:k0o (r0K n) (c0m n n)=true:=l1a.2 fun r z=>by
  obtain ⟨i,_,h⟩:=i0b z
  unfold r0K
  have u:r.length=n:=by rcases h with h | h <;> rw [h,s0O]
  have v:k0o o0b r=true:=l1a.2 fun x j=>by
   obtain ⟨y,rfl⟩:∃ y:Rat,x=a0e y:=by rcases h with h | h <;> (rw [h] at j;exact u0L x j)
   exact f0d y
  rw [v,u];simp
 have s:d0O (fun e=>!i0K e) (bxD lo hi n)=false:=by
  cases ha:d0O (fun e=>!i0K e) (bxD lo hi n) with
  | false=>rfl
  | true =>
   obtain ⟨e,q,c⟩:=List.any_eq_true.1 ha
   obtain ⟨k,_,h | h⟩:=B0a q <;> (rw [h] at c;simp [i0K,f0d] at c)
 unfold f0p l0w
 rw [hA,s,d0V,A0Z]
 simp
 omega
end
end
section
open SX
def Z0I (p:LPt) (n m:Nat) (z:Nat->Rat):Prop:=∀ r,r < m->rs (fun k=>pA p r k * z k) n<=pB p r
def q0m (p:LPt) (n:Nat) (z:Nat->Rat):Rat:=rs (fun k=>pC p k * z k) n
def W0i (p:LPt) (n m:Nat) (a:o0L):Prop :=
 (a.kind=2/\∀ z,¬ Z0I p n m z) ∨ (a.kind=1/\(∃ z,Z0I p n m z/\q0m p n z=a.V)/\∀ z,Z0I p n m z->q0m p n z<=a.V) ∨ (a.kind=3/\∀ B,∃ z,Z0I p n m z/\B < q0m p n z)
theorem V0X {f g:Nat->Rat} {w:Nat->Rat} {t:Rat} {n:Nat}:rs (fun k=>w k * (f k + t * g k)) n=rs (fun k=>w k * f k) n + t * rs (fun k=>w k * g k) n:=by
 rw [<- r0M,<- y0J]
 exact b0C fun k _=>by grind
section
variable {p:LPt} {n m:Nat} {a:o0L}
theorem K0K.opt (h:K0K p n m a):W0i p n m a:=by
 refine .inr (.inl ⟨h.kind,⟨fun k=>a.X.getD k 0,h.AX,h.V.symm⟩,fun z s=>?_⟩)
 have j:q0m p n z=rs (fun k=>rs (fun i=>a.Y.getD i 0 * pA p i k * z k) m) n:=b0C fun k q=>by
  rw [<- h.YA k q,<- i0R]
 rw [j,r0L]
 have c:rs (fun i=>rs (fun k=>a.Y.getD i 0 * pA p i k * z k) n) m<=rs (fun i=>a.Y.getD i 0 * pB p i) m:=Y0s fun i hi=>by
  have e:rs (fun k=>a.Y.getD i 0 * pA p i k * z k) n=a.Y.getD i 0 * rs (fun k=>pA p i k * z k) n:=by
   rw [<- r0M];exact b0C fun k _=>by grind
  rw [e]
  exact Rat.mul_le_mul_of_nonneg_left (s i hi) (h.Y0 i hi)
 rw [h.YB] at c
 exact c
theorem A0E.opt (h:A0E p n m a):W0i p n m a:=.inl ⟨h.kind,fun z c=>h.none z c⟩
theorem A0F.opt (h:A0F p n m a):W0i p n m a:=by
 refine .inr (.inr ⟨h.kind,fun B=>?_⟩)
 have hc:=h.CR
 obtain ⟨c,e⟩:∃ c,c=rs (fun k=>pC p k * a.Ray.getD k 0) n:=⟨_,rfl⟩
 obtain ⟨x,s⟩:∃ x,x=rs (fun k=>pC p k * a.X.getD k 0) n:=⟨_,rfl⟩
 rw [<- e] at hc
 -- how far
 obtain ⟨t,y,q⟩:∃ t:Rat,0<=t/\B < x + t * c:=by
  have j:c * c⁻¹=1:=Rat.mul_inv_cancel _ (by grind)
  have u:=inv_pos hc
  by_cases hB:B < x
  ·exact ⟨0,Rat.le_refl,by rw [m1F,m1q];exact hB⟩
  ·refine ⟨(B - x + 1) * c⁻¹,n1o (by grind) (n1I u),?_⟩
   rw [Rat.mul_assoc,Rat.mul_comm c⁻¹ c,j,Rat.mul_one];grind
 refine ⟨fun k=>a.X.getD k 0 + t * a.Ray.getD k 0,fun r v=>?_,?_⟩
 ·rw [V0X]
  have u:=h.AX r v
  have z:=n1o y (b:=-rs (fun k=>pA p r k * a.Ray.getD k 0) n) (by have:=h.AR r v;grind)
  grind
 ·unfold q0m
  rw [V0X,<- e,<- s];exact q
end
structure e0K where
 X:List (Bool × List Nat)
 W:List (Bool × List Nat)
 K:Bool × List Nat
structure c0b where
 m:Int
 guards:List e0K
 set:List e0K
def iz:Bool × List Nat:=(false,[])
def aff0:e0K:=⟨[],[],iz⟩
def e0K.all (a:e0K):List (Bool × List Nat):=a.X ++ a.W
def vQ (x:Bool × List Nat):Rat:=((a0s x:Int):Rat)
def b0y (x:Bool × List Nat):b0b:=a0e (vQ x)
def x0w (N:Nat) (r:List b0b):List b0b:=r ++ List.replicate (N - r.length) (a0e 0)
def gC (y:List b0b) (set:List e0K) (j:Nat):Rat:=rs (fun i=>b0t (y.getD i c0z) * vQ ((set.getD i aff0).all.getD j iz)) set.length
def gK (y:List b0b) (set:List e0K):Rat:=rs (fun i=>b0t (y.getD i c0z) * vQ (set.getD i aff0).K) set.length
def c0M (rows:List (List b0b)) (e:c0b) (d:List c0f) (row N:Nat):LPt :=
 ⟨N,(d0z rows d).map (x0w N) ++ e.guards.map fun g=>g.all.map b0y,d0A rows d ++ e.guards.map fun g=>a0e (-vQ g.K),(List.range N).map fun j=>a0e (gC (rows.getD row []) e.set j)⟩
def K0H (a:e0K) (N:Nat) (z:Nat->Rat):Rat:=rs (fun j=>vQ (a.all.getD j iz) * z j) N + vQ a.K
def c1K (r:List b0b) (n:Nat) (z:Nat->Rat):Rat:=rs (fun c=>b0t (r.getD c c0z) * z c) n
def A0w (rows:List (List b0b)) (e:c0b) (d:List c0f) (N:Nat) (z:Nat->Rat):Prop :=
 (∀ x ∈ rows.zip d,x.2.1=0->c1K x.1 e.set.length z<=b0t x.2.2)/\∀ g ∈ e.guards,K0H g N z<=0
def m0D (y:List b0b) (e:c0b) (N:Nat) (z:Nat->Rat):Rat:=rs (fun i=>b0t (y.getD i c0z) * K0H (e.set.getD i aff0) N z) e.set.length
theorem K0E {α k:Type} {P:α->k->Prop} {a0:α} {b0:k}:∀ {A:List α} {B:List k},A.length=B.length->((∀ r,r < A.length->P (A.getD r a0) (B.getD r b0)) <-> ∀ x ∈ A.zip B,P x.1 x.2)
 | [],[],_=>by simp
 | [],_ :: _,h=>by simp at h
 | _ :: _,[],h=>by simp at h
 | a :: A,b :: B,h=>by
  have q:=K0E (P:=P) (a0:=a0) (b0:=b0) (A:=A) (B:=B) (by simpa using h)
  constructor
  ·intro c x e
   rcases m1b.1 (by simpa using e:x ∈ (a,b) :: A.zip B) with rfl | e
   ·exact c 0 (by simp)
   ·exact q.1 (fun r j=>by have:=c (r + 1) (by simpa using j);simpa using this) x e
  ·intro c r j
   cases r with
   | zero=>exact c (a,b) (by simp)
   | succ r=>simpa using q.2 (fun x e=>c x (by simp;exact .inr e)) r (by simpa using j)
theorem x0y {Q:List b0b->b0b->Prop}:∀ {rows:List (List b0b)} {d:List c0f},(∀ x ∈ (d0z rows d).zip (d0A rows d),Q x.1 x.2) <-> ∀ x ∈ rows.zip d,x.2.1=0->Q (i0n x.1) (a0e (b0t x.2.2))
 | [],d=>by simp [d0z,d0A]
 | _ :: _,[]=>by simp [d0z,d0A]
 | r :: rs,e :: es=>by
  have c:=x0y (Q:=Q) (rows:=rs) (d:=es)
  simp only [d0z,d0A]
  by_cases h:e.1=0
  ·rw [k1B h,k1B h]
   simp only [List.zip_cons_cons,m1b,forall_eq_or_imp]
   rw [c];simp [h]
  ·rw [k1y h,k1y h,c]
   simp only [List.zip_cons_cons,m1b,forall_eq_or_imp]
   simp [h]
theorem V0W {f:Nat->Rat} {n:Nat}:∀ {N:Nat},n<=N->(∀ k,n<=k->k < N->f k=0)->rs f N=rs f n
 | 0,h,_=>by rw [show n=0 by omega]
 | N + 1,h,h0=>by
  by_cases e:n=N + 1
  ·rw [e]
  ·rw [rs,V0W (N:=N) (by omega) (fun k c j=>h0 k c (by omega)),h0 N (by omega) (by omega),m1q]
theorem L0R {r:List b0b} {k:Nat} (h:k < r.length):b0t ((i0n r).getD k c0z)=b0t (r.getD k c0z):=by
 unfold i0n
 rw [b0o (by simpa using h),l1m,a0w,b0o h]
theorem C0J {r:List b0b} {n N:Nat} {z:Nat->Rat} (e:r.length=n) (c:n<=N):rs (fun k=>b0t ((x0w N (i0n r)).getD k c0z) * z k) N=c1K r n z:=by
 have s:(i0n r).length=n:=by unfold i0n;simp [e]
 rw [V0W c]
 ·refine b0C fun k q=>?_
  unfold x0w
  rw [k1v,l1i (by omega),<- k1v,L0R (by omega)]
 ·intro k h j
  unfold x0w
  rw [k1v,l1n (by omega),m1h,k1B (by omega)]
  rw [l1d,a0w,m1F]
theorem W0w {l:List (Bool × List Nat)} {N:Nat} {z:Nat->Rat} (h:l.length=N):rs (fun k=>b0t ((l.map b0y).getD k c0z) * z k) N=rs (fun k=>vQ (l.getD k iz) * z k) N :=
 b0C fun k c=>by rw [b0o (by simpa using by omega),l1m,b0o (by omega)];unfold b0y;rw [a0w]
section
variable {rows:List (List b0b)} {e:c0b} {d:List c0f} {row N:Nat} {z:Nat->Rat}
theorem L0x (v:∀ r ∈ rows,r.length=e.set.length) (u:e.set.length<=N) (I:∀ g ∈ e.guards,g.all.length=N) :
  Z0I (c0M rows e d row N) N (c0M rows e d row N).A.length z <-> A0w rows e d N z:=by
 have J:(c0M rows e d row N).A.length=(c0M rows e d row N).B.length:=by simp [c0M,i0e]
 have F:=K0E (P:=fun a b=>rs (fun k=>b0t (a.getD k c0z) * z k) N<=b0t b) (a0:=[]) (b0:=c0z) J
 refine Iff.trans F ?_
 unfold c0M A0w
 simp only
 rw [List.zip_append (by simp [i0e])]
 simp only [k1T,or_imp,forall_and]
 refine and_congr ?_ ?_
 ·rw [List.zip_map_left]
  have G:=x0y (Q:=fun a b=>rs (fun k=>b0t ((x0w N a).getD k c0z) * z k) N<=b0t b) (rows:=rows) (d:=d)
  refine Iff.trans ?_ (Iff.trans G ?_)
  ·constructor
   ·intro h x j;exact h (x0w N x.1,x.2) (l1r.2 ⟨x,j,rfl⟩)
   ·intro h x j;obtain ⟨y,L,rfl⟩:=l1r.1 j;exact h y L
  ·constructor
   ·intro h x j q
    have:=h x j q
    rw [C0J (v _ (List.of_mem_zip j).1) u,a0w] at this;exact this
   ·intro h x j q
    rw [C0J (v _ (List.of_mem_zip j).1) u,a0w];exact h x j q
 ·rw [List.zip_map']
  have s:∀ g ∈ e.guards,(rs (fun k=>b0t ((g.all.map b0y).getD k c0z) * z k) N<=b0t (a0e (-vQ g.K)) <-> K0H g N z<=0):=fun g c=>by
   rw [W0w (I g c),a0w];unfold K0H;constructor <;> intro h <;> grind
  constructor
  ·intro h g c;have H:=h (g.all.map b0y,a0e (-vQ g.K)) (l1r.2 ⟨g,c,rfl⟩);exact (s g c).1 H
  ·intro h x j;obtain ⟨g,c,rfl⟩:=l1r.1 j;exact (s g c).2 (h g c)
theorem X0n:q0m (c0M rows e d row N) N z + gK (rows.getD row []) e.set=m0D (rows.getD row []) e N z:=by
 have h:q0m (c0M rows e d row N) N z=rs (fun i=>b0t ((rows.getD row []).getD i c0z) * rs (fun j=>vQ ((e.set.getD i aff0).all.getD j iz) * z j) N) e.set.length:=by
  have c:q0m (c0M rows e d row N) N z=rs (fun j=>rs (fun i=>b0t ((rows.getD row []).getD i c0z) * vQ ((e.set.getD i aff0).all.getD j iz) * z j) e.set.length) N:=by
   unfold q0m
   refine b0C fun j k=>?_
   unfold pC c0M
   rw [b0o (by simpa using k),l1m,m1i,a0w]
   unfold gC;rw [<- i0R]
  rw [c,r0L]
  refine b0C fun i _=>?_
  rw [<- r0M];exact b0C fun j _=>by grind
 rw [h]
 unfold gK m0D
 rw [<- y0J]
 exact b0C fun i _=>by unfold K0H;grind
end
def o0N (rows:List (List b0b)) (e:c0b) (d:List c0f) (row N:Nat) (x:c0f):Prop :=
 (x=(-1,c0z)/\(d0O (fun e=>decide (e.1 < 0)) d=true ∨ ∀ z,¬ A0w rows e d N z)) ∨
 (d0O (fun e=>decide (e.1 < 0)) d=false/\((∃ v,x=(0,a0e v)/\(∃ z,A0w rows e d N z/\m0D (rows.getD row []) e N z=v)/\∀ z,A0w rows e d N z->m0D (rows.getD row []) e N z<=v) ∨
 (x=(1,c0z)/\∀ B,∃ z,A0w rows e d N z/\B < m0D (rows.getD row []) e N z)))
section
variable {rows:List (List b0b)} {e:c0b} {d d':List c0f} {row N:Nat} {x y:c0f} {z:Nat->Rat}
theorem y0T:g0f (-1,c0z)=(-1,0):=by unfold g0f i0K;simp [i0i]
theorem k0m:g0f (1,c0z)=(1,0):=by unfold g0f i0K;simp [i0i]
theorem g0K {v:Rat}:g0f (0,a0e v)=(0,v):=by unfold g0f i0K;simp [f0d,a0w]
theorem o0N.grows (h:o0N rows e d row N x) (q:o0N rows e d' row N y) (hs:∀ z,A0w rows e d N z->A0w rows e d' N z) (J:d0O (fun e=>decide (e.1 < 0)) d=false->d0O (fun e=>decide (e.1 < 0)) d' = false) :
  ¬ 0 < u0r (g0f x) (g0f y):=by
 have u:∀ {a b:Rat},¬ b < a->¬ 0 < u0r (0,a) (0,b):=fun I s=>by
  unfold u0r at s;simp at s;exact I (u0s.1 s)
 rcases h with ⟨rfl,_⟩ | ⟨H,h⟩
 ·rw [y0T]
  rcases q with ⟨rfl,_⟩ | ⟨_,⟨v,rfl,_⟩ | ⟨rfl,_⟩⟩
  ·rw [y0T];decide
  ·rw [g0K];unfold u0r;simp
  ·rw [k0m];decide
 ·have k:=J H
  rcases h with ⟨v,rfl,⟨z,j,rfl⟩,L⟩ | ⟨rfl,G⟩
  ·rw [g0K]
   rcases q with ⟨rfl,c | c⟩ | ⟨_,⟨w,rfl,_,F⟩ | ⟨rfl,_⟩⟩
   ·rw [k] at c;exact k1Q c (by decide)
   ·exact k1Q (hs z j) (c z)
   ·rw [g0K];exact u (by have:=F z (hs z j);grind)
   ·rw [k0m];unfold u0r;simp
  ·rw [k0m]
   rcases q with ⟨rfl,c | c⟩ | ⟨_,⟨w,rfl,_,F⟩ | ⟨rfl,_⟩⟩
   ·rw [k] at c;exact k1Q c (by decide)
   ·obtain ⟨z,j,_⟩:=G 0;exact k1Q (hs z j) (c z)
   ·obtain ⟨z,j,hB⟩:=G w
    have:=F z (hs z j);grind
   ·rw [k0m];decide
theorem o0N.keeps (h:o0N rows e d row N x) (q:d0O (fun e=>decide (e.1 < 0)) d=false) (k:A0w rows e d N z):¬ 0 < u0r (0,m0D (rows.getD row []) e N z) (g0f x):=by
 rcases h with ⟨rfl,c | c⟩ | ⟨_,⟨w,rfl,_,s⟩ | ⟨rfl,_⟩⟩
 ·rw [q] at c;exact k1Q c (by decide)
 ·exact k1Q k (c z)
 ·rw [g0K];intro j
  unfold u0r at j;simp at j
  have:=u0s.1 j;have:=s z k;grind
 ·rw [k0m];unfold u0r;simp
theorem o0N.unique (h:o0N rows e d row N x) (c:o0N rows e d row N y):x=y:=by
 rcases h with ⟨rfl,h⟩ | ⟨H,h⟩ <;> rcases c with ⟨rfl,c⟩ | ⟨q,c⟩
 ·rfl
 ·rcases h with h | h
  ·rw [h] at q;exact k1Q q (by decide)
  ·rcases c with ⟨v,_,⟨z,j,_⟩,_⟩ | ⟨_,u⟩
   ·exact k1Q j (h z)
   ·obtain ⟨z,j,_⟩:=u 0;exact k1Q j (h z)
 ·rcases c with c | c
  ·rw [c] at H;exact k1Q H (by decide)
  ·rcases h with ⟨v,_,⟨z,j,_⟩,_⟩ | ⟨_,u⟩
   ·exact k1Q j (c z)
   ·obtain ⟨z,j,_⟩:=u 0;exact k1Q j (c z)
 ·rcases h with ⟨v,rfl,⟨z,j,rfl⟩,I⟩ | ⟨rfl,u⟩ <;> rcases c with ⟨w,rfl,⟨F,k,rfl⟩,s⟩ | ⟨rfl,G⟩
  ·have J:=I F k;have L:=s z j
   rw [Rat.le_antisymm J L]
  ·obtain ⟨F,k,hB⟩:=G (m0D (rows.getD row []) e N z);have:=I F k;grind
  ·obtain ⟨z,j,hB⟩:=u (m0D (rows.getD row []) e N F);have:=s z j;grind
  ·rfl
end
theorem W0i.sup {rows:List (List b0b)} {e:c0b} {d:List c0f} {row N:Nat} {a:o0L} (H:∀ r ∈ rows,r.length=e.set.length) (F:e.set.length<=N) (G:∀ g ∈ e.guards,g.all.length=N) (x:d0O (fun e=>decide (e.1 < 0)) d=false)
  (h:W0i (c0M rows e d row N) N (c0M rows e d row N).A.length a) :
  (a.kind=2/\o0N rows e d row N (-1,c0z)) ∨ (a.kind=3/\o0N rows e d row N (1,c0z)) ∨ (a.kind=1/\o0N rows e d row N (0,a0e (a.V + gK (rows.getD row []) e.set))):=by
 have k:=fun z=>L0x (d:=d) (row:=row) (z:=z) H F G
 have s:=fun z=>X0n (rows:=rows) (e:=e) (d:=d) (row:=row) (N:=N) (z:=z)
 rcases h with ⟨c,q⟩ | ⟨c,⟨z,j,hv⟩,y⟩ | ⟨c,q⟩
 ·exact .inl ⟨c,.inl ⟨rfl,.inr fun z j=>q z ((k z).2 j)⟩⟩
 ·refine .inr (.inr ⟨c,.inr ⟨x,.inl ⟨_,rfl,⟨z,(k z).1 j,?_⟩,fun v u=>?_⟩⟩⟩)
  ·rw [<- s,hv]
  ·have:=y v ((k v).2 u);have:=s v;grind
 ·refine .inr (.inl ⟨c,.inr ⟨x,.inr ⟨rfl,fun B=>?_⟩⟩⟩)
  obtain ⟨z,j,hB⟩:=q (B - gK (rows.getD row []) e.set)
  exact ⟨z,(k z).1 j,by have:=s z;grind⟩
theorem r0T {f:Nat->Rat} {K:Nat} (h:∀ i,szR (f i)<=K):∀ n,szR (rs f n)<=n * (K + 1) + 1
 | 0=>by rw [rs,f0H];omega
 | n + 1=>by
  have c:=r0T h n
  have e:=r0Q (rs f n) (f n)
  have j:=h n
  rw [rs,k1R];omega
def r0W (l:List (Bool × List Nat)):Prop:=∀ x ∈ l,x.2.length<=40/\b0u x.2
def u0g (a:e0K):Prop:=r0W a.X/\r0W a.W/\a.K.2.length<=40/\b0u a.K.2
structure k0p (e:c0b):Prop where
 set:∀ a ∈ e.set,u0g a
 guards:∀ a ∈ e.guards,u0g a
 ns:e.set.length<=3
 ng:e.guards.length<=6
 m:e.m<=3
def k0y (l:List e0K) (n m:Int):Bool:=!d0O (fun a=>!decide ((a.X.length:Int)=n) || !decide ((a.W.length:Int)=m)) l
def c0y (rows:List (List b0b)) (e:c0b) (d:List c0f) (row:Int):Bool :=
 f0p rows e.set.length d && decide (0<=row) && decide (row < rows.length) && decide (0<=e.m) && k0y e.set e.set.length e.m && k0y e.guards e.set.length e.m
theorem x0g {l:List e0K} {n m:Int}:k0y l n m=true <-> ∀ a ∈ l,(a.X.length:Int)=n/\(a.W.length:Int)=m:=by
 unfold k0y d0O;simp [List.any_eq_false]
theorem r0W.sz {x:Bool × List Nat} {k:Nat} (h:x.2.length<=k) (c:b0u x.2):szR (vQ x)<=max k 1:=by
 unfold vQ;rw [n0R];have:=m0J c;omega
theorem u0g.all {a:e0K} (h:u0g a) (j:Nat):szR (vQ (a.all.getD j iz))<=40:=by
 rw [k1v]
 by_cases e:j < a.all.length
 ·rw [k1A e]
  have c:a.all[j] ∈ a.X ++ a.W:=k1D e
  rcases k1T.1 c with c | c
  ·exact r0W.sz (k:=40) (h.1 _ c).1 (h.1 _ c).2
  ·exact r0W.sz (k:=40) (h.2.1 _ c).1 (h.2.1 _ c).2
 ·rw [k1G (by omega)];show szR ((0:Int):Rat)<=40;rw [n0R,c0v];decide
theorem u0g.aff0:u0g aff0:=⟨fun x c=>by simp [AI.aff0] at c,fun x c=>by simp [AI.aff0] at c,by decide,fun x c=>by simp [AI.aff0,iz] at c⟩
theorem k0p.at {e:c0b} (h:k0p e) (i:Nat):u0g (e.set.getD i aff0):=by
 rw [k1v]
 by_cases hi:i < e.set.length
 ·rw [k1A hi];exact h.set _ (k1D _)
 ·rw [k1G (by omega)];exact u0g.aff0
theorem k0p.gC {e:c0b} {y:List b0b} (h:k0p e) (k:Few 6 y) (j n:Nat) (u:n<=3):szR (rs (fun i=>b0t (y.getD i c0z) * vQ ((e.set.getD i aff0).all.getD j iz)) n)<=150:=by
 have c:=r0T (f:=fun i=>b0t (y.getD i c0z) * vQ ((e.set.getD i aff0).all.getD j iz)) (K:=47) (fun i=>by
  have c:=f0L (b0t (y.getD i c0z)) (vQ ((e.set.getD i aff0).all.getD j iz))
  have q:=k.sz i
  have s:=(h.at i).all j
  omega) n
 omega
theorem k0p.gK {e:c0b} {y:List b0b} (h:k0p e) (j:Few 6 y) (n:Nat) (u:n<=3):szR (rs (fun i=>b0t (y.getD i c0z) * vQ (e.set.getD i aff0).K) n)<=150:=by
 have c:=r0T (f:=fun i=>b0t (y.getD i c0z) * vQ (e.set.getD i aff0).K) (K:=47) (fun i=>by
  have c:=f0L (b0t (y.getD i c0z)) (vQ (e.set.getD i aff0).K)
  have q:=j.sz i
  have s:=r0W.sz (k:=40) (h.at i).2.2.1 (h.at i).2.2.2
  omega) n
 omega
theorem f0c {S:Nat} {x:Rat} (h:szR x<=S):d0J (a0e x)<=S/\b0u (a0e x).1.2/\b0u (a0e x).2.2:=⟨by rw [a0E];exact h,c0t _,c0t _⟩
theorem B0l {rows:List (List b0b)} {e:c0b} {d:List c0f} {row:Nat} {m:Nat} (U:c0y rows e d row=true) (z:k0p e) (hm:e.m=(m:Int)) (c0:rows.length<=8) (hr:∀ r ∈ rows,Few 6 r) (hd:∀ x ∈ d,d0J x.2<=6/\b0u x.2.1.2/\b0u x.2.2.2) :
  r0X (c0M rows e d row (e.set.length + m)) (e.set.length + m) (c0M rows e d row (e.set.length + m)).A.length 200/\n0K (c0M rows e d row (e.set.length + m))=true/\e.set.length + m<=6/\(c0M rows e d row (e.set.length + m)).A.length<=14/\(∀ r ∈ rows,r.length=e.set.length)/\(∀ g ∈ e.guards,g.all.length=e.set.length + m)/\∀ x ∈ d,i0K x=true:=by
 unfold c0y f0p l0w at U
 simp only [k1L,l1k] at U
 obtain ⟨⟨⟨⟨⟨⟨⟨⟨⟨⟨a9,b1⟩,hl⟩,O⟩,a4⟩,L⟩,b8⟩,b9⟩,a7⟩,a5⟩,a1⟩:=U
 have b5:=z.ns;have b4:=z.ng;have a8:=z.m
 have u:∀ r ∈ rows,r.length=e.set.length:=fun r s=>by
  have:=l1a.1 O r s
  unfold r0K at this;simp at this;omega
 have hg:∀ g ∈ e.guards,g.all.length=e.set.length + m:=fun g a2=>by
  have:=x0g.1 a1 g a2
  unfold e0K.all;rw [k1S];omega
 have G:∀ x ∈ d,i0K x=true:=fun x h=>by
  have c:d0O (fun e=>!i0K e) d=false:=by simpa using L
  have:=List.any_eq_false.1 c x h
  simpa using this
 have H:(c0M rows e d row (e.set.length + m)).A.length<=14:=by
  have:=j0W rows d
  simp [c0M];omega
 have I:(c0M rows e d row (e.set.length + m)).B.length=(c0M rows e d row (e.set.length + m)).A.length:=by simp [c0M,i0e]
 have J:(c0M rows e d row (e.set.length + m)).C.length=e.set.length + m:=by simp [c0M]
 have F:∀ r ∈ (c0M rows e d row (e.set.length + m)).A,Few 200 r/\r.length=e.set.length + m:=fun r s=>by
  rcases k1T.1 s with c | c
  ·obtain ⟨q,v,rfl⟩:=l1r.1 c
   obtain ⟨q',R,rfl⟩:=m0V v
   have a6:(i0n q').length=e.set.length:=by unfold i0n;rw [l1w];exact u _ R
   refine ⟨fun x h=>?_,by unfold x0w;rw [k1S,n1b];omega⟩
   rcases k1T.1 h with h | h
   ·have:=L0y (hr q' R) (by decide) x h
    exact ⟨by omega,this.2⟩
   ·rw [(m1W.1 h).2]
    exact f0c (by rw [f0H];decide)
  ·obtain ⟨g,v,rfl⟩:=l1r.1 c
   refine ⟨fun x h=>?_,by rw [l1w];exact hg g v⟩
   obtain ⟨y,hy,rfl⟩:=l1r.1 h
   obtain ⟨j,hj,rfl⟩:=l1I.1 hy
   have:=(z.guards g v).all j
   rw [b0o hj] at this
   exact f0c (by omega)
 have Z:Few 200 (c0M rows e d row (e.set.length + m)).B:=fun x h=>by
  rcases k1T.1 h with c | c
  ·obtain ⟨x',v,rfl⟩:=m0X c
   obtain ⟨R,h4,h5⟩:=hd x' v
   have:=b0W h4 h5
   exact f0c (by omega)
  ·obtain ⟨g,v,rfl⟩:=l1r.1 c
   have:=r0W.sz (k:=40) (z.guards g v).2.2.1 (z.guards g v).2.2.2
   exact f0c (by rw [K0w];omega)
 have a0:Few 200 (c0M rows e d row (e.set.length + m)).C:=fun x h=>by
  obtain ⟨j,hj,rfl⟩:=l1r.1 h
  have c:Few 6 (rows.getD row []):=by rw [b0o (by omega)];exact hr _ (k1D _)
  have:=z.gC c j e.set.length z.ns
  exact f0c (k1H this (by decide))
 obtain ⟨M,hM⟩:∃ M,M=(c0M rows e d row (e.set.length + m)).A.length:=⟨_,rfl⟩
 refine ⟨⟨rfl,rfl,I,J,F,Z,a0,by decide,by omega,by omega,?_⟩,?_,by omega,H,u,hg,G⟩
 ·rw [<- hM] at H ⊢
  obtain ⟨N,hN⟩:∃ N,N=e.set.length + m:=⟨_,rfl⟩
  rw [<- hN]
  have a3:N<=6:=by omega
  have c:(M + 2) * ((N + 3) * (200 + 1) + M + 2)<=16 * 1825:=l1u (by omega) (by omega)
  have v:(N + 1) * (2 * ((M + 2) * ((N + 3) * (200 + 1) + M + 2) + 1 + M + 200) + 10)<=7 * (2 * (16 * 1825 + 1 + 14 + 200) + 10):=l1u (by omega) (by omega)
  omega
 ·unfold n0K
  have c:d0O (fun r=>!decide ((r.length:Int)=(c0M rows e d row (e.set.length + m)).n)) (c0M rows e d row (e.set.length + m)).A=false:=by
   refine List.any_eq_false.2 fun r s=>?_
   have:=(F r s).2
   show ¬ (!decide ((r.length:Int)=((e.set.length + m:Nat):Int)))=true
   simp [this]
  rw [c,I,J]
  show (decide (0<=((e.set.length + m:Nat):Int)) && decide (((e.set.length + m:Nat):Int)<=60) && decide ((c0M rows e d row (e.set.length + m)).A.length<=60) && _ && decide (((e.set.length + m:Nat):Int)=((e.set.length + m:Nat):Int)) && !false)=true
  simp;omega
def u0n (a:e0K) (x w:List (Bool × List Nat)):Int:=a0s a.K + sm (fun i=>a0s (a.X.getD i iz) * a0s (x.getD i iz)) x.length + sm (fun i=>a0s (a.W.getD i iz) * a0s (w.getD i iz)) w.length
def goB (e:c0b) (x w:List (Bool × List Nat)):Bool :=
 decide ((w.length:Int)=e.m) && decide (x.length=e.set.length) && k0o (fun g=>decide (g.X.length=x.length) && decide (g.W.length=w.length) && decide (u0n g x w<=0)) e.guards && k0o (fun g=>decide (g.X.length=x.length) && decide (g.W.length=w.length)) e.set
def goL (e:c0b) (x w:List (Bool × List Nat)):List (Bool × List Nat):=e.set.map fun a=>a0g (u0n a x w)
def zOf (x w:List (Bool × List Nat)) (j:Nat):Rat:=vQ ((x ++ w).getD j iz)
theorem y0K {f:Nat->Rat} {p:Nat}:∀ {q:Nat},rs f (p + q)=rs f p + rs (fun i=>f (p + i)) q
 | 0=>by rw [rs,l1A,m1q]
 | q + 1=>by rw [<- l1R,rs,rs,y0K];grind
theorem m0C {α:Type} {a b:List α} {j:Nat} {d:α} (h:j < a.length):(a ++ b).getD j d=a.getD j d:=by
 rw [k1v,l1i h,<- k1v]
theorem o0V {α:Type} {a b:List α} {j:Nat} {d:α}:(a ++ b).getD (a.length + j) d=b.getD j d:=by
 rw [k1v,l1n (by omega),<- k1v];congr 1;omega
theorem A0V {a:e0K} {x w:List (Bool × List Nat)} (c:a.X.length=x.length) (k:a.W.length=w.length):K0H a (x.length + w.length) (zOf x w)=((u0n a x w:Int):Rat):=by
 unfold K0H u0n
 rw [y0K]
 have h:rs (fun j=>vQ (a.all.getD j iz) * zOf x w j) x.length=((sm (fun i=>a0s (a.X.getD i iz) * a0s (x.getD i iz)) x.length:Int):Rat):=by
  rw [<- j0m]
  refine b0C fun j e=>?_
  unfold zOf e0K.all
  rw [m0C (by omega),m0C e,m1y];rfl
 have e2:rs (fun i=>vQ (a.all.getD (x.length + i) iz) * zOf x w (x.length + i)) w.length=((sm (fun i=>a0s (a.W.getD i iz) * a0s (w.getD i iz)) w.length:Int):Rat):=by
  rw [<- j0m]
  refine b0C fun j e=>?_
  unfold zOf e0K.all
  rw [<- c,o0V,c,o0V,m1y];rfl
 rw [h,e2,Rat.intCast_add,Rat.intCast_add]
 unfold vQ;grind
theorem s0s {r:List b0b} {x:List (Bool × List Nat)} {n:Nat} (h:x.length=n) {z:Nat->Rat} (k:∀ j,j < n->z j=vQ (x.getD j iz)):f0Q r (x.map b0y) n=c1K r n z:=by
 rw [u0y]
 refine b0C fun j e=>?_
 have c:j < x.length:=by omega
 rw [k j e,b0o (l:=x.map b0y) (by simpa using c),l1m,b0o (l:=x) c]
 unfold b0y;rw [a0w]
section
variable {rows:List (List b0b)} {e:c0b} {d:List c0f} {x w:List (Bool × List Nat)}
theorem q0C (h:goB e x w=true):(w.length:Int)=e.m/\x.length=e.set.length/\(∀ g ∈ e.guards,g.X.length=x.length/\g.W.length=w.length/\u0n g x w<=0)/\∀ g ∈ e.set,g.X.length=x.length/\g.W.length=w.length:=by
 unfold goB k0o at h
 simp only [k1L,l1k,l1a] at h
 obtain ⟨⟨⟨k,q⟩,c⟩,s⟩:=h
 exact ⟨k,q,fun g j=>⟨(c g j).1.1,(c g j).1.2,(c g j).2⟩,s⟩
theorem b1w (I:goB e x w=true) (H:∀ x ∈ d,i0K x=true) (v:A0y rows d (x.map b0y)=true):A0w rows e d (x.length + w.length) (zOf x w):=by
 obtain ⟨M,F,G,N⟩:=q0C I
 unfold A0y at v
 simp only [k1L,l1k] at v
 refine ⟨fun y L c=>?_,fun g u=>?_⟩
 ·obtain ⟨i,hi,rfl⟩:=l1I.1 L
  rw [List.getElem_zip] at c ⊢
  simp only [List.length_zip] at hi
  have k:=l1a.1 v.2 (z0D (x.map b0y) rows[i] d[i]) (l1I.2 ⟨i,by simp;omega,by rw [List.getElem_zipWith]⟩)
  unfold z0D at k
  simp only [id,k1L,l1k,m1k,decide_eq_false_iff_not,l1w] at k
  obtain ⟨s,q⟩:=k
  simp only at c ⊢
  rw [<- F]
  have hv:g0f d[i]=(0,b0t d[i].2):=by unfold g0f;rw [k1B (H _ (k1D _)),k1B c]
  rw [hv,s,s0s (z:=zOf x w) rfl (fun j J=>by unfold zOf;rw [m0C J])] at q
  have O:¬ b0t d[i].2 < c1K rows[i] x.length (zOf x w):=fun h=>q (by unfold u0r;simpa using u0s.2 h)
  grind
 ·obtain ⟨k,s,q⟩:=G g u
  rw [A0V k s]
  have:=Rat.intCast_le_intCast.2 q
  simpa using this
theorem X0m {y:List b0b} (s:goB e x w=true):m0D y e (x.length + w.length) (zOf x w)=f0Q y ((goL e x w).map b0y) e.set.length:=by
 obtain ⟨u,v,F,h⟩:=q0C s
 rw [s0s (z:=fun i=>K0H (e.set.getD i aff0) (x.length + w.length) (zOf x w)) (by unfold goL;simp)]
 ·rfl
 ·intro j c
  rw [b0o c]
  obtain ⟨k,q⟩:=h _ (k1D c)
  rw [A0V k q]
  unfold goL
  rw [b0o (by simpa using c),l1m]
  unfold vQ;rw [a0h]
theorem b1v {l:List c0f} (k:goB e x w=true) (s:∀ x ∈ d,i0K x=true) (q:d0O (fun e=>decide (e.1 < 0)) d=false) (y:∀ r ∈ rows,r.length=e.set.length) (u:A0y rows d (x.map b0y)=true) (v:l.length=rows.length)
  (hs:∀ i,(h:i < l.length)->o0N rows e d i (x.length + w.length) l[i]):A0y rows l ((goL e x w).map b0y)=true:=by
 have z:=b1w k s u
 unfold A0y
 rw [decide_eq_true v,n1A]
 refine l1a.2 fun b hb=>?_
 obtain ⟨i,hi,rfl⟩:=l1I.1 hb
 simp only [List.length_zipWith] at hi
 rw [List.getElem_zipWith]
 have j:=(hs i (by omega)).keeps q z
 have c:=y _ (k1D (show i < rows.length by omega))
 rw [X0m k,b0o (by omega)] at j
 unfold z0D
 show (decide (rows[i].length=((goL e x w).map b0y).length) && !decide (0 < u0r (0,f0Q rows[i] ((goL e x w).map b0y) rows[i].length) (g0f l[i])))=true
 rw [c,decide_eq_false j,decide_eq_true (by unfold goL;simp)]
 rfl
end
end
section
open SX
variable {fl:Nat} {H G:a0f} {R:a0D} {v w u:Value}
def PIr (H:a0f) (cs:List Value) (x:Bool × List Nat):Prop:=b0g H (.agg cs.toArray) x
theorem b0s:i0U PIr:=fun _ _ _ _ c h=>b0g.mo h c
abbrev c0A (H:a0f) (v:Value) (l:List (Bool × List Nat)):Prop:=Sls PIr H a0a 2 v l
theorem c0A.load {l:List (Bool × List Nat)} (h:c0A H v l) {j:Nat} (q:j < l.length):∃ s,b0v H true 2 (adr 2 v j)=some (.agg #[.bool l[j].1,s])/\Lim H s l[j].2:=by
 obtain ⟨cs,c,_,s,e,k⟩:=Sls.load h q (by omega)
 exact ⟨s,by rw [c,e],k⟩
theorem c0A.lim {l:List (Bool × List Nat)} (h:c0A H v l):∀ x ∈ l,b0u x.2:=fun x c=>by
 obtain ⟨i,hi,rfl⟩:=l1L c
 obtain ⟨s,_,k⟩:=c0A.load h hi
 exact k.ok
def A0A (H:a0f) (v:Value) (a:e0K):Prop:=∃ sX sW s,v=.agg #[sX,sW,.bool a.K.1,s]/\c0A H sX a.X/\c0A H sW a.W/\Lim H s a.K.2
theorem A0A.mo {a:e0K} (h:A0A H v a) (c:Ext H G):A0A G v a:=by
 obtain ⟨x,u,s,e,j,k,q⟩:=h;exact ⟨x,u,s,e,j.mo b0s c,k.mo b0s c,q.mo c⟩
def PAf (H:a0f) (cs:List Value) (a:e0K):Prop:=A0A H (.agg cs.toArray) a
theorem c0d:i0U PAf:=fun _ _ _ _ c h=>A0A.mo h c
abbrev g0g (H:a0f) (v:Value) (l:List e0K):Prop:=Sls PAf H e0C 4 v l
theorem g0g.load {l:List e0K} (h:g0g H v l) {j:Nat} (k:j < l.length):∃ w,b0v H true 4 (adr 4 v j)=some w/\A0A H w l[j]:=by
 obtain ⟨cs,c,_,e⟩:=Sls.load h k (by omega);exact ⟨_,c,e⟩
def i0T (H:a0f) (v:Value) (e:c0b):Prop:=∃ (f t:Int) (sG sS sP:Value),v=.agg #[.int .i64 f,.int .i64 t,.int .i64 e.m,sG,sS,sP]/\g0g H sG e.guards/\g0g H sS e.set/\a0W sP=[sP]/\a0v sP=true
theorem i0T.mo {e:c0b} (h:i0T H v e) (c:Ext H G):i0T G v e:=by
 obtain ⟨f,t,x,z,y,j,k,q,s,u⟩:=h;exact ⟨f,t,x,z,y,j,k.mo c0d c,q.mo c0d c,s,u⟩
end
section
open SX
variable {fl:Nat} {H G:a0f} {R:a0D} {v w u:Value}
theorem N0L {x:Bool × List Nat}:b0y x=(a0g (a0s x),a0g 1):=by
 unfold b0y vQ a0e;rw [n1h,n1g];rfl
theorem d0L {x:Bool × List Nat} (h:b0g H v x) (L:fl<=H.size) (M:x.2.length < 536870912) :
  a0O env fl O0a [v] H (fun r H'=>b0L H' r (b0y x)/\Ext H H') R:=by
 have N:=h
 obtain ⟨s,rfl,hs⟩:=h
 refine a0i j1R L (h:=?_)
 intro ρ J
 simp [e1W,U0j,J,hs.cells]
 generalize F:(H.push _).push _=G
 obtain ⟨e,I,b2⟩:=push2 F
 clear F
 simp [U0k,I]
 refine (e0G (i:=x) (j:=iz) (N.mo e) ⟨_,rfl,Lim.nil⟩ e.1 M (by decide)).mo ?_
 rintro _ z ⟨⟨O,rfl,q⟩,c⟩
 replace b2:=c.bk b2
 replace e:=e.trans c
 clear c
 simp
 refine (c0C (n:=1) e.1 (by omega) (by omega)).mo ?_
 rintro _ z ⟨⟨U,rfl,y⟩,c⟩
 replace b2:=c.bk b2
 replace q:=q.mo c
 replace e:=e.trans c
 clear c
 have hsz:=e.1
 have u:a0s iz=0:=by decide
 rw [u,l1O] at q ⊢
 simp [b2,hsz,q.cells,q.plain,y.cells,y.plain]
 generalize k:Array.setIfInBounds z _ _=G3
 rw [a0r k b2]
 simp
 rw [N0L]
 exact fun _=>⟨O,U,rfl,q.setS k b2 (by decide),y.setS k b2 (by decide)⟩
theorem k0Y {e:c0f} (h:g0L H v e) (j:fl<=H.size):a0O env fl a1U [v] H (fun r H'=>r=.bool (decide (e.1 < 0))/\Ext H H') R:=by
 obtain ⟨s,u,rfl,hs,k⟩:=h
 refine a0i j1n j (h:=?_)
 intro ρ c
 simp [e1s,R0H,R0I,c]
theorem h0R {a:List c0f} (s:e0i H v a) (j:fl<=H.size) (k:N0Q a) (c:a.length < 1073741824) :
  a0O env fl Z0c [v] H (fun r H'=>r=.bool (d0O (fun e=>decide (e.1 < 0)) a)/\Ext H H') R:=by
 refine a0i i1V j (h:=?_)
 intro ρ q
 simp [e1a,P0T,P0U,q]
 refine (f0O (p:=fun e=>decide (e.1 < 0)) s (k1x _) k c (fun fl G v e j h y=>k0Y h j)).mo ?_
 rintro _ x ⟨rfl,u⟩
 simp
theorem m0b {a:List e0K} {p:e0K->Bool} {g:FuncId} {c s:Value} (I:a0f->Prop) (y:∀ G G',Ext G G'->I G->I G') (O:I H) (M:g0g H v a) (Z:fl<=H.size) (U:a.length < 1073741824)
  (hg:∀ (fl:Nat) (G:a0f) (v:Value) (e:e0K),I G->fl<=G.size->A0A G v e->a0O env fl g [v,c,s] G (fun r H'=>r=.bool (p e)/\Ext G H') R) :
  a0O env fl B0q [v,.func (.func g) #[] #[c,s]] H (fun r H'=>(∃ z:Int,r=.int .i64 z/\(0<=z <-> d0O p a=true))/\Ext H H') R:=by
 refine a0i g1s Z (h:=?_)
 intro ρ j
 simp [M0u,D0g,D0h,j,M.slen]
 refine d0b (n:=a.length) (fun i ρ G=>ρ 0=v/\ρ 1=.func (.func g) #[] #[c,s]/\Ext H G/\d0O p (a.take i)=false)
  rfl rfl (by decide) (by omega) (by simp) (by simp) ?_ ?_ ?_ ?_
 ·exact ⟨by simp [j],by simp [j],Ext.refl H,by rw [n1n];exact h0W⟩
 ·intro i ρ a0 G h y;simpa [h] using y
 ·clear j ρ
  rintro i ρ G hi q L ⟨u,x,k,hc⟩
  have N:=M.mo c0d k
  obtain ⟨w,hl,k0⟩:=g0g.load N hi
  simp [D0i,D0j,q,u,x,N.ia hi,hl]
  refine (hg _ _ _ _ (y _ _ k O) k.1 k0).mo ?_
  rintro _ G2 ⟨rfl,J⟩
  have F:=k.trans J
  cases hp:p a[i]
  ·simp
   exact Rnd.mk (by simp [q]) (by simp [L]) ⟨by simp [u],by simp [x],F,by rw [f0P hi,hc,hp];rfl⟩
  ·simp [D0k,q]
   exact fun _=>h0X hi hp
 ·clear j ρ
  rintro ρ G q L ⟨u,x,k,hc⟩
  rw [k1M] at hc
  simp [D0l,hc]
theorem j0r {a:List e0K} {p:e0K->Bool} {g:FuncId} {c k:Value} (I:a0f->Prop) (u:∀ G G',Ext G G'->I G->I G') (q:I H) (x:g0g H v a) (y:fl<=H.size) (j:a.length < 1073741824)
  (F:∀ (fl:Nat) (G:a0f) (v:Value) (e:e0K),I G->fl<=G.size->A0A G v e->a0O env fl g [v,c,k] G (fun r H'=>r=.bool (p e)/\Ext G H') R) :
  a0O env fl b1h [v,.func (.func g) #[] #[c,k]] H (fun r H'=>r=.bool (d0O p a)/\Ext H H') R:=by
 refine a0i j1M y (h:=?_)
 intro ρ s
 simp [e1R,T0Q,T0R,s]
 refine (m0b (p:=p) I u q x (k1x _) j F).mo ?_
 rintro _ M ⟨⟨z,rfl,L⟩,J⟩
 simp
 intro _
 rw [m1X,l1k];exact L
theorem k0X {a:e0K} {b c:Nat} {n m:Int} (h:A0A H v a) (hb:H.bk b=.row false e0L [.int .i64 n]) (hc:H.bk c=.row false e0L [.int .i64 m]) (z:fl<=H.size) :
  a0O env fl b1i [v,.pointer (some ⟨b,0,none⟩),.pointer (some ⟨c,0,none⟩)] H (fun r H'=>r=.bool (!decide ((a.X.length:Int)=n) || !decide ((a.W.length:Int)=m))/\Ext H H') R:=by
 obtain ⟨I,F,s,rfl,u,q,hs⟩:=h
 refine a0i j1N z (h:=?_)
 intro ρ j
 simp [e1S,T0S,j,u.cells,q.cells,hs.cells]
 generalize y:H.push _=G
 obtain ⟨x,b3⟩:=g0e y
 replace hb:=x.bk hb
 replace hc:=x.bk hc
 simp [T0T,j,b3,hb,hc,u.slen,q.slen]
 by_cases e:(a.X.length:Int)=n
 ·by_cases k:(a.W.length:Int)=m
  ·simp [e,k]
  ·simp [e,k]
 ·simp [e]
theorem h0Q {l:List e0K} {n m:Int} (h:g0g H v l) (k:fl<=H.size) (j:l.length < 1073741824) :
  a0O env fl Z0i [v,.int .i64 n,.int .i64 m] H (fun r H'=>r=.bool (k0y l n m)/\Ext H H') R:=by
 refine a0i j1l k (h:=?_)
 intro ρ q
 simp [e1q,R0D,q]
 generalize s:(H.push _).push _=G
 obtain ⟨c,x,b2⟩:=push2 s
 clear s
 simp [R0E,q]
 refine (j0r (p:=fun a=>!decide ((a.X.length:Int)=n) || !decide ((a.W.length:Int)=m)) (fun G=>G.bk H.size=.row false e0L [.int .i64 n]/\G.bk (H.size + 1)=.row false e0L [.int .i64 m]) (fun G G' c h=>⟨c.bk h.1,c.bk h.2⟩) ⟨x,b2⟩ (h.mo c0d c) c.1 j
  (fun fl G v e u k h=>k0X h u.1 u.2 k)).mo ?_
 rintro _ z ⟨rfl,y⟩
 simp
 exact fun _=>by unfold k0y;simp
theorem b1Q {r1 r2 c:Blk} (h:Array.push (Array.push (Array.push H r1) r2) c=G):Ext H G/\a0f.bk G H.size=r1/\a0f.bk G (H.size + 1)=r2/\a0f.bk G (H.size + 2)=c:=by
 subst h
 refine ⟨(Ext.refl H).push.push.push,?_,?_,?_⟩ <;> simp [a0L]
theorem o0Q {x:Int × Rat}:(c0g x).1=x.1:=by unfold c0g;split <;> simp_all
theorem s0x {e:c0f} {b:b0b} (h:g0L H v e) (k:b0L H w b) (hf:fl<=H.size) (hn:d0J e.2 < 67108864) (hm:d0J b < 67108864) (he:szR (g0f e).2 < 67108864) (hs:szR (g0f e).2 + szR (b0t b) + 1 < 67108864) :
  a0O env fl a1P [v,w] H (fun r H'=>g0L H' r (if (g0f e).1=0 then (0,a0e ((g0f e).2 + b0t b)) else c0g (g0f e))/\Ext H H') R:=by
 have h':=h;have k':=k
 obtain ⟨s1,s2,rfl,l1,l2⟩:=h
 obtain ⟨s3,s4,rfl,l3,l4⟩:=k
 refine a0i i1Y hf (h:=?_)
 intro ρ h0
 simp [e1d,Q0g,h0,l1.cells,l2.cells,l3.cells,l4.cells]
 generalize hG:((H.push _).push _).push _=G
 obtain ⟨y,b2,b3,N⟩:=b1Q hG
 clear hG
 simp [Q0h,b2]
 refine (o0j (h'.mo y) y.1 hn).mo ?_
 rintro _ G2 ⟨⟨y1,y2,rfl,q1,Z⟩,s⟩
 replace b2:=s.bk b2
 replace b3:=s.bk b3
 replace N:=s.bk N
 replace y:=y.trans s
 clear s
 have hsz:=y.1
 simp [b2,hsz,q1.cells,q1.plain,Z.cells,Z.plain]
 generalize x:Array.setIfInBounds G2 _ _=G3
 have O:=a0r x b2
 have c3:a0f.bk G3 (H.size + 1)=_:=a0o x b3 (by omega)
 have q:a0f.bk G3 (H.size + 2)=_:=a0o x N (by omega)
 have c:=a0I x y (k1x _)
 have m1:=q1.setS x b2 (by decide)
 have M:=Z.setS x b2 (by decide)
 clear b2 b3 N q1 Z
 have F:=c.1
 by_cases z:(g0f e).1=0
 ·have u:(c0g (g0f e)).1=0:=by rw [o0Q];exact z
  have a0:c0g (g0f e)=(0,a0e (g0f e).2):=by unfold c0g;rw [k1B z]
  simp [I0s,O,u]
  simp [Q0j,O,c3]
  rw [a0] at m1 M ⊢
  rw [k1B z]
  refine (b0K (a:=a0e (g0f e).2) ⟨y1,y2,rfl,m1,M⟩ (k'.mo c) c.1 (by rw [a0E];exact he) hm).mo ?_
  rintro wa G5 ⟨ka,J⟩
  replace q:=J.bk q
  replace c:=c.trans J
  rw [a0w] at ka
  have a1:=r0Q (g0f e).2 (b0t b)
  simp
  refine (g0h ka c.1 (by rw [a0E];omega)).mo ?_
  rintro _ G6 ⟨⟨z1,z2,rfl,n1,U⟩,L⟩
  replace q:=L.bk q
  replace c:=c.trans L
  rw [a0w] at n1 U ⊢
  have I:=c.1
  simp [q,I,n1.cells,n1.plain,U.cells,U.plain]
  generalize j:Array.setIfInBounds G6 _ _=G7
  rw [a0r j q]
  simp
  exact fun _=>⟨_,_,rfl,n1.setS j q (by decide),U.setS j q (by decide)⟩
 ·have u:¬ (c0g (g0f e)).1=0:=by rw [o0Q];exact z
  simp [I0s,O,u]
  simp [Q0i,O,q,F,m1.cells,m1.plain,M.cells,M.plain]
  generalize j:Array.setIfInBounds G3 _ _=G4
  rw [a0r j q]
  simp
  rw [k1y z]
  exact fun _=>⟨_,_,rfl,m1.setS j q (by decide),M.setS j q (by decide)⟩
theorem d0f.shape {rows:List (List b0b)} (h:d0f H v rows):∃ s,v=.agg #[s]/\e0U H s rows:=h
theorem g0T {rows:List (List b0b)} {e:c0b} {d:List c0f} {row:Int} (ht:d0f H v rows) (he:i0T H w e) (hd:e0i H u d) (hf:fl<=H.size) (hr:∀ r ∈ rows,Few 6 r/\r.length < 1073741824) (U:rows.length < 1073741824) (N:N0Q d) (L:d.length < 1073741824) (M:e.set.length < 1073741824) (O:e.guards.length < 1073741824) :
  a0O env fl Z0b [v,w,u,.int .i64 row] H (fun r H'=>r=.bool (c0y rows e d row)/\Ext H H') R:=by
 have Z:=ht
 obtain ⟨s,rfl,hs⟩:=ht
 obtain ⟨f,t,sG,sS,sP,rfl,hG,J,I,a0⟩:=he
 refine a0i i1U hf (h:=?_)
 intro ρ y
 simp [d1Z,P0Q,y,hs.cells,hG.cells,J.cells,I]
 generalize hN:(H.push _).push _=G
 obtain ⟨j,x,k⟩:=push2 hN
 clear hN
 simp [P0R,k,J.slen]
 simp [P0S,y,x,k]
 refine (o0i (S:=6) (Z.mo j) (hd.mo c0q j) j.1 (by decide) hr U N L).mo ?_
 rintro _ G2 ⟨rfl,c⟩
 replace x:=c.bk x
 replace k:=c.bk k
 replace j:=j.trans c
 clear c
 unfold c0y
 cases hv:f0p rows e.set.length d
 ·simp
 have q:=(hs.mo d0u j).slen
 by_cases z:0<=row
 ·by_cases F:row < rows.length
  ·by_cases h3:0<=e.m
   ·simp [y,z,F,h3,x,k,q]
    refine (h0Q (l:=e.set) (J.mo c0d j) j.1 M).mo ?_
    rintro _ G3 ⟨rfl,c⟩
    replace k:=c.bk k
    replace j:=j.trans c
    clear c
    cases hq:k0y e.set e.set.length e.m
    ·simp
    ·simp [k]
     refine (h0Q (l:=e.guards) (hG.mo c0d j) j.1 O).mo ?_
     rintro _ G4 ⟨rfl,c⟩
     simp
   ·simp [y,z,F,h3,x,k,q]
  ·simp [y,z,F,x,k,q]
 ·simp [y,z]
def A0x (d:List c0f):Nat:=(d.filter fun x=>decide (x.1=0)).length
theorem u0t (d:List c0f):A0x d<=d.length:=List.length_filter_le _ _
theorem B0g {d:List c0f} {i:Nat} (h:i < d.length):A0x (d.take (i + 1))=A0x (d.take i) + if d[i].1=0 then 1 else 0:=by
 unfold A0x
 rw [k1N h,List.filter_append,k1S]
 by_cases c:d[i].1=0 <;> simp [c]
def y0O (e:c0b) (d:List c0f):Bool:=decide (e.guards.length + A0x d<=60) && decide ((e.set.length:Int) + e.m<=60)
theorem l0K {rows:List (List b0b)} {e:c0b} {d:List c0f} (ht:d0f H v rows) (he:i0T H w e) (hd:e0i H u d) (hf:fl<=H.size) (a2:d.length < 1073741824) (a3:e.set.length < 1073741824) (a4:e.guards.length < 1073741824) (a5:-1073741824 < e.m) (a6:e.m < 1073741824) :
  a0O env fl a1V [v,w,u] H (fun r H'=>r=.bool (y0O e d)/\Ext H H') R:=by
 have a7:=ht
 obtain ⟨s,rfl,hs⟩:=ht
 obtain ⟨f,t,sG,sS,sP,rfl,hG,hS,U,a0⟩:=he
 refine a0i j1o hf (h:=?_)
 intro ρ O
 simp [e1t,R0J,O,hs.cells,hG.cells,hS.cells,U]
 generalize F:(H.push _).push _=G
 obtain ⟨j,b3,c⟩:=push2 F
 clear F
 simp [R0K,c,hG.slen]
 simp [R0L,O,hd.slen]
 have a1:=u0t d
 refine d0b (n:=d.length) (fun i ρ G=>ρ 13=u/\ρ 4=.pointer (some ⟨H.size + 1,0,none⟩)/\Ext H G/\a0f.bk G (H.size + 1)=.row false b0F [.int .i64 f,.int .i64 t,.int .i64 e.m,sG,sS,sP]/\ρ 7=.int .i64 ((e.guards.length + A0x (d.take i):Nat):Int)) rfl rfl (by decide) (by omega) (by simp) (by simp) ?_ ?_ ?_ ?_
 ·exact ⟨by simp,by simp,j,c,by simp [A0x]⟩
 ·intro i ρ a8 G h hI;simpa [h] using hI
 ·clear O ρ b3 c j
  rintro i ρ G hi L N ⟨k,z,j,c,y⟩
  have kd:=hd.mo c0q j
  obtain ⟨wx,ex,kx⟩:=e0i.load kd hi
  obtain ⟨y1,y2,rfl,q1,q2⟩:=kx
  have hsz:=j.1
  simp [R0M,L,k,kd.ia hi,ex,q1.cells,q1.plain,q2.cells,q2.plain,hsz]
  generalize F:Array.setIfInBounds (Array.push _ _) _ _=G3
  obtain ⟨J,b5⟩:=new1 F
  clear F
  replace c:=J.bk c
  replace j:=j.trans J
  have x:=B0g hi
  have Z:=u0t (d.take (i + 1))
  rw [l1v] at Z
  by_cases M:d[i].1=0
  ·rw [k1B M] at x
   have wr:IntKind.i64.wrap (((e.guards.length + A0x (d.take i):Nat):Int) + 1)=((e.guards.length + A0x (d.take (i + 1)):Nat):Int):=by
    rw [a0S (by omega) (by omega)];omega
   simp [I0H,b5,M]
   simp [-Int.natCast_add,R0N,y,wr]
   exact Rnd.mk (by simp [L]) (by simp [N]) ⟨by simp [k],by simp [z],j,c,by simp⟩
  ·rw [k1y M,l1A] at x
   simp [I0H,b5,M]
   exact Rnd.mk (by simp [L]) (by simp [N]) ⟨by simp [k],by simp [z],j,c,by simp [y,x]⟩
 ·rintro ρ G L N ⟨k,z,j,c,y⟩
  rw [k1M] at y
  have I:=(hS.mo c0d j).slen
  have wr:IntKind.i64.wrap ((e.set.length:Int) + e.m)=(e.set.length:Int) + e.m:=a0S (by omega) (by omega)
  unfold y0O
  by_cases h1:e.guards.length + A0x d<=60
  ·have q:((e.guards.length + A0x d:Nat):Int)<=60:=by omega
   simp [-Int.natCast_add,I0I,y,z,c,I,wr,h1,q]
  ·have q:¬ ((e.guards.length + A0x d:Nat):Int)<=60:=by omega
   simp [-Int.natCast_add,I0I,y,z,c,I,wr,h1,q]
def A0J (fl:Nat) (H:a0f) (e sz:Nat) (v:Value) (n:Nat) (cs:List Value):Prop :=
 cs.length=n * sz/\((v=.slice none 0 0/\n=0) ∨ ∃ b cells,v=.slice (some ⟨b,0,none⟩) n unk/\H.bk b=.row false e cells/\fl<=b/\n * sz<=cells.length/\cs=cells.take (n * sz))
theorem A0I {n:Nat} (e:fl<=H.size) (q:n<=1073741824) :
  a0O env fl B0r [.slice none 0 0,.int .i64 (n:Int)] H (fun r H'=>A0J H.size H' a0a 2 r 0 []/\Ext H H') R:=by
 refine a0i g1v e (h:=?_)
 intro ρ c
 have w0:IntKind.i64.wrap 0=0:=by decide
 have k:IntKind.i64.wrap (n:Int)=(n:Int):=a0S (by omega) (by omega)
 simp [M0x,D0t,D0u,c,show ¬ (n:Int) < 0 by omega]
 simp [D0v,D0w,c,g0b,w0,k]
 refine ⟨fun h=>?_,fun h=>?_⟩
 ·have j:z0C 32 (.slice none 0 0) (.int .i64 (n:Int))=some n:=by
   unfold z0C;simp only;rw [k1B ⟨by omega,by omega,by decide⟩];simp
  simp [D0x,c,g0b,j,e0g,bnd,elemOk,unk,v0k]
  exact ⟨rfl,.inr ⟨H.size,e0M [.bool false,.slice none 0 0] n,rfl,a0G,k1x _,by simp,rfl⟩⟩
 ·simp [v0k,c]
  exact ⟨rfl,.inl ⟨rfl,rfl⟩⟩
theorem A0J.sl {e sz n:Nat} {s:Value} {cs:List Value} (h:A0J fl G e sz s n cs):Sl G e sz s n cs:=by
 obtain ⟨c,⟨rfl,rfl⟩ | ⟨b,cells,rfl,hb,j,k,rfl⟩⟩:=h
 ·exact ⟨c,.inl ⟨rfl,rfl⟩⟩
 ·exact ⟨c,.inr ⟨b,0,unk,false,cells,rfl,hb,by omega,by rw [l1F]⟩⟩
theorem A0J.mo {e sz n:Nat} {s:Value} {cs:List Value} {G':a0f} (h:A0J fl G e sz s n cs) (q:Ext G G'):A0J fl G' e sz s n cs:=by
 obtain ⟨j,c | ⟨b,cells,c,hb,k⟩⟩:=h
 ·exact ⟨j,.inl c⟩
 ·exact ⟨j,.inr ⟨b,cells,c,q.bk hb,k⟩⟩
theorem L0b {e e2 sz bytes n m:Nat} {s x:Value} {cs new:List Value} (ho:A0J fl G e sz s n cs) (I:Sl G e2 sz x m new) (hp:new.all a0v=true) (hn:n + m<=1073741824) (hb:bytes<=1024) (hs:0 < sz) (y:fl<=G.size) :
  ∃ v' G',i0H fl G e sz bytes s x=some (v',G')/\A0J fl G' e sz v' (n + m) (cs ++ new)/\d0o (slB s) G G'/\(∀ H0,H0.size<=fl->Ext H0 G->Ext H0 G'):=by
 obtain ⟨q,I⟩:=I
 have a0:=ho.1
 by_cases H:m=0
 ·subst H
  have z:new=[]:=k1U.1 (by omega)
  subst z
  refine ⟨s,G,?_,by simpa using ho,(Ext.refl G).extB,fun _ _ h=>h⟩
  rcases I with ⟨rfl,_⟩ | ⟨b,off,cap,ro,cells,rfl,_⟩ <;> rcases ho.2 with ⟨rfl,rfl⟩ | ⟨F,j,rfl,_⟩ <;> simp [i0H]
 ·rcases I with ⟨_,h0⟩ | ⟨b,off,cap,ro,cells,rfl,L,U,Z⟩
  ·exact k1Q h0 H
  have hc:=f0t L U
  rw [<- Z] at hc
  rcases ho.2 with ⟨rfl,rfl⟩ | ⟨F,j,rfl,k,O,a2,v⟩
  ·have N:cs=[]:=k1U.1 (by omega)
   subst N
   refine ⟨.slice (some ⟨G.size,0,none⟩) m unk,G.push (.row false e new),?_,?_,(Ext.push (Ext.refl G)).extB,fun _ _ h=>h.push⟩
   ·unfold i0H
    simp only
    rw [k1y H,k1B ⟨by omega,hb,hs⟩]
    simp only [hc,hp,m1V,l1y]
    rw [k1B ⟨by trivial,by trivial⟩]
   ·rw [l1e]
    refine ⟨by simpa using q,.inr ⟨G.size,new,rfl,a0G,y,by omega,?_⟩⟩
    rw [<- q,k1M];rfl
  ·have a1:=a0k k
   have M:G.cells? F 0 (n * sz)=some cs:=by
    rw [f0t k (by omega),l1F,<- v]
   have u:(cs ++ new).length=(n + m) * sz:=by rw [k1S,a0,q,k1R]
   refine ⟨.slice (some ⟨G.size,0,none⟩) (n + m) unk,(G.setIfInBounds F .dead).push (.row false e (cs ++ new)),?_,?_,?_,?_⟩
   ·unfold i0H
    simp only
    rw [k1y H,k1B ⟨by omega,hb,hs⟩]
    simp only [hc,hp,m1V,l1y,M]
    rw [k1y (fun J:n=0/\unk=0=>k1Q J.2 (by decide)),k1y (fun h=>h.1 rfl)]
    simp only [k]
    rw [k1B ⟨trivial,O⟩]
   ·exact ⟨u,.inr ⟨G.size,cs ++ new,rfl,by rw [a0L];simp,y,by omega,by rw [<- u,k1M]⟩⟩
   ·refine ⟨by simp,fun c hc R=>?_⟩
    have:F ≠ c:=fun h=>R (by simp [slB,h])
    rw [d0P (by simpa using hc),a0T this]
   ·intro H0 h1 h2
    exact (h2.set (by omega)).push
def y0Y {α:Type} (P:a0f->List Value->α->Prop) (fl:Nat) (H:a0f) (e sz:Nat) (v:Value) (l:List α):Prop :=
 ∃ cs,A0J fl H e sz v l.length cs/\∀ k (h:k < l.length),P H ((cs.drop (k * sz)).take sz) l[k]
theorem y0Y.sls {α:Type} {P:a0f->List Value->α->Prop} {e sz:Nat} {l:List α} (h:y0Y P fl H e sz v l):Sls P H e sz v l:=by
 obtain ⟨cs,c,j⟩:=h;exact ⟨cs,c.sl,j⟩
theorem m0U {sz:Nat} (hs:0 < sz):∀ {n:Nat} {cs:List Value},cs.length=n * sz->(∀ k,k < n->((cs.drop (k * sz)).take sz).all a0v=true)->cs.all a0v=true
 | 0,cs,h,_=>by rw [k1U.1 (by omega:cs.length=0)];rfl
 | n + 1,cs,h,h2=>by
  have c:=h2 0 (by omega)
  rw [n1H,l1F] at c
  rw [k1R,l1l] at h
  have e:=m0U hs (n:=n) (cs:=cs.drop sz) (by rw [List.length_drop];omega) (fun k j=>by
   have:=h2 (k + 1) (by omega)
   rw [m1g]
   rwa [show sz + k * sz=(k + 1) * sz by rw [k1R];omega])
  rw [<- m1o sz cs,m1Z,c,e];rfl
theorem PIr.plain {cs:List Value} {x:Bool × List Nat} (h:PIr H cs x):cs.all a0v=true:=by
 obtain ⟨s,c,e⟩:=h
 have j:cs=[.bool x.1,s]:=by injection c with c;simpa using n1E Array.toList c
 subst j;simp [e.plain]
theorem PIr.lx {cs:List Value} {x:Bool × List Nat} (h:PIr H cs x) (j:Lx H G):PIr G cs x:=by
 obtain ⟨s,c,e⟩:=h;exact ⟨s,c,e.lx j⟩
theorem c0A.plainAll {l:List (Bool × List Nat)} {cs:List Value} (e:cs.length=l.length * 2) (h:∀ k (h:k < l.length),PIr H ((cs.drop (k * 2)).take 2) l[k]):cs.all a0v=true :=
 m0U (by decide) e fun k c=>(h k c).plain
theorem A0J.lx {e sz n:Nat} {cs:List Value} (h:A0J fl G e sz v n cs) (k:e ≠ a0l) {G':a0f} (c:d0o (slB v) G G'):Lx G G':=by
 intro b ro j hb
 obtain ⟨q,⟨rfl,_⟩ | ⟨p,cells,rfl,hp,_⟩⟩:=h
 ·rw [c.2 b (a0k hb) (by simp [slB])];exact hb
 ·rw [c.2 b (a0k hb) (by simp [slB];rintro rfl;rw [hp] at hb;cases hb;exact k rfl)];exact hb
theorem C0L {α:Type} {P:a0f->List Value->α->Prop} {sz:Nat} {cs new:List Value} {l m:List α} (hc:cs.length=l.length * sz) (u:new.length=m.length * sz) (e:∀ k (h:k < l.length),P H ((cs.drop (k * sz)).take sz) l[k]) (j:∀ k (h:k < m.length),P H ((new.drop (k * sz)).take sz) m[k]) :
  ∀ k (h:k < (l ++ m).length),P H (((cs ++ new).drop (k * sz)).take sz) (l ++ m)[k]:=by
 intro k s
 by_cases c:k < l.length
 ·have q:(k + 1) * sz<=l.length * sz:=k1E _ c
  rw [k1R,l1l] at q
  rw [l1s c,l1M (by omega),m1c (by simp;omega)]
  exact e k c
 ·rw [k1S] at s
  rw [k1X (by omega),List.drop_append,l1V (by rw [hc];exact k1E _ (by omega)),l1Z,hc,show k * sz - l.length * sz=(k - l.length) * sz by rw [Nat.sub_mul]]
  exact j _ (by omega)
theorem y0Y.cat {s x:Value} {l m:List (Bool × List Nat)} (ho:y0Y PIr fl G a0a 2 s l) (J:c0A G x m) (I:l.length + m.length<=1073741824) (j:fl<=G.size) :
  ∃ v' G',i0H fl G a0a 2 32 s x=some (v',G')/\y0Y PIr fl G' a0a 2 v' (l ++ m)/\∀ H0,H0.size<=fl->Ext H0 G->Ext H0 G':=by
 obtain ⟨cs,e,H⟩:=ho
 obtain ⟨new,h,u⟩:=J
 obtain ⟨v',G',v,y,z,F⟩:=L0b (bytes:=32) e h (c0A.plainAll h.1 u) I (by decide) (by decide) j
 have c:=e.lx (by decide) z
 refine ⟨v',G',v,⟨cs ++ new,by rw [k1S];exact y,?_⟩,F⟩
 exact C0L e.1 h.1 (fun k q=>(H k q).lx c) (fun k q=>(u k q).lx c)
def PIL (H:a0f) (cs:List Value) (l:List (Bool × List Nat)):Prop:=∃ w,cs=[w]/\c0A H w l
theorem X0u:i0U PIL:=fun _ _ _ _ h ⟨w,c,e⟩=>⟨w,c,e.mo b0s h⟩
theorem PIL.load {ll:List (List (Bool × List Nat))} (h:Sls PIL H b0i 1 v ll) {j:Nat} (q:j < ll.length):∃ w,b0v H false 1 (adr 1 v j)=some w/\c0A H w ll[j]:=by
 obtain ⟨w,c,w',e,k⟩:=Sls.load1 h q
 cases e;exact ⟨_,c,k⟩
theorem B0P {α:Type} {ll:List (List α)} {i:Nat}:(ll.take i).flatten.length<=ll.flatten.length:=by
 have:(ll.take i ++ ll.drop i).flatten.length=ll.flatten.length:=by rw [m1o]
 rw [List.flatten_append,k1S] at this;omega
theorem s0J {α:Type} {ll:List (List α)} {i:Nat} (h:i < ll.length):(ll.take (i + 1)).flatten=(ll.take i).flatten ++ ll[i]:=by
 rw [k1N h,List.flatten_append];simp
theorem l0Z {ll:List (List (Bool × List Nat))} (h:Sls PIL H b0i 1 v ll) (hf:fl<=H.size) (hn:ll.length < 1073741824) (hm:ll.flatten.length<=1073741824) :
  a0O env fl Z0o [v] H (fun r H'=>c0A H' r ll.flatten/\Ext H H') R:=by
 refine a0i j1Q hf (h:=?_)
 intro ρ x
 simp [e1V,U0c,U0d,U0e,x,h.slen]
 refine d0b (n:=ll.length) (fun i ρ G=>ρ 0=v/\ρ 9=v/\G=H/\ρ 3=.int .i64 ((ll.take i).flatten.length:Int)) rfl rfl (by decide) (by omega) (by simp) (by simp) ?_ ?_ ?_ ?_
 ·exact ⟨by simp [x],by simp [x],rfl,by simp⟩
 ·intro i ρ O G h J;simpa [h] using J
 ·clear x ρ
  rintro i ρ G hi j u ⟨F,I,rfl,e⟩
  obtain ⟨w,L,N⟩:=PIL.load h hi
  have c:=s0J hi
  have y:=B0P (ll:=ll) (i:=i + 1)
  have a0:(ll.take (i + 1)).flatten.length=(ll.take i).flatten.length + ll[i].length:=by rw [c,k1S]
  have wr:IntKind.i64.wrap (((ll.take i).flatten.length:Int) + (ll[i].length:Int))=((ll.take (i + 1)).flatten.length:Int):=by
   rw [a0S (by omega) (by omega)];omega
  obtain ⟨A,hA⟩:∃ A,A=(ll.take i).flatten.length:=⟨_,rfl⟩
  obtain ⟨B,hB⟩:∃ B,B=(ll.take (i + 1)).flatten.length:=⟨_,rfl⟩
  rw [<- hA,<- hB] at wr
  rw [<- hA] at e
  simp [U0f,j,I,h.ia hi,L]
  simp [U0g,e,N.slen,wr]
  simp [U0h,show ¬ (B:Int) < 0 by omega]
  exact Rnd.mk (by simp [j]) (by simp [u]) ⟨by simp [F],by simp [I],rfl,by simp [hB]⟩
 ·clear x ρ
  rintro ρ G j u ⟨F,I,rfl,e⟩
  rw [k1M] at e
  obtain ⟨M,hM⟩:∃ M,M=ll.flatten.length:=⟨_,rfl⟩
  rw [<- hM] at e
  simp [U0i,e]
  refine (A0I (k1x _) (by omega)).mo ?_
  rintro s U ⟨hs,k⟩
  simp [J0l,F,h.slen]
  refine d0b (n:=ll.length) (fun i ρ G'=>ρ 25=v/\Ext G G'/\y0Y PIr G.size G' a0a 2 (ρ 6) (ll.take i).flatten) rfl rfl (by decide) (by omega) (by simp) (by simp) ?_ ?_ ?_ ?_
  ·exact ⟨by simp,k,[],by simpa using hs,by simp⟩
  ·intro i ρ O G h J;simpa [h] using J
  ·clear hs k F I e j u ρ U
   rintro i ρ U hi j u ⟨q,k,hs⟩
   have Z:=h.mo X0u k
   obtain ⟨w,L,N⟩:=PIL.load Z hi
   have c:=s0J hi
   have y:=B0P (ll:=ll) (i:=i + 1)
   rw [c,k1S] at y
   obtain ⟨v',G3,a1,a2,a3⟩:=hs.cat N (by omega) k.1
   simp [J0m,j,q,Z.ia hi,L]
   simp [J0n,a1]
   exact Rnd.mk (by simp [j]) (by simp [u]) ⟨by simp [q],a3 _ (k1x _) k,by rw [c];simpa using a2⟩
  ·rintro ρ G3 _ _ ⟨_,a4,z⟩
   rw [k1M] at z
   simp [J0o]
   exact fun _=>z.sls
theorem b0d.up {α:Type} {Q:a0f->List Value->α->Prop} {k e sz:Nat} {l:List α} (h:b0d Q fl G e sz v l) (hb:∀ b,slB v=some b->k<=b):b0d Q k G e sz v l:=by
 obtain ⟨c,⟨j,u | ⟨s,cap,rfl,hp,x⟩⟩,q⟩:=h
 ·exact ⟨c,⟨j,.inl u⟩,q⟩
 ·exact ⟨c,⟨j,.inr ⟨s,cap,rfl,hp,hb _ rfl⟩⟩,q⟩
theorem b0d.appUp {α:Type} {P:a0f->List Value->α->Prop} {j e sz:Nat} {l:List α} (H:e ≠ a0l) (F:∀ G' cs x,d0o (slB v) G G'->Lx G G'->P G cs x->P G' cs x) (h:b0d P j G e sz v l) {e2 c bytes:Nat} {new:List Value} {x:α} (M:P G new x) (J:new.length=sz) (hp:new.all a0v=true) (L:l.length < 1073741824) (hb:bytes<=1024) (hs:0 < sz) (s:fl<=j) (I:j<=G.size) :
  ∃ v' G',i0H fl (G.push (.row false e2 new)) e sz bytes v (.slice (some ⟨G.size,0,none⟩) 1 c)=some (v',G')/\b0d P j G' e sz v' (l ++ [x])/\d0o (slB v) G G'/\(∀ H0,H0.size<=j->Ext H0 G->Ext H0 G'):=by
 obtain ⟨v',G',u,y,k,N⟩:=b0d.app (e2:=e2) (c:=c) (bytes:=bytes) H F (h.low s) M J hp L hb hs (by omega)
 obtain ⟨_,_,hv⟩:=e0D (by decide) u
 refine ⟨v',G',u,y.up (fun b hb=>?_),k,fun H0 O q=>⟨k1H q.1 k.1,fun b hb=>?_⟩⟩
 ·rw [hv] at hb;simp [slB] at hb;omega
 ·rw [k.2 b (by have:=q.1;omega) (fun z=>by have:=(h.ge z).1;omega)];exact q.2 b hb
def w0H (E:Env) (fl nt tc b b2:Nat) (body:SCode) (Z:b0c->a0f->Prop) (Q:e0c) (R:a0D) (n i:Nat) (Inv:Nat->(Nat->Value)->a0f->Prop) (t:b0c) (H:a0f):Prop :=
 ∃ ρ' c,t=T nt ρ'/\ρ' tc=.bool c/\(c=true->i < n/\W E fl body (T nt ρ') H (u0J b2 b (c0s nt i Inv) Z Q) R)/\(c=false->Z (T nt ρ') H)
section
variable {E:Env} {fl nt tc b b2 n i:Nat} {body:SCode} {rc:List a0J} {Z:b0c->a0f->Prop} {Q:e0c} {R:a0D} {Inv:Nat->(Nat->Value)->a0f->Prop} {ρ:Nat->Value} {H:a0f}
theorem w0H.mk (c:Bool) (e:ρ tc=.bool c) (h:c=true->i < n/\W E fl body (T nt ρ) H (u0J b2 b (c0s nt i Inv) Z Q) R) (j:c=false->Z (T nt ρ) H):w0H E fl nt tc b b2 body Z Q R n i Inv (T nt ρ) H:=⟨ρ,c,rfl,e,h,j⟩
theorem a1f (Inv:Nat->(Nat->Value)->a0f->Prop) (n:Nat) (v:tc < nt) (x:Inv 0 ρ H)
  (step:∀ i ρ G,i<=n->Inv i ρ G->WR E fl rc (T nt ρ) G (w0H E fl nt tc b b2 body Z Q R n i Inv) R) :
  W E fl (.loop (.seq (.seq (.reg rc) (.cond (.tmp tc) .skip (.exit b))) (.block b2 body))) (T nt ρ) H (f0g b (h0P Z Q)) R:=by
 refine b0U (fun k t G=>∃ i ρ,i + k=n/\t=T nt ρ/\Inv i ρ G) Z n ⟨0,ρ,by omega,rfl,x⟩ ?_ (fun _ _ h=>h)
 clear x
 rintro k t G ⟨i,ρ,O,rfl,x⟩
 refine g0U (g0U (l0z ((step i ρ G (by omega) x).mo ?_)))
 rintro t' G' ⟨U,c,rfl,I,y,M⟩
 simp only [d0l]
 cases c with
 | true =>
  obtain ⟨hi,y⟩:=y rfl
  refine j0w true (by rw [i0J,b0T v,I]) (fun _=>s0j ?_) (by simp)
  simp only [d0l]
  refine m0h (y.mo fun e L F q=>?_)
  have s:c0s nt i Inv L F->m0G b (fun t' H'=>∃ k',k' < k/\∃ i ρ,i + k' = n/\t' = T nt ρ/\Inv i ρ H') Z Q .normal L F:=by
   rintro ⟨z,rfl,N⟩
   exact ⟨k - 1,by omega,i + 1,z,by omega,rfl,N⟩
  cases e with
  | normal=>exact s q
  | exit j =>
   simp only [u0J] at q
   show (if j=b2 then _ else _)
   by_cases J:j=b2
   ·rw [k1B J] at q ⊢;exact s q
   ·rw [k1y J] at q ⊢
    show (if j=b then _ else _)
    by_cases u:j=b
    ·rw [k1B u] at q ⊢;exact q
    ·rw [k1y u] at q ⊢;exact q
  | ret=>exact q
 | false =>
  refine j0w false (by rw [i0J,b0T v,I]) (by simp) (fun _=>s0i ?_)
  show (if b=b then _ else _)
  rw [k1B rfl]
  exact M rfl
end
theorem e0U.loadX {l:List (List b0b)} (h:e0U H v l) (s:Ext H G) {j:Nat} (c:j < l.length):∃ w,b0v G false 1 (adr 1 v j)=some w/\b0r H w l[j]:=by
 obtain ⟨w,k,q⟩:=e0U.load h c
 obtain ⟨cs,a,b⟩:=id h
 have e:=a.load1 (Ext.refl _) c
 have e2:=a.load1 s c
 exact ⟨w,by rw [e2,<- e,k],q⟩
theorem t0l:∀ {rows:List (List b0b)} {d:List c0f},d.length<=rows.length->d0z (rows.take d.length) (d.take d.length)=d0z rows d
 | _,[],_=>by simp [d0z]
 | [],_ :: _,h=>by simp at h
 | r :: rows,e :: d,h=>by
  have:=t0l (rows:=rows) (d:=d) (by simpa using h)
  simp only [l1p,m1Q,d0z,this]
theorem t0m:∀ {rows:List (List b0b)} {d:List c0f},d.length<=rows.length->d0A (rows.take d.length) (d.take d.length)=d0A rows d
 | _,[],_=>by simp [d0A]
 | [],_ :: _,h=>by simp at h
 | r :: rows,e :: d,h=>by
  have:=t0m (rows:=rows) (d:=d) (by simpa using h)
  simp only [l1p,m1Q,d0A,this]
def PSf (f:Nat) (o:Option Nat) (H:a0f) (cs:List Value) (l:List b0b):Prop:=∃ v,cs=[v]/\b0r H v l/\(slB v=none ∨ slB v ≠ o)/\∀ b,slB v=some b->f<=b
theorem k0B {f:Nat} {o:Option Nat}:i0U (PSf f o):=fun _ _ _ _ k ⟨v,c,e,h,j⟩=>⟨v,c,e.mo a0K k,h,j⟩
def w0K (H:a0f) (P N:Nat) (s w:Value) (rows:List (List b0b)) (d:List c0f) (i:Nat) (ρ:Nat->Value) (G:a0f):Prop :=
 ρ 2=.int .i64 (N:Int)/\ρ 3=.pointer (some ⟨H.size,0,none⟩)/\ρ 6=.pointer (some ⟨H.size + 1,0,none⟩)/\ρ 7=.pointer (some ⟨P,0,none⟩)/\ρ 15=w/\Ext H G /\
  a0f.bk G H.size=.row false a0M [s]/\a0f.bk G (H.size + 1)=.row false b0M [.int .i64 0,.slice none 0 0,.slice none 0 0,.slice none 0 0] /\
  ∃ sA sB,a0f.bk G P=.row false b0M [.int .i64 (N:Int),sA,sB,.slice none 0 0]/\b0d (PSf H.size (slB sB)) H.size G a0N 1 sA ((d0z (rows.take i) (d.take i)).map (x0w N)) /\
   b0d PR H.size G a0b 4 sB (d0A (rows.take i) (d.take i))
def Z0Q (fl N:Nat) (A:List (List b0b)) (B:List b0b) (r:Value) (H':a0f):Prop :=
 ∃ sA sB,r=.agg #[.int .i64 (N:Int),sA,sB,.slice none 0 0]/\b0d (PSf fl (slB sB)) fl H' a0N 1 sA A/\b0d PR fl H' a0b 4 sB B
theorem n0S {S N:Nat} {rows:List (List b0b)} {d:List c0f} (h:d0f H v rows) (hd:e0i H w d) (hf:fl<=H.size) (hS:S < 67108864) (hN:N < 1073741824) (hr:∀ r ∈ rows,Few S r/\r.length<=N) (c7:d.length<=rows.length) (g1:rows.length < 1073741824) (e4:N0Q d) :
  a0O env fl a1W [v,w,.int .i64 (N:Int)] H (fun r H'=>Z0Q H.size N ((d0z rows d).map (x0w N)) (d0A rows d) r H'/\Ext H H') R:=by
 obtain ⟨s,rfl,hs⟩:=h
 refine a0i j1p hf (h:=?_)
 intro ρ h0
 simp [e1u,R0O,h0,hs.cells]
 generalize hG:(H.push _).push _=G
 obtain ⟨u,b0,z⟩:=push2 hG
 clear hG
 have a1:=a0k z
 have hsz:=u.1
 simp [R0P,h0,hsz]
 generalize hN:Array.setIfInBounds (Array.push _ _) _ _=G5
 obtain ⟨q,b3⟩:=new1 hN
 clear hN
 (try replace b0:=q.bk b0);(try replace z:=q.bk z);(try replace b3:=q.bk b3);(try replace J:=q.bk J);(try replace b5:=q.bk b5);(try replace b6:=q.bk b6);(try replace u:=u.trans q);(try replace k0:=k0.mo q);(try replace k1:=k1.mo q);(try replace k2:=k2.mo q);(try replace F:=F.mo q);(try replace I:=I.mo q)
 obtain ⟨P,hP⟩:∃ P,P=G.size:=⟨_,rfl⟩
 rw [<- hP] at b3 hsz a1 ⊢
 have c4:P ≠ H.size + 1:=by omega
 have c2:=hsz
 simp [R0Q,h0,hd.slen]
 refine d0b (n:=d.length) (w0K H P N s w rows d) rfl rfl (by decide) (by omega) (by simp) (by simp) ?_ ?_ ?_ ?_
 ·exact ⟨by simp [h0],by simp,by simp,by simp,by simp [h0],u,b0,z,_,_,b3,by simpa [d0z] using b0d.nil,by simpa [d0A] using b0d.nil⟩
 ·intro i ρ f6 G h hI;simpa [w0K,h] using hI
 ·clear h0 ρ u b0 z b3 q hsz a1 hP G5 G
  rintro i ρ G hi gi gn ⟨U,g3,g6,M,y,u,b0,z,sA,sB,b3,hA,hB⟩
  have Z:i < rows.length:=by omega
  have kd:=hd.mo c0q u
  have ks:=hs.mo d0u u
  obtain ⟨we,d0,k0⟩:=e0i.load kd hi
  obtain ⟨s1,s2,rfl,k1,k2⟩:=id k0
  have hsz:=u.1
  simp [R0R,y,gi,kd.ia hi,d0,k1.cells,k1.plain,k2.cells,k2.plain,hsz]
  generalize hN:Array.setIfInBounds (Array.push _ _) _ _=G3
  obtain ⟨q,J⟩:=new1 hN
  clear hN
  (try replace b0:=q.bk b0);(try replace z:=q.bk z);(try replace b3:=q.bk b3);(try replace J:=q.bk J);(try replace b5:=q.bk b5);(try replace b6:=q.bk b6);(try replace u:=u.trans q);(try replace k0:=k0.mo q);(try replace k1:=k1.mo q);(try replace k2:=k2.mo q);(try replace F:=F.mo q);(try replace I:=I.mo q)
  replace ks:=ks.mo d0u q
  replace hA:=hA.mo k0B q
  replace hB:=hB.mo a0K q
  obtain ⟨P2,c1⟩:∃ P2,P2=G.size:=⟨_,rfl⟩
  rw [<- c1] at J hsz ⊢
  clear q d0 kd c1 G
  by_cases he:d[i].1=0
  ·simp [I0O,J,he]
   have a4:=g0o (bytes:=64) (k:=.i64) (k':=.i64) (l:=0) (c:=N) (l1D _) (by omega) (by omega)
   simp only [Int.natCast_zero] at a4
   simp [R0S,U,a4]
   generalize hN:G3.push _=G4
   obtain ⟨q,b5⟩:=g0e hN
   clear hN
   obtain ⟨wr,a3,kr⟩:=e0U.loadX ks q Z
   obtain ⟨e5,g0⟩:=hr _ (k1D Z)
   have ho:b0d PR G3.size G4 a0b 4 (.slice (some ⟨G3.size,0,none⟩) 0 N) ([]:List b0b):=⟨[],Own.mk b5 rfl (k1x _),by simp⟩
   have c6:=q.bk b0
   have a2:=u.1
   simp [R0T,g3,c6,(ks.mo d0u q).ia Z,a3,kr.slen]
   clear c6 a3
   refine d0b (n:=rows[i].length) (fun j ρ G=>ρ 2=.int .i64 (N:Int)/\ρ 3=.pointer (some ⟨H.size,0,none⟩)/\ρ 6=.pointer (some ⟨H.size + 1,0,none⟩)/\ρ 7=.pointer (some ⟨P,0,none⟩)/\ρ 15=w/\ρ 16=.int .i64 (d.length:Int)/\ρ 17=.int .i64 (i:Int)/\ρ 9=.pointer (some ⟨P2,0,none⟩)/\ρ 31=wr/\Ext G3 G/\b0d PR G3.size G a0b 4 (ρ 10) ((i0n rows[i]).take j)) rfl rfl (by decide) (by omega) (by simp) (by simp) ?_ ?_ ?_ ?_
   ·exact ⟨by simp [U],by simp [g3],by simp [g6],by simp [M],by simp [y],by simp [gn],by simp [gi],by simp,by simp,q,by simpa using ho⟩
   ·intro i ρ f6 G h hI;simpa [h] using hI
   ·clear U g3 g6 M y gi gn b5 ho q a4 ρ G4
    rintro j ρ G hj gj gm ⟨U,g3,g6,M,y,gn,gi,g9,a9,u,ho⟩
    obtain ⟨r,O⟩:∃ r,ρ 10=r:=⟨_,rfl⟩
    rw [O] at ho
    have kv:=kr.mo a0K u
    obtain ⟨x,L,k0⟩:=b0r.load kv hj
    obtain ⟨y1,y2,rfl,q1,q2⟩:=id k0
    have f9:=e5 _ (k1D hj)
    have hsz:=k1H a2 u.1
    simp [R0U,a9,gj,kv.ia hj,L,q1.cells,q1.plain,q2.cells,q2.plain,hsz]
    generalize hN:Array.setIfInBounds (Array.push _ _) _ _=G5
    obtain ⟨q,b6⟩:=new1 hN
    clear hN
    replace ho:=ho.mo a0K q
    replace u:=u.trans q
    replace k0:=b0L.mo k0 q
    clear q L kv q1 q2
    simp [I0J,b6]
    refine (b0K k0 (b:=c0z) f0k (k1H a2 u.1) (by omega) (by decide)).mo ?_
    rintro _ G2 ⟨⟨s3,s4,rfl,F,I⟩,q⟩
    replace ho:=ho.mo a0K q
    replace u:=u.trans q
    rw [f0o,m1q] at F I ⊢
    obtain ⟨s',G4,h1,h2,h3,h4⟩:=b0d.appUp (fl:=H.size) (P:=PR) (sz:=4) (e:=a0b) (by decide) (fun G' cs x _ hl h=>b0L.lx h hl) ho (e2:=a0b) (c:=1) (bytes:=64) (new:=[.bool (a0e (b0t rows[i][j])).1.1,s3,.bool (a0e (b0t rows[i][j])).2.1,s4]) (x:=a0e (b0t rows[i][j])) ⟨s3,s4,rfl,F,I⟩ rfl (by simp [F.plain,I.plain]) (by simp;omega) (by omega) (by omega) a2 u.1
    simp [O,F.cells,I.cells,h1]
    exact Rnd.mk (by simp [gj]) (by simp [gm]) ⟨by simp [U],by simp [g3],by simp [g6],by simp [M],by simp [y],by simp [gn],by simp [gi],by simp [g9],by simp [a9],h4 _ (k1x _) u,b0d.cast (v':=s') (by simp) (by unfold i0n;rw [l0X hj];exact h2)⟩
   clear U g3 g6 M y gi gn b5 ho q a4 ρ G4
   rintro ρ G d7 d8 ⟨U,g3,g6,M,y,gn,gi,g9,d9,q,ho⟩
   clear d7 d8 d9
   rw [k1J (by simp [i0n])] at ho
   refine a1f (fun c ρ G=>ρ 2=.int .i64 (N:Int)/\ρ 3=.pointer (some ⟨H.size,0,none⟩)/\ρ 6=.pointer (some ⟨H.size + 1,0,none⟩)/\ρ 7=.pointer (some ⟨P,0,none⟩)/\ρ 15=w/\ρ 16=.int .i64 (d.length:Int)/\ρ 17=.int .i64 (i:Int)/\ρ 9=.pointer (some ⟨P2,0,none⟩)/\Ext G3 G/\b0d PR G3.size G a0b 4 (ρ 10) (i0n rows[i] ++ List.replicate c (a0e 0))) (N - rows[i].length) (by decide) ?_ ?_
   ·exact ⟨U,g3,g6,M,y,gn,gi,g9,q,by simpa using ho⟩
   clear U g3 g6 M y gi gn ho q ρ G g9
   rintro c ρ G hc ⟨U,g3,g6,M,y,gn,gi,g9,q,ho⟩
   obtain ⟨r,O⟩:∃ r,ρ 10=r:=⟨_,rfl⟩
   rw [O] at ho
   have d1:(i0n rows[i] ++ List.replicate c (a0e 0)).length=rows[i].length + c:=by simp [i0n]
   have a8:=ho.slen
   rw [d1] at a8
   simp [-Int.natCast_add,I0K,O,U,a8]
   refine w0H.mk (decide (((rows[i].length + c:Nat):Int) < (N:Int))) (by simp [-Int.natCast_add]) (fun e8=>?_) (fun c8=>?_)
   ·have f7:=of_decide_eq_true e8
    refine ⟨by omega,?_⟩
    simp [I0L,O]
    refine (c0o (n:=0) (k1H a2 q.1) (by decide) (by decide)).mo ?_
    rintro _ G2 ⟨⟨s3,s4,rfl,F,I⟩,d3⟩
    replace ho:=ho.mo a0K d3
    replace q:=q.trans d3
    have e0:((0:Int):Rat)=0:=rfl
    rw [e0] at F I ⊢
    obtain ⟨s',G4,h1,h2,h3,h4⟩:=b0d.appUp (fl:=H.size) (P:=PR) (sz:=4) (e:=a0b) (by decide) (fun G' cs x _ hl h=>b0L.lx h hl) ho (e2:=a0b) (c:=1) (bytes:=64) (new:=[.bool (a0e 0).1.1,s3,.bool (a0e 0).2.1,s4]) (x:=a0e 0) ⟨s3,s4,rfl,F,I⟩ rfl (by simp [F.plain,I.plain]) (by omega) (by omega) (by omega) a2 q.1
    simp [F.cells,I.cells,h1]
    exact c0s.mk ⟨by simp [U],by simp [g3],by simp [g6],by simp [M],by simp [y],by simp [gn],by simp [gi],by simp [g9],h4 _ (k1x _) q,b0d.cast (v':=s') (by simp) (by rw [List.replicate_succ',<- m1u];exact h2)⟩
   have c9:=of_decide_eq_false c8
   have a6:i0n rows[i] ++ List.replicate c (a0e 0)=x0w N (i0n rows[i]):=by
    unfold x0w
    rw [show N - (i0n rows[i]).length=c by simp [i0n];omega]
   rw [a6] at ho
   clear a6 a8 d1 c8 c9 hc
   replace b0:=q.bk b0
   replace z:=q.bk z
   replace b3:=q.bk b3
   replace J:=q.bk J
   replace u:=u.trans q
   replace k1:=k1.mo q
   replace k2:=k2.mo q
   replace hA:=hA.mo k0B q
   have c0:∀ b,slB sB=some b->b < G3.size:=fun b h=>(hB.ge h).2
   replace hB:=hB.mo a0K q
   have e6:=j0W (rows.take i) (d.take i)
   have e7:=m0W (rows.take i) (d.take i)
   simp only [l1v] at e6 e7
   have e9:slB r=none ∨ slB r ≠ slB sB:=by
    cases hr1:slB r with
    | none=>exact .inl rfl
    | some b =>
     right;intro h
     have:=(ho.ge hr1).1
     have:=c0 b h.symm
     omega
   obtain ⟨cr,pr⟩:=ho.cells
   obtain ⟨d6,G5,h1,h2,h3,h4⟩:=b0d.app (P:=PSf H.size (slB sB)) (sz:=1) (e:=a0N) (by decide)
    (fun G' cs x f0 hl ⟨w',q1,q2,q3,q4⟩=>⟨w',q1,q2.lx2 (hA.lxT (by decide) f0) hl,q3,q4⟩) hA (e2:=a0N) (c:=1) (bytes:=24) (new:=[r]) (x:=x0w N (i0n rows[i])) ⟨r,rfl,ho.sls,e9,fun b hb=>by have:=(ho.ge hb).1;omega⟩ rfl (by simp [pr]) (by rw [l1w];omega) (by omega) (by omega) u.1
   obtain ⟨_,_,f8⟩:=e0D (by decide) h1
   have L:=hA.lx (by decide) h3
   have a3:=hA.lxT (e':=a0b) (by decide) h3
   have f1:=hA.ne b0 (by decide)
   have f2:=hA.ne z (by decide)
   have d4:=hA.ne b3 (by decide)
   have d5:=hA.ne J (by decide)
   have e1:=hA.blkOf
   have c3:=b3
   replace b0:=(h3.2 _ (a0k b0) f1).trans b0
   replace z:=(h3.2 _ (a0k z) f2).trans z
   replace b3:=(h3.2 _ (a0k b3) d4).trans b3
   replace J:=(h3.2 _ (a0k J) d5).trans J
   replace u:=h4 _ (k1x _) u
   replace k1:=k1.lx L
   replace k2:=k2.lx L
   replace hB:=hB.lxm (Q':=PR) a3 (fun cs x h=>b0L.lx h L)
   refine c0R ?_
   simp [I0M,M,g9,O,c3,b3,J,cr,h1]
   clear c3
   refine (b0K (a:=d[i].2) ⟨s1,s2,rfl,k1,k2⟩ (b:=c0z) f0k (by have:=u.1;omega) (e4 _ (k1D hi)) (by decide)).mo ?_
   rintro _ G6 ⟨⟨s3,s4,rfl,F,I⟩,q⟩
   (try replace b0:=q.bk b0);(try replace z:=q.bk z);(try replace b3:=q.bk b3);(try replace J:=q.bk J);(try replace b5:=q.bk b5);(try replace b6:=q.bk b6);(try replace u:=u.trans q);(try replace k0:=k0.mo q);(try replace k1:=k1.mo q);(try replace k2:=k2.mo q);(try replace F:=F.mo q);(try replace I:=I.mo q)
   replace hA:=h2.mo k0B q
   replace hB:=hB.mo a0K q
   rw [f0o,m1q] at F I ⊢
   obtain ⟨a5,G7,p1,p2,p3,p4⟩:=b0d.app (P:=PR) (sz:=4) (e:=a0b) (by decide) (fun G' cs x _ hl h=>b0L.lx h hl) hB (e2:=a0b) (c:=1) (bytes:=64) (new:=[.bool (a0e (b0t d[i].2)).1.1,s3,.bool (a0e (b0t d[i].2)).2.1,s4]) (x:=a0e (b0t d[i].2)) ⟨s3,s4,rfl,F,I⟩ rfl (by simp [F.plain,I.plain]) (by omega) (by omega) (by omega) u.1
   obtain ⟨_,_,e3⟩:=e0D (by decide) p1
   have L:=hB.lx (by decide) p3
   have f3:=hB.ne b0 (by decide)
   have f4:=hB.ne z (by decide)
   have f5:=hB.ne b3 (by decide)
   have g4:=hB.ne J (by decide)
   have d2:slB a5 = some (G6.size + 1):=by rw [e3];simp [slB]
   have b8:b0d (PSf H.size (slB a5)) H.size G7 a0N 1 d6 ((d0z (rows.take (i + 1)) (d.take (i + 1))).map (x0w N)):=by
    rw [k0M Z hi,k1B he,n1c]
    refine hA.lxm (hB.lxT (by decide) p3) (fun cs x ⟨w',q1,q2,q3,q4⟩=>⟨w',q1,q2.off p3 q3 L,?_,q4⟩)
    cases hw:slB w' with
    | none=>exact .inl rfl
    | some b=>right;rw [d2];have:=q2.lt hw;simp;omega
   replace b0:=(p3.2 _ (a0k b0) f3).trans b0
   replace z:=(p3.2 _ (a0k z) f4).trans z
   replace b3:=(p3.2 _ (a0k b3) f5).trans b3
   replace u:=p4 _ (k1x _) u
   have b9:b0d PR H.size G7 a0b 4 a5 (d0A (rows.take (i + 1)) (d.take (i + 1))):=by rw [k0N Z hi,k1B he];exact p2
   obtain ⟨cA,pA⟩:=b8.cells
   obtain ⟨cB,pB⟩:=b9.cells
   have hz:=a0k b3
   simp [M,b3,F.cells,I.cells,p1,cA,pA,cB,pB,c2,hz]
   generalize a0:Array.setIfInBounds G7 P _=G8
   have t1:∀ {e:Nat},b0M ≠ e->LxT e G7 G8:=fun a7=>b0f a0 b3 a7
   have n0:P ≠ H.size:=by intro h;rw [h,b0] at b3;cases b3
   have c5:∀ x,x ∈ blkW sA->slB sA=some x:=by
    rcases e1 with h | ⟨b,h,h'⟩
    ·rw [h];simp
    ·rw [h,h'];simp
   refine ⟨⟨fun x u h=>d4 (by rw [c5 x u,h]),fun x u h=>d5 (by rw [c5 x u,h])⟩,Rnd.mk (by simp [gi]) (by simp [gn]) ⟨by simp [U],by simp [g3],by simp [g6],by simp [M],by simp [y],a0I a0 u c2,a0o a0 b0 n0,a0o a0 z c4,d6,a5,a0r a0 b3,?_,?_⟩⟩
   ·exact b8.lxm (t1 (by decide)) (fun cs x ⟨w',q1,q2,q3,q4⟩=>⟨w',q1,q2.lx2 (t1 (by decide)) (t1 (by decide)),q3,q4⟩)
   ·exact b9.lxm (t1 (by decide)) (fun cs x h=>b0L.lx h (t1 (by decide)))
  ·simp [I0O,J,he]
   refine Rnd.mk (by simp [gi]) (by simp [gn]) ⟨by simp [U],by simp [g3],by simp [g6],by simp [M],by simp [y],u,b0,z,sA,sB,b3,?_,?_⟩
   ·rw [k0M Z hi,k1y he,List.append_nil];exact hA
   ·rw [k0N Z hi,k1y he,List.append_nil];exact hB
 ·clear h0 ρ u b0 z b3 q hsz a1 hP G5 G
  rintro ρ G gi gn ⟨U,g3,g6,M,y,u,b0,z,sA,sB,b3,hA,hB⟩
  rw [t0l c7] at hA
  rw [t0m c7] at hB
  have hz:=a0k z
  obtain ⟨cA,pA⟩:=hA.cells
  obtain ⟨cB,pB⟩:=hB.cells
  simp [I0N,g6,M,b3,z,cA,pA,cB,pB,hz]
  generalize hS:Array.setIfInBounds _ _ _=G9
  have t1:∀ {e:Nat},b0M ≠ e->LxT e G G9:=fun a7=>b0f hS z a7
  refine fun _=>⟨sA,sB,rfl,?_,?_⟩
  ·exact hA.lxm (t1 (by decide)) (fun cs x ⟨w',q1,q2,q3,q4⟩=>⟨w',q1,q2.lx2 (t1 (by decide)) (t1 (by decide)),q3,q4⟩)
  ·exact hB.lxm (t1 (by decide)) (fun cs x h=>b0L.lx h (t1 (by decide)))
