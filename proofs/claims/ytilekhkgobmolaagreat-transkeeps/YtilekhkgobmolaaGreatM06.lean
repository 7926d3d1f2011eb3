/- Part 7 of the proof. -/
import Derived.Test.YtilekhkgobmolaaGreatM05
set_option linter.unusedVariables false
set_option linter.unusedSimpArgs false
set_option linter.unusedSectionVars false
set_option maxHeartbeats 4000000
namespace Go.Proofs.YtilekhkgobmolaaGreat.AI
open Go
section
variable {fl:Nat} {H:a0f} {R:a0D} {v w:Value} {i j:Bool × List Nat} {a b:b0b}
theorem b0g.cells {i:Bool × List Nat} (h:b0g H v i):(a0W v).length=2/\(a0W v).all a0v=true:=by
 obtain ⟨s,rfl,hs⟩:=h;simp [hs.plain]
theorem d0X (h:b0g H v i) (k:b0g H w j) (hf:fl<=H.size) (hn:i.2.length < 536870912) (hm:j.2.length < 536870912) (a1:a0s j ≠ 0) :
  a0O env fl q0t [v,w] H (fun r H'=>(∃ q,r=.tuple #[q,.int .i64 0]/\b0L H' q (a0e (Rat.divInt (a0s i) (a0s j))))/\Ext H H') R:=by
 have I:=h
 have F:=k
 obtain ⟨s,rfl,hs⟩:=h
 obtain ⟨u,rfl,hu⟩:=k
 refine a0i g1D hf (h:=?_)
 intro ρ N
 simp [M0F,E0k,N]
 generalize hG:((H.push _).push _).push _=G
 have z:Ext H G:=by rw [<- hG];exact (Ext.refl H).push.push.push
 have b0:a0f.bk G H.size=.row false a0a [.bool i.1,s]:=by rw [<- hG];simp
 have y:a0f.bk G (H.size + 1)=.row false a0a [.bool j.1,u]:=by rw [<- hG];simp
 have b2:a0f.bk G (H.size + 2)=.row false a0b [.bool false,.slice none 0 0,.bool false,.slice none 0 0]:=by rw [<- hG];simp
 clear hG
 replace I:=I.mo z
 replace F:=F.mo z
 have l1:=a0x I.ok
 have l2:=a0x F.ok
 simp [E0l,N,y]
 refine (k0b F z.1 hm).mo ?_
 rintro _ G2 ⟨rfl,c⟩
 replace b0:=c.bk b0;replace y:=c.bk y;replace b2:=c.bk b2;replace z:=z.trans c;replace I:=I.mo c;replace F:=F.mo c
 have a5:(a0s j == 0)=false:=by simp [a1]
 simp [a5,a1,E0m,N,b0,y]
 refine (f0x I F z.1 hn hm).mo ?_
 rintro x G2 ⟨⟨s1,rfl,J⟩,c⟩
 replace b0:=c.bk b0;replace y:=c.bk y;replace b2:=c.bk b2;replace z:=z.trans c;replace I:=I.mo c;replace F:=F.mo c
 have hsz:=z.1
 simp [N,J.cells,J.plain,hsz]
 generalize hN:Array.setIfInBounds (Array.push _ _) _ _=G3
 obtain ⟨c,b3⟩:=new1 hN
 have a3:=a0k b2
 replace b0:=c.bk b0;replace y:=c.bk y;replace b2:=c.bk b2;replace z:=z.trans c;replace I:=I.mo c;replace F:=F.mo c;replace J:=J.mo c
 clear hN
 obtain ⟨P,hP⟩:∃ P,P=G2.size:=⟨_,rfl⟩
 rw [<- hP] at b3 hsz a3 ⊢
 have a4:lz (Int.gcd (a0s i) (a0s j):Int) < 536870912:=by
  have h5:Int.gcd (a0s i) (a0s j)<=(a0s j).natAbs:=m1N _ a1
  have:lz (Int.gcd (a0s i) (a0s j):Int)<=(a0p (a0s j).natAbs).length:=a0X (by simpa using h5)
  omega
 simp [E0n,N,y]
 refine (d0W F (j:=(false,[])) ⟨_,rfl,Lim.nil⟩ z.1 hm (by simp)).mo ?_
 rintro _ G2 ⟨rfl,c⟩
 replace b0:=c.bk b0;replace y:=c.bk y;replace b2:=c.bk b2;replace b3:=c.bk b3;replace z:=z.trans c;replace I:=I.mo c;replace F:=F.mo c;replace J:=J.mo c
 have a6:a0s (false,[])=0:=by unfold a0s g0n;simp [a0y]
 rw [a6]
 obtain ⟨g,hg⟩:∃ g,g=if a0s j < 0 then -(Int.gcd (a0s i) (a0s j):Int) else (Int.gcd (a0s i) (a0s j):Int):=⟨_,rfl⟩
 obtain ⟨hq,a0⟩:=t0n (p:=a0s i) a1 hg
 rw [hq]
 have O:lz g < 536870912:=by rw [hg];split;rw [f0w];exact a4;exact a4
 by_cases U:a0s j < 0
 ·have a2:c0L (a0s j) 0 < 0:=by unfold c0L;rw [k1B U];omega
  simp [a2,E0o,N,b3]
  refine (e0H (i:=a0g (Int.gcd (a0s i) (a0s j))) ⟨s1,rfl,J⟩ z.1 (by rw [a0j];omega)).mo ?_
  rintro _ G2 ⟨⟨s2,rfl,k6⟩,c⟩
  replace b0:=c.bk b0;replace y:=c.bk y;replace b2:=c.bk b2;replace b3:=c.bk b3;replace z:=z.trans c;replace I:=I.mo c;replace F:=F.mo c;replace J:=J.mo c
  rw [a0h] at k6 ⊢
  rw [k1B U] at hg
  rw [<- hg] at k6 ⊢
  have Z:=a0k b3
  simp [N,b3,k6.cells,k6.plain,hsz]
  generalize e:Array.setIfInBounds _ _ _=G3
  have hsz:=z.1;replace I:=I.setS e b3 (by decide);replace F:=F.setS e b3 (by decide);replace J:=J.setS e b3 (by decide);replace k6:=k6.setS e b3 (by decide);replace b0:=a0o e b0 (by omega);replace y:=a0o e y (by omega);replace b2:=a0o e b2 (by omega);replace z:=a0I e z (by omega);replace b3:=a0r e b3;clear e hsz
  clear J
  have J:=k6
  clear k6
  obtain ⟨s1,rfl⟩:∃ s1,s1=s2:=⟨_,rfl⟩
  simp [v0n,N,b0,b3]
  refine (b0Z I ⟨s1,rfl,J⟩ z.1 hn (by rw [a0j];exact O) (by rw [a0h];exact a0)).mo ?_
  rintro _ G2 ⟨⟨_,_,rfl,⟨s3,rfl,L⟩,M⟩,c⟩
  replace b0:=c.bk b0;replace y:=c.bk y;replace b2:=c.bk b2;replace b3:=c.bk b3;replace z:=z.trans c;replace I:=I.mo c;replace F:=F.mo c;replace J:=J.mo c
  rw [a0h] at L ⊢
  have Z:=a0k b0
  simp [N,b0,L.cells,L.plain,Z]
  generalize e:Array.setIfInBounds _ _ _=G3
  have hsz:=z.1;replace I:=I.setS e b0 (by decide);replace F:=F.setS e b0 (by decide);replace J:=J.setS e b0 (by decide);replace L:=L.setS e b0 (by decide);replace M:=M.setS e b0 (by decide);replace y:=a0o e y (by omega);replace b2:=a0o e b2 (by omega);replace b3:=a0o e b3 (by omega);replace z:=a0I e z (by omega);replace b0:=a0r e b0;clear e hsz
  simp [v0o,N,y,b3]
  refine (b0Z F ⟨s1,rfl,J⟩ z.1 hm (by rw [a0j];exact O) (by rw [a0h];exact a0)).mo ?_
  rintro _ G2 ⟨⟨_,_,rfl,⟨s4,rfl,M⟩,k5⟩,c⟩
  replace b0:=c.bk b0;replace y:=c.bk y;replace b2:=c.bk b2;replace b3:=c.bk b3;replace z:=z.trans c;replace I:=I.mo c;replace F:=F.mo c;replace J:=J.mo c;replace L:=L.mo c
  rw [a0h] at M ⊢
  have Z:=a0k y
  simp [N,y,M.cells,M.plain,Z]
  generalize e:Array.setIfInBounds _ _ _=G3
  have hsz:=z.1;replace I:=I.setS e y (by decide);replace F:=F.setS e y (by decide);replace J:=J.setS e y (by decide);replace L:=L.setS e y (by decide);replace M:=M.setS e y (by decide);replace k5:=k5.setS e y (by decide);replace b0:=a0o e b0 (by omega);replace b2:=a0o e b2 (by omega);replace b3:=a0o e b3 (by omega);replace z:=a0I e z (by omega);replace y:=a0r e y;clear e hsz
  have Z:=a0k b2
  simp [v0p,N,b0,y,b2,L.cells,L.plain,M.cells,M.plain,Z]
  exact fun _=>⟨s3,s4,rfl,L.setT b2 (by decide),M.setT b2 (by decide)⟩
 ·have a2:¬ c0L (a0s j) 0 < 0:=by unfold c0L;rw [k1y U];split <;> omega
  rw [k1y U] at hg
  rw [<- hg] at J b3
  simp [a2]
  simp [v0n,N,b0,b3]
  refine (b0Z I ⟨s1,rfl,J⟩ z.1 hn (by rw [a0j];exact O) (by rw [a0h];exact a0)).mo ?_
  rintro _ G2 ⟨⟨_,_,rfl,⟨s3,rfl,L⟩,M⟩,c⟩
  replace b0:=c.bk b0;replace y:=c.bk y;replace b2:=c.bk b2;replace b3:=c.bk b3;replace z:=z.trans c;replace I:=I.mo c;replace F:=F.mo c;replace J:=J.mo c
  rw [a0h] at L ⊢
  have Z:=a0k b0
  simp [N,b0,L.cells,L.plain,Z]
  generalize e:Array.setIfInBounds _ _ _=G3
  have hsz:=z.1;replace I:=I.setS e b0 (by decide);replace F:=F.setS e b0 (by decide);replace J:=J.setS e b0 (by decide);replace L:=L.setS e b0 (by decide);replace M:=M.setS e b0 (by decide);replace y:=a0o e y (by omega);replace b2:=a0o e b2 (by omega);replace b3:=a0o e b3 (by omega);replace z:=a0I e z (by omega);replace b0:=a0r e b0;clear e hsz
  simp [v0o,N,y,b3]
  refine (b0Z F ⟨s1,rfl,J⟩ z.1 hm (by rw [a0j];exact O) (by rw [a0h];exact a0)).mo ?_
  rintro _ G2 ⟨⟨_,_,rfl,⟨s4,rfl,M⟩,k5⟩,c⟩
  replace b0:=c.bk b0;replace y:=c.bk y;replace b2:=c.bk b2;replace b3:=c.bk b3;replace z:=z.trans c;replace I:=I.mo c;replace F:=F.mo c;replace J:=J.mo c;replace L:=L.mo c
  rw [a0h] at M ⊢
  have Z:=a0k y
  simp [N,y,M.cells,M.plain,Z]
  generalize e:Array.setIfInBounds _ _ _=G3
  have hsz:=z.1;replace I:=I.setS e y (by decide);replace F:=F.setS e y (by decide);replace J:=J.setS e y (by decide);replace L:=L.setS e y (by decide);replace M:=M.setS e y (by decide);replace k5:=k5.setS e y (by decide);replace b0:=a0o e b0 (by omega);replace b2:=a0o e b2 (by omega);replace b3:=a0o e b3 (by omega);replace z:=a0I e z (by omega);replace y:=a0r e y;clear e hsz
  have Z:=a0k b2
  simp [v0p,N,b0,y,b2,L.cells,L.plain,M.cells,M.plain,Z]
  exact fun _=>⟨s3,s4,rfl,L.setT b2 (by decide),M.setT b2 (by decide)⟩
end
section
variable {fl:Nat} {H G:a0f} {R:a0D} {v w:Value} {i j:Bool × List Nat} {a b:b0b}
theorem b0L.p (h:b0L H v a):∃ s u,v=.agg #[.bool a.1.1,s,.bool a.2.1,u]/\Lim H s a.1.2/\Lim H u a.2.2/\b0g H (.agg #[.bool a.1.1,s]) a.1/\b0g H (.agg #[.bool a.2.1,u]) a.2:=by
 obtain ⟨s,u,j,c,e⟩:=h;exact ⟨s,u,j,c,e,⟨s,rfl,c⟩,⟨u,rfl,e⟩⟩
theorem b0L.ok (h:b0L H v a):b0u a.1.2/\b0u a.2.2:=by obtain ⟨s,u,_,c,e⟩:=h;exact ⟨c.ok,e.ok⟩
theorem d0B (x:Rat):lz x.num<=szR x:=by unfold szR;omega
theorem e0h (x:Rat):lz x.den<=szR x:=by unfold szR;omega
theorem i0Q (h:b0g H v i) (k:b0g H w j) (O:fl<=H.size) (Z:i.2.length < 536870912) (U:j.2.length < 536870912) (I:a0s j ≠ 0) :
  a0O env fl Z0p [v,w] H (fun r H'=>b0L H' r (a0e (Rat.divInt (a0s i) (a0s j)))/\Ext H H') R:=by
 have J:=h
 have L:=k
 obtain ⟨s,rfl,hs⟩:=h
 obtain ⟨u,rfl,hu⟩:=k
 refine a0i j1Y O (h:=?_)
 intro ρ F
 simp [f1d,U0F,F]
 generalize z:((H.push _).push _).push _=G
 have e:Ext H G:=by rw [<- z];exact (Ext.refl H).push.push.push
 have b0:a0f.bk G H.size=.row false a0a [.bool i.1,s]:=by rw [<- z];simp
 have N:a0f.bk G (H.size + 1)=.row false a0a [.bool j.1,u]:=by rw [<- z];simp
 have b2:a0f.bk G (H.size + 2)=.row false a0b [.bool false,.slice none 0 0,.bool false,.slice none 0 0]:=by rw [<- z];simp
 clear z
 replace J:=J.mo e
 replace L:=L.mo e
 simp [U0G,F,b0,N]
 refine (d0X J L e.1 Z U I).mo ?_
 rintro _ G2 ⟨⟨q,rfl,s1,s2,rfl,x,y⟩,c⟩
 replace b2:=c.bk b2;replace e:=e.trans c
 have hsz:=e.1
 simp [F,x.cells,x.plain,y.cells,y.plain,hsz]
 generalize M:Array.setIfInBounds (Array.push _ _) _ _=G3
 obtain ⟨c,b3⟩:=new1 M
 clear M
 replace b2:=c.bk b2;replace e:=e.trans c;replace x:=x.mo c;replace y:=y.mo c
 have hz:=a0k b2
 simp [U0H,F,b2,b3,x.cells,x.plain,y.cells,y.plain,hz]
 exact fun _=>⟨s1,s2,rfl,x.setT b2 (by decide),y.setT b2 (by decide)⟩
def y0X (H:a0f) (v:Value) (l:List (Bool × List Nat)):Prop :=
 ∃ cs,Sl H a0a 2 v l.length cs/\∀ k,(h:k < l.length)->b0g H (.agg ((cs.drop (k * 2)).take 2).toArray) l[k]
theorem k0Q (h:b0g H v i) (hl:b0g H w j) {c:Nat} {p:Nat} (hb:H.bk p=.row false a0a (a0W w)) (hf:fl<=H.size) (hn:i.2.length < 536870912) (hm:j.2.length < 536870912) :
  a0O env fl b1n [.func (.func B0L) #[] #[],v,.slice (some ⟨p,0,none⟩) 1 c] H (fun r H'=>b0g H' r (a0g (a0s i + a0s j))/\Ext H H') R:=by
 have k:=h
 have F:=hl
 obtain ⟨s,rfl,hs⟩:=h
 obtain ⟨u,rfl,hu⟩:=hl
 simp at hb
 refine a0i j1Z hf (h:=?_)
 intro ρ O
 have a5:=a0k hb
 simp [f1e,U0I,U0J,O,g0b]
 generalize U:(H.push _).push _=G
 have e:Ext H G:=by rw [<- U];exact (Ext.refl H).push.push
 have b0:a0f.bk G H.size=.row false a0a [.bool i.1,s]:=by rw [<- U];simp
 have q:a0f.bk G (H.size + 1)=.row false a0a [.bool false,.slice none 0 0]:=by rw [<- U];simp
 have b2:a0f.bk G p=.row false a0a [.bool j.1,u]:=e.bk hb
 have x:=e
 clear U
 replace k:=k.mo e
 replace F:=F.mo e
 clear hb
 refine b0U (fun c' t G=>∃ n:Nat,n + c' = 1/\t.length=21/\get t 0=.func (.func B0L) #[] #[]/\get t 4=.pointer (some ⟨H.size,0,none⟩)/\get t 6=.pointer (some ⟨H.size + 1,0,none⟩)/\get t 9=.slice (some ⟨p,0,none⟩) 1 c/\get t 10=.int .i64 1/\get t 11=.int .i64 (n:Int) /\
   Ext H G/\a0f.bk G (H.size + 1)=.row false a0a [.bool false,.slice none 0 0] /\
   (n=0->a0f.bk G H.size=.row false a0a [.bool i.1,s]/\a0f.bk G p=.row false a0a [.bool j.1,u]/\b0g G (.agg #[.bool i.1,s]) i/\b0g G (.agg #[.bool j.1,u]) j) /\
   (n=1->∃ I,a0f.bk G H.size=.row false a0a [.bool (a0g (a0s i + a0s j)).1,I]/\Lim G I (a0g (a0s i + a0s j)).2))
  (fun t G=>∃ I,t.length=21/\get t 4=.pointer (some ⟨H.size,0,none⟩)/\get t 6=.pointer (some ⟨H.size + 1,0,none⟩)/\Ext H G/\a0f.bk G (H.size + 1)=.row false a0a [.bool false,.slice none 0 0] /\
   a0f.bk G H.size=.row false a0a [.bool (a0g (a0s i + a0s j)).1,I]/\Lim G I (a0g (a0s i + a0s j)).2) 1 ?_ ?_ ?_
 ·exact ⟨0,rfl,by simp,by simp [O],by simp,by simp,by simp [O],by simp,by simp,x,q,fun _=>⟨b0,b2,k,F⟩,by omega⟩
 ·clear O ρ k F b0 q b2 x e G
  rintro c' t G ⟨n,a4,ht,M,J,L,N,y,z,x,q,Z,a0⟩
  obtain ⟨ρ,rfl⟩:=toT ht
  simp only [b0T,Nat.reduceLT] at M J L N y z
  by_cases a2:n=0
  ·subst a2
   obtain ⟨b0,b2,k,F⟩:=Z rfl
   have a1:=x.1
   have a3:=a0k q
   have e9:IntKind.i64.wrap ((0:Int) + 1)=1:=by decide
   simp [J0q,U0K,M,J,L,N,y,z,iaV,b2]
   have hc:(a0W (Value.agg #[.bool j.1,u])).length=2:=rfl
   simp [hu.cells,hu.plain,a1]
   generalize hN:Array.setIfInBounds (Array.push _ _) _ _=G3
   obtain ⟨e,b3⟩:=new1 hN
   clear hN
   replace b0:=e.bk b0;replace q:=e.bk q;replace b2:=e.bk b2;replace x:=x.trans e;replace k:=k.mo e;replace F:=F.mo e
   simp [U0L,U0M,M,J,L,N,y,z,b0,b3]
   refine (e0G k F x.1 hn hm).mo ?_
   rintro _ G2 ⟨⟨I,rfl,k2⟩,e⟩
   replace b0:=e.bk b0;replace q:=e.bk q;replace b2:=e.bk b2;replace x:=x.trans e;replace k:=k.mo e;replace F:=F.mo e
   have hz:=a0k b0
   simp [M,J,L,N,y,z,b0,k2.cells,k2.plain,hz,e9]
   exact ⟨0,by omega,1,rfl,rfl,x.set (by omega),q,by omega,fun _=>k2.setT b0 (by decide)⟩
  ·have:n=1:=by omega
   subst this
   obtain ⟨I,b0,k⟩:=a0 rfl
   simp [J0q,M,J,L,N,y,z]
   exact ⟨x,q,I,b0,k⟩
 ·clear O ρ k F b0 q b2 x e G
  rintro t G ⟨I,ht,J,L,x,q,b0,k⟩
  obtain ⟨ρ,rfl⟩:=toT ht
  simp only [b0T,Nat.reduceLT] at J L
  have hz:=a0k q
  simp [U0N,J,L,b0,q,k.cells,k.plain,hz]
  exact fun _=>⟨I,rfl,k.setT q (by decide)⟩
theorem b0K (h:b0L H v a) (k:b0L H w b) (hf:fl<=H.size) (hn:d0J a < 67108864) (hm:d0J b < 67108864) :
  a0O env fl u0c [v,w] H (fun r H'=>b0L H' r (a0e (b0t a + b0t b))/\Ext H H') R:=by
 have N:=h
 have q:=k
 obtain ⟨s,u,rfl,hs,hu⟩:=h
 obtain ⟨s',u',rfl,a3,a4⟩:=k
 refine a0i j1v hf (h:=?_)
 intro ρ U
 simp [e1A,S0w,U]
 generalize hG:((H.push _).push _).push _=G
 have e:Ext H G:=by rw [<- hG];exact (Ext.refl H).push.push.push
 have b0:a0f.bk G H.size=.row false a0b [.bool a.1.1,s,.bool a.2.1,u]:=by rw [<- hG];simp
 have j:a0f.bk G (H.size + 1)=.row false a0b [.bool b.1.1,s',.bool b.2.1,u']:=by rw [<- hG];simp
 have b2:a0f.bk G (H.size + 2)=.row false a0b [.bool false,.slice none 0 0,.bool false,.slice none 0 0]:=by rw [<- hG];simp
 clear hG
 replace N:=N.mo e
 replace q:=q.mo e
 have sa:=b0W N.ok.1 N.ok.2
 have sb:=b0W q.ok.1 q.ok.2
 refine a0C ?_
 simp [S0x,U,b0,j]
 refine (c0p N (by have:=e.1;omega) (by omega)).mo ?_
 rintro _ Z ⟨⟨s1,s2,rfl,F,I⟩,c⟩
 replace b0:=c.bk b0;replace j:=c.bk j;replace b2:=c.bk b2;replace e:=e.trans c;replace N:=N.mo c;replace q:=q.mo c
 simp [U,j]
 refine (c0p q e.1 (by omega)).mo ?_
 rintro _ Z ⟨⟨s3,s4,rfl,M,O⟩,c⟩
 replace b0:=c.bk b0;replace j:=c.bk j;replace b2:=c.bk b2;replace e:=e.trans c;replace N:=N.mo c;replace q:=q.mo c;replace F:=F.mo c;replace I:=I.mo c
 clear N q
 have a0:=a0k b0
 simp [U,b0,F.cells,F.plain,I.cells,I.plain,a0]
 generalize z:Array.setIfInBounds _ _ _=G3
 have hsz:=e.1;replace F:=F.setS z b0 (by decide);replace I:=I.setS z b0 (by decide);replace M:=M.setS z b0 (by decide);replace O:=O.setS z b0 (by decide);replace j:=a0o z j (by omega);replace b2:=a0o z b2 (by omega);replace e:=a0I z e (by omega);replace b0:=a0r z b0;clear z hsz
 have a0:=a0k j
 simp [j,M.cells,M.plain,O.cells,O.plain,a0]
 generalize z:Array.setIfInBounds _ _ _=G3
 have hsz:=e.1;replace F:=F.setS z j (by decide);replace I:=I.setS z j (by decide);replace M:=M.setS z j (by decide);replace O:=O.setS z j (by decide);replace b0:=a0o z b0 (by omega);replace b2:=a0o z b2 (by omega);replace e:=a0I z e (by omega);replace j:=a0r z j;clear z hsz
 obtain ⟨x,a5⟩:∃ x,x=b0t a:=⟨_,rfl⟩
 obtain ⟨y,a6⟩:∃ y,y=b0t b:=⟨_,rfl⟩
 rw [<- a5] at sa F I b0 ⊢
 rw [<- a6] at sb M O j ⊢
 have N:b0g _ (.agg #[.bool (a0e x).1.1,s1]) (a0g x.num):=⟨s1,rfl,F⟩
 have q:b0g _ (.agg #[.bool (a0e x).2.1,s2]) (a0g x.den):=⟨s2,rfl,I⟩
 have L:b0g _ (.agg #[.bool (a0e y).1.1,s3]) (a0g y.num):=⟨s3,rfl,M⟩
 have J:b0g _ (.agg #[.bool (a0e y).2.1,s4]) (a0g y.den):=⟨s4,rfl,O⟩
 have l1:=d0B x
 have l2:=e0h x
 have l3:=d0B y
 have l4:=e0h y
 clear hs hu a3 a4 F I M O
 refine a0C ?_
 simp [S0y,U,b0,j]
 refine (b0G N J (by have:=e.1;omega) (by rw [a0j];omega) (by rw [a0j];omega)).mo ?_
 rintro _ Z ⟨F,c⟩
 replace b0:=c.bk b0;replace j:=c.bk j;replace b2:=c.bk b2;replace e:=e.trans c;replace q:=q.mo c;replace L:=L.mo c;replace J:=J.mo c
 rw [a0h,a0h] at F
 simp [U,b0,j]
 refine (b0G L q (by have:=e.1;omega) (by rw [a0j];omega) (by rw [a0j];omega)).mo ?_
 rintro _ Z ⟨I,c⟩
 replace b0:=c.bk b0;replace j:=c.bk j;replace b2:=c.bk b2;replace e:=e.trans c;replace q:=q.mo c;replace F:=F.mo c;replace L:=L.mo c;replace J:=J.mo c
 rw [a0h,a0h] at I
 obtain ⟨s5,a2,a1⟩:=I
 subst a2
 simp [U,a1.cells]
 generalize hN:Array.push _ _=G3
 obtain ⟨c,b3⟩:=g0e hN
 have a7:G3.size=Z.size + 1:=by rw [<- hN];simp
 clear hN
 have I:b0g Z (.agg #[.bool (a0g (y.num * x.den)).1,s5]) (a0g (y.num * x.den)):=⟨s5,rfl,a1⟩
 replace b0:=c.bk b0;replace j:=c.bk j;replace b2:=c.bk b2;replace e:=e.trans c;replace q:=q.mo c;replace F:=F.mo c;replace I:=I.mo c;replace L:=L.mo c;replace J:=J.mo c
 have m1:=c0h x.num y.den
 have m2:=c0h y.num x.den
 refine (k0Q F I (by simpa using b3) (by have:=e.1;omega) (by rw [a0j];omega) (by rw [a0j];omega)).mo ?_
 rintro _ Z ⟨M,c⟩
 replace b0:=c.bk b0;replace j:=c.bk j;replace b2:=c.bk b2;replace e:=e.trans c;replace q:=q.mo c;replace L:=L.mo c;replace J:=J.mo c
 rw [a0h,a0h] at M
 simp [U,b0,j]
 refine (b0G q J e.1 (by rw [a0j];omega) (by rw [a0j];omega)).mo ?_
 rintro _ Z ⟨O,c⟩
 replace b2:=c.bk b2;replace e:=e.trans c;replace M:=M.mo c;replace L:=L.mo c;replace J:=J.mo c
 rw [a0h,a0h] at O
 simp [U]
 have m3:=h0s (x.num * y.den) (y.num * x.den)
 have m4:=c0h (x.den:Int) y.den
 refine (i0Q M O e.1 (by rw [a0j];omega) (by rw [a0j];omega) (by rw [a0h];have:=x.den_nz;have:=y.den_nz;exact m1Y (by omega) (by omega))).mo ?_
 rintro _ Z ⟨⟨s6,s7,rfl,L,J⟩,c⟩
 replace b2:=c.bk b2;replace e:=e.trans c
 rw [a0h,a0h,<- k0q] at L J ⊢
 have hz:=a0k b2
 simp [U,b2,L.cells,L.plain,J.cells,J.plain,hz]
 exact fun _=>⟨s6,s7,rfl,L.setT b2 (by decide),J.setT b2 (by decide)⟩
theorem f0D (h:b0L H v a) (k:b0L H w b) (hf:fl<=H.size) (hn:d0J a < 67108864) (hm:d0J b < 67108864) :
  a0O env fl O0b [v,w] H (fun r H'=>b0L H' r (a0e (b0t a * b0t b))/\Ext H H') R:=by
 have I:=h
 have F:=k
 obtain ⟨s,u,rfl,hs,hu⟩:=h
 obtain ⟨s',u',rfl,a0,a1⟩:=k
 refine a0i j1T hf (h:=?_)
 intro ρ U
 simp [e1Y,U0n,U]
 generalize hG:((H.push _).push _).push _=G
 have e:Ext H G:=by rw [<- hG];exact (Ext.refl H).push.push.push
 have b0:a0f.bk G H.size=.row false a0b [.bool a.1.1,s,.bool a.2.1,u]:=by rw [<- hG];simp
 have j:a0f.bk G (H.size + 1)=.row false a0b [.bool b.1.1,s',.bool b.2.1,u']:=by rw [<- hG];simp
 have b2:a0f.bk G (H.size + 2)=.row false a0b [.bool false,.slice none 0 0,.bool false,.slice none 0 0]:=by rw [<- hG];simp
 clear hG
 replace I:=I.mo e
 replace F:=F.mo e
 have sa:=b0W I.ok.1 I.ok.2
 have sb:=b0W F.ok.1 F.ok.2
 refine a0C ?_
 simp [U0o,U,b0,j]
 refine (c0p I (by have:=e.1;omega) (by omega)).mo ?_
 rintro _ G2 ⟨⟨s1,s2,rfl,z,L⟩,c⟩
 replace b0:=c.bk b0;replace j:=c.bk j;replace b2:=c.bk b2;replace e:=e.trans c;replace I:=I.mo c;replace F:=F.mo c
 simp [U,j]
 refine (c0p F e.1 (by omega)).mo ?_
 rintro _ G2 ⟨⟨s3,s4,rfl,O,J⟩,c⟩
 replace b0:=c.bk b0;replace j:=c.bk j;replace b2:=c.bk b2;replace e:=e.trans c;replace I:=I.mo c;replace F:=F.mo c;replace z:=z.mo c;replace L:=L.mo c
 clear I F
 have Z:=a0k b0
 simp [U,b0,z.cells,z.plain,L.cells,L.plain,Z]
 generalize q:Array.setIfInBounds _ _ _=G3
 have hsz:=e.1;replace z:=z.setS q b0 (by decide);replace L:=L.setS q b0 (by decide);replace O:=O.setS q b0 (by decide);replace J:=J.setS q b0 (by decide);replace j:=a0o q j (by omega);replace b2:=a0o q b2 (by omega);replace e:=a0I q e (by omega);replace b0:=a0r q b0;clear q hsz
 have Z:=a0k j
 simp [j,O.cells,O.plain,J.cells,J.plain,Z]
 generalize q:Array.setIfInBounds _ _ _=G3
 have hsz:=e.1;replace z:=z.setS q j (by decide);replace L:=L.setS q j (by decide);replace O:=O.setS q j (by decide);replace J:=J.setS q j (by decide);replace b0:=a0o q b0 (by omega);replace b2:=a0o q b2 (by omega);replace e:=a0I q e (by omega);replace j:=a0r q j;clear q hsz
 obtain ⟨x,a2⟩:∃ x,x=b0t a:=⟨_,rfl⟩
 obtain ⟨y,a3⟩:∃ y,y=b0t b:=⟨_,rfl⟩
 rw [<- a2] at sa z L b0 ⊢
 rw [<- a3] at sb O J j ⊢
 have I:b0g _ (.agg #[.bool (a0e x).1.1,s1]) (a0g x.num):=⟨s1,rfl,z⟩
 have F:b0g _ (.agg #[.bool (a0e x).2.1,s2]) (a0g x.den):=⟨s2,rfl,L⟩
 have M:b0g _ (.agg #[.bool (a0e y).1.1,s3]) (a0g y.num):=⟨s3,rfl,O⟩
 have N:b0g _ (.agg #[.bool (a0e y).2.1,s4]) (a0g y.den):=⟨s4,rfl,J⟩
 have l1:=d0B x
 have l2:=e0h x
 have l3:=d0B y
 have l4:=e0h y
 clear hs hu a0 a1 z L O J
 refine a0C ?_
 simp [U0p,U,b0,j]
 refine (b0G I M (by have:=e.1;omega) (by rw [a0j];omega) (by rw [a0j];omega)).mo ?_
 rintro _ G2 ⟨z,c⟩
 replace b0:=c.bk b0;replace j:=c.bk j;replace b2:=c.bk b2;replace e:=e.trans c;replace F:=F.mo c;replace M:=M.mo c;replace N:=N.mo c
 rw [a0h,a0h] at z
 simp [U,b0,j]
 refine (b0G F N e.1 (by rw [a0j];omega) (by rw [a0j];omega)).mo ?_
 rintro _ G2 ⟨J,c⟩
 replace b2:=c.bk b2;replace e:=e.trans c;replace z:=z.mo c;replace M:=M.mo c;replace N:=N.mo c
 rw [a0h,a0h] at J
 simp [U]
 have m3:=c0h x.num y.num
 have m4:=c0h (x.den:Int) y.den
 refine (i0Q z J e.1 (by rw [a0j];omega) (by rw [a0j];omega) (by rw [a0h];have:=x.den_nz;have:=y.den_nz;exact m1Y (by omega) (by omega))).mo ?_
 rintro _ G2 ⟨⟨s6,s7,rfl,M,N⟩,c⟩
 replace b2:=c.bk b2;replace e:=e.trans c
 rw [a0h,a0h,<- k0C] at M N ⊢
 have hz:=a0k b2
 simp [U,b2,M.cells,M.plain,N.cells,N.plain,hz]
 exact fun _=>⟨s6,s7,rfl,M.setT b2 (by decide),N.setT b2 (by decide)⟩
theorem c0o {n:Int} (x:fl<=H.size) (u:-9223372036854775808<=n) (v:n < 9223372036854775808) :
  a0O env fl x0e [.int .i64 n] H (fun r H'=>b0L H' r (a0e (n:Rat))/\Ext H H') R:=by
 refine a0i j1P x (h:=?_)
 intro ρ k
 simp [e1U,U0a,U0b,k]
 have e:=(Ext.refl H).push (r:=.row false a0b [.bool false,.slice none 0 0,.bool false,.slice none 0 0])
 have b2:a0f.bk (Array.push H (.row false a0b [.bool false,.slice none 0 0,.bool false,.slice none 0 0])) H.size=_:=a0G
 generalize Array.push H _=G at *
 refine (c0C e.1 u v).mo ?_
 rintro _ s ⟨⟨z,rfl,j⟩,c⟩
 replace b2:=c.bk b2;replace e:=e.trans c
 simp [k]
 refine (f0E e.1).mo ?_
 rintro _ s ⟨⟨F,rfl,q⟩,c⟩
 replace b2:=c.bk b2;replace e:=e.trans c;replace j:=j.mo c
 have y:=a0k b2
 simp [k,b2,j.cells,j.plain,q.cells,q.plain,y]
 refine fun _=>⟨z,F,?_,?_,?_⟩
 ·unfold a0e;rw [n1h,n1g];rfl
 ·unfold a0e;rw [n1h];exact j.setT b2 (by decide)
 ·unfold a0e;rw [n1g];exact q.setT b2 (by decide)
end
section
variable {fl:Nat} {H G:a0f} {R:a0D} {v w:Value} {a b:b0b}
abbrev c0f:=Int × b0b
def g0L (H:a0f) (v:Value) (e:c0f):Prop:=∃ s u,v=.agg #[.int .i64 e.1,.bool e.2.1.1,s,.bool e.2.2.1,u]/\Lim H s e.2.1.2/\Lim H u e.2.2.2
variable {e f:c0f}
theorem g0L.mo (h:g0L H v e) (c:Ext H G):g0L G v e:=by obtain ⟨s,u,j,k,q⟩:=h;exact ⟨s,u,j,k.mo c,q.mo c⟩
theorem g0L.setT (h:g0L H v e) {p:Nat} {ro:Bool} {e':TypeId} {j:List Value} {r:Blk} (hb:H.bk p=.row ro e' j) (c:e' ≠ a0l):g0L (H.setIfInBounds p r) v e:=by
 obtain ⟨s,u,k,q,x⟩:=h;exact ⟨s,u,k,q.setT hb c,x.setT hb c⟩
theorem g0L.setS {G3:a0f} {q:Nat} {X:Blk} {ro:Bool} {e':TypeId} {cs:List Value} (k:g0L H v e) (h:Array.setIfInBounds H q X=G3) (hb:a0f.bk H q=.row ro e' cs) (c:e' ≠ a0l):g0L G3 v e:=by rw [<- h];exact k.setT hb c
theorem g0L.ok (h:g0L H v e):b0u e.2.1.2/\b0u e.2.2.2:=by obtain ⟨s,u,_,c,j⟩:=h;exact ⟨c.ok,j.ok⟩
def i0K (e:c0f):Bool:=if e.1 = -1 ∨ e.1=1 then d0T e.2 else if e.1=0 then o0b e.2 else false
def g0f (e:c0f):Int × Rat:=if i0K e then (if e.1=0 then (0,b0t e.2) else (e.1,0)) else (0,0)
def c0g (x:Int × Rat):c0f:=if x.1=0 then (0,a0e x.2) else (x.1,((false,[]),(false,[])))
def u0r (x y:Int × Rat):Int:=if x.1 < y.1 then -1 else if x.1 > y.1 then 1 else if x.1 ≠ 0 then 0 else Y0U x.2 y.2
def c0z:b0b:=((false,[]),(false,[]))
theorem i0i:d0T c0z=true:=rfl
theorem f0o:b0t c0z=0:=by unfold b0t;rw [i0i];rfl
theorem f0k:b0L H (.agg #[.bool false,.slice none 0 0,.bool false,.slice none 0 0]) c0z:=⟨_,_,rfl,Lim.nil,Lim.nil⟩
theorem j0C (h:b0L H v a) (q:fl<=H.size):a0O env fl B0p [v] H (fun r H'=>r=.bool (d0T a)/\Ext H H') R:=by
 obtain ⟨s,u,rfl,hs,x⟩:=h
 refine a0i g1r q (h:=?_)
 intro ρ j
 simp [M0t,D0f,j]
 have c:=hs.slen
 have e:=x.slen
 cases h1:a.1.1
 ·by_cases k:a.1.2=[]
  ·cases h3:a.2.1
   ·simp [n0z,j,h1,k,h3,c,e,d0T]
   ·simp [n0z,j,h1,k,h3,c,e,d0T]
  ·simp [n0z,j,h1,k,c,e,d0T]
 ·simp [n0z,j,h1,c,e,d0T]
theorem l0g (h:g0L H v e) (J:fl<=H.size) (M:d0J e.2 < 67108864):a0O env fl Z0n [v] H (fun r H'=>r=.bool (i0K e)/\Ext H H') R:=by
 obtain ⟨s,u,rfl,hs,L⟩:=h
 have q:b0L H (.agg #[.bool e.2.1.1,s,.bool e.2.2.1,u]) e.2:=⟨s,u,rfl,hs,L⟩
 refine a0i j1L J (h:=?_)
 intro ρ j
 simp [e1Q,T0L,T0M,T0N,j]
 generalize I:H.push _=G
 obtain ⟨c,b0⟩:=g0e I
 have k:=Ext.refl H
 clear I
 replace k:=k.trans c;replace q:=q.mo c
 unfold i0K
 by_cases y:e.1 = -1
 ·simp [y,J0j,j,b0]
  refine (j0C q k.1).mo ?_
  rintro _ x ⟨rfl,c⟩
  simp
 ·by_cases z:e.1=1
  ·simp [z,y0B,J0j,j,b0]
   refine (j0C q k.1).mo ?_
   rintro _ x ⟨rfl,c⟩
   simp
  ·by_cases F:e.1=0
   ·simp [F,y0B,J0k,T0O,j,b0]
    refine (h0L q k.1 (by omega)).mo ?_
    rintro _ x ⟨rfl,c⟩
    simp
   ·simp [y,z,F,y0B,J0k,T0P,j,b0]
theorem g0h (h:b0L H v a) (F:fl<=H.size) (I:d0J a < 67108864):a0O env fl N0Z [v] H (fun r H'=>g0L H' r (0,a0e (b0t a))/\Ext H H') R:=by
 have y:=h
 obtain ⟨s,u,rfl,hs,O⟩:=h
 refine a0i i1Z F (h:=?_)
 intro ρ z
 simp [e1e,Q0k,Q0l,z]
 generalize k:(H.push _).push _=G
 have c:Ext H G:=by rw [<- k];exact (Ext.refl H).push.push
 have b0:a0f.bk G H.size=.row false a0b [.bool a.1.1,s,.bool a.2.1,u]:=by rw [<- k];simp
 have e:a0f.bk G (H.size + 1)=.row false a0Z [.int .i64 0,.bool false,.slice none 0 0,.bool false,.slice none 0 0]:=by rw [<- k];simp
 have j:=Ext.refl H
 clear k
 replace j:=j.trans c;replace y:=y.mo c
 try simp [b0]
 refine (b0K y (b:=c0z) f0k j.1 I (by decide)).mo ?_
 rintro _ N ⟨⟨L,M,rfl,q,x⟩,c⟩
 replace e:=c.bk e;replace j:=j.trans c
 rw [f0o,m1q] at q x ⊢
 have J:=a0k e
 simp [z,e,q.cells,q.plain,x.cells,x.plain,J]
 exact fun _=>⟨L,M,rfl,q.setT e (by decide),x.setT e (by decide)⟩
theorem o0j (h:g0L H v e) (Z:fl<=H.size) (U:d0J e.2 < 67108864):a0O env fl b1b [v] H (fun r H'=>g0L H' r (c0g (g0f e))/\Ext H H') R:=by
 have J:=h
 obtain ⟨s,u,rfl,hs,hu⟩:=h
 have z:b0L H (.agg #[.bool e.2.1.1,s,.bool e.2.2.1,u]) e.2:=⟨s,u,rfl,hs,hu⟩
 refine a0i j1u Z (h:=?_)
 intro ρ y
 simp [e1z,S0r,y]
 generalize I:(H.push _).push _=G
 have c:Ext H G:=by rw [<- I];exact (Ext.refl H).push.push
 have b0:a0f.bk G H.size=.row false a0Z [.int .i64 e.1,.bool e.2.1.1,s,.bool e.2.2.1,u]:=by rw [<- I];simp
 have j:a0f.bk G (H.size + 1)=.row false a0Z [.int .i64 0,.bool false,.slice none 0 0,.bool false,.slice none 0 0]:=by rw [<- I];simp
 have k:=Ext.refl H
 clear I
 replace k:=k.trans c;replace J:=J.mo c;replace z:=z.mo c
 simp [S0s,y,b0]
 refine (l0g J k.1 U).mo ?_
 rintro _ N ⟨rfl,c⟩
 replace b0:=c.bk b0;replace j:=c.bk j;replace k:=k.trans c;replace z:=z.mo c
 unfold g0f
 cases hm:i0K e
 ·simp [S0t,y]
  refine (g0h (a:=c0z) f0k k.1 (by decide)).mo ?_
  rintro _ N ⟨⟨L,M,rfl,q,x⟩,c⟩
  replace b0:=c.bk b0;replace j:=c.bk j;replace k:=k.trans c;replace z:=z.mo c
  rw [f0o] at q x ⊢
  have F:=a0k j
  simp [y,j,q.cells,q.plain,x.cells,x.plain,F,c0g]
  exact fun _=>⟨L,M,rfl,q.setT j (by decide),x.setT j (by decide)⟩
 ·by_cases O:e.1=0
  ·simp [O,I0X,S0u,y,b0]
   refine (g0h z k.1 U).mo ?_
   rintro _ N ⟨⟨L,M,rfl,q,x⟩,c⟩
   replace b0:=c.bk b0;replace j:=c.bk j;replace k:=k.trans c
   have F:=a0k j
   simp [y,j,q.cells,q.plain,x.cells,x.plain,F,c0g]
   exact fun _=>⟨L,M,rfl,q.setT j (by decide),x.setT j (by decide)⟩
  ·have F:=a0k j
   simp [O,I0X,S0v,y,b0,j,F,c0g]
   exact fun _=>⟨_,_,rfl,Lim.nil,Lim.nil⟩
theorem s0R (h:g0L H v e):d0J (c0g (g0f e)).2<=max (d0J e.2) 1:=by
 unfold g0f c0g
 have k:=b0W h.ok.1 h.ok.2
 by_cases c:i0K e=true
 ·by_cases j:e.1=0
  ·simp [c,j,a0E];omega
  ·simp [c,j,d0J]
 ·simp [c,a0E,f0H];omega
end
section
def u0J (b2 b:Nat) (A:b0c->a0f->Prop) (Z:b0c->a0f->Prop) (Q:e0c):e0c
 | .normal,t,H=>A t H
 | .exit j,t,H=>if j=b2 then A t H else if j=b then Z t H else Q (.exit j) t H
 | .ret,t,H=>Q .ret t H
section
variable {b2 b:Nat} {A Z:b0c->a0f->Prop} {Q:e0c} {t:b0c} {H:a0f}
@[simp] theorem X0l:u0J b2 b A Z Q .normal t H=A t H:=nr rfl
@[simp] theorem b1t {j:Nat}:u0J b2 b A Z Q (.exit j) t H=if j=b2 then A t H else if j=b then Z t H else Q (.exit j) t H:=nr rfl
@[simp] theorem d1F:u0J b2 b A Z Q .ret t H=Q .ret t H:=nr rfl
end
def Rnd (nt ti tn n i:Nat) (Inv:Nat->(Nat->Value)->a0f->Prop) (t:b0c) (H:a0f):Prop :=
 ∃ ρ,t=T nt ρ/\ρ ti=.int .i64 (i:Int)/\ρ tn=.int .i64 (n:Int)/\Inv (i + 1) ρ H
theorem Rnd.mk {nt c e n i:Nat} {Inv:Nat->(Nat->Value)->a0f->Prop} {ρ:Nat->Value} {H:a0f} (h:ρ c=.int .i64 (i:Int)) (j:ρ e=.int .i64 (n:Int)) (k:Inv (i + 1) ρ H):Rnd nt c e n i Inv (T nt ρ) H:=⟨ρ,rfl,h,j,k⟩
theorem d0b {E:Env} {fl nt c q tc F b b2 n:Nat} {body:SCode} {Z:b0c->a0f->Prop} {Q:e0c} {R:a0D} {ρ:Nat->Value} {H:a0f} {rc rx:List a0J} (Inv:Nat->(Nat->Value)->a0f->Prop)
  (O:rc=[⟨some tc,none,.bin 0 .lss (.tmp c) (.tmp q)⟩]) (U:rx=[⟨some F,none,.bin 0 .add (.tmp c) (.const (.int .i64 1))⟩,⟨some c,none,.mv (.tmp F)⟩])
  (hl:c < nt/\q < nt/\tc < nt/\F < nt/\tc ≠ c/\tc ≠ q/\F ≠ c/\F ≠ q/\c ≠ q) (hn:n < 4611686018427387904)
  (h0:ρ c=.int .i64 0) (hN:ρ q=.int .i64 (n:Int)) (J:Inv 0 ρ H)
  (z:∀ i (ρ x:Nat->Value) H,(∀ k,k ≠ tc->k ≠ F->k ≠ c->x k=ρ k)->Inv i ρ H->Inv i x H)
  (step:∀ i ρ H,i < n->ρ c=.int .i64 (i:Int)->ρ q=.int .i64 (n:Int)->Inv i ρ H->W E fl body (T nt ρ) H (u0J b2 b (Rnd nt c q n i Inv) Z Q) R)
  (rest:∀ ρ H,ρ c=.int .i64 (n:Int)->ρ q=.int .i64 (n:Int)->Inv n ρ H->Z (T nt ρ) H) :
  W E fl (.loop (.seq (.reg rc) (.seq (.cond (.tmp tc) .skip (.exit b)) (.seq (.block b2 body) (.reg rx))))) (T nt ρ) H (f0g b (h0P Z Q)) R:=by
 subst O U
 obtain ⟨l1,l2,l3,l4,n1,n2,n3,n4,n5⟩:=hl
 refine b0U (fun k t G=>∃ i ρ,i + k=n/\t=T nt ρ/\ρ c=.int .i64 (i:Int)/\ρ q=.int .i64 (n:Int)/\Inv i ρ G) Z n ?_ ?_ (fun _ _ h=>h)
 ·exact ⟨0,ρ,by omega,rfl,h0,hN,J⟩
 ·clear h0 hN J ρ H
  rintro k t G ⟨i,ρ,a0,rfl,L,M,J⟩
  have e9:IntKind.i64.wrap ((i:Int) + 1)=((i + 1:Nat):Int):=by rw [a0S (by omega) (by omega)];omega
  have s:∀ v,Inv i (upd ρ tc v) G:=fun v=>z i ρ _ G (fun k h1 _ _=>k0l (m1m h1)) J
  refine g0U (l0z ?_)
  simp only [m0f,A0R,i0J,b0T l1,b0T l2,L,M,L0g,q0N,A0Q,d0l,X0D]
  by_cases hi:i < n
  ·have hs:=step i (upd ρ tc (.bool true)) G hi (by rw [k0l n1];exact L) (by rw [k0l n2];exact M) (s _)
   have N:decide ((i:Int) < (n:Int))=true:=by rw [l1k];omega
   rw [N]
   refine g0U (j0w true (by rw [i0J,b0T l3,l0Y]) (fun _=>s0j ?_) (by simp))
   refine g0U (m0h ?_)
   have y:∀ t' H',Rnd nt c q n i Inv t' H'->WR E fl [⟨some F,none,.bin 0 .add (.tmp c) (.const (.int .i64 1))⟩,⟨some c,none,.mv (.tmp F)⟩] t' H' (fun t' H'=>∃ k',k' < k/\∃ i ρ,i + k' = n/\t' = T nt ρ/\ρ c=.int .i64 (i:Int)/\ρ q=.int .i64 (n:Int)/\Inv i ρ H') R:=by
    rintro t' H' ⟨x,rfl,q1,q2,q3⟩
    simp only [m0f,A0R,K0T,i0J,L0r,b0T l1,q1,L0e,e9,q0N,A0Q,X0D,b0T l4,l0Y]
    refine ⟨k - 1,by omega,i + 1,_,by omega,rfl,l0Y,?_,?_⟩
    ·rw [k0l n5,k0l n4];exact q2
    ·exact z (i + 1) x _ H' (fun k h1 h2 h3=>by rw [k0l (m1m h3),k0l (m1m h2)]) q3
   refine hs.mo fun e t' H' u=>?_
   cases e with
   | normal=>exact l0z (y _ _ u)
   | exit j =>
    simp only [u0J] at u
    show (if j=b2 then _ else _)
    by_cases hj:j=b2
    ·rw [k1B hj] at u ⊢;exact l0z (y _ _ u)
    ·rw [k1y hj] at u ⊢
     show (if j=b then _ else _)
     by_cases I:j=b
     ·rw [k1B I] at u ⊢;exact u
     ·rw [k1y I] at u ⊢;exact u
   | ret=>exact u
  ·have:i=n:=by omega
   subst this
   have N:decide ((i:Int) < (i:Int))=false:=by simp
   rw [N]
   refine g0U (j0w false (by rw [i0J,b0T l3,l0Y]) (by simp) (fun _=>s0i ?_))
   show (if b=b then _ else _)
   rw [k1B rfl]
   exact rest _ _ (by rw [k0l n1];exact L) (by rw [k0l n2];exact M) (s _)
theorem k0V {Q:e0c}:h0P (fun t H=>Q .normal t H) Q=Q:=by
 funext e t H;cases e <;> rfl
theorem o0O {E:Env} {fl nt c e tc h b b2 n:Nat} {body:SCode} {Q:e0c} {R:a0D} {ρ:Nat->Value} {H:a0f} {rc rx:List a0J} (Inv:Nat->(Nat->Value)->a0f->Prop)
  (s:rc=[⟨some tc,none,.bin 0 .lss (.tmp c) (.tmp e)⟩]) (u:rx=[⟨some h,none,.bin 0 .add (.tmp c) (.const (.int .i64 1))⟩,⟨some c,none,.mv (.tmp h)⟩])
  (z:c < nt/\e < nt/\tc < nt/\h < nt/\tc ≠ c/\tc ≠ e/\h ≠ c/\h ≠ e/\c ≠ e) (F:n < 4611686018427387904)
  (v:ρ c=.int .i64 0) (y:ρ e=.int .i64 (n:Int)) (x:Inv 0 ρ H)
  (j:∀ i (ρ q:Nat->Value) H,(∀ k,k ≠ tc->k ≠ h->k ≠ c->q k=ρ k)->Inv i ρ H->Inv i q H)
  (step:∀ i ρ H,i < n->ρ c=.int .i64 (i:Int)->ρ e=.int .i64 (n:Int)->Inv i ρ H->W E fl body (T nt ρ) H (u0J b2 b (Rnd nt c e n i Inv) (fun t H=>Q .normal t H) Q) R)
  (rest:∀ ρ H,ρ c=.int .i64 (n:Int)->ρ e=.int .i64 (n:Int)->Inv n ρ H->Q .normal (T nt ρ) H) :
  W E fl (.loop (.seq (.reg rc) (.seq (.cond (.tmp tc) .skip (.exit b)) (.seq (.block b2 body) (.reg rx))))) (T nt ρ) H (f0g b Q) R:=by
 rw [<- k0V (Q:=Q)]
 exact d0b (Z:=fun t H=>Q .normal t H) (Q:=Q) Inv s u z F v y x j step rest
def Sls {α:Type} (P:a0f->List Value->α->Prop) (H:a0f) (e sz:Nat) (v:Value) (l:List α):Prop :=
 ∃ cs,Sl H e sz v l.length cs/\∀ k (h:k < l.length),P H ((cs.drop (k * sz)).take sz) l[k]
def i0U {α:Type} (P:a0f->List Value->α->Prop):Prop:=∀ H G cs x,Ext H G->P H cs x->P G cs x
section
variable {α:Type} {P:a0f->List Value->α->Prop} {H G:a0f} {e sz:Nat} {v:Value} {l:List α}
theorem Sls.mo (s:i0U P) (h:Sls P H e sz v l) (c:Ext H G):Sls P G e sz v l:=by
 obtain ⟨cs,j,q⟩:=h;exact ⟨cs,j.mo c,fun k u=>s _ _ _ _ c (q k u)⟩
theorem Sls.slen (h:Sls P H e sz v l):g0b v=some (.int .i64 l.length):=by obtain ⟨cs,c,_⟩:=h;exact c.slen
theorem Sls.ia (h:Sls P H e sz v l) {k:IntKind} {j:Nat} (q:j < l.length):iaV sz v (.int k j)=some (adr sz v j):=by obtain ⟨cs,c,_⟩:=h;exact c.ia q
theorem Sls.load (h:Sls P H e sz v l) {j:Nat} (c:j < l.length) (hs:0 < sz):∃ cs,b0v H true sz (adr sz v j)=some (.agg cs.toArray)/\cs.length=sz/\P H cs l[j]:=by
 obtain ⟨cs,k,q⟩:=h
 refine ⟨_,k.load (Ext.refl H) c hs,?_,q j c⟩
 have:=k.1
 have:(j + 1) * sz<=l.length * sz:=k1E _ c
 rw [k1R,l1l] at this
 simp;omega
theorem Sls.load1 (h:Sls P H e 1 v l) {j:Nat} (s:j < l.length):∃ w,b0v H false 1 (adr 1 v j)=some w/\P H [w] l[j]:=by
 obtain ⟨cs,k,x⟩:=h
 refine ⟨_,k.load1 (Ext.refl H) s,?_⟩
 have q:=x j s
 have y:=k.1
 have:(cs.drop (j * 1)).take 1=[cs.getD j undef]:=by
  have c:j < cs.length:=by omega
  have u:cs.getD j undef=cs[j]:=by simp [k1v,c]
  rw [l1H,l1q c,u];rfl
 rw [this] at q;exact q
theorem Sls.cells (h:Sls P H e sz v l):a0W v=[v]:=by obtain ⟨cs,c,_⟩:=h;exact c.cells
theorem Sls.plain (h:Sls P H e sz v l):a0v v=true:=by obtain ⟨cs,c,_⟩:=h;exact c.plain
theorem Sls.nil:Sls P H e sz (.slice none 0 0) ([]:List α):=⟨[],Sl.nil,fun k c=>by simp at c⟩
end
def b0d {α:Type} (P:a0f->List Value->α->Prop) (fl:Nat) (H:a0f) (e sz:Nat) (v:Value) (l:List α):Prop :=
 ∃ cs,Own fl H e sz v l.length cs/\∀ k (h:k < l.length),P H ((cs.drop (k * sz)).take sz) l[k]
section
variable {α:Type} {P:a0f->List Value->α->Prop} {H G:a0f} {fl e sz:Nat} {v:Value} {l:List α}
theorem b0d.sls (h:b0d P fl H e sz v l):Sls P H e sz v l:=by obtain ⟨cs,c,j⟩:=h;exact ⟨cs,c.sl,j⟩
theorem b0d.mo (s:i0U P) (h:b0d P fl H e sz v l) (c:Ext H G):b0d P fl G e sz v l:=by
 obtain ⟨cs,j,q⟩:=h;exact ⟨cs,j.mo c,fun k u=>s _ _ _ _ c (q k u)⟩
theorem b0d.nil:b0d P fl H e sz (.slice none 0 0) ([]:List α):=⟨[],Own.nil,fun k c=>by simp at c⟩
theorem b0d.slen (h:b0d P fl H e sz v l):g0b v=some (.int .i64 l.length):=h.sls.slen
def Lx (H G:a0f):Prop:=∀ b ro cs,H.bk b=.row ro a0l cs->G.bk b=.row ro a0l cs
theorem b0d.lx (h:b0d P fl G e sz v l) (k:e ≠ a0l) {G':a0f} (c:d0o (slB v) G G'):Lx G G':=by
 intro b ro cs hb
 obtain ⟨j,⟨q,⟨rfl,_⟩ | ⟨p,cap,rfl,hp,_⟩⟩,_⟩:=h
 ·rw [c.2 b (a0k hb) (by simp [slB])];exact hb
 ·rw [c.2 b (a0k hb) (by simp [slB];rintro rfl;rw [hp] at hb;cases hb;exact k rfl)];exact hb
theorem b0d.app (H:e ≠ a0l) (F:∀ G' cs x,d0o (slB v) G G'->Lx G G'->P G cs x->P G' cs x) (h:b0d P fl G e sz v l) {e2 c bytes:Nat} {new:List Value} {x:α} (Z:P G new x) (I:new.length=sz) (hp:new.all a0v=true) (U:l.length < 1073741824) (hb:bytes<=1024) (hs:0 < sz) (y:fl<=G.size) :
  ∃ v' G',i0H fl (G.push (.row false e2 new)) e sz bytes v (.slice (some ⟨G.size,0,none⟩) 1 c)=some (v',G')/\b0d P fl G' e sz v' (l ++ [x])/\d0o (slB v) G G'/\(∀ H0,H0.size<=fl->Ext H0 G->Ext H0 G'):=by
 obtain ⟨cs,s,u⟩:=h
 obtain ⟨v',G',J,L,q,M⟩:=e0m (e2:=e2) (c:=c) s I hp U hb hs y (bytes:=bytes)
 refine ⟨v',G',J,⟨cs ++ new,by simpa using L,fun k R=>?_⟩,q,M⟩
 have O:=s.1
 by_cases j:k < l.length
 ·have N:(k + 1) * sz<=l.length * sz:=k1E _ j
  rw [k1R,l1l] at N
  rw [l1s j,l1M (by omega),m1c (by simp;omega)]
  exact F _ _ _ q (b0d.lx ⟨cs,s,u⟩ H q) (u k j)
 ·have z:k=l.length:=by simp at R;omega
  subst z
  rw [k1X (k1x _),l1M (by omega),l1V (by omega),l1Z,<- I,k1M]
  simpa using F _ _ _ q (b0d.lx ⟨cs,s,u⟩ H q) Z
end
theorem Lim.lx {H G:a0f} {v:Value} {l:List Nat} (h:Lim H v l) (q:Lx H G):Lim G v l:=by
 obtain ⟨⟨j,k | ⟨b,off,cap,ro,cells,rfl,hb,ho,c⟩⟩,e⟩:=h
 ·exact ⟨⟨j,.inl k⟩,e⟩
 ·exact ⟨⟨j,.inr ⟨b,off,cap,ro,cells,rfl,q _ _ _ hb,ho,c⟩⟩,e⟩
theorem b0L.lx {H G:a0f} {v:Value} {a:b0b} (h:b0L H v a) (c:Lx H G):b0L G v a:=by obtain ⟨s,u,e,j,k⟩:=h;exact ⟨s,u,e,j.lx c,k.lx c⟩
theorem g0L.lx {H G:a0f} {v:Value} {e:c0f} (h:g0L H v e) (c:Lx H G):g0L G v e:=by obtain ⟨s,u,j,k,q⟩:=h;exact ⟨s,u,j,k.lx c,q.lx c⟩
end
section
variable {fl:Nat} {H G:a0f} {R:a0D} {v w:Value}
def PR (H:a0f) (cs:List Value) (a:b0b):Prop:=b0L H (.agg cs.toArray) a
def PE (H:a0f) (cs:List Value) (e:c0f):Prop:=g0L H (.agg cs.toArray) e
theorem a0K:i0U PR:=fun _ _ _ _ c h=>b0L.mo h c
theorem c0q:i0U PE:=fun _ _ _ _ c h=>g0L.mo h c
abbrev b0r (H:a0f) (v:Value) (l:List b0b):Prop:=Sls PR H a0b 4 v l
abbrev e0i (H:a0f) (v:Value) (l:List c0f):Prop:=Sls PE H a0Z 5 v l
def PS (H:a0f) (cs:List Value) (l:List b0b):Prop:=∃ v,cs=[v]/\b0r H v l
theorem d0u:i0U PS:=fun _ _ _ _ h ⟨v,c,e⟩=>⟨v,c,e.mo a0K h⟩
abbrev e0U (H:a0f) (v:Value) (l:List (List b0b)):Prop:=Sls PS H a0N 1 v l
theorem b0r.load {l:List b0b} (h:b0r H v l) {j:Nat} (k:j < l.length):∃ w,b0v H true 4 (adr 4 v j)=some w/\b0L H w l[j]:=by
 obtain ⟨cs,c,_,e⟩:=Sls.load h k (by omega);exact ⟨_,c,e⟩
theorem e0i.load {l:List c0f} (h:e0i H v l) {j:Nat} (k:j < l.length):∃ w,b0v H true 5 (adr 5 v j)=some w/\g0L H w l[j]:=by
 obtain ⟨cs,c,_,e⟩:=Sls.load h k (by omega);exact ⟨_,c,e⟩
theorem e0U.load {l:List (List b0b)} (h:e0U H v l) {j:Nat} (q:j < l.length):∃ w,b0v H false 1 (adr 1 v j)=some w/\b0r H w l[j]:=by
 obtain ⟨w,e,w',c,k⟩:=Sls.load1 h q
 simp at c;subst c;exact ⟨_,e,k⟩
def f0Q (a b:List b0b):Nat->Rat
 | 0=>0
 | n + 1=>f0Q a b n + b0t (a.getD n c0z) * b0t (b.getD n c0z)
def Few (S:Nat) (l:List b0b):Prop:=∀ x ∈ l,d0J x<=S/\b0u x.1.2/\b0u x.2.2
theorem Few.sz {S:Nat} {l:List b0b} (h:Few S l) (n:Nat):szR (b0t (l.getD n c0z))<=S + 1:=by
 rw [k1v]
 by_cases c:n < l.length
 ·rw [k1A c]
  obtain ⟨k,e,j⟩:=h _ (k1D c)
  have:=b0W e j
  simp;omega
 ·rw [k1G (by omega)]
  show szR (b0t c0z)<=_
  rw [f0o,f0H];omega
theorem r0R {S:Nat} {a b:List b0b} (c:Few S a) (hb:Few S b):∀ n,szR (f0Q a b n)<=n * (2 * S + 3) + 1
 | 0=>by simp [f0Q,f0H]
 | n + 1=>by
  have e:=r0R c hb n
  have h:=r0Q (f0Q a b n) (b0t (a.getD n c0z) * b0t (b.getD n c0z))
  have j:=f0L (b0t (a.getD n c0z)) (b0t (b.getD n c0z))
  have k:=c.sz n
  have q:=hb.sz n
  rw [f0Q,k1R];omega
end
section
variable {fl:Nat} {H G:a0f} {R:a0D} {v w:Value} {a b:List c0f}
theorem b0d.cast {α:Type} {P:a0f->List Value->α->Prop} {fl e sz:Nat} {v v':Value} {l:List α} (h:v=v') (k:b0d P fl H e sz v' l):b0d P fl H e sz v l:=by rw [h];exact k
def N0Q (l:List c0f):Prop:=∀ x ∈ l,d0J x.2 < 67108864
def d0O {α:Type} (p:α->Bool) (l:List α):Bool:=l.any p
def k0o {α:Type} (p:α->Bool) (l:List α):Bool:=l.all p
section
variable {α:Type} {p:α->Bool} {l:List α} {i:Nat}
theorem h0W:d0O p []=false:=rfl
theorem q0h:k0o p []=true:=rfl
theorem f0P (h:i < l.length):d0O p (l.take (i + 1))=(d0O p (l.take i) || p l[i]):=by
 unfold d0O;rw [k1N h,List.any_append];simp
theorem m0k (h:i < l.length):k0o p (l.take (i + 1))=(k0o p (l.take i) && p l[i]):=by
 unfold k0o;rw [k1N h,m1Z];simp
theorem h0X (h:i < l.length) (hp:p l[i]=true):d0O p l=true:=List.any_eq_true.2 ⟨_,k1D h,hp⟩
theorem m0j (h:i < l.length) (hp:p l[i]=false):k0o p l=false:=by
 unfold k0o;rw [List.all_eq_false];exact ⟨l[i],k1D h,by simp [hp]⟩
end
theorem o0c {p:c0f->Bool} {g:FuncId} (I:e0i H v a) (N:fl<=H.size) (u:N0Q a) (M:a.length < 1073741824)
  (O:∀ (fl:Nat) (G:a0f) (v:Value) (e:c0f),fl<=G.size->g0L G v e->d0J e.2 < 67108864->a0O env fl g [v] G (fun r H'=>r=.bool (p e)/\Ext G H') R) :
  a0O env fl b1j [v,.func (.func g) #[] #[]] H (fun r H'=>(∃ z:Int,r=.int .i64 z/\(0<=z <-> d0O p a=true))/\Ext H H') R:=by
 refine a0i j1O N (h:=?_)
 intro ρ c
 simp [e1T,T0U,T0V,c,I.slen]
 refine d0b (n:=a.length) (fun i ρ G=>ρ 0=v/\ρ 1=.func (.func g) #[] #[]/\Ext H G/\d0O p (a.take i)=false)
  rfl rfl (by decide) (by omega) (by simp) (by simp) ?_ ?_ ?_ ?_
 ·exact ⟨by simp [c],by simp [c],Ext.refl H,by rw [n1n];exact h0W⟩
 ·intro i ρ a0 G h L;simpa [h] using L
 ·clear c ρ
  rintro i ρ G hi j F ⟨q,s,k,hc⟩
  have J:=I.mo c0q k
  obtain ⟨w,U,Z⟩:=e0i.load J hi
  simp [T0W,T0X,j,q,s,J.ia hi,U]
  refine (O _ _ _ _ k.1 Z (u _ (k1D hi))).mo ?_
  rintro _ G2 ⟨rfl,y⟩
  have x:=k.trans y
  cases hp:p a[i]
  ·simp
   refine Rnd.mk (by simp [j]) (by simp [F]) ⟨by simp [q],by simp [s],x,by rw [f0P hi,hc,hp];rfl⟩
  ·simp [T0Y,j]
   exact fun _=>h0X hi hp
 ·clear c ρ
  rintro ρ G j F ⟨q,s,k,hc⟩
  rw [k1M] at hc
  simp [T0Z,hc]
theorem f0O {p:c0f->Bool} {g:FuncId} (q:e0i H v a) (s:fl<=H.size) (j:N0Q a) (c:a.length < 1073741824)
  (u:∀ (fl:Nat) (G:a0f) (v:Value) (e:c0f),fl<=G.size->g0L G v e->d0J e.2 < 67108864->a0O env fl g [v] G (fun r H'=>r=.bool (p e)/\Ext G H') R) :
  a0O env fl Z0j [v,.func (.func g) #[] #[]] H (fun r H'=>r=.bool (d0O p a)/\Ext H H') R:=by
 refine a0i j1m s (h:=?_)
 intro ρ k
 simp [e1r,R0F,R0G,k]
 refine (o0c (p:=p) q (k1x _) j c u).mo ?_
 rintro _ F ⟨⟨z,rfl,y⟩,x⟩
 simp
 intro _
 rw [m1X,l1k];exact y
theorem l0B {e:c0f} (h:g0L H v e) (y:fl<=H.size) (z:d0J e.2 < 67108864):a0O env fl b1g [v] H (fun r H'=>r=.bool (!i0K e)/\Ext H H') R:=by
 have k:=h
 obtain ⟨s,u,rfl,hs,I⟩:=h
 refine a0i j1K y (h:=?_)
 intro ρ x
 simp [e1P,T0J,T0K,x]
 generalize q:H.push _=G
 obtain ⟨c,b0⟩:=g0e q
 have j:=Ext.refl H
 clear q
 replace j:=j.trans c;replace k:=k.mo c
 try simp [b0]
 refine (l0g k j.1 z).mo ?_
 rintro _ F ⟨rfl,c⟩
 simp
def d0f (H:a0f) (v:Value) (rows:List (List b0b)):Prop:=∃ s,v=.agg #[s]/\e0U H s rows
def r0K (n:Int) (r:List b0b):Bool:=decide ((r.length:Int)=n) && k0o o0b r
def l0w (rows:List (List b0b)) (n:Int):Bool:=decide (0<=n) && decide (n<=6) && decide (rows.length<=40) && k0o (r0K n) rows
theorem l0J {S:Nat} {rows:List (List b0b)} {n:Int} (h:d0f H v rows) (hf:fl<=H.size) (hS:S < 67108864) (hr:∀ r ∈ rows,Few S r/\r.length < 1073741824) (a4:rows.length < 1073741824) :
  a0O env fl b1f [v,.int .i64 n] H (fun r H'=>r=.bool (l0w rows n)/\Ext H H') R:=by
 obtain ⟨s,rfl,hs⟩:=h
 refine a0i j1J hf (h:=?_)
 intro ρ M
 simp [e1O,T0F,M,hs.cells]
 generalize hG:H.push _=G
 obtain ⟨k,b0⟩:=g0e hG
 have e:=Ext.refl H
 clear hG
 replace e:=e.trans k
 unfold l0w
 by_cases h1:n < 0
 ·have y:¬ 0<=n:=by omega
  simp [t0E,y0A,M,h1,y]
 ·have y:0<=n:=by omega
  by_cases h2:6 < n
  ·have J:¬ n<=6:=by omega
   simp [t0E,y0A,M,h1,y,h2,J]
  ·have J:n<=6:=by omega
   by_cases h3:40 < rows.length
   ·have U:¬ rows.length<=40:=by omega
    have z:(40:Int) < (rows.length:Int):=by omega
    simp [t0E,y0A,M,b0,(hs.mo d0u e).slen,hs.slen,h1,y,h2,J,h3,U,z]
   ·have U:rows.length<=40:=by omega
    have z:¬ (40:Int) < (rows.length:Int):=by omega
    simp [t0E,T0G,M,b0,hs.slen,h1,y,h2,J,h3,U,z]
    refine d0b (n:=rows.length) (fun i ρ G=>ρ 1=.int .i64 n/\ρ 22=s/\Ext H G/\k0o (r0K n) (rows.take i)=true)
     rfl rfl (by decide) (by omega) (by simp) (by simp) ?_ ?_ ?_ ?_
    ·exact ⟨by simp [M],by simp,e,by rw [n1n];exact q0h⟩
    ·intro i ρ a1 G h hI;simpa [h] using hI
    ·clear M ρ e b0 k
     rintro i ρ G hi I O ⟨F,c,e,hc⟩
     have ks:=hs.mo d0u e
     obtain ⟨w,hl,u⟩:=e0U.load ks hi
     obtain ⟨Z,a2⟩:=hr _ (k1D hi)
     by_cases q:(rows[i].length:Int)=n
     ·simp [J0h,J0i,T0I,F,c,I,ks.ia hi,hl,u.slen,q]
      refine o0O (n:=rows[i].length) (fun j ρ G=>ρ 1=.int .i64 n/\ρ 22=s/\ρ 24=.int .i64 (i:Int)/\ρ 23=.int .i64 (rows.length:Int)/\ρ 32=w/\Ext H G/\b0r G w rows[i]/\k0o o0b (rows[i].take j)=true)
       rfl rfl (by decide) (by omega) (by simp) (by simp [q]) ?_ ?_ ?_ ?_
      ·exact ⟨by simp [F],by simp [c],by simp [I],by simp [O],by simp,e,u,by rw [n1n];exact q0h⟩
      ·intro i ρ a1 G h hI;simpa [h] using hI
      ·clear F c I O e u hl ks ρ G
       rintro j ρ G hj gj gm ⟨F,c,I,O,N,e,u,L⟩
       obtain ⟨x,a0,k0⟩:=b0r.load u hj
       obtain ⟨s1,s2,rfl,k1,k2⟩:=id k0
       have a3:=Z _ (k1D hj)
       have hsz:=e.1
       simp [J0d,F,c,N,gj,u.ia hj,a0,k1.cells,k1.plain,k2.cells,k2.plain,hsz]
       generalize hN:Array.setIfInBounds (Array.push _ _) _ _=G3
       obtain ⟨k,b1⟩:=new1 hN
       clear hN
       replace e:=e.trans k;replace k0:=k0.mo k
       replace u:=u.mo a0K k
       simp [J0e,b1]
       refine (h0L k0 e.1 (by omega)).mo ?_
       rintro _ G2 ⟨rfl,k⟩
       replace e:=e.trans k
       replace u:=u.mo a0K k
       cases hm:o0b rows[i][j]
       ·simp [J0f]
        intros
        exact m0j hi (by unfold r0K;rw [m0j hj hm];simp)
       ·simp
        exact Rnd.mk (by simp [gj]) (by simp [gm]) ⟨by simp [F],by simp [c],by simp [I],by simp [O],by simp [N],e,u,by rw [m0k hj,L,hm];rfl⟩
      ·rintro ρ G gj gm ⟨F,c,I,O,N,e,u,L⟩
       rw [k1M] at L
       simp
       exact Rnd.mk I O ⟨F,c,e,by rw [m0k hi,hc];unfold r0K;simp [q,L]⟩
     ·simp [J0h,J0i,T0H,F,c,I,ks.ia hi,hl,u.slen,q]
      intro _
      exact m0j hi (by unfold r0K;simp [q])
    ·clear M ρ e b0 k
     rintro ρ G I O ⟨F,c,e,hc⟩
     rw [k1M] at hc
     simp [J0g,hc]
def f0p (rows:List (List b0b)) (n:Int) (d:List c0f):Bool:=l0w rows n && decide (d.length=rows.length) && !d0O (fun e=>!i0K e) d
theorem o0i {S:Nat} {rows:List (List b0b)} {n:Int} {d:List c0f} (h:d0f H v rows) (u:e0i H w d) (y:fl<=H.size) (N:S < 67108864) (U:∀ r ∈ rows,Few S r/\r.length < 1073741824) (F:rows.length < 1073741824) (z:N0Q d) (x:d.length < 1073741824) :
  a0O env fl a1T [v,.int .i64 n,w] H (fun r H'=>r=.bool (f0p rows n d)/\Ext H H') R:=by
 have Z:=h
 obtain ⟨s,rfl,hs⟩:=h
 refine a0i j1k y (h:=?_)
 intro ρ q
 simp [e1p,R0B,q,hs.cells]
 generalize L:H.push _=G
 obtain ⟨c,b0⟩:=g0e L
 have j:=Ext.refl H
 clear L
 replace j:=j.trans c
 have I:d0f G (.agg #[s]) rows:=⟨s,rfl,hs.mo d0u j⟩
 unfold f0p
 simp [R0C,q,b0]
 refine (l0J (n:=n) I j.1 N U F).mo ?_
 rintro _ M ⟨rfl,c⟩
 replace b0:=c.bk b0;replace j:=j.trans c
 cases h1:l0w rows n
 ·simp
 ·by_cases J:d.length=rows.length
  ·have k:(d.length:Int)=(rows.length:Int):=by omega
   simp [q,b0,u.slen,hs.slen,J,k]
   refine (f0O (p:=fun e=>!i0K e) (u.mo c0q j) j.1 z x (fun fl G v e y h O=>l0B h y O)).mo ?_
   rintro _ M ⟨rfl,c⟩
   simp
  ·have k:¬ (d.length:Int)=(rows.length:Int):=by omega
   simp [q,b0,u.slen,hs.slen,J,k]
end
section
variable {fl:Nat} {H G:a0f} {R:a0D} {v w u:Value}
theorem w0B (q:Rat):g0f (0,a0e q)=(0,q):=by
 unfold g0f i0K;simp [f0d,a0w]
def z0D (x:List b0b) (r:List b0b) (e:c0f):Bool:=decide (r.length=x.length) && !decide (0 < u0r (0,f0Q r x r.length) (g0f e))
def A0y (rows:List (List b0b)) (d:List c0f) (x:List b0b):Bool:=decide (d.length=rows.length) && k0o id (List.zipWith (z0D x) rows d)
def i0n (l:List b0b):List b0b:=l.map fun x=>a0e (b0t x)
theorem l0X {α c:Type} {f:α->c} {l:List α} {i:Nat} (h:i < l.length):(l.map f).take (i + 1)=(l.map f).take i ++ [f l[i]]:=by
 rw [k1N (by simpa using h)];simp
theorem e0D {fl e sz bytes n c:Nat} {H H':a0f} {s v':Value} {u:Option Addr} (q:n ≠ 0) (h:i0H fl H e sz bytes s (.slice u n c)=some (v',H')):∃ m k,v' = .slice (some ⟨H.size,0,none⟩) m k:=by
 unfold i0H at h
 split at h
 ·rename_i base len cap v x c' j
  cases j
  rw [k1y q] at h
  split at h
  ·split at h
   ·cases h
   ·split at h
    ·cases h
    ·split at h
     ·cases h
     ·split at h
      ·split at h
       ·cases h;exact ⟨_,_,rfl⟩
       ·cases h
      ·split at h
       ·cases h;exact ⟨_,_,rfl⟩
       split at h
       ·cases h
       ·split at h
        ·cases h;exact ⟨_,_,rfl⟩
        ·split at h
         ·split at h
          ·cases h;exact ⟨_,_,rfl⟩
          ·cases h
         ·cases h
  ·cases h
 ·cases h
def LxT (e:Nat) (H G:a0f):Prop:=∀ b ro cs,H.bk b=.row ro e cs->G.bk b=.row ro e cs
theorem b0d.lxT {α:Type} {P:a0f->List Value->α->Prop} {fl e sz e':Nat} {v:Value} {l:List α} (h:b0d P fl G e sz v l) (k:e ≠ e') {G':a0f} (c:d0o (slB v) G G'):LxT e' G G':=by
 intro b ro cs hb
 obtain ⟨j,⟨q,⟨rfl,_⟩ | ⟨p,cap,rfl,hp,_⟩⟩,_⟩:=h
 ·rw [c.2 b (a0k hb) (by simp [slB])];exact hb
 ·rw [c.2 b (a0k hb) (by simp [slB];rintro rfl;rw [hp] at hb;cases hb;exact k rfl)];exact hb
theorem b0r.lx2 {l:List b0b} (h:b0r H v l) (e:LxT a0b H G) (j:Lx H G):b0r G v l:=by
 obtain ⟨cs,⟨s,hs⟩,hp⟩:=h
 refine ⟨cs,⟨s,?_⟩,fun k q=>b0L.lx (hp k q) j⟩
 rcases hs with hs | ⟨b,off,cap,ro,cells,rfl,hb,ho,c⟩
 ·exact .inl hs
 ·exact .inr ⟨b,off,cap,ro,cells,rfl,e _ _ _ hb,ho,c⟩
theorem b0r.off {l:List b0b} {o:Option Nat} (h:b0r H v l) (x:d0o o H G) (e:slB v=none ∨ slB v ≠ o) (j:Lx H G):b0r G v l:=by
 obtain ⟨cs,⟨u,hs⟩,hp⟩:=h
 refine ⟨cs,⟨u,?_⟩,fun k s=>b0L.lx (hp k s) j⟩
 rcases hs with hs | ⟨b,off,cap,ro,cells,rfl,hb,ho,c⟩
 ·exact .inl hs
 ·refine .inr ⟨b,off,cap,ro,cells,rfl,?_,ho,c⟩
  rw [x.2 b (a0k hb) (by rcases e with h | h;simp [slB] at h;exact fun q=>h q.symm)];exact hb
theorem b0r.lt {l:List b0b} (h:b0r H v l) {b:Nat} (hb:slB v=some b):b < H.size:=by
 obtain ⟨cs,⟨k,⟨rfl,_⟩ | ⟨j,off,cap,ro,cells,rfl,c,ho,e⟩⟩,hp⟩:=h
 ·simp [slB] at hb
 ·simp [slB] at hb;subst hb;exact a0k c
structure LPt where
 n:Int
 A:List (List b0b)
 B:List b0b
 C:List b0b
def LPV (H:a0f) (v:Value) (p:LPt):Prop:=∃ sA sB sC,v=.agg #[.int .i64 p.n,sA,sB,sC]/\e0U H sA p.A/\b0r H sB p.B/\b0r H sC p.C
def d0z:List (List b0b)->List c0f->List (List b0b)
 | r :: rs,e :: es=>if e.1=0 then i0n r :: d0z rs es else d0z rs es
 | _,_=>[]
def d0A:List (List b0b)->List c0f->List b0b
 | _ :: rs,e :: es=>if e.1=0 then a0e (b0t e.2) :: d0A rs es else d0A rs es
 | _,_=>[]
theorem k0M:∀ {rows:List (List b0b)} {d:List c0f} {i:Nat} (c:i < rows.length) (j:i < d.length),d0z (rows.take (i + 1)) (d.take (i + 1))=d0z (rows.take i) (d.take i) ++ if d[i].1=0 then [i0n rows[i]] else []
 | [],_,_,h,_=>by simp at h
 | _ :: _,[],_,_,h=>by simp at h
 | r :: rs,e :: es,0,_,_=>by simp [d0z]
 | r :: rs,e :: es,i + 1,c,j=>by
  have:=k0M (rows:=rs) (d:=es) (i:=i) (by simpa using c) (by simpa using j)
  simp only [m1Q,d0z,this,m1U]
  split <;> simp
theorem k0N:∀ {rows:List (List b0b)} {d:List c0f} {i:Nat} (_:i < rows.length) (c:i < d.length),d0A (rows.take (i + 1)) (d.take (i + 1))=d0A (rows.take i) (d.take i) ++ if d[i].1=0 then [a0e (b0t d[i].2)] else []
 | [],_,_,h,_=>by simp at h
 | _ :: _,[],_,_,h=>by simp at h
 | r :: rs,e :: es,0,_,_=>by simp [d0A]
 | r :: rs,e :: es,i + 1,h1,c=>by
  have:=k0N (rows:=rs) (d:=es) (i:=i) (by simpa using h1) (by simpa using c)
  simp only [m1Q,d0A,this,m1U]
  split <;> simp
theorem r0J (H:a0f):∀ n:Nat,(e0M [.bool false,.slice none 0 0,.bool false,.slice none 0 0] n).length=n * 4/\∀ k,k < n->PR H (((e0M [.bool false,.slice none 0 0,.bool false,.slice none 0 0] n).drop (k * 4)).take 4) c0z
 | 0=>⟨rfl,fun k h=>by omega⟩
 | n + 1=>by
  obtain ⟨c,e⟩:=r0J H n
  refine ⟨by rw [e0M,k1S,c];simp;omega,fun k h=>?_⟩
  cases k with
  | zero=>exact f0k
  | succ k =>
   have:=e k (by omega)
   rw [e0M,show (k + 1) * 4=4 + k * 4 by omega,<- m1g]
   exact this
theorem b0d.ne {α:Type} {Q:a0f->List Value->α->Prop} {fl e sz e' p:Nat} {v:Value} {l:List α} {cs:List Value} {ro:Bool} (h:b0d Q fl G e sz v l) (hb:a0f.bk G p=.row ro e' cs) (j:e ≠ e'):slB v ≠ some p:=by
 obtain ⟨c,⟨k,⟨rfl,_⟩ | ⟨b,cap,rfl,hp,_⟩⟩,_⟩:=h
 ·simp [slB]
 ·simp [slB];rintro rfl;rw [hp] at hb;cases hb;exact j rfl
theorem b0d.ge {α:Type} {Q:a0f->List Value->α->Prop} {fl e sz:Nat} {v:Value} {l:List α} (h:b0d Q fl G e sz v l) {b:Nat} (hb:slB v=some b):fl<=b/\b < G.size:=by
 obtain ⟨c,⟨q,⟨rfl,_⟩ | ⟨k,cap,rfl,hp,j⟩⟩,_⟩:=h
 ·simp [slB] at hb
 ·simp [slB] at hb;subst hb;exact ⟨j,a0k hp⟩
theorem b0d.cells {α:Type} {Q:a0f->List Value->α->Prop} {fl e sz:Nat} {v:Value} {l:List α} (h:b0d Q fl G e sz v l):a0W v=[v]/\a0v v=true:=⟨h.sls.cells,h.sls.plain⟩
theorem b0d.low {α:Type} {Q:a0f->List Value->α->Prop} {fl fl' e sz:Nat} {v:Value} {l:List α} (h:b0d Q fl G e sz v l) (x:fl'<=fl):b0d Q fl' G e sz v l:=by
 obtain ⟨c,⟨j,s | ⟨q,cap,rfl,hp,u⟩⟩,k⟩:=h
 ·exact ⟨c,⟨j,.inl s⟩,k⟩
 ·exact ⟨c,⟨j,.inr ⟨q,cap,rfl,hp,by omega⟩⟩,k⟩
theorem b0d.off {α:Type} {Q:a0f->List Value->α->Prop} {fl e sz:Nat} {v:Value} {l:List α} {o:Option Nat} {G':a0f} (h:b0d Q fl G e sz v l) (J:d0o o G G') (s:slB v=none ∨ slB v ≠ o) (z:∀ cs x,Q G cs x->Q G' cs x):b0d Q fl G' e sz v l:=by
 obtain ⟨c,⟨j,F | ⟨u,cap,rfl,hp,I⟩⟩,y⟩:=h
 ·exact ⟨c,⟨j,.inl F⟩,fun k q=>z _ _ (y k q)⟩
 ·refine ⟨c,⟨j,.inr ⟨u,cap,rfl,?_,I⟩⟩,fun k q=>z _ _ (y k q)⟩
  rw [J.2 u (a0k hp) (by rcases s with h | h;simp [slB] at h;exact fun H=>h H.symm)];exact hp
theorem b0d.lxm {α:Type} {Q:a0f->List Value->α->Prop} {fl e sz:Nat} {v:Value} {l:List α} {G':a0f} {Q':a0f->List Value->α->Prop} (h:b0d Q fl G e sz v l) (H:LxT e G G') (u:∀ cs x,Q G cs x->Q' G' cs x):b0d Q' fl G' e sz v l:=by
 obtain ⟨c,⟨j,z | ⟨y,cap,rfl,hp,F⟩⟩,s⟩:=h
 ·exact ⟨c,⟨j,.inl z⟩,fun k q=>u _ _ (s k q)⟩
 ·exact ⟨c,⟨j,.inr ⟨y,cap,rfl,H _ _ _ hp,F⟩⟩,fun k q=>u _ _ (s k q)⟩
theorem b0d.blkOf {α:Type} {Q:a0f->List Value->α->Prop} {fl e sz:Nat} {v:Value} {l:List α} (h:b0d Q fl G e sz v l):AI.blkW v=[] ∨ ∃ b,AI.blkW v=[b]/\slB v=some b:=by
 obtain ⟨k,⟨q,⟨rfl,_⟩ | ⟨j,cap,rfl,hp,u⟩⟩,s⟩:=h
 ·exact .inl rfl
 ·by_cases c:l.length=0/\cap=0
  ·exact .inl (by simp only [AI.blkW];rw [k1B c])
  ·exact .inr ⟨j,by simp only [AI.blkW];rw [k1y c],rfl⟩
theorem b0f {G3:a0f} {q e e':Nat} {X:Blk} {cs:List Value} {ro:Bool} (k:Array.setIfInBounds G q X=G3) (hb:a0f.bk G q=.row ro e' cs) (h:e' ≠ e):LxT e G G3:=by
 intro b s j c
 rw [<- k,a0T (by rintro rfl;rw [hb] at c;cases c;exact h rfl)];exact c
theorem e0U.lx3 {l:List (List b0b)} (h:e0U H v l) (e:LxT a0N H G) (j:LxT a0b H G) (q:Lx H G):e0U G v l:=by
 obtain ⟨cs,⟨u,hs⟩,hp⟩:=h
 refine ⟨cs,⟨u,?_⟩,fun k s=>?_⟩
 ·rcases hs with hs | ⟨b,off,cap,ro,cells,rfl,hb,ho,c⟩
  ·exact .inl hs
  ·exact .inr ⟨b,off,cap,ro,cells,rfl,e _ _ _ hb,ho,c⟩
 ·obtain ⟨w,q1,x⟩:=hp k s;exact ⟨w,q1,x.lx2 j q⟩
theorem j0W:∀ (rows:List (List b0b)) (d:List c0f),(d0z rows d).length<=d.length
 | [],_=>by simp [d0z]
 | _ :: _,[]=>by simp [d0z]
 | r :: rs,e :: es=>by have:=j0W rs es;simp only [d0z];split <;> simp <;> omega
theorem m0W:∀ (rows:List (List b0b)) (d:List c0f),(d0A rows d).length<=d.length
 | [],_=>by simp [d0A]
 | _ :: _,[]=>by simp [d0A]
 | r :: rs,e :: es=>by have:=m0W rs es;simp only [d0A];split <;> simp <;> omega
theorem m0c {a:List (List b0b)} {p:List b0b->Bool} {g:FuncId} {c:Value} (I:a0f->Prop) (x:∀ G G',Ext G G'->I G->I G') (N:I H) (L:e0U H v a) (U:fl<=H.size) (O:a.length < 1073741824)
  (Z:∀ (fl:Nat) (G:a0f) (v:Value) (e:List b0b),I G->fl<=G.size->b0r G v e->a0O env fl g [v,c] G (fun r H'=>r=.bool (p e)/\Ext G H') R) :
  a0O env fl B0s [v,.func (.func g) #[] #[c]] H (fun r H'=>(∃ z:Int,r=.int .i64 z/\(0<=z <-> d0O p a=true))/\Ext H H') R:=by
 refine a0i g1z U (h:=?_)
 intro ρ j
 simp [M0B,D0K,D0L,j,L.slen]
 refine d0b (n:=a.length) (fun i ρ G=>ρ 0=v/\ρ 1=.func (.func g) #[] #[c]/\Ext H G/\d0O p (a.take i)=false)
  rfl rfl (by decide) (by omega) (by simp) (by simp) ?_ ?_ ?_ ?_
 ·exact ⟨by simp [j],by simp [j],Ext.refl H,by rw [n1n];exact h0W⟩
 ·intro i ρ a0 G h x;simpa [h] using x
 ·clear j ρ
  rintro i ρ G hi q J ⟨s,u,k,hc⟩
  have M:=L.mo d0u k
  obtain ⟨w,hl,k0⟩:=e0U.load M hi
  simp [D0M,D0N,q,s,u,M.ia hi,hl]
  refine (Z _ _ _ _ (x _ _ k N) k.1 k0).mo ?_
  rintro _ G2 ⟨rfl,F⟩
  have y:=k.trans F
  cases hp:p a[i]
  ·simp
   exact Rnd.mk (by simp [q]) (by simp [J]) ⟨by simp [s],by simp [u],y,by rw [f0P hi,hc,hp];rfl⟩
  ·simp [D0O,q]
   exact fun _=>h0X hi hp
 ·clear j ρ
  rintro ρ G q J ⟨s,u,k,hc⟩
  rw [k1M] at hc
  simp [D0P,hc]
theorem j0s {a:List (List b0b)} {p:List b0b->Bool} {g:FuncId} {c:Value} (I:a0f->Prop) (s:∀ G G',Ext G G'->I G->I G') (k:I H) (u:e0U H v a) (x:fl<=H.size) (j:a.length < 1073741824)
  (y:∀ (fl:Nat) (G:a0f) (v:Value) (e:List b0b),I G->fl<=G.size->b0r G v e->a0O env fl g [v,c] G (fun r H'=>r=.bool (p e)/\Ext G H') R) :
  a0O env fl b1k [v,.func (.func g) #[] #[c]] H (fun r H'=>r=.bool (d0O p a)/\Ext H H') R:=by
 refine a0i j1U x (h:=?_)
 intro ρ q
 simp [e1Z,U0q,U0r,q]
 refine (m0c (p:=p) I s k u (k1x _) j y).mo ?_
 rintro _ L ⟨⟨z,rfl,J⟩,F⟩
 simp
 intro _
 rw [m1X,l1k];exact J
theorem m0H {l:List b0b} {b:Nat} {n:Int} {r:List Value} {e:TypeId} (k:b0r H v l) (hb:H.bk b=.row false e (.int .i64 n :: r)) (j:fl<=H.size) :
  a0O env fl b1l [v,.pointer (some ⟨b,0,none⟩)] H (fun r H'=>r=.bool (!decide ((l.length:Int)=n))/\Ext H H') R:=by
 refine a0i j1V j (h:=?_)
 intro ρ c
 simp [f1a,U0s,U0t,c,k.slen,hb]
 by_cases h:(l.length:Int)=n
 ·simp [h]
 ·simp [h]
def n0K (p:LPt):Bool:=decide (0<=p.n) && decide (p.n<=60) && decide (p.A.length<=60) && decide (p.B.length=p.A.length) && decide ((p.C.length:Int)=p.n) && !d0O (fun r=>!decide ((r.length:Int)=p.n)) p.A
theorem q0F {p:LPt} (h:LPV H v p) (N:fl<=H.size):a0O env fl a1Z [v] H (fun r H'=>r=.bool (n0K p)/\Ext H H') R:=by
 obtain ⟨sA,sB,sC,rfl,hA,hB,M⟩:=h
 refine a0i j1s N (h:=?_)
 intro ρ x
 simp [e1x,S0k,x,hA.cells,hB.cells,M.cells]
 generalize U:H.push _=G
 obtain ⟨I,b0⟩:=g0e U
 have z:=Ext.refl H
 clear U
 replace z:=z.trans I
 unfold n0K
 by_cases y:p.n < 0
 ·have k:¬ 0<=p.n:=by omega
  simp [n0C,p0P,x,b0,y,k]
 have k:0<=p.n:=by omega
 by_cases F:60 < p.n
 ·have q:¬ p.n<=60:=by omega
  simp [n0C,p0P,x,b0,y,k,F,q]
 have q:p.n<=60:=by omega
 by_cases J:60 < p.A.length
 ·have s:¬ p.A.length<=60:=by omega
  have j:(60:Int) < (p.A.length:Int):=by omega
  simp [n0C,p0P,x,b0,y,k,F,q,J,s,j,hA.slen]
 have s:p.A.length<=60:=by omega
 have j:¬ (60:Int) < (p.A.length:Int):=by omega
 by_cases L:p.B.length=p.A.length
 case neg =>
  have u:¬ (p.B.length:Int)=(p.A.length:Int):=by omega
  simp [n0C,p0P,x,b0,y,k,F,q,J,s,j,L,u,hA.slen,hB.slen]
 have u:(p.B.length:Int)=(p.A.length:Int):=by omega
 by_cases O:(p.C.length:Int)=p.n
 case neg =>
  simp [n0C,p0P,x,b0,y,k,F,q,J,s,j,L,u,O,hA.slen,hB.slen,M.slen]
 simp [n0C,S0l,x,b0,y,k,F,q,J,s,j,L,u,O,hA.slen,hB.slen,M.slen]
 refine (j0s (p:=fun r=>!decide ((r.length:Int)=p.n)) (c:=.pointer (some ⟨H.size,0,none⟩)) (fun G=>a0f.bk G H.size=.row false b0M [.int .i64 p.n,sA,sB,sC]) (fun _ _ z h=>z.bk h) b0 (hA.mo d0u z) z.1 (by omega)
  (fun fl G v e hb N Z=>m0H Z hb N)).mo ?_
 rintro _ G2 ⟨rfl,I⟩
 simp
theorem f0G {S:Nat} {l:List b0b} (hv:b0r H v l) (hf:fl<=H.size) (M:Few S l) (hS:S < 67108864) (Z:l.length < 1073741824) :
  a0O env fl z0n [v] H (fun r H'=>b0d PR H.size H' a0b 4 r (i0n l)/\Ext H H') R:=by
 refine a0i g1B hf (h:=?_)
 intro ρ y
 have w1:IntKind.i64.wrap ((l.length:Int) + 1)=(l.length:Int) + 1:=a0S (by omega) (by omega)
 have hm:=Z0x (bytes:=64) (k:=.i64) (k':=.i64) (l:=0) (c:=(l.length:Int) + 1) (by omega) (by omega) (by omega) (by omega)
 simp [M0D,E0a,E0b,E0c,y,hv.slen,w1,hm]
 refine d0b (n:=l.length) (fun i ρ G=>ρ 10=v/\Ext H G/\b0d PR H.size G a0b 4 (ρ 3) ((i0n l).take i))
  rfl rfl (by decide) (by omega) (by simp) (by simp) ?_ ?_ ?_ ?_
 ·refine ⟨by simp [y],(Ext.refl H).push,?_⟩
  simp
  exact ⟨[],Own.mk a0G rfl (k1x _),fun k hk=>by simp at hk⟩
 ·intro i ρ a1 G h hI;simpa [h] using hI
 ·clear y ρ
  rintro i ρ G hi L O ⟨J,q,ho⟩
  obtain ⟨s,u⟩:∃ s,ρ 3=s:=⟨_,rfl⟩
  rw [u] at ho
  have kv:=hv.mo a0K q
  obtain ⟨x,N,z⟩:=b0r.load kv hi
  obtain ⟨s1,s2,rfl,k1,k2⟩:=id z
  have a0:=M _ (k1D hi)
  have hsz:=q.1
  simp [E0d,J,L,kv.ia hi,N,k1.cells,k1.plain,k2.cells,k2.plain,hsz]
  generalize U:Array.setIfInBounds (Array.push _ _) _ _=G3
  obtain ⟨j,b1⟩:=new1 U
  clear U
  replace q:=q.trans j;replace z:=z.mo j
  replace ho:=ho.mo a0K j
  simp [E0e,b1]
  refine (b0K z (b:=c0z) f0k q.1 (by omega) (by decide)).mo ?_
  rintro _ G2 ⟨⟨s3,s4,rfl,F,I⟩,j⟩
  replace q:=q.trans j
  replace ho:=ho.mo a0K j
  rw [f0o,m1q] at F I ⊢
  obtain ⟨s',G4,h1,h2,h3,h4⟩:=b0d.app (P:=PR) (sz:=4) (e:=a0b) (by decide) (fun G' cs x _ Z h=>b0L.lx h Z) ho (e2:=a0b) (c:=1) (bytes:=64) (new:=[.bool (a0e (b0t l[i])).1.1,s3,.bool (a0e (b0t l[i])).2.1,s4]) (x:=a0e (b0t l[i])) ⟨s3,s4,rfl,F,I⟩ rfl (by simp [F.plain,I.plain]) (by simp;omega) (by omega) (by omega) q.1
  simp [u,F.cells,I.cells,h1]
  exact Rnd.mk (by simp [L]) (by simp [O]) ⟨by simp [J],h4 _ (k1x _) q,b0d.cast (v':=s') (by simp) (by unfold i0n;rw [l0X hi];exact h2)⟩
 ·clear y ρ
  rintro ρ G L O ⟨J,q,ho⟩
  obtain ⟨s,u⟩:∃ s,ρ 3=s:=⟨_,rfl⟩
  rw [u] at ho
  rw [k1J (by simp [i0n])] at ho
  simp [E0f,u]
  exact fun _=>ho
def PI (H:a0f) (cs:List Value) (z:Int):Prop:=b0g H (.agg cs.toArray) (a0g z)
theorem d0t:i0U PI:=fun _ _ _ _ c h=>b0g.mo h c
theorem b0g.lx {i:Bool × List Nat} (h:b0g H v i) (j:Lx H G):b0g G v i:=by obtain ⟨s,c,e⟩:=h;exact ⟨s,c,e.lx j⟩
theorem X0w {G3:a0f} {z1 z2 r1 r2:Blk} (c:Array.setIfInBounds (Array.setIfInBounds (Array.push (Array.push G z1) z2) G.size r1) (G.size + 1) r2=G3):Ext G G3/\a0f.bk G3 G.size=r1/\a0f.bk G3 (G.size + 1)=r2:=by
 rw [<- c];exact new2
theorem b0d.store {α:Type} {Q:a0f->List Value->α->Prop} {fl e sz:Nat} {v:Value} {l:List α} {j:Nat} {x:α} {w:Value} (h:b0d Q fl G e sz v l) (hj:j < l.length) (hs:0 < sz) (u:(a0W w).length=sz) (hp:(a0W w).all a0v=true)
  (hx:∀ G',d0o (slB v) G G'->Lx G G'->Q G' (a0W w) x) (Z:e ≠ a0l) (U:∀ G' cs y,d0o (slB v) G G'->Lx G G'->Q G cs y->Q G' cs y) :
  ∃ G',f0n fl G sz (adr sz v j) w=some G'/\b0d Q fl G' e sz v (l.set j x)/\d0o (slB v) G G':=by
 obtain ⟨cs,⟨hl,⟨rfl,h0⟩ | ⟨b,cap,rfl,hb,O⟩⟩,R⟩:=id h
 ·omega
 have F:(j + 1) * sz<=l.length * sz:=k1E _ hj
 rw [k1R,l1l] at F
 have M:=n0Q (fl:=fl) (b:=b) (o:=0 + j * sz) (n:=sz) (x:=w) hb O u (by omega) hp
 have q:=h0T (a0W w) cs (0 + j * sz) (by rw [u];omega)
 have N:=c0K (a0W w) cs (0 + j * sz)
 generalize b0x cs (0 + j * sz) (a0W w)=cs' at *
 have c:d0o (slB (.slice (some ⟨b,0,none⟩) l.length cap)) G (G.setIfInBounds b (.row false e cs')):=d0o.refl.set
 have z:=b0d.lx h Z c
 refine ⟨_,M,⟨cs',⟨by rw [N,hl,List.length_set],.inr ⟨b,cap,by rw [List.length_set],by rw [a0A (a0k hb)],O⟩⟩,fun k H=>?_⟩,c⟩
 rw [List.length_set] at H
 have I:(k + 1) * sz<=l.length * sz:=k1E _ H
 rw [k1R,l1l] at I
 rw [l1e,u] at q
 by_cases J:k=j
 ·subst J
  have s:(cs'.drop (k * sz)).take sz=a0W w:=by
   rw [q,m1u,List.drop_left' (by simp;omega),List.take_left' u]
  rw [List.getElem_set_self,s]
  exact hx _ c z
 ·rw [n1u (by omega)]
  have s:(cs'.drop (k * sz)).take sz=(cs.drop (k * sz)).take sz:=by
   rw [q]
   apply m1J
   intro i
   by_cases hi:i < sz
   ·rw [l1K,k1B hi,l1K,k1B hi,l1Q,l1Q]
    by_cases L:k < j
    ·have:(k + 1) * sz<=j * sz:=k1E _ L
     rw [k1R,l1l] at this
     rw [m1u,l1i (by simp;omega),l1K,k1B (by omega)]
    ·have:(j + 1) * sz<=k * sz:=k1E _ (by omega)
     rw [k1R,l1l] at this
     rw [l1n (by simp [u];omega),l1Q]
     congr 1
     simp [u];omega
   ·rw [l1K,k1y hi,l1K,k1y hi]
  rw [s];exact U _ _ _ c z (R k H)
structure Whole (xs:List Rat) (zs:List Int) (by':Rat) (K:Nat):Prop where
 len:zs.length=xs.length
 pos:0 < by'
 eq:∀ i (h:i < xs.length),((zs[i]'(by omega):Int):Rat)=xs[i] * by'
 szz:∀ z ∈ zs,lz z<=K
 szb:szR by'<=K
def A0L (H:a0f) (P:Nat) (v:Value) (xs:List Rat) (S:Nat) (i:Nat) (ρ:Nat->Value) (G:a0f):Prop :=
 ρ 0=v/\ρ 22=v/\ρ 3=.pointer (some ⟨H.size,0,none⟩)/\ρ 4=.pointer (some ⟨P,0,none⟩)/\Ext H G /\
  a0f.bk G H.size=.row false a0b [.bool false,.slice none 0 0,.bool false,.slice none 0 0] /\
  ∃ (m:Nat) (s:Value),0 < m/\a0f.bk G P=.row false a0a [.bool false,s]/\Lim G s (a0p m)/\(∀ k (h:k < xs.length),k < i->xs[k].den ∣ m)/\lz m<=1 + i * S
theorem y0R (a b:Nat):((a:Int).tdiv (b:Int))=((a / b:Nat):Int):=by rw [l1U (by omega)];rfl
theorem X0q (m q:Nat) (e:0 < m) (k:0 < q):m ∣ m * (q / Nat.gcd m q)/\q ∣ m * (q / Nat.gcd m q)/\0 < m * (q / Nat.gcd m q)/\q / Nat.gcd m q<=q:=by
 have j:=Nat.gcd_pos_of_pos_left q e
 refine ⟨Nat.dvd_mul_right _ _,?_,Nat.mul_pos e (Nat.div_pos (Nat.le_of_dvd k (Nat.gcd_dvd_right m q)) j),l1J _ _⟩
 obtain ⟨c,hc⟩:=Nat.gcd_dvd_left m q
 have h:Nat.gcd m q * (q / Nat.gcd m q)=q:=Nat.mul_div_cancel' (Nat.gcd_dvd_right m q)
 refine ⟨c,?_⟩
 calc m * (q / Nat.gcd m q)=(Nat.gcd m q * c) * (q / Nat.gcd m q):=by rw [<- hc]
  _=(Nat.gcd m q * (q / Nat.gcd m q)) * c:=by grind
  _=q * c:=by rw [h]
def o0J (xs:List Rat) (m:Nat):List Int:=xs.map fun x=>x.num * ((m / x.den:Nat):Int)
def A0M (H:a0f) (P P2:Nat) (v:Value) (xs:List Rat) (m K:Nat) (s:Value) (i:Nat) (ρ:Nat->Value) (G:a0f):Prop :=
 ρ 44=v/\ρ 3=.pointer (some ⟨H.size,0,none⟩)/\ρ 4=.pointer (some ⟨P,0,none⟩)/\ρ 11=.pointer (some ⟨P2,0,none⟩)/\Ext H G /\
  a0f.bk G H.size=.row false a0b [.bool false,.slice none 0 0,.bool false,.slice none 0 0]/\a0f.bk G P=.row false a0a [.bool false,s]/\Lim G s (a0p m) /\
  slB (ρ 10) ≠ some P/\slB (ρ 10) ≠ some P2 /\
  ∃ (g:Nat) (sg:Value),a0f.bk G P2=.row false a0a [.bool false,sg]/\Lim G sg (a0p g)/\b0d PI H.size G a0a 2 (ρ 10) ((o0J xs m).take i) /\
   (∀ k (h:k < xs.length),k < i->(g:Int) ∣ (o0J xs m).getD k 0)/\lz g<=K/\(i=0->g=0)
def q0e (H:a0f) (P P2:Nat) (so:Value) (xs:List Rat) (m g:Nat) (s sg:Value) (i:Nat) (ρ:Nat->Value) (G:a0f):Prop :=
 ρ 10=so/\ρ 3=.pointer (some ⟨H.size,0,none⟩)/\ρ 4=.pointer (some ⟨P,0,none⟩)/\ρ 11=.pointer (some ⟨P2,0,none⟩)/\Ext H G /\
  a0f.bk G H.size=.row false a0b [.bool false,.slice none 0 0,.bool false,.slice none 0 0]/\a0f.bk G P=.row false a0a [.bool false,s]/\Lim G s (a0p m) /\
  a0f.bk G P2=.row false a0a [.bool false,sg]/\Lim G sg (a0p g) /\
  ∃ L:List Int,b0d PI H.size G a0a 2 so L/\L.length=xs.length/\∀ k,k < xs.length->L.getD k 0=if k < i then (o0J xs m).getD k 0 / (g:Int) else (o0J xs m).getD k 0
theorem OwnsI.load {fl:Nat} {l:List Int} (h:b0d PI fl H a0a 2 v l) {j:Nat} (k:j < l.length):∃ w,b0v H true 2 (adr 2 v j)=some w/\b0g H w (a0g l[j]):=by
 obtain ⟨cs,c,_,e⟩:=Sls.load h.sls k (by omega);exact ⟨_,c,e⟩
theorem O0j {z:Int} {g:Nat} (h:(g:Int) ∣ z):lz (z / (g:Int))<=lz z:=by
 refine m0I ?_
 rw [Int.natAbs_ediv_of_dvd h]
 exact l1J _ _
theorem y0U {x:Rat} {m g:Nat} (s:x.den ∣ m) (u:0 < m) (v:0 < g) (j:(g:Int) ∣ x.num * ((m / x.den:Nat):Int)) :
  ((x.num * ((m / x.den:Nat):Int) / (g:Int):Int):Rat)=x * Rat.divInt (m:Int) (g:Int):=by
 obtain ⟨c,rfl⟩:=s
 have h:=x.den_pos
 rw [Nat.mul_div_cancel_left _ h] at j ⊢
 obtain ⟨z,k⟩:=j
 have e:(g:Int) ≠ 0:=by omega
 rw [k,Int.mul_ediv_cancel_left _ e]
 conv=>rhs;lhs;rw [<- n1D x]
 rw [Rat.divInt_mul_divInt]
 have q:((z:Int):Rat)=Rat.divInt z 1:=by
  have:=n1D (z:Rat)
  rw [n1h,n1g] at this;exact this.symm
 rw [q,Rat.divInt_eq_divInt_iff (by omega) (m1Y (by omega) e)]
 rw [l1Y,Int.mul_one]
 have:x.num * ((x.den:Int) * (c:Int))=(x.den:Int) * (x.num * c):=by grind
 rw [this,k];grind
theorem o0R {m g:Nat} (h:0 < m) (e:0 < g):0 < Rat.divInt (m:Int) (g:Int):=by
 have c:Rat.divInt (m:Int) (g:Int)=(m:Rat) * (g:Rat)⁻¹:=by rw [<- n1F];exact n1k _ _
 rw [c]
 exact n1x (Rat.natCast_pos.2 h) (Rat.inv_pos.2 (Rat.natCast_pos.2 e))
theorem g0R {S:Nat} {xs:List Rat} (hv:b0r H v (xs.map a0e)) (hf:fl<=H.size) (hS:∀ x ∈ xs,szR x<=S) (hK:(xs.length + 2) * (S + 1) < 67108864) :
  a0O env fl z0m [v] H (fun r H'=>(∃ q1 q2 g2 zs,r=.tuple #[q1,q2]/\Whole xs zs g2 ((xs.length + 2) * (S + 1))/\b0d PI H.size H' a0a 2 q1 zs/\b0L H' q2 (a0e g2))/\Ext H H') R:=by
 refine a0i g1A hf (h:=?_)
 intro ρ h0
 have l6:xs.length < 67108864:=by
  have:(xs.length + 2) * 1<=(xs.length + 2) * (S + 1):=l1c _ (by omega)
  omega
 have f7:=hv.slen
 rw [l1w] at f7
 simp [M0C,D0S,h0]
 generalize hG:H.push _=G
 obtain ⟨q,b0⟩:=g0e hG
 have u:=Ext.refl H
 clear hG
 replace u:=u.trans q
 simp [D0T]
 refine (c0C (n:=1) u.1 (by omega) (by omega)).mo ?_
 rintro _ G2 ⟨⟨s1,rfl,I⟩,q⟩
 replace b0:=q.bk b0;replace u:=u.trans q
 have hsz:=u.1
 simp [h0,I.cells,I.plain,hsz]
 generalize hN:Array.setIfInBounds (Array.push _ _) _ _=G3
 obtain ⟨q,F⟩:=new1 hN
 have g5:=a0k b0
 clear hN
 replace b0:=q.bk b0;replace u:=u.trans q;replace I:=I.mo q
 obtain ⟨P,hP⟩:∃ P,P=G2.size:=⟨_,rfl⟩
 rw [<- hP] at F hsz g5 ⊢
 simp [D0U,h0,f7]
 have e6:a0g 1=(false,a0p 1):=a0u 1
 rw [e6] at F I
 refine d0b (n:=xs.length) (A0L H P v xs S) rfl rfl (by decide) (by omega) (by simp) (by simp) ?_ ?_ ?_ ?_
 ·exact ⟨by simp [h0],by simp [h0],by simp,by simp,u,b0,1,s1,by omega,F,I,fun k _ Z=>by omega,by rw [show ((1:Nat):Int)=1 from rfl,g0O];omega⟩
 ·intro i ρ g1 G h hI;simpa [A0L,h] using hI
 ·clear h0 ρ u b0 F I q
  rintro i ρ G hi gi gn ⟨g0,c9,g3,g4,u,b0,m,s,a8,F,I,e4,j2⟩
  have kv:=hv.mo a0K u
  have d1:i < (xs.map a0e).length:=by simpa using hi
  obtain ⟨x,f3,J⟩:=b0r.load kv d1
  rw [l1m] at J
  obtain ⟨s1,s2,rfl,k2,k3⟩:=id J
  have j5:=hS _ (k1D hi)
  have hsz:=u.1
  have e5:=xs[i].den_pos
  simp [D0V,c9,gi,kv.ia d1,f3,k2.cells,k2.plain,k3.cells,k3.plain,hsz]
  generalize hN:Array.setIfInBounds (Array.push _ _) _ _=G3
  obtain ⟨q,b2⟩:=new1 hN
  clear hN
  replace b0:=q.bk b0;replace F:=q.bk F;replace u:=u.trans q;replace I:=I.mo q;replace J:=J.mo q;replace k2:=k2.mo q;replace k3:=k3.mo q
  have e2:(a0e xs[i]).2=a0g ((xs[i].den:Nat):Int):=rfl
  rw [e2] at k3 b2
  have k4:b0g G3 (.agg #[.bool false,s]) (a0g (m:Int)):=⟨s,by rw [a0u],by rw [a0u];exact I⟩
  have O:b0g G3 (.agg #[.bool (a0g ((xs[i].den:Nat):Int)).1,s2]) (a0g ((xs[i].den:Nat):Int)):=⟨s2,rfl,k3⟩
  have j1:=e0h xs[i]
  have l4:i * S<=xs.length * S:=k1E _ (by omega)
  have i3:(xs.length + 2) * (S + 1)=xs.length * S + xs.length + 2 * S + 2:=by grind
  refine a0C ?_
  simp [D0W,g4,F,b2]
  refine (f0x k4 O (by have:=u.1;omega) (by rw [a0j];omega) (by rw [a0j];omega)).mo ?_
  rintro _ G4 ⟨k6,q⟩
  replace b0:=q.bk b0;replace F:=q.bk F;replace b2:=q.bk b2;replace u:=u.trans q;replace I:=I.mo q;replace J:=J.mo q;replace k2:=k2.mo q;replace k3:=k3.mo q;replace k4:=k4.mo q;replace O:=O.mo q
  rw [a0h,a0h] at k6
  simp
  have a2:Int.gcd (m:Int) (xs[i].den:Int)=Nat.gcd m xs[i].den:=rfl
  rw [a2] at k6
  have c7:=Nat.gcd_pos_of_pos_left xs[i].den a8
  have d2:lz (Nat.gcd m xs[i].den:Int)<=lz m:=a0X (Nat.gcd_le_left _ a8)
  refine (b0Z O k6 (by have:=u.1;omega) (by rw [a0j];omega) (by rw [a0j];omega) (by rw [a0h];omega)).mo ?_
  rintro _ G4 ⟨⟨_,_,rfl,⟨s3,rfl,k7⟩,⟨s4,rfl,k8⟩⟩,q⟩
  replace b0:=q.bk b0;replace F:=q.bk F;replace b2:=q.bk b2;replace u:=u.trans q;replace I:=I.mo q;replace J:=J.mo q;replace k2:=k2.mo q;replace k3:=k3.mo q;replace k4:=k4.mo q;replace O:=O.mo q;replace k6:=k6.mo q
  rw [a0h,a0h,y0R] at k7 ⊢
  rw [a0h,a0h] at k8
  have hsz:=u.1
  have d8:H.size<=G4.size + 1:=by omega
  simp [k7.cells,k7.plain,k8.cells,k8.plain,hsz,d8]
  generalize hN:Array.setIfInBounds (Array.setIfInBounds (Array.push (Array.push _ _) _) _ _) _ _=G5
  obtain ⟨q,b3,_⟩:=X0w hN
  clear hN
  replace b0:=q.bk b0;replace F:=q.bk F;replace b2:=q.bk b2;replace u:=u.trans q;replace I:=I.mo q;replace J:=J.mo q;replace k2:=k2.mo q;replace k3:=k3.mo q;replace k4:=k4.mo q;replace O:=O.mo q;replace k6:=k6.mo q;replace k7:=k7.mo q;replace k8:=k8.mo q
  simp [D0X,g4,F,b3]
  obtain ⟨i7,i8,i9,j0⟩:=X0q m xs[i].den a8 e5
  have j3:lz ((xs[i].den / Nat.gcd m xs[i].den:Nat):Int)<=lz (xs[i].den:Int):=a0X j0
  refine (b0G k4 (j:=a0g ((xs[i].den / Nat.gcd m xs[i].den:Nat):Int)) ⟨s3,rfl,k7⟩ u.1 (by rw [a0j];omega) (by rw [a0j];omega)).mo ?_
  rintro _ G6 ⟨⟨s5,rfl,k8⟩,q⟩
  replace b0:=q.bk b0;replace F:=q.bk F;replace b2:=q.bk b2;replace b3:=q.bk b3;replace u:=u.trans q;replace I:=I.mo q;replace J:=J.mo q;replace k2:=k2.mo q;replace k3:=k3.mo q;replace k4:=k4.mo q;replace O:=O.mo q;replace k6:=k6.mo q;replace k7:=k7.mo q
  rw [a0h,a0h,<- l1Y,a0u] at k8 ⊢
  have e7:H.size<=P:=by assumption
  simp [g4,F,k8.cells,k8.plain,e7]
  generalize N:Array.setIfInBounds _ _ _=G7
  have d6:P ≠ H.size:=by omega
  have j7:=a0I N u e7
  have i0:=a0o N b0 d6
  have j9:=k8.setS N F (by decide)
  have i1:=a0r N F
  have l2:=c0h (m:Int) ((xs[i].den / Nat.gcd m xs[i].den:Nat):Int)
  refine Rnd.mk (by simp [gi]) (by simp [gn]) ⟨by simp [g0],by simp [c9],by simp [g3],by simp [g4],j7,i0,m * (xs[i].den / Nat.gcd m xs[i].den),s5,i9,i1,j9,fun k h Z=>?_,?_⟩
  ·by_cases c0:k=i
   ·subst c0;exact i8
   ·exact Nat.dvd_trans (e4 k h (by omega)) i7
  ·rw [l1Y,k1R,l1l];omega
 ·clear h0 ρ u b0 F I q
  rintro ρ G gi gn ⟨g0,c9,g3,g4,u,b0,m,s,a8,F,I,e4,j2⟩
  have e7:H.size<=P:=by assumption
  have i3:(xs.length + 2) * (S + 1)=xs.length * S + xs.length + 2 * S + 2:=by grind
  have l3:(xs.length + 1) * (S + 1)<=(xs.length + 2) * (S + 1):=k1E _ (by omega)
  have hsz:=u.1
  have g6:=a0k F
  simp [D0Y,D0Z,hsz]
  generalize hN:Array.setIfInBounds (Array.push _ _) _ _=G3
  obtain ⟨q,b2⟩:=new1 hN
  clear hN
  replace b0:=q.bk b0;replace F:=q.bk F;replace u:=u.trans q;replace I:=I.mo q
  obtain ⟨P2,i4⟩:∃ P2,P2=G.size:=⟨_,rfl⟩
  rw [<- i4] at b2 hsz g6 ⊢
  simp [x0R,g0,f7]
  refine d0b (n:=xs.length) (A0M H P P2 v xs m ((xs.length + 1) * (S + 1)) s) rfl rfl (by decide) (by omega) (by simp) (by simp) ?_ ?_ ?_ ?_
  ·exact ⟨by simp [g0],by simp [g3],by simp [g4],by simp,u,b0,F,I,by simp [slB],by simp [slB],0,_,b2,by rw [a0Y];exact Lim.nil,by simpa using b0d.nil,fun k _ Z=>by omega,by rw [show ((0:Nat):Int)=0 from rfl,c0v];omega,fun _=>rfl⟩
  ·intro i ρ g1 G h hI;simpa [A0M,h] using hI
  ·clear g0 c9 g3 g4 gi gn u b0 F b2 I q ρ
   rintro i ρ G hi gi gn ⟨a9,g3,g4,U,u,b0,F,I,c8,c5,g,sg,b2,J,ho,e3,d2,i6⟩
   obtain ⟨so,M⟩:∃ so,ρ 10=so:=⟨_,rfl⟩
   rw [M] at c8 c5 ho
   have kv:=hv.mo a0K u
   have d1:i < (xs.map a0e).length:=by simpa using hi
   obtain ⟨x,f3,k2⟩:=b0r.load kv d1
   rw [l1m] at k2
   obtain ⟨s1,s2,rfl,k3,k4⟩:=k2
   have j5:=hS _ (k1D hi)
   have hsz:=u.1
   have e5:=xs[i].den_pos
   have l5:=d0B xs[i]
   have j1:=e0h xs[i]
   have c4:i < (o0J xs m).length:=by simpa [o0J] using hi
   have h8:(o0J xs m)[i]=xs[i].num * ((m / xs[i].den:Nat):Int):=by simp [o0J]
   have j8:(o0J xs m).getD i 0=xs[i].num * ((m / xs[i].den:Nat):Int):=by rw [k1v,k1A c4,<- h8];rfl
   obtain ⟨y,hy⟩:∃ y,y=xs[i].num * ((m / xs[i].den:Nat):Int):=⟨_,rfl⟩
   have c3:lz y<=(xs.length + 1) * (S + 1):=by
    have h1:=c0h xs[i].num ((m / xs[i].den:Nat):Int)
    have h2:lz ((m / xs[i].den:Nat):Int)<=lz m:=a0X (l1J _ _)
    have h3:(xs.length + 1) * (S + 1)=xs.length * S + xs.length + S + 1:=by grind
    rw [hy];omega
   simp [x0S,a9,gi,kv.ia d1,f3,k3.cells,k3.plain,k4.cells,k4.plain,hsz]
   generalize hN:Array.setIfInBounds (Array.push _ _) _ _=G3
   obtain ⟨q,b3⟩:=new1 hN
   clear hN
   replace b0:=q.bk b0;replace F:=q.bk F;replace b2:=q.bk b2;replace u:=u.trans q;replace I:=I.mo q;replace J:=J.mo q;replace k3:=k3.mo q;replace k4:=k4.mo q
   replace ho:=ho.mo d0t q
   have e2:(a0e xs[i]).2=a0g ((xs[i].den:Nat):Int):=rfl
   have e1:(a0e xs[i]).1=a0g xs[i].num:=rfl
   rw [e1] at k3
   rw [e2] at k4
   rw [e1,e2] at b3
   simp [x0T,g4,F,b3]
   refine (b0Z (i:=a0g (m:Int)) (j:=a0g ((xs[i].den:Nat):Int)) ⟨s,by rw [a0u],by rw [a0u];exact I⟩ ⟨s2,rfl,k4⟩ u.1 (by rw [a0j];omega) (by rw [a0j];omega) (by rw [a0h];omega)).mo ?_
   rintro _ G4 ⟨⟨_,_,rfl,⟨s3,rfl,O⟩,⟨s4,rfl,k6⟩⟩,q⟩
   replace b0:=q.bk b0;replace F:=q.bk F;replace b2:=q.bk b2;replace b3:=q.bk b3;replace u:=u.trans q;replace I:=I.mo q;replace J:=J.mo q;replace k3:=k3.mo q
   replace ho:=ho.mo d0t q
   rw [a0h,a0h,y0R] at O ⊢
   rw [a0h,a0h] at k6
   have hsz:=u.1
   have d8:H.size<=G4.size + 1:=by omega
   simp [O.cells,O.plain,k6.cells,k6.plain,hsz,d8]
   generalize hN:Array.setIfInBounds (Array.setIfInBounds (Array.push (Array.push _ _) _) _ _) _ _=G5
   obtain ⟨q,b4,_⟩:=X0w hN
   clear hN
   replace b0:=q.bk b0;replace F:=q.bk F;replace b2:=q.bk b2;replace b3:=q.bk b3;replace u:=u.trans q;replace I:=I.mo q;replace J:=J.mo q;replace k3:=k3.mo q;replace O:=O.mo q;replace k6:=k6.mo q
   replace ho:=ho.mo d0t q
   have j3:lz ((m / xs[i].den:Nat):Int)<=lz m:=a0X (l1J _ _)
   simp [x0U,b3,b4]
   refine (b0G (i:=a0g xs[i].num) (j:=a0g ((m / xs[i].den:Nat):Int)) ⟨s1,rfl,k3⟩ ⟨s3,rfl,O⟩ u.1 (by rw [a0j];omega) (by rw [a0j];omega)).mo ?_
   rintro _ G6 ⟨⟨s5,rfl,k7⟩,q⟩
   replace b0:=q.bk b0;replace F:=q.bk F;replace b2:=q.bk b2;replace b3:=q.bk b3;replace b4:=q.bk b4;replace u:=u.trans q;replace I:=I.mo q;replace J:=J.mo q;replace k3:=k3.mo q;replace O:=O.mo q;replace k6:=k6.mo q
   replace ho:=ho.mo d0t q
   rw [a0h,a0h,<- hy] at k7 ⊢
   have hsz:=u.1
   have g9:∀ b,slB so=some b->b < G6.size:=fun b h=>(ho.ge h).2
   simp [k7.cells,k7.plain,hsz]
   generalize hN:Array.setIfInBounds (Array.push _ _) _ _=G7
   obtain ⟨q,b5⟩:=new1 hN
   clear hN b3 b4
   replace b0:=q.bk b0;replace F:=q.bk F;replace b2:=q.bk b2;replace u:=u.trans q;replace I:=I.mo q;replace J:=J.mo q;replace k3:=k3.mo q;replace O:=O.mo q;replace k6:=k6.mo q;replace k7:=k7.mo q
   replace ho:=ho.mo d0t q
   obtain ⟨Y,hY⟩:∃ Y,Y=G6.size:=⟨_,rfl⟩
   rw [<- hY] at b5 g9 ⊢
   have k9:slB so ≠ some Y:=fun h=>by have:=g9 _ h;omega
   have e0:=ho.ne b0 (by decide)
   obtain ⟨h9,G8,h1,h2,h3,h4⟩:=b0d.app (P:=PI) (sz:=2) (e:=a0a) (by decide) (fun G' cs x _ hl h=>b0g.lx h hl) ho (e2:=a0a) (c:=1) (bytes:=32) (new:=[.bool (a0g y).1,s5]) (x:=y) ⟨s5,rfl,k7⟩ rfl (by simp [k7.plain]) (by simp;omega) (by omega) (by omega) u.1
   obtain ⟨_,_,i5⟩:=e0D (by decide) h1
   have e9:slB h9 = some (G7.size + 1):=by rw [i5];simp [slB]
   simp [x0V,M,b5,k7.cells,h1]
   have d5:=ho.lx (by decide) h3
   have l0:=a0k F
   have l1:=a0k b2
   replace b0:=(h3.2 _ (a0k b0) e0).trans b0
   replace F:=(h3.2 _ (a0k F) c8).trans F
   replace b2:=(h3.2 _ (a0k b2) c5).trans b2
   replace b5:=(h3.2 _ (a0k b5) k9).trans b5
   replace u:=h4 _ (k1x _) u
   replace I:=I.lx d5
   replace J:=J.lx d5
   replace k7:=k7.lx d5
   simp [x0W,U,b2,b5]
   refine (f0x (i:=a0g (g:Int)) (j:=a0g y) ⟨sg,by rw [a0u],by rw [a0u];exact J⟩ ⟨s5,rfl,k7⟩ u.1 (by rw [a0j];omega) (by rw [a0j];omega)).mo ?_
   rintro _ G9 ⟨⟨s6,rfl,k8⟩,q⟩
   replace b0:=q.bk b0;replace F:=q.bk F;replace b2:=q.bk b2;replace u:=u.trans q;replace I:=I.mo q;replace J:=J.mo q
   replace h2:=h2.mo d0t q
   rw [a0h,a0h,a0u] at k8 ⊢
   have a5:H.size<=P2:=by assumption
   simp [U,b2,k8.cells,k8.plain,a5]
   generalize N:Array.setIfInBounds _ _ _=G10
   have a0:d0o (some P2) G9 G10:=by rw [<- N];exact d0o.refl.set
   have c2:Lx G9 G10:=b0f N b2 (by decide)
   have d6:P2 ≠ H.size:=by omega
   have d7:P2 ≠ P:=by omega
   refine Rnd.mk (by simp [gi]) (by simp [gn]) ⟨by simp [a9],by simp [g3],by simp [g4],by simp [U],a0I N u a5,a0o N b0 d6,a0o N F d7,I.lx c2,by simp [e9];omega,by simp [e9];omega,Int.gcd g y,s6,a0r N b2,k8.lx c2,?_,?_,?_,by omega⟩
   ·refine b0d.cast (v':=h9) (by simp) ?_
    rw [k1N c4,h8,<- hy]
    exact h2.off a0 (.inr (by rw [e9];simp;omega)) (fun cs x h=>b0g.lx h c2)
   ·intro k h Z
    by_cases c0:k=i
    ·subst c0;rw [j8,<- hy];exact n1j ..
    ·exact Int.dvd_trans (Int.gcd_dvd_left ..) (e3 k h (by omega))
   ·by_cases h7:y=0
    ·rw [h7,Int.gcd_zero_right];exact d2
    ·exact k1H (a0X (m1N _ h7)) c3
  ·clear g0 c9 g3 g4 gi gn u b0 F b2 I q ρ
   rintro ρ G gi gn ⟨a9,g3,g4,U,u,b0,F,I,c8,c5,g,sg,b2,J,ho,e3,d2,i6⟩
   obtain ⟨so,M⟩:∃ so,ρ 10=so:=⟨_,rfl⟩
   rw [M] at c8 c5 ho
   have c4:(o0J xs m).length=xs.length:=by simp [o0J]
   rw [k1J (by omega)] at ho
   have j6:a0s (false,[])=0:=by unfold a0s g0n;simp [a0y]
   simp [x0X,U,b2]
   refine (d0W (i:=a0g (g:Int)) (j:=(false,[])) ⟨sg,by rw [a0u],by rw [a0u];exact J⟩ ⟨_,rfl,Lim.nil⟩ u.1 (by rw [a0j];omega) (by simp)).mo ?_
   rintro _ G2 ⟨rfl,q⟩
   replace b0:=q.bk b0;replace F:=q.bk F;replace b2:=q.bk b2;replace u:=u.trans q;replace I:=I.mo q;replace J:=J.mo q
   replace ho:=ho.mo d0t q
   rw [j6,a0h]
   have a5:H.size<=P2:=by assumption
   have d6:P2 ≠ H.size:=by omega
   have d7:P2 ≠ P:=by omega
   by_cases hg:g=0
   ·have e8:c0L (g:Int) 0=0:=by rw [hg];rfl
    simp [e8,x0Y]
    refine (c0C (n:=1) u.1 (by omega) (by omega)).mo ?_
    rintro _ G2 ⟨⟨s6,rfl,k3⟩,q⟩
    replace b0:=q.bk b0;replace F:=q.bk F;replace b2:=q.bk b2;replace u:=u.trans q;replace I:=I.mo q;replace J:=J.mo q
    replace ho:=ho.mo d0t q
    have e6:a0g 1=(false,a0p 1):=a0u 1
    rw [e6] at k3 ⊢
    simp [U,b2,k3.cells,k3.plain,a5]
    generalize N:Array.setIfInBounds _ _ _=G3
    have a0:d0o (some P2) G2 G3:=by rw [<- N];exact d0o.refl.set
    have d4:Lx G2 G3:=b0f N b2 (by decide)
    replace ho:=ho.off a0 (.inr c5) (fun cs x h=>b0g.lx h d4)
    replace u:=a0I N u a5
    replace b0:=a0o N b0 d6
    replace F:=a0o N F d7
    replace b2:=a0r N b2
    replace I:=I.lx d4
    clear J
    have J:=k3.lx d4
    obtain ⟨c6,f5⟩:∃ x,x=s6:=⟨_,rfl⟩
    rw [<- f5] at J b2
    obtain ⟨gg,a2⟩:∃ gg:Nat,(gg=g/\0 < g) ∨ gg=1:=⟨1,.inr rfl⟩
    have f0:(1:Nat)=gg:=by rcases a2 with ⟨h,h'⟩ | h <;> omega
    rw [f0] at J
    have a6:∀ k,k < xs.length->(gg:Int) ∣ (o0J xs m).getD k 0:=fun k Z=>by
     rcases a2 with ⟨h,_⟩ | h
     ·rw [h];exact e3 k Z Z
     ·rw [h];exact Int.one_dvd _
    have c7:0 < gg:=by rcases a2 with ⟨h,h'⟩ | h <;> omega
    have i2:(xs.length + 1) * (S + 1)=xs.length * S + xs.length + S + 1:=by grind
    have g8:lz gg<=(xs.length + 1) * (S + 1):=by
     rcases a2 with ⟨h,_⟩ | h
     ·rw [h];exact d2
     ·rw [h,show ((1:Nat):Int)=1 from rfl,g0O];omega
    have c3:∀ k (h:k < xs.length),lz (xs[k].num * ((m / xs[k].den:Nat):Int))<=(xs.length + 1) * (S + 1):=fun k Z=>by
     have h1:=c0h xs[k].num ((m / xs[k].den:Nat):Int)
     have h2:lz ((m / xs[k].den:Nat):Int)<=lz m:=a0X (l1J _ _)
     have h4:=d0B xs[k]
     have h5:=hS _ (k1D Z)
     omega
    have d9:∀ k (h:k < xs.length),(o0J xs m).getD k 0=xs[k].num * ((m / xs[k].den:Nat):Int):=fun k Z=>by
     rw [k1v,k1A (by omega)];simp [o0J]
    simp [r0g,M,ho.slen,c4]
    refine d0b (n:=xs.length) (q0e H P P2 so xs m gg s c6) rfl rfl (by decide) (by omega) (by simp) (by simp) ?_ ?_ ?_ ?_
    ·exact ⟨by simp [M],by simp [g3],by simp [g4],by simp [U],u,b0,F,I,b2,J,o0J xs m,ho,c4,fun k _=>by simp⟩
    ·intro i ρ g1 G h hI;simpa [q0e,h] using hI
    ·clear a9 g3 g4 U M gi gn u b0 F b2 I J ho q ρ
     rintro i ρ G hi gi gn ⟨M,g3,g4,U,u,b0,F,I,b2,J,L,ho,hL,a3⟩
     have a1:i < L.length:=by omega
     have b8:L[i]=(o0J xs m).getD i 0:=by
      have:=a3 i hi
      rw [k1y (by omega),k1v,k1A a1] at this;exact this
     obtain ⟨wi,f2,f9⟩:=OwnsI.load ho a1
     have j4:lz L[i] < 67108864:=by
      have:=c3 i hi
      rw [b8,d9 i hi];omega
     simp [r0h,gi]
     refine a0C ?_
     simp [r0i,M,U,ho.sls.ia a1,f2,b2]
     refine (b0Z (j:=a0g (gg:Int)) f9 ⟨c6,by rw [a0u],by rw [a0u];exact J⟩ u.1 (by rw [a0j];omega) (by rw [a0j];omega) (by rw [a0h];omega)).mo ?_
     rintro _ G4 ⟨⟨_,_,rfl,⟨s3,rfl,O⟩,_⟩,q⟩
     replace b0:=q.bk b0;replace F:=q.bk F;replace b2:=q.bk b2;replace u:=u.trans q;replace I:=I.mo q;replace J:=J.mo q
     replace ho:=ho.mo d0t q
     have d0:(gg:Int) ∣ L[i]:=by rw [b8];exact a6 i hi
     rw [a0h,a0h,Int.tdiv_eq_ediv_of_dvd d0] at O ⊢
     have e0:=ho.ne b0 (by decide)
     obtain ⟨G5,f6,f4,a0⟩:=b0d.store (j:=i) (x:=L[i] / (gg:Int)) (w:=.agg #[.bool (a0g (L[i] / (gg:Int))).1,s3]) ho a1 (by omega) rfl (by simp [O.plain]) (fun G' _ hl=>⟨s3,rfl,O.lx hl⟩) (by decide) (fun G' cs y _ hl h=>b0g.lx h hl)
     have a7:=ho.lx (by decide) a0
     simp [M,ho.sls.ia a1,f6]
     have f8:Ext H G5:=⟨k1H u.1 a0.1,fun b hb=>(a0.2 b (k1P hb u.1) (fun h=>by have:=(ho.ge h).1;omega)).trans (u.2 b hb)⟩
     refine Rnd.mk (by simp [gi]) (by simp [gn]) ⟨by simp [M],by simp [g3],by simp [g4],by simp [U],f8,(a0.2 _ (a0k b0) e0).trans b0,(a0.2 _ (a0k F) c8).trans F,I.lx a7,(a0.2 _ (a0k b2) c5).trans b2,J.lx a7,L.set i (L[i] / (gg:Int)),f4,by simpa using hL,fun k Z=>?_⟩
     by_cases c0:k=i
     ·subst c0
      rw [k1B (by omega),k1v,l1W a1,l1d,b8]
     ·rw [k1v,List.getElem?_set_ne (by omega),<- k1v,a3 k Z]
      by_cases d3:k < i
      ·rw [k1B d3,k1B (by omega)]
      ·rw [k1y d3,k1y (by omega)]
    ·clear a9 g3 g4 U M gi gn u b0 F b2 I J ho q ρ
     rintro ρ G gi gn ⟨M,g3,g4,U,u,b0,F,I,b2,J,L,ho,hL,a3⟩
     simp [r0j,g4,U,F,b2]
     refine (d0X (i:=a0g (m:Int)) (j:=a0g (gg:Int)) ⟨s,by rw [a0u],by rw [a0u];exact I⟩ ⟨c6,by rw [a0u],by rw [a0u];exact J⟩ u.1 (by rw [a0j];omega) (by rw [a0j];omega) (by rw [a0h];omega)).mo ?_
     rintro _ G4 ⟨⟨_,rfl,s3,s4,rfl,O,k6⟩,q⟩
     replace b0:=q.bk b0;replace F:=q.bk F;replace b2:=q.bk b2;replace u:=u.trans q;replace I:=I.mo q;replace J:=J.mo q
     replace ho:=ho.mo d0t q
     rw [a0h,a0h] at O k6 ⊢
     have hsz:=u.1
     simp [O.cells,O.plain,k6.cells,k6.plain,hsz]
     generalize hN:Array.setIfInBounds (Array.push _ _) _ _=G5
     obtain ⟨q,b3⟩:=new1 hN
     clear hN
     replace b0:=q.bk b0;replace F:=q.bk F;replace b2:=q.bk b2;replace u:=u.trans q;replace I:=I.mo q;replace J:=J.mo q;replace O:=O.mo q;replace k6:=k6.mo q
     replace ho:=ho.mo d0t q
     refine a0C ?_
     have hz:=a0k b0
     simp [r0k,g3,M,b0,b3,O.cells,O.plain,k6.cells,k6.plain,hz]
     generalize N:Array.setIfInBounds _ _ _=G6
     refine fun _=>?_
     have c1:Lx _ G6:=b0f N b0 (by decide)
     have f1:LxT a0a _ G6:=b0f N b0 (by decide)
     refine ⟨so,_,⟨rfl,rfl⟩,Rat.divInt m gg,L,?_,ho.lxm f1 (fun cs x h=>b0g.lx h c1),s3,s4,rfl,O.lx c1,k6.lx c1⟩
     have a4:∀ k (h:k < xs.length),L[k]'(by omega)=xs[k].num * ((m / xs[k].den:Nat):Int) / (gg:Int)/\(gg:Int) ∣ xs[k].num * ((m / xs[k].den:Nat):Int):=by
      intro k Z
      have h1:=a3 k Z
      have h2:=a6 k Z
      have h3:=d9 k Z
      rw [k1B Z,h3,k1v,k1A (by omega)] at h1
      rw [h3] at h2
      exact ⟨h1,h2⟩
     refine ⟨hL,?_,fun k Z=>?_,fun z hz=>?_,?_⟩
     ·exact o0R a8 c7
     ·rw [(a4 k Z).1];exact y0U (e4 k Z Z) a8 c7 (a4 k Z).2
     ·obtain ⟨k,Z,rfl⟩:=l1L hz
      have b9:k < xs.length:=by omega
      have h1:=c3 k b9
      have h6:=O0j (a4 k b9).2
      rw [(a4 k b9).1]
      omega
     ·have:=b0S (m:Int) (gg:Int)
      omega
   ·have e8:¬ c0L (g:Int) 0=0:=by unfold c0L;split;omega;split <;> omega
    simp [e8]
    obtain ⟨c6,f5⟩:∃ x,x=sg:=⟨_,rfl⟩
    rw [<- f5] at J b2
    obtain ⟨gg,g7,a2⟩:∃ gg:Nat,gg=g/\((gg=g/\0 < g) ∨ gg=1):=⟨g,rfl,.inl ⟨rfl,by omega⟩⟩
    have f0:g=gg:=g7.symm
    rw [f0] at J
    have a6:∀ k,k < xs.length->(gg:Int) ∣ (o0J xs m).getD k 0:=fun k Z=>by
     rcases a2 with ⟨h,_⟩ | h
     ·rw [h];exact e3 k Z Z
     ·rw [h];exact Int.one_dvd _
    have c7:0 < gg:=by rcases a2 with ⟨h,h'⟩ | h <;> omega
    have i2:(xs.length + 1) * (S + 1)=xs.length * S + xs.length + S + 1:=by grind
    have g8:lz gg<=(xs.length + 1) * (S + 1):=by
     rcases a2 with ⟨h,_⟩ | h
     ·rw [h];exact d2
     ·rw [h,show ((1:Nat):Int)=1 from rfl,g0O];omega
    have c3:∀ k (h:k < xs.length),lz (xs[k].num * ((m / xs[k].den:Nat):Int))<=(xs.length + 1) * (S + 1):=fun k Z=>by
     have h1:=c0h xs[k].num ((m / xs[k].den:Nat):Int)
     have h2:lz ((m / xs[k].den:Nat):Int)<=lz m:=a0X (l1J _ _)
     have h4:=d0B xs[k]
     have h5:=hS _ (k1D Z)
     omega
    have d9:∀ k (h:k < xs.length),(o0J xs m).getD k 0=xs[k].num * ((m / xs[k].den:Nat):Int):=fun k Z=>by
     rw [k1v,k1A (by omega)];simp [o0J]
    simp [r0g,M,ho.slen,c4]
    refine d0b (n:=xs.length) (q0e H P P2 so xs m gg s c6) rfl rfl (by decide) (by omega) (by simp) (by simp) ?_ ?_ ?_ ?_
    ·exact ⟨by simp [M],by simp [g3],by simp [g4],by simp [U],u,b0,F,I,b2,J,o0J xs m,ho,c4,fun k _=>by simp⟩
    ·intro i ρ g1 G h hI;simpa [q0e,h] using hI
    ·clear a9 g3 g4 U M gi gn u b0 F b2 I J ho q ρ
     rintro i ρ G hi gi gn ⟨M,g3,g4,U,u,b0,F,I,b2,J,L,ho,hL,a3⟩
     have a1:i < L.length:=by omega
     have b8:L[i]=(o0J xs m).getD i 0:=by
      have:=a3 i hi
      rw [k1y (by omega),k1v,k1A a1] at this;exact this
     obtain ⟨wi,f2,f9⟩:=OwnsI.load ho a1
     have j4:lz L[i] < 67108864:=by
      have:=c3 i hi
      rw [b8,d9 i hi];omega
     simp [r0h,gi]
     refine a0C ?_
     simp [r0i,M,U,ho.sls.ia a1,f2,b2]
     refine (b0Z (j:=a0g (gg:Int)) f9 ⟨c6,by rw [a0u],by rw [a0u];exact J⟩ u.1 (by rw [a0j];omega) (by rw [a0j];omega) (by rw [a0h];omega)).mo ?_
     rintro _ G4 ⟨⟨_,_,rfl,⟨s3,rfl,O⟩,_⟩,q⟩
     replace b0:=q.bk b0;replace F:=q.bk F;replace b2:=q.bk b2;replace u:=u.trans q;replace I:=I.mo q;replace J:=J.mo q
     replace ho:=ho.mo d0t q
     have d0:(gg:Int) ∣ L[i]:=by rw [b8];exact a6 i hi
     rw [a0h,a0h,Int.tdiv_eq_ediv_of_dvd d0] at O ⊢
     have e0:=ho.ne b0 (by decide)
     obtain ⟨G5,f6,f4,a0⟩:=b0d.store (j:=i) (x:=L[i] / (gg:Int)) (w:=.agg #[.bool (a0g (L[i] / (gg:Int))).1,s3]) ho a1 (by omega) rfl (by simp [O.plain]) (fun G' _ hl=>⟨s3,rfl,O.lx hl⟩) (by decide) (fun G' cs y _ hl h=>b0g.lx h hl)
     have a7:=ho.lx (by decide) a0
     simp [M,ho.sls.ia a1,f6]
     have f8:Ext H G5:=⟨k1H u.1 a0.1,fun b hb=>(a0.2 b (k1P hb u.1) (fun h=>by have:=(ho.ge h).1;omega)).trans (u.2 b hb)⟩
     refine Rnd.mk (by simp [gi]) (by simp [gn]) ⟨by simp [M],by simp [g3],by simp [g4],by simp [U],f8,(a0.2 _ (a0k b0) e0).trans b0,(a0.2 _ (a0k F) c8).trans F,I.lx a7,(a0.2 _ (a0k b2) c5).trans b2,J.lx a7,L.set i (L[i] / (gg:Int)),f4,by simpa using hL,fun k Z=>?_⟩
     by_cases c0:k=i
     ·subst c0
      rw [k1B (by omega),k1v,l1W a1,l1d,b8]
     ·rw [k1v,List.getElem?_set_ne (by omega),<- k1v,a3 k Z]
      by_cases d3:k < i
      ·rw [k1B d3,k1B (by omega)]
      ·rw [k1y d3,k1y (by omega)]
    ·clear a9 g3 g4 U M gi gn u b0 F b2 I J ho q ρ
     rintro ρ G gi gn ⟨M,g3,g4,U,u,b0,F,I,b2,J,L,ho,hL,a3⟩
     simp [r0j,g4,U,F,b2]
     refine (d0X (i:=a0g (m:Int)) (j:=a0g (gg:Int)) ⟨s,by rw [a0u],by rw [a0u];exact I⟩ ⟨c6,by rw [a0u],by rw [a0u];exact J⟩ u.1 (by rw [a0j];omega) (by rw [a0j];omega) (by rw [a0h];omega)).mo ?_
     rintro _ G4 ⟨⟨_,rfl,s3,s4,rfl,O,k6⟩,q⟩
     replace b0:=q.bk b0;replace u:=u.trans q
     replace ho:=ho.mo d0t q
     rw [a0h,a0h] at O k6 ⊢
     have hsz:=u.1
     simp [O.cells,O.plain,k6.cells,k6.plain,hsz]
     generalize hN:Array.setIfInBounds (Array.push _ _) _ _=G5
     obtain ⟨q,b3⟩:=new1 hN
     clear hN
     replace b0:=q.bk b0;replace u:=u.trans q;replace O:=O.mo q;replace k6:=k6.mo q
     replace ho:=ho.mo d0t q
     refine a0C ?_
     have hz:=a0k b0
     simp [r0k,g3,M,b0,b3,O.cells,O.plain,k6.cells,k6.plain,hz]
     generalize N:Array.setIfInBounds _ _ _=G6
     refine fun _=>?_
     have c1:Lx _ G6:=b0f N b0 (by decide)
     have f1:LxT a0a _ G6:=b0f N b0 (by decide)
     refine ⟨so,_,⟨rfl,rfl⟩,Rat.divInt m gg,L,?_,ho.lxm f1 (fun cs x h=>b0g.lx h c1),s3,s4,rfl,O.lx c1,k6.lx c1⟩
     have a4:∀ k (h:k < xs.length),L[k]'(by omega)=xs[k].num * ((m / xs[k].den:Nat):Int) / (gg:Int)/\(gg:Int) ∣ xs[k].num * ((m / xs[k].den:Nat):Int):=by
      intro k Z
      have h1:=a3 k Z
      have h2:=a6 k Z
      have h3:=d9 k Z
      rw [k1B Z,h3,k1v,k1A (by omega)] at h1
      rw [h3] at h2
      exact ⟨h1,h2⟩
     refine ⟨hL,?_,fun k Z=>?_,fun z hz=>?_,?_⟩
     ·exact o0R a8 c7
     ·rw [(a4 k Z).1];exact y0U (e4 k Z Z) a8 c7 (a4 k Z).2
     ·obtain ⟨k,Z,rfl⟩:=l1L hz
      have b9:k < xs.length:=by omega
      have h1:=c3 k b9
      have h6:=O0j (a4 k b9).2
      rw [(a4 k b9).1]
      omega
     ·have:=b0S (m:Int) (gg:Int)
      omega
def r0Y (z:Int):Bool:=decide (-9223372036854775808<=z/\z < 9223372036854775808)
def toV (z:Int):Value:=.tuple #[.int .i64 (if r0Y z then z else 0),.bool (r0Y z)]
theorem Y0O {n:Nat} (h:n<=9223372036854775808):IntKind.i64.wrap (IntKind.u64.wrap (0 - (n:Int))) = -(n:Int):=by
 rw [a0z]
 show (if (true && decide (((0 - (n:Int)) % 18446744073709551616) % (2 ^ 64:Int) ≥ (2 ^ 63:Int)))=true then ((0 - (n:Int)) % 18446744073709551616) % (2 ^ 64:Int) - (2 ^ 64:Int) else ((0 - (n:Int)) % 18446744073709551616) % (2 ^ 64:Int)) = -(n:Int)
 rw [show (2 ^ 64:Int)=18446744073709551616 from rfl,show (2 ^ 63:Int)=9223372036854775808 from rfl]
 simp only [n1A,l1k]
 split <;> omega
theorem i1j {i:Nat} (h:i < 2):(4294967296:Nat) ^ i=2 ^ (32 * i):=by
 rw [Nat.pow_mul]
theorem L0A {z:Int} (h:2 < lz z):r0Y z=false:=by
 have:¬ z.natAbs < 4294967296 ^ 2:=fun c=>by have:=e0r c;unfold lz at h;omega
 unfold r0Y;simp;intro _;omega
theorem m0K {z:Int} (h:b0g H v (a0g z)) (hf:fl<=H.size) (hl:lz z < 1073741824) :
  a0O env fl B0I [v] H (fun r H'=>r=toV z/\Ext H H') R:=by
 refine a0i h1z hf (h:=?_)
 intro ρ h0
 obtain ⟨s0,rfl,I⟩:=id h
 simp [N0z,H0Z,I0a,h0,I.cells,I.plain]
 generalize hG:H.push _=G
 obtain ⟨c,b0⟩:=g0e hG
 have e:=Ext.refl H
 clear hG
 replace e:=e.trans c;replace I:=I.mo c
 have a6:(a0g z).2.length=lz z:=a0j z
 refine (b0R (h.mo e) e.1 (by rw [a0j];omega)).mo ?_
 rintro w G2 ⟨k,c⟩
 replace b0:=c.bk b0;replace e:=e.trans c;replace I:=I.mo c
 rw [a0h] at k
 obtain ⟨d,hd⟩:∃ d,d=z.natAbs:=⟨_,rfl⟩
 have M:(a0p d).length=lz z:=by rw [hd];rfl
 rw [<- hd] at k
 simp [I0b,k.slen,M]
 refine ⟨fun h2=>?_,fun h2=>?_⟩
 ·simp [I0c,toV,L0A (z:=z) (by omega)]
 ·simp [I0d,I0e,k.slen,M]
  refine d0b (n:=lz z) (fun i ρ G=>ρ 1=.pointer (some ⟨H.size,0,none⟩)/\ρ 13=w/\Ext H G/\a0f.bk G H.size=.row false a0a [.bool (a0g z).1,s0]/\Lim G w (a0p d)/\ρ 5=.int .u64 ((a0y ((a0p d).take i):Nat):Int)) rfl rfl (by decide) (by omega) (by simp) (by simp) ?_ ?_ ?_ ?_
  ·exact ⟨by simp,by simp,e,b0,k,by simp [a0y]⟩
  ·intro i ρ a8 G h hI;simpa [h] using hI
  ·clear h0 ρ e b0 I k c
   rintro i ρ G hi gi gn ⟨Z,J,e,b0,k,y⟩
   have u:i < (a0p d).length:=by omega
   have a0:=k.load u (Ext.refl G)
   have F:=a0R u
   have a2:(a0p d).getD i 0 < 4294967296:=k.2 _ (by rw [k1v,k1A u];exact k1D u)
   have L:=g0q ((a0p d).take i) (fun x e=>k.2 _ (m1s e))
   rw [l1v,l1x (by omega),i1j (by omega)] at L
   rw [i1j (by omega)] at F
   obtain ⟨A,hA⟩:∃ A,A=(a0p d).getD i 0:=⟨_,rfl⟩
   obtain ⟨N,hN⟩:∃ N,N=a0y ((a0p d).take i):=⟨_,rfl⟩
   rw [<- hA] at a0 F a2
   rw [<- hN] at L F y
   have hp:(2:Nat) ^ (32 * i)<=4294967296:=by
    have:(2:Nat) ^ (32 * i)<=2 ^ 32:=l1P (by omega) (by omega)
    exact this
   have a5:A * 2 ^ (32 * i)<=4294967295 * 4294967296:=l1u (by omega) hp
   have eA:IntKind.u64.wrap (A:Int)=(A:Int):=by rw [a0z];omega
   have a1:IntKind.i64.wrap (32 * (i:Int))=((32 * i:Nat):Int):=by rw [a0S (by omega) (by omega)];omega
   have s1:=K0n (tag:=0) (n:=A) (s:=32 * i) (k':=.i64) (by omega)
   rw [k1Y (by omega)] at s1
   have s2:=b1J (tag:=0) (a:=N) (b:=A * 2 ^ (32 * i)) (by omega) (by omega)
   rw [u0R L] at s2
   simp [-Int.natCast_add,-Int.natCast_mul,-Int.natCast_pow,I0f,I0g,gi,J,y,k.ia u,a0,eA,a1,s1,s2]
   exact Rnd.mk (by simp [gi]) (by simp [gn]) ⟨by simp [Z],by simp [J],e,b0,k,by simp [-Int.natCast_add,-Int.natCast_mul,-Int.natCast_pow];rw [F,k1Z]⟩
  ·clear h0 ρ e b0 I k c
   rintro ρ G gi gn ⟨Z,J,e,b0,k,y⟩
   have a4:d < 4294967296 ^ (lz z):=by have:=e0E d;rwa [M] at this
   have a7:d < 18446744073709551616:=k1P a4 (k1H (l1P (by omega) (show lz z<=2 by omega)) (by decide))
   rw [k1J (by omega),a0q] at y
   have a3:=a0k b0
   simp [y0q,Z,b0]
   refine (b0B (h.mo e) e.1 (by rw [a0j];omega)).mo ?_
   rintro _ G3 ⟨rfl,c⟩
   replace b0:=c.bk b0;replace e:=e.trans c
   rw [a0h]
   have a3:=a0k b0
   have hu:r0Y z=false->toV z=.tuple #[.int .i64 0,.bool false]:=fun h=>by rw [toV,h];rfl
   have hv:r0Y z=true->toV z=.tuple #[.int .i64 z,.bool true]:=fun h=>by rw [toV,h];rfl
   clear c
   by_cases O:z < 0
   ·by_cases q:(d:Int)<=9223372036854775808
    ·have j:r0Y z=true:=by unfold r0Y;simp;omega
     have U:=Y0O (n:=d) (by omega)
     have e2:-(d:Int)=z:=by omega
     rw [e2] at U
     simp [O,q,y,y0r,U,hv j]
     try (rw [show IntKind.i64.wrap (IntKind.u64.wrap (-(d:Int)))=z by rw [<- Int.zero_sub];exact U];simp)
    ·have j:r0Y z=false:=by unfold r0Y;simp;omega
     simp [O,q,y,r0D,Z,b0]
     refine (b0B (h.mo e) e.1 (by rw [a0j];omega)).mo ?_
     rintro _ G4 ⟨rfl,c⟩
     rw [a0h]
     simp [O,r0E,hu j]
   ·simp [O,y,r0D,Z,b0]
    refine (b0B (h.mo e) e.1 (by rw [a0j];omega)).mo ?_
    rintro _ G4 ⟨rfl,c⟩
    rw [a0h]
    have e2:(d:Int)=z:=by omega
    by_cases q:z < 9223372036854775808
    ·have j:r0Y z=true:=by unfold r0Y;simp;omega
     have U:IntKind.i64.wrap z=z:=a0S (by omega) q
     simp [O,q,y,y0s,U,hv j,e2]
    ·have j:r0Y z=false:=by unfold r0Y;simp;omega
     simp [O,q,y,r0E,hu j,e2]
def eV:Value:=.agg #[]
def w0C:Value:=.iface f0I (.agg #[])
def f0M (z:Int):Prop:=-2147483648 < z/\z < 2147483648
def h1Q:Value->a0D->Prop
 | .iface ty v,R=>R (.iface ty v)
 | _,_=>False
theorem k0I {c:TypeId} {v:Value}:h1Q (.iface c v) R=R (.iface c v):=nr rfl
theorem u0m {E:Env} {t:b0c} {x:Opd} {K:o0d}:WS E fl t H (.pan x) K R=h1Q (ev t x) R:=by
 simp only [WS,opA]
 cases ev t x <;> simp [h1Q]
theorem q0y {a b:Int} (c:f0M a) (hb:f0M b):-4611686018427387904 < a * b/\a * b < 4611686018427387904:=by
 obtain ⟨e,j⟩:=c
 obtain ⟨k,b2⟩:=hb
 have h:(a * b).natAbs<=2147483647 * 2147483647:=by
  rw [m1f];exact l1u (by omega) (by omega)
 omega
theorem q0x {a b:Int} (c:f0M a) (hb:f0M b):IntKind.i64.wrap (a * b)=a * b:=by
 have:=q0y c hb
 exact a0S (by omega) (by omega)
theorem b1E (x y:Int):lz (x - y)<=max (lz x) (lz y) + 1:=by
 rw [m1D];have:=h0s x (-y);rwa [f0w] at this
theorem push2 {z1 z2:Blk} (c:Array.push (Array.push H z1) z2=G):Ext H G/\a0f.bk G H.size=z1/\a0f.bk G (H.size + 1)=z2:=by
 rw [<- c];exact ⟨(Ext.refl H).push.push,by simp,by simp⟩
theorem f0F {a b:Int} (e:fl<=H.size) :
  a0O env fl z0x [.int .i64 a,.int .i64 b] H (fun r H'=>r=.int .i64 (c0L a b)/\Ext H H') R:=by
 refine a0i h1y e (h:=?_)
 intro ρ c
 simp [N0y,H0T,H0U,c]
 refine ⟨fun h=>?_,fun h=>?_⟩
 ·have:c0L a b = -1:=by unfold c0L;rw [k1B h]
  simp [H0V,this]
 ·simp [H0W,c]
  refine ⟨fun h=>?_,fun h=>?_⟩
  ·have:c0L a b=1:=by unfold c0L;rw [k1y (by omega),k1B (by omega)]
   simp [H0X,this]
  ·have:c0L a b=0:=by unfold c0L;rw [k1y (by omega),k1y (by omega)]
   simp [H0Y,this]
theorem f0l {z:Int} (s:fl<=H.size) (hR:R w0C) :
  a0O env fl u0G [.int .i64 z] H (fun r H'=>(r=.int .i64 z/\f0M z)/\Ext H H') R:=by
 refine a0i a1E s (h:=?_)
 intro ρ j
 simp [K0l,w0n,w0o,j]
 by_cases k:z<=-2147483648
 ·have c:¬ (-2147483648 < z):=by omega
  simp [k,c,w0p,u0m,k0I]
  exact hR
 ·have c:-2147483648 < z:=by omega
  by_cases q:2147483648<=z
  ·have e:¬ z < 2147483648:=by omega
   simp [k,c,q,e,j,w0p,u0m,k0I]
   exact hR
  ·have e:z < 2147483648:=by omega
   simp [k,c,q,e,j,w0q,f0M]
theorem o0p {a b c d:Int} (q:fl<=H.size) (j:f0M a) (hb:f0M b) (hc:f0M c) (k:f0M d) :
  a0O env fl z0w [eV,.int .i64 a,.int .i64 b,.int .i64 c,.int .i64 d] H (fun r H'=>r=.int .i64 (c0L (a * b) (c * d))/\Ext H H') R:=by
 refine a0i h1t q (h:=?_)
 intro ρ e
 have m1:=q0x j hb
 have u:=q0x hc k
 simp [N0t,H0y,H0z,e,eV,m1,u]
 refine (f0F (by simp)).mo ?_
 rintro _ G ⟨rfl,s⟩
 simp
theorem s0H {a:Int} (k:fl<=H.size) (j:f0M a) :
  a0O env fl m0z [eV,.int .i64 a] H (fun r H'=>r=.int .i64 (-a)/\Ext H H') R:=by
 refine a0i h1u k (h:=?_)
 intro ρ e
 obtain ⟨q,s⟩:=j
 have c:IntKind.i64.wrap (-a) = -a:=a0S (by omega) (by omega)
 simp [N0u,H0A,H0B,e,eV,c]
theorem q0z {a:Int} (e:fl<=H.size) :
  a0O env fl o0o [eV,.int .i64 a] H (fun r H'=>r=.int .i64 (c0L a 0)/\Ext H H') R:=by
 refine a0i h1w e (h:=?_)
 intro ρ c
 simp [N0w,H0P,H0Q,c,eV]
 refine (f0F (by simp)).mo ?_
 rintro _ G ⟨rfl,j⟩
 simp
theorem l0h {a:Int} (y:fl<=H.size) (x:f0M a) :
  a0O env fl s0F [eV,.int .i64 a] H (fun r H'=>b0g H' r (a0g a)/\Ext H H') R:=by
 refine a0i h1v y (h:=?_)
 intro ρ v
 obtain ⟨I,J⟩:=x
 simp [N0v,H0M,H0N,v,eV]
 generalize k:(H.push _).push _=G
 obtain ⟨c,_,b0⟩:=push2 k
 have e:=Ext.refl H
 clear k
 replace e:=e.trans c
 refine (c0C e.1 (by omega) (by omega)).mo ?_
 rintro _ s ⟨⟨F,rfl,j⟩,c⟩
 replace b0:=c.bk b0;replace e:=e.trans c
 have L:=a0k b0
 simp [b0,j.cells,j.plain]
 generalize q:Array.setIfInBounds _ _ _=G3
 have z:Lx s G3:=b0f q b0 (by decide)
 have u:=a0r q b0
 simp [u]
 exact fun _=>⟨F,rfl,j.lx z⟩
theorem m0A {z:Int} (h:b0g H v (a0g z)) (u:fl<=H.size) (x:lz z < 1073741824) (hR:R w0C) :
  a0O env fl j0D [eV,v] H (fun r H'=>(r=.int .i64 z/\f0M z)/\Ext H H') R:=by
 refine a0i a1D u (h:=?_)
 intro ρ q
 obtain ⟨F,rfl,k⟩:=id h
 simp [K0k,w0j,w0k,q,eV,k.cells,k.plain]
 generalize j:(H.push _).push _=G
 obtain ⟨c,_,b0⟩:=push2 j
 have e:=Ext.refl H
 clear j
 replace e:=e.trans c
 refine (m0K (h.mo e) e.1 x).mo ?_
 rintro _ y ⟨rfl,c⟩
 replace e:=e.trans c
 unfold toV
 simp [w0l]
 cases hz:r0Y z
 ·simp [H0O,u0m,k0I]
  exact hR
 ·simp [w0m]
  refine (f0l e.1 hR).mo ?_
  rintro _ G3 ⟨⟨rfl,s⟩,c⟩
  simp [s]
theorem j0E {a b c d e:Int} (v:fl<=H.size) (j:f0M a) (hb:f0M b) (hc:f0M c) (k:f0M d) (u:e ≠ 0) (hR:R w0C) :
  a0O env fl q0v [eV,.int .i64 a,.int .i64 b,.int .i64 c,.int .i64 d,.int .i64 e] H (fun r H'=>(r=.int .i64 ((a * b - c * d).tdiv e)/\f0M ((a * b - c * d).tdiv e))/\Ext H H') R:=by
 refine a0i h1x v (h:=?_)
 intro ρ q
 have m1:=q0x j hb
 have y:=q0x hc k
 have z1:=q0y j hb
 have z2:=q0y hc k
 have z:IntKind.i64.wrap (a * b - c * d)=a * b - c * d:=a0S (by omega) (by omega)
 have F:IntKind.i64.wrap ((a * b - c * d).tdiv e)=(a * b - c * d).tdiv e:=by
  have:((a * b - c * d).tdiv e).natAbs<=(a * b - c * d).natAbs:=by rw [Int.natAbs_tdiv];exact l1J _ _
  exact a0S (by omega) (by omega)
 simp [N0x,H0R,H0S,q,eV,m1,y,z,w0T u,F]
 refine (f0l (by simp) hR).mo ?_
 rintro _ G ⟨⟨rfl,s⟩,x⟩
 simp [s]
theorem o0e {a b c d:Int} {N O U Z:Value} (ha:b0g H N (a0g a)) (hb:b0g H O (a0g b)) (hc:b0g H U (a0g c)) (hd:b0g H Z (a0g d)) (hf:fl<=H.size)
  (la:lz a < 67108864) (lb:lz b < 67108864) (lc:lz c < 67108864) (ld:lz d < 67108864) :
  a0O env fl z0v [eV,N,O,U,Z] H (fun r H'=>r=.int .i64 (c0L (a * b) (c * d))/\Ext H H') R:=by
 refine a0i h1m hf (h:=?_)
 intro ρ h0
 obtain ⟨I,rfl,v⟩:=id ha
 obtain ⟨J,rfl,x⟩:=id hb
 obtain ⟨L,rfl,q⟩:=id hc
 obtain ⟨M,rfl,s⟩:=id hd
 simp [N0m,H0j,h0,eV,v.cells,v.plain,x.cells,x.plain,q.cells,q.plain,s.cells,s.plain]
 generalize u:((((H.push _).push _).push _).push _).push _=G
 have e:Ext H G:=by rw [<- u];exact (Ext.refl H).push.push.push.push.push
 have b1:a0f.bk G (H.size + 1)=.row false a0a [.bool (a0g a).1,I]:=by rw [<- u];simp
 have b2:a0f.bk G (H.size + 2)=.row false a0a [.bool (a0g b).1,J]:=by rw [<- u];simp
 have b3:a0f.bk G (H.size + 3)=.row false a0a [.bool (a0g c).1,L]:=by rw [<- u];simp
 have z:a0f.bk G (H.size + 4)=.row false a0a [.bool (a0g d).1,M]:=by rw [<- u];simp
 have k:=Ext.refl H
 clear u
 replace k:=k.trans e;replace v:=v.mo e;replace x:=x.mo e;replace q:=q.mo e;replace s:=s.mo e
 refine a0C ?_
 simp [H0k,b1,b2]
 refine (b0G (i:=a0g a) (j:=a0g b) ⟨I,rfl,v⟩ ⟨J,rfl,x⟩ (by have:=k.1;omega) (by rw [a0j];omega) (by rw [a0j];omega)).mo ?_
 rintro _ G2 ⟨y,e⟩
 replace b3:=e.bk b3;replace z:=e.bk z;replace k:=k.trans e;replace q:=q.mo e;replace s:=s.mo e
 rw [a0h,a0h] at y
 simp [b3,z]
 refine (b0G (i:=a0g c) (j:=a0g d) ⟨L,rfl,q⟩ ⟨M,rfl,s⟩ (by have:=k.1;omega) (by rw [a0j];omega) (by rw [a0j];omega)).mo ?_
 rintro _ G3 ⟨F,e⟩
 replace k:=k.trans e;replace y:=y.mo e
 rw [a0h,a0h] at F
 have l1:=c0h a b
 have l2:=c0h c d
 simp
 refine (d0W y F (by have:=k.1;omega) (by rw [a0j];omega) (by rw [a0j];omega)).mo ?_
 rintro _ G4 ⟨rfl,e⟩
 rw [a0h,a0h]
 simp
theorem s0l {a:Int} (s:b0g H v (a0g a)) (z:fl<=H.size) (la:lz a < 67108864) :
  a0O env fl m0y [eV,v] H (fun r H'=>b0g H' r (a0g (-a))/\Ext H H') R:=by
 refine a0i h1n z (h:=?_)
 intro ρ y
 obtain ⟨L,rfl,u⟩:=id s
 simp [N0n,H0l,H0m,y,eV,u.cells,u.plain]
 generalize k:((H.push _).push _).push _=G
 have c:Ext H G:=by rw [<- k];exact (Ext.refl H).push.push.push
 have b2:a0f.bk G (H.size + 2)=.row false a0a [.bool false,.slice none 0 0]:=by rw [<- k];simp
 have e:=Ext.refl H
 clear k
 replace e:=e.trans c
 refine (e0H (s.mo e) e.1 (by rw [a0j];omega)).mo ?_
 rintro _ x ⟨⟨I,rfl,j⟩,c⟩
 replace b2:=c.bk b2;replace e:=e.trans c
 rw [a0h] at j ⊢
 have J:=a0k b2
 simp [b2,j.cells,j.plain]
 generalize q:Array.setIfInBounds _ _ _=G3
 have F:Lx x G3:=b0f q b2 (by decide)
 have b3:=a0r q b2
 simp [b3]
 exact fun _=>⟨I,rfl,j.lx F⟩
theorem l0e {a:Int} (c:b0g H v (a0g a)) (k:fl<=H.size) :
  a0O env fl s0E [eV,v] H (fun r H'=>b0g H' r (a0g a)/\Ext H H') R:=by
 refine a0i h1o k (h:=?_)
 intro ρ j
 obtain ⟨s,rfl,e⟩:=id c
 simp [N0o,H0n,H0o,j,eV,e.cells,e.plain]
 exact fun q=>c.mo q
theorem i0W {a:Int} (c:b0g H v (a0g a)) (k:fl<=H.size) :
  a0O env fl k0x [eV,v] H (fun r H'=>b0g H' r (a0g a)/\Ext H H') R:=by
 refine a0i h1p k (h:=?_)
 intro ρ j
 obtain ⟨s,rfl,e⟩:=id c
 simp [N0p,H0p,H0q,j,eV,e.cells,e.plain]
 exact fun q=>c.mo q
theorem q0j {a:Int} (s:b0g H v (a0g a)) (y:fl<=H.size) (la:lz a < 67108864) :
  a0O env fl o0n [eV,v] H (fun r H'=>r=.int .i64 (c0L a 0)/\Ext H H') R:=by
 refine a0i h1q y (h:=?_)
 intro ρ x
 obtain ⟨F,rfl,u⟩:=id s
 simp [N0q,H0r,H0s,x,eV,u.cells,u.plain]
 generalize q:(H.push _).push _=G
 obtain ⟨c,_,b0⟩:=push2 q
 have e:=Ext.refl H
 clear q
 replace e:=e.trans c
 have k:a0s (false,[])=0:=by unfold a0s g0n;simp [a0y]
 refine (d0W (j:=(false,[])) (s.mo e) ⟨_,rfl,Lim.nil⟩ e.1 (by rw [a0j];omega) (by simp)).mo ?_
 rintro _ z ⟨rfl,c⟩
 rw [k,a0h]
 simp
theorem j0x {a b c d e:Int} {va vb vc vd ve:Value} (ha:b0g H va (a0g a)) (hb:b0g H vb (a0g b)) (hc:b0g H vc (a0g c)) (hd:b0g H vd (a0g d)) (he:b0g H ve (a0g e)) (hf:fl<=H.size)
  (la:lz a < 67108864) (lb:lz b < 67108864) (lc:lz c < 67108864) (ld:lz d < 67108864) (le:lz e < 67108864) (N:e ≠ 0) :
  a0O env fl q0u [eV,va,vb,vc,vd,ve] H (fun r H'=>b0g H' r (a0g ((a * b - c * d).tdiv e))/\Ext H H') R:=by
 refine a0i h1r hf (h:=?_)
 intro ρ h0
 obtain ⟨s0,rfl,J⟩:=id ha
 obtain ⟨s1,rfl,L⟩:=id hb
 obtain ⟨s2,rfl,z⟩:=id hc
 obtain ⟨s3,rfl,F⟩:=id hd
 obtain ⟨s4,rfl,u⟩:=id he
 simp [N0r,H0t,h0,eV,J.cells,J.plain,L.cells,L.plain,z.cells,z.plain,F.cells,F.plain,u.cells,u.plain]
 generalize v:Array.push (Array.push (((((H.push _).push _).push _).push _).push _) _) _=G
 have k:Ext H G:=by rw [<- v];exact (Ext.refl H).push.push.push.push.push.push.push
 have b1:a0f.bk G (H.size + 1)=.row false a0a [.bool (a0g a).1,s0]:=by rw [<- v];simp
 have b2:a0f.bk G (H.size + 2)=.row false a0a [.bool (a0g b).1,s1]:=by rw [<- v];simp
 have b3:a0f.bk G (H.size + 3)=.row false a0a [.bool (a0g c).1,s2]:=by rw [<- v];simp
 have M:a0f.bk G (H.size + 4)=.row false a0a [.bool (a0g d).1,s3]:=by rw [<- v];simp
 have y:a0f.bk G (H.size + 5)=.row false a0a [.bool (a0g e).1,s4]:=by rw [<- v];simp
 have b6:a0f.bk G (H.size + 6)=.row false a0a [.bool false,.slice none 0 0]:=by rw [<- v];simp
 have q:=Ext.refl H
 clear v
 replace q:=q.trans k;replace J:=J.mo k;replace L:=L.mo k;replace z:=z.mo k;replace F:=F.mo k;replace u:=u.mo k
 refine a0C ?_
 simp [H0u,b1,b2]
 refine (b0G (i:=a0g a) (j:=a0g b) ⟨s0,rfl,J⟩ ⟨s1,rfl,L⟩ (by have:=q.1;omega) (by rw [a0j];omega) (by rw [a0j];omega)).mo ?_
 rintro _ G2 ⟨s,k⟩
 replace b3:=k.bk b3;replace M:=k.bk M;replace y:=k.bk y;replace b6:=k.bk b6;replace q:=q.trans k;replace z:=z.mo k;replace F:=F.mo k;replace u:=u.mo k
 rw [a0h,a0h] at s
 simp [b3,M]
 refine (b0G (i:=a0g c) (j:=a0g d) ⟨s2,rfl,z⟩ ⟨s3,rfl,F⟩ (by have:=q.1;omega) (by rw [a0j];omega) (by rw [a0j];omega)).mo ?_
 rintro _ G3 ⟨x,k⟩
 replace y:=k.bk y;replace b6:=k.bk b6;replace q:=q.trans k;replace u:=u.mo k;replace s:=s.mo k
 rw [a0h,a0h] at x
 have l1:=c0h a b
 have l2:=c0h c d
 simp
 refine (t0b s x (by have:=q.1;omega) (by rw [a0j];omega) (by rw [a0j];omega)).mo ?_
 rintro _ O ⟨k7,k⟩
 replace y:=k.bk y;replace b6:=k.bk b6;replace q:=q.trans k;replace u:=u.mo k;replace s:=s.mo k;replace x:=x.mo k
 rw [a0h,a0h] at k7
 have l3:=b1E (a * b) (c * d)
 simp [y]
 refine (b0Z (j:=a0g e) k7 ⟨s4,rfl,u⟩ (by have:=q.1;omega) (by rw [a0j];omega) (by rw [a0j];omega) (by rw [a0h];exact N)).mo ?_
 rintro _ O ⟨⟨_,_,rfl,⟨s5,rfl,s⟩,⟨s6,rfl,x⟩⟩,k⟩
 replace b6:=k.bk b6;replace q:=q.trans k
 rw [a0h,a0h] at s x ⊢
 have hsz:=q.1
 have I:H.size<=O.size + 1:=by omega
 simp [s.cells,s.plain,x.cells,x.plain,hsz,I]
 generalize U:Array.setIfInBounds (Array.setIfInBounds (Array.push (Array.push _ _) _) _ _) _ _=G5
 obtain ⟨k,b7,_⟩:=X0w U
 clear U
 replace b6:=k.bk b6;replace q:=q.trans k;replace s:=s.mo k
 have hz:=a0k b6
 simp [H0v,b7,b6,s.cells,s.plain]
 generalize Z:Array.setIfInBounds _ _ _=G6
 have hl:Lx G5 G6:=b0f Z b6 (by decide)
 have b8:=a0r Z b6
 simp [b8]
 exact fun _=>⟨s5,rfl,s.lx hl⟩
