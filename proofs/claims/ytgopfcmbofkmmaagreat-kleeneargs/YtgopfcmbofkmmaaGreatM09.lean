/- Part 10 of the proof. -/
import Derived.Test.YtgopfcmbofkmmaaGreatM08
set_option linter.unusedVariables false
set_option linter.unusedSimpArgs false
set_option linter.unusedSectionVars false
set_option maxHeartbeats 4000000
namespace Go.Proofs.YtgopfcmbofkmmaaGreat.AI
open Go
section
variable {fl:Nat} {H G:a0c} {R:a0P} {v w u:Value}
theorem Sls.atX {α:Type} {P:a0c->List Value->α->Prop} {e sz:Nat} {l:List α} (h:Sls P H e sz v l) {j:Nat} (s:j < l.length) (hs:0 < sz) :
  ∃ b o cs,adr sz v j=.pointer (some ⟨b,o,none⟩)/\cs.length=sz/\P H cs l[j] /\
   ∀ G,Ext H G->(∀ k n,k + n<=sz->0 < n->rdn (a0c.bk G b) (o + k) n=some (.agg ((cs.drop k).take n).toArray))/\∀ k,k < sz->rd (a0c.bk G b) (o + k)=some (cs.getD k undef):=by
 obtain ⟨cs,⟨z,q⟩,x⟩:=h
 have r:=x j s
 rcases q with ⟨rfl,q⟩ | ⟨b,off,cap,ro,cells,rfl,hb,ho,rfl⟩
 ·omega
 ·have c:(j + 1) * sz<=l.length * sz:=N1e sz s
  rw [N1t,O1e] at c
  have w:(((cells.drop off).take (l.length * sz)).drop (j * sz)).take sz=(cells.drop (off + j * sz)).take sz:=by
   rw [O1q,O1r,O1p,N1J (by omega)]
  rw [w] at r
  refine ⟨b,off + j * sz,_,rfl,by simp;omega,r,fun G u=>⟨fun k n y F=>?_,fun k y=>?_⟩⟩
  ·rw [u.bk hb,t1o,M1Z (by omega),O1q,O1r,O1p,N1J (by omega)]
  ·rw [u.bk hb,B1X,M1R,O1O,M1Z (by omega),O1A,M1X (by omega)];rfl
def G1U (l:List (Bool × List Nat)):Prop:=∀ x ∈ l,x.2.length<=40
theorem j0n {l:List (Bool × List Nat)} (h:f0W H v l) (Q:fl<=H.size) (U:l.length < 1073741824):b0k env fl X0c [v] H (fun r H'=>(∃ c,r=.bool c/\(c=false->G1U l))/\Ext H H') R:=by
 refine a0i M1q Q (h:=?_)
 intro ρ F
 simp [G1Q,U0y,U0z,F]
 refine f0r (fun n ρ G=>ρ 0=v/\ρ 3=.int .i64 (n:Int)/\G=H/\G1U (l.take n)) l.length (by decide) (by simp [F,G1U]) ?_
 clear F ρ
 rintro n ρ G S ⟨w,y,rfl,hpre⟩
 simp [U0A,w,y,h.slen]
 refine g0T.mk (by simp) (fun j=>?_) (fun L=>?_)
 ·obtain ⟨b,o,cs,N,O,⟨s,J,hs⟩,I⟩:=h.atX j (by decide)
  have u:cs=[.bool l[n].1,s]:=by simpa using congrArg (fun v=>match v with | Value.agg a=>a.toList | _=>[]) J
  subst u
  have z:=(I _ (Ext.refl _)).2 1 (by decide)
  simp at z
  by_cases M:40 < l[n].2.length
  ·have k:(40:Int) < (l[n].2.length:Int):=by omega
   simp [E0y,w,y,h.ia j,N,z,hs.slen,M,k,U0B]
  ·have k:¬ (40:Int) < (l[n].2.length:Int):=by omega
   simp [E0y,w,y,h.ia j,N,z,hs.slen,M,k]
   unfold k0s
   simp [U0C,y,b0D (show n < 4611686018427387904 by omega)]
   refine e0a.mk ⟨by simp [w],by simp,rfl,fun x q=>?_⟩
   rw [N1x j] at q
   rcases N1B.1 q with q | q
   ·exact hpre x q
   ·rw [O1l.1 q];omega
 ·subst L
  rw [N1f] at hpre
  simp [U0D]
  exact hpre
theorem H0k {a:Bool × List Nat} {p c:Nat} {ro:Bool} {s:Value} (hb:H.bk p=.row ro a0a [.bool a.1,s]) (h:Lim H s a.2):f0W H (.slice (some ⟨p,0,none⟩) 1 c) [a]:=by
 refine ⟨[.bool a.1,s],⟨rfl,.inr ⟨p,0,c,ro,_,rfl,hb,by simp,by simp⟩⟩,fun j k=>?_⟩
 have:j=0:=by simpa using k
 subst this
 exact ⟨s,rfl,h⟩
def r0k (a:l0q):Prop:=L1L a/\a.X.length<=60/\a.W.length<=60
theorem m0i {l:List l0q} (h:j0k H v l) (hf:fl<=H.size) (hl:l.length < 1073741824):b0k env fl W0Y [v] H (fun r H'=>(∃ c,r=.bool c/\(c=false->∀ a ∈ l,r0k a))/\Ext H H') R:=by
 refine a0i M1d hf (h:=?_)
 intro ρ Y
 simp [G1I,T0w,T0x,Y]
 refine f0r (fun n ρ G=>ρ 0=v/\ρ 3=.int .i64 (n:Int)/\Ext H G/\∀ a ∈ l.take n,r0k a) l.length (by decide) (by simp [Y]) ?_
 clear Y ρ
 rintro n ρ G a6 ⟨F,I,q,hpre⟩
 have k:=h.mo b0j q
 simp [T0y,F,I,k.slen]
 refine g0T.mk (by simp) (fun u=>?_) (fun a4=>?_)
 ·obtain ⟨b,o,cs,M,a5,⟨sX,sW,s,a3,O,S,kK⟩,w⟩:=k.atX u (by decide)
  have N:cs=[sX,sW,.bool l[n].K.1,s]:=by simpa using congrArg (fun v=>match v with | Value.agg a=>a.toList | _=>[]) a3
  subst N
  have Q:=(w _ (Ext.refl _)).2 0 (by decide)
  have U:=(w _ (Ext.refl _)).2 1 (by decide)
  have c2:=(w _ (Ext.refl _)).1 2 2 (by decide) (by decide)
  simp at Q U c2
  by_cases Z:60 < l[n].X.length
  ·have z:(60:Int) < (l[n].X.length:Int):=by omega
   simp [w0k,F,I,k.ia u,M,Q,O.slen,Z,z,o0u]
  have z:¬ (60:Int) < (l[n].X.length:Int):=by omega
  by_cases h2:60 < l[n].W.length
  ·have J:(60:Int) < (l[n].W.length:Int):=by omega
   simp [w0k,F,I,k.ia u,M,Q,U,O.slen,S.slen,Z,z,h2,J,o0u]
  have J:¬ (60:Int) < (l[n].W.length:Int):=by omega
  simp [w0k,F,I,k.ia u,M,Q,U,c2,O.slen,S.slen,Z,z,h2,J]
  generalize L:G.push _=G1
  obtain ⟨j,b0⟩:=t0i L
  clear L
  refine (j0n (H0k b0 (kK.mo j)) (by have:=q.1;have:=j.1;omega) (by simp)).mo ?_
  rintro _ G2 ⟨⟨c,rfl,a0⟩,y⟩
  replace j:=j.trans y
  cases c
  case true=>simp [o0u]
  have d0:=(w _ j).2 0 (by decide)
  simp at d0
  simp [F,I,k.ia u,M,d0]
  refine (j0n (O.mo e0d j) (by have:=q.1;have:=j.1;omega) (by omega)).mo ?_
  rintro _ G3 ⟨⟨c,rfl,a1⟩,y⟩
  replace j:=j.trans y
  cases c
  case true=>simp [o0u]
  have d1:=(w _ j).2 1 (by decide)
  simp at d1
  simp [F,I,k.ia u,M,d1]
  refine (j0n (S.mo e0d j) (by have:=q.1;have:=j.1;omega) (by omega)).mo ?_
  rintro _ G4 ⟨⟨c,rfl,a2⟩,y⟩
  replace j:=j.trans y
  cases c
  case true=>simp [o0u]
  simp
  unfold k0s
  simp [T0z,I,b0D (show n < 4611686018427387904 by omega)]
  refine e0a.mk ⟨by simp [F],by simp,q.trans j,fun x q=>?_⟩
  rw [N1x u] at q
  rcases N1B.1 q with q | q
  ·exact hpre x q
  ·rw [O1l.1 q]
   have hK:=a0 rfl _ (O1l.2 rfl)
   exact ⟨⟨fun x q=>⟨a1 rfl x q,O.lim x q⟩,fun x q=>⟨a2 rfl x q,S.lim x q⟩,hK,kK.ok⟩,by omega,by omega⟩
 ·subst a4
  rw [N1f] at hpre
  simp [T0A]
  exact fun _=>hpre
def o0c (e:w0B):Prop:=(∀ a ∈ e.set,r0k a)/\(∀ a ∈ e.guards,r0k a)/\e.guards.length<=100/\e.set.length<=20
end
section
@[simp] theorem t1W {w:Bool}:u0M w undef=false:=nr rfl
variable {fl:Nat} {H G:a0c} {R:a0P} {v w:Value} {l:List Nat} {i:Bool × List Nat}
def newB (H:a0c) (r:Value):Prop:=∀ q,slB r=some q->H.size<=q
theorem Own.newB {e sz n:Nat} {cs:List Value} (h:Own H.size G e sz v n cs):AI.newB H v:=by
 obtain ⟨_,⟨rfl,_⟩ | ⟨b,cap,rfl,_,hb⟩⟩:=h
 ·intro q c;cases c
 ·intro q c
  simp only [slB,M1Q] at c
  omega
theorem newB.of {u:Value} (h:newB H v) (c:slB u=slB v):newB H u:=fun q j=>h q (by rw [<- c];exact j)
theorem newB.ne {p:Nat} (h:newB H v) (hp:p < H.size):slB v ≠ some p:=fun c=>by have:=h p c;omega
theorem F0g {x y z:Option Value} {n:Nat} {u:Value} (h:d0s n v x y z=some u):slB u=slB v:=by
 unfold d0s at h
 split at h
 ·rename_i p len cap
  split at h
  ·split at h
   ·split at h
    ·simp only [M1Q] at h
     subst h
     cases p <;> rfl
    ·split at h
     ·split at h
      ·simp only [M1Q] at h
       subst h
       cases p <;> rfl
      ·cases h
     ·cases h
   ·cases h
  ·cases h
 ·cases h
theorem e0S (h:Lim H v l) (M:fl<=H.size) (O:l.length < 4611686018427387904):b0k env fl l0w [v] H (fun r H'=>(Lim H' r (c0V l)/\slB r=slB v)/\Ext H H') R:=by
 refine a0i I1b M (h:=?_)
 intro ρ I
 simp [E0L,B0l,B0m,I,h.slen]
 refine b0X (fun k t G=>G=H/\t.length=21/\get t 0=v/\get t 3=.int .i64 k/\k<=l.length/\c0V (l.take k)=c0V l)
  (fun t G=>∃ k:Nat,G=H/\t.length=21/\get t 0=v/\get t 3=.int .i64 k/\k<=l.length/\c0V l=l.take k) l.length (by simp [I]) ?_ ?_
 ·rintro k t G ⟨rfl,z,q,s,u,c⟩
  obtain ⟨ρ,rfl⟩:=toT z
  simp only [b0H,Nat.reduceLT] at q s
  by_cases w:k=0
  ·subst w
   simp [t0F,q,s]
   exact ⟨0,by simp,by simp,by rw [<- c];rfl⟩
  ·have hp:0 < k:=by omega
   have N:IntKind.i64.wrap ((k:Int) - 1)=((k - 1:Nat):Int):=by rw [b0d (by omega) (by omega)];omega
   simp [t0F,B0n,q,s,hp,N,h.ia (show k - 1 < l.length by omega),h.load (show k - 1 < l.length by omega)]
   have j:l.take k=l.take (k - 1) ++ [l.getD (k - 1) 0]:=by rw [<- d0J (by omega)];congr 1;omega
   rw [M1R] at j
   refine ⟨fun F=>⟨k - 1,by omega,rfl,by omega,?_⟩,fun F=>⟨k,rfl,u,?_⟩⟩
   ·rw [<- c,j,F,n0n]
   ·rw [<- c,j,k0O F]
 ·rintro t G ⟨k,rfl,z,q,s,u,c⟩
  obtain ⟨ρ,rfl⟩:=toT z
  simp only [b0H,Nat.reduceLT] at q s
  obtain ⟨v',J,L⟩:=h.take u (x:=none) rfl (y:=some (.int .i64 (k:Int))) (by simp)
  simp [B0o,q,s,h.elemOk,J]
  rw [c];exact ⟨L,F0g J⟩
theorem l0m (h:Lim H v l) (c:fl<=H.size) (j:l.length < 4611686018427387904):b0k env fl l0w [v] H (fun r H'=>Lim H' r (c0V l)/\Ext H H') R:=(e0S h c j).mo fun _ _ h=>⟨h.1.1,h.2⟩
theorem c0U (h:c0m H v i) (Q:fl<=H.size) (S:i.2.length < 4611686018427387904):b0k env fl F0B [v] H (fun r H'=>r=.bool (d0k i)/\Ext H H') R:=by
 obtain ⟨s,rfl,hs⟩:=h
 obtain ⟨M,c⟩:=i
 simp only at hs S ⊢
 refine a0i M1o Q (h:=?_)
 intro ρ F
 simp [E1Y,U0s,F]
 generalize J:H.push _=G
 obtain ⟨y,u⟩:=t0i J
 have x:=Ext.refl H
 clear J
 replace x:=x.trans y
 have z:=hs.mo x
 unfold d0k
 simp [U0t,F,u,z.slen]
 by_cases L:c.length=0
 ·have q:c=[]:=by simpa using L
  subst q
  cases M <;> simp [E0w,u]
 ·have hp:0 < c.length:=by omega
  have w:c ≠ []:=fun h=>L (by rw [h];rfl)
  have U:IntKind.i64.wrap ((c.length:Int) - 1)=((c.length - 1:Nat):Int):=by rw [b0d (by omega) (by omega)];omega
  have j:c.length - 1 < c.length:=by omega
  have O:=z.ia j (k:=.i64)
  have I:=z.load j (Ext.refl _)
  have N:((c.length:Int)=0)=False:=by simp;omega
  have e2:((0:Int) < (c.length:Int))=True:=by simp;omega
  rw [M1R] at I
  simp [w,hp,E0w,u,N,e2,U,O,I]
theorem F1e {G G3:a0c} {q:Nat} {r:Blk} {ro:Bool} {cs:List Value} {s:Value} (c:Array.setIfInBounds G q r=G3) (j:Ext H G) (hs:Lim G s l) (hb:a0c.bk G q=.row ro a0a cs) (h:H.size<=q) :
  Lim G3 s l/\Ext H G3/\a0c.bk G3 q=r:=⟨by rw [<- c];exact hs.setT hb (by decide),q0l c j h,k0L c hb⟩
theorem X0m (h:b0g i.2):(if d0k i then i else (false,[]))=a0J (a0B i):=by
 cases hm:d0k i with
 | false=>simp [a0B,hm,a0J,a0G]
 | true =>
  have c:=h0U h
  unfold d0N at c
  rw [hm] at c
  have j:=z0C i
  unfold w1m at j
  rw [hm] at j
  simp at c j
  simp only [N1E]
  exact Prod.ext (by rw [j];rfl) c
theorem l0l (h:c0m H v i) (L:fl<=H.size) (N:i.2.length < 4611686018427387904):b0k env fl l0v [v] H (fun r H'=>c0m H' r (a0J (a0B i))/\Ext H H') R:=by
 rw [<- X0m h.ok]
 have k0:=h
 obtain ⟨s,rfl,hs⟩:=h
 refine a0i H1Z L (h:=?_)
 intro ρ I
 simp [E0K,A0Z,I,hs.cells]
 generalize w:(H.push _).push _=G
 have c:Ext H G:=by rw [<- w];exact (Ext.refl H).push.push
 have u:a0c.bk G H.size=.row false a0a [.bool i.1,s]:=by rw [<- w];simp
 have j:a0c.bk G (H.size + 1)=.row false a0a [.bool false,.slice none 0 0]:=by rw [<- w];simp
 have q:=Ext.refl H
 clear w
 replace q:=q.trans c;replace k0:=k0.mo c
 simp [B0a,u]
 refine (c0U k0 q.1 N).mo ?_
 rintro _ z ⟨rfl,c⟩
 replace u:=c.bk u;replace j:=c.bk j;replace q:=q.trans c;replace k0:=k0.mo c
 have hsz:=q.1
 have M:=a0r j
 cases hm:d0k i with
 | true =>
  obtain ⟨F,J,k⟩:=k0
  have:F = s:=by simpa using J.symm
  subst this
  simp [B0c,u,j,k.cells,k.plain,hsz]
  generalize y:Array.setIfInBounds z _ _=G3
  obtain ⟨Q,O,x⟩:=F1e y q k j (by omega)
  simp [x]
  exact fun _=>⟨F,rfl,Q⟩
 | false =>
  simp [B0b,u,j,hsz]
  generalize y:Array.setIfInBounds z _ _=G3
  have x:=k0L y j
  simp [x]
  exact fun _=>⟨.slice none 0 0,rfl,Lim.nil⟩
theorem x0A {b:Bool} (z:Int) (h:Lim H v l) (hf:fl<=H.size) (hn:l.length<=1073741824) (hz:(if b then -(a0q l:Int) else a0q l)=z) :
  b0k env fl x0T [.bool b,v] H (fun r H'=>c0m H' r (a0J z)/\Ext H H') R:=by
 rw [<- hz,<- z0y h.ok]
 refine a0i M1p hf (h:=?_)
 intro ρ Q
 simp [E1Z,U0u,U0v,Q]
 generalize U:H.push _=G
 obtain ⟨c,k⟩:=t0i U
 have j:=Ext.refl H
 clear U
 replace j:=j.trans c
 replace h:=h.mo j
 refine (l0m h j.1 (by omega)).mo ?_
 rintro u w ⟨y,c⟩
 replace k:=c.bk k;replace j:=j.trans c
 have hsz:=j.1
 simp
 by_cases x:c0V l=[]
 ·have L:mkI b l=(false,[]):=by simp [mkI,x]
  rw [L]
  rw [x] at y
  simp [E0x,U0w,y.slen,k,hsz]
  generalize J:Array.setIfInBounds w _ _=G3
  have I:=k0L J k
  simp [I]
  exact fun _=>⟨.slice none 0 0,rfl,Lim.nil⟩
 ·have L:mkI b l=(b,c0V l):=by simp [mkI,x]
  rw [L]
  have a0:¬ (c0V l).length=0:=by simpa using x
  have a1:(c0V l).length<=l.length:=by
   rw [c0b l h.ok];exact f0I (g0h l h.ok)
  simp [E0x,U0x,y.slen,k,hsz,x,Q]
  have q:Ext w (w.push (.row false a0b [])):=(Ext.refl w).push
  have a2:=a0r k
  obtain ⟨v',F,Y,S,Z,h4⟩:=o0Q (fl:=H.size) (G:=w.push (.row false a0b [])) (s:=.slice (some ⟨w.size,0,none⟩) 0 0) (e:=a0b) (cs:=[]) (sz:=1) (n:=0) (bytes:=4) (e2:=a0b)
   (Own.mk a0N rfl hsz) (y.mo q).1 k0H (by omega) (by omega) (by omega) (by simp;omega)
  rw [N1q,O1R] at S
  have O:F.bk H.size=.row false a0a [.bool false,.slice none 0 0]:=by
   rw [Z.2 _ (by simp;omega) (by simp [slB];omega)]
   exact q.bk k
  have N:Lim F v' (c0V l):=⟨S.sl,y.2⟩
  have M:Ext H F:=h4 H (M1U _) (j.trans q)
  simp [Y,N.cells,N.plain,O,b0e]
  generalize J:Array.setIfInBounds F _ _=G3
  obtain ⟨kS,a3,I⟩:=F1e J M N O (by omega)
  simp [I]
  exact fun _=>⟨v',rfl,kS⟩
end
section
variable {fl:Nat} {H G:a0c} {R:a0P} {v w:Value} {a b:List Nat}
theorem m0R (M:Lim H v a) (hb:Lim H w b) (hf:fl<=H.size) (a4:a.length < 4611686018427387904) :
  b0k env fl r0a [v,w] H (fun r H'=>r=.int .i64 (x0Q a b)/\Ext H H') R:=by
 refine a0i I1q hf (h:=?_)
 intro ρ O
 have w1:IntKind.i64.wrap ((a.length:Int) - 1)=(a.length:Int) - 1:=b0d (by omega) (by omega)
 by_cases c:a.length=b.length
 ·have Q:(a.length:Int)=(b.length:Int):=by omega
  simp [u0F,p0K,p0L,C0w,O,M.slen,hb.slen,c]
  rw [<- c,w1]
  have F:x0Q a b=i0Y (a0q a) (a0q b):=by simp [x0Q,c]
  rw [F]
  refine b0X (fun k t N=>t.length=41/\get t 0=v/\get t 1=w/\get t 5=.int .i64 ((k:Int) - 1)/\N = H/\k<=a.length/\a.drop k=b.drop k)
   (fun t N=>t.length=41/\N = H/\a=b) a.length (by simp [O,c]) ?_ ?_
  ·clear O ρ
   rintro k t N ⟨ht,J,L,z,rfl,hk,Z⟩
   obtain ⟨ρ,rfl⟩:=toT ht
   simp only [b0H,Nat.reduceLT] at J L z
   by_cases a1:k=0
   ·subst a1
    simp [t0Q,J,L,z]
    simpa using Z
   ·have e0:(k:Int) - 1=((k - 1:Nat):Int):=by omega
    have s:k - 1 < a.length:=by omega
    have u:k - 1 < b.length:=by omega
    have G:=M.load s (Ext.refl _)
    have I:=hb.load u (Ext.refl _)
    have w2:IntKind.i64.wrap (((k - 1:Nat):Int) - 1)=((k - 1:Nat):Int) - 1:=b0d (by omega) (by omega)
    rw [e0] at z
    have x:=M.ia (k:=.i64) s
    have y:=hb.ia (k:=.i64) u
    have Y:=r0u c M.ok hb.ok s (by rw [show k - 1 + 1=k by omega];exact Z)
    have q:a.getD (k - 1) 0=b.getD (k - 1) 0->a.drop (k - 1)=b.drop (k - 1):=by
     intro he
     rw [N1P s,N1P u,show k - 1 + 1=k by omega,Z]
     rw [M1R,M1X s,M1R,M1X u] at he
     congr 1
    generalize a.getD (k - 1) 0=A at G Y q
    generalize b.getD (k - 1) 0=B at I Y q
    simp [t0Q,J,L,z]
    refine c0t ?_
    simp [C0x,J,L,z,G,x,I,y]
    refine ⟨fun j=>?_,fun a2=>?_⟩
    ·simp [C0y]
     rw [Y (by omega),b0Y,M1Z j]
    ·refine c0t ?_
     simp [C0z,J,L,z,G,x,I,y]
     refine ⟨fun j=>?_,fun a3=>?_⟩
     ·simp [v0U]
      rw [Y (by omega),b0Y,M1V (by omega),M1Z j]
     ·simp [v0V,z,w2]
      exact ⟨k - 1,by omega,J,L,rfl,by omega,q (by omega)⟩
  ·rintro t N ⟨ht,rfl,S⟩
   obtain ⟨ρ,rfl⟩:=toT ht
   simp [v0W]
   rw [S];simp [i0Y]
 ·have Q:¬ (a.length:Int)=(b.length:Int):=by omega
  have F:x0Q a b=i0Y a.length b.length:=by simp [x0Q,c]
  rw [F,b0Y]
  by_cases j:a.length < b.length
  ·have U:(a.length:Int) < (b.length:Int):=by omega
   simp [u0F,p0K,p0L,t0P,C0u,O,M.slen,hb.slen,c,j]
  ·have U:¬ (a.length:Int) < (b.length:Int):=by omega
   have a0:b.length < a.length:=by omega
   simp [u0F,p0K,p0L,t0P,C0v,O,M.slen,hb.slen,c,j,a0]
theorem p0j {l:List Nat} {n:Nat}:a0q (l.take (n + 1))=a0q (l.take n) + 4294967296 ^ n * l.getD n 0:=by
 by_cases h:n < l.length
 ·exact a0H h
 ·rw [N1c (by omega),N1c (by omega),M1R,N1d (by omega)];simp
theorem S0F {x c:Nat} (r:x < 4294967296) (q:x % 2=0) (hc:c<=1):c0k 0 .or (.int .u32 (x:Int)) (.int .u32 (c:Int))=some (.int .u32 ((x + c:Nat):Int)):=by
 rw [k0v]
 have h:(BitVec.ofInt IntKind.u32.bits (x:Int) ||| BitVec.ofInt IntKind.u32.bits (c:Int)).toNat=x + c:=by
  show (BitVec.ofInt 32 (x:Int) ||| BitVec.ofInt 32 (c:Int)).toNat=x + c
  rw [BitVec.toNat_or,O1z,O1z]
  have e2:((x:Int) % (2 ^ 32:Nat)).toNat=x:=by omega
  have j:((c:Int) % (2 ^ 32:Nat)).toNat=c:=by omega
  rw [e2,j]
  have:=O1u (i:=1) (b:=c) (by omega) (x / 2)
  have k:2 ^ 1 * (x / 2)=x:=by omega
  rw [k] at this
  exact this.symm
 rw [h,q0t]
 congr 3
 omega
theorem n0R {o:Bool} (ha:Lim H v a) (hf:fl<=H.size) (a9:a.length < 1073741822) :
  b0k env fl y0J [v,.bool o] H (fun r H'=>(Lim H' r (a0l (2 * a0q a + o.toNat))/\newB H r)/\Ext H H') R:=by
 refine a0i I1r hf (h:=?_)
 intro ρ h0
 simp [R0H,C0A,C0B,C0C,C0D,h0]
 cases o with
 | true =>
  simp [C0E,t0R]
  refine f0r (fun n ρ G=>ρ 0=v/\ρ 7=.int .i64 (n:Int)/\∃ c,ρ 6=.int .u32 ((c:Nat):Int)/\Ext H G/\∃ out,Own H.size G a0b 1 (ρ 5) n (b0C out)/\b0g out/\out.length=n/\c<=1 /\
    a0q out + 4294967296 ^ n * c=2 * a0q (a.take n) + 1) a.length (by decide) ⟨by simp [h0],by simp,1,by simp,Ext.refl H,[],by simp;exact Own.nil,by intro x j;simp at j,rfl,by omega,by simp [a0q]⟩ ?_
  clear h0 ρ
  rintro n ρ G a7 ⟨Q,U,c,g6,j,out,ho,J,u,hc,hs⟩
  have N:=ha.mo j
  have e9:=b0D (show n < 4611686018427387904 by omega)
  obtain ⟨s,S⟩:∃ s,ρ 5=s:=⟨_,rfl⟩
  rw [S] at ho
  simp [t0S,Q,U,N.slen]
  refine g0T.mk (by simp) (fun q=>?_) (fun a4=>?_)
  ·have F:=a0H q
   have a0:=c0z ha.ok n
   have a1:=N.ia q (k:=.i64)
   have L:=N.load q (Ext.refl _)
   generalize a.getD n 0=A at F a0 L
   have q1:c0k 0 .shl (.int .u32 (A:Int)) (.int .u64 1)=some (.int .u32 ((A * 2 ^ 1 % 4294967296:Nat):Int)):=q0m (s:=1) (by omega)
   have q2:=S0F (x:=A * 2 ^ 1 % 4294967296) (c:=c) (by omega) (by omega) hc
   have q3:c0k 0 .shr (.int .u32 (A:Int)) (.int .u64 31)=some (.int .u32 ((A / 2 ^ 31:Nat):Int)):=q0n (s:=31) (by omega)
   obtain ⟨y,hy⟩:∃ y,A * 2 ^ 1 % 4294967296 + c=y:=⟨_,rfl⟩
   obtain ⟨y0,a6⟩:∃ y0,A * 2 ^ 1 % 4294967296=y0:=⟨_,rfl⟩
   obtain ⟨c',a3⟩:∃ c',A / 2 ^ 31=c':=⟨_,rfl⟩
   rw [hy] at q2
   rw [a6] at q1 q2
   rw [a3] at q3
   obtain ⟨s',G3,Y,M,h3,Z⟩:=e0c (e2:=a0b) (new:=[.int .u32 (y:Int)]) (c:=1) (bytes:=4) ho rfl rfl (by omega) (by omega) (by omega) j.1
   have w:=Z _ (M1U _) j
   have kb:=ha.mo w
   have b1:=kb.ia q (k:=.i64)
   have b2:=kb.load q (Ext.refl _)
   have I:a0q (out ++ [y]) + 4294967296 ^ (n + 1) * c' = 2 * a0q (a.take (n + 1)) + 1:=by
    rw [c0a,u,F,N1m]
    have e3:4294967296 ^ n * 4294967296 * c' = 4294967296 ^ n * (4294967296 * c'):=N1h ..
    have e4:y + 4294967296 * c' = c + 2 * A:=by omega
    have e5:4294967296 ^ n * y + 4294967296 ^ n * (4294967296 * c')=4294967296 ^ n * c + 4294967296 ^ n * (2 * A):=by rw [<- N1a,e4,N1a]
    have e6:4294967296 ^ n * (2 * A)=2 * (4294967296 ^ n * A):=by rw [O1F]
    omega
   have O:b0w G3 false 1 (adr 1 v n)=some (.int .u32 (A:Int)):=by
    rw [N.load q (Ext.refl _)] at L
    rw [b2];exact L
   simp [-Int.natCast_emod,-Int.natCast_add,-k0v,t0T,t0U,Q,S,g6,U,a1,L,q1,q2,q3,Y,O]
   unfold k0s
   simp [-Int.natCast_add,t0V,U,e9]
   refine e0a.mk ⟨by simp [Q],by simp,c',by simp,w,out ++ [y],by simpa [b0C] using M,?_,by simp [u],by omega,I⟩
   intro x j
   rcases N1B.1 j with j | j
   ·exact J x j
   ·simp at j;omega
  ·subst a4
   rw [N1f] at hs
   obtain ⟨s',G3,Y,M,h3,Z⟩:=e0c (e2:=a0b) (new:=[.int .u32 (c:Int)]) (c:=1) (bytes:=4) ho rfl rfl (by omega) (by omega) (by omega) j.1
   have w:=Z _ (M1U _) j
   simp [-Int.natCast_add,p0M,p0N,S,g6,Y]
   have z:b0g (out ++ [c]):=by
    intro x j
    rcases N1B.1 j with j | j
    ·exact J x j
    ·simp at j;omega
   refine (e0S (l:=out ++ [c]) ⟨by have:=M.sl;simpa [u,b0C] using this,z⟩ w.1 (by simp;omega)).mo ?_
   rintro r G2 ⟨⟨ht,a5⟩,a8⟩
   simp
   intro _
   rw [c0b _ z,c0a,u,hs] at ht
   exact ⟨ht,(Own.newB M).of a5⟩
 | false =>
  simp [t0R]
  refine f0r (fun n ρ G=>ρ 0=v/\ρ 7=.int .i64 (n:Int)/\∃ c,ρ 6=.int .u32 ((c:Nat):Int)/\Ext H G/\∃ out,Own H.size G a0b 1 (ρ 5) n (b0C out)/\b0g out/\out.length=n/\c<=1 /\
    a0q out + 4294967296 ^ n * c=2 * a0q (a.take n) + 0) a.length (by decide) ⟨by simp [h0],by simp,0,by simp,Ext.refl H,[],by simp;exact Own.nil,by intro x j;simp at j,rfl,by omega,by simp [a0q]⟩ ?_
  clear h0 ρ
  rintro n ρ G a7 ⟨Q,U,c,g6,j,out,ho,J,u,hc,hs⟩
  have N:=ha.mo j
  have e9:=b0D (show n < 4611686018427387904 by omega)
  obtain ⟨s,S⟩:∃ s,ρ 5=s:=⟨_,rfl⟩
  rw [S] at ho
  simp [t0S,Q,U,N.slen]
  refine g0T.mk (by simp) (fun q=>?_) (fun a4=>?_)
  ·have F:=a0H q
   have a0:=c0z ha.ok n
   have a1:=N.ia q (k:=.i64)
   have L:=N.load q (Ext.refl _)
   generalize a.getD n 0=A at F a0 L
   have q1:c0k 0 .shl (.int .u32 (A:Int)) (.int .u64 1)=some (.int .u32 ((A * 2 ^ 1 % 4294967296:Nat):Int)):=q0m (s:=1) (by omega)
   have q2:=S0F (x:=A * 2 ^ 1 % 4294967296) (c:=c) (by omega) (by omega) hc
   have q3:c0k 0 .shr (.int .u32 (A:Int)) (.int .u64 31)=some (.int .u32 ((A / 2 ^ 31:Nat):Int)):=q0n (s:=31) (by omega)
   obtain ⟨y,hy⟩:∃ y,A * 2 ^ 1 % 4294967296 + c=y:=⟨_,rfl⟩
   obtain ⟨y0,a6⟩:∃ y0,A * 2 ^ 1 % 4294967296=y0:=⟨_,rfl⟩
   obtain ⟨c',a3⟩:∃ c',A / 2 ^ 31=c':=⟨_,rfl⟩
   rw [hy] at q2
   rw [a6] at q1 q2
   rw [a3] at q3
   obtain ⟨s',G3,Y,M,h3,Z⟩:=e0c (e2:=a0b) (new:=[.int .u32 (y:Int)]) (c:=1) (bytes:=4) ho rfl rfl (by omega) (by omega) (by omega) j.1
   have w:=Z _ (M1U _) j
   have kb:=ha.mo w
   have b1:=kb.ia q (k:=.i64)
   have b2:=kb.load q (Ext.refl _)
   have I:a0q (out ++ [y]) + 4294967296 ^ (n + 1) * c' = 2 * a0q (a.take (n + 1)) + 0:=by
    rw [c0a,u,F,N1m]
    have e3:4294967296 ^ n * 4294967296 * c' = 4294967296 ^ n * (4294967296 * c'):=N1h ..
    have e4:y + 4294967296 * c' = c + 2 * A:=by omega
    have e5:4294967296 ^ n * y + 4294967296 ^ n * (4294967296 * c')=4294967296 ^ n * c + 4294967296 ^ n * (2 * A):=by rw [<- N1a,e4,N1a]
    have e6:4294967296 ^ n * (2 * A)=2 * (4294967296 ^ n * A):=by rw [O1F]
    omega
   have O:b0w G3 false 1 (adr 1 v n)=some (.int .u32 (A:Int)):=by
    rw [N.load q (Ext.refl _)] at L
    rw [b2];exact L
   simp [-Int.natCast_emod,-Int.natCast_add,-k0v,t0T,t0U,Q,S,g6,U,a1,L,q1,q2,q3,Y,O]
   unfold k0s
   simp [-Int.natCast_add,t0V,U,e9]
   refine e0a.mk ⟨by simp [Q],by simp,c',by simp,w,out ++ [y],by simpa [b0C] using M,?_,by simp [u],by omega,I⟩
   intro x j
   rcases N1B.1 j with j | j
   ·exact J x j
   ·simp at j;omega
  ·subst a4
   rw [N1f] at hs
   obtain ⟨s',G3,Y,M,h3,Z⟩:=e0c (e2:=a0b) (new:=[.int .u32 (c:Int)]) (c:=1) (bytes:=4) ho rfl rfl (by omega) (by omega) (by omega) j.1
   have w:=Z _ (M1U _) j
   simp [-Int.natCast_add,p0M,p0N,S,g6,Y]
   have z:b0g (out ++ [c]):=by
    intro x j
    rcases N1B.1 j with j | j
    ·exact J x j
    ·simp at j;omega
   refine (e0S (l:=out ++ [c]) ⟨by have:=M.sl;simpa [u,b0C] using this,z⟩ w.1 (by simp;omega)).mo ?_
   rintro r G2 ⟨⟨ht,a5⟩,a8⟩
   simp
   intro _
   rw [c0b _ z,c0a,u,hs] at ht
   exact ⟨ht,(Own.newB M).of a5⟩
theorem f0M {p z x:Nat} {L:List Nat} (hb:G.bk p=.row false a0b (b0C L)) (h:fl<=p) (j:z < L.length) :
  n0l fl G 1 (.pointer (some ⟨p,z,none⟩)) (.int .u32 (x:Int))=some (G.setIfInBounds p (.row false a0b (b0C (L.set z x)))):=by
 have c:a0t (.int .u32 (x:Int))=[.int .u32 (x:Int)]:=rfl
 rw [u0H hb h (by rw [c];rfl) (by simp;omega) (by rw [c];rfl),c,c0S]
 simp [b0e]
theorem G0f {n:Nat} {s:Value} (h:Own fl G a0b 1 s n (b0C a)) (q:n=a.length) (r:0 < a.length):∃ p cap,s=.slice (some ⟨p,0,none⟩) a.length cap/\G.bk p=.row false a0b (b0C a)/\fl<=p:=by
 obtain ⟨u,⟨_,c⟩ | ⟨b,cap,c,j,k⟩⟩:=h
 ·omega
 ·exact ⟨b,cap,by rw [<- q];exact c,j,k⟩
theorem r0Q (ha:Lim H v a) (hb:Lim H w b) (hf:fl<=H.size) (b9:a.length < 1073741824) (b0:b.length<=a.length) (b6:a0q b<=a0q a) (a4:0 < a.length) :
  b0k env fl r0b [v,w] H (fun r H'=>(Lim H' r (a0l (a0q a - a0q b))/\newB H r)/\Ext H H') R:=by
 refine a0i I1s hf (h:=?_)
 intro ρ h0
 have a0:Ext H (H.push (.row false a0b [])):=(Ext.refl H).push
 obtain ⟨v',G',h1,h2,h3,h4⟩:=o0Q (fl:=H.size) (G:=H.push (.row false a0b [])) (s:=.slice (some ⟨H.size,0,none⟩) 0 0) (e:=a0b) (cs:=[]) (sz:=1) (n:=0) (bytes:=4) (e2:=a0b)
  (Own.mk a0N rfl (M1U _)) (ha.mo a0).1 k0H (by omega) (by omega) (by omega) (by simp)
 rw [N1q,O1R] at h2
 obtain ⟨p,cap,rfl,u,hp⟩:=G0f h2 rfl a4
 have a3:Ext H G':=h4 H (M1U _) a0
 simp [E0R,C0F,C0G,C0H,C0I,h0,h1]
 refine f0r (fun n ρ G=>ρ 1=w/\ρ 5=.slice (some ⟨p,0,none⟩) a.length cap/\ρ 7=.int .i64 (n:Int)/\∃ c,ρ 6=.int .u64 ((c:Nat):Int)/\Ext H G/\∃ L,a0c.bk G p=.row false a0b (b0C L)/\L.length=a.length/\b0g L/\(∀ j,n<=j->L.getD j 0=a.getD j 0)/\c<=1 /\
   a0q (L.take n) + a0q (b.take n)=a0q (a.take n) + 4294967296 ^ n * c) a.length (by decide) ⟨by simp [h0],by simp,by simp,0,by simp,a3,a,u,rfl,ha.ok,fun _ _=>rfl,by omega,by simp [a0q]⟩ ?_
 clear h0 ρ h1 h2 h3 h4 u a3 a0 G'
 rintro n ρ G b8 ⟨Z,g5,N,c,g6,hx,L,u,hL,J,F,hc,hs⟩
 have e9:=b0D (show n < 4611686018427387904 by omega)
 have b5:i0q (.slice (some ⟨p,0,none⟩) a.length cap)=some (.int .i64 (a.length:Int)):=rfl
 simp [C0J,g5,N,b5]
 refine g0T.mk (by simp) (fun b3=>?_) (fun a9=>?_)
 ·have kb:=hb.mo hx
  have I:n < L.length:=by omega
  obtain ⟨o1,o2⟩:=i0C (k:=.i64) (cap:=cap) u I hL
  have O:=a0H b3
  have Q:=p0j (l:=b) (n:=n)
  have a5:=c0z ha.ok n
  have a6:=c0z hb.ok n
  rw [F n (M1U _)] at o2
  have hB:n < b.length->iaV 1 w (.int .i64 (n:Int))=some (adr 1 w n)/\b0w G false 1 (adr 1 w n)=some (.int .u32 ((b.getD n 0:Nat):Int)):=fun h=>⟨kb.ia h,kb.load h (Ext.refl _)⟩
  have a1:¬ n < b.length->b.getD n 0=0:=fun h=>by rw [M1R,N1d (by omega)];rfl
  generalize a.getD n 0=A at O a5 o2
  generalize b.getD n 0=B at Q a6 hB a1
  obtain ⟨S,hS⟩:∃ S,c + B=S:=⟨_,rfl⟩
  have eA:IntKind.u64.wrap (A:Int)=(A:Int):=by rw [a0x];omega
  by_cases ib:n < b.length
  ·obtain ⟨b1,b2⟩:=hB ib
   have e2:IntKind.u64.wrap ((c:Int) + IntKind.u64.wrap (B:Int))=(S:Int):=by rw [a0x,a0x];omega
   simp [-Int.natCast_add,t0W,t0X,C0K,Z,g6,N,kb.slen,ib,b1,b2,e2]
   by_cases U:S<=A
   ·have q1:IntKind.u64.wrap ((A:Int) - (S:Int))=((A - S:Nat):Int):=by rw [a0x];omega
    have q2:IntKind.u32.wrap (((A - S:Nat):Int))=((A - S:Nat):Int):=by rw [k0R];omega
    have M:=f0M (fl:=H.size) (x:=A - S) u hp I
    simp [-Int.natCast_add,m0T,t0Y,p0O,Z,g5,g6,N,o1,o2,eA,U,q1,q2,M]
    have y:a0q ((L.set n (A-S)).take (n + 1)) + a0q (b.take (n + 1))=a0q (a.take (n + 1)) + 4294967296 ^ (n + 1) * 0:=by
     rw [c0H I,O,Q,N1m]
     have e3:4294967296 ^ n * 4294967296 * 0=4294967296 ^ n * (4294967296 * 0):=N1h ..
     have e4:(A-S) + c + B=A + 4294967296 * 0:=by omega
     have e5:4294967296 ^ n * (A-S) + 4294967296 ^ n * c + 4294967296 ^ n * B=4294967296 ^ n * A + 4294967296 ^ n * (4294967296 * 0):=by rw [<- N1a,<- N1a,e4,N1a]
     omega
    unfold k0s
    simp [-Int.natCast_add,k0j,N,e9]
    exact e0a.mk ⟨by simp [Z],by simp [g5],by simp,0,by simp,hx.set hp,L.set n (A-S),a0C (a0r u),by simp [hL],b0W J (by omega),fun j hj=>by have h:=(b0Q (l:=L) (z:=A-S) (show n ≠ j by omega)).trans (F j (by omega));rw [M1R,M1R] at h;exact h,by omega,y⟩
   ·have Y:A < S:=by omega
    have q0:IntKind.u64.wrap ((A:Int) + 4294967296)=((A + 4294967296:Nat):Int):=by rw [a0x];omega
    have q1:IntKind.u64.wrap (((A + 4294967296:Nat):Int) - (S:Int))=((A + 4294967296 - S:Nat):Int):=by rw [a0x];omega
    have q2:IntKind.u32.wrap (((A + 4294967296 - S:Nat):Int))=((A + 4294967296 - S:Nat):Int):=by rw [k0R];omega
    have M:=f0M (fl:=H.size) (x:=A + 4294967296 - S) u hp I
    simp [-Int.natCast_add,m0T,p0P,p0Q,Z,g5,g6,N,o1,o2,eA,U,Y,q0,q1,q2,M]
    have y:a0q ((L.set n (A+4294967296-S)).take (n + 1)) + a0q (b.take (n + 1))=a0q (a.take (n + 1)) + 4294967296 ^ (n + 1) * 1:=by
     rw [c0H I,O,Q,N1m]
     have e3:4294967296 ^ n * 4294967296 * 1=4294967296 ^ n * (4294967296 * 1):=N1h ..
     have e4:(A+4294967296-S) + c + B=A + 4294967296 * 1:=by omega
     have e5:4294967296 ^ n * (A+4294967296-S) + 4294967296 ^ n * c + 4294967296 ^ n * B=4294967296 ^ n * A + 4294967296 ^ n * (4294967296 * 1):=by rw [<- N1a,<- N1a,e4,N1a]
     omega
    unfold k0s
    simp [-Int.natCast_add,k0j,N,e9]
    exact e0a.mk ⟨by simp [Z],by simp [g5],by simp,1,by simp,hx.set hp,L.set n (A+4294967296-S),a0C (a0r u),by simp [hL],b0W J (by omega),fun j hj=>by have h:=(b0Q (l:=L) (z:=A+4294967296-S) (show n ≠ j by omega)).trans (F j (by omega));rw [M1R,M1R] at h;exact h,by omega,y⟩
  ·have b7:=a1 ib
   have a8:c=S:=by omega
   rw [a8] at g6
   simp [-Int.natCast_add,t0W,t0X,Z,g6,N,kb.slen,ib]
   by_cases U:S<=A
   ·have q1:IntKind.u64.wrap ((A:Int) - (S:Int))=((A - S:Nat):Int):=by rw [a0x];omega
    have q2:IntKind.u32.wrap (((A - S:Nat):Int))=((A - S:Nat):Int):=by rw [k0R];omega
    have M:=f0M (fl:=H.size) (x:=A - S) u hp I
    simp [-Int.natCast_add,m0T,t0Y,p0O,Z,g5,g6,N,o1,o2,eA,U,q1,q2,M]
    have y:a0q ((L.set n (A-S)).take (n + 1)) + a0q (b.take (n + 1))=a0q (a.take (n + 1)) + 4294967296 ^ (n + 1) * 0:=by
     rw [c0H I,O,Q,N1m]
     have e3:4294967296 ^ n * 4294967296 * 0=4294967296 ^ n * (4294967296 * 0):=N1h ..
     have e4:(A-S) + c + B=A + 4294967296 * 0:=by omega
     have e5:4294967296 ^ n * (A-S) + 4294967296 ^ n * c + 4294967296 ^ n * B=4294967296 ^ n * A + 4294967296 ^ n * (4294967296 * 0):=by rw [<- N1a,<- N1a,e4,N1a]
     omega
    unfold k0s
    simp [-Int.natCast_add,k0j,N,e9]
    exact e0a.mk ⟨by simp [Z],by simp [g5],by simp,0,by simp,hx.set hp,L.set n (A-S),a0C (a0r u),by simp [hL],b0W J (by omega),fun j hj=>by have h:=(b0Q (l:=L) (z:=A-S) (show n ≠ j by omega)).trans (F j (by omega));rw [M1R,M1R] at h;exact h,by omega,y⟩
   ·have Y:A < S:=by omega
    have q0:IntKind.u64.wrap ((A:Int) + 4294967296)=((A + 4294967296:Nat):Int):=by rw [a0x];omega
    have q1:IntKind.u64.wrap (((A + 4294967296:Nat):Int) - (S:Int))=((A + 4294967296 - S:Nat):Int):=by rw [a0x];omega
    have q2:IntKind.u32.wrap (((A + 4294967296 - S:Nat):Int))=((A + 4294967296 - S:Nat):Int):=by rw [k0R];omega
    have M:=f0M (fl:=H.size) (x:=A + 4294967296 - S) u hp I
    simp [-Int.natCast_add,m0T,p0P,p0Q,Z,g5,g6,N,o1,o2,eA,U,Y,q0,q1,q2,M]
    have y:a0q ((L.set n (A+4294967296-S)).take (n + 1)) + a0q (b.take (n + 1))=a0q (a.take (n + 1)) + 4294967296 ^ (n + 1) * 1:=by
     rw [c0H I,O,Q,N1m]
     have e3:4294967296 ^ n * 4294967296 * 1=4294967296 ^ n * (4294967296 * 1):=N1h ..
     have e4:(A+4294967296-S) + c + B=A + 4294967296 * 1:=by omega
     have e5:4294967296 ^ n * (A+4294967296-S) + 4294967296 ^ n * c + 4294967296 ^ n * B=4294967296 ^ n * A + 4294967296 ^ n * (4294967296 * 1):=by rw [<- N1a,<- N1a,e4,N1a]
     omega
    unfold k0s
    simp [-Int.natCast_add,k0j,N,e9]
    exact e0a.mk ⟨by simp [Z],by simp [g5],by simp,1,by simp,hx.set hp,L.set n (A+4294967296-S),a0C (a0r u),by simp [hL],b0W J (by omega),fun j hj=>by have h:=(b0Q (l:=L) (z:=A+4294967296-S) (show n ≠ j by omega)).trans (F j (by omega));rw [M1R,M1R] at h;exact h,by omega,y⟩
 ·subst a9
  rw [N1c (by omega),N1c b0,N1f] at hs
  have a2:=g0h L J
  rw [hL] at a2
  have a7:c=0:=by
   rcases O1P c with h | h
   ·exact h
   ·have:c=1:=by omega
    subst this
    omega
  subst a7
  simp [v0X,g5]
  refine (e0S (l:=L) ⟨⟨by simp,.inr ⟨p,0,cap,false,b0C L,by rw [hL],u,by simp,by rw [O1c,N1W,<- m0t (l:=L),N1f]⟩⟩,J⟩ hx.1 (by omega)).mo ?_
  rintro r G2 ⟨⟨ht,b4⟩,c0⟩
  simp
  intro _
  rw [c0b _ J,show a0q L=a0q a - a0q b by omega] at ht
  refine ⟨ht,fun q hq=>?_⟩
  rw [b4] at hq
  simp only [slB,M1Q] at hq
  omega
theorem o0m:∀ n,a0q (List.replicate n 0)=0
 | 0=>rfl
 | n + 1=>by rw [List.replicate_succ,a0q,o0m n]
theorem x0L (n:Nat):b0C (List.replicate n 0)=e0W [.int .u32 0] n:=by
 unfold b0C
 induction n with
 | zero=>rfl
 | succ n ih=>simp only [List.replicate_succ,O1o,ih];rfl
theorem V0g {E:Env} {nt tc b b2:Nat} {body:SCode} {rx rc:List a0v} {Q:d0K} {ρ:Nat->Value} (Inv:Nat->(Nat->Value)->a0c->Prop) (n:Nat) (c:tc < nt) (j:Inv 0 ρ H)
  (step:∀ i ρ G,i<=n->Inv i ρ G->WR E fl rc (T nt ρ) G (l0U E fl nt tc b b2 body rx (fun t H=>Q .normal t H) Q R n i Inv) R) :
  W E fl (.loop (.seq (.seq (.reg rc) (.cond (.tmp tc) .skip (.exit b))) (.seq (.block b2 body) (.reg rx)))) (T nt ρ) H (f0t b Q) R:=by
 have h:=y0g (Z:=fun t H=>Q .normal t H) (Q:=Q) Inv n c j step
 rwa [k0N] at h
theorem V0k {x:Nat} (k:x < 4294967296):c0k 0 .and (.int .u32 (x:Int)) (.int .u32 1)=some (.int .u32 ((x % 2:Nat):Int)):=by
 have j:c0k 0 .and (.int .u32 (x:Int)) (.int .u32 1)=some (.int .u32 (IntKind.u32.wrap (BitVec.ofInt IntKind.u32.bits (x:Int) &&& BitVec.ofInt IntKind.u32.bits 1).toNat)):=by unfold c0k;simp
 rw [j]
 have c:(BitVec.ofInt IntKind.u32.bits (x:Int) &&& BitVec.ofInt IntKind.u32.bits 1).toNat=x % 2:=by
  show (BitVec.ofInt 32 (x:Int) &&& BitVec.ofInt 32 1).toNat=x % 2
  rw [BitVec.toNat_and,O1z,O1z]
  have e2:((x:Int) % (2 ^ 32:Nat)).toNat=x:=by omega
  have h:((1:Int) % (2 ^ 32:Nat)).toNat=1:=by decide
  rw [e2,h,Nat.and_one_is_mod]
 rw [c,q0t]
 congr 3
 omega
theorem w1q {x k:Nat} (w:k < 32) (q:x < 4294967296) (u:x % 2 ^ (k + 1)=0):x + 2 ^ k < 4294967296/\c0k 0 .or (.int .u32 (x:Int)) (.int .u32 ((2 ^ k:Nat):Int))=some (.int .u32 ((x + 2 ^ k:Nat):Int)):=by
 have hp:2 ^ k < 2 ^ (k + 1):=Nat.pow_lt_pow_right (by omega) (by omega)
 obtain ⟨y,rfl⟩:=Nat.dvd_of_mod_eq_zero u
 have h:2 ^ (k + 1) * (y + 1)<=4294967296:=by
  have e:(4294967296:Nat)=2 ^ (k + 1) * 2 ^ (31 - k):=by rw [<- O1S,show k + 1 + (31 - k)=32 by omega]
  rw [e] at q ⊢
  exact N1w _ (N1Y q)
 have c:2 ^ (k + 1) * y + 2 ^ k < 4294967296:=by rw [N1a] at h;omega
 refine ⟨c,?_⟩
 have j:=O1u hp y
 rw [k0v]
 have r:(BitVec.ofInt IntKind.u32.bits ((2 ^ (k + 1) * y:Nat):Int) ||| BitVec.ofInt IntKind.u32.bits ((2 ^ k:Nat):Int)).toNat=2 ^ (k + 1) * y + 2 ^ k:=by
  show (BitVec.ofInt 32 ((2 ^ (k + 1) * y:Nat):Int) ||| BitVec.ofInt 32 ((2 ^ k:Nat):Int)).toNat=_
  rw [BitVec.toNat_or,O1z,O1z]
  rw [j]
  generalize 2 ^ (k + 1) * y=x at *
  generalize 2 ^ k=z at *
  have e2:((x:Int) % (2 ^ 32:Nat)).toNat=x:=by omega
  have s:((z:Int) % (2 ^ 32:Nat)).toNat=z:=by omega
  rw [e2,s]
 rw [r,q0t,N1o c]
theorem F0Z {X B R t:Nat} (hB:0 < B) (hR:X % B=R) (q:t < 2):(2 * R + t < B->(2 * X + t) / B=2 * (X / B)/\(2 * X + t) % B=2 * R + t)/\(B<=2 * R + t->(2 * X + t) / B=2 * (X / B) + 1/\(2 * X + t) % B=2 * R + t - B):=by
 have j:=O1t X B
 rw [hR] at j
 have k:R < B:=by rw [<- hR];exact N1R _ hB
 have e:2 * X + t=B * (2 * (X / B)) + (2 * R + t):=by rw [O1F];omega
 constructor
 ·intro h
  rw [e,Nat.mul_add_div hB,Nat.mul_add_mod,O1m h,N1o h]
  exact ⟨rfl,rfl⟩
 ·intro h
  have c:2 * R + t - B < B:=by omega
  have e2:2 * X + t=B * (2 * (X / B)) + B + (2 * R + t - B):=by omega
  rw [<- Nat.mul_succ] at e2
  rw [e2,Nat.mul_add_div hB,Nat.mul_add_mod,O1m c,N1o c]
  exact ⟨rfl,rfl⟩
theorem z0d (A k:Nat):A / 2 ^ k=2 * (A / 2 ^ (k + 1)) + A / 2 ^ k % 2:=by
 rw [N1m,<- Nat.div_div_eq_div_mul];omega
theorem n0Q {A B:Nat} (ha:Lim H v (a0l A)) (hb:Lim H w (a0l B)) (hB:0 < B) (hf:fl<=H.size) (e4:(a0l A).length < 536870912) (f4:(a0l B).length < 536870912) :
  b0k env fl y0z [v,w] H (fun r H'=>(∃ x y,r=.tuple #[x,y]/\Lim H' x (a0l (A / B))/\Lim H' y (a0l (A % B)))/\Ext H H') R:=by
 refine a0i I1a hf (h:=?_)
 intro ρ h0
 simp [R0y,B0d,B0e,h0]
 refine (m0R ha hb (M1U _) (by omega)).mo ?_
 rintro _ G ⟨rfl,F⟩
 rw [d0v,b0Y]
 by_cases a4:A < B
 ·simp [a4,B0f,h0]
  refine fun _=>⟨.slice none 0 0,v,⟨rfl,rfl⟩,?_,?_⟩
  ·rw [O1m a4,a0G];exact Lim.nil
  ·rw [N1o a4];exact ha.mo F
 have c4:¬ (if B < A then (1:Int) else 0) < 0:=by split <;> decide
 obtain ⟨a,hA⟩:∃ a,a=a0l A:=⟨_,rfl⟩
 rw [<- hA] at ha e4
 have d6:a0q a=A:=by rw [hA,a0p]
 have hm:=G1p (bytes:=4) (k:=.i64) (k':=.i64) (l:=(a.length:Int)) (c:=(a.length:Int)) (by omega) (by omega) (by omega) (by omega)
 have w1:IntKind.i64.wrap ((a.length:Int) - 1)=(a.length:Int) - 1:=b0d (by omega) (by omega)
 have ka:=ha.mo F
 simp [a4,c4,h0,B0g,B0h,B0i,ka.slen,hm,w1]
 rw [<- x0L]
 generalize hG:G.push _=G0
 obtain ⟨u,b0⟩:=t0i hG
 clear hG
 have d0:=F.trans u
 have hP:=F.1
 generalize Array.size G=p at b0 hP
 refine y0g (fun n ρ G=>ρ 0=v/\ρ 1=w/\ρ 6=.slice (some ⟨p,0,none⟩) a.length a.length/\ρ 8=.int .i64 ((a.length:Int) - 1 - n)/\n<=a.length/\Ext H G/\Lim G (ρ 7) (a0l (a0q (a.drop (a.length - n)) % B)) /\
   ∃ o,a0c.bk G p=.row false a0b (b0C o)/\o.length=a.length/\b0g o/\a0q o=4294967296 ^ (a.length - n) * (a0q (a.drop (a.length - n)) / B)/\∀ t,t < a.length - n->o.getD t 0=0)
  a.length (by decide) ⟨by simp [h0],by simp [h0],by simp,by simp,by omega,d0,by simp [a0q,a0G];exact Lim.nil,List.replicate a.length 0,b0,by simp,by intro x F;simp at F;omega,by simp [a0q,o0m],fun t _=>by simp [M1R,O1I];split <;> rfl⟩ ?_
 clear h0 ρ hm b0 d0 u F ka w1 G G0 c4
 rintro n ρ G f3 ⟨g0,g1,g6,g8,hn,F,M,o,j,L,I,hs,hz⟩
 by_cases e5:n < a.length
 ·obtain ⟨i,hi⟩:∃ i,a.length - n=i + 1:=⟨a.length - n - 1,by omega⟩
  have b4:i < a.length:=by omega
  have a8:ρ 8=.int .i64 (i:Int):=by rw [g8];congr 1;omega
  have e8:IntKind.i64.wrap ((i:Int) - 1)=(a.length:Int) - 1 - ((n + 1:Nat):Int):=by rw [b0d (by omega) (by omega)];omega
  rw [hi] at M hs hz
  have b2:=f0O b4
  have b6:=c0z ha.ok i
  have aL:∀ G2,Ext H G2->b0w G2 false 1 (adr 1 v i)=some (.int .u32 ((a.getD i 0:Nat):Int)):=fun G2 h=>ha.load b4 h
  generalize a.getD i 0=U at b2 b6 aL
  generalize a0q (a.drop (i + 1))=D at b2 M hs
  simp [t0D,a8]
  refine l0U.mk true (by simp) (fun _=>⟨e5,?_⟩) (by simp)
  simp [B0j]
  refine V0g (fun q ρ G=>ρ 0=v/\ρ 1=w/\ρ 6=.slice (some ⟨p,0,none⟩) a.length a.length/\ρ 8=.int .i64 (i:Int)/\ρ 9=.int .i64 ((31:Int) - q)/\q<=32/\Ext H G/\Lim G (ρ 7) (a0l ((D * 2 ^ q + U / 2 ^ (32 - q)) % B)) /\
    ∃ o,a0c.bk G p=.row false a0b (b0C o)/\o.length=a.length/\b0g o/\a0q o=4294967296 ^ i * (2 ^ (32 - q) * ((D * 2 ^ q + U / 2 ^ (32 - q)) / B))/\(∀ t,t < i->o.getD t 0=0)/\o.getD i 0 % 2 ^ (32 - q)=0)
   32 (by decide) ?_ ?_
  ·have hU:U / 2 ^ 32=0:=O1m (by omega)
   refine ⟨by simp [g0],by simp [g1],by simp [g6],by simp [a8],by simp,by omega,F,?_,o,j,L,I,?_,fun t ht=>hz t (by omega),?_⟩
   ·rw [P1e,hU,Nat.pow_zero,N1W,N1O];simpa using M
   ·rw [P1e,hU,Nat.pow_zero,N1W,N1O,hs,N1m,N1h]
   ·rw [hz i (by omega)]
  clear g0 g1 g6 g8 a8 F M j L I hs hz o G ρ
  rintro q ρ G f5 ⟨g0,g1,g6,g8,g9,f6,F,M,o,j,L,I,hs,hz,J⟩
  by_cases hq:q < 32
  ·obtain ⟨k,hk⟩:∃ k,32 - q=k + 1:=⟨31 - q,by omega⟩
   have Y:ρ 9=.int .i64 (k:Int):=by rw [g9];congr 1;omega
   have e9:IntKind.i64.wrap ((k:Int) - 1)=(31:Int) - ((q + 1:Nat):Int):=by rw [b0d (by omega) (by omega)];omega
   have S:32 - (q + 1)=k:=by omega
   have ek:IntKind.u64.wrap (k:Int)=(k:Int):=by rw [a0x];omega
   have ka:=ha.mo F
   have a1:=ka.ia b4 (k:=.i64)
   have a2:=aL G F
   have c8:c0k 0 .shr (.int .u32 (U:Int)) (.int .u64 (k:Int))=some (.int .u32 ((U / 2 ^ k:Nat):Int)):=q0n (by omega)
   have b8:U / 2 ^ k < 4294967296:=O1Q (Nat.div_le_self _ _) b6
   have a9:=V0k b8
   have e0:=z0d U k
   rw [hk] at M hs J
   obtain ⟨X,hX⟩:∃ X,D * 2 ^ q + U / 2 ^ (k + 1)=X:=⟨_,rfl⟩
   have Q:D * 2 ^ (q + 1) + U / 2 ^ k=2 * X + U / 2 ^ k % 2:=by
    have:D * 2 ^ (q + 1)=2 * (D * 2 ^ q):=by rw [N1m,<- N1h,N1p]
    omega
   rw [hX] at M hs
   obtain ⟨bt,b9⟩:∃ bt,U / 2 ^ k % 2=bt:=⟨_,rfl⟩
   rw [b9] at a9 Q
   have c0:bt < 2:=by omega
   obtain ⟨Uk,Z⟩:∃ Uk,U / 2 ^ k=Uk:=⟨_,rfl⟩
   rw [Z] at c8 a9 Q b8 e0 b9
   have b5:=F0Z (X:=X) hB rfl c0
   have d7:X % B < B:=N1R _ hB
   obtain ⟨r0,g7⟩:∃ r0,ρ 7=r0:=⟨_,rfl⟩
   rw [g7] at M
   have e1:(a0l (X % B)).length<=(a0l B).length:=b0S (Nat.le_of_lt d7)
   have d8:((bt:Int) == 1).toNat=bt:=by
    have:bt=0 ∨ bt=1:=by omega
    rcases this with h | h <;> rw [h] <;> rfl
   simp [t0E,Y]
   refine l0U.mk true (by simp) (fun _=>⟨hq,?_⟩) (by simp)
   simp [B0k,g0,g7,g8,Y,a1,a2,ek,c8,a9]
   refine (n0R M F.1 (by omega)).mo ?_
   rintro r1 G1 ⟨⟨N,c2⟩,u⟩
   have f2:=c2.ne (a0r j)
   rw [a0p,d8] at N
   replace F:=F.trans u
   replace j:=u.bk j
   have kb:=hb.mo F
   obtain ⟨R',b7⟩:∃ R',2 * (X % B) + bt=R':=⟨_,rfl⟩
   rw [b7] at N
   have f0:(a0l R').length<=(a0l B).length + 1:=by
    refine f0I ?_
    have:=j0S B
    rw [N1m]
    omega
   rw [b7] at b5
   simp [v0B,g1]
   refine (m0R N kb F.1 (by omega)).mo ?_
   rintro _ G2 ⟨rfl,u⟩
   rw [d0v,b0Y]
   replace F:=F.trans u
   replace j:=u.bk j
   replace kb:=kb.mo u
   replace N:=N.mo u
   have a3:i < o.length:=by omega
   by_cases b3:B<=R'
   ·have b1:¬ R' < B:=by omega
    have d9:((0:Int)<=if B < R' then 1 else 0):=by split <;> decide
    obtain ⟨d1,d2⟩:=b5.2 b3
    simp [b1,d9,v0C,g1]
    refine (r0Q N kb F.1 (by omega) (b0S b3) (by rw [a0p,a0p];exact b3) (by
     rcases O1P (a0l R').length with h | h
     ·have:=b0O.1 (N1r.1 h);omega
     ·exact h)).mo ?_
    rintro r2 G3 ⟨⟨c7,c3⟩,u⟩
    have c5:=c3.ne (a0r j)
    rw [a0p,a0p] at c7
    replace F:=F.trans u
    replace j:=u.bk j
    obtain ⟨o1,o2⟩:=i0C (k:=.i64) (cap:=a.length) j a3 L
    have a6:=c0z I i
    have O:=l0N o i (o.getD i 0 + 2 ^ k) a3
    generalize hy:o.getD i 0=y at o2 a6 O J
    obtain ⟨d3,c6⟩:=w1q (by omega) a6 J
    have c9:c0k 0 .shl (.int .u32 1) (.int .u64 (k:Int))=some (.int .u32 ((2 ^ k:Nat):Int)):=by
     have h:=q0m (tag:=0) (n:=1) (s:=k) (k':=.u64) (by omega)
     have h2:1 * 2 ^ k % 4294967296=2 ^ k:=by rw [O1e];exact N1o (by omega)
     rw [h2] at h;exact h
    have a7:=f0M (fl:=H.size) (x:=y + 2 ^ k) j hP a3
    have d4:(y + 2 ^ k) % 2 ^ k=0:=by
     obtain ⟨z,hz⟩:=Nat.dvd_of_mod_eq_zero J
     rw [hz,N1m,N1h,Nat.add_mod_right,Nat.mul_mod_right]
    have a5:2 ^ (k + 1)=2 * 2 ^ k:=by rw [N1m,N1p]
    obtain ⟨K,a0⟩:∃ K,K=2 ^ k:=⟨_,rfl⟩
    rw [<- a0] at d3 c6 c9 a7 d4 O a5
    have e7:=j
    have e2:∀ y,y % K=0->True:=fun _ _=>trivial
    simp [-Int.natCast_add,-k0v,v0D,g6,g8,Y,o1,o2,ek,c9,c6,a7]
    unfold k0s
    simp [-Int.natCast_add,p0H,Y,e9]
    refine e0a.mk ⟨by simp [g0],by simp [g1],by simp [g6],by simp [g8],by simp,by omega,F.set hP,?_,o.set i (y + K),a0C (a0r j),by simp [L],b0W I d3,?_,?_,?_⟩
    ·rw [S,Z,Q,d2]
     simp
     exact Lim.off c7 (j0m.refl.set) c5
    ·rw [S,Z,Q,d1,<- a0]
     rw [hs,a5] at O
     have f1:4294967296 ^ i * (K * (2 * (X / B) + 1))=4294967296 ^ i * (2 * K * (X / B)) + 4294967296 ^ i * K:=by
      rw [<- N1a];congr 1;rw [N1a,N1W];congr 1;rw [O1F,N1h]
     rw [N1a] at O
     omega
    ·intro t ht
     have h:=(b0Q (l:=o) (z:=y + K) (show i ≠ t by omega)).trans (hz t ht)
     rw [M1R] at h;exact h
    ·rw [S,<- a0,O1v a3];exact d4
   ·obtain ⟨d1,d2⟩:=b5.1 (by omega)
    have b1:R' < B:=by omega
    have a5:2 ^ (k + 1)=2 * 2 ^ k:=by rw [N1m,N1p]
    simp [b1]
    unfold k0s
    simp [-Int.natCast_add,p0H,Y,e9]
    refine e0a.mk ⟨by simp [g0],by simp [g1],by simp [g6],by simp [g8],by simp,by omega,F,?_,o,j,L,I,?_,?_,?_⟩
    ·rw [S,Z,Q,d2]
     simp
     exact N
    ·rw [S,Z,Q,d1,hs,a5]
     congr 1
     rw [O1F,N1h]
    ·intro t ht
     have h:=hz t ht
     rw [M1R] at h;exact h
    ·rw [S]
     obtain ⟨z,d5⟩:=Nat.dvd_of_mod_eq_zero J
     rw [M1R] at d5
     rw [d5,N1m,N1h,Nat.mul_mod_right]
  ·have e6:q=32:=by omega
   subst e6
   rw [Nat.sub_self,Nat.pow_zero,Nat.div_one,O1e] at hs
   rw [Nat.sub_self,Nat.pow_zero,Nat.div_one] at M
   have hD:D * 2 ^ 32 + U=a0q (a.drop i):=by rw [b2];omega
   rw [hD] at M hs
   simp [t0E,g9]
   refine l0U.mk false (by simp) (by simp) (fun _=>?_)
   unfold k0s
   simp [-Int.natCast_add,v0E,g8,e8]
   have c1:a.length - (n + 1)=i:=by omega
   refine e0a.mk ⟨by simp [g0],by simp [g1],by simp [g6],by simp,by omega,F,by rw [c1];simpa using M,o,j,L,I,by rw [c1];exact hs,fun t ht=>?_⟩
   have h:=hz t (by omega)
   rw [M1R] at h;exact h
 ·have e3:n=a.length:=by omega
  subst e3
  rw [Nat.sub_self,O1c,d6] at M hs
  rw [Nat.pow_zero,O1e] at hs
  simp [t0D,g8]
  refine l0U.mk false (by simp;omega) (by simp) (fun _=>?_)
  obtain ⟨r0,g7⟩:∃ r0,ρ 7=r0:=⟨_,rfl⟩
  rw [g7] at M
  simp [v0F,g6,g7]
  refine (l0m (l:=o) ⟨⟨by simp,.inr ⟨p,0,a.length,false,b0C o,by rw [L],j,by simp,by rw [O1c,N1W,<- m0t (l:=o),N1f]⟩⟩,I⟩ F.1 (by omega)).mo ?_
  rintro r G2 ⟨ht,u⟩
  rw [c0b _ I,hs] at ht
  simp [g7]
  exact fun _=>⟨_,_,⟨rfl,rfl⟩,ht,M.mo u⟩
end
section
variable {fl:Nat} {H G:a0c} {R:a0P} {v w:Value} {i j:Bool × List Nat}
theorem n0B {n:Nat} (h:0 < n):0 < (a0l n).length:=by
 rcases O1P (a0l n).length with c | c
 ·have:=b0O.1 (N1r.1 c);omega
 ·exact c
theorem m0Q (h:c0m H v i) (k:c0m H w j) (hf:fl<=H.size) (hn:i.2.length < 268435456) (hm:j.2.length < 268435456):b0k env fl v1K [v,w] H (fun r H'=>c0m H' r (a0J (Int.gcd (a0B i) (a0B j)))/\Ext H H') R:=by
 have k0:=h
 have J:=k
 have a4:=h.ok
 have a1:=k.ok
 obtain ⟨s,rfl,hs⟩:=h
 obtain ⟨u,rfl,hu⟩:=k
 refine a0i M1n hf (h:=?_)
 intro ρ h0
 simp [G1P,U0m,h0,hs.cells,hu.cells]
 generalize Y:((H.push _).push _).push _=G
 have q:Ext H G:=by rw [<- Y];exact (Ext.refl H).push.push.push
 have L:a0c.bk G H.size=.row false a0a [.bool i.1,s]:=by rw [<- Y];simp
 have M:a0c.bk G (H.size + 1)=.row false a0a [.bool j.1,u]:=by rw [<- Y];simp
 have b2:a0c.bk G (H.size + 2)=.row false a0a [.bool false,.slice none 0 0]:=by rw [<- Y];simp
 have z:=Ext.refl H
 clear Y
 replace z:=z.trans q;replace k0:=k0.mo q;replace J:=J.mo q
 have l1:=a0L a4
 have l2:=a0L a1
 have Z:∀ x s:Value,S0r false 1 1 (.agg #[x,s])=some s:=fun _ _=>rfl
 refine c0t ?_
 simp [U0n,L]
 refine (l0l k0 (by have:=z.1;omega) (by omega)).mo ?_
 rintro _ G2 ⟨⟨s1,rfl,k2⟩,q⟩
 replace L:=q.bk L;replace M:=q.bk M;replace b2:=q.bk b2;replace z:=z.trans q;replace k0:=k0.mo q;replace J:=J.mo q
 simp [M,Z]
 refine (l0l J z.1 (by omega)).mo ?_
 rintro _ G2 ⟨⟨s2,rfl,k3⟩,q⟩
 replace L:=q.bk L;replace M:=q.bk M;replace b2:=q.bk b2;replace z:=z.trans q;replace k0:=k0.mo q;replace J:=J.mo q;replace k2:=k2.mo q
 simp [Z]
 refine b0X (fun c t G=>∃ (a b:Nat) (Q s6:Value),c=b/\t.length=28/\get t 4=.pointer (some ⟨H.size + 2,0,none⟩)/\get t 5=Q/\get t 6=s6 /\
   Ext H G/\a0c.bk G (H.size + 2)=.row false a0a [.bool false,.slice none 0 0]/\Lim G Q (a0l a)/\Lim G s6 (a0l b) /\
   (a0l a).length < 536870912/\(a0l b).length < 536870912/\Nat.gcd a b=Int.gcd (a0B i) (a0B j))
  (fun t G=>∃ (a:Nat) (Q:Value),t.length=28/\get t 4=.pointer (some ⟨H.size + 2,0,none⟩)/\get t 5=Q /\
   Ext H G/\a0c.bk G (H.size + 2)=.row false a0a [.bool false,.slice none 0 0]/\Lim G Q (a0l a)/\(a0l a).length < 536870912/\a=Int.gcd (a0B i) (a0B j)) (a0B j).natAbs ?_ ?_ ?_
 ·exact ⟨(a0B i).natAbs,(a0B j).natAbs,s1,s2,rfl,by simp,by simp,by simp,by simp,z,b2,k2,k3,by omega,by omega,rfl⟩
 ·clear h0 ρ k0 J k2 k3 L M b2 z
  rintro c t G ⟨a,b,Q,s6,rfl,ht,S,U,g6,z,b2,I,k6,la,lb,hg⟩
  obtain ⟨ρ,rfl⟩:=toT ht
  simp only [b0H,Nat.reduceLT] at S U g6
  by_cases hb:c=0
  ·subst hb
   have hd:=a0G
   have O:=k6.slen
   rw [hd] at O
   simp at O
   simp [E0v,g6,O]
   have a2:a=Int.gcd (a0B i) (a0B j):=by simpa using hg
   rw [a2] at I la
   exact ⟨S,z,b2,by rw [U];exact I,la⟩
  ·have F:=n0B (show 0 < c by omega)
   have N:(0:Int) < ((a0l c).length:Int):=by omega
   have a3:a0l c ≠ []:=fun h=>by rw [h] at F;simp at F
   simp [E0v,U0o,U,g6,k6.slen,F,N,a3]
   refine (n0Q I k6 (by omega) z.1 la lb).mo ?_
   rintro _ G2 ⟨⟨x,y,rfl,k7,k8⟩,q⟩
   simp [U0p,U0q,g6]
   have a0:=N1R a (show c > 0 by omega)
   have a5:(a0l (a % c)).length<=(a0l c).length:=b0S (Nat.le_of_lt a0)
   exact ⟨a % c,a0,S,z.trans q,q.bk b2,c,k6.mo q,k8,lb,by omega,by rw [Nat.gcd_comm,<- Nat.gcd_rec,Nat.gcd_comm];exact hg⟩
 ·clear h0 ρ k0 J k2 k3 L M b2 z
  rintro t G ⟨a,Q,ht,S,U,z,b2,I,la,rfl⟩
  obtain ⟨ρ,rfl⟩:=toT ht
  simp only [b0H,Nat.reduceLT] at S U
  simp [U0r,U]
  refine (x0A ((Int.gcd (a0B i) (a0B j):Nat):Int) I z.1 (by omega) (by simp [a0p])).mo ?_
  rintro _ G2 ⟨⟨s3,rfl,I⟩,q⟩
  replace b2:=q.bk b2;replace z:=z.trans q
  have hsz:=z.1
  simp [S,b2,I.cells,I.plain,hsz]
  generalize hS:Array.setIfInBounds G2 _ _=G5
  have hsz:=z.1;replace I:=I.setS hS b2 (by decide);replace z:=q0l hS z (by omega);replace b2:=k0L hS b2;clear hS hsz
  simp [b2]
  exact fun _=>⟨s3,rfl,I⟩
end
section
variable {fl:Nat} {H G:a0c} {R:a0P} {v w:Value}
end
section
variable {fl:Nat} {H G:a0c} {R:a0P} {v w:Value} {a:d0d}
theorem k0z {n:Nat}:a0l n=[1] <-> n=1:=by
 constructor
 ·intro h
  have:=a0p n
  rw [h] at this
  simpa [a0q] using this.symm
 ·rintro rfl
  rw [c0X (by omega)]
  simp [a0G]
theorem F1s {i:Bool × List Nat} (h:d0k i=true) (q:i.2 ≠ []) (j:b0g i.2):a0B i ≠ 0:=by
 intro k
 have c:=h0U j
 unfold d0N at c
 rw [h,k] at c
 simp [a0G] at c
 exact q c
theorem n0P (h:j0o H v a) (hf:fl<=H.size) (hn:n0F a < 268435456):b0k env fl v1J [v] H (fun r H'=>r=.bool (n0H a)/\Ext H H') R:=by
 have L:a.1.2.length < 268435456:=by unfold n0F at hn;omega
 have M:a.2.2.length < 268435456:=by unfold n0F at hn;omega
 obtain ⟨s,u,rfl,hs,U⟩:=h
 obtain ⟨⟨p,I⟩,⟨q,J⟩⟩:=a
 simp only at hs U L M
 have k0:c0m H (.agg #[.bool p,s]) (p,I):=⟨s,rfl,hs⟩
 have F:c0m H (.agg #[.bool q,u]) (q,J):=⟨u,rfl,U⟩
 refine a0i M1c hf (h:=?_)
 intro ρ h0
 simp [G1H,T0v,h0]
 generalize hG:H.push _=G
 obtain ⟨c,j⟩:=t0i hG
 have w:=Ext.refl H
 clear hG
 replace hs:=hs.mo c
 replace U:=U.mo c
 replace w:=w.trans c;replace k0:=k0.mo c;replace F:=F.mo c
 have a2:=hs.slen
 have Q:=U.slen
 by_cases hc:J=[]/\q=false
 ·obtain ⟨rfl,rfl⟩:=hc
  have hm:n0H ((p,I),(false,[]))=(!p && I.length == 0):=by
   unfold n0H e0p
   have:a0B (false,([]:List Nat))=0:=by simp [a0B,a0q,d0k]
   rw [this]
   cases p <;> simp
  rw [hm]
  simp [w0j,j,Q]
  cases I with
  | nil=>cases p <;> simp [E0f,j,a2]
  | cons y l =>
   have O:¬ ((l.length:Int) + 1=0):=by omega
   cases p <;> simp [E0f,j,a2,O]
 ·have hm:n0H ((p,I),(q,J))=(d0k (p,I) && d0k (q,J) && !q && decide (Int.gcd (a0B (p,I)) (a0B (q,J))=1)):=by
   have Y:e0p ((p,I),(q,J))=false:=by
    unfold e0p
    cases J with
    | nil=>cases q with
     | true=>simp
     | false=>exact N1i ⟨rfl,rfl⟩ hc
    | cons y l=>simp
   unfold n0H
   rw [Y,O1U]
   by_cases S:d0k (q,J)=true/\q=false
   ·obtain ⟨S,rfl⟩:=S
    have hl:J ≠ []:=fun h=>hc ⟨h,rfl⟩
    have hv:=F1s (i:=(false,J)) S hl U.ok
    have a6:(a0B (false,J) != 0)=true:=bne_iff_ne.2 hv
    rw [S,a6]
    cases d0k (p,I) <;> simp [BEq.beq]
   ·cases h2:d0k (q,J) <;> cases q <;> simp_all
  rw [hm]
  have a0:∀ (s:Value) (g:Nat) (G:a0c),Lim G s (a0l g)->(decide (((a0l g).length:Int)=1)=true->b0w G false 1 (adr 1 s 0)=some (.int .u32 ((a0l g).getD 0 0:Nat))):=fun s g G h hl=>h.load (by have:=of_decide_eq_true hl;omega) (Ext.refl _)
  cases J with
  | nil =>
   have a5:q=true:=by cases q with
    | true=>rfl
    | false=>exact N1i ⟨rfl,rfl⟩ hc
   subst a5
   simp [w0j,E0g,j,Q]
   refine (m0Q k0 F w.1 L M).mo ?_
   rintro _ G2 ⟨⟨sg,rfl,x⟩,c⟩
   replace j:=c.bk j;replace w:=w.trans c;replace k0:=k0.mo c;replace F:=F.mo c
   have hsz:=w.1
   obtain ⟨g,hg⟩:∃ g,Int.gcd (a0B (p,I)) (a0B (true,[]))=g:=⟨_,rfl⟩
   rw [hg] at x ⊢
   simp [x.cells,x.plain,hsz]
   generalize Z:Array.setIfInBounds (Array.push _ _) _ _=G3
   obtain ⟨c,b2⟩:=F0C Z
   clear Z
   replace j:=c.bk j;replace w:=w.trans c;replace k0:=k0.mo c;replace F:=F.mo c
   replace x:Lim G3 sg (a0l g):=x.mo c
   simp [E0h,j]
   refine (c0U k0 w.1 (N1k L (by omega))).mo ?_
   rintro _ G4 ⟨rfl,c⟩
   replace j:=c.bk j;replace b2:=c.bk b2;replace w:=w.trans c;replace k0:=k0.mo c;replace F:=F.mo c
   replace x:=x.mo c
   cases S:d0k (p,I) with
   | false=>simp
   | true =>
   simp [j]
   refine (c0U F w.1 (N1k M (by omega))).mo ?_
   rintro _ G5 ⟨rfl,c⟩
   replace j:=c.bk j;replace b2:=c.bk b2;replace w:=w.trans c;replace k0:=k0.mo c;replace F:=F.mo c
   replace x:=x.mo c
   have a4:d0k (true,([]:List Nat))=false:=rfl
   simp [a4]
  | cons y l =>
   have O:¬ ((l.length:Int) + 1=0):=by omega
   simp [w0j,E0g,j,Q,O]
   refine (m0Q k0 F w.1 L M).mo ?_
   rintro _ G2 ⟨⟨sg,rfl,x⟩,c⟩
   replace j:=c.bk j;replace w:=w.trans c;replace k0:=k0.mo c;replace F:=F.mo c
   have hsz:=w.1
   obtain ⟨g,hg⟩:∃ g,Int.gcd (a0B (p,I)) (a0B (q,y::l))=g:=⟨_,rfl⟩
   rw [hg] at x ⊢
   simp [x.cells,x.plain,hsz]
   generalize Z:Array.setIfInBounds (Array.push _ _) _ _=G3
   obtain ⟨c,b2⟩:=F0C Z
   clear Z
   replace j:=c.bk j;replace w:=w.trans c;replace k0:=k0.mo c;replace F:=F.mo c
   replace x:Lim G3 sg (a0l g):=x.mo c
   simp [E0h,j]
   refine (c0U k0 w.1 (N1k L (by omega))).mo ?_
   rintro _ G4 ⟨rfl,c⟩
   replace j:=c.bk j;replace b2:=c.bk b2;replace w:=w.trans c;replace F:=F.mo c
   replace x:=x.mo c
   cases S:d0k (p,I) with
   | false=>simp
   | true =>
   simp [j]
   refine (c0U F w.1 (N1k M (by omega))).mo ?_
   rintro _ G5 ⟨rfl,c⟩
   replace j:=c.bk j;replace b2:=c.bk b2;replace w:=w.trans c
   replace x:=x.mo c
   cases h2:d0k (q,y :: l) with
   | false=>simp
   | true =>
   cases q with
   | true=>simp [j]
   | false =>
   by_cases N:(a0l g).length=1
   ·obtain ⟨z,Y⟩:=List.length_eq_one_iff.1 N
    have a3:(g=1)=(z=1):=propext ⟨fun h=>by have:=k0z.2 h;rw [Y] at this;simpa using this,fun h=>k0z.1 (by rw [Y,h])⟩
    have h3:=x.ia (show 0 < (a0l g).length by omega) (k:=.i64)
    have h4:=x.load (show 0 < (a0l g).length by omega) (Ext.refl _)
    rw [Y] at h4
    simp at h3 h4
    simp [j,b2,x.slen,N,Y,h3,h4,a3]
    intro _
    rw [O1d,beq_iff_eq,N1s]
    omega
   ·have a1:¬ ((a0l g).length:Int)=1:=by omega
    have a0:¬ g=1:=fun h=>N (by rw [k0z.2 h];rfl)
    simp [j,b2,x.slen,N,a1,a0]
end
section
variable {fl:Nat} {H G:a0c} {R:a0P} {v w:Value} {a b:d0d}
end
section
variable {fl:Nat} {H G:a0c} {R:a0P} {v w:Value} {e f:o0N}
end
section
variable {fl:Nat} {H G:a0c} {R:a0P} {v w:Value}
theorem V0e {E:Env} {nt tc b b2:Nat} {body:SCode} {rx rc:List a0v} {Q:d0K} {ρ:Nat->Value} (Inv:Nat->(Nat->Value)->a0c->Prop) (n:Nat) (c:tc < nt) (j:Inv 0 ρ H)
  (step:∀ i ρ G,i<=n->Inv i ρ G->WR E fl rc (T nt ρ) G (g0T E fl nt tc b b2 n body rx (fun t H=>Q .normal t H) Q R i Inv) R) :
  W E fl (.loop (.seq (.seq (.reg rc) (.cond (.tmp tc) .skip (.exit b))) (.seq (.block b2 body) (.reg rx)))) (T nt ρ) H (f0t b Q) R:=by
 have h:=f0r (Z:=fun t H=>Q .normal t H) (Q:=Q) Inv n c j step
 rwa [k0N] at h
theorem n0O {S:Nat} {rows:List (List d0d)} {n:Int} (h:k0X H v rows) (hf:fl<=H.size) (hS:S < 67108864) (hr:∀ r ∈ rows,Few S r/\r.length < 1073741824) (a6:rows.length < 1073741824) :
  b0k env fl v1C [v,.int .i64 n] H (fun r H'=>r=.bool (o0y rows n)/\Ext H H') R:=by
 obtain ⟨s,rfl,hs⟩:=h
 refine a0i L1Y hf (h:=?_)
 intro ρ M
 simp [G1E,T0d,M,hs.cells]
 generalize hG:H.push _=G
 obtain ⟨J,b0⟩:=t0i hG
 have hx:=Ext.refl H
 clear hG
 replace hx:=hx.trans J
 unfold o0y
 by_cases h1:n < 0
 ·have q:¬ 0<=n:=by omega
  simp [r0T,w0e,M,h1,q]
 have q:0<=n:=by omega
 by_cases h2:6 < n
 ·have I:¬ n<=6:=by omega
  simp [r0T,w0e,M,h1,q,h2,I]
 have I:n<=6:=by omega
 by_cases h3:40 < rows.length
 ·have N:¬ rows.length<=40:=by omega
  have u:(40:Int) < (rows.length:Int):=by omega
  simp [r0T,w0e,M,b0,hs.slen,h1,q,h2,I,h3,N,u]
 have N:rows.length<=40:=by omega
 have u:¬ (40:Int) < (rows.length:Int):=by omega
 simp [r0T,T0e,M,b0,hs.slen,h1,q,h2,I,h3,N,u]
 have a0:=hs.mo j0V hx
 refine f0r (fun i ρ G'=>ρ 1=.int .i64 n/\ρ 2=.pointer (some ⟨H.size,0,none⟩)/\ρ 5=.int .i64 (i:Int)/\Ext G G'/\i0H (q0k n) (rows.take i)=true) rows.length (by decide) (by simp [M,Ext.refl G,d0H]) ?_
 clear M ρ J
 rintro i ρ G1 a4 ⟨y,z,F,c,hc⟩
 have U:=c.bk b0
 have L:=a0.mo j0V c
 simp [T0f,z,F,U,L.slen]
 refine g0T.mk (by simp) (fun hi=>?_) (fun Q=>?_)
 ·obtain ⟨w,hl,Y⟩:=k0u.load L hi
  obtain ⟨Z,a3⟩:=hr _ (N1j hi)
  have a2:=b0D (show i < 4611686018427387904 by omega)
  by_cases k:(rows[i].length:Int)=n
  ·simp [D0S,T0h,y,z,F,U,L.ia hi,hl,Y.slen,k]
   refine V0e (fun j ρ G'=>ρ 1=.int .i64 n/\ρ 2=.pointer (some ⟨H.size,0,none⟩)/\ρ 5=.int .i64 (i:Int)/\ρ 6=.int .i64 (j:Int)/\Ext G G'/\i0H n0H (rows[i].take j)=true) rows[i].length (by decide) (by simp [y,z,F,c,d0H]) ?_
   clear y z F c Y hl L U ρ G1
   rintro j ρ G1 a5 ⟨y,z,F,g6,c,O⟩
   have U:=c.bk b0
   have L:=a0.mo j0V c
   simp [T0i,y,g6]
   refine g0T.mk (by simp [<- k]) (fun hj=>?_) (fun Q=>?_)
   ·obtain ⟨w,hl,Y⟩:=k0u.load L hi
    obtain ⟨x,a1,k0⟩:=f0H.load Y hj
    simp [T0j,y,z,F,g6,U,L.ia hi,hl,Y.ia hj,a1]
    refine (n0P k0 (by have:=hx.1;have:=c.1;omega) (by have:=(Z _ (N1j hj)).1;omega)).mo ?_
    rintro _ G2 ⟨rfl,J⟩
    replace c:=c.trans J
    cases hm:n0H rows[i][j]
    ·simp [D0O]
     intros
     exact f0E hi (by unfold q0k;rw [f0E hj hm];simp)
    ·simp
     unfold k0s
     simp [D0P,g6,b0D (show j < 4611686018427387904 by omega)]
     exact e0a.mk ⟨by simp [y],by simp [z],by simp [F],by simp,c,by rw [c0K hj,O,hm];rfl⟩
   ·subst Q
    rw [N1f] at O
    unfold k0s
    simp [D0Q,F,a2]
    exact e0a.mk ⟨by simp [y],by simp [z],by simp,c,by rw [c0K hi,hc];unfold q0k;simp [k,O]⟩
  ·simp [D0S,T0g,y,z,F,U,L.ia hi,hl,Y.slen,k]
   intro _
   exact f0E hi (by unfold q0k;simp [k])
 ·subst Q
  rw [N1f] at hc
  simp [D0R,hc]
end
section
variable {fl:Nat} {H G:a0c} {R:a0P} {v w u:Value}
def j0I (n m:Int) (a:l0q):Bool:=decide ((a.X.length:Int)=n) && decide ((a.W.length:Int)=m) && d0k a.K && i0H d0k a.X && i0H d0k a.W
def f0s (l:List l0q) (n m:Int):Bool:=i0H (j0I n m) l
structure EdT where
 f:Int
 t:Int
 e:w0B
structure ViT where
 l:Int
 m:Int
 g:List l0q
structure u0R where
 nl:Nat
 ns:Nat
 E:List EdT
 V:List ViT
def inB (n:Nat) (i:Int):Bool:=decide (0<=i) && decide (i < n)
def l0F (m:Int):Bool:=decide (0<=m) && decide (m<=40)
def m0k (nl ns:Nat) (x:EdT):Bool:=inB nl x.f && inB nl x.t && l0F x.e.m && decide (x.e.set.length=ns) && f0s x.e.guards ns x.e.m && f0s x.e.set ns x.e.m
def s0r (nl ns:Nat) (x:ViT):Bool:=inB nl x.l && l0F x.m && f0s x.g ns x.m
def r0r (l:u0R):Bool:=decide (1<=l.nl) && decide (l.nl<=40) && decide (l.ns<=6) && decide (l.E.length<=200) && decide (l.V.length<=200)
def d0j (l:u0R):Bool:=r0r l && i0H (m0k l.nl l.ns) l.E && i0H (s0r l.nl l.ns) l.V
theorem f0W.loadV {l:List (Bool × List Nat)} (h:f0W H v l) {j:Nat} (q:j < l.length):∃ w,b0w H true 2 (adr 2 v j)=some w/\c0m H w l[j]:=by
 obtain ⟨s,c,k⟩:=f0W.load h q;exact ⟨_,c,s,rfl,k⟩
def PEs (H:a0c) (cs:List Value) (l:List o0N):Prop:=∃ v,cs=[v]/\F0F H v l
abbrev S0h (H:a0c) (v:Value) (l:List (List o0N)):Prop:=Sls PEs H k0W 1 v l
theorem S0h.load {l:List (List o0N)} (h:S0h H v l) {j:Nat} (r:j < l.length):∃ w,b0w H false 1 (adr 1 v j)=some w/\F0F H w l[j]:=by
 obtain ⟨w,k,w',c,q⟩:=Sls.load1 h r
 simp only [List.cons.injEq,and_true] at c
 subst c
 exact ⟨w,k,q⟩
def EdV (H:a0c) (cs:List Value) (x:EdT):Prop:=∃ sG sS sP:Value,cs=[.int .i64 x.f,.int .i64 x.t,.int .i64 x.e.m,sG,sS,sP]/\j0k H sG x.e.guards/\j0k H sS x.e.set/\a0t sP=[sP]/\a0n sP=true
theorem o0k:q0A EdV:=fun _ _ _ _ c ⟨r,u,s,h,j,k,q⟩=>⟨r,u,s,h,j.mo b0j c,k.mo b0j c,q⟩
def ViV (H:a0c) (cs:List Value) (x:ViT):Prop:=∃ (s:Int) (sG:Value),cs=[.int .i64 x.l,.int .i64 s,.int .i64 x.m,sG]/\j0k H sG x.g
theorem o0l:q0A ViV:=fun _ _ _ _ j ⟨s,k,c,h⟩=>⟨s,k,c,h.mo b0j j⟩
def G1V (v:Value) (n:Nat):Prop:=i0q v=some (.int .i64 n)/\a0t v=[v]/\a0n v=true
def F1B (H:a0c) (cs:List Value) (l:u0R):Prop:=∃ sL sS sE sV:Value,cs=[sL,sS,sE,sV]/\G1V sL l.nl/\G1V sS l.ns/\Sls EdV H b0b 6 sE l.E/\Sls ViV H d0t 4 sV l.V
def x0P (H:a0c) (v:Value) (l:u0R):Prop:=∃ cs,v=.agg cs.toArray/\F1B H cs l
theorem F1B.mo {cs:List Value} {l:u0R} (h:F1B H cs l) (c:Ext H G):F1B G cs l:=by
 obtain ⟨w,x,u,y,j,k,q,r,s⟩:=h;exact ⟨w,x,u,y,j,k,q,r.mo o0k c,s.mo o0l c⟩
theorem x0P.mo {l:u0R} (h:x0P H v l) (k:Ext H G):x0P G v l:=by obtain ⟨cs,c,j⟩:=h;exact ⟨cs,c,j.mo k⟩
def p0d (l:u0R):Prop:=l.nl<=60/\l.ns<=10/\l.E.length<=300/\l.V.length<=300/\(∀ x ∈ l.E,o0c x.e)/\∀ x ∈ l.V,x.g.length<=100/\∀ a ∈ x.g,r0k a
theorem l0X {a:List (Bool × List Nat)} {p:Bool × List Nat->Bool} {g:FuncId} (I:a0c->Prop) (u:∀ G F,Ext G F->I G->I F) (N:I H) (L:f0W H v a) (Q:fl<=H.size) (O:a.length < 1073741824)
  (S:∀ (fl:Nat) (G:a0c) (v:Value) (e:Bool × List Nat),e ∈ a->I G->fl<=G.size->c0m G v e->b0k env fl g [v] G (fun r H'=>r=.bool (p e)/\Ext G H') R) :
  b0k env fl w0S [v,.func (.func g) #[] #[]] H (fun r H'=>(∃ z:Int,r=.int .i64 z/\(0<=z <-> j0J p a=true))/\Ext H H') R:=by
 refine a0i I1u Q (h:=?_)
 intro ρ c
 simp [E0S,C0S,C0T,c,L.slen]
 refine s0x (n:=a.length) (fun i ρ G=>ρ 0=v/\ρ 1=.func (.func g) #[] #[]/\Ext H G/\j0J p (a.take i)=false)
  rfl rfl (by decide) (by omega) (by simp) (by simp) ?_ ?_ ?_ ?_
 ·exact ⟨by simp [c],by simp [c],Ext.refl H,by rw [P1j];exact l0H⟩
 ·intro i ρ Y G h u;simpa [h] using u
 ·clear c ρ
  rintro i ρ G hi k J ⟨q,s,j,hc⟩
  have M:=L.mo e0d j
  obtain ⟨w,U,k0⟩:=f0W.loadV M hi
  simp [C0U,C0V,k,q,s,M.ia hi,U]
  refine (S _ _ _ _ (N1j hi) (u _ _ j N) j.1 k0).mo ?_
  rintro _ Z ⟨rfl,y⟩
  have x:=j.trans y
  cases hp:p a[i]
  ·simp
   exact Rnd.mk (by simp [k]) (by simp [J]) ⟨by simp [q],by simp [s],x,by rw [j0K hi,hc,hp];rfl⟩
  ·simp [C0W,k]
   exact fun _=>l0I hi hp
 ·clear c ρ
  rintro ρ G k J ⟨q,s,j,hc⟩
  rw [N1f] at hc
  simp [C0X,hc]
theorem j0F {a:List (Bool × List Nat)} {p:Bool × List Nat->Bool} {g:FuncId} (I:a0c->Prop) (s:∀ G j,Ext G j->I G->I j) (k:I H) (u:f0W H v a) (w:fl<=H.size) (c:a.length < 1073741824)
  (x:∀ (fl:Nat) (G:a0c) (v:Value) (e:Bool × List Nat),e ∈ a->I G->fl<=G.size->c0m G v e->b0k env fl g [v] G (fun r H'=>r=.bool (p e)/\Ext G H') R) :
  b0k env fl w0N [v,.func (.func g) #[] #[]] H (fun r H'=>r=.bool (j0J p a)/\Ext H H') R:=by
 refine a0i I1d w (h:=?_)
 intro ρ q
 simp [E0M,B0p,B0q,q]
 refine (l0X (p:=p) I s k u (M1U _) c x).mo ?_
 rintro _ J ⟨⟨z,rfl,F⟩,y⟩
 simp
 intro _
 rw [O1d,N1s];exact F
theorem l0r {a:List (l0q)} {p:l0q->Bool} {g:FuncId} {c s u:Value} (I:a0c->Prop) (F:∀ G M,Ext G M->I G->I M) (S:I H) (O:j0k H v a) (Y:fl<=H.size) (U:a.length < 1073741824)
  (Z:∀ (fl:Nat) (G:a0c) (v:Value) (e:l0q),e ∈ a->I G->fl<=G.size->F0x G v e->b0k env fl g [v,c,s,u] G (fun r H'=>r=.bool (p e)/\Ext G H') R) :
  b0k env fl w0T [v,.func (.func g) #[] #[c,s,u]] H (fun r H'=>(∃ z:Int,r=.int .i64 z/\(0<=z <-> j0J p a=true))/\Ext H H') R:=by
 refine a0i I1v Y (h:=?_)
 intro ρ j
 simp [E0T,C0Y,C0Z,j,O.slen]
 refine s0x (n:=a.length) (fun i ρ G=>ρ 0=v/\ρ 1=.func (.func g) #[] #[c,s,u]/\Ext H G/\j0J p (a.take i)=false)
  rfl rfl (by decide) (by omega) (by simp) (by simp) ?_ ?_ ?_ ?_
 ·exact ⟨by simp [j],by simp [j],Ext.refl H,by rw [P1j];exact l0H⟩
 ·intro i ρ a0 G h F;simpa [h] using F
 ·clear j ρ
  rintro i ρ G hi q N ⟨x,y,k,hc⟩
  have Q:=O.mo b0j k
  obtain ⟨w,hl,k0⟩:=j0k.load Q hi
  simp [D0a,D0b,q,x,y,Q.ia hi,hl]
  refine (Z _ _ _ _ (N1j hi) (F _ _ k S) k.1 k0).mo ?_
  rintro _ G2 ⟨rfl,L⟩
  have J:=k.trans L
  cases hp:p a[i]
  ·simp
   exact Rnd.mk (by simp [q]) (by simp [N]) ⟨by simp [x],by simp [y],J,by rw [j0K hi,hc,hp];rfl⟩
  ·simp [D0c,q]
   exact fun _=>l0I hi hp
 ·clear j ρ
  rintro ρ G q N ⟨x,y,k,hc⟩
  rw [N1f] at hc
  simp [D0d,hc]
theorem j0l {a:List (l0q)} {p:l0q->Bool} {g:FuncId} {c q s:Value} (I:a0c->Prop) (x:∀ G k,Ext G k->I G->I k) (u:I H) (y:j0k H v a) (F:fl<=H.size) (j:a.length < 1073741824)
  (J:∀ (fl:Nat) (G:a0c) (v:Value) (e:l0q),e ∈ a->I G->fl<=G.size->F0x G v e->b0k env fl g [v,c,q,s] G (fun r H'=>r=.bool (p e)/\Ext G H') R) :
  b0k env fl s0N [v,.func (.func g) #[] #[c,q,s]] H (fun r H'=>r=.bool (j0J p a)/\Ext H H') R:=by
 refine a0i I1f F (h:=?_)
 intro ρ w
 simp [E0O,B0t,B0u,w]
 refine (l0r (p:=p) I x u y (M1U _) j J).mo ?_
 rintro _ N ⟨⟨z,rfl,M⟩,L⟩
 simp
 intro _
 rw [O1d,N1s];exact M
def F1A (l:List (Bool × List Nat)):Prop:=∀ x ∈ l,x.2.length < 4611686018427387904
def okA (a:l0q):Prop:=F1A a.X/\F1A a.W/\a.K.2.length < 4611686018427387904/\a.X.length < 1073741824/\a.W.length < 1073741824
theorem r0k.ok {a:l0q} (h:r0k a):okA a :=
 ⟨fun x c=>by have:=(h.1.1 x c).1;omega,fun x c=>by have:=(h.1.2.1 x c).1;omega,by have:=h.1.2.2.1;omega,by have:=h.2.1;omega,by have:=h.2.2;omega⟩
theorem l0k {l:List (Bool × List Nat)} (h:f0W H v l) (F:fl<=H.size) (I:F1A l) (z:l.length < 1073741824) :
  b0k env fl u1n [v] H (fun r H'=>r=.bool (i0H d0k l)/\Ext H H') R:=by
 refine a0i M1r F (h:=?_)
 intro ρ s
 simp [G1R,U0E,U0F,s]
 refine f0r (fun n ρ G=>ρ 0=v/\ρ 3=.int .i64 (n:Int)/\Ext H G/\i0H d0k (l.take n)=true) l.length (by decide) (by simp [s,d0H]) ?_
 clear s ρ
 rintro n ρ G J ⟨j,q,x,hc⟩
 have k:=h.mo e0d x
 simp [U0G,j,q,k.slen]
 refine g0T.mk (by simp) (fun c=>?_) (fun u=>?_)
 ·obtain ⟨w,L,k0⟩:=f0W.loadV k c
  simp [U0H,j,q,k.ia c,L]
  refine (c0U k0 x.1 (I _ (N1j c))).mo ?_
  rintro _ M ⟨rfl,y⟩
  cases hp:d0k l[n]
  ·simp [U0I]
   intros
   exact f0E c hp
  ·simp
   unfold k0s
   simp [U0J,q,b0D (show n < 4611686018427387904 by omega)]
   exact e0a.mk ⟨by simp [j],by simp,x.trans y,by rw [c0K c,hc,hp];rfl⟩
 ·subst u
  rw [N1f] at hc
  simp [U0K,hc]
theorem g0H {l:List l0q} {n m:Int} (h:j0k H v l) (hf:fl<=H.size) (hl:∀ a ∈ l,okA a) (a0:l.length < 1073741824) :
  b0k env fl W0Z [v,.int .i64 n,.int .i64 m] H (fun r H'=>r=.bool (f0s l n m)/\Ext H H') R:=by
 refine a0i M1e hf (h:=?_)
 intro ρ Y
 simp [G1J,T0B,T0C,Y]
 unfold f0s
 refine f0r (fun i ρ G=>ρ 0=v/\ρ 1=.int .i64 n/\ρ 2=.int .i64 m/\ρ 7=.int .i64 (i:Int)/\Ext H G/\i0H (j0I n m) (l.take i)=true) l.length (by decide) (by simp [Y,d0H]) ?_
 clear Y ρ
 rintro i ρ G a1 ⟨Q,N,S,U,hx,hc⟩
 have k:=h.mo b0j hx
 simp [T0D,Q,U,k.slen]
 refine g0T.mk (by simp) (fun q=>?_) (fun Z=>?_)
 ·obtain ⟨w,hw,sX,sW,s,rfl,x,z,L⟩:=j0k.load k q
  have u:=hl _ (N1j q)
  have hsz:=hx.1
  simp [T0E,Q,U,k.ia q,hw,x.cells,z.cells,L.cells,x.plain,z.plain,L.plain,hsz]
  generalize J:Array.setIfInBounds (G.push _) _ _=G1
  obtain ⟨j,F⟩:=F0C J
  clear J
  replace x:=x.mo e0d j
  replace z:=z.mo e0d j
  replace L:=L.mo j
  have M:j0I n m l[i]=false->i0H (j0I n m) l=false:=fun h=>f0E q h
  by_cases I:(l[i].X.length:Int)=n
  case neg =>
   simp [w0l,o0v,F,N,x.slen,I]
   intros
   exact M (by unfold j0I;simp [I])
  by_cases O:(l[i].W.length:Int)=m
  case neg =>
   simp [w0l,o0v,F,N,S,x.slen,z.slen,I,O]
   intros
   exact M (by unfold j0I;simp [O])
  simp [w0l,F,N,S,x.slen,z.slen,I,O]
  refine (c0U ⟨s,rfl,L⟩ (by have:=j.1;omega) u.2.2.1).mo ?_
  rintro _ G2 ⟨rfl,c⟩
  cases hp:d0k l[i].K
  case false =>
   simp [o0v]
   intros
   exact M (by unfold j0I;simp [hp])
  simp [c.bk F]
  refine (l0k (x.mo e0d c) (by have:=j.1;have:=c.1;omega) u.1 u.2.2.2.1).mo ?_
  rintro _ G3 ⟨rfl,y⟩
  replace c:=c.trans y
  cases hp2:i0H d0k l[i].X
  case false =>
   simp [o0v]
   intros
   exact M (by unfold j0I;simp [hp2])
  simp [c.bk F]
  refine (l0k (z.mo e0d c) (by have:=j.1;have:=c.1;omega) u.2.1 u.2.2.2.2).mo ?_
  rintro _ G4 ⟨rfl,y⟩
  replace c:=c.trans y
  cases hp3:i0H d0k l[i].W
  case false =>
   simp [o0v]
   intros
   exact M (by unfold j0I;simp [hp3])
  simp
  unfold k0s
  simp [T0F,U,b0D (show i < 4611686018427387904 by omega)]
  exact e0a.mk ⟨by simp [Q],by simp [N],by simp [S],by simp,hx.trans (j.trans c),by rw [c0K q,hc];unfold j0I;simp [I,O,hp,hp2,hp3]⟩
 ·subst Z
  rw [N1f] at hc
  simp [T0G,hc]
theorem o0M {l:u0R} (h:x0P H v l) (hf:fl<=H.size):b0k env fl v1y [v] H (fun r H'=>(∃ c,r=.bool c/\(c=false->p0d l))/\Ext H H') R:=by
 obtain ⟨cs,rfl,sL,sS,sE,sV,rfl,hL,hS,hE,hV⟩:=h
 refine a0i L1V hf (h:=?_)
 intro ρ h0
 simp [G1B,S0P,h0,hL.2.1,hS.2.1,hE.cells,hV.cells]
 generalize a0:H.push _=G
 obtain ⟨j,w⟩:=t0i a0
 clear a0
 have lL:=hL.1
 have lS:=hS.1
 have lE:=hE.slen
 have lV:=hV.slen
 by_cases h1:60 < l.nl
 ·have F:(60:Int) < (l.nl:Int):=by omega
  simp [o0s,r0R,w,lL,h1,F]
 have F:¬ (60:Int) < (l.nl:Int):=by omega
 by_cases h2:10 < l.ns
 ·have I:(10:Int) < (l.ns:Int):=by omega
  simp [o0s,r0R,w,lL,lS,h1,F,h2,I]
 have I:¬ (10:Int) < (l.ns:Int):=by omega
 by_cases h3:300 < l.E.length
 ·have L:(300:Int) < (l.E.length:Int):=by omega
  simp [o0s,r0R,w,lL,lS,lE,h1,F,h2,I,h3,L]
 have L:¬ (300:Int) < (l.E.length:Int):=by omega
 by_cases h4:300 < l.V.length
 ·have O:(300:Int) < (l.V.length:Int):=by omega
  simp [o0s,r0R,w,lL,lS,lE,lV,h1,F,h2,I,h3,L,h4,O]
 have O:¬ (300:Int) < (l.V.length:Int):=by omega
 simp [o0s,S0Q,w,lL,lS,lE,lV,h1,F,h2,I,h3,L,h4,O]
 refine f0r (fun n ρ G=>ρ 1=.pointer (some ⟨H.size,0,none⟩)/\ρ 3=.int .i64 (n:Int)/\Ext H G/\a0c.bk G H.size=.row false a0Z [sL,sS,sE,sV]/\∀ x ∈ l.E.take n,o0c x.e) l.E.length (by decide) ?_ ?_
 ·exact ⟨by simp,by simp,j,w,fun x j=>by simp at j⟩
 clear h0 ρ j w G
 rintro n ρ G hn ⟨z,N,j,w,hq⟩
 have k:=hE.mo o0k j
 simp [S0R,z,N,w,lE]
 refine g0T.mk (by simp) (fun q=>?_) (fun U=>?_)
 ·obtain ⟨b,o,cs,Q,a2,⟨sG,sT,sP,rfl,kG,kS,_⟩,J⟩:=k.atX q (by decide)
  have M:=(J _ (Ext.refl _)).2 3 (by decide)
  have c4:=(J _ (Ext.refl _)).2 4 (by decide)
  simp at M c4
  have Z:=kG.slen
  have lT:=kS.slen
  by_cases q1:100 < l.E[n].e.guards.length
  ·have y:(100:Int) < (l.E[n].e.guards.length:Int):=by omega
   simp [v0Y,z,N,w,k.ia q,Q,M,Z,q1,y,r0S]
  have y:¬ (100:Int) < (l.E[n].e.guards.length:Int):=by omega
  by_cases q2:20 < l.E[n].e.set.length
  ·have Y:(20:Int) < (l.E[n].e.set.length:Int):=by omega
   simp [v0Y,z,N,w,k.ia q,Q,M,c4,Z,lT,q1,y,q2,Y,r0S]
  have Y:¬ (20:Int) < (l.E[n].e.set.length:Int):=by omega
  simp [v0Y,z,N,w,k.ia q,Q,M,c4,Z,lT,q1,y,q2,Y]
  refine (m0i kG j.1 (by omega)).mo ?_
  rintro _ G2 ⟨⟨c1,rfl,S⟩,u⟩
  cases c1
  case true=>simp [r0S]
  have d4:=(J _ u).2 4 (by decide)
  simp at d4
  simp [z,N,u.bk w,k.ia q,Q,d4]
  refine (m0i (kS.mo b0j u) (by have:=j.1;have:=u.1;omega) (by omega)).mo ?_
  rintro _ G3 ⟨⟨c1,rfl,a1⟩,a3⟩
  replace u:=u.trans a3
  cases c1
  case true=>simp [r0S]
  simp
  unfold k0s
  simp [S0S,N,b0D (show n < 4611686018427387904 by omega)]
  refine e0a.mk ⟨by simp [z],by simp,j.trans u,u.bk w,fun x j=>?_⟩
  rw [N1x q] at j
  rcases N1B.1 j with j | j
  ·exact hq x j
  ·rw [O1l.1 j];exact ⟨a1 rfl,S rfl,by omega,by omega⟩
 ·subst U
  rw [N1f] at hq
  simp [S0T]
  refine f0r (fun n ρ G=>ρ 1=.pointer (some ⟨H.size,0,none⟩)/\ρ 4=.int .i64 (n:Int)/\Ext H G/\a0c.bk G H.size=.row false a0Z [sL,sS,sE,sV]/\∀ x ∈ l.V.take n,x.g.length<=100/\∀ a ∈ x.g,r0k a) l.V.length (by decide) ?_ ?_
  ·exact ⟨by simp [z],by simp,j,w,fun x j=>by simp at j⟩
  clear k z N j w ρ G
  rintro n ρ G hn ⟨z,g4,j,w,hr⟩
  have k:=hV.mo o0l j
  simp [S0U,z,g4,w,lV]
  refine g0T.mk (by simp) (fun q=>?_) (fun U=>?_)
  ·obtain ⟨b,o,cs,Q,a2,⟨s,sG,rfl,kG⟩,J⟩:=k.atX q (by decide)
   have M:=(J _ (Ext.refl _)).2 3 (by decide)
   simp at M
   have Z:=kG.slen
   by_cases q1:100 < l.V[n].g.length
   ·have y:(100:Int) < (l.V[n].g.length:Int):=by omega
    simp [t0Z,z,g4,w,k.ia q,Q,M,Z,q1,y,u0a]
   have y:¬ (100:Int) < (l.V[n].g.length:Int):=by omega
   simp [t0Z,z,g4,w,k.ia q,Q,M,Z,q1,y]
   refine (m0i kG j.1 (by omega)).mo ?_
   rintro _ G2 ⟨⟨c1,rfl,S⟩,u⟩
   cases c1
   case true=>simp [u0a]
   simp
   unfold k0s
   simp [D0e,g4,b0D (show n < 4611686018427387904 by omega)]
   refine e0a.mk ⟨by simp [z],by simp,j.trans u,u.bk w,fun x j=>?_⟩
   rw [N1x q] at j
   rcases N1B.1 j with j | j
   ·exact hr x j
   ·rw [O1l.1 j];exact ⟨by omega,S rfl⟩
  ·subst U
   rw [N1f] at hr
   simp [D0f]
   exact fun _=>⟨by omega,by omega,by omega,by omega,hq,hr⟩
theorem o0c.okG {e:w0B} (h:o0c e):∀ a ∈ e.guards,okA a:=fun a c=>(h.2.1 a c).ok
theorem o0c.okS {e:w0B} (h:o0c e):∀ a ∈ e.set,okA a:=fun a c=>(h.1 a c).ok
theorem noE {l:u0R} {n:Nat} (c:n < l.E.length) (h:m0k l.nl l.ns l.E[n]=false):d0j l=false:=by
 unfold d0j;rw [f0E c h];simp
theorem noV {l:u0R} {n:Nat} (c:n < l.V.length) (h:s0r l.nl l.ns l.V[n]=false):d0j l=false:=by
 unfold d0j;rw [f0E c h];simp
theorem n0N {l:u0R} (h:x0P H v l) (hg:p0d l) (hf:fl<=H.size):b0k env fl v1A [v] H (fun r H'=>r=.bool (d0j l)/\Ext H H') R:=by
 obtain ⟨cs,rfl,sL,sS,sE,sV,rfl,hL,hS,hE,hV⟩:=h
 obtain ⟨_,_,_,_,a7,a8⟩:=hg
 refine a0i L1X hf (h:=?_)
 intro ρ h0
 simp [G1D,S0X,h0,hL.2.1,hS.2.1,hE.cells,hV.cells]
 generalize y:H.push _=G
 obtain ⟨N,x⟩:=t0i y
 clear y
 have z:=hL.1
 have lS:=hS.1
 have lE:=hE.slen
 have lV:=hV.slen
 simp [S0Y,x,lS]
 have u:r0r l=false->d0j l=false:=fun h=>by unfold d0j;rw [h];rfl
 by_cases h1:l.nl < 1
 ·have I:(l.nl:Int) < 1:=by omega
  simp [m0U,o0t,x,z,h1,I]
  intros;exact u (by unfold r0r;rw [decide_eq_false (by omega:¬ 1<=l.nl)];simp)
 have I:¬ (l.nl:Int) < 1:=by omega
 by_cases h2:40 < l.nl
 ·have L:(40:Int) < (l.nl:Int):=by omega
  simp [m0U,o0t,x,z,h1,I,h2,L]
  intros;exact u (by unfold r0r;rw [decide_eq_false (by omega:¬ l.nl<=40)];simp)
 have L:¬ (40:Int) < (l.nl:Int):=by omega
 by_cases h3:6 < l.ns
 ·have Q:(6:Int) < (l.ns:Int):=by omega
  simp [m0U,o0t,x,z,h1,I,h2,L,h3,Q]
  intros;exact u (by unfold r0r;rw [decide_eq_false (by omega:¬ l.ns<=6)];simp)
 have Q:¬ (6:Int) < (l.ns:Int):=by omega
 by_cases h4:200 < l.E.length
 ·have Y:(200:Int) < (l.E.length:Int):=by omega
  simp [m0U,o0t,x,z,lE,h1,I,h2,L,h3,Q,h4,Y]
  intros;exact u (by unfold r0r;rw [decide_eq_false (by omega:¬ l.E.length<=200)];simp)
 have Y:¬ (200:Int) < (l.E.length:Int):=by omega
 by_cases h5:200 < l.V.length
 ·have a0:(200:Int) < (l.V.length:Int):=by omega
  simp [m0U,o0t,x,z,lE,lV,h1,I,h2,L,h3,Q,h4,Y,h5,a0]
  intros;exact u (by unfold r0r;rw [decide_eq_false (by omega:¬ l.V.length<=200)];simp)
 have a0:¬ (200:Int) < (l.V.length:Int):=by omega
 have hlow:r0r l=true:=by
  unfold r0r
  simp only [M1W,N1s]
  exact ⟨⟨⟨⟨by omega,by omega⟩,by omega⟩,by omega⟩,by omega⟩
 simp [m0U,S0Z,x,z,lE,lV,h1,I,h2,L,h3,Q,h4,Y,h5,a0]
 refine f0r (fun n ρ G=>ρ 1=.pointer (some ⟨H.size,0,none⟩)/\ρ 3=.int .i64 (l.ns:Int)/\ρ 4=.int .i64 (n:Int)/\Ext H G/\a0c.bk G H.size=.row false a0Z [sL,sS,sE,sV]/\i0H (m0k l.nl l.ns) (l.E.take n)=true) l.E.length (by decide) ?_ ?_
 ·exact ⟨by simp,by simp,by simp,N,x,d0H⟩
 clear h0 ρ N x G
 rintro n ρ G hn ⟨w,U,g4,N,x,hq⟩
 have k:=hE.mo o0k N
 simp [T0a,w,g4,x,lE]
 refine g0T.mk (by simp) (fun c=>?_) (fun a1=>?_)
 ·obtain ⟨cs,hw,a6,sG,sT,sP,rfl,M,kS,a4,a5⟩:=k.load c (by decide)
  have S:=a7 _ (N1j c)
  obtain ⟨e,he⟩:∃ e,e=l.E[n]:=⟨_,rfl⟩
  have u:m0k l.nl l.ns e=false->d0j l=false:=fun h=>noE c (by rw [<- he];exact h)
  simp only [<- he] at hw M kS S
  have hsz:=N.1
  simp [T0b,w,g4,x,k.ia c,hw,M.cells,kS.cells,M.plain,kS.plain,a4,a5,hsz]
  generalize y:Array.setIfInBounds (G.push _) _ _=G1
  obtain ⟨j,F⟩:=F0C y
  clear y
  replace M:=M.mo b0j j
  replace kS:=kS.mo b0j j
  have J:=j.bk x
  have lT:=kS.slen
  by_cases q1:e.f < 0
  ·simp [k0k,j0i,F,q1]
   intros;exact u (by unfold m0k inB;rw [decide_eq_false (by omega:¬ 0<=e.f)];simp)
  by_cases O:(l.nl:Int)<=e.f
  ·simp [k0k,j0i,F,J,w,z,q1,O]
   intros;exact u (by unfold m0k inB;rw [decide_eq_false (by omega:¬ e.f < (l.nl:Int))];simp)
  by_cases q3:e.t < 0
  ·simp [k0k,j0i,F,J,w,z,q1,O,q3]
   intros;exact u (by unfold m0k inB;rw [decide_eq_false (by omega:¬ 0<=e.t)];simp)
  by_cases q4:(l.nl:Int)<=e.t
  ·simp [k0k,j0i,F,J,w,z,q1,O,q3,q4]
   intros;exact u (by unfold m0k inB;rw [decide_eq_false (by omega:¬ e.t < (l.nl:Int))];simp)
  by_cases q5:e.e.m < 0
  ·simp [k0k,j0i,F,J,w,z,q1,O,q3,q4,q5]
   intros;exact u (by unfold m0k l0F;rw [decide_eq_false (by omega:¬ 0<=e.e.m)];simp)
  by_cases q6:40 < e.e.m
  ·simp [k0k,j0i,F,J,w,z,q1,O,q3,q4,q5,q6]
   intros;exact u (by unfold m0k l0F;rw [decide_eq_false (by omega:¬ e.e.m<=40)];simp)
  by_cases q7:e.e.set.length=l.ns
  case neg =>
   have a2:¬ (e.e.set.length:Int)=(l.ns:Int):=by omega
   simp [k0k,j0i,F,J,w,U,z,lT,q1,O,q3,q4,q5,q6,q7,a2]
   intros;exact u (by unfold m0k;rw [decide_eq_false q7];simp)
  have a2:(e.e.set.length:Int)=(l.ns:Int):=by omega
  simp [k0k,F,J,w,U,z,lT,q1,O,q3,q4,q5,q6,q7,a2]
  refine (g0H M (by have:=j.1;omega) S.okG (by have:=S.2.2.1;omega)).mo ?_
  rintro _ G2 ⟨rfl,q⟩
  cases hp:f0s e.e.guards l.ns e.e.m
  case false =>
   simp [j0i]
   intros;exact u (by unfold m0k;rw [hp];simp)
  simp [q.bk F,U]
  refine (g0H (kS.mo b0j q) (by have:=j.1;have:=q.1;omega) S.okS (by have:=S.2.2.2;omega)).mo ?_
  rintro _ G3 ⟨rfl,a9⟩
  replace q:=q.trans a9
  cases hp2:f0s e.e.set l.ns e.e.m
  case false =>
   simp [j0i]
   intros;exact u (by unfold m0k;rw [hp2];simp)
  simp
  unfold k0s
  simp [T0c,g4,b0D (show n < 4611686018427387904 by omega)]
  refine e0a.mk ⟨by simp [w],by simp [U],by simp,N.trans (j.trans q),q.bk J,?_⟩
  rw [c0K c,hq,<- he]
  unfold m0k inB l0F
  simp only [O1H,M1W,N1s]
  exact ⟨⟨⟨⟨⟨⟨by omega,by omega⟩,by omega,by omega⟩,by omega,by omega⟩,q7⟩,hp⟩,hp2⟩
 ·subst a1
  rw [N1f] at hq
  simp [D0H]
  refine f0r (fun n ρ G=>ρ 1=.pointer (some ⟨H.size,0,none⟩)/\ρ 3=.int .i64 (l.ns:Int)/\ρ 6=.int .i64 (n:Int)/\Ext H G/\a0c.bk G H.size=.row false a0Z [sL,sS,sE,sV]/\i0H (s0r l.nl l.ns) (l.V.take n)=true) l.V.length (by decide) ?_ ?_
  ·exact ⟨by simp [w],by simp [U],by simp,N,x,d0H⟩
  clear k w U g4 N x ρ G
  rintro n ρ G hn ⟨w,U,g6,N,x,hr⟩
  have k:=hV.mo o0l N
  simp [D0I,w,g6,x,lV]
  refine g0T.mk (by simp) (fun c=>?_) (fun a1=>?_)
  ·obtain ⟨cs,hw,a6,s,sG,rfl,M⟩:=k.load c (by decide)
   obtain ⟨a3,Z⟩:=a8 _ (N1j c)
   obtain ⟨e,he⟩:∃ e,e=l.V[n]:=⟨_,rfl⟩
   have u:s0r l.nl l.ns e=false->d0j l=false:=fun h=>noV c (by rw [<- he];exact h)
   simp only [<- he] at hw M a3 Z
   have hsz:=N.1
   simp [D0J,w,g6,x,k.ia c,hw,M.cells,M.plain,hsz]
   generalize y:Array.setIfInBounds (G.push _) _ _=G1
   obtain ⟨j,F⟩:=F0C y
   clear y
   replace M:=M.mo b0j j
   have J:=j.bk x
   by_cases q1:e.l < 0
   ·simp [k0J,k0K,F,q1]
    intros;exact u (by unfold s0r inB;rw [decide_eq_false (by omega:¬ 0<=e.l)];simp)
   by_cases O:(l.nl:Int)<=e.l
   ·simp [k0J,k0K,F,J,w,z,q1,O]
    intros;exact u (by unfold s0r inB;rw [decide_eq_false (by omega:¬ e.l < (l.nl:Int))];simp)
   by_cases q5:e.m < 0
   ·simp [k0J,k0K,F,J,w,z,q1,O,q5]
    intros;exact u (by unfold s0r l0F;rw [decide_eq_false (by omega:¬ 0<=e.m)];simp)
   by_cases q6:40 < e.m
   ·simp [k0J,k0K,F,J,w,z,q1,O,q5,q6]
    intros;exact u (by unfold s0r l0F;rw [decide_eq_false (by omega:¬ e.m<=40)];simp)
   simp [k0J,F,J,w,U,z,q1,O,q5,q6]
   refine (g0H M (by have:=j.1;omega) (fun a ha=>(Z a ha).ok) (by omega)).mo ?_
   rintro _ G2 ⟨rfl,q⟩
   cases hp:f0s e.g l.ns e.m
   case false =>
    simp [k0K]
    intros;exact u (by unfold s0r;rw [hp];simp)
   simp
   unfold k0s
   simp [D0K,g6,b0D (show n < 4611686018427387904 by omega)]
   refine e0a.mk ⟨by simp [w],by simp [U],by simp,N.trans (j.trans q),q.bk J,?_⟩
   rw [c0K c,hr,<- he]
   unfold s0r inB l0F
   simp only [O1H,M1W,N1s]
   exact ⟨⟨⟨by omega,by omega⟩,by omega,by omega⟩,hp⟩
  ·subst a1
   rw [N1f] at hr
   simp [D0L]
   intros
   unfold d0j
   rw [hlow,hq,hr];rfl
theorem K1m {z1 z2:Blk} (c:Array.push (Array.push H z1) z2=G):Ext H G/\a0c.bk G H.size=z1/\a0c.bk G (H.size + 1)=z2/\G.size=H.size + 2:=by
 rw [<- c];exact ⟨(Ext.refl H).push.push,by simp,by simp,by simp⟩
theorem j0w {x:Bool × List Nat} (h:c0m H v x) (u:fl<=H.size) (w:x.2.length < 4611686018427387904):b0k env fl w0O [v] H (fun r H'=>r=.bool (!d0k x)/\Ext H H') R:=by
 have k0:=h
 obtain ⟨s,rfl,hs⟩:=h
 refine a0i I1e u (h:=?_)
 intro ρ k
 simp [E0N,B0r,k,hs.cells]
 generalize q:H.push _=G
 obtain ⟨c,j⟩:=t0i q
 simp [B0s,j]
 refine (c0A (k0.mo c) c.1 w).mo ?_
 rintro _ z ⟨rfl,y⟩
 simp
theorem V0l {l:List (Bool × List Nat)}:(!j0J (fun x=>!d0k x) l)=i0H d0k l:=by
 unfold j0J i0H
 induction l with
 | nil=>rfl
 | cons x l ih=>simp only [List.any_cons,N1u,Bool.not_or,Bool.not_not,ih]
theorem f0N {l:List (Bool × List Nat)} {n:Int} (h:f0W H v l) (j:fl<=H.size) (u:F1A l) (c:l.length < 1073741824) :
  b0k env fl m0p [v,.int .i64 n] H (fun r H'=>r=.bool (decide ((l.length:Int)=n) && i0H d0k l)/\Ext H H') R:=by
 refine a0i I1c j (h:=?_)
 intro ρ k
 by_cases q:(l.length:Int)=n
 ·simp [x0E,t0G,t0H,k,h.slen,q]
  refine (j0F (p:=fun x=>!d0k x) (fun _=>True) (fun _ _ _ h=>h) trivial h (M1U _) c (fun fl G v e s _ j w=>j0w w j (u e s))).mo ?_
  rintro _ z ⟨rfl,y⟩
  simp
  exact fun _=>by rw [<- V0l,Bool.not_not]
 ·simp [x0E,t0G,t0H,k,h.slen,q]
theorem k0C {a:l0q} {n m:Int} {p q r:Nat} (h:F0x H v a) (ho:okA a) (hp:H.bk p=.row false b0J [.func (.func m0p) #[] #[]]) (L:H.bk q=.row false c0h [.int .i64 n]) (M:H.bk r=.row false c0h [.int .i64 m]) (J:fl<=H.size) :
  b0k env fl w0P [v,.pointer (some ⟨p,0,none⟩),.pointer (some ⟨q,0,none⟩),.pointer (some ⟨r,0,none⟩)] H (fun r H'=>r=.bool (!j0I n m a)/\Ext H H') R:=by
 obtain ⟨sX,sW,s,rfl,I,F,z⟩:=h
 obtain ⟨U,S,Q,O,N⟩:=ho
 refine a0i I1g J (h:=?_)
 intro ρ u
 simp [E0P,B0v,u,I.cells,F.cells,z.cells]
 generalize y:H.push _=G
 obtain ⟨c,k⟩:=t0i y
 clear y
 simp [B0w,u,k,c.bk hp,c.bk L]
 refine (f0N (n:=n) (I.mo e0d c) c.1 U O).mo ?_
 rintro _ Y ⟨rfl,j⟩
 replace k:=j.bk k
 replace c:=c.trans j
 unfold j0I
 by_cases w:(a.X.length:Int)=n
 case neg=>simp [w]
 cases h2:i0H d0k a.X
 case false=>simp [w]
 simp [u,k,w,c.bk hp,c.bk M]
 refine (f0N (n:=m) (F.mo e0d c) c.1 S N).mo ?_
 rintro _ G3 ⟨rfl,j⟩
 replace k:=j.bk k
 replace c:=c.trans j
 by_cases x:(a.W.length:Int)=m
 case neg=>simp [x]
 cases h4:i0H d0k a.W
 case false=>simp [x]
 simp [k,x]
 refine (c0A ⟨s,rfl,z.mo c⟩ c.1 Q).mo ?_
 rintro _ Z ⟨rfl,j⟩
 simp
theorem s0y {l:List l0q} {n m:Int}:(!j0J (fun a=>!j0I n m a) l)=f0s l n m:=by
 unfold j0J f0s i0H
 induction l with
 | nil=>rfl
 | cons x l ih=>simp only [List.any_cons,N1u,Bool.not_or,Bool.not_not,ih]
theorem e0Z {l:List l0q} {n m:Int} (h:j0k H v l) (w:fl<=H.size) (F:∀ a ∈ l,okA a) (u:l.length < 1073741824) :
  b0k env fl S0q [v,.int .i64 n,.int .i64 m] H (fun r H'=>r=.bool (f0s l n m)/\Ext H H') R:=by
 refine a0i M1u w (h:=?_)
 intro ρ x
 simp [F1a,U0L,x]
 generalize k:(H.push _).push _=G
 obtain ⟨c,q,b2,I⟩:=K1m k
 clear k
 have hsz:=c.1
 have cF:a0t (.func (.func m0p) #[] #[])=[.func (.func m0p) #[] #[]]:=rfl
 have pF:a0n (.func (.func m0p) #[] #[])=true:=rfl
 simp [U0M,hsz,cF,pF]
 generalize k:Array.setIfInBounds (G.push _) _ _=G1
 obtain ⟨j,y⟩:=F0C k
 clear k
 replace q:=j.bk q
 replace b2:=j.bk b2
 replace c:=c.trans j
 simp [U0N,x]
 refine (j0l (p:=fun a=>!j0I n m a) (fun K=>K.bk G.size=.row false b0J [.func (.func m0p) #[] #[]]/\K.bk H.size=.row false c0h [.int .i64 n]/\K.bk (H.size + 1)=.row false c0h [.int .i64 m]) (fun G M c h=>⟨c.bk h.1,c.bk h.2.1,c.bk h.2.2⟩) ⟨y,q,b2⟩ (h.mo b0j c) c.1 u (fun fl G v e z s w J=>k0C J (F e z) s.1 s.2.1 s.2.2 w)).mo ?_
 rintro _ N ⟨rfl,L⟩
 simp
 exact fun _=>by rw [<- s0y,Bool.not_not]
theorem d0i {i:Int} {n p:Nat} (hb:H.bk p=.row false c0h [.int .i64 (n:Int)]) (k:fl<=H.size):b0k env fl S0o [.int .i64 i,.pointer (some ⟨p,0,none⟩)] H (fun r H'=>r=.bool (inB n i)/\Ext H H') R:=by
 refine a0i M1s k (h:=?_)
 intro ρ c
 unfold inB
 by_cases j:0<=i
 ·simp [u1v,E0z,E0A,c,hb,j]
 ·simp [u1v,E0z,E0A,c,hb,j]
theorem f0w {i:Int} (k:fl<=H.size):b0k env fl S0p [.int .i64 i] H (fun r H'=>r=.bool (l0F i)/\Ext H H') R:=by
 refine a0i M1t k (h:=?_)
 intro ρ c
 unfold l0F
 by_cases j:0<=i
 ·simp [u1w,E0B,E0C,c,j]
 ·simp [u1w,E0B,E0C,c,j]
theorem l0y {l:u0R} (h:x0P H v l) (hg:p0d l) (hf:fl<=H.size):b0k env fl S0l [v] H (fun r H'=>r=.bool (d0j l)/\Ext H H') R:=by
 obtain ⟨cs,rfl,sL,sS,sE,sV,rfl,hL,hS,hE,hV⟩:=h
 obtain ⟨_,_,_,_,a9,b3⟩:=hg
 refine a0i M1f hf (h:=?_)
 intro ρ h0
 simp [E1V,T0H,h0,hL.2.1,hS.2.1,hE.cells,hV.cells]
 generalize x:H.push _=G
 obtain ⟨j,q⟩:=t0i x
 clear x
 have lL:=hL.1
 have lS:=hS.1
 have lE:=hE.slen
 have lV:=hV.slen
 have hsz:=j.1
 have a7:=a0r q
 refine y0f ?_
 simp [T0I,q,lL,lS,hsz]
 refine ⟨by omega,?_⟩
 generalize x:Array.setIfInBounds (G.push _) _ _=G1
 obtain ⟨c,u⟩:=F0C x
 clear x
 replace q:=c.bk q
 replace j:=j.trans c
 obtain ⟨P,hP⟩:∃ P,P=G.size:=⟨_,rfl⟩
 rw [<- hP] at u ⊢
 clear c hP hsz a7
 have F:r0r l=false->d0j l=false:=fun h=>by unfold d0j;rw [h];rfl
 by_cases h1:l.nl < 1
 ·have I:(l.nl:Int) < 1:=by omega
  simp [m0V,o0w,q,u,lL,h1,I]
  intros;exact F (by unfold r0r;rw [decide_eq_false (by omega:¬ 1<=l.nl)];simp)
 have I:¬ (l.nl:Int) < 1:=by omega
 by_cases h2:40 < l.nl
 ·have J:(40:Int) < (l.nl:Int):=by omega
  simp [m0V,o0w,q,u,lL,h1,I,h2,J]
  intros;exact F (by unfold r0r;rw [decide_eq_false (by omega:¬ l.nl<=40)];simp)
 have J:¬ (40:Int) < (l.nl:Int):=by omega
 by_cases h3:6 < l.ns
 ·have N:(6:Int) < (l.ns:Int):=by omega
  simp [m0V,o0w,q,u,lL,h1,I,h2,J,h3,N]
  intros;exact F (by unfold r0r;rw [decide_eq_false (by omega:¬ l.ns<=6)];simp)
 have N:¬ (6:Int) < (l.ns:Int):=by omega
 by_cases h4:200 < l.E.length
 ·have Z:(200:Int) < (l.E.length:Int):=by omega
  simp [m0V,o0w,q,u,lL,lE,h1,I,h2,J,h3,N,h4,Z]
  intros;exact F (by unfold r0r;rw [decide_eq_false (by omega:¬ l.E.length<=200)];simp)
 have Z:¬ (200:Int) < (l.E.length:Int):=by omega
 by_cases h5:200 < l.V.length
 ·have a2:(200:Int) < (l.V.length:Int):=by omega
  simp [m0V,o0w,q,u,lL,lE,lV,h1,I,h2,J,h3,N,h4,Z,h5,a2]
  intros;exact F (by unfold r0r;rw [decide_eq_false (by omega:¬ l.V.length<=200)];simp)
 have a2:¬ (200:Int) < (l.V.length:Int):=by omega
 have hlow:r0r l=true:=by
  unfold r0r
  simp only [M1W,N1s]
  exact ⟨⟨⟨⟨by omega,by omega⟩,by omega⟩,by omega⟩,by omega⟩
 simp [m0V,q,u,lL,lE,lV,h1,I,h2,J,h3,N,h4,Z,h5,a2]
 simp [T0J,T0K,T0L,q,lE]
 refine s0x (n:=l.E.length) (fun n ρ G=>ρ 1=.pointer (some ⟨H.size,0,none⟩)/\ρ 4=.int .i64 (l.ns:Int)/\ρ 5=.func (.func S0o) #[] #[.pointer (some ⟨P,0,none⟩)]/\ρ 6=.func (.func S0p) #[] #[]/\ρ 41=sE/\Ext H G/\a0c.bk G H.size=.row false a0Z [sL,sS,sE,sV]/\a0c.bk G P=.row false c0h [.int .i64 (l.nl:Int)]/\i0H (m0k l.nl l.ns) (l.E.take n)=true) rfl rfl (by decide) (by omega) (by simp) (by simp) ?_ ?_ ?_ ?_
 ·exact ⟨by simp,by simp,by simp,by simp,by simp,j,q,u,d0H⟩
 ·intro i ρ b4 G h hI;simpa [h] using hI
 ·clear h0 ρ j q u G G1
  rintro n ρ G y gi gn ⟨U,L,M,S,Y,j,q,u,hq⟩
  have k:=hE.mo o0k j
  obtain ⟨cs,hw,a8,sG,sT,sP,rfl,w,z,a5,a6⟩:=k.load y (by decide)
  have O:=a9 _ (N1j y)
  obtain ⟨e,he⟩:∃ e,e=l.E[n]:=⟨_,rfl⟩
  have F:m0k l.nl l.ns e=false->d0j l=false:=fun h=>noE y (by rw [<- he];exact h)
  simp only [<- he] at hw w z O
  have hsz:=j.1
  simp [T0M,Y,gi,q,k.ia y,hw,w.cells,z.cells,w.plain,z.plain,a5,a6,hsz]
  generalize x:Array.setIfInBounds (G.push _) _ _=G1
  obtain ⟨c,b2⟩:=F0C x
  clear x
  replace w:=w.mo b0j c
  replace z:=z.mo b0j c
  replace q:=c.bk q
  replace u:=c.bk u
  replace j:=j.trans c
  have lT:=z.slen
  clear k c hw
  obtain ⟨Q,hQ⟩:∃ Q,Q=G.size:=⟨_,rfl⟩
  rw [<- hQ] at b2 ⊢
  clear hQ hsz
  simp [T0N,b2,M]
  refine (d0i (i:=e.f) u j.1).mo ?_
  rintro _ G2 ⟨rfl,c⟩
  replace w:=w.mo b0j c
  replace z:=z.mo b0j c
  replace q:=c.bk q
  replace u:=c.bk u
  replace b2:=c.bk b2
  replace j:=j.trans c
  clear c
  cases q1:inB l.nl e.f
  case false =>
   simp [j0C]
   intros;exact F (by unfold m0k;rw [q1];simp)
  simp [b2,M]
  refine (d0i (i:=e.t) u j.1).mo ?_
  rintro _ G2 ⟨rfl,c⟩
  replace w:=w.mo b0j c
  replace z:=z.mo b0j c
  replace q:=c.bk q
  replace u:=c.bk u
  replace b2:=c.bk b2
  replace j:=j.trans c
  clear c
  cases q2:inB l.nl e.t
  case false =>
   simp [j0C]
   intros;exact F (by unfold m0k;rw [q2];simp)
  simp [b2,S]
  refine (f0w (i:=e.e.m) j.1).mo ?_
  rintro _ G2 ⟨rfl,c⟩
  replace w:=w.mo b0j c
  replace z:=z.mo b0j c
  replace q:=c.bk q
  replace u:=c.bk u
  replace b2:=c.bk b2
  replace j:=j.trans c
  clear c
  cases q3:l0F e.e.m
  case false =>
   simp [j0C]
   intros;exact F (by unfold m0k;rw [q3];simp)
  by_cases q7:e.e.set.length=l.ns
  case neg =>
   have a3:¬ (e.e.set.length:Int)=(l.ns:Int):=by omega
   simp [j0C,b2,L,lT,q7,a3]
   intros;exact F (by unfold m0k;rw [decide_eq_false q7];simp)
  have a3:(e.e.set.length:Int)=(l.ns:Int):=by omega
  simp [b2,L,lT,q7,a3]
  refine (e0Z z j.1 O.okS (by have:=O.2.2.2;omega)).mo ?_
  rintro _ G2 ⟨rfl,c⟩
  replace w:=w.mo b0j c
  replace z:=z.mo b0j c
  replace q:=c.bk q
  replace u:=c.bk u
  replace b2:=c.bk b2
  replace j:=j.trans c
  clear c
  cases hp2:f0s e.e.set l.ns e.e.m
  case false =>
   simp [j0C]
   intros;exact F (by unfold m0k;rw [hp2];simp)
  simp [b2,L]
  refine (e0Z w j.1 O.okG (by have:=O.2.2.1;omega)).mo ?_
  rintro _ G2 ⟨rfl,c⟩
  replace w:=w.mo b0j c
  replace z:=z.mo b0j c
  replace q:=c.bk q
  replace u:=c.bk u
  replace b2:=c.bk b2
  replace j:=j.trans c
  clear c
  cases hp:f0s e.e.guards l.ns e.e.m
  case false =>
   simp [j0C]
   intros;exact F (by unfold m0k;rw [hp];simp)
  simp
  refine Rnd.mk (by simp [gi]) (by simp [gn]) ⟨by simp [U],by simp [L],by simp [M],by simp [S],by simp [Y],j,q,u,?_⟩
  rw [c0K y,hq,<- he]
  unfold m0k
  rw [q1,q2,q3,decide_eq_true q7,hp,hp2];rfl
 ·clear h0 ρ j q u G G1
  rintro ρ G gi gn ⟨U,L,M,S,Y,j,q,u,hq⟩
  rw [N1f] at hq
  simp [E0i,U,q,lV]
  clear gi gn Y
  refine s0x (n:=l.V.length) (fun n ρ G=>ρ 1=.pointer (some ⟨H.size,0,none⟩)/\ρ 4=.int .i64 (l.ns:Int)/\ρ 5=.func (.func S0o) #[] #[.pointer (some ⟨P,0,none⟩)]/\ρ 6=.func (.func S0p) #[] #[]/\ρ 93=sV/\Ext H G/\a0c.bk G H.size=.row false a0Z [sL,sS,sE,sV]/\a0c.bk G P=.row false c0h [.int .i64 (l.nl:Int)]/\i0H (s0r l.nl l.ns) (l.V.take n)=true) rfl rfl (by decide) (by omega) (by simp) (by simp) ?_ ?_ ?_ ?_
  ·exact ⟨by simp [U],by simp [L],by simp [M],by simp [S],by simp,j,q,u,d0H⟩
  ·intro i ρ b4 G h hI;simpa [h] using hI
  ·clear U L M S j q u ρ G
   rintro n ρ G y gi gn ⟨U,L,M,S,a1,j,q,u,hr⟩
   have k:=hV.mo o0l j
   obtain ⟨cs,hw,a8,s,sG,rfl,w⟩:=k.load y (by decide)
   obtain ⟨a4,a0⟩:=b3 _ (N1j y)
   obtain ⟨e,he⟩:∃ e,e=l.V[n]:=⟨_,rfl⟩
   have F:s0r l.nl l.ns e=false->d0j l=false:=fun h=>noV y (by rw [<- he];exact h)
   simp only [<- he] at hw w a4 a0
   have hsz:=j.1
   simp [E0j,a1,gi,q,k.ia y,hw,w.cells,w.plain,hsz]
   generalize x:Array.setIfInBounds (G.push _) _ _=G1
   obtain ⟨c,b2⟩:=F0C x
   clear x
   replace w:=w.mo b0j c
   replace q:=c.bk q
   replace u:=c.bk u
   replace j:=j.trans c
   clear k c hw
   obtain ⟨Q,hQ⟩:∃ Q,Q=G.size:=⟨_,rfl⟩
   rw [<- hQ] at b2 ⊢
   clear hQ hsz
   simp [E0k,b2,M]
   refine (d0i (i:=e.l) u j.1).mo ?_
   rintro _ G2 ⟨rfl,c⟩
   replace w:=w.mo b0j c
   replace q:=c.bk q
   replace u:=c.bk u
   replace b2:=c.bk b2
   replace j:=j.trans c
   clear c
   cases q1:inB l.nl e.l
   case false =>
    simp [q0g]
    intros;exact F (by unfold s0r;rw [q1];simp)
   simp [b2,S]
   refine (f0w (i:=e.m) j.1).mo ?_
   rintro _ G2 ⟨rfl,c⟩
   replace w:=w.mo b0j c
   replace q:=c.bk q
   replace u:=c.bk u
   replace b2:=c.bk b2
   replace j:=j.trans c
   clear c
   cases q3:l0F e.m
   case false =>
    simp [q0g]
    intros;exact F (by unfold s0r;rw [q3];simp)
   simp [b2,L]
   refine (e0Z w j.1 (fun a ha=>(a0 a ha).ok) (by omega)).mo ?_
   rintro _ G2 ⟨rfl,c⟩
   replace w:=w.mo b0j c
   replace q:=c.bk q
   replace u:=c.bk u
   replace b2:=c.bk b2
   replace j:=j.trans c
   clear c
   cases hp:f0s e.g l.ns e.m
   case false =>
    simp [q0g]
    intros;exact F (by unfold s0r;rw [hp];simp)
   simp
   refine Rnd.mk (by simp [gi]) (by simp [gn]) ⟨by simp [U],by simp [L],by simp [M],by simp [S],by simp [a1],j,q,u,?_⟩
   rw [c0K y,hr,<- he]
   unfold s0r
   rw [q1,q3,hp];rfl
  ·clear U L M S j q u ρ G
   rintro ρ G gi gn ⟨U,L,M,S,a1,j,q,u,hr⟩
   rw [N1f] at hr
   simp [E0l]
   intros
   unfold d0j
   rw [hlow,hq,hr];rfl
structure u1F where
 d:Int
 th:List d0d
 n:Int
def F0H (H:a0c) (v:Value) (o:u1F):Prop:=∃ s,v=.agg #[.int .i64 o.d,s,.int .i64 o.n]/\f0H H s o.th
theorem F0H.mo {o:u1F} (h:F0H H v o) (k:Ext H G):F0H G v o:=by obtain ⟨s,c,j⟩:=h;exact ⟨s,c,j.mo l0e k⟩
theorem R0p {l:List d0d} {s:Value} {c:Nat} (h:f0H H s l):k0u (H.push (.row false b0E [s])) (.slice (some ⟨H.size,0,none⟩) 1 c) [l]:=by
 refine ⟨[s],⟨by simp,.inr ⟨H.size,0,c,false,[s],by simp,a0N,by simp,by simp⟩⟩,fun i hi=>?_⟩
 have:i=0:=by simpa using hi
 subst this
 exact ⟨s,by simp,h.mo l0e (Ext.refl H).push⟩
theorem q0z {o:u1F} (h:F0H H v o) (I:fl<=H.size):b0k env fl v1z [v] H (fun r H'=>(∃ c,r=.bool c/\(c=false->H0j [o.th]))/\Ext H H') R:=by
 obtain ⟨s,rfl,hs⟩:=h
 refine a0i L1W I (h:=?_)
 intro ρ w
 simp [G1C,S0V,w,hs.cells]
 generalize k:H.push _=G
 obtain ⟨j,u⟩:=t0i k
 clear k
 have q:=hs.mo l0e j
 by_cases x:6 < o.d <;> by_cases y:o.d<=20 <;> by_cases z:4 < o.n <;> by_cases F:o.n<=20 <;> simp [S0W,u,x,y,z,F,q.cells,show u0M true undef=false from rfl] <;> first | exact j | skip
 all_goals
  refine (l0W (R0p q) (by simp;have:=j.1;omega)).mo ?_
  rintro _ G3 ⟨⟨c,rfl,J⟩,L⟩
  simp
  intro _
  cases c with
  | false=>exact .inl ⟨rfl,J rfl⟩
  | true=>exact .inr rfl
end
section
structure G1W (E E':Env):Prop where
 code:E'.code=E.code
 quick:E.quick=none
 prim:∀ f args G n r,E.prim f args G n=some r->E'.prim f args G n=some r
theorem q0K {E j:Env} (c:G1W E j):∀ n,U0T (a0M E n) (a0M j n)
 | 0=>fun _ _ _ _ _ _ h=>by simp [a0M] at h
 | n + 1=>fun fl fl' f args H s h=>by
  have w:=q0K c n
  simp only [a0M,c.code,c.quick] at h ⊢
  split at h
  ·split at h
   ·rename_i v bs hp
    rw [c.prim _ _ _ _ _ hp]
   ·exact N1i rfl h
  ·rename_i q u
   try simp only
   split at h
   ·rename_i k
    rw [M1Z k];rw [M1Z k]
    have r:a0K (a0M E n) fl n q.body (args ++ List.replicate (q.nt - args.length) undef) H ≠ .bad:=by intro hb;rw [hb] at h;exact h rfl
    rw [a0O w s n n _ _ _ (M1U _) r]
   ·exact N1i rfl h
theorem b0k.lift {E c:Env} (j:G1W E c) {fl:Nat} {f:FuncId} {args:List Value} {H:a0c} {K:n0z} {R:a0P} (h:b0k E fl f args H K R):b0k c fl f args H K R:=by
 obtain ⟨n,h⟩:=h
 refine ⟨n,?_⟩
 have hb:a0M E n fl f args H ≠ .bad:=fun hb=>by rw [hb] at h;exact h
 rw [q0K j n fl fl f args H (M1U _) hb]
 exact h
def w1v (f:FuncId):List Value->(Nat->Blk)->Nat->Option (Value × List Blk)
 | [],_,_=>if f=x0R then some (.bool true,[]) else none
 | _ :: _,_,_=>none
def v0h:Env:=⟨env.code,none,w1v⟩
theorem p0e:G1W env v0h where
 code:=rfl
 quick:=rfl
 prim f args G n r h:=by cases h
variable {fl:Nat} {H:a0c} {R:a0P}
theorem d0u:b0k v0h fl x0R [] H (fun r H'=>r=.bool true/\Ext H H') R:=by
 refine ⟨1,?_⟩
 have e:a0M v0h 1 fl x0R [] H=.ok (.bool true,H):=rfl
 rw [e]
 exact ⟨rfl,Ext.refl H⟩
end
section
variable {fl:Nat} {H G:a0c} {R:a0P} {v w u:Value}
theorem r0v {n:Int} (j:fl<=H.size):b0k env fl V0T [.int .i64 n] H (fun r H'=>r=.int .i64 n/\Ext H H') R:=by
 refine a0i L1T j (h:=?_)
 intro ρ c
 simp [C1u,S0I,S0J,c]
theorem f0H.short {l:List d0d} (h:f0H H v l) (k:j0J j0v l=false):Few 6 l:=by
 intro y j
 obtain ⟨i,hi,rfl⟩:=P1d j
 obtain ⟨w,_,s,t,_,q,r⟩:=f0H.load h hi
 have c:=List.any_eq_false.1 k _ j
 unfold j0v at c
 simp at c
 exact ⟨by unfold n0F;omega,q.ok,r.ok⟩
def v1N (rows:List (List d0d)):Prop:=(∀ r ∈ rows,Few 6 r/\r.length < 1073741824)/\rows.length<=200
theorem k0u.short {l:List (List d0d)} (h:k0u H v l) (k:H0j l):v1N l:=by
 refine ⟨fun r j=>?_,k.1⟩
 have c:=k.2 r j
 obtain ⟨i,hi,rfl⟩:=P1d j
 obtain ⟨w,_,q⟩:=k0u.load h hi
 exact ⟨f0H.short q c.2,by omega⟩
theorem g0O {l:u0R} {rows:List (List d0d)} {o:u1F} (h:x0P H v l) (Z:k0X H w rows) (ho:F0H H u o) (U:fl<=H.size) (Y:p0d l) (Q:v1N rows)
  (O:(d0j l && o0y rows (l.ns:Int))=false):b0k env fl W0E [v,w,u] H (fun r H'=>r=.tuple #[.slice none 0 0,.int .i64 0,.int .i64 1]/\Ext H H') R:=by
 obtain ⟨cs,rfl,z,F,y,I,rfl,N,L,M,hV⟩:=h
 obtain ⟨s,rfl,hs⟩:=Z
 obtain ⟨t,rfl,hT⟩:=ho
 refine a0i L1Z U (h:=?_)
 intro ρ S
 simp [D1Z,T0k,S,N.2.1,L.2.1,M.cells,hV.cells,hs.cells,hT.cells]
 generalize k:((H.push _).push _).push _=G
 have c:Ext H G:=by rw [<- k];exact (Ext.refl H).push.push.push
 have x:a0c.bk G H.size=.row false a0Z [z,F,y,I]:=by rw [<- k];simp
 have J:a0c.bk G (H.size + 1)=.row false a0w [s]:=by rw [<- k];simp
 have b2:a0c.bk G (H.size + 2)=.row false c0G [.int .i64 o.d,t,.int .i64 o.n]:=by rw [<- k];simp
 clear k
 have lowV:∀ G,Ext H G->x0P G (.agg #[z,F,y,I]) l:=fun G c=>⟨[z,F,y,I],rfl,z,F,y,I,rfl,N,L,M.mo o0k c,hV.mo o0l c⟩
 have q:∀ G,Ext H G->k0X G (.agg #[s]) rows:=fun G c=>⟨s,rfl,hs.mo j0V c⟩
 have lS:=L.1
 simp [T0l,x]
 refine (l0y (lowV _ c) Y c.1).mo ?_
 rintro _ G2 ⟨rfl,j⟩
 replace x:=j.bk x
 replace J:=j.bk J
 replace c:=c.trans j
 clear j
 cases h1:d0j l
 ·simp [D0T]
 rw [h1,O1H] at O
 simp [x,J,lS]
 refine (l0D (n:=(l.ns:Int)) (q _ c) (by have:=c.1;omega) (by decide:6 < 67108864) Q.1 (by have:=Q.2;omega)).mo ?_
 rintro _ G3 ⟨rfl,j⟩
 replace c:=c.trans j
 rw [O]
 simp [D0T]
theorem l0Y {l:u0R} {rows:List (List d0d)} {o:u1F} (h:x0P H v l) (ht:k0X H w rows) (ho:F0H H u o) (hf:fl<=H.size) :
  b0k v0h fl f_5 [v,w,u] H (fun r H'=>r=.bool true/\Ext H H') R:=by
 obtain ⟨cs,rfl,O,Q,N,S,rfl,hL,U,Z,hV⟩:=h
 obtain ⟨s,rfl,hs⟩:=ht
 obtain ⟨t,rfl,hT⟩:=ho
 refine a0i (E:=v0h) (show v0h.code f_5=some s_5 from e_5) hf (h:=?_)
 intro ρ h0
 simp [s_5,z1k,h0,hL.2.1,U.2.1,Z.cells,hV.cells,hs.cells,hT.cells]
 generalize z:((H.push _).push _).push _=G
 have k:Ext H G:=by rw [<- z];exact (Ext.refl H).push.push.push
 have q:a0c.bk G H.size=.row false a0Z [O,Q,N,S]:=by rw [<- z];simp
 have x:a0c.bk G (H.size + 1)=.row false a0w [s]:=by rw [<- z];simp
 have b2:a0c.bk G (H.size + 2)=.row false c0G [.int .i64 o.d,t,.int .i64 o.n]:=by rw [<- z];simp
 clear z
 have lowV:∀ G,Ext H G->x0P G (.agg #[O,Q,N,S]) l:=fun G k=>⟨[O,Q,N,S],rfl,O,Q,N,S,rfl,hL,U,Z.mo o0k k,hV.mo o0l k⟩
 have y:∀ G,Ext H G->k0X G (.agg #[s]) rows:=fun G k=>⟨s,rfl,hs.mo j0V k⟩
 have I:∀ G,Ext H G->F0H G (.agg #[.int .i64 o.d,t,.int .i64 o.n]) o:=fun G k=>⟨t,rfl,hT.mo l0e k⟩
 have lS:=U.1
 simp [z1l,q]
 refine (b0k.lift p0e (o0M (lowV _ k) k.1)).mo ?_
 rintro _ G2 ⟨⟨c,rfl,M⟩,j⟩
 replace q:=j.bk q
 replace x:=j.bk x
 replace b2:=j.bk b2
 replace k:=k.trans j
 clear j
 cases c
 case true =>
  simp [R0j]
  refine d0u.mo ?_
  rintro _ L ⟨rfl,F⟩
  simp
 replace M:=M rfl
 simp [x]
 refine (b0k.lift p0e (l0W (hs.mo j0V k) k.1)).mo ?_
 rintro _ G3 ⟨⟨c,rfl,J⟩,j⟩
 replace q:=j.bk q
 replace x:=j.bk x
 replace b2:=j.bk b2
 replace k:=k.trans j
 clear j
 cases c
 case true =>
  simp [R0j]
  refine d0u.mo ?_
  rintro _ L ⟨rfl,F⟩
  simp
 replace J:=hs.short (J rfl)
 simp [b2]
 refine (b0k.lift p0e (q0z (I _ k) k.1)).mo ?_
 rintro _ G4 ⟨⟨c,rfl,_⟩,j⟩
 replace q:=j.bk q
 replace x:=j.bk x
 replace b2:=j.bk b2
 replace k:=k.trans j
 clear j
 cases c
 case true =>
  simp [R0j]
  refine d0u.mo ?_
  rintro _ L ⟨rfl,F⟩
  simp
 simp [z1m,q]
 refine (b0k.lift p0e (n0N (lowV _ k) M k.1)).mo ?_
 rintro _ G5 ⟨rfl,j⟩
 replace q:=j.bk q
 replace x:=j.bk x
 replace b2:=j.bk b2
 replace k:=k.trans j
 clear j
 cases h1:d0j l
 ·simp [s1i,q,x,b2]
  refine (b0k.lift p0e (g0O (lowV _ k) (y _ k) (I _ k) k.1 M J (by rw [h1];rfl))).mo ?_
  rintro _ Y ⟨rfl,j⟩
  replace q:=j.bk q
  replace x:=j.bk x
  replace b2:=j.bk b2
  replace k:=k.trans j
  clear j
  simp [s1j]
  refine (b0k.lift p0e (r0v (n:=1) k.1)).mo ?_
  rintro _ G7 ⟨rfl,j⟩
  replace q:=j.bk q
  replace x:=j.bk x
  replace b2:=j.bk b2
  replace k:=k.trans j
  clear j
  simp [show i0q (.slice none 0 0)=some (.int .i64 0) from rfl]
  refine d0u.mo ?_
  rintro _ L ⟨rfl,F⟩
  simp
 simp [q,x,lS]
 refine (b0k.lift p0e (n0O (n:=(l.ns:Int)) (y _ k) (by have:=k.1;omega) (by decide:6 < 67108864) J.1 (by have:=J.2;omega))).mo ?_
 rintro _ Y ⟨rfl,j⟩
 replace q:=j.bk q
 replace x:=j.bk x
 replace b2:=j.bk b2
 replace k:=k.trans j
 clear j
 cases h2:o0y rows (l.ns:Int)
 ·simp [s1i,q,x,b2]
  refine (b0k.lift p0e (g0O (lowV _ k) (y _ k) (I _ k) k.1 M J (by rw [h1,h2];rfl))).mo ?_
  rintro _ Y ⟨rfl,j⟩
  replace q:=j.bk q
  replace x:=j.bk x
  replace b2:=j.bk b2
  replace k:=k.trans j
  clear j
  simp [s1j]
  refine (b0k.lift p0e (r0v (n:=1) k.1)).mo ?_
  rintro _ G7 ⟨rfl,j⟩
  replace q:=j.bk q
  replace x:=j.bk x
  replace b2:=j.bk b2
  replace k:=k.trans j
  clear j
  simp [show i0q (.slice none 0 0)=some (.int .i64 0) from rfl]
  refine d0u.mo ?_
  rintro _ L ⟨rfl,F⟩
  simp
 ·simp [z1n]
  refine d0u.mo ?_
  rintro _ L ⟨rfl,F⟩
  simp
end
section
variable {H:a0c} {v:Value} {m:Nat} {cs:List Value} {P:Program}
structure h0H (P:Program):Prop where
 t:m0a P
 u78:∃ f g h:Field,P.underlying 166=some (.struct #[f,g,h])/\f.type=164/\g.type=164/\h.type=61
 u76:P.underlying 164=some (.slice 61)
 u49:P.underlying 95=some (.slice 166)
 u50:P.underlying 96=some (.slice 4)
 u52:∃ a b c d e f:Field,P.underlying 98=some (.struct #[a,b,c,d,e,f])/\a.type=3/\b.type=3/\c.type=3/\d.type=95/\e.type=95/\f.type=96
 u24:P.underlying 24=some (.slice 98)
 u55:∃ a b c d:Field,P.underlying 101=some (.struct #[a,b,c,d])/\a.type=3/\b.type=3/\c.type=3/\d.type=95
 u25:P.underlying 25=some (.slice 101)
 u22:P.underlying 22=some (.slice 79)
 u23:P.underlying 23=some (.slice 9)
 u27:∃ a b c d:Field,P.underlying 27=some (.struct #[a,b,c,d])/\a.type=22/\b.type=23/\c.type=24/\d.type=25
 u31:P.underlying 35=some (.slice 42)
 c44:P.cellsOf 61=2
 c78:P.cellsOf 166=4
 c52:P.cellsOf 98=6
 c55:P.cellsOf 101=4
 c36:P.cellsOf 42=1
theorem g0f {t e:TypeId} (c:P.underlying t=some (.slice e)) (h:IsT P H (m + 1) t cs):∃ v,cs=[v]/\a0t v=[v]/\a0n v=true:=by
 unfold IsT at h
 rw [c] at h
 rcases h with h | ⟨b,len,cap,cells,h,_⟩ <;> exact ⟨_,h,rfl,rfl⟩
theorem v1T {t e:TypeId} (c:P.underlying t=some (.slice e)) (h:IsT P H (m + 1) t cs):∃ v n,cs=[v]/\G1V v n:=by
 unfold IsT at h
 rw [c] at h
 rcases h with h | ⟨b,len,cap,cells,h,_⟩
 ·exact ⟨_,0,h,rfl,rfl,rfl⟩
 ·exact ⟨_,len,h,rfl,rfl,rfl⟩
theorem S0s (hP:h0H P) (h:IsT P H (m + 4) 164 [v]):∃ l,f0W H v l:=t0c hP.u76 hP.c44 (fun cs _ h=>by
 obtain ⟨b,s,l,rfl,c⟩:=H0l hP.t h
 exact ⟨(b,l),s,rfl,c⟩) h
theorem J1C (hP:h0H P) (h:IsT P H (m + 5) 166 cs):∃ a,F0x H (.agg cs.toArray) a:=by
 obtain ⟨f,g,k,I,w,x,y⟩:=hP.u78
 unfold IsT at h
 rw [I] at h
 obtain ⟨c,rfl,G,hp⟩:=h
 obtain ⟨p,q,r,rfl⟩:∃ p q r,c=[p,q,r]:=by
  match c,G with
  | [p,q,r],_=>exact ⟨p,q,r,rfl⟩
 have j:IsT P H (m + 4) 164 p:=by simpa [w] using hp 0 _ rfl
 have u:IsT P H (m + 4) 164 q:=by simpa [x] using hp 1 _ rfl
 obtain ⟨L,rfl,_⟩:=g0f hP.u76 j
 obtain ⟨J,rfl,_⟩:=g0f hP.u76 u
 obtain ⟨X,F⟩:=S0s hP j
 obtain ⟨W,z⟩:=S0s hP u
 obtain ⟨b,s,l,rfl,hs⟩:=H0l (m:=m + 1) hP.t (by simpa [y] using hp 2 _ rfl)
 exact ⟨⟨X,W,(b,l)⟩,L,J,s,rfl,F,z,hs⟩
theorem z0g (hP:h0H P) (h:IsT P H (m + 6) 95 [v]):∃ l,j0k H v l:=t0c hP.u49 hP.c78 (fun _ _ h=>J1C hP h) h
theorem M1z (hP:h0H P) (h:IsT P H (m + 7) 98 cs):∃ x,EdV H cs x:=by
 obtain ⟨a,b,c,d,e,f,hu,L,M,N,O,Q,R⟩:=hP.u52
 unfold IsT at h
 rw [hu] at h
 obtain ⟨j,rfl,Z,hp⟩:=h
 obtain ⟨w,y,z,r,s,u,rfl⟩:∃ w y z r s u,j=[w,y,z,r,s,u]:=by
  match j,Z with
  | [w,y,z,r,s,u],_=>exact ⟨w,y,z,r,s,u,rfl⟩
 obtain ⟨n1,rfl⟩:=h0S (m:=m + 5) hP.t (by simpa [L] using hp 0 _ rfl)
 obtain ⟨n2,rfl⟩:=h0S (m:=m + 5) hP.t (by simpa [M] using hp 1 _ rfl)
 obtain ⟨n3,rfl⟩:=h0S (m:=m + 5) hP.t (by simpa [N] using hp 2 _ rfl)
 have k:IsT P H (m + 6) 95 r:=by simpa [O] using hp 3 _ rfl
 have q:IsT P H (m + 6) 95 s:=by simpa [Q] using hp 4 _ rfl
 have F:IsT P H (m + 6) 96 u:=by simpa [R] using hp 5 _ rfl
 obtain ⟨sG,rfl,_⟩:=g0f hP.u49 k
 obtain ⟨sS,rfl,_⟩:=g0f hP.u49 q
 obtain ⟨sP,rfl,I,J⟩:=g0f hP.u50 F
 obtain ⟨G,U⟩:=z0g hP k
 obtain ⟨S,Y⟩:=z0g hP q
 exact ⟨⟨n1,n2,⟨n3,G,S⟩⟩,sG,sS,sP,rfl,U,Y,I,J⟩
theorem M1A (hP:h0H P) (h:IsT P H (m + 7) 101 cs):∃ x,ViV H cs x:=by
 obtain ⟨a,b,c,d,L,w,y,z,F⟩:=hP.u55
 unfold IsT at h
 rw [L] at h
 obtain ⟨j,rfl,J,hp⟩:=h
 obtain ⟨r,s,u,q,rfl⟩:∃ r s u q,j=[r,s,u,q]:=by
  match j,J with
  | [r,s,u,q],_=>exact ⟨r,s,u,q,rfl⟩
 obtain ⟨M,rfl⟩:=h0S (m:=m + 5) hP.t (by simpa [w] using hp 0 _ rfl)
 obtain ⟨N,rfl⟩:=h0S (m:=m + 5) hP.t (by simpa [y] using hp 1 _ rfl)
 obtain ⟨O,rfl⟩:=h0S (m:=m + 5) hP.t (by simpa [z] using hp 2 _ rfl)
 have k:IsT P H (m + 6) 95 q:=by simpa [F] using hp 3 _ rfl
 obtain ⟨Q,rfl,_⟩:=g0f hP.u49 k
 obtain ⟨G,I⟩:=z0g hP k
 exact ⟨⟨M,O,G⟩,N,Q,rfl,I⟩
theorem u1Y (hP:h0H P) (h:IsV P H (m + 9) 27 v):∃ l,x0P H v l:=by
 obtain ⟨a,b,c,d,J,L,M,N,O⟩:=hP.u27
 unfold IsV at h;rw [J] at h
 obtain ⟨cs,rfl,h⟩:=h
 unfold IsT at h
 rw [J] at h
 obtain ⟨j,hc,U,hp⟩:=h
 obtain ⟨r,s,u,w,rfl⟩:∃ r s u w,j=[r,s,u,w]:=by
  match j,U with
  | [r,s,u,w],_=>exact ⟨r,s,u,w,rfl⟩
 have x:IsT P H (m + 8) 22 r:=by simpa [L] using hp 0 _ rfl
 have y:IsT P H (m + 8) 23 s:=by simpa [M] using hp 1 _ rfl
 have k:IsT P H (m + 8) 24 u:=by simpa [N] using hp 2 _ rfl
 have q:IsT P H (m + 8) 25 w:=by simpa [O] using hp 3 _ rfl
 obtain ⟨F,nl,rfl,R⟩:=v1T hP.u22 x
 obtain ⟨G,ns,rfl,S⟩:=v1T hP.u23 y
 obtain ⟨z,rfl,_⟩:=g0f hP.u24 k
 obtain ⟨I,rfl,_⟩:=g0f hP.u25 q
 obtain ⟨E,Q⟩:=t0c (P:=EdV) hP.u24 hP.c52 (fun _ _ h=>M1z hP h) k
 obtain ⟨V,hV⟩:=t0c (P:=ViV) hP.u25 hP.c55 (fun _ _ h=>M1A hP h) q
 have:cs = #[F,G,z,I]:=by rw [<- O1K];simpa using hc
 exact ⟨⟨nl,ns,E,V⟩,[F,G,z,I],by rw [this],F,G,z,I,rfl,R,S,Q,hV⟩
theorem t1S:h0H Tryz.prog where
 t:=types
 u78:=⟨_,_,_,Tryz.underlying166,rfl,rfl,rfl⟩
 u76:=Tryz.underlying164
 u49:=Tryz.underlying95
 u50:=by kernel_rfl
 u52:=⟨_,_,_,_,_,_,Tryz.underlying98,rfl,rfl,rfl,rfl,rfl,rfl⟩
 u24:=Tryz.underlying24
 u55:=⟨_,_,_,_,Tryz.underlying101,rfl,rfl,rfl,rfl⟩
 u25:=Tryz.underlying25
 u22:=Tryz.underlying22
 u23:=Tryz.underlying23
 u27:=⟨_,_,_,_,Tryz.underlying27,rfl,rfl,rfl,rfl⟩
 u31:=Tryz.underlying35
 c44:=by kernel_rfl
 c78:=by kernel_rfl
 c52:=by kernel_rfl
 c55:=by kernel_rfl
 c36:=by kernel_rfl
structure s0v (P:Program):Prop where
 t:h0H P
 u48:∃ f g h:Field,P.underlying 48=some (.struct #[f,g,h])/\f.type=3/\g.type=46/\h.type=3
 u46:P.underlying 46=some (.slice 63)
theorem u1Z (hP:s0v P) (h:IsV P H (m + 6) 48 v):∃ o,F0H H v o:=by
 obtain ⟨f,g,k,w,z,F,G⟩:=hP.u48
 unfold IsV at h;rw [w] at h
 obtain ⟨cs,rfl,h⟩:=h
 unfold IsT at h
 rw [w] at h
 obtain ⟨c,hc,u,hp⟩:=h
 obtain ⟨p,q,r,rfl⟩:∃ p q r,c=[p,q,r]:=by
  match c,u with
  | [p,q,r],_=>exact ⟨p,q,r,rfl⟩
 obtain ⟨x,rfl⟩:=h0S (m:=m + 4) hP.t.t (by simpa [z] using hp 0 _ rfl)
 have j:IsT P H (m + 5) 46 q:=by simpa [F] using hp 1 _ rfl
 obtain ⟨y,rfl⟩:=h0S (m:=m + 4) hP.t.t (by simpa [G] using hp 2 _ rfl)
 obtain ⟨s,rfl,_⟩:=g0f hP.u46 j
 obtain ⟨l,u⟩:=S0t hP.t.t j
 have:cs = #[.int .i64 x,s,.int .i64 y]:=by rw [<- O1K];simpa using hc
 exact ⟨⟨x,l,y⟩,s,by rw [this],u⟩
theorem t0b (hP:s0v P) {vs:List Value} (h:F0G P H 12 [27,33,48] vs):∃ u v w l rows o,vs=[u,v,w]/\x0P H u l/\k0X H v rows/\F0H H w o:=by
 match vs,h with
 | [u,v,w],⟨h1,h2,h3,_⟩ =>
  obtain ⟨l,c⟩:=u1Y (m:=3) hP.t h1
  obtain ⟨t,j⟩:=F0T (m:=5) hP.t.t h2
  obtain ⟨o,ho⟩:=u1Z (m:=6) hP h3
  exact ⟨u,v,w,l,t,o,rfl,c,j,ho⟩
theorem t1T:s0v Tryz.prog where
 t:=t1S
 u48:=⟨_,_,_,Tryz.underlying48,rfl,rfl,rfl⟩
 u46:=Tryz.underlying46
