/- Part 7 of the proof: AiRat3, AiExt1, AiFor, AiVec1, AiDom1, AiDom2, AiDom3, AiDom4, AiLp1, AiSx1. -/
import Derived.Test.YtjlohmnnldbjoaaGreatM05
set_option linter.unusedVariables false
set_option linter.unusedSimpArgs false
set_option linter.unusedSectionVars false
/- rat: least, fold, Add, Mul, Cmp, Of. -/
namespace Go.Proofs.YtjlohmnnldbjoaaGreat.AI
section
open Go
set_option maxHeartbeats 4000000
variable {fl:Nat} {H G:a0f} {R:a0A} {v w:Value} {i j:Bool × List Nat} {a b:b0R}
theorem b0X.p (h:b0X H v a):∃ s u,v=.agg #[.bool a.1.1,s,.bool a.2.1,u]∧Lim H s a.1.2∧Lim H u a.2.2∧b0q H (.agg #[.bool a.1.1,s]) a.1∧b0q H (.agg #[.bool a.2.1,u]) a.2:=by
 obtain ⟨s,u,h1,h2,h3⟩:=h;exact ⟨s,u,h1,h2,h3,⟨s,rfl,h2⟩,⟨u,rfl,h3⟩⟩
theorem b0X.ok (h:b0X H v a):b0D a.1.2∧b0D a.2.2:=by obtain ⟨s,u,_,h2,h3⟩:=h;exact ⟨h2.ok,h3.ok⟩
theorem e0d (x:Rat):lz x.num≤szR x:=by unfold szR;omega
theorem e0W (x:Rat):lz x.den≤szR x:=by unfold szR;omega
theorem g0I (h:b0q H v i) (k:b0q H w j) (hf:fl≤H.size) (hn:i.2.length < 536870912) (hm:j.2.length < 536870912) (hj0:a0O j ≠ 0) :
  a0P env fl P0z [v,w] H (fun r H'=>b0X H' r (a0e (Rat.divInt (a0O i) (a0O j)))∧Ext H H') R:=by
 have k0:=h
 have k1:=k
 obtain ⟨s,rfl,hs⟩:=h
 obtain ⟨u,rfl,hu⟩:=k
 refine a0l X0c hf (h:=?_)
 intro ρ h0
 simp [T0r,L0C,h0]
 generalize hG:Array.push (Array.push (Array.push H _) _) _=G
 have hx:Ext H G:=by rw [← hG];exact (Ext.refl H).push.push.push
 have b0:a0f.blk G H.size=.row false a0c [.bool i.1,s]:=by rw [← hG];simp
 have b1:a0f.blk G (H.size + 1)=.row false a0c [.bool j.1,u]:=by rw [← hG];simp
 have b2:a0f.blk G (H.size + 2)=.row false a0d [.bool false,.slice none 0 0,.bool false,.slice none 0 0]:=by rw [← hG];simp
 clear hG
 replace k0:=k0.mono hx
 replace k1:=k1.mono hx
 simp [L0D,h0,b0,b1]
 refine (d0o k0 k1 hx.1 hn hm hj0).mono ?_
 rintro _ G2 ⟨⟨q,rfl,s1,s2,rfl,k2,k3⟩,hx2⟩
 replace b2:=hx2.blk b2;replace hx:=hx.trans hx2
 have hsz:=hx.1
 simp [h0,k2.cells,k2.plain,k3.cells,k3.plain,hsz]
 generalize hN:Array.setIfInBounds (Array.push _ _) _ _=G3
 obtain ⟨hx2,b3⟩:=new1 hN
 clear hN
 replace b2:=hx2.blk b2;replace hx:=hx.trans hx2;replace k2:=k2.mono hx2;replace k3:=k3.mono hx2
 have hz:=a0k b2
 simp [L0E,h0,b2,b3,k2.cells,k2.plain,k3.cells,k3.plain,hz]
 exact fun _=>⟨s1,s2,rfl,k2.setT b2 (by decide),k3.setT b2 (by decide)⟩
def t0Q (H:a0f) (v:Value) (l:List (Bool × List Nat)):Prop :=
 ∃ cs,Sl H a0c 2 v l.length cs∧∀ k,(h:k < l.length)→b0q H (.agg ((cs.drop (k * 2)).take 2).toArray) l[k]
theorem i0u (h:b0q H v i) (hl:b0q H w j) {c:Nat} {p:Nat} (hb:H.blk p=.row false a0c (a0K w)) (hf:fl≤H.size) (hn:i.2.length < 536870912) (hm:j.2.length < 536870912) :
  a0P env fl Q0T [.func (.func F0E) #[] #[],v,.slice (some ⟨p,0,none⟩) 1 c] H (fun r H'=>b0q H' r (a0n (a0O i + a0O j))∧Ext H H') R:=by
 have k0:=h
 have k1:=hl
 obtain ⟨s,rfl,hs⟩:=h
 obtain ⟨u,rfl,hu⟩:=hl
 simp at hb
 refine a0l X0d hf (h:=?_)
 intro ρ h0
 have hpl:=a0k hb
 simp [T0s,L0F,L0G,h0,j0b]
 generalize hG:Array.push (Array.push H _) _=G
 have hx2:Ext H G:=by rw [← hG];exact (Ext.refl H).push.push
 have b0:a0f.blk G H.size=.row false a0c [.bool i.1,s]:=by rw [← hG];simp
 have b1:a0f.blk G (H.size + 1)=.row false a0c [.bool false,.slice none 0 0]:=by rw [← hG];simp
 have b2:a0f.blk G p=.row false a0c [.bool j.1,u]:=hx2.blk hb
 have hx:=hx2
 clear hG
 replace k0:=k0.mono hx2
 replace k1:=k1.mono hx2
 clear hb
 refine b0Y (fun c' t G=>∃ n:Nat,n + c' = 1∧t.length=21∧get t 0=.func (.func F0E) #[] #[]∧get t 4=.pointer (some ⟨H.size,0,none⟩)∧get t 6=.pointer (some ⟨H.size + 1,0,none⟩)∧get t 9=.slice (some ⟨p,0,none⟩) 1 c∧get t 10=.int .i64 1∧get t 11=.int .i64 (n:Int) ∧
   Ext H G∧a0f.blk G (H.size + 1)=.row false a0c [.bool false,.slice none 0 0] ∧
   (n=0→a0f.blk G H.size=.row false a0c [.bool i.1,s]∧a0f.blk G p=.row false a0c [.bool j.1,u]∧b0q G (.agg #[.bool i.1,s]) i∧b0q G (.agg #[.bool j.1,u]) j) ∧
   (n=1→∃ s2,a0f.blk G H.size=.row false a0c [.bool (a0n (a0O i + a0O j)).1,s2]∧Lim G s2 (a0n (a0O i + a0O j)).2))
  (fun t G=>∃ s2,t.length=21∧get t 4=.pointer (some ⟨H.size,0,none⟩)∧get t 6=.pointer (some ⟨H.size + 1,0,none⟩)∧Ext H G∧a0f.blk G (H.size + 1)=.row false a0c [.bool false,.slice none 0 0] ∧
   a0f.blk G H.size=.row false a0c [.bool (a0n (a0O i + a0O j)).1,s2]∧Lim G s2 (a0n (a0O i + a0O j)).2) 1 ?_ ?_ ?_
 ·exact ⟨0,rfl,by simp,by simp [h0],by simp,by simp,by simp [h0],by simp,by simp,hx,b1,fun _=>⟨b0,b2,k0,k1⟩,by omega⟩
 ·clear h0 ρ k0 k1 b0 b1 b2 hx hx2 G
  rintro c' t G ⟨n,hnc,ht,g0,g4,g6,g9,g10,g11,hx,b1,hc0,hc1⟩
  obtain ⟨ρ,rfl⟩:=toT ht
  simp only [b0Z,Nat.reduceLT] at g0 g4 g6 g9 g10 g11
  by_cases hn0:n=0
  ·subst hn0
   obtain ⟨b0,b2,k0,k1⟩:=hc0 rfl
   have hlt:=hx.1
   have hbl:=a0k b1
   have e9:IntKind.i64.wrap ((0:Int) + 1)=1:=by decide
   simp [E0N,L0H,g0,g4,g6,g9,g10,g11,iaV,b2]
   have hc:(a0K (Value.agg #[.bool j.1,u])).length=2:=rfl
   simp [hu.cells,hu.plain,hlt]
   generalize hN:Array.setIfInBounds (Array.push _ _) _ _=G3
   obtain ⟨hx2,b3⟩:=new1 hN
   clear hN
   replace b0:=hx2.blk b0;replace b1:=hx2.blk b1;replace b2:=hx2.blk b2;replace hx:=hx.trans hx2;replace k0:=k0.mono hx2;replace k1:=k1.mono hx2
   simp [L0I,L0J,g0,g4,g6,g9,g10,g11,b0,b3]
   refine (e0G k0 k1 hx.1 hn hm).mono ?_
   rintro _ G2 ⟨⟨s2,rfl,k2⟩,hx2⟩
   replace b0:=hx2.blk b0;replace b1:=hx2.blk b1;replace b2:=hx2.blk b2;replace hx:=hx.trans hx2;replace k0:=k0.mono hx2;replace k1:=k1.mono hx2
   have hz:=a0k b0
   simp [g0,g4,g6,g9,g10,g11,b0,k2.cells,k2.plain,hz,e9]
   exact ⟨0,by omega,1,rfl,rfl,hx.set (by omega),b1,by omega,fun _=>k2.setT b0 (by decide)⟩
  ·have:n=1:=by omega
   subst this
   obtain ⟨s2,b0,k0⟩:=hc1 rfl
   simp [E0N,g0,g4,g6,g9,g10,g11]
   exact ⟨hx,b1,s2,b0,k0⟩
 ·clear h0 ρ k0 k1 b0 b1 b2 hx hx2 G
  rintro t G ⟨s2,ht,g4,g6,hx,b1,b0,k0⟩
  obtain ⟨ρ,rfl⟩:=toT ht
  simp only [b0Z,Nat.reduceLT] at g4 g6
  have hz:=a0k b1
  simp [L0K,g4,g6,b0,b1,k0.cells,k0.plain,hz]
  exact fun _=>⟨s2,rfl,k0.setT b1 (by decide)⟩
theorem b0K (h:b0X H v a) (k:b0X H w b) (hf:fl≤H.size) (hn:f0z a < 67108864) (hm:f0z b < 67108864) :
  a0P env fl n0R [v,w] H (fun r H'=>b0X H' r (a0e (b0O a + b0O b))∧Ext H H') R:=by
 have k0:=h
 have k1:=k
 obtain ⟨s,u,rfl,hs,hu⟩:=h
 obtain ⟨s',u',rfl,hs',hu'⟩:=k
 refine a0l W0Q hf (h:=?_)
 intro ρ h0
 simp [T0f,K0C,h0]
 generalize hG:Array.push (Array.push (Array.push H _) _) _=G
 have hx:Ext H G:=by rw [← hG];exact (Ext.refl H).push.push.push
 have b0:a0f.blk G H.size=.row false a0d [.bool a.1.1,s,.bool a.2.1,u]:=by rw [← hG];simp
 have b1:a0f.blk G (H.size + 1)=.row false a0d [.bool b.1.1,s',.bool b.2.1,u']:=by rw [← hG];simp
 have b2:a0f.blk G (H.size + 2)=.row false a0d [.bool false,.slice none 0 0,.bool false,.slice none 0 0]:=by rw [← hG];simp
 clear hG
 replace k0:=k0.mono hx
 replace k1:=k1.mono hx
 have sa:=b0U k0.ok.1 k0.ok.2
 have sb:=b0U k1.ok.1 k1.ok.2
 refine a0v ?_
 simp [K0D,h0,b0,b1]
 refine (b0H k0 (by have:=hx.1;omega) (by omega)).mono ?_
 rintro _ G2 ⟨⟨s1,s2,rfl,k2,k3⟩,hx2⟩
 replace b0:=hx2.blk b0;replace b1:=hx2.blk b1;replace b2:=hx2.blk b2;replace hx:=hx.trans hx2;replace k0:=k0.mono hx2;replace k1:=k1.mono hx2
 simp [h0,b1]
 refine (b0H k1 hx.1 (by omega)).mono ?_
 rintro _ G2 ⟨⟨s3,s4,rfl,k4,k5⟩,hx2⟩
 replace b0:=hx2.blk b0;replace b1:=hx2.blk b1;replace b2:=hx2.blk b2;replace hx:=hx.trans hx2;replace k0:=k0.mono hx2;replace k1:=k1.mono hx2;replace k2:=k2.mono hx2;replace k3:=k3.mono hx2
 clear k0 k1
 have hz0:=a0k b0
 simp [h0,b0,k2.cells,k2.plain,k3.cells,k3.plain,hz0]
 generalize hS:Array.setIfInBounds _ _ _=G3
 have hsz:=hx.1;replace k2:=k2.setS hS b0 (by decide);replace k3:=k3.setS hS b0 (by decide);replace k4:=k4.setS hS b0 (by decide);replace k5:=k5.setS hS b0 (by decide);replace b1:=a0F hS b1 (by omega);replace b2:=a0F hS b2 (by omega);replace hx:=b0x hS hx (by omega);replace b0:=a0C hS b0;clear hS hsz
 have hz0:=a0k b1
 simp [b1,k4.cells,k4.plain,k5.cells,k5.plain,hz0]
 generalize hS:Array.setIfInBounds _ _ _=G3
 have hsz:=hx.1;replace k2:=k2.setS hS b1 (by decide);replace k3:=k3.setS hS b1 (by decide);replace k4:=k4.setS hS b1 (by decide);replace k5:=k5.setS hS b1 (by decide);replace b0:=a0F hS b0 (by omega);replace b2:=a0F hS b2 (by omega);replace hx:=b0x hS hx (by omega);replace b1:=a0C hS b1;clear hS hsz
 obtain ⟨x,hxv⟩:∃ x,x=b0O a:=⟨_,rfl⟩
 obtain ⟨y,hyv⟩:∃ y,y=b0O b:=⟨_,rfl⟩
 rw [← hxv] at sa k2 k3 b0 ⊢
 rw [← hyv] at sb k4 k5 b1 ⊢
 have k0:b0q _ (.agg #[.bool (a0e x).1.1,s1]) (a0n x.num):=⟨s1,rfl,k2⟩
 have k1:b0q _ (.agg #[.bool (a0e x).2.1,s2]) (a0n x.den):=⟨s2,rfl,k3⟩
 have k6:b0q _ (.agg #[.bool (a0e y).1.1,s3]) (a0n y.num):=⟨s3,rfl,k4⟩
 have k7:b0q _ (.agg #[.bool (a0e y).2.1,s4]) (a0n y.den):=⟨s4,rfl,k5⟩
 have l1:=e0d x
 have l2:=e0W x
 have l3:=e0d y
 have l4:=e0W y
 clear hs hu hs' hu' k2 k3 k4 k5
 refine a0v ?_
 simp [K0E,h0,b0,b1]
 refine (b0j k0 k7 (by have:=hx.1;omega) (by rw [a0j];omega) (by rw [a0j];omega)).mono ?_
 rintro _ G2 ⟨k2,hx2⟩
 replace b0:=hx2.blk b0;replace b1:=hx2.blk b1;replace b2:=hx2.blk b2;replace hx:=hx.trans hx2;replace k1:=k1.mono hx2;replace k6:=k6.mono hx2;replace k7:=k7.mono hx2
 rw [a0i,a0i] at k2
 simp [h0,b0,b1]
 refine (b0j k6 k1 (by have:=hx.1;omega) (by rw [a0j];omega) (by rw [a0j];omega)).mono ?_
 rintro _ G2 ⟨k3,hx2⟩
 replace b0:=hx2.blk b0;replace b1:=hx2.blk b1;replace b2:=hx2.blk b2;replace hx:=hx.trans hx2;replace k1:=k1.mono hx2;replace k2:=k2.mono hx2;replace k6:=k6.mono hx2;replace k7:=k7.mono hx2
 rw [a0i,a0i] at k3
 obtain ⟨s5,hk3,k3'⟩:=k3
 subst hk3
 simp [h0,k3'.cells]
 generalize hN:Array.push _ _=G3
 obtain ⟨hx2,b3⟩:=k0C hN
 have hGs:G3.size=G2.size + 1:=by rw [← hN];simp
 clear hN
 have k3:b0q G2 (.agg #[.bool (a0n (y.num * x.den)).1,s5]) (a0n (y.num * x.den)):=⟨s5,rfl,k3'⟩
 replace b0:=hx2.blk b0;replace b1:=hx2.blk b1;replace b2:=hx2.blk b2;replace hx:=hx.trans hx2;replace k1:=k1.mono hx2;replace k2:=k2.mono hx2;replace k3:=k3.mono hx2;replace k6:=k6.mono hx2;replace k7:=k7.mono hx2
 have m1:=c0F x.num y.den
 have m2:=c0F y.num x.den
 refine (i0u k2 k3 (by simpa using b3) (by have:=hx.1;omega) (by rw [a0j];omega) (by rw [a0j];omega)).mono ?_
 rintro _ G2 ⟨k4,hx2⟩
 replace b0:=hx2.blk b0;replace b1:=hx2.blk b1;replace b2:=hx2.blk b2;replace hx:=hx.trans hx2;replace k1:=k1.mono hx2;replace k6:=k6.mono hx2;replace k7:=k7.mono hx2
 rw [a0i,a0i] at k4
 simp [h0,b0,b1]
 refine (b0j k1 k7 hx.1 (by rw [a0j];omega) (by rw [a0j];omega)).mono ?_
 rintro _ G2 ⟨k5,hx2⟩
 replace b2:=hx2.blk b2;replace hx:=hx.trans hx2;replace k4:=k4.mono hx2;replace k6:=k6.mono hx2;replace k7:=k7.mono hx2
 rw [a0i,a0i] at k5
 simp [h0]
 have m3:=o0e (x.num * y.den) (y.num * x.den)
 have m4:=c0F (x.den:Int) y.den
 refine (g0I k4 k5 hx.1 (by rw [a0j];omega) (by rw [a0j];omega) (by rw [a0i];have:=x.den_nz;have:=y.den_nz;exact Int.mul_ne_zero (by omega) (by omega))).mono ?_
 rintro _ G2 ⟨⟨s6,s7,rfl,k6,k7⟩,hx2⟩
 replace b2:=hx2.blk b2;replace hx:=hx.trans hx2
 rw [a0i,a0i,← k0V] at k6 k7 ⊢
 have hz:=a0k b2
 simp [h0,b2,k6.cells,k6.plain,k7.cells,k7.plain,hz]
 exact fun _=>⟨s6,s7,rfl,k6.setT b2 (by decide),k7.setT b2 (by decide)⟩
theorem e0b (h:b0X H v a) (k:b0X H w b) (hf:fl≤H.size) (hn:f0z a < 67108864) (hm:f0z b < 67108864) :
  a0P env fl G0a [v,w] H (fun r H'=>b0X H' r (a0e (b0O a * b0O b))∧Ext H H') R:=by
 have k0:=h
 have k1:=k
 obtain ⟨s,u,rfl,hs,hu⟩:=h
 obtain ⟨s',u',rfl,hs',hu'⟩:=k
 refine a0l X0h hf (h:=?_)
 intro ρ h0
 simp [T0w,M0c,h0]
 generalize hG:Array.push (Array.push (Array.push H _) _) _=G
 have hx:Ext H G:=by rw [← hG];exact (Ext.refl H).push.push.push
 have b0:a0f.blk G H.size=.row false a0d [.bool a.1.1,s,.bool a.2.1,u]:=by rw [← hG];simp
 have b1:a0f.blk G (H.size + 1)=.row false a0d [.bool b.1.1,s',.bool b.2.1,u']:=by rw [← hG];simp
 have b2:a0f.blk G (H.size + 2)=.row false a0d [.bool false,.slice none 0 0,.bool false,.slice none 0 0]:=by rw [← hG];simp
 clear hG
 replace k0:=k0.mono hx
 replace k1:=k1.mono hx
 have sa:=b0U k0.ok.1 k0.ok.2
 have sb:=b0U k1.ok.1 k1.ok.2
 refine a0v ?_
 simp [M0d,h0,b0,b1]
 refine (b0H k0 (by have:=hx.1;omega) (by omega)).mono ?_
 rintro _ G2 ⟨⟨s1,s2,rfl,k2,k3⟩,hx2⟩
 replace b0:=hx2.blk b0;replace b1:=hx2.blk b1;replace b2:=hx2.blk b2;replace hx:=hx.trans hx2;replace k0:=k0.mono hx2;replace k1:=k1.mono hx2
 simp [h0,b1]
 refine (b0H k1 hx.1 (by omega)).mono ?_
 rintro _ G2 ⟨⟨s3,s4,rfl,k4,k5⟩,hx2⟩
 replace b0:=hx2.blk b0;replace b1:=hx2.blk b1;replace b2:=hx2.blk b2;replace hx:=hx.trans hx2;replace k0:=k0.mono hx2;replace k1:=k1.mono hx2;replace k2:=k2.mono hx2;replace k3:=k3.mono hx2
 clear k0 k1
 have hz0:=a0k b0
 simp [h0,b0,k2.cells,k2.plain,k3.cells,k3.plain,hz0]
 generalize hS:Array.setIfInBounds _ _ _=G3
 have hsz:=hx.1;replace k2:=k2.setS hS b0 (by decide);replace k3:=k3.setS hS b0 (by decide);replace k4:=k4.setS hS b0 (by decide);replace k5:=k5.setS hS b0 (by decide);replace b1:=a0F hS b1 (by omega);replace b2:=a0F hS b2 (by omega);replace hx:=b0x hS hx (by omega);replace b0:=a0C hS b0;clear hS hsz
 have hz0:=a0k b1
 simp [b1,k4.cells,k4.plain,k5.cells,k5.plain,hz0]
 generalize hS:Array.setIfInBounds _ _ _=G3
 have hsz:=hx.1;replace k2:=k2.setS hS b1 (by decide);replace k3:=k3.setS hS b1 (by decide);replace k4:=k4.setS hS b1 (by decide);replace k5:=k5.setS hS b1 (by decide);replace b0:=a0F hS b0 (by omega);replace b2:=a0F hS b2 (by omega);replace hx:=b0x hS hx (by omega);replace b1:=a0C hS b1;clear hS hsz
 obtain ⟨x,hxv⟩:∃ x,x=b0O a:=⟨_,rfl⟩
 obtain ⟨y,hyv⟩:∃ y,y=b0O b:=⟨_,rfl⟩
 rw [← hxv] at sa k2 k3 b0 ⊢
 rw [← hyv] at sb k4 k5 b1 ⊢
 have k0:b0q _ (.agg #[.bool (a0e x).1.1,s1]) (a0n x.num):=⟨s1,rfl,k2⟩
 have k1:b0q _ (.agg #[.bool (a0e x).2.1,s2]) (a0n x.den):=⟨s2,rfl,k3⟩
 have k6:b0q _ (.agg #[.bool (a0e y).1.1,s3]) (a0n y.num):=⟨s3,rfl,k4⟩
 have k7:b0q _ (.agg #[.bool (a0e y).2.1,s4]) (a0n y.den):=⟨s4,rfl,k5⟩
 have l1:=e0d x
 have l2:=e0W x
 have l3:=e0d y
 have l4:=e0W y
 clear hs hu hs' hu' k2 k3 k4 k5
 refine a0v ?_
 simp [M0e,h0,b0,b1]
 refine (b0j k0 k6 (by have:=hx.1;omega) (by rw [a0j];omega) (by rw [a0j];omega)).mono ?_
 rintro _ G2 ⟨k2,hx2⟩
 replace b0:=hx2.blk b0;replace b1:=hx2.blk b1;replace b2:=hx2.blk b2;replace hx:=hx.trans hx2;replace k1:=k1.mono hx2;replace k6:=k6.mono hx2;replace k7:=k7.mono hx2
 rw [a0i,a0i] at k2
 simp [h0,b0,b1]
 refine (b0j k1 k7 hx.1 (by rw [a0j];omega) (by rw [a0j];omega)).mono ?_
 rintro _ G2 ⟨k5,hx2⟩
 replace b2:=hx2.blk b2;replace hx:=hx.trans hx2;replace k2:=k2.mono hx2;replace k6:=k6.mono hx2;replace k7:=k7.mono hx2
 rw [a0i,a0i] at k5
 simp [h0]
 have m3:=c0F x.num y.num
 have m4:=c0F (x.den:Int) y.den
 refine (g0I k2 k5 hx.1 (by rw [a0j];omega) (by rw [a0j];omega) (by rw [a0i];have:=x.den_nz;have:=y.den_nz;exact Int.mul_ne_zero (by omega) (by omega))).mono ?_
 rintro _ G2 ⟨⟨s6,s7,rfl,k6,k7⟩,hx2⟩
 replace b2:=hx2.blk b2;replace hx:=hx.trans hx2
 rw [a0i,a0i,← l0n] at k6 k7 ⊢
 have hz:=a0k b2
 simp [h0,b2,k6.cells,k6.plain,k7.cells,k7.plain,hz]
 exact fun _=>⟨s6,s7,rfl,k6.setT b2 (by decide),k7.setT b2 (by decide)⟩
theorem o0x (h:b0X H v a) (k:b0X H w b) (hf:fl≤H.size) (hn:f0z a < 67108864) (hm:f0z b < 67108864) :
  a0P env fl Q0U [v,w] H (fun r H'=>r=.int .i64 (Q0x (b0O a) (b0O b))∧Ext H H') R:=by
 have k0:=h
 have k1:=k
 obtain ⟨s,u,rfl,hs,hu⟩:=h
 obtain ⟨s',u',rfl,hs',hu'⟩:=k
 refine a0l X0j hf (h:=?_)
 intro ρ h0
 simp [T0y,M0k,h0]
 generalize hG:Array.push (Array.push H _) _=G
 have hx:Ext H G:=by rw [← hG];exact (Ext.refl H).push.push
 have b0:a0f.blk G H.size=.row false a0d [.bool a.1.1,s,.bool a.2.1,u]:=by rw [← hG];simp
 have b1:a0f.blk G (H.size + 1)=.row false a0d [.bool b.1.1,s',.bool b.2.1,u']:=by rw [← hG];simp
 clear hG
 replace k0:=k0.mono hx
 replace k1:=k1.mono hx
 have sa:=b0U k0.ok.1 k0.ok.2
 have sb:=b0U k1.ok.1 k1.ok.2
 refine a0v ?_
 simp [M0l,h0,b0,b1]
 refine (b0H k0 (by have:=hx.1;omega) (by omega)).mono ?_
 rintro _ G2 ⟨⟨s1,s2,rfl,k2,k3⟩,hx2⟩
 replace b0:=hx2.blk b0;replace b1:=hx2.blk b1;replace hx:=hx.trans hx2;replace k0:=k0.mono hx2;replace k1:=k1.mono hx2
 simp [h0,b1]
 refine (b0H k1 hx.1 (by omega)).mono ?_
 rintro _ G2 ⟨⟨s3,s4,rfl,k4,k5⟩,hx2⟩
 replace b0:=hx2.blk b0;replace b1:=hx2.blk b1;replace hx:=hx.trans hx2;replace k0:=k0.mono hx2;replace k1:=k1.mono hx2;replace k2:=k2.mono hx2;replace k3:=k3.mono hx2
 clear k0 k1
 have hz0:=a0k b0
 simp [h0,b0,k2.cells,k2.plain,k3.cells,k3.plain,hz0]
 generalize hS:Array.setIfInBounds _ _ _=G3
 have hsz:=hx.1;replace k2:=k2.setS hS b0 (by decide);replace k3:=k3.setS hS b0 (by decide);replace k4:=k4.setS hS b0 (by decide);replace k5:=k5.setS hS b0 (by decide);replace b1:=a0F hS b1 (by omega);replace hx:=b0x hS hx (by omega);replace b0:=a0C hS b0;clear hS hsz
 have hz0:=a0k b1
 simp [b1,k4.cells,k4.plain,k5.cells,k5.plain,hz0]
 generalize hS:Array.setIfInBounds _ _ _=G3
 have hsz:=hx.1;replace k2:=k2.setS hS b1 (by decide);replace k3:=k3.setS hS b1 (by decide);replace k4:=k4.setS hS b1 (by decide);replace k5:=k5.setS hS b1 (by decide);replace b0:=a0F hS b0 (by omega);replace hx:=b0x hS hx (by omega);replace b1:=a0C hS b1;clear hS hsz
 obtain ⟨x,hxv⟩:∃ x,x=b0O a:=⟨_,rfl⟩
 obtain ⟨y,hyv⟩:∃ y,y=b0O b:=⟨_,rfl⟩
 rw [← hxv] at sa k2 k3 b0 ⊢
 rw [← hyv] at sb k4 k5 b1 ⊢
 have k0:b0q _ (.agg #[.bool (a0e x).1.1,s1]) (a0n x.num):=⟨s1,rfl,k2⟩
 have k1:b0q _ (.agg #[.bool (a0e x).2.1,s2]) (a0n x.den):=⟨s2,rfl,k3⟩
 have k6:b0q _ (.agg #[.bool (a0e y).1.1,s3]) (a0n y.num):=⟨s3,rfl,k4⟩
 have k7:b0q _ (.agg #[.bool (a0e y).2.1,s4]) (a0n y.den):=⟨s4,rfl,k5⟩
 have l1:=e0d x
 have l2:=e0W x
 have l3:=e0d y
 have l4:=e0W y
 clear hs hu hs' hu' k2 k3 k4 k5
 refine a0v ?_
 simp [M0m,h0,b0,b1]
 refine (b0j k0 k7 (by have:=hx.1;omega) (by rw [a0j];omega) (by rw [a0j];omega)).mono ?_
 rintro _ G2 ⟨k2,hx2⟩
 replace b0:=hx2.blk b0;replace b1:=hx2.blk b1;replace hx:=hx.trans hx2;replace k1:=k1.mono hx2;replace k6:=k6.mono hx2
 rw [a0i,a0i] at k2
 simp [h0,b0,b1]
 refine (b0j k6 k1 hx.1 (by rw [a0j];omega) (by rw [a0j];omega)).mono ?_
 rintro _ G2 ⟨k5,hx2⟩
 replace hx:=hx.trans hx2;replace k2:=k2.mono hx2
 rw [a0i,a0i] at k5
 simp [h0]
 have m3:=c0F x.num y.den
 have m4:=c0F y.num x.den
 refine (c0M k2 k5 hx.1 (by rw [a0j];omega) (by rw [a0j];omega)).mono ?_
 rintro _ G2 ⟨rfl,hx2⟩
 rw [a0i,a0i,N0e]
 simp
theorem c0p {n:Int} (hf:fl≤H.size) (h1:-9223372036854775808≤n) (h2:n < 9223372036854775808) :
  a0P env fl l0Y [.int .i64 n] H (fun r H'=>b0X H' r (a0e (n:Rat))∧Ext H H') R:=by
 refine a0l X0g hf (h:=?_)
 intro ρ h0
 simp [T0v,M0a,M0b,h0]
 have hx:=(Ext.refl H).push (r:=.row false a0d [.bool false,.slice none 0 0,.bool false,.slice none 0 0])
 have b2:a0f.blk (Array.push H (.row false a0d [.bool false,.slice none 0 0,.bool false,.slice none 0 0])) H.size=_:=a0y
 generalize Array.push H _=G at *
 refine (c0i hx.1 h1 h2).mono ?_
 rintro _ G2 ⟨⟨s1,rfl,k2⟩,hx2⟩
 replace b2:=hx2.blk b2;replace hx:=hx.trans hx2
 simp [h0]
 refine (e0M hx.1).mono ?_
 rintro _ G2 ⟨⟨s2,rfl,k3⟩,hx2⟩
 replace b2:=hx2.blk b2;replace hx:=hx.trans hx2;replace k2:=k2.mono hx2
 have hz:=a0k b2
 simp [h0,b2,k2.cells,k2.plain,k3.cells,k3.plain,hz]
 refine fun _=>⟨s1,s2,?_,?_,?_⟩
 ·unfold a0e;rw [Rat.num_intCast,Rat.den_intCast];rfl
 ·unfold a0e;rw [Rat.num_intCast];exact k2.setT b2 (by decide)
 ·unfold a0e;rw [Rat.den_intCast];exact k3.setT b2 (by decide)
end
/- ext: none, May, Of, right, Cmp, best, Max, Min. -/
section
open Go
set_option maxHeartbeats 4000000
variable {fl:Nat} {H G:a0f} {R:a0A} {v w:Value} {a b:b0R}
abbrev e0f:=Int × b0R
def h0e (H:a0f) (v:Value) (e:e0f):Prop:=∃ s u,v=.agg #[.int .i64 e.1,.bool e.2.1.1,s,.bool e.2.2.1,u]∧Lim H s e.2.1.2∧Lim H u e.2.2.2
variable {e f:e0f}
theorem h0e.mono (h:h0e H v e) (hx:Ext H G):h0e G v e:=by obtain ⟨s,u,h1,h2,h3⟩:=h;exact ⟨s,u,h1,h2.mono hx,h3.mono hx⟩
theorem h0e.setT (h:h0e H v e) {p:Nat} {ro:Bool} {e':TypeId} {cs':List Value} {r:Blk} (hb:H.blk p=.row ro e' cs') (hne:e' ≠ a0m):h0e (H.setIfInBounds p r) v e:=by
 obtain ⟨s,u,h1,h2,h3⟩:=h;exact ⟨s,u,h1,h2.setT hb hne,h3.setT hb hne⟩
theorem h0e.setS {G3:a0f} {q:Nat} {X:Blk} {ro:Bool} {e':TypeId} {cs:List Value} (k:h0e H v e) (hS:Array.setIfInBounds H q X=G3) (hb:a0f.blk H q=.row ro e' cs) (hne:e' ≠ a0m):h0e G3 v e:=by rw [← hS];exact k.setT hb hne
theorem h0e.ok (h:h0e H v e):b0D e.2.1.2∧b0D e.2.2.2:=by obtain ⟨s,u,_,h2,h3⟩:=h;exact ⟨h2.ok,h3.ok⟩
def v0i (e:e0f):Bool:=if e.1 = -1 ∨ e.1=1 then f0g e.2 else if e.1=0 then r0D e.2 else false
def o0O (e:e0f):Int × Rat:=if v0i e then (if e.1=0 then (0,b0O e.2) else (e.1,0)) else (0,0)
def d0m (x:Int × Rat):e0f:=if x.1=0 then (0,a0e x.2) else (x.1,((false,[]),(false,[])))
def F0C (x y:Int × Rat):Int:=if x.1 < y.1 then -1 else if x.1 > y.1 then 1 else if x.1 ≠ 0 then 0 else Q0x x.2 y.2
def e0B:b0R:=((false,[]),(false,[]))
theorem v0g:f0g e0B=true:=rfl
theorem e0c:b0O e0B=0:=by unfold b0O;rw [v0g];rfl
theorem e0t:b0X H (.agg #[.bool false,.slice none 0 0,.bool false,.slice none 0 0]) e0B:=⟨_,_,rfl,Lim.nil,Lim.nil⟩
theorem h0n (h:b0X H v a) (hf:fl≤H.size):a0P env fl Q0W [v] H (fun r H'=>r=.bool (f0g a)∧Ext H H') R:=by
 obtain ⟨s,u,rfl,hs,hu⟩:=h
 refine a0l X0m hf (h:=?_)
 intro ρ h0
 simp [T0B,M0x,h0]
 have hsl:=hs.slen
 have hul:=hu.slen
 cases h1:a.1.1
 ·by_cases h2:a.1.2=[]
  ·cases h3:a.2.1
   ·simp [o0w,h0,h1,h2,h3,hsl,hul,f0g]
   ·simp [o0w,h0,h1,h2,h3,hsl,hul,f0g]
  ·simp [o0w,h0,h1,h2,hsl,hul,f0g]
 ·simp [o0w,h0,h1,hsl,hul,f0g]
theorem i0F (h:h0e H v e) (hf:fl≤H.size) (hn:f0z e.2 < 67108864):a0P env fl P0y [v] H (fun r H'=>r=.bool (v0i e)∧Ext H H') R:=by
 obtain ⟨s,u,rfl,hs,hu⟩:=h
 have k0:b0X H (.agg #[.bool e.2.1.1,s,.bool e.2.2.1,u]) e.2:=⟨s,u,rfl,hs,hu⟩
 refine a0l W0W hf (h:=?_)
 intro ρ h0
 simp [T0l,L0c,L0d,L0e,h0]
 generalize hG:Array.push H _=G
 obtain ⟨hx2,b0⟩:=k0C hG
 have hx:=Ext.refl H
 clear hG
 replace hx:=hx.trans hx2;replace k0:=k0.mono hx2
 unfold v0i
 by_cases h1:e.1 = -1
 ·simp [h1,E0H,h0,b0]
  refine (h0n k0 hx.1).mono ?_
  rintro _ G2 ⟨rfl,hx2⟩
  simp
 ·by_cases h2:e.1=1
  ·simp [h2,t0B,E0H,h0,b0]
   refine (h0n k0 hx.1).mono ?_
   rintro _ G2 ⟨rfl,hx2⟩
   simp
  ·by_cases h3:e.1=0
   ·simp [h3,t0B,E0I,L0f,h0,b0]
    refine (g0d k0 hx.1 (by omega)).mono ?_
    rintro _ G2 ⟨rfl,hx2⟩
    simp
   ·simp [h1,h2,h3,t0B,E0I,L0g,h0,b0]
theorem g0P (h:b0X H v a) (hf:fl≤H.size) (hn:f0z a < 67108864):a0P env fl N0n [v] H (fun r H'=>h0e H' r (0,a0e (b0O a))∧Ext H H') R:=by
 have k0:=h
 obtain ⟨s,u,rfl,hs,hu⟩:=h
 refine a0l W0S hf (h:=?_)
 intro ρ h0
 simp [T0h,K0S,K0T,h0]
 generalize hG:Array.push (Array.push H _) _=G
 have hx2:Ext H G:=by rw [← hG];exact (Ext.refl H).push.push
 have b0:a0f.blk G H.size=.row false a0d [.bool a.1.1,s,.bool a.2.1,u]:=by rw [← hG];simp
 have b1:a0f.blk G (H.size + 1)=.row false b0m [.int .i64 0,.bool false,.slice none 0 0,.bool false,.slice none 0 0]:=by rw [← hG];simp
 have hx:=Ext.refl H
 clear hG
 replace hx:=hx.trans hx2;replace k0:=k0.mono hx2
 try simp [b0]
 refine (b0K k0 (b:=e0B) e0t hx.1 hn (by decide)).mono ?_
 rintro _ G2 ⟨⟨s1,s2,rfl,k2,k3⟩,hx2⟩
 replace b1:=hx2.blk b1;replace hx:=hx.trans hx2
 rw [e0c,Rat.add_zero] at k2 k3 ⊢
 have hz:=a0k b1
 simp [h0,b1,k2.cells,k2.plain,k3.cells,k3.plain,hz]
 exact fun _=>⟨s1,s2,rfl,k2.setT b1 (by decide),k3.setT b1 (by decide)⟩
theorem g0E (h:h0e H v e) (hf:fl≤H.size) (hn:f0z e.2 < 67108864):a0P env fl P0A [v] H (fun r H'=>h0e H' r (d0m (o0O e))∧Ext H H') R:=by
 have k0:=h
 obtain ⟨s,u,rfl,hs,hu⟩:=h
 have k1:b0X H (.agg #[.bool e.2.1.1,s,.bool e.2.2.1,u]) e.2:=⟨s,u,rfl,hs,hu⟩
 refine a0l X0i hf (h:=?_)
 intro ρ h0
 simp [T0x,M0f,h0]
 generalize hG:Array.push (Array.push H _) _=G
 have hx2:Ext H G:=by rw [← hG];exact (Ext.refl H).push.push
 have b0:a0f.blk G H.size=.row false b0m [.int .i64 e.1,.bool e.2.1.1,s,.bool e.2.2.1,u]:=by rw [← hG];simp
 have b1:a0f.blk G (H.size + 1)=.row false b0m [.int .i64 0,.bool false,.slice none 0 0,.bool false,.slice none 0 0]:=by rw [← hG];simp
 have hx:=Ext.refl H
 clear hG
 replace hx:=hx.trans hx2;replace k0:=k0.mono hx2;replace k1:=k1.mono hx2
 simp [M0g,h0,b0]
 refine (i0F k0 hx.1 hn).mono ?_
 rintro _ G2 ⟨rfl,hx2⟩
 replace b0:=hx2.blk b0;replace b1:=hx2.blk b1;replace hx:=hx.trans hx2;replace k1:=k1.mono hx2
 unfold o0O
 cases hm:v0i e
 ·simp [M0h,h0]
  refine (g0P (a:=e0B) e0t hx.1 (by decide)).mono ?_
  rintro _ G2 ⟨⟨s1,s2,rfl,k2,k3⟩,hx2⟩
  replace b0:=hx2.blk b0;replace b1:=hx2.blk b1;replace hx:=hx.trans hx2;replace k1:=k1.mono hx2
  rw [e0c] at k2 k3 ⊢
  have hz:=a0k b1
  simp [h0,b1,k2.cells,k2.plain,k3.cells,k3.plain,hz,d0m]
  exact fun _=>⟨s1,s2,rfl,k2.setT b1 (by decide),k3.setT b1 (by decide)⟩
 ·by_cases h3:e.1=0
  ·simp [h3,E0X,M0i,h0,b0]
   refine (g0P k1 hx.1 hn).mono ?_
   rintro _ G2 ⟨⟨s1,s2,rfl,k2,k3⟩,hx2⟩
   replace b0:=hx2.blk b0;replace b1:=hx2.blk b1;replace hx:=hx.trans hx2
   have hz:=a0k b1
   simp [h0,b1,k2.cells,k2.plain,k3.cells,k3.plain,hz,d0m]
   exact fun _=>⟨s1,s2,rfl,k2.setT b1 (by decide),k3.setT b1 (by decide)⟩
  ·have hz:=a0k b1
   simp [h3,E0X,M0j,h0,b0,b1,hz,d0m]
   exact fun _=>⟨_,_,rfl,Lim.nil,Lim.nil⟩
theorem o0a (h:h0e H v e):f0z (d0m (o0O e)).2≤max (f0z e.2) 1:=by
 unfold o0O d0m
 have h1:=b0U h.ok.1 h.ok.2
 by_cases hm:v0i e=true
 ·by_cases h0:e.1=0
  ·simp [hm,h0,a0x];omega
  ·simp [hm,h0,f0z]
 ·simp [hm,a0x,g0u];omega
theorem n0H (h:h0e H v e) (k:h0e H w f) (hf:fl≤H.size) (hn:f0z e.2 < 67108864) (hm:f0z f.2 < 67108864):a0P env fl Q0M [v,w] H (fun r H'=>r=.int .i64 (F0C (o0O e) (o0O f))∧Ext H H') R:=by
 have k0:=h
 have k1:=k
 have l1:=o0a h
 have l2:=o0a k
 obtain ⟨s,u,rfl,hs,hu⟩:=h
 obtain ⟨s',u',rfl,hs',hu'⟩:=k
 refine a0l W0R hf (h:=?_)
 intro ρ h0
 simp [T0g,K0L,h0]
 generalize hG:Array.push (Array.push H _) _=G
 have hx2:Ext H G:=by rw [← hG];exact (Ext.refl H).push.push
 have b0:a0f.blk G H.size=.row false b0m [.int .i64 e.1,.bool e.2.1.1,s,.bool e.2.2.1,u]:=by rw [← hG];simp
 have b1:a0f.blk G (H.size + 1)=.row false b0m [.int .i64 f.1,.bool f.2.1.1,s',.bool f.2.2.1,u']:=by rw [← hG];simp
 have hx:=Ext.refl H
 clear hG
 replace hx:=hx.trans hx2;replace k0:=k0.mono hx2;replace k1:=k1.mono hx2
 refine a0v ?_
 simp [K0M,h0,b0]
 refine (g0E k0 (by have:=hx.1;omega) hn).mono ?_
 rintro _ G2 ⟨⟨s1,s2,rfl,k2,k3⟩,hx2⟩
 replace b0:=hx2.blk b0;replace b1:=hx2.blk b1;replace hx:=hx.trans hx2;replace k0:=k0.mono hx2;replace k1:=k1.mono hx2
 simp [h0,b1]
 refine (g0E k1 hx.1 hm).mono ?_
 rintro _ G2 ⟨⟨s3,s4,rfl,k4,k5⟩,hx2⟩
 replace b0:=hx2.blk b0;replace b1:=hx2.blk b1;replace hx:=hx.trans hx2;replace k0:=k0.mono hx2;replace k1:=k1.mono hx2;replace k2:=k2.mono hx2;replace k3:=k3.mono hx2
 clear k0 k1
 have hz0:=a0k b0
 simp [h0,b0,k2.cells,k2.plain,k3.cells,k3.plain,hz0]
 generalize hS:Array.setIfInBounds _ _ _=G3
 have hsz:=hx.1;replace k2:=k2.setS hS b0 (by decide);replace k3:=k3.setS hS b0 (by decide);replace k4:=k4.setS hS b0 (by decide);replace k5:=k5.setS hS b0 (by decide);replace b1:=a0F hS b1 (by omega);replace hx:=b0x hS hx (by omega);replace b0:=a0C hS b0;clear hS hsz
 have hz0:=a0k b1
 simp [b1,k4.cells,k4.plain,k5.cells,k5.plain,hz0]
 generalize hS:Array.setIfInBounds _ _ _=G3
 have hsz:=hx.1;replace k2:=k2.setS hS b1 (by decide);replace k3:=k3.setS hS b1 (by decide);replace k4:=k4.setS hS b1 (by decide);replace k5:=k5.setS hS b1 (by decide);replace b0:=a0F hS b0 (by omega);replace hx:=b0x hS hx (by omega);replace b1:=a0C hS b1;clear hS hsz
 obtain ⟨x,hxv⟩:∃ x,x=o0O e:=⟨_,rfl⟩
 obtain ⟨y,hyv⟩:∃ y,y=o0O f:=⟨_,rfl⟩
 rw [← hxv] at l1 k2 k3 b0 ⊢
 rw [← hyv] at l2 k4 k5 b1 ⊢
 have kx:(d0m x).1=x.1:=by unfold d0m;split <;> simp_all
 have ky:(d0m y).1=y.1:=by unfold d0m;split <;> simp_all
 rw [kx] at b0
 rw [ky] at b1
 unfold F0C
 simp [K0N,h0,b0,b1]
 by_cases h1:x.1 < y.1
 ·have h1':¬ y.1≤x.1:=by omega
  simp [h1,h1',K0O]
 ·by_cases h2:y.1 < x.1
  ·have h2':¬ x.1≤y.1:=by omega
   have h1':y.1≤x.1:=by omega
   simp [h1,h1',h2,h2',t0z,K0P,h0,b0,b1]
  ·by_cases h3:x.1=0
   ·have h4:y.1=0:=by omega
    have kr:b0X _ (.agg #[.bool (d0m x).2.1.1,s1,.bool (d0m x).2.2.1,s2]) (d0m x).2:=⟨s1,s2,rfl,k2,k3⟩
    have kq:b0X _ (.agg #[.bool (d0m y).2.1.1,s3,.bool (d0m y).2.2.1,s4]) (d0m y).2:=⟨s3,s4,rfl,k4,k5⟩
    simp [h1,h2,h3,h4,t0z,E0A,K0R,h0,b0,b1]
    refine (o0x kr kq hx.1 (by omega) (by omega)).mono ?_
    rintro _ G2 ⟨rfl,hx2⟩
    have e1:b0O (d0m x).2=x.2:=by unfold d0m;rw [if_pos h3];exact a0w _
    have e2:b0O (d0m y).2=y.2:=by unfold d0m;rw [if_pos h4];exact a0w _
    simp [e1,e2]
   ·have h4:y.1 ≠ 0:=by omega
    simp [h1,h2,h3,h4,t0z,E0A,K0Q,h0,b0,b1]
end
/- Loops that count; slices of what has a shape. -/
section
open Go
def w0t (b2 b:Nat) (A:a0W→a0f→Prop) (Z:a0W→a0f→Prop) (Q:d0V):d0V
 | .normal,t,H=>A t H
 | .exit j,t,H=>if j=b2 then A t H else if j=b then Z t H else Q (.exit j) t H
 | .ret,t,H=>Q .ret t H
section
variable {b2 b:Nat} {A Z:a0W→a0f→Prop} {Q:d0V} {t:a0W} {H:a0f}
@[simp] theorem N0t:w0t b2 b A Z Q .normal t H=A t H:=nr rfl
@[simp] theorem Q0Z {j:Nat}:w0t b2 b A Z Q (.exit j) t H=if j=b2 then A t H else if j=b then Z t H else Q (.exit j) t H:=nr rfl
@[simp] theorem S0K:w0t b2 b A Z Q .ret t H=Q .ret t H:=nr rfl
end
def Rnd (nt ti tn n i:Nat) (Inv:Nat→(Nat→Value)→a0f→Prop) (t:a0W) (H:a0f):Prop :=
 ∃ ρ,t=T nt ρ∧ρ ti=.int .i64 (i:Int)∧ρ tn=.int .i64 (n:Int)∧Inv (i + 1) ρ H
theorem Rnd.mk {nt ti tn n i:Nat} {Inv:Nat→(Nat→Value)→a0f→Prop} {ρ:Nat→Value} {H:a0f} (h1:ρ ti=.int .i64 (i:Int)) (h2:ρ tn=.int .i64 (n:Int)) (h3:Inv (i + 1) ρ H):Rnd nt ti tn n i Inv (T nt ρ) H:=⟨ρ,rfl,h1,h2,h3⟩
theorem c0h {E:Env} {fl nt ti tn tc tx b b2 n:Nat} {body:SCode} {Z:a0W→a0f→Prop} {Q:d0V} {R:a0A} {ρ:Nat→Value} {H:a0f} {rc rx:List a0G} (Inv:Nat→(Nat→Value)→a0f→Prop)
  (hrc:rc=[⟨some tc,none,.bin 0 .lss (.tmp ti) (.tmp tn)⟩]) (hrx:rx=[⟨some tx,none,.bin 0 .add (.tmp ti) (.const (.int .i64 1))⟩,⟨some ti,none,.mv (.tmp tx)⟩])
  (hl:ti < nt∧tn < nt∧tc < nt∧tx < nt∧tc ≠ ti∧tc ≠ tn∧tx ≠ ti∧tx ≠ tn∧ti ≠ tn) (hn:n < 4611686018427387904)
  (h0:ρ ti=.int .i64 0) (hN:ρ tn=.int .i64 (n:Int)) (hI:Inv 0 ρ H)
  (stab:∀ i (ρ ρ':Nat→Value) H,(∀ k,k ≠ tc→k ≠ tx→k ≠ ti→ρ' k=ρ k)→Inv i ρ H→Inv i ρ' H)
  (step:∀ i ρ H,i < n→ρ ti=.int .i64 (i:Int)→ρ tn=.int .i64 (n:Int)→Inv i ρ H→W E fl body (T nt ρ) H (w0t b2 b (Rnd nt ti tn n i Inv) Z Q) R)
  (rest:∀ ρ H,ρ ti=.int .i64 (n:Int)→ρ tn=.int .i64 (n:Int)→Inv n ρ H→Z (T nt ρ) H) :
  W E fl (.loop (.seq (.reg rc) (.seq (.cond (.tmp tc) .skip (.exit b)) (.seq (.block b2 body) (.reg rx))))) (T nt ρ) H (f0w b (h0P Z Q)) R:=by
 subst hrc hrx
 obtain ⟨l1,l2,l3,l4,n1,n2,n3,n4,n5⟩:=hl
 refine b0Y (fun k t G=>∃ i ρ,i + k=n∧t=T nt ρ∧ρ ti=.int .i64 (i:Int)∧ρ tn=.int .i64 (n:Int)∧Inv i ρ G) Z n ?_ ?_ (fun _ _ h=>h)
 ·exact ⟨0,ρ,by omega,rfl,h0,hN,hI⟩
 ·clear h0 hN hI ρ H
  rintro k t G ⟨i,ρ,hik,rfl,g1,g2,hI⟩
  have e9:IntKind.i64.wrap ((i:Int) + 1)=((i + 1:Nat):Int):=by rw [a0L (by omega) (by omega)];omega
  have hstab:∀ v,Inv i (upd ρ tc v) G:=fun v=>stab i ρ _ G (fun k h1 _ _=>h0S (Ne.symm h1)) hI
  refine h0Y (l0D ?_)
  simp only [o0T,v0y,l0d,b0Z l1,b0Z l2,g1,g2,F0S,w0J,v0x,g0h,N0F]
  by_cases hi:i < n
  ·have hs:=step i (upd ρ tc (.bool true)) G hi (by rw [h0S n1];exact g1) (by rw [h0S n2];exact g2) (hstab _)
   have hd:decide ((i:Int) < (n:Int))=true:=by rw [decide_eq_true_eq];omega
   rw [hd]
   refine h0Y (n0r true (by rw [l0d,b0Z l3,j0p]) (fun _=>v0D ?_) (by simp))
   refine h0Y (o0V ?_)
   have hfin:∀ t' H',Rnd nt ti tn n i Inv t' H'→WR E fl [⟨some tx,none,.bin 0 .add (.tmp ti) (.const (.int .i64 1))⟩,⟨some ti,none,.mv (.tmp tx)⟩] t' H' (fun t' H'=>∃ k',k' < k∧∃ i ρ,i + k' = n∧t' = T nt ρ∧ρ ti=.int .i64 (i:Int)∧ρ tn=.int .i64 (n:Int)∧Inv i ρ H') R:=by
    rintro t' H' ⟨ρ',rfl,q1,q2,q3⟩
    simp only [o0T,v0y,Q0c,l0d,F0Z,b0Z l1,q1,F0Q,e9,w0J,v0x,N0F,b0Z l4,j0p]
    refine ⟨k - 1,by omega,i + 1,_,by omega,rfl,j0p,?_,?_⟩
    ·rw [h0S n5,h0S n4];exact q2
    ·exact stab (i + 1) ρ' _ H' (fun k h1 h2 h3=>by rw [h0S (Ne.symm h3),h0S (Ne.symm h2)]) q3
   refine hs.mono fun e t' H' hq=>?_
   cases e with
   | normal=>exact l0D (hfin _ _ hq)
   | exit j =>
    simp only [w0t] at hq
    show (if j=b2 then _ else _)
    by_cases hj:j=b2
    ·rw [if_pos hj] at hq ⊢;exact l0D (hfin _ _ hq)
    ·rw [if_neg hj] at hq ⊢
     show (if j=b then _ else _)
     by_cases hj2:j=b
     ·rw [if_pos hj2] at hq ⊢;exact hq
     ·rw [if_neg hj2] at hq ⊢;exact hq
   | ret=>exact hq
  ·have:i=n:=by omega
   subst this
   have hd:decide ((i:Int) < (i:Int))=false:=by simp
   rw [hd]
   refine h0Y (n0r false (by rw [l0d,b0Z l3,j0p]) (by simp) (fun _=>v0B ?_))
   show (if b=b then _ else _)
   rw [if_pos rfl]
   exact rest _ _ (by rw [h0S n1];exact g1) (by rw [h0S n2];exact g2) (hstab _)
theorem l0u {Q:d0V}:h0P (fun t H=>Q .normal t H) Q=Q:=by
 funext e t H;cases e <;> rfl
theorem j0s {E:Env} {fl nt ti tn tc tx b b2 n:Nat} {body:SCode} {Q:d0V} {R:a0A} {ρ:Nat→Value} {H:a0f} {rc rx:List a0G} (Inv:Nat→(Nat→Value)→a0f→Prop)
  (hrc:rc=[⟨some tc,none,.bin 0 .lss (.tmp ti) (.tmp tn)⟩]) (hrx:rx=[⟨some tx,none,.bin 0 .add (.tmp ti) (.const (.int .i64 1))⟩,⟨some ti,none,.mv (.tmp tx)⟩])
  (hl:ti < nt∧tn < nt∧tc < nt∧tx < nt∧tc ≠ ti∧tc ≠ tn∧tx ≠ ti∧tx ≠ tn∧ti ≠ tn) (hn:n < 4611686018427387904)
  (h0:ρ ti=.int .i64 0) (hN:ρ tn=.int .i64 (n:Int)) (hI:Inv 0 ρ H)
  (stab:∀ i (ρ ρ':Nat→Value) H,(∀ k,k ≠ tc→k ≠ tx→k ≠ ti→ρ' k=ρ k)→Inv i ρ H→Inv i ρ' H)
  (step:∀ i ρ H,i < n→ρ ti=.int .i64 (i:Int)→ρ tn=.int .i64 (n:Int)→Inv i ρ H→W E fl body (T nt ρ) H (w0t b2 b (Rnd nt ti tn n i Inv) (fun t H=>Q .normal t H) Q) R)
  (rest:∀ ρ H,ρ ti=.int .i64 (n:Int)→ρ tn=.int .i64 (n:Int)→Inv n ρ H→Q .normal (T nt ρ) H) :
  W E fl (.loop (.seq (.reg rc) (.seq (.cond (.tmp tc) .skip (.exit b)) (.seq (.block b2 body) (.reg rx))))) (T nt ρ) H (f0w b Q) R:=by
 rw [← l0u (Q:=Q)]
 exact c0h (Z:=fun t H=>Q .normal t H) (Q:=Q) Inv hrc hrx hl hn h0 hN hI stab step rest
/-! ### slices of what has a shape -/
def Sls {α:Type} (P:a0f→List Value→α→Prop) (H:a0f) (e sz:Nat) (v:Value) (l:List α):Prop :=
 ∃ cs,Sl H e sz v l.length cs∧∀ k (h:k < l.length),P H ((cs.drop (k * sz)).take sz) l[k]
def i0Q {α:Type} (P:a0f→List Value→α→Prop):Prop:=∀ H G cs x,Ext H G→P H cs x→P G cs x
section
variable {α:Type} {P:a0f→List Value→α→Prop} {H G:a0f} {e sz:Nat} {v:Value} {l:List α}
theorem Sls.mono (hP:i0Q P) (h:Sls P H e sz v l) (hx:Ext H G):Sls P G e sz v l:=by
 obtain ⟨cs,h1,h2⟩:=h;exact ⟨cs,h1.mono hx,fun k hk=>hP _ _ _ _ hx (h2 k hk)⟩
theorem Sls.slen (h:Sls P H e sz v l):j0b v=some (.int .i64 l.length):=by obtain ⟨cs,h1,_⟩:=h;exact h1.slen
theorem Sls.ia (h:Sls P H e sz v l) {k:IntKind} {j:Nat} (hj:j < l.length):iaV sz v (.int k j)=some (adr sz v j):=by obtain ⟨cs,h1,_⟩:=h;exact h1.ia hj
theorem Sls.load (h:Sls P H e sz v l) {j:Nat} (hj:j < l.length) (hs:0 < sz):∃ cs,b0F H true sz (adr sz v j)=some (.agg cs.toArray)∧cs.length=sz∧P H cs l[j]:=by
 obtain ⟨cs,h1,h2⟩:=h
 refine ⟨_,h1.load (Ext.refl H) hj hs,?_,h2 j hj⟩
 have:=h1.1
 have:(j + 1) * sz≤l.length * sz:=Nat.mul_le_mul_right _ hj
 rw [Nat.add_mul,Nat.one_mul] at this
 simp;omega
theorem Sls.load1 (h:Sls P H e 1 v l) {j:Nat} (hj:j < l.length):∃ w,b0F H false 1 (adr 1 v j)=some w∧P H [w] l[j]:=by
 obtain ⟨cs,h1,h2⟩:=h
 refine ⟨_,h1.load1 (Ext.refl H) hj,?_⟩
 have h3:=h2 j hj
 have hl:=h1.1
 have:(cs.drop (j * 1)).take 1=[cs.getD j undef]:=by
  have hjc:j < cs.length:=by omega
  have e1:cs.getD j undef=cs[j]:=by simp [List.getD_eq_getElem?_getD,hjc]
  rw [Nat.mul_one,List.drop_eq_getElem_cons hjc,e1];rfl
 rw [this] at h3;exact h3
theorem Sls.cells (h:Sls P H e sz v l):a0K v=[v]:=by obtain ⟨cs,h1,_⟩:=h;exact h1.cells
theorem Sls.plain (h:Sls P H e sz v l):a0u v=true:=by obtain ⟨cs,h1,_⟩:=h;exact h1.plain
theorem Sls.nil:Sls P H e sz (.slice none 0 0) ([]:List α):=⟨[],Sl.nil,fun k hk=>by simp at hk⟩
end
def a0Z {α:Type} (P:a0f→List Value→α→Prop) (fl:Nat) (H:a0f) (e sz:Nat) (v:Value) (l:List α):Prop :=
 ∃ cs,Own fl H e sz v l.length cs∧∀ k (h:k < l.length),P H ((cs.drop (k * sz)).take sz) l[k]
section
variable {α:Type} {P:a0f→List Value→α→Prop} {H G:a0f} {fl e sz:Nat} {v:Value} {l:List α}
theorem a0Z.sls (h:a0Z P fl H e sz v l):Sls P H e sz v l:=by obtain ⟨cs,h1,h2⟩:=h;exact ⟨cs,h1.sl,h2⟩
theorem a0Z.mono (hP:i0Q P) (h:a0Z P fl H e sz v l) (hx:Ext H G):a0Z P fl G e sz v l:=by
 obtain ⟨cs,h1,h2⟩:=h;exact ⟨cs,h1.mono hx,fun k hk=>hP _ _ _ _ hx (h2 k hk)⟩
theorem a0Z.nil:a0Z P fl H e sz (.slice none 0 0) ([]:List α):=⟨[],Own.nil,fun k hk=>by simp at hk⟩
theorem a0Z.slen (h:a0Z P fl H e sz v l):j0b v=some (.int .i64 l.length):=h.sls.slen
def Lx (H G:a0f):Prop:=∀ b ro cs,H.blk b=.row ro a0m cs→G.blk b=.row ro a0m cs
theorem a0Z.lx (h:a0Z P fl G e sz v l) (he:e ≠ a0m) {G':a0f} (hx:d0G (slB v) G G'):Lx G G':=by
 intro b ro cs hb
 obtain ⟨cs',⟨hl,⟨rfl,_⟩ | ⟨p,cap,rfl,hp,_⟩⟩,_⟩:=h
 ·rw [hx.2 b (a0k hb) (by simp [slB])];exact hb
 ·rw [hx.2 b (a0k hb) (by simp [slB];rintro rfl;rw [hp] at hb;cases hb;exact he rfl)];exact hb
theorem a0Z.app (he:e ≠ a0m) (hO:∀ G' cs x,d0G (slB v) G G'→Lx G G'→P G cs x→P G' cs x) (h:a0Z P fl G e sz v l) {e2 c bytes:Nat} {new:List Value} {x:α} (hx:P G new x) (hl:new.length=sz) (hp:new.all a0u=true) (hn:l.length < 1073741824) (hb:bytes≤1024) (hs:0 < sz) (hfl:fl≤G.size) :
  ∃ v' G',h0V fl (G.push (.row false e2 new)) e sz bytes v (.slice (some ⟨G.size,0,none⟩) 1 c)=some (v',G')∧a0Z P fl G' e sz v' (l ++ [x])∧d0G (slB v) G G'∧(∀ H0,H0.size≤fl→Ext H0 G→Ext H0 G'):=by
 obtain ⟨cs,h1,h2⟩:=h
 obtain ⟨v',G',a1,a2,a3,a4⟩:=f0O (e2:=e2) (c:=c) h1 hl hp hn hb hs hfl (bytes:=bytes)
 refine ⟨v',G',a1,⟨cs ++ new,by simpa using a2,fun k hk=>?_⟩,a3,a4⟩
 have hcs:=h1.1
 by_cases hkl:k < l.length
 ·have h3:(k + 1) * sz≤l.length * sz:=Nat.mul_le_mul_right _ hkl
  rw [Nat.add_mul,Nat.one_mul] at h3
  rw [List.getElem_append_left hkl,List.drop_append_of_le_length (by omega),List.take_append_of_le_length (by simp;omega)]
  exact hO _ _ _ a3 (a0Z.lx ⟨cs,h1,h2⟩ he a3) (h2 k hkl)
 ·have hke:k=l.length:=by simp at hk;omega
  subst hke
  rw [List.getElem_append_right (Nat.le_refl _),List.drop_append_of_le_length (by omega),List.drop_eq_nil_of_le (by omega),List.nil_append,← hl,List.take_length]
  simpa using hO _ _ _ a3 (a0Z.lx ⟨cs,h1,h2⟩ he a3) hx
end
theorem Lim.lx {H G:a0f} {v:Value} {l:List Nat} (h:Lim H v l) (hx:Lx H G):Lim G v l:=by
 obtain ⟨⟨hl,h1 | ⟨b,off,cap,ro,cells,rfl,hb,ho,hcs⟩⟩,h2⟩:=h
 ·exact ⟨⟨hl,.inl h1⟩,h2⟩
 ·exact ⟨⟨hl,.inr ⟨b,off,cap,ro,cells,rfl,hx _ _ _ hb,ho,hcs⟩⟩,h2⟩
theorem b0X.lx {H G:a0f} {v:Value} {a:b0R} (h:b0X H v a) (hx:Lx H G):b0X G v a:=by obtain ⟨s,u,h1,h2,h3⟩:=h;exact ⟨s,u,h1,h2.lx hx,h3.lx hx⟩
theorem h0e.lx {H G:a0f} {v:Value} {e:e0f} (h:h0e H v e) (hx:Lx H G):h0e G v e:=by obtain ⟨s,u,h1,h2,h3⟩:=h;exact ⟨s,u,h1,h2.lx hx,h3.lx hx⟩
end
/- Rows of quotients; vec.Dot. -/
section
open Go
set_option maxHeartbeats 4000000
variable {fl:Nat} {H G:a0f} {R:a0A} {v w:Value}
def PR (H:a0f) (cs:List Value) (a:b0R):Prop:=b0X H (.agg cs.toArray) a
def PE (H:a0f) (cs:List Value) (e:e0f):Prop:=h0e H (.agg cs.toArray) e
theorem a0z:i0Q PR:=fun _ _ _ _ hx h=>b0X.mono h hx
theorem e0a:i0Q PE:=fun _ _ _ _ hx h=>h0e.mono h hx
abbrev b0l (H:a0f) (v:Value) (l:List b0R):Prop:=Sls PR H a0d 4 v l
abbrev h0W (H:a0f) (v:Value) (l:List e0f):Prop:=Sls PE H b0m 5 v l
def PS (H:a0f) (cs:List Value) (l:List b0R):Prop:=∃ v,cs=[v]∧b0l H v l
theorem c0G:i0Q PS:=fun _ _ _ _ hx ⟨v,h1,h2⟩=>⟨v,h1,h2.mono a0z hx⟩
abbrev f0K (H:a0f) (v:Value) (l:List (List b0R)):Prop:=Sls PS H b0p 1 v l
theorem b0l.load {l:List b0R} (h:b0l H v l) {j:Nat} (hj:j < l.length):∃ w,b0F H true 4 (adr 4 v j)=some w∧b0X H w l[j]:=by
 obtain ⟨cs,h1,_,h3⟩:=Sls.load h hj (by omega);exact ⟨_,h1,h3⟩
theorem h0W.load {l:List e0f} (h:h0W H v l) {j:Nat} (hj:j < l.length):∃ w,b0F H true 5 (adr 5 v j)=some w∧h0e H w l[j]:=by
 obtain ⟨cs,h1,_,h3⟩:=Sls.load h hj (by omega);exact ⟨_,h1,h3⟩
theorem f0K.load {l:List (List b0R)} (h:f0K H v l) {j:Nat} (hj:j < l.length):∃ w,b0F H false 1 (adr 1 v j)=some w∧b0l H w l[j]:=by
 obtain ⟨w,h1,w',h2,h3⟩:=Sls.load1 h hj
 simp at h2;subst h2;exact ⟨_,h1,h3⟩
def e0n (a b:List b0R):Nat→Rat
 | 0=>0
 | n + 1=>e0n a b n + b0O (a.getD n e0B) * b0O (b.getD n e0B)
def Few (S:Nat) (l:List b0R):Prop:=∀ x ∈ l,f0z x≤S∧b0D x.1.2∧b0D x.2.2
theorem Few.sz {S:Nat} {l:List b0R} (h:Few S l) (n:Nat):szR (b0O (l.getD n e0B))≤S + 1:=by
 rw [List.getD_eq_getElem?_getD]
 by_cases hn:n < l.length
 ·rw [List.getElem?_eq_getElem hn]
  obtain ⟨h1,h2,h3⟩:=h _ (List.getElem_mem hn)
  have:=b0U h2 h3
  simp;omega
 ·rw [List.getElem?_eq_none (by omega)]
  show szR (b0O e0B)≤_
  rw [e0c,g0u];omega
theorem k0u {S:Nat} {a b:List b0R} (ha:Few S a) (hb:Few S b):∀ n,szR (e0n a b n)≤n * (2 * S + 3) + 1
 | 0=>by simp [e0n,g0u]
 | n + 1=>by
  have h1:=k0u ha hb n
  have h2:=O0Z (e0n a b n) (b0O (a.getD n e0B) * b0O (b.getD n e0B))
  have h3:=h0b (b0O (a.getD n e0B)) (b0O (b.getD n e0B))
  have h4:=ha.sz n
  have h5:=hb.sz n
  rw [e0n,Nat.add_mul];omega
theorem v0e {a b:List b0R} (ha:b0l H v a) (hb:b0l H w b) (hf:fl≤H.size) (hne:a.length ≠ b.length) :
  a0P env fl P0w [v,w] H (fun r H'=>(∃ q,r=.tuple #[q,.int .i64 1]∧b0X H' q e0B)∧Ext H H') R:=by
 refine a0l W0k hf (h:=?_)
 intro ρ h0
 have hne':¬ ((a.length:Int)=(b.length:Int)):=by omega
 simp [R0W,E0y,E0z,K0F,h0,ha.slen,hb.slen,hne,hne']
 exact ⟨_,_,rfl,Lim.nil,Lim.nil⟩
theorem o0K {S:Nat} {a b:List b0R} (ha:b0l H v a) (hb:b0l H w b) (hf:fl≤H.size) (he:a.length=b.length) (hfa:Few S a) (hfb:Few S b) (hS:(a.length + 1) * (2 * S + 3) + 1 < 67108864) :
  a0P env fl P0w [v,w] H (fun r H'=>(∃ q,r=.tuple #[q,.int .i64 0]∧b0X H' q (a0e (e0n a b a.length)))∧Ext H H') R:=by
 refine a0l W0k hf (h:=?_)
 intro ρ h0
 have hal:a.length < 67108864:=by
  have:(a.length + 1) * 1≤(a.length + 1) * (2 * S + 3):=Nat.mul_le_mul_left _ (by omega)
  omega
 have hSl:S < 33554432:=by
  have:1 * (2 * S + 3)≤(a.length + 1) * (2 * S + 3):=Nat.mul_le_mul_right _ (by omega)
  omega
 have hne:(a.length == b.length)=true:=by simpa using he
 simp [R0W,E0y,E0z,h0,ha.slen,hb.slen,he]
 generalize hG:Array.push H _=G
 obtain ⟨hx2,b0⟩:=k0C hG
 have hx:=Ext.refl H
 clear hG
 replace hx:=hx.trans hx2
 simp [K0G]
 refine (c0p (n:=0) hx.1 (by omega) (by omega)).mono ?_
 rintro _ G2 ⟨⟨s1,s2,rfl,k0,k1⟩,hx2⟩
 replace b0:=hx2.blk b0;replace hx:=hx.trans hx2
 have hsz:=hx.1
 simp [h0,k0.cells,k0.plain,k1.cells,k1.plain,hsz]
 generalize hN:Array.setIfInBounds (Array.push _ _) _ _=G3
 obtain ⟨hx2,b1⟩:=new1 hN
 have hb0l:=a0k b0
 clear hN
 replace b0:=hx2.blk b0;replace hx:=hx.trans hx2;replace k0:=k0.mono hx2;replace k1:=k1.mono hx2
 obtain ⟨P,hP⟩:∃ P,P=G2.size:=⟨_,rfl⟩
 rw [← hP] at b1 hsz hb0l ⊢
 simp [K0H,h0,ha.slen]
 refine c0h (n:=a.length) (fun i ρ G=>ρ 0=v∧ρ 1=w∧ρ 4=.pointer (some ⟨H.size,0,none⟩)∧ρ 5=.int .i64 0∧ρ 6=.pointer (some ⟨P,0,none⟩)∧Ext H G ∧
   a0f.blk G H.size=.row false a0d [.bool false,.slice none 0 0,.bool false,.slice none 0 0] ∧
   ∃ s1 s2,a0f.blk G P=.row false a0d [.bool (a0e (e0n a b i)).1.1,s1,.bool (a0e (e0n a b i)).2.1,s2]∧Lim G s1 (a0e (e0n a b i)).1.2∧Lim G s2 (a0e (e0n a b i)).2.2)
  rfl rfl (by decide) (by omega) (by simp) (by simp) ?_ ?_ ?_ ?_
 ·exact ⟨by simp [h0],by simp [h0],by simp,by simp,by simp,hx,b0,s1,s2,b1,k0,k1⟩
 ·intro i ρ ρ' G h hI;simpa [h] using hI
 ·clear h0 ρ k0 k1 b0 b1 hx hx2
  rintro i ρ G hi gi gn ⟨g0,g1,g4,g5,g6,hx,b0,s1,s2,b1,k0,k1⟩
  have ka:=ha.mono a0z hx
  have kb:=hb.mono a0z hx
  obtain ⟨wa,hla,k2⟩:=b0l.load ka hi
  obtain ⟨wb,hlb,k3⟩:=b0l.load kb (show i < b.length by omega)
  have k4:b0X G (.agg #[.bool (a0e (e0n a b i)).1.1,s1,.bool (a0e (e0n a b i)).2.1,s2]) (a0e (e0n a b i)):=⟨s1,s2,rfl,k0,k1⟩
  have fa:=hfa _ (List.getElem_mem hi)
  have fb:=hfb _ (List.getElem_mem (show i < b.length by omega))
  simp [K0I,gi]
  refine a0v ?_
  simp [K0J,g0,g1,g6,ka.ia hi,kb.ia (show i < b.length by omega),hla,hlb,b1]
  refine (e0b k2 k3 (by have:=hx.1;omega) (by omega) (by omega)).mono ?_
  rintro _ G2 ⟨k5,hx2⟩
  replace b0:=hx2.blk b0;replace b1:=hx2.blk b1;replace hx:=hx.trans hx2;replace k0:=k0.mono hx2;replace k1:=k1.mono hx2;replace k4:=k4.mono hx2
  have hsd:=k0u hfa hfb i
  have hsd2:i * (2 * S + 3)≤a.length * (2 * S + 3):=Nat.mul_le_mul_right _ (by omega)
  rw [Nat.add_mul,Nat.one_mul] at hS
  have hsm:=h0b (b0O a[i]) (b0O b[i])
  have hs1:=b0U fa.2.1 fa.2.2
  have hs2:=b0U fb.2.1 fb.2.2
  simp
  refine (b0K k4 k5 hx.1 (by rw [a0x];omega) (by rw [a0x];omega)).mono ?_
  rintro _ G2 ⟨⟨s3,s4,rfl,k6,k7⟩,hx2⟩
  replace b0:=hx2.blk b0;replace b1:=hx2.blk b1;replace hx:=hx.trans hx2;replace k0:=k0.mono hx2;replace k1:=k1.mono hx2
  rw [a0w,a0w] at k6 k7 ⊢
  have hd:e0n a b (i + 1)=e0n a b i + b0O a[i] * b0O b[i]:=by
   rw [e0n,List.getD_eq_getElem?_getD,List.getD_eq_getElem?_getD,List.getElem?_eq_getElem hi,List.getElem?_eq_getElem (show i < b.length by omega)];rfl
  rw [← hd] at k6 k7 ⊢
  have hz:=a0k b1
  simp [g0,g1,g4,g5,g6,b1,k6.cells,k6.plain,k7.cells,k7.plain,hsz]
  generalize hS':Array.setIfInBounds _ _ _=G3
  have hS:=hS'
  replace k6:=k6.setS hS b1 (by decide)
  replace k7:=k7.setS hS b1 (by decide)
  replace b0:=a0F hS b0 (by omega)
  replace hx:=b0x hS hx (by omega)
  replace b1:=a0C hS b1
  exact Rnd.mk (by simp [gi]) (by simp [gn]) ⟨by simp [g0],by simp [g1],by simp [g4],by simp [g5],by simp [g6],hx,b0,s3,s4,b1,k6,k7⟩
 ·clear h0 ρ k0 k1 b0 b1 hx hx2
  rintro ρ G gi gn ⟨g0,g1,g4,g5,g6,hx,b0,s1,s2,b1,k0,k1⟩
  have hz:=a0k b0
  simp [K0K,g4,g6,b1,b0,k0.cells,k0.plain,k1.cells,k1.plain,hz]
  refine fun _=>⟨s1,s2,?_,?_,?_⟩
  ·rw [← he]
  ·rw [← he];exact k0.setT b0 (by decide)
  ·rw [← he];exact k1.setT b0 (by decide)
end
/- dom: Le, Join, Meet, none. -/
section
open Go
set_option maxHeartbeats 4000000
variable {fl:Nat} {H G:a0f} {R:a0A} {v w:Value} {a b:List e0f}
theorem a0Z.cast {α:Type} {P:a0f→List Value→α→Prop} {fl e sz:Nat} {v v':Value} {l:List α} (h:v=v') (k:a0Z P fl H e sz v' l):a0Z P fl H e sz v l:=by rw [h];exact k
def M0I (l:List e0f):Prop:=∀ x ∈ l,f0z x.2 < 67108864
end
/- dom: Join, Meet, none, Right; templ.Right. -/
section
open Go
set_option maxHeartbeats 4000000
variable {fl:Nat} {H G:a0f} {R:a0A} {v w:Value} {a b:List e0f}
def j0g {α:Type} (p:α→Bool) (l:List α):Bool:=l.any p
def o0M {α:Type} (p:α→Bool) (l:List α):Bool:=l.all p
section
variable {α:Type} {p:α→Bool} {l:List α} {i:Nat}
theorem r0f:j0g p []=false:=rfl
theorem l0E:o0M p []=true:=rfl
theorem n0u (h:i < l.length):j0g p (l.take (i + 1))=(j0g p (l.take i) || p l[i]):=by
 unfold j0g;rw [List.take_succ_eq_append_getElem h,List.any_append];simp
theorem j0u (h:i < l.length):o0M p (l.take (i + 1))=(o0M p (l.take i) && p l[i]):=by
 unfold o0M;rw [List.take_succ_eq_append_getElem h,List.all_append];simp
theorem r0g (h:i < l.length) (hp:p l[i]=true):j0g p l=true:=List.any_eq_true.2 ⟨_,List.getElem_mem h,hp⟩
theorem j0t (h:i < l.length) (hp:p l[i]=false):o0M p l=false:=by
 unfold o0M;rw [List.all_eq_false];exact ⟨l[i],List.getElem_mem h,by simp [hp]⟩
end
theorem k0D {p:e0f→Bool} {g:FuncId} (ha:h0W H v a) (hf:fl≤H.size) (hfa:M0I a) (hal:a.length < 1073741824)
  (hg:∀ (fl:Nat) (G:a0f) (v:Value) (e:e0f),fl≤G.size→h0e G v e→f0z e.2 < 67108864→a0P env fl g [v] G (fun r H'=>r=.bool (p e)∧Ext G H') R) :
  a0P env fl Q0V [v,.func (.func g) #[] #[]] H (fun r H'=>(∃ z:Int,r=.int .i64 z∧(0≤z ↔ j0g p a=true))∧Ext H H') R:=by
 refine a0l X0l hf (h:=?_)
 intro ρ h0
 simp [T0A,M0r,M0s,h0,ha.slen]
 refine c0h (n:=a.length) (fun i ρ G=>ρ 0=v∧ρ 1=.func (.func g) #[] #[]∧Ext H G∧j0g p (a.take i)=false)
  rfl rfl (by decide) (by omega) (by simp) (by simp) ?_ ?_ ?_ ?_
 ·exact ⟨by simp [h0],by simp [h0],Ext.refl H,by rw [List.take_zero];exact r0f⟩
 ·intro i ρ ρ' G h hI;simpa [h] using hI
 ·clear h0 ρ
  rintro i ρ G hi gi gn ⟨g0,g1,hx,hc⟩
  have ka:=ha.mono e0a hx
  obtain ⟨w,hl,k0⟩:=h0W.load ka hi
  simp [M0t,M0u,gi,g0,g1,ka.ia hi,hl]
  refine (hg _ _ _ _ hx.1 k0 (hfa _ (List.getElem_mem hi))).mono ?_
  rintro _ G2 ⟨rfl,hx2⟩
  have hx':=hx.trans hx2
  cases hp:p a[i]
  ·simp
   refine Rnd.mk (by simp [gi]) (by simp [gn]) ⟨by simp [g0],by simp [g1],hx',by rw [n0u hi,hc,hp];rfl⟩
  ·simp [M0v,gi]
   exact fun _=>r0g hi hp
 ·clear h0 ρ
  rintro ρ G gi gn ⟨g0,g1,hx,hc⟩
  rw [List.take_length] at hc
  simp [M0w,hc]
theorem e0X {p:e0f→Bool} {g:FuncId} (ha:h0W H v a) (hf:fl≤H.size) (hfa:M0I a) (hal:a.length < 1073741824)
  (hg:∀ (fl:Nat) (G:a0f) (v:Value) (e:e0f),fl≤G.size→h0e G v e→f0z e.2 < 67108864→a0P env fl g [v] G (fun r H'=>r=.bool (p e)∧Ext G H') R) :
  a0P env fl P0x [v,.func (.func g) #[] #[]] H (fun r H'=>r=.bool (j0g p a)∧Ext H H') R:=by
 refine a0l W0U hf (h:=?_)
 intro ρ h0
 simp [T0j,K0Y,K0Z,h0]
 refine (k0D (p:=p) ha (Nat.le_refl _) hfa hal hg).mono ?_
 rintro _ G2 ⟨⟨z,rfl,hz⟩,hx2⟩
 simp
 intro _
 rw [Bool.eq_iff_iff,decide_eq_true_eq];exact hz
theorem j0E {e:e0f} (h:h0e H v e) (hf:fl≤H.size):a0P env fl Q0S [v] H (fun r H'=>r=.bool (decide (e.1 < 0))∧Ext H H') R:=by
 obtain ⟨s,u,rfl,hs,hu⟩:=h
 refine a0l X0a hf (h:=?_)
 intro ρ h0
 simp [T0p,L0x,L0y,h0]
theorem l0O (ha:h0W H v a) (hf:fl≤H.size) (hfa:M0I a) (hal:a.length < 1073741824) :
  a0P env fl Q0L [v] H (fun r H'=>r=.bool (j0g (fun e=>decide (e.1 < 0)) a)∧Ext H H') R:=by
 refine a0l W0O hf (h:=?_)
 intro ρ h0
 simp [T0d,K0u,K0v,h0]
 refine (e0X (p:=fun e=>decide (e.1 < 0)) ha (Nat.le_refl _) hfa hal (fun fl G v e hf h hn=>j0E h hf)).mono ?_
 rintro _ G2 ⟨rfl,hx2⟩
 simp
theorem i0S {e:e0f} (h:h0e H v e) (hf:fl≤H.size) (hn:f0z e.2 < 67108864):a0P env fl Q0O [v] H (fun r H'=>r=.bool (!v0i e)∧Ext H H') R:=by
 have k0:=h
 obtain ⟨s,u,rfl,hs,hu⟩:=h
 refine a0l W0V hf (h:=?_)
 intro ρ h0
 simp [T0k,L0a,L0b,h0]
 generalize hG:Array.push H _=G
 obtain ⟨hx2,b0⟩:=k0C hG
 have hx:=Ext.refl H
 clear hG
 replace hx:=hx.trans hx2;replace k0:=k0.mono hx2
 try simp [b0]
 refine (i0F k0 hx.1 hn).mono ?_
 rintro _ G2 ⟨rfl,hx2⟩
 simp
def f0u (H:a0f) (v:Value) (rows:List (List b0R)):Prop:=∃ s,v=.agg #[s]∧f0K H s rows
def o0B (n:Int) (r:List b0R):Bool:=decide ((r.length:Int)=n) && o0M r0D r
def k0n (rows:List (List b0R)) (n:Int):Bool:=decide (0≤n) && decide (n≤6) && decide (rows.length≤40) && o0M (o0B n) rows
theorem j0c {S:Nat} {rows:List (List b0R)} {n:Int} (h:f0u H v rows) (hf:fl≤H.size) (hS:S < 67108864) (hr:∀ r ∈ rows,Few S r∧r.length < 1073741824) (hrl:rows.length < 1073741824) :
  a0P env fl Q0N [v,.int .i64 n] H (fun r H'=>r=.bool (k0n rows n)∧Ext H H') R:=by
 obtain ⟨s,rfl,hs⟩:=h
 refine a0l W0T hf (h:=?_)
 intro ρ h0
 simp [T0i,K0U,h0,hs.cells]
 generalize hG:Array.push H _=G
 obtain ⟨hx2,b0⟩:=k0C hG
 have hx:=Ext.refl H
 clear hG
 replace hx:=hx.trans hx2
 unfold k0n
 by_cases h1:n < 0
 ·have h1':¬ 0≤n:=by omega
  simp [o0v,t0A,h0,h1,h1']
 ·have h1':0≤n:=by omega
  by_cases h2:6 < n
  ·have h2':¬ n≤6:=by omega
   simp [o0v,t0A,h0,h1,h1',h2,h2']
  ·have h2':n≤6:=by omega
   by_cases h3:40 < rows.length
   ·have h3':¬ rows.length≤40:=by omega
    have h3'':(40:Int) < (rows.length:Int):=by omega
    simp [o0v,t0A,h0,b0,(hs.mono c0G hx).slen,hs.slen,h1,h1',h2,h2',h3,h3',h3'']
   ·have h3':rows.length≤40:=by omega
    have h3'':¬ (40:Int) < (rows.length:Int):=by omega
    simp [o0v,K0V,h0,b0,hs.slen,h1,h1',h2,h2',h3,h3',h3'']
    refine c0h (n:=rows.length) (fun i ρ G=>ρ 1=.int .i64 n∧ρ 22=s∧Ext H G∧o0M (o0B n) (rows.take i)=true)
     rfl rfl (by decide) (by omega) (by simp) (by simp) ?_ ?_ ?_ ?_
    ·exact ⟨by simp [h0],by simp,hx,by rw [List.take_zero];exact l0E⟩
    ·intro i ρ ρ' G h hI;simpa [h] using hI
    ·clear h0 ρ hx b0 hx2
     rintro i ρ G hi gi gn ⟨g1,g22,hx,hc⟩
     have ks:=hs.mono c0G hx
     obtain ⟨w,hl,kw⟩:=f0K.load ks hi
     obtain ⟨hfew,hrl2⟩:=hr _ (List.getElem_mem hi)
     by_cases hlen:(rows[i].length:Int)=n
     ·simp [E0F,E0G,K0X,g1,g22,gi,ks.ia hi,hl,kw.slen,hlen]
      refine j0s (n:=rows[i].length) (fun j ρ G=>ρ 1=.int .i64 n∧ρ 22=s∧ρ 24=.int .i64 (i:Int)∧ρ 23=.int .i64 (rows.length:Int)∧ρ 32=w∧Ext H G∧b0l G w rows[i]∧o0M r0D (rows[i].take j)=true)
       rfl rfl (by decide) (by omega) (by simp) (by simp [hlen]) ?_ ?_ ?_ ?_
      ·exact ⟨by simp [g1],by simp [g22],by simp [gi],by simp [gn],by simp,hx,kw,by rw [List.take_zero];exact l0E⟩
      ·intro i ρ ρ' G h hI;simpa [h] using hI
      ·clear g1 g22 gi gn hx kw hl ks ρ G
       rintro j ρ G hj gj gm ⟨g1,g22,gi,gn,g32,hx,kw,hcj⟩
       obtain ⟨x,hlx,k0⟩:=b0l.load kw hj
       obtain ⟨s1,s2,rfl,k1,k2⟩:=id k0
       have hf2:=hfew _ (List.getElem_mem hj)
       have hsz:=hx.1
       simp [E0B,g1,g22,g32,gj,kw.ia hj,hlx,k1.cells,k1.plain,k2.cells,k2.plain,hsz]
       generalize hN:Array.setIfInBounds (Array.push _ _) _ _=G3
       obtain ⟨hx2,b1⟩:=new1 hN
       clear hN
       replace hx:=hx.trans hx2;replace k0:=k0.mono hx2
       replace kw:=kw.mono a0z hx2
       simp [E0C,b1]
       refine (g0d k0 hx.1 (by omega)).mono ?_
       rintro _ G2 ⟨rfl,hx2⟩
       replace hx:=hx.trans hx2
       replace kw:=kw.mono a0z hx2
       cases hm:r0D rows[i][j]
       ·simp [E0D]
        intros
        exact j0t hi (by unfold o0B;rw [j0t hj hm];simp)
       ·simp
        exact Rnd.mk (by simp [gj]) (by simp [gm]) ⟨by simp [g1],by simp [g22],by simp [gi],by simp [gn],by simp [g32],hx,kw,by rw [j0u hj,hcj,hm];rfl⟩
      ·rintro ρ G gj gm ⟨g1,g22,gi,gn,g32,hx,kw,hcj⟩
       rw [List.take_length] at hcj
       simp
       exact Rnd.mk gi gn ⟨g1,g22,hx,by rw [j0u hi,hc];unfold o0B;simp [hlen,hcj]⟩
     ·simp [E0F,E0G,K0W,g1,g22,gi,ks.ia hi,hl,kw.slen,hlen]
      intro _
      exact j0t hi (by unfold o0B;simp [hlen])
    ·clear h0 ρ hx b0 hx2
     rintro ρ G gi gn ⟨g1,g22,hx,hc⟩
     rw [List.take_length] at hc
     simp [E0E,hc]
def e0x (rows:List (List b0R)) (n:Int) (d:List e0f):Bool:=k0n rows n && decide (d.length=rows.length) && !j0g (fun e=>!v0i e) d
theorem g0D {S:Nat} {rows:List (List b0R)} {n:Int} {d:List e0f} (h:f0u H v rows) (hd:h0W H w d) (hf:fl≤H.size) (hS:S < 67108864) (hr:∀ r ∈ rows,Few S r∧r.length < 1073741824) (hrl:rows.length < 1073741824) (hfd:M0I d) (hdl:d.length < 1073741824) :
  a0P env fl P0s [v,.int .i64 n,w] H (fun r H'=>r=.bool (e0x rows n d)∧Ext H H') R:=by
 have kt:=h
 obtain ⟨s,rfl,hs⟩:=h
 refine a0l W0I hf (h:=?_)
 intro ρ h0
 simp [S0X,J0Y,h0,hs.cells]
 generalize hG:Array.push H _=G
 obtain ⟨hx2,b0⟩:=k0C hG
 have hx:=Ext.refl H
 clear hG
 replace hx:=hx.trans hx2
 have kt2:f0u G (.agg #[s]) rows:=⟨s,rfl,hs.mono c0G hx⟩
 unfold e0x
 simp [J0Z,h0,b0]
 refine (j0c (n:=n) kt2 hx.1 hS hr hrl).mono ?_
 rintro _ G2 ⟨rfl,hx2⟩
 replace b0:=hx2.blk b0;replace hx:=hx.trans hx2
 cases h1:k0n rows n
 ·simp
 ·by_cases h2:d.length=rows.length
  ·have h2':(d.length:Int)=(rows.length:Int):=by omega
   simp [h0,b0,hd.slen,hs.slen,h2,h2']
   refine (e0X (p:=fun e=>!v0i e) (hd.mono e0a hx) hx.1 hfd hdl (fun fl G v e hf h hn=>i0S h hf hn)).mono ?_
   rintro _ G2 ⟨rfl,hx2⟩
   simp
  ·have h2':¬ (d.length:Int)=(rows.length:Int):=by omega
   simp [h0,b0,hd.slen,hs.slen,h2,h2']
end
/- dom: Has, own. -/
section
open Go
set_option maxHeartbeats 4000000
variable {fl:Nat} {H G:a0f} {R:a0A} {v w u:Value}
theorem k0x (q:Rat):o0O (0,a0e q)=(0,q):=by
 unfold o0O v0i;simp [g0s,a0w]
def G0g (x:List b0R) (r:List b0R) (e:e0f):Bool:=decide (r.length=x.length) && !decide (0 < F0C (0,e0n r x r.length) (o0O e))
def R0b (rows:List (List b0R)) (d:List e0f) (x:List b0R):Bool:=decide (d.length=rows.length) && o0M id (List.zipWith (G0g x) rows d)
theorem n0C {S:Nat} {rows:List (List b0R)} {d:List e0f} {x:List b0R} (h:f0u H v rows) (hd:h0W H w d) (hxv:b0l H u x) (hf:fl≤H.size)
  (hr:∀ r ∈ rows,Few S r) (hfx:Few S x) (hS:(x.length + 1) * (2 * S + 3) + 1 < 67108864) (hrl:rows.length < 1073741824) (hfd:M0I d) :
  a0P env fl Q0H [v,w,u] H (fun r H'=>r=.bool (R0b rows d x)∧Ext H H') R:=by
 obtain ⟨s,rfl,hs⟩:=h
 refine a0l W0G hf (h:=?_)
 intro ρ h0
 simp [S0V,J0N,h0,hs.cells]
 generalize hG:Array.push H _=G
 obtain ⟨hx2,b0⟩:=k0C hG
 have hx:=Ext.refl H
 clear hG
 replace hx:=hx.trans hx2
 unfold R0b
 by_cases hl:d.length=rows.length
 ·have hl':(d.length:Int)=(rows.length:Int):=by omega
  simp [E0n,J0P,h0,b0,hd.slen,hs.slen,hl,hl']
  refine c0h (n:=rows.length) (fun i ρ G=>ρ 1=w∧ρ 2=u∧ρ 18=s∧Ext H G∧o0M id ((List.zipWith (G0g x) rows d).take i)=true)
   rfl rfl (by decide) (by omega) (by simp) (by simp) ?_ ?_ ?_ ?_
  ·exact ⟨by simp [h0],by simp [h0],by simp,hx,by rw [List.take_zero];exact l0E⟩
  ·intro i ρ ρ' G h hI;simpa [h] using hI
  ·clear h0 ρ hx b0 hx2
   rintro i ρ G hi gi gn ⟨g1,g2,g18,hx,hc⟩
   have hid:i < d.length:=by omega
   have ks:=hs.mono c0G hx
   have kd:=hd.mono e0a hx
   have kx:=hxv.mono a0z hx
   obtain ⟨wr,hlr,kr⟩:=f0K.load ks hi
   have hz:(List.zipWith (G0g x) rows d).length=rows.length:=by simp;omega
   have hzi:(List.zipWith (G0g x) rows d)[i]'(by omega)=G0g x rows[i] d[i]:=by simp
   have hfr:=hr _ (List.getElem_mem hi)
   by_cases hlen:rows[i].length=x.length
   ·simp [E0p,E0q,g1,g2,g18,gi,ks.ia hi,hlr]
    refine (o0K kr kx hx.1 hlen hfr hfx (by rw [hlen];exact hS)).mono ?_
    rintro _ G2 ⟨⟨_,rfl,s1,s2,rfl,k0,k1⟩,hx2⟩
    replace hx:=hx.trans hx2
    replace kd:=kd.mono e0a hx2
    have hsz:=hx.1
    simp [k0.cells,k0.plain,k1.cells,k1.plain,hsz]
    generalize hN:Array.setIfInBounds (Array.push _ _) _ _=G3
    obtain ⟨hx2,b1⟩:=new1 hN
    clear hN
    replace hx:=hx.trans hx2;replace k0:=k0.mono hx2;replace k1:=k1.mono hx2
    replace kd:=kd.mono e0a hx2
    refine a0v ?_
    have k2:b0X G3 (.agg #[.bool (a0e (e0n rows[i] x rows[i].length)).1.1,s1,.bool (a0e (e0n rows[i] x rows[i].length)).2.1,s2]) (a0e (e0n rows[i] x rows[i].length)):=⟨s1,s2,rfl,k0,k1⟩
    have hsd:=k0u hfr hfx rows[i].length
    have hsd2:rows[i].length * (2 * S + 3)≤(x.length + 1) * (2 * S + 3):=Nat.mul_le_mul_right _ (by omega)
    simp [E0r,b1]
    refine (g0P k2 (by have:=hx.1;omega) (by rw [a0x];omega)).mono ?_
    rintro _ G2 ⟨k3,hx2⟩
    rw [a0w] at k3
    replace hx:=hx.trans hx2;replace k0:=k0.mono hx2;replace k1:=k1.mono hx2
    replace kd:=kd.mono e0a hx2
    obtain ⟨we,hle,k4⟩:=h0W.load kd hid
    simp [g1,kd.ia hid,hle]
    refine (n0H k3 k4 hx.1 (by show f0z (a0e _) < _;rw [a0x];omega) (hfd _ (List.getElem_mem hid))).mono ?_
    rintro _ G2 ⟨rfl,hx2⟩
    replace hx:=hx.trans hx2;replace k0:=k0.mono hx2;replace k1:=k1.mono hx2
    rw [k0x]
    by_cases hc0:0 < F0C (0,e0n rows[i] x rows[i].length) (o0O d[i])
    ·have hc0':¬ F0C (0,e0n rows[i] x rows[i].length) (o0O d[i])≤0:=by omega
     simp [hc0,hc0',E0s]
     intros
     exact j0t (i:=i) (by omega) (by rw [hzi];unfold G0g;simp [hc0])
    ·have hc0':F0C (0,e0n rows[i] x rows[i].length) (o0O d[i])≤0:=by omega
     simp [hc0,hc0']
     exact Rnd.mk (by simp [gi]) (by simp [gn]) ⟨by simp [g1],by simp [g2],by simp [g18],hx,by rw [j0u (by omega),hc,hzi];unfold G0g;simp [hlen];rw [← hlen];exact hc0'⟩
   ·simp [E0p,E0q,g1,g2,g18,gi,ks.ia hi,hlr]
    refine (v0e kr kx hx.1 hlen).mono ?_
    rintro _ G2 ⟨⟨_,rfl,s1,s2,rfl,k0,k1⟩,hx2⟩
    replace hx:=hx.trans hx2
    have hsz:=hx.1
    simp [k0.cells,k0.plain,k1.cells,k1.plain,hsz]
    refine a0v ?_
    simp [E0r,E0s]
    intros
    exact j0t (i:=i) (by omega) (by rw [hzi];unfold G0g;simp [hlen])
  ·clear h0 ρ hx b0 hx2
   rintro ρ G gi gn ⟨g1,g2,g18,hx,hc⟩
   rw [List.take_of_length_le (by simp;omega)] at hc
   simp [E0o,hc]
 ·have hl':¬ (d.length:Int)=(rows.length:Int):=by omega
  simp [E0n,J0O,h0,b0,hd.slen,hs.slen,hl,hl']
def i0T (l:List b0R):List b0R:=l.map fun x=>a0e (b0O x)
theorem t0I {α β:Type} {f:α→β} {l:List α} {i:Nat} (h:i < l.length):(l.map f).take (i + 1)=(l.map f).take i ++ [f l[i]]:=by
 rw [List.take_succ_eq_append_getElem (by simpa using h)];simp
theorem i0E {S:Nat} {l:List b0R} (hv:b0l H v l) (hf:fl≤H.size) (hfw:Few S l) (hS:S < 67108864) (hl:l.length < 1073741824) :
  a0P env fl P0v [v] H (fun r H'=>a0Z PR H.size H' a0d 4 r (i0T l)∧Ext H H') R:=by
 refine a0l W0P hf (h:=?_)
 intro ρ h0
 simp [T0e,K0w,K0x,K0y,h0,hv.slen]
 refine c0h (n:=l.length) (fun i ρ G=>ρ 6=v∧Ext H G∧a0Z PR H.size G a0d 4 (ρ 3) ((i0T l).take i))
  rfl rfl (by decide) (by omega) (by simp) (by simp) ?_ ?_ ?_ ?_
 ·exact ⟨by simp [h0],Ext.refl H,by simpa using a0Z.nil⟩
 ·intro i ρ ρ' G h hI;simpa [h] using hI
 ·clear h0 ρ
  rintro i ρ G hi gi gn ⟨g6,hx,ho⟩
  obtain ⟨s,g3⟩:∃ s,ρ 3=s:=⟨_,rfl⟩
  rw [g3] at ho
  have kv:=hv.mono a0z hx
  obtain ⟨x,hlx,k0⟩:=b0l.load kv hi
  obtain ⟨s1,s2,rfl,k1,k2⟩:=id k0
  have hf2:=hfw _ (List.getElem_mem hi)
  have hsz:=hx.1
  simp [K0z,g6,gi,kv.ia hi,hlx,k1.cells,k1.plain,k2.cells,k2.plain,hsz]
  generalize hN:Array.setIfInBounds (Array.push _ _) _ _=G3
  obtain ⟨hx2,b1⟩:=new1 hN
  clear hN
  replace hx:=hx.trans hx2;replace k0:=k0.mono hx2
  replace ho:=ho.mono a0z hx2
  simp [K0A,b1]
  refine (b0K k0 (b:=e0B) e0t hx.1 (by omega) (by decide)).mono ?_
  rintro _ G2 ⟨⟨s3,s4,rfl,k3,k4⟩,hx2⟩
  replace hx:=hx.trans hx2
  replace ho:=ho.mono a0z hx2
  rw [e0c,Rat.add_zero] at k3 k4 ⊢
  obtain ⟨s',G4,h1,h2,h3,h4⟩:=a0Z.app (P:=PR) (sz:=4) (e:=a0d) (by decide) (fun G' cs x _ hl h=>b0X.lx h hl) ho (e2:=a0d) (c:=1) (bytes:=64) (new:=[.bool (a0e (b0O l[i])).1.1,s3,.bool (a0e (b0O l[i])).2.1,s4]) (x:=a0e (b0O l[i])) ⟨s3,s4,rfl,k3,k4⟩ rfl (by simp [k3.plain,k4.plain]) (by simp;omega) (by omega) (by omega) hx.1
  simp [g3,k3.cells,k4.cells,h1]
  exact Rnd.mk (by simp [gi]) (by simp [gn]) ⟨by simp [g6],h4 _ (Nat.le_refl _) hx,a0Z.cast (v':=s') (by simp) (by unfold i0T;rw [t0I hi];exact h2)⟩
 ·clear h0 ρ
  rintro ρ G gi gn ⟨g6,hx,ho⟩
  obtain ⟨s,g3⟩:∃ s,ρ 3=s:=⟨_,rfl⟩
  rw [g3] at ho
  rw [List.take_of_length_le (by simp [i0T])] at ho
  simp [K0B,g3]
  exact fun _=>ho
end
/- dom.Problem. -/
section
open Go
set_option maxHeartbeats 4000000
variable {fl:Nat} {H G:a0f} {R:a0A} {v w u:Value}
theorem d0W {fl e sz bytes n c:Nat} {H H':a0f} {s v':Value} {xb:Option Addr} (hn:n ≠ 0) (h:h0V fl H e sz bytes s (.slice xb n c)=some (v',H')):∃ m k,v' = .slice (some ⟨H.size,0,none⟩) m k:=by
 unfold h0V at h
 split at h
 ·rename_i base len cap xb' n' c' heq
  cases heq
  rw [if_neg hn] at h
  split at h
  ·split at h
   ·cases h
   ·split at h
    ·cases h
    ·split at h
     ·cases h
     ·split at h
      ·split at h
       ·cases h;exact ⟨_,_,rfl⟩
       ·cases h
      ·split at h
       ·cases h;exact ⟨_,_,rfl⟩
       split at h
       ·cases h
       ·split at h
        ·cases h;exact ⟨_,_,rfl⟩
        ·split at h
         ·split at h
          ·cases h;exact ⟨_,_,rfl⟩
          ·cases h
         ·cases h
  ·cases h
 ·cases h
def LxT (e:Nat) (H G:a0f):Prop:=∀ b ro cs,H.blk b=.row ro e cs→G.blk b=.row ro e cs
theorem a0Z.lxT {α:Type} {P:a0f→List Value→α→Prop} {fl e sz e':Nat} {v:Value} {l:List α} (h:a0Z P fl G e sz v l) (he:e ≠ e') {G':a0f} (hx:d0G (slB v) G G'):LxT e' G G':=by
 intro b ro cs hb
 obtain ⟨cs',⟨hl,⟨rfl,_⟩ | ⟨p,cap,rfl,hp,_⟩⟩,_⟩:=h
 ·rw [hx.2 b (a0k hb) (by simp [slB])];exact hb
 ·rw [hx.2 b (a0k hb) (by simp [slB];rintro rfl;rw [hp] at hb;cases hb;exact he rfl)];exact hb
theorem b0l.lx2 {l:List b0R} (h:b0l H v l) (h1:LxT a0d H G) (h2:Lx H G):b0l G v l:=by
 obtain ⟨cs,⟨hl,hs⟩,hp⟩:=h
 refine ⟨cs,⟨hl,?_⟩,fun k hk=>b0X.lx (hp k hk) h2⟩
 rcases hs with hs | ⟨b,off,cap,ro,cells,rfl,hb,ho,hcs⟩
 ·exact .inl hs
 ·exact .inr ⟨b,off,cap,ro,cells,rfl,h1 _ _ _ hb,ho,hcs⟩
theorem b0l.off {l:List b0R} {o:Option Nat} (h:b0l H v l) (hx:d0G o H G) (hne:slB v=none ∨ slB v ≠ o) (h2:Lx H G):b0l G v l:=by
 obtain ⟨cs,⟨hl,hs⟩,hp⟩:=h
 refine ⟨cs,⟨hl,?_⟩,fun k hk=>b0X.lx (hp k hk) h2⟩
 rcases hs with hs | ⟨b,off,cap,ro,cells,rfl,hb,ho,hcs⟩
 ·exact .inl hs
 ·refine .inr ⟨b,off,cap,ro,cells,rfl,?_,ho,hcs⟩
  rw [hx.2 b (a0k hb) (by rcases hne with h | h;simp [slB] at h;exact fun h3=>h h3.symm)];exact hb
theorem b0l.lt {l:List b0R} (h:b0l H v l) {b:Nat} (hb:slB v=some b):b < H.size:=by
 obtain ⟨cs,⟨hl,⟨rfl,_⟩ | ⟨b',off,cap,ro,cells,rfl,hb',ho,hcs⟩⟩,hp⟩:=h
 ·simp [slB] at hb
 ·simp [slB] at hb;subst hb;exact a0k hb'
def PSo (o:Option Nat) (H:a0f) (cs:List Value) (l:List b0R):Prop:=∃ v,cs=[v]∧b0l H v l∧(slB v=none ∨ slB v ≠ o)
theorem p0q {o:Option Nat}:i0Q (PSo o):=fun _ _ _ _ hx ⟨v,h1,h2,h3⟩=>⟨v,h1,h2.mono a0z hx,h3⟩
structure LPt where
 n:Int
 A:List (List b0R)
 B:List b0R
 C:List b0R
def LPV (H:a0f) (v:Value) (p:LPt):Prop:=∃ sA sB sC,v=.agg #[.int .i64 p.n,sA,sB,sC]∧f0K H sA p.A∧b0l H sB p.B∧b0l H sC p.C
def c0e:List (List b0R)→List e0f→List (List b0R)
 | r :: rs,e :: es=>if e.1=0 then i0T r :: c0e rs es else c0e rs es
 | _,_=>[]
def d0B:List (List b0R)→List e0f→List b0R
 | _ :: rs,e :: es=>if e.1=0 then a0e (b0O e.2) :: d0B rs es else d0B rs es
 | _,_=>[]
theorem i0s:∀ {rows:List (List b0R)} {d:List e0f} {i:Nat} (h1:i < rows.length) (h2:i < d.length),c0e (rows.take (i + 1)) (d.take (i + 1))=c0e (rows.take i) (d.take i) ++ if d[i].1=0 then [i0T rows[i]] else []
 | [],_,_,h,_=>by simp at h
 | _ :: _,[],_,_,h=>by simp at h
 | r :: rs,e :: es,0,_,_=>by simp [c0e]
 | r :: rs,e :: es,i + 1,h1,h2=>by
  have:=i0s (rows:=rs) (d:=es) (i:=i) (by simpa using h1) (by simpa using h2)
  simp only [List.take_succ_cons,c0e,this,List.getElem_cons_succ]
  split <;> simp
theorem i0t:∀ {rows:List (List b0R)} {d:List e0f} {i:Nat} (_:i < rows.length) (h2:i < d.length),d0B (rows.take (i + 1)) (d.take (i + 1))=d0B (rows.take i) (d.take i) ++ if d[i].1=0 then [a0e (b0O d[i].2)] else []
 | [],_,_,h,_=>by simp at h
 | _ :: _,[],_,_,h=>by simp at h
 | r :: rs,e :: es,0,_,_=>by simp [d0B]
 | r :: rs,e :: es,i + 1,h1,h2=>by
  have:=i0t (rows:=rs) (d:=es) (i:=i) (by simpa using h1) (by simpa using h2)
  simp only [List.take_succ_cons,d0B,this,List.getElem_cons_succ]
  split <;> simp
theorem j0m (H:a0f):∀ n:Nat,(f0e [.bool false,.slice none 0 0,.bool false,.slice none 0 0] n).length=n * 4∧∀ k,k < n→PR H (((f0e [.bool false,.slice none 0 0,.bool false,.slice none 0 0] n).drop (k * 4)).take 4) e0B
 | 0=>⟨rfl,fun k hk=>by omega⟩
 | n + 1=>by
  obtain ⟨h1,h2⟩:=j0m H n
  refine ⟨by rw [f0e,List.length_append,h1];simp;omega,fun k hk=>?_⟩
  cases k with
  | zero=>exact e0t
  | succ k =>
   have:=h2 k (by omega)
   rw [f0e,show (k + 1) * 4=4 + k * 4 by omega,← List.drop_drop]
   exact this
theorem a0Z.ne {α:Type} {Q:a0f→List Value→α→Prop} {fl e sz e' p:Nat} {v:Value} {l:List α} {cs:List Value} {ro:Bool} (h:a0Z Q fl G e sz v l) (hb:a0f.blk G p=.row ro e' cs) (he:e ≠ e'):slB v ≠ some p:=by
 obtain ⟨cs',⟨hl,⟨rfl,_⟩ | ⟨b,cap,rfl,hp,_⟩⟩,_⟩:=h
 ·simp [slB]
 ·simp [slB];rintro rfl;rw [hp] at hb;cases hb;exact he rfl
theorem a0Z.ge {α:Type} {Q:a0f→List Value→α→Prop} {fl e sz:Nat} {v:Value} {l:List α} (h:a0Z Q fl G e sz v l) {b:Nat} (hb:slB v=some b):fl≤b∧b < G.size:=by
 obtain ⟨cs',⟨hl,⟨rfl,_⟩ | ⟨b',cap,rfl,hp,hf⟩⟩,_⟩:=h
 ·simp [slB] at hb
 ·simp [slB] at hb;subst hb;exact ⟨hf,a0k hp⟩
theorem a0Z.cells {α:Type} {Q:a0f→List Value→α→Prop} {fl e sz:Nat} {v:Value} {l:List α} (h:a0Z Q fl G e sz v l):a0K v=[v]∧a0u v=true:=⟨h.sls.cells,h.sls.plain⟩
theorem a0Z.low {α:Type} {Q:a0f→List Value→α→Prop} {fl fl' e sz:Nat} {v:Value} {l:List α} (h:a0Z Q fl G e sz v l) (hl:fl'≤fl):a0Z Q fl' G e sz v l:=by
 obtain ⟨cs',⟨hl',h1 | ⟨b',cap,rfl,hp,hf⟩⟩,h2⟩:=h
 ·exact ⟨cs',⟨hl',.inl h1⟩,h2⟩
 ·exact ⟨cs',⟨hl',.inr ⟨b',cap,rfl,hp,by omega⟩⟩,h2⟩
theorem a0Z.off {α:Type} {Q:a0f→List Value→α→Prop} {fl e sz:Nat} {v:Value} {l:List α} {o:Option Nat} {G':a0f} (h:a0Z Q fl G e sz v l) (hx:d0G o G G') (hne:slB v=none ∨ slB v ≠ o) (hQ:∀ cs x,Q G cs x→Q G' cs x):a0Z Q fl G' e sz v l:=by
 obtain ⟨cs',⟨hl',h1 | ⟨b',cap,rfl,hp,hf⟩⟩,h2⟩:=h
 ·exact ⟨cs',⟨hl',.inl h1⟩,fun k hk=>hQ _ _ (h2 k hk)⟩
 ·refine ⟨cs',⟨hl',.inr ⟨b',cap,rfl,?_,hf⟩⟩,fun k hk=>hQ _ _ (h2 k hk)⟩
  rw [hx.2 b' (a0k hp) (by rcases hne with h | h;simp [slB] at h;exact fun h3=>h h3.symm)];exact hp
theorem a0Z.lxm {α:Type} {Q:a0f→List Value→α→Prop} {fl e sz:Nat} {v:Value} {l:List α} {G':a0f} {Q':a0f→List Value→α→Prop} (h:a0Z Q fl G e sz v l) (hx:LxT e G G') (hQ:∀ cs x,Q G cs x→Q' G' cs x):a0Z Q' fl G' e sz v l:=by
 obtain ⟨cs',⟨hl',h1 | ⟨b',cap,rfl,hp,hf⟩⟩,h2⟩:=h
 ·exact ⟨cs',⟨hl',.inl h1⟩,fun k hk=>hQ _ _ (h2 k hk)⟩
 ·exact ⟨cs',⟨hl',.inr ⟨b',cap,rfl,hx _ _ _ hp,hf⟩⟩,fun k hk=>hQ _ _ (h2 k hk)⟩
theorem a0Z.blkOf {α:Type} {Q:a0f→List Value→α→Prop} {fl e sz:Nat} {v:Value} {l:List α} (h:a0Z Q fl G e sz v l):AI.blkW v=[] ∨ ∃ b,AI.blkW v=[b]∧slB v=some b:=by
 obtain ⟨cs',⟨hl',⟨rfl,_⟩ | ⟨b',cap,rfl,hp,hf⟩⟩,h2⟩:=h
 ·exact .inl rfl
 ·by_cases h00:l.length=0∧cap=0
  ·exact .inl (by simp only [AI.blkW];rw [if_pos h00])
  ·exact .inr ⟨b',by simp only [AI.blkW];rw [if_neg h00],rfl⟩
theorem a0V {G3:a0f} {q e e':Nat} {X:Blk} {cs:List Value} {ro:Bool} (hS:Array.setIfInBounds G q X=G3) (hb:a0f.blk G q=.row ro e' cs) (hne:e' ≠ e):LxT e G G3:=by
 intro b ro' cs' hb'
 rw [← hS,b0g (by rintro rfl;rw [hb] at hb';cases hb';exact hne rfl)];exact hb'
theorem f0K.lx3 {l:List (List b0R)} (h:f0K H v l) (h0:LxT b0p H G) (h1:LxT a0d H G) (h2:Lx H G):f0K G v l:=by
 obtain ⟨cs,⟨hl,hs⟩,hp⟩:=h
 refine ⟨cs,⟨hl,?_⟩,fun k hk=>?_⟩
 ·rcases hs with hs | ⟨b,off,cap,ro,cells,rfl,hb,ho,hcs⟩
  ·exact .inl hs
  ·exact .inr ⟨b,off,cap,ro,cells,rfl,h0 _ _ _ hb,ho,hcs⟩
 ·obtain ⟨w,q1,q2⟩:=hp k hk;exact ⟨w,q1,q2.lx2 h1 h2⟩
theorem k0f:∀ (rows:List (List b0R)) (d:List e0f),(c0e rows d).length≤d.length
 | [],_=>by simp [c0e]
 | _ :: _,[]=>by simp [c0e]
 | r :: rs,e :: es=>by have:=k0f rs es;simp only [c0e];split <;> simp <;> omega
theorem o0r:∀ (rows:List (List b0R)) (d:List e0f),(d0B rows d).length≤d.length
 | [],_=>by simp [d0B]
 | _ :: _,[]=>by simp [d0B]
 | r :: rs,e :: es=>by have:=o0r rs es;simp only [d0B];split <;> simp <;> omega
theorem a0Z.imp {α:Type} {Q Q':a0f→List Value→α→Prop} {fl e sz:Nat} {v:Value} {l:List α} (h:a0Z Q fl G e sz v l) (hQ:∀ cs x,Q G cs x→Q' G cs x):a0Z Q' fl G e sz v l:=by
 obtain ⟨cs',h1,h2⟩:=h;exact ⟨cs',h1,fun k hk=>hQ _ _ (h2 k hk)⟩
def v0p (H:a0f) (P m:Nat) (s w sC:Value) (rows:List (List b0R)) (d:List e0f) (i:Nat) (ρ:Nat→Value) (G:a0f):Prop :=
 ρ 3=.pointer (some ⟨H.size,0,none⟩)∧ρ 6=.pointer (some ⟨H.size + 1,0,none⟩)∧ρ 8=.pointer (some ⟨P,0,none⟩)∧ρ 26=w∧Ext H G ∧
  a0f.blk G H.size=.row false b0f [s]∧a0f.blk G (H.size + 1)=.row false b0z [.int .i64 0,.slice none 0 0,.slice none 0 0,.slice none 0 0] ∧
  ∃ sA sB,a0f.blk G P=.row false b0z [.int .i64 (m:Int),sA,sB,sC]∧a0Z (PSo (slB sB)) H.size G b0p 1 sA (c0e (rows.take i) (d.take i)) ∧
   a0Z PR H.size G a0d 4 sB (d0B (rows.take i) (d.take i))∧b0l G sC (List.replicate m (a0e 0))∧(slB sC=none ∨ slB sC ≠ slB sB)
theorem i0R {S:Nat} {rows:List (List b0R)} {n:Int} {d:List e0f} (h:f0u H v rows) (hd:h0W H w d) (hf:fl≤H.size) (hS:S < 67108864) (hr:∀ r ∈ rows,Few S r∧r.length < 1073741824) (hrl:rows.length < 1073741824) (hfd:M0I d) (hdl:d.length < 1073741824) :
  a0P env fl Q0G [v,.int .i64 n,w] H (fun r H'=>(if e0x rows n d=true∧j0g (fun e=>decide (e.1 < 0)) d=false then ∃ p,r=.tuple #[p,.bool true]∧LPV H' p ⟨n,c0e rows d,d0B rows d,List.replicate n.toNat (a0e 0)⟩ else ∃ p,r=.tuple #[p,.bool false]∧LPV H' p ⟨0,[],[],[]⟩)∧Ext H H') R:=by
 obtain ⟨s,rfl,hs⟩:=h
 refine a0l W0F hf (h:=?_)
 intro ρ h0
 simp [S0U,J0H,h0,hs.cells]
 generalize hG:Array.push (Array.push H _) _=G
 have hx:Ext H G:=by rw [← hG];exact (Ext.refl H).push.push
 have b0:a0f.blk G H.size=.row false b0f [s]:=by rw [← hG];simp
 have b1:a0f.blk G (H.size + 1)=.row false b0z [.int .i64 0,.slice none 0 0,.slice none 0 0,.slice none 0 0]:=by rw [← hG];simp
 clear hG
 have kt:f0u G (.agg #[s]) rows:=⟨s,rfl,hs.mono c0G hx⟩
 simp [J0I,h0,b0]
 refine (g0D kt (hd.mono e0a hx) hx.1 hS hr hrl hfd hdl).mono ?_
 rintro _ G2 ⟨rfl,hx2⟩
 replace b0:=hx2.blk b0;replace b1:=hx2.blk b1;replace hx:=hx.trans hx2
 cases hv:e0x rows n d
 ·have hz:=a0k b1
  simp [D0Q,h0,b1,hz]
  exact fun _=>⟨_,_,_,rfl,Sls.nil,Sls.nil,Sls.nil⟩
 simp [h0]
 refine (l0O (hd.mono e0a hx) hx.1 hfd hdl).mono ?_
 rintro _ G2 ⟨rfl,hx2⟩
 replace b0:=hx2.blk b0;replace b1:=hx2.blk b1;replace hx:=hx.trans hx2
 cases hno:j0g (fun e:e0f=>decide (e.1 < 0)) d
 case true =>
  have hz:=a0k b1
  simp [D0Q,h0,b1,hz]
  exact fun _=>⟨_,_,_,rfl,Sls.nil,Sls.nil,Sls.nil⟩
 have hvv:=hv
 unfold e0x k0n at hvv
 simp at hvv
 obtain ⟨⟨⟨⟨⟨hn0,hn6⟩,_⟩,_⟩,hdr⟩,_⟩:=hvv
 obtain ⟨m,rfl⟩:∃ m:Nat,n=m:=⟨n.toNat,by omega⟩
 have hmk:=f0p (bytes:=64) (k:=.i64) (k':=.i64) (l:=m) (c:=m) (Nat.le_refl _) (by omega) (by omega)
 simp [J0J,h0,hmk]
 generalize hN:Array.push G2 _=G3
 obtain ⟨hx2,b2⟩:=k0C hN
 clear hN
 replace b0:=hx2.blk b0;replace b1:=hx2.blk b1;replace hx:=hx.trans hx2
 obtain ⟨hrl1,hrl2⟩:=j0m G3 m
 have kz:b0l G3 (.slice (some ⟨G2.size,0,none⟩) m m) (List.replicate m e0B):=by
  refine ⟨_,(Own.mk (fl:=0) (cap:=m) b2 hrl1 (Nat.zero_le _)).sl |> (fun h=>by simpa using h),fun k hk=>?_⟩
  rw [List.getElem_replicate];exact hrl2 k (by simpa using hk)
 refine (i0E (S:=0) kz hx.1 (fun x hx=>by rw [List.mem_replicate] at hx;rw [hx.2];exact ⟨Nat.le_refl _,by intro y hy;simp [e0B] at hy,by intro y hy;simp [e0B] at hy⟩) (by omega) (by simp;omega)).mono ?_
 rintro sC G4 ⟨hC,hx2⟩
 replace b0:=hx2.blk b0;replace b1:=hx2.blk b1;replace hx:=hx.trans hx2
 have hown:i0T (List.replicate m e0B)=List.replicate m (a0e 0):=by unfold i0T;simp [e0c]
 rw [hown] at hC
 have kC:=hC.sls
 have hsz:=hx.1
 have hb1l:=a0k b1
 simp [h0,kC.cells,kC.plain,hsz]
 generalize hN:Array.setIfInBounds (Array.push _ _) _ _=G5
 obtain ⟨hx2,b3⟩:=new1 hN
 clear hN
 replace b0:=hx2.blk b0;replace b1:=hx2.blk b1;replace hx:=hx.trans hx2
 replace kC:=kC.mono a0z hx2
 obtain ⟨P,hP⟩:∃ P,P=G4.size:=⟨_,rfl⟩
 rw [← hP] at b3 hsz ⊢
 have hPH:=hsz
 have hPne:P ≠ H.size + 1:=by omega
 simp [J0K,h0,hd.slen]
 refine c0h (n:=d.length) (v0p H P m s w sC rows d) rfl rfl (by decide) (by omega) (by simp) (by simp) ?_ ?_ ?_ ?_
 ·exact ⟨by simp,by simp,by simp,by simp [h0],hx,b0,b1,_,_,b3,by simpa [c0e] using a0Z.nil,by simpa [d0B] using a0Z.nil,kC,by
   cases hsc:slB sC with
   | none=>exact .inl rfl
   | some b=>right;simp [slB]⟩
 ·intro i ρ ρ' G h hI;simpa [v0p,h] using hI
 ·clear h0 ρ hx b0 b1 b3 kC hC hx2
  rintro i ρ G hi gi gn ⟨g3,g6,g8,g26,hx,b0,b1,sA,sB,b3,hA,hB,kC,hCB⟩
  have hir:i < rows.length:=by omega
  have kd:=hd.mono e0a hx
  have ks:=hs.mono c0G hx
  obtain ⟨we,hle,k0⟩:=h0W.load kd hi
  obtain ⟨s1,s2,rfl,k1,k2⟩:=id k0
  have hsz:=hx.1
  simp [J0L,g26,gi,kd.ia hi,hle,k1.cells,k1.plain,k2.cells,k2.plain,hsz]
  generalize hN:Array.setIfInBounds (Array.push _ _) _ _=G3
  obtain ⟨hx2,b4⟩:=new1 hN
  clear hN
  replace b0:=hx2.blk b0;replace b1:=hx2.blk b1;replace b3:=hx2.blk b3;replace hx:=hx.trans hx2;replace k1:=k1.mono hx2;replace k2:=k2.mono hx2
  replace ks:=ks.mono c0G hx2
  replace hA:=hA.mono p0q hx2
  replace hB:=hB.mono a0z hx2
  replace kC:=kC.mono a0z hx2
  obtain ⟨P2,hP2⟩:∃ P2,P2=G.size:=⟨_,rfl⟩
  rw [← hP2] at b4 hsz ⊢
  by_cases he:d[i].1=0
  ·simp [D0R,b4,he]
   refine c0g ?_
   obtain ⟨wr,hlr,kr⟩:=f0K.load ks hir
   simp [J0M,g3,g8,b3,b0,ks.ia hir,hlr]
   have hBlt:∀ b,slB sB=some b→b < G3.size:=fun b h=>(hB.ge h).2
   have hlA:=k0f (rows.take i) (d.take i)
   have hlB:=o0r (rows.take i) (d.take i)
   simp only [List.length_take] at hlA hlB
   refine (i0E kr (by have:=hx.1;omega) (hr _ (List.getElem_mem hir)).1 hS (hr _ (List.getElem_mem hir)).2).mono ?_
   rintro r G2 ⟨kw,hx2⟩
   replace b0:=hx2.blk b0;replace b1:=hx2.blk b1;replace b3:=hx2.blk b3;replace b4:=hx2.blk b4;replace hx:=hx.trans hx2;replace k1:=k1.mono hx2;replace k2:=k2.mono hx2
   replace hA:=hA.mono p0q hx2
   replace hB:=hB.mono a0z hx2
   replace kC:=kC.mono a0z hx2
   have hrB:slB r=none ∨ slB r ≠ slB sB:=by
    cases hr1:slB r with
    | none=>exact .inl rfl
    | some b =>
     right;intro h
     have:=(kw.ge hr1).1
     have:=hBlt b h.symm
     omega
   obtain ⟨cr,pr⟩:=kw.cells
   obtain ⟨sA',G5,h1,h2,h3,h4⟩:=a0Z.app (P:=PSo (slB sB)) (sz:=1) (e:=b0p) (by decide)
    (fun G' cs x hxb hl ⟨w',q1,q2,q3⟩=>⟨w',q1,q2.lx2 (hA.lxT (by decide) hxb) hl,q3⟩) hA (e2:=b0p) (c:=1) (bytes:=24) (new:=[r]) (x:=i0T rows[i]) ⟨r,rfl,kw.sls,hrB⟩ rfl (by simp [pr]) (by omega) (by omega) (by omega) hx.1
   obtain ⟨_,_,hAe⟩:=d0W (by decide) h1
   have hlx:=hA.lx (by decide) h3
   have hlr:=hA.lxT (e':=a0d) (by decide) h3
   have nA0:=hA.ne b0 (by decide)
   have nA1:=hA.ne b1 (by decide)
   have nA3:=hA.ne b3 (by decide)
   have nA4:=hA.ne b4 (by decide)
   have hAo:=hA.blkOf
   replace b0:=(h3.2 _ (a0k b0) nA0).trans b0
   replace b1:=(h3.2 _ (a0k b1) nA1).trans b1
   replace b3:=(h3.2 _ (a0k b3) nA3).trans b3
   replace b4:=(h3.2 _ (a0k b4) nA4).trans b4
   replace hx:=h4 _ (Nat.le_refl _) hx
   replace k1:=k1.lx hlx
   replace k2:=k2.lx hlx
   replace kC:=b0l.lx2 kC hlr hlx
   replace hB:=hB.lxm (Q':=PR) hlr (fun cs x h=>b0X.lx h hlx)
   simp [g8,b3,b4,cr,h1]
   refine (b0K (a:=d[i].2) ⟨s1,s2,rfl,k1,k2⟩ (b:=e0B) e0t (by have:=hx.1;omega) (hfd _ (List.getElem_mem hi)) (by decide)).mono ?_
   rintro _ G6 ⟨⟨s3,s4,rfl,k3,k4⟩,hx2⟩
   replace b0:=hx2.blk b0;replace b1:=hx2.blk b1;replace b3:=hx2.blk b3;replace b4:=hx2.blk b4;replace hx:=hx.trans hx2
   replace hA:=h2.mono p0q hx2
   replace hB:=hB.mono a0z hx2
   replace kC:=kC.mono a0z hx2
   rw [e0c,Rat.add_zero] at k3 k4 ⊢
   obtain ⟨sB',G7,p1,p2,p3,p4⟩:=a0Z.app (P:=PR) (sz:=4) (e:=a0d) (by decide) (fun G' cs x _ hl h=>b0X.lx h hl) hB (e2:=a0d) (c:=1) (bytes:=64) (new:=[.bool (a0e (b0O d[i].2)).1.1,s3,.bool (a0e (b0O d[i].2)).2.1,s4]) (x:=a0e (b0O d[i].2)) ⟨s3,s4,rfl,k3,k4⟩ rfl (by simp [k3.plain,k4.plain]) (by omega) (by omega) (by omega) hx.1
   obtain ⟨_,_,hBe⟩:=d0W (by decide) p1
   have hlx:=hB.lx (by decide) p3
   have nB0:=hB.ne b0 (by decide)
   have nB1:=hB.ne b1 (by decide)
   have nB3:=hB.ne b3 (by decide)
   have nB4:=hB.ne b4 (by decide)
   have hsBn:slB sB' = some (G6.size + 1):=by rw [hBe];simp [slB]
   have hA':a0Z (PSo (slB sB')) H.size G7 b0p 1 sA' (c0e (rows.take (i + 1)) (d.take (i + 1))):=by
    rw [i0s hir hi,if_pos he]
    refine hA.lxm (hB.lxT (by decide) p3) (fun cs x ⟨w',q1,q2,q3⟩=>⟨w',q1,q2.off p3 q3 hlx,?_⟩)
    cases hw:slB w' with
    | none=>exact .inl rfl
    | some b=>right;rw [hsBn];have:=q2.lt hw;simp;omega
   have hCB':slB sC=none ∨ slB sC ≠ slB sB':=by
    cases hw:slB sC with
    | none=>exact .inl rfl
    | some b=>right;rw [hsBn];have:=b0l.lt kC hw;simp;omega
   replace kC:=b0l.off kC p3 hCB hlx
   replace b0:=(p3.2 _ (a0k b0) nB0).trans b0
   replace b1:=(p3.2 _ (a0k b1) nB1).trans b1
   replace b3:=(p3.2 _ (a0k b3) nB3).trans b3
   replace hx:=p4 _ (Nat.le_refl _) hx
   have hB':a0Z PR H.size G7 a0d 4 sB' (d0B (rows.take (i + 1)) (d.take (i + 1))):=by rw [i0t hir hi,if_pos he];exact p2
   obtain ⟨cA,pA⟩:=hA'.cells
   obtain ⟨cB,pB⟩:=hB'.cells
   have hz:=a0k b3
   simp [g8,b3,k3.cells,k4.cells,p1,cA,pA,cB,pB,hPH,hz]
   generalize hS1:Array.setIfInBounds G7 P _=G8
   have t1:∀ {e:Nat},b0z ≠ e→LxT e G7 G8:=fun hne=>a0V hS1 b3 hne
   have n0:P ≠ H.size:=by intro h;rw [h,b0] at b3;cases b3
   have hbo:∀ x,x ∈ blkW sA→slB sA=some x:=by
    rcases hAo with h | ⟨b,h,h'⟩
    ·rw [h];simp
    ·rw [h,h'];simp
   refine ⟨⟨fun x hx h=>nA3 (by rw [hbo x hx,h]),fun x hx h=>nA4 (by rw [hbo x hx,h])⟩,Rnd.mk (by simp [gi]) (by simp [gn]) ⟨by simp [g3],by simp [g6],by simp [g8],by simp [g26],b0x hS1 hx hPH,a0F hS1 b0 n0,a0F hS1 b1 hPne,sA',sB',a0C hS1 b3,?_,?_,?_,hCB'⟩⟩
   ·exact hA'.lxm (t1 (by decide)) (fun cs x ⟨w',q1,q2,q3⟩=>⟨w',q1,q2.lx2 (t1 (by decide)) (t1 (by decide)),q3⟩)
   ·exact hB'.lxm (t1 (by decide)) (fun cs x h=>b0X.lx h (t1 (by decide)))
   ·exact b0l.lx2 kC (t1 (by decide)) (t1 (by decide))
  ·simp [D0R,b4,he]
   refine Rnd.mk (by simp [gi]) (by simp [gn]) ⟨by simp [g3],by simp [g6],by simp [g8],by simp [g26],hx,b0,b1,sA,sB,b3,?_,?_,kC,hCB⟩
   ·rw [i0s hir hi,if_neg he,List.append_nil];exact hA
   ·rw [i0t hir hi,if_neg he,List.append_nil];exact hB
 ·clear h0 ρ hx b0 b1 b3 kC hC hx2
  rintro ρ G gi gn ⟨g3,g6,g8,g26,hx,b0,b1,sA,sB,b3,hA,hB,kC,hCB⟩
  rw [List.take_of_length_le (by omega),List.take_length] at hA hB
  have hz:=a0k b1
  obtain ⟨cA,pA⟩:=hA.cells
  obtain ⟨cB,pB⟩:=hB.cells
  simp [D0P,g6,g8,b3,b1,cA,pA,cB,pB,kC.cells,kC.plain,hz]
  generalize hS:Array.setIfInBounds _ _ _=G9
  have t1:∀ {e:Nat},b0z ≠ e→LxT e G G9:=fun hne=>a0V hS b1 hne
  refine fun _=>⟨sA,sB,sC,rfl,?_,b0l.lx2 hB.sls (t1 (by decide)) (t1 (by decide)),b0l.lx2 kC (t1 (by decide)) (t1 (by decide))⟩
  exact f0K.lx3 (hA.imp (fun cs x ⟨w',q1,q2,_⟩=>⟨w',q1,q2⟩)).sls (t1 (by decide)) (t1 (by decide)) (t1 (by decide))
end
/- lp.Right. -/
section
open Go
set_option maxHeartbeats 4000000
variable {fl:Nat} {H G:a0f} {R:a0A} {v w u:Value}
theorem j0q {a:List (List b0R)} {p:List b0R→Bool} {g:FuncId} {c:Value} (I:a0f→Prop) (hI:∀ G G',Ext G G'→I G→I G') (h0:I H) (ha:f0K H v a) (hf:fl≤H.size) (hal:a.length < 1073741824)
  (hg:∀ (fl:Nat) (G:a0f) (v:Value) (e:List b0R),I G→fl≤G.size→b0l G v e→a0P env fl g [v,c] G (fun r H'=>r=.bool (p e)∧Ext G H') R) :
  a0P env fl v0V [v,.func (.func g) #[] #[c]] H (fun r H'=>(∃ z:Int,r=.int .i64 z∧(0≤z ↔ j0g p a=true))∧Ext H H') R:=by
 refine a0l U0T hf (h:=?_)
 intro ρ h1
 simp [H0J,z0f,z0g,h1,ha.slen]
 refine c0h (n:=a.length) (fun i ρ G=>ρ 0=v∧ρ 1=.func (.func g) #[] #[c]∧Ext H G∧j0g p (a.take i)=false)
  rfl rfl (by decide) (by omega) (by simp) (by simp) ?_ ?_ ?_ ?_
 ·exact ⟨by simp [h1],by simp [h1],Ext.refl H,by rw [List.take_zero];exact r0f⟩
 ·intro i ρ ρ' G h hI;simpa [h] using hI
 ·clear h1 ρ
  rintro i ρ G hi gi gn ⟨g0,g1,hx,hc⟩
  have ka:=ha.mono c0G hx
  obtain ⟨w,hl,k0⟩:=f0K.load ka hi
  simp [z0h,z0i,gi,g0,g1,ka.ia hi,hl]
  refine (hg _ _ _ _ (hI _ _ hx h0) hx.1 k0).mono ?_
  rintro _ G2 ⟨rfl,hx2⟩
  have hx':=hx.trans hx2
  cases hp:p a[i]
  ·simp
   exact Rnd.mk (by simp [gi]) (by simp [gn]) ⟨by simp [g0],by simp [g1],hx',by rw [n0u hi,hc,hp];rfl⟩
  ·simp [z0j,gi]
   exact fun _=>r0g hi hp
 ·clear h1 ρ
  rintro ρ G gi gn ⟨g0,g1,hx,hc⟩
  rw [List.take_length] at hc
  simp [z0k,hc]
theorem h0g {a:List (List b0R)} {p:List b0R→Bool} {g:FuncId} {c:Value} (I:a0f→Prop) (hI:∀ G G',Ext G G'→I G→I G') (h0:I H) (ha:f0K H v a) (hf:fl≤H.size) (hal:a.length < 1073741824)
  (hg:∀ (fl:Nat) (G:a0f) (v:Value) (e:List b0R),I G→fl≤G.size→b0l G v e→a0P env fl g [v,c] G (fun r H'=>r=.bool (p e)∧Ext G H') R) :
  a0P env fl v0R [v,.func (.func g) #[] #[c]] H (fun r H'=>r=.bool (j0g p a)∧Ext H H') R:=by
 refine a0l U0A hf (h:=?_)
 intro ρ h1
 simp [H0q,x0z,x0A,h1]
 refine (j0q (p:=p) I hI h0 ha (Nat.le_refl _) hal hg).mono ?_
 rintro _ G2 ⟨⟨z,rfl,hz⟩,hx2⟩
 simp
 intro _
 rw [Bool.eq_iff_iff,decide_eq_true_eq];exact hz
theorem j0R {l:List b0R} {b:Nat} {n:Int} {r:List Value} {e:TypeId} (hl:b0l H v l) (hb:H.blk b=.row false e (.int .i64 n :: r)) (hf:fl≤H.size) :
  a0P env fl v0S [v,.pointer (some ⟨b,0,none⟩)] H (fun r H'=>r=.bool (!decide ((l.length:Int)=n))∧Ext H H') R:=by
 refine a0l U0B hf (h:=?_)
 intro ρ h0
 simp [H0r,x0B,x0C,h0,hl.slen,hb]
 by_cases h:(l.length:Int)=n
 ·simp [h]
 ·simp [h]
def k0m (p:LPt):Bool:=decide (0≤p.n) && decide (p.n≤60) && decide (p.A.length≤60) && decide (p.B.length=p.A.length) && decide ((p.C.length:Int)=p.n) && !j0g (fun r=>!decide ((r.length:Int)=p.n)) p.A
theorem m0i {p:LPt} (h:LPV H v p) (hf:fl≤H.size):a0P env fl Q0Q [v] H (fun r H'=>r=.bool (k0m p)∧Ext H H') R:=by
 obtain ⟨sA,sB,sC,rfl,hA,hB,hC⟩:=h
 refine a0l W0Y hf (h:=?_)
 intro ρ h0
 simp [T0n,L0q,h0,hA.cells,hB.cells,hC.cells]
 generalize hG:Array.push H _=G
 obtain ⟨hx2,b0⟩:=k0C hG
 have hx:=Ext.refl H
 clear hG
 replace hx:=hx.trans hx2
 unfold k0m
 by_cases h1:p.n < 0
 ·have h1':¬ 0≤p.n:=by omega
  simp [k0i,l0s,h0,b0,h1,h1']
 have h1':0≤p.n:=by omega
 by_cases h2:60 < p.n
 ·have h2':¬ p.n≤60:=by omega
  simp [k0i,l0s,h0,b0,h1,h1',h2,h2']
 have h2':p.n≤60:=by omega
 by_cases h3:60 < p.A.length
 ·have h3':¬ p.A.length≤60:=by omega
  have h3'':(60:Int) < (p.A.length:Int):=by omega
  simp [k0i,l0s,h0,b0,h1,h1',h2,h2',h3,h3',h3'',hA.slen]
 have h3':p.A.length≤60:=by omega
 have h3'':¬ (60:Int) < (p.A.length:Int):=by omega
 by_cases h4:p.B.length=p.A.length
 case neg =>
  have h4':¬ (p.B.length:Int)=(p.A.length:Int):=by omega
  simp [k0i,l0s,h0,b0,h1,h1',h2,h2',h3,h3',h3'',h4,h4',hA.slen,hB.slen]
 have h4':(p.B.length:Int)=(p.A.length:Int):=by omega
 by_cases h5:(p.C.length:Int)=p.n
 case neg =>
  simp [k0i,l0s,h0,b0,h1,h1',h2,h2',h3,h3',h3'',h4,h4',h5,hA.slen,hB.slen,hC.slen]
 simp [k0i,L0r,h0,b0,h1,h1',h2,h2',h3,h3',h3'',h4,h4',h5,hA.slen,hB.slen,hC.slen]
 refine (h0g (p:=fun r=>!decide ((r.length:Int)=p.n)) (c:=.pointer (some ⟨H.size,0,none⟩)) (fun G=>a0f.blk G H.size=.row false b0z [.int .i64 p.n,sA,sB,sC]) (fun _ _ hx h=>hx.blk h) b0 (hA.mono c0G hx) hx.1 (by omega)
  (fun fl G v e hb hf hl=>j0R hl hb hf)).mono ?_
 rintro _ G2 ⟨rfl,hx2⟩
 simp
end
/- simplex: right, row. -/
section
open Go
set_option maxHeartbeats 4000000
variable {fl:Nat} {H G:a0f} {R:a0A} {v w u:Value}
theorem e0O {S:Nat} {l:List b0R} (hv:b0l H v l) (hf:fl≤H.size) (hfw:Few S l) (hS:S < 67108864) (hl:l.length < 1073741824) :
  a0P env fl u0k [v] H (fun r H'=>a0Z PR H.size H' a0d 4 r (i0T l)∧Ext H H') R:=by
 refine a0l U0V hf (h:=?_)
 intro ρ h0
 have w1:IntKind.i64.wrap ((l.length:Int) + 1)=(l.length:Int) + 1:=a0L (by omega) (by omega)
 have hm:=S0M (bytes:=64) (k:=.i64) (k':=.i64) (l:=0) (c:=(l.length:Int) + 1) (by omega) (by omega) (by omega) (by omega)
 simp [H0L,z0t,z0u,z0v,h0,hv.slen,w1,hm]
 refine c0h (n:=l.length) (fun i ρ G=>ρ 10=v∧Ext H G∧a0Z PR H.size G a0d 4 (ρ 3) ((i0T l).take i))
  rfl rfl (by decide) (by omega) (by simp) (by simp) ?_ ?_ ?_ ?_
 ·refine ⟨by simp [h0],(Ext.refl H).push,?_⟩
  simp
  exact ⟨[],Own.mk a0y rfl (Nat.le_refl _),fun k hk=>by simp at hk⟩
 ·intro i ρ ρ' G h hI;simpa [h] using hI
 ·clear h0 ρ
  rintro i ρ G hi gi gn ⟨g6,hx,ho⟩
  obtain ⟨s,g3⟩:∃ s,ρ 3=s:=⟨_,rfl⟩
  rw [g3] at ho
  have kv:=hv.mono a0z hx
  obtain ⟨x,hlx,k0⟩:=b0l.load kv hi
  obtain ⟨s1,s2,rfl,k1,k2⟩:=id k0
  have hf2:=hfw _ (List.getElem_mem hi)
  have hsz:=hx.1
  simp [z0w,g6,gi,kv.ia hi,hlx,k1.cells,k1.plain,k2.cells,k2.plain,hsz]
  generalize hN:Array.setIfInBounds (Array.push _ _) _ _=G3
  obtain ⟨hx2,b1⟩:=new1 hN
  clear hN
  replace hx:=hx.trans hx2;replace k0:=k0.mono hx2
  replace ho:=ho.mono a0z hx2
  simp [z0x,b1]
  refine (b0K k0 (b:=e0B) e0t hx.1 (by omega) (by decide)).mono ?_
  rintro _ G2 ⟨⟨s3,s4,rfl,k3,k4⟩,hx2⟩
  replace hx:=hx.trans hx2
  replace ho:=ho.mono a0z hx2
  rw [e0c,Rat.add_zero] at k3 k4 ⊢
  obtain ⟨s',G4,h1,h2,h3,h4⟩:=a0Z.app (P:=PR) (sz:=4) (e:=a0d) (by decide) (fun G' cs x _ hl h=>b0X.lx h hl) ho (e2:=a0d) (c:=1) (bytes:=64) (new:=[.bool (a0e (b0O l[i])).1.1,s3,.bool (a0e (b0O l[i])).2.1,s4]) (x:=a0e (b0O l[i])) ⟨s3,s4,rfl,k3,k4⟩ rfl (by simp [k3.plain,k4.plain]) (by simp;omega) (by omega) (by omega) hx.1
  simp [g3,k3.cells,k4.cells,h1]
  exact Rnd.mk (by simp [gi]) (by simp [gn]) ⟨by simp [g6],h4 _ (Nat.le_refl _) hx,a0Z.cast (v':=s') (by simp) (by unfold i0T;rw [t0I hi];exact h2)⟩
 ·clear h0 ρ
  rintro ρ G gi gn ⟨g6,hx,ho⟩
  obtain ⟨s,g3⟩:∃ s,ρ 3=s:=⟨_,rfl⟩
  rw [g3] at ho
  rw [List.take_of_length_le (by simp [i0T])] at ho
  simp [z0y,g3]
  exact fun _=>ho
def PI (H:a0f) (cs:List Value) (z:Int):Prop:=b0q H (.agg cs.toArray) (a0n z)
theorem c0f:i0Q PI:=fun _ _ _ _ hx h=>b0q.mono h hx
theorem b0q.lx {i:Bool × List Nat} (h:b0q H v i) (hx:Lx H G):b0q G v i:=by obtain ⟨s,h1,h2⟩:=h;exact ⟨s,h1,h2.lx hx⟩
theorem N0A {G3:a0f} {z1 z2 r1 r2:Blk} (hN:Array.setIfInBounds (Array.setIfInBounds (Array.push (Array.push G z1) z2) G.size r1) (G.size + 1) r2=G3):Ext G G3∧a0f.blk G3 G.size=r1∧a0f.blk G3 (G.size + 1)=r2:=by
 rw [← hN];exact new2
theorem a0Z.store {α:Type} {Q:a0f→List Value→α→Prop} {fl e sz:Nat} {v:Value} {l:List α} {j:Nat} {x:α} {w:Value} (h:a0Z Q fl G e sz v l) (hj:j < l.length) (hs:0 < sz) (hw:(a0K w).length=sz) (hp:(a0K w).all a0u=true)
  (hx:∀ G',d0G (slB v) G G'→Lx G G'→Q G' (a0K w) x) (he:e ≠ a0m) (hO:∀ G' cs y,d0G (slB v) G G'→Lx G G'→Q G cs y→Q G' cs y) :
  ∃ G',d0F fl G sz (adr sz v j) w=some G'∧a0Z Q fl G' e sz v (l.set j x)∧d0G (slB v) G G':=by
 obtain ⟨cs,⟨hl,⟨rfl,h0⟩ | ⟨b,cap,rfl,hb,hf⟩⟩,h2⟩:=id h
 ·omega
 have hj2:(j + 1) * sz≤l.length * sz:=Nat.mul_le_mul_right _ hj
 rw [Nat.add_mul,Nat.one_mul] at hj2
 have hst:=q0O (fl:=fl) (b:=b) (o:=0 + j * sz) (n:=sz) (x:=w) hb hf hw (by omega) hp
 have hwe:=g0k (a0K w) cs (0 + j * sz) (by rw [hw];omega)
 have hwl:=c0q (a0K w) cs (0 + j * sz)
 generalize b0r cs (0 + j * sz) (a0K w)=cs' at *
 have hxb:d0G (slB (.slice (some ⟨b,0,none⟩) l.length cap)) G (G.setIfInBounds b (.row false e cs')):=d0G.refl.set
 have hlx:=a0Z.lx h he hxb
 refine ⟨_,hst,⟨cs',⟨by rw [hwl,hl,List.length_set],.inr ⟨b,cap,by rw [List.length_set],by rw [a0R (a0k hb)],hf⟩⟩,fun k hk=>?_⟩,hxb⟩
 rw [List.length_set] at hk
 have hk2:(k + 1) * sz≤l.length * sz:=Nat.mul_le_mul_right _ hk
 rw [Nat.add_mul,Nat.one_mul] at hk2
 rw [Nat.zero_add,hw] at hwe
 by_cases hkj:k=j
 ·subst hkj
  have key:(cs'.drop (k * sz)).take sz=a0K w:=by
   rw [hwe,List.append_assoc,List.drop_left' (by simp;omega),List.take_left' hw]
  rw [List.getElem_set_self,key]
  exact hx _ hxb hlx
 ·rw [List.getElem_set_ne (by omega)]
  have key:(cs'.drop (k * sz)).take sz=(cs.drop (k * sz)).take sz:=by
   rw [hwe]
   apply List.ext_getElem?
   intro i
   by_cases hi:i < sz
   ·rw [List.getElem?_take,if_pos hi,List.getElem?_take,if_pos hi,List.getElem?_drop,List.getElem?_drop]
    by_cases hlt:k < j
    ·have:(k + 1) * sz≤j * sz:=Nat.mul_le_mul_right _ hlt
     rw [Nat.add_mul,Nat.one_mul] at this
     rw [List.append_assoc,List.getElem?_append_left (by simp;omega),List.getElem?_take,if_pos (by omega)]
    ·have:(j + 1) * sz≤k * sz:=Nat.mul_le_mul_right _ (by omega)
     rw [Nat.add_mul,Nat.one_mul] at this
     rw [List.getElem?_append_right (by simp [hw];omega),List.getElem?_drop]
     congr 1
     simp [hw];omega
   ·rw [List.getElem?_take,if_neg hi,List.getElem?_take,if_neg hi]
  rw [key];exact hO _ _ _ hxb hlx (h2 k hk)
structure Whole (xs:List Rat) (zs:List Int) (by':Rat) (K:Nat):Prop where
 len:zs.length=xs.length
 pos:0 < by'
 eq:∀ i (h:i < xs.length),((zs[i]'(by omega):Int):Rat)=xs[i] * by'
 szz:∀ z ∈ zs,lz z≤K
 szb:szR by'≤K
def v0r (H:a0f) (P:Nat) (v:Value) (xs:List Rat) (S:Nat) (i:Nat) (ρ:Nat→Value) (G:a0f):Prop :=
 ρ 0=v∧ρ 22=v∧ρ 3=.pointer (some ⟨H.size,0,none⟩)∧ρ 4=.pointer (some ⟨P,0,none⟩)∧Ext H G ∧
  a0f.blk G H.size=.row false a0d [.bool false,.slice none 0 0,.bool false,.slice none 0 0] ∧
  ∃ (m:Nat) (s:Value),0 < m∧a0f.blk G P=.row false a0c [.bool false,s]∧Lim G s (a0I m)∧(∀ k (h:k < xs.length),k < i→xs[k].den ∣ m)∧lz m≤1 + i * S
theorem t0J (a b:Nat):((a:Int).tdiv (b:Int))=((a / b:Nat):Int):=by rw [Int.tdiv_eq_ediv_of_nonneg (by omega)];rfl
theorem N0u (m q:Nat) (hm:0 < m) (hq:0 < q):m ∣ m * (q / Nat.gcd m q)∧q ∣ m * (q / Nat.gcd m q)∧0 < m * (q / Nat.gcd m q)∧q / Nat.gcd m q≤q:=by
 have hg:=Nat.gcd_pos_of_pos_left q hm
 refine ⟨Nat.dvd_mul_right _ _,?_,Nat.mul_pos hm (Nat.div_pos (Nat.le_of_dvd hq (Nat.gcd_dvd_right m q)) hg),Nat.div_le_self _ _⟩
 obtain ⟨c,hc⟩:=Nat.gcd_dvd_left m q
 have h1:Nat.gcd m q * (q / Nat.gcd m q)=q:=Nat.mul_div_cancel' (Nat.gcd_dvd_right m q)
 refine ⟨c,?_⟩
 calc m * (q / Nat.gcd m q)=(Nat.gcd m q * c) * (q / Nat.gcd m q):=by rw [← hc]
  _=(Nat.gcd m q * (q / Nat.gcd m q)) * c:=by grind
  _=q * c:=by rw [h1]
def k0S (xs:List Rat) (m:Nat):List Int:=xs.map fun x=>x.num * ((m / x.den:Nat):Int)
def v0s (H:a0f) (P P2:Nat) (v:Value) (xs:List Rat) (m K:Nat) (s:Value) (i:Nat) (ρ:Nat→Value) (G:a0f):Prop :=
 ρ 44=v∧ρ 3=.pointer (some ⟨H.size,0,none⟩)∧ρ 4=.pointer (some ⟨P,0,none⟩)∧ρ 11=.pointer (some ⟨P2,0,none⟩)∧Ext H G ∧
  a0f.blk G H.size=.row false a0d [.bool false,.slice none 0 0,.bool false,.slice none 0 0]∧a0f.blk G P=.row false a0c [.bool false,s]∧Lim G s (a0I m) ∧
  slB (ρ 10) ≠ some P∧slB (ρ 10) ≠ some P2 ∧
  ∃ (g:Nat) (sg:Value),a0f.blk G P2=.row false a0c [.bool false,sg]∧Lim G sg (a0I g)∧a0Z PI H.size G a0c 2 (ρ 10) ((k0S xs m).take i) ∧
   (∀ k (h:k < xs.length),k < i→(g:Int) ∣ (k0S xs m).getD k 0)∧lz g≤K∧(i=0→g=0)
def l0B (H:a0f) (P P2:Nat) (so:Value) (xs:List Rat) (m g:Nat) (s sg:Value) (i:Nat) (ρ:Nat→Value) (G:a0f):Prop :=
 ρ 10=so∧ρ 3=.pointer (some ⟨H.size,0,none⟩)∧ρ 4=.pointer (some ⟨P,0,none⟩)∧ρ 11=.pointer (some ⟨P2,0,none⟩)∧Ext H G ∧
  a0f.blk G H.size=.row false a0d [.bool false,.slice none 0 0,.bool false,.slice none 0 0]∧a0f.blk G P=.row false a0c [.bool false,s]∧Lim G s (a0I m) ∧
  a0f.blk G P2=.row false a0c [.bool false,sg]∧Lim G sg (a0I g) ∧
  ∃ L:List Int,a0Z PI H.size G a0c 2 so L∧L.length=xs.length∧∀ k,k < xs.length→L.getD k 0=if k < i then (k0S xs m).getD k 0 / (g:Int) else (k0S xs m).getD k 0
theorem OwnsI.load {fl:Nat} {l:List Int} (h:a0Z PI fl H a0c 2 v l) {j:Nat} (hj:j < l.length):∃ w,b0F H true 2 (adr 2 v j)=some w∧b0q H w (a0n l[j]):=by
 obtain ⟨cs,h1,_,h3⟩:=Sls.load h.sls hj (by omega);exact ⟨_,h1,h3⟩
theorem J0l {z:Int} {g:Nat} (h:(g:Int) ∣ z):lz (z / (g:Int))≤lz z:=by
 refine p0o ?_
 rw [Int.natAbs_ediv_of_dvd h]
 exact Nat.div_le_self _ _
theorem t0K {x:Rat} {m g:Nat} (hm:x.den ∣ m) (hm0:0 < m) (hg:0 < g) (hd:(g:Int) ∣ x.num * ((m / x.den:Nat):Int)) :
  ((x.num * ((m / x.den:Nat):Int) / (g:Int):Int):Rat)=x * Rat.divInt (m:Int) (g:Int):=by
 obtain ⟨c,rfl⟩:=hm
 have hdp:=x.den_pos
 rw [Nat.mul_div_cancel_left _ hdp] at hd ⊢
 obtain ⟨z,hz⟩:=hd
 have hg0:(g:Int) ≠ 0:=by omega
 rw [hz,Int.mul_ediv_cancel_left _ hg0]
 conv=>rhs;lhs;rw [← Rat.num_divInt_den x]
 rw [Rat.divInt_mul_divInt]
 have h1:((z:Int):Rat)=Rat.divInt z 1:=by
  have:=Rat.num_divInt_den (z:Rat)
  rw [Rat.num_intCast,Rat.den_intCast] at this;exact this.symm
 rw [h1,Rat.divInt_eq_divInt_iff (by omega) (Int.mul_ne_zero (by omega) hg0)]
 rw [Int.natCast_mul,Int.mul_one]
 have:x.num * ((x.den:Int) * (c:Int))=(x.den:Int) * (x.num * c):=by grind
 rw [this,hz];grind
theorem l0a {m g:Nat} (hm:0 < m) (hg:0 < g):0 < Rat.divInt (m:Int) (g:Int):=by
 have h1:Rat.divInt (m:Int) (g:Int)=(m:Rat) * (g:Rat)⁻¹:=by rw [← Rat.div_def];exact Rat.divInt_eq_div _ _
 rw [h1]
 exact Rat.mul_pos (Rat.natCast_pos.2 hm) (Rat.inv_pos.2 (Rat.natCast_pos.2 hg))
theorem f0C {S:Nat} {xs:List Rat} (hv:b0l H v (xs.map a0e)) (hf:fl≤H.size) (hS:∀ x ∈ xs,szR x≤S) (hK:(xs.length + 2) * (S + 1) < 67108864) :
  a0P env fl u0j [v] H (fun r H'=>(∃ q1 q2 by' zs,r=.tuple #[q1,q2]∧Whole xs zs by' ((xs.length + 2) * (S + 1))∧a0Z PI H.size H' a0c 2 q1 zs∧b0X H' q2 (a0e by'))∧Ext H H') R:=by
 refine a0l U0U hf (h:=?_)
 intro ρ h0
 have hxl:xs.length < 67108864:=by
  have:(xs.length + 2) * 1≤(xs.length + 2) * (S + 1):=Nat.mul_le_mul_left _ (by omega)
  omega
 have hvl:=hv.slen
 rw [List.length_map] at hvl
 simp [H0K,z0l,h0]
 generalize hG:Array.push H _=G
 obtain ⟨hx2,b0⟩:=k0C hG
 have hx:=Ext.refl H
 clear hG
 replace hx:=hx.trans hx2
 simp [z0m]
 refine (c0i (n:=1) hx.1 (by omega) (by omega)).mono ?_
 rintro _ G2 ⟨⟨s1,rfl,k0⟩,hx2⟩
 replace b0:=hx2.blk b0;replace hx:=hx.trans hx2
 have hsz:=hx.1
 simp [h0,k0.cells,k0.plain,hsz]
 generalize hN:Array.setIfInBounds (Array.push _ _) _ _=G3
 obtain ⟨hx2,b1⟩:=new1 hN
 have hb0l:=a0k b0
 clear hN
 replace b0:=hx2.blk b0;replace hx:=hx.trans hx2;replace k0:=k0.mono hx2
 obtain ⟨P,hP⟩:∃ P,P=G2.size:=⟨_,rfl⟩
 rw [← hP] at b1 hsz hb0l ⊢
 simp [z0n,h0,hvl]
 have h1c:a0n 1=(false,a0I 1):=a0s 1
 rw [h1c] at b1 k0
 refine c0h (n:=xs.length) (v0r H P v xs S) rfl rfl (by decide) (by omega) (by simp) (by simp) ?_ ?_ ?_ ?_
 ·exact ⟨by simp [h0],by simp [h0],by simp,by simp,hx,b0,1,s1,by omega,b1,k0,fun k _ hk=>by omega,by rw [show ((1:Nat):Int)=1 from rfl,f0b];omega⟩
 ·intro i ρ ρ' G h hI;simpa [v0r,h] using hI
 ·clear h0 ρ hx b0 b1 k0 hx2
  rintro i ρ G hi gi gn ⟨g0,g22,g3,g4,hx,b0,m,s,hm0,b1,k0,hdv,hlm⟩
  have kv:=hv.mono a0z hx
  have hil:i < (xs.map a0e).length:=by simpa using hi
  obtain ⟨x,hlx,k1⟩:=b0l.load kv hil
  rw [List.getElem_map] at k1
  obtain ⟨s1,s2,rfl,k2,k3⟩:=id k1
  have hsx:=hS _ (List.getElem_mem hi)
  have hsz:=hx.1
  have hden:=xs[i].den_pos
  simp [z0o,g22,gi,kv.ia hil,hlx,k2.cells,k2.plain,k3.cells,k3.plain,hsz]
  generalize hN:Array.setIfInBounds (Array.push _ _) _ _=G3
  obtain ⟨hx2,b2⟩:=new1 hN
  clear hN
  replace b0:=hx2.blk b0;replace b1:=hx2.blk b1;replace hx:=hx.trans hx2;replace k0:=k0.mono hx2;replace k1:=k1.mono hx2;replace k2:=k2.mono hx2;replace k3:=k3.mono hx2
  have e2:(a0e xs[i]).2=a0n ((xs[i].den:Nat):Int):=rfl
  rw [e2] at k3 b2
  have k4:b0q G3 (.agg #[.bool false,s]) (a0n (m:Int)):=⟨s,by rw [a0s],by rw [a0s];exact k0⟩
  have k5:b0q G3 (.agg #[.bool (a0n ((xs[i].den:Nat):Int)).1,s2]) (a0n ((xs[i].den:Nat):Int)):=⟨s2,rfl,k3⟩
  have hld:=e0W xs[i]
  have hiS:i * S≤xs.length * S:=Nat.mul_le_mul_right _ (by omega)
  have hKe:(xs.length + 2) * (S + 1)=xs.length * S + xs.length + 2 * S + 2:=by grind
  refine a0v ?_
  simp [z0p,g4,b1,b2]
  refine (e0H k4 k5 (by have:=hx.1;omega) (by rw [a0j];omega) (by rw [a0j];omega)).mono ?_
  rintro _ G4 ⟨k6,hx2⟩
  replace b0:=hx2.blk b0;replace b1:=hx2.blk b1;replace b2:=hx2.blk b2;replace hx:=hx.trans hx2;replace k0:=k0.mono hx2;replace k1:=k1.mono hx2;replace k2:=k2.mono hx2;replace k3:=k3.mono hx2;replace k4:=k4.mono hx2;replace k5:=k5.mono hx2
  rw [a0i,a0i] at k6
  simp
  have hgg:Int.gcd (m:Int) (xs[i].den:Int)=Nat.gcd m xs[i].den:=rfl
  rw [hgg] at k6
  have hgp:=Nat.gcd_pos_of_pos_left xs[i].den hm0
  have hlg:lz (Nat.gcd m xs[i].den:Int)≤lz m:=b0n (Nat.gcd_le_left _ hm0)
  refine (b0S k5 k6 (by have:=hx.1;omega) (by rw [a0j];omega) (by rw [a0j];omega) (by rw [a0i];omega)).mono ?_
  rintro _ G4 ⟨⟨_,_,rfl,⟨s3,rfl,k7⟩,⟨s4,rfl,k8⟩⟩,hx2⟩
  replace b0:=hx2.blk b0;replace b1:=hx2.blk b1;replace b2:=hx2.blk b2;replace hx:=hx.trans hx2;replace k0:=k0.mono hx2;replace k1:=k1.mono hx2;replace k2:=k2.mono hx2;replace k3:=k3.mono hx2;replace k4:=k4.mono hx2;replace k5:=k5.mono hx2;replace k6:=k6.mono hx2
  rw [a0i,a0i,t0J] at k7 ⊢
  rw [a0i,a0i] at k8
  have hsz:=hx.1
  have hsz1:H.size≤G4.size + 1:=by omega
  simp [k7.cells,k7.plain,k8.cells,k8.plain,hsz,hsz1]
  generalize hN:Array.setIfInBounds (Array.setIfInBounds (Array.push (Array.push _ _) _) _ _) _ _=G5
  obtain ⟨hx2,b3,_⟩:=N0A hN
  clear hN
  replace b0:=hx2.blk b0;replace b1:=hx2.blk b1;replace b2:=hx2.blk b2;replace hx:=hx.trans hx2;replace k0:=k0.mono hx2;replace k1:=k1.mono hx2;replace k2:=k2.mono hx2;replace k3:=k3.mono hx2;replace k4:=k4.mono hx2;replace k5:=k5.mono hx2;replace k6:=k6.mono hx2;replace k7:=k7.mono hx2;replace k8:=k8.mono hx2
  simp [z0q,g4,b1,b3]
  obtain ⟨hl1,hl2,hl3,hl4⟩:=N0u m xs[i].den hm0 hden
  have hlq:lz ((xs[i].den / Nat.gcd m xs[i].den:Nat):Int)≤lz (xs[i].den:Int):=b0n hl4
  refine (b0j k4 (j:=a0n ((xs[i].den / Nat.gcd m xs[i].den:Nat):Int)) ⟨s3,rfl,k7⟩ hx.1 (by rw [a0j];omega) (by rw [a0j];omega)).mono ?_
  rintro _ G6 ⟨⟨s5,rfl,k8⟩,hx2⟩
  replace b0:=hx2.blk b0;replace b1:=hx2.blk b1;replace b2:=hx2.blk b2;replace b3:=hx2.blk b3;replace hx:=hx.trans hx2;replace k0:=k0.mono hx2;replace k1:=k1.mono hx2;replace k2:=k2.mono hx2;replace k3:=k3.mono hx2;replace k4:=k4.mono hx2;replace k5:=k5.mono hx2;replace k6:=k6.mono hx2;replace k7:=k7.mono hx2
  rw [a0i,a0i,← Int.natCast_mul,a0s] at k8 ⊢
  have hPs:H.size≤P:=by assumption
  simp [g4,b1,k8.cells,k8.plain,hPs]
  generalize hS':Array.setIfInBounds _ _ _=G7
  have hne:P ≠ H.size:=by omega
  have hx':=b0x hS' hx hPs
  have b0':=a0F hS' b0 hne
  have k8':=k8.setS hS' b1 (by decide)
  have b1':=a0C hS' b1
  have hlm2:=c0F (m:Int) ((xs[i].den / Nat.gcd m xs[i].den:Nat):Int)
  refine Rnd.mk (by simp [gi]) (by simp [gn]) ⟨by simp [g0],by simp [g22],by simp [g3],by simp [g4],hx',b0',m * (xs[i].den / Nat.gcd m xs[i].den),s5,hl3,b1',k8',fun k h hk=>?_,?_⟩
  ·by_cases hki:k=i
   ·subst hki;exact hl2
   ·exact Nat.dvd_trans (hdv k h (by omega)) hl1
  ·rw [Int.natCast_mul,Nat.add_mul,Nat.one_mul];omega
 ·clear h0 ρ hx b0 b1 k0 hx2
  rintro ρ G gi gn ⟨g0,g22,g3,g4,hx,b0,m,s,hm0,b1,k0,hdv,hlm⟩
  have hPs:H.size≤P:=by assumption
  have hKe:(xs.length + 2) * (S + 1)=xs.length * S + xs.length + 2 * S + 2:=by grind
  have hK2:(xs.length + 1) * (S + 1)≤(xs.length + 2) * (S + 1):=Nat.mul_le_mul_right _ (by omega)
  have hsz:=hx.1
  have hb1l:=a0k b1
  simp [z0r,z0s,hsz]
  generalize hN:Array.setIfInBounds (Array.push _ _) _ _=G3
  obtain ⟨hx2,b2⟩:=new1 hN
  clear hN
  replace b0:=hx2.blk b0;replace b1:=hx2.blk b1;replace hx:=hx.trans hx2;replace k0:=k0.mono hx2
  obtain ⟨P2,hP2⟩:∃ P2,P2=G.size:=⟨_,rfl⟩
  rw [← hP2] at b2 hsz hb1l ⊢
  simp [r0R,g0,hvl]
  refine c0h (n:=xs.length) (v0s H P P2 v xs m ((xs.length + 1) * (S + 1)) s) rfl rfl (by decide) (by omega) (by simp) (by simp) ?_ ?_ ?_ ?_
  ·exact ⟨by simp [g0],by simp [g3],by simp [g4],by simp,hx,b0,b1,k0,by simp [slB],by simp [slB],0,_,b2,by rw [b0o];exact Lim.nil,by simpa using a0Z.nil,fun k _ hk=>by omega,by rw [show ((0:Nat):Int)=0 from rfl,c0L];omega,fun _=>rfl⟩
  ·intro i ρ ρ' G h hI;simpa [v0s,h] using hI
  ·clear g0 g22 g3 g4 gi gn hx b0 b1 b2 k0 hx2 ρ
   rintro i ρ G hi gi gn ⟨g44,g3,g4,g11,hx,b0,b1,k0,ns1,ns2,g,sg,b2,k1,ho,hdg,hlg,hg0⟩
   obtain ⟨so,g10⟩:∃ so,ρ 10=so:=⟨_,rfl⟩
   rw [g10] at ns1 ns2 ho
   have kv:=hv.mono a0z hx
   have hil:i < (xs.map a0e).length:=by simpa using hi
   obtain ⟨x,hlx,k2⟩:=b0l.load kv hil
   rw [List.getElem_map] at k2
   obtain ⟨s1,s2,rfl,k3,k4⟩:=k2
   have hsx:=hS _ (List.getElem_mem hi)
   have hsz:=hx.1
   have hden:=xs[i].den_pos
   have hln:=e0d xs[i]
   have hld:=e0W xs[i]
   have hyl:i < (k0S xs m).length:=by simpa [k0S] using hi
   have hyi:(k0S xs m)[i]=xs[i].num * ((m / xs[i].den:Nat):Int):=by simp [k0S]
   have hyd:(k0S xs m).getD i 0=xs[i].num * ((m / xs[i].den:Nat):Int):=by rw [List.getD_eq_getElem?_getD,List.getElem?_eq_getElem hyl,← hyi];rfl
   obtain ⟨y,hy⟩:∃ y,y=xs[i].num * ((m / xs[i].den:Nat):Int):=⟨_,rfl⟩
   have hly:lz y≤(xs.length + 1) * (S + 1):=by
    have h1:=c0F xs[i].num ((m / xs[i].den:Nat):Int)
    have h2:lz ((m / xs[i].den:Nat):Int)≤lz m:=b0n (Nat.div_le_self _ _)
    have h3:(xs.length + 1) * (S + 1)=xs.length * S + xs.length + S + 1:=by grind
    rw [hy];omega
   simp [r0S,g44,gi,kv.ia hil,hlx,k3.cells,k3.plain,k4.cells,k4.plain,hsz]
   generalize hN:Array.setIfInBounds (Array.push _ _) _ _=G3
   obtain ⟨hx2,b3⟩:=new1 hN
   clear hN
   replace b0:=hx2.blk b0;replace b1:=hx2.blk b1;replace b2:=hx2.blk b2;replace hx:=hx.trans hx2;replace k0:=k0.mono hx2;replace k1:=k1.mono hx2;replace k3:=k3.mono hx2;replace k4:=k4.mono hx2
   replace ho:=ho.mono c0f hx2
   have e2:(a0e xs[i]).2=a0n ((xs[i].den:Nat):Int):=rfl
   have e1:(a0e xs[i]).1=a0n xs[i].num:=rfl
   rw [e1] at k3
   rw [e2] at k4
   rw [e1,e2] at b3
   simp [r0T,g4,b1,b3]
   refine (b0S (i:=a0n (m:Int)) (j:=a0n ((xs[i].den:Nat):Int)) ⟨s,by rw [a0s],by rw [a0s];exact k0⟩ ⟨s2,rfl,k4⟩ hx.1 (by rw [a0j];omega) (by rw [a0j];omega) (by rw [a0i];omega)).mono ?_
   rintro _ G4 ⟨⟨_,_,rfl,⟨s3,rfl,k5⟩,⟨s4,rfl,k6⟩⟩,hx2⟩
   replace b0:=hx2.blk b0;replace b1:=hx2.blk b1;replace b2:=hx2.blk b2;replace b3:=hx2.blk b3;replace hx:=hx.trans hx2;replace k0:=k0.mono hx2;replace k1:=k1.mono hx2;replace k3:=k3.mono hx2
   replace ho:=ho.mono c0f hx2
   rw [a0i,a0i,t0J] at k5 ⊢
   rw [a0i,a0i] at k6
   have hsz:=hx.1
   have hsz1:H.size≤G4.size + 1:=by omega
   simp [k5.cells,k5.plain,k6.cells,k6.plain,hsz,hsz1]
   generalize hN:Array.setIfInBounds (Array.setIfInBounds (Array.push (Array.push _ _) _) _ _) _ _=G5
   obtain ⟨hx2,b4,_⟩:=N0A hN
   clear hN
   replace b0:=hx2.blk b0;replace b1:=hx2.blk b1;replace b2:=hx2.blk b2;replace b3:=hx2.blk b3;replace hx:=hx.trans hx2;replace k0:=k0.mono hx2;replace k1:=k1.mono hx2;replace k3:=k3.mono hx2;replace k5:=k5.mono hx2;replace k6:=k6.mono hx2
   replace ho:=ho.mono c0f hx2
   have hlq:lz ((m / xs[i].den:Nat):Int)≤lz m:=b0n (Nat.div_le_self _ _)
   simp [r0U,b3,b4]
   refine (b0j (i:=a0n xs[i].num) (j:=a0n ((m / xs[i].den:Nat):Int)) ⟨s1,rfl,k3⟩ ⟨s3,rfl,k5⟩ hx.1 (by rw [a0j];omega) (by rw [a0j];omega)).mono ?_
   rintro _ G6 ⟨⟨s5,rfl,k7⟩,hx2⟩
   replace b0:=hx2.blk b0;replace b1:=hx2.blk b1;replace b2:=hx2.blk b2;replace b3:=hx2.blk b3;replace b4:=hx2.blk b4;replace hx:=hx.trans hx2;replace k0:=k0.mono hx2;replace k1:=k1.mono hx2;replace k3:=k3.mono hx2;replace k5:=k5.mono hx2;replace k6:=k6.mono hx2
   replace ho:=ho.mono c0f hx2
   rw [a0i,a0i,← hy] at k7 ⊢
   have hsz:=hx.1
   have hso:∀ b,slB so=some b→b < G6.size:=fun b h=>(ho.ge h).2
   simp [k7.cells,k7.plain,hsz]
   generalize hN:Array.setIfInBounds (Array.push _ _) _ _=G7
   obtain ⟨hx2,b5⟩:=new1 hN
   clear hN b3 b4
   replace b0:=hx2.blk b0;replace b1:=hx2.blk b1;replace b2:=hx2.blk b2;replace hx:=hx.trans hx2;replace k0:=k0.mono hx2;replace k1:=k1.mono hx2;replace k3:=k3.mono hx2;replace k5:=k5.mono hx2;replace k6:=k6.mono hx2;replace k7:=k7.mono hx2
   replace ho:=ho.mono c0f hx2
   obtain ⟨Y,hY⟩:∃ Y,Y=G6.size:=⟨_,rfl⟩
   rw [← hY] at b5 hso ⊢
   have ns3:slB so ≠ some Y:=fun h=>by have:=hso _ h;omega
   have ns0:=ho.ne b0 (by decide)
   obtain ⟨so',G8,h1,h2,h3,h4⟩:=a0Z.app (P:=PI) (sz:=2) (e:=a0c) (by decide) (fun G' cs x _ hl h=>b0q.lx h hl) ho (e2:=a0c) (c:=1) (bytes:=32) (new:=[.bool (a0n y).1,s5]) (x:=y) ⟨s5,rfl,k7⟩ rfl (by simp [k7.plain]) (by simp;omega) (by omega) (by omega) hx.1
   obtain ⟨_,_,hfr⟩:=d0W (by decide) h1
   have hfs:slB so' = some (G7.size + 1):=by rw [hfr];simp [slB]
   simp [r0V,g10,b5,k7.cells,h1]
   have hlx8:=ho.lx (by decide) h3
   have hP1l:=a0k b1
   have hP2l:=a0k b2
   replace b0:=(h3.2 _ (a0k b0) ns0).trans b0
   replace b1:=(h3.2 _ (a0k b1) ns1).trans b1
   replace b2:=(h3.2 _ (a0k b2) ns2).trans b2
   replace b5:=(h3.2 _ (a0k b5) ns3).trans b5
   replace hx:=h4 _ (Nat.le_refl _) hx
   replace k0:=k0.lx hlx8
   replace k1:=k1.lx hlx8
   replace k7:=k7.lx hlx8
   simp [r0W,g11,b2,b5]
   refine (e0H (i:=a0n (g:Int)) (j:=a0n y) ⟨sg,by rw [a0s],by rw [a0s];exact k1⟩ ⟨s5,rfl,k7⟩ hx.1 (by rw [a0j];omega) (by rw [a0j];omega)).mono ?_
   rintro _ G9 ⟨⟨s6,rfl,k8⟩,hx2⟩
   replace b0:=hx2.blk b0;replace b1:=hx2.blk b1;replace b2:=hx2.blk b2;replace hx:=hx.trans hx2;replace k0:=k0.mono hx2;replace k1:=k1.mono hx2
   replace h2:=h2.mono c0f hx2
   rw [a0i,a0i,a0s] at k8 ⊢
   have hP2s:H.size≤P2:=by assumption
   simp [g11,b2,k8.cells,k8.plain,hP2s]
   generalize hS':Array.setIfInBounds _ _ _=G10
   have hxb:d0G (some P2) G9 G10:=by rw [← hS'];exact d0G.refl.set
   have hlx10:Lx G9 G10:=a0V hS' b2 (by decide)
   have hne:P2 ≠ H.size:=by omega
   have hne2:P2 ≠ P:=by omega
   refine Rnd.mk (by simp [gi]) (by simp [gn]) ⟨by simp [g44],by simp [g3],by simp [g4],by simp [g11],b0x hS' hx hP2s,a0F hS' b0 hne,a0F hS' b1 hne2,k0.lx hlx10,by simp [hfs];omega,by simp [hfs];omega,Int.gcd g y,s6,a0C hS' b2,k8.lx hlx10,?_,?_,?_,by omega⟩
   ·refine a0Z.cast (v':=so') (by simp) ?_
    rw [List.take_succ_eq_append_getElem hyl,hyi,← hy]
    exact h2.off hxb (.inr (by rw [hfs];simp;omega)) (fun cs x h=>b0q.lx h hlx10)
   ·intro k h hk
    by_cases hki:k=i
    ·subst hki;rw [hyd,← hy];exact Int.gcd_dvd_right ..
    ·exact Int.dvd_trans (Int.gcd_dvd_left ..) (hdg k h (by omega))
   ·by_cases hy0:y=0
    ·rw [hy0,Int.gcd_zero_right];exact hlg
    ·exact Nat.le_trans (b0n (Int.gcd_le_natAbs_right _ hy0)) hly
  ·clear g0 g22 g3 g4 gi gn hx b0 b1 b2 k0 hx2 ρ
   rintro ρ G gi gn ⟨g44,g3,g4,g11,hx,b0,b1,k0,ns1,ns2,g,sg,b2,k1,ho,hdg,hlg,hg0⟩
   obtain ⟨so,g10⟩:∃ so,ρ 10=so:=⟨_,rfl⟩
   rw [g10] at ns1 ns2 ho
   have hyl:(k0S xs m).length=xs.length:=by simp [k0S]
   rw [List.take_of_length_le (by omega)] at ho
   have hv0:a0O (false,[])=0:=by unfold a0O j0T;simp [a0D]
   simp [r0X,g11,b2]
   refine (c0M (i:=a0n (g:Int)) (j:=(false,[])) ⟨sg,by rw [a0s],by rw [a0s];exact k1⟩ ⟨_,rfl,Lim.nil⟩ hx.1 (by rw [a0j];omega) (by simp)).mono ?_
   rintro _ G2 ⟨rfl,hx2⟩
   replace b0:=hx2.blk b0;replace b1:=hx2.blk b1;replace b2:=hx2.blk b2;replace hx:=hx.trans hx2;replace k0:=k0.mono hx2;replace k1:=k1.mono hx2
   replace ho:=ho.mono c0f hx2
   rw [hv0,a0i]
   have hP2s:H.size≤P2:=by assumption
   have hne:P2 ≠ H.size:=by omega
   have hne2:P2 ≠ P:=by omega
   by_cases hg:g=0
   ·have hcz:b0T (g:Int) 0=0:=by rw [hg];rfl
    simp [hcz,r0Y]
    refine (c0i (n:=1) hx.1 (by omega) (by omega)).mono ?_
    rintro _ G2 ⟨⟨s6,rfl,k3⟩,hx2⟩
    replace b0:=hx2.blk b0;replace b1:=hx2.blk b1;replace b2:=hx2.blk b2;replace hx:=hx.trans hx2;replace k0:=k0.mono hx2;replace k1:=k1.mono hx2
    replace ho:=ho.mono c0f hx2
    have h1c:a0n 1=(false,a0I 1):=a0s 1
    rw [h1c] at k3 ⊢
    simp [g11,b2,k3.cells,k3.plain,hP2s]
    generalize hS':Array.setIfInBounds _ _ _=G3
    have hxb:d0G (some P2) G2 G3:=by rw [← hS'];exact d0G.refl.set
    have hlx3:Lx G2 G3:=a0V hS' b2 (by decide)
    replace ho:=ho.off hxb (.inr ns2) (fun cs x h=>b0q.lx h hlx3)
    replace hx:=b0x hS' hx hP2s
    replace b0:=a0F hS' b0 hne
    replace b1:=a0F hS' b1 hne2
    replace b2:=a0C hS' b2
    replace k0:=k0.lx hlx3
    clear k1
    have k1:=k3.lx hlx3
    obtain ⟨sg2,hs2⟩:∃ x,x=s6:=⟨_,rfl⟩
    rw [← hs2] at k1 b2
    obtain ⟨gg,hgg⟩:∃ gg:Nat,(gg=g∧0 < g) ∨ gg=1:=⟨1,.inr rfl⟩
    have hg1:(1:Nat)=gg:=by rcases hgg with ⟨h,h'⟩ | h <;> omega
    rw [hg1] at k1
    have hdg':∀ k,k < xs.length→(gg:Int) ∣ (k0S xs m).getD k 0:=fun k hk=>by
     rcases hgg with ⟨h,_⟩ | h
     ·rw [h];exact hdg k hk hk
     ·rw [h];exact Int.one_dvd _
    have hgp:0 < gg:=by rcases hgg with ⟨h,h'⟩ | h <;> omega
    have hK4:(xs.length + 1) * (S + 1)=xs.length * S + xs.length + S + 1:=by grind
    have hlgg:lz gg≤(xs.length + 1) * (S + 1):=by
     rcases hgg with ⟨h,_⟩ | h
     ·rw [h];exact hlg
     ·rw [h,show ((1:Nat):Int)=1 from rfl,f0b];omega
    have hly:∀ k (h:k < xs.length),lz (xs[k].num * ((m / xs[k].den:Nat):Int))≤(xs.length + 1) * (S + 1):=fun k hk=>by
     have h1:=c0F xs[k].num ((m / xs[k].den:Nat):Int)
     have h2:lz ((m / xs[k].den:Nat):Int)≤lz m:=b0n (Nat.div_le_self _ _)
     have h4:=e0d xs[k]
     have h5:=hS _ (List.getElem_mem hk)
     omega
    have hyD:∀ k (h:k < xs.length),(k0S xs m).getD k 0=xs[k].num * ((m / xs[k].den:Nat):Int):=fun k hk=>by
     rw [List.getD_eq_getElem?_getD,List.getElem?_eq_getElem (by omega)];simp [k0S]
    simp [m0K,g10,ho.slen,hyl]
    refine c0h (n:=xs.length) (l0B H P P2 so xs m gg s sg2) rfl rfl (by decide) (by omega) (by simp) (by simp) ?_ ?_ ?_ ?_
    ·exact ⟨by simp [g10],by simp [g3],by simp [g4],by simp [g11],hx,b0,b1,k0,b2,k1,k0S xs m,ho,hyl,fun k _=>by simp⟩
    ·intro i ρ ρ' G h hI;simpa [l0B,h] using hI
    ·clear g44 g3 g4 g11 g10 gi gn hx b0 b1 b2 k0 k1 ho hx2 ρ
     rintro i ρ G hi gi gn ⟨g10,g3,g4,g11,hx,b0,b1,k0,b2,k1,L,ho,hL,hLk⟩
     have hiL:i < L.length:=by omega
     have hLi:L[i]=(k0S xs m).getD i 0:=by
      have:=hLk i hi
      rw [if_neg (by omega),List.getD_eq_getElem?_getD,List.getElem?_eq_getElem hiL] at this;exact this
     obtain ⟨wi,hli,kwi⟩:=OwnsI.load ho hiL
     have hlz:lz L[i] < 67108864:=by
      have:=hly i hi
      rw [hLi,hyD i hi];omega
     simp [m0L,gi]
     refine a0v ?_
     simp [m0M,g10,g11,ho.sls.ia hiL,hli,b2]
     refine (b0S (j:=a0n (gg:Int)) kwi ⟨sg2,by rw [a0s],by rw [a0s];exact k1⟩ hx.1 (by rw [a0j];omega) (by rw [a0j];omega) (by rw [a0i];omega)).mono ?_
     rintro _ G4 ⟨⟨_,_,rfl,⟨s3,rfl,k5⟩,_⟩,hx2⟩
     replace b0:=hx2.blk b0;replace b1:=hx2.blk b1;replace b2:=hx2.blk b2;replace hx:=hx.trans hx2;replace k0:=k0.mono hx2;replace k1:=k1.mono hx2
     replace ho:=ho.mono c0f hx2
     have hdv2:(gg:Int) ∣ L[i]:=by rw [hLi];exact hdg' i hi
     rw [a0i,a0i,Int.tdiv_eq_ediv_of_dvd hdv2] at k5 ⊢
     have ns0:=ho.ne b0 (by decide)
     obtain ⟨G5,hst,ho2,hxb⟩:=a0Z.store (j:=i) (x:=L[i] / (gg:Int)) (w:=.agg #[.bool (a0n (L[i] / (gg:Int))).1,s3]) ho hiL (by omega) rfl (by simp [k5.plain]) (fun G' _ hl=>⟨s3,rfl,k5.lx hl⟩) (by decide) (fun G' cs y _ hl h=>b0q.lx h hl)
     have hlx5:=ho.lx (by decide) hxb
     simp [g10,ho.sls.ia hiL,hst]
     have hx5:Ext H G5:=⟨Nat.le_trans hx.1 hxb.1,fun b hb=>(hxb.2 b (Nat.lt_of_lt_of_le hb hx.1) (fun h=>by have:=(ho.ge h).1;omega)).trans (hx.2 b hb)⟩
     refine Rnd.mk (by simp [gi]) (by simp [gn]) ⟨by simp [g10],by simp [g3],by simp [g4],by simp [g11],hx5,(hxb.2 _ (a0k b0) ns0).trans b0,(hxb.2 _ (a0k b1) ns1).trans b1,k0.lx hlx5,(hxb.2 _ (a0k b2) ns2).trans b2,k1.lx hlx5,L.set i (L[i] / (gg:Int)),ho2,by simpa using hL,fun k hk=>?_⟩
     by_cases hki:k=i
     ·subst hki
      rw [if_pos (by omega),List.getD_eq_getElem?_getD,List.getElem?_set_self hiL,Option.getD_some,hLi]
     ·rw [List.getD_eq_getElem?_getD,List.getElem?_set_ne (by omega),← List.getD_eq_getElem?_getD,hLk k hk]
      by_cases hlt:k < i
      ·rw [if_pos hlt,if_pos (by omega)]
      ·rw [if_neg hlt,if_neg (by omega)]
    ·clear g44 g3 g4 g11 g10 gi gn hx b0 b1 b2 k0 k1 ho hx2 ρ
     rintro ρ G gi gn ⟨g10,g3,g4,g11,hx,b0,b1,k0,b2,k1,L,ho,hL,hLk⟩
     simp [m0N,g4,g11,b1,b2]
     refine (d0o (i:=a0n (m:Int)) (j:=a0n (gg:Int)) ⟨s,by rw [a0s],by rw [a0s];exact k0⟩ ⟨sg2,by rw [a0s],by rw [a0s];exact k1⟩ hx.1 (by rw [a0j];omega) (by rw [a0j];omega) (by rw [a0i];omega)).mono ?_
     rintro _ G4 ⟨⟨_,rfl,s3,s4,rfl,k5,k6⟩,hx2⟩
     replace b0:=hx2.blk b0;replace b1:=hx2.blk b1;replace b2:=hx2.blk b2;replace hx:=hx.trans hx2;replace k0:=k0.mono hx2;replace k1:=k1.mono hx2
     replace ho:=ho.mono c0f hx2
     rw [a0i,a0i] at k5 k6 ⊢
     have hsz:=hx.1
     simp [k5.cells,k5.plain,k6.cells,k6.plain,hsz]
     generalize hN:Array.setIfInBounds (Array.push _ _) _ _=G5
     obtain ⟨hx2,b3⟩:=new1 hN
     clear hN
     replace b0:=hx2.blk b0;replace b1:=hx2.blk b1;replace b2:=hx2.blk b2;replace hx:=hx.trans hx2;replace k0:=k0.mono hx2;replace k1:=k1.mono hx2;replace k5:=k5.mono hx2;replace k6:=k6.mono hx2
     replace ho:=ho.mono c0f hx2
     refine a0v ?_
     have hz:=a0k b0
     simp [m0O,g3,g10,b0,b3,k5.cells,k5.plain,k6.cells,k6.plain,hz]
     generalize hS':Array.setIfInBounds _ _ _=G6
     refine fun _=>?_
     have hl6:Lx _ G6:=a0V hS' b0 (by decide)
     have hl7:LxT a0c _ G6:=a0V hS' b0 (by decide)
     refine ⟨so,_,⟨rfl,rfl⟩,Rat.divInt m gg,L,?_,ho.lxm hl7 (fun cs x h=>b0q.lx h hl6),s3,s4,rfl,k5.lx hl6,k6.lx hl6⟩
     have hLv:∀ k (h:k < xs.length),L[k]'(by omega)=xs[k].num * ((m / xs[k].den:Nat):Int) / (gg:Int)∧(gg:Int) ∣ xs[k].num * ((m / xs[k].den:Nat):Int):=by
      intro k hk
      have h1:=hLk k hk
      have h2:=hdg' k hk
      have h3:=hyD k hk
      rw [if_pos hk,h3,List.getD_eq_getElem?_getD,List.getElem?_eq_getElem (by omega)] at h1
      rw [h3] at h2
      exact ⟨h1,h2⟩
     refine ⟨hL,?_,fun k hk=>?_,fun z hz=>?_,?_⟩
     ·exact l0a hm0 hgp
     ·rw [(hLv k hk).1];exact t0K (hdv k hk hk) hm0 hgp (hLv k hk).2
     ·obtain ⟨k,hk,rfl⟩:=List.getElem_of_mem hz
      have hk':k < xs.length:=by omega
      have h1:=hly k hk'
      have h6:=J0l (hLv k hk').2
      rw [(hLv k hk').1]
      omega
     ·have:=b0k (m:Int) (gg:Int)
      omega
   ·have hcz:¬ b0T (g:Int) 0=0:=by unfold b0T;split;omega;split <;> omega
    simp [hcz]
    obtain ⟨sg2,hs2⟩:∃ x,x=sg:=⟨_,rfl⟩
    rw [← hs2] at k1 b2
    obtain ⟨gg,hgg1,hgg⟩:∃ gg:Nat,gg=g∧((gg=g∧0 < g) ∨ gg=1):=⟨g,rfl,.inl ⟨rfl,by omega⟩⟩
    have hg1:g=gg:=hgg1.symm
    rw [hg1] at k1
    have hdg':∀ k,k < xs.length→(gg:Int) ∣ (k0S xs m).getD k 0:=fun k hk=>by
     rcases hgg with ⟨h,_⟩ | h
     ·rw [h];exact hdg k hk hk
     ·rw [h];exact Int.one_dvd _
    have hgp:0 < gg:=by rcases hgg with ⟨h,h'⟩ | h <;> omega
    have hK4:(xs.length + 1) * (S + 1)=xs.length * S + xs.length + S + 1:=by grind
    have hlgg:lz gg≤(xs.length + 1) * (S + 1):=by
     rcases hgg with ⟨h,_⟩ | h
     ·rw [h];exact hlg
     ·rw [h,show ((1:Nat):Int)=1 from rfl,f0b];omega
    have hly:∀ k (h:k < xs.length),lz (xs[k].num * ((m / xs[k].den:Nat):Int))≤(xs.length + 1) * (S + 1):=fun k hk=>by
     have h1:=c0F xs[k].num ((m / xs[k].den:Nat):Int)
     have h2:lz ((m / xs[k].den:Nat):Int)≤lz m:=b0n (Nat.div_le_self _ _)
     have h4:=e0d xs[k]
     have h5:=hS _ (List.getElem_mem hk)
     omega
    have hyD:∀ k (h:k < xs.length),(k0S xs m).getD k 0=xs[k].num * ((m / xs[k].den:Nat):Int):=fun k hk=>by
     rw [List.getD_eq_getElem?_getD,List.getElem?_eq_getElem (by omega)];simp [k0S]
    simp [m0K,g10,ho.slen,hyl]
    refine c0h (n:=xs.length) (l0B H P P2 so xs m gg s sg2) rfl rfl (by decide) (by omega) (by simp) (by simp) ?_ ?_ ?_ ?_
    ·exact ⟨by simp [g10],by simp [g3],by simp [g4],by simp [g11],hx,b0,b1,k0,b2,k1,k0S xs m,ho,hyl,fun k _=>by simp⟩
    ·intro i ρ ρ' G h hI;simpa [l0B,h] using hI
    ·clear g44 g3 g4 g11 g10 gi gn hx b0 b1 b2 k0 k1 ho hx2 ρ
     rintro i ρ G hi gi gn ⟨g10,g3,g4,g11,hx,b0,b1,k0,b2,k1,L,ho,hL,hLk⟩
     have hiL:i < L.length:=by omega
     have hLi:L[i]=(k0S xs m).getD i 0:=by
      have:=hLk i hi
      rw [if_neg (by omega),List.getD_eq_getElem?_getD,List.getElem?_eq_getElem hiL] at this;exact this
     obtain ⟨wi,hli,kwi⟩:=OwnsI.load ho hiL
     have hlz:lz L[i] < 67108864:=by
      have:=hly i hi
      rw [hLi,hyD i hi];omega
     simp [m0L,gi]
     refine a0v ?_
     simp [m0M,g10,g11,ho.sls.ia hiL,hli,b2]
     refine (b0S (j:=a0n (gg:Int)) kwi ⟨sg2,by rw [a0s],by rw [a0s];exact k1⟩ hx.1 (by rw [a0j];omega) (by rw [a0j];omega) (by rw [a0i];omega)).mono ?_
     rintro _ G4 ⟨⟨_,_,rfl,⟨s3,rfl,k5⟩,_⟩,hx2⟩
     replace b0:=hx2.blk b0;replace b1:=hx2.blk b1;replace b2:=hx2.blk b2;replace hx:=hx.trans hx2;replace k0:=k0.mono hx2;replace k1:=k1.mono hx2
     replace ho:=ho.mono c0f hx2
     have hdv2:(gg:Int) ∣ L[i]:=by rw [hLi];exact hdg' i hi
     rw [a0i,a0i,Int.tdiv_eq_ediv_of_dvd hdv2] at k5 ⊢
     have ns0:=ho.ne b0 (by decide)
     obtain ⟨G5,hst,ho2,hxb⟩:=a0Z.store (j:=i) (x:=L[i] / (gg:Int)) (w:=.agg #[.bool (a0n (L[i] / (gg:Int))).1,s3]) ho hiL (by omega) rfl (by simp [k5.plain]) (fun G' _ hl=>⟨s3,rfl,k5.lx hl⟩) (by decide) (fun G' cs y _ hl h=>b0q.lx h hl)
     have hlx5:=ho.lx (by decide) hxb
     simp [g10,ho.sls.ia hiL,hst]
     have hx5:Ext H G5:=⟨Nat.le_trans hx.1 hxb.1,fun b hb=>(hxb.2 b (Nat.lt_of_lt_of_le hb hx.1) (fun h=>by have:=(ho.ge h).1;omega)).trans (hx.2 b hb)⟩
     refine Rnd.mk (by simp [gi]) (by simp [gn]) ⟨by simp [g10],by simp [g3],by simp [g4],by simp [g11],hx5,(hxb.2 _ (a0k b0) ns0).trans b0,(hxb.2 _ (a0k b1) ns1).trans b1,k0.lx hlx5,(hxb.2 _ (a0k b2) ns2).trans b2,k1.lx hlx5,L.set i (L[i] / (gg:Int)),ho2,by simpa using hL,fun k hk=>?_⟩
     by_cases hki:k=i
     ·subst hki
      rw [if_pos (by omega),List.getD_eq_getElem?_getD,List.getElem?_set_self hiL,Option.getD_some,hLi]
     ·rw [List.getD_eq_getElem?_getD,List.getElem?_set_ne (by omega),← List.getD_eq_getElem?_getD,hLk k hk]
      by_cases hlt:k < i
      ·rw [if_pos hlt,if_pos (by omega)]
      ·rw [if_neg hlt,if_neg (by omega)]
    ·clear g44 g3 g4 g11 g10 gi gn hx b0 b1 b2 k0 k1 ho hx2 ρ
     rintro ρ G gi gn ⟨g10,g3,g4,g11,hx,b0,b1,k0,b2,k1,L,ho,hL,hLk⟩
     simp [m0N,g4,g11,b1,b2]
     refine (d0o (i:=a0n (m:Int)) (j:=a0n (gg:Int)) ⟨s,by rw [a0s],by rw [a0s];exact k0⟩ ⟨sg2,by rw [a0s],by rw [a0s];exact k1⟩ hx.1 (by rw [a0j];omega) (by rw [a0j];omega) (by rw [a0i];omega)).mono ?_
     rintro _ G4 ⟨⟨_,rfl,s3,s4,rfl,k5,k6⟩,hx2⟩
     replace b0:=hx2.blk b0;replace hx:=hx.trans hx2
     replace ho:=ho.mono c0f hx2
     rw [a0i,a0i] at k5 k6 ⊢
     have hsz:=hx.1
     simp [k5.cells,k5.plain,k6.cells,k6.plain,hsz]
     generalize hN:Array.setIfInBounds (Array.push _ _) _ _=G5
     obtain ⟨hx2,b3⟩:=new1 hN
     clear hN
     replace b0:=hx2.blk b0;replace hx:=hx.trans hx2;replace k5:=k5.mono hx2;replace k6:=k6.mono hx2
     replace ho:=ho.mono c0f hx2
     refine a0v ?_
     have hz:=a0k b0
     simp [m0O,g3,g10,b0,b3,k5.cells,k5.plain,k6.cells,k6.plain,hz]
     generalize hS':Array.setIfInBounds _ _ _=G6
     refine fun _=>?_
     have hl6:Lx _ G6:=a0V hS' b0 (by decide)
     have hl7:LxT a0c _ G6:=a0V hS' b0 (by decide)
     refine ⟨so,_,⟨rfl,rfl⟩,Rat.divInt m gg,L,?_,ho.lxm hl7 (fun cs x h=>b0q.lx h hl6),s3,s4,rfl,k5.lx hl6,k6.lx hl6⟩
     have hLv:∀ k (h:k < xs.length),L[k]'(by omega)=xs[k].num * ((m / xs[k].den:Nat):Int) / (gg:Int)∧(gg:Int) ∣ xs[k].num * ((m / xs[k].den:Nat):Int):=by
      intro k hk
      have h1:=hLk k hk
      have h2:=hdg' k hk
      have h3:=hyD k hk
      rw [if_pos hk,h3,List.getD_eq_getElem?_getD,List.getElem?_eq_getElem (by omega)] at h1
      rw [h3] at h2
      exact ⟨h1,h2⟩
     refine ⟨hL,?_,fun k hk=>?_,fun z hz=>?_,?_⟩
     ·exact l0a hm0 hgp
     ·rw [(hLv k hk).1];exact t0K (hdv k hk hk) hm0 hgp (hLv k hk).2
     ·obtain ⟨k,hk,rfl⟩:=List.getElem_of_mem hz
      have hk':k < xs.length:=by omega
      have h1:=hly k hk'
      have h6:=J0l (hLv k hk').2
      rw [(hLv k hk').1]
      omega
     ·have:=b0k (m:Int) (gg:Int)
      omega
end
end Go.Proofs.YtjlohmnnldbjoaaGreat.AI
