/- Part 7 of the proof: AiRat3, AiExt1, AiFor, AiVec1, AiDom1, AiDom2, AiDom3, AiDom4, AiLp1, AiSx1, AiSx2, AiSx3. -/
import Derived.Test.YtilekhkgobmolaaGreatM05
set_option linter.unusedVariables false
set_option linter.unusedSimpArgs false
set_option linter.unusedSectionVars false
namespace Go.Proofs.YtilekhkgobmolaaGreat.AI
section
open Go
set_option maxHeartbeats 4000000
variable {fl:Nat} {H G:a0e} {R:a0u} {v w:Value} {i j:Bool × List Nat} {a b:b0k}
theorem b0R.p (h:b0R H v a):∃ s u,v=.agg #[.bool a.1.1,s,.bool a.2.1,u]∧Lim H s a.1.2∧Lim H u a.2.2∧b0q H (.agg #[.bool a.1.1,s]) a.1∧b0q H (.agg #[.bool a.2.1,u]) a.2:=by
 obtain ⟨s,u,h1,h2,h3⟩:=h;exact ⟨s,u,h1,h2,h3,⟨s,rfl,h2⟩,⟨u,rfl,h3⟩⟩
theorem b0R.ok (h:b0R H v a):b0x a.1.2∧b0x a.2.2:=by obtain ⟨s,u,_,h2,h3⟩:=h;exact ⟨h2.ok,h3.ok⟩
theorem f0d (x:Rat):lz x.num≤szR x:=by unfold szR;omega
theorem g0F (x:Rat):lz x.den≤szR x:=by unfold szR;omega
theorem h0k (h:b0q H v i) (k:b0q H w j) (hf:fl≤H.size) (hn:i.2.length < 536870912) (hm:j.2.length < 536870912) (hj0:a0P j ≠ 0) :
  a0V env fl Q0v [v,w] H (fun r H'=>b0R H' r (a0f (Rat.divInt (a0P i) (a0P j)))∧Ext H H') R:=by
 have k0:=h
 have k1:=k
 obtain ⟨s,rfl,hs⟩:=h
 obtain ⟨u,rfl,hu⟩:=k
 refine a0k Z0o hf (h:=?_)
 intro ρ h0
 simp [V0j,M0J,h0]
 generalize hG:Array.push (Array.push (Array.push H _) _) _=G
 have hx:Ext H G:=by rw [← hG];exact (Ext.refl H).push.push.push
 have b0:a0e.blk G H.size=.row false a0a [.bool i.1,s]:=by rw [← hG];simp
 have b1:a0e.blk G (H.size + 1)=.row false a0a [.bool j.1,u]:=by rw [← hG];simp
 have b2:a0e.blk G (H.size + 2)=.row false a0b [.bool false,.slice none 0 0,.bool false,.slice none 0 0]:=by rw [← hG];simp
 clear hG
 replace k0:=k0.mono hx
 replace k1:=k1.mono hx
 simp [M0K,h0,b0,b1]
 refine (d0x k0 k1 hx.1 hn hm hj0).mono ?_
 rintro _ G2 ⟨⟨q,rfl,s1,s2,rfl,k2,k3⟩,hx2⟩
 replace b2:=hx2.blk b2;replace hx:=hx.trans hx2
 have hsz:=hx.1
 simp [h0,k2.cells,k2.plain,k3.cells,k3.plain,hsz]
 generalize hN:Array.setIfInBounds (Array.push _ _) _ _=G3
 obtain ⟨hx2,b3⟩:=new1 hN
 clear hN
 replace b2:=hx2.blk b2;replace hx:=hx.trans hx2;replace k2:=k2.mono hx2;replace k3:=k3.mono hx2
 have hz:=a0g b2
 simp [M0L,h0,b2,b3,k2.cells,k2.plain,k3.cells,k3.plain,hz]
 exact fun _=>⟨s1,s2,rfl,k2.setT b2 (by decide),k3.setT b2 (by decide)⟩
def v0I (H:a0e) (v:Value) (l:List (Bool × List Nat)):Prop :=
 ∃ cs,Sl H a0a 2 v l.length cs∧∀ k,(h:k < l.length)→b0q H (.agg ((cs.drop (k * 2)).take 2).toArray) l[k]
theorem i0X (h:b0q H v i) (hl:b0q H w j) {c:Nat} {p:Nat} (hb:H.blk p=.row false a0a (a0S w)) (hf:fl≤H.size) (hn:i.2.length < 536870912) (hm:j.2.length < 536870912) :
  a0V env fl S0j [.func (.func y0n) #[] #[],v,.slice (some ⟨p,0,none⟩) 1 c] H (fun r H'=>b0q H' r (a0l (a0P i + a0P j))∧Ext H H') R:=by
 have k0:=h
 have k1:=hl
 obtain ⟨s,rfl,hs⟩:=h
 obtain ⟨u,rfl,hu⟩:=hl
 simp at hb
 refine a0k Z0p hf (h:=?_)
 intro ρ h0
 have hpl:=a0g hb
 simp [V0k,M0M,M0N,h0,g0C]
 generalize hG:Array.push (Array.push H _) _=G
 have hx2:Ext H G:=by rw [← hG];exact (Ext.refl H).push.push
 have b0:a0e.blk G H.size=.row false a0a [.bool i.1,s]:=by rw [← hG];simp
 have b1:a0e.blk G (H.size + 1)=.row false a0a [.bool false,.slice none 0 0]:=by rw [← hG];simp
 have b2:a0e.blk G p=.row false a0a [.bool j.1,u]:=hx2.blk hb
 have hx:=hx2
 clear hG
 replace k0:=k0.mono hx2
 replace k1:=k1.mono hx2
 clear hb
 refine b0U (fun c' t G=>∃ n:Nat,n + c' = 1∧t.length=21∧get t 0=.func (.func y0n) #[] #[]∧get t 4=.pointer (some ⟨H.size,0,none⟩)∧get t 6=.pointer (some ⟨H.size + 1,0,none⟩)∧get t 9=.slice (some ⟨p,0,none⟩) 1 c∧get t 10=.int .i64 1∧get t 11=.int .i64 (n:Int) ∧
   Ext H G∧a0e.blk G (H.size + 1)=.row false a0a [.bool false,.slice none 0 0] ∧
   (n=0→a0e.blk G H.size=.row false a0a [.bool i.1,s]∧a0e.blk G p=.row false a0a [.bool j.1,u]∧b0q G (.agg #[.bool i.1,s]) i∧b0q G (.agg #[.bool j.1,u]) j) ∧
   (n=1→∃ s2,a0e.blk G H.size=.row false a0a [.bool (a0l (a0P i + a0P j)).1,s2]∧Lim G s2 (a0l (a0P i + a0P j)).2))
  (fun t G=>∃ s2,t.length=21∧get t 4=.pointer (some ⟨H.size,0,none⟩)∧get t 6=.pointer (some ⟨H.size + 1,0,none⟩)∧Ext H G∧a0e.blk G (H.size + 1)=.row false a0a [.bool false,.slice none 0 0] ∧
   a0e.blk G H.size=.row false a0a [.bool (a0l (a0P i + a0P j)).1,s2]∧Lim G s2 (a0l (a0P i + a0P j)).2) 1 ?_ ?_ ?_
 ·exact ⟨0,rfl,by simp,by simp [h0],by simp,by simp,by simp [h0],by simp,by simp,hx,b1,fun _=>⟨b0,b2,k0,k1⟩,by omega⟩
 ·clear h0 ρ k0 k1 b0 b1 b2 hx hx2 G
  rintro c' t G ⟨n,hnc,ht,g0,g4,g6,g9,g10,g11,hx,b1,hc0,hc1⟩
  obtain ⟨ρ,rfl⟩:=toT ht
  simp only [b0Q,Nat.reduceLT] at g0 g4 g6 g9 g10 g11
  by_cases hn0:n=0
  ·subst hn0
   obtain ⟨b0,b2,k0,k1⟩:=hc0 rfl
   have hlt:=hx.1
   have hbl:=a0g b1
   have e9:IntKind.i64.wrap ((0:Int) + 1)=1:=by decide
   simp [E0X,M0O,g0,g4,g6,g9,g10,g11,iaV,b2]
   have hc:(a0S (Value.agg #[.bool j.1,u])).length=2:=rfl
   simp [hu.cells,hu.plain,hlt]
   generalize hN:Array.setIfInBounds (Array.push _ _) _ _=G3
   obtain ⟨hx2,b3⟩:=new1 hN
   clear hN
   replace b0:=hx2.blk b0;replace b1:=hx2.blk b1;replace b2:=hx2.blk b2;replace hx:=hx.trans hx2;replace k0:=k0.mono hx2;replace k1:=k1.mono hx2
   simp [M0P,M0Q,g0,g4,g6,g9,g10,g11,b0,b3]
   refine (e0e k0 k1 hx.1 hn hm).mono ?_
   rintro _ G2 ⟨⟨s2,rfl,k2⟩,hx2⟩
   replace b0:=hx2.blk b0;replace b1:=hx2.blk b1;replace b2:=hx2.blk b2;replace hx:=hx.trans hx2;replace k0:=k0.mono hx2;replace k1:=k1.mono hx2
   have hz:=a0g b0
   simp [g0,g4,g6,g9,g10,g11,b0,k2.cells,k2.plain,hz,e9]
   exact ⟨0,by omega,1,rfl,rfl,hx.set (by omega),b1,by omega,fun _=>k2.setT b0 (by decide)⟩
  ·have:n=1:=by omega
   subst this
   obtain ⟨s2,b0,k0⟩:=hc1 rfl
   simp [E0X,g0,g4,g6,g9,g10,g11]
   exact ⟨hx,b1,s2,b0,k0⟩
 ·clear h0 ρ k0 k1 b0 b1 b2 hx hx2 G
  rintro t G ⟨s2,ht,g4,g6,hx,b1,b0,k0⟩
  obtain ⟨ρ,rfl⟩:=toT ht
  simp only [b0Q,Nat.reduceLT] at g4 g6
  have hz:=a0g b1
  simp [M0R,g4,g6,b0,b1,k0.cells,k0.plain,hz]
  exact fun _=>⟨s2,rfl,k0.setT b1 (by decide)⟩
theorem b0D (h:b0R H v a) (k:b0R H w b) (hf:fl≤H.size) (hn:e0O a < 67108864) (hm:e0O b < 67108864) :
  a0V env fl r0w [v,w] H (fun r H'=>b0R H' r (a0f (b0A a + b0A b))∧Ext H H') R:=by
 have k0:=h
 have k1:=k
 obtain ⟨s,u,rfl,hs,hu⟩:=h
 obtain ⟨s',u',rfl,hs',hu'⟩:=k
 refine a0k Y0X hf (h:=?_)
 intro ρ h0
 simp [U0S,L0B,h0]
 generalize hG:Array.push (Array.push (Array.push H _) _) _=G
 have hx:Ext H G:=by rw [← hG];exact (Ext.refl H).push.push.push
 have b0:a0e.blk G H.size=.row false a0b [.bool a.1.1,s,.bool a.2.1,u]:=by rw [← hG];simp
 have b1:a0e.blk G (H.size + 1)=.row false a0b [.bool b.1.1,s',.bool b.2.1,u']:=by rw [← hG];simp
 have b2:a0e.blk G (H.size + 2)=.row false a0b [.bool false,.slice none 0 0,.bool false,.slice none 0 0]:=by rw [← hG];simp
 clear hG
 replace k0:=k0.mono hx
 replace k1:=k1.mono hx
 have sa:=d0s k0.ok.1 k0.ok.2
 have sb:=d0s k1.ok.1 k1.ok.2
 refine a0A ?_
 simp [L0C,h0,b0,b1]
 refine (b0W k0 (by have:=hx.1;omega) (by omega)).mono ?_
 rintro _ G2 ⟨⟨s1,s2,rfl,k2,k3⟩,hx2⟩
 replace b0:=hx2.blk b0;replace b1:=hx2.blk b1;replace b2:=hx2.blk b2;replace hx:=hx.trans hx2;replace k0:=k0.mono hx2;replace k1:=k1.mono hx2
 simp [h0,b1]
 refine (b0W k1 hx.1 (by omega)).mono ?_
 rintro _ G2 ⟨⟨s3,s4,rfl,k4,k5⟩,hx2⟩
 replace b0:=hx2.blk b0;replace b1:=hx2.blk b1;replace b2:=hx2.blk b2;replace hx:=hx.trans hx2;replace k0:=k0.mono hx2;replace k1:=k1.mono hx2;replace k2:=k2.mono hx2;replace k3:=k3.mono hx2
 clear k0 k1
 have hz0:=a0g b0
 simp [h0,b0,k2.cells,k2.plain,k3.cells,k3.plain,hz0]
 generalize hS:Array.setIfInBounds _ _ _=G3
 have hsz:=hx.1;replace k2:=k2.setS hS b0 (by decide);replace k3:=k3.setS hS b0 (by decide);replace k4:=k4.setS hS b0 (by decide);replace k5:=k5.setS hS b0 (by decide);replace b1:=a0z hS b1 (by omega);replace b2:=a0z hS b2 (by omega);replace hx:=b0J hS hx (by omega);replace b0:=a0M hS b0;clear hS hsz
 have hz0:=a0g b1
 simp [b1,k4.cells,k4.plain,k5.cells,k5.plain,hz0]
 generalize hS:Array.setIfInBounds _ _ _=G3
 have hsz:=hx.1;replace k2:=k2.setS hS b1 (by decide);replace k3:=k3.setS hS b1 (by decide);replace k4:=k4.setS hS b1 (by decide);replace k5:=k5.setS hS b1 (by decide);replace b0:=a0z hS b0 (by omega);replace b2:=a0z hS b2 (by omega);replace hx:=b0J hS hx (by omega);replace b1:=a0M hS b1;clear hS hsz
 obtain ⟨x,hxv⟩:∃ x,x=b0A a:=⟨_,rfl⟩
 obtain ⟨y,hyv⟩:∃ y,y=b0A b:=⟨_,rfl⟩
 rw [← hxv] at sa k2 k3 b0 ⊢
 rw [← hyv] at sb k4 k5 b1 ⊢
 have k0:b0q _ (.agg #[.bool (a0f x).1.1,s1]) (a0l x.num):=⟨s1,rfl,k2⟩
 have k1:b0q _ (.agg #[.bool (a0f x).2.1,s2]) (a0l x.den):=⟨s2,rfl,k3⟩
 have k6:b0q _ (.agg #[.bool (a0f y).1.1,s3]) (a0l y.num):=⟨s3,rfl,k4⟩
 have k7:b0q _ (.agg #[.bool (a0f y).2.1,s4]) (a0l y.den):=⟨s4,rfl,k5⟩
 have l1:=f0d x
 have l2:=g0F x
 have l3:=f0d y
 have l4:=g0F y
 clear hs hu hs' hu' k2 k3 k4 k5
 refine a0A ?_
 simp [L0D,h0,b0,b1]
 refine (b0w k0 k7 (by have:=hx.1;omega) (by rw [a0n];omega) (by rw [a0n];omega)).mono ?_
 rintro _ G2 ⟨k2,hx2⟩
 replace b0:=hx2.blk b0;replace b1:=hx2.blk b1;replace b2:=hx2.blk b2;replace hx:=hx.trans hx2;replace k1:=k1.mono hx2;replace k6:=k6.mono hx2;replace k7:=k7.mono hx2
 rw [a0j,a0j] at k2
 simp [h0,b0,b1]
 refine (b0w k6 k1 (by have:=hx.1;omega) (by rw [a0n];omega) (by rw [a0n];omega)).mono ?_
 rintro _ G2 ⟨k3,hx2⟩
 replace b0:=hx2.blk b0;replace b1:=hx2.blk b1;replace b2:=hx2.blk b2;replace hx:=hx.trans hx2;replace k1:=k1.mono hx2;replace k2:=k2.mono hx2;replace k6:=k6.mono hx2;replace k7:=k7.mono hx2
 rw [a0j,a0j] at k3
 obtain ⟨s5,hk3,k3'⟩:=k3
 subst hk3
 simp [h0,k3'.cells]
 generalize hN:Array.push _ _=G3
 obtain ⟨hx2,b3⟩:=h0K hN
 have hGs:G3.size=G2.size + 1:=by rw [← hN];simp
 clear hN
 have k3:b0q G2 (.agg #[.bool (a0l (y.num * x.den)).1,s5]) (a0l (y.num * x.den)):=⟨s5,rfl,k3'⟩
 replace b0:=hx2.blk b0;replace b1:=hx2.blk b1;replace b2:=hx2.blk b2;replace hx:=hx.trans hx2;replace k1:=k1.mono hx2;replace k2:=k2.mono hx2;replace k3:=k3.mono hx2;replace k6:=k6.mono hx2;replace k7:=k7.mono hx2
 have m1:=c0X x.num y.den
 have m2:=c0X y.num x.den
 refine (i0X k2 k3 (by simpa using b3) (by have:=hx.1;omega) (by rw [a0n];omega) (by rw [a0n];omega)).mono ?_
 rintro _ G2 ⟨k4,hx2⟩
 replace b0:=hx2.blk b0;replace b1:=hx2.blk b1;replace b2:=hx2.blk b2;replace hx:=hx.trans hx2;replace k1:=k1.mono hx2;replace k6:=k6.mono hx2;replace k7:=k7.mono hx2
 rw [a0j,a0j] at k4
 simp [h0,b0,b1]
 refine (b0w k1 k7 hx.1 (by rw [a0n];omega) (by rw [a0n];omega)).mono ?_
 rintro _ G2 ⟨k5,hx2⟩
 replace b2:=hx2.blk b2;replace hx:=hx.trans hx2;replace k4:=k4.mono hx2;replace k6:=k6.mono hx2;replace k7:=k7.mono hx2
 rw [a0j,a0j] at k5
 simp [h0]
 have m3:=q0A (x.num * y.den) (y.num * x.den)
 have m4:=c0X (x.den:Int) y.den
 refine (h0k k4 k5 hx.1 (by rw [a0n];omega) (by rw [a0n];omega) (by rw [a0j];have:=x.den_nz;have:=y.den_nz;exact Int.mul_ne_zero (by omega) (by omega))).mono ?_
 rintro _ G2 ⟨⟨s6,s7,rfl,k6,k7⟩,hx2⟩
 replace b2:=hx2.blk b2;replace hx:=hx.trans hx2
 rw [a0j,a0j,← m0E] at k6 k7 ⊢
 have hz:=a0g b2
 simp [h0,b2,k6.cells,k6.plain,k7.cells,k7.plain,hz]
 exact fun _=>⟨s6,s7,rfl,k6.setT b2 (by decide),k7.setT b2 (by decide)⟩
theorem e0U (h:b0R H v a) (k:b0R H w b) (hf:fl≤H.size) (hn:e0O a < 67108864) (hm:e0O b < 67108864) :
  a0V env fl I0Q [v,w] H (fun r H'=>b0R H' r (a0f (b0A a * b0A b))∧Ext H H') R:=by
 have k0:=h
 have k1:=k
 obtain ⟨s,u,rfl,hs,hu⟩:=h
 obtain ⟨s',u',rfl,hs',hu'⟩:=k
 refine a0k Z0j hf (h:=?_)
 intro ρ h0
 simp [V0e,M0r,h0]
 generalize hG:Array.push (Array.push (Array.push H _) _) _=G
 have hx:Ext H G:=by rw [← hG];exact (Ext.refl H).push.push.push
 have b0:a0e.blk G H.size=.row false a0b [.bool a.1.1,s,.bool a.2.1,u]:=by rw [← hG];simp
 have b1:a0e.blk G (H.size + 1)=.row false a0b [.bool b.1.1,s',.bool b.2.1,u']:=by rw [← hG];simp
 have b2:a0e.blk G (H.size + 2)=.row false a0b [.bool false,.slice none 0 0,.bool false,.slice none 0 0]:=by rw [← hG];simp
 clear hG
 replace k0:=k0.mono hx
 replace k1:=k1.mono hx
 have sa:=d0s k0.ok.1 k0.ok.2
 have sb:=d0s k1.ok.1 k1.ok.2
 refine a0A ?_
 simp [M0s,h0,b0,b1]
 refine (b0W k0 (by have:=hx.1;omega) (by omega)).mono ?_
 rintro _ G2 ⟨⟨s1,s2,rfl,k2,k3⟩,hx2⟩
 replace b0:=hx2.blk b0;replace b1:=hx2.blk b1;replace b2:=hx2.blk b2;replace hx:=hx.trans hx2;replace k0:=k0.mono hx2;replace k1:=k1.mono hx2
 simp [h0,b1]
 refine (b0W k1 hx.1 (by omega)).mono ?_
 rintro _ G2 ⟨⟨s3,s4,rfl,k4,k5⟩,hx2⟩
 replace b0:=hx2.blk b0;replace b1:=hx2.blk b1;replace b2:=hx2.blk b2;replace hx:=hx.trans hx2;replace k0:=k0.mono hx2;replace k1:=k1.mono hx2;replace k2:=k2.mono hx2;replace k3:=k3.mono hx2
 clear k0 k1
 have hz0:=a0g b0
 simp [h0,b0,k2.cells,k2.plain,k3.cells,k3.plain,hz0]
 generalize hS:Array.setIfInBounds _ _ _=G3
 have hsz:=hx.1;replace k2:=k2.setS hS b0 (by decide);replace k3:=k3.setS hS b0 (by decide);replace k4:=k4.setS hS b0 (by decide);replace k5:=k5.setS hS b0 (by decide);replace b1:=a0z hS b1 (by omega);replace b2:=a0z hS b2 (by omega);replace hx:=b0J hS hx (by omega);replace b0:=a0M hS b0;clear hS hsz
 have hz0:=a0g b1
 simp [b1,k4.cells,k4.plain,k5.cells,k5.plain,hz0]
 generalize hS:Array.setIfInBounds _ _ _=G3
 have hsz:=hx.1;replace k2:=k2.setS hS b1 (by decide);replace k3:=k3.setS hS b1 (by decide);replace k4:=k4.setS hS b1 (by decide);replace k5:=k5.setS hS b1 (by decide);replace b0:=a0z hS b0 (by omega);replace b2:=a0z hS b2 (by omega);replace hx:=b0J hS hx (by omega);replace b1:=a0M hS b1;clear hS hsz
 obtain ⟨x,hxv⟩:∃ x,x=b0A a:=⟨_,rfl⟩
 obtain ⟨y,hyv⟩:∃ y,y=b0A b:=⟨_,rfl⟩
 rw [← hxv] at sa k2 k3 b0 ⊢
 rw [← hyv] at sb k4 k5 b1 ⊢
 have k0:b0q _ (.agg #[.bool (a0f x).1.1,s1]) (a0l x.num):=⟨s1,rfl,k2⟩
 have k1:b0q _ (.agg #[.bool (a0f x).2.1,s2]) (a0l x.den):=⟨s2,rfl,k3⟩
 have k6:b0q _ (.agg #[.bool (a0f y).1.1,s3]) (a0l y.num):=⟨s3,rfl,k4⟩
 have k7:b0q _ (.agg #[.bool (a0f y).2.1,s4]) (a0l y.den):=⟨s4,rfl,k5⟩
 have l1:=f0d x
 have l2:=g0F x
 have l3:=f0d y
 have l4:=g0F y
 clear hs hu hs' hu' k2 k3 k4 k5
 refine a0A ?_
 simp [M0t,h0,b0,b1]
 refine (b0w k0 k6 (by have:=hx.1;omega) (by rw [a0n];omega) (by rw [a0n];omega)).mono ?_
 rintro _ G2 ⟨k2,hx2⟩
 replace b0:=hx2.blk b0;replace b1:=hx2.blk b1;replace b2:=hx2.blk b2;replace hx:=hx.trans hx2;replace k1:=k1.mono hx2;replace k6:=k6.mono hx2;replace k7:=k7.mono hx2
 rw [a0j,a0j] at k2
 simp [h0,b0,b1]
 refine (b0w k1 k7 hx.1 (by rw [a0n];omega) (by rw [a0n];omega)).mono ?_
 rintro _ G2 ⟨k5,hx2⟩
 replace b2:=hx2.blk b2;replace hx:=hx.trans hx2;replace k2:=k2.mono hx2;replace k6:=k6.mono hx2;replace k7:=k7.mono hx2
 rw [a0j,a0j] at k5
 simp [h0]
 have m3:=c0X x.num y.num
 have m4:=c0X (x.den:Int) y.den
 refine (h0k k2 k5 hx.1 (by rw [a0n];omega) (by rw [a0n];omega) (by rw [a0j];have:=x.den_nz;have:=y.den_nz;exact Int.mul_ne_zero (by omega) (by omega))).mono ?_
 rintro _ G2 ⟨⟨s6,s7,rfl,k6,k7⟩,hx2⟩
 replace b2:=hx2.blk b2;replace hx:=hx.trans hx2
 rw [a0j,a0j,← m0T] at k6 k7 ⊢
 have hz:=a0g b2
 simp [h0,b2,k6.cells,k6.plain,k7.cells,k7.plain,hz]
 exact fun _=>⟨s6,s7,rfl,k6.setT b2 (by decide),k7.setT b2 (by decide)⟩
theorem b0V {n:Int} (hf:fl≤H.size) (h1:-9223372036854775808≤n) (h2:n < 9223372036854775808) :
  a0V env fl t0Z [.int .i64 n] H (fun r H'=>b0R H' r (a0f (n:Rat))∧Ext H H') R:=by
 refine a0k Z0f hf (h:=?_)
 intro ρ h0
 simp [V0a,M0e,M0f,h0]
 have hx:=(Ext.refl H).push (r:=.row false a0b [.bool false,.slice none 0 0,.bool false,.slice none 0 0])
 have b2:a0e.blk (Array.push H (.row false a0b [.bool false,.slice none 0 0,.bool false,.slice none 0 0])) H.size=_:=a0v
 generalize Array.push H _=G at *
 refine (c0e hx.1 h1 h2).mono ?_
 rintro _ G2 ⟨⟨s1,rfl,k2⟩,hx2⟩
 replace b2:=hx2.blk b2;replace hx:=hx.trans hx2
 simp [h0]
 refine (e0V hx.1).mono ?_
 rintro _ G2 ⟨⟨s2,rfl,k3⟩,hx2⟩
 replace b2:=hx2.blk b2;replace hx:=hx.trans hx2;replace k2:=k2.mono hx2
 have hz:=a0g b2
 simp [h0,b2,k2.cells,k2.plain,k3.cells,k3.plain,hz]
 refine fun _=>⟨s1,s2,?_,?_,?_⟩
 ·unfold a0f;rw [b1X,b1V];rfl
 ·unfold a0f;rw [b1X];exact k2.setT b2 (by decide)
 ·unfold a0f;rw [b1V];exact k3.setT b2 (by decide)
end
section
open Go
set_option maxHeartbeats 4000000
variable {fl:Nat} {H G:a0e} {R:a0u} {v w:Value} {a b:b0k}
abbrev c0c:=Int × b0k
def h0d (H:a0e) (v:Value) (e:c0c):Prop:=∃ s u,v=.agg #[.int .i64 e.1,.bool e.2.1.1,s,.bool e.2.2.1,u]∧Lim H s e.2.1.2∧Lim H u e.2.2.2
variable {e f:c0c}
theorem h0d.mono (h:h0d H v e) (hx:Ext H G):h0d G v e:=by obtain ⟨s,u,h1,h2,h3⟩:=h;exact ⟨s,u,h1,h2.mono hx,h3.mono hx⟩
theorem h0d.setT (h:h0d H v e) {p:Nat} {ro:Bool} {e':TypeId} {cs':List Value} {r:Blk} (hb:H.blk p=.row ro e' cs') (hne:e' ≠ a0m):h0d (H.setIfInBounds p r) v e:=by
 obtain ⟨s,u,h1,h2,h3⟩:=h;exact ⟨s,u,h1,h2.setT hb hne,h3.setT hb hne⟩
theorem h0d.setS {G3:a0e} {q:Nat} {X:Blk} {ro:Bool} {e':TypeId} {cs:List Value} (k:h0d H v e) (hS:Array.setIfInBounds H q X=G3) (hb:a0e.blk H q=.row ro e' cs) (hne:e' ≠ a0m):h0d G3 v e:=by rw [← hS];exact k.setT hb hne
theorem h0d.ok (h:h0d H v e):b0x e.2.1.2∧b0x e.2.2.2:=by obtain ⟨s,u,_,h2,h3⟩:=h;exact ⟨h2.ok,h3.ok⟩
def l0U (e:c0c):Bool:=if e.1 = -1 ∨ e.1=1 then f0t e.2 else if e.1=0 then u0k e.2 else false
def l0O (e:c0c):Int × Rat:=if l0U e then (if e.1=0 then (0,b0A e.2) else (e.1,0)) else (0,0)
def g0h (x:Int × Rat):c0c:=if x.1=0 then (0,a0f x.2) else (x.1,((false,[]),(false,[])))
def I0J (x y:Int × Rat):Int:=if x.1 < y.1 then -1 else if x.1 > y.1 then 1 else if x.1 ≠ 0 then 0 else W0m x.2 y.2
def c0l:b0k:=((false,[]),(false,[]))
theorem g0V:f0t c0l=true:=rfl
theorem e0F:b0A c0l=0:=by unfold b0A;rw [g0V];rfl
theorem e0C:b0R H (.agg #[.bool false,.slice none 0 0,.bool false,.slice none 0 0]) c0l:=⟨_,_,rfl,Lim.nil,Lim.nil⟩
theorem h0U (h:b0R H v a) (hf:fl≤H.size):a0V env fl x0U [v] H (fun r H'=>r=.bool (f0t a)∧Ext H H') R:=by
 obtain ⟨s,u,rfl,hs,hu⟩:=h
 refine a0k W0q hf (h:=?_)
 intro ρ h0
 simp [H0l,z0C,h0]
 have hsl:=hs.slen
 have hul:=hu.slen
 cases h1:a.1.1
 ·by_cases h2:a.1.2=[]
  ·cases h3:a.2.1
   ·simp [l0x,h0,h1,h2,h3,hsl,hul,f0t]
   ·simp [l0x,h0,h1,h2,h3,hsl,hul,f0t]
  ·simp [l0x,h0,h1,h2,hsl,hul,f0t]
 ·simp [l0x,h0,h1,hsl,hul,f0t]
theorem j0p (h:h0d H v e) (hf:fl≤H.size) (hn:e0O e.2 < 67108864):a0V env fl Q0t [v] H (fun r H'=>r=.bool (l0U e)∧Ext H H') R:=by
 obtain ⟨s,u,rfl,hs,hu⟩:=h
 have k0:b0R H (.agg #[.bool e.2.1.1,s,.bool e.2.2.1,u]) e.2:=⟨s,u,rfl,hs,hu⟩
 refine a0k Z0b hf (h:=?_)
 intro ρ h0
 simp [U0W,L0P,L0Q,L0R,h0]
 generalize hG:Array.push H _=G
 obtain ⟨hx2,b0⟩:=h0K hG
 have hx:=Ext.refl H
 clear hG
 replace hx:=hx.trans hx2;replace k0:=k0.mono hx2
 unfold l0U
 by_cases h1:e.1 = -1
 ·simp [h1,E0Q,h0,b0]
  refine (h0U k0 hx.1).mono ?_
  rintro _ G2 ⟨rfl,hx2⟩
  simp
 ·by_cases h2:e.1=1
  ·simp [h2,v0p,E0Q,h0,b0]
   refine (h0U k0 hx.1).mono ?_
   rintro _ G2 ⟨rfl,hx2⟩
   simp
  ·by_cases h3:e.1=0
   ·simp [h3,v0p,E0R,L0S,h0,b0]
    refine (g0A k0 hx.1 (by omega)).mono ?_
    rintro _ G2 ⟨rfl,hx2⟩
    simp
   ·simp [h1,h2,h3,v0p,E0R,L0T,h0,b0]
theorem f0x (h:b0R H v a) (hf:fl≤H.size) (hn:e0O a < 67108864):a0V env fl I0O [v] H (fun r H'=>h0d H' r (0,a0f (b0A a))∧Ext H H') R:=by
 have k0:=h
 obtain ⟨s,u,rfl,hs,hu⟩:=h
 refine a0k Y0G hf (h:=?_)
 intro ρ h0
 simp [U0B,K0f,K0g,h0]
 generalize hG:Array.push (Array.push H _) _=G
 have hx2:Ext H G:=by rw [← hG];exact (Ext.refl H).push.push
 have b0:a0e.blk G H.size=.row false a0b [.bool a.1.1,s,.bool a.2.1,u]:=by rw [← hG];simp
 have b1:a0e.blk G (H.size + 1)=.row false a0Z [.int .i64 0,.bool false,.slice none 0 0,.bool false,.slice none 0 0]:=by rw [← hG];simp
 have hx:=Ext.refl H
 clear hG
 replace hx:=hx.trans hx2;replace k0:=k0.mono hx2
 try simp [b0]
 refine (b0D k0 (b:=c0l) e0C hx.1 hn (by decide)).mono ?_
 rintro _ G2 ⟨⟨s1,s2,rfl,k2,k3⟩,hx2⟩
 replace b1:=hx2.blk b1;replace hx:=hx.trans hx2
 rw [e0F,b1D] at k2 k3 ⊢
 have hz:=a0g b1
 simp [h0,b1,k2.cells,k2.plain,k3.cells,k3.plain,hz]
 exact fun _=>⟨s1,s2,rfl,k2.setT b1 (by decide),k3.setT b1 (by decide)⟩
theorem m0f (h:h0d H v e) (hf:fl≤H.size) (hn:e0O e.2 < 67108864):a0V env fl S0a [v] H (fun r H'=>h0d H' r (g0h (l0O e))∧Ext H H') R:=by
 have k0:=h
 obtain ⟨s,u,rfl,hs,hu⟩:=h
 have k1:b0R H (.agg #[.bool e.2.1.1,s,.bool e.2.2.1,u]) e.2:=⟨s,u,rfl,hs,hu⟩
 refine a0k Y0W hf (h:=?_)
 intro ρ h0
 simp [U0R,L0w,h0]
 generalize hG:Array.push (Array.push H _) _=G
 have hx2:Ext H G:=by rw [← hG];exact (Ext.refl H).push.push
 have b0:a0e.blk G H.size=.row false a0Z [.int .i64 e.1,.bool e.2.1.1,s,.bool e.2.2.1,u]:=by rw [← hG];simp
 have b1:a0e.blk G (H.size + 1)=.row false a0Z [.int .i64 0,.bool false,.slice none 0 0,.bool false,.slice none 0 0]:=by rw [← hG];simp
 have hx:=Ext.refl H
 clear hG
 replace hx:=hx.trans hx2;replace k0:=k0.mono hx2;replace k1:=k1.mono hx2
 simp [L0x,h0,b0]
 refine (j0p k0 hx.1 hn).mono ?_
 rintro _ G2 ⟨rfl,hx2⟩
 replace b0:=hx2.blk b0;replace b1:=hx2.blk b1;replace hx:=hx.trans hx2;replace k1:=k1.mono hx2
 unfold l0O
 cases hm:l0U e
 ·simp [L0y,h0]
  refine (f0x (a:=c0l) e0C hx.1 (by decide)).mono ?_
  rintro _ G2 ⟨⟨s1,s2,rfl,k2,k3⟩,hx2⟩
  replace b0:=hx2.blk b0;replace b1:=hx2.blk b1;replace hx:=hx.trans hx2;replace k1:=k1.mono hx2
  rw [e0F] at k2 k3 ⊢
  have hz:=a0g b1
  simp [h0,b1,k2.cells,k2.plain,k3.cells,k3.plain,hz,g0h]
  exact fun _=>⟨s1,s2,rfl,k2.setT b1 (by decide),k3.setT b1 (by decide)⟩
 ·by_cases h3:e.1=0
  ·simp [h3,E0H,L0z,h0,b0]
   refine (f0x k1 hx.1 hn).mono ?_
   rintro _ G2 ⟨⟨s1,s2,rfl,k2,k3⟩,hx2⟩
   replace b0:=hx2.blk b0;replace b1:=hx2.blk b1;replace hx:=hx.trans hx2
   have hz:=a0g b1
   simp [h0,b1,k2.cells,k2.plain,k3.cells,k3.plain,hz,g0h]
   exact fun _=>⟨s1,s2,rfl,k2.setT b1 (by decide),k3.setT b1 (by decide)⟩
  ·have hz:=a0g b1
   simp [h3,E0H,L0A,h0,b0,b1,hz,g0h]
   exact fun _=>⟨_,_,rfl,Lim.nil,Lim.nil⟩
end
section
open Go
def u0d (b2 b:Nat) (A:a0W→a0e→Prop) (Z:a0W→a0e→Prop) (Q:d0K):d0K
 | .normal,t,H=>A t H
 | .exit j,t,H=>if j=b2 then A t H else if j=b then Z t H else Q (.exit j) t H
 | .ret,t,H=>Q .ret t H
section
variable {b2 b:Nat} {A Z:a0W→a0e→Prop} {Q:d0K} {t:a0W} {H:a0e}
@[simp] theorem O0t:u0d b2 b A Z Q .normal t H=A t H:=nr rfl
@[simp] theorem S0m {j:Nat}:u0d b2 b A Z Q (.exit j) t H=if j=b2 then A t H else if j=b then Z t H else Q (.exit j) t H:=nr rfl
@[simp] theorem U0e:u0d b2 b A Z Q .ret t H=Q .ret t H:=nr rfl
end
def Rnd (nt ti tn n i:Nat) (Inv:Nat→(Nat→Value)→a0e→Prop) (t:a0W) (H:a0e):Prop :=
 ∃ ρ,t=T nt ρ∧ρ ti=.int .i64 (i:Int)∧ρ tn=.int .i64 (n:Int)∧Inv (i + 1) ρ H
theorem Rnd.mk {nt ti tn n i:Nat} {Inv:Nat→(Nat→Value)→a0e→Prop} {ρ:Nat→Value} {H:a0e} (h1:ρ ti=.int .i64 (i:Int)) (h2:ρ tn=.int .i64 (n:Int)) (h3:Inv (i + 1) ρ H):Rnd nt ti tn n i Inv (T nt ρ) H:=⟨ρ,rfl,h1,h2,h3⟩
theorem c0F {E:Env} {fl nt ti tn tc tx b b2 n:Nat} {body:SCode} {Z:a0W→a0e→Prop} {Q:d0K} {R:a0u} {ρ:Nat→Value} {H:a0e} {rc rx:List a0D} (Inv:Nat→(Nat→Value)→a0e→Prop)
  (hrc:rc=[⟨some tc,none,.bin 0 .lss (.tmp ti) (.tmp tn)⟩]) (hrx:rx=[⟨some tx,none,.bin 0 .add (.tmp ti) (.const (.int .i64 1))⟩,⟨some ti,none,.mv (.tmp tx)⟩])
  (hl:ti < nt∧tn < nt∧tc < nt∧tx < nt∧tc ≠ ti∧tc ≠ tn∧tx ≠ ti∧tx ≠ tn∧ti ≠ tn) (hn:n < 4611686018427387904)
  (h0:ρ ti=.int .i64 0) (hN:ρ tn=.int .i64 (n:Int)) (hI:Inv 0 ρ H)
  (stab:∀ i (ρ ρ':Nat→Value) H,(∀ k,k ≠ tc→k ≠ tx→k ≠ ti→ρ' k=ρ k)→Inv i ρ H→Inv i ρ' H)
  (step:∀ i ρ H,i < n→ρ ti=.int .i64 (i:Int)→ρ tn=.int .i64 (n:Int)→Inv i ρ H→W E fl body (T nt ρ) H (u0d b2 b (Rnd nt ti tn n i Inv) Z Q) R)
  (rest:∀ ρ H,ρ ti=.int .i64 (n:Int)→ρ tn=.int .i64 (n:Int)→Inv n ρ H→Z (T nt ρ) H) :
  W E fl (.loop (.seq (.reg rc) (.seq (.cond (.tmp tc) .skip (.exit b)) (.seq (.block b2 body) (.reg rx))))) (T nt ρ) H (f0h b (h0H Z Q)) R:=by
 subst hrc hrx
 obtain ⟨l1,l2,l3,l4,n1,n2,n3,n4,n5⟩:=hl
 refine b0U (fun k t G=>∃ i ρ,i + k=n∧t=T nt ρ∧ρ ti=.int .i64 (i:Int)∧ρ tn=.int .i64 (n:Int)∧Inv i ρ G) Z n ?_ ?_ (fun _ _ h=>h)
 ·exact ⟨0,ρ,by omega,rfl,h0,hN,hI⟩
 ·clear h0 hN hI ρ H
  rintro k t G ⟨i,ρ,hik,rfl,g1,g2,hI⟩
  have e9:IntKind.i64.wrap ((i:Int) + 1)=((i + 1:Nat):Int):=by rw [a0F (by omega) (by omega)];omega
  have hstab:∀ v,Inv i (upd ρ tc v) G:=fun v=>stab i ρ _ G (fun k h1 _ _=>i0B (b1k h1)) hI
  refine h0q (l0Z ?_)
  simp only [k0k,x0u,j0o,b0Q l1,b0Q l2,g1,g2,G0j,o0G,x0t,e0h,O0K]
  by_cases hi:i < n
  ·have hs:=step i (upd ρ tc (.bool true)) G hi (by rw [i0B n1];exact g1) (by rw [i0B n2];exact g2) (hstab _)
   have hd:decide ((i:Int) < (n:Int))=true:=by rw [a1E];omega
   rw [hd]
   refine h0q (k0m true (by rw [j0o,b0Q l3,k0f]) (fun _=>t0J ?_) (by simp))
   refine h0q (n0W ?_)
   have hfin:∀ t' H',Rnd nt ti tn n i Inv t' H'→WR E fl [⟨some tx,none,.bin 0 .add (.tmp ti) (.const (.int .i64 1))⟩,⟨some ti,none,.mv (.tmp tx)⟩] t' H' (fun t' H'=>∃ k',k' < k∧∃ i ρ,i + k' = n∧t' = T nt ρ∧ρ ti=.int .i64 (i:Int)∧ρ tn=.int .i64 (n:Int)∧Inv i ρ H') R:=by
    rintro t' H' ⟨ρ',rfl,q1,q2,q3⟩
    simp only [k0k,x0u,F0Y,j0o,G0s,b0Q l1,q1,G0h,e9,o0G,x0t,O0K,b0Q l4,k0f]
    refine ⟨k - 1,by omega,i + 1,_,by omega,rfl,k0f,?_,?_⟩
    ·rw [i0B n5,i0B n4];exact q2
    ·exact stab (i + 1) ρ' _ H' (fun k h1 h2 h3=>by rw [i0B (b1k h3),i0B (b1k h2)]) q3
   refine hs.mono fun e t' H' hq=>?_
   cases e with
   | normal=>exact l0Z (hfin _ _ hq)
   | exit j =>
    simp only [u0d] at hq
    show (if j=b2 then _ else _)
    by_cases hj:j=b2
    ·rw [Z0I hj] at hq ⊢;exact l0Z (hfin _ _ hq)
    ·rw [Z0F hj] at hq ⊢
     show (if j=b then _ else _)
     by_cases hj2:j=b
     ·rw [Z0I hj2] at hq ⊢;exact hq
     ·rw [Z0F hj2] at hq ⊢;exact hq
   | ret=>exact hq
  ·have:i=n:=by omega
   subst this
   have hd:decide ((i:Int) < (i:Int))=false:=by simp
   rw [hd]
   refine h0q (k0m false (by rw [j0o,b0Q l3,k0f]) (by simp) (fun _=>t0I ?_))
   show (if b=b then _ else _)
   rw [Z0I rfl]
   exact rest _ _ (by rw [i0B n1];exact g1) (by rw [i0B n2];exact g2) (hstab _)
theorem n0L {Q:d0K}:h0H (fun t H=>Q .normal t H) Q=Q:=by
 funext e t H;cases e <;> rfl
theorem m0D {E:Env} {fl nt ti tn tc tx b b2 n:Nat} {body:SCode} {Q:d0K} {R:a0u} {ρ:Nat→Value} {H:a0e} {rc rx:List a0D} (Inv:Nat→(Nat→Value)→a0e→Prop)
  (hrc:rc=[⟨some tc,none,.bin 0 .lss (.tmp ti) (.tmp tn)⟩]) (hrx:rx=[⟨some tx,none,.bin 0 .add (.tmp ti) (.const (.int .i64 1))⟩,⟨some ti,none,.mv (.tmp tx)⟩])
  (hl:ti < nt∧tn < nt∧tc < nt∧tx < nt∧tc ≠ ti∧tc ≠ tn∧tx ≠ ti∧tx ≠ tn∧ti ≠ tn) (hn:n < 4611686018427387904)
  (h0:ρ ti=.int .i64 0) (hN:ρ tn=.int .i64 (n:Int)) (hI:Inv 0 ρ H)
  (stab:∀ i (ρ ρ':Nat→Value) H,(∀ k,k ≠ tc→k ≠ tx→k ≠ ti→ρ' k=ρ k)→Inv i ρ H→Inv i ρ' H)
  (step:∀ i ρ H,i < n→ρ ti=.int .i64 (i:Int)→ρ tn=.int .i64 (n:Int)→Inv i ρ H→W E fl body (T nt ρ) H (u0d b2 b (Rnd nt ti tn n i Inv) (fun t H=>Q .normal t H) Q) R)
  (rest:∀ ρ H,ρ ti=.int .i64 (n:Int)→ρ tn=.int .i64 (n:Int)→Inv n ρ H→Q .normal (T nt ρ) H) :
  W E fl (.loop (.seq (.reg rc) (.seq (.cond (.tmp tc) .skip (.exit b)) (.seq (.block b2 body) (.reg rx))))) (T nt ρ) H (f0h b Q) R:=by
 rw [← n0L (Q:=Q)]
 exact c0F (Z:=fun t H=>Q .normal t H) (Q:=Q) Inv hrc hrx hl hn h0 hN hI stab step rest
def Sls {α:Type} (P:a0e→List Value→α→Prop) (H:a0e) (e sz:Nat) (v:Value) (l:List α):Prop :=
 ∃ cs,Sl H e sz v l.length cs∧∀ k (h:k < l.length),P H ((cs.drop (k * sz)).take sz) l[k]
def h0p {α:Type} (P:a0e→List Value→α→Prop):Prop:=∀ H G cs x,Ext H G→P H cs x→P G cs x
section
variable {α:Type} {P:a0e→List Value→α→Prop} {H G:a0e} {e sz:Nat} {v:Value} {l:List α}
theorem Sls.mono (hP:h0p P) (h:Sls P H e sz v l) (hx:Ext H G):Sls P G e sz v l:=by
 obtain ⟨cs,h1,h2⟩:=h;exact ⟨cs,h1.mono hx,fun k hk=>hP _ _ _ _ hx (h2 k hk)⟩
theorem Sls.slen (h:Sls P H e sz v l):g0C v=some (.int .i64 l.length):=by obtain ⟨cs,h1,_⟩:=h;exact h1.slen
theorem Sls.ia (h:Sls P H e sz v l) {k:IntKind} {j:Nat} (hj:j < l.length):iaV sz v (.int k j)=some (adr sz v j):=by obtain ⟨cs,h1,_⟩:=h;exact h1.ia hj
theorem Sls.load (h:Sls P H e sz v l) {j:Nat} (hj:j < l.length) (hs:0 < sz):∃ cs,b0o H true sz (adr sz v j)=some (.agg cs.toArray)∧cs.length=sz∧P H cs l[j]:=by
 obtain ⟨cs,h1,h2⟩:=h
 refine ⟨_,h1.load (Ext.refl H) hj hs,?_,h2 j hj⟩
 have:=h1.1
 have:(j + 1) * sz≤l.length * sz:=Z0L _ hj
 rw [Z0U,a1w] at this
 simp;omega
theorem Sls.load1 (h:Sls P H e 1 v l) {j:Nat} (hj:j < l.length):∃ w,b0o H false 1 (adr 1 v j)=some w∧P H [w] l[j]:=by
 obtain ⟨cs,h1,h2⟩:=h
 refine ⟨_,h1.load1 (Ext.refl H) hj,?_⟩
 have h3:=h2 j hj
 have hl:=h1.1
 have:(cs.drop (j * 1)).take 1=[cs.getD j undef]:=by
  have hjc:j < cs.length:=by omega
  have e1:cs.getD j undef=cs[j]:=by simp [Z0C,hjc]
  rw [b1f,a1L hjc,e1];rfl
 rw [this] at h3;exact h3
theorem Sls.cells (h:Sls P H e sz v l):a0S v=[v]:=by obtain ⟨cs,h1,_⟩:=h;exact h1.cells
theorem Sls.plain (h:Sls P H e sz v l):a0q v=true:=by obtain ⟨cs,h1,_⟩:=h;exact h1.plain
theorem Sls.nil:Sls P H e sz (.slice none 0 0) ([]:List α):=⟨[],Sl.nil,fun k hk=>by simp at hk⟩
end
def b0a {α:Type} (P:a0e→List Value→α→Prop) (fl:Nat) (H:a0e) (e sz:Nat) (v:Value) (l:List α):Prop :=
 ∃ cs,Own fl H e sz v l.length cs∧∀ k (h:k < l.length),P H ((cs.drop (k * sz)).take sz) l[k]
section
variable {α:Type} {P:a0e→List Value→α→Prop} {H G:a0e} {fl e sz:Nat} {v:Value} {l:List α}
theorem b0a.sls (h:b0a P fl H e sz v l):Sls P H e sz v l:=by obtain ⟨cs,h1,h2⟩:=h;exact ⟨cs,h1.sl,h2⟩
theorem b0a.mono (hP:h0p P) (h:b0a P fl H e sz v l) (hx:Ext H G):b0a P fl G e sz v l:=by
 obtain ⟨cs,h1,h2⟩:=h;exact ⟨cs,h1.mono hx,fun k hk=>hP _ _ _ _ hx (h2 k hk)⟩
theorem b0a.nil:b0a P fl H e sz (.slice none 0 0) ([]:List α):=⟨[],Own.nil,fun k hk=>by simp at hk⟩
theorem b0a.slen (h:b0a P fl H e sz v l):g0C v=some (.int .i64 l.length):=h.sls.slen
def Lx (H G:a0e):Prop:=∀ b ro cs,H.blk b=.row ro a0m cs→G.blk b=.row ro a0m cs
theorem b0a.lx (h:b0a P fl G e sz v l) (he:e ≠ a0m) {G':a0e} (hx:c0V (slB v) G G'):Lx G G':=by
 intro b ro cs hb
 obtain ⟨cs',⟨hl,⟨rfl,_⟩ | ⟨p,cap,rfl,hp,_⟩⟩,_⟩:=h
 ·rw [hx.2 b (a0g hb) (by simp [slB])];exact hb
 ·rw [hx.2 b (a0g hb) (by simp [slB];rintro rfl;rw [hp] at hb;cases hb;exact he rfl)];exact hb
theorem b0a.app (he:e ≠ a0m) (hO:∀ G' cs x,c0V (slB v) G G'→Lx G G'→P G cs x→P G' cs x) (h:b0a P fl G e sz v l) {e2 c bytes:Nat} {new:List Value} {x:α} (hx:P G new x) (hl:new.length=sz) (hp:new.all a0q=true) (hn:l.length < 1073741824) (hb:bytes≤1024) (hs:0 < sz) (hfl:fl≤G.size) :
  ∃ v' G',h0g fl (G.push (.row false e2 new)) e sz bytes v (.slice (some ⟨G.size,0,none⟩) 1 c)=some (v',G')∧b0a P fl G' e sz v' (l ++ [x])∧c0V (slB v) G G'∧(∀ H0,H0.size≤fl→Ext H0 G→Ext H0 G'):=by
 obtain ⟨cs,h1,h2⟩:=h
 obtain ⟨v',G',a1,a2,a3,a4⟩:=g0f (e2:=e2) (c:=c) h1 hl hp hn hb hs hfl (bytes:=bytes)
 refine ⟨v',G',a1,⟨cs ++ new,by simpa using a2,fun k hk=>?_⟩,a3,a4⟩
 have hcs:=h1.1
 by_cases hkl:k < l.length
 ·have h3:(k + 1) * sz≤l.length * sz:=Z0L _ hkl
  rw [Z0U,a1w] at h3
  rw [a1B hkl,a1J (by omega),a1X (by simp;omega)]
  exact hO _ _ _ a3 (b0a.lx ⟨cs,h1,h2⟩ he a3) (h2 k hkl)
 ·have hke:k=l.length:=by simp at hk;omega
  subst hke
  rw [Z0Z (Z0E _),a1J (by omega),a1U (by omega),b1d,← hl,a1a]
  simpa using hO _ _ _ a3 (b0a.lx ⟨cs,h1,h2⟩ he a3) hx
end
theorem Lim.lx {H G:a0e} {v:Value} {l:List Nat} (h:Lim H v l) (hx:Lx H G):Lim G v l:=by
 obtain ⟨⟨hl,h1 | ⟨b,off,cap,ro,cells,rfl,hb,ho,hcs⟩⟩,h2⟩:=h
 ·exact ⟨⟨hl,.inl h1⟩,h2⟩
 ·exact ⟨⟨hl,.inr ⟨b,off,cap,ro,cells,rfl,hx _ _ _ hb,ho,hcs⟩⟩,h2⟩
theorem b0R.lx {H G:a0e} {v:Value} {a:b0k} (h:b0R H v a) (hx:Lx H G):b0R G v a:=by obtain ⟨s,u,h1,h2,h3⟩:=h;exact ⟨s,u,h1,h2.lx hx,h3.lx hx⟩
theorem h0d.lx {H G:a0e} {v:Value} {e:c0c} (h:h0d H v e) (hx:Lx H G):h0d G v e:=by obtain ⟨s,u,h1,h2,h3⟩:=h;exact ⟨s,u,h1,h2.lx hx,h3.lx hx⟩
end
section
open Go
set_option maxHeartbeats 4000000
variable {fl:Nat} {H G:a0e} {R:a0u} {v w:Value}
def PR (H:a0e) (cs:List Value) (a:b0k):Prop:=b0R H (.agg cs.toArray) a
def PE (H:a0e) (cs:List Value) (e:c0c):Prop:=h0d H (.agg cs.toArray) e
theorem a0I:h0p PR:=fun _ _ _ _ hx h=>b0R.mono h hx
theorem d0h:h0p PE:=fun _ _ _ _ hx h=>h0d.mono h hx
abbrev b0y (H:a0e) (v:Value) (l:List b0k):Prop:=Sls PR H a0b 4 v l
abbrev d0J (H:a0e) (v:Value) (l:List c0c):Prop:=Sls PE H a0Z 5 v l
def PS (H:a0e) (cs:List Value) (l:List b0k):Prop:=∃ v,cs=[v]∧b0y H v l
theorem d0O:h0p PS:=fun _ _ _ _ hx ⟨v,h1,h2⟩=>⟨v,h1,h2.mono a0I hx⟩
abbrev f0V (H:a0e) (v:Value) (l:List (List b0k)):Prop:=Sls PS H a0C 1 v l
theorem b0y.load {l:List b0k} (h:b0y H v l) {j:Nat} (hj:j < l.length):∃ w,b0o H true 4 (adr 4 v j)=some w∧b0R H w l[j]:=by
 obtain ⟨cs,h1,_,h3⟩:=Sls.load h hj (by omega);exact ⟨_,h1,h3⟩
theorem d0J.load {l:List c0c} (h:d0J H v l) {j:Nat} (hj:j < l.length):∃ w,b0o H true 5 (adr 5 v j)=some w∧h0d H w l[j]:=by
 obtain ⟨cs,h1,_,h3⟩:=Sls.load h hj (by omega);exact ⟨_,h1,h3⟩
theorem f0V.load {l:List (List b0k)} (h:f0V H v l) {j:Nat} (hj:j < l.length):∃ w,b0o H false 1 (adr 1 v j)=some w∧b0y H w l[j]:=by
 obtain ⟨w,h1,w',h2,h3⟩:=Sls.load1 h hj
 simp at h2;subst h2;exact ⟨_,h1,h3⟩
def p0O (a b:List b0k):Nat→Rat
 | 0=>0
 | n + 1=>p0O a b n + b0A (a.getD n c0l) * b0A (b.getD n c0l)
def Few (S:Nat) (l:List b0k):Prop:=∀ x ∈ l,e0O x≤S∧b0x x.1.2∧b0x x.2.2
theorem Few.sz {S:Nat} {l:List b0k} (h:Few S l) (n:Nat):szR (b0A (l.getD n c0l))≤S + 1:=by
 rw [Z0C]
 by_cases hn:n < l.length
 ·rw [Z0H hn]
  obtain ⟨h1,h2,h3⟩:=h _ (Z0M hn)
  have:=d0s h2 h3
  simp;omega
 ·rw [Z0P (by omega)]
  show szR (b0A c0l)≤_
  rw [e0F,f0K];omega
theorem F0B {S:Nat} {a b:List b0k} (ha:Few S a) (hb:Few S b):∀ n,szR (p0O a b n)≤n * (2 * S + 3) + 1
 | 0=>by simp [p0O,f0K]
 | n + 1=>by
  have h1:=F0B ha hb n
  have h2:=p0H (p0O a b n) (b0A (a.getD n c0l) * b0A (b.getD n c0l))
  have h3:=f0J (b0A (a.getD n c0l)) (b0A (b.getD n c0l))
  have h4:=ha.sz n
  have h5:=hb.sz n
  rw [p0O,Z0U];omega
end
section
open Go
set_option maxHeartbeats 4000000
variable {fl:Nat} {H G:a0e} {R:a0u} {v w:Value} {a b:List c0c}
theorem b0a.cast {α:Type} {P:a0e→List Value→α→Prop} {fl e sz:Nat} {v v':Value} {l:List α} (h:v=v') (k:b0a P fl H e sz v' l):b0a P fl H e sz v l:=by rw [h];exact k
def N0u (l:List c0c):Prop:=∀ x ∈ l,e0O x.2 < 67108864
def f0W {α:Type} (p:α→Bool) (l:List α):Bool:=l.any p
def x0b {α:Type} (p:α→Bool) (l:List α):Bool:=l.all p
section
variable {α:Type} {p:α→Bool} {l:List α} {i:Nat}
theorem o0a:f0W p []=false:=rfl
theorem t0N:x0b p []=true:=rfl
theorem k0o (h:i < l.length):f0W p (l.take (i + 1))=(f0W p (l.take i) || p l[i]):=by
 unfold f0W;rw [a1d h,List.any_append];simp
theorem p0W (h:i < l.length):x0b p (l.take (i + 1))=(x0b p (l.take i) && p l[i]):=by
 unfold x0b;rw [a1d h,b1O];simp
theorem o0b (h:i < l.length) (hp:p l[i]=true):f0W p l=true:=List.any_eq_true.2 ⟨_,Z0M h,hp⟩
theorem r0E (h:i < l.length) (hp:p l[i]=false):x0b p l=false:=by
 unfold x0b;rw [List.all_eq_false];exact ⟨l[i],Z0M h,by simp [hp]⟩
end
theorem l0W {p:c0c→Bool} {g:FuncId} (ha:d0J H v a) (hf:fl≤H.size) (hfa:N0u a) (hal:a.length < 1073741824)
  (hg:∀ (fl:Nat) (G:a0e) (v:Value) (e:c0c),fl≤G.size→h0d G v e→e0O e.2 < 67108864→a0V env fl g [v] G (fun r H'=>r=.bool (p e)∧Ext G H') R) :
  a0V env fl S0f [v,.func (.func g) #[] #[]] H (fun r H'=>(∃ z:Int,r=.int .i64 z∧(0≤z ↔ f0W p a=true))∧Ext H H') R:=by
 refine a0k Z0e hf (h:=?_)
 intro ρ h0
 simp [U0Z,L0Y,L0Z,h0,ha.slen]
 refine c0F (n:=a.length) (fun i ρ G=>ρ 0=v∧ρ 1=.func (.func g) #[] #[]∧Ext H G∧f0W p (a.take i)=false)
  rfl rfl (by decide) (by omega) (by simp) (by simp) ?_ ?_ ?_ ?_
 ·exact ⟨by simp [h0],by simp [h0],Ext.refl H,by rw [c1d];exact o0a⟩
 ·intro i ρ ρ' G h hI;simpa [h] using hI
 ·clear h0 ρ
  rintro i ρ G hi gi gn ⟨g0,g1,hx,hc⟩
  have ka:=ha.mono d0h hx
  obtain ⟨w,hl,k0⟩:=d0J.load ka hi
  simp [M0a,M0b,gi,g0,g1,ka.ia hi,hl]
  refine (hg _ _ _ _ hx.1 k0 (hfa _ (Z0M hi))).mono ?_
  rintro _ G2 ⟨rfl,hx2⟩
  have hx':=hx.trans hx2
  cases hp:p a[i]
  ·simp
   refine Rnd.mk (by simp [gi]) (by simp [gn]) ⟨by simp [g0],by simp [g1],hx',by rw [k0o hi,hc,hp];rfl⟩
  ·simp [M0c,gi]
   exact fun _=>o0b hi hp
 ·clear h0 ρ
  rintro ρ G gi gn ⟨g0,g1,hx,hc⟩
  rw [a1a] at hc
  simp [M0d,hc]
theorem f0g {p:c0c→Bool} {g:FuncId} (ha:d0J H v a) (hf:fl≤H.size) (hfa:N0u a) (hal:a.length < 1073741824)
  (hg:∀ (fl:Nat) (G:a0e) (v:Value) (e:c0c),fl≤G.size→h0d G v e→e0O e.2 < 67108864→a0V env fl g [v] G (fun r H'=>r=.bool (p e)∧Ext G H') R) :
  a0V env fl Q0r [v,.func (.func g) #[] #[]] H (fun r H'=>r=.bool (f0W p a)∧Ext H H') R:=by
 refine a0k Y0O hf (h:=?_)
 intro ρ h0
 simp [U0J,K0K,K0L,h0]
 refine (l0W (p:=p) ha (Z0E _) hfa hal hg).mono ?_
 rintro _ G2 ⟨⟨z,rfl,hz⟩,hx2⟩
 simp
 intro _
 rw [c1o,a1E];exact hz
theorem j0I {e:c0c} (h:h0d H v e) (hf:fl≤H.size) (hn:e0O e.2 < 67108864):a0V env fl S0c [v] H (fun r H'=>r=.bool (!l0U e)∧Ext H H') R:=by
 have k0:=h
 obtain ⟨s,u,rfl,hs,hu⟩:=h
 refine a0k Z0a hf (h:=?_)
 intro ρ h0
 simp [U0V,L0N,L0O,h0]
 generalize hG:Array.push H _=G
 obtain ⟨hx2,b0⟩:=h0K hG
 have hx:=Ext.refl H
 clear hG
 replace hx:=hx.trans hx2;replace k0:=k0.mono hx2
 try simp [b0]
 refine (j0p k0 hx.1 hn).mono ?_
 rintro _ G2 ⟨rfl,hx2⟩
 simp
def e0n (H:a0e) (v:Value) (rows:List (List b0k)):Prop:=∃ s,v=.agg #[s]∧f0V H s rows
def p0C (n:Int) (r:List b0k):Bool:=decide ((r.length:Int)=n) && x0b u0k r
def j0C (rows:List (List b0k)) (n:Int):Bool:=decide (0≤n) && decide (n≤6) && decide (rows.length≤40) && x0b (p0C n) rows
theorem j0Q {S:Nat} {rows:List (List b0k)} {n:Int} (h:e0n H v rows) (hf:fl≤H.size) (hS:S < 67108864) (hr:∀ r ∈ rows,Few S r∧r.length < 1073741824) (hrl:rows.length < 1073741824) :
  a0V env fl S0b [v,.int .i64 n] H (fun r H'=>r=.bool (j0C rows n)∧Ext H H') R:=by
 obtain ⟨s,rfl,hs⟩:=h
 refine a0k Y0Z hf (h:=?_)
 intro ρ h0
 simp [U0U,L0J,h0,hs.cells]
 generalize hG:Array.push H _=G
 obtain ⟨hx2,b0⟩:=h0K hG
 have hx:=Ext.refl H
 clear hG
 replace hx:=hx.trans hx2
 unfold j0C
 by_cases h1:n < 0
 ·have h1':¬ 0≤n:=by omega
  simp [r0f,v0o,h0,h1,h1']
 ·have h1':0≤n:=by omega
  by_cases h2:6 < n
  ·have h2':¬ n≤6:=by omega
   simp [r0f,v0o,h0,h1,h1',h2,h2']
  ·have h2':n≤6:=by omega
   by_cases h3:40 < rows.length
   ·have h3':¬ rows.length≤40:=by omega
    have h3'':(40:Int) < (rows.length:Int):=by omega
    simp [r0f,v0o,h0,b0,(hs.mono d0O hx).slen,hs.slen,h1,h1',h2,h2',h3,h3',h3'']
   ·have h3':rows.length≤40:=by omega
    have h3'':¬ (40:Int) < (rows.length:Int):=by omega
    simp [r0f,L0K,h0,b0,hs.slen,h1,h1',h2,h2',h3,h3',h3'']
    refine c0F (n:=rows.length) (fun i ρ G=>ρ 1=.int .i64 n∧ρ 22=s∧Ext H G∧x0b (p0C n) (rows.take i)=true)
     rfl rfl (by decide) (by omega) (by simp) (by simp) ?_ ?_ ?_ ?_
    ·exact ⟨by simp [h0],by simp,hx,by rw [c1d];exact t0N⟩
    ·intro i ρ ρ' G h hI;simpa [h] using hI
    ·clear h0 ρ hx b0 hx2
     rintro i ρ G hi gi gn ⟨g1,g22,hx,hc⟩
     have ks:=hs.mono d0O hx
     obtain ⟨w,hl,kw⟩:=f0V.load ks hi
     obtain ⟨hfew,hrl2⟩:=hr _ (Z0M hi)
     by_cases hlen:(rows[i].length:Int)=n
     ·simp [E0O,E0P,L0M,g1,g22,gi,ks.ia hi,hl,kw.slen,hlen]
      refine m0D (n:=rows[i].length) (fun j ρ G=>ρ 1=.int .i64 n∧ρ 22=s∧ρ 24=.int .i64 (i:Int)∧ρ 23=.int .i64 (rows.length:Int)∧ρ 32=w∧Ext H G∧b0y G w rows[i]∧x0b u0k (rows[i].take j)=true)
       rfl rfl (by decide) (by omega) (by simp) (by simp [hlen]) ?_ ?_ ?_ ?_
      ·exact ⟨by simp [g1],by simp [g22],by simp [gi],by simp [gn],by simp,hx,kw,by rw [c1d];exact t0N⟩
      ·intro i ρ ρ' G h hI;simpa [h] using hI
      ·clear g1 g22 gi gn hx kw hl ks ρ G
       rintro j ρ G hj gj gm ⟨g1,g22,gi,gn,g32,hx,kw,hcj⟩
       obtain ⟨x,hlx,k0⟩:=b0y.load kw hj
       obtain ⟨s1,s2,rfl,k1,k2⟩:=id k0
       have hf2:=hfew _ (Z0M hj)
       have hsz:=hx.1
       simp [E0K,g1,g22,g32,gj,kw.ia hj,hlx,k1.cells,k1.plain,k2.cells,k2.plain,hsz]
       generalize hN:Array.setIfInBounds (Array.push _ _) _ _=G3
       obtain ⟨hx2,b1⟩:=new1 hN
       clear hN
       replace hx:=hx.trans hx2;replace k0:=k0.mono hx2
       replace kw:=kw.mono a0I hx2
       simp [E0L,b1]
       refine (g0A k0 hx.1 (by omega)).mono ?_
       rintro _ G2 ⟨rfl,hx2⟩
       replace hx:=hx.trans hx2
       replace kw:=kw.mono a0I hx2
       cases hm:u0k rows[i][j]
       ·simp [E0M]
        intros
        exact r0E hi (by unfold p0C;rw [r0E hj hm];simp)
       ·simp
        exact Rnd.mk (by simp [gj]) (by simp [gm]) ⟨by simp [g1],by simp [g22],by simp [gi],by simp [gn],by simp [g32],hx,kw,by rw [p0W hj,hcj,hm];rfl⟩
      ·rintro ρ G gj gm ⟨g1,g22,gi,gn,g32,hx,kw,hcj⟩
       rw [a1a] at hcj
       simp
       exact Rnd.mk gi gn ⟨g1,g22,hx,by rw [p0W hi,hc];unfold p0C;simp [hlen,hcj]⟩
     ·simp [E0O,E0P,L0L,g1,g22,gi,ks.ia hi,hl,kw.slen,hlen]
      intro _
      exact r0E hi (by unfold p0C;simp [hlen])
    ·clear h0 ρ hx b0 hx2
     rintro ρ G gi gn ⟨g1,g22,hx,hc⟩
     rw [a1a] at hc
     simp [E0N,hc]
def f0e (rows:List (List b0k)) (n:Int) (d:List c0c):Bool:=j0C rows n && decide (d.length=rows.length) && !f0W (fun e=>!l0U e) d
theorem m0e {S:Nat} {rows:List (List b0k)} {n:Int} {d:List c0c} (h:e0n H v rows) (hd:d0J H w d) (hf:fl≤H.size) (hS:S < 67108864) (hr:∀ r ∈ rows,Few S r∧r.length < 1073741824) (hrl:rows.length < 1073741824) (hfd:N0u d) (hdl:d.length < 1073741824) :
  a0V env fl R0S [v,.int .i64 n,w] H (fun r H'=>r=.bool (f0e rows n d)∧Ext H H') R:=by
 have kt:=h
 obtain ⟨s,rfl,hs⟩:=h
 refine a0k Y0M hf (h:=?_)
 intro ρ h0
 simp [U0H,K0G,h0,hs.cells]
 generalize hG:Array.push H _=G
 obtain ⟨hx2,b0⟩:=h0K hG
 have hx:=Ext.refl H
 clear hG
 replace hx:=hx.trans hx2
 have kt2:e0n G (.agg #[s]) rows:=⟨s,rfl,hs.mono d0O hx⟩
 unfold f0e
 simp [K0H,h0,b0]
 refine (j0Q (n:=n) kt2 hx.1 hS hr hrl).mono ?_
 rintro _ G2 ⟨rfl,hx2⟩
 replace b0:=hx2.blk b0;replace hx:=hx.trans hx2
 cases h1:j0C rows n
 ·simp
 ·by_cases h2:d.length=rows.length
  ·have h2':(d.length:Int)=(rows.length:Int):=by omega
   simp [h0,b0,hd.slen,hs.slen,h2,h2']
   refine (f0g (p:=fun e=>!l0U e) (hd.mono d0h hx) hx.1 hfd hdl (fun fl G v e hf h hn=>j0I h hf hn)).mono ?_
   rintro _ G2 ⟨rfl,hx2⟩
   simp
  ·have h2':¬ (d.length:Int)=(rows.length:Int):=by omega
   simp [h0,b0,hd.slen,hs.slen,h2,h2']
end
section
open Go
set_option maxHeartbeats 4000000
variable {fl:Nat} {H G:a0e} {R:a0u} {v w u:Value}
def g0Z (l:List b0k):List b0k:=l.map fun x=>a0f (b0A x)
theorem p0K {α β:Type} {f:α→β} {l:List α} {i:Nat} (h:i < l.length):(l.map f).take (i + 1)=(l.map f).take i ++ [f l[i]]:=by
 rw [a1d (by simpa using h)];simp
theorem e0b {fl e sz bytes n c:Nat} {H H':a0e} {s v':Value} {xb:Option Addr} (hn:n ≠ 0) (h:h0g fl H e sz bytes s (.slice xb n c)=some (v',H')):∃ m k,v' = .slice (some ⟨H.size,0,none⟩) m k:=by
 unfold h0g at h
 split at h
 ·rename_i base len cap xb' n' c' heq
  cases heq
  rw [Z0F hn] at h
  split at h
  ·split at h
   ·cases h
   ·split at h
    ·cases h
    ·split at h
     ·cases h
     ·split at h
      ·split at h
       ·cases h;exact ⟨_,_,rfl⟩
       ·cases h
      ·split at h
       ·cases h;exact ⟨_,_,rfl⟩
       split at h
       ·cases h
       ·split at h
        ·cases h;exact ⟨_,_,rfl⟩
        ·split at h
         ·split at h
          ·cases h;exact ⟨_,_,rfl⟩
          ·cases h
         ·cases h
  ·cases h
 ·cases h
def LxT (e:Nat) (H G:a0e):Prop:=∀ b ro cs,H.blk b=.row ro e cs→G.blk b=.row ro e cs
theorem b0a.lxT {α:Type} {P:a0e→List Value→α→Prop} {fl e sz e':Nat} {v:Value} {l:List α} (h:b0a P fl G e sz v l) (he:e ≠ e') {G':a0e} (hx:c0V (slB v) G G'):LxT e' G G':=by
 intro b ro cs hb
 obtain ⟨cs',⟨hl,⟨rfl,_⟩ | ⟨p,cap,rfl,hp,_⟩⟩,_⟩:=h
 ·rw [hx.2 b (a0g hb) (by simp [slB])];exact hb
 ·rw [hx.2 b (a0g hb) (by simp [slB];rintro rfl;rw [hp] at hb;cases hb;exact he rfl)];exact hb
theorem b0y.lx2 {l:List b0k} (h:b0y H v l) (h1:LxT a0b H G) (h2:Lx H G):b0y G v l:=by
 obtain ⟨cs,⟨hl,hs⟩,hp⟩:=h
 refine ⟨cs,⟨hl,?_⟩,fun k hk=>b0R.lx (hp k hk) h2⟩
 rcases hs with hs | ⟨b,off,cap,ro,cells,rfl,hb,ho,hcs⟩
 ·exact .inl hs
 ·exact .inr ⟨b,off,cap,ro,cells,rfl,h1 _ _ _ hb,ho,hcs⟩
theorem b0y.off {l:List b0k} {o:Option Nat} (h:b0y H v l) (hx:c0V o H G) (hne:slB v=none ∨ slB v ≠ o) (h2:Lx H G):b0y G v l:=by
 obtain ⟨cs,⟨hl,hs⟩,hp⟩:=h
 refine ⟨cs,⟨hl,?_⟩,fun k hk=>b0R.lx (hp k hk) h2⟩
 rcases hs with hs | ⟨b,off,cap,ro,cells,rfl,hb,ho,hcs⟩
 ·exact .inl hs
 ·refine .inr ⟨b,off,cap,ro,cells,rfl,?_,ho,hcs⟩
  rw [hx.2 b (a0g hb) (by rcases hne with h | h;simp [slB] at h;exact fun h3=>h h3.symm)];exact hb
theorem b0y.lt {l:List b0k} (h:b0y H v l) {b:Nat} (hb:slB v=some b):b < H.size:=by
 obtain ⟨cs,⟨hl,⟨rfl,_⟩ | ⟨b',off,cap,ro,cells,rfl,hb',ho,hcs⟩⟩,hp⟩:=h
 ·simp [slB] at hb
 ·simp [slB] at hb;subst hb;exact a0g hb'
structure LPt where
 n:Int
 A:List (List b0k)
 B:List b0k
 C:List b0k
def LPV (H:a0e) (v:Value) (p:LPt):Prop:=∃ sA sB sC,v=.agg #[.int .i64 p.n,sA,sB,sC]∧f0V H sA p.A∧b0y H sB p.B∧b0y H sC p.C
def d0d:List (List b0k)→List c0c→List (List b0k)
 | r :: rs,e :: es=>if e.1=0 then g0Z r :: d0d rs es else d0d rs es
 | _,_=>[]
def d0e:List (List b0k)→List c0c→List b0k
 | _ :: rs,e :: es=>if e.1=0 then a0f (b0A e.2) :: d0e rs es else d0e rs es
 | _,_=>[]
theorem i0U:∀ {rows:List (List b0k)} {d:List c0c} {i:Nat} (h1:i < rows.length) (h2:i < d.length),d0d (rows.take (i + 1)) (d.take (i + 1))=d0d (rows.take i) (d.take i) ++ if d[i].1=0 then [g0Z rows[i]] else []
 | [],_,_,h,_=>by simp at h
 | _ :: _,[],_,_,h=>by simp at h
 | r :: rs,e :: es,0,_,_=>by simp [d0d]
 | r :: rs,e :: es,i + 1,h1,h2=>by
  have:=i0U (rows:=rs) (d:=es) (i:=i) (by simpa using h1) (by simpa using h2)
  simp only [c1l,d0d,this,b1w]
  split <;> simp
theorem i0V:∀ {rows:List (List b0k)} {d:List c0c} {i:Nat} (_:i < rows.length) (h2:i < d.length),d0e (rows.take (i + 1)) (d.take (i + 1))=d0e (rows.take i) (d.take i) ++ if d[i].1=0 then [a0f (b0A d[i].2)] else []
 | [],_,_,h,_=>by simp at h
 | _ :: _,[],_,_,h=>by simp at h
 | r :: rs,e :: es,0,_,_=>by simp [d0e]
 | r :: rs,e :: es,i + 1,h1,h2=>by
  have:=i0V (rows:=rs) (d:=es) (i:=i) (by simpa using h1) (by simpa using h2)
  simp only [c1l,d0e,this,b1w]
  split <;> simp
theorem p0B (H:a0e):∀ n:Nat,(e0q [.bool false,.slice none 0 0,.bool false,.slice none 0 0] n).length=n * 4∧∀ k,k < n→PR H (((e0q [.bool false,.slice none 0 0,.bool false,.slice none 0 0] n).drop (k * 4)).take 4) c0l
 | 0=>⟨rfl,fun k hk=>by omega⟩
 | n + 1=>by
  obtain ⟨h1,h2⟩:=p0B H n
  refine ⟨by rw [e0q,Z0S,h1];simp;omega,fun k hk=>?_⟩
  cases k with
  | zero=>exact e0C
  | succ k =>
   have:=h2 k (by omega)
   rw [e0q,show (k + 1) * 4=4 + k * 4 by omega,← b1t]
   exact this
theorem b0a.ne {α:Type} {Q:a0e→List Value→α→Prop} {fl e sz e' p:Nat} {v:Value} {l:List α} {cs:List Value} {ro:Bool} (h:b0a Q fl G e sz v l) (hb:a0e.blk G p=.row ro e' cs) (he:e ≠ e'):slB v ≠ some p:=by
 obtain ⟨cs',⟨hl,⟨rfl,_⟩ | ⟨b,cap,rfl,hp,_⟩⟩,_⟩:=h
 ·simp [slB]
 ·simp [slB];rintro rfl;rw [hp] at hb;cases hb;exact he rfl
theorem b0a.ge {α:Type} {Q:a0e→List Value→α→Prop} {fl e sz:Nat} {v:Value} {l:List α} (h:b0a Q fl G e sz v l) {b:Nat} (hb:slB v=some b):fl≤b∧b < G.size:=by
 obtain ⟨cs',⟨hl,⟨rfl,_⟩ | ⟨b',cap,rfl,hp,hf⟩⟩,_⟩:=h
 ·simp [slB] at hb
 ·simp [slB] at hb;subst hb;exact ⟨hf,a0g hp⟩
theorem b0a.cells {α:Type} {Q:a0e→List Value→α→Prop} {fl e sz:Nat} {v:Value} {l:List α} (h:b0a Q fl G e sz v l):a0S v=[v]∧a0q v=true:=⟨h.sls.cells,h.sls.plain⟩
theorem b0a.low {α:Type} {Q:a0e→List Value→α→Prop} {fl fl' e sz:Nat} {v:Value} {l:List α} (h:b0a Q fl G e sz v l) (hl:fl'≤fl):b0a Q fl' G e sz v l:=by
 obtain ⟨cs',⟨hl',h1 | ⟨b',cap,rfl,hp,hf⟩⟩,h2⟩:=h
 ·exact ⟨cs',⟨hl',.inl h1⟩,h2⟩
 ·exact ⟨cs',⟨hl',.inr ⟨b',cap,rfl,hp,by omega⟩⟩,h2⟩
theorem b0a.off {α:Type} {Q:a0e→List Value→α→Prop} {fl e sz:Nat} {v:Value} {l:List α} {o:Option Nat} {G':a0e} (h:b0a Q fl G e sz v l) (hx:c0V o G G') (hne:slB v=none ∨ slB v ≠ o) (hQ:∀ cs x,Q G cs x→Q G' cs x):b0a Q fl G' e sz v l:=by
 obtain ⟨cs',⟨hl',h1 | ⟨b',cap,rfl,hp,hf⟩⟩,h2⟩:=h
 ·exact ⟨cs',⟨hl',.inl h1⟩,fun k hk=>hQ _ _ (h2 k hk)⟩
 ·refine ⟨cs',⟨hl',.inr ⟨b',cap,rfl,?_,hf⟩⟩,fun k hk=>hQ _ _ (h2 k hk)⟩
  rw [hx.2 b' (a0g hp) (by rcases hne with h | h;simp [slB] at h;exact fun h3=>h h3.symm)];exact hp
theorem b0a.lxm {α:Type} {Q:a0e→List Value→α→Prop} {fl e sz:Nat} {v:Value} {l:List α} {G':a0e} {Q':a0e→List Value→α→Prop} (h:b0a Q fl G e sz v l) (hx:LxT e G G') (hQ:∀ cs x,Q G cs x→Q' G' cs x):b0a Q' fl G' e sz v l:=by
 obtain ⟨cs',⟨hl',h1 | ⟨b',cap,rfl,hp,hf⟩⟩,h2⟩:=h
 ·exact ⟨cs',⟨hl',.inl h1⟩,fun k hk=>hQ _ _ (h2 k hk)⟩
 ·exact ⟨cs',⟨hl',.inr ⟨b',cap,rfl,hx _ _ _ hp,hf⟩⟩,fun k hk=>hQ _ _ (h2 k hk)⟩
theorem b0a.blkOf {α:Type} {Q:a0e→List Value→α→Prop} {fl e sz:Nat} {v:Value} {l:List α} (h:b0a Q fl G e sz v l):AI.blkW v=[] ∨ ∃ b,AI.blkW v=[b]∧slB v=some b:=by
 obtain ⟨cs',⟨hl',⟨rfl,_⟩ | ⟨b',cap,rfl,hp,hf⟩⟩,h2⟩:=h
 ·exact .inl rfl
 ·by_cases h00:l.length=0∧cap=0
  ·exact .inl (by simp only [AI.blkW];rw [Z0I h00])
  ·exact .inr ⟨b',by simp only [AI.blkW];rw [Z0F h00],rfl⟩
theorem a0X {G3:a0e} {q e e':Nat} {X:Blk} {cs:List Value} {ro:Bool} (hS:Array.setIfInBounds G q X=G3) (hb:a0e.blk G q=.row ro e' cs) (hne:e' ≠ e):LxT e G G3:=by
 intro b ro' cs' hb'
 rw [← hS,a0Q (by rintro rfl;rw [hb] at hb';cases hb';exact hne rfl)];exact hb'
theorem f0V.lx3 {l:List (List b0k)} (h:f0V H v l) (h0:LxT a0C H G) (h1:LxT a0b H G) (h2:Lx H G):f0V G v l:=by
 obtain ⟨cs,⟨hl,hs⟩,hp⟩:=h
 refine ⟨cs,⟨hl,?_⟩,fun k hk=>?_⟩
 ·rcases hs with hs | ⟨b,off,cap,ro,cells,rfl,hb,ho,hcs⟩
  ·exact .inl hs
  ·exact .inr ⟨b,off,cap,ro,cells,rfl,h0 _ _ _ hb,ho,hcs⟩
 ·obtain ⟨w,q1,q2⟩:=hp k hk;exact ⟨w,q1,q2.lx2 h1 h2⟩
theorem i0m:∀ (rows:List (List b0k)) (d:List c0c),(d0d rows d).length≤d.length
 | [],_=>by simp [d0d]
 | _ :: _,[]=>by simp [d0d]
 | r :: rs,e :: es=>by have:=i0m rs es;simp only [d0d];split <;> simp <;> omega
theorem k0W:∀ (rows:List (List b0k)) (d:List c0c),(d0e rows d).length≤d.length
 | [],_=>by simp [d0e]
 | _ :: _,[]=>by simp [d0e]
 | r :: rs,e :: es=>by have:=k0W rs es;simp only [d0e];split <;> simp <;> omega
theorem k0i {a:List (List b0k)} {p:List b0k→Bool} {g:FuncId} {c:Value} (I:a0e→Prop) (hI:∀ G G',Ext G G'→I G→I G') (h0:I H) (ha:f0V H v a) (hf:fl≤H.size) (hal:a.length < 1073741824)
  (hg:∀ (fl:Nat) (G:a0e) (v:Value) (e:List b0k),I G→fl≤G.size→b0y G v e→a0V env fl g [v,c] G (fun r H'=>r=.bool (p e)∧Ext G H') R) :
  a0V env fl x0X [v,.func (.func g) #[] #[c]] H (fun r H'=>(∃ z:Int,r=.int .i64 z∧(0≤z ↔ f0W p a=true))∧Ext H H') R:=by
 refine a0k W0y hf (h:=?_)
 intro ρ h1
 simp [H0t,A0h,A0i,h1,ha.slen]
 refine c0F (n:=a.length) (fun i ρ G=>ρ 0=v∧ρ 1=.func (.func g) #[] #[c]∧Ext H G∧f0W p (a.take i)=false)
  rfl rfl (by decide) (by omega) (by simp) (by simp) ?_ ?_ ?_ ?_
 ·exact ⟨by simp [h1],by simp [h1],Ext.refl H,by rw [c1d];exact o0a⟩
 ·intro i ρ ρ' G h hI;simpa [h] using hI
 ·clear h1 ρ
  rintro i ρ G hi gi gn ⟨g0,g1,hx,hc⟩
  have ka:=ha.mono d0O hx
  obtain ⟨w,hl,k0⟩:=f0V.load ka hi
  simp [A0j,A0k,gi,g0,g1,ka.ia hi,hl]
  refine (hg _ _ _ _ (hI _ _ hx h0) hx.1 k0).mono ?_
  rintro _ G2 ⟨rfl,hx2⟩
  have hx':=hx.trans hx2
  cases hp:p a[i]
  ·simp
   exact Rnd.mk (by simp [gi]) (by simp [gn]) ⟨by simp [g0],by simp [g1],hx',by rw [k0o hi,hc,hp];rfl⟩
  ·simp [A0l,gi]
   exact fun _=>o0b hi hp
 ·clear h1 ρ
  rintro ρ G gi gn ⟨g0,g1,hx,hc⟩
  rw [a1a] at hc
  simp [A0m,hc]
theorem h0M {a:List (List b0k)} {p:List b0k→Bool} {g:FuncId} {c:Value} (I:a0e→Prop) (hI:∀ G G',Ext G G'→I G→I G') (h0:I H) (ha:f0V H v a) (hf:fl≤H.size) (hal:a.length < 1073741824)
  (hg:∀ (fl:Nat) (G:a0e) (v:Value) (e:List b0k),I G→fl≤G.size→b0y G v e→a0V env fl g [v,c] G (fun r H'=>r=.bool (p e)∧Ext G H') R) :
  a0V env fl S0g [v,.func (.func g) #[] #[c]] H (fun r H'=>r=.bool (f0W p a)∧Ext H H') R:=by
 refine a0k Z0k hf (h:=?_)
 intro ρ h1
 simp [V0f,M0u,M0v,h1]
 refine (k0i (p:=p) I hI h0 ha (Z0E _) hal hg).mono ?_
 rintro _ G2 ⟨⟨z,rfl,hz⟩,hx2⟩
 simp
 intro _
 rw [c1o,a1E];exact hz
theorem k0H {l:List b0k} {b:Nat} {n:Int} {r:List Value} {e:TypeId} (hl:b0y H v l) (hb:H.blk b=.row false e (.int .i64 n :: r)) (hf:fl≤H.size) :
  a0V env fl S0h [v,.pointer (some ⟨b,0,none⟩)] H (fun r H'=>r=.bool (!decide ((l.length:Int)=n))∧Ext H H') R:=by
 refine a0k Z0l hf (h:=?_)
 intro ρ h0
 simp [V0g,M0w,M0x,h0,hl.slen,hb]
 by_cases h:(l.length:Int)=n
 ·simp [h]
 ·simp [h]
def l0D (p:LPt):Bool:=decide (0≤p.n) && decide (p.n≤60) && decide (p.A.length≤60) && decide (p.B.length=p.A.length) && decide ((p.C.length:Int)=p.n) && !f0W (fun r=>!decide ((r.length:Int)=p.n)) p.A
theorem o0y {p:LPt} (h:LPV H v p) (hf:fl≤H.size):a0V env fl R0Y [v] H (fun r H'=>r=.bool (l0D p)∧Ext H H') R:=by
 obtain ⟨sA,sB,sC,rfl,hA,hB,hC⟩:=h
 refine a0k Y0U hf (h:=?_)
 intro ρ h0
 simp [U0P,L0p,h0,hA.cells,hB.cells,hC.cells]
 generalize hG:Array.push H _=G
 obtain ⟨hx2,b0⟩:=h0K hG
 have hx:=Ext.refl H
 clear hG
 replace hx:=hx.trans hx2
 unfold l0D
 by_cases h1:p.n < 0
 ·have h1':¬ 0≤p.n:=by omega
  simp [l0z,n0F,h0,b0,h1,h1']
 have h1':0≤p.n:=by omega
 by_cases h2:60 < p.n
 ·have h2':¬ p.n≤60:=by omega
  simp [l0z,n0F,h0,b0,h1,h1',h2,h2']
 have h2':p.n≤60:=by omega
 by_cases h3:60 < p.A.length
 ·have h3':¬ p.A.length≤60:=by omega
  have h3'':(60:Int) < (p.A.length:Int):=by omega
  simp [l0z,n0F,h0,b0,h1,h1',h2,h2',h3,h3',h3'',hA.slen]
 have h3':p.A.length≤60:=by omega
 have h3'':¬ (60:Int) < (p.A.length:Int):=by omega
 by_cases h4:p.B.length=p.A.length
 case neg =>
  have h4':¬ (p.B.length:Int)=(p.A.length:Int):=by omega
  simp [l0z,n0F,h0,b0,h1,h1',h2,h2',h3,h3',h3'',h4,h4',hA.slen,hB.slen]
 have h4':(p.B.length:Int)=(p.A.length:Int):=by omega
 by_cases h5:(p.C.length:Int)=p.n
 case neg =>
  simp [l0z,n0F,h0,b0,h1,h1',h2,h2',h3,h3',h3'',h4,h4',h5,hA.slen,hB.slen,hC.slen]
 simp [l0z,L0q,h0,b0,h1,h1',h2,h2',h3,h3',h3'',h4,h4',h5,hA.slen,hB.slen,hC.slen]
 refine (h0M (p:=fun r=>!decide ((r.length:Int)=p.n)) (c:=.pointer (some ⟨H.size,0,none⟩)) (fun G=>a0e.blk G H.size=.row false b0G [.int .i64 p.n,sA,sB,sC]) (fun _ _ hx h=>hx.blk h) b0 (hA.mono d0O hx) hx.1 (by omega)
  (fun fl G v e hb hf hl=>k0H hl hb hf)).mono ?_
 rintro _ G2 ⟨rfl,hx2⟩
 simp
theorem e0X {S:Nat} {l:List b0k} (hv:b0y H v l) (hf:fl≤H.size) (hfw:Few S l) (hS:S < 67108864) (hl:l.length < 1073741824) :
  a0V env fl v0Y [v] H (fun r H'=>b0a PR H.size H' a0b 4 r (g0Z l)∧Ext H H') R:=by
 refine a0k W0A hf (h:=?_)
 intro ρ h0
 have w1:IntKind.i64.wrap ((l.length:Int) + 1)=(l.length:Int) + 1:=a0F (by omega) (by omega)
 have hm:=U0h (bytes:=64) (k:=.i64) (k':=.i64) (l:=0) (c:=(l.length:Int) + 1) (by omega) (by omega) (by omega) (by omega)
 simp [H0v,A0x,A0y,A0z,h0,hv.slen,w1,hm]
 refine c0F (n:=l.length) (fun i ρ G=>ρ 10=v∧Ext H G∧b0a PR H.size G a0b 4 (ρ 3) ((g0Z l).take i))
  rfl rfl (by decide) (by omega) (by simp) (by simp) ?_ ?_ ?_ ?_
 ·refine ⟨by simp [h0],(Ext.refl H).push,?_⟩
  simp
  exact ⟨[],Own.mk a0v rfl (Z0E _),fun k hk=>by simp at hk⟩
 ·intro i ρ ρ' G h hI;simpa [h] using hI
 ·clear h0 ρ
  rintro i ρ G hi gi gn ⟨g6,hx,ho⟩
  obtain ⟨s,g3⟩:∃ s,ρ 3=s:=⟨_,rfl⟩
  rw [g3] at ho
  have kv:=hv.mono a0I hx
  obtain ⟨x,hlx,k0⟩:=b0y.load kv hi
  obtain ⟨s1,s2,rfl,k1,k2⟩:=id k0
  have hf2:=hfw _ (Z0M hi)
  have hsz:=hx.1
  simp [A0A,g6,gi,kv.ia hi,hlx,k1.cells,k1.plain,k2.cells,k2.plain,hsz]
  generalize hN:Array.setIfInBounds (Array.push _ _) _ _=G3
  obtain ⟨hx2,b1⟩:=new1 hN
  clear hN
  replace hx:=hx.trans hx2;replace k0:=k0.mono hx2
  replace ho:=ho.mono a0I hx2
  simp [A0B,b1]
  refine (b0D k0 (b:=c0l) e0C hx.1 (by omega) (by decide)).mono ?_
  rintro _ G2 ⟨⟨s3,s4,rfl,k3,k4⟩,hx2⟩
  replace hx:=hx.trans hx2
  replace ho:=ho.mono a0I hx2
  rw [e0F,b1D] at k3 k4 ⊢
  obtain ⟨s',G4,h1,h2,h3,h4⟩:=b0a.app (P:=PR) (sz:=4) (e:=a0b) (by decide) (fun G' cs x _ hl h=>b0R.lx h hl) ho (e2:=a0b) (c:=1) (bytes:=64) (new:=[.bool (a0f (b0A l[i])).1.1,s3,.bool (a0f (b0A l[i])).2.1,s4]) (x:=a0f (b0A l[i])) ⟨s3,s4,rfl,k3,k4⟩ rfl (by simp [k3.plain,k4.plain]) (by simp;omega) (by omega) (by omega) hx.1
  simp [g3,k3.cells,k4.cells,h1]
  exact Rnd.mk (by simp [gi]) (by simp [gn]) ⟨by simp [g6],h4 _ (Z0E _) hx,b0a.cast (v':=s') (by simp) (by unfold g0Z;rw [p0K hi];exact h2)⟩
 ·clear h0 ρ
  rintro ρ G gi gn ⟨g6,hx,ho⟩
  obtain ⟨s,g3⟩:∃ s,ρ 3=s:=⟨_,rfl⟩
  rw [g3] at ho
  rw [Z0R (by simp [g0Z])] at ho
  simp [A0C,g3]
  exact fun _=>ho
def PI (H:a0e) (cs:List Value) (z:Int):Prop:=b0q H (.agg cs.toArray) (a0l z)
theorem c0Y:h0p PI:=fun _ _ _ _ hx h=>b0q.mono h hx
theorem b0q.lx {i:Bool × List Nat} (h:b0q H v i) (hx:Lx H G):b0q G v i:=by obtain ⟨s,h1,h2⟩:=h;exact ⟨s,h1,h2.lx hx⟩
theorem O0D {G3:a0e} {z1 z2 r1 r2:Blk} (hN:Array.setIfInBounds (Array.setIfInBounds (Array.push (Array.push G z1) z2) G.size r1) (G.size + 1) r2=G3):Ext G G3∧a0e.blk G3 G.size=r1∧a0e.blk G3 (G.size + 1)=r2:=by
 rw [← hN];exact new2
theorem b0a.store {α:Type} {Q:a0e→List Value→α→Prop} {fl e sz:Nat} {v:Value} {l:List α} {j:Nat} {x:α} {w:Value} (h:b0a Q fl G e sz v l) (hj:j < l.length) (hs:0 < sz) (hw:(a0S w).length=sz) (hp:(a0S w).all a0q=true)
  (hx:∀ G',c0V (slB v) G G'→Lx G G'→Q G' (a0S w) x) (he:e ≠ a0m) (hO:∀ G' cs y,c0V (slB v) G G'→Lx G G'→Q G cs y→Q G' cs y) :
  ∃ G',e0Y fl G sz (adr sz v j) w=some G'∧b0a Q fl G' e sz v (l.set j x)∧c0V (slB v) G G':=by
 obtain ⟨cs,⟨hl,⟨rfl,h0⟩ | ⟨b,cap,rfl,hb,hf⟩⟩,h2⟩:=id h
 ·omega
 have hj2:(j + 1) * sz≤l.length * sz:=Z0L _ hj
 rw [Z0U,a1w] at hj2
 have hst:=t0t (fl:=fl) (b:=b) (o:=0 + j * sz) (n:=sz) (x:=w) hb hf hw (by omega) hp
 have hwe:=g0J (a0S w) cs (0 + j * sz) (by rw [hw];omega)
 have hwl:=c0m (a0S w) cs (0 + j * sz)
 generalize b0r cs (0 + j * sz) (a0S w)=cs' at *
 have hxb:c0V (slB (.slice (some ⟨b,0,none⟩) l.length cap)) G (G.setIfInBounds b (.row false e cs')):=c0V.refl.set
 have hlx:=b0a.lx h he hxb
 refine ⟨_,hst,⟨cs',⟨by rw [hwl,hl,List.length_set],.inr ⟨b,cap,by rw [List.length_set],by rw [a0H (a0g hb)],hf⟩⟩,fun k hk=>?_⟩,hxb⟩
 rw [List.length_set] at hk
 have hk2:(k + 1) * sz≤l.length * sz:=Z0L _ hk
 rw [Z0U,a1w] at hk2
 rw [a1i,hw] at hwe
 by_cases hkj:k=j
 ·subst hkj
  have key:(cs'.drop (k * sz)).take sz=a0S w:=by
   rw [hwe,b1u,List.drop_left' (by simp;omega),List.take_left' hw]
  rw [List.getElem_set_self,key]
  exact hx _ hxb hlx
 ·rw [c1j (by omega)]
  have key:(cs'.drop (k * sz)).take sz=(cs.drop (k * sz)).take sz:=by
   rw [hwe]
   apply b1B
   intro i
   by_cases hi:i < sz
   ·rw [a1O,Z0I hi,a1O,Z0I hi,a1T,a1T]
    by_cases hlt:k < j
    ·have:(k + 1) * sz≤j * sz:=Z0L _ hlt
     rw [Z0U,a1w] at this
     rw [b1u,a1q (by simp;omega),a1O,Z0I (by omega)]
    ·have:(j + 1) * sz≤k * sz:=Z0L _ (by omega)
     rw [Z0U,a1w] at this
     rw [a1u (by simp [hw];omega),a1T]
     congr 1
     simp [hw];omega
   ·rw [a1O,Z0F hi,a1O,Z0F hi]
  rw [key];exact hO _ _ _ hxb hlx (h2 k hk)
structure Whole (xs:List Rat) (zs:List Int) (by':Rat) (K:Nat):Prop where
 len:zs.length=xs.length
 pos:0 < by'
 eq:∀ i (h:i < xs.length),((zs[i]'(by omega):Int):Rat)=xs[i] * by'
 szz:∀ z ∈ zs,lz z≤K
 szb:szR by'≤K
def x0o (H:a0e) (P:Nat) (v:Value) (xs:List Rat) (S:Nat) (i:Nat) (ρ:Nat→Value) (G:a0e):Prop :=
 ρ 0=v∧ρ 22=v∧ρ 3=.pointer (some ⟨H.size,0,none⟩)∧ρ 4=.pointer (some ⟨P,0,none⟩)∧Ext H G ∧
  a0e.blk G H.size=.row false a0b [.bool false,.slice none 0 0,.bool false,.slice none 0 0] ∧
  ∃ (m:Nat) (s:Value),0 < m∧a0e.blk G P=.row false a0a [.bool false,s]∧Lim G s (a0K m)∧(∀ k (h:k < xs.length),k < i→xs[k].den ∣ m)∧lz m≤1 + i * S
theorem v0A (a b:Nat):((a:Int).tdiv (b:Int))=((a / b:Nat):Int):=by rw [a1S (by omega)];rfl
theorem O0v (m q:Nat) (hm:0 < m) (hq:0 < q):m ∣ m * (q / Nat.gcd m q)∧q ∣ m * (q / Nat.gcd m q)∧0 < m * (q / Nat.gcd m q)∧q / Nat.gcd m q≤q:=by
 have hg:=Nat.gcd_pos_of_pos_left q hm
 refine ⟨Nat.dvd_mul_right _ _,?_,Nat.mul_pos hm (Nat.div_pos (Nat.le_of_dvd hq (Nat.gcd_dvd_right m q)) hg),b1e _ _⟩
 obtain ⟨c,hc⟩:=Nat.gcd_dvd_left m q
 have h1:Nat.gcd m q * (q / Nat.gcd m q)=q:=Nat.mul_div_cancel' (Nat.gcd_dvd_right m q)
 refine ⟨c,?_⟩
 calc m * (q / Nat.gcd m q)=(Nat.gcd m q * c) * (q / Nat.gcd m q):=by rw [← hc]
  _=(Nat.gcd m q * (q / Nat.gcd m q)) * c:=by grind
  _=q * c:=by rw [h1]
def m0z (xs:List Rat) (m:Nat):List Int:=xs.map fun x=>x.num * ((m / x.den:Nat):Int)
def x0p (H:a0e) (P P2:Nat) (v:Value) (xs:List Rat) (m K:Nat) (s:Value) (i:Nat) (ρ:Nat→Value) (G:a0e):Prop :=
 ρ 44=v∧ρ 3=.pointer (some ⟨H.size,0,none⟩)∧ρ 4=.pointer (some ⟨P,0,none⟩)∧ρ 11=.pointer (some ⟨P2,0,none⟩)∧Ext H G ∧
  a0e.blk G H.size=.row false a0b [.bool false,.slice none 0 0,.bool false,.slice none 0 0]∧a0e.blk G P=.row false a0a [.bool false,s]∧Lim G s (a0K m) ∧
  slB (ρ 10) ≠ some P∧slB (ρ 10) ≠ some P2 ∧
  ∃ (g:Nat) (sg:Value),a0e.blk G P2=.row false a0a [.bool false,sg]∧Lim G sg (a0K g)∧b0a PI H.size G a0a 2 (ρ 10) ((m0z xs m).take i) ∧
   (∀ k (h:k < xs.length),k < i→(g:Int) ∣ (m0z xs m).getD k 0)∧lz g≤K∧(i=0→g=0)
def n0T (H:a0e) (P P2:Nat) (so:Value) (xs:List Rat) (m g:Nat) (s sg:Value) (i:Nat) (ρ:Nat→Value) (G:a0e):Prop :=
 ρ 10=so∧ρ 3=.pointer (some ⟨H.size,0,none⟩)∧ρ 4=.pointer (some ⟨P,0,none⟩)∧ρ 11=.pointer (some ⟨P2,0,none⟩)∧Ext H G ∧
  a0e.blk G H.size=.row false a0b [.bool false,.slice none 0 0,.bool false,.slice none 0 0]∧a0e.blk G P=.row false a0a [.bool false,s]∧Lim G s (a0K m) ∧
  a0e.blk G P2=.row false a0a [.bool false,sg]∧Lim G sg (a0K g) ∧
  ∃ L:List Int,b0a PI H.size G a0a 2 so L∧L.length=xs.length∧∀ k,k < xs.length→L.getD k 0=if k < i then (m0z xs m).getD k 0 / (g:Int) else (m0z xs m).getD k 0
theorem OwnsI.load {fl:Nat} {l:List Int} (h:b0a PI fl H a0a 2 v l) {j:Nat} (hj:j < l.length):∃ w,b0o H true 2 (adr 2 v j)=some w∧b0q H w (a0l l[j]):=by
 obtain ⟨cs,h1,_,h3⟩:=Sls.load h.sls hj (by omega);exact ⟨_,h1,h3⟩
theorem I0V {z:Int} {g:Nat} (h:(g:Int) ∣ z):lz (z / (g:Int))≤lz z:=by
 refine r0X ?_
 rw [Int.natAbs_ediv_of_dvd h]
 exact b1e _ _
theorem v0D {x:Rat} {m g:Nat} (hm:x.den ∣ m) (hm0:0 < m) (hg:0 < g) (hd:(g:Int) ∣ x.num * ((m / x.den:Nat):Int)) :
  ((x.num * ((m / x.den:Nat):Int) / (g:Int):Int):Rat)=x * Rat.divInt (m:Int) (g:Int):=by
 obtain ⟨c,rfl⟩:=hm
 have hdp:=x.den_pos
 rw [Nat.mul_div_cancel_left _ hdp] at hd ⊢
 obtain ⟨z,hz⟩:=hd
 have hg0:(g:Int) ≠ 0:=by omega
 rw [hz,Int.mul_ediv_cancel_left _ hg0]
 conv=>rhs;lhs;rw [← c1r x]
 rw [Rat.divInt_mul_divInt]
 have h1:((z:Int):Rat)=Rat.divInt z 1:=by
  have:=c1r (z:Rat)
  rw [b1X,b1V] at this;exact this.symm
 rw [h1,Rat.divInt_eq_divInt_iff (by omega) (Int.mul_ne_zero (by omega) hg0)]
 rw [b1b,Int.mul_one]
 have:x.num * ((x.den:Int) * (c:Int))=(x.den:Int) * (x.num * c):=by grind
 rw [this,hz];grind
theorem m0H {m g:Nat} (hm:0 < m) (hg:0 < g):0 < Rat.divInt (m:Int) (g:Int):=by
 have h1:Rat.divInt (m:Int) (g:Int)=(m:Rat) * (g:Rat)⁻¹:=by rw [← c1t];exact b1Y _ _
 rw [h1]
 exact c1m (Rat.natCast_pos.2 hm) (Rat.inv_pos.2 (Rat.natCast_pos.2 hg))
theorem f0R {S:Nat} {xs:List Rat} (hv:b0y H v (xs.map a0f)) (hf:fl≤H.size) (hS:∀ x ∈ xs,szR x≤S) (hK:(xs.length + 2) * (S + 1) < 67108864) :
  a0V env fl v0X [v] H (fun r H'=>(∃ q1 q2 by' zs,r=.tuple #[q1,q2]∧Whole xs zs by' ((xs.length + 2) * (S + 1))∧b0a PI H.size H' a0a 2 q1 zs∧b0R H' q2 (a0f by'))∧Ext H H') R:=by
 refine a0k W0z hf (h:=?_)
 intro ρ h0
 have hxl:xs.length < 67108864:=by
  have:(xs.length + 2) * 1≤(xs.length + 2) * (S + 1):=a1h _ (by omega)
  omega
 have hvl:=hv.slen
 rw [a1P] at hvl
 simp [H0u,A0p,h0]
 generalize hG:Array.push H _=G
 obtain ⟨hx2,b0⟩:=h0K hG
 have hx:=Ext.refl H
 clear hG
 replace hx:=hx.trans hx2
 simp [A0q]
 refine (c0e (n:=1) hx.1 (by omega) (by omega)).mono ?_
 rintro _ G2 ⟨⟨s1,rfl,k0⟩,hx2⟩
 replace b0:=hx2.blk b0;replace hx:=hx.trans hx2
 have hsz:=hx.1
 simp [h0,k0.cells,k0.plain,hsz]
 generalize hN:Array.setIfInBounds (Array.push _ _) _ _=G3
 obtain ⟨hx2,b1⟩:=new1 hN
 have hb0l:=a0g b0
 clear hN
 replace b0:=hx2.blk b0;replace hx:=hx.trans hx2;replace k0:=k0.mono hx2
 obtain ⟨P,hP⟩:∃ P,P=G2.size:=⟨_,rfl⟩
 rw [← hP] at b1 hsz hb0l ⊢
 simp [A0r,h0,hvl]
 have h1c:a0l 1=(false,a0K 1):=a0p 1
 rw [h1c] at b1 k0
 refine c0F (n:=xs.length) (x0o H P v xs S) rfl rfl (by decide) (by omega) (by simp) (by simp) ?_ ?_ ?_ ?_
 ·exact ⟨by simp [h0],by simp [h0],by simp,by simp,hx,b0,1,s1,by omega,b1,k0,fun k _ hk=>by omega,by rw [show ((1:Nat):Int)=1 from rfl,f0O];omega⟩
 ·intro i ρ ρ' G h hI;simpa [x0o,h] using hI
 ·clear h0 ρ hx b0 b1 k0 hx2
  rintro i ρ G hi gi gn ⟨g0,g22,g3,g4,hx,b0,m,s,hm0,b1,k0,hdv,hlm⟩
  have kv:=hv.mono a0I hx
  have hil:i < (xs.map a0f).length:=by simpa using hi
  obtain ⟨x,hlx,k1⟩:=b0y.load kv hil
  rw [a1t] at k1
  obtain ⟨s1,s2,rfl,k2,k3⟩:=id k1
  have hsx:=hS _ (Z0M hi)
  have hsz:=hx.1
  have hden:=xs[i].den_pos
  simp [A0s,g22,gi,kv.ia hil,hlx,k2.cells,k2.plain,k3.cells,k3.plain,hsz]
  generalize hN:Array.setIfInBounds (Array.push _ _) _ _=G3
  obtain ⟨hx2,b2⟩:=new1 hN
  clear hN
  replace b0:=hx2.blk b0;replace b1:=hx2.blk b1;replace hx:=hx.trans hx2;replace k0:=k0.mono hx2;replace k1:=k1.mono hx2;replace k2:=k2.mono hx2;replace k3:=k3.mono hx2
  have e2:(a0f xs[i]).2=a0l ((xs[i].den:Nat):Int):=rfl
  rw [e2] at k3 b2
  have k4:b0q G3 (.agg #[.bool false,s]) (a0l (m:Int)):=⟨s,by rw [a0p],by rw [a0p];exact k0⟩
  have k5:b0q G3 (.agg #[.bool (a0l ((xs[i].den:Nat):Int)).1,s2]) (a0l ((xs[i].den:Nat):Int)):=⟨s2,rfl,k3⟩
  have hld:=g0F xs[i]
  have hiS:i * S≤xs.length * S:=Z0L _ (by omega)
  have hKe:(xs.length + 2) * (S + 1)=xs.length * S + xs.length + 2 * S + 2:=by grind
  refine a0A ?_
  simp [A0t,g4,b1,b2]
  refine (e0Q k4 k5 (by have:=hx.1;omega) (by rw [a0n];omega) (by rw [a0n];omega)).mono ?_
  rintro _ G4 ⟨k6,hx2⟩
  replace b0:=hx2.blk b0;replace b1:=hx2.blk b1;replace b2:=hx2.blk b2;replace hx:=hx.trans hx2;replace k0:=k0.mono hx2;replace k1:=k1.mono hx2;replace k2:=k2.mono hx2;replace k3:=k3.mono hx2;replace k4:=k4.mono hx2;replace k5:=k5.mono hx2
  rw [a0j,a0j] at k6
  simp
  have hgg:Int.gcd (m:Int) (xs[i].den:Int)=Nat.gcd m xs[i].den:=rfl
  rw [hgg] at k6
  have hgp:=Nat.gcd_pos_of_pos_left xs[i].den hm0
  have hlg:lz (Nat.gcd m xs[i].den:Int)≤lz m:=b0m (Nat.gcd_le_left _ hm0)
  refine (b0O k5 k6 (by have:=hx.1;omega) (by rw [a0n];omega) (by rw [a0n];omega) (by rw [a0j];omega)).mono ?_
  rintro _ G4 ⟨⟨_,_,rfl,⟨s3,rfl,k7⟩,⟨s4,rfl,k8⟩⟩,hx2⟩
  replace b0:=hx2.blk b0;replace b1:=hx2.blk b1;replace b2:=hx2.blk b2;replace hx:=hx.trans hx2;replace k0:=k0.mono hx2;replace k1:=k1.mono hx2;replace k2:=k2.mono hx2;replace k3:=k3.mono hx2;replace k4:=k4.mono hx2;replace k5:=k5.mono hx2;replace k6:=k6.mono hx2
  rw [a0j,a0j,v0A] at k7 ⊢
  rw [a0j,a0j] at k8
  have hsz:=hx.1
  have hsz1:H.size≤G4.size + 1:=by omega
  simp [k7.cells,k7.plain,k8.cells,k8.plain,hsz,hsz1]
  generalize hN:Array.setIfInBounds (Array.setIfInBounds (Array.push (Array.push _ _) _) _ _) _ _=G5
  obtain ⟨hx2,b3,_⟩:=O0D hN
  clear hN
  replace b0:=hx2.blk b0;replace b1:=hx2.blk b1;replace b2:=hx2.blk b2;replace hx:=hx.trans hx2;replace k0:=k0.mono hx2;replace k1:=k1.mono hx2;replace k2:=k2.mono hx2;replace k3:=k3.mono hx2;replace k4:=k4.mono hx2;replace k5:=k5.mono hx2;replace k6:=k6.mono hx2;replace k7:=k7.mono hx2;replace k8:=k8.mono hx2
  simp [A0u,g4,b1,b3]
  obtain ⟨hl1,hl2,hl3,hl4⟩:=O0v m xs[i].den hm0 hden
  have hlq:lz ((xs[i].den / Nat.gcd m xs[i].den:Nat):Int)≤lz (xs[i].den:Int):=b0m hl4
  refine (b0w k4 (j:=a0l ((xs[i].den / Nat.gcd m xs[i].den:Nat):Int)) ⟨s3,rfl,k7⟩ hx.1 (by rw [a0n];omega) (by rw [a0n];omega)).mono ?_
  rintro _ G6 ⟨⟨s5,rfl,k8⟩,hx2⟩
  replace b0:=hx2.blk b0;replace b1:=hx2.blk b1;replace b2:=hx2.blk b2;replace b3:=hx2.blk b3;replace hx:=hx.trans hx2;replace k0:=k0.mono hx2;replace k1:=k1.mono hx2;replace k2:=k2.mono hx2;replace k3:=k3.mono hx2;replace k4:=k4.mono hx2;replace k5:=k5.mono hx2;replace k6:=k6.mono hx2;replace k7:=k7.mono hx2
  rw [a0j,a0j,← b1b,a0p] at k8 ⊢
  have hPs:H.size≤P:=by assumption
  simp [g4,b1,k8.cells,k8.plain,hPs]
  generalize hS':Array.setIfInBounds _ _ _=G7
  have hne:P ≠ H.size:=by omega
  have hx':=b0J hS' hx hPs
  have b0':=a0z hS' b0 hne
  have k8':=k8.setS hS' b1 (by decide)
  have b1':=a0M hS' b1
  have hlm2:=c0X (m:Int) ((xs[i].den / Nat.gcd m xs[i].den:Nat):Int)
  refine Rnd.mk (by simp [gi]) (by simp [gn]) ⟨by simp [g0],by simp [g22],by simp [g3],by simp [g4],hx',b0',m * (xs[i].den / Nat.gcd m xs[i].den),s5,hl3,b1',k8',fun k h hk=>?_,?_⟩
  ·by_cases hki:k=i
   ·subst hki;exact hl2
   ·exact Nat.dvd_trans (hdv k h (by omega)) hl1
  ·rw [b1b,Z0U,a1w];omega
 ·clear h0 ρ hx b0 b1 k0 hx2
  rintro ρ G gi gn ⟨g0,g22,g3,g4,hx,b0,m,s,hm0,b1,k0,hdv,hlm⟩
  have hPs:H.size≤P:=by assumption
  have hKe:(xs.length + 2) * (S + 1)=xs.length * S + xs.length + 2 * S + 2:=by grind
  have hK2:(xs.length + 1) * (S + 1)≤(xs.length + 2) * (S + 1):=Z0L _ (by omega)
  have hsz:=hx.1
  have hb1l:=a0g b1
  simp [A0v,A0w,hsz]
  generalize hN:Array.setIfInBounds (Array.push _ _) _ _=G3
  obtain ⟨hx2,b2⟩:=new1 hN
  clear hN
  replace b0:=hx2.blk b0;replace b1:=hx2.blk b1;replace hx:=hx.trans hx2;replace k0:=k0.mono hx2
  obtain ⟨P2,hP2⟩:∃ P2,P2=G.size:=⟨_,rfl⟩
  rw [← hP2] at b2 hsz hb1l ⊢
  simp [u0M,g0,hvl]
  refine c0F (n:=xs.length) (x0p H P P2 v xs m ((xs.length + 1) * (S + 1)) s) rfl rfl (by decide) (by omega) (by simp) (by simp) ?_ ?_ ?_ ?_
  ·exact ⟨by simp [g0],by simp [g3],by simp [g4],by simp,hx,b0,b1,k0,by simp [slB],by simp [slB],0,_,b2,by rw [b0n];exact Lim.nil,by simpa using b0a.nil,fun k _ hk=>by omega,by rw [show ((0:Nat):Int)=0 from rfl,c0v];omega,fun _=>rfl⟩
  ·intro i ρ ρ' G h hI;simpa [x0p,h] using hI
  ·clear g0 g22 g3 g4 gi gn hx b0 b1 b2 k0 hx2 ρ
   rintro i ρ G hi gi gn ⟨g44,g3,g4,g11,hx,b0,b1,k0,ns1,ns2,g,sg,b2,k1,ho,hdg,hlg,hg0⟩
   obtain ⟨so,g10⟩:∃ so,ρ 10=so:=⟨_,rfl⟩
   rw [g10] at ns1 ns2 ho
   have kv:=hv.mono a0I hx
   have hil:i < (xs.map a0f).length:=by simpa using hi
   obtain ⟨x,hlx,k2⟩:=b0y.load kv hil
   rw [a1t] at k2
   obtain ⟨s1,s2,rfl,k3,k4⟩:=k2
   have hsx:=hS _ (Z0M hi)
   have hsz:=hx.1
   have hden:=xs[i].den_pos
   have hln:=f0d xs[i]
   have hld:=g0F xs[i]
   have hyl:i < (m0z xs m).length:=by simpa [m0z] using hi
   have hyi:(m0z xs m)[i]=xs[i].num * ((m / xs[i].den:Nat):Int):=by simp [m0z]
   have hyd:(m0z xs m).getD i 0=xs[i].num * ((m / xs[i].den:Nat):Int):=by rw [Z0C,Z0H hyl,← hyi];rfl
   obtain ⟨y,hy⟩:∃ y,y=xs[i].num * ((m / xs[i].den:Nat):Int):=⟨_,rfl⟩
   have hly:lz y≤(xs.length + 1) * (S + 1):=by
    have h1:=c0X xs[i].num ((m / xs[i].den:Nat):Int)
    have h2:lz ((m / xs[i].den:Nat):Int)≤lz m:=b0m (b1e _ _)
    have h3:(xs.length + 1) * (S + 1)=xs.length * S + xs.length + S + 1:=by grind
    rw [hy];omega
   simp [u0N,g44,gi,kv.ia hil,hlx,k3.cells,k3.plain,k4.cells,k4.plain,hsz]
   generalize hN:Array.setIfInBounds (Array.push _ _) _ _=G3
   obtain ⟨hx2,b3⟩:=new1 hN
   clear hN
   replace b0:=hx2.blk b0;replace b1:=hx2.blk b1;replace b2:=hx2.blk b2;replace hx:=hx.trans hx2;replace k0:=k0.mono hx2;replace k1:=k1.mono hx2;replace k3:=k3.mono hx2;replace k4:=k4.mono hx2
   replace ho:=ho.mono c0Y hx2
   have e2:(a0f xs[i]).2=a0l ((xs[i].den:Nat):Int):=rfl
   have e1:(a0f xs[i]).1=a0l xs[i].num:=rfl
   rw [e1] at k3
   rw [e2] at k4
   rw [e1,e2] at b3
   simp [u0O,g4,b1,b3]
   refine (b0O (i:=a0l (m:Int)) (j:=a0l ((xs[i].den:Nat):Int)) ⟨s,by rw [a0p],by rw [a0p];exact k0⟩ ⟨s2,rfl,k4⟩ hx.1 (by rw [a0n];omega) (by rw [a0n];omega) (by rw [a0j];omega)).mono ?_
   rintro _ G4 ⟨⟨_,_,rfl,⟨s3,rfl,k5⟩,⟨s4,rfl,k6⟩⟩,hx2⟩
   replace b0:=hx2.blk b0;replace b1:=hx2.blk b1;replace b2:=hx2.blk b2;replace b3:=hx2.blk b3;replace hx:=hx.trans hx2;replace k0:=k0.mono hx2;replace k1:=k1.mono hx2;replace k3:=k3.mono hx2
   replace ho:=ho.mono c0Y hx2
   rw [a0j,a0j,v0A] at k5 ⊢
   rw [a0j,a0j] at k6
   have hsz:=hx.1
   have hsz1:H.size≤G4.size + 1:=by omega
   simp [k5.cells,k5.plain,k6.cells,k6.plain,hsz,hsz1]
   generalize hN:Array.setIfInBounds (Array.setIfInBounds (Array.push (Array.push _ _) _) _ _) _ _=G5
   obtain ⟨hx2,b4,_⟩:=O0D hN
   clear hN
   replace b0:=hx2.blk b0;replace b1:=hx2.blk b1;replace b2:=hx2.blk b2;replace b3:=hx2.blk b3;replace hx:=hx.trans hx2;replace k0:=k0.mono hx2;replace k1:=k1.mono hx2;replace k3:=k3.mono hx2;replace k5:=k5.mono hx2;replace k6:=k6.mono hx2
   replace ho:=ho.mono c0Y hx2
   have hlq:lz ((m / xs[i].den:Nat):Int)≤lz m:=b0m (b1e _ _)
   simp [u0P,b3,b4]
   refine (b0w (i:=a0l xs[i].num) (j:=a0l ((m / xs[i].den:Nat):Int)) ⟨s1,rfl,k3⟩ ⟨s3,rfl,k5⟩ hx.1 (by rw [a0n];omega) (by rw [a0n];omega)).mono ?_
   rintro _ G6 ⟨⟨s5,rfl,k7⟩,hx2⟩
   replace b0:=hx2.blk b0;replace b1:=hx2.blk b1;replace b2:=hx2.blk b2;replace b3:=hx2.blk b3;replace b4:=hx2.blk b4;replace hx:=hx.trans hx2;replace k0:=k0.mono hx2;replace k1:=k1.mono hx2;replace k3:=k3.mono hx2;replace k5:=k5.mono hx2;replace k6:=k6.mono hx2
   replace ho:=ho.mono c0Y hx2
   rw [a0j,a0j,← hy] at k7 ⊢
   have hsz:=hx.1
   have hso:∀ b,slB so=some b→b < G6.size:=fun b h=>(ho.ge h).2
   simp [k7.cells,k7.plain,hsz]
   generalize hN:Array.setIfInBounds (Array.push _ _) _ _=G7
   obtain ⟨hx2,b5⟩:=new1 hN
   clear hN b3 b4
   replace b0:=hx2.blk b0;replace b1:=hx2.blk b1;replace b2:=hx2.blk b2;replace hx:=hx.trans hx2;replace k0:=k0.mono hx2;replace k1:=k1.mono hx2;replace k3:=k3.mono hx2;replace k5:=k5.mono hx2;replace k6:=k6.mono hx2;replace k7:=k7.mono hx2
   replace ho:=ho.mono c0Y hx2
   obtain ⟨Y,hY⟩:∃ Y,Y=G6.size:=⟨_,rfl⟩
   rw [← hY] at b5 hso ⊢
   have ns3:slB so ≠ some Y:=fun h=>by have:=hso _ h;omega
   have ns0:=ho.ne b0 (by decide)
   obtain ⟨so',G8,h1,h2,h3,h4⟩:=b0a.app (P:=PI) (sz:=2) (e:=a0a) (by decide) (fun G' cs x _ hl h=>b0q.lx h hl) ho (e2:=a0a) (c:=1) (bytes:=32) (new:=[.bool (a0l y).1,s5]) (x:=y) ⟨s5,rfl,k7⟩ rfl (by simp [k7.plain]) (by simp;omega) (by omega) (by omega) hx.1
   obtain ⟨_,_,hfr⟩:=e0b (by decide) h1
   have hfs:slB so' = some (G7.size + 1):=by rw [hfr];simp [slB]
   simp [u0Q,g10,b5,k7.cells,h1]
   have hlx8:=ho.lx (by decide) h3
   have hP1l:=a0g b1
   have hP2l:=a0g b2
   replace b0:=(h3.2 _ (a0g b0) ns0).trans b0
   replace b1:=(h3.2 _ (a0g b1) ns1).trans b1
   replace b2:=(h3.2 _ (a0g b2) ns2).trans b2
   replace b5:=(h3.2 _ (a0g b5) ns3).trans b5
   replace hx:=h4 _ (Z0E _) hx
   replace k0:=k0.lx hlx8
   replace k1:=k1.lx hlx8
   replace k7:=k7.lx hlx8
   simp [u0R,g11,b2,b5]
   refine (e0Q (i:=a0l (g:Int)) (j:=a0l y) ⟨sg,by rw [a0p],by rw [a0p];exact k1⟩ ⟨s5,rfl,k7⟩ hx.1 (by rw [a0n];omega) (by rw [a0n];omega)).mono ?_
   rintro _ G9 ⟨⟨s6,rfl,k8⟩,hx2⟩
   replace b0:=hx2.blk b0;replace b1:=hx2.blk b1;replace b2:=hx2.blk b2;replace hx:=hx.trans hx2;replace k0:=k0.mono hx2;replace k1:=k1.mono hx2
   replace h2:=h2.mono c0Y hx2
   rw [a0j,a0j,a0p] at k8 ⊢
   have hP2s:H.size≤P2:=by assumption
   simp [g11,b2,k8.cells,k8.plain,hP2s]
   generalize hS':Array.setIfInBounds _ _ _=G10
   have hxb:c0V (some P2) G9 G10:=by rw [← hS'];exact c0V.refl.set
   have hlx10:Lx G9 G10:=a0X hS' b2 (by decide)
   have hne:P2 ≠ H.size:=by omega
   have hne2:P2 ≠ P:=by omega
   refine Rnd.mk (by simp [gi]) (by simp [gn]) ⟨by simp [g44],by simp [g3],by simp [g4],by simp [g11],b0J hS' hx hP2s,a0z hS' b0 hne,a0z hS' b1 hne2,k0.lx hlx10,by simp [hfs];omega,by simp [hfs];omega,Int.gcd g y,s6,a0M hS' b2,k8.lx hlx10,?_,?_,?_,by omega⟩
   ·refine b0a.cast (v':=so') (by simp) ?_
    rw [a1d hyl,hyi,← hy]
    exact h2.off hxb (.inr (by rw [hfs];simp;omega)) (fun cs x h=>b0q.lx h hlx10)
   ·intro k h hk
    by_cases hki:k=i
    ·subst hki;rw [hyd,← hy];exact c1s ..
    ·exact Int.dvd_trans (Int.gcd_dvd_left ..) (hdg k h (by omega))
   ·by_cases hy0:y=0
    ·rw [hy0,Int.gcd_zero_right];exact hlg
    ·exact Z0N (b0m (Int.gcd_le_natAbs_right _ hy0)) hly
  ·clear g0 g22 g3 g4 gi gn hx b0 b1 b2 k0 hx2 ρ
   rintro ρ G gi gn ⟨g44,g3,g4,g11,hx,b0,b1,k0,ns1,ns2,g,sg,b2,k1,ho,hdg,hlg,hg0⟩
   obtain ⟨so,g10⟩:∃ so,ρ 10=so:=⟨_,rfl⟩
   rw [g10] at ns1 ns2 ho
   have hyl:(m0z xs m).length=xs.length:=by simp [m0z]
   rw [Z0R (by omega)] at ho
   have hv0:a0P (false,[])=0:=by unfold a0P k0J;simp [a0B]
   simp [u0S,g11,b2]
   refine (d0v (i:=a0l (g:Int)) (j:=(false,[])) ⟨sg,by rw [a0p],by rw [a0p];exact k1⟩ ⟨_,rfl,Lim.nil⟩ hx.1 (by rw [a0n];omega) (by simp)).mono ?_
   rintro _ G2 ⟨rfl,hx2⟩
   replace b0:=hx2.blk b0;replace b1:=hx2.blk b1;replace b2:=hx2.blk b2;replace hx:=hx.trans hx2;replace k0:=k0.mono hx2;replace k1:=k1.mono hx2
   replace ho:=ho.mono c0Y hx2
   rw [hv0,a0j]
   have hP2s:H.size≤P2:=by assumption
   have hne:P2 ≠ H.size:=by omega
   have hne2:P2 ≠ P:=by omega
   by_cases hg:g=0
   ·have hcz:c0Q (g:Int) 0=0:=by rw [hg];rfl
    simp [hcz,u0T]
    refine (c0e (n:=1) hx.1 (by omega) (by omega)).mono ?_
    rintro _ G2 ⟨⟨s6,rfl,k3⟩,hx2⟩
    replace b0:=hx2.blk b0;replace b1:=hx2.blk b1;replace b2:=hx2.blk b2;replace hx:=hx.trans hx2;replace k0:=k0.mono hx2;replace k1:=k1.mono hx2
    replace ho:=ho.mono c0Y hx2
    have h1c:a0l 1=(false,a0K 1):=a0p 1
    rw [h1c] at k3 ⊢
    simp [g11,b2,k3.cells,k3.plain,hP2s]
    generalize hS':Array.setIfInBounds _ _ _=G3
    have hxb:c0V (some P2) G2 G3:=by rw [← hS'];exact c0V.refl.set
    have hlx3:Lx G2 G3:=a0X hS' b2 (by decide)
    replace ho:=ho.off hxb (.inr ns2) (fun cs x h=>b0q.lx h hlx3)
    replace hx:=b0J hS' hx hP2s
    replace b0:=a0z hS' b0 hne
    replace b1:=a0z hS' b1 hne2
    replace b2:=a0M hS' b2
    replace k0:=k0.lx hlx3
    clear k1
    have k1:=k3.lx hlx3
    obtain ⟨sg2,hs2⟩:∃ x,x=s6:=⟨_,rfl⟩
    rw [← hs2] at k1 b2
    obtain ⟨gg,hgg⟩:∃ gg:Nat,(gg=g∧0 < g) ∨ gg=1:=⟨1,.inr rfl⟩
    have hg1:(1:Nat)=gg:=by rcases hgg with ⟨h,h'⟩ | h <;> omega
    rw [hg1] at k1
    have hdg':∀ k,k < xs.length→(gg:Int) ∣ (m0z xs m).getD k 0:=fun k hk=>by
     rcases hgg with ⟨h,_⟩ | h
     ·rw [h];exact hdg k hk hk
     ·rw [h];exact Int.one_dvd _
    have hgp:0 < gg:=by rcases hgg with ⟨h,h'⟩ | h <;> omega
    have hK4:(xs.length + 1) * (S + 1)=xs.length * S + xs.length + S + 1:=by grind
    have hlgg:lz gg≤(xs.length + 1) * (S + 1):=by
     rcases hgg with ⟨h,_⟩ | h
     ·rw [h];exact hlg
     ·rw [h,show ((1:Nat):Int)=1 from rfl,f0O];omega
    have hly:∀ k (h:k < xs.length),lz (xs[k].num * ((m / xs[k].den:Nat):Int))≤(xs.length + 1) * (S + 1):=fun k hk=>by
     have h1:=c0X xs[k].num ((m / xs[k].den:Nat):Int)
     have h2:lz ((m / xs[k].den:Nat):Int)≤lz m:=b0m (b1e _ _)
     have h4:=f0d xs[k]
     have h5:=hS _ (Z0M hk)
     omega
    have hyD:∀ k (h:k < xs.length),(m0z xs m).getD k 0=xs[k].num * ((m / xs[k].den:Nat):Int):=fun k hk=>by
     rw [Z0C,Z0H (by omega)];simp [m0z]
    simp [p0a,g10,ho.slen,hyl]
    refine c0F (n:=xs.length) (n0T H P P2 so xs m gg s sg2) rfl rfl (by decide) (by omega) (by simp) (by simp) ?_ ?_ ?_ ?_
    ·exact ⟨by simp [g10],by simp [g3],by simp [g4],by simp [g11],hx,b0,b1,k0,b2,k1,m0z xs m,ho,hyl,fun k _=>by simp⟩
    ·intro i ρ ρ' G h hI;simpa [n0T,h] using hI
    ·clear g44 g3 g4 g11 g10 gi gn hx b0 b1 b2 k0 k1 ho hx2 ρ
     rintro i ρ G hi gi gn ⟨g10,g3,g4,g11,hx,b0,b1,k0,b2,k1,L,ho,hL,hLk⟩
     have hiL:i < L.length:=by omega
     have hLi:L[i]=(m0z xs m).getD i 0:=by
      have:=hLk i hi
      rw [Z0F (by omega),Z0C,Z0H hiL] at this;exact this
     obtain ⟨wi,hli,kwi⟩:=OwnsI.load ho hiL
     have hlz:lz L[i] < 67108864:=by
      have:=hly i hi
      rw [hLi,hyD i hi];omega
     simp [p0b,gi]
     refine a0A ?_
     simp [p0c,g10,g11,ho.sls.ia hiL,hli,b2]
     refine (b0O (j:=a0l (gg:Int)) kwi ⟨sg2,by rw [a0p],by rw [a0p];exact k1⟩ hx.1 (by rw [a0n];omega) (by rw [a0n];omega) (by rw [a0j];omega)).mono ?_
     rintro _ G4 ⟨⟨_,_,rfl,⟨s3,rfl,k5⟩,_⟩,hx2⟩
     replace b0:=hx2.blk b0;replace b1:=hx2.blk b1;replace b2:=hx2.blk b2;replace hx:=hx.trans hx2;replace k0:=k0.mono hx2;replace k1:=k1.mono hx2
     replace ho:=ho.mono c0Y hx2
     have hdv2:(gg:Int) ∣ L[i]:=by rw [hLi];exact hdg' i hi
     rw [a0j,a0j,Int.tdiv_eq_ediv_of_dvd hdv2] at k5 ⊢
     have ns0:=ho.ne b0 (by decide)
     obtain ⟨G5,hst,ho2,hxb⟩:=b0a.store (j:=i) (x:=L[i] / (gg:Int)) (w:=.agg #[.bool (a0l (L[i] / (gg:Int))).1,s3]) ho hiL (by omega) rfl (by simp [k5.plain]) (fun G' _ hl=>⟨s3,rfl,k5.lx hl⟩) (by decide) (fun G' cs y _ hl h=>b0q.lx h hl)
     have hlx5:=ho.lx (by decide) hxb
     simp [g10,ho.sls.ia hiL,hst]
     have hx5:Ext H G5:=⟨Z0N hx.1 hxb.1,fun b hb=>(hxb.2 b (Z0W hb hx.1) (fun h=>by have:=(ho.ge h).1;omega)).trans (hx.2 b hb)⟩
     refine Rnd.mk (by simp [gi]) (by simp [gn]) ⟨by simp [g10],by simp [g3],by simp [g4],by simp [g11],hx5,(hxb.2 _ (a0g b0) ns0).trans b0,(hxb.2 _ (a0g b1) ns1).trans b1,k0.lx hlx5,(hxb.2 _ (a0g b2) ns2).trans b2,k1.lx hlx5,L.set i (L[i] / (gg:Int)),ho2,by simpa using hL,fun k hk=>?_⟩
     by_cases hki:k=i
     ·subst hki
      rw [Z0I (by omega),Z0C,b1h hiL,a1f,hLi]
     ·rw [Z0C,List.getElem?_set_ne (by omega),← Z0C,hLk k hk]
      by_cases hlt:k < i
      ·rw [Z0I hlt,Z0I (by omega)]
      ·rw [Z0F hlt,Z0F (by omega)]
    ·clear g44 g3 g4 g11 g10 gi gn hx b0 b1 b2 k0 k1 ho hx2 ρ
     rintro ρ G gi gn ⟨g10,g3,g4,g11,hx,b0,b1,k0,b2,k1,L,ho,hL,hLk⟩
     simp [p0d,g4,g11,b1,b2]
     refine (d0x (i:=a0l (m:Int)) (j:=a0l (gg:Int)) ⟨s,by rw [a0p],by rw [a0p];exact k0⟩ ⟨sg2,by rw [a0p],by rw [a0p];exact k1⟩ hx.1 (by rw [a0n];omega) (by rw [a0n];omega) (by rw [a0j];omega)).mono ?_
     rintro _ G4 ⟨⟨_,rfl,s3,s4,rfl,k5,k6⟩,hx2⟩
     replace b0:=hx2.blk b0;replace b1:=hx2.blk b1;replace b2:=hx2.blk b2;replace hx:=hx.trans hx2;replace k0:=k0.mono hx2;replace k1:=k1.mono hx2
     replace ho:=ho.mono c0Y hx2
     rw [a0j,a0j] at k5 k6 ⊢
     have hsz:=hx.1
     simp [k5.cells,k5.plain,k6.cells,k6.plain,hsz]
     generalize hN:Array.setIfInBounds (Array.push _ _) _ _=G5
     obtain ⟨hx2,b3⟩:=new1 hN
     clear hN
     replace b0:=hx2.blk b0;replace b1:=hx2.blk b1;replace b2:=hx2.blk b2;replace hx:=hx.trans hx2;replace k0:=k0.mono hx2;replace k1:=k1.mono hx2;replace k5:=k5.mono hx2;replace k6:=k6.mono hx2
     replace ho:=ho.mono c0Y hx2
     refine a0A ?_
     have hz:=a0g b0
     simp [p0e,g3,g10,b0,b3,k5.cells,k5.plain,k6.cells,k6.plain,hz]
     generalize hS':Array.setIfInBounds _ _ _=G6
     refine fun _=>?_
     have hl6:Lx _ G6:=a0X hS' b0 (by decide)
     have hl7:LxT a0a _ G6:=a0X hS' b0 (by decide)
     refine ⟨so,_,⟨rfl,rfl⟩,Rat.divInt m gg,L,?_,ho.lxm hl7 (fun cs x h=>b0q.lx h hl6),s3,s4,rfl,k5.lx hl6,k6.lx hl6⟩
     have hLv:∀ k (h:k < xs.length),L[k]'(by omega)=xs[k].num * ((m / xs[k].den:Nat):Int) / (gg:Int)∧(gg:Int) ∣ xs[k].num * ((m / xs[k].den:Nat):Int):=by
      intro k hk
      have h1:=hLk k hk
      have h2:=hdg' k hk
      have h3:=hyD k hk
      rw [Z0I hk,h3,Z0C,Z0H (by omega)] at h1
      rw [h3] at h2
      exact ⟨h1,h2⟩
     refine ⟨hL,?_,fun k hk=>?_,fun z hz=>?_,?_⟩
     ·exact m0H hm0 hgp
     ·rw [(hLv k hk).1];exact v0D (hdv k hk hk) hm0 hgp (hLv k hk).2
     ·obtain ⟨k,hk,rfl⟩:=b1I hz
      have hk':k < xs.length:=by omega
      have h1:=hly k hk'
      have h6:=I0V (hLv k hk').2
      rw [(hLv k hk').1]
      omega
     ·have:=b0L (m:Int) (gg:Int)
      omega
   ·have hcz:¬ c0Q (g:Int) 0=0:=by unfold c0Q;split;omega;split <;> omega
    simp [hcz]
    obtain ⟨sg2,hs2⟩:∃ x,x=sg:=⟨_,rfl⟩
    rw [← hs2] at k1 b2
    obtain ⟨gg,hgg1,hgg⟩:∃ gg:Nat,gg=g∧((gg=g∧0 < g) ∨ gg=1):=⟨g,rfl,.inl ⟨rfl,by omega⟩⟩
    have hg1:g=gg:=hgg1.symm
    rw [hg1] at k1
    have hdg':∀ k,k < xs.length→(gg:Int) ∣ (m0z xs m).getD k 0:=fun k hk=>by
     rcases hgg with ⟨h,_⟩ | h
     ·rw [h];exact hdg k hk hk
     ·rw [h];exact Int.one_dvd _
    have hgp:0 < gg:=by rcases hgg with ⟨h,h'⟩ | h <;> omega
    have hK4:(xs.length + 1) * (S + 1)=xs.length * S + xs.length + S + 1:=by grind
    have hlgg:lz gg≤(xs.length + 1) * (S + 1):=by
     rcases hgg with ⟨h,_⟩ | h
     ·rw [h];exact hlg
     ·rw [h,show ((1:Nat):Int)=1 from rfl,f0O];omega
    have hly:∀ k (h:k < xs.length),lz (xs[k].num * ((m / xs[k].den:Nat):Int))≤(xs.length + 1) * (S + 1):=fun k hk=>by
     have h1:=c0X xs[k].num ((m / xs[k].den:Nat):Int)
     have h2:lz ((m / xs[k].den:Nat):Int)≤lz m:=b0m (b1e _ _)
     have h4:=f0d xs[k]
     have h5:=hS _ (Z0M hk)
     omega
    have hyD:∀ k (h:k < xs.length),(m0z xs m).getD k 0=xs[k].num * ((m / xs[k].den:Nat):Int):=fun k hk=>by
     rw [Z0C,Z0H (by omega)];simp [m0z]
    simp [p0a,g10,ho.slen,hyl]
    refine c0F (n:=xs.length) (n0T H P P2 so xs m gg s sg2) rfl rfl (by decide) (by omega) (by simp) (by simp) ?_ ?_ ?_ ?_
    ·exact ⟨by simp [g10],by simp [g3],by simp [g4],by simp [g11],hx,b0,b1,k0,b2,k1,m0z xs m,ho,hyl,fun k _=>by simp⟩
    ·intro i ρ ρ' G h hI;simpa [n0T,h] using hI
    ·clear g44 g3 g4 g11 g10 gi gn hx b0 b1 b2 k0 k1 ho hx2 ρ
     rintro i ρ G hi gi gn ⟨g10,g3,g4,g11,hx,b0,b1,k0,b2,k1,L,ho,hL,hLk⟩
     have hiL:i < L.length:=by omega
     have hLi:L[i]=(m0z xs m).getD i 0:=by
      have:=hLk i hi
      rw [Z0F (by omega),Z0C,Z0H hiL] at this;exact this
     obtain ⟨wi,hli,kwi⟩:=OwnsI.load ho hiL
     have hlz:lz L[i] < 67108864:=by
      have:=hly i hi
      rw [hLi,hyD i hi];omega
     simp [p0b,gi]
     refine a0A ?_
     simp [p0c,g10,g11,ho.sls.ia hiL,hli,b2]
     refine (b0O (j:=a0l (gg:Int)) kwi ⟨sg2,by rw [a0p],by rw [a0p];exact k1⟩ hx.1 (by rw [a0n];omega) (by rw [a0n];omega) (by rw [a0j];omega)).mono ?_
     rintro _ G4 ⟨⟨_,_,rfl,⟨s3,rfl,k5⟩,_⟩,hx2⟩
     replace b0:=hx2.blk b0;replace b1:=hx2.blk b1;replace b2:=hx2.blk b2;replace hx:=hx.trans hx2;replace k0:=k0.mono hx2;replace k1:=k1.mono hx2
     replace ho:=ho.mono c0Y hx2
     have hdv2:(gg:Int) ∣ L[i]:=by rw [hLi];exact hdg' i hi
     rw [a0j,a0j,Int.tdiv_eq_ediv_of_dvd hdv2] at k5 ⊢
     have ns0:=ho.ne b0 (by decide)
     obtain ⟨G5,hst,ho2,hxb⟩:=b0a.store (j:=i) (x:=L[i] / (gg:Int)) (w:=.agg #[.bool (a0l (L[i] / (gg:Int))).1,s3]) ho hiL (by omega) rfl (by simp [k5.plain]) (fun G' _ hl=>⟨s3,rfl,k5.lx hl⟩) (by decide) (fun G' cs y _ hl h=>b0q.lx h hl)
     have hlx5:=ho.lx (by decide) hxb
     simp [g10,ho.sls.ia hiL,hst]
     have hx5:Ext H G5:=⟨Z0N hx.1 hxb.1,fun b hb=>(hxb.2 b (Z0W hb hx.1) (fun h=>by have:=(ho.ge h).1;omega)).trans (hx.2 b hb)⟩
     refine Rnd.mk (by simp [gi]) (by simp [gn]) ⟨by simp [g10],by simp [g3],by simp [g4],by simp [g11],hx5,(hxb.2 _ (a0g b0) ns0).trans b0,(hxb.2 _ (a0g b1) ns1).trans b1,k0.lx hlx5,(hxb.2 _ (a0g b2) ns2).trans b2,k1.lx hlx5,L.set i (L[i] / (gg:Int)),ho2,by simpa using hL,fun k hk=>?_⟩
     by_cases hki:k=i
     ·subst hki
      rw [Z0I (by omega),Z0C,b1h hiL,a1f,hLi]
     ·rw [Z0C,List.getElem?_set_ne (by omega),← Z0C,hLk k hk]
      by_cases hlt:k < i
      ·rw [Z0I hlt,Z0I (by omega)]
      ·rw [Z0F hlt,Z0F (by omega)]
    ·clear g44 g3 g4 g11 g10 gi gn hx b0 b1 b2 k0 k1 ho hx2 ρ
     rintro ρ G gi gn ⟨g10,g3,g4,g11,hx,b0,b1,k0,b2,k1,L,ho,hL,hLk⟩
     simp [p0d,g4,g11,b1,b2]
     refine (d0x (i:=a0l (m:Int)) (j:=a0l (gg:Int)) ⟨s,by rw [a0p],by rw [a0p];exact k0⟩ ⟨sg2,by rw [a0p],by rw [a0p];exact k1⟩ hx.1 (by rw [a0n];omega) (by rw [a0n];omega) (by rw [a0j];omega)).mono ?_
     rintro _ G4 ⟨⟨_,rfl,s3,s4,rfl,k5,k6⟩,hx2⟩
     replace b0:=hx2.blk b0;replace hx:=hx.trans hx2
     replace ho:=ho.mono c0Y hx2
     rw [a0j,a0j] at k5 k6 ⊢
     have hsz:=hx.1
     simp [k5.cells,k5.plain,k6.cells,k6.plain,hsz]
     generalize hN:Array.setIfInBounds (Array.push _ _) _ _=G5
     obtain ⟨hx2,b3⟩:=new1 hN
     clear hN
     replace b0:=hx2.blk b0;replace hx:=hx.trans hx2;replace k5:=k5.mono hx2;replace k6:=k6.mono hx2
     replace ho:=ho.mono c0Y hx2
     refine a0A ?_
     have hz:=a0g b0
     simp [p0e,g3,g10,b0,b3,k5.cells,k5.plain,k6.cells,k6.plain,hz]
     generalize hS':Array.setIfInBounds _ _ _=G6
     refine fun _=>?_
     have hl6:Lx _ G6:=a0X hS' b0 (by decide)
     have hl7:LxT a0a _ G6:=a0X hS' b0 (by decide)
     refine ⟨so,_,⟨rfl,rfl⟩,Rat.divInt m gg,L,?_,ho.lxm hl7 (fun cs x h=>b0q.lx h hl6),s3,s4,rfl,k5.lx hl6,k6.lx hl6⟩
     have hLv:∀ k (h:k < xs.length),L[k]'(by omega)=xs[k].num * ((m / xs[k].den:Nat):Int) / (gg:Int)∧(gg:Int) ∣ xs[k].num * ((m / xs[k].den:Nat):Int):=by
      intro k hk
      have h1:=hLk k hk
      have h2:=hdg' k hk
      have h3:=hyD k hk
      rw [Z0I hk,h3,Z0C,Z0H (by omega)] at h1
      rw [h3] at h2
      exact ⟨h1,h2⟩
     refine ⟨hL,?_,fun k hk=>?_,fun z hz=>?_,?_⟩
     ·exact m0H hm0 hgp
     ·rw [(hLv k hk).1];exact v0D (hdv k hk hk) hm0 hgp (hLv k hk).2
     ·obtain ⟨k,hk,rfl⟩:=b1I hz
      have hk':k < xs.length:=by omega
      have h1:=hly k hk'
      have h6:=I0V (hLv k hk').2
      rw [(hLv k hk').1]
      omega
     ·have:=b0L (m:Int) (gg:Int)
      omega
def p0P (z:Int):Bool:=decide (-9223372036854775808≤z∧z < 9223372036854775808)
def toV (z:Int):Value:=.tuple #[.int .i64 (if p0P z then z else 0),.bool (p0P z)]
theorem Q0b {n:Nat} (h:n≤9223372036854775808):IntKind.i64.wrap (IntKind.u64.wrap (0 - (n:Int))) = -(n:Int):=by
 rw [a0N]
 show (if (true && decide (((0 - (n:Int)) % 18446744073709551616) % (2 ^ 64:Int) ≥ (2 ^ 63:Int)))=true then ((0 - (n:Int)) % 18446744073709551616) % (2 ^ 64:Int) - (2 ^ 64:Int) else ((0 - (n:Int)) % 18446744073709551616) % (2 ^ 64:Int)) = -(n:Int)
 rw [show (2 ^ 64:Int)=18446744073709551616 from rfl,show (2 ^ 63:Int)=9223372036854775808 from rfl]
 simp only [Bool.true_and,a1E]
 split <;> omega
theorem X0X {i:Nat} (h:i < 2):(4294967296:Nat) ^ i=2 ^ (32 * i):=by
 rw [Nat.pow_mul]
theorem G0z {z:Int} (h:2 < lz z):p0P z=false:=by
 have:¬ z.natAbs < 4294967296 ^ 2:=fun h2=>by have:=g0N h2;unfold lz at h;omega
 unfold p0P;simp;intro _;omega
theorem k0K {z:Int} (h:b0q H v (a0l z)) (hf:fl≤H.size) (hl:lz z < 1073741824) :
  a0V env fl y0k [v] H (fun r H'=>r=toV z∧Ext H H') R:=by
 refine a0k X0t hf (h:=?_)
 intro ρ h0
 obtain ⟨s0,rfl,k0⟩:=id h
 simp [I0o,E0b,E0c,h0,k0.cells,k0.plain]
 generalize hG:Array.push H _=G
 obtain ⟨hx2,b0⟩:=h0K hG
 have hx:=Ext.refl H
 clear hG
 replace hx:=hx.trans hx2;replace k0:=k0.mono hx2
 have hcl:(a0l z).2.length=lz z:=a0n z
 refine (b0K (h.mono hx) hx.1 (by rw [a0n];omega)).mono ?_
 rintro w G2 ⟨k1,hx2⟩
 replace b0:=hx2.blk b0;replace hx:=hx.trans hx2;replace k0:=k0.mono hx2
 rw [a0j] at k1
 obtain ⟨d,hd⟩:∃ d,d=z.natAbs:=⟨_,rfl⟩
 have hld:(a0K d).length=lz z:=by rw [hd];rfl
 rw [← hd] at k1
 simp [E0d,k1.slen,hld]
 refine ⟨fun h2=>?_,fun h2=>?_⟩
 ·simp [E0e,toV,G0z (z:=z) (by omega)]
 ·simp [E0f,E0g,k1.slen,hld]
  refine c0F (n:=lz z) (fun i ρ G=>ρ 1=.pointer (some ⟨H.size,0,none⟩)∧ρ 13=w∧Ext H G∧a0e.blk G H.size=.row false a0a [.bool (a0l z).1,s0]∧Lim G w (a0K d)∧ρ 5=.int .u64 ((a0B ((a0K d).take i):Nat):Int)) rfl rfl (by decide) (by omega) (by simp) (by simp) ?_ ?_ ?_ ?_
  ·exact ⟨by simp,by simp,hx,b0,k1,by simp [a0B]⟩
  ·intro i ρ ρ' G h hI;simpa [h] using hI
  ·clear h0 ρ hx b0 k0 k1 hx2
   rintro i ρ G hi gi gn ⟨g1,g13,hx,b0,k1,g5⟩
   have hil:i < (a0K d).length:=by omega
   have hla:=k1.load hil (Ext.refl G)
   have hA2:=b0i hil
   have hA3:(a0K d).getD i 0 < 4294967296:=k1.2 _ (by rw [Z0C,Z0H hil];exact Z0M hil)
   have hA1:=g0o ((a0K d).take i) (fun x hx=>k1.2 _ (b1r hx))
   rw [a1H,a1I (by omega),X0X (by omega)] at hA1
   rw [X0X (by omega)] at hA2
   obtain ⟨A,hA⟩:∃ A,A=(a0K d).getD i 0:=⟨_,rfl⟩
   obtain ⟨N,hN⟩:∃ N,N=a0B ((a0K d).take i):=⟨_,rfl⟩
   rw [← hA] at hla hA2 hA3
   rw [← hN] at hA1 hA2 g5
   have hp:(2:Nat) ^ (32 * i)≤4294967296:=by
    have:(2:Nat) ^ (32 * i)≤2 ^ 32:=b1g (by omega) (by omega)
    exact this
   have hAp:A * 2 ^ (32 * i)≤4294967295 * 4294967296:=a1D (by omega) hp
   have eA:IntKind.u64.wrap (A:Int)=(A:Int):=by rw [a0N];omega
   have e32:IntKind.i64.wrap (32 * (i:Int))=((32 * i:Nat):Int):=by rw [a0F (by omega) (by omega)];omega
   have s1:=F0s (tag:=0) (n:=A) (s:=32 * i) (k':=.i64) (by omega)
   rw [a1k (by omega)] at s1
   have s2:=S0w (tag:=0) (a:=N) (b:=A * 2 ^ (32 * i)) (by omega) (by omega)
   rw [s0b hA1] at s2
   simp [-Int.natCast_add,-Int.natCast_mul,-Int.natCast_pow,E0h,E0i,gi,g13,g5,k1.ia hil,hla,eA,e32,s1,s2]
   exact Rnd.mk (by simp [gi]) (by simp [gn]) ⟨by simp [g1],by simp [g13],hx,b0,k1,by simp [-Int.natCast_add,-Int.natCast_mul,-Int.natCast_pow];rw [hA2,a1b]⟩
  ·clear h0 ρ hx b0 k0 k1 hx2
   rintro ρ G gi gn ⟨g1,g13,hx,b0,k1,g5⟩
   have hd2:d < 4294967296 ^ (lz z):=by have:=k0I d;rwa [hld] at this
   have hd3:d < 18446744073709551616:=Z0W hd2 (Z0N (b1g (by omega) (show lz z≤2 by omega)) (by decide))
   rw [Z0R (by omega),a0J] at g5
   have hb0:=a0g b0
   simp [v0k,g1,b0]
   refine (b0t (h.mono hx) hx.1 (by rw [a0n];omega)).mono ?_
   rintro _ G3 ⟨rfl,hx2⟩
   replace b0:=hx2.blk b0;replace hx:=hx.trans hx2
   rw [a0j]
   have hb0:=a0g b0
   have hu:p0P z=false→toV z=.tuple #[.int .i64 0,.bool false]:=fun h=>by rw [toV,h];rfl
   have hv:p0P z=true→toV z=.tuple #[.int .i64 z,.bool true]:=fun h=>by rw [toV,h];rfl
   clear hx2
   by_cases hz:z < 0
   ·by_cases hz2:(d:Int)≤9223372036854775808
    ·have hf1:p0P z=true:=by unfold p0P;simp;omega
     have e1:=Q0b (n:=d) (by omega)
     have e2:-(d:Int)=z:=by omega
     rw [e2] at e1
     simp [hz,hz2,g5,v0l,e1,hv hf1]
     try (rw [show IntKind.i64.wrap (IntKind.u64.wrap (-(d:Int)))=z by rw [← Int.zero_sub];exact e1];simp)
    ·have hf1:p0P z=false:=by unfold p0P;simp;omega
     simp [hz,hz2,g5,p0v,g1,b0]
     refine (b0t (h.mono hx) hx.1 (by rw [a0n];omega)).mono ?_
     rintro _ G4 ⟨rfl,hx2⟩
     rw [a0j]
     simp [hz,p0w,hu hf1]
   ·simp [hz,g5,p0v,g1,b0]
    refine (b0t (h.mono hx) hx.1 (by rw [a0n];omega)).mono ?_
    rintro _ G4 ⟨rfl,hx2⟩
    rw [a0j]
    have e2:(d:Int)=z:=by omega
    by_cases hz2:z < 9223372036854775808
    ·have hf1:p0P z=true:=by unfold p0P;simp;omega
     have e1:IntKind.i64.wrap z=z:=a0F (by omega) hz2
     simp [hz,hz2,g5,v0m,e1,hv hf1,e2]
    ·have hf1:p0P z=false:=by unfold p0P;simp;omega
     simp [hz,hz2,g5,p0w,hu hf1,e2]
def eV:Value:=.agg #[]
def t0w:Value:=.iface f0a (.agg #[])
def f0f (z:Int):Prop:=-2147483648 < z∧z < 2147483648
def X0B:Value→a0u→Prop
 | .iface ty v,R=>R (.iface ty v)
 | _,_=>False
theorem i0R {ty:TypeId} {v:Value}:X0B (.iface ty v) R=R (.iface ty v):=nr rfl
theorem r0D {E:Env} {t:a0W} {x:Opd} {K:l0X}:WS E fl t H (.pan x) K R=X0B (ev t x) R:=by
 simp only [WS,opA]
 cases ev t x <;> simp [X0B]
theorem o0q {a b:Int} (ha:f0f a) (hb:f0f b):-4611686018427387904 < a * b∧a * b < 4611686018427387904:=by
 obtain ⟨a1,a2⟩:=ha
 obtain ⟨b1,b2⟩:=hb
 have h:(a * b).natAbs≤2147483647 * 2147483647:=by
  rw [b1m];exact a1D (by omega) (by omega)
 omega
theorem o0p {a b:Int} (ha:f0f a) (hb:f0f b):IntKind.i64.wrap (a * b)=a * b:=by
 have:=o0q ha hb
 exact a0F (by omega) (by omega)
theorem S0s (x y:Int):lz (x - y)≤max (lz x) (lz y) + 1:=by
 rw [b1M];have:=q0A x (-y);rwa [e0P] at this
theorem push2 {z1 z2:Blk} (hG:Array.push (Array.push H z1) z2=G):Ext H G∧a0e.blk G H.size=z1∧a0e.blk G (H.size + 1)=z2:=by
 rw [← hG];exact ⟨(Ext.refl H).push.push,by simp,by simp⟩
theorem e0W {a b:Int} (hf:fl≤H.size) :
  a0V env fl w0i [.int .i64 a,.int .i64 b] H (fun r H'=>r=.int .i64 (c0Q a b)∧Ext H H') R:=by
 refine a0k X0s hf (h:=?_)
 intro ρ h0
 simp [I0n,D0V,D0W,h0]
 refine ⟨fun h=>?_,fun h=>?_⟩
 ·have:c0Q a b = -1:=by unfold c0Q;rw [Z0I h]
  simp [D0X,this]
 ·simp [D0Y,h0]
  refine ⟨fun h=>?_,fun h=>?_⟩
  ·have:c0Q a b=1:=by unfold c0Q;rw [Z0F (by omega),Z0I (by omega)]
   simp [D0Z,this]
  ·have:c0Q a b=0:=by unfold c0Q;rw [Z0F (by omega),Z0F (by omega)]
   simp [E0a,this]
theorem e0D {z:Int} (hf:fl≤H.size) (hR:R t0w) :
  a0V env fl r0T [.int .i64 z] H (fun r H'=>(r=.int .i64 z∧f0f z)∧Ext H H') R:=by
 refine a0k R0I hf (h:=?_)
 intro ρ h0
 simp [F0p,t0l,t0m,h0]
 by_cases h1:z≤-2147483648
 ·have h1':¬ (-2147483648 < z):=by omega
  simp [h1,h1',t0n,r0D,i0R]
  exact hR
 ·have h1':-2147483648 < z:=by omega
  by_cases h2:2147483648≤z
  ·have h2':¬ z < 2147483648:=by omega
   simp [h1,h1',h2,h2',h0,t0n,r0D,i0R]
   exact hR
  ·have h2':z < 2147483648:=by omega
   simp [h1,h1',h2,h2',h0,t0o,f0f]
theorem m0l {a b c d:Int} (hf:fl≤H.size) (ha:f0f a) (hb:f0f b) (hc:f0f c) (hd:f0f d) :
  a0V env fl w0h [eV,.int .i64 a,.int .i64 b,.int .i64 c,.int .i64 d] H (fun r H'=>r=.int .i64 (c0Q (a * b) (c * d))∧Ext H H') R:=by
 refine a0k X0n hf (h:=?_)
 intro ρ h0
 have m1:=o0p ha hb
 have m2:=o0p hc hd
 simp [I0i,D0K,D0L,h0,eV,m1,m2]
 refine (e0W (by simp)).mono ?_
 rintro _ G ⟨rfl,hx2⟩
 simp
theorem q0r {a:Int} (hf:fl≤H.size) (ha:f0f a) :
  a0V env fl k0D [eV,.int .i64 a] H (fun r H'=>r=.int .i64 (-a)∧Ext H H') R:=by
 refine a0k X0o hf (h:=?_)
 intro ρ h0
 obtain ⟨a1,a2⟩:=ha
 have e1:IntKind.i64.wrap (-a) = -a:=a0F (by omega) (by omega)
 simp [I0j,D0M,D0N,h0,eV,e1]
theorem o0r {a:Int} (hf:fl≤H.size) :
  a0V env fl m0k [eV,.int .i64 a] H (fun r H'=>r=.int .i64 (c0Q a 0)∧Ext H H') R:=by
 refine a0k X0q hf (h:=?_)
 intro ρ h0
 simp [I0l,D0R,D0S,h0,eV]
 refine (e0W (by simp)).mono ?_
 rintro _ G ⟨rfl,hx2⟩
 simp
theorem j0q {a:Int} (hf:fl≤H.size) (ha:f0f a) :
  a0V env fl q0p [eV,.int .i64 a] H (fun r H'=>b0q H' r (a0l a)∧Ext H H') R:=by
 refine a0k X0p hf (h:=?_)
 intro ρ h0
 obtain ⟨a1,a2⟩:=ha
 simp [I0k,D0O,D0P,h0,eV]
 generalize hG:Array.push (Array.push H _) _=G
 obtain ⟨hx2,_,b0⟩:=push2 hG
 have hx:=Ext.refl H
 clear hG
 replace hx:=hx.trans hx2
 refine (c0e hx.1 (by omega) (by omega)).mono ?_
 rintro _ G2 ⟨⟨s1,rfl,k0⟩,hx2⟩
 replace b0:=hx2.blk b0;replace hx:=hx.trans hx2
 have hz:=a0g b0
 simp [b0,k0.cells,k0.plain]
 generalize hS:Array.setIfInBounds _ _ _=G3
 have hl:Lx G2 G3:=a0X hS b0 (by decide)
 have b1:=a0M hS b0
 simp [b1]
 exact fun _=>⟨s1,rfl,k0.lx hl⟩
theorem k0E {z:Int} (h:b0q H v (a0l z)) (hf:fl≤H.size) (hl:lz z < 1073741824) (hR:R t0w) :
  a0V env fl h0V [eV,v] H (fun r H'=>(r=.int .i64 z∧f0f z)∧Ext H H') R:=by
 refine a0k R0H hf (h:=?_)
 intro ρ h0
 obtain ⟨s0,rfl,k0⟩:=id h
 simp [F0o,t0h,t0i,h0,eV,k0.cells,k0.plain]
 generalize hG:Array.push (Array.push H _) _=G
 obtain ⟨hx2,_,b0⟩:=push2 hG
 have hx:=Ext.refl H
 clear hG
 replace hx:=hx.trans hx2
 refine (k0K (h.mono hx) hx.1 hl).mono ?_
 rintro _ G2 ⟨rfl,hx2⟩
 replace hx:=hx.trans hx2
 unfold toV
 simp [t0j]
 cases hz:p0P z
 ·simp [D0Q,r0D,i0R]
  exact hR
 ·simp [t0k]
  refine (e0D hx.1 hR).mono ?_
  rintro _ G3 ⟨⟨rfl,h1⟩,hx2⟩
  simp [h1]
theorem h0W {a b c d e:Int} (hf:fl≤H.size) (ha:f0f a) (hb:f0f b) (hc:f0f c) (hd:f0f d) (he:e ≠ 0) (hR:R t0w) :
  a0V env fl o0n [eV,.int .i64 a,.int .i64 b,.int .i64 c,.int .i64 d,.int .i64 e] H (fun r H'=>(r=.int .i64 ((a * b - c * d).tdiv e)∧f0f ((a * b - c * d).tdiv e))∧Ext H H') R:=by
 refine a0k X0r hf (h:=?_)
 intro ρ h0
 have m1:=o0p ha hb
 have m2:=o0p hc hd
 have z1:=o0q ha hb
 have z2:=o0q hc hd
 have m3:IntKind.i64.wrap (a * b - c * d)=a * b - c * d:=a0F (by omega) (by omega)
 have m4:IntKind.i64.wrap ((a * b - c * d).tdiv e)=(a * b - c * d).tdiv e:=by
  have:((a * b - c * d).tdiv e).natAbs≤(a * b - c * d).natAbs:=by rw [Int.natAbs_tdiv];exact b1e _ _
  exact a0F (by omega) (by omega)
 simp [I0m,D0T,D0U,h0,eV,m1,m2,m3,t0P he,m4]
 refine (e0D (by simp) hR).mono ?_
 rintro _ G ⟨⟨rfl,h1⟩,hx2⟩
 simp [h1]
theorem m0a {a b c d:Int} {va vb vc vd:Value} (ha:b0q H va (a0l a)) (hb:b0q H vb (a0l b)) (hc:b0q H vc (a0l c)) (hd:b0q H vd (a0l d)) (hf:fl≤H.size)
  (la:lz a < 67108864) (lb:lz b < 67108864) (lc:lz c < 67108864) (ld:lz d < 67108864) :
  a0V env fl w0g [eV,va,vb,vc,vd] H (fun r H'=>r=.int .i64 (c0Q (a * b) (c * d))∧Ext H H') R:=by
 refine a0k X0g hf (h:=?_)
 intro ρ h0
 obtain ⟨s0,rfl,k0⟩:=id ha
 obtain ⟨s1,rfl,k1⟩:=id hb
 obtain ⟨s2,rfl,k2⟩:=id hc
 obtain ⟨s3,rfl,k3⟩:=id hd
 simp [I0b,D0v,h0,eV,k0.cells,k0.plain,k1.cells,k1.plain,k2.cells,k2.plain,k3.cells,k3.plain]
 generalize hG:Array.push (Array.push (Array.push (Array.push (Array.push H _) _) _) _) _=G
 have hx2:Ext H G:=by rw [← hG];exact (Ext.refl H).push.push.push.push.push
 have b1:a0e.blk G (H.size + 1)=.row false a0a [.bool (a0l a).1,s0]:=by rw [← hG];simp
 have b2:a0e.blk G (H.size + 2)=.row false a0a [.bool (a0l b).1,s1]:=by rw [← hG];simp
 have b3:a0e.blk G (H.size + 3)=.row false a0a [.bool (a0l c).1,s2]:=by rw [← hG];simp
 have b4:a0e.blk G (H.size + 4)=.row false a0a [.bool (a0l d).1,s3]:=by rw [← hG];simp
 have hx:=Ext.refl H
 clear hG
 replace hx:=hx.trans hx2;replace k0:=k0.mono hx2;replace k1:=k1.mono hx2;replace k2:=k2.mono hx2;replace k3:=k3.mono hx2
 refine a0A ?_
 simp [D0w,b1,b2]
 refine (b0w (i:=a0l a) (j:=a0l b) ⟨s0,rfl,k0⟩ ⟨s1,rfl,k1⟩ (by have:=hx.1;omega) (by rw [a0n];omega) (by rw [a0n];omega)).mono ?_
 rintro _ G2 ⟨k4,hx2⟩
 replace b3:=hx2.blk b3;replace b4:=hx2.blk b4;replace hx:=hx.trans hx2;replace k2:=k2.mono hx2;replace k3:=k3.mono hx2
 rw [a0j,a0j] at k4
 simp [b3,b4]
 refine (b0w (i:=a0l c) (j:=a0l d) ⟨s2,rfl,k2⟩ ⟨s3,rfl,k3⟩ (by have:=hx.1;omega) (by rw [a0n];omega) (by rw [a0n];omega)).mono ?_
 rintro _ G3 ⟨k5,hx2⟩
 replace hx:=hx.trans hx2;replace k4:=k4.mono hx2
 rw [a0j,a0j] at k5
 have l1:=c0X a b
 have l2:=c0X c d
 simp
 refine (d0v k4 k5 (by have:=hx.1;omega) (by rw [a0n];omega) (by rw [a0n];omega)).mono ?_
 rintro _ G4 ⟨rfl,hx2⟩
 rw [a0j,a0j]
 simp
theorem p0X {a:Int} (ha:b0q H v (a0l a)) (hf:fl≤H.size) (la:lz a < 67108864) :
  a0V env fl k0C [eV,v] H (fun r H'=>b0q H' r (a0l (-a))∧Ext H H') R:=by
 refine a0k X0h hf (h:=?_)
 intro ρ h0
 obtain ⟨s0,rfl,k0⟩:=id ha
 simp [I0c,D0x,D0y,h0,eV,k0.cells,k0.plain]
 generalize hG:Array.push (Array.push (Array.push H _) _) _=G
 have hx2:Ext H G:=by rw [← hG];exact (Ext.refl H).push.push.push
 have b2:a0e.blk G (H.size + 2)=.row false a0a [.bool false,.slice none 0 0]:=by rw [← hG];simp
 have hx:=Ext.refl H
 clear hG
 replace hx:=hx.trans hx2
 refine (e0f (ha.mono hx) hx.1 (by rw [a0n];omega)).mono ?_
 rintro _ G2 ⟨⟨s1,rfl,k1⟩,hx2⟩
 replace b2:=hx2.blk b2;replace hx:=hx.trans hx2
 rw [a0j] at k1 ⊢
 have hz:=a0g b2
 simp [b2,k1.cells,k1.plain]
 generalize hS:Array.setIfInBounds _ _ _=G3
 have hl:Lx G2 G3:=a0X hS b2 (by decide)
 have b3:=a0M hS b2
 simp [b3]
 exact fun _=>⟨s1,rfl,k1.lx hl⟩
theorem j0l {a:Int} (ha:b0q H v (a0l a)) (hf:fl≤H.size) :
  a0V env fl q0o [eV,v] H (fun r H'=>b0q H' r (a0l a)∧Ext H H') R:=by
 refine a0k X0i hf (h:=?_)
 intro ρ h0
 obtain ⟨s0,rfl,k0⟩:=id ha
 simp [I0d,D0z,D0A,h0,eV,k0.cells,k0.plain]
 exact fun hx=>ha.mono hx
theorem h0r {a:Int} (ha:b0q H v (a0l a)) (hf:fl≤H.size) :
  a0V env fl i0I [eV,v] H (fun r H'=>b0q H' r (a0l a)∧Ext H H') R:=by
 refine a0k X0j hf (h:=?_)
 intro ρ h0
 obtain ⟨s0,rfl,k0⟩:=id ha
 simp [I0e,D0B,D0C,h0,eV,k0.cells,k0.plain]
 exact fun hx=>ha.mono hx
theorem n0Z {a:Int} (ha:b0q H v (a0l a)) (hf:fl≤H.size) (la:lz a < 67108864) :
  a0V env fl m0j [eV,v] H (fun r H'=>r=.int .i64 (c0Q a 0)∧Ext H H') R:=by
 refine a0k X0k hf (h:=?_)
 intro ρ h0
 obtain ⟨s0,rfl,k0⟩:=id ha
 simp [I0f,D0D,D0E,h0,eV,k0.cells,k0.plain]
 generalize hG:Array.push (Array.push H _) _=G
 obtain ⟨hx2,_,b0⟩:=push2 hG
 have hx:=Ext.refl H
 clear hG
 replace hx:=hx.trans hx2
 have hv0:a0P (false,[])=0:=by unfold a0P k0J;simp [a0B]
 refine (d0v (j:=(false,[])) (ha.mono hx) ⟨_,rfl,Lim.nil⟩ hx.1 (by rw [a0n];omega) (by simp)).mono ?_
 rintro _ G2 ⟨rfl,hx2⟩
 rw [hv0,a0j]
 simp
theorem h0P {a b c d e:Int} {va vb vc vd ve:Value} (ha:b0q H va (a0l a)) (hb:b0q H vb (a0l b)) (hc:b0q H vc (a0l c)) (hd:b0q H vd (a0l d)) (he:b0q H ve (a0l e)) (hf:fl≤H.size)
  (la:lz a < 67108864) (lb:lz b < 67108864) (lc:lz c < 67108864) (ld:lz d < 67108864) (le:lz e < 67108864) (he0:e ≠ 0) :
  a0V env fl o0m [eV,va,vb,vc,vd,ve] H (fun r H'=>b0q H' r (a0l ((a * b - c * d).tdiv e))∧Ext H H') R:=by
 refine a0k X0l hf (h:=?_)
 intro ρ h0
 obtain ⟨s0,rfl,k0⟩:=id ha
 obtain ⟨s1,rfl,k1⟩:=id hb
 obtain ⟨s2,rfl,k2⟩:=id hc
 obtain ⟨s3,rfl,k3⟩:=id hd
 obtain ⟨s4,rfl,k4⟩:=id he
 simp [I0g,D0F,h0,eV,k0.cells,k0.plain,k1.cells,k1.plain,k2.cells,k2.plain,k3.cells,k3.plain,k4.cells,k4.plain]
 generalize hG:Array.push (Array.push (Array.push (Array.push (Array.push (Array.push (Array.push H _) _) _) _) _) _) _=G
 have hx2:Ext H G:=by rw [← hG];exact (Ext.refl H).push.push.push.push.push.push.push
 have b1:a0e.blk G (H.size + 1)=.row false a0a [.bool (a0l a).1,s0]:=by rw [← hG];simp
 have b2:a0e.blk G (H.size + 2)=.row false a0a [.bool (a0l b).1,s1]:=by rw [← hG];simp
 have b3:a0e.blk G (H.size + 3)=.row false a0a [.bool (a0l c).1,s2]:=by rw [← hG];simp
 have b4:a0e.blk G (H.size + 4)=.row false a0a [.bool (a0l d).1,s3]:=by rw [← hG];simp
 have b5:a0e.blk G (H.size + 5)=.row false a0a [.bool (a0l e).1,s4]:=by rw [← hG];simp
 have b6:a0e.blk G (H.size + 6)=.row false a0a [.bool false,.slice none 0 0]:=by rw [← hG];simp
 have hx:=Ext.refl H
 clear hG
 replace hx:=hx.trans hx2;replace k0:=k0.mono hx2;replace k1:=k1.mono hx2;replace k2:=k2.mono hx2;replace k3:=k3.mono hx2;replace k4:=k4.mono hx2
 refine a0A ?_
 simp [D0G,b1,b2]
 refine (b0w (i:=a0l a) (j:=a0l b) ⟨s0,rfl,k0⟩ ⟨s1,rfl,k1⟩ (by have:=hx.1;omega) (by rw [a0n];omega) (by rw [a0n];omega)).mono ?_
 rintro _ G2 ⟨k5,hx2⟩
 replace b3:=hx2.blk b3;replace b4:=hx2.blk b4;replace b5:=hx2.blk b5;replace b6:=hx2.blk b6;replace hx:=hx.trans hx2;replace k2:=k2.mono hx2;replace k3:=k3.mono hx2;replace k4:=k4.mono hx2
 rw [a0j,a0j] at k5
 simp [b3,b4]
 refine (b0w (i:=a0l c) (j:=a0l d) ⟨s2,rfl,k2⟩ ⟨s3,rfl,k3⟩ (by have:=hx.1;omega) (by rw [a0n];omega) (by rw [a0n];omega)).mono ?_
 rintro _ G3 ⟨k6,hx2⟩
 replace b5:=hx2.blk b5;replace b6:=hx2.blk b6;replace hx:=hx.trans hx2;replace k4:=k4.mono hx2;replace k5:=k5.mono hx2
 rw [a0j,a0j] at k6
 have l1:=c0X a b
 have l2:=c0X c d
 simp
 refine (q0F k5 k6 (by have:=hx.1;omega) (by rw [a0n];omega) (by rw [a0n];omega)).mono ?_
 rintro _ G4 ⟨k7,hx2⟩
 replace b5:=hx2.blk b5;replace b6:=hx2.blk b6;replace hx:=hx.trans hx2;replace k4:=k4.mono hx2;replace k5:=k5.mono hx2;replace k6:=k6.mono hx2
 rw [a0j,a0j] at k7
 have l3:=S0s (a * b) (c * d)
 simp [b5]
 refine (b0O (j:=a0l e) k7 ⟨s4,rfl,k4⟩ (by have:=hx.1;omega) (by rw [a0n];omega) (by rw [a0n];omega) (by rw [a0j];exact he0)).mono ?_
 rintro _ G4 ⟨⟨_,_,rfl,⟨s5,rfl,k5⟩,⟨s6,rfl,k6⟩⟩,hx2⟩
 replace b6:=hx2.blk b6;replace hx:=hx.trans hx2
 rw [a0j,a0j] at k5 k6 ⊢
 have hsz:=hx.1
 have hsz1:H.size≤G4.size + 1:=by omega
 simp [k5.cells,k5.plain,k6.cells,k6.plain,hsz,hsz1]
 generalize hN:Array.setIfInBounds (Array.setIfInBounds (Array.push (Array.push _ _) _) _ _) _ _=G5
 obtain ⟨hx2,b7,_⟩:=O0D hN
 clear hN
 replace b6:=hx2.blk b6;replace hx:=hx.trans hx2;replace k5:=k5.mono hx2
 have hz:=a0g b6
 simp [D0H,b7,b6,k5.cells,k5.plain]
 generalize hS:Array.setIfInBounds _ _ _=G6
 have hl:Lx G5 G6:=a0X hS b6 (by decide)
 have b8:=a0M hS b6
 simp [b8]
 exact fun _=>⟨s5,rfl,k5.lx hl⟩
end
end Go.Proofs.YtilekhkgobmolaaGreat.AI
