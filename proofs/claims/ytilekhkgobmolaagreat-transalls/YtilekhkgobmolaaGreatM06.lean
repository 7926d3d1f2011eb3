/- Part 7 of the proof: AiRat2, AiRat3, AiExt1, AiFor, AiVec1, AiDom1, AiDom2, AiDom3, AiDom4, AiLp1, AiSx1, AiSx2, AiSx3. -/
import Derived.Test.YtilekhkgobmolaaGreatM05
set_option linter.unusedVariables false
set_option linter.unusedSimpArgs false
set_option linter.unusedSectionVars false
namespace Go.Proofs.YtilekhkgobmolaaGreat.AI
section
open Go
set_option maxHeartbeats 4000000
variable {fl:Nat} {H:a0e} {R:a0u} {v w:Value} {i j:Bool × List Nat} {a b:b0e}
theorem b0r.cells {i:Bool × List Nat} (h:b0r H v i):(a0R v).length=2∧(a0R v).all a0q=true:=by
 obtain ⟨s,rfl,hs⟩:=h;simp [hs.plain]
theorem d0z (h:b0r H v i) (k:b0r H w j) (hf:fl≤H.size) (hn:i.2.length < 536870912) (hm:j.2.length < 536870912) (hj0:a0P j ≠ 0) :
  a0S env fl o0C [v,w] H (fun r H'=>(∃ q,r=.tuple #[q,.int .i64 0]∧b0O H' q (a0f (Rat.divInt (a0P i) (a0P j))))∧Ext H H') R:=by
 have k0:=h
 have k1:=k
 obtain ⟨s,rfl,hs⟩:=h
 obtain ⟨u,rfl,hu⟩:=k
 refine a0g Y0E hf (h:=?_)
 intro ρ h0
 simp [I0v,B0q,h0]
 generalize hG:Array.push (Array.push (Array.push H _) _) _=G
 have hx:Ext H G:=by rw [← hG];exact (Ext.refl H).push.push.push
 have b0:a0e.blk G H.size=.row false a0a [.bool i.1,s]:=by rw [← hG];simp
 have b1:a0e.blk G (H.size + 1)=.row false a0a [.bool j.1,u]:=by rw [← hG];simp
 have b2:a0e.blk G (H.size + 2)=.row false a0b [.bool false,.slice none 0 0,.bool false,.slice none 0 0]:=by rw [← hG];simp
 clear hG
 replace k0:=k0.mono hx
 replace k1:=k1.mono hx
 have l1:=a0V k0.ok
 have l2:=a0V k1.ok
 simp [B0r,h0,b1]
 refine (i0K k1 hx.1 hm).mono ?_
 rintro _ G2 ⟨rfl,hx2⟩
 replace b0:=hx2.blk b0;replace b1:=hx2.blk b1;replace b2:=hx2.blk b2;replace hx:=hx.trans hx2;replace k0:=k0.mono hx2;replace k1:=k1.mono hx2
 have hj0':(a0P j == 0)=false:=by simp [hj0]
 simp [hj0',hj0,B0s,h0,b0,b1]
 refine (e0R k0 k1 hx.1 hn hm).mono ?_
 rintro x G2 ⟨⟨s1,rfl,k2⟩,hx2⟩
 replace b0:=hx2.blk b0;replace b1:=hx2.blk b1;replace b2:=hx2.blk b2;replace hx:=hx.trans hx2;replace k0:=k0.mono hx2;replace k1:=k1.mono hx2
 have hsz:=hx.1
 simp [h0,k2.cells,k2.plain,hsz]
 generalize hN:Array.setIfInBounds (Array.push _ _) _ _=G3
 obtain ⟨hx2,b3⟩:=new1 hN
 have hb2l:=a0j b2
 replace b0:=hx2.blk b0;replace b1:=hx2.blk b1;replace b2:=hx2.blk b2;replace hx:=hx.trans hx2;replace k0:=k0.mono hx2;replace k1:=k1.mono hx2;replace k2:=k2.mono hx2
 clear hN
 obtain ⟨P,hP⟩:∃ P,P=G2.size:=⟨_,rfl⟩
 rw [← hP] at b3 hsz hb2l ⊢
 have hgl:lz (Int.gcd (a0P i) (a0P j):Int) < 536870912:=by
  have h5:Int.gcd (a0P i) (a0P j)≤(a0P j).natAbs:=Int.gcd_le_natAbs_right _ hj0
  have:lz (Int.gcd (a0P i) (a0P j):Int)≤(a0K (a0P j).natAbs).length:=b0o (by simpa using h5)
  omega
 simp [B0t,h0,b1]
 refine (d0y k1 (j:=(false,[])) ⟨_,rfl,Lim.nil⟩ hx.1 hm (by simp)).mono ?_
 rintro _ G2 ⟨rfl,hx2⟩
 replace b0:=hx2.blk b0;replace b1:=hx2.blk b1;replace b2:=hx2.blk b2;replace b3:=hx2.blk b3;replace hx:=hx.trans hx2;replace k0:=k0.mono hx2;replace k1:=k1.mono hx2;replace k2:=k2.mono hx2
 have hv0:a0P (false,[])=0:=by unfold a0P l0e;simp [a0B]
 rw [hv0]
 obtain ⟨g,hg⟩:∃ g,g=if a0P j < 0 then -(Int.gcd (a0P i) (a0P j):Int) else (Int.gcd (a0P i) (a0P j):Int):=⟨_,rfl⟩
 obtain ⟨hq,hg0⟩:=A0a (p:=a0P i) hj0 hg
 rw [hq]
 have hgl2:lz g < 536870912:=by rw [hg];split;rw [e0Q];exact hgl;exact hgl
 by_cases hneg:a0P j < 0
 ·have hcz:c0V (a0P j) 0 < 0:=by unfold c0V;rw [b1W hneg];omega
  simp [hcz,B0u,h0,b3]
  refine (e0i (i:=a0m (Int.gcd (a0P i) (a0P j))) ⟨s1,rfl,k2⟩ hx.1 (by rw [a0n];omega)).mono ?_
  rintro _ G2 ⟨⟨s2,rfl,k6⟩,hx2⟩
  replace b0:=hx2.blk b0;replace b1:=hx2.blk b1;replace b2:=hx2.blk b2;replace b3:=hx2.blk b3;replace hx:=hx.trans hx2;replace k0:=k0.mono hx2;replace k1:=k1.mono hx2;replace k2:=k2.mono hx2
  rw [a0k] at k6 ⊢
  rw [b1W hneg] at hg
  rw [← hg] at k6 ⊢
  have hz:=a0j b3
  simp [h0,b3,k6.cells,k6.plain,hsz]
  generalize hS:Array.setIfInBounds _ _ _=G3
  have hsz:=hx.1;replace k0:=k0.setS hS b3 (by decide);replace k1:=k1.setS hS b3 (by decide);replace k2:=k2.setS hS b3 (by decide);replace k6:=k6.setS hS b3 (by decide);replace b0:=a0z hS b0 (by omega);replace b1:=a0z hS b1 (by omega);replace b2:=a0z hS b2 (by omega);replace hx:=b0I hS hx (by omega);replace b3:=a0M hS b3;clear hS hsz
  clear k2
  have k2:=k6
  clear k6
  obtain ⟨s1,rfl⟩:∃ s1,s1=s2:=⟨_,rfl⟩
  simp [s0U,h0,b0,b3]
  refine (b0M k0 ⟨s1,rfl,k2⟩ hx.1 hn (by rw [a0n];exact hgl2) (by rw [a0k];exact hg0)).mono ?_
  rintro _ G2 ⟨⟨_,_,rfl,⟨s3,rfl,k3⟩,k4⟩,hx2⟩
  replace b0:=hx2.blk b0;replace b1:=hx2.blk b1;replace b2:=hx2.blk b2;replace b3:=hx2.blk b3;replace hx:=hx.trans hx2;replace k0:=k0.mono hx2;replace k1:=k1.mono hx2;replace k2:=k2.mono hx2
  rw [a0k] at k3 ⊢
  have hz:=a0j b0
  simp [h0,b0,k3.cells,k3.plain,hz]
  generalize hS:Array.setIfInBounds _ _ _=G3
  have hsz:=hx.1;replace k0:=k0.setS hS b0 (by decide);replace k1:=k1.setS hS b0 (by decide);replace k2:=k2.setS hS b0 (by decide);replace k3:=k3.setS hS b0 (by decide);replace k4:=k4.setS hS b0 (by decide);replace b1:=a0z hS b1 (by omega);replace b2:=a0z hS b2 (by omega);replace b3:=a0z hS b3 (by omega);replace hx:=b0I hS hx (by omega);replace b0:=a0M hS b0;clear hS hsz
  simp [s0V,h0,b1,b3]
  refine (b0M k1 ⟨s1,rfl,k2⟩ hx.1 hm (by rw [a0n];exact hgl2) (by rw [a0k];exact hg0)).mono ?_
  rintro _ G2 ⟨⟨_,_,rfl,⟨s4,rfl,k4⟩,k5⟩,hx2⟩
  replace b0:=hx2.blk b0;replace b1:=hx2.blk b1;replace b2:=hx2.blk b2;replace b3:=hx2.blk b3;replace hx:=hx.trans hx2;replace k0:=k0.mono hx2;replace k1:=k1.mono hx2;replace k2:=k2.mono hx2;replace k3:=k3.mono hx2
  rw [a0k] at k4 ⊢
  have hz:=a0j b1
  simp [h0,b1,k4.cells,k4.plain,hz]
  generalize hS:Array.setIfInBounds _ _ _=G3
  have hsz:=hx.1;replace k0:=k0.setS hS b1 (by decide);replace k1:=k1.setS hS b1 (by decide);replace k2:=k2.setS hS b1 (by decide);replace k3:=k3.setS hS b1 (by decide);replace k4:=k4.setS hS b1 (by decide);replace k5:=k5.setS hS b1 (by decide);replace b0:=a0z hS b0 (by omega);replace b2:=a0z hS b2 (by omega);replace b3:=a0z hS b3 (by omega);replace hx:=b0I hS hx (by omega);replace b1:=a0M hS b1;clear hS hsz
  have hz:=a0j b2
  simp [s0W,h0,b0,b1,b2,k3.cells,k3.plain,k4.cells,k4.plain,hz]
  exact fun _=>⟨s3,s4,rfl,k3.setT b2 (by decide),k4.setT b2 (by decide)⟩
 ·have hcz:¬ c0V (a0P j) 0 < 0:=by unfold c0V;rw [b1T hneg];split <;> omega
  rw [b1T hneg] at hg
  rw [← hg] at k2 b3
  simp [hcz]
  simp [s0U,h0,b0,b3]
  refine (b0M k0 ⟨s1,rfl,k2⟩ hx.1 hn (by rw [a0n];exact hgl2) (by rw [a0k];exact hg0)).mono ?_
  rintro _ G2 ⟨⟨_,_,rfl,⟨s3,rfl,k3⟩,k4⟩,hx2⟩
  replace b0:=hx2.blk b0;replace b1:=hx2.blk b1;replace b2:=hx2.blk b2;replace b3:=hx2.blk b3;replace hx:=hx.trans hx2;replace k0:=k0.mono hx2;replace k1:=k1.mono hx2;replace k2:=k2.mono hx2
  rw [a0k] at k3 ⊢
  have hz:=a0j b0
  simp [h0,b0,k3.cells,k3.plain,hz]
  generalize hS:Array.setIfInBounds _ _ _=G3
  have hsz:=hx.1;replace k0:=k0.setS hS b0 (by decide);replace k1:=k1.setS hS b0 (by decide);replace k2:=k2.setS hS b0 (by decide);replace k3:=k3.setS hS b0 (by decide);replace k4:=k4.setS hS b0 (by decide);replace b1:=a0z hS b1 (by omega);replace b2:=a0z hS b2 (by omega);replace b3:=a0z hS b3 (by omega);replace hx:=b0I hS hx (by omega);replace b0:=a0M hS b0;clear hS hsz
  simp [s0V,h0,b1,b3]
  refine (b0M k1 ⟨s1,rfl,k2⟩ hx.1 hm (by rw [a0n];exact hgl2) (by rw [a0k];exact hg0)).mono ?_
  rintro _ G2 ⟨⟨_,_,rfl,⟨s4,rfl,k4⟩,k5⟩,hx2⟩
  replace b0:=hx2.blk b0;replace b1:=hx2.blk b1;replace b2:=hx2.blk b2;replace b3:=hx2.blk b3;replace hx:=hx.trans hx2;replace k0:=k0.mono hx2;replace k1:=k1.mono hx2;replace k2:=k2.mono hx2;replace k3:=k3.mono hx2
  rw [a0k] at k4 ⊢
  have hz:=a0j b1
  simp [h0,b1,k4.cells,k4.plain,hz]
  generalize hS:Array.setIfInBounds _ _ _=G3
  have hsz:=hx.1;replace k0:=k0.setS hS b1 (by decide);replace k1:=k1.setS hS b1 (by decide);replace k2:=k2.setS hS b1 (by decide);replace k3:=k3.setS hS b1 (by decide);replace k4:=k4.setS hS b1 (by decide);replace k5:=k5.setS hS b1 (by decide);replace b0:=a0z hS b0 (by omega);replace b2:=a0z hS b2 (by omega);replace b3:=a0z hS b3 (by omega);replace hx:=b0I hS hx (by omega);replace b1:=a0M hS b1;clear hS hsz
  have hz:=a0j b2
  simp [s0W,h0,b0,b1,b2,k3.cells,k3.plain,k4.cells,k4.plain,hz]
  exact fun _=>⟨s3,s4,rfl,k3.setT b2 (by decide),k4.setT b2 (by decide)⟩
end
section
open Go
set_option maxHeartbeats 4000000
variable {fl:Nat} {H G:a0e} {R:a0u} {v w:Value} {i j:Bool × List Nat} {a b:b0e}
theorem b0O.p (h:b0O H v a):∃ s u,v=.agg #[.bool a.1.1,s,.bool a.2.1,u]∧Lim H s a.1.2∧Lim H u a.2.2∧b0r H (.agg #[.bool a.1.1,s]) a.1∧b0r H (.agg #[.bool a.2.1,u]) a.2:=by
 obtain ⟨s,u,h1,h2,h3⟩:=h;exact ⟨s,u,h1,h2,h3,⟨s,rfl,h2⟩,⟨u,rfl,h3⟩⟩
theorem b0O.ok (h:b0O H v a):b0t a.1.2∧b0t a.2.2:=by obtain ⟨s,u,_,h2,h3⟩:=h;exact ⟨h2.ok,h3.ok⟩
theorem f0e (x:Rat):lz x.num≤szR x:=by unfold szR;omega
theorem g0T (x:Rat):lz x.den≤szR x:=by unfold szR;omega
theorem h0G (h:b0r H v i) (k:b0r H w j) (hf:fl≤H.size) (hn:i.2.length < 536870912) (hm:j.2.length < 536870912) (hj0:a0P j ≠ 0) :
  a0S env fl S0d [v,w] H (fun r H'=>b0O H' r (a0f (Rat.divInt (a0P i) (a0P j)))∧Ext H H') R:=by
 have k0:=h
 have k1:=k
 obtain ⟨s,rfl,hs⟩:=h
 obtain ⟨u,rfl,hu⟩:=k
 refine a0g b1C hf (h:=?_)
 intro ρ h0
 simp [X0l,O0t,h0]
 generalize hG:Array.push (Array.push (Array.push H _) _) _=G
 have hx:Ext H G:=by rw [← hG];exact (Ext.refl H).push.push.push
 have b0:a0e.blk G H.size=.row false a0a [.bool i.1,s]:=by rw [← hG];simp
 have b1:a0e.blk G (H.size + 1)=.row false a0a [.bool j.1,u]:=by rw [← hG];simp
 have b2:a0e.blk G (H.size + 2)=.row false a0b [.bool false,.slice none 0 0,.bool false,.slice none 0 0]:=by rw [← hG];simp
 clear hG
 replace k0:=k0.mono hx
 replace k1:=k1.mono hx
 simp [O0u,h0,b0,b1]
 refine (d0z k0 k1 hx.1 hn hm hj0).mono ?_
 rintro _ G2 ⟨⟨q,rfl,s1,s2,rfl,k2,k3⟩,hx2⟩
 replace b2:=hx2.blk b2;replace hx:=hx.trans hx2
 have hsz:=hx.1
 simp [h0,k2.cells,k2.plain,k3.cells,k3.plain,hsz]
 generalize hN:Array.setIfInBounds (Array.push _ _) _ _=G3
 obtain ⟨hx2,b3⟩:=new1 hN
 clear hN
 replace b2:=hx2.blk b2;replace hx:=hx.trans hx2;replace k2:=k2.mono hx2;replace k3:=k3.mono hx2
 have hz:=a0j b2
 simp [O0v,h0,b2,b3,k2.cells,k2.plain,k3.cells,k3.plain,hz]
 exact fun _=>⟨s1,s2,rfl,k2.setT b2 (by decide),k3.setT b2 (by decide)⟩
def w0n (H:a0e) (v:Value) (l:List (Bool × List Nat)):Prop :=
 ∃ cs,Sl H a0a 2 v l.length cs∧∀ k,(h:k < l.length)→b0r H (.agg ((cs.drop (k * 2)).take 2).toArray) l[k]
theorem j0s (h:b0r H v i) (hl:b0r H w j) {c:Nat} {p:Nat} (hb:H.blk p=.row false a0a (a0R w)) (hf:fl≤H.size) (hn:i.2.length < 536870912) (hm:j.2.length < 536870912) :
  a0S env fl T0U [.func (.func y0V) #[] #[],v,.slice (some ⟨p,0,none⟩) 1 c] H (fun r H'=>b0r H' r (a0m (a0P i + a0P j))∧Ext H H') R:=by
 have k0:=h
 have k1:=hl
 obtain ⟨s,rfl,hs⟩:=h
 obtain ⟨u,rfl,hu⟩:=hl
 simp at hb
 refine a0g b1D hf (h:=?_)
 intro ρ h0
 have hpl:=a0j hb
 simp [X0m,O0w,O0x,h0,g0Q]
 generalize hG:Array.push (Array.push H _) _=G
 have hx2:Ext H G:=by rw [← hG];exact (Ext.refl H).push.push
 have b0:a0e.blk G H.size=.row false a0a [.bool i.1,s]:=by rw [← hG];simp
 have b1:a0e.blk G (H.size + 1)=.row false a0a [.bool false,.slice none 0 0]:=by rw [← hG];simp
 have b2:a0e.blk G p=.row false a0a [.bool j.1,u]:=hx2.blk hb
 have hx:=hx2
 clear hG
 replace k0:=k0.mono hx2
 replace k1:=k1.mono hx2
 clear hb
 refine b0P (fun c' t G=>∃ n:Nat,n + c' = 1∧t.length=21∧get t 0=.func (.func y0V) #[] #[]∧get t 4=.pointer (some ⟨H.size,0,none⟩)∧get t 6=.pointer (some ⟨H.size + 1,0,none⟩)∧get t 9=.slice (some ⟨p,0,none⟩) 1 c∧get t 10=.int .i64 1∧get t 11=.int .i64 (n:Int) ∧
   Ext H G∧a0e.blk G (H.size + 1)=.row false a0a [.bool false,.slice none 0 0] ∧
   (n=0→a0e.blk G H.size=.row false a0a [.bool i.1,s]∧a0e.blk G p=.row false a0a [.bool j.1,u]∧b0r G (.agg #[.bool i.1,s]) i∧b0r G (.agg #[.bool j.1,u]) j) ∧
   (n=1→∃ s2,a0e.blk G H.size=.row false a0a [.bool (a0m (a0P i + a0P j)).1,s2]∧Lim G s2 (a0m (a0P i + a0P j)).2))
  (fun t G=>∃ s2,t.length=21∧get t 4=.pointer (some ⟨H.size,0,none⟩)∧get t 6=.pointer (some ⟨H.size + 1,0,none⟩)∧Ext H G∧a0e.blk G (H.size + 1)=.row false a0a [.bool false,.slice none 0 0] ∧
   a0e.blk G H.size=.row false a0a [.bool (a0m (a0P i + a0P j)).1,s2]∧Lim G s2 (a0m (a0P i + a0P j)).2) 1 ?_ ?_ ?_
 ·exact ⟨0,rfl,by simp,by simp [h0],by simp,by simp,by simp [h0],by simp,by simp,hx,b1,fun _=>⟨b0,b2,k0,k1⟩,by omega⟩
 ·clear h0 ρ k0 k1 b0 b1 b2 hx hx2 G
  rintro c' t G ⟨n,hnc,ht,g0,g4,g6,g9,g10,g11,hx,b1,hc0,hc1⟩
  obtain ⟨ρ,rfl⟩:=toT ht
  simp only [b0N,Nat.reduceLT] at g0 g4 g6 g9 g10 g11
  by_cases hn0:n=0
  ·subst hn0
   obtain ⟨b0,b2,k0,k1⟩:=hc0 rfl
   have hlt:=hx.1
   have hbl:=a0j b1
   have e9:IntKind.i64.wrap ((0:Int) + 1)=1:=by decide
   simp [F0N,O0y,g0,g4,g6,g9,g10,g11,iaV,b2]
   have hc:(a0R (Value.agg #[.bool j.1,u])).length=2:=rfl
   simp [hu.cells,hu.plain,hlt]
   generalize hN:Array.setIfInBounds (Array.push _ _) _ _=G3
   obtain ⟨hx2,b3⟩:=new1 hN
   clear hN
   replace b0:=hx2.blk b0;replace b1:=hx2.blk b1;replace b2:=hx2.blk b2;replace hx:=hx.trans hx2;replace k0:=k0.mono hx2;replace k1:=k1.mono hx2
   simp [O0z,O0A,g0,g4,g6,g9,g10,g11,b0,b3]
   refine (e0h k0 k1 hx.1 hn hm).mono ?_
   rintro _ G2 ⟨⟨s2,rfl,k2⟩,hx2⟩
   replace b0:=hx2.blk b0;replace b1:=hx2.blk b1;replace b2:=hx2.blk b2;replace hx:=hx.trans hx2;replace k0:=k0.mono hx2;replace k1:=k1.mono hx2
   have hz:=a0j b0
   simp [g0,g4,g6,g9,g10,g11,b0,k2.cells,k2.plain,hz,e9]
   exact ⟨0,by omega,1,rfl,rfl,hx.set (by omega),b1,by omega,fun _=>k2.setT b0 (by decide)⟩
  ·have:n=1:=by omega
   subst this
   obtain ⟨s2,b0,k0⟩:=hc1 rfl
   simp [F0N,g0,g4,g6,g9,g10,g11]
   exact ⟨hx,b1,s2,b0,k0⟩
 ·clear h0 ρ k0 k1 b0 b1 b2 hx hx2 G
  rintro t G ⟨s2,ht,g4,g6,hx,b1,b0,k0⟩
  obtain ⟨ρ,rfl⟩:=toT ht
  simp only [b0N,Nat.reduceLT] at g4 g6
  have hz:=a0j b1
  simp [O0B,g4,g6,b0,b1,k0.cells,k0.plain,hz]
  exact fun _=>⟨s2,rfl,k0.setT b1 (by decide)⟩
theorem b0D (h:b0O H v a) (k:b0O H w b) (hf:fl≤H.size) (hn:e0I a < 67108864) (hm:e0I b < 67108864) :
  a0S env fl r0U [v,w] H (fun r H'=>b0O H' r (a0f (b0A a + b0A b))∧Ext H H') R:=by
 have k0:=h
 have k1:=k
 obtain ⟨s,u,rfl,hs,hu⟩:=h
 obtain ⟨s',u',rfl,hs',hu'⟩:=k
 refine a0g b1l hf (h:=?_)
 intro ρ h0
 simp [W0U,N0m,h0]
 generalize hG:Array.push (Array.push (Array.push H _) _) _=G
 have hx:Ext H G:=by rw [← hG];exact (Ext.refl H).push.push.push
 have b0:a0e.blk G H.size=.row false a0b [.bool a.1.1,s,.bool a.2.1,u]:=by rw [← hG];simp
 have b1:a0e.blk G (H.size + 1)=.row false a0b [.bool b.1.1,s',.bool b.2.1,u']:=by rw [← hG];simp
 have b2:a0e.blk G (H.size + 2)=.row false a0b [.bool false,.slice none 0 0,.bool false,.slice none 0 0]:=by rw [← hG];simp
 clear hG
 replace k0:=k0.mono hx
 replace k1:=k1.mono hx
 have sa:=d0u k0.ok.1 k0.ok.2
 have sb:=d0u k1.ok.1 k1.ok.2
 refine a0F ?_
 simp [N0n,h0,b0,b1]
 refine (b0V k0 (by have:=hx.1;omega) (by omega)).mono ?_
 rintro _ G2 ⟨⟨s1,s2,rfl,k2,k3⟩,hx2⟩
 replace b0:=hx2.blk b0;replace b1:=hx2.blk b1;replace b2:=hx2.blk b2;replace hx:=hx.trans hx2;replace k0:=k0.mono hx2;replace k1:=k1.mono hx2
 simp [h0,b1]
 refine (b0V k1 hx.1 (by omega)).mono ?_
 rintro _ G2 ⟨⟨s3,s4,rfl,k4,k5⟩,hx2⟩
 replace b0:=hx2.blk b0;replace b1:=hx2.blk b1;replace b2:=hx2.blk b2;replace hx:=hx.trans hx2;replace k0:=k0.mono hx2;replace k1:=k1.mono hx2;replace k2:=k2.mono hx2;replace k3:=k3.mono hx2
 clear k0 k1
 have hz0:=a0j b0
 simp [h0,b0,k2.cells,k2.plain,k3.cells,k3.plain,hz0]
 generalize hS:Array.setIfInBounds _ _ _=G3
 have hsz:=hx.1;replace k2:=k2.setS hS b0 (by decide);replace k3:=k3.setS hS b0 (by decide);replace k4:=k4.setS hS b0 (by decide);replace k5:=k5.setS hS b0 (by decide);replace b1:=a0z hS b1 (by omega);replace b2:=a0z hS b2 (by omega);replace hx:=b0I hS hx (by omega);replace b0:=a0M hS b0;clear hS hsz
 have hz0:=a0j b1
 simp [b1,k4.cells,k4.plain,k5.cells,k5.plain,hz0]
 generalize hS:Array.setIfInBounds _ _ _=G3
 have hsz:=hx.1;replace k2:=k2.setS hS b1 (by decide);replace k3:=k3.setS hS b1 (by decide);replace k4:=k4.setS hS b1 (by decide);replace k5:=k5.setS hS b1 (by decide);replace b0:=a0z hS b0 (by omega);replace b2:=a0z hS b2 (by omega);replace hx:=b0I hS hx (by omega);replace b1:=a0M hS b1;clear hS hsz
 obtain ⟨x,hxv⟩:∃ x,x=b0A a:=⟨_,rfl⟩
 obtain ⟨y,hyv⟩:∃ y,y=b0A b:=⟨_,rfl⟩
 rw [← hxv] at sa k2 k3 b0 ⊢
 rw [← hyv] at sb k4 k5 b1 ⊢
 have k0:b0r _ (.agg #[.bool (a0f x).1.1,s1]) (a0m x.num):=⟨s1,rfl,k2⟩
 have k1:b0r _ (.agg #[.bool (a0f x).2.1,s2]) (a0m x.den):=⟨s2,rfl,k3⟩
 have k6:b0r _ (.agg #[.bool (a0f y).1.1,s3]) (a0m y.num):=⟨s3,rfl,k4⟩
 have k7:b0r _ (.agg #[.bool (a0f y).2.1,s4]) (a0m y.den):=⟨s4,rfl,k5⟩
 have l1:=f0e x
 have l2:=g0T x
 have l3:=f0e y
 have l4:=g0T y
 clear hs hu hs' hu' k2 k3 k4 k5
 refine a0F ?_
 simp [N0o,h0,b0,b1]
 refine (b0y k0 k7 (by have:=hx.1;omega) (by rw [a0n];omega) (by rw [a0n];omega)).mono ?_
 rintro _ G2 ⟨k2,hx2⟩
 replace b0:=hx2.blk b0;replace b1:=hx2.blk b1;replace b2:=hx2.blk b2;replace hx:=hx.trans hx2;replace k1:=k1.mono hx2;replace k6:=k6.mono hx2;replace k7:=k7.mono hx2
 rw [a0k,a0k] at k2
 simp [h0,b0,b1]
 refine (b0y k6 k1 (by have:=hx.1;omega) (by rw [a0n];omega) (by rw [a0n];omega)).mono ?_
 rintro _ G2 ⟨k3,hx2⟩
 replace b0:=hx2.blk b0;replace b1:=hx2.blk b1;replace b2:=hx2.blk b2;replace hx:=hx.trans hx2;replace k1:=k1.mono hx2;replace k2:=k2.mono hx2;replace k6:=k6.mono hx2;replace k7:=k7.mono hx2
 rw [a0k,a0k] at k3
 obtain ⟨s5,hk3,k3'⟩:=k3
 subst hk3
 simp [h0,k3'.cells]
 generalize hN:Array.push _ _=G3
 obtain ⟨hx2,b3⟩:=h0Z hN
 have hGs:G3.size=G2.size + 1:=by rw [← hN];simp
 clear hN
 have k3:b0r G2 (.agg #[.bool (a0m (y.num * x.den)).1,s5]) (a0m (y.num * x.den)):=⟨s5,rfl,k3'⟩
 replace b0:=hx2.blk b0;replace b1:=hx2.blk b1;replace b2:=hx2.blk b2;replace hx:=hx.trans hx2;replace k1:=k1.mono hx2;replace k2:=k2.mono hx2;replace k3:=k3.mono hx2;replace k6:=k6.mono hx2;replace k7:=k7.mono hx2
 have m1:=d0b x.num y.den
 have m2:=d0b y.num x.den
 refine (j0s k2 k3 (by simpa using b3) (by have:=hx.1;omega) (by rw [a0n];omega) (by rw [a0n];omega)).mono ?_
 rintro _ G2 ⟨k4,hx2⟩
 replace b0:=hx2.blk b0;replace b1:=hx2.blk b1;replace b2:=hx2.blk b2;replace hx:=hx.trans hx2;replace k1:=k1.mono hx2;replace k6:=k6.mono hx2;replace k7:=k7.mono hx2
 rw [a0k,a0k] at k4
 simp [h0,b0,b1]
 refine (b0y k1 k7 hx.1 (by rw [a0n];omega) (by rw [a0n];omega)).mono ?_
 rintro _ G2 ⟨k5,hx2⟩
 replace b2:=hx2.blk b2;replace hx:=hx.trans hx2;replace k4:=k4.mono hx2;replace k6:=k6.mono hx2;replace k7:=k7.mono hx2
 rw [a0k,a0k] at k5
 simp [h0]
 have m3:=q0X (x.num * y.den) (y.num * x.den)
 have m4:=d0b (x.den:Int) y.den
 refine (h0G k4 k5 hx.1 (by rw [a0n];omega) (by rw [a0n];omega) (by rw [a0k];have:=x.den_nz;have:=y.den_nz;exact Int.mul_ne_zero (by omega) (by omega))).mono ?_
 rintro _ G2 ⟨⟨s6,s7,rfl,k6,k7⟩,hx2⟩
 replace b2:=hx2.blk b2;replace hx:=hx.trans hx2
 rw [a0k,a0k,← m0Y] at k6 k7 ⊢
 have hz:=a0j b2
 simp [h0,b2,k6.cells,k6.plain,k7.cells,k7.plain,hz]
 exact fun _=>⟨s6,s7,rfl,k6.setT b2 (by decide),k7.setT b2 (by decide)⟩
theorem e0V (h:b0O H v a) (k:b0O H w b) (hf:fl≤H.size) (hn:e0I a < 67108864) (hm:e0I b < 67108864) :
  a0S env fl J0P [v,w] H (fun r H'=>b0O H' r (a0f (b0A a * b0A b))∧Ext H H') R:=by
 have k0:=h
 have k1:=k
 obtain ⟨s,u,rfl,hs,hu⟩:=h
 obtain ⟨s',u',rfl,hs',hu'⟩:=k
 refine a0g b1x hf (h:=?_)
 intro ρ h0
 simp [X0g,O0b,h0]
 generalize hG:Array.push (Array.push (Array.push H _) _) _=G
 have hx:Ext H G:=by rw [← hG];exact (Ext.refl H).push.push.push
 have b0:a0e.blk G H.size=.row false a0b [.bool a.1.1,s,.bool a.2.1,u]:=by rw [← hG];simp
 have b1:a0e.blk G (H.size + 1)=.row false a0b [.bool b.1.1,s',.bool b.2.1,u']:=by rw [← hG];simp
 have b2:a0e.blk G (H.size + 2)=.row false a0b [.bool false,.slice none 0 0,.bool false,.slice none 0 0]:=by rw [← hG];simp
 clear hG
 replace k0:=k0.mono hx
 replace k1:=k1.mono hx
 have sa:=d0u k0.ok.1 k0.ok.2
 have sb:=d0u k1.ok.1 k1.ok.2
 refine a0F ?_
 simp [O0c,h0,b0,b1]
 refine (b0V k0 (by have:=hx.1;omega) (by omega)).mono ?_
 rintro _ G2 ⟨⟨s1,s2,rfl,k2,k3⟩,hx2⟩
 replace b0:=hx2.blk b0;replace b1:=hx2.blk b1;replace b2:=hx2.blk b2;replace hx:=hx.trans hx2;replace k0:=k0.mono hx2;replace k1:=k1.mono hx2
 simp [h0,b1]
 refine (b0V k1 hx.1 (by omega)).mono ?_
 rintro _ G2 ⟨⟨s3,s4,rfl,k4,k5⟩,hx2⟩
 replace b0:=hx2.blk b0;replace b1:=hx2.blk b1;replace b2:=hx2.blk b2;replace hx:=hx.trans hx2;replace k0:=k0.mono hx2;replace k1:=k1.mono hx2;replace k2:=k2.mono hx2;replace k3:=k3.mono hx2
 clear k0 k1
 have hz0:=a0j b0
 simp [h0,b0,k2.cells,k2.plain,k3.cells,k3.plain,hz0]
 generalize hS:Array.setIfInBounds _ _ _=G3
 have hsz:=hx.1;replace k2:=k2.setS hS b0 (by decide);replace k3:=k3.setS hS b0 (by decide);replace k4:=k4.setS hS b0 (by decide);replace k5:=k5.setS hS b0 (by decide);replace b1:=a0z hS b1 (by omega);replace b2:=a0z hS b2 (by omega);replace hx:=b0I hS hx (by omega);replace b0:=a0M hS b0;clear hS hsz
 have hz0:=a0j b1
 simp [b1,k4.cells,k4.plain,k5.cells,k5.plain,hz0]
 generalize hS:Array.setIfInBounds _ _ _=G3
 have hsz:=hx.1;replace k2:=k2.setS hS b1 (by decide);replace k3:=k3.setS hS b1 (by decide);replace k4:=k4.setS hS b1 (by decide);replace k5:=k5.setS hS b1 (by decide);replace b0:=a0z hS b0 (by omega);replace b2:=a0z hS b2 (by omega);replace hx:=b0I hS hx (by omega);replace b1:=a0M hS b1;clear hS hsz
 obtain ⟨x,hxv⟩:∃ x,x=b0A a:=⟨_,rfl⟩
 obtain ⟨y,hyv⟩:∃ y,y=b0A b:=⟨_,rfl⟩
 rw [← hxv] at sa k2 k3 b0 ⊢
 rw [← hyv] at sb k4 k5 b1 ⊢
 have k0:b0r _ (.agg #[.bool (a0f x).1.1,s1]) (a0m x.num):=⟨s1,rfl,k2⟩
 have k1:b0r _ (.agg #[.bool (a0f x).2.1,s2]) (a0m x.den):=⟨s2,rfl,k3⟩
 have k6:b0r _ (.agg #[.bool (a0f y).1.1,s3]) (a0m y.num):=⟨s3,rfl,k4⟩
 have k7:b0r _ (.agg #[.bool (a0f y).2.1,s4]) (a0m y.den):=⟨s4,rfl,k5⟩
 have l1:=f0e x
 have l2:=g0T x
 have l3:=f0e y
 have l4:=g0T y
 clear hs hu hs' hu' k2 k3 k4 k5
 refine a0F ?_
 simp [O0d,h0,b0,b1]
 refine (b0y k0 k6 (by have:=hx.1;omega) (by rw [a0n];omega) (by rw [a0n];omega)).mono ?_
 rintro _ G2 ⟨k2,hx2⟩
 replace b0:=hx2.blk b0;replace b1:=hx2.blk b1;replace b2:=hx2.blk b2;replace hx:=hx.trans hx2;replace k1:=k1.mono hx2;replace k6:=k6.mono hx2;replace k7:=k7.mono hx2
 rw [a0k,a0k] at k2
 simp [h0,b0,b1]
 refine (b0y k1 k7 hx.1 (by rw [a0n];omega) (by rw [a0n];omega)).mono ?_
 rintro _ G2 ⟨k5,hx2⟩
 replace b2:=hx2.blk b2;replace hx:=hx.trans hx2;replace k2:=k2.mono hx2;replace k6:=k6.mono hx2;replace k7:=k7.mono hx2
 rw [a0k,a0k] at k5
 simp [h0]
 have m3:=d0b x.num y.num
 have m4:=d0b (x.den:Int) y.den
 refine (h0G k2 k5 hx.1 (by rw [a0n];omega) (by rw [a0n];omega) (by rw [a0k];have:=x.den_nz;have:=y.den_nz;exact Int.mul_ne_zero (by omega) (by omega))).mono ?_
 rintro _ G2 ⟨⟨s6,s7,rfl,k6,k7⟩,hx2⟩
 replace b2:=hx2.blk b2;replace hx:=hx.trans hx2
 rw [a0k,a0k,← n0n] at k6 k7 ⊢
 have hz:=a0j b2
 simp [h0,b2,k6.cells,k6.plain,k7.cells,k7.plain,hz]
 exact fun _=>⟨s6,s7,rfl,k6.setT b2 (by decide),k7.setT b2 (by decide)⟩
theorem b0U {n:Int} (hf:fl≤H.size) (h1:-9223372036854775808≤n) (h2:n < 9223372036854775808) :
  a0S env fl u0A [.int .i64 n] H (fun r H'=>b0O H' r (a0f (n:Rat))∧Ext H H') R:=by
 refine a0g b1t hf (h:=?_)
 intro ρ h0
 simp [X0c,N0O,N0P,h0]
 have hx:=(Ext.refl H).push (r:=.row false a0b [.bool false,.slice none 0 0,.bool false,.slice none 0 0])
 have b2:a0e.blk (Array.push H (.row false a0b [.bool false,.slice none 0 0,.bool false,.slice none 0 0])) H.size=_:=a0v
 generalize Array.push H _=G at *
 refine (c0f hx.1 h1 h2).mono ?_
 rintro _ G2 ⟨⟨s1,rfl,k2⟩,hx2⟩
 replace b2:=hx2.blk b2;replace hx:=hx.trans hx2
 simp [h0]
 refine (e0W hx.1).mono ?_
 rintro _ G2 ⟨⟨s2,rfl,k3⟩,hx2⟩
 replace b2:=hx2.blk b2;replace hx:=hx.trans hx2;replace k2:=k2.mono hx2
 have hz:=a0j b2
 simp [h0,b2,k2.cells,k2.plain,k3.cells,k3.plain,hz]
 refine fun _=>⟨s1,s2,?_,?_,?_⟩
 ·unfold a0f;rw [e1q,e1o];rfl
 ·unfold a0f;rw [e1q];exact k2.setT b2 (by decide)
 ·unfold a0f;rw [e1o];exact k3.setT b2 (by decide)
end
section
open Go
set_option maxHeartbeats 4000000
variable {fl:Nat} {H G:a0e} {R:a0u} {v w:Value} {a b:b0e}
abbrev b0W:=Int × b0e
def h0q (H:a0e) (v:Value) (e:b0W):Prop:=∃ s u,v=.agg #[.int .i64 e.1,.bool e.2.1.1,s,.bool e.2.2.1,u]∧Lim H s e.2.1.2∧Lim H u e.2.2.2
variable {e f:b0W}
theorem h0q.mono (h:h0q H v e) (hx:Ext H G):h0q G v e:=by obtain ⟨s,u,h1,h2,h3⟩:=h;exact ⟨s,u,h1,h2.mono hx,h3.mono hx⟩
theorem h0q.setT (h:h0q H v e) {p:Nat} {ro:Bool} {e':TypeId} {cs':List Value} {r:Blk} (hb:H.blk p=.row ro e' cs') (hne:e' ≠ a0l):h0q (H.setIfInBounds p r) v e:=by
 obtain ⟨s,u,h1,h2,h3⟩:=h;exact ⟨s,u,h1,h2.setT hb hne,h3.setT hb hne⟩
theorem h0q.setS {G3:a0e} {q:Nat} {X:Blk} {ro:Bool} {e':TypeId} {cs:List Value} (k:h0q H v e) (hS:Array.setIfInBounds H q X=G3) (hb:a0e.blk H q=.row ro e' cs) (hne:e' ≠ a0l):h0q G3 v e:=by rw [← hS];exact k.setT hb hne
theorem h0q.ok (h:h0q H v e):b0t e.2.1.2∧b0t e.2.2.2:=by obtain ⟨s,u,_,h2,h3⟩:=h;exact ⟨h2.ok,h3.ok⟩
def m0J (e:b0W):Bool:=if e.1 = -1 ∨ e.1=1 then f0y e.2 else if e.1=0 then u0N e.2 else false
def m0j (e:b0W):Int × Rat:=if m0J e then (if e.1=0 then (0,b0A e.2) else (e.1,0)) else (0,0)
def g0u (x:Int × Rat):b0W:=if x.1=0 then (0,a0f x.2) else (x.1,((false,[]),(false,[])))
def J0H (x y:Int × Rat):Int:=if x.1 < y.1 then -1 else if x.1 > y.1 then 1 else if x.1 ≠ 0 then 0 else Y0o x.2 y.2
def c0m:b0e:=((false,[]),(false,[]))
theorem h0o:f0y c0m=true:=rfl
theorem e0H:b0A c0m=0:=by unfold b0A;rw [h0o];rfl
theorem e0E:b0O H (.agg #[.bool false,.slice none 0 0,.bool false,.slice none 0 0]) c0m:=⟨_,_,rfl,Lim.nil,Lim.nil⟩
theorem i0m (h:b0O H v a) (hf:fl≤H.size):a0S env fl y0D [v] H (fun r H'=>r=.bool (f0y a)∧Ext H H') R:=by
 obtain ⟨s,u,rfl,hs,hu⟩:=h
 refine a0g Y0s hf (h:=?_)
 intro ρ h0
 simp [I0j,A0l,h0]
 have hsl:=hs.slen
 have hul:=hu.slen
 cases h1:a.1.1
 ·by_cases h2:a.1.2=[]
  ·cases h3:a.2.1
   ·simp [l0S,h0,h1,h2,h3,hsl,hul,f0y]
   ·simp [l0S,h0,h1,h2,h3,hsl,hul,f0y]
  ·simp [l0S,h0,h1,h2,hsl,hul,f0y]
 ·simp [l0S,h0,h1,hsl,hul,f0y]
theorem j0H (h:h0q H v e) (hf:fl≤H.size) (hn:e0I e.2 < 67108864):a0S env fl S0b [v] H (fun r H'=>r=.bool (m0J e)∧Ext H H') R:=by
 obtain ⟨s,u,rfl,hs,hu⟩:=h
 have k0:b0O H (.agg #[.bool e.2.1.1,s,.bool e.2.2.1,u]) e.2:=⟨s,u,rfl,hs,hu⟩
 refine a0g b1p hf (h:=?_)
 intro ρ h0
 simp [W0Y,N0z,N0A,N0B,h0]
 generalize hG:Array.push H _=G
 obtain ⟨hx2,b0⟩:=h0Z hG
 have hx:=Ext.refl H
 clear hG
 replace hx:=hx.trans hx2;replace k0:=k0.mono hx2
 unfold m0J
 by_cases h1:e.1 = -1
 ·simp [h1,F0G,h0,b0]
  refine (i0m k0 hx.1).mono ?_
  rintro _ G2 ⟨rfl,hx2⟩
  simp
 ·by_cases h2:e.1=1
  ·simp [h2,v0W,F0G,h0,b0]
   refine (i0m k0 hx.1).mono ?_
   rintro _ G2 ⟨rfl,hx2⟩
   simp
  ·by_cases h3:e.1=0
   ·simp [h3,v0W,F0H,N0C,h0,b0]
    refine (g0O k0 hx.1 (by omega)).mono ?_
    rintro _ G2 ⟨rfl,hx2⟩
    simp
   ·simp [h1,h2,h3,v0W,F0H,N0D,h0,b0]
theorem f0C (h:b0O H v a) (hf:fl≤H.size) (hn:e0I a < 67108864):a0S env fl J0N [v] H (fun r H'=>h0q H' r (0,a0f (b0A a))∧Ext H H') R:=by
 have k0:=h
 obtain ⟨s,u,rfl,hs,hu⟩:=h
 refine a0g a1S hf (h:=?_)
 intro ρ h0
 simp [W0B,L0F,L0G,h0]
 generalize hG:Array.push (Array.push H _) _=G
 have hx2:Ext H G:=by rw [← hG];exact (Ext.refl H).push.push
 have b0:a0e.blk G H.size=.row false a0b [.bool a.1.1,s,.bool a.2.1,u]:=by rw [← hG];simp
 have b1:a0e.blk G (H.size + 1)=.row false a0Z [.int .i64 0,.bool false,.slice none 0 0,.bool false,.slice none 0 0]:=by rw [← hG];simp
 have hx:=Ext.refl H
 clear hG
 replace hx:=hx.trans hx2;replace k0:=k0.mono hx2
 try simp [b0]
 refine (b0D k0 (b:=c0m) e0E hx.1 hn (by decide)).mono ?_
 rintro _ G2 ⟨⟨s1,s2,rfl,k2,k3⟩,hx2⟩
 replace b1:=hx2.blk b1;replace hx:=hx.trans hx2
 rw [e0H,d1U] at k2 k3 ⊢
 have hz:=a0j b1
 simp [h0,b1,k2.cells,k2.plain,k3.cells,k3.plain,hz]
 exact fun _=>⟨s1,s2,rfl,k2.setT b1 (by decide),k3.setT b1 (by decide)⟩
theorem m0x (h:h0q H v e) (hf:fl≤H.size) (hn:e0I e.2 < 67108864):a0S env fl T0L [v] H (fun r H'=>h0q H' r (g0u (m0j e))∧Ext H H') R:=by
 have k0:=h
 obtain ⟨s,u,rfl,hs,hu⟩:=h
 have k1:b0O H (.agg #[.bool e.2.1.1,s,.bool e.2.2.1,u]) e.2:=⟨s,u,rfl,hs,hu⟩
 refine a0g b1k hf (h:=?_)
 intro ρ h0
 simp [W0T,N0h,h0]
 generalize hG:Array.push (Array.push H _) _=G
 have hx2:Ext H G:=by rw [← hG];exact (Ext.refl H).push.push
 have b0:a0e.blk G H.size=.row false a0Z [.int .i64 e.1,.bool e.2.1.1,s,.bool e.2.2.1,u]:=by rw [← hG];simp
 have b1:a0e.blk G (H.size + 1)=.row false a0Z [.int .i64 0,.bool false,.slice none 0 0,.bool false,.slice none 0 0]:=by rw [← hG];simp
 have hx:=Ext.refl H
 clear hG
 replace hx:=hx.trans hx2;replace k0:=k0.mono hx2;replace k1:=k1.mono hx2
 simp [N0i,h0,b0]
 refine (j0H k0 hx.1 hn).mono ?_
 rintro _ G2 ⟨rfl,hx2⟩
 replace b0:=hx2.blk b0;replace b1:=hx2.blk b1;replace hx:=hx.trans hx2;replace k1:=k1.mono hx2
 unfold m0j
 cases hm:m0J e
 ·simp [N0j,h0]
  refine (f0C (a:=c0m) e0E hx.1 (by decide)).mono ?_
  rintro _ G2 ⟨⟨s1,s2,rfl,k2,k3⟩,hx2⟩
  replace b0:=hx2.blk b0;replace b1:=hx2.blk b1;replace hx:=hx.trans hx2;replace k1:=k1.mono hx2
  rw [e0H] at k2 k3 ⊢
  have hz:=a0j b1
  simp [h0,b1,k2.cells,k2.plain,k3.cells,k3.plain,hz,g0u]
  exact fun _=>⟨s1,s2,rfl,k2.setT b1 (by decide),k3.setT b1 (by decide)⟩
 ·by_cases h3:e.1=0
  ·simp [h3,F0y,N0k,h0,b0]
   refine (f0C k1 hx.1 hn).mono ?_
   rintro _ G2 ⟨⟨s1,s2,rfl,k2,k3⟩,hx2⟩
   replace b0:=hx2.blk b0;replace b1:=hx2.blk b1;replace hx:=hx.trans hx2
   have hz:=a0j b1
   simp [h0,b1,k2.cells,k2.plain,k3.cells,k3.plain,hz,g0u]
   exact fun _=>⟨s1,s2,rfl,k2.setT b1 (by decide),k3.setT b1 (by decide)⟩
  ·have hz:=a0j b1
   simp [h3,F0y,N0l,h0,b0,b1,hz,g0u]
   exact fun _=>⟨_,_,rfl,Lim.nil,Lim.nil⟩
end
section
open Go
def s0v (b2 b:Nat) (A:a0W→a0e→Prop) (Z:a0W→a0e→Prop) (Q:d0O):d0O
 | .normal,t,H=>A t H
 | .exit j,t,H=>if j=b2 then A t H else if j=b then Z t H else Q (.exit j) t H
 | .ret,t,H=>Q .ret t H
section
variable {b2 b:Nat} {A Z:a0W→a0e→Prop} {Q:d0O} {t:a0W} {H:a0e}
@[simp] theorem Q0h:s0v b2 b A Z Q .normal t H=A t H:=nr rfl
@[simp] theorem T0X {j:Nat}:s0v b2 b A Z Q (.exit j) t H=if j=b2 then A t H else if j=b then Z t H else Q (.exit j) t H:=nr rfl
@[simp] theorem W0c:s0v b2 b A Z Q .ret t H=Q .ret t H:=nr rfl
end
def Rnd (nt ti tn n i:Nat) (Inv:Nat→(Nat→Value)→a0e→Prop) (t:a0W) (H:a0e):Prop :=
 ∃ ρ,t=T nt ρ∧ρ ti=.int .i64 (i:Int)∧ρ tn=.int .i64 (n:Int)∧Inv (i + 1) ρ H
theorem Rnd.mk {nt ti tn n i:Nat} {Inv:Nat→(Nat→Value)→a0e→Prop} {ρ:Nat→Value} {H:a0e} (h1:ρ ti=.int .i64 (i:Int)) (h2:ρ tn=.int .i64 (n:Int)) (h3:Inv (i + 1) ρ H):Rnd nt ti tn n i Inv (T nt ρ) H:=⟨ρ,rfl,h1,h2,h3⟩
theorem c0I {E:Env} {fl nt ti tn tc tx b b2 n:Nat} {body:SCode} {Z:a0W→a0e→Prop} {Q:d0O} {R:a0u} {ρ:Nat→Value} {H:a0e} {rc rx:List a0D} (Inv:Nat→(Nat→Value)→a0e→Prop)
  (hrc:rc=[⟨some tc,none,.bin 0 .lss (.tmp ti) (.tmp tn)⟩]) (hrx:rx=[⟨some tx,none,.bin 0 .add (.tmp ti) (.const (.int .i64 1))⟩,⟨some ti,none,.mv (.tmp tx)⟩])
  (hl:ti < nt∧tn < nt∧tc < nt∧tx < nt∧tc ≠ ti∧tc ≠ tn∧tx ≠ ti∧tx ≠ tn∧ti ≠ tn) (hn:n < 4611686018427387904)
  (h0:ρ ti=.int .i64 0) (hN:ρ tn=.int .i64 (n:Int)) (hI:Inv 0 ρ H)
  (stab:∀ i (ρ ρ':Nat→Value) H,(∀ k,k ≠ tc→k ≠ tx→k ≠ ti→ρ' k=ρ k)→Inv i ρ H→Inv i ρ' H)
  (step:∀ i ρ H,i < n→ρ ti=.int .i64 (i:Int)→ρ tn=.int .i64 (n:Int)→Inv i ρ H→W E fl body (T nt ρ) H (s0v b2 b (Rnd nt ti tn n i Inv) Z Q) R)
  (rest:∀ ρ H,ρ ti=.int .i64 (n:Int)→ρ tn=.int .i64 (n:Int)→Inv n ρ H→Z (T nt ρ) H) :
  W E fl (.loop (.seq (.reg rc) (.seq (.cond (.tmp tc) .skip (.exit b)) (.seq (.block b2 body) (.reg rx))))) (T nt ρ) H (e0L b (g0U Z Q)) R:=by
 subst hrc hrx
 obtain ⟨l1,l2,l3,l4,n1,n2,n3,n4,n5⟩:=hl
 refine b0P (fun k t G=>∃ i ρ,i + k=n∧t=T nt ρ∧ρ ti=.int .i64 (i:Int)∧ρ tn=.int .i64 (n:Int)∧Inv i ρ G) Z n ?_ ?_ (fun _ _ h=>h)
 ·exact ⟨0,ρ,by omega,rfl,h0,hN,hI⟩
 ·clear h0 hN hI ρ H
  rintro k t G ⟨i,ρ,hik,rfl,g1,g2,hI⟩
  have e9:IntKind.i64.wrap ((i:Int) + 1)=((i + 1:Nat):Int):=by rw [a0T (by omega) (by omega)];omega
  have hstab:∀ v,Inv i (upd ρ tc v) G:=fun v=>stab i ρ _ G (fun k h1 _ _=>i0U (d1B h1)) hI
  refine g0d (j0Y ?_)
  simp only [k0D,y0f,h0D,b0N l1,b0N l2,g1,g2,H0c,o0V,y0e,c0S,Q0x]
  by_cases hi:i < n
  ·have hs:=step i (upd ρ tc (.bool true)) G hi (by rw [i0U n1];exact g1) (by rw [i0U n2];exact g2) (hstab _)
   have hd:decide ((i:Int) < (n:Int))=true:=by rw [c1X];omega
   rw [hd]
   refine g0d (i0g true (by rw [h0D,b0N l3,k0x]) (fun _=>q0q ?_) (by simp))
   refine g0d (k0F ?_)
   have hfin:∀ t' H',Rnd nt ti tn n i Inv t' H'→WR E fl [⟨some tx,none,.bin 0 .add (.tmp ti) (.const (.int .i64 1))⟩,⟨some ti,none,.mv (.tmp tx)⟩] t' H' (fun t' H'=>∃ k',k' < k∧∃ i ρ,i + k' = n∧t' = T nt ρ∧ρ ti=.int .i64 (i:Int)∧ρ tn=.int .i64 (n:Int)∧Inv i ρ H') R:=by
    rintro t' H' ⟨ρ',rfl,q1,q2,q3⟩
    simp only [k0D,y0f,G0P,h0D,H0l,b0N l1,q1,H0a,e9,o0V,y0e,Q0x,b0N l4,k0x]
    refine ⟨k - 1,by omega,i + 1,_,by omega,rfl,k0x,?_,?_⟩
    ·rw [i0U n5,i0U n4];exact q2
    ·exact stab (i + 1) ρ' _ H' (fun k h1 h2 h3=>by rw [i0U (d1B h3),i0U (d1B h2)]) q3
   refine hs.mono fun e t' H' hq=>?_
   cases e with
   | normal=>exact j0Y (hfin _ _ hq)
   | exit j =>
    simp only [s0v] at hq
    show (if j=b2 then _ else _)
    by_cases hj:j=b2
    ·rw [b1W hj] at hq ⊢;exact j0Y (hfin _ _ hq)
    ·rw [b1T hj] at hq ⊢
     show (if j=b then _ else _)
     by_cases hj2:j=b
     ·rw [b1W hj2] at hq ⊢;exact hq
     ·rw [b1T hj2] at hq ⊢;exact hq
   | ret=>exact hq
  ·have:i=n:=by omega
   subst this
   have hd:decide ((i:Int) < (i:Int))=false:=by simp
   rw [hd]
   refine g0d (i0g false (by rw [h0D,b0N l3,k0x]) (by simp) (fun _=>q0p ?_))
   show (if b=b then _ else _)
   rw [b1W rfl]
   exact rest _ _ (by rw [i0U n1];exact g1) (by rw [i0U n2];exact g2) (hstab _)
theorem o0g {Q:d0O}:g0U (fun t H=>Q .normal t H) Q=Q:=by
 funext e t H;cases e <;> rfl
theorem m0X {E:Env} {fl nt ti tn tc tx b b2 n:Nat} {body:SCode} {Q:d0O} {R:a0u} {ρ:Nat→Value} {H:a0e} {rc rx:List a0D} (Inv:Nat→(Nat→Value)→a0e→Prop)
  (hrc:rc=[⟨some tc,none,.bin 0 .lss (.tmp ti) (.tmp tn)⟩]) (hrx:rx=[⟨some tx,none,.bin 0 .add (.tmp ti) (.const (.int .i64 1))⟩,⟨some ti,none,.mv (.tmp tx)⟩])
  (hl:ti < nt∧tn < nt∧tc < nt∧tx < nt∧tc ≠ ti∧tc ≠ tn∧tx ≠ ti∧tx ≠ tn∧ti ≠ tn) (hn:n < 4611686018427387904)
  (h0:ρ ti=.int .i64 0) (hN:ρ tn=.int .i64 (n:Int)) (hI:Inv 0 ρ H)
  (stab:∀ i (ρ ρ':Nat→Value) H,(∀ k,k ≠ tc→k ≠ tx→k ≠ ti→ρ' k=ρ k)→Inv i ρ H→Inv i ρ' H)
  (step:∀ i ρ H,i < n→ρ ti=.int .i64 (i:Int)→ρ tn=.int .i64 (n:Int)→Inv i ρ H→W E fl body (T nt ρ) H (s0v b2 b (Rnd nt ti tn n i Inv) (fun t H=>Q .normal t H) Q) R)
  (rest:∀ ρ H,ρ ti=.int .i64 (n:Int)→ρ tn=.int .i64 (n:Int)→Inv n ρ H→Q .normal (T nt ρ) H) :
  W E fl (.loop (.seq (.reg rc) (.seq (.cond (.tmp tc) .skip (.exit b)) (.seq (.block b2 body) (.reg rx))))) (T nt ρ) H (e0L b Q) R:=by
 rw [← o0g (Q:=Q)]
 exact c0I (Z:=fun t H=>Q .normal t H) (Q:=Q) Inv hrc hrx hl hn h0 hN hI stab step rest
def Sls {α:Type} (P:a0e→List Value→α→Prop) (H:a0e) (e sz:Nat) (v:Value) (l:List α):Prop :=
 ∃ cs,Sl H e sz v l.length cs∧∀ k (h:k < l.length),P H ((cs.drop (k * sz)).take sz) l[k]
def h0J {α:Type} (P:a0e→List Value→α→Prop):Prop:=∀ H G cs x,Ext H G→P H cs x→P G cs x
section
variable {α:Type} {P:a0e→List Value→α→Prop} {H G:a0e} {e sz:Nat} {v:Value} {l:List α}
theorem Sls.mono (hP:h0J P) (h:Sls P H e sz v l) (hx:Ext H G):Sls P G e sz v l:=by
 obtain ⟨cs,h1,h2⟩:=h;exact ⟨cs,h1.mono hx,fun k hk=>hP _ _ _ _ hx (h2 k hk)⟩
theorem Sls.slen (h:Sls P H e sz v l):g0Q v=some (.int .i64 l.length):=by obtain ⟨cs,h1,_⟩:=h;exact h1.slen
theorem Sls.ia (h:Sls P H e sz v l) {k:IntKind} {j:Nat} (hj:j < l.length):iaV sz v (.int k j)=some (adr sz v j):=by obtain ⟨cs,h1,_⟩:=h;exact h1.ia hj
theorem Sls.load (h:Sls P H e sz v l) {j:Nat} (hj:j < l.length) (hs:0 < sz):∃ cs,b0q H true sz (adr sz v j)=some (.agg cs.toArray)∧cs.length=sz∧P H cs l[j]:=by
 obtain ⟨cs,h1,h2⟩:=h
 refine ⟨_,h1.load (Ext.refl H) hj hs,?_,h2 j hj⟩
 have:=h1.1
 have:(j + 1) * sz≤l.length * sz:=b1Z _ hj
 rw [c1i,c1H] at this
 simp;omega
theorem Sls.load1 (h:Sls P H e 1 v l) {j:Nat} (hj:j < l.length):∃ w,b0q H false 1 (adr 1 v j)=some w∧P H [w] l[j]:=by
 obtain ⟨cs,h1,h2⟩:=h
 refine ⟨_,h1.load1 (Ext.refl H) hj,?_⟩
 have h3:=h2 j hj
 have hl:=h1.1
 have:(cs.drop (j * 1)).take 1=[cs.getD j undef]:=by
  have hjc:j < cs.length:=by omega
  have e1:cs.getD j undef=cs[j]:=by simp [b1Q,hjc]
  rw [d1p,c1V hjc,e1];rfl
 rw [this] at h3;exact h3
theorem Sls.cells (h:Sls P H e sz v l):a0R v=[v]:=by obtain ⟨cs,h1,_⟩:=h;exact h1.cells
theorem Sls.plain (h:Sls P H e sz v l):a0q v=true:=by obtain ⟨cs,h1,_⟩:=h;exact h1.plain
theorem Sls.nil:Sls P H e sz (.slice none 0 0) ([]:List α):=⟨[],Sl.nil,fun k hk=>by simp at hk⟩
end
def b0a {α:Type} (P:a0e→List Value→α→Prop) (fl:Nat) (H:a0e) (e sz:Nat) (v:Value) (l:List α):Prop :=
 ∃ cs,Own fl H e sz v l.length cs∧∀ k (h:k < l.length),P H ((cs.drop (k * sz)).take sz) l[k]
section
variable {α:Type} {P:a0e→List Value→α→Prop} {H G:a0e} {fl e sz:Nat} {v:Value} {l:List α}
theorem b0a.sls (h:b0a P fl H e sz v l):Sls P H e sz v l:=by obtain ⟨cs,h1,h2⟩:=h;exact ⟨cs,h1.sl,h2⟩
theorem b0a.mono (hP:h0J P) (h:b0a P fl H e sz v l) (hx:Ext H G):b0a P fl G e sz v l:=by
 obtain ⟨cs,h1,h2⟩:=h;exact ⟨cs,h1.mono hx,fun k hk=>hP _ _ _ _ hx (h2 k hk)⟩
theorem b0a.nil:b0a P fl H e sz (.slice none 0 0) ([]:List α):=⟨[],Own.nil,fun k hk=>by simp at hk⟩
theorem b0a.slen (h:b0a P fl H e sz v l):g0Q v=some (.int .i64 l.length):=h.sls.slen
def Lx (H G:a0e):Prop:=∀ b ro cs,H.blk b=.row ro a0l cs→G.blk b=.row ro a0l cs
theorem b0a.lx (h:b0a P fl G e sz v l) (he:e ≠ a0l) {G':a0e} (hx:c0Z (slB v) G G'):Lx G G':=by
 intro b ro cs hb
 obtain ⟨cs',⟨hl,⟨rfl,_⟩ | ⟨p,cap,rfl,hp,_⟩⟩,_⟩:=h
 ·rw [hx.2 b (a0j hb) (by simp [slB])];exact hb
 ·rw [hx.2 b (a0j hb) (by simp [slB];rintro rfl;rw [hp] at hb;cases hb;exact he rfl)];exact hb
theorem b0a.app (he:e ≠ a0l) (hO:∀ G' cs x,c0Z (slB v) G G'→Lx G G'→P G cs x→P G' cs x) (h:b0a P fl G e sz v l) {e2 c bytes:Nat} {new:List Value} {x:α} (hx:P G new x) (hl:new.length=sz) (hp:new.all a0q=true) (hn:l.length < 1073741824) (hb:bytes≤1024) (hs:0 < sz) (hfl:fl≤G.size) :
  ∃ v' G',h0B fl (G.push (.row false e2 new)) e sz bytes v (.slice (some ⟨G.size,0,none⟩) 1 c)=some (v',G')∧b0a P fl G' e sz v' (l ++ [x])∧c0Z (slB v) G G'∧(∀ H0,H0.size≤fl→Ext H0 G→Ext H0 G'):=by
 obtain ⟨cs,h1,h2⟩:=h
 obtain ⟨v',G',a1,a2,a3,a4⟩:=g0s (e2:=e2) (c:=c) h1 hl hp hn hb hs hfl (bytes:=bytes)
 refine ⟨v',G',a1,⟨cs ++ new,by simpa using a2,fun k hk=>?_⟩,a3,a4⟩
 have hcs:=h1.1
 by_cases hkl:k < l.length
 ·have h3:(k + 1) * sz≤l.length * sz:=b1Z _ hkl
  rw [c1i,c1H] at h3
  rw [c1I hkl,d1a (by omega),d1n (by simp;omega)]
  exact hO _ _ _ a3 (b0a.lx ⟨cs,h1,h2⟩ he a3) (h2 k hkl)
 ·have hke:k=l.length:=by simp at hk;omega
  subst hke
  rw [c1o (b1S _),d1a (by omega),d1j (by omega),d1v,← hl,c1h]
  simpa using hO _ _ _ a3 (b0a.lx ⟨cs,h1,h2⟩ he a3) hx
end
theorem Lim.lx {H G:a0e} {v:Value} {l:List Nat} (h:Lim H v l) (hx:Lx H G):Lim G v l:=by
 obtain ⟨⟨hl,h1 | ⟨b,off,cap,ro,cells,rfl,hb,ho,hcs⟩⟩,h2⟩:=h
 ·exact ⟨⟨hl,.inl h1⟩,h2⟩
 ·exact ⟨⟨hl,.inr ⟨b,off,cap,ro,cells,rfl,hx _ _ _ hb,ho,hcs⟩⟩,h2⟩
theorem b0O.lx {H G:a0e} {v:Value} {a:b0e} (h:b0O H v a) (hx:Lx H G):b0O G v a:=by obtain ⟨s,u,h1,h2,h3⟩:=h;exact ⟨s,u,h1,h2.lx hx,h3.lx hx⟩
theorem h0q.lx {H G:a0e} {v:Value} {e:b0W} (h:h0q H v e) (hx:Lx H G):h0q G v e:=by obtain ⟨s,u,h1,h2,h3⟩:=h;exact ⟨s,u,h1,h2.lx hx,h3.lx hx⟩
end
section
open Go
set_option maxHeartbeats 4000000
variable {fl:Nat} {H G:a0e} {R:a0u} {v w:Value}
def PR (H:a0e) (cs:List Value) (a:b0e):Prop:=b0O H (.agg cs.toArray) a
def PE (H:a0e) (cs:List Value) (e:b0W):Prop:=h0q H (.agg cs.toArray) e
theorem a0H:h0J PR:=fun _ _ _ _ hx h=>b0O.mono h hx
theorem b0X:h0J PE:=fun _ _ _ _ hx h=>h0q.mono h hx
abbrev b0n (H:a0e) (v:Value) (l:List b0e):Prop:=Sls PR H a0b 4 v l
abbrev d0N (H:a0e) (v:Value) (l:List b0W):Prop:=Sls PE H a0Z 5 v l
def PS (H:a0e) (cs:List Value) (l:List b0e):Prop:=∃ v,cs=[v]∧b0n H v l
theorem c0N:h0J PS:=fun _ _ _ _ hx ⟨v,h1,h2⟩=>⟨v,h1,h2.mono a0H hx⟩
abbrev e0B (H:a0e) (v:Value) (l:List (List b0e)):Prop:=Sls PS H a0C 1 v l
theorem b0n.load {l:List b0e} (h:b0n H v l) {j:Nat} (hj:j < l.length):∃ w,b0q H true 4 (adr 4 v j)=some w∧b0O H w l[j]:=by
 obtain ⟨cs,h1,_,h3⟩:=Sls.load h hj (by omega);exact ⟨_,h1,h3⟩
theorem d0N.load {l:List b0W} (h:d0N H v l) {j:Nat} (hj:j < l.length):∃ w,b0q H true 5 (adr 5 v j)=some w∧h0q H w l[j]:=by
 obtain ⟨cs,h1,_,h3⟩:=Sls.load h hj (by omega);exact ⟨_,h1,h3⟩
theorem e0B.load {l:List (List b0e)} (h:e0B H v l) {j:Nat} (hj:j < l.length):∃ w,b0q H false 1 (adr 1 v j)=some w∧b0n H w l[j]:=by
 obtain ⟨w,h1,w',h2,h3⟩:=Sls.load1 h hj
 simp at h2;subst h2;exact ⟨_,h1,h3⟩
def q0e (a b:List b0e):Nat→Rat
 | 0=>0
 | n + 1=>q0e a b n + b0A (a.getD n c0m) * b0A (b.getD n c0m)
def Few (S:Nat) (l:List b0e):Prop:=∀ x ∈ l,e0I x≤S∧b0t x.1.2∧b0t x.2.2
theorem Few.sz {S:Nat} {l:List b0e} (h:Few S l) (n:Nat):szR (b0A (l.getD n c0m))≤S + 1:=by
 rw [b1Q]
 by_cases hn:n < l.length
 ·rw [b1V hn]
  obtain ⟨h1,h2,h3⟩:=h _ (c1a hn)
  have:=d0u h2 h3
  simp;omega
 ·rw [c1d (by omega)]
  show szR (b0A c0m)≤_
  rw [e0H,f0T];omega
theorem G0t {S:Nat} {a b:List b0e} (ha:Few S a) (hb:Few S b):∀ n,szR (q0e a b n)≤n * (2 * S + 3) + 1
 | 0=>by simp [q0e,f0T]
 | n + 1=>by
  have h1:=G0t ha hb n
  have h2:=p0V (q0e a b n) (b0A (a.getD n c0m) * b0A (b.getD n c0m))
  have h3:=f0S (b0A (a.getD n c0m)) (b0A (b.getD n c0m))
  have h4:=ha.sz n
  have h5:=hb.sz n
  rw [q0e,c1i];omega
end
section
open Go
set_option maxHeartbeats 4000000
variable {fl:Nat} {H G:a0e} {R:a0u} {v w:Value} {a b:List b0W}
theorem b0a.cast {α:Type} {P:a0e→List Value→α→Prop} {fl e sz:Nat} {v v':Value} {l:List α} (h:v=v') (k:b0a P fl H e sz v' l):b0a P fl H e sz v l:=by rw [h];exact k
def P0d (l:List b0W):Prop:=∀ x ∈ l,e0I x.2 < 67108864
def d0E {α:Type} (p:α→Bool) (l:List α):Bool:=l.any p
def x0L {α:Type} (p:α→Bool) (l:List α):Bool:=l.all p
section
variable {α:Type} {p:α→Bool} {l:List α} {i:Nat}
theorem h0a:d0E p []=false:=rfl
theorem u0o:x0L p []=true:=rfl
theorem f0l (h:i < l.length):d0E p (l.take (i + 1))=(d0E p (l.take i) || p l[i]):=by
 unfold d0E;rw [c1k h,List.any_append];simp
theorem q0r (h:i < l.length):x0L p (l.take (i + 1))=(x0L p (l.take i) && p l[i]):=by
 unfold x0L;rw [c1k h,e1h];simp
theorem h0b (h:i < l.length) (hp:p l[i]=true):d0E p l=true:=List.any_eq_true.2 ⟨_,c1a h,hp⟩
theorem s0e (h:i < l.length) (hp:p l[i]=false):x0L p l=false:=by
 unfold x0L;rw [List.all_eq_false];exact ⟨l[i],c1a h,by simp [hp]⟩
end
theorem m0p {p:b0W→Bool} {g:FuncId} (ha:d0N H v a) (hf:fl≤H.size) (hfa:P0d a) (hal:a.length < 1073741824)
  (hg:∀ (fl:Nat) (G:a0e) (v:Value) (e:b0W),fl≤G.size→h0q G v e→e0I e.2 < 67108864→a0S env fl g [v] G (fun r H'=>r=.bool (p e)∧Ext G H') R) :
  a0S env fl T0Q [v,.func (.func g) #[] #[]] H (fun r H'=>(∃ z:Int,r=.int .i64 z∧(0≤z ↔ d0E p a=true))∧Ext H H') R:=by
 refine a0g b1s hf (h:=?_)
 intro ρ h0
 simp [X0b,N0I,N0J,h0,ha.slen]
 refine c0I (n:=a.length) (fun i ρ G=>ρ 0=v∧ρ 1=.func (.func g) #[] #[]∧Ext H G∧d0E p (a.take i)=false)
  rfl rfl (by decide) (by omega) (by simp) (by simp) ?_ ?_ ?_ ?_
 ·exact ⟨by simp [h0],by simp [h0],Ext.refl H,by rw [e1v];exact h0a⟩
 ·intro i ρ ρ' G h hI;simpa [h] using hI
 ·clear h0 ρ
  rintro i ρ G hi gi gn ⟨g0,g1,hx,hc⟩
  have ka:=ha.mono b0X hx
  obtain ⟨w,hl,k0⟩:=d0N.load ka hi
  simp [N0K,N0L,gi,g0,g1,ka.ia hi,hl]
  refine (hg _ _ _ _ hx.1 k0 (hfa _ (c1a hi))).mono ?_
  rintro _ G2 ⟨rfl,hx2⟩
  have hx':=hx.trans hx2
  cases hp:p a[i]
  ·simp
   refine Rnd.mk (by simp [gi]) (by simp [gn]) ⟨by simp [g0],by simp [g1],hx',by rw [f0l hi,hc,hp];rfl⟩
  ·simp [N0M,gi]
   exact fun _=>h0b hi hp
 ·clear h0 ρ
  rintro ρ G gi gn ⟨g0,g1,hx,hc⟩
  rw [c1h] at hc
  simp [N0N,hc]
theorem f0j {p:b0W→Bool} {g:FuncId} (ha:d0N H v a) (hf:fl≤H.size) (hfa:P0d a) (hal:a.length < 1073741824)
  (hg:∀ (fl:Nat) (G:a0e) (v:Value) (e:b0W),fl≤G.size→h0q G v e→e0I e.2 < 67108864→a0S env fl g [v] G (fun r H'=>r=.bool (p e)∧Ext G H') R) :
  a0S env fl R0Z [v,.func (.func g) #[] #[]] H (fun r H'=>r=.bool (d0E p a)∧Ext H H') R:=by
 refine a0g b1c hf (h:=?_)
 intro ρ h0
 simp [W0L,M0v,M0w,h0]
 refine (m0p (p:=p) ha (b1S _) hfa hal hg).mono ?_
 rintro _ G2 ⟨⟨z,rfl,hz⟩,hx2⟩
 simp
 intro _
 rw [e1G,c1X];exact hz
theorem k0a {e:b0W} (h:h0q H v e) (hf:fl≤H.size) (hn:e0I e.2 < 67108864):a0S env fl T0N [v] H (fun r H'=>r=.bool (!m0J e)∧Ext H H') R:=by
 have k0:=h
 obtain ⟨s,u,rfl,hs,hu⟩:=h
 refine a0g b1o hf (h:=?_)
 intro ρ h0
 simp [W0X,N0x,N0y,h0]
 generalize hG:Array.push H _=G
 obtain ⟨hx2,b0⟩:=h0Z hG
 have hx:=Ext.refl H
 clear hG
 replace hx:=hx.trans hx2;replace k0:=k0.mono hx2
 try simp [b0]
 refine (j0H k0 hx.1 hn).mono ?_
 rintro _ G2 ⟨rfl,hx2⟩
 simp
def d0a (H:a0e) (v:Value) (rows:List (List b0e)):Prop:=∃ s,v=.agg #[s]∧e0B H s rows
def p0R (n:Int) (r:List b0e):Bool:=decide ((r.length:Int)=n) && x0L u0N r
def j0U (rows:List (List b0e)) (n:Int):Bool:=decide (0≤n) && decide (n≤6) && decide (rows.length≤40) && x0L (p0R n) rows
theorem k0i {S:Nat} {rows:List (List b0e)} {n:Int} (h:d0a H v rows) (hf:fl≤H.size) (hS:S < 67108864) (hr:∀ r ∈ rows,Few S r∧r.length < 1073741824) (hrl:rows.length < 1073741824) :
  a0S env fl T0M [v,.int .i64 n] H (fun r H'=>r=.bool (j0U rows n)∧Ext H H') R:=by
 obtain ⟨s,rfl,hs⟩:=h
 refine a0g b1n hf (h:=?_)
 intro ρ h0
 simp [W0W,N0t,h0,hs.cells]
 generalize hG:Array.push H _=G
 obtain ⟨hx2,b0⟩:=h0Z hG
 have hx:=Ext.refl H
 clear hG
 replace hx:=hx.trans hx2
 unfold j0U
 by_cases h1:n < 0
 ·have h1':¬ 0≤n:=by omega
  simp [r0E,v0V,h0,h1,h1']
 ·have h1':0≤n:=by omega
  by_cases h2:6 < n
  ·have h2':¬ n≤6:=by omega
   simp [r0E,v0V,h0,h1,h1',h2,h2']
  ·have h2':n≤6:=by omega
   by_cases h3:40 < rows.length
   ·have h3':¬ rows.length≤40:=by omega
    have h3'':(40:Int) < (rows.length:Int):=by omega
    simp [r0E,v0V,h0,b0,(hs.mono c0N hx).slen,hs.slen,h1,h1',h2,h2',h3,h3',h3'']
   ·have h3':rows.length≤40:=by omega
    have h3'':¬ (40:Int) < (rows.length:Int):=by omega
    simp [r0E,N0u,h0,b0,hs.slen,h1,h1',h2,h2',h3,h3',h3'']
    refine c0I (n:=rows.length) (fun i ρ G=>ρ 1=.int .i64 n∧ρ 22=s∧Ext H G∧x0L (p0R n) (rows.take i)=true)
     rfl rfl (by decide) (by omega) (by simp) (by simp) ?_ ?_ ?_ ?_
    ·exact ⟨by simp [h0],by simp,hx,by rw [e1v];exact u0o⟩
    ·intro i ρ ρ' G h hI;simpa [h] using hI
    ·clear h0 ρ hx b0 hx2
     rintro i ρ G hi gi gn ⟨g1,g22,hx,hc⟩
     have ks:=hs.mono c0N hx
     obtain ⟨w,hl,kw⟩:=e0B.load ks hi
     obtain ⟨hfew,hrl2⟩:=hr _ (c1a hi)
     by_cases hlen:(rows[i].length:Int)=n
     ·simp [F0E,F0F,N0w,g1,g22,gi,ks.ia hi,hl,kw.slen,hlen]
      refine m0X (n:=rows[i].length) (fun j ρ G=>ρ 1=.int .i64 n∧ρ 22=s∧ρ 24=.int .i64 (i:Int)∧ρ 23=.int .i64 (rows.length:Int)∧ρ 32=w∧Ext H G∧b0n G w rows[i]∧x0L u0N (rows[i].take j)=true)
       rfl rfl (by decide) (by omega) (by simp) (by simp [hlen]) ?_ ?_ ?_ ?_
      ·exact ⟨by simp [g1],by simp [g22],by simp [gi],by simp [gn],by simp,hx,kw,by rw [e1v];exact u0o⟩
      ·intro i ρ ρ' G h hI;simpa [h] using hI
      ·clear g1 g22 gi gn hx kw hl ks ρ G
       rintro j ρ G hj gj gm ⟨g1,g22,gi,gn,g32,hx,kw,hcj⟩
       obtain ⟨x,hlx,k0⟩:=b0n.load kw hj
       obtain ⟨s1,s2,rfl,k1,k2⟩:=id k0
       have hf2:=hfew _ (c1a hj)
       have hsz:=hx.1
       simp [F0A,g1,g22,g32,gj,kw.ia hj,hlx,k1.cells,k1.plain,k2.cells,k2.plain,hsz]
       generalize hN:Array.setIfInBounds (Array.push _ _) _ _=G3
       obtain ⟨hx2,b1⟩:=new1 hN
       clear hN
       replace hx:=hx.trans hx2;replace k0:=k0.mono hx2
       replace kw:=kw.mono a0H hx2
       simp [F0B,b1]
       refine (g0O k0 hx.1 (by omega)).mono ?_
       rintro _ G2 ⟨rfl,hx2⟩
       replace hx:=hx.trans hx2
       replace kw:=kw.mono a0H hx2
       cases hm:u0N rows[i][j]
       ·simp [F0C]
        intros
        exact s0e hi (by unfold p0R;rw [s0e hj hm];simp)
       ·simp
        exact Rnd.mk (by simp [gj]) (by simp [gm]) ⟨by simp [g1],by simp [g22],by simp [gi],by simp [gn],by simp [g32],hx,kw,by rw [q0r hj,hcj,hm];rfl⟩
      ·rintro ρ G gj gm ⟨g1,g22,gi,gn,g32,hx,kw,hcj⟩
       rw [c1h] at hcj
       simp
       exact Rnd.mk gi gn ⟨g1,g22,hx,by rw [q0r hi,hc];unfold p0R;simp [hlen,hcj]⟩
     ·simp [F0E,F0F,N0v,g1,g22,gi,ks.ia hi,hl,kw.slen,hlen]
      intro _
      exact s0e hi (by unfold p0R;simp [hlen])
    ·clear h0 ρ hx b0 hx2
     rintro ρ G gi gn ⟨g1,g22,hx,hc⟩
     rw [c1h] at hc
     simp [F0D,hc]
def f0g (rows:List (List b0e)) (n:Int) (d:List b0W):Bool:=j0U rows n && decide (d.length=rows.length) && !d0E (fun e=>!m0J e) d
theorem m0w {S:Nat} {rows:List (List b0e)} {n:Int} {d:List b0W} (h:d0a H v rows) (hd:d0N H w d) (hf:fl≤H.size) (hS:S < 67108864) (hr:∀ r ∈ rows,Few S r∧r.length < 1073741824) (hrl:rows.length < 1073741824) (hfd:P0d d) (hdl:d.length < 1073741824) :
  a0S env fl T0D [v,.int .i64 n,w] H (fun r H'=>r=.bool (f0g rows n d)∧Ext H H') R:=by
 have kt:=h
 obtain ⟨s,rfl,hs⟩:=h
 refine a0g b1a hf (h:=?_)
 intro ρ h0
 simp [W0J,M0r,h0,hs.cells]
 generalize hG:Array.push H _=G
 obtain ⟨hx2,b0⟩:=h0Z hG
 have hx:=Ext.refl H
 clear hG
 replace hx:=hx.trans hx2
 have kt2:d0a G (.agg #[s]) rows:=⟨s,rfl,hs.mono c0N hx⟩
 unfold f0g
 simp [M0s,h0,b0]
 refine (k0i (n:=n) kt2 hx.1 hS hr hrl).mono ?_
 rintro _ G2 ⟨rfl,hx2⟩
 replace b0:=hx2.blk b0;replace hx:=hx.trans hx2
 cases h1:j0U rows n
 ·simp
 ·by_cases h2:d.length=rows.length
  ·have h2':(d.length:Int)=(rows.length:Int):=by omega
   simp [h0,b0,hd.slen,hs.slen,h2,h2']
   refine (f0j (p:=fun e=>!m0J e) (hd.mono b0X hx) hx.1 hfd hdl (fun fl G v e hf h hn=>k0a h hf hn)).mono ?_
   rintro _ G2 ⟨rfl,hx2⟩
   simp
  ·have h2':¬ (d.length:Int)=(rows.length:Int):=by omega
   simp [h0,b0,hd.slen,hs.slen,h2,h2']
end
section
open Go
set_option maxHeartbeats 4000000
variable {fl:Nat} {H G:a0e} {R:a0u} {v w u:Value}
def h0t (l:List b0e):List b0e:=l.map fun x=>a0f (b0A x)
theorem p0Z {α β:Type} {f:α→β} {l:List α} {i:Nat} (h:i < l.length):(l.map f).take (i + 1)=(l.map f).take i ++ [f l[i]]:=by
 rw [c1k (by simpa using h)];simp
theorem e0d {fl e sz bytes n c:Nat} {H H':a0e} {s v':Value} {xb:Option Addr} (hn:n ≠ 0) (h:h0B fl H e sz bytes s (.slice xb n c)=some (v',H')):∃ m k,v' = .slice (some ⟨H.size,0,none⟩) m k:=by
 unfold h0B at h
 split at h
 ·rename_i base len cap xb' n' c' heq
  cases heq
  rw [b1T hn] at h
  split at h
  ·split at h
   ·cases h
   ·split at h
    ·cases h
    ·split at h
     ·cases h
     ·split at h
      ·split at h
       ·cases h;exact ⟨_,_,rfl⟩
       ·cases h
      ·split at h
       ·cases h;exact ⟨_,_,rfl⟩
       split at h
       ·cases h
       ·split at h
        ·cases h;exact ⟨_,_,rfl⟩
        ·split at h
         ·split at h
          ·cases h;exact ⟨_,_,rfl⟩
          ·cases h
         ·cases h
  ·cases h
 ·cases h
def LxT (e:Nat) (H G:a0e):Prop:=∀ b ro cs,H.blk b=.row ro e cs→G.blk b=.row ro e cs
theorem b0a.lxT {α:Type} {P:a0e→List Value→α→Prop} {fl e sz e':Nat} {v:Value} {l:List α} (h:b0a P fl G e sz v l) (he:e ≠ e') {G':a0e} (hx:c0Z (slB v) G G'):LxT e' G G':=by
 intro b ro cs hb
 obtain ⟨cs',⟨hl,⟨rfl,_⟩ | ⟨p,cap,rfl,hp,_⟩⟩,_⟩:=h
 ·rw [hx.2 b (a0j hb) (by simp [slB])];exact hb
 ·rw [hx.2 b (a0j hb) (by simp [slB];rintro rfl;rw [hp] at hb;cases hb;exact he rfl)];exact hb
theorem b0n.lx2 {l:List b0e} (h:b0n H v l) (h1:LxT a0b H G) (h2:Lx H G):b0n G v l:=by
 obtain ⟨cs,⟨hl,hs⟩,hp⟩:=h
 refine ⟨cs,⟨hl,?_⟩,fun k hk=>b0O.lx (hp k hk) h2⟩
 rcases hs with hs | ⟨b,off,cap,ro,cells,rfl,hb,ho,hcs⟩
 ·exact .inl hs
 ·exact .inr ⟨b,off,cap,ro,cells,rfl,h1 _ _ _ hb,ho,hcs⟩
theorem b0n.off {l:List b0e} {o:Option Nat} (h:b0n H v l) (hx:c0Z o H G) (hne:slB v=none ∨ slB v ≠ o) (h2:Lx H G):b0n G v l:=by
 obtain ⟨cs,⟨hl,hs⟩,hp⟩:=h
 refine ⟨cs,⟨hl,?_⟩,fun k hk=>b0O.lx (hp k hk) h2⟩
 rcases hs with hs | ⟨b,off,cap,ro,cells,rfl,hb,ho,hcs⟩
 ·exact .inl hs
 ·refine .inr ⟨b,off,cap,ro,cells,rfl,?_,ho,hcs⟩
  rw [hx.2 b (a0j hb) (by rcases hne with h | h;simp [slB] at h;exact fun h3=>h h3.symm)];exact hb
theorem b0n.lt {l:List b0e} (h:b0n H v l) {b:Nat} (hb:slB v=some b):b < H.size:=by
 obtain ⟨cs,⟨hl,⟨rfl,_⟩ | ⟨b',off,cap,ro,cells,rfl,hb',ho,hcs⟩⟩,hp⟩:=h
 ·simp [slB] at hb
 ·simp [slB] at hb;subst hb;exact a0j hb'
structure LPt where
 n:Int
 A:List (List b0e)
 B:List b0e
 C:List b0e
def LPV (H:a0e) (v:Value) (p:LPt):Prop:=∃ sA sB sC,v=.agg #[.int .i64 p.n,sA,sB,sC]∧e0B H sA p.A∧b0n H sB p.B∧b0n H sC p.C
def d0h:List (List b0e)→List b0W→List (List b0e)
 | r :: rs,e :: es=>if e.1=0 then h0t r :: d0h rs es else d0h rs es
 | _,_=>[]
def d0i:List (List b0e)→List b0W→List b0e
 | _ :: rs,e :: es=>if e.1=0 then a0f (b0A e.2) :: d0i rs es else d0i rs es
 | _,_=>[]
theorem j0o:∀ {rows:List (List b0e)} {d:List b0W} {i:Nat} (h1:i < rows.length) (h2:i < d.length),d0h (rows.take (i + 1)) (d.take (i + 1))=d0h (rows.take i) (d.take i) ++ if d[i].1=0 then [h0t rows[i]] else []
 | [],_,_,h,_=>by simp at h
 | _ :: _,[],_,_,h=>by simp at h
 | r :: rs,e :: es,0,_,_=>by simp [d0h]
 | r :: rs,e :: es,i + 1,h1,h2=>by
  have:=j0o (rows:=rs) (d:=es) (i:=i) (by simpa using h1) (by simpa using h2)
  simp only [e1a,d0h,this,e1d]
  split <;> simp
theorem j0p:∀ {rows:List (List b0e)} {d:List b0W} {i:Nat} (_:i < rows.length) (h2:i < d.length),d0i (rows.take (i + 1)) (d.take (i + 1))=d0i (rows.take i) (d.take i) ++ if d[i].1=0 then [a0f (b0A d[i].2)] else []
 | [],_,_,h,_=>by simp at h
 | _ :: _,[],_,_,h=>by simp at h
 | r :: rs,e :: es,0,_,_=>by simp [d0i]
 | r :: rs,e :: es,i + 1,h1,h2=>by
  have:=j0p (rows:=rs) (d:=es) (i:=i) (by simpa using h1) (by simpa using h2)
  simp only [e1a,d0i,this,e1d]
  split <;> simp
theorem p0Q (H:a0e):∀ n:Nat,(e0r [.bool false,.slice none 0 0,.bool false,.slice none 0 0] n).length=n * 4∧∀ k,k < n→PR H (((e0r [.bool false,.slice none 0 0,.bool false,.slice none 0 0] n).drop (k * 4)).take 4) c0m
 | 0=>⟨rfl,fun k hk=>by omega⟩
 | n + 1=>by
  obtain ⟨h1,h2⟩:=p0Q H n
  refine ⟨by rw [e0r,c1g,h1];simp;omega,fun k hk=>?_⟩
  cases k with
  | zero=>exact e0E
  | succ k =>
   have:=h2 k (by omega)
   rw [e0r,show (k + 1) * 4=4 + k * 4 by omega,← d1s]
   exact this
theorem b0a.ne {α:Type} {Q:a0e→List Value→α→Prop} {fl e sz e' p:Nat} {v:Value} {l:List α} {cs:List Value} {ro:Bool} (h:b0a Q fl G e sz v l) (hb:a0e.blk G p=.row ro e' cs) (he:e ≠ e'):slB v ≠ some p:=by
 obtain ⟨cs',⟨hl,⟨rfl,_⟩ | ⟨b,cap,rfl,hp,_⟩⟩,_⟩:=h
 ·simp [slB]
 ·simp [slB];rintro rfl;rw [hp] at hb;cases hb;exact he rfl
theorem b0a.ge {α:Type} {Q:a0e→List Value→α→Prop} {fl e sz:Nat} {v:Value} {l:List α} (h:b0a Q fl G e sz v l) {b:Nat} (hb:slB v=some b):fl≤b∧b < G.size:=by
 obtain ⟨cs',⟨hl,⟨rfl,_⟩ | ⟨b',cap,rfl,hp,hf⟩⟩,_⟩:=h
 ·simp [slB] at hb
 ·simp [slB] at hb;subst hb;exact ⟨hf,a0j hp⟩
theorem b0a.cells {α:Type} {Q:a0e→List Value→α→Prop} {fl e sz:Nat} {v:Value} {l:List α} (h:b0a Q fl G e sz v l):a0R v=[v]∧a0q v=true:=⟨h.sls.cells,h.sls.plain⟩
theorem b0a.low {α:Type} {Q:a0e→List Value→α→Prop} {fl fl' e sz:Nat} {v:Value} {l:List α} (h:b0a Q fl G e sz v l) (hl:fl'≤fl):b0a Q fl' G e sz v l:=by
 obtain ⟨cs',⟨hl',h1 | ⟨b',cap,rfl,hp,hf⟩⟩,h2⟩:=h
 ·exact ⟨cs',⟨hl',.inl h1⟩,h2⟩
 ·exact ⟨cs',⟨hl',.inr ⟨b',cap,rfl,hp,by omega⟩⟩,h2⟩
theorem b0a.off {α:Type} {Q:a0e→List Value→α→Prop} {fl e sz:Nat} {v:Value} {l:List α} {o:Option Nat} {G':a0e} (h:b0a Q fl G e sz v l) (hx:c0Z o G G') (hne:slB v=none ∨ slB v ≠ o) (hQ:∀ cs x,Q G cs x→Q G' cs x):b0a Q fl G' e sz v l:=by
 obtain ⟨cs',⟨hl',h1 | ⟨b',cap,rfl,hp,hf⟩⟩,h2⟩:=h
 ·exact ⟨cs',⟨hl',.inl h1⟩,fun k hk=>hQ _ _ (h2 k hk)⟩
 ·refine ⟨cs',⟨hl',.inr ⟨b',cap,rfl,?_,hf⟩⟩,fun k hk=>hQ _ _ (h2 k hk)⟩
  rw [hx.2 b' (a0j hp) (by rcases hne with h | h;simp [slB] at h;exact fun h3=>h h3.symm)];exact hp
theorem b0a.lxm {α:Type} {Q:a0e→List Value→α→Prop} {fl e sz:Nat} {v:Value} {l:List α} {G':a0e} {Q':a0e→List Value→α→Prop} (h:b0a Q fl G e sz v l) (hx:LxT e G G') (hQ:∀ cs x,Q G cs x→Q' G' cs x):b0a Q' fl G' e sz v l:=by
 obtain ⟨cs',⟨hl',h1 | ⟨b',cap,rfl,hp,hf⟩⟩,h2⟩:=h
 ·exact ⟨cs',⟨hl',.inl h1⟩,fun k hk=>hQ _ _ (h2 k hk)⟩
 ·exact ⟨cs',⟨hl',.inr ⟨b',cap,rfl,hx _ _ _ hp,hf⟩⟩,fun k hk=>hQ _ _ (h2 k hk)⟩
theorem b0a.blkOf {α:Type} {Q:a0e→List Value→α→Prop} {fl e sz:Nat} {v:Value} {l:List α} (h:b0a Q fl G e sz v l):AI.blkW v=[] ∨ ∃ b,AI.blkW v=[b]∧slB v=some b:=by
 obtain ⟨cs',⟨hl',⟨rfl,_⟩ | ⟨b',cap,rfl,hp,hf⟩⟩,h2⟩:=h
 ·exact .inl rfl
 ·by_cases h00:l.length=0∧cap=0
  ·exact .inl (by simp only [AI.blkW];rw [b1W h00])
  ·exact .inr ⟨b',by simp only [AI.blkW];rw [b1T h00],rfl⟩
theorem a0X {G3:a0e} {q e e':Nat} {X:Blk} {cs:List Value} {ro:Bool} (hS:Array.setIfInBounds G q X=G3) (hb:a0e.blk G q=.row ro e' cs) (hne:e' ≠ e):LxT e G G3:=by
 intro b ro' cs' hb'
 rw [← hS,a0Q (by rintro rfl;rw [hb] at hb';cases hb';exact hne rfl)];exact hb'
theorem e0B.lx3 {l:List (List b0e)} (h:e0B H v l) (h0:LxT a0C H G) (h1:LxT a0b H G) (h2:Lx H G):e0B G v l:=by
 obtain ⟨cs,⟨hl,hs⟩,hp⟩:=h
 refine ⟨cs,⟨hl,?_⟩,fun k hk=>?_⟩
 ·rcases hs with hs | ⟨b,off,cap,ro,cells,rfl,hb,ho,hcs⟩
  ·exact .inl hs
  ·exact .inr ⟨b,off,cap,ro,cells,rfl,h0 _ _ _ hb,ho,hcs⟩
 ·obtain ⟨w,q1,q2⟩:=hp k hk;exact ⟨w,q1,q2.lx2 h1 h2⟩
theorem i0F:∀ (rows:List (List b0e)) (d:List b0W),(d0h rows d).length≤d.length
 | [],_=>by simp [d0h]
 | _ :: _,[]=>by simp [d0h]
 | r :: rs,e :: es=>by have:=i0F rs es;simp only [d0h];split <;> simp <;> omega
theorem l0r:∀ (rows:List (List b0e)) (d:List b0W),(d0i rows d).length≤d.length
 | [],_=>by simp [d0i]
 | _ :: _,[]=>by simp [d0i]
 | r :: rs,e :: es=>by have:=l0r rs es;simp only [d0i];split <;> simp <;> omega
theorem k0B {a:List (List b0e)} {p:List b0e→Bool} {g:FuncId} {c:Value} (I:a0e→Prop) (hI:∀ G G',Ext G G'→I G→I G') (h0:I H) (ha:e0B H v a) (hf:fl≤H.size) (hal:a.length < 1073741824)
  (hg:∀ (fl:Nat) (G:a0e) (v:Value) (e:List b0e),I G→fl≤G.size→b0n G v e→a0S env fl g [v,c] G (fun r H'=>r=.bool (p e)∧Ext G H') R) :
  a0S env fl y0G [v,.func (.func g) #[] #[c]] H (fun r H'=>(∃ z:Int,r=.int .i64 z∧(0≤z ↔ d0E p a=true))∧Ext H H') R:=by
 refine a0g Y0A hf (h:=?_)
 intro ρ h1
 simp [I0r,A0Q,A0R,h1,ha.slen]
 refine c0I (n:=a.length) (fun i ρ G=>ρ 0=v∧ρ 1=.func (.func g) #[] #[c]∧Ext H G∧d0E p (a.take i)=false)
  rfl rfl (by decide) (by omega) (by simp) (by simp) ?_ ?_ ?_ ?_
 ·exact ⟨by simp [h1],by simp [h1],Ext.refl H,by rw [e1v];exact h0a⟩
 ·intro i ρ ρ' G h hI;simpa [h] using hI
 ·clear h1 ρ
  rintro i ρ G hi gi gn ⟨g0,g1,hx,hc⟩
  have ka:=ha.mono c0N hx
  obtain ⟨w,hl,k0⟩:=e0B.load ka hi
  simp [A0S,A0T,gi,g0,g1,ka.ia hi,hl]
  refine (hg _ _ _ _ (hI _ _ hx h0) hx.1 k0).mono ?_
  rintro _ G2 ⟨rfl,hx2⟩
  have hx':=hx.trans hx2
  cases hp:p a[i]
  ·simp
   exact Rnd.mk (by simp [gi]) (by simp [gn]) ⟨by simp [g0],by simp [g1],hx',by rw [f0l hi,hc,hp];rfl⟩
  ·simp [A0U,gi]
   exact fun _=>h0b hi hp
 ·clear h1 ρ
  rintro ρ G gi gn ⟨g0,g1,hx,hc⟩
  rw [c1h] at hc
  simp [A0V,hc]
theorem i0b {a:List (List b0e)} {p:List b0e→Bool} {g:FuncId} {c:Value} (I:a0e→Prop) (hI:∀ G G',Ext G G'→I G→I G') (h0:I H) (ha:e0B H v a) (hf:fl≤H.size) (hal:a.length < 1073741824)
  (hg:∀ (fl:Nat) (G:a0e) (v:Value) (e:List b0e),I G→fl≤G.size→b0n G v e→a0S env fl g [v,c] G (fun r H'=>r=.bool (p e)∧Ext G H') R) :
  a0S env fl T0R [v,.func (.func g) #[] #[c]] H (fun r H'=>r=.bool (d0E p a)∧Ext H H') R:=by
 refine a0g b1y hf (h:=?_)
 intro ρ h1
 simp [X0h,O0e,O0f,h1]
 refine (k0B (p:=p) I hI h0 ha (b1S _) hal hg).mono ?_
 rintro _ G2 ⟨⟨z,rfl,hz⟩,hx2⟩
 simp
 intro _
 rw [e1G,c1X];exact hz
theorem l0c {l:List b0e} {b:Nat} {n:Int} {r:List Value} {e:TypeId} (hl:b0n H v l) (hb:H.blk b=.row false e (.int .i64 n :: r)) (hf:fl≤H.size) :
  a0S env fl T0S [v,.pointer (some ⟨b,0,none⟩)] H (fun r H'=>r=.bool (!decide ((l.length:Int)=n))∧Ext H H') R:=by
 refine a0g b1z hf (h:=?_)
 intro ρ h0
 simp [X0i,O0g,O0h,h0,hl.slen,hb]
 by_cases h:(l.length:Int)=n
 ·simp [h]
 ·simp [h]
def l0Y (p:LPt):Bool:=decide (0≤p.n) && decide (p.n≤60) && decide (p.A.length≤60) && decide (p.B.length=p.A.length) && decide ((p.C.length:Int)=p.n) && !d0E (fun r=>!decide ((r.length:Int)=p.n)) p.A
theorem o0N {p:LPt} (h:LPV H v p) (hf:fl≤H.size):a0S env fl T0J [v] H (fun r H'=>r=.bool (l0Y p)∧Ext H H') R:=by
 obtain ⟨sA,sB,sC,rfl,hA,hB,hC⟩:=h
 refine a0g b1i hf (h:=?_)
 intro ρ h0
 simp [W0R,N0a,h0,hA.cells,hB.cells,hC.cells]
 generalize hG:Array.push H _=G
 obtain ⟨hx2,b0⟩:=h0Z hG
 have hx:=Ext.refl H
 clear hG
 replace hx:=hx.trans hx2
 unfold l0Y
 by_cases h1:p.n < 0
 ·have h1':¬ 0≤p.n:=by omega
  simp [l0U,o0a,h0,b0,h1,h1']
 have h1':0≤p.n:=by omega
 by_cases h2:60 < p.n
 ·have h2':¬ p.n≤60:=by omega
  simp [l0U,o0a,h0,b0,h1,h1',h2,h2']
 have h2':p.n≤60:=by omega
 by_cases h3:60 < p.A.length
 ·have h3':¬ p.A.length≤60:=by omega
  have h3'':(60:Int) < (p.A.length:Int):=by omega
  simp [l0U,o0a,h0,b0,h1,h1',h2,h2',h3,h3',h3'',hA.slen]
 have h3':p.A.length≤60:=by omega
 have h3'':¬ (60:Int) < (p.A.length:Int):=by omega
 by_cases h4:p.B.length=p.A.length
 case neg =>
  have h4':¬ (p.B.length:Int)=(p.A.length:Int):=by omega
  simp [l0U,o0a,h0,b0,h1,h1',h2,h2',h3,h3',h3'',h4,h4',hA.slen,hB.slen]
 have h4':(p.B.length:Int)=(p.A.length:Int):=by omega
 by_cases h5:(p.C.length:Int)=p.n
 case neg =>
  simp [l0U,o0a,h0,b0,h1,h1',h2,h2',h3,h3',h3'',h4,h4',h5,hA.slen,hB.slen,hC.slen]
 simp [l0U,N0b,h0,b0,h1,h1',h2,h2',h3,h3',h3'',h4,h4',h5,hA.slen,hB.slen,hC.slen]
 refine (i0b (p:=fun r=>!decide ((r.length:Int)=p.n)) (c:=.pointer (some ⟨H.size,0,none⟩)) (fun G=>a0e.blk G H.size=.row false b0G [.int .i64 p.n,sA,sB,sC]) (fun _ _ hx h=>hx.blk h) b0 (hA.mono c0N hx) hx.1 (by omega)
  (fun fl G v e hb hf hl=>l0c hl hb hf)).mono ?_
 rintro _ G2 ⟨rfl,hx2⟩
 simp
theorem e0Y {S:Nat} {l:List b0e} (hv:b0n H v l) (hf:fl≤H.size) (hfw:Few S l) (hS:S < 67108864) (hl:l.length < 1073741824) :
  a0S env fl w0C [v] H (fun r H'=>b0a PR H.size H' a0b 4 r (h0t l)∧Ext H H') R:=by
 refine a0g Y0C hf (h:=?_)
 intro ρ h0
 have w1:IntKind.i64.wrap ((l.length:Int) + 1)=(l.length:Int) + 1:=a0T (by omega) (by omega)
 have hm:=W0f (bytes:=64) (k:=.i64) (k':=.i64) (l:=0) (c:=(l.length:Int) + 1) (by omega) (by omega) (by omega) (by omega)
 simp [I0t,B0g,B0h,B0i,h0,hv.slen,w1,hm]
 refine c0I (n:=l.length) (fun i ρ G=>ρ 10=v∧Ext H G∧b0a PR H.size G a0b 4 (ρ 3) ((h0t l).take i))
  rfl rfl (by decide) (by omega) (by simp) (by simp) ?_ ?_ ?_ ?_
 ·refine ⟨by simp [h0],(Ext.refl H).push,?_⟩
  simp
  exact ⟨[],Own.mk a0v rfl (b1S _),fun k hk=>by simp at hk⟩
 ·intro i ρ ρ' G h hI;simpa [h] using hI
 ·clear h0 ρ
  rintro i ρ G hi gi gn ⟨g6,hx,ho⟩
  obtain ⟨s,g3⟩:∃ s,ρ 3=s:=⟨_,rfl⟩
  rw [g3] at ho
  have kv:=hv.mono a0H hx
  obtain ⟨x,hlx,k0⟩:=b0n.load kv hi
  obtain ⟨s1,s2,rfl,k1,k2⟩:=id k0
  have hf2:=hfw _ (c1a hi)
  have hsz:=hx.1
  simp [B0j,g6,gi,kv.ia hi,hlx,k1.cells,k1.plain,k2.cells,k2.plain,hsz]
  generalize hN:Array.setIfInBounds (Array.push _ _) _ _=G3
  obtain ⟨hx2,b1⟩:=new1 hN
  clear hN
  replace hx:=hx.trans hx2;replace k0:=k0.mono hx2
  replace ho:=ho.mono a0H hx2
  simp [B0k,b1]
  refine (b0D k0 (b:=c0m) e0E hx.1 (by omega) (by decide)).mono ?_
  rintro _ G2 ⟨⟨s3,s4,rfl,k3,k4⟩,hx2⟩
  replace hx:=hx.trans hx2
  replace ho:=ho.mono a0H hx2
  rw [e0H,d1U] at k3 k4 ⊢
  obtain ⟨s',G4,h1,h2,h3,h4⟩:=b0a.app (P:=PR) (sz:=4) (e:=a0b) (by decide) (fun G' cs x _ hl h=>b0O.lx h hl) ho (e2:=a0b) (c:=1) (bytes:=64) (new:=[.bool (a0f (b0A l[i])).1.1,s3,.bool (a0f (b0A l[i])).2.1,s4]) (x:=a0f (b0A l[i])) ⟨s3,s4,rfl,k3,k4⟩ rfl (by simp [k3.plain,k4.plain]) (by simp;omega) (by omega) (by omega) hx.1
  simp [g3,k3.cells,k4.cells,h1]
  exact Rnd.mk (by simp [gi]) (by simp [gn]) ⟨by simp [g6],h4 _ (b1S _) hx,b0a.cast (v':=s') (by simp) (by unfold h0t;rw [p0Z hi];exact h2)⟩
 ·clear h0 ρ
  rintro ρ G gi gn ⟨g6,hx,ho⟩
  obtain ⟨s,g3⟩:∃ s,ρ 3=s:=⟨_,rfl⟩
  rw [g3] at ho
  rw [c1f (by simp [h0t])] at ho
  simp [B0l,g3]
  exact fun _=>ho
def PI (H:a0e) (cs:List Value) (z:Int):Prop:=b0r H (.agg cs.toArray) (a0m z)
theorem d0c:h0J PI:=fun _ _ _ _ hx h=>b0r.mono h hx
theorem b0r.lx {i:Bool × List Nat} (h:b0r H v i) (hx:Lx H G):b0r G v i:=by obtain ⟨s,h1,h2⟩:=h;exact ⟨s,h1,h2.lx hx⟩
theorem Q0s {G3:a0e} {z1 z2 r1 r2:Blk} (hN:Array.setIfInBounds (Array.setIfInBounds (Array.push (Array.push G z1) z2) G.size r1) (G.size + 1) r2=G3):Ext G G3∧a0e.blk G3 G.size=r1∧a0e.blk G3 (G.size + 1)=r2:=by
 rw [← hN];exact new2
theorem b0a.store {α:Type} {Q:a0e→List Value→α→Prop} {fl e sz:Nat} {v:Value} {l:List α} {j:Nat} {x:α} {w:Value} (h:b0a Q fl G e sz v l) (hj:j < l.length) (hs:0 < sz) (hw:(a0R w).length=sz) (hp:(a0R w).all a0q=true)
  (hx:∀ G',c0Z (slB v) G G'→Lx G G'→Q G' (a0R w) x) (he:e ≠ a0l) (hO:∀ G' cs y,c0Z (slB v) G G'→Lx G G'→Q G cs y→Q G' cs y) :
  ∃ G',e0Z fl G sz (adr sz v j) w=some G'∧b0a Q fl G' e sz v (l.set j x)∧c0Z (slB v) G G':=by
 obtain ⟨cs,⟨hl,⟨rfl,h0⟩ | ⟨b,cap,rfl,hb,hf⟩⟩,h2⟩:=id h
 ·omega
 have hj2:(j + 1) * sz≤l.length * sz:=b1Z _ hj
 rw [c1i,c1H] at hj2
 have hst:=t0V (fl:=fl) (b:=b) (o:=0 + j * sz) (n:=sz) (x:=w) hb hf hw (by omega) hp
 have hwe:=g0Y (a0R w) cs (0 + j * sz) (by rw [hw];omega)
 have hwl:=c0n (a0R w) cs (0 + j * sz)
 generalize b0s cs (0 + j * sz) (a0R w)=cs' at *
 have hxb:c0Z (slB (.slice (some ⟨b,0,none⟩) l.length cap)) G (G.setIfInBounds b (.row false e cs')):=c0Z.refl.set
 have hlx:=b0a.lx h he hxb
 refine ⟨_,hst,⟨cs',⟨by rw [hwl,hl,List.length_set],.inr ⟨b,cap,by rw [List.length_set],by rw [a0I (a0j hb)],hf⟩⟩,fun k hk=>?_⟩,hxb⟩
 rw [List.length_set] at hk
 have hk2:(k + 1) * sz≤l.length * sz:=b1Z _ hk
 rw [c1i,c1H] at hk2
 rw [c1y,hw] at hwe
 by_cases hkj:k=j
 ·subst hkj
  have key:(cs'.drop (k * sz)).take sz=a0R w:=by
   rw [hwe,d1K,List.drop_left' (by simp;omega),List.take_left' hw]
  rw [List.getElem_set_self,key]
  exact hx _ hxb hlx
 ·rw [e1C (by omega)]
  have key:(cs'.drop (k * sz)).take sz=(cs.drop (k * sz)).take sz:=by
   rw [hwe]
   apply d1S
   intro i
   by_cases hi:i < sz
   ·rw [c1Y,b1W hi,c1Y,b1W hi,d1e,d1e]
    by_cases hlt:k < j
    ·have:(k + 1) * sz≤j * sz:=b1Z _ hlt
     rw [c1i,c1H] at this
     rw [d1K,c1D (by simp;omega),c1Y,b1W (by omega)]
    ·have:(j + 1) * sz≤k * sz:=b1Z _ (by omega)
     rw [c1i,c1H] at this
     rw [c1K (by simp [hw];omega),d1e]
     congr 1
     simp [hw];omega
   ·rw [c1Y,b1T hi,c1Y,b1T hi]
  rw [key];exact hO _ _ _ hxb hlx (h2 k hk)
structure Whole (xs:List Rat) (zs:List Int) (by':Rat) (K:Nat):Prop where
 len:zs.length=xs.length
 pos:0 < by'
 eq:∀ i (h:i < xs.length),((zs[i]'(by omega):Int):Rat)=xs[i] * by'
 szz:∀ z ∈ zs,lz z≤K
 szb:szR by'≤K
def x0Y (H:a0e) (P:Nat) (v:Value) (xs:List Rat) (S:Nat) (i:Nat) (ρ:Nat→Value) (G:a0e):Prop :=
 ρ 0=v∧ρ 22=v∧ρ 3=.pointer (some ⟨H.size,0,none⟩)∧ρ 4=.pointer (some ⟨P,0,none⟩)∧Ext H G ∧
  a0e.blk G H.size=.row false a0b [.bool false,.slice none 0 0,.bool false,.slice none 0 0] ∧
  ∃ (m:Nat) (s:Value),0 < m∧a0e.blk G P=.row false a0a [.bool false,s]∧Lim G s (a0K m)∧(∀ k (h:k < xs.length),k < i→xs[k].den ∣ m)∧lz m≤1 + i * S
theorem w0g (a b:Nat):((a:Int).tdiv (b:Int))=((a / b:Nat):Int):=by rw [d1i (by omega)];rfl
theorem Q0k (m q:Nat) (hm:0 < m) (hq:0 < q):m ∣ m * (q / Nat.gcd m q)∧q ∣ m * (q / Nat.gcd m q)∧0 < m * (q / Nat.gcd m q)∧q / Nat.gcd m q≤q:=by
 have hg:=Nat.gcd_pos_of_pos_left q hm
 refine ⟨Nat.dvd_mul_right _ _,?_,Nat.mul_pos hm (Nat.div_pos (Nat.le_of_dvd hq (Nat.gcd_dvd_right m q)) hg),d1w _ _⟩
 obtain ⟨c,hc⟩:=Nat.gcd_dvd_left m q
 have h1:Nat.gcd m q * (q / Nat.gcd m q)=q:=Nat.mul_div_cancel' (Nat.gcd_dvd_right m q)
 refine ⟨c,?_⟩
 calc m * (q / Nat.gcd m q)=(Nat.gcd m q * c) * (q / Nat.gcd m q):=by rw [← hc]
  _=(Nat.gcd m q * (q / Nat.gcd m q)) * c:=by grind
  _=q * c:=by rw [h1]
def m0T (xs:List Rat) (m:Nat):List Int:=xs.map fun x=>x.num * ((m / x.den:Nat):Int)
def x0Z (H:a0e) (P P2:Nat) (v:Value) (xs:List Rat) (m K:Nat) (s:Value) (i:Nat) (ρ:Nat→Value) (G:a0e):Prop :=
 ρ 44=v∧ρ 3=.pointer (some ⟨H.size,0,none⟩)∧ρ 4=.pointer (some ⟨P,0,none⟩)∧ρ 11=.pointer (some ⟨P2,0,none⟩)∧Ext H G ∧
  a0e.blk G H.size=.row false a0b [.bool false,.slice none 0 0,.bool false,.slice none 0 0]∧a0e.blk G P=.row false a0a [.bool false,s]∧Lim G s (a0K m) ∧
  slB (ρ 10) ≠ some P∧slB (ρ 10) ≠ some P2 ∧
  ∃ (g:Nat) (sg:Value),a0e.blk G P2=.row false a0a [.bool false,sg]∧Lim G sg (a0K g)∧b0a PI H.size G a0a 2 (ρ 10) ((m0T xs m).take i) ∧
   (∀ k (h:k < xs.length),k < i→(g:Int) ∣ (m0T xs m).getD k 0)∧lz g≤K∧(i=0→g=0)
def o0n (H:a0e) (P P2:Nat) (so:Value) (xs:List Rat) (m g:Nat) (s sg:Value) (i:Nat) (ρ:Nat→Value) (G:a0e):Prop :=
 ρ 10=so∧ρ 3=.pointer (some ⟨H.size,0,none⟩)∧ρ 4=.pointer (some ⟨P,0,none⟩)∧ρ 11=.pointer (some ⟨P2,0,none⟩)∧Ext H G ∧
  a0e.blk G H.size=.row false a0b [.bool false,.slice none 0 0,.bool false,.slice none 0 0]∧a0e.blk G P=.row false a0a [.bool false,s]∧Lim G s (a0K m) ∧
  a0e.blk G P2=.row false a0a [.bool false,sg]∧Lim G sg (a0K g) ∧
  ∃ L:List Int,b0a PI H.size G a0a 2 so L∧L.length=xs.length∧∀ k,k < xs.length→L.getD k 0=if k < i then (m0T xs m).getD k 0 / (g:Int) else (m0T xs m).getD k 0
theorem OwnsI.load {fl:Nat} {l:List Int} (h:b0a PI fl H a0a 2 v l) {j:Nat} (hj:j < l.length):∃ w,b0q H true 2 (adr 2 v j)=some w∧b0r H w (a0m l[j]):=by
 obtain ⟨cs,h1,_,h3⟩:=Sls.load h.sls hj (by omega);exact ⟨_,h1,h3⟩
theorem J0W {z:Int} {g:Nat} (h:(g:Int) ∣ z):lz (z / (g:Int))≤lz z:=by
 refine s0A ?_
 rw [Int.natAbs_ediv_of_dvd h]
 exact d1w _ _
theorem w0j {x:Rat} {m g:Nat} (hm:x.den ∣ m) (hm0:0 < m) (hg:0 < g) (hd:(g:Int) ∣ x.num * ((m / x.den:Nat):Int)) :
  ((x.num * ((m / x.den:Nat):Int) / (g:Int):Int):Rat)=x * Rat.divInt (m:Int) (g:Int):=by
 obtain ⟨c,rfl⟩:=hm
 have hdp:=x.den_pos
 rw [Nat.mul_div_cancel_left _ hdp] at hd ⊢
 obtain ⟨z,hz⟩:=hd
 have hg0:(g:Int) ≠ 0:=by omega
 rw [hz,Int.mul_ediv_cancel_left _ hg0]
 conv=>rhs;lhs;rw [← e1J x]
 rw [Rat.divInt_mul_divInt]
 have h1:((z:Int):Rat)=Rat.divInt z 1:=by
  have:=e1J (z:Rat)
  rw [e1q,e1o] at this;exact this.symm
 rw [h1,Rat.divInt_eq_divInt_iff (by omega) (Int.mul_ne_zero (by omega) hg0)]
 rw [d1t,Int.mul_one]
 have:x.num * ((x.den:Int) * (c:Int))=(x.den:Int) * (x.num * c):=by grind
 rw [this,hz];grind
theorem n0b {m g:Nat} (hm:0 < m) (hg:0 < g):0 < Rat.divInt (m:Int) (g:Int):=by
 have h1:Rat.divInt (m:Int) (g:Int)=(m:Rat) * (g:Rat)⁻¹:=by rw [← e1M];exact e1r _ _
 rw [h1]
 exact e1E (Rat.natCast_pos.2 hm) (Rat.inv_pos.2 (Rat.natCast_pos.2 hg))
theorem g0a {S:Nat} {xs:List Rat} (hv:b0n H v (xs.map a0f)) (hf:fl≤H.size) (hS:∀ x ∈ xs,szR x≤S) (hK:(xs.length + 2) * (S + 1) < 67108864) :
  a0S env fl w0B [v] H (fun r H'=>(∃ q1 q2 by' zs,r=.tuple #[q1,q2]∧Whole xs zs by' ((xs.length + 2) * (S + 1))∧b0a PI H.size H' a0a 2 q1 zs∧b0O H' q2 (a0f by'))∧Ext H H') R:=by
 refine a0g Y0B hf (h:=?_)
 intro ρ h0
 have hxl:xs.length < 67108864:=by
  have:(xs.length + 2) * 1≤(xs.length + 2) * (S + 1):=c1v _ (by omega)
  omega
 have hvl:=hv.slen
 rw [d1f] at hvl
 simp [I0s,A0Y,h0]
 generalize hG:Array.push H _=G
 obtain ⟨hx2,b0⟩:=h0Z hG
 have hx:=Ext.refl H
 clear hG
 replace hx:=hx.trans hx2
 simp [A0Z]
 refine (c0f (n:=1) hx.1 (by omega) (by omega)).mono ?_
 rintro _ G2 ⟨⟨s1,rfl,k0⟩,hx2⟩
 replace b0:=hx2.blk b0;replace hx:=hx.trans hx2
 have hsz:=hx.1
 simp [h0,k0.cells,k0.plain,hsz]
 generalize hN:Array.setIfInBounds (Array.push _ _) _ _=G3
 obtain ⟨hx2,b1⟩:=new1 hN
 have hb0l:=a0j b0
 clear hN
 replace b0:=hx2.blk b0;replace hx:=hx.trans hx2;replace k0:=k0.mono hx2
 obtain ⟨P,hP⟩:∃ P,P=G2.size:=⟨_,rfl⟩
 rw [← hP] at b1 hsz hb0l ⊢
 simp [B0a,h0,hvl]
 have h1c:a0m 1=(false,a0K 1):=a0p 1
 rw [h1c] at b1 k0
 refine c0I (n:=xs.length) (x0Y H P v xs S) rfl rfl (by decide) (by omega) (by simp) (by simp) ?_ ?_ ?_ ?_
 ·exact ⟨by simp [h0],by simp [h0],by simp,by simp,hx,b0,1,s1,by omega,b1,k0,fun k _ hk=>by omega,by rw [show ((1:Nat):Int)=1 from rfl,f0X];omega⟩
 ·intro i ρ ρ' G h hI;simpa [x0Y,h] using hI
 ·clear h0 ρ hx b0 b1 k0 hx2
  rintro i ρ G hi gi gn ⟨g0,g22,g3,g4,hx,b0,m,s,hm0,b1,k0,hdv,hlm⟩
  have kv:=hv.mono a0H hx
  have hil:i < (xs.map a0f).length:=by simpa using hi
  obtain ⟨x,hlx,k1⟩:=b0n.load kv hil
  rw [c1J] at k1
  obtain ⟨s1,s2,rfl,k2,k3⟩:=id k1
  have hsx:=hS _ (c1a hi)
  have hsz:=hx.1
  have hden:=xs[i].den_pos
  simp [B0b,g22,gi,kv.ia hil,hlx,k2.cells,k2.plain,k3.cells,k3.plain,hsz]
  generalize hN:Array.setIfInBounds (Array.push _ _) _ _=G3
  obtain ⟨hx2,b2⟩:=new1 hN
  clear hN
  replace b0:=hx2.blk b0;replace b1:=hx2.blk b1;replace hx:=hx.trans hx2;replace k0:=k0.mono hx2;replace k1:=k1.mono hx2;replace k2:=k2.mono hx2;replace k3:=k3.mono hx2
  have e2:(a0f xs[i]).2=a0m ((xs[i].den:Nat):Int):=rfl
  rw [e2] at k3 b2
  have k4:b0r G3 (.agg #[.bool false,s]) (a0m (m:Int)):=⟨s,by rw [a0p],by rw [a0p];exact k0⟩
  have k5:b0r G3 (.agg #[.bool (a0m ((xs[i].den:Nat):Int)).1,s2]) (a0m ((xs[i].den:Nat):Int)):=⟨s2,rfl,k3⟩
  have hld:=g0T xs[i]
  have hiS:i * S≤xs.length * S:=b1Z _ (by omega)
  have hKe:(xs.length + 2) * (S + 1)=xs.length * S + xs.length + 2 * S + 2:=by grind
  refine a0F ?_
  simp [B0c,g4,b1,b2]
  refine (e0R k4 k5 (by have:=hx.1;omega) (by rw [a0n];omega) (by rw [a0n];omega)).mono ?_
  rintro _ G4 ⟨k6,hx2⟩
  replace b0:=hx2.blk b0;replace b1:=hx2.blk b1;replace b2:=hx2.blk b2;replace hx:=hx.trans hx2;replace k0:=k0.mono hx2;replace k1:=k1.mono hx2;replace k2:=k2.mono hx2;replace k3:=k3.mono hx2;replace k4:=k4.mono hx2;replace k5:=k5.mono hx2
  rw [a0k,a0k] at k6
  simp
  have hgg:Int.gcd (m:Int) (xs[i].den:Int)=Nat.gcd m xs[i].den:=rfl
  rw [hgg] at k6
  have hgp:=Nat.gcd_pos_of_pos_left xs[i].den hm0
  have hlg:lz (Nat.gcd m xs[i].den:Int)≤lz m:=b0o (Nat.gcd_le_left _ hm0)
  refine (b0M k5 k6 (by have:=hx.1;omega) (by rw [a0n];omega) (by rw [a0n];omega) (by rw [a0k];omega)).mono ?_
  rintro _ G4 ⟨⟨_,_,rfl,⟨s3,rfl,k7⟩,⟨s4,rfl,k8⟩⟩,hx2⟩
  replace b0:=hx2.blk b0;replace b1:=hx2.blk b1;replace b2:=hx2.blk b2;replace hx:=hx.trans hx2;replace k0:=k0.mono hx2;replace k1:=k1.mono hx2;replace k2:=k2.mono hx2;replace k3:=k3.mono hx2;replace k4:=k4.mono hx2;replace k5:=k5.mono hx2;replace k6:=k6.mono hx2
  rw [a0k,a0k,w0g] at k7 ⊢
  rw [a0k,a0k] at k8
  have hsz:=hx.1
  have hsz1:H.size≤G4.size + 1:=by omega
  simp [k7.cells,k7.plain,k8.cells,k8.plain,hsz,hsz1]
  generalize hN:Array.setIfInBounds (Array.setIfInBounds (Array.push (Array.push _ _) _) _ _) _ _=G5
  obtain ⟨hx2,b3,_⟩:=Q0s hN
  clear hN
  replace b0:=hx2.blk b0;replace b1:=hx2.blk b1;replace b2:=hx2.blk b2;replace hx:=hx.trans hx2;replace k0:=k0.mono hx2;replace k1:=k1.mono hx2;replace k2:=k2.mono hx2;replace k3:=k3.mono hx2;replace k4:=k4.mono hx2;replace k5:=k5.mono hx2;replace k6:=k6.mono hx2;replace k7:=k7.mono hx2;replace k8:=k8.mono hx2
  simp [B0d,g4,b1,b3]
  obtain ⟨hl1,hl2,hl3,hl4⟩:=Q0k m xs[i].den hm0 hden
  have hlq:lz ((xs[i].den / Nat.gcd m xs[i].den:Nat):Int)≤lz (xs[i].den:Int):=b0o hl4
  refine (b0y k4 (j:=a0m ((xs[i].den / Nat.gcd m xs[i].den:Nat):Int)) ⟨s3,rfl,k7⟩ hx.1 (by rw [a0n];omega) (by rw [a0n];omega)).mono ?_
  rintro _ G6 ⟨⟨s5,rfl,k8⟩,hx2⟩
  replace b0:=hx2.blk b0;replace b1:=hx2.blk b1;replace b2:=hx2.blk b2;replace b3:=hx2.blk b3;replace hx:=hx.trans hx2;replace k0:=k0.mono hx2;replace k1:=k1.mono hx2;replace k2:=k2.mono hx2;replace k3:=k3.mono hx2;replace k4:=k4.mono hx2;replace k5:=k5.mono hx2;replace k6:=k6.mono hx2;replace k7:=k7.mono hx2
  rw [a0k,a0k,← d1t,a0p] at k8 ⊢
  have hPs:H.size≤P:=by assumption
  simp [g4,b1,k8.cells,k8.plain,hPs]
  generalize hS':Array.setIfInBounds _ _ _=G7
  have hne:P ≠ H.size:=by omega
  have hx':=b0I hS' hx hPs
  have b0':=a0z hS' b0 hne
  have k8':=k8.setS hS' b1 (by decide)
  have b1':=a0M hS' b1
  have hlm2:=d0b (m:Int) ((xs[i].den / Nat.gcd m xs[i].den:Nat):Int)
  refine Rnd.mk (by simp [gi]) (by simp [gn]) ⟨by simp [g0],by simp [g22],by simp [g3],by simp [g4],hx',b0',m * (xs[i].den / Nat.gcd m xs[i].den),s5,hl3,b1',k8',fun k h hk=>?_,?_⟩
  ·by_cases hki:k=i
   ·subst hki;exact hl2
   ·exact Nat.dvd_trans (hdv k h (by omega)) hl1
  ·rw [d1t,c1i,c1H];omega
 ·clear h0 ρ hx b0 b1 k0 hx2
  rintro ρ G gi gn ⟨g0,g22,g3,g4,hx,b0,m,s,hm0,b1,k0,hdv,hlm⟩
  have hPs:H.size≤P:=by assumption
  have hKe:(xs.length + 2) * (S + 1)=xs.length * S + xs.length + 2 * S + 2:=by grind
  have hK2:(xs.length + 1) * (S + 1)≤(xs.length + 2) * (S + 1):=b1Z _ (by omega)
  have hsz:=hx.1
  have hb1l:=a0j b1
  simp [B0e,B0f,hsz]
  generalize hN:Array.setIfInBounds (Array.push _ _) _ _=G3
  obtain ⟨hx2,b2⟩:=new1 hN
  clear hN
  replace b0:=hx2.blk b0;replace b1:=hx2.blk b1;replace hx:=hx.trans hx2;replace k0:=k0.mono hx2
  obtain ⟨P2,hP2⟩:∃ P2,P2=G.size:=⟨_,rfl⟩
  rw [← hP2] at b2 hsz hb1l ⊢
  simp [v0p,g0,hvl]
  refine c0I (n:=xs.length) (x0Z H P P2 v xs m ((xs.length + 1) * (S + 1)) s) rfl rfl (by decide) (by omega) (by simp) (by simp) ?_ ?_ ?_ ?_
  ·exact ⟨by simp [g0],by simp [g3],by simp [g4],by simp,hx,b0,b1,k0,by simp [slB],by simp [slB],0,_,b2,by rw [b0p];exact Lim.nil,by simpa using b0a.nil,fun k _ hk=>by omega,by rw [show ((0:Nat):Int)=0 from rfl,c0x];omega,fun _=>rfl⟩
  ·intro i ρ ρ' G h hI;simpa [x0Z,h] using hI
  ·clear g0 g22 g3 g4 gi gn hx b0 b1 b2 k0 hx2 ρ
   rintro i ρ G hi gi gn ⟨g44,g3,g4,g11,hx,b0,b1,k0,ns1,ns2,g,sg,b2,k1,ho,hdg,hlg,hg0⟩
   obtain ⟨so,g10⟩:∃ so,ρ 10=so:=⟨_,rfl⟩
   rw [g10] at ns1 ns2 ho
   have kv:=hv.mono a0H hx
   have hil:i < (xs.map a0f).length:=by simpa using hi
   obtain ⟨x,hlx,k2⟩:=b0n.load kv hil
   rw [c1J] at k2
   obtain ⟨s1,s2,rfl,k3,k4⟩:=k2
   have hsx:=hS _ (c1a hi)
   have hsz:=hx.1
   have hden:=xs[i].den_pos
   have hln:=f0e xs[i]
   have hld:=g0T xs[i]
   have hyl:i < (m0T xs m).length:=by simpa [m0T] using hi
   have hyi:(m0T xs m)[i]=xs[i].num * ((m / xs[i].den:Nat):Int):=by simp [m0T]
   have hyd:(m0T xs m).getD i 0=xs[i].num * ((m / xs[i].den:Nat):Int):=by rw [b1Q,b1V hyl,← hyi];rfl
   obtain ⟨y,hy⟩:∃ y,y=xs[i].num * ((m / xs[i].den:Nat):Int):=⟨_,rfl⟩
   have hly:lz y≤(xs.length + 1) * (S + 1):=by
    have h1:=d0b xs[i].num ((m / xs[i].den:Nat):Int)
    have h2:lz ((m / xs[i].den:Nat):Int)≤lz m:=b0o (d1w _ _)
    have h3:(xs.length + 1) * (S + 1)=xs.length * S + xs.length + S + 1:=by grind
    rw [hy];omega
   simp [v0q,g44,gi,kv.ia hil,hlx,k3.cells,k3.plain,k4.cells,k4.plain,hsz]
   generalize hN:Array.setIfInBounds (Array.push _ _) _ _=G3
   obtain ⟨hx2,b3⟩:=new1 hN
   clear hN
   replace b0:=hx2.blk b0;replace b1:=hx2.blk b1;replace b2:=hx2.blk b2;replace hx:=hx.trans hx2;replace k0:=k0.mono hx2;replace k1:=k1.mono hx2;replace k3:=k3.mono hx2;replace k4:=k4.mono hx2
   replace ho:=ho.mono d0c hx2
   have e2:(a0f xs[i]).2=a0m ((xs[i].den:Nat):Int):=rfl
   have e1:(a0f xs[i]).1=a0m xs[i].num:=rfl
   rw [e1] at k3
   rw [e2] at k4
   rw [e1,e2] at b3
   simp [v0r,g4,b1,b3]
   refine (b0M (i:=a0m (m:Int)) (j:=a0m ((xs[i].den:Nat):Int)) ⟨s,by rw [a0p],by rw [a0p];exact k0⟩ ⟨s2,rfl,k4⟩ hx.1 (by rw [a0n];omega) (by rw [a0n];omega) (by rw [a0k];omega)).mono ?_
   rintro _ G4 ⟨⟨_,_,rfl,⟨s3,rfl,k5⟩,⟨s4,rfl,k6⟩⟩,hx2⟩
   replace b0:=hx2.blk b0;replace b1:=hx2.blk b1;replace b2:=hx2.blk b2;replace b3:=hx2.blk b3;replace hx:=hx.trans hx2;replace k0:=k0.mono hx2;replace k1:=k1.mono hx2;replace k3:=k3.mono hx2
   replace ho:=ho.mono d0c hx2
   rw [a0k,a0k,w0g] at k5 ⊢
   rw [a0k,a0k] at k6
   have hsz:=hx.1
   have hsz1:H.size≤G4.size + 1:=by omega
   simp [k5.cells,k5.plain,k6.cells,k6.plain,hsz,hsz1]
   generalize hN:Array.setIfInBounds (Array.setIfInBounds (Array.push (Array.push _ _) _) _ _) _ _=G5
   obtain ⟨hx2,b4,_⟩:=Q0s hN
   clear hN
   replace b0:=hx2.blk b0;replace b1:=hx2.blk b1;replace b2:=hx2.blk b2;replace b3:=hx2.blk b3;replace hx:=hx.trans hx2;replace k0:=k0.mono hx2;replace k1:=k1.mono hx2;replace k3:=k3.mono hx2;replace k5:=k5.mono hx2;replace k6:=k6.mono hx2
   replace ho:=ho.mono d0c hx2
   have hlq:lz ((m / xs[i].den:Nat):Int)≤lz m:=b0o (d1w _ _)
   simp [v0s,b3,b4]
   refine (b0y (i:=a0m xs[i].num) (j:=a0m ((m / xs[i].den:Nat):Int)) ⟨s1,rfl,k3⟩ ⟨s3,rfl,k5⟩ hx.1 (by rw [a0n];omega) (by rw [a0n];omega)).mono ?_
   rintro _ G6 ⟨⟨s5,rfl,k7⟩,hx2⟩
   replace b0:=hx2.blk b0;replace b1:=hx2.blk b1;replace b2:=hx2.blk b2;replace b3:=hx2.blk b3;replace b4:=hx2.blk b4;replace hx:=hx.trans hx2;replace k0:=k0.mono hx2;replace k1:=k1.mono hx2;replace k3:=k3.mono hx2;replace k5:=k5.mono hx2;replace k6:=k6.mono hx2
   replace ho:=ho.mono d0c hx2
   rw [a0k,a0k,← hy] at k7 ⊢
   have hsz:=hx.1
   have hso:∀ b,slB so=some b→b < G6.size:=fun b h=>(ho.ge h).2
   simp [k7.cells,k7.plain,hsz]
   generalize hN:Array.setIfInBounds (Array.push _ _) _ _=G7
   obtain ⟨hx2,b5⟩:=new1 hN
   clear hN b3 b4
   replace b0:=hx2.blk b0;replace b1:=hx2.blk b1;replace b2:=hx2.blk b2;replace hx:=hx.trans hx2;replace k0:=k0.mono hx2;replace k1:=k1.mono hx2;replace k3:=k3.mono hx2;replace k5:=k5.mono hx2;replace k6:=k6.mono hx2;replace k7:=k7.mono hx2
   replace ho:=ho.mono d0c hx2
   obtain ⟨Y,hY⟩:∃ Y,Y=G6.size:=⟨_,rfl⟩
   rw [← hY] at b5 hso ⊢
   have ns3:slB so ≠ some Y:=fun h=>by have:=hso _ h;omega
   have ns0:=ho.ne b0 (by decide)
   obtain ⟨so',G8,h1,h2,h3,h4⟩:=b0a.app (P:=PI) (sz:=2) (e:=a0a) (by decide) (fun G' cs x _ hl h=>b0r.lx h hl) ho (e2:=a0a) (c:=1) (bytes:=32) (new:=[.bool (a0m y).1,s5]) (x:=y) ⟨s5,rfl,k7⟩ rfl (by simp [k7.plain]) (by simp;omega) (by omega) (by omega) hx.1
   obtain ⟨_,_,hfr⟩:=e0d (by decide) h1
   have hfs:slB so' = some (G7.size + 1):=by rw [hfr];simp [slB]
   simp [v0t,g10,b5,k7.cells,h1]
   have hlx8:=ho.lx (by decide) h3
   have hP1l:=a0j b1
   have hP2l:=a0j b2
   replace b0:=(h3.2 _ (a0j b0) ns0).trans b0
   replace b1:=(h3.2 _ (a0j b1) ns1).trans b1
   replace b2:=(h3.2 _ (a0j b2) ns2).trans b2
   replace b5:=(h3.2 _ (a0j b5) ns3).trans b5
   replace hx:=h4 _ (b1S _) hx
   replace k0:=k0.lx hlx8
   replace k1:=k1.lx hlx8
   replace k7:=k7.lx hlx8
   simp [v0u,g11,b2,b5]
   refine (e0R (i:=a0m (g:Int)) (j:=a0m y) ⟨sg,by rw [a0p],by rw [a0p];exact k1⟩ ⟨s5,rfl,k7⟩ hx.1 (by rw [a0n];omega) (by rw [a0n];omega)).mono ?_
   rintro _ G9 ⟨⟨s6,rfl,k8⟩,hx2⟩
   replace b0:=hx2.blk b0;replace b1:=hx2.blk b1;replace b2:=hx2.blk b2;replace hx:=hx.trans hx2;replace k0:=k0.mono hx2;replace k1:=k1.mono hx2
   replace h2:=h2.mono d0c hx2
   rw [a0k,a0k,a0p] at k8 ⊢
   have hP2s:H.size≤P2:=by assumption
   simp [g11,b2,k8.cells,k8.plain,hP2s]
   generalize hS':Array.setIfInBounds _ _ _=G10
   have hxb:c0Z (some P2) G9 G10:=by rw [← hS'];exact c0Z.refl.set
   have hlx10:Lx G9 G10:=a0X hS' b2 (by decide)
   have hne:P2 ≠ H.size:=by omega
   have hne2:P2 ≠ P:=by omega
   refine Rnd.mk (by simp [gi]) (by simp [gn]) ⟨by simp [g44],by simp [g3],by simp [g4],by simp [g11],b0I hS' hx hP2s,a0z hS' b0 hne,a0z hS' b1 hne2,k0.lx hlx10,by simp [hfs];omega,by simp [hfs];omega,Int.gcd g y,s6,a0M hS' b2,k8.lx hlx10,?_,?_,?_,by omega⟩
   ·refine b0a.cast (v':=so') (by simp) ?_
    rw [c1k hyl,hyi,← hy]
    exact h2.off hxb (.inr (by rw [hfs];simp;omega)) (fun cs x h=>b0r.lx h hlx10)
   ·intro k h hk
    by_cases hki:k=i
    ·subst hki;rw [hyd,← hy];exact e1L ..
    ·exact Int.dvd_trans (Int.gcd_dvd_left ..) (hdg k h (by omega))
   ·by_cases hy0:y=0
    ·rw [hy0,Int.gcd_zero_right];exact hlg
    ·exact c1b (b0o (Int.gcd_le_natAbs_right _ hy0)) hly
  ·clear g0 g22 g3 g4 gi gn hx b0 b1 b2 k0 hx2 ρ
   rintro ρ G gi gn ⟨g44,g3,g4,g11,hx,b0,b1,k0,ns1,ns2,g,sg,b2,k1,ho,hdg,hlg,hg0⟩
   obtain ⟨so,g10⟩:∃ so,ρ 10=so:=⟨_,rfl⟩
   rw [g10] at ns1 ns2 ho
   have hyl:(m0T xs m).length=xs.length:=by simp [m0T]
   rw [c1f (by omega)] at ho
   have hv0:a0P (false,[])=0:=by unfold a0P l0e;simp [a0B]
   simp [v0v,g11,b2]
   refine (d0y (i:=a0m (g:Int)) (j:=(false,[])) ⟨sg,by rw [a0p],by rw [a0p];exact k1⟩ ⟨_,rfl,Lim.nil⟩ hx.1 (by rw [a0n];omega) (by simp)).mono ?_
   rintro _ G2 ⟨rfl,hx2⟩
   replace b0:=hx2.blk b0;replace b1:=hx2.blk b1;replace b2:=hx2.blk b2;replace hx:=hx.trans hx2;replace k0:=k0.mono hx2;replace k1:=k1.mono hx2
   replace ho:=ho.mono d0c hx2
   rw [hv0,a0k]
   have hP2s:H.size≤P2:=by assumption
   have hne:P2 ≠ H.size:=by omega
   have hne2:P2 ≠ P:=by omega
   by_cases hg:g=0
   ·have hcz:c0V (g:Int) 0=0:=by rw [hg];rfl
    simp [hcz,v0w]
    refine (c0f (n:=1) hx.1 (by omega) (by omega)).mono ?_
    rintro _ G2 ⟨⟨s6,rfl,k3⟩,hx2⟩
    replace b0:=hx2.blk b0;replace b1:=hx2.blk b1;replace b2:=hx2.blk b2;replace hx:=hx.trans hx2;replace k0:=k0.mono hx2;replace k1:=k1.mono hx2
    replace ho:=ho.mono d0c hx2
    have h1c:a0m 1=(false,a0K 1):=a0p 1
    rw [h1c] at k3 ⊢
    simp [g11,b2,k3.cells,k3.plain,hP2s]
    generalize hS':Array.setIfInBounds _ _ _=G3
    have hxb:c0Z (some P2) G2 G3:=by rw [← hS'];exact c0Z.refl.set
    have hlx3:Lx G2 G3:=a0X hS' b2 (by decide)
    replace ho:=ho.off hxb (.inr ns2) (fun cs x h=>b0r.lx h hlx3)
    replace hx:=b0I hS' hx hP2s
    replace b0:=a0z hS' b0 hne
    replace b1:=a0z hS' b1 hne2
    replace b2:=a0M hS' b2
    replace k0:=k0.lx hlx3
    clear k1
    have k1:=k3.lx hlx3
    obtain ⟨sg2,hs2⟩:∃ x,x=s6:=⟨_,rfl⟩
    rw [← hs2] at k1 b2
    obtain ⟨gg,hgg⟩:∃ gg:Nat,(gg=g∧0 < g) ∨ gg=1:=⟨1,.inr rfl⟩
    have hg1:(1:Nat)=gg:=by rcases hgg with ⟨h,h'⟩ | h <;> omega
    rw [hg1] at k1
    have hdg':∀ k,k < xs.length→(gg:Int) ∣ (m0T xs m).getD k 0:=fun k hk=>by
     rcases hgg with ⟨h,_⟩ | h
     ·rw [h];exact hdg k hk hk
     ·rw [h];exact Int.one_dvd _
    have hgp:0 < gg:=by rcases hgg with ⟨h,h'⟩ | h <;> omega
    have hK4:(xs.length + 1) * (S + 1)=xs.length * S + xs.length + S + 1:=by grind
    have hlgg:lz gg≤(xs.length + 1) * (S + 1):=by
     rcases hgg with ⟨h,_⟩ | h
     ·rw [h];exact hlg
     ·rw [h,show ((1:Nat):Int)=1 from rfl,f0X];omega
    have hly:∀ k (h:k < xs.length),lz (xs[k].num * ((m / xs[k].den:Nat):Int))≤(xs.length + 1) * (S + 1):=fun k hk=>by
     have h1:=d0b xs[k].num ((m / xs[k].den:Nat):Int)
     have h2:lz ((m / xs[k].den:Nat):Int)≤lz m:=b0o (d1w _ _)
     have h4:=f0e xs[k]
     have h5:=hS _ (c1a hk)
     omega
    have hyD:∀ k (h:k < xs.length),(m0T xs m).getD k 0=xs[k].num * ((m / xs[k].den:Nat):Int):=fun k hk=>by
     rw [b1Q,b1V (by omega)];simp [m0T]
    simp [p0p,g10,ho.slen,hyl]
    refine c0I (n:=xs.length) (o0n H P P2 so xs m gg s sg2) rfl rfl (by decide) (by omega) (by simp) (by simp) ?_ ?_ ?_ ?_
    ·exact ⟨by simp [g10],by simp [g3],by simp [g4],by simp [g11],hx,b0,b1,k0,b2,k1,m0T xs m,ho,hyl,fun k _=>by simp⟩
    ·intro i ρ ρ' G h hI;simpa [o0n,h] using hI
    ·clear g44 g3 g4 g11 g10 gi gn hx b0 b1 b2 k0 k1 ho hx2 ρ
     rintro i ρ G hi gi gn ⟨g10,g3,g4,g11,hx,b0,b1,k0,b2,k1,L,ho,hL,hLk⟩
     have hiL:i < L.length:=by omega
     have hLi:L[i]=(m0T xs m).getD i 0:=by
      have:=hLk i hi
      rw [b1T (by omega),b1Q,b1V hiL] at this;exact this
     obtain ⟨wi,hli,kwi⟩:=OwnsI.load ho hiL
     have hlz:lz L[i] < 67108864:=by
      have:=hly i hi
      rw [hLi,hyD i hi];omega
     simp [p0q,gi]
     refine a0F ?_
     simp [p0r,g10,g11,ho.sls.ia hiL,hli,b2]
     refine (b0M (j:=a0m (gg:Int)) kwi ⟨sg2,by rw [a0p],by rw [a0p];exact k1⟩ hx.1 (by rw [a0n];omega) (by rw [a0n];omega) (by rw [a0k];omega)).mono ?_
     rintro _ G4 ⟨⟨_,_,rfl,⟨s3,rfl,k5⟩,_⟩,hx2⟩
     replace b0:=hx2.blk b0;replace b1:=hx2.blk b1;replace b2:=hx2.blk b2;replace hx:=hx.trans hx2;replace k0:=k0.mono hx2;replace k1:=k1.mono hx2
     replace ho:=ho.mono d0c hx2
     have hdv2:(gg:Int) ∣ L[i]:=by rw [hLi];exact hdg' i hi
     rw [a0k,a0k,Int.tdiv_eq_ediv_of_dvd hdv2] at k5 ⊢
     have ns0:=ho.ne b0 (by decide)
     obtain ⟨G5,hst,ho2,hxb⟩:=b0a.store (j:=i) (x:=L[i] / (gg:Int)) (w:=.agg #[.bool (a0m (L[i] / (gg:Int))).1,s3]) ho hiL (by omega) rfl (by simp [k5.plain]) (fun G' _ hl=>⟨s3,rfl,k5.lx hl⟩) (by decide) (fun G' cs y _ hl h=>b0r.lx h hl)
     have hlx5:=ho.lx (by decide) hxb
     simp [g10,ho.sls.ia hiL,hst]
     have hx5:Ext H G5:=⟨c1b hx.1 hxb.1,fun b hb=>(hxb.2 b (c1m hb hx.1) (fun h=>by have:=(ho.ge h).1;omega)).trans (hx.2 b hb)⟩
     refine Rnd.mk (by simp [gi]) (by simp [gn]) ⟨by simp [g10],by simp [g3],by simp [g4],by simp [g11],hx5,(hxb.2 _ (a0j b0) ns0).trans b0,(hxb.2 _ (a0j b1) ns1).trans b1,k0.lx hlx5,(hxb.2 _ (a0j b2) ns2).trans b2,k1.lx hlx5,L.set i (L[i] / (gg:Int)),ho2,by simpa using hL,fun k hk=>?_⟩
     by_cases hki:k=i
     ·subst hki
      rw [b1W (by omega),b1Q,d1y hiL,c1u,hLi]
     ·rw [b1Q,List.getElem?_set_ne (by omega),← b1Q,hLk k hk]
      by_cases hlt:k < i
      ·rw [b1W hlt,b1W (by omega)]
      ·rw [b1T hlt,b1T (by omega)]
    ·clear g44 g3 g4 g11 g10 gi gn hx b0 b1 b2 k0 k1 ho hx2 ρ
     rintro ρ G gi gn ⟨g10,g3,g4,g11,hx,b0,b1,k0,b2,k1,L,ho,hL,hLk⟩
     simp [p0s,g4,g11,b1,b2]
     refine (d0z (i:=a0m (m:Int)) (j:=a0m (gg:Int)) ⟨s,by rw [a0p],by rw [a0p];exact k0⟩ ⟨sg2,by rw [a0p],by rw [a0p];exact k1⟩ hx.1 (by rw [a0n];omega) (by rw [a0n];omega) (by rw [a0k];omega)).mono ?_
     rintro _ G4 ⟨⟨_,rfl,s3,s4,rfl,k5,k6⟩,hx2⟩
     replace b0:=hx2.blk b0;replace b1:=hx2.blk b1;replace b2:=hx2.blk b2;replace hx:=hx.trans hx2;replace k0:=k0.mono hx2;replace k1:=k1.mono hx2
     replace ho:=ho.mono d0c hx2
     rw [a0k,a0k] at k5 k6 ⊢
     have hsz:=hx.1
     simp [k5.cells,k5.plain,k6.cells,k6.plain,hsz]
     generalize hN:Array.setIfInBounds (Array.push _ _) _ _=G5
     obtain ⟨hx2,b3⟩:=new1 hN
     clear hN
     replace b0:=hx2.blk b0;replace b1:=hx2.blk b1;replace b2:=hx2.blk b2;replace hx:=hx.trans hx2;replace k0:=k0.mono hx2;replace k1:=k1.mono hx2;replace k5:=k5.mono hx2;replace k6:=k6.mono hx2
     replace ho:=ho.mono d0c hx2
     refine a0F ?_
     have hz:=a0j b0
     simp [p0t,g3,g10,b0,b3,k5.cells,k5.plain,k6.cells,k6.plain,hz]
     generalize hS':Array.setIfInBounds _ _ _=G6
     refine fun _=>?_
     have hl6:Lx _ G6:=a0X hS' b0 (by decide)
     have hl7:LxT a0a _ G6:=a0X hS' b0 (by decide)
     refine ⟨so,_,⟨rfl,rfl⟩,Rat.divInt m gg,L,?_,ho.lxm hl7 (fun cs x h=>b0r.lx h hl6),s3,s4,rfl,k5.lx hl6,k6.lx hl6⟩
     have hLv:∀ k (h:k < xs.length),L[k]'(by omega)=xs[k].num * ((m / xs[k].den:Nat):Int) / (gg:Int)∧(gg:Int) ∣ xs[k].num * ((m / xs[k].den:Nat):Int):=by
      intro k hk
      have h1:=hLk k hk
      have h2:=hdg' k hk
      have h3:=hyD k hk
      rw [b1W hk,h3,b1Q,b1V (by omega)] at h1
      rw [h3] at h2
      exact ⟨h1,h2⟩
     refine ⟨hL,?_,fun k hk=>?_,fun z hz=>?_,?_⟩
     ·exact n0b hm0 hgp
     ·rw [(hLv k hk).1];exact w0j (hdv k hk hk) hm0 hgp (hLv k hk).2
     ·obtain ⟨k,hk,rfl⟩:=c1Z hz
      have hk':k < xs.length:=by omega
      have h1:=hly k hk'
      have h6:=J0W (hLv k hk').2
      rw [(hLv k hk').1]
      omega
     ·have:=b0K (m:Int) (gg:Int)
      omega
   ·have hcz:¬ c0V (g:Int) 0=0:=by unfold c0V;split;omega;split <;> omega
    simp [hcz]
    obtain ⟨sg2,hs2⟩:∃ x,x=sg:=⟨_,rfl⟩
    rw [← hs2] at k1 b2
    obtain ⟨gg,hgg1,hgg⟩:∃ gg:Nat,gg=g∧((gg=g∧0 < g) ∨ gg=1):=⟨g,rfl,.inl ⟨rfl,by omega⟩⟩
    have hg1:g=gg:=hgg1.symm
    rw [hg1] at k1
    have hdg':∀ k,k < xs.length→(gg:Int) ∣ (m0T xs m).getD k 0:=fun k hk=>by
     rcases hgg with ⟨h,_⟩ | h
     ·rw [h];exact hdg k hk hk
     ·rw [h];exact Int.one_dvd _
    have hgp:0 < gg:=by rcases hgg with ⟨h,h'⟩ | h <;> omega
    have hK4:(xs.length + 1) * (S + 1)=xs.length * S + xs.length + S + 1:=by grind
    have hlgg:lz gg≤(xs.length + 1) * (S + 1):=by
     rcases hgg with ⟨h,_⟩ | h
     ·rw [h];exact hlg
     ·rw [h,show ((1:Nat):Int)=1 from rfl,f0X];omega
    have hly:∀ k (h:k < xs.length),lz (xs[k].num * ((m / xs[k].den:Nat):Int))≤(xs.length + 1) * (S + 1):=fun k hk=>by
     have h1:=d0b xs[k].num ((m / xs[k].den:Nat):Int)
     have h2:lz ((m / xs[k].den:Nat):Int)≤lz m:=b0o (d1w _ _)
     have h4:=f0e xs[k]
     have h5:=hS _ (c1a hk)
     omega
    have hyD:∀ k (h:k < xs.length),(m0T xs m).getD k 0=xs[k].num * ((m / xs[k].den:Nat):Int):=fun k hk=>by
     rw [b1Q,b1V (by omega)];simp [m0T]
    simp [p0p,g10,ho.slen,hyl]
    refine c0I (n:=xs.length) (o0n H P P2 so xs m gg s sg2) rfl rfl (by decide) (by omega) (by simp) (by simp) ?_ ?_ ?_ ?_
    ·exact ⟨by simp [g10],by simp [g3],by simp [g4],by simp [g11],hx,b0,b1,k0,b2,k1,m0T xs m,ho,hyl,fun k _=>by simp⟩
    ·intro i ρ ρ' G h hI;simpa [o0n,h] using hI
    ·clear g44 g3 g4 g11 g10 gi gn hx b0 b1 b2 k0 k1 ho hx2 ρ
     rintro i ρ G hi gi gn ⟨g10,g3,g4,g11,hx,b0,b1,k0,b2,k1,L,ho,hL,hLk⟩
     have hiL:i < L.length:=by omega
     have hLi:L[i]=(m0T xs m).getD i 0:=by
      have:=hLk i hi
      rw [b1T (by omega),b1Q,b1V hiL] at this;exact this
     obtain ⟨wi,hli,kwi⟩:=OwnsI.load ho hiL
     have hlz:lz L[i] < 67108864:=by
      have:=hly i hi
      rw [hLi,hyD i hi];omega
     simp [p0q,gi]
     refine a0F ?_
     simp [p0r,g10,g11,ho.sls.ia hiL,hli,b2]
     refine (b0M (j:=a0m (gg:Int)) kwi ⟨sg2,by rw [a0p],by rw [a0p];exact k1⟩ hx.1 (by rw [a0n];omega) (by rw [a0n];omega) (by rw [a0k];omega)).mono ?_
     rintro _ G4 ⟨⟨_,_,rfl,⟨s3,rfl,k5⟩,_⟩,hx2⟩
     replace b0:=hx2.blk b0;replace b1:=hx2.blk b1;replace b2:=hx2.blk b2;replace hx:=hx.trans hx2;replace k0:=k0.mono hx2;replace k1:=k1.mono hx2
     replace ho:=ho.mono d0c hx2
     have hdv2:(gg:Int) ∣ L[i]:=by rw [hLi];exact hdg' i hi
     rw [a0k,a0k,Int.tdiv_eq_ediv_of_dvd hdv2] at k5 ⊢
     have ns0:=ho.ne b0 (by decide)
     obtain ⟨G5,hst,ho2,hxb⟩:=b0a.store (j:=i) (x:=L[i] / (gg:Int)) (w:=.agg #[.bool (a0m (L[i] / (gg:Int))).1,s3]) ho hiL (by omega) rfl (by simp [k5.plain]) (fun G' _ hl=>⟨s3,rfl,k5.lx hl⟩) (by decide) (fun G' cs y _ hl h=>b0r.lx h hl)
     have hlx5:=ho.lx (by decide) hxb
     simp [g10,ho.sls.ia hiL,hst]
     have hx5:Ext H G5:=⟨c1b hx.1 hxb.1,fun b hb=>(hxb.2 b (c1m hb hx.1) (fun h=>by have:=(ho.ge h).1;omega)).trans (hx.2 b hb)⟩
     refine Rnd.mk (by simp [gi]) (by simp [gn]) ⟨by simp [g10],by simp [g3],by simp [g4],by simp [g11],hx5,(hxb.2 _ (a0j b0) ns0).trans b0,(hxb.2 _ (a0j b1) ns1).trans b1,k0.lx hlx5,(hxb.2 _ (a0j b2) ns2).trans b2,k1.lx hlx5,L.set i (L[i] / (gg:Int)),ho2,by simpa using hL,fun k hk=>?_⟩
     by_cases hki:k=i
     ·subst hki
      rw [b1W (by omega),b1Q,d1y hiL,c1u,hLi]
     ·rw [b1Q,List.getElem?_set_ne (by omega),← b1Q,hLk k hk]
      by_cases hlt:k < i
      ·rw [b1W hlt,b1W (by omega)]
      ·rw [b1T hlt,b1T (by omega)]
    ·clear g44 g3 g4 g11 g10 gi gn hx b0 b1 b2 k0 k1 ho hx2 ρ
     rintro ρ G gi gn ⟨g10,g3,g4,g11,hx,b0,b1,k0,b2,k1,L,ho,hL,hLk⟩
     simp [p0s,g4,g11,b1,b2]
     refine (d0z (i:=a0m (m:Int)) (j:=a0m (gg:Int)) ⟨s,by rw [a0p],by rw [a0p];exact k0⟩ ⟨sg2,by rw [a0p],by rw [a0p];exact k1⟩ hx.1 (by rw [a0n];omega) (by rw [a0n];omega) (by rw [a0k];omega)).mono ?_
     rintro _ G4 ⟨⟨_,rfl,s3,s4,rfl,k5,k6⟩,hx2⟩
     replace b0:=hx2.blk b0;replace hx:=hx.trans hx2
     replace ho:=ho.mono d0c hx2
     rw [a0k,a0k] at k5 k6 ⊢
     have hsz:=hx.1
     simp [k5.cells,k5.plain,k6.cells,k6.plain,hsz]
     generalize hN:Array.setIfInBounds (Array.push _ _) _ _=G5
     obtain ⟨hx2,b3⟩:=new1 hN
     clear hN
     replace b0:=hx2.blk b0;replace hx:=hx.trans hx2;replace k5:=k5.mono hx2;replace k6:=k6.mono hx2
     replace ho:=ho.mono d0c hx2
     refine a0F ?_
     have hz:=a0j b0
     simp [p0t,g3,g10,b0,b3,k5.cells,k5.plain,k6.cells,k6.plain,hz]
     generalize hS':Array.setIfInBounds _ _ _=G6
     refine fun _=>?_
     have hl6:Lx _ G6:=a0X hS' b0 (by decide)
     have hl7:LxT a0a _ G6:=a0X hS' b0 (by decide)
     refine ⟨so,_,⟨rfl,rfl⟩,Rat.divInt m gg,L,?_,ho.lxm hl7 (fun cs x h=>b0r.lx h hl6),s3,s4,rfl,k5.lx hl6,k6.lx hl6⟩
     have hLv:∀ k (h:k < xs.length),L[k]'(by omega)=xs[k].num * ((m / xs[k].den:Nat):Int) / (gg:Int)∧(gg:Int) ∣ xs[k].num * ((m / xs[k].den:Nat):Int):=by
      intro k hk
      have h1:=hLk k hk
      have h2:=hdg' k hk
      have h3:=hyD k hk
      rw [b1W hk,h3,b1Q,b1V (by omega)] at h1
      rw [h3] at h2
      exact ⟨h1,h2⟩
     refine ⟨hL,?_,fun k hk=>?_,fun z hz=>?_,?_⟩
     ·exact n0b hm0 hgp
     ·rw [(hLv k hk).1];exact w0j (hdv k hk hk) hm0 hgp (hLv k hk).2
     ·obtain ⟨k,hk,rfl⟩:=c1Z hz
      have hk':k < xs.length:=by omega
      have h1:=hly k hk'
      have h6:=J0W (hLv k hk').2
      rw [(hLv k hk').1]
      omega
     ·have:=b0K (m:Int) (gg:Int)
      omega
def q0f (z:Int):Bool:=decide (-9223372036854775808≤z∧z < 9223372036854775808)
def toV (z:Int):Value:=.tuple #[.int .i64 (if q0f z then z else 0),.bool (q0f z)]
theorem R0K {n:Nat} (h:n≤9223372036854775808):IntKind.i64.wrap (IntKind.u64.wrap (0 - (n:Int))) = -(n:Int):=by
 rw [a0N]
 show (if (true && decide (((0 - (n:Int)) % 18446744073709551616) % (2 ^ 64:Int) ≥ (2 ^ 63:Int)))=true then ((0 - (n:Int)) % 18446744073709551616) % (2 ^ 64:Int) - (2 ^ 64:Int) else ((0 - (n:Int)) % 18446744073709551616) % (2 ^ 64:Int)) = -(n:Int)
 rw [show (2 ^ 64:Int)=18446744073709551616 from rfl,show (2 ^ 63:Int)=9223372036854775808 from rfl]
 simp only [Bool.true_and,c1X]
 split <;> omega
theorem a1f {i:Nat} (h:i < 2):(4294967296:Nat) ^ i=2 ^ (32 * i):=by
 rw [Nat.pow_mul]
theorem H0t {z:Int} (h:2 < lz z):q0f z=false:=by
 have:¬ z.natAbs < 4294967296 ^ 2:=fun h2=>by have:=h0e h2;unfold lz at h;omega
 unfold q0f;simp;intro _;omega
theorem l0f {z:Int} (h:b0r H v (a0m z)) (hf:fl≤H.size) (hl:lz z < 1073741824) :
  a0S env fl y0T [v] H (fun r H'=>r=toV z∧Ext H H') R:=by
 refine a0g Z0v hf (h:=?_)
 intro ρ h0
 obtain ⟨s0,rfl,k0⟩:=id h
 simp [J0m,E0N,E0O,h0,k0.cells,k0.plain]
 generalize hG:Array.push H _=G
 obtain ⟨hx2,b0⟩:=h0Z hG
 have hx:=Ext.refl H
 clear hG
 replace hx:=hx.trans hx2;replace k0:=k0.mono hx2
 have hcl:(a0m z).2.length=lz z:=a0n z
 refine (b0J (h.mono hx) hx.1 (by rw [a0n];omega)).mono ?_
 rintro w G2 ⟨k1,hx2⟩
 replace b0:=hx2.blk b0;replace hx:=hx.trans hx2;replace k0:=k0.mono hx2
 rw [a0k] at k1
 obtain ⟨d,hd⟩:∃ d,d=z.natAbs:=⟨_,rfl⟩
 have hld:(a0K d).length=lz z:=by rw [hd];rfl
 rw [← hd] at k1
 simp [E0P,k1.slen,hld]
 refine ⟨fun h2=>?_,fun h2=>?_⟩
 ·simp [E0Q,toV,H0t (z:=z) (by omega)]
 ·simp [E0R,E0S,k1.slen,hld]
  refine c0I (n:=lz z) (fun i ρ G=>ρ 1=.pointer (some ⟨H.size,0,none⟩)∧ρ 13=w∧Ext H G∧a0e.blk G H.size=.row false a0a [.bool (a0m z).1,s0]∧Lim G w (a0K d)∧ρ 5=.int .u64 ((a0B ((a0K d).take i):Nat):Int)) rfl rfl (by decide) (by omega) (by simp) (by simp) ?_ ?_ ?_ ?_
  ·exact ⟨by simp,by simp,hx,b0,k1,by simp [a0B]⟩
  ·intro i ρ ρ' G h hI;simpa [h] using hI
  ·clear h0 ρ hx b0 k0 k1 hx2
   rintro i ρ G hi gi gn ⟨g1,g13,hx,b0,k1,g5⟩
   have hil:i < (a0K d).length:=by omega
   have hla:=k1.load hil (Ext.refl G)
   have hA2:=b0j hil
   have hA3:(a0K d).getD i 0 < 4294967296:=k1.2 _ (by rw [b1Q,b1V hil];exact c1a hil)
   have hA1:=g0B ((a0K d).take i) (fun x hx=>k1.2 _ (d1I hx))
   rw [c1T,c1N (by omega),a1f (by omega)] at hA1
   rw [a1f (by omega)] at hA2
   obtain ⟨A,hA⟩:∃ A,A=(a0K d).getD i 0:=⟨_,rfl⟩
   obtain ⟨N,hN⟩:∃ N,N=a0B ((a0K d).take i):=⟨_,rfl⟩
   rw [← hA] at hla hA2 hA3
   rw [← hN] at hA1 hA2 g5
   have hp:(2:Nat) ^ (32 * i)≤4294967296:=by
    have:(2:Nat) ^ (32 * i)≤2 ^ 32:=d1x (by omega) (by omega)
    exact this
   have hAp:A * 2 ^ (32 * i)≤4294967295 * 4294967296:=c1R (by omega) hp
   have eA:IntKind.u64.wrap (A:Int)=(A:Int):=by rw [a0N];omega
   have e32:IntKind.i64.wrap (32 * (i:Int))=((32 * i:Nat):Int):=by rw [a0T (by omega) (by omega)];omega
   have s1:=G0k (tag:=0) (n:=A) (s:=32 * i) (k':=.i64) (by omega)
   rw [c1x (by omega)] at s1
   have s2:=U0l (tag:=0) (a:=N) (b:=A * 2 ^ (32 * i)) (by omega) (by omega)
   rw [s0E hA1] at s2
   simp [-Int.natCast_add,-Int.natCast_mul,-Int.natCast_pow,E0T,E0U,gi,g13,g5,k1.ia hil,hla,eA,e32,s1,s2]
   exact Rnd.mk (by simp [gi]) (by simp [gn]) ⟨by simp [g1],by simp [g13],hx,b0,k1,by simp [-Int.natCast_add,-Int.natCast_mul,-Int.natCast_pow];rw [hA2,c1q]⟩
  ·clear h0 ρ hx b0 k0 k1 hx2
   rintro ρ G gi gn ⟨g1,g13,hx,b0,k1,g5⟩
   have hd2:d < 4294967296 ^ (lz z):=by have:=l0d d;rwa [hld] at this
   have hd3:d < 18446744073709551616:=c1m hd2 (c1b (d1x (by omega) (show lz z≤2 by omega)) (by decide))
   rw [c1f (by omega),a0J] at g5
   have hb0:=a0j b0
   simp [v0N,g1,b0]
   refine (b0v (h.mono hx) hx.1 (by rw [a0n];omega)).mono ?_
   rintro _ G3 ⟨rfl,hx2⟩
   replace b0:=hx2.blk b0;replace hx:=hx.trans hx2
   rw [a0k]
   have hb0:=a0j b0
   have hu:q0f z=false→toV z=.tuple #[.int .i64 0,.bool false]:=fun h=>by rw [toV,h];rfl
   have hv:q0f z=true→toV z=.tuple #[.int .i64 z,.bool true]:=fun h=>by rw [toV,h];rfl
   clear hx2
   by_cases hz:z < 0
   ·by_cases hz2:(d:Int)≤9223372036854775808
    ·have hf1:q0f z=true:=by unfold q0f;simp;omega
     have e1:=R0K (n:=d) (by omega)
     have e2:-(d:Int)=z:=by omega
     rw [e2] at e1
     simp [hz,hz2,g5,v0O,e1,hv hf1]
     try (rw [show IntKind.i64.wrap (IntKind.u64.wrap (-(d:Int)))=z by rw [← Int.zero_sub];exact e1];simp)
    ·have hf1:q0f z=false:=by unfold q0f;simp;omega
     simp [hz,hz2,g5,p0K,g1,b0]
     refine (b0v (h.mono hx) hx.1 (by rw [a0n];omega)).mono ?_
     rintro _ G4 ⟨rfl,hx2⟩
     rw [a0k]
     simp [hz,p0L,hu hf1]
   ·simp [hz,g5,p0K,g1,b0]
    refine (b0v (h.mono hx) hx.1 (by rw [a0n];omega)).mono ?_
    rintro _ G4 ⟨rfl,hx2⟩
    rw [a0k]
    have e2:(d:Int)=z:=by omega
    by_cases hz2:z < 9223372036854775808
    ·have hf1:q0f z=true:=by unfold q0f;simp;omega
     have e1:IntKind.i64.wrap z=z:=a0T (by omega) hz2
     simp [hz,hz2,g5,v0P,e1,hv hf1,e2]
    ·have hf1:q0f z=false:=by unfold q0f;simp;omega
     simp [hz,hz2,g5,p0L,hu hf1,e2]
def eV:Value:=.agg #[]
def t0Y:Value:=.iface f0b (.agg #[])
def f0h (z:Int):Prop:=-2147483648 < z∧z < 2147483648
def Z0K:Value→a0u→Prop
 | .iface ty v,R=>R (.iface ty v)
 | _,_=>False
theorem j0l {ty:TypeId} {v:Value}:Z0K (.iface ty v) R=R (.iface ty v):=nr rfl
theorem s0d {E:Env} {t:a0W} {x:Opd} {K:m0q}:WS E fl t H (.pan x) K R=Z0K (ev t x) R:=by
 simp only [WS,opA]
 cases ev t x <;> simp [Z0K]
theorem o0H {a b:Int} (ha:f0h a) (hb:f0h b):-4611686018427387904 < a * b∧a * b < 4611686018427387904:=by
 obtain ⟨a1,a2⟩:=ha
 obtain ⟨b1,b2⟩:=hb
 have h:(a * b).natAbs≤2147483647 * 2147483647:=by
  rw [d1D];exact c1R (by omega) (by omega)
 omega
theorem o0G {a b:Int} (ha:f0h a) (hb:f0h b):IntKind.i64.wrap (a * b)=a * b:=by
 have:=o0H ha hb
 exact a0T (by omega) (by omega)
theorem U0h (x y:Int):lz (x - y)≤max (lz x) (lz y) + 1:=by
 rw [e1f];have:=q0X x (-y);rwa [e0Q] at this
theorem push2 {z1 z2:Blk} (hG:Array.push (Array.push H z1) z2=G):Ext H G∧a0e.blk G H.size=z1∧a0e.blk G (H.size + 1)=z2:=by
 rw [← hG];exact ⟨(Ext.refl H).push.push,by simp,by simp⟩
theorem e0X {a b:Int} (hf:fl≤H.size) :
  a0S env fl w0M [.int .i64 a,.int .i64 b] H (fun r H'=>r=.int .i64 (c0V a b)∧Ext H H') R:=by
 refine a0g Z0u hf (h:=?_)
 intro ρ h0
 simp [J0l,E0H,E0I,h0]
 refine ⟨fun h=>?_,fun h=>?_⟩
 ·have:c0V a b = -1:=by unfold c0V;rw [b1W h]
  simp [E0J,this]
 ·simp [E0K,h0]
  refine ⟨fun h=>?_,fun h=>?_⟩
  ·have:c0V a b=1:=by unfold c0V;rw [b1T (by omega),b1W (by omega)]
   simp [E0L,this]
  ·have:c0V a b=0:=by unfold c0V;rw [b1T (by omega),b1T (by omega)]
   simp [E0M,this]
theorem e0F {z:Int} (hf:fl≤H.size) (hR:R t0Y) :
  a0S env fl s0u [.int .i64 z] H (fun r H'=>(r=.int .i64 z∧f0h z)∧Ext H H') R:=by
 refine a0g T0p hf (h:=?_)
 intro ρ h0
 simp [G0i,t0O,t0P,h0]
 by_cases h1:z≤-2147483648
 ·have h1':¬ (-2147483648 < z):=by omega
  simp [h1,h1',t0Q,s0d,j0l]
  exact hR
 ·have h1':-2147483648 < z:=by omega
  by_cases h2:2147483648≤z
  ·have h2':¬ z < 2147483648:=by omega
   simp [h1,h1',h2,h2',h0,t0Q,s0d,j0l]
   exact hR
  ·have h2':z < 2147483648:=by omega
   simp [h1,h1',h2,h2',h0,t0R,f0h]
theorem m0D {a b c d:Int} (hf:fl≤H.size) (ha:f0h a) (hb:f0h b) (hc:f0h c) (hd:f0h d) :
  a0S env fl w0L [eV,.int .i64 a,.int .i64 b,.int .i64 c,.int .i64 d] H (fun r H'=>r=.int .i64 (c0V (a * b) (c * d))∧Ext H H') R:=by
 refine a0g Z0p hf (h:=?_)
 intro ρ h0
 have m1:=o0G ha hb
 have m2:=o0G hc hd
 simp [J0g,E0w,E0x,h0,eV,m1,m2]
 refine (e0X (by simp)).mono ?_
 rintro _ G ⟨rfl,hx2⟩
 simp
theorem q0O {a:Int} (hf:fl≤H.size) (ha:f0h a) :
  a0S env fl k0W [eV,.int .i64 a] H (fun r H'=>r=.int .i64 (-a)∧Ext H H') R:=by
 refine a0g Z0q hf (h:=?_)
 intro ρ h0
 obtain ⟨a1,a2⟩:=ha
 have e1:IntKind.i64.wrap (-a) = -a:=a0T (by omega) (by omega)
 simp [J0h,E0y,E0z,h0,eV,e1]
theorem o0I {a:Int} (hf:fl≤H.size) :
  a0S env fl m0C [eV,.int .i64 a] H (fun r H'=>r=.int .i64 (c0V a 0)∧Ext H H') R:=by
 refine a0g Z0s hf (h:=?_)
 intro ρ h0
 simp [J0j,E0D,E0E,h0,eV]
 refine (e0X (by simp)).mono ?_
 rintro _ G ⟨rfl,hx2⟩
 simp
theorem j0I {a:Int} (hf:fl≤H.size) (ha:f0h a) :
  a0S env fl q0M [eV,.int .i64 a] H (fun r H'=>b0r H' r (a0m a)∧Ext H H') R:=by
 refine a0g Z0r hf (h:=?_)
 intro ρ h0
 obtain ⟨a1,a2⟩:=ha
 simp [J0i,E0A,E0B,h0,eV]
 generalize hG:Array.push (Array.push H _) _=G
 obtain ⟨hx2,_,b0⟩:=push2 hG
 have hx:=Ext.refl H
 clear hG
 replace hx:=hx.trans hx2
 refine (c0f hx.1 (by omega) (by omega)).mono ?_
 rintro _ G2 ⟨⟨s1,rfl,k0⟩,hx2⟩
 replace b0:=hx2.blk b0;replace hx:=hx.trans hx2
 have hz:=a0j b0
 simp [b0,k0.cells,k0.plain]
 generalize hS:Array.setIfInBounds _ _ _=G3
 have hl:Lx G2 G3:=a0X hS b0 (by decide)
 have b1:=a0M hS b0
 simp [b1]
 exact fun _=>⟨s1,rfl,k0.lx hl⟩
theorem k0X {z:Int} (h:b0r H v (a0m z)) (hf:fl≤H.size) (hl:lz z < 1073741824) (hR:R t0Y) :
  a0S env fl i0n [eV,v] H (fun r H'=>(r=.int .i64 z∧f0h z)∧Ext H H') R:=by
 refine a0g T0o hf (h:=?_)
 intro ρ h0
 obtain ⟨s0,rfl,k0⟩:=id h
 simp [G0h,t0K,t0L,h0,eV,k0.cells,k0.plain]
 generalize hG:Array.push (Array.push H _) _=G
 obtain ⟨hx2,_,b0⟩:=push2 hG
 have hx:=Ext.refl H
 clear hG
 replace hx:=hx.trans hx2
 refine (l0f (h.mono hx) hx.1 hl).mono ?_
 rintro _ G2 ⟨rfl,hx2⟩
 replace hx:=hx.trans hx2
 unfold toV
 simp [t0M]
 cases hz:q0f z
 ·simp [E0C,s0d,j0l]
  exact hR
 ·simp [t0N]
  refine (e0F hx.1 hR).mono ?_
  rintro _ G3 ⟨⟨rfl,h1⟩,hx2⟩
  simp [h1]
theorem i0o {a b c d e:Int} (hf:fl≤H.size) (ha:f0h a) (hb:f0h b) (hc:f0h c) (hd:f0h d) (he:e ≠ 0) (hR:R t0Y) :
  a0S env fl o0E [eV,.int .i64 a,.int .i64 b,.int .i64 c,.int .i64 d,.int .i64 e] H (fun r H'=>(r=.int .i64 ((a * b - c * d).tdiv e)∧f0h ((a * b - c * d).tdiv e))∧Ext H H') R:=by
 refine a0g Z0t hf (h:=?_)
 intro ρ h0
 have m1:=o0G ha hb
 have m2:=o0G hc hd
 have z1:=o0H ha hb
 have z2:=o0H hc hd
 have m3:IntKind.i64.wrap (a * b - c * d)=a * b - c * d:=a0T (by omega) (by omega)
 have m4:IntKind.i64.wrap ((a * b - c * d).tdiv e)=(a * b - c * d).tdiv e:=by
  have:((a * b - c * d).tdiv e).natAbs≤(a * b - c * d).natAbs:=by rw [Int.natAbs_tdiv];exact d1w _ _
  exact a0T (by omega) (by omega)
 simp [J0k,E0F,E0G,h0,eV,m1,m2,m3,u0q he,m4]
 refine (e0F (by simp) hR).mono ?_
 rintro _ G ⟨⟨rfl,h1⟩,hx2⟩
 simp [h1]
theorem m0s {a b c d:Int} {va vb vc vd:Value} (ha:b0r H va (a0m a)) (hb:b0r H vb (a0m b)) (hc:b0r H vc (a0m c)) (hd:b0r H vd (a0m d)) (hf:fl≤H.size)
  (la:lz a < 67108864) (lb:lz b < 67108864) (lc:lz c < 67108864) (ld:lz d < 67108864) :
  a0S env fl w0K [eV,va,vb,vc,vd] H (fun r H'=>r=.int .i64 (c0V (a * b) (c * d))∧Ext H H') R:=by
 refine a0g Z0i hf (h:=?_)
 intro ρ h0
 obtain ⟨s0,rfl,k0⟩:=id ha
 obtain ⟨s1,rfl,k1⟩:=id hb
 obtain ⟨s2,rfl,k2⟩:=id hc
 obtain ⟨s3,rfl,k3⟩:=id hd
 simp [I0Z,E0h,h0,eV,k0.cells,k0.plain,k1.cells,k1.plain,k2.cells,k2.plain,k3.cells,k3.plain]
 generalize hG:Array.push (Array.push (Array.push (Array.push (Array.push H _) _) _) _) _=G
 have hx2:Ext H G:=by rw [← hG];exact (Ext.refl H).push.push.push.push.push
 have b1:a0e.blk G (H.size + 1)=.row false a0a [.bool (a0m a).1,s0]:=by rw [← hG];simp
 have b2:a0e.blk G (H.size + 2)=.row false a0a [.bool (a0m b).1,s1]:=by rw [← hG];simp
 have b3:a0e.blk G (H.size + 3)=.row false a0a [.bool (a0m c).1,s2]:=by rw [← hG];simp
 have b4:a0e.blk G (H.size + 4)=.row false a0a [.bool (a0m d).1,s3]:=by rw [← hG];simp
 have hx:=Ext.refl H
 clear hG
 replace hx:=hx.trans hx2;replace k0:=k0.mono hx2;replace k1:=k1.mono hx2;replace k2:=k2.mono hx2;replace k3:=k3.mono hx2
 refine a0F ?_
 simp [E0i,b1,b2]
 refine (b0y (i:=a0m a) (j:=a0m b) ⟨s0,rfl,k0⟩ ⟨s1,rfl,k1⟩ (by have:=hx.1;omega) (by rw [a0n];omega) (by rw [a0n];omega)).mono ?_
 rintro _ G2 ⟨k4,hx2⟩
 replace b3:=hx2.blk b3;replace b4:=hx2.blk b4;replace hx:=hx.trans hx2;replace k2:=k2.mono hx2;replace k3:=k3.mono hx2
 rw [a0k,a0k] at k4
 simp [b3,b4]
 refine (b0y (i:=a0m c) (j:=a0m d) ⟨s2,rfl,k2⟩ ⟨s3,rfl,k3⟩ (by have:=hx.1;omega) (by rw [a0n];omega) (by rw [a0n];omega)).mono ?_
 rintro _ G3 ⟨k5,hx2⟩
 replace hx:=hx.trans hx2;replace k4:=k4.mono hx2
 rw [a0k,a0k] at k5
 have l1:=d0b a b
 have l2:=d0b c d
 simp
 refine (d0y k4 k5 (by have:=hx.1;omega) (by rw [a0n];omega) (by rw [a0n];omega)).mono ?_
 rintro _ G4 ⟨rfl,hx2⟩
 rw [a0k,a0k]
 simp
theorem q0s {a:Int} (ha:b0r H v (a0m a)) (hf:fl≤H.size) (la:lz a < 67108864) :
  a0S env fl k0V [eV,v] H (fun r H'=>b0r H' r (a0m (-a))∧Ext H H') R:=by
 refine a0g Z0j hf (h:=?_)
 intro ρ h0
 obtain ⟨s0,rfl,k0⟩:=id ha
 simp [J0a,E0j,E0k,h0,eV,k0.cells,k0.plain]
 generalize hG:Array.push (Array.push (Array.push H _) _) _=G
 have hx2:Ext H G:=by rw [← hG];exact (Ext.refl H).push.push.push
 have b2:a0e.blk G (H.size + 2)=.row false a0a [.bool false,.slice none 0 0]:=by rw [← hG];simp
 have hx:=Ext.refl H
 clear hG
 replace hx:=hx.trans hx2
 refine (e0i (ha.mono hx) hx.1 (by rw [a0n];omega)).mono ?_
 rintro _ G2 ⟨⟨s1,rfl,k1⟩,hx2⟩
 replace b2:=hx2.blk b2;replace hx:=hx.trans hx2
 rw [a0k] at k1 ⊢
 have hz:=a0j b2
 simp [b2,k1.cells,k1.plain]
 generalize hS:Array.setIfInBounds _ _ _=G3
 have hl:Lx G2 G3:=a0X hS b2 (by decide)
 have b3:=a0M hS b2
 simp [b3]
 exact fun _=>⟨s1,rfl,k1.lx hl⟩
theorem j0F {a:Int} (ha:b0r H v (a0m a)) (hf:fl≤H.size) :
  a0S env fl q0L [eV,v] H (fun r H'=>b0r H' r (a0m a)∧Ext H H') R:=by
 refine a0g Z0k hf (h:=?_)
 intro ρ h0
 obtain ⟨s0,rfl,k0⟩:=id ha
 simp [J0b,E0l,E0m,h0,eV,k0.cells,k0.plain]
 exact fun hx=>ha.mono hx
theorem h0K {a:Int} (ha:b0r H v (a0m a)) (hf:fl≤H.size) :
  a0S env fl j0c [eV,v] H (fun r H'=>b0r H' r (a0m a)∧Ext H H') R:=by
 refine a0g Z0l hf (h:=?_)
 intro ρ h0
 obtain ⟨s0,rfl,k0⟩:=id ha
 simp [J0c,E0n,E0o,h0,eV,k0.cells,k0.plain]
 exact fun hx=>ha.mono hx
theorem o0s {a:Int} (ha:b0r H v (a0m a)) (hf:fl≤H.size) (la:lz a < 67108864) :
  a0S env fl m0B [eV,v] H (fun r H'=>r=.int .i64 (c0V a 0)∧Ext H H') R:=by
 refine a0g Z0m hf (h:=?_)
 intro ρ h0
 obtain ⟨s0,rfl,k0⟩:=id ha
 simp [J0d,E0p,E0q,h0,eV,k0.cells,k0.plain]
 generalize hG:Array.push (Array.push H _) _=G
 obtain ⟨hx2,_,b0⟩:=push2 hG
 have hx:=Ext.refl H
 clear hG
 replace hx:=hx.trans hx2
 have hv0:a0P (false,[])=0:=by unfold a0P l0e;simp [a0B]
 refine (d0y (j:=(false,[])) (ha.mono hx) ⟨_,rfl,Lim.nil⟩ hx.1 (by rw [a0n];omega) (by simp)).mono ?_
 rintro _ G2 ⟨rfl,hx2⟩
 rw [hv0,a0k]
 simp
theorem i0h {a b c d e:Int} {va vb vc vd ve:Value} (ha:b0r H va (a0m a)) (hb:b0r H vb (a0m b)) (hc:b0r H vc (a0m c)) (hd:b0r H vd (a0m d)) (he:b0r H ve (a0m e)) (hf:fl≤H.size)
  (la:lz a < 67108864) (lb:lz b < 67108864) (lc:lz c < 67108864) (ld:lz d < 67108864) (le:lz e < 67108864) (he0:e ≠ 0) :
  a0S env fl o0D [eV,va,vb,vc,vd,ve] H (fun r H'=>b0r H' r (a0m ((a * b - c * d).tdiv e))∧Ext H H') R:=by
 refine a0g Z0n hf (h:=?_)
 intro ρ h0
 obtain ⟨s0,rfl,k0⟩:=id ha
 obtain ⟨s1,rfl,k1⟩:=id hb
 obtain ⟨s2,rfl,k2⟩:=id hc
 obtain ⟨s3,rfl,k3⟩:=id hd
 obtain ⟨s4,rfl,k4⟩:=id he
 simp [J0e,E0r,h0,eV,k0.cells,k0.plain,k1.cells,k1.plain,k2.cells,k2.plain,k3.cells,k3.plain,k4.cells,k4.plain]
 generalize hG:Array.push (Array.push (Array.push (Array.push (Array.push (Array.push (Array.push H _) _) _) _) _) _) _=G
 have hx2:Ext H G:=by rw [← hG];exact (Ext.refl H).push.push.push.push.push.push.push
 have b1:a0e.blk G (H.size + 1)=.row false a0a [.bool (a0m a).1,s0]:=by rw [← hG];simp
 have b2:a0e.blk G (H.size + 2)=.row false a0a [.bool (a0m b).1,s1]:=by rw [← hG];simp
 have b3:a0e.blk G (H.size + 3)=.row false a0a [.bool (a0m c).1,s2]:=by rw [← hG];simp
 have b4:a0e.blk G (H.size + 4)=.row false a0a [.bool (a0m d).1,s3]:=by rw [← hG];simp
 have b5:a0e.blk G (H.size + 5)=.row false a0a [.bool (a0m e).1,s4]:=by rw [← hG];simp
 have b6:a0e.blk G (H.size + 6)=.row false a0a [.bool false,.slice none 0 0]:=by rw [← hG];simp
 have hx:=Ext.refl H
 clear hG
 replace hx:=hx.trans hx2;replace k0:=k0.mono hx2;replace k1:=k1.mono hx2;replace k2:=k2.mono hx2;replace k3:=k3.mono hx2;replace k4:=k4.mono hx2
 refine a0F ?_
 simp [E0s,b1,b2]
 refine (b0y (i:=a0m a) (j:=a0m b) ⟨s0,rfl,k0⟩ ⟨s1,rfl,k1⟩ (by have:=hx.1;omega) (by rw [a0n];omega) (by rw [a0n];omega)).mono ?_
 rintro _ G2 ⟨k5,hx2⟩
 replace b3:=hx2.blk b3;replace b4:=hx2.blk b4;replace b5:=hx2.blk b5;replace b6:=hx2.blk b6;replace hx:=hx.trans hx2;replace k2:=k2.mono hx2;replace k3:=k3.mono hx2;replace k4:=k4.mono hx2
 rw [a0k,a0k] at k5
 simp [b3,b4]
 refine (b0y (i:=a0m c) (j:=a0m d) ⟨s2,rfl,k2⟩ ⟨s3,rfl,k3⟩ (by have:=hx.1;omega) (by rw [a0n];omega) (by rw [a0n];omega)).mono ?_
 rintro _ G3 ⟨k6,hx2⟩
 replace b5:=hx2.blk b5;replace b6:=hx2.blk b6;replace hx:=hx.trans hx2;replace k4:=k4.mono hx2;replace k5:=k5.mono hx2
 rw [a0k,a0k] at k6
 have l1:=d0b a b
 have l2:=d0b c d
 simp
 refine (r0d k5 k6 (by have:=hx.1;omega) (by rw [a0n];omega) (by rw [a0n];omega)).mono ?_
 rintro _ G4 ⟨k7,hx2⟩
 replace b5:=hx2.blk b5;replace b6:=hx2.blk b6;replace hx:=hx.trans hx2;replace k4:=k4.mono hx2;replace k5:=k5.mono hx2;replace k6:=k6.mono hx2
 rw [a0k,a0k] at k7
 have l3:=U0h (a * b) (c * d)
 simp [b5]
 refine (b0M (j:=a0m e) k7 ⟨s4,rfl,k4⟩ (by have:=hx.1;omega) (by rw [a0n];omega) (by rw [a0n];omega) (by rw [a0k];exact he0)).mono ?_
 rintro _ G4 ⟨⟨_,_,rfl,⟨s5,rfl,k5⟩,⟨s6,rfl,k6⟩⟩,hx2⟩
 replace b6:=hx2.blk b6;replace hx:=hx.trans hx2
 rw [a0k,a0k] at k5 k6 ⊢
 have hsz:=hx.1
 have hsz1:H.size≤G4.size + 1:=by omega
 simp [k5.cells,k5.plain,k6.cells,k6.plain,hsz,hsz1]
 generalize hN:Array.setIfInBounds (Array.setIfInBounds (Array.push (Array.push _ _) _) _ _) _ _=G5
 obtain ⟨hx2,b7,_⟩:=Q0s hN
 clear hN
 replace b6:=hx2.blk b6;replace hx:=hx.trans hx2;replace k5:=k5.mono hx2
 have hz:=a0j b6
 simp [E0t,b7,b6,k5.cells,k5.plain]
 generalize hS:Array.setIfInBounds _ _ _=G6
 have hl:Lx G5 G6:=a0X hS b6 (by decide)
 have b8:=a0M hS b6
 simp [b8]
 exact fun _=>⟨s5,rfl,k5.lx hl⟩
end
end Go.Proofs.YtilekhkgobmolaaGreat.AI
