/- Part 7 of the proof. -/
import Derived.Test.YtilekhkgobmolaaGreatM05
set_option linter.unusedVariables false
set_option linter.unusedSimpArgs false
set_option linter.unusedSectionVars false
namespace Go.Proofs.YtilekhkgobmolaaGreat.AI
section
open Go
set_option maxHeartbeats 4000000
variable {fl:Nat} {H:a0e} {R:a0E} {v w:Value} {i j:Bool × List Nat} {a b:b0h}
theorem b0q.cells {i:Bool × List Nat} (h:b0q H v i):(a0V v).length=2∧(a0V v).all a0t=true:=by
 obtain ⟨s,rfl,hs⟩:=h;simp [hs.plain]
theorem d0S (h:b0q H v i) (k:b0q H w j) (hf:fl≤H.size) (hn:i.2.length < 536870912) (hm:j.2.length < 536870912) (hj0:a0B j ≠ 0) :
  a0S env fl p0T [v,w] H (fun r H'=>(∃ q,r=.tuple #[q,.int .i64 0]∧b0P H' q (a0f (Rat.divInt (a0B i) (a0B j))))∧Ext H H') R:=by
 have k0:=h
 have k1:=k
 obtain ⟨s,rfl,hs⟩:=h
 obtain ⟨u,rfl,hu⟩:=k
 refine a0g e1v hf (h:=?_)
 intro ρ h0
 simp [L0x,D0w,h0]
 generalize hG:Array.push (Array.push (Array.push H _) _) _=G
 have hx:Ext H G:=by rw [← hG];exact (Ext.refl H).push.push.push
 have b0:a0e.blk G H.size=.row false a0a [.bool i.1,s]:=by rw [← hG];simp
 have b1:a0e.blk G (H.size + 1)=.row false a0a [.bool j.1,u]:=by rw [← hG];simp
 have b2:a0e.blk G (H.size + 2)=.row false a0b [.bool false,.slice none 0 0,.bool false,.slice none 0 0]:=by rw [← hG];simp
 clear hG
 replace k0:=k0.mono hx
 replace k1:=k1.mono hx
 have l1:=a0A k0.ok
 have l2:=a0A k1.ok
 simp [D0x,h0,b1]
 refine (j0M k1 hx.1 hm).mono ?_
 rintro _ G2 ⟨rfl,hx2⟩
 replace b0:=hx2.blk b0;replace b1:=hx2.blk b1;replace b2:=hx2.blk b2;replace hx:=hx.trans hx2;replace k0:=k0.mono hx2;replace k1:=k1.mono hx2
 have hj0':(a0B j == 0)=false:=by simp [hj0]
 simp [hj0',hj0,D0y,h0,b0,b1]
 refine (f0q k0 k1 hx.1 hn hm).mono ?_
 rintro x G2 ⟨⟨s1,rfl,k2⟩,hx2⟩
 replace b0:=hx2.blk b0;replace b1:=hx2.blk b1;replace b2:=hx2.blk b2;replace hx:=hx.trans hx2;replace k0:=k0.mono hx2;replace k1:=k1.mono hx2
 have hsz:=hx.1
 simp [h0,k2.cells,k2.plain,hsz]
 generalize hN:Array.setIfInBounds (Array.push _ _) _ _=G3
 obtain ⟨hx2,b3⟩:=new1 hN
 have hb2l:=a0i b2
 replace b0:=hx2.blk b0;replace b1:=hx2.blk b1;replace b2:=hx2.blk b2;replace hx:=hx.trans hx2;replace k0:=k0.mono hx2;replace k1:=k1.mono hx2;replace k2:=k2.mono hx2
 clear hN
 obtain ⟨P,hP⟩:∃ P,P=G2.size:=⟨_,rfl⟩
 rw [← hP] at b3 hsz hb2l ⊢
 have hgl:lz (Int.gcd (a0B i) (a0B j):Int) < 536870912:=by
  have h5:Int.gcd (a0B i) (a0B j)≤(a0B j).natAbs:=Int.gcd_le_natAbs_right _ hj0
  have:lz (Int.gcd (a0B i) (a0B j):Int)≤(a0o (a0B j).natAbs).length:=b0e (by simpa using h5)
  omega
 simp [D0z,h0,b1]
 refine (d0R k1 (j:=(false,[])) ⟨_,rfl,Lim.nil⟩ hx.1 hm (by simp)).mono ?_
 rintro _ G2 ⟨rfl,hx2⟩
 replace b0:=hx2.blk b0;replace b1:=hx2.blk b1;replace b2:=hx2.blk b2;replace b3:=hx2.blk b3;replace hx:=hx.trans hx2;replace k0:=k0.mono hx2;replace k1:=k1.mono hx2;replace k2:=k2.mono hx2
 have hv0:a0B (false,[])=0:=by unfold a0B g0h;simp [a0u]
 rw [hv0]
 obtain ⟨g,hg⟩:∃ g,g=if a0B j < 0 then -(Int.gcd (a0B i) (a0B j):Int) else (Int.gcd (a0B i) (a0B j):Int):=⟨_,rfl⟩
 obtain ⟨hq,hg0⟩:=C0g (p:=a0B i) hj0 hg
 rw [hq]
 have hgl2:lz g < 536870912:=by rw [hg];split;rw [f0p];exact hgl;exact hgl
 by_cases hneg:a0B j < 0
 ·have hcz:c0A (a0B j) 0 < 0:=by unfold c0A;rw [i1n hneg];omega
  simp [hcz,D0A,h0,b3]
  refine (e0C (i:=a0k (Int.gcd (a0B i) (a0B j))) ⟨s1,rfl,k2⟩ hx.1 (by rw [a0n];omega)).mono ?_
  rintro _ G2 ⟨⟨s2,rfl,k6⟩,hx2⟩
  replace b0:=hx2.blk b0;replace b1:=hx2.blk b1;replace b2:=hx2.blk b2;replace b3:=hx2.blk b3;replace hx:=hx.trans hx2;replace k0:=k0.mono hx2;replace k1:=k1.mono hx2;replace k2:=k2.mono hx2
  rw [a0j] at k6 ⊢
  rw [i1n hneg] at hg
  rw [← hg] at k6 ⊢
  have hz:=a0i b3
  simp [h0,b3,k6.cells,k6.plain,hsz]
  generalize hS:Array.setIfInBounds _ _ _=G3
  have hsz:=hx.1;replace k0:=k0.setS hS b3 (by decide);replace k1:=k1.setS hS b3 (by decide);replace k2:=k2.setS hS b3 (by decide);replace k6:=k6.setS hS b3 (by decide);replace b0:=a0p hS b0 (by omega);replace b1:=a0p hS b1 (by omega);replace b2:=a0p hS b2 (by omega);replace hx:=a0Y hS hx (by omega);replace b3:=a0v hS b3;clear hS hsz
  clear k2
  have k2:=k6
  clear k6
  obtain ⟨s1,rfl⟩:∃ s1,s1=s2:=⟨_,rfl⟩
  simp [u0B,h0,b0,b3]
  refine (b0V k0 ⟨s1,rfl,k2⟩ hx.1 hn (by rw [a0n];exact hgl2) (by rw [a0j];exact hg0)).mono ?_
  rintro _ G2 ⟨⟨_,_,rfl,⟨s3,rfl,k3⟩,k4⟩,hx2⟩
  replace b0:=hx2.blk b0;replace b1:=hx2.blk b1;replace b2:=hx2.blk b2;replace b3:=hx2.blk b3;replace hx:=hx.trans hx2;replace k0:=k0.mono hx2;replace k1:=k1.mono hx2;replace k2:=k2.mono hx2
  rw [a0j] at k3 ⊢
  have hz:=a0i b0
  simp [h0,b0,k3.cells,k3.plain,hz]
  generalize hS:Array.setIfInBounds _ _ _=G3
  have hsz:=hx.1;replace k0:=k0.setS hS b0 (by decide);replace k1:=k1.setS hS b0 (by decide);replace k2:=k2.setS hS b0 (by decide);replace k3:=k3.setS hS b0 (by decide);replace k4:=k4.setS hS b0 (by decide);replace b1:=a0p hS b1 (by omega);replace b2:=a0p hS b2 (by omega);replace b3:=a0p hS b3 (by omega);replace hx:=a0Y hS hx (by omega);replace b0:=a0v hS b0;clear hS hsz
  simp [u0C,h0,b1,b3]
  refine (b0V k1 ⟨s1,rfl,k2⟩ hx.1 hm (by rw [a0n];exact hgl2) (by rw [a0j];exact hg0)).mono ?_
  rintro _ G2 ⟨⟨_,_,rfl,⟨s4,rfl,k4⟩,k5⟩,hx2⟩
  replace b0:=hx2.blk b0;replace b1:=hx2.blk b1;replace b2:=hx2.blk b2;replace b3:=hx2.blk b3;replace hx:=hx.trans hx2;replace k0:=k0.mono hx2;replace k1:=k1.mono hx2;replace k2:=k2.mono hx2;replace k3:=k3.mono hx2
  rw [a0j] at k4 ⊢
  have hz:=a0i b1
  simp [h0,b1,k4.cells,k4.plain,hz]
  generalize hS:Array.setIfInBounds _ _ _=G3
  have hsz:=hx.1;replace k0:=k0.setS hS b1 (by decide);replace k1:=k1.setS hS b1 (by decide);replace k2:=k2.setS hS b1 (by decide);replace k3:=k3.setS hS b1 (by decide);replace k4:=k4.setS hS b1 (by decide);replace k5:=k5.setS hS b1 (by decide);replace b0:=a0p hS b0 (by omega);replace b2:=a0p hS b2 (by omega);replace b3:=a0p hS b3 (by omega);replace hx:=a0Y hS hx (by omega);replace b1:=a0v hS b1;clear hS hsz
  have hz:=a0i b2
  simp [u0D,h0,b0,b1,b2,k3.cells,k3.plain,k4.cells,k4.plain,hz]
  exact fun _=>⟨s3,s4,rfl,k3.setT b2 (by decide),k4.setT b2 (by decide)⟩
 ·have hcz:¬ c0A (a0B j) 0 < 0:=by unfold c0A;rw [i1k hneg];split <;> omega
  rw [i1k hneg] at hg
  rw [← hg] at k2 b3
  simp [hcz]
  simp [u0B,h0,b0,b3]
  refine (b0V k0 ⟨s1,rfl,k2⟩ hx.1 hn (by rw [a0n];exact hgl2) (by rw [a0j];exact hg0)).mono ?_
  rintro _ G2 ⟨⟨_,_,rfl,⟨s3,rfl,k3⟩,k4⟩,hx2⟩
  replace b0:=hx2.blk b0;replace b1:=hx2.blk b1;replace b2:=hx2.blk b2;replace b3:=hx2.blk b3;replace hx:=hx.trans hx2;replace k0:=k0.mono hx2;replace k1:=k1.mono hx2;replace k2:=k2.mono hx2
  rw [a0j] at k3 ⊢
  have hz:=a0i b0
  simp [h0,b0,k3.cells,k3.plain,hz]
  generalize hS:Array.setIfInBounds _ _ _=G3
  have hsz:=hx.1;replace k0:=k0.setS hS b0 (by decide);replace k1:=k1.setS hS b0 (by decide);replace k2:=k2.setS hS b0 (by decide);replace k3:=k3.setS hS b0 (by decide);replace k4:=k4.setS hS b0 (by decide);replace b1:=a0p hS b1 (by omega);replace b2:=a0p hS b2 (by omega);replace b3:=a0p hS b3 (by omega);replace hx:=a0Y hS hx (by omega);replace b0:=a0v hS b0;clear hS hsz
  simp [u0C,h0,b1,b3]
  refine (b0V k1 ⟨s1,rfl,k2⟩ hx.1 hm (by rw [a0n];exact hgl2) (by rw [a0j];exact hg0)).mono ?_
  rintro _ G2 ⟨⟨_,_,rfl,⟨s4,rfl,k4⟩,k5⟩,hx2⟩
  replace b0:=hx2.blk b0;replace b1:=hx2.blk b1;replace b2:=hx2.blk b2;replace b3:=hx2.blk b3;replace hx:=hx.trans hx2;replace k0:=k0.mono hx2;replace k1:=k1.mono hx2;replace k2:=k2.mono hx2;replace k3:=k3.mono hx2
  rw [a0j] at k4 ⊢
  have hz:=a0i b1
  simp [h0,b1,k4.cells,k4.plain,hz]
  generalize hS:Array.setIfInBounds _ _ _=G3
  have hsz:=hx.1;replace k0:=k0.setS hS b1 (by decide);replace k1:=k1.setS hS b1 (by decide);replace k2:=k2.setS hS b1 (by decide);replace k3:=k3.setS hS b1 (by decide);replace k4:=k4.setS hS b1 (by decide);replace k5:=k5.setS hS b1 (by decide);replace b0:=a0p hS b0 (by omega);replace b2:=a0p hS b2 (by omega);replace b3:=a0p hS b3 (by omega);replace hx:=a0Y hS hx (by omega);replace b1:=a0v hS b1;clear hS hsz
  have hz:=a0i b2
  simp [u0D,h0,b0,b1,b2,k3.cells,k3.plain,k4.cells,k4.plain,hz]
  exact fun _=>⟨s3,s4,rfl,k3.setT b2 (by decide),k4.setT b2 (by decide)⟩
end
section
open Go
set_option maxHeartbeats 4000000
variable {fl:Nat} {H G:a0e} {R:a0E} {v w:Value} {i j:Bool × List Nat} {a b:b0h}
theorem b0P.p (h:b0P H v a):∃ s u,v=.agg #[.bool a.1.1,s,.bool a.2.1,u]∧Lim H s a.1.2∧Lim H u a.2.2∧b0q H (.agg #[.bool a.1.1,s]) a.1∧b0q H (.agg #[.bool a.2.1,u]) a.2:=by
 obtain ⟨s,u,h1,h2,h3⟩:=h;exact ⟨s,u,h1,h2,h3,⟨s,rfl,h2⟩,⟨u,rfl,h3⟩⟩
theorem b0P.ok (h:b0P H v a):b0a a.1.2∧b0a a.2.2:=by obtain ⟨s,u,_,h2,h3⟩:=h;exact ⟨h2.ok,h3.ok⟩
theorem e0I (x:Rat):lz x.num≤szR x:=by unfold szR;omega
theorem f0F (x:Rat):lz x.den≤szR x:=by unfold szR;omega
theorem i0E (h:b0q H v i) (k:b0q H w j) (hf:fl≤H.size) (hn:i.2.length < 536870912) (hm:j.2.length < 536870912) (hj0:a0B j ≠ 0) :
  a0S env fl X0n [v,w] H (fun r H'=>b0P H' r (a0f (Rat.divInt (a0B i) (a0B j)))∧Ext H H') R:=by
 have k0:=h
 have k1:=k
 obtain ⟨s,rfl,hs⟩:=h
 obtain ⟨u,rfl,hu⟩:=k
 refine a0g h1J hf (h:=?_)
 intro ρ h0
 simp [c1V,S0I,h0]
 generalize hG:Array.push (Array.push (Array.push H _) _) _=G
 have hx:Ext H G:=by rw [← hG];exact (Ext.refl H).push.push.push
 have b0:a0e.blk G H.size=.row false a0a [.bool i.1,s]:=by rw [← hG];simp
 have b1:a0e.blk G (H.size + 1)=.row false a0a [.bool j.1,u]:=by rw [← hG];simp
 have b2:a0e.blk G (H.size + 2)=.row false a0b [.bool false,.slice none 0 0,.bool false,.slice none 0 0]:=by rw [← hG];simp
 clear hG
 replace k0:=k0.mono hx
 replace k1:=k1.mono hx
 simp [S0J,h0,b0,b1]
 refine (d0S k0 k1 hx.1 hn hm hj0).mono ?_
 rintro _ G2 ⟨⟨q,rfl,s1,s2,rfl,k2,k3⟩,hx2⟩
 replace b2:=hx2.blk b2;replace hx:=hx.trans hx2
 have hsz:=hx.1
 simp [h0,k2.cells,k2.plain,k3.cells,k3.plain,hsz]
 generalize hN:Array.setIfInBounds (Array.push _ _) _ _=G3
 obtain ⟨hx2,b3⟩:=new1 hN
 clear hN
 replace b2:=hx2.blk b2;replace hx:=hx.trans hx2;replace k2:=k2.mono hx2;replace k3:=k3.mono hx2
 have hz:=a0i b2
 simp [S0K,h0,b2,b3,k2.cells,k2.plain,k3.cells,k3.plain,hz]
 exact fun _=>⟨s1,s2,rfl,k2.setT b2 (by decide),k3.setT b2 (by decide)⟩
def y0i (H:a0e) (v:Value) (l:List (Bool × List Nat)):Prop :=
 ∃ cs,Sl H a0a 2 v l.length cs∧∀ k,(h:k < l.length)→b0q H (.agg ((cs.drop (k * 2)).take 2).toArray) l[k]
theorem k0w (h:b0q H v i) (hl:b0q H w j) {c:Nat} {p:Nat} (hb:H.blk p=.row false a0a (a0V w)) (hf:fl≤H.size) (hn:i.2.length < 536870912) (hm:j.2.length < 536870912) :
  a0S env fl Z0m [.func (.func B0a) #[] #[],v,.slice (some ⟨p,0,none⟩) 1 c] H (fun r H'=>b0q H' r (a0k (a0B i + a0B j))∧Ext H H') R:=by
 have k0:=h
 have k1:=hl
 obtain ⟨s,rfl,hs⟩:=h
 obtain ⟨u,rfl,hu⟩:=hl
 simp at hb
 refine a0g h1K hf (h:=?_)
 intro ρ h0
 have hpl:=a0i hb
 simp [c1W,S0L,S0M,h0,g0Z]
 generalize hG:Array.push (Array.push H _) _=G
 have hx2:Ext H G:=by rw [← hG];exact (Ext.refl H).push.push
 have b0:a0e.blk G H.size=.row false a0a [.bool i.1,s]:=by rw [← hG];simp
 have b1:a0e.blk G (H.size + 1)=.row false a0a [.bool false,.slice none 0 0]:=by rw [← hG];simp
 have b2:a0e.blk G p=.row false a0a [.bool j.1,u]:=hx2.blk hb
 have hx:=hx2
 clear hG
 replace k0:=k0.mono hx2
 replace k1:=k1.mono hx2
 clear hb
 refine b0R (fun c' t G=>∃ n:Nat,n + c' = 1∧t.length=21∧get t 0=.func (.func B0a) #[] #[]∧get t 4=.pointer (some ⟨H.size,0,none⟩)∧get t 6=.pointer (some ⟨H.size + 1,0,none⟩)∧get t 9=.slice (some ⟨p,0,none⟩) 1 c∧get t 10=.int .i64 1∧get t 11=.int .i64 (n:Int) ∧
   Ext H G∧a0e.blk G (H.size + 1)=.row false a0a [.bool false,.slice none 0 0] ∧
   (n=0→a0e.blk G H.size=.row false a0a [.bool i.1,s]∧a0e.blk G p=.row false a0a [.bool j.1,u]∧b0q G (.agg #[.bool i.1,s]) i∧b0q G (.agg #[.bool j.1,u]) j) ∧
   (n=1→∃ s2,a0e.blk G H.size=.row false a0a [.bool (a0k (a0B i + a0B j)).1,s2]∧Lim G s2 (a0k (a0B i + a0B j)).2))
  (fun t G=>∃ s2,t.length=21∧get t 4=.pointer (some ⟨H.size,0,none⟩)∧get t 6=.pointer (some ⟨H.size + 1,0,none⟩)∧Ext H G∧a0e.blk G (H.size + 1)=.row false a0a [.bool false,.slice none 0 0] ∧
   a0e.blk G H.size=.row false a0a [.bool (a0k (a0B i + a0B j)).1,s2]∧Lim G s2 (a0k (a0B i + a0B j)).2) 1 ?_ ?_ ?_
 ·exact ⟨0,rfl,by simp,by simp [h0],by simp,by simp,by simp [h0],by simp,by simp,hx,b1,fun _=>⟨b0,b2,k0,k1⟩,by omega⟩
 ·clear h0 ρ k0 k1 b0 b1 b2 hx hx2 G
  rintro c' t G ⟨n,hnc,ht,g0,g4,g6,g9,g10,g11,hx,b1,hc0,hc1⟩
  obtain ⟨ρ,rfl⟩:=toT ht
  simp only [b0Q,Nat.reduceLT] at g0 g4 g6 g9 g10 g11
  by_cases hn0:n=0
  ·subst hn0
   obtain ⟨b0,b2,k0,k1⟩:=hc0 rfl
   have hlt:=hx.1
   have hbl:=a0i b1
   have e9:IntKind.i64.wrap ((0:Int) + 1)=1:=by decide
   simp [I0j,S0N,g0,g4,g6,g9,g10,g11,iaV,b2]
   have hc:(a0V (Value.agg #[.bool j.1,u])).length=2:=rfl
   simp [hu.cells,hu.plain,hlt]
   generalize hN:Array.setIfInBounds (Array.push _ _) _ _=G3
   obtain ⟨hx2,b3⟩:=new1 hN
   clear hN
   replace b0:=hx2.blk b0;replace b1:=hx2.blk b1;replace b2:=hx2.blk b2;replace hx:=hx.trans hx2;replace k0:=k0.mono hx2;replace k1:=k1.mono hx2
   simp [S0O,S0P,g0,g4,g6,g9,g10,g11,b0,b3]
   refine (e0B k0 k1 hx.1 hn hm).mono ?_
   rintro _ G2 ⟨⟨s2,rfl,k2⟩,hx2⟩
   replace b0:=hx2.blk b0;replace b1:=hx2.blk b1;replace b2:=hx2.blk b2;replace hx:=hx.trans hx2;replace k0:=k0.mono hx2;replace k1:=k1.mono hx2
   have hz:=a0i b0
   simp [g0,g4,g6,g9,g10,g11,b0,k2.cells,k2.plain,hz,e9]
   exact ⟨0,by omega,1,rfl,rfl,hx.set (by omega),b1,by omega,fun _=>k2.setT b0 (by decide)⟩
  ·have:n=1:=by omega
   subst this
   obtain ⟨s2,b0,k0⟩:=hc1 rfl
   simp [I0j,g0,g4,g6,g9,g10,g11]
   exact ⟨hx,b1,s2,b0,k0⟩
 ·clear h0 ρ k0 k1 b0 b1 b2 hx hx2 G
  rintro t G ⟨s2,ht,g4,g6,hx,b1,b0,k0⟩
  obtain ⟨ρ,rfl⟩:=toT ht
  simp only [b0Q,Nat.reduceLT] at g4 g6
  have hz:=a0i b1
  simp [S0Q,g4,g6,b0,b1,k0.cells,k0.plain,hz]
  exact fun _=>⟨s2,rfl,k0.setT b1 (by decide)⟩
theorem b0E (h:b0P H v a) (k:b0P H w b) (hf:fl≤H.size) (hn:d0b a < 67108864) (hm:d0b b < 67108864) :
  a0S env fl t0x [v,w] H (fun r H'=>b0P H' r (a0f (b0u a + b0u b))∧Ext H H') R:=by
 have k0:=h
 have k1:=k
 obtain ⟨s,u,rfl,hs,hu⟩:=h
 obtain ⟨s',u',rfl,hs',hu'⟩:=k
 refine a0g h1j hf (h:=?_)
 intro ρ h0
 simp [c1v,Q0P,h0]
 generalize hG:Array.push (Array.push (Array.push H _) _) _=G
 have hx:Ext H G:=by rw [← hG];exact (Ext.refl H).push.push.push
 have b0:a0e.blk G H.size=.row false a0b [.bool a.1.1,s,.bool a.2.1,u]:=by rw [← hG];simp
 have b1:a0e.blk G (H.size + 1)=.row false a0b [.bool b.1.1,s',.bool b.2.1,u']:=by rw [← hG];simp
 have b2:a0e.blk G (H.size + 2)=.row false a0b [.bool false,.slice none 0 0,.bool false,.slice none 0 0]:=by rw [← hG];simp
 clear hG
 replace k0:=k0.mono hx
 replace k1:=k1.mono hx
 have sa:=c0y k0.ok.1 k0.ok.2
 have sb:=c0y k1.ok.1 k1.ok.2
 refine a0G ?_
 simp [Q0Q,h0,b0,b1]
 refine (c0i k0 (by have:=hx.1;omega) (by omega)).mono ?_
 rintro _ G2 ⟨⟨s1,s2,rfl,k2,k3⟩,hx2⟩
 replace b0:=hx2.blk b0;replace b1:=hx2.blk b1;replace b2:=hx2.blk b2;replace hx:=hx.trans hx2;replace k0:=k0.mono hx2;replace k1:=k1.mono hx2
 simp [h0,b1]
 refine (c0i k1 hx.1 (by omega)).mono ?_
 rintro _ G2 ⟨⟨s3,s4,rfl,k4,k5⟩,hx2⟩
 replace b0:=hx2.blk b0;replace b1:=hx2.blk b1;replace b2:=hx2.blk b2;replace hx:=hx.trans hx2;replace k0:=k0.mono hx2;replace k1:=k1.mono hx2;replace k2:=k2.mono hx2;replace k3:=k3.mono hx2
 clear k0 k1
 have hz0:=a0i b0
 simp [h0,b0,k2.cells,k2.plain,k3.cells,k3.plain,hz0]
 generalize hS:Array.setIfInBounds _ _ _=G3
 have hsz:=hx.1;replace k2:=k2.setS hS b0 (by decide);replace k3:=k3.setS hS b0 (by decide);replace k4:=k4.setS hS b0 (by decide);replace k5:=k5.setS hS b0 (by decide);replace b1:=a0p hS b1 (by omega);replace b2:=a0p hS b2 (by omega);replace hx:=a0Y hS hx (by omega);replace b0:=a0v hS b0;clear hS hsz
 have hz0:=a0i b1
 simp [b1,k4.cells,k4.plain,k5.cells,k5.plain,hz0]
 generalize hS:Array.setIfInBounds _ _ _=G3
 have hsz:=hx.1;replace k2:=k2.setS hS b1 (by decide);replace k3:=k3.setS hS b1 (by decide);replace k4:=k4.setS hS b1 (by decide);replace k5:=k5.setS hS b1 (by decide);replace b0:=a0p hS b0 (by omega);replace b2:=a0p hS b2 (by omega);replace hx:=a0Y hS hx (by omega);replace b1:=a0v hS b1;clear hS hsz
 obtain ⟨x,hxv⟩:∃ x,x=b0u a:=⟨_,rfl⟩
 obtain ⟨y,hyv⟩:∃ y,y=b0u b:=⟨_,rfl⟩
 rw [← hxv] at sa k2 k3 b0 ⊢
 rw [← hyv] at sb k4 k5 b1 ⊢
 have k0:b0q _ (.agg #[.bool (a0f x).1.1,s1]) (a0k x.num):=⟨s1,rfl,k2⟩
 have k1:b0q _ (.agg #[.bool (a0f x).2.1,s2]) (a0k x.den):=⟨s2,rfl,k3⟩
 have k6:b0q _ (.agg #[.bool (a0f y).1.1,s3]) (a0k y.num):=⟨s3,rfl,k4⟩
 have k7:b0q _ (.agg #[.bool (a0f y).2.1,s4]) (a0k y.den):=⟨s4,rfl,k5⟩
 have l1:=e0I x
 have l2:=f0F x
 have l3:=e0I y
 have l4:=f0F y
 clear hs hu hs' hu' k2 k3 k4 k5
 refine a0G ?_
 simp [Q0R,h0,b0,b1]
 refine (b0B k0 k7 (by have:=hx.1;omega) (by rw [a0n];omega) (by rw [a0n];omega)).mono ?_
 rintro _ G2 ⟨k2,hx2⟩
 replace b0:=hx2.blk b0;replace b1:=hx2.blk b1;replace b2:=hx2.blk b2;replace hx:=hx.trans hx2;replace k1:=k1.mono hx2;replace k6:=k6.mono hx2;replace k7:=k7.mono hx2
 rw [a0j,a0j] at k2
 simp [h0,b0,b1]
 refine (b0B k6 k1 (by have:=hx.1;omega) (by rw [a0n];omega) (by rw [a0n];omega)).mono ?_
 rintro _ G2 ⟨k3,hx2⟩
 replace b0:=hx2.blk b0;replace b1:=hx2.blk b1;replace b2:=hx2.blk b2;replace hx:=hx.trans hx2;replace k1:=k1.mono hx2;replace k2:=k2.mono hx2;replace k6:=k6.mono hx2;replace k7:=k7.mono hx2
 rw [a0j,a0j] at k3
 obtain ⟨s5,hk3,k3'⟩:=k3
 subst hk3
 simp [h0,k3'.cells]
 generalize hN:Array.push _ _=G3
 obtain ⟨hx2,b3⟩:=g0R hN
 have hGs:G3.size=G2.size + 1:=by rw [← hN];simp
 clear hN
 have k3:b0q G2 (.agg #[.bool (a0k (y.num * x.den)).1,s5]) (a0k (y.num * x.den)):=⟨s5,rfl,k3'⟩
 replace b0:=hx2.blk b0;replace b1:=hx2.blk b1;replace b2:=hx2.blk b2;replace hx:=hx.trans hx2;replace k1:=k1.mono hx2;replace k2:=k2.mono hx2;replace k3:=k3.mono hx2;replace k6:=k6.mono hx2;replace k7:=k7.mono hx2
 have m1:=c0V x.num y.den
 have m2:=c0V y.num x.den
 refine (k0w k2 k3 (by simpa using b3) (by have:=hx.1;omega) (by rw [a0n];omega) (by rw [a0n];omega)).mono ?_
 rintro _ G2 ⟨k4,hx2⟩
 replace b0:=hx2.blk b0;replace b1:=hx2.blk b1;replace b2:=hx2.blk b2;replace hx:=hx.trans hx2;replace k1:=k1.mono hx2;replace k6:=k6.mono hx2;replace k7:=k7.mono hx2
 rw [a0j,a0j] at k4
 simp [h0,b0,b1]
 refine (b0B k1 k7 hx.1 (by rw [a0n];omega) (by rw [a0n];omega)).mono ?_
 rintro _ G2 ⟨k5,hx2⟩
 replace b2:=hx2.blk b2;replace hx:=hx.trans hx2;replace k4:=k4.mono hx2;replace k6:=k6.mono hx2;replace k7:=k7.mono hx2
 rw [a0j,a0j] at k5
 simp [h0]
 have m3:=s0s (x.num * y.den) (y.num * x.den)
 have m4:=c0V (x.den:Int) y.den
 refine (i0E k4 k5 hx.1 (by rw [a0n];omega) (by rw [a0n];omega) (by rw [a0j];have:=x.den_nz;have:=y.den_nz;exact Int.mul_ne_zero (by omega) (by omega))).mono ?_
 rintro _ G2 ⟨⟨s6,s7,rfl,k6,k7⟩,hx2⟩
 replace b2:=hx2.blk b2;replace hx:=hx.trans hx2
 rw [a0j,a0j,← o0s] at k6 k7 ⊢
 have hz:=a0i b2
 simp [h0,b2,k6.cells,k6.plain,k7.cells,k7.plain,hz]
 exact fun _=>⟨s6,s7,rfl,k6.setT b2 (by decide),k7.setT b2 (by decide)⟩
theorem f0w (h:b0P H v a) (k:b0P H w b) (hf:fl≤H.size) (hn:d0b a < 67108864) (hm:d0b b < 67108864) :
  a0S env fl M0U [v,w] H (fun r H'=>b0P H' r (a0f (b0u a * b0u b))∧Ext H H') R:=by
 have k0:=h
 have k1:=k
 obtain ⟨s,u,rfl,hs,hu⟩:=h
 obtain ⟨s',u',rfl,hs',hu'⟩:=k
 refine a0g h1E hf (h:=?_)
 intro ρ h0
 simp [c1Q,S0q,h0]
 generalize hG:Array.push (Array.push (Array.push H _) _) _=G
 have hx:Ext H G:=by rw [← hG];exact (Ext.refl H).push.push.push
 have b0:a0e.blk G H.size=.row false a0b [.bool a.1.1,s,.bool a.2.1,u]:=by rw [← hG];simp
 have b1:a0e.blk G (H.size + 1)=.row false a0b [.bool b.1.1,s',.bool b.2.1,u']:=by rw [← hG];simp
 have b2:a0e.blk G (H.size + 2)=.row false a0b [.bool false,.slice none 0 0,.bool false,.slice none 0 0]:=by rw [← hG];simp
 clear hG
 replace k0:=k0.mono hx
 replace k1:=k1.mono hx
 have sa:=c0y k0.ok.1 k0.ok.2
 have sb:=c0y k1.ok.1 k1.ok.2
 refine a0G ?_
 simp [S0r,h0,b0,b1]
 refine (c0i k0 (by have:=hx.1;omega) (by omega)).mono ?_
 rintro _ G2 ⟨⟨s1,s2,rfl,k2,k3⟩,hx2⟩
 replace b0:=hx2.blk b0;replace b1:=hx2.blk b1;replace b2:=hx2.blk b2;replace hx:=hx.trans hx2;replace k0:=k0.mono hx2;replace k1:=k1.mono hx2
 simp [h0,b1]
 refine (c0i k1 hx.1 (by omega)).mono ?_
 rintro _ G2 ⟨⟨s3,s4,rfl,k4,k5⟩,hx2⟩
 replace b0:=hx2.blk b0;replace b1:=hx2.blk b1;replace b2:=hx2.blk b2;replace hx:=hx.trans hx2;replace k0:=k0.mono hx2;replace k1:=k1.mono hx2;replace k2:=k2.mono hx2;replace k3:=k3.mono hx2
 clear k0 k1
 have hz0:=a0i b0
 simp [h0,b0,k2.cells,k2.plain,k3.cells,k3.plain,hz0]
 generalize hS:Array.setIfInBounds _ _ _=G3
 have hsz:=hx.1;replace k2:=k2.setS hS b0 (by decide);replace k3:=k3.setS hS b0 (by decide);replace k4:=k4.setS hS b0 (by decide);replace k5:=k5.setS hS b0 (by decide);replace b1:=a0p hS b1 (by omega);replace b2:=a0p hS b2 (by omega);replace hx:=a0Y hS hx (by omega);replace b0:=a0v hS b0;clear hS hsz
 have hz0:=a0i b1
 simp [b1,k4.cells,k4.plain,k5.cells,k5.plain,hz0]
 generalize hS:Array.setIfInBounds _ _ _=G3
 have hsz:=hx.1;replace k2:=k2.setS hS b1 (by decide);replace k3:=k3.setS hS b1 (by decide);replace k4:=k4.setS hS b1 (by decide);replace k5:=k5.setS hS b1 (by decide);replace b0:=a0p hS b0 (by omega);replace b2:=a0p hS b2 (by omega);replace hx:=a0Y hS hx (by omega);replace b1:=a0v hS b1;clear hS hsz
 obtain ⟨x,hxv⟩:∃ x,x=b0u a:=⟨_,rfl⟩
 obtain ⟨y,hyv⟩:∃ y,y=b0u b:=⟨_,rfl⟩
 rw [← hxv] at sa k2 k3 b0 ⊢
 rw [← hyv] at sb k4 k5 b1 ⊢
 have k0:b0q _ (.agg #[.bool (a0f x).1.1,s1]) (a0k x.num):=⟨s1,rfl,k2⟩
 have k1:b0q _ (.agg #[.bool (a0f x).2.1,s2]) (a0k x.den):=⟨s2,rfl,k3⟩
 have k6:b0q _ (.agg #[.bool (a0f y).1.1,s3]) (a0k y.num):=⟨s3,rfl,k4⟩
 have k7:b0q _ (.agg #[.bool (a0f y).2.1,s4]) (a0k y.den):=⟨s4,rfl,k5⟩
 have l1:=e0I x
 have l2:=f0F x
 have l3:=e0I y
 have l4:=f0F y
 clear hs hu hs' hu' k2 k3 k4 k5
 refine a0G ?_
 simp [S0s,h0,b0,b1]
 refine (b0B k0 k6 (by have:=hx.1;omega) (by rw [a0n];omega) (by rw [a0n];omega)).mono ?_
 rintro _ G2 ⟨k2,hx2⟩
 replace b0:=hx2.blk b0;replace b1:=hx2.blk b1;replace b2:=hx2.blk b2;replace hx:=hx.trans hx2;replace k1:=k1.mono hx2;replace k6:=k6.mono hx2;replace k7:=k7.mono hx2
 rw [a0j,a0j] at k2
 simp [h0,b0,b1]
 refine (b0B k1 k7 hx.1 (by rw [a0n];omega) (by rw [a0n];omega)).mono ?_
 rintro _ G2 ⟨k5,hx2⟩
 replace b2:=hx2.blk b2;replace hx:=hx.trans hx2;replace k2:=k2.mono hx2;replace k6:=k6.mono hx2;replace k7:=k7.mono hx2
 rw [a0j,a0j] at k5
 simp [h0]
 have m3:=c0V x.num y.num
 have m4:=c0V (x.den:Int) y.den
 refine (i0E k2 k5 hx.1 (by rw [a0n];omega) (by rw [a0n];omega) (by rw [a0j];have:=x.den_nz;have:=y.den_nz;exact Int.mul_ne_zero (by omega) (by omega))).mono ?_
 rintro _ G2 ⟨⟨s6,s7,rfl,k6,k7⟩,hx2⟩
 replace b2:=hx2.blk b2;replace hx:=hx.trans hx2
 rw [a0j,a0j,← o0H] at k6 k7 ⊢
 have hz:=a0i b2
 simp [h0,b2,k6.cells,k6.plain,k7.cells,k7.plain,hz]
 exact fun _=>⟨s6,s7,rfl,k6.setT b2 (by decide),k7.setT b2 (by decide)⟩
theorem c0h {n:Int} (hf:fl≤H.size) (h1:-9223372036854775808≤n) (h2:n < 9223372036854775808) :
  a0S env fl w0r [.int .i64 n] H (fun r H'=>b0P H' r (a0f (n:Rat))∧Ext H H') R:=by
 refine a0g h1A hf (h:=?_)
 intro ρ h0
 simp [c1M,S0d,S0e,h0]
 have hx:=(Ext.refl H).push (r:=.row false a0b [.bool false,.slice none 0 0,.bool false,.slice none 0 0])
 have b2:a0e.blk (Array.push H (.row false a0b [.bool false,.slice none 0 0,.bool false,.slice none 0 0])) H.size=_:=a0D
 generalize Array.push H _=G at *
 refine (c0r hx.1 h1 h2).mono ?_
 rintro _ G2 ⟨⟨s1,rfl,k2⟩,hx2⟩
 replace b2:=hx2.blk b2;replace hx:=hx.trans hx2
 simp [h0]
 refine (f0x hx.1).mono ?_
 rintro _ G2 ⟨⟨s2,rfl,k3⟩,hx2⟩
 replace b2:=hx2.blk b2;replace hx:=hx.trans hx2;replace k2:=k2.mono hx2
 have hz:=a0i b2
 simp [h0,b2,k2.cells,k2.plain,k3.cells,k3.plain,hz]
 refine fun _=>⟨s1,s2,?_,?_,?_⟩
 ·unfold a0f;rw [k1P,k1N];rfl
 ·unfold a0f;rw [k1P];exact k2.setT b2 (by decide)
 ·unfold a0f;rw [k1N];exact k3.setT b2 (by decide)
end
section
open Go
set_option maxHeartbeats 4000000
variable {fl:Nat} {H G:a0e} {R:a0E} {v w:Value} {a b:b0h}
abbrev b0T:=Int × b0h
def f0J (H:a0e) (v:Value) (e:b0T):Prop:=∃ s u,v=.agg #[.int .i64 e.1,.bool e.2.1.1,s,.bool e.2.2.1,u]∧Lim H s e.2.1.2∧Lim H u e.2.2.2
variable {e f:b0T}
theorem f0J.mono (h:f0J H v e) (hx:Ext H G):f0J G v e:=by obtain ⟨s,u,h1,h2,h3⟩:=h;exact ⟨s,u,h1,h2.mono hx,h3.mono hx⟩
theorem f0J.setT (h:f0J H v e) {p:Nat} {ro:Bool} {e':TypeId} {cs':List Value} {r:Blk} (hb:H.blk p=.row ro e' cs') (hne:e' ≠ a0h):f0J (H.setIfInBounds p r) v e:=by
 obtain ⟨s,u,h1,h2,h3⟩:=h;exact ⟨s,u,h1,h2.setT hb hne,h3.setT hb hne⟩
theorem f0J.setS {G3:a0e} {q:Nat} {X:Blk} {ro:Bool} {e':TypeId} {cs:List Value} (k:f0J H v e) (hS:Array.setIfInBounds H q X=G3) (hb:a0e.blk H q=.row ro e' cs) (hne:e' ≠ a0h):f0J G3 v e:=by rw [← hS];exact k.setT hb hne
theorem f0J.ok (h:f0J H v e):b0a e.2.1.2∧b0a e.2.2.2:=by obtain ⟨s,u,_,h2,h3⟩:=h;exact ⟨h2.ok,h3.ok⟩
def i0R (e:b0T):Bool:=if e.1 = -1 ∨ e.1=1 then d0O e.2 else if e.1=0 then n0F e.2 else false
def e0d (e:b0T):Int × Rat:=if i0R e then (if e.1=0 then (0,b0u e.2) else (e.1,0)) else (0,0)
def b0A (x:Int × Rat):b0T:=if x.1=0 then (0,a0f x.2) else (x.1,((false,[]),(false,[])))
def n0E (x y:Int × Rat):Int:=if x.1 < y.1 then -1 else if x.1 > y.1 then 1 else if x.1 ≠ 0 then 0 else M0M x.2 y.2
def c0o:b0h:=((false,[]),(false,[]))
theorem i0a:d0O c0o=true:=rfl
theorem f0h:b0u c0o=0:=by unfold b0u;rw [i0a];rfl
theorem f0d:b0P H (.agg #[.bool false,.slice none 0 0,.bool false,.slice none 0 0]) c0o:=⟨_,_,rfl,Lim.nil,Lim.nil⟩
theorem j0p (h:b0P H v a) (hf:fl≤H.size):a0S env fl A0D [v] H (fun r H'=>r=.bool (d0O a)∧Ext H H') R:=by
 obtain ⟨s,u,rfl,hs,hu⟩:=h
 refine a0g e1j hf (h:=?_)
 intro ρ h0
 simp [L0l,C0r,h0]
 have hsl:=hs.slen
 have hul:=hu.slen
 cases h1:a.1.1
 ·by_cases h2:a.1.2=[]
  ·cases h3:a.2.1
   ·simp [n0b,h0,h1,h2,h3,hsl,hul,d0O]
   ·simp [n0b,h0,h1,h2,h3,hsl,hul,d0O]
  ·simp [n0b,h0,h1,h2,hsl,hul,d0O]
 ·simp [n0b,h0,h1,hsl,hul,d0O]
theorem k0M (h:f0J H v e) (hf:fl≤H.size) (hn:d0b e.2 < 67108864):a0S env fl X0l [v] H (fun r H'=>r=.bool (i0R e)∧Ext H H') R:=by
 obtain ⟨s,u,rfl,hs,hu⟩:=h
 have k0:b0P H (.agg #[.bool e.2.1.1,s,.bool e.2.2.1,u]) e.2:=⟨s,u,rfl,hs,hu⟩
 refine a0g h1w hf (h:=?_)
 intro ρ h0
 simp [c1I,R0O,R0P,R0Q,h0]
 generalize hG:Array.push H _=G
 obtain ⟨hx2,b0⟩:=g0R hG
 have hx:=Ext.refl H
 clear hG
 replace hx:=hx.trans hx2;replace k0:=k0.mono hx2
 unfold i0R
 by_cases h1:e.1 = -1
 ·simp [h1,I0c,h0,b0]
  refine (j0p k0 hx.1).mono ?_
  rintro _ G2 ⟨rfl,hx2⟩
  simp
 ·by_cases h2:e.1=1
  ·simp [h2,x0M,I0c,h0,b0]
   refine (j0p k0 hx.1).mono ?_
   rintro _ G2 ⟨rfl,hx2⟩
   simp
  ·by_cases h3:e.1=0
   ·simp [h3,x0M,I0d,R0R,h0,b0]
    refine (h0D k0 hx.1 (by omega)).mono ?_
    rintro _ G2 ⟨rfl,hx2⟩
    simp
   ·simp [h1,h2,h3,x0M,I0d,R0S,h0,b0]
theorem g0b (h:b0P H v a) (hf:fl≤H.size) (hn:d0b a < 67108864):a0S env fl M0R [v] H (fun r H'=>f0J H' r (0,a0f (b0u a))∧Ext H H') R:=by
 have k0:=h
 obtain ⟨s,u,rfl,hs,hu⟩:=h
 refine a0g g1L hf (h:=?_)
 intro ρ h0
 simp [c1a,O0X,O0Y,h0]
 generalize hG:Array.push (Array.push H _) _=G
 have hx2:Ext H G:=by rw [← hG];exact (Ext.refl H).push.push
 have b0:a0e.blk G H.size=.row false a0b [.bool a.1.1,s,.bool a.2.1,u]:=by rw [← hG];simp
 have b1:a0e.blk G (H.size + 1)=.row false a0F [.int .i64 0,.bool false,.slice none 0 0,.bool false,.slice none 0 0]:=by rw [← hG];simp
 have hx:=Ext.refl H
 clear hG
 replace hx:=hx.trans hx2;replace k0:=k0.mono hx2
 try simp [b0]
 refine (b0E k0 (b:=c0o) f0d hx.1 hn (by decide)).mono ?_
 rintro _ G2 ⟨⟨s1,s2,rfl,k2,k3⟩,hx2⟩
 replace b1:=hx2.blk b1;replace hx:=hx.trans hx2
 rw [f0h,k1v] at k2 k3 ⊢
 have hz:=a0i b1
 simp [h0,b1,k2.cells,k2.plain,k3.cells,k3.plain,hz]
 exact fun _=>⟨s1,s2,rfl,k2.setT b1 (by decide),k3.setT b1 (by decide)⟩
theorem n0N (h:f0J H v e) (hf:fl≤H.size) (hn:d0b e.2 < 67108864):a0S env fl Y0Z [v] H (fun r H'=>f0J H' r (b0A (e0d e))∧Ext H H') R:=by
 have k0:=h
 obtain ⟨s,u,rfl,hs,hu⟩:=h
 have k1:b0P H (.agg #[.bool e.2.1.1,s,.bool e.2.2.1,u]) e.2:=⟨s,u,rfl,hs,hu⟩
 refine a0g h1i hf (h:=?_)
 intro ρ h0
 simp [c1u,Q0K,h0]
 generalize hG:Array.push (Array.push H _) _=G
 have hx2:Ext H G:=by rw [← hG];exact (Ext.refl H).push.push
 have b0:a0e.blk G H.size=.row false a0F [.int .i64 e.1,.bool e.2.1.1,s,.bool e.2.2.1,u]:=by rw [← hG];simp
 have b1:a0e.blk G (H.size + 1)=.row false a0F [.int .i64 0,.bool false,.slice none 0 0,.bool false,.slice none 0 0]:=by rw [← hG];simp
 have hx:=Ext.refl H
 clear hG
 replace hx:=hx.trans hx2;replace k0:=k0.mono hx2;replace k1:=k1.mono hx2
 simp [Q0L,h0,b0]
 refine (k0M k0 hx.1 hn).mono ?_
 rintro _ G2 ⟨rfl,hx2⟩
 replace b0:=hx2.blk b0;replace b1:=hx2.blk b1;replace hx:=hx.trans hx2;replace k1:=k1.mono hx2
 unfold e0d
 cases hm:i0R e
 ·simp [Q0M,h0]
  refine (g0b (a:=c0o) f0d hx.1 (by decide)).mono ?_
  rintro _ G2 ⟨⟨s1,s2,rfl,k2,k3⟩,hx2⟩
  replace b0:=hx2.blk b0;replace b1:=hx2.blk b1;replace hx:=hx.trans hx2;replace k1:=k1.mono hx2
  rw [f0h] at k2 k3 ⊢
  have hz:=a0i b1
  simp [h0,b1,k2.cells,k2.plain,k3.cells,k3.plain,hz,b0A]
  exact fun _=>⟨s1,s2,rfl,k2.setT b1 (by decide),k3.setT b1 (by decide)⟩
 ·by_cases h3:e.1=0
  ·simp [h3,H0Q,Q0N,h0,b0]
   refine (g0b k1 hx.1 hn).mono ?_
   rintro _ G2 ⟨⟨s1,s2,rfl,k2,k3⟩,hx2⟩
   replace b0:=hx2.blk b0;replace b1:=hx2.blk b1;replace hx:=hx.trans hx2
   have hz:=a0i b1
   simp [h0,b1,k2.cells,k2.plain,k3.cells,k3.plain,hz,b0A]
   exact fun _=>⟨s1,s2,rfl,k2.setT b1 (by decide),k3.setT b1 (by decide)⟩
  ·have hz:=a0i b1
   simp [h3,H0Q,Q0O,h0,b0,b1,hz,b0A]
   exact fun _=>⟨_,_,rfl,Lim.nil,Lim.nil⟩
theorem s0o (h:f0J H v e):d0b (b0A (e0d e)).2≤max (d0b e.2) 1:=by
 unfold e0d b0A
 have h1:=c0y h.ok.1 h.ok.2
 by_cases hm:i0R e=true
 ·by_cases h0:e.1=0
  ·simp [hm,h0,a0J];omega
  ·simp [hm,h0,d0b]
 ·simp [hm,a0J,e0w];omega
end
section
open Go
def t0W (b2 b:Nat) (A:b0b→a0e→Prop) (Z:b0b→a0e→Prop) (Q:d0X):d0X
 | .normal,t,H=>A t H
 | .exit j,t,H=>if j=b2 then A t H else if j=b then Z t H else Q (.exit j) t H
 | .ret,t,H=>Q .ret t H
section
variable {b2 b:Nat} {A Z:b0b→a0e→Prop} {Q:d0X} {t:b0b} {H:a0e}
@[simp] theorem V0o:t0W b2 b A Z Q .normal t H=A t H:=nr rfl
@[simp] theorem Z0t {j:Nat}:t0W b2 b A Z Q (.exit j) t H=if j=b2 then A t H else if j=b then Z t H else Q (.exit j) t H:=nr rfl
@[simp] theorem b1D:t0W b2 b A Z Q .ret t H=Q .ret t H:=nr rfl
end
def Rnd (nt ti tn n i:Nat) (Inv:Nat→(Nat→Value)→a0e→Prop) (t:b0b) (H:a0e):Prop :=
 ∃ ρ,t=T nt ρ∧ρ ti=.int .i64 (i:Int)∧ρ tn=.int .i64 (n:Int)∧Inv (i + 1) ρ H
theorem Rnd.mk {nt ti tn n i:Nat} {Inv:Nat→(Nat→Value)→a0e→Prop} {ρ:Nat→Value} {H:a0e} (h1:ρ ti=.int .i64 (i:Int)) (h2:ρ tn=.int .i64 (n:Int)) (h3:Inv (i + 1) ρ H):Rnd nt ti tn n i Inv (T nt ρ) H:=⟨ρ,rfl,h1,h2,h3⟩
theorem c0W {E:Env} {fl nt ti tn tc tx b b2 n:Nat} {body:SCode} {Z:b0b→a0e→Prop} {Q:d0X} {R:a0E} {ρ:Nat→Value} {H:a0e} {rc rx:List a0I} (Inv:Nat→(Nat→Value)→a0e→Prop)
  (hrc:rc=[⟨some tc,none,.bin 0 .lss (.tmp ti) (.tmp tn)⟩]) (hrx:rx=[⟨some tx,none,.bin 0 .add (.tmp ti) (.const (.int .i64 1))⟩,⟨some ti,none,.mv (.tmp tx)⟩])
  (hl:ti < nt∧tn < nt∧tc < nt∧tx < nt∧tc ≠ ti∧tc ≠ tn∧tx ≠ ti∧tx ≠ tn∧ti ≠ tn) (hn:n < 4611686018427387904)
  (h0:ρ ti=.int .i64 0) (hN:ρ tn=.int .i64 (n:Int)) (hI:Inv 0 ρ H)
  (stab:∀ i (ρ ρ':Nat→Value) H,(∀ k,k ≠ tc→k ≠ tx→k ≠ ti→ρ' k=ρ k)→Inv i ρ H→Inv i ρ' H)
  (step:∀ i ρ H,i < n→ρ ti=.int .i64 (i:Int)→ρ tn=.int .i64 (n:Int)→Inv i ρ H→W E fl body (T nt ρ) H (t0W b2 b (Rnd nt ti tn n i Inv) Z Q) R)
  (rest:∀ ρ H,ρ ti=.int .i64 (n:Int)→ρ tn=.int .i64 (n:Int)→Inv n ρ H→Z (T nt ρ) H) :
  W E fl (.loop (.seq (.reg rc) (.seq (.cond (.tmp tc) .skip (.exit b)) (.seq (.block b2 body) (.reg rx))))) (T nt ρ) H (e0Z b (h0H Z Q)) R:=by
 subst hrc hrx
 obtain ⟨l1,l2,l3,l4,n1,n2,n3,n4,n5⟩:=hl
 refine b0R (fun k t G=>∃ i ρ,i + k=n∧t=T nt ρ∧ρ ti=.int .i64 (i:Int)∧ρ tn=.int .i64 (n:Int)∧Inv i ρ G) Z n ?_ ?_ (fun _ _ h=>h)
 ·exact ⟨0,ρ,by omega,rfl,h0,hN,hI⟩
 ·clear h0 hN hI ρ H
  rintro k t G ⟨i,ρ,hik,rfl,g1,g2,hI⟩
  have e9:IntKind.i64.wrap ((i:Int) + 1)=((i + 1:Nat):Int):=by rw [a0R (by omega) (by omega)];omega
  have hstab:∀ v,Inv i (upd ρ tc v) G:=fun v=>stab i ρ _ G (fun k h1 _ _=>g0L (j1W h1)) hI
  refine g0M (l0f ?_)
  simp only [l0M,A0c,i0z,b0Q l1,b0Q l2,g1,g2,K0a,q0l,A0b,d0h,V0F]
  by_cases hi:i < n
  ·have hs:=step i (upd ρ tc (.bool true)) G hi (by rw [g0L n1];exact g1) (by rw [g0L n2];exact g2) (hstab _)
   have hd:decide ((i:Int) < (n:Int))=true:=by rw [j1n];omega
   rw [hd]
   refine g0M (j0j true (by rw [i0z,b0Q l3,l0D]) (fun _=>r0J ?_) (by simp))
   refine g0M (l0O ?_)
   have hfin:∀ t' H',Rnd nt ti tn n i Inv t' H'→WR E fl [⟨some tx,none,.bin 0 .add (.tmp ti) (.const (.int .i64 1))⟩,⟨some ti,none,.mv (.tmp tx)⟩] t' H' (fun t' H'=>∃ k',k' < k∧∃ i ρ,i + k' = n∧t' = T nt ρ∧ρ ti=.int .i64 (i:Int)∧ρ tn=.int .i64 (n:Int)∧Inv i ρ H') R:=by
    rintro t' H' ⟨ρ',rfl,q1,q2,q3⟩
    simp only [l0M,A0c,J0N,i0z,K0m,b0Q l1,q1,J0Y,e9,q0l,A0b,V0F,b0Q l4,l0D]
    refine ⟨k - 1,by omega,i + 1,_,by omega,rfl,l0D,?_,?_⟩
    ·rw [g0L n5,g0L n4];exact q2
    ·exact stab (i + 1) ρ' _ H' (fun k h1 h2 h3=>by rw [g0L (j1W h3),g0L (j1W h2)]) q3
   refine hs.mono fun e t' H' hq=>?_
   cases e with
   | normal=>exact l0f (hfin _ _ hq)
   | exit j =>
    simp only [t0W] at hq
    show (if j=b2 then _ else _)
    by_cases hj:j=b2
    ·rw [i1n hj] at hq ⊢;exact l0f (hfin _ _ hq)
    ·rw [i1k hj] at hq ⊢
     show (if j=b then _ else _)
     by_cases hj2:j=b
     ·rw [i1n hj2] at hq ⊢;exact hq
     ·rw [i1k hj2] at hq ⊢;exact hq
   | ret=>exact hq
  ·have:i=n:=by omega
   subst this
   have hd:decide ((i:Int) < (i:Int))=false:=by simp
   rw [hd]
   refine g0M (j0j false (by rw [i0z,b0Q l3,l0D]) (by simp) (fun _=>r0I ?_))
   show (if b=b then _ else _)
   rw [i1n rfl]
   exact rest _ _ (by rw [g0L n1];exact g1) (by rw [g0L n2];exact g2) (hstab _)
theorem k0B {Q:d0X}:h0H (fun t H=>Q .normal t H) Q=Q:=by
 funext e t H;cases e <;> rfl
theorem o0r {E:Env} {fl nt ti tn tc tx b b2 n:Nat} {body:SCode} {Q:d0X} {R:a0E} {ρ:Nat→Value} {H:a0e} {rc rx:List a0I} (Inv:Nat→(Nat→Value)→a0e→Prop)
  (hrc:rc=[⟨some tc,none,.bin 0 .lss (.tmp ti) (.tmp tn)⟩]) (hrx:rx=[⟨some tx,none,.bin 0 .add (.tmp ti) (.const (.int .i64 1))⟩,⟨some ti,none,.mv (.tmp tx)⟩])
  (hl:ti < nt∧tn < nt∧tc < nt∧tx < nt∧tc ≠ ti∧tc ≠ tn∧tx ≠ ti∧tx ≠ tn∧ti ≠ tn) (hn:n < 4611686018427387904)
  (h0:ρ ti=.int .i64 0) (hN:ρ tn=.int .i64 (n:Int)) (hI:Inv 0 ρ H)
  (stab:∀ i (ρ ρ':Nat→Value) H,(∀ k,k ≠ tc→k ≠ tx→k ≠ ti→ρ' k=ρ k)→Inv i ρ H→Inv i ρ' H)
  (step:∀ i ρ H,i < n→ρ ti=.int .i64 (i:Int)→ρ tn=.int .i64 (n:Int)→Inv i ρ H→W E fl body (T nt ρ) H (t0W b2 b (Rnd nt ti tn n i Inv) (fun t H=>Q .normal t H) Q) R)
  (rest:∀ ρ H,ρ ti=.int .i64 (n:Int)→ρ tn=.int .i64 (n:Int)→Inv n ρ H→Q .normal (T nt ρ) H) :
  W E fl (.loop (.seq (.reg rc) (.seq (.cond (.tmp tc) .skip (.exit b)) (.seq (.block b2 body) (.reg rx))))) (T nt ρ) H (e0Z b Q) R:=by
 rw [← k0B (Q:=Q)]
 exact c0W (Z:=fun t H=>Q .normal t H) (Q:=Q) Inv hrc hrx hl hn h0 hN hI stab step rest
def Sls {α:Type} (P:a0e→List Value→α→Prop) (H:a0e) (e sz:Nat) (v:Value) (l:List α):Prop :=
 ∃ cs,Sl H e sz v l.length cs∧∀ k (h:k < l.length),P H ((cs.drop (k * sz)).take sz) l[k]
def i0J {α:Type} (P:a0e→List Value→α→Prop):Prop:=∀ H G cs x,Ext H G→P H cs x→P G cs x
section
variable {α:Type} {P:a0e→List Value→α→Prop} {H G:a0e} {e sz:Nat} {v:Value} {l:List α}
theorem Sls.mono (hP:i0J P) (h:Sls P H e sz v l) (hx:Ext H G):Sls P G e sz v l:=by
 obtain ⟨cs,h1,h2⟩:=h;exact ⟨cs,h1.mono hx,fun k hk=>hP _ _ _ _ hx (h2 k hk)⟩
theorem Sls.slen (h:Sls P H e sz v l):g0Z v=some (.int .i64 l.length):=by obtain ⟨cs,h1,_⟩:=h;exact h1.slen
theorem Sls.ia (h:Sls P H e sz v l) {k:IntKind} {j:Nat} (hj:j < l.length):iaV sz v (.int k j)=some (adr sz v j):=by obtain ⟨cs,h1,_⟩:=h;exact h1.ia hj
theorem Sls.load (h:Sls P H e sz v l) {j:Nat} (hj:j < l.length) (hs:0 < sz):∃ cs,b0r H true sz (adr sz v j)=some (.agg cs.toArray)∧cs.length=sz∧P H cs l[j]:=by
 obtain ⟨cs,h1,h2⟩:=h
 refine ⟨_,h1.load (Ext.refl H) hj hs,?_,h2 j hj⟩
 have:=h1.1
 have:(j + 1) * sz≤l.length * sz:=i1r _ hj
 rw [i1D,i1W] at this
 simp;omega
theorem Sls.load1 (h:Sls P H e 1 v l) {j:Nat} (hj:j < l.length):∃ w,b0r H false 1 (adr 1 v j)=some w∧P H [w] l[j]:=by
 obtain ⟨cs,h1,h2⟩:=h
 refine ⟨_,h1.load1 (Ext.refl H) hj,?_⟩
 have h3:=h2 j hj
 have hl:=h1.1
 have:(cs.drop (j * 1)).take 1=[cs.getD j undef]:=by
  have hjc:j < cs.length:=by omega
  have e1:cs.getD j undef=cs[j]:=by simp [i1h,hjc]
  rw [j1s,i1Z hjc,e1];rfl
 rw [this] at h3;exact h3
theorem Sls.cells (h:Sls P H e sz v l):a0V v=[v]:=by obtain ⟨cs,h1,_⟩:=h;exact h1.cells
theorem Sls.plain (h:Sls P H e sz v l):a0t v=true:=by obtain ⟨cs,h1,_⟩:=h;exact h1.plain
theorem Sls.nil:Sls P H e sz (.slice none 0 0) ([]:List α):=⟨[],Sl.nil,fun k hk=>by simp at hk⟩
end
def b0d {α:Type} (P:a0e→List Value→α→Prop) (fl:Nat) (H:a0e) (e sz:Nat) (v:Value) (l:List α):Prop :=
 ∃ cs,Own fl H e sz v l.length cs∧∀ k (h:k < l.length),P H ((cs.drop (k * sz)).take sz) l[k]
section
variable {α:Type} {P:a0e→List Value→α→Prop} {H G:a0e} {fl e sz:Nat} {v:Value} {l:List α}
theorem b0d.sls (h:b0d P fl H e sz v l):Sls P H e sz v l:=by obtain ⟨cs,h1,h2⟩:=h;exact ⟨cs,h1.sl,h2⟩
theorem b0d.mono (hP:i0J P) (h:b0d P fl H e sz v l) (hx:Ext H G):b0d P fl G e sz v l:=by
 obtain ⟨cs,h1,h2⟩:=h;exact ⟨cs,h1.mono hx,fun k hk=>hP _ _ _ _ hx (h2 k hk)⟩
theorem b0d.nil:b0d P fl H e sz (.slice none 0 0) ([]:List α):=⟨[],Own.nil,fun k hk=>by simp at hk⟩
theorem b0d.slen (h:b0d P fl H e sz v l):g0Z v=some (.int .i64 l.length):=h.sls.slen
def Lx (H G:a0e):Prop:=∀ b ro cs,H.blk b=.row ro a0h cs→G.blk b=.row ro a0h cs
theorem b0d.lx (h:b0d P fl G e sz v l) (he:e ≠ a0h) {G':a0e} (hx:d0l (slB v) G G'):Lx G G':=by
 intro b ro cs hb
 obtain ⟨cs',⟨hl,⟨rfl,_⟩ | ⟨p,cap,rfl,hp,_⟩⟩,_⟩:=h
 ·rw [hx.2 b (a0i hb) (by simp [slB])];exact hb
 ·rw [hx.2 b (a0i hb) (by simp [slB];rintro rfl;rw [hp] at hb;cases hb;exact he rfl)];exact hb
theorem b0d.app (he:e ≠ a0h) (hO:∀ G' cs x,d0l (slB v) G G'→Lx G G'→P G cs x→P G' cs x) (h:b0d P fl G e sz v l) {e2 c bytes:Nat} {new:List Value} {x:α} (hx:P G new x) (hl:new.length=sz) (hp:new.all a0t=true) (hn:l.length < 1073741824) (hb:bytes≤1024) (hs:0 < sz) (hfl:fl≤G.size) :
  ∃ v' G',i0x fl (G.push (.row false e2 new)) e sz bytes v (.slice (some ⟨G.size,0,none⟩) 1 c)=some (v',G')∧b0d P fl G' e sz v' (l ++ [x])∧d0l (slB v) G G'∧(∀ H0,H0.size≤fl→Ext H0 G→Ext H0 G'):=by
 obtain ⟨cs,h1,h2⟩:=h
 obtain ⟨v',G',a1,a2,a3,a4⟩:=e0h (e2:=e2) (c:=c) h1 hl hp hn hb hs hfl (bytes:=bytes)
 refine ⟨v',G',a1,⟨cs ++ new,by simpa using a2,fun k hk=>?_⟩,a3,a4⟩
 have hcs:=h1.1
 by_cases hkl:k < l.length
 ·have h3:(k + 1) * sz≤l.length * sz:=i1r _ hkl
  rw [i1D,i1W] at h3
  rw [j1a hkl,j1w (by omega),j1N (by simp;omega)]
  exact hO _ _ _ a3 (b0d.lx ⟨cs,h1,h2⟩ he a3) (h2 k hkl)
 ·have hke:k=l.length:=by simp at hk;omega
  subst hke
  rw [i1J (i1j _),j1w (by omega),j1E (by omega),j1J,← hl,i1x]
  simpa using hO _ _ _ a3 (b0d.lx ⟨cs,h1,h2⟩ he a3) hx
end
theorem Lim.lx {H G:a0e} {v:Value} {l:List Nat} (h:Lim H v l) (hx:Lx H G):Lim G v l:=by
 obtain ⟨⟨hl,h1 | ⟨b,off,cap,ro,cells,rfl,hb,ho,hcs⟩⟩,h2⟩:=h
 ·exact ⟨⟨hl,.inl h1⟩,h2⟩
 ·exact ⟨⟨hl,.inr ⟨b,off,cap,ro,cells,rfl,hx _ _ _ hb,ho,hcs⟩⟩,h2⟩
theorem b0P.lx {H G:a0e} {v:Value} {a:b0h} (h:b0P H v a) (hx:Lx H G):b0P G v a:=by obtain ⟨s,u,h1,h2,h3⟩:=h;exact ⟨s,u,h1,h2.lx hx,h3.lx hx⟩
theorem f0J.lx {H G:a0e} {v:Value} {e:b0T} (h:f0J H v e) (hx:Lx H G):f0J G v e:=by obtain ⟨s,u,h1,h2,h3⟩:=h;exact ⟨s,u,h1,h2.lx hx,h3.lx hx⟩
end
section
open Go
set_option maxHeartbeats 4000000
variable {fl:Nat} {H G:a0e} {R:a0E} {v w:Value}
def PR (H:a0e) (cs:List Value) (a:b0h):Prop:=b0P H (.agg cs.toArray) a
def PE (H:a0e) (cs:List Value) (e:b0T):Prop:=f0J H (.agg cs.toArray) e
theorem a0Q:i0J PR:=fun _ _ _ _ hx h=>b0P.mono h hx
theorem b0N:i0J PE:=fun _ _ _ _ hx h=>f0J.mono h hx
abbrev b0v (H:a0e) (v:Value) (l:List b0h):Prop:=Sls PR H a0b 4 v l
abbrev c0I (H:a0e) (v:Value) (l:List b0T):Prop:=Sls PE H a0F 5 v l
def PS (H:a0e) (cs:List Value) (l:List b0h):Prop:=∃ v,cs=[v]∧b0v H v l
theorem d0A:i0J PS:=fun _ _ _ _ hx ⟨v,h1,h2⟩=>⟨v,h1,h2.mono a0Q hx⟩
abbrev e0Y (H:a0e) (v:Value) (l:List (List b0h)):Prop:=Sls PS H a0M 1 v l
theorem b0v.load {l:List b0h} (h:b0v H v l) {j:Nat} (hj:j < l.length):∃ w,b0r H true 4 (adr 4 v j)=some w∧b0P H w l[j]:=by
 obtain ⟨cs,h1,_,h3⟩:=Sls.load h hj (by omega);exact ⟨_,h1,h3⟩
theorem c0I.load {l:List b0T} (h:c0I H v l) {j:Nat} (hj:j < l.length):∃ w,b0r H true 5 (adr 5 v j)=some w∧f0J H w l[j]:=by
 obtain ⟨cs,h1,_,h3⟩:=Sls.load h hj (by omega);exact ⟨_,h1,h3⟩
theorem e0Y.load {l:List (List b0h)} (h:e0Y H v l) {j:Nat} (hj:j < l.length):∃ w,b0r H false 1 (adr 1 v j)=some w∧b0v H w l[j]:=by
 obtain ⟨w,h1,w',h2,h3⟩:=Sls.load1 h hj
 simp at h2;subst h2;exact ⟨_,h1,h3⟩
def r0x (a b:List b0h):Nat→Rat
 | 0=>0
 | n + 1=>r0x a b n + b0u (a.getD n c0o) * b0u (b.getD n c0o)
def Few (S:Nat) (l:List b0h):Prop:=∀ x ∈ l,d0b x≤S∧b0a x.1.2∧b0a x.2.2
theorem Few.sz {S:Nat} {l:List b0h} (h:Few S l) (n:Nat):szR (b0u (l.getD n c0o))≤S + 1:=by
 rw [i1h]
 by_cases hn:n < l.length
 ·rw [i1m hn]
  obtain ⟨h1,h2,h3⟩:=h _ (i1p hn)
  have:=c0y h2 h3
  simp;omega
 ·rw [i1s (by omega)]
  show szR (b0u c0o)≤_
  rw [f0h,e0w];omega
theorem J0p {S:Nat} {a b:List b0h} (ha:Few S a) (hb:Few S b):∀ n,szR (r0x a b n)≤n * (2 * S + 3) + 1
 | 0=>by simp [r0x,e0w]
 | n + 1=>by
  have h1:=J0p ha hb n
  have h2:=r0p (r0x a b n) (b0u (a.getD n c0o) * b0u (b.getD n c0o))
  have h3:=g0C (b0u (a.getD n c0o)) (b0u (b.getD n c0o))
  have h4:=ha.sz n
  have h5:=hb.sz n
  rw [r0x,i1D];omega
end
section
open Go
set_option maxHeartbeats 4000000
variable {fl:Nat} {H G:a0e} {R:a0E} {v w:Value} {a b:List b0T}
theorem b0d.cast {α:Type} {P:a0e→List Value→α→Prop} {fl e sz:Nat} {v v':Value} {l:List α} (h:v=v') (k:b0d P fl H e sz v' l):b0d P fl H e sz v l:=by rw [h];exact k
theorem y0b {α β γ:Type} {f:α→β→γ} {a:List α} {b:List β} {i:Nat} (h1:i < a.length) (h2:i < b.length):(List.zipWith f a b).take (i + 1)=(List.zipWith f a b).take i ++ [f a[i] b[i]]:=by
 have h:i < (List.zipWith f a b).length:=by simp;omega
 rw [i1B h,List.getElem_zipWith]
def y0h (l:List b0T):Prop:=∀ x ∈ l,d0b x.2 < 67108864
def leE (a b:List b0T):Bool:=a.length == b.length && !decide (true ∈ List.zipWith (fun e f=>decide (0 < n0E (e0d e) (e0d f))) a b)
def n0Z (e f:b0T):b0T:=b0A (if n0E (e0d e) (e0d f) < 0 then e0d f else e0d e)
def d0y {α:Type} (p:α→Bool) (l:List α):Bool:=l.any p
def z0J {α:Type} (p:α→Bool) (l:List α):Bool:=l.all p
section
variable {α:Type} {p:α→Bool} {l:List α} {i:Nat}
theorem h0N:d0y p []=false:=rfl
theorem w0f:z0J p []=true:=rfl
theorem f0L (h:i < l.length):d0y p (l.take (i + 1))=(d0y p (l.take i) || p l[i]):=by
 unfold d0y;rw [i1B h,List.any_append];simp
theorem r0K (h:i < l.length):z0J p (l.take (i + 1))=(z0J p (l.take i) && p l[i]):=by
 unfold z0J;rw [i1B h,k1H];simp
theorem h0O (h:i < l.length) (hp:p l[i]=true):d0y p l=true:=List.any_eq_true.2 ⟨_,i1p h,hp⟩
theorem t0G (h:i < l.length) (hp:p l[i]=false):z0J p l=false:=by
 unfold z0J;rw [List.all_eq_false];exact ⟨l[i],i1p h,by simp [hp]⟩
end
theorem n0G {p:b0T→Bool} {g:FuncId} (ha:c0I H v a) (hf:fl≤H.size) (hfa:y0h a) (hal:a.length < 1073741824)
  (hg:∀ (fl:Nat) (G:a0e) (v:Value) (e:b0T),fl≤G.size→f0J G v e→d0b e.2 < 67108864→a0S env fl g [v] G (fun r H'=>r=.bool (p e)∧Ext G H') R) :
  a0S env fl Z0i [v,.func (.func g) #[] #[]] H (fun r H'=>(∃ z:Int,r=.int .i64 z∧(0≤z ↔ d0y p a=true))∧Ext H H') R:=by
 refine a0g h1z hf (h:=?_)
 intro ρ h0
 simp [c1L,R0X,R0Y,h0,ha.slen]
 refine c0W (n:=a.length) (fun i ρ G=>ρ 0=v∧ρ 1=.func (.func g) #[] #[]∧Ext H G∧d0y p (a.take i)=false)
  rfl rfl (by decide) (by omega) (by simp) (by simp) ?_ ?_ ?_ ?_
 ·exact ⟨by simp [h0],by simp [h0],Ext.refl H,by rw [k1V];exact h0N⟩
 ·intro i ρ ρ' G h hI;simpa [h] using hI
 ·clear h0 ρ
  rintro i ρ G hi gi gn ⟨g0,g1,hx,hc⟩
  have ka:=ha.mono b0N hx
  obtain ⟨w,hl,k0⟩:=c0I.load ka hi
  simp [R0Z,S0a,gi,g0,g1,ka.ia hi,hl]
  refine (hg _ _ _ _ hx.1 k0 (hfa _ (i1p hi))).mono ?_
  rintro _ G2 ⟨rfl,hx2⟩
  have hx':=hx.trans hx2
  cases hp:p a[i]
  ·simp
   refine Rnd.mk (by simp [gi]) (by simp [gn]) ⟨by simp [g0],by simp [g1],hx',by rw [f0L hi,hc,hp];rfl⟩
  ·simp [S0b,gi]
   exact fun _=>h0O hi hp
 ·clear h0 ρ
  rintro ρ G gi gn ⟨g0,g1,hx,hc⟩
  rw [i1x] at hc
  simp [S0c,hc]
theorem f0I {p:b0T→Bool} {g:FuncId} (ha:c0I H v a) (hf:fl≤H.size) (hfa:y0h a) (hal:a.length < 1073741824)
  (hg:∀ (fl:Nat) (G:a0e) (v:Value) (e:b0T),fl≤G.size→f0J G v e→d0b e.2 < 67108864→a0S env fl g [v] G (fun r H'=>r=.bool (p e)∧Ext G H') R) :
  a0S env fl X0i [v,.func (.func g) #[] #[]] H (fun r H'=>r=.bool (d0y p a)∧Ext H H') R:=by
 refine a0g g1X hf (h:=?_)
 intro ρ h0
 simp [c1m,P0Y,P0Z,h0]
 refine (n0G (p:=p) ha (i1j _) hfa hal hg).mono ?_
 rintro _ G2 ⟨⟨z,rfl,hz⟩,hx2⟩
 simp
 intro _
 rw [k1G,j1n];exact hz
theorem l0h {e:b0T} (h:f0J H v e) (hf:fl≤H.size) (hn:d0b e.2 < 67108864):a0S env fl Z0f [v] H (fun r H'=>r=.bool (!i0R e)∧Ext H H') R:=by
 have k0:=h
 obtain ⟨s,u,rfl,hs,hu⟩:=h
 refine a0g h1v hf (h:=?_)
 intro ρ h0
 simp [c1H,R0M,R0N,h0]
 generalize hG:Array.push H _=G
 obtain ⟨hx2,b0⟩:=g0R hG
 have hx:=Ext.refl H
 clear hG
 replace hx:=hx.trans hx2;replace k0:=k0.mono hx2
 try simp [b0]
 refine (k0M k0 hx.1 hn).mono ?_
 rintro _ G2 ⟨rfl,hx2⟩
 simp
def d0q (H:a0e) (v:Value) (rows:List (List b0h)):Prop:=∃ s,v=.agg #[s]∧e0Y H s rows
def r0j (n:Int) (r:List b0h):Bool:=decide ((r.length:Int)=n) && z0J n0F r
def l0b (rows:List (List b0h)) (n:Int):Bool:=decide (0≤n) && decide (n≤6) && decide (rows.length≤40) && z0J (r0j n) rows
theorem l0p {S:Nat} {rows:List (List b0h)} {n:Int} (h:d0q H v rows) (hf:fl≤H.size) (hS:S < 67108864) (hr:∀ r ∈ rows,Few S r∧r.length < 1073741824) (hrl:rows.length < 1073741824) :
  a0S env fl Z0e [v,.int .i64 n] H (fun r H'=>r=.bool (l0b rows n)∧Ext H H') R:=by
 obtain ⟨s,rfl,hs⟩:=h
 refine a0g h1u hf (h:=?_)
 intro ρ h0
 simp [c1G,R0I,h0,hs.cells]
 generalize hG:Array.push H _=G
 obtain ⟨hx2,b0⟩:=g0R hG
 have hx:=Ext.refl H
 clear hG
 replace hx:=hx.trans hx2
 unfold l0b
 by_cases h1:n < 0
 ·have h1':¬ 0≤n:=by omega
  simp [t0a,x0L,h0,h1,h1']
 ·have h1':0≤n:=by omega
  by_cases h2:6 < n
  ·have h2':¬ n≤6:=by omega
   simp [t0a,x0L,h0,h1,h1',h2,h2']
  ·have h2':n≤6:=by omega
   by_cases h3:40 < rows.length
   ·have h3':¬ rows.length≤40:=by omega
    have h3'':(40:Int) < (rows.length:Int):=by omega
    simp [t0a,x0L,h0,b0,(hs.mono d0A hx).slen,hs.slen,h1,h1',h2,h2',h3,h3',h3'']
   ·have h3':rows.length≤40:=by omega
    have h3'':¬ (40:Int) < (rows.length:Int):=by omega
    simp [t0a,R0J,h0,b0,hs.slen,h1,h1',h2,h2',h3,h3',h3'']
    refine c0W (n:=rows.length) (fun i ρ G=>ρ 1=.int .i64 n∧ρ 22=s∧Ext H G∧z0J (r0j n) (rows.take i)=true)
     rfl rfl (by decide) (by omega) (by simp) (by simp) ?_ ?_ ?_ ?_
    ·exact ⟨by simp [h0],by simp,hx,by rw [k1V];exact w0f⟩
    ·intro i ρ ρ' G h hI;simpa [h] using hI
    ·clear h0 ρ hx b0 hx2
     rintro i ρ G hi gi gn ⟨g1,g22,hx,hc⟩
     have ks:=hs.mono d0A hx
     obtain ⟨w,hl,kw⟩:=e0Y.load ks hi
     obtain ⟨hfew,hrl2⟩:=hr _ (i1p hi)
     by_cases hlen:(rows[i].length:Int)=n
     ·simp [I0a,I0b,R0L,g1,g22,gi,ks.ia hi,hl,kw.slen,hlen]
      refine o0r (n:=rows[i].length) (fun j ρ G=>ρ 1=.int .i64 n∧ρ 22=s∧ρ 24=.int .i64 (i:Int)∧ρ 23=.int .i64 (rows.length:Int)∧ρ 32=w∧Ext H G∧b0v G w rows[i]∧z0J n0F (rows[i].take j)=true)
       rfl rfl (by decide) (by omega) (by simp) (by simp [hlen]) ?_ ?_ ?_ ?_
      ·exact ⟨by simp [g1],by simp [g22],by simp [gi],by simp [gn],by simp,hx,kw,by rw [k1V];exact w0f⟩
      ·intro i ρ ρ' G h hI;simpa [h] using hI
      ·clear g1 g22 gi gn hx kw hl ks ρ G
       rintro j ρ G hj gj gm ⟨g1,g22,gi,gn,g32,hx,kw,hcj⟩
       obtain ⟨x,hlx,k0⟩:=b0v.load kw hj
       obtain ⟨s1,s2,rfl,k1,k2⟩:=id k0
       have hf2:=hfew _ (i1p hj)
       have hsz:=hx.1
       simp [H0W,g1,g22,g32,gj,kw.ia hj,hlx,k1.cells,k1.plain,k2.cells,k2.plain,hsz]
       generalize hN:Array.setIfInBounds (Array.push _ _) _ _=G3
       obtain ⟨hx2,b1⟩:=new1 hN
       clear hN
       replace hx:=hx.trans hx2;replace k0:=k0.mono hx2
       replace kw:=kw.mono a0Q hx2
       simp [H0X,b1]
       refine (h0D k0 hx.1 (by omega)).mono ?_
       rintro _ G2 ⟨rfl,hx2⟩
       replace hx:=hx.trans hx2
       replace kw:=kw.mono a0Q hx2
       cases hm:n0F rows[i][j]
       ·simp [H0Y]
        intros
        exact t0G hi (by unfold r0j;rw [t0G hj hm];simp)
       ·simp
        exact Rnd.mk (by simp [gj]) (by simp [gm]) ⟨by simp [g1],by simp [g22],by simp [gi],by simp [gn],by simp [g32],hx,kw,by rw [r0K hj,hcj,hm];rfl⟩
      ·rintro ρ G gj gm ⟨g1,g22,gi,gn,g32,hx,kw,hcj⟩
       rw [i1x] at hcj
       simp
       exact Rnd.mk gi gn ⟨g1,g22,hx,by rw [r0K hi,hc];unfold r0j;simp [hlen,hcj]⟩
     ·simp [I0a,I0b,R0K,g1,g22,gi,ks.ia hi,hl,kw.slen,hlen]
      intro _
      exact t0G hi (by unfold r0j;simp [hlen])
    ·clear h0 ρ hx b0 hx2
     rintro ρ G gi gn ⟨g1,g22,hx,hc⟩
     rw [i1x] at hc
     simp [H0Z,hc]
def f0i (rows:List (List b0h)) (n:Int) (d:List b0T):Bool:=l0b rows n && decide (d.length=rows.length) && !d0y (fun e=>!i0R e) d
theorem n0M {S:Nat} {rows:List (List b0h)} {n:Int} {d:List b0T} (h:d0q H v rows) (hd:c0I H w d) (hf:fl≤H.size) (hS:S < 67108864) (hr:∀ r ∈ rows,Few S r∧r.length < 1073741824) (hrl:rows.length < 1073741824) (hfd:y0h d) (hdl:d.length < 1073741824) :
  a0S env fl Y0R [v,.int .i64 n,w] H (fun r H'=>r=.bool (f0i rows n d)∧Ext H H') R:=by
 have kt:=h
 obtain ⟨s,rfl,hs⟩:=h
 refine a0g g1V hf (h:=?_)
 intro ρ h0
 simp [c1k,P0U,h0,hs.cells]
 generalize hG:Array.push H _=G
 obtain ⟨hx2,b0⟩:=g0R hG
 have hx:=Ext.refl H
 clear hG
 replace hx:=hx.trans hx2
 have kt2:d0q G (.agg #[s]) rows:=⟨s,rfl,hs.mono d0A hx⟩
 unfold f0i
 simp [P0V,h0,b0]
 refine (l0p (n:=n) kt2 hx.1 hS hr hrl).mono ?_
 rintro _ G2 ⟨rfl,hx2⟩
 replace b0:=hx2.blk b0;replace hx:=hx.trans hx2
 cases h1:l0b rows n
 ·simp
 ·by_cases h2:d.length=rows.length
  ·have h2':(d.length:Int)=(rows.length:Int):=by omega
   simp [h0,b0,hd.slen,hs.slen,h2,h2']
   refine (f0I (p:=fun e=>!i0R e) (hd.mono b0N hx) hx.1 hfd hdl (fun fl G v e hf h hn=>l0h h hf hn)).mono ?_
   rintro _ G2 ⟨rfl,hx2⟩
   simp
  ·have h2':¬ (d.length:Int)=(rows.length:Int):=by omega
   simp [h0,b0,hd.slen,hs.slen,h2,h2']
end
section
open Go
set_option maxHeartbeats 4000000
variable {fl:Nat} {H G:a0e} {R:a0E} {v w u:Value}
def i0g (l:List b0h):List b0h:=l.map fun x=>a0f (b0u x)
theorem r0t {α β:Type} {f:α→β} {l:List α} {i:Nat} (h:i < l.length):(l.map f).take (i + 1)=(l.map f).take i ++ [f l[i]]:=by
 rw [i1B (by simpa using h)];simp
theorem e0y {fl e sz bytes n c:Nat} {H H':a0e} {s v':Value} {xb:Option Addr} (hn:n ≠ 0) (h:i0x fl H e sz bytes s (.slice xb n c)=some (v',H')):∃ m k,v' = .slice (some ⟨H.size,0,none⟩) m k:=by
 unfold i0x at h
 split at h
 ·rename_i base len cap xb' n' c' heq
  cases heq
  rw [i1k hn] at h
  split at h
  ·split at h
   ·cases h
   ·split at h
    ·cases h
    ·split at h
     ·cases h
     ·split at h
      ·split at h
       ·cases h;exact ⟨_,_,rfl⟩
       ·cases h
      ·split at h
       ·cases h;exact ⟨_,_,rfl⟩
       split at h
       ·cases h
       ·split at h
        ·cases h;exact ⟨_,_,rfl⟩
        ·split at h
         ·split at h
          ·cases h;exact ⟨_,_,rfl⟩
          ·cases h
         ·cases h
  ·cases h
 ·cases h
def LxT (e:Nat) (H G:a0e):Prop:=∀ b ro cs,H.blk b=.row ro e cs→G.blk b=.row ro e cs
theorem b0d.lxT {α:Type} {P:a0e→List Value→α→Prop} {fl e sz e':Nat} {v:Value} {l:List α} (h:b0d P fl G e sz v l) (he:e ≠ e') {G':a0e} (hx:d0l (slB v) G G'):LxT e' G G':=by
 intro b ro cs hb
 obtain ⟨cs',⟨hl,⟨rfl,_⟩ | ⟨p,cap,rfl,hp,_⟩⟩,_⟩:=h
 ·rw [hx.2 b (a0i hb) (by simp [slB])];exact hb
 ·rw [hx.2 b (a0i hb) (by simp [slB];rintro rfl;rw [hp] at hb;cases hb;exact he rfl)];exact hb
theorem b0v.lx2 {l:List b0h} (h:b0v H v l) (h1:LxT a0b H G) (h2:Lx H G):b0v G v l:=by
 obtain ⟨cs,⟨hl,hs⟩,hp⟩:=h
 refine ⟨cs,⟨hl,?_⟩,fun k hk=>b0P.lx (hp k hk) h2⟩
 rcases hs with hs | ⟨b,off,cap,ro,cells,rfl,hb,ho,hcs⟩
 ·exact .inl hs
 ·exact .inr ⟨b,off,cap,ro,cells,rfl,h1 _ _ _ hb,ho,hcs⟩
theorem b0v.off {l:List b0h} {o:Option Nat} (h:b0v H v l) (hx:d0l o H G) (hne:slB v=none ∨ slB v ≠ o) (h2:Lx H G):b0v G v l:=by
 obtain ⟨cs,⟨hl,hs⟩,hp⟩:=h
 refine ⟨cs,⟨hl,?_⟩,fun k hk=>b0P.lx (hp k hk) h2⟩
 rcases hs with hs | ⟨b,off,cap,ro,cells,rfl,hb,ho,hcs⟩
 ·exact .inl hs
 ·refine .inr ⟨b,off,cap,ro,cells,rfl,?_,ho,hcs⟩
  rw [hx.2 b (a0i hb) (by rcases hne with h | h;simp [slB] at h;exact fun h3=>h h3.symm)];exact hb
theorem b0v.lt {l:List b0h} (h:b0v H v l) {b:Nat} (hb:slB v=some b):b < H.size:=by
 obtain ⟨cs,⟨hl,⟨rfl,_⟩ | ⟨b',off,cap,ro,cells,rfl,hb',ho,hcs⟩⟩,hp⟩:=h
 ·simp [slB] at hb
 ·simp [slB] at hb;subst hb;exact a0i hb'
structure LPt where
 n:Int
 A:List (List b0h)
 B:List b0h
 C:List b0h
def LPV (H:a0e) (v:Value) (p:LPt):Prop:=∃ sA sB sC,v=.agg #[.int .i64 p.n,sA,sB,sC]∧e0Y H sA p.A∧b0v H sB p.B∧b0v H sC p.C
def d0w:List (List b0h)→List b0T→List (List b0h)
 | r :: rs,e :: es=>if e.1=0 then i0g r :: d0w rs es else d0w rs es
 | _,_=>[]
def d0x:List (List b0h)→List b0T→List b0h
 | _ :: rs,e :: es=>if e.1=0 then a0f (b0u e.2) :: d0x rs es else d0x rs es
 | _,_=>[]
theorem k0s:∀ {rows:List (List b0h)} {d:List b0T} {i:Nat} (h1:i < rows.length) (h2:i < d.length),d0w (rows.take (i + 1)) (d.take (i + 1))=d0w (rows.take i) (d.take i) ++ if d[i].1=0 then [i0g rows[i]] else []
 | [],_,_,h,_=>by simp at h
 | _ :: _,[],_,_,h=>by simp at h
 | r :: rs,e :: es,0,_,_=>by simp [d0w]
 | r :: rs,e :: es,i + 1,h1,h2=>by
  have:=k0s (rows:=rs) (d:=es) (i:=i) (by simpa using h1) (by simpa using h2)
  simp only [k1A,d0w,this,k1D]
  split <;> simp
theorem k0t:∀ {rows:List (List b0h)} {d:List b0T} {i:Nat} (_:i < rows.length) (h2:i < d.length),d0x (rows.take (i + 1)) (d.take (i + 1))=d0x (rows.take i) (d.take i) ++ if d[i].1=0 then [a0f (b0u d[i].2)] else []
 | [],_,_,h,_=>by simp at h
 | _ :: _,[],_,_,h=>by simp at h
 | r :: rs,e :: es,0,_,_=>by simp [d0x]
 | r :: rs,e :: es,i + 1,h1,h2=>by
  have:=k0t (rows:=rs) (d:=es) (i:=i) (by simpa using h1) (by simpa using h2)
  simp only [k1A,d0x,this,k1D]
  split <;> simp
theorem r0i (H:a0e):∀ n:Nat,(e0G [.bool false,.slice none 0 0,.bool false,.slice none 0 0] n).length=n * 4∧∀ k,k < n→PR H (((e0G [.bool false,.slice none 0 0,.bool false,.slice none 0 0] n).drop (k * 4)).take 4) c0o
 | 0=>⟨rfl,fun k hk=>by omega⟩
 | n + 1=>by
  obtain ⟨h1,h2⟩:=r0i H n
  refine ⟨by rw [e0G,i1E,h1];simp;omega,fun k hk=>?_⟩
  cases k with
  | zero=>exact f0d
  | succ k =>
   have:=h2 k (by omega)
   rw [e0G,show (k + 1) * 4=4 + k * 4 by omega,← j1S]
   exact this
theorem b0d.ne {α:Type} {Q:a0e→List Value→α→Prop} {fl e sz e' p:Nat} {v:Value} {l:List α} {cs:List Value} {ro:Bool} (h:b0d Q fl G e sz v l) (hb:a0e.blk G p=.row ro e' cs) (he:e ≠ e'):slB v ≠ some p:=by
 obtain ⟨cs',⟨hl,⟨rfl,_⟩ | ⟨b,cap,rfl,hp,_⟩⟩,_⟩:=h
 ·simp [slB]
 ·simp [slB];rintro rfl;rw [hp] at hb;cases hb;exact he rfl
theorem b0d.ge {α:Type} {Q:a0e→List Value→α→Prop} {fl e sz:Nat} {v:Value} {l:List α} (h:b0d Q fl G e sz v l) {b:Nat} (hb:slB v=some b):fl≤b∧b < G.size:=by
 obtain ⟨cs',⟨hl,⟨rfl,_⟩ | ⟨b',cap,rfl,hp,hf⟩⟩,_⟩:=h
 ·simp [slB] at hb
 ·simp [slB] at hb;subst hb;exact ⟨hf,a0i hp⟩
theorem b0d.cells {α:Type} {Q:a0e→List Value→α→Prop} {fl e sz:Nat} {v:Value} {l:List α} (h:b0d Q fl G e sz v l):a0V v=[v]∧a0t v=true:=⟨h.sls.cells,h.sls.plain⟩
theorem b0d.low {α:Type} {Q:a0e→List Value→α→Prop} {fl fl' e sz:Nat} {v:Value} {l:List α} (h:b0d Q fl G e sz v l) (hl:fl'≤fl):b0d Q fl' G e sz v l:=by
 obtain ⟨cs',⟨hl',h1 | ⟨b',cap,rfl,hp,hf⟩⟩,h2⟩:=h
 ·exact ⟨cs',⟨hl',.inl h1⟩,h2⟩
 ·exact ⟨cs',⟨hl',.inr ⟨b',cap,rfl,hp,by omega⟩⟩,h2⟩
theorem b0d.off {α:Type} {Q:a0e→List Value→α→Prop} {fl e sz:Nat} {v:Value} {l:List α} {o:Option Nat} {G':a0e} (h:b0d Q fl G e sz v l) (hx:d0l o G G') (hne:slB v=none ∨ slB v ≠ o) (hQ:∀ cs x,Q G cs x→Q G' cs x):b0d Q fl G' e sz v l:=by
 obtain ⟨cs',⟨hl',h1 | ⟨b',cap,rfl,hp,hf⟩⟩,h2⟩:=h
 ·exact ⟨cs',⟨hl',.inl h1⟩,fun k hk=>hQ _ _ (h2 k hk)⟩
 ·refine ⟨cs',⟨hl',.inr ⟨b',cap,rfl,?_,hf⟩⟩,fun k hk=>hQ _ _ (h2 k hk)⟩
  rw [hx.2 b' (a0i hp) (by rcases hne with h | h;simp [slB] at h;exact fun h3=>h h3.symm)];exact hp
theorem b0d.lxm {α:Type} {Q:a0e→List Value→α→Prop} {fl e sz:Nat} {v:Value} {l:List α} {G':a0e} {Q':a0e→List Value→α→Prop} (h:b0d Q fl G e sz v l) (hx:LxT e G G') (hQ:∀ cs x,Q G cs x→Q' G' cs x):b0d Q' fl G' e sz v l:=by
 obtain ⟨cs',⟨hl',h1 | ⟨b',cap,rfl,hp,hf⟩⟩,h2⟩:=h
 ·exact ⟨cs',⟨hl',.inl h1⟩,fun k hk=>hQ _ _ (h2 k hk)⟩
 ·exact ⟨cs',⟨hl',.inr ⟨b',cap,rfl,hx _ _ _ hp,hf⟩⟩,fun k hk=>hQ _ _ (h2 k hk)⟩
theorem b0d.blkOf {α:Type} {Q:a0e→List Value→α→Prop} {fl e sz:Nat} {v:Value} {l:List α} (h:b0d Q fl G e sz v l):AI.blkW v=[] ∨ ∃ b,AI.blkW v=[b]∧slB v=some b:=by
 obtain ⟨cs',⟨hl',⟨rfl,_⟩ | ⟨b',cap,rfl,hp,hf⟩⟩,h2⟩:=h
 ·exact .inl rfl
 ·by_cases h00:l.length=0∧cap=0
  ·exact .inl (by simp only [AI.blkW];rw [i1n h00])
  ·exact .inr ⟨b',by simp only [AI.blkW];rw [i1k h00],rfl⟩
theorem b0c {G3:a0e} {q e e':Nat} {X:Blk} {cs:List Value} {ro:Bool} (hS:Array.setIfInBounds G q X=G3) (hb:a0e.blk G q=.row ro e' cs) (hne:e' ≠ e):LxT e G G3:=by
 intro b ro' cs' hb'
 rw [← hS,a0W (by rintro rfl;rw [hb] at hb';cases hb';exact hne rfl)];exact hb'
theorem e0Y.lx3 {l:List (List b0h)} (h:e0Y H v l) (h0:LxT a0M H G) (h1:LxT a0b H G) (h2:Lx H G):e0Y G v l:=by
 obtain ⟨cs,⟨hl,hs⟩,hp⟩:=h
 refine ⟨cs,⟨hl,?_⟩,fun k hk=>?_⟩
 ·rcases hs with hs | ⟨b,off,cap,ro,cells,rfl,hb,ho,hcs⟩
  ·exact .inl hs
  ·exact .inr ⟨b,off,cap,ro,cells,rfl,h0 _ _ _ hb,ho,hcs⟩
 ·obtain ⟨w,q1,q2⟩:=hp k hk;exact ⟨w,q1,q2.lx2 h1 h2⟩
theorem j0H:∀ (rows:List (List b0h)) (d:List b0T),(d0w rows d).length≤d.length
 | [],_=>by simp [d0w]
 | _ :: _,[]=>by simp [d0w]
 | r :: rs,e :: es=>by have:=j0H rs es;simp only [d0w];split <;> simp <;> omega
theorem m0x:∀ (rows:List (List b0h)) (d:List b0T),(d0x rows d).length≤d.length
 | [],_=>by simp [d0x]
 | _ :: _,[]=>by simp [d0x]
 | r :: rs,e :: es=>by have:=m0x rs es;simp only [d0x];split <;> simp <;> omega
theorem l0J {a:List (List b0h)} {p:List b0h→Bool} {g:FuncId} {c:Value} (I:a0e→Prop) (hI:∀ G G',Ext G G'→I G→I G') (h0:I H) (ha:e0Y H v a) (hf:fl≤H.size) (hal:a.length < 1073741824)
  (hg:∀ (fl:Nat) (G:a0e) (v:Value) (e:List b0h),I G→fl≤G.size→b0v G v e→a0S env fl g [v,c] G (fun r H'=>r=.bool (p e)∧Ext G H') R) :
  a0S env fl A0G [v,.func (.func g) #[] #[c]] H (fun r H'=>(∃ z:Int,r=.int .i64 z∧(0≤z ↔ d0y p a=true))∧Ext H H') R:=by
 refine a0g e1r hf (h:=?_)
 intro ρ h1
 simp [L0t,C0W,C0X,h1,ha.slen]
 refine c0W (n:=a.length) (fun i ρ G=>ρ 0=v∧ρ 1=.func (.func g) #[] #[c]∧Ext H G∧d0y p (a.take i)=false)
  rfl rfl (by decide) (by omega) (by simp) (by simp) ?_ ?_ ?_ ?_
 ·exact ⟨by simp [h1],by simp [h1],Ext.refl H,by rw [k1V];exact h0N⟩
 ·intro i ρ ρ' G h hI;simpa [h] using hI
 ·clear h1 ρ
  rintro i ρ G hi gi gn ⟨g0,g1,hx,hc⟩
  have ka:=ha.mono d0A hx
  obtain ⟨w,hl,k0⟩:=e0Y.load ka hi
  simp [C0Y,C0Z,gi,g0,g1,ka.ia hi,hl]
  refine (hg _ _ _ _ (hI _ _ hx h0) hx.1 k0).mono ?_
  rintro _ G2 ⟨rfl,hx2⟩
  have hx':=hx.trans hx2
  cases hp:p a[i]
  ·simp
   exact Rnd.mk (by simp [gi]) (by simp [gn]) ⟨by simp [g0],by simp [g1],hx',by rw [f0L hi,hc,hp];rfl⟩
  ·simp [D0a,gi]
   exact fun _=>h0O hi hp
 ·clear h1 ρ
  rintro ρ G gi gn ⟨g0,g1,hx,hc⟩
  rw [i1x] at hc
  simp [D0b,hc]
theorem j0e {a:List (List b0h)} {p:List b0h→Bool} {g:FuncId} {c:Value} (I:a0e→Prop) (hI:∀ G G',Ext G G'→I G→I G') (h0:I H) (ha:e0Y H v a) (hf:fl≤H.size) (hal:a.length < 1073741824)
  (hg:∀ (fl:Nat) (G:a0e) (v:Value) (e:List b0h),I G→fl≤G.size→b0v G v e→a0S env fl g [v,c] G (fun r H'=>r=.bool (p e)∧Ext G H') R) :
  a0S env fl Z0j [v,.func (.func g) #[] #[c]] H (fun r H'=>r=.bool (d0y p a)∧Ext H H') R:=by
 refine a0g h1F hf (h:=?_)
 intro ρ h1
 simp [c1R,S0t,S0u,h1]
 refine (l0J (p:=p) I hI h0 ha (i1j _) hal hg).mono ?_
 rintro _ G2 ⟨⟨z,rfl,hz⟩,hx2⟩
 simp
 intro _
 rw [k1G,j1n];exact hz
theorem m0k {l:List b0h} {b:Nat} {n:Int} {r:List Value} {e:TypeId} (hl:b0v H v l) (hb:H.blk b=.row false e (.int .i64 n :: r)) (hf:fl≤H.size) :
  a0S env fl Z0k [v,.pointer (some ⟨b,0,none⟩)] H (fun r H'=>r=.bool (!decide ((l.length:Int)=n))∧Ext H H') R:=by
 refine a0g h1G hf (h:=?_)
 intro ρ h0
 simp [c1S,S0v,S0w,h0,hl.slen,hb]
 by_cases h:(l.length:Int)=n
 ·simp [h]
 ·simp [h]
def n0m (p:LPt):Bool:=decide (0≤p.n) && decide (p.n≤60) && decide (p.A.length≤60) && decide (p.B.length=p.A.length) && decide ((p.C.length:Int)=p.n) && !d0y (fun r=>!decide ((r.length:Int)=p.n)) p.A
theorem q0e {p:LPt} (h:LPV H v p) (hf:fl≤H.size):a0S env fl Y0X [v] H (fun r H'=>r=.bool (n0m p)∧Ext H H') R:=by
 obtain ⟨sA,sB,sC,rfl,hA,hB,hC⟩:=h
 refine a0g h1g hf (h:=?_)
 intro ρ h0
 simp [c1s,Q0D,h0,hA.cells,hB.cells,hC.cells]
 generalize hG:Array.push H _=G
 obtain ⟨hx2,b0⟩:=g0R hG
 have hx:=Ext.refl H
 clear hG
 replace hx:=hx.trans hx2
 unfold n0m
 by_cases h1:p.n < 0
 ·have h1':¬ 0≤p.n:=by omega
  simp [n0e,p0s,h0,b0,h1,h1']
 have h1':0≤p.n:=by omega
 by_cases h2:60 < p.n
 ·have h2':¬ p.n≤60:=by omega
  simp [n0e,p0s,h0,b0,h1,h1',h2,h2']
 have h2':p.n≤60:=by omega
 by_cases h3:60 < p.A.length
 ·have h3':¬ p.A.length≤60:=by omega
  have h3'':(60:Int) < (p.A.length:Int):=by omega
  simp [n0e,p0s,h0,b0,h1,h1',h2,h2',h3,h3',h3'',hA.slen]
 have h3':p.A.length≤60:=by omega
 have h3'':¬ (60:Int) < (p.A.length:Int):=by omega
 by_cases h4:p.B.length=p.A.length
 case neg =>
  have h4':¬ (p.B.length:Int)=(p.A.length:Int):=by omega
  simp [n0e,p0s,h0,b0,h1,h1',h2,h2',h3,h3',h3'',h4,h4',hA.slen,hB.slen]
 have h4':(p.B.length:Int)=(p.A.length:Int):=by omega
 by_cases h5:(p.C.length:Int)=p.n
 case neg =>
  simp [n0e,p0s,h0,b0,h1,h1',h2,h2',h3,h3',h3'',h4,h4',h5,hA.slen,hB.slen,hC.slen]
 simp [n0e,Q0E,h0,b0,h1,h1',h2,h2',h3,h3',h3'',h4,h4',h5,hA.slen,hB.slen,hC.slen]
 refine (j0e (p:=fun r=>!decide ((r.length:Int)=p.n)) (c:=.pointer (some ⟨H.size,0,none⟩)) (fun G=>a0e.blk G H.size=.row false b0J [.int .i64 p.n,sA,sB,sC]) (fun _ _ hx h=>hx.blk h) b0 (hA.mono d0A hx) hx.1 (by omega)
  (fun fl G v e hb hf hl=>m0k hl hb hf)).mono ?_
 rintro _ G2 ⟨rfl,hx2⟩
 simp
theorem f0z {S:Nat} {l:List b0h} (hv:b0v H v l) (hf:fl≤H.size) (hfw:Few S l) (hS:S < 67108864) (hl:l.length < 1073741824) :
  a0S env fl y0A [v] H (fun r H'=>b0d PR H.size H' a0b 4 r (i0g l)∧Ext H H') R:=by
 refine a0g e1t hf (h:=?_)
 intro ρ h0
 have w1:IntKind.i64.wrap ((l.length:Int) + 1)=(l.length:Int) + 1:=a0R (by omega) (by omega)
 have hm:=X0v (bytes:=64) (k:=.i64) (k':=.i64) (l:=0) (c:=(l.length:Int) + 1) (by omega) (by omega) (by omega) (by omega)
 simp [L0v,D0m,D0n,D0o,h0,hv.slen,w1,hm]
 refine c0W (n:=l.length) (fun i ρ G=>ρ 10=v∧Ext H G∧b0d PR H.size G a0b 4 (ρ 3) ((i0g l).take i))
  rfl rfl (by decide) (by omega) (by simp) (by simp) ?_ ?_ ?_ ?_
 ·refine ⟨by simp [h0],(Ext.refl H).push,?_⟩
  simp
  exact ⟨[],Own.mk a0D rfl (i1j _),fun k hk=>by simp at hk⟩
 ·intro i ρ ρ' G h hI;simpa [h] using hI
 ·clear h0 ρ
  rintro i ρ G hi gi gn ⟨g6,hx,ho⟩
  obtain ⟨s,g3⟩:∃ s,ρ 3=s:=⟨_,rfl⟩
  rw [g3] at ho
  have kv:=hv.mono a0Q hx
  obtain ⟨x,hlx,k0⟩:=b0v.load kv hi
  obtain ⟨s1,s2,rfl,k1,k2⟩:=id k0
  have hf2:=hfw _ (i1p hi)
  have hsz:=hx.1
  simp [D0p,g6,gi,kv.ia hi,hlx,k1.cells,k1.plain,k2.cells,k2.plain,hsz]
  generalize hN:Array.setIfInBounds (Array.push _ _) _ _=G3
  obtain ⟨hx2,b1⟩:=new1 hN
  clear hN
  replace hx:=hx.trans hx2;replace k0:=k0.mono hx2
  replace ho:=ho.mono a0Q hx2
  simp [D0q,b1]
  refine (b0E k0 (b:=c0o) f0d hx.1 (by omega) (by decide)).mono ?_
  rintro _ G2 ⟨⟨s3,s4,rfl,k3,k4⟩,hx2⟩
  replace hx:=hx.trans hx2
  replace ho:=ho.mono a0Q hx2
  rw [f0h,k1v] at k3 k4 ⊢
  obtain ⟨s',G4,h1,h2,h3,h4⟩:=b0d.app (P:=PR) (sz:=4) (e:=a0b) (by decide) (fun G' cs x _ hl h=>b0P.lx h hl) ho (e2:=a0b) (c:=1) (bytes:=64) (new:=[.bool (a0f (b0u l[i])).1.1,s3,.bool (a0f (b0u l[i])).2.1,s4]) (x:=a0f (b0u l[i])) ⟨s3,s4,rfl,k3,k4⟩ rfl (by simp [k3.plain,k4.plain]) (by simp;omega) (by omega) (by omega) hx.1
  simp [g3,k3.cells,k4.cells,h1]
  exact Rnd.mk (by simp [gi]) (by simp [gn]) ⟨by simp [g6],h4 _ (i1j _) hx,b0d.cast (v':=s') (by simp) (by unfold i0g;rw [r0t hi];exact h2)⟩
 ·clear h0 ρ
  rintro ρ G gi gn ⟨g6,hx,ho⟩
  obtain ⟨s,g3⟩:∃ s,ρ 3=s:=⟨_,rfl⟩
  rw [g3] at ho
  rw [i1v (by simp [i0g])] at ho
  simp [D0r,g3]
  exact fun _=>ho
def PI (H:a0e) (cs:List Value) (z:Int):Prop:=b0q H (.agg cs.toArray) (a0k z)
theorem d0r:i0J PI:=fun _ _ _ _ hx h=>b0q.mono h hx
theorem b0q.lx {i:Bool × List Nat} (h:b0q H v i) (hx:Lx H G):b0q G v i:=by obtain ⟨s,h1,h2⟩:=h;exact ⟨s,h1,h2.lx hx⟩
theorem V0y {G3:a0e} {z1 z2 r1 r2:Blk} (hN:Array.setIfInBounds (Array.setIfInBounds (Array.push (Array.push G z1) z2) G.size r1) (G.size + 1) r2=G3):Ext G G3∧a0e.blk G3 G.size=r1∧a0e.blk G3 (G.size + 1)=r2:=by
 rw [← hN];exact new2
theorem b0d.store {α:Type} {Q:a0e→List Value→α→Prop} {fl e sz:Nat} {v:Value} {l:List α} {j:Nat} {x:α} {w:Value} (h:b0d Q fl G e sz v l) (hj:j < l.length) (hs:0 < sz) (hw:(a0V w).length=sz) (hp:(a0V w).all a0t=true)
  (hx:∀ G',d0l (slB v) G G'→Lx G G'→Q G' (a0V w) x) (he:e ≠ a0h) (hO:∀ G' cs y,d0l (slB v) G G'→Lx G G'→Q G cs y→Q G' cs y) :
  ∃ G',f0g fl G sz (adr sz v j) w=some G'∧b0d Q fl G' e sz v (l.set j x)∧d0l (slB v) G G':=by
 obtain ⟨cs,⟨hl,⟨rfl,h0⟩ | ⟨b,cap,rfl,hb,hf⟩⟩,h2⟩:=id h
 ·omega
 have hj2:(j + 1) * sz≤l.length * sz:=i1r _ hj
 rw [i1D,i1W] at hj2
 have hst:=n0t (fl:=fl) (b:=b) (o:=0 + j * sz) (n:=sz) (x:=w) hb hf hw (by omega) hp
 have hwe:=h0L (a0V w) cs (0 + j * sz) (by rw [hw];omega)
 have hwl:=c0z (a0V w) cs (0 + j * sz)
 generalize b0t cs (0 + j * sz) (a0V w)=cs' at *
 have hxb:d0l (slB (.slice (some ⟨b,0,none⟩) l.length cap)) G (G.setIfInBounds b (.row false e cs')):=d0l.refl.set
 have hlx:=b0d.lx h he hxb
 refine ⟨_,hst,⟨cs',⟨by rw [hwl,hl,List.length_set],.inr ⟨b,cap,by rw [List.length_set],by rw [a0z (a0i hb)],hf⟩⟩,fun k hk=>?_⟩,hxb⟩
 rw [List.length_set] at hk
 have hk2:(k + 1) * sz≤l.length * sz:=i1r _ hk
 rw [i1D,i1W] at hk2
 rw [i1P,hw] at hwe
 by_cases hkj:k=j
 ·subst hkj
  have key:(cs'.drop (k * sz)).take sz=a0V w:=by
   rw [hwe,k1f,List.drop_left' (by simp;omega),List.take_left' hw]
  rw [List.getElem_set_self,key]
  exact hx _ hxb hlx
 ·rw [l1c (by omega)]
  have key:(cs'.drop (k * sz)).take sz=(cs.drop (k * sz)).take sz:=by
   rw [hwe]
   apply k1s
   intro i
   by_cases hi:i < sz
   ·rw [j1u,i1n hi,j1u,i1n hi,j1z,j1z]
    by_cases hlt:k < j
    ·have:(k + 1) * sz≤j * sz:=i1r _ hlt
     rw [i1D,i1W] at this
     rw [k1f,i1V (by simp;omega),j1u,i1n (by omega)]
    ·have:(j + 1) * sz≤k * sz:=i1r _ (by omega)
     rw [i1D,i1W] at this
     rw [j1c (by simp [hw];omega),j1z]
     congr 1
     simp [hw];omega
   ·rw [j1u,i1k hi,j1u,i1k hi]
  rw [key];exact hO _ _ _ hxb hlx (h2 k hk)
structure Whole (xs:List Rat) (zs:List Int) (by':Rat) (K:Nat):Prop where
 len:zs.length=xs.length
 pos:0 < by'
 eq:∀ i (h:i < xs.length),((zs[i]'(by omega):Int):Rat)=xs[i] * by'
 szz:∀ z ∈ zs,lz z≤K
 szb:szR by'≤K
def z0W (H:a0e) (P:Nat) (v:Value) (xs:List Rat) (S:Nat) (i:Nat) (ρ:Nat→Value) (G:a0e):Prop :=
 ρ 0=v∧ρ 22=v∧ρ 3=.pointer (some ⟨H.size,0,none⟩)∧ρ 4=.pointer (some ⟨P,0,none⟩)∧Ext H G ∧
  a0e.blk G H.size=.row false a0b [.bool false,.slice none 0 0,.bool false,.slice none 0 0] ∧
  ∃ (m:Nat) (s:Value),0 < m∧a0e.blk G P=.row false a0a [.bool false,s]∧Lim G s (a0o m)∧(∀ k (h:k < xs.length),k < i→xs[k].den ∣ m)∧lz m≤1 + i * S
theorem y0c (a b:Nat):((a:Int).tdiv (b:Int))=((a / b:Nat):Int):=by rw [j1D (by omega)];rfl
theorem V0r (m q:Nat) (hm:0 < m) (hq:0 < q):m ∣ m * (q / Nat.gcd m q)∧q ∣ m * (q / Nat.gcd m q)∧0 < m * (q / Nat.gcd m q)∧q / Nat.gcd m q≤q:=by
 have hg:=Nat.gcd_pos_of_pos_left q hm
 refine ⟨Nat.dvd_mul_right _ _,?_,Nat.mul_pos hm (Nat.div_pos (Nat.le_of_dvd hq (Nat.gcd_dvd_right m q)) hg),j1K _ _⟩
 obtain ⟨c,hc⟩:=Nat.gcd_dvd_left m q
 have h1:Nat.gcd m q * (q / Nat.gcd m q)=q:=Nat.mul_div_cancel' (Nat.gcd_dvd_right m q)
 refine ⟨c,?_⟩
 calc m * (q / Nat.gcd m q)=(Nat.gcd m q * c) * (q / Nat.gcd m q):=by rw [← hc]
  _=(Nat.gcd m q * (q / Nat.gcd m q)) * c:=by grind
  _=q * c:=by rw [h1]
def o0n (xs:List Rat) (m:Nat):List Int:=xs.map fun x=>x.num * ((m / x.den:Nat):Int)
def z0X (H:a0e) (P P2:Nat) (v:Value) (xs:List Rat) (m K:Nat) (s:Value) (i:Nat) (ρ:Nat→Value) (G:a0e):Prop :=
 ρ 44=v∧ρ 3=.pointer (some ⟨H.size,0,none⟩)∧ρ 4=.pointer (some ⟨P,0,none⟩)∧ρ 11=.pointer (some ⟨P2,0,none⟩)∧Ext H G ∧
  a0e.blk G H.size=.row false a0b [.bool false,.slice none 0 0,.bool false,.slice none 0 0]∧a0e.blk G P=.row false a0a [.bool false,s]∧Lim G s (a0o m) ∧
  slB (ρ 10) ≠ some P∧slB (ρ 10) ≠ some P2 ∧
  ∃ (g:Nat) (sg:Value),a0e.blk G P2=.row false a0a [.bool false,sg]∧Lim G sg (a0o g)∧b0d PI H.size G a0a 2 (ρ 10) ((o0n xs m).take i) ∧
   (∀ k (h:k < xs.length),k < i→(g:Int) ∣ (o0n xs m).getD k 0)∧lz g≤K∧(i=0→g=0)
def p0F (H:a0e) (P P2:Nat) (so:Value) (xs:List Rat) (m g:Nat) (s sg:Value) (i:Nat) (ρ:Nat→Value) (G:a0e):Prop :=
 ρ 10=so∧ρ 3=.pointer (some ⟨H.size,0,none⟩)∧ρ 4=.pointer (some ⟨P,0,none⟩)∧ρ 11=.pointer (some ⟨P2,0,none⟩)∧Ext H G ∧
  a0e.blk G H.size=.row false a0b [.bool false,.slice none 0 0,.bool false,.slice none 0 0]∧a0e.blk G P=.row false a0a [.bool false,s]∧Lim G s (a0o m) ∧
  a0e.blk G P2=.row false a0a [.bool false,sg]∧Lim G sg (a0o g) ∧
  ∃ L:List Int,b0d PI H.size G a0a 2 so L∧L.length=xs.length∧∀ k,k < xs.length→L.getD k 0=if k < i then (o0n xs m).getD k 0 / (g:Int) else (o0n xs m).getD k 0
theorem OwnsI.load {fl:Nat} {l:List Int} (h:b0d PI fl H a0a 2 v l) {j:Nat} (hj:j < l.length):∃ w,b0r H true 2 (adr 2 v j)=some w∧b0q H w (a0k l[j]):=by
 obtain ⟨cs,h1,_,h3⟩:=Sls.load h.sls hj (by omega);exact ⟨_,h1,h3⟩
theorem N0c {z:Int} {g:Nat} (h:(g:Int) ∣ z):lz (z / (g:Int))≤lz z:=by
 refine u0a ?_
 rw [Int.natAbs_ediv_of_dvd h]
 exact j1K _ _
theorem y0e {x:Rat} {m g:Nat} (hm:x.den ∣ m) (hm0:0 < m) (hg:0 < g) (hd:(g:Int) ∣ x.num * ((m / x.den:Nat):Int)) :
  ((x.num * ((m / x.den:Nat):Int) / (g:Int):Int):Rat)=x * Rat.divInt (m:Int) (g:Int):=by
 obtain ⟨c,rfl⟩:=hm
 have hdp:=x.den_pos
 rw [Nat.mul_div_cancel_left _ hdp] at hd ⊢
 obtain ⟨z,hz⟩:=hd
 have hg0:(g:Int) ≠ 0:=by omega
 rw [hz,Int.mul_ediv_cancel_left _ hg0]
 conv=>rhs;lhs;rw [← l1l x]
 rw [Rat.divInt_mul_divInt]
 have h1:((z:Int):Rat)=Rat.divInt z 1:=by
  have:=l1l (z:Rat)
  rw [k1P,k1N] at this;exact this.symm
 rw [h1,Rat.divInt_eq_divInt_iff (by omega) (Int.mul_ne_zero (by omega) hg0)]
 rw [j1I,Int.mul_one]
 have:x.num * ((x.den:Int) * (c:Int))=(x.den:Int) * (x.num * c):=by grind
 rw [this,hz];grind
theorem o0v {m g:Nat} (hm:0 < m) (hg:0 < g):0 < Rat.divInt (m:Int) (g:Int):=by
 have h1:Rat.divInt (m:Int) (g:Int)=(m:Rat) * (g:Rat)⁻¹:=by rw [← l1o];exact k1R _ _
 rw [h1]
 exact l1f (Rat.natCast_pos.2 hm) (Rat.inv_pos.2 (Rat.natCast_pos.2 hg))
theorem g0I {S:Nat} {xs:List Rat} (hv:b0v H v (xs.map a0f)) (hf:fl≤H.size) (hS:∀ x ∈ xs,szR x≤S) (hK:(xs.length + 2) * (S + 1) < 67108864) :
  a0S env fl y0z [v] H (fun r H'=>(∃ q1 q2 by' zs,r=.tuple #[q1,q2]∧Whole xs zs by' ((xs.length + 2) * (S + 1))∧b0d PI H.size H' a0a 2 q1 zs∧b0P H' q2 (a0f by'))∧Ext H H') R:=by
 refine a0g e1s hf (h:=?_)
 intro ρ h0
 have hxl:xs.length < 67108864:=by
  have:(xs.length + 2) * 1≤(xs.length + 2) * (S + 1):=i1N _ (by omega)
  omega
 have hvl:=hv.slen
 rw [j1A] at hvl
 simp [L0u,D0e,h0]
 generalize hG:Array.push H _=G
 obtain ⟨hx2,b0⟩:=g0R hG
 have hx:=Ext.refl H
 clear hG
 replace hx:=hx.trans hx2
 simp [D0f]
 refine (c0r (n:=1) hx.1 (by omega) (by omega)).mono ?_
 rintro _ G2 ⟨⟨s1,rfl,k0⟩,hx2⟩
 replace b0:=hx2.blk b0;replace hx:=hx.trans hx2
 have hsz:=hx.1
 simp [h0,k0.cells,k0.plain,hsz]
 generalize hN:Array.setIfInBounds (Array.push _ _) _ _=G3
 obtain ⟨hx2,b1⟩:=new1 hN
 have hb0l:=a0i b0
 clear hN
 replace b0:=hx2.blk b0;replace hx:=hx.trans hx2;replace k0:=k0.mono hx2
 obtain ⟨P,hP⟩:∃ P,P=G2.size:=⟨_,rfl⟩
 rw [← hP] at b1 hsz hb0l ⊢
 simp [D0g,h0,hvl]
 have h1c:a0k 1=(false,a0o 1):=a0s 1
 rw [h1c] at b1 k0
 refine c0W (n:=xs.length) (z0W H P v xs S) rfl rfl (by decide) (by omega) (by simp) (by simp) ?_ ?_ ?_ ?_
 ·exact ⟨by simp [h0],by simp [h0],by simp,by simp,hx,b0,1,s1,by omega,b1,k0,fun k _ hk=>by omega,by rw [show ((1:Nat):Int)=1 from rfl,g0F];omega⟩
 ·intro i ρ ρ' G h hI;simpa [z0W,h] using hI
 ·clear h0 ρ hx b0 b1 k0 hx2
  rintro i ρ G hi gi gn ⟨g0,g22,g3,g4,hx,b0,m,s,hm0,b1,k0,hdv,hlm⟩
  have kv:=hv.mono a0Q hx
  have hil:i < (xs.map a0f).length:=by simpa using hi
  obtain ⟨x,hlx,k1⟩:=b0v.load kv hil
  rw [j1b] at k1
  obtain ⟨s1,s2,rfl,k2,k3⟩:=id k1
  have hsx:=hS _ (i1p hi)
  have hsz:=hx.1
  have hden:=xs[i].den_pos
  simp [D0h,g22,gi,kv.ia hil,hlx,k2.cells,k2.plain,k3.cells,k3.plain,hsz]
  generalize hN:Array.setIfInBounds (Array.push _ _) _ _=G3
  obtain ⟨hx2,b2⟩:=new1 hN
  clear hN
  replace b0:=hx2.blk b0;replace b1:=hx2.blk b1;replace hx:=hx.trans hx2;replace k0:=k0.mono hx2;replace k1:=k1.mono hx2;replace k2:=k2.mono hx2;replace k3:=k3.mono hx2
  have e2:(a0f xs[i]).2=a0k ((xs[i].den:Nat):Int):=rfl
  rw [e2] at k3 b2
  have k4:b0q G3 (.agg #[.bool false,s]) (a0k (m:Int)):=⟨s,by rw [a0s],by rw [a0s];exact k0⟩
  have k5:b0q G3 (.agg #[.bool (a0k ((xs[i].den:Nat):Int)).1,s2]) (a0k ((xs[i].den:Nat):Int)):=⟨s2,rfl,k3⟩
  have hld:=f0F xs[i]
  have hiS:i * S≤xs.length * S:=i1r _ (by omega)
  have hKe:(xs.length + 2) * (S + 1)=xs.length * S + xs.length + 2 * S + 2:=by grind
  refine a0G ?_
  simp [D0i,g4,b1,b2]
  refine (f0q k4 k5 (by have:=hx.1;omega) (by rw [a0n];omega) (by rw [a0n];omega)).mono ?_
  rintro _ G4 ⟨k6,hx2⟩
  replace b0:=hx2.blk b0;replace b1:=hx2.blk b1;replace b2:=hx2.blk b2;replace hx:=hx.trans hx2;replace k0:=k0.mono hx2;replace k1:=k1.mono hx2;replace k2:=k2.mono hx2;replace k3:=k3.mono hx2;replace k4:=k4.mono hx2;replace k5:=k5.mono hx2
  rw [a0j,a0j] at k6
  simp
  have hgg:Int.gcd (m:Int) (xs[i].den:Int)=Nat.gcd m xs[i].den:=rfl
  rw [hgg] at k6
  have hgp:=Nat.gcd_pos_of_pos_left xs[i].den hm0
  have hlg:lz (Nat.gcd m xs[i].den:Int)≤lz m:=b0e (Nat.gcd_le_left _ hm0)
  refine (b0V k5 k6 (by have:=hx.1;omega) (by rw [a0n];omega) (by rw [a0n];omega) (by rw [a0j];omega)).mono ?_
  rintro _ G4 ⟨⟨_,_,rfl,⟨s3,rfl,k7⟩,⟨s4,rfl,k8⟩⟩,hx2⟩
  replace b0:=hx2.blk b0;replace b1:=hx2.blk b1;replace b2:=hx2.blk b2;replace hx:=hx.trans hx2;replace k0:=k0.mono hx2;replace k1:=k1.mono hx2;replace k2:=k2.mono hx2;replace k3:=k3.mono hx2;replace k4:=k4.mono hx2;replace k5:=k5.mono hx2;replace k6:=k6.mono hx2
  rw [a0j,a0j,y0c] at k7 ⊢
  rw [a0j,a0j] at k8
  have hsz:=hx.1
  have hsz1:H.size≤G4.size + 1:=by omega
  simp [k7.cells,k7.plain,k8.cells,k8.plain,hsz,hsz1]
  generalize hN:Array.setIfInBounds (Array.setIfInBounds (Array.push (Array.push _ _) _) _ _) _ _=G5
  obtain ⟨hx2,b3,_⟩:=V0y hN
  clear hN
  replace b0:=hx2.blk b0;replace b1:=hx2.blk b1;replace b2:=hx2.blk b2;replace hx:=hx.trans hx2;replace k0:=k0.mono hx2;replace k1:=k1.mono hx2;replace k2:=k2.mono hx2;replace k3:=k3.mono hx2;replace k4:=k4.mono hx2;replace k5:=k5.mono hx2;replace k6:=k6.mono hx2;replace k7:=k7.mono hx2;replace k8:=k8.mono hx2
  simp [D0j,g4,b1,b3]
  obtain ⟨hl1,hl2,hl3,hl4⟩:=V0r m xs[i].den hm0 hden
  have hlq:lz ((xs[i].den / Nat.gcd m xs[i].den:Nat):Int)≤lz (xs[i].den:Int):=b0e hl4
  refine (b0B k4 (j:=a0k ((xs[i].den / Nat.gcd m xs[i].den:Nat):Int)) ⟨s3,rfl,k7⟩ hx.1 (by rw [a0n];omega) (by rw [a0n];omega)).mono ?_
  rintro _ G6 ⟨⟨s5,rfl,k8⟩,hx2⟩
  replace b0:=hx2.blk b0;replace b1:=hx2.blk b1;replace b2:=hx2.blk b2;replace b3:=hx2.blk b3;replace hx:=hx.trans hx2;replace k0:=k0.mono hx2;replace k1:=k1.mono hx2;replace k2:=k2.mono hx2;replace k3:=k3.mono hx2;replace k4:=k4.mono hx2;replace k5:=k5.mono hx2;replace k6:=k6.mono hx2;replace k7:=k7.mono hx2
  rw [a0j,a0j,← j1I,a0s] at k8 ⊢
  have hPs:H.size≤P:=by assumption
  simp [g4,b1,k8.cells,k8.plain,hPs]
  generalize hS':Array.setIfInBounds _ _ _=G7
  have hne:P ≠ H.size:=by omega
  have hx':=a0Y hS' hx hPs
  have b0':=a0p hS' b0 hne
  have k8':=k8.setS hS' b1 (by decide)
  have b1':=a0v hS' b1
  have hlm2:=c0V (m:Int) ((xs[i].den / Nat.gcd m xs[i].den:Nat):Int)
  refine Rnd.mk (by simp [gi]) (by simp [gn]) ⟨by simp [g0],by simp [g22],by simp [g3],by simp [g4],hx',b0',m * (xs[i].den / Nat.gcd m xs[i].den),s5,hl3,b1',k8',fun k h hk=>?_,?_⟩
  ·by_cases hki:k=i
   ·subst hki;exact hl2
   ·exact Nat.dvd_trans (hdv k h (by omega)) hl1
  ·rw [j1I,i1D,i1W];omega
 ·clear h0 ρ hx b0 b1 k0 hx2
  rintro ρ G gi gn ⟨g0,g22,g3,g4,hx,b0,m,s,hm0,b1,k0,hdv,hlm⟩
  have hPs:H.size≤P:=by assumption
  have hKe:(xs.length + 2) * (S + 1)=xs.length * S + xs.length + 2 * S + 2:=by grind
  have hK2:(xs.length + 1) * (S + 1)≤(xs.length + 2) * (S + 1):=i1r _ (by omega)
  have hsz:=hx.1
  have hb1l:=a0i b1
  simp [D0k,D0l,hsz]
  generalize hN:Array.setIfInBounds (Array.push _ _) _ _=G3
  obtain ⟨hx2,b2⟩:=new1 hN
  clear hN
  replace b0:=hx2.blk b0;replace b1:=hx2.blk b1;replace hx:=hx.trans hx2;replace k0:=k0.mono hx2
  obtain ⟨P2,hP2⟩:∃ P2,P2=G.size:=⟨_,rfl⟩
  rw [← hP2] at b2 hsz hb1l ⊢
  simp [x0f,g0,hvl]
  refine c0W (n:=xs.length) (z0X H P P2 v xs m ((xs.length + 1) * (S + 1)) s) rfl rfl (by decide) (by omega) (by simp) (by simp) ?_ ?_ ?_ ?_
  ·exact ⟨by simp [g0],by simp [g3],by simp [g4],by simp,hx,b0,b1,k0,by simp [slB],by simp [slB],0,_,b2,by rw [a0X];exact Lim.nil,by simpa using b0d.nil,fun k _ hk=>by omega,by rw [show ((0:Nat):Int)=0 from rfl,c0K];omega,fun _=>rfl⟩
  ·intro i ρ ρ' G h hI;simpa [z0X,h] using hI
  ·clear g0 g22 g3 g4 gi gn hx b0 b1 b2 k0 hx2 ρ
   rintro i ρ G hi gi gn ⟨g44,g3,g4,g11,hx,b0,b1,k0,ns1,ns2,g,sg,b2,k1,ho,hdg,hlg,hg0⟩
   obtain ⟨so,g10⟩:∃ so,ρ 10=so:=⟨_,rfl⟩
   rw [g10] at ns1 ns2 ho
   have kv:=hv.mono a0Q hx
   have hil:i < (xs.map a0f).length:=by simpa using hi
   obtain ⟨x,hlx,k2⟩:=b0v.load kv hil
   rw [j1b] at k2
   obtain ⟨s1,s2,rfl,k3,k4⟩:=k2
   have hsx:=hS _ (i1p hi)
   have hsz:=hx.1
   have hden:=xs[i].den_pos
   have hln:=e0I xs[i]
   have hld:=f0F xs[i]
   have hyl:i < (o0n xs m).length:=by simpa [o0n] using hi
   have hyi:(o0n xs m)[i]=xs[i].num * ((m / xs[i].den:Nat):Int):=by simp [o0n]
   have hyd:(o0n xs m).getD i 0=xs[i].num * ((m / xs[i].den:Nat):Int):=by rw [i1h,i1m hyl,← hyi];rfl
   obtain ⟨y,hy⟩:∃ y,y=xs[i].num * ((m / xs[i].den:Nat):Int):=⟨_,rfl⟩
   have hly:lz y≤(xs.length + 1) * (S + 1):=by
    have h1:=c0V xs[i].num ((m / xs[i].den:Nat):Int)
    have h2:lz ((m / xs[i].den:Nat):Int)≤lz m:=b0e (j1K _ _)
    have h3:(xs.length + 1) * (S + 1)=xs.length * S + xs.length + S + 1:=by grind
    rw [hy];omega
   simp [x0g,g44,gi,kv.ia hil,hlx,k3.cells,k3.plain,k4.cells,k4.plain,hsz]
   generalize hN:Array.setIfInBounds (Array.push _ _) _ _=G3
   obtain ⟨hx2,b3⟩:=new1 hN
   clear hN
   replace b0:=hx2.blk b0;replace b1:=hx2.blk b1;replace b2:=hx2.blk b2;replace hx:=hx.trans hx2;replace k0:=k0.mono hx2;replace k1:=k1.mono hx2;replace k3:=k3.mono hx2;replace k4:=k4.mono hx2
   replace ho:=ho.mono d0r hx2
   have e2:(a0f xs[i]).2=a0k ((xs[i].den:Nat):Int):=rfl
   have e1:(a0f xs[i]).1=a0k xs[i].num:=rfl
   rw [e1] at k3
   rw [e2] at k4
   rw [e1,e2] at b3
   simp [x0h,g4,b1,b3]
   refine (b0V (i:=a0k (m:Int)) (j:=a0k ((xs[i].den:Nat):Int)) ⟨s,by rw [a0s],by rw [a0s];exact k0⟩ ⟨s2,rfl,k4⟩ hx.1 (by rw [a0n];omega) (by rw [a0n];omega) (by rw [a0j];omega)).mono ?_
   rintro _ G4 ⟨⟨_,_,rfl,⟨s3,rfl,k5⟩,⟨s4,rfl,k6⟩⟩,hx2⟩
   replace b0:=hx2.blk b0;replace b1:=hx2.blk b1;replace b2:=hx2.blk b2;replace b3:=hx2.blk b3;replace hx:=hx.trans hx2;replace k0:=k0.mono hx2;replace k1:=k1.mono hx2;replace k3:=k3.mono hx2
   replace ho:=ho.mono d0r hx2
   rw [a0j,a0j,y0c] at k5 ⊢
   rw [a0j,a0j] at k6
   have hsz:=hx.1
   have hsz1:H.size≤G4.size + 1:=by omega
   simp [k5.cells,k5.plain,k6.cells,k6.plain,hsz,hsz1]
   generalize hN:Array.setIfInBounds (Array.setIfInBounds (Array.push (Array.push _ _) _) _ _) _ _=G5
   obtain ⟨hx2,b4,_⟩:=V0y hN
   clear hN
   replace b0:=hx2.blk b0;replace b1:=hx2.blk b1;replace b2:=hx2.blk b2;replace b3:=hx2.blk b3;replace hx:=hx.trans hx2;replace k0:=k0.mono hx2;replace k1:=k1.mono hx2;replace k3:=k3.mono hx2;replace k5:=k5.mono hx2;replace k6:=k6.mono hx2
   replace ho:=ho.mono d0r hx2
   have hlq:lz ((m / xs[i].den:Nat):Int)≤lz m:=b0e (j1K _ _)
   simp [x0i,b3,b4]
   refine (b0B (i:=a0k xs[i].num) (j:=a0k ((m / xs[i].den:Nat):Int)) ⟨s1,rfl,k3⟩ ⟨s3,rfl,k5⟩ hx.1 (by rw [a0n];omega) (by rw [a0n];omega)).mono ?_
   rintro _ G6 ⟨⟨s5,rfl,k7⟩,hx2⟩
   replace b0:=hx2.blk b0;replace b1:=hx2.blk b1;replace b2:=hx2.blk b2;replace b3:=hx2.blk b3;replace b4:=hx2.blk b4;replace hx:=hx.trans hx2;replace k0:=k0.mono hx2;replace k1:=k1.mono hx2;replace k3:=k3.mono hx2;replace k5:=k5.mono hx2;replace k6:=k6.mono hx2
   replace ho:=ho.mono d0r hx2
   rw [a0j,a0j,← hy] at k7 ⊢
   have hsz:=hx.1
   have hso:∀ b,slB so=some b→b < G6.size:=fun b h=>(ho.ge h).2
   simp [k7.cells,k7.plain,hsz]
   generalize hN:Array.setIfInBounds (Array.push _ _) _ _=G7
   obtain ⟨hx2,b5⟩:=new1 hN
   clear hN b3 b4
   replace b0:=hx2.blk b0;replace b1:=hx2.blk b1;replace b2:=hx2.blk b2;replace hx:=hx.trans hx2;replace k0:=k0.mono hx2;replace k1:=k1.mono hx2;replace k3:=k3.mono hx2;replace k5:=k5.mono hx2;replace k6:=k6.mono hx2;replace k7:=k7.mono hx2
   replace ho:=ho.mono d0r hx2
   obtain ⟨Y,hY⟩:∃ Y,Y=G6.size:=⟨_,rfl⟩
   rw [← hY] at b5 hso ⊢
   have ns3:slB so ≠ some Y:=fun h=>by have:=hso _ h;omega
   have ns0:=ho.ne b0 (by decide)
   obtain ⟨so',G8,h1,h2,h3,h4⟩:=b0d.app (P:=PI) (sz:=2) (e:=a0a) (by decide) (fun G' cs x _ hl h=>b0q.lx h hl) ho (e2:=a0a) (c:=1) (bytes:=32) (new:=[.bool (a0k y).1,s5]) (x:=y) ⟨s5,rfl,k7⟩ rfl (by simp [k7.plain]) (by simp;omega) (by omega) (by omega) hx.1
   obtain ⟨_,_,hfr⟩:=e0y (by decide) h1
   have hfs:slB so' = some (G7.size + 1):=by rw [hfr];simp [slB]
   simp [x0j,g10,b5,k7.cells,h1]
   have hlx8:=ho.lx (by decide) h3
   have hP1l:=a0i b1
   have hP2l:=a0i b2
   replace b0:=(h3.2 _ (a0i b0) ns0).trans b0
   replace b1:=(h3.2 _ (a0i b1) ns1).trans b1
   replace b2:=(h3.2 _ (a0i b2) ns2).trans b2
   replace b5:=(h3.2 _ (a0i b5) ns3).trans b5
   replace hx:=h4 _ (i1j _) hx
   replace k0:=k0.lx hlx8
   replace k1:=k1.lx hlx8
   replace k7:=k7.lx hlx8
   simp [x0k,g11,b2,b5]
   refine (f0q (i:=a0k (g:Int)) (j:=a0k y) ⟨sg,by rw [a0s],by rw [a0s];exact k1⟩ ⟨s5,rfl,k7⟩ hx.1 (by rw [a0n];omega) (by rw [a0n];omega)).mono ?_
   rintro _ G9 ⟨⟨s6,rfl,k8⟩,hx2⟩
   replace b0:=hx2.blk b0;replace b1:=hx2.blk b1;replace b2:=hx2.blk b2;replace hx:=hx.trans hx2;replace k0:=k0.mono hx2;replace k1:=k1.mono hx2
   replace h2:=h2.mono d0r hx2
   rw [a0j,a0j,a0s] at k8 ⊢
   have hP2s:H.size≤P2:=by assumption
   simp [g11,b2,k8.cells,k8.plain,hP2s]
   generalize hS':Array.setIfInBounds _ _ _=G10
   have hxb:d0l (some P2) G9 G10:=by rw [← hS'];exact d0l.refl.set
   have hlx10:Lx G9 G10:=b0c hS' b2 (by decide)
   have hne:P2 ≠ H.size:=by omega
   have hne2:P2 ≠ P:=by omega
   refine Rnd.mk (by simp [gi]) (by simp [gn]) ⟨by simp [g44],by simp [g3],by simp [g4],by simp [g11],a0Y hS' hx hP2s,a0p hS' b0 hne,a0p hS' b1 hne2,k0.lx hlx10,by simp [hfs];omega,by simp [hfs];omega,Int.gcd g y,s6,a0v hS' b2,k8.lx hlx10,?_,?_,?_,by omega⟩
   ·refine b0d.cast (v':=so') (by simp) ?_
    rw [i1B hyl,hyi,← hy]
    exact h2.off hxb (.inr (by rw [hfs];simp;omega)) (fun cs x h=>b0q.lx h hlx10)
   ·intro k h hk
    by_cases hki:k=i
    ·subst hki;rw [hyd,← hy];exact l1n ..
    ·exact Int.dvd_trans (Int.gcd_dvd_left ..) (hdg k h (by omega))
   ·by_cases hy0:y=0
    ·rw [hy0,Int.gcd_zero_right];exact hlg
    ·exact i1t (b0e (Int.gcd_le_natAbs_right _ hy0)) hly
  ·clear g0 g22 g3 g4 gi gn hx b0 b1 b2 k0 hx2 ρ
   rintro ρ G gi gn ⟨g44,g3,g4,g11,hx,b0,b1,k0,ns1,ns2,g,sg,b2,k1,ho,hdg,hlg,hg0⟩
   obtain ⟨so,g10⟩:∃ so,ρ 10=so:=⟨_,rfl⟩
   rw [g10] at ns1 ns2 ho
   have hyl:(o0n xs m).length=xs.length:=by simp [o0n]
   rw [i1v (by omega)] at ho
   have hv0:a0B (false,[])=0:=by unfold a0B g0h;simp [a0u]
   simp [x0l,g11,b2]
   refine (d0R (i:=a0k (g:Int)) (j:=(false,[])) ⟨sg,by rw [a0s],by rw [a0s];exact k1⟩ ⟨_,rfl,Lim.nil⟩ hx.1 (by rw [a0n];omega) (by simp)).mono ?_
   rintro _ G2 ⟨rfl,hx2⟩
   replace b0:=hx2.blk b0;replace b1:=hx2.blk b1;replace b2:=hx2.blk b2;replace hx:=hx.trans hx2;replace k0:=k0.mono hx2;replace k1:=k1.mono hx2
   replace ho:=ho.mono d0r hx2
   rw [hv0,a0j]
   have hP2s:H.size≤P2:=by assumption
   have hne:P2 ≠ H.size:=by omega
   have hne2:P2 ≠ P:=by omega
   by_cases hg:g=0
   ·have hcz:c0A (g:Int) 0=0:=by rw [hg];rfl
    simp [hcz,x0m]
    refine (c0r (n:=1) hx.1 (by omega) (by omega)).mono ?_
    rintro _ G2 ⟨⟨s6,rfl,k3⟩,hx2⟩
    replace b0:=hx2.blk b0;replace b1:=hx2.blk b1;replace b2:=hx2.blk b2;replace hx:=hx.trans hx2;replace k0:=k0.mono hx2;replace k1:=k1.mono hx2
    replace ho:=ho.mono d0r hx2
    have h1c:a0k 1=(false,a0o 1):=a0s 1
    rw [h1c] at k3 ⊢
    simp [g11,b2,k3.cells,k3.plain,hP2s]
    generalize hS':Array.setIfInBounds _ _ _=G3
    have hxb:d0l (some P2) G2 G3:=by rw [← hS'];exact d0l.refl.set
    have hlx3:Lx G2 G3:=b0c hS' b2 (by decide)
    replace ho:=ho.off hxb (.inr ns2) (fun cs x h=>b0q.lx h hlx3)
    replace hx:=a0Y hS' hx hP2s
    replace b0:=a0p hS' b0 hne
    replace b1:=a0p hS' b1 hne2
    replace b2:=a0v hS' b2
    replace k0:=k0.lx hlx3
    clear k1
    have k1:=k3.lx hlx3
    obtain ⟨sg2,hs2⟩:∃ x,x=s6:=⟨_,rfl⟩
    rw [← hs2] at k1 b2
    obtain ⟨gg,hgg⟩:∃ gg:Nat,(gg=g∧0 < g) ∨ gg=1:=⟨1,.inr rfl⟩
    have hg1:(1:Nat)=gg:=by rcases hgg with ⟨h,h'⟩ | h <;> omega
    rw [hg1] at k1
    have hdg':∀ k,k < xs.length→(gg:Int) ∣ (o0n xs m).getD k 0:=fun k hk=>by
     rcases hgg with ⟨h,_⟩ | h
     ·rw [h];exact hdg k hk hk
     ·rw [h];exact Int.one_dvd _
    have hgp:0 < gg:=by rcases hgg with ⟨h,h'⟩ | h <;> omega
    have hK4:(xs.length + 1) * (S + 1)=xs.length * S + xs.length + S + 1:=by grind
    have hlgg:lz gg≤(xs.length + 1) * (S + 1):=by
     rcases hgg with ⟨h,_⟩ | h
     ·rw [h];exact hlg
     ·rw [h,show ((1:Nat):Int)=1 from rfl,g0F];omega
    have hly:∀ k (h:k < xs.length),lz (xs[k].num * ((m / xs[k].den:Nat):Int))≤(xs.length + 1) * (S + 1):=fun k hk=>by
     have h1:=c0V xs[k].num ((m / xs[k].den:Nat):Int)
     have h2:lz ((m / xs[k].den:Nat):Int)≤lz m:=b0e (j1K _ _)
     have h4:=e0I xs[k]
     have h5:=hS _ (i1p hk)
     omega
    have hyD:∀ k (h:k < xs.length),(o0n xs m).getD k 0=xs[k].num * ((m / xs[k].den:Nat):Int):=fun k hk=>by
     rw [i1h,i1m (by omega)];simp [o0n]
    simp [q0F,g10,ho.slen,hyl]
    refine c0W (n:=xs.length) (p0F H P P2 so xs m gg s sg2) rfl rfl (by decide) (by omega) (by simp) (by simp) ?_ ?_ ?_ ?_
    ·exact ⟨by simp [g10],by simp [g3],by simp [g4],by simp [g11],hx,b0,b1,k0,b2,k1,o0n xs m,ho,hyl,fun k _=>by simp⟩
    ·intro i ρ ρ' G h hI;simpa [p0F,h] using hI
    ·clear g44 g3 g4 g11 g10 gi gn hx b0 b1 b2 k0 k1 ho hx2 ρ
     rintro i ρ G hi gi gn ⟨g10,g3,g4,g11,hx,b0,b1,k0,b2,k1,L,ho,hL,hLk⟩
     have hiL:i < L.length:=by omega
     have hLi:L[i]=(o0n xs m).getD i 0:=by
      have:=hLk i hi
      rw [i1k (by omega),i1h,i1m hiL] at this;exact this
     obtain ⟨wi,hli,kwi⟩:=OwnsI.load ho hiL
     have hlz:lz L[i] < 67108864:=by
      have:=hly i hi
      rw [hLi,hyD i hi];omega
     simp [q0G,gi]
     refine a0G ?_
     simp [q0H,g10,g11,ho.sls.ia hiL,hli,b2]
     refine (b0V (j:=a0k (gg:Int)) kwi ⟨sg2,by rw [a0s],by rw [a0s];exact k1⟩ hx.1 (by rw [a0n];omega) (by rw [a0n];omega) (by rw [a0j];omega)).mono ?_
     rintro _ G4 ⟨⟨_,_,rfl,⟨s3,rfl,k5⟩,_⟩,hx2⟩
     replace b0:=hx2.blk b0;replace b1:=hx2.blk b1;replace b2:=hx2.blk b2;replace hx:=hx.trans hx2;replace k0:=k0.mono hx2;replace k1:=k1.mono hx2
     replace ho:=ho.mono d0r hx2
     have hdv2:(gg:Int) ∣ L[i]:=by rw [hLi];exact hdg' i hi
     rw [a0j,a0j,Int.tdiv_eq_ediv_of_dvd hdv2] at k5 ⊢
     have ns0:=ho.ne b0 (by decide)
     obtain ⟨G5,hst,ho2,hxb⟩:=b0d.store (j:=i) (x:=L[i] / (gg:Int)) (w:=.agg #[.bool (a0k (L[i] / (gg:Int))).1,s3]) ho hiL (by omega) rfl (by simp [k5.plain]) (fun G' _ hl=>⟨s3,rfl,k5.lx hl⟩) (by decide) (fun G' cs y _ hl h=>b0q.lx h hl)
     have hlx5:=ho.lx (by decide) hxb
     simp [g10,ho.sls.ia hiL,hst]
     have hx5:Ext H G5:=⟨i1t hx.1 hxb.1,fun b hb=>(hxb.2 b (i1C hb hx.1) (fun h=>by have:=(ho.ge h).1;omega)).trans (hx.2 b hb)⟩
     refine Rnd.mk (by simp [gi]) (by simp [gn]) ⟨by simp [g10],by simp [g3],by simp [g4],by simp [g11],hx5,(hxb.2 _ (a0i b0) ns0).trans b0,(hxb.2 _ (a0i b1) ns1).trans b1,k0.lx hlx5,(hxb.2 _ (a0i b2) ns2).trans b2,k1.lx hlx5,L.set i (L[i] / (gg:Int)),ho2,by simpa using hL,fun k hk=>?_⟩
     by_cases hki:k=i
     ·subst hki
      rw [i1n (by omega),i1h,j1F hiL,i1O,hLi]
     ·rw [i1h,List.getElem?_set_ne (by omega),← i1h,hLk k hk]
      by_cases hlt:k < i
      ·rw [i1n hlt,i1n (by omega)]
      ·rw [i1k hlt,i1k (by omega)]
    ·clear g44 g3 g4 g11 g10 gi gn hx b0 b1 b2 k0 k1 ho hx2 ρ
     rintro ρ G gi gn ⟨g10,g3,g4,g11,hx,b0,b1,k0,b2,k1,L,ho,hL,hLk⟩
     simp [q0I,g4,g11,b1,b2]
     refine (d0S (i:=a0k (m:Int)) (j:=a0k (gg:Int)) ⟨s,by rw [a0s],by rw [a0s];exact k0⟩ ⟨sg2,by rw [a0s],by rw [a0s];exact k1⟩ hx.1 (by rw [a0n];omega) (by rw [a0n];omega) (by rw [a0j];omega)).mono ?_
     rintro _ G4 ⟨⟨_,rfl,s3,s4,rfl,k5,k6⟩,hx2⟩
     replace b0:=hx2.blk b0;replace b1:=hx2.blk b1;replace b2:=hx2.blk b2;replace hx:=hx.trans hx2;replace k0:=k0.mono hx2;replace k1:=k1.mono hx2
     replace ho:=ho.mono d0r hx2
     rw [a0j,a0j] at k5 k6 ⊢
     have hsz:=hx.1
     simp [k5.cells,k5.plain,k6.cells,k6.plain,hsz]
     generalize hN:Array.setIfInBounds (Array.push _ _) _ _=G5
     obtain ⟨hx2,b3⟩:=new1 hN
     clear hN
     replace b0:=hx2.blk b0;replace b1:=hx2.blk b1;replace b2:=hx2.blk b2;replace hx:=hx.trans hx2;replace k0:=k0.mono hx2;replace k1:=k1.mono hx2;replace k5:=k5.mono hx2;replace k6:=k6.mono hx2
     replace ho:=ho.mono d0r hx2
     refine a0G ?_
     have hz:=a0i b0
     simp [q0J,g3,g10,b0,b3,k5.cells,k5.plain,k6.cells,k6.plain,hz]
     generalize hS':Array.setIfInBounds _ _ _=G6
     refine fun _=>?_
     have hl6:Lx _ G6:=b0c hS' b0 (by decide)
     have hl7:LxT a0a _ G6:=b0c hS' b0 (by decide)
     refine ⟨so,_,⟨rfl,rfl⟩,Rat.divInt m gg,L,?_,ho.lxm hl7 (fun cs x h=>b0q.lx h hl6),s3,s4,rfl,k5.lx hl6,k6.lx hl6⟩
     have hLv:∀ k (h:k < xs.length),L[k]'(by omega)=xs[k].num * ((m / xs[k].den:Nat):Int) / (gg:Int)∧(gg:Int) ∣ xs[k].num * ((m / xs[k].den:Nat):Int):=by
      intro k hk
      have h1:=hLk k hk
      have h2:=hdg' k hk
      have h3:=hyD k hk
      rw [i1n hk,h3,i1h,i1m (by omega)] at h1
      rw [h3] at h2
      exact ⟨h1,h2⟩
     refine ⟨hL,?_,fun k hk=>?_,fun z hz=>?_,?_⟩
     ·exact o0v hm0 hgp
     ·rw [(hLv k hk).1];exact y0e (hdv k hk hk) hm0 hgp (hLv k hk).2
     ·obtain ⟨k,hk,rfl⟩:=j1v hz
      have hk':k < xs.length:=by omega
      have h1:=hly k hk'
      have h6:=N0c (hLv k hk').2
      rw [(hLv k hk').1]
      omega
     ·have:=b0O (m:Int) (gg:Int)
      omega
   ·have hcz:¬ c0A (g:Int) 0=0:=by unfold c0A;split;omega;split <;> omega
    simp [hcz]
    obtain ⟨sg2,hs2⟩:∃ x,x=sg:=⟨_,rfl⟩
    rw [← hs2] at k1 b2
    obtain ⟨gg,hgg1,hgg⟩:∃ gg:Nat,gg=g∧((gg=g∧0 < g) ∨ gg=1):=⟨g,rfl,.inl ⟨rfl,by omega⟩⟩
    have hg1:g=gg:=hgg1.symm
    rw [hg1] at k1
    have hdg':∀ k,k < xs.length→(gg:Int) ∣ (o0n xs m).getD k 0:=fun k hk=>by
     rcases hgg with ⟨h,_⟩ | h
     ·rw [h];exact hdg k hk hk
     ·rw [h];exact Int.one_dvd _
    have hgp:0 < gg:=by rcases hgg with ⟨h,h'⟩ | h <;> omega
    have hK4:(xs.length + 1) * (S + 1)=xs.length * S + xs.length + S + 1:=by grind
    have hlgg:lz gg≤(xs.length + 1) * (S + 1):=by
     rcases hgg with ⟨h,_⟩ | h
     ·rw [h];exact hlg
     ·rw [h,show ((1:Nat):Int)=1 from rfl,g0F];omega
    have hly:∀ k (h:k < xs.length),lz (xs[k].num * ((m / xs[k].den:Nat):Int))≤(xs.length + 1) * (S + 1):=fun k hk=>by
     have h1:=c0V xs[k].num ((m / xs[k].den:Nat):Int)
     have h2:lz ((m / xs[k].den:Nat):Int)≤lz m:=b0e (j1K _ _)
     have h4:=e0I xs[k]
     have h5:=hS _ (i1p hk)
     omega
    have hyD:∀ k (h:k < xs.length),(o0n xs m).getD k 0=xs[k].num * ((m / xs[k].den:Nat):Int):=fun k hk=>by
     rw [i1h,i1m (by omega)];simp [o0n]
    simp [q0F,g10,ho.slen,hyl]
    refine c0W (n:=xs.length) (p0F H P P2 so xs m gg s sg2) rfl rfl (by decide) (by omega) (by simp) (by simp) ?_ ?_ ?_ ?_
    ·exact ⟨by simp [g10],by simp [g3],by simp [g4],by simp [g11],hx,b0,b1,k0,b2,k1,o0n xs m,ho,hyl,fun k _=>by simp⟩
    ·intro i ρ ρ' G h hI;simpa [p0F,h] using hI
    ·clear g44 g3 g4 g11 g10 gi gn hx b0 b1 b2 k0 k1 ho hx2 ρ
     rintro i ρ G hi gi gn ⟨g10,g3,g4,g11,hx,b0,b1,k0,b2,k1,L,ho,hL,hLk⟩
     have hiL:i < L.length:=by omega
     have hLi:L[i]=(o0n xs m).getD i 0:=by
      have:=hLk i hi
      rw [i1k (by omega),i1h,i1m hiL] at this;exact this
     obtain ⟨wi,hli,kwi⟩:=OwnsI.load ho hiL
     have hlz:lz L[i] < 67108864:=by
      have:=hly i hi
      rw [hLi,hyD i hi];omega
     simp [q0G,gi]
     refine a0G ?_
     simp [q0H,g10,g11,ho.sls.ia hiL,hli,b2]
     refine (b0V (j:=a0k (gg:Int)) kwi ⟨sg2,by rw [a0s],by rw [a0s];exact k1⟩ hx.1 (by rw [a0n];omega) (by rw [a0n];omega) (by rw [a0j];omega)).mono ?_
     rintro _ G4 ⟨⟨_,_,rfl,⟨s3,rfl,k5⟩,_⟩,hx2⟩
     replace b0:=hx2.blk b0;replace b1:=hx2.blk b1;replace b2:=hx2.blk b2;replace hx:=hx.trans hx2;replace k0:=k0.mono hx2;replace k1:=k1.mono hx2
     replace ho:=ho.mono d0r hx2
     have hdv2:(gg:Int) ∣ L[i]:=by rw [hLi];exact hdg' i hi
     rw [a0j,a0j,Int.tdiv_eq_ediv_of_dvd hdv2] at k5 ⊢
     have ns0:=ho.ne b0 (by decide)
     obtain ⟨G5,hst,ho2,hxb⟩:=b0d.store (j:=i) (x:=L[i] / (gg:Int)) (w:=.agg #[.bool (a0k (L[i] / (gg:Int))).1,s3]) ho hiL (by omega) rfl (by simp [k5.plain]) (fun G' _ hl=>⟨s3,rfl,k5.lx hl⟩) (by decide) (fun G' cs y _ hl h=>b0q.lx h hl)
     have hlx5:=ho.lx (by decide) hxb
     simp [g10,ho.sls.ia hiL,hst]
     have hx5:Ext H G5:=⟨i1t hx.1 hxb.1,fun b hb=>(hxb.2 b (i1C hb hx.1) (fun h=>by have:=(ho.ge h).1;omega)).trans (hx.2 b hb)⟩
     refine Rnd.mk (by simp [gi]) (by simp [gn]) ⟨by simp [g10],by simp [g3],by simp [g4],by simp [g11],hx5,(hxb.2 _ (a0i b0) ns0).trans b0,(hxb.2 _ (a0i b1) ns1).trans b1,k0.lx hlx5,(hxb.2 _ (a0i b2) ns2).trans b2,k1.lx hlx5,L.set i (L[i] / (gg:Int)),ho2,by simpa using hL,fun k hk=>?_⟩
     by_cases hki:k=i
     ·subst hki
      rw [i1n (by omega),i1h,j1F hiL,i1O,hLi]
     ·rw [i1h,List.getElem?_set_ne (by omega),← i1h,hLk k hk]
      by_cases hlt:k < i
      ·rw [i1n hlt,i1n (by omega)]
      ·rw [i1k hlt,i1k (by omega)]
    ·clear g44 g3 g4 g11 g10 gi gn hx b0 b1 b2 k0 k1 ho hx2 ρ
     rintro ρ G gi gn ⟨g10,g3,g4,g11,hx,b0,b1,k0,b2,k1,L,ho,hL,hLk⟩
     simp [q0I,g4,g11,b1,b2]
     refine (d0S (i:=a0k (m:Int)) (j:=a0k (gg:Int)) ⟨s,by rw [a0s],by rw [a0s];exact k0⟩ ⟨sg2,by rw [a0s],by rw [a0s];exact k1⟩ hx.1 (by rw [a0n];omega) (by rw [a0n];omega) (by rw [a0j];omega)).mono ?_
     rintro _ G4 ⟨⟨_,rfl,s3,s4,rfl,k5,k6⟩,hx2⟩
     replace b0:=hx2.blk b0;replace hx:=hx.trans hx2
     replace ho:=ho.mono d0r hx2
     rw [a0j,a0j] at k5 k6 ⊢
     have hsz:=hx.1
     simp [k5.cells,k5.plain,k6.cells,k6.plain,hsz]
     generalize hN:Array.setIfInBounds (Array.push _ _) _ _=G5
     obtain ⟨hx2,b3⟩:=new1 hN
     clear hN
     replace b0:=hx2.blk b0;replace hx:=hx.trans hx2;replace k5:=k5.mono hx2;replace k6:=k6.mono hx2
     replace ho:=ho.mono d0r hx2
     refine a0G ?_
     have hz:=a0i b0
     simp [q0J,g3,g10,b0,b3,k5.cells,k5.plain,k6.cells,k6.plain,hz]
     generalize hS':Array.setIfInBounds _ _ _=G6
     refine fun _=>?_
     have hl6:Lx _ G6:=b0c hS' b0 (by decide)
     have hl7:LxT a0a _ G6:=b0c hS' b0 (by decide)
     refine ⟨so,_,⟨rfl,rfl⟩,Rat.divInt m gg,L,?_,ho.lxm hl7 (fun cs x h=>b0q.lx h hl6),s3,s4,rfl,k5.lx hl6,k6.lx hl6⟩
     have hLv:∀ k (h:k < xs.length),L[k]'(by omega)=xs[k].num * ((m / xs[k].den:Nat):Int) / (gg:Int)∧(gg:Int) ∣ xs[k].num * ((m / xs[k].den:Nat):Int):=by
      intro k hk
      have h1:=hLk k hk
      have h2:=hdg' k hk
      have h3:=hyD k hk
      rw [i1n hk,h3,i1h,i1m (by omega)] at h1
      rw [h3] at h2
      exact ⟨h1,h2⟩
     refine ⟨hL,?_,fun k hk=>?_,fun z hz=>?_,?_⟩
     ·exact o0v hm0 hgp
     ·rw [(hLv k hk).1];exact y0e (hdv k hk hk) hm0 hgp (hLv k hk).2
     ·obtain ⟨k,hk,rfl⟩:=j1v hz
      have hk':k < xs.length:=by omega
      have h1:=hly k hk'
      have h6:=N0c (hLv k hk').2
      rw [(hLv k hk').1]
      omega
     ·have:=b0O (m:Int) (gg:Int)
      omega
def r0y (z:Int):Bool:=decide (-9223372036854775808≤z∧z < 9223372036854775808)
def toV (z:Int):Value:=.tuple #[.int .i64 (if r0y z then z else 0),.bool (r0y z)]
theorem W0Q {n:Nat} (h:n≤9223372036854775808):IntKind.i64.wrap (IntKind.u64.wrap (0 - (n:Int))) = -(n:Int):=by
 rw [a0x]
 show (if (true && decide (((0 - (n:Int)) % 18446744073709551616) % (2 ^ 64:Int) ≥ (2 ^ 63:Int)))=true then ((0 - (n:Int)) % 18446744073709551616) % (2 ^ 64:Int) - (2 ^ 64:Int) else ((0 - (n:Int)) % 18446744073709551616) % (2 ^ 64:Int)) = -(n:Int)
 rw [show (2 ^ 64:Int)=18446744073709551616 from rfl,show (2 ^ 63:Int)=9223372036854775808 from rfl]
 simp only [Bool.true_and,j1n]
 split <;> omega
theorem f1X {i:Nat} (h:i < 2):(4294967296:Nat) ^ i=2 ^ (32 * i):=by
 rw [Nat.pow_mul]
theorem K0u {z:Int} (h:2 < lz z):r0y z=false:=by
 have:¬ z.natAbs < 4294967296 ^ 2:=fun h2=>by have:=e0m h2;unfold lz at h;omega
 unfold r0y;simp;intro _;omega
theorem m0l {z:Int} (h:b0q H v (a0k z)) (hf:fl≤H.size) (hl:lz z < 1073741824) :
  a0S env fl A0W [v] H (fun r H'=>r=toV z∧Ext H H') R:=by
 refine a0g f1p hf (h:=?_)
 intro ρ h0
 obtain ⟨s0,rfl,k0⟩:=id h
 simp [M0r,H0d,H0e,h0,k0.cells,k0.plain]
 generalize hG:Array.push H _=G
 obtain ⟨hx2,b0⟩:=g0R hG
 have hx:=Ext.refl H
 clear hG
 replace hx:=hx.trans hx2;replace k0:=k0.mono hx2
 have hcl:(a0k z).2.length=lz z:=a0n z
 refine (b0M (h.mono hx) hx.1 (by rw [a0n];omega)).mono ?_
 rintro w G2 ⟨k1,hx2⟩
 replace b0:=hx2.blk b0;replace hx:=hx.trans hx2;replace k0:=k0.mono hx2
 rw [a0j] at k1
 obtain ⟨d,hd⟩:∃ d,d=z.natAbs:=⟨_,rfl⟩
 have hld:(a0o d).length=lz z:=by rw [hd];rfl
 rw [← hd] at k1
 simp [H0f,k1.slen,hld]
 refine ⟨fun h2=>?_,fun h2=>?_⟩
 ·simp [H0g,toV,K0u (z:=z) (by omega)]
 ·simp [H0h,H0i,k1.slen,hld]
  refine c0W (n:=lz z) (fun i ρ G=>ρ 1=.pointer (some ⟨H.size,0,none⟩)∧ρ 13=w∧Ext H G∧a0e.blk G H.size=.row false a0a [.bool (a0k z).1,s0]∧Lim G w (a0o d)∧ρ 5=.int .u64 ((a0u ((a0o d).take i):Nat):Int)) rfl rfl (by decide) (by omega) (by simp) (by simp) ?_ ?_ ?_ ?_
  ·exact ⟨by simp,by simp,hx,b0,k1,by simp [a0u]⟩
  ·intro i ρ ρ' G h hI;simpa [h] using hI
  ·clear h0 ρ hx b0 k0 k1 hx2
   rintro i ρ G hi gi gn ⟨g1,g13,hx,b0,k1,g5⟩
   have hil:i < (a0o d).length:=by omega
   have hla:=k1.load hil (Ext.refl G)
   have hA2:=a0P hil
   have hA3:(a0o d).getD i 0 < 4294967296:=k1.2 _ (by rw [i1h,i1m hil];exact i1p hil)
   have hA1:=g0k ((a0o d).take i) (fun x hx=>k1.2 _ (k1c hx))
   rw [j1m,j1g (by omega),f1X (by omega)] at hA1
   rw [f1X (by omega)] at hA2
   obtain ⟨A,hA⟩:∃ A,A=(a0o d).getD i 0:=⟨_,rfl⟩
   obtain ⟨N,hN⟩:∃ N,N=a0u ((a0o d).take i):=⟨_,rfl⟩
   rw [← hA] at hla hA2 hA3
   rw [← hN] at hA1 hA2 g5
   have hp:(2:Nat) ^ (32 * i)≤4294967296:=by
    have:(2:Nat) ^ (32 * i)≤2 ^ 32:=j1y (by omega) (by omega)
    exact this
   have hAp:A * 2 ^ (32 * i)≤4294967295 * 4294967296:=j1f (by omega) hp
   have eA:IntKind.u64.wrap (A:Int)=(A:Int):=by rw [a0x];omega
   have e32:IntKind.i64.wrap (32 * (i:Int))=((32 * i:Nat):Int):=by rw [a0R (by omega) (by omega)];omega
   have s1:=J0g (tag:=0) (n:=A) (s:=32 * i) (k':=.i64) (by omega)
   rw [i1K (by omega)] at s1
   have s2:=Z0I (tag:=0) (a:=N) (b:=A * 2 ^ (32 * i)) (by omega) (by omega)
   rw [u0e hA1] at s2
   simp [-Int.natCast_add,-Int.natCast_mul,-Int.natCast_pow,H0j,H0k,gi,g13,g5,k1.ia hil,hla,eA,e32,s1,s2]
   exact Rnd.mk (by simp [gi]) (by simp [gn]) ⟨by simp [g1],by simp [g13],hx,b0,k1,by simp [-Int.natCast_add,-Int.natCast_mul,-Int.natCast_pow];rw [hA2,i1L]⟩
  ·clear h0 ρ hx b0 k0 k1 hx2
   rintro ρ G gi gn ⟨g1,g13,hx,b0,k1,g5⟩
   have hd2:d < 4294967296 ^ (lz z):=by have:=e0z d;rwa [hld] at this
   have hd3:d < 18446744073709551616:=i1C hd2 (i1t (j1y (by omega) (show lz z≤2 by omega)) (by decide))
   rw [i1v (by omega),a0q] at g5
   have hb0:=a0i b0
   simp [x0D,g1,b0]
   refine (b0x (h.mono hx) hx.1 (by rw [a0n];omega)).mono ?_
   rintro _ G3 ⟨rfl,hx2⟩
   replace b0:=hx2.blk b0;replace hx:=hx.trans hx2
   rw [a0j]
   have hb0:=a0i b0
   have hu:r0y z=false→toV z=.tuple #[.int .i64 0,.bool false]:=fun h=>by rw [toV,h];rfl
   have hv:r0y z=true→toV z=.tuple #[.int .i64 z,.bool true]:=fun h=>by rw [toV,h];rfl
   clear hx2
   by_cases hz:z < 0
   ·by_cases hz2:(d:Int)≤9223372036854775808
    ·have hf1:r0y z=true:=by unfold r0y;simp;omega
     have e1:=W0Q (n:=d) (by omega)
     have e2:-(d:Int)=z:=by omega
     rw [e2] at e1
     simp [hz,hz2,g5,x0E,e1,hv hf1]
     try (rw [show IntKind.i64.wrap (IntKind.u64.wrap (-(d:Int)))=z by rw [← Int.zero_sub];exact e1];simp)
    ·have hf1:r0y z=false:=by unfold r0y;simp;omega
     simp [hz,hz2,g5,r0c,g1,b0]
     refine (b0x (h.mono hx) hx.1 (by rw [a0n];omega)).mono ?_
     rintro _ G4 ⟨rfl,hx2⟩
     rw [a0j]
     simp [hz,r0d,hu hf1]
   ·simp [hz,g5,r0c,g1,b0]
    refine (b0x (h.mono hx) hx.1 (by rw [a0n];omega)).mono ?_
    rintro _ G4 ⟨rfl,hx2⟩
    rw [a0j]
    have e2:(d:Int)=z:=by omega
    by_cases hz2:z < 9223372036854775808
    ·have hf1:r0y z=true:=by unfold r0y;simp;omega
     have e1:IntKind.i64.wrap z=z:=a0R (by omega) hz2
     simp [hz,hz2,g5,x0F,e1,hv hf1,e2]
    ·have hf1:r0y z=false:=by unfold r0y;simp;omega
     simp [hz,hz2,g5,r0d,hu hf1,e2]
def eV:Value:=.agg #[]
def v0O:Value:=.iface f0B (.agg #[])
def f0G (z:Int):Prop:=-2147483648 < z∧z < 2147483648
def f1E:Value→a0E→Prop
 | .iface ty v,R=>R (.iface ty v)
 | _,_=>False
theorem k0o {ty:TypeId} {v:Value}:f1E (.iface ty v) R=R (.iface ty v):=nr rfl
theorem t0F {E:Env} {t:b0b} {x:Opd} {K:n0H}:WS E fl t H (.pan x) K R=f1E (ev t x) R:=by
 simp only [WS,opA]
 cases ev t x <;> simp [f1E]
theorem p0Y {a b:Int} (ha:f0G a) (hb:f0G b):-4611686018427387904 < a * b∧a * b < 4611686018427387904:=by
 obtain ⟨a1,a2⟩:=ha
 obtain ⟨b1,b2⟩:=hb
 have h:(a * b).natAbs≤2147483647 * 2147483647:=by
  rw [j1R];exact j1f (by omega) (by omega)
 omega
theorem p0X {a b:Int} (ha:f0G a) (hb:f0G b):IntKind.i64.wrap (a * b)=a * b:=by
 have:=p0Y ha hb
 exact a0R (by omega) (by omega)
theorem Z0D (x y:Int):lz (x - y)≤max (lz x) (lz y) + 1:=by
 rw [k1n];have:=s0s x (-y);rwa [f0p] at this
theorem push2 {z1 z2:Blk} (hG:Array.push (Array.push H z1) z2=G):Ext H G∧a0e.blk G H.size=z1∧a0e.blk G (H.size + 1)=z2:=by
 rw [← hG];exact ⟨(Ext.refl H).push.push,by simp,by simp⟩
theorem f0y {a b:Int} (hf:fl≤H.size) :
  a0S env fl y0K [.int .i64 a,.int .i64 b] H (fun r H'=>r=.int .i64 (c0A a b)∧Ext H H') R:=by
 refine a0g f1o hf (h:=?_)
 intro ρ h0
 simp [M0q,G0X,G0Y,h0]
 refine ⟨fun h=>?_,fun h=>?_⟩
 ·have:c0A a b = -1:=by unfold c0A;rw [i1n h]
  simp [G0Z,this]
 ·simp [H0a,h0]
  refine ⟨fun h=>?_,fun h=>?_⟩
  ·have:c0A a b=1:=by unfold c0A;rw [i1k (by omega),i1n (by omega)]
   simp [H0b,this]
  ·have:c0A a b=0:=by unfold c0A;rw [i1k (by omega),i1k (by omega)]
   simp [H0c,this]
theorem f0e {z:Int} (hf:fl≤H.size) (hR:R v0O) :
  a0S env fl t0V [.int .i64 z] H (fun r H'=>(r=.int .i64 z∧f0G z)∧Ext H H') R:=by
 refine a0g Y0D hf (h:=?_)
 intro ρ h0
 simp [J0e,v0A,v0B,h0]
 by_cases h1:z≤-2147483648
 ·have h1':¬ (-2147483648 < z):=by omega
  simp [h1,h1',v0C,t0F,k0o]
  exact hR
 ·have h1':-2147483648 < z:=by omega
  by_cases h2:2147483648≤z
  ·have h2':¬ z < 2147483648:=by omega
   simp [h1,h1',h2,h2',h0,v0C,t0F,k0o]
   exact hR
  ·have h2':z < 2147483648:=by omega
   simp [h1,h1',h2,h2',h0,v0D,f0G]
theorem n0T {a b c d:Int} (hf:fl≤H.size) (ha:f0G a) (hb:f0G b) (hc:f0G c) (hd:f0G d) :
  a0S env fl y0J [eV,.int .i64 a,.int .i64 b,.int .i64 c,.int .i64 d] H (fun r H'=>r=.int .i64 (c0A (a * b) (c * d))∧Ext H H') R:=by
 refine a0g f1j hf (h:=?_)
 intro ρ h0
 have m1:=p0X ha hb
 have m2:=p0X hc hd
 simp [M0l,G0M,G0N,h0,eV,m1,m2]
 refine (f0y (by simp)).mono ?_
 rintro _ G ⟨rfl,hx2⟩
 simp
theorem s0g {a:Int} (hf:fl≤H.size) (ha:f0G a) :
  a0S env fl m0e [eV,.int .i64 a] H (fun r H'=>r=.int .i64 (-a)∧Ext H H') R:=by
 refine a0g f1k hf (h:=?_)
 intro ρ h0
 obtain ⟨a1,a2⟩:=ha
 have e1:IntKind.i64.wrap (-a) = -a:=a0R (by omega) (by omega)
 simp [M0m,G0O,G0P,h0,eV,e1]
theorem p0Z {a:Int} (hf:fl≤H.size) :
  a0S env fl n0S [eV,.int .i64 a] H (fun r H'=>r=.int .i64 (c0A a 0)∧Ext H H') R:=by
 refine a0g f1m hf (h:=?_)
 intro ρ h0
 simp [M0o,G0T,G0U,h0,eV]
 refine (f0y (by simp)).mono ?_
 rintro _ G ⟨rfl,hx2⟩
 simp
theorem k0N {a:Int} (hf:fl≤H.size) (ha:f0G a) :
  a0S env fl s0e [eV,.int .i64 a] H (fun r H'=>b0q H' r (a0k a)∧Ext H H') R:=by
 refine a0g f1l hf (h:=?_)
 intro ρ h0
 obtain ⟨a1,a2⟩:=ha
 simp [M0n,G0Q,G0R,h0,eV]
 generalize hG:Array.push (Array.push H _) _=G
 obtain ⟨hx2,_,b0⟩:=push2 hG
 have hx:=Ext.refl H
 clear hG
 replace hx:=hx.trans hx2
 refine (c0r hx.1 (by omega) (by omega)).mono ?_
 rintro _ G2 ⟨⟨s1,rfl,k0⟩,hx2⟩
 replace b0:=hx2.blk b0;replace hx:=hx.trans hx2
 have hz:=a0i b0
 simp [b0,k0.cells,k0.plain]
 generalize hS:Array.setIfInBounds _ _ _=G3
 have hl:Lx G2 G3:=b0c hS b0 (by decide)
 have b1:=a0v hS b0
 simp [b1]
 exact fun _=>⟨s1,rfl,k0.lx hl⟩
theorem m0f {z:Int} (h:b0q H v (a0k z)) (hf:fl≤H.size) (hl:lz z < 1073741824) (hR:R v0O) :
  a0S env fl j0q [eV,v] H (fun r H'=>(r=.int .i64 z∧f0G z)∧Ext H H') R:=by
 refine a0g Y0C hf (h:=?_)
 intro ρ h0
 obtain ⟨s0,rfl,k0⟩:=id h
 simp [J0d,v0w,v0x,h0,eV,k0.cells,k0.plain]
 generalize hG:Array.push (Array.push H _) _=G
 obtain ⟨hx2,_,b0⟩:=push2 hG
 have hx:=Ext.refl H
 clear hG
 replace hx:=hx.trans hx2
 refine (m0l (h.mono hx) hx.1 hl).mono ?_
 rintro _ G2 ⟨rfl,hx2⟩
 replace hx:=hx.trans hx2
 unfold toV
 simp [v0y]
 cases hz:r0y z
 ·simp [G0S,t0F,k0o]
  exact hR
 ·simp [v0z]
  refine (f0e hx.1 hR).mono ?_
  rintro _ G3 ⟨⟨rfl,h1⟩,hx2⟩
  simp [h1]
theorem j0r {a b c d e:Int} (hf:fl≤H.size) (ha:f0G a) (hb:f0G b) (hc:f0G c) (hd:f0G d) (he:e ≠ 0) (hR:R v0O) :
  a0S env fl p0V [eV,.int .i64 a,.int .i64 b,.int .i64 c,.int .i64 d,.int .i64 e] H (fun r H'=>(r=.int .i64 ((a * b - c * d).tdiv e)∧f0G ((a * b - c * d).tdiv e))∧Ext H H') R:=by
 refine a0g f1n hf (h:=?_)
 intro ρ h0
 have m1:=p0X ha hb
 have m2:=p0X hc hd
 have z1:=p0Y ha hb
 have z2:=p0Y hc hd
 have m3:IntKind.i64.wrap (a * b - c * d)=a * b - c * d:=a0R (by omega) (by omega)
 have m4:IntKind.i64.wrap ((a * b - c * d).tdiv e)=(a * b - c * d).tdiv e:=by
  have:((a * b - c * d).tdiv e).natAbs≤(a * b - c * d).natAbs:=by rw [Int.natAbs_tdiv];exact j1K _ _
  exact a0R (by omega) (by omega)
 simp [M0p,G0V,G0W,h0,eV,m1,m2,m3,w0h he,m4]
 refine (f0e (by simp) hR).mono ?_
 rintro _ G ⟨⟨rfl,h1⟩,hx2⟩
 simp [h1]
theorem n0I {a b c d:Int} {va vb vc vd:Value} (ha:b0q H va (a0k a)) (hb:b0q H vb (a0k b)) (hc:b0q H vc (a0k c)) (hd:b0q H vd (a0k d)) (hf:fl≤H.size)
  (la:lz a < 67108864) (lb:lz b < 67108864) (lc:lz c < 67108864) (ld:lz d < 67108864) :
  a0S env fl y0I [eV,va,vb,vc,vd] H (fun r H'=>r=.int .i64 (c0A (a * b) (c * d))∧Ext H H') R:=by
 refine a0g f1c hf (h:=?_)
 intro ρ h0
 obtain ⟨s0,rfl,k0⟩:=id ha
 obtain ⟨s1,rfl,k1⟩:=id hb
 obtain ⟨s2,rfl,k2⟩:=id hc
 obtain ⟨s3,rfl,k3⟩:=id hd
 simp [M0e,G0x,h0,eV,k0.cells,k0.plain,k1.cells,k1.plain,k2.cells,k2.plain,k3.cells,k3.plain]
 generalize hG:Array.push (Array.push (Array.push (Array.push (Array.push H _) _) _) _) _=G
 have hx2:Ext H G:=by rw [← hG];exact (Ext.refl H).push.push.push.push.push
 have b1:a0e.blk G (H.size + 1)=.row false a0a [.bool (a0k a).1,s0]:=by rw [← hG];simp
 have b2:a0e.blk G (H.size + 2)=.row false a0a [.bool (a0k b).1,s1]:=by rw [← hG];simp
 have b3:a0e.blk G (H.size + 3)=.row false a0a [.bool (a0k c).1,s2]:=by rw [← hG];simp
 have b4:a0e.blk G (H.size + 4)=.row false a0a [.bool (a0k d).1,s3]:=by rw [← hG];simp
 have hx:=Ext.refl H
 clear hG
 replace hx:=hx.trans hx2;replace k0:=k0.mono hx2;replace k1:=k1.mono hx2;replace k2:=k2.mono hx2;replace k3:=k3.mono hx2
 refine a0G ?_
 simp [G0y,b1,b2]
 refine (b0B (i:=a0k a) (j:=a0k b) ⟨s0,rfl,k0⟩ ⟨s1,rfl,k1⟩ (by have:=hx.1;omega) (by rw [a0n];omega) (by rw [a0n];omega)).mono ?_
 rintro _ G2 ⟨k4,hx2⟩
 replace b3:=hx2.blk b3;replace b4:=hx2.blk b4;replace hx:=hx.trans hx2;replace k2:=k2.mono hx2;replace k3:=k3.mono hx2
 rw [a0j,a0j] at k4
 simp [b3,b4]
 refine (b0B (i:=a0k c) (j:=a0k d) ⟨s2,rfl,k2⟩ ⟨s3,rfl,k3⟩ (by have:=hx.1;omega) (by rw [a0n];omega) (by rw [a0n];omega)).mono ?_
 rintro _ G3 ⟨k5,hx2⟩
 replace hx:=hx.trans hx2;replace k4:=k4.mono hx2
 rw [a0j,a0j] at k5
 have l1:=c0V a b
 have l2:=c0V c d
 simp
 refine (d0R k4 k5 (by have:=hx.1;omega) (by rw [a0n];omega) (by rw [a0n];omega)).mono ?_
 rintro _ G4 ⟨rfl,hx2⟩
 rw [a0j,a0j]
 simp
theorem r0L {a:Int} (ha:b0q H v (a0k a)) (hf:fl≤H.size) (la:lz a < 67108864) :
  a0S env fl m0d [eV,v] H (fun r H'=>b0q H' r (a0k (-a))∧Ext H H') R:=by
 refine a0g f1d hf (h:=?_)
 intro ρ h0
 obtain ⟨s0,rfl,k0⟩:=id ha
 simp [M0f,G0z,G0A,h0,eV,k0.cells,k0.plain]
 generalize hG:Array.push (Array.push (Array.push H _) _) _=G
 have hx2:Ext H G:=by rw [← hG];exact (Ext.refl H).push.push.push
 have b2:a0e.blk G (H.size + 2)=.row false a0a [.bool false,.slice none 0 0]:=by rw [← hG];simp
 have hx:=Ext.refl H
 clear hG
 replace hx:=hx.trans hx2
 refine (e0C (ha.mono hx) hx.1 (by rw [a0n];omega)).mono ?_
 rintro _ G2 ⟨⟨s1,rfl,k1⟩,hx2⟩
 replace b2:=hx2.blk b2;replace hx:=hx.trans hx2
 rw [a0j] at k1 ⊢
 have hz:=a0i b2
 simp [b2,k1.cells,k1.plain]
 generalize hS:Array.setIfInBounds _ _ _=G3
 have hl:Lx G2 G3:=b0c hS b2 (by decide)
 have b3:=a0v hS b2
 simp [b3]
 exact fun _=>⟨s1,rfl,k1.lx hl⟩
theorem k0K {a:Int} (ha:b0q H v (a0k a)) (hf:fl≤H.size) :
  a0S env fl s0d [eV,v] H (fun r H'=>b0q H' r (a0k a)∧Ext H H') R:=by
 refine a0g f1e hf (h:=?_)
 intro ρ h0
 obtain ⟨s0,rfl,k0⟩:=id ha
 simp [M0g,G0B,G0C,h0,eV,k0.cells,k0.plain]
 exact fun hx=>ha.mono hx
theorem i0K {a:Int} (ha:b0q H v (a0k a)) (hf:fl≤H.size) :
  a0S env fl k0e [eV,v] H (fun r H'=>b0q H' r (a0k a)∧Ext H H') R:=by
 refine a0g f1f hf (h:=?_)
 intro ρ h0
 obtain ⟨s0,rfl,k0⟩:=id ha
 simp [M0h,G0D,G0E,h0,eV,k0.cells,k0.plain]
 exact fun hx=>ha.mono hx
theorem p0J {a:Int} (ha:b0q H v (a0k a)) (hf:fl≤H.size) (la:lz a < 67108864) :
  a0S env fl n0R [eV,v] H (fun r H'=>r=.int .i64 (c0A a 0)∧Ext H H') R:=by
 refine a0g f1g hf (h:=?_)
 intro ρ h0
 obtain ⟨s0,rfl,k0⟩:=id ha
 simp [M0i,G0F,G0G,h0,eV,k0.cells,k0.plain]
 generalize hG:Array.push (Array.push H _) _=G
 obtain ⟨hx2,_,b0⟩:=push2 hG
 have hx:=Ext.refl H
 clear hG
 replace hx:=hx.trans hx2
 have hv0:a0B (false,[])=0:=by unfold a0B g0h;simp [a0u]
 refine (d0R (j:=(false,[])) (ha.mono hx) ⟨_,rfl,Lim.nil⟩ hx.1 (by rw [a0n];omega) (by simp)).mono ?_
 rintro _ G2 ⟨rfl,hx2⟩
 rw [hv0,a0j]
 simp
theorem j0k {a b c d e:Int} {va vb vc vd ve:Value} (ha:b0q H va (a0k a)) (hb:b0q H vb (a0k b)) (hc:b0q H vc (a0k c)) (hd:b0q H vd (a0k d)) (he:b0q H ve (a0k e)) (hf:fl≤H.size)
  (la:lz a < 67108864) (lb:lz b < 67108864) (lc:lz c < 67108864) (ld:lz d < 67108864) (le:lz e < 67108864) (he0:e ≠ 0) :
  a0S env fl p0U [eV,va,vb,vc,vd,ve] H (fun r H'=>b0q H' r (a0k ((a * b - c * d).tdiv e))∧Ext H H') R:=by
 refine a0g f1h hf (h:=?_)
 intro ρ h0
 obtain ⟨s0,rfl,k0⟩:=id ha
 obtain ⟨s1,rfl,k1⟩:=id hb
 obtain ⟨s2,rfl,k2⟩:=id hc
 obtain ⟨s3,rfl,k3⟩:=id hd
 obtain ⟨s4,rfl,k4⟩:=id he
 simp [M0j,G0H,h0,eV,k0.cells,k0.plain,k1.cells,k1.plain,k2.cells,k2.plain,k3.cells,k3.plain,k4.cells,k4.plain]
 generalize hG:Array.push (Array.push (Array.push (Array.push (Array.push (Array.push (Array.push H _) _) _) _) _) _) _=G
 have hx2:Ext H G:=by rw [← hG];exact (Ext.refl H).push.push.push.push.push.push.push
 have b1:a0e.blk G (H.size + 1)=.row false a0a [.bool (a0k a).1,s0]:=by rw [← hG];simp
 have b2:a0e.blk G (H.size + 2)=.row false a0a [.bool (a0k b).1,s1]:=by rw [← hG];simp
 have b3:a0e.blk G (H.size + 3)=.row false a0a [.bool (a0k c).1,s2]:=by rw [← hG];simp
 have b4:a0e.blk G (H.size + 4)=.row false a0a [.bool (a0k d).1,s3]:=by rw [← hG];simp
 have b5:a0e.blk G (H.size + 5)=.row false a0a [.bool (a0k e).1,s4]:=by rw [← hG];simp
 have b6:a0e.blk G (H.size + 6)=.row false a0a [.bool false,.slice none 0 0]:=by rw [← hG];simp
 have hx:=Ext.refl H
 clear hG
 replace hx:=hx.trans hx2;replace k0:=k0.mono hx2;replace k1:=k1.mono hx2;replace k2:=k2.mono hx2;replace k3:=k3.mono hx2;replace k4:=k4.mono hx2
 refine a0G ?_
 simp [G0I,b1,b2]
 refine (b0B (i:=a0k a) (j:=a0k b) ⟨s0,rfl,k0⟩ ⟨s1,rfl,k1⟩ (by have:=hx.1;omega) (by rw [a0n];omega) (by rw [a0n];omega)).mono ?_
 rintro _ G2 ⟨k5,hx2⟩
 replace b3:=hx2.blk b3;replace b4:=hx2.blk b4;replace b5:=hx2.blk b5;replace b6:=hx2.blk b6;replace hx:=hx.trans hx2;replace k2:=k2.mono hx2;replace k3:=k3.mono hx2;replace k4:=k4.mono hx2
 rw [a0j,a0j] at k5
 simp [b3,b4]
 refine (b0B (i:=a0k c) (j:=a0k d) ⟨s2,rfl,k2⟩ ⟨s3,rfl,k3⟩ (by have:=hx.1;omega) (by rw [a0n];omega) (by rw [a0n];omega)).mono ?_
 rintro _ G3 ⟨k6,hx2⟩
 replace b5:=hx2.blk b5;replace b6:=hx2.blk b6;replace hx:=hx.trans hx2;replace k4:=k4.mono hx2;replace k5:=k5.mono hx2
 rw [a0j,a0j] at k6
 have l1:=c0V a b
 have l2:=c0V c d
 simp
 refine (s0z k5 k6 (by have:=hx.1;omega) (by rw [a0n];omega) (by rw [a0n];omega)).mono ?_
 rintro _ G4 ⟨k7,hx2⟩
 replace b5:=hx2.blk b5;replace b6:=hx2.blk b6;replace hx:=hx.trans hx2;replace k4:=k4.mono hx2;replace k5:=k5.mono hx2;replace k6:=k6.mono hx2
 rw [a0j,a0j] at k7
 have l3:=Z0D (a * b) (c * d)
 simp [b5]
 refine (b0V (j:=a0k e) k7 ⟨s4,rfl,k4⟩ (by have:=hx.1;omega) (by rw [a0n];omega) (by rw [a0n];omega) (by rw [a0j];exact he0)).mono ?_
 rintro _ G4 ⟨⟨_,_,rfl,⟨s5,rfl,k5⟩,⟨s6,rfl,k6⟩⟩,hx2⟩
 replace b6:=hx2.blk b6;replace hx:=hx.trans hx2
 rw [a0j,a0j] at k5 k6 ⊢
 have hsz:=hx.1
 have hsz1:H.size≤G4.size + 1:=by omega
 simp [k5.cells,k5.plain,k6.cells,k6.plain,hsz,hsz1]
 generalize hN:Array.setIfInBounds (Array.setIfInBounds (Array.push (Array.push _ _) _) _ _) _ _=G5
 obtain ⟨hx2,b7,_⟩:=V0y hN
 clear hN
 replace b6:=hx2.blk b6;replace hx:=hx.trans hx2;replace k5:=k5.mono hx2
 have hz:=a0i b6
 simp [G0J,b7,b6,k5.cells,k5.plain]
 generalize hS:Array.setIfInBounds _ _ _=G6
 have hl:Lx G5 G6:=b0c hS b6 (by decide)
 have b8:=a0v hS b6
 simp [b8]
 exact fun _=>⟨s5,rfl,k5.lx hl⟩
end
end Go.Proofs.YtilekhkgobmolaaGreat.AI
