/- Part 10 of the proof: AiSx3, AiSx4, AiSx5, AiSx6, AiSx7, AiSx8, AiSy1, SxDet, SxTab, SxBland, SxRun. -/
import Derived.Test.YtjlohmnnldbjoaaGreatM07
import Derived.Test.YtjlohmnnldbjoaaGreatM08
set_option linter.unusedVariables false
set_option linter.unusedSimpArgs false
set_option linter.unusedSectionVars false
namespace Go.Proofs.YtjlohmnnldbjoaaGreat.AI
section
open Go
set_option maxHeartbeats 4000000
variable {fl:Nat} {H G:a0f} {R:a0G} {v w u:Value}
def eV:Value:=.agg #[]
def v0x:Value:=.iface f0p (.agg #[])
def f0x (z:Int):Prop:=-2147483648 < z∧z < 2147483648
def f1l:Value→a0G→Prop
 | .iface ty v,R=>R (.iface ty v)
 | _,_=>False
theorem k0v {ty:TypeId} {v:Value}:f1l (.iface ty v) R=R (.iface ty v):=nr rfl
theorem t0j {E:Env} {t:b0b} {x:Opd} {K:n0C}:WS E fl t H (.pan x) K R=f1l (ev t x) R:=by
 simp only [WS,opA]
 cases ev t x <;> simp [f1l]
theorem p0P {a b:Int} (ha:f0x a) (hb:f0x b):-4611686018427387904 < a * b∧a * b < 4611686018427387904:=by
 obtain ⟨a1,a2⟩:=ha
 obtain ⟨b1,b2⟩:=hb
 have h:(a * b).natAbs≤2147483647 * 2147483647:=by
  rw [j1i];exact i1z (by omega) (by omega)
 omega
theorem p0O {a b:Int} (ha:f0x a) (hb:f0x b):IntKind.i64.wrap (a * b)=a * b:=by
 have:=p0P ha hb
 exact a0Y (by omega) (by omega)
theorem Z0r (x y:Int):lz (x - y)≤max (lz x) (lz y) + 1:=by
 rw [j1F];have:=o0s x (-y);rwa [h0c] at this
theorem push2 {z1 z2:Blk} (hG:Array.push (Array.push H z1) z2=G):Ext H G∧a0f.blk G H.size=z1∧a0f.blk G (H.size + 1)=z2:=by
 rw [← hG];exact ⟨(Ext.refl H).push.push,by simp,by simp⟩
theorem f0m {a b:Int} (hf:fl≤H.size) :
  a0S env fl y0t [.int .i64 a,.int .i64 b] H (fun r H'=>r=.int .i64 (c0z a b)∧Ext H H') R:=by
 refine a0i e1Z hf (h:=?_)
 intro ρ h0
 simp [N0r,I0p,I0q,h0]
 refine ⟨fun h=>?_,fun h=>?_⟩
 ·have:c0z a b = -1:=by unfold c0z;rw [h1F h]
  simp [I0r,this]
 ·simp [I0s,h0]
  refine ⟨fun h=>?_,fun h=>?_⟩
  ·have:c0z a b=1:=by unfold c0z;rw [h1C (by omega),h1F (by omega)]
   simp [I0t,this]
  ·have:c0z a b=0:=by unfold c0z;rw [h1C (by omega),h1C (by omega)]
   simp [I0u,this]
theorem e0V {z:Int} (hf:fl≤H.size) (hR:R v0x) :
  a0S env fl t0B [.int .i64 z] H (fun r H'=>(r=.int .i64 z∧f0x z)∧Ext H H') R:=by
 refine a0i Y0y hf (h:=?_)
 intro ρ h0
 simp [J0V,v0l,v0m,h0]
 by_cases h1:z≤-2147483648
 ·have h1':¬ (-2147483648 < z):=by omega
  simp [h1,h1',v0n,t0j,k0v]
  exact hR
 ·have h1':-2147483648 < z:=by omega
  by_cases h2:2147483648≤z
  ·have h2':¬ z < 2147483648:=by omega
   simp [h1,h1',h2,h2',h0,v0n,t0j,k0v]
   exact hR
  ·have h2':z < 2147483648:=by omega
   simp [h1,h1',h2,h2',h0,v0o,f0x]
theorem n0O {a b c d:Int} (hf:fl≤H.size) (ha:f0x a) (hb:f0x b) (hc:f0x c) (hd:f0x d) :
  a0S env fl y0s [eV,.int .i64 a,.int .i64 b,.int .i64 c,.int .i64 d] H (fun r H'=>r=.int .i64 (c0z (a * b) (c * d))∧Ext H H') R:=by
 refine a0i e1U hf (h:=?_)
 intro ρ h0
 have m1:=p0O ha hb
 have m2:=p0O hc hd
 simp [N0m,I0b,I0c,h0,eV,m1,m2]
 refine (f0m (by simp)).mono ?_
 rintro _ G ⟨rfl,hx2⟩
 simp
theorem r0N {a:Int} (hf:fl≤H.size) (ha:f0x a) :
  a0S env fl n0M [eV,.int .i64 a] H (fun r H'=>r=.int .i64 (-a)∧Ext H H') R:=by
 refine a0i e1V hf (h:=?_)
 intro ρ h0
 obtain ⟨a1,a2⟩:=ha
 have e1:IntKind.i64.wrap (-a) = -a:=a0Y (by omega) (by omega)
 simp [N0n,I0d,I0e,h0,eV,e1]
theorem p0Q {a:Int} (hf:fl≤H.size) :
  a0S env fl n0N [eV,.int .i64 a] H (fun r H'=>r=.int .i64 (c0z a 0)∧Ext H H') R:=by
 refine a0i e1X hf (h:=?_)
 intro ρ h0
 simp [N0p,I0l,I0m,h0,eV]
 refine (f0m (by simp)).mono ?_
 rintro _ G ⟨rfl,hx2⟩
 simp
theorem k0U {a:Int} (hf:fl≤H.size) (ha:f0x a) :
  a0S env fl r0M [eV,.int .i64 a] H (fun r H'=>b0d H' r (a0j a)∧Ext H H') R:=by
 refine a0i e1W hf (h:=?_)
 intro ρ h0
 obtain ⟨a1,a2⟩:=ha
 simp [N0o,I0i,I0j,h0,eV]
 generalize hG:Array.push (Array.push H _) _=G
 obtain ⟨hx2,_,b0⟩:=push2 hG
 have hx:=Ext.refl H
 clear hG
 replace hx:=hx.trans hx2
 refine (c0W hx.1 (by omega) (by omega)).mono ?_
 rintro _ G2 ⟨⟨s1,rfl,k0⟩,hx2⟩
 replace b0:=hx2.blk b0;replace hx:=hx.trans hx2
 have hz:=a0l b0
 simp [b0,k0.cells,k0.plain]
 generalize hS:Array.setIfInBounds _ _ _=G3
 have hl:Lx G2 G3:=b0m hS b0 (by decide)
 have b1:=a0s hS b0
 simp [b1]
 exact fun _=>⟨s1,rfl,k0.lx hl⟩
theorem m0h {z:Int} (h:b0d H v (a0j z)) (hf:fl≤H.size) (hl:lz z < 1073741824) (hR:R v0x) :
  a0S env fl j0p [eV,v] H (fun r H'=>(r=.int .i64 z∧f0x z)∧Ext H H') R:=by
 refine a0i Y0x hf (h:=?_)
 intro ρ h0
 obtain ⟨s0,rfl,k0⟩:=id h
 simp [J0U,v0h,v0i,h0,eV,k0.cells,k0.plain]
 generalize hG:Array.push (Array.push H _) _=G
 obtain ⟨hx2,_,b0⟩:=push2 hG
 have hx:=Ext.refl H
 clear hG
 replace hx:=hx.trans hx2
 refine (m0p (h.mono hx) hx.1 hl).mono ?_
 rintro _ G2 ⟨rfl,hx2⟩
 replace hx:=hx.trans hx2
 unfold toV
 simp [v0j]
 cases hz:r0O z
 ·simp [I0k,t0j,k0v]
  exact hR
 ·simp [v0k]
  refine (e0V hx.1 hR).mono ?_
  rintro _ G3 ⟨⟨rfl,h1⟩,hx2⟩
  simp [h1]
theorem j0q {a b c d e:Int} (hf:fl≤H.size) (ha:f0x a) (hb:f0x b) (hc:f0x c) (hd:f0x d) (he:e ≠ 0) (hR:R v0x) :
  a0S env fl p0L [eV,.int .i64 a,.int .i64 b,.int .i64 c,.int .i64 d,.int .i64 e] H (fun r H'=>(r=.int .i64 ((a * b - c * d).tdiv e)∧f0x ((a * b - c * d).tdiv e))∧Ext H H') R:=by
 refine a0i e1Y hf (h:=?_)
 intro ρ h0
 have m1:=p0O ha hb
 have m2:=p0O hc hd
 have z1:=p0P ha hb
 have z2:=p0P hc hd
 have m3:IntKind.i64.wrap (a * b - c * d)=a * b - c * d:=a0Y (by omega) (by omega)
 have m4:IntKind.i64.wrap ((a * b - c * d).tdiv e)=(a * b - c * d).tdiv e:=by
  have:((a * b - c * d).tdiv e).natAbs≤(a * b - c * d).natAbs:=by rw [Int.natAbs_tdiv];exact i1M _ _
  exact a0Y (by omega) (by omega)
 simp [N0q,I0n,I0o,h0,eV,m1,m2,m3,v0M he,m4]
 refine (e0V (by simp) hR).mono ?_
 rintro _ G ⟨⟨rfl,h1⟩,hx2⟩
 simp [h1]
theorem n0D {a b c d:Int} {va vb vc vd:Value} (ha:b0d H va (a0j a)) (hb:b0d H vb (a0j b)) (hc:b0d H vc (a0j c)) (hd:b0d H vd (a0j d)) (hf:fl≤H.size)
  (la:lz a < 67108864) (lb:lz b < 67108864) (lc:lz c < 67108864) (ld:lz d < 67108864) :
  a0S env fl y0r [eV,va,vb,vc,vd] H (fun r H'=>r=.int .i64 (c0z (a * b) (c * d))∧Ext H H') R:=by
 refine a0i e1N hf (h:=?_)
 intro ρ h0
 obtain ⟨s0,rfl,k0⟩:=id ha
 obtain ⟨s1,rfl,k1⟩:=id hb
 obtain ⟨s2,rfl,k2⟩:=id hc
 obtain ⟨s3,rfl,k3⟩:=id hd
 simp [N0f,H0M,h0,eV,k0.cells,k0.plain,k1.cells,k1.plain,k2.cells,k2.plain,k3.cells,k3.plain]
 generalize hG:Array.push (Array.push (Array.push (Array.push (Array.push H _) _) _) _) _=G
 have hx2:Ext H G:=by rw [← hG];exact (Ext.refl H).push.push.push.push.push
 have b1:a0f.blk G (H.size + 1)=.row false a0a [.bool (a0j a).1,s0]:=by rw [← hG];simp
 have b2:a0f.blk G (H.size + 2)=.row false a0a [.bool (a0j b).1,s1]:=by rw [← hG];simp
 have b3:a0f.blk G (H.size + 3)=.row false a0a [.bool (a0j c).1,s2]:=by rw [← hG];simp
 have b4:a0f.blk G (H.size + 4)=.row false a0a [.bool (a0j d).1,s3]:=by rw [← hG];simp
 have hx:=Ext.refl H
 clear hG
 replace hx:=hx.trans hx2;replace k0:=k0.mono hx2;replace k1:=k1.mono hx2;replace k2:=k2.mono hx2;replace k3:=k3.mono hx2
 refine a0B ?_
 simp [H0N,b1,b2]
 refine (b0w (i:=a0j a) (j:=a0j b) ⟨s0,rfl,k0⟩ ⟨s1,rfl,k1⟩ (by have:=hx.1;omega) (by rw [a0g];omega) (by rw [a0g];omega)).mono ?_
 rintro _ G2 ⟨k4,hx2⟩
 replace b3:=hx2.blk b3;replace b4:=hx2.blk b4;replace hx:=hx.trans hx2;replace k2:=k2.mono hx2;replace k3:=k3.mono hx2
 rw [a0h,a0h] at k4
 simp [b3,b4]
 refine (b0w (i:=a0j c) (j:=a0j d) ⟨s2,rfl,k2⟩ ⟨s3,rfl,k3⟩ (by have:=hx.1;omega) (by rw [a0g];omega) (by rw [a0g];omega)).mono ?_
 rintro _ G3 ⟨k5,hx2⟩
 replace hx:=hx.trans hx2;replace k4:=k4.mono hx2
 rw [a0h,a0h] at k5
 have l1:=c0a a b
 have l2:=c0a c d
 simp
 refine (c0V k4 k5 (by have:=hx.1;omega) (by rw [a0g];omega) (by rw [a0g];omega)).mono ?_
 rintro _ G4 ⟨rfl,hx2⟩
 rw [a0h,a0h]
 simp
theorem r0r {a:Int} (ha:b0d H v (a0j a)) (hf:fl≤H.size) (la:lz a < 67108864) :
  a0S env fl n0K [eV,v] H (fun r H'=>b0d H' r (a0j (-a))∧Ext H H') R:=by
 refine a0i e1O hf (h:=?_)
 intro ρ h0
 obtain ⟨s0,rfl,k0⟩:=id ha
 simp [N0g,H0O,H0P,h0,eV,k0.cells,k0.plain]
 generalize hG:Array.push (Array.push (Array.push H _) _) _=G
 have hx2:Ext H G:=by rw [← hG];exact (Ext.refl H).push.push.push
 have b2:a0f.blk G (H.size + 2)=.row false a0a [.bool false,.slice none 0 0]:=by rw [← hG];simp
 have hx:=Ext.refl H
 clear hG
 replace hx:=hx.trans hx2
 refine (f0f (ha.mono hx) hx.1 (by rw [a0g];omega)).mono ?_
 rintro _ G2 ⟨⟨s1,rfl,k1⟩,hx2⟩
 replace b2:=hx2.blk b2;replace hx:=hx.trans hx2
 rw [a0h] at k1 ⊢
 have hz:=a0l b2
 simp [b2,k1.cells,k1.plain]
 generalize hS:Array.setIfInBounds _ _ _=G3
 have hl:Lx G2 G3:=b0m hS b2 (by decide)
 have b3:=a0s hS b2
 simp [b3]
 exact fun _=>⟨s1,rfl,k1.lx hl⟩
theorem k0P {a:Int} (ha:b0d H v (a0j a)) (hf:fl≤H.size) :
  a0S env fl r0L [eV,v] H (fun r H'=>b0d H' r (a0j a)∧Ext H H') R:=by
 refine a0i e1P hf (h:=?_)
 intro ρ h0
 obtain ⟨s0,rfl,k0⟩:=id ha
 simp [N0h,H0Q,H0R,h0,eV,k0.cells,k0.plain]
 exact fun hx=>ha.mono hx
theorem i0K {a:Int} (ha:b0d H v (a0j a)) (hf:fl≤H.size) :
  a0S env fl k0n [eV,v] H (fun r H'=>b0d H' r (a0j a)∧Ext H H') R:=by
 refine a0i e1Q hf (h:=?_)
 intro ρ h0
 obtain ⟨s0,rfl,k0⟩:=id ha
 simp [N0i,H0S,H0T,h0,eV,k0.cells,k0.plain]
 exact fun hx=>ha.mono hx
theorem p0x {a:Int} (ha:b0d H v (a0j a)) (hf:fl≤H.size) (la:lz a < 67108864) :
  a0S env fl n0L [eV,v] H (fun r H'=>r=.int .i64 (c0z a 0)∧Ext H H') R:=by
 refine a0i e1R hf (h:=?_)
 intro ρ h0
 obtain ⟨s0,rfl,k0⟩:=id ha
 simp [N0j,H0U,H0V,h0,eV,k0.cells,k0.plain]
 generalize hG:Array.push (Array.push H _) _=G
 obtain ⟨hx2,_,b0⟩:=push2 hG
 have hx:=Ext.refl H
 clear hG
 replace hx:=hx.trans hx2
 have hv0:a0z (false,[])=0:=by unfold a0z f0R;simp [a0w]
 refine (c0V (j:=(false,[])) (ha.mono hx) ⟨_,rfl,Lim.nil⟩ hx.1 (by rw [a0g];omega) (by simp)).mono ?_
 rintro _ G2 ⟨rfl,hx2⟩
 rw [hv0,a0h]
 simp
theorem j0j {a b c d e:Int} {va vb vc vd ve:Value} (ha:b0d H va (a0j a)) (hb:b0d H vb (a0j b)) (hc:b0d H vc (a0j c)) (hd:b0d H vd (a0j d)) (he:b0d H ve (a0j e)) (hf:fl≤H.size)
  (la:lz a < 67108864) (lb:lz b < 67108864) (lc:lz c < 67108864) (ld:lz d < 67108864) (le:lz e < 67108864) (he0:e ≠ 0) :
  a0S env fl p0K [eV,va,vb,vc,vd,ve] H (fun r H'=>b0d H' r (a0j ((a * b - c * d).tdiv e))∧Ext H H') R:=by
 refine a0i e1S hf (h:=?_)
 intro ρ h0
 obtain ⟨s0,rfl,k0⟩:=id ha
 obtain ⟨s1,rfl,k1⟩:=id hb
 obtain ⟨s2,rfl,k2⟩:=id hc
 obtain ⟨s3,rfl,k3⟩:=id hd
 obtain ⟨s4,rfl,k4⟩:=id he
 simp [N0k,H0W,h0,eV,k0.cells,k0.plain,k1.cells,k1.plain,k2.cells,k2.plain,k3.cells,k3.plain,k4.cells,k4.plain]
 generalize hG:Array.push (Array.push (Array.push (Array.push (Array.push (Array.push (Array.push H _) _) _) _) _) _) _=G
 have hx2:Ext H G:=by rw [← hG];exact (Ext.refl H).push.push.push.push.push.push.push
 have b1:a0f.blk G (H.size + 1)=.row false a0a [.bool (a0j a).1,s0]:=by rw [← hG];simp
 have b2:a0f.blk G (H.size + 2)=.row false a0a [.bool (a0j b).1,s1]:=by rw [← hG];simp
 have b3:a0f.blk G (H.size + 3)=.row false a0a [.bool (a0j c).1,s2]:=by rw [← hG];simp
 have b4:a0f.blk G (H.size + 4)=.row false a0a [.bool (a0j d).1,s3]:=by rw [← hG];simp
 have b5:a0f.blk G (H.size + 5)=.row false a0a [.bool (a0j e).1,s4]:=by rw [← hG];simp
 have b6:a0f.blk G (H.size + 6)=.row false a0a [.bool false,.slice none 0 0]:=by rw [← hG];simp
 have hx:=Ext.refl H
 clear hG
 replace hx:=hx.trans hx2;replace k0:=k0.mono hx2;replace k1:=k1.mono hx2;replace k2:=k2.mono hx2;replace k3:=k3.mono hx2;replace k4:=k4.mono hx2
 refine a0B ?_
 simp [H0X,b1,b2]
 refine (b0w (i:=a0j a) (j:=a0j b) ⟨s0,rfl,k0⟩ ⟨s1,rfl,k1⟩ (by have:=hx.1;omega) (by rw [a0g];omega) (by rw [a0g];omega)).mono ?_
 rintro _ G2 ⟨k5,hx2⟩
 replace b3:=hx2.blk b3;replace b4:=hx2.blk b4;replace b5:=hx2.blk b5;replace b6:=hx2.blk b6;replace hx:=hx.trans hx2;replace k2:=k2.mono hx2;replace k3:=k3.mono hx2;replace k4:=k4.mono hx2
 rw [a0h,a0h] at k5
 simp [b3,b4]
 refine (b0w (i:=a0j c) (j:=a0j d) ⟨s2,rfl,k2⟩ ⟨s3,rfl,k3⟩ (by have:=hx.1;omega) (by rw [a0g];omega) (by rw [a0g];omega)).mono ?_
 rintro _ G3 ⟨k6,hx2⟩
 replace b5:=hx2.blk b5;replace b6:=hx2.blk b6;replace hx:=hx.trans hx2;replace k4:=k4.mono hx2;replace k5:=k5.mono hx2
 rw [a0h,a0h] at k6
 have l1:=c0a a b
 have l2:=c0a c d
 simp
 refine (s0e k5 k6 (by have:=hx.1;omega) (by rw [a0g];omega) (by rw [a0g];omega)).mono ?_
 rintro _ G4 ⟨k7,hx2⟩
 replace b5:=hx2.blk b5;replace b6:=hx2.blk b6;replace hx:=hx.trans hx2;replace k4:=k4.mono hx2;replace k5:=k5.mono hx2;replace k6:=k6.mono hx2
 rw [a0h,a0h] at k7
 have l3:=Z0r (a * b) (c * d)
 simp [b5]
 refine (b0T (j:=a0j e) k7 ⟨s4,rfl,k4⟩ (by have:=hx.1;omega) (by rw [a0g];omega) (by rw [a0g];omega) (by rw [a0h];exact he0)).mono ?_
 rintro _ G4 ⟨⟨_,_,rfl,⟨s5,rfl,k5⟩,⟨s6,rfl,k6⟩⟩,hx2⟩
 replace b6:=hx2.blk b6;replace hx:=hx.trans hx2
 rw [a0h,a0h] at k5 k6 ⊢
 have hsz:=hx.1
 have hsz1:H.size≤G4.size + 1:=by omega
 simp [k5.cells,k5.plain,k6.cells,k6.plain,hsz,hsz1]
 generalize hN:Array.setIfInBounds (Array.setIfInBounds (Array.push (Array.push _ _) _) _ _) _ _=G5
 obtain ⟨hx2,b7,_⟩:=V0w hN
 clear hN
 replace b6:=hx2.blk b6;replace hx:=hx.trans hx2;replace k5:=k5.mono hx2
 have hz:=a0l b6
 simp [H0Y,b7,b6,k5.cells,k5.plain]
 generalize hS:Array.setIfInBounds _ _ _=G6
 have hl:Lx G5 G6:=b0m hS b6 (by decide)
 have b8:=a0s hS b6
 simp [b8]
 exact fun _=>⟨s5,rfl,k5.lx hl⟩
theorem x0O.lx2 {l:List Int} (h:Sls PI H a0a 2 v l) (h1:LxT a0a H G) (h2:Lx H G):Sls PI G a0a 2 v l:=by
 obtain ⟨cs,⟨hl,hs⟩,hp⟩:=h
 refine ⟨cs,⟨hl,?_⟩,fun k hk=>b0d.lx (hp k hk) h2⟩
 rcases hs with hs | ⟨b,off,cap,ro,cells,rfl,hb,ho,hcs⟩
 ·exact .inl hs
 ·exact .inr ⟨b,off,cap,ro,cells,rfl,h1 _ _ _ hb,ho,hcs⟩
structure ScT where
 n:Int
 A:List (List Int)
 bs:List Rat
 C:List Int
 cb:Rat
def PIs (H:a0f) (cs:List Value) (l:List Int):Prop:=∃ w,cs=[w]∧Sls PI H a0a 2 w l
theorem p0V:l0i PIs:=fun _ _ _ _ hx ⟨v,h1,h2⟩=>⟨v,h1,h2.mono d0i hx⟩
def SV (H:a0f) (v:Value) (p:ScT):Prop:=∃ sA sB sC s1 s2,v=.agg #[.int .i64 p.n,sA,sB,sC,.bool (a0e p.cb).1.1,s1,.bool (a0e p.cb).2.1,s2] ∧
 Sls PIs H b0G 1 sA p.A∧a0O H sB (p.bs.map a0e)∧Sls PI H a0a 2 sC p.C∧Lim H s1 (a0e p.cb).1.2∧Lim H s2 (a0e p.cb).2.2
theorem Whole.mono {xs:List Rat} {zs:List Int} {b:Rat} {K K':Nat} (h:Whole xs zs b K) (hK:K≤K'):Whole xs zs b K' :=
 ⟨h.len,h.pos,h.eq,fun z hz=>h1R (h.szz z hz) hK,h1R h.szb hK⟩
def k0F (p:LPt) (k:Nat):List Rat:=(p.A.getD k []).map b0o ++ [b0o (p.B.getD k d0P)]
def X0J (H:a0f) (P:Nat) (p:LPt) (sA0 sB0 sC0:Value) (K:Nat) (i:Nat) (ρ:Nat→Value) (G:a0f):Prop :=
 ρ 12=sA0∧ρ 1=.pointer (some ⟨H.size,0,none⟩)∧ρ 2=.pointer (some ⟨H.size + 1,0,none⟩)∧ρ 3=.pointer (some ⟨P,0,none⟩)∧Ext H G ∧
  a0f.blk G H.size=.row false b0j [.int .i64 p.n,sA0,sB0,sC0] ∧
  a0f.blk G (H.size + 1)=.row false a0P [.int .i64 0,.slice none 0 0,.slice none 0 0,.slice none 0 0,.bool false,.slice none 0 0,.bool false,.slice none 0 0] ∧
  ∃ (sA sB:Value) (L:List (List Int)) (bs:List Rat),a0f.blk G P=.row false a0P [.int .i64 p.n,sA,sB,.slice none 0 0,.bool false,.slice none 0 0,.bool false,.slice none 0 0] ∧
   b0e PIs H.size G b0G 1 sA L∧b0e PR H.size G a0b 4 sB (bs.map a0e)∧L.length=i∧bs.length=i ∧
   ∀ k,k < i→Whole (k0F p k) (L.getD k []) (bs.getD k 0) K
theorem j0V {S N K:Nat} {p:LPt} (h:LPV H v p) (hf:fl≤H.size) (hA:∀ r ∈ p.A,Few S r∧r.length≤N) (hB:Few S p.B) (hBl:p.B.length=p.A.length) (hC:Few S p.C) (hCl:p.C.length≤N) (hAl:p.A.length < 67108864)
  (hS:1≤S) (hK:K=(N + 3) * (S + 1)) (hK2:K < 67108864) :
  a0S env fl A0h [v] H (fun r H'=>(∃ q:ScT,SV H' r q∧q.n=p.n∧q.A.length=p.A.length∧q.bs.length=p.A.length∧(∀ k,k < p.A.length→Whole (k0F p k) (q.A.getD k []) (q.bs.getD k 0) K)∧Whole (p.C.map b0o) q.C q.cb K)∧Ext H H') R:=by
 obtain ⟨sA0,sB0,sC0,rfl,kA,kB,kC⟩:=h
 refine a0i d1M hf (h:=?_)
 intro ρ h0
 simp [M0f,C0p,h0,kA.cells,kB.cells,kC.cells]
 generalize hG:Array.push (Array.push H _) _=G
 obtain ⟨hx2,b0,b1⟩:=push2 hG
 have hx:=Ext.refl H
 clear hG
 replace hx:=hx.trans hx2
 have hsz:=hx.1
 have hb1l:=a0l b1
 simp [C0q,b0,hsz]
 generalize hN:Array.setIfInBounds (Array.push _ _) _ _=G3
 obtain ⟨hx2,b2⟩:=new1 hN
 clear hN
 replace b0:=hx2.blk b0;replace b1:=hx2.blk b1;replace hx:=hx.trans hx2
 obtain ⟨P,hP⟩:∃ P,P=G.size:=⟨_,rfl⟩
 rw [← hP] at b2 hsz hb1l ⊢
 have hPne:P ≠ H.size:=by omega
 have hPne1:P ≠ H.size + 1:=by omega
 have hNS:S < K:=by rw [hK];have:1 * (S + 1)≤(N + 3) * (S + 1):=h1J _ (by omega);omega
 have hNK:N + 3≤K:=by rw [hK];have:(N + 3) * 1≤(N + 3) * (S + 1):=i1b _ (by omega);omega
 simp [C0r,b0,kA.slen]
 refine d0Q (n:=p.A.length) (X0J H P p sA0 sB0 sC0 K) rfl rfl (by decide) (by omega) (by simp) (by simp) ?_ ?_ ?_ ?_
 ·exact ⟨by simp,by simp,by simp,by simp,hx,b0,b1,_,_,[],[],b2,b0e.nil,b0e.nil,rfl,rfl,fun k hk=>by omega⟩
 ·intro i ρ ρ' G h hI;simpa [X0J,h] using hI
 ·clear h0 ρ hx b0 b1 b2 hx2
  rintro i ρ G hi gi gn ⟨g12,g1,g2,g3,hx,b0,b1,sA,sB,L,bs,b2,oA,oB,hL,hbs,hW⟩
  have kA':=kA.mono b0F hx
  have kB':=kB.mono a0u hx
  obtain ⟨wr,hlr,kr⟩:=d0o.load kA' hi
  simp [C0s,g12,gi,kA'.ia hi,hlr]
  refine e0y ?_
  simp [C0t]
  have hAi:=hA _ (h1I hi)
  refine (f0n kr (by have:=hx.1;omega) hAi.1 (by omega) (by omega)).mono ?_
  rintro r G2 ⟨kw,hxa⟩
  have b0':=hxa.blk b0
  have kB2:=kB'.mono a0u hxa
  have hiB:i < p.B.length:=by omega
  have hBi:=hB _ (h1I hiB)
  obtain ⟨we,hle,k0⟩:=a0O.load kB2 hiB
  obtain ⟨s1,s2,rfl,k1,k2⟩:=id k0
  simp [g1,b0',kB2.ia hiB,hle]
  have hHG:=hx.1
  have hGG2:=hxa.1
  refine (c0j (a:=p.B[i]) k0 (b:=d0P) e0T (by omega) (by omega) (by decide)).mono ?_
  rintro _ G3 ⟨⟨s3,s4,rfl,k3,k4⟩,hxb⟩
  replace kw:=kw.mono a0u hxb
  rw [c0C,j1O] at k3 k4 ⊢
  have hown:(h0P p.A[i]).length=p.A[i].length:=by unfold h0P;simp
  obtain ⟨r',G4,h1,h2,h3,h4⟩:=b0e.app (P:=PR) (sz:=4) (e:=a0b) (by decide) (fun G' cs x _ hl h=>b0L.lx h hl) (kw.low (show H.size≤G.size from hHG)) (e2:=a0b) (c:=1) (bytes:=64) (new:=[.bool (a0e (b0o p.B[i])).1.1,s3,.bool (a0e (b0o p.B[i])).2.1,s4]) (x:=a0e (b0o p.B[i])) ⟨s3,s4,rfl,k3,k4⟩ rfl (by simp [k3.plain,k4.plain]) (by omega) (by omega) (by omega) (by have:=hxb.1;omega)
  have hxG:Ext G G4:=by
   have hh:=hxa.trans hxb
   exact ⟨h1R hh.1 h3.1,fun b hb=>(h3.2 b (h1W hb hh.1) (fun h=>by have:=(kw.ge h).1;omega)).trans (hh.2 b hb)⟩
  simp [h1,k3.cells,k4.cells]
  have hrow:h0P p.A[i] ++ [a0e (b0o p.B[i])]=(k0F p i).map a0e:=by
   unfold k0F h0P
   rw [h1z,h1z,h1E hi,h1E hiB];simp
  rw [hrow] at h2
  have hrl:(k0F p i).length=p.A[i].length + 1:=by rw [← hown];have:=congrArg List.length hrow;simpa using this.symm
  have hrS:∀ x ∈ k0F p i,szR x≤S:=by
   intro x hx
   unfold k0F at hx
   rw [h1z,h1z,h1E hi,h1E hiB] at hx
   simp only [i1k,i1g,j1h,k1v] at hx
   rcases hx with ⟨y,hy,rfl⟩ | rfl
   ·obtain ⟨l1,l2,l3⟩:=hAi.1 _ hy
    have:=b0E l2 l3;omega
   ·obtain ⟨l1,l2,l3⟩:=hBi
    have:=b0E l2 l3;omega
  have hrK:((k0F p i).length + 2) * (S + 1)≤K:=by rw [hK];exact h1J _ (by omega)
  refine (g0v h2.sls (by have:=hxG.1;omega) hrS (by omega)).mono ?_
  rintro _ G5 ⟨⟨q1,_,by',zs,rfl,hWi,hq,⟨s5,s6,rfl,k5,k6⟩⟩,hxc⟩
  have hxd:=hxG.trans hxc
  have hsz5:H.size≤G5.size:=by have:=hxd.1;omega
  simp [k5.cells,k6.cells,k5.plain,k6.plain,hsz5]
  generalize hN:Array.setIfInBounds (Array.push _ _) _ _=G6
  obtain ⟨hxe,b3⟩:=new1 hN
  clear hN
  replace k5:=k5.mono hxe
  replace k6:=k6.mono hxe
  replace hq:=hq.mono d0i hxe
  have hx2:Ext G G6:=hxd.trans hxe
  replace b0:=hx2.blk b0;replace b1:=hx2.blk b1;replace b2:=hx2.blk b2;replace hx:=hx.trans hx2
  replace kA':=kA'.mono b0F hx2
  replace kB':=kB'.mono a0u hx2
  replace oA:=oA.mono p0V hx2
  replace oB:=oB.mono a0u hx2
  obtain ⟨Q,hQ⟩:∃ Q,Q=G5.size:=⟨_,rfl⟩
  rw [← hQ] at b3 ⊢
  refine e0y ?_
  obtain ⟨cq,pq⟩:=hq.cells
  obtain ⟨sA',G7,h1,h2,h3,h4⟩:=b0e.app (P:=PIs) (sz:=1) (e:=b0G) (by decide)
    (fun G' cs x hxb hl ⟨w',q1,q2⟩=>⟨w',q1,x0O.lx2 q2 (oA.lxT (by decide) hxb) hl⟩) oA (e2:=b0G) (c:=1) (bytes:=24) (new:=[q1]) (x:=zs) ⟨q1,rfl,hq.sls⟩ rfl (by simp [pq]) (by omega) (by omega) (by omega) hx.1
  obtain ⟨_,_,hAe⟩:=e0t (by decide) h1
  have hlx:=oA.lx (by decide) h3
  have nA0:=oA.ne b0 (by decide)
  have nA1:=oA.ne b1 (by decide)
  have nA2:=oA.ne b2 (by decide)
  have nA3:=oA.ne b3 (by decide)
  have hAo:=oA.blkOf
  simp [C0u,g3,b2,cq,h1]
  replace b0:=(h3.2 _ (a0l b0) nA0).trans b0
  replace b1:=(h3.2 _ (a0l b1) nA1).trans b1
  replace b2:=(h3.2 _ (a0l b2) nA2).trans b2
  replace b3:=(h3.2 _ (a0l b3) nA3).trans b3
  replace hx:=h4 _ (h1A _) hx
  replace k5:=k5.lx hlx
  replace k6:=k6.lx hlx
  replace oB:=oB.lxm (Q':=PR) (oA.lxT (by decide) h3) (fun cs x h=>b0L.lx h hlx)
  simp [b2,b3]
  have hbl:(bs.map a0e).length=i:=by simp [hbs]
  obtain ⟨sB',G8,p1,p2,p3,p4⟩:=b0e.app (P:=PR) (sz:=4) (e:=a0b) (by decide) (fun G' cs x _ hl h=>b0L.lx h hl) oB (e2:=a0b) (c:=1) (bytes:=64) (new:=[.bool (a0e by').1.1,s5,.bool (a0e by').2.1,s6]) (x:=a0e by') ⟨s5,s6,rfl,k5,k6⟩ rfl (by simp [k5.plain,k6.plain]) (by omega) (by omega) (by omega) hx.1
  have hly:=oB.lx (by decide) p3
  have nB0:=oB.ne b0 (by decide)
  have nB1:=oB.ne b1 (by decide)
  have nB2:=oB.ne b2 (by decide)
  replace h2:=h2.lxm (Q':=PIs) (oB.lxT (by decide) p3) (fun cs x ⟨w',q1,q2⟩=>⟨w',q1,x0O.lx2 q2 (oB.lxT (by decide) p3) hly⟩)
  replace b0:=(p3.2 _ (a0l b0) nB0).trans b0
  replace b1:=(p3.2 _ (a0l b1) nB1).trans b1
  replace b2:=(p3.2 _ (a0l b2) nB2).trans b2
  replace hx:=p4 _ (h1A _) hx
  obtain ⟨cA,pA⟩:=h2.cells
  obtain ⟨cB,pB⟩:=p2.cells
  have hz:=a0l b2
  simp [p1,b2,cA,pA,cB,pB,hsz,hz]
  generalize hS1:Array.setIfInBounds _ _ _=G9
  have t1:∀ {e:Nat},a0P ≠ e→LxT e G8 G9:=fun hne=>b0m hS1 b2 hne
  have hbo:∀ x,x ∈ blkW sA→slB sA=some x:=by
   rcases hAo with h | ⟨b,h,h'⟩
   ·rw [h];simp
   ·rw [h,h'];simp
  refine ⟨⟨fun x hx h=>nA2 (by rw [hbo x hx,h]),fun x hx h=>nA3 (by rw [hbo x hx,h])⟩,Rnd.mk (by simp [gi]) (by simp [gn]) ⟨by simp [g12],by simp [g1],by simp [g2],by simp [g3],a0E hS1 hx hsz,a0o hS1 b0 hPne,a0o hS1 b1 hPne1,sA',sB',L ++ [zs],bs ++ [by'],a0s hS1 b2,?_,?_,by simp [hL],by simp [hbs],fun k hk=>?_⟩⟩
  ·exact h2.lxm (t1 (by decide)) (fun cs x ⟨w',q1,q2⟩=>⟨w',q1,x0O.lx2 q2 (t1 (by decide)) (t1 (by decide))⟩)
  ·rw [k1t];exact p2.lxm (t1 (by decide)) (fun cs x h=>b0L.lx h (t1 (by decide)))
  ·by_cases hki:k=i
   ·have e1:(L ++ [zs]).getD k []=zs:=by rw [hki,← hL];simp [h1z]
    have e2:(bs ++ [by']).getD k 0=by':=by rw [hki,← hbs];simp [h1z]
    rw [e1,e2,hki];exact hWi.mono hrK
   ·have e1:(L ++ [zs]).getD k []=L.getD k []:=by rw [h1z,i1u (by omega),h1z]
    have e2:(bs ++ [by']).getD k 0=bs.getD k 0:=by rw [h1z,i1u (by omega),h1z]
    rw [e1,e2];exact hW k (by omega)
 ·clear h0 ρ hx b0 b1 b2 hx2
  rintro ρ G gi gn ⟨g12,g1,g2,g3,hx,b0,b1,sA,sB,L,bs,b2,oA,oB,hL,hbs,hW⟩
  have kC':=kC.mono a0u hx
  simp [C0v,g1,b0]
  refine (f0n kC' hx.1 hC (by omega) (by omega)).mono ?_
  rintro r G2 ⟨kw,hxa⟩
  have hcs:h0P p.C=(p.C.map b0o).map a0e:=by unfold h0P;simp
  rw [hcs] at kw
  have hrS:∀ x ∈ p.C.map b0o,szR x≤S:=by
   intro x hx
   simp only [j1h] at hx
   obtain ⟨y,hy,rfl⟩:=hx
   obtain ⟨l1,l2,l3⟩:=hC _ hy
   have:=b0E l2 l3;omega
  have hrK:((p.C.map b0o).length + 2) * (S + 1)≤K:=by rw [hK,i1P];exact h1J _ (by omega)
  simp
  refine (g0v kw.sls (by have:=hxa.1;have:=hx.1;omega) hrS (by omega)).mono ?_
  rintro _ G5 ⟨⟨q1,_,by',zs,rfl,hWi,hq,⟨s5,s6,rfl,k5,k6⟩⟩,hxc⟩
  have hx2:Ext G G5:=hxa.trans hxc
  replace b1:=hx2.blk b1;replace b2:=hx2.blk b2;replace hx:=hx.trans hx2
  replace oA:=oA.mono p0V hx2
  replace oB:=oB.mono a0u hx2
  obtain ⟨cq,pq⟩:=hq.cells
  obtain ⟨cA,pA⟩:=oA.cells
  obtain ⟨cB,pB⟩:=oB.cells
  have hz1:=a0l b1
  have hz2:=a0l b2
  simp [g3,g2,b2,cq,pq,k5.cells,k5.plain,k6.cells,k6.plain,hsz]
  generalize hS1:Array.setIfInBounds _ _ _=G6
  have t1:∀ {e:Nat},a0P ≠ e→LxT e G5 G6:=fun hne=>b0m hS1 b2 hne
  replace b1:=a0o hS1 b1 hPne1
  replace b2:=a0s hS1 b2
  replace hx:=a0E hS1 hx hsz
  have hz3:=a0l b2
  simp [b2,hsz]
  generalize hS2:Array.setIfInBounds _ _ _=G7
  have t2:∀ {e:Nat},a0P ≠ e→LxT e G6 G7:=fun hne=>b0m hS2 b2 hne
  replace b1:=a0o hS2 b1 hPne1
  replace b2:=a0s hS2 b2
  have hz4:=a0l b1
  simp [C0w,g2,g3,b1,b2,cA,pA,cB,pB,cq,pq,k5.cells,k5.plain,k6.cells,k6.plain]
  generalize hS3:Array.setIfInBounds _ _ _=G8
  have t3:∀ {e:Nat},a0P ≠ e→LxT e G7 G8:=fun hne=>b0m hS3 b1 hne
  have t:∀ {e:Nat},a0P ≠ e→LxT e G5 G8:=fun hne b ro cs hb=>t3 hne _ _ _ (t2 hne _ _ _ (t1 hne _ _ _ hb))
  replace b1:=a0s hS3 b1
  simp [b1]
  refine fun _=>⟨⟨p.n,L,bs,zs,by'⟩,⟨sA,sB,q1,s5,s6,rfl,?_,?_,?_,k5.lx (t (by decide)),k6.lx (t (by decide))⟩,rfl,hL,hbs,fun k hk=>?_,hWi.mono hrK⟩
  ·exact (oA.lxm (Q':=PIs) (t (by decide)) (fun cs x ⟨w',q1,q2⟩=>⟨w',q1,x0O.lx2 q2 (t (by decide)) (t (by decide))⟩)).sls
  ·exact a0O.lx2 oB.sls (t (by decide)) (t (by decide))
  ·exact x0O.lx2 hq.sls (t (by decide)) (t (by decide))
  ·have:=hW k hk
   rwa [h1z,h1z] at this
end
section
open Go
set_option maxHeartbeats 4000000
variable {E:Env} {fl:Nat} {t:b0b} {H:a0f} {Q:d0X} {R:a0G}
def WRP (E:Env) (fl:Nat) (bef:List Nat) (pairs:List (Nat × Nat)) (Z:b0b→a0f→Prop) (R:a0G):Nat→List a0L→b0b→a0f→Option (Nat × Value)→Log→Prop
 | _,[],t,H,p,lg=>c0P lg.reverse pairs=true∧(match p with | none=>Z t H | some (_,v)=>R v)
 | i,o :: r,t,H,p,lg=>if g0Z bef i p=true then WRP E fl bef pairs Z R (i + 1) r t H p (([],[]) :: lg) else
  if b0g t o.g then WS E fl t H o.op (fun v H'=>WRP E fl bef pairs Z R (i + 1) r (put t o.dst v) H' p (d0a t o.op :: lg)) (fun v=>p=none∧WRP E fl bef pairs Z R (i + 1) r t H (some (i,v)) (([],[]) :: lg))
  else WRP E fl bef pairs Z R (i + 1) r (put t o.dst undef) H p (([],[]) :: lg)
theorem j0h (bef:List Nat) (pairs:List (Nat × Nat)) {Z:b0b→a0f→Prop}:∀ (ops:List a0L) (i:Nat) (t:b0b) (H:a0f) (p:Option (Nat × Value)) (log:Log),
  WRP E fl bef pairs Z R i ops t H p log→∃ n,k0y (fun e t H=>e=.normal∧Z t H) R (b0S (b0r E n) fl bef pairs i ops t H p log)
 | [],i,t,H,p,log,h=>by
  refine ⟨0,?_⟩
  simp only [b0S];rw [h1F h.1]
  cases p with
  | none=>exact ⟨rfl,h.2⟩
  | some q=>exact h.2
 | o :: r,i,t,H,p,log,h=>by
  simp only [WRP] at h
  split at h
  ·rename_i hh
   obtain ⟨n,hn⟩:=j0h bef pairs r (i + 1) _ _ _ _ h
   exact ⟨n,by simp only [b0S];rw [h1F hh];exact hn⟩
  ·rename_i hh
   split at h
   ·rename_i hw
    obtain ⟨n,hn⟩:=z0L h
    have key:∀ (m:Nat) (t2:b0b) (H2:a0f) (p2:Option (Nat × Value)) (lg2:Log),k0y (fun e t H=>e=.normal∧Z t H) R (b0S (b0r E m) fl bef pairs (i + 1) r t2 H2 p2 lg2) →
      b0S (b0r E (max n m)) fl bef pairs (i + 1) r t2 H2 p2 lg2=b0S (b0r E m) fl bef pairs (i + 1) r t2 H2 p2 lg2:=fun m t2 H2 p2 lg2 hm =>
     d0e (a0N E m (max n m) (by omega)) (h1A fl) bef pairs r (i + 1) t2 H2 p2 lg2 (by intro hb;rw [hb] at hm;exact hm)
    have h1:∀ m,b0D (b0r E n) fl t H o.op ≠ .bad→b0D (b0r E (max n m)) fl t H o.op=b0D (b0r E n) fl t H o.op:=fun m hb=>f0K (a0N E n (max n m) (by omega)) (h1A fl) (t:=t) (H:=H) (so:=o.op) hb
    cases hs:b0D (b0r E n) fl t H o.op with
    | bad=>rw [hs] at hn;exact h1Y hn id
    | pan v =>
     rw [hs] at hn
     obtain ⟨rfl,hn⟩:=hn
     obtain ⟨m,hm⟩:=j0h bef pairs r (i + 1) _ _ _ _ hn
     refine ⟨max n m,?_⟩
     simp only [b0S]
     rw [h1C hh,h1F hw,h1 m (by rw [hs];simp),hs]
     simp only []
     rw [key m _ _ _ _ hm];exact hm
    | ok rr =>
     obtain ⟨v,H'⟩:=rr
     rw [hs] at hn
     obtain ⟨m,hm⟩:=j0h bef pairs r (i + 1) _ _ _ _ hn
     refine ⟨max n m,?_⟩
     simp only [b0S]
     rw [h1C hh,h1F hw,h1 m (by rw [hs];simp),hs]
     simp only []
     rw [key m _ _ _ _ hm];exact hm
   ·rename_i hw
    obtain ⟨m,hm⟩:=j0h bef pairs r (i + 1) _ _ _ _ h
    exact ⟨m,by simp only [b0S];rw [h1C hh,h1C hw];exact hm⟩
theorem l0P {ops:List a0L} {bef:List Nat} {pairs:List (Nat × Nat)} (h:WRP E fl bef pairs (fun t H=>Q .normal t H) R 0 ops t H none []):W E fl (.draw ops bef pairs) t H Q R:=by
 obtain ⟨n,hn⟩:=j0h bef pairs ops 0 t H none [] h
 refine ⟨n + 1,?_⟩
 have h2:=d0e (a0N E n (n+1) (by omega)) (h1A fl) bef pairs ops 0 t H none [] (by intro hb;rw [hb] at hn;exact hn)
 simp only [b0c,h2]
 cases hd:b0S (b0r E n) fl bef pairs 0 ops t H none [] with
 | bad=>rw [hd] at hn;exact hn
 | pan v=>rw [hd] at hn;exact hn
 | fin e t' H'=>rw [hd] at hn;obtain ⟨rfl,hn⟩:=hn;exact hn
section
variable {bef:List Nat} {pairs:List (Nat × Nat)} {Z:b0b→a0f→Prop} {lg lg2:Log} {d:Option Nat} {op:SOp} {r:List a0L} {i j:Nat} {v:Value} {x:Opd} {K:n0C}
@[simp ↓] theorem c1M:WRP E fl bef pairs Z R i [] t H none lg=(c0P lg.reverse pairs=true∧Z t H):=nr rfl
@[simp ↓] theorem a1S:WRP E fl bef pairs Z R i [] t H (some (j,v)) lg=(c0P lg.reverse pairs=true∧R v):=nr rfl
@[simp ↓] theorem a1R:WRP E fl bef pairs Z R i (⟨d,none,op⟩ :: r) t H none lg =
  WS E fl t H op (fun v H'=>WRP E fl bef pairs Z R (i + 1) r (put t d v) H' none (d0a t op :: lg)) (fun v=>WRP E fl bef pairs Z R (i + 1) r t H (some (i,v)) (([],[]) :: lg)):=by
 simp [WRP,b0g,g0Z]
@[simp ↓] theorem X0O:WRP E fl bef pairs Z R i (⟨d,none,op⟩ :: r) t H (some (j,v)) lg =
  if (bef.getD i 0).testBit j=true then WRP E fl bef pairs Z R (i + 1) r t H (some (j,v)) (([],[]) :: lg) else
  WS E fl t H op (fun w H'=>WRP E fl bef pairs Z R (i + 1) r (put t d w) H' (some (j,v)) (d0a t op :: lg)) (fun _=>False):=by
 simp [WRP,b0g,g0Z]
theorem z0I {t':b0b} {ops:List a0L} {p:Option (Nat × Value)} (h:t=t'):WRP E fl bef pairs Z R i ops t H p lg=WRP E fl bef pairs Z R i ops t' H p lg:=by rw [h]
attribute [congr] z0I
def U0m (E:Env) (fl fl':Nat) (bef:List Nat) (pairs:List (Nat × Nat)) (Z:b0b→a0f→Prop) (R:a0G) (i j:Nat) (f:FuncId) (args:List Value) (H:a0f) (d:Option Nat) (r:List a0L) (t:b0b) (lg lg2:Log):Prop :=
 a0S E fl' f args H (fun v H'=>WRP E fl bef pairs Z R j r (put t d v) H' none lg) (fun v=>WRP E fl bef pairs Z R j r t H (some (i,v)) lg2)
@[simp ↓ high] theorem a1V {f:FuncId} {al:List Opd} {lone:Bool} :
  WS E fl t H (.call f al lone) (fun v H'=>WRP E fl bef pairs Z R j r (put t d v) H' none lg) (fun v=>WRP E fl bef pairs Z R j r t H (some (i,v)) lg2) =
   U0m E fl (if lone then fl else max fl H.size) bef pairs Z R i j f (al.map (ev t)) H d r t lg lg2:=nr rfl
theorem t0c {fl' fl2:Nat} {f:FuncId} {al al':List Value} {t':b0b} (h:al=al') (ht:t=t') (hf:fl' = fl2) :
  U0m E fl fl' bef pairs Z R i j f al H d r t lg lg2=U0m E fl fl2 bef pairs Z R i j f al' H d r t' lg lg2:=by rw [h,ht,hf]
attribute [congr] t0c
def f1g (tbl:List (TypeId × FuncId)):Value→Option (FuncId × Value)
 | .iface ty v=>match tbl.lookup ty with | some f=>some (f,v) | none=>none
 | _=>none
@[simp] theorem X0r {ty:TypeId} {tbl:List (TypeId × FuncId)}:f1g tbl (.iface ty v)=match tbl.lookup ty with | some f=>some (f,v) | none=>none:=nr rfl
@[simp ↓] theorem f1B {tbl:List (TypeId × FuncId)} {al:List Opd} {lone:Bool}:WS E fl t H (.inv x tbl al lone) K R=oo (f1g tbl (ev t x)) fun q=>WS E fl t H (.call q.1 (.const q.2 :: al) lone) K R:=by
 simp only [WS,opA];generalize ev t x=y
 cases y <;> simp only [f1g,t0J]
 rename_i ty v
 cases tbl.lookup ty <;> simp
def b1i (e b:Nat):Blk→Option Value
 | .row false e' _=>if e' = e then some (.pointer (some ⟨b,0,none⟩)) else none
 | _=>none
@[simp] theorem b1j {e e' b:Nat} {cs:List Value}:b1i e b (.row false e' cs)=if e' = e then some (.pointer (some ⟨b,0,none⟩)) else none:=nr rfl
def Z0c (H:a0f) (e:Nat):Value→Option Value
 | .pointer (some p)=>if p.spot.isSome=false∧p.off=0 then b1i e p.block (H.blk p.block) else none
 | _=>none
@[simp] theorem b1k {e b:Nat}:Z0c H e (.pointer (some ⟨b,0,none⟩))=b1i e b (H.blk b):=by simp [Z0c]
@[simp ↓] theorem f1A {e:TypeId}:WS E fl t H (.fa0 e x) K R=oo (Z0c H e (ev t x)) fun v=>K v H:=by
 simp only [WS,opA];generalize ev t x=y
 cases y <;> simp only [Z0c,t0J]
 rename_i p;cases p <;> simp only [Z0c,t0J]
 rename_i q
 cases hb:a0f.blk H q.block <;> simp [b1i]
 rename_i ro e' cs
 cases ro
 ·by_cases h1:q.spot=none <;> by_cases h2:e' = e <;> by_cases h3:q.off=0 <;> simp [h1,h2,h3]
 ·simp
end
attribute [simp ↓] X0S
@[simp] theorem X0t {G:a0f} {a:Addr}:b0x G true 0 (.pointer (some a))=some (.agg #[]):=nr rfl
@[simp] theorem b1g {a:Addr}:d1C (.pointer (some a))=some (.pointer (some a)):=nr rfl
@[simp] theorem W0I {n j:Nat}:n.testBit j=decide (n / 2 ^ j % 2=1):=Nat.testBit_eq_decide_div_mod_eq
theorem y0B {a b:FuncId}:List.lookup a0n [(a0m,a),(a0n,b)]=some b:=by simp [List.lookup];rfl
theorem y0A {a b:FuncId}:List.lookup a0m [(a0m,a),(a0n,b)]=some a:=by simp [List.lookup]
attribute [simp] y0B y0A
def PF (_:a0f) (cs:List Value) (z:Int):Prop:=cs=[.int .i64 z]∧f0x z
theorem Z0s:l0i PF:=fun _ _ _ _ _ h=>h
theorem p0N {a b:Int} {p:Nat} {cs:List Value} (hf:fl≤H.size) (hb:a0f.blk H p=.row false a0d cs) (ha:f0x a) (hbz:f0x b) (hR:R v0x) :
  a0S env fl y0p [.pointer (some ⟨p,0,none⟩),.int .i64 a,.int .i64 b] H (fun r H'=>(r=.int .i64 (a - b)∧f0x (a - b))∧Ext H H') R:=by
 refine a0i e1F hf (h:=?_)
 intro ρ h0
 simp [M0X,H0b,h0]
 refine l0P ?_
 simp [H0c,h0,hb]
 refine (c0W (n:=1) (by omega) (by omega) (by omega)).mono ?_
 rintro _ G ⟨k0,hx⟩
 simp
 have h1:lz 1 < 1073741824:=by rw [g0q];omega
 refine (m0h k0 (by have:=hx.1;omega) h1 (by simp;exact hR)).mono ?_
 rintro _ G2 ⟨⟨rfl,_⟩,hx2⟩
 have hb2:=(hx.trans hx2).blk hb
 have hsz:=(hx.trans hx2).1
 simp [H0d,h0,hb2]
 have f1:f0x 1:=by unfold f0x;omega
 refine (j0q (by omega) ha f1 hbz f1 (by decide) hR).mono ?_
 rintro _ G3 ⟨⟨rfl,h⟩,hx3⟩
 have e1:(a * 1 - b * 1).tdiv 1=a - b:=by simp
 rw [e1] at h ⊢
 simp [h]
theorem p0w {a b:Int} {p:Nat} {cs:List Value} {va vb:Value} (hf:fl≤H.size) (hb:a0f.blk H p=.row false a0c cs) (ha:b0d H va (a0j a)) (hbz:b0d H vb (a0j b)) (la:lz a < 67108864) (lb:lz b < 67108864) :
  a0S env fl y0n [.pointer (some ⟨p,0,none⟩),va,vb] H (fun r H'=>b0d H' r (a0j (a - b))∧Ext H H') R:=by
 refine a0i e1w hf (h:=?_)
 intro ρ h0
 obtain ⟨s0,rfl,k0⟩:=id ha
 obtain ⟨s1,rfl,k1⟩:=id hbz
 simp [M0O,F0W,h0,k0.cells,k0.plain,k1.cells,k1.plain]
 generalize hG:Array.push (Array.push (Array.push H _) _) _=G
 have hx2:Ext H G:=by rw [← hG];exact (Ext.refl H).push.push.push
 have b0:a0f.blk G H.size=.row false a0a [.bool (a0j a).1,s0]:=by rw [← hG];simp
 have b1:a0f.blk G (H.size + 1)=.row false a0a [.bool (a0j b).1,s1]:=by rw [← hG];simp
 have b2:a0f.blk G (H.size + 2)=.row false a0a [.bool false,.slice none 0 0]:=by rw [← hG];simp
 have b3:=hb
 have hx:=Ext.refl H
 clear hG
 replace b3:=hx2.blk b3;replace hx:=hx.trans hx2;replace k0:=k0.mono hx2;replace k1:=k1.mono hx2
 refine a0B ?_
 simp [F0X,h0,b3]
 refine (c0W (n:=1) (by have:=hx.1;omega) (by omega) (by omega)).mono ?_
 rintro _ G2 ⟨k2,hx2⟩
 replace b0:=hx2.blk b0;replace b1:=hx2.blk b1;replace b2:=hx2.blk b2;replace b3:=hx2.blk b3;replace hx:=hx.trans hx2;replace k0:=k0.mono hx2;replace k1:=k1.mono hx2
 simp
 refine (i0K k2 (by have:=hx.1;omega)).mono ?_
 rintro _ G3 ⟨⟨s2,rfl,k3⟩,hx2⟩
 replace b0:=hx2.blk b0;replace b1:=hx2.blk b1;replace b2:=hx2.blk b2;replace b3:=hx2.blk b3;replace hx:=hx.trans hx2;replace k0:=k0.mono hx2;replace k1:=k1.mono hx2
 have hsz:=hx.1
 simp [k3.cells,k3.plain,hsz]
 generalize hN:Array.setIfInBounds (Array.push _ _) _ _=G4
 obtain ⟨hx2,b4⟩:=new1 hN
 clear hN
 replace b0:=hx2.blk b0;replace b1:=hx2.blk b1;replace b2:=hx2.blk b2;replace b3:=hx2.blk b3;replace hx:=hx.trans hx2;replace k0:=k0.mono hx2;replace k1:=k1.mono hx2;replace k3:=k3.mono hx2
 refine a0B ?_
 simp [F0Y,h0,b0,b1,b3,b4]
 have l1:lz 1=1:=g0q
 refine (j0j (a:=a) (b:=1) (c:=b) (d:=1) (e:=1) ⟨s0,rfl,k0⟩ ⟨s2,rfl,k3⟩ ⟨s1,rfl,k1⟩ ⟨s2,rfl,k3⟩ ⟨s2,rfl,k3⟩ (by have:=hx.1;omega) la (by omega) lb (by omega) (by omega) (by decide)).mono ?_
 rintro _ G5 ⟨⟨s5,rfl,k5⟩,hx2⟩
 replace b2:=hx2.blk b2;replace hx:=hx.trans hx2
 have e1:(a * 1 - b * 1).tdiv 1=a - b:=by simp
 rw [e1] at k5 ⊢
 have hz:=a0l b2
 simp [b2,k5.cells,k5.plain]
 generalize hS:Array.setIfInBounds _ _ _=G6
 have hl:Lx G5 G6:=b0m hS b2 (by decide)
 have b8:=a0s hS b2
 simp [b8]
 exact fun _=>⟨s5,rfl,k5.lx hl⟩
end
section
open Go
set_option maxHeartbeats 4000000
variable {fl:Nat} {H G:a0f} {R:a0G} {v w u:Value}
theorem n0R {x D:Int} {p:Nat} {c0 c1 c2 c3:Value} {cs:List Value} (hf:fl≤H.size) (hb:a0f.blk H p=.row false a0d (c0 :: c1 :: c2 :: c3 :: .int .i64 D :: cs)) (hx0:f0x x) (hD:f0x D) (hD0:D ≠ 0) :
  a0S env fl r0K [.pointer (some ⟨p,0,none⟩),.int .i64 x] H (fun r H'=>b0L H' r (a0e (Rat.divInt x D))∧Ext H H') R:=by
 refine a0i e1H hf (h:=?_)
 intro ρ h0
 simp [M0Z,H0l,h0]
 generalize hG:Array.push H _=G
 obtain ⟨hx2,b2⟩:=g0r hG
 have b1:=hb
 have hx:=Ext.refl H
 clear hG
 replace b1:=hx2.blk b1;replace hx:=hx.trans hx2
 have lF:∀ z,f0x z→lz z < 536870912:=fun z hz=>by
  have:lz z≤1:=t0G (by obtain ⟨h1,h2⟩:=hz;omega)
  omega
 refine a0B ?_
 simp [H0m,h0,b1]
 refine (k0U (by have:=hx.1;omega) hx0).mono ?_
 rintro _ G2 ⟨k0,hx2⟩
 replace b1:=hx2.blk b1;replace b2:=hx2.blk b2;replace hx:=hx.trans hx2
 simp [h0,b1]
 refine (k0U (by have:=hx.1;omega) hD).mono ?_
 rintro _ G3 ⟨k1,hx2⟩
 replace b2:=hx2.blk b2;replace hx:=hx.trans hx2;replace k0:=k0.mono hx2
 simp
 refine (d0K k0 k1 (by have:=hx.1;omega) (by rw [a0g];exact lF _ hx0) (by rw [a0g];exact lF _ hD) (by rw [a0h];exact hD0)).mono ?_
 rintro _ G4 ⟨⟨_,rfl,s3,s4,rfl,k5,k6⟩,hx2⟩
 replace b2:=hx2.blk b2;replace hx:=hx.trans hx2
 rw [a0h,a0h] at k5 k6 ⊢
 have hsz:=hx.1
 simp [k5.cells,k5.plain,k6.cells,k6.plain,hsz]
 generalize hN:Array.setIfInBounds (Array.push _ _) _ _=G5
 obtain ⟨hx2,b3⟩:=new1 hN
 clear hN
 replace b2:=hx2.blk b2;replace hx:=hx.trans hx2;replace k5:=k5.mono hx2;replace k6:=k6.mono hx2
 have hz:=a0l b2
 simp [H0n,b3,b2,k5.cells,k5.plain,k6.cells,k6.plain]
 generalize hS:Array.setIfInBounds _ _ _=G6
 have hl:Lx G5 G6:=b0m hS b2 (by decide)
 have b8:=a0s hS b2
 simp [b8]
 exact fun _=>⟨s3,s4,by simp [Rat.divInt],by simpa using k5.lx hl,by simpa using k6.lx hl⟩
theorem n0G {x D:Int} {p:Nat} {c0 c1 c2 c3 vx sD:Value} {cs:List Value} (hf:fl≤H.size) (hb:a0f.blk H p=.row false a0c (c0 :: c1 :: c2 :: c3 :: .bool (a0j D).1 :: sD :: cs)) (kD:Lim H sD (a0j D).2) (kx:b0d H vx (a0j x)) (lx:lz x < 67108864) (lD:lz D < 67108864) (hD0:D ≠ 0) :
  a0S env fl r0J [.pointer (some ⟨p,0,none⟩),vx] H (fun r H'=>b0L H' r (a0e (Rat.divInt x D))∧Ext H H') R:=by
 refine a0i e1z hf (h:=?_)
 intro ρ h0
 obtain ⟨s0,rfl,k2⟩:=id kx
 simp [M0R,G0j,h0,k2.cells,k2.plain]
 generalize hG:Array.push (Array.push H _) _=G
 obtain ⟨hx2,b0,b2⟩:=push2 hG
 have b1:=hb
 have k3:=kD
 have hx:=Ext.refl H
 clear hG
 replace b1:=hx2.blk b1;replace hx:=hx.trans hx2;replace k2:=k2.mono hx2;replace k3:=k3.mono hx2
 refine a0B ?_
 simp [G0k,h0,b1,b0]
 refine (k0P (a:=x) ⟨s0,rfl,k2⟩ (by have:=hx.1;omega)).mono ?_
 rintro _ G2 ⟨k0,hx2⟩
 replace b1:=hx2.blk b1;replace b2:=hx2.blk b2;replace hx:=hx.trans hx2;replace k3:=k3.mono hx2
 simp [h0,b1]
 refine (k0P (a:=D) ⟨sD,rfl,k3⟩ (by have:=hx.1;omega)).mono ?_
 rintro _ G3 ⟨k1,hx2⟩
 replace b2:=hx2.blk b2;replace hx:=hx.trans hx2;replace k0:=k0.mono hx2
 simp
 refine (d0K k0 k1 (by have:=hx.1;omega) (by rw [a0g];omega) (by rw [a0g];omega) (by rw [a0h];exact hD0)).mono ?_
 rintro _ G4 ⟨⟨_,rfl,s3,s4,rfl,k5,k6⟩,hx2⟩
 replace b2:=hx2.blk b2;replace hx:=hx.trans hx2
 rw [a0h,a0h] at k5 k6 ⊢
 have hsz:=hx.1
 simp [k5.cells,k5.plain,k6.cells,k6.plain,hsz]
 generalize hN:Array.setIfInBounds (Array.push _ _) _ _=G5
 obtain ⟨hx2,b3⟩:=new1 hN
 clear hN
 replace b2:=hx2.blk b2;replace hx:=hx.trans hx2;replace k5:=k5.mono hx2;replace k6:=k6.mono hx2
 have hz:=a0l b2
 simp [G0l,b3,b2,k5.cells,k5.plain,k6.cells,k6.plain]
 generalize hS:Array.setIfInBounds _ _ _=G6
 have hl:Lx G5 G6:=b0m hS b2 (by decide)
 have b8:=a0s hS b2
 simp [b8]
 exact fun _=>⟨s3,s4,by simp [Rat.divInt],by simpa using k5.lx hl,by simpa using k6.lx hl⟩
theorem r0c {α:Type} {Q:a0f→List Value→α→Prop} {z:List Value} {x:α} (hz:Q H z x):∀ n:Nat,(f0y z n).length=n * z.length∧∀ k,k < n→Q H (((f0y z n).drop (k * z.length)).take z.length) x
 | 0=>⟨by simp [f0y],fun k hk=>by omega⟩
 | n + 1=>by
  obtain ⟨h1,h2⟩:=r0c hz n
  refine ⟨by rw [f0y,i1l,h1,h1X];omega,fun k hk=>?_⟩
  cases k with
  | zero=>simpa [f0y] using hz
  | succ k =>
   have:=h2 k (by omega)
   rw [f0y,show (k + 1) * z.length=z.length + k * z.length by rw [h1X];omega,← j1J,List.drop_left]
   exact this
theorem n0P {p q6 q7 l:Nat} {c0 c1:Value} {cs:List Value} (hf:fl≤H.size) (h6:a0f.blk H q6=.row false a0M [.pointer (some ⟨p,0,none⟩)])
  (hb:a0f.blk H p=.row false a0d (c0 :: c1 :: .int .i64 (l:Int) :: cs)) (h7:a0f.blk H q7=.row false d0A [.int .i64 0]) (hl:l < 1073741823) :
  a0S env fl n0J [.pointer (some ⟨q6,0,none⟩),.pointer (some ⟨q7,0,none⟩)] H (fun r H'=>b0e PF H.size H' d0A 1 r (List.replicate (l + 1) 0)∧Ext H H') R:=by
 refine a0i e1E hf (h:=?_)
 intro ρ h0
 obtain ⟨n,hn⟩:∃ n,n=l + 1:=⟨_,rfl⟩
 rw [← hn]
 have w1:IntKind.i64.wrap ((l:Int) + 1)=(n:Int):=by rw [a0Y (by omega) (by omega)];omega
 have hmk:=h0d (bytes:=8) (k:=.i64) (k':=.i64) (l:=n) (c:=n) (h1A _) (by omega) (by omega)
 simp [M0W,G0V,G0W,h0,h6,hb,w1,hmk]
 generalize hG:Array.push H _=G
 obtain ⟨hx2,b0⟩:=g0r hG
 have f0:f0x 0:=by unfold f0x;omega
 obtain ⟨hr1,hr2⟩:=r0c (H:=G) (Q:=PF) (z:=[.int .i64 0]) (x:=0) ⟨rfl,f0⟩ n
 have ho:b0e PF H.size G d0A 1 (.slice (some ⟨H.size,0,none⟩) n n) (List.replicate n 0):=by
  refine ⟨_,by simpa using Own.mk (n:=n) (sz:=1) (cap:=n) b0 (by simpa using hr1) (h1A _),fun k hk=>?_⟩
  rw [List.getElem_replicate];exact hr2 k (by simpa using hk)
 clear hG b0
 have hsl:=ho.slen
 rw [List.length_replicate] at hsl
 simp [G0X,hsl]
 refine d0Q (n:=n) (fun _ ρ G=>ρ 1=.pointer (some ⟨q7,0,none⟩)∧Ext H G∧b0e PF H.size G d0A 1 (ρ 3) (List.replicate n 0)) rfl rfl (by decide) (by omega) (by simp) (by simp) ?_ ?_ ?_ ?_
 ·exact ⟨by simp [h0],hx2,by simpa using ho⟩
 ·intro i ρ ρ' G h hI;simpa [h] using hI
 ·clear h0 ρ ho hx2 hr2
  rintro i ρ G hi gi gn ⟨g1,hx,ho⟩
  obtain ⟨so,g3⟩:∃ so,ρ 3=so:=⟨_,rfl⟩
  rw [g3] at ho
  have h7':=hx.blk h7
  have hil:i < (List.replicate n (0:Int)).length:=by simpa using hi
  obtain ⟨G5,hst,ho2,hxb⟩:=b0e.store (j:=i) (x:=(0:Int)) (w:=.int .i64 0) ho hil (by omega) rfl rfl (fun G' _ _=>⟨rfl,f0⟩) (by decide) (fun G' cs y _ _ h=>h)
  simp [G0Y,G0Z,g1,g3,gi,h7',ho.sls.ia hil,hst]
  have hs:(List.replicate n (0:Int)).set i 0=List.replicate n 0:=by simp
  rw [hs] at ho2
  exact Rnd.mk (by simp [gi]) (by simp [gn]) ⟨by simp [g1],⟨h1R hx.1 hxb.1,fun b hb=>(hxb.2 b (h1W hb hx.1) (fun h=>by have:=(ho.ge h).1;omega)).trans (hx.2 b hb)⟩,by simpa [g3] using ho2⟩
 ·rintro ρ G gi gn ⟨g1,hx,ho⟩
  simp [H0a]
  exact fun _=>ho
theorem n0E {p q6 q7 l:Nat} {c0 c1 s7:Value} {cs:List Value} (hf:fl≤H.size) (h6:a0f.blk H q6=.row false a0H [.pointer (some ⟨p,0,none⟩)])
  (hb:a0f.blk H p=.row false a0c (c0 :: c1 :: .int .i64 (l:Int) :: cs)) (h7:a0f.blk H q7=.row false a0a [.bool (a0j 0).1,s7]) (k7:Lim H s7 (a0j 0).2) (hl:l < 1073741823) :
  a0S env fl n0I [.pointer (some ⟨q6,0,none⟩),.pointer (some ⟨q7,0,none⟩)] H (fun r H'=>b0e PI H.size H' a0a 2 r (List.replicate (l + 1) 0)∧Ext H H') R:=by
 refine a0i e1v hf (h:=?_)
 intro ρ h0
 obtain ⟨n,hn⟩:∃ n,n=l + 1:=⟨_,rfl⟩
 rw [← hn]
 have w1:IntKind.i64.wrap ((l:Int) + 1)=(n:Int):=by rw [a0Y (by omega) (by omega)];omega
 have hmk:=h0d (bytes:=32) (k:=.i64) (k':=.i64) (l:=n) (c:=n) (h1A _) (by omega) (by omega)
 simp [M0N,F0Q,F0R,h0,h6,hb,w1,hmk]
 generalize hG:Array.push H _=G
 obtain ⟨hx2,b0⟩:=g0r hG
 have f0:PI G [.bool false,.slice none 0 0] 0:=⟨_,by rw [e0f],by rw [e0f];exact Lim.nil⟩
 obtain ⟨hr1,hr2⟩:=r0c (H:=G) (Q:=PI) (z:=[.bool false,.slice none 0 0]) (x:=0) f0 n
 have ho:b0e PI H.size G a0a 2 (.slice (some ⟨H.size,0,none⟩) n n) (List.replicate n 0):=by
  refine ⟨_,by simpa using Own.mk (n:=n) (sz:=2) (cap:=n) b0 (by simpa using hr1) (h1A _),fun k hk=>?_⟩
  rw [List.getElem_replicate];exact hr2 k (by simpa using hk)
 clear hG b0
 have hsl:=ho.slen
 rw [List.length_replicate] at hsl
 simp [F0S,hsl]
 refine d0Q (n:=n) (fun _ ρ G=>ρ 1=.pointer (some ⟨q7,0,none⟩)∧Ext H G∧b0e PI H.size G a0a 2 (ρ 3) (List.replicate n 0)) rfl rfl (by decide) (by omega) (by simp) (by simp) ?_ ?_ ?_ ?_
 ·exact ⟨by simp [h0],hx2,by simpa using ho⟩
 ·intro i ρ ρ' G h hI;simpa [h] using hI
 ·clear h0 ρ ho hx2 hr2
  rintro i ρ G hi gi gn ⟨g1,hx,ho⟩
  obtain ⟨so,g3⟩:∃ so,ρ 3=so:=⟨_,rfl⟩
  rw [g3] at ho
  have h7':=hx.blk h7
  have k7':=k7.mono hx
  have hil:i < (List.replicate n (0:Int)).length:=by simpa using hi
  obtain ⟨G5,hst,ho2,hxb⟩:=b0e.store (j:=i) (x:=(0:Int)) (w:=.agg #[.bool (a0j 0).1,s7]) ho hil (by omega) rfl (by simp [k7'.plain]) (fun G' _ hl=>⟨s7,rfl,k7'.lx hl⟩) (by decide) (fun G' cs y _ hl h=>b0d.lx h hl)
  simp [F0T,F0U,g1,g3,gi,h7',ho.sls.ia hil,hst]
  have hs:(List.replicate n (0:Int)).set i 0=List.replicate n 0:=by simp
  rw [hs] at ho2
  exact Rnd.mk (by simp [gi]) (by simp [gn]) ⟨by simp [g1],⟨h1R hx.1 hxb.1,fun b hb=>(hxb.2 b (h1W hb hx.1) (fun h=>by have:=(ho.ge h).1;omega)).trans (hx.2 b hb)⟩,by simpa [g3] using ho2⟩
 ·rintro ρ G gi gn ⟨g1,hx,ho⟩
  simp [F0V]
  exact fun _=>ho
def PV (_:a0f) (cs:List Value) (w:Value):Prop:=cs=[w]
theorem w0k:l0i PV:=fun _ _ _ _ _ h=>h
def PK (_:a0f) (cs:List Value) (k:Nat):Prop:=cs=[.int .i64 (k:Int)]
theorem w0j:l0i PK:=fun _ _ _ _ _ h=>h
structure X0G (eN sz:Nat) (P:a0f→List Value→Int→Prop):Prop where
 mono:l0i P
 lx:∀ (G G':a0f) cs x,Lx G G'→P G cs x→P G' cs x
 ne:eN ≠ a0k
 sz:0 < sz
theorem X0x:X0G d0A 1 PF:=⟨Z0s,fun _ _ _ _ _ h=>h,by decide,by decide⟩
theorem X0w:X0G a0a 2 PI:=⟨d0i,fun _ _ _ _ hl h=>b0d.lx h hl,by decide,by decide⟩
structure e0A (eN sz:Nat) (P:a0f→List Value→Int→Prop) (fl:Nat) (H:a0f) (vs:List Value) (L:List (List Int)):Prop where
 len:vs.length=L.length
 own:∀ i (h:i < L.length),b0e P fl H eN sz (vs[i]'(by omega)) L[i]
 apart:∀ i j (h:i < L.length) (h':j < L.length),i ≠ j→slB (vs[i]'(by omega))=none ∨ slB (vs[i]'(by omega)) ≠ slB (vs[j]'(by omega))
theorem e0A.mono {eN sz:Nat} {P:a0f→List Value→Int→Prop} {vs:List Value} {L:List (List Int)} (hP:X0G eN sz P) (h:e0A eN sz P fl H vs L) (hx:Ext H G):e0A eN sz P fl G vs L :=
 ⟨h.len,fun i hi=>(h.own i hi).mono hP.mono hx,h.apart⟩
theorem e0A.store {eN sz i j:Nat} {P:a0f→List Value→Int→Prop} {vs:List Value} {L:List (List Int)} {x:Int} {w:Value} (hP:X0G eN sz P) (h:e0A eN sz P fl H vs L) (hi:i < L.length) (hj:j < L[i].length)
  (hw:(a0U w).length=sz) (hp:(a0U w).all a0F=true) (hx:P H (a0U w) x) :
  ∃ G,e0X fl H sz (adr sz (vs[i]'(by have:=h.len;omega)) j) w=some G∧e0A eN sz P fl G vs (L.set i (L[i].set j x))∧e0p (slB (vs[i]'(by have:=h.len;omega))) H G∧Lx H G:=by
 obtain ⟨G,hst,ho,hxb⟩:=b0e.store (x:=x) (w:=w) (h.own i hi) hj hP.sz hw hp (fun G' _ hl=>hP.lx _ _ _ _ hl hx) hP.ne (fun G' cs y _ hl hy=>hP.lx _ _ _ _ hl hy)
 have hlx:=(h.own i hi).lx hP.ne hxb
 refine ⟨G,hst,⟨by simp [h.len],fun k hk=>?_,fun a b ha hb hab=>h.apart a b (by simpa using ha) (by simpa using hb) hab⟩,hxb,hlx⟩
 have hk':k < L.length:=by simpa using hk
 by_cases hki:k=i
 ·subst hki;simpa using ho
 ·rw [k1l (by omega)]
  exact (h.own k hk').off hxb (h.apart k i hk' hi hki) (fun cs y hy=>hP.lx _ _ _ _ hlx hy)
structure i0x (fl:Nat) (H:a0f) (p n m:Nat) (L:List (List Int)) (D:Int) (bs:List Nat) (k:Nat) (sR sB:Value) (vs:List Value):Prop where
 blk:a0f.blk H p=.row false a0d [.int .i64 (n:Int),.int .i64 (m:Int),.int .i64 ((2 * n + m:Nat):Int),sR,.int .i64 D,sB,.int .i64 (k:Int)]
 low:fl≤p
 d:f0x D
 heads:b0e PV fl H e0K 1 sR vs
 rows:e0A d0A 1 PF fl H vs L
 basis:b0e PK fl H g0x 1 sB bs
theorem i0x.mono {p n m k:Nat} {L:List (List Int)} {D:Int} {bs:List Nat} {sR sB:Value} {vs:List Value} (h:i0x fl H p n m L D bs k sR sB vs) (hx:Ext H G):i0x fl G p n m L D bs k sR sB vs :=
 ⟨hx.blk h.blk,h.low,h.d,h.heads.mono w0k hx,h.rows.mono X0x hx,h.basis.mono w0j hx⟩
theorem i0x.store {p n m k i j:Nat} {L:List (List Int)} {D x:Int} {bs:List Nat} {sR sB:Value} {vs:List Value} (h:i0x fl H p n m L D bs k sR sB vs) (hi:i < L.length) (hj:j < L[i].length) (hx:f0x x) :
  ∃ G,e0X fl H 1 (adr 1 (vs[i]'(by have:=h.rows.len;omega)) j) (.int .i64 x)=some G∧i0x fl G p n m (L.set i (L[i].set j x)) D bs k sR sB vs∧e0p (slB (vs[i]'(by have:=h.rows.len;omega))) H G∧Lx H G:=by
 obtain ⟨G,h1,h2,h3,h4⟩:=h.rows.store X0x hi hj (w:=.int .i64 x) (x:=x) rfl rfl ⟨rfl,hx⟩
 have hr:=h.rows.own i hi
 have hne:=hr.ne h.blk (by decide)
 exact ⟨G,h1,⟨(h3.2 _ (a0l h.blk) hne).trans h.blk,h.low,h.d,h.heads.lxm (hr.lxT (by decide) h3) (fun _ _ h=>h),h2,h.basis.lxm (hr.lxT (by decide) h3) (fun _ _ h=>h)⟩,h3,h4⟩
theorem i0x.head {p n m k i:Nat} {L:List (List Int)} {D:Int} {bs:List Nat} {sR sB:Value} {vs:List Value} (h:i0x fl H p n m L D bs k sR sB vs) (hi:i < L.length) :
  b0x H false 1 (adr 1 sR i)=some (vs[i]'(by have:=h.rows.len;omega)):=by
 have hl:=h.rows.len
 obtain ⟨w,h1,h2⟩:=h.heads.sls.load1 (j:=i) (by omega)
 rw [h1]
 have:[w]=[vs[i]'(by omega)]:=h2
 simpa using this
theorem i0x.num {p n m k i j:Nat} {L:List (List Int)} {D:Int} {bs:List Nat} {sR sB:Value} {vs:List Value} (h:i0x fl H p n m L D bs k sR sB vs) (hi:i < L.length) (hj:j < L[i].length) :
  b0x H false 1 (adr 1 (vs[i]'(by have:=h.rows.len;omega)) j)=some (.int .i64 L[i][j])∧f0x L[i][j]:=by
 obtain ⟨w,h1,h2,h3⟩:=(h.rows.own i hi).sls.load1 (j:=j) hj
 rw [h1]
 exact ⟨by simpa using h2,h3⟩
structure i0v (fl:Nat) (H:a0f) (p n m:Nat) (L:List (List Int)) (D:Int) (bs:List Nat) (k:Nat) (sR sD sB:Value) (vs:List Value):Prop where
 blk:a0f.blk H p=.row false a0c [.int .i64 (n:Int),.int .i64 (m:Int),.int .i64 ((2 * n + m:Nat):Int),sR,.bool (a0j D).1,sD,sB,.int .i64 (k:Int)]
 low:fl≤p
 d:Lim H sD (a0j D).2
 heads:b0e PV fl H b0G 1 sR vs
 rows:e0A a0a 2 PI fl H vs L
 basis:b0e PK fl H g0x 1 sB bs
theorem i0v.mono {p n m k:Nat} {L:List (List Int)} {D:Int} {bs:List Nat} {sR sD sB:Value} {vs:List Value} (h:i0v fl H p n m L D bs k sR sD sB vs) (hx:Ext H G):i0v fl G p n m L D bs k sR sD sB vs :=
 ⟨hx.blk h.blk,h.low,h.d.mono hx,h.heads.mono w0k hx,h.rows.mono X0w hx,h.basis.mono w0j hx⟩
theorem i0v.store {p n m k i j:Nat} {L:List (List Int)} {D x:Int} {bs:List Nat} {sR sD sB:Value} {vs:List Value} (h:i0v fl H p n m L D bs k sR sD sB vs) (hi:i < L.length) (hj:j < L[i].length) {w:Value} (hc:(a0U w).length=2) (hp:(a0U w).all a0F=true) (hx:PI H (a0U w) x) :
  ∃ G,e0X fl H 2 (adr 2 (vs[i]'(by have:=h.rows.len;omega)) j) w=some G∧i0v fl G p n m (L.set i (L[i].set j x)) D bs k sR sD sB vs∧e0p (slB (vs[i]'(by have:=h.rows.len;omega))) H G∧Lx H G:=by
 obtain ⟨G,h1,h2,h3,h4⟩:=h.rows.store X0w hi hj (w:=w) (x:=x) hc hp hx
 have hr:=h.rows.own i hi
 have hne:=hr.ne h.blk (by decide)
 exact ⟨G,h1,⟨(h3.2 _ (a0l h.blk) hne).trans h.blk,h.low,h.d.lx h4,h.heads.lxm (hr.lxT (by decide) h3) (fun _ _ h=>h),h2,h.basis.lxm (hr.lxT (by decide) h3) (fun _ _ h=>h)⟩,h3,h4⟩
theorem i0v.head {p n m k i:Nat} {L:List (List Int)} {D:Int} {bs:List Nat} {sR sD sB:Value} {vs:List Value} (h:i0v fl H p n m L D bs k sR sD sB vs) (hi:i < L.length) :
  b0x H false 1 (adr 1 sR i)=some (vs[i]'(by have:=h.rows.len;omega)):=by
 have hl:=h.rows.len
 obtain ⟨w,h1,h2⟩:=h.heads.sls.load1 (j:=i) (by omega)
 rw [h1]
 have:[w]=[vs[i]'(by omega)]:=h2
 simpa using this
theorem i0v.num {p n m k i j:Nat} {L:List (List Int)} {D:Int} {bs:List Nat} {sR sD sB:Value} {vs:List Value} (h:i0v fl H p n m L D bs k sR sD sB vs) (hi:i < L.length) (hj:j < L[i].length) :
  ∃ w,b0x H true 2 (adr 2 (vs[i]'(by have:=h.rows.len;omega)) j)=some w∧b0d H w (a0j L[i][j]):=by
 obtain ⟨cs,h1,_,h3⟩:=Sls.load (h.rows.own i hi).sls (j:=j) hj (by omega);exact ⟨_,h1,h3⟩
def rV:RK→a0f→Value→Int→Prop
 | .few,_,w,z=>w=.int .i64 z∧f0x z
 | .all,H,w,z=>b0d H w (a0j z)
def q0u:RK→a0G→Prop
 | .few,R=>R v0x
 | .all,_=>True
abbrev RK.P (F:RK):a0f→List Value→Int→Prop:=F.p PF PI
abbrev RK.E (F:RK):Nat:=F.p d0A a0a
abbrev RK.S (F:RK):Nat:=F.p e0K b0G
abbrev RK.T (F:RK):Nat:=F.p a0d a0c
@[simp] theorem RK.p_few {α:Type} {a b:α}:RK.p .few a b=a:=nr rfl
@[simp] theorem RK.p_all {α:Type} {a b:α}:RK.p .all a b=b:=nr rfl
@[simp] theorem RK.p_same {α:Type} {F:RK} {a:α}:F.p a a=a:=nr (by cases F <;> rfl)
@[simp high] theorem b1n {F:RK} {x y:FuncId}:List.lookup (F.p a0n a0m) [(a0m,x),(a0n,y)]=some (F.p y x):=nr (by cases F <;> rfl)
theorem V0C:∀ {F:RK},X0G F.E F.w F.P
 | .few=>X0x
 | .all=>X0w
section
variable {F:RK} {z a b c d e:Int} {wa wb wc wd we:Value}
theorem rV.mono (h:rV F H w z) (hx:Ext H G):rV F G w z:=by cases F;exact h;exact b0d.mono h hx
theorem rV.lx (h:rV F H w z) (hx:Lx H G):rV F G w z:=by cases F;exact h;exact b0d.lx h hx
theorem rV.st (h:rV F H w z):(a0U w).length=F.w∧(a0U w).all a0F=true∧F.P H (a0U w) z:=by
 cases F
 ·obtain ⟨rfl,h⟩:=h;exact ⟨rfl,rfl,rfl,h⟩
 ·obtain ⟨s,rfl,h⟩:=h;exact ⟨rfl,by simp [h.plain],s,rfl,h⟩
def kpV (F:RK) (H:a0f) (x:Value):Option Value:=F.p (some x) (b0x H true 2 x)
@[simp ↓] theorem c1N {E:Env} {d s:Nat} {r:List a0L} {t:b0b} {Z:b0b→a0f→Prop} :
  WR E fl (F.p [⟨some d,none,.mv (.tmp s)⟩] [⟨some d,none,.load true 2 (.tmp s)⟩] ++ r) t H Z R=oo (kpV F H (get t s)) fun v=>WR E fl r (put t (some d) v) H Z R:=by
 cases F
 ·show WR E fl (⟨some d,none,.mv (.tmp s)⟩ :: r) t H Z R=_
  rw [l0M,K0C,show kpV .few H (get t s)=some (get t s) from rfl,q0b];rfl
 ·show WR E fl (⟨some d,none,.load true 2 (.tmp s)⟩ :: r) t H Z R=_
  rw [l0M,t0i];rfl
theorem r0o (h:rV F H w z) (hf:fl≤H.size) (hl:lz z < 67108864):a0S env fl (F.p n0N n0L) [eV,w] H (fun r H'=>r=.int .i64 (c0z z 0)∧Ext H H') R:=by
 cases F
 ·obtain ⟨rfl,_⟩:=h;exact p0Q hf
 ·exact p0x h hf hl
theorem K0u (h:rV F H w z) (hf:fl≤H.size) (hl:lz z < 67108864):a0S env fl (F.p n0M n0K) [eV,w] H (fun r H'=>rV F H' r (-z)∧Ext H H') R:=by
 cases F
 ·obtain ⟨rfl,h⟩:=h;exact (r0N hf h).mono fun r H' ⟨h1,h2⟩=>⟨⟨h1,by unfold f0x at *;omega⟩,h2⟩
 ·exact r0r h hf hl
theorem U0o (ha:rV F H wa a) (hb:rV F H wb b) (hc:rV F H wc c) (hd:rV F H wd d) (hf:fl≤H.size) (la:lz a < 67108864) (lb:lz b < 67108864) (lc:lz c < 67108864) (ld:lz d < 67108864) :
  a0S env fl (F.p y0s y0r) [eV,wa,wb,wc,wd] H (fun r H'=>r=.int .i64 (c0z (a * b) (c * d))∧Ext H H') R:=by
 cases F
 ·obtain ⟨rfl,ha⟩:=ha;obtain ⟨rfl,hb⟩:=hb;obtain ⟨rfl,hc⟩:=hc;obtain ⟨rfl,hd⟩:=hd
  exact n0O hf ha hb hc hd
 ·exact n0D ha hb hc hd hf la lb lc ld
theorem N0E (ha:rV F H wa a) (hb:rV F H wb b) (hc:rV F H wc c) (hd:rV F H wd d) (he:rV F H we e) (hf:fl≤H.size) (la:lz a < 67108864) (lb:lz b < 67108864) (lc:lz c < 67108864) (ld:lz d < 67108864) (le:lz e < 67108864) (he0:e ≠ 0) (hR:q0u F R) :
  a0S env fl (F.p p0L p0K) [eV,wa,wb,wc,wd,we] H (fun r H'=>rV F H' r ((a * b - c * d).tdiv e)∧Ext H H') R:=by
 cases F
 ·obtain ⟨rfl,ha⟩:=ha;obtain ⟨rfl,hb⟩:=hb;obtain ⟨rfl,hc⟩:=hc;obtain ⟨rfl,hd⟩:=hd;obtain ⟨rfl,_⟩:=he
  exact j0q hf ha hb hc hd he0 hR
 ·exact j0j ha hb hc hd he hf la lb lc ld le he0
theorem c1K (h:b0d H v (a0j z)) (hf:fl≤H.size) (hl:lz z < 67108864) (hR:q0u F R):a0S env fl (F.p j0p k0n) [eV,v] H (fun r H'=>rV F H' r z∧Ext H H') R:=by
 cases F
 ·exact m0h h hf (by omega) hR
 ·exact i0K h hf
end
def Frm (tT eN:Nat) (H H':a0f):Prop:=H.size≤H'.size∧∀ e,e ≠ tT→e ≠ eN→e ≠ g0x→LxT e H H'
theorem Frm.refl {tT eN:Nat}:Frm tT eN H H:=⟨h1A _,fun _ _ _ _ _ _ _ h=>h⟩
theorem Frm.trans {tT eN:Nat} {H2:a0f} (h:Frm tT eN H G) (k:Frm tT eN G H2):Frm tT eN H H2:=⟨h1R h.1 k.1,fun e h1 h2 h3 b ro cs hb=>k.2 e h1 h2 h3 b ro cs (h.2 e h1 h2 h3 b ro cs hb)⟩
theorem Ext.frm {tT eN:Nat} (h:Ext H G):Frm tT eN H G:=⟨h.1,fun _ _ _ _ _ _ _ hb=>h.blk hb⟩
theorem p0B {K:Value→a0f→Prop} {f:FuncId} {args:List Value} {sf:v0D} (hc:env.code f=some sf) (hf:fl≤H.size) (hl:args.length=sf.np:=by rfl) (hnt:args.length≤sf.nt:=by exact of_decide_eq_true rfl)
  (h:∀ ρ:Nat→Value,(∀ i,ρ i=args.getD i undef)→W env fl sf.body (T sf.nt ρ) H (Y0z (fun t' H'=>z0g H' t' sf.res fun v=>K v H')) R) :
  a0S env fl f args H (fun v H'=>K v H'∧f0L fl H H') R:=by
 refine (p0C (K:=K) hc hl hnt (fun t h1 h2=>?_)).keep hf
 have h3:=h (get t) h2
 rw [← K0v h1] at h3
 refine h3.mono fun e t' H' hq=>?_
 cases e with
 | exit i=>exact h1Y hq id
 | normal=>exact ⟨trivial,hq⟩
 | ret=>exact ⟨trivial,hq⟩
def Tf (L:List (List Int)) (i c:Nat):Int:=(L.getD i []).getD c 0
def bf (bs:List Nat) (i:Nat):Nat:=bs.getD i 0
theorem K0w {L:List (List Int)} {i c:Nat} (hi:i < L.length) (hc:c < L[i].length):Tf L i c=L[i][c]:=by
 unfold Tf;rw [h1z,h1z,h1E hi,i1k,h1E hc];rfl
theorem d1A {bs:List Nat} {i:Nat} (hi:i < bs.length):bf bs i=bs[i]:=by
 unfold bf;rw [h1z,h1E hi];rfl
structure ShT (n m:Nat) (L:List (List Int)) (bs:List Nat):Prop where
 len:L.length=m + 2
 row:∀ i (h:i < L.length),L[i].length=2 * n + m + 1
 base:bs.length=m
theorem ShT.set {n m i j:Nat} {L:List (List Int)} {bs:List Nat} {x:Int} (h:ShT n m L bs) (hi:i < L.length):ShT n m (L.set i (L[i].set j x)) bs:=by
 refine ⟨by simp [h.len],fun r hr=>?_,h.base⟩
 have hr':r < L.length:=by simpa using hr
 by_cases hri:r=i
 ·subst hri;simp [h.row r hr']
 ·rw [k1l (by omega)];exact h.row r hr'
theorem z0G {n m i j r c:Nat} {L:List (List Int)} {bs:List Nat} {x:Int} (h:ShT n m L bs) (hi:i < L.length) (hj:j < L[i].length):Tf (L.set i (L[i].set j x)) r c=if r=i∧c=j then x else Tf L r c:=by
 unfold Tf
 simp only [h1z,i1m]
 by_cases hri:i=r
 ·subst hri
  simp only [i1s,hi,i1k,i1m,true_and]
  by_cases hcj:j=c
  ·subst hcj;simp [hj]
  ·rw [h1C hcj,h1C (fun h=>hcj h.symm),h1E hi];rfl
 ·rw [h1C hri,h1C (fun h=>hri h.1.symm)]
def p0g (F:RK) (n m:Nat) (sR:Value) (D:Int) (sD sB:Value) (k:Int):List Value :=
 [.int .i64 (n:Int),.int .i64 (m:Int),.int .i64 ((2 * n + m:Nat):Int),sR] ++ F.p [.int .i64 D] [.bool (a0j D).1,sD] ++ [sB,.int .i64 k]
section
variable {F:RK} {n m:Nat} {sR sD sB:Value} {D k:Int}
@[simp high] theorem f1H:(p0g F n m sR D sD sB k)[0]? = some (.int .i64 (n:Int)):=nr rfl
@[simp high] theorem f1I:(p0g F n m sR D sD sB k)[1]? = some (.int .i64 (m:Int)):=nr rfl
@[simp high] theorem f1J:(p0g F n m sR D sD sB k)[2]? = some (.int .i64 (2 * (n:Int) + m)):=nr (by show some (Value.int .i64 ((2 * n + m:Nat):Int))=_;rw [show ((2 * n + m:Nat):Int)=2 * (n:Int) + m by omega])
@[simp high] theorem f1K:(p0g F n m sR D sD sB k)[3]? = some sR:=nr rfl
@[simp high] theorem f1L:(p0g F n m sR D sD sB k)[F.p 5 6]? = some sB:=nr (by cases F <;> rfl)
@[simp high] theorem f1M:(p0g F n m sR D sD sB k)[F.p 6 7]? = some (.int .i64 k):=nr (by cases F <;> rfl)
@[simp] theorem b1r:(p0g F n m sR D sD sB k).length=F.p 7 8:=nr (by cases F <;> rfl)
@[simp] theorem f1t:(4≤F.p 7 8)=True:=nr (by cases F <;> simp)
@[simp] theorem f1u:(F.p 5 6 < F.p 7 8)=True:=nr (by cases F <;> simp)
@[simp] theorem b1q:(F.p 5 6 + 1≤F.p 7 8)=True:=nr (by cases F <;> simp)
@[simp] theorem f1v {x:Value}:(p0g F n m sR D sD sB k).set 3 x=p0g F n m x D sD sB k:=nr (by cases F <;> rfl)
@[simp] theorem f1w {x:Value}:(p0g F n m sR D sD sB k).set (F.p 5 6) x=p0g F n m sR D sD x k:=nr (by cases F <;> rfl)
theorem h0S:p0g .few n m sR D sD sB k=[.int .i64 (n:Int),.int .i64 (m:Int),.int .i64 ((2 * n + m:Nat):Int),sR,.int .i64 D,sB,.int .i64 k]:=rfl
theorem g0n:p0g .all n m sR D sD sB k=[.int .i64 (n:Int),.int .i64 (m:Int),.int .i64 ((2 * n + m:Nat):Int),sR,.bool (a0j D).1,sD,sB,.int .i64 k]:=rfl
end
def dvV (F:RK) (D:Int) (sD:Value):Value:=F.p (.int .i64 D) (.agg #[.bool (a0j D).1,sD])
theorem a1u {F:RK} {n m p e:Nat} {sR sD sB:Value} {D k:Int} {ro:Bool} (h:a0f.blk G p=.row ro e (p0g F n m sR D sD sB k)):b0x G F.b F.w (.pointer (some ⟨p,4,none⟩))=some (dvV F D sD):=by
 cases F
 ·show b0x G false 1 _=_
  rw [r0W,h,a1r];rfl
 ·show b0x G true 2 _=_
  rw [o0o (by decide),h,W0s];rfl
theorem A0N {a:Bool} {n:Nat} {x w:Value} (h:b0x H a n x=some w) (hx:Ext H G):b0x G a n x=some w:=by
 cases x with
 | pointer p =>
  cases p with
  | none=>exact h
  | some p =>
   simp only [b0x] at h ⊢
   split at h
   ·rename_i h1;rw [h1F h1];exact h
   ·rename_i h1
    rw [h1C h1]
    split at h
    ·cases h
    ·rename_i h2
     rw [h1C h2]
     unfold a0f.cells? at h ⊢
     cases hb:H.blk p.block with
     | dead=>rw [hb] at h;simp at h
     | row ro e cs=>rw [hx.blk hb];rw [hb] at h;exact h
 | _=>simp [b0x] at h
theorem kpV.mono {F:RK} {x w:Value} (h:kpV F H x=some w) (hx:Ext H G):kpV F G x=some w:=by
 cases F
 ·exact h
 ·exact A0N h hx
def rD:RK→a0f→Value→Int→Prop
 | .few,_,_,D=>f0x D
 | .all,H,sD,D=>Lim H sD (a0j D).2
theorem rD.mono {F:RK} {D:Int} (h:rD F H v D) (hx:Ext H G):rD F G v D:=by cases F;exact h;exact Lim.mono h hx
theorem rD.lx {F:RK} {D:Int} (h:rD F H v D) (hx:Lx H G):rD F G v D:=by cases F;exact h;exact Lim.lx h hx
structure e0M (F:RK) (fl:Nat) (H:a0f) (p n m:Nat) (L:List (List Int)) (D:Int) (bs:List Nat) (k:Int) (sR sD sB:Value) (vs:List Value):Prop where
 blk:a0f.blk H p=.row false F.T (p0g F n m sR D sD sB k)
 low:fl≤p
 d:rD F H sD D
 heads:b0e PV fl H F.S 1 sR vs
 rows:e0A F.E F.w F.P fl H vs L
 basis:b0e PK fl H g0x 1 sB bs
section
variable {F:RK} {p n m i j:Nat} {L:List (List Int)} {k D x:Int} {bs:List Nat} {sR sD sB:Value} {vs:List Value}
theorem e0M.mono (h:e0M F fl H p n m L D bs k sR sD sB vs) (hx:Ext H G):e0M F fl G p n m L D bs k sR sD sB vs :=
 ⟨hx.blk h.blk,h.low,h.d.mono hx,h.heads.mono w0k hx,h.rows.mono V0C hx,h.basis.mono w0j hx⟩
theorem e0M.store (h:e0M F fl H p n m L D bs k sR sD sB vs) (hi:i < L.length) (hj:j < L[i].length) {w:Value} (hx:rV F H w x) :
  ∃ G,e0X fl H F.w (adr F.w (vs[i]'(by have:=h.rows.len;omega)) j) w=some G∧e0M F fl G p n m (L.set i (L[i].set j x)) D bs k sR sD sB vs∧Frm F.T F.E H G∧e0p (slB (vs[i]'(by have:=h.rows.len;omega))) H G:=by
 obtain ⟨G,h1,h2,h3,h4⟩:=h.rows.store V0C hi hj (w:=w) (x:=x) hx.st.1 hx.st.2.1 hx.st.2.2
 have hr:=h.rows.own i hi
 have hne:=hr.ne h.blk (by cases F <;> decide)
 exact ⟨G,h1,⟨(h3.2 _ (a0l h.blk) hne).trans h.blk,h.low,h.d.lx h4,h.heads.lxm (hr.lxT (by cases F <;> decide) h3) (fun _ _ h=>h),h2,h.basis.lxm (hr.lxT (by cases F <;> decide) h3) (fun _ _ h=>h)⟩,⟨h3.1,fun e _ he _=>hr.lxT he.symm h3⟩,h3⟩
theorem e0M.head (h:e0M F fl H p n m L D bs k sR sD sB vs) (hi:i < L.length) :
  b0x H false 1 (adr 1 sR i)=some (vs[i]'(by have:=h.rows.len;omega)):=by
 have hl:=h.rows.len
 obtain ⟨w,h1,h2⟩:=h.heads.sls.load1 (j:=i) (by omega)
 rw [h1]
 have:[w]=[vs[i]'(by omega)]:=h2
 simpa using this
theorem e0M.hia (h:e0M F fl H p n m L D bs k sR sD sB vs) (hi:i < L.length):iaV 1 sR (.int .i64 i)=some (adr 1 sR i):=h.heads.sls.ia (by have:=h.rows.len;omega)
theorem e0M.ia (h:e0M F fl H p n m L D bs k sR sD sB vs) (hi:i < L.length) (hj:j < L[i].length):iaV F.w (vs[i]'(by have:=h.rows.len;omega)) (.int .i64 j)=some (adr F.w (vs[i]'(by have:=h.rows.len;omega)) j):=(h.rows.own i hi).sls.ia hj
theorem e0M.num (h:e0M F fl H p n m L D bs k sR sD sB vs) (hi:i < L.length) (hj:j < L[i].length) :
  ∃ w,b0x H F.b F.w (adr F.w (vs[i]'(by have:=h.rows.len;omega)) j)=some w∧rV F H w (Tf L i j):=by
 rw [K0w hi hj]
 cases F
 ·obtain ⟨w,h1,h2,h3⟩:=(h.rows.own i hi).sls.load1 (j:=j) hj;exact ⟨w,h1,by simpa using h2,h3⟩
 ·obtain ⟨cs,h1,_,h3⟩:=Sls.load (h.rows.own i hi).sls (j:=j) hj (by decide);exact ⟨_,h1,h3⟩
theorem e0M.base (h:e0M F fl H p n m L D bs k sR sD sB vs) (hi:i < bs.length):b0x H false 1 (adr 1 sB i)=some (.int .i64 (bf bs i:Int))∧iaV 1 sB (.int .i64 i)=some (adr 1 sB i):=by
 obtain ⟨w,h1,h2⟩:=h.basis.sls.load1 (j:=i) hi
 rw [h1,d1A hi]
 have:[w]=[.int .i64 (bs[i]:Int)]:=h2
 exact ⟨by simpa using this,h.basis.sls.ia hi⟩
theorem e0M.cell (h:e0M F fl H p n m L D bs k sR sD sB vs) (hi:i < L.length) (hj:j < L[i].length) :
  ∃ vi w,vi=vs[i]'(by have:=h.rows.len;omega)∧b0x H false 1 (adr 1 sR i)=some vi∧iaV 1 sR (.int .i64 i)=some (adr 1 sR i)∧iaV F.w vi (.int .i64 j)=some (adr F.w vi j)∧b0x H F.b F.w (adr F.w vi j)=some w∧rV F H w (Tf L i j):=by
 obtain ⟨w,h1,h2⟩:=h.num hi hj
 exact ⟨_,w,rfl,h.head hi,h.hia hi,h.ia hi hj,h1,h2⟩
theorem e0M.dv (h:e0M F fl H p n m L D bs k sR sD sB vs):rV F H (dvV F D sD) D:=by
 have:=h.d
 cases F
 ·exact ⟨rfl,this⟩
 ·exact ⟨sD,rfl,this⟩
end
end
end Go.Proofs.YtjlohmnnldbjoaaGreat.AI
namespace Go.Proofs.YtjlohmnnldbjoaaGreat.SX
open AI (h1C h1F h1U h1X h1Z i1F i1r i1s i1z j1g j1i j1q)
def sm (f:Nat→Int):Nat→Int
 | 0=>0
 | n + 1=>sm f n + f n
theorem b0k {f g:Nat→Int}:∀ {n:Nat},(∀ i,i < n→f i=g i)→sm f n=sm g n
 | 0,_=>rfl
 | n + 1,h=>by rw [sm,sm,b0k (fun i hi=>h i (by omega)),h n (by omega)]
theorem s0O {f g:Nat→Int}:∀ {n:Nat},sm (fun i=>f i + g i) n=sm f n + sm g n
 | 0=>rfl
 | n + 1=>by simp only [sm];rw [s0O];omega
theorem e0W {a:Int} {f:Nat→Int}:∀ {n:Nat},sm (fun i=>a * f i) n=a * sm f n
 | 0=>by simp [sm]
 | n + 1=>by simp only [sm];rw [e0W,Int.mul_add]
theorem x0G {a b:Int} {f g:Nat→Int} {n:Nat}:sm (fun i=>a * f i + b * g i) n=a * sm f n + b * sm g n:=by
 rw [s0O,e0W,e0W]
theorem e0o {f:Nat→Int}:∀ {n:Nat},(∀ i,i < n→f i=0)→sm f n=0
 | 0,_=>rfl
 | n + 1,h=>by rw [sm,e0o (fun i hi=>h i (by omega)),h n (by omega)];rfl
theorem g0w {f:Nat→Int} {k:Nat}:∀ {n:Nat},k < n→(∀ i,i < n→i ≠ k→f i=0)→sm f n=f k
 | 0,h,_=>by omega
 | n + 1,h,h0=>by
  rw [sm]
  by_cases hk:k=n
  ·subst hk;rw [e0o (fun i hi=>h0 i (by omega) (by omega))];omega
  ·rw [g0w (by omega) (fun i hi hne=>h0 i (by omega) hne),h0 n (by omega) (by omega)];omega
theorem U0j {f:Nat→Int} {k l:Nat}:∀ {n:Nat},k < l→l < n→(∀ i,i < n→i ≠ k→i ≠ l→f i=0)→sm f n=f k + f l
 | 0,_,h,_=>by omega
 | n + 1,h1,h,h0=>by
  rw [sm]
  by_cases hl:l=n
  ·subst hl;rw [g0w (k:=k) h1 (fun i hi hne=>h0 i (by omega) hne (by omega))]
  ·rw [U0j h1 (by omega) (fun i hi ha hb=>h0 i (by omega) ha hb),h0 n (by omega) (by omega) (by omega)];omega
theorem j0W {f:Nat→Int} {k:Nat}:∀ {n:Nat},k < n→sm f n=f k + sm (fun i=>if i=k then 0 else f i) n
 | 0,h=>by omega
 | n + 1,h=>by
  simp only [sm]
  by_cases hk:k=n
  ·subst hk
   rw [h1F rfl,b0k (f:=fun i=>if i=k then 0 else f i) (g:=f) (fun i hi=>by rw [h1C (by omega)])];omega
  ·rw [j0W (k:=k) (f:=f) (by omega),h1C (by omega)];omega
def skip (k i:Nat):Nat:=if i < k then i else i + 1
def up {α:Type} (v:Nat→α) (k:Nat) (x:α):Nat→α:=fun i=>if i=k then x else v i
theorem b0n {α:Type} {v:Nat→α} {k:Nat} {x:α}:up v k x k=x:=by simp [up]
theorem e0z {α:Type} {v:Nat→α} {k i:Nat} {x:α} (h:i ≠ k):up v k x i=v i:=by simp [up,h]
def sgn (k:Nat):Int:=if k % 2=0 then 1 else -1
theorem N0u (k:Nat):sgn (k + 1) = -sgn k:=by unfold sgn;split <;> split <;> omega
def det:Nat→(Nat→Nat→Int)→Int
 | 0,_=>1
 | m + 1,v=>sm (fun k=>sgn (k + m) * (v k m * det m (fun i=>v (skip k i)))) (m + 1)
theorem j0l:∀ {m:Nat} {v w:Nat→Nat→Int},(∀ i r,i < m→r < m→v i r=w i r)→det m v=det m w
 | 0,_,_,_=>rfl
 | m + 1,v,w,h=>by
  unfold det
  refine b0k fun k hk=>?_
  rw [h k m hk (by omega),j0l (v:=fun i=>v (skip k i)) (w:=fun i=>w (skip k i)) (fun i r hi hr=>h _ r (by unfold skip;split <;> omega) (by omega))]
theorem v0v {v:Nat→Nat→Int} {k i:Nat} {x:Nat→Int} (h:i ≠ k):(fun j=>up v i x (skip k j))=up (fun j=>v (skip k j)) (if i < k then i else i - 1) x:=by
 funext j
 unfold up skip
 by_cases hik:i < k <;> by_cases hjk:j < k <;> simp only [hik,hjk,i1s,i1F]
 ·by_cases e:j + 1=i
  ·omega
  ·rw [h1C e,h1C (by omega)]
 ·by_cases e:j=i
  ·omega
  ·rw [h1C e,h1C (by omega)]
 ·by_cases e:j + 1=i
  ·rw [h1F e,h1F (by omega)]
  ·rw [h1C e,h1C (by omega)]
theorem h0F {v:Nat→Nat→Int} {k:Nat} {x:Nat→Int}:(fun j=>up v k x (skip k j))=fun j=>v (skip k j):=by
 funext j
 unfold up skip
 by_cases hjk:j < k <;> simp only [hjk,i1s,i1F]
 ·rw [h1C (by omega)]
 ·rw [h1C (by omega)]
theorem i0N {a b:Int} {x y:Nat→Int}:∀ {m:Nat} {v:Nat→Nat→Int} {i:Nat},i < m →
  det m (up v i (fun r=>a * x r + b * y r))=a * det m (up v i x) + b * det m (up v i y)
 | 0,_,_,h=>by omega
 | m + 1,v,i,h=>by
  unfold det
  rw [← x0G]
  refine b0k fun k hk=>?_
  by_cases e:i=k
  ·subst e
   rw [h0F,h0F,h0F,b0n,b0n,b0n]
   generalize det m _=D
   grind
  ·rw [v0v e,v0v e,v0v e,e0z (j1q e),e0z (j1q e),e0z (j1q e),i0N (by split <;> omega)]
   generalize det m _=D
   generalize det m _=D2
   grind
theorem j0d {v:Nat→Nat→Int} {i:Nat}:up v i (v i)=v:=by
 funext j;unfold up;split
 ·rename_i h;rw [h]
 ·rfl
theorem p0A:∀ {m:Nat} {v:Nat→Nat→Int} {i:Nat},i + 1 < m→(∀ r,v i r=v (i + 1) r)→det m v=0
 | 0,_,_,h,_=>by omega
 | m + 1,v,i,h,e=>by
  unfold det
  rw [U0j (k:=i) (l:=i + 1) (by omega) h]
  ·have e1:(fun j=>v (skip i j))=fun j=>v (skip (i + 1) j):=by
    funext j r
    unfold skip
    by_cases h1:j < i
    ·rw [h1F h1,h1F (by omega)]
    ·rw [h1C h1]
     by_cases h2:j=i
     ·subst h2;rw [h1F (by omega)];exact (e r).symm
     ·rw [h1C (by omega)]
   rw [e1,e m,show i + 1 + m=(i + m) + 1 by omega,N0u,Int.neg_mul];omega
  ·intro k hk h1 h2
   have:det m (fun j=>v (skip k j))=0:=by
    by_cases hki:k < i
    ·refine p0A (i:=i - 1) (by omega) fun r=>?_
     unfold skip
     rw [h1C (by omega),h1C (by omega),show i - 1 + 1=i by omega];exact e r
    ·refine p0A (i:=i) (by omega) fun r=>?_
     unfold skip
     rw [h1F (by omega),h1F (by omega)];exact e r
   rw [this];simp
theorem n0w {v:Nat→Nat→Int} {i j:Nat} {x y:Nat→Int} (h:i ≠ j):up (up v i x) j y=up (up v j y) i x:=by
 funext k;unfold up;by_cases e1:k=i <;> by_cases e2:k=j <;> simp [e1,e2]
 ·omega
 ·intro h3;omega
 ·intro h3;omega
theorem t0q {m:Nat} {v:Nat→Nat→Int} {i:Nat} {x y:Nat→Int} (h:i < m):det m (up v i (fun r=>x r + y r))=det m (up v i x) + det m (up v i y):=by
 have:=i0N (a:=1) (b:=1) (x:=x) (y:=y) (v:=v) h
 simpa using this
theorem K0U {m:Nat} {v:Nat→Nat→Int} {i:Nat} (h:i + 1 < m):det m (up (up v i (v (i + 1))) (i + 1) (v i)) = - det m v:=by
 have h0:∀ x,det m (up (up v i x) (i + 1) x)=0:=fun x=>p0A h (fun r=>by rw [b0n,e0z (by omega),b0n])
 have h1:=h0 (fun r=>v i r + v (i + 1) r)
 rw [t0q h,n0w (by omega),t0q (by omega),n0w (i:=i) (j:=i + 1) (x:=fun r=>v i r + v (i + 1) r) (by omega),t0q (by omega)] at h1
 have e1:det m (up (up v (i + 1) (v i)) i (v i))=0:=by rw [← n0w (by omega)];exact h0 _
 have e2:det m (up (up v i (v (i + 1))) (i + 1) (v (i + 1)))=0:=h0 _
 have e2':det m (up (up v (i + 1) (v (i + 1))) i (v (i + 1)))=0:=by rw [← n0w (by omega)];exact h0 _
 have e3:up (up v i (v i)) (i + 1) (v (i + 1))=v:=by rw [j0d,j0d]
 have e4:up (up v (i + 1) (v i)) i (v (i + 1))=up (up v i (v (i + 1))) (i + 1) (v i):=(n0w (by omega)).symm
 have e5:up (up v (i + 1) (v (i + 1))) i (v i)=v:=by rw [j0d,j0d]
 grind
theorem t0r {m:Nat}:∀ (n:Nat) {v:Nat→Nat→Int} {i:Nat},i + n + 1 < m→(∀ r,v i r=v (i + n + 1) r)→det m v=0
 | 0,v,i,h,e=>p0A h e
 | n + 1,v,i,h,e=>by
  have h1:=K0U (m:=m) (v:=v) (i:=i + n + 1) (by omega)
  rw [t0r n (v:=up (up v (i + n + 1) (v (i + n + 1 + 1))) (i + n + 1 + 1) (v (i + n + 1))) (i:=i) (by omega) (fun r=>?_)] at h1
  ·omega
  ·rw [e0z (by omega),e0z (by omega),e0z (by omega),b0n];exact e r
theorem v0T {m:Nat} {v:Nat→Nat→Int} {i j:Nat} (hi:i < m) (hj:j < m) (hne:i ≠ j) (e:∀ r,v i r=v j r):det m v=0:=by
 by_cases h:i < j
 ·exact t0r (j - i - 1) (i:=i) (by omega) (fun r=>by rw [show i + (j - i - 1) + 1=j by omega];exact e r)
 ·exact t0r (i - j - 1) (i:=j) (by omega) (fun r=>by rw [show j + (i - j - 1) + 1=i by omega];exact (e r).symm)
theorem t0s {m:Nat} {v:Nat→Nat→Int} {k:Nat} {t:Nat→Int} {x:Nat→Nat→Int} (h:k < m):∀ n:Nat,
  det m (up v k (fun r=>sm (fun i=>t i * x i r) n))=sm (fun i=>t i * det m (up v k (x i))) n
 | 0=>by
  have:=i0N (a:=0) (b:=0) (x:=fun _=>0) (y:=fun _=>0) (v:=v) h
  simp [sm] at this ⊢;exact this
 | n + 1=>by
  have:=i0N (a:=1) (b:=t n) (x:=fun r=>sm (fun i=>t i * x i r) n) (y:=x n) (v:=v) h
  simp only [sm,Int.one_mul] at this ⊢
  rw [this,t0s h n]
theorem N0I {m:Nat} {v:Nat→Nat→Int} {a t:Nat→Int} {d:Int} {k:Nat} (hk:k < m) (h:∀ r,r < m→d * a r=sm (fun i=>t i * v i r) m):d * det m (up v k a)=t k * det m v:=by
 have h1:=i0N (a:=d) (b:=0) (x:=a) (y:=a) (v:=v) hk
 rw [Int.zero_mul,j1g] at h1
 rw [← h1]
 have h2:det m (up v k (fun r=>d * a r + 0 * a r))=det m (up v k (fun r=>sm (fun i=>t i * v i r) m)):=by
  refine j0l fun i r hi hr=>?_
  unfold up;split
  ·show d * a r + 0 * a r=sm (fun i=>t i * v i r) m;rw [← h r hr];omega
  ·rfl
 rw [h2,t0s hk,g0w hk]
 ·rw [j0d]
 ·intro i hi hne
  rw [v0T hk hi (j1q hne) (fun r=>by rw [b0n,e0z hne])];simp
def j0Y (i:Nat):Nat→Int:=fun r=>if r=i then 1 else 0
theorem v0U:∀ m:Nat,det m j0Y=1
 | 0=>rfl
 | m + 1=>by
  unfold det
  rw [g0w (k:=m) (by omega)]
  ·have:det m (fun i=>j0Y (skip m i))=det m j0Y:=j0l (fun i r hi hr=>by unfold skip;rw [h1F hi])
   rw [this,v0U m]
   unfold j0Y sgn
   rw [h1F (by omega),h1F rfl];rfl
  ·intro i hi hne
   unfold j0Y;rw [h1C (by omega)];simp
def fac:Nat→Nat
 | 0=>1
 | n + 1=>(n + 1) * fac n
theorem x0F {f:Nat→Int} {b:Nat}:∀ {n:Nat},(∀ i,i < n→(f i).natAbs≤b)→(sm f n).natAbs≤n * b
 | 0,_=>by simp [sm]
 | n + 1,h=>by
  have h1:=x0F (fun i hi=>h i (by omega)) (n:=n)
  have h2:=h n (by omega)
  rw [sm,h1X,i1r]
  have:=Int.natAbs_add_le (sm f n) (f n)
  omega
theorem l0W {b:Nat}:∀ {m:Nat} {v:Nat→Nat→Int},(∀ i r,i < m→r < m→(v i r).natAbs≤b)→(det m v).natAbs≤fac m * b ^ m
 | 0,_,_=>by simp [det,fac]
 | m + 1,v,h=>by
  unfold det
  have h1:∀ k,k < m + 1→(sgn (k + m) * (v k m * det m (fun i=>v (skip k i)))).natAbs≤fac m * b ^ (m + 1):=by
   intro k hk
   have h2:=l0W (v:=fun i=>v (skip k i)) (m:=m) (b:=b) (fun i r hi hr=>h _ r (by unfold skip;split <;> omega) (by omega))
   have h3:=h k m hk (by omega)
   have h4:(sgn (k + m)).natAbs=1:=by unfold sgn;split <;> rfl
   rw [j1i,j1i,h4,i1r]
   calc _≤b * (fac m * b ^ m):=i1z h3 h2
    _=fac m * b ^ (m + 1):=by rw [h1Z];grind
  have:=x0F h1
  unfold fac
  rw [h1U];exact this
end Go.Proofs.YtjlohmnnldbjoaaGreat.SX
namespace Go.Proofs.YtjlohmnnldbjoaaGreat.SX
open AI (h1C h1F i1r i1s j1Q j1g j1i j1n j1q)
structure Inv (M C:Nat) (A T b:Nat→Nat→Int) (d e:Int):Prop where
 pos:0 < d
 eps:e * e=1
 dt:d=e * det M b
 col:∀ c,c≤C→∀ r,r < M→d * A c r=sm (fun i=>T i c * b i r) M
variable {M C:Nat} {A T b:Nat→Nat→Int} {d e:Int}
def co (M:Nat) (b:Nat→Nat→Int) (e:Int) (k:Nat) (v:Nat→Int):Int:=e * det M (up b k v)
theorem f0b {k:Nat} {v w:Nat→Int} (h:∀ r,r < M→v r=w r):co M b e k v=co M b e k w:=by
 unfold co;congr 1
 exact j0l fun i r _ hr=>by unfold up;split;exact h r hr;rfl
theorem Inv.entry (h:Inv M C A T b d e) {k c:Nat} (hk:k < M) (hc:c≤C):co M b e k (A c)=T k c:=by
 have h1:=N0I hk (h.col c hc)
 have h2:=h.dt
 have h3:=h.pos
 have h4:=h.eps
 unfold co
 have hne:det M b ≠ 0:=by intro h0;rw [h0] at h2;omega
 have:det M b * (e * det M (up b k (A c)))=det M b * T k c:=by
  have:e * d * det M (up b k (A c))=e * (T k c * det M b):=by rw [j1Q,h1]
  rw [h2] at this
  have e2:e * (e * det M b)=det M b:=by rw [← j1Q,h4,Int.one_mul]
  rw [e2] at this
  rw [← j1Q,Int.mul_comm (det M b) e]
  have h5:e * (det M b * det M (up b k (A c)))=e * (e * (T k c * det M b)):=by rw [this]
  rw [← j1Q e e,h4,Int.one_mul] at h5
  rw [j1Q,h5];grind
 exact j1n hne this
theorem Inv.basis (h:Inv M C A T b d e) {k i:Nat} (hk:k < M) (hi:i < M):co M b e k (b i)=if k=i then d else 0:=by
 unfold co
 by_cases hki:k=i
 ·subst hki;rw [h1F rfl,j0d];exact h.dt.symm
 ·rw [h1C hki,v0T hk hi hki (fun r=>by rw [b0n,e0z (j1q hki)])];simp
theorem N0H {k:Nat} (hk:k < M) {t:Nat→Int} {x:Nat→Nat→Int} {n:Nat}:co M b e k (fun r=>sm (fun i=>t i * x i r) n)=sm (fun i=>t i * co M b e k (x i)) n:=by
 unfold co
 rw [t0s hk,← e0W]
 exact b0k fun i _=>by grind
theorem N0G {k:Nat} (hk:k < M) {a c:Int} {x y:Nat→Int}:co M b e k (fun r=>a * x r + c * y r)=a * co M b e k x + c * co M b e k y:=by
 unfold co;rw [i0N hk];grind
theorem Y0s {k:Nat} (hk:k < M) {a:Int} {x:Nat→Int}:co M b e k (fun r=>a * x r)=a * co M b e k x:=by
 have:=N0G (M:=M) (b:=b) (e:=e) hk (a:=a) (c:=0) (x:=x) (y:=x)
 rw [Int.zero_mul,j1g] at this
 rw [← this];exact f0b fun r _=>by omega
theorem Inv.col1 (h:Inv M C A T b d e) {k i c:Nat} (hk:k < M) (hi:i < M) (hc:c≤C) (hb:∀ r,r < M→b i r=A c r):T k c=if k=i then d else 0:=by
 rw [← h.entry hk hc,← h.basis hk hi]
 exact f0b fun r hr=>(hb r hr).symm
def pv (T:Nat→Nat→Int) (i j:Nat) (d:Int):Nat→Nat→Int:=fun k c=>if k=i then T i c else (T k c * T i j - T k j * T i c) / d
theorem Inv.pivot_key (h:Inv M C A T b d e) {i j:Nat} (hi:i < M) (hj:j≤C) (hp:T i j ≠ 0) {k c:Nat} (hk:k < M) (hc:c≤C) :
  T i j=e * det M (up b i (A j))∧d * co M (up b i (A j)) e k (A c)=if k=i then d * T i c else T k c * T i j - T k j * T i c:=by
 have h1:T i j=e * det M (up b i (A j)):=(h.entry hi hj).symm
 refine ⟨h1,?_⟩
 have h3:=h.pos
 have h4:=h.eps
 let U:Nat→Int:=fun k=>if k=i then d * T i c else T k c * T i j - T k j * T i c
 have hU:∀ r,r < M→(T i j * d) * A c r=sm (fun k=>U k * up b i (A j) k r) M:=by
  intro r hr
  have hcc:=h.col c hc r hr
  have hcj:=h.col j hj r hr
  rw [j0W hi] at hcc hcj
  rw [j0W hi]
  have e1:U i * up b i (A j) i r=T i c * (d * A j r):=by simp only [U,i1s,b0n];grind
  have e2:sm (fun k=>if k=i then 0 else U k * up b i (A j) k r) M=T i j * sm (fun k=>if k=i then 0 else T k c * b k r) M + -(T i c) * sm (fun k=>if k=i then 0 else T k j * b k r) M:=by
   rw [← x0G]
   refine b0k fun k _=>?_
   by_cases hki:k=i
   ·simp [hki]
   ·simp only [h1C hki,U,e0z hki];grind
  rw [e1,e2,hcj,j1Q,hcc]
  grind
 have h5:=N0I hk hU
 rw [j1Q] at h5
 have h6:T i j * (d * co M (up b i (A j)) e k (A c))=T i j * U k:=by
  unfold co
  have:e * (T i j * (d * det M (up (up b i (A j)) k (A c))))=e * (U k * det M (up b i (A j))):=by rw [h5]
  have h7:e * (U k * det M (up b i (A j)))=U k * T i j:=by rw [h1];grind
  rw [h7] at this
  grind
 exact j1n hp h6
theorem Inv.pv_eq (h:Inv M C A T b d e) {i j:Nat} (hi:i < M) (hj:j≤C) (hp:T i j ≠ 0) {k c:Nat} (hk:k < M) (hc:c≤C):co M (up b i (A j)) e k (A c)=pv T i j d k c:=by
 have h1:=(h.pivot_key hi hj hp hk hc).2
 have h3:=h.pos
 unfold pv
 by_cases hki:k=i
 ·rw [h1F hki] at h1 ⊢;exact j1n (by omega) h1
 ·rw [h1C hki] at h1 ⊢;rw [← h1,Int.mul_ediv_cancel_left _ (by omega)]
theorem Inv.exact (h:Inv M C A T b d e) {i j:Nat} (hi:i < M) (hj:j≤C) (hp:T i j ≠ 0) {k c:Nat} (hk:k < M) (hc:c≤C) (hki:k ≠ i):T k c * T i j - T k j * T i c=d * pv T i j d k c:=by
 rw [← h.pv_eq hi hj hp hk hc,(h.pivot_key hi hj hp hk hc).2,h1C hki]
theorem Inv.pivot (h:Inv M C A T b d e) {i j:Nat} (hi:i < M) (hj:j≤C) (hp:0 < T i j):Inv M C A (pv T i j d) (up b i (A j)) (T i j) e where
 pos:=hp
 eps:=h.eps
 dt:=(h.pivot_key hi hj (by omega) hi hj).1
 col:=fun c hc r hr=>by
  have h3:=h.pos
  have hcc:=h.col c hc r hr
  have hcj:=h.col j hj r hr
  rw [j0W hi] at hcc hcj
  refine j1n (a:=d) (by omega) ?_
  rw [← e0W,j0W hi]
  have e1:d * (pv T i j d i c * up b i (A j) i r)=T i c * (d * A j r):=by simp only [pv,i1s,b0n];grind
  have e2:sm (fun k=>if k=i then 0 else d * (pv T i j d k c * up b i (A j) k r)) M=T i j * sm (fun k=>if k=i then 0 else T k c * b k r) M + -(T i c) * sm (fun k=>if k=i then 0 else T k j * b k r) M:=by
   rw [← x0G]
   refine b0k fun k hk=>?_
   by_cases hki:k=i
   ·simp [hki]
   ·simp only [h1C hki,e0z hki]
    have:=h.exact hi hj (by omega) hk hc hki
    rw [← j1Q,← this];grind
  rw [e1,e2,hcj]
  have:d * (T i j * A c r)=T i j * (d * A c r):=by grind
  rw [this,hcc]
  grind
def ng (T:Nat→Nat→Int) (i:Nat):Nat→Nat→Int:=fun k c=>if k=i then -T i c else T k c
theorem Inv.turn (h:Inv M C A T b d e) {i:Nat} (hi:i < M):Inv M C A (ng T i) (up b i (fun r=>-b i r)) d (-e) where
 pos:=h.pos
 eps:=by have:=h.eps;grind
 dt:=by
  have h1:=i0N (m:=M) (v:=b) (i:=i) hi (a:=-1) (b:=0) (x:=b i) (y:=b i)
  rw [j0d] at h1
  have:(fun r=>(-1:Int) * b i r + 0 * b i r)=fun r=>-b i r:=by funext r;omega
  rw [this] at h1
  rw [h1];have:=h.dt;grind
 col:=fun c hc r hr=>by
  rw [h.col c hc r hr]
  refine b0k fun k hk=>?_
  by_cases hki:k=i
  ·subst hki;simp only [ng,i1s,b0n];grind
  ·simp only [ng,h1C hki,e0z hki]
theorem Inv.bound (h:Inv M C A T b d e) {B:Nat} (hb:∀ i r,i < M→r < M→(b i r).natAbs≤B) (hA:∀ c r,c≤C→r < M→(A c r).natAbs≤B) {k c:Nat} (hk:k < M) (hc:c≤C):(T k c).natAbs≤fac M * B ^ M:=by
 have h1:e.natAbs=1:=by
  have:=h.eps
  have h2:(e * e).natAbs=1:=by rw [this];rfl
  rw [j1i] at h2
  exact Nat.eq_one_of_mul_eq_one_left h2
 rw [← h.entry hk hc]
 unfold co
 rw [j1i,h1,i1r]
 refine l0W fun i r hi hr=>?_
 unfold up;split
 ·exact hA c r hc hr
 ·exact hb i r hi hr
theorem Inv.bound_d (h:Inv M C A T b d e) {B:Nat} (hb:∀ i r,i < M→r < M→(b i r).natAbs≤B):d.natAbs≤fac M * B ^ M:=by
 have h1:e.natAbs=1:=by
  have:=h.eps
  have h2:(e * e).natAbs=1:=by rw [this];rfl
  rw [j1i] at h2
  exact Nat.eq_one_of_mul_eq_one_left h2
 rw [h.dt,j1i,h1,i1r]
 exact l0W hb
theorem Inv.first:Inv M C A (fun i c=>A c i) j0Y 1 1 where
 pos:=by omega
 eps:=rfl
 dt:=by rw [v0U];rfl
 col:=fun c hc r hr=>by
  rw [g0w hr]
  ·simp [j0Y]
  ·intro i hi hne;unfold j0Y;rw [h1C (j1q hne)];omega
end Go.Proofs.YtjlohmnnldbjoaaGreat.SX
namespace Go.Proofs.YtjlohmnnldbjoaaGreat.SX
open AI (h1A h1C h1F h1P h1Y h1Z i1A i1b i1d i1e i1y j1I j1N j1T j1g)
structure Tab (m C:Nat) (A:Nat→Nat→Int) (neg:Nat→Prop) (T:Nat→Nat→Int) (base:Nat→Nat) (d:Int):Prop where
 inv:∃ b e,Inv (m + 2) C A T b d e∧(∀ i,i < m→(base i < C∧∀ r,r < m + 2→b i r=A (base i) r) ∨ (base i=C + i∧neg i∧∀ r,b i r=j0Y i r))∧(∀ r,b m r=j0Y m r)∧(∀ r,b (m + 1) r=j0Y (m + 1) r)
 rhs:∀ i,i < m→0≤T i C
variable {m C:Nat} {A:Nat→Nat→Int} {neg:Nat→Prop} {T T':Nat→Nat→Int} {base base':Nat→Nat} {d d':Int}
theorem Tab.pos (h:Tab m C A neg T base d):0 < d:=by obtain ⟨b,e,hi,_⟩:=h.inv;exact hi.pos
theorem Tab.base_lt (h:Tab m C A neg T base d) {i:Nat} (hi:i < m):base i < C + m:=by
 obtain ⟨b,e,_,h1,_⟩:=h.inv
 rcases h1 i hi with ⟨h2,_⟩ | ⟨h2,_⟩ <;> omega
theorem Tab.col (h:Tab m C A neg T base d) {k i:Nat} (hk:k < m + 2) (hi:i < m) (hb:base i < C):T k (base i)=if k=i then d else 0:=by
 obtain ⟨b,e,hI,h1,_⟩:=h.inv
 rcases h1 i hi with ⟨_,h2⟩ | ⟨h2,_⟩
 ·exact hI.col1 hk (by omega) (by omega) h2
 ·omega
theorem Tab.inj (h:Tab m C A neg T base d) {i k:Nat} (hi:i < m) (hk:k < m) (hb:base i < C) (he:base i=base k):i=k:=by
 have h1:=h.col (k:=i) (by omega) hi hb
 have h2:=h.col (k:=i) (by omega) hk (by omega)
 have:=h.pos
 rw [he,h2,h1F rfl] at h1
 by_cases h3:i=k
 ·exact h3
 ·rw [h1C h3] at h1;omega
theorem Y0u (h:Tab m C A neg T base d) (h':Tab m C A neg T' base' d') {g:Nat} (hg:g=m ∨ g=m + 1) (ha:∀ i,i < m→¬ base i < C→¬ base' i < C) {c:Nat} (hc:c≤C) :
  d * T' g c=d' * T g c + sm (fun i=>if base i < C then T i c * T' g (base i) else 0) m:=by
 obtain ⟨b,e,hI,h1,h2,h3⟩:=h.inv
 obtain ⟨b',e',hI',h1',h2',h3'⟩:=h'.inv
 have hgM:g < m + 2:=by omega
 have k1:co (m + 2) b' e' g (fun r=>d * A c r)=co (m + 2) b' e' g (fun r=>sm (fun i=>T i c * b i r) (m + 2)):=f0b fun r hr=>hI.col c hc r hr
 rw [Y0s hgM,N0H hgM,hI'.entry hgM hc] at k1
 rw [k1]
 show sm _ m + T m c * co (m + 2) b' e' g (b m) + T (m + 1) c * co (m + 2) b' e' g (b (m + 1))=_
 have e1:co (m + 2) b' e' g (b m)=if g=m then d' else 0:=by
  rw [← hI'.basis hgM (i:=m) (by omega)];exact f0b fun r _=>by rw [h2,h2']
 have e2:co (m + 2) b' e' g (b (m + 1))=if g=m + 1 then d' else 0:=by
  rw [← hI'.basis hgM (i:=m + 1) (by omega)];exact f0b fun r _=>by rw [h3,h3']
 have e3:sm (fun i=>T i c * co (m + 2) b' e' g (b i)) m=sm (fun i=>if base i < C then T i c * T' g (base i) else 0) m:=by
  refine b0k fun i hi=>?_
  rcases h1 i hi with ⟨k2,k3⟩ | ⟨k2,_,k3⟩
  ·rw [h1F k2,f0b (w:=A (base i)) k3,hI'.entry hgM (by omega)]
  ·rw [h1C (by omega)]
   rcases h1' i hi with ⟨k4,_⟩ | ⟨_,_,k5⟩
   ·exact h1Y k4 (ha i hi (by omega))
   ·rw [f0b (w:=b' i) (fun r _=>by rw [k3,k5]),hI'.basis hgM (by omega),h1C (by omega)];simp
 rw [e1,e2,e3]
 rcases hg with rfl | rfl
 ·simp;grind
 ·simp;grind
theorem U0h {f:Nat→Int}:∀ {n:Nat},0 < sm f n→∃ i,i < n∧0 < f i
 | 0,h=>by simp [sm] at h
 | n + 1,h=>by
  rw [sm] at h
  by_cases h1:0 < sm f n
  ·obtain ⟨i,hi,h2⟩:=U0h h1;exact ⟨i,by omega,h2⟩
  ·exact ⟨n,by omega,by omega⟩
structure Run (m C g:Nat) (A:Nat→Nat→Int) (neg:Nat→Prop) (N:Nat) (T:Nat→Nat→Nat→Int) (base:Nat→Nat→Nat) (d:Nat→Int) (s r:Nat→Nat):Prop where
 tab:∀ k,k≤N→Tab m C A neg (T k) (base k) (d k)
 sC:∀ k,k < N→s k < C
 rm:∀ k,k < N→r k < m
 ent:∀ k,k < N→T k g (s k) < 0
 low:∀ k,k < N→∀ c,c < s k→0≤T k g c
 piv:∀ k,k < N→0 < T k (r k) (s k)
 min:∀ k,k < N→∀ i,i < m→0 < T k i (s k)→T k (r k) C * T k i (s k) < T k i C * T k (r k) (s k) ∨ (T k (r k) C * T k i (s k)=T k i C * T k (r k) (s k)∧base k (r k)≤base k i)
 nxt:∀ k,k < N→∀ i c,i < m + 2→c≤C→T (k + 1) i c=pv (T k) (r k) (s k) (d k) i c
 nb:∀ k,k < N→∀ i,i < m→base (k + 1) i=if i=r k then s k else base k i
 nd:∀ k,k < N→d (k + 1)=T k (r k) (s k)
section
variable {g N:Nat} {T:Nat→Nat→Nat→Int} {base:Nat→Nat→Nat} {d:Nat→Int} {s r:Nat→Nat}
theorem Run.change (h:Run m C g A neg N T base d s r) {i:Nat} (hi:i < m):∀ (n p:Nat),p + n≤N→base (p + n) i ≠ base p i→∃ k,p≤k∧k < p + n∧r k=i∧base k i=base p i∧base (k + 1) i ≠ base p i
 | 0,p,_,hne=>h1Y rfl hne
 | n + 1,p,hN,hne=>by
  by_cases h1:base (p + n) i=base p i
  ·refine ⟨p + n,by omega,by omega,?_,h1,hne⟩
   by_cases h2:i=r (p + n)
   ·exact h2.symm
   ·exfalso;apply hne
    have:=h.nb (p + n) (by omega) i hi
    rw [h1C h2] at this
    rw [show p + (n + 1)=p + n + 1 by omega,this,h1]
  ·obtain ⟨k,a1,a2,a3⟩:=h.change hi n p (by omega) h1
   exact ⟨k,a1,by omega,a3⟩
theorem Run.enters (h:Run m C g A neg N T base d s r) {i:Nat} (hi:i < m):∀ (n p:Nat),p + n≤N→base p i ≠ base (p + n) i→∃ k,p≤k∧k < p + n∧r k=i∧s k=base (p + n) i
 | 0,p,_,hne=>h1Y rfl hne
 | n + 1,p,hN,hne=>by
  have h3:=h.nb (p + n) (by omega) i hi
  rw [← show p + (n + 1)=p + n + 1 by omega] at h3
  by_cases h2:i=r (p + n)
  ·rw [h1F h2] at h3
   exact ⟨p + n,by omega,by omega,h2.symm,h3.symm⟩
  ·rw [h1C h2] at h3
   obtain ⟨k,a1,a2,a3,a4⟩:=h.enters hi n p (by omega) (by rw [← h3];exact hne)
   exact ⟨k,a1,by omega,a3,by rw [a4,h3]⟩
theorem Run.real (h:Run m C g A neg N T base d s r) {i:Nat} (hi:i < m):∀ (n p:Nat),p + n≤N→base p i < C→base (p + n) i < C
 | 0,_,_,hb=>hb
 | n + 1,p,hN,hb=>by
  have h1:=h.real hi n p (by omega) hb
  have:=h.nb (p + n) (by omega) i hi
  rw [show p + (n + 1)=p + n + 1 by omega,this]
  split
  ·exact h.sC _ (by omega)
  ·exact h1
theorem Run.grow (h:Run m C g A neg N T base d s r) (hg:g=m ∨ g=m + 1) {k:Nat} (hk:k < N):T k g C * d (k + 1)≤T (k + 1) g C * d k∧(T k g C * d (k + 1)=T (k + 1) g C * d k→T k (r k) C=0):=by
 have h1:=h.nxt k hk g C (by omega) (by omega)
 have h2:=(h.tab k (by omega))
 obtain ⟨b,e,hI,_⟩:=h2.inv
 have h3:=hI.exact (i:=r k) (j:=s k) (k:=g) (c:=C) (by have:=h.rm k hk;omega) (by have:=h.sC k hk;omega) (by have:=h.piv k hk;omega) (by omega) (by omega) (by have:=h.rm k hk;omega)
 rw [← h1] at h3
 have h4:=h.ent k hk
 have h5:=h2.rhs (r k) (h.rm k hk)
 rw [h.nd k hk]
 have h6:T k g (s k) * T k (r k) C≤0:=i1A (by omega) h5
 refine ⟨by rw [Int.mul_comm _ (d k),← h3];omega,fun h7=>?_⟩
 rw [Int.mul_comm _ (d k),← h3] at h7
 have h8:T k g (s k) * T k (r k) C=0:=by omega
 rcases Int.mul_eq_zero.1 h8 with h9 | h9
 ·omega
 ·exact h9
theorem Run.grows (h:Run m C g A neg N T base d s r) (hg:g=m ∨ g=m + 1):∀ (n p:Nat),p + n≤N→T p g C * d (p + n)≤T (p + n) g C * d p
 | 0,p,_=>Int.le_refl _
 | n + 1,p,hN=>by
  have h1:=h.grows hg n p (by omega)
  have h2:=(h.grow hg (k:=p + n) (by omega)).1
  have p1:=(h.tab p (by omega)).pos
  have p2:=(h.tab (p + n) (by omega)).pos
  have p3:=(h.tab (p + n + 1) (by omega)).pos
  rw [show p + (n + 1)=p + n + 1 by omega]
  have h3:=i1y h1 (by omega:0≤d (p + n + 1))
  have h4:=i1y h2 (by omega:0≤d p)
  have h5:(T p g C * d (p + n + 1)) * d (p + n)≤(T (p + n + 1) g C * d p) * d (p + n):=by
   have e1:(T p g C * d (p + n + 1)) * d (p + n)=T p g C * d (p + n) * d (p + n + 1):=by grind
   have e2:(T (p + n + 1) g C * d p) * d (p + n)=T (p + n + 1) g C * d (p + n) * d p:=by grind
   have e3:T (p + n) g C * d p * d (p + n + 1)=T (p + n) g C * d (p + n + 1) * d p:=by grind
   rw [e1,e2];omega
  exact Int.le_of_mul_le_mul_right h5 p2
theorem Run.flat (h:Run m C g A neg N T base d s r) (hg:g=m ∨ g=m + 1) {p q:Nat} (hpq:p < q) (hq:q≤N) (hb:∀ i,i < m→base p i=base q i) {k:Nat} (hk1:p≤k) (hk2:k < q):T k (r k) C=0:=by
 have hp:=h.tab p (by omega)
 have hqt:=h.tab q hq
 have h1:=Y0u hp hqt hg (fun i hi h1=>by rw [← hb i hi];exact h1) (c:=C) (by omega)
 rw [e0o (fun i hi=>?_),j1g] at h1
 ·refine (h.grow hg (k:=k) (by omega)).2 ?_
  have a1:=h.grows hg (k - p) p (by omega)
  have a2:=(h.grow hg (k:=k) (by omega)).1
  have a3:=h.grows hg (q - (k + 1)) (k + 1) (by omega)
  rw [show p + (k - p)=k by omega] at a1
  rw [show k + 1 + (q - (k + 1))=q by omega] at a3
  have p1:=hp.pos
  have p2:=hqt.pos
  have p3:=(h.tab k (by omega)).pos
  have p4:=(h.tab (k + 1) (by omega)).pos
  -- a1: Tp dk <= Tk dp ; a3 : Tk1 dq <= Tq dk1 ; h1 : dp Tq = dq Tp
  refine Int.le_antisymm a2 ?_
  have b1:=i1y a3 (by omega:0≤d p)
  have b1:=i1y b1 (by omega:0≤d k)
  have b2:=i1y a1 (by omega:0≤d q)
  have b2:=i1y b2 (by omega:0≤d (k + 1))
  have b3:T (k + 1) g C * d k * (d p * d q)≤T k g C * d (k + 1) * (d p * d q):=by
   have e1:T (k + 1) g C * d k * (d p * d q)=T (k + 1) g C * d q * d p * d k:=by grind
   have e2:T k g C * d (k + 1) * (d p * d q)=T k g C * d p * d q * d (k + 1):=by grind
   have e3:T q g C * d (k + 1) * d p * d k=T p g C * d k * d q * d (k + 1):=by
    have:T q g C * d (k + 1) * d p * d k=(d p * T q g C) * (d (k + 1) * d k):=by grind
    rw [this,h1];grind
   rw [e1,e2];omega
  exact Int.le_of_mul_le_mul_right b3 (Int.mul_pos p1 p2)
 ·split
  ·rename_i h2
   have h3:=hqt.col (k:=g) (i:=i) (by omega) hi (by rw [← hb i hi];exact h2)
   rw [h1C (by omega)] at h3
   rw [hb i hi,h3];simp
  ·rfl
theorem Run.rhs0 (h:Run m C g A neg N T base d s r) {k i:Nat} (hk:k < N) (hi:i < m) (h0:T k (r k) C=0):T k i C=0 ↔ T (k + 1) i C=0:=by
 have h1:=h.nxt k hk i C (by omega) (by omega)
 have h2:=(h.tab k (by omega))
 by_cases hr:i=r k
 ·subst hr;rw [h1];unfold pv;rw [h1F rfl]
 ·obtain ⟨b,e,hI,_⟩:=h2.inv
  have h3:=hI.exact (i:=r k) (j:=s k) (k:=i) (c:=C) (by have:=h.rm k hk;omega) (by have:=h.sC k hk;omega) (by have:=h.piv k hk;omega) (by omega) (by omega) hr
  rw [← h1,h0,j1N,Int.sub_zero] at h3
  have p1:=h.piv k hk
  have p2:=h2.pos
  constructor
  ·intro h4;rw [h4,Int.zero_mul] at h3
   rcases Int.mul_eq_zero.1 h3.symm with h5 | h5
   ·omega
   ·exact h5
  ·intro h4;rw [h4,j1N] at h3
   rcases Int.mul_eq_zero.1 h3 with h5 | h5
   ·exact h5
   ·omega
theorem Run.rhs00 (h:Run m C g A neg N T base d s r) {i p:Nat} (hi:i < m):∀ n:Nat,p + n≤N→(∀ k,p≤k→k < p + n→T k (r k) C=0)→(T p i C=0 ↔ T (p + n) i C=0)
 | 0,_,_=>Iff.rfl
 | n + 1,hN,h0=>(h.rhs00 hi n (by omega) (fun k h1 h2=>h0 k h1 (by omega))).trans (h.rhs0 (k:=p + n) (by omega) hi (h0 _ (by omega) (by omega)))
theorem f1D (s:Nat→Nat):∀ (n p:Nat),0 < n→∃ k,p≤k∧k < p + n∧∀ l,p≤l→l < p + n→s l≤s k
 | 0,_,h=>by omega
 | n + 1,p,_=>by
  by_cases h0:n=0
  ·subst h0;exact ⟨p,by omega,by omega,fun l h1 h2=>by rw [show l=p by omega];exact h1A _⟩
  ·obtain ⟨k,a1,a2,a3⟩:=f1D s n p (by omega)
   by_cases h1:s (p + n)≤s k
   ·exact ⟨k,a1,by omega,fun l b1 b2=>by
     by_cases h2:l=p + n
     ·rw [h2];exact h1
     ·exact a3 l b1 (by omega)⟩
   ·exact ⟨p + n,by omega,by omega,fun l b1 b2=>by
     by_cases h2:l=p + n
     ·rw [h2];exact h1A _
     ·have:=a3 l b1 (by omega);omega⟩
theorem Run.norep (h:Run m C g A neg N T base d s r) (hg:g=m ∨ g=m + 1) {p q:Nat} (hpq:p < q) (hq:q≤N) (hb:∀ i,i < m→base p i=base q i):False:=by
 have hflat:∀ k,p≤k→k < q→T k (r k) C=0:=fun k h1 h2=>h.flat hg hpq hq hb h1 h2
 -- a row that a pivot s0b has nought at the right throughout
 have hzero:∀ k0 k i,p≤k0→k0 < q→p≤k→k < q→i < m→r k0=i→T k i C=0:=by
  intro k0 k i a1 a2 a3 a4 hi hr
  have e0:T k0 i C=0:=by rw [← hr];exact hflat k0 a1 a2
  have e1:=(h.rhs00 hi (k0 - p) (p:=p) (by omega) (fun l b1 b2=>hflat l b1 (by omega)))
  have e2:=(h.rhs00 hi (k - p) (p:=p) (by omega) (fun l b1 b2=>hflat l b1 (by omega)))
  rw [show p + (k0 - p)=k0 by omega] at e1
  rw [show p + (k - p)=k by omega] at e2
  exact e2.1 (e1.2 e0)
 -- what is made up stays so
 have hart:∀ k l i,p≤k→k≤q→p≤l→l≤q→i < m→¬ base k i < C→¬ base l i < C:=by
  intro k l i a1 a2 a3 a4 hi h1 h2
  have h3:=h.real hi (q - l) l (by omega) h2
  rw [show l + (q - l)=q by omega,← hb i hi] at h3
  have h4:=h.real hi (k - p) p (by omega) h3
  rw [show p + (k - p)=k by omega] at h4
  exact h1 h4
 obtain ⟨ks,s1,s2,s3⟩:=f1D s (q - p) p (by omega)
 have s3':∀ l,p≤l→l < q→s l≤s ks:=fun l a b=>s3 l a (by omega)
 have hS:=h.tab ks (by omega)
 have hne:=h.ent ks (by omega)
 -- the greatest leaves
 have hout:∃ k,p≤k∧k < q∧base k (r k)=s ks:=by
  have hr:=h.rm ks (by omega)
  have hnb:=h.nb ks (by omega) (r ks) hr
  rw [h1F rfl] at hnb
  by_cases hc:base q (r ks)=s ks
  ·rw [← hb _ hr] at hc
   have hno:base ks (r ks) ≠ s ks:=by
    intro h1
    have:=hS.col (k:=g) (i:=r ks) (by omega) hr (by rw [h1];exact h.sC ks (by omega))
    rw [h1,h1C (by omega)] at this;omega
   obtain ⟨k,b1,b2,b3,b4,_⟩:=h.change hr (ks - p) p (by omega) (by rw [show p + (ks - p)=ks by omega,hc];exact hno)
   exact ⟨k,b1,by omega,by rw [b3,b4,hc]⟩
  ·obtain ⟨k,b1,b2,b3,b4,_⟩:=h.change hr (q - (ks + 1)) (ks + 1) (by omega) (by rw [show ks + 1 + (q - (ks + 1))=q by omega,hnb];exact hc)
   exact ⟨k,by omega,by omega,by rw [b3,b4,hnb]⟩
 obtain ⟨k,k1,k2,k3⟩:=hout
 have hD:=h.tab k (by omega)
 have hrk:=h.rm k (by omega)
 have hsC:=h.sC ks (by omega)
 have hst:s k ≠ s ks:=by
  intro h1
  have:=hD.col (k:=g) (i:=r k) (by omega) hrk (by rw [k3];exact hsC)
  rw [k3,← h1,h1C (by omega)] at this
  have:=h.ent k (by omega);omega
 have hslt:s k < s ks:=by have:=s3' k k1 k2;omega
 have hlow:=h.low ks (by omega)
 have h1:=Y0u hD hS hg (fun i hi h1=>hart k ks i k1 (by omega) s1 (by omega) hi h1) (c:=s k) (by have:=h.sC k (by omega);omega)
 have h2:0 < sm (fun i=>if base k i < C then T k i (s k) * T ks g (base k i) else 0) m:=by
  have a1:=j1T (by have:=hD.pos;omega:0≤d k) (hlow (s k) hslt)
  have a2:=j1I hS.pos (h.ent k (by omega))
  omega
 obtain ⟨i,hi,h3⟩:=U0h h2
 split at h3
 case isFalse=>omega
 rename_i hreal
 have hnz:T ks g (base k i) ≠ 0:=by intro h4;rw [h4] at h3;omega
 have hnot:base ks i ≠ base k i:=by
  intro h4
  apply hnz
  rw [← h4,hS.col (k:=g) (i:=i) (by omega) hi (by rw [h4];exact hreal),h1C (by omega)]
 -- it comes in somewhere, and its row is met
 have hin:∃ l,p≤l∧l < q∧r l=i∧s l=base k i:=by
  by_cases hlt:ks < k
  ·obtain ⟨l,b1,b2,b3,b4⟩:=h.enters hi (k - ks) ks (by omega) (by rw [show ks + (k - ks)=k by omega];exact hnot)
   rw [show ks + (k - ks)=k by omega] at b4
   exact ⟨l,by omega,by omega,b3,b4⟩
  ·by_cases hpe:base p i=base k i
   ·have hqe:base q i=base k i:=by rw [← hb i hi];exact hpe
    obtain ⟨l,b1,b2,b3,b4⟩:=h.enters hi (q - ks) ks (by omega) (by rw [show ks + (q - ks)=q by omega,hqe];exact hnot)
    rw [show ks + (q - ks)=q by omega,hqe] at b4
    exact ⟨l,by omega,by omega,b3,b4⟩
   ·obtain ⟨l,b1,b2,b3,b4⟩:=h.enters hi (k - p) p (by omega) (by rw [show p + (k - p)=k by omega];exact hpe)
    rw [show p + (k - p)=k by omega] at b4
    exact ⟨l,by omega,by omega,b3,b4⟩
 obtain ⟨l,l1,l2,l3,l4⟩:=hin
 have hle:base k i≤s ks:=by rw [← l4];exact s3' l l1 l2
 have hnt:base k i ≠ s ks:=by
  intro h4
  have:i=r k:=hD.inj hi hrk hreal (by rw [h4,k3])
  have h5:=h.piv k (by omega)
  rw [this,k3] at h3
  have:=j1I h5 hne
  omega
 have hge:=hlow (base k i) (by omega)
 have hpos:0 < T k i (s k):=by
  rcases Int.lt_trichotomy 0 (T k i (s k)) with h4 | h4 | h4
  ·exact h4
  ·rw [← h4] at h3;omega
  ·have:=i1A (by omega:T k i (s k)≤0) hge;omega
 have hz1:=hzero l k i l1 l2 k1 k2 hi l3
 have hz2:=hflat k k1 k2
 rcases h.min k (by omega) i hi hpos with h4 | ⟨_,h4⟩
 ·rw [hz1,hz2] at h4;omega
 ·rw [k3] at h4;omega
end
theorem N0X:∀ (K:Nat) (f:Nat→Nat),(∀ k,k≤K→f k < K)→∃ p q,p < q∧q≤K∧f p=f q
 | 0,f,h=>h1Y (h 0 (h1A _)) (by omega)
 | K + 1,f,h=>by
  by_cases h1:∃ k,k≤K∧f k=f (K + 1)
  ·obtain ⟨k,hk,he⟩:=h1;exact ⟨k,K + 1,by omega,h1A _,he⟩
  ·have hne:∀ k,k≤K→f k ≠ f (K + 1):=fun k hk he=>h1 ⟨k,hk,he⟩
   have hv:=h (K + 1) (h1A _)
   obtain ⟨p,q,a1,a2,a3⟩:=N0X K (fun k=>if f k=K then f (K + 1) else f k) (fun k hk=>by
    have:=h k (by omega);have:=hne k hk
    split <;> omega)
   refine ⟨p,q,a1,by omega,?_⟩
   have:=hne p (by omega);have:=hne q (by omega)
   split at a3 <;> split at a3 <;> omega
def enc (B:Nat) (f:Nat→Nat):Nat→Nat
 | 0=>0
 | n + 1=>f n + B * enc B f n
theorem N0J {B:Nat} {f:Nat→Nat}:∀ {n:Nat},(∀ i,i < n→f i < B)→enc B f n < B ^ n
 | 0,_=>by simp [enc]
 | n + 1,h=>by
  have h1:=N0J (n:=n) (fun i hi=>h i (by omega))
  have h2:=h n (by omega)
  rw [enc,h1Z,i1e]
  have:B * (enc B f n + 1)≤B * B ^ n:=i1b B h1
  rw [h1P] at this
  rw [i1e (enc B f n) B,i1e (B ^ n) B];omega
theorem z0Z {B:Nat} {f h:Nat→Nat}:∀ {n:Nat},(∀ i,i < n→f i < B)→(∀ i,i < n→h i < B)→enc B f n=enc B h n→∀ i,i < n→f i=h i
 | 0,_,_,_=>fun i hi=>by omega
 | n + 1,hf,hh,e=>fun i hi=>by
  rw [enc,enc] at e
  have a1:=hf n (by omega)
  have a2:=hh n (by omega)
  have e1:f n=h n:=by
   have:=congrArg (· % B) e
   simp only [Nat.add_mul_mod_self_left,i1d a1,i1d a2] at this
   exact this
  by_cases hin:i=n
  ·rw [hin];exact e1
  ·rw [e1] at e
   exact z0Z (n:=n) (fun i hi=>hf i (by omega)) (fun i hi=>hh i (by omega)) (Nat.eq_of_mul_eq_mul_left (by omega:0 < B) (Nat.add_left_cancel e)) i (by omega)
theorem Run.short {g N:Nat} {T:Nat→Nat→Nat→Int} {base:Nat→Nat→Nat} {d:Nat→Int} {s r:Nat→Nat} (h:Run m C g A neg N T base d s r) (hg:g=m ∨ g=m + 1):N < (C + m) ^ m:=by
 by_cases hN:N < (C + m) ^ m
 ·exact hN
 ·exfalso
  obtain ⟨p,q,h1,h2,h3⟩:=N0X ((C + m) ^ m) (fun k=>enc (C + m) (base k) m) (fun k hk=>N0J fun i hi=>(h.tab k (by omega)).base_lt hi)
  exact h.norep hg h1 (by omega) (z0Z (fun i hi=>(h.tab p (by omega)).base_lt hi) (fun i hi=>(h.tab q (by omega)).base_lt hi) h3)
end Go.Proofs.YtjlohmnnldbjoaaGreat.SX
namespace Go.Proofs.YtjlohmnnldbjoaaGreat.SX
open AI (h1A h1C h1F i1A i1y j1I j1N j1T)
variable {M m C:Nat} {A:Nat→Nat→Int} {neg:Nat→Prop} {T T':Nat→Nat→Int} {base base':Nat→Nat} {d d':Int}
theorem Inv.congr {b:Nat→Nat→Int} {e:Int} (h:Inv M C A T b d e) (hT:∀ i c,i < M→c≤C→T' i c=T i c):Inv M C A T' b d e :=
 { h with col:=fun c hc r hr=>by rw [h.col c hc r hr];exact b0k fun i hi=>by rw [hT i c hi hc] }
theorem Tab.congr (h:Tab m C A neg T base d) (hT:∀ i c,i < m + 2→c≤C→T' i c=T i c) (hb:∀ i,i < m→base' i=base i) (hd:d' = d):Tab m C A neg T' base' d':=by
 subst hd
 obtain ⟨b,e,h1,h2,h3⟩:=h.inv
 exact ⟨⟨b,e,h1.congr hT,fun i hi=>by rw [hb i hi];exact h2 i hi,h3⟩,fun i hi=>by rw [hT i C (by omega) (by omega)];exact h.rhs i hi⟩
theorem Tab.pivot (h:Tab m C A neg T base d) {i j:Nat} (hi:i < m) (hj:j < C) (hp:0 < T i j) (hr:∀ k,k < m→0 < T k j→T i C * T k j≤T k C * T i j) :
  Tab m C A neg (pv T i j d) (up base i j) (T i j):=by
 obtain ⟨b,e,h1,h2,h3,h4⟩:=h.inv
 refine ⟨⟨up b i (A j),e,h1.pivot (by omega) (by omega) hp,fun k hk=>?_,by rw [e0z (by omega)];exact h3,by rw [e0z (by omega)];exact h4⟩,fun k hk=>?_⟩
 ·by_cases hki:k=i
  ·subst hki;exact .inl ⟨by rw [b0n];exact hj,fun r _=>by rw [b0n,b0n]⟩
  ·rw [e0z hki,e0z hki];exact h2 k hk
 ·by_cases hki:k=i
  ·subst hki;unfold pv;rw [h1F rfl];exact h.rhs k hk
  ·have h5:=h1.exact (i:=i) (j:=j) (k:=k) (c:=C) (by omega) (by omega) (by omega) (by omega) (h1A _) hki
   have h6:=h.rhs k hk
   have h7:=h.rhs i hi
   have h8:0≤T k C * T i j - T k j * T i C:=by
    by_cases hpos:0 < T k j
    ·have:=hr k hk hpos
     have e1:T k j * T i C=T i C * T k j:=Int.mul_comm _ _
     omega
    ·have a1:=j1T h6 (by omega:0≤T i j)
     have a2:=i1A (by omega:T k j≤0) h7
     omega
   rw [h5] at h8
   have:=h1.pos
   by_cases h9:0≤pv T i j d k C
   ·exact h9
   ·have:=j1I this (by omega:pv T i j d k C < 0);omega
theorem Tab.exact (h:Tab m C A neg T base d) {i j:Nat} (hi:i < m) (hj:j≤C) (hp:T i j ≠ 0) {k c:Nat} (hk:k < m + 2) (hc:c≤C) (hki:k ≠ i):T k c * T i j - T k j * T i c=d * pv T i j d k c:=by
 obtain ⟨b,e,h1,_⟩:=h.inv
 exact h1.exact (by omega) hj hp hk hc hki
theorem Tab.swap (h:Tab m C A neg T base d) {i j:Nat} (hi:i < m) (hj:j < C) (hp:0 < T i j) (h0:T i C=0):Tab m C A neg (pv T i j d) (up base i j) (T i j) :=
 h.pivot hi hj hp fun k hk _=>by
  rw [h0,Int.zero_mul]
  exact j1T (h.rhs k hk) (by omega)
theorem Tab.swapN (h:Tab m C A neg T base d) {i j:Nat} (hi:i < m) (hj:j < C) (hp:T i j < 0) (h0:T i C=0) :
  Tab m C A neg (pv (ng T i) i j d) (up base i j) (-T i j)∧∀ k c,k < m + 2→c≤C→k ≠ i→ng T i k c * ng T i i j - ng T i k j * ng T i i c=d * pv (ng T i) i j d k c:=by
 obtain ⟨b,e,h1,h2,h3,h4⟩:=h.inv
 have h1':=h1.turn (i:=i) (by omega)
 have hn:ng T i i j = -T i j:=by unfold ng;rw [h1F rfl]
 have hex:∀ k c,k < m + 2→c≤C→k ≠ i→ng T i k c * ng T i i j - ng T i k j * ng T i i c=d * pv (ng T i) i j d k c :=
  fun k c hk hc hki=>h1'.exact (by omega) (by omega) (by omega) hk hc hki
 have h5:=h1'.pivot (i:=i) (j:=j) (by omega) (by omega) (by omega)
 rw [hn] at h5
 refine ⟨⟨⟨up (up b i (fun r=>-b i r)) i (A j),-e,h5,fun k hk=>?_,?_,?_⟩,fun k hk=>?_⟩,hex⟩
 ·by_cases hki:k=i
  ·subst hki;exact .inl ⟨by rw [b0n];exact hj,fun r _=>by rw [b0n,b0n]⟩
  ·rw [e0z hki,e0z hki,e0z hki];exact h2 k hk
 ·rw [e0z (by omega),e0z (by omega)];exact h3
 ·rw [e0z (by omega),e0z (by omega)];exact h4
 ·by_cases hki:k=i
  ·subst hki;unfold pv;rw [h1F rfl];unfold ng;rw [h1F rfl,h0];omega
  ·have h6:=hex k C (by omega) (h1A _) hki
   have e1:ng T i i C=0:=by unfold ng;rw [h1F rfl,h0];rfl
   have e2:ng T i k C=T k C:=by unfold ng;rw [h1C hki]
   rw [e1,j1N,Int.sub_zero,e2,hn] at h6
   have h8:=j1T (h.rhs k hk) (by omega:0≤-T i j)
   rw [h6] at h8
   have:=h1.pos
   by_cases h9:0≤pv (ng T i) i j d k C
   ·exact h9
   ·have:=j1I this (by omega:pv (ng T i) i j d k C < 0);omega
def v0B (T:Nat→Nat→Int) (base:Nat→Nat) (C j n o:Nat):Prop :=
 o < n∧0 < T o j∧∀ i,i < n→0 < T i j→T o C * T i j < T i C * T o j ∨ (T o C * T i j=T i C * T o j∧base o≤base i)
variable {j n o:Nat}
theorem v0B.one (h:0 < T n j) (h0:∀ i,i < n→T i j≤0):v0B T base C j (n + 1) n :=
 ⟨by omega,h,fun i hi hp=>by
  have:i=n:=by
   by_cases h1:i < n
   ·have:=h0 i h1;omega
   ·omega
  subst this;exact .inr ⟨rfl,h1A _⟩⟩
theorem v0B.skip (h:v0B T base C j n o) (h0:T n j≤0):v0B T base C j (n + 1) o :=
 ⟨by have:=h.1;omega,h.2.1,fun i hi hp=>by
  by_cases h1:i < n
  ·exact h.2.2 i h1 hp
  ·have:i=n:=by omega
   subst this;omega⟩
theorem v0B.keep (h:v0B T base C j n o) (h0:T o C * T n j < T n C * T o j ∨ (T o C * T n j=T n C * T o j∧base o≤base n)):v0B T base C j (n + 1) o :=
 ⟨by have:=h.1;omega,h.2.1,fun i hi hp=>by
  by_cases h1:i < n
  ·exact h.2.2 i h1 hp
  ·have:i=n:=by omega
   subst this;exact h0⟩
theorem v0B.take (h:v0B T base C j n o) (hp:0 < T n j) (h0:T n C * T o j < T o C * T n j ∨ (T n C * T o j=T o C * T n j∧base n < base o)):v0B T base C j (n + 1) n :=
 ⟨by omega,hp,fun i hi hpi=>by
  by_cases h1:i < n
  ·have h2:=h.2.2 i h1 hpi
   have ho:=h.2.1
   -- a: Tn/ ..
   generalize T n C=nC at *
   generalize T n j=nj at *
   generalize T o C=oC at *
   generalize T o j=oj at *
   generalize T i C=iC at *
   generalize T i j=ij at *
   have key:(nC * ij) * oj=(nC * oj) * ij:=by grind
   have key2:(iC * nj) * oj=(iC * oj) * nj:=by grind
   have key3:(oC * nj) * ij=(oC * ij) * nj:=by grind
   rcases h0 with h0 | ⟨h0,hb⟩
   ·left
    have a1:(nC * oj) * ij < (oC * nj) * ij:=Int.mul_lt_mul_of_pos_right h0 hpi
    have a2:(oC * ij) * nj≤(iC * oj) * nj:=i1y (by rcases h2 with h2 | h2 <;> omega) (by omega)
    exact Int.lt_of_mul_lt_mul_right (a:=oj) (by omega) (by omega)
   ·have a1:(nC * oj) * ij=(oC * nj) * ij:=by rw [h0]
    rcases h2 with h2 | ⟨h2,hb2⟩
    ·left
     have a2:(oC * ij) * nj < (iC * oj) * nj:=Int.mul_lt_mul_of_pos_right h2 hp
     exact Int.lt_of_mul_lt_mul_right (a:=oj) (by omega) (by omega)
    ·right
     have a2:(oC * ij) * nj=(iC * oj) * nj:=by rw [h2]
     refine ⟨?_,by omega⟩
     have:(nC * ij) * oj=(iC * nj) * oj:=by omega
     exact Int.eq_of_mul_eq_mul_right (by omega) this
  ·have:i=n:=by omega
   subst this;exact .inr ⟨rfl,h1A _⟩⟩
theorem Run.zero {g:Nat} (h:Tab m C A neg T base d):Run m C g A neg 0 (fun _=>T) (fun _=>base) (fun _=>d) (fun _=>0) (fun _=>0) where
 tab:=fun _ _=>h
 sC:=fun k hk=>by omega
 rm:=fun k hk=>by omega
 ent:=fun k hk=>by omega
 low:=fun k hk=>by omega
 piv:=fun k hk=>by omega
 min:=fun k hk=>by omega
 nxt:=fun k hk=>by omega
 nb:=fun k hk=>by omega
 nd:=fun k hk=>by omega
def Reach (m C g:Nat) (A:Nat→Nat→Int) (neg:Nat→Prop) (N:Nat) (T:Nat→Nat→Int) (base:Nat→Nat) (d:Int):Prop :=
 ∃ Ts bs ds s r,Run m C g A neg N Ts bs ds s r∧(∀ i c,i < m + 2→c≤C→T i c=Ts N i c)∧(∀ i,i < m→base i=bs N i)∧d=ds N
theorem Reach.zero {g:Nat} (h:Tab m C A neg T base d):Reach m C g A neg 0 T base d:=⟨_,_,_,_,_,Run.zero h,fun _ _ _ _=>rfl,fun _ _=>rfl,rfl⟩
theorem Reach.tab {g N:Nat} (h:Reach m C g A neg N T base d):Tab m C A neg T base d:=by
 obtain ⟨Ts,bs,ds,s,r,h1,h2,h3,h4⟩:=h
 exact (h1.tab N (h1A _)).congr h2 h3 h4
theorem Reach.short {g N:Nat} (hg:g=m ∨ g=m + 1) (h:Reach m C g A neg N T base d):N < (C + m) ^ m:=by
 obtain ⟨Ts,bs,ds,s,r,h1,_⟩:=h;exact h1.short hg
theorem Reach.step {g N i:Nat} (hg:g=m ∨ g=m + 1) (h:Reach m C g A neg N T base d) (hj:j < C) (he:T g j < 0) (hl:∀ c,c < j→0≤T g c) (hB:v0B T base C j m i)
  (hT:∀ k c,k < m + 2→c≤C→T' k c=pv T i j d k c) (hb:∀ k,k < m→base' k=if k=i then j else base k) (hd:d' = T i j):Reach m C g A neg (N + 1) T' base' d':=by
 have hTab:=h.tab
 obtain ⟨Ts,bs,ds,s,r,h1,h2,h3,h4⟩:=h
 obtain ⟨hi,hp,hmin⟩:=hB
 have hC:C≤C:=h1A _
 have hnew:Tab m C A neg T' base' d':=(hTab.pivot hi hj hp fun k hk hp=>by rcases hmin k hk hp with a | a <;> omega).congr hT (fun k hk=>by rw [hb k hk];rfl) hd
 refine ⟨up Ts (N + 1) T',up bs (N + 1) base',up ds (N + 1) d',up s N j,up r N i,?_,fun i c _ _=>by rw [b0n],fun i _=>by rw [b0n],by rw [b0n]⟩
 have u:∀ {α:Type} (f:Nat→α) (x:α) {k:Nat},k≤N→up f (N + 1) x k=f k:=fun f x k hk=>e0z (by omega)
 have v:∀ {α:Type} (f:Nat→α) (x:α) {k:Nat},k < N→up f N x k=f k:=fun f x k hk=>e0z (by omega)
 constructor
 ·intro k hk
  by_cases hkN:k=N + 1
  ·subst hkN;rw [b0n,b0n,b0n];exact hnew
  ·rw [u _ _ (by omega),u _ _ (by omega),u _ _ (by omega)];exact h1.tab k (by omega)
 ·intro k hk
  by_cases hkN:k=N
  ·subst hkN;rw [b0n];exact hj
  ·rw [v _ _ (by omega)];exact h1.sC k (by omega)
 ·intro k hk
  by_cases hkN:k=N
  ·subst hkN;rw [b0n];exact hi
  ·rw [v _ _ (by omega)];exact h1.rm k (by omega)
 ·intro k hk
  rw [u _ _ (by omega)]
  by_cases hkN:k=N
  ·subst hkN;rw [b0n,← h2 g j (by omega) (by omega)];exact he
  ·rw [v _ _ (by omega)];exact h1.ent k (by omega)
 ·intro k hk c hc
  rw [u _ _ (by omega)]
  by_cases hkN:k=N
  ·subst hkN;rw [b0n] at hc;rw [← h2 g c (by omega) (by omega)];exact hl c hc
  ·rw [v _ _ (by omega)] at hc;exact h1.low k (by omega) c hc
 ·intro k hk
  rw [u _ _ (by omega)]
  by_cases hkN:k=N
  ·subst hkN;rw [b0n,b0n,← h2 i j (by omega) (by omega)];exact hp
  ·rw [v _ _ (by omega),v _ _ (by omega)];exact h1.piv k (by omega)
 ·intro k hk q hq hpos
  rw [u Ts _ (by omega)] at hpos ⊢
  rw [u bs _ (by omega)]
  by_cases hkN:k=N
  ·subst hkN
   rw [b0n] at hpos ⊢
   rw [b0n]
   rw [← h2 q j (by omega) (by omega)] at hpos
   rw [← h2 q j (by omega) (by omega),← h2 i j (by omega) (by omega),← h2 i C (by omega) hC,← h2 q C (by omega) hC,← h3 i hi,← h3 q hq]
   exact hmin q hq hpos
  ·rw [v s _ (by omega)] at hpos ⊢
   rw [v r _ (by omega)]
   exact h1.min k (by omega) q hq hpos
 ·intro k hk q c hq hc
  by_cases hkN:k=N
  ·subst hkN
   rw [b0n,b0n,b0n,u _ _ (h1A _),u _ _ (h1A _),hT q c hq hc]
   unfold pv
   rw [h2 q c hq hc,h2 q j hq (by omega),h2 i c (by omega) hc,h2 i j (by omega) (by omega),h4]
  ·rw [u Ts _ (by omega),u Ts _ (by omega),u ds _ (by omega),v _ _ (by omega),v _ _ (by omega)];exact h1.nxt k (by omega) q c hq hc
 ·intro k hk q hq
  by_cases hkN:k=N
  ·subst hkN
   rw [b0n,b0n,b0n,u _ _ (h1A _),hb q hq,h3 q hq]
  ·rw [u bs _ (by omega),u bs _ (by omega),v _ _ (by omega),v _ _ (by omega)];exact h1.nb k (by omega) q hq
 ·intro k hk
  by_cases hkN:k=N
  ·subst hkN
   rw [b0n,b0n,b0n,u _ _ (h1A _),hd,h2 i j (by omega) (by omega)]
  ·rw [u ds _ (by omega),u Ts _ (by omega),v _ _ (by omega),v _ _ (by omega)];exact h1.nd k (by omega)
theorem Tab.bound (h:Tab m C A neg T base d) {B:Nat} (hB:1≤B) (hA:∀ c r,c≤C→r < m + 2→(A c r).natAbs≤B):(∀ k c,k < m + 2→c≤C→(T k c).natAbs≤fac (m + 2) * B ^ (m + 2))∧d.natAbs≤fac (m + 2) * B ^ (m + 2):=by
 obtain ⟨b,e,h1,h2,h3,h4⟩:=h.inv
 have hu:∀ i r,(j0Y i r).natAbs≤B:=fun i r=>by unfold j0Y;split <;> simp <;> omega
 have hb:∀ i r,i < m + 2→r < m + 2→(b i r).natAbs≤B:=by
  intro i r hi hr
  by_cases hm:i < m
  ·rcases h2 i hm with ⟨k1,k2⟩ | ⟨_,_,k2⟩
   ·rw [k2 r hr];exact hA _ r (by omega) hr
   ·rw [k2 r];exact hu i r
  ·by_cases hm2:i=m
   ·rw [hm2,h3 r];exact hu m r
   ·rw [show i=m + 1 by omega,h4 r];exact hu _ r
 exact ⟨fun k c hk hc=>h1.bound hb hA hk hc,h1.bound_d hb⟩
end Go.Proofs.YtjlohmnnldbjoaaGreat.SX

