/- Part 8 of the proof: AiSx2, AiSx3, AiSx4, AiSx5, AiSx6, AiSx7, AiSx8, AiRow1, AiRow2, AiFor2, AiSame, AiGreat, AiRow3, AiLat, AiGreat4, AiRefA1, AiSy1, SxDet. -/
import Derived.Deep.Slices
import Derived.ProofKit
import Derived.OpenShut
import Derived.Test.YtjlohmnnldbjoaaGreatRows
import Derived.Test.YtjlohmnnldbjoaaGreatM02
import Derived.Test.YtjlohmnnldbjoaaGreatM06
set_option linter.unusedVariables false
set_option linter.unusedSimpArgs false
set_option linter.unusedSectionVars false
/- num.To. -/
namespace Go.Proofs.YtjlohmnnldbjoaaGreat.AI
section
open Go
set_option maxHeartbeats 4000000
variable {fl:Nat} {H G:a0f} {R:a0A} {v w u:Value}
def n0V (z:Int):Bool:=decide (-9223372036854775808≤z∧z < 9223372036854775808)
def toV (z:Int):Value:=.tuple #[.int .i64 (if n0V z then z else 0),.bool (n0V z)]
theorem P0j {n:Nat} (h:n≤9223372036854775808):IntKind.i64.wrap (IntKind.u64.wrap (0 - (n:Int))) = -(n:Int):=by
 rw [a0J]
 show (if (true && decide (((0 - (n:Int)) % 18446744073709551616) % (2 ^ 64:Int) ≥ (2 ^ 63:Int)))=true then ((0 - (n:Int)) % 18446744073709551616) % (2 ^ 64:Int) - (2 ^ 64:Int) else ((0 - (n:Int)) % 18446744073709551616) % (2 ^ 64:Int)) = -(n:Int)
 rw [show (2 ^ 64:Int)=18446744073709551616 from rfl,show (2 ^ 63:Int)=9223372036854775808 from rfl]
 simp only [Bool.true_and,decide_eq_true_eq]
 split <;> omega
theorem W0n {i:Nat} (h:i < 2):(4294967296:Nat) ^ i=2 ^ (32 * i):=by
 rw [Nat.pow_mul]
theorem G0e {z:Int} (h:2 < lz z):n0V z=false:=by
 have:¬ z.natAbs < 4294967296 ^ 2:=fun h2=>by have:=g0o h2;unfold lz at h;omega
 unfold n0V;simp;intro _;omega
theorem j0W {z:Int} (h:b0q H v (a0n z)) (hf:fl≤H.size) (hl:lz z < 1073741824) :
  a0P env fl w0o [v] H (fun r H'=>r=toV z∧Ext H H') R:=by
 refine a0l V0U hf (h:=?_)
 intro ρ h0
 obtain ⟨s0,rfl,k0⟩:=id h
 simp [I0K,E0f,E0g,h0,k0.cells,k0.plain]
 generalize hG:Array.push H _=G
 obtain ⟨hx2,b0⟩:=k0C hG
 have hx:=Ext.refl H
 clear hG
 replace hx:=hx.trans hx2;replace k0:=k0.mono hx2
 have hcl:(a0n z).2.length=lz z:=a0j z
 refine (b0M (h.mono hx) hx.1 (by rw [a0j];omega)).mono ?_
 rintro w G2 ⟨k1,hx2⟩
 replace b0:=hx2.blk b0;replace hx:=hx.trans hx2;replace k0:=k0.mono hx2
 rw [a0i] at k1
 obtain ⟨d,hd⟩:∃ d,d=z.natAbs:=⟨_,rfl⟩
 have hld:(a0I d).length=lz z:=by rw [hd];rfl
 rw [← hd] at k1
 simp [E0h,k1.slen,hld]
 refine ⟨fun h2=>?_,fun h2=>?_⟩
 ·simp [E0i,toV,G0e (z:=z) (by omega)]
 ·simp [E0j,E0k,k1.slen,hld]
  refine c0h (n:=lz z) (fun i ρ G=>ρ 1=.pointer (some ⟨H.size,0,none⟩)∧ρ 13=w∧Ext H G∧a0f.blk G H.size=.row false a0c [.bool (a0n z).1,s0]∧Lim G w (a0I d)∧ρ 5=.int .u64 ((a0D ((a0I d).take i):Nat):Int)) rfl rfl (by decide) (by omega) (by simp) (by simp) ?_ ?_ ?_ ?_
  ·exact ⟨by simp,by simp,hx,b0,k1,by simp [a0D]⟩
  ·intro i ρ ρ' G h hI;simpa [h] using hI
  ·clear h0 ρ hx b0 k0 k1 hx2
   rintro i ρ G hi gi gn ⟨g1,g13,hx,b0,k1,g5⟩
   have hil:i < (a0I d).length:=by omega
   have hla:=k1.load hil (Ext.refl G)
   have hA2:=b0h hil
   have hA3:(a0I d).getD i 0 < 4294967296:=k1.2 _ (by rw [List.getD_eq_getElem?_getD,List.getElem?_eq_getElem hil];exact List.getElem_mem hil)
   have hA1:=f0X ((a0I d).take i) (fun x hx=>k1.2 _ (List.mem_of_mem_take hx))
   rw [List.length_take,Nat.min_eq_left (by omega),W0n (by omega)] at hA1
   rw [W0n (by omega)] at hA2
   obtain ⟨A,hA⟩:∃ A,A=(a0I d).getD i 0:=⟨_,rfl⟩
   obtain ⟨N,hN⟩:∃ N,N=a0D ((a0I d).take i):=⟨_,rfl⟩
   rw [← hA] at hla hA2 hA3
   rw [← hN] at hA1 hA2 g5
   have hp:(2:Nat) ^ (32 * i)≤4294967296:=by
    have:(2:Nat) ^ (32 * i)≤2 ^ 32:=Nat.pow_le_pow_right (by omega) (by omega)
    exact this
   have hAp:A * 2 ^ (32 * i)≤4294967295 * 4294967296:=Nat.mul_le_mul (by omega) hp
   have eA:IntKind.u64.wrap (A:Int)=(A:Int):=by rw [a0J];omega
   have e32:IntKind.i64.wrap (32 * (i:Int))=((32 * i:Nat):Int):=by rw [a0L (by omega) (by omega)];omega
   have s1:=F0j (tag:=0) (n:=A) (s:=32 * i) (k':=.i64) (by omega)
   rw [Nat.mod_eq_of_lt (by omega)] at s1
   have s2:=R0k (tag:=0) (a:=N) (b:=A * 2 ^ (32 * i)) (by omega) (by omega)
   rw [p0s hA1] at s2
   simp [-Int.natCast_add,-Int.natCast_mul,-Int.natCast_pow,E0l,E0m,gi,g13,g5,k1.ia hil,hla,eA,e32,s1,s2]
   exact Rnd.mk (by simp [gi]) (by simp [gn]) ⟨by simp [g1],by simp [g13],hx,b0,k1,by simp [-Int.natCast_add,-Int.natCast_mul,-Int.natCast_pow];rw [hA2,Nat.mul_comm]⟩
  ·clear h0 ρ hx b0 k0 k1 hx2
   rintro ρ G gi gn ⟨g1,g13,hx,b0,k1,g5⟩
   have hd2:d < 4294967296 ^ (lz z):=by have:=j0S d;rwa [hld] at this
   have hd3:d < 18446744073709551616:=Nat.lt_of_lt_of_le hd2 (Nat.le_trans (Nat.pow_le_pow_right (by omega) (show lz z≤2 by omega)) (by decide))
   rw [List.take_of_length_le (by omega),a0H] at g5
   have hb0:=a0k b0
   simp [t0w,g1,b0]
   refine (b0u (h.mono hx) hx.1 (by rw [a0j];omega)).mono ?_
   rintro _ G3 ⟨rfl,hx2⟩
   replace b0:=hx2.blk b0;replace hx:=hx.trans hx2
   rw [a0i]
   have hb0:=a0k b0
   have hu:n0V z=false→toV z=.tuple #[.int .i64 0,.bool false]:=fun h=>by rw [toV,h];rfl
   have hv:n0V z=true→toV z=.tuple #[.int .i64 z,.bool true]:=fun h=>by rw [toV,h];rfl
   clear hx2
   by_cases hz:z < 0
   ·by_cases hz2:(d:Int)≤9223372036854775808
    ·have hf1:n0V z=true:=by unfold n0V;simp;omega
     have e1:=P0j (n:=d) (by omega)
     have e2:-(d:Int)=z:=by omega
     rw [e2] at e1
     simp [hz,hz2,g5,t0x,e1,hv hf1]
     try (rw [show IntKind.i64.wrap (IntKind.u64.wrap (-(d:Int)))=z by rw [← Int.zero_sub];exact e1];simp)
    ·have hf1:n0V z=false:=by unfold n0V;simp;omega
     simp [hz,hz2,g5,n0f,g1,b0]
     refine (b0u (h.mono hx) hx.1 (by rw [a0j];omega)).mono ?_
     rintro _ G4 ⟨rfl,hx2⟩
     rw [a0i]
     simp [hz,n0g,hu hf1]
   ·simp [hz,g5,n0f,g1,b0]
    refine (b0u (h.mono hx) hx.1 (by rw [a0j];omega)).mono ?_
    rintro _ G4 ⟨rfl,hx2⟩
    rw [a0i]
    have e2:(d:Int)=z:=by omega
    by_cases hz2:z < 9223372036854775808
    ·have hf1:n0V z=true:=by unfold n0V;simp;omega
     have e1:IntKind.i64.wrap z=z:=a0L (by omega) hz2
     simp [hz,hz2,g5,t0y,e1,hv hf1,e2]
    ·have hf1:n0V z=false:=by unfold n0V;simp;omega
     simp [hz,hz2,g5,n0g,hu hf1,e2]
end
/- the two rings of simplex. -/
section
open Go
set_option maxHeartbeats 4000000
variable {fl:Nat} {H G:a0f} {R:a0A} {v w u:Value}
def eV:Value:=.agg #[]
def q0T:Value:=.iface e0R (.agg #[])
def e0l (z:Int):Prop:=-2147483648 < z∧z < 2147483648
def W0a:Value→a0A→Prop
 | .iface ty v,R=>R (.iface ty v)
 | _,_=>False
theorem i0p {ty:TypeId} {v:Value}:W0a (.iface ty v) R=R (.iface ty v):=nr rfl
theorem o0U {E:Env} {t:a0W} {x:Opd} {K:k0E}:WS E fl t H (.pan x) K R=W0a (ev t x) R:=by
 simp only [WS,opA]
 cases ev t x <;> simp [W0a]
theorem m0c {a b:Int} (ha:e0l a) (hb:e0l b):-4611686018427387904 < a * b∧a * b < 4611686018427387904:=by
 obtain ⟨a1,a2⟩:=ha
 obtain ⟨b1,b2⟩:=hb
 have h:(a * b).natAbs≤2147483647 * 2147483647:=by
  rw [Int.natAbs_mul];exact Nat.mul_le_mul (by omega) (by omega)
 omega
theorem m0b {a b:Int} (ha:e0l a) (hb:e0l b):IntKind.i64.wrap (a * b)=a * b:=by
 have:=m0c ha hb
 exact a0L (by omega) (by omega)
theorem R0f (x y:Int):lz (x - y)≤max (lz x) (lz y) + 1:=by
 rw [Int.sub_eq_add_neg];have:=o0e x (-y);rwa [e0s] at this
theorem push2 {z1 z2:Blk} (hG:Array.push (Array.push H z1) z2=G):Ext H G∧a0f.blk G H.size=z1∧a0f.blk G (H.size + 1)=z2:=by
 rw [← hG];exact ⟨(Ext.refl H).push.push,by simp,by simp⟩
theorem e0N {a b:Int} (hf:fl≤H.size) :
  a0P env fl u0x [.int .i64 a,.int .i64 b] H (fun r H'=>r=.int .i64 (b0T a b)∧Ext H H') R:=by
 refine a0l V0T hf (h:=?_)
 intro ρ h0
 simp [I0J,D0Z,E0a,h0]
 refine ⟨fun h=>?_,fun h=>?_⟩
 ·have:b0T a b = -1:=by unfold b0T;rw [if_pos h]
  simp [E0b,this]
 ·simp [E0c,h0]
  refine ⟨fun h=>?_,fun h=>?_⟩
  ·have:b0T a b=1:=by unfold b0T;rw [if_neg (by omega),if_pos (by omega)]
   simp [E0d,this]
  ·have:b0T a b=0:=by unfold b0T;rw [if_neg (by omega),if_neg (by omega)]
   simp [E0e,this]
theorem e0v {z:Int} (hf:fl≤H.size) (hR:R q0T) :
  a0P env fl p0k [.int .i64 z] H (fun r H'=>(r=.int .i64 z∧e0l z)∧Ext H H') R:=by
 refine a0l Q0C hf (h:=?_)
 intro ρ h0
 simp [F0i,q0I,q0J,h0]
 by_cases h1:z≤-2147483648
 ·have h1':¬ (-2147483648 < z):=by omega
  simp [h1,h1',q0K,o0U,i0p]
  exact hR
 ·have h1':-2147483648 < z:=by omega
  by_cases h2:2147483648≤z
  ·have h2':¬ z < 2147483648:=by omega
   simp [h1,h1',h2,h2',h0,q0K,o0U,i0p]
   exact hR
  ·have h2':z < 2147483648:=by omega
   simp [h1,h1',h2,h2',h0,q0L,e0l]
/-! few -/
theorem k0L {a b c d:Int} (hf:fl≤H.size) (ha:e0l a) (hb:e0l b) (hc:e0l c) (hd:e0l d) :
  a0P env fl p0j [eV,.int .i64 a,.int .i64 b,.int .i64 c,.int .i64 d] H (fun r H'=>r=.int .i64 (b0T (a * b) (c * d))∧Ext H H') R:=by
 refine a0l V0O hf (h:=?_)
 intro ρ h0
 have m1:=m0b ha hb
 have m2:=m0b hc hd
 simp [I0E,D0L,D0M,h0,eV,m1,m2]
 refine (e0N (by simp)).mono ?_
 rintro _ G ⟨rfl,hx2⟩
 simp
theorem n0S {a:Int} (hf:fl≤H.size) (ha:e0l a) :
  a0P env fl g0S [eV,.int .i64 a] H (fun r H'=>r=.int .i64 (-a)∧Ext H H') R:=by
 refine a0l V0P hf (h:=?_)
 intro ρ h0
 obtain ⟨a1,a2⟩:=ha
 have e1:IntKind.i64.wrap (-a) = -a:=a0L (by omega) (by omega)
 simp [I0F,D0N,D0O,h0,eV,e1]
theorem m0d {a:Int} (hf:fl≤H.size) :
  a0P env fl g0T [eV,.int .i64 a] H (fun r H'=>r=.int .i64 (b0T a 0)∧Ext H H') R:=by
 refine a0l V0R hf (h:=?_)
 intro ρ h0
 simp [I0H,D0V,D0W,h0,eV]
 refine (e0N (by simp)).mono ?_
 rintro _ G ⟨rfl,hx2⟩
 simp
theorem i0G {a:Int} (hf:fl≤H.size) (ha:e0l a) :
  a0P env fl n0Q [eV,.int .i64 a] H (fun r H'=>b0q H' r (a0n a)∧Ext H H') R:=by
 refine a0l V0Q hf (h:=?_)
 intro ρ h0
 obtain ⟨a1,a2⟩:=ha
 simp [I0G,D0S,D0T,h0,eV]
 generalize hG:Array.push (Array.push H _) _=G
 obtain ⟨hx2,_,b0⟩:=push2 hG
 have hx:=Ext.refl H
 clear hG
 replace hx:=hx.trans hx2
 refine (c0i hx.1 (by omega) (by omega)).mono ?_
 rintro _ G2 ⟨⟨s1,rfl,k0⟩,hx2⟩
 replace b0:=hx2.blk b0;replace hx:=hx.trans hx2
 have hz:=a0k b0
 simp [b0,k0.cells,k0.plain]
 generalize hS:Array.setIfInBounds _ _ _=G3
 have hl:Lx G2 G3:=a0V hS b0 (by decide)
 have b1:=a0C hS b0
 simp [b1]
 exact fun _=>⟨s1,rfl,k0.lx hl⟩
theorem j0M {z:Int} (h:b0q H v (a0n z)) (hf:fl≤H.size) (hl:lz z < 1073741824) (hR:R q0T) :
  a0P env fl f0m [eV,v] H (fun r H'=>(r=.int .i64 z∧e0l z)∧Ext H H') R:=by
 refine a0l Q0B hf (h:=?_)
 intro ρ h0
 obtain ⟨s0,rfl,k0⟩:=id h
 simp [F0h,q0E,q0F,h0,eV,k0.cells,k0.plain]
 generalize hG:Array.push (Array.push H _) _=G
 obtain ⟨hx2,_,b0⟩:=push2 hG
 have hx:=Ext.refl H
 clear hG
 replace hx:=hx.trans hx2
 refine (j0W (h.mono hx) hx.1 hl).mono ?_
 rintro _ G2 ⟨rfl,hx2⟩
 replace hx:=hx.trans hx2
 unfold toV
 simp [q0G]
 cases hz:n0V z
 ·simp [D0U,o0U,i0p]
  exact hR
 ·simp [q0H]
  refine (e0v hx.1 hR).mono ?_
  rintro _ G3 ⟨⟨rfl,h1⟩,hx2⟩
  simp [h1]
theorem h0o {a b c d e:Int} (hf:fl≤H.size) (ha:e0l a) (hb:e0l b) (hc:e0l c) (hd:e0l d) (he:e ≠ 0) (hR:R q0T) :
  a0P env fl l0W [eV,.int .i64 a,.int .i64 b,.int .i64 c,.int .i64 d,.int .i64 e] H (fun r H'=>(r=.int .i64 ((a * b - c * d).tdiv e)∧e0l ((a * b - c * d).tdiv e))∧Ext H H') R:=by
 refine a0l V0S hf (h:=?_)
 intro ρ h0
 have m1:=m0b ha hb
 have m2:=m0b hc hd
 have z1:=m0c ha hb
 have z2:=m0c hc hd
 have m3:IntKind.i64.wrap (a * b - c * d)=a * b - c * d:=a0L (by omega) (by omega)
 have m4:IntKind.i64.wrap ((a * b - c * d).tdiv e)=(a * b - c * d).tdiv e:=by
  have:((a * b - c * d).tdiv e).natAbs≤(a * b - c * d).natAbs:=by rw [Int.natAbs_tdiv];exact Nat.div_le_self _ _
  exact a0L (by omega) (by omega)
 simp [I0I,D0X,D0Y,h0,eV,m1,m2,m3,r0i he,m4]
 refine (e0v (by simp) hR).mono ?_
 rintro _ G ⟨⟨rfl,h1⟩,hx2⟩
 simp [h1]
/-! all -/
theorem k0F {a b c d:Int} {va vb vc vd:Value} (ha:b0q H va (a0n a)) (hb:b0q H vb (a0n b)) (hc:b0q H vc (a0n c)) (hd:b0q H vd (a0n d)) (hf:fl≤H.size)
  (la:lz a < 67108864) (lb:lz b < 67108864) (lc:lz c < 67108864) (ld:lz d < 67108864) :
  a0P env fl p0i [eV,va,vb,vc,vd] H (fun r H'=>r=.int .i64 (b0T (a * b) (c * d))∧Ext H H') R:=by
 refine a0l V0H hf (h:=?_)
 intro ρ h0
 obtain ⟨s0,rfl,k0⟩:=id ha
 obtain ⟨s1,rfl,k1⟩:=id hb
 obtain ⟨s2,rfl,k2⟩:=id hc
 obtain ⟨s3,rfl,k3⟩:=id hd
 simp [I0x,D0w,h0,eV,k0.cells,k0.plain,k1.cells,k1.plain,k2.cells,k2.plain,k3.cells,k3.plain]
 generalize hG:Array.push (Array.push (Array.push (Array.push (Array.push H _) _) _) _) _=G
 have hx2:Ext H G:=by rw [← hG];exact (Ext.refl H).push.push.push.push.push
 have b1:a0f.blk G (H.size + 1)=.row false a0c [.bool (a0n a).1,s0]:=by rw [← hG];simp
 have b2:a0f.blk G (H.size + 2)=.row false a0c [.bool (a0n b).1,s1]:=by rw [← hG];simp
 have b3:a0f.blk G (H.size + 3)=.row false a0c [.bool (a0n c).1,s2]:=by rw [← hG];simp
 have b4:a0f.blk G (H.size + 4)=.row false a0c [.bool (a0n d).1,s3]:=by rw [← hG];simp
 have hx:=Ext.refl H
 clear hG
 replace hx:=hx.trans hx2;replace k0:=k0.mono hx2;replace k1:=k1.mono hx2;replace k2:=k2.mono hx2;replace k3:=k3.mono hx2
 refine a0v ?_
 simp [D0x,b1,b2]
 refine (b0j (i:=a0n a) (j:=a0n b) ⟨s0,rfl,k0⟩ ⟨s1,rfl,k1⟩ (by have:=hx.1;omega) (by rw [a0j];omega) (by rw [a0j];omega)).mono ?_
 rintro _ G2 ⟨k4,hx2⟩
 replace b3:=hx2.blk b3;replace b4:=hx2.blk b4;replace hx:=hx.trans hx2;replace k2:=k2.mono hx2;replace k3:=k3.mono hx2
 rw [a0i,a0i] at k4
 simp [b3,b4]
 refine (b0j (i:=a0n c) (j:=a0n d) ⟨s2,rfl,k2⟩ ⟨s3,rfl,k3⟩ (by have:=hx.1;omega) (by rw [a0j];omega) (by rw [a0j];omega)).mono ?_
 rintro _ G3 ⟨k5,hx2⟩
 replace hx:=hx.trans hx2;replace k4:=k4.mono hx2
 rw [a0i,a0i] at k5
 have l1:=c0F a b
 have l2:=c0F c d
 simp
 refine (c0M k4 k5 (by have:=hx.1;omega) (by rw [a0j];omega) (by rw [a0j];omega)).mono ?_
 rintro _ G4 ⟨rfl,hx2⟩
 rw [a0i,a0i]
 simp
theorem n0s {a:Int} (ha:b0q H v (a0n a)) (hf:fl≤H.size) (la:lz a < 67108864) :
  a0P env fl g0Q [eV,v] H (fun r H'=>b0q H' r (a0n (-a))∧Ext H H') R:=by
 refine a0l V0I hf (h:=?_)
 intro ρ h0
 obtain ⟨s0,rfl,k0⟩:=id ha
 simp [I0y,D0y,D0z,h0,eV,k0.cells,k0.plain]
 generalize hG:Array.push (Array.push (Array.push H _) _) _=G
 have hx2:Ext H G:=by rw [← hG];exact (Ext.refl H).push.push.push
 have b2:a0f.blk G (H.size + 2)=.row false a0c [.bool false,.slice none 0 0]:=by rw [← hG];simp
 have hx:=Ext.refl H
 clear hG
 replace hx:=hx.trans hx2
 refine (e0J (ha.mono hx) hx.1 (by rw [a0j];omega)).mono ?_
 rintro _ G2 ⟨⟨s1,rfl,k1⟩,hx2⟩
 replace b2:=hx2.blk b2;replace hx:=hx.trans hx2
 rw [a0i] at k1 ⊢
 have hz:=a0k b2
 simp [b2,k1.cells,k1.plain]
 generalize hS:Array.setIfInBounds _ _ _=G3
 have hl:Lx G2 G3:=a0V hS b2 (by decide)
 have b3:=a0C hS b2
 simp [b3]
 exact fun _=>⟨s1,rfl,k1.lx hl⟩
theorem i0B {a:Int} (ha:b0q H v (a0n a)) (hf:fl≤H.size) :
  a0P env fl n0P [eV,v] H (fun r H'=>b0q H' r (a0n a)∧Ext H H') R:=by
 refine a0l V0J hf (h:=?_)
 intro ρ h0
 obtain ⟨s0,rfl,k0⟩:=id ha
 simp [I0z,D0A,D0B,h0,eV,k0.cells,k0.plain]
 exact fun hx=>ha.mono hx
theorem g0K {a:Int} (ha:b0q H v (a0n a)) (hf:fl≤H.size) :
  a0P env fl f0G [eV,v] H (fun r H'=>b0q H' r (a0n a)∧Ext H H') R:=by
 refine a0l V0K hf (h:=?_)
 intro ρ h0
 obtain ⟨s0,rfl,k0⟩:=id ha
 simp [I0A,D0C,D0D,h0,eV,k0.cells,k0.plain]
 exact fun hx=>ha.mono hx
theorem l0H {a:Int} (ha:b0q H v (a0n a)) (hf:fl≤H.size) (la:lz a < 67108864) :
  a0P env fl g0R [eV,v] H (fun r H'=>r=.int .i64 (b0T a 0)∧Ext H H') R:=by
 refine a0l V0L hf (h:=?_)
 intro ρ h0
 obtain ⟨s0,rfl,k0⟩:=id ha
 simp [I0B,D0E,D0F,h0,eV,k0.cells,k0.plain]
 generalize hG:Array.push (Array.push H _) _=G
 obtain ⟨hx2,_,b0⟩:=push2 hG
 have hx:=Ext.refl H
 clear hG
 replace hx:=hx.trans hx2
 have hv0:a0O (false,[])=0:=by unfold a0O j0T;simp [a0D]
 refine (c0M (j:=(false,[])) (ha.mono hx) ⟨_,rfl,Lim.nil⟩ hx.1 (by rw [a0j];omega) (by simp)).mono ?_
 rintro _ G2 ⟨rfl,hx2⟩
 rw [hv0,a0i]
 simp
theorem h0j {a b c d e:Int} {va vb vc vd ve:Value} (ha:b0q H va (a0n a)) (hb:b0q H vb (a0n b)) (hc:b0q H vc (a0n c)) (hd:b0q H vd (a0n d)) (he:b0q H ve (a0n e)) (hf:fl≤H.size)
  (la:lz a < 67108864) (lb:lz b < 67108864) (lc:lz c < 67108864) (ld:lz d < 67108864) (le:lz e < 67108864) (he0:e ≠ 0) :
  a0P env fl l0V [eV,va,vb,vc,vd,ve] H (fun r H'=>b0q H' r (a0n ((a * b - c * d).tdiv e))∧Ext H H') R:=by
 refine a0l V0M hf (h:=?_)
 intro ρ h0
 obtain ⟨s0,rfl,k0⟩:=id ha
 obtain ⟨s1,rfl,k1⟩:=id hb
 obtain ⟨s2,rfl,k2⟩:=id hc
 obtain ⟨s3,rfl,k3⟩:=id hd
 obtain ⟨s4,rfl,k4⟩:=id he
 simp [I0C,D0G,h0,eV,k0.cells,k0.plain,k1.cells,k1.plain,k2.cells,k2.plain,k3.cells,k3.plain,k4.cells,k4.plain]
 generalize hG:Array.push (Array.push (Array.push (Array.push (Array.push (Array.push (Array.push H _) _) _) _) _) _) _=G
 have hx2:Ext H G:=by rw [← hG];exact (Ext.refl H).push.push.push.push.push.push.push
 have b1:a0f.blk G (H.size + 1)=.row false a0c [.bool (a0n a).1,s0]:=by rw [← hG];simp
 have b2:a0f.blk G (H.size + 2)=.row false a0c [.bool (a0n b).1,s1]:=by rw [← hG];simp
 have b3:a0f.blk G (H.size + 3)=.row false a0c [.bool (a0n c).1,s2]:=by rw [← hG];simp
 have b4:a0f.blk G (H.size + 4)=.row false a0c [.bool (a0n d).1,s3]:=by rw [← hG];simp
 have b5:a0f.blk G (H.size + 5)=.row false a0c [.bool (a0n e).1,s4]:=by rw [← hG];simp
 have b6:a0f.blk G (H.size + 6)=.row false a0c [.bool false,.slice none 0 0]:=by rw [← hG];simp
 have hx:=Ext.refl H
 clear hG
 replace hx:=hx.trans hx2;replace k0:=k0.mono hx2;replace k1:=k1.mono hx2;replace k2:=k2.mono hx2;replace k3:=k3.mono hx2;replace k4:=k4.mono hx2
 refine a0v ?_
 simp [D0H,b1,b2]
 refine (b0j (i:=a0n a) (j:=a0n b) ⟨s0,rfl,k0⟩ ⟨s1,rfl,k1⟩ (by have:=hx.1;omega) (by rw [a0j];omega) (by rw [a0j];omega)).mono ?_
 rintro _ G2 ⟨k5,hx2⟩
 replace b3:=hx2.blk b3;replace b4:=hx2.blk b4;replace b5:=hx2.blk b5;replace b6:=hx2.blk b6;replace hx:=hx.trans hx2;replace k2:=k2.mono hx2;replace k3:=k3.mono hx2;replace k4:=k4.mono hx2
 rw [a0i,a0i] at k5
 simp [b3,b4]
 refine (b0j (i:=a0n c) (j:=a0n d) ⟨s2,rfl,k2⟩ ⟨s3,rfl,k3⟩ (by have:=hx.1;omega) (by rw [a0j];omega) (by rw [a0j];omega)).mono ?_
 rintro _ G3 ⟨k6,hx2⟩
 replace b5:=hx2.blk b5;replace b6:=hx2.blk b6;replace hx:=hx.trans hx2;replace k4:=k4.mono hx2;replace k5:=k5.mono hx2
 rw [a0i,a0i] at k6
 have l1:=c0F a b
 have l2:=c0F c d
 simp
 refine (o0k k5 k6 (by have:=hx.1;omega) (by rw [a0j];omega) (by rw [a0j];omega)).mono ?_
 rintro _ G4 ⟨k7,hx2⟩
 replace b5:=hx2.blk b5;replace b6:=hx2.blk b6;replace hx:=hx.trans hx2;replace k4:=k4.mono hx2;replace k5:=k5.mono hx2;replace k6:=k6.mono hx2
 rw [a0i,a0i] at k7
 have l3:=R0f (a * b) (c * d)
 simp [b5]
 refine (b0S (j:=a0n e) k7 ⟨s4,rfl,k4⟩ (by have:=hx.1;omega) (by rw [a0j];omega) (by rw [a0j];omega) (by rw [a0i];exact he0)).mono ?_
 rintro _ G4 ⟨⟨_,_,rfl,⟨s5,rfl,k5⟩,⟨s6,rfl,k6⟩⟩,hx2⟩
 replace b6:=hx2.blk b6;replace hx:=hx.trans hx2
 rw [a0i,a0i] at k5 k6 ⊢
 have hsz:=hx.1
 have hsz1:H.size≤G4.size + 1:=by omega
 simp [k5.cells,k5.plain,k6.cells,k6.plain,hsz,hsz1]
 generalize hN:Array.setIfInBounds (Array.setIfInBounds (Array.push (Array.push _ _) _) _ _) _ _=G5
 obtain ⟨hx2,b7,_⟩:=N0A hN
 clear hN
 replace b6:=hx2.blk b6;replace hx:=hx.trans hx2;replace k5:=k5.mono hx2
 have hz:=a0k b6
 simp [D0I,b7,b6,k5.cells,k5.plain]
 generalize hS:Array.setIfInBounds _ _ _=G6
 have hl:Lx G5 G6:=a0V hS b6 (by decide)
 have b8:=a0C hS b6
 simp [b8]
 exact fun _=>⟨s5,rfl,k5.lx hl⟩
end
/- simplex.scale. -/
section
open Go
set_option maxHeartbeats 4000000
variable {fl:Nat} {H G:a0f} {R:a0A} {v w u:Value}
theorem t0Q.lx2 {l:List Int} (h:Sls PI H a0c 2 v l) (h1:LxT a0c H G) (h2:Lx H G):Sls PI G a0c 2 v l:=by
 obtain ⟨cs,⟨hl,hs⟩,hp⟩:=h
 refine ⟨cs,⟨hl,?_⟩,fun k hk=>b0q.lx (hp k hk) h2⟩
 rcases hs with hs | ⟨b,off,cap,ro,cells,rfl,hb,ho,hcs⟩
 ·exact .inl hs
 ·exact .inr ⟨b,off,cap,ro,cells,rfl,h1 _ _ _ hb,ho,hcs⟩
structure ScT where
 n:Int
 A:List (List Int)
 bs:List Rat
 C:List Int
 cb:Rat
def PIs (H:a0f) (cs:List Value) (l:List Int):Prop:=∃ w,cs=[w]∧Sls PI H a0c 2 w l
theorem j0U:i0Q PIs:=fun _ _ _ _ hx ⟨v,h1,h2⟩=>⟨v,h1,h2.mono c0f hx⟩
def SV (H:a0f) (v:Value) (p:ScT):Prop:=∃ sA sB sC s1 s2,v=.agg #[.int .i64 p.n,sA,sB,sC,.bool (a0e p.cb).1.1,s1,.bool (a0e p.cb).2.1,s2] ∧
 Sls PIs H a0Q 1 sA p.A∧b0l H sB (p.bs.map a0e)∧Sls PI H a0c 2 sC p.C∧Lim H s1 (a0e p.cb).1.2∧Lim H s2 (a0e p.cb).2.2
theorem Whole.mono {xs:List Rat} {zs:List Int} {b:Rat} {K K':Nat} (h:Whole xs zs b K) (hK:K≤K'):Whole xs zs b K' :=
 ⟨h.len,h.pos,h.eq,fun z hz=>Nat.le_trans (h.szz z hz) hK,Nat.le_trans h.szb hK⟩
def i0v (p:LPt) (k:Nat):List Rat:=(p.A.getD k []).map b0O ++ [b0O (p.B.getD k e0B)]
def P0P (H:a0f) (P:Nat) (p:LPt) (sA0 sB0 sC0:Value) (K:Nat) (i:Nat) (ρ:Nat→Value) (G:a0f):Prop :=
 ρ 12=sA0∧ρ 1=.pointer (some ⟨H.size,0,none⟩)∧ρ 2=.pointer (some ⟨H.size + 1,0,none⟩)∧ρ 3=.pointer (some ⟨P,0,none⟩)∧Ext H G ∧
  a0f.blk G H.size=.row false b0z [.int .i64 p.n,sA0,sB0,sC0] ∧
  a0f.blk G (H.size + 1)=.row false a0q [.int .i64 0,.slice none 0 0,.slice none 0 0,.slice none 0 0,.bool false,.slice none 0 0,.bool false,.slice none 0 0] ∧
  ∃ (sA sB:Value) (L:List (List Int)) (bs:List Rat),a0f.blk G P=.row false a0q [.int .i64 p.n,sA,sB,.slice none 0 0,.bool false,.slice none 0 0,.bool false,.slice none 0 0] ∧
   a0Z PIs H.size G a0Q 1 sA L∧a0Z PR H.size G a0d 4 sB (bs.map a0e)∧L.length=i∧bs.length=i ∧
   ∀ k,k < i→Whole (i0v p k) (L.getD k []) (bs.getD k 0) K
theorem h0N {S N K:Nat} {p:LPt} (h:LPV H v p) (hf:fl≤H.size) (hA:∀ r ∈ p.A,Few S r∧r.length≤N) (hB:Few S p.B) (hBl:p.B.length=p.A.length) (hC:Few S p.C) (hCl:p.C.length≤N) (hAl:p.A.length < 67108864)
  (hS:1≤S) (hK:K=(N + 3) * (S + 1)) (hK2:K < 67108864) :
  a0P env fl v0T [v] H (fun r H'=>(∃ q:ScT,SV H' r q∧q.n=p.n∧q.A.length=p.A.length∧q.bs.length=p.A.length∧(∀ k,k < p.A.length→Whole (i0v p k) (q.A.getD k []) (q.bs.getD k 0) K)∧Whole (p.C.map b0O) q.C q.cb K)∧Ext H H') R:=by
 obtain ⟨sA0,sB0,sC0,rfl,kA,kB,kC⟩:=h
 refine a0l U0C hf (h:=?_)
 intro ρ h0
 simp [H0s,x0D,h0,kA.cells,kB.cells,kC.cells]
 generalize hG:Array.push (Array.push H _) _=G
 obtain ⟨hx2,b0,b1⟩:=push2 hG
 have hx:=Ext.refl H
 clear hG
 replace hx:=hx.trans hx2
 have hsz:=hx.1
 have hb1l:=a0k b1
 simp [x0E,b0,hsz]
 generalize hN:Array.setIfInBounds (Array.push _ _) _ _=G3
 obtain ⟨hx2,b2⟩:=new1 hN
 clear hN
 replace b0:=hx2.blk b0;replace b1:=hx2.blk b1;replace hx:=hx.trans hx2
 obtain ⟨P,hP⟩:∃ P,P=G.size:=⟨_,rfl⟩
 rw [← hP] at b2 hsz hb1l ⊢
 have hPne:P ≠ H.size:=by omega
 have hPne1:P ≠ H.size + 1:=by omega
 have hNS:S < K:=by rw [hK];have:1 * (S + 1)≤(N + 3) * (S + 1):=Nat.mul_le_mul_right _ (by omega);omega
 have hNK:N + 3≤K:=by rw [hK];have:(N + 3) * 1≤(N + 3) * (S + 1):=Nat.mul_le_mul_left _ (by omega);omega
 simp [x0F,b0,kA.slen]
 refine c0h (n:=p.A.length) (P0P H P p sA0 sB0 sC0 K) rfl rfl (by decide) (by omega) (by simp) (by simp) ?_ ?_ ?_ ?_
 ·exact ⟨by simp,by simp,by simp,by simp,hx,b0,b1,_,_,[],[],b2,a0Z.nil,a0Z.nil,rfl,rfl,fun k hk=>by omega⟩
 ·intro i ρ ρ' G h hI;simpa [P0P,h] using hI
 ·clear h0 ρ hx b0 b1 b2 hx2
  rintro i ρ G hi gi gn ⟨g12,g1,g2,g3,hx,b0,b1,sA,sB,L,bs,b2,oA,oB,hL,hbs,hW⟩
  have kA':=kA.mono c0G hx
  have kB':=kB.mono a0z hx
  obtain ⟨wr,hlr,kr⟩:=f0K.load kA' hi
  simp [x0G,g12,gi,kA'.ia hi,hlr]
  refine c0g ?_
  simp [x0H]
  have hAi:=hA _ (List.getElem_mem hi)
  refine (e0O kr (by have:=hx.1;omega) hAi.1 (by omega) (by omega)).mono ?_
  rintro r G2 ⟨kw,hxa⟩
  have b0':=hxa.blk b0
  have kB2:=kB'.mono a0z hxa
  have hiB:i < p.B.length:=by omega
  have hBi:=hB _ (List.getElem_mem hiB)
  obtain ⟨we,hle,k0⟩:=b0l.load kB2 hiB
  obtain ⟨s1,s2,rfl,k1,k2⟩:=id k0
  simp [g1,b0',kB2.ia hiB,hle]
  have hHG:=hx.1
  have hGG2:=hxa.1
  refine (b0K (a:=p.B[i]) k0 (b:=e0B) e0t (by omega) (by omega) (by decide)).mono ?_
  rintro _ G3 ⟨⟨s3,s4,rfl,k3,k4⟩,hxb⟩
  replace kw:=kw.mono a0z hxb
  rw [e0c,Rat.add_zero] at k3 k4 ⊢
  have hown:(i0T p.A[i]).length=p.A[i].length:=by unfold i0T;simp
  obtain ⟨r',G4,h1,h2,h3,h4⟩:=a0Z.app (P:=PR) (sz:=4) (e:=a0d) (by decide) (fun G' cs x _ hl h=>b0X.lx h hl) (kw.low (show H.size≤G.size from hHG)) (e2:=a0d) (c:=1) (bytes:=64) (new:=[.bool (a0e (b0O p.B[i])).1.1,s3,.bool (a0e (b0O p.B[i])).2.1,s4]) (x:=a0e (b0O p.B[i])) ⟨s3,s4,rfl,k3,k4⟩ rfl (by simp [k3.plain,k4.plain]) (by omega) (by omega) (by omega) (by have:=hxb.1;omega)
  have hxG:Ext G G4:=by
   have hh:=hxa.trans hxb
   exact ⟨Nat.le_trans hh.1 h3.1,fun b hb=>(h3.2 b (Nat.lt_of_lt_of_le hb hh.1) (fun h=>by have:=(kw.ge h).1;omega)).trans (hh.2 b hb)⟩
  simp [h1,k3.cells,k4.cells]
  have hrow:i0T p.A[i] ++ [a0e (b0O p.B[i])]=(i0v p i).map a0e:=by
   unfold i0v i0T
   rw [List.getD_eq_getElem?_getD,List.getD_eq_getElem?_getD,List.getElem?_eq_getElem hi,List.getElem?_eq_getElem hiB];simp
  rw [hrow] at h2
  have hrl:(i0v p i).length=p.A[i].length + 1:=by rw [← hown];have:=congrArg List.length hrow;simpa using this.symm
  have hrS:∀ x ∈ i0v p i,szR x≤S:=by
   intro x hx
   unfold i0v at hx
   rw [List.getD_eq_getElem?_getD,List.getD_eq_getElem?_getD,List.getElem?_eq_getElem hi,List.getElem?_eq_getElem hiB] at hx
   simp only [Option.getD_some,List.mem_append,List.mem_map,List.mem_singleton] at hx
   rcases hx with ⟨y,hy,rfl⟩ | rfl
   ·obtain ⟨l1,l2,l3⟩:=hAi.1 _ hy
    have:=b0U l2 l3;omega
   ·obtain ⟨l1,l2,l3⟩:=hBi
    have:=b0U l2 l3;omega
  have hrK:((i0v p i).length + 2) * (S + 1)≤K:=by rw [hK];exact Nat.mul_le_mul_right _ (by omega)
  refine (f0C h2.sls (by have:=hxG.1;omega) hrS (by omega)).mono ?_
  rintro _ G5 ⟨⟨q1,_,by',zs,rfl,hWi,hq,⟨s5,s6,rfl,k5,k6⟩⟩,hxc⟩
  have hxd:=hxG.trans hxc
  have hsz5:H.size≤G5.size:=by have:=hxd.1;omega
  simp [k5.cells,k6.cells,k5.plain,k6.plain,hsz5]
  generalize hN:Array.setIfInBounds (Array.push _ _) _ _=G6
  obtain ⟨hxe,b3⟩:=new1 hN
  clear hN
  replace k5:=k5.mono hxe
  replace k6:=k6.mono hxe
  replace hq:=hq.mono c0f hxe
  have hx2:Ext G G6:=hxd.trans hxe
  replace b0:=hx2.blk b0;replace b1:=hx2.blk b1;replace b2:=hx2.blk b2;replace hx:=hx.trans hx2
  replace kA':=kA'.mono c0G hx2
  replace kB':=kB'.mono a0z hx2
  replace oA:=oA.mono j0U hx2
  replace oB:=oB.mono a0z hx2
  obtain ⟨Q,hQ⟩:∃ Q,Q=G5.size:=⟨_,rfl⟩
  rw [← hQ] at b3 ⊢
  refine c0g ?_
  obtain ⟨cq,pq⟩:=hq.cells
  obtain ⟨sA',G7,h1,h2,h3,h4⟩:=a0Z.app (P:=PIs) (sz:=1) (e:=a0Q) (by decide)
    (fun G' cs x hxb hl ⟨w',q1,q2⟩=>⟨w',q1,t0Q.lx2 q2 (oA.lxT (by decide) hxb) hl⟩) oA (e2:=a0Q) (c:=1) (bytes:=24) (new:=[q1]) (x:=zs) ⟨q1,rfl,hq.sls⟩ rfl (by simp [pq]) (by omega) (by omega) (by omega) hx.1
  obtain ⟨_,_,hAe⟩:=d0W (by decide) h1
  have hlx:=oA.lx (by decide) h3
  have nA0:=oA.ne b0 (by decide)
  have nA1:=oA.ne b1 (by decide)
  have nA2:=oA.ne b2 (by decide)
  have nA3:=oA.ne b3 (by decide)
  have hAo:=oA.blkOf
  simp [x0I,g3,b2,cq,h1]
  replace b0:=(h3.2 _ (a0k b0) nA0).trans b0
  replace b1:=(h3.2 _ (a0k b1) nA1).trans b1
  replace b2:=(h3.2 _ (a0k b2) nA2).trans b2
  replace b3:=(h3.2 _ (a0k b3) nA3).trans b3
  replace hx:=h4 _ (Nat.le_refl _) hx
  replace k5:=k5.lx hlx
  replace k6:=k6.lx hlx
  replace oB:=oB.lxm (Q':=PR) (oA.lxT (by decide) h3) (fun cs x h=>b0X.lx h hlx)
  simp [b2,b3]
  have hbl:(bs.map a0e).length=i:=by simp [hbs]
  obtain ⟨sB',G8,p1,p2,p3,p4⟩:=a0Z.app (P:=PR) (sz:=4) (e:=a0d) (by decide) (fun G' cs x _ hl h=>b0X.lx h hl) oB (e2:=a0d) (c:=1) (bytes:=64) (new:=[.bool (a0e by').1.1,s5,.bool (a0e by').2.1,s6]) (x:=a0e by') ⟨s5,s6,rfl,k5,k6⟩ rfl (by simp [k5.plain,k6.plain]) (by omega) (by omega) (by omega) hx.1
  have hly:=oB.lx (by decide) p3
  have nB0:=oB.ne b0 (by decide)
  have nB1:=oB.ne b1 (by decide)
  have nB2:=oB.ne b2 (by decide)
  replace h2:=h2.lxm (Q':=PIs) (oB.lxT (by decide) p3) (fun cs x ⟨w',q1,q2⟩=>⟨w',q1,t0Q.lx2 q2 (oB.lxT (by decide) p3) hly⟩)
  replace b0:=(p3.2 _ (a0k b0) nB0).trans b0
  replace b1:=(p3.2 _ (a0k b1) nB1).trans b1
  replace b2:=(p3.2 _ (a0k b2) nB2).trans b2
  replace hx:=p4 _ (Nat.le_refl _) hx
  obtain ⟨cA,pA⟩:=h2.cells
  obtain ⟨cB,pB⟩:=p2.cells
  have hz:=a0k b2
  simp [p1,b2,cA,pA,cB,pB,hsz,hz]
  generalize hS1:Array.setIfInBounds _ _ _=G9
  have t1:∀ {e:Nat},a0q ≠ e→LxT e G8 G9:=fun hne=>a0V hS1 b2 hne
  have hbo:∀ x,x ∈ blkW sA→slB sA=some x:=by
   rcases hAo with h | ⟨b,h,h'⟩
   ·rw [h];simp
   ·rw [h,h'];simp
  refine ⟨⟨fun x hx h=>nA2 (by rw [hbo x hx,h]),fun x hx h=>nA3 (by rw [hbo x hx,h])⟩,Rnd.mk (by simp [gi]) (by simp [gn]) ⟨by simp [g12],by simp [g1],by simp [g2],by simp [g3],b0x hS1 hx hsz,a0F hS1 b0 hPne,a0F hS1 b1 hPne1,sA',sB',L ++ [zs],bs ++ [by'],a0C hS1 b2,?_,?_,by simp [hL],by simp [hbs],fun k hk=>?_⟩⟩
  ·exact h2.lxm (t1 (by decide)) (fun cs x ⟨w',q1,q2⟩=>⟨w',q1,t0Q.lx2 q2 (t1 (by decide)) (t1 (by decide))⟩)
  ·rw [List.map_append];exact p2.lxm (t1 (by decide)) (fun cs x h=>b0X.lx h (t1 (by decide)))
  ·by_cases hki:k=i
   ·have e1:(L ++ [zs]).getD k []=zs:=by rw [hki,← hL];simp [List.getD_eq_getElem?_getD]
    have e2:(bs ++ [by']).getD k 0=by':=by rw [hki,← hbs];simp [List.getD_eq_getElem?_getD]
    rw [e1,e2,hki];exact hWi.mono hrK
   ·have e1:(L ++ [zs]).getD k []=L.getD k []:=by rw [List.getD_eq_getElem?_getD,List.getElem?_append_left (by omega),List.getD_eq_getElem?_getD]
    have e2:(bs ++ [by']).getD k 0=bs.getD k 0:=by rw [List.getD_eq_getElem?_getD,List.getElem?_append_left (by omega),List.getD_eq_getElem?_getD]
    rw [e1,e2];exact hW k (by omega)
 ·clear h0 ρ hx b0 b1 b2 hx2
  rintro ρ G gi gn ⟨g12,g1,g2,g3,hx,b0,b1,sA,sB,L,bs,b2,oA,oB,hL,hbs,hW⟩
  have kC':=kC.mono a0z hx
  simp [x0J,g1,b0]
  refine (e0O kC' hx.1 hC (by omega) (by omega)).mono ?_
  rintro r G2 ⟨kw,hxa⟩
  have hcs:i0T p.C=(p.C.map b0O).map a0e:=by unfold i0T;simp
  rw [hcs] at kw
  have hrS:∀ x ∈ p.C.map b0O,szR x≤S:=by
   intro x hx
   simp only [List.mem_map] at hx
   obtain ⟨y,hy,rfl⟩:=hx
   obtain ⟨l1,l2,l3⟩:=hC _ hy
   have:=b0U l2 l3;omega
  have hrK:((p.C.map b0O).length + 2) * (S + 1)≤K:=by rw [hK,List.length_map];exact Nat.mul_le_mul_right _ (by omega)
  simp
  refine (f0C kw.sls (by have:=hxa.1;have:=hx.1;omega) hrS (by omega)).mono ?_
  rintro _ G5 ⟨⟨q1,_,by',zs,rfl,hWi,hq,⟨s5,s6,rfl,k5,k6⟩⟩,hxc⟩
  have hx2:Ext G G5:=hxa.trans hxc
  replace b1:=hx2.blk b1;replace b2:=hx2.blk b2;replace hx:=hx.trans hx2
  replace oA:=oA.mono j0U hx2
  replace oB:=oB.mono a0z hx2
  obtain ⟨cq,pq⟩:=hq.cells
  obtain ⟨cA,pA⟩:=oA.cells
  obtain ⟨cB,pB⟩:=oB.cells
  have hz1:=a0k b1
  have hz2:=a0k b2
  simp [g3,g2,b2,cq,pq,k5.cells,k5.plain,k6.cells,k6.plain,hsz]
  generalize hS1:Array.setIfInBounds _ _ _=G6
  have t1:∀ {e:Nat},a0q ≠ e→LxT e G5 G6:=fun hne=>a0V hS1 b2 hne
  replace b1:=a0F hS1 b1 hPne1
  replace b2:=a0C hS1 b2
  replace hx:=b0x hS1 hx hsz
  have hz3:=a0k b2
  simp [b2,hsz]
  generalize hS2:Array.setIfInBounds _ _ _=G7
  have t2:∀ {e:Nat},a0q ≠ e→LxT e G6 G7:=fun hne=>a0V hS2 b2 hne
  replace b1:=a0F hS2 b1 hPne1
  replace b2:=a0C hS2 b2
  have hz4:=a0k b1
  simp [x0K,g2,g3,b1,b2,cA,pA,cB,pB,cq,pq,k5.cells,k5.plain,k6.cells,k6.plain]
  generalize hS3:Array.setIfInBounds _ _ _=G8
  have t3:∀ {e:Nat},a0q ≠ e→LxT e G7 G8:=fun hne=>a0V hS3 b1 hne
  have t:∀ {e:Nat},a0q ≠ e→LxT e G5 G8:=fun hne b ro cs hb=>t3 hne _ _ _ (t2 hne _ _ _ (t1 hne _ _ _ hb))
  replace b1:=a0C hS3 b1
  simp [b1]
  refine fun _=>⟨⟨p.n,L,bs,zs,by'⟩,⟨sA,sB,q1,s5,s6,rfl,?_,?_,?_,k5.lx (t (by decide)),k6.lx (t (by decide))⟩,rfl,hL,hbs,fun k hk=>?_,hWi.mono hrK⟩
  ·exact (oA.lxm (Q':=PIs) (t (by decide)) (fun cs x ⟨w',q1,q2⟩=>⟨w',q1,t0Q.lx2 q2 (t (by decide)) (t (by decide))⟩)).sls
  ·exact b0l.lx2 oB.sls (t (by decide)) (t (by decide))
  ·exact t0Q.lx2 hq.sls (t (by decide)) (t (by decide))
  ·have:=hW k hk
   rwa [List.getD_eq_getElem?_getD,List.getD_eq_getElem?_getD] at this
end
/- Drawn regions in which a call may panic; methods behind an interface. -/
section
open Go
set_option maxHeartbeats 4000000
variable {E:Env} {fl:Nat} {t:a0W} {H:a0f} {Q:d0V} {R:a0A}
def WRP (E:Env) (fl:Nat) (bef:List Nat) (pairs:List (Nat × Nat)) (Z:a0W→a0f→Prop) (R:a0A):Nat→List a0G→a0W→a0f→Option (Nat × Value)→Log→Prop
 | _,[],t,H,p,lg=>c0E lg.reverse pairs=true∧(match p with | none=>Z t H | some (_,v)=>R v)
 | i,o :: r,t,H,p,lg=>if f0V bef i p=true then WRP E fl bef pairs Z R (i + 1) r t H p (([],[]) :: lg) else
  if a0X t o.g then WS E fl t H o.op (fun v H'=>WRP E fl bef pairs Z R (i + 1) r (put t o.dst v) H' p (c0Q t o.op :: lg)) (fun v=>p=none∧WRP E fl bef pairs Z R (i + 1) r t H (some (i,v)) (([],[]) :: lg))
  else WRP E fl bef pairs Z R (i + 1) r (put t o.dst undef) H p (([],[]) :: lg)
theorem h0i (bef:List Nat) (pairs:List (Nat × Nat)) {Z:a0W→a0f→Prop}:∀ (ops:List a0G) (i:Nat) (t:a0W) (H:a0f) (p:Option (Nat × Value)) (log:Log),
  WRP E fl bef pairs Z R i ops t H p log→∃ n,i0q (fun e t H=>e=.normal∧Z t H) R (b0P (b0e E n) fl bef pairs i ops t H p log)
 | [],i,t,H,p,log,h=>by
  refine ⟨0,?_⟩
  simp only [b0P];rw [if_pos h.1]
  cases p with
  | none=>exact ⟨rfl,h.2⟩
  | some q=>exact h.2
 | o :: r,i,t,H,p,log,h=>by
  simp only [WRP] at h
  split at h
  ·rename_i hh
   obtain ⟨n,hn⟩:=h0i bef pairs r (i + 1) _ _ _ _ h
   exact ⟨n,by simp only [b0P];rw [if_pos hh];exact hn⟩
  ·rename_i hh
   split at h
   ·rename_i hw
    obtain ⟨n,hn⟩:=v0z h
    have key:∀ (m:Nat) (t2:a0W) (H2:a0f) (p2:Option (Nat × Value)) (lg2:Log),i0q (fun e t H=>e=.normal∧Z t H) R (b0P (b0e E m) fl bef pairs (i + 1) r t2 H2 p2 lg2) →
      b0P (b0e E (max n m)) fl bef pairs (i + 1) r t2 H2 p2 lg2=b0P (b0e E m) fl bef pairs (i + 1) r t2 H2 p2 lg2:=fun m t2 H2 p2 lg2 hm =>
     c0S (a0E E m (max n m) (by omega)) (Nat.le_refl fl) bef pairs r (i + 1) t2 H2 p2 lg2 (by intro hb;rw [hb] at hm;exact hm)
    have h1:∀ m,b0w (b0e E n) fl t H o.op ≠ .bad→b0w (b0e E (max n m)) fl t H o.op=b0w (b0e E n) fl t H o.op:=fun m hb=>f0f (a0E E n (max n m) (by omega)) (Nat.le_refl fl) (t:=t) (H:=H) (so:=o.op) hb
    cases hs:b0w (b0e E n) fl t H o.op with
    | bad=>rw [hs] at hn;exact absurd hn id
    | pan v =>
     rw [hs] at hn
     obtain ⟨rfl,hn⟩:=hn
     obtain ⟨m,hm⟩:=h0i bef pairs r (i + 1) _ _ _ _ hn
     refine ⟨max n m,?_⟩
     simp only [b0P]
     rw [if_neg hh,if_pos hw,h1 m (by rw [hs];simp),hs]
     simp only []
     rw [key m _ _ _ _ hm];exact hm
    | ok rr =>
     obtain ⟨v,H'⟩:=rr
     rw [hs] at hn
     obtain ⟨m,hm⟩:=h0i bef pairs r (i + 1) _ _ _ _ hn
     refine ⟨max n m,?_⟩
     simp only [b0P]
     rw [if_neg hh,if_pos hw,h1 m (by rw [hs];simp),hs]
     simp only []
     rw [key m _ _ _ _ hm];exact hm
   ·rename_i hw
    obtain ⟨m,hm⟩:=h0i bef pairs r (i + 1) _ _ _ _ h
    exact ⟨m,by simp only [b0P];rw [if_neg hh,if_neg hw];exact hm⟩
theorem g0J {ops:List a0G} {bef:List Nat} {pairs:List (Nat × Nat)} (h:WRP E fl bef pairs (fun t H=>Q .normal t H) R 0 ops t H none []):W E fl (.draw ops bef pairs) t H Q R:=by
 obtain ⟨n,hn⟩:=h0i bef pairs ops 0 t H none [] h
 refine ⟨n + 1,?_⟩
 have h2:=c0S (a0E E n (n+1) (by omega)) (Nat.le_refl fl) bef pairs ops 0 t H none [] (by intro hb;rw [hb] at hn;exact hn)
 simp only [a0U,h2]
 cases hd:b0P (b0e E n) fl bef pairs 0 ops t H none [] with
 | bad=>rw [hd] at hn;exact hn
 | pan v=>rw [hd] at hn;exact hn
 | fin e t' H'=>rw [hd] at hn;obtain ⟨rfl,hn⟩:=hn;exact hn
section
variable {bef:List Nat} {pairs:List (Nat × Nat)} {Z:a0W→a0f→Prop} {lg lg2:Log} {d:Option Nat} {op:SOp} {r:List a0G} {i j:Nat} {v:Value} {x:Opd} {K:k0E}
@[simp ↓] theorem T0H:WRP E fl bef pairs Z R i [] t H none lg=(c0E lg.reverse pairs=true∧Z t H):=nr rfl
@[simp ↓] theorem S0r:WRP E fl bef pairs Z R i [] t H (some (j,v)) lg=(c0E lg.reverse pairs=true∧R v):=nr rfl
@[simp ↓] theorem S0q:WRP E fl bef pairs Z R i (⟨d,none,op⟩ :: r) t H none lg =
  WS E fl t H op (fun v H'=>WRP E fl bef pairs Z R (i + 1) r (put t d v) H' none (c0Q t op :: lg)) (fun v=>WRP E fl bef pairs Z R (i + 1) r t H (some (i,v)) (([],[]) :: lg)):=by
 simp [WRP,a0X,f0V]
@[simp ↓] theorem P0S:WRP E fl bef pairs Z R i (⟨d,none,op⟩ :: r) t H (some (j,v)) lg =
  if (bef.getD i 0).testBit j=true then WRP E fl bef pairs Z R (i + 1) r t H (some (j,v)) (([],[]) :: lg) else
  WS E fl t H op (fun w H'=>WRP E fl bef pairs Z R (i + 1) r (put t d w) H' (some (j,v)) (c0Q t op :: lg)) (fun _=>False):=by
 simp [WRP,a0X,f0V]
theorem v0v {t':a0W} {ops:List a0G} {p:Option (Nat × Value)} (h:t=t'):WRP E fl bef pairs Z R i ops t H p lg=WRP E fl bef pairs Z R i ops t' H p lg:=by rw [h]
attribute [congr] v0v
def M0H (E:Env) (fl fl':Nat) (bef:List Nat) (pairs:List (Nat × Nat)) (Z:a0W→a0f→Prop) (R:a0A) (i j:Nat) (f:FuncId) (args:List Value) (H:a0f) (d:Option Nat) (r:List a0G) (t:a0W) (lg lg2:Log):Prop :=
 a0P E fl' f args H (fun v H'=>WRP E fl bef pairs Z R j r (put t d v) H' none lg) (fun v=>WRP E fl bef pairs Z R j r t H (some (i,v)) lg2)
@[simp ↓ high] theorem S0u {f:FuncId} {al:List Opd} {lone:Bool} :
  WS E fl t H (.call f al lone) (fun v H'=>WRP E fl bef pairs Z R j r (put t d v) H' none lg) (fun v=>WRP E fl bef pairs Z R j r t H (some (i,v)) lg2) =
   M0H E fl (if lone then fl else max fl H.size) bef pairs Z R i j f (al.map (ev t)) H d r t lg lg2:=nr rfl
theorem o0R {fl' fl2:Nat} {f:FuncId} {al al':List Value} {t':a0W} (h:al=al') (ht:t=t') (hf:fl' = fl2) :
  M0H E fl fl' bef pairs Z R i j f al H d r t lg lg2=M0H E fl fl2 bef pairs Z R i j f al' H d r t' lg lg2:=by rw [h,ht,hf]
attribute [congr] o0R
def V0Y (tbl:List (TypeId × FuncId)):Value→Option (FuncId × Value)
 | .iface ty v=>match tbl.lookup ty with | some f=>some (f,v) | none=>none
 | _=>none
@[simp] theorem P0C {ty:TypeId} {tbl:List (TypeId × FuncId)}:V0Y tbl (.iface ty v)=match tbl.lookup ty with | some f=>some (f,v) | none=>none:=nr rfl
@[simp ↓] theorem W0j {tbl:List (TypeId × FuncId)} {al:List Opd} {lone:Bool}:WS E fl t H (.inv x tbl al lone) K R=oo (V0Y tbl (ev t x)) fun q=>WS E fl t H (.call q.1 (.const q.2 :: al) lone) K R:=by
 simp only [WS,opA];generalize ev t x=y
 cases y <;> simp only [V0Y,p0r]
 rename_i ty v
 cases tbl.lookup ty <;> simp
def S0H (e b:Nat):Blk→Option Value
 | .row false e' _=>if e' = e then some (.pointer (some ⟨b,0,none⟩)) else none
 | _=>none
@[simp] theorem S0I {e e' b:Nat} {cs:List Value}:S0H e b (.row false e' cs)=if e' = e then some (.pointer (some ⟨b,0,none⟩)) else none:=nr rfl
def Q0X (H:a0f) (e:Nat):Value→Option Value
 | .pointer (some p)=>if p.spot.isSome=false∧p.off=0 then S0H e p.block (H.blk p.block) else none
 | _=>none
@[simp] theorem S0J {e b:Nat}:Q0X H e (.pointer (some ⟨b,0,none⟩))=S0H e b (H.blk b):=by simp [Q0X]
@[simp ↓] theorem W0i {e:TypeId}:WS E fl t H (.fa0 e x) K R=oo (Q0X H e (ev t x)) fun v=>K v H:=by
 simp only [WS,opA];generalize ev t x=y
 cases y <;> simp only [Q0X,p0r]
 rename_i p;cases p <;> simp only [Q0X,p0r]
 rename_i q
 cases hb:a0f.blk H q.block <;> simp [S0H]
 rename_i ro e' cs
 cases ro
 ·by_cases h1:q.spot=none <;> by_cases h2:e' = e <;> by_cases h3:q.off=0 <;> simp [h1,h2,h3]
 ·simp
end
attribute [simp ↓] P0W
@[simp] theorem P0E {G:a0f} {a:Addr}:b0F G true 0 (.pointer (some a))=some (.agg #[]):=nr rfl
@[simp] theorem S0F {a:Addr}:U0v (.pointer (some a))=some (.pointer (some a)):=nr rfl
@[simp] theorem P0c {n j:Nat}:n.testBit j=decide (n / 2 ^ j % 2=1):=Nat.testBit_eq_decide_div_mod_eq
theorem u0G {a b:FuncId}:List.lookup a0h [(a0g,a),(a0h,b)]=some b:=by simp [List.lookup];rfl
theorem u0F {a b:FuncId}:List.lookup a0g [(a0g,a),(a0h,b)]=some a:=by simp [List.lookup]
attribute [simp] u0G u0F
/-! ### rings behind the interface -/
def PF (_:a0f) (cs:List Value) (z:Int):Prop:=cs=[.int .i64 z]∧e0l z
theorem R0h:i0Q PF:=fun _ _ _ _ _ h=>h
theorem l0Z {a b:Int} {p:Nat} {cs:List Value} (hf:fl≤H.size) (hb:a0f.blk H p=.row false a0b cs) (ha:e0l a) (hbz:e0l b) (hR:R q0T) :
  a0P env fl u0u [.pointer (some ⟨p,0,none⟩),.int .i64 a,.int .i64 b] H (fun r H'=>(r=.int .i64 (a - b)∧e0l (a - b))∧Ext H H') R:=by
 refine a0l V0y hf (h:=?_)
 intro ρ h0
 simp [I0o,C0I,h0]
 refine g0J ?_
 simp [C0J,h0,hb]
 refine (c0i (n:=1) (by omega) (by omega) (by omega)).mono ?_
 rintro _ G ⟨k0,hx⟩
 simp
 have h1:lz 1 < 1073741824:=by rw [f0b];omega
 refine (j0M k0 (by have:=hx.1;omega) h1 (by simp;exact hR)).mono ?_
 rintro _ G2 ⟨⟨rfl,_⟩,hx2⟩
 have hb2:=(hx.trans hx2).blk hb
 have hsz:=(hx.trans hx2).1
 simp [C0K,h0,hb2]
 have f1:e0l 1:=by unfold e0l;omega
 refine (h0o (by omega) ha f1 hbz f1 (by decide) hR).mono ?_
 rintro _ G3 ⟨⟨rfl,h⟩,hx3⟩
 have e1:(a * 1 - b * 1).tdiv 1=a - b:=by simp
 rw [e1] at h ⊢
 simp [h]
theorem l0F {a b:Int} {p:Nat} {cs:List Value} {va vb:Value} (hf:fl≤H.size) (hb:a0f.blk H p=.row false a0a cs) (ha:b0q H va (a0n a)) (hbz:b0q H vb (a0n b)) (la:lz a < 67108864) (lb:lz b < 67108864) :
  a0P env fl u0r [.pointer (some ⟨p,0,none⟩),va,vb] H (fun r H'=>b0q H' r (a0n (a - b))∧Ext H H') R:=by
 refine a0l V0p hf (h:=?_)
 intro ρ h0
 obtain ⟨s0,rfl,k0⟩:=id ha
 obtain ⟨s1,rfl,k1⟩:=id hbz
 simp [I0f,B0M,h0,k0.cells,k0.plain,k1.cells,k1.plain]
 generalize hG:Array.push (Array.push (Array.push H _) _) _=G
 have hx2:Ext H G:=by rw [← hG];exact (Ext.refl H).push.push.push
 have b0:a0f.blk G H.size=.row false a0c [.bool (a0n a).1,s0]:=by rw [← hG];simp
 have b1:a0f.blk G (H.size + 1)=.row false a0c [.bool (a0n b).1,s1]:=by rw [← hG];simp
 have b2:a0f.blk G (H.size + 2)=.row false a0c [.bool false,.slice none 0 0]:=by rw [← hG];simp
 have b3:=hb
 have hx:=Ext.refl H
 clear hG
 replace b3:=hx2.blk b3;replace hx:=hx.trans hx2;replace k0:=k0.mono hx2;replace k1:=k1.mono hx2
 refine a0v ?_
 simp [B0N,h0,b3]
 refine (c0i (n:=1) (by have:=hx.1;omega) (by omega) (by omega)).mono ?_
 rintro _ G2 ⟨k2,hx2⟩
 replace b0:=hx2.blk b0;replace b1:=hx2.blk b1;replace b2:=hx2.blk b2;replace b3:=hx2.blk b3;replace hx:=hx.trans hx2;replace k0:=k0.mono hx2;replace k1:=k1.mono hx2
 simp
 refine (g0K k2 (by have:=hx.1;omega)).mono ?_
 rintro _ G3 ⟨⟨s2,rfl,k3⟩,hx2⟩
 replace b0:=hx2.blk b0;replace b1:=hx2.blk b1;replace b2:=hx2.blk b2;replace b3:=hx2.blk b3;replace hx:=hx.trans hx2;replace k0:=k0.mono hx2;replace k1:=k1.mono hx2
 have hsz:=hx.1
 simp [k3.cells,k3.plain,hsz]
 generalize hN:Array.setIfInBounds (Array.push _ _) _ _=G4
 obtain ⟨hx2,b4⟩:=new1 hN
 clear hN
 replace b0:=hx2.blk b0;replace b1:=hx2.blk b1;replace b2:=hx2.blk b2;replace b3:=hx2.blk b3;replace hx:=hx.trans hx2;replace k0:=k0.mono hx2;replace k1:=k1.mono hx2;replace k3:=k3.mono hx2
 refine a0v ?_
 simp [B0O,h0,b0,b1,b3,b4]
 have l1:lz 1=1:=f0b
 refine (h0j (a:=a) (b:=1) (c:=b) (d:=1) (e:=1) ⟨s0,rfl,k0⟩ ⟨s2,rfl,k3⟩ ⟨s1,rfl,k1⟩ ⟨s2,rfl,k3⟩ ⟨s2,rfl,k3⟩ (by have:=hx.1;omega) la (by omega) lb (by omega) (by omega) (by decide)).mono ?_
 rintro _ G5 ⟨⟨s5,rfl,k5⟩,hx2⟩
 replace b2:=hx2.blk b2;replace hx:=hx.trans hx2
 have e1:(a * 1 - b * 1).tdiv 1=a - b:=by simp
 rw [e1] at k5 ⊢
 have hz:=a0k b2
 simp [b2,k5.cells,k5.plain]
 generalize hS:Array.setIfInBounds _ _ _=G6
 have hl:Lx G5 G6:=a0V hS b2 (by decide)
 have b8:=a0C hS b2
 simp [b8]
 exact fun _=>⟨s5,rfl,k5.lx hl⟩
end
/- value. -/
section
open Go
set_option maxHeartbeats 4000000
variable {fl:Nat} {H G:a0f} {R:a0A} {v w u:Value}
theorem k0O {x D:Int} {p:Nat} {c0 c1 c2 c3:Value} {cs:List Value} (hf:fl≤H.size) (hb:a0f.blk H p=.row false a0b (c0 :: c1 :: c2 :: c3 :: .int .i64 D :: cs)) (hx0:e0l x) (hD:e0l D) (hD0:D ≠ 0) :
  a0P env fl n0O [.pointer (some ⟨p,0,none⟩),.int .i64 x] H (fun r H'=>b0X H' r (a0e (Rat.divInt x D))∧Ext H H') R:=by
 refine a0l V0B hf (h:=?_)
 intro ρ h0
 simp [I0r,D0a,h0]
 generalize hG:Array.push H _=G
 obtain ⟨hx2,b2⟩:=k0C hG
 have b1:=hb
 have hx:=Ext.refl H
 clear hG
 replace b1:=hx2.blk b1;replace hx:=hx.trans hx2
 have lF:∀ z,e0l z→lz z < 536870912:=fun z hz=>by
  have:lz z≤1:=o0f (by obtain ⟨h1,h2⟩:=hz;omega)
  omega
 refine a0v ?_
 simp [D0b,h0,b1]
 refine (i0G (by have:=hx.1;omega) hx0).mono ?_
 rintro _ G2 ⟨k0,hx2⟩
 replace b1:=hx2.blk b1;replace b2:=hx2.blk b2;replace hx:=hx.trans hx2
 simp [h0,b1]
 refine (i0G (by have:=hx.1;omega) hD).mono ?_
 rintro _ G3 ⟨k1,hx2⟩
 replace b2:=hx2.blk b2;replace hx:=hx.trans hx2;replace k0:=k0.mono hx2
 simp
 refine (d0o k0 k1 (by have:=hx.1;omega) (by rw [a0j];exact lF _ hx0) (by rw [a0j];exact lF _ hD) (by rw [a0i];exact hD0)).mono ?_
 rintro _ G4 ⟨⟨_,rfl,s3,s4,rfl,k5,k6⟩,hx2⟩
 replace b2:=hx2.blk b2;replace hx:=hx.trans hx2
 rw [a0i,a0i] at k5 k6 ⊢
 have hsz:=hx.1
 simp [k5.cells,k5.plain,k6.cells,k6.plain,hsz]
 generalize hN:Array.setIfInBounds (Array.push _ _) _ _=G5
 obtain ⟨hx2,b3⟩:=new1 hN
 clear hN
 replace b2:=hx2.blk b2;replace hx:=hx.trans hx2;replace k5:=k5.mono hx2;replace k6:=k6.mono hx2
 have hz:=a0k b2
 simp [D0c,b3,b2,k5.cells,k5.plain,k6.cells,k6.plain]
 generalize hS:Array.setIfInBounds _ _ _=G6
 have hl:Lx G5 G6:=a0V hS b2 (by decide)
 have b8:=a0C hS b2
 simp [b8]
 exact fun _=>⟨s3,s4,by simp [Rat.divInt],by simpa using k5.lx hl,by simpa using k6.lx hl⟩
theorem k0I {x D:Int} {p:Nat} {c0 c1 c2 c3 vx sD:Value} {cs:List Value} (hf:fl≤H.size) (hb:a0f.blk H p=.row false a0a (c0 :: c1 :: c2 :: c3 :: .bool (a0n D).1 :: sD :: cs)) (kD:Lim H sD (a0n D).2) (kx:b0q H vx (a0n x)) (lx:lz x < 67108864) (lD:lz D < 67108864) (hD0:D ≠ 0) :
  a0P env fl n0M [.pointer (some ⟨p,0,none⟩),vx] H (fun r H'=>b0X H' r (a0e (Rat.divInt x D))∧Ext H H') R:=by
 refine a0l V0t hf (h:=?_)
 intro ρ h0
 obtain ⟨s0,rfl,k2⟩:=id kx
 simp [I0j,C0h,h0,k2.cells,k2.plain]
 generalize hG:Array.push (Array.push H _) _=G
 obtain ⟨hx2,b0,b2⟩:=push2 hG
 have b1:=hb
 have k3:=kD
 have hx:=Ext.refl H
 clear hG
 replace b1:=hx2.blk b1;replace hx:=hx.trans hx2;replace k2:=k2.mono hx2;replace k3:=k3.mono hx2
 refine a0v ?_
 simp [C0i,h0,b1,b0]
 refine (i0B (a:=x) ⟨s0,rfl,k2⟩ (by have:=hx.1;omega)).mono ?_
 rintro _ G2 ⟨k0,hx2⟩
 replace b1:=hx2.blk b1;replace b2:=hx2.blk b2;replace hx:=hx.trans hx2;replace k3:=k3.mono hx2
 simp [h0,b1]
 refine (i0B (a:=D) ⟨sD,rfl,k3⟩ (by have:=hx.1;omega)).mono ?_
 rintro _ G3 ⟨k1,hx2⟩
 replace b2:=hx2.blk b2;replace hx:=hx.trans hx2;replace k0:=k0.mono hx2
 simp
 refine (d0o k0 k1 (by have:=hx.1;omega) (by rw [a0j];omega) (by rw [a0j];omega) (by rw [a0i];exact hD0)).mono ?_
 rintro _ G4 ⟨⟨_,rfl,s3,s4,rfl,k5,k6⟩,hx2⟩
 replace b2:=hx2.blk b2;replace hx:=hx.trans hx2
 rw [a0i,a0i] at k5 k6 ⊢
 have hsz:=hx.1
 simp [k5.cells,k5.plain,k6.cells,k6.plain,hsz]
 generalize hN:Array.setIfInBounds (Array.push _ _) _ _=G5
 obtain ⟨hx2,b3⟩:=new1 hN
 clear hN
 replace b2:=hx2.blk b2;replace hx:=hx.trans hx2;replace k5:=k5.mono hx2;replace k6:=k6.mono hx2
 have hz:=a0k b2
 simp [C0j,b3,b2,k5.cells,k5.plain,k6.cells,k6.plain]
 generalize hS:Array.setIfInBounds _ _ _=G6
 have hl:Lx G5 G6:=a0V hS b2 (by decide)
 have b8:=a0C hS b2
 simp [b8]
 exact fun _=>⟨s3,s4,by simp [Rat.divInt],by simpa using k5.lx hl,by simpa using k6.lx hl⟩
end
/- simplex.made: a row of zeros. -/
section
open Go
set_option maxHeartbeats 4000000
variable {fl:Nat} {H G:a0f} {R:a0A} {v w u:Value}
theorem n0j {α:Type} {Q:a0f→List Value→α→Prop} {z:List Value} {x:α} (hz:Q H z x):∀ n:Nat,(f0e z n).length=n * z.length∧∀ k,k < n→Q H (((f0e z n).drop (k * z.length)).take z.length) x
 | 0=>⟨by simp [f0e],fun k hk=>by omega⟩
 | n + 1=>by
  obtain ⟨h1,h2⟩:=n0j hz n
  refine ⟨by rw [f0e,List.length_append,h1,Nat.add_mul];omega,fun k hk=>?_⟩
  cases k with
  | zero=>simpa [f0e] using hz
  | succ k =>
   have:=h2 k (by omega)
   rw [f0e,show (k + 1) * z.length=z.length + k * z.length by rw [Nat.add_mul];omega,← List.drop_drop,List.drop_left]
   exact this
theorem k0M {p q6 q7 l:Nat} {c0 c1:Value} {cs:List Value} (hf:fl≤H.size) (h6:a0f.blk H q6=.row false a0p [.pointer (some ⟨p,0,none⟩)])
  (hb:a0f.blk H p=.row false a0b (c0 :: c1 :: .int .i64 (l:Int) :: cs)) (h7:a0f.blk H q7=.row false b0N [.int .i64 0]) (hl:l < 1073741823) :
  a0P env fl k0K [.pointer (some ⟨q6,0,none⟩),.pointer (some ⟨q7,0,none⟩)] H (fun r H'=>a0Z PF H.size H' b0N 1 r (List.replicate (l + 1) 0)∧Ext H H') R:=by
 refine a0l V0x hf (h:=?_)
 intro ρ h0
 obtain ⟨n,hn⟩:∃ n,n=l + 1:=⟨_,rfl⟩
 rw [← hn]
 have w1:IntKind.i64.wrap ((l:Int) + 1)=(n:Int):=by rw [a0L (by omega) (by omega)];omega
 have hmk:=f0p (bytes:=8) (k:=.i64) (k':=.i64) (l:=n) (c:=n) (Nat.le_refl _) (by omega) (by omega)
 simp [I0n,C0C,C0D,h0,h6,hb,w1,hmk]
 generalize hG:Array.push H _=G
 obtain ⟨hx2,b0⟩:=k0C hG
 have f0:e0l 0:=by unfold e0l;omega
 obtain ⟨hr1,hr2⟩:=n0j (H:=G) (Q:=PF) (z:=[.int .i64 0]) (x:=0) ⟨rfl,f0⟩ n
 have ho:a0Z PF H.size G b0N 1 (.slice (some ⟨H.size,0,none⟩) n n) (List.replicate n 0):=by
  refine ⟨_,by simpa using Own.mk (n:=n) (sz:=1) (cap:=n) b0 (by simpa using hr1) (Nat.le_refl _),fun k hk=>?_⟩
  rw [List.getElem_replicate];exact hr2 k (by simpa using hk)
 clear hG b0
 have hsl:=ho.slen
 rw [List.length_replicate] at hsl
 simp [C0E,hsl]
 refine c0h (n:=n) (fun _ ρ G=>ρ 1=.pointer (some ⟨q7,0,none⟩)∧Ext H G∧a0Z PF H.size G b0N 1 (ρ 3) (List.replicate n 0)) rfl rfl (by decide) (by omega) (by simp) (by simp) ?_ ?_ ?_ ?_
 ·exact ⟨by simp [h0],hx2,by simpa using ho⟩
 ·intro i ρ ρ' G h hI;simpa [h] using hI
 ·clear h0 ρ ho hx2 hr2
  rintro i ρ G hi gi gn ⟨g1,hx,ho⟩
  obtain ⟨so,g3⟩:∃ so,ρ 3=so:=⟨_,rfl⟩
  rw [g3] at ho
  have h7':=hx.blk h7
  have hil:i < (List.replicate n (0:Int)).length:=by simpa using hi
  obtain ⟨G5,hst,ho2,hxb⟩:=a0Z.store (j:=i) (x:=(0:Int)) (w:=.int .i64 0) ho hil (by omega) rfl rfl (fun G' _ _=>⟨rfl,f0⟩) (by decide) (fun G' cs y _ _ h=>h)
  simp [C0F,C0G,g1,g3,gi,h7',ho.sls.ia hil,hst]
  have hs:(List.replicate n (0:Int)).set i 0=List.replicate n 0:=by simp
  rw [hs] at ho2
  exact Rnd.mk (by simp [gi]) (by simp [gn]) ⟨by simp [g1],⟨Nat.le_trans hx.1 hxb.1,fun b hb=>(hxb.2 b (Nat.lt_of_lt_of_le hb hx.1) (fun h=>by have:=(ho.ge h).1;omega)).trans (hx.2 b hb)⟩,by simpa [g3] using ho2⟩
 ·rintro ρ G gi gn ⟨g1,hx,ho⟩
  simp [C0H]
  exact fun _=>ho
theorem k0G {p q6 q7 l:Nat} {c0 c1 s7:Value} {cs:List Value} (hf:fl≤H.size) (h6:a0f.blk H q6=.row false a0o [.pointer (some ⟨p,0,none⟩)])
  (hb:a0f.blk H p=.row false a0a (c0 :: c1 :: .int .i64 (l:Int) :: cs)) (h7:a0f.blk H q7=.row false a0c [.bool (a0n 0).1,s7]) (k7:Lim H s7 (a0n 0).2) (hl:l < 1073741823) :
  a0P env fl k0J [.pointer (some ⟨q6,0,none⟩),.pointer (some ⟨q7,0,none⟩)] H (fun r H'=>a0Z PI H.size H' a0c 2 r (List.replicate (l + 1) 0)∧Ext H H') R:=by
 refine a0l V0o hf (h:=?_)
 intro ρ h0
 obtain ⟨n,hn⟩:∃ n,n=l + 1:=⟨_,rfl⟩
 rw [← hn]
 have w1:IntKind.i64.wrap ((l:Int) + 1)=(n:Int):=by rw [a0L (by omega) (by omega)];omega
 have hmk:=f0p (bytes:=32) (k:=.i64) (k':=.i64) (l:=n) (c:=n) (Nat.le_refl _) (by omega) (by omega)
 simp [I0e,B0G,B0H,h0,h6,hb,w1,hmk]
 generalize hG:Array.push H _=G
 obtain ⟨hx2,b0⟩:=k0C hG
 have f0:PI G [.bool false,.slice none 0 0] 0:=⟨_,by rw [d0n],by rw [d0n];exact Lim.nil⟩
 obtain ⟨hr1,hr2⟩:=n0j (H:=G) (Q:=PI) (z:=[.bool false,.slice none 0 0]) (x:=0) f0 n
 have ho:a0Z PI H.size G a0c 2 (.slice (some ⟨H.size,0,none⟩) n n) (List.replicate n 0):=by
  refine ⟨_,by simpa using Own.mk (n:=n) (sz:=2) (cap:=n) b0 (by simpa using hr1) (Nat.le_refl _),fun k hk=>?_⟩
  rw [List.getElem_replicate];exact hr2 k (by simpa using hk)
 clear hG b0
 have hsl:=ho.slen
 rw [List.length_replicate] at hsl
 simp [B0I,hsl]
 refine c0h (n:=n) (fun _ ρ G=>ρ 1=.pointer (some ⟨q7,0,none⟩)∧Ext H G∧a0Z PI H.size G a0c 2 (ρ 3) (List.replicate n 0)) rfl rfl (by decide) (by omega) (by simp) (by simp) ?_ ?_ ?_ ?_
 ·exact ⟨by simp [h0],hx2,by simpa using ho⟩
 ·intro i ρ ρ' G h hI;simpa [h] using hI
 ·clear h0 ρ ho hx2 hr2
  rintro i ρ G hi gi gn ⟨g1,hx,ho⟩
  obtain ⟨so,g3⟩:∃ so,ρ 3=so:=⟨_,rfl⟩
  rw [g3] at ho
  have h7':=hx.blk h7
  have k7':=k7.mono hx
  have hil:i < (List.replicate n (0:Int)).length:=by simpa using hi
  obtain ⟨G5,hst,ho2,hxb⟩:=a0Z.store (j:=i) (x:=(0:Int)) (w:=.agg #[.bool (a0n 0).1,s7]) ho hil (by omega) rfl (by simp [k7'.plain]) (fun G' _ hl=>⟨s7,rfl,k7'.lx hl⟩) (by decide) (fun G' cs y _ hl h=>b0q.lx h hl)
  simp [B0J,B0K,g1,g3,gi,h7',ho.sls.ia hil,hst]
  have hs:(List.replicate n (0:Int)).set i 0=List.replicate n 0:=by simp
  rw [hs] at ho2
  exact Rnd.mk (by simp [gi]) (by simp [gn]) ⟨by simp [g1],⟨Nat.le_trans hx.1 hxb.1,fun b hb=>(hxb.2 b (Nat.lt_of_lt_of_le hb hx.1) (fun h=>by have:=(ho.ge h).1;omega)).trans (hx.2 b hb)⟩,by simpa [g3] using ho2⟩
 ·rintro ρ G gi gn ⟨g1,hx,ho⟩
  simp [B0L]
  exact fun _=>ho
end
/- a tableau as it lies, of either ring. -/
section
open Go
set_option maxHeartbeats 4000000
variable {fl:Nat} {H G:a0f} {R:a0A} {v w u:Value}
def PV (_:a0f) (cs:List Value) (w:Value):Prop:=cs=[w]
theorem l0m:i0Q PV:=fun _ _ _ _ _ h=>h
def PK (_:a0f) (cs:List Value) (k:Nat):Prop:=cs=[.int .i64 (k:Int)]
theorem l0l:i0Q PK:=fun _ _ _ _ _ h=>h
structure S0l (eN sz:Nat) (P:a0f→List Value→Int→Prop):Prop where
 mono:i0Q P
 lx:∀ (G G':a0f) cs x,Lx G G'→P G cs x→P G' cs x
 ne:eN ≠ a0m
 sz:0 < sz
theorem v0k:S0l b0N 1 PF:=⟨R0h,fun _ _ _ _ _ h=>h,by decide,by decide⟩
theorem v0j:S0l a0c 2 PI:=⟨c0f,fun _ _ _ _ hl h=>b0q.lx h hl,by decide,by decide⟩
structure d0D (eN sz:Nat) (P:a0f→List Value→Int→Prop) (fl:Nat) (H:a0f) (vs:List Value) (L:List (List Int)):Prop where
 len:vs.length=L.length
 own:∀ i (h:i < L.length),a0Z P fl H eN sz (vs[i]'(by omega)) L[i]
 apart:∀ i j (h:i < L.length) (h':j < L.length),i ≠ j→slB (vs[i]'(by omega))=none ∨ slB (vs[i]'(by omega)) ≠ slB (vs[j]'(by omega))
theorem d0D.mono {eN sz:Nat} {P:a0f→List Value→Int→Prop} {vs:List Value} {L:List (List Int)} (hP:S0l eN sz P) (h:d0D eN sz P fl H vs L) (hx:Ext H G):d0D eN sz P fl G vs L :=
 ⟨h.len,fun i hi=>(h.own i hi).mono hP.mono hx,h.apart⟩
theorem d0D.store {eN sz i j:Nat} {P:a0f→List Value→Int→Prop} {vs:List Value} {L:List (List Int)} {x:Int} {w:Value} (hP:S0l eN sz P) (h:d0D eN sz P fl H vs L) (hi:i < L.length) (hj:j < L[i].length)
  (hw:(a0K w).length=sz) (hp:(a0K w).all a0u=true) (hx:P H (a0K w) x) :
  ∃ G,d0F fl H sz (adr sz (vs[i]'(by have:=h.len;omega)) j) w=some G∧d0D eN sz P fl G vs (L.set i (L[i].set j x))∧d0G (slB (vs[i]'(by have:=h.len;omega))) H G∧Lx H G:=by
 obtain ⟨G,hst,ho,hxb⟩:=a0Z.store (x:=x) (w:=w) (h.own i hi) hj hP.sz hw hp (fun G' _ hl=>hP.lx _ _ _ _ hl hx) hP.ne (fun G' cs y _ hl hy=>hP.lx _ _ _ _ hl hy)
 have hlx:=(h.own i hi).lx hP.ne hxb
 refine ⟨G,hst,⟨by simp [h.len],fun k hk=>?_,fun a b ha hb hab=>h.apart a b (by simpa using ha) (by simpa using hb) hab⟩,hxb,hlx⟩
 have hk':k < L.length:=by simpa using hk
 by_cases hki:k=i
 ·subst hki;simpa using ho
 ·rw [List.getElem_set_ne (by omega)]
  exact (h.own k hk').off hxb (h.apart k i hk' hi hki) (fun cs y hy=>hP.lx _ _ _ _ hlx hy)
structure g0z (fl:Nat) (H:a0f) (p n m:Nat) (L:List (List Int)) (D:Int) (bs:List Nat) (k:Nat) (sR sB:Value) (vs:List Value):Prop where
 blk:a0f.blk H p=.row false a0b [.int .i64 (n:Int),.int .i64 (m:Int),.int .i64 ((2 * n + m:Nat):Int),sR,.int .i64 D,sB,.int .i64 (k:Int)]
 low:fl≤p
 d:e0l D
 heads:a0Z PV fl H b0L 1 sR vs
 rows:d0D b0N 1 PF fl H vs L
 basis:a0Z PK fl H d0z 1 sB bs
theorem g0z.mono {p n m k:Nat} {L:List (List Int)} {D:Int} {bs:List Nat} {sR sB:Value} {vs:List Value} (h:g0z fl H p n m L D bs k sR sB vs) (hx:Ext H G):g0z fl G p n m L D bs k sR sB vs :=
 ⟨hx.blk h.blk,h.low,h.d,h.heads.mono l0m hx,h.rows.mono v0k hx,h.basis.mono l0l hx⟩
theorem g0z.store {p n m k i j:Nat} {L:List (List Int)} {D x:Int} {bs:List Nat} {sR sB:Value} {vs:List Value} (h:g0z fl H p n m L D bs k sR sB vs) (hi:i < L.length) (hj:j < L[i].length) (hx:e0l x) :
  ∃ G,d0F fl H 1 (adr 1 (vs[i]'(by have:=h.rows.len;omega)) j) (.int .i64 x)=some G∧g0z fl G p n m (L.set i (L[i].set j x)) D bs k sR sB vs∧d0G (slB (vs[i]'(by have:=h.rows.len;omega))) H G∧Lx H G:=by
 obtain ⟨G,h1,h2,h3,h4⟩:=h.rows.store v0k hi hj (w:=.int .i64 x) (x:=x) rfl rfl ⟨rfl,hx⟩
 have hr:=h.rows.own i hi
 have hne:=hr.ne h.blk (by decide)
 exact ⟨G,h1,⟨(h3.2 _ (a0k h.blk) hne).trans h.blk,h.low,h.d,h.heads.lxm (hr.lxT (by decide) h3) (fun _ _ h=>h),h2,h.basis.lxm (hr.lxT (by decide) h3) (fun _ _ h=>h)⟩,h3,h4⟩
theorem g0z.head {p n m k i:Nat} {L:List (List Int)} {D:Int} {bs:List Nat} {sR sB:Value} {vs:List Value} (h:g0z fl H p n m L D bs k sR sB vs) (hi:i < L.length) :
  b0F H false 1 (adr 1 sR i)=some (vs[i]'(by have:=h.rows.len;omega)):=by
 have hl:=h.rows.len
 obtain ⟨w,h1,h2⟩:=h.heads.sls.load1 (j:=i) (by omega)
 rw [h1]
 have:[w]=[vs[i]'(by omega)]:=h2
 simpa using this
theorem g0z.num {p n m k i j:Nat} {L:List (List Int)} {D:Int} {bs:List Nat} {sR sB:Value} {vs:List Value} (h:g0z fl H p n m L D bs k sR sB vs) (hi:i < L.length) (hj:j < L[i].length) :
  b0F H false 1 (adr 1 (vs[i]'(by have:=h.rows.len;omega)) j)=some (.int .i64 L[i][j])∧e0l L[i][j]:=by
 obtain ⟨w,h1,h2,h3⟩:=(h.rows.own i hi).sls.load1 (j:=j) hj
 rw [h1]
 exact ⟨by simpa using h2,h3⟩
structure g0y (fl:Nat) (H:a0f) (p n m:Nat) (L:List (List Int)) (D:Int) (bs:List Nat) (k:Nat) (sR sD sB:Value) (vs:List Value):Prop where
 blk:a0f.blk H p=.row false a0a [.int .i64 (n:Int),.int .i64 (m:Int),.int .i64 ((2 * n + m:Nat):Int),sR,.bool (a0n D).1,sD,sB,.int .i64 (k:Int)]
 low:fl≤p
 d:Lim H sD (a0n D).2
 heads:a0Z PV fl H a0Q 1 sR vs
 rows:d0D a0c 2 PI fl H vs L
 basis:a0Z PK fl H d0z 1 sB bs
theorem g0y.mono {p n m k:Nat} {L:List (List Int)} {D:Int} {bs:List Nat} {sR sD sB:Value} {vs:List Value} (h:g0y fl H p n m L D bs k sR sD sB vs) (hx:Ext H G):g0y fl G p n m L D bs k sR sD sB vs :=
 ⟨hx.blk h.blk,h.low,h.d.mono hx,h.heads.mono l0m hx,h.rows.mono v0j hx,h.basis.mono l0l hx⟩
theorem g0y.store {p n m k i j:Nat} {L:List (List Int)} {D x:Int} {bs:List Nat} {sR sD sB:Value} {vs:List Value} (h:g0y fl H p n m L D bs k sR sD sB vs) (hi:i < L.length) (hj:j < L[i].length) {w:Value} (hc:(a0K w).length=2) (hp:(a0K w).all a0u=true) (hx:PI H (a0K w) x) :
  ∃ G,d0F fl H 2 (adr 2 (vs[i]'(by have:=h.rows.len;omega)) j) w=some G∧g0y fl G p n m (L.set i (L[i].set j x)) D bs k sR sD sB vs∧d0G (slB (vs[i]'(by have:=h.rows.len;omega))) H G∧Lx H G:=by
 obtain ⟨G,h1,h2,h3,h4⟩:=h.rows.store v0j hi hj (w:=w) (x:=x) hc hp hx
 have hr:=h.rows.own i hi
 have hne:=hr.ne h.blk (by decide)
 exact ⟨G,h1,⟨(h3.2 _ (a0k h.blk) hne).trans h.blk,h.low,h.d.lx h4,h.heads.lxm (hr.lxT (by decide) h3) (fun _ _ h=>h),h2,h.basis.lxm (hr.lxT (by decide) h3) (fun _ _ h=>h)⟩,h3,h4⟩
theorem g0y.head {p n m k i:Nat} {L:List (List Int)} {D:Int} {bs:List Nat} {sR sD sB:Value} {vs:List Value} (h:g0y fl H p n m L D bs k sR sD sB vs) (hi:i < L.length) :
  b0F H false 1 (adr 1 sR i)=some (vs[i]'(by have:=h.rows.len;omega)):=by
 have hl:=h.rows.len
 obtain ⟨w,h1,h2⟩:=h.heads.sls.load1 (j:=i) (by omega)
 rw [h1]
 have:[w]=[vs[i]'(by omega)]:=h2
 simpa using this
theorem g0y.num {p n m k i j:Nat} {L:List (List Int)} {D:Int} {bs:List Nat} {sR sD sB:Value} {vs:List Value} (h:g0y fl H p n m L D bs k sR sD sB vs) (hi:i < L.length) (hj:j < L[i].length) :
  ∃ w,b0F H true 2 (adr 2 (vs[i]'(by have:=h.rows.len;omega)) j)=some w∧b0q H w (a0n L[i][j]):=by
 obtain ⟨cs,h1,_,h3⟩:=Sls.load (h.rows.own i hi).sls (j:=j) hj (by omega);exact ⟨_,h1,h3⟩
end
/- Arguments that can be read as data, as an abstract heap of rows that are only read. -/
section
open Go
def J0i (P:Program):List Field→Nat→Option Nat
 | [],acc=>some acc
 | f :: r,acc=>if f.offset=acc then J0i P r (acc + P.cellsOf f.type) else none
def e0g (P:Program):Nat→TypeId→Bool
 | 0,_=>false
 | m + 1,t =>
  match P.underlying t with
  | some .bool=>P.cellsOf t == 1
  | some (.int _)=>P.cellsOf t == 1
  | some .string=>P.cellsOf t == 1
  | some (.slice e)=>P.cellsOf t == 1 && e0g P m e && P.cellsOf e != 0
  | some (.struct fs)=>J0i P fs.toList 0 == some (P.cellsOf t) && fs.toList.all fun f=>e0g P m f.type
  | _=>false
def IsT (P:Program) (H:a0f):Nat→TypeId→List Value→Prop
 | 0,_,_=>False
 | m + 1,t,cs =>
  match P.underlying t with
  | some .bool=>∃ b,cs=[.bool b]
  | some (.int k)=>∃ n,cs=[.int k n]∧(Lit.int k n).wf=true
  | some .string=>∃ s,cs=[.string s]∧s.size≤maxLen
  | some (.slice e)=>cs=[.slice none 0 0] ∨ ∃ b len cap cells,cs=[.slice (some ⟨b,0,none⟩) len cap]∧len≤cap∧cap≤maxLen∧H.blk b=.row true e cells∧cells.length=len * P.cellsOf e ∧
    ∀ i,i < len→IsT P H m e ((cells.drop (i * P.cellsOf e)).take (P.cellsOf e))
  | some (.struct fs)=>∃ parts:List (List Value),cs=parts.flatten∧parts.length=fs.toList.length∧∀ i f,fs.toList[i]? = some f→IsT P H m f.type (parts.getD i [])
  | _=>False
def f0J (H:a0f):Prop:=∀ b e cs,H.blk b ≠ .row false e cs
def k0B (H H':a0f):Prop:=H.size≤H'.size∧∀ b,b < H.size→H'.blk b=H.blk b
theorem k0B.refl (H:a0f):k0B H H:=⟨Nat.le_refl _,fun _ _=>rfl⟩
theorem k0B.trans {H H1 H2:a0f} (h:k0B H H1) (k:k0B H1 H2):k0B H H2:=⟨Nat.le_trans h.1 k.1,fun b hb=>(k.2 b (Nat.lt_of_lt_of_le hb h.1)).trans (h.2 b hb)⟩
theorem k0B.push (H:a0f) (r:Blk):k0B H (H.push r):=⟨by simp,fun b hb=>by rw [a0B,if_neg (by omega)]⟩
theorem IsT.mono {P:Program} {H H':a0f} (hx:k0B H H'):∀ {m:Nat} {t:TypeId} {cs:List Value},IsT P H m t cs→IsT P H' m t cs
 | 0,_,_,h=>h
 | m + 1,t,cs,h=>by
  unfold IsT at h ⊢
  split at h
  ·exact h
  ·exact h
  ·exact h
  ·rename_i e _
   rcases h with h | ⟨b,len,cap,cells,h1,h2,h3,h4,h5,h6⟩
   ·exact .inl h
   ·exact .inr ⟨b,len,cap,cells,h1,h2,h3,by rw [hx.2 b (a0k h4)];exact h4,h5,fun i hi=>(h6 i hi).mono hx⟩
  ·obtain ⟨parts,h1,h2,h3⟩:=h
   exact ⟨parts,h1,h2,fun i f hf=>(h3 i f hf).mono hx⟩
  ·exact h
variable {X:Cx} {φ:Inj} {H:a0f} {w:World}
theorem Rel.pushRo (hR:Rel X φ H w) (hro:f0J H) {B o:Nat} {e el:TypeId} {fz:Nat × Nat} {cs:List Value} {c:Array Value} (hB:w.heap[B]? = some (.cells c el fz)) (hle:o + cs.length≤c.size)
  (hc:CR X φ w.shape? cs ((c.toList.drop o).take cs.length)) (hlt:B < X.base):Rel X (ad φ H.size B o) (H.push (.row true e cs)) w∧f0J (H.push (.row true e cs)):=by
 have hext:∀ b x,φ b=some x→ad φ H.size B o b=some x:=fun b x h=>r0d hR h
 have hro':f0J (H.push (.row true e cs)):=by
  intro b e1 cs1 h
  rw [a0B] at h
  split at h
  ·cases h
  ·exact hro b e1 cs1 h
 refine ⟨⟨hR.bs,?_,?_,fun b b' B1 o1 o' e1 cs1 _ _ _ h=>absurd h (hro' b e1 cs1)⟩,hro'⟩
 ·intro b x h
  rw [Array.size_push]
  rcases f0L hR h with ⟨h1,_⟩ | ⟨h1,_⟩ <;> omega
 ·intro b B1 o1 ro e1 cs1 h1 h2
  rw [a0B] at h2
  rcases f0L hR h1 with ⟨rfl,h3⟩ | ⟨h3,h4⟩
  ·rw [if_pos rfl] at h2;cases h2;cases h3
   exact ⟨c,el,fz,hB,hle,hc.mono hext (fun _ _ h=>h),fun h=>(by cases h),fun _=>hlt⟩
  ·rw [if_neg (by omega)] at h2
   obtain ⟨c1,el,fz,g1,g2,g3,g4⟩:=hR.row b B1 o1 ro e1 cs1 h4 h2
   exact ⟨c1,el,fz,g1,g2,g3.mono hext (fun _ _ h=>h),g4⟩
theorem Rel.pushFree (hR:Rel X φ H w) (hro:f0J H) (e:TypeId):Rel X φ (H.push (.row true e [])) w∧f0J (H.push (.row true e [])):=by
 have hro':f0J (H.push (.row true e [])):=by
  intro b e1 cs1 h
  rw [a0B] at h
  split at h
  ·cases h
  ·exact hro b e1 cs1 h
 refine ⟨⟨hR.bs,fun b x h=>by have:=hR.lt b x h;rw [Array.size_push];omega,fun b B1 o1 ro e1 cs1 h1 h2=>?_,fun b b' B1 o1 o' e1 cs1 _ _ _ h=>absurd h (hro' b e1 cs1)⟩,hro'⟩
 have:=hR.lt b _ h1
 rw [a0B,if_neg (by omega)] at h2
 exact hR.row b B1 o1 ro e1 cs1 h1 h2
theorem l0j {α:Type} {f:Nat→Option α}:∀ {n k:Nat} {l:List α},(List.range' k n).mapM f=some l→l.length=n∧∀ i,i < n→f (k + i)=l[i]?
 | 0,k,l,h=>by simp at h;subst h;exact ⟨rfl,fun i hi=>by omega⟩
 | n + 1,k,l,h=>by
  rw [List.range'_succ,List.mapM_cons] at h
  simp only [Option.bind_eq_bind,Option.bind_eq_some_iff,Option.pure_def,Option.some.injEq] at h
  obtain ⟨x,h1,r,h2,rfl⟩:=h
  obtain ⟨h3,h4⟩:=l0j h2
  refine ⟨by simp [h3],fun i hi=>?_⟩
  cases i with
  | zero=>simpa using h1
  | succ i=>rw [show k + (i + 1)=k + 1 + i by omega,h4 i (by omega)];simp
theorem i0D {a:Addr} {n:Nat} {l:List Value} (hn:n ≠ 0) (h:w.cells? 0 a n=some l):a.spot=none∧∃ c el fz,w.heap[a.block]? = some (.cells c el fz)∧a.off + n≤c.size∧l=(c.toList.drop a.off).take n:=by
 unfold World.cells? at h
 rw [if_pos (Nat.zero_le _),List.range_eq_range'] at h
 obtain ⟨h1,h2⟩:=l0j h
 have hget:∀ i,i < n→∃ v,w.cell? (a.add i)=some v∧l[i]? = some v:=fun i hi=>by
  have:=h2 i hi
  rw [Nat.zero_add] at this
  rw [List.getElem?_eq_getElem (by omega)] at this
  exact ⟨_,this,List.getElem?_eq_getElem (by omega)⟩
 obtain ⟨v0,g1,_⟩:=hget 0 (by omega)
 have hsp:a.spot=none∧∃ c el fz,w.heap[a.block]? = some (.cells c el fz):=by
  simp only [Addr.add,if_true,World.cell?] at g1
  split at g1
  ·rename_i c el fz hc
   split at g1
   ·cases g1
   ·rename_i hs;exact ⟨by simpa using hs,c,el,fz,hc⟩
  ·cases g1
 obtain ⟨hs,c,el,fz,hc⟩:=hsp
 have hcell:∀ i,w.cell? (a.add i)=c[a.off + i]?:=fun i=>by
  unfold Addr.add
  split
  ·rename_i hi;subst hi;simp [World.cell?,hc,hs]
  ·simp [World.cell?,hc]
 have hsz:a.off + n≤c.size:=by
  obtain ⟨v,g3,_⟩:=hget (n - 1) (by omega)
  rw [hcell] at g3
  have:=(Array.getElem?_eq_some_iff.1 g3).1
  omega
 refine ⟨hs,c,el,fz,hc,hsz,?_⟩
 apply List.ext_getElem?
 intro i
 by_cases hi:i < n
 ·obtain ⟨v,g3,g4⟩:=hget i hi
  rw [g4,List.getElem?_take,if_pos hi,List.getElem?_drop,Array.getElem?_toList,← hcell,g3]
 ·rw [List.getElem?_eq_none (by omega),List.getElem?_eq_none]
  simp;omega
def k0U (P:Program) (X:Cx) (φ:Inj) (H:a0f) (w:World) (Z:a0f→List Value→Prop) (cs:List Value):Prop :=
 ∃ H' φ' cs',(∀ b x,φ b=some x→φ' b=some x)∧k0B H H'∧Rel X φ' H' w∧f0J H'∧CR X φ' w.shape? cs' cs∧Z H' cs'
section
variable {D:Type} {enc:TypeId × Value→D} {P:Program} (hb:X.base=w.heap.size)
include hb
theorem l0g {m fuel:Nat} (ih:∀ (t:TypeId) (cs:List Value) (x:DataW D × List MemPlace) (H:a0f) (φ:Inj),DataW.trod enc P w 0 (fun _=>true) true fuel t cs=some x→e0g P m t=true→Rel X φ H w→f0J H →
   k0U P X φ H w (fun H' cs'=>IsT P H' m t cs') cs) :
  ∀ (fs:List Field) (acc tot:Nat) (cs:List Value) (H:a0f) (φ:Inj),J0i P fs acc=some tot→cs.length=tot→fs.all (fun f=>e0g P m f.type)=true →
   (∀ f,f ∈ fs→∃ x,DataW.trod enc P w 0 (fun _=>true) true fuel f.type ((cs.drop f.offset).take (P.cellsOf f.type))=some x)→Rel X φ H w→f0J H→acc≤tot →
   k0U P X φ H w (fun H' cs'=>∃ parts:List (List Value),cs' = parts.flatten∧parts.length=fs.length∧∀ i f,fs[i]? = some f→IsT P H' m f.type (parts.getD i [])) (cs.drop acc)
 | [],acc,tot,cs,H,φ,hl,hcs,_,_,hR,hro,_=>by
  simp only [J0i,Option.some.injEq] at hl
  refine ⟨H,φ,[],fun _ _ h=>h,k0B.refl H,hR,hro,?_,[],rfl,rfl,fun i f h=>by simp at h⟩
  rw [List.drop_of_length_le (by omega)];exact CR.nil
 | f :: r,acc,tot,cs,H,φ,hl,hcs,hp,hm,hR,hro,hat=>by
  simp only [J0i] at hl
  split at hl
  case isFalse=>cases hl
  rename_i hoff
  obtain ⟨x,h1⟩:=hm f (by simp)
  have h2:=fun g hg=>hm g (List.mem_cons_of_mem _ hg)
  simp only [List.all_cons,Bool.and_eq_true] at hp
  obtain ⟨H1,φ1,c1,e1,m1,R1,o1,k1,z1⟩:=ih _ _ _ _ _ h1 hp.1 hR hro
  have hlay:∀ (l:List Field) (a t:Nat),J0i P l a=some t→a≤t:=by
   intro l
   induction l with
   | nil=>intro a t h;simp only [J0i,Option.some.injEq] at h;omega
   | cons g l ihl =>
    intro a t h
    simp only [J0i] at h
    split at h
    ·have:=ihl _ _ h;omega
    ·cases h
  have hle:=hlay r _ _ hl
  obtain ⟨H2,φ2,c2,e2,m2,R2,o2,k2,parts,p1,p2,p3⟩:=l0g ih r (acc + P.cellsOf f.type) tot cs H1 φ1 hl hcs hp.2 h2 R1 o1 hle
  refine ⟨H2,φ2,c1 ++ c2,fun b x h=>e2 b x (e1 b x h),m1.trans m2,R2,o2,?_,c1 :: parts,by rw [p1];rfl,by simp [p2],fun i g hi=>?_⟩
  ·have hsplit:cs.drop acc=(cs.drop f.offset).take (P.cellsOf f.type) ++ cs.drop (acc + P.cellsOf f.type):=by
    rw [hoff,← List.drop_drop,List.take_append_drop]
   rw [hsplit]
   exact (k1.mono e2 (fun _ _ h=>h)).append k2
  ·cases i with
   | zero=>simp only [List.getElem?_cons_zero,Option.some.injEq] at hi;subst hi;exact IsT.mono m2 z1
   | succ i=>simp only [List.getElem?_cons_succ] at hi;exact p3 i g hi
theorem l0f {m fuel sz:Nat} {e:TypeId} {a:Addr} {c:Array Value} (hsz:P.cellsOf e=sz) (ih:∀ (t:TypeId) (cs:List Value) (x:DataW D × List MemPlace) (H:a0f) (φ:Inj),DataW.trod enc P w 0 (fun _=>true) true fuel t cs=some x→e0g P m t=true→Rel X φ H w→f0J H →
   k0U P X φ H w (fun H' cs'=>IsT P H' m t cs') cs) (hpe:e0g P m e=true) :
  ∀ (n:Nat),(∀ i,i < n→∃ x,DataW.trod enc P w 0 (fun _=>true) true fuel e ((c.toList.drop (a.off + i * sz)).take sz)=some x)→∀ (H:a0f) (φ:Inj),a.off + n * sz≤c.size→Rel X φ H w→f0J H →
   k0U P X φ H w (fun H' cells=>cells.length=n * sz∧∀ i,i < n→IsT P H' m e ((cells.drop (i * sz)).take sz)) ((c.toList.drop a.off).take (n * sz))
 | 0,_,H,φ,_,hR,hro=>⟨H,φ,[],fun _ _ h=>h,k0B.refl H,hR,hro,by simpa using CR.nil,by simp,fun i hi=>by omega⟩
 | n + 1,hx,H,φ,hle,hR,hro=>by
  have hmul:(n + 1) * sz=n * sz + sz:=by rw [Nat.add_mul];omega
  obtain ⟨H1,φ1,c1,e1,m1,R1,o1,k1,l1,z1⟩:=l0f hsz ih hpe n (fun i hi=>hx i (by omega)) H φ (by omega) hR hro
  obtain ⟨x,hx1⟩:=hx n (by omega)
  obtain ⟨H2,φ2,c2,e2,m2,R2,o2,k2,z2⟩:=ih _ _ _ _ _ hx1 hpe R1 o1
  have hl2:c2.length=sz:=by
   have:=k2.1
   rw [this,List.length_take,List.length_drop,Array.length_toList];omega
  refine ⟨H2,φ2,c1 ++ c2,fun b x h=>e2 b x (e1 b x h),m1.trans m2,R2,o2,?_,by rw [List.length_append,l1,hl2,hmul],fun i hi=>?_⟩
  ·have hsplit:(c.toList.drop a.off).take ((n + 1) * sz)=(c.toList.drop a.off).take (n * sz) ++ (c.toList.drop (a.off + n * sz)).take sz:=by
    rw [hmul,List.take_add,List.drop_drop]
   rw [hsplit]
   exact (k1.mono e2 (fun _ _ h=>h)).append k2
  ·by_cases hin:i < n
   ·have h1:i * sz + sz≤n * sz:=by rw [← Nat.succ_mul];exact Nat.mul_le_mul_right _ hin
    have:((c1 ++ c2).drop (i * sz)).take sz=(c1.drop (i * sz)).take sz:=by
     rw [List.drop_append_of_le_length (by omega),List.take_append_of_le_length (by simp;omega)]
    rw [this];exact IsT.mono m2 (z1 i hin)
   ·have:i=n:=by omega
    subst this
    have:((c1 ++ c2).drop (i * sz)).take sz=c2:=by
     rw [← l1,List.drop_left,List.take_of_length_le (by omega)]
    rw [this];exact z2
theorem m0h:∀ (m fuel:Nat) (t:TypeId) (cs:List Value) (x:DataW D × List MemPlace) (H:a0f) (φ:Inj),DataW.trod enc P w 0 (fun _=>true) true fuel t cs=some x→e0g P m t=true→Rel X φ H w→f0J H →
  k0U P X φ H w (fun H' cs'=>IsT P H' m t cs') cs
 | 0,_,_,_,_,_,_,_,hp,_,_=>by simp [e0g] at hp
 | m + 1,0,_,_,_,_,_,h,_,_,_=>by simp [DataW.trod] at h
 | m + 1,fuel + 1,t,cs,x,H,φ,h,hp,hR,hro=>by
  unfold e0g at hp
  have fin:∀ cs',CR X φ w.shape? cs' cs→IsT P H (m + 1) t cs'→k0U P X φ H w (fun H' cs'=>IsT P H' (m + 1) t cs') cs:=fun cs' h1 h2=>⟨H,φ,cs',fun _ _ h=>h,k0B.refl H,hR,hro,h1,h2⟩
  split at hp
  ·rename_i hu
   obtain ⟨b,rfl,_⟩:=DataW.trod_bool hu h
   refine fin [.bool b] (CR.cons (.bool b) CR.nil) ?_
   unfold IsT;rw [hu];exact ⟨b,rfl⟩
  ·rename_i k hu
   obtain ⟨n,rfl,_,hwf⟩:=DataW.trod_int hu h
   refine fin [.int k n] (CR.cons (.int k n) CR.nil) ?_
   unfold IsT;rw [hu];exact ⟨n,rfl,hwf⟩
  ·rename_i hu
   obtain ⟨s,rfl,_,hs⟩:=DataW.trod_string hu h
   refine fin [.string s] (CR.cons (.str s) CR.nil) ?_
   unfold IsT;rw [hu];exact ⟨s,rfl,hs⟩
  ·rename_i e hu
   simp only [Bool.and_eq_true,bne_iff_ne,ne_eq] at hp
   obtain ⟨⟨_,hpe⟩,hne⟩:=hp
   rcases Go.Deep.open_slice hu h with ⟨rfl,_⟩ | ⟨a,len,cap,mm,n,Dd,Pl,rfl,_,hlc,hcm,hmm,_,hel⟩
   ·refine fin [.slice none 0 0] (CR.cons .snil CR.nil) ?_
    unfold IsT;rw [hu];exact .inl rfl
   ·simp only [if_true] at hmm
    subst hmm
    by_cases hcap:mm=0
    ·have hl0:len=0:=by omega
     subst hcap hl0
     obtain ⟨R2,o2⟩:=hR.pushFree hro e
     refine ⟨H.push (.row true e []),φ,[.slice (some ⟨H.size,0,none⟩) 0 0],fun _ _ h=>h,k0B.push _ _,R2,o2,CR.cons (.sle _ _) CR.nil,?_⟩
     unfold IsT;rw [hu]
     exact .inr ⟨H.size,0,0,[],rfl,Nat.le_refl _,Nat.zero_le _,by rw [a0B,if_pos rfl],by simp,fun i hi=>by omega⟩
    ·obtain ⟨l0,g1,_⟩:=hel 0 (by omega)
     rw [show a.add (0 * P.cellsOf e)=a by simp [Addr.add]] at g1
     obtain ⟨hsp,c,el,fz,hc,hsz0,_⟩:=i0D hne g1
     have hwin:∀ i,i < mm→a.off + i * P.cellsOf e + P.cellsOf e≤c.size∧DataW.trod enc P w 0 (fun _=>true) true n e ((c.toList.drop (a.off + i * P.cellsOf e)).take (P.cellsOf e))=some (Dd i,Pl i):=by
      intro i hi
      obtain ⟨li,q1,q2⟩:=hel i hi
      obtain ⟨_,c',el',fz',q3,q4,q5⟩:=i0D hne q1
      have hab:(a.add (i * P.cellsOf e)).block=a.block∧(a.add (i * P.cellsOf e)).off=a.off + i * P.cellsOf e:=by
       unfold Addr.add;split
       ·rename_i h0;rw [h0];exact ⟨rfl,rfl⟩
       ·exact ⟨rfl,rfl⟩
      rw [hab.1,hc] at q3;cases q3
      rw [hab.2] at q4 q5
      exact ⟨q4,by rw [← q5];exact q2⟩
     have htot:a.off + len * P.cellsOf e≤c.size:=by
      have:=(hwin (mm - 1) (by omega)).1
      have h2:len * P.cellsOf e≤mm * P.cellsOf e:=Nat.mul_le_mul_right _ hlc
      have h3:mm * P.cellsOf e=(mm - 1) * P.cellsOf e + P.cellsOf e:=by
       rw [← Nat.succ_mul];congr 1;omega
      omega
     obtain ⟨H1,φ1,cells,e1,m1,R1,o1,k1,l1,z1⟩:=l0f hb rfl (m0h m n) hpe len (fun i hi=>⟨_,(hwin i (by omega)).2⟩) H φ htot hR hro
     have hlt:a.block < X.base:=by rw [hb];exact (Array.getElem?_eq_some_iff.1 hc).1
     obtain ⟨R2,o2⟩:=R1.pushRo o1 (e:=e) (o:=a.off) (cs:=cells) hc (by rw [l1];exact htot) (by rw [l1];exact k1) hlt
     refine ⟨H1.push (.row true e cells),ad φ1 H1.size a.block a.off,[.slice (some ⟨H1.size,0,none⟩) len mm],fun b x hbx=>r0d R1 (e1 b x hbx),m1.trans (k0B.push _ _),R2,o2,?_,?_⟩
     ·refine CR.cons (.sl _ _ _ _ _ a.block a.off rfl Q0g hsp rfl (fun _=>rfl) (fun _=>rfl) hlc (fun hbase=>by omega)) CR.nil
     ·unfold IsT;rw [hu]
      refine .inr ⟨H1.size,len,mm,cells,rfl,hlc,hcm,by rw [a0B,if_pos rfl],l1,fun i hi=>IsT.mono (k0B.push _ _) (z1 i hi)⟩
  ·rename_i fs hu
   simp only [Bool.and_eq_true,beq_iff_eq] at hp
   obtain ⟨xs,n,hfu,_,hcl,hxl,hxs⟩:=DataW.trod_struct hu h
   have hf:n=fuel:=by omega
   subst hf
   obtain ⟨H1,φ1,c1,e1,m1,R1,o1,k1,parts,p1,p2,p3⟩:=l0g hb (m0h m n) fs.toList 0 (P.cellsOf t) cs H φ hp.1 hcl hp.2 (fun f hf=>by
    obtain ⟨i,hi,rfl⟩:=List.mem_iff_getElem.1 hf
    have:=hxs i fs.toList[i] (by simp)
    rw [List.getElem?_eq_getElem (by rw [hxl];simpa using hi)] at this
    exact ⟨_,this⟩) hR hro (Nat.zero_le _)
   refine ⟨H1,φ1,c1,e1,m1,R1,o1,by simpa using k1,?_⟩
   unfold IsT;rw [hu];exact ⟨parts,p1,p2,p3⟩
  ·cases hp
end
end
/- The row of a law: from what the abstract machine does with arguments that are only read to the statement's contract. -/
section
open Go Go.RowKit Go.ChangeShapes Go.WideShapes Go.ChangeAt
def IsV (P:Program) (H:a0f) (m:Nat) (t:TypeId) (v:Value):Prop :=
 match P.underlying t with
 | some (.struct _)=>∃ cs,v=.agg cs∧IsT P H m t cs.toList
 | _=>IsT P H m t [v]
def F0A (P:Program) (H:a0f) (m:Nat):List TypeId→List Value→Prop
 | [],[]=>True
 | t :: ts,v :: vs=>IsV P H m t v∧F0A P H m ts vs
 | _,_=>False
theorem IsV.mono {P:Program} {H H':a0f} (hx:k0B H H') {m:Nat} {t:TypeId} {v:Value} (h:IsV P H m t v):IsV P H' m t v:=by
 unfold IsV at h ⊢
 split at h
 ·obtain ⟨cs,h1,h2⟩:=h;exact ⟨cs,h1,h2.mono hx⟩
 ·exact IsT.mono hx h
theorem F0A.mono {P:Program} {H H':a0f} (hx:k0B H H') {m:Nat}:∀ {ts:List TypeId} {vs:List Value},F0A P H m ts vs→F0A P H' m ts vs
 | [],[],h=>h
 | t :: ts,v :: vs,h=>⟨h.1.mono hx,F0A.mono hx h.2⟩
 | [],_ :: _,h=>h.elim
 | _ :: _,[],h=>h.elim
variable {X:Cx} {φ:Inj} {H:a0f} {w:World} {D:Type} {enc:TypeId × Value→D} {P:Program}
theorem v0N {t:TypeId} {v:Value} {base:Nat} {m:Nat} (hp:e0g P m t=true) (hns:∀ fs,P.underlying t ≠ some (.struct fs)) (ho:Value.okWide P w .any base t v):v.cells.toList=[v]:=by
 cases m with
 | zero=>simp [e0g] at hp
 | succ m =>
  unfold e0g at hp
  unfold Value.okWide at ho
  cases hu:P.underlying t with
  | none=>simp [hu] at hp
  | some d =>
   cases d <;> simp only [hu] at hp ho <;> try (exact absurd hp Bool.false_ne_true)
   all_goals (first | (exact absurd hu (hns _)) | skip)
   all_goals
    unfold Cell.okWide at ho
    rw [hu] at ho
    unfold Cell.ok at ho
    rw [hu] at ho
    cases v <;> simp_all [Value.cells]
theorem G0k (hb:X.base=w.heap.size) {m:Nat} {t:TypeId} {v:Value} {d:DataW D} {ps:List MemPlace} {base:Nat} (h:DataW.Trod enc P w 0 (fun _=>true) true t v d ps) (hp:e0g P m t=true) (ho:Value.okWide P w .any base t v)
  (hR:Rel X φ H w) (hro:f0J H):∃ H' φ' v',(∀ b x,φ b=some x→φ' b=some x)∧k0B H H'∧Rel X φ' H' w∧f0J H'∧VR X φ' w.shape? v' v∧IsV P H' m t v':=by
 obtain ⟨fuel,h⟩:=h
 obtain ⟨H',φ',cs',e1,m1,R1,o1,k1,z1⟩:=m0h hb m fuel t _ _ H φ h hp hR hro
 by_cases hs:∃ fs,P.underlying t=some (.struct fs)
 ·obtain ⟨fs,hs⟩:=hs
  have ho':=ho
  unfold Value.okWide at ho'
  rw [hs] at ho'
  obtain ⟨cs,rfl,_⟩:=ho'
  refine ⟨H',φ',.agg cs'.toArray,e1,m1,R1,o1,VR.agg_iff.2 (by simpa [Value.cells] using k1),?_⟩
  unfold IsV
  rw [hs]
  exact ⟨_,rfl,by simpa using z1⟩
 ·have hns:∀ fs,P.underlying t ≠ some (.struct fs):=fun fs h=>hs ⟨fs,h⟩
  rw [v0N hp hns ho] at k1
  have hl:cs'.length=1:=by have:=k1.1;simpa using this
  obtain ⟨v',rfl⟩:∃ v',cs' = [v']:=by
   match cs',hl with
   | [v'],_=>exact ⟨v',rfl⟩
  refine ⟨H',φ',v',e1,m1,R1,o1,k1.head,?_⟩
  unfold IsV
  split
  ·rename_i fs hu;exact absurd hu (hns fs)
  ·exact z1
theorem o0c (hb:X.base=w.heap.size) {m:Nat} {base:Nat}:∀ (ts:List TypeId) (vs:List Value) (ds:List (DataW D)) (ps:List MemPlace) (H:a0f) (φ:Inj),DataW.TrodAll enc P w 0 (fun _=>true) true ts vs ds ps →
  (∀ t,t ∈ ts→e0g P m t=true)→(∀ (j:Nat) t v,ts[j]? = some t→vs[j]? = some v→Value.okWide P w .any base t v)→Rel X φ H w→f0J H →
  ∃ H' φ' vs',(∀ b x,φ b=some x→φ' b=some x)∧k0B H H'∧Rel X φ' H' w∧f0J H'∧CR X φ' w.shape? vs' vs∧F0A P H' m ts vs'
 | [],[],[],_,H,φ,_,_,_,hR,hro=>⟨H,φ,[],fun _ _ h=>h,k0B.refl H,hR,hro,CR.nil,trivial⟩
 | t :: ts,v :: vs,d :: ds,ps,H,φ,h,hp,ho,hR,hro=>by
  obtain ⟨p,q,h1,h2,_⟩:=h
  obtain ⟨H1,φ1,v1,e1,m1,R1,o1,k1,z1⟩:=G0k hb h1 (hp t (by simp)) (ho 0 t v rfl rfl) hR hro
  obtain ⟨H2,φ2,vs2,e2,m2,R2,o2,k2,z2⟩:=o0c hb ts vs ds q H1 φ1 h2 (fun t ht=>hp t (by simp [ht])) (fun j t v h1 h2=>ho (j + 1) t v (by simpa using h1) (by simpa using h2)) R1 o1
  exact ⟨H2,φ2,v1 :: vs2,fun b x h=>e2 b x (e1 b x h),m1.trans m2,R2,o2,CR.cons (k1.mono e2 (fun _ _ h=>h)) k2,z1.mono m2,z2⟩
 | [],[],_ :: _,_,_,_,h,_,_,_,_=>h.elim
 | [],_ :: _,_,_,_,_,h,_,_,_,_=>by cases ‹List (DataW D)› <;> exact h.elim
 | _ :: _,[],_,_,_,_,h,_,_,_,_=>by cases ‹List (DataW D)› <;> exact h.elim
 | _ :: _,_ :: _,[],_,_,_,h,_,_,_,_=>h.elim
theorem u0T {f:Func} {s:ChangeSpec} {apart fresh handsOn again:Bool} {W W':World} {args:Array Value} {v:Value} {ds gs:List (DataW D)} {before pa pv:List MemPlace}
  (hW:DataW.Whole enc P f.params.toList s.vars apart W args.toList ds gs before)
  (hres:∀ (b:Nat) (sp:Nat→Bool) (hd:Bool),DataW.TrodAll enc P W' b sp hd f.resultTypes.toList (v.resultList f.resultTypes.size) (s.fn D (ds ++ gs)).results [])
  (hargs:∀ sp:Nat→Bool,(∀ p ∈ before,sp p.block=true)→DataW.TrodAll enc P W' 0 sp true f.params.toList args.toList (s.fn D (ds ++ gs)).args pa)
  (hvars:∀ sp:Nat→Bool,(∀ p ∈ before,sp p.block=true)→DataW.TrodVars enc P W' sp s.vars (s.fn D (ds ++ gs)).vars pv)
  (hps:before=pa ++ pv) (hbe:Below W.heap.size W W')
  (hok:∀ (j:Nat) (t:TypeId) (r:Value),f.resultTypes[j]? = some t→(v.resultList f.resultTypes.size)[j]? = some r→Value.okWide P W' .any 0 t r) :
  s.post enc P f apart fresh handsOn again W args v W':=by
 have hold:∀ p ∈ before,(fun b=>decide (b < W.heap.size)) p.block=true:=fun p hp=>by simpa using hW.lt p hp
 have hk:W.keptBut W' (· ∈ before):=by
  refine ⟨hbe.os,hbe.output,fun i hi=>?_⟩
  rw [hbe.block i hi]
  cases W.heap[i]? with
  | none=>rfl
  | some o=>cases o <;> simp
 refine ⟨ds,gs,before,[],pa,pv,hW,hres _ _ _,hargs _ hold,hvars _ hold,World.keptBut_mono (fun p hp=>⟨hp,?_⟩) hk,fun _=>?_⟩
 ·rw [hps,List.mem_append] at hp
  exact Or.inr hp
 ·have hlt:=hW.lt
  obtain ⟨_,_,_,_,_,hz,hn⟩:=hW
  refine ⟨hok,_,_,([] ++ pa) ++ pv,⟨[] ++ pa,pv,trodAll_append (hargs _ (fun _ _=>rfl)) (hres _ _ _),hvars _ (fun _ _=>rfl),rfl,?_,?_⟩,?_⟩
  ·intro b off hp
   have hp':MemPlace.cell b off ∈ before:=by rw [hps];simpa using hp
   have h1:=hz b off hp'
   have h2:b < W.heap.size:=hlt _ hp'
   have h3:=hbe.block b h2
   unfold World.frozen? at h1 ⊢
   simpa [h3] using h1
  ·intro ha
   have:=hn ha
   rw [hps] at this
   simpa using this
  ·intro p hp _
   rw [hps]
   simpa using hp
theorem h0Q (hl:laidOutB P=true) {W W':World} (hbe:Below W.heap.size W W') {sp:Nat→Bool}:∀ {ts:List TypeId} {vs:List Value} {ds:List (DataW D)} {ps:List MemPlace},
  DataW.TrodAll enc P W 0 (fun _=>true) true ts vs ds ps→(∀ t,t ∈ ts→P.readableRec t=true∧t < P.types.size)→(∀ p ∈ ps,p.block < W.heap.size)→(∀ p ∈ ps,sp p.block=true)→DataW.TrodAll enc P W' 0 sp true ts vs ds ps
 | [],[],[],_,h,_,_,_=>h
 | t :: ts,v :: vs,d :: ds,ps,⟨p,q,h1,h2,e⟩,hr,hlt,hsp=>by
  subst e
  refine ⟨p,q,WideElems.Trod_stays hl (hr t (by simp)).1 (hr t (by simp)).2 h1 (fun x hx=>hbe.same (hlt x (by simp [hx]))) (fun x hx=>hsp x (by simp [hx])),?_,rfl⟩
  exact h0Q hl hbe h2 (fun t ht=>hr t (by simp [ht])) (fun x hx=>hlt x (by simp [hx])) (fun x hx=>hsp x (by simp [hx]))
 | [],[],_ :: _,_,h,_,_,_=>h.elim
 | [],_ :: _,ds,_,h,_,_,_=>by cases ds <;> exact h.elim
 | _ :: _,[],ds,_,h,_,_,_=>by cases ds <;> exact h.elim
 | _ :: _,_ :: _,[],_,h,_,_,_=>h.elim
theorem n0Z {E:Env} (hsim:∀ (base n:Nat),d0C ⟨P,base⟩ (b0e E n)) {f:FuncId} {fn:Func} {s:ChangeSpec} {apart fresh handsOn again:Bool} {m:Nat} {tb:TypeId} (hl:laidOutB P=true) (hts:∀ t,t ∈ fn.params.toList→e0g P m t=true∧P.readableRec t=true∧t < P.types.size)
  (hrt:fn.resultTypes = #[tb]) (htb:P.underlying tb=some .bool) (hv:s.vars=[]) (hs:∀ ds:List (DataW D),ds.length=fn.params.size→s.fn D ds = { results:=[.lit (.bool true)],args:=ds })
  (hdo:∀ (Ha:a0f) (vs:List Value),F0A P Ha m fn.params.toList vs→a0P E Ha.size f vs Ha (fun r _=>r=.bool true) (fun _=>False))
  (W:World) (base:Nat) (args:Array Value) (ds gs:List (DataW D)) (before:List MemPlace)
  (hval:∀ (j:Nat) t v,fn.params[j]? = some t→args[j]? = some v→Value.okWide P W .any base t v)
  (hW:DataW.Whole enc P fn.params.toList s.vars apart W args.toList ds gs before) :
  Calls P f args W fun e W'=>∃ v,e=.returned v∧s.post enc P fn apart fresh handsOn again W args v W':=by
 have hW':=hW
 obtain ⟨p,q,hA,hV,hpq,hfz,hnd⟩:=hW
 rw [hv] at hV
 obtain ⟨rfl,rfl⟩:=trodVars_none hV
 have hb:(⟨P,W.heap.size⟩:Cx).base=W.heap.size:=rfl
 have h0:Rel ⟨P,W.heap.size⟩ (fun _=>none) #[] W:=⟨Nat.le_refl _,fun _ _ h=>by simp at h,fun _ _ _ _ _ _ h=>by simp at h,fun _ _ _ _ _ _ _ h=>by simp at h⟩
 have ho0:f0J #[]:=fun b e cs h=>by simp [a0f.blk] at h
 obtain ⟨Ha,φ,vs,_,_,hR,hro,hcr,hz⟩:=o0c (X:=⟨P,W.heap.size⟩) hb _ _ _ _ #[] (fun _=>none) hA (fun t ht=>(hts t ht).1) (fun j t v h1 h2=>hval j t v (by simpa using h1) (by simpa using h2)) h0 ho0
 obtain ⟨n,hn⟩:=hdo Ha vs hz
 have hsz:ds.length=fn.params.size:=by
  have:∀ (ts:List TypeId) (vs:List Value) (ds:List (DataW D)) (ps:List MemPlace),DataW.TrodAll enc P W 0 (fun _=>true) true ts vs ds ps→ds.length=ts.length:=by
   intro ts
   induction ts with
   | nil=>intro vs ds ps h;cases vs <;> cases ds <;> first | rfl | exact h.elim
   | cons t ts ih =>
    intro vs ds ps h
    cases vs <;> cases ds <;> first | exact h.elim | skip
    obtain ⟨_,_,_,h2,_⟩:=h
    simp [ih _ _ _ h2]
  simpa using this _ _ _ _ hA
 cases hc:b0e E n Ha.size f vs Ha with
 | bad=>rw [hc] at hn;exact hn.elim
 | pan v=>rw [hc] at hn;exact hn.elim
 | ok r =>
  obtain ⟨rv,H'⟩:=r
  rw [hc] at hn
  have hrv:rv=.bool true:=hn
  subst hrv
  refine ((hsim W.heap.size n Ha.size f vs Ha φ W args hR hcr (Nat.le_refl _)).1 _ _ hc).2.mono ?_
  rintro e W' ⟨v',φ',rfl,hvr,hst⟩
  cases hvr
  have hbe:Below W.heap.size W W':=⟨hst.os,hst.tape,hst.out,hst.wsz,fun k hk=>hst.frame k hk fun b o e cs _ _ h=>hro b e cs h⟩
  have hsp:=hs (ds ++ []) (by simpa using hsz)
  have hlt:=hW'.lt
  refine ⟨_,rfl,u0T (pa:=p) (pv:=[]) hW' (fun b sp hd=>?_) (fun sp hsp'=>?_) (fun sp _=>?_) hpq hbe ?_⟩
  ·rw [hsp,hrt]
   exact trodAll_cons_mk (shut_bool htb true) trodAll_mk0
  ·rw [hsp,List.append_nil]
   exact h0Q hl hbe hA (fun t ht=>(hts t ht).2) (fun x hx=>hlt x (by rw [hpq];simp [hx])) (fun x hx=>hsp' x (by rw [hpq];simp [hx]))
  ·rw [hsp,hv];rfl
  ·exact ok_one hrt rfl (okWide_bool_mk htb _)
theorem u0C {m:Nat} {t1 t2 t3:TypeId} {vs:List Value} (h:F0A P H m [t1,t2,t3] vs):∃ u v w,vs=[u,v,w]∧IsV P H m t1 u∧IsV P H m t2 v∧IsV P H m t3 w:=by
 match vs,h with
 | [u,v,w],⟨h1,h2,h3,_⟩=>exact ⟨u,v,w,rfl,h1,h2,h3⟩
end
/- Loops of three parts. -/
section
open Go
def t0M (nt i:Nat) (Inv:Nat→(Nat→Value)→a0f→Prop) (t:a0W) (H:a0f):Prop:=∃ ρ2,t=T nt ρ2∧Inv (i + 1) ρ2 H
theorem t0M.mk {nt i:Nat} {Inv:Nat→(Nat→Value)→a0f→Prop} {ρ:Nat→Value} {H:a0f} (h:Inv (i + 1) ρ H):t0M nt i Inv (T nt ρ) H:=⟨ρ,rfl,h⟩
theorem g0j {n:Nat} (h:n < 4611686018427387904):IntKind.i64.wrap ((n:Int) + 1)=((n + 1:Nat):Int):=by rw [a0L (by omega) (by omega)];omega
def I0W (E:Env) (fl nt:Nat) (rx:List a0G) (R:a0A) (i:Nat) (Inv:Nat→(Nat→Value)→a0f→Prop) (t:a0W) (H:a0f):Prop :=
 WR E fl rx t H (t0M nt i Inv) R
def t0N (E:Env) (fl nt tc b b2 n:Nat) (body:SCode) (rx:List a0G) (Z:a0W→a0f→Prop) (Q:d0V) (R:a0A) (i:Nat) (Inv:Nat→(Nat→Value)→a0f→Prop) (t:a0W) (H:a0f):Prop :=
 ∃ ρ',t=T nt ρ'∧ρ' tc=.bool (decide (i < n))∧(i < n→W E fl body (T nt ρ') H (w0t b2 b (I0W E fl nt rx R i Inv) Z Q) R)∧(i=n→Z (T nt ρ') H)
section
variable {E:Env} {fl nt tc b b2 n i:Nat} {body:SCode} {rx rc:List a0G} {Z:a0W→a0f→Prop} {Q:d0V} {R:a0A} {Inv:Nat→(Nat→Value)→a0f→Prop} {ρ:Nat→Value} {H:a0f}
theorem t0N.mk (h1:ρ tc=.bool (decide (i < n))) (h2:i < n→W E fl body (T nt ρ) H (w0t b2 b (I0W E fl nt rx R i Inv) Z Q) R) (h3:i=n→Z (T nt ρ) H):t0N E fl nt tc b b2 n body rx Z Q R i Inv (T nt ρ) H:=⟨ρ,rfl,h1,h2,h3⟩
theorem v0A (Inv:Nat→(Nat→Value)→a0f→Prop) (n:Nat) (htc:tc < nt) (hI:Inv 0 ρ H)
  (step:∀ i ρ G,i≤n→Inv i ρ G→WR E fl rc (T nt ρ) G (t0N E fl nt tc b b2 n body rx Z Q R i Inv) R) :
  W E fl (.loop (.seq (.seq (.reg rc) (.cond (.tmp tc) .skip (.exit b))) (.seq (.block b2 body) (.reg rx)))) (T nt ρ) H (f0w b (h0P Z Q)) R:=by
 refine b0Y (fun k t G=>∃ i ρ,i + k=n∧t=T nt ρ∧Inv i ρ G) Z n ⟨0,ρ,by omega,rfl,hI⟩ ?_ (fun _ _ h=>h)
 clear hI
 rintro k t G ⟨i,ρ,hik,rfl,hI⟩
 refine h0Y (h0Y (l0D ((step i ρ G (by omega) hI).mono ?_)))
 rintro t' G' ⟨ρ',rfl,h1,h2,h3⟩
 simp only [g0h]
 by_cases hi:i < n
 ·have hd:ρ' tc=.bool true:=by rw [h1,decide_eq_true hi]
  refine n0r true (by rw [l0d,b0Z htc,hd]) (fun _=>v0D ?_) (by simp)
  simp only [g0h]
  refine h0Y (o0V ((h2 hi).mono fun e t2 G2 hq=>?_))
  have fin:I0W E fl nt rx R i Inv t2 G2→h0P (fun t' H'=>W E fl (.reg rx) t' H' (o0d b (fun t' H'=>∃ k',k' < k∧∃ i ρ,i + k' = n∧t' = T nt ρ∧Inv i ρ H') Z Q) R) (o0d b (fun t' H'=>∃ k',k' < k∧∃ i ρ,i + k' = n∧t' = T nt ρ∧Inv i ρ H') Z Q) .normal t2 G2:=by
   intro h
   refine l0D (h.mono ?_)
   rintro t3 G3 ⟨ρ3,rfl,h4⟩
   exact ⟨k - 1,by omega,i + 1,ρ3,by omega,rfl,h4⟩
  cases e with
  | normal=>exact fin hq
  | exit j =>
   simp only [w0t] at hq
   show (if j=b2 then _ else _)
   by_cases hj:j=b2
   ·rw [if_pos hj] at hq ⊢;exact fin hq
   ·rw [if_neg hj] at hq ⊢
    show (if j=b then _ else _)
    by_cases hj2:j=b
    ·rw [if_pos hj2] at hq ⊢;exact hq
    ·rw [if_neg hj2] at hq ⊢;exact hq
  | ret=>exact hq
 ·have he:i=n:=by omega
  have hd:ρ' tc=.bool false:=by rw [h1,decide_eq_false hi]
  refine n0r false (by rw [l0d,b0Z htc,hd]) (by simp) (fun _=>v0B ?_)
  show (if b=b then _ else _)
  rw [if_pos rfl]
  exact h3 he
end
end
/- The references' own equality, limb by limb. -/
section
open Go
set_option maxHeartbeats 4000000
variable {fl:Nat} {H G:a0f} {R:a0A} {v w:Value}
end
/- Which numbers are too long for a law. -/
section
open Go
set_option maxHeartbeats 4000000
variable {fl:Nat} {H G:a0f} {R:a0A} {v w:Value}
theorem Sls.at_ {α:Type} {P:a0f→List Value→α→Prop} {e sz:Nat} {l:List α} (h:Sls P H e sz v l) {j:Nat} (hj:j < l.length) (hs:0 < sz) :
  ∃ b o cs,adr sz v j=.pointer (some ⟨b,o,none⟩)∧cs.length=sz∧P H cs l[j]∧b0F H true sz (.pointer (some ⟨b,o,none⟩))=some (.agg cs.toArray) ∧
   (∀ k n,k + n≤sz→0 < n→b0F H true n (.pointer (some ⟨b,o + k,none⟩))=some (.agg ((cs.drop k).take n).toArray)) ∧
   ∀ k,k < sz→b0F H false 1 (.pointer (some ⟨b,o + k,none⟩))=some (cs.getD k undef):=by
 obtain ⟨cs,⟨hl,h1⟩,h2⟩:=h
 have h3:=h2 j hj
 rcases h1 with ⟨rfl,h1⟩ | ⟨b,off,cap,ro,cells,rfl,hb,ho,rfl⟩
 ·omega
 ·have hj2:(j + 1) * sz≤l.length * sz:=Nat.mul_le_mul_right sz hj
  rw [Nat.add_mul,Nat.one_mul] at hj2
  have e1:(((cells.drop off).take (l.length * sz)).drop (j * sz)).take sz=(cells.drop (off + j * sz)).take sz:=by
   rw [List.drop_take,List.take_take,List.drop_drop,Nat.min_eq_left (by omega)]
  rw [e1] at h3
  have agg:∀ k n,k + n≤sz→0 < n→b0F H true n (.pointer (some ⟨b,off + j * sz + k,none⟩))=some (.agg ((((cells.drop (off + j * sz)).take sz).drop k).take n).toArray):=by
   intro k n hk hn
   have hc:=g0n (off:=off + j * sz + k) (n:=n) hb (by omega)
   simp only [b0F]
   rw [if_neg (by omega),if_neg (by simp)]
   simp only [if_true,hc]
   rw [List.drop_take,List.take_take,List.drop_drop,Nat.min_eq_left (by omega)]
  refine ⟨b,off + j * sz,_,rfl,by simp;omega,h3,?_,agg,?_⟩
  ·have:=agg 0 sz (by omega) hs
   simpa [List.take_take] using this
  ·intro k hk
   have hc:=g0n (off:=off + j * sz + k) (n:=1) hb (by omega)
   simp only [b0F]
   rw [if_neg (by simp),if_neg (by simp)]
   simp only [hc,Bool.false_eq_true,if_false]
   rw [List.head?_take,if_neg (by simp),List.head?_drop,List.getD_eq_getElem?_getD,List.getElem?_take,if_pos (by omega),List.getElem?_drop]
   rw [List.getElem?_eq_getElem (by omega)]
   rfl
end
/- What a law is handed, as lists. -/
section
open Go
variable {H:a0f} {v:Value} {m:Nat} {cs:List Value}
theorem j0H {α:Type} {Q:Nat→α→Prop}:∀ n,(∀ i,i < n→∃ x,Q i x)→∃ l:List α,l.length=n∧∀ i (h:i < l.length),Q i l[i]
 | 0,_=>⟨[],rfl,fun i h=>by simp at h⟩
 | n + 1,h=>by
  obtain ⟨l,h1,h2⟩:=j0H n (fun i hi=>h i (by omega))
  obtain ⟨x,hx⟩:=h n (by omega)
  refine ⟨l ++ [x],by simp [h1],fun i hi=>?_⟩
  by_cases h3:i < l.length
  ·rw [List.getElem_append_left h3];exact h2 i h3
  ·have:i=n:=by simp at hi;omega
   subst this
   rw [List.getElem_append_right (by omega)]
   simpa [h1] using hx
theorem V0Z {α:Type} {Pr:Program} {P:a0f→List Value→α→Prop} {t e:TypeId} {sz:Nat} (hu:Pr.underlying t=some (.slice e)) (hc:Pr.cellsOf e=sz)
  (hel:∀ cs,cs.length=sz→IsT Pr H m e cs→∃ x,P H cs x) (h:IsT Pr H (m + 1) t [v]):∃ l,Sls P H e sz v l:=by
 unfold IsT at h
 rw [hu] at h
 rcases h with h | ⟨b,len,cap,cells,h1,h2,h3,h4,h5,h6⟩
 ·have:v=.slice none 0 0:=by simpa using h
  subst this
  exact ⟨[],Sls.nil⟩
 ·have:v=.slice (some ⟨b,0,none⟩) len cap:=by simpa using h1
  subst this
  rw [hc] at h5 h6
  have hj:∀ i,i < len→i * sz + sz≤cells.length:=by
   intro i hi
   have:(i + 1) * sz≤len * sz:=Nat.mul_le_mul_right _ hi
   rw [Nat.add_mul,Nat.one_mul] at this
   omega
  obtain ⟨l,hl,hk⟩:=j0H (Q:=fun i x=>P H ((cells.drop (i * sz)).take sz) x) len (fun i hi=>hel _ (by have:=hj i hi;simp;omega) (h6 i hi))
  subst hl
  refine ⟨l,cells,⟨h5,.inr ⟨b,0,cap,true,cells,rfl,h4,by omega,?_⟩⟩,hk⟩
  rw [List.drop_zero,← h5,List.take_length]
structure T0F (P:Program):Prop where
 u3:P.underlying 3=some (.int .i64)
 u4:P.underlying 4=some .bool
 u103:P.underlying 103=some (.int .u32)
 u28:P.underlying 28=some (.slice 103)
 u30:∃ f g:Field,P.underlying 30=some (.struct #[f,g])∧f.type=4∧g.type=28
 u32:∃ f g:Field,P.underlying 32=some (.struct #[f,g])∧f.type=30∧g.type=30
 u34:∃ f g:Field,P.underlying 34=some (.struct #[f,g])∧f.type=3∧g.type=32
 u37:P.underlying 37=some (.slice 32)
 u27:P.underlying 27=some (.slice 34)
 u23:P.underlying 23=some (.slice 37)
 u25:∃ f:Field,P.underlying 25=some (.struct #[f])∧f.type=23
 c103:P.cellsOf 103=1
 c37:P.cellsOf 37=1
 c32:P.cellsOf 32=4
 c34:P.cellsOf 34=5
variable {P:Program}
theorem Sls.first {α:Type} {P:a0f→List Value→α→Prop} {e sz:Nat} {l:List α} (h:Sls P H e sz v l) {n:Nat} (hn:n≤l.length) {k:IntKind} :
  ∃ v',e0i sz v none (some (.int k n)) none=some v'∧Sls P H e sz v' (l.take n)∧elemOk H e v=true:=by
 obtain ⟨cs,h1,h2⟩:=h
 obtain ⟨v',h3,h4⟩:=h1.slice (lo:=0) (hi:=n) (x:=none) (y:=some (.int k n)) (Nat.zero_le _) hn rfl (by simp [bnd])
 refine ⟨v',h3,⟨_,by rw [List.length_take,Nat.min_eq_left hn];simpa using h4,?_⟩,h1.elemOk (Ext.refl _)⟩
 intro j hj
 have hj2:j < n:=by simp at hj;omega
 have hj3:(j + 1) * sz≤n * sz:=Nat.mul_le_mul_right _ hj2
 rw [Nat.add_mul,Nat.one_mul] at hj3
 have:=h2 j (by omega)
 simp only [List.getElem_take,Nat.sub_zero,Nat.zero_mul,List.drop_zero]
 rw [List.drop_take,List.take_take,Nat.min_eq_left (by omega)]
 exact this
theorem types:T0F Tryz.prog where
 u3:=Tryz.underlying3
 u4:=by kernel_rfl
 u103:=Tryz.underlying103
 u28:=Tryz.underlying28
 u30:=⟨_,_,Tryz.underlying30,rfl,rfl⟩
 u32:=⟨_,_,Tryz.underlying32,rfl,rfl⟩
 u34:=⟨_,_,Tryz.underlying34,rfl,rfl⟩
 u37:=Tryz.underlying37
 u27:=Tryz.underlying27
 u23:=Tryz.underlying23
 u25:=⟨_,Tryz.underlying25,rfl⟩
 c103:=by kernel_rfl
 c37:=by kernel_rfl
 c32:=by kernel_rfl
 c34:=by kernel_rfl
end
/- Join is the least above, Meet the greatest below, and Le is told by Join: of quotients with two f0x. -/
section
open Go
variable {e f g:e0f}
/-! ### row by row -/
variable {a b c:List e0f}
/-! ### how long -/
end
/- Which tables are too great for a law. -/
section
open Go
set_option maxHeartbeats 4000000
def P0L (E:Env) (fl nt tc b b2:Nat) (body:SCode) (rx:List a0G) (Z:a0W→a0f→Prop) (Q:d0V) (R:a0A) (n i:Nat) (Inv:Nat→(Nat→Value)→a0f→Prop) (t:a0W) (H:a0f):Prop :=
 ∃ ρ' c,t=T nt ρ'∧ρ' tc=.bool c∧(c=true→i < n∧W E fl body (T nt ρ') H (w0t b2 b (I0W E fl nt rx R i Inv) Z Q) R)∧(c=false→Z (T nt ρ') H)
section
variable {E:Env} {fl nt tc b b2 n i:Nat} {body:SCode} {rx rc:List a0G} {Z:a0W→a0f→Prop} {Q:d0V} {R:a0A} {Inv:Nat→(Nat→Value)→a0f→Prop} {ρ:Nat→Value} {H:a0f}
theorem P0L.mk (c:Bool) (h1:ρ tc=.bool c) (h2:c=true→i < n∧W E fl body (T nt ρ) H (w0t b2 b (I0W E fl nt rx R i Inv) Z Q) R) (h3:c=false→Z (T nt ρ) H):P0L E fl nt tc b b2 body rx Z Q R n i Inv (T nt ρ) H:=⟨ρ,c,rfl,h1,h2,h3⟩
end
variable {fl:Nat} {H G:a0f} {R:a0A} {v w:Value}
end
/- The reference's numbers: trim, May, norm, mk. -/
section
open Go
set_option maxHeartbeats 4000000
@[simp] theorem P0f {w:Bool}:v0f w undef=false:=nr rfl
variable {fl:Nat} {H G:a0f} {R:a0A} {v w:Value} {l:List Nat} {i:Bool × List Nat}
def newB (H:a0f) (r:Value):Prop:=∀ q,slB r=some q→H.size≤q
theorem Own.newB {e sz n:Nat} {cs:List Value} (h:Own H.size G e sz v n cs):AI.newB H v:=by
 obtain ⟨_,⟨rfl,_⟩ | ⟨b,cap,rfl,_,hb⟩⟩:=h
 ·intro q hq;cases hq
 ·intro q hq
  simp only [slB,Option.some.injEq] at hq
  omega
theorem newB.of {u:Value} (h:newB H v) (he:slB u=slB v):newB H u:=fun q hq=>h q (by rw [← he];exact hq)
theorem newB.ne {p:Nat} (h:newB H v) (hp:p < H.size):slB v ≠ some p:=fun he=>by have:=h p he;omega
theorem F0p {x y z:Option Value} {n:Nat} {u:Value} (h:e0i n v x y z=some u):slB u=slB v:=by
 unfold e0i at h
 split at h
 ·rename_i p len cap
  split at h
  ·split at h
   ·split at h
    ·simp only [Option.some.injEq] at h
     subst h
     cases p <;> rfl
    ·split at h
     ·split at h
      ·simp only [Option.some.injEq] at h
       subst h
       cases p <;> rfl
      ·cases h
     ·cases h
   ·cases h
  ·cases h
 ·cases h
theorem m0A (h:Lim H v l) (hf:fl≤H.size) (hn:l.length < 4611686018427387904):a0P env fl u0e [v] H (fun r H'=>(Lim H' r (d0k l)∧slB r=slB v)∧Ext H H') R:=by
 refine a0l U0z hf (h:=?_)
 intro ρ h0
 simp [H0p,x0v,x0w,h0,h.slen]
 refine b0Y (fun k t G=>G=H∧t.length=21∧get t 0=v∧get t 3=.int .i64 k∧k≤l.length∧d0k (l.take k)=d0k l)
  (fun t G=>∃ k:Nat,G=H∧t.length=21∧get t 0=v∧get t 3=.int .i64 k∧k≤l.length∧d0k l=l.take k) l.length (by simp [h0]) ?_ ?_
 ·rintro k t G ⟨rfl,ht,g0,g3,hk,htr⟩
  obtain ⟨ρ,rfl⟩:=toT ht
  simp only [b0Z,Nat.reduceLT] at g0 g3
  by_cases hk0:k=0
  ·subst hk0
   simp [p0C,g0,g3]
   exact ⟨0,by simp,by simp,by rw [← htr];rfl⟩
  ·have hp:0 < k:=by omega
   have w1:IntKind.i64.wrap ((k:Int) - 1)=((k - 1:Nat):Int):=by rw [a0L (by omega) (by omega)];omega
   simp [p0C,x0x,g0,g3,hp,w1,h.ia (show k - 1 < l.length by omega),h.load (show k - 1 < l.length by omega)]
   have hk1:l.take k=l.take (k - 1) ++ [l.getD (k - 1) 0]:=by rw [← d0T (by omega)];congr 1;omega
   rw [List.getD_eq_getElem?_getD] at hk1
   refine ⟨fun hz=>⟨k - 1,by omega,rfl,by omega,?_⟩,fun hz=>⟨k,rfl,hk,?_⟩⟩
   ·rw [← htr,hk1,hz,k0v]
   ·rw [← htr,hk1,i0y hz]
 ·rintro t G ⟨k,rfl,ht,g0,g3,hk,htr⟩
  obtain ⟨ρ,rfl⟩:=toT ht
  simp only [b0Z,Nat.reduceLT] at g0 g3
  obtain ⟨v',h1,h2⟩:=h.take hk (x:=none) rfl (y:=some (.int .i64 (k:Int))) (by simp)
  simp [x0y,g0,g3,h.elemOk,h1]
  rw [htr];exact ⟨h2,F0p h1⟩
theorem o0u (h:Lim H v l) (hf:fl≤H.size) (hn:l.length < 4611686018427387904):a0P env fl u0e [v] H (fun r H'=>Lim H' r (d0k l)∧Ext H H') R:=(m0A h hf hn).mono fun _ _ h=>⟨h.1.1,h.2⟩
theorem W0e {G G3:a0f} {q:Nat} {r:Blk} {ro:Bool} {cs:List Value} {s:Value} (hS:Array.setIfInBounds G q r=G3) (hx:Ext H G) (hs:Lim G s l) (hb:a0f.blk G q=.row ro a0c cs) (hq:H.size≤q) :
  Lim G3 s l∧Ext H G3∧a0f.blk G3 q=r:=⟨by rw [← hS];exact hs.setT hb (by decide),b0x hS hx hq,a0C hS hb⟩
theorem l0r {b:Bool} (z:Int) (h:Lim H v l) (hf:fl≤H.size) (hn:l.length≤1073741824) (hz:(if b then -(a0D l:Int) else a0D l)=z) :
  a0P env fl Q0P [.bool b,v] H (fun r H'=>b0q H' r (a0n z)∧Ext H H') R:=by
 rw [← hz,← J0n h.ok]
 refine a0l W0X hf (h:=?_)
 intro ρ h0
 simp [T0m,L0m,L0n,h0]
 generalize hG:Array.push H _=G
 obtain ⟨hx2,b0⟩:=k0C hG
 have hx:=Ext.refl H
 clear hG
 replace hx:=hx.trans hx2
 replace h:=h.mono hx
 refine (o0u h hx.1 (by omega)).mono ?_
 rintro u G2 ⟨ht,hx2⟩
 replace b0:=hx2.blk b0;replace hx:=hx.trans hx2
 have hsz:=hx.1
 simp
 by_cases hl:d0k l=[]
 ·have hk:mkI b l=(false,[]):=by simp [mkI,hl]
  rw [hk]
  rw [hl] at ht
  simp [E0K,L0o,ht.slen,b0,hsz]
  generalize hS:Array.setIfInBounds G2 _ _=G3
  have b3:=a0C hS b0
  simp [b3]
  exact fun _=>⟨.slice none 0 0,rfl,Lim.nil⟩
 ·have hk:mkI b l=(b,d0k l):=by simp [mkI,hl]
  rw [hk]
  have hl':¬ (d0k l).length=0:=by simpa using hl
  have hle:(d0k l).length≤l.length:=by
   rw [e0Q l h.ok];exact g0o (f0X l h.ok)
  simp [E0K,L0p,ht.slen,b0,hsz,hl,h0]
  have hx4:Ext G2 (G2.push (.row false a0m [])):=(Ext.refl G2).push
  have hlt:=a0k b0
  obtain ⟨v',G',h1,h2,h3,h4⟩:=j0x (fl:=H.size) (G:=G2.push (.row false a0m [])) (s:=.slice (some ⟨G2.size,0,none⟩) 0 0) (e:=a0m) (cs:=[]) (sz:=1) (n:=0) (bytes:=4) (e2:=a0m)
   (Own.mk a0y rfl hsz) (ht.mono hx4).1 l0p (by omega) (by omega) (by omega) (by simp;omega)
  rw [Nat.zero_add,List.nil_append] at h2
  have b4:G'.blk H.size=.row false a0c [.bool false,.slice none 0 0]:=by
   rw [h3.2 _ (by simp;omega) (by simp [slB];omega)]
   exact hx4.blk b0
  have kL:Lim G' v' (d0k l):=⟨h2.sl,ht.2⟩
  have hx5:Ext H G':=h4 H (Nat.le_refl _) (hx.trans hx4)
  simp [h1,kL.cells,kL.plain,b4,b0r]
  generalize hS:Array.setIfInBounds G' _ _=G3
  obtain ⟨kS,hx3,b3⟩:=W0e hS hx5 kL b4 (by omega)
  simp [b3]
  exact fun _=>⟨v',rfl,kS⟩
end
/- a tableau as it lies, of either ring: one text for both. -/
section
open Go
set_option maxHeartbeats 4000000
variable {fl:Nat} {H G:a0f} {R:a0A} {v w u:Value}
def f0n (_:a0f) (w:Value) (z:Int):Prop:=w=.int .i64 z∧e0l z
def f0i (H:a0f) (w:Value) (z:Int):Prop:=b0q H w (a0n z)
def e0E (R:a0A):Prop:=R q0T
def f0v (_:a0A):Prop:=True
section
variable {z a b c d e:Int} {wa wb wc wd we:Value}
theorem f0n.mono (h:f0n H w z) (_:Ext H G):f0n G w z:=h
theorem f0i.mono (h:f0i H w z) (hx:Ext H G):f0i G w z:=b0q.mono h hx
theorem f0n.lx (h:f0n H w z) (_:Lx H G):f0n G w z:=h
theorem f0i.lx (h:f0i H w z) (hx:Lx H G):f0i G w z:=b0q.lx h hx
theorem f0n.st (h:f0n H w z):(a0K w).length=1∧(a0K w).all a0u=true∧PF H (a0K w) z:=by obtain ⟨rfl,h⟩:=h;exact ⟨rfl,rfl,rfl,h⟩
theorem f0i.st (h:f0i H w z):(a0K w).length=2∧(a0K w).all a0u=true∧PI H (a0K w) z:=by
 obtain ⟨s,rfl,h⟩:=h;exact ⟨rfl,by simp [h.plain],s,rfl,h⟩
theorem f0T (h:f0n H w z) (hf:fl≤H.size) (_:lz z < 67108864):a0P env fl g0T [eV,w] H (fun r H'=>r=.int .i64 (b0T z 0)∧Ext H H') R:=by obtain ⟨rfl,_⟩:=h;exact m0d hf
theorem f0N (h:f0i H w z) (hf:fl≤H.size) (hl:lz z < 67108864):a0P env fl g0R [eV,w] H (fun r H'=>r=.int .i64 (b0T z 0)∧Ext H H') R:=l0H h hf hl
theorem j0i (h:f0n H w z) (hf:fl≤H.size) (_:lz z < 67108864):a0P env fl g0S [eV,w] H (fun r H'=>f0n H' r (-z)∧Ext H H') R:=by
 obtain ⟨rfl,h⟩:=h;exact (n0S hf h).mono fun r H' ⟨h1,h2⟩=>⟨⟨h1,by unfold e0l at *;omega⟩,h2⟩
theorem j0f (h:f0i H w z) (hf:fl≤H.size) (hl:lz z < 67108864):a0P env fl g0Q [eV,w] H (fun r H'=>f0i H' r (-z)∧Ext H H') R:=n0s h hf hl
theorem u0A (ha:f0n H wa a) (hb:f0n H wb b) (hc:f0n H wc c) (hd:f0n H wd d) (hf:fl≤H.size) (_:lz a < 67108864) (_:lz b < 67108864) (_:lz c < 67108864) (_:lz d < 67108864) :
  a0P env fl p0j [eV,wa,wb,wc,wd] H (fun r H'=>r=.int .i64 (b0T (a * b) (c * d))∧Ext H H') R:=by
 obtain ⟨rfl,ha⟩:=ha;obtain ⟨rfl,hb⟩:=hb;obtain ⟨rfl,hc⟩:=hc;obtain ⟨rfl,hd⟩:=hd
 exact k0L hf ha hb hc hd
theorem t0V (ha:f0i H wa a) (hb:f0i H wb b) (hc:f0i H wc c) (hd:f0i H wd d) (hf:fl≤H.size) (la:lz a < 67108864) (lb:lz b < 67108864) (lc:lz c < 67108864) (ld:lz d < 67108864) :
  a0P env fl p0i [eV,wa,wb,wc,wd] H (fun r H'=>r=.int .i64 (b0T (a * b) (c * d))∧Ext H H') R:=k0F ha hb hc hd hf la lb lc ld
theorem w0r (ha:f0n H wa a) (hb:f0n H wb b) (hc:f0n H wc c) (hd:f0n H wd d) (he:f0n H we e) (hf:fl≤H.size) (_:lz a < 67108864) (_:lz b < 67108864) (_:lz c < 67108864) (_:lz d < 67108864) (_:lz e < 67108864) (he0:e ≠ 0) (hR:e0E R) :
  a0P env fl l0W [eV,wa,wb,wc,wd,we] H (fun r H'=>f0n H' r ((a * b - c * d).tdiv e)∧Ext H H') R:=by
 obtain ⟨rfl,ha⟩:=ha;obtain ⟨rfl,hb⟩:=hb;obtain ⟨rfl,hc⟩:=hc;obtain ⟨rfl,hd⟩:=hd;obtain ⟨rfl,_⟩:=he
 exact h0o hf ha hb hc hd he0 hR
theorem v0G (ha:f0i H wa a) (hb:f0i H wb b) (hc:f0i H wc c) (hd:f0i H wd d) (he:f0i H we e) (hf:fl≤H.size) (la:lz a < 67108864) (lb:lz b < 67108864) (lc:lz c < 67108864) (ld:lz d < 67108864) (le:lz e < 67108864) (he0:e ≠ 0) (_:f0v R) :
  a0P env fl l0V [eV,wa,wb,wc,wd,we] H (fun r H'=>f0i H' r ((a * b - c * d).tdiv e)∧Ext H H') R:=h0j ha hb hc hd he hf la lb lc ld le he0
theorem p0l (h:b0q H v (a0n z)) (hf:fl≤H.size) (hl:lz z < 67108864) (hR:e0E R):a0P env fl f0m [eV,v] H (fun r H'=>f0n H' r z∧Ext H H') R:=j0M h hf (by omega) hR
theorem o0X (h:b0q H v (a0n z)) (hf:fl≤H.size) (_:lz z < 67108864) (_:f0v R):a0P env fl f0G [eV,v] H (fun r H'=>f0i H' r z∧Ext H H') R:=g0K h hf
end
def Frm (tT eN:Nat) (H H':a0f):Prop:=H.size≤H'.size∧∀ e,e ≠ tT→e ≠ eN→e ≠ d0z→LxT e H H'
theorem Frm.refl {tT eN:Nat}:Frm tT eN H H:=⟨Nat.le_refl _,fun _ _ _ _ _ _ _ h=>h⟩
theorem Frm.trans {tT eN:Nat} {H2:a0f} (h:Frm tT eN H G) (k:Frm tT eN G H2):Frm tT eN H H2:=⟨Nat.le_trans h.1 k.1,fun e h1 h2 h3 b ro cs hb=>k.2 e h1 h2 h3 b ro cs (h.2 e h1 h2 h3 b ro cs hb)⟩
theorem Ext.frm {tT eN:Nat} (h:Ext H G):Frm tT eN H G:=⟨h.1,fun _ _ _ _ _ _ _ hb=>h.blk hb⟩
theorem i0e {K:Value→a0f→Prop} {f:FuncId} {args:List Value} {sf:q0Z} (hc:env.code f=some sf) (hf:fl≤H.size) (hl:args.length=sf.np:=by rfl) (hnt:args.length≤sf.nt:=by exact of_decide_eq_true rfl)
  (h:∀ ρ:Nat→Value,(∀ i,ρ i=args.getD i undef)→W env fl sf.body (T sf.nt ρ) H (Q0D (fun t' H'=>u0X H' t' sf.res fun v=>K v H')) R) :
  a0P env fl f args H (fun v H'=>K v H'∧f0h fl H H') R:=by
 refine (l0N (K:=K) hc hl hnt (fun t h1 h2=>?_)).keep hf
 have h3:=h (get t) h2
 rw [← F0H h1] at h3
 refine h3.mono fun e t' H' hq=>?_
 cases e with
 | exit i=>exact absurd hq id
 | normal=>exact ⟨trivial,hq⟩
 | ret=>exact ⟨trivial,hq⟩
def Tf (L:List (List Int)) (i c:Nat):Int:=(L.getD i []).getD c 0
def bf (bs:List Nat) (i:Nat):Nat:=bs.getD i 0
theorem n0p {L:List (List Int)} {i c:Nat} (hi:i < L.length) (hc:c < L[i].length):Tf L i c=L[i][c]:=by
 unfold Tf;rw [List.getD_eq_getElem?_getD,List.getD_eq_getElem?_getD,List.getElem?_eq_getElem hi,Option.getD_some,List.getElem?_eq_getElem hc];rfl
theorem Q0i {bs:List Nat} {i:Nat} (hi:i < bs.length):bf bs i=bs[i]:=by
 unfold bf;rw [List.getD_eq_getElem?_getD,List.getElem?_eq_getElem hi];rfl
structure ShT (n m:Nat) (L:List (List Int)) (bs:List Nat):Prop where
 len:L.length=m + 2
 row:∀ i (h:i < L.length),L[i].length=2 * n + m + 1
 base:bs.length=m
theorem ShT.set {n m i j:Nat} {L:List (List Int)} {bs:List Nat} {x:Int} (h:ShT n m L bs) (hi:i < L.length):ShT n m (L.set i (L[i].set j x)) bs:=by
 refine ⟨by simp [h.len],fun r hr=>?_,h.base⟩
 have hr':r < L.length:=by simpa using hr
 by_cases hri:r=i
 ·subst hri;simp [h.row r hr']
 ·rw [List.getElem_set_ne (by omega)];exact h.row r hr'
theorem r0a {n m i j r c:Nat} {L:List (List Int)} {bs:List Nat} {x:Int} (h:ShT n m L bs) (hi:i < L.length) (hj:j < L[i].length):Tf (L.set i (L[i].set j x)) r c=if r=i∧c=j then x else Tf L r c:=by
 unfold Tf
 simp only [List.getD_eq_getElem?_getD,List.getElem?_set]
 by_cases hri:i=r
 ·subst hri
  simp only [if_true,hi,Option.getD_some,List.getElem?_set,true_and]
  by_cases hcj:j=c
  ·subst hcj;simp [hj]
  ·rw [if_neg hcj,if_neg (fun h=>hcj h.symm),List.getElem?_eq_getElem hi];rfl
 ·rw [if_neg hri,if_neg (fun h=>hri h.1.symm)]
structure b0B (fl:Nat) (H:a0f) (p n m:Nat) (L:List (List Int)) (D:Int) (bs:List Nat) (k:Int) (sR sD sB:Value) (vs:List Value):Prop where
 blk:a0f.blk H p=.row false a0b [.int .i64 (n:Int),.int .i64 (m:Int),.int .i64 ((2 * n + m:Nat):Int),sR,.int .i64 D,sB,.int .i64 k]
 low:fl≤p
 d:e0l D
 heads:a0Z PV fl H b0L 1 sR vs
 rows:d0D b0N 1 PF fl H vs L
 basis:a0Z PK fl H d0z 1 sB bs
section
variable {p n m i j:Nat} {L:List (List Int)} {k D x:Int} {bs:List Nat} {sR sD sB:Value} {vs:List Value}
theorem b0B.mono (h:b0B fl H p n m L D bs k sR sD sB vs) (hx:Ext H G):b0B fl G p n m L D bs k sR sD sB vs :=
 ⟨hx.blk h.blk,h.low,h.d,h.heads.mono l0m hx,h.rows.mono v0k hx,h.basis.mono l0l hx⟩
theorem b0B.store (h:b0B fl H p n m L D bs k sR sD sB vs) (hi:i < L.length) (hj:j < L[i].length) {w:Value} (hx:f0n H w x) :
  ∃ G,d0F fl H 1 (adr 1 (vs[i]'(by have:=h.rows.len;omega)) j) w=some G∧b0B fl G p n m (L.set i (L[i].set j x)) D bs k sR sD sB vs∧Frm a0b b0N H G∧d0G (slB (vs[i]'(by have:=h.rows.len;omega))) H G:=by
 obtain ⟨G,h1,h2,h3,h4⟩:=h.rows.store v0k hi hj (w:=w) (x:=x) hx.st.1 hx.st.2.1 hx.st.2.2
 have hr:=h.rows.own i hi
 have hne:=hr.ne h.blk (by decide)
 exact ⟨G,h1,⟨(h3.2 _ (a0k h.blk) hne).trans h.blk,h.low,h.d,h.heads.lxm (hr.lxT (by decide) h3) (fun _ _ h=>h),h2,h.basis.lxm (hr.lxT (by decide) h3) (fun _ _ h=>h)⟩,⟨h3.1,fun e _ he _=>hr.lxT (Ne.symm he) h3⟩,h3⟩
theorem b0B.head (h:b0B fl H p n m L D bs k sR sD sB vs) (hi:i < L.length) :
  b0F H false 1 (adr 1 sR i)=some (vs[i]'(by have:=h.rows.len;omega)):=by
 have hl:=h.rows.len
 obtain ⟨w,h1,h2⟩:=h.heads.sls.load1 (j:=i) (by omega)
 rw [h1]
 have:[w]=[vs[i]'(by omega)]:=h2
 simpa using this
theorem b0B.hia (h:b0B fl H p n m L D bs k sR sD sB vs) (hi:i < L.length):iaV 1 sR (.int .i64 i)=some (adr 1 sR i):=h.heads.sls.ia (by have:=h.rows.len;omega)
theorem b0B.ia (h:b0B fl H p n m L D bs k sR sD sB vs) (hi:i < L.length) (hj:j < L[i].length):iaV 1 (vs[i]'(by have:=h.rows.len;omega)) (.int .i64 j)=some (adr 1 (vs[i]'(by have:=h.rows.len;omega)) j):=(h.rows.own i hi).sls.ia hj
theorem b0B.num (h:b0B fl H p n m L D bs k sR sD sB vs) (hi:i < L.length) (hj:j < L[i].length) :
  ∃ w,b0F H false 1 (adr 1 (vs[i]'(by have:=h.rows.len;omega)) j)=some w∧f0n H w (Tf L i j):=by
 rw [n0p hi hj]
 obtain ⟨w,h1,h2,h3⟩:=(h.rows.own i hi).sls.load1 (j:=j) hj;exact ⟨w,h1,by simpa using h2,h3⟩
theorem b0B.base (h:b0B fl H p n m L D bs k sR sD sB vs) (hi:i < bs.length):b0F H false 1 (adr 1 sB i)=some (.int .i64 (bf bs i:Int))∧iaV 1 sB (.int .i64 i)=some (adr 1 sB i):=by
 obtain ⟨w,h1,h2⟩:=h.basis.sls.load1 (j:=i) hi
 rw [h1,Q0i hi]
 have:[w]=[.int .i64 (bs[i]:Int)]:=h2
 exact ⟨by simpa using this,h.basis.sls.ia hi⟩
theorem b0B.dv (h:b0B fl H p n m L D bs k sR sD sB vs):f0n H (.int .i64 D) D:=⟨rfl,h.d⟩
end
structure b0A (fl:Nat) (H:a0f) (p n m:Nat) (L:List (List Int)) (D:Int) (bs:List Nat) (k:Int) (sR sD sB:Value) (vs:List Value):Prop where
 blk:a0f.blk H p=.row false a0a [.int .i64 (n:Int),.int .i64 (m:Int),.int .i64 ((2 * n + m:Nat):Int),sR,.bool (a0n D).1,sD,sB,.int .i64 k]
 low:fl≤p
 d:Lim H sD (a0n D).2
 heads:a0Z PV fl H a0Q 1 sR vs
 rows:d0D a0c 2 PI fl H vs L
 basis:a0Z PK fl H d0z 1 sB bs
section
variable {p n m i j:Nat} {L:List (List Int)} {k D x:Int} {bs:List Nat} {sR sD sB:Value} {vs:List Value}
theorem b0A.mono (h:b0A fl H p n m L D bs k sR sD sB vs) (hx:Ext H G):b0A fl G p n m L D bs k sR sD sB vs :=
 ⟨hx.blk h.blk,h.low,h.d.mono hx,h.heads.mono l0m hx,h.rows.mono v0j hx,h.basis.mono l0l hx⟩
theorem b0A.store (h:b0A fl H p n m L D bs k sR sD sB vs) (hi:i < L.length) (hj:j < L[i].length) {w:Value} (hx:f0i H w x) :
  ∃ G,d0F fl H 2 (adr 2 (vs[i]'(by have:=h.rows.len;omega)) j) w=some G∧b0A fl G p n m (L.set i (L[i].set j x)) D bs k sR sD sB vs∧Frm a0a a0c H G∧d0G (slB (vs[i]'(by have:=h.rows.len;omega))) H G:=by
 obtain ⟨G,h1,h2,h3,h4⟩:=h.rows.store v0j hi hj (w:=w) (x:=x) hx.st.1 hx.st.2.1 hx.st.2.2
 have hr:=h.rows.own i hi
 have hne:=hr.ne h.blk (by decide)
 exact ⟨G,h1,⟨(h3.2 _ (a0k h.blk) hne).trans h.blk,h.low,h.d.lx h4,h.heads.lxm (hr.lxT (by decide) h3) (fun _ _ h=>h),h2,h.basis.lxm (hr.lxT (by decide) h3) (fun _ _ h=>h)⟩,⟨h3.1,fun e _ he _=>hr.lxT (Ne.symm he) h3⟩,h3⟩
theorem b0A.head (h:b0A fl H p n m L D bs k sR sD sB vs) (hi:i < L.length) :
  b0F H false 1 (adr 1 sR i)=some (vs[i]'(by have:=h.rows.len;omega)):=by
 have hl:=h.rows.len
 obtain ⟨w,h1,h2⟩:=h.heads.sls.load1 (j:=i) (by omega)
 rw [h1]
 have:[w]=[vs[i]'(by omega)]:=h2
 simpa using this
theorem b0A.hia (h:b0A fl H p n m L D bs k sR sD sB vs) (hi:i < L.length):iaV 1 sR (.int .i64 i)=some (adr 1 sR i):=h.heads.sls.ia (by have:=h.rows.len;omega)
theorem b0A.ia (h:b0A fl H p n m L D bs k sR sD sB vs) (hi:i < L.length) (hj:j < L[i].length):iaV 2 (vs[i]'(by have:=h.rows.len;omega)) (.int .i64 j)=some (adr 2 (vs[i]'(by have:=h.rows.len;omega)) j):=(h.rows.own i hi).sls.ia hj
theorem b0A.num (h:b0A fl H p n m L D bs k sR sD sB vs) (hi:i < L.length) (hj:j < L[i].length) :
  ∃ w,b0F H true 2 (adr 2 (vs[i]'(by have:=h.rows.len;omega)) j)=some w∧f0i H w (Tf L i j):=by
 rw [n0p hi hj]
 obtain ⟨cs,h1,_,h3⟩:=Sls.load (h.rows.own i hi).sls (j:=j) hj (by omega);exact ⟨_,h1,h3⟩
theorem b0A.base (h:b0A fl H p n m L D bs k sR sD sB vs) (hi:i < bs.length):b0F H false 1 (adr 1 sB i)=some (.int .i64 (bf bs i:Int))∧iaV 1 sB (.int .i64 i)=some (adr 1 sB i):=by
 obtain ⟨w,h1,h2⟩:=h.basis.sls.load1 (j:=i) hi
 rw [h1,Q0i hi]
 have:[w]=[.int .i64 (bs[i]:Int)]:=h2
 exact ⟨by simpa using this,h.basis.sls.ia hi⟩
theorem b0A.dv (h:b0A fl H p n m L D bs k sR sD sB vs):f0i H (.agg #[.bool (a0n D).1,sD]) D:=⟨sD,rfl,h.d⟩
end
end
/- Determinants of whole numbers: linear, alternating; Cramer's rule; a bound. -/
end Go.Proofs.YtjlohmnnldbjoaaGreat.AI
namespace Go.Proofs.YtjlohmnnldbjoaaGreat.SX
def sm (f:Nat→Int):Nat→Int
 | 0=>0
 | n + 1=>sm f n + f n
theorem b0a {f g:Nat→Int}:∀ {n:Nat},(∀ i,i < n→f i=g i)→sm f n=sm g n
 | 0,_=>rfl
 | n + 1,h=>by rw [sm,sm,b0a (fun i hi=>h i (by omega)),h n (by omega)]
theorem o0C {f g:Nat→Int}:∀ {n:Nat},sm (fun i=>f i + g i) n=sm f n + sm g n
 | 0=>rfl
 | n + 1=>by simp only [sm];rw [o0C];omega
theorem e0w {a:Int} {f:Nat→Int}:∀ {n:Nat},sm (fun i=>a * f i) n=a * sm f n
 | 0=>by simp [sm]
 | n + 1=>by simp only [sm];rw [e0w,Int.mul_add]
theorem t0F {a b:Int} {f g:Nat→Int} {n:Nat}:sm (fun i=>a * f i + b * g i) n=a * sm f n + b * sm g n:=by
 rw [o0C,e0w,e0w]
theorem d0P {f:Nat→Int}:∀ {n:Nat},(∀ i,i < n→f i=0)→sm f n=0
 | 0,_=>rfl
 | n + 1,h=>by rw [sm,d0P (fun i hi=>h i (by omega)),h n (by omega)];rfl
theorem f0D {f:Nat→Int} {k:Nat}:∀ {n:Nat},k < n→(∀ i,i < n→i ≠ k→f i=0)→sm f n=f k
 | 0,h,_=>by omega
 | n + 1,h,h0=>by
  rw [sm]
  by_cases hk:k=n
  ·subst hk;rw [d0P (fun i hi=>h0 i (by omega) (by omega))];omega
  ·rw [f0D (by omega) (fun i hi hne=>h0 i (by omega) hne),h0 n (by omega) (by omega)];omega
theorem M0E {f:Nat→Int} {k l:Nat}:∀ {n:Nat},k < l→l < n→(∀ i,i < n→i ≠ k→i ≠ l→f i=0)→sm f n=f k + f l
 | 0,_,h,_=>by omega
 | n + 1,h1,h,h0=>by
  rw [sm]
  by_cases hl:l=n
  ·subst hl;rw [f0D (k:=k) h1 (fun i hi hne=>h0 i (by omega) hne (by omega))]
  ·rw [M0E h1 (by omega) (fun i hi ha hb=>h0 i (by omega) ha hb),h0 n (by omega) (by omega) (by omega)];omega
theorem h0O {f:Nat→Int} {k:Nat}:∀ {n:Nat},k < n→sm f n=f k + sm (fun i=>if i=k then 0 else f i) n
 | 0,h=>by omega
 | n + 1,h=>by
  simp only [sm]
  by_cases hk:k=n
  ·subst hk
   rw [if_pos rfl,b0a (f:=fun i=>if i=k then 0 else f i) (g:=f) (fun i hi=>by rw [if_neg (by omega)])];omega
  ·rw [h0O (k:=k) (f:=f) (by omega),if_neg (by omega)];omega
def skip (k i:Nat):Nat:=if i < k then i else i + 1
def up {α:Type} (v:Nat→α) (k:Nat) (x:α):Nat→α:=fun i=>if i=k then x else v i
theorem b0b {α:Type} {v:Nat→α} {k:Nat} {x:α}:up v k x k=x:=by simp [up]
theorem e0e {α:Type} {v:Nat→α} {k i:Nat} {x:α} (h:i ≠ k):up v k x i=v i:=by simp [up,h]
def sgn (k:Nat):Int:=if k % 2=0 then 1 else -1
theorem I0M (k:Nat):sgn (k + 1) = -sgn k:=by unfold sgn;split <;> split <;> omega
def det:Nat→(Nat→Nat→Int)→Int
 | 0,_=>1
 | m + 1,v=>sm (fun k=>sgn (k + m) * (v k m * det m (fun i=>v (skip k i)))) (m + 1)
theorem h0l:∀ {m:Nat} {v w:Nat→Nat→Int},(∀ i r,i < m→r < m→v i r=w i r)→det m v=det m w
 | 0,_,_,_=>rfl
 | m + 1,v,w,h=>by
  unfold det
  refine b0a fun k hk=>?_
  rw [h k m hk (by omega),h0l (v:=fun i=>v (skip k i)) (w:=fun i=>w (skip k i)) (fun i r hi hr=>h _ r (by unfold skip;split <;> omega) (by omega))]
theorem q0S {v:Nat→Nat→Int} {k i:Nat} {x:Nat→Int} (h:i ≠ k):(fun j=>up v i x (skip k j))=up (fun j=>v (skip k j)) (if i < k then i else i - 1) x:=by
 funext j
 unfold up skip
 by_cases hik:i < k <;> by_cases hjk:j < k <;> simp only [hik,hjk,if_true,if_false]
 ·by_cases e:j + 1=i
  ·omega
  ·rw [if_neg e,if_neg (by omega)]
 ·by_cases e:j=i
  ·omega
  ·rw [if_neg e,if_neg (by omega)]
 ·by_cases e:j + 1=i
  ·rw [if_pos e,if_pos (by omega)]
  ·rw [if_neg e,if_neg (by omega)]
theorem g0i {v:Nat→Nat→Int} {k:Nat} {x:Nat→Int}:(fun j=>up v k x (skip k j))=fun j=>v (skip k j):=by
 funext j
 unfold up skip
 by_cases hjk:j < k <;> simp only [hjk,if_true,if_false]
 ·rw [if_neg (by omega)]
 ·rw [if_neg (by omega)]
theorem g0N {a b:Int} {x y:Nat→Int}:∀ {m:Nat} {v:Nat→Nat→Int} {i:Nat},i < m →
  det m (up v i (fun r=>a * x r + b * y r))=a * det m (up v i x) + b * det m (up v i y)
 | 0,_,_,h=>by omega
 | m + 1,v,i,h=>by
  unfold det
  rw [← t0F]
  refine b0a fun k hk=>?_
  by_cases e:i=k
  ·subst e
   rw [g0i,g0i,g0i,b0b,b0b,b0b]
   generalize det m _=D
   grind
  ·rw [q0S e,q0S e,q0S e,e0e (Ne.symm e),e0e (Ne.symm e),e0e (Ne.symm e),g0N (by split <;> omega)]
   generalize det m _=D
   generalize det m _=D2
   grind
theorem h0c {v:Nat→Nat→Int} {i:Nat}:up v i (v i)=v:=by
 funext j;unfold up;split
 ·rename_i h;rw [h]
 ·rfl
theorem l0M:∀ {m:Nat} {v:Nat→Nat→Int} {i:Nat},i + 1 < m→(∀ r,v i r=v (i + 1) r)→det m v=0
 | 0,_,_,h,_=>by omega
 | m + 1,v,i,h,e=>by
  unfold det
  rw [M0E (k:=i) (l:=i + 1) (by omega) h]
  ·have e1:(fun j=>v (skip i j))=fun j=>v (skip (i + 1) j):=by
    funext j r
    unfold skip
    by_cases h1:j < i
    ·rw [if_pos h1,if_pos (by omega)]
    ·rw [if_neg h1]
     by_cases h2:j=i
     ·subst h2;rw [if_pos (by omega)];exact (e r).symm
     ·rw [if_neg (by omega)]
   rw [e1,e m,show i + 1 + m=(i + m) + 1 by omega,I0M,Int.neg_mul];omega
  ·intro k hk h1 h2
   have:det m (fun j=>v (skip k j))=0:=by
    by_cases hki:k < i
    ·refine l0M (i:=i - 1) (by omega) fun r=>?_
     unfold skip
     rw [if_neg (by omega),if_neg (by omega),show i - 1 + 1=i by omega];exact e r
    ·refine l0M (i:=i) (by omega) fun r=>?_
     unfold skip
     rw [if_pos (by omega),if_pos (by omega)];exact e r
   rw [this];simp
theorem k0w {v:Nat→Nat→Int} {i j:Nat} {x y:Nat→Int} (h:i ≠ j):up (up v i x) j y=up (up v j y) i x:=by
 funext k;unfold up;by_cases e1:k=i <;> by_cases e2:k=j <;> simp [e1,e2]
 ·omega
 ·intro h3;omega
 ·intro h3;omega
theorem p0c {m:Nat} {v:Nat→Nat→Int} {i:Nat} {x y:Nat→Int} (h:i < m):det m (up v i (fun r=>x r + y r))=det m (up v i x) + det m (up v i y):=by
 have:=g0N (a:=1) (b:=1) (x:=x) (y:=y) (v:=v) h
 simpa using this
theorem F0Y {m:Nat} {v:Nat→Nat→Int} {i:Nat} (h:i + 1 < m):det m (up (up v i (v (i + 1))) (i + 1) (v i)) = - det m v:=by
 have h0:∀ x,det m (up (up v i x) (i + 1) x)=0:=fun x=>l0M h (fun r=>by rw [b0b,e0e (by omega),b0b])
 have h1:=h0 (fun r=>v i r + v (i + 1) r)
 rw [p0c h,k0w (by omega),p0c (by omega),k0w (i:=i) (j:=i + 1) (x:=fun r=>v i r + v (i + 1) r) (by omega),p0c (by omega)] at h1
 have e1:det m (up (up v (i + 1) (v i)) i (v i))=0:=by rw [← k0w (by omega)];exact h0 _
 have e2:det m (up (up v i (v (i + 1))) (i + 1) (v (i + 1)))=0:=h0 _
 have e2':det m (up (up v (i + 1) (v (i + 1))) i (v (i + 1)))=0:=by rw [← k0w (by omega)];exact h0 _
 have e3:up (up v i (v i)) (i + 1) (v (i + 1))=v:=by rw [h0c,h0c]
 have e4:up (up v (i + 1) (v i)) i (v (i + 1))=up (up v i (v (i + 1))) (i + 1) (v i):=(k0w (by omega)).symm
 have e5:up (up v (i + 1) (v (i + 1))) i (v i)=v:=by rw [h0c,h0c]
 grind
theorem p0d {m:Nat}:∀ (n:Nat) {v:Nat→Nat→Int} {i:Nat},i + n + 1 < m→(∀ r,v i r=v (i + n + 1) r)→det m v=0
 | 0,v,i,h,e=>l0M h e
 | n + 1,v,i,h,e=>by
  have h1:=F0Y (m:=m) (v:=v) (i:=i + n + 1) (by omega)
  rw [p0d n (v:=up (up v (i + n + 1) (v (i + n + 1 + 1))) (i + n + 1 + 1) (v (i + n + 1))) (i:=i) (by omega) (fun r=>?_)] at h1
  ·omega
  ·rw [e0e (by omega),e0e (by omega),e0e (by omega),b0b];exact e r
theorem r0r {m:Nat} {v:Nat→Nat→Int} {i j:Nat} (hi:i < m) (hj:j < m) (hne:i ≠ j) (e:∀ r,v i r=v j r):det m v=0:=by
 by_cases h:i < j
 ·exact p0d (j - i - 1) (i:=i) (by omega) (fun r=>by rw [show i + (j - i - 1) + 1=j by omega];exact e r)
 ·exact p0d (i - j - 1) (i:=j) (by omega) (fun r=>by rw [show j + (i - j - 1) + 1=i by omega];exact (e r).symm)
theorem p0e {m:Nat} {v:Nat→Nat→Int} {k:Nat} {t:Nat→Int} {x:Nat→Nat→Int} (h:k < m):∀ n:Nat,
  det m (up v k (fun r=>sm (fun i=>t i * x i r) n))=sm (fun i=>t i * det m (up v k (x i))) n
 | 0=>by
  have:=g0N (a:=0) (b:=0) (x:=fun _=>0) (y:=fun _=>0) (v:=v) h
  simp [sm] at this ⊢;exact this
 | n + 1=>by
  have:=g0N (a:=1) (b:=t n) (x:=fun r=>sm (fun i=>t i * x i r) n) (y:=x n) (v:=v) h
  simp only [sm,Int.one_mul] at this ⊢
  rw [this,p0e h n]
theorem J0e {m:Nat} {v:Nat→Nat→Int} {a t:Nat→Int} {d:Int} {k:Nat} (hk:k < m) (h:∀ r,r < m→d * a r=sm (fun i=>t i * v i r) m):d * det m (up v k a)=t k * det m v:=by
 have h1:=g0N (a:=d) (b:=0) (x:=a) (y:=a) (v:=v) hk
 rw [Int.zero_mul,Int.add_zero] at h1
 rw [← h1]
 have h2:det m (up v k (fun r=>d * a r + 0 * a r))=det m (up v k (fun r=>sm (fun i=>t i * v i r) m)):=by
  refine h0l fun i r hi hr=>?_
  unfold up;split
  ·show d * a r + 0 * a r=sm (fun i=>t i * v i r) m;rw [← h r hr];omega
  ·rfl
 rw [h2,p0e hk,f0D hk]
 ·rw [h0c]
 ·intro i hi hne
  rw [r0r hk hi (Ne.symm hne) (fun r=>by rw [b0b,e0e hne])];simp
def h0R (i:Nat):Nat→Int:=fun r=>if r=i then 1 else 0
theorem r0s:∀ m:Nat,det m h0R=1
 | 0=>rfl
 | m + 1=>by
  unfold det
  rw [f0D (k:=m) (by omega)]
  ·have:det m (fun i=>h0R (skip m i))=det m h0R:=h0l (fun i r hi hr=>by unfold skip;rw [if_pos hi])
   rw [this,r0s m]
   unfold h0R sgn
   rw [if_pos (by omega),if_pos rfl];rfl
  ·intro i hi hne
   unfold h0R;rw [if_neg (by omega)];simp
def fac:Nat→Nat
 | 0=>1
 | n + 1=>(n + 1) * fac n
theorem t0E {f:Nat→Int} {b:Nat}:∀ {n:Nat},(∀ i,i < n→(f i).natAbs≤b)→(sm f n).natAbs≤n * b
 | 0,_=>by simp [sm]
 | n + 1,h=>by
  have h1:=t0E (fun i hi=>h i (by omega)) (n:=n)
  have h2:=h n (by omega)
  rw [sm,Nat.add_mul,Nat.one_mul]
  have:=Int.natAbs_add_le (sm f n) (f n)
  omega
theorem j0C {b:Nat}:∀ {m:Nat} {v:Nat→Nat→Int},(∀ i r,i < m→r < m→(v i r).natAbs≤b)→(det m v).natAbs≤fac m * b ^ m
 | 0,_,_=>by simp [det,fac]
 | m + 1,v,h=>by
  unfold det
  have h1:∀ k,k < m + 1→(sgn (k + m) * (v k m * det m (fun i=>v (skip k i)))).natAbs≤fac m * b ^ (m + 1):=by
   intro k hk
   have h2:=j0C (v:=fun i=>v (skip k i)) (m:=m) (b:=b) (fun i r hi hr=>h _ r (by unfold skip;split <;> omega) (by omega))
   have h3:=h k m hk (by omega)
   have h4:(sgn (k + m)).natAbs=1:=by unfold sgn;split <;> rfl
   rw [Int.natAbs_mul,Int.natAbs_mul,h4,Nat.one_mul]
   calc _≤b * (fac m * b ^ m):=Nat.mul_le_mul h3 h2
    _=fac m * b ^ (m + 1):=by rw [Nat.pow_succ];grind
  have:=t0E h1
  unfold fac
  rw [Nat.mul_assoc];exact this
end Go.Proofs.YtjlohmnnldbjoaaGreat.SX

