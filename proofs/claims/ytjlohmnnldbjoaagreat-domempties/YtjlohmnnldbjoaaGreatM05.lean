/- Part 6 of the proof: AiNum7, AiNum8, AiNum9, AiBits, AiNum10, AiNum11, AiNum12, AiNum13, AiNum14, AiNum15, AiNum16, AiWd, AiNum17. -/
import Derived.Test.YtjlohmnnldbjoaaGreatM04
set_option linter.unusedVariables false
set_option linter.unusedSimpArgs false
set_option linter.unusedSectionVars false
namespace Go.Proofs.YtjlohmnnldbjoaaGreat.AI
section
open Go
set_option maxHeartbeats 4000000
variable {fl:Nat} {H:a0f} {R:a0G} {v w:Value} {i j:Bool × List Nat}
theorem r0V (z:Int):(a0j z).2.length=(a0p z.natAbs).length:=rfl
theorem s0e (h:b0d H v i) (k:b0d H w j) (hf:fl≤H.size) (hn:i.2.length < 536870912) (hm:j.2.length < 536870912) :
  a0S env fl A0x [v,w] H (fun r H'=>b0d H' r (a0j (a0z i - a0z j))∧Ext H H') R:=by
 have hh:=h
 have kk:=k
 obtain ⟨s,rfl,hs⟩:=h
 obtain ⟨u,rfl,hu⟩:=k
 refine a0i e1T hf (h:=?_)
 intro ρ h0
 simp [N0l,H0Z,h0]
 generalize hG:Array.push (Array.push (Array.push H _) _) _=G
 have hx:Ext H G:=by rw [← hG];exact (Ext.refl H).push.push.push
 have b0:a0f.blk G H.size=.row false a0a [.bool i.1,s]:=by rw [← hG];simp
 have b1:a0f.blk G (H.size + 1)=.row false a0a [.bool j.1,u]:=by rw [← hG];simp
 have b2:a0f.blk G (H.size + 2)=.row false a0a [.bool false,.slice none 0 0]:=by rw [← hG];simp
 clear hG
 refine a0B ?_
 simp [I0a,h0,b0,b1]
 refine (f0f (kk.mono hx) (by have:=hx.1;omega) (by omega)).mono ?_
 rintro x G2 ⟨hl,hx2⟩
 replace b0:=hx2.blk b0
 replace b1:=hx2.blk b1
 replace b2:=hx2.blk b2
 replace hx:=hx.trans hx2
 try simp [h0]
 have hlen:(a0j (-a0z j)).2.length < 536870912:=by
  rw [r0V,Int.natAbs_neg];have:=a0v kk.ok;omega
 refine (f0c (hh.mono hx) hl hx.1 hn hlen).mono ?_
 rintro _ G2 ⟨⟨s',rfl,hs'⟩,hx2⟩
 replace b0:=hx2.blk b0
 replace b1:=hx2.blk b1
 replace b2:=hx2.blk b2
 replace hx:=hx.trans hx2
 have hz:=a0l b2
 simp [b2,hs'.cells,hs'.plain,hz]
 rw [a0h] at hs' ⊢
 exact fun _=>⟨s',by rw [j1F],by rw [j1F];exact hs'.setT b2 (by decide)⟩
theorem c0V (h:b0d H v i) (k:b0d H w j) (hf:fl≤H.size) (hn:i.2.length < 536870912) (hm:j.2.length < 536870912) :
  a0S env fl m0f [v,w] H (fun r H'=>r=.int .i64 (c0z (a0z i) (a0z j))∧Ext H H') R:=by
 have hh:=h
 have kk:=k
 obtain ⟨s,rfl,hs⟩:=h
 obtain ⟨u,rfl,hu⟩:=k
 refine a0i e1b hf (h:=?_)
 intro ρ h0
 simp [M0u,D0O,h0]
 generalize hG:Array.push (Array.push H _) _=G
 have hx:Ext H G:=by rw [← hG];exact (Ext.refl H).push.push
 have b0:a0f.blk G H.size=.row false a0a [.bool i.1,s]:=by rw [← hG];simp
 have b1:a0f.blk G (H.size + 1)=.row false a0a [.bool j.1,u]:=by rw [← hG];simp
 clear hG
 simp [D0P,h0,b0,b1]
 have l1:=a0v hh.ok
 have l2:=a0v kk.ok
 refine (b0B (hh.mono hx) hx.1 (by omega)).mono ?_
 rintro _ G2 ⟨rfl,hx2⟩
 replace b0:=hx2.blk b0
 replace b1:=hx2.blk b1
 replace hx:=hx.trans hx2
 by_cases hI:a0z i < 0
 ·simp [hI,b1]
  refine (b0B (kk.mono hx) hx.1 (by omega)).mono ?_
  rintro _ G2 ⟨rfl,hx2⟩
  replace b0:=hx2.blk b0
  replace b1:=hx2.blk b1
  replace hx:=hx.trans hx2
  by_cases hJ:a0z j < 0
  ·simp [hJ,u0p,h0,b0,b1]
   refine (b0B (hh.mono hx) hx.1 (by omega)).mono ?_
   rintro _ G2 ⟨rfl,hx2⟩
   replace b0:=hx2.blk b0
   replace b1:=hx2.blk b1
   replace hx:=hx.trans hx2
   simp [hI,u0q,h0,b0,b1]
   refine (b0B (hh.mono hx) hx.1 (by omega)).mono ?_
   rintro _ G2 ⟨rfl,hx2⟩
   replace b0:=hx2.blk b0
   replace b1:=hx2.blk b1
   replace hx:=hx.trans hx2
   simp [hI,h0]
   refine a0B ?_
   simp [D0S,h0,b0,b1]
   refine (b0R (kk.mono hx) (by have:=hx.1;omega) (by omega)).mono ?_
   rintro x G2 ⟨hl,hx2⟩
   replace b0:=hx2.blk b0
   replace b1:=hx2.blk b1
   replace hx:=hx.trans hx2
   try simp [h0,b0]
   refine (b0R (hh.mono hx) hx.1 (by omega)).mono ?_
   rintro y G2 ⟨hl2,hx2⟩
   replace hl:=hl.mono hx2
   replace b0:=hx2.blk b0
   replace b1:=hx2.blk b1
   replace hx:=hx.trans hx2
   try simp [h0,b0]
   refine (f0g hl hl2 hx.1 (by omega)).mono ?_
   rintro _ G2 ⟨rfl,hx2⟩
   rw [d0B,c0g]
   have:(if (a0z j).natAbs < (a0z i).natAbs then (-1:Int) else if (a0z i).natAbs < (a0z j).natAbs then 1 else 0)=c0z (a0z i) (a0z j):=by
    unfold c0z;(repeat' split) <;> omega
   simp [this]
  ·simp [hJ,D0Q,h0]
   have:c0z (a0z i) (a0z j) = -1:=by unfold c0z;rw [h1F (by omega)]
   simp [this]
 ·simp [hI,u0p,h0,b0,b1]
  refine (b0B (hh.mono hx) hx.1 (by omega)).mono ?_
  rintro _ G2 ⟨rfl,hx2⟩
  replace b0:=hx2.blk b0
  replace b1:=hx2.blk b1
  replace hx:=hx.trans hx2
  simp [hI,h0,b1]
  refine (b0B (kk.mono hx) hx.1 (by omega)).mono ?_
  rintro _ G2 ⟨rfl,hx2⟩
  replace b0:=hx2.blk b0
  replace b1:=hx2.blk b1
  replace hx:=hx.trans hx2
  by_cases hJ:a0z j < 0
  ·simp [hJ,D0R,h0]
   have:c0z (a0z i) (a0z j)=1:=by unfold c0z;rw [h1C (by omega),h1F (by omega)]
   simp [this]
  ·simp [hJ,u0q,h0,b0]
   refine (b0B (hh.mono hx) hx.1 (by omega)).mono ?_
   rintro _ G2 ⟨rfl,hx2⟩
   replace b0:=hx2.blk b0
   replace b1:=hx2.blk b1
   replace hx:=hx.trans hx2
   simp [hI,h0]
   refine a0B ?_
   simp [D0T,h0,b0,b1]
   refine (b0R (hh.mono hx) (by have:=hx.1;omega) (by omega)).mono ?_
   rintro x G2 ⟨hl,hx2⟩
   replace b0:=hx2.blk b0
   replace b1:=hx2.blk b1
   replace hx:=hx.trans hx2
   try simp [h0,b1]
   refine (b0R (kk.mono hx) hx.1 (by omega)).mono ?_
   rintro y G2 ⟨hl2,hx2⟩
   replace hl:=hl.mono hx2
   replace b0:=hx2.blk b0
   replace b1:=hx2.blk b1
   replace hx:=hx.trans hx2
   try simp [h0,b0]
   refine (f0g hl hl2 hx.1 (by omega)).mono ?_
   rintro _ G2 ⟨rfl,hx2⟩
   rw [d0B,c0g]
   have:(if (a0z i).natAbs < (a0z j).natAbs then (-1:Int) else if (a0z j).natAbs < (a0z i).natAbs then 1 else 0)=c0z (a0z i) (a0z j):=by
    unfold c0z;(repeat' split) <;> omega
   simp [this]
theorem c0W {n:Int} (hf:fl≤H.size) (h1:-9223372036854775808≤n) (h2:n < 9223372036854775808) :
  a0S env fl l0m [.int .i64 n] H (fun r H'=>b0d H' r (a0j n)∧Ext H H') R:=by
 refine a0i e1a hf (h:=?_)
 intro ρ h0
 simp only [M0t]
 refine h0Y (l0Q ?_)
 simp [-v0J,D0J,h0]
 generalize hG:Array.push H _=G
 have hx:Ext H G:=by rw [← hG];exact (Ext.refl H).push
 have b2:a0f.blk G H.size=.row false a0a [.bool false,.slice none 0 0]:=by rw [← hG];simp
 clear hG
 refine h0Y (l0Q ?_)
 simp [-v0J,D0K,h0]
 refine h0Y (X0Y (fun t G'=>G' = G∧t.length=19∧get t 0=.int .i64 n∧get t 2=.pointer (some ⟨H.size,0,none⟩)∧get t 3=.int .u64 ((n.natAbs:Nat):Int)) ?_ ?_)
 ·have e1:0≤n→IntKind.u64.wrap n=((n.natAbs:Nat):Int):=fun _=>by rw [a0x];omega
  have e2:n < 0→IntKind.u64.wrap (-IntKind.u64.wrap n)=((n.natAbs:Nat):Int):=fun _=>by rw [a0x,a0x];omega
  simp [D0L,D0M,h0]
  exact ⟨e2,e1⟩
 clear h0 ρ
 rintro t G' ⟨rfl,ht,g0,g2,g3⟩
 obtain ⟨ρ,rfl⟩:=toT ht
 simp only [b0V,Nat.reduceLT] at g0 g2 g3
 simp [D0N,g0,g2,g3]
 refine (a0r hx.1).mono ?_
 rintro _ G2 ⟨rfl,hx2⟩
 replace b2:=hx2.blk b2
 replace hx:=hx.trans hx2
 try simp [g0,g2,g3]
 rw [show ((n.natAbs:Nat):Int) / 4294967296=((n.natAbs / 4294967296:Nat):Int) by omega]
 refine (a0r hx.1).mono ?_
 rintro _ G2 ⟨rfl,hx2⟩
 replace b2:=hx2.blk b2
 replace hx:=hx.trans hx2
 simp
 have hl:Lim (Array.push G2 (.row false a0k [.int .u32 (((n.natAbs:Nat):Int) % 4294967296),.int .u32 (((n.natAbs:Nat):Int) / 4294967296 % 4294967296)]))
   (.slice (some ⟨Array.size G2,0,none⟩) 2 2) [n.natAbs % 4294967296,n.natAbs / 4294967296 % 4294967296]:=by
  refine ⟨(Own.mk (fl:=0) (n:=2) (sz:=1) (cs:=c0c [n.natAbs % 4294967296,n.natAbs / 4294967296 % 4294967296]) ?_ rfl (i1C _)).sl,?_⟩
  ·rw [a0C];simp [c0c]
  ·intro x hx;simp at hx;omega
 have hx2:Ext G2 (Array.push G2 (.row false a0k [.int .u32 (((n.natAbs:Nat):Int) % 4294967296),.int .u32 (((n.natAbs:Nat):Int) / 4294967296 % 4294967296)])):=(Ext.refl G2).push
 replace b2:=hx2.blk b2
 replace hx:=hx.trans hx2
 refine (c0o n hl hx.1 (by simp) (by simp [a0w];split <;> omega)).mono ?_
 rintro _ G2 ⟨⟨s',rfl,hs'⟩,hx2⟩
 replace b2:=hx2.blk b2
 replace hx:=hx.trans hx2
 have hz:=a0l b2
 simp [b2,hs'.cells,hs'.plain,hz]
 exact fun _=>⟨s',rfl,hs'.setT b2 (by decide)⟩
theorem h0N:∀ (l:List Nat) (j z:Nat),j < l.length→a0w (l.set j z) + 4294967296 ^ j * l.getD j 0=a0w l + 4294967296 ^ j * z
 | [],j,z,h=>by simp at h
 | x :: l,0,z,_=>by simp [a0w];omega
 | x :: l,j + 1,z,h=>by
  have ih:=h0N l j z (by simpa using h)
  rw [List.set_cons_succ,List.getD_cons_succ,a0w,a0w,h1Z]
  have e1:4294967296 ^ j * 4294967296 * l.getD j 0=4294967296 * (4294967296 ^ j * l.getD j 0):=by rw [i1e (4294967296 ^ j),h1U]
  have e2:4294967296 ^ j * 4294967296 * z=4294967296 * (4294967296 ^ j * z):=by rw [i1e (4294967296 ^ j),h1U]
  rw [e1,e2];omega
theorem d0z (l:List Nat) (j z:Nat):c0c (l.set j z)=(c0c l).set j (.int .u32 (z:Nat)):=by simp [c0c,List.map_set]
theorem b0X {l:List Nat} {j z:Nat} (h:b0u l) (hz:z < 4294967296):b0u (l.set j z):=by
 intro x hx
 rcases List.mem_or_eq_of_mem_set hx with hx | rfl
 ·exact h x hx
 ·exact hz
theorem f0i {G:a0f} {e n p cap:Nat} {l:List Nat} (hb:G.blk p=.row false e (c0c l)) {k:IntKind} {z:Nat} (hz:z < l.length) (hn:l.length=n) :
  iaV 1 (.slice (some ⟨p,0,none⟩) n cap) (.int k (z:Int))=some (.pointer (some ⟨p,z,none⟩))∧rd (G.blk p) z=some (.int .u32 ((l.getD z 0:Nat):Int)):=by
 refine ⟨?_,?_⟩
 ·simp only [iaV];rw [h1F (by omega)];simp
 ·rw [hb];simp [c0c,h1z,hz]
theorem b0P {l:List Nat} {a b z:Nat} (h:a ≠ b):(l.set a z).getD b 0=l.getD b 0:=by
 rw [h1z,h1z,List.getElem?_set_ne h]
theorem b0w (h:b0d H v i) (k:b0d H w j) (hf:fl≤H.size) (hn:i.2.length < 268435456) (hm:j.2.length < 268435456) :
  a0S env fl p0M [v,w] H (fun r H'=>b0d H' r (a0j (a0z i * a0z j))∧Ext H H') R:=by
 have hh:=h
 have kk:=k
 obtain ⟨s,rfl,hs⟩:=h
 obtain ⟨u,rfl,hu⟩:=k
 refine a0i h1f hf (h:=?_)
 intro ρ h0
 simp [c1w,T0v,h0]
 generalize hG:Array.push (Array.push (Array.push H _) _) _=G
 have hx:Ext H G:=by rw [← hG];exact (Ext.refl H).push.push.push
 have b0:a0f.blk G H.size=.row false a0a [.bool i.1,s]:=by rw [← hG];simp
 have b1:a0f.blk G (H.size + 1)=.row false a0a [.bool j.1,u]:=by rw [← hG];simp
 have b2:a0f.blk G (H.size + 2)=.row false a0a [.bool false,.slice none 0 0]:=by rw [← hG];simp
 clear hG
 have l1:=a0v hh.ok
 have l2:=a0v kk.ok
 refine a0B ?_
 simp [T0w,h0,b0,b1]
 refine (b0R (hh.mono hx) (by have:=hx.1;omega) (by omega)).mono ?_
 rintro x G2 ⟨hl,hx2⟩
 replace b0:=hx2.blk b0
 replace b1:=hx2.blk b1
 replace b2:=hx2.blk b2
 replace hx:=hx.trans hx2
 try simp [h0,b1]
 refine (b0R (kk.mono hx) hx.1 (by omega)).mono ?_
 rintro y G2 ⟨hl2,hx2⟩
 replace hl:=hl.mono hx2
 replace b0:=hx2.blk b0
 replace b1:=hx2.blk b1
 replace b2:=hx2.blk b2
 replace hx:=hx.trans hx2
 generalize hA:a0p (a0z i).natAbs=A at hl l1
 generalize hB:a0p (a0z j).natAbs=B at hl2 l2
 have w1:IntKind.i64.wrap ((A.length:Int) + (B.length:Int))=((A.length + B.length:Nat):Int):=by rw [a0Y (by omega) (by omega)];omega
 have hmk:=h0d (bytes:=4) (k:=.i64) (k':=.i64) (l:=A.length + B.length) (c:=A.length + B.length) (h1A _) (by omega) (by omega)
 simp [-Int.natCast_add,T0x,T0y,h0,hl.slen,hl2.slen,w1,hmk]
 have hP:H.size≤G2.size:=hx.1
 generalize hPd:G2.size=P at hP
 generalize hSL:Value.slice (some ⟨P,0,none⟩) (A.length + B.length) (A.length + B.length)=SL
 refine b0Y (fun k t G'=>∃ a o,a + k=A.length∧t.length=78∧get t 2=.pointer (some ⟨H.size,0,none⟩)∧get t 3=.pointer (some ⟨H.size + 1,0,none⟩)∧get t 4=.pointer (some ⟨H.size + 2,0,none⟩) ∧
   get t 6=y∧get t 7=SL∧get t 23=x∧get t 24=.int .i64 A.length∧get t 25=.int .i64 ((a:Nat):Int) ∧
   Ext G2 G'∧a0f.blk G' P=.row false a0k (c0c o)∧o.length=A.length + B.length∧b0u o∧a0w o=a0w (A.take a) * a0w B∧∀ q,a + B.length≤q→o.getD q 0=0)
  (fun t G'=>∃ o,t.length=78∧get t 2=.pointer (some ⟨H.size,0,none⟩)∧get t 3=.pointer (some ⟨H.size + 1,0,none⟩)∧get t 4=.pointer (some ⟨H.size + 2,0,none⟩)∧get t 7=SL ∧
   Ext G2 G'∧a0f.blk G' P=.row false a0k (c0c o)∧o.length=A.length + B.length∧b0u o∧a0w o=a0w A * a0w B) A.length ?_ ?_ ?_
 ·refine ⟨0,List.replicate (A.length + B.length) 0,by omega,by simp,by simp,by simp,by simp,by simp,by simp,by simp,by simp,by simp,Ext.push (Ext.refl _),?_,by simp,?_,?_,?_⟩
  ·rw [← hPd,a0C]
   congr 1
   generalize A.length + B.length=n
   induction n with
   | zero=>rfl
   | succ n ih=>rw [f0y,ih];rfl
  ·intro z hz;rw [j1r] at hz;omega
  ·simp only [k1g,a0w,Nat.zero_mul]
   generalize A.length + B.length=n
   induction n with
   | zero=>rfl
   | succ n ih=>rw [List.replicate_succ,a0w,ih]
  ·intro q _;rw [h1z,j1v];split <;> rfl
 ·clear h0 ρ w1 hmk
  rintro k t G' ⟨a,o,hak,ht,g2,g3,g4,g6,g7,g23,g24,g25,hx2,hb,hol,hok,hs,hz⟩
  obtain ⟨ρ,rfl⟩:=toT ht
  simp only [b0V,Nat.reduceLT] at g2 g3 g4 g6 g7 g23 g24 g25
  by_cases ha:a < A.length
  ·have hla:=hl.load ha hx2
   have hia:=hl.ia (k:=.i64) ha
   have hA2:=a0Q ha
   have hA3:A.getD a 0 < 4294967296:=hl.2 _ (by rw [h1z,h1E ha];exact h1I ha)
   generalize A.getD a 0=U at hla hA2 hA3
   simp [J0F,T0z,T0A,T0B,g2,g3,g4,g6,g7,g23,g24,g25,ha,hla,hia,hl2.slen]
   refine b0Y (fun k2 t G'=>∃ q c o,q + k2=B.length∧t.length=78∧get t 2=.pointer (some ⟨H.size,0,none⟩)∧get t 3=.pointer (some ⟨H.size + 1,0,none⟩)∧get t 4=.pointer (some ⟨H.size + 2,0,none⟩) ∧
     get t 6=y∧get t 7=SL∧get t 23=x∧get t 24=.int .i64 A.length∧get t 25=.int .i64 ((a:Nat):Int)∧get t 8=.int .i64 ((a:Nat):Int)∧get t 9=.int .u32 ((U:Nat):Int) ∧
     get t 10=.int .u64 ((c:Nat):Int)∧get t 30=y∧get t 31=.int .i64 B.length∧get t 32=.int .i64 ((q:Nat):Int) ∧
     Ext G2 G'∧a0f.blk G' P=.row false a0k (c0c o)∧o.length=A.length + B.length∧b0u o∧c < 4294967296 ∧
     a0w o + 4294967296 ^ (a + q) * c=a0w (A.take a) * a0w B + 4294967296 ^ a * (U * a0w (B.take q))∧∀ q,a + B.length≤q→o.getD q 0=0)
    (fun t G'=>∃ c o,t.length=78∧get t 2=.pointer (some ⟨H.size,0,none⟩)∧get t 3=.pointer (some ⟨H.size + 1,0,none⟩)∧get t 4=.pointer (some ⟨H.size + 2,0,none⟩) ∧
     get t 6=y∧get t 7=SL∧get t 23=x∧get t 24=.int .i64 A.length∧get t 25=.int .i64 ((a:Nat):Int)∧get t 8=.int .i64 ((a:Nat):Int) ∧
     get t 10=.int .u64 ((c:Nat):Int) ∧
     Ext G2 G'∧a0f.blk G' P=.row false a0k (c0c o)∧o.length=A.length + B.length∧b0u o∧c < 4294967296 ∧
     a0w o + 4294967296 ^ (a + B.length) * c=a0w (A.take (a + 1)) * a0w B∧∀ q,a + B.length≤q→o.getD q 0=0) B.length ?_ ?_ ?_
   ·exact ⟨0,0,o,by omega,by simp,by simp [g2],by simp [g3],by simp [g4],by simp [g6],by simp [g7],by simp [g23],by simp [g24],by simp [g25],by simp,by simp,by simp,by simp,by simp,by simp,
     hx2,hb,hol,hok,by omega,by simp [hs,a0w],hz⟩
   ·clear hs hz hok hol hb hx2 hla o g2 g3 g4 g6 g7 g23 g24 g25 ht ρ G'
    rintro k2 t G' ⟨q,c,o,hqk,ht,g2,g3,g4,g6,g7,g23,g24,g25,g8,g9,g10,g30,g31,g32,hx2,hb,hol,hok,hc,hs,hz⟩
    obtain ⟨ρ,rfl⟩:=toT ht
    simp only [b0V,Nat.reduceLT] at g2 g3 g4 g6 g7 g23 g24 g25 g8 g9 g10 g30 g31 g32
    by_cases hq:q < B.length
    ·have hlb:=hl2.load hq hx2
     have hib:=hl2.ia (k:=.i64) hq
     have hB2:=a0Q hq
     have hB3:B.getD q 0 < 4294967296:=hl2.2 _ (by rw [h1z,h1E hq];exact h1I hq)
     generalize B.getD q 0=V at hlb hB2 hB3
     have hlo:a + q < o.length:=by omega
     obtain ⟨hio,hro⟩:=f0i (k:=.i64) (cap:=A.length + B.length) hb hlo hol
     rw [hSL] at hio
     have hset:=h0N o (a + q) ((c + (U * V + o.getD (a + q) 0)) % 4294967296) hlo
     have hW3:o.getD (a + q) 0 < 4294967296:=hok _ (by rw [h1z,h1E hlo];exact h1I hlo)
     generalize o.getD (a + q) 0=Wd at hro hset hW3
     have hUV:U * V≤4294967295 * 4294967295:=i1z (by omega) (by omega)
     have e1:IntKind.u64.wrap (U:Int)=(U:Int):=by rw [a0x];omega
     have e2:IntKind.u64.wrap (V:Int)=(V:Int):=by rw [a0x];omega
     have e3:IntKind.u64.wrap (Wd:Int)=(Wd:Int):=by rw [a0x];omega
     have e4:IntKind.u64.wrap ((U:Int) * (V:Int))=((U * V:Nat):Int):=by rw [a0x,← h1V];omega
     have e5:IntKind.u64.wrap (((U * V:Nat):Int) + (Wd:Int))=((U * V + Wd:Nat):Int):=by rw [a0x];omega
     have e6:IntKind.u64.wrap ((c:Int) + ((U * V + Wd:Nat):Int))=((c + (U * V + Wd):Nat):Int):=by rw [a0x];omega
     have e7:IntKind.i64.wrap ((a:Int) + (q:Int))=((a + q:Nat):Int):=by rw [a0Y (by omega) (by omega)];omega
     have e8:IntKind.i64.wrap ((q:Int) + 1)=((q + 1:Nat):Int):=by rw [a0Y (by omega) (by omega)];omega
     simp [-Int.natCast_add,-Int.natCast_mul,J0G,T0C,J0y,J0z,J0A,J0B,g2,g3,g4,g6,g7,g23,g24,g25,g8,g9,g10,g30,g31,g32,hq,hlb,hib,e1,e2,e3,e4,e5,e6,e7,e8,hio,hro]
     refine (a0r (by have:=hx2.1;omega)).mono ?_
     rintro _ G3 ⟨rfl,hx3⟩
     replace hb:=hx3.blk hb
     have hxx:=hx2.trans hx3
     have hPl:=a0l hb
     have hle:a + q + 1≤o.length:=hlo
     generalize hc1:c + (U * V + Wd)=c1 at *
     simp [-Int.natCast_emod,-Int.natCast_ediv,-Int.natCast_add,hb,hP,hle]
     refine ⟨k2 - 1,by omega,q + 1,by omega,c1 / 4294967296,by omega,rfl,hxx.set (by omega),o.set (a + q) (c1 % 4294967296),by rw [a0A hPl,d0z],by simp [hol],b0X hok (by omega),by omega,?_,?_⟩
     ·have f1:4294967296 ^ (a + (q + 1)) * (c1 / 4294967296)=4294967296 ^ (a + q) * (4294967296 * (c1 / 4294967296)):=by
       rw [show a + (q + 1)=a + q + 1 by omega,h1Z,h1U]
      have f2:4294967296 ^ (a + q) * (c1 % 4294967296) + 4294967296 ^ (a + q) * (4294967296 * (c1 / 4294967296))=4294967296 ^ (a + q) * c1:=by rw [← h1P,j1Z]
      have f3:4294967296 ^ (a + q) * c1=4294967296 ^ (a + q) * c + (4294967296 ^ (a + q) * (U * V) + 4294967296 ^ (a + q) * Wd):=by rw [← hc1,h1P,h1P]
      have f4:4294967296 ^ a * (U * (a0w (List.take q B) + 4294967296 ^ q * V))=4294967296 ^ a * (U * a0w (List.take q B)) + 4294967296 ^ (a + q) * (U * V):=by
       rw [h1P,h1P,j1y]
       congr 1
       rw [h1U,j1x U]
      rw [hB2,f4,f1]
      omega
     ·intro r hr
      have:=hz r hr
      rw [← h1z,b0P (by omega)];exact this
    ·simp [J0G,g2,g3,g4,g6,g7,g23,g24,g25,g8,g9,g10,g30,g31,g32,hq]
     have:q=B.length:=by omega
     subst this
     refine ⟨c,rfl,hx2,o,hb,hol,hok,hc,?_,by simpa using hz⟩
     rw [hs,h1O (h1A _),hA2,h1X,h1U]
   ·clear hs hz hok hol hb hx2 hla o g2 g3 g4 g6 g7 g23 g24 g25 ht ρ G'
    rintro t G' ⟨c,o,ht,g2,g3,g4,g6,g7,g23,g24,g25,g8,g10,hx2,hb,hol,hok,hc,hs,hz⟩
    obtain ⟨ρ,rfl⟩:=toT ht
    simp only [b0V,Nat.reduceLT] at g2 g3 g4 g6 g7 g23 g24 g25 g8 g10
    have hlo:a + B.length < o.length:=by omega
    obtain ⟨hio,hro⟩:=f0i (k:=.i64) (cap:=A.length + B.length) hb hlo hol
    rw [hSL] at hio
    have hset:=h0N o (a + B.length) (c % 4294967296) hlo
    rw [hz _ (h1A _)] at hset
    have e7:IntKind.i64.wrap ((a:Int) + (B.length:Int))=((a + B.length:Nat):Int):=by rw [a0Y (by omega) (by omega)];omega
    have e8:IntKind.i64.wrap ((a:Int) + 1)=((a + 1:Nat):Int):=by rw [a0Y (by omega) (by omega)];omega
    simp [-Int.natCast_add,J0C,g2,g3,g4,g6,g7,g23,g24,g25,g8,g10,hl2.slen,e7,hio]
    refine (a0r (by have:=hx2.1;omega)).mono ?_
    rintro _ G3 ⟨rfl,hx3⟩
    replace hb:=hx3.blk hb
    have hxx:=hx2.trans hx3
    have hPl:=a0l hb
    have hle:a + B.length + 1≤o.length:=hlo
    simp [-Int.natCast_emod,-Int.natCast_ediv,-Int.natCast_add,J0D,g2,g3,g4,g6,g7,g23,g24,g25,hb,hP,hle,e8]
    refine ⟨k - 1,by omega,a + 1,by omega,rfl,hxx.set (by omega),o.set (a + B.length) (c % 4294967296),by rw [a0A hPl,d0z],by simp [hol],b0X hok (by omega),?_,?_⟩
    ·rw [i1d hc] at hset ⊢
     omega
    ·intro r hr
     have:=hz r (by omega)
     rw [← h1z,b0P (by omega)];exact this
  ·simp [J0F,g2,g3,g4,g6,g7,g23,g24,g25,ha]
   have:a=A.length:=by omega
   subst this
   exact ⟨hx2,o,hb,hol,hok,by rw [hs,h1O (h1A _)]⟩
 ·clear h0 ρ w1 hmk
  rintro t G' ⟨o,ht,g2,g3,g4,g7,hx2,hb,hol,hok,hs⟩
  obtain ⟨ρ,rfl⟩:=toT ht
  simp only [b0V,Nat.reduceLT] at g2 g3 g4 g7
  replace b0:=hx2.blk b0
  replace b1:=hx2.blk b1
  replace b2:=hx2.blk b2
  replace hx:=hx.trans hx2
  have hy:Lim G' SL o:=by
   rw [← hSL,← hol]
   exact ⟨(Own.mk (fl:=0) hb (by simp) (i1C _)).sl,hok⟩
  refine a0B ?_
  simp [J0E,g2,g3,g4,g7,b0,b1]
  refine (b0B (hh.mono hx) (by have:=hx.1;omega) (by omega)).mono ?_
  rintro _ G2 ⟨rfl,hx2⟩
  replace b0:=hx2.blk b0
  replace b1:=hx2.blk b1
  replace b2:=hx2.blk b2
  replace hx:=hx.trans hx2
  replace hy:=hy.mono hx2
  try simp [g2,g3,g4,g7,b1]
  refine (b0B (kk.mono hx) hx.1 (by omega)).mono ?_
  rintro _ G2 ⟨rfl,hx2⟩
  replace b0:=hx2.blk b0
  replace b1:=hx2.blk b1
  replace b2:=hx2.blk b2
  replace hx:=hx.trans hx2
  replace hy:=hy.mono hx2
  try simp [g2,g3,g4,g7,b1]
  have hAn:a0w A=(a0z i).natAbs:=by rw [← hA,a0q]
  have hBn:a0w B=(a0z j).natAbs:=by rw [← hB,a0q]
  rw [hAn,hBn,← j1i] at hs
  have hsgn:(if (decide (a0z i < 0) != decide (a0z j < 0))=true then -((a0z i * a0z j).natAbs:Int) else ((a0z i * a0z j).natAbs:Int))=a0z i * a0z j:=by
   by_cases hi:a0z i < 0 <;> by_cases hj:a0z j < 0
   ·have:=Int.mul_pos_of_neg_of_neg hi hj
    simp [hi,hj];omega
   ·have:=i1A (Int.le_of_lt hi) (show 0≤a0z j by omega)
    simp [hi,hj];omega
   ·have:=Int.mul_nonpos_of_nonneg_of_nonpos (show 0≤a0z i by omega) (Int.le_of_lt hj)
    simp [hi,hj];omega
   ·have:=j1T (show 0≤a0z i by omega) (show 0≤a0z j by omega)
    simp [hi,hj];omega
  refine (c0o (a0z i * a0z j) hy hx.1 (by omega) (by rw [hs];exact hsgn)).mono ?_
  rintro _ G2 ⟨⟨s',rfl,hs'⟩,hx2⟩
  replace b0:=hx2.blk b0
  replace b1:=hx2.blk b1
  replace b2:=hx2.blk b2
  replace hx:=hx.trans hx2
  have hz:=a0l b2
  simp [b2,hs'.cells,hs'.plain,hz,g4]
  exact fun _=>⟨s',rfl,hs'.setT b2 (by decide)⟩
end
section
open Go
section
variable {tag:Nat}
theorem r0l (n:Nat):IntKind.u64.wrap (n:Int)=((n % 18446744073709551616:Nat):Int):=by rw [a0x];omega
theorem r0k (n:Nat):IntKind.u32.wrap (n:Int)=((n % 4294967296:Nat):Int):=by rw [e0Y];omega
theorem J0W {n s:Nat} {k':IntKind} (hs:s≤64):d0d tag .shl (.int .u64 (n:Int)) (.int k' (s:Int))=some (.int .u64 ((n * 2 ^ s % 18446744073709551616:Nat):Int)):=by
 rw [v0N (by omega)]
 have:min (s:Int).toNat IntKind.u64.bits=s:=by show min (s:Int).toNat 64=s;omega
 rw [this]
 have e:(n:Int) * 2 ^ s=((n * 2 ^ s:Nat):Int):=by simp
 rw [e,r0l]
theorem r0f {n s:Nat} {k':IntKind} (hs:s≤32):d0d tag .shl (.int .u32 (n:Int)) (.int k' (s:Int))=some (.int .u32 ((n * 2 ^ s % 4294967296:Nat):Int)):=by
 rw [v0N (by omega)]
 have:min (s:Int).toNat IntKind.u32.bits=s:=by show min (s:Int).toNat 32=s;omega
 rw [this]
 have e:(n:Int) * 2 ^ s=((n * 2 ^ s:Nat):Int):=by simp
 rw [e,r0k]
theorem W0w {n s:Nat} {k':IntKind} (hs:s≤64):d0d tag .shr (.int .u64 (n:Int)) (.int k' (s:Int))=some (.int .u64 ((n / 2 ^ s:Nat):Int)):=by
 rw [l0y (by omega)]
 have:min (s:Int).toNat IntKind.u64.bits=s:=by show min (s:Int).toNat 64=s;omega
 rw [this]
 have e:(2:Int) ^ s=((2 ^ s:Nat):Int):=by simp
 rw [e,L0b]
theorem r0g {n s:Nat} {k':IntKind} (hs:s≤32):d0d tag .shr (.int .u32 (n:Int)) (.int k' (s:Int))=some (.int .u32 ((n / 2 ^ s:Nat):Int)):=by
 rw [l0y (by omega)]
 have:min (s:Int).toNat IntKind.u32.bits=s:=by show min (s:Int).toNat 32=s;omega
 rw [this]
 have e:(2:Int) ^ s=((2 ^ s:Nat):Int):=by simp
 rw [e,L0b]
theorem Z0w {a b:Nat} (ha:a < 18446744073709551616) (hb:b < 18446744073709551616):d0d tag .or (.int .u64 (a:Int)) (.int .u64 (b:Int))=some (.int .u64 ((a ||| b:Nat):Int)):=by
 rw [k0f]
 have e1:(BitVec.ofInt IntKind.u64.bits (a:Int) ||| BitVec.ofInt IntKind.u64.bits (b:Int)).toNat=a ||| b:=by
  show (BitVec.ofInt 64 (a:Int) ||| BitVec.ofInt 64 (b:Int)).toNat=a ||| b
  rw [BitVec.toNat_or]
  simp only [BitVec.ofInt_natCast,BitVec.toNat_ofNat]
  rw [i1d (by omega),i1d (by omega)]
 rw [e1,r0l]
 have:a ||| b < 2 ^ 64:=Nat.or_lt_two_pow (by omega) (by omega)
 rw [i1d (by omega)]
theorem Y0c {a:Nat}:d0d tag .and (.int .u64 (a:Int)) (.int .u64 4294967295)=some (.int .u64 ((a % 4294967296:Nat):Int)):=by
 rw [K0I]
 have e1:(BitVec.ofInt IntKind.u64.bits (a:Int) &&& BitVec.ofInt IntKind.u64.bits (4294967295:Int)).toNat=a % 4294967296:=by
  show (BitVec.ofInt 64 (a:Int) &&& BitVec.ofInt 64 (4294967295:Int)).toNat=a % 4294967296
  rw [BitVec.toNat_and]
  have:(BitVec.ofInt 64 (4294967295:Int)).toNat=2 ^ 32 - 1:=rfl
  rw [this,Nat.and_two_pow_sub_one_eq_mod]
  simp only [BitVec.ofInt_natCast,BitVec.toNat_ofNat]
  omega
 rw [e1,r0l,i1d (by omega)]
theorem w0l {x y:Nat} (h:y < 4294967296):x * 4294967296 ||| y=x * 4294967296 + y:=by
 have:=j1z (i:=32) (b:=y) (by omega) x
 rw [i1e] at this
 exact this.symm
theorem Z0H {a b:Nat} (ha:a < 18446744073709551616) (hb:b ≠ 0):d0d tag .quo (.int .u64 (a:Int)) (.int .u64 (b:Int))=some (.int .u64 ((a / b:Nat):Int)):=by
 rw [v0M (by omega),i1Y (by omega)]
 have:(a:Int) / (b:Int)=((a / b:Nat):Int):=rfl
 rw [this,r0l,i1d (k1x (i1M a b) ha)]
theorem a1s {a b:Nat} (hb:b ≠ 0):d0d tag .rem (.int .u64 (a:Int)) (.int .u64 (b:Int))=some (.int .u64 ((a % b:Nat):Int)):=by
 rw [K0K (by omega),Int.tmod_eq_emod_of_nonneg (by omega)]
 rfl
end
end
section
open Go
set_option maxHeartbeats 4000000
variable {fl:Nat} {H:a0f} {R:a0G} {v w:Value} {a:List Nat}
theorem f0C {l:List Nat} {n:Nat} (h:n < l.length):a0w (l.drop n)=l.getD n 0 + 4294967296 * a0w (l.drop (n + 1)):=by
 rw [i1t h,a0w,h1z,h1E h];rfl
theorem n0W {d:Nat} (ha:Lim H v a) (hf:fl≤H.size) (hna:a.length≤1073741824) (hd:0 < d) (hd2:d < 4294967296) :
  a0S env fl A0q [v,.int .u32 (d:Int)] H (fun r H'=>(∃ q o,r=.tuple #[q,.int .u32 ((a0w a % d:Nat):Int)]∧Lim H' q o∧a0w o=a0w a / d∧o.length=a.length)∧Ext H H') R:=by
 refine a0i e1B hf (h:=?_)
 intro ρ h0
 simp only [M0T]
 have hm:=h0d (bytes:=4) (k:=.i64) (k':=.i64) (l:=a.length) (c:=a.length) (h1A _) (by omega) (by omega)
 have w1:IntKind.i64.wrap ((a.length:Int) - 1)=(a.length:Int) - 1:=a0Y (by omega) (by omega)
 simp [G0A,G0B,G0C,G0D,h0,ha.slen,hm,w1]
 generalize hPd:H.size=P
 have hP:H.size≤P:=by omega
 generalize hSL:Value.slice (some ⟨P,0,none⟩) a.length a.length=SL
 refine b0Y (fun k t G'=>∃ r o,t.length=42∧get t 0=v∧get t 1=.int .u32 (d:Int)∧get t 6=SL∧get t 7=.int .u64 ((r:Nat):Int)∧get t 8=.int .i64 ((k:Int) - 1)∧k≤a.length ∧
   Ext H G'∧a0f.blk G' P=.row false a0k (c0c o)∧o.length=a.length∧b0u o∧r < d∧a0w (o.drop k) * d + r=a0w (a.drop k))
  (fun t G'=>∃ r o,t.length=42∧get t 6=SL∧get t 7=.int .u64 ((r:Nat):Int) ∧
   Ext H G'∧a0f.blk G' P=.row false a0k (c0c o)∧o.length=a.length∧b0u o∧r < d∧a0w o * d + r=a0w a) a.length ?_ ?_ ?_
 ·refine ⟨0,List.replicate a.length 0,by simp,by simp [h0],by simp [h0],by simp,by simp,by simp,by omega,Ext.push (Ext.refl _),?_,by simp,?_,hd,?_⟩
  ·rw [← hPd,a0C]
   congr 1
   generalize a.length=n
   induction n with
   | zero=>rfl
   | succ n ih=>rw [f0y,ih];rfl
  ·intro z hz;rw [j1r] at hz;omega
  ·simp [a0w]
 ·clear h0 ρ hm w1
  rintro k t G' ⟨r,o,ht,g0,g1,g6,g7,g8,hk,hx2,hb,hol,hok,hr,hs⟩
  obtain ⟨ρ,rfl⟩:=toT ht
  simp only [b0V,Nat.reduceLT] at g0 g1 g6 g7 g8
  by_cases hk0:k=0
  ·subst hk0
   simp [u0D,g0,g1,g6,g7,g8]
   exact ⟨r,rfl,hx2,o,hb,hol,hok,hr,by simpa using hs⟩
  ·have e0:(k:Int) - 1=((k - 1:Nat):Int):=by omega
   have hka:k - 1 < a.length:=by omega
   rw [e0] at g8
   have hla:=ha.load hka hx2
   have hia:=ha.ia (k:=.i64) hka
   have hA2:=f0C hka
   have hA3:a.getD (k - 1) 0 < 4294967296:=ha.2 _ (by rw [h1z,h1E hka];exact h1I hka)
   generalize a.getD (k - 1) 0=A at hla hA2 hA3
   have hlo:k - 1 < o.length:=by omega
   obtain ⟨hio,hro⟩:=f0i (k:=.i64) (cap:=a.length) hb hlo hol
   rw [hSL] at hio
   have s2:r * 2 ^ 32 % 18446744073709551616=r * 4294967296:=by omega
   have s1:d0d 0 .shl (.int .u64 (r:Int)) (.int .u64 32)=some (.int .u64 ((r * 4294967296:Nat):Int)):=by
    have:=J0W (tag:=0) (n:=r) (s:=32) (k':=.u64) (by omega)
    rw [s2] at this;exact this
   have s3:=Z0w (tag:=0) (a:=r * 4294967296) (b:=A) (by omega) (by omega)
   rw [w0l hA3] at s3
   have eA:IntKind.u64.wrap (A:Int)=(A:Int):=by rw [a0x];omega
   have eD:IntKind.u64.wrap (d:Int)=(d:Int):=by rw [a0x];omega
   have s4:=Z0H (tag:=0) (a:=r * 4294967296 + A) (b:=d) (by omega) (by omega)
   have s5:=a1s (tag:=0) (a:=r * 4294967296 + A) (b:=d) (by omega)
   have w2:IntKind.i64.wrap (((k - 1:Nat):Int) - 1)=((k - 1:Nat):Int) - 1:=a0Y (by omega) (by omega)
   simp [-Int.natCast_add,-Int.natCast_mul,-Int.natCast_ediv,-Int.natCast_emod,u0D,G0E,G0F,G0G,G0H,g0,g1,g6,g7,g8,hla,hia,s1,s3,eA,eD,s4,s5,hio,w2]
   have hq1:(r * 4294967296 + A) / d < 4294967296:=by
    rw [j1p hd]
    have:(r + 1) * 4294967296≤d * 4294967296:=h1J _ hr
    rw [i1e 4294967296 d];omega
   have hq2:=j1M (r * 4294967296 + A) d
   have hq3:=i1X (r * 4294967296 + A) hd
   clear s4 s5
   generalize (r * 4294967296 + A) / d=Q at hq1 hq2 ⊢
   generalize (r * 4294967296 + A) % d=r2 at hq2 hq3 ⊢
   refine (a0r (by have:=hx2.1;omega)).mono ?_
   rintro _ G3 ⟨rfl,hx3⟩
   replace hb:=hx3.blk hb
   have hxx:=hx2.trans hx3
   have hPl:=a0l hb
   have hle:k - 1 + 1≤o.length:=hlo
   rw [i1d hq1]
   simp [-Int.natCast_emod,-Int.natCast_ediv,-Int.natCast_add,hb,hle]
   refine ⟨k - 1,by omega,r2,rfl,rfl,by omega,hxx.set (by omega),o.set (k - 1) Q,by rw [a0A hPl,d0z],by simp [hol],b0X hok hq1,hq3,?_⟩
   have hdr:a0w ((o.set (k - 1) Q).drop (k - 1))=Q + 4294967296 * a0w (o.drop k):=by
    rw [f0C (by simpa using hlo),h1z,j1a hlo,show k - 1 + 1=k by omega,List.drop_set_of_lt (by omega)];rfl
   rw [hdr,hA2,show k - 1 + 1=k by omega,← hs,h1X,h1U,i1e Q d]
   generalize a0w (List.drop k o) * d=Z
   omega
 ·clear h0 ρ hm w1
  rintro t G' ⟨r,o,ht,g6,g7,hx2,hb,hol,hok,hr,hs⟩
  obtain ⟨ρ,rfl⟩:=toT ht
  simp only [b0V,Nat.reduceLT] at g6 g7
  have hy:Lim G' SL o:=by
   rw [← hSL,← hol]
   exact ⟨(Own.mk (fl:=0) hb (by simp) (i1C _)).sl,hok⟩
  simp [G0I,g6,g7]
  refine (a0r (by have:=hx2.1;omega)).mono ?_
  rintro _ G3 ⟨rfl,hx3⟩
  have e1:a0w a % d=r:=by rw [← hs,i1e,Nat.mul_add_mod,i1d hr]
  have e2:a0w a / d=a0w o:=by rw [← hs,i1e,Nat.mul_add_div hd,j1t hr];rfl
  have e3:((a0w a:Nat):Int) % (d:Int)=((r:Nat):Int):=by rw [← e1];rfl
  rw [i1d (by omega),e3,e2]
  simp
  exact fun _=>⟨o,hy.mono hx3,rfl,hol⟩
end
section
open Go
set_option maxHeartbeats 4000000
variable {fl:Nat} {H:a0f} {R:a0G} {v w:Value} {a b:List Nat}
theorem t0K {x y s:Nat} (h:y < 2 ^ s):y ||| x * 2 ^ s=y + x * 2 ^ s:=by
 have:=j1z (i:=s) (b:=y) h x
 rw [Nat.or_comm,i1e x,← this,Nat.add_comm]
theorem g0s {n:Nat} (ha:Lim H v a) (hf:fl≤H.size) (hna:a.length < 1073741824) (hn:n < 32) :
  a0S env fl y0q [v,.int .i64 (n:Int)] H (fun r H'=>(∃ o,Own H.size H' a0k 1 r (a.length + 1) (c0c o)∧b0u o∧a0w o=a0w a * 2 ^ n∧o.length=a.length + 1)∧Ext H H') R:=by
 refine a0i e1J hf (h:=?_)
 intro ρ h0
 simp only [N0b]
 have hm:=X0v (bytes:=4) (k:=.i64) (k':=.i64) (l:=0) (c:=(a.length:Int) + 1) (by omega) (by omega) (by omega) (by omega)
 have w1:IntKind.i64.wrap ((a.length:Int) + 1)=(a.length:Int) + 1:=a0Y (by omega) (by omega)
 simp [H0q,H0r,H0s,H0t,h0,ha.slen,hm,w1]
 have hp:2 ^ n≤2147483648:=i1R (n:=2) (by omega) (show n≤31 by omega)
 have hp0:0 < 2 ^ n:=k1a n
 refine b0Y (fun k t G'=>∃ i c out s,i + k=a.length∧t.length=38∧get t 1=.int .i64 (n:Int)∧get t 5=s∧get t 6=.int .u64 ((c:Nat):Int)∧get t 13=v∧get t 14=.int .i64 a.length∧get t 15=.int .i64 ((i:Nat):Int) ∧
   Ext H G'∧Own H.size G' a0k 1 s i (c0c out)∧b0u out∧out.length=i∧c < 2 ^ n∧a0w out + 4294967296 ^ i * c=a0w (a.take i) * 2 ^ n)
  (fun t G'=>∃ c out s,t.length=38∧get t 5=s∧get t 6=.int .u64 ((c:Nat):Int) ∧
   Ext H G'∧Own H.size G' a0k 1 s a.length (c0c out)∧b0u out∧out.length=a.length∧c < 2 ^ n∧a0w out + 4294967296 ^ a.length * c=a0w a * 2 ^ n) a.length ?_ ?_ ?_
 ·exact ⟨0,0,[],.slice (some ⟨H.size,0,none⟩) 0 (a.length + 1),by omega,by simp,by simp [h0],by simp,by simp,by simp [h0],by simp,by simp,by simp,
   Own.mk (by simp [c0c]) rfl (h1A _),by intro x hx;simp at hx,rfl,hp0,by simp [a0w]⟩
 ·clear hm w1 h0 ρ
  rintro k t G' ⟨i,c,out,s,hik,ht,g1,g5,g6,g13,g14,g15,hx,ho,hok,hol,hc,hs⟩
  obtain ⟨ρ,rfl⟩:=toT ht
  simp only [b0V,Nat.reduceLT] at g1 g5 g6 g13 g14 g15
  by_cases hi:i < a.length
  ·have hla:=ha.load hi hx
   have hia:=ha.ia (k:=.i64) hi
   have hA2:=a0Q hi
   have hA3:a.getD i 0 < 4294967296:=ha.2 _ (by rw [h1z,h1E hi];exact h1I hi)
   generalize a.getD i 0=A at hla hA2 hA3
   have eA:IntKind.u64.wrap (A:Int)=(A:Int):=by rw [a0x];omega
   have hAn:A * 2 ^ n≤4294967295 * 2147483648:=i1z (by omega) hp
   have s1:=J0W (tag:=0) (n:=A) (s:=n) (k':=.i64) (by omega)
   rw [i1d (by omega)] at s1
   have s2:=Z0w (tag:=0) (a:=c) (b:=A * 2 ^ n) (by omega) (by omega)
   rw [t0K hc] at s2
   have e9:IntKind.i64.wrap ((i:Int) + 1)=((i + 1:Nat):Int):=by rw [a0Y (by omega) (by omega)];omega
   simp [-Int.natCast_add,-Int.natCast_mul,-Int.natCast_pow,u0N,H0u,H0v,H0w,H0x,H0y,g1,g5,g6,g13,g14,g15,hi,hia,hla,eA,s1,s2]
   generalize hD:c + A * 2 ^ n=D
   refine (a0r hx.1).mono ?_
   rintro _ G2 ⟨rfl,hx2⟩
   obtain ⟨s',G3,h1,h2,h3,h4⟩:=e0b (e2:=a0k) (new:=[.int .u32 ((D % 4294967296:Nat):Int)]) (c:=1) (bytes:=4) (ho.mono hx2) rfl rfl (by omega) (by omega) (by omega) (by have:=hx.1;have:=hx2.1;omega)
   simp [-Int.natCast_emod,-Int.natCast_add,h1,g1,g5,g6,g13,g14,g15,e9]
   have hDq:D / 4294967296 < 2 ^ n:=by
    rw [j1p (by omega),← hD]
    have:(A + 1) * 2 ^ n≤4294967296 * 2 ^ n:=h1J _ hA3
    rw [h1X] at this
    rw [i1e (2 ^ n)];omega
   refine ⟨k - 1,by omega,i + 1,by omega,D / 4294967296,rfl,rfl,h4 _ (h1A _) (hx.trans hx2),out ++ [D % 4294967296],by simpa [c0c] using h2,?_,by simp [hol],hDq,?_⟩
   ·intro x hx
    rcases i1g.1 hx with hx | hx
    ·exact hok x hx
    ·simp at hx;omega
   ·rw [c0i,hol,hA2,h1Z,h1X,← hs]
    have e3:4294967296 ^ i * 4294967296 * (D / 4294967296)=4294967296 ^ i * (4294967296 * (D / 4294967296)):=h1U ..
    have e4:4294967296 ^ i * (D % 4294967296) + 4294967296 ^ i * (4294967296 * (D / 4294967296))=4294967296 ^ i * D:=by rw [← h1P,j1Z]
    have e5:4294967296 ^ i * D=4294967296 ^ i * c + 4294967296 ^ i * A * 2 ^ n:=by rw [← hD,h1P,h1U]
    omega
  ·simp [u0N,g1,g5,g6,g13,g14,g15,hi]
   have:i=a.length:=by omega
   subst this
   refine ⟨c,rfl,hx,out,ho,hok,hol,hc,?_⟩
   rw [hs,h1O (h1A _)]
 ·clear hm w1 h0 ρ
  rintro t G' ⟨c,out,s,ht,g5,g6,hx,ho,hok,hol,hc,hs⟩
  obtain ⟨ρ,rfl⟩:=toT ht
  simp only [b0V,Nat.reduceLT] at g5 g6
  simp [x0l,g5,g6]
  refine (a0r hx.1).mono ?_
  rintro _ G2 ⟨rfl,hx2⟩
  obtain ⟨s',G3,h1,h2,h3,h4⟩:=e0b (e2:=a0k) (new:=[.int .u32 ((c % 4294967296:Nat):Int)]) (c:=1) (bytes:=4) (ho.mono hx2) rfl rfl (by omega) (by omega) (by omega) (by have:=hx.1;have:=hx2.1;omega)
  simp [-Int.natCast_emod,-Int.natCast_add,h1]
  refine fun _=>⟨out ++ [c % 4294967296],by simpa [hol,c0c] using h2,?_,?_,by simp [hol]⟩
  ·intro x hx
   rcases i1g.1 hx with hx | hx
   ·exact hok x hx
   ·simp at hx;omega
  ·rw [c0i,hol,i1d (by omega)];exact hs
theorem r0s {n A N A1 M:Nat} (hn:n < 32) (hA:A < 4294967296) (hN:N=A1 + 4294967296 * M) :
  (A + 4294967296 * N) / 2 ^ n=(A + A1 * 4294967296) / 2 ^ n % 4294967296 + 4294967296 * (N / 2 ^ n):=by
 have hB:(4294967296:Nat)=2 ^ n * 2 ^ (32 - n):=by rw [← j1y,show n + (32 - n)=32 by omega]
 have hP:=k1a n
 have hQ:=k1a (32 - n)
 generalize 2 ^ n=P at *
 generalize 2 ^ (32 - n)=Q at *
 have e1:(A + 4294967296 * N) / P=A / P + Q * N:=by rw [hB,h1U,Nat.add_mul_div_left _ _ hP]
 have e2:(A + A1 * 4294967296) / P=A / P + Q * A1:=by rw [i1e A1,hB,h1U,Nat.add_mul_div_left _ _ hP]
 have e3:N % P=A1 % P:=by rw [hN,hB,h1U,Nat.add_mul_mod_self_left]
 have e4:Q * N=4294967296 * (N / P) + Q * (A1 % P):=by
  have:=j1M N P
  rw [e3] at this
  calc Q * N=Q * (P * (N / P) + A1 % P):=by rw [this]
   _=_:=by rw [h1P,← h1U,i1e Q P,← hB]
 have e5:Q * A1=4294967296 * (A1 / P) + Q * (A1 % P):=by
  have:=j1M A1 P
  calc Q * A1=Q * (P * (A1 / P) + A1 % P):=by rw [this]
   _=_:=by rw [h1P,← h1U,i1e Q P,← hB]
 have h1:A / P < Q:=by rw [j1p hP,i1e,← hB];exact hA
 have h2:Q * (A1 % P) + Q≤4294967296:=by
  have:=i1X A1 hP
  have:Q * (A1 % P + 1)≤Q * P:=i1b Q this
  rw [h1P,i1e Q P,← hB] at this
  omega
 rw [e1,e2,e4,e5]
 clear e1 e2 e3 e4 e5 hN
 generalize A / P=x at *
 generalize N / P=y at *
 generalize A1 / P=z at *
 generalize Q * (A1 % P)=q at *
 omega
theorem d0f {o:List Nat} {i z:Nat} (hlo:i < o.length):a0w (List.take (i + 1) (o.set i z))=a0w (List.take i o) + 4294967296 ^ i * z:=by
 rw [e0s (by simpa using hlo),c0i,i1E,List.length_set,i1N (by omega),List.take_set_of_le (by omega),h1z,j1a hlo,i1k]
theorem v0L {x y z s i q:Nat} (h:x=y + 4294967296 ^ i * z) (hs:y + 4294967296 ^ i * (z + 4294967296 * q)=s):x + 4294967296 ^ (i + 1) * q=s:=by
 rw [h,← hs,h1Z,h1P,h1U,i1W]
theorem p0W {n:Nat} (ha:Lim H v a) (hf:fl≤H.size) (hna:a.length < 1073741824) (hn:n < 32) :
  a0S env fl A0w [v,.int .i64 (n:Int)] H (fun r H'=>(∃ o,Lim H' r o∧a0w o=a0w a / 2 ^ n∧o.length=a.length)∧Ext H H') R:=by
 refine a0i e1M hf (h:=?_)
 intro ρ h0
 simp only [N0e]
 have hm:=h0d (bytes:=4) (k:=.i64) (k':=.i64) (l:=a.length) (c:=a.length) (h1A _) (by omega) (by omega)
 simp [H0E,H0F,H0G,h0,ha.slen,hm]
 generalize hPd:H.size=P
 generalize hSL:Value.slice (some ⟨P,0,none⟩) a.length a.length=SL
 refine b0Y (fun k t G'=>∃ i o,i + k=a.length∧t.length=44∧get t 0=v∧get t 1=.int .i64 (n:Int)∧get t 5=SL∧get t 12=.int .i64 a.length∧get t 13=.int .i64 ((i:Nat):Int) ∧
   Ext H G'∧a0f.blk G' P=.row false a0k (c0c o)∧o.length=a.length∧b0u o∧a0w (o.take i) + 4294967296 ^ i * (a0w (a.drop i) / 2 ^ n)=a0w a / 2 ^ n)
  (fun t G'=>∃ o,t.length=44∧get t 5=SL ∧
   Ext H G'∧a0f.blk G' P=.row false a0k (c0c o)∧o.length=a.length∧b0u o∧a0w o=a0w a / 2 ^ n) a.length ?_ ?_ ?_
 ·refine ⟨0,List.replicate a.length 0,by omega,by simp,by simp [h0],by simp [h0],by simp,by simp,by simp,Ext.push (Ext.refl _),?_,by simp,?_,by simp [a0w]⟩
  ·rw [← hPd,a0C]
   congr 1
   generalize a.length=n
   induction n with
   | zero=>rfl
   | succ n ih=>rw [f0y,ih];rfl
  ·intro z hz;rw [j1r] at hz;omega
 ·clear h0 ρ hm
  rintro k t G' ⟨i,o,hik,ht,g0,g1,g5,g12,g13,hx2,hb,hol,hok,hs⟩
  obtain ⟨ρ,rfl⟩:=toT ht
  simp only [b0V,Nat.reduceLT] at g0 g1 g5 g12 g13
  by_cases hi:i < a.length
  ·have hla:=ha.load hi hx2
   have hia:=ha.ia (k:=.i64) hi
   have hA2:=f0C hi
   have hA3:a.getD i 0 < 4294967296:=ha.2 _ (by rw [h1z,h1E hi];exact h1I hi)
   generalize a.getD i 0=A at hla hA2 hA3
   have hlo:i < o.length:=by omega
   obtain ⟨hio,hro⟩:=f0i (k:=.i64) (cap:=a.length) hb hlo hol
   rw [hSL] at hio
   have eA:IntKind.u64.wrap (A:Int)=(A:Int):=by rw [a0x];omega
   have e9:IntKind.i64.wrap ((i:Int) + 1)=((i + 1:Nat):Int):=by rw [a0Y (by omega) (by omega)];omega
   by_cases hi1:i + 1 < a.length
   ·have hla1:=ha.load hi1 hx2
    have hia1:=ha.ia (k:=.i64) hi1
    have hN:=f0C hi1
    have hA13:a.getD (i + 1) 0 < 4294967296:=ha.2 _ (by rw [h1z,h1E hi1];exact h1I hi1)
    generalize a.getD (i + 1) 0=A1 at hla1 hN hA13
    have eA1:IntKind.u64.wrap (A1:Int)=(A1:Int):=by rw [a0x];omega
    have s1:d0d 0 .shl (.int .u64 (A1:Int)) (.int .u64 32)=some (.int .u64 ((A1 * 4294967296:Nat):Int)):=by
     have:=J0W (tag:=0) (n:=A1) (s:=32) (k':=.u64) (by omega)
     rw [show A1 * 2 ^ 32 % 18446744073709551616=A1 * 4294967296 by omega] at this;exact this
    have s2:=Z0w (tag:=0) (a:=A) (b:=A1 * 4294967296) (by omega) (by omega)
    rw [show A ||| A1 * 4294967296=A + A1 * 4294967296 from t0K (s:=32) hA3] at s2
    have s3:=W0w (tag:=0) (n:=A + A1 * 4294967296) (s:=n) (k':=.i64) (by omega)
    simp [-Int.natCast_add,-Int.natCast_mul,-Int.natCast_pow,-Int.natCast_ediv,q0X,v0b,v0c,v0d,v0e,v0f,v0g,g0,g1,g5,g12,g13,hi,hi1,hia,hla,hia1,hla1,eA,eA1,e9,s1,s2,s3,ha.slen,hio]
    refine (a0r (by have:=hx2.1;omega)).mono ?_
    rintro _ G3 ⟨rfl,hx3⟩
    replace hb:=hx3.blk hb
    have hxx:=hx2.trans hx3
    have hPl:=a0l hb
    have hle:i + 1≤o.length:=hlo
    have hbl:=r0s hn hA3 hN
    simp [-Int.natCast_emod,-Int.natCast_ediv,-Int.natCast_add,hb,hle]
    have hz:(A + A1 * 4294967296) / 2 ^ n % 4294967296 < 4294967296:=i1X _ (by omega)
    rw [hA2,hbl] at hs
    generalize (A + A1 * 4294967296) / 2 ^ n % 4294967296=z at hs hz ⊢
    have hset:a0w (List.take (i + 1) (o.set i z))=a0w (List.take i o) + 4294967296 ^ i * z:=d0f hlo
    refine ⟨k - 1,by omega,i + 1,by omega,rfl,hxx.set (by omega),o.set i z,by rw [a0A hPl,d0z],by simp [hol],b0X hok hz,?_⟩
    exact v0L hset hs
   ·obtain ⟨A1,hA1⟩:∃ x:Nat,x=0:=⟨0,rfl⟩
    have hN:a0w (List.drop (i + 1) a)=A1 + 4294967296 * 0:=by rw [j1k (by omega),hA1];simp [a0w]
    have s3:d0d 0 .shr (.int .u64 (A:Int)) (.int .i64 (n:Int))=some (.int .u64 (((A + A1 * 4294967296) / 2 ^ n:Nat):Int)):=by
     rw [W0w (by omega),show A + A1 * 4294967296=A by rw [hA1];omega]
    clear hA1
    simp [-Int.natCast_add,-Int.natCast_mul,-Int.natCast_pow,-Int.natCast_ediv,q0X,v0b,v0c,v0d,v0e,v0f,v0g,g0,g1,g5,g12,g13,hi,hi1,hia,hla,eA,e9,s3,ha.slen,hio]
    refine (a0r (by have:=hx2.1;omega)).mono ?_
    rintro _ G3 ⟨rfl,hx3⟩
    replace hb:=hx3.blk hb
    have hxx:=hx2.trans hx3
    have hPl:=a0l hb
    have hle:i + 1≤o.length:=hlo
    have hbl:=r0s hn hA3 hN
    simp [-Int.natCast_emod,-Int.natCast_ediv,-Int.natCast_add,hb,hle]
    have hz:(A + A1 * 4294967296) / 2 ^ n % 4294967296 < 4294967296:=i1X _ (by omega)
    rw [hA2,hbl] at hs
    generalize (A + A1 * 4294967296) / 2 ^ n % 4294967296=z at hs hz ⊢
    have hset:a0w (List.take (i + 1) (o.set i z))=a0w (List.take i o) + 4294967296 ^ i * z:=d0f hlo
    refine ⟨k - 1,by omega,i + 1,by omega,rfl,hxx.set (by omega),o.set i z,by rw [a0A hPl,d0z],by simp [hol],b0X hok hz,?_⟩
    exact v0L hset hs
  ·simp [q0X,g0,g1,g5,g12,g13,hi]
   have:i=a.length:=by omega
   subst this
   refine ⟨hx2,o,hb,hol,hok,?_⟩
   rw [h1O (by omega),j1k (h1A _)] at hs
   simpa [a0w] using hs
 ·clear h0 ρ hm
  rintro t G' ⟨o,ht,g5,hx2,hb,hol,hok,hs⟩
  obtain ⟨ρ,rfl⟩:=toT ht
  simp only [b0V,Nat.reduceLT] at g5
  have hy:Lim G' SL o:=by
   rw [← hSL,← hol]
   exact ⟨(Own.mk (fl:=0) hb (by simp) (i1C _)).sl,hok⟩
  simp [x0n,g5]
  exact fun _=>⟨o,hy,hs,hol⟩
end
section
open Go
set_option maxHeartbeats 4000000
variable {fl:Nat} {H G:a0f} {R:a0G} {v w:Value} {a b:List Nat} {K:n0C}
theorem z0V {E:Env} {f:FuncId} {args:List Value} {sf:v0D} (hc:E.code f=some sf) (hl:args.length=sf.np:=by rfl) (hnt:args.length≤sf.nt:=by exact of_decide_eq_true rfl)
  (h:∀ ρ:Nat→Value,(∀ i,ρ i=args.getD i undef)→W E fl sf.body (T sf.nt ρ) H (Y0z (fun t' H'=>z0g H' t' sf.res fun v=>K v H')) R) :
  a0S E fl f args H K R :=
 p0C (K:=K) hc hl hnt (fun t h1 h2=>by
  have h3:=h (get t) h2
  rw [← K0v h1] at h3
  refine h3.mono fun e t' H' hq=>?_
  cases e with
  | exit i=>exact h1Y hq id
  | normal=>exact ⟨trivial,hq⟩
  | ret=>exact ⟨trivial,hq⟩)
@[simp] theorem a1t {t:b0b} {P:Value→Prop}:z0g H t [] P=P (.tuple #[]):=by simp [z0g,e0C,d0k]
theorem e0p.refl {o:Option Nat}:e0p o H H:=(Ext.refl H).extB
theorem e0p.trans {o:Option Nat} {H1 H2 H3:a0f} (h:e0p o H1 H2) (k:e0p o H2 H3):e0p o H1 H3 :=
 ⟨h1R h.1 k.1,fun b hb hne=>(k.2 b (h1W hb h.1) hne).trans (h.2 b hb hne)⟩
theorem e0p.set {p:Nat} {r:Blk} (h:e0p (some p) H G):e0p (some p) H (G.setIfInBounds p r) :=
 ⟨by have:=h.1;simpa using this,fun b hb hne=>by rw [b0h (by simpa using hne)];exact h.2 b hb hne⟩
theorem e0p.ext {p:Nat} {H0:a0f} (h:e0p (some p) H G) (hp:H0.size≤p) (h0:Ext H0 H):Ext H0 G :=
 ⟨h1R h0.1 h.1,fun b hb=>(h.2 b (h1W hb h0.1) (by simp;omega)).trans (h0.2 b hb)⟩
theorem Sl.off {e sz n p:Nat} {cs:List Value} (h:Sl H e sz v n cs) (hx:e0p (some p) H G) (hne:slB v ≠ some p):Sl G e sz v n cs:=by
 obtain ⟨hl,h | ⟨b,off,cap,ro,cells,rfl,hb,ho,hcs⟩⟩:=h
 ·exact ⟨hl,.inl h⟩
 ·exact ⟨hl,.inr ⟨b,off,cap,ro,cells,rfl,by rw [hx.2 b (a0l hb) (fun h=>hne (by simp only [slB];exact h.symm))];exact hb,ho,hcs⟩⟩
theorem Lim.off {p:Nat} (h:Lim H v a) (hx:e0p (some p) H G) (hne:slB v ≠ some p):Lim G v a:=⟨h.1.off hx hne,h.2⟩
def win (L:List Nat) (o:Nat):Nat→Nat
 | 0=>0
 | i + 1=>win L o i + 4294967296 ^ i * L.getD (o + i) 0
theorem k0a {L L':List Nat} {o:Nat}:∀ {i:Nat},(∀ j,j < i→L.getD (o + j) 0=L'.getD (o + j) 0)→win L o i=win L' o i
 | 0,_=>rfl
 | i + 1,h=>by rw [win,win,k0a (fun j hj=>h j (by omega)),h i (by omega)]
theorem W0M {L:List Nat} {o i j z:Nat} (h:o + i≤j):win (L.set j z) o i=win L o i :=
 k0a fun k hk=>b0P (by omega)
theorem c0d {L:List Nat} (h:b0u L) (i:Nat):L.getD i 0 < 4294967296:=by
 rw [h1z]
 by_cases hi:i < L.length
 ·rw [h1E hi];exact h _ (h1I hi)
 ·rw [h1M (by omega)];simp
theorem l0g {L:List Nat} (h:b0u L) (o:Nat):∀ i,win L o i < 4294967296 ^ i
 | 0=>by simp [win]
 | i + 1=>by
  rw [win,h1Z]
  have h1:=l0g h o i
  have h2:=c0d h (o + i)
  have:4294967296 ^ i * (L.getD (o + i) 0 + 1)≤4294967296 ^ i * 4294967296:=i1b _ h2
  rw [h1P,i1H] at this
  omega
theorem h0O {L:List Nat}:∀ {i:Nat},i≤L.length→a0w (L.take i)=win L 0 i
 | 0,_=>by simp [a0w,win]
 | i + 1,h=>by rw [a0Q (by omega),h0O (by omega),win,i1o]
theorem k0N {L:List Nat} {n:Nat} (h:L.length≤n):win L 0 n=a0w L:=by
 obtain ⟨k,rfl⟩:∃ k,n=L.length + k:=⟨n - L.length,by omega⟩
 clear h
 induction k with
 | zero=>rw [i1J,← h0O (h1A _),h1T]
 | succ k ih=>rw [← i1W,win,ih,h1z,h1M (by omega)];simp
theorem m0s {e p o n cap:Nat} {L:List Nat} (hb:G.blk p=.row false e (c0c L)) (hL:o + n≤L.length) {k:IntKind} {z:Nat} (hz:z < n) :
  iaV 1 (.slice (some ⟨p,o,none⟩) n cap) (.int k (z:Int))=some (.pointer (some ⟨p,o + z,none⟩))∧rd (G.blk p) (o + z)=some (.int .u32 ((L.getD (o + z) 0:Nat):Int)):=by
 refine ⟨?_,?_⟩
 ·simp only [iaV];rw [h1F (by omega)];simp
 ·rw [hb];simp [c0c,h1z,show o + z < L.length by omega]
theorem s0T {x y u v g c t ch cm bo B P:Nat} (h:x + g * y=u + c * P) (ht:t=c + v * g) (hc:t=ch * B + cm) {z w:Nat} (hz:z + cm=w + bo * B) :
  (x + P * z) + g * (y + P * v)=(u + P * w) + (ch + bo) * (P * B):=by
 have h1:P * z + P * cm=P * w + P * (bo * B):=by rw [← h1P,hz,h1P]
 have h2:P * (c + v * g)=P * (ch * B) + P * cm:=by rw [← ht,hc,h1P]
 rw [h1P] at h2 ⊢
 rw [h1X]
 have e1:g * (P * v)=P * (v * g):=by grind
 have e2:ch * (P * B)=P * (ch * B):=by grind
 have e3:bo * (P * B)=P * (bo * B):=by grind
 have e4:c * P=P * c:=by grind
 omega
theorem r0Q {x y u v c t ch cm B P w:Nat} (h:x + c * P=u + y) (ht:t=c + w + v) (hc:t=ch * B + cm) :
  (x + P * cm) + ch * (P * B)=(u + P * w) + (y + P * v):=by
 have h2:P * (c + w + v)=P * (ch * B) + P * cm:=by rw [← ht,hc,h1P]
 rw [h1P,h1P] at h2
 have e2:ch * (P * B)=P * (ch * B):=by grind
 have e4:c * P=P * c:=by grind
 omega
def Won (L X:List Nat) (o i:Nat):Prop:=X.length=L.length∧b0u X∧∀ j,j < o ∨ o + i≤j→X.getD j 0=L.getD j 0
theorem Won.zero {L:List Nat} {o:Nat} (h:b0u L):Won L L o 0:=⟨rfl,h,fun _ _=>rfl⟩
theorem Won.step {L X:List Nat} {o i z:Nat} (h:Won L X o i) (hz:z < 4294967296):Won L (X.set (o + i) z) o (i + 1) :=
 ⟨by simp [h.1],b0X h.2.1 hz,fun j hj=>by rw [b0P (by omega)];exact h.2.2 j (by omega)⟩
theorem Won.win {L X:List Nat} {o i z:Nat} (h:Won L X o i) (hi:o + i < L.length):AI.win (X.set (o + i) z) o (i + 1)=AI.win X o i + 4294967296 ^ i * z:=by
 rw [AI.win,W0M (by omega),h1z,j1a (by rw [h.1];exact hi)];rfl
theorem q0a {L:List Nat} {p o n cap g:Nat} (hb:H.blk p=.row false a0k (c0c L)) (hok:b0u L) (hL:o + n≤L.length) (hv:Lim H v a) (hne:slB v ≠ some p) (hf:fl≤p) (hg:g < 4294967296) (hn:n < 1073741824) (ha:a.length≤n) :
  a0S env fl A0u [.slice (some ⟨p,o,none⟩) n cap,v,.int .u64 (g:Int)] H (fun r G=>∃ X c,r=.bool (c != 0)∧G.blk p=.row false a0k (c0c X)∧e0p (some p) H G∧Won L X o n∧win X o n + g * a0w a=win L o n + c * 4294967296 ^ n) R:=by
 refine z0V e1K (h:=?_)
 intro ρ h0
 simp only [N0c]
 simp [H0z,H0A,H0B,h0,i0r]
 generalize hSL:Value.slice (some ⟨p,o,none⟩) n cap=SL
 refine b0Y (fun k t G=>∃ i c X,i + k=n∧t.length=49∧get t 0=SL∧get t 1=v∧get t 2=.int .u64 ((g:Nat):Int)∧get t 7=.int .u64 ((c:Nat):Int)∧get t 11=.int .i64 n∧get t 12=.int .i64 ((i:Nat):Int) ∧
   G.blk p=.row false a0k (c0c X)∧e0p (some p) H G∧Won L X o i∧c≤4294967296∧win X o i + g * win a 0 i=win L o i + c * 4294967296 ^ i)
  (fun t G=>∃ c X,t.length=49∧get t 7=.int .u64 ((c:Nat):Int)∧G.blk p=.row false a0k (c0c X)∧e0p (some p) H G∧Won L X o n∧win X o n + g * win a 0 n=win L o n + c * 4294967296 ^ n) n ?_ ?_ ?_
 ·exact ⟨0,0,L,by omega,by simp,by simp [h0,hSL],by simp [h0],by simp [h0],by simp,by simp,by simp,hb,e0p.refl,Won.zero hok,by omega,by simp [win]⟩
 ·clear h0 ρ
  rintro k t G ⟨i,c,X,hik,ht,g0,g1,g2,g7,g11,g12,hX,hx,hw,hc,hs⟩
  obtain ⟨ρ,rfl⟩:=toT ht
  simp only [b0V,Nat.reduceLT] at g0 g1 g2 g7 g11 g12
  by_cases hi:i < n
  ·have e9:IntKind.i64.wrap ((i:Int) + 1)=((i + 1:Nat):Int):=by rw [a0Y (by omega) (by omega)];omega
   obtain ⟨hi1,hi2⟩:=m0s (k:=.i64) (cap:=cap) hX (by rw [hw.1];exact hL) hi
   rw [hSL] at hi1
   have hXl:X.getD (o + i) 0=L.getD (o + i) 0:=hw.2.2 _ (by omega)
   have hA:=c0d hok (o + i)
   rw [hXl] at hi2
   have hLw:win L o (i + 1)=win L o i + 4294967296 ^ i * L.getD (o + i) 0:=rfl
   have haw:win a 0 (i + 1)=win a 0 i + 4294967296 ^ i * a.getD i 0:=by rw [win,i1o]
   generalize L.getD (o + i) 0=A at hi2 hA hLw
   have eA:IntKind.u64.wrap (A:Int)=(A:Int):=by rw [a0x];omega
   have hv':=hv.off hx hne
   have hV:=c0d hv.ok i
   by_cases hia:i < a.length
   ·have hla:=hv'.load hia (Ext.refl _)
    have hia2:=hv'.ia (k:=.i64) hia
    generalize a.getD i 0=V at hla haw hV
    have eV:IntKind.u64.wrap (V:Int)=(V:Int):=by rw [a0x];omega
    have hVg:V * g≤4294967295 * 4294967295:=i1z (by omega) (by omega)
    have e1:IntKind.u64.wrap ((V:Int) * (g:Int))=((V * g:Nat):Int):=by rw [a0x,← h1V];omega
    have e2:IntKind.u64.wrap ((c:Int) + ((V * g:Nat):Int))=((c + V * g:Nat):Int):=by rw [a0x,← h1G];omega
    have e3:=Y0c (tag:=0) (a:=c + V * g)
    simp [-Int.natCast_add,-Int.natCast_mul,-Int.natCast_ediv,-Int.natCast_emod,q0V,u0O,u0P,u0Q,u0R,u0S,u0T,q0U,g0,g1,g2,g7,g11,g12,hi,hv'.slen,hia,hia2,hla,eV,e1,e2,hi1,hi2,e3,eA]
    generalize hD:c + V * g=D at *
    have hDD:D=(D / 4294967296) * 4294967296 + D % 4294967296:=(k1i D 4294967296).symm
    have hcm:=i1X D (show 0 < 4294967296 by omega)
    generalize D / 4294967296=ch at *
    generalize D % 4294967296=cm at *
    have hbo:IntKind.u64.wrap ((A:Int) - (cm:Int))=((if cm≤A then A - cm else A + 18446744073709551616 - cm:Nat):Int):=by rw [a0x];split <;> omega
    have hchb:ch≤4294967295:=by omega
    obtain ⟨bo,z,q,hbq,hz1,hz2,hq1,hq2,hq3⟩:∃ bo z q:Nat,(if cm≤A then A - cm else A + 18446744073709551616 - cm:Nat)=q∧z + cm=A + bo * 4294967296∧z < 4294967296∧q % 4294967296=z∧q / 9223372036854775808=bo∧bo≤1:=by
     by_cases h:cm≤A
     ·exact ⟨0,A - cm,A - cm,by rw [h1F h],by omega,by omega,by omega,by omega,by omega⟩
     ·exact ⟨1,A + 4294967296 - cm,A + 18446744073709551616 - cm,by rw [h1C h],by omega,by omega,by omega,by omega,by omega⟩
    have e8:IntKind.u64.wrap ((ch:Int) + (bo:Int))=((ch + bo:Nat):Int):=by rw [a0x];omega
    rw [hbq] at hbo
    simp [-Int.natCast_add,-Int.natCast_mul,-Int.natCast_ediv,-Int.natCast_emod,hbo,g0,g7,g11,g12]
    refine (a0r (by have:=a0l hX;omega)).mono ?_
    rintro _ G3 ⟨rfl,hx3⟩
    rw [hq1,hq2]
    have hX3:=hx3.blk hX
    have hpl:=a0l hX3
    have hle:o + i + 1≤X.length:=by rw [hw.1];omega
    simp [-Int.natCast_add,-Int.natCast_mul,-Int.natCast_ediv,-Int.natCast_emod,hi1,hX3,hle,hf,e8,e9]
    refine ⟨k - 1,by omega,i + 1,by omega,ch + bo,rfl,rfl,X.set (o + i) z,by rw [a0A hpl,d0z],(hx.trans hx3.extB).set,hw.step hz2,by omega,?_⟩
    rw [hw.win (by omega),haw,hLw,h1Z]
    exact s0T hs hD.symm hDD hz1
   ·have hV0:a.getD i 0=0:=by rw [h1z,h1M (by omega)];rfl
    rw [hV0] at haw
    obtain ⟨V,hV⟩:∃ V,V=0:=⟨0,rfl⟩
    replace haw:win a 0 (i + 1)=win a 0 i + 4294967296 ^ i * V:=by rw [haw,hV]
    have hVg:V * g=0:=by rw [hV,Nat.zero_mul]
    have e3:=Y0c (tag:=0) (a:=c)
    have ec:c=c + V * g:=by omega
    rw [ec] at e3 g7
    have hDb:c + V * g≤4294967296:=by omega
    simp [-Int.natCast_add,-Int.natCast_mul,-Int.natCast_ediv,-Int.natCast_emod,q0V,u0O,u0P,u0Q,u0R,u0S,u0T,q0U,g0,g1,g2,g7,g11,g12,hi,hv'.slen,hia,hi1,hi2,e3,eA]
    generalize hD:c + V * g=D at *
    have hDD:D=(D / 4294967296) * 4294967296 + D % 4294967296:=(k1i D 4294967296).symm
    have hcm:=i1X D (show 0 < 4294967296 by omega)
    generalize D / 4294967296=ch at *
    generalize D % 4294967296=cm at *
    have hbo:IntKind.u64.wrap ((A:Int) - (cm:Int))=((if cm≤A then A - cm else A + 18446744073709551616 - cm:Nat):Int):=by rw [a0x];split <;> omega
    have hchb:ch≤4294967295:=by omega
    obtain ⟨bo,z,q,hbq,hz1,hz2,hq1,hq2,hq3⟩:∃ bo z q:Nat,(if cm≤A then A - cm else A + 18446744073709551616 - cm:Nat)=q∧z + cm=A + bo * 4294967296∧z < 4294967296∧q % 4294967296=z∧q / 9223372036854775808=bo∧bo≤1:=by
     by_cases h:cm≤A
     ·exact ⟨0,A - cm,A - cm,by rw [h1F h],by omega,by omega,by omega,by omega,by omega⟩
     ·exact ⟨1,A + 4294967296 - cm,A + 18446744073709551616 - cm,by rw [h1C h],by omega,by omega,by omega,by omega,by omega⟩
    have e8:IntKind.u64.wrap ((ch:Int) + (bo:Int))=((ch + bo:Nat):Int):=by rw [a0x];omega
    rw [hbq] at hbo
    simp [-Int.natCast_add,-Int.natCast_mul,-Int.natCast_ediv,-Int.natCast_emod,hbo,g0,g7,g11,g12]
    refine (a0r (by have:=a0l hX;omega)).mono ?_
    rintro _ G3 ⟨rfl,hx3⟩
    rw [hq1,hq2]
    have hX3:=hx3.blk hX
    have hpl:=a0l hX3
    have hle:o + i + 1≤X.length:=by rw [hw.1];omega
    simp [-Int.natCast_add,-Int.natCast_mul,-Int.natCast_ediv,-Int.natCast_emod,hi1,hX3,hle,hf,e8,e9]
    refine ⟨k - 1,by omega,i + 1,by omega,ch + bo,rfl,rfl,X.set (o + i) z,by rw [a0A hpl,d0z],(hx.trans hx3.extB).set,hw.step hz2,by omega,?_⟩
    rw [hw.win (by omega),haw,hLw,h1Z]
    exact s0T hs hD.symm hDD hz1
  ·simp [q0V,g0,g1,g2,g7,g11,g12,hi]
   have:i=n:=by omega
   subst this
   exact ⟨c,rfl,X,hX,hx,hw,hs⟩
 ·clear h0 ρ
  rintro t G ⟨c,X,ht,g7,hX,hx,hw,hs⟩
  obtain ⟨ρ,rfl⟩:=toT ht
  simp only [b0V,Nat.reduceLT] at g7
  simp [x0m,g7]
  refine ⟨X,c,rfl,hX,hx,hw,?_⟩
  rw [← hs]
  congr 2
  rw [k0N ha]
theorem p0X {L:List Nat} {p o n cap:Nat} (hb:H.blk p=.row false a0k (c0c L)) (hok:b0u L) (hL:o + n≤L.length) (hv:Lim H v a) (hne:slB v ≠ some p) (hf:fl≤p) (hn:n < 1073741824) (ha:a.length≤n) :
  a0S env fl A0v [.slice (some ⟨p,o,none⟩) n cap,v] H (fun _ G=>∃ X c,G.blk p=.row false a0k (c0c X)∧e0p (some p) H G∧Won L X o n∧win X o n + c * 4294967296 ^ n=win L o n + a0w a) R:=by
 refine z0V e1L (h:=?_)
 intro ρ h0
 simp only [N0d]
 simp [H0C,H0D,h0,i0r]
 generalize hSL:Value.slice (some ⟨p,o,none⟩) n cap=SL
 refine N0F (fun k t G=>∃ i c X,i + k=n∧t.length=37∧get t 0=SL∧get t 1=v∧get t 4=.int .u64 ((c:Nat):Int)∧get t 7=.int .i64 n∧get t 8=.int .i64 ((i:Nat):Int) ∧
   G.blk p=.row false a0k (c0c X)∧e0p (some p) H G∧Won L X o i∧c≤1∧win X o i + c * 4294967296 ^ i=win L o i + win a 0 i) ?_ n ?_
 ·clear h0 ρ
  rintro k t G ⟨i,c,X,hik,ht,g0,g1,g4,g7,g8,hX,hx,hw,hc,hs⟩
  obtain ⟨ρ,rfl⟩:=toT ht
  simp only [b0V,Nat.reduceLT] at g0 g1 g4 g7 g8
  by_cases hi:i < n
  ·have e9:IntKind.i64.wrap ((i:Int) + 1)=((i + 1:Nat):Int):=by rw [a0Y (by omega) (by omega)];omega
   obtain ⟨hi1,hi2⟩:=m0s (k:=.i64) (cap:=cap) hX (by rw [hw.1];exact hL) hi
   rw [hSL] at hi1
   have hXl:X.getD (o + i) 0=L.getD (o + i) 0:=hw.2.2 _ (by omega)
   have hA:=c0d hok (o + i)
   rw [hXl] at hi2
   have hLw:win L o (i + 1)=win L o i + 4294967296 ^ i * L.getD (o + i) 0:=rfl
   have haw:win a 0 (i + 1)=win a 0 i + 4294967296 ^ i * a.getD i 0:=by rw [win,i1o]
   generalize L.getD (o + i) 0=A at hi2 hA hLw
   have eA:IntKind.u64.wrap (A:Int)=(A:Int):=by rw [a0x];omega
   have e1:IntKind.u64.wrap ((c:Int) + (A:Int))=((c + A:Nat):Int):=by rw [a0x];omega
   have hv':=hv.off hx hne
   have hV:=c0d hv.ok i
   by_cases hia:i < a.length
   ·have hla:=hv'.load hia (Ext.refl _)
    have hia2:=hv'.ia (k:=.i64) hia
    generalize a.getD i 0=V at hla haw hV
    have eV:IntKind.u64.wrap (V:Int)=(V:Int):=by rw [a0x];omega
    have e2:IntKind.u64.wrap (((c + A:Nat):Int) + (V:Int))=((c + A + V:Nat):Int):=by rw [a0x];omega
    simp [-Int.natCast_add,-Int.natCast_mul,-Int.natCast_ediv,-Int.natCast_emod,q0W,u0U,u0V,u0W,u0X,u0Y,u0Z,v0a,g0,g1,g4,g7,g8,hi,hv'.slen,hia,hia2,hla,eV,e1,e2,hi1,hi2,eA]
    generalize hD:c + A + V=D at *
    have hDD:D=(D / 4294967296) * 4294967296 + D % 4294967296:=(k1i D 4294967296).symm
    have hcm:=i1X D (show 0 < 4294967296 by omega)
    refine (a0r (by have:=a0l hX;omega)).mono ?_
    rintro _ G3 ⟨rfl,hx3⟩
    generalize D / 4294967296=ch at *
    generalize D % 4294967296=cm at *
    have hX3:=hx3.blk hX
    have hpl:=a0l hX3
    have hle:o + i + 1≤X.length:=by rw [hw.1];omega
    simp [-Int.natCast_add,-Int.natCast_mul,-Int.natCast_ediv,-Int.natCast_emod,hi1,hX3,hle,hf,e9]
    refine ⟨k - 1,by omega,i + 1,by omega,ch,rfl,rfl,X.set (o + i) cm,by rw [a0A hpl,d0z],(hx.trans hx3.extB).set,hw.step hcm,by omega,?_⟩
    rw [hw.win (by omega),haw,hLw,h1Z]
    exact r0Q hs hD.symm hDD
   ·have hV0:a.getD i 0=0:=by rw [h1z,h1M (by omega)];rfl
    rw [hV0] at haw
    obtain ⟨V,hV⟩:∃ V,V=0:=⟨0,rfl⟩
    replace haw:win a 0 (i + 1)=win a 0 i + 4294967296 ^ i * V:=by rw [haw,hV]
    have e1':IntKind.u64.wrap ((c:Int) + (A:Int))=((c + A + V:Nat):Int):=by rw [e1,hV];rfl
    simp [-Int.natCast_add,-Int.natCast_mul,-Int.natCast_ediv,-Int.natCast_emod,q0W,u0U,u0V,u0W,u0X,u0Y,u0Z,v0a,g0,g1,g4,g7,g8,hi,hv'.slen,hia,hi1,hi2,e1',eA]
    generalize hD:c + A + V=D at *
    have hDD:D=(D / 4294967296) * 4294967296 + D % 4294967296:=(k1i D 4294967296).symm
    have hcm:=i1X D (show 0 < 4294967296 by omega)
    refine (a0r (by have:=a0l hX;omega)).mono ?_
    rintro _ G3 ⟨rfl,hx3⟩
    generalize D / 4294967296=ch at *
    generalize D % 4294967296=cm at *
    have hX3:=hx3.blk hX
    have hpl:=a0l hX3
    have hle:o + i + 1≤X.length:=by rw [hw.1];omega
    simp [-Int.natCast_add,-Int.natCast_mul,-Int.natCast_ediv,-Int.natCast_emod,hi1,hX3,hle,hf,e9]
    refine ⟨k - 1,by omega,i + 1,by omega,ch,rfl,rfl,X.set (o + i) cm,by rw [a0A hpl,d0z],(hx.trans hx3.extB).set,hw.step hcm,by omega,?_⟩
    rw [hw.win (by omega),haw,hLw,h1Z]
    exact r0Q hs hD.symm hDD
  ·simp [q0W,g0,g1,g4,g7,g8,hi]
   have:i=n:=by omega
   subst this
   exact ⟨X,hX,hx,hw,c,by rw [hs,k0N ha]⟩
 ·exact ⟨0,0,L,by omega,by simp,by simp [h0,hSL],by simp [h0],by simp,by simp,by simp,hb,e0p.refl,Won.zero hok,by omega,by simp [win]⟩
end
section
open Go
theorem d0w {L:List Nat} {o i:Nat}:∀ {j:Nat},win L o (i + j)=win L o i + 4294967296 ^ i * win L (o + i) j
 | 0=>by simp [win]
 | j + 1=>by
  rw [← i1W,win,d0w,win,h1P,← h1U,← j1y,i1W o i j,i1W]
theorem W0N {L:List Nat} {o k:Nat} (hk:2≤k):win L o (k + 1)=win L o (k - 2) + 4294967296 ^ (k - 2) * ((L.getD (o + k) 0 * 4294967296 + L.getD (o + (k - 1)) 0) * 4294967296 + L.getD (o + (k - 2)) 0):=by
 obtain ⟨j,rfl⟩:∃ j,k=j + 2:=⟨k - 2,by omega⟩
 rw [show j + 2 - 2=j by omega,show j + 2 + 1=j + 3 by omega,d0w,show j + 2 - 1=j + 1 by omega]
 congr 2
 simp only [win]
 rw [show o + j + 0=o + j by omega,show o + j + 1=o + (j + 1) by omega,show o + j + 2=o + (j + 2) by omega]
 omega
theorem N0D {L:List Nat} {o k:Nat} (hk:2≤k):win L o k=win L o (k - 2) + 4294967296 ^ (k - 2) * (L.getD (o + (k - 1)) 0 * 4294967296 + L.getD (o + (k - 2)) 0):=by
 obtain ⟨j,rfl⟩:∃ j,k=j + 2:=⟨k - 2,by omega⟩
 rw [show j + 2 - 2=j by omega,d0w,show j + 2 - 1=j + 1 by omega]
 congr 2
 simp only [win]
 rw [show o + j + 0=o + j by omega,show o + j + 1=o + (j + 1) by omega]
 omega
structure Gs (W low lowV Uw V x u3 top next B:Nat):Prop where
 W0:0 < W
 hlow:low < W
 hlowV:lowV < W
 hU:Uw=low + W * (x * B + u3)
 hV:V=lowV + W * (top * B + next)
 hB:B≤2 * top
 htop:top < B
 hnext:next < B
 hu3:u3 < B
 lt:Uw < V * B
variable {W low lowV Uw V x u3 top next B g rest q:Nat}
theorem Gs.V0 (h:Gs W low lowV Uw V x u3 top next B):0 < V:=by
 rw [h.hV]
 have h1:0 < top:=by have:=h.hB;have:=h.htop;omega
 have h2:0 < B:=by have:=h.htop;omega
 have:=Nat.mul_pos h.W0 (show 0 < top * B + next by have:=Nat.mul_pos h1 h2;omega)
 omega
theorem Gs.V_lt (h:Gs W low lowV Uw V x u3 top next B):V < W * (top * B + next + 1):=by
 rw [h.hV,h1P W (top * B + next) 1,i1H];have:=h.hlowV;omega
theorem Gs.U_lt (h:Gs W low lowV Uw V x u3 top next B):Uw < W * (x * B + u3 + 1):=by
 rw [h.hU,h1P W (x * B + u3) 1,i1H];have:=h.hlow;omega
theorem Gs.V_ge (h:Gs W low lowV Uw V x u3 top next B):W * (top * B + next)≤V:=by rw [h.hV];omega
theorem Gs.U_ge (h:Gs W low lowV Uw V x u3 top next B):W * (x * B + u3)≤Uw:=by rw [h.hU];omega
theorem Gs.q_lt (h:Gs W low lowV Uw V x u3 top next B):Uw / V < B:=by
 rw [j1p h.V0,i1e];exact h.lt
theorem Gs.q_le (h:Gs W low lowV Uw V x u3 top next B):Uw / V≤x / top:=by
 have h1:0 < top:=by have:=h.hB;have:=h.htop;omega
 rw [Nat.le_div_iff_mul_le h1]
 have h2:=Nat.div_mul_le_self Uw V
 generalize Uw / V=q at *
 have h3:W * (q * (top * B))≤q * V:=by
  calc W * (q * (top * B))≤W * (q * (top * B + next)):=i1b _ (i1b _ (by omega))
   _=q * (W * (top * B + next)):=by grind
   _≤q * V:=i1b _ h.V_ge
 have h4:=h.U_lt
 have h5:q * (top * B) < x * B + u3 + 1:=j1c (a:=W) (by omega)
 have h6:=h.hu3
 have h7:q * top * B < (x + 1) * B:=by rw [h1U,h1X];omega
 have:=k1d h7
 omega
theorem Gs.x_lt (h:Gs W low lowV Uw V x u3 top next B):x < top * B + B:=by
 have h1:=h.U_ge
 have h2:=h.lt
 have h3:=h.V_lt
 have hB:0 < B:=by have:=h.htop;omega
 have h4:W * (x * B + u3) < W * ((top * B + next + 1) * B):=by
  have:V * B≤W * (top * B + next + 1) * B:=h1J _ (by omega)
  rw [h1U] at this;omega
 have h5:=j1c h4
 have h6:x * B < (top * B + next + 1) * B:=by omega
 have:=k1d h6
 have:=h.hnext
 omega
theorem Gs.down (h:Gs W low lowV Uw V x u3 top next B) (hx:g * top + rest=x) (hq:Uw / V≤g) (hc:B≤g ∨ rest * B + u3 < g * next):Uw / V≤g - 1∧0 < g:=by
 have h1:=h.q_lt
 have hB:0 < B:=by have:=h.htop;omega
 rcases hc with hc | hc
 ·omega
 ·have hne:Uw / V ≠ g:=by
   intro he
   have h2:=Nat.div_mul_le_self Uw V
   rw [he] at h2
   have h3:W * (g * (top * B + next))≤g * V:=by
    calc W * (g * (top * B + next))=g * (W * (top * B + next)):=by grind
     _≤g * V:=i1b _ h.V_ge
   have h4:=h.U_lt
   have h5:g * (top * B + next) < x * B + u3 + 1:=j1c (a:=W) (by omega)
   rw [← hx,h1X,h1P,← h1U] at h5
   omega
  generalize Uw / V=q at *
  omega
theorem Gs.fine (h:Gs W low lowV Uw V x u3 top next B) (hx:g * top + rest=x) (hg:g < B) (hc:g * next≤rest * B + u3):g≤Uw / V + 1:=by
 by_cases hgq:g≤Uw / V + 1
 ·exact hgq
 ·exfalso
  have hgq2:Uw / V + 1≤g - 1:=by generalize Uw / V=q at *;omega
  have h1:Uw < (Uw / V + 1) * V:=by
   have:=j1M Uw V
   have h2:=i1X Uw h.V0
   rw [h1X,i1e (Uw / V)];omega
  have h2:(Uw / V + 1) * V≤(g - 1) * V:=h1J _ hgq2
  have h3:(g - 1) * V≤(g - 1) * (W * (top * B + next + 1)):=i1b _ (by have:=h.V_lt;omega)
  have h4:=h.U_ge
  have h5:W * (x * B + u3) < W * ((g - 1) * (top * B + next + 1)):=by
   have:(g - 1) * (W * (top * B + next + 1))=W * ((g - 1) * (top * B + next + 1)):=by grind
   omega
  have h6:=j1c h5
  obtain ⟨g1,rfl⟩:∃ g1,g=g1 + 1:=⟨g - 1,by generalize Uw / V=q at *;omega⟩
  rw [show g1 + 1 - 1=g1 by omega] at h6
  have h7:(g1 + 1) * (top * B + next)≤x * B + u3:=by
   rw [← hx,h1X ((g1 + 1) * top),h1P (g1 + 1),← h1U];omega
  have h8:top * B + next < g1:=by
   rw [h1X,i1r] at h7
   rw [h1P,i1H] at h6
   omega
  have h9:B≤top * B:=Nat.le_mul_of_pos_left _ (by have:=h.hB;have:=h.htop;omega)
  omega
theorem K0i {X c P:Nat} (h:Gs W low lowV Uw V x u3 top next B) (h1:Uw / V≤g) (h2:g≤Uw / V + 1) (hs:X + g * V=Uw + c * P) (hX:X < P) (hP:V < P) :
  (c=0→g=Uw / V∧X=Uw % V)∧(c ≠ 0→g=Uw / V + 1∧∀ X' c',X' + c' * P=X + V→X' < P→X' = Uw % V):=by
 have hd:=j1M Uw V
 have hm:=i1X Uw h.V0
 generalize Uw / V=q at *
 generalize Uw % V=r at *
 refine ⟨fun hc=>?_,fun hc=>?_⟩
 ·subst hc
  rw [Nat.zero_mul,i1J] at hs
  by_cases hg:g=q
  ·subst hg;refine ⟨rfl,?_⟩;rw [i1e g V] at hs;omega
  ·have:g=q + 1:=by omega
   subst this
   rw [h1X,i1r,i1e q V] at hs;omega
 ·have hcP:P≤c * P:=Nat.le_mul_of_pos_left _ (by omega)
  by_cases hg:g=q
  ·subst hg;rw [i1e g V] at hs;omega
  ·have hg:g=q + 1:=by omega
   subst hg
   refine ⟨rfl,fun X' c' h3 h4=>?_⟩
   rw [h1X,i1r,i1e q V] at hs
   have hc1:c=1:=by
    by_cases hc2:2≤c
    ·have:2 * P≤c * P:=h1J _ hc2
     omega
    ·omega
   subst hc1
   have hc'1:c' = 1:=by
    by_cases h5:c' = 0
    ·subst h5;omega
    ·by_cases h6:2≤c'
     ·have:2 * P≤c' * P:=h1J _ h6
      omega
     ·omega
   subst hc'1
   omega
theorem v0V {BB i k n q r V U0:Nat} {L X Q:List Nat} (hBB:BB=4294967296) (hL:L.length=n) (hw:Won L X i (k + 1)) (hn:i + (k + 1)≤n) (hQ:i < Q.length) (hU:U0=a0w (Q.drop (i + 1)) * BB ^ (i + 1) * V + a0w L) (hV:V < BB ^ k) (hlt:a0w L < V * BB ^ (i + 1))
  (hq:win L i (k + 1)=V * q + r) (hr:r < V) (hX:win X i (k + 1)=r) :
  a0w X < V * BB ^ i∧U0=a0w ((Q.set i q).drop i) * BB ^ i * V + a0w X:=by
 obtain ⟨j,rfl⟩:∃ j,n=i + (k + 1) + j:=⟨n - (i + (k + 1)),by omega⟩
 have e1:a0w L=win L 0 i + BB ^ i * (win L i (k + 1) + BB ^ (k + 1) * win L (i + (k + 1)) j):=by
  have h1:=h0O (L:=L) (h1A _)
  rw [h1T,hL,i1W,d0w,d0w,i1o] at h1
  rw [h1,hBB]
 have e2:a0w X=win X 0 i + BB ^ i * (win X i (k + 1) + BB ^ (k + 1) * win X (i + (k + 1)) j):=by
  have h1:=h0O (L:=X) (h1A _)
  rw [h1T,hw.1,hL,i1W,d0w,d0w,i1o] at h1
  rw [h1,hBB]
 have e3:win X 0 i=win L 0 i:=k0a fun j hj=>hw.2.2 _ (by omega)
 have e4:win X (i + (k + 1)) j=win L (i + (k + 1)) j:=k0a fun j hj=>hw.2.2 _ (by omega)
 have hP:0 < BB ^ i:=Nat.pow_pos (by omega)
 have e5:win L (i + (k + 1)) j=0:=by
  by_cases h0:win L (i + (k + 1)) j=0
  ·exact h0
  ·exfalso
   have h1:BB ^ i * BB ^ (k + 1)≤a0w L:=by
    rw [e1]
    have:BB ^ i * BB ^ (k + 1)≤BB ^ i * (win L i (k + 1) + BB ^ (k + 1) * win L (i + (k + 1)) j):=i1b _ (by
     have:=Nat.le_mul_of_pos_right (BB ^ (k + 1)) (by omega:0 < win L (i + (k + 1)) j);omega)
    omega
   have h2:V * BB ^ (i + 1)≤BB ^ k * BB ^ (i + 1):=h1J _ (by omega)
   have h3:BB ^ k * BB ^ (i + 1)=BB ^ i * BB ^ (k + 1):=by rw [← j1y,← j1y];congr 1;omega
   omega
 rw [e5,Nat.mul_zero,i1J] at e1
 rw [e3,e4,e5,Nat.mul_zero,i1J,hX] at e2
 have hlow:win L 0 i < BB ^ i:=by
  rw [← e3,hBB];exact l0g hw.2.1 0 i
 refine ⟨?_,?_⟩
 ·rw [e2]
  have:BB ^ i * (r + 1)≤BB ^ i * V:=i1b _ hr
  rw [h1P,i1H] at this
  rw [i1e V];omega
 ·have h5:=f0C (l:=Q.set i q) (n:=i) (by simpa using hQ)
  rw [h1z,j1a hQ,i1k,List.drop_set_of_lt (show i < i + 1 by omega),← hBB] at h5
  rw [hU,e1,e2,hq,h5,h1Z]
  grind
end
section
open Go
set_option maxHeartbeats 4000000
set_option maxRecDepth 20000
variable {fl:Nat} {H G:a0f} {R:a0G} {v w:Value} {a b:List Nat}
theorem q0d {e p o n c:Nat} {cs:List Value} (hb:G.blk p=.row false e cs):elemOk G e (.slice (some ⟨p,o,none⟩) n c)=true:=by
 unfold elemOk;simp only [hb];simp
theorem n0s {p o n cap lo hi:Nat} {x y:Option Value} (hx:bnd 0 x=some lo) (hy:bnd n y=some hi) (h1:lo≤hi) (h2:hi≤n) :
  e0a 1 (.slice (some ⟨p,o,none⟩) n cap) x y none=some (.slice (some ⟨p,o + lo,none⟩) (hi - lo) (if cap=unk then unk else cap - lo)):=by
 unfold e0a;simp only [hx,hy];rw [h1F ⟨h1,h2⟩];simp
theorem A0L {p o n cap:Nat} {ro:Bool} {L:List Nat} (hb:G.blk p=.row ro a0k (c0c L)) (hok:b0u L) (hL:o + n≤L.length):Lim G (.slice (some ⟨p,o,none⟩) n cap) ((L.drop o).take n):=by
 have hl:((L.drop o).take n).length=n:=by simp;omega
 refine ⟨⟨by simp [hl],.inr ⟨p,o,cap,ro,c0c L,by rw [hl],hb,by simp [hl];omega,?_⟩⟩,fun x hx=>hok x (List.mem_of_mem_drop (j1u hx))⟩
 rw [hl,i1H];simp [c0c,List.map_take,List.map_drop]
theorem A0T {L:List Nat} {o:Nat}:∀ {n:Nat},o + n≤L.length→a0w ((L.drop o).take n)=win L o n
 | 0,_=>by simp [a0w,win]
 | n + 1,h=>by
  rw [a0Q (by simp;omega),A0T (by omega),win]
  simp [h1z]
theorem a1K {b:List Nat} {k n:Nat} (hok:b0u b) (hk:b.length=k + 1) (hn:n≤31) (ht:b.getD k 0 * 2 ^ n < 4294967296):a0w b * 2 ^ n < 4294967296 ^ (k + 1):=by
 have h1:a0w b=win b 0 k + 4294967296 ^ k * b.getD k 0:=by
  rw [← k0N (L:=b) (n:=k + 1) (by omega),win,i1o]
 have h2:=l0g hok 0 k
 have h3:(b.getD k 0 + 1) * 2 ^ n≤4294967296:=by
  obtain ⟨m,hm⟩:∃ m,4294967296=m * 2 ^ n:=⟨2 ^ (32 - n),by rw [← j1y,show 32 - n + n=32 by omega]⟩
  rw [hm] at ht ⊢
  exact h1J _ (k1d ht)
 have h4:a0w b < 4294967296 ^ k * (b.getD k 0 + 1):=by rw [h1,h1P,i1H];omega
 have hp:0 < 2 ^ n:=k1a n
 calc a0w b * 2 ^ n < 4294967296 ^ k * (b.getD k 0 + 1) * 2 ^ n:=Nat.mul_lt_mul_of_pos_right h4 hp
  _=4294967296 ^ k * ((b.getD k 0 + 1) * 2 ^ n):=h1U ..
  _≤4294967296 ^ k * 4294967296:=i1b _ h3
  _=4294967296 ^ (k + 1):=(h1Z ..).symm
theorem N0B {o:List Nat} {k:Nat} (ho:o.length=k + 1) (h:a0w o < 4294967296 ^ k):a0w (o.take k)=a0w o:=by
 have h1:a0w o=a0w (o.take k) + 4294967296 ^ k * o.getD k 0:=by
  rw [← a0Q (by omega),h1O (by omega)]
 have:o.getD k 0=0:=by
  by_cases h0:o.getD k 0=0
  ·exact h0
  ·have:=Nat.le_mul_of_pos_right (4294967296 ^ k) (by omega:0 < o.getD k 0);omega
 rw [this] at h1;omega
theorem a1J {b:List Nat} {k n:Nat} (hk:b.length=k + 1) (ht:2147483648≤b.getD k 0 * 2 ^ n):2147483648 * 4294967296 ^ k≤a0w b * 2 ^ n:=by
 have h1:a0w b=win b 0 k + 4294967296 ^ k * b.getD k 0:=by
  rw [← k0N (L:=b) (n:=k + 1) (by omega),win,i1o]
 rw [h1,h1X,h1U,i1e 2147483648]
 have:=i1b (4294967296 ^ k) ht
 omega
theorem L0d {x y la k n B:Nat} (h1:x < B ^ la) (hn:2 ^ n≤2147483648) (h2:2147483648 * B ^ k≤y):x * 2 ^ n < y * B ^ (la - k) ∨ la < k:=by
 by_cases hk:k≤la
 ·left
  have hp:0 < 2 ^ n:=k1a n
  calc x * 2 ^ n < B ^ la * 2 ^ n:=Nat.mul_lt_mul_of_pos_right h1 hp
   _≤B ^ la * 2147483648:=i1b _ hn
   _=2147483648 * B ^ k * B ^ (la - k):=by rw [h1U,← j1y,show k + (la - k)=la by omega,i1e]
   _≤y * B ^ (la - k):=h1J _ h2
 ·right;omega
theorem Won.trans {L X Y:List Nat} {o n:Nat} (h:Won L X o n) (k:Won X Y o n):Won L Y o n:=⟨k.1.trans h.1,k.2.1,fun j hj=>(k.2.2 j hj).trans (h.2.2 j hj)⟩
theorem a1z {tag r:Nat} (h:r < 4294967296):d0d tag .shl (.int .u64 (r:Int)) (.int .u64 32)=some (.int .u64 ((r * 4294967296:Nat):Int)):=by
 have h1:=J0W (tag:=tag) (n:=r) (s:=32) (k':=.u64) (by omega)
 have h2:r * 2 ^ 32 % 18446744073709551616=r * 4294967296:=by omega
 rw [h2] at h1;exact h1
theorem f1E {tag x y:Nat} (hx:x < 4294967296) (hy:y < 4294967296):d0d tag .or (.int .u64 ((x * 4294967296:Nat):Int)) (.int .u64 (y:Int))=some (.int .u64 ((x * 4294967296 + y:Nat):Int)):=by
 rw [Z0w (by omega) (by omega),w0l hy]
theorem x0C:∀ N:Nat,f0y [.int .u32 0] N=c0c (List.replicate N 0)
 | 0=>rfl
 | n + 1=>by rw [f0y,x0C n];rfl
theorem m0q (ha:Lim H v a) (hb:Lim H w b) (hf:fl≤H.size) (hna:a.length < 1073741823) (h2:2≤b.length) (hle:b.length≤a.length) (hb0:b.getD (b.length - 1) 0 ≠ 0) :
  a0S env fl A0r [v,w] H (fun r H'=>(∃ q o q' o',r=.tuple #[q,q']∧Lim H' q o∧a0w o=a0w a / a0w b∧o.length≤a.length∧Lim H' q' o'∧a0w o' = a0w a % a0w b∧o'.length≤a.length)∧Ext H H') R:=by
 refine a0i e1C hf (h:=?_)
 intro ρ h0
 simp only [M0U]
 obtain ⟨k,hk⟩:∃ k,b.length=k + 1:=⟨b.length - 1,by omega⟩
 have hk1:1≤k:=by omega
 rw [show b.length - 1=k by omega] at hb0
 have htl:=c0d hb.ok k
 have hial:=hb.ia (k:=.i64) (show k < b.length by omega)
 have hldl:=hb.load (show k < b.length by omega) (Ext.refl H)
 have htlt:=@a1K b k
 have htge:=@a1J b k
 generalize htp:b.getD k 0=tp at *
 have e0:IntKind.i64.wrap ((b.length:Int) - 1)=((k:Nat):Int):=by rw [a0Y (by omega) (by omega)];omega
 simp [G0J,G0K,h0]
 refine b0Y (fun c t G=>∃ n:Nat,G=H∧n + c=31∧t.length=147∧get t 0=v∧get t 1=w∧get t 6=.int .i64 ((n:Nat):Int)∧tp * 2 ^ n < 4294967296)
  (fun t G=>∃ n:Nat,G=H∧n≤31∧t.length=147∧get t 0=v∧get t 1=w∧get t 6=.int .i64 ((n:Nat):Int)∧tp * 2 ^ n < 4294967296∧2147483648≤tp * 2 ^ n) 31 ?_ ?_ ?_
 ·exact ⟨0,rfl,by omega,by simp,by simp [h0],by simp [h0],by simp,by omega⟩
 ·clear h0 ρ
  rintro c t G ⟨n,rfl,hn,ht,g0,g1,g6,hy⟩
  obtain ⟨ρ,rfl⟩:=toT ht
  simp only [b0V,Nat.reduceLT] at g0 g1 g6
  have hy2:tp * 2 ^ (n + 1)=2 * (tp * 2 ^ n):=by rw [h1Z,← h1U];omega
  have hy3:2 ^ n≤tp * 2 ^ n:=Nat.le_mul_of_pos_left _ (by omega)
  have hy4:n=31→2147483648≤tp * 2 ^ n:=by rintro rfl;exact hy3
  have s1:=r0f (tag:=0) (n:=tp) (s:=n) (k':=.i64) (by omega)
  rw [i1d hy] at s1
  generalize hyd:tp * 2 ^ n=y at *
  have s2:d0d 0 .shr (.int .u32 (y:Int)) (.int .u64 31)=some (.int .u32 ((y / 2147483648:Nat):Int)):=r0g (tag:=0) (n:=y) (s:=31) (k':=.u64) (by omega)
  have e9:IntKind.i64.wrap ((n:Int) + 1)=((n + 1:Nat):Int):=by rw [a0Y (by omega) (by omega)];omega
  by_cases hd:y / 2147483648=0
  ·have hdb:((y / 2147483648:Nat) == 0)=true:=by simp [hd]
   simp [-Int.natCast_ediv,-Int.natCast_add,-beq_iff_eq,u0E,u0F,g0,g1,g6,hb.slen,e0,hial,hldl,s1,s2,hdb,e9]
   exact ⟨c - 1,by omega,n + 1,by omega,rfl,by rw [hy2];omega⟩
  ·have hdb:((y / 2147483648:Nat) == 0)=false:=by simp [hd]
   simp [-Int.natCast_ediv,-Int.natCast_add,-beq_iff_eq,u0E,u0F,g0,g1,g6,hb.slen,e0,hial,hldl,s1,s2,hdb,e9]
   exact ⟨n,by omega,rfl,by rw [hyd];exact hy,by rw [hyd];omega⟩
 ·clear h0 ρ
  rintro t G ⟨n,rfl,hn,ht,g0,g1,g6,hy,hy2⟩
  obtain ⟨ρ,rfl⟩:=toT ht
  simp only [b0V,Nat.reduceLT] at g0 g1 g6
  refine a0B ?_
  simp [G0L,g0,g1,g6]
  refine (g0s ha (h1A _) (by omega) (by omega)).mono ?_
  rintro u G1 ⟨⟨L0,hu,hok0,hv0,hl0⟩,hx1⟩
  try simp [g0,g1,g6]
  refine (g0s (hb.mono hx1) hx1.1 (by omega) (by omega)).mono ?_
  rintro u2 G2 ⟨⟨L1,hu1,hok1,hv1,hl1⟩,hx2⟩
  have hx:=hx1.trans hx2
  have hxs:=hx.1
  have hx1s:=hx1.1
  obtain ⟨hul,⟨_,hbad⟩ | ⟨P,capu,rfl,hP,hfP⟩⟩:=hu.mono hx2
  ·omega
  obtain ⟨hul1,⟨_,hbad⟩ | ⟨Q,capv,rfl,hQ,hfQ⟩⟩:=hu1
  ·omega
  have hPl:P < G1.size:=by
   obtain ⟨_,⟨hbad,_⟩ | ⟨P',cap',he,hP',_⟩⟩:=hu
   ·cases hbad
   ·simp at he;rw [he.1];exact a0l hP'
  have hQl:=a0l hQ
  -- the divisor
  have hVlt:=htlt hb.ok hk hn hy
  have hVge:=htge hk hy2
  have hVt:=N0B (o:=L1) (k:=b.length) hl1 (by rw [hv1,hk];exact hVlt)
  have hlt0:=L0d (x:=a0w a) (y:=a0w b * 2 ^ n) (la:=a.length) (k:=k) (n:=n) (B:=4294967296) (f0U a ha.ok) (i1R (n:=2) (by omega) hn) hVge
  have hlt0:a0w a * 2 ^ n < a0w b * 2 ^ n * 4294967296 ^ (a.length - k):=by rcases hlt0 with h | h;exact h;omega
  have hpn:0 < 2 ^ n:=k1a n
  have hqv:a0w a / a0w b=a0w a * 2 ^ n / (a0w b * 2 ^ n):=(Nat.mul_div_mul_right _ _ hpn).symm
  have hrv:a0w a % a0w b=a0w a * 2 ^ n % (a0w b * 2 ^ n) / 2 ^ n:=by rw [Nat.mul_mod_mul_right,Nat.mul_div_cancel _ hpn]
  rw [hv1] at hVt
  rw [hqv,hrv]
  generalize a0w b * 2 ^ n=V at *
  generalize a0w a * 2 ^ n=U0 at *
  clear hqv hrv htlt htge hial hldl e0 htp hb0 htl hy hy2 hul hul1 hpn hu hx1 hx2
  obtain ⟨j,hj⟩:∃ j,k=j + 1:=⟨k - 1,by omega⟩
  generalize hK:b.length=K at *
  have hLv:((L1.drop 0).take K)=L1.take K:=by rw [i1V]
  have hsl:=hb.slen
  rw [hK] at hsl
  have hslv:=n0s (p:=Q) (o:=0) (cap:=capv) (n:=K + 1) (x:=none) (y:=some (.int .i64 (K:Int))) (lo:=0) (hi:=K) rfl (by simp) (by omega) (by omega)
  rw [i1J,k1D,k1D] at hslv
  generalize (if capv=unk then unk else capv)=capw at hslv
  have hw1:IntKind.i64.wrap (((a.length + 1:Nat):Int) - (K:Int))=((a.length - k:Nat):Int):=by rw [a0Y (by omega) (by omega)];omega
  have hmn:t0I true (.int .i64 ((a.length - k:Nat):Int)) [.int .i64 0]=some (.int .i64 ((a.length - k:Nat):Int)):=by
   simp only [t0I,mn2];rw [h1F trivial,h1C (by omega)]
  have hm:=h0d (bytes:=4) (k:=.i64) (k':=.i64) (l:=a.length - k) (c:=a.length - k) (h1A _) (by omega) (by omega)
  generalize hN:a.length - k=N at *
  simp [-Int.natCast_add,hsl,q0d hQ,hslv]
  simp [-Int.natCast_add,G0M,G0N,i0r,hw1,hmn,hm]
  generalize hPQ:G2.size=PQ
  generalize hG3:G2.push (.row false a0k (f0y [.int .u32 0] N))=G3
  have hx3:Ext G2 G3:=by rw [← hG3];exact (Ext.refl _).push
  have hP3:=hx3.blk hP
  have hQ3:=hx3.blk hQ
  have hPQ3:a0f.blk G3 PQ=.row false a0k (c0c (List.replicate N 0)):=by rw [← hG3,← hPQ,a0C,x0C]
  replace hx:=hx.trans hx3
  have hv3:Lim G3 (.slice (some ⟨Q,0,none⟩) K capw) (L1.take K):=by rw [← hLv];exact A0L hQ3 hok1 (by omega)
  have hLl:(L1.take K).length=K:=by simp;omega
  have hok2:=hv3.ok
  generalize L1.take K=Vl at *
  clear hG3 hx3 hP hQ hQ3 hok1 hslv hLv hv1 hl1 hm hmn hw1 L1
  generalize hSU:Value.slice (some ⟨P,0,none⟩) (a.length + 1) capu=SU
  generalize hSV:Value.slice (some ⟨Q,0,none⟩) K capw=SV at *
  generalize hSQ:Value.slice (some ⟨PQ,0,none⟩) N N=SQ
  -- its highest limbs
  have hia1:=hv3.ia (k:=.i64) (show k < Vl.length by omega)
  have hia2:=hv3.ia (k:=.i64) (show j < Vl.length by omega)
  have hld1:=hv3.load (show k < Vl.length by omega) (Ext.refl _)
  have hld2:=hv3.load (show j < Vl.length by omega) (Ext.refl _)
  have hV1:V=win Vl 0 k + 4294967296 ^ k * Vl.getD k 0:=by rw [← hVt,← k0N (L:=Vl) (n:=k + 1) (by omega),win,i1o]
  have hV2:V=win Vl 0 j + 4294967296 ^ j * (Vl.getD k 0 * 4294967296 + Vl.getD j 0):=by
   rw [← hVt,← k0N (L:=Vl) (n:=k + 1) (by omega),N0D (by omega),show k + 1 - 1=k by omega,show k + 1 - 2=j by omega,i1o,i1o]
  have hTt:=c0d hok2 k
  have hTn:=c0d hok2 j
  have hTg:2147483648≤Vl.getD k 0:=by
   by_cases h:2147483648≤Vl.getD k 0
   ·exact h
   ·exfalso
    have h3:=l0g hok2 0 k
    have:4294967296 ^ k * (Vl.getD k 0 + 1)≤4294967296 ^ k * 2147483648:=i1b _ (by omega)
    rw [h1P,i1H] at this
    rw [i1e] at hVge
    omega
  clear hV1
  generalize Vl.getD k 0=top at *
  generalize Vl.getD j 0=next at *
  have et:IntKind.u64.wrap (top:Int)=(top:Int):=by rw [a0x];omega
  have en:IntKind.u64.wrap (next:Int)=(next:Int):=by rw [a0x];omega
  have ew1:IntKind.i64.wrap ((K:Int) - 1)=(k:Int):=by rw [a0Y (by omega) (by omega)];omega
  have ew2:IntKind.i64.wrap ((K:Int) - 2)=(j:Int):=by rw [a0Y (by omega) (by omega)];omega
  have ew3:IntKind.i64.wrap (((a.length + 1:Nat):Int) - (K:Int))=(N:Int):=by rw [a0Y (by omega) (by omega)];omega
  have ew4:IntKind.i64.wrap ((N:Int) - 1)=(N:Int) - 1:=a0Y (by omega) (by omega)
  have hslu:i0r SU=some (.int .i64 ((a.length + 1:Nat):Int)):=by rw [← hSU];rfl
  have hslPQ:slB SV ≠ some PQ:=by rw [← hSV];simp [slB];omega
  have hslP:slB SV ≠ some P:=by rw [← hSV];simp [slB];omega
  refine a0B ?_
  simp [-Int.natCast_add,G0O,G0P,hv3.slen,ew1,ew2,hia1,hia2,hld1,hld2,et,en,hLl,hslu,ew3,ew4,g6]
  clear hia1 hia2 hld1 hld2 et en ew1 ew2 ew3 ew4 hslu hsl
  refine b0Y (fun c t G'=>∃ L Qs,t.length=147∧get t 4=SQ∧get t 6=.int .i64 (n:Int)∧get t 7=SU∧get t 8=SV∧get t 9=.int .i64 (K:Int)∧get t 10=.int .u64 (top:Int)∧get t 11=.int .u64 (next:Int)∧get t 12=.int .i64 ((c:Int) - 1) ∧
    Ext G G'∧Lim G' SV Vl∧a0f.blk G' P=.row false a0k (c0c L)∧a0f.blk G' PQ=.row false a0k (c0c Qs)∧L.length=a.length + 1∧b0u L∧Qs.length=N∧b0u Qs∧c≤N∧U0=a0w (Qs.drop c) * 4294967296 ^ c * V + a0w L∧a0w L < V * 4294967296 ^ c)
   (fun t G'=>∃ L Qs,t.length=147∧get t 4=SQ∧get t 6=.int .i64 (n:Int)∧get t 7=SU∧get t 9=.int .i64 (K:Int) ∧
    Ext G G'∧a0f.blk G' P=.row false a0k (c0c L)∧a0f.blk G' PQ=.row false a0k (c0c Qs)∧L.length=a.length + 1∧b0u L∧Qs.length=N∧b0u Qs∧U0=a0w Qs * V + a0w L∧a0w L < V) N ?_ ?_ ?_
  ·refine ⟨L0,List.replicate N 0,by simp,by simp [hSQ],by simp [g6],by simp [hSU],by simp,by simp,by simp,by simp,by simp,hx,hv3,hP3,hPQ3,hl0,hok0,by simp,fun z hz=>by rw [j1r] at hz;omega,h1A _,?_,by rw [hv0];exact hlt0⟩
   rw [j1k (by simp),hv0];simp [a0w]
  ·clear hP3 hPQ3 hv0 hl0 hok0 L0 g0 g1 g6 ht ρ hx hv3 G3
   rintro c t G3 ⟨L,Qs,ht,g4,g6,g7,g8,g9,g10,g11,g12,hx,hv3,hP,hPQb,hLlen,hLok,hQlen,hQok,hcN,hU,hlt⟩
   obtain ⟨ρ,rfl⟩:=toT ht
   simp only [b0V,Nat.reduceLT] at g4 g6 g7 g8 g9 g10 g11 g12
   by_cases hc0:c=0
   ·subst hc0
    simp [-Int.natCast_add,u0G,g4,g6,g7,g8,g9,g10,g11,g12]
    exact ⟨hx,L,hP,Qs,hPQb,hLlen,hLok,hQlen,hQok,by simpa using hU,by simpa using hlt⟩
   ·obtain ⟨i,rfl⟩:∃ i,c=i + 1:=⟨c - 1,by omega⟩
    have ec:(((i + 1:Nat):Int) - 1)=(i:Int):=by omega
    rw [ec] at g12
    -- places
    obtain ⟨iK,hiK⟩:∃ iK,iK=i + K:=⟨_,rfl⟩
    have ew1:IntKind.i64.wrap ((i:Int) + (K:Int))=(iK:Int):=by rw [a0Y (by omega) (by omega)];omega
    have ew2:IntKind.i64.wrap ((iK:Int) - 1)=((i + k:Nat):Int):=by rw [a0Y (by omega) (by omega)];omega
    have ew3:IntKind.i64.wrap ((iK:Int) - 2)=((i + j:Nat):Int):=by rw [a0Y (by omega) (by omega)];omega
    have ew4:IntKind.i64.wrap ((iK:Int) + 1)=((iK + 1:Nat):Int):=by rw [a0Y (by omega) (by omega)];omega
    have ew5:IntKind.i64.wrap ((i:Int) - 1)=(i:Int) - 1:=a0Y (by omega) (by omega)
    obtain ⟨hi1,hr1⟩:=m0s (k:=.i64) (cap:=capu) (o:=0) (n:=a.length + 1) hP (by omega) (show iK < a.length + 1 by omega)
    obtain ⟨hi2,hr2⟩:=m0s (k:=.i64) (cap:=capu) (o:=0) (n:=a.length + 1) hP (by omega) (show i + k < a.length + 1 by omega)
    obtain ⟨hi3,hr3⟩:=m0s (k:=.i64) (cap:=capu) (o:=0) (n:=a.length + 1) hP (by omega) (show i + j < a.length + 1 by omega)
    rw [hSU,i1o] at hi1 hi2 hi3
    rw [i1o] at hr1 hr2 hr3
    have hA1:=c0d hLok iK
    have hA2:=c0d hLok (i + k)
    have hA3:=c0d hLok (i + j)
    -- the window
    have hwin:=W0N (L:=L) (o:=i) (k:=K) (by omega)
    rw [show K - 2=j by omega,show K - 1=k by omega,← hiK] at hwin
    have hUw:win L i (K + 1) < V * 4294967296:=by
     have h1:=h0O (L:=L) (h1A _)
     rw [h1T,hLlen,show a.length + 1=i + ((K + 1) + (a.length - i - K)) by omega,d0w,d0w,i1o] at h1
     have h2:4294967296 ^ i * win L i (K + 1) < 4294967296 ^ i * (V * 4294967296):=by
      rw [h1Z,← h1U,Nat.mul_right_comm] at hlt
      rw [h1P] at h1
      have:V * 4294967296 * 4294967296 ^ i=4294967296 ^ i * (V * 4294967296):=i1e _ _
      omega
     exact j1c h2
    generalize L.getD iK 0=A1 at hA1 hr1 hwin
    generalize L.getD (i + k) 0=A2 at hA2 hr2 hwin
    generalize L.getD (i + j) 0=A3 at hA3 hr3 hwin
    obtain ⟨x,hX⟩:∃ x,x=A1 * 4294967296 + A2:=⟨_,rfl⟩
    rw [← hX] at hwin
    have gs:Gs (4294967296 ^ j) (win L i j) (win Vl 0 j) (win L i (K + 1)) V x A3 top next 4294967296 :=
     ⟨Nat.pow_pos (by omega),l0g hLok i j,l0g hok2 0 j,hwin,hV2,by omega,hTt,hTn,hA3,hUw⟩
    clear hwin
    have eA1:IntKind.u64.wrap (A1:Int)=(A1:Int):=by rw [a0x];omega
    have eA2:IntKind.u64.wrap (A2:Int)=(A2:Int):=by rw [a0x];omega
    have eA3:IntKind.u64.wrap (A3:Int)=(A3:Int):=by rw [a0x];omega
    have s1:=a1z (tag:=0) hA1
    have s2:=f1E (tag:=0) hA1 hA2
    have hxl:x < 18446744073709551616:=by omega
    have hqle:=gs.q_le
    have hxlt:=gs.x_lt
    rw [← hX] at s2
    have s3:=Z0H (tag:=0) (a:=x) (b:=top) hxl (by omega)
    have s4:=a1s (tag:=0) (a:=x) (b:=top) (by omega)
    have hgr:x / top * top + x % top=x:=k1i x top
    have hrt:=i1X x (show 0 < top by omega)
    have hgB:x / top≤4294967297:=by
     have:x / top < 4294967298:=by rw [j1p (by omega)];omega
     omega
    have hic:(i:Int) ≥ 0:=by omega
    simp [-Int.natCast_add,-Int.natCast_mul,-Int.natCast_ediv,-Int.natCast_emod,u0G,g4,g6,g7,g8,g9,g10,g11,g12,hic]
    refine a0B ?_
    simp [-Int.natCast_add,-Int.natCast_mul,-Int.natCast_ediv,-Int.natCast_emod,x0d,g4,g6,g7,g8,g9,g10,g11,g12,ew1,ew2,hi1,hi2,hr1,hr2,eA1,eA2,s1,s2]
    refine a0B ?_
    simp [-Int.natCast_add,-Int.natCast_mul,-Int.natCast_ediv,-Int.natCast_emod,x0e,g4,g6,g7,g8,g9,g10,g11,g12,s3,s4]
    clear s1 s2 s3 s4
    generalize x / top=gq at hgr hgB hqle ⊢
    generalize x % top=rr at hgr hrt ⊢
    have hslice:∃ cap',e0a 1 SU (some (.int .i64 (i:Int))) (some (.int .i64 ((iK + 1:Nat):Int))) none=some (.slice (some ⟨P,i,none⟩) (K + 1) cap'):=by
     rw [← hSU,n0s (lo:=i) (hi:=iK + 1) (by simp) (U0F (n:=iK + 1)) (by omega) (by omega),i1o,show iK + 1 - i=K + 1 by omega]
     exact ⟨_,rfl⟩
    obtain ⟨capt,hslice⟩:=hslice
    have helem:∀ (G':a0f) (cs:List Value),a0f.blk G' P=.row false a0k cs→elemOk G' a0k SU=true:=fun G' cs h=>by rw [← hSU];exact q0d h
    refine b0Y (fun c t G'=>∃ g rest:Nat,c=g∧G' = G3∧t.length=147∧get t 4=SQ∧get t 6=.int .i64 (n:Int)∧get t 7=SU∧get t 8=SV∧get t 9=.int .i64 (K:Int)∧get t 10=.int .u64 (top:Int)∧get t 11=.int .u64 (next:Int)∧get t 12=.int .i64 (i:Int)∧get t 14=.int .u64 (g:Int)∧get t 15=.int .u64 (rest:Int) ∧
      g * top + rest=x∧win L i (K + 1) / V≤g∧g≤4294967297∧rest < 4294967296)
     (fun t G'=>∃ g rest:Nat,G' = G3∧t.length=147∧get t 4=SQ∧get t 6=.int .i64 (n:Int)∧get t 7=SU∧get t 8=SV∧get t 9=.int .i64 (K:Int)∧get t 10=.int .u64 (top:Int)∧get t 11=.int .u64 (next:Int)∧get t 12=.int .i64 (i:Int)∧get t 14=.int .u64 (g:Int) ∧
      g * top + rest=x∧win L i (K + 1) / V≤g∧g < 4294967296∧g * next≤rest * 4294967296 + A3) gq ?_ ?_ ?_
    ·exact ⟨gq,rr,rfl,rfl,by simp,by simp [g4],by simp [g6],by simp [g7],by simp [g8],by simp [g9],by simp [g10],by simp [g11],by simp [g12],by simp,by simp,hgr,hqle,hgB,by omega⟩
    ·clear g4 g6 g7 g8 g9 g10 g11 g12 ht ρ
     rintro c t G' ⟨g,rest,rfl,rfl,ht,g4,g6,g7,g8,g9,g10,g11,g12,g14,g15,hgx,hq,hgl,hrl⟩
     obtain ⟨ρ,rfl⟩:=toT ht
     simp only [b0V,Nat.reduceLT] at g4 g6 g7 g8 g9 g10 g11 g12 g14 g15
     obtain ⟨rt,hrt2⟩:∃ rt,rt=rest + top:=⟨_,rfl⟩
     have er:IntKind.u64.wrap ((rest:Int) + (top:Int))=(rt:Int):=by rw [a0x];omega
     by_cases hcB:4294967296≤c
     ·have hcB2:(4294967296:Int)≤(c:Int):=by omega
      have hcase:4294967296≤c ∨ rest * 4294967296 + A3 < c * next:=.inl hcB
      have hcs:(c:Int) ≥ 4294967296:=hcB2
      simp (config:={maxSteps:=4000000}) [-Int.natCast_add,-Int.natCast_mul,l0F,g4,g6,g7,g8,g9,g10,g11,g12,g14,g15,hcB,hcB2]
      obtain ⟨hq',hg0⟩:=gs.down hgx hq hcase
      obtain ⟨g',rfl⟩:∃ g',c=g' + 1:=⟨c - 1,by omega⟩
      rw [Nat.add_sub_cancel] at hq'
      have eg:IntKind.u64.wrap (((g' + 1:Nat):Int) - 1)=(g':Int):=by rw [a0x];omega
      have hgx':g' * top + rt=x:=by rw [← hgx,hrt2,h1X,i1r];omega
      by_cases hbr:4294967296≤rt
      ·have hbr2:(4294967296:Int)≤(rt:Int):=by omega
       simp [-Int.natCast_add,-Int.natCast_mul,hcs,j0O,j0P,j0Q,g4,g6,g7,g8,g9,g10,g11,g12,g14,g15,eg,er,hbr,hbr2]
       have hgl':g' < 4294967296:=by
        by_cases h:g' = 4294967296
        ·subst h;rw [i1e] at hgx';omega
        ·omega
       refine ⟨g',rfl,rt,hgx',hq',hgl',?_⟩
       have h1:g' * next≤4294967295 * 4294967295:=i1z (by omega) (by omega)
       omega
      ·have hbr2:¬ (4294967296:Int)≤(rt:Int):=by omega
       simp [-Int.natCast_add,-Int.natCast_mul,hcs,j0O,j0P,j0Q,g4,g6,g7,g8,g9,g10,g11,g12,g14,g15,eg,er,hbr,hbr2]
       exact ⟨g',by omega,rfl,rt,rfl,hgx',hq',by omega,by omega⟩
     ·have hcB2:¬ (4294967296:Int)≤(c:Int):=by omega
      have hcn:c * next≤4294967295 * 4294967295:=i1z (by omega) (by omega)
      obtain ⟨cn,hcn2⟩:∃ cn,cn=c * next:=⟨_,rfl⟩
      have em:IntKind.u64.wrap ((c:Int) * (next:Int))=(cn:Int):=by rw [a0x,← h1V,← hcn2];omega
      have s1:=a1z (tag:=0) hrl
      have s2:=f1E (tag:=0) hrl hA3
      obtain ⟨rA,hrA⟩:∃ rA,rA=rest * 4294967296 + A3:=⟨_,rfl⟩
      rw [← hrA] at s2
      by_cases hgt:rA < cn
      ·have hcase:4294967296≤c ∨ rest * 4294967296 + A3 < c * next:=.inr (by rw [← hrA,← hcn2];exact hgt)
       have hcs:rA < cn:=hgt
       simp (config:={maxSteps:=4000000}) [-Int.natCast_add,-Int.natCast_mul,l0F,g4,g6,g7,g8,g9,g10,g11,g12,g14,g15,hcB,hcB2,ew1,ew3,hi3,hr3,eA3,em,s1,s2,hgt]
       obtain ⟨hq',hg0⟩:=gs.down hgx hq hcase
       obtain ⟨g',rfl⟩:∃ g',c=g' + 1:=⟨c - 1,by omega⟩
       rw [Nat.add_sub_cancel] at hq'
       have eg:IntKind.u64.wrap (((g' + 1:Nat):Int) - 1)=(g':Int):=by rw [a0x];omega
       have hgx':g' * top + rt=x:=by rw [← hgx,hrt2,h1X,i1r];omega
       by_cases hbr:4294967296≤rt
       ·have hbr2:(4294967296:Int)≤(rt:Int):=by omega
        simp [-Int.natCast_add,-Int.natCast_mul,hcs,j0O,j0P,j0Q,g4,g6,g7,g8,g9,g10,g11,g12,g14,g15,eg,er,hbr,hbr2]
        have hgl':g' < 4294967296:=by
         by_cases h:g' = 4294967296
         ·subst h;rw [i1e] at hgx';omega
         ·omega
        refine ⟨g',rfl,rt,hgx',hq',hgl',?_⟩
        have h1:g' * next≤4294967295 * 4294967295:=i1z (by omega) (by omega)
        omega
       ·have hbr2:¬ (4294967296:Int)≤(rt:Int):=by omega
        simp [-Int.natCast_add,-Int.natCast_mul,hcs,j0O,j0P,j0Q,g4,g6,g7,g8,g9,g10,g11,g12,g14,g15,eg,er,hbr,hbr2]
        exact ⟨g',by omega,rfl,rt,rfl,hgx',hq',by omega,by omega⟩
      ·simp (config:={maxSteps:=4000000}) [-Int.natCast_add,-Int.natCast_mul,l0F,g4,g6,g7,g8,g9,g10,g11,g12,g14,g15,hcB,hcB2,ew1,ew3,hi3,hr3,eA3,em,s1,s2,hgt]
       exact ⟨c,rfl,rest,hgx,hq,by omega,by rw [← hrA,← hcn2];omega⟩
    ·clear g4 g6 g7 g8 g9 g10 g11 g12 ht ρ hgr hgB hqle hrt
     rintro t G' ⟨gg,rest,rfl,ht,g4,g6,g7,g8,g9,g10,g11,g12,g14,hgx,hq,hgl,hgn⟩
     obtain ⟨ρ,rfl⟩:=toT ht
     simp only [b0V,Nat.reduceLT] at g4 g6 g7 g8 g9 g10 g11 g12 g14
     have hq1:=gs.fine hgx hgl hgn
     have hVK:V < 4294967296 ^ (K + 1):=by
      rw [hk,h1Z];omega
     simp [-Int.natCast_add,x0f,g4,g6,g7,g8,g9,g10,g11,g12,g14,ew1,ew4,helem _ _ hP,hslice]
     refine (q0a (n:=K + 1) hP hLok (by omega) hv3 hslP hfP hgl (by omega) (by omega)).mono ?_
     rintro _ G4 ⟨X0,cc,rfl,hXb0,hxb,hwon0,hs⟩
     rw [hVt] at hs
     obtain ⟨hc1,hc2⟩:=K0i gs hq hq1 hs (l0g hwon0.2.1 i (K + 1)) hVK
     have hx4:=hxb.ext hfP hx
     have hv4:=hv3.off hxb hslP
     have hPQ4:a0f.blk G4 PQ=.row false a0k (c0c Qs):=by rw [hxb.2 PQ (a0l hPQb) (by simp;omega)];exact hPQb
     have hml:=i1X (win L i (K + 1)) gs.V0
     have hdm0:=(j1M (win L i (K + 1)) V).symm
     by_cases hcc:cc=0
     ·obtain ⟨hg1,hwin⟩:=hc1 hcc
      obtain ⟨X,hXe⟩:∃ X,X=X0:=⟨_,rfl⟩
      obtain ⟨g,hge⟩:∃ g,g=gg:=⟨_,rfl⟩
      subst hXe hge
      have hXb:=hXb0
      have hwon:=hwon0
      have hdm:win L i (K + 1)=V * g + win L i (K + 1) % V:=by rw [hg1];exact hdm0
      simp [-Int.natCast_add,hcc,q0Q,g4,g6,g7,g8,g9,g10,g11,g12,g14]
      refine (a0r hx4.1).mono ?_
      rintro _ G6 ⟨rfl,hx6⟩
      have hPQ6:=hx6.blk hPQ4
      have hP6:=hx6.blk hXb
      have hPQl:=a0l hPQ6
      obtain ⟨hj1,_⟩:=m0s (k:=.i64) (cap:=N) (o:=0) (n:=N) hPQ6 (by omega) (show i < N by omega)
      rw [hSQ,i1o] at hj1
      have hile:i + 1≤Qs.length:=by omega
      have hfPQ:G.size≤PQ:=by omega
      rw [i1d hgl]
      obtain ⟨hd1,hd2⟩:=v0V (BB:=4294967296) (n:=a.length + 1) (q:=g) rfl hLlen hwon (by omega) (show i < Qs.length by omega) hU (by rw [hk];exact hVlt) hlt hdm hml hwin
      simp [-Int.natCast_add,q0R,hj1,hPQ6,hile,hfPQ,g4,g6,g7,g8,g9,g10,g11,g12,ew5]
      refine ⟨i,by omega,rfl,(hx4.trans hx6).set hfPQ,(hv4.mono hx6).off e0p.refl.set hslPQ,X,by rw [b0h (by omega)];exact hP6,Qs.set i g,by rw [a0A hPQl,d0z],by rw [hwon.1,hLlen],hwon.2.1,by simpa using hQlen,b0X hQok hgl,by omega,hd2,hd1⟩
     ·obtain ⟨hg1,hgive⟩:=hc2 hcc
      obtain ⟨g,rfl⟩:∃ g,gg=g + 1:=⟨win L i (K + 1) / V,hg1⟩
      have hg2:g=win L i (K + 1) / V:=Nat.succ.inj hg1
      have eg:IntKind.u64.wrap (((g + 1:Nat):Int) - 1)=(g:Int):=by rw [a0x];omega
      have hdm:win L i (K + 1)=V * g + win L i (K + 1) % V:=by rw [hg2];exact hdm0
      simp [-Int.natCast_add,hcc,x0g,x0h,g4,g6,g7,g8,g9,g10,g11,g12,g14,eg,ew1,ew4,helem _ _ hXb0,hslice]
      refine (p0X (n:=K + 1) hXb0 hwon0.2.1 (by rw [hwon0.1];omega) hv4 hslP hfP (by omega) (by omega)).mono ?_
      rintro _ G5 ⟨X,c2,hXb,hxb2,hwon2,hs2⟩
      rw [hVt] at hs2
      have hwin:=hgive _ _ hs2 (l0g hwon2.2.1 i (K + 1))
      replace hPQ4:a0f.blk G5 PQ=.row false a0k (c0c Qs):=by rw [hxb2.2 PQ (a0l hPQ4) (by simp;omega)];exact hPQ4
      replace hx4:=hxb2.ext hfP hx4
      replace hv4:=hv4.off hxb2 hslP
      have hwon:=hwon0.trans hwon2
      replace hgl:g < 4294967296:=by omega
      simp [-Int.natCast_add,q0Q,g4,g6,g7,g8,g9,g10,g11,g12]
      refine (a0r hx4.1).mono ?_
      rintro _ G6 ⟨rfl,hx6⟩
      have hPQ6:=hx6.blk hPQ4
      have hP6:=hx6.blk hXb
      have hPQl:=a0l hPQ6
      obtain ⟨hj1,_⟩:=m0s (k:=.i64) (cap:=N) (o:=0) (n:=N) hPQ6 (by omega) (show i < N by omega)
      rw [hSQ,i1o] at hj1
      have hile:i + 1≤Qs.length:=by omega
      have hfPQ:G.size≤PQ:=by omega
      rw [i1d hgl]
      obtain ⟨hd1,hd2⟩:=v0V (BB:=4294967296) (n:=a.length + 1) (q:=g) rfl hLlen hwon (by omega) (show i < Qs.length by omega) hU (by rw [hk];exact hVlt) hlt hdm hml hwin
      simp [-Int.natCast_add,q0R,hj1,hPQ6,hile,hfPQ,g4,g6,g7,g8,g9,g10,g11,g12,ew5]
      refine ⟨i,by omega,rfl,(hx4.trans hx6).set hfPQ,(hv4.mono hx6).off e0p.refl.set hslPQ,X,by rw [b0h (by omega)];exact hP6,Qs.set i g,by rw [a0A hPQl,d0z],by rw [hwon.1,hLlen],hwon.2.1,by simpa using hQlen,b0X hQok hgl,by omega,hd2,hd1⟩
  ·clear hP3 hPQ3 hv0 hl0 hok0 L0 g0 g1 g6 ht ρ hx hv3 G3
   rintro t G3 ⟨L,Qs,ht,g4,g6,g7,g9,hx,hP,hPQb,hLlen,hLok,hQlen,hQok,hU,hlt⟩
   obtain ⟨ρ,rfl⟩:=toT ht
   simp only [b0V,Nat.reduceLT] at g4 g6 g7 g9
   have helem:elemOk G3 a0k SU=true:=by rw [← hSU];exact q0d hP
   have hslice:∃ cap',e0a 1 SU none (some (.int .i64 (K:Int))) none=some (.slice (some ⟨P,0,none⟩) K cap'):=by
    rw [← hSU,n0s (lo:=0) (hi:=K) rfl (by simp) (by omega) (by omega),i1o,k1D]
    exact ⟨_,rfl⟩
   obtain ⟨capt,hslice⟩:=hslice
   simp [-Int.natCast_add,x0i,g4,g6,g7,g9,helem,hslice]
   have hlim:=A0L (cap:=capt) hP hLok (show 0 + K≤L.length by omega)
   have hlv:a0w ((L.drop 0).take K)=a0w L:=by
    have h1:=h0O (L:=L) (h1A _)
    rw [h1T,hLlen,show a.length + 1=K + (a.length + 1 - K) by omega,d0w,i1o] at h1
    have h2:win L K (a.length + 1 - K)=0:=by
     by_cases h0:win L K (a.length + 1 - K)=0
     ·exact h0
     ·have:=Nat.le_mul_of_pos_right (4294967296 ^ K) (by omega:0 < win L K (a.length + 1 - K))
      rw [hk] at this h1;omega
    rw [A0T (by omega),h1,h2,Nat.mul_zero,i1J]
   have hll:((L.drop 0).take K).length=K:=by simp;omega
   refine (p0W hlim hx.1 (by omega) (by omega)).mono ?_
   rintro r G4 ⟨⟨o,ho,hov,hol⟩,hx4⟩
   rw [hlv] at hov
   have hV0:0 < V:=by omega
   have e1:U0 / V=a0w Qs:=by rw [hU,i1e,Nat.mul_add_div hV0,j1t hlt,i1J]
   have e2:U0 % V=a0w L:=by rw [hU,i1e,Nat.mul_add_mod,i1d hlt]
   refine fun _=>⟨SQ,Qs,r,⟨rfl,rfl⟩,⟨by rw [← hSQ,← hQlen];exact (Own.mk (fl:=0) (hx4.blk hPQb) (by simp) (i1C _)).sl,hQok⟩,e1.symm,by omega,o,ho,by rw [hov,e2],by omega⟩
end
section
open Go
set_option maxHeartbeats 4000000
variable {fl:Nat} {H:a0f} {R:a0G} {v w:Value} {i j:Bool × List Nat}
theorem p0k (x y:Int):(if (decide (x < 0) != decide (y < 0))=true then -((x.natAbs / y.natAbs:Nat):Int) else ((x.natAbs / y.natAbs:Nat):Int))=x.tdiv y:=by
 have e1:∀ n:Int,0≤n→(n.natAbs:Int)=n:=fun n h=>Int.natAbs_of_nonneg h
 have e2:∀ n:Int,n < 0→(n.natAbs:Int) = -n:=fun n h=>by omega
 rw [i1c]
 by_cases hx:x < 0 <;> by_cases hy:y < 0 <;> simp only [hx,hy,decide_true,decide_false,bne_self_eq_false,i1a,i1F,Bool.true_bne,Bool.false_bne,Bool.not_false,i1s]
 ·rw [e2 x hx,e2 y hy,← i1Y (by omega),Int.neg_tdiv,Int.tdiv_neg,Int.neg_neg]
 ·rw [e2 x hx,e1 y (by omega),← i1Y (by omega),Int.neg_tdiv,Int.neg_neg]
 ·rw [e1 x (by omega),e2 y hy,← i1Y (by omega),Int.tdiv_neg,Int.neg_neg]
 ·rw [e1 x (by omega),e1 y (by omega),← i1Y (by omega)]
theorem p0l (x y:Int):(if decide (x < 0)=true then -((x.natAbs % y.natAbs:Nat):Int) else ((x.natAbs % y.natAbs:Nat):Int))=x.tmod y:=by
 have h1:=Int.natAbs_tmod x y
 by_cases hx:x < 0
 ·simp only [hx,decide_true,i1s]
  have h2:x.tmod y≤0:=by
   have:=Int.tmod_nonneg (a:=-x) y (by omega)
   rw [Int.neg_tmod] at this;omega
  omega
 ·simp only [hx,decide_false,i1a,i1F]
  have h2:=Int.tmod_nonneg (a:=x) y (by omega)
  omega
theorem b0T (h:b0d H v i) (k:b0d H w j) (hf:fl≤H.size) (hn:i.2.length < 536870912) (hm:j.2.length < 536870912) (hj0:a0z j ≠ 0) :
  a0S env fl m0g [v,w] H (fun r H'=>(∃ q m,r=.tuple #[q,m,.int .i64 0]∧b0d H' q (a0j ((a0z i).tdiv (a0z j)))∧b0d H' m (a0j ((a0z i).tmod (a0z j))))∧Ext H H') R:=by
 have k0:=h
 have k1:=k
 obtain ⟨s,rfl,hs⟩:=h
 obtain ⟨u,rfl,hu⟩:=k
 refine a0i e1q hf (h:=?_)
 intro ρ h0
 simp [M0I,F0k,h0]
 generalize hG:Array.push (Array.push (Array.push (Array.push H _) _) _) _=G
 have hx:Ext H G:=by rw [← hG];exact (Ext.refl H).push.push.push.push
 have b0:a0f.blk G H.size=.row false a0a [.bool i.1,s]:=by rw [← hG];simp
 have b1:a0f.blk G (H.size + 1)=.row false a0a [.bool j.1,u]:=by rw [← hG];simp
 have b2:a0f.blk G (H.size + 2)=.row false a0a [.bool false,.slice none 0 0]:=by rw [← hG];simp
 have b3:a0f.blk G (H.size + 3)=.row false a0a [.bool false,.slice none 0 0]:=by rw [← hG];simp
 have hz:H.size + 3 < G.size:=a0l b3
 clear hG
 replace k0:=k0.mono hx
 replace k1:=k1.mono hx
 refine a0B ?_
 simp [F0l,h0,b0,b1]
 refine (b0R k0 (by omega) (by omega)).mono ?_
 rintro x G2 ⟨k2,hx2⟩
 replace b0:=hx2.blk b0;replace b1:=hx2.blk b1;replace b2:=hx2.blk b2;replace b3:=hx2.blk b3;replace hx:=hx.trans hx2;replace k0:=k0.mono hx2;replace k1:=k1.mono hx2
 try simp [h0,b0,b1]
 refine (b0R k1 hx.1 (by omega)).mono ?_
 rintro y G2 ⟨k3,hx2⟩
 replace b0:=hx2.blk b0;replace b1:=hx2.blk b1;replace b2:=hx2.blk b2;replace b3:=hx2.blk b3;replace hx:=hx.trans hx2;replace k0:=k0.mono hx2;replace k1:=k1.mono hx2;replace k2:=k2.mono hx2
 clear hs hu hz hx2
 have l1:=a0v k0.ok
 have l2:=a0v k1.ok
 have hl0:a0p (a0z j).natAbs ≠ []:=by intro h;exact hj0 (by have:=b0I.1 h;omega)
 have hl1:=List.length_pos_iff.2 hl0
 have e1:=p0k (a0z i) (a0z j)
 have e2:=p0l (a0z i) (a0z j)
 simp [F0m,F0n,h0,k3.slen,hl0]
 refine (f0g k2 k3 hx.1 (by omega)).mono ?_
 rintro _ G2 ⟨rfl,hx2⟩
 replace b0:=hx2.blk b0;replace b1:=hx2.blk b1;replace b2:=hx2.blk b2;replace b3:=hx2.blk b3;replace hx:=hx.trans hx2;replace k0:=k0.mono hx2;replace k1:=k1.mono hx2;replace k2:=k2.mono hx2;replace k3:=k3.mono hx2
 have hcmp:=d0B (a0z i).natAbs (a0z j).natAbs
 rw [c0g] at hcmp
 generalize x0Y (a0p (a0z i).natAbs) (a0p (a0z j).natAbs)=c at hcmp
 by_cases hlt:(a0z i).natAbs < (a0z j).natAbs
 ·have hcl:c < 0:=by rw [hcmp,h1F hlt];omega
  simp [F0o,h0,hcl,b0]
  refine (b0B k0 hx.1 (by omega)).mono ?_
  rintro _ G2 ⟨rfl,hx2⟩
  replace b0:=hx2.blk b0;replace b1:=hx2.blk b1;replace b2:=hx2.blk b2;replace b3:=hx2.blk b3;replace hx:=hx.trans hx2;replace k0:=k0.mono hx2;replace k1:=k1.mono hx2;replace k2:=k2.mono hx2;replace k3:=k3.mono hx2
  try simp [h0]
  refine (c0o ((a0z i).tmod (a0z j)) k2 hx.1 (by omega) (by rw [a0q,← e2,i1d hlt])).mono ?_
  obtain ⟨s1,hsv,hs1⟩:∃ s1,s1=Value.slice none 0 0∧Lim G2 s1 (a0j ((a0z i).tdiv (a0z j))).2:=by
   refine ⟨_,rfl,?_⟩
   rw [← e1,j1t hlt]
   have:a0j (if (decide (a0z i < 0) != decide (a0z j < 0))=true then -((0:Nat):Int) else ((0:Nat):Int))=(false,[]):=by split <;> exact e0f
   rw [this];exact Lim.nil
  have hb1:(a0j ((a0z i).tdiv (a0z j))).1=false:=by
   rw [← e1,j1t hlt];split <;> simp [a0j]
  rw [← hsv,← hb1]
  rintro _ G2 ⟨⟨s2,rfl,hs2⟩,hx2⟩
  replace b0:=hx2.blk b0;replace b1:=hx2.blk b1;replace b2:=hx2.blk b2;replace b3:=hx2.blk b3;replace hx:=hx.trans hx2;replace k0:=k0.mono hx2;replace k1:=k1.mono hx2;replace k2:=k2.mono hx2;replace k3:=k3.mono hx2
  have hz:=a0l b3
  have hz2:=a0l b2
  simp [h0,b2,b3,hs1.cells,hs1.plain,hs2.cells,hs2.plain,hz,hz2]
  refine fun _=>⟨_,_,⟨rfl,rfl⟩,⟨s1,rfl,?_⟩,⟨s2,rfl,?_⟩⟩
  ·exact ((hs1.mono hx2).setT b2 (by decide)).setT (by rw [b0h (by omega)];exact b3) (by decide)
  ·exact (hs2.setT b2 (by decide)).setT (by rw [b0h (by omega)];exact b3) (by decide)
 ·have hcl:¬ c < 0:=by rw [hcmp,h1C hlt];split <;> omega
  by_cases h1:(a0p (a0z j).natAbs).length=1
  ·have hd0:(0:Nat) < (a0p (a0z j).natAbs).length:=by omega
   obtain ⟨d,hd⟩:∃ d,a0p (a0z j).natAbs=[d]:=by
    obtain ⟨d,hd⟩:=List.length_eq_one_iff.1 h1;exact ⟨d,hd⟩
   have hdv:(a0z j).natAbs=d:=by rw [← a0q (a0z j).natAbs,hd];simp [a0w]
   have hdl:d < 4294967296:=k3.ok d (by rw [hd];simp)
   have hdp:0 < d:=by omega
   rw [hd] at k3
   have hia:=k3.ia (k:=.i64) (j:=0) (by simp)
   have hld:=k3.load (j:=0) (by simp) (Ext.refl _)
   simp at hia hld
   simp [u0z,F0p,h0,hcl,hd,k3.slen,hia,hld]
   refine (n0W k2 hx.1 (by omega) hdp hdl).mono ?_
   rintro _ G2 ⟨⟨q1,o,rfl,k4,hov,hol⟩,hx2⟩
   replace b0:=hx2.blk b0;replace b1:=hx2.blk b1;replace b2:=hx2.blk b2;replace b3:=hx2.blk b3;replace hx:=hx.trans hx2;replace k0:=k0.mono hx2;replace k1:=k1.mono hx2;replace k2:=k2.mono hx2;replace k3:=k3.mono hx2
   have hmd:a0w (a0p (a0z i).natAbs) % d < 4294967296:=Nat.lt_trans (i1X _ hdp) hdl
   rw [a0q] at hov hmd ⊢
   generalize hrm:(a0z i).natAbs % d=rm at *
   simp [h0]
   refine a0B ?_
   simp [F0q,h0,b0,b1]
   refine (b0B k0 (by have:=hx.1;omega) (by omega)).mono ?_
   rintro _ G2 ⟨rfl,hx2⟩
   replace b0:=hx2.blk b0;replace b1:=hx2.blk b1;replace b2:=hx2.blk b2;replace b3:=hx2.blk b3;replace hx:=hx.trans hx2;replace k0:=k0.mono hx2;replace k1:=k1.mono hx2;replace k2:=k2.mono hx2;replace k3:=k3.mono hx2;replace k4:=k4.mono hx2
   try simp [h0,b0,b1]
   refine (b0B k1 (by have:=hx.1;omega) (by omega)).mono ?_
   rintro _ G2 ⟨rfl,hx2⟩
   replace b0:=hx2.blk b0;replace b1:=hx2.blk b1;replace b2:=hx2.blk b2;replace b3:=hx2.blk b3;replace hx:=hx.trans hx2;replace k0:=k0.mono hx2;replace k1:=k1.mono hx2;replace k2:=k2.mono hx2;replace k3:=k3.mono hx2;replace k4:=k4.mono hx2
   try simp [h0]
   refine (c0o ((a0z i).tdiv (a0z j)) k4 (by have:=hx.1;omega) (by omega) (by rw [hov,← e1,hdv])).mono ?_
   rintro _ G2 ⟨⟨s1,rfl,hs1⟩,hx2⟩
   replace b0:=hx2.blk b0;replace b1:=hx2.blk b1;replace b2:=hx2.blk b2;replace b3:=hx2.blk b3;replace hx:=hx.trans hx2;replace k0:=k0.mono hx2;replace k1:=k1.mono hx2;replace k2:=k2.mono hx2;replace k3:=k3.mono hx2;replace k4:=k4.mono hx2
   try simp [h0,b0,b1]
   refine (b0B k0 (by have:=hx.1;omega) (by omega)).mono ?_
   rintro _ G2 ⟨rfl,hx2⟩
   replace b0:=hx2.blk b0;replace b1:=hx2.blk b1;replace b2:=hx2.blk b2;replace b3:=hx2.blk b3;replace hx:=hx.trans hx2;replace k0:=k0.mono hx2;replace k1:=k1.mono hx2;replace k2:=k2.mono hx2;replace k3:=k3.mono hx2;replace k4:=k4.mono hx2
   replace hs1:=hs1.mono hx2
   try simp [h0]
   generalize hG3:Array.push G2 _=G3
   have hx2:Ext G2 G3:=by rw [← hG3];exact (Ext.refl _).push
   have k5:Lim G3 (.slice (some ⟨G2.size,0,none⟩) 1 1) [rm]:=by
    refine ⟨(Own.mk (fl:=0) (cap:=1) (e:=a0k) (sz:=1) (n:=1) (cs:=c0c [rm]) ?_ (by simp) (i1C _)).sl,fun x hx=>by simp at hx;omega⟩
    rw [← hG3,a0C];rfl
   replace b0:=hx2.blk b0;replace b1:=hx2.blk b1;replace b2:=hx2.blk b2;replace b3:=hx2.blk b3;replace hx:=hx.trans hx2;replace k0:=k0.mono hx2;replace k1:=k1.mono hx2;replace k2:=k2.mono hx2;replace k3:=k3.mono hx2;replace k4:=k4.mono hx2
   replace hs1:=hs1.mono hx2
   refine (c0o ((a0z i).tmod (a0z j)) k5 (by have:=hx.1;omega) (by simp) (by rw [← e2,hdv,hrm];simp [a0w])).mono ?_
   rintro _ G2 ⟨⟨s2,rfl,hs2⟩,hx2⟩
   replace b0:=hx2.blk b0;replace b1:=hx2.blk b1;replace b2:=hx2.blk b2;replace b3:=hx2.blk b3;replace hx:=hx.trans hx2;replace k0:=k0.mono hx2;replace k1:=k1.mono hx2;replace k2:=k2.mono hx2;replace k3:=k3.mono hx2;replace k4:=k4.mono hx2;replace k5:=k5.mono hx2
   have hz:=a0l b3
   have hz2:=a0l b2
   simp [h0,b2,b3,hs1.cells,hs1.plain,hs2.cells,hs2.plain,hz,hz2]
   refine fun _=>⟨_,_,⟨rfl,rfl⟩,⟨s1,rfl,?_⟩,⟨s2,rfl,?_⟩⟩
   ·exact ((hs1.mono hx2).setT b2 (by decide)).setT (by rw [b0h (by omega)];exact b3) (by decide)
   ·exact (hs2.setT b2 (by decide)).setT (by rw [b0h (by omega)];exact b3) (by decide)
  ·have hlt2:2≤(a0p (a0z j).natAbs).length:=by omega
   have hle:(a0p (a0z j).natAbs).length≤(a0p (a0z i).natAbs).length:=a0V (by omega)
   have h1':¬ ((a0p (a0z j).natAbs).length:Int)=1:=by omega
   simp [u0z,F0r,h0,hcl,h1,h1',k3.slen]
   refine (m0q k2 k3 hx.1 (by omega) hlt2 hle (l0X (by omega))).mono ?_
   rintro _ G2 ⟨⟨q1,o,q2,o2,rfl,k4,hov,hol,k5,hov2,hol2⟩,hx2⟩
   replace b0:=hx2.blk b0;replace b1:=hx2.blk b1;replace b2:=hx2.blk b2;replace b3:=hx2.blk b3;replace hx:=hx.trans hx2;replace k0:=k0.mono hx2;replace k1:=k1.mono hx2
   rw [a0q,a0q] at hov hov2
   simp [h0]
   refine a0B ?_
   simp [w0V,h0,b0,b1]
   refine (b0B k0 (by have:=hx.1;omega) (by omega)).mono ?_
   rintro _ G2 ⟨rfl,hx2⟩
   replace b0:=hx2.blk b0;replace b1:=hx2.blk b1;replace b2:=hx2.blk b2;replace b3:=hx2.blk b3;replace hx:=hx.trans hx2;replace k0:=k0.mono hx2;replace k1:=k1.mono hx2;replace k4:=k4.mono hx2;replace k5:=k5.mono hx2
   try simp [h0,b0,b1]
   refine (b0B k1 (by have:=hx.1;omega) (by omega)).mono ?_
   rintro _ G2 ⟨rfl,hx2⟩
   replace b0:=hx2.blk b0;replace b1:=hx2.blk b1;replace b2:=hx2.blk b2;replace b3:=hx2.blk b3;replace hx:=hx.trans hx2;replace k0:=k0.mono hx2;replace k4:=k4.mono hx2;replace k5:=k5.mono hx2
   try simp [h0]
   refine (c0o ((a0z i).tdiv (a0z j)) k4 (by have:=hx.1;omega) (by omega) (by rw [hov,← e1])).mono ?_
   rintro _ G2 ⟨⟨s1,rfl,hs1⟩,hx2⟩
   replace b0:=hx2.blk b0;replace b1:=hx2.blk b1;replace b2:=hx2.blk b2;replace b3:=hx2.blk b3;replace hx:=hx.trans hx2;replace k0:=k0.mono hx2;replace k5:=k5.mono hx2
   try simp [h0,b0,b1]
   refine (b0B k0 (by have:=hx.1;omega) (by omega)).mono ?_
   rintro _ G2 ⟨rfl,hx2⟩
   replace b2:=hx2.blk b2;replace b3:=hx2.blk b3;replace hx:=hx.trans hx2;replace k5:=k5.mono hx2
   replace hs1:=hs1.mono hx2
   try simp [h0]
   refine (c0o ((a0z i).tmod (a0z j)) k5 (by have:=hx.1;omega) (by omega) (by rw [hov2,← e2])).mono ?_
   rintro _ G2 ⟨⟨s2,rfl,hs2⟩,hx2⟩
   replace b2:=hx2.blk b2;replace b3:=hx2.blk b3;replace hx:=hx.trans hx2
   have hz:=a0l b3
   have hz2:=a0l b2
   simp [h0,b2,b3,hs1.cells,hs1.plain,hs2.cells,hs2.plain,hz,hz2]
   refine fun _=>⟨_,_,⟨rfl,rfl⟩,⟨s1,rfl,?_⟩,⟨s2,rfl,?_⟩⟩
   ·exact ((hs1.mono hx2).setT b2 (by decide)).setT (by rw [b0h (by omega)];exact b3) (by decide)
   ·exact (hs2.setT b2 (by decide)).setT (by rw [b0h (by omega)];exact b3) (by decide)
end
section
open Go
abbrev Log:=List (List Nat × List Nat)
def WRL (E:Env) (fl:Nat):List a0L→b0b→a0f→Log→(b0b→a0f→Log→Prop)→Prop
 | [],t,H,lg,Z=>Z t H lg
 | o :: r,t,H,lg,Z=>if b0g t o.g then WS E fl t H o.op (fun v H'=>WRL E fl r (put t o.dst v) H' (d0a t o.op :: lg) Z) (fun _=>False) else WRL E fl r (put t o.dst undef) H (([],[]) :: lg) Z
variable {E:Env} {fl:Nat} {t:b0b} {H:a0f} {Q:d0X} {R:a0G}
theorem p0t (bef:List Nat) (pairs:List (Nat × Nat)) {Z:b0b→a0f→Prop}:∀ (ops:List a0L) (i:Nat) (t:b0b) (H:a0f) (log:Log),
  WRL E fl ops t H log (fun t' H' lg=>c0P lg.reverse pairs=true∧Z t' H')→∃ n t' H',b0S (b0r E n) fl bef pairs i ops t H none log=.fin .normal t' H'∧Z t' H'
 | [],i,t,H,log,h=>⟨0,t,H,by simp only [b0S];rw [h1F h.1],h.2⟩
 | o :: r,i,t,H,log,h=>by
  simp only [WRL] at h
  split at h
  ·rename_i hw
   obtain ⟨n,hn⟩:=z0L h
   cases hs:b0D (b0r E n) fl t H o.op with
   | bad=>rw [hs] at hn;exact h1Y hn id
   | pan v=>rw [hs] at hn;exact h1Y hn id
   | ok rr =>
    obtain ⟨v,H'⟩:=rr
    rw [hs] at hn
    obtain ⟨m,t2,H2,hm,hz⟩:=p0t bef pairs r (i + 1) _ _ _ hn
    refine ⟨max n m,t2,H2,?_,hz⟩
    have h1:=f0K (a0N E n (max n m) (by omega)) (h1A fl) (t:=t) (H:=H) (so:=o.op) (by rw [hs];simp)
    have h2:=d0e (a0N E m (max n m) (by omega)) (h1A fl) bef pairs r (i + 1) (put t o.dst v) H' none (d0a t o.op :: log) (by rw [hm];simp)
    simp only [b0S,g0Z,i1a,i1F,hw,i1s,h1,hs,h2];exact hm
  ·rename_i hw
   obtain ⟨m,t2,H2,hm,hz⟩:=p0t bef pairs r (i + 1) _ _ _ h
   exact ⟨m,t2,H2,by simp only [b0S,g0Z,i1a,i1F,hw];exact hm,hz⟩
theorem e0y {ops:List a0L} {bef:List Nat} {pairs:List (Nat × Nat)} (h:WRL E fl ops t H [] (fun t' H' lg=>c0P lg.reverse pairs=true∧Q .normal t' H')):W E fl (.draw ops bef pairs) t H Q R:=by
 obtain ⟨n,t',H',hn,hz⟩:=p0t bef pairs ops 0 t H [] h
 refine ⟨n + 1,?_⟩
 have h2:=d0e (a0N E n (n+1) (by omega)) (h1A fl) bef pairs ops 0 t H none [] (by rw [hn];simp)
 simp only [b0c,h2,hn];exact hz
section
variable {Z:b0b→a0f→Log→Prop} {lg:Log} {d:Option Nat} {op:SOp} {r:List a0L}
@[simp ↓] theorem c1L:WRL E fl [] t H lg Z=Z t H lg:=nr rfl
@[simp ↓] theorem v0E:WRL E fl (⟨d,none,op⟩ :: r) t H lg Z=WS E fl t H op (fun v H'=>WRL E fl r (put t d v) H' (d0a t op :: lg) Z) (fun _=>False):=by simp [WRL,b0g]
@[simp ↓] theorem f1T {j:Nat} {w:Bool}:WRL E fl (⟨d,some (j,w),op⟩ :: r) t H lg Z=if z0q w (get t j)=true then WS E fl t H op (fun v H'=>WRL E fl r (put t d v) H' (d0a t op :: lg) Z) (fun _=>False) else WRL E fl r (put t d undef) H (([],[]) :: lg) Z:=by
 have h:b0g t (some (j,w))=z0q w (get t j):=by
  simp only [b0g]
  generalize get t j=v
  cases v <;> rfl
 show (if b0g t (some (j,w))=true then _ else _)=_
 rw [h]
theorem z0H {t t':b0b} {ops:List a0L} {lg:Log} (h:t=t'):WRL E fl ops t H lg Z=WRL E fl ops t' H lg Z:=by rw [h]
attribute [congr] z0H
@[simp] theorem Y0h {p:Addr}:blkOf (.pointer (some p))=[p.block]:=nr rfl
@[simp] theorem b1d {p:Addr} {n c:Nat}:blkOf (.slice (some p) n c)=[p.block]:=nr rfl
@[simp] theorem W0P {n c:Nat}:blkOf (.slice none n c)=[]:=nr rfl
@[simp] theorem d1B {p:Addr} {n c:Nat}:blkW (.slice (some p) n c)=if n=0∧c=0 then [] else [p.block]:=nr rfl
@[simp] theorem Y0i {n c:Nat}:blkW (.slice none n c)=[]:=nr rfl
attribute [simp] d0a c0P s0b
end
end
section
open Go
set_option maxHeartbeats 4000000
variable {fl:Nat} {H:a0f} {R:a0G} {v w:Value} {i j:Bool × List Nat}
theorem new2 {G:a0f} {z1 z2 r1 r2:Blk}:Ext G (Array.setIfInBounds (Array.setIfInBounds (Array.push (Array.push G z1) z2) G.size r1) (G.size + 1) r2) ∧
  a0f.blk (Array.setIfInBounds (Array.setIfInBounds (Array.push (Array.push G z1) z2) G.size r1) (G.size + 1) r2) G.size=r1 ∧
  a0f.blk (Array.setIfInBounds (Array.setIfInBounds (Array.push (Array.push G z1) z2) G.size r1) (G.size + 1) r2) (G.size + 1)=r2:=by
 refine ⟨(((Ext.refl G).push.push).set (by omega)).set (by omega),?_,?_⟩
 ·rw [b0h (by omega),a0A (by simp)]
 ·rw [a0A (by simp)]
theorem a0t (n:Nat):(a0j (n:Int))=(false,a0p n):=by unfold a0j;simp
theorem f0d (h:b0d H v i) (k:b0d H w j) (hf:fl≤H.size) (hn:i.2.length < 536870912) (hm:j.2.length < 536870912) :
  a0S env fl r0F [v,w] H (fun r H'=>b0d H' r (a0j (Int.gcd (a0z i) (a0z j)))∧Ext H H') R:=by
 have k0:=h
 have k1:=k
 obtain ⟨s,rfl,hs⟩:=h
 obtain ⟨u,rfl,hu⟩:=k
 refine a0i e1g hf (h:=?_)
 intro ρ h0
 simp [M0z,E0i,h0]
 generalize hG:Array.push (Array.push (Array.push H _) _) _=G
 have hx:Ext H G:=by rw [← hG];exact (Ext.refl H).push.push.push
 have b0:a0f.blk G H.size=.row false a0a [.bool i.1,s]:=by rw [← hG];simp
 have b1:a0f.blk G (H.size + 1)=.row false a0a [.bool j.1,u]:=by rw [← hG];simp
 have b2:a0f.blk G (H.size + 2)=.row false a0a [.bool false,.slice none 0 0]:=by rw [← hG];simp
 have hz:H.size + 2 < G.size:=a0l b2
 clear hG
 replace k0:=k0.mono hx
 replace k1:=k1.mono hx
 have l1:=a0v k0.ok
 have l2:=a0v k1.ok
 refine a0B ?_
 simp [E0j,h0,b0,b1]
 refine (b0R k0 (by omega) (by omega)).mono ?_
 rintro x G2 ⟨k2,hx2⟩
 replace b0:=hx2.blk b0;replace b1:=hx2.blk b1;replace b2:=hx2.blk b2;replace hx:=hx.trans hx2;replace k0:=k0.mono hx2;replace k1:=k1.mono hx2
 try simp [h0]
 refine (c0o (((a0z i).natAbs:Nat):Int) k2 (by have:=hx.1;omega) (by omega) (by simp [a0q])).mono ?_
 rintro x G2 ⟨k2,hx2⟩
 replace b0:=hx2.blk b0;replace b1:=hx2.blk b1;replace b2:=hx2.blk b2;replace hx:=hx.trans hx2;replace k0:=k0.mono hx2;replace k1:=k1.mono hx2
 try simp [h0,b1]
 refine (b0R k1 (by have:=hx.1;omega) (by omega)).mono ?_
 rintro y G2 ⟨k3,hx2⟩
 replace b0:=hx2.blk b0;replace b1:=hx2.blk b1;replace b2:=hx2.blk b2;replace hx:=hx.trans hx2;replace k0:=k0.mono hx2;replace k1:=k1.mono hx2;replace k2:=k2.mono hx2
 try simp [h0]
 refine (c0o (((a0z j).natAbs:Nat):Int) k3 (by have:=hx.1;omega) (by omega) (by simp [a0q])).mono ?_
 rintro y G2 ⟨k3,hx2⟩
 replace b0:=hx2.blk b0;replace b1:=hx2.blk b1;replace b2:=hx2.blk b2;replace hx:=hx.trans hx2;replace k0:=k0.mono hx2;replace k1:=k1.mono hx2;replace k2:=k2.mono hx2
 obtain ⟨s2,hxe,k2⟩:=k2
 obtain ⟨s3,hye,k3⟩:=k3
 have hsz:=hx.1
 have hsz1:H.size≤G2.size + 1:=by omega
 have hc0:=a0l b2
 simp [h0,hsz1,hxe,hye,k2.cells,k3.cells,k2.plain,k3.plain,hsz]
 rw [a0t] at k2 k3
 obtain ⟨hx2,b3,b4⟩:=new2 (G:=G2) (z1:=.row false a0a [.bool false,.slice none 0 0]) (z2:=.row false a0a [.bool false,.slice none 0 0]) (r1:=.row false a0a [.bool false,s2]) (r2:=.row false a0a [.bool false,s3])
 replace k2:=k2.mono hx2
 replace k3:=k3.mono hx2
 replace b2:=hx2.blk b2
 replace hx:=hx.trans hx2
 simp only [a0t]
 generalize Array.setIfInBounds _ _ _=G3 at *
 generalize hP:G2.size=P at *
 refine b0Y (fun c t G=>∃ (a b:Nat) (s5 s6:Value),c=b∧t.length=30∧get t 4=.pointer (some ⟨H.size + 2,0,none⟩)∧get t 5=.pointer (some ⟨P,0,none⟩)∧get t 6=.pointer (some ⟨P + 1,0,none⟩) ∧
   Ext H G∧a0f.blk G (H.size + 2)=.row false a0a [.bool false,.slice none 0 0]∧a0f.blk G P=.row false a0a [.bool false,s5]∧a0f.blk G (P + 1)=.row false a0a [.bool false,s6]∧Lim G s5 (a0p a)∧Lim G s6 (a0p b) ∧
   (a0p a).length < 536870912∧(a0p b).length < 536870912∧Nat.gcd a b=Int.gcd (a0z i) (a0z j))
  (fun t G=>∃ (a:Nat) (s5:Value),t.length=30∧get t 4=.pointer (some ⟨H.size + 2,0,none⟩)∧get t 5=.pointer (some ⟨P,0,none⟩) ∧
   Ext H G∧a0f.blk G (H.size + 2)=.row false a0a [.bool false,.slice none 0 0]∧a0f.blk G P=.row false a0a [.bool false,s5]∧Lim G s5 (a0p a)∧a=Int.gcd (a0z i) (a0z j)) (a0z j).natAbs ?_ ?_ ?_
 ·exact ⟨(a0z i).natAbs,(a0z j).natAbs,s2,s3,rfl,by simp,by simp,by simp,by simp,hx,b2,b3,b4,k2,k3,by omega,by omega,rfl⟩
 ·clear h0 ρ k0 k1 k2 k3 b0 b1 b2 hx
  rintro c t G ⟨a,b,s5,s6,rfl,ht,g4,g5,g6,hx,b2,b3,b4,k5,k6,la,lb,hg⟩
  obtain ⟨ρ,rfl⟩:=toT ht
  simp only [b0V,Nat.reduceLT] at g4 g5 g6
  by_cases hb:c=0
  ·subst hb
   rw [a0W] at k6
   simp [u0t,g4,g5,g6,b2,b3,b4,k6.slen]
   rw [Nat.gcd_zero_right] at hg
   exact ⟨hx,by rw [← hg];exact k5⟩
  ·have hdl:0 < (a0p c).length:=List.length_pos_iff.2 (by rw [Ne,b0I];exact hb)
   have hdl':(0:Int) < ((a0p c).length:Int):=by omega
   have hnil:a0p c ≠ []:=by rw [Ne,b0I];exact hb
   simp [u0t,E0k,g4,g5,g6,b2,b3,b4,k6.slen,hdl,hdl',hnil]
   have k0:b0d G (.agg #[.bool false,s5]) (a0j (a:Int)):=⟨s5,by rw [a0t],by rw [a0t];exact k5⟩
   have k1:b0d G (.agg #[.bool false,s6]) (a0j (c:Int)):=⟨s6,by rw [a0t],by rw [a0t];exact k6⟩
   refine (b0T k0 k1 hx.1 (by rw [a0t];exact la) (by rw [a0t];exact lb) (by rw [a0h];omega)).mono ?_
   rintro _ G2 ⟨⟨q,m,rfl,k7,k8⟩,hx2⟩
   replace b2:=hx2.blk b2;replace b3:=hx2.blk b3;replace b4:=hx2.blk b4;replace hx:=hx.trans hx2;replace k0:=k0.mono hx2;replace k1:=k1.mono hx2;replace k5:=k5.mono hx2;replace k6:=k6.mono hx2
   rw [a0h,a0h] at k7 k8
   have hmod:((a:Int).tmod (c:Int))=((a % c:Nat):Int):=by rw [Int.tmod_eq_emod_of_nonneg (by omega)];rfl
   rw [hmod,a0t] at k8
   obtain ⟨s7,rfl,k7⟩:=k7
   obtain ⟨s8,rfl,k8⟩:=k8
   have hsz:=hx.1
   have hsz1:H.size≤G2.size + 1:=by omega
   have hc1:=a0l b4
   simp [g4,g5,g6,b3,b4,k7.cells,k8.cells,k7.plain,k8.plain,hsz,hsz1]
   obtain ⟨hx2,b5,b6⟩:=new2 (G:=G2) (z1:=.row false a0a [.bool false,.slice none 0 0]) (z2:=.row false a0a [.bool false,.slice none 0 0]) (r1:=.row false a0a [.bool (a0j (↑a / ↑c)).1,s7]) (r2:=.row false a0a [.bool false,s8])
   replace b2:=hx2.blk b2;replace b3:=hx2.blk b3;replace b4:=hx2.blk b4;replace hx:=hx.trans hx2;replace k0:=k0.mono hx2;replace k1:=k1.mono hx2;replace k5:=k5.mono hx2;replace k6:=k6.mono hx2;replace k8:=k8.mono hx2
   generalize Array.setIfInBounds (Array.setIfInBounds _ _ _) _ _=G3 at *
   have hl1:=a0l b3
   have hl2:=a0l b4
   have hHP:H.size≤P:=by omega
   have hHP1:H.size≤P + 1:=by omega
   have hne:P + 1 ≠ P:=by omega
   have hne2:P ≠ G2.size + 1:=by omega
   have hne3:G2.size + 1 ≠ P:=by omega
   refine e0y ?_
   simp [E0l,g4,g5,g6,b4,b6,b3,k6.cells,k8.cells,k6.plain,k8.plain,hHP,hHP1,hne,hne2,hne3]
   have hmc:a % c < c:=i1X _ (by omega)
   refine ⟨a % c,hmc,(hx.set hHP).set hHP1,by rw [b0h (by omega),b0h (by omega)];exact b2,c,s6,by rw [a0A hl1],s8,by rw [a0A (by simpa using hl2)],?_,?_,lb,k1x (a0V (j1Y hmc)) lb,by rw [Nat.gcd_comm,← Nat.gcd_rec,Nat.gcd_comm,hg]⟩
   ·exact (k6.setT b3 (by decide)).setT (by rw [b0h (by omega)];exact b4) (by decide)
   ·exact (k8.setT b3 (by decide)).setT (by rw [b0h (by omega)];exact b4) (by decide)
 ·clear h0 ρ k0 k1 k2 k3 b0 b1 b2 hx
  rintro t G ⟨a,s5,ht,g4,g5,hx,b2,b3,k5,hg⟩
  obtain ⟨ρ,rfl⟩:=toT ht
  simp only [b0V,Nat.reduceLT] at g4 g5
  have hl1:=a0l b2
  have hl2:=a0l b3
  subst hg
  simp [E0m,g4,g5,b2,b3,k5.cells,k5.plain,hl1]
  exact fun _=>⟨s5,rfl,k5.setT b2 (by decide)⟩
end
end Go.Proofs.YtjlohmnnldbjoaaGreat.AI
