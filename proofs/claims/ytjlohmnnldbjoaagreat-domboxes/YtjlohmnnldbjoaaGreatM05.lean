/- Part 6 of the proof: AiNum13, AiNum14, AiNum15, AiNum16, AiWd, AiNum17, AiCall, AiRat1, AiMath3, AiRat2. -/
import Derived.Test.YtjlohmnnldbjoaaGreatM04
set_option linter.unusedVariables false
set_option linter.unusedSimpArgs false
set_option linter.unusedSectionVars false
/- num.take, num.give: limbs of one's own, changed. -/
namespace Go.Proofs.YtjlohmnnldbjoaaGreat.AI
section
open Go
set_option maxHeartbeats 4000000
variable {fl:Nat} {H G:a0f} {R:a0A} {v w:Value} {a b:List Nat} {K:k0E}
theorem v0O {E:Env} {f:FuncId} {args:List Value} {sf:q0Z} (hc:E.code f=some sf) (hl:args.length=sf.np:=by rfl) (hnt:args.length≤sf.nt:=by exact of_decide_eq_true rfl)
  (h:∀ ρ:Nat→Value,(∀ i,ρ i=args.getD i undef)→W E fl sf.body (T sf.nt ρ) H (Q0D (fun t' H'=>u0X H' t' sf.res fun v=>K v H')) R) :
  a0P E fl f args H K R :=
 l0N (K:=K) hc hl hnt (fun t h1 h2=>by
  have h3:=h (get t) h2
  rw [← F0H h1] at h3
  refine h3.mono fun e t' H' hq=>?_
  cases e with
  | exit i=>exact absurd hq id
  | normal=>exact ⟨trivial,hq⟩
  | ret=>exact ⟨trivial,hq⟩)
@[simp] theorem R0Q {t:a0W} {P:Value→Prop}:u0X H t [] P=P (.tuple #[]):=by simp [u0X,e0h,c0Z]
theorem d0G.refl {o:Option Nat}:d0G o H H:=(Ext.refl H).extB
theorem d0G.trans {o:Option Nat} {H1 H2 H3:a0f} (h:d0G o H1 H2) (k:d0G o H2 H3):d0G o H1 H3 :=
 ⟨Nat.le_trans h.1 k.1,fun b hb hne=>(k.2 b (Nat.lt_of_lt_of_le hb h.1) hne).trans (h.2 b hb hne)⟩
theorem d0G.set {p:Nat} {r:Blk} (h:d0G (some p) H G):d0G (some p) H (G.setIfInBounds p r) :=
 ⟨by have:=h.1;simpa using this,fun b hb hne=>by rw [b0g (by simpa using hne)];exact h.2 b hb hne⟩
theorem d0G.ext {p:Nat} {H0:a0f} (h:d0G (some p) H G) (hp:H0.size≤p) (h0:Ext H0 H):Ext H0 G :=
 ⟨Nat.le_trans h0.1 h.1,fun b hb=>(h.2 b (Nat.lt_of_lt_of_le hb h0.1) (by simp;omega)).trans (h0.2 b hb)⟩
theorem Sl.off {e sz n p:Nat} {cs:List Value} (h:Sl H e sz v n cs) (hx:d0G (some p) H G) (hne:slB v ≠ some p):Sl G e sz v n cs:=by
 obtain ⟨hl,h | ⟨b,off,cap,ro,cells,rfl,hb,ho,hcs⟩⟩:=h
 ·exact ⟨hl,.inl h⟩
 ·exact ⟨hl,.inr ⟨b,off,cap,ro,cells,rfl,by rw [hx.2 b (a0k hb) (fun h=>hne (by simp only [slB];exact h.symm))];exact hb,ho,hcs⟩⟩
theorem Lim.off {p:Nat} (h:Lim H v a) (hx:d0G (some p) H G) (hne:slB v ≠ some p):Lim G v a:=⟨h.1.off hx hne,h.2⟩
def win (L:List Nat) (o:Nat):Nat→Nat
 | 0=>0
 | i + 1=>win L o i + 4294967296 ^ i * L.getD (o + i) 0
theorem h0T {L L':List Nat} {o:Nat}:∀ {i:Nat},(∀ j,j < i→L.getD (o + j) 0=L'.getD (o + j) 0)→win L o i=win L' o i
 | 0,_=>rfl
 | i + 1,h=>by rw [win,win,h0T (fun j hj=>h j (by omega)),h i (by omega)]
theorem P0g {L:List Nat} {o i j z:Nat} (h:o + i≤j):win (L.set j z) o i=win L o i :=
 h0T fun k hk=>e0F (by omega)
theorem e0r {L:List Nat} (h:b0D L) (i:Nat):L.getD i 0 < 4294967296:=by
 rw [List.getD_eq_getElem?_getD]
 by_cases hi:i < L.length
 ·rw [List.getElem?_eq_getElem hi];exact h _ (List.getElem_mem hi)
 ·rw [List.getElem?_eq_none (by omega)];simp
theorem i0O {L:List Nat} (h:b0D L) (o:Nat):∀ i,win L o i < 4294967296 ^ i
 | 0=>by simp [win]
 | i + 1=>by
  rw [win,Nat.pow_succ]
  have h1:=i0O h o i
  have h2:=e0r h (o + i)
  have:4294967296 ^ i * (L.getD (o + i) 0 + 1)≤4294967296 ^ i * 4294967296:=Nat.mul_le_mul_left _ h2
  rw [Nat.mul_add,Nat.mul_one] at this
  omega
theorem g0t {L:List Nat}:∀ {i:Nat},i≤L.length→a0D (L.take i)=win L 0 i
 | 0,_=>by simp [a0D,win]
 | i + 1,h=>by rw [b0h (by omega),g0t (by omega),win,Nat.zero_add]
theorem i0z {L:List Nat} {n:Nat} (h:L.length≤n):win L 0 n=a0D L:=by
 obtain ⟨k,rfl⟩:∃ k,n=L.length + k:=⟨n - L.length,by omega⟩
 clear h
 induction k with
 | zero=>rw [Nat.add_zero,← g0t (Nat.le_refl _),List.take_length]
 | succ k ih=>rw [← Nat.add_assoc,win,ih,List.getD_eq_getElem?_getD,List.getElem?_eq_none (by omega)];simp
theorem j0Z {e p o n cap:Nat} {L:List Nat} (hb:G.blk p=.row false e (d0b L)) (hL:o + n≤L.length) {k:IntKind} {z:Nat} (hz:z < n) :
  iaV 1 (.slice (some ⟨p,o,none⟩) n cap) (.int k (z:Int))=some (.pointer (some ⟨p,o + z,none⟩))∧rd (G.blk p) (o + z)=some (.int .u32 ((L.getD (o + z) 0:Nat):Int)):=by
 refine ⟨?_,?_⟩
 ·simp only [iaV];rw [if_pos (by omega)];simp
 ·rw [hb];simp [d0b,List.getD_eq_getElem?_getD,show o + z < L.length by omega]
theorem o0G {x y u v g c t ch cm bo B P:Nat} (h:x + g * y=u + c * P) (ht:t=c + v * g) (hc:t=ch * B + cm) {z w:Nat} (hz:z + cm=w + bo * B) :
  (x + P * z) + g * (y + P * v)=(u + P * w) + (ch + bo) * (P * B):=by
 have h1:P * z + P * cm=P * w + P * (bo * B):=by rw [← Nat.mul_add,hz,Nat.mul_add]
 have h2:P * (c + v * g)=P * (ch * B) + P * cm:=by rw [← ht,hc,Nat.mul_add]
 rw [Nat.mul_add] at h2 ⊢
 rw [Nat.add_mul]
 have e1:g * (P * v)=P * (v * g):=by grind
 have e2:ch * (P * B)=P * (ch * B):=by grind
 have e3:bo * (P * B)=P * (bo * B):=by grind
 have e4:c * P=P * c:=by grind
 omega
theorem n0X {x y u v c t ch cm B P w:Nat} (h:x + c * P=u + y) (ht:t=c + w + v) (hc:t=ch * B + cm) :
  (x + P * cm) + ch * (P * B)=(u + P * w) + (y + P * v):=by
 have h2:P * (c + w + v)=P * (ch * B) + P * cm:=by rw [← ht,hc,Nat.mul_add]
 rw [Nat.mul_add,Nat.mul_add] at h2
 have e2:ch * (P * B)=P * (ch * B):=by grind
 have e4:c * P=P * c:=by grind
 omega
def Won (L X:List Nat) (o i:Nat):Prop:=X.length=L.length∧b0D X∧∀ j,j < o ∨ o + i≤j→X.getD j 0=L.getD j 0
theorem Won.zero {L:List Nat} {o:Nat} (h:b0D L):Won L L o 0:=⟨rfl,h,fun _ _=>rfl⟩
theorem Won.step {L X:List Nat} {o i z:Nat} (h:Won L X o i) (hz:z < 4294967296):Won L (X.set (o + i) z) o (i + 1) :=
 ⟨by simp [h.1],d0U h.2.1 hz,fun j hj=>by rw [e0F (by omega)];exact h.2.2 j (by omega)⟩
theorem Won.win {L X:List Nat} {o i z:Nat} (h:Won L X o i) (hi:o + i < L.length):AI.win (X.set (o + i) z) o (i + 1)=AI.win X o i + 4294967296 ^ i * z:=by
 rw [AI.win,P0g (by omega),List.getD_eq_getElem?_getD,List.getElem?_set_self (by rw [h.1];exact hi)];rfl
theorem m0o {L:List Nat} {p o n cap g:Nat} (hb:H.blk p=.row false a0m (d0b L)) (hok:b0D L) (hL:o + n≤L.length) (hv:Lim H v a) (hne:slB v ≠ some p) (hf:fl≤p) (hg:g < 4294967296) (hn:n < 1073741824) (ha:a.length≤n) :
  a0P env fl w0k [.slice (some ⟨p,o,none⟩) n cap,v,.int .u64 (g:Int)] H (fun r G=>∃ X c,r=.bool (c != 0)∧G.blk p=.row false a0m (d0b X)∧d0G (some p) H G∧Won L X o n∧win X o n + g * a0D a=win L o n + c * 4294967296 ^ n) R:=by
 refine v0O V0E (h:=?_)
 intro ρ h0
 simp only [I0u]
 simp [D0o,D0p,D0q,h0,j0b]
 generalize hSL:Value.slice (some ⟨p,o,none⟩) n cap=SL
 refine b0Y (fun k t G=>∃ i c X,i + k=n∧t.length=49∧get t 0=SL∧get t 1=v∧get t 2=.int .u64 ((g:Nat):Int)∧get t 7=.int .u64 ((c:Nat):Int)∧get t 11=.int .i64 n∧get t 12=.int .i64 ((i:Nat):Int) ∧
   G.blk p=.row false a0m (d0b X)∧d0G (some p) H G∧Won L X o i∧c≤4294967296∧win X o i + g * win a 0 i=win L o i + c * 4294967296 ^ i)
  (fun t G=>∃ c X,t.length=49∧get t 7=.int .u64 ((c:Nat):Int)∧G.blk p=.row false a0m (d0b X)∧d0G (some p) H G∧Won L X o n∧win X o n + g * win a 0 n=win L o n + c * 4294967296 ^ n) n ?_ ?_ ?_
 ·exact ⟨0,0,L,by omega,by simp,by simp [h0,hSL],by simp [h0],by simp [h0],by simp,by simp,by simp,hb,d0G.refl,Won.zero hok,by omega,by simp [win]⟩
 ·clear h0 ρ
  rintro k t G ⟨i,c,X,hik,ht,g0,g1,g2,g7,g11,g12,hX,hx,hw,hc,hs⟩
  obtain ⟨ρ,rfl⟩:=toT ht
  simp only [b0Z,Nat.reduceLT] at g0 g1 g2 g7 g11 g12
  by_cases hi:i < n
  ·have e9:IntKind.i64.wrap ((i:Int) + 1)=((i + 1:Nat):Int):=by rw [a0L (by omega) (by omega)];omega
   obtain ⟨hi1,hi2⟩:=j0Z (k:=.i64) (cap:=cap) hX (by rw [hw.1];exact hL) hi
   rw [hSL] at hi1
   have hXl:X.getD (o + i) 0=L.getD (o + i) 0:=hw.2.2 _ (by omega)
   have hA:=e0r hok (o + i)
   rw [hXl] at hi2
   have hLw:win L o (i + 1)=win L o i + 4294967296 ^ i * L.getD (o + i) 0:=rfl
   have haw:win a 0 (i + 1)=win a 0 i + 4294967296 ^ i * a.getD i 0:=by rw [win,Nat.zero_add]
   generalize L.getD (o + i) 0=A at hi2 hA hLw
   have eA:IntKind.u64.wrap (A:Int)=(A:Int):=by rw [a0J];omega
   have hv':=hv.off hx hne
   have hV:=e0r hv.ok i
   by_cases hia:i < a.length
   ·have hla:=hv'.load hia (Ext.refl _)
    have hia2:=hv'.ia (k:=.i64) hia
    generalize a.getD i 0=V at hla haw hV
    have eV:IntKind.u64.wrap (V:Int)=(V:Int):=by rw [a0J];omega
    have hVg:V * g≤4294967295 * 4294967295:=Nat.mul_le_mul (by omega) (by omega)
    have e1:IntKind.u64.wrap ((V:Int) * (g:Int))=((V * g:Nat):Int):=by rw [a0J,← Int.natCast_mul];omega
    have e2:IntKind.u64.wrap ((c:Int) + ((V * g:Nat):Int))=((c + V * g:Nat):Int):=by rw [a0J,← Int.natCast_add];omega
    have e3:=Q0h (tag:=0) (a:=c + V * g)
    simp [-Int.natCast_add,-Int.natCast_mul,-Int.natCast_ediv,-Int.natCast_emod,n0c,q0l,q0m,q0n,q0o,q0p,q0q,n0b,g0,g1,g2,g7,g11,g12,hi,hv'.slen,hia,hia2,hla,eV,e1,e2,hi1,hi2,e3,eA]
    generalize hD:c + V * g=D at *
    have hDD:D=(D / 4294967296) * 4294967296 + D % 4294967296:=(Nat.div_add_mod' D 4294967296).symm
    have hcm:=Nat.mod_lt D (show 0 < 4294967296 by omega)
    generalize D / 4294967296=ch at *
    generalize D % 4294967296=cm at *
    have hbo:IntKind.u64.wrap ((A:Int) - (cm:Int))=((if cm≤A then A - cm else A + 18446744073709551616 - cm:Nat):Int):=by rw [a0J];split <;> omega
    have hchb:ch≤4294967295:=by omega
    obtain ⟨bo,z,q,hbq,hz1,hz2,hq1,hq2,hq3⟩:∃ bo z q:Nat,(if cm≤A then A - cm else A + 18446744073709551616 - cm:Nat)=q∧z + cm=A + bo * 4294967296∧z < 4294967296∧q % 4294967296=z∧q / 9223372036854775808=bo∧bo≤1:=by
     by_cases h:cm≤A
     ·exact ⟨0,A - cm,A - cm,by rw [if_pos h],by omega,by omega,by omega,by omega,by omega⟩
     ·exact ⟨1,A + 4294967296 - cm,A + 18446744073709551616 - cm,by rw [if_neg h],by omega,by omega,by omega,by omega,by omega⟩
    have e8:IntKind.u64.wrap ((ch:Int) + (bo:Int))=((ch + bo:Nat):Int):=by rw [a0J];omega
    rw [hbq] at hbo
    simp [-Int.natCast_add,-Int.natCast_mul,-Int.natCast_ediv,-Int.natCast_emod,hbo,g0,g7,g11,g12]
    refine (a0r (by have:=a0k hX;omega)).mono ?_
    rintro _ G3 ⟨rfl,hx3⟩
    rw [hq1,hq2]
    have hX3:=hx3.blk hX
    have hpl:=a0k hX3
    have hle:o + i + 1≤X.length:=by rw [hw.1];omega
    simp [-Int.natCast_add,-Int.natCast_mul,-Int.natCast_ediv,-Int.natCast_emod,hi1,hX3,hle,hf,e8,e9]
    refine ⟨k - 1,by omega,i + 1,by omega,ch + bo,rfl,rfl,X.set (o + i) z,by rw [a0R hpl,d0x],(hx.trans hx3.extB).set,hw.step hz2,by omega,?_⟩
    rw [hw.win (by omega),haw,hLw,Nat.pow_succ]
    exact o0G hs hD.symm hDD hz1
   ·have hV0:a.getD i 0=0:=by rw [List.getD_eq_getElem?_getD,List.getElem?_eq_none (by omega)];rfl
    rw [hV0] at haw
    obtain ⟨V,hV⟩:∃ V,V=0:=⟨0,rfl⟩
    replace haw:win a 0 (i + 1)=win a 0 i + 4294967296 ^ i * V:=by rw [haw,hV]
    have hVg:V * g=0:=by rw [hV,Nat.zero_mul]
    have e3:=Q0h (tag:=0) (a:=c)
    have ec:c=c + V * g:=by omega
    rw [ec] at e3 g7
    have hDb:c + V * g≤4294967296:=by omega
    simp [-Int.natCast_add,-Int.natCast_mul,-Int.natCast_ediv,-Int.natCast_emod,n0c,q0l,q0m,q0n,q0o,q0p,q0q,n0b,g0,g1,g2,g7,g11,g12,hi,hv'.slen,hia,hi1,hi2,e3,eA]
    generalize hD:c + V * g=D at *
    have hDD:D=(D / 4294967296) * 4294967296 + D % 4294967296:=(Nat.div_add_mod' D 4294967296).symm
    have hcm:=Nat.mod_lt D (show 0 < 4294967296 by omega)
    generalize D / 4294967296=ch at *
    generalize D % 4294967296=cm at *
    have hbo:IntKind.u64.wrap ((A:Int) - (cm:Int))=((if cm≤A then A - cm else A + 18446744073709551616 - cm:Nat):Int):=by rw [a0J];split <;> omega
    have hchb:ch≤4294967295:=by omega
    obtain ⟨bo,z,q,hbq,hz1,hz2,hq1,hq2,hq3⟩:∃ bo z q:Nat,(if cm≤A then A - cm else A + 18446744073709551616 - cm:Nat)=q∧z + cm=A + bo * 4294967296∧z < 4294967296∧q % 4294967296=z∧q / 9223372036854775808=bo∧bo≤1:=by
     by_cases h:cm≤A
     ·exact ⟨0,A - cm,A - cm,by rw [if_pos h],by omega,by omega,by omega,by omega,by omega⟩
     ·exact ⟨1,A + 4294967296 - cm,A + 18446744073709551616 - cm,by rw [if_neg h],by omega,by omega,by omega,by omega,by omega⟩
    have e8:IntKind.u64.wrap ((ch:Int) + (bo:Int))=((ch + bo:Nat):Int):=by rw [a0J];omega
    rw [hbq] at hbo
    simp [-Int.natCast_add,-Int.natCast_mul,-Int.natCast_ediv,-Int.natCast_emod,hbo,g0,g7,g11,g12]
    refine (a0r (by have:=a0k hX;omega)).mono ?_
    rintro _ G3 ⟨rfl,hx3⟩
    rw [hq1,hq2]
    have hX3:=hx3.blk hX
    have hpl:=a0k hX3
    have hle:o + i + 1≤X.length:=by rw [hw.1];omega
    simp [-Int.natCast_add,-Int.natCast_mul,-Int.natCast_ediv,-Int.natCast_emod,hi1,hX3,hle,hf,e8,e9]
    refine ⟨k - 1,by omega,i + 1,by omega,ch + bo,rfl,rfl,X.set (o + i) z,by rw [a0R hpl,d0x],(hx.trans hx3.extB).set,hw.step hz2,by omega,?_⟩
    rw [hw.win (by omega),haw,hLw,Nat.pow_succ]
    exact o0G hs hD.symm hDD hz1
  ·simp [n0c,g0,g1,g2,g7,g11,g12,hi]
   have:i=n:=by omega
   subst this
   exact ⟨c,rfl,X,hX,hx,hw,hs⟩
 ·clear h0 ρ
  rintro t G ⟨c,X,ht,g7,hX,hx,hw,hs⟩
  obtain ⟨ρ,rfl⟩:=toT ht
  simp only [b0Z,Nat.reduceLT] at g7
  simp [t0u,g7]
  refine ⟨X,c,rfl,hX,hx,hw,?_⟩
  rw [← hs]
  congr 2
  rw [i0z ha]
theorem m0l {L:List Nat} {p o n cap:Nat} (hb:H.blk p=.row false a0m (d0b L)) (hok:b0D L) (hL:o + n≤L.length) (hv:Lim H v a) (hne:slB v ≠ some p) (hf:fl≤p) (hn:n < 1073741824) (ha:a.length≤n) :
  a0P env fl w0l [.slice (some ⟨p,o,none⟩) n cap,v] H (fun _ G=>∃ X c,G.blk p=.row false a0m (d0b X)∧d0G (some p) H G∧Won L X o n∧win X o n + c * 4294967296 ^ n=win L o n + a0D a) R:=by
 refine v0O V0F (h:=?_)
 intro ρ h0
 simp only [I0v]
 simp [D0r,D0s,h0,j0b]
 generalize hSL:Value.slice (some ⟨p,o,none⟩) n cap=SL
 refine I0Z (fun k t G=>∃ i c X,i + k=n∧t.length=37∧get t 0=SL∧get t 1=v∧get t 4=.int .u64 ((c:Nat):Int)∧get t 7=.int .i64 n∧get t 8=.int .i64 ((i:Nat):Int) ∧
   G.blk p=.row false a0m (d0b X)∧d0G (some p) H G∧Won L X o i∧c≤1∧win X o i + c * 4294967296 ^ i=win L o i + win a 0 i) ?_ n ?_
 ·clear h0 ρ
  rintro k t G ⟨i,c,X,hik,ht,g0,g1,g4,g7,g8,hX,hx,hw,hc,hs⟩
  obtain ⟨ρ,rfl⟩:=toT ht
  simp only [b0Z,Nat.reduceLT] at g0 g1 g4 g7 g8
  by_cases hi:i < n
  ·have e9:IntKind.i64.wrap ((i:Int) + 1)=((i + 1:Nat):Int):=by rw [a0L (by omega) (by omega)];omega
   obtain ⟨hi1,hi2⟩:=j0Z (k:=.i64) (cap:=cap) hX (by rw [hw.1];exact hL) hi
   rw [hSL] at hi1
   have hXl:X.getD (o + i) 0=L.getD (o + i) 0:=hw.2.2 _ (by omega)
   have hA:=e0r hok (o + i)
   rw [hXl] at hi2
   have hLw:win L o (i + 1)=win L o i + 4294967296 ^ i * L.getD (o + i) 0:=rfl
   have haw:win a 0 (i + 1)=win a 0 i + 4294967296 ^ i * a.getD i 0:=by rw [win,Nat.zero_add]
   generalize L.getD (o + i) 0=A at hi2 hA hLw
   have eA:IntKind.u64.wrap (A:Int)=(A:Int):=by rw [a0J];omega
   have e1:IntKind.u64.wrap ((c:Int) + (A:Int))=((c + A:Nat):Int):=by rw [a0J];omega
   have hv':=hv.off hx hne
   have hV:=e0r hv.ok i
   by_cases hia:i < a.length
   ·have hla:=hv'.load hia (Ext.refl _)
    have hia2:=hv'.ia (k:=.i64) hia
    generalize a.getD i 0=V at hla haw hV
    have eV:IntKind.u64.wrap (V:Int)=(V:Int):=by rw [a0J];omega
    have e2:IntKind.u64.wrap (((c + A:Nat):Int) + (V:Int))=((c + A + V:Nat):Int):=by rw [a0J];omega
    simp [-Int.natCast_add,-Int.natCast_mul,-Int.natCast_ediv,-Int.natCast_emod,n0d,q0r,q0s,q0t,q0u,q0v,q0w,q0x,g0,g1,g4,g7,g8,hi,hv'.slen,hia,hia2,hla,eV,e1,e2,hi1,hi2,eA]
    generalize hD:c + A + V=D at *
    have hDD:D=(D / 4294967296) * 4294967296 + D % 4294967296:=(Nat.div_add_mod' D 4294967296).symm
    have hcm:=Nat.mod_lt D (show 0 < 4294967296 by omega)
    refine (a0r (by have:=a0k hX;omega)).mono ?_
    rintro _ G3 ⟨rfl,hx3⟩
    generalize D / 4294967296=ch at *
    generalize D % 4294967296=cm at *
    have hX3:=hx3.blk hX
    have hpl:=a0k hX3
    have hle:o + i + 1≤X.length:=by rw [hw.1];omega
    simp [-Int.natCast_add,-Int.natCast_mul,-Int.natCast_ediv,-Int.natCast_emod,hi1,hX3,hle,hf,e9]
    refine ⟨k - 1,by omega,i + 1,by omega,ch,rfl,rfl,X.set (o + i) cm,by rw [a0R hpl,d0x],(hx.trans hx3.extB).set,hw.step hcm,by omega,?_⟩
    rw [hw.win (by omega),haw,hLw,Nat.pow_succ]
    exact n0X hs hD.symm hDD
   ·have hV0:a.getD i 0=0:=by rw [List.getD_eq_getElem?_getD,List.getElem?_eq_none (by omega)];rfl
    rw [hV0] at haw
    obtain ⟨V,hV⟩:∃ V,V=0:=⟨0,rfl⟩
    replace haw:win a 0 (i + 1)=win a 0 i + 4294967296 ^ i * V:=by rw [haw,hV]
    have e1':IntKind.u64.wrap ((c:Int) + (A:Int))=((c + A + V:Nat):Int):=by rw [e1,hV];rfl
    simp [-Int.natCast_add,-Int.natCast_mul,-Int.natCast_ediv,-Int.natCast_emod,n0d,q0r,q0s,q0t,q0u,q0v,q0w,q0x,g0,g1,g4,g7,g8,hi,hv'.slen,hia,hi1,hi2,e1',eA]
    generalize hD:c + A + V=D at *
    have hDD:D=(D / 4294967296) * 4294967296 + D % 4294967296:=(Nat.div_add_mod' D 4294967296).symm
    have hcm:=Nat.mod_lt D (show 0 < 4294967296 by omega)
    refine (a0r (by have:=a0k hX;omega)).mono ?_
    rintro _ G3 ⟨rfl,hx3⟩
    generalize D / 4294967296=ch at *
    generalize D % 4294967296=cm at *
    have hX3:=hx3.blk hX
    have hpl:=a0k hX3
    have hle:o + i + 1≤X.length:=by rw [hw.1];omega
    simp [-Int.natCast_add,-Int.natCast_mul,-Int.natCast_ediv,-Int.natCast_emod,hi1,hX3,hle,hf,e9]
    refine ⟨k - 1,by omega,i + 1,by omega,ch,rfl,rfl,X.set (o + i) cm,by rw [a0R hpl,d0x],(hx.trans hx3.extB).set,hw.step hcm,by omega,?_⟩
    rw [hw.win (by omega),haw,hLw,Nat.pow_succ]
    exact n0X hs hD.symm hDD
  ·simp [n0d,g0,g1,g4,g7,g8,hi]
   have:i=n:=by omega
   subst this
   exact ⟨X,hX,hx,hw,c,by rw [hs,i0z ha]⟩
 ·exact ⟨0,0,L,by omega,by simp,by simp [h0,hSL],by simp [h0],by simp,by simp,by simp,hb,d0G.refl,Won.zero hok,by omega,by simp [win]⟩
end
/- Division of limbs by limbs: the plain laws. -/
section
open Go
theorem d0h {L:List Nat} {o i:Nat}:∀ {j:Nat},win L o (i + j)=win L o i + 4294967296 ^ i * win L (o + i) j
 | 0=>by simp [win]
 | j + 1=>by
  rw [← Nat.add_assoc,win,d0h,win,Nat.mul_add,← Nat.mul_assoc,← Nat.pow_add,Nat.add_assoc o i j,Nat.add_assoc]
theorem P0h {L:List Nat} {o k:Nat} (hk:2≤k):win L o (k + 1)=win L o (k - 2) + 4294967296 ^ (k - 2) * ((L.getD (o + k) 0 * 4294967296 + L.getD (o + (k - 1)) 0) * 4294967296 + L.getD (o + (k - 2)) 0):=by
 obtain ⟨j,rfl⟩:∃ j,k=j + 2:=⟨k - 2,by omega⟩
 rw [show j + 2 - 2=j by omega,show j + 2 + 1=j + 3 by omega,d0h,show j + 2 - 1=j + 1 by omega]
 congr 2
 simp only [win]
 rw [show o + j + 0=o + j by omega,show o + j + 1=o + (j + 1) by omega,show o + j + 2=o + (j + 2) by omega]
 omega
theorem I0V {L:List Nat} {o k:Nat} (hk:2≤k):win L o k=win L o (k - 2) + 4294967296 ^ (k - 2) * (L.getD (o + (k - 1)) 0 * 4294967296 + L.getD (o + (k - 2)) 0):=by
 obtain ⟨j,rfl⟩:∃ j,k=j + 2:=⟨k - 2,by omega⟩
 rw [show j + 2 - 2=j by omega,d0h,show j + 2 - 1=j + 1 by omega]
 congr 2
 simp only [win]
 rw [show o + j + 0=o + j by omega,show o + j + 1=o + (j + 1) by omega]
 omega
structure Gs (W low lowV Uw V x u3 top next B:Nat):Prop where
 W0:0 < W
 hlow:low < W
 hlowV:lowV < W
 hU:Uw=low + W * (x * B + u3)
 hV:V=lowV + W * (top * B + next)
 hB:B≤2 * top
 htop:top < B
 hnext:next < B
 hu3:u3 < B
 lt:Uw < V * B
variable {W low lowV Uw V x u3 top next B g rest q:Nat}
theorem Gs.V0 (h:Gs W low lowV Uw V x u3 top next B):0 < V:=by
 rw [h.hV]
 have h1:0 < top:=by have:=h.hB;have:=h.htop;omega
 have h2:0 < B:=by have:=h.htop;omega
 have:=Nat.mul_pos h.W0 (show 0 < top * B + next by have:=Nat.mul_pos h1 h2;omega)
 omega
theorem Gs.V_lt (h:Gs W low lowV Uw V x u3 top next B):V < W * (top * B + next + 1):=by
 rw [h.hV,Nat.mul_add W (top * B + next) 1,Nat.mul_one];have:=h.hlowV;omega
theorem Gs.U_lt (h:Gs W low lowV Uw V x u3 top next B):Uw < W * (x * B + u3 + 1):=by
 rw [h.hU,Nat.mul_add W (x * B + u3) 1,Nat.mul_one];have:=h.hlow;omega
theorem Gs.V_ge (h:Gs W low lowV Uw V x u3 top next B):W * (top * B + next)≤V:=by rw [h.hV];omega
theorem Gs.U_ge (h:Gs W low lowV Uw V x u3 top next B):W * (x * B + u3)≤Uw:=by rw [h.hU];omega
theorem Gs.q_lt (h:Gs W low lowV Uw V x u3 top next B):Uw / V < B:=by
 rw [Nat.div_lt_iff_lt_mul h.V0,Nat.mul_comm];exact h.lt
theorem Gs.q_le (h:Gs W low lowV Uw V x u3 top next B):Uw / V≤x / top:=by
 have h1:0 < top:=by have:=h.hB;have:=h.htop;omega
 rw [Nat.le_div_iff_mul_le h1]
 have h2:=Nat.div_mul_le_self Uw V
 generalize Uw / V=q at *
 have h3:W * (q * (top * B))≤q * V:=by
  calc W * (q * (top * B))≤W * (q * (top * B + next)):=Nat.mul_le_mul_left _ (Nat.mul_le_mul_left _ (by omega))
   _=q * (W * (top * B + next)):=by grind
   _≤q * V:=Nat.mul_le_mul_left _ h.V_ge
 have h4:=h.U_lt
 have h5:q * (top * B) < x * B + u3 + 1:=Nat.lt_of_mul_lt_mul_left (a:=W) (by omega)
 have h6:=h.hu3
 have h7:q * top * B < (x + 1) * B:=by rw [Nat.mul_assoc,Nat.add_mul];omega
 have:=Nat.lt_of_mul_lt_mul_right h7
 omega
theorem Gs.x_lt (h:Gs W low lowV Uw V x u3 top next B):x < top * B + B:=by
 have h1:=h.U_ge
 have h2:=h.lt
 have h3:=h.V_lt
 have hB:0 < B:=by have:=h.htop;omega
 have h4:W * (x * B + u3) < W * ((top * B + next + 1) * B):=by
  have:V * B≤W * (top * B + next + 1) * B:=Nat.mul_le_mul_right _ (by omega)
  rw [Nat.mul_assoc] at this;omega
 have h5:=Nat.lt_of_mul_lt_mul_left h4
 have h6:x * B < (top * B + next + 1) * B:=by omega
 have:=Nat.lt_of_mul_lt_mul_right h6
 have:=h.hnext
 omega
theorem Gs.down (h:Gs W low lowV Uw V x u3 top next B) (hx:g * top + rest=x) (hq:Uw / V≤g) (hc:B≤g ∨ rest * B + u3 < g * next):Uw / V≤g - 1∧0 < g:=by
 have h1:=h.q_lt
 have hB:0 < B:=by have:=h.htop;omega
 rcases hc with hc | hc
 ·omega
 ·have hne:Uw / V ≠ g:=by
   intro he
   have h2:=Nat.div_mul_le_self Uw V
   rw [he] at h2
   have h3:W * (g * (top * B + next))≤g * V:=by
    calc W * (g * (top * B + next))=g * (W * (top * B + next)):=by grind
     _≤g * V:=Nat.mul_le_mul_left _ h.V_ge
   have h4:=h.U_lt
   have h5:g * (top * B + next) < x * B + u3 + 1:=Nat.lt_of_mul_lt_mul_left (a:=W) (by omega)
   rw [← hx,Nat.add_mul,Nat.mul_add,← Nat.mul_assoc] at h5
   omega
  generalize Uw / V=q at *
  omega
theorem Gs.fine (h:Gs W low lowV Uw V x u3 top next B) (hx:g * top + rest=x) (hg:g < B) (hc:g * next≤rest * B + u3):g≤Uw / V + 1:=by
 by_cases hgq:g≤Uw / V + 1
 ·exact hgq
 ·exfalso
  have hgq2:Uw / V + 1≤g - 1:=by generalize Uw / V=q at *;omega
  have h1:Uw < (Uw / V + 1) * V:=by
   have:=Nat.div_add_mod Uw V
   have h2:=Nat.mod_lt Uw h.V0
   rw [Nat.add_mul,Nat.mul_comm (Uw / V)];omega
  have h2:(Uw / V + 1) * V≤(g - 1) * V:=Nat.mul_le_mul_right _ hgq2
  have h3:(g - 1) * V≤(g - 1) * (W * (top * B + next + 1)):=Nat.mul_le_mul_left _ (by have:=h.V_lt;omega)
  have h4:=h.U_ge
  have h5:W * (x * B + u3) < W * ((g - 1) * (top * B + next + 1)):=by
   have:(g - 1) * (W * (top * B + next + 1))=W * ((g - 1) * (top * B + next + 1)):=by grind
   omega
  have h6:=Nat.lt_of_mul_lt_mul_left h5
  obtain ⟨g1,rfl⟩:∃ g1,g=g1 + 1:=⟨g - 1,by generalize Uw / V=q at *;omega⟩
  rw [show g1 + 1 - 1=g1 by omega] at h6
  have h7:(g1 + 1) * (top * B + next)≤x * B + u3:=by
   rw [← hx,Nat.add_mul ((g1 + 1) * top),Nat.mul_add (g1 + 1),← Nat.mul_assoc];omega
  have h8:top * B + next < g1:=by
   rw [Nat.add_mul,Nat.one_mul] at h7
   rw [Nat.mul_add,Nat.mul_one] at h6
   omega
  have h9:B≤top * B:=Nat.le_mul_of_pos_left _ (by have:=h.hB;have:=h.htop;omega)
  omega
theorem F0s {X c P:Nat} (h:Gs W low lowV Uw V x u3 top next B) (h1:Uw / V≤g) (h2:g≤Uw / V + 1) (hs:X + g * V=Uw + c * P) (hX:X < P) (hP:V < P) :
  (c=0→g=Uw / V∧X=Uw % V)∧(c ≠ 0→g=Uw / V + 1∧∀ X' c',X' + c' * P=X + V→X' < P→X' = Uw % V):=by
 have hd:=Nat.div_add_mod Uw V
 have hm:=Nat.mod_lt Uw h.V0
 generalize Uw / V=q at *
 generalize Uw % V=r at *
 refine ⟨fun hc=>?_,fun hc=>?_⟩
 ·subst hc
  rw [Nat.zero_mul,Nat.add_zero] at hs
  by_cases hg:g=q
  ·subst hg;refine ⟨rfl,?_⟩;rw [Nat.mul_comm g V] at hs;omega
  ·have:g=q + 1:=by omega
   subst this
   rw [Nat.add_mul,Nat.one_mul,Nat.mul_comm q V] at hs;omega
 ·have hcP:P≤c * P:=Nat.le_mul_of_pos_left _ (by omega)
  by_cases hg:g=q
  ·subst hg;rw [Nat.mul_comm g V] at hs;omega
  ·have hg:g=q + 1:=by omega
   subst hg
   refine ⟨rfl,fun X' c' h3 h4=>?_⟩
   rw [Nat.add_mul,Nat.one_mul,Nat.mul_comm q V] at hs
   have hc1:c=1:=by
    by_cases hc2:2≤c
    ·have:2 * P≤c * P:=Nat.mul_le_mul_right _ hc2
     omega
    ·omega
   subst hc1
   have hc'1:c' = 1:=by
    by_cases h5:c' = 0
    ·subst h5;omega
    ·by_cases h6:2≤c'
     ·have:2 * P≤c' * P:=Nat.mul_le_mul_right _ h6
      omega
     ·omega
   subst hc'1
   omega
theorem r0t {BB i k n q r V U0:Nat} {L X Q:List Nat} (hBB:BB=4294967296) (hL:L.length=n) (hw:Won L X i (k + 1)) (hn:i + (k + 1)≤n) (hQ:i < Q.length) (hU:U0=a0D (Q.drop (i + 1)) * BB ^ (i + 1) * V + a0D L) (hV:V < BB ^ k) (hlt:a0D L < V * BB ^ (i + 1))
  (hq:win L i (k + 1)=V * q + r) (hr:r < V) (hX:win X i (k + 1)=r) :
  a0D X < V * BB ^ i∧U0=a0D ((Q.set i q).drop i) * BB ^ i * V + a0D X:=by
 obtain ⟨j,rfl⟩:∃ j,n=i + (k + 1) + j:=⟨n - (i + (k + 1)),by omega⟩
 have e1:a0D L=win L 0 i + BB ^ i * (win L i (k + 1) + BB ^ (k + 1) * win L (i + (k + 1)) j):=by
  have h1:=g0t (L:=L) (Nat.le_refl _)
  rw [List.take_length,hL,Nat.add_assoc,d0h,d0h,Nat.zero_add] at h1
  rw [h1,hBB]
 have e2:a0D X=win X 0 i + BB ^ i * (win X i (k + 1) + BB ^ (k + 1) * win X (i + (k + 1)) j):=by
  have h1:=g0t (L:=X) (Nat.le_refl _)
  rw [List.take_length,hw.1,hL,Nat.add_assoc,d0h,d0h,Nat.zero_add] at h1
  rw [h1,hBB]
 have e3:win X 0 i=win L 0 i:=h0T fun j hj=>hw.2.2 _ (by omega)
 have e4:win X (i + (k + 1)) j=win L (i + (k + 1)) j:=h0T fun j hj=>hw.2.2 _ (by omega)
 have hP:0 < BB ^ i:=Nat.pow_pos (by omega)
 have e5:win L (i + (k + 1)) j=0:=by
  by_cases h0:win L (i + (k + 1)) j=0
  ·exact h0
  ·exfalso
   have h1:BB ^ i * BB ^ (k + 1)≤a0D L:=by
    rw [e1]
    have:BB ^ i * BB ^ (k + 1)≤BB ^ i * (win L i (k + 1) + BB ^ (k + 1) * win L (i + (k + 1)) j):=Nat.mul_le_mul_left _ (by
     have:=Nat.le_mul_of_pos_right (BB ^ (k + 1)) (by omega:0 < win L (i + (k + 1)) j);omega)
    omega
   have h2:V * BB ^ (i + 1)≤BB ^ k * BB ^ (i + 1):=Nat.mul_le_mul_right _ (by omega)
   have h3:BB ^ k * BB ^ (i + 1)=BB ^ i * BB ^ (k + 1):=by rw [← Nat.pow_add,← Nat.pow_add];congr 1;omega
   omega
 rw [e5,Nat.mul_zero,Nat.add_zero] at e1
 rw [e3,e4,e5,Nat.mul_zero,Nat.add_zero,hX] at e2
 have hlow:win L 0 i < BB ^ i:=by
  rw [← e3,hBB];exact i0O hw.2.1 0 i
 refine ⟨?_,?_⟩
 ·rw [e2]
  have:BB ^ i * (r + 1)≤BB ^ i * V:=Nat.mul_le_mul_left _ hr
  rw [Nat.mul_add,Nat.mul_one] at this
  rw [Nat.mul_comm V];omega
 ·have h5:=f0W (l:=Q.set i q) (n:=i) (by simpa using hQ)
  rw [List.getD_eq_getElem?_getD,List.getElem?_set_self hQ,Option.getD_some,List.drop_set_of_lt (show i < i + 1 by omega),← hBB] at h5
  rw [hU,e1,e2,hq,h5,Nat.pow_succ]
  grind
end
/- num.divide. -/
section
open Go
set_option maxHeartbeats 4000000
set_option maxRecDepth 20000
variable {fl:Nat} {H G:a0f} {R:a0A} {v w:Value} {a b:List Nat}
theorem m0q {e p o n c:Nat} {cs:List Value} (hb:G.blk p=.row false e cs):elemOk G e (.slice (some ⟨p,o,none⟩) n c)=true:=by
 unfold elemOk;simp only [hb];simp
theorem k0s {p o n cap lo hi:Nat} {x y:Option Value} (hx:bnd 0 x=some lo) (hy:bnd n y=some hi) (h1:lo≤hi) (h2:hi≤n) :
  e0i 1 (.slice (some ⟨p,o,none⟩) n cap) x y none=some (.slice (some ⟨p,o + lo,none⟩) (hi - lo) (if cap=unk then unk else cap - lo)):=by
 unfold e0i;simp only [hx,hy];rw [if_pos ⟨h1,h2⟩];simp
theorem w0z {p o n cap:Nat} {ro:Bool} {L:List Nat} (hb:G.blk p=.row ro a0m (d0b L)) (hok:b0D L) (hL:o + n≤L.length):Lim G (.slice (some ⟨p,o,none⟩) n cap) ((L.drop o).take n):=by
 have hl:((L.drop o).take n).length=n:=by simp;omega
 refine ⟨⟨by simp [hl],.inr ⟨p,o,cap,ro,d0b L,by rw [hl],hb,by simp [hl];omega,?_⟩⟩,fun x hx=>hok x (List.mem_of_mem_drop (List.mem_of_mem_take hx))⟩
 rw [hl,Nat.mul_one];simp [d0b,List.map_take,List.map_drop]
theorem w0F {L:List Nat} {o:Nat}:∀ {n:Nat},o + n≤L.length→a0D ((L.drop o).take n)=win L o n
 | 0,_=>by simp [a0D,win]
 | n + 1,h=>by
  rw [b0h (by simp;omega),w0F (by omega),win]
  simp [List.getD_eq_getElem?_getD]
theorem S0i {b:List Nat} {k n:Nat} (hok:b0D b) (hk:b.length=k + 1) (hn:n≤31) (ht:b.getD k 0 * 2 ^ n < 4294967296):a0D b * 2 ^ n < 4294967296 ^ (k + 1):=by
 have h1:a0D b=win b 0 k + 4294967296 ^ k * b.getD k 0:=by
  rw [← i0z (L:=b) (n:=k + 1) (by omega),win,Nat.zero_add]
 have h2:=i0O hok 0 k
 have h3:(b.getD k 0 + 1) * 2 ^ n≤4294967296:=by
  obtain ⟨m,hm⟩:∃ m,4294967296=m * 2 ^ n:=⟨2 ^ (32 - n),by rw [← Nat.pow_add,show 32 - n + n=32 by omega]⟩
  rw [hm] at ht ⊢
  exact Nat.mul_le_mul_right _ (Nat.lt_of_mul_lt_mul_right ht)
 have h4:a0D b < 4294967296 ^ k * (b.getD k 0 + 1):=by rw [h1,Nat.mul_add,Nat.mul_one];omega
 have hp:0 < 2 ^ n:=Nat.two_pow_pos n
 calc a0D b * 2 ^ n < 4294967296 ^ k * (b.getD k 0 + 1) * 2 ^ n:=Nat.mul_lt_mul_of_pos_right h4 hp
  _=4294967296 ^ k * ((b.getD k 0 + 1) * 2 ^ n):=Nat.mul_assoc ..
  _≤4294967296 ^ k * 4294967296:=Nat.mul_le_mul_left _ h3
  _=4294967296 ^ (k + 1):=(Nat.pow_succ ..).symm
theorem I0T {o:List Nat} {k:Nat} (ho:o.length=k + 1) (h:a0D o < 4294967296 ^ k):a0D (o.take k)=a0D o:=by
 have h1:a0D o=a0D (o.take k) + 4294967296 ^ k * o.getD k 0:=by
  rw [← b0h (by omega),List.take_of_length_le (by omega)]
 have:o.getD k 0=0:=by
  by_cases h0:o.getD k 0=0
  ·exact h0
  ·have:=Nat.le_mul_of_pos_right (4294967296 ^ k) (by omega:0 < o.getD k 0);omega
 rw [this] at h1;omega
theorem S0h {b:List Nat} {k n:Nat} (hk:b.length=k + 1) (ht:2147483648≤b.getD k 0 * 2 ^ n):2147483648 * 4294967296 ^ k≤a0D b * 2 ^ n:=by
 have h1:a0D b=win b 0 k + 4294967296 ^ k * b.getD k 0:=by
  rw [← i0z (L:=b) (n:=k + 1) (by omega),win,Nat.zero_add]
 rw [h1,Nat.add_mul,Nat.mul_assoc,Nat.mul_comm 2147483648]
 have:=Nat.mul_le_mul_left (4294967296 ^ k) ht
 omega
theorem G0d {x y la k n B:Nat} (h1:x < B ^ la) (hn:2 ^ n≤2147483648) (h2:2147483648 * B ^ k≤y):x * 2 ^ n < y * B ^ (la - k) ∨ la < k:=by
 by_cases hk:k≤la
 ·left
  have hp:0 < 2 ^ n:=Nat.two_pow_pos n
  calc x * 2 ^ n < B ^ la * 2 ^ n:=Nat.mul_lt_mul_of_pos_right h1 hp
   _≤B ^ la * 2147483648:=Nat.mul_le_mul_left _ hn
   _=2147483648 * B ^ k * B ^ (la - k):=by rw [Nat.mul_assoc,← Nat.pow_add,show k + (la - k)=la by omega,Nat.mul_comm]
   _≤y * B ^ (la - k):=Nat.mul_le_mul_right _ h2
 ·right;omega
theorem Won.trans {L X Y:List Nat} {o n:Nat} (h:Won L X o n) (k:Won X Y o n):Won L Y o n:=⟨k.1.trans h.1,k.2.1,fun j hj=>(k.2.2 j hj).trans (h.2.2 j hj)⟩
theorem R0X {tag r:Nat} (h:r < 4294967296):d0y tag .shl (.int .u64 (r:Int)) (.int .u64 32)=some (.int .u64 ((r * 4294967296:Nat):Int)):=by
 have h1:=F0j (tag:=tag) (n:=r) (s:=32) (k':=.u64) (by omega)
 have h2:r * 2 ^ 32 % 18446744073709551616=r * 4294967296:=by omega
 rw [h2] at h1;exact h1
theorem W0m {tag x y:Nat} (hx:x < 4294967296) (hy:y < 4294967296):d0y tag .or (.int .u64 ((x * 4294967296:Nat):Int)) (.int .u64 (y:Int))=some (.int .u64 ((x * 4294967296 + y:Nat):Int)):=by
 rw [R0k (by omega) (by omega),r0F hy]
theorem t0D:∀ N:Nat,f0e [.int .u32 0] N=d0b (List.replicate N 0)
 | 0=>rfl
 | n + 1=>by rw [f0e,t0D n];rfl
theorem j0X (ha:Lim H v a) (hb:Lim H w b) (hf:fl≤H.size) (hna:a.length < 1073741823) (h2:2≤b.length) (hle:b.length≤a.length) (hb0:b.getD (b.length - 1) 0 ≠ 0) :
  a0P env fl w0h [v,w] H (fun r H'=>(∃ q o q' o',r=.tuple #[q,q']∧Lim H' q o∧a0D o=a0D a / a0D b∧o.length≤a.length∧Lim H' q' o'∧a0D o' = a0D a % a0D b∧o'.length≤a.length)∧Ext H H') R:=by
 refine a0l V0w hf (h:=?_)
 intro ρ h0
 simp only [I0m]
 obtain ⟨k,hk⟩:∃ k,b.length=k + 1:=⟨b.length - 1,by omega⟩
 have hk1:1≤k:=by omega
 rw [show b.length - 1=k by omega] at hb0
 have htl:=e0r hb.ok k
 have hial:=hb.ia (k:=.i64) (show k < b.length by omega)
 have hldl:=hb.load (show k < b.length by omega) (Ext.refl H)
 have htlt:=@S0i b k
 have htge:=@S0h b k
 generalize htp:b.getD k 0=tp at *
 have e0:IntKind.i64.wrap ((b.length:Int) - 1)=((k:Nat):Int):=by rw [a0L (by omega) (by omega)];omega
 simp [C0v,C0w,h0]
 refine b0Y (fun c t G=>∃ n:Nat,G=H∧n + c=31∧t.length=147∧get t 0=v∧get t 1=w∧get t 6=.int .i64 ((n:Nat):Int)∧tp * 2 ^ n < 4294967296)
  (fun t G=>∃ n:Nat,G=H∧n≤31∧t.length=147∧get t 0=v∧get t 1=w∧get t 6=.int .i64 ((n:Nat):Int)∧tp * 2 ^ n < 4294967296∧2147483648≤tp * 2 ^ n) 31 ?_ ?_ ?_
 ·exact ⟨0,rfl,by omega,by simp,by simp [h0],by simp [h0],by simp,by omega⟩
 ·clear h0 ρ
  rintro c t G ⟨n,rfl,hn,ht,g0,g1,g6,hy⟩
  obtain ⟨ρ,rfl⟩:=toT ht
  simp only [b0Z,Nat.reduceLT] at g0 g1 g6
  have hy2:tp * 2 ^ (n + 1)=2 * (tp * 2 ^ n):=by rw [Nat.pow_succ,← Nat.mul_assoc];omega
  have hy3:2 ^ n≤tp * 2 ^ n:=Nat.le_mul_of_pos_left _ (by omega)
  have hy4:n=31→2147483648≤tp * 2 ^ n:=by rintro rfl;exact hy3
  have s1:=O0N (tag:=0) (n:=tp) (s:=n) (k':=.i64) (by omega)
  rw [Nat.mod_eq_of_lt hy] at s1
  generalize hyd:tp * 2 ^ n=y at *
  have s2:d0y 0 .shr (.int .u32 (y:Int)) (.int .u64 31)=some (.int .u32 ((y / 2147483648:Nat):Int)):=O0P (tag:=0) (n:=y) (s:=31) (k':=.u64) (by omega)
  have e9:IntKind.i64.wrap ((n:Int) + 1)=((n + 1:Nat):Int):=by rw [a0L (by omega) (by omega)];omega
  by_cases hd:y / 2147483648=0
  ·have hdb:((y / 2147483648:Nat) == 0)=true:=by simp [hd]
   simp [-Int.natCast_ediv,-Int.natCast_add,-beq_iff_eq,q0g,q0h,g0,g1,g6,hb.slen,e0,hial,hldl,s1,s2,hdb,e9]
   exact ⟨c - 1,by omega,n + 1,by omega,rfl,by rw [hy2];omega⟩
  ·have hdb:((y / 2147483648:Nat) == 0)=false:=by simp [hd]
   simp [-Int.natCast_ediv,-Int.natCast_add,-beq_iff_eq,q0g,q0h,g0,g1,g6,hb.slen,e0,hial,hldl,s1,s2,hdb,e9]
   exact ⟨n,by omega,rfl,by rw [hyd];exact hy,by rw [hyd];omega⟩
 ·clear h0 ρ
  rintro t G ⟨n,rfl,hn,ht,g0,g1,g6,hy,hy2⟩
  obtain ⟨ρ,rfl⟩:=toT ht
  simp only [b0Z,Nat.reduceLT] at g0 g1 g6
  refine a0v ?_
  simp [C0x,g0,g1,g6]
  refine (f0A ha (Nat.le_refl _) (by omega) (by omega)).mono ?_
  rintro u G1 ⟨⟨L0,hu,hok0,hv0,hl0⟩,hx1⟩
  try simp [g0,g1,g6]
  refine (f0A (hb.mono hx1) hx1.1 (by omega) (by omega)).mono ?_
  rintro u2 G2 ⟨⟨L1,hu1,hok1,hv1,hl1⟩,hx2⟩
  have hx:=hx1.trans hx2
  have hxs:=hx.1
  have hx1s:=hx1.1
  obtain ⟨hul,⟨_,hbad⟩ | ⟨P,capu,rfl,hP,hfP⟩⟩:=hu.mono hx2
  ·omega
  obtain ⟨hul1,⟨_,hbad⟩ | ⟨Q,capv,rfl,hQ,hfQ⟩⟩:=hu1
  ·omega
  have hPl:P < G1.size:=by
   obtain ⟨_,⟨hbad,_⟩ | ⟨P',cap',he,hP',_⟩⟩:=hu
   ·cases hbad
   ·simp at he;rw [he.1];exact a0k hP'
  have hQl:=a0k hQ
  -- the divisor
  have hVlt:=htlt hb.ok hk hn hy
  have hVge:=htge hk hy2
  have hVt:=I0T (o:=L1) (k:=b.length) hl1 (by rw [hv1,hk];exact hVlt)
  have hlt0:=G0d (x:=a0D a) (y:=a0D b * 2 ^ n) (la:=a.length) (k:=k) (n:=n) (B:=4294967296) (f0X a ha.ok) (Nat.pow_le_pow_right (n:=2) (by omega) hn) hVge
  have hlt0:a0D a * 2 ^ n < a0D b * 2 ^ n * 4294967296 ^ (a.length - k):=by rcases hlt0 with h | h;exact h;omega
  have hpn:0 < 2 ^ n:=Nat.two_pow_pos n
  have hqv:a0D a / a0D b=a0D a * 2 ^ n / (a0D b * 2 ^ n):=(Nat.mul_div_mul_right _ _ hpn).symm
  have hrv:a0D a % a0D b=a0D a * 2 ^ n % (a0D b * 2 ^ n) / 2 ^ n:=by rw [Nat.mul_mod_mul_right,Nat.mul_div_cancel _ hpn]
  rw [hv1] at hVt
  rw [hqv,hrv]
  generalize a0D b * 2 ^ n=V at *
  generalize a0D a * 2 ^ n=U0 at *
  clear hqv hrv htlt htge hial hldl e0 htp hb0 htl hy hy2 hul hul1 hpn hu hx1 hx2
  obtain ⟨j,hj⟩:∃ j,k=j + 1:=⟨k - 1,by omega⟩
  generalize hK:b.length=K at *
  have hLv:((L1.drop 0).take K)=L1.take K:=by rw [List.drop_zero]
  have hsl:=hb.slen
  rw [hK] at hsl
  have hslv:=k0s (p:=Q) (o:=0) (cap:=capv) (n:=K + 1) (x:=none) (y:=some (.int .i64 (K:Int))) (lo:=0) (hi:=K) rfl (by simp) (by omega) (by omega)
  rw [Nat.add_zero,Nat.sub_zero,Nat.sub_zero] at hslv
  generalize (if capv=unk then unk else capv)=capw at hslv
  have hw1:IntKind.i64.wrap (((a.length + 1:Nat):Int) - (K:Int))=((a.length - k:Nat):Int):=by rw [a0L (by omega) (by omega)];omega
  have hmn:o0N true (.int .i64 ((a.length - k:Nat):Int)) [.int .i64 0]=some (.int .i64 ((a.length - k:Nat):Int)):=by
   simp only [o0N,mn2];rw [if_pos trivial,if_neg (by omega)]
  have hm:=f0p (bytes:=4) (k:=.i64) (k':=.i64) (l:=a.length - k) (c:=a.length - k) (Nat.le_refl _) (by omega) (by omega)
  generalize hN:a.length - k=N at *
  simp [-Int.natCast_add,hsl,m0q hQ,hslv]
  simp [-Int.natCast_add,C0y,C0z,j0b,hw1,hmn,hm]
  generalize hPQ:G2.size=PQ
  generalize hG3:G2.push (.row false a0m (f0e [.int .u32 0] N))=G3
  have hx3:Ext G2 G3:=by rw [← hG3];exact (Ext.refl _).push
  have hP3:=hx3.blk hP
  have hQ3:=hx3.blk hQ
  have hPQ3:a0f.blk G3 PQ=.row false a0m (d0b (List.replicate N 0)):=by rw [← hG3,← hPQ,a0y,t0D]
  replace hx:=hx.trans hx3
  have hv3:Lim G3 (.slice (some ⟨Q,0,none⟩) K capw) (L1.take K):=by rw [← hLv];exact w0z hQ3 hok1 (by omega)
  have hLl:(L1.take K).length=K:=by simp;omega
  have hok2:=hv3.ok
  generalize L1.take K=Vl at *
  clear hG3 hx3 hP hQ hQ3 hok1 hslv hLv hv1 hl1 hm hmn hw1 L1
  generalize hSU:Value.slice (some ⟨P,0,none⟩) (a.length + 1) capu=SU
  generalize hSV:Value.slice (some ⟨Q,0,none⟩) K capw=SV at *
  generalize hSQ:Value.slice (some ⟨PQ,0,none⟩) N N=SQ
  -- its highest limbs
  have hia1:=hv3.ia (k:=.i64) (show k < Vl.length by omega)
  have hia2:=hv3.ia (k:=.i64) (show j < Vl.length by omega)
  have hld1:=hv3.load (show k < Vl.length by omega) (Ext.refl _)
  have hld2:=hv3.load (show j < Vl.length by omega) (Ext.refl _)
  have hV1:V=win Vl 0 k + 4294967296 ^ k * Vl.getD k 0:=by rw [← hVt,← i0z (L:=Vl) (n:=k + 1) (by omega),win,Nat.zero_add]
  have hV2:V=win Vl 0 j + 4294967296 ^ j * (Vl.getD k 0 * 4294967296 + Vl.getD j 0):=by
   rw [← hVt,← i0z (L:=Vl) (n:=k + 1) (by omega),I0V (by omega),show k + 1 - 1=k by omega,show k + 1 - 2=j by omega,Nat.zero_add,Nat.zero_add]
  have hTt:=e0r hok2 k
  have hTn:=e0r hok2 j
  have hTg:2147483648≤Vl.getD k 0:=by
   by_cases h:2147483648≤Vl.getD k 0
   ·exact h
   ·exfalso
    have h3:=i0O hok2 0 k
    have:4294967296 ^ k * (Vl.getD k 0 + 1)≤4294967296 ^ k * 2147483648:=Nat.mul_le_mul_left _ (by omega)
    rw [Nat.mul_add,Nat.mul_one] at this
    rw [Nat.mul_comm] at hVge
    omega
  clear hV1
  generalize Vl.getD k 0=top at *
  generalize Vl.getD j 0=next at *
  have et:IntKind.u64.wrap (top:Int)=(top:Int):=by rw [a0J];omega
  have en:IntKind.u64.wrap (next:Int)=(next:Int):=by rw [a0J];omega
  have ew1:IntKind.i64.wrap ((K:Int) - 1)=(k:Int):=by rw [a0L (by omega) (by omega)];omega
  have ew2:IntKind.i64.wrap ((K:Int) - 2)=(j:Int):=by rw [a0L (by omega) (by omega)];omega
  have ew3:IntKind.i64.wrap (((a.length + 1:Nat):Int) - (K:Int))=(N:Int):=by rw [a0L (by omega) (by omega)];omega
  have ew4:IntKind.i64.wrap ((N:Int) - 1)=(N:Int) - 1:=a0L (by omega) (by omega)
  have hslu:j0b SU=some (.int .i64 ((a.length + 1:Nat):Int)):=by rw [← hSU];rfl
  have hslPQ:slB SV ≠ some PQ:=by rw [← hSV];simp [slB];omega
  have hslP:slB SV ≠ some P:=by rw [← hSV];simp [slB];omega
  refine a0v ?_
  simp [-Int.natCast_add,C0A,C0B,hv3.slen,ew1,ew2,hia1,hia2,hld1,hld2,et,en,hLl,hslu,ew3,ew4,g6]
  clear hia1 hia2 hld1 hld2 et en ew1 ew2 ew3 ew4 hslu hsl
  refine b0Y (fun c t G'=>∃ L Qs,t.length=147∧get t 4=SQ∧get t 6=.int .i64 (n:Int)∧get t 7=SU∧get t 8=SV∧get t 9=.int .i64 (K:Int)∧get t 10=.int .u64 (top:Int)∧get t 11=.int .u64 (next:Int)∧get t 12=.int .i64 ((c:Int) - 1) ∧
    Ext G G'∧Lim G' SV Vl∧a0f.blk G' P=.row false a0m (d0b L)∧a0f.blk G' PQ=.row false a0m (d0b Qs)∧L.length=a.length + 1∧b0D L∧Qs.length=N∧b0D Qs∧c≤N∧U0=a0D (Qs.drop c) * 4294967296 ^ c * V + a0D L∧a0D L < V * 4294967296 ^ c)
   (fun t G'=>∃ L Qs,t.length=147∧get t 4=SQ∧get t 6=.int .i64 (n:Int)∧get t 7=SU∧get t 9=.int .i64 (K:Int) ∧
    Ext G G'∧a0f.blk G' P=.row false a0m (d0b L)∧a0f.blk G' PQ=.row false a0m (d0b Qs)∧L.length=a.length + 1∧b0D L∧Qs.length=N∧b0D Qs∧U0=a0D Qs * V + a0D L∧a0D L < V) N ?_ ?_ ?_
  ·refine ⟨L0,List.replicate N 0,by simp,by simp [hSQ],by simp [g6],by simp [hSU],by simp,by simp,by simp,by simp,by simp,hx,hv3,hP3,hPQ3,hl0,hok0,by simp,fun z hz=>by rw [List.mem_replicate] at hz;omega,Nat.le_refl _,?_,by rw [hv0];exact hlt0⟩
   rw [List.drop_eq_nil_of_le (by simp),hv0];simp [a0D]
  ·clear hP3 hPQ3 hv0 hl0 hok0 L0 g0 g1 g6 ht ρ hx hv3 G3
   rintro c t G3 ⟨L,Qs,ht,g4,g6,g7,g8,g9,g10,g11,g12,hx,hv3,hP,hPQb,hLlen,hLok,hQlen,hQok,hcN,hU,hlt⟩
   obtain ⟨ρ,rfl⟩:=toT ht
   simp only [b0Z,Nat.reduceLT] at g4 g6 g7 g8 g9 g10 g11 g12
   by_cases hc0:c=0
   ·subst hc0
    simp [-Int.natCast_add,q0i,g4,g6,g7,g8,g9,g10,g11,g12]
    exact ⟨hx,L,hP,Qs,hPQb,hLlen,hLok,hQlen,hQok,by simpa using hU,by simpa using hlt⟩
   ·obtain ⟨i,rfl⟩:∃ i,c=i + 1:=⟨c - 1,by omega⟩
    have ec:(((i + 1:Nat):Int) - 1)=(i:Int):=by omega
    rw [ec] at g12
    -- places
    obtain ⟨iK,hiK⟩:∃ iK,iK=i + K:=⟨_,rfl⟩
    have ew1:IntKind.i64.wrap ((i:Int) + (K:Int))=(iK:Int):=by rw [a0L (by omega) (by omega)];omega
    have ew2:IntKind.i64.wrap ((iK:Int) - 1)=((i + k:Nat):Int):=by rw [a0L (by omega) (by omega)];omega
    have ew3:IntKind.i64.wrap ((iK:Int) - 2)=((i + j:Nat):Int):=by rw [a0L (by omega) (by omega)];omega
    have ew4:IntKind.i64.wrap ((iK:Int) + 1)=((iK + 1:Nat):Int):=by rw [a0L (by omega) (by omega)];omega
    have ew5:IntKind.i64.wrap ((i:Int) - 1)=(i:Int) - 1:=a0L (by omega) (by omega)
    obtain ⟨hi1,hr1⟩:=j0Z (k:=.i64) (cap:=capu) (o:=0) (n:=a.length + 1) hP (by omega) (show iK < a.length + 1 by omega)
    obtain ⟨hi2,hr2⟩:=j0Z (k:=.i64) (cap:=capu) (o:=0) (n:=a.length + 1) hP (by omega) (show i + k < a.length + 1 by omega)
    obtain ⟨hi3,hr3⟩:=j0Z (k:=.i64) (cap:=capu) (o:=0) (n:=a.length + 1) hP (by omega) (show i + j < a.length + 1 by omega)
    rw [hSU,Nat.zero_add] at hi1 hi2 hi3
    rw [Nat.zero_add] at hr1 hr2 hr3
    have hA1:=e0r hLok iK
    have hA2:=e0r hLok (i + k)
    have hA3:=e0r hLok (i + j)
    -- the window
    have hwin:=P0h (L:=L) (o:=i) (k:=K) (by omega)
    rw [show K - 2=j by omega,show K - 1=k by omega,← hiK] at hwin
    have hUw:win L i (K + 1) < V * 4294967296:=by
     have h1:=g0t (L:=L) (Nat.le_refl _)
     rw [List.take_length,hLlen,show a.length + 1=i + ((K + 1) + (a.length - i - K)) by omega,d0h,d0h,Nat.zero_add] at h1
     have h2:4294967296 ^ i * win L i (K + 1) < 4294967296 ^ i * (V * 4294967296):=by
      rw [Nat.pow_succ,← Nat.mul_assoc,Nat.mul_right_comm] at hlt
      rw [Nat.mul_add] at h1
      have:V * 4294967296 * 4294967296 ^ i=4294967296 ^ i * (V * 4294967296):=Nat.mul_comm _ _
      omega
     exact Nat.lt_of_mul_lt_mul_left h2
    generalize L.getD iK 0=A1 at hA1 hr1 hwin
    generalize L.getD (i + k) 0=A2 at hA2 hr2 hwin
    generalize L.getD (i + j) 0=A3 at hA3 hr3 hwin
    obtain ⟨x,hX⟩:∃ x,x=A1 * 4294967296 + A2:=⟨_,rfl⟩
    rw [← hX] at hwin
    have gs:Gs (4294967296 ^ j) (win L i j) (win Vl 0 j) (win L i (K + 1)) V x A3 top next 4294967296 :=
     ⟨Nat.pow_pos (by omega),i0O hLok i j,i0O hok2 0 j,hwin,hV2,by omega,hTt,hTn,hA3,hUw⟩
    clear hwin
    have eA1:IntKind.u64.wrap (A1:Int)=(A1:Int):=by rw [a0J];omega
    have eA2:IntKind.u64.wrap (A2:Int)=(A2:Int):=by rw [a0J];omega
    have eA3:IntKind.u64.wrap (A3:Int)=(A3:Int):=by rw [a0J];omega
    have s1:=R0X (tag:=0) hA1
    have s2:=W0m (tag:=0) hA1 hA2
    have hxl:x < 18446744073709551616:=by omega
    have hqle:=gs.q_le
    have hxlt:=gs.x_lt
    rw [← hX] at s2
    have s3:=R0r (tag:=0) (a:=x) (b:=top) hxl (by omega)
    have s4:=R0P (tag:=0) (a:=x) (b:=top) (by omega)
    have hgr:x / top * top + x % top=x:=Nat.div_add_mod' x top
    have hrt:=Nat.mod_lt x (show 0 < top by omega)
    have hgB:x / top≤4294967297:=by
     have:x / top < 4294967298:=by rw [Nat.div_lt_iff_lt_mul (by omega)];omega
     omega
    have hic:(i:Int) ≥ 0:=by omega
    simp [-Int.natCast_add,-Int.natCast_mul,-Int.natCast_ediv,-Int.natCast_emod,q0i,g4,g6,g7,g8,g9,g10,g11,g12,hic]
    refine a0v ?_
    simp [-Int.natCast_add,-Int.natCast_mul,-Int.natCast_ediv,-Int.natCast_emod,t0k,g4,g6,g7,g8,g9,g10,g11,g12,ew1,ew2,hi1,hi2,hr1,hr2,eA1,eA2,s1,s2]
    refine a0v ?_
    simp [-Int.natCast_add,-Int.natCast_mul,-Int.natCast_ediv,-Int.natCast_emod,t0l,g4,g6,g7,g8,g9,g10,g11,g12,s3,s4]
    clear s1 s2 s3 s4
    generalize x / top=gq at hgr hgB hqle ⊢
    generalize x % top=rr at hgr hrt ⊢
    have hslice:∃ cap',e0i 1 SU (some (.int .i64 (i:Int))) (some (.int .i64 ((iK + 1:Nat):Int))) none=some (.slice (some ⟨P,i,none⟩) (K + 1) cap'):=by
     rw [← hSU,k0s (lo:=i) (hi:=iK + 1) (by simp) (M0Z (n:=iK + 1)) (by omega) (by omega),Nat.zero_add,show iK + 1 - i=K + 1 by omega]
     exact ⟨_,rfl⟩
    obtain ⟨capt,hslice⟩:=hslice
    have helem:∀ (G':a0f) (cs:List Value),a0f.blk G' P=.row false a0m cs→elemOk G' a0m SU=true:=fun G' cs h=>by rw [← hSU];exact m0q h
    refine b0Y (fun c t G'=>∃ g rest:Nat,c=g∧G' = G3∧t.length=147∧get t 4=SQ∧get t 6=.int .i64 (n:Int)∧get t 7=SU∧get t 8=SV∧get t 9=.int .i64 (K:Int)∧get t 10=.int .u64 (top:Int)∧get t 11=.int .u64 (next:Int)∧get t 12=.int .i64 (i:Int)∧get t 14=.int .u64 (g:Int)∧get t 15=.int .u64 (rest:Int) ∧
      g * top + rest=x∧win L i (K + 1) / V≤g∧g≤4294967297∧rest < 4294967296)
     (fun t G'=>∃ g rest:Nat,G' = G3∧t.length=147∧get t 4=SQ∧get t 6=.int .i64 (n:Int)∧get t 7=SU∧get t 8=SV∧get t 9=.int .i64 (K:Int)∧get t 10=.int .u64 (top:Int)∧get t 11=.int .u64 (next:Int)∧get t 12=.int .i64 (i:Int)∧get t 14=.int .u64 (g:Int) ∧
      g * top + rest=x∧win L i (K + 1) / V≤g∧g < 4294967296∧g * next≤rest * 4294967296 + A3) gq ?_ ?_ ?_
    ·exact ⟨gq,rr,rfl,rfl,by simp,by simp [g4],by simp [g6],by simp [g7],by simp [g8],by simp [g9],by simp [g10],by simp [g11],by simp [g12],by simp,by simp,hgr,hqle,hgB,by omega⟩
    ·clear g4 g6 g7 g8 g9 g10 g11 g12 ht ρ
     rintro c t G' ⟨g,rest,rfl,rfl,ht,g4,g6,g7,g8,g9,g10,g11,g12,g14,g15,hgx,hq,hgl,hrl⟩
     obtain ⟨ρ,rfl⟩:=toT ht
     simp only [b0Z,Nat.reduceLT] at g4 g6 g7 g8 g9 g10 g11 g12 g14 g15
     obtain ⟨rt,hrt2⟩:∃ rt,rt=rest + top:=⟨_,rfl⟩
     have er:IntKind.u64.wrap ((rest:Int) + (top:Int))=(rt:Int):=by rw [a0J];omega
     by_cases hcB:4294967296≤c
     ·have hcB2:(4294967296:Int)≤(c:Int):=by omega
      have hcase:4294967296≤c ∨ rest * 4294967296 + A3 < c * next:=.inl hcB
      have hcs:(c:Int) ≥ 4294967296:=hcB2
      simp (config:={maxSteps:=4000000}) [-Int.natCast_add,-Int.natCast_mul,j0l,g4,g6,g7,g8,g9,g10,g11,g12,g14,g15,hcB,hcB2]
      obtain ⟨hq',hg0⟩:=gs.down hgx hq hcase
      obtain ⟨g',rfl⟩:∃ g',c=g' + 1:=⟨c - 1,by omega⟩
      rw [Nat.add_sub_cancel] at hq'
      have eg:IntKind.u64.wrap (((g' + 1:Nat):Int) - 1)=(g':Int):=by rw [a0J];omega
      have hgx':g' * top + rt=x:=by rw [← hgx,hrt2,Nat.add_mul,Nat.one_mul];omega
      by_cases hbr:4294967296≤rt
      ·have hbr2:(4294967296:Int)≤(rt:Int):=by omega
       simp [-Int.natCast_add,-Int.natCast_mul,hcs,h0G,h0H,h0I,g4,g6,g7,g8,g9,g10,g11,g12,g14,g15,eg,er,hbr,hbr2]
       have hgl':g' < 4294967296:=by
        by_cases h:g' = 4294967296
        ·subst h;rw [Nat.mul_comm] at hgx';omega
        ·omega
       refine ⟨g',rfl,rt,hgx',hq',hgl',?_⟩
       have h1:g' * next≤4294967295 * 4294967295:=Nat.mul_le_mul (by omega) (by omega)
       omega
      ·have hbr2:¬ (4294967296:Int)≤(rt:Int):=by omega
       simp [-Int.natCast_add,-Int.natCast_mul,hcs,h0G,h0H,h0I,g4,g6,g7,g8,g9,g10,g11,g12,g14,g15,eg,er,hbr,hbr2]
       exact ⟨g',by omega,rfl,rt,rfl,hgx',hq',by omega,by omega⟩
     ·have hcB2:¬ (4294967296:Int)≤(c:Int):=by omega
      have hcn:c * next≤4294967295 * 4294967295:=Nat.mul_le_mul (by omega) (by omega)
      obtain ⟨cn,hcn2⟩:∃ cn,cn=c * next:=⟨_,rfl⟩
      have em:IntKind.u64.wrap ((c:Int) * (next:Int))=(cn:Int):=by rw [a0J,← Int.natCast_mul,← hcn2];omega
      have s1:=R0X (tag:=0) hrl
      have s2:=W0m (tag:=0) hrl hA3
      obtain ⟨rA,hrA⟩:∃ rA,rA=rest * 4294967296 + A3:=⟨_,rfl⟩
      rw [← hrA] at s2
      by_cases hgt:rA < cn
      ·have hcase:4294967296≤c ∨ rest * 4294967296 + A3 < c * next:=.inr (by rw [← hrA,← hcn2];exact hgt)
       have hcs:rA < cn:=hgt
       simp (config:={maxSteps:=4000000}) [-Int.natCast_add,-Int.natCast_mul,j0l,g4,g6,g7,g8,g9,g10,g11,g12,g14,g15,hcB,hcB2,ew1,ew3,hi3,hr3,eA3,em,s1,s2,hgt]
       obtain ⟨hq',hg0⟩:=gs.down hgx hq hcase
       obtain ⟨g',rfl⟩:∃ g',c=g' + 1:=⟨c - 1,by omega⟩
       rw [Nat.add_sub_cancel] at hq'
       have eg:IntKind.u64.wrap (((g' + 1:Nat):Int) - 1)=(g':Int):=by rw [a0J];omega
       have hgx':g' * top + rt=x:=by rw [← hgx,hrt2,Nat.add_mul,Nat.one_mul];omega
       by_cases hbr:4294967296≤rt
       ·have hbr2:(4294967296:Int)≤(rt:Int):=by omega
        simp [-Int.natCast_add,-Int.natCast_mul,hcs,h0G,h0H,h0I,g4,g6,g7,g8,g9,g10,g11,g12,g14,g15,eg,er,hbr,hbr2]
        have hgl':g' < 4294967296:=by
         by_cases h:g' = 4294967296
         ·subst h;rw [Nat.mul_comm] at hgx';omega
         ·omega
        refine ⟨g',rfl,rt,hgx',hq',hgl',?_⟩
        have h1:g' * next≤4294967295 * 4294967295:=Nat.mul_le_mul (by omega) (by omega)
        omega
       ·have hbr2:¬ (4294967296:Int)≤(rt:Int):=by omega
        simp [-Int.natCast_add,-Int.natCast_mul,hcs,h0G,h0H,h0I,g4,g6,g7,g8,g9,g10,g11,g12,g14,g15,eg,er,hbr,hbr2]
        exact ⟨g',by omega,rfl,rt,rfl,hgx',hq',by omega,by omega⟩
      ·simp (config:={maxSteps:=4000000}) [-Int.natCast_add,-Int.natCast_mul,j0l,g4,g6,g7,g8,g9,g10,g11,g12,g14,g15,hcB,hcB2,ew1,ew3,hi3,hr3,eA3,em,s1,s2,hgt]
       exact ⟨c,rfl,rest,hgx,hq,by omega,by rw [← hrA,← hcn2];omega⟩
    ·clear g4 g6 g7 g8 g9 g10 g11 g12 ht ρ hgr hgB hqle hrt
     rintro t G' ⟨gg,rest,rfl,ht,g4,g6,g7,g8,g9,g10,g11,g12,g14,hgx,hq,hgl,hgn⟩
     obtain ⟨ρ,rfl⟩:=toT ht
     simp only [b0Z,Nat.reduceLT] at g4 g6 g7 g8 g9 g10 g11 g12 g14
     have hq1:=gs.fine hgx hgl hgn
     have hVK:V < 4294967296 ^ (K + 1):=by
      rw [hk,Nat.pow_succ];omega
     simp [-Int.natCast_add,t0m,g4,g6,g7,g8,g9,g10,g11,g12,g14,ew1,ew4,helem _ _ hP,hslice]
     refine (m0o (n:=K + 1) hP hLok (by omega) hv3 hslP hfP hgl (by omega) (by omega)).mono ?_
     rintro _ G4 ⟨X0,cc,rfl,hXb0,hxb,hwon0,hs⟩
     rw [hVt] at hs
     obtain ⟨hc1,hc2⟩:=F0s gs hq hq1 hs (i0O hwon0.2.1 i (K + 1)) hVK
     have hx4:=hxb.ext hfP hx
     have hv4:=hv3.off hxb hslP
     have hPQ4:a0f.blk G4 PQ=.row false a0m (d0b Qs):=by rw [hxb.2 PQ (a0k hPQb) (by simp;omega)];exact hPQb
     have hml:=Nat.mod_lt (win L i (K + 1)) gs.V0
     have hdm0:=(Nat.div_add_mod (win L i (K + 1)) V).symm
     by_cases hcc:cc=0
     ·obtain ⟨hg1,hwin⟩:=hc1 hcc
      obtain ⟨X,hXe⟩:∃ X,X=X0:=⟨_,rfl⟩
      obtain ⟨g,hge⟩:∃ g,g=gg:=⟨_,rfl⟩
      subst hXe hge
      have hXb:=hXb0
      have hwon:=hwon0
      have hdm:win L i (K + 1)=V * g + win L i (K + 1) % V:=by rw [hg1];exact hdm0
      simp [-Int.natCast_add,hcc,m0X,g4,g6,g7,g8,g9,g10,g11,g12,g14]
      refine (a0r hx4.1).mono ?_
      rintro _ G6 ⟨rfl,hx6⟩
      have hPQ6:=hx6.blk hPQ4
      have hP6:=hx6.blk hXb
      have hPQl:=a0k hPQ6
      obtain ⟨hj1,_⟩:=j0Z (k:=.i64) (cap:=N) (o:=0) (n:=N) hPQ6 (by omega) (show i < N by omega)
      rw [hSQ,Nat.zero_add] at hj1
      have hile:i + 1≤Qs.length:=by omega
      have hfPQ:G.size≤PQ:=by omega
      rw [Nat.mod_eq_of_lt hgl]
      obtain ⟨hd1,hd2⟩:=r0t (BB:=4294967296) (n:=a.length + 1) (q:=g) rfl hLlen hwon (by omega) (show i < Qs.length by omega) hU (by rw [hk];exact hVlt) hlt hdm hml hwin
      simp [-Int.natCast_add,m0Y,hj1,hPQ6,hile,hfPQ,g4,g6,g7,g8,g9,g10,g11,g12,ew5]
      refine ⟨i,by omega,rfl,(hx4.trans hx6).set hfPQ,(hv4.mono hx6).off d0G.refl.set hslPQ,X,by rw [b0g (by omega)];exact hP6,Qs.set i g,by rw [a0R hPQl,d0x],by rw [hwon.1,hLlen],hwon.2.1,by simpa using hQlen,d0U hQok hgl,by omega,hd2,hd1⟩
     ·obtain ⟨hg1,hgive⟩:=hc2 hcc
      obtain ⟨g,rfl⟩:∃ g,gg=g + 1:=⟨win L i (K + 1) / V,hg1⟩
      have hg2:g=win L i (K + 1) / V:=Nat.succ.inj hg1
      have eg:IntKind.u64.wrap (((g + 1:Nat):Int) - 1)=(g:Int):=by rw [a0J];omega
      have hdm:win L i (K + 1)=V * g + win L i (K + 1) % V:=by rw [hg2];exact hdm0
      simp [-Int.natCast_add,hcc,t0n,t0o,g4,g6,g7,g8,g9,g10,g11,g12,g14,eg,ew1,ew4,helem _ _ hXb0,hslice]
      refine (m0l (n:=K + 1) hXb0 hwon0.2.1 (by rw [hwon0.1];omega) hv4 hslP hfP (by omega) (by omega)).mono ?_
      rintro _ G5 ⟨X,c2,hXb,hxb2,hwon2,hs2⟩
      rw [hVt] at hs2
      have hwin:=hgive _ _ hs2 (i0O hwon2.2.1 i (K + 1))
      replace hPQ4:a0f.blk G5 PQ=.row false a0m (d0b Qs):=by rw [hxb2.2 PQ (a0k hPQ4) (by simp;omega)];exact hPQ4
      replace hx4:=hxb2.ext hfP hx4
      replace hv4:=hv4.off hxb2 hslP
      have hwon:=hwon0.trans hwon2
      replace hgl:g < 4294967296:=by omega
      simp [-Int.natCast_add,m0X,g4,g6,g7,g8,g9,g10,g11,g12]
      refine (a0r hx4.1).mono ?_
      rintro _ G6 ⟨rfl,hx6⟩
      have hPQ6:=hx6.blk hPQ4
      have hP6:=hx6.blk hXb
      have hPQl:=a0k hPQ6
      obtain ⟨hj1,_⟩:=j0Z (k:=.i64) (cap:=N) (o:=0) (n:=N) hPQ6 (by omega) (show i < N by omega)
      rw [hSQ,Nat.zero_add] at hj1
      have hile:i + 1≤Qs.length:=by omega
      have hfPQ:G.size≤PQ:=by omega
      rw [Nat.mod_eq_of_lt hgl]
      obtain ⟨hd1,hd2⟩:=r0t (BB:=4294967296) (n:=a.length + 1) (q:=g) rfl hLlen hwon (by omega) (show i < Qs.length by omega) hU (by rw [hk];exact hVlt) hlt hdm hml hwin
      simp [-Int.natCast_add,m0Y,hj1,hPQ6,hile,hfPQ,g4,g6,g7,g8,g9,g10,g11,g12,ew5]
      refine ⟨i,by omega,rfl,(hx4.trans hx6).set hfPQ,(hv4.mono hx6).off d0G.refl.set hslPQ,X,by rw [b0g (by omega)];exact hP6,Qs.set i g,by rw [a0R hPQl,d0x],by rw [hwon.1,hLlen],hwon.2.1,by simpa using hQlen,d0U hQok hgl,by omega,hd2,hd1⟩
  ·clear hP3 hPQ3 hv0 hl0 hok0 L0 g0 g1 g6 ht ρ hx hv3 G3
   rintro t G3 ⟨L,Qs,ht,g4,g6,g7,g9,hx,hP,hPQb,hLlen,hLok,hQlen,hQok,hU,hlt⟩
   obtain ⟨ρ,rfl⟩:=toT ht
   simp only [b0Z,Nat.reduceLT] at g4 g6 g7 g9
   have helem:elemOk G3 a0m SU=true:=by rw [← hSU];exact m0q hP
   have hslice:∃ cap',e0i 1 SU none (some (.int .i64 (K:Int))) none=some (.slice (some ⟨P,0,none⟩) K cap'):=by
    rw [← hSU,k0s (lo:=0) (hi:=K) rfl (by simp) (by omega) (by omega),Nat.zero_add,Nat.sub_zero]
    exact ⟨_,rfl⟩
   obtain ⟨capt,hslice⟩:=hslice
   simp [-Int.natCast_add,t0p,g4,g6,g7,g9,helem,hslice]
   have hlim:=w0z (cap:=capt) hP hLok (show 0 + K≤L.length by omega)
   have hlv:a0D ((L.drop 0).take K)=a0D L:=by
    have h1:=g0t (L:=L) (Nat.le_refl _)
    rw [List.take_length,hLlen,show a.length + 1=K + (a.length + 1 - K) by omega,d0h,Nat.zero_add] at h1
    have h2:win L K (a.length + 1 - K)=0:=by
     by_cases h0:win L K (a.length + 1 - K)=0
     ·exact h0
     ·have:=Nat.le_mul_of_pos_right (4294967296 ^ K) (by omega:0 < win L K (a.length + 1 - K))
      rw [hk] at this h1;omega
    rw [w0F (by omega),h1,h2,Nat.mul_zero,Nat.add_zero]
   have hll:((L.drop 0).take K).length=K:=by simp;omega
   refine (m0k hlim hx.1 (by omega) (by omega)).mono ?_
   rintro r G4 ⟨⟨o,ho,hov,hol⟩,hx4⟩
   rw [hlv] at hov
   have hV0:0 < V:=by omega
   have e1:U0 / V=a0D Qs:=by rw [hU,Nat.mul_comm,Nat.mul_add_div hV0,Nat.div_eq_of_lt hlt,Nat.add_zero]
   have e2:U0 % V=a0D L:=by rw [hU,Nat.mul_comm,Nat.mul_add_mod,Nat.mod_eq_of_lt hlt]
   refine fun _=>⟨SQ,Qs,r,⟨rfl,rfl⟩,⟨by rw [← hSQ,← hQlen];exact (Own.mk (fl:=0) (hx4.blk hPQb) (by simp) (Nat.zero_le _)).sl,hQok⟩,e1.symm,by omega,o,ho,by rw [hov,e2],by omega⟩
end
/- num.Div. -/
section
open Go
set_option maxHeartbeats 4000000
variable {fl:Nat} {H:a0f} {R:a0A} {v w:Value} {i j:Bool × List Nat}
theorem v0b (x y:Int):(if (decide (x < 0) != decide (y < 0))=true then -((x.natAbs / y.natAbs:Nat):Int) else ((x.natAbs / y.natAbs:Nat):Int))=x.tdiv y:=by
 have e1:∀ n:Int,0≤n→(n.natAbs:Int)=n:=fun n h=>Int.natAbs_of_nonneg h
 have e2:∀ n:Int,n < 0→(n.natAbs:Int) = -n:=fun n h=>by omega
 rw [Int.natCast_ediv]
 by_cases hx:x < 0 <;> by_cases hy:y < 0 <;> simp only [hx,hy,decide_true,decide_false,bne_self_eq_false,Bool.false_eq_true,if_false,Bool.true_bne,Bool.false_bne,Bool.not_false,if_true]
 ·rw [e2 x hx,e2 y hy,← Int.tdiv_eq_ediv_of_nonneg (by omega),Int.neg_tdiv,Int.tdiv_neg,Int.neg_neg]
 ·rw [e2 x hx,e1 y (by omega),← Int.tdiv_eq_ediv_of_nonneg (by omega),Int.neg_tdiv,Int.neg_neg]
 ·rw [e1 x (by omega),e2 y hy,← Int.tdiv_eq_ediv_of_nonneg (by omega),Int.tdiv_neg,Int.neg_neg]
 ·rw [e1 x (by omega),e1 y (by omega),← Int.tdiv_eq_ediv_of_nonneg (by omega)]
theorem v0c (x y:Int):(if decide (x < 0)=true then -((x.natAbs % y.natAbs:Nat):Int) else ((x.natAbs % y.natAbs:Nat):Int))=x.tmod y:=by
 have h1:=Int.natAbs_tmod x y
 by_cases hx:x < 0
 ·simp only [hx,decide_true,if_true]
  have h2:x.tmod y≤0:=by
   have:=Int.tmod_nonneg (a:=-x) y (by omega)
   rw [Int.neg_tmod] at this;omega
  omega
 ·simp only [hx,decide_false,Bool.false_eq_true,if_false]
  have h2:=Int.tmod_nonneg (a:=x) y (by omega)
  omega
theorem b0S (h:b0q H v i) (k:b0q H w j) (hf:fl≤H.size) (hn:i.2.length < 536870912) (hm:j.2.length < 536870912) (hj0:a0O j ≠ 0) :
  a0P env fl j0J [v,w] H (fun r H'=>(∃ q m,r=.tuple #[q,m,.int .i64 0]∧b0q H' q (a0n ((a0O i).tdiv (a0O j)))∧b0q H' m (a0n ((a0O i).tmod (a0O j))))∧Ext H H') R:=by
 have k0:=h
 have k1:=k
 obtain ⟨s,rfl,hs⟩:=h
 obtain ⟨u,rfl,hu⟩:=k
 refine a0l V0e hf (h:=?_)
 intro ρ h0
 simp [H0U,A0x,h0]
 generalize hG:Array.push (Array.push (Array.push (Array.push H _) _) _) _=G
 have hx:Ext H G:=by rw [← hG];exact (Ext.refl H).push.push.push.push
 have b0:a0f.blk G H.size=.row false a0c [.bool i.1,s]:=by rw [← hG];simp
 have b1:a0f.blk G (H.size + 1)=.row false a0c [.bool j.1,u]:=by rw [← hG];simp
 have b2:a0f.blk G (H.size + 2)=.row false a0c [.bool false,.slice none 0 0]:=by rw [← hG];simp
 have b3:a0f.blk G (H.size + 3)=.row false a0c [.bool false,.slice none 0 0]:=by rw [← hG];simp
 have hz:H.size + 3 < G.size:=a0k b3
 clear hG
 replace k0:=k0.mono hx
 replace k1:=k1.mono hx
 refine a0v ?_
 simp [A0y,h0,b0,b1]
 refine (b0M k0 (by omega) (by omega)).mono ?_
 rintro x G2 ⟨k2,hx2⟩
 replace b0:=hx2.blk b0;replace b1:=hx2.blk b1;replace b2:=hx2.blk b2;replace b3:=hx2.blk b3;replace hx:=hx.trans hx2;replace k0:=k0.mono hx2;replace k1:=k1.mono hx2
 try simp [h0,b0,b1]
 refine (b0M k1 hx.1 (by omega)).mono ?_
 rintro y G2 ⟨k3,hx2⟩
 replace b0:=hx2.blk b0;replace b1:=hx2.blk b1;replace b2:=hx2.blk b2;replace b3:=hx2.blk b3;replace hx:=hx.trans hx2;replace k0:=k0.mono hx2;replace k1:=k1.mono hx2;replace k2:=k2.mono hx2
 clear hs hu hz hx2
 have l1:=a0T k0.ok
 have l2:=a0T k1.ok
 have hl0:a0I (a0O j).natAbs ≠ []:=by intro h;exact hj0 (by have:=b0V.1 h;omega)
 have hl1:=List.length_pos_iff.2 hl0
 have e1:=v0b (a0O i) (a0O j)
 have e2:=v0c (a0O i) (a0O j)
 simp [A0z,A0A,h0,k3.slen,hl0]
 refine (e0K k2 k3 hx.1 (by omega)).mono ?_
 rintro _ G2 ⟨rfl,hx2⟩
 replace b0:=hx2.blk b0;replace b1:=hx2.blk b1;replace b2:=hx2.blk b2;replace b3:=hx2.blk b3;replace hx:=hx.trans hx2;replace k0:=k0.mono hx2;replace k1:=k1.mono hx2;replace k2:=k2.mono hx2;replace k3:=k3.mono hx2
 have hcmp:=f0j (a0O i).natAbs (a0O j).natAbs
 rw [d0Y] at hcmp
 generalize N0d (a0I (a0O i).natAbs) (a0I (a0O j).natAbs)=c at hcmp
 by_cases hlt:(a0O i).natAbs < (a0O j).natAbs
 ·have hcl:c < 0:=by rw [hcmp,if_pos hlt];omega
  simp [A0B,h0,hcl,b0]
  refine (b0u k0 hx.1 (by omega)).mono ?_
  rintro _ G2 ⟨rfl,hx2⟩
  replace b0:=hx2.blk b0;replace b1:=hx2.blk b1;replace b2:=hx2.blk b2;replace b3:=hx2.blk b3;replace hx:=hx.trans hx2;replace k0:=k0.mono hx2;replace k1:=k1.mono hx2;replace k2:=k2.mono hx2;replace k3:=k3.mono hx2
  try simp [h0]
  refine (c0c ((a0O i).tmod (a0O j)) k2 hx.1 (by omega) (by rw [a0H,← e2,Nat.mod_eq_of_lt hlt])).mono ?_
  obtain ⟨s1,hsv,hs1⟩:∃ s1,s1=Value.slice none 0 0∧Lim G2 s1 (a0n ((a0O i).tdiv (a0O j))).2:=by
   refine ⟨_,rfl,?_⟩
   rw [← e1,Nat.div_eq_of_lt hlt]
   have:a0n (if (decide (a0O i < 0) != decide (a0O j < 0))=true then -((0:Nat):Int) else ((0:Nat):Int))=(false,[]):=by split <;> exact d0n
   rw [this];exact Lim.nil
  have hb1:(a0n ((a0O i).tdiv (a0O j))).1=false:=by
   rw [← e1,Nat.div_eq_of_lt hlt];split <;> simp [a0n]
  rw [← hsv,← hb1]
  rintro _ G2 ⟨⟨s2,rfl,hs2⟩,hx2⟩
  replace b0:=hx2.blk b0;replace b1:=hx2.blk b1;replace b2:=hx2.blk b2;replace b3:=hx2.blk b3;replace hx:=hx.trans hx2;replace k0:=k0.mono hx2;replace k1:=k1.mono hx2;replace k2:=k2.mono hx2;replace k3:=k3.mono hx2
  have hz:=a0k b3
  have hz2:=a0k b2
  simp [h0,b2,b3,hs1.cells,hs1.plain,hs2.cells,hs2.plain,hz,hz2]
  refine fun _=>⟨_,_,⟨rfl,rfl⟩,⟨s1,rfl,?_⟩,⟨s2,rfl,?_⟩⟩
  ·exact ((hs1.mono hx2).setT b2 (by decide)).setT (by rw [b0g (by omega)];exact b3) (by decide)
  ·exact (hs2.setT b2 (by decide)).setT (by rw [b0g (by omega)];exact b3) (by decide)
 ·have hcl:¬ c < 0:=by rw [hcmp,if_neg hlt];split <;> omega
  by_cases h1:(a0I (a0O j).natAbs).length=1
  ·have hd0:(0:Nat) < (a0I (a0O j).natAbs).length:=by omega
   obtain ⟨d,hd⟩:∃ d,a0I (a0O j).natAbs=[d]:=by
    obtain ⟨d,hd⟩:=List.length_eq_one_iff.1 h1;exact ⟨d,hd⟩
   have hdv:(a0O j).natAbs=d:=by rw [← a0H (a0O j).natAbs,hd];simp [a0D]
   have hdl:d < 4294967296:=k3.ok d (by rw [hd];simp)
   have hdp:0 < d:=by omega
   rw [hd] at k3
   have hia:=k3.ia (k:=.i64) (j:=0) (by simp)
   have hld:=k3.load (j:=0) (by simp) (Ext.refl _)
   simp at hia hld
   simp [p0Y,A0C,h0,hcl,hd,k3.slen,hia,hld]
   refine (k0Q k2 hx.1 (by omega) hdp hdl).mono ?_
   rintro _ G2 ⟨⟨q1,o,rfl,k4,hov,hol⟩,hx2⟩
   replace b0:=hx2.blk b0;replace b1:=hx2.blk b1;replace b2:=hx2.blk b2;replace b3:=hx2.blk b3;replace hx:=hx.trans hx2;replace k0:=k0.mono hx2;replace k1:=k1.mono hx2;replace k2:=k2.mono hx2;replace k3:=k3.mono hx2
   have hmd:a0D (a0I (a0O i).natAbs) % d < 4294967296:=Nat.lt_trans (Nat.mod_lt _ hdp) hdl
   rw [a0H] at hov hmd ⊢
   generalize hrm:(a0O i).natAbs % d=rm at *
   simp [h0]
   refine a0v ?_
   simp [A0D,h0,b0,b1]
   refine (b0u k0 (by have:=hx.1;omega) (by omega)).mono ?_
   rintro _ G2 ⟨rfl,hx2⟩
   replace b0:=hx2.blk b0;replace b1:=hx2.blk b1;replace b2:=hx2.blk b2;replace b3:=hx2.blk b3;replace hx:=hx.trans hx2;replace k0:=k0.mono hx2;replace k1:=k1.mono hx2;replace k2:=k2.mono hx2;replace k3:=k3.mono hx2;replace k4:=k4.mono hx2
   try simp [h0,b0,b1]
   refine (b0u k1 (by have:=hx.1;omega) (by omega)).mono ?_
   rintro _ G2 ⟨rfl,hx2⟩
   replace b0:=hx2.blk b0;replace b1:=hx2.blk b1;replace b2:=hx2.blk b2;replace b3:=hx2.blk b3;replace hx:=hx.trans hx2;replace k0:=k0.mono hx2;replace k1:=k1.mono hx2;replace k2:=k2.mono hx2;replace k3:=k3.mono hx2;replace k4:=k4.mono hx2
   try simp [h0]
   refine (c0c ((a0O i).tdiv (a0O j)) k4 (by have:=hx.1;omega) (by omega) (by rw [hov,← e1,hdv])).mono ?_
   rintro _ G2 ⟨⟨s1,rfl,hs1⟩,hx2⟩
   replace b0:=hx2.blk b0;replace b1:=hx2.blk b1;replace b2:=hx2.blk b2;replace b3:=hx2.blk b3;replace hx:=hx.trans hx2;replace k0:=k0.mono hx2;replace k1:=k1.mono hx2;replace k2:=k2.mono hx2;replace k3:=k3.mono hx2;replace k4:=k4.mono hx2
   try simp [h0,b0,b1]
   refine (b0u k0 (by have:=hx.1;omega) (by omega)).mono ?_
   rintro _ G2 ⟨rfl,hx2⟩
   replace b0:=hx2.blk b0;replace b1:=hx2.blk b1;replace b2:=hx2.blk b2;replace b3:=hx2.blk b3;replace hx:=hx.trans hx2;replace k0:=k0.mono hx2;replace k1:=k1.mono hx2;replace k2:=k2.mono hx2;replace k3:=k3.mono hx2;replace k4:=k4.mono hx2
   replace hs1:=hs1.mono hx2
   try simp [h0]
   generalize hG3:Array.push G2 _=G3
   have hx2:Ext G2 G3:=by rw [← hG3];exact (Ext.refl _).push
   have k5:Lim G3 (.slice (some ⟨G2.size,0,none⟩) 1 1) [rm]:=by
    refine ⟨(Own.mk (fl:=0) (cap:=1) (e:=a0m) (sz:=1) (n:=1) (cs:=d0b [rm]) ?_ (by simp) (Nat.zero_le _)).sl,fun x hx=>by simp at hx;omega⟩
    rw [← hG3,a0y];rfl
   replace b0:=hx2.blk b0;replace b1:=hx2.blk b1;replace b2:=hx2.blk b2;replace b3:=hx2.blk b3;replace hx:=hx.trans hx2;replace k0:=k0.mono hx2;replace k1:=k1.mono hx2;replace k2:=k2.mono hx2;replace k3:=k3.mono hx2;replace k4:=k4.mono hx2
   replace hs1:=hs1.mono hx2
   refine (c0c ((a0O i).tmod (a0O j)) k5 (by have:=hx.1;omega) (by simp) (by rw [← e2,hdv,hrm];simp [a0D])).mono ?_
   rintro _ G2 ⟨⟨s2,rfl,hs2⟩,hx2⟩
   replace b0:=hx2.blk b0;replace b1:=hx2.blk b1;replace b2:=hx2.blk b2;replace b3:=hx2.blk b3;replace hx:=hx.trans hx2;replace k0:=k0.mono hx2;replace k1:=k1.mono hx2;replace k2:=k2.mono hx2;replace k3:=k3.mono hx2;replace k4:=k4.mono hx2;replace k5:=k5.mono hx2
   have hz:=a0k b3
   have hz2:=a0k b2
   simp [h0,b2,b3,hs1.cells,hs1.plain,hs2.cells,hs2.plain,hz,hz2]
   refine fun _=>⟨_,_,⟨rfl,rfl⟩,⟨s1,rfl,?_⟩,⟨s2,rfl,?_⟩⟩
   ·exact ((hs1.mono hx2).setT b2 (by decide)).setT (by rw [b0g (by omega)];exact b3) (by decide)
   ·exact (hs2.setT b2 (by decide)).setT (by rw [b0g (by omega)];exact b3) (by decide)
  ·have hlt2:2≤(a0I (a0O j).natAbs).length:=by omega
   have hle:(a0I (a0O j).natAbs).length≤(a0I (a0O i).natAbs).length:=b0n (by omega)
   have h1':¬ ((a0I (a0O j).natAbs).length:Int)=1:=by omega
   simp [p0Y,A0E,h0,hcl,h1,h1',k3.slen]
   refine (j0X k2 k3 hx.1 (by omega) hlt2 hle (j0D (by omega))).mono ?_
   rintro _ G2 ⟨⟨q1,o,q2,o2,rfl,k4,hov,hol,k5,hov2,hol2⟩,hx2⟩
   replace b0:=hx2.blk b0;replace b1:=hx2.blk b1;replace b2:=hx2.blk b2;replace b3:=hx2.blk b3;replace hx:=hx.trans hx2;replace k0:=k0.mono hx2;replace k1:=k1.mono hx2
   rw [a0H,a0H] at hov hov2
   simp [h0]
   refine a0v ?_
   simp [s0F,h0,b0,b1]
   refine (b0u k0 (by have:=hx.1;omega) (by omega)).mono ?_
   rintro _ G2 ⟨rfl,hx2⟩
   replace b0:=hx2.blk b0;replace b1:=hx2.blk b1;replace b2:=hx2.blk b2;replace b3:=hx2.blk b3;replace hx:=hx.trans hx2;replace k0:=k0.mono hx2;replace k1:=k1.mono hx2;replace k4:=k4.mono hx2;replace k5:=k5.mono hx2
   try simp [h0,b0,b1]
   refine (b0u k1 (by have:=hx.1;omega) (by omega)).mono ?_
   rintro _ G2 ⟨rfl,hx2⟩
   replace b0:=hx2.blk b0;replace b1:=hx2.blk b1;replace b2:=hx2.blk b2;replace b3:=hx2.blk b3;replace hx:=hx.trans hx2;replace k0:=k0.mono hx2;replace k4:=k4.mono hx2;replace k5:=k5.mono hx2
   try simp [h0]
   refine (c0c ((a0O i).tdiv (a0O j)) k4 (by have:=hx.1;omega) (by omega) (by rw [hov,← e1])).mono ?_
   rintro _ G2 ⟨⟨s1,rfl,hs1⟩,hx2⟩
   replace b0:=hx2.blk b0;replace b1:=hx2.blk b1;replace b2:=hx2.blk b2;replace b3:=hx2.blk b3;replace hx:=hx.trans hx2;replace k0:=k0.mono hx2;replace k5:=k5.mono hx2
   try simp [h0,b0,b1]
   refine (b0u k0 (by have:=hx.1;omega) (by omega)).mono ?_
   rintro _ G2 ⟨rfl,hx2⟩
   replace b2:=hx2.blk b2;replace b3:=hx2.blk b3;replace hx:=hx.trans hx2;replace k5:=k5.mono hx2
   replace hs1:=hs1.mono hx2
   try simp [h0]
   refine (c0c ((a0O i).tmod (a0O j)) k5 (by have:=hx.1;omega) (by omega) (by rw [hov2,← e2])).mono ?_
   rintro _ G2 ⟨⟨s2,rfl,hs2⟩,hx2⟩
   replace b2:=hx2.blk b2;replace b3:=hx2.blk b3;replace hx:=hx.trans hx2
   have hz:=a0k b3
   have hz2:=a0k b2
   simp [h0,b2,b3,hs1.cells,hs1.plain,hs2.cells,hs2.plain,hz,hz2]
   refine fun _=>⟨_,_,⟨rfl,rfl⟩,⟨s1,rfl,?_⟩,⟨s2,rfl,?_⟩⟩
   ·exact ((hs1.mono hx2).setT b2 (by decide)).setT (by rw [b0g (by omega)];exact b3) (by decide)
   ·exact (hs2.setT b2 (by decide)).setT (by rw [b0g (by omega)];exact b3) (by decide)
end
/- Drawn regions of which pairs are watched. -/
section
open Go
abbrev Log:=List (List Nat × List Nat)
def WRL (E:Env) (fl:Nat):List a0G→a0W→a0f→Log→(a0W→a0f→Log→Prop)→Prop
 | [],t,H,lg,Z=>Z t H lg
 | o :: r,t,H,lg,Z=>if a0X t o.g then WS E fl t H o.op (fun v H'=>WRL E fl r (put t o.dst v) H' (c0Q t o.op :: lg) Z) (fun _=>False) else WRL E fl r (put t o.dst undef) H (([],[]) :: lg) Z
variable {E:Env} {fl:Nat} {t:a0W} {H:a0f} {Q:d0V} {R:a0A}
theorem l0C (bef:List Nat) (pairs:List (Nat × Nat)) {Z:a0W→a0f→Prop}:∀ (ops:List a0G) (i:Nat) (t:a0W) (H:a0f) (log:Log),
  WRL E fl ops t H log (fun t' H' lg=>c0E lg.reverse pairs=true∧Z t' H')→∃ n t' H',b0P (b0e E n) fl bef pairs i ops t H none log=.fin .normal t' H'∧Z t' H'
 | [],i,t,H,log,h=>⟨0,t,H,by simp only [b0P];rw [if_pos h.1],h.2⟩
 | o :: r,i,t,H,log,h=>by
  simp only [WRL] at h
  split at h
  ·rename_i hw
   obtain ⟨n,hn⟩:=v0z h
   cases hs:b0w (b0e E n) fl t H o.op with
   | bad=>rw [hs] at hn;exact absurd hn id
   | pan v=>rw [hs] at hn;exact absurd hn id
   | ok rr =>
    obtain ⟨v,H'⟩:=rr
    rw [hs] at hn
    obtain ⟨m,t2,H2,hm,hz⟩:=l0C bef pairs r (i + 1) _ _ _ hn
    refine ⟨max n m,t2,H2,?_,hz⟩
    have h1:=f0f (a0E E n (max n m) (by omega)) (Nat.le_refl fl) (t:=t) (H:=H) (so:=o.op) (by rw [hs];simp)
    have h2:=c0S (a0E E m (max n m) (by omega)) (Nat.le_refl fl) bef pairs r (i + 1) (put t o.dst v) H' none (c0Q t o.op :: log) (by rw [hm];simp)
    simp only [b0P,f0V,Bool.false_eq_true,if_false,hw,if_true,h1,hs,h2];exact hm
  ·rename_i hw
   obtain ⟨m,t2,H2,hm,hz⟩:=l0C bef pairs r (i + 1) _ _ _ h
   exact ⟨m,t2,H2,by simp only [b0P,f0V,Bool.false_eq_true,if_false,hw];exact hm,hz⟩
theorem c0g {ops:List a0G} {bef:List Nat} {pairs:List (Nat × Nat)} (h:WRL E fl ops t H [] (fun t' H' lg=>c0E lg.reverse pairs=true∧Q .normal t' H')):W E fl (.draw ops bef pairs) t H Q R:=by
 obtain ⟨n,t',H',hn,hz⟩:=l0C bef pairs ops 0 t H [] h
 refine ⟨n + 1,?_⟩
 have h2:=c0S (a0E E n (n+1) (by omega)) (Nat.le_refl fl) bef pairs ops 0 t H none [] (by rw [hn];simp)
 simp only [a0U,h2,hn];exact hz
section
variable {Z:a0W→a0f→Log→Prop} {lg:Log} {d:Option Nat} {op:SOp} {r:List a0G}
@[simp ↓] theorem T0G:WRL E fl [] t H lg Z=Z t H lg:=nr rfl
@[simp ↓] theorem S0p:WRL E fl (⟨d,none,op⟩ :: r) t H lg Z=WS E fl t H op (fun v H'=>WRL E fl r (put t d v) H' (c0Q t op :: lg) Z) (fun _=>False):=by simp [WRL,a0X]
@[simp ↓] theorem W0v {j:Nat} {w:Bool}:WRL E fl (⟨d,some (j,w),op⟩ :: r) t H lg Z=if v0f w (get t j)=true then WS E fl t H op (fun v H'=>WRL E fl r (put t d v) H' (c0Q t op :: lg) Z) (fun _=>False) else WRL E fl r (put t d undef) H (([],[]) :: lg) Z:=by
 have h:a0X t (some (j,w))=v0f w (get t j):=by
  simp only [a0X]
  generalize get t j=v
  cases v <;> rfl
 show (if a0X t (some (j,w))=true then _ else _)=_
 rw [h]
theorem v0u {t t':a0W} {ops:List a0G} {lg:Log} (h:t=t'):WRL E fl ops t H lg Z=WRL E fl ops t' H lg Z:=by rw [h]
attribute [congr] v0u
@[simp] theorem Q0n {p:Addr}:blkOf (.pointer (some p))=[p.block]:=nr rfl
@[simp] theorem S0C {p:Addr} {n c:Nat}:blkOf (.slice (some p) n c)=[p.block]:=nr rfl
@[simp] theorem P0k {n c:Nat}:blkOf (.slice none n c)=[]:=nr rfl
@[simp] theorem U0u {p:Addr} {n c:Nat}:blkW (.slice (some p) n c)=if n=0∧c=0 then [] else [p.block]:=nr rfl
@[simp] theorem Q0o {n c:Nat}:blkW (.slice none n c)=[]:=nr rfl
attribute [simp] c0Q c0E o0i
end
end
/- num.Gcd. -/
section
open Go
set_option maxHeartbeats 4000000
variable {fl:Nat} {H:a0f} {R:a0A} {v w:Value} {i j:Bool × List Nat}
theorem new2 {G:a0f} {z1 z2 r1 r2:Blk}:Ext G (Array.setIfInBounds (Array.setIfInBounds (Array.push (Array.push G z1) z2) G.size r1) (G.size + 1) r2) ∧
  a0f.blk (Array.setIfInBounds (Array.setIfInBounds (Array.push (Array.push G z1) z2) G.size r1) (G.size + 1) r2) G.size=r1 ∧
  a0f.blk (Array.setIfInBounds (Array.setIfInBounds (Array.push (Array.push G z1) z2) G.size r1) (G.size + 1) r2) (G.size + 1)=r2:=by
 refine ⟨(((Ext.refl G).push.push).set (by omega)).set (by omega),?_,?_⟩
 ·rw [b0g (by omega),a0R (by simp)]
 ·rw [a0R (by simp)]
theorem a0s (n:Nat):(a0n (n:Int))=(false,a0I n):=by unfold a0n;simp
theorem e0H (h:b0q H v i) (k:b0q H w j) (hf:fl≤H.size) (hn:i.2.length < 536870912) (hm:j.2.length < 536870912) :
  a0P env fl n0K [v,w] H (fun r H'=>b0q H' r (a0n (Int.gcd (a0O i) (a0O j)))∧Ext H H') R:=by
 have k0:=h
 have k1:=k
 obtain ⟨s,rfl,hs⟩:=h
 obtain ⟨u,rfl,hu⟩:=k
 refine a0l U0S hf (h:=?_)
 intro ρ h0
 simp [H0I,z0a,h0]
 generalize hG:Array.push (Array.push (Array.push H _) _) _=G
 have hx:Ext H G:=by rw [← hG];exact (Ext.refl H).push.push.push
 have b0:a0f.blk G H.size=.row false a0c [.bool i.1,s]:=by rw [← hG];simp
 have b1:a0f.blk G (H.size + 1)=.row false a0c [.bool j.1,u]:=by rw [← hG];simp
 have b2:a0f.blk G (H.size + 2)=.row false a0c [.bool false,.slice none 0 0]:=by rw [← hG];simp
 have hz:H.size + 2 < G.size:=a0k b2
 clear hG
 replace k0:=k0.mono hx
 replace k1:=k1.mono hx
 have l1:=a0T k0.ok
 have l2:=a0T k1.ok
 refine a0v ?_
 simp [z0b,h0,b0,b1]
 refine (b0M k0 (by omega) (by omega)).mono ?_
 rintro x G2 ⟨k2,hx2⟩
 replace b0:=hx2.blk b0;replace b1:=hx2.blk b1;replace b2:=hx2.blk b2;replace hx:=hx.trans hx2;replace k0:=k0.mono hx2;replace k1:=k1.mono hx2
 try simp [h0]
 refine (c0c (((a0O i).natAbs:Nat):Int) k2 (by have:=hx.1;omega) (by omega) (by simp [a0H])).mono ?_
 rintro x G2 ⟨k2,hx2⟩
 replace b0:=hx2.blk b0;replace b1:=hx2.blk b1;replace b2:=hx2.blk b2;replace hx:=hx.trans hx2;replace k0:=k0.mono hx2;replace k1:=k1.mono hx2
 try simp [h0,b1]
 refine (b0M k1 (by have:=hx.1;omega) (by omega)).mono ?_
 rintro y G2 ⟨k3,hx2⟩
 replace b0:=hx2.blk b0;replace b1:=hx2.blk b1;replace b2:=hx2.blk b2;replace hx:=hx.trans hx2;replace k0:=k0.mono hx2;replace k1:=k1.mono hx2;replace k2:=k2.mono hx2
 try simp [h0]
 refine (c0c (((a0O j).natAbs:Nat):Int) k3 (by have:=hx.1;omega) (by omega) (by simp [a0H])).mono ?_
 rintro y G2 ⟨k3,hx2⟩
 replace b0:=hx2.blk b0;replace b1:=hx2.blk b1;replace b2:=hx2.blk b2;replace hx:=hx.trans hx2;replace k0:=k0.mono hx2;replace k1:=k1.mono hx2;replace k2:=k2.mono hx2
 obtain ⟨s2,hxe,k2⟩:=k2
 obtain ⟨s3,hye,k3⟩:=k3
 have hsz:=hx.1
 have hsz1:H.size≤G2.size + 1:=by omega
 have hc0:=a0k b2
 simp [h0,hsz1,hxe,hye,k2.cells,k3.cells,k2.plain,k3.plain,hsz]
 rw [a0s] at k2 k3
 obtain ⟨hx2,b3,b4⟩:=new2 (G:=G2) (z1:=.row false a0c [.bool false,.slice none 0 0]) (z2:=.row false a0c [.bool false,.slice none 0 0]) (r1:=.row false a0c [.bool false,s2]) (r2:=.row false a0c [.bool false,s3])
 replace k2:=k2.mono hx2
 replace k3:=k3.mono hx2
 replace b2:=hx2.blk b2
 replace hx:=hx.trans hx2
 simp only [a0s]
 generalize Array.setIfInBounds _ _ _=G3 at *
 generalize hP:G2.size=P at *
 refine b0Y (fun c t G=>∃ (a b:Nat) (s5 s6:Value),c=b∧t.length=30∧get t 4=.pointer (some ⟨H.size + 2,0,none⟩)∧get t 5=.pointer (some ⟨P,0,none⟩)∧get t 6=.pointer (some ⟨P + 1,0,none⟩) ∧
   Ext H G∧a0f.blk G (H.size + 2)=.row false a0c [.bool false,.slice none 0 0]∧a0f.blk G P=.row false a0c [.bool false,s5]∧a0f.blk G (P + 1)=.row false a0c [.bool false,s6]∧Lim G s5 (a0I a)∧Lim G s6 (a0I b) ∧
   (a0I a).length < 536870912∧(a0I b).length < 536870912∧Nat.gcd a b=Int.gcd (a0O i) (a0O j))
  (fun t G=>∃ (a:Nat) (s5:Value),t.length=30∧get t 4=.pointer (some ⟨H.size + 2,0,none⟩)∧get t 5=.pointer (some ⟨P,0,none⟩) ∧
   Ext H G∧a0f.blk G (H.size + 2)=.row false a0c [.bool false,.slice none 0 0]∧a0f.blk G P=.row false a0c [.bool false,s5]∧Lim G s5 (a0I a)∧a=Int.gcd (a0O i) (a0O j)) (a0O j).natAbs ?_ ?_ ?_
 ·exact ⟨(a0O i).natAbs,(a0O j).natAbs,s2,s3,rfl,by simp,by simp,by simp,by simp,hx,b2,b3,b4,k2,k3,by omega,by omega,rfl⟩
 ·clear h0 ρ k0 k1 k2 k3 b0 b1 b2 hx
  rintro c t G ⟨a,b,s5,s6,rfl,ht,g4,g5,g6,hx,b2,b3,b4,k5,k6,la,lb,hg⟩
  obtain ⟨ρ,rfl⟩:=toT ht
  simp only [b0Z,Nat.reduceLT] at g4 g5 g6
  by_cases hb:c=0
  ·subst hb
   rw [b0o] at k6
   simp [p0S,g4,g5,g6,b2,b3,b4,k6.slen]
   rw [Nat.gcd_zero_right] at hg
   exact ⟨hx,by rw [← hg];exact k5⟩
  ·have hdl:0 < (a0I c).length:=List.length_pos_iff.2 (by rw [Ne,b0V];exact hb)
   have hdl':(0:Int) < ((a0I c).length:Int):=by omega
   have hnil:a0I c ≠ []:=by rw [Ne,b0V];exact hb
   simp [p0S,z0c,g4,g5,g6,b2,b3,b4,k6.slen,hdl,hdl',hnil]
   have k0:b0q G (.agg #[.bool false,s5]) (a0n (a:Int)):=⟨s5,by rw [a0s],by rw [a0s];exact k5⟩
   have k1:b0q G (.agg #[.bool false,s6]) (a0n (c:Int)):=⟨s6,by rw [a0s],by rw [a0s];exact k6⟩
   refine (b0S k0 k1 hx.1 (by rw [a0s];exact la) (by rw [a0s];exact lb) (by rw [a0i];omega)).mono ?_
   rintro _ G2 ⟨⟨q,m,rfl,k7,k8⟩,hx2⟩
   replace b2:=hx2.blk b2;replace b3:=hx2.blk b3;replace b4:=hx2.blk b4;replace hx:=hx.trans hx2;replace k0:=k0.mono hx2;replace k1:=k1.mono hx2;replace k5:=k5.mono hx2;replace k6:=k6.mono hx2
   rw [a0i,a0i] at k7 k8
   have hmod:((a:Int).tmod (c:Int))=((a % c:Nat):Int):=by rw [Int.tmod_eq_emod_of_nonneg (by omega)];rfl
   rw [hmod,a0s] at k8
   obtain ⟨s7,rfl,k7⟩:=k7
   obtain ⟨s8,rfl,k8⟩:=k8
   have hsz:=hx.1
   have hsz1:H.size≤G2.size + 1:=by omega
   have hc1:=a0k b4
   simp [g4,g5,g6,b3,b4,k7.cells,k8.cells,k7.plain,k8.plain,hsz,hsz1]
   obtain ⟨hx2,b5,b6⟩:=new2 (G:=G2) (z1:=.row false a0c [.bool false,.slice none 0 0]) (z2:=.row false a0c [.bool false,.slice none 0 0]) (r1:=.row false a0c [.bool (a0n (↑a / ↑c)).1,s7]) (r2:=.row false a0c [.bool false,s8])
   replace b2:=hx2.blk b2;replace b3:=hx2.blk b3;replace b4:=hx2.blk b4;replace hx:=hx.trans hx2;replace k0:=k0.mono hx2;replace k1:=k1.mono hx2;replace k5:=k5.mono hx2;replace k6:=k6.mono hx2;replace k8:=k8.mono hx2
   generalize Array.setIfInBounds (Array.setIfInBounds _ _ _) _ _=G3 at *
   have hl1:=a0k b3
   have hl2:=a0k b4
   have hHP:H.size≤P:=by omega
   have hHP1:H.size≤P + 1:=by omega
   have hne:P + 1 ≠ P:=by omega
   have hne2:P ≠ G2.size + 1:=by omega
   have hne3:G2.size + 1 ≠ P:=by omega
   refine c0g ?_
   simp [z0d,g4,g5,g6,b4,b6,b3,k6.cells,k8.cells,k6.plain,k8.plain,hHP,hHP1,hne,hne2,hne3]
   have hmc:a % c < c:=Nat.mod_lt _ (by omega)
   refine ⟨a % c,hmc,(hx.set hHP).set hHP1,by rw [b0g (by omega),b0g (by omega)];exact b2,c,s6,by rw [a0R hl1],s8,by rw [a0R (by simpa using hl2)],?_,?_,lb,Nat.lt_of_le_of_lt (b0n (Nat.le_of_lt hmc)) lb,by rw [Nat.gcd_comm,← Nat.gcd_rec,Nat.gcd_comm,hg]⟩
   ·exact (k6.setT b3 (by decide)).setT (by rw [b0g (by omega)];exact b4) (by decide)
   ·exact (k8.setT b3 (by decide)).setT (by rw [b0g (by omega)];exact b4) (by decide)
 ·clear h0 ρ k0 k1 k2 k3 b0 b1 b2 hx
  rintro t G ⟨a,s5,ht,g4,g5,hx,b2,b3,k5,hg⟩
  obtain ⟨ρ,rfl⟩:=toT ht
  simp only [b0Z,Nat.reduceLT] at g4 g5
  have hl1:=a0k b2
  have hl2:=a0k b3
  subst hg
  simp [z0e,g4,g5,b2,b3,k5.cells,k5.plain,hl1]
  exact fun _=>⟨s5,rfl,k5.setT b2 (by decide)⟩
end
/- Calls, from here on: simp goes into no continuation. -/
section
open Go
def v0o (E:Env) (fl fl':Nat) (f:FuncId) (args:List Value) (H:a0f) (d:Option Nat) (r:List a0G) (t:a0W) (Z:a0W→a0f→Prop) (R:a0A):Prop :=
 a0P E fl' f args H (fun v H'=>WR E fl r (put t d v) H' Z R) R
@[simp ↓ high] theorem S0s {E:Env} {fl:Nat} {t:a0W} {H:a0f} {R:a0A} {d:Option Nat} {r:List a0G} {Z:a0W→a0f→Prop} {f:FuncId} {as:List Opd} {lone:Bool} :
  WS E fl t H (.call f as lone) (fun v H'=>WR E fl r (put t d v) H' Z R) R=v0o E fl (if lone then fl else max fl H.size) f (as.map (ev t)) H d r t Z R:=nr rfl
def v0m (E:Env) (fl fl':Nat) (x:Value) (args:List Value) (H:a0f) (d:Option Nat) (r:List a0G) (t:a0W) (Z:a0W→a0f→Prop) (R:a0A):Prop :=
 match x with
 | .func (.func f) p q=>v0o E fl fl' f (p.toList ++ args ++ q.toList) H d r t Z R
 | _=>False
@[simp ↓ high] theorem P0V {E:Env} {fl:Nat} {t:a0W} {H:a0f} {R:a0A} {d:Option Nat} {r:List a0G} {Z:a0W→a0f→Prop} {x:Opd} {as:List Opd} {lone:Bool} :
  WS E fl t H (.callv x as lone) (fun v H'=>WR E fl r (put t d v) H' Z R) R=v0m E fl (if lone then fl else max fl H.size) (ev t x) (as.map (ev t)) H d r t Z R:=by
 simp only [WS,opA,v0m];generalize ev t x=y
 cases y <;> try rfl
 rename_i g _ _;cases g <;> rfl
@[simp] theorem P0M {E:Env} {fl fl':Nat} {t:a0W} {H:a0f} {R:a0A} {d:Option Nat} {r:List a0G} {Z:a0W→a0f→Prop} {f:FuncId} {p q:Array Value} {as:List Value} :
  v0m E fl fl' (.func (.func f) p q) as H d r t Z R=v0o E fl fl' f (p.toList ++ as ++ q.toList) H d r t Z R:=nr rfl
theorem o0Q {E:Env} {fl fl' fl2:Nat} {t t':a0W} {H:a0f} {R:a0A} {d:Option Nat} {r:List a0G} {Z:a0W→a0f→Prop} {f:FuncId} {as as':List Value} (h:as=as') (ht:t=t') (hf:fl' = fl2) :
  v0o E fl fl' f as H d r t Z R=v0o E fl fl2 f as' H d r t' Z R:=by rw [h,ht,hf]
attribute [congr] o0Q
section
variable {E:Env} {fl:Nat} {t:a0W} {H:a0f} {Z:a0W→a0f→Log→Prop} {lg:Log} {d:Option Nat} {r:List a0G}
def T0D (E:Env) (fl fl':Nat) (f:FuncId) (args:List Value) (H:a0f) (d:Option Nat) (r:List a0G) (t:a0W) (lg:Log) (Z:a0W→a0f→Log→Prop):Prop :=
 a0P E fl' f args H (fun v H'=>WRL E fl r (put t d v) H' lg Z) (fun _=>False)
@[simp ↓ high] theorem S0t {f:FuncId} {as:List Opd} {lone:Bool} :
  WS E fl t H (.call f as lone) (fun v H'=>WRL E fl r (put t d v) H' lg Z) (fun _=>False)=T0D E fl (if lone then fl else max fl H.size) f (as.map (ev t)) H d r t lg Z:=nr rfl
end
/-! ### heaps with one store more -/
section
variable {H G G3:a0f} {q p:Nat} {X r0:Blk} {ro:Bool} {e:TypeId} {cs:List Value}
theorem a0F (hS:Array.setIfInBounds G q X=G3) (hb:a0f.blk G p=r0) (h:q ≠ p):a0f.blk G3 p=r0:=by rw [← hS,b0g h];exact hb
theorem a0C (hS:Array.setIfInBounds G q X=G3) (hb:a0f.blk G q=.row ro e cs):a0f.blk G3 q=X:=by rw [← hS,a0R (a0k hb)]
theorem b0x (hS:Array.setIfInBounds G q X=G3) (hx:Ext H G) (h:H.size≤q):Ext H G3:=by rw [← hS];exact hx.set h
theorem Lim.setS {v:Value} {l:List Nat} (k:Lim G v l) (hS:Array.setIfInBounds G q X=G3) (hb:a0f.blk G q=.row ro e cs) (hne:e ≠ a0m):Lim G3 v l:=by rw [← hS];exact k.setT hb hne
theorem b0q.setS {v:Value} {i:Bool × List Nat} (k:b0q G v i) (hS:Array.setIfInBounds G q X=G3) (hb:a0f.blk G q=.row ro e cs) (hne:e ≠ a0m):b0q G3 v i:=by rw [← hS];exact k.setT hb hne
theorem new1 {z r:Blk} (hN:Array.setIfInBounds (Array.push G z) G.size r=G3):Ext G G3∧a0f.blk G3 G.size=r:=by
 rw [← hN];exact ⟨((Ext.refl G).push).set (by omega),by rw [a0R (by simp)]⟩
theorem k0C {z:Blk} (hN:Array.push G z=G3):Ext G G3∧a0f.blk G3 G.size=z:=by
 rw [← hN];exact ⟨(Ext.refl G).push,a0y⟩
end
def lz (z:Int):Nat:=(a0I z.natAbs).length
theorem o0f {z:Int} {k:Nat} (h:z.natAbs < 4294967296 ^ k):lz z≤k:=g0o h
theorem w0D (z:Int):z.natAbs < 4294967296 ^ lz z:=j0S _
theorem p0o {x y:Int} (h:x.natAbs≤y.natAbs):lz x≤lz y:=b0n h
theorem c0F (x y:Int):lz (x * y)≤lz x + lz y:=by
 refine o0f ?_
 rw [Int.natAbs_mul,Nat.pow_add]
 exact Nat.mul_lt_mul'' (w0D x) (w0D y)
theorem o0e (x y:Int):lz (x + y)≤max (lz x) (lz y) + 1:=by
 refine o0f ?_
 have h1:=w0D x
 have h2:=w0D y
 have h3:(4294967296:Nat) ^ lz x≤4294967296 ^ max (lz x) (lz y):=Nat.pow_le_pow_right (by omega) (by omega)
 have h4:(4294967296:Nat) ^ lz y≤4294967296 ^ max (lz x) (lz y):=Nat.pow_le_pow_right (by omega) (by omega)
 have:=Int.natAbs_add_le x y
 rw [Nat.pow_succ]
 omega
theorem e0s (x:Int):lz (-x)=lz x:=by unfold lz;rw [Int.natAbs_neg]
theorem f0b:lz 1=1:=by unfold lz;rw [e0m (by decide),show (1:Int).natAbs / 4294967296=0 from rfl,b0o];rfl
theorem c0L:lz 0=0:=by unfold lz;rw [show (0:Int).natAbs=0 from rfl,b0o];rfl
theorem a0j (z:Int):(a0n z).2.length=lz z:=rfl
theorem J0m {i:Bool × List Nat} (h:b0D i.2):lz (a0O i)≤i.2.length:=a0T h
end
/- rat: zero, none, one, May, right. -/
section
open Go
set_option maxHeartbeats 4000000
variable {fl:Nat} {H:a0f} {R:a0A} {v w:Value} {i j:Bool × List Nat}
abbrev b0R:=(Bool × List Nat) × (Bool × List Nat)
def b0X (H:a0f) (v:Value) (a:b0R):Prop:=∃ s u,v=.agg #[.bool a.1.1,s,.bool a.2.1,u]∧Lim H s a.1.2∧Lim H u a.2.2
variable {a b:b0R}
theorem b0X.mono {G:a0f} (h:b0X H v a) (hx:Ext H G):b0X G v a:=by obtain ⟨s,u,h1,h2,h3⟩:=h;exact ⟨s,u,h1,h2.mono hx,h3.mono hx⟩
theorem b0X.setT (h:b0X H v a) {p:Nat} {ro:Bool} {e':TypeId} {cs':List Value} {r:Blk} (hb:H.blk p=.row ro e' cs') (hne:e' ≠ a0m):b0X (H.setIfInBounds p r) v a:=by
 obtain ⟨s,u,h1,h2,h3⟩:=h;exact ⟨s,u,h1,h2.setT hb hne,h3.setT hb hne⟩
theorem b0X.setS {G3:a0f} {q:Nat} {X:Blk} {ro:Bool} {e:TypeId} {cs:List Value} (k:b0X H v a) (hS:Array.setIfInBounds H q X=G3) (hb:a0f.blk H q=.row ro e cs) (hne:e ≠ a0m):b0X G3 v a:=by rw [← hS];exact k.setT hb hne
def f0z (a:b0R):Nat:=max a.1.2.length a.2.2.length
def f0g (a:b0R):Bool:=!a.1.1 && a.1.2.length == 0 && !a.2.1 && a.2.2.length == 0
def r0D (a:b0R):Bool:=f0g a || (j0T a.1 && j0T a.2 && !a.2.1 && a0O a.2 != 0 && Int.gcd (a0O a.1) (a0O a.2) == 1)
def b0O (a:b0R):Rat:=if f0g a then 0 else if r0D a then Rat.divInt (a0O a.1) (a0O a.2) else 0
def a0e (x:Rat):b0R:=(a0n x.num,a0n x.den)
theorem l0x (hz:f0g a=false) (hm:r0D a=true):a0e (b0O a)=(a0n (a0O a.1),a0n (a0O a.2)):=by
 unfold b0O
 rw [hz,hm]
 unfold r0D at hm
 rw [hz,Bool.false_or] at hm
 simp only [Bool.and_eq_true,Bool.not_eq_true',bne_iff_ne,ne_eq,beq_iff_eq] at hm
 obtain ⟨⟨⟨⟨h1,h2⟩,h3⟩,h4⟩,h5⟩:=hm
 have hq:0 < a0O a.2:=by
  unfold a0O at h4 ⊢;rw [h2,h3] at h4 ⊢;simp at h4 ⊢;omega
 have hd:((a0O a.2).toNat:Int)=a0O a.2:=Int.toNat_of_nonneg (by omega)
 have h6:Rat.divInt (a0O a.1) (a0O a.2) = ⟨a0O a.1,(a0O a.2).toNat,by omega,by rw [Nat.Coprime,← h5,Int.gcd];congr 1;omega⟩:=by
  rw [Rat.mk_eq_divInt,hd]
 simp only [Bool.false_eq_true,if_false,if_true]
 rw [h6];unfold a0e;simp only [hd]
theorem j0z:a0e 0=((false,[]),a0n 1):=by
 show (a0n 0,a0n 1)=_;rw [d0n]
theorem k0A (x:Rat):f0g (a0e x)=false:=by
 have:=x.den_nz
 unfold f0g a0e
 have h:a0I (x.den:Int).natAbs ≠ []:=by rw [Ne,b0V];omega
 have h2:(a0I x.den).length ≠ 0:=by intro h3;exact h (List.length_eq_zero_iff.1 h3)
 simp [a0n];intro _ _;simpa using h2
theorem g0s (x:Rat):r0D (a0e x)=true:=by
 have h1:=x.den_nz
 have h2:=x.reduced
 unfold r0D
 rw [k0A,Bool.false_or]
 unfold a0e
 simp only [o0h,a0i,Bool.and_eq_true,Bool.not_eq_true',bne_iff_ne,beq_iff_eq]
 refine ⟨⟨⟨⟨trivial,trivial⟩,by simp [a0n]⟩,by omega⟩,?_⟩
 rw [Int.gcd,Int.natAbs_natCast];exact h2
theorem a0w (x:Rat):b0O (a0e x)=x:=by
 unfold b0O
 rw [k0A,g0s]
 simp only [Bool.false_eq_true,if_false,if_true]
 unfold a0e
 rw [a0i,a0i,Rat.num_divInt_den]
theorem h0K (h:b0X H v a) (hf:fl≤H.size):a0P env fl u0g [v] H (fun r H'=>r=.bool (f0g a)∧Ext H H') R:=by
 obtain ⟨s,u,rfl,hs,hu⟩:=h
 refine a0l U0E hf (h:=?_)
 intro ρ h0
 simp [H0u,x0V,h0]
 have hsl:=hs.slen
 have hul:=hu.slen
 cases h1:a.1.1
 ·by_cases h2:a.1.2=[]
  ·cases h3:a.2.1
   ·simp [k0h,h0,h1,h2,h3,hsl,hul,f0g]
   ·simp [k0h,h0,h1,h2,h3,hsl,hul,f0g]
  ·simp [k0h,h0,h1,h2,hsl,hul,f0g]
 ·simp [k0h,h0,h1,hsl,hul,f0g]
theorem h0J (h:b0q H v i) (hf:fl≤H.size) (hn:i.2.length < 536870912):a0P env fl u0i [v] H (fun r H'=>r=.bool (a0O i == 0)∧Ext H H') R:=by
 have k0:=h
 obtain ⟨s,rfl,hs⟩:=h
 refine a0l U0R hf (h:=?_)
 intro ρ h0
 simp [H0H,y0Y,y0Z,h0]
 refine (c0M (k0.mono (by simp)) (j:=(false,[])) ⟨_,rfl,Lim.nil⟩ (by simp) hn (by simp)).mono ?_
 rintro _ G2 ⟨rfl,hx2⟩
 have:a0O (false,[])=0:=by unfold a0O j0T;simp [a0D]
 rw [this]
 simp [b0T]
 intro _
 by_cases h1:a0O i < 0
 ·simp [h1];omega
 ·by_cases h2:0 < a0O i
  ·simp [h1,h2];omega
  ·simp [h1,h2];omega
theorem e0M (hf:fl≤H.size):a0P env fl p0h [] H (fun r H'=>b0q H' r (a0n 1)∧Ext H H') R:=by
 refine a0l U0F hf (h:=?_)
 intro ρ h0
 simp [H0v,x0W,x0X,h0]
 refine (c0i (by simp) (by omega) (by omega)).mono ?_
 rintro _ G2 ⟨⟨s,rfl,hs⟩,hx2⟩
 have b0:=hx2.blk a0y
 have hz:=a0k b0
 simp [b0,hs.cells,hs.plain,hz]
 exact fun _=>⟨s,rfl,hs.setT b0 (by decide)⟩
theorem g0d (h:b0X H v a) (hf:fl≤H.size) (hn:f0z a < 536870912):a0P env fl N0o [v] H (fun r H'=>r=.bool (r0D a)∧Ext H H') R:=by
 have k0:=h
 have hn1:a.1.2.length < 536870912:=by unfold f0z at hn;omega
 have hn2:a.2.2.length < 536870912:=by unfold f0z at hn;omega
 obtain ⟨s,u,rfl,hs,hu⟩:=h
 have k1:b0q H (.agg #[.bool a.1.1,s]) a.1:=⟨s,rfl,hs⟩
 have k2:b0q H (.agg #[.bool a.2.1,u]) a.2:=⟨u,rfl,hu⟩
 refine a0l X0k hf (h:=?_)
 intro ρ h0
 simp [T0z,M0n,h0]
 generalize hG:Array.push H _=G
 have hx2:Ext H G:=by rw [← hG];simp
 have b0:a0f.blk G H.size=.row false a0d [.bool a.1.1,s,.bool a.2.1,u]:=by rw [← hG];simp
 have hx:=Ext.refl H
 clear hG
 replace hx:=hx.trans hx2;replace k0:=k0.mono hx2;replace k1:=k1.mono hx2;replace k2:=k2.mono hx2
 simp [M0o,h0,b0]
 refine (h0K k0 hx.1).mono ?_
 rintro _ G2 ⟨rfl,hx2⟩
 replace b0:=hx2.blk b0;replace hx:=hx.trans hx2;replace k1:=k1.mono hx2;replace k2:=k2.mono hx2
 unfold r0D
 cases hz:f0g a
 case true=>simp [M0p]
 simp [M0q,h0,b0]
 refine (e0I k1 hx.1 (by omega)).mono ?_
 rintro _ G2 ⟨rfl,hx2⟩
 replace b0:=hx2.blk b0;replace hx:=hx.trans hx2;replace k1:=k1.mono hx2;replace k2:=k2.mono hx2
 cases h1:j0T a.1
 case false=>simp
 simp [h0,b0]
 refine (e0I k2 hx.1 (by omega)).mono ?_
 rintro _ G2 ⟨rfl,hx2⟩
 replace b0:=hx2.blk b0;replace hx:=hx.trans hx2;replace k1:=k1.mono hx2;replace k2:=k2.mono hx2
 cases h2:j0T a.2
 case false=>simp
 cases h3:a.2.1
 case true=>simp [h0,b0,h3]
 simp [h0,b0,h3]
 rw [← h3]
 refine (h0J k2 hx.1 hn2).mono ?_
 rintro _ G2 ⟨rfl,hx2⟩
 replace b0:=hx2.blk b0;replace hx:=hx.trans hx2;replace k1:=k1.mono hx2;replace k2:=k2.mono hx2
 by_cases h4:a0O a.2=0
 ·simp [h4]
  exact fun _=>h3
 have h4':(a0O a.2 == 0)=false:=by simp [h4]
 simp [h0,b0,h4,h4',h3]
 rw [← h3]
 refine (e0H k1 k2 hx.1 hn1 hn2).mono ?_
 rintro x G2 ⟨k3,hx2⟩
 replace hx:=hx.trans hx2;replace k2:=k2.mono hx2
 try simp [h0]
 refine (e0M hx.1).mono ?_
 rintro y G2 ⟨k4,hx2⟩
 replace hx:=hx.trans hx2;replace k2:=k2.mono hx2;replace k3:=k3.mono hx2
 try simp [h0]
 have hgl:(a0n ((Int.gcd (a0O a.1) (a0O a.2):Nat):Int)).2.length < 536870912:=by
  rw [a0s]
  show (a0I _).length < _
  have h5:Int.gcd (a0O a.1) (a0O a.2)≤(a0O a.2).natAbs:=Int.gcd_le_natAbs_right _ h4
  have:=b0n h5
  have:=a0T k2.ok
  omega
 refine (c0M k3 k4 hx.1 hgl (by rw [a0j,f0b];decide)).mono ?_
 rintro _ G2 ⟨rfl,hx2⟩
 rw [a0i,a0i]
 simp
 intro _
 generalize Int.gcd (a0O a.1) (a0O a.2)=g
 have h6:(b0T (g:Int) 1 == 0)=(g == 1):=by
  unfold b0T
  by_cases hg:g=1
  ·subst hg;rfl
  ·have e:(g == 1)=false:=by simp [hg]
   rw [e];split
   ·rfl
   ·rename_i h7;split
    ·rfl
    ·omega
 simp [h3,h4,h6]
theorem b0H (h:b0X H v a) (hf:fl≤H.size) (hn:f0z a < 536870912):a0P env fl u0y [v] H (fun r H'=>b0X H' r (a0e (b0O a))∧Ext H H') R:=by
 have k0:=h
 have hn1:a.1.2.length < 536870912:=by unfold f0z at hn;omega
 have hn2:a.2.2.length < 536870912:=by unfold f0z at hn;omega
 obtain ⟨s,u,rfl,hs,hu⟩:=h
 have k1:b0q H (.agg #[.bool a.1.1,s]) a.1:=⟨s,rfl,hs⟩
 have k2:b0q H (.agg #[.bool a.2.1,u]) a.2:=⟨u,rfl,hu⟩
 refine a0l X0b hf (h:=?_)
 intro ρ h0
 simp [T0q,L0z,h0]
 generalize hG:Array.push (Array.push H _) _=G
 have hx2:Ext H G:=by rw [← hG];simp
 have b0:a0f.blk G H.size=.row false a0d [.bool a.1.1,s,.bool a.2.1,u]:=by rw [← hG];simp
 have b1:a0f.blk G (H.size + 1)=.row false a0d [.bool false,.slice none 0 0,.bool false,.slice none 0 0]:=by rw [← hG];simp
 have hx:=Ext.refl H
 clear hG
 replace hx:=hx.trans hx2;replace k0:=k0.mono hx2;replace k1:=k1.mono hx2;replace k2:=k2.mono hx2
 simp [L0A,h0,b0]
 refine (h0K k0 hx.1).mono ?_
 rintro _ G2 ⟨rfl,hx2⟩
 replace b0:=hx2.blk b0;replace b1:=hx2.blk b1;replace hx:=hx.trans hx2;replace k0:=k0.mono hx2;replace k1:=k1.mono hx2;replace k2:=k2.mono hx2
 cases hz0:f0g a
 case true =>
  have hval:b0O a=0:=by unfold b0O;rw [hz0];rfl
  simp [E0M,h0]
  refine (e0M hx.1).mono ?_
  rintro _ G2 ⟨⟨s1,rfl,hs1⟩,hx2⟩
  replace b0:=hx2.blk b0;replace b1:=hx2.blk b1;replace hx:=hx.trans hx2;replace k0:=k0.mono hx2;replace k1:=k1.mono hx2;replace k2:=k2.mono hx2
  have hz:=a0k b1
  simp [h0,b1,hs1.cells,hs1.plain,hz]
  refine fun _=>?_
  rw [hval,j0z]
  exact ⟨_,s1,rfl,Lim.nil,hs1.setT b1 (by decide)⟩
 simp [h0,b0]
 refine (g0d k0 hx.1 hn).mono ?_
 rintro _ G2 ⟨rfl,hx2⟩
 replace b0:=hx2.blk b0;replace b1:=hx2.blk b1;replace hx:=hx.trans hx2;replace k1:=k1.mono hx2;replace k2:=k2.mono hx2
 cases hm:r0D a
 case false =>
  have hval:b0O a=0:=by unfold b0O;rw [hz0,hm];rfl
  simp [E0M,h0]
  refine (e0M hx.1).mono ?_
  rintro _ G2 ⟨⟨s1,rfl,hs1⟩,hx2⟩
  replace b0:=hx2.blk b0;replace b1:=hx2.blk b1;replace hx:=hx.trans hx2;replace k1:=k1.mono hx2;replace k2:=k2.mono hx2
  have hz:=a0k b1
  simp [h0,b1,hs1.cells,hs1.plain,hz]
  refine fun _=>?_
  rw [hval,j0z]
  exact ⟨_,s1,rfl,Lim.nil,hs1.setT b1 (by decide)⟩
 rw [l0x hz0 hm]
 simp [h0]
 refine a0v ?_
 simp [L0B,h0,b0]
 have hv0:a0O (false,[])=0:=by unfold a0O j0T;simp [a0D]
 refine (e0G k1 (j:=(false,[])) ⟨_,rfl,Lim.nil⟩ (by have:=hx.1;omega) hn1 (by simp)).mono ?_
 rintro _ G2 ⟨⟨s1,rfl,k3⟩,hx2⟩
 replace b0:=hx2.blk b0;replace b1:=hx2.blk b1;replace hx:=hx.trans hx2;replace k2:=k2.mono hx2
 rw [hv0,Int.add_zero] at k3 ⊢
 try simp [h0,b0]
 refine (e0G k2 (j:=(false,[])) ⟨_,rfl,Lim.nil⟩ hx.1 hn2 (by simp)).mono ?_
 rintro _ G2 ⟨⟨s2,rfl,k4⟩,hx2⟩
 replace b1:=hx2.blk b1;replace hx:=hx.trans hx2;replace k3:=k3.mono hx2
 rw [hv0,Int.add_zero] at k4 ⊢
 have hz:=a0k b1
 simp [h0,b1,k3.cells,k3.plain,k4.cells,k4.plain,hz]
 exact fun _=>⟨s1,s2,rfl,k3.setT b1 (by decide),k4.setT b1 (by decide)⟩
end
/- Quotients: plain laws. -/
section
open Go
def szR (x:Rat):Nat:=max (lz x.num) (lz x.den)
theorem a0x (x:Rat):f0z (a0e x)=szR x:=rfl
theorem F0r (x:Rat):1≤szR x:=by
 unfold szR
 have:lz x.den ≠ 0:=by
  unfold lz
  intro h
  have:=b0V.1 (List.length_eq_zero_iff.1 h)
  have:=x.den_nz
  omega
 omega
theorem g0u:szR 0=1:=by show max (lz 0) (lz 1)=1;rw [c0L,f0b];rfl
theorem q0Q:szR 1=1:=by show max (lz 1) (lz 1)=1;rw [f0b];rfl
theorem q0P (z:Int):szR (z:Rat)=max (lz z) 1:=by
 unfold szR;rw [Rat.num_intCast,Rat.den_intCast];show max (lz z) (lz 1)=_;rw [f0b]
theorem b0k (p q:Int):szR (Rat.divInt p q)≤max (max (lz p) (lz q)) 1:=by
 unfold szR
 rw [Rat.num_divInt,Rat.den_divInt]
 have h1:lz (q.sign * p / ↑(q.gcd p))≤lz p:=by
  refine p0o ?_
  rw [Int.natAbs_ediv_of_dvd]
  ·refine Nat.le_trans (Nat.div_le_self _ _) ?_
   rw [Int.natAbs_mul]
   have : q.sign.natAbs ≤ 1 := by rcases Int.lt_trichotomy q 0 with h | h | h
                                  ·rw [Int.sign_eq_neg_one_of_neg h];decide
                                  ·rw [h];decide
                                  ·rw [Int.sign_eq_one_of_pos h];decide
   calc _≤1 * p.natAbs:=Nat.mul_le_mul_right _ this
    _=_:=Nat.one_mul _
  ·exact Int.dvd_mul_of_dvd_right (Int.gcd_dvd_right ..)
 have h2:lz ((if q=0 then 1 else q.natAbs / q.gcd p:Nat):Int)≤max (lz q) 1:=by
  split
  ·show lz 1≤_;rw [f0b];omega
  ·have:lz ((q.natAbs / q.gcd p:Nat):Int)≤lz q:=p0o (by rw [Int.natAbs_natCast];exact Nat.div_le_self _ _)
   omega
 omega
theorem i0K (n:Int) (d:Nat):mkRat n d=Rat.divInt n d:=rfl
theorem k0V (x y:Rat):x + y=Rat.divInt (x.num * y.den + y.num * x.den) (x.den * y.den):=by rw [Rat.add_def',i0K,Int.natCast_mul]
theorem l0n (x y:Rat):x * y=Rat.divInt (x.num * y.num) (x.den * y.den):=by rw [Rat.mul_def',i0K,Int.natCast_mul]
theorem l0b (x y:Rat):x / y=Rat.divInt (x.num * y.den) (x.den * y.num):=by
 rw [Rat.div_def,Rat.inv_def]
 conv=>lhs;lhs;rw [← Rat.num_divInt_den x]
 rw [Rat.divInt_mul_divInt]
theorem O0Z (x y:Rat):szR (x + y)≤szR x + szR y + 1:=by
 rw [k0V]
 refine Nat.le_trans (b0k _ _) ?_
 have h1:=o0e (x.num * y.den) (y.num * x.den)
 have h2:=c0F x.num y.den
 have h3:=c0F y.num x.den
 have h4:=c0F (x.den:Int) y.den
 unfold szR;omega
theorem h0b (x y:Rat):szR (x * y)≤szR x + szR y:=by
 rw [l0n]
 refine Nat.le_trans (b0k _ _) ?_
 have h2:=c0F x.num y.num
 have h4:=c0F (x.den:Int) y.den
 have:=F0r x
 unfold szR at *;omega
theorem P0b (x:Rat):szR (-x)=szR x:=by unfold szR;rw [Rat.neg_num,Rat.neg_den,e0s]
theorem P0a (x y:Rat):szR (x / y)≤szR x + szR y:=by
 rw [l0b]
 refine Nat.le_trans (b0k _ _) ?_
 have h2:=c0F x.num y.den
 have h4:=c0F (x.den:Int) y.num
 have:=F0r x
 unfold szR at *;omega
theorem b0U {a:b0R} (h1:b0D a.1.2) (h2:b0D a.2.2):szR (b0O a)≤max (f0z a) 1:=by
 by_cases hz:f0g a=true
 ·have:b0O a=0:=by unfold b0O;rw [hz];rfl
  rw [this,g0u];omega
 ·by_cases hm:r0D a=true
  ·have h3:=l0x (by simpa using hz) hm
   have h4:=a0x (b0O a)
   rw [h3] at h4
   rw [← h4]
   have:=J0m h1
   have:=J0m h2
   unfold f0z;simp only [a0j];omega
  ·have:b0O a=0:=by unfold b0O;simp [hz,hm]
   rw [this,g0u];omega
theorem x0u {p q g:Int} (hq:q ≠ 0) (hg:g=if q < 0 then -(Int.gcd p q:Int) else (Int.gcd p q:Int)):a0e (Rat.divInt p q)=(a0n (p.tdiv g),a0n (q.tdiv g))∧g ≠ 0:=by
 have hgp:0 < Int.gcd p q:=Int.gcd_pos_of_ne_zero_right _ hq
 have hg0:g ≠ 0:=by rw [hg];split <;> omega
 refine ⟨?_,hg0⟩
 have hdp : g ∣ p := by rw [hg]; split
                        ·exact Int.neg_dvd.2 (Int.gcd_dvd_left ..)
                        ·exact Int.gcd_dvd_left ..
 have hdq : g ∣ q := by rw [hg]; split
                        ·exact Int.neg_dvd.2 (Int.gcd_dvd_right ..)
                        ·exact Int.gcd_dvd_right ..
 have hna:g.natAbs=Int.gcd p q:=by rw [hg];split <;> simp
 have e1:=Int.tdiv_mul_cancel hdp
 have e2:=Int.tdiv_mul_cancel hdq
 have hcop:Int.gcd (p.tdiv g) (q.tdiv g)=1:=by
  have h1:Int.gcd (p.tdiv g * g) (q.tdiv g * g)=Int.gcd (p.tdiv g) (q.tdiv g) * g.natAbs:=Int.gcd_mul_right ..
  rw [e1,e2,hna] at h1
  have h2:1 * Int.gcd p q=Int.gcd (p.tdiv g) (q.tdiv g) * Int.gcd p q:=by rw [Nat.one_mul];exact h1
  exact (Nat.eq_of_mul_eq_mul_right hgp h2).symm
 have hpos:0 < q.tdiv g:=by
  by_cases hq0:q < 0
  ·have:g < 0:=by rw [hg,if_pos hq0];omega
   by_cases h:0 < q.tdiv g
   ·exact h
   ·have:=Int.mul_nonneg_of_nonpos_of_nonpos (a:=q.tdiv g) (b:=g) (by omega) (by omega);omega
  ·have:0 < g:=by rw [hg,if_neg hq0];omega
   by_cases h:0 < q.tdiv g
   ·exact h
   ·have:=Int.mul_nonpos_of_nonpos_of_nonneg (a:=q.tdiv g) (b:=g) (by omega) (by omega);omega
 have h3:Rat.divInt p q=Rat.divInt (p.tdiv g) (q.tdiv g):=by
  have h:=Rat.divInt_mul_right (n:=p.tdiv g) (d:=q.tdiv g) hg0
  rw [e1,e2] at h;exact h
 generalize p.tdiv g=x at *
 generalize q.tdiv g=y at *
 have hd:((y.toNat:Nat):Int)=y:=Int.toNat_of_nonneg (by omega)
 have h6:Rat.divInt x y = ⟨x,y.toNat,by omega,by rw [Nat.Coprime,← hcop,Int.gcd];congr 1;omega⟩:=by
  rw [Rat.mk_eq_divInt,hd]
 rw [h3,h6];unfold a0e;simp only [hd]
def Q0x (x y:Rat):Int:=if x < y then -1 else if y < x then 1 else 0
theorem N0e (x y:Rat):b0T (x.num * y.den) (y.num * x.den)=Q0x x y:=by
 unfold b0T Q0x
 simp only [Rat.lt_iff,gt_iff_lt]
end
/- rat: Quo, least, fold, Add, Mul, Cmp, Of. -/
section
open Go
set_option maxHeartbeats 4000000
variable {fl:Nat} {H:a0f} {R:a0A} {v w:Value} {i j:Bool × List Nat} {a b:b0R}
theorem b0q.cells {i:Bool × List Nat} (h:b0q H v i):(a0K v).length=2∧(a0K v).all a0u=true:=by
 obtain ⟨s,rfl,hs⟩:=h;simp [hs.plain]
theorem d0o (h:b0q H v i) (k:b0q H w j) (hf:fl≤H.size) (hn:i.2.length < 536870912) (hm:j.2.length < 536870912) (hj0:a0O j ≠ 0) :
  a0P env fl l0T [v,w] H (fun r H'=>(∃ q,r=.tuple #[q,.int .i64 0]∧b0X H' q (a0e (Rat.divInt (a0O i) (a0O j))))∧Ext H H') R:=by
 have k0:=h
 have k1:=k
 obtain ⟨s,rfl,hs⟩:=h
 obtain ⟨u,rfl,hu⟩:=k
 refine a0l U0G hf (h:=?_)
 intro ρ h0
 simp [H0w,x0Y,h0]
 generalize hG:Array.push (Array.push (Array.push H _) _) _=G
 have hx:Ext H G:=by rw [← hG];exact (Ext.refl H).push.push.push
 have b0:a0f.blk G H.size=.row false a0c [.bool i.1,s]:=by rw [← hG];simp
 have b1:a0f.blk G (H.size + 1)=.row false a0c [.bool j.1,u]:=by rw [← hG];simp
 have b2:a0f.blk G (H.size + 2)=.row false a0d [.bool false,.slice none 0 0,.bool false,.slice none 0 0]:=by rw [← hG];simp
 clear hG
 replace k0:=k0.mono hx
 replace k1:=k1.mono hx
 have l1:=a0T k0.ok
 have l2:=a0T k1.ok
 simp [x0Z,h0,b1]
 refine (h0J k1 hx.1 hm).mono ?_
 rintro _ G2 ⟨rfl,hx2⟩
 replace b0:=hx2.blk b0;replace b1:=hx2.blk b1;replace b2:=hx2.blk b2;replace hx:=hx.trans hx2;replace k0:=k0.mono hx2;replace k1:=k1.mono hx2
 have hj0':(a0O j == 0)=false:=by simp [hj0]
 simp [hj0',hj0,y0a,h0,b0,b1]
 refine (e0H k0 k1 hx.1 hn hm).mono ?_
 rintro x G2 ⟨⟨s1,rfl,k2⟩,hx2⟩
 replace b0:=hx2.blk b0;replace b1:=hx2.blk b1;replace b2:=hx2.blk b2;replace hx:=hx.trans hx2;replace k0:=k0.mono hx2;replace k1:=k1.mono hx2
 have hsz:=hx.1
 simp [h0,k2.cells,k2.plain,hsz]
 generalize hN:Array.setIfInBounds (Array.push _ _) _ _=G3
 obtain ⟨hx2,b3⟩:=new1 hN
 have hb2l:=a0k b2
 replace b0:=hx2.blk b0;replace b1:=hx2.blk b1;replace b2:=hx2.blk b2;replace hx:=hx.trans hx2;replace k0:=k0.mono hx2;replace k1:=k1.mono hx2;replace k2:=k2.mono hx2
 clear hN
 obtain ⟨P,hP⟩:∃ P,P=G2.size:=⟨_,rfl⟩
 rw [← hP] at b3 hsz hb2l ⊢
 have hgl:lz (Int.gcd (a0O i) (a0O j):Int) < 536870912:=by
  have h5:Int.gcd (a0O i) (a0O j)≤(a0O j).natAbs:=Int.gcd_le_natAbs_right _ hj0
  have:lz (Int.gcd (a0O i) (a0O j):Int)≤(a0I (a0O j).natAbs).length:=b0n (by simpa using h5)
  omega
 simp [y0b,h0,b1]
 refine (c0M k1 (j:=(false,[])) ⟨_,rfl,Lim.nil⟩ hx.1 hm (by simp)).mono ?_
 rintro _ G2 ⟨rfl,hx2⟩
 replace b0:=hx2.blk b0;replace b1:=hx2.blk b1;replace b2:=hx2.blk b2;replace b3:=hx2.blk b3;replace hx:=hx.trans hx2;replace k0:=k0.mono hx2;replace k1:=k1.mono hx2;replace k2:=k2.mono hx2
 have hv0:a0O (false,[])=0:=by unfold a0O j0T;simp [a0D]
 rw [hv0]
 obtain ⟨g,hg⟩:∃ g,g=if a0O j < 0 then -(Int.gcd (a0O i) (a0O j):Int) else (Int.gcd (a0O i) (a0O j):Int):=⟨_,rfl⟩
 obtain ⟨hq,hg0⟩:=x0u (p:=a0O i) hj0 hg
 rw [hq]
 have hgl2:lz g < 536870912:=by rw [hg];split;rw [e0s];exact hgl;exact hgl
 by_cases hneg:a0O j < 0
 ·have hcz:b0T (a0O j) 0 < 0:=by unfold b0T;rw [if_pos hneg];omega
  simp [hcz,y0c,h0,b3]
  refine (e0J (i:=a0n (Int.gcd (a0O i) (a0O j))) ⟨s1,rfl,k2⟩ hx.1 (by rw [a0j];omega)).mono ?_
  rintro _ G2 ⟨⟨s2,rfl,k6⟩,hx2⟩
  replace b0:=hx2.blk b0;replace b1:=hx2.blk b1;replace b2:=hx2.blk b2;replace b3:=hx2.blk b3;replace hx:=hx.trans hx2;replace k0:=k0.mono hx2;replace k1:=k1.mono hx2;replace k2:=k2.mono hx2
  rw [a0i] at k6 ⊢
  rw [if_pos hneg] at hg
  rw [← hg] at k6 ⊢
  have hz:=a0k b3
  simp [h0,b3,k6.cells,k6.plain,hsz]
  generalize hS:Array.setIfInBounds _ _ _=G3
  have hsz:=hx.1;replace k0:=k0.setS hS b3 (by decide);replace k1:=k1.setS hS b3 (by decide);replace k2:=k2.setS hS b3 (by decide);replace k6:=k6.setS hS b3 (by decide);replace b0:=a0F hS b0 (by omega);replace b1:=a0F hS b1 (by omega);replace b2:=a0F hS b2 (by omega);replace hx:=b0x hS hx (by omega);replace b3:=a0C hS b3;clear hS hsz
  clear k2
  have k2:=k6
  clear k6
  obtain ⟨s1,rfl⟩:∃ s1,s1=s2:=⟨_,rfl⟩
  simp [p0D,h0,b0,b3]
  refine (b0S k0 ⟨s1,rfl,k2⟩ hx.1 hn (by rw [a0j];exact hgl2) (by rw [a0i];exact hg0)).mono ?_
  rintro _ G2 ⟨⟨_,_,rfl,⟨s3,rfl,k3⟩,k4⟩,hx2⟩
  replace b0:=hx2.blk b0;replace b1:=hx2.blk b1;replace b2:=hx2.blk b2;replace b3:=hx2.blk b3;replace hx:=hx.trans hx2;replace k0:=k0.mono hx2;replace k1:=k1.mono hx2;replace k2:=k2.mono hx2
  rw [a0i] at k3 ⊢
  have hz:=a0k b0
  simp [h0,b0,k3.cells,k3.plain,hz]
  generalize hS:Array.setIfInBounds _ _ _=G3
  have hsz:=hx.1;replace k0:=k0.setS hS b0 (by decide);replace k1:=k1.setS hS b0 (by decide);replace k2:=k2.setS hS b0 (by decide);replace k3:=k3.setS hS b0 (by decide);replace k4:=k4.setS hS b0 (by decide);replace b1:=a0F hS b1 (by omega);replace b2:=a0F hS b2 (by omega);replace b3:=a0F hS b3 (by omega);replace hx:=b0x hS hx (by omega);replace b0:=a0C hS b0;clear hS hsz
  simp [p0E,h0,b1,b3]
  refine (b0S k1 ⟨s1,rfl,k2⟩ hx.1 hm (by rw [a0j];exact hgl2) (by rw [a0i];exact hg0)).mono ?_
  rintro _ G2 ⟨⟨_,_,rfl,⟨s4,rfl,k4⟩,k5⟩,hx2⟩
  replace b0:=hx2.blk b0;replace b1:=hx2.blk b1;replace b2:=hx2.blk b2;replace b3:=hx2.blk b3;replace hx:=hx.trans hx2;replace k0:=k0.mono hx2;replace k1:=k1.mono hx2;replace k2:=k2.mono hx2;replace k3:=k3.mono hx2
  rw [a0i] at k4 ⊢
  have hz:=a0k b1
  simp [h0,b1,k4.cells,k4.plain,hz]
  generalize hS:Array.setIfInBounds _ _ _=G3
  have hsz:=hx.1;replace k0:=k0.setS hS b1 (by decide);replace k1:=k1.setS hS b1 (by decide);replace k2:=k2.setS hS b1 (by decide);replace k3:=k3.setS hS b1 (by decide);replace k4:=k4.setS hS b1 (by decide);replace k5:=k5.setS hS b1 (by decide);replace b0:=a0F hS b0 (by omega);replace b2:=a0F hS b2 (by omega);replace b3:=a0F hS b3 (by omega);replace hx:=b0x hS hx (by omega);replace b1:=a0C hS b1;clear hS hsz
  have hz:=a0k b2
  simp [p0F,h0,b0,b1,b2,k3.cells,k3.plain,k4.cells,k4.plain,hz]
  exact fun _=>⟨s3,s4,rfl,k3.setT b2 (by decide),k4.setT b2 (by decide)⟩
 ·have hcz:¬ b0T (a0O j) 0 < 0:=by unfold b0T;rw [if_neg hneg];split <;> omega
  rw [if_neg hneg] at hg
  rw [← hg] at k2 b3
  simp [hcz]
  simp [p0D,h0,b0,b3]
  refine (b0S k0 ⟨s1,rfl,k2⟩ hx.1 hn (by rw [a0j];exact hgl2) (by rw [a0i];exact hg0)).mono ?_
  rintro _ G2 ⟨⟨_,_,rfl,⟨s3,rfl,k3⟩,k4⟩,hx2⟩
  replace b0:=hx2.blk b0;replace b1:=hx2.blk b1;replace b2:=hx2.blk b2;replace b3:=hx2.blk b3;replace hx:=hx.trans hx2;replace k0:=k0.mono hx2;replace k1:=k1.mono hx2;replace k2:=k2.mono hx2
  rw [a0i] at k3 ⊢
  have hz:=a0k b0
  simp [h0,b0,k3.cells,k3.plain,hz]
  generalize hS:Array.setIfInBounds _ _ _=G3
  have hsz:=hx.1;replace k0:=k0.setS hS b0 (by decide);replace k1:=k1.setS hS b0 (by decide);replace k2:=k2.setS hS b0 (by decide);replace k3:=k3.setS hS b0 (by decide);replace k4:=k4.setS hS b0 (by decide);replace b1:=a0F hS b1 (by omega);replace b2:=a0F hS b2 (by omega);replace b3:=a0F hS b3 (by omega);replace hx:=b0x hS hx (by omega);replace b0:=a0C hS b0;clear hS hsz
  simp [p0E,h0,b1,b3]
  refine (b0S k1 ⟨s1,rfl,k2⟩ hx.1 hm (by rw [a0j];exact hgl2) (by rw [a0i];exact hg0)).mono ?_
  rintro _ G2 ⟨⟨_,_,rfl,⟨s4,rfl,k4⟩,k5⟩,hx2⟩
  replace b0:=hx2.blk b0;replace b1:=hx2.blk b1;replace b2:=hx2.blk b2;replace b3:=hx2.blk b3;replace hx:=hx.trans hx2;replace k0:=k0.mono hx2;replace k1:=k1.mono hx2;replace k2:=k2.mono hx2;replace k3:=k3.mono hx2
  rw [a0i] at k4 ⊢
  have hz:=a0k b1
  simp [h0,b1,k4.cells,k4.plain,hz]
  generalize hS:Array.setIfInBounds _ _ _=G3
  have hsz:=hx.1;replace k0:=k0.setS hS b1 (by decide);replace k1:=k1.setS hS b1 (by decide);replace k2:=k2.setS hS b1 (by decide);replace k3:=k3.setS hS b1 (by decide);replace k4:=k4.setS hS b1 (by decide);replace k5:=k5.setS hS b1 (by decide);replace b0:=a0F hS b0 (by omega);replace b2:=a0F hS b2 (by omega);replace b3:=a0F hS b3 (by omega);replace hx:=b0x hS hx (by omega);replace b1:=a0C hS b1;clear hS hsz
  have hz:=a0k b2
  simp [p0F,h0,b0,b1,b2,k3.cells,k3.plain,k4.cells,k4.plain,hz]
  exact fun _=>⟨s3,s4,rfl,k3.setT b2 (by decide),k4.setT b2 (by decide)⟩
end
end Go.Proofs.YtjlohmnnldbjoaaGreat.AI
