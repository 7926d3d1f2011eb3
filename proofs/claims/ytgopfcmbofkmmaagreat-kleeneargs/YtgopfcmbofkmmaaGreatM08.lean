/- Part 9 of the proof. -/
import Derived.Test.YtgopfcmbofkmmaaGreatRows
import Derived.Test.YtgopfcmbofkmmaaGreatM07
set_option linter.unusedVariables false
set_option linter.unusedSimpArgs false
set_option linter.unusedSectionVars false
set_option maxHeartbeats 4000000
namespace Go.Proofs.YtgopfcmbofkmmaaGreat.AI
open Go
section
set_option maxRecDepth 20000
variable {fl:Nat} {H G:a0c} {R:a0P} {v w:Value} {a b:List Nat}
theorem p0r {e p o n c:Nat} {cs:List Value} (hb:G.bk p=.row false e cs):elemOk G e (.slice (some ⟨p,o,none⟩) n c)=true:=by
 unfold elemOk;simp only [hb];simp
theorem n0j {p o n cap lo hi:Nat} {x y:Option Value} (j:bnd 0 x=some lo) (k:bnd n y=some hi) (c:lo<=hi) (h:hi<=n) :
  d0s 1 (.slice (some ⟨p,o,none⟩) n cap) x y none=some (.slice (some ⟨p,o + lo,none⟩) (hi - lo) (if cap=unk then unk else cap - lo)):=by
 unfold d0s;simp only [j,k];rw [M1Z ⟨c,h⟩];simp
theorem z0m {p o n cap:Nat} {ro:Bool} {L:List Nat} (hb:G.bk p=.row ro a0b (b0C L)) (h:b0g L) (k:o + n<=L.length):Lim G (.slice (some ⟨p,o,none⟩) n cap) ((L.drop o).take n):=by
 have c:((L.drop o).take n).length=n:=by simp;omega
 refine ⟨⟨by simp [c],.inr ⟨p,o,cap,ro,b0C L,by rw [c],hb,by simp [c];omega,?_⟩⟩,fun x j=>h x (List.mem_of_mem_drop (O1n j))⟩
 rw [c,N1W];simp [b0C,List.map_take,List.map_drop]
theorem z0B {L:List Nat} {o:Nat}:∀ {n:Nat},o + n<=L.length->a0q ((L.drop o).take n)=win L o n
 | 0,_=>by simp [a0q,win]
 | n + 1,h=>by
  rw [a0H (by simp;omega),z0B (by omega),win]
  simp [M1R]
theorem F1q {b:List Nat} {k n:Nat} (c:b0g b) (w:b.length=k + 1) (x:n<=31) (h:b.getD k 0 * 2 ^ n < 4294967296):a0q b * 2 ^ n < 4294967296 ^ (k + 1):=by
 have j:a0q b=win b 0 k + 4294967296 ^ k * b.getD k 0:=by
  rw [<- k0Q (L:=b) (n:=k + 1) (by omega),win,N1q]
 have u:=l0o c 0 k
 have q:(b.getD k 0 + 1) * 2 ^ n<=4294967296:=by
  obtain ⟨m,s⟩:∃ m,4294967296=m * 2 ^ n:=⟨2 ^ (32 - n),by rw [<- O1S,show 32 - n + n=32 by omega]⟩
  rw [s] at h ⊢
  exact N1e _ (O1X h)
 have r:a0q b < 4294967296 ^ k * (b.getD k 0 + 1):=by rw [j,N1a,N1W];omega
 have hp:0 < 2 ^ n:=O1T n
 calc a0q b * 2 ^ n < 4294967296 ^ k * (b.getD k 0 + 1) * 2 ^ n:=Nat.mul_lt_mul_of_pos_right r hp
  _=4294967296 ^ k * ((b.getD k 0 + 1) * 2 ^ n):=N1h ..
  _<=4294967296 ^ k * 4294967296:=N1w _ q
  _=4294967296 ^ (k + 1):=(N1m ..).symm
theorem S0e {o:List Nat} {k:Nat} (ho:o.length=k + 1) (h:a0q o < 4294967296 ^ k):a0q (o.take k)=a0q o:=by
 have j:a0q o=a0q (o.take k) + 4294967296 ^ k * o.getD k 0:=by
  rw [<- a0H (by omega),N1c (by omega)]
 have:o.getD k 0=0:=by
  by_cases c:o.getD k 0=0
  ·exact c
  ·have:=Nat.le_mul_of_pos_right (4294967296 ^ k) (by omega:0 < o.getD k 0);omega
 rw [this] at j;omega
theorem F1p {b:List Nat} {k n:Nat} (j:b.length=k + 1) (h:2147483648<=b.getD k 0 * 2 ^ n):2147483648 * 4294967296 ^ k<=a0q b * 2 ^ n:=by
 have c:a0q b=win b 0 k + 4294967296 ^ k * b.getD k 0:=by
  rw [<- k0Q (L:=b) (n:=k + 1) (by omega),win,N1q]
 rw [c,N1t,N1h,N1p 2147483648]
 have:=N1w (4294967296 ^ k) h
 omega
theorem H0g {x y la k n B:Nat} (c:x < B ^ la) (j:2 ^ n<=2147483648) (h:2147483648 * B ^ k<=y):x * 2 ^ n < y * B ^ (la - k) ∨ la < k:=by
 by_cases q:k<=la
 ·left
  have hp:0 < 2 ^ n:=O1T n
  calc x * 2 ^ n < B ^ la * 2 ^ n:=Nat.mul_lt_mul_of_pos_right c hp
   _<=B ^ la * 2147483648:=N1w _ j
   _=2147483648 * B ^ k * B ^ (la - k):=by rw [N1h,<- O1S,show k + (la - k)=la by omega,N1p]
   _<=y * B ^ (la - k):=N1e _ h
 ·right;omega
theorem Won.trans {L X Y:List Nat} {o n:Nat} (h:Won L X o n) (k:Won X Y o n):Won L Y o n:=⟨k.1.trans h.1,k.2.1,fun j c=>(k.2.2 j c).trans (h.2.2 j c)⟩
theorem F1f {tag r:Nat} (h:r < 4294967296):c0k tag .shl (.int .u64 (r:Int)) (.int .u64 32)=some (.int .u64 ((r * 4294967296:Nat):Int)):=by
 have c:=E0Y (tag:=tag) (n:=r) (s:=32) (k':=.u64) (by omega)
 have j:r * 2 ^ 32 % 18446744073709551616=r * 4294967296:=by omega
 rw [j] at c;exact c
theorem K1Y {tag x y:Nat} (h:x < 4294967296) (c:y < 4294967296):c0k tag .or (.int .u64 ((x * 4294967296:Nat):Int)) (.int .u64 (y:Int))=some (.int .u64 ((x * 4294967296 + y:Nat):Int)):=by
 rw [w1p (by omega) (by omega),v0u c]
theorem w0p:∀ N:Nat,e0W [.int .u32 0] N=b0C (List.replicate N 0)
 | 0=>rfl
 | n + 1=>by rw [e0W,w0p n];rfl
theorem m0A (ha:Lim H v a) (hb:Lim H w b) (hf:fl<=H.size) (s8:a.length < 1073741823) (h2:2<=b.length) (s6:b.length<=a.length) (m3:b.getD (b.length - 1) 0 ≠ 0) :
  b0k env fl y0I [v,w] H (fun r H'=>(∃ q o q' o',r=.tuple #[q,q']/\Lim H' q o/\a0q o=a0q a / a0q b/\o.length<=a.length/\Lim H' q' o'/\a0q o' = a0q a % a0q b/\o'.length<=a.length)/\Ext H H') R:=by
 refine a0i I1o hf (h:=?_)
 intro ρ h0
 simp only [R0F]
 obtain ⟨k,hk⟩:∃ k,b.length=k + 1:=⟨b.length - 1,by omega⟩
 have s5:1<=k:=by omega
 rw [show b.length - 1=k by omega] at m3
 have q7:=c0z hb.ok k
 have e7:=hb.ia (k:=.i64) (show k < b.length by omega)
 have f1:=hb.load (show k < b.length by omega) (Ext.refl H)
 have j4:=@F1q b k
 have j3:=@F1p b k
 generalize q8:b.getD k 0=tp at *
 have e0:IntKind.i64.wrap ((b.length:Int) - 1)=((k:Nat):Int):=by rw [b0d (by omega) (by omega)];omega
 simp [C0l,C0m,h0]
 refine b0X (fun c t G=>∃ n:Nat,G=H/\n + c=31/\t.length=147/\get t 0=v/\get t 1=w/\get t 6=.int .i64 ((n:Nat):Int)/\tp * 2 ^ n < 4294967296)
  (fun t G=>∃ n:Nat,G=H/\n<=31/\t.length=147/\get t 0=v/\get t 1=w/\get t 6=.int .i64 ((n:Nat):Int)/\tp * 2 ^ n < 4294967296/\2147483648<=tp * 2 ^ n) 31 ?_ ?_ ?_
 ·exact ⟨0,rfl,by omega,by simp,by simp [h0],by simp [h0],by simp,by omega⟩
 ·clear h0 ρ
  rintro c t G ⟨n,rfl,hn,ht,g0,g1,O,hy⟩
  obtain ⟨ρ,rfl⟩:=toT ht
  simp only [b0H,Nat.reduceLT] at g0 g1 O
  have i2:tp * 2 ^ (n + 1)=2 * (tp * 2 ^ n):=by rw [N1m,<- N1h];omega
  have r2:2 ^ n<=tp * 2 ^ n:=Nat.le_mul_of_pos_left _ (by omega)
  have t1:n=31->2147483648<=tp * 2 ^ n:=by rintro rfl;exact r2
  have s1:=q0m (tag:=0) (n:=tp) (s:=n) (k':=.i64) (by omega)
  rw [N1o hy] at s1
  generalize n8:tp * 2 ^ n=y at *
  have s2:c0k 0 .shr (.int .u32 (y:Int)) (.int .u64 31)=some (.int .u32 ((y / 2147483648:Nat):Int)):=q0n (tag:=0) (n:=y) (s:=31) (k':=.u64) (by omega)
  have e9:IntKind.i64.wrap ((n:Int) + 1)=((n + 1:Nat):Int):=by rw [b0d (by omega) (by omega)];omega
  by_cases hd:y / 2147483648=0
  ·have k3:((y / 2147483648:Nat) == 0)=true:=by simp [hd]
   simp [-Int.natCast_ediv,-Int.natCast_add,-beq_iff_eq,t0M,t0N,g0,g1,O,hb.slen,e0,e7,f1,s1,s2,k3,e9]
   exact ⟨c - 1,by omega,n + 1,by omega,rfl,by rw [i2];omega⟩
  ·have k3:((y / 2147483648:Nat) == 0)=false:=by simp [hd]
   simp [-Int.natCast_ediv,-Int.natCast_add,-beq_iff_eq,t0M,t0N,g0,g1,O,hb.slen,e0,e7,f1,s1,s2,k3,e9]
   exact ⟨n,by omega,rfl,by rw [n8];exact hy,by rw [n8];omega⟩
 ·clear h0 ρ
  rintro t G ⟨n,rfl,hn,ht,g0,g1,O,hy,i2⟩
  obtain ⟨ρ,rfl⟩:=toT ht
  simp only [b0H,Nat.reduceLT] at g0 g1 O
  refine c0t ?_
  simp [C0n,g0,g1,O]
  refine (g0P ha (M1U _) (by omega) (by omega)).mo ?_
  rintro u G1 ⟨⟨L0,hu,f3,i0,k8⟩,f8⟩
  try simp [g0,g1,O]
  refine (g0P (hb.mo f8) f8.1 (by omega) (by omega)).mo ?_
  rintro u2 G2 ⟨⟨L1,q9,j0,l4,m6⟩,l5⟩
  have hx:=f8.trans l5
  have t0:=hx.1
  have r3:=f8.1
  obtain ⟨r0,⟨_,d9⟩ | ⟨P,c7,rfl,hP,h5⟩⟩:=hu.mo l5
  ·omega
  obtain ⟨n6,⟨_,d9⟩ | ⟨Q,d1,rfl,hQ,s0⟩⟩:=q9
  ·omega
  have r5:P < G1.size:=by
   obtain ⟨_,⟨d9,_⟩ | ⟨P',c6,he,o2,_⟩⟩:=hu
   ·cases d9
   ·simp at he;rw [he.1];exact a0r o2
  have r6:=a0r hQ
  -- the divisor
  have d6:=j4 hb.ok hk hn hy
  have i4:=j3 hk i2
  have d7:=S0e (o:=L1) (k:=b.length) m6 (by rw [l4,hk];exact d6)
  have f2:=H0g (x:=a0q a) (y:=a0q b * 2 ^ n) (la:=a.length) (k:=k) (n:=n) (B:=4294967296) (g0h a ha.ok) (O1E (n:=2) (by omega) hn) i4
  have f2:a0q a * 2 ^ n < a0q b * 2 ^ n * 4294967296 ^ (a.length - k):=by rcases f2 with h | h;exact h;omega
  have k9:0 < 2 ^ n:=O1T n
  have n1:a0q a / a0q b=a0q a * 2 ^ n / (a0q b * 2 ^ n):=(Nat.mul_div_mul_right _ _ k9).symm
  have n4:a0q a % a0q b=a0q a * 2 ^ n % (a0q b * 2 ^ n) / 2 ^ n:=by rw [Nat.mul_mod_mul_right,Nat.mul_div_cancel _ k9]
  rw [l4] at d7
  rw [n1,n4]
  generalize a0q b * 2 ^ n=V at *
  generalize a0q a * 2 ^ n=U0 at *
  clear n1 n4 j4 j3 e7 f1 e0 q8 m3 q7 hy i2 r0 n6 k9 hu f8 l5
  obtain ⟨j,hj⟩:∃ j,k=j + 1:=⟨k - 1,by omega⟩
  generalize hK:b.length=K at *
  have m0:((L1.drop 0).take K)=L1.take K:=by rw [O1c]
  have l3:=hb.slen
  rw [hK] at l3
  have d0:=n0j (p:=Q) (o:=0) (cap:=d1) (n:=K + 1) (x:=none) (y:=some (.int .i64 (K:Int))) (lo:=0) (hi:=K) rfl (by simp) (by omega) (by omega)
  rw [N1O,P1e,P1e] at d0
  generalize (if d1=unk then unk else d1)=capw at d0
  have n7:IntKind.i64.wrap (((a.length + 1:Nat):Int) - (K:Int))=((a.length - k:Nat):Int):=by rw [b0d (by omega) (by omega)];omega
  have m9:v0t true (.int .i64 ((a.length - k:Nat):Int)) [.int .i64 0]=some (.int .i64 ((a.length - k:Nat):Int)):=by
   simp only [v0t,mn2];rw [M1Z trivial,M1V (by omega)]
  have hm:=p0i (bytes:=4) (k:=.i64) (k':=.i64) (l:=a.length - k) (c:=a.length - k) (M1U _) (by omega) (by omega)
  generalize hN:a.length - k=N at *
  simp [-Int.natCast_add,l3,p0r hQ,d0]
  simp [-Int.natCast_add,C0o,C0p,i0q,n7,m9,hm]
  generalize o3:G2.size=PQ
  generalize j7:G2.push (.row false a0b (e0W [.int .u32 0] N))=G3
  have i1:Ext G2 G3:=by rw [<- j7];exact (Ext.refl _).push
  have j8:=i1.bk hP
  have m1:=i1.bk hQ
  have d4:a0c.bk G3 PQ=.row false a0b (b0C (List.replicate N 0)):=by rw [<- j7,<- o3,a0N,w0p]
  replace hx:=hx.trans i1
  have a2:Lim G3 (.slice (some ⟨Q,0,none⟩) K capw) (L1.take K):=by rw [<- m0];exact z0m m1 j0 (by omega)
  have o1:(L1.take K).length=K:=by simp;omega
  have c8:=a2.ok
  generalize L1.take K=Vl at *
  clear j7 i1 hP hQ m1 j0 d0 m0 l4 m6 hm m9 n7 L1
  generalize c0:Value.slice (some ⟨P,0,none⟩) (a.length + 1) c7=SU
  generalize m2:Value.slice (some ⟨Q,0,none⟩) K capw=SV at *
  generalize g3:Value.slice (some ⟨PQ,0,none⟩) N N=SQ
  -- its highest limbs
  have i6:=a2.ia (k:=.i64) (show k < Vl.length by omega)
  have i7:=a2.ia (k:=.i64) (show j < Vl.length by omega)
  have i8:=a2.load (show k < Vl.length by omega) (Ext.refl _)
  have i9:=a2.load (show j < Vl.length by omega) (Ext.refl _)
  have o8:V=win Vl 0 k + 4294967296 ^ k * Vl.getD k 0:=by rw [<- d7,<- k0Q (L:=Vl) (n:=k + 1) (by omega),win,N1q]
  have o9:V=win Vl 0 j + 4294967296 ^ j * (Vl.getD k 0 * 4294967296 + Vl.getD j 0):=by
   rw [<- d7,<- k0Q (L:=Vl) (n:=k + 1) (by omega),S0g (by omega),show k + 1 - 1=k by omega,show k + 1 - 2=j by omega,N1q,N1q]
  have o5:=c0z c8 k
  have o4:=c0z c8 j
  have r7:2147483648<=Vl.getD k 0:=by
   by_cases h:2147483648<=Vl.getD k 0
   ·exact h
   ·exfalso
    have h3:=l0o c8 0 k
    have:4294967296 ^ k * (Vl.getD k 0 + 1)<=4294967296 ^ k * 2147483648:=N1w _ (by omega)
    rw [N1a,N1W] at this
    rw [N1p] at i4
    omega
  clear o8
  generalize Vl.getD k 0=top at *
  generalize Vl.getD j 0=next at *
  have et:IntKind.u64.wrap (top:Int)=(top:Int):=by rw [a0x];omega
  have en:IntKind.u64.wrap (next:Int)=(next:Int):=by rw [a0x];omega
  have b1:IntKind.i64.wrap ((K:Int) - 1)=(k:Int):=by rw [b0d (by omega) (by omega)];omega
  have g2:IntKind.i64.wrap ((K:Int) - 2)=(j:Int):=by rw [b0d (by omega) (by omega)];omega
  have d2:IntKind.i64.wrap (((a.length + 1:Nat):Int) - (K:Int))=(N:Int):=by rw [b0d (by omega) (by omega)];omega
  have d3:IntKind.i64.wrap ((N:Int) - 1)=(N:Int) - 1:=b0d (by omega) (by omega)
  have j2:i0q SU=some (.int .i64 ((a.length + 1:Nat):Int)):=by rw [<- c0];rfl
  have f5:slB SV ≠ some PQ:=by rw [<- m2];simp [slB];omega
  have c9:slB SV ≠ some P:=by rw [<- m2];simp [slB];omega
  refine c0t ?_
  simp [-Int.natCast_add,C0q,C0r,a2.slen,b1,g2,i6,i7,i8,i9,et,en,o1,j2,d2,d3,O]
  clear i6 i7 i8 i9 et en b1 g2 d2 d3 j2 l3
  refine b0X (fun c t G'=>∃ L Qs,t.length=147/\get t 4=SQ/\get t 6=.int .i64 (n:Int)/\get t 7=SU/\get t 8=SV/\get t 9=.int .i64 (K:Int)/\get t 10=.int .u64 (top:Int)/\get t 11=.int .u64 (next:Int)/\get t 12=.int .i64 ((c:Int) - 1) /\
    Ext G G'/\Lim G' SV Vl/\a0c.bk G' P=.row false a0b (b0C L)/\a0c.bk G' PQ=.row false a0b (b0C Qs)/\L.length=a.length + 1/\b0g L/\Qs.length=N/\b0g Qs/\c<=N/\U0=a0q (Qs.drop c) * 4294967296 ^ c * V + a0q L/\a0q L < V * 4294967296 ^ c)
   (fun t G'=>∃ L Qs,t.length=147/\get t 4=SQ/\get t 6=.int .i64 (n:Int)/\get t 7=SU/\get t 9=.int .i64 (K:Int) /\
    Ext G G'/\a0c.bk G' P=.row false a0b (b0C L)/\a0c.bk G' PQ=.row false a0b (b0C Qs)/\L.length=a.length + 1/\b0g L/\Qs.length=N/\b0g Qs/\U0=a0q Qs * V + a0q L/\a0q L < V) N ?_ ?_ ?_
  ·refine ⟨L0,List.replicate N 0,by simp,by simp [g3],by simp [O],by simp [c0],by simp,by simp,by simp,by simp,by simp,hx,a2,j8,d4,k8,f3,by simp,fun z hz=>by rw [P1i] at hz;omega,M1U _,?_,by rw [i0];exact f2⟩
   rw [O1N (by simp),i0];simp [a0q]
  ·clear j8 d4 i0 k8 f3 L0 g0 g1 O ht ρ hx a2 G3
   rintro c t G3 ⟨L,Qs,ht,Y,O,Z,g8,g9,I,J,F,hx,a2,hP,b4,S,a1,a4,b5,r8,hU,c4⟩
   obtain ⟨ρ,rfl⟩:=toT ht
   simp only [b0H,Nat.reduceLT] at Y O Z g8 g9 I J F
   by_cases p3:c=0
   ·subst p3
    simp [-Int.natCast_add,t0O,Y,O,Z,g8,g9,I,J,F]
    exact ⟨hx,L,hP,Qs,b4,S,a1,a4,b5,by simpa using hU,by simpa using c4⟩
   ·obtain ⟨i,rfl⟩:∃ i,c=i + 1:=⟨c - 1,by omega⟩
    have ec:(((i + 1:Nat):Int) - 1)=(i:Int):=by omega
    rw [ec] at F
    -- places
    obtain ⟨iK,q2⟩:∃ iK,iK=i + K:=⟨_,rfl⟩
    have b1:IntKind.i64.wrap ((i:Int) + (K:Int))=(iK:Int):=by rw [b0d (by omega) (by omega)];omega
    have g2:IntKind.i64.wrap ((iK:Int) - 1)=((i + k:Nat):Int):=by rw [b0d (by omega) (by omega)];omega
    have d2:IntKind.i64.wrap ((iK:Int) - 2)=((i + j:Nat):Int):=by rw [b0d (by omega) (by omega)];omega
    have d3:IntKind.i64.wrap ((iK:Int) + 1)=((iK + 1:Nat):Int):=by rw [b0d (by omega) (by omega)];omega
    have l8:IntKind.i64.wrap ((i:Int) - 1)=(i:Int) - 1:=b0d (by omega) (by omega)
    obtain ⟨m4,l0⟩:=m0C (k:=.i64) (cap:=c7) (o:=0) (n:=a.length + 1) hP (by omega) (show iK < a.length + 1 by omega)
    obtain ⟨m5,l1⟩:=m0C (k:=.i64) (cap:=c7) (o:=0) (n:=a.length + 1) hP (by omega) (show i + k < a.length + 1 by omega)
    obtain ⟨k7,h9⟩:=m0C (k:=.i64) (cap:=c7) (o:=0) (n:=a.length + 1) hP (by omega) (show i + j < a.length + 1 by omega)
    rw [c0,N1q] at m4 m5 k7
    rw [N1q] at l0 l1 h9
    have j5:=c0z a1 iK
    have l9:=c0z a1 (i + k)
    have j6:=c0z a1 (i + j)
    -- the window
    have U:=t1Y (L:=L) (o:=i) (k:=K) (by omega)
    rw [show K - 2=j by omega,show K - 1=k by omega,<- q2] at U
    have o6:win L i (K + 1) < V * 4294967296:=by
     have h1:=i0B (L:=L) (M1U _)
     rw [N1f,S,show a.length + 1=i + ((K + 1) + (a.length - i - K)) by omega,c0O,c0O,N1q] at h1
     have h2:4294967296 ^ i * win L i (K + 1) < 4294967296 ^ i * (V * 4294967296):=by
      rw [N1m,<- N1h,Nat.mul_right_comm] at c4
      rw [N1a] at h1
      have:V * 4294967296 * 4294967296 ^ i=4294967296 ^ i * (V * 4294967296):=N1p _ _
      omega
     exact N1Y h2
    generalize L.getD iK 0=A1 at j5 l0 U
    generalize L.getD (i + k) 0=A2 at l9 l1 U
    generalize L.getD (i + j) 0=A3 at j6 h9 U
    obtain ⟨x,hX⟩:∃ x,x=A1 * 4294967296 + A2:=⟨_,rfl⟩
    rw [<- hX] at U
    have gs:Gs (4294967296 ^ j) (win L i j) (win Vl 0 j) (win L i (K + 1)) V x A3 top next 4294967296 :=
     ⟨Nat.pow_pos (by omega),l0o a1 i j,l0o c8 0 j,U,o9,by omega,o5,o4,j6,o6⟩
    clear U
    have n9:IntKind.u64.wrap (A1:Int)=(A1:Int):=by rw [a0x];omega
    have o0:IntKind.u64.wrap (A2:Int)=(A2:Int):=by rw [a0x];omega
    have l7:IntKind.u64.wrap (A3:Int)=(A3:Int):=by rw [a0x];omega
    have s1:=F1f (tag:=0) j5
    have s2:=K1Y (tag:=0) j5 l9
    have r1:x < 18446744073709551616:=by omega
    have f4:=gs.q_le
    have r4:=gs.x_lt
    rw [<- hX] at s2
    have s3:=w1y (tag:=0) (a:=x) (b:=top) r1 (by omega)
    have s4:=B1Z (tag:=0) (a:=x) (b:=top) (by omega)
    have h7:x / top * top + x % top=x:=P1a x top
    have n3:=N1R x (show 0 < top by omega)
    have k5:x / top<=4294967297:=by
     have:x / top < 4294967298:=by rw [O1b (by omega)];omega
     omega
    have q4:(i:Int) ≥ 0:=by omega
    simp [-Int.natCast_add,-Int.natCast_mul,-Int.natCast_ediv,-Int.natCast_emod,t0O,Y,O,Z,g8,g9,I,J,F,q4]
    refine c0t ?_
    simp [-Int.natCast_add,-Int.natCast_mul,-Int.natCast_ediv,-Int.natCast_emod,v0O,Y,O,Z,g8,g9,I,J,F,b1,g2,m4,m5,l0,l1,n9,o0,s1,s2]
    refine c0t ?_
    simp [-Int.natCast_add,-Int.natCast_mul,-Int.natCast_ediv,-Int.natCast_emod,v0P,Y,O,Z,g8,g9,I,J,F,s3,s4]
    clear s1 s2 s3 s4
    generalize x / top=gq at h7 k5 f4 ⊢
    generalize x % top=rr at h7 n3 ⊢
    have M:∃ c6,d0s 1 SU (some (.int .i64 (i:Int))) (some (.int .i64 ((iK + 1:Nat):Int))) none=some (.slice (some ⟨P,i,none⟩) (K + 1) c6):=by
     rw [<- c0,n0j (lo:=i) (hi:=iK + 1) (by simp) (V0r (n:=iK + 1)) (by omega) (by omega),N1q,show iK + 1 - i=K + 1 by omega]
     exact ⟨_,rfl⟩
    obtain ⟨i3,M⟩:=M
    have a9:∀ (G':a0c) (cs:List Value),a0c.bk G' P=.row false a0b cs->elemOk G' a0b SU=true:=fun G' cs h=>by rw [<- c0];exact p0r h
    refine b0X (fun c t G'=>∃ g rest:Nat,c=g/\G' = G3/\t.length=147/\get t 4=SQ/\get t 6=.int .i64 (n:Int)/\get t 7=SU/\get t 8=SV/\get t 9=.int .i64 (K:Int)/\get t 10=.int .u64 (top:Int)/\get t 11=.int .u64 (next:Int)/\get t 12=.int .i64 (i:Int)/\get t 14=.int .u64 (g:Int)/\get t 15=.int .u64 (rest:Int) /\
      g * top + rest=x/\win L i (K + 1) / V<=g/\g<=4294967297/\rest < 4294967296)
     (fun t G'=>∃ g rest:Nat,G' = G3/\t.length=147/\get t 4=SQ/\get t 6=.int .i64 (n:Int)/\get t 7=SU/\get t 8=SV/\get t 9=.int .i64 (K:Int)/\get t 10=.int .u64 (top:Int)/\get t 11=.int .u64 (next:Int)/\get t 12=.int .i64 (i:Int)/\get t 14=.int .u64 (g:Int) /\
      g * top + rest=x/\win L i (K + 1) / V<=g/\g < 4294967296/\g * next<=rest * 4294967296 + A3) gq ?_ ?_ ?_
    ·exact ⟨gq,rr,rfl,rfl,by simp,by simp [Y],by simp [O],by simp [Z],by simp [g8],by simp [g9],by simp [I],by simp [J],by simp [F],by simp,by simp,h7,f4,k5,by omega⟩
    ·clear Y O Z g8 g9 I J F ht ρ
     rintro c t G' ⟨g,rest,rfl,rfl,ht,Y,O,Z,g8,g9,I,J,F,a0,b2,c3,hq,b8,n2⟩
     obtain ⟨ρ,rfl⟩:=toT ht
     simp only [b0H,Nat.reduceLT] at Y O Z g8 g9 I J F a0 b2
     obtain ⟨rt,j1⟩:∃ rt,rt=rest + top:=⟨_,rfl⟩
     have er:IntKind.u64.wrap ((rest:Int) + (top:Int))=(rt:Int):=by rw [a0x];omega
     by_cases g5:4294967296<=c
     ·have b6:(4294967296:Int)<=(c:Int):=by omega
      have c1:4294967296<=c ∨ rest * 4294967296 + A3 < c * next:=.inl g5
      have e5:(c:Int) ≥ 4294967296:=b6
      simp (config:={maxSteps:=4000000}) [-Int.natCast_add,-Int.natCast_mul,l0O,Y,O,Z,g8,g9,I,J,F,a0,b2,g5,b6]
      obtain ⟨c5,p6⟩:=gs.down c3 hq c1
      obtain ⟨g',rfl⟩:∃ g',c=g' + 1:=⟨c - 1,by omega⟩
      rw [Nat.add_sub_cancel] at c5
      have eg:IntKind.u64.wrap (((g' + 1:Nat):Int) - 1)=(g':Int):=by rw [a0x];omega
      have a6:g' * top + rt=x:=by rw [<- c3,j1,N1t,O1e];omega
      by_cases e3:4294967296<=rt
      ·have a5:(4294967296:Int)<=(rt:Int):=by omega
       simp [-Int.natCast_add,-Int.natCast_mul,e5,k0g,k0h,k0i,Y,O,Z,g8,g9,I,J,F,a0,b2,eg,er,e3,a5]
       have e6:g' < 4294967296:=by
        by_cases h:g' = 4294967296
        ·subst h;rw [N1p] at a6;omega
        ·omega
       refine ⟨g',rfl,rt,a6,c5,e6,?_⟩
       have h1:g' * next<=4294967295 * 4294967295:=O1k (by omega) (by omega)
       omega
      ·have a5:¬ (4294967296:Int)<=(rt:Int):=by omega
       simp [-Int.natCast_add,-Int.natCast_mul,e5,k0g,k0h,k0i,Y,O,Z,g8,g9,I,J,F,a0,b2,eg,er,e3,a5]
       exact ⟨g',by omega,rfl,rt,rfl,a6,c5,by omega,by omega⟩
     ·have b6:¬ (4294967296:Int)<=(c:Int):=by omega
      have r9:c * next<=4294967295 * 4294967295:=O1k (by omega) (by omega)
      obtain ⟨cn,e4⟩:∃ cn,cn=c * next:=⟨_,rfl⟩
      have em:IntKind.u64.wrap ((c:Int) * (next:Int))=(cn:Int):=by rw [a0x,<- P1g,<- e4];omega
      have s1:=F1f (tag:=0) n2
      have s2:=K1Y (tag:=0) n2 j6
      obtain ⟨rA,l2⟩:∃ rA,rA=rest * 4294967296 + A3:=⟨_,rfl⟩
      rw [<- l2] at s2
      by_cases h8:rA < cn
      ·have c1:4294967296<=c ∨ rest * 4294967296 + A3 < c * next:=.inr (by rw [<- l2,<- e4];exact h8)
       have e5:rA < cn:=h8
       simp (config:={maxSteps:=4000000}) [-Int.natCast_add,-Int.natCast_mul,l0O,Y,O,Z,g8,g9,I,J,F,a0,b2,g5,b6,b1,d2,k7,h9,l7,em,s1,s2,h8]
       obtain ⟨c5,p6⟩:=gs.down c3 hq c1
       obtain ⟨g',rfl⟩:∃ g',c=g' + 1:=⟨c - 1,by omega⟩
       rw [Nat.add_sub_cancel] at c5
       have eg:IntKind.u64.wrap (((g' + 1:Nat):Int) - 1)=(g':Int):=by rw [a0x];omega
       have a6:g' * top + rt=x:=by rw [<- c3,j1,N1t,O1e];omega
       by_cases e3:4294967296<=rt
       ·have a5:(4294967296:Int)<=(rt:Int):=by omega
        simp [-Int.natCast_add,-Int.natCast_mul,e5,k0g,k0h,k0i,Y,O,Z,g8,g9,I,J,F,a0,b2,eg,er,e3,a5]
        have e6:g' < 4294967296:=by
         by_cases h:g' = 4294967296
         ·subst h;rw [N1p] at a6;omega
         ·omega
        refine ⟨g',rfl,rt,a6,c5,e6,?_⟩
        have h1:g' * next<=4294967295 * 4294967295:=O1k (by omega) (by omega)
        omega
       ·have a5:¬ (4294967296:Int)<=(rt:Int):=by omega
        simp [-Int.natCast_add,-Int.natCast_mul,e5,k0g,k0h,k0i,Y,O,Z,g8,g9,I,J,F,a0,b2,eg,er,e3,a5]
        exact ⟨g',by omega,rfl,rt,rfl,a6,c5,by omega,by omega⟩
      ·simp (config:={maxSteps:=4000000}) [-Int.natCast_add,-Int.natCast_mul,l0O,Y,O,Z,g8,g9,I,J,F,a0,b2,g5,b6,b1,d2,k7,h9,l7,em,s1,s2,h8]
       exact ⟨c,rfl,rest,c3,hq,by omega,by rw [<- l2,<- e4];omega⟩
    ·clear Y O Z g8 g9 I J F ht ρ h7 k5 f4 n3
     rintro t G' ⟨gg,rest,rfl,ht,Y,O,Z,g8,g9,I,J,F,a0,c3,hq,b8,p9⟩
     obtain ⟨ρ,rfl⟩:=toT ht
     simp only [b0H,Nat.reduceLT] at Y O Z g8 g9 I J F a0
     have q6:=gs.fine c3 b8 p9
     have p1:V < 4294967296 ^ (K + 1):=by
      rw [hk,N1m];omega
     simp [-Int.natCast_add,v0Q,Y,O,Z,g8,g9,I,J,F,a0,b1,d3,a9 _ _ hP,M]
     refine (p0p (n:=K + 1) hP a1 (by omega) a2 c9 h5 b8 (by omega) (by omega)).mo ?_
     rintro _ G4 ⟨X0,cc,rfl,d8,l6,a8,hs⟩
     rw [d7] at hs
     obtain ⟨p4,p5⟩:=F0m gs hq q6 hs (l0o a8.2.1 i (K + 1)) p1
     have b9:=l6.ext h5 hx
     have f6:=a2.off l6 c9
     have b3:a0c.bk G4 PQ=.row false a0b (b0C Qs):=by rw [l6.2 PQ (a0r b4) (by simp;omega)];exact b4
     have m8:=N1R (win L i (K + 1)) gs.V0
     have i5:=(O1t (win L i (K + 1)) V).symm
     by_cases h4:cc=0
     ·obtain ⟨h6,U⟩:=p4 h4
      obtain ⟨X,p2⟩:∃ X,X=X0:=⟨_,rfl⟩
      obtain ⟨g,p8⟩:∃ g,g=gg:=⟨_,rfl⟩
      subst p2 p8
      have k0:=d8
      have a7:=a8
      have k4:win L i (K + 1)=V * g + win L i (K + 1) % V:=by rw [h6];exact i5
      simp [-Int.natCast_add,h4,p0I,Y,O,Z,g8,g9,I,J,F,a0]
      refine (a0h b9.1).mo ?_
      rintro _ G6 ⟨rfl,b0⟩
      have a3:=b0.bk b3
      have j9:=b0.bk k0
      have d5:=a0r a3
      obtain ⟨f0,_⟩:=m0C (k:=.i64) (cap:=N) (o:=0) (n:=N) a3 (by omega) (show i < N by omega)
      rw [g3,N1q] at f0
      have e8:i + 1<=Qs.length:=by omega
      have b7:G.size<=PQ:=by omega
      rw [N1o b8]
      obtain ⟨k1,k2⟩:=v0f (BB:=4294967296) (n:=a.length + 1) (q:=g) rfl S a7 (by omega) (show i < Qs.length by omega) hU (by rw [hk];exact d6) c4 k4 m8 U
      simp [-Int.natCast_add,p0J,f0,a3,e8,b7,Y,O,Z,g8,g9,I,J,F,l8]
      refine ⟨i,by omega,rfl,(b9.trans b0).set b7,(f6.mo b0).off j0m.refl.set f5,X,by rw [a0Y (by omega)];exact j9,Qs.set i g,by rw [a0C d5,c0S],by rw [a7.1,S],a7.2.1,by simpa using a4,b0W b5 b8,by omega,k2,k1⟩
     ·obtain ⟨h6,k6⟩:=p5 h4
      obtain ⟨g,rfl⟩:∃ g,gg=g + 1:=⟨win L i (K + 1) / V,h6⟩
      have p7:g=win L i (K + 1) / V:=Nat.succ.inj h6
      have eg:IntKind.u64.wrap (((g + 1:Nat):Int) - 1)=(g:Int):=by rw [a0x];omega
      have k4:win L i (K + 1)=V * g + win L i (K + 1) % V:=by rw [p7];exact i5
      simp [-Int.natCast_add,h4,v0R,v0S,Y,O,Z,g8,g9,I,J,F,a0,eg,b1,d3,a9 _ _ d8,M]
      refine (p0n (n:=K + 1) d8 a8.2.1 (by rw [a8.1];omega) f6 c9 h5 (by omega) (by omega)).mo ?_
      rintro _ G5 ⟨X,c2,k0,f9,f7,n5⟩
      rw [d7] at n5
      have U:=k6 _ _ n5 (l0o f7.2.1 i (K + 1))
      replace b3:a0c.bk G5 PQ=.row false a0b (b0C Qs):=by rw [f9.2 PQ (a0r b3) (by simp;omega)];exact b3
      replace b9:=f9.ext h5 b9
      replace f6:=f6.off f9 c9
      have a7:=a8.trans f7
      replace b8:g < 4294967296:=by omega
      simp [-Int.natCast_add,p0I,Y,O,Z,g8,g9,I,J,F]
      refine (a0h b9.1).mo ?_
      rintro _ G6 ⟨rfl,b0⟩
      have a3:=b0.bk b3
      have j9:=b0.bk k0
      have d5:=a0r a3
      obtain ⟨f0,_⟩:=m0C (k:=.i64) (cap:=N) (o:=0) (n:=N) a3 (by omega) (show i < N by omega)
      rw [g3,N1q] at f0
      have e8:i + 1<=Qs.length:=by omega
      have b7:G.size<=PQ:=by omega
      rw [N1o b8]
      obtain ⟨k1,k2⟩:=v0f (BB:=4294967296) (n:=a.length + 1) (q:=g) rfl S a7 (by omega) (show i < Qs.length by omega) hU (by rw [hk];exact d6) c4 k4 m8 U
      simp [-Int.natCast_add,p0J,f0,a3,e8,b7,Y,O,Z,g8,g9,I,J,F,l8]
      refine ⟨i,by omega,rfl,(b9.trans b0).set b7,(f6.mo b0).off j0m.refl.set f5,X,by rw [a0Y (by omega)];exact j9,Qs.set i g,by rw [a0C d5,c0S],by rw [a7.1,S],a7.2.1,by simpa using a4,b0W b5 b8,by omega,k2,k1⟩
  ·clear j8 d4 i0 k8 f3 L0 g0 g1 O ht ρ hx a2 G3
   rintro t G3 ⟨L,Qs,ht,Y,O,Z,g9,hx,hP,b4,S,a1,a4,b5,hU,c4⟩
   obtain ⟨ρ,rfl⟩:=toT ht
   simp only [b0H,Nat.reduceLT] at Y O Z g9
   have a9:elemOk G3 a0b SU=true:=by rw [<- c0];exact p0r hP
   have M:∃ c6,d0s 1 SU none (some (.int .i64 (K:Int))) none=some (.slice (some ⟨P,0,none⟩) K c6):=by
    rw [<- c0,n0j (lo:=0) (hi:=K) rfl (by simp) (by omega) (by omega),N1q,P1e]
    exact ⟨_,rfl⟩
   obtain ⟨i3,M⟩:=M
   simp [-Int.natCast_add,v0T,Y,O,Z,g9,a9,M]
   have m7:=z0m (cap:=i3) hP a1 (show 0 + K<=L.length by omega)
   have q5:a0q ((L.drop 0).take K)=a0q L:=by
    have h1:=i0B (L:=L) (M1U _)
    rw [N1f,S,show a.length + 1=K + (a.length + 1 - K) by omega,c0O,N1q] at h1
    have h2:win L K (a.length + 1 - K)=0:=by
     by_cases h0:win L K (a.length + 1 - K)=0
     ·exact h0
     ·have:=Nat.le_mul_of_pos_right (4294967296 ^ K) (by omega:0 < win L K (a.length + 1 - K))
      rw [hk] at this h1;omega
    rw [z0B (by omega),h1,h2,Nat.mul_zero,N1O]
   have s7:((L.drop 0).take K).length=K:=by simp;omega
   refine (p0m m7 hx.1 (by omega) (by omega)).mo ?_
   rintro r G4 ⟨⟨o,ho,n0,s9⟩,b9⟩
   rw [q5] at n0
   have o7:0 < V:=by omega
   have e1:U0 / V=a0q Qs:=by rw [hU,N1p,Nat.mul_add_div o7,O1m c4,N1O]
   have e2:U0 % V=a0q L:=by rw [hU,N1p,Nat.mul_add_mod,N1o c4]
   refine fun _=>⟨SQ,Qs,r,⟨rfl,rfl⟩,⟨by rw [<- g3,<- a4];exact (Own.mk (fl:=0) (b9.bk b4) (by simp) (N1K _)).sl,b5⟩,e1.symm,by omega,o,ho,by rw [n0,e2],by omega⟩
end
section
variable {fl:Nat} {H:a0c} {R:a0P} {v w:Value} {i j:Bool × List Nat}
theorem x0H (x y:Int):(if (decide (x < 0) != decide (y < 0))=true then -((x.natAbs / y.natAbs:Nat):Int) else ((x.natAbs / y.natAbs:Nat):Int))=x.tdiv y:=by
 have c:∀ n:Int,0<=n->(n.natAbs:Int)=n:=fun n h=>Int.natAbs_of_nonneg h
 have e2:∀ n:Int,n < 0->(n.natAbs:Int) = -n:=fun n h=>by omega
 rw [Int.natCast_ediv]
 by_cases j:x < 0 <;> by_cases k:y < 0 <;> simp only [j,k,decide_true,decide_false,bne_self_eq_false,N1g,N1G,Bool.true_bne,Bool.false_bne,Bool.not_false,N1E]
 ·rw [e2 x j,e2 y k,<- O1h (by omega),Int.neg_tdiv,Int.tdiv_neg,Int.neg_neg]
 ·rw [e2 x j,c y (by omega),<- O1h (by omega),Int.neg_tdiv,Int.neg_neg]
 ·rw [c x (by omega),e2 y k,<- O1h (by omega),Int.tdiv_neg,Int.neg_neg]
 ·rw [c x (by omega),c y (by omega),<- O1h (by omega)]
theorem x0I (x y:Int):(if decide (x < 0)=true then -((x.natAbs % y.natAbs:Nat):Int) else ((x.natAbs % y.natAbs:Nat):Int))=x.tmod y:=by
 have j:=Int.natAbs_tmod x y
 by_cases c:x < 0
 ·simp only [c,decide_true,N1E]
  have h:x.tmod y<=0:=by
   have:=Int.tmod_nonneg (a:=-x) y (by omega)
   rw [Int.neg_tmod] at this;omega
  omega
 ·simp only [c,decide_false,N1g,N1G]
  have h:=Int.tmod_nonneg (a:=x) y (by omega)
  omega
theorem m0w (h:c0m H v i) (k:c0m H w j) (hf:fl<=H.size) (hn:i.2.length < 536870912) (hm:j.2.length < 536870912) (c3:a0B j ≠ 0) :
  b0k env fl m0o [v,w] H (fun r H'=>(∃ q m,r=.tuple #[q,m,.int .i64 0]/\n0t H.size H' q (a0J ((a0B i).tdiv (a0B j)))/\n0t H.size H' m (a0J ((a0B i).tmod (a0B j)))/\L1H q m)/\Ext H H') R:=by
 have k0:=h
 have O:=k
 obtain ⟨s,rfl,hs⟩:=h
 obtain ⟨u,rfl,hu⟩:=k
 refine a0i H1X hf (h:=?_)
 intro ρ Z
 simp [R0w,A0M,Z]
 generalize hG:(((H.push _).push _).push _).push _=G
 have F:Ext H G:=by rw [<- hG];exact (Ext.refl H).push.push.push.push
 have L:a0c.bk G H.size=.row false a0a [.bool i.1,s]:=by rw [<- hG];simp
 have N:a0c.bk G (H.size + 1)=.row false a0a [.bool j.1,u]:=by rw [<- hG];simp
 have b2:a0c.bk G (H.size + 2)=.row false a0a [.bool false,.slice none 0 0]:=by rw [<- hG];simp
 have I:a0c.bk G (H.size + 3)=.row false a0a [.bool false,.slice none 0 0]:=by rw [<- hG];simp
 have hz:H.size + 3 < G.size:=a0r I
 clear hG
 replace k0:=k0.mo F
 replace O:=O.mo F
 refine c0t ?_
 simp [A0N,Z,L,N]
 refine (b0u k0 (by omega) (by omega)).mo ?_
 rintro x G2 ⟨Q,z⟩
 (try replace L:=z.bk L);(try replace N:=z.bk N);(try replace b2:=z.bk b2);(try replace I:=z.bk I);(try replace F:=F.trans z);(try replace k0:=k0.mo z);(try replace O:=O.mo z);(try replace Q:=Q.mo z);(try replace M:=M.mo z);(try replace S:=S.mo z);(try replace U:=U.mo z)
 try simp [Z,L,N]
 refine (b0u O F.1 (by omega)).mo ?_
 rintro y G2 ⟨M,z⟩
 (try replace L:=z.bk L);(try replace N:=z.bk N);(try replace b2:=z.bk b2);(try replace I:=z.bk I);(try replace F:=F.trans z);(try replace k0:=k0.mo z);(try replace O:=O.mo z);(try replace Q:=Q.mo z);(try replace M:=M.mo z);(try replace S:=S.mo z);(try replace U:=U.mo z)
 clear hs hu hz z
 have l1:=a0L k0.ok
 have l2:=a0L O.ok
 have b8:a0l (a0B j).natAbs ≠ []:=by intro h;exact c3 (by have:=b0O.1 h;omega)
 have d1:=List.length_pos_iff.2 b8
 have e1:=x0H (a0B i) (a0B j)
 have e2:=x0I (a0B i) (a0B j)
 simp [A0O,A0P,Z,M.slen,b8]
 refine (f0y Q M F.1 (by omega)).mo ?_
 rintro _ G2 ⟨rfl,z⟩
 (try replace L:=z.bk L);(try replace N:=z.bk N);(try replace b2:=z.bk b2);(try replace I:=z.bk I);(try replace F:=F.trans z);(try replace k0:=k0.mo z);(try replace O:=O.mo z);(try replace Q:=Q.mo z);(try replace M:=M.mo z);(try replace S:=S.mo z);(try replace U:=U.mo z)
 have a1:=d0v (a0B i).natAbs (a0B j).natAbs
 rw [b0Y] at a1
 generalize x0Q (a0l (a0B i).natAbs) (a0l (a0B j).natAbs)=c at a1
 by_cases a3:(a0B i).natAbs < (a0B j).natAbs
 ·have a7:c < 0:=by rw [a1,M1Z a3];omega
  simp [A0Q,Z,a7,L]
  refine (b0f k0 F.1 (by omega)).mo ?_
  rintro _ G2 ⟨rfl,z⟩
  (try replace L:=z.bk L);(try replace N:=z.bk N);(try replace b2:=z.bk b2);(try replace I:=z.bk I);(try replace F:=F.trans z);(try replace k0:=k0.mo z);(try replace O:=O.mo z);(try replace Q:=Q.mo z);(try replace M:=M.mo z);(try replace S:=S.mo z);(try replace U:=U.mo z)
  try simp [Z]
  have a0:=F.1
  refine (f0a ((a0B i).tmod (a0B j)) Q F.1 (by omega) (by rw [a0p,<- e2,N1o a3])).mo ?_
  obtain ⟨s1,c8,J⟩:∃ s1,s1=Value.slice none 0 0/\j0G H.size G2 s1 (a0J ((a0B i).tdiv (a0B j))).2:=by
   refine ⟨_,rfl,?_⟩
   rw [<- e1,O1m a3]
   have:a0J (if (decide (a0B i < 0) != decide (a0B j < 0))=true then -((0:Nat):Int) else ((0:Nat):Int))=(false,[]):=by split <;> exact n0Z
   rw [this];exact j0G.nil
  have c2:(a0J ((a0B i).tdiv (a0B j))).1=false:=by
   rw [<- e1,O1m a3];split <;> simp [a0J]
  rw [<- c8,<- c2]
  rintro _ G2 ⟨⟨s2,rfl,Y⟩,z⟩
  (try replace L:=z.bk L);(try replace N:=z.bk N);(try replace b2:=z.bk b2);(try replace I:=z.bk I);(try replace F:=F.trans z);(try replace k0:=k0.mo z);(try replace O:=O.mo z);(try replace Q:=Q.mo z);(try replace M:=M.mo z);(try replace S:=S.mo z);(try replace U:=U.mo z)
  have hz:=a0r I
  have a6:=a0r b2
  have a2:∀ x y,slB s1=some x->slB s2=some y->x ≠ y:=fun x y h1 h2=>by have:=(J.lt h1).2;have:=(Y.lt h2).1;omega
  simp [Z,b2,I,J.cells,J.plain,Y.cells,Y.plain,hz,a6]
  refine fun _=>⟨_,_,⟨rfl,rfl⟩,⟨s1,rfl,?_⟩,⟨s2,rfl,?_⟩,?_⟩
  ·exact ((J.mo z).setT b2 (by decide)).setT (by rw [a0Y (by omega)];exact I) (by decide)
  ·exact ((Y.low a0).setT b2 (by decide)).setT (by rw [a0Y (by omega)];exact I) (by decide)
  ·intro a s b u x y e1 e2 h1 h2
   cases e1;cases e2
   exact a2 x y h1 h2
 ·have a7:¬ c < 0:=by rw [a1,M1V a3];split <;> omega
  by_cases h1:(a0l (a0B j).natAbs).length=1
  ·have d0:(0:Nat) < (a0l (a0B j).natAbs).length:=by omega
   obtain ⟨d,hd⟩:∃ d,a0l (a0B j).natAbs=[d]:=by
    obtain ⟨d,hd⟩:=List.length_eq_one_iff.1 h1;exact ⟨d,hd⟩
   have b6:(a0B j).natAbs=d:=by rw [<- a0p (a0B j).natAbs,hd];simp [a0q]
   have b4:d < 4294967296:=M.ok d (by rw [hd];simp)
   have b5:0 < d:=by omega
   rw [hd] at M
   have b7:=M.ia (k:=.i64) (j:=0) (by simp)
   have b9:=M.load (j:=0) (by simp) (Ext.refl _)
   simp at b7 b9
   simp [t0C,A0R,Z,a7,hd,M.slen,b7,b9]
   refine (n0J Q F.1 (by omega) b5 b4).mo ?_
   rintro _ G2 ⟨⟨q1,o,rfl,S,a4,c6⟩,z⟩
   (try replace L:=z.bk L);(try replace N:=z.bk N);(try replace b2:=z.bk b2);(try replace I:=z.bk I);(try replace F:=F.trans z);(try replace k0:=k0.mo z);(try replace O:=O.mo z);(try replace Q:=Q.mo z);(try replace M:=M.mo z);(try replace S:=S.mo z);(try replace U:=U.mo z)
   have c5:a0q (a0l (a0B i).natAbs) % d < 4294967296:=Nat.lt_trans (N1R _ b5) b4
   rw [a0p] at a4 c5 ⊢
   generalize c7:(a0B i).natAbs % d=rm at *
   simp [Z]
   refine c0t ?_
   simp [A0S,Z,L,N]
   refine (b0f k0 (by have:=F.1;omega) (by omega)).mo ?_
   rintro _ G2 ⟨rfl,z⟩
   (try replace L:=z.bk L);(try replace N:=z.bk N);(try replace b2:=z.bk b2);(try replace I:=z.bk I);(try replace F:=F.trans z);(try replace k0:=k0.mo z);(try replace O:=O.mo z);(try replace Q:=Q.mo z);(try replace M:=M.mo z);(try replace S:=S.mo z);(try replace U:=U.mo z)
   try simp [Z,L,N]
   refine (b0f O (by have:=F.1;omega) (by omega)).mo ?_
   rintro _ G2 ⟨rfl,z⟩
   (try replace L:=z.bk L);(try replace N:=z.bk N);(try replace b2:=z.bk b2);(try replace I:=z.bk I);(try replace F:=F.trans z);(try replace k0:=k0.mo z);(try replace O:=O.mo z);(try replace Q:=Q.mo z);(try replace M:=M.mo z);(try replace S:=S.mo z);(try replace U:=U.mo z)
   try simp [Z]
   have a5:=F.1
   refine (f0a ((a0B i).tdiv (a0B j)) S (by have:=F.1;omega) (by omega) (by rw [a4,<- e1,b6])).mo ?_
   rintro _ G2 ⟨⟨s1,rfl,J⟩,z⟩
   replace J:=J.low a5
   (try replace L:=z.bk L);(try replace N:=z.bk N);(try replace b2:=z.bk b2);(try replace I:=z.bk I);(try replace F:=F.trans z);(try replace k0:=k0.mo z);(try replace O:=O.mo z);(try replace Q:=Q.mo z);(try replace M:=M.mo z);(try replace S:=S.mo z);(try replace U:=U.mo z)
   try simp [Z,L,N]
   refine (b0f k0 (by have:=F.1;omega) (by omega)).mo ?_
   rintro _ G2 ⟨rfl,z⟩
   (try replace L:=z.bk L);(try replace N:=z.bk N);(try replace b2:=z.bk b2);(try replace I:=z.bk I);(try replace F:=F.trans z);(try replace k0:=k0.mo z);(try replace O:=O.mo z);(try replace Q:=Q.mo z);(try replace M:=M.mo z);(try replace S:=S.mo z);(try replace U:=U.mo z)
   replace J:=J.mo z
   try simp [Z]
   generalize a9:G2.push _=G3
   have z:Ext G2 G3:=by rw [<- a9];exact (Ext.refl _).push
   have U:Lim G3 (.slice (some ⟨G2.size,0,none⟩) 1 1) [rm]:=by
    refine ⟨(Own.mk (fl:=0) (cap:=1) (e:=a0b) (sz:=1) (n:=1) (cs:=b0C [rm]) ?_ (by simp) (N1K _)).sl,fun x F=>by simp at F;omega⟩
    rw [<- a9,a0N];rfl
   (try replace L:=z.bk L);(try replace N:=z.bk N);(try replace b2:=z.bk b2);(try replace I:=z.bk I);(try replace F:=F.trans z);(try replace k0:=k0.mo z);(try replace O:=O.mo z);(try replace Q:=Q.mo z);(try replace M:=M.mo z);(try replace S:=S.mo z);(try replace U:=U.mo z)
   replace J:=J.mo z
   have a0:=F.1
   refine (f0a ((a0B i).tmod (a0B j)) U (by have:=F.1;omega) (by simp) (by rw [<- e2,b6,c7];simp [a0q])).mo ?_
   rintro _ G2 ⟨⟨s2,rfl,Y⟩,z⟩
   (try replace L:=z.bk L);(try replace N:=z.bk N);(try replace b2:=z.bk b2);(try replace I:=z.bk I);(try replace F:=F.trans z);(try replace k0:=k0.mo z);(try replace O:=O.mo z);(try replace Q:=Q.mo z);(try replace M:=M.mo z);(try replace S:=S.mo z);(try replace U:=U.mo z)
   have hz:=a0r I
   have a6:=a0r b2
   have a2:∀ x y,slB s1=some x->slB s2=some y->x ≠ y:=fun x y h1 h2=>by have:=(J.lt h1).2;have:=(Y.lt h2).1;omega
   simp [Z,b2,I,J.cells,J.plain,Y.cells,Y.plain,hz,a6]
   refine fun _=>⟨_,_,⟨rfl,rfl⟩,⟨s1,rfl,?_⟩,⟨s2,rfl,?_⟩,?_⟩
   ·exact ((J.mo z).setT b2 (by decide)).setT (by rw [a0Y (by omega)];exact I) (by decide)
   ·exact ((Y.low a0).setT b2 (by decide)).setT (by rw [a0Y (by omega)];exact I) (by decide)
   ·intro a s b u x y e1 e2 h1 h2
    cases e1;cases e2
    exact a2 x y h1 h2
  ·have c0:2<=(a0l (a0B j).natAbs).length:=by omega
   have c4:(a0l (a0B j).natAbs).length<=(a0l (a0B i).natAbs).length:=b0S (by omega)
   have c1:¬ ((a0l (a0B j).natAbs).length:Int)=1:=by omega
   simp [t0C,A0T,Z,a7,h1,c1,M.slen]
   refine (m0A Q M F.1 (by omega) c0 c4 (m0j (by omega))).mo ?_
   rintro _ G2 ⟨⟨q1,o,q2,o2,rfl,S,a4,c6,U,a8,c9⟩,z⟩
   (try replace L:=z.bk L);(try replace N:=z.bk N);(try replace b2:=z.bk b2);(try replace I:=z.bk I);(try replace F:=F.trans z);(try replace k0:=k0.mo z);(try replace O:=O.mo z);(try replace Q:=Q.mo z);(try replace M:=M.mo z);(try replace S:=S.mo z);(try replace U:=U.mo z)
   rw [a0p,a0p] at a4 a8
   simp [Z]
   refine c0t ?_
   simp [v0A,Z,L,N]
   refine (b0f k0 (by have:=F.1;omega) (by omega)).mo ?_
   rintro _ G2 ⟨rfl,z⟩
   (try replace L:=z.bk L);(try replace N:=z.bk N);(try replace b2:=z.bk b2);(try replace I:=z.bk I);(try replace F:=F.trans z);(try replace k0:=k0.mo z);(try replace O:=O.mo z);(try replace Q:=Q.mo z);(try replace M:=M.mo z);(try replace S:=S.mo z);(try replace U:=U.mo z)
   try simp [Z,L,N]
   refine (b0f O (by have:=F.1;omega) (by omega)).mo ?_
   rintro _ G2 ⟨rfl,z⟩
   (try replace L:=z.bk L);(try replace N:=z.bk N);(try replace b2:=z.bk b2);(try replace I:=z.bk I);(try replace F:=F.trans z);(try replace k0:=k0.mo z);(try replace O:=O.mo z);(try replace Q:=Q.mo z);(try replace M:=M.mo z);(try replace S:=S.mo z);(try replace U:=U.mo z)
   try simp [Z]
   have a5:=F.1
   refine (f0a ((a0B i).tdiv (a0B j)) S (by have:=F.1;omega) (by omega) (by rw [a4,<- e1])).mo ?_
   rintro _ G2 ⟨⟨s1,rfl,J⟩,z⟩
   replace J:=J.low a5
   (try replace L:=z.bk L);(try replace N:=z.bk N);(try replace b2:=z.bk b2);(try replace I:=z.bk I);(try replace F:=F.trans z);(try replace k0:=k0.mo z);(try replace O:=O.mo z);(try replace Q:=Q.mo z);(try replace M:=M.mo z);(try replace S:=S.mo z);(try replace U:=U.mo z)
   try simp [Z,L,N]
   refine (b0f k0 (by have:=F.1;omega) (by omega)).mo ?_
   rintro _ G2 ⟨rfl,z⟩
   (try replace L:=z.bk L);(try replace N:=z.bk N);(try replace b2:=z.bk b2);(try replace I:=z.bk I);(try replace F:=F.trans z);(try replace k0:=k0.mo z);(try replace O:=O.mo z);(try replace Q:=Q.mo z);(try replace M:=M.mo z);(try replace S:=S.mo z);(try replace U:=U.mo z)
   replace J:=J.mo z
   try simp [Z]
   have a0:=F.1
   refine (f0a ((a0B i).tmod (a0B j)) U (by have:=F.1;omega) (by omega) (by rw [a8,<- e2])).mo ?_
   rintro _ G2 ⟨⟨s2,rfl,Y⟩,z⟩
   (try replace L:=z.bk L);(try replace N:=z.bk N);(try replace b2:=z.bk b2);(try replace I:=z.bk I);(try replace F:=F.trans z);(try replace k0:=k0.mo z);(try replace O:=O.mo z);(try replace Q:=Q.mo z);(try replace M:=M.mo z);(try replace S:=S.mo z);(try replace U:=U.mo z)
   have hz:=a0r I
   have a6:=a0r b2
   have a2:∀ x y,slB s1=some x->slB s2=some y->x ≠ y:=fun x y h1 h2=>by have:=(J.lt h1).2;have:=(Y.lt h2).1;omega
   simp [Z,b2,I,J.cells,J.plain,Y.cells,Y.plain,hz,a6]
   refine fun _=>⟨_,_,⟨rfl,rfl⟩,⟨s1,rfl,?_⟩,⟨s2,rfl,?_⟩,?_⟩
   ·exact ((J.mo z).setT b2 (by decide)).setT (by rw [a0Y (by omega)];exact I) (by decide)
   ·exact ((Y.low a0).setT b2 (by decide)).setT (by rw [a0Y (by omega)];exact I) (by decide)
   ·intro a s b u x y e1 e2 h1 h2
    cases e1;cases e2
    exact a2 x y h1 h2
end
section
abbrev Log:=List (List Nat × List Nat)
def WRL (E:Env) (fl:Nat):List a0v->a0U->a0c->Log->(a0U->a0c->Log->Prop)->Prop
 | [],t,H,lg,Z=>Z t H lg
 | o :: r,t,H,lg,Z=>if a0Q t o.g then WS E fl t H o.op (fun v H'=>WRL E fl r (put t o.dst v) H' (e0B t o.op H H' :: lg) Z) (fun _=>False) else WRL E fl r (put t o.dst undef) H (([],[]) :: lg) Z
variable {E:Env} {fl:Nat} {t:a0U} {H:a0c} {Q:d0K} {R:a0P}
theorem o0O (bef:List Nat) (pairs:List (Nat × Nat)) {Z:a0U->a0c->Prop}:∀ (ops:List a0v) (i:Nat) (t:a0U) (H:a0c) (c:Log),
  WRL E fl ops t H c (fun t' H' lg=>c0u lg.reverse pairs=true/\Z t' H')->∃ n t' H',b0T (a0M E n) fl bef pairs i ops t H none c=.fin .normal t' H'/\Z t' H'
 | [],i,t,H,c,h=>⟨0,t,H,by simp only [b0T];rw [M1Z h.1],h.2⟩
 | o :: r,i,t,H,c,h=>by
  simp only [WRL] at h
  split at h
  ·rename_i s
   obtain ⟨n,j⟩:=S0i h
   cases hs:b0i (a0M E n) fl t H o.op with
   | bad=>rw [hs] at j;exact N1i j id
   | pan v=>rw [hs] at j;exact N1i j id
   | ok rr =>
    obtain ⟨v,H'⟩:=rr
    rw [hs] at j
    obtain ⟨m,w,q,k,u⟩:=o0O bef pairs r (i + 1) _ _ _ j
    refine ⟨max n m,w,q,?_,u⟩
    have x:=i0E (a0F E n (max n m) (by omega)) (M1U fl) (t:=t) (H:=H) (so:=o.op) (by rw [hs];simp)
    have y:=d0w (a0F E m (max n m) (by omega)) (M1U fl) bef pairs r (i + 1) (put t o.dst v) H' none (e0B t o.op H H' :: c) (by rw [k];simp)
    simp only [b0T,j0u,N1g,N1G,s,N1E,x,hs,y];exact k
  ·rename_i s
   obtain ⟨m,w,q,k,u⟩:=o0O bef pairs r (i + 1) _ _ _ h
   exact ⟨m,w,q,by simp only [b0T,j0u,N1g,N1G,s];exact k,u⟩
theorem y0f {ops:List a0v} {bef:List Nat} {pairs:List (Nat × Nat)} (h:WRL E fl ops t H [] (fun t' H' lg=>c0u lg.reverse pairs=true/\Q .normal t' H')):W E fl (.draw ops bef pairs) t H Q R:=by
 obtain ⟨n,t',H',c,k⟩:=o0O bef pairs ops 0 t H [] h
 refine ⟨n + 1,?_⟩
 have j:=d0w (a0F E n (n+1) (by omega)) (M1U fl) bef pairs ops 0 t H none [] (by rw [c];simp)
 simp only [a0K,j,c];exact k
section
variable {Z:a0U->a0c->Log->Prop} {lg:Log} {d:Option Nat} {op:SOp} {r:List a0v}
@[simp ↓] theorem G1X:WRL E fl [] t H lg Z=Z t H lg:=nr rfl
@[simp ↓] theorem F1D:WRL E fl (⟨d,none,op⟩ :: r) t H lg Z=WS E fl t H op (fun v H'=>WRL E fl r (put t d v) H' (e0B t op H H' :: lg) Z) (fun _=>False):=by simp [WRL,a0Q]
@[simp ↓] theorem L1N {j:Nat} {w:Bool}:WRL E fl (⟨d,some (j,w),op⟩ :: r) t H lg Z=if u0M w (get t j)=true then WS E fl t H op (fun v H'=>WRL E fl r (put t d v) H' (e0B t op H H' :: lg) Z) (fun _=>False) else WRL E fl r (put t d undef) H (([],[]) :: lg) Z:=by
 have h:a0Q t (some (j,w))=u0M w (get t j):=by
  simp only [a0Q]
  generalize get t j=v
  cases v <;> rfl
 show (if a0Q t (some (j,w))=true then _ else _)=_
 rw [h]
theorem y0c {t t':a0U} {ops:List a0v} {lg:Log} (h:t=t'):WRL E fl ops t H lg Z=WRL E fl ops t' H lg Z:=by rw [h]
attribute [congr] y0c
@[simp] theorem v1f {p:Addr}:blkOf (.pointer (some p))=[p.block]:=nr rfl
@[simp] theorem F1P {p:Addr} {n c:Nat}:blkOf (.slice (some p) n c)=[p.block]:=nr rfl
@[simp] theorem u1d {n c:Nat}:blkOf (.slice none n c)=[]:=nr rfl
@[simp] theorem H1K {p:Addr} {n c:Nat}:blkW (.slice (some p) n c)=if n=0/\c=0 then [] else [p.block]:=nr rfl
@[simp] theorem v1g {n c:Nat}:blkW (.slice none n c)=[]:=nr rfl
attribute [simp] c0j e0B a0W c0u t0e
end
end
section
variable {fl:Nat} {H:a0c} {R:a0P} {v w:Value} {i j:Bool × List Nat}
theorem K1X {G:a0c} {z1 z2 r1 r2:Blk}:Ext G (Array.setIfInBounds (Array.setIfInBounds (Array.push (Array.push G z1) z2) G.size r1) (G.size + 1) r2) /\
  a0c.bk (Array.setIfInBounds (Array.setIfInBounds (Array.push (Array.push G z1) z2) G.size r1) (G.size + 1) r2) G.size=r1 /\
  a0c.bk (Array.setIfInBounds (Array.setIfInBounds (Array.push (Array.push G z1) z2) G.size r1) (G.size + 1) r2) (G.size + 1)=r2:=by
 refine ⟨(((Ext.refl G).push.push).set (by omega)).set (by omega),?_,?_⟩
 ·rw [a0Y (by omega),a0C (by simp)]
 ·rw [a0C (by simp)]
theorem b0r (n:Nat):(a0J (n:Int))=(false,a0l n):=by unfold a0J;simp
theorem m0x (h:c0m H v i) (k:c0m H w j) (hf:fl<=H.size) (hn:i.2.length < 536870912) (hm:j.2.length < 536870912) :
  b0k env fl F0A [v,w] H (fun r H'=>n0t H.size H' r (a0J (Int.gcd (a0B i) (a0B j)))/\Ext H H') R:=by
 have k0:=h
 have O:=k
 obtain ⟨s,rfl,hs⟩:=h
 obtain ⟨u,rfl,hu⟩:=k
 refine a0i M1l hf (h:=?_)
 intro ρ h0
 simp [G1O,U0f,h0]
 generalize hG:((H.push _).push _).push _=G
 have F:Ext H G:=by rw [<- hG];exact (Ext.refl H).push.push.push
 have Z:a0c.bk G H.size=.row false a0a [.bool i.1,s]:=by rw [<- hG];simp
 have Y:a0c.bk G (H.size + 1)=.row false a0a [.bool j.1,u]:=by rw [<- hG];simp
 have b2:a0c.bk G (H.size + 2)=.row false a0a [.bool false,.slice none 0 0]:=by rw [<- hG];simp
 have hz:H.size + 2 < G.size:=a0r b2
 clear hG
 replace k0:=k0.mo F
 replace O:=O.mo F
 have l1:=a0L k0.ok
 have l2:=a0L O.ok
 refine c0t ?_
 simp [U0g,h0,Z,Y]
 refine (b0u k0 (by omega) (by omega)).mo ?_
 rintro x G2 ⟨I,z⟩
 (try replace Z:=z.bk Z);(try replace Y:=z.bk Y);(try replace b2:=z.bk b2);(try replace L:=z.bk L);(try replace N:=z.bk N);(try replace b5:=z.bk b5);(try replace b6:=z.bk b6);(try replace F:=F.trans z);(try replace k0:=k0.mo z);(try replace O:=O.mo z);(try replace I:=I.mo z);(try replace J:=J.mo z);(try replace U:=U.mo z);(try replace Q:=Q.mo z);(try replace S:=S.mo z);(try replace M:=M.mo z)
 try simp [h0]
 have b9:=F.1
 refine (f0a (((a0B i).natAbs:Nat):Int) I (by have:=F.1;omega) (by omega) (by simp [a0p])).mo ?_
 rintro x G2 ⟨I,z⟩
 replace I:=I.low b9
 (try replace Z:=z.bk Z);(try replace Y:=z.bk Y);(try replace b2:=z.bk b2);(try replace L:=z.bk L);(try replace N:=z.bk N);(try replace b5:=z.bk b5);(try replace b6:=z.bk b6);(try replace F:=F.trans z);(try replace k0:=k0.mo z);(try replace O:=O.mo z);(try replace I:=I.mo z);(try replace J:=J.mo z);(try replace U:=U.mo z);(try replace Q:=Q.mo z);(try replace S:=S.mo z);(try replace M:=M.mo z)
 try simp [h0,Y]
 refine (b0u O (by have:=F.1;omega) (by omega)).mo ?_
 rintro y G2 ⟨J,z⟩
 (try replace Z:=z.bk Z);(try replace Y:=z.bk Y);(try replace b2:=z.bk b2);(try replace L:=z.bk L);(try replace N:=z.bk N);(try replace b5:=z.bk b5);(try replace b6:=z.bk b6);(try replace F:=F.trans z);(try replace k0:=k0.mo z);(try replace O:=O.mo z);(try replace I:=I.mo z);(try replace J:=J.mo z);(try replace U:=U.mo z);(try replace Q:=Q.mo z);(try replace S:=S.mo z);(try replace M:=M.mo z)
 try simp [h0]
 have c0:=F.1
 refine (f0a (((a0B j).natAbs:Nat):Int) J (by have:=F.1;omega) (by omega) (by simp [a0p])).mo ?_
 rintro y G2 ⟨J,z⟩
 replace J:=J.low c0
 (try replace Z:=z.bk Z);(try replace Y:=z.bk Y);(try replace b2:=z.bk b2);(try replace L:=z.bk L);(try replace N:=z.bk N);(try replace b5:=z.bk b5);(try replace b6:=z.bk b6);(try replace F:=F.trans z);(try replace k0:=k0.mo z);(try replace O:=O.mo z);(try replace I:=I.mo z);(try replace J:=J.mo z);(try replace U:=U.mo z);(try replace Q:=Q.mo z);(try replace S:=S.mo z);(try replace M:=M.mo z)
 obtain ⟨s2,c3,I⟩:=I
 obtain ⟨s3,c4,J⟩:=J
 have hsz:=F.1
 have a0:H.size<=G2.size + 1:=by omega
 have c5:=a0r b2
 simp [h0,a0,c3,c4,I.cells,J.cells,I.plain,J.plain,hsz]
 rw [b0r] at I J
 obtain ⟨z,L,N⟩:=K1X (G:=G2) (z1:=.row false a0a [.bool false,.slice none 0 0]) (z2:=.row false a0a [.bool false,.slice none 0 0]) (r1:=.row false a0a [.bool false,s2]) (r2:=.row false a0a [.bool false,s3])
 replace I:=I.mo z
 replace J:=J.mo z
 replace b2:=z.bk b2
 replace F:=F.trans z
 simp only [b0r]
 generalize Array.setIfInBounds _ _ _=G3 at *
 generalize hP:G2.size=P at *
 refine b0X (fun c t G=>∃ (a b:Nat) (s5 s6:Value),c=b/\t.length=30/\get t 4=.pointer (some ⟨H.size + 2,0,none⟩)/\get t 5=.pointer (some ⟨P,0,none⟩)/\get t 6=.pointer (some ⟨P + 1,0,none⟩) /\
   Ext H G/\a0c.bk G (H.size + 2)=.row false a0a [.bool false,.slice none 0 0]/\a0c.bk G P=.row false a0a [.bool false,s5]/\a0c.bk G (P + 1)=.row false a0a [.bool false,s6]/\j0G H.size G s5 (a0l a)/\j0G H.size G s6 (a0l b) /\
   (a0l a).length < 536870912/\(a0l b).length < 536870912/\Nat.gcd a b=Int.gcd (a0B i) (a0B j))
  (fun t G=>∃ (a:Nat) (s5:Value),t.length=30/\get t 4=.pointer (some ⟨H.size + 2,0,none⟩)/\get t 5=.pointer (some ⟨P,0,none⟩) /\
   Ext H G/\a0c.bk G (H.size + 2)=.row false a0a [.bool false,.slice none 0 0]/\a0c.bk G P=.row false a0a [.bool false,s5]/\j0G H.size G s5 (a0l a)/\a=Int.gcd (a0B i) (a0B j)) (a0B j).natAbs ?_ ?_ ?_
 ·exact ⟨(a0B i).natAbs,(a0B j).natAbs,s2,s3,rfl,by simp,by simp,by simp,by simp,F,b2,L,N,I,J,by omega,by omega,rfl⟩
 ·clear h0 ρ k0 O I J Z Y b2 F
  rintro c t G ⟨a,b,s5,s6,rfl,ht,g4,g5,g6,F,b2,L,N,U,Q,la,lb,hg⟩
  obtain ⟨ρ,rfl⟩:=toT ht
  simp only [b0H,Nat.reduceLT] at g4 g5 g6
  by_cases hb:c=0
  ·subst hb
   rw [a0G] at Q
   simp [E0u,g4,g5,g6,b2,L,N,Q.slen]
   rw [Nat.gcd_zero_right] at hg
   exact ⟨F,by rw [<- hg];exact U⟩
  ·have c1:0 < (a0l c).length:=List.length_pos_iff.2 (by rw [Ne,b0O];exact hb)
   have a5:(0:Int) < ((a0l c).length:Int):=by omega
   have b8:a0l c ≠ []:=by rw [Ne,b0O];exact hb
   simp [E0u,U0h,g4,g5,g6,b2,L,N,Q.slen,c1,a5,b8]
   have k0:c0m G (.agg #[.bool false,s5]) (a0J (a:Int)):=⟨s5,by rw [b0r],by rw [b0r];exact U.lim⟩
   have O:c0m G (.agg #[.bool false,s6]) (a0J (c:Int)):=⟨s6,by rw [b0r],by rw [b0r];exact Q.lim⟩
   have a2:=F.1
   refine (m0w k0 O F.1 (by rw [b0r];exact la) (by rw [b0r];exact lb) (by rw [b0m];omega)).mo ?_
   rintro _ G2 ⟨⟨q,m,rfl,S,M,_⟩,z⟩
   replace S:=S.low a2
   replace M:=M.low a2
   (try replace Z:=z.bk Z);(try replace Y:=z.bk Y);(try replace b2:=z.bk b2);(try replace L:=z.bk L);(try replace N:=z.bk N);(try replace b5:=z.bk b5);(try replace b6:=z.bk b6);(try replace F:=F.trans z);(try replace k0:=k0.mo z);(try replace O:=O.mo z);(try replace I:=I.mo z);(try replace J:=J.mo z);(try replace U:=U.mo z);(try replace Q:=Q.mo z);(try replace S:=S.mo z);(try replace M:=M.mo z)
   rw [b0m,b0m] at S M
   have a8:((a:Int).tmod (c:Int))=((a % c:Nat):Int):=by rw [Int.tmod_eq_emod_of_nonneg (by omega)];rfl
   rw [a8,b0r] at M
   obtain ⟨s7,rfl,S⟩:=S
   obtain ⟨s8,rfl,M⟩:=M
   have hsz:=F.1
   have a0:H.size<=G2.size + 1:=by omega
   have c6:=a0r N
   simp [g4,g5,g6,L,N,S.cells,M.cells,S.plain,M.plain,hsz,a0]
   obtain ⟨z,b5,b6⟩:=K1X (G:=G2) (z1:=.row false a0a [.bool false,.slice none 0 0]) (z2:=.row false a0a [.bool false,.slice none 0 0]) (r1:=.row false a0a [.bool (a0J (↑a / ↑c)).1,s7]) (r2:=.row false a0a [.bool false,s8])
   (try replace Z:=z.bk Z);(try replace Y:=z.bk Y);(try replace b2:=z.bk b2);(try replace L:=z.bk L);(try replace N:=z.bk N);(try replace b5:=z.bk b5);(try replace b6:=z.bk b6);(try replace F:=F.trans z);(try replace k0:=k0.mo z);(try replace O:=O.mo z);(try replace I:=I.mo z);(try replace J:=J.mo z);(try replace U:=U.mo z);(try replace Q:=Q.mo z);(try replace S:=S.mo z);(try replace M:=M.mo z)
   generalize Array.setIfInBounds (Array.setIfInBounds _ _ _) _ _=G3 at *
   have a3:=a0r L
   have a6:=a0r N
   have a4:H.size<=P:=by omega
   have a1:H.size<=P + 1:=by omega
   have c2:P + 1 ≠ P:=by omega
   have a9:P ≠ G2.size + 1:=by omega
   have b7:G2.size + 1 ≠ P:=by omega
   refine y0f ?_
   simp [U0i,g4,g5,g6,N,b6,L,Q.cells,M.cells,Q.plain,M.plain,a4,a1,c2,a9,b7]
   have a7:a % c < c:=N1R _ (by omega)
   refine ⟨a % c,a7,(F.set a4).set a1,by rw [a0Y (by omega),a0Y (by omega)];exact b2,c,s6,by rw [a0C a3],s8,by rw [a0C (by simpa using a6)],?_,?_,lb,O1Q (b0S (Nat.le_of_lt a7)) lb,by rw [Nat.gcd_comm,<- Nat.gcd_rec,Nat.gcd_comm,hg]⟩
   ·exact (Q.setT L (by decide)).setT (by rw [a0Y (by omega)];exact N) (by decide)
   ·exact (M.setT L (by decide)).setT (by rw [a0Y (by omega)];exact N) (by decide)
 ·clear h0 ρ k0 O I J Z Y b2 F
  rintro t G ⟨a,s5,ht,g4,g5,F,b2,L,U,hg⟩
  obtain ⟨ρ,rfl⟩:=toT ht
  simp only [b0H,Nat.reduceLT] at g4 g5
  have a3:=a0r b2
  have a6:=a0r L
  subst hg
  simp [U0j,g4,g5,b2,L,U.cells,U.plain,a3]
  exact fun _=>⟨s5,rfl,U.setT b2 (by decide)⟩
theorem r0w (h:c0m H v i) (k:c0m H w j) (c:fl<=H.size) (s:i.2.length < 536870912) (q:j.2.length < 536870912) :
  b0k env fl F0A [v,w] H (fun r H'=>c0m H' r (a0J (Int.gcd (a0B i) (a0B j)))/\Ext H H') R:=(m0x h k c s q).mo fun _ _ h=>⟨h.1.int,h.2⟩
end
section
def x0Y (E:Env) (fl fl':Nat) (f:FuncId) (args:List Value) (H:a0c) (d:Option Nat) (r:List a0v) (t:a0U) (Z:a0U->a0c->Prop) (R:a0P):Prop :=
 b0k E fl' f args H (fun v H'=>WR E fl r (put t d v) H' Z R) R
@[simp ↓ high] theorem F1E {E:Env} {fl:Nat} {t:a0U} {H:a0c} {R:a0P} {d:Option Nat} {r:List a0v} {Z:a0U->a0c->Prop} {f:FuncId} {c:List Opd} {lone:Bool} :
  WS E fl t H (.call f c lone) (fun v H'=>WR E fl r (put t d v) H' Z R) R=x0Y E fl (if lone then fl else max fl H.size) f (c.map (ev t)) H d r t Z R:=nr rfl
def x0W (E:Env) (fl fl':Nat) (x:Value) (args:List Value) (H:a0c) (d:Option Nat) (r:List a0v) (t:a0U) (Z:a0U->a0c->Prop) (R:a0P):Prop :=
 match x with
 | .func (.func f) p q=>x0Y E fl fl' f (p.toList ++ args ++ q.toList) H d r t Z R
 | _=>False
@[simp ↓ high] theorem u1J {E:Env} {fl:Nat} {t:a0U} {H:a0c} {R:a0P} {d:Option Nat} {r:List a0v} {Z:a0U->a0c->Prop} {x:Opd} {c:List Opd} {lone:Bool} :
  WS E fl t H (.callv x c lone) (fun v H'=>WR E fl r (put t d v) H' Z R) R=x0W E fl (if lone then fl else max fl H.size) (ev t x) (c.map (ev t)) H d r t Z R:=by
 simp only [WS,opA,x0W];generalize ev t x=y
 cases y <;> try rfl
 rename_i g _ _;cases g <;> rfl
@[simp] theorem u1C {E:Env} {fl fl':Nat} {t:a0U} {H:a0c} {R:a0P} {d:Option Nat} {r:List a0v} {Z:a0U->a0c->Prop} {f:FuncId} {p q:Array Value} {c:List Value} :
  x0W E fl fl' (.func (.func f) p q) c H d r t Z R=x0Y E fl fl' f (p.toList ++ c ++ q.toList) H d r t Z R:=nr rfl
theorem s0s {E:Env} {fl fl' j:Nat} {t t':a0U} {H:a0c} {R:a0P} {d:Option Nat} {r:List a0v} {Z:a0U->a0c->Prop} {f:FuncId} {k c:List Value} (h:k=c) (s:t=t') (q:fl' = j) :
  x0Y E fl fl' f k H d r t Z R=x0Y E fl j f c H d r t' Z R:=by rw [h,s,q]
attribute [congr] s0s
section
variable {E:Env} {fl:Nat} {t:a0U} {H:a0c} {Z:a0U->a0c->Log->Prop} {lg:Log} {d:Option Nat} {r:List a0v}
def G1T (E:Env) (fl fl':Nat) (f:FuncId) (args:List Value) (H:a0c) (d:Option Nat) (r:List a0v) (t:a0U) (lg:Log) (Z:a0U->a0c->Log->Prop):Prop :=
 b0k E fl' f args H (fun v H'=>WRL E fl r (put t d v) H' lg Z) (fun _=>False)
@[simp ↓ high] theorem F1F {f:FuncId} {c:List Opd} {lone:Bool} :
  WS E fl t H (.call f c lone) (fun v H'=>WRL E fl r (put t d v) H' lg Z) (fun _=>False)=G1T E fl (if lone then fl else max fl H.size) f (c.map (ev t)) H d r t lg Z:=nr rfl
end
section
variable {H G G3:a0c} {q p:Nat} {X r0:Blk} {ro:Bool} {e:TypeId} {cs:List Value}
theorem w0s (c:Array.setIfInBounds G q X=G3) (hb:a0c.bk G p=r0) (h:q ≠ p):a0c.bk G3 p=r0:=by rw [<- c,a0Y h];exact hb
theorem k0L (c:Array.setIfInBounds G q X=G3) (hb:a0c.bk G q=.row ro e cs):a0c.bk G3 q=X:=by rw [<- c,a0C (a0r hb)]
theorem q0l (c:Array.setIfInBounds G q X=G3) (j:Ext H G) (h:H.size<=q):Ext H G3:=by rw [<- c];exact j.set h
theorem Lim.setS {v:Value} {l:List Nat} (k:Lim G v l) (h:Array.setIfInBounds G q X=G3) (hb:a0c.bk G q=.row ro e cs) (c:e ≠ a0b):Lim G3 v l:=by rw [<- h];exact k.setT hb c
theorem c0m.setS {v:Value} {i:Bool × List Nat} (k:c0m G v i) (h:Array.setIfInBounds G q X=G3) (hb:a0c.bk G q=.row ro e cs) (c:e ≠ a0b):c0m G3 v i:=by rw [<- h];exact k.setT hb c
theorem F0C {z r:Blk} (c:Array.setIfInBounds (Array.push G z) G.size r=G3):Ext G G3/\a0c.bk G3 G.size=r:=by
 rw [<- c];exact ⟨((Ext.refl G).push).set (by omega),by rw [a0C (by simp)]⟩
theorem t0i {z:Blk} (c:Array.push G z=G3):Ext G G3/\a0c.bk G3 G.size=z:=by
 rw [<- c];exact ⟨(Ext.refl G).push,a0N⟩
end
def lz (z:Int):Nat:=(a0l z.natAbs).length
theorem J1M {z:Int} {k:Nat} (h:z.natAbs < 4294967296 ^ k):lz z<=k:=f0I h
theorem w1b (z:Int):z.natAbs < 4294967296 ^ lz z:=j0S _
theorem S0B (x y:Int):lz (x * y)<=lz x + lz y:=by
 refine J1M ?_
 rw [Int.natAbs_mul,O1S]
 exact Nat.mul_lt_mul'' (w1b x) (w1b y)
theorem S0C:lz 1=1:=by unfold lz;rw [c0X (by decide),show (1:Int).natAbs / 4294967296=0 from rfl,a0G];rfl
theorem X0i:lz 0=0:=by unfold lz;rw [show (0:Int).natAbs=0 from rfl,a0G];rfl
theorem b0F (z:Int):(a0J z).2.length=lz z:=rfl
theorem z0v {i:Bool × List Nat} (h:b0g i.2):lz (a0B i)<=i.2.length:=a0L h
end
section
variable {fl:Nat} {H:a0c} {R:a0P} {v w:Value} {i j:Bool × List Nat}
abbrev d0d:=(Bool × List Nat) × (Bool × List Nat)
def j0o (H:a0c) (v:Value) (a:d0d):Prop:=∃ s u,v=.agg #[.bool a.1.1,s,.bool a.2.1,u]/\Lim H s a.1.2/\Lim H u a.2.2
variable {a b:d0d}
theorem j0o.mo {G:a0c} (h:j0o H v a) (c:Ext H G):j0o G v a:=by obtain ⟨s,u,j,k,q⟩:=h;exact ⟨s,u,j,k.mo c,q.mo c⟩
theorem j0o.setT (h:j0o H v a) {p:Nat} {ro:Bool} {k:TypeId} {j:List Value} {r:Blk} (hb:H.bk p=.row ro k j) (c:k ≠ a0b):j0o (H.setIfInBounds p r) v a:=by
 obtain ⟨s,u,q,w,x⟩:=h;exact ⟨s,u,q,w.setT hb c,x.setT hb c⟩
theorem j0o.setS {G3:a0c} {q:Nat} {X:Blk} {ro:Bool} {e:TypeId} {cs:List Value} (k:j0o H v a) (h:Array.setIfInBounds H q X=G3) (hb:a0c.bk H q=.row ro e cs) (c:e ≠ a0b):j0o G3 v a:=by rw [<- h];exact k.setT hb c
def n0F (a:d0d):Nat:=max a.1.2.length a.2.2.length
def e0p (a:d0d):Bool:=!a.1.1 && a.1.2.length == 0 && !a.2.1 && a.2.2.length == 0
def n0H (a:d0d):Bool:=e0p a || (d0k a.1 && d0k a.2 && !a.2.1 && a0B a.2 != 0 && Int.gcd (a0B a.1) (a0B a.2) == 1)
def l0E (a:d0d):Rat:=if e0p a then 0 else if n0H a then Rat.divInt (a0B a.1) (a0B a.2) else 0
def i0X (x:Rat):d0d:=(a0J x.num,a0J x.den)
theorem k0P (k:e0p a=false) (c:n0H a=true):i0X (l0E a)=(a0J (a0B a.1),a0J (a0B a.2)):=by
 unfold l0E
 rw [k,c]
 unfold n0H at c
 rw [k,O1U] at c
 simp only [M1W,O1s,bne_iff_ne,ne_eq,beq_iff_eq] at c
 obtain ⟨⟨⟨⟨w,q⟩,r⟩,h⟩,s⟩:=c
 have x:0 < a0B a.2:=by
  unfold a0B at h ⊢;rw [q,r] at h ⊢;simp at h ⊢;omega
 have j:((a0B a.2).toNat:Int)=a0B a.2:=P1c (by omega)
 have u:Rat.divInt (a0B a.1) (a0B a.2) = ⟨a0B a.1,(a0B a.2).toNat,by omega,by rw [Nat.Coprime,<- s,Int.gcd];congr 1;omega⟩:=by
  rw [Rat.mk_eq_divInt,j]
 simp only [N1g,N1G,N1E]
 rw [u];unfold i0X;simp only [j]
theorem m0f:i0X 0=((false,[]),a0J 1):=by
 show (a0J 0,a0J 1)=_;rw [n0Z]
theorem g0I (h:j0o H v a) (w:fl<=H.size):b0k env fl X0a [v] H (fun r H'=>r=.bool (e0p a)/\Ext H H') R:=by
 obtain ⟨s,u,rfl,hs,x⟩:=h
 refine a0i M1h w (h:=?_)
 intro ρ k
 simp [G1K,T0S,k]
 have c:=hs.slen
 have j:=x.slen
 cases h1:a.1.1
 ·by_cases q:a.1.2=[]
  ·cases h3:a.2.1
   ·simp [r0V,k,h1,q,h3,c,j,e0p]
   ·simp [r0V,k,h1,q,h3,c,j,e0p]
  ·simp [r0V,k,h1,q,c,j,e0p]
 ·simp [r0V,k,h1,c,j,e0p]
theorem k0l (h:c0m H v i) (u:fl<=H.size) (w:i.2.length < 536870912):b0k env fl X0b [v] H (fun r H'=>r=.bool (a0B i == 0)/\Ext H H') R:=by
 have k0:=h
 obtain ⟨s,rfl,hs⟩:=h
 refine a0i M1j u (h:=?_)
 intro ρ q
 simp [G1M,T0X,T0Y,q]
 refine (f0x (k0.mo (by simp)) (j:=(false,[])) ⟨_,rfl,Lim.nil⟩ (by simp) w (by simp)).mo ?_
 rintro _ y ⟨rfl,x⟩
 have:a0B (false,[])=0:=by unfold a0B d0k;simp [a0q]
 rw [this]
 simp [i0Y]
 intro _
 by_cases c:a0B i < 0
 ·simp [c];omega
 ·by_cases k:0 < a0B i
  ·simp [c,k];omega
  ·simp [c,k];omega
theorem i0o (q:fl<=H.size):b0k env fl S0n [] H (fun r H'=>c0m H' r (a0J 1)/\Ext H H') R:=by
 refine a0i M1m q (h:=?_)
 intro ρ k
 simp [E1X,U0k,U0l,k]
 refine (t0j (by simp) (by omega) (by omega)).mo ?_
 rintro _ w ⟨⟨s,rfl,hs⟩,j⟩
 have c:=j.bk a0N
 have u:=a0r c
 simp [c,hs.cells,hs.plain,u]
 exact fun _=>⟨s,rfl,hs.setT c (by decide)⟩
theorem f0C (h:j0o H v a) (hf:fl<=H.size) (U:n0F a < 536870912):b0k env fl H0d [v] H (fun r H'=>r=.bool (n0H a)/\Ext H H') R:=by
 have k0:=h
 have O:a.1.2.length < 536870912:=by unfold n0F at U;omega
 have J:a.2.2.length < 536870912:=by unfold n0F at U;omega
 obtain ⟨s,u,rfl,hs,hu⟩:=h
 have w:c0m H (.agg #[.bool a.1.1,s]) a.1:=⟨s,rfl,hs⟩
 have k:c0m H (.agg #[.bool a.2.1,u]) a.2:=⟨u,rfl,hu⟩
 refine a0i M1b hf (h:=?_)
 intro ρ z
 simp [G1G,T0r,z]
 generalize M:H.push _=G
 have c:Ext H G:=by rw [<- M];simp
 have q:a0c.bk G H.size=.row false a0d [.bool a.1.1,s,.bool a.2.1,u]:=by rw [<- M];simp
 have j:=Ext.refl H
 clear M
 replace j:=j.trans c;replace k0:=k0.mo c;replace w:=w.mo c;replace k:=k.mo c
 simp [T0s,z,q]
 refine (g0I k0 j.1).mo ?_
 rintro _ F ⟨rfl,c⟩
 replace q:=c.bk q;replace j:=j.trans c;replace w:=w.mo c;replace k:=k.mo c
 unfold n0H
 cases hz:e0p a
 case true=>simp [T0t]
 simp [T0u,z,q]
 refine (c0A w j.1 (by omega)).mo ?_
 rintro _ F ⟨rfl,c⟩
 replace q:=c.bk q;replace j:=j.trans c;replace w:=w.mo c;replace k:=k.mo c
 cases h1:d0k a.1
 case false=>simp
 simp [z,q]
 refine (c0A k j.1 (by omega)).mo ?_
 rintro _ F ⟨rfl,c⟩
 replace q:=c.bk q;replace j:=j.trans c;replace w:=w.mo c;replace k:=k.mo c
 cases h2:d0k a.2
 case false=>simp
 cases h3:a.2.1
 case true=>simp [z,q,h3]
 simp [z,q,h3]
 rw [<- h3]
 refine (k0l k j.1 J).mo ?_
 rintro _ F ⟨rfl,c⟩
 replace q:=c.bk q;replace j:=j.trans c;replace w:=w.mo c;replace k:=k.mo c
 by_cases I:a0B a.2=0
 ·simp [I] <;> exact fun _=>h3
 have L:(a0B a.2 == 0)=false:=by simp [I]
 simp [z,q,I,L,h3]
 rw [<- h3]
 refine (r0w w k j.1 O J).mo ?_
 rintro x F ⟨Q,c⟩
 replace j:=j.trans c;replace k:=k.mo c
 try simp [z]
 refine (i0o j.1).mo ?_
 rintro y F ⟨k4,c⟩
 replace j:=j.trans c;replace k:=k.mo c;replace Q:=Q.mo c
 try simp [z]
 have N:(a0J ((Int.gcd (a0B a.1) (a0B a.2):Nat):Int)).2.length < 536870912:=by
  rw [b0r]
  show (a0l _).length < _
  have Y:Int.gcd (a0B a.1) (a0B a.2)<=(a0B a.2).natAbs:=Int.gcd_le_natAbs_right _ I
  have:=b0S Y
  have:=a0L k.ok
  omega
 refine (f0x Q k4 j.1 N (by rw [b0F,S0C];decide)).mo ?_
 rintro _ F ⟨rfl,c⟩
 rw [b0m,b0m]
 simp
 intro _
 generalize Int.gcd (a0B a.1) (a0B a.2)=g
 have Z:(i0Y (g:Int) 1 == 0)=(g == 1):=by
  unfold i0Y
  by_cases S:g=1
  ·subst S;rfl
  ·have e:(g == 1)=false:=by simp [S]
   rw [e];split
   ·rfl
   ·rename_i h7;split
    ·rfl
    ·omega
 simp [h3,I,Z]
theorem j0j (h:j0o H v a) (hf:fl<=H.size) (U:n0F a < 536870912):b0k env fl j0Q [v] H (fun r H'=>j0o H' r (i0X (l0E a))/\Ext H H') R:=by
 have k0:=h
 have Y:a.1.2.length < 536870912:=by unfold n0F at U;omega
 have Z:a.2.2.length < 536870912:=by unfold n0F at U;omega
 obtain ⟨s,u,rfl,hs,hu⟩:=h
 have I:c0m H (.agg #[.bool a.1.1,s]) a.1:=⟨s,rfl,hs⟩
 have y:c0m H (.agg #[.bool a.2.1,u]) a.2:=⟨u,rfl,hu⟩
 refine a0i I1i hf (h:=?_)
 intro ρ z
 simp [E0Q,B0B,z]
 generalize Q:(H.push _).push _=G
 have c:Ext H G:=by rw [<- Q];simp
 have x:a0c.bk G H.size=.row false a0d [.bool a.1.1,s,.bool a.2.1,u]:=by rw [<- Q];simp
 have k:a0c.bk G (H.size + 1)=.row false a0d [.bool false,.slice none 0 0,.bool false,.slice none 0 0]:=by rw [<- Q];simp
 have q:=Ext.refl H
 clear Q
 replace q:=q.trans c;replace k0:=k0.mo c;replace I:=I.mo c;replace y:=y.mo c
 simp [B0C,z,x]
 refine (g0I k0 q.1).mo ?_
 rintro _ L ⟨rfl,c⟩
 replace x:=c.bk x;replace k:=c.bk k;replace q:=q.trans c;replace k0:=k0.mo c;replace I:=I.mo c;replace y:=y.mo c
 cases hz0:e0p a
 case true =>
  have F:l0E a=0:=by unfold l0E;rw [hz0];rfl
  simp [t0I,z]
  refine (i0o q.1).mo ?_
  rintro _ L ⟨⟨O,rfl,w⟩,c⟩
  replace x:=c.bk x;replace k:=c.bk k;replace q:=q.trans c;replace k0:=k0.mo c;replace I:=I.mo c;replace y:=y.mo c
  have N:=a0r k
  simp [z,k,w.cells,w.plain,N]
  refine fun _=>?_
  rw [F,m0f]
  exact ⟨_,O,rfl,Lim.nil,w.setT k (by decide)⟩
 simp [z,x]
 refine (f0C k0 q.1 U).mo ?_
 rintro _ L ⟨rfl,c⟩
 replace x:=c.bk x;replace k:=c.bk k;replace q:=q.trans c;replace I:=I.mo c;replace y:=y.mo c
 cases hm:n0H a
 case false =>
  have F:l0E a=0:=by unfold l0E;rw [hz0,hm];rfl
  simp [t0I,z]
  refine (i0o q.1).mo ?_
  rintro _ L ⟨⟨O,rfl,w⟩,c⟩
  replace x:=c.bk x;replace k:=c.bk k;replace q:=q.trans c;replace I:=I.mo c;replace y:=y.mo c
  have N:=a0r k
  simp [z,k,w.cells,w.plain,N]
  refine fun _=>?_
  rw [F,m0f]
  exact ⟨_,O,rfl,Lim.nil,w.setT k (by decide)⟩
 rw [k0P hz0 hm]
 simp [z]
 refine c0t ?_
 simp [B0D,z,x]
 have M:a0B (false,[])=0:=by unfold a0B d0k;simp [a0q]
 refine (l0f I (j:=(false,[])) ⟨_,rfl,Lim.nil⟩ (by have:=q.1;omega) Y (by simp)).mo ?_
 rintro _ L ⟨⟨O,rfl,J⟩,c⟩
 replace x:=c.bk x;replace k:=c.bk k;replace q:=q.trans c;replace y:=y.mo c
 rw [M,Int.add_zero] at J ⊢
 try simp [z,x]
 refine (l0f y (j:=(false,[])) ⟨_,rfl,Lim.nil⟩ q.1 Z (by simp)).mo ?_
 rintro _ L ⟨⟨s2,rfl,S⟩,c⟩
 replace k:=c.bk k;replace q:=q.trans c;replace J:=J.mo c
 rw [M,Int.add_zero] at S ⊢
 have N:=a0r k
 simp [z,k,J.cells,J.plain,S.cells,S.plain,N]
 exact fun _=>⟨O,s2,rfl,J.setT k (by decide),S.setT k (by decide)⟩
end
section
def szR (x:Rat):Nat:=max (lz x.num) (lz x.den)
theorem x0h (x:Rat):n0F (i0X x)=szR x:=rfl
theorem q0r:szR 0=1:=by show max (lz 0) (lz 1)=1;rw [X0i,S0C];rfl
theorem u0I {a:d0d} (k:b0g a.1.2) (q:b0g a.2.2):szR (l0E a)<=max (n0F a) 1:=by
 by_cases c:e0p a=true
 ·have:l0E a=0:=by unfold l0E;rw [c];rfl
  rw [this,q0r];omega
 ·by_cases j:n0H a=true
  ·have r:=k0P (by simpa using c) j
   have h:=x0h (l0E a)
   rw [r] at h
   rw [<- h]
   have:=z0v k
   have:=z0v q
   unfold n0F;simp only [b0F];omega
  ·have:l0E a=0:=by unfold l0E;simp [c,j]
   rw [this,q0r];omega
def H1L (x y:Rat):Int:=if x < y then -1 else if y < x then 1 else 0
theorem y0p (x y:Rat):i0Y (x.num * y.den) (y.num * x.den)=H1L x y:=by
 unfold i0Y H1L
 simp only [Rat.lt_iff,gt_iff_lt]
end
section
variable {fl:Nat} {H:a0c} {R:a0P} {v w:Value} {i j:Bool × List Nat} {a b:d0d}
theorem c0m.cells {i:Bool × List Nat} (h:c0m H v i):(a0t v).length=2/\(a0t v).all a0n=true:=by
 obtain ⟨s,rfl,hs⟩:=h;simp [hs.plain]
end
section
variable {fl:Nat} {H G:a0c} {R:a0P} {v w:Value} {i j:Bool × List Nat} {a b:d0d}
theorem j0o.p (h:j0o H v a):∃ s u,v=.agg #[.bool a.1.1,s,.bool a.2.1,u]/\Lim H s a.1.2/\Lim H u a.2.2/\c0m H (.agg #[.bool a.1.1,s]) a.1/\c0m H (.agg #[.bool a.2.1,u]) a.2:=by
 obtain ⟨s,u,k,c,j⟩:=h;exact ⟨s,u,k,c,j,⟨s,rfl,c⟩,⟨u,rfl,j⟩⟩
theorem j0o.ok (h:j0o H v a):b0g a.1.2/\b0g a.2.2:=by obtain ⟨s,u,_,c,j⟩:=h;exact ⟨c.ok,j.ok⟩
theorem F0k (x:Rat):lz x.num<=szR x:=by unfold szR;omega
theorem F0j (x:Rat):lz x.den<=szR x:=by unfold szR;omega
theorem r0W (h:j0o H v a) (k:j0o H w b) (hf:fl<=H.size) (hn:n0F a < 67108864) (hm:n0F b < 67108864) :
  b0k env fl s0M [v,w] H (fun r H'=>r=.int .i64 (H1L (l0E a) (l0E b))/\Ext H H') R:=by
 have k0:=h
 have J:=k
 obtain ⟨s,u,rfl,hs,hu⟩:=h
 obtain ⟨s',u',rfl,Y,Z⟩:=k
 refine a0i H1S hf (h:=?_)
 intro ρ O
 simp [R0r,A0p,O]
 generalize U:(H.push _).push _=G
 have q:Ext H G:=by rw [<- U];exact (Ext.refl H).push.push
 have z:a0c.bk G H.size=.row false a0d [.bool a.1.1,s,.bool a.2.1,u]:=by rw [<- U];simp
 have j:a0c.bk G (H.size + 1)=.row false a0d [.bool b.1.1,s',.bool b.2.1,u']:=by rw [<- U];simp
 clear U
 replace k0:=k0.mo q
 replace J:=J.mo q
 have sa:=u0I k0.ok.1 k0.ok.2
 have sb:=u0I J.ok.1 J.ok.2
 refine c0t ?_
 simp [A0q,O,z,j]
 refine (j0j k0 (by have:=q.1;omega) (by omega)).mo ?_
 rintro _ S ⟨⟨s1,s2,rfl,I,M⟩,c⟩
 replace z:=c.bk z;replace j:=c.bk j;replace q:=q.trans c;replace k0:=k0.mo c;replace J:=J.mo c
 simp [O,j]
 refine (j0j J q.1 (by omega)).mo ?_
 rintro _ S ⟨⟨s3,s4,rfl,N,L⟩,c⟩
 replace z:=c.bk z;replace j:=c.bk j;replace q:=q.trans c;replace k0:=k0.mo c;replace J:=J.mo c;replace I:=I.mo c;replace M:=M.mo c
 clear k0 J
 have Q:=a0r z
 simp [O,z,I.cells,I.plain,M.cells,M.plain,Q]
 generalize F:Array.setIfInBounds _ _ _=G3
 have hsz:=q.1;replace I:=I.setS F z (by decide);replace M:=M.setS F z (by decide);replace N:=N.setS F z (by decide);replace L:=L.setS F z (by decide);replace j:=w0s F j (by omega);replace q:=q0l F q (by omega);replace z:=k0L F z;clear F hsz
 have Q:=a0r j
 simp [j,N.cells,N.plain,L.cells,L.plain,Q]
 generalize F:Array.setIfInBounds _ _ _=G3
 have hsz:=q.1;replace I:=I.setS F j (by decide);replace M:=M.setS F j (by decide);replace N:=N.setS F j (by decide);replace L:=L.setS F j (by decide);replace z:=w0s F z (by omega);replace q:=q0l F q (by omega);replace j:=k0L F j;clear F hsz
 obtain ⟨x,a0⟩:∃ x,x=l0E a:=⟨_,rfl⟩
 obtain ⟨y,a1⟩:∃ y,y=l0E b:=⟨_,rfl⟩
 rw [<- a0] at sa I M z ⊢
 rw [<- a1] at sb N L j ⊢
 have k0:c0m _ (.agg #[.bool (i0X x).1.1,s1]) (a0J x.num):=⟨s1,rfl,I⟩
 have J:c0m _ (.agg #[.bool (i0X x).2.1,s2]) (a0J x.den):=⟨s2,rfl,M⟩
 have k6:c0m _ (.agg #[.bool (i0X y).1.1,s3]) (a0J y.num):=⟨s3,rfl,N⟩
 have k7:c0m _ (.agg #[.bool (i0X y).2.1,s4]) (a0J y.den):=⟨s4,rfl,L⟩
 have l1:=F0k x
 have l2:=F0j x
 have l3:=F0k y
 have l4:=F0j y
 clear hs hu Y Z I M N L
 refine c0t ?_
 simp [A0r,O,z,j]
 refine (l0g k0 k7 (by have:=q.1;omega) (by rw [b0F];omega) (by rw [b0F];omega)).mo ?_
 rintro _ S ⟨I,c⟩
 replace z:=c.bk z;replace j:=c.bk j;replace q:=q.trans c;replace J:=J.mo c;replace k6:=k6.mo c
 rw [b0m,b0m] at I
 simp [O,z,j]
 refine (l0g k6 J q.1 (by rw [b0F];omega) (by rw [b0F];omega)).mo ?_
 rintro _ S ⟨L,c⟩
 replace q:=q.trans c;replace I:=I.mo c
 rw [b0m,b0m] at L
 simp [O]
 have m3:=S0B x.num y.den
 have m4:=S0B y.num x.den
 refine (f0x I L q.1 (by rw [b0F];omega) (by rw [b0F];omega)).mo ?_
 rintro _ S ⟨rfl,c⟩
 rw [b0m,b0m,y0p]
 simp
end
section
variable {fl:Nat} {H G:a0c} {R:a0P} {v w:Value} {a b:d0d}
abbrev o0N:=Int × d0d
def q0v (H:a0c) (v:Value) (e:o0N):Prop:=∃ s u,v=.agg #[.int .i64 e.1,.bool e.2.1.1,s,.bool e.2.2.1,u]/\Lim H s e.2.1.2/\Lim H u e.2.2.2
variable {e f:o0N}
theorem q0v.mo (h:q0v H v e) (c:Ext H G):q0v G v e:=by obtain ⟨s,u,j,k,q⟩:=h;exact ⟨s,u,j,k.mo c,q.mo c⟩
theorem q0v.setT (h:q0v H v e) {p:Nat} {ro:Bool} {k:TypeId} {j:List Value} {r:Blk} (hb:H.bk p=.row ro k j) (c:k ≠ a0b):q0v (H.setIfInBounds p r) v e:=by
 obtain ⟨s,u,q,w,x⟩:=h;exact ⟨s,u,q,w.setT hb c,x.setT hb c⟩
theorem q0v.setS {G3:a0c} {q:Nat} {X:Blk} {ro:Bool} {h:TypeId} {cs:List Value} (k:q0v H v e) (j:Array.setIfInBounds H q X=G3) (hb:a0c.bk H q=.row ro h cs) (c:h ≠ a0b):q0v G3 v e:=by rw [<- j];exact k.setT hb c
theorem q0v.ok (h:q0v H v e):b0g e.2.1.2/\b0g e.2.2.2:=by obtain ⟨s,u,_,c,j⟩:=h;exact ⟨c.ok,j.ok⟩
def J1N (e:o0N):Bool:=if e.1 = -1 ∨ e.1=1 then e0p e.2 else if e.1=0 then n0H e.2 else false
def G1y:d0d:=((false,[]),(false,[]))
theorem x0M:e0p G1y=true:=rfl
theorem F0s:l0E G1y=0:=by unfold l0E;rw [x0M];rfl
theorem g0a (h:j0o H v a) (w:fl<=H.size):b0k env fl w0R [v] H (fun r H'=>r=.bool (e0p a)/\Ext H H') R:=by
 obtain ⟨s,u,rfl,hs,x⟩:=h
 refine a0i I1h w (h:=?_)
 intro ρ k
 simp [R0z,B0A,k]
 have c:=hs.slen
 have j:=x.slen
 cases h1:a.1.1
 ·by_cases q:a.1.2=[]
  ·cases h3:a.2.1
   ·simp [m0S,k,h1,q,h3,c,j,e0p]
   ·simp [m0S,k,h1,q,h3,c,j,e0p]
  ·simp [m0S,k,h1,q,c,j,e0p]
 ·simp [m0S,k,h1,c,j,e0p]
theorem q0S (h:q0v H v e) (I:fl<=H.size) (L:n0F e.2 < 67108864):b0k env fl s0L [v] H (fun r H'=>r=.bool (J1N e)/\Ext H H') R:=by
 obtain ⟨s,u,rfl,hs,J⟩:=h
 have k0:j0o H (.agg #[.bool e.2.1.1,s,.bool e.2.2.1,u]) e.2:=⟨s,u,rfl,hs,J⟩
 refine a0i H1R I (h:=?_)
 intro ρ j
 simp [R0q,A0k,A0l,A0m,j]
 generalize F:H.push _=G
 obtain ⟨c,q⟩:=t0i F
 have k:=Ext.refl H
 clear F
 replace k:=k.trans c;replace k0:=k0.mo c
 unfold J1N
 by_cases x:e.1 = -1
 ·simp [x,t0y,j,q]
  refine (g0a k0 k.1).mo ?_
  rintro _ w ⟨rfl,c⟩
  simp
 ·by_cases y:e.1=1
  ·simp [y,p0G,t0y,j,q]
   refine (g0a k0 k.1).mo ?_
   rintro _ w ⟨rfl,c⟩
   simp
  ·by_cases z:e.1=0
   ·simp [z,p0G,t0z,A0n,j,q]
    refine (f0C k0 k.1 (by omega)).mo ?_
    rintro _ w ⟨rfl,c⟩
    simp
   ·simp [x,y,z,p0G,t0z,A0o,j,q]
end
section
def x0U (b2 b:Nat) (A:a0U->a0c->Prop) (Z:a0U->a0c->Prop) (Q:d0K):d0K
 | .normal,t,H=>A t H
 | .exit j,t,H=>if j=b2 then A t H else if j=b then Z t H else Q (.exit j) t H
 | .ret,t,H=>Q .ret t H
section
variable {b2 b:Nat} {A Z:a0U->a0c->Prop} {Q:d0K} {t:a0U} {H:a0c}
@[simp] theorem X0d:x0U b2 b A Z Q .normal t H=A t H:=nr rfl
@[simp] theorem v1P {j:Nat}:x0U b2 b A Z Q (.exit j) t H=if j=b2 then A t H else if j=b then Z t H else Q (.exit j) t H:=nr rfl
@[simp] theorem G1l:x0U b2 b A Z Q .ret t H=Q .ret t H:=nr rfl
end
def Rnd (nt ti tn n i:Nat) (Inv:Nat->(Nat->Value)->a0c->Prop) (t:a0U) (H:a0c):Prop :=
 ∃ ρ,t=T nt ρ/\ρ ti=.int .i64 (i:Int)/\ρ tn=.int .i64 (n:Int)/\Inv (i + 1) ρ H
theorem Rnd.mk {nt c h n i:Nat} {Inv:Nat->(Nat->Value)->a0c->Prop} {ρ:Nat->Value} {H:a0c} (j:ρ c=.int .i64 (i:Int)) (k:ρ h=.int .i64 (n:Int)) (q:Inv (i + 1) ρ H):Rnd nt c h n i Inv (T nt ρ) H:=⟨ρ,rfl,j,k,q⟩
theorem s0x {E:Env} {fl nt c q tc y b b2 n:Nat} {body:SCode} {Z:a0U->a0c->Prop} {Q:d0K} {R:a0P} {ρ:Nat->Value} {H:a0c} {rc rx:List a0v} (Inv:Nat->(Nat->Value)->a0c->Prop)
  (M:rc=[⟨some tc,none,.bin 0 .lss (.tmp c) (.tmp q)⟩]) (N:rx=[⟨some y,none,.bin 0 .add (.tmp c) (.const (.int .i64 1))⟩,⟨some c,none,.mv (.tmp y)⟩])
  (hl:c < nt/\q < nt/\tc < nt/\y < nt/\tc ≠ c/\tc ≠ q/\y ≠ c/\y ≠ q/\c ≠ q) (hn:n < 4611686018427387904)
  (O:ρ c=.int .i64 0) (U:ρ q=.int .i64 (n:Int)) (F:Inv 0 ρ H)
  (x:∀ i (ρ u:Nat->Value) H,(∀ k,k ≠ tc->k ≠ y->k ≠ c->u k=ρ k)->Inv i ρ H->Inv i u H)
  (step:∀ i ρ H,i < n->ρ c=.int .i64 (i:Int)->ρ q=.int .i64 (n:Int)->Inv i ρ H->W E fl body (T nt ρ) H (x0U b2 b (Rnd nt c q n i Inv) Z Q) R)
  (rest:∀ ρ H,ρ c=.int .i64 (n:Int)->ρ q=.int .i64 (n:Int)->Inv n ρ H->Z (T nt ρ) H) :
  W E fl (.loop (.seq (.reg rc) (.seq (.cond (.tmp tc) .skip (.exit b)) (.seq (.block b2 body) (.reg rx))))) (T nt ρ) H (f0t b (i0T Z Q)) R:=by
 subst M N
 obtain ⟨l1,l2,l3,l4,n1,n2,n3,n4,n5⟩:=hl
 refine b0X (fun k t G=>∃ i ρ,i + k=n/\t=T nt ρ/\ρ c=.int .i64 (i:Int)/\ρ q=.int .i64 (n:Int)/\Inv i ρ G) Z n ?_ ?_ (fun _ _ h=>h)
 ·exact ⟨0,ρ,by omega,rfl,O,U,F⟩
 ·clear O U F ρ H
  rintro k t G ⟨i,ρ,a0,rfl,I,J,F⟩
  have e9:IntKind.i64.wrap ((i:Int) + 1)=((i + 1:Nat):Int):=by rw [b0d (by omega) (by omega)];omega
  have r:∀ v,Inv i (upd ρ tc v) G:=fun v=>x i ρ _ G (fun k S _ _=>k0p (Ne.symm S)) F
  refine i0G (m0d ?_)
  simp only [s0w,y0e,l0b,b0H l1,b0H l2,I,J,F0W,z0E,y0d,d0Z,X0s]
  by_cases hi:i < n
  ·have hs:=step i (upd ρ tc (.bool true)) G hi (by rw [k0p n1];exact I) (by rw [k0p n2];exact J) (r _)
   have L:decide ((i:Int) < (n:Int))=true:=by rw [N1s];omega
   rw [L]
   refine i0G (m0c true (by rw [l0b,b0H l3,l0S]) (fun _=>u0W ?_) (by simp))
   refine i0G (o0P ?_)
   have w:∀ t' H',Rnd nt c q n i Inv t' H'->WR E fl [⟨some y,none,.bin 0 .add (.tmp c) (.const (.int .i64 1))⟩,⟨some c,none,.mv (.tmp y)⟩] t' H' (fun t' H'=>∃ k',k' < k/\∃ i ρ,i + k' = n/\t' = T nt ρ/\ρ c=.int .i64 (i:Int)/\ρ q=.int .i64 (n:Int)/\Inv i ρ H') R:=by
    rintro t' H' ⟨u,rfl,q1,q2,q3⟩
    simp only [s0w,y0e,u1Q,l0b,G0m,b0H l1,q1,F0U,e9,z0E,y0d,X0s,b0H l4,l0S]
    refine ⟨k - 1,by omega,i + 1,_,by omega,rfl,l0S,?_,?_⟩
    ·rw [k0p n5,k0p n4];exact q2
    ·exact x (i + 1) u _ H' (fun k S h2 h3=>by rw [k0p (Ne.symm h3),k0p (Ne.symm h2)]) q3
   refine hs.mo fun e t' H' s=>?_
   cases e with
   | normal=>exact m0d (w _ _ s)
   | exit j =>
    simp only [x0U] at s
    show (if j=b2 then _ else _)
    by_cases Y:j=b2
    ·rw [M1Z Y] at s ⊢;exact m0d (w _ _ s)
    ·rw [M1V Y] at s ⊢
     show (if j=b then _ else _)
     by_cases z:j=b
     ·rw [M1Z z] at s ⊢;exact s
     ·rw [M1V z] at s ⊢;exact s
   | ret=>exact s
  ·have:i=n:=by omega
   subst this
   have L:decide ((i:Int) < (i:Int))=false:=by simp
   rw [L]
   refine i0G (m0c false (by rw [l0b,b0H l3,l0S]) (by simp) (fun _=>u0V ?_))
   show (if b=b then _ else _)
   rw [M1Z rfl]
   exact rest _ _ (by rw [k0p n1];exact I) (by rw [k0p n2];exact J) (r _)
theorem k0N {Q:d0K}:i0T (fun t H=>Q .normal t H) Q=Q:=by
 funext e t H;cases e <;> rfl
theorem u1R {E:Env} {fl nt c h tc j b b2 n:Nat} {body:SCode} {Q:d0K} {R:a0P} {ρ:Nat->Value} {H:a0c} {rc rx:List a0v} (Inv:Nat->(Nat->Value)->a0c->Prop)
  (s:rc=[⟨some tc,none,.bin 0 .lss (.tmp c) (.tmp h)⟩]) (u:rx=[⟨some j,none,.bin 0 .add (.tmp c) (.const (.int .i64 1))⟩,⟨some c,none,.mv (.tmp j)⟩])
  (z:c < nt/\h < nt/\tc < nt/\j < nt/\tc ≠ c/\tc ≠ h/\j ≠ c/\j ≠ h/\c ≠ h) (F:n < 4611686018427387904)
  (w:ρ c=.int .i64 0) (y:ρ h=.int .i64 (n:Int)) (x:Inv 0 ρ H)
  (q:∀ i (ρ r:Nat->Value) H,(∀ k,k ≠ tc->k ≠ j->k ≠ c->r k=ρ k)->Inv i ρ H->Inv i r H)
  (step:∀ i ρ H,i < n->ρ c=.int .i64 (i:Int)->ρ h=.int .i64 (n:Int)->Inv i ρ H->W E fl body (T nt ρ) H (x0U b2 b (Rnd nt c h n i Inv) (fun t H=>Q .normal t H) Q) R)
  (rest:∀ ρ H,ρ c=.int .i64 (n:Int)->ρ h=.int .i64 (n:Int)->Inv n ρ H->Q .normal (T nt ρ) H) :
  W E fl (.loop (.seq (.reg rc) (.seq (.cond (.tmp tc) .skip (.exit b)) (.seq (.block b2 body) (.reg rx))))) (T nt ρ) H (f0t b Q) R:=by
 rw [<- k0N (Q:=Q)]
 exact s0x (Z:=fun t H=>Q .normal t H) (Q:=Q) Inv s u z F w y x q step rest
def Sls {α:Type} (P:a0c->List Value->α->Prop) (H:a0c) (e sz:Nat) (v:Value) (l:List α):Prop :=
 ∃ cs,Sl H e sz v l.length cs/\∀ k (h:k < l.length),P H ((cs.drop (k * sz)).take sz) l[k]
def q0A {α:Type} (P:a0c->List Value->α->Prop):Prop:=∀ H G cs x,Ext H G->P H cs x->P G cs x
section
variable {α:Type} {P:a0c->List Value->α->Prop} {H G:a0c} {e sz:Nat} {v:Value} {l:List α}
theorem Sls.mo (hP:q0A P) (h:Sls P H e sz v l) (c:Ext H G):Sls P G e sz v l:=by
 obtain ⟨cs,j,q⟩:=h;exact ⟨cs,j.mo c,fun k r=>hP _ _ _ _ c (q k r)⟩
theorem Sls.slen (h:Sls P H e sz v l):i0q v=some (.int .i64 l.length):=by obtain ⟨cs,c,_⟩:=h;exact c.slen
theorem Sls.ia (h:Sls P H e sz v l) {k:IntKind} {j:Nat} (q:j < l.length):iaV sz v (.int k j)=some (adr sz v j):=by obtain ⟨cs,c,_⟩:=h;exact c.ia q
theorem Sls.load (h:Sls P H e sz v l) {j:Nat} (c:j < l.length) (hs:0 < sz):∃ cs,b0w H true sz (adr sz v j)=some (.agg cs.toArray)/\cs.length=sz/\P H cs l[j]:=by
 obtain ⟨cs,k,q⟩:=h
 refine ⟨_,k.load (Ext.refl H) c hs,?_,q j c⟩
 have:=k.1
 have:(j + 1) * sz<=l.length * sz:=N1e _ c
 rw [N1t,O1e] at this
 simp;omega
theorem Sls.load1 (h:Sls P H e 1 v l) {j:Nat} (r:j < l.length):∃ w,b0w H false 1 (adr 1 v j)=some w/\P H [w] l[j]:=by
 obtain ⟨cs,k,u⟩:=h
 refine ⟨_,k.load1 (Ext.refl H) r,?_⟩
 have q:=u j r
 have x:=k.1
 have:(cs.drop (j * 1)).take 1=[cs.getD j undef]:=by
  have c:j < cs.length:=by omega
  have s:cs.getD j undef=cs[j]:=by simp [M1R,c]
  rw [N1W,N1P c,s];rfl
 rw [this] at q;exact q
theorem Sls.cells (h:Sls P H e sz v l):a0t v=[v]:=by obtain ⟨cs,c,_⟩:=h;exact c.cells
theorem Sls.plain (h:Sls P H e sz v l):a0n v=true:=by obtain ⟨cs,c,_⟩:=h;exact c.plain
theorem Sls.nil:Sls P H e sz (.slice none 0 0) ([]:List α):=⟨[],Sl.nil,fun k c=>by simp at c⟩
end
def k0t {α:Type} (P:a0c->List Value->α->Prop) (fl:Nat) (H:a0c) (e sz:Nat) (v:Value) (l:List α):Prop :=
 ∃ cs,Own fl H e sz v l.length cs/\∀ k (h:k < l.length),P H ((cs.drop (k * sz)).take sz) l[k]
section
variable {α:Type} {P:a0c->List Value->α->Prop} {H G:a0c} {fl e sz:Nat} {v:Value} {l:List α}
theorem k0t.sls (h:k0t P fl H e sz v l):Sls P H e sz v l:=by obtain ⟨cs,c,j⟩:=h;exact ⟨cs,c.sl,j⟩
theorem k0t.mo (hP:q0A P) (h:k0t P fl H e sz v l) (c:Ext H G):k0t P fl G e sz v l:=by
 obtain ⟨cs,j,q⟩:=h;exact ⟨cs,j.mo c,fun k r=>hP _ _ _ _ c (q k r)⟩
theorem k0t.nil:k0t P fl H e sz (.slice none 0 0) ([]:List α):=⟨[],Own.nil,fun k c=>by simp at c⟩
theorem k0t.slen (h:k0t P fl H e sz v l):i0q v=some (.int .i64 l.length):=h.sls.slen
def Lx (H G:a0c):Prop:=∀ b ro cs,H.bk b=.row ro a0b cs->G.bk b=.row ro a0b cs
theorem k0t.lx (h:k0t P fl G e sz v l) (q:e ≠ a0b) {c:a0c} (j:j0m (slB v) G c):Lx G c:=by
 intro b ro cs hb
 obtain ⟨k,⟨r,⟨rfl,_⟩ | ⟨p,cap,rfl,hp,_⟩⟩,_⟩:=h
 ·rw [j.2 b (a0r hb) (by simp [slB])];exact hb
 ·rw [j.2 b (a0r hb) (by simp [slB];rintro rfl;rw [hp] at hb;cases hb;exact q rfl)];exact hb
theorem k0t.app (H:e ≠ a0b) (F:∀ j cs x,j0m (slB v) G j->Lx G j->P G cs x->P j cs x) (h:k0t P fl G e sz v l) {e2 c bytes:Nat} {new:List Value} {x:α} (S:P G new x) (I:new.length=sz) (hp:new.all a0n=true) (R:l.length < 1073741824) (hb:bytes<=1024) (hs:0 < sz) (y:fl<=G.size) :
  ∃ v' j,n0w fl (G.push (.row false e2 new)) e sz bytes v (.slice (some ⟨G.size,0,none⟩) 1 c)=some (v',j)/\k0t P fl j e sz v' (l ++ [x])/\j0m (slB v) G j/\(∀ u,u.size<=fl->Ext u G->Ext u j):=by
 obtain ⟨cs,s,w⟩:=h
 obtain ⟨v',j,J,L,r,M⟩:=e0c (e2:=e2) (c:=c) s I hp R hb hs y (bytes:=bytes)
 refine ⟨v',j,J,⟨cs ++ new,by simpa using L,fun k Q=>?_⟩,r,M⟩
 have O:=s.1
 by_cases q:k < l.length
 ·have N:(k + 1) * sz<=l.length * sz:=N1e _ q
  rw [N1t,O1e] at N
  rw [List.getElem_append_left q,O1L (by omega),List.take_append_of_le_length (by simp;omega)]
  exact F _ _ _ r (k0t.lx ⟨cs,s,w⟩ H r) (w k q)
 ·have z:k=l.length:=by simp at Q;omega
  subst z
  rw [List.getElem_append_right (M1U _),O1L (by omega),O1N (by omega),O1R,<- I,N1f]
  simpa using F _ _ _ r (k0t.lx ⟨cs,s,w⟩ H r) S
end
theorem Lim.lx {H G:a0c} {v:Value} {l:List Nat} (h:Lim H v l) (r:Lx H G):Lim G v l:=by
 obtain ⟨⟨k,q | ⟨b,off,cap,ro,cells,rfl,hb,ho,c⟩⟩,j⟩:=h
 ·exact ⟨⟨k,.inl q⟩,j⟩
 ·exact ⟨⟨k,.inr ⟨b,off,cap,ro,cells,rfl,r _ _ _ hb,ho,c⟩⟩,j⟩
theorem j0o.lx {H G:a0c} {v:Value} {a:d0d} (h:j0o H v a) (c:Lx H G):j0o G v a:=by obtain ⟨s,u,j,k,q⟩:=h;exact ⟨s,u,j,k.lx c,q.lx c⟩
theorem q0v.lx {H G:a0c} {v:Value} {e:o0N} (h:q0v H v e) (c:Lx H G):q0v G v e:=by obtain ⟨s,u,j,k,q⟩:=h;exact ⟨s,u,j,k.lx c,q.lx c⟩
end
section
variable {fl:Nat} {H G:a0c} {R:a0P} {v w:Value}
def PR (H:a0c) (cs:List Value) (a:d0d):Prop:=j0o H (.agg cs.toArray) a
def PE (H:a0c) (cs:List Value) (e:o0N):Prop:=q0v H (.agg cs.toArray) e
theorem l0e:q0A PR:=fun _ _ _ _ c h=>j0o.mo h c
abbrev f0H (H:a0c) (v:Value) (l:List d0d):Prop:=Sls PR H a0d 4 v l
abbrev F0F (H:a0c) (v:Value) (l:List o0N):Prop:=Sls PE H a0m 5 v l
def PS (H:a0c) (cs:List Value) (l:List d0d):Prop:=∃ v,cs=[v]/\f0H H v l
theorem j0V:q0A PS:=fun _ _ _ _ j ⟨v,c,h⟩=>⟨v,c,h.mo l0e j⟩
abbrev k0u (H:a0c) (v:Value) (l:List (List d0d)):Prop:=Sls PS H b0E 1 v l
theorem f0H.load {l:List d0d} (h:f0H H v l) {j:Nat} (q:j < l.length):∃ w,b0w H true 4 (adr 4 v j)=some w/\j0o H w l[j]:=by
 obtain ⟨cs,c,_,k⟩:=Sls.load h q (by omega);exact ⟨_,c,k⟩
theorem F0F.load {l:List o0N} (h:F0F H v l) {j:Nat} (q:j < l.length):∃ w,b0w H true 5 (adr 5 v j)=some w/\q0v H w l[j]:=by
 obtain ⟨cs,c,_,k⟩:=Sls.load h q (by omega);exact ⟨_,c,k⟩
theorem k0u.load {l:List (List d0d)} (h:k0u H v l) {j:Nat} (r:j < l.length):∃ w,b0w H false 1 (adr 1 v j)=some w/\f0H H w l[j]:=by
 obtain ⟨w,k,w',c,q⟩:=Sls.load1 h r
 simp at c;subst c;exact ⟨_,k,q⟩
def Few (S:Nat) (l:List d0d):Prop:=∀ x ∈ l,n0F x<=S/\b0g x.1.2/\b0g x.2.2
theorem Few.sz {S:Nat} {l:List d0d} (h:Few S l) (n:Nat):szR (l0E (l.getD n G1y))<=S + 1:=by
 rw [M1R]
 by_cases c:n < l.length
 ·rw [M1X c]
  obtain ⟨q,j,k⟩:=h _ (N1j c)
  have:=u0I j k
  simp;omega
 ·rw [N1d (by omega)]
  show szR (l0E G1y)<=_
  rw [F0s,q0r];omega
end
section
variable {fl:Nat} {H G:a0c} {R:a0P} {v w:Value} {a b:List o0N}
def j0J {α:Type} (p:α->Bool) (l:List α):Bool:=l.any p
def i0H {α:Type} (p:α->Bool) (l:List α):Bool:=l.all p
section
variable {α:Type} {p:α->Bool} {l:List α} {i:Nat}
theorem l0H:j0J p []=false:=rfl
theorem d0H:i0H p []=true:=rfl
theorem j0K (h:i < l.length):j0J p (l.take (i + 1))=(j0J p (l.take i) || p l[i]):=by
 unfold j0J;rw [N1x h,List.any_append];simp
theorem c0K (h:i < l.length):i0H p (l.take (i + 1))=(i0H p (l.take i) && p l[i]):=by
 unfold i0H;rw [N1x h,List.all_append];simp
theorem l0I (h:i < l.length) (hp:p l[i]=true):j0J p l=true:=List.any_eq_true.2 ⟨_,N1j h,hp⟩
theorem f0E (h:i < l.length) (hp:p l[i]=false):i0H p l=false:=by
 unfold i0H;rw [List.all_eq_false];exact ⟨l[i],N1j h,by simp [hp]⟩
end
def k0X (H:a0c) (v:Value) (rows:List (List d0d)):Prop:=∃ s,v=.agg #[s]/\k0u H s rows
def q0k (n:Int) (r:List d0d):Bool:=decide ((r.length:Int)=n) && i0H n0H r
def o0y (rows:List (List d0d)) (n:Int):Bool:=decide (0<=n) && decide (n<=6) && decide (rows.length<=40) && i0H (q0k n) rows
theorem l0D {S:Nat} {rows:List (List d0d)} {n:Int} (h:k0X H v rows) (hf:fl<=H.size) (hS:S < 67108864) (hr:∀ r ∈ rows,Few S r/\r.length < 1073741824) (a4:rows.length < 1073741824) :
  b0k env fl S0m [v,.int .i64 n] H (fun r H'=>r=.bool (o0y rows n)/\Ext H H') R:=by
 obtain ⟨s,rfl,hs⟩:=h
 refine a0i M1g hf (h:=?_)
 intro ρ N
 simp [E1W,T0O,N,hs.cells]
 generalize hG:H.push _=G
 obtain ⟨q,b0⟩:=t0i hG
 have k:=Ext.refl H
 clear hG
 replace k:=k.trans q
 unfold o0y
 by_cases h1:n < 0
 ·have z:¬ 0<=n:=by omega
  simp [r0U,w0m,N,h1,z]
 ·have z:0<=n:=by omega
  by_cases h2:6 < n
  ·have L:¬ n<=6:=by omega
   simp [r0U,w0m,N,h1,z,h2,L]
  ·have L:n<=6:=by omega
   by_cases h3:40 < rows.length
   ·have U:¬ rows.length<=40:=by omega
    have F:(40:Int) < (rows.length:Int):=by omega
    simp [r0U,w0m,N,b0,(hs.mo j0V k).slen,hs.slen,h1,z,h2,L,h3,U,F]
   ·have U:rows.length<=40:=by omega
    have F:¬ (40:Int) < (rows.length:Int):=by omega
    simp [r0U,T0P,N,b0,hs.slen,h1,z,h2,L,h3,U,F]
    refine s0x (n:=rows.length) (fun i ρ G=>ρ 1=.int .i64 n/\ρ 22=s/\Ext H G/\i0H (q0k n) (rows.take i)=true)
     rfl rfl (by decide) (by omega) (by simp) (by simp) ?_ ?_ ?_ ?_
    ·exact ⟨by simp [N],by simp,k,by rw [P1j];exact d0H⟩
    ·intro i ρ a1 G h hI;simpa [h] using hI
    ·clear N ρ k b0 q
     rintro i ρ G hi J Q ⟨I,c,k,hc⟩
     have ks:=hs.mo j0V k
     obtain ⟨w,hl,y⟩:=k0u.load ks hi
     obtain ⟨Y,a2⟩:=hr _ (N1j hi)
     by_cases u:(rows[i].length:Int)=n
     ·simp [E0q,E0r,T0R,I,c,J,ks.ia hi,hl,y.slen,u]
      refine u1R (n:=rows[i].length) (fun j ρ G=>ρ 1=.int .i64 n/\ρ 22=s/\ρ 24=.int .i64 (i:Int)/\ρ 23=.int .i64 (rows.length:Int)/\ρ 32=w/\Ext H G/\f0H G w rows[i]/\i0H n0H (rows[i].take j)=true)
       rfl rfl (by decide) (by omega) (by simp) (by simp [u]) ?_ ?_ ?_ ?_
      ·exact ⟨by simp [I],by simp [c],by simp [J],by simp [Q],by simp,k,y,by rw [P1j];exact d0H⟩
      ·intro i ρ a1 G h hI;simpa [h] using hI
      ·clear I c J Q k y hl ks ρ G
       rintro j ρ G Z gj gm ⟨I,c,J,Q,O,k,y,M⟩
       obtain ⟨x,a0,k0⟩:=f0H.load y Z
       obtain ⟨s1,s2,rfl,k1,k2⟩:=id k0
       have a3:=Y _ (N1j Z)
       have hsz:=k.1
       simp [E0m,I,c,O,gj,y.ia Z,a0,k1.cells,k1.plain,k2.cells,k2.plain,hsz]
       generalize hN:Array.setIfInBounds (Array.push _ _) _ _=G3
       obtain ⟨q,b1⟩:=F0C hN
       clear hN
       replace k:=k.trans q;replace k0:=k0.mo q
       replace y:=y.mo l0e q
       simp [E0n,b1]
       refine (f0C k0 k.1 (by omega)).mo ?_
       rintro _ G2 ⟨rfl,q⟩
       replace k:=k.trans q
       replace y:=y.mo l0e q
       cases hm:n0H rows[i][j]
       ·simp [E0o]
        intros
        exact f0E hi (by unfold q0k;rw [f0E Z hm];simp)
       ·simp
        exact Rnd.mk (by simp [gj]) (by simp [gm]) ⟨by simp [I],by simp [c],by simp [J],by simp [Q],by simp [O],k,y,by rw [c0K Z,M,hm];rfl⟩
      ·rintro ρ G gj gm ⟨I,c,J,Q,O,k,y,M⟩
       rw [N1f] at M
       simp
       exact Rnd.mk J Q ⟨I,c,k,by rw [c0K hi,hc];unfold q0k;simp [u,M]⟩
     ·simp [E0q,E0r,T0Q,I,c,J,ks.ia hi,hl,y.slen,u]
      intro _
      exact f0E hi (by unfold q0k;simp [u])
    ·clear N ρ k b0 q
     rintro ρ G J Q ⟨I,c,k,hc⟩
     rw [N1f] at hc
     simp [E0p,hc]
end
section
variable {fl:Nat} {H G:a0c} {R:a0P} {v w u:Value}
theorem f0H.off {l:List d0d} {o:Option Nat} (h:f0H H v l) (w:j0m o H G) (j:slB v=none ∨ slB v ≠ o) (q:Lx H G):f0H G v l:=by
 obtain ⟨cs,⟨u,hs⟩,hp⟩:=h
 refine ⟨cs,⟨u,?_⟩,fun k s=>j0o.lx (hp k s) q⟩
 rcases hs with hs | ⟨b,off,cap,ro,cells,rfl,hb,ho,c⟩
 ·exact .inl hs
 ·refine .inr ⟨b,off,cap,ro,cells,rfl,?_,ho,c⟩
  rw [w.2 b (a0r hb) (by rcases j with h | h;simp [slB] at h;exact fun r=>h r.symm)];exact hb
theorem f0H.lt {l:List d0d} (h:f0H H v l) {b:Nat} (hb:slB v=some b):b < H.size:=by
 obtain ⟨cs,⟨q,⟨rfl,_⟩ | ⟨k,off,cap,ro,cells,rfl,c,ho,j⟩⟩,hp⟩:=h
 ·simp [slB] at hb
 ·simp [slB] at hb;subst hb;exact a0r c
structure LPt where
 n:Int
 A:List (List d0d)
 B:List d0d
 C:List d0d
theorem k0t.ne {α:Type} {Q:a0c->List Value->α->Prop} {fl e sz c p:Nat} {v:Value} {l:List α} {cs:List Value} {ro:Bool} (h:k0t Q fl G e sz v l) (hb:a0c.bk G p=.row ro c cs) (k:e ≠ c):slB v ≠ some p:=by
 obtain ⟨j,⟨q,⟨rfl,_⟩ | ⟨b,cap,rfl,hp,_⟩⟩,_⟩:=h
 ·simp [slB]
 ·simp [slB];rintro rfl;rw [hp] at hb;cases hb;exact k rfl
theorem k0t.cells {α:Type} {Q:a0c->List Value->α->Prop} {fl e sz:Nat} {v:Value} {l:List α} (h:k0t Q fl G e sz v l):a0t v=[v]/\a0n v=true:=⟨h.sls.cells,h.sls.plain⟩
theorem k0t.low {α:Type} {Q:a0c->List Value->α->Prop} {fl fl' e sz:Nat} {v:Value} {l:List α} (h:k0t Q fl G e sz v l) (u:fl'<=fl):k0t Q fl' G e sz v l:=by
 obtain ⟨c,⟨j,r | ⟨q,cap,rfl,hp,s⟩⟩,k⟩:=h
 ·exact ⟨c,⟨j,.inl r⟩,k⟩
 ·exact ⟨c,⟨j,.inr ⟨q,cap,rfl,hp,by omega⟩⟩,k⟩
theorem k0t.off {α:Type} {Q:a0c->List Value->α->Prop} {fl e sz:Nat} {v:Value} {l:List α} {o:Option Nat} {q:a0c} (h:k0t Q fl G e sz v l) (I:j0m o G q) (s:slB v=none ∨ slB v ≠ o) (y:∀ cs x,Q G cs x->Q q cs x):k0t Q fl q e sz v l:=by
 obtain ⟨c,⟨j,z | ⟨u,cap,rfl,hp,H⟩⟩,w⟩:=h
 ·exact ⟨c,⟨j,.inl z⟩,fun k r=>y _ _ (w k r)⟩
 ·refine ⟨c,⟨j,.inr ⟨u,cap,rfl,?_,H⟩⟩,fun k r=>y _ _ (w k r)⟩
  rw [I.2 u (a0r hp) (by rcases s with h | h;simp [slB] at h;exact fun F=>h F.symm)];exact hp
theorem k0t.blkOf {α:Type} {Q:a0c->List Value->α->Prop} {fl e sz:Nat} {v:Value} {l:List α} (h:k0t Q fl G e sz v l):AI.blkW v=[] ∨ ∃ b,AI.blkW v=[b]/\slB v=some b:=by
 obtain ⟨k,⟨q,⟨rfl,_⟩ | ⟨j,cap,rfl,hp,s⟩⟩,r⟩:=h
 ·exact .inl rfl
 ·by_cases c:l.length=0/\cap=0
  ·exact .inl (by simp only [AI.blkW];rw [M1Z c])
  ·exact .inr ⟨j,by simp only [AI.blkW];rw [M1V c],rfl⟩
end
section
def e0a (nt i:Nat) (Inv:Nat->(Nat->Value)->a0c->Prop) (t:a0U) (H:a0c):Prop:=∃ ρ2,t=T nt ρ2/\Inv (i + 1) ρ2 H
theorem e0a.mk {nt i:Nat} {Inv:Nat->(Nat->Value)->a0c->Prop} {ρ:Nat->Value} {H:a0c} (h:Inv (i + 1) ρ H):e0a nt i Inv (T nt ρ) H:=⟨ρ,rfl,h⟩
theorem b0D {n:Nat} (h:n < 4611686018427387904):IntKind.i64.wrap ((n:Int) + 1)=((n + 1:Nat):Int):=by rw [b0d (by omega) (by omega)];omega
def k0s (E:Env) (fl nt:Nat) (rx:List a0v) (R:a0P) (i:Nat) (Inv:Nat->(Nat->Value)->a0c->Prop) (t:a0U) (H:a0c):Prop :=
 WR E fl rx t H (e0a nt i Inv) R
def g0T (E:Env) (fl nt tc b b2 n:Nat) (body:SCode) (rx:List a0v) (Z:a0U->a0c->Prop) (Q:d0K) (R:a0P) (i:Nat) (Inv:Nat->(Nat->Value)->a0c->Prop) (t:a0U) (H:a0c):Prop :=
 ∃ ρ',t=T nt ρ'/\ρ' tc=.bool (decide (i < n))/\(i < n->W E fl body (T nt ρ') H (x0U b2 b (k0s E fl nt rx R i Inv) Z Q) R)/\(i=n->Z (T nt ρ') H)
section
variable {E:Env} {fl nt tc b b2 n i:Nat} {body:SCode} {rx rc:List a0v} {Z:a0U->a0c->Prop} {Q:d0K} {R:a0P} {Inv:Nat->(Nat->Value)->a0c->Prop} {ρ:Nat->Value} {H:a0c}
theorem g0T.mk (c:ρ tc=.bool (decide (i < n))) (h:i < n->W E fl body (T nt ρ) H (x0U b2 b (k0s E fl nt rx R i Inv) Z Q) R) (j:i=n->Z (T nt ρ) H):g0T E fl nt tc b b2 n body rx Z Q R i Inv (T nt ρ) H:=⟨ρ,rfl,c,h,j⟩
theorem f0r (Inv:Nat->(Nat->Value)->a0c->Prop) (n:Nat) (r:tc < nt) (u:Inv 0 ρ H)
  (step:∀ i ρ G,i<=n->Inv i ρ G->WR E fl rc (T nt ρ) G (g0T E fl nt tc b b2 n body rx Z Q R i Inv) R) :
  W E fl (.loop (.seq (.seq (.reg rc) (.cond (.tmp tc) .skip (.exit b))) (.seq (.block b2 body) (.reg rx)))) (T nt ρ) H (f0t b (i0T Z Q)) R:=by
 refine b0X (fun k t G=>∃ i ρ,i + k=n/\t=T nt ρ/\Inv i ρ G) Z n ⟨0,ρ,by omega,rfl,u⟩ ?_ (fun _ _ h=>h)
 clear u
 rintro k t G ⟨i,ρ,O,rfl,u⟩
 refine i0G (i0G (m0d ((step i ρ G (by omega) u).mo ?_)))
 rintro t' S ⟨s,rfl,z,J,L⟩
 simp only [d0Z]
 by_cases hi:i < n
 ·have w:s tc=.bool true:=by rw [z,decide_eq_true hi]
  refine m0c true (by rw [l0b,b0H r,w]) (fun _=>u0W ?_) (by simp)
  simp only [d0Z]
  refine i0G (o0P ((J hi).mo fun e I y c=>?_))
  have fin:k0s E fl nt rx R i Inv I y->i0T (fun t' H'=>W E fl (.reg rx) t' H' (p0h b (fun t' H'=>∃ k',k' < k/\∃ i ρ,i + k' = n/\t' = T nt ρ/\Inv i ρ H') Z Q) R) (p0h b (fun t' H'=>∃ k',k' < k/\∃ i ρ,i + k' = n/\t' = T nt ρ/\Inv i ρ H') Z Q) .normal I y:=by
   intro h
   refine m0d (h.mo ?_)
   rintro U G3 ⟨x,rfl,M⟩
   exact ⟨k - 1,by omega,i + 1,x,by omega,rfl,M⟩
  cases e with
  | normal=>exact fin c
  | exit j =>
   simp only [x0U] at c
   show (if j=b2 then _ else _)
   by_cases F:j=b2
   ·rw [M1Z F] at c ⊢;exact fin c
   ·rw [M1V F] at c ⊢
    show (if j=b then _ else _)
    by_cases q:j=b
    ·rw [M1Z q] at c ⊢;exact c
    ·rw [M1V q] at c ⊢;exact c
  | ret=>exact c
 ·have N:i=n:=by omega
  have w:s tc=.bool false:=by rw [z,decide_eq_false hi]
  refine m0c false (by rw [l0b,b0H r,w]) (by simp) (fun _=>u0V ?_)
  show (if b=b then _ else _)
  rw [M1Z rfl]
  exact L N
end
end
section
variable {fl:Nat} {H G:a0c} {R:a0P} {v w:Value}
theorem Sls.at_ {α:Type} {P:a0c->List Value->α->Prop} {e sz:Nat} {l:List α} (h:Sls P H e sz v l) {j:Nat} (u:j < l.length) (hs:0 < sz) :
  ∃ b o cs,adr sz v j=.pointer (some ⟨b,o,none⟩)/\cs.length=sz/\P H cs l[j]/\b0w H true sz (.pointer (some ⟨b,o,none⟩))=some (.agg cs.toArray) /\
   (∀ k n,k + n<=sz->0 < n->b0w H true n (.pointer (some ⟨b,o + k,none⟩))=some (.agg ((cs.drop k).take n).toArray)) /\
   ∀ k,k < sz->b0w H false 1 (.pointer (some ⟨b,o + k,none⟩))=some (cs.getD k undef):=by
 obtain ⟨cs,⟨z,r⟩,x⟩:=h
 have s:=x j u
 rcases r with ⟨rfl,r⟩ | ⟨b,off,cap,ro,cells,rfl,hb,ho,rfl⟩
 ·omega
 ·have q:(j + 1) * sz<=l.length * sz:=N1e sz u
  rw [N1t,O1e] at q
  have w:(((cells.drop off).take (l.length * sz)).drop (j * sz)).take sz=(cells.drop (off + j * sz)).take sz:=by
   rw [O1q,O1r,O1p,N1J (by omega)]
  rw [w] at s
  have c:∀ k n,k + n<=sz->0 < n->b0w H true n (.pointer (some ⟨b,off + j * sz + k,none⟩))=some (.agg ((((cells.drop (off + j * sz)).take sz).drop k).take n).toArray):=by
   intro k n y F
   have hc:=i0x (off:=off + j * sz + k) (n:=n) hb (by omega)
   simp only [b0w]
   rw [M1V (by omega),M1V (by simp)]
   simp only [N1E,hc]
   rw [O1q,O1r,O1p,N1J (by omega)]
  refine ⟨b,off + j * sz,_,rfl,by simp;omega,s,?_,c,?_⟩
  ·have:=c 0 sz (by omega) hs
   simpa [O1r] using this
  ·intro k y
   have hc:=i0x (off:=off + j * sz + k) (n:=1) hb (by omega)
   simp only [b0w]
   rw [M1V (by simp),M1V (by simp)]
   simp only [hc,N1g,N1G]
   rw [List.head?_take,M1V (by simp),List.head?_drop,M1R,O1O,M1Z (by omega),O1A]
   rw [M1X (by omega)]
   rfl
def j0v (a:d0d):Bool:=decide (6 < a.1.2.length) || decide (6 < a.2.2.length)
theorem s0t {l:List d0d} (h:f0H H v l) (hf:fl<=H.size) (hl:l.length < 1073741824):b0k env fl v1H [v] H (fun r H'=>r=.bool (j0J j0v l)/\Ext H H') R:=by
 refine a0i M1a hf (h:=?_)
 intro ρ M
 simp [G1F,T0m,T0n,M]
 refine f0r (fun n ρ G=>ρ 0=v/\ρ 3=.int .i64 (n:Int)/\Ext H G/\j0J j0v (l.take n)=false) l.length (by decide) (by simp [M,l0H]) ?_
 clear M ρ
 rintro n ρ G a1 ⟨w,x,Z,hpre⟩
 have k:=h.mo l0e Z
 simp [T0o,w,x,k.slen]
 refine g0T.mk (by simp) (fun c=>?_) (fun Q=>?_)
 ·obtain ⟨b,o,cs,N,a0,hp,Y,U,hc⟩:=k.at_ c (by decide)
  obtain ⟨s,u,O,hs,S⟩:=hp
  have z:cs=[.bool l[n].1.1,s,.bool l[n].2.1,u]:=by simpa using congrArg (fun v=>match v with | Value.agg a=>a.toList | _=>[]) O
  subst z
  have I:=hc 1 (by decide)
  have J:=hc 3 (by decide)
  simp at I J
  have hb:j0J j0v (l.take (n + 1))=j0v l[n]:=by rw [j0K c,hpre,O1U]
  have F:j0v l[n]=true->j0J j0v l=true:=l0I c
  by_cases y:6 < l[n].1.2.length
  ·have j:(6:Int) < (l[n].1.2.length:Int):=by omega
   simp [w0i,w,x,k.ia c,N,I,J,hs.slen,S.slen,y,j,E0e]
   exact fun _=>F (by simp [j0v,y])
  ·have j:¬ (6:Int) < (l[n].1.2.length:Int):=by omega
   by_cases L:6 < l[n].2.2.length
   ·have q:(6:Int) < (l[n].2.2.length:Int):=by omega
    simp [w0i,w,x,k.ia c,N,I,J,hs.slen,S.slen,y,j,L,q,E0e]
    exact fun _=>F (by simp [j0v,L])
   ·have q:¬ (6:Int) < (l[n].2.2.length:Int):=by omega
    simp [w0i,w,x,k.ia c,N,I,J,hs.slen,S.slen,y,j,L,q]
    unfold k0s
    simp [T0p,x,b0D (show n < 4611686018427387904 by omega)]
    refine e0a.mk ⟨by simp [w],by simp,Z,?_⟩
    rw [hb];simp [j0v,y,L]
 ·subst Q
  rw [N1f] at hpre
  simp [T0q]
  exact fun _=>hpre
end
section
variable {H:a0c} {v:Value} {m:Nat} {cs:List Value}
theorem m0n {α:Type} {Q:Nat->α->Prop}:∀ n,(∀ i,i < n->∃ x,Q i x)->∃ l:List α,l.length=n/\∀ i (h:i < l.length),Q i l[i]
 | 0,_=>⟨[],rfl,fun i h=>by simp at h⟩
 | n + 1,h=>by
  obtain ⟨l,c,k⟩:=m0n n (fun i hi=>h i (by omega))
  obtain ⟨x,q⟩:=h n (by omega)
  refine ⟨l ++ [x],by simp [c],fun i hi=>?_⟩
  by_cases j:i < l.length
  ·rw [List.getElem_append_left j];exact k i j
  ·have:i=n:=by simp at hi;omega
   subst this
   rw [List.getElem_append_right (by omega)]
   simpa [c] using q
theorem t0c {α:Type} {c:Program} {P:a0c->List Value->α->Prop} {t e:TypeId} {sz:Nat} (z:c.underlying t=some (.slice e)) (hc:c.cellsOf e=sz)
  (k:∀ cs,cs.length=sz->IsT c H m e cs->∃ x,P H cs x) (h:IsT c H (m + 1) t [v]):∃ l,Sls P H e sz v l:=by
 unfold IsT at h
 rw [z] at h
 rcases h with h | ⟨b,len,cap,cells,r,F,G,s,j,q⟩
 ·have:v=.slice none 0 0:=by simpa using h
  subst this
  exact ⟨[],Sls.nil⟩
 ·have:v=.slice (some ⟨b,0,none⟩) len cap:=by simpa using r
  subst this
  rw [hc] at j q
  have u:∀ i,i < len->i * sz + sz<=cells.length:=by
   intro i hi
   have:(i + 1) * sz<=len * sz:=N1e _ hi
   rw [N1t,O1e] at this
   omega
  obtain ⟨l,y,w⟩:=m0n (Q:=fun i x=>P H ((cells.drop (i * sz)).take sz) x) len (fun i hi=>k _ (by have:=u i hi;simp;omega) (q i hi))
  subst y
  refine ⟨l,cells,⟨j,.inr ⟨b,0,cap,true,cells,rfl,s,by omega,?_⟩⟩,w⟩
  rw [O1c,<- j,N1f]
structure m0a (P:Program):Prop where
 u3:P.underlying 3=some (.int .i64)
 u4:P.underlying 4=some .bool
 u103:P.underlying 160=some (.int .u32)
 u28:P.underlying 59=some (.slice 160)
 u30:∃ f g:Field,P.underlying 61=some (.struct #[f,g])/\f.type=4/\g.type=59
 u32:∃ f g:Field,P.underlying 63=some (.struct #[f,g])/\f.type=61/\g.type=61
 u34:∃ f g:Field,P.underlying 67=some (.struct #[f,g])/\f.type=3/\g.type=63
 u37:P.underlying 46=some (.slice 63)
 u27:P.underlying 42=some (.slice 67)
 u23:P.underlying 31=some (.slice 46)
 u25:∃ f:Field,P.underlying 33=some (.struct #[f])/\f.type=31
 c103:P.cellsOf 160=1
 c37:P.cellsOf 46=1
 c32:P.cellsOf 63=4
 c34:P.cellsOf 67=5
variable {P:Program}
theorem J1D (hP:m0a P) (h:IsT P H (m + 2) 59 [v]):∃ l,Lim H v l:=by
 obtain ⟨l,h⟩:=t0c (P:=fun _ cs (x:Nat)=>cs=[.int .u32 (x:Nat)]/\x < 4294967296) (sz:=1) hP.u28 hP.c103 (fun cs _ h=>by
  unfold IsT at h
  rw [hP.u103] at h
  obtain ⟨n,rfl,j⟩:=h
  simp only [Lit.wf,M1W,N1s] at j
  have r:0<=n:=j.1
  have c:n<=4294967295:=j.2
  exact ⟨n.toNat,by rw [P1c r],by omega⟩) h
 obtain ⟨cs,c,k⟩:=h
 refine ⟨l,?_,fun x z=>?_⟩
 ·have:cs=b0C l:=by
   apply List.ext_getElem
   ·have:=c.1;simp [b0C];omega
   ·intro i s u
    have w:i < l.length:=by simpa using u
    have q:=(k i w).1
    rw [N1W,N1P s,List.take_succ_cons] at q
    have y:=(List.cons.inj q).1
    rw [y];simp [b0C]
  rw [<- this];exact c
 ·obtain ⟨i,hi,rfl⟩:=P1d z
  exact (k i hi).2
theorem v1S (hP:m0a P) (h:IsT P H (m + 1) 4 cs):∃ b,cs=[.bool b]:=by
 unfold IsT at h
 rw [hP.u4] at h;exact h
theorem h0S (hP:m0a P) (h:IsT P H (m + 1) 3 cs):∃ n,cs=[.int .i64 n]:=by
 unfold IsT at h
 rw [hP.u3] at h
 obtain ⟨n,h,_⟩:=h;exact ⟨n,h⟩
theorem J1E (hP:m0a P) (h:IsT P H (m + 1) 59 cs):∃ v,cs=[v]:=by
 unfold IsT at h
 rw [hP.u28] at h
 rcases h with h | ⟨b,len,cap,cells,h,_⟩ <;> exact ⟨_,h⟩
theorem H0l (hP:m0a P) (h:IsT P H (m + 3) 61 cs):∃ b s l,cs=[.bool b,s]/\Lim H s l:=by
 obtain ⟨f,g,w,r,u⟩:=hP.u30
 unfold IsT at h
 rw [w] at h
 obtain ⟨c,rfl,k,hp⟩:=h
 obtain ⟨p,q,rfl⟩:∃ p q,c=[p,q]:=by
  match c,k with
  | [p,q],_=>exact ⟨p,q,rfl⟩
 obtain ⟨b,rfl⟩:=v1S hP (by simpa [r] using hp 0 _ rfl)
 have j:IsT P H (m + 2) 59 q:=by simpa [u] using hp 1 _ rfl
 obtain ⟨s,rfl⟩:=J1E hP j
 obtain ⟨l,k⟩:=J1D hP j
 exact ⟨b,s,l,rfl,k⟩
theorem J1F (hP:m0a P) (h:IsT P H (m + 4) 63 cs):∃ a,j0o H (.agg cs.toArray) a:=by
 obtain ⟨f,g,r,w,x⟩:=hP.u32
 unfold IsT at h
 rw [r] at h
 obtain ⟨j,rfl,y,hp⟩:=h
 obtain ⟨p,q,rfl⟩:∃ p q,j=[p,q]:=by
  match j,y with
  | [p,q],_=>exact ⟨p,q,rfl⟩
 obtain ⟨b,s,l,rfl,hs⟩:=H0l hP (by simpa [w] using hp 0 _ rfl)
 obtain ⟨c,u,k,rfl,r⟩:=H0l hP (by simpa [x] using hp 1 _ rfl)
 exact ⟨((b,l),(c,k)),s,u,rfl,hs,r⟩
theorem S0t (hP:m0a P) (h:IsT P H (m + 5) 46 [v]):∃ l,f0H H v l:=t0c hP.u37 hP.c32 (fun _ _ h=>J1F hP h) h
theorem v1U (hP:m0a P) (h:IsT P H (m + 6) 31 [v]):∃ l,k0u H v l:=t0c hP.u23 hP.c37 (fun cs hc h=>by
 obtain ⟨w,rfl⟩:∃ w,cs=[w]:=by
  match cs,hc with
  | [w],_=>exact ⟨w,rfl⟩
 obtain ⟨l,c⟩:=S0t hP h
 exact ⟨l,w,rfl,c⟩) h
theorem F0T (hP:m0a P) (h:IsV P H (m + 7) 33 v):∃ rows,k0X H v rows:=by
 obtain ⟨f,q,r⟩:=hP.u25
 unfold IsV at h;rw [q] at h
 obtain ⟨cs,rfl,h⟩:=h
 unfold IsT at h
 rw [q] at h
 obtain ⟨c,hc,k,hp⟩:=h
 obtain ⟨p,rfl⟩:∃ p,c=[p]:=by
  match c,k with
  | [p],_=>exact ⟨p,rfl⟩
 have j:IsT P H (m + 6) 31 p:=by simpa [r] using hp 0 _ rfl
 obtain ⟨s,rfl⟩:∃ s,p=[s]:=by
  unfold IsT at j
  rw [hP.u23] at j
  rcases j with h | ⟨b,len,cap,cells,h,_⟩ <;> exact ⟨_,h⟩
 obtain ⟨l,k⟩:=v1U hP j
 have:cs = #[s]:=by rw [<- O1K];simpa using hc
 exact ⟨l,s,by rw [this],k⟩
theorem Sls.first {α:Type} {P:a0c->List Value->α->Prop} {e sz:Nat} {l:List α} (h:Sls P H e sz v l) {n:Nat} (s:n<=l.length) {k:IntKind} :
  ∃ v',d0s sz v none (some (.int k n)) none=some v'/\Sls P H e sz v' (l.take n)/\elemOk H e v=true:=by
 obtain ⟨cs,r,u⟩:=h
 obtain ⟨v',w,z⟩:=r.slice (lo:=0) (hi:=n) (x:=none) (y:=some (.int k n)) (N1K _) s rfl (by simp [bnd])
 refine ⟨v',w,⟨_,by rw [N1Z,N1J s];simpa using z,?_⟩,r.elemOk (Ext.refl _)⟩
 intro j F
 have c:j < n:=by simp at F;omega
 have q:(j + 1) * sz<=n * sz:=N1e _ c
 rw [N1t,O1e] at q
 have:=u j (by omega)
 simp only [List.getElem_take,P1e,Nat.zero_mul,O1c]
 rw [O1q,O1r,N1J (by omega)]
 exact this
theorem types:m0a Tryz.prog where
 u3:=Tryz.underlying3
 u4:=by kernel_rfl
 u103:=Tryz.underlying160
 u28:=Tryz.underlying59
 u30:=⟨_,_,Tryz.underlying61,rfl,rfl⟩
 u32:=⟨_,_,Tryz.underlying63,rfl,rfl⟩
 u34:=⟨_,_,Tryz.underlying67,rfl,rfl⟩
 u37:=Tryz.underlying46
 u27:=Tryz.underlying42
 u23:=Tryz.underlying31
 u25:=⟨_,Tryz.underlying33,rfl⟩
 c103:=by kernel_rfl
 c37:=by kernel_rfl
 c32:=by kernel_rfl
 c34:=by kernel_rfl
end
section
variable {e f g:o0N}
variable {a b c:List o0N}
end
section
def l0U (E:Env) (fl nt tc b b2:Nat) (body:SCode) (rx:List a0v) (Z:a0U->a0c->Prop) (Q:d0K) (R:a0P) (n i:Nat) (Inv:Nat->(Nat->Value)->a0c->Prop) (t:a0U) (H:a0c):Prop :=
 ∃ ρ' c,t=T nt ρ'/\ρ' tc=.bool c/\(c=true->i < n/\W E fl body (T nt ρ') H (x0U b2 b (k0s E fl nt rx R i Inv) Z Q) R)/\(c=false->Z (T nt ρ') H)
section
variable {E:Env} {fl nt tc b b2 n i:Nat} {body:SCode} {rx rc:List a0v} {Z:a0U->a0c->Prop} {Q:d0K} {R:a0P} {Inv:Nat->(Nat->Value)->a0c->Prop} {ρ:Nat->Value} {H:a0c}
theorem l0U.mk (c:Bool) (h:ρ tc=.bool c) (j:c=true->i < n/\W E fl body (T nt ρ) H (x0U b2 b (k0s E fl nt rx R i Inv) Z Q) R) (k:c=false->Z (T nt ρ) H):l0U E fl nt tc b b2 body rx Z Q R n i Inv (T nt ρ) H:=⟨ρ,c,rfl,h,j,k⟩
theorem y0g (Inv:Nat->(Nat->Value)->a0c->Prop) (n:Nat) (s:tc < nt) (u:Inv 0 ρ H)
  (step:∀ i ρ G,i<=n->Inv i ρ G->WR E fl rc (T nt ρ) G (l0U E fl nt tc b b2 body rx Z Q R n i Inv) R) :
  W E fl (.loop (.seq (.seq (.reg rc) (.cond (.tmp tc) .skip (.exit b))) (.seq (.block b2 body) (.reg rx)))) (T nt ρ) H (f0t b (i0T Z Q)) R:=by
 refine b0X (fun k t G=>∃ i ρ,i + k=n/\t=T nt ρ/\Inv i ρ G) Z n ⟨0,ρ,by omega,rfl,u⟩ ?_ (fun _ _ h=>h)
 clear u
 rintro k t G ⟨i,ρ,M,rfl,u⟩
 refine i0G (i0G (m0d ((step i ρ G (by omega) u).mo ?_)))
 rintro t' O ⟨N,c,rfl,z,w,J⟩
 simp only [d0Z]
 cases c with
 | true =>
  obtain ⟨hi,w⟩:=w rfl
  refine m0c true (by rw [l0b,b0H s,z]) (fun _=>u0W ?_) (by simp)
  simp only [d0Z]
  refine i0G (o0P (w.mo fun e I y q=>?_))
  have fin:k0s E fl nt rx R i Inv I y->i0T (fun t' H'=>W E fl (.reg rx) t' H' (p0h b (fun t' H'=>∃ k',k' < k/\∃ i ρ,i + k' = n/\t' = T nt ρ/\Inv i ρ H') Z Q) R) (p0h b (fun t' H'=>∃ k',k' < k/\∃ i ρ,i + k' = n/\t' = T nt ρ/\Inv i ρ H') Z Q) .normal I y:=by
   intro h
   refine m0d (h.mo ?_)
   rintro S G3 ⟨x,rfl,L⟩
   exact ⟨k - 1,by omega,i + 1,x,by omega,rfl,L⟩
  cases e with
  | normal=>exact fin q
  | exit j =>
   simp only [x0U] at q
   show (if j=b2 then _ else _)
   by_cases F:j=b2
   ·rw [M1Z F] at q ⊢;exact fin q
   ·rw [M1V F] at q ⊢
    show (if j=b then _ else _)
    by_cases r:j=b
    ·rw [M1Z r] at q ⊢;exact q
    ·rw [M1V r] at q ⊢;exact q
  | ret=>exact q
 | false =>
  refine m0c false (by rw [l0b,b0H s,z]) (by simp) (fun _=>u0V ?_)
  show (if b=b then _ else _)
  rw [M1Z rfl]
  exact J rfl
end
variable {fl:Nat} {H G:a0c} {R:a0P} {v w:Value}
def d0X:List (List d0d)->Nat
 | []=>0
 | r :: l=>d0X l + (1 + min r.length 201)
theorem x0C (l:List (List d0d)) (r:List d0d):d0X (l ++ [r])=d0X l + (1 + min r.length 201):=by
 induction l with
 | nil=>simp [d0X]
 | cons x l ih=>simp only [O1y,d0X,ih];omega
theorem x0D {l:List (List d0d)} {i:Nat} (h:i < l.length):d0X (l.take (i + 1))=d0X (l.take i) + (1 + min l[i].length 201):=by
 rw [N1x h,x0C]
def n0G (r:List d0d):Bool:=decide (r.length<=200) && j0J j0v r
theorem v0o (l:List (List d0d)):l.length<=d0X l:=by
 induction l with
 | nil=>simp [d0X]
 | cons x l ih=>simp only [N1I,d0X];omega
theorem z0x {l:List (List d0d)} {r:List d0d} (h:r ∈ l):min r.length 201 < d0X l:=by
 induction l with
 | nil=>simp at h
 | cons x l ih =>
  simp only [d0X]
  rcases O1W.1 h with rfl | h
  ·omega
  ·have:=ih h;omega
def H0j (l:List (List d0d)):Prop:=l.length<=200/\∀ r ∈ l,r.length<=200/\j0J j0v r=false
theorem X0e {l:List (List d0d)} (h:d0X l<=200) (k:j0J n0G l=false):H0j l:=by
 refine ⟨N1n (v0o l) h,fun r j=>?_⟩
 have q:=z0x j
 have c:r.length<=200:=by omega
 refine ⟨c,?_⟩
 cases ha:j0J j0v r with
 | false=>rfl
 | true=>exact N1i (List.any_eq_true.2 ⟨r,j,show n0G r=true by unfold n0G;rw [ha];simp [c]⟩) (by unfold j0J at k;rw [k];decide)
theorem l0W {l:List (List d0d)} (h:k0u H v l) (hf:fl<=H.size):b0k env fl u1k [v] H (fun r H'=>(∃ c,r=.bool c/\(c=false->H0j l))/\Ext H H') R:=by
 refine a0i L1U hf (h:=?_)
 intro ρ Q
 simp [G1A,S0K,S0L,S0M,Q]
 refine y0g (fun n ρ G=>ρ 0=v/\ρ 4=.int .i64 (n:Int)/\ρ 3=.int .i64 ((d0X (l.take n):Nat):Int)/\d0X (l.take n)<=402/\n<=403/\Ext H G/\j0J n0G (l.take n)=false) l.length (by decide) (by simp [Q,l0H,d0X]) ?_
 clear Q ρ
 rintro n ρ G a2 ⟨u,x,y,hb,a3,I,hpre⟩
 have k:=h.mo j0V I
 have a4:n<=d0X (l.take n):=by have:=v0o (l.take n);rw [N1Z] at this;omega
 by_cases j:n < l.length
 ·have a0:(n:Int) < (l.length:Int):=by omega
  by_cases Z:d0X (l.take n)<=200
  ·have q:((d0X (l.take n):Nat):Int)<=200:=by omega
   simp [v0G,u,x,y,k.slen,j,Z,q]
   refine l0U.mk true (by simp [q]) (fun _=>⟨j,?_⟩) (by simp)
   obtain ⟨w,F,O⟩:=k0u.load k j
   have U:v0t false (.int .i64 (l[n].length:Int)) [.int .i64 201]=some (.int .i64 ((min l[n].length 201:Nat):Int)):=by
    simp only [v0t,mn2,N1g,N1G,M1Q,Value.int.injEq,true_and]
    split <;> omega
   have L:IntKind.i64.wrap (((d0X (l.take n):Nat):Int) + 1)=((d0X (l.take n) + 1:Nat):Int):=b0D (by omega)
   have hs:=x0D j
   have M:IntKind.i64.wrap (((d0X (l.take n) + 1:Nat):Int) + ((min l[n].length 201:Nat):Int))=((d0X (l.take (n + 1)):Nat):Int):=by
    rw [b0d (by omega) (by omega),hs];omega
   simp only [Int.natCast_add,Int.cast_ofNat_Int] at L M
   simp [S0N,u,x,y,k.ia j,F,O.slen,U]
   simp [L]
   rw [M]
   have a1:n0G l[n]=true->j0J n0G l=true:=l0I j
   have J:j0J n0G (l.take (n + 1))=n0G l[n]:=by rw [j0K j,hpre,O1U]
   have N:=b0D (show n < 4611686018427387904 by omega)
   by_cases z:l[n].length<=200
   ·have s:(l[n].length:Int)<=200:=by omega
    simp [B0x,u,x,k.ia j,F,O.slen,z,s]
    refine (s0t O I.1 (by omega)).mo ?_
    rintro _ G2 ⟨rfl,Y⟩
    replace I:=I.trans Y
    cases hlo:j0J j0v l[n] with
    | true=>simp [S0O]
    | false =>
     simp
     unfold k0s
     simp [B0y,x,N]
     refine e0a.mk ⟨by simp [u],by simp,by simp,by omega,by omega,I,?_⟩
     rw [J];unfold n0G;simp [hlo]
   ·have s:¬ (l[n].length:Int)<=200:=by omega
    simp [B0x,u,x,k.ia j,F,O.slen,z,s]
    unfold k0s
    simp [B0y,x,N]
    refine e0a.mk ⟨by simp [u],by simp,by simp,by omega,by omega,I,?_⟩
    rw [J];unfold n0G;simp [z]
  ·have q:¬ ((d0X (l.take n):Nat):Int)<=200:=by omega
   simp [v0G,u,x,y,k.slen,j,Z,q]
   refine l0U.mk false (by simp [q]) (by simp) (fun _=>?_)
   have S:(200:Int) < ((d0X (l.take n):Nat):Int):=by omega
   simp [B0z,y,S]
 ·have he:n=l.length:=by omega
  subst he
  simp [v0G,u,x,y,k.slen]
  refine l0U.mk false (by simp) (by simp) (fun _=>?_)
  rw [N1f] at hpre y
  simp [B0z,y]
  intro _
  by_cases S:d0X l<=200
  ·exact .inl ⟨by omega,X0e S hpre⟩
  ·exact .inr (by omega)
end
section
structure l0q where
 X:List (Bool × List Nat)
 W:List (Bool × List Nat)
 K:Bool × List Nat
structure w0B where
 m:Int
 guards:List l0q
 set:List l0q
def K1R (l:List (Bool × List Nat)):Prop:=∀ x ∈ l,x.2.length<=40/\b0g x.2
def L1L (a:l0q):Prop:=K1R a.X/\K1R a.W/\a.K.2.length<=40/\b0g a.K.2
end
section
variable {fl:Nat} {H G:a0c} {R:a0P} {v w u:Value}
def PIr (H:a0c) (cs:List Value) (x:Bool × List Nat):Prop:=c0m H (.agg cs.toArray) x
theorem e0d:q0A PIr:=fun _ _ _ _ c h=>c0m.mo h c
abbrev f0W (H:a0c) (v:Value) (l:List (Bool × List Nat)):Prop:=Sls PIr H a0a 2 v l
theorem f0W.load {l:List (Bool × List Nat)} (h:f0W H v l) {j:Nat} (r:j < l.length):∃ s,b0w H true 2 (adr 2 v j)=some (.agg #[.bool l[j].1,s])/\Lim H s l[j].2:=by
 obtain ⟨cs,c,_,s,k,q⟩:=Sls.load h r (by omega)
 exact ⟨s,by rw [c,k],q⟩
theorem f0W.lim {l:List (Bool × List Nat)} (h:f0W H v l):∀ x ∈ l,b0g x.2:=fun x c=>by
 obtain ⟨i,hi,rfl⟩:=P1d c
 obtain ⟨s,_,k⟩:=f0W.load h hi
 exact k.ok
def F0x (H:a0c) (v:Value) (a:l0q):Prop:=∃ sX sW s,v=.agg #[sX,sW,.bool a.K.1,s]/\f0W H sX a.X/\f0W H sW a.W/\Lim H s a.K.2
theorem F0x.mo {a:l0q} (h:F0x H v a) (c:Ext H G):F0x G v a:=by
 obtain ⟨w,u,s,j,k,q,r⟩:=h;exact ⟨w,u,s,j,k.mo e0d c,q.mo e0d c,r.mo c⟩
def PAf (H:a0c) (cs:List Value) (a:l0q):Prop:=F0x H (.agg cs.toArray) a
theorem b0j:q0A PAf:=fun _ _ _ _ c h=>F0x.mo h c
abbrev j0k (H:a0c) (v:Value) (l:List l0q):Prop:=Sls PAf H a0j 4 v l
theorem j0k.load {l:List l0q} (h:j0k H v l) {j:Nat} (q:j < l.length):∃ w,b0w H true 4 (adr 4 v j)=some w/\F0x H w l[j]:=by
 obtain ⟨cs,c,_,k⟩:=Sls.load h q (by omega);exact ⟨_,c,k⟩
def U0U (H:a0c) (v:Value) (e:w0B):Prop:=∃ (f t:Int) (sG sS sP:Value),v=.agg #[.int .i64 f,.int .i64 t,.int .i64 e.m,sG,sS,sP]/\j0k H sG e.guards/\j0k H sS e.set/\a0t sP=[sP]/\a0n sP=true
theorem U0U.mo {e:w0B} (h:U0U H v e) (c:Ext H G):U0U G v e:=by
 obtain ⟨f,t,u,x,w,j,k,q,r,s⟩:=h;exact ⟨f,t,u,x,w,j,k.mo b0j c,q.mo b0j c,r,s⟩
