/- Part 9 of the proof: SxTab, SxBland, SxRun, SxCert, AiSy2, AiSy3, AiSy4, AiSy5, AiSy6, AiSy7, AiSy8. -/
import Derived.Test.YtilekhkgobmolaaGreatM07
set_option linter.unusedVariables false
set_option linter.unusedSimpArgs false
set_option linter.unusedSectionVars false
namespace Go.Proofs.YtilekhkgobmolaaGreat.SX
structure Inv (M C:Nat) (A T b:Nat→Nat→Int) (d e:Int):Prop where
 pos:0 < d
 eps:e * e=1
 dt:d=e * det M b
 col:∀ c,c≤C→∀ r,r < M→d * A c r=sm (fun i=>T i c * b i r) M
variable {M C:Nat} {A T b:Nat→Nat→Int} {d e:Int}
def co (M:Nat) (b:Nat→Nat→Int) (e:Int) (k:Nat) (v:Nat→Int):Int:=e * det M (up b k v)
theorem e0N {k:Nat} {v w:Nat→Int} (h:∀ r,r < M→v r=w r):co M b e k v=co M b e k w:=by
 unfold co;congr 1
 exact i0k fun i r _ hr=>by unfold up;split;exact h r hr;rfl
theorem Inv.entry (h:Inv M C A T b d e) {k c:Nat} (hk:k < M) (hc:c≤C):co M b e k (A c)=T k c:=by
 have h1:=J0K hk (h.col c hc)
 have h2:=h.dt
 have h3:=h.pos
 have h4:=h.eps
 unfold co
 have hne:det M b ≠ 0:=by intro h0;rw [h0] at h2;omega
 have:det M b * (e * det M (up b k (A c)))=det M b * T k c:=by
  have:e * d * det M (up b k (A c))=e * (T k c * det M b):=by rw [d1X,h1]
  rw [h2] at this
  have e2:e * (e * det M b)=det M b:=by rw [← d1X,h4,Int.one_mul]
  rw [e2] at this
  rw [← d1X,Int.mul_comm (det M b) e]
  have h5:e * (det M b * det M (up b k (A c)))=e * (e * (T k c * det M b)):=by rw [this]
  rw [← d1X e e,h4,Int.one_mul] at h5
  rw [d1X,h5];grind
 exact d1C hne this
theorem Inv.basis (h:Inv M C A T b d e) {k i:Nat} (hk:k < M) (hi:i < M):co M b e k (b i)=if k=i then d else 0:=by
 unfold co
 by_cases hki:k=i
 ·subst hki;rw [b1W rfl,h0X];exact h.dt.symm
 ·rw [b1T hki,u0w hk hi hki (fun r=>by rw [b0h,e0n (d1B hki)])];simp
theorem J0J {k:Nat} (hk:k < M) {t:Nat→Int} {x:Nat→Nat→Int} {n:Nat}:co M b e k (fun r=>sm (fun i=>t i * x i r) n)=sm (fun i=>t i * co M b e k (x i)) n:=by
 unfold co
 rw [s0m hk,← e0G]
 exact b0g fun i _=>by grind
theorem J0I {k:Nat} (hk:k < M) {a c:Int} {x y:Nat→Int}:co M b e k (fun r=>a * x r + c * y r)=a * co M b e k x + c * co M b e k y:=by
 unfold co;rw [h0N hk];grind
theorem T0i {k:Nat} (hk:k < M) {a:Int} {x:Nat→Int}:co M b e k (fun r=>a * x r)=a * co M b e k x:=by
 have:=J0I (M:=M) (b:=b) (e:=e) hk (a:=a) (c:=0) (x:=x) (y:=x)
 rw [Int.zero_mul,d1r] at this
 rw [← this];exact e0N fun r _=>by omega
theorem Inv.col1 (h:Inv M C A T b d e) {k i c:Nat} (hk:k < M) (hi:i < M) (hc:c≤C) (hb:∀ r,r < M→b i r=A c r):T k c=if k=i then d else 0:=by
 rw [← h.entry hk hc,← h.basis hk hi]
 exact e0N fun r hr=>(hb r hr).symm
def pv (T:Nat→Nat→Int) (i j:Nat) (d:Int):Nat→Nat→Int:=fun k c=>if k=i then T i c else (T k c * T i j - T k j * T i c) / d
theorem Inv.pivot_key (h:Inv M C A T b d e) {i j:Nat} (hi:i < M) (hj:j≤C) (hp:T i j ≠ 0) {k c:Nat} (hk:k < M) (hc:c≤C) :
  T i j=e * det M (up b i (A j))∧d * co M (up b i (A j)) e k (A c)=if k=i then d * T i c else T k c * T i j - T k j * T i c:=by
 have h1:T i j=e * det M (up b i (A j)):=(h.entry hi hj).symm
 refine ⟨h1,?_⟩
 have h3:=h.pos
 have h4:=h.eps
 let U:Nat→Int:=fun k=>if k=i then d * T i c else T k c * T i j - T k j * T i c
 have hU:∀ r,r < M→(T i j * d) * A c r=sm (fun k=>U k * up b i (A j) k r) M:=by
  intro r hr
  have hcc:=h.col c hc r hr
  have hcj:=h.col j hj r hr
  rw [i0Q hi] at hcc hcj
  rw [i0Q hi]
  have e1:U i * up b i (A j) i r=T i c * (d * A j r):=by simp only [U,c1F,b0h];grind
  have e2:sm (fun k=>if k=i then 0 else U k * up b i (A j) k r) M=T i j * sm (fun k=>if k=i then 0 else T k c * b k r) M + -(T i c) * sm (fun k=>if k=i then 0 else T k j * b k r) M:=by
   rw [← w0c]
   refine b0g fun k _=>?_
   by_cases hki:k=i
   ·simp [hki]
   ·simp only [b1T hki,U,e0n hki];grind
  rw [e1,e2,hcj,d1X,hcc]
  grind
 have h5:=J0K hk hU
 rw [d1X] at h5
 have h6:T i j * (d * co M (up b i (A j)) e k (A c))=T i j * U k:=by
  unfold co
  have:e * (T i j * (d * det M (up (up b i (A j)) k (A c))))=e * (U k * det M (up b i (A j))):=by rw [h5]
  have h7:e * (U k * det M (up b i (A j)))=U k * T i j:=by rw [h1];grind
  rw [h7] at this
  grind
 exact d1C hp h6
theorem Inv.pv_eq (h:Inv M C A T b d e) {i j:Nat} (hi:i < M) (hj:j≤C) (hp:T i j ≠ 0) {k c:Nat} (hk:k < M) (hc:c≤C):co M (up b i (A j)) e k (A c)=pv T i j d k c:=by
 have h1:=(h.pivot_key hi hj hp hk hc).2
 have h3:=h.pos
 unfold pv
 by_cases hki:k=i
 ·rw [b1W hki] at h1 ⊢;exact d1C (by omega) h1
 ·rw [b1T hki] at h1 ⊢;rw [← h1,Int.mul_ediv_cancel_left _ (by omega)]
theorem Inv.exact (h:Inv M C A T b d e) {i j:Nat} (hi:i < M) (hj:j≤C) (hp:T i j ≠ 0) {k c:Nat} (hk:k < M) (hc:c≤C) (hki:k ≠ i):T k c * T i j - T k j * T i c=d * pv T i j d k c:=by
 rw [← h.pv_eq hi hj hp hk hc,(h.pivot_key hi hj hp hk hc).2,b1T hki]
theorem Inv.pivot (h:Inv M C A T b d e) {i j:Nat} (hi:i < M) (hj:j≤C) (hp:0 < T i j):Inv M C A (pv T i j d) (up b i (A j)) (T i j) e where
 pos:=hp
 eps:=h.eps
 dt:=(h.pivot_key hi hj (by omega) hi hj).1
 col:=fun c hc r hr=>by
  have h3:=h.pos
  have hcc:=h.col c hc r hr
  have hcj:=h.col j hj r hr
  rw [i0Q hi] at hcc hcj
  refine d1C (a:=d) (by omega) ?_
  rw [← e0G,i0Q hi]
  have e1:d * (pv T i j d i c * up b i (A j) i r)=T i c * (d * A j r):=by simp only [pv,c1F,b0h];grind
  have e2:sm (fun k=>if k=i then 0 else d * (pv T i j d k c * up b i (A j) k r)) M=T i j * sm (fun k=>if k=i then 0 else T k c * b k r) M + -(T i c) * sm (fun k=>if k=i then 0 else T k j * b k r) M:=by
   rw [← w0c]
   refine b0g fun k hk=>?_
   by_cases hki:k=i
   ·simp [hki]
   ·simp only [b1T hki,e0n hki]
    have:=h.exact hi hj (by omega) hk hc hki
    rw [← d1X,← this];grind
  rw [e1,e2,hcj]
  have:d * (T i j * A c r)=T i j * (d * A c r):=by grind
  rw [this,hcc]
  grind
def ng (T:Nat→Nat→Int) (i:Nat):Nat→Nat→Int:=fun k c=>if k=i then -T i c else T k c
theorem Inv.turn (h:Inv M C A T b d e) {i:Nat} (hi:i < M):Inv M C A (ng T i) (up b i (fun r=>-b i r)) d (-e) where
 pos:=h.pos
 eps:=by have:=h.eps;grind
 dt:=by
  have h1:=h0N (m:=M) (v:=b) (i:=i) hi (a:=-1) (b:=0) (x:=b i) (y:=b i)
  rw [h0X] at h1
  have:(fun r=>(-1:Int) * b i r + 0 * b i r)=fun r=>-b i r:=by funext r;omega
  rw [this] at h1
  rw [h1];have:=h.dt;grind
 col:=fun c hc r hr=>by
  rw [h.col c hc r hr]
  refine b0g fun k hk=>?_
  by_cases hki:k=i
  ·subst hki;simp only [ng,c1F,b0h];grind
  ·simp only [ng,b1T hki,e0n hki]
theorem Inv.bound (h:Inv M C A T b d e) {B:Nat} (hb:∀ i r,i < M→r < M→(b i r).natAbs≤B) (hA:∀ c r,c≤C→r < M→(A c r).natAbs≤B) {k c:Nat} (hk:k < M) (hc:c≤C):(T k c).natAbs≤fac M * B ^ M:=by
 have h1:e.natAbs=1:=by
  have:=h.eps
  have h2:(e * e).natAbs=1:=by rw [this];rfl
  rw [d1D] at h2
  exact Nat.eq_one_of_mul_eq_one_left h2
 rw [← h.entry hk hc]
 unfold co
 rw [d1D,h1,c1H]
 refine k0M fun i r hi hr=>?_
 unfold up;split
 ·exact hA c r hc hr
 ·exact hb i r hi hr
theorem Inv.bound_d (h:Inv M C A T b d e) {B:Nat} (hb:∀ i r,i < M→r < M→(b i r).natAbs≤B):d.natAbs≤fac M * B ^ M:=by
 have h1:e.natAbs=1:=by
  have:=h.eps
  have h2:(e * e).natAbs=1:=by rw [this];rfl
  rw [d1D] at h2
  exact Nat.eq_one_of_mul_eq_one_left h2
 rw [h.dt,d1D,h1,c1H]
 exact k0M hb
theorem Inv.first:Inv M C A (fun i c=>A c i) i0T 1 1 where
 pos:=by omega
 eps:=rfl
 dt:=by rw [u0x];rfl
 col:=fun c hc r hr=>by
  rw [g0b hr]
  ·simp [i0T]
  ·intro i hi hne;unfold i0T;rw [b1T (d1B hne)];omega
end Go.Proofs.YtilekhkgobmolaaGreat.SX
namespace Go.Proofs.YtilekhkgobmolaaGreat.SX
structure Tab (m C:Nat) (A:Nat→Nat→Int) (neg:Nat→Prop) (T:Nat→Nat→Int) (base:Nat→Nat) (d:Int):Prop where
 inv:∃ b e,Inv (m + 2) C A T b d e∧(∀ i,i < m→(base i < C∧∀ r,r < m + 2→b i r=A (base i) r) ∨ (base i=C + i∧neg i∧∀ r,b i r=i0T i r))∧(∀ r,b m r=i0T m r)∧(∀ r,b (m + 1) r=i0T (m + 1) r)
 rhs:∀ i,i < m→0≤T i C
variable {m C:Nat} {A:Nat→Nat→Int} {neg:Nat→Prop} {T T':Nat→Nat→Int} {base base':Nat→Nat} {d d':Int}
theorem Tab.pos (h:Tab m C A neg T base d):0 < d:=by obtain ⟨b,e,hi,_⟩:=h.inv;exact hi.pos
theorem Tab.base_lt (h:Tab m C A neg T base d) {i:Nat} (hi:i < m):base i < C + m:=by
 obtain ⟨b,e,_,h1,_⟩:=h.inv
 rcases h1 i hi with ⟨h2,_⟩ | ⟨h2,_⟩ <;> omega
theorem Tab.col (h:Tab m C A neg T base d) {k i:Nat} (hk:k < m + 2) (hi:i < m) (hb:base i < C):T k (base i)=if k=i then d else 0:=by
 obtain ⟨b,e,hI,h1,_⟩:=h.inv
 rcases h1 i hi with ⟨_,h2⟩ | ⟨h2,_⟩
 ·exact hI.col1 hk (by omega) (by omega) h2
 ·omega
theorem Tab.inj (h:Tab m C A neg T base d) {i k:Nat} (hi:i < m) (hk:k < m) (hb:base i < C) (he:base i=base k):i=k:=by
 have h1:=h.col (k:=i) (by omega) hi hb
 have h2:=h.col (k:=i) (by omega) hk (by omega)
 have:=h.pos
 rw [he,h2,b1W rfl] at h1
 by_cases h3:i=k
 ·exact h3
 ·rw [b1T h3] at h1;omega
theorem T0k (h:Tab m C A neg T base d) (h':Tab m C A neg T' base' d') {g:Nat} (hg:g=m ∨ g=m + 1) (ha:∀ i,i < m→¬ base i < C→¬ base' i < C) {c:Nat} (hc:c≤C) :
  d * T' g c=d' * T g c + sm (fun i=>if base i < C then T i c * T' g (base i) else 0) m:=by
 obtain ⟨b,e,hI,h1,h2,h3⟩:=h.inv
 obtain ⟨b',e',hI',h1',h2',h3'⟩:=h'.inv
 have hgM:g < m + 2:=by omega
 have k1:co (m + 2) b' e' g (fun r=>d * A c r)=co (m + 2) b' e' g (fun r=>sm (fun i=>T i c * b i r) (m + 2)):=e0N fun r hr=>hI.col c hc r hr
 rw [T0i hgM,J0J hgM,hI'.entry hgM hc] at k1
 rw [k1]
 show sm _ m + T m c * co (m + 2) b' e' g (b m) + T (m + 1) c * co (m + 2) b' e' g (b (m + 1))=_
 have e1:co (m + 2) b' e' g (b m)=if g=m then d' else 0:=by
  rw [← hI'.basis hgM (i:=m) (by omega)];exact e0N fun r _=>by rw [h2,h2']
 have e2:co (m + 2) b' e' g (b (m + 1))=if g=m + 1 then d' else 0:=by
  rw [← hI'.basis hgM (i:=m + 1) (by omega)];exact e0N fun r _=>by rw [h3,h3']
 have e3:sm (fun i=>T i c * co (m + 2) b' e' g (b i)) m=sm (fun i=>if base i < C then T i c * T' g (base i) else 0) m:=by
  refine b0g fun i hi=>?_
  rcases h1 i hi with ⟨k2,k3⟩ | ⟨k2,_,k3⟩
  ·rw [b1W k2,e0N (w:=A (base i)) k3,hI'.entry hgM (by omega)]
  ·rw [b1T (by omega)]
   rcases h1' i hi with ⟨k4,_⟩ | ⟨_,_,k5⟩
   ·exact c1j k4 (ha i hi (by omega))
   ·rw [e0N (w:=b' i) (fun r _=>by rw [k3,k5]),hI'.basis hgM (by omega),b1T (by omega)];simp
 rw [e1,e2,e3]
 rcases hg with rfl | rfl
 ·simp;grind
 ·simp;grind
theorem O0X {f:Nat→Int}:∀ {n:Nat},0 < sm f n→∃ i,i < n∧0 < f i
 | 0,h=>by simp [sm] at h
 | n + 1,h=>by
  rw [sm] at h
  by_cases h1:0 < sm f n
  ·obtain ⟨i,hi,h2⟩:=O0X h1;exact ⟨i,by omega,h2⟩
  ·exact ⟨n,by omega,by omega⟩
structure Run (m C g:Nat) (A:Nat→Nat→Int) (neg:Nat→Prop) (N:Nat) (T:Nat→Nat→Nat→Int) (base:Nat→Nat→Nat) (d:Nat→Int) (s r:Nat→Nat):Prop where
 tab:∀ k,k≤N→Tab m C A neg (T k) (base k) (d k)
 sC:∀ k,k < N→s k < C
 rm:∀ k,k < N→r k < m
 ent:∀ k,k < N→T k g (s k) < 0
 low:∀ k,k < N→∀ c,c < s k→0≤T k g c
 piv:∀ k,k < N→0 < T k (r k) (s k)
 min:∀ k,k < N→∀ i,i < m→0 < T k i (s k)→T k (r k) C * T k i (s k) < T k i C * T k (r k) (s k) ∨ (T k (r k) C * T k i (s k)=T k i C * T k (r k) (s k)∧base k (r k)≤base k i)
 nxt:∀ k,k < N→∀ i c,i < m + 2→c≤C→T (k + 1) i c=pv (T k) (r k) (s k) (d k) i c
 nb:∀ k,k < N→∀ i,i < m→base (k + 1) i=if i=r k then s k else base k i
 nd:∀ k,k < N→d (k + 1)=T k (r k) (s k)
section
variable {g N:Nat} {T:Nat→Nat→Nat→Int} {base:Nat→Nat→Nat} {d:Nat→Int} {s r:Nat→Nat}
theorem Run.change (h:Run m C g A neg N T base d s r) {i:Nat} (hi:i < m):∀ (n p:Nat),p + n≤N→base (p + n) i ≠ base p i→∃ k,p≤k∧k < p + n∧r k=i∧base k i=base p i∧base (k + 1) i ≠ base p i
 | 0,p,_,hne=>c1j rfl hne
 | n + 1,p,hN,hne=>by
  by_cases h1:base (p + n) i=base p i
  ·refine ⟨p + n,by omega,by omega,?_,h1,hne⟩
   by_cases h2:i=r (p + n)
   ·exact h2.symm
   ·exfalso;apply hne
    have:=h.nb (p + n) (by omega) i hi
    rw [b1T h2] at this
    rw [show p + (n + 1)=p + n + 1 by omega,this,h1]
  ·obtain ⟨k,a1,a2,a3⟩:=h.change hi n p (by omega) h1
   exact ⟨k,a1,by omega,a3⟩
theorem Run.enters (h:Run m C g A neg N T base d s r) {i:Nat} (hi:i < m):∀ (n p:Nat),p + n≤N→base p i ≠ base (p + n) i→∃ k,p≤k∧k < p + n∧r k=i∧s k=base (p + n) i
 | 0,p,_,hne=>c1j rfl hne
 | n + 1,p,hN,hne=>by
  have h3:=h.nb (p + n) (by omega) i hi
  rw [← show p + (n + 1)=p + n + 1 by omega] at h3
  by_cases h2:i=r (p + n)
  ·rw [b1W h2] at h3
   exact ⟨p + n,by omega,by omega,h2.symm,h3.symm⟩
  ·rw [b1T h2] at h3
   obtain ⟨k,a1,a2,a3,a4⟩:=h.enters hi n p (by omega) (by rw [← h3];exact hne)
   exact ⟨k,a1,by omega,a3,by rw [a4,h3]⟩
theorem Run.real (h:Run m C g A neg N T base d s r) {i:Nat} (hi:i < m):∀ (n p:Nat),p + n≤N→base p i < C→base (p + n) i < C
 | 0,_,_,hb=>hb
 | n + 1,p,hN,hb=>by
  have h1:=h.real hi n p (by omega) hb
  have:=h.nb (p + n) (by omega) i hi
  rw [show p + (n + 1)=p + n + 1 by omega,this]
  split
  ·exact h.sC _ (by omega)
  ·exact h1
theorem Run.grow (h:Run m C g A neg N T base d s r) (hg:g=m ∨ g=m + 1) {k:Nat} (hk:k < N):T k g C * d (k + 1)≤T (k + 1) g C * d k∧(T k g C * d (k + 1)=T (k + 1) g C * d k→T k (r k) C=0):=by
 have h1:=h.nxt k hk g C (by omega) (by omega)
 have h2:=(h.tab k (by omega))
 obtain ⟨b,e,hI,_⟩:=h2.inv
 have h3:=hI.exact (i:=r k) (j:=s k) (k:=g) (c:=C) (by have:=h.rm k hk;omega) (by have:=h.sC k hk;omega) (by have:=h.piv k hk;omega) (by omega) (by omega) (by have:=h.rm k hk;omega)
 rw [← h1] at h3
 have h4:=h.ent k hk
 have h5:=h2.rhs (r k) (h.rm k hk)
 rw [h.nd k hk]
 have h6:T k g (s k) * T k (r k) C≤0:=d1b (by omega) h5
 refine ⟨by rw [Int.mul_comm _ (d k),← h3];omega,fun h7=>?_⟩
 rw [Int.mul_comm _ (d k),← h3] at h7
 have h8:T k g (s k) * T k (r k) C=0:=by omega
 rcases Int.mul_eq_zero.1 h8 with h9 | h9
 ·omega
 ·exact h9
theorem Run.grows (h:Run m C g A neg N T base d s r) (hg:g=m ∨ g=m + 1):∀ (n p:Nat),p + n≤N→T p g C * d (p + n)≤T (p + n) g C * d p
 | 0,p,_=>Int.le_refl _
 | n + 1,p,hN=>by
  have h1:=h.grows hg n p (by omega)
  have h2:=(h.grow hg (k:=p + n) (by omega)).1
  have p1:=(h.tab p (by omega)).pos
  have p2:=(h.tab (p + n) (by omega)).pos
  have p3:=(h.tab (p + n + 1) (by omega)).pos
  rw [show p + (n + 1)=p + n + 1 by omega]
  have h3:=c1P h1 (by omega:0≤d (p + n + 1))
  have h4:=c1P h2 (by omega:0≤d p)
  have h5:(T p g C * d (p + n + 1)) * d (p + n)≤(T (p + n + 1) g C * d p) * d (p + n):=by
   have e1:(T p g C * d (p + n + 1)) * d (p + n)=T p g C * d (p + n) * d (p + n + 1):=by grind
   have e2:(T (p + n + 1) g C * d p) * d (p + n)=T (p + n + 1) g C * d (p + n) * d p:=by grind
   have e3:T (p + n) g C * d p * d (p + n + 1)=T (p + n) g C * d (p + n + 1) * d p:=by grind
   rw [e1,e2];omega
  exact Int.le_of_mul_le_mul_right h5 p2
theorem Run.flat (h:Run m C g A neg N T base d s r) (hg:g=m ∨ g=m + 1) {p q:Nat} (hpq:p < q) (hq:q≤N) (hb:∀ i,i < m→base p i=base q i) {k:Nat} (hk1:p≤k) (hk2:k < q):T k (r k) C=0:=by
 have hp:=h.tab p (by omega)
 have hqt:=h.tab q hq
 have h1:=T0k hp hqt hg (fun i hi h1=>by rw [← hb i hi];exact h1) (c:=C) (by omega)
 rw [e0m (fun i hi=>?_),d1r] at h1
 ·refine (h.grow hg (k:=k) (by omega)).2 ?_
  have a1:=h.grows hg (k - p) p (by omega)
  have a2:=(h.grow hg (k:=k) (by omega)).1
  have a3:=h.grows hg (q - (k + 1)) (k + 1) (by omega)
  rw [show p + (k - p)=k by omega] at a1
  rw [show k + 1 + (q - (k + 1))=q by omega] at a3
  have p1:=hp.pos
  have p2:=hqt.pos
  have p3:=(h.tab k (by omega)).pos
  have p4:=(h.tab (k + 1) (by omega)).pos
  -- a1: Tp dk <= Tk dp ; a3 : Tk1 dq <= Tq dk1 ; h1 : dp Tq = dq Tp
  refine Int.le_antisymm a2 ?_
  have b1:=c1P a3 (by omega:0≤d p)
  have b1:=c1P b1 (by omega:0≤d k)
  have b2:=c1P a1 (by omega:0≤d q)
  have b2:=c1P b2 (by omega:0≤d (k + 1))
  have b3:T (k + 1) g C * d k * (d p * d q)≤T k g C * d (k + 1) * (d p * d q):=by
   have e1:T (k + 1) g C * d k * (d p * d q)=T (k + 1) g C * d q * d p * d k:=by grind
   have e2:T k g C * d (k + 1) * (d p * d q)=T k g C * d p * d q * d (k + 1):=by grind
   have e3:T q g C * d (k + 1) * d p * d k=T p g C * d k * d q * d (k + 1):=by
    have:T q g C * d (k + 1) * d p * d k=(d p * T q g C) * (d (k + 1) * d k):=by grind
    rw [this,h1];grind
   rw [e1,e2];omega
  exact Int.le_of_mul_le_mul_right b3 (Int.mul_pos p1 p2)
 ·split
  ·rename_i h2
   have h3:=hqt.col (k:=g) (i:=i) (by omega) hi (by rw [← hb i hi];exact h2)
   rw [b1T (by omega)] at h3
   rw [hb i hi,h3];simp
  ·rfl
theorem Run.rhs0 (h:Run m C g A neg N T base d s r) {k i:Nat} (hk:k < N) (hi:i < m) (h0:T k (r k) C=0):T k i C=0 ↔ T (k + 1) i C=0:=by
 have h1:=h.nxt k hk i C (by omega) (by omega)
 have h2:=(h.tab k (by omega))
 by_cases hr:i=r k
 ·subst hr;rw [h1];unfold pv;rw [b1W rfl]
 ·obtain ⟨b,e,hI,_⟩:=h2.inv
  have h3:=hI.exact (i:=r k) (j:=s k) (k:=i) (c:=C) (by have:=h.rm k hk;omega) (by have:=h.sC k hk;omega) (by have:=h.piv k hk;omega) (by omega) (by omega) hr
  rw [← h1,h0,d1T,Int.sub_zero] at h3
  have p1:=h.piv k hk
  have p2:=h2.pos
  constructor
  ·intro h4;rw [h4,Int.zero_mul] at h3
   rcases Int.mul_eq_zero.1 h3.symm with h5 | h5
   ·omega
   ·exact h5
  ·intro h4;rw [h4,d1T] at h3
   rcases Int.mul_eq_zero.1 h3 with h5 | h5
   ·exact h5
   ·omega
theorem Run.rhs00 (h:Run m C g A neg N T base d s r) {i p:Nat} (hi:i < m):∀ n:Nat,p + n≤N→(∀ k,p≤k→k < p + n→T k (r k) C=0)→(T p i C=0 ↔ T (p + n) i C=0)
 | 0,_,_=>Iff.rfl
 | n + 1,hN,h0=>(h.rhs00 hi n (by omega) (fun k h1 h2=>h0 k h1 (by omega))).trans (h.rhs0 (k:=p + n) (by omega) hi (h0 _ (by omega) (by omega)))
theorem a1d (s:Nat→Nat):∀ (n p:Nat),0 < n→∃ k,p≤k∧k < p + n∧∀ l,p≤l→l < p + n→s l≤s k
 | 0,_,h=>by omega
 | n + 1,p,_=>by
  by_cases h0:n=0
  ·subst h0;exact ⟨p,by omega,by omega,fun l h1 h2=>by rw [show l=p by omega];exact b1S _⟩
  ·obtain ⟨k,a1,a2,a3⟩:=a1d s n p (by omega)
   by_cases h1:s (p + n)≤s k
   ·exact ⟨k,a1,by omega,fun l b1 b2=>by
     by_cases h2:l=p + n
     ·rw [h2];exact h1
     ·exact a3 l b1 (by omega)⟩
   ·exact ⟨p + n,by omega,by omega,fun l b1 b2=>by
     by_cases h2:l=p + n
     ·rw [h2];exact b1S _
     ·have:=a3 l b1 (by omega);omega⟩
theorem Run.norep (h:Run m C g A neg N T base d s r) (hg:g=m ∨ g=m + 1) {p q:Nat} (hpq:p < q) (hq:q≤N) (hb:∀ i,i < m→base p i=base q i):False:=by
 have hflat:∀ k,p≤k→k < q→T k (r k) C=0:=fun k h1 h2=>h.flat hg hpq hq hb h1 h2
 -- a row that a pivot r0b has nought at the right throughout
 have hzero:∀ k0 k i,p≤k0→k0 < q→p≤k→k < q→i < m→r k0=i→T k i C=0:=by
  intro k0 k i a1 a2 a3 a4 hi hr
  have e0:T k0 i C=0:=by rw [← hr];exact hflat k0 a1 a2
  have e1:=(h.rhs00 hi (k0 - p) (p:=p) (by omega) (fun l b1 b2=>hflat l b1 (by omega)))
  have e2:=(h.rhs00 hi (k - p) (p:=p) (by omega) (fun l b1 b2=>hflat l b1 (by omega)))
  rw [show p + (k0 - p)=k0 by omega] at e1
  rw [show p + (k - p)=k by omega] at e2
  exact e2.1 (e1.2 e0)
 -- what is made up stays so
 have hart:∀ k l i,p≤k→k≤q→p≤l→l≤q→i < m→¬ base k i < C→¬ base l i < C:=by
  intro k l i a1 a2 a3 a4 hi h1 h2
  have h3:=h.real hi (q - l) l (by omega) h2
  rw [show l + (q - l)=q by omega,← hb i hi] at h3
  have h4:=h.real hi (k - p) p (by omega) h3
  rw [show p + (k - p)=k by omega] at h4
  exact h1 h4
 obtain ⟨ks,s1,s2,s3⟩:=a1d s (q - p) p (by omega)
 have s3':∀ l,p≤l→l < q→s l≤s ks:=fun l a b=>s3 l a (by omega)
 have hS:=h.tab ks (by omega)
 have hne:=h.ent ks (by omega)
 -- the greatest leaves
 have hout:∃ k,p≤k∧k < q∧base k (r k)=s ks:=by
  have hr:=h.rm ks (by omega)
  have hnb:=h.nb ks (by omega) (r ks) hr
  rw [b1W rfl] at hnb
  by_cases hc:base q (r ks)=s ks
  ·rw [← hb _ hr] at hc
   have hno:base ks (r ks) ≠ s ks:=by
    intro h1
    have:=hS.col (k:=g) (i:=r ks) (by omega) hr (by rw [h1];exact h.sC ks (by omega))
    rw [h1,b1T (by omega)] at this;omega
   obtain ⟨k,b1,b2,b3,b4,_⟩:=h.change hr (ks - p) p (by omega) (by rw [show p + (ks - p)=ks by omega,hc];exact hno)
   exact ⟨k,b1,by omega,by rw [b3,b4,hc]⟩
  ·obtain ⟨k,b1,b2,b3,b4,_⟩:=h.change hr (q - (ks + 1)) (ks + 1) (by omega) (by rw [show ks + 1 + (q - (ks + 1))=q by omega,hnb];exact hc)
   exact ⟨k,by omega,by omega,by rw [b3,b4,hnb]⟩
 obtain ⟨k,k1,k2,k3⟩:=hout
 have hD:=h.tab k (by omega)
 have hrk:=h.rm k (by omega)
 have hsC:=h.sC ks (by omega)
 have hst:s k ≠ s ks:=by
  intro h1
  have:=hD.col (k:=g) (i:=r k) (by omega) hrk (by rw [k3];exact hsC)
  rw [k3,← h1,b1T (by omega)] at this
  have:=h.ent k (by omega);omega
 have hslt:s k < s ks:=by have:=s3' k k1 k2;omega
 have hlow:=h.low ks (by omega)
 have h1:=T0k hD hS hg (fun i hi h1=>hart k ks i k1 (by omega) s1 (by omega) hi h1) (c:=s k) (by have:=h.sC k (by omega);omega)
 have h2:0 < sm (fun i=>if base k i < C then T k i (s k) * T ks g (base k i) else 0) m:=by
  have a1:=e1N (by have:=hD.pos;omega:0≤d k) (hlow (s k) hslt)
  have a2:=d1O hS.pos (h.ent k (by omega))
  omega
 obtain ⟨i,hi,h3⟩:=O0X h2
 split at h3
 case isFalse=>omega
 rename_i hreal
 have hnz:T ks g (base k i) ≠ 0:=by intro h4;rw [h4] at h3;omega
 have hnot:base ks i ≠ base k i:=by
  intro h4
  apply hnz
  rw [← h4,hS.col (k:=g) (i:=i) (by omega) hi (by rw [h4];exact hreal),b1T (by omega)]
 -- it comes in somewhere, and its row is met
 have hin:∃ l,p≤l∧l < q∧r l=i∧s l=base k i:=by
  by_cases hlt:ks < k
  ·obtain ⟨l,b1,b2,b3,b4⟩:=h.enters hi (k - ks) ks (by omega) (by rw [show ks + (k - ks)=k by omega];exact hnot)
   rw [show ks + (k - ks)=k by omega] at b4
   exact ⟨l,by omega,by omega,b3,b4⟩
  ·by_cases hpe:base p i=base k i
   ·have hqe:base q i=base k i:=by rw [← hb i hi];exact hpe
    obtain ⟨l,b1,b2,b3,b4⟩:=h.enters hi (q - ks) ks (by omega) (by rw [show ks + (q - ks)=q by omega,hqe];exact hnot)
    rw [show ks + (q - ks)=q by omega,hqe] at b4
    exact ⟨l,by omega,by omega,b3,b4⟩
   ·obtain ⟨l,b1,b2,b3,b4⟩:=h.enters hi (k - p) p (by omega) (by rw [show p + (k - p)=k by omega];exact hpe)
    rw [show p + (k - p)=k by omega] at b4
    exact ⟨l,by omega,by omega,b3,b4⟩
 obtain ⟨l,l1,l2,l3,l4⟩:=hin
 have hle:base k i≤s ks:=by rw [← l4];exact s3' l l1 l2
 have hnt:base k i ≠ s ks:=by
  intro h4
  have:i=r k:=hD.inj hi hrk hreal (by rw [h4,k3])
  have h5:=h.piv k (by omega)
  rw [this,k3] at h3
  have:=d1O h5 hne
  omega
 have hge:=hlow (base k i) (by omega)
 have hpos:0 < T k i (s k):=by
  rcases Int.lt_trichotomy 0 (T k i (s k)) with h4 | h4 | h4
  ·exact h4
  ·rw [← h4] at h3;omega
  ·have:=d1b (by omega:T k i (s k)≤0) hge;omega
 have hz1:=hzero l k i l1 l2 k1 k2 hi l3
 have hz2:=hflat k k1 k2
 rcases h.min k (by omega) i hi hpos with h4 | ⟨_,h4⟩
 ·rw [hz1,hz2] at h4;omega
 ·rw [k3] at h4;omega
end
theorem K0a:∀ (K:Nat) (f:Nat→Nat),(∀ k,k≤K→f k < K)→∃ p q,p < q∧q≤K∧f p=f q
 | 0,f,h=>c1j (h 0 (b1S _)) (by omega)
 | K + 1,f,h=>by
  by_cases h1:∃ k,k≤K∧f k=f (K + 1)
  ·obtain ⟨k,hk,he⟩:=h1;exact ⟨k,K + 1,by omega,b1S _,he⟩
  ·have hne:∀ k,k≤K→f k ≠ f (K + 1):=fun k hk he=>h1 ⟨k,hk,he⟩
   have hv:=h (K + 1) (b1S _)
   obtain ⟨p,q,a1,a2,a3⟩:=K0a K (fun k=>if f k=K then f (K + 1) else f k) (fun k hk=>by
    have:=h k (by omega);have:=hne k hk
    split <;> omega)
   refine ⟨p,q,a1,by omega,?_⟩
   have:=hne p (by omega);have:=hne q (by omega)
   split at a3 <;> split at a3 <;> omega
def enc (B:Nat) (f:Nat→Nat):Nat→Nat
 | 0=>0
 | n + 1=>f n + B * enc B f n
theorem J0L {B:Nat} {f:Nat→Nat}:∀ {n:Nat},(∀ i,i < n→f i < B)→enc B f n < B ^ n
 | 0,_=>by simp [enc]
 | n + 1,h=>by
  have h1:=J0L (n:=n) (fun i hi=>h i (by omega))
  have h2:=h n (by omega)
  rw [enc,c1E,c1q]
  have:B * (enc B f n + 1)≤B * B ^ n:=c1v B h1
  rw [c1n] at this
  rw [c1q (enc B f n) B,c1q (B ^ n) B];omega
theorem y0A {B:Nat} {f h:Nat→Nat}:∀ {n:Nat},(∀ i,i < n→f i < B)→(∀ i,i < n→h i < B)→enc B f n=enc B h n→∀ i,i < n→f i=h i
 | 0,_,_,_=>fun i hi=>by omega
 | n + 1,hf,hh,e=>fun i hi=>by
  rw [enc,enc] at e
  have a1:=hf n (by omega)
  have a2:=hh n (by omega)
  have e1:f n=h n:=by
   have:=e1K (· % B) e
   simp only [Nat.add_mul_mod_self_left,c1x a1,c1x a2] at this
   exact this
  by_cases hin:i=n
  ·rw [hin];exact e1
  ·rw [e1] at e
   exact y0A (n:=n) (fun i hi=>hf i (by omega)) (fun i hi=>hh i (by omega)) (Nat.eq_of_mul_eq_mul_left (by omega:0 < B) (Nat.add_left_cancel e)) i (by omega)
theorem Run.short {g N:Nat} {T:Nat→Nat→Nat→Int} {base:Nat→Nat→Nat} {d:Nat→Int} {s r:Nat→Nat} (h:Run m C g A neg N T base d s r) (hg:g=m ∨ g=m + 1):N < (C + m) ^ m:=by
 by_cases hN:N < (C + m) ^ m
 ·exact hN
 ·exfalso
  obtain ⟨p,q,h1,h2,h3⟩:=K0a ((C + m) ^ m) (fun k=>enc (C + m) (base k) m) (fun k hk=>J0L fun i hi=>(h.tab k (by omega)).base_lt hi)
  exact h.norep hg h1 (by omega) (y0A (fun i hi=>(h.tab p (by omega)).base_lt hi) (fun i hi=>(h.tab q (by omega)).base_lt hi) h3)
end Go.Proofs.YtilekhkgobmolaaGreat.SX
namespace Go.Proofs.YtilekhkgobmolaaGreat.SX
variable {M m C:Nat} {A:Nat→Nat→Int} {neg:Nat→Prop} {T T':Nat→Nat→Int} {base base':Nat→Nat} {d d':Int}
theorem Inv.congr {b:Nat→Nat→Int} {e:Int} (h:Inv M C A T b d e) (hT:∀ i c,i < M→c≤C→T' i c=T i c):Inv M C A T' b d e :=
 { h with col:=fun c hc r hr=>by rw [h.col c hc r hr];exact b0g fun i hi=>by rw [hT i c hi hc] }
theorem Tab.congr (h:Tab m C A neg T base d) (hT:∀ i c,i < m + 2→c≤C→T' i c=T i c) (hb:∀ i,i < m→base' i=base i) (hd:d' = d):Tab m C A neg T' base' d':=by
 subst hd
 obtain ⟨b,e,h1,h2,h3⟩:=h.inv
 exact ⟨⟨b,e,h1.congr hT,fun i hi=>by rw [hb i hi];exact h2 i hi,h3⟩,fun i hi=>by rw [hT i C (by omega) (by omega)];exact h.rhs i hi⟩
theorem Tab.pivot (h:Tab m C A neg T base d) {i j:Nat} (hi:i < m) (hj:j < C) (hp:0 < T i j) (hr:∀ k,k < m→0 < T k j→T i C * T k j≤T k C * T i j) :
  Tab m C A neg (pv T i j d) (up base i j) (T i j):=by
 obtain ⟨b,e,h1,h2,h3,h4⟩:=h.inv
 refine ⟨⟨up b i (A j),e,h1.pivot (by omega) (by omega) hp,fun k hk=>?_,by rw [e0n (by omega)];exact h3,by rw [e0n (by omega)];exact h4⟩,fun k hk=>?_⟩
 ·by_cases hki:k=i
  ·subst hki;exact .inl ⟨by rw [b0h];exact hj,fun r _=>by rw [b0h,b0h]⟩
  ·rw [e0n hki,e0n hki];exact h2 k hk
 ·by_cases hki:k=i
  ·subst hki;unfold pv;rw [b1W rfl];exact h.rhs k hk
  ·have h5:=h1.exact (i:=i) (j:=j) (k:=k) (c:=C) (by omega) (by omega) (by omega) (by omega) (b1S _) hki
   have h6:=h.rhs k hk
   have h7:=h.rhs i hi
   have h8:0≤T k C * T i j - T k j * T i C:=by
    by_cases hpos:0 < T k j
    ·have:=hr k hk hpos
     have e1:T k j * T i C=T i C * T k j:=Int.mul_comm _ _
     omega
    ·have a1:=e1N h6 (by omega:0≤T i j)
     have a2:=d1b (by omega:T k j≤0) h7
     omega
   rw [h5] at h8
   have:=h1.pos
   by_cases h9:0≤pv T i j d k C
   ·exact h9
   ·have:=d1O this (by omega:pv T i j d k C < 0);omega
theorem Tab.exact (h:Tab m C A neg T base d) {i j:Nat} (hi:i < m) (hj:j≤C) (hp:T i j ≠ 0) {k c:Nat} (hk:k < m + 2) (hc:c≤C) (hki:k ≠ i):T k c * T i j - T k j * T i c=d * pv T i j d k c:=by
 obtain ⟨b,e,h1,_⟩:=h.inv
 exact h1.exact (by omega) hj hp hk hc hki
theorem Tab.swap (h:Tab m C A neg T base d) {i j:Nat} (hi:i < m) (hj:j < C) (hp:0 < T i j) (h0:T i C=0):Tab m C A neg (pv T i j d) (up base i j) (T i j) :=
 h.pivot hi hj hp fun k hk _=>by
  rw [h0,Int.zero_mul]
  exact e1N (h.rhs k hk) (by omega)
theorem Tab.swapN (h:Tab m C A neg T base d) {i j:Nat} (hi:i < m) (hj:j < C) (hp:T i j < 0) (h0:T i C=0) :
  Tab m C A neg (pv (ng T i) i j d) (up base i j) (-T i j)∧∀ k c,k < m + 2→c≤C→k ≠ i→ng T i k c * ng T i i j - ng T i k j * ng T i i c=d * pv (ng T i) i j d k c:=by
 obtain ⟨b,e,h1,h2,h3,h4⟩:=h.inv
 have h1':=h1.turn (i:=i) (by omega)
 have hn:ng T i i j = -T i j:=by unfold ng;rw [b1W rfl]
 have hex:∀ k c,k < m + 2→c≤C→k ≠ i→ng T i k c * ng T i i j - ng T i k j * ng T i i c=d * pv (ng T i) i j d k c :=
  fun k c hk hc hki=>h1'.exact (by omega) (by omega) (by omega) hk hc hki
 have h5:=h1'.pivot (i:=i) (j:=j) (by omega) (by omega) (by omega)
 rw [hn] at h5
 refine ⟨⟨⟨up (up b i (fun r=>-b i r)) i (A j),-e,h5,fun k hk=>?_,?_,?_⟩,fun k hk=>?_⟩,hex⟩
 ·by_cases hki:k=i
  ·subst hki;exact .inl ⟨by rw [b0h];exact hj,fun r _=>by rw [b0h,b0h]⟩
  ·rw [e0n hki,e0n hki,e0n hki];exact h2 k hk
 ·rw [e0n (by omega),e0n (by omega)];exact h3
 ·rw [e0n (by omega),e0n (by omega)];exact h4
 ·by_cases hki:k=i
  ·subst hki;unfold pv;rw [b1W rfl];unfold ng;rw [b1W rfl,h0];omega
  ·have h6:=hex k C (by omega) (b1S _) hki
   have e1:ng T i i C=0:=by unfold ng;rw [b1W rfl,h0];rfl
   have e2:ng T i k C=T k C:=by unfold ng;rw [b1T hki]
   rw [e1,d1T,Int.sub_zero,e2,hn] at h6
   have h8:=e1N (h.rhs k hk) (by omega:0≤-T i j)
   rw [h6] at h8
   have:=h1.pos
   by_cases h9:0≤pv (ng T i) i j d k C
   ·exact h9
   ·have:=d1O this (by omega:pv (ng T i) i j d k C < 0);omega
def u0c (T:Nat→Nat→Int) (base:Nat→Nat) (C j n o:Nat):Prop :=
 o < n∧0 < T o j∧∀ i,i < n→0 < T i j→T o C * T i j < T i C * T o j ∨ (T o C * T i j=T i C * T o j∧base o≤base i)
variable {j n o:Nat}
theorem u0c.one (h:0 < T n j) (h0:∀ i,i < n→T i j≤0):u0c T base C j (n + 1) n :=
 ⟨by omega,h,fun i hi hp=>by
  have:i=n:=by
   by_cases h1:i < n
   ·have:=h0 i h1;omega
   ·omega
  subst this;exact .inr ⟨rfl,b1S _⟩⟩
theorem u0c.skip (h:u0c T base C j n o) (h0:T n j≤0):u0c T base C j (n + 1) o :=
 ⟨by have:=h.1;omega,h.2.1,fun i hi hp=>by
  by_cases h1:i < n
  ·exact h.2.2 i h1 hp
  ·have:i=n:=by omega
   subst this;omega⟩
theorem u0c.keep (h:u0c T base C j n o) (h0:T o C * T n j < T n C * T o j ∨ (T o C * T n j=T n C * T o j∧base o≤base n)):u0c T base C j (n + 1) o :=
 ⟨by have:=h.1;omega,h.2.1,fun i hi hp=>by
  by_cases h1:i < n
  ·exact h.2.2 i h1 hp
  ·have:i=n:=by omega
   subst this;exact h0⟩
theorem u0c.take (h:u0c T base C j n o) (hp:0 < T n j) (h0:T n C * T o j < T o C * T n j ∨ (T n C * T o j=T o C * T n j∧base n < base o)):u0c T base C j (n + 1) n :=
 ⟨by omega,hp,fun i hi hpi=>by
  by_cases h1:i < n
  ·have h2:=h.2.2 i h1 hpi
   have ho:=h.2.1
   -- a: Tn/ ..
   generalize T n C=nC at *
   generalize T n j=nj at *
   generalize T o C=oC at *
   generalize T o j=oj at *
   generalize T i C=iC at *
   generalize T i j=ij at *
   have key:(nC * ij) * oj=(nC * oj) * ij:=by grind
   have key2:(iC * nj) * oj=(iC * oj) * nj:=by grind
   have key3:(oC * nj) * ij=(oC * ij) * nj:=by grind
   rcases h0 with h0 | ⟨h0,hb⟩
   ·left
    have a1:(nC * oj) * ij < (oC * nj) * ij:=Int.mul_lt_mul_of_pos_right h0 hpi
    have a2:(oC * ij) * nj≤(iC * oj) * nj:=c1P (by rcases h2 with h2 | h2 <;> omega) (by omega)
    exact Int.lt_of_mul_lt_mul_right (a:=oj) (by omega) (by omega)
   ·have a1:(nC * oj) * ij=(oC * nj) * ij:=by rw [h0]
    rcases h2 with h2 | ⟨h2,hb2⟩
    ·left
     have a2:(oC * ij) * nj < (iC * oj) * nj:=Int.mul_lt_mul_of_pos_right h2 hp
     exact Int.lt_of_mul_lt_mul_right (a:=oj) (by omega) (by omega)
    ·right
     have a2:(oC * ij) * nj=(iC * oj) * nj:=by rw [h2]
     refine ⟨?_,by omega⟩
     have:(nC * ij) * oj=(iC * nj) * oj:=by omega
     exact Int.eq_of_mul_eq_mul_right (by omega) this
  ·have:i=n:=by omega
   subst this;exact .inr ⟨rfl,b1S _⟩⟩
theorem Run.zero {g:Nat} (h:Tab m C A neg T base d):Run m C g A neg 0 (fun _=>T) (fun _=>base) (fun _=>d) (fun _=>0) (fun _=>0) where
 tab:=fun _ _=>h
 sC:=fun k hk=>by omega
 rm:=fun k hk=>by omega
 ent:=fun k hk=>by omega
 low:=fun k hk=>by omega
 piv:=fun k hk=>by omega
 min:=fun k hk=>by omega
 nxt:=fun k hk=>by omega
 nb:=fun k hk=>by omega
 nd:=fun k hk=>by omega
def Reach (m C g:Nat) (A:Nat→Nat→Int) (neg:Nat→Prop) (N:Nat) (T:Nat→Nat→Int) (base:Nat→Nat) (d:Int):Prop :=
 ∃ Ts bs ds s r,Run m C g A neg N Ts bs ds s r∧(∀ i c,i < m + 2→c≤C→T i c=Ts N i c)∧(∀ i,i < m→base i=bs N i)∧d=ds N
theorem Reach.zero {g:Nat} (h:Tab m C A neg T base d):Reach m C g A neg 0 T base d:=⟨_,_,_,_,_,Run.zero h,fun _ _ _ _=>rfl,fun _ _=>rfl,rfl⟩
theorem Reach.tab {g N:Nat} (h:Reach m C g A neg N T base d):Tab m C A neg T base d:=by
 obtain ⟨Ts,bs,ds,s,r,h1,h2,h3,h4⟩:=h
 exact (h1.tab N (b1S _)).congr h2 h3 h4
theorem Reach.short {g N:Nat} (hg:g=m ∨ g=m + 1) (h:Reach m C g A neg N T base d):N < (C + m) ^ m:=by
 obtain ⟨Ts,bs,ds,s,r,h1,_⟩:=h;exact h1.short hg
theorem Reach.step {g N i:Nat} (hg:g=m ∨ g=m + 1) (h:Reach m C g A neg N T base d) (hj:j < C) (he:T g j < 0) (hl:∀ c,c < j→0≤T g c) (hB:u0c T base C j m i)
  (hT:∀ k c,k < m + 2→c≤C→T' k c=pv T i j d k c) (hb:∀ k,k < m→base' k=if k=i then j else base k) (hd:d' = T i j):Reach m C g A neg (N + 1) T' base' d':=by
 have hTab:=h.tab
 obtain ⟨Ts,bs,ds,s,r,h1,h2,h3,h4⟩:=h
 obtain ⟨hi,hp,hmin⟩:=hB
 have hC:C≤C:=b1S _
 have hnew:Tab m C A neg T' base' d':=(hTab.pivot hi hj hp fun k hk hp=>by rcases hmin k hk hp with a | a <;> omega).congr hT (fun k hk=>by rw [hb k hk];rfl) hd
 refine ⟨up Ts (N + 1) T',up bs (N + 1) base',up ds (N + 1) d',up s N j,up r N i,?_,fun i c _ _=>by rw [b0h],fun i _=>by rw [b0h],by rw [b0h]⟩
 have u:∀ {α:Type} (f:Nat→α) (x:α) {k:Nat},k≤N→up f (N + 1) x k=f k:=fun f x k hk=>e0n (by omega)
 have v:∀ {α:Type} (f:Nat→α) (x:α) {k:Nat},k < N→up f N x k=f k:=fun f x k hk=>e0n (by omega)
 constructor
 ·intro k hk
  by_cases hkN:k=N + 1
  ·subst hkN;rw [b0h,b0h,b0h];exact hnew
  ·rw [u _ _ (by omega),u _ _ (by omega),u _ _ (by omega)];exact h1.tab k (by omega)
 ·intro k hk
  by_cases hkN:k=N
  ·subst hkN;rw [b0h];exact hj
  ·rw [v _ _ (by omega)];exact h1.sC k (by omega)
 ·intro k hk
  by_cases hkN:k=N
  ·subst hkN;rw [b0h];exact hi
  ·rw [v _ _ (by omega)];exact h1.rm k (by omega)
 ·intro k hk
  rw [u _ _ (by omega)]
  by_cases hkN:k=N
  ·subst hkN;rw [b0h,← h2 g j (by omega) (by omega)];exact he
  ·rw [v _ _ (by omega)];exact h1.ent k (by omega)
 ·intro k hk c hc
  rw [u _ _ (by omega)]
  by_cases hkN:k=N
  ·subst hkN;rw [b0h] at hc;rw [← h2 g c (by omega) (by omega)];exact hl c hc
  ·rw [v _ _ (by omega)] at hc;exact h1.low k (by omega) c hc
 ·intro k hk
  rw [u _ _ (by omega)]
  by_cases hkN:k=N
  ·subst hkN;rw [b0h,b0h,← h2 i j (by omega) (by omega)];exact hp
  ·rw [v _ _ (by omega),v _ _ (by omega)];exact h1.piv k (by omega)
 ·intro k hk q hq hpos
  rw [u Ts _ (by omega)] at hpos ⊢
  rw [u bs _ (by omega)]
  by_cases hkN:k=N
  ·subst hkN
   rw [b0h] at hpos ⊢
   rw [b0h]
   rw [← h2 q j (by omega) (by omega)] at hpos
   rw [← h2 q j (by omega) (by omega),← h2 i j (by omega) (by omega),← h2 i C (by omega) hC,← h2 q C (by omega) hC,← h3 i hi,← h3 q hq]
   exact hmin q hq hpos
  ·rw [v s _ (by omega)] at hpos ⊢
   rw [v r _ (by omega)]
   exact h1.min k (by omega) q hq hpos
 ·intro k hk q c hq hc
  by_cases hkN:k=N
  ·subst hkN
   rw [b0h,b0h,b0h,u _ _ (b1S _),u _ _ (b1S _),hT q c hq hc]
   unfold pv
   rw [h2 q c hq hc,h2 q j hq (by omega),h2 i c (by omega) hc,h2 i j (by omega) (by omega),h4]
  ·rw [u Ts _ (by omega),u Ts _ (by omega),u ds _ (by omega),v _ _ (by omega),v _ _ (by omega)];exact h1.nxt k (by omega) q c hq hc
 ·intro k hk q hq
  by_cases hkN:k=N
  ·subst hkN
   rw [b0h,b0h,b0h,u _ _ (b1S _),hb q hq,h3 q hq]
  ·rw [u bs _ (by omega),u bs _ (by omega),v _ _ (by omega),v _ _ (by omega)];exact h1.nb k (by omega) q hq
 ·intro k hk
  by_cases hkN:k=N
  ·subst hkN
   rw [b0h,b0h,b0h,u _ _ (b1S _),hd,h2 i j (by omega) (by omega)]
  ·rw [u ds _ (by omega),u Ts _ (by omega),v _ _ (by omega),v _ _ (by omega)];exact h1.nd k (by omega)
theorem Tab.bound (h:Tab m C A neg T base d) {B:Nat} (hB:1≤B) (hA:∀ c r,c≤C→r < m + 2→(A c r).natAbs≤B):(∀ k c,k < m + 2→c≤C→(T k c).natAbs≤fac (m + 2) * B ^ (m + 2))∧d.natAbs≤fac (m + 2) * B ^ (m + 2):=by
 obtain ⟨b,e,h1,h2,h3,h4⟩:=h.inv
 have hu:∀ i r,(i0T i r).natAbs≤B:=fun i r=>by unfold i0T;split <;> simp <;> omega
 have hb:∀ i r,i < m + 2→r < m + 2→(b i r).natAbs≤B:=by
  intro i r hi hr
  by_cases hm:i < m
  ·rcases h2 i hm with ⟨k1,k2⟩ | ⟨_,_,k2⟩
   ·rw [k2 r hr];exact hA _ r (by omega) hr
   ·rw [k2 r];exact hu i r
  ·by_cases hm2:i=m
   ·rw [hm2,h3 r];exact hu m r
   ·rw [show i=m + 1 by omega,h4 r];exact hu _ r
 exact ⟨fun k c hk hc=>h1.bound hb hA hk hc,h1.bound_d hb⟩
end Go.Proofs.YtilekhkgobmolaaGreat.SX
namespace Go.Proofs.YtilekhkgobmolaaGreat.SX
def e0a (n m:Nat) (a:Nat→Nat→Int) (bb:Nat→Int) (r c:Nat):Int :=
 if c < n then a r c else if c < 2 * n then -a r (c - n) else if c < 2 * n + m then (if c - 2 * n=r then 1 else 0) else bb r
def sg (bb:Nat→Int) (r:Nat):Int:=if bb r < 0 then -1 else 1
def cost (n:Nat) (cc:Nat→Int) (c:Nat):Int:=if c < n then cc c else if c < 2 * n then -cc (c - n) else 0
def h0s (n m:Nat) (a:Nat→Nat→Int) (bb cc:Nat→Int) (c r:Nat):Int :=
 if r < m then sg bb r * e0a n m a bb r c else if r=m then -sm (fun i=>if bb i < 0 then sg bb i * e0a n m a bb i c else 0) m else -cost n cc c
def j0Z (n m:Nat) (bb:Nat→Int) (i:Nat):Nat:=if bb i < 0 then 2 * n + m + i else 2 * n + i
variable {n m:Nat} {a:Nat→Nat→Int} {bb cc:Nat→Int} {T:Nat→Nat→Int} {base:Nat→Nat} {d:Int}
theorem e0t {c r:Nat} (h:r < m):h0s n m a bb cc c r=sg bb r * e0a n m a bb r c:=by unfold h0s;rw [b1W h]
theorem g0v {c:Nat}:h0s n m a bb cc c m = -sm (fun i=>if bb i < 0 then sg bb i * e0a n m a bb i c else 0) m:=by unfold h0s;rw [b1T (by omega),b1W rfl]
theorem e0y {c:Nat}:h0s n m a bb cc c (m + 1) = -cost n cc c:=by unfold h0s;rw [b1T (by omega),b1T (by omega)]
theorem c0u {r k:Nat} (h:k < m):e0a n m a bb r (2 * n + k)=if k=r then 1 else 0:=by
 unfold e0a;rw [b1T (by omega),b1T (by omega),b1W (by omega),show 2 * n + k - 2 * n=k by omega]
theorem f0r {r:Nat}:e0a n m a bb r (2 * n + m)=bb r:=by unfold e0a;rw [b1T (by omega),b1T (by omega),b1T (by omega)]
theorem d0U {c:Nat} (h:2 * n≤c):cost n cc c=0:=by unfold cost;rw [b1T (by omega),b1T (by omega)]
theorem y0Y:Tab m (2 * n + m) (h0s n m a bb cc) (fun i=>bb i < 0) (fun i c=>h0s n m a bb cc c i) (j0Z n m bb) 1:=by
 refine ⟨⟨i0T,1,Inv.first,fun i hi=>?_,fun _=>rfl,fun _=>rfl⟩,fun i hi=>?_⟩
 ·unfold j0Z
  by_cases hb:bb i < 0
  ·rw [b1W hb];exact .inr ⟨rfl,hb,fun _=>rfl⟩
  ·rw [b1T hb]
   refine .inl ⟨by omega,fun r hr=>?_⟩
   by_cases h1:r < m
   ·rw [e0t h1,c0u hi]
    by_cases h2:i=r
    ·subst h2;unfold i0T sg;simp [hb]
    ·unfold i0T;rw [b1T (d1B h2),b1T h2];simp
   ·by_cases h2:r=m
    ·subst h2
     rw [g0v,e0m]
     ·unfold i0T;rw [b1T (by omega)];rfl
     ·intro k hk
      split
      ·rename_i h3
       rw [c0u hi,b1T (by rintro rfl;exact hb h3)];simp
      ·rfl
    ·rw [show r=m + 1 by omega,e0y,d0U (by omega)]
     unfold i0T;rw [b1T (by omega)];rfl
 ·show 0≤h0s n m a bb cc (2 * n + m) i
  rw [e0t hi,f0r]
  unfold sg;split <;> omega
theorem Tab.rows (h:Tab m (2 * n + m) (h0s n m a bb cc) (fun i=>bb i < 0) T base d) {k c:Nat} (hk:k < m + 2) (hc:c≤2 * n + m) :
  T k c=sm (fun i=>T k (2 * n + i) * e0a n m a bb i c) m - (if k=m + 1 then d * cost n cc c else 0):=by
 obtain ⟨b,e,hI,_,_,hg⟩:=h.inv
 rw [← hI.entry hk hc]
 have h1:co (m + 2) b e k (h0s n m a bb cc c)=co (m + 2) b e k (fun r=>1 * sm (fun i=>e0a n m a bb i c * h0s n m a bb cc (2 * n + i) r) m + (-cost n cc c) * b (m + 1) r):=by
  refine e0N fun r hr=>?_
  rw [hg r]
  by_cases h1:r < m
  ·rw [e0t h1,g0b h1]
   ·rw [e0t h1,c0u h1,b1W rfl];unfold i0T;rw [b1T (by omega)];grind
   ·intro i hi hne
    rw [e0t h1,c0u hi,b1T hne];simp
  ·by_cases h2:r=m
   ·subst h2
    rw [g0v]
    have e2:sm (fun i=>e0a n r a bb i c * h0s n r a bb cc (2 * n + i) r) r=sm (fun i=>-1 * if bb i < 0 then sg bb i * e0a n r a bb i c else 0) r:=by
     refine b0g fun i hi=>?_
     rw [g0v]
     by_cases h3:bb i < 0
     ·rw [b1W h3,g0b hi]
      ·rw [b1W h3,c0u hi,b1W rfl];grind
      ·intro j hj hne
       rw [c0u hi,b1T (d1B hne)];simp
     ·rw [b1T h3,e0m]
      ·simp
      ·intro j hj
       by_cases h4:j=i
       ·subst h4;rw [b1T h3]
       ·rw [c0u hi,b1T (d1B h4)];simp
    rw [e2,e0G];unfold i0T;rw [b1T (by omega)];grind
   ·have h3:r=m + 1:=by omega
    subst h3
    rw [e0y,e0m]
    ·unfold i0T;rw [b1W rfl];grind
    ·intro i hi;rw [e0y,d0U (by omega)];simp
 rw [h1,J0I hk,J0J hk,hI.basis hk (by omega)]
 have h2:sm (fun i=>e0a n m a bb i c * co (m + 2) b e k (h0s n m a bb cc (2 * n + i))) m=sm (fun i=>T k (2 * n + i) * e0a n m a bb i c) m :=
  b0g fun i hi=>by rw [hI.entry hk (by omega)];grind
 rw [h2]
 by_cases hkm:k=m + 1
 ·rw [b1W hkm,b1W hkm];grind
 ·rw [b1T hkm,b1T hkm];grind
theorem Tab.lack (h:Tab m (2 * n + m) (h0s n m a bb cc) (fun i=>bb i < 0) T base d) {c:Nat} (hc:c≤2 * n + m):T m c = -sm (fun i=>if base i < 2 * n + m then 0 else T i c) m:=by
 obtain ⟨b,e,hI,hb,hm,hg⟩:=h.inv
 -- the functional: the number in the row of what is lacking, and those of rows with a right side below nought
 let psi:(Nat→Int)→Int:=fun v=>v m + sm (fun i=>if bb i < 0 then v i else 0) m
 have psiA:∀ c,psi (h0s n m a bb cc c)=0:=fun c=>by
  simp only [psi,g0v]
  have:sm (fun i=>if bb i < 0 then h0s n m a bb cc c i else 0) m=sm (fun i=>if bb i < 0 then sg bb i * e0a n m a bb i c else 0) m:=b0g fun i hi=>by
   split
   ·rw [e0t hi]
   ·rfl
  rw [this];omega
 have psi_sum:∀ (t:Nat→Int) (x:Nat→Nat→Int) (N:Nat),psi (fun r=>sm (fun i=>t i * x i r) N)=sm (fun i=>t i * psi (x i)) N:=by
  intro t x N
  induction N with
  | zero=>simp only [psi,sm];rw [e0m (fun i _=>by split <;> rfl)];rfl
  | succ N ih =>
   simp only [sm]
   rw [← ih]
   simp only [psi]
   have:sm (fun i=>if bb i < 0 then sm (fun k=>t k * x k i) N + t N * x N i else 0) m=sm (fun i=>if bb i < 0 then sm (fun k=>t k * x k i) N else 0) m + t N * sm (fun i=>if bb i < 0 then x N i else 0) m:=by
    rw [← e0G,← r0K]
    exact b0g fun i _=>by split <;> simp
   rw [this];grind
 have h1:psi (fun r=>sm (fun i=>T i c * b i r) (m + 2))=psi (fun r=>d * h0s n m a bb cc c r):=by
  simp only [psi]
  rw [← hI.col c hc m (by omega)]
  congr 1
  exact b0g fun i hi=>by rw [← hI.col c hc i (by omega)]
 have h2:psi (fun r=>d * h0s n m a bb cc c r)=0:=by
  have:=psi_sum (fun _=>d) (fun _=>h0s n m a bb cc c) 1
  simp only [sm,Int.zero_add] at this
  rw [this,psiA];simp
 rw [psi_sum,h2] at h1
 have h3:sm (fun i=>T i c * psi (b i)) (m + 2)=sm (fun i=>T i c * psi (b i)) m + T m c * psi (b m) + T (m + 1) c * psi (b (m + 1)):=rfl
 have e1:psi (b m)=1:=by
  simp only [psi]
  rw [hm,e0m]
  ·unfold i0T;simp
  ·intro i hi;rw [hm];unfold i0T;rw [b1T (show i ≠ m by omega)];simp
 have e2:psi (b (m + 1))=0:=by
  simp only [psi]
  rw [hg,e0m]
  ·unfold i0T;simp
  ·intro i hi;rw [hg];unfold i0T;rw [b1T (show i ≠ m + 1 by omega)];simp
 have e3:sm (fun i=>T i c * psi (b i)) m=sm (fun i=>if base i < 2 * n + m then 0 else T i c) m:=by
  refine b0g fun i hi=>?_
  rcases hb i hi with ⟨k1,k2⟩ | ⟨k1,k2,k3⟩
  ·rw [b1W k1]
   have:psi (b i)=psi (h0s n m a bb cc (base i)):=by
    simp only [psi];rw [k2 m (by omega)];congr 1
    exact b0g fun j hj=>by rw [k2 j (by omega)]
   rw [this,psiA];simp
  ·rw [b1T (by omega)]
   have:psi (b i)=1:=by
    simp only [psi]
    rw [k3,g0b hi]
    ·rw [b1W k2,k3];unfold i0T;rw [b1T (by omega),b1W rfl];rfl
    ·intro j hj hne;rw [k3];unfold i0T;rw [b1T hne];simp
   rw [this];simp
 rw [h3,e1,e2,e3] at h1
 omega
theorem g0R {f:Nat→Int}:∀ {N:Nat},(∀ i,i < N→0≤f i)→0≤sm f N
 | 0,_=>by simp [sm]
 | N + 1,h=>by rw [sm];have:=g0R (fun i hi=>h i (by omega)) (N:=N) (f:=f);have:=h N (by omega);omega
theorem r0L {f:Nat→Int}:∀ {N:Nat},(∀ i,i < N→0≤f i)→sm f N≤0→∀ i,i < N→f i=0
 | 0,_,_=>fun i hi=>by omega
 | N + 1,h,h0=>fun i hi=>by
  rw [sm] at h0
  have h1:=g0R (fun i hi=>h i (by omega)) (N:=N) (f:=f)
  have h2:=h N (by omega)
  by_cases hN:i=N
  ·rw [hN];omega
  ·exact r0L (N:=N) (f:=f) (fun i hi=>h i (by omega)) (by omega) i (by omega)
theorem Tab.full (h:Tab m (2 * n + m) (h0s n m a bb cc) (fun i=>bb i < 0) T base d) (h0:0≤T m (2 * n + m)):∀ i,i < m→¬ base i < 2 * n + m→T i (2 * n + m)=0:=by
 intro i hi hb
 rw [h.lack (b1S _)] at h0
 have:=r0L (f:=fun i=>if base i < 2 * n + m then 0 else T i (2 * n + m)) (fun j hj=>by split;exact Int.le_refl _;exact h.rhs j hj) (by omega) i hi
 rw [b1T hb] at this;exact this
theorem w0Q (h:Tab m (2 * n + m) (h0s n m a bb cc) (fun i=>bb i < 0) T base d) (ho:∀ c,c < 2 * n + m→0≤T m c) :
  (∀ i,i < m→0≤T m (2 * n + i))∧(∀ k,k < n→sm (fun i=>T m (2 * n + i) * a i k) m=0)∧sm (fun i=>T m (2 * n + i) * bb i) m=T m (2 * n + m):=by
 refine ⟨fun i hi=>ho _ (by omega),fun k hk=>?_,?_⟩
 ·have h1:=h.rows (k:=m) (c:=k) (by omega) (by omega)
  have h2:=h.rows (k:=m) (c:=n + k) (by omega) (by omega)
  rw [b1T (by omega),Int.sub_zero] at h1 h2
  have e1:sm (fun i=>T m (2 * n + i) * e0a n m a bb i k) m=sm (fun i=>T m (2 * n + i) * a i k) m:=b0g fun i _=>by unfold e0a;rw [b1W hk]
  have e2:sm (fun i=>T m (2 * n + i) * e0a n m a bb i (n + k)) m = -1 * sm (fun i=>T m (2 * n + i) * a i k) m:=by
   rw [← e0G]
   exact b0g fun i _=>by unfold e0a;rw [b1T (by omega),b1W (by omega),show n + k - n=k by omega];grind
  have:=ho k (by omega)
  have:=ho (n + k) (by omega)
  omega
 ·have h1:=h.rows (k:=m) (c:=2 * n + m) (by omega) (by omega)
  rw [b1T (by omega),Int.sub_zero] at h1
  rw [h1];exact b0g fun i _=>by rw [f0r]
theorem duals (h:Tab m (2 * n + m) (h0s n m a bb cc) (fun i=>bb i < 0) T base d) (ho:∀ c,c < 2 * n + m→0≤T (m + 1) c) :
  (∀ i,i < m→0≤T (m + 1) (2 * n + i))∧(∀ k,k < n→sm (fun i=>T (m + 1) (2 * n + i) * a i k) m=d * cc k)∧sm (fun i=>T (m + 1) (2 * n + i) * bb i) m=T (m + 1) (2 * n + m):=by
 refine ⟨fun i hi=>ho _ (by omega),fun k hk=>?_,?_⟩
 ·have h1:=h.rows (k:=m + 1) (c:=k) (by omega) (by omega)
  have h2:=h.rows (k:=m + 1) (c:=n + k) (by omega) (by omega)
  rw [b1W rfl] at h1 h2
  have e1:sm (fun i=>T (m + 1) (2 * n + i) * e0a n m a bb i k) m=sm (fun i=>T (m + 1) (2 * n + i) * a i k) m:=b0g fun i _=>by unfold e0a;rw [b1W hk]
  have e2:sm (fun i=>T (m + 1) (2 * n + i) * e0a n m a bb i (n + k)) m = -1 * sm (fun i=>T (m + 1) (2 * n + i) * a i k) m:=by
   rw [← e0G]
   exact b0g fun i _=>by unfold e0a;rw [b1T (by omega),b1W (by omega),show n + k - n=k by omega];grind
  have e3:cost n cc k=cc k:=by unfold cost;rw [b1W hk]
  have e4:cost n cc (n + k) = -cc k:=by unfold cost;rw [b1T (by omega),b1W (by omega),show n + k - n=k by omega]
  have:=ho k (by omega)
  have:=ho (n + k) (by omega)
  rw [e3] at h1
  rw [e4,Int.mul_neg] at h2
  omega
 ·have h1:=h.rows (k:=m + 1) (c:=2 * n + m) (by omega) (by omega)
  rw [b1W rfl,d0U (by omega),d1T,Int.sub_zero] at h1
  rw [h1];exact b0g fun i _=>by rw [f0r]
def pt (n m:Nat) (base:Nat→Nat) (F:Nat→Int) (k:Nat):Int:=sm (fun i=>if base i=k then F i else if base i=n + k then -F i else 0) m
theorem G0r {f:Nat→Nat→Int} {M:Nat}:∀ {N:Nat},sm (fun i=>sm (fun j=>f i j) M) N=sm (fun j=>sm (fun i=>f i j) N) M
 | 0=>by simp only [sm];rw [e0m (fun _ _=>rfl)]
 | N + 1=>by simp only [sm];rw [G0r,← r0K]
theorem z0T {F:Nat→Int} {w:Nat→Int} {W:Nat→Int} (hW:∀ c,c < 2 * n→W c=if c < n then w c else -w (c - n)):sm (fun k=>w k * pt n m base F k) n=sm (fun i=>if base i < 2 * n then F i * W (base i) else 0) m:=by
 have h1:sm (fun k=>w k * pt n m base F k) n=sm (fun k=>sm (fun i=>w k * (if base i=k then F i else if base i=n + k then -F i else 0)) m) n :=
  b0g fun k _=>by unfold pt;rw [e0G]
 rw [h1,G0r]
 refine b0g fun i hi=>?_
 by_cases hb:base i < 2 * n
 ·rw [b1W hb,hW _ hb]
  by_cases hb2:base i < n
  ·rw [b1W hb2,g0b hb2]
   ·rw [b1W rfl];grind
   ·intro k hk hne;rw [b1T (d1B hne),b1T (by omega)];simp
  ·rw [b1T hb2,g0b (k:=base i - n) (by omega)]
   ·rw [b1T (by omega),b1W (by omega)];grind
   ·intro k hk hne;rw [b1T (by omega),b1T (by omega)];simp
 ·rw [b1T hb]
  exact e0m fun k hk=>by rw [b1T (by omega),b1T (by omega)];simp
theorem Tab.colrow (h:Tab m (2 * n + m) (h0s n m a bb cc) (fun i=>bb i < 0) T base d) {c:Nat} (hc:c≤2 * n + m) (h0:∀ i,i < m→¬ base i < 2 * n + m→T i c=0) :
  (∀ r,r < m→d * e0a n m a bb r c=sm (fun i=>if base i < 2 * n + m then T i c * e0a n m a bb r (base i) else 0) m) ∧
  d * cost n cc c=sm (fun i=>if base i < 2 * n + m then T i c * cost n cc (base i) else 0) m - T (m + 1) c:=by
 obtain ⟨b,e,hI,hb,hm,hg⟩:=h.inv
 refine ⟨fun r hr=>?_,?_⟩
 ·have h1:=hI.col c hc r (by omega)
  have h3:sm (fun i=>T i c * b i r) (m + 2)=sm (fun i=>T i c * b i r) m + T m c * b m r + T (m + 1) c * b (m + 1) r:=rfl
  rw [h3,hm,hg] at h1
  unfold i0T at h1
  rw [b1T (by omega),b1T (by omega),e0t hr,d1T,d1T,d1r,d1r] at h1
  have e3:sm (fun i=>T i c * b i r) m=sg bb r * sm (fun i=>if base i < 2 * n + m then T i c * e0a n m a bb r (base i) else 0) m:=by
   rw [← e0G]
   refine b0g fun i hi=>?_
   rcases hb i hi with ⟨k1,k2⟩ | ⟨k1,k2,k3⟩
   ·rw [b1W k1,k2 r (by omega),e0t hr];grind
   ·rw [b1T (by omega),h0 i hi (by omega)];simp
  rw [e3] at h1
  have h4:sg bb r * (d * e0a n m a bb r c)=sg bb r * sm (fun i=>if base i < 2 * n + m then T i c * e0a n m a bb r (base i) else 0) m:=by rw [← h1];grind
  refine d1C ?_ h4
  unfold sg;split <;> omega
 ·have h1:=hI.col c hc (m + 1) (by omega)
  have h3:sm (fun i=>T i c * b i (m + 1)) (m + 2)=sm (fun i=>T i c * b i (m + 1)) m + T m c * b m (m + 1) + T (m + 1) c * b (m + 1) (m + 1):=rfl
  rw [h3,hm,hg] at h1
  unfold i0T at h1
  rw [b1T (by omega),b1W rfl,e0y,d1T,Int.mul_one,d1r] at h1
  have e3:sm (fun i=>T i c * b i (m + 1)) m = -1 * sm (fun i=>if base i < 2 * n + m then T i c * cost n cc (base i) else 0) m:=by
   rw [← e0G]
   refine b0g fun i hi=>?_
   rcases hb i hi with ⟨k1,k2⟩ | ⟨k1,k2,k3⟩
   ·rw [b1W k1,k2 (m + 1) (by omega),e0y];grind
   ·rw [b1T (by omega),h0 i hi (by omega)];simp
  rw [e3,Int.mul_neg] at h1
  omega
theorem u0S {r c:Nat} (h:c < 2 * n):e0a n m a bb r c=if c < n then a r c else -a r (c - n):=by
 unfold e0a;by_cases h1:c < n
 ·rw [b1W h1,b1W h1]
 ·rw [b1T h1,b1T h1,b1W h]
theorem u0v {c:Nat} (h:c < 2 * n):cost n cc c=if c < n then cc c else -cc (c - n):=by
 unfold cost;by_cases h1:c < n
 ·rw [b1W h1,b1W h1]
 ·rw [b1T h1,b1T h1,b1W h]
theorem O0Y {f g:Nat→Int} {N:Nat}:sm f N - sm g N=sm (fun i=>f i - g i) N:=by
 have:=w0c (a:=1) (b:=-1) (f:=f) (g:=g) (n:=N)
 have e:sm (fun i=>1 * f i + -1 * g i) N=sm (fun i=>f i - g i) N:=b0g fun i _=>by omega
 omega
theorem K0b (h:Tab m (2 * n + m) (h0s n m a bb cc) (fun i=>bb i < 0) T base d) (h0:∀ i,i < m→¬ base i < 2 * n + m→T i (2 * n + m)=0) :
  (∀ r,r < m→sm (fun k=>a r k * pt n m base (fun i=>T i (2 * n + m)) k) n≤d * bb r)∧sm (fun k=>cc k * pt n m base (fun i=>T i (2 * n + m)) k) n=T (m + 1) (2 * n + m):=by
 obtain ⟨h1,h2⟩:=h.colrow (b1S _) h0
 refine ⟨fun r hr=>?_,?_⟩
 ·have h3:=h1 r hr
  rw [f0r] at h3
  rw [z0T (W:=e0a n m a bb r) (fun c hc=>u0S hc),h3]
  have h4:0≤sm (fun i=>if base i < 2 * n + m then T i (2 * n + m) * e0a n m a bb r (base i) else 0) m - sm (fun i=>if base i < 2 * n then T i (2 * n + m) * e0a n m a bb r (base i) else 0) m:=by
   rw [O0Y]
   refine g0R fun i hi=>?_
   by_cases hb:base i < 2 * n
   ·rw [b1W (by omega),b1W hb];omega
   ·rw [b1T hb]
    by_cases hb2:base i < 2 * n + m
    ·rw [b1W hb2]
     have:base i=2 * n + (base i - 2 * n):=by omega
     rw [this,c0u (by omega)]
     have:=h.rhs i hi
     split <;> omega
    ·rw [b1T hb2];omega
  omega
 ·rw [d0U (by omega),d1T] at h2
  rw [z0T (W:=cost n cc) (fun c hc=>u0v hc)]
  have:sm (fun i=>if base i < 2 * n + m then T i (2 * n + m) * cost n cc (base i) else 0) m=sm (fun i=>if base i < 2 * n then T i (2 * n + m) * cost n cc (base i) else 0) m:=by
   refine b0g fun i hi=>?_
   by_cases hb:base i < 2 * n
   ·rw [b1W (by omega),b1W hb]
   ·rw [b1T hb,d0U (by omega)];split <;> simp
  omega
def l0V (n m:Nat) (T:Nat→Nat→Int) (base:Nat→Nat) (d:Int) (j k:Nat):Int:=pt n m base (fun i=>-T i j) k + (if j=k then d else if j=n + k then -d else 0)
theorem F0Y {w W:Nat→Int} {j:Nat} (hW:∀ c,c < 2 * n→W c=if c < n then w c else -w (c - n)) :
  sm (fun k=>w k * l0V n m T base d j k) n = -sm (fun i=>if base i < 2 * n then T i j * W (base i) else 0) m + (if j < 2 * n then d * W j else 0):=by
 have h1:sm (fun k=>w k * l0V n m T base d j k) n=sm (fun k=>w k * pt n m base (fun i=>-T i j) k) n + sm (fun k=>w k * (if j=k then d else if j=n + k then -d else 0)) n:=by
  rw [← r0K];exact b0g fun k _=>by unfold l0V;grind
 rw [h1,z0T hW]
 congr 1
 ·have:sm (fun i=>if base i < 2 * n then -T i j * W (base i) else 0) m = -1 * sm (fun i=>if base i < 2 * n then T i j * W (base i) else 0) m:=by
   rw [← e0G];exact b0g fun i _=>by split <;> grind
  omega
 ·by_cases hj:j < 2 * n
  ·rw [b1W hj,hW j hj]
   by_cases hj2:j < n
   ·rw [b1W hj2,g0b hj2]
    ·rw [b1W rfl];grind
    ·intro k hk hne;rw [b1T (d1B hne),b1T (by omega)];simp
   ·rw [b1T hj2,g0b (k:=j - n) (by omega)]
    ·rw [b1T (by omega),b1W (by omega)];grind
    ·intro k hk hne;rw [b1T (by omega),b1T (by omega)];simp
  ·rw [b1T hj]
   exact e0m fun k hk=>by rw [b1T (by omega),b1T (by omega)];simp
theorem G0z (h:Tab m (2 * n + m) (h0s n m a bb cc) (fun i=>bb i < 0) T base d) {j:Nat} (hj:j < 2 * n + m) (hle:∀ i,i < m→T i j≤0) (h0:∀ i,i < m→¬ base i < 2 * n + m→T i j=0) :
  (∀ r,r < m→sm (fun k=>a r k * l0V n m T base d j k) n≤0)∧sm (fun k=>cc k * l0V n m T base d j k) n = -T (m + 1) j:=by
 obtain ⟨h1,h2⟩:=h.colrow (c:=j) (by omega) h0
 have hd:=h.pos
 refine ⟨fun r hr=>?_,?_⟩
 ·have h3:=h1 r hr
  rw [F0Y (W:=e0a n m a bb r) (fun c hc=>u0S hc)]
  have h4:sm (fun i=>if base i < 2 * n + m then T i j * e0a n m a bb r (base i) else 0) m - sm (fun i=>if base i < 2 * n then T i j * e0a n m a bb r (base i) else 0) m≤0:=by
   rw [O0Y]
   have:0≤sm (fun i=>-1 * ((if base i < 2 * n + m then T i j * e0a n m a bb r (base i) else 0) - (if base i < 2 * n then T i j * e0a n m a bb r (base i) else 0))) m:=by
    refine g0R fun i hi=>?_
    by_cases hb:base i < 2 * n
    ·rw [b1W (by omega),b1W hb];omega
    ·rw [b1T hb]
     by_cases hb2:base i < 2 * n + m
     ·rw [b1W hb2]
      have:base i=2 * n + (base i - 2 * n):=by omega
      rw [this,c0u (by omega)]
      have:=hle i hi
      split <;> omega
     ·rw [b1T hb2];omega
   rw [e0G] at this
   omega
  by_cases hj2:j < 2 * n
  ·rw [b1W hj2];omega
  ·rw [b1T hj2]
   have e:j=2 * n + (j - 2 * n):=by omega
   have h5:0≤d * e0a n m a bb r j:=by
    rw [e,c0u (by omega)];split <;> omega
   omega
 ·rw [F0Y (W:=cost n cc) (fun c hc=>u0v hc)]
  have:sm (fun i=>if base i < 2 * n + m then T i j * cost n cc (base i) else 0) m=sm (fun i=>if base i < 2 * n then T i j * cost n cc (base i) else 0) m:=by
   refine b0g fun i hi=>?_
   by_cases hb:base i < 2 * n
   ·rw [b1W (by omega),b1W hb]
   ·rw [b1T hb,d0U (by omega)];split <;> simp
  by_cases hj2:j < 2 * n
  ·rw [b1W hj2];omega
  ·rw [b1T hj2]
   rw [d0U (by omega),d1T] at h2
   omega
theorem z0V {C i j k c:Nat} (hk:∀ c,c≤C→T k c=0) (hki:k ≠ i) (hc:c≤C) (hj:j≤C):pv T i j d k c=0:=by
 unfold pv;rw [b1T hki,hk c hc,hk j hj];simp
end Go.Proofs.YtilekhkgobmolaaGreat.SX
namespace Go.Proofs.YtilekhkgobmolaaGreat.AI
section
open Go SX
set_option maxHeartbeats 4000000
set_option maxRecDepth 4000
variable {fl:Nat} {H G:a0e} {R:a0u} {v w u:Value} {F:RK}
def S0z (T:Nat→Nat→Int) (base:Nat→Nat) (C j i:Nat) (z:Int):Prop:=(z = -1∧∀ k,k < i→T k j≤0) ∨ ∃ o:Nat,z=o∧o < i∧u0c T base C j i o
theorem w0x (X Y:Int):(c0V X Y = -1∧X < Y) ∨ (c0V X Y=0∧X=Y) ∨ (c0V X Y=1∧Y < X):=by
 unfold c0V
 by_cases hA:X < Y
 ·exact .inl ⟨by rw [b1W hA],hA⟩
 ·by_cases hB:Y < X
  ·exact .inr (.inr ⟨by rw [b1T hA,b1W hB],hB⟩)
  ·exact .inr (.inl ⟨by rw [b1T hA,b1T hB],by omega⟩)
theorem s0z {f0 p n m j:Nat} {L:List (List Int)} {k D:Int} {bs:List Nat} {sR sD sB:Value} {vs:List Value} (h:e0q F f0 H p n m L D bs k sR sD sB vs) (hf:fl≤H.size) (hS:ShT n m L bs) (hz:∀ r c,lz (Tf L r c) < 67108864) (hj:j < 2 * n + m) (hm:m < 1048576) :
  a0S env fl (k0S F) [.pointer (some ⟨p,0,none⟩),.int .i64 (j:Int)] H (fun r H'=>(∃ z:Int,r=.int .i64 z∧S0z (Tf L) (bf bs) (2 * n + m) j m z)∧Ext H H') R:=by
 refine a0g y0x hf (h:=?_)
 intro ρ h0
 have hL:=hS.len
 have hr:=hS.row
 have hb:=hS.base
 simp [f0v,l0t,l0u,l0v,h0,h.blk]
 refine c0I (n:=m) (fun i ρ G=>ρ 0=.pointer (some ⟨p,0,none⟩)∧ρ 1=.int .i64 (j:Int)∧Ext H G∧∃ z,ρ 5=.int .i64 z∧S0z (Tf L) (bf bs) (2 * n + m) j i z) rfl rfl (by decide) (by omega) (by simp) (by simp) ?_ ?_ ?_ ?_
 ·exact ⟨by simp [h0],by simp [h0],Ext.refl H,-1,by simp,.inl ⟨rfl,fun k hk=>by omega⟩⟩
 ·intro i ρ ρ' G h hI;simpa [h] using hI
 ·clear h0 ρ
  rintro i ρ G hi gi gn ⟨g0,g1,hx,z,g5,hq⟩
  have hG:=h.mono hx
  have hiL:i < L.length:=by omega
  have hjL:j < L[i].length:=by rw [hr i hiL];omega
  obtain ⟨w1,e1,f1⟩:=hG.num hiL hjL
  have e0:=hG.head hiL
  have eh:=hG.hia hiL
  have ej:=hG.ia hiL hjL
  have hbk:=hG.blk
  obtain ⟨vi,hvi1⟩:∃ x,x=vs[i]'(by have:=h.rows.len;omega):=⟨_,rfl⟩
  rw [← hvi1] at e0 ej e1
  simp [l0w,gi]
  refine a0F ?_
  simp [l0x,g0,g1,gi,hbk,eh,e0,ej,e1]
  refine (q0k f1 (by have:=hx.1;omega) (hz _ _)).mono ?_
  rintro _ G2 ⟨rfl,hx2⟩
  replace hG:=hG.mono hx2
  replace hx:=hx.trans hx2
  clear hbk e1 f1 ej
  by_cases hp:0 < Tf L i j
  ·have hc:c0V (Tf L i j) 0=1:=by unfold c0V;rw [b1T (by omega),b1W (by omega)]
   simp [hc,l0y,g5]
   rcases hq with ⟨rfl,hq⟩ | ⟨o,rfl,ho,hB⟩
   ·simp [l0z]
    exact Rnd.mk (by simp [gi]) (by simp [gn]) ⟨by simp [g0],by simp [g1],hx,(i:Int),by simp,.inr ⟨i,rfl,by omega,u0c.one hp hq⟩⟩
   ·have hoL:o < L.length:=by omega
    have hjo:j < L[o].length:=by rw [hr o hoL];omega
    have hCi:2 * n + m < L[i].length:=by rw [hr i hiL];omega
    have hCo:2 * n + m < L[o].length:=by rw [hr o hoL];omega
    obtain ⟨w1,a1,fa⟩:=hG.num hiL hCi
    obtain ⟨w2,a2,fb⟩:=hG.num hoL hjo
    obtain ⟨w3,a3,fc⟩:=hG.num hoL hCo
    obtain ⟨w4,a4,fd⟩:=hG.num hiL hjL
    have ei:=hG.head hiL
    have eo:=hG.head hoL
    refine ⟨fun hh=>by omega,fun _=>?_⟩
    refine a0F ?_
    have iC:=hG.ia hiL hCi
    have oC:=hG.ia hoL hCo
    have eC:((2 * n + m:Nat):Int)=2 * (n:Int) + m:=by omega
    rw [eC] at iC oC
    have ij:=hG.ia hiL hjL
    have oj:=hG.ia hoL hjo
    have hi1:=hG.hia hiL
    have ho1:=hG.hia hoL
    have hbk:=hG.blk
    obtain ⟨vi,hvi1⟩:∃ x,x=vs[i]'(by have:=h.rows.len;omega):=⟨_,rfl⟩
    obtain ⟨vo,hvo1⟩:∃ x,x=vs[o]'(by have:=h.rows.len;omega):=⟨_,rfl⟩
    rw [← hvi1] at ei ij iC a1 a4
    rw [← hvo1] at eo oj oC a2 a3
    simp [l0A,g0,g1,g5,hbk,hi1,ho1,ei,eo,ij,oj]
    simp [iC,a1]
    simp [oC,oj,ij,a2,a3,a4]
    refine (P0g fa fb fc fd (by have:=hx.1;omega) (hz _ _) (hz _ _) (hz _ _) (hz _ _)).mono ?_
    rintro _ G3 ⟨rfl,hx3⟩
    replace hG:=hG.mono hx3
    replace hx:=hx.trans hx3
    refine a0F ?_
    obtain ⟨hc,h1⟩ | ⟨hc,h1⟩ | ⟨hc,h1⟩:=w0x (Tf L i (2 * n + m) * Tf L o j) (Tf L o (2 * n + m) * Tf L i j)
    ·simp [hc,f0Q]
     simp [g0J]
     exact Rnd.mk (by simp [gi]) (by simp [gn]) ⟨by simp [g0],by simp [g1],hx,(i:Int),by simp,.inr ⟨i,rfl,by omega,hB.take hp (.inl h1)⟩⟩
    ·obtain ⟨li,bi⟩:=hG.base (show i < bs.length by omega)
     obtain ⟨lo,bo⟩:=hG.base (show o < bs.length by omega)
     have hbk:=hG.blk
     simp [hc,f0Q,g0,g5,hbk,bi,bo,li,lo]
     by_cases hlt:bf bs i < bf bs o
     ·have hlt':¬ bf bs o≤bf bs i:=by omega
      simp [hlt,hlt',g0J]
      exact Rnd.mk (by simp [gi]) (by simp [gn]) ⟨by simp [g0],by simp [g1],hx,(i:Int),by simp,.inr ⟨i,rfl,by omega,hB.take hp (.inr ⟨h1,hlt⟩)⟩⟩
     ·have hlt':bf bs o≤bf bs i:=by omega
      simp [hlt,hlt']
      exact Rnd.mk (by simp [gi]) (by simp [gn]) ⟨by simp [g0],by simp [g1],hx,(o:Int),by simp [g5],.inr ⟨o,rfl,by omega,hB.keep (.inr ⟨h1.symm,by omega⟩)⟩⟩
    ·simp [hc,f0Q]
     exact Rnd.mk (by simp [gi]) (by simp [gn]) ⟨by simp [g0],by simp [g1],hx,(o:Int),by simp [g5],.inr ⟨o,rfl,by omega,hB.keep (.inl h1)⟩⟩
  ·have hc:c0V (Tf L i j) 0≤0:=by unfold c0V;split <;> (try split) <;> omega
   simp [hc]
   refine Rnd.mk (by simp [gi]) (by simp [gn]) ⟨by simp [g0],by simp [g1],hx,z,by simp [g5],?_⟩
   rcases hq with ⟨rfl,hq⟩ | ⟨o,rfl,ho,hB⟩
   ·refine .inl ⟨rfl,fun k hk=>?_⟩
    by_cases hki:k=i
    ·rw [hki];omega
    ·exact hq k (by omega)
   ·exact .inr ⟨o,rfl,by omega,hB.skip (by omega)⟩
 ·rintro ρ G gi gn ⟨g0,g1,hx,z,g5,hq⟩
  simp [j0M,g5]
  exact fun _=>hq
end
section
open Go SX
set_option maxHeartbeats 4000000
variable {fl:Nat} {H G:a0e} {R:a0u} {v w u:Value}
def pvt (T:Nat→Nat→Int) (i j:Nat) (D:Int) (r c:Nat):Int:=if r=i then T i c else (T r c * T i j - T r j * T i c).tdiv D
def pvu (T:Nat→Nat→Int) (i j:Nat) (D:Int) (k q r c:Nat):Int:=if r < k ∨ r=k∧c < q then pvt T i j D r c else T r c
theorem z0X {T:Nat→Nat→Int} {i j:Nat} {D:Int} {k W r c:Nat} (hc:c < W):pvu T i j D k W r c=pvu T i j D (k + 1) 0 r c:=by
 unfold pvu
 by_cases h:r < k ∨ r=k∧c < W
 ·rw [b1W h,b1W (by omega)]
 ·rw [b1T h,b1T (by omega)]
theorem s0b {E:Env} {bef:List Nat} {Z:a0W→a0e→Prop} {v:Value} {j:Nat} {t:a0W}:∀ {ops:List a0D} {i:Nat} {lg:Log},(List.range ops.length).all (fun k=>(bef.getD (i + k) 0).testBit j)=true→R v→WRP E fl bef [] Z R i ops t H (some (j,v)) lg
 | [],i,lg,_,h=>⟨rfl,h⟩
 | o :: r,i,lg,hb,h=>by
  have h0:(bef.getD i 0).testBit j=true:=by
   have:=c1C.1 hb 0 (by simp)
   simpa using this
  show (if g0z bef i (some (j,v))=true then _ else _)
  rw [b1W (show g0z bef i (some (j,v))=true from h0)]
  refine s0b ?_ h
  rw [c1C]
  intro k hk
  have:=c1C.1 hb (k + 1) (by simp at hk ⊢;omega)
  rwa [show i + (k + 1)=i + 1 + k by omega] at this
theorem y0W {E:Env} {bef:List Nat} {Z:a0W→a0e→Prop} {j i:Nat} {t:a0W} {ops:List a0D} {lg:Log} (hb:(List.range ops.length).all (fun k=>(bef.getD (i + k) 0).testBit j)=true) (h:p0o .few R):p0o .few (fun v=>WRP E fl bef [] Z R i ops t H (some (j,v)) lg):=s0b hb h
theorem m0F {p n m i j:Nat} {L:List (List Int)} {k D:Int} {bs:List Nat} {sR sD sB:Value} {vs:List Value} (h:e0q .few fl H p n m L D bs k sR sD sB vs) (hf:fl≤H.size) (hS:ShT n m L bs) (hz:∀ r c,lz (Tf L r c) < 67108864) (hD:lz D < 67108864) (hD0:D ≠ 0) (hi:i < m) (hj:j < 2 * n + m) (hm:m < 1048576) (hn:n < 1048576) (hR:p0o .few R) :
  a0S env fl s0t [.pointer (some ⟨p,0,none⟩),.int .i64 (i:Int),.int .i64 (j:Int)] H (fun _ H'=>((∃ L' sD',e0q .few fl H' p n m L' (Tf L i j) (bs.set i j) (IntKind.i64.wrap (k + 1)) sR sD' sB vs∧ShT n m L' (bs.set i j)∧∀ r c,r < m + 2→c < 2 * n + m + 1→Tf L' r c=pvt (Tf L) i j D r c)∧Frm a0d d0r H H')∧f0z fl H H') R:=by
 refine k0O Z0b hf (h:=?_)
 intro ρ h0
 have hL:=hS.len
 have hr:=hS.row
 have hb:=hS.base
 have hiL:i < L.length:=by omega
 have hjL:j < L[i].length:=by rw [hr i hiL];omega
 have hbk:=h.blk
 rw [h0l] at hbk
 have hpl:=a0j hbk
 have hlow:=h.low
 simp [I0S,D0D,h0,hbk,hlow,hpl]
 generalize hS1:Array.setIfInBounds H p _=G1
 have t1:∀ {e:Nat},a0d ≠ e→LxT e H G1:=fun hne=>a0X hS1 hbk hne
 have hG:e0q .few fl G1 p n m L D bs (IntKind.i64.wrap (k + 1)) sR sD sB vs:=⟨a0M hS1 hbk,hlow,h.d,h.heads.lxm (t1 (by decide)) (fun _ _ h=>h),⟨h.rows.len,fun r hr=>(h.rows.own r hr).lxm (t1 (by decide)) (fun cs x hx=>S0k.lx _ _ _ _ (t1 (by decide)) hx),h.rows.apart⟩,h.basis.lxm (t1 (by decide)) (fun _ _ h=>h)⟩
 have hx:Frm a0d d0r H G1:=⟨by rw [← hS1];simp,fun e he _ _=>t1 (d1B he)⟩
 clear hS1 t1
 obtain ⟨w6,e6,f6⟩:=hG.num hiL hjL
 have eh:=hG.head hiL
 have hi1:=hG.hia hiL
 have ij:=hG.ia hiL hjL
 have hbk:=hG.blk
 rw [h0l] at hbk
 obtain ⟨vi,hvi1⟩:∃ x,x=vs[i]'(by have:=h.rows.len;omega):=⟨_,rfl⟩
 rw [← hvi1] at eh ij e6
 simp only [RK.w,RK.b,RK.p_few] at ij e6
 refine a0F ?_
 simp [D0E,h0,hbk,hi1,eh,ij,e6]
 have hsl:=hG.heads.sls.slen
 rw [hG.rows.len] at hsl
 simp [D0F,h0,hbk,hsl]
 refine c0I (n:=L.length) (fun k' ρ G=>ρ 0=.pointer (some ⟨p,0,none⟩)∧ρ 1=.int .i64 (i:Int)∧ρ 2=.int .i64 (j:Int)∧ρ 6=w6∧ρ 7=vi∧ρ 39=sR∧Frm a0d d0r H G∧rV .few G w6 (Tf L i j) ∧
   ∃ L',e0q .few fl G p n m L' D bs (IntKind.i64.wrap (k + 1)) sR sD sB vs∧ShT n m L' bs∧∀ r c,r < m + 2→c < 2 * n + m + 1→Tf L' r c=pvu (Tf L) i j D k' 0 r c) rfl rfl (by decide) (by omega) (by simp) (by simp) ?_ ?_ ?_ ?_
 ·exact ⟨by simp [h0],by simp [h0],by simp [h0],by simp,by simp,by simp,hx,f6,L,hG,hS,fun r c _ _=>by unfold pvu;rw [b1T (by omega)]⟩
 ·intro i ρ ρ' G h hI;simpa [h] using hI
 ·clear h0 ρ hG hx f6 e6 eh hi1 ij hbk hpl hsl
  rintro q ρ G hq gi gn ⟨g0,g1,g2,g6,g7,g39,hx,f6,L',hG,hS',hT⟩
  obtain ⟨vq,hvq⟩:∃ x,x=vs[q]'(by have:=h.rows.len;clear hG;omega):=⟨_,rfl⟩
  have hqL:q < L'.length:=by rw [hS'.len];omega
  have eq:=hG.head hqL
  have hq1:=hG.hia hqL
  rw [← hvq] at eq
  simp [D0G,gi,g39,hq1,eq]
  by_cases hqi:q=i
  ·subst hqi
   simp [t0p,g1]
   refine Rnd.mk (by simp [gi]) (by simp [gn]) ⟨by simp [g0],by simp [g1],by simp [g2],by simp [g6],by simp [g7],by simp [g39],hx,f6,L',hG,hS',fun r c h1 h2=>?_⟩
   rw [hT r c h1 h2]
   unfold pvu
   by_cases hrq:r=q
   ·subst hrq;rw [b1T (by omega),b1W (by omega)];unfold pvt;rw [b1W rfl]
   ·by_cases hlt:r < q
    ·rw [b1W (.inl hlt),b1W (by omega)]
    ·rw [b1T (by omega),b1T (by omega)]
  ·have hqi':¬ ((q:Int)=(i:Int)):=by omega
   have hjq:j < L'[q].length:=by rw [hS'.row q hqL];omega
   obtain ⟨w10,e10,f10⟩:=hG.num hqL hjq
   have qj:=hG.ia hqL hjq
   have hsq:=(hG.rows.own q hqL).slen
   rw [hS'.row q hqL] at hsq
   rw [← hvq] at qj e10 hsq
   simp only [RK.w,RK.b,RK.p_few] at qj e10
   have hb10:Tf L' q j=Tf L q j:=by rw [hT q j (by omega) (by omega)];unfold pvu;rw [b1T (by omega)]
   rw [hb10] at f10
   simp [t0p,g1,hqi,hqi',D0H,D0I,g2,qj,e10,hsq]
   obtain ⟨W,hW⟩:∃ W,W=2 * n + m + 1:=⟨_,rfl⟩
   have hWi:(2 * (n:Int) + m + 1)=(W:Int):=by omega
   refine m0X (n:=W) (fun c ρ G=>ρ 0=.pointer (some ⟨p,0,none⟩)∧ρ 1=.int .i64 (i:Int)∧ρ 2=.int .i64 (j:Int)∧ρ 6=w6∧ρ 7=vi∧ρ 39=sR∧ρ 41=.int .i64 (q:Int)∧ρ 40=.int .i64 (L.length:Int)∧ρ 9=vq∧ρ 10=w10∧Frm a0d d0r H G∧rV .few G w6 (Tf L i j)∧rV .few G w10 (Tf L q j) ∧
     ∃ L',e0q .few fl G p n m L' D bs (IntKind.i64.wrap (k + 1)) sR sD sB vs∧ShT n m L' bs∧∀ r c',r < m + 2→c' < 2 * n + m + 1→Tf L' r c' = pvu (Tf L) i j D q c r c') rfl rfl (by decide) (by omega) (by simp) (by simp [hWi]) ?_ ?_ ?_ ?_
   ·exact ⟨by simp [g0],by simp [g1],by simp [g2],by simp [g6],by simp [g7],by simp [g39],by simp [gi],by simp [gn],by simp,by simp,hx,f6,f10,L',hG,hS',hT⟩
   ·intro i ρ ρ' G h hI;simpa [h] using hI
   ·clear g0 g1 g2 g6 g7 g39 gi gn hx f6 f10 hG hS' hT e10 eq hq1 qj hsq hb10 hqL hjq L' ρ G
    rintro c ρ G hc gc gw ⟨g0,g1,g2,g6,g7,g39,gi,gn,g9,g10,hx,f6,f10,L',hG,hS',hT⟩
    have hqL:q < L'.length:=by rw [hS'.len];omega
    have hiL':i < L'.length:=by rw [hS'.len];omega
    have hcq:c < L'[q].length:=by rw [hS'.row q hqL];omega
    have hci:c < L'[i].length:=by rw [hS'.row i hiL'];omega
    obtain ⟨wq,eq,fq⟩:=hG.num hqL hcq
    obtain ⟨wi,ei,fi⟩:=hG.num hiL' hci
    have qc:=hG.ia hqL hcq
    have ic:=hG.ia hiL' hci
    have tq:Tf L' q c=Tf L q c:=by rw [hT q c (by omega) (by omega)];unfold pvu;rw [b1T (by omega)]
    have ti:Tf L' i c=Tf L i c:=by
     rw [hT i c (by omega) (by omega)];unfold pvu;split
     ·unfold pvt;rw [b1W rfl]
     ·rfl
    rw [tq] at fq
    rw [ti] at fi
    have qc':=qc
    rw [← hvq] at qc eq
    rw [← hvi1] at ic ei
    simp only [RK.w,RK.b,RK.p_few] at qc ic eq ei
    have hbk:=hG.blk
    rw [h0l] at hbk
    have dv:=hG.dv
    simp [D0J,gc]
    refine k0G ?_
    simp [v0I,g0,g6,g7,g9,g10,gc,hbk,qc,ic,eq,ei]
    have hxs:=hx.1
    have hq1:=fun (R':a0u) (hR':p0o .few R')=>J0F (fl:=fl) (R:=R') fq f6 f10 fi dv (by omega) (hz _ _) (hz _ _) (hz _ _) (hz _ _) hD hD0 hR'
    refine a0S.mono (hq1 _ (y0W rfl hR)) ?_
    clear hq1
    rintro ws G3 ⟨fs,hx3⟩
    obtain ⟨G4,hst,hG4,hx4,_⟩:=(hG.mono hx3).store (x:=(Tf L q c * Tf L i j - Tf L q j * Tf L i c).tdiv D) hqL hcq fs
    rw [← hvq] at hst
    simp only [RK.w,RK.b,RK.p_few] at hst
    have hlx:Lx G3 G4:=hx4.2 a0l (by decide) (by decide) (by decide)
    simp [g9,gc,qc,hst]
    refine Rnd.mk ?_ ?_ ?_
    ·simp [gc]
    ·simp [gw]
    refine ⟨by simp [g0],by simp [g1],by simp [g2],by simp [g6],by simp [g7],by simp [g39],by simp [gi],by simp [gn],by simp [g9],by simp [g10],hx.trans (hx3.frm.trans hx4),(f6.mono hx3).lx hlx,(f10.mono hx3).lx hlx,_,hG4,hS'.set hqL,fun r c' h1 h2=>?_⟩
    rw [y0b hS' hqL hcq,hT r c' h1 h2]
    unfold pvu
    by_cases hrc:r=q∧c' = c
    ·obtain ⟨rfl,rfl⟩:=hrc
     rw [b1W ⟨rfl,rfl⟩,b1W (by omega)]
     unfold pvt;rw [b1T hqi]
    ·rw [b1T hrc]
     by_cases hlt:r < q ∨ r=q∧c' < c
     ·rw [b1W hlt,b1W (by omega)]
     ·rw [b1T hlt,b1T (by omega)]
   ·rintro ρ G gc gw ⟨g0,g1,g2,g6,g7,g39,gi,gn,g9,g10,hx,f6,f10,L',hG,hS',hT⟩
    simp
    refine Rnd.mk gi gn ⟨g0,g1,g2,g6,g7,g39,hx,f6,L',hG,hS',fun r c h1 h2=>?_⟩
    rw [hT r c h1 h2,hW];exact z0X h2
 ·clear h0 ρ hG hx f6 e6 eh hi1 ij hbk hpl hsl
  rintro ρ G gi gn ⟨g0,g1,g2,g6,g7,g39,hx,f6,L',hG,hS',hT⟩
  obtain ⟨rfl,fz⟩:=f6
  have hbk:=hG.blk
  rw [h0l] at hbk
  have hpl:=a0j hbk
  have hib:i < bs.length:=by omega
  have ib:=(hG.base hib).2
  have hiL':i < L'.length:=by rw [hS'.len];omega
  simp [v0J,g0,g1,g2,g6,hbk,hlow,hpl,ib]
  generalize hS1:Array.setIfInBounds G p _=G1
  have t1:∀ {e:Nat},a0d ≠ e→LxT e G G1:=fun hne=>a0X hS1 hbk hne
  obtain ⟨G2,hst,ho,hxb⟩:=b0a.store (Q:=PK) (x:=j) (w:=.int .i64 (j:Int)) (hG.basis.lxm (Q':=PK) (t1 (by decide)) (fun _ _ h=>h)) hib (by decide) rfl rfl (fun _ _ _=>rfl) (by decide) (fun _ _ _ _ _ h=>h)
  have hob:=hG.basis.lxm (Q':=PK) (G':=G1) (t1 (by decide)) (fun _ _ h=>h)
  have tb:∀ {e:Nat},e0l ≠ e→LxT e G1 G2:=fun hne=>hob.lxT hne hxb
  simp [hst]
  refine ⟨⟨L',⟨sD,⟨?_,hlow,fz,?_,?_,ho⟩⟩,⟨hS'.len,hS'.row,by simp [hS'.base]⟩,fun r c h1 h2=>?_⟩,hx.trans ⟨c1b (by rw [← hS1];simp) hxb.1,fun e h1 h2 h3 b ro cs hb=>tb (d1B h3) b ro cs (t1 (d1B h1) b ro cs hb)⟩⟩
  ·have hw:=a0M hS1 hbk
   exact tb (by decide) _ _ _ (by rw [h0l];simpa using hw)
  ·exact (hG.heads.lxm (Q':=PV) (t1 (by decide)) (fun _ _ h=>h)).lxm (tb (by decide)) (fun _ _ h=>h)
  ·exact ⟨hG.rows.len,fun r hr=>((hG.rows.own r hr).lxm (Q':=PF) (t1 (by decide)) (fun cs x hx=>S0k.lx _ _ _ _ (t1 (by decide)) hx)).lxm (tb (by decide)) (fun cs x hx=>S0k.lx _ _ _ _ (tb (by decide)) hx),hG.rows.apart⟩
  ·rw [hT r c h1 h2];unfold pvu;rw [b1W (by omega)]
theorem b0a.adr_blk {α:Type} {P:a0e→List Value→α→Prop} {e sz j:Nat} {v:Value} {l:List α} (h:b0a P fl G e sz v l) (hj:j < l.length):∃ b,AI.blkOf (adr sz v j)=[b]∧b < G.size∧slB v=some b:=by
 obtain ⟨cs',⟨hl',⟨rfl,h0⟩ | ⟨b',cap,rfl,hp,hf⟩⟩,h2⟩:=h
 ·omega
 ·exact ⟨b',rfl,a0j hp,rfl⟩
def Bx (G:a0e) (q:Nat) (z:Int):Prop:=∃ s,a0e.blk G q=.row false a0a [.bool (a0m z).1,s]∧Lim G s (a0m z).2
theorem Bx.mono {G':a0e} {q:Nat} {z:Int} (h:Bx G q z) (hx:Ext G G'):Bx G' q z:=by obtain ⟨s,h1,h2⟩:=h;exact ⟨s,hx.blk h1,h2.mono hx⟩
theorem Bx.off {G':a0e} {q:Nat} {z:Int} {o:Option Nat} (h:Bx G q z) (hx:c0Z o G G') (hl:Lx G G') (ho:o ≠ some q):Bx G' q z:=by
 obtain ⟨s,h1,h2⟩:=h;exact ⟨s,(hx.2 q (a0j h1) ho).trans h1,h2.lx hl⟩
theorem m0u {p n m i j:Nat} {L:List (List Int)} {k D:Int} {bs:List Nat} {sR sD sB:Value} {vs:List Value} (h:e0q .all fl H p n m L D bs k sR sD sB vs) (hf:fl≤H.size) (hS:ShT n m L bs) (hz:∀ r c,lz (Tf L r c) < 67108864) (hD:lz D < 67108864) (hD0:D ≠ 0) (hi:i < m) (hj:j < 2 * n + m) (hm:m < 1048576) (hn:n < 1048576) (hR:p0o .all R) :
  a0S env fl s0s [.pointer (some ⟨p,0,none⟩),.int .i64 (i:Int),.int .i64 (j:Int)] H (fun _ H'=>((∃ L' sD',e0q .all fl H' p n m L' (Tf L i j) (bs.set i j) (IntKind.i64.wrap (k + 1)) sR sD' sB vs∧ShT n m L' (bs.set i j)∧∀ r c,r < m + 2→c < 2 * n + m + 1→Tf L' r c=pvt (Tf L) i j D r c)∧Frm a0c a0a H H')∧f0z fl H H') R:=by
 refine k0O Y0R hf (h:=?_)
 intro ρ h0
 have hL:=hS.len
 have hr:=hS.row
 have hb:=hS.base
 have hiL:i < L.length:=by omega
 have hjL:j < L[i].length:=by rw [hr i hiL];omega
 have hbk:=h.blk
 rw [f0R] at hbk
 have hpl:=a0j hbk
 have hlow:=h.low
 simp [I0I,C0B,h0,hbk,hlow,hpl]
 generalize hS1:Array.setIfInBounds H p _=G1
 have t1:∀ {e:Nat},a0c ≠ e→LxT e H G1:=fun hne=>a0X hS1 hbk hne
 have hG:e0q .all fl G1 p n m L D bs (IntKind.i64.wrap (k + 1)) sR sD sB vs:=⟨a0M hS1 hbk,hlow,h.d.lx (t1 (by decide)),h.heads.lxm (t1 (by decide)) (fun _ _ h=>h),⟨h.rows.len,fun r hr=>(h.rows.own r hr).lxm (t1 (by decide)) (fun cs x hx=>S0j.lx _ _ _ _ (t1 (by decide)) hx),h.rows.apart⟩,h.basis.lxm (t1 (by decide)) (fun _ _ h=>h)⟩
 have hx:Frm a0c a0a H G1:=⟨by rw [← hS1];simp,fun e he _ _=>t1 (d1B he)⟩
 clear hS1 t1
 obtain ⟨w6,e6,f6⟩:=hG.num hiL hjL
 have eh:=hG.head hiL
 have hi1:=hG.hia hiL
 have ij:=hG.ia hiL hjL
 have hbk:=hG.blk
 rw [f0R] at hbk
 obtain ⟨vi,hvi1⟩:∃ x,x=vs[i]'(by have:=h.rows.len;omega):=⟨_,rfl⟩
 rw [← hvi1] at eh ij e6
 simp only [RK.w,RK.b,RK.p_all] at ij e6
 obtain ⟨bR,hbR,hbRl,_⟩:=(hG.heads).adr_blk (j:=i) (by have:=h.rows.len;omega)
 obtain ⟨s6,rfl,k6⟩:=f6
 have hfl:fl≤G1.size:=c1b hf hx.1
 have hpl1:=a0j hbk
 refine c0w ?_
 simp [C0C,h0,hbk,hi1,eh,ij,e6,k6.cells,k6.plain,hfl]
 generalize hN:Array.setIfInBounds (Array.push _ _) _ _=G2
 obtain ⟨hx2,b6⟩:=new1 hN
 clear hN
 have P6l:∀ r (hr:r < vs.length),slB vs[r] ≠ some G1.size:=fun r hr' h5=>by
  have:=((hG.rows.own r (by have:=hG.rows.len;omega)).ge h5).2
  omega
 generalize hP6:Array.size G1=P6 at *
 have hne1:p ≠ P6:=by omega
 have hne2:bR ≠ P6:=by omega
 replace hG:=hG.mono hx2
 replace hx:=hx.trans hx2.frm
 replace k6:=k6.mono hx2
 replace hbk:=hG.blk
 rw [f0R] at hbk
 simp [hbR,hne1,hne2,d1B hne1,d1B hne2]
 have hsl:=hG.heads.sls.slen
 rw [hG.rows.len] at hsl
 simp [C0D,h0,hbk,hsl]
 refine c0I (n:=L.length) (fun k' ρ G=>ρ 0=.pointer (some ⟨p,0,none⟩)∧ρ 1=.int .i64 (i:Int)∧ρ 2=.int .i64 (j:Int)∧ρ 6=.pointer (some ⟨P6,0,none⟩)∧ρ 7=vi∧ρ 39=sR∧Frm a0c a0a H G∧Bx G P6 (Tf L i j) ∧
   ∃ L',e0q .all fl G p n m L' D bs (IntKind.i64.wrap (k + 1)) sR sD sB vs∧ShT n m L' bs∧∀ r c,r < m + 2→c < 2 * n + m + 1→Tf L' r c=pvu (Tf L) i j D k' 0 r c) rfl rfl (by decide) (by omega) (by simp) (by simp) ?_ ?_ ?_ ?_
 ·exact ⟨by simp [h0],by simp [h0],by simp [h0],by simp,by simp,by simp,hx,⟨s6,b6,k6⟩,L,hG,hS,fun r c _ _=>by unfold pvu;rw [b1T (by omega)]⟩
 ·intro i ρ ρ' G h hI;simpa [h] using hI
 ·clear h0 ρ hG hx k6 b6 e6 eh hi1 ij hbk hpl hsl hx2 hpl1
  rintro q ρ G hq gi gn ⟨g0,g1,g2,g6,g7,g39,hx,f6,L',hG,hS',hT⟩
  obtain ⟨vq,hvq⟩:∃ x,x=vs[q]'(by have:=h.rows.len;clear hG;omega):=⟨_,rfl⟩
  have hqL:q < L'.length:=by rw [hS'.len];omega
  have eq:=hG.head hqL
  have hq1:=hG.hia hqL
  rw [← hvq] at eq
  simp [C0E,gi,g39,hq1,eq]
  by_cases hqi:q=i
  ·subst hqi
   simp [t0k,g1]
   refine Rnd.mk (by simp [gi]) (by simp [gn]) ⟨by simp [g0],by simp [g1],by simp [g2],by simp [g6],by simp [g7],by simp [g39],hx,f6,L',hG,hS',fun r c h1 h2=>?_⟩
   rw [hT r c h1 h2]
   unfold pvu
   by_cases hrq:r=q
   ·subst hrq;rw [b1T (by omega),b1W (by omega)];unfold pvt;rw [b1W rfl]
   ·by_cases hlt:r < q
    ·rw [b1W (.inl hlt),b1W (by omega)]
    ·rw [b1T (by omega),b1T (by omega)]
  ·have hqi':¬ ((q:Int)=(i:Int)):=by omega
   have hjq:j < L'[q].length:=by rw [hS'.row q hqL];omega
   obtain ⟨w10,e10,f10⟩:=hG.num hqL hjq
   have qj:=hG.ia hqL hjq
   have hsq:=(hG.rows.own q hqL).slen
   rw [hS'.row q hqL] at hsq
   rw [← hvq] at qj e10 hsq
   simp only [RK.w,RK.b,RK.p_all] at qj e10
   have hb10:Tf L' q j=Tf L q j:=by rw [hT q j (by omega) (by omega)];unfold pvu;rw [b1T (by omega)]
   rw [hb10] at f10
   obtain ⟨s10,rfl,k10⟩:=f10
   have hfl2:fl≤G.size:=c1b hf hx.1
   simp [t0k,g1,hqi,hqi',C0F,g2,qj,e10,k10.cells,k10.plain,hfl2]
   generalize hN:Array.setIfInBounds (Array.push _ _) _ _=G2
   obtain ⟨hx2,b10⟩:=new1 hN
   clear hN
   have P10l:∀ r (hr:r < vs.length),slB vs[r] ≠ some G.size:=fun r hr' h5=>by
    have:=((hG.rows.own r (by have:=hG.rows.len;omega)).ge h5).2
    omega
   generalize hP10:Array.size G=P10 at *
   replace hG:=hG.mono hx2
   replace hx:=hx.trans hx2.frm
   replace f6:=f6.mono hx2
   replace k10:=k10.mono hx2
   have f10:Bx G2 P10 (Tf L q j):=⟨s10,b10,k10⟩
   simp [C0G,hsq]
   obtain ⟨W,hW⟩:∃ W,W=2 * n + m + 1:=⟨_,rfl⟩
   have hWi:(2 * (n:Int) + m + 1)=(W:Int):=by omega
   refine m0X (n:=W) (fun c ρ G=>ρ 0=.pointer (some ⟨p,0,none⟩)∧ρ 1=.int .i64 (i:Int)∧ρ 2=.int .i64 (j:Int)∧ρ 6=.pointer (some ⟨P6,0,none⟩)∧ρ 7=vi∧ρ 39=sR∧ρ 41=.int .i64 (q:Int)∧ρ 40=.int .i64 (L.length:Int)∧ρ 9=vq∧ρ 10=.pointer (some ⟨P10,0,none⟩)∧Frm a0c a0a H G∧Bx G P6 (Tf L i j)∧Bx G P10 (Tf L q j) ∧
     ∃ L',e0q .all fl G p n m L' D bs (IntKind.i64.wrap (k + 1)) sR sD sB vs∧ShT n m L' bs∧∀ r c',r < m + 2→c' < 2 * n + m + 1→Tf L' r c' = pvu (Tf L) i j D q c r c') rfl rfl (by decide) (by omega) (by simp) (by simp [hWi]) ?_ ?_ ?_ ?_
   ·exact ⟨by simp [g0],by simp [g1],by simp [g2],by simp [g6],by simp [g7],by simp [g39],by simp [gi],by simp [gn],by simp,by simp,hx,f6,f10,L',hG,hS',hT⟩
   ·intro i ρ ρ' G h hI;simpa [h] using hI
   ·clear g0 g1 g2 g6 g7 g39 gi gn hx f6 f10 hG hS' hT e10 eq hq1 qj hsq hb10 hqL hjq k10 b10 hx2 hfl2 hP10 L' ρ G
    rintro c ρ G hc gc gw ⟨g0,g1,g2,g6,g7,g39,gi,gn,g9,g10,hx,f6,f10,L',hG,hS',hT⟩
    have hqL:q < L'.length:=by rw [hS'.len];omega
    have hiL':i < L'.length:=by rw [hS'.len];omega
    have hcq:c < L'[q].length:=by rw [hS'.row q hqL];omega
    have hci:c < L'[i].length:=by rw [hS'.row i hiL'];omega
    obtain ⟨wq,eq,fq⟩:=hG.num hqL hcq
    obtain ⟨wi,ei,fi⟩:=hG.num hiL' hci
    have qc:=hG.ia hqL hcq
    have ic:=hG.ia hiL' hci
    have tq:Tf L' q c=Tf L q c:=by rw [hT q c (by omega) (by omega)];unfold pvu;rw [b1T (by omega)]
    have ti:Tf L' i c=Tf L i c:=by
     rw [hT i c (by omega) (by omega)];unfold pvu;split
     ·unfold pvt;rw [b1W rfl]
     ·rfl
    rw [tq] at fq
    rw [ti] at fi
    have qc':=qc
    rw [← hvq] at qc eq
    rw [← hvi1] at ic ei
    simp only [RK.w,RK.b,RK.p_all] at qc ic eq ei
    have hbk:=hG.blk
    rw [f0R] at hbk
    have dv:=hG.dv
    obtain ⟨s6,b6,k6⟩:=id f6
    obtain ⟨s10,b10,k10⟩:=id f10
    have v6:rV .all G (.agg #[.bool (a0m (Tf L i j)).1,s6]) (Tf L i j):=⟨s6,rfl,k6⟩
    have v10:rV .all G (.agg #[.bool (a0m (Tf L q j)).1,s10]) (Tf L q j):=⟨s10,rfl,k10⟩
    simp [C0H,gc]
    refine k0G ?_
    simp [v0A,g0,g6,g7,g9,g10,gc,hbk,qc,ic,eq,ei,b6,b10]
    have hxs:=hx.1
    have hq1:=fun (R':a0u) (hR':p0o .all R')=>J0F (fl:=fl) (R:=R') fq v6 v10 fi dv (by omega) (hz _ _) (hz _ _) (hz _ _) (hz _ _) hD hD0 hR'
    refine a0S.mono (hq1 _ trivial) ?_
    clear hq1
    rintro ws G3 ⟨fs,hx3⟩
    obtain ⟨G4,hst,hG4,hx4,hxb4⟩:=(hG.mono hx3).store (x:=(Tf L q c * Tf L i j - Tf L q j * Tf L i c).tdiv D) hqL hcq fs
    rw [← hvq] at hst hxb4
    simp only [RK.w,RK.b,RK.p_all] at hst
    have hvq6:slB vq ≠ some P6:=by rw [hvq];exact P6l q (by have:=h.rows.len;omega)
    have hvq10:slB vq ≠ some P10:=by rw [hvq];exact P10l q (by have:=h.rows.len;omega)
    have hlx:Lx G3 G4:=hx4.2 a0l (by decide) (by decide) (by decide)
    simp [g9,gc,qc,hst]
    refine Rnd.mk ?_ ?_ ?_
    ·simp [gc]
    ·simp [gw]
    refine ⟨by simp [g0],by simp [g1],by simp [g2],by simp [g6],by simp [g7],by simp [g39],by simp [gi],by simp [gn],by simp [g9],by simp [g10],hx.trans (hx3.frm.trans hx4),(f6.mono hx3).off hxb4 hlx hvq6,(f10.mono hx3).off hxb4 hlx hvq10,_,hG4,hS'.set hqL,fun r c' h1 h2=>?_⟩
    rw [y0b hS' hqL hcq,hT r c' h1 h2]
    unfold pvu
    by_cases hrc:r=q∧c' = c
    ·obtain ⟨rfl,rfl⟩:=hrc
     rw [b1W ⟨rfl,rfl⟩,b1W (by omega)]
     unfold pvt;rw [b1T hqi]
    ·rw [b1T hrc]
     by_cases hlt:r < q ∨ r=q∧c' < c
     ·rw [b1W hlt,b1W (by omega)]
     ·rw [b1T hlt,b1T (by omega)]
   ·rintro ρ G gc gw ⟨g0,g1,g2,g6,g7,g39,gi,gn,g9,g10,hx,f6,f10,L',hG,hS',hT⟩
    simp
    refine Rnd.mk gi gn ⟨g0,g1,g2,g6,g7,g39,hx,f6,L',hG,hS',fun r c h1 h2=>?_⟩
    rw [hT r c h1 h2,hW];exact z0X h2
 ·clear h0 ρ hG hx k6 b6 e6 eh hi1 ij hbk hpl hsl hx2 hpl1
  rintro ρ G gi gn ⟨g0,g1,g2,g6,g7,g39,hx,f6,L',hG,hS',hT⟩
  obtain ⟨s6,b6,k6⟩:=f6
  have hbk:=hG.blk
  rw [f0R] at hbk
  have hpl:=a0j hbk
  have hib:i < bs.length:=by omega
  have ib:=(hG.base hib).2
  have hiL':i < L'.length:=by rw [hS'.len];omega
  refine a0F ?_
  simp [v0B,g0,g1,g2,g6,hbk,hlow,hpl,ib,b6,k6.cells,k6.plain]
  generalize hS1:Array.setIfInBounds G p _=G1
  have t1:∀ {e:Nat},a0c ≠ e→LxT e G G1:=fun hne=>a0X hS1 hbk hne
  obtain ⟨G2,hst,ho,hxb⟩:=b0a.store (Q:=PK) (x:=j) (w:=.int .i64 (j:Int)) (hG.basis.lxm (Q':=PK) (t1 (by decide)) (fun _ _ h=>h)) hib (by decide) rfl rfl (fun _ _ _=>rfl) (by decide) (fun _ _ _ _ _ h=>h)
  have hob:=hG.basis.lxm (Q':=PK) (G':=G1) (t1 (by decide)) (fun _ _ h=>h)
  have tb:∀ {e:Nat},e0l ≠ e→LxT e G1 G2:=fun hne=>hob.lxT hne hxb
  simp [hst]
  refine ⟨⟨L',⟨s6,⟨?_,hlow,(k6.lx (t1 (by decide))).lx (tb (by decide)),?_,?_,ho⟩⟩,⟨hS'.len,hS'.row,by simp [hS'.base]⟩,fun r c h1 h2=>?_⟩,hx.trans ⟨c1b (by rw [← hS1];simp) hxb.1,fun e h1 h2 h3 b ro cs hb=>tb (d1B h3) b ro cs (t1 (d1B h1) b ro cs hb)⟩⟩
  ·have hw:=a0M hS1 hbk
   exact tb (by decide) _ _ _ (by rw [f0R];simpa using hw)
  ·exact (hG.heads.lxm (Q':=PV) (t1 (by decide)) (fun _ _ h=>h)).lxm (tb (by decide)) (fun _ _ h=>h)
  ·exact ⟨hG.rows.len,fun r hr=>((hG.rows.own r hr).lxm (Q':=PI) (t1 (by decide)) (fun cs x hx=>S0j.lx _ _ _ _ (t1 (by decide)) hx)).lxm (tb (by decide)) (fun cs x hx=>S0j.lx _ _ _ _ (tb (by decide)) hx),hG.rows.apart⟩
  ·rw [hT r c h1 h2];unfold pvu;rw [b1W (by omega)]
theorem j0m {F:RK} {p n m i j:Nat} {L:List (List Int)} {k D:Int} {bs:List Nat} {sR sD sB:Value} {vs:List Value} (h:e0q F fl H p n m L D bs k sR sD sB vs) (hf:fl≤H.size) (hS:ShT n m L bs) (hz:∀ r c,lz (Tf L r c) < 67108864) (hD:lz D < 67108864) (hD0:D ≠ 0) (hi:i < m) (hj:j < 2 * n + m) (hm:m < 1048576) (hn:n < 1048576) (hR:p0o F R) :
  a0S env fl (F.p s0t s0s) [.pointer (some ⟨p,0,none⟩),.int .i64 (i:Int),.int .i64 (j:Int)] H (fun _ H'=>((∃ L' sD',e0q F fl H' p n m L' (Tf L i j) (bs.set i j) (IntKind.i64.wrap (k + 1)) sR sD' sB vs∧ShT n m L' (bs.set i j)∧∀ r c,r < m + 2→c < 2 * n + m + 1→Tf L' r c=pvt (Tf L) i j D r c)∧Frm F.T F.E H H')∧f0z fl H H') R:=by
 cases F
 ·exact m0F h hf hS hz hD hD0 hi hj hm hn hR
 ·exact m0u h hf hS hz hD hD0 hi hj hm hn hR
end
section
open Go SX
set_option maxHeartbeats 4000000
variable {fl:Nat} {H G:a0e} {R:a0u} {v w u:Value} {F:RK}
theorem P0o {c:SCode} {i:Nat} {t:a0W} {Q:d0O} (I:Nat→a0W→a0e→Prop) (M:a0W→a0e→Prop) (k:Nat) (hI:I k t H)
  (step:∀ k t H,I k t H→W env fl c t H (l0b i (fun t' H'=>∃ k',k' < k∧I k' t' H') M Q) R)
  (rest:∀ t H,M t H→Q .normal t H):W env fl (.loop c) t H (e0L i Q) R:=by
 rw [← o0g (Q:=Q)]
 refine b0P (Z:=fun t H=>Q .normal t H) (Q:=Q) I M k hI step rest
theorem K0c {m C:Nat} {A T:Nat→Nat→Int} {neg:Nat→Prop} {base:Nat→Nat} {d:Int} (h:Tab m C A neg T base d) {i j r c:Nat} (hi:i < m) (hj:j≤C) (hp:T i j ≠ 0) (hr:r < m + 2) (hc:c≤C):pvt T i j d r c=pv T i j d r c:=by
 unfold pvt
 by_cases hri:r=i
 ·rw [b1W hri];unfold pv;rw [b1W hri]
 ·rw [b1T hri,h.exact hi hj hp hr hc hri,Int.mul_tdiv_cancel_left _ (by have:=h.pos;omega)]
theorem y0k {bs:List Nat} {i j k:Nat} (hi:i < bs.length):bf (bs.set i j) k=if k=i then j else bf bs k:=by
 unfold bf
 simp only [b1Q,c1z]
 by_cases h:i=k
 ·subst h;simp [hi]
 ·rw [b1T h,b1T (fun h2=>h h2.symm)]
theorem S0C {n m r c:Nat} {L:List (List Int)} {bs:List Nat} (h:ShT n m L bs) (ho:¬ (r < m + 2∧c≤2 * n + m)):Tf L r c=0:=by
 unfold Tf
 by_cases hr:r < L.length
 ·have:=h.row r hr
  have:=h.len
  rw [b1Q,b1Q,b1V hr,c1u,c1d (by omega)];rfl
 ·have e:L.getD r []=[]:=by rw [b1Q,c1d (by omega)];rfl
  rw [e];rfl
theorem Q0m {n m:Nat} {L:List (List Int)} {bs:List Nat} (h:ShT n m L bs) (hb:∀ r c,r < m + 2→c≤2 * n + m→lz (Tf L r c) < 67108864) (r c:Nat):lz (Tf L r c) < 67108864:=by
 by_cases ho:r < m + 2∧c≤2 * n + m
 ·exact hb r c ho.1 ho.2
 ·rw [S0C h ho,c0x];decide
def Zr (m C:Nat) (T:Nat→Nat→Int) (base:Nat→Nat):Prop:=∀ i,i < m→¬ base i < C→∀ c,c≤C→T i c=0
theorem Zr.pivot {m C:Nat} {A T T':Nat→Nat→Int} {base base':Nat→Nat} {d:Int} {i j:Nat} (h:Zr m C T base) (hi:i < m) (hj:j < C) (hT:∀ k c,k < m + 2→c≤C→T' k c=pv T i j d k c) (hb:∀ k,k < m→base' k=if k=i then j else base k):Zr m C T' base':=by
 intro r hr hbr c hc
 have h1:=hb r hr
 by_cases hri:r=i
 ·rw [b1W hri] at h1;omega
 ·rw [b1T hri] at h1
  rw [hT r c (by omega) hc]
  exact z0V (C:=C) (fun c hc=>h r hr (by omega) c hc) hri hc (by omega)
def Bnd (m C:Nat) (A:Nat→Nat→Int) (neg:Nat→Prop):Prop:=∀ T base d,Tab m C A neg T base d→(∀ r c,r < m + 2→c≤C→lz (T r c) < 67108864)∧lz d < 67108864
def Z0Q (F:RK) (fl p n m g:Nat) (L:List (List Int)) (bs:List Nat) (sR sB:Value) (vs:List Value) (A:Nat→Nat→Int) (neg:Nat→Prop) (H:a0e) (z:Int) (H':a0e):Prop :=
 ∃ L' D' bs' k' sD',e0q F fl H' p n m L' D' bs' k' sR sD' sB vs∧ShT n m L' bs'∧Tab m (2 * n + m) A neg (Tf L') (bf bs') D'∧(Zr m (2 * n + m) (Tf L) (bf bs)→Zr m (2 * n + m) (Tf L') (bf bs'))∧Frm F.T F.E H H' ∧
   ((z = -1∧∀ c,c < 2 * n + m→0≤Tf L' g c) ∨ (∃ j:Nat,z=j∧j < 2 * n + m∧Tf L' g j < 0∧∀ i,i < m→Tf L' i j≤0))
def Z0P (F:RK) (fl p n m g:Nat) (L:List (List Int)) (bs:List Nat) (sR sB:Value) (vs:List Value) (A:Nat→Nat→Int) (neg:Nat→Prop) (H:a0e) (c:Nat) (t:a0W) (G:a0e):Prop :=
 ∃ N ρ L' D' bs' k' sD',t=T 50 ρ∧N + c=((2 * n + m) + m) ^ m∧ρ 0=.pointer (some ⟨p,0,none⟩)∧ρ 1=.int .i64 (g:Int)∧Frm F.T F.E H G∧e0q F fl G p n m L' D' bs' k' sR sD' sB vs∧ShT n m L' bs'∧SX.Reach m (2 * n + m) g A neg N (Tf L') (bf bs') D'∧(Zr m (2 * n + m) (Tf L) (bf bs)→Zr m (2 * n + m) (Tf L') (bf bs'))
theorem w0a {p n m g:Nat} {L:List (List Int)} {k D:Int} {bs:List Nat} {sR sD sB:Value} {vs:List Value} {A:Nat→Nat→Int} {neg:Nat→Prop} (h:e0q F fl H p n m L D bs k sR sD sB vs) (hf:fl≤H.size) (hS:ShT n m L bs) (hT:Tab m (2 * n + m) A neg (Tf L) (bf bs) D) (hBd:Bnd m (2 * n + m) A neg) (hg:g=m ∨ g=m + 1) (hm:m < 1048576) (hn:n < 1048576) (hR:p0o F R) :
  a0S env fl (u0z F) [.pointer (some ⟨p,0,none⟩),.int .i64 (g:Int)] H (fun r H'=>(∃ z,r=.int .i64 z∧Z0Q F fl p n m g L bs sR sB vs A neg H z H')∧f0z fl H H') R:=by
 refine k0O T0n hf (h:=?_)
 intro ρ h0
 simp [o0e,v0i,h0]
 refine P0o (Z0P F fl p n m g L bs sR sB vs A neg H)
  (fun _ _=>False) (((2 * n + m) + m) ^ m) ⟨0,_,L,D,bs,k,sD,rfl,by omega,by simp [h0],by simp [h0],Frm.refl,h,hS,SX.Reach.zero hT,id⟩ ?_ (fun _ _ h=>c1j h id)
 clear h0 ρ
 rintro c _ G0 ⟨N,ρ,L',D',bs',k',sD',rfl,hN,g0,g1,hx,hG,hS',hre,hZ⟩
 have hTab:=hre.tab
 have hshort:=hre.short hg
 have hz:=Q0m hS' (hBd _ _ _ hTab).1
 have hlD:=(hBd _ _ _ hTab).2
 simp [v0j]
 refine b0P (fun c t G=>∃ q ρ,t=T 50 ρ∧q + c=2 * n + m∧ρ 0=.pointer (some ⟨p,0,none⟩)∧ρ 1=.int .i64 (g:Int)∧ρ 5=.int .i64 (q:Int)∧Ext G0 G∧∀ c',c' < q→0≤Tf L' g c')
  (fun t G=>∃ (q:Nat) (ρ:Nat→Value),t=T 50 ρ∧q≤2 * n + m∧ρ 0=.pointer (some ⟨p,0,none⟩)∧ρ 1=.int .i64 (g:Int)∧ρ 5=.int .i64 (q:Int)∧Ext G0 G∧(∀ c',c' < q→0≤Tf L' g c')∧(q < 2 * n + m→Tf L' g q < 0)) (2 * n + m) ⟨0,_,rfl,by omega,by simp [g0],by simp [g1],by simp,Ext.refl G0,fun c' h=>by omega⟩ ?_ ?_
 ·clear g0 g1 ρ
  rintro c _ G ⟨q,ρ,rfl,hq,g0,g1,g5,hx0,hpre⟩
  have hG1:=hG.mono hx0
  have hgL:g < L'.length:=by rw [hS'.len];omega
  have hbk:=hG1.blk
  have hsz:fl≤G.size:=by have:=hx.1;have:=hx0.1;omega
  have e2:((2 * n + m:Nat):Int)=2 * (n:Int) + m:=by omega
  by_cases hqc:q < 2 * n + m
  ·have hqL:q < L'[g].length:=by rw [hS'.row g hgL];omega
   obtain ⟨w1,e1,f1⟩:=hG1.num hgL hqL
   have eh:=hG1.head hgL
   have hi1:=hG1.hia hgL
   have gq:=hG1.ia hgL hqL
   obtain ⟨vg,hvg⟩:∃ x,x=vs[g]'(by have:=hG.rows.len;omega):=⟨_,rfl⟩
   rw [← hvg] at eh gq e1
   have hqc':(q:Int) < 2 * (n:Int) + m:=by omega
   simp
   refine a0F ?_
   simp [p0l,g0,g1,g5,hbk,hi1,eh,gq,e1,hqc']
   refine (q0k f1 hsz (hz _ _)).mono ?_
   rintro _ G2 ⟨rfl,hx2⟩
   by_cases hs:0≤Tf L' g q
   ·have hc:0≤c0V (Tf L' g q) 0:=by unfold c0V;rw [b1T (by omega)];split <;> omega
    simp [hc,v0k,g5,c0t (show q < 4611686018427387904 by omega)]
    refine ⟨c - 1,by omega,q + 1,_,rfl,by omega,by simp [g0],by simp [g1],by simp,hx0.trans hx2,fun c' h=>?_⟩
    by_cases h2:c' = q
    ·rw [h2];exact hs
    ·exact hpre c' (by omega)
   ·have hc:¬ 0≤c0V (Tf L' g q) 0:=by unfold c0V;rw [b1W (by omega)];omega
    simp [hc]
    exact ⟨q,_,rfl,by omega,by simp [g0],by simp [g1],by simp [g5],hx0.trans hx2,hpre,fun _=>by omega⟩
  ·have hqc':¬ (q:Int) < 2 * (n:Int) + m:=by omega
   simp
   refine a0F ?_
   simp [p0l,g0,g1,g5,hbk,hqc']
   exact ⟨q,_,rfl,by omega,by simp [g0],by simp [g1],by simp [g5],hx0,hpre,fun h=>c1j h hqc⟩
 ·clear g0 g1 ρ
  rintro _ G ⟨q,ρ,rfl,hq,g0,g1,g5,hx0,hpre,hneg⟩
  have hG1:=hG.mono hx0
  have hbk:=hG1.blk
  have hsz:fl≤G.size:=by have:=hx.1;have:=hx0.1;omega
  have e2:((2 * n + m:Nat):Int)=2 * (n:Int) + m:=by omega
  replace hx:=hx.trans hx0.frm
  by_cases hqc:q=2 * n + m
  ·have hqc':(q:Int)=2 * (n:Int) + m:=by omega
   simp [p0m,v0l,g0,g5,hbk,hqc']
   exact ⟨L',D',bs',k',sD',hG1,hS',hTab,hZ,hx,.inl ⟨rfl,fun c hc=>hpre c (by omega)⟩⟩
  ·have hqc':¬ (q:Int)=2 * (n:Int) + m:=by omega
   replace hneg:=hneg (by omega)
   simp [p0m,g0,g5,hbk,hqc',v0m]
   refine (s0z hG1 hsz hS' hz (show q < 2 * n + m by omega) hm).mono ?_
   rintro _ G2 ⟨⟨z,rfl,hz1⟩,hx2⟩
   have hG2:=hG1.mono hx2
   replace hx:=hx.trans hx2.frm
   rcases hz1 with ⟨rfl,hz1⟩ | ⟨o,rfl,ho,hB⟩
   ·simp [p0n,v0n,g5]
    exact ⟨L',D',bs',k',sD',hG2,hS',hTab,hZ,hx,.inr ⟨q,rfl,by omega,hneg,hz1⟩⟩
   ·have ho':¬ (o:Int) < 0:=by omega
    simp [p0n,v0o,g0,g5,ho']
    refine (j0m hG2 (by have:=hx.1;omega) hS' hz hlD (by have:=hTab.pos;omega) ho (show q < 2 * n + m by omega) hm hn hR).mono ?_
    rintro _ G3 ⟨⟨⟨L2,sD2,hG3,hS2,hT2⟩,hx3⟩,_⟩
    have hp:Tf L' o q ≠ 0:=by have:=hB.2.1;omega
    have hT3:∀ r c,r < m + 2→c≤2 * n + m→Tf L2 r c=pv (Tf L') o q D' r c:=fun r c h1 h2=>by
     rw [hT2 r c h1 (by omega)];exact K0c hTab ho (by omega) hp h1 h2
    have hb3:∀ r,r < m→bf (bs'.set o q) r=if r=o then q else bf bs' r:=fun r hr=>y0k (by rw [hS'.base];exact ho)
    simp
    exact ⟨c - 1,by omega,N + 1,_,L2,_,_,_,sD2,rfl,by omega,by simp [g0],by simp [g1],hx.trans hx3,hG3,hS2,SX.Reach.step hg hre (by omega) hneg hpre hB hT3 hb3 rfl,fun hz0=>(hZ hz0).pivot (A:=A) ho (by omega) hT3 hb3⟩
theorem U0s {T:Nat→Nat→Int} {i j r c:Nat} {d:Int} (hd:0 < d) (ex:r ≠ i→T r c * T i j - T r j * T i c=d * pv T i j d r c):pvt T i j d r c=pv T i j d r c:=by
 unfold pvt
 by_cases hri:r=i
 ·rw [b1W hri];unfold pv;rw [b1W hri]
 ·rw [b1T hri,ex hri,Int.mul_tdiv_cancel_left _ (by omega)]
theorem z0W {T T':Nat→Nat→Int} {i j r c:Nat} {d:Int} (h1:T r c=T' r c) (h2:T i j=T' i j) (h3:T r j=T' r j) (h4:T i c=T' i c):pvt T i j d r c=pvt T' i j d r c:=by
 unfold pvt;rw [h1,h2,h3,h4]
def Nr (m C i:Nat) (T:Nat→Nat→Int) (base:Nat→Nat):Prop:=(∀ r,r < m→¬ base r < C→T r C=0)∧∀ r,r < i→r < m→¬ base r < C→∀ c,c≤C→T r c=0
theorem Nr.step {m C i j:Nat} {T T1 T':Nat→Nat→Int} {base base':Nat→Nat} {d:Int} (h:Nr m C i T base) (hi:i < m) (hj:j < C) (h1:∀ r c,r ≠ i→r < m→c≤C→T1 r c=T r c) (h2:T1 i C=0)
  (hT:∀ k c,k < m + 2→c≤C→T' k c=pv T1 i j d k c) (hb:∀ k,k < m→base' k=if k=i then j else base k):Nr m C (i + 1) T' base':=by
 refine ⟨fun r hr hbr=>?_,fun r hri hr hbr c hc=>?_⟩
 ·have hb1:=hb r hr
  by_cases hre:r=i
  ·rw [b1W hre] at hb1;omega
  ·rw [b1T hre] at hb1
   rw [hT r C (by omega) (b1S _)]
   unfold pv
   rw [b1T hre,h1 r C hre hr (b1S _),h.1 r hr (by omega),h2];simp
 ·have hb1:=hb r hr
  by_cases hre:r=i
  ·rw [b1W hre] at hb1;omega
  ·rw [b1T hre] at hb1
   rw [hT r c (by omega) hc]
   exact z0V (C:=C) (fun c hc=>by rw [h1 r c hre hr hc];exact h.2 r (by omega) hr (by omega) c hc) hre hc (by omega)
theorem Z0J {ρ:Nat→Value} {c:Nat} {vi w1:Value} {z:Int} {Q:a0W→a0e→Prop} (g59:ρ 59=vi) (gc:ρ 61=.int .i64 (c:Int)) (ic:iaV F.w vi (.int .i64 (c:Int))=some (adr F.w vi c)) (e1:b0q G F.b F.w (adr F.w vi c)=some w1) (f1:rV F G w1 z) (hf:fl≤G.size)
  (key:∀ ρ' G5,Ext G G5→kpV F G5 (ρ' 6)=some w1→ρ' 5=.int .i64 (c:Int)→(∀ k,k ∈ [0,2,3,10,11,30,59,60,61]→ρ' k=ρ k)→Q (T 89 ρ') G5):WR env fl (i0G F) (T 89 ρ) G Q R:=by
 cases F
 ·simp only [RK.w,RK.b,RK.p_few] at ic e1
  simp [i0G,g59,gc,ic,e1]
  exact key _ _ (Ext.refl _) (by simp [kpV]) (by simp) (by simp)
 ·simp only [RK.w,RK.b,RK.p_all] at ic e1
  obtain ⟨sx,rfl,kx⟩:=f1
  simp [i0G,g59,gc,ic,e1,kx.cells,kx.plain,hf]
  generalize hN:Array.setIfInBounds (Array.push _ _) _ _=G5
  obtain ⟨hx5,b5⟩:=new1 hN
  exact key _ _ hx5 (by simp [kpV,b5]) (by simp) (by simp)
def Z0O (F:RK) (fl p n m:Nat) (sR sB:Value) (vs:List Value) (A:Nat→Nat→Int) (neg:Nat→Prop) (H H':a0e):Prop :=
 ∃ L' D' bs' k' sD',e0q F fl H' p n m L' D' bs' k' sR sD' sB vs∧ShT n m L' bs'∧Tab m (2 * n + m) A neg (Tf L') (bf bs') D'∧Frm F.T F.E H H'∧Zr m (2 * n + m) (Tf L') (bf bs')
def U0v (F:RK) (fl p n m:Nat) (sR sB:Value) (vs:List Value) (A:Nat→Nat→Int) (neg:Nat→Prop) (H:a0e) (i:Nat) (ρ:Nat→Value) (G:a0e):Prop :=
 ρ 0=.pointer (some ⟨p,0,none⟩)∧∃ L' D' bs' k' sD',e0q F fl G p n m L' D' bs' k' sR sD' sB vs∧ShT n m L' bs'∧Tab m (2 * n + m) A neg (Tf L') (bf bs') D'∧Frm F.T F.E H G∧Nr m (2 * n + m) i (Tf L') (bf bs')
theorem H0G {p n m:Nat} {L:List (List Int)} {k D:Int} {bs:List Nat} {sR sD sB:Value} {vs:List Value} {A:Nat→Nat→Int} {neg:Nat→Prop} (h:e0q F fl H p n m L D bs k sR sD sB vs) (hf:fl≤H.size) (hS:ShT n m L bs) (hT:Tab m (2 * n + m) A neg (Tf L) (bf bs) D) (hBd:Bnd m (2 * n + m) A neg) (h00:∀ r,r < m→¬ bf bs r < 2 * n + m→Tf L r (2 * n + m)=0) (hm:m < 1048576) (hn:n < 1048576) (hR:p0o F R) :
  a0S env fl (y0B F) [.pointer (some ⟨p,0,none⟩)] H (fun _ H'=>Z0O F fl p n m sR sB vs A neg H H'∧f0z fl H H') R:=by
 refine k0O T0l hf (h:=?_)
 intro ρ h0
 have hbk:=h.blk
 simp [o0c,u0X,h0,hbk]
 refine m0X (n:=m) (U0v F fl p n m sR sB vs A neg H) rfl rfl (by decide) (by omega) (by simp) (by simp) ?_ ?_ ?_ ?_
 ·exact ⟨by simp [h0],L,D,bs,k,sD,h,hS,hT,Frm.refl,h00,fun r hr=>by omega⟩
 ·intro i ρ ρ' G h hI;unfold U0v at *;simpa [h] using hI
 ·clear h0 ρ hbk
  rintro i ρ G hi gi gn ⟨g0,L1,D1,bs1,k1,sD1,hG,hS1,hT1,hx,hN⟩
  have hib:i < bs1.length:=by rw [hS1.base];exact hi
  obtain ⟨lb,ib⟩:=hG.base hib
  have hbk:=hG.blk
  have e2:((2 * n + m:Nat):Int)=2 * (n:Int) + m:=by omega
  simp [u0Y,gi]
  refine a0F ?_
  by_cases hreal:bf bs1 i < 2 * n + m
  ·have hreal':(bf bs1 i:Int) < 2 * (n:Int) + m:=by omega
   simp [p0j,g0,gi,hbk,ib,lb,hreal']
   refine Rnd.mk (by simp [gi]) (by simp [gn]) ⟨by simp [g0],L1,D1,bs1,k1,sD1,hG,hS1,hT1,hx,hN.1,fun r hr hrm hbr=>?_⟩
   by_cases hri:r=i
   ·subst hri;exact c1j hreal hbr
   ·exact hN.2 r (by omega) hrm hbr
  have hreal':¬ (bf bs1 i:Int) < 2 * (n:Int) + m:=by omega
  have hC0:=hN.1 i hi hreal
  simp [p0j,g0,gi,hbk,ib,lb,hreal',u0Z]
  refine m0X (n:=2 * n + m) (fun j ρ G'=>ρ 0=.pointer (some ⟨p,0,none⟩)∧ρ 2=.int .i64 (i:Int)∧ρ 11=.int .i64 (i:Int)∧ρ 10=.int .i64 (m:Int)∧Ext G G'∧∀ c,c < j→Tf L1 i c=0) rfl rfl (by decide) (by omega) (by simp) (by simp) ?_ ?_ ?_ ?_
  ·exact ⟨by simp [g0],by simp,by simp [gi],by simp [gn],Ext.refl G,fun c hc=>by omega⟩
  ·intro i ρ ρ' G h hI;simpa [h] using hI
  ·clear gi gn g0 hbk lb ib ρ
   rintro j ρ G0 hj gj gC ⟨g0,g2,gi,gn,hx0,hpre⟩
   replace hG:=hG.mono hx0
   replace hx:=hx.trans hx0.frm
   have hiL:i < L1.length:=by rw [hS1.len];omega
   have hjL:j < L1[i].length:=by rw [hS1.row i hiL];omega
   obtain ⟨w1,e1,f1⟩:=hG.num hiL hjL
   have e0:=hG.head hiL
   have hi1:=hG.hia hiL
   have ij:=hG.ia hiL hjL
   have hbk:=hG.blk
   obtain ⟨vi,hvi⟩:∃ x,x=vs[i]'(by have:=hG.rows.len;omega):=⟨_,rfl⟩
   rw [← hvi] at e0 ij e1
   have hz:=Q0m hS1 (hBd _ _ _ hT1).1
   have hlD:=(hBd _ _ _ hT1).2
   simp [v0a,gj]
   refine a0F ?_
   simp [v0b,g0,g2,gj,hbk,hi1,e0,ij,e1]
   refine (q0k f1 (by have:=hx.1;omega) (hz _ _)).mono ?_
   rintro _ G2 ⟨rfl,hx2⟩
   replace hG:=hG.mono hx2
   replace hx:=hx.trans hx2.frm
   replace hx0:=hx0.trans hx2
   clear e1 f1 hbk
   rcases Int.lt_trichotomy (Tf L1 i j) 0 with hneg | h0 | hpos
   ·have hc:c0V (Tf L1 i j) 0 = -1:=by unfold c0V;rw [b1W hneg]
    have hbk:=hG.blk
    have e0:=hG.head hiL
    rw [← hvi] at e0
    have hsl:=(hG.rows.own i hiL).slen
    rw [hS1.row i hiL] at hsl
    rw [← hvi] at hsl
    obtain ⟨W,hW⟩:∃ W,W=2 * n + m + 1:=⟨_,rfl⟩
    rw [← hW] at hsl
    simp [hc,k0s,p0k,r0z,g0,g2,hbk,hi1,e0,hsl]
    refine c0I (n:=W) (fun c ρ G'=>ρ 0=.pointer (some ⟨p,0,none⟩)∧ρ 2=.int .i64 (i:Int)∧ρ 3=.int .i64 (j:Int)∧ρ 11=.int .i64 (i:Int)∧ρ 10=.int .i64 (m:Int)∧ρ 59=vi∧Frm F.T F.E H G' ∧
      ∃ L2,e0q F fl G' p n m L2 D1 bs1 k1 sR sD1 sB vs∧ShT n m L2 bs1∧∀ r c',r < m + 2→c' < W→Tf L2 r c' = if r=i∧c' < c then -Tf L1 r c' else Tf L1 r c') rfl rfl (by decide) (by omega) (by simp) (by simp) ?_ ?_ ?_ ?_
    ·exact ⟨by simp [g0],by simp [g2],by simp [gj],by simp [gi],by simp [gn],by simp,hx,L1,hG,hS1,fun r c' _ _=>by rw [b1T (by omega)]⟩
    ·intro i ρ ρ' G h hI;simpa [h] using hI
    ·clear gi gn g0 g2 gj gC hx hx0 hx2 hbk hsl hi1 ij e0 hc
     rintro c ρ G hc gc gw ⟨g0,g2,g3,gi,gn,g59,hx,L2,hG,hS2,hT2⟩
     have hiL:i < L2.length:=by rw [hS2.len];omega
     have hcL:c < L2[i].length:=by rw [hS2.row i hiL];omega
     obtain ⟨w1,e1,f1⟩:=hG.num hiL hcL
     have e0:=hG.head hiL
     have hi1:=hG.hia hiL
     have ic:=hG.ia hiL hcL
     have hbk:=hG.blk
     have tc:Tf L2 i c=Tf L1 i c:=by rw [hT2 i c (by omega) hc,b1T (by omega)]
     rw [← hvi] at e0 ic e1
     have hfl:fl≤G.size:=by have:=hx.1;omega
     simp
     refine Z0J g59 gc ic e1 f1 hfl ?_
     intro ρ' G5 hx5 k6 g5 hk
     simp only [List.forall_mem_cons] at hk
     obtain ⟨k0,k2,k3,k10,k11,k30,k59,k60,k61,-⟩:=hk
     rw [g0] at k0;rw [g2] at k2;rw [g3] at k3;rw [gn] at k10;rw [gi] at k11;rw [g59] at k59;rw [gw] at k60;rw [gc] at k61
     replace hG:=hG.mono hx5
     replace hx:=hx.trans hx5.frm
     replace f1:=f1.mono hx5
     replace hbk:=hG.blk
     replace e0:=hG.head hiL
     rw [← hvi] at e0
     clear e1 hfl
     refine a0F ?_
     simp [r0A,k0,k2,hbk,hi1,e0,ic,g5,k6]
     refine (w0p f1 (by have:=hx.1;omega) (by rw [tc];exact hz _ _)).mono ?_
     rintro wn G3 ⟨fn,hx3⟩
     rw [tc] at fn
     obtain ⟨G4,hst,hG4,hx4,_⟩:=(hG.mono hx3).store (x:=-Tf L1 i c) hiL hcL fn
     rw [← hvi] at hst
     simp [ic,hst]
     refine Rnd.mk (by simp [k61]) (by simp [k60]) ⟨by simp [k0],by simp [k2],by simp [k3],by simp [k11],by simp [k10],by simp [k59],hx.trans (hx3.frm.trans hx4),_,hG4,hS2.set hiL,fun r c' h1 h2=>?_⟩
     rw [y0b hS2 hiL hcL,hT2 r c' h1 h2]
     by_cases hrc:r=i∧c' = c
     ·obtain ⟨rfl,rfl⟩:=hrc
      rw [b1W ⟨rfl,rfl⟩,b1W ⟨rfl,by omega⟩]
     ·rw [b1T hrc]
      by_cases hlt:r=i∧c' < c
      ·rw [b1W hlt,b1W ⟨hlt.1,by omega⟩]
      ·rw [b1T hlt,b1T (by omega)]
    ·clear gi gn g0 g2 gj gC hx hx0 hx2 hbk hsl hi1 ij e0 hc
     rintro ρ G gc gw ⟨g0,g2,g3,gi,gn,g59,hx,L2,hG,hS2,hT2⟩
     have hng:∀ r c,r < m + 2→c≤2 * n + m→Tf L2 r c=ng (Tf L1) i r c:=fun r c h1 h2=>by
      rw [hT2 r c h1 (by omega)];unfold ng
      by_cases hri:r=i
      ·subst hri;rw [b1W ⟨rfl,by omega⟩,b1W rfl]
      ·rw [b1T (fun h=>hri h.1),b1T hri]
     have hz2:∀ r c,lz (Tf L2 r c) < 67108864:=Q0m hS2 fun r c h1 h2=>by
      rw [hng r c h1 h2];unfold ng;split
      ·rw [e0Q];exact hz _ _
      ·exact hz _ _
     obtain ⟨hsw,hex⟩:=hT1.swapN hi hj hneg hC0
     simp [l0B,g0,g2,g3]
     refine (j0m hG (by have:=hx.1;omega) hS2 hz2 hlD (by have:=hT1.pos;omega) hi hj hm hn hR).mono ?_
     rintro _ G3 ⟨⟨⟨L3,sD2,hG3,hS3,hT3⟩,hx3⟩,_⟩
     have hT4:∀ r c,r < m + 2→c≤2 * n + m→Tf L3 r c=pv (ng (Tf L1) i) i j D1 r c:=fun r c h1 h2=>by
      rw [hT3 r c h1 (by omega),z0W (hng r c h1 h2) (hng i j (by omega) (by omega)) (hng r j h1 (by omega)) (hng i c (by omega) h2)]
      exact U0s hT1.pos (hex r c h1 h2)
     have hb3:∀ r,r < m→bf (bs1.set i j) r=if r=i then j else bf bs1 r:=fun r hr=>y0k hib
     have hd:Tf L2 i j = -Tf L1 i j:=by rw [hng i j (by omega) (by omega)];unfold ng;rw [b1W rfl]
     simp
     refine Rnd.mk (by simp [gi]) (by simp [gn]) ⟨by simp [g0],L3,_,_,_,sD2,hG3,hS3,hsw.congr hT4 (fun r hr=>hb3 r hr) hd,hx.trans hx3,hN.step hi hj (fun r c h1 _ _=>by unfold ng;rw [b1T h1]) (by unfold ng;rw [b1W rfl,hC0];rfl) hT4 hb3⟩
   ·have hc:c0V (Tf L1 i j) 0=0:=by rw [h0];rfl
    simp [hc,k0s]
    refine Rnd.mk (by simp [gj]) (by simp [gC]) ⟨by simp [g0],by simp [g2],by simp [gi],by simp [gn],hx0,fun c hc=>?_⟩
    by_cases hcj:c=j
    ·rw [hcj];exact h0
    ·exact hpre c (by omega)
   ·have hc:c0V (Tf L1 i j) 0=1:=by unfold c0V;rw [b1T (by omega),b1W (by omega)]
    simp [hc,k0s,p0k,l0B,g0,g2,gj]
    refine (j0m hG (by have:=hx.1;omega) hS1 hz hlD (by have:=hT1.pos;omega) hi hj hm hn hR).mono ?_
    rintro _ G3 ⟨⟨⟨L2,sD2,hG3,hS2,hT2⟩,hx3⟩,_⟩
    have hT3:∀ r c,r < m + 2→c≤2 * n + m→Tf L2 r c=pv (Tf L1) i j D1 r c:=fun r c h1 h2=>by
     rw [hT2 r c h1 (by omega)];exact K0c hT1 hi (by omega) (by omega) h1 h2
    have hb3:∀ r,r < m→bf (bs1.set i j) r=if r=i then j else bf bs1 r:=fun r hr=>y0k hib
    simp
    refine Rnd.mk (by simp [gi]) (by simp [gn]) ⟨by simp [g0],L2,_,_,_,sD2,hG3,hS2,(hT1.swap hi hj hpos hC0).congr hT3 (fun r hr=>hb3 r hr) rfl,hx.trans hx3,hN.step hi hj (fun _ _ _ _ _=>rfl) hC0 hT3 hb3⟩
  ·rintro ρ G' gj gC ⟨g0,g2,gi,gn,hx0,hpre⟩
   simp
   refine Rnd.mk gi gn ⟨g0,L1,D1,bs1,k1,sD1,hG.mono hx0,hS1,hT1,hx.trans hx0.frm,hN.1,fun r hr hrm hbr c hc=>?_⟩
   by_cases hri:r=i
   ·subst hri
    by_cases hcC:c=2 * n + m
    ·rw [hcC];exact hC0
    ·exact hpre c (by omega)
   ·exact hN.2 r (by omega) hrm hbr c hc
 ·rintro ρ G gi gn ⟨g0,L1,D1,bs1,k1,sD1,hG,hS1,hT1,hx,hN⟩
  simp
  exact ⟨L1,D1,bs1,k1,sD1,hG,hS1,hT1,hx,fun r hr hbr c hc=>hN.2 r hr hr hbr c hc⟩
theorem k0m {o:Option Nat} {H0 G':a0e} (h:Ext H0 G) (hx:c0Z o G G') (ho:∀ b,o=some b→H0.size≤b):Ext H0 G':=by
 refine ⟨c1b h.1 hx.1,fun b hb=>?_⟩
 rw [hx.2 b (c1m hb h.1) (fun he=>by have:=ho b he;omega)]
 exact h.2 b hb
theorem e0o.insert {eN sz fl2:Nat} {P:a0e→List Value→Int→Prop} {a b:List Value} {A B:List (List Int)} {x:Value} {X:List Int} (h:e0o eN sz P fl G (a ++ b) (A ++ B)) (hl:a.length=A.length)
  (hx:b0a P fl2 G eN sz x X) (hf:fl≤fl2) (hn:∀ w ∈ a ++ b,∀ k,slB w=some k→k < fl2):e0o eN sz P fl G (a ++ x :: b) (A ++ X :: B):=by
 have hlen:=h.len
 simp only [c1g] at hlen
 have key:∀ i (h1:i < (A ++ X :: B).length) (h2:i < (a ++ x :: b).length),(i=a.length∧(a ++ x :: b)[i]=x∧(A ++ X :: B)[i]=X) ∨
   ∃ j,∃ (j1:j < (A ++ B).length) (j2:j < (a ++ b).length),(a ++ x :: b)[i]=(a ++ b)[j]∧(A ++ X :: B)[i]=(A ++ B)[j]∧j=(if i < a.length then i else i - 1)∧i ≠ a.length:=by
  intro i h1 h2
  simp only [c1g,c1G] at h1 h2
  by_cases hi:i < a.length
  ·exact .inr ⟨i,by simp;omega,by simp;omega,by rw [c1I hi,c1I hi],by rw [c1I (by omega),c1I (by omega)],by rw [b1W hi],by omega⟩
  ·by_cases he:i=a.length
   ·subst he
    exact .inl ⟨rfl,by simp,by rw [c1o (by omega)];simp [hl]⟩
   ·obtain ⟨d,rfl⟩:∃ d,i=a.length + 1 + d:=⟨i - a.length - 1,by omega⟩
    refine .inr ⟨a.length + d,by simp;omega,by simp;omega,?_,?_,by rw [b1T hi];omega,he⟩
    ·rw [c1o (by omega),c1o (by omega)]
     simp only [show a.length + 1 + d - a.length=d + 1 by omega,e1d,show a.length + d - a.length=d by omega]
    ·rw [c1o (by omega),c1o (by omega)]
     simp only [show a.length + 1 + d - A.length=d + 1 by omega,e1d,show a.length + d - A.length=d by omega]
 have xge:∀ k,slB x=some k→fl2≤k:=fun k hk=>(hx.ge hk).1
 refine ⟨by simp;omega,fun i hi=>?_,fun i j hi hj hij=>?_⟩
 ·rcases key i hi (by simp at hi ⊢;omega) with ⟨_,e1,e2⟩ | ⟨j,j1,j2,e1,e2,_⟩
  ·rw [e1,e2];exact hx.low hf
  ·rw [e1,e2];exact h.own j j1
 ·rcases key i hi (by simp at hi ⊢;omega) with ⟨i0,e1,_⟩ | ⟨i',i1,i2,e1,_,ie,ine⟩ <;> rcases key j hj (by simp at hj ⊢;omega) with ⟨j0,e3,_⟩ | ⟨j',j1,j2,e3,_,je,jne⟩
  ·omega
  ·rw [e1,e3]
   cases hk:slB x with
   | none=>exact .inl rfl
   | some k =>
    right;intro h5
    have:=hn _ (c1a j2) k h5.symm
    have:=xge k hk
    omega
  ·rw [e1,e3]
   cases hk:slB (a ++ b)[i'] with
   | none=>exact .inl rfl
   | some k =>
    right;intro h5
    have:=hn _ (c1a i2) k hk
    have:=xge k h5.symm
    omega
  ·rw [e1,e3]
   refine h.apart i' j' i1 j1 ?_
   split at ie <;> split at je <;> omega
def r7:RK→a0e→Nat→Prop
 | .few,G,q=>a0e.blk G q=.row false d0r [.int .i64 0]
 | .all,G,q=>Bx G q 0
theorem r7.mono {G':a0e} {q:Nat} (h:r7 F G q) (hx:Ext G G'):r7 F G' q:=by cases F;exact hx.blk h;exact Bx.mono h hx
theorem r7.off {G':a0e} {q:Nat} {o:Option Nat} (h:r7 F G q) (hx:c0Z o G G') (hl:Lx G G') (ho:o ≠ some q):r7 F G' q:=by cases F;exact (hx.2 q (a0j h) ho).trans h;exact Bx.off h hx hl ho
theorem r7.lxt {G':a0e} {q:Nat} (h:r7 F G q) (hx:LxT F.E G G') (hl:Lx G G'):r7 F G' q:=by
 cases F
 ·exact hx _ _ _ h
 ·obtain ⟨s,h1,h2⟩:=h;exact ⟨s,hx _ _ _ h1,h2.lx hl⟩
theorem r7.lt {q:Nat} (h:r7 F G q):q < G.size:=by
 cases F
 ·exact a0j h
 ·obtain ⟨s,h,_⟩:=h;exact a0j h
abbrev RK.Q (F:RK):Nat:=F.p a0w a0t
structure rMd (F:RK) (H:a0e) (P2 P3 P6 P7 p n m:Nat) (sv:List Value) (rs:List Value) (M:List (List Int)) (sR sD sB:Value) (vs:List Value) (bs:List Nat) (G:a0e):Prop where
 ext:Ext H G
 b2:a0e.blk G P2=.row false (F.p a0i a0h) []
 b3:a0e.blk G P3=.row false a0G sv
 b6:a0e.blk G P6=.row false F.Q [.pointer (some ⟨p,0,none⟩)]
 b7:r7 F G P7
 bp:a0e.blk G p=.row false F.T (o0b F n m sR 1 sD sB 0)
 d:rD F G sD 1
 rows:e0o F.E F.w F.P H.size G rs M
 p7:∀ w ∈ rs,slB w ≠ some P7
 heads:b0a PV H.size G F.S 1 sR vs
 basis:b0a PK H.size G e0l 1 sB bs
 low:H.size≤p
section
variable {P2 P3 P6 P7 p n m i j:Nat} {sv rs vs:List Value} {M:List (List Int)} {sR sD sB:Value} {bs:List Nat} {x:Int}
theorem rMd.mono {G':a0e} (h:rMd F H P2 P3 P6 P7 p n m sv rs M sR sD sB vs bs G) (hx:Ext G G'):rMd F H P2 P3 P6 P7 p n m sv rs M sR sD sB vs bs G' :=
 ⟨h.ext.trans hx,hx.blk h.b2,hx.blk h.b3,hx.blk h.b6,h.b7.mono hx,hx.blk h.bp,h.d.mono hx,h.rows.mono Q0z hx,h.p7,h.heads.mono u0Q hx,h.basis.mono u0P hx,h.low⟩
theorem rMd.store (h:rMd F H P2 P3 P6 P7 p n m sv rs M sR sD sB vs bs G) (hi:i < M.length) (hj:j < M[i].length) {w:Value} (hw:rV F G w x) :
  ∃ G',e0Z H.size G F.w (adr F.w (rs[i]'(by have:=h.rows.len;omega)) j) w=some G'∧rMd F H P2 P3 P6 P7 p n m sv rs (M.set i (M[i].set j x)) sR sD sB vs bs G'∧c0Z (slB (rs[i]'(by have:=h.rows.len;omega))) G G'∧Lx G G'∧G.size≤G'.size:=by
 obtain ⟨G',h1,h2,h3,h4⟩:=h.rows.store Q0z hi hj (w:=w) (x:=x) hw.st.1 hw.st.2.1 hw.st.2.2
 have hr:=h.rows.own i hi
 have lx:∀ {e:Nat},F.E ≠ e→LxT e G G':=fun hne=>hr.lxT hne h3
 exact ⟨G',h1,⟨k0m h.ext h3 (fun b hb=>(hr.ge hb).1),lx (by cases F <;> decide) _ _ _ h.b2,lx (by cases F <;> decide) _ _ _ h.b3,lx (by cases F <;> decide) _ _ _ h.b6,h.b7.off h3 h4 (h.p7 _ (c1a _)),lx (by cases F <;> decide) _ _ _ h.bp,h.d.lx h4,h2,h.p7,h.heads.lxm (lx (by cases F <;> decide)) (fun _ _ h=>h),h.basis.lxm (lx (by cases F <;> decide)) (fun _ _ h=>h),h.low⟩,h3,h4,h3.1⟩
theorem rMd.ia (h:rMd F H P2 P3 P6 P7 p n m sv rs M sR sD sB vs bs G) (hi:i < M.length) (hj:j < M[i].length):iaV F.w (rs[i]'(by have:=h.rows.len;omega)) (.int .i64 j)=some (adr F.w (rs[i]'(by have:=h.rows.len;omega)) j):=(h.rows.own i hi).sls.ia hj
theorem rMd.num (h:rMd F H P2 P3 P6 P7 p n m sv rs M sR sD sB vs bs G) (hi:i < M.length) (hj:j < M[i].length) :
  ∃ w,b0q G F.b F.w (adr F.w (rs[i]'(by have:=h.rows.len;omega)) j)=some w∧rV F G w (Tf M i j):=by
 rw [G0J hi hj]
 cases F
 ·obtain ⟨w,h1,h2,h3⟩:=(h.rows.own i hi).sls.load1 (j:=j) hj;exact ⟨w,h1,by simpa using h2,h3⟩
 ·obtain ⟨cs,h1,_,h3⟩:=Sls.load (h.rows.own i hi).sls (j:=j) hj (by decide);exact ⟨_,h1,h3⟩
theorem rMd.bl (h:rMd F H P2 P3 P6 P7 p n m sv rs M sR sD sB vs bs G) (hi:i < M.length) (hj:j < M[i].length):∃ b,AI.blkOf (adr F.w (rs[i]'(by have:=h.rows.len;omega)) j)=[b]∧P3 ≠ b∧b < G.size:=by
 obtain ⟨b,h1,h2,h3⟩:=(h.rows.own i hi).adr_blk hj
 refine ⟨b,h1,?_,h2⟩
 rintro rfl
 exact (h.rows.own i hi).ne h.b3 (by cases F <;> decide) h3
theorem rMd.dv (h:rMd F H P2 P3 P6 P7 p n m sv rs M sR sD sB vs bs G):rV F G (dvV F 1 sD) 1:=by
 have:=h.d
 cases F
 ·exact ⟨rfl,this⟩
 ·exact ⟨sD,rfl,this⟩
theorem rMd.ins {a b:List Value} {A B:List (List Int)} {G':a0e} {w:Value} {X:List Int} (h:rMd F H P2 P3 P6 P7 p n m sv (a ++ b) (A ++ B) sR sD sB vs bs G) (hl:a.length=A.length) (hw:b0a F.P G.size G' F.E F.w w X) (hx:Ext G G'):rMd F H P2 P3 P6 P7 p n m sv (a ++ w :: b) (A ++ X :: B) sR sD sB vs bs G':=by
 have h':=h.mono hx
 refine ⟨h'.ext,h'.b2,h'.b3,h'.b6,h'.b7,h'.bp,h'.d,h'.rows.insert hl hw h.ext.1 (fun y hy k hk=>?_),fun y hy=>?_,h'.heads,h'.basis,h'.low⟩
 ·obtain ⟨i,hi,rfl⟩:=c1Z hy
  exact ((h.rows.own i (by have:=h.rows.len;omega)).ge hk).2
 ·have h7:=h.b7.lt
  rcases c1s.1 hy with h1 | h1
  ·exact h.p7 _ (c1s.2 (.inl h1))
  ·rcases d1m.1 h1 with h1 | h1
   ·rw [h1];intro hk;have:=(hw.ge hk).1;omega
   ·exact h.p7 _ (c1s.2 (.inr h1))
theorem rMd.push2 (h:rMd F H P2 P3 P6 P7 p n m sv rs M sR sD sB vs bs G) {w:Value} (hw:a0q w=true) {b:Nat} (hv:vs.length < 1073741824) (hb:bs.length < 1073741824) :
  ∃ sR' G1 sB' G2,h0B H.size (G.push (.row false F.S [w])) F.S 1 24 sR (.slice (some ⟨G.size,0,none⟩) 1 1)=some (sR',G1)∧h0B H.size (G1.push (.row false e0l [.int .i64 (b:Int)])) e0l 1 8 sB (.slice (some ⟨G1.size,0,none⟩) 1 1)=some (sB',G2) ∧
   a0e.blk G1 P6=.row false F.Q [.pointer (some ⟨p,0,none⟩)]∧a0e.blk G1 p=.row false F.T (o0b F n m sR 1 sD sB 0) ∧
   a0e.blk G2 P6=.row false F.Q [.pointer (some ⟨p,0,none⟩)]∧a0e.blk G2 p=.row false F.T (o0b F n m sR 1 sD sB 0)∧a0R sR' = [sR']∧a0q sR' = true∧a0R sB' = [sB']∧a0q sB' = true ∧
   (∀ k,k ∈ AI.blkW sR→k ≠ P6∧k ≠ p)∧(∀ k,k ∈ AI.blkW sB→k ≠ P6) ∧
   ∀ G3,Array.setIfInBounds G2 p (.row false F.T (o0b F n m sR' 1 sD sB' 0))=G3→rMd F H P2 P3 P6 P7 p n m sv rs M sR' sD sB' (vs ++ [w]) (bs ++ [b]) G3:=by
 obtain ⟨sR',G1,a1,o1,x1,y1⟩:=b0a.app (P:=PV) (sz:=1) (e:=F.S) (by cases F <;> decide) (fun _ _ _ _ _ h=>h) h.heads (e2:=F.S) (c:=1) (bytes:=24) (new:=[w]) (x:=w) rfl rfl (by simp [hw]) hv (by omega) (by omega) h.ext.1
 have lx1:∀ {e:Nat},F.S ≠ e→LxT e G G1:=fun hne=>h.heads.lxT hne x1
 have e1:Ext H G1:=y1 H (b1S _) h.ext
 obtain ⟨sB',G2,a2,o2,x2,y2⟩:=b0a.app (P:=PK) (sz:=1) (e:=e0l) (by cases F <;> decide) (fun _ _ _ _ _ h=>h) (h.basis.lxm (Q':=PK) (lx1 (by cases F <;> decide)) (fun _ _ h=>h)) (e2:=e0l) (c:=1) (bytes:=8) (new:=[.int .i64 (b:Int)]) (x:=b) rfl rfl rfl hb (by omega) (by omega) e1.1
 have hob:=h.basis.lxm (Q':=PK) (G':=G1) (lx1 (by cases F <;> decide)) (fun _ _ h=>h)
 have lx2:∀ {e:Nat},e0l ≠ e→LxT e G1 G2:=fun hne=>hob.lxT hne x2
 have e2:Ext H G2:=y2 H (b1S _) e1
 have p1:=lx1 (by cases F <;> decide) _ _ _ h.bp
 have p2:=lx2 (by cases F <;> decide) _ _ _ p1
 have q1:=lx1 (by cases F <;> decide) _ _ _ h.b6
 have q2:=lx2 (by cases F <;> decide) _ _ _ q1
 have nR6:=h.heads.ne h.b6 (by cases F <;> decide)
 have nRp:=h.heads.ne h.bp (by cases F <;> decide)
 have nB6:=h.basis.ne h.b6 (by cases F <;> decide)
 have hR:=h.heads.blkOf
 have hB:=h.basis.blkOf
 refine ⟨sR',G1,sB',G2,a1,a2,q1,p1,q2,p2,o1.cells.1,o1.cells.2,o2.cells.1,o2.cells.2,fun k hk=>?_,fun k hk=>?_,fun G3 hS=>?_⟩
 ·rcases hR with h0 | ⟨c,h0,h1⟩
  ·rw [h0] at hk;simp at hk
  ·rw [h0] at hk
   have:k=c:=by simpa using hk
   subst this
   exact ⟨fun h5=>nR6 (by rw [h1,h5]),fun h5=>nRp (by rw [h1,h5])⟩
 ·rcases hB with h0 | ⟨c,h0,h1⟩
  ·rw [h0] at hk;simp at hk
  ·rw [h0] at hk
   have:k=c:=by simpa using hk
   subst this
   exact fun h5=>nB6 (by rw [h1,h5])
 ·have lx3:∀ {e:Nat},F.T ≠ e→LxT e G2 G3:=fun hne=>a0X hS p2 hne
  have lxx:∀ {e:Nat},F.S ≠ e→e0l ≠ e→F.T ≠ e→LxT e G G3:=fun h1 h2 h3 b ro cs hb=>lx3 h3 b ro cs (lx2 h2 b ro cs (lx1 h1 b ro cs hb))
  have hl:Lx G G3:=lxx (by cases F <;> decide) (by cases F <;> decide) (by cases F <;> decide)
  exact ⟨b0I hS e2 h.low,lxx (by cases F <;> decide) (by cases F <;> decide) (by cases F <;> decide) _ _ _ h.b2,lxx (by cases F <;> decide) (by cases F <;> decide) (by cases F <;> decide) _ _ _ h.b3,lxx (by cases F <;> decide) (by cases F <;> decide) (by cases F <;> decide) _ _ _ h.b6,h.b7.lxt (lxx (by cases F <;> decide) (by cases F <;> decide) (by cases F <;> decide)) hl,a0M hS p2,h.d.lx hl,⟨h.rows.len,fun r hr=>(h.rows.own r hr).lxm (lxx (by cases F <;> decide) (by cases F <;> decide) (by cases F <;> decide)) (fun cs x hx=>Q0z.lx _ _ _ _ hl hx),h.rows.apart⟩,h.p7,
   (o1.lxm (Q':=PV) (lx2 (by cases F <;> decide)) (fun _ _ h=>h)).lxm (lx3 (by cases F <;> decide)) (fun _ _ h=>h),o2.lxm (lx3 (by cases F <;> decide)) (fun _ _ h=>h),h.low⟩
theorem rMd.one (h:rMd F H P2 P3 P6 P7 p n m sv rs M sR sD sB vs bs G) (hf:fl≤G.size) (hb:n < 1048576) (hc:m < 1048576) :
  a0S env fl (F.p m0A m0z) [.pointer (some ⟨P6,0,none⟩),.pointer (some ⟨P7,0,none⟩)] G (fun r G'=>b0a F.P G.size G' F.E F.w r (List.replicate (2 * n + m + 1) 0)∧Ext G G') R:=by
 cases F
 ·exact m0E hf h.b6 h.bp h.b7 (by omega)
 ·obtain ⟨s7,b7,k7⟩:=h.b7;exact m0t hf h.b6 h.bp b7 k7 (by omega)
end
theorem j0v {z:Int} (hf:fl≤H.size) (hz:f0h z) :
  a0S env fl s0u [.int .i64 z] H (fun r H'=>r=.int .i64 z∧Ext H H') R:=by
 refine a0g T0p hf (h:=?_)
 intro ρ h0
 obtain ⟨h1,h2⟩:=hz
 have h1':¬ z≤-2147483648:=by omega
 have h2':¬ 2147483648≤z:=by omega
 simp [G0i,t0O,t0P,t0R,h0,h1,h2,h1',h2']
theorem y0X {z:Int} (h:b0r H v (a0m z)) (hf:fl≤H.size) (hz:f0h z) :
  a0S env fl i0n [eV,v] H (fun r H'=>rV .few H' r z∧Ext H H') R:=by
 have hl:lz z < 1073741824:=by
  have:lz z≤1:=q0Y (by obtain ⟨h1,h2⟩:=hz;omega)
  omega
 refine a0g T0o hf (h:=?_)
 intro ρ h0
 obtain ⟨s0,rfl,k0⟩:=id h
 simp [G0h,t0K,t0L,h0,eV,k0.cells,k0.plain]
 generalize hG:Array.push (Array.push H _) _=G
 obtain ⟨hx2,_,b0⟩:=push2 hG
 have hx:=Ext.refl H
 clear hG
 replace hx:=hx.trans hx2
 refine (l0f (h.mono hx) hx.1 hl).mono ?_
 rintro _ G2 ⟨rfl,hx2⟩
 replace hx:=hx.trans hx2
 unfold toV
 have hfit:q0f z=true:=by
  unfold q0f
  obtain ⟨h1,h2⟩:=hz
  simp;omega
 simp [t0M,hfit,t0N]
 refine (j0v hx.1 hz).mono ?_
 rintro _ G3 ⟨rfl,hx2⟩
 simp
 exact fun _=>⟨rfl,hz⟩
theorem S0x {z:Int} (h:b0r H v (a0m z)) (hf:fl≤H.size) (hz:f0h z):a0S env fl (F.p i0n j0c) [eV,v] H (fun r H'=>rV F H' r z∧Ext H H') R:=by
 cases F
 ·exact y0X h hf hz
 ·exact h0K h hf
theorem S0w {a b:Int} {p:Nat} {cs:List Value} {va vb:Value} (hf:fl≤H.size) (hb:a0e.blk H p=.row false F.T cs) (ha:rV F H va a) (hbz:rV F H vb b) (la:lz a < 67108864) (lb:lz b < 67108864) (hR:p0o F R) :
  a0S env fl (F.p w0I w0G) [.pointer (some ⟨p,0,none⟩),va,vb] H (fun r H'=>rV F H' r (a - b)∧Ext H H') R:=by
 cases F
 ·obtain ⟨rfl,ha⟩:=ha;obtain ⟨rfl,hbz⟩:=hbz
  exact o0F hf hb ha hbz hR
 ·exact o0r hf hb ha hbz la lb
theorem Sls.load1x {α:Type} {P:a0e→List Value→α→Prop} {e:Nat} {v:Value} {l:List α} (h:Sls P H e 1 v l) (hx:Ext H G) {j:Nat} (hj:j < l.length):∃ w,b0q G false 1 (adr 1 v j)=some w∧P H [w] l[j]:=by
 obtain ⟨cs,h1,h2⟩:=h
 refine ⟨_,h1.load1 hx hj,?_⟩
 have h3:=h2 j hj
 have hl:=h1.1
 have:(cs.drop (j * 1)).take 1=[cs.getD j undef]:=by
  have hjc:j < cs.length:=by omega
  have e1:cs.getD j undef=cs[j]:=by simp [b1Q,hjc]
  rw [d1p,c1V hjc,e1];rfl
 rw [this] at h3;exact h3
theorem z0b {e bytes:Nat} {l:List Value} {a b:Value} (h:b0a PV fl G e 1 v l) (ha:a0q a=true) (hb:a0q b=true) (hl:l.length + 2≤1073741824) (hby:bytes≤1024) (hfl:fl≤G.size) :
  ∃ v' G',h0B fl (G.push (.row false e [a,b])) e 1 bytes v (.slice (some ⟨G.size,0,none⟩) 2 2)=some (v',G')∧b0a PV fl G' e 1 v' (l ++ [a,b])∧c0Z (slB v) G G'∧(∀ H0,H0.size≤fl→Ext H0 G→Ext H0 G'):=by
 obtain ⟨cs,h1,h2⟩:=h
 have hx:Sl (G.push (.row false e [a,b])) e 1 (.slice (some ⟨G.size,0,none⟩) 2 2) 2 [a,b]:=(Own.mk (fl:=0) a0v rfl (c1S _)).sl
 obtain ⟨v',G',a1,a2,a3,a4⟩:=k0H (h1.mono (Ext.push (Ext.refl G))) hx (by simp [ha,hb]) hl hby (by omega) (bytes:=bytes) (by simp;omega)
 have hcl:=h1.1
 rw [d1p] at hcl
 refine ⟨v',G',a1,⟨cs ++ [a,b],by simpa using a2,fun k hk=>?_⟩,⟨?_,fun c hc hne=>?_⟩,fun H0 k1 k2=>a4 H0 k1 k2.push⟩
 ·have hcv:cs=l:=by
   apply e1y hcl
   intro j j1 j2
   have h3:=h2 j j2
   rw [d1p,c1V j1] at h3
   have:[cs[j]]=[l[j]]:=h3
   simpa using this
  subst hcv
  show ((cs ++ [a,b]).drop (k * 1)).take 1=[(cs ++ [a,b])[k]]
  rw [d1p,c1V hk];rfl
 ·have:=a3.1;simp at this;omega
 ·rw [a3.2 c (by simp;omega) hne,d0s hc]
theorem U0j {G3:a0e} {z1 z2 r2:Blk} (hN:Array.setIfInBounds (Array.push (Array.push G z1) z2) (G.size + 1) r2=G3):Ext G G3∧a0e.blk G3 G.size=z1∧a0e.blk G3 (G.size + 1)=r2:=by
 rw [← hN]
 exact ⟨(Ext.refl G).push.push.set (Nat.le_succ _),by rw [a0Q (Nat.succ_ne_self _)];simp,by rw [a0I (by simp)]⟩
theorem g0p {W i j r c:Nat} {L:List (List Int)} {x:Int} (hi:i < L.length) (hj:j < L[i].length):Tf (L.set i (L[i].set j x)) r c=if r=i∧c=j then x else Tf L r c:=by
 unfold Tf
 simp only [b1Q,c1z]
 by_cases hri:i=r
 ·subst hri
  simp only [c1F,hi,c1u,c1z,true_and]
  by_cases hcj:j=c
  ·subst hcj;simp [hj]
  ·rw [b1T hcj,b1T (fun h=>hcj h.symm),b1V hi];rfl
 ·rw [b1T hri,b1T (fun h=>hri h.1.symm)]
def Rec (W:Nat) (M:List (List Int)):Prop:=∀ i (h:i < M.length),M[i].length=W
theorem Rec.set {W i j:Nat} {M:List (List Int)} {x:Int} (h:Rec W M) (hi:i < M.length):Rec W (M.set i (M[i].set j x)):=by
 intro r hr
 have hr':r < M.length:=by simpa using hr
 by_cases hri:r=i
 ·subst hri;simp [h r hr']
 ·rw [e1C (by omega)];exact h r hr'
theorem Rec.ins {W i:Nat} {M:List (List Int)} {X:List Int} (h:Rec W M) (hX:X.length=W):Rec W (M.take i ++ X :: M.drop i):=by
 intro r hr
 have hm:(M.take i ++ X :: M.drop i)[r] ∈ M.take i ++ X :: M.drop i:=c1a _
 rcases c1s.1 hm with h1 | h1
 ·obtain ⟨k,hk,e⟩:=c1Z (d1I h1);rw [← e];exact h k hk
 ·rcases d1m.1 h1 with h1 | h1
  ·rw [h1];exact hX
  ·obtain ⟨k,hk,e⟩:=c1Z (List.mem_of_mem_drop h1);rw [← e];exact h k hk
theorem S0B {i r c:Nat} {M:List (List Int)} {X:List Int} (hi:i≤M.length):Tf (M.take i ++ X :: M.drop i) r c=if r < i then Tf M r c else if r=i then X.getD c 0 else Tf M (r - 1) c:=by
 have hl:(M.take i).length=i:=by simp;omega
 unfold Tf
 simp only [b1Q]
 by_cases h1:r < i
 ·rw [b1W h1,c1D (by omega),c1Y,b1W h1]
 ·rw [b1T h1,c1K (by omega),hl]
  by_cases h2:r=i
  ·subst h2;simp
  ·rw [b1T h2,List.getElem?_cons,b1T (by omega),d1e,show i + (r - i - 1)=r - 1 by omega]
theorem f0d {n c:Nat}:(List.replicate n (0:Int)).getD c 0=0:=by
 rw [b1Q,d1Z];split <;> rfl
end
end Go.Proofs.YtilekhkgobmolaaGreat.AI
