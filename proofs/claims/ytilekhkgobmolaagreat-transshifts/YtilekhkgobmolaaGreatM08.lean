/- Part 9 of the proof: SxBland, SxRun, SxCert, AiSy2, AiSy3, AiSy4, AiSy5, AiSy6, AiSy7, AiSy8. -/
import Derived.Test.YtilekhkgobmolaaGreatM07
set_option linter.unusedVariables false
set_option linter.unusedSimpArgs false
set_option linter.unusedSectionVars false
namespace Go.Proofs.YtilekhkgobmolaaGreat.SX
structure Tab (m C:Nat) (A:Nat→Nat→Int) (neg:Nat→Prop) (T:Nat→Nat→Int) (base:Nat→Nat) (d:Int):Prop where
 inv:∃ b e,Inv (m + 2) C A T b d e∧(∀ i,i < m→(base i < C∧∀ r,r < m + 2→b i r=A (base i) r) ∨ (base i=C + i∧neg i∧∀ r,b i r=i0A i r))∧(∀ r,b m r=i0A m r)∧(∀ r,b (m + 1) r=i0A (m + 1) r)
 rhs:∀ i,i < m→0≤T i C
variable {m C:Nat} {A:Nat→Nat→Int} {neg:Nat→Prop} {T T':Nat→Nat→Int} {base base':Nat→Nat} {d d':Int}
theorem Tab.pos (h:Tab m C A neg T base d):0 < d:=by obtain ⟨b,e,hi,_⟩:=h.inv;exact hi.pos
theorem Tab.base_lt (h:Tab m C A neg T base d) {i:Nat} (hi:i < m):base i < C + m:=by
 obtain ⟨b,e,_,h1,_⟩:=h.inv
 rcases h1 i hi with ⟨h2,_⟩ | ⟨h2,_⟩ <;> omega
theorem Tab.col (h:Tab m C A neg T base d) {k i:Nat} (hk:k < m + 2) (hi:i < m) (hb:base i < C):T k (base i)=if k=i then d else 0:=by
 obtain ⟨b,e,hI,h1,_⟩:=h.inv
 rcases h1 i hi with ⟨_,h2⟩ | ⟨h2,_⟩
 ·exact hI.col1 hk (by omega) (by omega) h2
 ·omega
theorem Tab.inj (h:Tab m C A neg T base d) {i k:Nat} (hi:i < m) (hk:k < m) (hb:base i < C) (he:base i=base k):i=k:=by
 have h1:=h.col (k:=i) (by omega) hi hb
 have h2:=h.col (k:=i) (by omega) hk (by omega)
 have:=h.pos
 rw [he,h2,Z0I rfl] at h1
 by_cases h3:i=k
 ·exact h3
 ·rw [Z0F h3] at h1;omega
theorem R0D (h:Tab m C A neg T base d) (h':Tab m C A neg T' base' d') {g:Nat} (hg:g=m ∨ g=m + 1) (ha:∀ i,i < m→¬ base i < C→¬ base' i < C) {c:Nat} (hc:c≤C) :
  d * T' g c=d' * T g c + sm (fun i=>if base i < C then T i c * T' g (base i) else 0) m:=by
 obtain ⟨b,e,hI,h1,h2,h3⟩:=h.inv
 obtain ⟨b',e',hI',h1',h2',h3'⟩:=h'.inv
 have hgM:g < m + 2:=by omega
 have k1:co (m + 2) b' e' g (fun r=>d * A c r)=co (m + 2) b' e' g (fun r=>sm (fun i=>T i c * b i r) (m + 2)):=e0L fun r hr=>hI.col c hc r hr
 rw [R0B hgM,I0L hgM,hI'.entry hgM hc] at k1
 rw [k1]
 show sm _ m + T m c * co (m + 2) b' e' g (b m) + T (m + 1) c * co (m + 2) b' e' g (b (m + 1))=_
 have e1:co (m + 2) b' e' g (b m)=if g=m then d' else 0:=by
  rw [← hI'.basis hgM (i:=m) (by omega)];exact e0L fun r _=>by rw [h2,h2']
 have e2:co (m + 2) b' e' g (b (m + 1))=if g=m + 1 then d' else 0:=by
  rw [← hI'.basis hgM (i:=m + 1) (by omega)];exact e0L fun r _=>by rw [h3,h3']
 have e3:sm (fun i=>T i c * co (m + 2) b' e' g (b i)) m=sm (fun i=>if base i < C then T i c * T' g (base i) else 0) m:=by
  refine b0f fun i hi=>?_
  rcases h1 i hi with ⟨k2,k3⟩ | ⟨k2,_,k3⟩
  ·rw [Z0I k2,e0L (w:=A (base i)) k3,hI'.entry hgM (by omega)]
  ·rw [Z0F (by omega)]
   rcases h1' i hi with ⟨k4,_⟩ | ⟨_,_,k5⟩
   ·exact Z0T k4 (ha i hi (by omega))
   ·rw [e0L (w:=b' i) (fun r _=>by rw [k3,k5]),hI'.basis hgM (by omega),Z0F (by omega)];simp
 rw [e1,e2,e3]
 rcases hg with rfl | rfl
 ·simp;grind
 ·simp;grind
theorem N0p {f:Nat→Int}:∀ {n:Nat},0 < sm f n→∃ i,i < n∧0 < f i
 | 0,h=>by simp [sm] at h
 | n + 1,h=>by
  rw [sm] at h
  by_cases h1:0 < sm f n
  ·obtain ⟨i,hi,h2⟩:=N0p h1;exact ⟨i,by omega,h2⟩
  ·exact ⟨n,by omega,by omega⟩
structure Run (m C g:Nat) (A:Nat→Nat→Int) (neg:Nat→Prop) (N:Nat) (T:Nat→Nat→Nat→Int) (base:Nat→Nat→Nat) (d:Nat→Int) (s r:Nat→Nat):Prop where
 tab:∀ k,k≤N→Tab m C A neg (T k) (base k) (d k)
 sC:∀ k,k < N→s k < C
 rm:∀ k,k < N→r k < m
 ent:∀ k,k < N→T k g (s k) < 0
 low:∀ k,k < N→∀ c,c < s k→0≤T k g c
 piv:∀ k,k < N→0 < T k (r k) (s k)
 min:∀ k,k < N→∀ i,i < m→0 < T k i (s k)→T k (r k) C * T k i (s k) < T k i C * T k (r k) (s k) ∨ (T k (r k) C * T k i (s k)=T k i C * T k (r k) (s k)∧base k (r k)≤base k i)
 nxt:∀ k,k < N→∀ i c,i < m + 2→c≤C→T (k + 1) i c=pv (T k) (r k) (s k) (d k) i c
 nb:∀ k,k < N→∀ i,i < m→base (k + 1) i=if i=r k then s k else base k i
 nd:∀ k,k < N→d (k + 1)=T k (r k) (s k)
section
variable {g N:Nat} {T:Nat→Nat→Nat→Int} {base:Nat→Nat→Nat} {d:Nat→Int} {s r:Nat→Nat}
theorem Run.change (h:Run m C g A neg N T base d s r) {i:Nat} (hi:i < m):∀ (n p:Nat),p + n≤N→base (p + n) i ≠ base p i→∃ k,p≤k∧k < p + n∧r k=i∧base k i=base p i∧base (k + 1) i ≠ base p i
 | 0,p,_,hne=>Z0T rfl hne
 | n + 1,p,hN,hne=>by
  by_cases h1:base (p + n) i=base p i
  ·refine ⟨p + n,by omega,by omega,?_,h1,hne⟩
   by_cases h2:i=r (p + n)
   ·exact h2.symm
   ·exfalso;apply hne
    have:=h.nb (p + n) (by omega) i hi
    rw [Z0F h2] at this
    rw [show p + (n + 1)=p + n + 1 by omega,this,h1]
  ·obtain ⟨k,a1,a2,a3⟩:=h.change hi n p (by omega) h1
   exact ⟨k,a1,by omega,a3⟩
theorem Run.enters (h:Run m C g A neg N T base d s r) {i:Nat} (hi:i < m):∀ (n p:Nat),p + n≤N→base p i ≠ base (p + n) i→∃ k,p≤k∧k < p + n∧r k=i∧s k=base (p + n) i
 | 0,p,_,hne=>Z0T rfl hne
 | n + 1,p,hN,hne=>by
  have h3:=h.nb (p + n) (by omega) i hi
  rw [← show p + (n + 1)=p + n + 1 by omega] at h3
  by_cases h2:i=r (p + n)
  ·rw [Z0I h2] at h3
   exact ⟨p + n,by omega,by omega,h2.symm,h3.symm⟩
  ·rw [Z0F h2] at h3
   obtain ⟨k,a1,a2,a3,a4⟩:=h.enters hi n p (by omega) (by rw [← h3];exact hne)
   exact ⟨k,a1,by omega,a3,by rw [a4,h3]⟩
theorem Run.real (h:Run m C g A neg N T base d s r) {i:Nat} (hi:i < m):∀ (n p:Nat),p + n≤N→base p i < C→base (p + n) i < C
 | 0,_,_,hb=>hb
 | n + 1,p,hN,hb=>by
  have h1:=h.real hi n p (by omega) hb
  have:=h.nb (p + n) (by omega) i hi
  rw [show p + (n + 1)=p + n + 1 by omega,this]
  split
  ·exact h.sC _ (by omega)
  ·exact h1
theorem Run.grow (h:Run m C g A neg N T base d s r) (hg:g=m ∨ g=m + 1) {k:Nat} (hk:k < N):T k g C * d (k + 1)≤T (k + 1) g C * d k∧(T k g C * d (k + 1)=T (k + 1) g C * d k→T k (r k) C=0):=by
 have h1:=h.nxt k hk g C (by omega) (by omega)
 have h2:=(h.tab k (by omega))
 obtain ⟨b,e,hI,_⟩:=h2.inv
 have h3:=hI.exact (i:=r k) (j:=s k) (k:=g) (c:=C) (by have:=h.rm k hk;omega) (by have:=h.sC k hk;omega) (by have:=h.piv k hk;omega) (by omega) (by omega) (by have:=h.rm k hk;omega)
 rw [← h1] at h3
 have h4:=h.ent k hk
 have h5:=h2.rhs (r k) (h.rm k hk)
 rw [h.nd k hk]
 have h6:T k g (s k) * T k (r k) C≤0:=a1K (by omega) h5
 refine ⟨by rw [Int.mul_comm _ (d k),← h3];omega,fun h7=>?_⟩
 rw [Int.mul_comm _ (d k),← h3] at h7
 have h8:T k g (s k) * T k (r k) C=0:=by omega
 rcases Int.mul_eq_zero.1 h8 with h9 | h9
 ·omega
 ·exact h9
theorem Run.grows (h:Run m C g A neg N T base d s r) (hg:g=m ∨ g=m + 1):∀ (n p:Nat),p + n≤N→T p g C * d (p + n)≤T (p + n) g C * d p
 | 0,p,_=>Int.le_refl _
 | n + 1,p,hN=>by
  have h1:=h.grows hg n p (by omega)
  have h2:=(h.grow hg (k:=p + n) (by omega)).1
  have p1:=(h.tab p (by omega)).pos
  have p2:=(h.tab (p + n) (by omega)).pos
  have p3:=(h.tab (p + n + 1) (by omega)).pos
  rw [show p + (n + 1)=p + n + 1 by omega]
  have h3:=a1A h1 (by omega:0≤d (p + n + 1))
  have h4:=a1A h2 (by omega:0≤d p)
  have h5:(T p g C * d (p + n + 1)) * d (p + n)≤(T (p + n + 1) g C * d p) * d (p + n):=by
   have e1:(T p g C * d (p + n + 1)) * d (p + n)=T p g C * d (p + n) * d (p + n + 1):=by grind
   have e2:(T (p + n + 1) g C * d p) * d (p + n)=T (p + n + 1) g C * d (p + n) * d p:=by grind
   have e3:T (p + n) g C * d p * d (p + n + 1)=T (p + n) g C * d (p + n + 1) * d p:=by grind
   rw [e1,e2];omega
  exact Int.le_of_mul_le_mul_right h5 p2
theorem Run.flat (h:Run m C g A neg N T base d s r) (hg:g=m ∨ g=m + 1) {p q:Nat} (hpq:p < q) (hq:q≤N) (hb:∀ i,i < m→base p i=base q i) {k:Nat} (hk1:p≤k) (hk2:k < q):T k (r k) C=0:=by
 have hp:=h.tab p (by omega)
 have hqt:=h.tab q hq
 have h1:=R0D hp hqt hg (fun i hi h1=>by rw [← hb i hi];exact h1) (c:=C) (by omega)
 rw [e0k (fun i hi=>?_),b1a] at h1
 ·refine (h.grow hg (k:=k) (by omega)).2 ?_
  have a1:=h.grows hg (k - p) p (by omega)
  have a2:=(h.grow hg (k:=k) (by omega)).1
  have a3:=h.grows hg (q - (k + 1)) (k + 1) (by omega)
  rw [show p + (k - p)=k by omega] at a1
  rw [show k + 1 + (q - (k + 1))=q by omega] at a3
  have p1:=hp.pos
  have p2:=hqt.pos
  have p3:=(h.tab k (by omega)).pos
  have p4:=(h.tab (k + 1) (by omega)).pos
  -- a1: Tp dk <= Tk dp ; a3 : Tk1 dq <= Tq dk1 ; h1 : dp Tq = dq Tp
  refine Int.le_antisymm a2 ?_
  have b1:=a1A a3 (by omega:0≤d p)
  have b1:=a1A b1 (by omega:0≤d k)
  have b2:=a1A a1 (by omega:0≤d q)
  have b2:=a1A b2 (by omega:0≤d (k + 1))
  have b3:T (k + 1) g C * d k * (d p * d q)≤T k g C * d (k + 1) * (d p * d q):=by
   have e1:T (k + 1) g C * d k * (d p * d q)=T (k + 1) g C * d q * d p * d k:=by grind
   have e2:T k g C * d (k + 1) * (d p * d q)=T k g C * d p * d q * d (k + 1):=by grind
   have e3:T q g C * d (k + 1) * d p * d k=T p g C * d k * d q * d (k + 1):=by
    have:T q g C * d (k + 1) * d p * d k=(d p * T q g C) * (d (k + 1) * d k):=by grind
    rw [this,h1];grind
   rw [e1,e2];omega
  exact Int.le_of_mul_le_mul_right b3 (Int.mul_pos p1 p2)
 ·split
  ·rename_i h2
   have h3:=hqt.col (k:=g) (i:=i) (by omega) hi (by rw [← hb i hi];exact h2)
   rw [Z0F (by omega)] at h3
   rw [hb i hi,h3];simp
  ·rfl
theorem Run.rhs0 (h:Run m C g A neg N T base d s r) {k i:Nat} (hk:k < N) (hi:i < m) (h0:T k (r k) C=0):T k i C=0 ↔ T (k + 1) i C=0:=by
 have h1:=h.nxt k hk i C (by omega) (by omega)
 have h2:=(h.tab k (by omega))
 by_cases hr:i=r k
 ·subst hr;rw [h1];unfold pv;rw [Z0I rfl]
 ·obtain ⟨b,e,hI,_⟩:=h2.inv
  have h3:=hI.exact (i:=r k) (j:=s k) (k:=i) (c:=C) (by have:=h.rm k hk;omega) (by have:=h.sC k hk;omega) (by have:=h.piv k hk;omega) (by omega) (by omega) hr
  rw [← h1,h0,b1C,Int.sub_zero] at h3
  have p1:=h.piv k hk
  have p2:=h2.pos
  constructor
  ·intro h4;rw [h4,Int.zero_mul] at h3
   rcases Int.mul_eq_zero.1 h3.symm with h5 | h5
   ·omega
   ·exact h5
  ·intro h4;rw [h4,b1C] at h3
   rcases Int.mul_eq_zero.1 h3 with h5 | h5
   ·exact h5
   ·omega
theorem Run.rhs00 (h:Run m C g A neg N T base d s r) {i p:Nat} (hi:i < m):∀ n:Nat,p + n≤N→(∀ k,p≤k→k < p + n→T k (r k) C=0)→(T p i C=0 ↔ T (p + n) i C=0)
 | 0,_,_=>Iff.rfl
 | n + 1,hN,h0=>(h.rhs00 hi n (by omega) (fun k h1 h2=>h0 k h1 (by omega))).trans (h.rhs0 (k:=p + n) (by omega) hi (h0 _ (by omega) (by omega)))
theorem X0V (s:Nat→Nat):∀ (n p:Nat),0 < n→∃ k,p≤k∧k < p + n∧∀ l,p≤l→l < p + n→s l≤s k
 | 0,_,h=>by omega
 | n + 1,p,_=>by
  by_cases h0:n=0
  ·subst h0;exact ⟨p,by omega,by omega,fun l h1 h2=>by rw [show l=p by omega];exact Z0E _⟩
  ·obtain ⟨k,a1,a2,a3⟩:=X0V s n p (by omega)
   by_cases h1:s (p + n)≤s k
   ·exact ⟨k,a1,by omega,fun l b1 b2=>by
     by_cases h2:l=p + n
     ·rw [h2];exact h1
     ·exact a3 l b1 (by omega)⟩
   ·exact ⟨p + n,by omega,by omega,fun l b1 b2=>by
     by_cases h2:l=p + n
     ·rw [h2];exact Z0E _
     ·have:=a3 l b1 (by omega);omega⟩
theorem Run.norep (h:Run m C g A neg N T base d s r) (hg:g=m ∨ g=m + 1) {p q:Nat} (hpq:p < q) (hq:q≤N) (hb:∀ i,i < m→base p i=base q i):False:=by
 have hflat:∀ k,p≤k→k < q→T k (r k) C=0:=fun k h1 h2=>h.flat hg hpq hq hb h1 h2
 -- a row that a pivot q0D has nought at the right throughout
 have hzero:∀ k0 k i,p≤k0→k0 < q→p≤k→k < q→i < m→r k0=i→T k i C=0:=by
  intro k0 k i a1 a2 a3 a4 hi hr
  have e0:T k0 i C=0:=by rw [← hr];exact hflat k0 a1 a2
  have e1:=(h.rhs00 hi (k0 - p) (p:=p) (by omega) (fun l b1 b2=>hflat l b1 (by omega)))
  have e2:=(h.rhs00 hi (k - p) (p:=p) (by omega) (fun l b1 b2=>hflat l b1 (by omega)))
  rw [show p + (k0 - p)=k0 by omega] at e1
  rw [show p + (k - p)=k by omega] at e2
  exact e2.1 (e1.2 e0)
 -- what is made up stays so
 have hart:∀ k l i,p≤k→k≤q→p≤l→l≤q→i < m→¬ base k i < C→¬ base l i < C:=by
  intro k l i a1 a2 a3 a4 hi h1 h2
  have h3:=h.real hi (q - l) l (by omega) h2
  rw [show l + (q - l)=q by omega,← hb i hi] at h3
  have h4:=h.real hi (k - p) p (by omega) h3
  rw [show p + (k - p)=k by omega] at h4
  exact h1 h4
 obtain ⟨ks,s1,s2,s3⟩:=X0V s (q - p) p (by omega)
 have s3':∀ l,p≤l→l < q→s l≤s ks:=fun l a b=>s3 l a (by omega)
 have hS:=h.tab ks (by omega)
 have hne:=h.ent ks (by omega)
 -- the greatest leaves
 have hout:∃ k,p≤k∧k < q∧base k (r k)=s ks:=by
  have hr:=h.rm ks (by omega)
  have hnb:=h.nb ks (by omega) (r ks) hr
  rw [Z0I rfl] at hnb
  by_cases hc:base q (r ks)=s ks
  ·rw [← hb _ hr] at hc
   have hno:base ks (r ks) ≠ s ks:=by
    intro h1
    have:=hS.col (k:=g) (i:=r ks) (by omega) hr (by rw [h1];exact h.sC ks (by omega))
    rw [h1,Z0F (by omega)] at this;omega
   obtain ⟨k,b1,b2,b3,b4,_⟩:=h.change hr (ks - p) p (by omega) (by rw [show p + (ks - p)=ks by omega,hc];exact hno)
   exact ⟨k,b1,by omega,by rw [b3,b4,hc]⟩
  ·obtain ⟨k,b1,b2,b3,b4,_⟩:=h.change hr (q - (ks + 1)) (ks + 1) (by omega) (by rw [show ks + 1 + (q - (ks + 1))=q by omega,hnb];exact hc)
   exact ⟨k,by omega,by omega,by rw [b3,b4,hnb]⟩
 obtain ⟨k,k1,k2,k3⟩:=hout
 have hD:=h.tab k (by omega)
 have hrk:=h.rm k (by omega)
 have hsC:=h.sC ks (by omega)
 have hst:s k ≠ s ks:=by
  intro h1
  have:=hD.col (k:=g) (i:=r k) (by omega) hrk (by rw [k3];exact hsC)
  rw [k3,← h1,Z0F (by omega)] at this
  have:=h.ent k (by omega);omega
 have hslt:s k < s ks:=by have:=s3' k k1 k2;omega
 have hlow:=h.low ks (by omega)
 have h1:=R0D hD hS hg (fun i hi h1=>hart k ks i k1 (by omega) s1 (by omega) hi h1) (c:=s k) (by have:=h.sC k (by omega);omega)
 have h2:0 < sm (fun i=>if base k i < C then T k i (s k) * T ks g (base k i) else 0) m:=by
  have a1:=c1u (by have:=hD.pos;omega:0≤d k) (hlow (s k) hslt)
  have a2:=b1y hS.pos (h.ent k (by omega))
  omega
 obtain ⟨i,hi,h3⟩:=N0p h2
 split at h3
 case isFalse=>omega
 rename_i hreal
 have hnz:T ks g (base k i) ≠ 0:=by intro h4;rw [h4] at h3;omega
 have hnot:base ks i ≠ base k i:=by
  intro h4
  apply hnz
  rw [← h4,hS.col (k:=g) (i:=i) (by omega) hi (by rw [h4];exact hreal),Z0F (by omega)]
 -- it comes in somewhere, and its row is met
 have hin:∃ l,p≤l∧l < q∧r l=i∧s l=base k i:=by
  by_cases hlt:ks < k
  ·obtain ⟨l,b1,b2,b3,b4⟩:=h.enters hi (k - ks) ks (by omega) (by rw [show ks + (k - ks)=k by omega];exact hnot)
   rw [show ks + (k - ks)=k by omega] at b4
   exact ⟨l,by omega,by omega,b3,b4⟩
  ·by_cases hpe:base p i=base k i
   ·have hqe:base q i=base k i:=by rw [← hb i hi];exact hpe
    obtain ⟨l,b1,b2,b3,b4⟩:=h.enters hi (q - ks) ks (by omega) (by rw [show ks + (q - ks)=q by omega,hqe];exact hnot)
    rw [show ks + (q - ks)=q by omega,hqe] at b4
    exact ⟨l,by omega,by omega,b3,b4⟩
   ·obtain ⟨l,b1,b2,b3,b4⟩:=h.enters hi (k - p) p (by omega) (by rw [show p + (k - p)=k by omega];exact hpe)
    rw [show p + (k - p)=k by omega] at b4
    exact ⟨l,by omega,by omega,b3,b4⟩
 obtain ⟨l,l1,l2,l3,l4⟩:=hin
 have hle:base k i≤s ks:=by rw [← l4];exact s3' l l1 l2
 have hnt:base k i ≠ s ks:=by
  intro h4
  have:i=r k:=hD.inj hi hrk hreal (by rw [h4,k3])
  have h5:=h.piv k (by omega)
  rw [this,k3] at h3
  have:=b1y h5 hne
  omega
 have hge:=hlow (base k i) (by omega)
 have hpos:0 < T k i (s k):=by
  rcases Int.lt_trichotomy 0 (T k i (s k)) with h4 | h4 | h4
  ·exact h4
  ·rw [← h4] at h3;omega
  ·have:=a1K (by omega:T k i (s k)≤0) hge;omega
 have hz1:=hzero l k i l1 l2 k1 k2 hi l3
 have hz2:=hflat k k1 k2
 rcases h.min k (by omega) i hi hpos with h4 | ⟨_,h4⟩
 ·rw [hz1,hz2] at h4;omega
 ·rw [k3] at h4;omega
end
theorem I0Z:∀ (K:Nat) (f:Nat→Nat),(∀ k,k≤K→f k < K)→∃ p q,p < q∧q≤K∧f p=f q
 | 0,f,h=>Z0T (h 0 (Z0E _)) (by omega)
 | K + 1,f,h=>by
  by_cases h1:∃ k,k≤K∧f k=f (K + 1)
  ·obtain ⟨k,hk,he⟩:=h1;exact ⟨k,K + 1,by omega,Z0E _,he⟩
  ·have hne:∀ k,k≤K→f k ≠ f (K + 1):=fun k hk he=>h1 ⟨k,hk,he⟩
   have hv:=h (K + 1) (Z0E _)
   obtain ⟨p,q,a1,a2,a3⟩:=I0Z K (fun k=>if f k=K then f (K + 1) else f k) (fun k hk=>by
    have:=h k (by omega);have:=hne k hk
    split <;> omega)
   refine ⟨p,q,a1,by omega,?_⟩
   have:=hne p (by omega);have:=hne q (by omega)
   split at a3 <;> split at a3 <;> omega
def enc (B:Nat) (f:Nat→Nat):Nat→Nat
 | 0=>0
 | n + 1=>f n + B * enc B f n
theorem I0N {B:Nat} {f:Nat→Nat}:∀ {n:Nat},(∀ i,i < n→f i < B)→enc B f n < B ^ n
 | 0,_=>by simp [enc]
 | n + 1,h=>by
  have h1:=I0N (n:=n) (fun i hi=>h i (by omega))
  have h2:=h n (by omega)
  rw [enc,a1r,a1b]
  have:B * (enc B f n + 1)≤B * B ^ n:=a1h B h1
  rw [Z0X] at this
  rw [a1b (enc B f n) B,a1b (B ^ n) B];omega
theorem x0R {B:Nat} {f h:Nat→Nat}:∀ {n:Nat},(∀ i,i < n→f i < B)→(∀ i,i < n→h i < B)→enc B f n=enc B h n→∀ i,i < n→f i=h i
 | 0,_,_,_=>fun i hi=>by omega
 | n + 1,hf,hh,e=>fun i hi=>by
  rw [enc,enc] at e
  have a1:=hf n (by omega)
  have a2:=hh n (by omega)
  have e1:f n=h n:=by
   have:=congrArg (· % B) e
   simp only [Nat.add_mul_mod_self_left,a1k a1,a1k a2] at this
   exact this
  by_cases hin:i=n
  ·rw [hin];exact e1
  ·rw [e1] at e
   exact x0R (n:=n) (fun i hi=>hf i (by omega)) (fun i hi=>hh i (by omega)) (Nat.eq_of_mul_eq_mul_left (by omega:0 < B) (Nat.add_left_cancel e)) i (by omega)
theorem Run.short {g N:Nat} {T:Nat→Nat→Nat→Int} {base:Nat→Nat→Nat} {d:Nat→Int} {s r:Nat→Nat} (h:Run m C g A neg N T base d s r) (hg:g=m ∨ g=m + 1):N < (C + m) ^ m:=by
 by_cases hN:N < (C + m) ^ m
 ·exact hN
 ·exfalso
  obtain ⟨p,q,h1,h2,h3⟩:=I0Z ((C + m) ^ m) (fun k=>enc (C + m) (base k) m) (fun k hk=>I0N fun i hi=>(h.tab k (by omega)).base_lt hi)
  exact h.norep hg h1 (by omega) (x0R (fun i hi=>(h.tab p (by omega)).base_lt hi) (fun i hi=>(h.tab q (by omega)).base_lt hi) h3)
end Go.Proofs.YtilekhkgobmolaaGreat.SX
namespace Go.Proofs.YtilekhkgobmolaaGreat.SX
variable {M m C:Nat} {A:Nat→Nat→Int} {neg:Nat→Prop} {T T':Nat→Nat→Int} {base base':Nat→Nat} {d d':Int}
theorem Inv.congr {b:Nat→Nat→Int} {e:Int} (h:Inv M C A T b d e) (hT:∀ i c,i < M→c≤C→T' i c=T i c):Inv M C A T' b d e :=
 { h with col:=fun c hc r hr=>by rw [h.col c hc r hr];exact b0f fun i hi=>by rw [hT i c hi hc] }
theorem Tab.congr (h:Tab m C A neg T base d) (hT:∀ i c,i < m + 2→c≤C→T' i c=T i c) (hb:∀ i,i < m→base' i=base i) (hd:d' = d):Tab m C A neg T' base' d':=by
 subst hd
 obtain ⟨b,e,h1,h2,h3⟩:=h.inv
 exact ⟨⟨b,e,h1.congr hT,fun i hi=>by rw [hb i hi];exact h2 i hi,h3⟩,fun i hi=>by rw [hT i C (by omega) (by omega)];exact h.rhs i hi⟩
theorem Tab.pivot (h:Tab m C A neg T base d) {i j:Nat} (hi:i < m) (hj:j < C) (hp:0 < T i j) (hr:∀ k,k < m→0 < T k j→T i C * T k j≤T k C * T i j) :
  Tab m C A neg (pv T i j d) (up base i j) (T i j):=by
 obtain ⟨b,e,h1,h2,h3,h4⟩:=h.inv
 refine ⟨⟨up b i (A j),e,h1.pivot (by omega) (by omega) hp,fun k hk=>?_,by rw [e0l (by omega)];exact h3,by rw [e0l (by omega)];exact h4⟩,fun k hk=>?_⟩
 ·by_cases hki:k=i
  ·subst hki;exact .inl ⟨by rw [b0g];exact hj,fun r _=>by rw [b0g,b0g]⟩
  ·rw [e0l hki,e0l hki];exact h2 k hk
 ·by_cases hki:k=i
  ·subst hki;unfold pv;rw [Z0I rfl];exact h.rhs k hk
  ·have h5:=h1.exact (i:=i) (j:=j) (k:=k) (c:=C) (by omega) (by omega) (by omega) (by omega) (Z0E _) hki
   have h6:=h.rhs k hk
   have h7:=h.rhs i hi
   have h8:0≤T k C * T i j - T k j * T i C:=by
    by_cases hpos:0 < T k j
    ·have:=hr k hk hpos
     have e1:T k j * T i C=T i C * T k j:=Int.mul_comm _ _
     omega
    ·have a1:=c1u h6 (by omega:0≤T i j)
     have a2:=a1K (by omega:T k j≤0) h7
     omega
   rw [h5] at h8
   have:=h1.pos
   by_cases h9:0≤pv T i j d k C
   ·exact h9
   ·have:=b1y this (by omega:pv T i j d k C < 0);omega
theorem Tab.exact (h:Tab m C A neg T base d) {i j:Nat} (hi:i < m) (hj:j≤C) (hp:T i j ≠ 0) {k c:Nat} (hk:k < m + 2) (hc:c≤C) (hki:k ≠ i):T k c * T i j - T k j * T i c=d * pv T i j d k c:=by
 obtain ⟨b,e,h1,_⟩:=h.inv
 exact h1.exact (by omega) hj hp hk hc hki
theorem Tab.swap (h:Tab m C A neg T base d) {i j:Nat} (hi:i < m) (hj:j < C) (hp:0 < T i j) (h0:T i C=0):Tab m C A neg (pv T i j d) (up base i j) (T i j) :=
 h.pivot hi hj hp fun k hk _=>by
  rw [h0,Int.zero_mul]
  exact c1u (h.rhs k hk) (by omega)
theorem Tab.swapN (h:Tab m C A neg T base d) {i j:Nat} (hi:i < m) (hj:j < C) (hp:T i j < 0) (h0:T i C=0) :
  Tab m C A neg (pv (ng T i) i j d) (up base i j) (-T i j)∧∀ k c,k < m + 2→c≤C→k ≠ i→ng T i k c * ng T i i j - ng T i k j * ng T i i c=d * pv (ng T i) i j d k c:=by
 obtain ⟨b,e,h1,h2,h3,h4⟩:=h.inv
 have h1':=h1.turn (i:=i) (by omega)
 have hn:ng T i i j = -T i j:=by unfold ng;rw [Z0I rfl]
 have hex:∀ k c,k < m + 2→c≤C→k ≠ i→ng T i k c * ng T i i j - ng T i k j * ng T i i c=d * pv (ng T i) i j d k c :=
  fun k c hk hc hki=>h1'.exact (by omega) (by omega) (by omega) hk hc hki
 have h5:=h1'.pivot (i:=i) (j:=j) (by omega) (by omega) (by omega)
 rw [hn] at h5
 refine ⟨⟨⟨up (up b i (fun r=>-b i r)) i (A j),-e,h5,fun k hk=>?_,?_,?_⟩,fun k hk=>?_⟩,hex⟩
 ·by_cases hki:k=i
  ·subst hki;exact .inl ⟨by rw [b0g];exact hj,fun r _=>by rw [b0g,b0g]⟩
  ·rw [e0l hki,e0l hki,e0l hki];exact h2 k hk
 ·rw [e0l (by omega),e0l (by omega)];exact h3
 ·rw [e0l (by omega),e0l (by omega)];exact h4
 ·by_cases hki:k=i
  ·subst hki;unfold pv;rw [Z0I rfl];unfold ng;rw [Z0I rfl,h0];omega
  ·have h6:=hex k C (by omega) (Z0E _) hki
   have e1:ng T i i C=0:=by unfold ng;rw [Z0I rfl,h0];rfl
   have e2:ng T i k C=T k C:=by unfold ng;rw [Z0F hki]
   rw [e1,b1C,Int.sub_zero,e2,hn] at h6
   have h8:=c1u (h.rhs k hk) (by omega:0≤-T i j)
   rw [h6] at h8
   have:=h1.pos
   by_cases h9:0≤pv (ng T i) i j d k C
   ·exact h9
   ·have:=b1y this (by omega:pv (ng T i) i j d k C < 0);omega
def t0A (T:Nat→Nat→Int) (base:Nat→Nat) (C j n o:Nat):Prop :=
 o < n∧0 < T o j∧∀ i,i < n→0 < T i j→T o C * T i j < T i C * T o j ∨ (T o C * T i j=T i C * T o j∧base o≤base i)
variable {j n o:Nat}
theorem t0A.one (h:0 < T n j) (h0:∀ i,i < n→T i j≤0):t0A T base C j (n + 1) n :=
 ⟨by omega,h,fun i hi hp=>by
  have:i=n:=by
   by_cases h1:i < n
   ·have:=h0 i h1;omega
   ·omega
  subst this;exact .inr ⟨rfl,Z0E _⟩⟩
theorem t0A.skip (h:t0A T base C j n o) (h0:T n j≤0):t0A T base C j (n + 1) o :=
 ⟨by have:=h.1;omega,h.2.1,fun i hi hp=>by
  by_cases h1:i < n
  ·exact h.2.2 i h1 hp
  ·have:i=n:=by omega
   subst this;omega⟩
theorem t0A.keep (h:t0A T base C j n o) (h0:T o C * T n j < T n C * T o j ∨ (T o C * T n j=T n C * T o j∧base o≤base n)):t0A T base C j (n + 1) o :=
 ⟨by have:=h.1;omega,h.2.1,fun i hi hp=>by
  by_cases h1:i < n
  ·exact h.2.2 i h1 hp
  ·have:i=n:=by omega
   subst this;exact h0⟩
theorem t0A.take (h:t0A T base C j n o) (hp:0 < T n j) (h0:T n C * T o j < T o C * T n j ∨ (T n C * T o j=T o C * T n j∧base n < base o)):t0A T base C j (n + 1) n :=
 ⟨by omega,hp,fun i hi hpi=>by
  by_cases h1:i < n
  ·have h2:=h.2.2 i h1 hpi
   have ho:=h.2.1
   -- a: Tn/ ..
   generalize T n C=nC at *
   generalize T n j=nj at *
   generalize T o C=oC at *
   generalize T o j=oj at *
   generalize T i C=iC at *
   generalize T i j=ij at *
   have key:(nC * ij) * oj=(nC * oj) * ij:=by grind
   have key2:(iC * nj) * oj=(iC * oj) * nj:=by grind
   have key3:(oC * nj) * ij=(oC * ij) * nj:=by grind
   rcases h0 with h0 | ⟨h0,hb⟩
   ·left
    have a1:(nC * oj) * ij < (oC * nj) * ij:=Int.mul_lt_mul_of_pos_right h0 hpi
    have a2:(oC * ij) * nj≤(iC * oj) * nj:=a1A (by rcases h2 with h2 | h2 <;> omega) (by omega)
    exact Int.lt_of_mul_lt_mul_right (a:=oj) (by omega) (by omega)
   ·have a1:(nC * oj) * ij=(oC * nj) * ij:=by rw [h0]
    rcases h2 with h2 | ⟨h2,hb2⟩
    ·left
     have a2:(oC * ij) * nj < (iC * oj) * nj:=Int.mul_lt_mul_of_pos_right h2 hp
     exact Int.lt_of_mul_lt_mul_right (a:=oj) (by omega) (by omega)
    ·right
     have a2:(oC * ij) * nj=(iC * oj) * nj:=by rw [h2]
     refine ⟨?_,by omega⟩
     have:(nC * ij) * oj=(iC * nj) * oj:=by omega
     exact Int.eq_of_mul_eq_mul_right (by omega) this
  ·have:i=n:=by omega
   subst this;exact .inr ⟨rfl,Z0E _⟩⟩
theorem Run.zero {g:Nat} (h:Tab m C A neg T base d):Run m C g A neg 0 (fun _=>T) (fun _=>base) (fun _=>d) (fun _=>0) (fun _=>0) where
 tab:=fun _ _=>h
 sC:=fun k hk=>by omega
 rm:=fun k hk=>by omega
 ent:=fun k hk=>by omega
 low:=fun k hk=>by omega
 piv:=fun k hk=>by omega
 min:=fun k hk=>by omega
 nxt:=fun k hk=>by omega
 nb:=fun k hk=>by omega
 nd:=fun k hk=>by omega
def Reach (m C g:Nat) (A:Nat→Nat→Int) (neg:Nat→Prop) (N:Nat) (T:Nat→Nat→Int) (base:Nat→Nat) (d:Int):Prop :=
 ∃ Ts bs ds s r,Run m C g A neg N Ts bs ds s r∧(∀ i c,i < m + 2→c≤C→T i c=Ts N i c)∧(∀ i,i < m→base i=bs N i)∧d=ds N
theorem Reach.zero {g:Nat} (h:Tab m C A neg T base d):Reach m C g A neg 0 T base d:=⟨_,_,_,_,_,Run.zero h,fun _ _ _ _=>rfl,fun _ _=>rfl,rfl⟩
theorem Reach.tab {g N:Nat} (h:Reach m C g A neg N T base d):Tab m C A neg T base d:=by
 obtain ⟨Ts,bs,ds,s,r,h1,h2,h3,h4⟩:=h
 exact (h1.tab N (Z0E _)).congr h2 h3 h4
theorem Reach.short {g N:Nat} (hg:g=m ∨ g=m + 1) (h:Reach m C g A neg N T base d):N < (C + m) ^ m:=by
 obtain ⟨Ts,bs,ds,s,r,h1,_⟩:=h;exact h1.short hg
theorem Reach.step {g N i:Nat} (hg:g=m ∨ g=m + 1) (h:Reach m C g A neg N T base d) (hj:j < C) (he:T g j < 0) (hl:∀ c,c < j→0≤T g c) (hB:t0A T base C j m i)
  (hT:∀ k c,k < m + 2→c≤C→T' k c=pv T i j d k c) (hb:∀ k,k < m→base' k=if k=i then j else base k) (hd:d' = T i j):Reach m C g A neg (N + 1) T' base' d':=by
 have hTab:=h.tab
 obtain ⟨Ts,bs,ds,s,r,h1,h2,h3,h4⟩:=h
 obtain ⟨hi,hp,hmin⟩:=hB
 have hC:C≤C:=Z0E _
 have hnew:Tab m C A neg T' base' d':=(hTab.pivot hi hj hp fun k hk hp=>by rcases hmin k hk hp with a | a <;> omega).congr hT (fun k hk=>by rw [hb k hk];rfl) hd
 refine ⟨up Ts (N + 1) T',up bs (N + 1) base',up ds (N + 1) d',up s N j,up r N i,?_,fun i c _ _=>by rw [b0g],fun i _=>by rw [b0g],by rw [b0g]⟩
 have u:∀ {α:Type} (f:Nat→α) (x:α) {k:Nat},k≤N→up f (N + 1) x k=f k:=fun f x k hk=>e0l (by omega)
 have v:∀ {α:Type} (f:Nat→α) (x:α) {k:Nat},k < N→up f N x k=f k:=fun f x k hk=>e0l (by omega)
 constructor
 ·intro k hk
  by_cases hkN:k=N + 1
  ·subst hkN;rw [b0g,b0g,b0g];exact hnew
  ·rw [u _ _ (by omega),u _ _ (by omega),u _ _ (by omega)];exact h1.tab k (by omega)
 ·intro k hk
  by_cases hkN:k=N
  ·subst hkN;rw [b0g];exact hj
  ·rw [v _ _ (by omega)];exact h1.sC k (by omega)
 ·intro k hk
  by_cases hkN:k=N
  ·subst hkN;rw [b0g];exact hi
  ·rw [v _ _ (by omega)];exact h1.rm k (by omega)
 ·intro k hk
  rw [u _ _ (by omega)]
  by_cases hkN:k=N
  ·subst hkN;rw [b0g,← h2 g j (by omega) (by omega)];exact he
  ·rw [v _ _ (by omega)];exact h1.ent k (by omega)
 ·intro k hk c hc
  rw [u _ _ (by omega)]
  by_cases hkN:k=N
  ·subst hkN;rw [b0g] at hc;rw [← h2 g c (by omega) (by omega)];exact hl c hc
  ·rw [v _ _ (by omega)] at hc;exact h1.low k (by omega) c hc
 ·intro k hk
  rw [u _ _ (by omega)]
  by_cases hkN:k=N
  ·subst hkN;rw [b0g,b0g,← h2 i j (by omega) (by omega)];exact hp
  ·rw [v _ _ (by omega),v _ _ (by omega)];exact h1.piv k (by omega)
 ·intro k hk q hq hpos
  rw [u Ts _ (by omega)] at hpos ⊢
  rw [u bs _ (by omega)]
  by_cases hkN:k=N
  ·subst hkN
   rw [b0g] at hpos ⊢
   rw [b0g]
   rw [← h2 q j (by omega) (by omega)] at hpos
   rw [← h2 q j (by omega) (by omega),← h2 i j (by omega) (by omega),← h2 i C (by omega) hC,← h2 q C (by omega) hC,← h3 i hi,← h3 q hq]
   exact hmin q hq hpos
  ·rw [v s _ (by omega)] at hpos ⊢
   rw [v r _ (by omega)]
   exact h1.min k (by omega) q hq hpos
 ·intro k hk q c hq hc
  by_cases hkN:k=N
  ·subst hkN
   rw [b0g,b0g,b0g,u _ _ (Z0E _),u _ _ (Z0E _),hT q c hq hc]
   unfold pv
   rw [h2 q c hq hc,h2 q j hq (by omega),h2 i c (by omega) hc,h2 i j (by omega) (by omega),h4]
  ·rw [u Ts _ (by omega),u Ts _ (by omega),u ds _ (by omega),v _ _ (by omega),v _ _ (by omega)];exact h1.nxt k (by omega) q c hq hc
 ·intro k hk q hq
  by_cases hkN:k=N
  ·subst hkN
   rw [b0g,b0g,b0g,u _ _ (Z0E _),hb q hq,h3 q hq]
  ·rw [u bs _ (by omega),u bs _ (by omega),v _ _ (by omega),v _ _ (by omega)];exact h1.nb k (by omega) q hq
 ·intro k hk
  by_cases hkN:k=N
  ·subst hkN
   rw [b0g,b0g,b0g,u _ _ (Z0E _),hd,h2 i j (by omega) (by omega)]
  ·rw [u ds _ (by omega),u Ts _ (by omega),v _ _ (by omega),v _ _ (by omega)];exact h1.nd k (by omega)
theorem Tab.bound (h:Tab m C A neg T base d) {B:Nat} (hB:1≤B) (hA:∀ c r,c≤C→r < m + 2→(A c r).natAbs≤B):(∀ k c,k < m + 2→c≤C→(T k c).natAbs≤fac (m + 2) * B ^ (m + 2))∧d.natAbs≤fac (m + 2) * B ^ (m + 2):=by
 obtain ⟨b,e,h1,h2,h3,h4⟩:=h.inv
 have hu:∀ i r,(i0A i r).natAbs≤B:=fun i r=>by unfold i0A;split <;> simp <;> omega
 have hb:∀ i r,i < m + 2→r < m + 2→(b i r).natAbs≤B:=by
  intro i r hi hr
  by_cases hm:i < m
  ·rcases h2 i hm with ⟨k1,k2⟩ | ⟨_,_,k2⟩
   ·rw [k2 r hr];exact hA _ r (by omega) hr
   ·rw [k2 r];exact hu i r
  ·by_cases hm2:i=m
   ·rw [hm2,h3 r];exact hu m r
   ·rw [show i=m + 1 by omega,h4 r];exact hu _ r
 exact ⟨fun k c hk hc=>h1.bound hb hA hk hc,h1.bound_d hb⟩
end Go.Proofs.YtilekhkgobmolaaGreat.SX
namespace Go.Proofs.YtilekhkgobmolaaGreat.SX
def d0Y (n m:Nat) (a:Nat→Nat→Int) (bb:Nat→Int) (r c:Nat):Int :=
 if c < n then a r c else if c < 2 * n then -a r (c - n) else if c < 2 * n + m then (if c - 2 * n=r then 1 else 0) else bb r
def sg (bb:Nat→Int) (r:Nat):Int:=if bb r < 0 then -1 else 1
def cost (n:Nat) (cc:Nat→Int) (c:Nat):Int:=if c < n then cc c else if c < 2 * n then -cc (c - n) else 0
def g0Y (n m:Nat) (a:Nat→Nat→Int) (bb cc:Nat→Int) (c r:Nat):Int :=
 if r < m then sg bb r * d0Y n m a bb r c else if r=m then -sm (fun i=>if bb i < 0 then sg bb i * d0Y n m a bb i c else 0) m else -cost n cc c
def j0H (n m:Nat) (bb:Nat→Int) (i:Nat):Nat:=if bb i < 0 then 2 * n + m + i else 2 * n + i
variable {n m:Nat} {a:Nat→Nat→Int} {bb cc:Nat→Int} {T:Nat→Nat→Int} {base:Nat→Nat} {d:Int}
theorem e0s {c r:Nat} (h:r < m):g0Y n m a bb cc c r=sg bb r * d0Y n m a bb r c:=by unfold g0Y;rw [Z0I h]
theorem g0i {c:Nat}:g0Y n m a bb cc c m = -sm (fun i=>if bb i < 0 then sg bb i * d0Y n m a bb i c else 0) m:=by unfold g0Y;rw [Z0F (by omega),Z0I rfl]
theorem e0x {c:Nat}:g0Y n m a bb cc c (m + 1) = -cost n cc c:=by unfold g0Y;rw [Z0F (by omega),Z0F (by omega)]
theorem c0s {r k:Nat} (h:k < m):d0Y n m a bb r (2 * n + k)=if k=r then 1 else 0:=by
 unfold d0Y;rw [Z0F (by omega),Z0F (by omega),Z0I (by omega),show 2 * n + k - 2 * n=k by omega]
theorem f0m {r:Nat}:d0Y n m a bb r (2 * n + m)=bb r:=by unfold d0Y;rw [Z0F (by omega),Z0F (by omega),Z0F (by omega)]
theorem d0R {c:Nat} (h:2 * n≤c):cost n cc c=0:=by unfold cost;rw [Z0F (by omega),Z0F (by omega)]
theorem y0q:Tab m (2 * n + m) (g0Y n m a bb cc) (fun i=>bb i < 0) (fun i c=>g0Y n m a bb cc c i) (j0H n m bb) 1:=by
 refine ⟨⟨i0A,1,Inv.first,fun i hi=>?_,fun _=>rfl,fun _=>rfl⟩,fun i hi=>?_⟩
 ·unfold j0H
  by_cases hb:bb i < 0
  ·rw [Z0I hb];exact .inr ⟨rfl,hb,fun _=>rfl⟩
  ·rw [Z0F hb]
   refine .inl ⟨by omega,fun r hr=>?_⟩
   by_cases h1:r < m
   ·rw [e0s h1,c0s hi]
    by_cases h2:i=r
    ·subst h2;unfold i0A sg;simp [hb]
    ·unfold i0A;rw [Z0F (b1k h2),Z0F h2];simp
   ·by_cases h2:r=m
    ·subst h2
     rw [g0i,e0k]
     ·unfold i0A;rw [Z0F (by omega)];rfl
     ·intro k hk
      split
      ·rename_i h3
       rw [c0s hi,Z0F (by rintro rfl;exact hb h3)];simp
      ·rfl
    ·rw [show r=m + 1 by omega,e0x,d0R (by omega)]
     unfold i0A;rw [Z0F (by omega)];rfl
 ·show 0≤g0Y n m a bb cc (2 * n + m) i
  rw [e0s hi,f0m]
  unfold sg;split <;> omega
theorem Tab.rows (h:Tab m (2 * n + m) (g0Y n m a bb cc) (fun i=>bb i < 0) T base d) {k c:Nat} (hk:k < m + 2) (hc:c≤2 * n + m) :
  T k c=sm (fun i=>T k (2 * n + i) * d0Y n m a bb i c) m - (if k=m + 1 then d * cost n cc c else 0):=by
 obtain ⟨b,e,hI,_,_,hg⟩:=h.inv
 rw [← hI.entry hk hc]
 have h1:co (m + 2) b e k (g0Y n m a bb cc c)=co (m + 2) b e k (fun r=>1 * sm (fun i=>d0Y n m a bb i c * g0Y n m a bb cc (2 * n + i) r) m + (-cost n cc c) * b (m + 1) r):=by
  refine e0L fun r hr=>?_
  rw [hg r]
  by_cases h1:r < m
  ·rw [e0s h1,f0S h1]
   ·rw [e0s h1,c0s h1,Z0I rfl];unfold i0A;rw [Z0F (by omega)];grind
   ·intro i hi hne
    rw [e0s h1,c0s hi,Z0F hne];simp
  ·by_cases h2:r=m
   ·subst h2
    rw [g0i]
    have e2:sm (fun i=>d0Y n r a bb i c * g0Y n r a bb cc (2 * n + i) r) r=sm (fun i=>-1 * if bb i < 0 then sg bb i * d0Y n r a bb i c else 0) r:=by
     refine b0f fun i hi=>?_
     rw [g0i]
     by_cases h3:bb i < 0
     ·rw [Z0I h3,f0S hi]
      ·rw [Z0I h3,c0s hi,Z0I rfl];grind
      ·intro j hj hne
       rw [c0s hi,Z0F (b1k hne)];simp
     ·rw [Z0F h3,e0k]
      ·simp
      ·intro j hj
       by_cases h4:j=i
       ·subst h4;rw [Z0F h3]
       ·rw [c0s hi,Z0F (b1k h4)];simp
    rw [e2,e0E];unfold i0A;rw [Z0F (by omega)];grind
   ·have h3:r=m + 1:=by omega
    subst h3
    rw [e0x,e0k]
    ·unfold i0A;rw [Z0I rfl];grind
    ·intro i hi;rw [e0x,d0R (by omega)];simp
 rw [h1,I0K hk,I0L hk,hI.basis hk (by omega)]
 have h2:sm (fun i=>d0Y n m a bb i c * co (m + 2) b e k (g0Y n m a bb cc (2 * n + i))) m=sm (fun i=>T k (2 * n + i) * d0Y n m a bb i c) m :=
  b0f fun i hi=>by rw [hI.entry hk (by omega)];grind
 rw [h2]
 by_cases hkm:k=m + 1
 ·rw [Z0I hkm,Z0I hkm];grind
 ·rw [Z0F hkm,Z0F hkm];grind
theorem Tab.lack (h:Tab m (2 * n + m) (g0Y n m a bb cc) (fun i=>bb i < 0) T base d) {c:Nat} (hc:c≤2 * n + m):T m c = -sm (fun i=>if base i < 2 * n + m then 0 else T i c) m:=by
 obtain ⟨b,e,hI,hb,hm,hg⟩:=h.inv
 -- the functional: the number in the row of what is lacking, and those of rows with a right side below nought
 let psi:(Nat→Int)→Int:=fun v=>v m + sm (fun i=>if bb i < 0 then v i else 0) m
 have psiA:∀ c,psi (g0Y n m a bb cc c)=0:=fun c=>by
  simp only [psi,g0i]
  have:sm (fun i=>if bb i < 0 then g0Y n m a bb cc c i else 0) m=sm (fun i=>if bb i < 0 then sg bb i * d0Y n m a bb i c else 0) m:=b0f fun i hi=>by
   split
   ·rw [e0s hi]
   ·rfl
  rw [this];omega
 have psi_sum:∀ (t:Nat→Int) (x:Nat→Nat→Int) (N:Nat),psi (fun r=>sm (fun i=>t i * x i r) N)=sm (fun i=>t i * psi (x i)) N:=by
  intro t x N
  induction N with
  | zero=>simp only [psi,sm];rw [e0k (fun i _=>by split <;> rfl)];rfl
  | succ N ih =>
   simp only [sm]
   rw [← ih]
   simp only [psi]
   have:sm (fun i=>if bb i < 0 then sm (fun k=>t k * x k i) N + t N * x N i else 0) m=sm (fun i=>if bb i < 0 then sm (fun k=>t k * x k i) N else 0) m + t N * sm (fun i=>if bb i < 0 then x N i else 0) m:=by
    rw [← e0E,← r0m]
    exact b0f fun i _=>by split <;> simp
   rw [this];grind
 have h1:psi (fun r=>sm (fun i=>T i c * b i r) (m + 2))=psi (fun r=>d * g0Y n m a bb cc c r):=by
  simp only [psi]
  rw [← hI.col c hc m (by omega)]
  congr 1
  exact b0f fun i hi=>by rw [← hI.col c hc i (by omega)]
 have h2:psi (fun r=>d * g0Y n m a bb cc c r)=0:=by
  have:=psi_sum (fun _=>d) (fun _=>g0Y n m a bb cc c) 1
  simp only [sm,Int.zero_add] at this
  rw [this,psiA];simp
 rw [psi_sum,h2] at h1
 have h3:sm (fun i=>T i c * psi (b i)) (m + 2)=sm (fun i=>T i c * psi (b i)) m + T m c * psi (b m) + T (m + 1) c * psi (b (m + 1)):=rfl
 have e1:psi (b m)=1:=by
  simp only [psi]
  rw [hm,e0k]
  ·unfold i0A;simp
  ·intro i hi;rw [hm];unfold i0A;rw [Z0F (show i ≠ m by omega)];simp
 have e2:psi (b (m + 1))=0:=by
  simp only [psi]
  rw [hg,e0k]
  ·unfold i0A;simp
  ·intro i hi;rw [hg];unfold i0A;rw [Z0F (show i ≠ m + 1 by omega)];simp
 have e3:sm (fun i=>T i c * psi (b i)) m=sm (fun i=>if base i < 2 * n + m then 0 else T i c) m:=by
  refine b0f fun i hi=>?_
  rcases hb i hi with ⟨k1,k2⟩ | ⟨k1,k2,k3⟩
  ·rw [Z0I k1]
   have:psi (b i)=psi (g0Y n m a bb cc (base i)):=by
    simp only [psi];rw [k2 m (by omega)];congr 1
    exact b0f fun j hj=>by rw [k2 j (by omega)]
   rw [this,psiA];simp
  ·rw [Z0F (by omega)]
   have:psi (b i)=1:=by
    simp only [psi]
    rw [k3,f0S hi]
    ·rw [Z0I k2,k3];unfold i0A;rw [Z0F (by omega),Z0I rfl];rfl
    ·intro j hj hne;rw [k3];unfold i0A;rw [Z0F hne];simp
   rw [this];simp
 rw [h3,e1,e2,e3] at h1
 omega
theorem g0D {f:Nat→Int}:∀ {N:Nat},(∀ i,i < N→0≤f i)→0≤sm f N
 | 0,_=>by simp [sm]
 | N + 1,h=>by rw [sm];have:=g0D (fun i hi=>h i (by omega)) (N:=N) (f:=f);have:=h N (by omega);omega
theorem r0n {f:Nat→Int}:∀ {N:Nat},(∀ i,i < N→0≤f i)→sm f N≤0→∀ i,i < N→f i=0
 | 0,_,_=>fun i hi=>by omega
 | N + 1,h,h0=>fun i hi=>by
  rw [sm] at h0
  have h1:=g0D (fun i hi=>h i (by omega)) (N:=N) (f:=f)
  have h2:=h N (by omega)
  by_cases hN:i=N
  ·rw [hN];omega
  ·exact r0n (N:=N) (f:=f) (fun i hi=>h i (by omega)) (by omega) i (by omega)
theorem Tab.full (h:Tab m (2 * n + m) (g0Y n m a bb cc) (fun i=>bb i < 0) T base d) (h0:0≤T m (2 * n + m)):∀ i,i < m→¬ base i < 2 * n + m→T i (2 * n + m)=0:=by
 intro i hi hb
 rw [h.lack (Z0E _)] at h0
 have:=r0n (f:=fun i=>if base i < 2 * n + m then 0 else T i (2 * n + m)) (fun j hj=>by split;exact Int.le_refl _;exact h.rhs j hj) (by omega) i hi
 rw [Z0F hb] at this;exact this
theorem w0l (h:Tab m (2 * n + m) (g0Y n m a bb cc) (fun i=>bb i < 0) T base d) (ho:∀ c,c < 2 * n + m→0≤T m c) :
  (∀ i,i < m→0≤T m (2 * n + i))∧(∀ k,k < n→sm (fun i=>T m (2 * n + i) * a i k) m=0)∧sm (fun i=>T m (2 * n + i) * bb i) m=T m (2 * n + m):=by
 refine ⟨fun i hi=>ho _ (by omega),fun k hk=>?_,?_⟩
 ·have h1:=h.rows (k:=m) (c:=k) (by omega) (by omega)
  have h2:=h.rows (k:=m) (c:=n + k) (by omega) (by omega)
  rw [Z0F (by omega),Int.sub_zero] at h1 h2
  have e1:sm (fun i=>T m (2 * n + i) * d0Y n m a bb i k) m=sm (fun i=>T m (2 * n + i) * a i k) m:=b0f fun i _=>by unfold d0Y;rw [Z0I hk]
  have e2:sm (fun i=>T m (2 * n + i) * d0Y n m a bb i (n + k)) m = -1 * sm (fun i=>T m (2 * n + i) * a i k) m:=by
   rw [← e0E]
   exact b0f fun i _=>by unfold d0Y;rw [Z0F (by omega),Z0I (by omega),show n + k - n=k by omega];grind
  have:=ho k (by omega)
  have:=ho (n + k) (by omega)
  omega
 ·have h1:=h.rows (k:=m) (c:=2 * n + m) (by omega) (by omega)
  rw [Z0F (by omega),Int.sub_zero] at h1
  rw [h1];exact b0f fun i _=>by rw [f0m]
theorem duals (h:Tab m (2 * n + m) (g0Y n m a bb cc) (fun i=>bb i < 0) T base d) (ho:∀ c,c < 2 * n + m→0≤T (m + 1) c) :
  (∀ i,i < m→0≤T (m + 1) (2 * n + i))∧(∀ k,k < n→sm (fun i=>T (m + 1) (2 * n + i) * a i k) m=d * cc k)∧sm (fun i=>T (m + 1) (2 * n + i) * bb i) m=T (m + 1) (2 * n + m):=by
 refine ⟨fun i hi=>ho _ (by omega),fun k hk=>?_,?_⟩
 ·have h1:=h.rows (k:=m + 1) (c:=k) (by omega) (by omega)
  have h2:=h.rows (k:=m + 1) (c:=n + k) (by omega) (by omega)
  rw [Z0I rfl] at h1 h2
  have e1:sm (fun i=>T (m + 1) (2 * n + i) * d0Y n m a bb i k) m=sm (fun i=>T (m + 1) (2 * n + i) * a i k) m:=b0f fun i _=>by unfold d0Y;rw [Z0I hk]
  have e2:sm (fun i=>T (m + 1) (2 * n + i) * d0Y n m a bb i (n + k)) m = -1 * sm (fun i=>T (m + 1) (2 * n + i) * a i k) m:=by
   rw [← e0E]
   exact b0f fun i _=>by unfold d0Y;rw [Z0F (by omega),Z0I (by omega),show n + k - n=k by omega];grind
  have e3:cost n cc k=cc k:=by unfold cost;rw [Z0I hk]
  have e4:cost n cc (n + k) = -cc k:=by unfold cost;rw [Z0F (by omega),Z0I (by omega),show n + k - n=k by omega]
  have:=ho k (by omega)
  have:=ho (n + k) (by omega)
  rw [e3] at h1
  rw [e4,Int.mul_neg] at h2
  omega
 ·have h1:=h.rows (k:=m + 1) (c:=2 * n + m) (by omega) (by omega)
  rw [Z0I rfl,d0R (by omega),b1C,Int.sub_zero] at h1
  rw [h1];exact b0f fun i _=>by rw [f0m]
def pt (n m:Nat) (base:Nat→Nat) (F:Nat→Int) (k:Nat):Int:=sm (fun i=>if base i=k then F i else if base i=n + k then -F i else 0) m
theorem F0z {f:Nat→Nat→Int} {M:Nat}:∀ {N:Nat},sm (fun i=>sm (fun j=>f i j) M) N=sm (fun j=>sm (fun i=>f i j) N) M
 | 0=>by simp only [sm];rw [e0k (fun _ _=>rfl)]
 | N + 1=>by simp only [sm];rw [F0z,← r0m]
theorem z0k {F:Nat→Int} {w:Nat→Int} {W:Nat→Int} (hW:∀ c,c < 2 * n→W c=if c < n then w c else -w (c - n)):sm (fun k=>w k * pt n m base F k) n=sm (fun i=>if base i < 2 * n then F i * W (base i) else 0) m:=by
 have h1:sm (fun k=>w k * pt n m base F k) n=sm (fun k=>sm (fun i=>w k * (if base i=k then F i else if base i=n + k then -F i else 0)) m) n :=
  b0f fun k _=>by unfold pt;rw [e0E]
 rw [h1,F0z]
 refine b0f fun i hi=>?_
 by_cases hb:base i < 2 * n
 ·rw [Z0I hb,hW _ hb]
  by_cases hb2:base i < n
  ·rw [Z0I hb2,f0S hb2]
   ·rw [Z0I rfl];grind
   ·intro k hk hne;rw [Z0F (b1k hne),Z0F (by omega)];simp
  ·rw [Z0F hb2,f0S (k:=base i - n) (by omega)]
   ·rw [Z0F (by omega),Z0I (by omega)];grind
   ·intro k hk hne;rw [Z0F (by omega),Z0F (by omega)];simp
 ·rw [Z0F hb]
  exact e0k fun k hk=>by rw [Z0F (by omega),Z0F (by omega)];simp
theorem Tab.colrow (h:Tab m (2 * n + m) (g0Y n m a bb cc) (fun i=>bb i < 0) T base d) {c:Nat} (hc:c≤2 * n + m) (h0:∀ i,i < m→¬ base i < 2 * n + m→T i c=0) :
  (∀ r,r < m→d * d0Y n m a bb r c=sm (fun i=>if base i < 2 * n + m then T i c * d0Y n m a bb r (base i) else 0) m) ∧
  d * cost n cc c=sm (fun i=>if base i < 2 * n + m then T i c * cost n cc (base i) else 0) m - T (m + 1) c:=by
 obtain ⟨b,e,hI,hb,hm,hg⟩:=h.inv
 refine ⟨fun r hr=>?_,?_⟩
 ·have h1:=hI.col c hc r (by omega)
  have h3:sm (fun i=>T i c * b i r) (m + 2)=sm (fun i=>T i c * b i r) m + T m c * b m r + T (m + 1) c * b (m + 1) r:=rfl
  rw [h3,hm,hg] at h1
  unfold i0A at h1
  rw [Z0F (by omega),Z0F (by omega),e0s hr,b1C,b1C,b1a,b1a] at h1
  have e3:sm (fun i=>T i c * b i r) m=sg bb r * sm (fun i=>if base i < 2 * n + m then T i c * d0Y n m a bb r (base i) else 0) m:=by
   rw [← e0E]
   refine b0f fun i hi=>?_
   rcases hb i hi with ⟨k1,k2⟩ | ⟨k1,k2,k3⟩
   ·rw [Z0I k1,k2 r (by omega),e0s hr];grind
   ·rw [Z0F (by omega),h0 i hi (by omega)];simp
  rw [e3] at h1
  have h4:sg bb r * (d * d0Y n m a bb r c)=sg bb r * sm (fun i=>if base i < 2 * n + m then T i c * d0Y n m a bb r (base i) else 0) m:=by rw [← h1];grind
  refine b1l ?_ h4
  unfold sg;split <;> omega
 ·have h1:=hI.col c hc (m + 1) (by omega)
  have h3:sm (fun i=>T i c * b i (m + 1)) (m + 2)=sm (fun i=>T i c * b i (m + 1)) m + T m c * b m (m + 1) + T (m + 1) c * b (m + 1) (m + 1):=rfl
  rw [h3,hm,hg] at h1
  unfold i0A at h1
  rw [Z0F (by omega),Z0I rfl,e0x,b1C,Int.mul_one,b1a] at h1
  have e3:sm (fun i=>T i c * b i (m + 1)) m = -1 * sm (fun i=>if base i < 2 * n + m then T i c * cost n cc (base i) else 0) m:=by
   rw [← e0E]
   refine b0f fun i hi=>?_
   rcases hb i hi with ⟨k1,k2⟩ | ⟨k1,k2,k3⟩
   ·rw [Z0I k1,k2 (m + 1) (by omega),e0x];grind
   ·rw [Z0F (by omega),h0 i hi (by omega)];simp
  rw [e3,Int.mul_neg] at h1
  omega
theorem u0p {r c:Nat} (h:c < 2 * n):d0Y n m a bb r c=if c < n then a r c else -a r (c - n):=by
 unfold d0Y;by_cases h1:c < n
 ·rw [Z0I h1,Z0I h1]
 ·rw [Z0F h1,Z0F h1,Z0I h]
theorem t0U {c:Nat} (h:c < 2 * n):cost n cc c=if c < n then cc c else -cc (c - n):=by
 unfold cost;by_cases h1:c < n
 ·rw [Z0I h1,Z0I h1]
 ·rw [Z0F h1,Z0F h1,Z0I h]
theorem N0q {f g:Nat→Int} {N:Nat}:sm f N - sm g N=sm (fun i=>f i - g i) N:=by
 have:=v0w (a:=1) (b:=-1) (f:=f) (g:=g) (n:=N)
 have e:sm (fun i=>1 * f i + -1 * g i) N=sm (fun i=>f i - g i) N:=b0f fun i _=>by omega
 omega
theorem J0a (h:Tab m (2 * n + m) (g0Y n m a bb cc) (fun i=>bb i < 0) T base d) (h0:∀ i,i < m→¬ base i < 2 * n + m→T i (2 * n + m)=0) :
  (∀ r,r < m→sm (fun k=>a r k * pt n m base (fun i=>T i (2 * n + m)) k) n≤d * bb r)∧sm (fun k=>cc k * pt n m base (fun i=>T i (2 * n + m)) k) n=T (m + 1) (2 * n + m):=by
 obtain ⟨h1,h2⟩:=h.colrow (Z0E _) h0
 refine ⟨fun r hr=>?_,?_⟩
 ·have h3:=h1 r hr
  rw [f0m] at h3
  rw [z0k (W:=d0Y n m a bb r) (fun c hc=>u0p hc),h3]
  have h4:0≤sm (fun i=>if base i < 2 * n + m then T i (2 * n + m) * d0Y n m a bb r (base i) else 0) m - sm (fun i=>if base i < 2 * n then T i (2 * n + m) * d0Y n m a bb r (base i) else 0) m:=by
   rw [N0q]
   refine g0D fun i hi=>?_
   by_cases hb:base i < 2 * n
   ·rw [Z0I (by omega),Z0I hb];omega
   ·rw [Z0F hb]
    by_cases hb2:base i < 2 * n + m
    ·rw [Z0I hb2]
     have:base i=2 * n + (base i - 2 * n):=by omega
     rw [this,c0s (by omega)]
     have:=h.rhs i hi
     split <;> omega
    ·rw [Z0F hb2];omega
  omega
 ·rw [d0R (by omega),b1C] at h2
  rw [z0k (W:=cost n cc) (fun c hc=>t0U hc)]
  have:sm (fun i=>if base i < 2 * n + m then T i (2 * n + m) * cost n cc (base i) else 0) m=sm (fun i=>if base i < 2 * n then T i (2 * n + m) * cost n cc (base i) else 0) m:=by
   refine b0f fun i hi=>?_
   by_cases hb:base i < 2 * n
   ·rw [Z0I (by omega),Z0I hb]
   ·rw [Z0F hb,d0R (by omega)];split <;> simp
  omega
def l0A (n m:Nat) (T:Nat→Nat→Int) (base:Nat→Nat) (d:Int) (j k:Nat):Int:=pt n m base (fun i=>-T i j) k + (if j=k then d else if j=n + k then -d else 0)
theorem F0h {w W:Nat→Int} {j:Nat} (hW:∀ c,c < 2 * n→W c=if c < n then w c else -w (c - n)) :
  sm (fun k=>w k * l0A n m T base d j k) n = -sm (fun i=>if base i < 2 * n then T i j * W (base i) else 0) m + (if j < 2 * n then d * W j else 0):=by
 have h1:sm (fun k=>w k * l0A n m T base d j k) n=sm (fun k=>w k * pt n m base (fun i=>-T i j) k) n + sm (fun k=>w k * (if j=k then d else if j=n + k then -d else 0)) n:=by
  rw [← r0m];exact b0f fun k _=>by unfold l0A;grind
 rw [h1,z0k hW]
 congr 1
 ·have:sm (fun i=>if base i < 2 * n then -T i j * W (base i) else 0) m = -1 * sm (fun i=>if base i < 2 * n then T i j * W (base i) else 0) m:=by
   rw [← e0E];exact b0f fun i _=>by split <;> grind
  omega
 ·by_cases hj:j < 2 * n
  ·rw [Z0I hj,hW j hj]
   by_cases hj2:j < n
   ·rw [Z0I hj2,f0S hj2]
    ·rw [Z0I rfl];grind
    ·intro k hk hne;rw [Z0F (b1k hne),Z0F (by omega)];simp
   ·rw [Z0F hj2,f0S (k:=j - n) (by omega)]
    ·rw [Z0F (by omega),Z0I (by omega)];grind
    ·intro k hk hne;rw [Z0F (by omega),Z0F (by omega)];simp
  ·rw [Z0F hj]
   exact e0k fun k hk=>by rw [Z0F (by omega),Z0F (by omega)];simp
theorem F0H (h:Tab m (2 * n + m) (g0Y n m a bb cc) (fun i=>bb i < 0) T base d) {j:Nat} (hj:j < 2 * n + m) (hle:∀ i,i < m→T i j≤0) (h0:∀ i,i < m→¬ base i < 2 * n + m→T i j=0) :
  (∀ r,r < m→sm (fun k=>a r k * l0A n m T base d j k) n≤0)∧sm (fun k=>cc k * l0A n m T base d j k) n = -T (m + 1) j:=by
 obtain ⟨h1,h2⟩:=h.colrow (c:=j) (by omega) h0
 have hd:=h.pos
 refine ⟨fun r hr=>?_,?_⟩
 ·have h3:=h1 r hr
  rw [F0h (W:=d0Y n m a bb r) (fun c hc=>u0p hc)]
  have h4:sm (fun i=>if base i < 2 * n + m then T i j * d0Y n m a bb r (base i) else 0) m - sm (fun i=>if base i < 2 * n then T i j * d0Y n m a bb r (base i) else 0) m≤0:=by
   rw [N0q]
   have:0≤sm (fun i=>-1 * ((if base i < 2 * n + m then T i j * d0Y n m a bb r (base i) else 0) - (if base i < 2 * n then T i j * d0Y n m a bb r (base i) else 0))) m:=by
    refine g0D fun i hi=>?_
    by_cases hb:base i < 2 * n
    ·rw [Z0I (by omega),Z0I hb];omega
    ·rw [Z0F hb]
     by_cases hb2:base i < 2 * n + m
     ·rw [Z0I hb2]
      have:base i=2 * n + (base i - 2 * n):=by omega
      rw [this,c0s (by omega)]
      have:=hle i hi
      split <;> omega
     ·rw [Z0F hb2];omega
   rw [e0E] at this
   omega
  by_cases hj2:j < 2 * n
  ·rw [Z0I hj2];omega
  ·rw [Z0F hj2]
   have e:j=2 * n + (j - 2 * n):=by omega
   have h5:0≤d * d0Y n m a bb r j:=by
    rw [e,c0s (by omega)];split <;> omega
   omega
 ·rw [F0h (W:=cost n cc) (fun c hc=>t0U hc)]
  have:sm (fun i=>if base i < 2 * n + m then T i j * cost n cc (base i) else 0) m=sm (fun i=>if base i < 2 * n then T i j * cost n cc (base i) else 0) m:=by
   refine b0f fun i hi=>?_
   by_cases hb:base i < 2 * n
   ·rw [Z0I (by omega),Z0I hb]
   ·rw [Z0F hb,d0R (by omega)];split <;> simp
  by_cases hj2:j < 2 * n
  ·rw [Z0I hj2];omega
  ·rw [Z0F hj2]
   rw [d0R (by omega),b1C] at h2
   omega
theorem z0m {C i j k c:Nat} (hk:∀ c,c≤C→T k c=0) (hki:k ≠ i) (hc:c≤C) (hj:j≤C):pv T i j d k c=0:=by
 unfold pv;rw [Z0F hki,hk c hc,hk j hj];simp
end Go.Proofs.YtilekhkgobmolaaGreat.SX
namespace Go.Proofs.YtilekhkgobmolaaGreat.AI
section
open Go SX
set_option maxHeartbeats 4000000
set_option maxRecDepth 4000
variable {fl:Nat} {H G:a0e} {R:a0u} {v w u:Value} {F:RK}
def Q0S (T:Nat→Nat→Int) (base:Nat→Nat) (C j i:Nat) (z:Int):Prop:=(z = -1∧∀ k,k < i→T k j≤0) ∨ ∃ o:Nat,z=o∧o < i∧t0A T base C j i o
theorem v0T (X Y:Int):(c0Q X Y = -1∧X < Y) ∨ (c0Q X Y=0∧X=Y) ∨ (c0Q X Y=1∧Y < X):=by
 unfold c0Q
 by_cases hA:X < Y
 ·exact .inl ⟨by rw [Z0I hA],hA⟩
 ·by_cases hB:Y < X
  ·exact .inr (.inr ⟨by rw [Z0F hA,Z0I hB],hB⟩)
  ·exact .inr (.inl ⟨by rw [Z0F hA,Z0F hB],by omega⟩)
theorem r0W {f0 p n m j:Nat} {L:List (List Int)} {k D:Int} {bs:List Nat} {sR sD sB:Value} {vs:List Value} (h:e0p F f0 H p n m L D bs k sR sD sB vs) (hf:fl≤H.size) (hS:ShT n m L bs) (hz:∀ r c,lz (Tf L r c) < 67108864) (hj:j < 2 * n + m) (hm:m < 1048576) :
  a0V env fl (k0z F) [.pointer (some ⟨p,0,none⟩),.int .i64 (j:Int)] H (fun r H'=>(∃ z:Int,r=.int .i64 z∧Q0S (Tf L) (bf bs) (2 * n + m) j m z)∧Ext H H') R:=by
 refine a0k x0O hf (h:=?_)
 intro ρ h0
 have hL:=hS.len
 have hr:=hS.row
 have hb:=hS.base
 simp [f0q,k0Y,k0Z,l0a,h0,h.blk]
 refine c0F (n:=m) (fun i ρ G=>ρ 0=.pointer (some ⟨p,0,none⟩)∧ρ 1=.int .i64 (j:Int)∧Ext H G∧∃ z,ρ 5=.int .i64 z∧Q0S (Tf L) (bf bs) (2 * n + m) j i z) rfl rfl (by decide) (by omega) (by simp) (by simp) ?_ ?_ ?_ ?_
 ·exact ⟨by simp [h0],by simp [h0],Ext.refl H,-1,by simp,.inl ⟨rfl,fun k hk=>by omega⟩⟩
 ·intro i ρ ρ' G h hI;simpa [h] using hI
 ·clear h0 ρ
  rintro i ρ G hi gi gn ⟨g0,g1,hx,z,g5,hq⟩
  have hG:=h.mono hx
  have hiL:i < L.length:=by omega
  have hjL:j < L[i].length:=by rw [hr i hiL];omega
  obtain ⟨w1,e1,f1⟩:=hG.num hiL hjL
  have e0:=hG.head hiL
  have eh:=hG.hia hiL
  have ej:=hG.ia hiL hjL
  have hbk:=hG.blk
  obtain ⟨vi,hvi1⟩:∃ x,x=vs[i]'(by have:=h.rows.len;omega):=⟨_,rfl⟩
  rw [← hvi1] at e0 ej e1
  simp [l0b,gi]
  refine a0A ?_
  simp [l0c,g0,g1,gi,hbk,eh,e0,ej,e1]
  refine (p0S f1 (by have:=hx.1;omega) (hz _ _)).mono ?_
  rintro _ G2 ⟨rfl,hx2⟩
  replace hG:=hG.mono hx2
  replace hx:=hx.trans hx2
  clear hbk e1 f1 ej
  by_cases hp:0 < Tf L i j
  ·have hc:c0Q (Tf L i j) 0=1:=by unfold c0Q;rw [Z0F (by omega),Z0I (by omega)]
   simp [hc,l0d,g5]
   rcases hq with ⟨rfl,hq⟩ | ⟨o,rfl,ho,hB⟩
   ·simp [l0e]
    exact Rnd.mk (by simp [gi]) (by simp [gn]) ⟨by simp [g0],by simp [g1],hx,(i:Int),by simp,.inr ⟨i,rfl,by omega,t0A.one hp hq⟩⟩
   ·have hoL:o < L.length:=by omega
    have hjo:j < L[o].length:=by rw [hr o hoL];omega
    have hCi:2 * n + m < L[i].length:=by rw [hr i hiL];omega
    have hCo:2 * n + m < L[o].length:=by rw [hr o hoL];omega
    obtain ⟨w1,a1,fa⟩:=hG.num hiL hCi
    obtain ⟨w2,a2,fb⟩:=hG.num hoL hjo
    obtain ⟨w3,a3,fc⟩:=hG.num hoL hCo
    obtain ⟨w4,a4,fd⟩:=hG.num hiL hjL
    have ei:=hG.head hiL
    have eo:=hG.head hoL
    refine ⟨fun hh=>by omega,fun _=>?_⟩
    refine a0A ?_
    have iC:=hG.ia hiL hCi
    have oC:=hG.ia hoL hCo
    have eC:((2 * n + m:Nat):Int)=2 * (n:Int) + m:=by omega
    rw [eC] at iC oC
    have ij:=hG.ia hiL hjL
    have oj:=hG.ia hoL hjo
    have hi1:=hG.hia hiL
    have ho1:=hG.hia hoL
    have hbk:=hG.blk
    obtain ⟨vi,hvi1⟩:∃ x,x=vs[i]'(by have:=h.rows.len;omega):=⟨_,rfl⟩
    obtain ⟨vo,hvo1⟩:∃ x,x=vs[o]'(by have:=h.rows.len;omega):=⟨_,rfl⟩
    rw [← hvi1] at ei ij iC a1 a4
    rw [← hvo1] at eo oj oC a2 a3
    simp [l0f,g0,g1,g5,hbk,hi1,ho1,ei,eo,ij,oj]
    simp [iC,a1]
    simp [oC,oj,ij,a2,a3,a4]
    refine (N0x fa fb fc fd (by have:=hx.1;omega) (hz _ _) (hz _ _) (hz _ _) (hz _ _)).mono ?_
    rintro _ G3 ⟨rfl,hx3⟩
    replace hG:=hG.mono hx3
    replace hx:=hx.trans hx3
    refine a0A ?_
    obtain ⟨hc,h1⟩ | ⟨hc,h1⟩ | ⟨hc,h1⟩:=v0T (Tf L i (2 * n + m) * Tf L o j) (Tf L o (2 * n + m) * Tf L i j)
    ·simp [hc,f0H]
     simp [g0v]
     exact Rnd.mk (by simp [gi]) (by simp [gn]) ⟨by simp [g0],by simp [g1],hx,(i:Int),by simp,.inr ⟨i,rfl,by omega,hB.take hp (.inl h1)⟩⟩
    ·obtain ⟨li,bi⟩:=hG.base (show i < bs.length by omega)
     obtain ⟨lo,bo⟩:=hG.base (show o < bs.length by omega)
     have hbk:=hG.blk
     simp [hc,f0H,g0,g5,hbk,bi,bo,li,lo]
     by_cases hlt:bf bs i < bf bs o
     ·have hlt':¬ bf bs o≤bf bs i:=by omega
      simp [hlt,hlt',g0v]
      exact Rnd.mk (by simp [gi]) (by simp [gn]) ⟨by simp [g0],by simp [g1],hx,(i:Int),by simp,.inr ⟨i,rfl,by omega,hB.take hp (.inr ⟨h1,hlt⟩)⟩⟩
     ·have hlt':bf bs o≤bf bs i:=by omega
      simp [hlt,hlt']
      exact Rnd.mk (by simp [gi]) (by simp [gn]) ⟨by simp [g0],by simp [g1],hx,(o:Int),by simp [g5],.inr ⟨o,rfl,by omega,hB.keep (.inr ⟨h1.symm,by omega⟩)⟩⟩
    ·simp [hc,f0H]
     exact Rnd.mk (by simp [gi]) (by simp [gn]) ⟨by simp [g0],by simp [g1],hx,(o:Int),by simp [g5],.inr ⟨o,rfl,by omega,hB.keep (.inl h1)⟩⟩
  ·have hc:c0Q (Tf L i j) 0≤0:=by unfold c0Q;split <;> (try split) <;> omega
   simp [hc]
   refine Rnd.mk (by simp [gi]) (by simp [gn]) ⟨by simp [g0],by simp [g1],hx,z,by simp [g5],?_⟩
   rcases hq with ⟨rfl,hq⟩ | ⟨o,rfl,ho,hB⟩
   ·refine .inl ⟨rfl,fun k hk=>?_⟩
    by_cases hki:k=i
    ·rw [hki];omega
    ·exact hq k (by omega)
   ·exact .inr ⟨o,rfl,by omega,hB.skip (by omega)⟩
 ·rintro ρ G gi gn ⟨g0,g1,hx,z,g5,hq⟩
  simp [j0u,g5]
  exact fun _=>hq
end
section
open Go SX
set_option maxHeartbeats 4000000
variable {fl:Nat} {H G:a0e} {R:a0u} {v w u:Value}
def pvt (T:Nat→Nat→Int) (i j:Nat) (D:Int) (r c:Nat):Int:=if r=i then T i c else (T r c * T i j - T r j * T i c).tdiv D
def pvu (T:Nat→Nat→Int) (i j:Nat) (D:Int) (k q r c:Nat):Int:=if r < k ∨ r=k∧c < q then pvt T i j D r c else T r c
theorem z0o {T:Nat→Nat→Int} {i j:Nat} {D:Int} {k W r c:Nat} (hc:c < W):pvu T i j D k W r c=pvu T i j D (k + 1) 0 r c:=by
 unfold pvu
 by_cases h:r < k ∨ r=k∧c < W
 ·rw [Z0I h,Z0I (by omega)]
 ·rw [Z0F h,Z0F (by omega)]
theorem r0B {E:Env} {bef:List Nat} {Z:a0W→a0e→Prop} {v:Value} {j:Nat} {t:a0W}:∀ {ops:List a0D} {i:Nat} {lg:Log},(List.range ops.length).all (fun k=>(bef.getD (i + k) 0).testBit j)=true→R v→WRP E fl bef [] Z R i ops t H (some (j,v)) lg
 | [],i,lg,_,h=>⟨rfl,h⟩
 | o :: r,i,lg,hb,h=>by
  have h0:(bef.getD i 0).testBit j=true:=by
   have:=a1o.1 hb 0 (by simp)
   simpa using this
  show (if g0m bef i (some (j,v))=true then _ else _)
  rw [Z0I (show g0m bef i (some (j,v))=true from h0)]
  refine r0B ?_ h
  rw [a1o]
  intro k hk
  have:=a1o.1 hb (k + 1) (by simp at hk ⊢;omega)
  rwa [show i + (k + 1)=i + 1 + k by omega] at this
theorem y0o {E:Env} {bef:List Nat} {Z:a0W→a0e→Prop} {j i:Nat} {t:a0W} {ops:List a0D} {lg:Log} (hb:(List.range ops.length).all (fun k=>(bef.getD (i + k) 0).testBit j)=true) (h:o0Z .few R):o0Z .few (fun v=>WRP E fl bef [] Z R i ops t H (some (j,v)) lg):=r0B hb h
theorem m0n {p n m i j:Nat} {L:List (List Int)} {k D:Int} {bs:List Nat} {sR sD sB:Value} {vs:List Value} (h:e0p .few fl H p n m L D bs k sR sD sB vs) (hf:fl≤H.size) (hS:ShT n m L bs) (hz:∀ r c,lz (Tf L r c) < 67108864) (hD:lz D < 67108864) (hD0:D ≠ 0) (hi:i < m) (hj:j < 2 * n + m) (hm:m < 1048576) (hn:n < 1048576) (hR:o0Z .few R) :
  a0V env fl r0S [.pointer (some ⟨p,0,none⟩),.int .i64 (i:Int),.int .i64 (j:Int)] H (fun _ H'=>((∃ L' sD',e0p .few fl H' p n m L' (Tf L i j) (bs.set i j) (IntKind.i64.wrap (k + 1)) sR sD' sB vs∧ShT n m L' (bs.set i j)∧∀ r c,r < m + 2→c < 2 * n + m + 1→Tf L' r c=pvt (Tf L) i j D r c)∧Frm a0d d0p H H')∧f0u fl H H') R:=by
 refine k0w W0Z hf (h:=?_)
 intro ρ h0
 have hL:=hS.len
 have hr:=hS.row
 have hb:=hS.base
 have hiL:i < L.length:=by omega
 have hjL:j < L[i].length:=by rw [hr i hiL];omega
 have hbk:=h.blk
 rw [g0S] at hbk
 have hpl:=a0g hbk
 have hlow:=h.low
 simp [H0U,C0S,h0,hbk,hlow,hpl]
 generalize hS1:Array.setIfInBounds H p _=G1
 have t1:∀ {e:Nat},a0d ≠ e→LxT e H G1:=fun hne=>a0X hS1 hbk hne
 have hG:e0p .few fl G1 p n m L D bs (IntKind.i64.wrap (k + 1)) sR sD sB vs:=⟨a0M hS1 hbk,hlow,h.d,h.heads.lxm (t1 (by decide)) (fun _ _ h=>h),⟨h.rows.len,fun r hr=>(h.rows.own r hr).lxm (t1 (by decide)) (fun cs x hx=>Q0C.lx _ _ _ _ (t1 (by decide)) hx),h.rows.apart⟩,h.basis.lxm (t1 (by decide)) (fun _ _ h=>h)⟩
 have hx:Frm a0d d0p H G1:=⟨by rw [← hS1];simp,fun e he _ _=>t1 (b1k he)⟩
 clear hS1 t1
 obtain ⟨w6,e6,f6⟩:=hG.num hiL hjL
 have eh:=hG.head hiL
 have hi1:=hG.hia hiL
 have ij:=hG.ia hiL hjL
 have hbk:=hG.blk
 rw [g0S] at hbk
 obtain ⟨vi,hvi1⟩:∃ x,x=vs[i]'(by have:=h.rows.len;omega):=⟨_,rfl⟩
 rw [← hvi1] at eh ij e6
 simp only [RK.w,RK.b,RK.p_few] at ij e6
 refine a0A ?_
 simp [C0T,h0,hbk,hi1,eh,ij,e6]
 have hsl:=hG.heads.sls.slen
 rw [hG.rows.len] at hsl
 simp [C0U,h0,hbk,hsl]
 refine c0F (n:=L.length) (fun k' ρ G=>ρ 0=.pointer (some ⟨p,0,none⟩)∧ρ 1=.int .i64 (i:Int)∧ρ 2=.int .i64 (j:Int)∧ρ 6=w6∧ρ 7=vi∧ρ 39=sR∧Frm a0d d0p H G∧rV .few G w6 (Tf L i j) ∧
   ∃ L',e0p .few fl G p n m L' D bs (IntKind.i64.wrap (k + 1)) sR sD sB vs∧ShT n m L' bs∧∀ r c,r < m + 2→c < 2 * n + m + 1→Tf L' r c=pvu (Tf L) i j D k' 0 r c) rfl rfl (by decide) (by omega) (by simp) (by simp) ?_ ?_ ?_ ?_
 ·exact ⟨by simp [h0],by simp [h0],by simp [h0],by simp,by simp,by simp,hx,f6,L,hG,hS,fun r c _ _=>by unfold pvu;rw [Z0F (by omega)]⟩
 ·intro i ρ ρ' G h hI;simpa [h] using hI
 ·clear h0 ρ hG hx f6 e6 eh hi1 ij hbk hpl hsl
  rintro q ρ G hq gi gn ⟨g0,g1,g2,g6,g7,g39,hx,f6,L',hG,hS',hT⟩
  obtain ⟨vq,hvq⟩:∃ x,x=vs[q]'(by have:=h.rows.len;clear hG;omega):=⟨_,rfl⟩
  have hqL:q < L'.length:=by rw [hS'.len];omega
  have eq:=hG.head hqL
  have hq1:=hG.hia hqL
  rw [← hvq] at eq
  simp [C0V,gi,g39,hq1,eq]
  by_cases hqi:q=i
  ·subst hqi
   simp [s0M,g1]
   refine Rnd.mk (by simp [gi]) (by simp [gn]) ⟨by simp [g0],by simp [g1],by simp [g2],by simp [g6],by simp [g7],by simp [g39],hx,f6,L',hG,hS',fun r c h1 h2=>?_⟩
   rw [hT r c h1 h2]
   unfold pvu
   by_cases hrq:r=q
   ·subst hrq;rw [Z0F (by omega),Z0I (by omega)];unfold pvt;rw [Z0I rfl]
   ·by_cases hlt:r < q
    ·rw [Z0I (.inl hlt),Z0I (by omega)]
    ·rw [Z0F (by omega),Z0F (by omega)]
  ·have hqi':¬ ((q:Int)=(i:Int)):=by omega
   have hjq:j < L'[q].length:=by rw [hS'.row q hqL];omega
   obtain ⟨w10,e10,f10⟩:=hG.num hqL hjq
   have qj:=hG.ia hqL hjq
   have hsq:=(hG.rows.own q hqL).slen
   rw [hS'.row q hqL] at hsq
   rw [← hvq] at qj e10 hsq
   simp only [RK.w,RK.b,RK.p_few] at qj e10
   have hb10:Tf L' q j=Tf L q j:=by rw [hT q j (by omega) (by omega)];unfold pvu;rw [Z0F (by omega)]
   rw [hb10] at f10
   simp [s0M,g1,hqi,hqi',C0W,C0X,g2,qj,e10,hsq]
   obtain ⟨W,hW⟩:∃ W,W=2 * n + m + 1:=⟨_,rfl⟩
   have hWi:(2 * (n:Int) + m + 1)=(W:Int):=by omega
   refine m0D (n:=W) (fun c ρ G=>ρ 0=.pointer (some ⟨p,0,none⟩)∧ρ 1=.int .i64 (i:Int)∧ρ 2=.int .i64 (j:Int)∧ρ 6=w6∧ρ 7=vi∧ρ 39=sR∧ρ 41=.int .i64 (q:Int)∧ρ 40=.int .i64 (L.length:Int)∧ρ 9=vq∧ρ 10=w10∧Frm a0d d0p H G∧rV .few G w6 (Tf L i j)∧rV .few G w10 (Tf L q j) ∧
     ∃ L',e0p .few fl G p n m L' D bs (IntKind.i64.wrap (k + 1)) sR sD sB vs∧ShT n m L' bs∧∀ r c',r < m + 2→c' < 2 * n + m + 1→Tf L' r c' = pvu (Tf L) i j D q c r c') rfl rfl (by decide) (by omega) (by simp) (by simp [hWi]) ?_ ?_ ?_ ?_
   ·exact ⟨by simp [g0],by simp [g1],by simp [g2],by simp [g6],by simp [g7],by simp [g39],by simp [gi],by simp [gn],by simp,by simp,hx,f6,f10,L',hG,hS',hT⟩
   ·intro i ρ ρ' G h hI;simpa [h] using hI
   ·clear g0 g1 g2 g6 g7 g39 gi gn hx f6 f10 hG hS' hT e10 eq hq1 qj hsq hb10 hqL hjq L' ρ G
    rintro c ρ G hc gc gw ⟨g0,g1,g2,g6,g7,g39,gi,gn,g9,g10,hx,f6,f10,L',hG,hS',hT⟩
    have hqL:q < L'.length:=by rw [hS'.len];omega
    have hiL':i < L'.length:=by rw [hS'.len];omega
    have hcq:c < L'[q].length:=by rw [hS'.row q hqL];omega
    have hci:c < L'[i].length:=by rw [hS'.row i hiL'];omega
    obtain ⟨wq,eq,fq⟩:=hG.num hqL hcq
    obtain ⟨wi,ei,fi⟩:=hG.num hiL' hci
    have qc:=hG.ia hqL hcq
    have ic:=hG.ia hiL' hci
    have tq:Tf L' q c=Tf L q c:=by rw [hT q c (by omega) (by omega)];unfold pvu;rw [Z0F (by omega)]
    have ti:Tf L' i c=Tf L i c:=by
     rw [hT i c (by omega) (by omega)];unfold pvu;split
     ·unfold pvt;rw [Z0I rfl]
     ·rfl
    rw [tq] at fq
    rw [ti] at fi
    have qc':=qc
    rw [← hvq] at qc eq
    rw [← hvi1] at ic ei
    simp only [RK.w,RK.b,RK.p_few] at qc ic eq ei
    have hbk:=hG.blk
    rw [g0S] at hbk
    have dv:=hG.dv
    simp [C0Y,gc]
    refine k0n ?_
    simp [v0f,g0,g6,g7,g9,g10,gc,hbk,qc,ic,eq,ei]
    have hxs:=hx.1
    have hq1:=fun (R':a0u) (hR':o0Z .few R')=>I0H (fl:=fl) (R:=R') fq f6 f10 fi dv (by omega) (hz _ _) (hz _ _) (hz _ _) (hz _ _) hD hD0 hR'
    refine a0V.mono (hq1 _ (y0o rfl hR)) ?_
    clear hq1
    rintro ws G3 ⟨fs,hx3⟩
    obtain ⟨G4,hst,hG4,hx4,_⟩:=(hG.mono hx3).store (x:=(Tf L q c * Tf L i j - Tf L q j * Tf L i c).tdiv D) hqL hcq fs
    rw [← hvq] at hst
    simp only [RK.w,RK.b,RK.p_few] at hst
    have hlx:Lx G3 G4:=hx4.2 a0m (by decide) (by decide) (by decide)
    simp [g9,gc,qc,hst]
    refine Rnd.mk ?_ ?_ ?_
    ·simp [gc]
    ·simp [gw]
    refine ⟨by simp [g0],by simp [g1],by simp [g2],by simp [g6],by simp [g7],by simp [g39],by simp [gi],by simp [gn],by simp [g9],by simp [g10],hx.trans (hx3.frm.trans hx4),(f6.mono hx3).lx hlx,(f10.mono hx3).lx hlx,_,hG4,hS'.set hqL,fun r c' h1 h2=>?_⟩
    rw [x0q hS' hqL hcq,hT r c' h1 h2]
    unfold pvu
    by_cases hrc:r=q∧c' = c
    ·obtain ⟨rfl,rfl⟩:=hrc
     rw [Z0I ⟨rfl,rfl⟩,Z0I (by omega)]
     unfold pvt;rw [Z0F hqi]
    ·rw [Z0F hrc]
     by_cases hlt:r < q ∨ r=q∧c' < c
     ·rw [Z0I hlt,Z0I (by omega)]
     ·rw [Z0F hlt,Z0F (by omega)]
   ·rintro ρ G gc gw ⟨g0,g1,g2,g6,g7,g39,gi,gn,g9,g10,hx,f6,f10,L',hG,hS',hT⟩
    simp
    refine Rnd.mk gi gn ⟨g0,g1,g2,g6,g7,g39,hx,f6,L',hG,hS',fun r c h1 h2=>?_⟩
    rw [hT r c h1 h2,hW];exact z0o h2
 ·clear h0 ρ hG hx f6 e6 eh hi1 ij hbk hpl hsl
  rintro ρ G gi gn ⟨g0,g1,g2,g6,g7,g39,hx,f6,L',hG,hS',hT⟩
  obtain ⟨rfl,fz⟩:=f6
  have hbk:=hG.blk
  rw [g0S] at hbk
  have hpl:=a0g hbk
  have hib:i < bs.length:=by omega
  have ib:=(hG.base hib).2
  have hiL':i < L'.length:=by rw [hS'.len];omega
  simp [v0g,g0,g1,g2,g6,hbk,hlow,hpl,ib]
  generalize hS1:Array.setIfInBounds G p _=G1
  have t1:∀ {e:Nat},a0d ≠ e→LxT e G G1:=fun hne=>a0X hS1 hbk hne
  obtain ⟨G2,hst,ho,hxb⟩:=b0a.store (Q:=PK) (x:=j) (w:=.int .i64 (j:Int)) (hG.basis.lxm (Q':=PK) (t1 (by decide)) (fun _ _ h=>h)) hib (by decide) rfl rfl (fun _ _ _=>rfl) (by decide) (fun _ _ _ _ _ h=>h)
  have hob:=hG.basis.lxm (Q':=PK) (G':=G1) (t1 (by decide)) (fun _ _ h=>h)
  have tb:∀ {e:Nat},e0i ≠ e→LxT e G1 G2:=fun hne=>hob.lxT hne hxb
  simp [hst]
  refine ⟨⟨L',⟨sD,⟨?_,hlow,fz,?_,?_,ho⟩⟩,⟨hS'.len,hS'.row,by simp [hS'.base]⟩,fun r c h1 h2=>?_⟩,hx.trans ⟨Z0N (by rw [← hS1];simp) hxb.1,fun e h1 h2 h3 b ro cs hb=>tb (b1k h3) b ro cs (t1 (b1k h1) b ro cs hb)⟩⟩
  ·have hw:=a0M hS1 hbk
   exact tb (by decide) _ _ _ (by rw [g0S];simpa using hw)
  ·exact (hG.heads.lxm (Q':=PV) (t1 (by decide)) (fun _ _ h=>h)).lxm (tb (by decide)) (fun _ _ h=>h)
  ·exact ⟨hG.rows.len,fun r hr=>((hG.rows.own r hr).lxm (Q':=PF) (t1 (by decide)) (fun cs x hx=>Q0C.lx _ _ _ _ (t1 (by decide)) hx)).lxm (tb (by decide)) (fun cs x hx=>Q0C.lx _ _ _ _ (tb (by decide)) hx),hG.rows.apart⟩
  ·rw [hT r c h1 h2];unfold pvu;rw [Z0I (by omega)]
theorem b0a.adr_blk {α:Type} {P:a0e→List Value→α→Prop} {e sz j:Nat} {v:Value} {l:List α} (h:b0a P fl G e sz v l) (hj:j < l.length):∃ b,AI.blkOf (adr sz v j)=[b]∧b < G.size∧slB v=some b:=by
 obtain ⟨cs',⟨hl',⟨rfl,h0⟩ | ⟨b',cap,rfl,hp,hf⟩⟩,h2⟩:=h
 ·omega
 ·exact ⟨b',rfl,a0g hp,rfl⟩
def Bx (G:a0e) (q:Nat) (z:Int):Prop:=∃ s,a0e.blk G q=.row false a0a [.bool (a0l z).1,s]∧Lim G s (a0l z).2
theorem Bx.mono {G':a0e} {q:Nat} {z:Int} (h:Bx G q z) (hx:Ext G G'):Bx G' q z:=by obtain ⟨s,h1,h2⟩:=h;exact ⟨s,hx.blk h1,h2.mono hx⟩
theorem Bx.off {G':a0e} {q:Nat} {z:Int} {o:Option Nat} (h:Bx G q z) (hx:c0V o G G') (hl:Lx G G') (ho:o ≠ some q):Bx G' q z:=by
 obtain ⟨s,h1,h2⟩:=h;exact ⟨s,(hx.2 q (a0g h1) ho).trans h1,h2.lx hl⟩
theorem m0c {p n m i j:Nat} {L:List (List Int)} {k D:Int} {bs:List Nat} {sR sD sB:Value} {vs:List Value} (h:e0p .all fl H p n m L D bs k sR sD sB vs) (hf:fl≤H.size) (hS:ShT n m L bs) (hz:∀ r c,lz (Tf L r c) < 67108864) (hD:lz D < 67108864) (hD0:D ≠ 0) (hi:i < m) (hj:j < 2 * n + m) (hm:m < 1048576) (hn:n < 1048576) (hR:o0Z .all R) :
  a0V env fl r0R [.pointer (some ⟨p,0,none⟩),.int .i64 (i:Int),.int .i64 (j:Int)] H (fun _ H'=>((∃ L' sD',e0p .all fl H' p n m L' (Tf L i j) (bs.set i j) (IntKind.i64.wrap (k + 1)) sR sD' sB vs∧ShT n m L' (bs.set i j)∧∀ r c,r < m + 2→c < 2 * n + m + 1→Tf L' r c=pvt (Tf L) i j D r c)∧Frm a0c a0a H H')∧f0u fl H H') R:=by
 refine k0w W0P hf (h:=?_)
 intro ρ h0
 have hL:=hS.len
 have hr:=hS.row
 have hb:=hS.base
 have hiL:i < L.length:=by omega
 have hjL:j < L[i].length:=by rw [hr i hiL];omega
 have hbk:=h.blk
 rw [f0I] at hbk
 have hpl:=a0g hbk
 have hlow:=h.low
 simp [H0K,B0S,h0,hbk,hlow,hpl]
 generalize hS1:Array.setIfInBounds H p _=G1
 have t1:∀ {e:Nat},a0c ≠ e→LxT e H G1:=fun hne=>a0X hS1 hbk hne
 have hG:e0p .all fl G1 p n m L D bs (IntKind.i64.wrap (k + 1)) sR sD sB vs:=⟨a0M hS1 hbk,hlow,h.d.lx (t1 (by decide)),h.heads.lxm (t1 (by decide)) (fun _ _ h=>h),⟨h.rows.len,fun r hr=>(h.rows.own r hr).lxm (t1 (by decide)) (fun cs x hx=>Q0B.lx _ _ _ _ (t1 (by decide)) hx),h.rows.apart⟩,h.basis.lxm (t1 (by decide)) (fun _ _ h=>h)⟩
 have hx:Frm a0c a0a H G1:=⟨by rw [← hS1];simp,fun e he _ _=>t1 (b1k he)⟩
 clear hS1 t1
 obtain ⟨w6,e6,f6⟩:=hG.num hiL hjL
 have eh:=hG.head hiL
 have hi1:=hG.hia hiL
 have ij:=hG.ia hiL hjL
 have hbk:=hG.blk
 rw [f0I] at hbk
 obtain ⟨vi,hvi1⟩:∃ x,x=vs[i]'(by have:=h.rows.len;omega):=⟨_,rfl⟩
 rw [← hvi1] at eh ij e6
 simp only [RK.w,RK.b,RK.p_all] at ij e6
 obtain ⟨bR,hbR,hbRl,_⟩:=(hG.heads).adr_blk (j:=i) (by have:=h.rows.len;omega)
 obtain ⟨s6,rfl,k6⟩:=f6
 have hfl:fl≤G1.size:=Z0N hf hx.1
 have hpl1:=a0g hbk
 refine c0u ?_
 simp [B0T,h0,hbk,hi1,eh,ij,e6,k6.cells,k6.plain,hfl]
 generalize hN:Array.setIfInBounds (Array.push _ _) _ _=G2
 obtain ⟨hx2,b6⟩:=new1 hN
 clear hN
 have P6l:∀ r (hr:r < vs.length),slB vs[r] ≠ some G1.size:=fun r hr' h5=>by
  have:=((hG.rows.own r (by have:=hG.rows.len;omega)).ge h5).2
  omega
 generalize hP6:Array.size G1=P6 at *
 have hne1:p ≠ P6:=by omega
 have hne2:bR ≠ P6:=by omega
 replace hG:=hG.mono hx2
 replace hx:=hx.trans hx2.frm
 replace k6:=k6.mono hx2
 replace hbk:=hG.blk
 rw [f0I] at hbk
 simp [hbR,hne1,hne2,b1k hne1,b1k hne2]
 have hsl:=hG.heads.sls.slen
 rw [hG.rows.len] at hsl
 simp [B0U,h0,hbk,hsl]
 refine c0F (n:=L.length) (fun k' ρ G=>ρ 0=.pointer (some ⟨p,0,none⟩)∧ρ 1=.int .i64 (i:Int)∧ρ 2=.int .i64 (j:Int)∧ρ 6=.pointer (some ⟨P6,0,none⟩)∧ρ 7=vi∧ρ 39=sR∧Frm a0c a0a H G∧Bx G P6 (Tf L i j) ∧
   ∃ L',e0p .all fl G p n m L' D bs (IntKind.i64.wrap (k + 1)) sR sD sB vs∧ShT n m L' bs∧∀ r c,r < m + 2→c < 2 * n + m + 1→Tf L' r c=pvu (Tf L) i j D k' 0 r c) rfl rfl (by decide) (by omega) (by simp) (by simp) ?_ ?_ ?_ ?_
 ·exact ⟨by simp [h0],by simp [h0],by simp [h0],by simp,by simp,by simp,hx,⟨s6,b6,k6⟩,L,hG,hS,fun r c _ _=>by unfold pvu;rw [Z0F (by omega)]⟩
 ·intro i ρ ρ' G h hI;simpa [h] using hI
 ·clear h0 ρ hG hx k6 b6 e6 eh hi1 ij hbk hpl hsl hx2 hpl1
  rintro q ρ G hq gi gn ⟨g0,g1,g2,g6,g7,g39,hx,f6,L',hG,hS',hT⟩
  obtain ⟨vq,hvq⟩:∃ x,x=vs[q]'(by have:=h.rows.len;clear hG;omega):=⟨_,rfl⟩
  have hqL:q < L'.length:=by rw [hS'.len];omega
  have eq:=hG.head hqL
  have hq1:=hG.hia hqL
  rw [← hvq] at eq
  simp [B0V,gi,g39,hq1,eq]
  by_cases hqi:q=i
  ·subst hqi
   simp [s0H,g1]
   refine Rnd.mk (by simp [gi]) (by simp [gn]) ⟨by simp [g0],by simp [g1],by simp [g2],by simp [g6],by simp [g7],by simp [g39],hx,f6,L',hG,hS',fun r c h1 h2=>?_⟩
   rw [hT r c h1 h2]
   unfold pvu
   by_cases hrq:r=q
   ·subst hrq;rw [Z0F (by omega),Z0I (by omega)];unfold pvt;rw [Z0I rfl]
   ·by_cases hlt:r < q
    ·rw [Z0I (.inl hlt),Z0I (by omega)]
    ·rw [Z0F (by omega),Z0F (by omega)]
  ·have hqi':¬ ((q:Int)=(i:Int)):=by omega
   have hjq:j < L'[q].length:=by rw [hS'.row q hqL];omega
   obtain ⟨w10,e10,f10⟩:=hG.num hqL hjq
   have qj:=hG.ia hqL hjq
   have hsq:=(hG.rows.own q hqL).slen
   rw [hS'.row q hqL] at hsq
   rw [← hvq] at qj e10 hsq
   simp only [RK.w,RK.b,RK.p_all] at qj e10
   have hb10:Tf L' q j=Tf L q j:=by rw [hT q j (by omega) (by omega)];unfold pvu;rw [Z0F (by omega)]
   rw [hb10] at f10
   obtain ⟨s10,rfl,k10⟩:=f10
   have hfl2:fl≤G.size:=Z0N hf hx.1
   simp [s0H,g1,hqi,hqi',B0W,g2,qj,e10,k10.cells,k10.plain,hfl2]
   generalize hN:Array.setIfInBounds (Array.push _ _) _ _=G2
   obtain ⟨hx2,b10⟩:=new1 hN
   clear hN
   have P10l:∀ r (hr:r < vs.length),slB vs[r] ≠ some G.size:=fun r hr' h5=>by
    have:=((hG.rows.own r (by have:=hG.rows.len;omega)).ge h5).2
    omega
   generalize hP10:Array.size G=P10 at *
   replace hG:=hG.mono hx2
   replace hx:=hx.trans hx2.frm
   replace f6:=f6.mono hx2
   replace k10:=k10.mono hx2
   have f10:Bx G2 P10 (Tf L q j):=⟨s10,b10,k10⟩
   simp [B0X,hsq]
   obtain ⟨W,hW⟩:∃ W,W=2 * n + m + 1:=⟨_,rfl⟩
   have hWi:(2 * (n:Int) + m + 1)=(W:Int):=by omega
   refine m0D (n:=W) (fun c ρ G=>ρ 0=.pointer (some ⟨p,0,none⟩)∧ρ 1=.int .i64 (i:Int)∧ρ 2=.int .i64 (j:Int)∧ρ 6=.pointer (some ⟨P6,0,none⟩)∧ρ 7=vi∧ρ 39=sR∧ρ 41=.int .i64 (q:Int)∧ρ 40=.int .i64 (L.length:Int)∧ρ 9=vq∧ρ 10=.pointer (some ⟨P10,0,none⟩)∧Frm a0c a0a H G∧Bx G P6 (Tf L i j)∧Bx G P10 (Tf L q j) ∧
     ∃ L',e0p .all fl G p n m L' D bs (IntKind.i64.wrap (k + 1)) sR sD sB vs∧ShT n m L' bs∧∀ r c',r < m + 2→c' < 2 * n + m + 1→Tf L' r c' = pvu (Tf L) i j D q c r c') rfl rfl (by decide) (by omega) (by simp) (by simp [hWi]) ?_ ?_ ?_ ?_
   ·exact ⟨by simp [g0],by simp [g1],by simp [g2],by simp [g6],by simp [g7],by simp [g39],by simp [gi],by simp [gn],by simp,by simp,hx,f6,f10,L',hG,hS',hT⟩
   ·intro i ρ ρ' G h hI;simpa [h] using hI
   ·clear g0 g1 g2 g6 g7 g39 gi gn hx f6 f10 hG hS' hT e10 eq hq1 qj hsq hb10 hqL hjq k10 b10 hx2 hfl2 hP10 L' ρ G
    rintro c ρ G hc gc gw ⟨g0,g1,g2,g6,g7,g39,gi,gn,g9,g10,hx,f6,f10,L',hG,hS',hT⟩
    have hqL:q < L'.length:=by rw [hS'.len];omega
    have hiL':i < L'.length:=by rw [hS'.len];omega
    have hcq:c < L'[q].length:=by rw [hS'.row q hqL];omega
    have hci:c < L'[i].length:=by rw [hS'.row i hiL'];omega
    obtain ⟨wq,eq,fq⟩:=hG.num hqL hcq
    obtain ⟨wi,ei,fi⟩:=hG.num hiL' hci
    have qc:=hG.ia hqL hcq
    have ic:=hG.ia hiL' hci
    have tq:Tf L' q c=Tf L q c:=by rw [hT q c (by omega) (by omega)];unfold pvu;rw [Z0F (by omega)]
    have ti:Tf L' i c=Tf L i c:=by
     rw [hT i c (by omega) (by omega)];unfold pvu;split
     ·unfold pvt;rw [Z0I rfl]
     ·rfl
    rw [tq] at fq
    rw [ti] at fi
    have qc':=qc
    rw [← hvq] at qc eq
    rw [← hvi1] at ic ei
    simp only [RK.w,RK.b,RK.p_all] at qc ic eq ei
    have hbk:=hG.blk
    rw [f0I] at hbk
    have dv:=hG.dv
    obtain ⟨s6,b6,k6⟩:=id f6
    obtain ⟨s10,b10,k10⟩:=id f10
    have v6:rV .all G (.agg #[.bool (a0l (Tf L i j)).1,s6]) (Tf L i j):=⟨s6,rfl,k6⟩
    have v10:rV .all G (.agg #[.bool (a0l (Tf L q j)).1,s10]) (Tf L q j):=⟨s10,rfl,k10⟩
    simp [B0Y,gc]
    refine k0n ?_
    simp [u0X,g0,g6,g7,g9,g10,gc,hbk,qc,ic,eq,ei,b6,b10]
    have hxs:=hx.1
    have hq1:=fun (R':a0u) (hR':o0Z .all R')=>I0H (fl:=fl) (R:=R') fq v6 v10 fi dv (by omega) (hz _ _) (hz _ _) (hz _ _) (hz _ _) hD hD0 hR'
    refine a0V.mono (hq1 _ trivial) ?_
    clear hq1
    rintro ws G3 ⟨fs,hx3⟩
    obtain ⟨G4,hst,hG4,hx4,hxb4⟩:=(hG.mono hx3).store (x:=(Tf L q c * Tf L i j - Tf L q j * Tf L i c).tdiv D) hqL hcq fs
    rw [← hvq] at hst hxb4
    simp only [RK.w,RK.b,RK.p_all] at hst
    have hvq6:slB vq ≠ some P6:=by rw [hvq];exact P6l q (by have:=h.rows.len;omega)
    have hvq10:slB vq ≠ some P10:=by rw [hvq];exact P10l q (by have:=h.rows.len;omega)
    have hlx:Lx G3 G4:=hx4.2 a0m (by decide) (by decide) (by decide)
    simp [g9,gc,qc,hst]
    refine Rnd.mk ?_ ?_ ?_
    ·simp [gc]
    ·simp [gw]
    refine ⟨by simp [g0],by simp [g1],by simp [g2],by simp [g6],by simp [g7],by simp [g39],by simp [gi],by simp [gn],by simp [g9],by simp [g10],hx.trans (hx3.frm.trans hx4),(f6.mono hx3).off hxb4 hlx hvq6,(f10.mono hx3).off hxb4 hlx hvq10,_,hG4,hS'.set hqL,fun r c' h1 h2=>?_⟩
    rw [x0q hS' hqL hcq,hT r c' h1 h2]
    unfold pvu
    by_cases hrc:r=q∧c' = c
    ·obtain ⟨rfl,rfl⟩:=hrc
     rw [Z0I ⟨rfl,rfl⟩,Z0I (by omega)]
     unfold pvt;rw [Z0F hqi]
    ·rw [Z0F hrc]
     by_cases hlt:r < q ∨ r=q∧c' < c
     ·rw [Z0I hlt,Z0I (by omega)]
     ·rw [Z0F hlt,Z0F (by omega)]
   ·rintro ρ G gc gw ⟨g0,g1,g2,g6,g7,g39,gi,gn,g9,g10,hx,f6,f10,L',hG,hS',hT⟩
    simp
    refine Rnd.mk gi gn ⟨g0,g1,g2,g6,g7,g39,hx,f6,L',hG,hS',fun r c h1 h2=>?_⟩
    rw [hT r c h1 h2,hW];exact z0o h2
 ·clear h0 ρ hG hx k6 b6 e6 eh hi1 ij hbk hpl hsl hx2 hpl1
  rintro ρ G gi gn ⟨g0,g1,g2,g6,g7,g39,hx,f6,L',hG,hS',hT⟩
  obtain ⟨s6,b6,k6⟩:=f6
  have hbk:=hG.blk
  rw [f0I] at hbk
  have hpl:=a0g hbk
  have hib:i < bs.length:=by omega
  have ib:=(hG.base hib).2
  have hiL':i < L'.length:=by rw [hS'.len];omega
  refine a0A ?_
  simp [u0Y,g0,g1,g2,g6,hbk,hlow,hpl,ib,b6,k6.cells,k6.plain]
  generalize hS1:Array.setIfInBounds G p _=G1
  have t1:∀ {e:Nat},a0c ≠ e→LxT e G G1:=fun hne=>a0X hS1 hbk hne
  obtain ⟨G2,hst,ho,hxb⟩:=b0a.store (Q:=PK) (x:=j) (w:=.int .i64 (j:Int)) (hG.basis.lxm (Q':=PK) (t1 (by decide)) (fun _ _ h=>h)) hib (by decide) rfl rfl (fun _ _ _=>rfl) (by decide) (fun _ _ _ _ _ h=>h)
  have hob:=hG.basis.lxm (Q':=PK) (G':=G1) (t1 (by decide)) (fun _ _ h=>h)
  have tb:∀ {e:Nat},e0i ≠ e→LxT e G1 G2:=fun hne=>hob.lxT hne hxb
  simp [hst]
  refine ⟨⟨L',⟨s6,⟨?_,hlow,(k6.lx (t1 (by decide))).lx (tb (by decide)),?_,?_,ho⟩⟩,⟨hS'.len,hS'.row,by simp [hS'.base]⟩,fun r c h1 h2=>?_⟩,hx.trans ⟨Z0N (by rw [← hS1];simp) hxb.1,fun e h1 h2 h3 b ro cs hb=>tb (b1k h3) b ro cs (t1 (b1k h1) b ro cs hb)⟩⟩
  ·have hw:=a0M hS1 hbk
   exact tb (by decide) _ _ _ (by rw [f0I];simpa using hw)
  ·exact (hG.heads.lxm (Q':=PV) (t1 (by decide)) (fun _ _ h=>h)).lxm (tb (by decide)) (fun _ _ h=>h)
  ·exact ⟨hG.rows.len,fun r hr=>((hG.rows.own r hr).lxm (Q':=PI) (t1 (by decide)) (fun cs x hx=>Q0B.lx _ _ _ _ (t1 (by decide)) hx)).lxm (tb (by decide)) (fun cs x hx=>Q0B.lx _ _ _ _ (tb (by decide)) hx),hG.rows.apart⟩
  ·rw [hT r c h1 h2];unfold pvu;rw [Z0I (by omega)]
theorem i0S {F:RK} {p n m i j:Nat} {L:List (List Int)} {k D:Int} {bs:List Nat} {sR sD sB:Value} {vs:List Value} (h:e0p F fl H p n m L D bs k sR sD sB vs) (hf:fl≤H.size) (hS:ShT n m L bs) (hz:∀ r c,lz (Tf L r c) < 67108864) (hD:lz D < 67108864) (hD0:D ≠ 0) (hi:i < m) (hj:j < 2 * n + m) (hm:m < 1048576) (hn:n < 1048576) (hR:o0Z F R) :
  a0V env fl (F.p r0S r0R) [.pointer (some ⟨p,0,none⟩),.int .i64 (i:Int),.int .i64 (j:Int)] H (fun _ H'=>((∃ L' sD',e0p F fl H' p n m L' (Tf L i j) (bs.set i j) (IntKind.i64.wrap (k + 1)) sR sD' sB vs∧ShT n m L' (bs.set i j)∧∀ r c,r < m + 2→c < 2 * n + m + 1→Tf L' r c=pvt (Tf L) i j D r c)∧Frm F.T F.E H H')∧f0u fl H H') R:=by
 cases F
 ·exact m0n h hf hS hz hD hD0 hi hj hm hn hR
 ·exact m0c h hf hS hz hD hD0 hi hj hm hn hR
end
section
open Go SX
set_option maxHeartbeats 4000000
variable {fl:Nat} {H G:a0e} {R:a0u} {v w u:Value} {F:RK}
theorem N0G {c:SCode} {i:Nat} {t:a0W} {Q:d0K} (I:Nat→a0W→a0e→Prop) (M:a0W→a0e→Prop) (k:Nat) (hI:I k t H)
  (step:∀ k t H,I k t H→W env fl c t H (o0x i (fun t' H'=>∃ k',k' < k∧I k' t' H') M Q) R)
  (rest:∀ t H,M t H→Q .normal t H):W env fl (.loop c) t H (f0h i Q) R:=by
 rw [← n0L (Q:=Q)]
 refine b0U (Z:=fun t H=>Q .normal t H) (Q:=Q) I M k hI step rest
theorem J0b {m C:Nat} {A T:Nat→Nat→Int} {neg:Nat→Prop} {base:Nat→Nat} {d:Int} (h:Tab m C A neg T base d) {i j r c:Nat} (hi:i < m) (hj:j≤C) (hp:T i j ≠ 0) (hr:r < m + 2) (hc:c≤C):pvt T i j d r c=pv T i j d r c:=by
 unfold pvt
 by_cases hri:r=i
 ·rw [Z0I hri];unfold pv;rw [Z0I hri]
 ·rw [Z0F hri,h.exact hi hj hp hr hc hri,Int.mul_tdiv_cancel_left _ (by have:=h.pos;omega)]
theorem x0B {bs:List Nat} {i j k:Nat} (hi:i < bs.length):bf (bs.set i j) k=if k=i then j else bf bs k:=by
 unfold bf
 simp only [Z0C,a1l]
 by_cases h:i=k
 ·subst h;simp [hi]
 ·rw [Z0F h,Z0F (fun h2=>h h2.symm)]
theorem Q0V {n m r c:Nat} {L:List (List Int)} {bs:List Nat} (h:ShT n m L bs) (ho:¬ (r < m + 2∧c≤2 * n + m)):Tf L r c=0:=by
 unfold Tf
 by_cases hr:r < L.length
 ·have:=h.row r hr
  have:=h.len
  rw [Z0C,Z0C,Z0H hr,a1f,Z0P (by omega)];rfl
 ·have e:L.getD r []=[]:=by rw [Z0C,Z0P (by omega)];rfl
  rw [e];rfl
theorem O0x {n m:Nat} {L:List (List Int)} {bs:List Nat} (h:ShT n m L bs) (hb:∀ r c,r < m + 2→c≤2 * n + m→lz (Tf L r c) < 67108864) (r c:Nat):lz (Tf L r c) < 67108864:=by
 by_cases ho:r < m + 2∧c≤2 * n + m
 ·exact hb r c ho.1 ho.2
 ·rw [Q0V h ho,c0v];decide
def Zr (m C:Nat) (T:Nat→Nat→Int) (base:Nat→Nat):Prop:=∀ i,i < m→¬ base i < C→∀ c,c≤C→T i c=0
theorem Zr.pivot {m C:Nat} {A T T':Nat→Nat→Int} {base base':Nat→Nat} {d:Int} {i j:Nat} (h:Zr m C T base) (hi:i < m) (hj:j < C) (hT:∀ k c,k < m + 2→c≤C→T' k c=pv T i j d k c) (hb:∀ k,k < m→base' k=if k=i then j else base k):Zr m C T' base':=by
 intro r hr hbr c hc
 have h1:=hb r hr
 by_cases hri:r=i
 ·rw [Z0I hri] at h1;omega
 ·rw [Z0F hri] at h1
  rw [hT r c (by omega) hc]
  exact z0m (C:=C) (fun c hc=>h r hr (by omega) c hc) hri hc (by omega)
def Bnd (m C:Nat) (A:Nat→Nat→Int) (neg:Nat→Prop):Prop:=∀ T base d,Tab m C A neg T base d→(∀ r c,r < m + 2→c≤C→lz (T r c) < 67108864)∧lz d < 67108864
def X0H (F:RK) (fl p n m g:Nat) (L:List (List Int)) (bs:List Nat) (sR sB:Value) (vs:List Value) (A:Nat→Nat→Int) (neg:Nat→Prop) (H:a0e) (z:Int) (H':a0e):Prop :=
 ∃ L' D' bs' k' sD',e0p F fl H' p n m L' D' bs' k' sR sD' sB vs∧ShT n m L' bs'∧Tab m (2 * n + m) A neg (Tf L') (bf bs') D'∧(Zr m (2 * n + m) (Tf L) (bf bs)→Zr m (2 * n + m) (Tf L') (bf bs'))∧Frm F.T F.E H H' ∧
   ((z = -1∧∀ c,c < 2 * n + m→0≤Tf L' g c) ∨ (∃ j:Nat,z=j∧j < 2 * n + m∧Tf L' g j < 0∧∀ i,i < m→Tf L' i j≤0))
def X0G (F:RK) (fl p n m g:Nat) (L:List (List Int)) (bs:List Nat) (sR sB:Value) (vs:List Value) (A:Nat→Nat→Int) (neg:Nat→Prop) (H:a0e) (c:Nat) (t:a0W) (G:a0e):Prop :=
 ∃ N ρ L' D' bs' k' sD',t=T 50 ρ∧N + c=((2 * n + m) + m) ^ m∧ρ 0=.pointer (some ⟨p,0,none⟩)∧ρ 1=.int .i64 (g:Int)∧Frm F.T F.E H G∧e0p F fl G p n m L' D' bs' k' sR sD' sB vs∧ShT n m L' bs'∧SX.Reach m (2 * n + m) g A neg N (Tf L') (bf bs') D'∧(Zr m (2 * n + m) (Tf L) (bf bs)→Zr m (2 * n + m) (Tf L') (bf bs'))
theorem v0t {p n m g:Nat} {L:List (List Int)} {k D:Int} {bs:List Nat} {sR sD sB:Value} {vs:List Value} {A:Nat→Nat→Int} {neg:Nat→Prop} (h:e0p F fl H p n m L D bs k sR sD sB vs) (hf:fl≤H.size) (hS:ShT n m L bs) (hT:Tab m (2 * n + m) A neg (Tf L) (bf bs) D) (hBd:Bnd m (2 * n + m) A neg) (hg:g=m ∨ g=m + 1) (hm:m < 1048576) (hn:n < 1048576) (hR:o0Z F R) :
  a0V env fl (t0Y F) [.pointer (some ⟨p,0,none⟩),.int .i64 (g:Int)] H (fun r H'=>(∃ z,r=.int .i64 z∧X0H F fl p n m g L bs sR sB vs A neg H z H')∧f0u fl H H') R:=by
 refine k0w R0G hf (h:=?_)
 intro ρ h0
 simp [n0J,u0F,h0]
 refine N0G (X0G F fl p n m g L bs sR sB vs A neg H)
  (fun _ _=>False) (((2 * n + m) + m) ^ m) ⟨0,_,L,D,bs,k,sD,rfl,by omega,by simp [h0],by simp [h0],Frm.refl,h,hS,SX.Reach.zero hT,id⟩ ?_ (fun _ _ h=>Z0T h id)
 clear h0 ρ
 rintro c _ G0 ⟨N,ρ,L',D',bs',k',sD',rfl,hN,g0,g1,hx,hG,hS',hre,hZ⟩
 have hTab:=hre.tab
 have hshort:=hre.short hg
 have hz:=O0x hS' (hBd _ _ _ hTab).1
 have hlD:=(hBd _ _ _ hTab).2
 simp [u0G]
 refine b0U (fun c t G=>∃ q ρ,t=T 50 ρ∧q + c=2 * n + m∧ρ 0=.pointer (some ⟨p,0,none⟩)∧ρ 1=.int .i64 (g:Int)∧ρ 5=.int .i64 (q:Int)∧Ext G0 G∧∀ c',c' < q→0≤Tf L' g c')
  (fun t G=>∃ (q:Nat) (ρ:Nat→Value),t=T 50 ρ∧q≤2 * n + m∧ρ 0=.pointer (some ⟨p,0,none⟩)∧ρ 1=.int .i64 (g:Int)∧ρ 5=.int .i64 (q:Int)∧Ext G0 G∧(∀ c',c' < q→0≤Tf L' g c')∧(q < 2 * n + m→Tf L' g q < 0)) (2 * n + m) ⟨0,_,rfl,by omega,by simp [g0],by simp [g1],by simp,Ext.refl G0,fun c' h=>by omega⟩ ?_ ?_
 ·clear g0 g1 ρ
  rintro c _ G ⟨q,ρ,rfl,hq,g0,g1,g5,hx0,hpre⟩
  have hG1:=hG.mono hx0
  have hgL:g < L'.length:=by rw [hS'.len];omega
  have hbk:=hG1.blk
  have hsz:fl≤G.size:=by have:=hx.1;have:=hx0.1;omega
  have e2:((2 * n + m:Nat):Int)=2 * (n:Int) + m:=by omega
  by_cases hqc:q < 2 * n + m
  ·have hqL:q < L'[g].length:=by rw [hS'.row g hgL];omega
   obtain ⟨w1,e1,f1⟩:=hG1.num hgL hqL
   have eh:=hG1.head hgL
   have hi1:=hG1.hia hgL
   have gq:=hG1.ia hgL hqL
   obtain ⟨vg,hvg⟩:∃ x,x=vs[g]'(by have:=hG.rows.len;omega):=⟨_,rfl⟩
   rw [← hvg] at eh gq e1
   have hqc':(q:Int) < 2 * (n:Int) + m:=by omega
   simp
   refine a0A ?_
   simp [o0W,g0,g1,g5,hbk,hi1,eh,gq,e1,hqc']
   refine (p0S f1 hsz (hz _ _)).mono ?_
   rintro _ G2 ⟨rfl,hx2⟩
   by_cases hs:0≤Tf L' g q
   ·have hc:0≤c0Q (Tf L' g q) 0:=by unfold c0Q;rw [Z0F (by omega)];split <;> omega
    simp [hc,u0H,g5,i0E (show q < 4611686018427387904 by omega)]
    refine ⟨c - 1,by omega,q + 1,_,rfl,by omega,by simp [g0],by simp [g1],by simp,hx0.trans hx2,fun c' h=>?_⟩
    by_cases h2:c' = q
    ·rw [h2];exact hs
    ·exact hpre c' (by omega)
   ·have hc:¬ 0≤c0Q (Tf L' g q) 0:=by unfold c0Q;rw [Z0I (by omega)];omega
    simp [hc]
    exact ⟨q,_,rfl,by omega,by simp [g0],by simp [g1],by simp [g5],hx0.trans hx2,hpre,fun _=>by omega⟩
  ·have hqc':¬ (q:Int) < 2 * (n:Int) + m:=by omega
   simp
   refine a0A ?_
   simp [o0W,g0,g1,g5,hbk,hqc']
   exact ⟨q,_,rfl,by omega,by simp [g0],by simp [g1],by simp [g5],hx0,hpre,fun h=>Z0T h hqc⟩
 ·clear g0 g1 ρ
  rintro _ G ⟨q,ρ,rfl,hq,g0,g1,g5,hx0,hpre,hneg⟩
  have hG1:=hG.mono hx0
  have hbk:=hG1.blk
  have hsz:fl≤G.size:=by have:=hx.1;have:=hx0.1;omega
  have e2:((2 * n + m:Nat):Int)=2 * (n:Int) + m:=by omega
  replace hx:=hx.trans hx0.frm
  by_cases hqc:q=2 * n + m
  ·have hqc':(q:Int)=2 * (n:Int) + m:=by omega
   simp [o0X,u0I,g0,g5,hbk,hqc']
   exact ⟨L',D',bs',k',sD',hG1,hS',hTab,hZ,hx,.inl ⟨rfl,fun c hc=>hpre c (by omega)⟩⟩
  ·have hqc':¬ (q:Int)=2 * (n:Int) + m:=by omega
   replace hneg:=hneg (by omega)
   simp [o0X,g0,g5,hbk,hqc',u0J]
   refine (r0W hG1 hsz hS' hz (show q < 2 * n + m by omega) hm).mono ?_
   rintro _ G2 ⟨⟨z,rfl,hz1⟩,hx2⟩
   have hG2:=hG1.mono hx2
   replace hx:=hx.trans hx2.frm
   rcases hz1 with ⟨rfl,hz1⟩ | ⟨o,rfl,ho,hB⟩
   ·simp [o0Y,u0K,g5]
    exact ⟨L',D',bs',k',sD',hG2,hS',hTab,hZ,hx,.inr ⟨q,rfl,by omega,hneg,hz1⟩⟩
   ·have ho':¬ (o:Int) < 0:=by omega
    simp [o0Y,u0L,g0,g5,ho']
    refine (i0S hG2 (by have:=hx.1;omega) hS' hz hlD (by have:=hTab.pos;omega) ho (show q < 2 * n + m by omega) hm hn hR).mono ?_
    rintro _ G3 ⟨⟨⟨L2,sD2,hG3,hS2,hT2⟩,hx3⟩,_⟩
    have hp:Tf L' o q ≠ 0:=by have:=hB.2.1;omega
    have hT3:∀ r c,r < m + 2→c≤2 * n + m→Tf L2 r c=pv (Tf L') o q D' r c:=fun r c h1 h2=>by
     rw [hT2 r c h1 (by omega)];exact J0b hTab ho (by omega) hp h1 h2
    have hb3:∀ r,r < m→bf (bs'.set o q) r=if r=o then q else bf bs' r:=fun r hr=>x0B (by rw [hS'.base];exact ho)
    simp
    exact ⟨c - 1,by omega,N + 1,_,L2,_,_,_,sD2,rfl,by omega,by simp [g0],by simp [g1],hx.trans hx3,hG3,hS2,SX.Reach.step hg hre (by omega) hneg hpre hB hT3 hb3 rfl,fun hz0=>(hZ hz0).pivot (A:=A) ho (by omega) hT3 hb3⟩
theorem S0D {T:Nat→Nat→Int} {i j r c:Nat} {d:Int} (hd:0 < d) (ex:r ≠ i→T r c * T i j - T r j * T i c=d * pv T i j d r c):pvt T i j d r c=pv T i j d r c:=by
 unfold pvt
 by_cases hri:r=i
 ·rw [Z0I hri];unfold pv;rw [Z0I hri]
 ·rw [Z0F hri,ex hri,Int.mul_tdiv_cancel_left _ (by omega)]
theorem z0n {T T':Nat→Nat→Int} {i j r c:Nat} {d:Int} (h1:T r c=T' r c) (h2:T i j=T' i j) (h3:T r j=T' r j) (h4:T i c=T' i c):pvt T i j d r c=pvt T' i j d r c:=by
 unfold pvt;rw [h1,h2,h3,h4]
def Nr (m C i:Nat) (T:Nat→Nat→Int) (base:Nat→Nat):Prop:=(∀ r,r < m→¬ base r < C→T r C=0)∧∀ r,r < i→r < m→¬ base r < C→∀ c,c≤C→T r c=0
theorem Nr.step {m C i j:Nat} {T T1 T':Nat→Nat→Int} {base base':Nat→Nat} {d:Int} (h:Nr m C i T base) (hi:i < m) (hj:j < C) (h1:∀ r c,r ≠ i→r < m→c≤C→T1 r c=T r c) (h2:T1 i C=0)
  (hT:∀ k c,k < m + 2→c≤C→T' k c=pv T1 i j d k c) (hb:∀ k,k < m→base' k=if k=i then j else base k):Nr m C (i + 1) T' base':=by
 refine ⟨fun r hr hbr=>?_,fun r hri hr hbr c hc=>?_⟩
 ·have hb1:=hb r hr
  by_cases hre:r=i
  ·rw [Z0I hre] at hb1;omega
  ·rw [Z0F hre] at hb1
   rw [hT r C (by omega) (Z0E _)]
   unfold pv
   rw [Z0F hre,h1 r C hre hr (Z0E _),h.1 r hr (by omega),h2];simp
 ·have hb1:=hb r hr
  by_cases hre:r=i
  ·rw [Z0I hre] at hb1;omega
  ·rw [Z0F hre] at hb1
   rw [hT r c (by omega) hc]
   exact z0m (C:=C) (fun c hc=>by rw [h1 r c hre hr hc];exact h.2 r (by omega) hr (by omega) c hc) hre hc (by omega)
theorem X0A {ρ:Nat→Value} {c:Nat} {vi w1:Value} {z:Int} {Q:a0W→a0e→Prop} (g59:ρ 59=vi) (gc:ρ 61=.int .i64 (c:Int)) (ic:iaV F.w vi (.int .i64 (c:Int))=some (adr F.w vi c)) (e1:b0o G F.b F.w (adr F.w vi c)=some w1) (f1:rV F G w1 z) (hf:fl≤G.size)
  (key:∀ ρ' G5,Ext G G5→kpV F G5 (ρ' 6)=some w1→ρ' 5=.int .i64 (c:Int)→(∀ k,k ∈ [0,2,3,10,11,30,59,60,61]→ρ' k=ρ k)→Q (T 89 ρ') G5):WR env fl (i0n F) (T 89 ρ) G Q R:=by
 cases F
 ·simp only [RK.w,RK.b,RK.p_few] at ic e1
  simp [i0n,g59,gc,ic,e1]
  exact key _ _ (Ext.refl _) (by simp [kpV]) (by simp) (by simp)
 ·simp only [RK.w,RK.b,RK.p_all] at ic e1
  obtain ⟨sx,rfl,kx⟩:=f1
  simp [i0n,g59,gc,ic,e1,kx.cells,kx.plain,hf]
  generalize hN:Array.setIfInBounds (Array.push _ _) _ _=G5
  obtain ⟨hx5,b5⟩:=new1 hN
  exact key _ _ hx5 (by simp [kpV,b5]) (by simp) (by simp)
def X0F (F:RK) (fl p n m:Nat) (sR sB:Value) (vs:List Value) (A:Nat→Nat→Int) (neg:Nat→Prop) (H H':a0e):Prop :=
 ∃ L' D' bs' k' sD',e0p F fl H' p n m L' D' bs' k' sR sD' sB vs∧ShT n m L' bs'∧Tab m (2 * n + m) A neg (Tf L') (bf bs') D'∧Frm F.T F.E H H'∧Zr m (2 * n + m) (Tf L') (bf bs')
def S0G (F:RK) (fl p n m:Nat) (sR sB:Value) (vs:List Value) (A:Nat→Nat→Int) (neg:Nat→Prop) (H:a0e) (i:Nat) (ρ:Nat→Value) (G:a0e):Prop :=
 ρ 0=.pointer (some ⟨p,0,none⟩)∧∃ L' D' bs' k' sD',e0p F fl G p n m L' D' bs' k' sR sD' sB vs∧ShT n m L' bs'∧Tab m (2 * n + m) A neg (Tf L') (bf bs') D'∧Frm F.T F.E H G∧Nr m (2 * n + m) i (Tf L') (bf bs')
theorem G0J {p n m:Nat} {L:List (List Int)} {k D:Int} {bs:List Nat} {sR sD sB:Value} {vs:List Value} {A:Nat→Nat→Int} {neg:Nat→Prop} (h:e0p F fl H p n m L D bs k sR sD sB vs) (hf:fl≤H.size) (hS:ShT n m L bs) (hT:Tab m (2 * n + m) A neg (Tf L) (bf bs) D) (hBd:Bnd m (2 * n + m) A neg) (h00:∀ r,r < m→¬ bf bs r < 2 * n + m→Tf L r (2 * n + m)=0) (hm:m < 1048576) (hn:n < 1048576) (hR:o0Z F R) :
  a0V env fl (x0S F) [.pointer (some ⟨p,0,none⟩)] H (fun _ H'=>X0F F fl p n m sR sB vs A neg H H'∧f0u fl H H') R:=by
 refine k0w R0E hf (h:=?_)
 intro ρ h0
 have hbk:=h.blk
 simp [n0H,u0u,h0,hbk]
 refine m0D (n:=m) (S0G F fl p n m sR sB vs A neg H) rfl rfl (by decide) (by omega) (by simp) (by simp) ?_ ?_ ?_ ?_
 ·exact ⟨by simp [h0],L,D,bs,k,sD,h,hS,hT,Frm.refl,h00,fun r hr=>by omega⟩
 ·intro i ρ ρ' G h hI;unfold S0G at *;simpa [h] using hI
 ·clear h0 ρ hbk
  rintro i ρ G hi gi gn ⟨g0,L1,D1,bs1,k1,sD1,hG,hS1,hT1,hx,hN⟩
  have hib:i < bs1.length:=by rw [hS1.base];exact hi
  obtain ⟨lb,ib⟩:=hG.base hib
  have hbk:=hG.blk
  have e2:((2 * n + m:Nat):Int)=2 * (n:Int) + m:=by omega
  simp [u0v,gi]
  refine a0A ?_
  by_cases hreal:bf bs1 i < 2 * n + m
  ·have hreal':(bf bs1 i:Int) < 2 * (n:Int) + m:=by omega
   simp [o0U,g0,gi,hbk,ib,lb,hreal']
   refine Rnd.mk (by simp [gi]) (by simp [gn]) ⟨by simp [g0],L1,D1,bs1,k1,sD1,hG,hS1,hT1,hx,hN.1,fun r hr hrm hbr=>?_⟩
   by_cases hri:r=i
   ·subst hri;exact Z0T hreal hbr
   ·exact hN.2 r (by omega) hrm hbr
  have hreal':¬ (bf bs1 i:Int) < 2 * (n:Int) + m:=by omega
  have hC0:=hN.1 i hi hreal
  simp [o0U,g0,gi,hbk,ib,lb,hreal',u0w]
  refine m0D (n:=2 * n + m) (fun j ρ G'=>ρ 0=.pointer (some ⟨p,0,none⟩)∧ρ 2=.int .i64 (i:Int)∧ρ 11=.int .i64 (i:Int)∧ρ 10=.int .i64 (m:Int)∧Ext G G'∧∀ c,c < j→Tf L1 i c=0) rfl rfl (by decide) (by omega) (by simp) (by simp) ?_ ?_ ?_ ?_
  ·exact ⟨by simp [g0],by simp,by simp [gi],by simp [gn],Ext.refl G,fun c hc=>by omega⟩
  ·intro i ρ ρ' G h hI;simpa [h] using hI
  ·clear gi gn g0 hbk lb ib ρ
   rintro j ρ G0 hj gj gC ⟨g0,g2,gi,gn,hx0,hpre⟩
   replace hG:=hG.mono hx0
   replace hx:=hx.trans hx0.frm
   have hiL:i < L1.length:=by rw [hS1.len];omega
   have hjL:j < L1[i].length:=by rw [hS1.row i hiL];omega
   obtain ⟨w1,e1,f1⟩:=hG.num hiL hjL
   have e0:=hG.head hiL
   have hi1:=hG.hia hiL
   have ij:=hG.ia hiL hjL
   have hbk:=hG.blk
   obtain ⟨vi,hvi⟩:∃ x,x=vs[i]'(by have:=hG.rows.len;omega):=⟨_,rfl⟩
   rw [← hvi] at e0 ij e1
   have hz:=O0x hS1 (hBd _ _ _ hT1).1
   have hlD:=(hBd _ _ _ hT1).2
   simp [u0x,gj]
   refine a0A ?_
   simp [u0y,g0,g2,gj,hbk,hi1,e0,ij,e1]
   refine (p0S f1 (by have:=hx.1;omega) (hz _ _)).mono ?_
   rintro _ G2 ⟨rfl,hx2⟩
   replace hG:=hG.mono hx2
   replace hx:=hx.trans hx2.frm
   replace hx0:=hx0.trans hx2
   clear e1 f1 hbk
   rcases Int.lt_trichotomy (Tf L1 i j) 0 with hneg | h0 | hpos
   ·have hc:c0Q (Tf L1 i j) 0 = -1:=by unfold c0Q;rw [Z0I hneg]
    have hbk:=hG.blk
    have e0:=hG.head hiL
    rw [← hvi] at e0
    have hsl:=(hG.rows.own i hiL).slen
    rw [hS1.row i hiL] at hsl
    rw [← hvi] at hsl
    obtain ⟨W,hW⟩:∃ W,W=2 * n + m + 1:=⟨_,rfl⟩
    rw [← hW] at hsl
    simp [hc,k0a,o0V,r0b,g0,g2,hbk,hi1,e0,hsl]
    refine c0F (n:=W) (fun c ρ G'=>ρ 0=.pointer (some ⟨p,0,none⟩)∧ρ 2=.int .i64 (i:Int)∧ρ 3=.int .i64 (j:Int)∧ρ 11=.int .i64 (i:Int)∧ρ 10=.int .i64 (m:Int)∧ρ 59=vi∧Frm F.T F.E H G' ∧
      ∃ L2,e0p F fl G' p n m L2 D1 bs1 k1 sR sD1 sB vs∧ShT n m L2 bs1∧∀ r c',r < m + 2→c' < W→Tf L2 r c' = if r=i∧c' < c then -Tf L1 r c' else Tf L1 r c') rfl rfl (by decide) (by omega) (by simp) (by simp) ?_ ?_ ?_ ?_
    ·exact ⟨by simp [g0],by simp [g2],by simp [gj],by simp [gi],by simp [gn],by simp,hx,L1,hG,hS1,fun r c' _ _=>by rw [Z0F (by omega)]⟩
    ·intro i ρ ρ' G h hI;simpa [h] using hI
    ·clear gi gn g0 g2 gj gC hx hx0 hx2 hbk hsl hi1 ij e0 hc
     rintro c ρ G hc gc gw ⟨g0,g2,g3,gi,gn,g59,hx,L2,hG,hS2,hT2⟩
     have hiL:i < L2.length:=by rw [hS2.len];omega
     have hcL:c < L2[i].length:=by rw [hS2.row i hiL];omega
     obtain ⟨w1,e1,f1⟩:=hG.num hiL hcL
     have e0:=hG.head hiL
     have hi1:=hG.hia hiL
     have ic:=hG.ia hiL hcL
     have hbk:=hG.blk
     have tc:Tf L2 i c=Tf L1 i c:=by rw [hT2 i c (by omega) hc,Z0F (by omega)]
     rw [← hvi] at e0 ic e1
     have hfl:fl≤G.size:=by have:=hx.1;omega
     simp
     refine X0A g59 gc ic e1 f1 hfl ?_
     intro ρ' G5 hx5 k6 g5 hk
     simp only [List.forall_mem_cons] at hk
     obtain ⟨k0,k2,k3,k10,k11,k30,k59,k60,k61,-⟩:=hk
     rw [g0] at k0;rw [g2] at k2;rw [g3] at k3;rw [gn] at k10;rw [gi] at k11;rw [g59] at k59;rw [gw] at k60;rw [gc] at k61
     replace hG:=hG.mono hx5
     replace hx:=hx.trans hx5.frm
     replace f1:=f1.mono hx5
     replace hbk:=hG.blk
     replace e0:=hG.head hiL
     rw [← hvi] at e0
     clear e1 hfl
     refine a0A ?_
     simp [r0c,k0,k2,hbk,hi1,e0,ic,g5,k6]
     refine (v0K f1 (by have:=hx.1;omega) (by rw [tc];exact hz _ _)).mono ?_
     rintro wn G3 ⟨fn,hx3⟩
     rw [tc] at fn
     obtain ⟨G4,hst,hG4,hx4,_⟩:=(hG.mono hx3).store (x:=-Tf L1 i c) hiL hcL fn
     rw [← hvi] at hst
     simp [ic,hst]
     refine Rnd.mk (by simp [k61]) (by simp [k60]) ⟨by simp [k0],by simp [k2],by simp [k3],by simp [k11],by simp [k10],by simp [k59],hx.trans (hx3.frm.trans hx4),_,hG4,hS2.set hiL,fun r c' h1 h2=>?_⟩
     rw [x0q hS2 hiL hcL,hT2 r c' h1 h2]
     by_cases hrc:r=i∧c' = c
     ·obtain ⟨rfl,rfl⟩:=hrc
      rw [Z0I ⟨rfl,rfl⟩,Z0I ⟨rfl,by omega⟩]
     ·rw [Z0F hrc]
      by_cases hlt:r=i∧c' < c
      ·rw [Z0I hlt,Z0I ⟨hlt.1,by omega⟩]
      ·rw [Z0F hlt,Z0F (by omega)]
    ·clear gi gn g0 g2 gj gC hx hx0 hx2 hbk hsl hi1 ij e0 hc
     rintro ρ G gc gw ⟨g0,g2,g3,gi,gn,g59,hx,L2,hG,hS2,hT2⟩
     have hng:∀ r c,r < m + 2→c≤2 * n + m→Tf L2 r c=ng (Tf L1) i r c:=fun r c h1 h2=>by
      rw [hT2 r c h1 (by omega)];unfold ng
      by_cases hri:r=i
      ·subst hri;rw [Z0I ⟨rfl,by omega⟩,Z0I rfl]
      ·rw [Z0F (fun h=>hri h.1),Z0F hri]
     have hz2:∀ r c,lz (Tf L2 r c) < 67108864:=O0x hS2 fun r c h1 h2=>by
      rw [hng r c h1 h2];unfold ng;split
      ·rw [e0P];exact hz _ _
      ·exact hz _ _
     obtain ⟨hsw,hex⟩:=hT1.swapN hi hj hneg hC0
     simp [l0g,g0,g2,g3]
     refine (i0S hG (by have:=hx.1;omega) hS2 hz2 hlD (by have:=hT1.pos;omega) hi hj hm hn hR).mono ?_
     rintro _ G3 ⟨⟨⟨L3,sD2,hG3,hS3,hT3⟩,hx3⟩,_⟩
     have hT4:∀ r c,r < m + 2→c≤2 * n + m→Tf L3 r c=pv (ng (Tf L1) i) i j D1 r c:=fun r c h1 h2=>by
      rw [hT3 r c h1 (by omega),z0n (hng r c h1 h2) (hng i j (by omega) (by omega)) (hng r j h1 (by omega)) (hng i c (by omega) h2)]
      exact S0D hT1.pos (hex r c h1 h2)
     have hb3:∀ r,r < m→bf (bs1.set i j) r=if r=i then j else bf bs1 r:=fun r hr=>x0B hib
     have hd:Tf L2 i j = -Tf L1 i j:=by rw [hng i j (by omega) (by omega)];unfold ng;rw [Z0I rfl]
     simp
     refine Rnd.mk (by simp [gi]) (by simp [gn]) ⟨by simp [g0],L3,_,_,_,sD2,hG3,hS3,hsw.congr hT4 (fun r hr=>hb3 r hr) hd,hx.trans hx3,hN.step hi hj (fun r c h1 _ _=>by unfold ng;rw [Z0F h1]) (by unfold ng;rw [Z0I rfl,hC0];rfl) hT4 hb3⟩
   ·have hc:c0Q (Tf L1 i j) 0=0:=by rw [h0];rfl
    simp [hc,k0a]
    refine Rnd.mk (by simp [gj]) (by simp [gC]) ⟨by simp [g0],by simp [g2],by simp [gi],by simp [gn],hx0,fun c hc=>?_⟩
    by_cases hcj:c=j
    ·rw [hcj];exact h0
    ·exact hpre c (by omega)
   ·have hc:c0Q (Tf L1 i j) 0=1:=by unfold c0Q;rw [Z0F (by omega),Z0I (by omega)]
    simp [hc,k0a,o0V,l0g,g0,g2,gj]
    refine (i0S hG (by have:=hx.1;omega) hS1 hz hlD (by have:=hT1.pos;omega) hi hj hm hn hR).mono ?_
    rintro _ G3 ⟨⟨⟨L2,sD2,hG3,hS2,hT2⟩,hx3⟩,_⟩
    have hT3:∀ r c,r < m + 2→c≤2 * n + m→Tf L2 r c=pv (Tf L1) i j D1 r c:=fun r c h1 h2=>by
     rw [hT2 r c h1 (by omega)];exact J0b hT1 hi (by omega) (by omega) h1 h2
    have hb3:∀ r,r < m→bf (bs1.set i j) r=if r=i then j else bf bs1 r:=fun r hr=>x0B hib
    simp
    refine Rnd.mk (by simp [gi]) (by simp [gn]) ⟨by simp [g0],L2,_,_,_,sD2,hG3,hS2,(hT1.swap hi hj hpos hC0).congr hT3 (fun r hr=>hb3 r hr) rfl,hx.trans hx3,hN.step hi hj (fun _ _ _ _ _=>rfl) hC0 hT3 hb3⟩
  ·rintro ρ G' gj gC ⟨g0,g2,gi,gn,hx0,hpre⟩
   simp
   refine Rnd.mk gi gn ⟨g0,L1,D1,bs1,k1,sD1,hG.mono hx0,hS1,hT1,hx.trans hx0.frm,hN.1,fun r hr hrm hbr c hc=>?_⟩
   by_cases hri:r=i
   ·subst hri
    by_cases hcC:c=2 * n + m
    ·rw [hcC];exact hC0
    ·exact hpre c (by omega)
   ·exact hN.2 r (by omega) hrm hbr c hc
 ·rintro ρ G gi gn ⟨g0,L1,D1,bs1,k1,sD1,hG,hS1,hT1,hx,hN⟩
  simp
  exact ⟨L1,D1,bs1,k1,sD1,hG,hS1,hT1,hx,fun r hr hbr c hc=>hN.2 r hr hr hbr c hc⟩
theorem j0U {o:Option Nat} {H0 G':a0e} (h:Ext H0 G) (hx:c0V o G G') (ho:∀ b,o=some b→H0.size≤b):Ext H0 G':=by
 refine ⟨Z0N h.1 hx.1,fun b hb=>?_⟩
 rw [hx.2 b (Z0W hb h.1) (fun he=>by have:=ho b he;omega)]
 exact h.2 b hb
theorem e0m.insert {eN sz fl2:Nat} {P:a0e→List Value→Int→Prop} {a b:List Value} {A B:List (List Int)} {x:Value} {X:List Int} (h:e0m eN sz P fl G (a ++ b) (A ++ B)) (hl:a.length=A.length)
  (hx:b0a P fl2 G eN sz x X) (hf:fl≤fl2) (hn:∀ w ∈ a ++ b,∀ k,slB w=some k→k < fl2):e0m eN sz P fl G (a ++ x :: b) (A ++ X :: B):=by
 have hlen:=h.len
 simp only [Z0S] at hlen
 have key:∀ i (h1:i < (A ++ X :: B).length) (h2:i < (a ++ x :: b).length),(i=a.length∧(a ++ x :: b)[i]=x∧(A ++ X :: B)[i]=X) ∨
   ∃ j,∃ (j1:j < (A ++ B).length) (j2:j < (a ++ b).length),(a ++ x :: b)[i]=(a ++ b)[j]∧(A ++ X :: B)[i]=(A ++ B)[j]∧j=(if i < a.length then i else i - 1)∧i ≠ a.length:=by
  intro i h1 h2
  simp only [Z0S,a1s] at h1 h2
  by_cases hi:i < a.length
  ·exact .inr ⟨i,by simp;omega,by simp;omega,by rw [a1B hi,a1B hi],by rw [a1B (by omega),a1B (by omega)],by rw [Z0I hi],by omega⟩
  ·by_cases he:i=a.length
   ·subst he
    exact .inl ⟨rfl,by simp,by rw [Z0Z (by omega)];simp [hl]⟩
   ·obtain ⟨d,rfl⟩:∃ d,i=a.length + 1 + d:=⟨i - a.length - 1,by omega⟩
    refine .inr ⟨a.length + d,by simp;omega,by simp;omega,?_,?_,by rw [Z0F hi];omega,he⟩
    ·rw [Z0Z (by omega),Z0Z (by omega)]
     simp only [show a.length + 1 + d - a.length=d + 1 by omega,b1w,show a.length + d - a.length=d by omega]
    ·rw [Z0Z (by omega),Z0Z (by omega)]
     simp only [show a.length + 1 + d - A.length=d + 1 by omega,b1w,show a.length + d - A.length=d by omega]
 have xge:∀ k,slB x=some k→fl2≤k:=fun k hk=>(hx.ge hk).1
 refine ⟨by simp;omega,fun i hi=>?_,fun i j hi hj hij=>?_⟩
 ·rcases key i hi (by simp at hi ⊢;omega) with ⟨_,e1,e2⟩ | ⟨j,j1,j2,e1,e2,_⟩
  ·rw [e1,e2];exact hx.low hf
  ·rw [e1,e2];exact h.own j j1
 ·rcases key i hi (by simp at hi ⊢;omega) with ⟨i0,e1,_⟩ | ⟨i',i1,i2,e1,_,ie,ine⟩ <;> rcases key j hj (by simp at hj ⊢;omega) with ⟨j0,e3,_⟩ | ⟨j',j1,j2,e3,_,je,jne⟩
  ·omega
  ·rw [e1,e3]
   cases hk:slB x with
   | none=>exact .inl rfl
   | some k =>
    right;intro h5
    have:=hn _ (Z0M j2) k h5.symm
    have:=xge k hk
    omega
  ·rw [e1,e3]
   cases hk:slB (a ++ b)[i'] with
   | none=>exact .inl rfl
   | some k =>
    right;intro h5
    have:=hn _ (Z0M i2) k hk
    have:=xge k h5.symm
    omega
  ·rw [e1,e3]
   refine h.apart i' j' i1 j1 ?_
   split at ie <;> split at je <;> omega
def r7:RK→a0e→Nat→Prop
 | .few,G,q=>a0e.blk G q=.row false d0p [.int .i64 0]
 | .all,G,q=>Bx G q 0
theorem r7.mono {G':a0e} {q:Nat} (h:r7 F G q) (hx:Ext G G'):r7 F G' q:=by cases F;exact hx.blk h;exact Bx.mono h hx
theorem r7.off {G':a0e} {q:Nat} {o:Option Nat} (h:r7 F G q) (hx:c0V o G G') (hl:Lx G G') (ho:o ≠ some q):r7 F G' q:=by cases F;exact (hx.2 q (a0g h) ho).trans h;exact Bx.off h hx hl ho
theorem r7.lxt {G':a0e} {q:Nat} (h:r7 F G q) (hx:LxT F.E G G') (hl:Lx G G'):r7 F G' q:=by
 cases F
 ·exact hx _ _ _ h
 ·obtain ⟨s,h1,h2⟩:=h;exact ⟨s,hx _ _ _ h1,h2.lx hl⟩
theorem r7.lt {q:Nat} (h:r7 F G q):q < G.size:=by
 cases F
 ·exact a0g h
 ·obtain ⟨s,h,_⟩:=h;exact a0g h
abbrev RK.Q (F:RK):Nat:=F.p a0w a0t
structure rMd (F:RK) (H:a0e) (P2 P3 P6 P7 p n m:Nat) (sv:List Value) (rs:List Value) (M:List (List Int)) (sR sD sB:Value) (vs:List Value) (bs:List Nat) (G:a0e):Prop where
 ext:Ext H G
 b2:a0e.blk G P2=.row false (F.p a0i a0h) []
 b3:a0e.blk G P3=.row false a0G sv
 b6:a0e.blk G P6=.row false F.Q [.pointer (some ⟨p,0,none⟩)]
 b7:r7 F G P7
 bp:a0e.blk G p=.row false F.T (n0G F n m sR 1 sD sB 0)
 d:rD F G sD 1
 rows:e0m F.E F.w F.P H.size G rs M
 p7:∀ w ∈ rs,slB w ≠ some P7
 heads:b0a PV H.size G F.S 1 sR vs
 basis:b0a PK H.size G e0i 1 sB bs
 low:H.size≤p
section
variable {P2 P3 P6 P7 p n m i j:Nat} {sv rs vs:List Value} {M:List (List Int)} {sR sD sB:Value} {bs:List Nat} {x:Int}
theorem rMd.mono {G':a0e} (h:rMd F H P2 P3 P6 P7 p n m sv rs M sR sD sB vs bs G) (hx:Ext G G'):rMd F H P2 P3 P6 P7 p n m sv rs M sR sD sB vs bs G' :=
 ⟨h.ext.trans hx,hx.blk h.b2,hx.blk h.b3,hx.blk h.b6,h.b7.mono hx,hx.blk h.bp,h.d.mono hx,h.rows.mono O0M hx,h.p7,h.heads.mono u0n hx,h.basis.mono u0m hx,h.low⟩
theorem rMd.store (h:rMd F H P2 P3 P6 P7 p n m sv rs M sR sD sB vs bs G) (hi:i < M.length) (hj:j < M[i].length) {w:Value} (hw:rV F G w x) :
  ∃ G',e0Y H.size G F.w (adr F.w (rs[i]'(by have:=h.rows.len;omega)) j) w=some G'∧rMd F H P2 P3 P6 P7 p n m sv rs (M.set i (M[i].set j x)) sR sD sB vs bs G'∧c0V (slB (rs[i]'(by have:=h.rows.len;omega))) G G'∧Lx G G'∧G.size≤G'.size:=by
 obtain ⟨G',h1,h2,h3,h4⟩:=h.rows.store O0M hi hj (w:=w) (x:=x) hw.st.1 hw.st.2.1 hw.st.2.2
 have hr:=h.rows.own i hi
 have lx:∀ {e:Nat},F.E ≠ e→LxT e G G':=fun hne=>hr.lxT hne h3
 exact ⟨G',h1,⟨j0U h.ext h3 (fun b hb=>(hr.ge hb).1),lx (by cases F <;> decide) _ _ _ h.b2,lx (by cases F <;> decide) _ _ _ h.b3,lx (by cases F <;> decide) _ _ _ h.b6,h.b7.off h3 h4 (h.p7 _ (Z0M _)),lx (by cases F <;> decide) _ _ _ h.bp,h.d.lx h4,h2,h.p7,h.heads.lxm (lx (by cases F <;> decide)) (fun _ _ h=>h),h.basis.lxm (lx (by cases F <;> decide)) (fun _ _ h=>h),h.low⟩,h3,h4,h3.1⟩
theorem rMd.ia (h:rMd F H P2 P3 P6 P7 p n m sv rs M sR sD sB vs bs G) (hi:i < M.length) (hj:j < M[i].length):iaV F.w (rs[i]'(by have:=h.rows.len;omega)) (.int .i64 j)=some (adr F.w (rs[i]'(by have:=h.rows.len;omega)) j):=(h.rows.own i hi).sls.ia hj
theorem rMd.num (h:rMd F H P2 P3 P6 P7 p n m sv rs M sR sD sB vs bs G) (hi:i < M.length) (hj:j < M[i].length) :
  ∃ w,b0o G F.b F.w (adr F.w (rs[i]'(by have:=h.rows.len;omega)) j)=some w∧rV F G w (Tf M i j):=by
 rw [F0S hi hj]
 cases F
 ·obtain ⟨w,h1,h2,h3⟩:=(h.rows.own i hi).sls.load1 (j:=j) hj;exact ⟨w,h1,by simpa using h2,h3⟩
 ·obtain ⟨cs,h1,_,h3⟩:=Sls.load (h.rows.own i hi).sls (j:=j) hj (by decide);exact ⟨_,h1,h3⟩
theorem rMd.bl (h:rMd F H P2 P3 P6 P7 p n m sv rs M sR sD sB vs bs G) (hi:i < M.length) (hj:j < M[i].length):∃ b,AI.blkOf (adr F.w (rs[i]'(by have:=h.rows.len;omega)) j)=[b]∧P3 ≠ b∧b < G.size:=by
 obtain ⟨b,h1,h2,h3⟩:=(h.rows.own i hi).adr_blk hj
 refine ⟨b,h1,?_,h2⟩
 rintro rfl
 exact (h.rows.own i hi).ne h.b3 (by cases F <;> decide) h3
theorem rMd.dv (h:rMd F H P2 P3 P6 P7 p n m sv rs M sR sD sB vs bs G):rV F G (dvV F 1 sD) 1:=by
 have:=h.d
 cases F
 ·exact ⟨rfl,this⟩
 ·exact ⟨sD,rfl,this⟩
theorem rMd.ins {a b:List Value} {A B:List (List Int)} {G':a0e} {w:Value} {X:List Int} (h:rMd F H P2 P3 P6 P7 p n m sv (a ++ b) (A ++ B) sR sD sB vs bs G) (hl:a.length=A.length) (hw:b0a F.P G.size G' F.E F.w w X) (hx:Ext G G'):rMd F H P2 P3 P6 P7 p n m sv (a ++ w :: b) (A ++ X :: B) sR sD sB vs bs G':=by
 have h':=h.mono hx
 refine ⟨h'.ext,h'.b2,h'.b3,h'.b6,h'.b7,h'.bp,h'.d,h'.rows.insert hl hw h.ext.1 (fun y hy k hk=>?_),fun y hy=>?_,h'.heads,h'.basis,h'.low⟩
 ·obtain ⟨i,hi,rfl⟩:=b1I hy
  exact ((h.rows.own i (by have:=h.rows.len;omega)).ge hk).2
 ·have h7:=h.b7.lt
  rcases a1g.1 hy with h1 | h1
  ·exact h.p7 _ (a1g.2 (.inl h1))
  ·rcases a1W.1 h1 with h1 | h1
   ·rw [h1];intro hk;have:=(hw.ge hk).1;omega
   ·exact h.p7 _ (a1g.2 (.inr h1))
theorem rMd.push2 (h:rMd F H P2 P3 P6 P7 p n m sv rs M sR sD sB vs bs G) {w:Value} (hw:a0q w=true) {b:Nat} (hv:vs.length < 1073741824) (hb:bs.length < 1073741824) :
  ∃ sR' G1 sB' G2,h0g H.size (G.push (.row false F.S [w])) F.S 1 24 sR (.slice (some ⟨G.size,0,none⟩) 1 1)=some (sR',G1)∧h0g H.size (G1.push (.row false e0i [.int .i64 (b:Int)])) e0i 1 8 sB (.slice (some ⟨G1.size,0,none⟩) 1 1)=some (sB',G2) ∧
   a0e.blk G1 P6=.row false F.Q [.pointer (some ⟨p,0,none⟩)]∧a0e.blk G1 p=.row false F.T (n0G F n m sR 1 sD sB 0) ∧
   a0e.blk G2 P6=.row false F.Q [.pointer (some ⟨p,0,none⟩)]∧a0e.blk G2 p=.row false F.T (n0G F n m sR 1 sD sB 0)∧a0S sR' = [sR']∧a0q sR' = true∧a0S sB' = [sB']∧a0q sB' = true ∧
   (∀ k,k ∈ AI.blkW sR→k ≠ P6∧k ≠ p)∧(∀ k,k ∈ AI.blkW sB→k ≠ P6) ∧
   ∀ G3,Array.setIfInBounds G2 p (.row false F.T (n0G F n m sR' 1 sD sB' 0))=G3→rMd F H P2 P3 P6 P7 p n m sv rs M sR' sD sB' (vs ++ [w]) (bs ++ [b]) G3:=by
 obtain ⟨sR',G1,a1,o1,x1,y1⟩:=b0a.app (P:=PV) (sz:=1) (e:=F.S) (by cases F <;> decide) (fun _ _ _ _ _ h=>h) h.heads (e2:=F.S) (c:=1) (bytes:=24) (new:=[w]) (x:=w) rfl rfl (by simp [hw]) hv (by omega) (by omega) h.ext.1
 have lx1:∀ {e:Nat},F.S ≠ e→LxT e G G1:=fun hne=>h.heads.lxT hne x1
 have e1:Ext H G1:=y1 H (Z0E _) h.ext
 obtain ⟨sB',G2,a2,o2,x2,y2⟩:=b0a.app (P:=PK) (sz:=1) (e:=e0i) (by cases F <;> decide) (fun _ _ _ _ _ h=>h) (h.basis.lxm (Q':=PK) (lx1 (by cases F <;> decide)) (fun _ _ h=>h)) (e2:=e0i) (c:=1) (bytes:=8) (new:=[.int .i64 (b:Int)]) (x:=b) rfl rfl rfl hb (by omega) (by omega) e1.1
 have hob:=h.basis.lxm (Q':=PK) (G':=G1) (lx1 (by cases F <;> decide)) (fun _ _ h=>h)
 have lx2:∀ {e:Nat},e0i ≠ e→LxT e G1 G2:=fun hne=>hob.lxT hne x2
 have e2:Ext H G2:=y2 H (Z0E _) e1
 have p1:=lx1 (by cases F <;> decide) _ _ _ h.bp
 have p2:=lx2 (by cases F <;> decide) _ _ _ p1
 have q1:=lx1 (by cases F <;> decide) _ _ _ h.b6
 have q2:=lx2 (by cases F <;> decide) _ _ _ q1
 have nR6:=h.heads.ne h.b6 (by cases F <;> decide)
 have nRp:=h.heads.ne h.bp (by cases F <;> decide)
 have nB6:=h.basis.ne h.b6 (by cases F <;> decide)
 have hR:=h.heads.blkOf
 have hB:=h.basis.blkOf
 refine ⟨sR',G1,sB',G2,a1,a2,q1,p1,q2,p2,o1.cells.1,o1.cells.2,o2.cells.1,o2.cells.2,fun k hk=>?_,fun k hk=>?_,fun G3 hS=>?_⟩
 ·rcases hR with h0 | ⟨c,h0,h1⟩
  ·rw [h0] at hk;simp at hk
  ·rw [h0] at hk
   have:k=c:=by simpa using hk
   subst this
   exact ⟨fun h5=>nR6 (by rw [h1,h5]),fun h5=>nRp (by rw [h1,h5])⟩
 ·rcases hB with h0 | ⟨c,h0,h1⟩
  ·rw [h0] at hk;simp at hk
  ·rw [h0] at hk
   have:k=c:=by simpa using hk
   subst this
   exact fun h5=>nB6 (by rw [h1,h5])
 ·have lx3:∀ {e:Nat},F.T ≠ e→LxT e G2 G3:=fun hne=>a0X hS p2 hne
  have lxx:∀ {e:Nat},F.S ≠ e→e0i ≠ e→F.T ≠ e→LxT e G G3:=fun h1 h2 h3 b ro cs hb=>lx3 h3 b ro cs (lx2 h2 b ro cs (lx1 h1 b ro cs hb))
  have hl:Lx G G3:=lxx (by cases F <;> decide) (by cases F <;> decide) (by cases F <;> decide)
  exact ⟨b0J hS e2 h.low,lxx (by cases F <;> decide) (by cases F <;> decide) (by cases F <;> decide) _ _ _ h.b2,lxx (by cases F <;> decide) (by cases F <;> decide) (by cases F <;> decide) _ _ _ h.b3,lxx (by cases F <;> decide) (by cases F <;> decide) (by cases F <;> decide) _ _ _ h.b6,h.b7.lxt (lxx (by cases F <;> decide) (by cases F <;> decide) (by cases F <;> decide)) hl,a0M hS p2,h.d.lx hl,⟨h.rows.len,fun r hr=>(h.rows.own r hr).lxm (lxx (by cases F <;> decide) (by cases F <;> decide) (by cases F <;> decide)) (fun cs x hx=>O0M.lx _ _ _ _ hl hx),h.rows.apart⟩,h.p7,
   (o1.lxm (Q':=PV) (lx2 (by cases F <;> decide)) (fun _ _ h=>h)).lxm (lx3 (by cases F <;> decide)) (fun _ _ h=>h),o2.lxm (lx3 (by cases F <;> decide)) (fun _ _ h=>h),h.low⟩
theorem rMd.one (h:rMd F H P2 P3 P6 P7 p n m sv rs M sR sD sB vs bs G) (hf:fl≤G.size) (hb:n < 1048576) (hc:m < 1048576) :
  a0V env fl (F.p m0i m0h) [.pointer (some ⟨P6,0,none⟩),.pointer (some ⟨P7,0,none⟩)] G (fun r G'=>b0a F.P G.size G' F.E F.w r (List.replicate (2 * n + m + 1) 0)∧Ext G G') R:=by
 cases F
 ·exact m0m hf h.b6 h.bp h.b7 (by omega)
 ·obtain ⟨s7,b7,k7⟩:=h.b7;exact m0b hf h.b6 h.bp b7 k7 (by omega)
end
theorem j0a {z:Int} (hf:fl≤H.size) (hz:f0f z) :
  a0V env fl r0T [.int .i64 z] H (fun r H'=>r=.int .i64 z∧Ext H H') R:=by
 refine a0k R0I hf (h:=?_)
 intro ρ h0
 obtain ⟨h1,h2⟩:=hz
 have h1':¬ z≤-2147483648:=by omega
 have h2':¬ 2147483648≤z:=by omega
 simp [F0p,t0l,t0m,t0o,h0,h1,h2,h1',h2']
theorem y0p {z:Int} (h:b0q H v (a0l z)) (hf:fl≤H.size) (hz:f0f z) :
  a0V env fl h0V [eV,v] H (fun r H'=>rV .few H' r z∧Ext H H') R:=by
 have hl:lz z < 1073741824:=by
  have:lz z≤1:=m0q (by obtain ⟨h1,h2⟩:=hz;omega)
  omega
 refine a0k R0H hf (h:=?_)
 intro ρ h0
 obtain ⟨s0,rfl,k0⟩:=id h
 simp [F0o,t0h,t0i,h0,eV,k0.cells,k0.plain]
 generalize hG:Array.push (Array.push H _) _=G
 obtain ⟨hx2,_,b0⟩:=push2 hG
 have hx:=Ext.refl H
 clear hG
 replace hx:=hx.trans hx2
 refine (k0K (h.mono hx) hx.1 hl).mono ?_
 rintro _ G2 ⟨rfl,hx2⟩
 replace hx:=hx.trans hx2
 unfold toV
 have hfit:p0P z=true:=by
  unfold p0P
  obtain ⟨h1,h2⟩:=hz
  simp;omega
 simp [t0j,hfit,t0k]
 refine (j0a hx.1 hz).mono ?_
 rintro _ G3 ⟨rfl,hx2⟩
 simp
 exact fun _=>⟨rfl,hz⟩
theorem Q0Q {z:Int} (h:b0q H v (a0l z)) (hf:fl≤H.size) (hz:f0f z):a0V env fl (F.p h0V i0I) [eV,v] H (fun r H'=>rV F H' r z∧Ext H H') R:=by
 cases F
 ·exact y0p h hf hz
 ·exact h0r h hf
theorem Q0P {a b:Int} {p:Nat} {cs:List Value} {va vb:Value} (hf:fl≤H.size) (hb:a0e.blk H p=.row false F.T cs) (ha:rV F H va a) (hbz:rV F H vb b) (la:lz a < 67108864) (lb:lz b < 67108864) (hR:o0Z F R) :
  a0V env fl (F.p w0e w0c) [.pointer (some ⟨p,0,none⟩),va,vb] H (fun r H'=>rV F H' r (a - b)∧Ext H H') R:=by
 cases F
 ·obtain ⟨rfl,ha⟩:=ha;obtain ⟨rfl,hbz⟩:=hbz
  exact o0o hf hb ha hbz hR
 ·exact n0Y hf hb ha hbz la lb
theorem Sls.load1x {α:Type} {P:a0e→List Value→α→Prop} {e:Nat} {v:Value} {l:List α} (h:Sls P H e 1 v l) (hx:Ext H G) {j:Nat} (hj:j < l.length):∃ w,b0o G false 1 (adr 1 v j)=some w∧P H [w] l[j]:=by
 obtain ⟨cs,h1,h2⟩:=h
 refine ⟨_,h1.load1 hx hj,?_⟩
 have h3:=h2 j hj
 have hl:=h1.1
 have:(cs.drop (j * 1)).take 1=[cs.getD j undef]:=by
  have hjc:j < cs.length:=by omega
  have e1:cs.getD j undef=cs[j]:=by simp [Z0C,hjc]
  rw [b1f,a1L hjc,e1];rfl
 rw [this] at h3;exact h3
theorem y0s {e bytes:Nat} {l:List Value} {a b:Value} (h:b0a PV fl G e 1 v l) (ha:a0q a=true) (hb:a0q b=true) (hl:l.length + 2≤1073741824) (hby:bytes≤1024) (hfl:fl≤G.size) :
  ∃ v' G',h0g fl (G.push (.row false e [a,b])) e 1 bytes v (.slice (some ⟨G.size,0,none⟩) 2 2)=some (v',G')∧b0a PV fl G' e 1 v' (l ++ [a,b])∧c0V (slB v) G G'∧(∀ H0,H0.size≤fl→Ext H0 G→Ext H0 G'):=by
 obtain ⟨cs,h1,h2⟩:=h
 have hx:Sl (G.push (.row false e [a,b])) e 1 (.slice (some ⟨G.size,0,none⟩) 2 2) 2 [a,b]:=(Own.mk (fl:=0) a0v rfl (a1x _)).sl
 obtain ⟨v',G',a1,a2,a3,a4⟩:=k0p (h1.mono (Ext.push (Ext.refl G))) hx (by simp [ha,hb]) hl hby (by omega) (bytes:=bytes) (by simp;omega)
 have hcl:=h1.1
 rw [b1f] at hcl
 refine ⟨v',G',a1,⟨cs ++ [a,b],by simpa using a2,fun k hk=>?_⟩,⟨?_,fun c hc hne=>?_⟩,fun H0 k1 k2=>a4 H0 k1 k2.push⟩
 ·have hcv:cs=l:=by
   apply List.ext_getElem hcl
   intro j j1 j2
   have h3:=h2 j j2
   rw [b1f,a1L j1] at h3
   have:[cs[j]]=[l[j]]:=h3
   simpa using this
  subst hcv
  show ((cs ++ [a,b]).drop (k * 1)).take 1=[(cs ++ [a,b])[k]]
  rw [b1f,a1L hk];rfl
 ·have:=a3.1;simp at this;omega
 ·rw [a3.2 c (by simp;omega) hne,d0q hc]
theorem S0u {G3:a0e} {z1 z2 r2:Blk} (hN:Array.setIfInBounds (Array.push (Array.push G z1) z2) (G.size + 1) r2=G3):Ext G G3∧a0e.blk G3 G.size=z1∧a0e.blk G3 (G.size + 1)=r2:=by
 rw [← hN]
 exact ⟨(Ext.refl G).push.push.set (Nat.le_succ _),by rw [a0Q (Nat.succ_ne_self _)];simp,by rw [a0H (by simp)]⟩
theorem g0c {W i j r c:Nat} {L:List (List Int)} {x:Int} (hi:i < L.length) (hj:j < L[i].length):Tf (L.set i (L[i].set j x)) r c=if r=i∧c=j then x else Tf L r c:=by
 unfold Tf
 simp only [Z0C,a1l]
 by_cases hri:i=r
 ·subst hri
  simp only [a1p,hi,a1f,a1l,true_and]
  by_cases hcj:j=c
  ·subst hcj;simp [hj]
  ·rw [Z0F hcj,Z0F (fun h=>hcj h.symm),Z0H hi];rfl
 ·rw [Z0F hri,Z0F (fun h=>hri h.1.symm)]
def Rec (W:Nat) (M:List (List Int)):Prop:=∀ i (h:i < M.length),M[i].length=W
theorem Rec.set {W i j:Nat} {M:List (List Int)} {x:Int} (h:Rec W M) (hi:i < M.length):Rec W (M.set i (M[i].set j x)):=by
 intro r hr
 have hr':r < M.length:=by simpa using hr
 by_cases hri:r=i
 ·subst hri;simp [h r hr']
 ·rw [c1j (by omega)];exact h r hr'
theorem Rec.ins {W i:Nat} {M:List (List Int)} {X:List Int} (h:Rec W M) (hX:X.length=W):Rec W (M.take i ++ X :: M.drop i):=by
 intro r hr
 have hm:(M.take i ++ X :: M.drop i)[r] ∈ M.take i ++ X :: M.drop i:=Z0M _
 rcases a1g.1 hm with h1 | h1
 ·obtain ⟨k,hk,e⟩:=b1I (b1r h1);rw [← e];exact h k hk
 ·rcases a1W.1 h1 with h1 | h1
  ·rw [h1];exact hX
  ·obtain ⟨k,hk,e⟩:=b1I (List.mem_of_mem_drop h1);rw [← e];exact h k hk
theorem Q0U {i r c:Nat} {M:List (List Int)} {X:List Int} (hi:i≤M.length):Tf (M.take i ++ X :: M.drop i) r c=if r < i then Tf M r c else if r=i then X.getD c 0 else Tf M (r - 1) c:=by
 have hl:(M.take i).length=i:=by simp;omega
 unfold Tf
 simp only [Z0C]
 by_cases h1:r < i
 ·rw [Z0I h1,a1q (by omega),a1O,Z0I h1]
 ·rw [Z0F h1,a1u (by omega),hl]
  by_cases h2:r=i
  ·subst h2;simp
  ·rw [Z0F h2,List.getElem?_cons,Z0F (by omega),a1T,show i + (r - i - 1)=r - 1 by omega]
theorem f0c {n c:Nat}:(List.replicate n (0:Int)).getD c 0=0:=by
 rw [Z0C,b1H];split <;> rfl
end
end Go.Proofs.YtilekhkgobmolaaGreat.AI
