/- Part 11 of the proof: SxCert, AiSy2, AiSy3, AiSy4, AiSy5, AiSy6, AiSy7, AiSy8, AiSy9. -/
import Derived.Test.YtjlohmnnldbjoaaGreatM09
set_option linter.unusedVariables false
set_option linter.unusedSimpArgs false
set_option linter.unusedSectionVars false
namespace Go.Proofs.YtjlohmnnldbjoaaGreat.SX
open AI (h1A h1C h1F j1N j1g j1n j1q)
def e0r (n m:Nat) (a:Nat→Nat→Int) (bb:Nat→Int) (r c:Nat):Int :=
 if c < n then a r c else if c < 2 * n then -a r (c - n) else if c < 2 * n + m then (if c - 2 * n=r then 1 else 0) else bb r
def sg (bb:Nat→Int) (r:Nat):Int:=if bb r < 0 then -1 else 1
def cost (n:Nat) (cc:Nat→Int) (c:Nat):Int:=if c < n then cc c else if c < 2 * n then -cc (c - n) else 0
def i0a (n m:Nat) (a:Nat→Nat→Int) (bb cc:Nat→Int) (c r:Nat):Int :=
 if r < m then sg bb r * e0r n m a bb r c else if r=m then -sm (fun i=>if bb i < 0 then sg bb i * e0r n m a bb i c else 0) m else -cost n cc c
def l0j (n m:Nat) (bb:Nat→Int) (i:Nat):Nat:=if bb i < 0 then 2 * n + m + i else 2 * n + i
variable {n m:Nat} {a:Nat→Nat→Int} {bb cc:Nat→Int} {T:Nat→Nat→Int} {base:Nat→Nat} {d:Int}
theorem e0D {c r:Nat} (h:r < m):i0a n m a bb cc c r=sg bb r * e0r n m a bb r c:=by unfold i0a;rw [h1F h]
theorem g0V {c:Nat}:i0a n m a bb cc c m = -sm (fun i=>if bb i < 0 then sg bb i * e0r n m a bb i c else 0) m:=by unfold i0a;rw [h1C (by omega),h1F rfl]
theorem e0L {c:Nat}:i0a n m a bb cc c (m + 1) = -cost n cc c:=by unfold i0a;rw [h1C (by omega),h1C (by omega)]
theorem c0D {r k:Nat} (h:k < m):e0r n m a bb r (2 * n + k)=if k=r then 1 else 0:=by
 unfold e0r;rw [h1C (by omega),h1C (by omega),h1F (by omega),show 2 * n + k - 2 * n=k by omega]
theorem f0D {r:Nat}:e0r n m a bb r (2 * n + m)=bb r:=by unfold e0r;rw [h1C (by omega),h1C (by omega),h1C (by omega)]
theorem e0g {c:Nat} (h:2 * n≤c):cost n cc c=0:=by unfold cost;rw [h1C (by omega),h1C (by omega)]
theorem A0C:Tab m (2 * n + m) (i0a n m a bb cc) (fun i=>bb i < 0) (fun i c=>i0a n m a bb cc c i) (l0j n m bb) 1:=by
 refine ⟨⟨j0Y,1,Inv.first,fun i hi=>?_,fun _=>rfl,fun _=>rfl⟩,fun i hi=>?_⟩
 ·unfold l0j
  by_cases hb:bb i < 0
  ·rw [h1F hb];exact .inr ⟨rfl,hb,fun _=>rfl⟩
  ·rw [h1C hb]
   refine .inl ⟨by omega,fun r hr=>?_⟩
   by_cases h1:r < m
   ·rw [e0D h1,c0D hi]
    by_cases h2:i=r
    ·subst h2;unfold j0Y sg;simp [hb]
    ·unfold j0Y;rw [h1C (j1q h2),h1C h2];simp
   ·by_cases h2:r=m
    ·subst h2
     rw [g0V,e0o]
     ·unfold j0Y;rw [h1C (by omega)];rfl
     ·intro k hk
      split
      ·rename_i h3
       rw [c0D hi,h1C (by rintro rfl;exact hb h3)];simp
      ·rfl
    ·rw [show r=m + 1 by omega,e0L,e0g (by omega)]
     unfold j0Y;rw [h1C (by omega)];rfl
 ·show 0≤i0a n m a bb cc (2 * n + m) i
  rw [e0D hi,f0D]
  unfold sg;split <;> omega
theorem Tab.rows (h:Tab m (2 * n + m) (i0a n m a bb cc) (fun i=>bb i < 0) T base d) {k c:Nat} (hk:k < m + 2) (hc:c≤2 * n + m) :
  T k c=sm (fun i=>T k (2 * n + i) * e0r n m a bb i c) m - (if k=m + 1 then d * cost n cc c else 0):=by
 obtain ⟨b,e,hI,_,_,hg⟩:=h.inv
 rw [← hI.entry hk hc]
 have h1:co (m + 2) b e k (i0a n m a bb cc c)=co (m + 2) b e k (fun r=>1 * sm (fun i=>e0r n m a bb i c * i0a n m a bb cc (2 * n + i) r) m + (-cost n cc c) * b (m + 1) r):=by
  refine f0b fun r hr=>?_
  rw [hg r]
  by_cases h1:r < m
  ·rw [e0D h1,g0w h1]
   ·rw [e0D h1,c0D h1,h1F rfl];unfold j0Y;rw [h1C (by omega)];grind
   ·intro i hi hne
    rw [e0D h1,c0D hi,h1C hne];simp
  ·by_cases h2:r=m
   ·subst h2
    rw [g0V]
    have e2:sm (fun i=>e0r n r a bb i c * i0a n r a bb cc (2 * n + i) r) r=sm (fun i=>-1 * if bb i < 0 then sg bb i * e0r n r a bb i c else 0) r:=by
     refine b0k fun i hi=>?_
     rw [g0V]
     by_cases h3:bb i < 0
     ·rw [h1F h3,g0w hi]
      ·rw [h1F h3,c0D hi,h1F rfl];grind
      ·intro j hj hne
       rw [c0D hi,h1C (j1q hne)];simp
     ·rw [h1C h3,e0o]
      ·simp
      ·intro j hj
       by_cases h4:j=i
       ·subst h4;rw [h1C h3]
       ·rw [c0D hi,h1C (j1q h4)];simp
    rw [e2,e0W];unfold j0Y;rw [h1C (by omega)];grind
   ·have h3:r=m + 1:=by omega
    subst h3
    rw [e0L,e0o]
    ·unfold j0Y;rw [h1F rfl];grind
    ·intro i hi;rw [e0L,e0g (by omega)];simp
 rw [h1,N0G hk,N0H hk,hI.basis hk (by omega)]
 have h2:sm (fun i=>e0r n m a bb i c * co (m + 2) b e k (i0a n m a bb cc (2 * n + i))) m=sm (fun i=>T k (2 * n + i) * e0r n m a bb i c) m :=
  b0k fun i hi=>by rw [hI.entry hk (by omega)];grind
 rw [h2]
 by_cases hkm:k=m + 1
 ·rw [h1F hkm,h1F hkm];grind
 ·rw [h1C hkm,h1C hkm];grind
theorem Tab.lack (h:Tab m (2 * n + m) (i0a n m a bb cc) (fun i=>bb i < 0) T base d) {c:Nat} (hc:c≤2 * n + m):T m c = -sm (fun i=>if base i < 2 * n + m then 0 else T i c) m:=by
 obtain ⟨b,e,hI,hb,hm,hg⟩:=h.inv
 -- the functional: the number in the row of what is lacking, and those of rows with a right side below nought
 let psi:(Nat→Int)→Int:=fun v=>v m + sm (fun i=>if bb i < 0 then v i else 0) m
 have psiA:∀ c,psi (i0a n m a bb cc c)=0:=fun c=>by
  simp only [psi,g0V]
  have:sm (fun i=>if bb i < 0 then i0a n m a bb cc c i else 0) m=sm (fun i=>if bb i < 0 then sg bb i * e0r n m a bb i c else 0) m:=b0k fun i hi=>by
   split
   ·rw [e0D hi]
   ·rfl
  rw [this];omega
 have psi_sum:∀ (t:Nat→Int) (x:Nat→Nat→Int) (N:Nat),psi (fun r=>sm (fun i=>t i * x i r) N)=sm (fun i=>t i * psi (x i)) N:=by
  intro t x N
  induction N with
  | zero=>simp only [psi,sm];rw [e0o (fun i _=>by split <;> rfl)];rfl
  | succ N ih =>
   simp only [sm]
   rw [← ih]
   simp only [psi]
   have:sm (fun i=>if bb i < 0 then sm (fun k=>t k * x k i) N + t N * x N i else 0) m=sm (fun i=>if bb i < 0 then sm (fun k=>t k * x k i) N else 0) m + t N * sm (fun i=>if bb i < 0 then x N i else 0) m:=by
    rw [← e0W,← s0O]
    exact b0k fun i _=>by split <;> simp
   rw [this];grind
 have h1:psi (fun r=>sm (fun i=>T i c * b i r) (m + 2))=psi (fun r=>d * i0a n m a bb cc c r):=by
  simp only [psi]
  rw [← hI.col c hc m (by omega)]
  congr 1
  exact b0k fun i hi=>by rw [← hI.col c hc i (by omega)]
 have h2:psi (fun r=>d * i0a n m a bb cc c r)=0:=by
  have:=psi_sum (fun _=>d) (fun _=>i0a n m a bb cc c) 1
  simp only [sm,Int.zero_add] at this
  rw [this,psiA];simp
 rw [psi_sum,h2] at h1
 have h3:sm (fun i=>T i c * psi (b i)) (m + 2)=sm (fun i=>T i c * psi (b i)) m + T m c * psi (b m) + T (m + 1) c * psi (b (m + 1)):=rfl
 have e1:psi (b m)=1:=by
  simp only [psi]
  rw [hm,e0o]
  ·unfold j0Y;simp
  ·intro i hi;rw [hm];unfold j0Y;rw [h1C (show i ≠ m by omega)];simp
 have e2:psi (b (m + 1))=0:=by
  simp only [psi]
  rw [hg,e0o]
  ·unfold j0Y;simp
  ·intro i hi;rw [hg];unfold j0Y;rw [h1C (show i ≠ m + 1 by omega)];simp
 have e3:sm (fun i=>T i c * psi (b i)) m=sm (fun i=>if base i < 2 * n + m then 0 else T i c) m:=by
  refine b0k fun i hi=>?_
  rcases hb i hi with ⟨k1,k2⟩ | ⟨k1,k2,k3⟩
  ·rw [h1F k1]
   have:psi (b i)=psi (i0a n m a bb cc (base i)):=by
    simp only [psi];rw [k2 m (by omega)];congr 1
    exact b0k fun j hj=>by rw [k2 j (by omega)]
   rw [this,psiA];simp
  ·rw [h1C (by omega)]
   have:psi (b i)=1:=by
    simp only [psi]
    rw [k3,g0w hi]
    ·rw [h1F k2,k3];unfold j0Y;rw [h1C (by omega),h1F rfl];rfl
    ·intro j hj hne;rw [k3];unfold j0Y;rw [h1C hne];simp
   rw [this];simp
 rw [h3,e1,e2,e3] at h1
 omega
theorem h0A {f:Nat→Int}:∀ {N:Nat},(∀ i,i < N→0≤f i)→0≤sm f N
 | 0,_=>by simp [sm]
 | N + 1,h=>by rw [sm];have:=h0A (fun i hi=>h i (by omega)) (N:=N) (f:=f);have:=h N (by omega);omega
theorem s0P {f:Nat→Int}:∀ {N:Nat},(∀ i,i < N→0≤f i)→sm f N≤0→∀ i,i < N→f i=0
 | 0,_,_=>fun i hi=>by omega
 | N + 1,h,h0=>fun i hi=>by
  rw [sm] at h0
  have h1:=h0A (fun i hi=>h i (by omega)) (N:=N) (f:=f)
  have h2:=h N (by omega)
  by_cases hN:i=N
  ·rw [hN];omega
  ·exact s0P (N:=N) (f:=f) (fun i hi=>h i (by omega)) (by omega) i (by omega)
theorem Tab.full (h:Tab m (2 * n + m) (i0a n m a bb cc) (fun i=>bb i < 0) T base d) (h0:0≤T m (2 * n + m)):∀ i,i < m→¬ base i < 2 * n + m→T i (2 * n + m)=0:=by
 intro i hi hb
 rw [h.lack (h1A _)] at h0
 have:=s0P (f:=fun i=>if base i < 2 * n + m then 0 else T i (2 * n + m)) (fun j hj=>by split;exact Int.le_refl _;exact h.rhs j hj) (by omega) i hi
 rw [h1C hb] at this;exact this
theorem y0v (h:Tab m (2 * n + m) (i0a n m a bb cc) (fun i=>bb i < 0) T base d) (ho:∀ c,c < 2 * n + m→0≤T m c) :
  (∀ i,i < m→0≤T m (2 * n + i))∧(∀ k,k < n→sm (fun i=>T m (2 * n + i) * a i k) m=0)∧sm (fun i=>T m (2 * n + i) * bb i) m=T m (2 * n + m):=by
 refine ⟨fun i hi=>ho _ (by omega),fun k hk=>?_,?_⟩
 ·have h1:=h.rows (k:=m) (c:=k) (by omega) (by omega)
  have h2:=h.rows (k:=m) (c:=n + k) (by omega) (by omega)
  rw [h1C (by omega),Int.sub_zero] at h1 h2
  have e1:sm (fun i=>T m (2 * n + i) * e0r n m a bb i k) m=sm (fun i=>T m (2 * n + i) * a i k) m:=b0k fun i _=>by unfold e0r;rw [h1F hk]
  have e2:sm (fun i=>T m (2 * n + i) * e0r n m a bb i (n + k)) m = -1 * sm (fun i=>T m (2 * n + i) * a i k) m:=by
   rw [← e0W]
   exact b0k fun i _=>by unfold e0r;rw [h1C (by omega),h1F (by omega),show n + k - n=k by omega];grind
  have:=ho k (by omega)
  have:=ho (n + k) (by omega)
  omega
 ·have h1:=h.rows (k:=m) (c:=2 * n + m) (by omega) (by omega)
  rw [h1C (by omega),Int.sub_zero] at h1
  rw [h1];exact b0k fun i _=>by rw [f0D]
theorem duals (h:Tab m (2 * n + m) (i0a n m a bb cc) (fun i=>bb i < 0) T base d) (ho:∀ c,c < 2 * n + m→0≤T (m + 1) c) :
  (∀ i,i < m→0≤T (m + 1) (2 * n + i))∧(∀ k,k < n→sm (fun i=>T (m + 1) (2 * n + i) * a i k) m=d * cc k)∧sm (fun i=>T (m + 1) (2 * n + i) * bb i) m=T (m + 1) (2 * n + m):=by
 refine ⟨fun i hi=>ho _ (by omega),fun k hk=>?_,?_⟩
 ·have h1:=h.rows (k:=m + 1) (c:=k) (by omega) (by omega)
  have h2:=h.rows (k:=m + 1) (c:=n + k) (by omega) (by omega)
  rw [h1F rfl] at h1 h2
  have e1:sm (fun i=>T (m + 1) (2 * n + i) * e0r n m a bb i k) m=sm (fun i=>T (m + 1) (2 * n + i) * a i k) m:=b0k fun i _=>by unfold e0r;rw [h1F hk]
  have e2:sm (fun i=>T (m + 1) (2 * n + i) * e0r n m a bb i (n + k)) m = -1 * sm (fun i=>T (m + 1) (2 * n + i) * a i k) m:=by
   rw [← e0W]
   exact b0k fun i _=>by unfold e0r;rw [h1C (by omega),h1F (by omega),show n + k - n=k by omega];grind
  have e3:cost n cc k=cc k:=by unfold cost;rw [h1F hk]
  have e4:cost n cc (n + k) = -cc k:=by unfold cost;rw [h1C (by omega),h1F (by omega),show n + k - n=k by omega]
  have:=ho k (by omega)
  have:=ho (n + k) (by omega)
  rw [e3] at h1
  rw [e4,Int.mul_neg] at h2
  omega
 ·have h1:=h.rows (k:=m + 1) (c:=2 * n + m) (by omega) (by omega)
  rw [h1F rfl,e0g (by omega),j1N,Int.sub_zero] at h1
  rw [h1];exact b0k fun i _=>by rw [f0D]
def pt (n m:Nat) (base:Nat→Nat) (F:Nat→Int) (k:Nat):Int:=sm (fun i=>if base i=k then F i else if base i=n + k then -F i else 0) m
theorem K0d {f:Nat→Nat→Int} {M:Nat}:∀ {N:Nat},sm (fun i=>sm (fun j=>f i j) M) N=sm (fun j=>sm (fun i=>f i j) N) M
 | 0=>by simp only [sm];rw [e0o (fun _ _=>rfl)]
 | N + 1=>by simp only [sm];rw [K0d,← s0O]
theorem B0D {F:Nat→Int} {w:Nat→Int} {W:Nat→Int} (hW:∀ c,c < 2 * n→W c=if c < n then w c else -w (c - n)):sm (fun k=>w k * pt n m base F k) n=sm (fun i=>if base i < 2 * n then F i * W (base i) else 0) m:=by
 have h1:sm (fun k=>w k * pt n m base F k) n=sm (fun k=>sm (fun i=>w k * (if base i=k then F i else if base i=n + k then -F i else 0)) m) n :=
  b0k fun k _=>by unfold pt;rw [e0W]
 rw [h1,K0d]
 refine b0k fun i hi=>?_
 by_cases hb:base i < 2 * n
 ·rw [h1F hb,hW _ hb]
  by_cases hb2:base i < n
  ·rw [h1F hb2,g0w hb2]
   ·rw [h1F rfl];grind
   ·intro k hk hne;rw [h1C (j1q hne),h1C (by omega)];simp
  ·rw [h1C hb2,g0w (k:=base i - n) (by omega)]
   ·rw [h1C (by omega),h1F (by omega)];grind
   ·intro k hk hne;rw [h1C (by omega),h1C (by omega)];simp
 ·rw [h1C hb]
  exact e0o fun k hk=>by rw [h1C (by omega),h1C (by omega)];simp
theorem Tab.colrow (h:Tab m (2 * n + m) (i0a n m a bb cc) (fun i=>bb i < 0) T base d) {c:Nat} (hc:c≤2 * n + m) (h0:∀ i,i < m→¬ base i < 2 * n + m→T i c=0) :
  (∀ r,r < m→d * e0r n m a bb r c=sm (fun i=>if base i < 2 * n + m then T i c * e0r n m a bb r (base i) else 0) m) ∧
  d * cost n cc c=sm (fun i=>if base i < 2 * n + m then T i c * cost n cc (base i) else 0) m - T (m + 1) c:=by
 obtain ⟨b,e,hI,hb,hm,hg⟩:=h.inv
 refine ⟨fun r hr=>?_,?_⟩
 ·have h1:=hI.col c hc r (by omega)
  have h3:sm (fun i=>T i c * b i r) (m + 2)=sm (fun i=>T i c * b i r) m + T m c * b m r + T (m + 1) c * b (m + 1) r:=rfl
  rw [h3,hm,hg] at h1
  unfold j0Y at h1
  rw [h1C (by omega),h1C (by omega),e0D hr,j1N,j1N,j1g,j1g] at h1
  have e3:sm (fun i=>T i c * b i r) m=sg bb r * sm (fun i=>if base i < 2 * n + m then T i c * e0r n m a bb r (base i) else 0) m:=by
   rw [← e0W]
   refine b0k fun i hi=>?_
   rcases hb i hi with ⟨k1,k2⟩ | ⟨k1,k2,k3⟩
   ·rw [h1F k1,k2 r (by omega),e0D hr];grind
   ·rw [h1C (by omega),h0 i hi (by omega)];simp
  rw [e3] at h1
  have h4:sg bb r * (d * e0r n m a bb r c)=sg bb r * sm (fun i=>if base i < 2 * n + m then T i c * e0r n m a bb r (base i) else 0) m:=by rw [← h1];grind
  refine j1n ?_ h4
  unfold sg;split <;> omega
 ·have h1:=hI.col c hc (m + 1) (by omega)
  have h3:sm (fun i=>T i c * b i (m + 1)) (m + 2)=sm (fun i=>T i c * b i (m + 1)) m + T m c * b m (m + 1) + T (m + 1) c * b (m + 1) (m + 1):=rfl
  rw [h3,hm,hg] at h1
  unfold j0Y at h1
  rw [h1C (by omega),h1F rfl,e0L,j1N,Int.mul_one,j1g] at h1
  have e3:sm (fun i=>T i c * b i (m + 1)) m = -1 * sm (fun i=>if base i < 2 * n + m then T i c * cost n cc (base i) else 0) m:=by
   rw [← e0W]
   refine b0k fun i hi=>?_
   rcases hb i hi with ⟨k1,k2⟩ | ⟨k1,k2,k3⟩
   ·rw [h1F k1,k2 (m + 1) (by omega),e0L];grind
   ·rw [h1C (by omega),h0 i hi (by omega)];simp
  rw [e3,Int.mul_neg] at h1
  omega
theorem w0m {r c:Nat} (h:c < 2 * n):e0r n m a bb r c=if c < n then a r c else -a r (c - n):=by
 unfold e0r;by_cases h1:c < n
 ·rw [h1F h1,h1F h1]
 ·rw [h1C h1,h1C h1,h1F h]
theorem v0S {c:Nat} (h:c < 2 * n):cost n cc c=if c < n then cc c else -cc (c - n):=by
 unfold cost;by_cases h1:c < n
 ·rw [h1F h1,h1F h1]
 ·rw [h1C h1,h1C h1,h1F h]
theorem U0i {f g:Nat→Int} {N:Nat}:sm f N - sm g N=sm (fun i=>f i - g i) N:=by
 have:=x0G (a:=1) (b:=-1) (f:=f) (g:=g) (n:=N)
 have e:sm (fun i=>1 * f i + -1 * g i) N=sm (fun i=>f i - g i) N:=b0k fun i _=>by omega
 omega
theorem Z0D (h:Tab m (2 * n + m) (i0a n m a bb cc) (fun i=>bb i < 0) T base d) (h0:∀ i,i < m→¬ base i < 2 * n + m→T i (2 * n + m)=0) :
  (∀ r,r < m→sm (fun k=>a r k * pt n m base (fun i=>T i (2 * n + m)) k) n≤d * bb r)∧sm (fun k=>cc k * pt n m base (fun i=>T i (2 * n + m)) k) n=T (m + 1) (2 * n + m):=by
 obtain ⟨h1,h2⟩:=h.colrow (h1A _) h0
 refine ⟨fun r hr=>?_,?_⟩
 ·have h3:=h1 r hr
  rw [f0D] at h3
  rw [B0D (W:=e0r n m a bb r) (fun c hc=>w0m hc),h3]
  have h4:0≤sm (fun i=>if base i < 2 * n + m then T i (2 * n + m) * e0r n m a bb r (base i) else 0) m - sm (fun i=>if base i < 2 * n then T i (2 * n + m) * e0r n m a bb r (base i) else 0) m:=by
   rw [U0i]
   refine h0A fun i hi=>?_
   by_cases hb:base i < 2 * n
   ·rw [h1F (by omega),h1F hb];omega
   ·rw [h1C hb]
    by_cases hb2:base i < 2 * n + m
    ·rw [h1F hb2]
     have:base i=2 * n + (base i - 2 * n):=by omega
     rw [this,c0D (by omega)]
     have:=h.rhs i hi
     split <;> omega
    ·rw [h1C hb2];omega
  omega
 ·rw [e0g (by omega),j1N] at h2
  rw [B0D (W:=cost n cc) (fun c hc=>v0S hc)]
  have:sm (fun i=>if base i < 2 * n + m then T i (2 * n + m) * cost n cc (base i) else 0) m=sm (fun i=>if base i < 2 * n then T i (2 * n + m) * cost n cc (base i) else 0) m:=by
   refine b0k fun i hi=>?_
   by_cases hb:base i < 2 * n
   ·rw [h1F (by omega),h1F hb]
   ·rw [h1C hb,e0g (by omega)];split <;> simp
  omega
def J0M (n m:Nat) (T:Nat→Nat→Int) (base:Nat→Nat) (d:Int) (j k:Nat):Int:=pt n m base (fun i=>-T i j) k + (if j=k then d else if j=n + k then -d else 0)
theorem J0N {w W:Nat→Int} {j:Nat} (hW:∀ c,c < 2 * n→W c=if c < n then w c else -w (c - n)) :
  sm (fun k=>w k * J0M n m T base d j k) n = -sm (fun i=>if base i < 2 * n then T i j * W (base i) else 0) m + (if j < 2 * n then d * W j else 0):=by
 have h1:sm (fun k=>w k * J0M n m T base d j k) n=sm (fun k=>w k * pt n m base (fun i=>-T i j) k) n + sm (fun k=>w k * (if j=k then d else if j=n + k then -d else 0)) n:=by
  rw [← s0O];exact b0k fun k _=>by unfold J0M;grind
 rw [h1,B0D hW]
 congr 1
 ·have:sm (fun i=>if base i < 2 * n then -T i j * W (base i) else 0) m = -1 * sm (fun i=>if base i < 2 * n then T i j * W (base i) else 0) m:=by
   rw [← e0W];exact b0k fun i _=>by split <;> grind
  omega
 ·by_cases hj:j < 2 * n
  ·rw [h1F hj,hW j hj]
   by_cases hj2:j < n
   ·rw [h1F hj2,g0w hj2]
    ·rw [h1F rfl];grind
    ·intro k hk hne;rw [h1C (j1q hne),h1C (by omega)];simp
   ·rw [h1C hj2,g0w (k:=j - n) (by omega)]
    ·rw [h1C (by omega),h1F (by omega)];grind
    ·intro k hk hne;rw [h1C (by omega),h1C (by omega)];simp
  ·rw [h1C hj]
   exact e0o fun k hk=>by rw [h1C (by omega),h1C (by omega)];simp
theorem K0m (h:Tab m (2 * n + m) (i0a n m a bb cc) (fun i=>bb i < 0) T base d) {j:Nat} (hj:j < 2 * n + m) (hle:∀ i,i < m→T i j≤0) (h0:∀ i,i < m→¬ base i < 2 * n + m→T i j=0) :
  (∀ r,r < m→sm (fun k=>a r k * J0M n m T base d j k) n≤0)∧sm (fun k=>cc k * J0M n m T base d j k) n = -T (m + 1) j:=by
 obtain ⟨h1,h2⟩:=h.colrow (c:=j) (by omega) h0
 have hd:=h.pos
 refine ⟨fun r hr=>?_,?_⟩
 ·have h3:=h1 r hr
  rw [J0N (W:=e0r n m a bb r) (fun c hc=>w0m hc)]
  have h4:sm (fun i=>if base i < 2 * n + m then T i j * e0r n m a bb r (base i) else 0) m - sm (fun i=>if base i < 2 * n then T i j * e0r n m a bb r (base i) else 0) m≤0:=by
   rw [U0i]
   have:0≤sm (fun i=>-1 * ((if base i < 2 * n + m then T i j * e0r n m a bb r (base i) else 0) - (if base i < 2 * n then T i j * e0r n m a bb r (base i) else 0))) m:=by
    refine h0A fun i hi=>?_
    by_cases hb:base i < 2 * n
    ·rw [h1F (by omega),h1F hb];omega
    ·rw [h1C hb]
     by_cases hb2:base i < 2 * n + m
     ·rw [h1F hb2]
      have:base i=2 * n + (base i - 2 * n):=by omega
      rw [this,c0D (by omega)]
      have:=hle i hi
      split <;> omega
     ·rw [h1C hb2];omega
   rw [e0W] at this
   omega
  by_cases hj2:j < 2 * n
  ·rw [h1F hj2];omega
  ·rw [h1C hj2]
   have e:j=2 * n + (j - 2 * n):=by omega
   have h5:0≤d * e0r n m a bb r j:=by
    rw [e,c0D (by omega)];split <;> omega
   omega
 ·rw [J0N (W:=cost n cc) (fun c hc=>v0S hc)]
  have:sm (fun i=>if base i < 2 * n + m then T i j * cost n cc (base i) else 0) m=sm (fun i=>if base i < 2 * n then T i j * cost n cc (base i) else 0) m:=by
   refine b0k fun i hi=>?_
   by_cases hb:base i < 2 * n
   ·rw [h1F (by omega),h1F hb]
   ·rw [h1C hb,e0g (by omega)];split <;> simp
  by_cases hj2:j < 2 * n
  ·rw [h1F hj2];omega
  ·rw [h1C hj2]
   rw [e0g (by omega),j1N] at h2
   omega
theorem B0F {C i j k c:Nat} (hk:∀ c,c≤C→T k c=0) (hki:k ≠ i) (hc:c≤C) (hj:j≤C):pv T i j d k c=0:=by
 unfold pv;rw [h1C hki,hk c hc,hk j hj];simp
end Go.Proofs.YtjlohmnnldbjoaaGreat.SX
namespace Go.Proofs.YtjlohmnnldbjoaaGreat.AI
section
open Go SX
set_option maxHeartbeats 4000000
set_option maxRecDepth 4000
variable {fl:Nat} {H G:a0f} {R:a0G} {v w u:Value} {F:RK}
def X0K (T:Nat→Nat→Int) (base:Nat→Nat) (C j i:Nat) (z:Int):Prop:=(z = -1∧∀ k,k < i→T k j≤0) ∨ ∃ o:Nat,z=o∧o < i∧v0B T base C j i o
theorem x0Z (X Y:Int):(c0z X Y = -1∧X < Y) ∨ (c0z X Y=0∧X=Y) ∨ (c0z X Y=1∧Y < X):=by
 unfold c0z
 by_cases hA:X < Y
 ·exact .inl ⟨by rw [h1F hA],hA⟩
 ·by_cases hB:Y < X
  ·exact .inr (.inr ⟨by rw [h1C hA,h1F hB],hB⟩)
  ·exact .inr (.inl ⟨by rw [h1C hA,h1C hB],by omega⟩)
theorem t0F {f0 p n m j:Nat} {L:List (List Int)} {k D:Int} {bs:List Nat} {sR sD sB:Value} {vs:List Value} (h:e0M F f0 H p n m L D bs k sR sD sB vs) (hf:fl≤H.size) (hS:ShT n m L bs) (hz:∀ r c,lz (Tf L r c) < 67108864) (hj:j < 2 * n + m) (hm:m < 1048576) :
  a0S env fl (m0c F) [.pointer (some ⟨p,0,none⟩),.int .i64 (j:Int)] H (fun r H'=>(∃ z:Int,r=.int .i64 z∧X0K (Tf L) (bf bs) (2 * n + m) j m z)∧Ext H H') R:=by
 refine a0i z0X hf (h:=?_)
 intro ρ h0
 have hL:=hS.len
 have hr:=hS.row
 have hb:=hS.base
 simp [f0I,m0E,m0F,m0G,h0,h.blk]
 refine d0Q (n:=m) (fun i ρ G=>ρ 0=.pointer (some ⟨p,0,none⟩)∧ρ 1=.int .i64 (j:Int)∧Ext H G∧∃ z,ρ 5=.int .i64 z∧X0K (Tf L) (bf bs) (2 * n + m) j i z) rfl rfl (by decide) (by omega) (by simp) (by simp) ?_ ?_ ?_ ?_
 ·exact ⟨by simp [h0],by simp [h0],Ext.refl H,-1,by simp,.inl ⟨rfl,fun k hk=>by omega⟩⟩
 ·intro i ρ ρ' G h hI;simpa [h] using hI
 ·clear h0 ρ
  rintro i ρ G hi gi gn ⟨g0,g1,hx,z,g5,hq⟩
  have hG:=h.mono hx
  have hiL:i < L.length:=by omega
  have hjL:j < L[i].length:=by rw [hr i hiL];omega
  obtain ⟨w1,e1,f1⟩:=hG.num hiL hjL
  have e0:=hG.head hiL
  have eh:=hG.hia hiL
  have ej:=hG.ia hiL hjL
  have hbk:=hG.blk
  obtain ⟨vi,hvi1⟩:∃ x,x=vs[i]'(by have:=h.rows.len;omega):=⟨_,rfl⟩
  rw [← hvi1] at e0 ej e1
  simp [m0H,gi]
  refine a0B ?_
  simp [m0I,g0,g1,gi,hbk,eh,e0,ej,e1]
  refine (r0o f1 (by have:=hx.1;omega) (hz _ _)).mono ?_
  rintro _ G2 ⟨rfl,hx2⟩
  replace hG:=hG.mono hx2
  replace hx:=hx.trans hx2
  clear hbk e1 f1 ej
  by_cases hp:0 < Tf L i j
  ·have hc:c0z (Tf L i j) 0=1:=by unfold c0z;rw [h1C (by omega),h1F (by omega)]
   simp [hc,m0J,g5]
   rcases hq with ⟨rfl,hq⟩ | ⟨o,rfl,ho,hB⟩
   ·simp [m0K]
    exact Rnd.mk (by simp [gi]) (by simp [gn]) ⟨by simp [g0],by simp [g1],hx,(i:Int),by simp,.inr ⟨i,rfl,by omega,v0B.one hp hq⟩⟩
   ·have hoL:o < L.length:=by omega
    have hjo:j < L[o].length:=by rw [hr o hoL];omega
    have hCi:2 * n + m < L[i].length:=by rw [hr i hiL];omega
    have hCo:2 * n + m < L[o].length:=by rw [hr o hoL];omega
    obtain ⟨w1,a1,fa⟩:=hG.num hiL hCi
    obtain ⟨w2,a2,fb⟩:=hG.num hoL hjo
    obtain ⟨w3,a3,fc⟩:=hG.num hoL hCo
    obtain ⟨w4,a4,fd⟩:=hG.num hiL hjL
    have ei:=hG.head hiL
    have eo:=hG.head hoL
    refine ⟨fun hh=>by omega,fun _=>?_⟩
    refine a0B ?_
    have iC:=hG.ia hiL hCi
    have oC:=hG.ia hoL hCo
    have eC:((2 * n + m:Nat):Int)=2 * (n:Int) + m:=by omega
    rw [eC] at iC oC
    have ij:=hG.ia hiL hjL
    have oj:=hG.ia hoL hjo
    have hi1:=hG.hia hiL
    have ho1:=hG.hia hoL
    have hbk:=hG.blk
    obtain ⟨vi,hvi1⟩:∃ x,x=vs[i]'(by have:=h.rows.len;omega):=⟨_,rfl⟩
    obtain ⟨vo,hvo1⟩:∃ x,x=vs[o]'(by have:=h.rows.len;omega):=⟨_,rfl⟩
    rw [← hvi1] at ei ij iC a1 a4
    rw [← hvo1] at eo oj oC a2 a3
    simp [m0L,g0,g1,g5,hbk,hi1,ho1,ei,eo,ij,oj]
    simp [iC,a1]
    simp [oC,oj,ij,a2,a3,a4]
    refine (U0o fa fb fc fd (by have:=hx.1;omega) (hz _ _) (hz _ _) (hz _ _) (hz _ _)).mono ?_
    rintro _ G3 ⟨rfl,hx3⟩
    replace hG:=hG.mono hx3
    replace hx:=hx.trans hx3
    refine a0B ?_
    obtain ⟨hc,h1⟩ | ⟨hc,h1⟩ | ⟨hc,h1⟩:=x0Z (Tf L i (2 * n + m) * Tf L o j) (Tf L o (2 * n + m) * Tf L i j)
    ·simp [hc,g0l]
     simp [h0q]
     exact Rnd.mk (by simp [gi]) (by simp [gn]) ⟨by simp [g0],by simp [g1],hx,(i:Int),by simp,.inr ⟨i,rfl,by omega,hB.take hp (.inl h1)⟩⟩
    ·obtain ⟨li,bi⟩:=hG.base (show i < bs.length by omega)
     obtain ⟨lo,bo⟩:=hG.base (show o < bs.length by omega)
     have hbk:=hG.blk
     simp [hc,g0l,g0,g5,hbk,bi,bo,li,lo]
     by_cases hlt:bf bs i < bf bs o
     ·have hlt':¬ bf bs o≤bf bs i:=by omega
      simp [hlt,hlt',h0q]
      exact Rnd.mk (by simp [gi]) (by simp [gn]) ⟨by simp [g0],by simp [g1],hx,(i:Int),by simp,.inr ⟨i,rfl,by omega,hB.take hp (.inr ⟨h1,hlt⟩)⟩⟩
     ·have hlt':bf bs o≤bf bs i:=by omega
      simp [hlt,hlt']
      exact Rnd.mk (by simp [gi]) (by simp [gn]) ⟨by simp [g0],by simp [g1],hx,(o:Int),by simp [g5],.inr ⟨o,rfl,by omega,hB.keep (.inr ⟨h1.symm,by omega⟩)⟩⟩
    ·simp [hc,g0l]
     exact Rnd.mk (by simp [gi]) (by simp [gn]) ⟨by simp [g0],by simp [g1],hx,(o:Int),by simp [g5],.inr ⟨o,rfl,by omega,hB.keep (.inl h1)⟩⟩
  ·have hc:c0z (Tf L i j) 0≤0:=by unfold c0z;split <;> (try split) <;> omega
   simp [hc]
   refine Rnd.mk (by simp [gi]) (by simp [gn]) ⟨by simp [g0],by simp [g1],hx,z,by simp [g5],?_⟩
   rcases hq with ⟨rfl,hq⟩ | ⟨o,rfl,ho,hB⟩
   ·refine .inl ⟨rfl,fun k hk=>?_⟩
    by_cases hki:k=i
    ·rw [hki];omega
    ·exact hq k (by omega)
   ·exact .inr ⟨o,rfl,by omega,hB.skip (by omega)⟩
 ·rintro ρ G gi gn ⟨g0,g1,hx,z,g5,hq⟩
  simp [l0a,g5]
  exact fun _=>hq
end
section
open Go SX
set_option maxHeartbeats 4000000
variable {fl:Nat} {H G:a0f} {R:a0G} {v w u:Value}
def pvt (T:Nat→Nat→Int) (i j:Nat) (D:Int) (r c:Nat):Int:=if r=i then T i c else (T r c * T i j - T r j * T i c).tdiv D
def pvu (T:Nat→Nat→Int) (i j:Nat) (D:Int) (k q r c:Nat):Int:=if r < k ∨ r=k∧c < q then pvt T i j D r c else T r c
theorem B0H {T:Nat→Nat→Int} {i j:Nat} {D:Int} {k W r c:Nat} (hc:c < W):pvu T i j D k W r c=pvu T i j D (k + 1) 0 r c:=by
 unfold pvu
 by_cases h:r < k ∨ r=k∧c < W
 ·rw [h1F h,h1F (by omega)]
 ·rw [h1C h,h1C (by omega)]
theorem t0h {E:Env} {bef:List Nat} {Z:b0b→a0f→Prop} {v:Value} {j:Nat} {t:b0b}:∀ {ops:List a0L} {i:Nat} {lg:Log},(List.range ops.length).all (fun k=>(bef.getD (i + k) 0).testBit j)=true→R v→WRP E fl bef [] Z R i ops t H (some (j,v)) lg
 | [],i,lg,_,h=>⟨rfl,h⟩
 | o :: r,i,lg,hb,h=>by
  have h0:(bef.getD i 0).testBit j=true:=by
   have:=i1p.1 hb 0 (by simp)
   simpa using this
  show (if g0Z bef i (some (j,v))=true then _ else _)
  rw [h1F (show g0Z bef i (some (j,v))=true from h0)]
  refine t0h ?_ h
  rw [i1p]
  intro k hk
  have:=i1p.1 hb (k + 1) (by simp at hk ⊢;omega)
  rwa [show i + (k + 1)=i + 1 + k by omega] at this
theorem A0A {E:Env} {bef:List Nat} {Z:b0b→a0f→Prop} {j i:Nat} {t:b0b} {ops:List a0L} {lg:Log} (hb:(List.range ops.length).all (fun k=>(bef.getD (i + k) 0).testBit j)=true) (h:q0u .few R):q0u .few (fun v=>WRP E fl bef [] Z R i ops t H (some (j,v)) lg):=t0h hb h
theorem n0Q {p n m i j:Nat} {L:List (List Int)} {k D:Int} {bs:List Nat} {sR sD sB:Value} {vs:List Value} (h:e0M .few fl H p n m L D bs k sR sD sB vs) (hf:fl≤H.size) (hS:ShT n m L bs) (hz:∀ r c,lz (Tf L r c) < 67108864) (hD:lz D < 67108864) (hD0:D ≠ 0) (hi:i < m) (hj:j < 2 * n + m) (hm:m < 1048576) (hn:n < 1048576) (hR:q0u .few R) :
  a0S env fl t0A [.pointer (some ⟨p,0,none⟩),.int .i64 (i:Int),.int .i64 (j:Int)] H (fun _ H'=>((∃ L' sD',e0M .few fl H' p n m L' (Tf L i j) (bs.set i j) (IntKind.i64.wrap (k + 1)) sR sD' sB vs∧ShT n m L' (bs.set i j)∧∀ r c,r < m + 2→c < 2 * n + m + 1→Tf L' r c=pvt (Tf L) i j D r c)∧Frm a0d d0A H H')∧f0L fl H H') R:=by
 refine p0B e1G hf (h:=?_)
 intro ρ h0
 have hL:=hS.len
 have hr:=hS.row
 have hb:=hS.base
 have hiL:i < L.length:=by omega
 have hjL:j < L[i].length:=by rw [hr i hiL];omega
 have hbk:=h.blk
 rw [h0S] at hbk
 have hpl:=a0l hbk
 have hlow:=h.low
 simp [M0Y,H0e,h0,hbk,hlow,hpl]
 generalize hS1:Array.setIfInBounds H p _=G1
 have t1:∀ {e:Nat},a0d ≠ e→LxT e H G1:=fun hne=>b0m hS1 hbk hne
 have hG:e0M .few fl G1 p n m L D bs (IntKind.i64.wrap (k + 1)) sR sD sB vs:=⟨a0s hS1 hbk,hlow,h.d,h.heads.lxm (t1 (by decide)) (fun _ _ h=>h),⟨h.rows.len,fun r hr=>(h.rows.own r hr).lxm (t1 (by decide)) (fun cs x hx=>X0x.lx _ _ _ _ (t1 (by decide)) hx),h.rows.apart⟩,h.basis.lxm (t1 (by decide)) (fun _ _ h=>h)⟩
 have hx:Frm a0d d0A H G1:=⟨by rw [← hS1];simp,fun e he _ _=>t1 (j1q he)⟩
 clear hS1 t1
 obtain ⟨w6,e6,f6⟩:=hG.num hiL hjL
 have eh:=hG.head hiL
 have hi1:=hG.hia hiL
 have ij:=hG.ia hiL hjL
 have hbk:=hG.blk
 rw [h0S] at hbk
 obtain ⟨vi,hvi1⟩:∃ x,x=vs[i]'(by have:=h.rows.len;omega):=⟨_,rfl⟩
 rw [← hvi1] at eh ij e6
 simp only [RK.w,RK.b,RK.p_few] at ij e6
 refine a0B ?_
 simp [H0f,h0,hbk,hi1,eh,ij,e6]
 have hsl:=hG.heads.sls.slen
 rw [hG.rows.len] at hsl
 simp [H0g,h0,hbk,hsl]
 refine d0Q (n:=L.length) (fun k' ρ G=>ρ 0=.pointer (some ⟨p,0,none⟩)∧ρ 1=.int .i64 (i:Int)∧ρ 2=.int .i64 (j:Int)∧ρ 6=w6∧ρ 7=vi∧ρ 39=sR∧Frm a0d d0A H G∧rV .few G w6 (Tf L i j) ∧
   ∃ L',e0M .few fl G p n m L' D bs (IntKind.i64.wrap (k + 1)) sR sD sB vs∧ShT n m L' bs∧∀ r c,r < m + 2→c < 2 * n + m + 1→Tf L' r c=pvu (Tf L) i j D k' 0 r c) rfl rfl (by decide) (by omega) (by simp) (by simp) ?_ ?_ ?_ ?_
 ·exact ⟨by simp [h0],by simp [h0],by simp [h0],by simp,by simp,by simp,hx,f6,L,hG,hS,fun r c _ _=>by unfold pvu;rw [h1C (by omega)]⟩
 ·intro i ρ ρ' G h hI;simpa [h] using hI
 ·clear h0 ρ hG hx f6 e6 eh hi1 ij hbk hpl hsl
  rintro q ρ G hq gi gn ⟨g0,g1,g2,g6,g7,g39,hx,f6,L',hG,hS',hT⟩
  obtain ⟨vq,hvq⟩:∃ x,x=vs[q]'(by have:=h.rows.len;clear hG;omega):=⟨_,rfl⟩
  have hqL:q < L'.length:=by rw [hS'.len];omega
  have eq:=hG.head hqL
  have hq1:=hG.hia hqL
  rw [← hvq] at eq
  simp [H0h,gi,g39,hq1,eq]
  by_cases hqi:q=i
  ·subst hqi
   simp [u0M,g1]
   refine Rnd.mk (by simp [gi]) (by simp [gn]) ⟨by simp [g0],by simp [g1],by simp [g2],by simp [g6],by simp [g7],by simp [g39],hx,f6,L',hG,hS',fun r c h1 h2=>?_⟩
   rw [hT r c h1 h2]
   unfold pvu
   by_cases hrq:r=q
   ·subst hrq;rw [h1C (by omega),h1F (by omega)];unfold pvt;rw [h1F rfl]
   ·by_cases hlt:r < q
    ·rw [h1F (.inl hlt),h1F (by omega)]
    ·rw [h1C (by omega),h1C (by omega)]
  ·have hqi':¬ ((q:Int)=(i:Int)):=by omega
   have hjq:j < L'[q].length:=by rw [hS'.row q hqL];omega
   obtain ⟨w10,e10,f10⟩:=hG.num hqL hjq
   have qj:=hG.ia hqL hjq
   have hsq:=(hG.rows.own q hqL).slen
   rw [hS'.row q hqL] at hsq
   rw [← hvq] at qj e10 hsq
   simp only [RK.w,RK.b,RK.p_few] at qj e10
   have hb10:Tf L' q j=Tf L q j:=by rw [hT q j (by omega) (by omega)];unfold pvu;rw [h1C (by omega)]
   rw [hb10] at f10
   simp [u0M,g1,hqi,hqi',H0i,H0j,g2,qj,e10,hsq]
   obtain ⟨W,hW⟩:∃ W,W=2 * n + m + 1:=⟨_,rfl⟩
   have hWi:(2 * (n:Int) + m + 1)=(W:Int):=by omega
   refine r0q (n:=W) (fun c ρ G=>ρ 0=.pointer (some ⟨p,0,none⟩)∧ρ 1=.int .i64 (i:Int)∧ρ 2=.int .i64 (j:Int)∧ρ 6=w6∧ρ 7=vi∧ρ 39=sR∧ρ 41=.int .i64 (q:Int)∧ρ 40=.int .i64 (L.length:Int)∧ρ 9=vq∧ρ 10=w10∧Frm a0d d0A H G∧rV .few G w6 (Tf L i j)∧rV .few G w10 (Tf L q j) ∧
     ∃ L',e0M .few fl G p n m L' D bs (IntKind.i64.wrap (k + 1)) sR sD sB vs∧ShT n m L' bs∧∀ r c',r < m + 2→c' < 2 * n + m + 1→Tf L' r c' = pvu (Tf L) i j D q c r c') rfl rfl (by decide) (by omega) (by simp) (by simp [hWi]) ?_ ?_ ?_ ?_
   ·exact ⟨by simp [g0],by simp [g1],by simp [g2],by simp [g6],by simp [g7],by simp [g39],by simp [gi],by simp [gn],by simp,by simp,hx,f6,f10,L',hG,hS',hT⟩
   ·intro i ρ ρ' G h hI;simpa [h] using hI
   ·clear g0 g1 g2 g6 g7 g39 gi gn hx f6 f10 hG hS' hT e10 eq hq1 qj hsq hb10 hqL hjq L' ρ G
    rintro c ρ G hc gc gw ⟨g0,g1,g2,g6,g7,g39,gi,gn,g9,g10,hx,f6,f10,L',hG,hS',hT⟩
    have hqL:q < L'.length:=by rw [hS'.len];omega
    have hiL':i < L'.length:=by rw [hS'.len];omega
    have hcq:c < L'[q].length:=by rw [hS'.row q hqL];omega
    have hci:c < L'[i].length:=by rw [hS'.row i hiL'];omega
    obtain ⟨wq,eq,fq⟩:=hG.num hqL hcq
    obtain ⟨wi,ei,fi⟩:=hG.num hiL' hci
    have qc:=hG.ia hqL hcq
    have ic:=hG.ia hiL' hci
    have tq:Tf L' q c=Tf L q c:=by rw [hT q c (by omega) (by omega)];unfold pvu;rw [h1C (by omega)]
    have ti:Tf L' i c=Tf L i c:=by
     rw [hT i c (by omega) (by omega)];unfold pvu;split
     ·unfold pvt;rw [h1F rfl]
     ·rfl
    rw [tq] at fq
    rw [ti] at fi
    have qc':=qc
    rw [← hvq] at qc eq
    rw [← hvi1] at ic ei
    simp only [RK.w,RK.b,RK.p_few] at qc ic eq ei
    have hbk:=hG.blk
    rw [h0S] at hbk
    have dv:=hG.dv
    simp [H0k,gc]
    refine l0P ?_
    simp [x0j,g0,g6,g7,g9,g10,gc,hbk,qc,ic,eq,ei]
    have hxs:=hx.1
    have hq1:=fun (R':a0G) (hR':q0u .few R')=>N0E (fl:=fl) (R:=R') fq f6 f10 fi dv (by omega) (hz _ _) (hz _ _) (hz _ _) (hz _ _) hD hD0 hR'
    refine a0S.mono (hq1 _ (A0A rfl hR)) ?_
    clear hq1
    rintro ws G3 ⟨fs,hx3⟩
    obtain ⟨G4,hst,hG4,hx4,_⟩:=(hG.mono hx3).store (x:=(Tf L q c * Tf L i j - Tf L q j * Tf L i c).tdiv D) hqL hcq fs
    rw [← hvq] at hst
    simp only [RK.w,RK.b,RK.p_few] at hst
    have hlx:Lx G3 G4:=hx4.2 a0k (by decide) (by decide) (by decide)
    simp [g9,gc,qc,hst]
    refine Rnd.mk ?_ ?_ ?_
    ·simp [gc]
    ·simp [gw]
    refine ⟨by simp [g0],by simp [g1],by simp [g2],by simp [g6],by simp [g7],by simp [g39],by simp [gi],by simp [gn],by simp [g9],by simp [g10],hx.trans (hx3.frm.trans hx4),(f6.mono hx3).lx hlx,(f10.mono hx3).lx hlx,_,hG4,hS'.set hqL,fun r c' h1 h2=>?_⟩
    rw [z0G hS' hqL hcq,hT r c' h1 h2]
    unfold pvu
    by_cases hrc:r=q∧c' = c
    ·obtain ⟨rfl,rfl⟩:=hrc
     rw [h1F ⟨rfl,rfl⟩,h1F (by omega)]
     unfold pvt;rw [h1C hqi]
    ·rw [h1C hrc]
     by_cases hlt:r < q ∨ r=q∧c' < c
     ·rw [h1F hlt,h1F (by omega)]
     ·rw [h1C hlt,h1C (by omega)]
   ·rintro ρ G gc gw ⟨g0,g1,g2,g6,g7,g39,gi,gn,g9,g10,hx,f6,f10,L',hG,hS',hT⟩
    simp
    refine Rnd.mk gi gn ⟨g0,g1,g2,g6,g7,g39,hx,f6,L',hG,hS',fun r c h1 h2=>?_⟩
    rw [hT r c h1 h2,hW];exact B0H h2
 ·clear h0 ρ hG hx f6 e6 eh hi1 ij hbk hpl hsl
  rintro ρ G gi gn ⟨g0,g1,g2,g6,g7,g39,hx,f6,L',hG,hS',hT⟩
  obtain ⟨rfl,fz⟩:=f6
  have hbk:=hG.blk
  rw [h0S] at hbk
  have hpl:=a0l hbk
  have hib:i < bs.length:=by omega
  have ib:=(hG.base hib).2
  have hiL':i < L'.length:=by rw [hS'.len];omega
  simp [x0k,g0,g1,g2,g6,hbk,hlow,hpl,ib]
  generalize hS1:Array.setIfInBounds G p _=G1
  have t1:∀ {e:Nat},a0d ≠ e→LxT e G G1:=fun hne=>b0m hS1 hbk hne
  obtain ⟨G2,hst,ho,hxb⟩:=b0e.store (Q:=PK) (x:=j) (w:=.int .i64 (j:Int)) (hG.basis.lxm (Q':=PK) (t1 (by decide)) (fun _ _ h=>h)) hib (by decide) rfl rfl (fun _ _ _=>rfl) (by decide) (fun _ _ _ _ _ h=>h)
  have hob:=hG.basis.lxm (Q':=PK) (G':=G1) (t1 (by decide)) (fun _ _ h=>h)
  have tb:∀ {e:Nat},g0x ≠ e→LxT e G1 G2:=fun hne=>hob.lxT hne hxb
  simp [hst]
  refine ⟨⟨L',⟨sD,⟨?_,hlow,fz,?_,?_,ho⟩⟩,⟨hS'.len,hS'.row,by simp [hS'.base]⟩,fun r c h1 h2=>?_⟩,hx.trans ⟨h1R (by rw [← hS1];simp) hxb.1,fun e h1 h2 h3 b ro cs hb=>tb (j1q h3) b ro cs (t1 (j1q h1) b ro cs hb)⟩⟩
  ·have hw:=a0s hS1 hbk
   exact tb (by decide) _ _ _ (by rw [h0S];simpa using hw)
  ·exact (hG.heads.lxm (Q':=PV) (t1 (by decide)) (fun _ _ h=>h)).lxm (tb (by decide)) (fun _ _ h=>h)
  ·exact ⟨hG.rows.len,fun r hr=>((hG.rows.own r hr).lxm (Q':=PF) (t1 (by decide)) (fun cs x hx=>X0x.lx _ _ _ _ (t1 (by decide)) hx)).lxm (tb (by decide)) (fun cs x hx=>X0x.lx _ _ _ _ (tb (by decide)) hx),hG.rows.apart⟩
  ·rw [hT r c h1 h2];unfold pvu;rw [h1F (by omega)]
theorem b0e.adr_blk {α:Type} {P:a0f→List Value→α→Prop} {e sz j:Nat} {v:Value} {l:List α} (h:b0e P fl G e sz v l) (hj:j < l.length):∃ b,AI.blkOf (adr sz v j)=[b]∧b < G.size∧slB v=some b:=by
 obtain ⟨cs',⟨hl',⟨rfl,h0⟩ | ⟨b',cap,rfl,hp,hf⟩⟩,h2⟩:=h
 ·omega
 ·exact ⟨b',rfl,a0l hp,rfl⟩
def Bx (G:a0f) (q:Nat) (z:Int):Prop:=∃ s,a0f.blk G q=.row false a0a [.bool (a0j z).1,s]∧Lim G s (a0j z).2
theorem Bx.mono {G':a0f} {q:Nat} {z:Int} (h:Bx G q z) (hx:Ext G G'):Bx G' q z:=by obtain ⟨s,h1,h2⟩:=h;exact ⟨s,hx.blk h1,h2.mono hx⟩
theorem Bx.off {G':a0f} {q:Nat} {z:Int} {o:Option Nat} (h:Bx G q z) (hx:e0p o G G') (hl:Lx G G') (ho:o ≠ some q):Bx G' q z:=by
 obtain ⟨s,h1,h2⟩:=h;exact ⟨s,(hx.2 q (a0l h1) ho).trans h1,h2.lx hl⟩
theorem n0F {p n m i j:Nat} {L:List (List Int)} {k D:Int} {bs:List Nat} {sR sD sB:Value} {vs:List Value} (h:e0M .all fl H p n m L D bs k sR sD sB vs) (hf:fl≤H.size) (hS:ShT n m L bs) (hz:∀ r c,lz (Tf L r c) < 67108864) (hD:lz D < 67108864) (hD0:D ≠ 0) (hi:i < m) (hj:j < 2 * n + m) (hm:m < 1048576) (hn:n < 1048576) (hR:q0u .all R) :
  a0S env fl t0z [.pointer (some ⟨p,0,none⟩),.int .i64 (i:Int),.int .i64 (j:Int)] H (fun _ H'=>((∃ L' sD',e0M .all fl H' p n m L' (Tf L i j) (bs.set i j) (IntKind.i64.wrap (k + 1)) sR sD' sB vs∧ShT n m L' (bs.set i j)∧∀ r c,r < m + 2→c < 2 * n + m + 1→Tf L' r c=pvt (Tf L) i j D r c)∧Frm a0c a0a H H')∧f0L fl H H') R:=by
 refine p0B e1x hf (h:=?_)
 intro ρ h0
 have hL:=hS.len
 have hr:=hS.row
 have hb:=hS.base
 have hiL:i < L.length:=by omega
 have hjL:j < L[i].length:=by rw [hr i hiL];omega
 have hbk:=h.blk
 rw [g0n] at hbk
 have hpl:=a0l hbk
 have hlow:=h.low
 simp [M0P,F0Z,h0,hbk,hlow,hpl]
 generalize hS1:Array.setIfInBounds H p _=G1
 have t1:∀ {e:Nat},a0c ≠ e→LxT e H G1:=fun hne=>b0m hS1 hbk hne
 have hG:e0M .all fl G1 p n m L D bs (IntKind.i64.wrap (k + 1)) sR sD sB vs:=⟨a0s hS1 hbk,hlow,h.d.lx (t1 (by decide)),h.heads.lxm (t1 (by decide)) (fun _ _ h=>h),⟨h.rows.len,fun r hr=>(h.rows.own r hr).lxm (t1 (by decide)) (fun cs x hx=>X0w.lx _ _ _ _ (t1 (by decide)) hx),h.rows.apart⟩,h.basis.lxm (t1 (by decide)) (fun _ _ h=>h)⟩
 have hx:Frm a0c a0a H G1:=⟨by rw [← hS1];simp,fun e he _ _=>t1 (j1q he)⟩
 clear hS1 t1
 obtain ⟨w6,e6,f6⟩:=hG.num hiL hjL
 have eh:=hG.head hiL
 have hi1:=hG.hia hiL
 have ij:=hG.ia hiL hjL
 have hbk:=hG.blk
 rw [g0n] at hbk
 obtain ⟨vi,hvi1⟩:∃ x,x=vs[i]'(by have:=h.rows.len;omega):=⟨_,rfl⟩
 rw [← hvi1] at eh ij e6
 simp only [RK.w,RK.b,RK.p_all] at ij e6
 obtain ⟨bR,hbR,hbRl,_⟩:=(hG.heads).adr_blk (j:=i) (by have:=h.rows.len;omega)
 obtain ⟨s6,rfl,k6⟩:=f6
 have hfl:fl≤G1.size:=h1R hf hx.1
 have hpl1:=a0l hbk
 refine e0y ?_
 simp [G0a,h0,hbk,hi1,eh,ij,e6,k6.cells,k6.plain,hfl]
 generalize hN:Array.setIfInBounds (Array.push _ _) _ _=G2
 obtain ⟨hx2,b6⟩:=new1 hN
 clear hN
 have P6l:∀ r (hr:r < vs.length),slB vs[r] ≠ some G1.size:=fun r hr' h5=>by
  have:=((hG.rows.own r (by have:=hG.rows.len;omega)).ge h5).2
  omega
 generalize hP6:Array.size G1=P6 at *
 have hne1:p ≠ P6:=by omega
 have hne2:bR ≠ P6:=by omega
 replace hG:=hG.mono hx2
 replace hx:=hx.trans hx2.frm
 replace k6:=k6.mono hx2
 replace hbk:=hG.blk
 rw [g0n] at hbk
 simp [hbR,hne1,hne2,j1q hne1,j1q hne2]
 have hsl:=hG.heads.sls.slen
 rw [hG.rows.len] at hsl
 simp [G0b,h0,hbk,hsl]
 refine d0Q (n:=L.length) (fun k' ρ G=>ρ 0=.pointer (some ⟨p,0,none⟩)∧ρ 1=.int .i64 (i:Int)∧ρ 2=.int .i64 (j:Int)∧ρ 6=.pointer (some ⟨P6,0,none⟩)∧ρ 7=vi∧ρ 39=sR∧Frm a0c a0a H G∧Bx G P6 (Tf L i j) ∧
   ∃ L',e0M .all fl G p n m L' D bs (IntKind.i64.wrap (k + 1)) sR sD sB vs∧ShT n m L' bs∧∀ r c,r < m + 2→c < 2 * n + m + 1→Tf L' r c=pvu (Tf L) i j D k' 0 r c) rfl rfl (by decide) (by omega) (by simp) (by simp) ?_ ?_ ?_ ?_
 ·exact ⟨by simp [h0],by simp [h0],by simp [h0],by simp,by simp,by simp,hx,⟨s6,b6,k6⟩,L,hG,hS,fun r c _ _=>by unfold pvu;rw [h1C (by omega)]⟩
 ·intro i ρ ρ' G h hI;simpa [h] using hI
 ·clear h0 ρ hG hx k6 b6 e6 eh hi1 ij hbk hpl hsl hx2 hpl1
  rintro q ρ G hq gi gn ⟨g0,g1,g2,g6,g7,g39,hx,f6,L',hG,hS',hT⟩
  obtain ⟨vq,hvq⟩:∃ x,x=vs[q]'(by have:=h.rows.len;clear hG;omega):=⟨_,rfl⟩
  have hqL:q < L'.length:=by rw [hS'.len];omega
  have eq:=hG.head hqL
  have hq1:=hG.hia hqL
  rw [← hvq] at eq
  simp [G0c,gi,g39,hq1,eq]
  by_cases hqi:q=i
  ·subst hqi
   simp [u0C,g1]
   refine Rnd.mk (by simp [gi]) (by simp [gn]) ⟨by simp [g0],by simp [g1],by simp [g2],by simp [g6],by simp [g7],by simp [g39],hx,f6,L',hG,hS',fun r c h1 h2=>?_⟩
   rw [hT r c h1 h2]
   unfold pvu
   by_cases hrq:r=q
   ·subst hrq;rw [h1C (by omega),h1F (by omega)];unfold pvt;rw [h1F rfl]
   ·by_cases hlt:r < q
    ·rw [h1F (.inl hlt),h1F (by omega)]
    ·rw [h1C (by omega),h1C (by omega)]
  ·have hqi':¬ ((q:Int)=(i:Int)):=by omega
   have hjq:j < L'[q].length:=by rw [hS'.row q hqL];omega
   obtain ⟨w10,e10,f10⟩:=hG.num hqL hjq
   have qj:=hG.ia hqL hjq
   have hsq:=(hG.rows.own q hqL).slen
   rw [hS'.row q hqL] at hsq
   rw [← hvq] at qj e10 hsq
   simp only [RK.w,RK.b,RK.p_all] at qj e10
   have hb10:Tf L' q j=Tf L q j:=by rw [hT q j (by omega) (by omega)];unfold pvu;rw [h1C (by omega)]
   rw [hb10] at f10
   obtain ⟨s10,rfl,k10⟩:=f10
   have hfl2:fl≤G.size:=h1R hf hx.1
   simp [u0C,g1,hqi,hqi',G0d,g2,qj,e10,k10.cells,k10.plain,hfl2]
   generalize hN:Array.setIfInBounds (Array.push _ _) _ _=G2
   obtain ⟨hx2,b10⟩:=new1 hN
   clear hN
   have P10l:∀ r (hr:r < vs.length),slB vs[r] ≠ some G.size:=fun r hr' h5=>by
    have:=((hG.rows.own r (by have:=hG.rows.len;omega)).ge h5).2
    omega
   generalize hP10:Array.size G=P10 at *
   replace hG:=hG.mono hx2
   replace hx:=hx.trans hx2.frm
   replace f6:=f6.mono hx2
   replace k10:=k10.mono hx2
   have f10:Bx G2 P10 (Tf L q j):=⟨s10,b10,k10⟩
   simp [G0e,hsq]
   obtain ⟨W,hW⟩:∃ W,W=2 * n + m + 1:=⟨_,rfl⟩
   have hWi:(2 * (n:Int) + m + 1)=(W:Int):=by omega
   refine r0q (n:=W) (fun c ρ G=>ρ 0=.pointer (some ⟨p,0,none⟩)∧ρ 1=.int .i64 (i:Int)∧ρ 2=.int .i64 (j:Int)∧ρ 6=.pointer (some ⟨P6,0,none⟩)∧ρ 7=vi∧ρ 39=sR∧ρ 41=.int .i64 (q:Int)∧ρ 40=.int .i64 (L.length:Int)∧ρ 9=vq∧ρ 10=.pointer (some ⟨P10,0,none⟩)∧Frm a0c a0a H G∧Bx G P6 (Tf L i j)∧Bx G P10 (Tf L q j) ∧
     ∃ L',e0M .all fl G p n m L' D bs (IntKind.i64.wrap (k + 1)) sR sD sB vs∧ShT n m L' bs∧∀ r c',r < m + 2→c' < 2 * n + m + 1→Tf L' r c' = pvu (Tf L) i j D q c r c') rfl rfl (by decide) (by omega) (by simp) (by simp [hWi]) ?_ ?_ ?_ ?_
   ·exact ⟨by simp [g0],by simp [g1],by simp [g2],by simp [g6],by simp [g7],by simp [g39],by simp [gi],by simp [gn],by simp,by simp,hx,f6,f10,L',hG,hS',hT⟩
   ·intro i ρ ρ' G h hI;simpa [h] using hI
   ·clear g0 g1 g2 g6 g7 g39 gi gn hx f6 f10 hG hS' hT e10 eq hq1 qj hsq hb10 hqL hjq k10 b10 hx2 hfl2 hP10 L' ρ G
    rintro c ρ G hc gc gw ⟨g0,g1,g2,g6,g7,g39,gi,gn,g9,g10,hx,f6,f10,L',hG,hS',hT⟩
    have hqL:q < L'.length:=by rw [hS'.len];omega
    have hiL':i < L'.length:=by rw [hS'.len];omega
    have hcq:c < L'[q].length:=by rw [hS'.row q hqL];omega
    have hci:c < L'[i].length:=by rw [hS'.row i hiL'];omega
    obtain ⟨wq,eq,fq⟩:=hG.num hqL hcq
    obtain ⟨wi,ei,fi⟩:=hG.num hiL' hci
    have qc:=hG.ia hqL hcq
    have ic:=hG.ia hiL' hci
    have tq:Tf L' q c=Tf L q c:=by rw [hT q c (by omega) (by omega)];unfold pvu;rw [h1C (by omega)]
    have ti:Tf L' i c=Tf L i c:=by
     rw [hT i c (by omega) (by omega)];unfold pvu;split
     ·unfold pvt;rw [h1F rfl]
     ·rfl
    rw [tq] at fq
    rw [ti] at fi
    have qc':=qc
    rw [← hvq] at qc eq
    rw [← hvi1] at ic ei
    simp only [RK.w,RK.b,RK.p_all] at qc ic eq ei
    have hbk:=hG.blk
    rw [g0n] at hbk
    have dv:=hG.dv
    obtain ⟨s6,b6,k6⟩:=id f6
    obtain ⟨s10,b10,k10⟩:=id f10
    have v6:rV .all G (.agg #[.bool (a0j (Tf L i j)).1,s6]) (Tf L i j):=⟨s6,rfl,k6⟩
    have v10:rV .all G (.agg #[.bool (a0j (Tf L q j)).1,s10]) (Tf L q j):=⟨s10,rfl,k10⟩
    simp [G0f,gc]
    refine l0P ?_
    simp [x0b,g0,g6,g7,g9,g10,gc,hbk,qc,ic,eq,ei,b6,b10]
    have hxs:=hx.1
    have hq1:=fun (R':a0G) (hR':q0u .all R')=>N0E (fl:=fl) (R:=R') fq v6 v10 fi dv (by omega) (hz _ _) (hz _ _) (hz _ _) (hz _ _) hD hD0 hR'
    refine a0S.mono (hq1 _ trivial) ?_
    clear hq1
    rintro ws G3 ⟨fs,hx3⟩
    obtain ⟨G4,hst,hG4,hx4,hxb4⟩:=(hG.mono hx3).store (x:=(Tf L q c * Tf L i j - Tf L q j * Tf L i c).tdiv D) hqL hcq fs
    rw [← hvq] at hst hxb4
    simp only [RK.w,RK.b,RK.p_all] at hst
    have hvq6:slB vq ≠ some P6:=by rw [hvq];exact P6l q (by have:=h.rows.len;omega)
    have hvq10:slB vq ≠ some P10:=by rw [hvq];exact P10l q (by have:=h.rows.len;omega)
    have hlx:Lx G3 G4:=hx4.2 a0k (by decide) (by decide) (by decide)
    simp [g9,gc,qc,hst]
    refine Rnd.mk ?_ ?_ ?_
    ·simp [gc]
    ·simp [gw]
    refine ⟨by simp [g0],by simp [g1],by simp [g2],by simp [g6],by simp [g7],by simp [g39],by simp [gi],by simp [gn],by simp [g9],by simp [g10],hx.trans (hx3.frm.trans hx4),(f6.mono hx3).off hxb4 hlx hvq6,(f10.mono hx3).off hxb4 hlx hvq10,_,hG4,hS'.set hqL,fun r c' h1 h2=>?_⟩
    rw [z0G hS' hqL hcq,hT r c' h1 h2]
    unfold pvu
    by_cases hrc:r=q∧c' = c
    ·obtain ⟨rfl,rfl⟩:=hrc
     rw [h1F ⟨rfl,rfl⟩,h1F (by omega)]
     unfold pvt;rw [h1C hqi]
    ·rw [h1C hrc]
     by_cases hlt:r < q ∨ r=q∧c' < c
     ·rw [h1F hlt,h1F (by omega)]
     ·rw [h1C hlt,h1C (by omega)]
   ·rintro ρ G gc gw ⟨g0,g1,g2,g6,g7,g39,gi,gn,g9,g10,hx,f6,f10,L',hG,hS',hT⟩
    simp
    refine Rnd.mk gi gn ⟨g0,g1,g2,g6,g7,g39,hx,f6,L',hG,hS',fun r c h1 h2=>?_⟩
    rw [hT r c h1 h2,hW];exact B0H h2
 ·clear h0 ρ hG hx k6 b6 e6 eh hi1 ij hbk hpl hsl hx2 hpl1
  rintro ρ G gi gn ⟨g0,g1,g2,g6,g7,g39,hx,f6,L',hG,hS',hT⟩
  obtain ⟨s6,b6,k6⟩:=f6
  have hbk:=hG.blk
  rw [g0n] at hbk
  have hpl:=a0l hbk
  have hib:i < bs.length:=by omega
  have ib:=(hG.base hib).2
  have hiL':i < L'.length:=by rw [hS'.len];omega
  refine a0B ?_
  simp [x0c,g0,g1,g2,g6,hbk,hlow,hpl,ib,b6,k6.cells,k6.plain]
  generalize hS1:Array.setIfInBounds G p _=G1
  have t1:∀ {e:Nat},a0c ≠ e→LxT e G G1:=fun hne=>b0m hS1 hbk hne
  obtain ⟨G2,hst,ho,hxb⟩:=b0e.store (Q:=PK) (x:=j) (w:=.int .i64 (j:Int)) (hG.basis.lxm (Q':=PK) (t1 (by decide)) (fun _ _ h=>h)) hib (by decide) rfl rfl (fun _ _ _=>rfl) (by decide) (fun _ _ _ _ _ h=>h)
  have hob:=hG.basis.lxm (Q':=PK) (G':=G1) (t1 (by decide)) (fun _ _ h=>h)
  have tb:∀ {e:Nat},g0x ≠ e→LxT e G1 G2:=fun hne=>hob.lxT hne hxb
  simp [hst]
  refine ⟨⟨L',⟨s6,⟨?_,hlow,(k6.lx (t1 (by decide))).lx (tb (by decide)),?_,?_,ho⟩⟩,⟨hS'.len,hS'.row,by simp [hS'.base]⟩,fun r c h1 h2=>?_⟩,hx.trans ⟨h1R (by rw [← hS1];simp) hxb.1,fun e h1 h2 h3 b ro cs hb=>tb (j1q h3) b ro cs (t1 (j1q h1) b ro cs hb)⟩⟩
  ·have hw:=a0s hS1 hbk
   exact tb (by decide) _ _ _ (by rw [g0n];simpa using hw)
  ·exact (hG.heads.lxm (Q':=PV) (t1 (by decide)) (fun _ _ h=>h)).lxm (tb (by decide)) (fun _ _ h=>h)
  ·exact ⟨hG.rows.len,fun r hr=>((hG.rows.own r hr).lxm (Q':=PI) (t1 (by decide)) (fun cs x hx=>X0w.lx _ _ _ _ (t1 (by decide)) hx)).lxm (tb (by decide)) (fun cs x hx=>X0w.lx _ _ _ _ (tb (by decide)) hx),hG.rows.apart⟩
  ·rw [hT r c h1 h2];unfold pvu;rw [h1F (by omega)]
theorem k0w {F:RK} {p n m i j:Nat} {L:List (List Int)} {k D:Int} {bs:List Nat} {sR sD sB:Value} {vs:List Value} (h:e0M F fl H p n m L D bs k sR sD sB vs) (hf:fl≤H.size) (hS:ShT n m L bs) (hz:∀ r c,lz (Tf L r c) < 67108864) (hD:lz D < 67108864) (hD0:D ≠ 0) (hi:i < m) (hj:j < 2 * n + m) (hm:m < 1048576) (hn:n < 1048576) (hR:q0u F R) :
  a0S env fl (F.p t0A t0z) [.pointer (some ⟨p,0,none⟩),.int .i64 (i:Int),.int .i64 (j:Int)] H (fun _ H'=>((∃ L' sD',e0M F fl H' p n m L' (Tf L i j) (bs.set i j) (IntKind.i64.wrap (k + 1)) sR sD' sB vs∧ShT n m L' (bs.set i j)∧∀ r c,r < m + 2→c < 2 * n + m + 1→Tf L' r c=pvt (Tf L) i j D r c)∧Frm F.T F.E H H')∧f0L fl H H') R:=by
 cases F
 ·exact n0Q h hf hS hz hD hD0 hi hj hm hn hR
 ·exact n0F h hf hS hz hD hD0 hi hj hm hn hR
end
section
open Go SX
set_option maxHeartbeats 4000000
variable {fl:Nat} {H G:a0f} {R:a0G} {v w u:Value} {F:RK}
theorem U0x {c:SCode} {i:Nat} {t:b0b} {Q:d0X} (I:Nat→b0b→a0f→Prop) (M:b0b→a0f→Prop) (k:Nat) (hI:I k t H)
  (step:∀ k t H,I k t H→W env fl c t H (n0U i (fun t' H'=>∃ k',k' < k∧I k' t' H') M Q) R)
  (rest:∀ t H,M t H→Q .normal t H):W env fl (.loop c) t H (e0P i Q) R:=by
 rw [← h0V (Q:=Q)]
 refine b0Y (Z:=fun t H=>Q .normal t H) (Q:=Q) I M k hI step rest
theorem N0Y {m C:Nat} {A T:Nat→Nat→Int} {neg:Nat→Prop} {base:Nat→Nat} {d:Int} (h:Tab m C A neg T base d) {i j r c:Nat} (hi:i < m) (hj:j≤C) (hp:T i j ≠ 0) (hr:r < m + 2) (hc:c≤C):pvt T i j d r c=pv T i j d r c:=by
 unfold pvt
 by_cases hri:r=i
 ·rw [h1F hri];unfold pv;rw [h1F hri]
 ·rw [h1C hri,h.exact hi hj hp hr hc hri,Int.mul_tdiv_cancel_left _ (by have:=h.pos;omega)]
theorem z0M {bs:List Nat} {i j k:Nat} (hi:i < bs.length):bf (bs.set i j) k=if k=i then j else bf bs k:=by
 unfold bf
 simp only [h1z,i1m]
 by_cases h:i=k
 ·subst h;simp [hi]
 ·rw [h1C h,h1C (fun h2=>h h2.symm)]
theorem X0N {n m r c:Nat} {L:List (List Int)} {bs:List Nat} (h:ShT n m L bs) (ho:¬ (r < m + 2∧c≤2 * n + m)):Tf L r c=0:=by
 unfold Tf
 by_cases hr:r < L.length
 ·have:=h.row r hr
  have:=h.len
  rw [h1z,h1z,h1E hr,i1k,h1M (by omega)];rfl
 ·have e:L.getD r []=[]:=by rw [h1z,h1M (by omega)];rfl
  rw [e];rfl
theorem V0s {n m:Nat} {L:List (List Int)} {bs:List Nat} (h:ShT n m L bs) (hb:∀ r c,r < m + 2→c≤2 * n + m→lz (Tf L r c) < 67108864) (r c:Nat):lz (Tf L r c) < 67108864:=by
 by_cases ho:r < m + 2∧c≤2 * n + m
 ·exact hb r c ho.1 ho.2
 ·rw [X0N h ho,d0C];decide
def Zr (m C:Nat) (T:Nat→Nat→Int) (base:Nat→Nat):Prop:=∀ i,i < m→¬ base i < C→∀ c,c≤C→T i c=0
theorem Zr.pivot {m C:Nat} {A T T':Nat→Nat→Int} {base base':Nat→Nat} {d:Int} {i j:Nat} (h:Zr m C T base) (hi:i < m) (hj:j < C) (hT:∀ k c,k < m + 2→c≤C→T' k c=pv T i j d k c) (hb:∀ k,k < m→base' k=if k=i then j else base k):Zr m C T' base':=by
 intro r hr hbr c hc
 have h1:=hb r hr
 by_cases hri:r=i
 ·rw [h1F hri] at h1;omega
 ·rw [h1C hri] at h1
  rw [hT r c (by omega) hc]
  exact B0F (C:=C) (fun c hc=>h r hr (by omega) c hc) hri hc (by omega)
def Bnd (m C:Nat) (A:Nat→Nat→Int) (neg:Nat→Prop):Prop:=∀ T base d,Tab m C A neg T base d→(∀ r c,r < m + 2→c≤C→lz (T r c) < 67108864)∧lz d < 67108864
def f1s (F:RK) (fl p n m g:Nat) (L:List (List Int)) (bs:List Nat) (sR sB:Value) (vs:List Value) (A:Nat→Nat→Int) (neg:Nat→Prop) (H:a0f) (z:Int) (H':a0f):Prop :=
 ∃ L' D' bs' k' sD',e0M F fl H' p n m L' D' bs' k' sR sD' sB vs∧ShT n m L' bs'∧Tab m (2 * n + m) A neg (Tf L') (bf bs') D'∧(Zr m (2 * n + m) (Tf L) (bf bs)→Zr m (2 * n + m) (Tf L') (bf bs'))∧Frm F.T F.E H H' ∧
   ((z = -1∧∀ c,c < 2 * n + m→0≤Tf L' g c) ∨ (∃ j:Nat,z=j∧j < 2 * n + m∧Tf L' g j < 0∧∀ i,i < m→Tf L' i j≤0))
def f1r (F:RK) (fl p n m g:Nat) (L:List (List Int)) (bs:List Nat) (sR sB:Value) (vs:List Value) (A:Nat→Nat→Int) (neg:Nat→Prop) (H:a0f) (c:Nat) (t:b0b) (G:a0f):Prop :=
 ∃ N ρ L' D' bs' k' sD',t=T 50 ρ∧N + c=((2 * n + m) + m) ^ m∧ρ 0=.pointer (some ⟨p,0,none⟩)∧ρ 1=.int .i64 (g:Int)∧Frm F.T F.E H G∧e0M F fl G p n m L' D' bs' k' sR sD' sB vs∧ShT n m L' bs'∧SX.Reach m (2 * n + m) g A neg N (Tf L') (bf bs') D'∧(Zr m (2 * n + m) (Tf L) (bf bs)→Zr m (2 * n + m) (Tf L') (bf bs'))
theorem x0D {p n m g:Nat} {L:List (List Int)} {k D:Int} {bs:List Nat} {sR sD sB:Value} {vs:List Value} {A:Nat→Nat→Int} {neg:Nat→Prop} (h:e0M F fl H p n m L D bs k sR sD sB vs) (hf:fl≤H.size) (hS:ShT n m L bs) (hT:Tab m (2 * n + m) A neg (Tf L) (bf bs) D) (hBd:Bnd m (2 * n + m) A neg) (hg:g=m ∨ g=m + 1) (hm:m < 1048576) (hn:n < 1048576) (hR:q0u F R) :
  a0S env fl (v0W F) [.pointer (some ⟨p,0,none⟩),.int .i64 (g:Int)] H (fun r H'=>(∃ z,r=.int .i64 z∧f1s F fl p n m g L bs sR sB vs A neg H z H')∧f0L fl H H') R:=by
 refine p0B Y0w hf (h:=?_)
 intro ρ h0
 simp [p0i,w0u,h0]
 refine U0x (f1r F fl p n m g L bs sR sB vs A neg H)
  (fun _ _=>False) (((2 * n + m) + m) ^ m) ⟨0,_,L,D,bs,k,sD,rfl,by omega,by simp [h0],by simp [h0],Frm.refl,h,hS,SX.Reach.zero hT,id⟩ ?_ (fun _ _ h=>h1Y h id)
 clear h0 ρ
 rintro c _ G0 ⟨N,ρ,L',D',bs',k',sD',rfl,hN,g0,g1,hx,hG,hS',hre,hZ⟩
 have hTab:=hre.tab
 have hshort:=hre.short hg
 have hz:=V0s hS' (hBd _ _ _ hTab).1
 have hlD:=(hBd _ _ _ hTab).2
 simp [w0v]
 refine b0Y (fun c t G=>∃ q ρ,t=T 50 ρ∧q + c=2 * n + m∧ρ 0=.pointer (some ⟨p,0,none⟩)∧ρ 1=.int .i64 (g:Int)∧ρ 5=.int .i64 (q:Int)∧Ext G0 G∧∀ c',c' < q→0≤Tf L' g c')
  (fun t G=>∃ (q:Nat) (ρ:Nat→Value),t=T 50 ρ∧q≤2 * n + m∧ρ 0=.pointer (some ⟨p,0,none⟩)∧ρ 1=.int .i64 (g:Int)∧ρ 5=.int .i64 (q:Int)∧Ext G0 G∧(∀ c',c' < q→0≤Tf L' g c')∧(q < 2 * n + m→Tf L' g q < 0)) (2 * n + m) ⟨0,_,rfl,by omega,by simp [g0],by simp [g1],by simp,Ext.refl G0,fun c' h=>by omega⟩ ?_ ?_
 ·clear g0 g1 ρ
  rintro c _ G ⟨q,ρ,rfl,hq,g0,g1,g5,hx0,hpre⟩
  have hG1:=hG.mono hx0
  have hgL:g < L'.length:=by rw [hS'.len];omega
  have hbk:=hG1.blk
  have hsz:fl≤G.size:=by have:=hx.1;have:=hx0.1;omega
  have e2:((2 * n + m:Nat):Int)=2 * (n:Int) + m:=by omega
  by_cases hqc:q < 2 * n + m
  ·have hqL:q < L'[g].length:=by rw [hS'.row g hgL];omega
   obtain ⟨w1,e1,f1⟩:=hG1.num hgL hqL
   have eh:=hG1.head hgL
   have hi1:=hG1.hia hgL
   have gq:=hG1.ia hgL hqL
   obtain ⟨vg,hvg⟩:∃ x,x=vs[g]'(by have:=hG.rows.len;omega):=⟨_,rfl⟩
   rw [← hvg] at eh gq e1
   have hqc':(q:Int) < 2 * (n:Int) + m:=by omega
   simp
   refine a0B ?_
   simp [q0r,g0,g1,g5,hbk,hi1,eh,gq,e1,hqc']
   refine (r0o f1 hsz (hz _ _)).mono ?_
   rintro _ G2 ⟨rfl,hx2⟩
   by_cases hs:0≤Tf L' g q
   ·have hc:0≤c0z (Tf L' g q) 0:=by unfold c0z;rw [h1C (by omega)];split <;> omega
    simp [hc,w0w,g5,b0a (show q < 4611686018427387904 by omega)]
    refine ⟨c - 1,by omega,q + 1,_,rfl,by omega,by simp [g0],by simp [g1],by simp,hx0.trans hx2,fun c' h=>?_⟩
    by_cases h2:c' = q
    ·rw [h2];exact hs
    ·exact hpre c' (by omega)
   ·have hc:¬ 0≤c0z (Tf L' g q) 0:=by unfold c0z;rw [h1F (by omega)];omega
    simp [hc]
    exact ⟨q,_,rfl,by omega,by simp [g0],by simp [g1],by simp [g5],hx0.trans hx2,hpre,fun _=>by omega⟩
  ·have hqc':¬ (q:Int) < 2 * (n:Int) + m:=by omega
   simp
   refine a0B ?_
   simp [q0r,g0,g1,g5,hbk,hqc']
   exact ⟨q,_,rfl,by omega,by simp [g0],by simp [g1],by simp [g5],hx0,hpre,fun h=>h1Y h hqc⟩
 ·clear g0 g1 ρ
  rintro _ G ⟨q,ρ,rfl,hq,g0,g1,g5,hx0,hpre,hneg⟩
  have hG1:=hG.mono hx0
  have hbk:=hG1.blk
  have hsz:fl≤G.size:=by have:=hx.1;have:=hx0.1;omega
  have e2:((2 * n + m:Nat):Int)=2 * (n:Int) + m:=by omega
  replace hx:=hx.trans hx0.frm
  by_cases hqc:q=2 * n + m
  ·have hqc':(q:Int)=2 * (n:Int) + m:=by omega
   simp [q0s,w0x,g0,g5,hbk,hqc']
   exact ⟨L',D',bs',k',sD',hG1,hS',hTab,hZ,hx,.inl ⟨rfl,fun c hc=>hpre c (by omega)⟩⟩
  ·have hqc':¬ (q:Int)=2 * (n:Int) + m:=by omega
   replace hneg:=hneg (by omega)
   simp [q0s,g0,g5,hbk,hqc',w0y]
   refine (t0F hG1 hsz hS' hz (show q < 2 * n + m by omega) hm).mono ?_
   rintro _ G2 ⟨⟨z,rfl,hz1⟩,hx2⟩
   have hG2:=hG1.mono hx2
   replace hx:=hx.trans hx2.frm
   rcases hz1 with ⟨rfl,hz1⟩ | ⟨o,rfl,ho,hB⟩
   ·simp [q0t,w0z,g5]
    exact ⟨L',D',bs',k',sD',hG2,hS',hTab,hZ,hx,.inr ⟨q,rfl,by omega,hneg,hz1⟩⟩
   ·have ho':¬ (o:Int) < 0:=by omega
    simp [q0t,w0A,g0,g5,ho']
    refine (k0w hG2 (by have:=hx.1;omega) hS' hz hlD (by have:=hTab.pos;omega) ho (show q < 2 * n + m by omega) hm hn hR).mono ?_
    rintro _ G3 ⟨⟨⟨L2,sD2,hG3,hS2,hT2⟩,hx3⟩,_⟩
    have hp:Tf L' o q ≠ 0:=by have:=hB.2.1;omega
    have hT3:∀ r c,r < m + 2→c≤2 * n + m→Tf L2 r c=pv (Tf L') o q D' r c:=fun r c h1 h2=>by
     rw [hT2 r c h1 (by omega)];exact N0Y hTab ho (by omega) hp h1 h2
    have hb3:∀ r,r < m→bf (bs'.set o q) r=if r=o then q else bf bs' r:=fun r hr=>z0M (by rw [hS'.base];exact ho)
    simp
    exact ⟨c - 1,by omega,N + 1,_,L2,_,_,_,sD2,rfl,by omega,by simp [g0],by simp [g1],hx.trans hx3,hG3,hS2,SX.Reach.step hg hre (by omega) hneg hpre hB hT3 hb3 rfl,fun hz0=>(hZ hz0).pivot (A:=A) ho (by omega) hT3 hb3⟩
theorem Z0E {T:Nat→Nat→Int} {i j r c:Nat} {d:Int} (hd:0 < d) (ex:r ≠ i→T r c * T i j - T r j * T i c=d * pv T i j d r c):pvt T i j d r c=pv T i j d r c:=by
 unfold pvt
 by_cases hri:r=i
 ·rw [h1F hri];unfold pv;rw [h1F hri]
 ·rw [h1C hri,ex hri,Int.mul_tdiv_cancel_left _ (by omega)]
theorem B0G {T T':Nat→Nat→Int} {i j r c:Nat} {d:Int} (h1:T r c=T' r c) (h2:T i j=T' i j) (h3:T r j=T' r j) (h4:T i c=T' i c):pvt T i j d r c=pvt T' i j d r c:=by
 unfold pvt;rw [h1,h2,h3,h4]
def Nr (m C i:Nat) (T:Nat→Nat→Int) (base:Nat→Nat):Prop:=(∀ r,r < m→¬ base r < C→T r C=0)∧∀ r,r < i→r < m→¬ base r < C→∀ c,c≤C→T r c=0
theorem Nr.step {m C i j:Nat} {T T1 T':Nat→Nat→Int} {base base':Nat→Nat} {d:Int} (h:Nr m C i T base) (hi:i < m) (hj:j < C) (h1:∀ r c,r ≠ i→r < m→c≤C→T1 r c=T r c) (h2:T1 i C=0)
  (hT:∀ k c,k < m + 2→c≤C→T' k c=pv T1 i j d k c) (hb:∀ k,k < m→base' k=if k=i then j else base k):Nr m C (i + 1) T' base':=by
 refine ⟨fun r hr hbr=>?_,fun r hri hr hbr c hc=>?_⟩
 ·have hb1:=hb r hr
  by_cases hre:r=i
  ·rw [h1F hre] at hb1;omega
  ·rw [h1C hre] at hb1
   rw [hT r C (by omega) (h1A _)]
   unfold pv
   rw [h1C hre,h1 r C hre hr (h1A _),h.1 r hr (by omega),h2];simp
 ·have hb1:=hb r hr
  by_cases hre:r=i
  ·rw [h1F hre] at hb1;omega
  ·rw [h1C hre] at hb1
   rw [hT r c (by omega) hc]
   exact B0F (C:=C) (fun c hc=>by rw [h1 r c hre hr hc];exact h.2 r (by omega) hr (by omega) c hc) hre hc (by omega)
theorem f1k {ρ:Nat→Value} {c:Nat} {vi w1:Value} {z:Int} {Q:b0b→a0f→Prop} (g59:ρ 59=vi) (gc:ρ 61=.int .i64 (c:Int)) (ic:iaV F.w vi (.int .i64 (c:Int))=some (adr F.w vi c)) (e1:b0x G F.b F.w (adr F.w vi c)=some w1) (f1:rV F G w1 z) (hf:fl≤G.size)
  (key:∀ ρ' G5,Ext G G5→kpV F G5 (ρ' 6)=some w1→ρ' 5=.int .i64 (c:Int)→(∀ k,k ∈ [0,2,3,10,11,30,59,60,61]→ρ' k=ρ k)→Q (T 89 ρ') G5):WR env fl (j0J F) (T 89 ρ) G Q R:=by
 cases F
 ·simp only [RK.w,RK.b,RK.p_few] at ic e1
  simp [j0J,g59,gc,ic,e1]
  exact key _ _ (Ext.refl _) (by simp [kpV]) (by simp) (by simp)
 ·simp only [RK.w,RK.b,RK.p_all] at ic e1
  obtain ⟨sx,rfl,kx⟩:=f1
  simp [j0J,g59,gc,ic,e1,kx.cells,kx.plain,hf]
  generalize hN:Array.setIfInBounds (Array.push _ _) _ _=G5
  obtain ⟨hx5,b5⟩:=new1 hN
  exact key _ _ hx5 (by simp [kpV,b5]) (by simp) (by simp)
def f1q (F:RK) (fl p n m:Nat) (sR sB:Value) (vs:List Value) (A:Nat→Nat→Int) (neg:Nat→Prop) (H H':a0f):Prop :=
 ∃ L' D' bs' k' sD',e0M F fl H' p n m L' D' bs' k' sR sD' sB vs∧ShT n m L' bs'∧Tab m (2 * n + m) A neg (Tf L') (bf bs') D'∧Frm F.T F.E H H'∧Zr m (2 * n + m) (Tf L') (bf bs')
def Z0I (F:RK) (fl p n m:Nat) (sR sB:Value) (vs:List Value) (A:Nat→Nat→Int) (neg:Nat→Prop) (H:a0f) (i:Nat) (ρ:Nat→Value) (G:a0f):Prop :=
 ρ 0=.pointer (some ⟨p,0,none⟩)∧∃ L' D' bs' k' sD',e0M F fl G p n m L' D' bs' k' sR sD' sB vs∧ShT n m L' bs'∧Tab m (2 * n + m) A neg (Tf L') (bf bs') D'∧Frm F.T F.E H G∧Nr m (2 * n + m) i (Tf L') (bf bs')
theorem L0u {p n m:Nat} {L:List (List Int)} {k D:Int} {bs:List Nat} {sR sD sB:Value} {vs:List Value} {A:Nat→Nat→Int} {neg:Nat→Prop} (h:e0M F fl H p n m L D bs k sR sD sB vs) (hf:fl≤H.size) (hS:ShT n m L bs) (hT:Tab m (2 * n + m) A neg (Tf L) (bf bs) D) (hBd:Bnd m (2 * n + m) A neg) (h00:∀ r,r < m→¬ bf bs r < 2 * n + m→Tf L r (2 * n + m)=0) (hm:m < 1048576) (hn:n < 1048576) (hR:q0u F R) :
  a0S env fl (A0b F) [.pointer (some ⟨p,0,none⟩)] H (fun _ H'=>f1q F fl p n m sR sB vs A neg H H'∧f0L fl H H') R:=by
 refine p0B Y0v hf (h:=?_)
 intro ρ h0
 have hbk:=h.blk
 simp [p0h,w0p,h0,hbk]
 refine r0q (n:=m) (Z0I F fl p n m sR sB vs A neg H) rfl rfl (by decide) (by omega) (by simp) (by simp) ?_ ?_ ?_ ?_
 ·exact ⟨by simp [h0],L,D,bs,k,sD,h,hS,hT,Frm.refl,h00,fun r hr=>by omega⟩
 ·intro i ρ ρ' G h hI;unfold Z0I at *;simpa [h] using hI
 ·clear h0 ρ hbk
  rintro i ρ G hi gi gn ⟨g0,L1,D1,bs1,k1,sD1,hG,hS1,hT1,hx,hN⟩
  have hib:i < bs1.length:=by rw [hS1.base];exact hi
  obtain ⟨lb,ib⟩:=hG.base hib
  have hbk:=hG.blk
  have e2:((2 * n + m:Nat):Int)=2 * (n:Int) + m:=by omega
  simp [w0q,gi]
  refine a0B ?_
  by_cases hreal:bf bs1 i < 2 * n + m
  ·have hreal':(bf bs1 i:Int) < 2 * (n:Int) + m:=by omega
   simp [q0p,g0,gi,hbk,ib,lb,hreal']
   refine Rnd.mk (by simp [gi]) (by simp [gn]) ⟨by simp [g0],L1,D1,bs1,k1,sD1,hG,hS1,hT1,hx,hN.1,fun r hr hrm hbr=>?_⟩
   by_cases hri:r=i
   ·subst hri;exact h1Y hreal hbr
   ·exact hN.2 r (by omega) hrm hbr
  have hreal':¬ (bf bs1 i:Int) < 2 * (n:Int) + m:=by omega
  have hC0:=hN.1 i hi hreal
  simp [q0p,g0,gi,hbk,ib,lb,hreal',w0r]
  refine r0q (n:=2 * n + m) (fun j ρ G'=>ρ 0=.pointer (some ⟨p,0,none⟩)∧ρ 2=.int .i64 (i:Int)∧ρ 11=.int .i64 (i:Int)∧ρ 10=.int .i64 (m:Int)∧Ext G G'∧∀ c,c < j→Tf L1 i c=0) rfl rfl (by decide) (by omega) (by simp) (by simp) ?_ ?_ ?_ ?_
  ·exact ⟨by simp [g0],by simp,by simp [gi],by simp [gn],Ext.refl G,fun c hc=>by omega⟩
  ·intro i ρ ρ' G h hI;simpa [h] using hI
  ·clear gi gn g0 hbk lb ib ρ
   rintro j ρ G0 hj gj gC ⟨g0,g2,gi,gn,hx0,hpre⟩
   replace hG:=hG.mono hx0
   replace hx:=hx.trans hx0.frm
   have hiL:i < L1.length:=by rw [hS1.len];omega
   have hjL:j < L1[i].length:=by rw [hS1.row i hiL];omega
   obtain ⟨w1,e1,f1⟩:=hG.num hiL hjL
   have e0:=hG.head hiL
   have hi1:=hG.hia hiL
   have ij:=hG.ia hiL hjL
   have hbk:=hG.blk
   obtain ⟨vi,hvi⟩:∃ x,x=vs[i]'(by have:=hG.rows.len;omega):=⟨_,rfl⟩
   rw [← hvi] at e0 ij e1
   have hz:=V0s hS1 (hBd _ _ _ hT1).1
   have hlD:=(hBd _ _ _ hT1).2
   simp [w0s,gj]
   refine a0B ?_
   simp [w0t,g0,g2,gj,hbk,hi1,e0,ij,e1]
   refine (r0o f1 (by have:=hx.1;omega) (hz _ _)).mono ?_
   rintro _ G2 ⟨rfl,hx2⟩
   replace hG:=hG.mono hx2
   replace hx:=hx.trans hx2.frm
   replace hx0:=hx0.trans hx2
   clear e1 f1 hbk
   rcases Int.lt_trichotomy (Tf L1 i j) 0 with hneg | h0 | hpos
   ·have hc:c0z (Tf L1 i j) 0 = -1:=by unfold c0z;rw [h1F hneg]
    have hbk:=hG.blk
    have e0:=hG.head hiL
    rw [← hvi] at e0
    have hsl:=(hG.rows.own i hiL).slen
    rw [hS1.row i hiL] at hsl
    rw [← hvi] at hsl
    obtain ⟨W,hW⟩:∃ W,W=2 * n + m + 1:=⟨_,rfl⟩
    rw [← hW] at hsl
    simp [hc,l0E,q0q,s0y,g0,g2,hbk,hi1,e0,hsl]
    refine d0Q (n:=W) (fun c ρ G'=>ρ 0=.pointer (some ⟨p,0,none⟩)∧ρ 2=.int .i64 (i:Int)∧ρ 3=.int .i64 (j:Int)∧ρ 11=.int .i64 (i:Int)∧ρ 10=.int .i64 (m:Int)∧ρ 59=vi∧Frm F.T F.E H G' ∧
      ∃ L2,e0M F fl G' p n m L2 D1 bs1 k1 sR sD1 sB vs∧ShT n m L2 bs1∧∀ r c',r < m + 2→c' < W→Tf L2 r c' = if r=i∧c' < c then -Tf L1 r c' else Tf L1 r c') rfl rfl (by decide) (by omega) (by simp) (by simp) ?_ ?_ ?_ ?_
    ·exact ⟨by simp [g0],by simp [g2],by simp [gj],by simp [gi],by simp [gn],by simp,hx,L1,hG,hS1,fun r c' _ _=>by rw [h1C (by omega)]⟩
    ·intro i ρ ρ' G h hI;simpa [h] using hI
    ·clear gi gn g0 g2 gj gC hx hx0 hx2 hbk hsl hi1 ij e0 hc
     rintro c ρ G hc gc gw ⟨g0,g2,g3,gi,gn,g59,hx,L2,hG,hS2,hT2⟩
     have hiL:i < L2.length:=by rw [hS2.len];omega
     have hcL:c < L2[i].length:=by rw [hS2.row i hiL];omega
     obtain ⟨w1,e1,f1⟩:=hG.num hiL hcL
     have e0:=hG.head hiL
     have hi1:=hG.hia hiL
     have ic:=hG.ia hiL hcL
     have hbk:=hG.blk
     have tc:Tf L2 i c=Tf L1 i c:=by rw [hT2 i c (by omega) hc,h1C (by omega)]
     rw [← hvi] at e0 ic e1
     have hfl:fl≤G.size:=by have:=hx.1;omega
     simp
     refine f1k g59 gc ic e1 f1 hfl ?_
     intro ρ' G5 hx5 k6 g5 hk
     simp only [List.forall_mem_cons] at hk
     obtain ⟨k0,k2,k3,k10,k11,k30,k59,k60,k61,-⟩:=hk
     rw [g0] at k0;rw [g2] at k2;rw [g3] at k3;rw [gn] at k10;rw [gi] at k11;rw [g59] at k59;rw [gw] at k60;rw [gc] at k61
     replace hG:=hG.mono hx5
     replace hx:=hx.trans hx5.frm
     replace f1:=f1.mono hx5
     replace hbk:=hG.blk
     replace e0:=hG.head hiL
     rw [← hvi] at e0
     clear e1 hfl
     refine a0B ?_
     simp [s0z,k0,k2,hbk,hi1,e0,ic,g5,k6]
     refine (K0u f1 (by have:=hx.1;omega) (by rw [tc];exact hz _ _)).mono ?_
     rintro wn G3 ⟨fn,hx3⟩
     rw [tc] at fn
     obtain ⟨G4,hst,hG4,hx4,_⟩:=(hG.mono hx3).store (x:=-Tf L1 i c) hiL hcL fn
     rw [← hvi] at hst
     simp [ic,hst]
     refine Rnd.mk (by simp [k61]) (by simp [k60]) ⟨by simp [k0],by simp [k2],by simp [k3],by simp [k11],by simp [k10],by simp [k59],hx.trans (hx3.frm.trans hx4),_,hG4,hS2.set hiL,fun r c' h1 h2=>?_⟩
     rw [z0G hS2 hiL hcL,hT2 r c' h1 h2]
     by_cases hrc:r=i∧c' = c
     ·obtain ⟨rfl,rfl⟩:=hrc
      rw [h1F ⟨rfl,rfl⟩,h1F ⟨rfl,by omega⟩]
     ·rw [h1C hrc]
      by_cases hlt:r=i∧c' < c
      ·rw [h1F hlt,h1F ⟨hlt.1,by omega⟩]
      ·rw [h1C hlt,h1C (by omega)]
    ·clear gi gn g0 g2 gj gC hx hx0 hx2 hbk hsl hi1 ij e0 hc
     rintro ρ G gc gw ⟨g0,g2,g3,gi,gn,g59,hx,L2,hG,hS2,hT2⟩
     have hng:∀ r c,r < m + 2→c≤2 * n + m→Tf L2 r c=ng (Tf L1) i r c:=fun r c h1 h2=>by
      rw [hT2 r c h1 (by omega)];unfold ng
      by_cases hri:r=i
      ·subst hri;rw [h1F ⟨rfl,by omega⟩,h1F rfl]
      ·rw [h1C (fun h=>hri h.1),h1C hri]
     have hz2:∀ r c,lz (Tf L2 r c) < 67108864:=V0s hS2 fun r c h1 h2=>by
      rw [hng r c h1 h2];unfold ng;split
      ·rw [h0c];exact hz _ _
      ·exact hz _ _
     obtain ⟨hsw,hex⟩:=hT1.swapN hi hj hneg hC0
     simp [m0M,g0,g2,g3]
     refine (k0w hG (by have:=hx.1;omega) hS2 hz2 hlD (by have:=hT1.pos;omega) hi hj hm hn hR).mono ?_
     rintro _ G3 ⟨⟨⟨L3,sD2,hG3,hS3,hT3⟩,hx3⟩,_⟩
     have hT4:∀ r c,r < m + 2→c≤2 * n + m→Tf L3 r c=pv (ng (Tf L1) i) i j D1 r c:=fun r c h1 h2=>by
      rw [hT3 r c h1 (by omega),B0G (hng r c h1 h2) (hng i j (by omega) (by omega)) (hng r j h1 (by omega)) (hng i c (by omega) h2)]
      exact Z0E hT1.pos (hex r c h1 h2)
     have hb3:∀ r,r < m→bf (bs1.set i j) r=if r=i then j else bf bs1 r:=fun r hr=>z0M hib
     have hd:Tf L2 i j = -Tf L1 i j:=by rw [hng i j (by omega) (by omega)];unfold ng;rw [h1F rfl]
     simp
     refine Rnd.mk (by simp [gi]) (by simp [gn]) ⟨by simp [g0],L3,_,_,_,sD2,hG3,hS3,hsw.congr hT4 (fun r hr=>hb3 r hr) hd,hx.trans hx3,hN.step hi hj (fun r c h1 _ _=>by unfold ng;rw [h1C h1]) (by unfold ng;rw [h1F rfl,hC0];rfl) hT4 hb3⟩
   ·have hc:c0z (Tf L1 i j) 0=0:=by rw [h0];rfl
    simp [hc,l0E]
    refine Rnd.mk (by simp [gj]) (by simp [gC]) ⟨by simp [g0],by simp [g2],by simp [gi],by simp [gn],hx0,fun c hc=>?_⟩
    by_cases hcj:c=j
    ·rw [hcj];exact h0
    ·exact hpre c (by omega)
   ·have hc:c0z (Tf L1 i j) 0=1:=by unfold c0z;rw [h1C (by omega),h1F (by omega)]
    simp [hc,l0E,q0q,m0M,g0,g2,gj]
    refine (k0w hG (by have:=hx.1;omega) hS1 hz hlD (by have:=hT1.pos;omega) hi hj hm hn hR).mono ?_
    rintro _ G3 ⟨⟨⟨L2,sD2,hG3,hS2,hT2⟩,hx3⟩,_⟩
    have hT3:∀ r c,r < m + 2→c≤2 * n + m→Tf L2 r c=pv (Tf L1) i j D1 r c:=fun r c h1 h2=>by
     rw [hT2 r c h1 (by omega)];exact N0Y hT1 hi (by omega) (by omega) h1 h2
    have hb3:∀ r,r < m→bf (bs1.set i j) r=if r=i then j else bf bs1 r:=fun r hr=>z0M hib
    simp
    refine Rnd.mk (by simp [gi]) (by simp [gn]) ⟨by simp [g0],L2,_,_,_,sD2,hG3,hS2,(hT1.swap hi hj hpos hC0).congr hT3 (fun r hr=>hb3 r hr) rfl,hx.trans hx3,hN.step hi hj (fun _ _ _ _ _=>rfl) hC0 hT3 hb3⟩
  ·rintro ρ G' gj gC ⟨g0,g2,gi,gn,hx0,hpre⟩
   simp
   refine Rnd.mk gi gn ⟨g0,L1,D1,bs1,k1,sD1,hG.mono hx0,hS1,hT1,hx.trans hx0.frm,hN.1,fun r hr hrm hbr c hc=>?_⟩
   by_cases hri:r=i
   ·subst hri
    by_cases hcC:c=2 * n + m
    ·rw [hcC];exact hC0
    ·exact hpre c (by omega)
   ·exact hN.2 r (by omega) hrm hbr c hc
 ·rintro ρ G gi gn ⟨g0,L1,D1,bs1,k1,sD1,hG,hS1,hT1,hx,hN⟩
  simp
  exact ⟨L1,D1,bs1,k1,sD1,hG,hS1,hT1,hx,fun r hr hbr c hc=>hN.2 r hr hr hbr c hc⟩
theorem l0z {o:Option Nat} {H0 G':a0f} (h:Ext H0 G) (hx:e0p o G G') (ho:∀ b,o=some b→H0.size≤b):Ext H0 G':=by
 refine ⟨h1R h.1 hx.1,fun b hb=>?_⟩
 rw [hx.2 b (h1W hb h.1) (fun he=>by have:=ho b he;omega)]
 exact h.2 b hb
theorem e0A.insert {eN sz fl2:Nat} {P:a0f→List Value→Int→Prop} {a b:List Value} {A B:List (List Int)} {x:Value} {X:List Int} (h:e0A eN sz P fl G (a ++ b) (A ++ B)) (hl:a.length=A.length)
  (hx:b0e P fl2 G eN sz x X) (hf:fl≤fl2) (hn:∀ w ∈ a ++ b,∀ k,slB w=some k→k < fl2):e0A eN sz P fl G (a ++ x :: b) (A ++ X :: B):=by
 have hlen:=h.len
 simp only [i1l] at hlen
 have key:∀ i (h1:i < (A ++ X :: B).length) (h2:i < (a ++ x :: b).length),(i=a.length∧(a ++ x :: b)[i]=x∧(A ++ X :: B)[i]=X) ∨
   ∃ j,∃ (j1:j < (A ++ B).length) (j2:j < (a ++ b).length),(a ++ x :: b)[i]=(a ++ b)[j]∧(A ++ X :: B)[i]=(A ++ B)[j]∧j=(if i < a.length then i else i - 1)∧i ≠ a.length:=by
  intro i h1 h2
  simp only [i1l,i1D] at h1 h2
  by_cases hi:i < a.length
  ·exact .inr ⟨i,by simp;omega,by simp;omega,by rw [i1L hi,i1L hi],by rw [i1L (by omega),i1L (by omega)],by rw [h1F hi],by omega⟩
  ·by_cases he:i=a.length
   ·subst he
    exact .inl ⟨rfl,by simp,by rw [i1h (by omega)];simp [hl]⟩
   ·obtain ⟨d,rfl⟩:∃ d,i=a.length + 1 + d:=⟨i - a.length - 1,by omega⟩
    refine .inr ⟨a.length + d,by simp;omega,by simp;omega,?_,?_,by rw [h1C hi];omega,he⟩
    ·rw [i1h (by omega),i1h (by omega)]
     simp only [show a.length + 1 + d - a.length=d + 1 by omega,j1V,show a.length + d - a.length=d by omega]
    ·rw [i1h (by omega),i1h (by omega)]
     simp only [show a.length + 1 + d - A.length=d + 1 by omega,j1V,show a.length + d - A.length=d by omega]
 have xge:∀ k,slB x=some k→fl2≤k:=fun k hk=>(hx.ge hk).1
 refine ⟨by simp;omega,fun i hi=>?_,fun i j hi hj hij=>?_⟩
 ·rcases key i hi (by simp at hi ⊢;omega) with ⟨_,e1,e2⟩ | ⟨j,j1,j2,e1,e2,_⟩
  ·rw [e1,e2];exact hx.low hf
  ·rw [e1,e2];exact h.own j j1
 ·rcases key i hi (by simp at hi ⊢;omega) with ⟨i0,e1,_⟩ | ⟨i',i1,i2,e1,_,ie,ine⟩ <;> rcases key j hj (by simp at hj ⊢;omega) with ⟨j0,e3,_⟩ | ⟨j',j1,j2,e3,_,je,jne⟩
  ·omega
  ·rw [e1,e3]
   cases hk:slB x with
   | none=>exact .inl rfl
   | some k =>
    right;intro h5
    have:=hn _ (h1I j2) k h5.symm
    have:=xge k hk
    omega
  ·rw [e1,e3]
   cases hk:slB (a ++ b)[i'] with
   | none=>exact .inl rfl
   | some k =>
    right;intro h5
    have:=hn _ (h1I i2) k hk
    have:=xge k h5.symm
    omega
  ·rw [e1,e3]
   refine h.apart i' j' i1 j1 ?_
   split at ie <;> split at je <;> omega
def r7:RK→a0f→Nat→Prop
 | .few,G,q=>a0f.blk G q=.row false d0A [.int .i64 0]
 | .all,G,q=>Bx G q 0
theorem r7.mono {G':a0f} {q:Nat} (h:r7 F G q) (hx:Ext G G'):r7 F G' q:=by cases F;exact hx.blk h;exact Bx.mono h hx
theorem r7.off {G':a0f} {q:Nat} {o:Option Nat} (h:r7 F G q) (hx:e0p o G G') (hl:Lx G G') (ho:o ≠ some q):r7 F G' q:=by cases F;exact (hx.2 q (a0l h) ho).trans h;exact Bx.off h hx hl ho
theorem r7.lxt {G':a0f} {q:Nat} (h:r7 F G q) (hx:LxT F.E G G') (hl:Lx G G'):r7 F G' q:=by
 cases F
 ·exact hx _ _ _ h
 ·obtain ⟨s,h1,h2⟩:=h;exact ⟨s,hx _ _ _ h1,h2.lx hl⟩
theorem r7.lt {q:Nat} (h:r7 F G q):q < G.size:=by
 cases F
 ·exact a0l h
 ·obtain ⟨s,h,_⟩:=h;exact a0l h
abbrev RK.Q (F:RK):Nat:=F.p a0M a0H
structure rMd (F:RK) (H:a0f) (P2 P3 P6 P7 p n m:Nat) (sv:List Value) (rs:List Value) (M:List (List Int)) (sR sD sB:Value) (vs:List Value) (bs:List Nat) (G:a0f):Prop where
 ext:Ext H G
 b2:a0f.blk G P2=.row false (F.p a0n a0m) []
 b3:a0f.blk G P3=.row false a0P sv
 b6:a0f.blk G P6=.row false F.Q [.pointer (some ⟨p,0,none⟩)]
 b7:r7 F G P7
 bp:a0f.blk G p=.row false F.T (p0g F n m sR 1 sD sB 0)
 d:rD F G sD 1
 rows:e0A F.E F.w F.P H.size G rs M
 p7:∀ w ∈ rs,slB w ≠ some P7
 heads:b0e PV H.size G F.S 1 sR vs
 basis:b0e PK H.size G g0x 1 sB bs
 low:H.size≤p
section
variable {P2 P3 P6 P7 p n m i j:Nat} {sv rs vs:List Value} {M:List (List Int)} {sR sD sB:Value} {bs:List Nat} {x:Int}
theorem rMd.mono {G':a0f} (h:rMd F H P2 P3 P6 P7 p n m sv rs M sR sD sB vs bs G) (hx:Ext G G'):rMd F H P2 P3 P6 P7 p n m sv rs M sR sD sB vs bs G' :=
 ⟨h.ext.trans hx,hx.blk h.b2,hx.blk h.b3,hx.blk h.b6,h.b7.mono hx,hx.blk h.bp,h.d.mono hx,h.rows.mono V0C hx,h.p7,h.heads.mono w0k hx,h.basis.mono w0j hx,h.low⟩
theorem rMd.store (h:rMd F H P2 P3 P6 P7 p n m sv rs M sR sD sB vs bs G) (hi:i < M.length) (hj:j < M[i].length) {w:Value} (hw:rV F G w x) :
  ∃ G',e0X H.size G F.w (adr F.w (rs[i]'(by have:=h.rows.len;omega)) j) w=some G'∧rMd F H P2 P3 P6 P7 p n m sv rs (M.set i (M[i].set j x)) sR sD sB vs bs G'∧e0p (slB (rs[i]'(by have:=h.rows.len;omega))) G G'∧Lx G G'∧G.size≤G'.size:=by
 obtain ⟨G',h1,h2,h3,h4⟩:=h.rows.store V0C hi hj (w:=w) (x:=x) hw.st.1 hw.st.2.1 hw.st.2.2
 have hr:=h.rows.own i hi
 have lx:∀ {e:Nat},F.E ≠ e→LxT e G G':=fun hne=>hr.lxT hne h3
 exact ⟨G',h1,⟨l0z h.ext h3 (fun b hb=>(hr.ge hb).1),lx (by cases F <;> decide) _ _ _ h.b2,lx (by cases F <;> decide) _ _ _ h.b3,lx (by cases F <;> decide) _ _ _ h.b6,h.b7.off h3 h4 (h.p7 _ (h1I _)),lx (by cases F <;> decide) _ _ _ h.bp,h.d.lx h4,h2,h.p7,h.heads.lxm (lx (by cases F <;> decide)) (fun _ _ h=>h),h.basis.lxm (lx (by cases F <;> decide)) (fun _ _ h=>h),h.low⟩,h3,h4,h3.1⟩
theorem rMd.ia (h:rMd F H P2 P3 P6 P7 p n m sv rs M sR sD sB vs bs G) (hi:i < M.length) (hj:j < M[i].length):iaV F.w (rs[i]'(by have:=h.rows.len;omega)) (.int .i64 j)=some (adr F.w (rs[i]'(by have:=h.rows.len;omega)) j):=(h.rows.own i hi).sls.ia hj
theorem rMd.num (h:rMd F H P2 P3 P6 P7 p n m sv rs M sR sD sB vs bs G) (hi:i < M.length) (hj:j < M[i].length) :
  ∃ w,b0x G F.b F.w (adr F.w (rs[i]'(by have:=h.rows.len;omega)) j)=some w∧rV F G w (Tf M i j):=by
 rw [K0w hi hj]
 cases F
 ·obtain ⟨w,h1,h2,h3⟩:=(h.rows.own i hi).sls.load1 (j:=j) hj;exact ⟨w,h1,by simpa using h2,h3⟩
 ·obtain ⟨cs,h1,_,h3⟩:=Sls.load (h.rows.own i hi).sls (j:=j) hj (by decide);exact ⟨_,h1,h3⟩
theorem rMd.bl (h:rMd F H P2 P3 P6 P7 p n m sv rs M sR sD sB vs bs G) (hi:i < M.length) (hj:j < M[i].length):∃ b,AI.blkOf (adr F.w (rs[i]'(by have:=h.rows.len;omega)) j)=[b]∧P3 ≠ b∧b < G.size:=by
 obtain ⟨b,h1,h2,h3⟩:=(h.rows.own i hi).adr_blk hj
 refine ⟨b,h1,?_,h2⟩
 rintro rfl
 exact (h.rows.own i hi).ne h.b3 (by cases F <;> decide) h3
theorem rMd.dv (h:rMd F H P2 P3 P6 P7 p n m sv rs M sR sD sB vs bs G):rV F G (dvV F 1 sD) 1:=by
 have:=h.d
 cases F
 ·exact ⟨rfl,this⟩
 ·exact ⟨sD,rfl,this⟩
theorem rMd.ins {a b:List Value} {A B:List (List Int)} {G':a0f} {w:Value} {X:List Int} (h:rMd F H P2 P3 P6 P7 p n m sv (a ++ b) (A ++ B) sR sD sB vs bs G) (hl:a.length=A.length) (hw:b0e F.P G.size G' F.E F.w w X) (hx:Ext G G'):rMd F H P2 P3 P6 P7 p n m sv (a ++ w :: b) (A ++ X :: B) sR sD sB vs bs G':=by
 have h':=h.mono hx
 refine ⟨h'.ext,h'.b2,h'.b3,h'.b6,h'.b7,h'.bp,h'.d,h'.rows.insert hl hw h.ext.1 (fun y hy k hk=>?_),fun y hy=>?_,h'.heads,h'.basis,h'.low⟩
 ·obtain ⟨i,hi,rfl⟩:=i1O hy
  exact ((h.rows.own i (by have:=h.rows.len;omega)).ge hk).2
 ·have h7:=h.b7.lt
  rcases i1g.1 hy with h1 | h1
  ·exact h.p7 _ (i1g.2 (.inl h1))
  ·rcases j1G.1 h1 with h1 | h1
   ·rw [h1];intro hk;have:=(hw.ge hk).1;omega
   ·exact h.p7 _ (i1g.2 (.inr h1))
theorem rMd.push2 (h:rMd F H P2 P3 P6 P7 p n m sv rs M sR sD sB vs bs G) {w:Value} (hw:a0F w=true) {b:Nat} (hv:vs.length < 1073741824) (hb:bs.length < 1073741824) :
  ∃ sR' G1 sB' G2,k0c H.size (G.push (.row false F.S [w])) F.S 1 24 sR (.slice (some ⟨G.size,0,none⟩) 1 1)=some (sR',G1)∧k0c H.size (G1.push (.row false g0x [.int .i64 (b:Int)])) g0x 1 8 sB (.slice (some ⟨G1.size,0,none⟩) 1 1)=some (sB',G2) ∧
   a0f.blk G1 P6=.row false F.Q [.pointer (some ⟨p,0,none⟩)]∧a0f.blk G1 p=.row false F.T (p0g F n m sR 1 sD sB 0) ∧
   a0f.blk G2 P6=.row false F.Q [.pointer (some ⟨p,0,none⟩)]∧a0f.blk G2 p=.row false F.T (p0g F n m sR 1 sD sB 0)∧a0U sR' = [sR']∧a0F sR' = true∧a0U sB' = [sB']∧a0F sB' = true ∧
   (∀ k,k ∈ AI.blkW sR→k ≠ P6∧k ≠ p)∧(∀ k,k ∈ AI.blkW sB→k ≠ P6) ∧
   ∀ G3,Array.setIfInBounds G2 p (.row false F.T (p0g F n m sR' 1 sD sB' 0))=G3→rMd F H P2 P3 P6 P7 p n m sv rs M sR' sD sB' (vs ++ [w]) (bs ++ [b]) G3:=by
 obtain ⟨sR',G1,a1,o1,x1,y1⟩:=b0e.app (P:=PV) (sz:=1) (e:=F.S) (by cases F <;> decide) (fun _ _ _ _ _ h=>h) h.heads (e2:=F.S) (c:=1) (bytes:=24) (new:=[w]) (x:=w) rfl rfl (by simp [hw]) hv (by omega) (by omega) h.ext.1
 have lx1:∀ {e:Nat},F.S ≠ e→LxT e G G1:=fun hne=>h.heads.lxT hne x1
 have e1:Ext H G1:=y1 H (h1A _) h.ext
 obtain ⟨sB',G2,a2,o2,x2,y2⟩:=b0e.app (P:=PK) (sz:=1) (e:=g0x) (by cases F <;> decide) (fun _ _ _ _ _ h=>h) (h.basis.lxm (Q':=PK) (lx1 (by cases F <;> decide)) (fun _ _ h=>h)) (e2:=g0x) (c:=1) (bytes:=8) (new:=[.int .i64 (b:Int)]) (x:=b) rfl rfl rfl hb (by omega) (by omega) e1.1
 have hob:=h.basis.lxm (Q':=PK) (G':=G1) (lx1 (by cases F <;> decide)) (fun _ _ h=>h)
 have lx2:∀ {e:Nat},g0x ≠ e→LxT e G1 G2:=fun hne=>hob.lxT hne x2
 have e2:Ext H G2:=y2 H (h1A _) e1
 have p1:=lx1 (by cases F <;> decide) _ _ _ h.bp
 have p2:=lx2 (by cases F <;> decide) _ _ _ p1
 have q1:=lx1 (by cases F <;> decide) _ _ _ h.b6
 have q2:=lx2 (by cases F <;> decide) _ _ _ q1
 have nR6:=h.heads.ne h.b6 (by cases F <;> decide)
 have nRp:=h.heads.ne h.bp (by cases F <;> decide)
 have nB6:=h.basis.ne h.b6 (by cases F <;> decide)
 have hR:=h.heads.blkOf
 have hB:=h.basis.blkOf
 refine ⟨sR',G1,sB',G2,a1,a2,q1,p1,q2,p2,o1.cells.1,o1.cells.2,o2.cells.1,o2.cells.2,fun k hk=>?_,fun k hk=>?_,fun G3 hS=>?_⟩
 ·rcases hR with h0 | ⟨c,h0,h1⟩
  ·rw [h0] at hk;simp at hk
  ·rw [h0] at hk
   have:k=c:=by simpa using hk
   subst this
   exact ⟨fun h5=>nR6 (by rw [h1,h5]),fun h5=>nRp (by rw [h1,h5])⟩
 ·rcases hB with h0 | ⟨c,h0,h1⟩
  ·rw [h0] at hk;simp at hk
  ·rw [h0] at hk
   have:k=c:=by simpa using hk
   subst this
   exact fun h5=>nB6 (by rw [h1,h5])
 ·have lx3:∀ {e:Nat},F.T ≠ e→LxT e G2 G3:=fun hne=>b0m hS p2 hne
  have lxx:∀ {e:Nat},F.S ≠ e→g0x ≠ e→F.T ≠ e→LxT e G G3:=fun h1 h2 h3 b ro cs hb=>lx3 h3 b ro cs (lx2 h2 b ro cs (lx1 h1 b ro cs hb))
  have hl:Lx G G3:=lxx (by cases F <;> decide) (by cases F <;> decide) (by cases F <;> decide)
  exact ⟨a0E hS e2 h.low,lxx (by cases F <;> decide) (by cases F <;> decide) (by cases F <;> decide) _ _ _ h.b2,lxx (by cases F <;> decide) (by cases F <;> decide) (by cases F <;> decide) _ _ _ h.b3,lxx (by cases F <;> decide) (by cases F <;> decide) (by cases F <;> decide) _ _ _ h.b6,h.b7.lxt (lxx (by cases F <;> decide) (by cases F <;> decide) (by cases F <;> decide)) hl,a0s hS p2,h.d.lx hl,⟨h.rows.len,fun r hr=>(h.rows.own r hr).lxm (lxx (by cases F <;> decide) (by cases F <;> decide) (by cases F <;> decide)) (fun cs x hx=>V0C.lx _ _ _ _ hl hx),h.rows.apart⟩,h.p7,
   (o1.lxm (Q':=PV) (lx2 (by cases F <;> decide)) (fun _ _ h=>h)).lxm (lx3 (by cases F <;> decide)) (fun _ _ h=>h),o2.lxm (lx3 (by cases F <;> decide)) (fun _ _ h=>h),h.low⟩
theorem rMd.one (h:rMd F H P2 P3 P6 P7 p n m sv rs M sR sD sB vs bs G) (hf:fl≤G.size) (hb:n < 1048576) (hc:m < 1048576) :
  a0S env fl (F.p n0J n0I) [.pointer (some ⟨P6,0,none⟩),.pointer (some ⟨P7,0,none⟩)] G (fun r G'=>b0e F.P G.size G' F.E F.w r (List.replicate (2 * n + m + 1) 0)∧Ext G G') R:=by
 cases F
 ·exact n0P hf h.b6 h.bp h.b7 (by omega)
 ·obtain ⟨s7,b7,k7⟩:=h.b7;exact n0E hf h.b6 h.bp b7 k7 (by omega)
end
theorem k0I {z:Int} (hf:fl≤H.size) (hz:f0x z) :
  a0S env fl t0B [.int .i64 z] H (fun r H'=>r=.int .i64 z∧Ext H H') R:=by
 refine a0i Y0y hf (h:=?_)
 intro ρ h0
 obtain ⟨h1,h2⟩:=hz
 have h1':¬ z≤-2147483648:=by omega
 have h2':¬ 2147483648≤z:=by omega
 simp [J0V,v0l,v0m,v0o,h0,h1,h2,h1',h2']
theorem A0B {z:Int} (h:b0d H v (a0j z)) (hf:fl≤H.size) (hz:f0x z) :
  a0S env fl j0p [eV,v] H (fun r H'=>rV .few H' r z∧Ext H H') R:=by
 have hl:lz z < 1073741824:=by
  have:lz z≤1:=t0G (by obtain ⟨h1,h2⟩:=hz;omega)
  omega
 refine a0i Y0x hf (h:=?_)
 intro ρ h0
 obtain ⟨s0,rfl,k0⟩:=id h
 simp [J0U,v0h,v0i,h0,eV,k0.cells,k0.plain]
 generalize hG:Array.push (Array.push H _) _=G
 obtain ⟨hx2,_,b0⟩:=push2 hG
 have hx:=Ext.refl H
 clear hG
 replace hx:=hx.trans hx2
 refine (m0p (h.mono hx) hx.1 hl).mono ?_
 rintro _ G2 ⟨rfl,hx2⟩
 replace hx:=hx.trans hx2
 unfold toV
 have hfit:r0O z=true:=by
  unfold r0O
  obtain ⟨h1,h2⟩:=hz
  simp;omega
 simp [v0j,hfit,v0k]
 refine (k0I hx.1 hz).mono ?_
 rintro _ G3 ⟨rfl,hx2⟩
 simp
 exact fun _=>⟨rfl,hz⟩
theorem X0I {z:Int} (h:b0d H v (a0j z)) (hf:fl≤H.size) (hz:f0x z):a0S env fl (F.p j0p k0n) [eV,v] H (fun r H'=>rV F H' r z∧Ext H H') R:=by
 cases F
 ·exact A0B h hf hz
 ·exact i0K h hf
theorem X0H {a b:Int} {p:Nat} {cs:List Value} {va vb:Value} (hf:fl≤H.size) (hb:a0f.blk H p=.row false F.T cs) (ha:rV F H va a) (hbz:rV F H vb b) (la:lz a < 67108864) (lb:lz b < 67108864) (hR:q0u F R) :
  a0S env fl (F.p y0p y0n) [.pointer (some ⟨p,0,none⟩),va,vb] H (fun r H'=>rV F H' r (a - b)∧Ext H H') R:=by
 cases F
 ·obtain ⟨rfl,ha⟩:=ha;obtain ⟨rfl,hbz⟩:=hbz
  exact p0N hf hb ha hbz hR
 ·exact p0w hf hb ha hbz la lb
theorem Sls.load1x {α:Type} {P:a0f→List Value→α→Prop} {e:Nat} {v:Value} {l:List α} (h:Sls P H e 1 v l) (hx:Ext H G) {j:Nat} (hj:j < l.length):∃ w,b0x G false 1 (adr 1 v j)=some w∧P H [w] l[j]:=by
 obtain ⟨cs,h1,h2⟩:=h
 refine ⟨_,h1.load1 hx hj,?_⟩
 have h3:=h2 j hj
 have hl:=h1.1
 have:(cs.drop (j * 1)).take 1=[cs.getD j undef]:=by
  have hjc:j < cs.length:=by omega
  have e1:cs.getD j undef=cs[j]:=by simp [h1z,hjc]
  rw [i1H,i1t hjc,e1];rfl
 rw [this] at h3;exact h3
theorem A0E {e bytes:Nat} {l:List Value} {a b:Value} (h:b0e PV fl G e 1 v l) (ha:a0F a=true) (hb:a0F b=true) (hl:l.length + 2≤1073741824) (hby:bytes≤1024) (hfl:fl≤G.size) :
  ∃ v' G',k0c fl (G.push (.row false e [a,b])) e 1 bytes v (.slice (some ⟨G.size,0,none⟩) 2 2)=some (v',G')∧b0e PV fl G' e 1 v' (l ++ [a,b])∧e0p (slB v) G G'∧(∀ H0,H0.size≤fl→Ext H0 G→Ext H0 G'):=by
 obtain ⟨cs,h1,h2⟩:=h
 have hx:Sl (G.push (.row false e [a,b])) e 1 (.slice (some ⟨G.size,0,none⟩) 2 2) 2 [a,b]:=(Own.mk (fl:=0) a0C rfl (i1C _)).sl
 obtain ⟨v',G',a1,a2,a3,a4⟩:=k0e (h1.mono (Ext.push (Ext.refl G))) hx (by simp [ha,hb]) hl hby (by omega) (bytes:=bytes) (by simp;omega)
 have hcl:=h1.1
 rw [i1H] at hcl
 refine ⟨v',G',a1,⟨cs ++ [a,b],by simpa using a2,fun k hk=>?_⟩,⟨?_,fun c hc hne=>?_⟩,fun H0 k1 k2=>a4 H0 k1 k2.push⟩
 ·have hcv:cs=l:=by
   apply List.ext_getElem hcl
   intro j j1 j2
   have h3:=h2 j j2
   rw [i1H,i1t j1] at h3
   have:[cs[j]]=[l[j]]:=h3
   simpa using this
  subst hcv
  show ((cs ++ [a,b]).drop (k * 1)).take 1=[(cs ++ [a,b])[k]]
  rw [i1H,i1t hk];rfl
 ·have:=a3.1;simp at this;omega
 ·rw [a3.2 c (by simp;omega) hne,e0c hc]
theorem Z0u {G3:a0f} {z1 z2 r2:Blk} (hN:Array.setIfInBounds (Array.push (Array.push G z1) z2) (G.size + 1) r2=G3):Ext G G3∧a0f.blk G3 G.size=z1∧a0f.blk G3 (G.size + 1)=r2:=by
 rw [← hN]
 exact ⟨(Ext.refl G).push.push.set (Nat.le_succ _),by rw [b0h (Nat.succ_ne_self _)];simp,by rw [a0A (by simp)]⟩
theorem g0N {W i j r c:Nat} {L:List (List Int)} {x:Int} (hi:i < L.length) (hj:j < L[i].length):Tf (L.set i (L[i].set j x)) r c=if r=i∧c=j then x else Tf L r c:=by
 unfold Tf
 simp only [h1z,i1m]
 by_cases hri:i=r
 ·subst hri
  simp only [i1s,hi,i1k,i1m,true_and]
  by_cases hcj:j=c
  ·subst hcj;simp [hj]
  ·rw [h1C hcj,h1C (fun h=>hcj h.symm),h1E hi];rfl
 ·rw [h1C hri,h1C (fun h=>hri h.1.symm)]
def Rec (W:Nat) (M:List (List Int)):Prop:=∀ i (h:i < M.length),M[i].length=W
theorem Rec.set {W i j:Nat} {M:List (List Int)} {x:Int} (h:Rec W M) (hi:i < M.length):Rec W (M.set i (M[i].set j x)):=by
 intro r hr
 have hr':r < M.length:=by simpa using hr
 by_cases hri:r=i
 ·subst hri;simp [h r hr']
 ·rw [k1l (by omega)];exact h r hr'
theorem Rec.ins {W i:Nat} {M:List (List Int)} {X:List Int} (h:Rec W M) (hX:X.length=W):Rec W (M.take i ++ X :: M.drop i):=by
 intro r hr
 have hm:(M.take i ++ X :: M.drop i)[r] ∈ M.take i ++ X :: M.drop i:=h1I _
 rcases i1g.1 hm with h1 | h1
 ·obtain ⟨k,hk,e⟩:=i1O (j1u h1);rw [← e];exact h k hk
 ·rcases j1G.1 h1 with h1 | h1
  ·rw [h1];exact hX
  ·obtain ⟨k,hk,e⟩:=i1O (List.mem_of_mem_drop h1);rw [← e];exact h k hk
theorem X0M {i r c:Nat} {M:List (List Int)} {X:List Int} (hi:i≤M.length):Tf (M.take i ++ X :: M.drop i) r c=if r < i then Tf M r c else if r=i then X.getD c 0 else Tf M (r - 1) c:=by
 have hl:(M.take i).length=i:=by simp;omega
 unfold Tf
 simp only [h1z]
 by_cases h1:r < i
 ·rw [h1F h1,i1u (by omega),i1S,h1F h1]
 ·rw [h1C h1,i1B (by omega),hl]
  by_cases h2:r=i
  ·subst h2;simp
  ·rw [h1C h2,List.getElem?_cons,h1C (by omega),i1Z,show i + (r - i - 1)=r - 1 by omega]
theorem f0w {n c:Nat}:(List.replicate n (0:Int)).getD c 0=0:=by
 rw [h1z,j1v];split <;> rfl
def bbq (q:ScT) (n r:Nat):Int:=Tf q.A r n
def ccq (q:ScT) (c:Nat):Int:=q.C.getD c 0
def s0Z (q:ScT) (n m i c:Nat):Int:=sm (fun r=>if bbq q n r < 0 then sg (bbq q n) r * e0r n m (Tf q.A) (bbq q n) r c else 0) i
theorem B0Q {E:Env} {bef:List Nat} {Z:b0b→a0f→Prop} {j i:Nat} {t:b0b} {ops:List a0L} {lg:Log} (n:Nat) (hn:ops.length=n) (hb:(List.range n).all (fun k=>(bef.getD (i + k) 0).testBit j)=true) (h:q0u F R):q0u F (fun v=>WRP E fl bef [] Z R i ops t H (some (j,v)) lg):=by
 subst hn
 cases F
 ·exact t0h hb h
 ·trivial
@[simp ↓] theorem a1Q {E:Env} {d s:Nat} {r:List a0L} {t:b0b} {lg:Log} {Z:b0b→a0f→Log→Prop} :
  WRL E fl (F.p [⟨some d,none,.mv (.tmp s)⟩] [⟨some d,none,.load true 2 (.tmp s)⟩] ++ r) t H lg Z=oo (kpV F H (get t s)) fun v=>WRL E fl r (put t (some d) v) H ((F.p [] (blkOf (get t s)),[]) :: lg) Z:=by
 cases F
 ·show WRL E fl (⟨some d,none,.mv (.tmp s)⟩ :: r) t H lg Z=_
  rw [v0E,K0C,show kpV .few H (get t s)=some (get t s) from rfl,q0b];rfl
 ·show WRL E fl (⟨some d,none,.load true 2 (.tmp s)⟩ :: r) t H lg Z=_
  rw [v0E,t0i];rfl
theorem L0p {n m:Nat} {ρ:Nat→Value} {wd:Value} {Q:b0b→a0f→Prop} (h25:ρ 25=.agg #[]) (h27:ρ 27=.int .i64 (n:Int)) (h28:ρ 28=.int .i64 (m:Int)) (h33:ρ 33=.int .i64 (2 * (n:Int) + m)) (h37:ρ 37=wd) (kd:rV F G wd 1) (hf:fl≤G.size)
  (key:∀ ρ' G3 sD,Ext G G3→a0f.blk G3 G.size=.row false F.T (p0g F n m (.slice none 0 0) 1 sD (.slice none 0 0) 0)→a0f.blk G3 (G.size + 1)=.row false F.Q [.pointer (some ⟨G.size,0,none⟩)]→rD F G3 sD 1→ρ' 6=.pointer (some ⟨G.size + 1,0,none⟩)→(∀ k,k < 6→ρ' k=ρ k)→Q (T 224 ρ') G3) :
  WR env fl ((h0r F).drop 13) (T 224 ρ) G Q R:=by
 have hf':fl≤G.size + 1:=by omega
 cases F
 ·obtain ⟨rfl,kz⟩:=kd
  simp [h0r,h25,h27,h28,h33,h37,hf']
  generalize hN:Array.setIfInBounds (Array.push (Array.push _ _) _) _ _=G3
  obtain ⟨hx2,bp,b6⟩:=Z0u hN
  exact key _ _ .nilFunc hx2 (by rw [h0S];simpa using bp) b6 kz (by simp) (fun k hk=>by simp [show 6 ≠ k by omega,show 38 ≠ k by omega,show 39 ≠ k by omega])
 ·obtain ⟨sD,rfl,kd⟩:=kd
  simp [h0r,h25,h27,h28,h33,h37,hf']
  generalize hN:Array.setIfInBounds (Array.push (Array.push _ _) _) _ _=G3
  obtain ⟨hx2,bp,b6⟩:=Z0u hN
  exact key _ _ sD hx2 (by rw [g0n];simpa using bp) b6 (kd.mono hx2) (by simp) (fun k hk=>by simp [show 6 ≠ k by omega,show 38 ≠ k by omega,show 39 ≠ k by omega])
theorem L0q {ρ:Nat→Value} {wz:Value} {Q:b0b→a0f→Prop} (h43:ρ 43=wz) (kz:rV F G wz 0) (hf:fl≤G.size)
  (key:∀ ρ' G5,Ext G G5→r7 F G5 G.size→ρ' 7=.pointer (some ⟨G.size,0,none⟩)→(∀ k,k ≠ 7→ρ' k=ρ k)→Q (T 224 ρ') G5):WR env fl ((h0s F).drop 4) (T 224 ρ) G Q R:=by
 cases F
 ·obtain ⟨rfl,_⟩:=kz
  simp [h0s,h43,hf]
  generalize hN:Array.setIfInBounds (Array.push _ _) _ _=G5
  obtain ⟨hx2,b7⟩:=new1 hN
  exact key _ _ hx2 b7 (by simp) (fun k hk=>by simp [j1q hk])
 ·obtain ⟨sz,rfl,kz⟩:=kz
  simp [h0s,h43,hf,kz.cells,kz.plain]
  generalize hN:Array.setIfInBounds (Array.push _ _) _ _=G5
  obtain ⟨hx2,b7⟩:=new1 hN
  exact key _ _ hx2 ⟨sz,b7,kz.mono hx2⟩ (by simp) (fun k hk=>by simp [j1q hk])
theorem A0R {d s nt:Nat} {z:Int} {ρ:Nat→Value} {wx:Value} {Q:b0b→a0f→Prop} (hs:ρ s=wx) (hsl:s < nt) (hdl:d < nt) (hsd:s ≠ d) (kx:rV F G wx z) (hf:fl≤G.size)
  (key:∀ ρ' G9,Ext G G9→kpV F G9 (ρ' d)=some wx→(∀ b,b ∈ F.p [] (blkOf (ρ' d))→G.size≤b)→(∀ k,k ≠ d→ρ' k=ρ k)→Q (T nt ρ') G9) :
  WR env fl (F.p [⟨some d,none,.mv (.tmp s)⟩] [⟨some d,none,.alloc a0a [.bool false,.slice none 0 0]⟩,⟨none,none,.store 2 (.tmp d) (.tmp s)⟩]) (T nt ρ) G Q R:=by
 cases F
 ·simp [hs,hsl,hdl]
  exact key _ _ (Ext.refl _) (by simp [kpV]) (by simp) (fun k hk=>by simp [j1q hk])
 ·obtain ⟨sx,rfl,kx⟩:=kx
  simp [hs,hsl,hdl,hsd,j1q hsd,hf,kx.cells,kx.plain]
  generalize hN:Array.setIfInBounds (Array.push _ _) _ _=G9
  obtain ⟨hx9,b13⟩:=new1 hN
  exact key _ _ hx9 (by simp [kpV,b13]) (by simp) (fun k hk=>by simp [j1q hk])
def f1p (F:RK) (fl n m:Nat) (q:ScT) (r:Value) (H':a0f):Prop:=∃ p L bs sR sD sB vs,r=.pointer (some ⟨p,0,none⟩)∧e0M F fl H' p n m L 1 bs 0 sR sD sB vs∧ShT n m L bs∧(∀ r c,r < m + 2→c≤2 * n + m→Tf L r c=i0a n m (Tf q.A) (bbq q n) (ccq q) c r)∧∀ r,r < m→bf bs r=l0j n m (bbq q n) r
def f1G (F:RK) (H:a0f) (p P7 n m W:Nat) (q:ScT) (sv:List Value) (sA sD w9 w10:Value) (i:Nat) (ρ:Nat→Value) (G:a0f):Prop :=
 ρ 2=.pointer (some ⟨H.size,0,none⟩)∧ρ 3=.pointer (some ⟨H.size + 1,0,none⟩)∧ρ 6=.pointer (some ⟨p + 1,0,none⟩)∧ρ 8=.func (.func (F.p n0J n0I)) #[] #[.pointer (some ⟨p + 1,0,none⟩),.pointer (some ⟨P7,0,none⟩)]∧ρ 9=w9∧ρ 10=w10∧ρ 77=sA ∧
  ∃ vs bs M sR sB,rMd F H H.size (H.size + 1) (p + 1) P7 p n m sv (vs ++ [w9,w10]) M sR sD sB vs bs G∧vs.length=i∧bs.length=i∧M.length=i + 2∧Rec W M ∧
   (∀ r c,r < i→c < W→Tf M r c=sg (bbq q n) r * e0r n m (Tf q.A) (bbq q n) r c)∧(∀ c,c < W→Tf M i c = -s0Z q n m i c)∧(∀ c,c < W→Tf M (i + 1) c = -cost n (ccq q) c)∧∀ r,r < i→bf bs r=l0j n m (bbq q n) r
theorem z0n {q:ScT} {n m:Nat} (h:SV H v q) (hn0:q.n=n) (hAl:q.A.length=m) (hCl:q.C.length=n) (hrow:∀ r ∈ q.A,r.length=n + 1) (hf:fl≤H.size) (hzA:∀ r c,lz (Tf q.A r c) < 67108864) (hzC:∀ c,lz (ccq q c) < 67108864) (hzL:∀ i c,i≤m→c≤2 * n + m→lz (s0Z q n m i c) < 67108864) (hm:m < 1048576) (hn:n < 1048576) (hR:q0u F R) :
  a0S env fl (t0u F) [eV,v] H (fun r H'=>f1p F H.size n m q r H'∧Ext H H') R:=by
 obtain ⟨sA,sBy,sC,s1,s2,rfl,qA,qB,qC,q1,q2⟩:=h
 rw [hn0]
 refine a0i U0N hf (h:=?_)
 intro ρ h0
 have w1:IntKind.i64.wrap (2 * (n:Int))=2 * (n:Int):=a0Y (by omega) (by omega)
 have w2:IntKind.i64.wrap (2 * (n:Int) + m)=2 * (n:Int) + m:=a0Y (by omega) (by omega)
 have e2:((2 * n + m:Nat):Int)=2 * (n:Int) + m:=by omega
 have f1:f0x 1:=by unfold f0x;omega
 have f0:f0x 0:=by unfold f0x;omega
 have hslA:=qA.slen
 rw [hAl] at hslA
 simp [k0H,s0r,h0,eV]
 generalize hG:Array.push (Array.push H _) _=G
 obtain ⟨hx,b2,b3⟩:=push2 hG
 clear hG
 simp [s0s,b3,hslA]
 refine a0B ?_
 simp [h0r,b2,b3,w1,w2]
 refine (c0W (n:=1) (by have:=hx.1;omega) (by omega) (by omega)).mono ?_
 rintro _ G1 ⟨kone,hx2⟩
 replace hx:=hx.trans hx2
 replace b2:=hx2.blk b2
 replace b3:=hx2.blk b3
 simp
 refine (X0I kone (by have:=hx.1;omega) f1).mono ?_
 rintro wd G2 ⟨kd,hx2⟩
 replace hx:=hx.trans hx2
 replace b2:=hx2.blk b2
 replace b3:=hx2.blk b3
 have hsz:=hx.1
 simp
 refine L0p (n:=n) (m:=m) (by simp) (by simp) (by simp) (by simp) (by simp) kd hsz ?_
 intro ρ1 G3 sD hx2 bp b6 kd g6 hk
 have g2:=hk 2 (by decide);have g3:=hk 3 (by decide);have g5:=hk 5 (by decide)
 simp at g2 g3 g5
 clear hk
 replace hx:=hx.trans hx2
 replace b2:=hx2.blk b2
 replace b3:=hx2.blk b3
 have hpH:=hsz
 generalize hpp:Array.size G2=p at *
 have kz0:b0d G3 (.agg #[.bool false,.slice none 0 0]) (a0j 0):=⟨_,by rw [e0f],by rw [e0f];exact Lim.nil⟩
 simp [h0s,g2,b2]
 refine (X0I kz0 (by have:=hx.1;omega) f0).mono ?_
 rintro wz G4 ⟨kz,hx2⟩
 replace hx:=hx.trans hx2
 replace b2:=hx2.blk b2
 replace b3:=hx2.blk b3
 replace b6:=hx2.blk b6
 replace bp:=hx2.blk bp
 have hsz:=hx.1
 replace kd:=kd.mono hx2
 simp
 refine L0q (by simp) kz hsz ?_
 intro ρ2 G5 hx2 b7 g7 hk
 replace g2:=(hk 2 (by decide)).trans (by simpa using g2);replace g3:=(hk 3 (by decide)).trans (by simpa using g3);replace g5:=(hk 5 (by decide)).trans (by simpa using g5);replace g6:=(hk 6 (by decide)).trans (by simpa using g6)
 replace hx:=hx.trans hx2
 replace b2:=hx2.blk b2
 replace b3:=hx2.blk b3
 replace b6:=hx2.blk b6
 replace bp:=hx2.blk bp
 replace kd:=kd.mono hx2
 generalize hp7:Array.size G4=P7 at *
 have hM:rMd F H H.size (H.size + 1) (p + 1) P7 p n m _ ([] ++ []) ([] ++ []) (.slice none 0 0) sD (.slice none 0 0) [] [] G5:=⟨hx,b2,b3,b6,b7,bp,kd,⟨rfl,fun i hi=>by simp at hi,fun i j hi=>by simp at hi⟩,fun w hw=>by simp at hw,b0e.nil,b0e.nil,hpH⟩
 clear b2 b3 b6 bp b7 hx hx2 kz kz0 kd kone hp7 hsz hk
 have hP7l:=hM.b7.lt
 simp [s0t,s0u,g6,g7]
 refine (hM.one (by have:=hM.ext.1;omega) hn hm).mono ?_
 rintro w9 G6 ⟨hw,hx2⟩
 replace hM:rMd F H H.size (H.size + 1) (p + 1) P7 p n m _ ([w9] ++ []) ([List.replicate (2 * n + m + 1) 0] ++ []) (.slice none 0 0) sD (.slice none 0 0) [] [] G6:=hM.ins rfl hw hx2
 simp
 refine (hM.one (by have:=hM.ext.1;omega) hn hm).mono ?_
 rintro w10 G7 ⟨hw',hx3⟩
 replace hM:rMd F H H.size (H.size + 1) (p + 1) P7 p n m _ [w9,w10] [List.replicate (2 * n + m + 1) 0,List.replicate (2 * n + m + 1) 0] (.slice none 0 0) sD (.slice none 0 0) [] [] G7:=hM.ins rfl hw' hx3
 clear hw hw' hx2 hx3
 have b3:=hM.b3
 have hslC:=qC.slen
 rw [hCl] at hslC
 obtain ⟨W,hW⟩:∃ W,W=2 * n + m + 1:=⟨_,rfl⟩
 rw [← hW] at hM
 simp [s0v,g3,b3,hslC]
 refine d0Q (n:=n) (fun k ρ G=>ρ 2=.pointer (some ⟨H.size,0,none⟩)∧ρ 3=.pointer (some ⟨H.size + 1,0,none⟩)∧ρ 5=.int .i64 (m:Int)∧ρ 6=.pointer (some ⟨p + 1,0,none⟩)∧ρ 8=.func (.func (F.p n0J n0I)) #[] #[.pointer (some ⟨p + 1,0,none⟩),.pointer (some ⟨P7,0,none⟩)]∧ρ 9=w9∧ρ 10=w10∧ρ 50=sC ∧
   ∃ M,rMd F H H.size (H.size + 1) (p + 1) P7 p n m [.int .i64 (n:Int),sA,sBy,sC,.bool (a0e q.cb).1.1,s1,.bool (a0e q.cb).2.1,s2] [w9,w10] M (.slice none 0 0) sD (.slice none 0 0) [] [] G∧M.length=2∧Rec W M∧∀ r c,c < W→Tf M r c=if r=1 then (if c < k then -ccq q c else if n≤c∧c < n + k then ccq q (c - n) else 0) else 0)
   rfl rfl (by decide) (by omega) (by simp) (by simp) ?_ ?_ ?_ ?_
 ·refine ⟨by simp [g2],by simp [g3],by simp [g5],by simp [g6],by simp,by simp,by simp,by simp,_,hM,rfl,fun i hi=>?_,fun r c hc=>?_⟩
  ·have:i=0 ∨ i=1:=by simp at hi;omega
   rcases this with rfl | rfl <;> simp
  ·have hrep:∀ r,([List.replicate W 0,List.replicate W 0].getD r ([]:List Int)).getD c 0=0:=fun r=>by
    match r with
    | 0=>exact f0w
    | 1=>exact f0w
    | r + 2=>rfl
   have:Tf [List.replicate W 0,List.replicate W 0] r c=0:=hrep r
   rw [this]
   split
   ·rw [h1C (by omega),h1C (by omega)]
   ·rfl
 ·intro i ρ ρ' G h hI;simpa [h] using hI
 ·clear h0 ρ hM b3
  rintro k ρ G hk gk gn ⟨g2,g3,g5,g6,g8,g9,g10,g50,M,hM,hM2,hrec,hTf⟩
  have kC:=qC.mono d0i hM.ext
  have hkC:k < q.C.length:=by omega
  obtain ⟨cs,ec,hcl,kc⟩:=Sls.load kC hkC (by omega)
  have hcq:q.C[k]=ccq q k:=by unfold ccq;rw [h1z,h1E hkC];rfl
  rw [hcq] at kc
  obtain ⟨sc,hcs,kc⟩:=kc
  rw [hcs] at ec
  have hsz:=hM.ext.1
  simp [s0w,gk,g50,kC.ia hkC,ec,kc.cells,kc.plain,hsz]
  generalize hN:Array.setIfInBounds (Array.push _ _) _ _=G2
  obtain ⟨hx2,b12⟩:=new1 hN
  clear hN
  replace hM:=hM.mono hx2
  replace kc:=kc.mono hx2
  generalize hP12:Array.size G=P12 at *
  simp [s0x,g2,hM.b2,b12]
  refine (c1K (z:=ccq q k) ⟨sc,rfl,kc⟩ hM.ext.1 (hzC k) hR).mono ?_
  rintro wx G8 ⟨kx,hx2⟩
  replace hM:=hM.mono hx2
  have hs8:=hM.ext.1
  clear b12 kc kC ec
  have h1L:1 < M.length:=by omega
  have hk1:k < M[1].length:=by rw [hrec 1 h1L];omega
  have hk2:n + k < M[1].length:=by rw [hrec 1 h1L];omega
  obtain ⟨bw,hbw,hne,hblt⟩:∃ b,AI.blkOf (adr F.w w10 k)=[b]∧H.size + 1 ≠ b∧b < G8.size:=hM.bl (i:=1) (j:=k) h1L hk1
  obtain ⟨zz,hzz⟩:∃ z,z=ccq q k:=⟨_,rfl⟩
  rw [← hzz] at kx
  have hlzz:lz zz < 67108864:=by rw [hzz];exact hzC k
  simp
  refine A0R (by simp) (by decide) (by decide) (by decide) kx hs8 ?_
  intro ρ3 G9 hx9 k13 hb13 hk
  replace hM:=hM.mono hx9
  replace kx:=kx.mono hx9
  have w3:IntKind.i64.wrap ((n:Int) + k)=(n:Int) + k:=a0Y (by omega) (by omega)
  have i1:iaV F.w w10 (.int .i64 (k:Int))=some (adr F.w w10 k):=hM.ia (i:=1) (j:=k) h1L hk1
  have i2:iaV F.w w10 (.int .i64 ((n + k:Nat):Int))=some (adr F.w w10 (n + k)):=hM.ia (i:=1) (j:=n + k) h1L hk2
  rw [show ((n + k:Nat):Int)=(n:Int) + k by omega] at i2
  refine e0y ?_
  simp [o0F,g2,g3,g10,hM.b2,hM.b3,w3,hk,k13]
  refine (K0u kx (by have:=hM.ext.1;omega) hlzz).mono ?_
  rintro wn G10 ⟨kn,hx2⟩
  replace hM:=hM.mono hx2
  replace kx:=kx.mono hx2
  obtain ⟨G11,st1,hM1,_,hlx1,_⟩:=hM.store (x:=-zz) (i:=1) (j:=k) h1L hk1 kn
  have h1L':1 < (M.set 1 (M[1].set k (-zz))).length:=by simp;omega
  have hk2':n + k < (M.set 1 (M[1].set k (-zz)))[1].length:=by rw [hrec.set h1L 1 h1L'];omega
  obtain ⟨G12,st2,hM2',_,_,_⟩:=hM1.store (x:=zz) (i:=1) (j:=n + k) h1L' hk2' (kx.lx hlx1)
  replace st1:e0X H.size G10 F.w (adr F.w w10 k) wn=some G11:=st1
  replace st2:e0X H.size G11 F.w (adr F.w w10 (n + k)) _=some G12:=st2
  simp [i1,i2,st1,st2,hbw,hne,kpV.mono k13 hx2]
  refine ⟨?_,?_⟩
  ·cases F
   ·simp [hne]
   ·simp [hne]
    rintro a b (⟨rfl,rfl⟩ | ⟨rfl,rfl⟩)
    ·simp [hne]
    ·simp
     intro x hxb;have:=hb13 x hxb;omega
  refine Rnd.mk (by simp [hk,gk]) (by simp [hk,gn]) ⟨by simp [hk,g2],by simp [hk,g3],by simp [hk,g5],by simp [hk,g6],by simp [hk,g8],by simp [hk,g9],by simp [hk,g10],by simp [hk,g50],_,hM2',by simp [hM2],(hrec.set h1L).set h1L',fun r c hc=>?_⟩
  rw [g0N (W:=W) h1L' hk2',g0N (W:=W) h1L hk1,hTf r c hc,hzz]
  by_cases hr:r=1
  ·subst hr
   simp only [true_and,i1s]
   by_cases c1:c=n + k
   ·rw [h1F c1,h1C (by omega),h1F (by omega),c1,show n + k - n=k by omega]
   ·rw [h1C c1]
    by_cases c2:c=k
    ·rw [h1F c2,h1F (by omega),c2]
    ·rw [h1C c2]
     have p1:(c < k + 1)=(c < k):=k1B (by omega)
     have p2:(n≤c∧c < n + (k + 1))=(n≤c∧c < n + k):=k1B (by omega)
     simp only [p1,p2]
  ·rw [h1C (fun h=>hr h.1),h1C (fun h=>hr h.1),h1C hr,h1C hr]
 ·clear h0 ρ hM b3
  rintro ρ G gk gn ⟨g2,g3,g5,g6,g8,g9,g10,g50,M,hM,hM2,hrec,hTf⟩
  simp [o0G,g3,hM.b3,hslA]
  generalize hsv:[Value.int .i64 (n:Int),sA,sBy,sC,.bool (a0e q.cb).1.1,s1,.bool (a0e q.cb).2.1,s2]=sv at hM
  have hsv1:∃ a b c d e f,sv=.int .i64 (n:Int) :: sA :: a :: b :: c :: d :: e :: f :: []:=⟨_,_,_,_,_,_,hsv.symm⟩
  refine d0Q (n:=m) (f1G F H p P7 n m W q sv sA sD w9 w10) rfl rfl (by decide) (by omega) (by simp) (by simp) ?_ ?_ ?_ ?_
  ·refine ⟨by simp [g2],by simp [g3],by simp [g6],by simp [g8],by simp [g9],by simp [g10],by simp,[],[],M,_,_,hM,rfl,rfl,hM2,hrec,fun r c hr=>by omega,fun c hc=>?_,fun c hc=>?_,fun r hr=>by omega⟩
   ·rw [hTf 0 c hc,h1C (by decide)];rfl
   ·rw [hTf 1 c hc,h1F rfl]
    unfold cost
    by_cases c1:c < n
    ·rw [h1F c1,h1F c1]
    ·rw [h1C c1,h1C c1]
     by_cases c2:c < 2 * n
     ·rw [h1F c2,h1F (by omega)];omega
     ·rw [h1C c2,h1C (by omega)];rfl
  ·intro i ρ ρ' G h hI;unfold f1G at *;simpa [h] using hI
  ·clear g2 g3 g5 g6 g8 g9 g10 g50 hM hM2 hrec hTf gk gn ρ M G
   rintro i ρ G hi gi gm ⟨g2,g3,g6,g8,g9,g10,g77,vs,bs,M,sR,sB,hM,hvl,hbl,hML,hrec,hT1,hT2,hT3,hT4⟩
   obtain ⟨x3,x4,x5,x6,x7,x8,hsv1⟩:=hsv1
   have hiA:i < q.A.length:=by omega
   obtain ⟨wr0,er0,wr,hwr,kr⟩:=Sls.load1x qA hM.ext hiA
   have hwr':wr0=wr:=by simpa using hwr
   subst hwr'
   have hrl:q.A[i].length=n + 1:=hrow _ (h1I hiA)
   have b3:=hM.b3
   rw [hsv1] at b3
   simp [o0H,gi,g77,(qA.mono p0V hM.ext).ia hiA,er0,o0I,g8]
   refine (hM.one (by have:=hM.ext.1;omega) hn hm).mono ?_
   rintro x G2 ⟨hx,hx2⟩
   rw [← hW] at hx
   have hMt:rMd F H H.size (H.size + 1) (p + 1) P7 p n m sv (vs ++ [w9,w10]) (M.take i ++ M.drop i) sR sD sB vs bs G:=by rw [j1X];exact hM
   have hM':=hMt.ins (by simp;omega) hx hx2
   obtain ⟨M',hM'e⟩:∃ M',M' = M.take i ++ List.replicate W 0 :: M.drop i:=⟨_,rfl⟩
   rw [← hM'e] at hM'
   have hrec':Rec W M':=by rw [hM'e];exact hrec.ins (by simp)
   have hTi:∀ r c,Tf M' r c=if r < i then Tf M r c else if r=i then 0 else Tf M (r - 1) c:=fun r c=>by
    rw [hM'e,X0M (by omega),f0w]
   have hML':M'.length=i + 3:=by rw [hM'e];simp;omega
   clear hx hMt hM hx2 hM'e
   have hiM:i < M'.length:=by omega
   have hxi:(vs ++ x :: [w9,w10])[i]'(by simp;omega)=x:=by rw [i1h (by omega)];simp [hvl]
   have kr2:=kr.mono d0i hM'.ext
   obtain ⟨v',hsl,kv,hel⟩:=kr2.first (n:=n) (k:=.i64) (by omega)
   have hvs:=kv.slen
   rw [i1E,i1N (by omega)] at hvs
   have b3:=hM'.b3
   rw [hsv1] at b3
   simp [o0J,g3,b3,hsl,hel,hvs]
   refine d0Q (n:=n) (fun k ρ G=>ρ 2=.pointer (some ⟨H.size,0,none⟩)∧ρ 3=.pointer (some ⟨H.size + 1,0,none⟩)∧ρ 6=.pointer (some ⟨p + 1,0,none⟩)∧ρ 8=.func (.func (F.p n0J n0I)) #[] #[.pointer (some ⟨p + 1,0,none⟩),.pointer (some ⟨P7,0,none⟩)]∧ρ 9=w9∧ρ 10=w10∧ρ 77=sA∧ρ 78=.int .i64 (m:Int)∧ρ 79=.int .i64 (i:Int)∧ρ 14=.int .i64 (i:Int)∧ρ 15=wr0∧ρ 16=x∧ρ 89=v' ∧
    ∃ M2,rMd F H H.size (H.size + 1) (p + 1) P7 p n m sv (vs ++ x :: [w9,w10]) M2 sR sD sB vs bs G∧M2.length=i + 3∧Rec W M2∧∀ r c,c < W→Tf M2 r c=if r=i then (if c < k then Tf q.A i c else if n≤c∧c < n + k then -Tf q.A i (c - n) else 0) else Tf M' r c)
    rfl rfl (by decide) (by omega) (by simp) (by simp) ?_ ?_ ?_ ?_
   ·refine ⟨by simp [g2],by simp [g3],by simp [g6],by simp [g8],by simp [g9],by simp [g10],by simp [g77],by simp [gm],by simp [gi],by simp [gi],by simp,by simp,by simp,M',hM',hML',hrec',fun r c hc=>?_⟩
    by_cases hr:r=i
    ·subst hr;rw [h1F rfl,h1C (by omega),h1C (by omega),hTi,h1C (by omega),h1F rfl]
    ·rw [h1C hr]
   ·intro i ρ ρ' G h hI;simpa [h] using hI
   ·clear g2 g3 g6 g8 g9 g10 g77 gi gm hM' hrec' b3 hel hvs kr2 kv ρ
    rintro k ρ G hk gk gn ⟨g2,g3,g6,g8,g9,g10,g77,gm,gi,g14,g15,g16,g89,M2,hM,hM2,hrec2,hTf⟩
    obtain ⟨v'',hsl',kv,_⟩:=(kr.mono d0i hM.ext).first (n:=n) (k:=.i64) (by omega)
    have hvv:v'' = v':=by rw [hsl] at hsl';exact (Option.some.inj hsl').symm
    subst hvv
    have hkC:k < (q.A[i].take n).length:=by rw [i1E];omega
    obtain ⟨cs,ec,hcl,kc⟩:=Sls.load kv hkC (by omega)
    have hcq:(q.A[i].take n)[k]=Tf q.A i k:=by rw [List.getElem_take,K0w hiA (by omega)]
    rw [hcq] at kc
    obtain ⟨sc,hcs,kc⟩:=kc
    rw [hcs] at ec
    have hsz:=hM.ext.1
    simp [o0K,gk,g89,kv.ia hkC,ec,kc.cells,kc.plain,hsz]
    generalize hN:Array.setIfInBounds (Array.push _ _) _ _=G2
    obtain ⟨hx2,b12⟩:=new1 hN
    clear hN
    replace hM:=hM.mono hx2
    replace kc:=kc.mono hx2
    generalize hP12:Array.size G=P12 at *
    simp [o0L,g2,hM.b2,b12]
    refine (c1K (z:=Tf q.A i k) ⟨sc,rfl,kc⟩ hM.ext.1 (hzA _ _) hR).mono ?_
    rintro wx G8 ⟨kx,hx2⟩
    replace hM:=hM.mono hx2
    have hs8:=hM.ext.1
    clear b12 kc kv ec
    have h1L:i < M2.length:=by omega
    have hk1:k < M2[i].length:=by rw [hrec2 i h1L];omega
    have hk2:n + k < M2[i].length:=by rw [hrec2 i h1L];omega
    obtain ⟨bw,hbw,hne,hblt⟩:∃ b,AI.blkOf (adr F.w x k)=[b]∧H.size + 1 ≠ b∧b < G8.size:=by
     have:=hM.bl (i:=i) (j:=k) h1L hk1
     rw [hxi] at this;exact this
    obtain ⟨zz,hzz⟩:∃ z,z=Tf q.A i k:=⟨_,rfl⟩
    rw [← hzz] at kx
    have hlzz:lz zz < 67108864:=by rw [hzz];exact hzA i k
    simp
    refine A0R (by simp) (by decide) (by decide) (by decide) kx hs8 ?_
    intro ρ3 G9 hx9 k13 hb13 hk
    replace hM:=hM.mono hx9
    replace kx:=kx.mono hx9
    have b3:=hM.b3
    rw [hsv1] at b3
    have w3:IntKind.i64.wrap ((n:Int) + k)=(n:Int) + k:=a0Y (by omega) (by omega)
    have i1:=hM.ia (i:=i) (j:=k) h1L hk1
    have i2:=hM.ia (i:=i) (j:=n + k) h1L hk2
    rw [hxi] at i1 i2
    rw [show ((n + k:Nat):Int)=(n:Int) + k by omega] at i2
    refine e0y ?_
    simp [o0M,g2,g3,g16,hM.b2,b3,w3,hk,k13]
    refine (K0u kx (by have:=hM.ext.1;omega) hlzz).mono ?_
    rintro wn G10 ⟨kn,hx2⟩
    replace hM:=hM.mono hx2
    replace kx:=kx.mono hx2
    obtain ⟨G11,st1,hM1,_,hlx1,_⟩:=hM.store (x:=zz) (i:=i) (j:=k) h1L hk1 kx
    have h1L':i < (M2.set i (M2[i].set k zz)).length:=by simp;omega
    have hk2':n + k < (M2.set i (M2[i].set k zz))[i].length:=by rw [hrec2.set h1L i h1L'];omega
    obtain ⟨G12,st2,hM2',_,_,_⟩:=hM1.store (x:=-zz) (i:=i) (j:=n + k) h1L' hk2' (kn.lx hlx1)
    rw [hxi] at st1 st2
    simp [i1,i2,st1,st2,hbw,hne]
    refine Rnd.mk ?_ ?_ ?_
    ·simp [hk,gk]
    ·simp [hk,gn]
    refine ⟨by simp [hk,g2],by simp [hk,g3],by simp [hk,g6],by simp [hk,g8],by simp [hk,g9],by simp [hk,g10],by simp [hk,g77],by simp [hk,gm],by simp [hk,gi],by simp [hk,g14],by simp [hk,g15],by simp [hk,g16],by simp [hk,g89],_,hM2',by simp [hM2],(hrec2.set h1L).set h1L',fun r c hc=>?_⟩
    rw [g0N (W:=W) h1L' hk2',g0N (W:=W) h1L hk1,hTf r c hc,hzz]
    by_cases hr:r=i
    ·subst hr
     simp only [true_and,i1s]
     by_cases c1:c=n + k
     ·rw [h1F c1,h1C (by omega),h1F (by omega),c1,show n + k - n=k by omega]
     ·rw [h1C c1]
      by_cases c2:c=k
      ·rw [h1F c2,h1F (by omega),c2]
      ·rw [h1C c2]
       have p1:(c < k + 1)=(c < k):=k1B (by omega)
       have p2:(n≤c∧c < n + (k + 1))=(n≤c∧c < n + k):=k1B (by omega)
       simp only [p1,p2]
    ·rw [h1C (fun h=>hr h.1),h1C (fun h=>hr h.1),h1C hr,h1C hr]
   ·clear g2 g3 g6 g8 g9 g10 g77 gi gm hM' hrec' b3 hel hvs kr2 kv hsl ρ
    rintro ρ G gk gn ⟨g2,g3,g6,g8,g9,g10,g77,gm,gi,g14,g15,g16,g89,M2,hM,hM2,hrec2,hTf⟩
    have b3:=hM.b3
    rw [hsv1] at b3
    have bp:=hM.bp
    have b6:=hM.b6
    have b2:=hM.b2
    have hiM2:i < M2.length:=by omega
    have hj1:2 * n + i < M2[i].length:=by rw [hrec2 i hiM2];omega
    have w4:IntKind.i64.wrap (2 * (n:Int) + i)=2 * (n:Int) + i:=a0Y (by omega) (by omega)
    have i1:=hM.ia (i:=i) (j:=2 * n + i) hiM2 hj1
    rw [hxi,show ((2 * n + i:Nat):Int)=2 * (n:Int) + i by omega] at i1
    obtain ⟨G2,st1,hM3,_,_,_⟩:=hM.store (x:=1) (i:=i) (j:=2 * n + i) hiM2 hj1 hM.dv
    rw [hxi] at st1
    refine a0B ?_
    simp [o0N,g3,g6,g14,g16,b3,b6,bp,a1u bp,w1,w4,i1,st1]
    obtain ⟨M3,hM3e⟩:∃ M3,M3=M2.set i (M2[i].set (2 * n + i) 1):=⟨_,rfl⟩
    have hrec3:Rec W M3:=by rw [hM3e];exact hrec2.set hiM2
    have hML3:M3.length=i + 3:=by rw [hM3e];simp [hM2]
    have hTf3:∀ r c,c < W→Tf M3 r c=if r=i∧c=2 * n + i then 1 else Tf M2 r c:=fun r c hc=>by rw [hM3e,g0N (W:=W) hiM2 hj1]
    rw [← hM3e] at hM3
    clear b3 bp b6 b2 st1 i1
    have b3:=hM3.b3
    rw [hsv1] at b3
    have bp:=hM3.bp
    have b6:=hM3.b6
    have b2:=hM3.b2
    have kr3:=kr.mono d0i hM3.ext
    have hnl:n < q.A[i].length:=by omega
    obtain ⟨cs,ec,hcl,kc⟩:=Sls.load kr3 hnl (by omega)
    have hbq:q.A[i][n]=bbq q n i:=by unfold bbq;rw [K0w hiA hnl]
    rw [hbq] at kc
    refine l0P ?_
    simp [o0O,g2,g3,g6,g15,g16,b2,b3,b6,bp,kr3.ia hnl,ec]
    have hq1:=fun (R':a0G) (hR':q0u F R')=>c1K (fl:=max H.size G2.size) (R:=R') kc (by have:=hM3.ext.1;omega) (hzA i n) hR'
    refine a0S.mono (hq1 _ (B0Q 2 rfl rfl hR)) ?_
    clear hq1
    rintro wb G4 ⟨kb,hx2⟩
    replace hM3:=hM3.mono hx2
    have hiM3:i < M3.length:=by omega
    have hj2:2 * n + m < M3[i].length:=by rw [hrec3 i hiM3];omega
    have i1:=hM3.ia (i:=i) (j:=2 * n + m) hiM3 hj2
    rw [hxi,e2] at i1
    obtain ⟨G5,st1,hM4,_,_,_⟩:=hM3.store (x:=bbq q n i) (i:=i) (j:=2 * n + m) hiM3 hj2 kb
    rw [hxi] at st1
    simp [i1,st1]
    obtain ⟨M4,hM4e⟩:∃ M4,M4=M3.set i (M3[i].set (2 * n + m) (bbq q n i)):=⟨_,rfl⟩
    have hrec4:Rec W M4:=by rw [hM4e];exact hrec3.set hiM3
    have hML4:M4.length=i + 3:=by rw [hM4e];simp [hML3]
    have hTf4:∀ r c,c < W→Tf M4 r c=if r=i then e0r n m (Tf q.A) (bbq q n) i c else Tf M' r c:=fun r c hc=>by
     rw [hM4e,g0N (W:=W) hiM3 hj2,hTf3 r c hc,hTf r c hc]
     by_cases hr:r=i
     ·subst hr
      simp only [true_and,i1s]
      unfold e0r
      by_cases c0:c=2 * n + m
      ·rw [h1F c0,h1C (by omega),h1C (by omega),h1C (by omega)]
      ·rw [h1C c0]
       by_cases c1:c=2 * n + r
       ·rw [h1F c1,h1C (by omega),h1C (by omega),h1F (by omega),h1F (by omega)]
       ·rw [h1C c1]
        by_cases c2:c < n
        ·rw [h1F c2,h1F c2]
        ·rw [h1C c2,h1C c2]
         by_cases c3:c < 2 * n
         ·rw [h1F (by omega),h1F c3]
         ·rw [h1C (by omega),h1C c3]
          by_cases c4:c < 2 * n + m
          ·rw [h1F c4,h1C (by omega)]
          ·omega
     ·rw [h1C (fun h=>hr h.1),h1C (fun h=>hr h.1),h1C hr,h1C hr]
    rw [← hM4e] at hM4
    clear b3 bp b6 b2 st1 i1 kc ec kr3 kb hx2
    have b3:=hM4.b3
    rw [hsv1] at b3
    have bp:=hM4.bp
    have b6:=hM4.b6
    have b2:=hM4.b2
    have hiM4:i < M4.length:=by omega
    have hj3:2 * n + m < M4[i].length:=by rw [hrec4 i hiM4];omega
    obtain ⟨wv,ev,fv⟩:=hM4.num (i:=i) (j:=2 * n + m) hiM4 hj3
    have i1:=hM4.ia (i:=i) (j:=2 * n + m) hiM4 hj3
    rw [hxi] at ev i1
    rw [e2] at i1
    rw [hTf4 i (2 * n + m) (by omega),h1F rfl,f0D] at fv
    simp [o0P,g3,g14,b3,w1,w4]
    refine a0B ?_
    simp [o0Q,g2,g6,g16,b2,b6,bp,i1,ev]
    refine (r0o fv (by have:=hM4.ext.1;omega) (hzA i n)).mono ?_
    rintro _ G6 ⟨rfl,hx2⟩
    replace hM4:=hM4.mono hx2
    clear b3 bp b6 b2 ev fv i1
    by_cases hneg:bbq q n i < 0
    ·have hc:c0z (bbq q n i) 0 = -1:=by unfold c0z;rw [h1F hneg]
     have bp:=hM4.bp
     have b6:=hM4.b6
     have hslx:=(hM4.rows.own i hiM4).slen
     rw [hxi,hrec4 i hiM4] at hslx
     have w5:IntKind.i64.wrap (2 * (n:Int) + m + i)=2 * (n:Int) + m + i:=a0Y (by omega) (by omega)
     have hx9:(vs ++ x :: [w9,w10])[i + 1]'(by simp;omega)=w9:=by rw [i1h (by omega)];simp [hvl]
     simp [hc,o0R,g6,g14,b6,bp,w5,o0S,g16,hslx]
     refine d0Q (n:=W) (fun k ρ G=>ρ 2=.pointer (some ⟨H.size,0,none⟩)∧ρ 3=.pointer (some ⟨H.size + 1,0,none⟩)∧ρ 6=.pointer (some ⟨p + 1,0,none⟩)∧ρ 8=.func (.func (F.p n0J n0I)) #[] #[.pointer (some ⟨p + 1,0,none⟩),.pointer (some ⟨P7,0,none⟩)]∧ρ 9=w9∧ρ 10=w10∧ρ 77=sA∧ρ 78=.int .i64 (m:Int)∧ρ 79=.int .i64 (i:Int)∧ρ 16=x∧ρ 20=.int .i64 (2 * (n:Int) + m + i) ∧
      ∃ M5,rMd F H H.size (H.size + 1) (p + 1) P7 p n m sv (vs ++ x :: [w9,w10]) M5 sR sD sB vs bs G∧M5.length=i + 3∧Rec W M5∧∀ r c,c < W→Tf M5 r c=if r=i then (if c < k then -e0r n m (Tf q.A) (bbq q n) i c else e0r n m (Tf q.A) (bbq q n) i c) else if r=i + 1 then (if c < k then -s0Z q n m i c - -e0r n m (Tf q.A) (bbq q n) i c else -s0Z q n m i c) else Tf M' r c)
      rfl rfl (by decide) (by omega) (by simp) (by simp) ?_ ?_ ?_ ?_
     ·refine ⟨by simp [g2],by simp [g3],by simp [g6],by simp [g8],by simp [g9],by simp [g10],by simp [g77],by simp [gm],by simp [gi],by simp [g16],by simp,M4,hM4,hML4,hrec4,fun r c hc=>?_⟩
      rw [hTf4 r c hc]
      by_cases hri:r=i
      ·rw [h1F hri,h1F hri,h1C (by omega)]
      ·rw [h1C hri,h1C hri]
       by_cases hri2:r=i + 1
       ·rw [h1F hri2,h1C (by omega),hri2,hTi,h1C (by omega),h1C (by omega),show i + 1 - 1=i by omega,hT2 c hc]
       ·rw [h1C hri2]
     ·intro i ρ ρ' G h hI;simpa [h] using hI
     ·clear g2 g3 g6 g8 g9 g10 g77 gi gm g14 g15 g16 g89 b6 bp hslx hc
      rintro k ρ G hk gk gn ⟨g2,g3,g6,g8,g9,g10,g77,gm,gi,g16,g20,M5,hM,hML5,hrec5,hTf5⟩
      have hiM:i < M5.length:=by omega
      have hki:k < M5[i].length:=by rw [hrec5 i hiM];exact hk
      obtain ⟨wv,ev,fv⟩:=hM.num (i:=i) (j:=k) hiM hki
      have i1:=hM.ia (i:=i) (j:=k) hiM hki
      rw [hxi] at ev i1
      rw [hTf5 i k hk,h1F rfl,h1C (by omega)] at fv
      obtain ⟨oc,hoc⟩:∃ z,z=e0r n m (Tf q.A) (bbq q n) i k:=⟨_,rfl⟩
      rw [← hoc] at fv
      have hlo:lz oc < 67108864:=by
       rw [hoc];unfold e0r
       split
       ·exact hzA _ _
       ·split
        ·rw [h0c];exact hzA _ _
        ·split
         ·split
          ·rw [g0q];decide
          ·rw [d0C];decide
         ·exact hzA _ _
      have b2:=hM.b2
      have hsz:=hM.ext.1
      simp [o0T,gk]
      refine a0B ?_
      simp [o0U,g2,g16,gk,b2,i1,ev]
      refine (K0u fv (by omega) hlo).mono ?_
      rintro wn G2 ⟨kn,hx2⟩
      replace hM:=hM.mono hx2
      obtain ⟨G3,st1,hM6,_,_,hs3⟩:=hM.store (x:=-oc) (i:=i) (j:=k) hiM hki kn
      rw [hxi] at st1
      simp [i1,st1]
      obtain ⟨M6,hM6e⟩:∃ M6,M6=M5.set i (M5[i].set k (-oc)):=⟨_,rfl⟩
      have hrec6:Rec W M6:=by rw [hM6e];exact hrec5.set hiM
      have hML6:M6.length=i + 3:=by rw [hM6e];simp [hML5]
      have hTf6:∀ r c,Tf M6 r c=if r=i∧c=k then -oc else Tf M5 r c:=fun r c=>by rw [hM6e,g0N (W:=W) hiM hki]
      rw [← hM6e] at hM6
      have hiM6:i < M6.length:=by omega
      have hi1M6:i + 1 < M6.length:=by omega
      have hki6:k < M6[i].length:=by rw [hrec6 i hiM6];exact hk
      have hk16:k < M6[i + 1].length:=by rw [hrec6 (i + 1) hi1M6];exact hk
      obtain ⟨wx,ex,fx⟩:=hM6.num (i:=i) (j:=k) hiM6 hki6
      obtain ⟨wl,el,fl9⟩:=hM6.num (i:=i + 1) (j:=k) hi1M6 hk16
      have i2:=hM6.ia (i:=i + 1) (j:=k) hi1M6 hk16
      have i3:=hM6.ia (i:=i) (j:=k) hiM6 hki6
      rw [hxi] at ex i3
      rw [hx9] at el i2
      rw [hTf6 i k,h1F ⟨rfl,rfl⟩] at fx
      rw [hTf6 (i + 1) k,h1C (by omega),hTf5 (i + 1) k hk,h1C (by omega),h1F rfl,h1C (by omega)] at fl9
      have b6:=hM6.b6
      have hsz:=hM6.ext.1
      refine l0P ?_
      simp [o0V,g6,g9,g16,b6,i2,i3,ex,el]
      have hq1:=fun (R':a0G) (hR':q0u F R')=>X0H (fl:=H.size) (R:=R') hsz hM6.bp fl9 fx (by rw [h0c];exact hzL i k (by omega) (by omega)) (by rw [h0c];exact hlo) hR'
      refine a0S.mono (hq1 _ (B0Q 2 rfl rfl hR)) ?_
      clear hq1
      rintro ws G4 ⟨kw,hx4⟩
      replace hM6:=hM6.mono hx4
      obtain ⟨G5,st2,hM7,_,_,_⟩:=hM6.store (x:=-s0Z q n m i k - -oc) (i:=i + 1) (j:=k) hi1M6 hk16 kw
      rw [hx9] at st2
      simp [i2,st2]
      refine Rnd.mk ?_ ?_ ?_
      ·simp [gk]
      ·simp [gn]
      refine ⟨by simp [g2],by simp [g3],by simp [g6],by simp [g8],by simp [g9],by simp [g10],by simp [g77],by simp [gm],by simp [gi],by simp [g16],by simp [g20],_,hM7,by simp [hML6],hrec6.set hi1M6,fun r c hc=>?_⟩
      rw [g0N (W:=W) hi1M6 hk16,hTf6 r c,hTf5 r c hc,hoc]
      have p1:c ≠ k→(c < k + 1)=(c < k):=fun h=>k1B (by omega)
      by_cases hri:r=i
      ·subst hri
       rw [h1C (by omega)]
       by_cases hck:c=k
       ·subst hck;simp
       ·simp [hck,p1 hck]
      ·by_cases hri2:r=i + 1
       ·subst hri2
        by_cases hck:c=k
        ·subst hck;simp
        ·simp [hck,p1 hck]
       ·simp [hri,hri2]
     ·clear g2 g3 g6 g8 g9 g10 g77 gi gm g14 g15 g16 g89 b6 bp hslx hc
      rintro ρ G gk gn ⟨g2,g3,g6,g8,g9,g10,g77,gm,gi,g16,g20,M5,hM5,hML5,hrec5,hTf5'⟩
      have hbz:((l0j n m (bbq q n) i:Nat):Int)=2 * (n:Int) + m + i:=by unfold l0j;rw [h1F hneg];omega
      have hTf5:∀ r c,c < W→Tf M5 r c=if r=i then sg (bbq q n) i * e0r n m (Tf q.A) (bbq q n) i c else if r=i + 1 then -s0Z q n m (i + 1) c else Tf M' r c:=fun r c hc=>by
       rw [hTf5' r c hc]
       by_cases hri:r=i
       ·rw [h1F hri,h1F hri,h1F hc];unfold sg;rw [h1F hneg];omega
       ·rw [h1C hri,h1C hri]
        by_cases hri2:r=i + 1
        ·rw [h1F hri2,h1F hri2,h1F hc]
         have:s0Z q n m (i + 1) c=s0Z q n m i c + -e0r n m (Tf q.A) (bbq q n) i c:=by unfold s0Z;rw [sm,h1F hneg];unfold sg;rw [h1F hneg];omega
         rw [this];omega
        ·rw [h1C hri2,h1C hri2]
      have hx4:=(hM5.rows.own i (by omega)).cells
      rw [hxi] at hx4
      obtain ⟨sR',G8,sB',G9,a1,a2,q1,p1,q2,p2,c1,c2,c3,c4,hbR,hbB,hset⟩:=hM5.push2 (w:=x) hx4.2 (b:=l0j n m (bbq q n) i) (by omega) (by omega)
      have b6:=hM5.b6
      have bp:=hM5.bp
      refine e0y ?_
      have hpl8:=a0l p2
      rw [hbz] at a2
      simp [k0C,g6,g16,g20,b6,bp,hx4.1,a1,q1,p1,a2,q2,p2,c1,c2,c3,c4,hpH,hpl8]
      generalize hS1:Array.setIfInBounds G9 p _=G10
      have hM6:=hset G10 (by rw [← hS1])
      clear hset
      refine ⟨⟨fun h=>(hbR _ h).1 rfl,fun x h=>(hbR x h).1,fun x h=>(hbR x h).2,fun h=>hbB _ h rfl⟩,?_⟩
      refine Rnd.mk ?_ ?_ ?_
      ·simp [gi]
      ·simp [gm]
      refine ⟨by simp [g2],by simp [g3],by simp [g6],by simp [g8],by simp [g9],by simp [g10],by simp [g77],vs ++ [x],bs ++ [l0j n m (bbq q n) i],M5,sR',sB',by simpa using hM6,by simp [hvl],by simp [hbl],hML5,hrec5,fun r c hr hc=>?_,fun c hc=>?_,fun c hc=>?_,fun r hr=>?_⟩
      ·rw [hTf5 r c hc]
       by_cases hri:r=i
       ·subst hri;rw [h1F rfl]
       ·rw [h1C hri,h1C (by omega),hTi,h1F (by omega),hT1 r c (by omega) hc]
      ·rw [hTf5 (i + 1) c hc,h1C (by omega),h1F rfl]
      ·rw [hTf5 (i + 2) c hc,h1C (by omega),h1C (by omega),hTi,h1C (by omega),h1C (by omega)]
       exact hT3 c hc
      ·unfold bf
       rw [h1z]
       by_cases hri:r=i
       ·subst hri
        rw [i1B (by omega),show r - bs.length=0 by omega];rfl
       ·rw [i1u (by omega),← h1z]
        exact hT4 r (by omega)
    ·have hc:¬ c0z (bbq q n i) 0 < 0:=by unfold c0z;rw [h1C hneg];split <;> omega
     have hbz:((l0j n m (bbq q n) i:Nat):Int)=2 * (n:Int) + i:=by unfold l0j;rw [h1C hneg];omega
     obtain ⟨M5,hM5e⟩:∃ M5,M5=M4:=⟨_,rfl⟩
     have hM5:=hM4
     have hML5:=hML4
     have hrec5:=hrec4
     have hTf5:∀ r c,c < W→Tf M4 r c=if r=i then sg (bbq q n) i * e0r n m (Tf q.A) (bbq q n) i c else if r=i + 1 then -s0Z q n m (i + 1) c else Tf M' r c:=fun r c hc=>by
      rw [hTf4 r c hc]
      by_cases hri:r=i
      ·rw [h1F hri,h1F hri];unfold sg;rw [h1C hneg,Int.one_mul]
      ·rw [h1C hri,h1C hri]
       by_cases hri2:r=i + 1
       ·rw [h1F hri2,hri2,hTi,h1C (by omega),h1C (by omega),show i + 1 - 1=i by omega,hT2 c hc]
        have:s0Z q n m (i + 1) c=s0Z q n m i c:=by unfold s0Z;rw [sm,h1C hneg,j1g]
        rw [this]
       ·rw [h1C hri2]
     rw [← hM5e] at hM5 hML5 hrec5 hTf5
     simp [hc]
     have hx4:=(hM5.rows.own i (by omega)).cells
     rw [hxi] at hx4
     obtain ⟨sR',G8,sB',G9,a1,a2,q1,p1,q2,p2,c1,c2,c3,c4,hbR,hbB,hset⟩:=hM5.push2 (w:=x) hx4.2 (b:=l0j n m (bbq q n) i) (by omega) (by omega)
     have b6:=hM5.b6
     have bp:=hM5.bp
     refine e0y ?_
     have hpl8:=a0l p2
     rw [hbz] at a2
     simp [k0C,g6,g16,b6,bp,hx4.1,a1,q1,p1,a2,q2,p2,c1,c2,c3,c4,hpH,hpl8]
     generalize hS1:Array.setIfInBounds G9 p _=G10
     have hM6:=hset G10 (by rw [← hS1])
     clear hset
     refine ⟨⟨fun h=>(hbR _ h).1 rfl,fun x h=>(hbR x h).1,fun x h=>(hbR x h).2,fun h=>hbB _ h rfl⟩,?_⟩
     refine Rnd.mk ?_ ?_ ?_
     ·simp [gi]
     ·simp [gm]
     refine ⟨by simp [g2],by simp [g3],by simp [g6],by simp [g8],by simp [g9],by simp [g10],by simp [g77],vs ++ [x],bs ++ [l0j n m (bbq q n) i],M5,sR',sB',by simpa using hM6,by simp [hvl],by simp [hbl],hML5,hrec5,fun r c hr hc=>?_,fun c hc=>?_,fun c hc=>?_,fun r hr=>?_⟩
     ·rw [hTf5 r c hc]
      by_cases hri:r=i
      ·subst hri;rw [h1F rfl]
      ·rw [h1C hri,h1C (by omega),hTi,h1F (by omega),hT1 r c (by omega) hc]
     ·rw [hTf5 (i + 1) c hc,h1C (by omega),h1F rfl]
     ·rw [hTf5 (i + 2) c hc,h1C (by omega),h1C (by omega),hTi,h1C (by omega),h1C (by omega)]
      exact hT3 c hc
     ·unfold bf
      rw [h1z]
      by_cases hri:r=i
      ·subst hri
       rw [i1B (by omega),show r - bs.length=0 by omega];rfl
      ·rw [i1u (by omega),← h1z]
       exact hT4 r (by omega)
  ·clear g2 g3 g5 g6 g8 g9 g10 g50 hM hM2 hrec hTf gk gn ρ M G
   rintro ρ G gi gm ⟨g2,g3,g6,g8,g9,g10,g77,vs,bs,M,sR,sB,hM,hvl,hbl,hML,hrec,hT1,hT2,hT3,hT4⟩
   have b6:=hM.b6
   have bp:=hM.bp
   have c9:=(hM.rows.own m (by omega)).cells
   have c10:=(hM.rows.own (m + 1) (by omega)).cells
   have r9:(vs ++ [w9,w10])[m]'(by simp;omega)=w9:=by rw [i1h (by omega)];simp [hvl]
   have r10:(vs ++ [w9,w10])[m + 1]'(by simp;omega)=w10:=by rw [i1h (by omega)];simp [hvl]
   rw [r9] at c9
   rw [r10] at c10
   obtain ⟨sR',G2,a1,o1,x1,y1⟩:=A0E hM.heads c9.2 c10.2 (by omega) (bytes:=24) (by omega) hM.ext.1
   have lx1:∀ {e:Nat},F.S ≠ e→LxT e G G2:=fun hne=>hM.heads.lxT hne x1
   have p1:=lx1 (by cases F <;> decide) _ _ _ bp
   have q1:=lx1 (by cases F <;> decide) _ _ _ b6
   have nR6:=hM.heads.ne b6 (by cases F <;> decide)
   have hR':=hM.heads.blkOf
   obtain ⟨cR,pR⟩:=o1.cells
   have hpl:=a0l p1
   refine e0y ?_
   simp [o0W,g6,g9,g10,b6,bp,c9.1,c10.1,a1,q1,p1,cR,pR,hpH,hpl]
   have hnR:¬ (p + 1) ∈ blkW sR:=by
    rcases hR' with h0 | ⟨c,h0,h1⟩
    ·rw [h0];simp
    ·rw [h0,k1v]
     intro h5;exact nR6 (by rw [h1,h5])
   generalize hS:Array.setIfInBounds G2 p _=G3
   have lx3:∀ {e:Nat},F.T ≠ e→LxT e G2 G3:=fun hne=>b0m hS p1 hne
   have q3:=lx3 (by cases F <;> decide) _ _ _ q1
   have hlx:Lx G G3:=fun b ro cs hb=>lx3 (by cases F <;> decide) b ro cs (lx1 (by cases F <;> decide) b ro cs hb)
   refine ⟨hnR,?_⟩
   simp [o0X,g6,q3]
   refine fun _=>⟨p,M,bs,sR',sD,sB,vs ++ [w9,w10],rfl,⟨?_,hpH,(hM.d.lx hlx),o1.lxm (Q':=PV) (lx3 (by cases F <;> decide)) (fun _ _ h=>h),⟨hM.rows.len,fun r hr=>((hM.rows.own r hr).lxm (Q':=F.P) (lx1 (by cases F <;> decide)) (fun cs x hx=>V0C.lx _ _ _ _ (lx1 (by cases F <;> decide)) hx)).lxm (lx3 (by cases F <;> decide)) (fun cs x hx=>V0C.lx _ _ _ _ (lx3 (by cases F <;> decide)) hx),hM.rows.apart⟩,(hM.basis.lxm (Q':=PK) (lx1 (by cases F <;> decide)) (fun _ _ h=>h)).lxm (lx3 (by cases F <;> decide)) (fun _ _ h=>h)⟩,⟨hML,fun r hr=>by rw [hrec r hr,hW],hbl⟩,fun r c hr hc=>?_,fun r hr=>hT4 r hr⟩
   ·rw [a0s hS p1]
   ·by_cases h1:r < m
    ·rw [hT1 r c h1 (by omega),e0D h1]
    ·by_cases h2:r=m
     ·subst h2;rw [hT2 c (by omega),g0V];rfl
     ·have:r=m + 1:=by omega
      subst this;rw [hT3 c (by omega),e0L]
end
end Go.Proofs.YtjlohmnnldbjoaaGreat.AI
