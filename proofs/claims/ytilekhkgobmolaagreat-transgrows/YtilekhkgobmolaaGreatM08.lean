/- Part 9 of the proof. -/
import Derived.Test.YtilekhkgobmolaaGreatM07
set_option linter.unusedVariables false
set_option linter.unusedSimpArgs false
set_option linter.unusedSectionVars false
namespace Go.Proofs.YtilekhkgobmolaaGreat.SX
def sm (f:Nat→Int):Nat→Int
 | 0=>0
 | n + 1=>sm f n + f n
theorem b0m {f g:Nat→Int}:∀ {n:Nat},(∀ i,i < n→f i=g i)→sm f n=sm g n
 | 0,_=>rfl
 | n + 1,h=>by rw [sm,sm,b0m (fun i hi=>h i (by omega)),h n (by omega)]
theorem t0n {f g:Nat→Int}:∀ {n:Nat},sm (fun i=>f i + g i) n=sm f n + sm g n
 | 0=>rfl
 | n + 1=>by simp only [sm];rw [t0n];omega
theorem f0f {a:Int} {f:Nat→Int}:∀ {n:Nat},sm (fun i=>a * f i) n=a * sm f n
 | 0=>by simp [sm]
 | n + 1=>by simp only [sm];rw [f0f,Int.mul_add]
theorem x0X {a b:Int} {f g:Nat→Int} {n:Nat}:sm (fun i=>a * f i + b * g i) n=a * sm f n + b * sm g n:=by
 rw [t0n,f0f,f0f]
theorem e0H {f:Nat→Int}:∀ {n:Nat},(∀ i,i < n→f i=0)→sm f n=0
 | 0,_=>rfl
 | n + 1,h=>by rw [sm,e0H (fun i hi=>h i (by omega)),h n (by omega)];rfl
theorem g0J {f:Nat→Int} {k:Nat}:∀ {n:Nat},k < n→(∀ i,i < n→i ≠ k→f i=0)→sm f n=f k
 | 0,h,_=>by omega
 | n + 1,h,h0=>by
  rw [sm]
  by_cases hk:k=n
  ·subst hk;rw [e0H (fun i hi=>h0 i (by omega) (by omega))];omega
  ·rw [g0J (by omega) (fun i hi hne=>h0 i (by omega) hne),h0 n (by omega) (by omega)];omega
theorem U0g {f:Nat→Int} {k l:Nat}:∀ {n:Nat},k < l→l < n→(∀ i,i < n→i ≠ k→i ≠ l→f i=0)→sm f n=f k + f l
 | 0,_,h,_=>by omega
 | n + 1,h1,h,h0=>by
  rw [sm]
  by_cases hl:l=n
  ·subst hl;rw [g0J (k:=k) h1 (fun i hi hne=>h0 i (by omega) hne (by omega))]
  ·rw [U0g h1 (by omega) (fun i hi ha hb=>h0 i (by omega) ha hb),h0 n (by omega) (by omega) (by omega)];omega
theorem j0S {f:Nat→Int} {k:Nat}:∀ {n:Nat},k < n→sm f n=f k + sm (fun i=>if i=k then 0 else f i) n
 | 0,h=>by omega
 | n + 1,h=>by
  simp only [sm]
  by_cases hk:k=n
  ·subst hk
   rw [i1n rfl,b0m (f:=fun i=>if i=k then 0 else f i) (g:=f) (fun i hi=>by rw [i1k (by omega)])];omega
  ·rw [j0S (k:=k) (f:=f) (by omega),i1k (by omega)];omega
def skip (k i:Nat):Nat:=if i < k then i else i + 1
def up {α:Type} (v:Nat→α) (k:Nat) (x:α):Nat→α:=fun i=>if i=k then x else v i
theorem b0o {α:Type} {v:Nat→α} {k:Nat} {x:α}:up v k x k=x:=by simp [up]
theorem e0J {α:Type} {v:Nat→α} {k i:Nat} {x:α} (h:i ≠ k):up v k x i=v i:=by simp [up,h]
def sgn (k:Nat):Int:=if k % 2=0 then 1 else -1
theorem M0u (k:Nat):sgn (k + 1) = -sgn k:=by unfold sgn;split <;> split <;> omega
def det:Nat→(Nat→Nat→Int)→Int
 | 0,_=>1
 | m + 1,v=>sm (fun k=>sgn (k + m) * (v k m * det m (fun i=>v (skip k i)))) (m + 1)
theorem j0n:∀ {m:Nat} {v w:Nat→Nat→Int},(∀ i r,i < m→r < m→v i r=w i r)→det m v=det m w
 | 0,_,_,_=>rfl
 | m + 1,v,w,h=>by
  unfold det
  refine b0m fun k hk=>?_
  rw [h k m hk (by omega),j0n (v:=fun i=>v (skip k i)) (w:=fun i=>w (skip k i)) (fun i r hi hr=>h _ r (by unfold skip;split <;> omega) (by omega))]
theorem v0N {v:Nat→Nat→Int} {k i:Nat} {x:Nat→Int} (h:i ≠ k):(fun j=>up v i x (skip k j))=up (fun j=>v (skip k j)) (if i < k then i else i - 1) x:=by
 funext j
 unfold up skip
 by_cases hik:i < k <;> by_cases hjk:j < k <;> simp only [hik,hjk,i1X,j1h]
 ·by_cases e:j + 1=i
  ·omega
  ·rw [i1k e,i1k (by omega)]
 ·by_cases e:j=i
  ·omega
  ·rw [i1k e,i1k (by omega)]
 ·by_cases e:j + 1=i
  ·rw [i1n e,i1n (by omega)]
  ·rw [i1k e,i1k (by omega)]
theorem h0K {v:Nat→Nat→Int} {k:Nat} {x:Nat→Int}:(fun j=>up v k x (skip k j))=fun j=>v (skip k j):=by
 funext j
 unfold up skip
 by_cases hjk:j < k <;> simp only [hjk,i1X,j1h]
 ·rw [i1k (by omega)]
 ·rw [i1k (by omega)]
theorem i0N {a b:Int} {x y:Nat→Int}:∀ {m:Nat} {v:Nat→Nat→Int} {i:Nat},i < m →
  det m (up v i (fun r=>a * x r + b * y r))=a * det m (up v i x) + b * det m (up v i y)
 | 0,_,_,h=>by omega
 | m + 1,v,i,h=>by
  unfold det
  rw [← x0X]
  refine b0m fun k hk=>?_
  by_cases e:i=k
  ·subst e
   rw [h0K,h0K,h0K,b0o,b0o,b0o]
   generalize det m _=D
   grind
  ·rw [v0N e,v0N e,v0N e,e0J (j1W e),e0J (j1W e),e0J (j1W e),i0N (by split <;> omega)]
   generalize det m _=D
   generalize det m _=D2
   grind
theorem j0b {v:Nat→Nat→Int} {i:Nat}:up v i (v i)=v:=by
 funext j;unfold up;split
 ·rename_i h;rw [h]
 ·rfl
theorem p0N:∀ {m:Nat} {v:Nat→Nat→Int} {i:Nat},i + 1 < m→(∀ r,v i r=v (i + 1) r)→det m v=0
 | 0,_,_,h,_=>by omega
 | m + 1,v,i,h,e=>by
  unfold det
  rw [U0g (k:=i) (l:=i + 1) (by omega) h]
  ·have e1:(fun j=>v (skip i j))=fun j=>v (skip (i + 1) j):=by
    funext j r
    unfold skip
    by_cases h1:j < i
    ·rw [i1n h1,i1n (by omega)]
    ·rw [i1k h1]
     by_cases h2:j=i
     ·subst h2;rw [i1n (by omega)];exact (e r).symm
     ·rw [i1k (by omega)]
   rw [e1,e m,show i + 1 + m=(i + m) + 1 by omega,M0u,Int.neg_mul];omega
  ·intro k hk h1 h2
   have:det m (fun j=>v (skip k j))=0:=by
    by_cases hki:k < i
    ·refine p0N (i:=i - 1) (by omega) fun r=>?_
     unfold skip
     rw [i1k (by omega),i1k (by omega),show i - 1 + 1=i by omega];exact e r
    ·refine p0N (i:=i) (by omega) fun r=>?_
     unfold skip
     rw [i1n (by omega),i1n (by omega)];exact e r
   rw [this];simp
theorem n0x {v:Nat→Nat→Int} {i j:Nat} {x y:Nat→Int} (h:i ≠ j):up (up v i x) j y=up (up v j y) i x:=by
 funext k;unfold up;by_cases e1:k=i <;> by_cases e2:k=j <;> simp [e1,e2]
 ·omega
 ·intro h3;omega
 ·intro h3;omega
theorem t0L {m:Nat} {v:Nat→Nat→Int} {i:Nat} {x y:Nat→Int} (h:i < m):det m (up v i (fun r=>x r + y r))=det m (up v i x) + det m (up v i y):=by
 have:=i0N (a:=1) (b:=1) (x:=x) (y:=y) (v:=v) h
 simpa using this
theorem K0j {m:Nat} {v:Nat→Nat→Int} {i:Nat} (h:i + 1 < m):det m (up (up v i (v (i + 1))) (i + 1) (v i)) = - det m v:=by
 have h0:∀ x,det m (up (up v i x) (i + 1) x)=0:=fun x=>p0N h (fun r=>by rw [b0o,e0J (by omega),b0o])
 have h1:=h0 (fun r=>v i r + v (i + 1) r)
 rw [t0L h,n0x (by omega),t0L (by omega),n0x (i:=i) (j:=i + 1) (x:=fun r=>v i r + v (i + 1) r) (by omega),t0L (by omega)] at h1
 have e1:det m (up (up v (i + 1) (v i)) i (v i))=0:=by rw [← n0x (by omega)];exact h0 _
 have e2:det m (up (up v i (v (i + 1))) (i + 1) (v (i + 1)))=0:=h0 _
 have e2':det m (up (up v (i + 1) (v (i + 1))) i (v (i + 1)))=0:=by rw [← n0x (by omega)];exact h0 _
 have e3:up (up v i (v i)) (i + 1) (v (i + 1))=v:=by rw [j0b,j0b]
 have e4:up (up v (i + 1) (v i)) i (v (i + 1))=up (up v i (v (i + 1))) (i + 1) (v i):=(n0x (by omega)).symm
 have e5:up (up v (i + 1) (v (i + 1))) i (v i)=v:=by rw [j0b,j0b]
 grind
theorem t0M {m:Nat}:∀ (n:Nat) {v:Nat→Nat→Int} {i:Nat},i + n + 1 < m→(∀ r,v i r=v (i + n + 1) r)→det m v=0
 | 0,v,i,h,e=>p0N h e
 | n + 1,v,i,h,e=>by
  have h1:=K0j (m:=m) (v:=v) (i:=i + n + 1) (by omega)
  rw [t0M n (v:=up (up v (i + n + 1) (v (i + n + 1 + 1))) (i + n + 1 + 1) (v (i + n + 1))) (i:=i) (by omega) (fun r=>?_)] at h1
  ·omega
  ·rw [e0J (by omega),e0J (by omega),e0J (by omega),b0o];exact e r
theorem w0n {m:Nat} {v:Nat→Nat→Int} {i j:Nat} (hi:i < m) (hj:j < m) (hne:i ≠ j) (e:∀ r,v i r=v j r):det m v=0:=by
 by_cases h:i < j
 ·exact t0M (j - i - 1) (i:=i) (by omega) (fun r=>by rw [show i + (j - i - 1) + 1=j by omega];exact e r)
 ·exact t0M (i - j - 1) (i:=j) (by omega) (fun r=>by rw [show j + (i - j - 1) + 1=i by omega];exact (e r).symm)
theorem t0N {m:Nat} {v:Nat→Nat→Int} {k:Nat} {t:Nat→Int} {x:Nat→Nat→Int} (h:k < m):∀ n:Nat,
  det m (up v k (fun r=>sm (fun i=>t i * x i r) n))=sm (fun i=>t i * det m (up v k (x i))) n
 | 0=>by
  have:=i0N (a:=0) (b:=0) (x:=fun _=>0) (y:=fun _=>0) (v:=v) h
  simp [sm] at this ⊢;exact this
 | n + 1=>by
  have:=i0N (a:=1) (b:=t n) (x:=fun r=>sm (fun i=>t i * x i r) n) (y:=x n) (v:=v) h
  simp only [sm,Int.one_mul] at this ⊢
  rw [this,t0N h n]
theorem M0P {m:Nat} {v:Nat→Nat→Int} {a t:Nat→Int} {d:Int} {k:Nat} (hk:k < m) (h:∀ r,r < m→d * a r=sm (fun i=>t i * v i r) m):d * det m (up v k a)=t k * det m v:=by
 have h1:=i0N (a:=d) (b:=0) (x:=a) (y:=a) (v:=v) hk
 rw [Int.zero_mul,j1Q] at h1
 rw [← h1]
 have h2:det m (up v k (fun r=>d * a r + 0 * a r))=det m (up v k (fun r=>sm (fun i=>t i * v i r) m)):=by
  refine j0n fun i r hi hr=>?_
  unfold up;split
  ·show d * a r + 0 * a r=sm (fun i=>t i * v i r) m;rw [← h r hr];omega
  ·rfl
 rw [h2,t0N hk,g0J hk]
 ·rw [j0b]
 ·intro i hi hne
  rw [w0n hk hi (j1W hne) (fun r=>by rw [b0o,e0J hne])];simp
def j0V (i:Nat):Nat→Int:=fun r=>if r=i then 1 else 0
theorem w0o:∀ m:Nat,det m j0V=1
 | 0=>rfl
 | m + 1=>by
  unfold det
  rw [g0J (k:=m) (by omega)]
  ·have:det m (fun i=>j0V (skip m i))=det m j0V:=j0n (fun i r hi hr=>by unfold skip;rw [i1n hi])
   rw [this,w0o m]
   unfold j0V sgn
   rw [i1n (by omega),i1n rfl];rfl
  ·intro i hi hne
   unfold j0V;rw [i1k (by omega)];simp
def fac:Nat→Nat
 | 0=>1
 | n + 1=>(n + 1) * fac n
theorem x0W {f:Nat→Int} {b:Nat}:∀ {n:Nat},(∀ i,i < n→(f i).natAbs≤b)→(sm f n).natAbs≤n * b
 | 0,_=>by simp [sm]
 | n + 1,h=>by
  have h1:=x0W (fun i hi=>h i (by omega)) (n:=n)
  have h2:=h n (by omega)
  rw [sm,i1D,i1W]
  have:=Int.natAbs_add_le (sm f n) (f n)
  omega
theorem l0U {b:Nat}:∀ {m:Nat} {v:Nat→Nat→Int},(∀ i r,i < m→r < m→(v i r).natAbs≤b)→(det m v).natAbs≤fac m * b ^ m
 | 0,_,_=>by simp [det,fac]
 | m + 1,v,h=>by
  unfold det
  have h1:∀ k,k < m + 1→(sgn (k + m) * (v k m * det m (fun i=>v (skip k i)))).natAbs≤fac m * b ^ (m + 1):=by
   intro k hk
   have h2:=l0U (v:=fun i=>v (skip k i)) (m:=m) (b:=b) (fun i r hi hr=>h _ r (by unfold skip;split <;> omega) (by omega))
   have h3:=h k m hk (by omega)
   have h4:(sgn (k + m)).natAbs=1:=by unfold sgn;split <;> rfl
   rw [j1R,j1R,h4,i1W]
   calc _≤b * (fac m * b ^ m):=j1f h3 h2
    _=fac m * b ^ (m + 1):=by rw [i1G];grind
  have:=x0W h1
  unfold fac
  rw [i1z];exact this
end Go.Proofs.YtilekhkgobmolaaGreat.SX
namespace Go.Proofs.YtilekhkgobmolaaGreat.SX
structure Inv (M C:Nat) (A T b:Nat→Nat→Int) (d e:Int):Prop where
 pos:0 < d
 eps:e * e=1
 dt:d=e * det M b
 col:∀ c,c≤C→∀ r,r < M→d * A c r=sm (fun i=>T i c * b i r) M
variable {M C:Nat} {A T b:Nat→Nat→Int} {d e:Int}
def co (M:Nat) (b:Nat→Nat→Int) (e:Int) (k:Nat) (v:Nat→Int):Int:=e * det M (up b k v)
theorem f0n {k:Nat} {v w:Nat→Int} (h:∀ r,r < M→v r=w r):co M b e k v=co M b e k w:=by
 unfold co;congr 1
 exact j0n fun i r _ hr=>by unfold up;split;exact h r hr;rfl
theorem Inv.entry (h:Inv M C A T b d e) {k c:Nat} (hk:k < M) (hc:c≤C):co M b e k (A c)=T k c:=by
 have h1:=M0P hk (h.col c hc)
 have h2:=h.dt
 have h3:=h.pos
 have h4:=h.eps
 unfold co
 have hne:det M b ≠ 0:=by intro h0;rw [h0] at h2;omega
 have:det M b * (e * det M (up b k (A c)))=det M b * T k c:=by
  have:e * d * det M (up b k (A c))=e * (T k c * det M b):=by rw [k1y,h1]
  rw [h2] at this
  have e2:e * (e * det M b)=det M b:=by rw [← k1y,h4,Int.one_mul]
  rw [e2] at this
  rw [← k1y,Int.mul_comm (det M b) e]
  have h5:e * (det M b * det M (up b k (A c)))=e * (e * (T k c * det M b)):=by rw [this]
  rw [← k1y e e,h4,Int.one_mul] at h5
  rw [k1y,h5];grind
 exact j1X hne this
theorem Inv.basis (h:Inv M C A T b d e) {k i:Nat} (hk:k < M) (hi:i < M):co M b e k (b i)=if k=i then d else 0:=by
 unfold co
 by_cases hki:k=i
 ·subst hki;rw [i1n rfl,j0b];exact h.dt.symm
 ·rw [i1k hki,w0n hk hi hki (fun r=>by rw [b0o,e0J (j1W hki)])];simp
theorem M0O {k:Nat} (hk:k < M) {t:Nat→Int} {x:Nat→Nat→Int} {n:Nat}:co M b e k (fun r=>sm (fun i=>t i * x i r) n)=sm (fun i=>t i * co M b e k (x i)) n:=by
 unfold co
 rw [t0N hk,← f0f]
 exact b0m fun i _=>by grind
theorem M0N {k:Nat} (hk:k < M) {a c:Int} {x y:Nat→Int}:co M b e k (fun r=>a * x r + c * y r)=a * co M b e k x + c * co M b e k y:=by
 unfold co;rw [i0N hk];grind
theorem Y0w {k:Nat} (hk:k < M) {a:Int} {x:Nat→Int}:co M b e k (fun r=>a * x r)=a * co M b e k x:=by
 have:=M0N (M:=M) (b:=b) (e:=e) hk (a:=a) (c:=0) (x:=x) (y:=x)
 rw [Int.zero_mul,j1Q] at this
 rw [← this];exact f0n fun r _=>by omega
theorem Inv.col1 (h:Inv M C A T b d e) {k i c:Nat} (hk:k < M) (hi:i < M) (hc:c≤C) (hb:∀ r,r < M→b i r=A c r):T k c=if k=i then d else 0:=by
 rw [← h.entry hk hc,← h.basis hk hi]
 exact f0n fun r hr=>(hb r hr).symm
def pv (T:Nat→Nat→Int) (i j:Nat) (d:Int):Nat→Nat→Int:=fun k c=>if k=i then T i c else (T k c * T i j - T k j * T i c) / d
theorem Inv.pivot_key (h:Inv M C A T b d e) {i j:Nat} (hi:i < M) (hj:j≤C) (hp:T i j ≠ 0) {k c:Nat} (hk:k < M) (hc:c≤C) :
  T i j=e * det M (up b i (A j))∧d * co M (up b i (A j)) e k (A c)=if k=i then d * T i c else T k c * T i j - T k j * T i c:=by
 have h1:T i j=e * det M (up b i (A j)):=(h.entry hi hj).symm
 refine ⟨h1,?_⟩
 have h3:=h.pos
 have h4:=h.eps
 let U:Nat→Int:=fun k=>if k=i then d * T i c else T k c * T i j - T k j * T i c
 have hU:∀ r,r < M→(T i j * d) * A c r=sm (fun k=>U k * up b i (A j) k r) M:=by
  intro r hr
  have hcc:=h.col c hc r hr
  have hcj:=h.col j hj r hr
  rw [j0S hi] at hcc hcj
  rw [j0S hi]
  have e1:U i * up b i (A j) i r=T i c * (d * A j r):=by simp only [U,i1X,b0o];grind
  have e2:sm (fun k=>if k=i then 0 else U k * up b i (A j) k r) M=T i j * sm (fun k=>if k=i then 0 else T k c * b k r) M + -(T i c) * sm (fun k=>if k=i then 0 else T k j * b k r) M:=by
   rw [← x0X]
   refine b0m fun k _=>?_
   by_cases hki:k=i
   ·simp [hki]
   ·simp only [i1k hki,U,e0J hki];grind
  rw [e1,e2,hcj,k1y,hcc]
  grind
 have h5:=M0P hk hU
 rw [k1y] at h5
 have h6:T i j * (d * co M (up b i (A j)) e k (A c))=T i j * U k:=by
  unfold co
  have:e * (T i j * (d * det M (up (up b i (A j)) k (A c))))=e * (U k * det M (up b i (A j))):=by rw [h5]
  have h7:e * (U k * det M (up b i (A j)))=U k * T i j:=by rw [h1];grind
  rw [h7] at this
  grind
 exact j1X hp h6
theorem Inv.pv_eq (h:Inv M C A T b d e) {i j:Nat} (hi:i < M) (hj:j≤C) (hp:T i j ≠ 0) {k c:Nat} (hk:k < M) (hc:c≤C):co M (up b i (A j)) e k (A c)=pv T i j d k c:=by
 have h1:=(h.pivot_key hi hj hp hk hc).2
 have h3:=h.pos
 unfold pv
 by_cases hki:k=i
 ·rw [i1n hki] at h1 ⊢;exact j1X (by omega) h1
 ·rw [i1k hki] at h1 ⊢;rw [← h1,Int.mul_ediv_cancel_left _ (by omega)]
theorem Inv.exact (h:Inv M C A T b d e) {i j:Nat} (hi:i < M) (hj:j≤C) (hp:T i j ≠ 0) {k c:Nat} (hk:k < M) (hc:c≤C) (hki:k ≠ i):T k c * T i j - T k j * T i c=d * pv T i j d k c:=by
 rw [← h.pv_eq hi hj hp hk hc,(h.pivot_key hi hj hp hk hc).2,i1k hki]
theorem Inv.pivot (h:Inv M C A T b d e) {i j:Nat} (hi:i < M) (hj:j≤C) (hp:0 < T i j):Inv M C A (pv T i j d) (up b i (A j)) (T i j) e where
 pos:=hp
 eps:=h.eps
 dt:=(h.pivot_key hi hj (by omega) hi hj).1
 col:=fun c hc r hr=>by
  have h3:=h.pos
  have hcc:=h.col c hc r hr
  have hcj:=h.col j hj r hr
  rw [j0S hi] at hcc hcj
  refine j1X (a:=d) (by omega) ?_
  rw [← f0f,j0S hi]
  have e1:d * (pv T i j d i c * up b i (A j) i r)=T i c * (d * A j r):=by simp only [pv,i1X,b0o];grind
  have e2:sm (fun k=>if k=i then 0 else d * (pv T i j d k c * up b i (A j) k r)) M=T i j * sm (fun k=>if k=i then 0 else T k c * b k r) M + -(T i c) * sm (fun k=>if k=i then 0 else T k j * b k r) M:=by
   rw [← x0X]
   refine b0m fun k hk=>?_
   by_cases hki:k=i
   ·simp [hki]
   ·simp only [i1k hki,e0J hki]
    have:=h.exact hi hj (by omega) hk hc hki
    rw [← k1y,← this];grind
  rw [e1,e2,hcj]
  have:d * (T i j * A c r)=T i j * (d * A c r):=by grind
  rw [this,hcc]
  grind
def ng (T:Nat→Nat→Int) (i:Nat):Nat→Nat→Int:=fun k c=>if k=i then -T i c else T k c
theorem Inv.turn (h:Inv M C A T b d e) {i:Nat} (hi:i < M):Inv M C A (ng T i) (up b i (fun r=>-b i r)) d (-e) where
 pos:=h.pos
 eps:=by have:=h.eps;grind
 dt:=by
  have h1:=i0N (m:=M) (v:=b) (i:=i) hi (a:=-1) (b:=0) (x:=b i) (y:=b i)
  rw [j0b] at h1
  have:(fun r=>(-1:Int) * b i r + 0 * b i r)=fun r=>-b i r:=by funext r;omega
  rw [this] at h1
  rw [h1];have:=h.dt;grind
 col:=fun c hc r hr=>by
  rw [h.col c hc r hr]
  refine b0m fun k hk=>?_
  by_cases hki:k=i
  ·subst hki;simp only [ng,i1X,b0o];grind
  ·simp only [ng,i1k hki,e0J hki]
theorem Inv.bound (h:Inv M C A T b d e) {B:Nat} (hb:∀ i r,i < M→r < M→(b i r).natAbs≤B) (hA:∀ c r,c≤C→r < M→(A c r).natAbs≤B) {k c:Nat} (hk:k < M) (hc:c≤C):(T k c).natAbs≤fac M * B ^ M:=by
 have h1:e.natAbs=1:=by
  have:=h.eps
  have h2:(e * e).natAbs=1:=by rw [this];rfl
  rw [j1R] at h2
  exact Nat.eq_one_of_mul_eq_one_left h2
 rw [← h.entry hk hc]
 unfold co
 rw [j1R,h1,i1W]
 refine l0U fun i r hi hr=>?_
 unfold up;split
 ·exact hA c r hc hr
 ·exact hb i r hi hr
theorem Inv.bound_d (h:Inv M C A T b d e) {B:Nat} (hb:∀ i r,i < M→r < M→(b i r).natAbs≤B):d.natAbs≤fac M * B ^ M:=by
 have h1:e.natAbs=1:=by
  have:=h.eps
  have h2:(e * e).natAbs=1:=by rw [this];rfl
  rw [j1R] at h2
  exact Nat.eq_one_of_mul_eq_one_left h2
 rw [h.dt,j1R,h1,i1W]
 exact l0U hb
theorem Inv.first:Inv M C A (fun i c=>A c i) j0V 1 1 where
 pos:=by omega
 eps:=rfl
 dt:=by rw [w0o];rfl
 col:=fun c hc r hr=>by
  rw [g0J hr]
  ·simp [j0V]
  ·intro i hi hne;unfold j0V;rw [i1k (j1W hne)];omega
end Go.Proofs.YtilekhkgobmolaaGreat.SX
namespace Go.Proofs.YtilekhkgobmolaaGreat.SX
structure Tab (m C:Nat) (A:Nat→Nat→Int) (neg:Nat→Prop) (T:Nat→Nat→Int) (base:Nat→Nat) (d:Int):Prop where
 inv:∃ b e,Inv (m + 2) C A T b d e∧(∀ i,i < m→(base i < C∧∀ r,r < m + 2→b i r=A (base i) r) ∨ (base i=C + i∧neg i∧∀ r,b i r=j0V i r))∧(∀ r,b m r=j0V m r)∧(∀ r,b (m + 1) r=j0V (m + 1) r)
 rhs:∀ i,i < m→0≤T i C
variable {m C:Nat} {A:Nat→Nat→Int} {neg:Nat→Prop} {T T':Nat→Nat→Int} {base base':Nat→Nat} {d d':Int}
theorem Tab.pos (h:Tab m C A neg T base d):0 < d:=by obtain ⟨b,e,hi,_⟩:=h.inv;exact hi.pos
theorem Tab.base_lt (h:Tab m C A neg T base d) {i:Nat} (hi:i < m):base i < C + m:=by
 obtain ⟨b,e,_,h1,_⟩:=h.inv
 rcases h1 i hi with ⟨h2,_⟩ | ⟨h2,_⟩ <;> omega
theorem Tab.col (h:Tab m C A neg T base d) {k i:Nat} (hk:k < m + 2) (hi:i < m) (hb:base i < C):T k (base i)=if k=i then d else 0:=by
 obtain ⟨b,e,hI,h1,_⟩:=h.inv
 rcases h1 i hi with ⟨_,h2⟩ | ⟨h2,_⟩
 ·exact hI.col1 hk (by omega) (by omega) h2
 ·omega
theorem Tab.inj (h:Tab m C A neg T base d) {i k:Nat} (hi:i < m) (hk:k < m) (hb:base i < C) (he:base i=base k):i=k:=by
 have h1:=h.col (k:=i) (by omega) hi hb
 have h2:=h.col (k:=i) (by omega) hk (by omega)
 have:=h.pos
 rw [he,h2,i1n rfl] at h1
 by_cases h3:i=k
 ·exact h3
 ·rw [i1k h3] at h1;omega
theorem Y0y (h:Tab m C A neg T base d) (h':Tab m C A neg T' base' d') {g:Nat} (hg:g=m ∨ g=m + 1) (ha:∀ i,i < m→¬ base i < C→¬ base' i < C) {c:Nat} (hc:c≤C) :
  d * T' g c=d' * T g c + sm (fun i=>if base i < C then T i c * T' g (base i) else 0) m:=by
 obtain ⟨b,e,hI,h1,h2,h3⟩:=h.inv
 obtain ⟨b',e',hI',h1',h2',h3'⟩:=h'.inv
 have hgM:g < m + 2:=by omega
 have k1:co (m + 2) b' e' g (fun r=>d * A c r)=co (m + 2) b' e' g (fun r=>sm (fun i=>T i c * b i r) (m + 2)):=f0n fun r hr=>hI.col c hc r hr
 rw [Y0w hgM,M0O hgM,hI'.entry hgM hc] at k1
 rw [k1]
 show sm _ m + T m c * co (m + 2) b' e' g (b m) + T (m + 1) c * co (m + 2) b' e' g (b (m + 1))=_
 have e1:co (m + 2) b' e' g (b m)=if g=m then d' else 0:=by
  rw [← hI'.basis hgM (i:=m) (by omega)];exact f0n fun r _=>by rw [h2,h2']
 have e2:co (m + 2) b' e' g (b (m + 1))=if g=m + 1 then d' else 0:=by
  rw [← hI'.basis hgM (i:=m + 1) (by omega)];exact f0n fun r _=>by rw [h3,h3']
 have e3:sm (fun i=>T i c * co (m + 2) b' e' g (b i)) m=sm (fun i=>if base i < C then T i c * T' g (base i) else 0) m:=by
  refine b0m fun i hi=>?_
  rcases h1 i hi with ⟨k2,k3⟩ | ⟨k2,_,k3⟩
  ·rw [i1n k2,f0n (w:=A (base i)) k3,hI'.entry hgM (by omega)]
  ·rw [i1k (by omega)]
   rcases h1' i hi with ⟨k4,_⟩ | ⟨_,_,k5⟩
   ·exact i1A k4 (ha i hi (by omega))
   ·rw [f0n (w:=b' i) (fun r _=>by rw [k3,k5]),hI'.basis hgM (by omega),i1k (by omega)];simp
 rw [e1,e2,e3]
 rcases hg with rfl | rfl
 ·simp;grind
 ·simp;grind
theorem U0e {f:Nat→Int}:∀ {n:Nat},0 < sm f n→∃ i,i < n∧0 < f i
 | 0,h=>by simp [sm] at h
 | n + 1,h=>by
  rw [sm] at h
  by_cases h1:0 < sm f n
  ·obtain ⟨i,hi,h2⟩:=U0e h1;exact ⟨i,by omega,h2⟩
  ·exact ⟨n,by omega,by omega⟩
structure Run (m C g:Nat) (A:Nat→Nat→Int) (neg:Nat→Prop) (N:Nat) (T:Nat→Nat→Nat→Int) (base:Nat→Nat→Nat) (d:Nat→Int) (s r:Nat→Nat):Prop where
 tab:∀ k,k≤N→Tab m C A neg (T k) (base k) (d k)
 sC:∀ k,k < N→s k < C
 rm:∀ k,k < N→r k < m
 ent:∀ k,k < N→T k g (s k) < 0
 low:∀ k,k < N→∀ c,c < s k→0≤T k g c
 piv:∀ k,k < N→0 < T k (r k) (s k)
 min:∀ k,k < N→∀ i,i < m→0 < T k i (s k)→T k (r k) C * T k i (s k) < T k i C * T k (r k) (s k) ∨ (T k (r k) C * T k i (s k)=T k i C * T k (r k) (s k)∧base k (r k)≤base k i)
 nxt:∀ k,k < N→∀ i c,i < m + 2→c≤C→T (k + 1) i c=pv (T k) (r k) (s k) (d k) i c
 nb:∀ k,k < N→∀ i,i < m→base (k + 1) i=if i=r k then s k else base k i
 nd:∀ k,k < N→d (k + 1)=T k (r k) (s k)
section
variable {g N:Nat} {T:Nat→Nat→Nat→Int} {base:Nat→Nat→Nat} {d:Nat→Int} {s r:Nat→Nat}
theorem Run.change (h:Run m C g A neg N T base d s r) {i:Nat} (hi:i < m):∀ (n p:Nat),p + n≤N→base (p + n) i ≠ base p i→∃ k,p≤k∧k < p + n∧r k=i∧base k i=base p i∧base (k + 1) i ≠ base p i
 | 0,p,_,hne=>i1A rfl hne
 | n + 1,p,hN,hne=>by
  by_cases h1:base (p + n) i=base p i
  ·refine ⟨p + n,by omega,by omega,?_,h1,hne⟩
   by_cases h2:i=r (p + n)
   ·exact h2.symm
   ·exfalso;apply hne
    have:=h.nb (p + n) (by omega) i hi
    rw [i1k h2] at this
    rw [show p + (n + 1)=p + n + 1 by omega,this,h1]
  ·obtain ⟨k,a1,a2,a3⟩:=h.change hi n p (by omega) h1
   exact ⟨k,a1,by omega,a3⟩
theorem Run.enters (h:Run m C g A neg N T base d s r) {i:Nat} (hi:i < m):∀ (n p:Nat),p + n≤N→base p i ≠ base (p + n) i→∃ k,p≤k∧k < p + n∧r k=i∧s k=base (p + n) i
 | 0,p,_,hne=>i1A rfl hne
 | n + 1,p,hN,hne=>by
  have h3:=h.nb (p + n) (by omega) i hi
  rw [← show p + (n + 1)=p + n + 1 by omega] at h3
  by_cases h2:i=r (p + n)
  ·rw [i1n h2] at h3
   exact ⟨p + n,by omega,by omega,h2.symm,h3.symm⟩
  ·rw [i1k h2] at h3
   obtain ⟨k,a1,a2,a3,a4⟩:=h.enters hi n p (by omega) (by rw [← h3];exact hne)
   exact ⟨k,a1,by omega,a3,by rw [a4,h3]⟩
theorem Run.real (h:Run m C g A neg N T base d s r) {i:Nat} (hi:i < m):∀ (n p:Nat),p + n≤N→base p i < C→base (p + n) i < C
 | 0,_,_,hb=>hb
 | n + 1,p,hN,hb=>by
  have h1:=h.real hi n p (by omega) hb
  have:=h.nb (p + n) (by omega) i hi
  rw [show p + (n + 1)=p + n + 1 by omega,this]
  split
  ·exact h.sC _ (by omega)
  ·exact h1
theorem Run.grow (h:Run m C g A neg N T base d s r) (hg:g=m ∨ g=m + 1) {k:Nat} (hk:k < N):T k g C * d (k + 1)≤T (k + 1) g C * d k∧(T k g C * d (k + 1)=T (k + 1) g C * d k→T k (r k) C=0):=by
 have h1:=h.nxt k hk g C (by omega) (by omega)
 have h2:=(h.tab k (by omega))
 obtain ⟨b,e,hI,_⟩:=h2.inv
 have h3:=hI.exact (i:=r k) (j:=s k) (k:=g) (c:=C) (by have:=h.rm k hk;omega) (by have:=h.sC k hk;omega) (by have:=h.piv k hk;omega) (by omega) (by omega) (by have:=h.rm k hk;omega)
 rw [← h1] at h3
 have h4:=h.ent k hk
 have h5:=h2.rhs (r k) (h.rm k hk)
 rw [h.nd k hk]
 have h6:T k g (s k) * T k (r k) C≤0:=j1k (by omega) h5
 refine ⟨by rw [Int.mul_comm _ (d k),← h3];omega,fun h7=>?_⟩
 rw [Int.mul_comm _ (d k),← h3] at h7
 have h8:T k g (s k) * T k (r k) C=0:=by omega
 rcases Int.mul_eq_zero.1 h8 with h9 | h9
 ·omega
 ·exact h9
theorem Run.grows (h:Run m C g A neg N T base d s r) (hg:g=m ∨ g=m + 1):∀ (n p:Nat),p + n≤N→T p g C * d (p + n)≤T (p + n) g C * d p
 | 0,p,_=>Int.le_refl _
 | n + 1,p,hN=>by
  have h1:=h.grows hg n p (by omega)
  have h2:=(h.grow hg (k:=p + n) (by omega)).1
  have p1:=(h.tab p (by omega)).pos
  have p2:=(h.tab (p + n) (by omega)).pos
  have p3:=(h.tab (p + n + 1) (by omega)).pos
  rw [show p + (n + 1)=p + n + 1 by omega]
  have h3:=j1i h1 (by omega:0≤d (p + n + 1))
  have h4:=j1i h2 (by omega:0≤d p)
  have h5:(T p g C * d (p + n + 1)) * d (p + n)≤(T (p + n + 1) g C * d p) * d (p + n):=by
   have e1:(T p g C * d (p + n + 1)) * d (p + n)=T p g C * d (p + n) * d (p + n + 1):=by grind
   have e2:(T (p + n + 1) g C * d p) * d (p + n)=T (p + n + 1) g C * d (p + n) * d p:=by grind
   have e3:T (p + n) g C * d p * d (p + n + 1)=T (p + n) g C * d (p + n + 1) * d p:=by grind
   rw [e1,e2];omega
  exact Int.le_of_mul_le_mul_right h5 p2
theorem Run.flat (h:Run m C g A neg N T base d s r) (hg:g=m ∨ g=m + 1) {p q:Nat} (hpq:p < q) (hq:q≤N) (hb:∀ i,i < m→base p i=base q i) {k:Nat} (hk1:p≤k) (hk2:k < q):T k (r k) C=0:=by
 have hp:=h.tab p (by omega)
 have hqt:=h.tab q hq
 have h1:=Y0y hp hqt hg (fun i hi h1=>by rw [← hb i hi];exact h1) (c:=C) (by omega)
 rw [e0H (fun i hi=>?_),j1Q] at h1
 ·refine (h.grow hg (k:=k) (by omega)).2 ?_
  have a1:=h.grows hg (k - p) p (by omega)
  have a2:=(h.grow hg (k:=k) (by omega)).1
  have a3:=h.grows hg (q - (k + 1)) (k + 1) (by omega)
  rw [show p + (k - p)=k by omega] at a1
  rw [show k + 1 + (q - (k + 1))=q by omega] at a3
  have p1:=hp.pos
  have p2:=hqt.pos
  have p3:=(h.tab k (by omega)).pos
  have p4:=(h.tab (k + 1) (by omega)).pos
  -- a1: Tp dk <= Tk dp ; a3 : Tk1 dq <= Tq dk1 ; h1 : dp Tq = dq Tp
  refine Int.le_antisymm a2 ?_
  have b1:=j1i a3 (by omega:0≤d p)
  have b1:=j1i b1 (by omega:0≤d k)
  have b2:=j1i a1 (by omega:0≤d q)
  have b2:=j1i b2 (by omega:0≤d (k + 1))
  have b3:T (k + 1) g C * d k * (d p * d q)≤T k g C * d (k + 1) * (d p * d q):=by
   have e1:T (k + 1) g C * d k * (d p * d q)=T (k + 1) g C * d q * d p * d k:=by grind
   have e2:T k g C * d (k + 1) * (d p * d q)=T k g C * d p * d q * d (k + 1):=by grind
   have e3:T q g C * d (k + 1) * d p * d k=T p g C * d k * d q * d (k + 1):=by
    have:T q g C * d (k + 1) * d p * d k=(d p * T q g C) * (d (k + 1) * d k):=by grind
    rw [this,h1];grind
   rw [e1,e2];omega
  exact Int.le_of_mul_le_mul_right b3 (Int.mul_pos p1 p2)
 ·split
  ·rename_i h2
   have h3:=hqt.col (k:=g) (i:=i) (by omega) hi (by rw [← hb i hi];exact h2)
   rw [i1k (by omega)] at h3
   rw [hb i hi,h3];simp
  ·rfl
theorem Run.rhs0 (h:Run m C g A neg N T base d s r) {k i:Nat} (hk:k < N) (hi:i < m) (h0:T k (r k) C=0):T k i C=0 ↔ T (k + 1) i C=0:=by
 have h1:=h.nxt k hk i C (by omega) (by omega)
 have h2:=(h.tab k (by omega))
 by_cases hr:i=r k
 ·subst hr;rw [h1];unfold pv;rw [i1n rfl]
 ·obtain ⟨b,e,hI,_⟩:=h2.inv
  have h3:=hI.exact (i:=r k) (j:=s k) (k:=i) (c:=C) (by have:=h.rm k hk;omega) (by have:=h.sC k hk;omega) (by have:=h.piv k hk;omega) (by omega) (by omega) hr
  rw [← h1,h0,k1u,Int.sub_zero] at h3
  have p1:=h.piv k hk
  have p2:=h2.pos
  constructor
  ·intro h4;rw [h4,Int.zero_mul] at h3
   rcases Int.mul_eq_zero.1 h3.symm with h5 | h5
   ·omega
   ·exact h5
  ·intro h4;rw [h4,k1u] at h3
   rcases Int.mul_eq_zero.1 h3 with h5 | h5
   ·exact h5
   ·omega
theorem Run.rhs00 (h:Run m C g A neg N T base d s r) {i p:Nat} (hi:i < m):∀ n:Nat,p + n≤N→(∀ k,p≤k→k < p + n→T k (r k) C=0)→(T p i C=0 ↔ T (p + n) i C=0)
 | 0,_,_=>Iff.rfl
 | n + 1,hN,h0=>(h.rhs00 hi n (by omega) (fun k h1 h2=>h0 k h1 (by omega))).trans (h.rhs0 (k:=p + n) (by omega) hi (h0 _ (by omega) (by omega)))
theorem f1V (s:Nat→Nat):∀ (n p:Nat),0 < n→∃ k,p≤k∧k < p + n∧∀ l,p≤l→l < p + n→s l≤s k
 | 0,_,h=>by omega
 | n + 1,p,_=>by
  by_cases h0:n=0
  ·subst h0;exact ⟨p,by omega,by omega,fun l h1 h2=>by rw [show l=p by omega];exact i1j _⟩
  ·obtain ⟨k,a1,a2,a3⟩:=f1V s n p (by omega)
   by_cases h1:s (p + n)≤s k
   ·exact ⟨k,a1,by omega,fun l b1 b2=>by
     by_cases h2:l=p + n
     ·rw [h2];exact h1
     ·exact a3 l b1 (by omega)⟩
   ·exact ⟨p + n,by omega,by omega,fun l b1 b2=>by
     by_cases h2:l=p + n
     ·rw [h2];exact i1j _
     ·have:=a3 l b1 (by omega);omega⟩
theorem Run.norep (h:Run m C g A neg N T base d s r) (hg:g=m ∨ g=m + 1) {p q:Nat} (hpq:p < q) (hq:q≤N) (hb:∀ i,i < m→base p i=base q i):False:=by
 have hflat:∀ k,p≤k→k < q→T k (r k) C=0:=fun k h1 h2=>h.flat hg hpq hq hb h1 h2
 -- a row that a pivot s0w has nought at the right throughout
 have hzero:∀ k0 k i,p≤k0→k0 < q→p≤k→k < q→i < m→r k0=i→T k i C=0:=by
  intro k0 k i a1 a2 a3 a4 hi hr
  have e0:T k0 i C=0:=by rw [← hr];exact hflat k0 a1 a2
  have e1:=(h.rhs00 hi (k0 - p) (p:=p) (by omega) (fun l b1 b2=>hflat l b1 (by omega)))
  have e2:=(h.rhs00 hi (k - p) (p:=p) (by omega) (fun l b1 b2=>hflat l b1 (by omega)))
  rw [show p + (k0 - p)=k0 by omega] at e1
  rw [show p + (k - p)=k by omega] at e2
  exact e2.1 (e1.2 e0)
 -- what is made up stays so
 have hart:∀ k l i,p≤k→k≤q→p≤l→l≤q→i < m→¬ base k i < C→¬ base l i < C:=by
  intro k l i a1 a2 a3 a4 hi h1 h2
  have h3:=h.real hi (q - l) l (by omega) h2
  rw [show l + (q - l)=q by omega,← hb i hi] at h3
  have h4:=h.real hi (k - p) p (by omega) h3
  rw [show p + (k - p)=k by omega] at h4
  exact h1 h4
 obtain ⟨ks,s1,s2,s3⟩:=f1V s (q - p) p (by omega)
 have s3':∀ l,p≤l→l < q→s l≤s ks:=fun l a b=>s3 l a (by omega)
 have hS:=h.tab ks (by omega)
 have hne:=h.ent ks (by omega)
 -- the greatest leaves
 have hout:∃ k,p≤k∧k < q∧base k (r k)=s ks:=by
  have hr:=h.rm ks (by omega)
  have hnb:=h.nb ks (by omega) (r ks) hr
  rw [i1n rfl] at hnb
  by_cases hc:base q (r ks)=s ks
  ·rw [← hb _ hr] at hc
   have hno:base ks (r ks) ≠ s ks:=by
    intro h1
    have:=hS.col (k:=g) (i:=r ks) (by omega) hr (by rw [h1];exact h.sC ks (by omega))
    rw [h1,i1k (by omega)] at this;omega
   obtain ⟨k,b1,b2,b3,b4,_⟩:=h.change hr (ks - p) p (by omega) (by rw [show p + (ks - p)=ks by omega,hc];exact hno)
   exact ⟨k,b1,by omega,by rw [b3,b4,hc]⟩
  ·obtain ⟨k,b1,b2,b3,b4,_⟩:=h.change hr (q - (ks + 1)) (ks + 1) (by omega) (by rw [show ks + 1 + (q - (ks + 1))=q by omega,hnb];exact hc)
   exact ⟨k,by omega,by omega,by rw [b3,b4,hnb]⟩
 obtain ⟨k,k1,k2,k3⟩:=hout
 have hD:=h.tab k (by omega)
 have hrk:=h.rm k (by omega)
 have hsC:=h.sC ks (by omega)
 have hst:s k ≠ s ks:=by
  intro h1
  have:=hD.col (k:=g) (i:=r k) (by omega) hrk (by rw [k3];exact hsC)
  rw [k3,← h1,i1k (by omega)] at this
  have:=h.ent k (by omega);omega
 have hslt:s k < s ks:=by have:=s3' k k1 k2;omega
 have hlow:=h.low ks (by omega)
 have h1:=Y0y hD hS hg (fun i hi h1=>hart k ks i k1 (by omega) s1 (by omega) hi h1) (c:=s k) (by have:=h.sC k (by omega);omega)
 have h2:0 < sm (fun i=>if base k i < C then T k i (s k) * T ks g (base k i) else 0) m:=by
  have a1:=k1U (by have:=hD.pos;omega:0≤d k) (hlow (s k) hslt)
  have a2:=k1p hS.pos (h.ent k (by omega))
  omega
 obtain ⟨i,hi,h3⟩:=U0e h2
 split at h3
 case isFalse=>omega
 rename_i hreal
 have hnz:T ks g (base k i) ≠ 0:=by intro h4;rw [h4] at h3;omega
 have hnot:base ks i ≠ base k i:=by
  intro h4
  apply hnz
  rw [← h4,hS.col (k:=g) (i:=i) (by omega) hi (by rw [h4];exact hreal),i1k (by omega)]
 -- it comes in somewhere, and its row is met
 have hin:∃ l,p≤l∧l < q∧r l=i∧s l=base k i:=by
  by_cases hlt:ks < k
  ·obtain ⟨l,b1,b2,b3,b4⟩:=h.enters hi (k - ks) ks (by omega) (by rw [show ks + (k - ks)=k by omega];exact hnot)
   rw [show ks + (k - ks)=k by omega] at b4
   exact ⟨l,by omega,by omega,b3,b4⟩
  ·by_cases hpe:base p i=base k i
   ·have hqe:base q i=base k i:=by rw [← hb i hi];exact hpe
    obtain ⟨l,b1,b2,b3,b4⟩:=h.enters hi (q - ks) ks (by omega) (by rw [show ks + (q - ks)=q by omega,hqe];exact hnot)
    rw [show ks + (q - ks)=q by omega,hqe] at b4
    exact ⟨l,by omega,by omega,b3,b4⟩
   ·obtain ⟨l,b1,b2,b3,b4⟩:=h.enters hi (k - p) p (by omega) (by rw [show p + (k - p)=k by omega];exact hpe)
    rw [show p + (k - p)=k by omega] at b4
    exact ⟨l,by omega,by omega,b3,b4⟩
 obtain ⟨l,l1,l2,l3,l4⟩:=hin
 have hle:base k i≤s ks:=by rw [← l4];exact s3' l l1 l2
 have hnt:base k i ≠ s ks:=by
  intro h4
  have:i=r k:=hD.inj hi hrk hreal (by rw [h4,k3])
  have h5:=h.piv k (by omega)
  rw [this,k3] at h3
  have:=k1p h5 hne
  omega
 have hge:=hlow (base k i) (by omega)
 have hpos:0 < T k i (s k):=by
  rcases Int.lt_trichotomy 0 (T k i (s k)) with h4 | h4 | h4
  ·exact h4
  ·rw [← h4] at h3;omega
  ·have:=j1k (by omega:T k i (s k)≤0) hge;omega
 have hz1:=hzero l k i l1 l2 k1 k2 hi l3
 have hz2:=hflat k k1 k2
 rcases h.min k (by omega) i hi hpos with h4 | ⟨_,h4⟩
 ·rw [hz1,hz2] at h4;omega
 ·rw [k3] at h4;omega
end
theorem N0h:∀ (K:Nat) (f:Nat→Nat),(∀ k,k≤K→f k < K)→∃ p q,p < q∧q≤K∧f p=f q
 | 0,f,h=>i1A (h 0 (i1j _)) (by omega)
 | K + 1,f,h=>by
  by_cases h1:∃ k,k≤K∧f k=f (K + 1)
  ·obtain ⟨k,hk,he⟩:=h1;exact ⟨k,K + 1,by omega,i1j _,he⟩
  ·have hne:∀ k,k≤K→f k ≠ f (K + 1):=fun k hk he=>h1 ⟨k,hk,he⟩
   have hv:=h (K + 1) (i1j _)
   obtain ⟨p,q,a1,a2,a3⟩:=N0h K (fun k=>if f k=K then f (K + 1) else f k) (fun k hk=>by
    have:=h k (by omega);have:=hne k hk
    split <;> omega)
   refine ⟨p,q,a1,by omega,?_⟩
   have:=hne p (by omega);have:=hne q (by omega)
   split at a3 <;> split at a3 <;> omega
def enc (B:Nat) (f:Nat→Nat):Nat→Nat
 | 0=>0
 | n + 1=>f n + B * enc B f n
theorem M0Q {B:Nat} {f:Nat→Nat}:∀ {n:Nat},(∀ i,i < n→f i < B)→enc B f n < B ^ n
 | 0,_=>by simp [enc]
 | n + 1,h=>by
  have h1:=M0Q (n:=n) (fun i hi=>h i (by omega))
  have h2:=h n (by omega)
  rw [enc,i1G,i1L]
  have:B * (enc B f n + 1)≤B * B ^ n:=i1N B h1
  rw [i1w] at this
  rw [i1L (enc B f n) B,i1L (B ^ n) B];omega
theorem A0A {B:Nat} {f h:Nat→Nat}:∀ {n:Nat},(∀ i,i < n→f i < B)→(∀ i,i < n→h i < B)→enc B f n=enc B h n→∀ i,i < n→f i=h i
 | 0,_,_,_=>fun i hi=>by omega
 | n + 1,hf,hh,e=>fun i hi=>by
  rw [enc,enc] at e
  have a1:=hf n (by omega)
  have a2:=hh n (by omega)
  have e1:f n=h n:=by
   have:=l1m (· % B) e
   simp only [Nat.add_mul_mod_self_left,i1K a1,i1K a2] at this
   exact this
  by_cases hin:i=n
  ·rw [hin];exact e1
  ·rw [e1] at e
   exact A0A (n:=n) (fun i hi=>hf i (by omega)) (fun i hi=>hh i (by omega)) (Nat.eq_of_mul_eq_mul_left (by omega:0 < B) (Nat.add_left_cancel e)) i (by omega)
theorem Run.short {g N:Nat} {T:Nat→Nat→Nat→Int} {base:Nat→Nat→Nat} {d:Nat→Int} {s r:Nat→Nat} (h:Run m C g A neg N T base d s r) (hg:g=m ∨ g=m + 1):N < (C + m) ^ m:=by
 by_cases hN:N < (C + m) ^ m
 ·exact hN
 ·exfalso
  obtain ⟨p,q,h1,h2,h3⟩:=N0h ((C + m) ^ m) (fun k=>enc (C + m) (base k) m) (fun k hk=>M0Q fun i hi=>(h.tab k (by omega)).base_lt hi)
  exact h.norep hg h1 (by omega) (A0A (fun i hi=>(h.tab p (by omega)).base_lt hi) (fun i hi=>(h.tab q (by omega)).base_lt hi) h3)
end Go.Proofs.YtilekhkgobmolaaGreat.SX
namespace Go.Proofs.YtilekhkgobmolaaGreat.SX
variable {M m C:Nat} {A:Nat→Nat→Int} {neg:Nat→Prop} {T T':Nat→Nat→Int} {base base':Nat→Nat} {d d':Int}
theorem Inv.congr {b:Nat→Nat→Int} {e:Int} (h:Inv M C A T b d e) (hT:∀ i c,i < M→c≤C→T' i c=T i c):Inv M C A T' b d e :=
 { h with col:=fun c hc r hr=>by rw [h.col c hc r hr];exact b0m fun i hi=>by rw [hT i c hi hc] }
theorem Tab.congr (h:Tab m C A neg T base d) (hT:∀ i c,i < m + 2→c≤C→T' i c=T i c) (hb:∀ i,i < m→base' i=base i) (hd:d' = d):Tab m C A neg T' base' d':=by
 subst hd
 obtain ⟨b,e,h1,h2,h3⟩:=h.inv
 exact ⟨⟨b,e,h1.congr hT,fun i hi=>by rw [hb i hi];exact h2 i hi,h3⟩,fun i hi=>by rw [hT i C (by omega) (by omega)];exact h.rhs i hi⟩
theorem Tab.pivot (h:Tab m C A neg T base d) {i j:Nat} (hi:i < m) (hj:j < C) (hp:0 < T i j) (hr:∀ k,k < m→0 < T k j→T i C * T k j≤T k C * T i j) :
  Tab m C A neg (pv T i j d) (up base i j) (T i j):=by
 obtain ⟨b,e,h1,h2,h3,h4⟩:=h.inv
 refine ⟨⟨up b i (A j),e,h1.pivot (by omega) (by omega) hp,fun k hk=>?_,by rw [e0J (by omega)];exact h3,by rw [e0J (by omega)];exact h4⟩,fun k hk=>?_⟩
 ·by_cases hki:k=i
  ·subst hki;exact .inl ⟨by rw [b0o];exact hj,fun r _=>by rw [b0o,b0o]⟩
  ·rw [e0J hki,e0J hki];exact h2 k hk
 ·by_cases hki:k=i
  ·subst hki;unfold pv;rw [i1n rfl];exact h.rhs k hk
  ·have h5:=h1.exact (i:=i) (j:=j) (k:=k) (c:=C) (by omega) (by omega) (by omega) (by omega) (i1j _) hki
   have h6:=h.rhs k hk
   have h7:=h.rhs i hi
   have h8:0≤T k C * T i j - T k j * T i C:=by
    by_cases hpos:0 < T k j
    ·have:=hr k hk hpos
     have e1:T k j * T i C=T i C * T k j:=Int.mul_comm _ _
     omega
    ·have a1:=k1U h6 (by omega:0≤T i j)
     have a2:=j1k (by omega:T k j≤0) h7
     omega
   rw [h5] at h8
   have:=h1.pos
   by_cases h9:0≤pv T i j d k C
   ·exact h9
   ·have:=k1p this (by omega:pv T i j d k C < 0);omega
theorem Tab.exact (h:Tab m C A neg T base d) {i j:Nat} (hi:i < m) (hj:j≤C) (hp:T i j ≠ 0) {k c:Nat} (hk:k < m + 2) (hc:c≤C) (hki:k ≠ i):T k c * T i j - T k j * T i c=d * pv T i j d k c:=by
 obtain ⟨b,e,h1,_⟩:=h.inv
 exact h1.exact (by omega) hj hp hk hc hki
theorem Tab.swap (h:Tab m C A neg T base d) {i j:Nat} (hi:i < m) (hj:j < C) (hp:0 < T i j) (h0:T i C=0):Tab m C A neg (pv T i j d) (up base i j) (T i j) :=
 h.pivot hi hj hp fun k hk _=>by
  rw [h0,Int.zero_mul]
  exact k1U (h.rhs k hk) (by omega)
theorem Tab.swapN (h:Tab m C A neg T base d) {i j:Nat} (hi:i < m) (hj:j < C) (hp:T i j < 0) (h0:T i C=0) :
  Tab m C A neg (pv (ng T i) i j d) (up base i j) (-T i j)∧∀ k c,k < m + 2→c≤C→k ≠ i→ng T i k c * ng T i i j - ng T i k j * ng T i i c=d * pv (ng T i) i j d k c:=by
 obtain ⟨b,e,h1,h2,h3,h4⟩:=h.inv
 have h1':=h1.turn (i:=i) (by omega)
 have hn:ng T i i j = -T i j:=by unfold ng;rw [i1n rfl]
 have hex:∀ k c,k < m + 2→c≤C→k ≠ i→ng T i k c * ng T i i j - ng T i k j * ng T i i c=d * pv (ng T i) i j d k c :=
  fun k c hk hc hki=>h1'.exact (by omega) (by omega) (by omega) hk hc hki
 have h5:=h1'.pivot (i:=i) (j:=j) (by omega) (by omega) (by omega)
 rw [hn] at h5
 refine ⟨⟨⟨up (up b i (fun r=>-b i r)) i (A j),-e,h5,fun k hk=>?_,?_,?_⟩,fun k hk=>?_⟩,hex⟩
 ·by_cases hki:k=i
  ·subst hki;exact .inl ⟨by rw [b0o];exact hj,fun r _=>by rw [b0o,b0o]⟩
  ·rw [e0J hki,e0J hki,e0J hki];exact h2 k hk
 ·rw [e0J (by omega),e0J (by omega)];exact h3
 ·rw [e0J (by omega),e0J (by omega)];exact h4
 ·by_cases hki:k=i
  ·subst hki;unfold pv;rw [i1n rfl];unfold ng;rw [i1n rfl,h0];omega
  ·have h6:=hex k C (by omega) (i1j _) hki
   have e1:ng T i i C=0:=by unfold ng;rw [i1n rfl,h0];rfl
   have e2:ng T i k C=T k C:=by unfold ng;rw [i1k hki]
   rw [e1,k1u,Int.sub_zero,e2,hn] at h6
   have h8:=k1U (h.rhs k hk) (by omega:0≤-T i j)
   rw [h6] at h8
   have:=h1.pos
   by_cases h9:0≤pv (ng T i) i j d k C
   ·exact h9
   ·have:=k1p this (by omega:pv (ng T i) i j d k C < 0);omega
def v0S (T:Nat→Nat→Int) (base:Nat→Nat) (C j n o:Nat):Prop :=
 o < n∧0 < T o j∧∀ i,i < n→0 < T i j→T o C * T i j < T i C * T o j ∨ (T o C * T i j=T i C * T o j∧base o≤base i)
variable {j n o:Nat}
theorem v0S.one (h:0 < T n j) (h0:∀ i,i < n→T i j≤0):v0S T base C j (n + 1) n :=
 ⟨by omega,h,fun i hi hp=>by
  have:i=n:=by
   by_cases h1:i < n
   ·have:=h0 i h1;omega
   ·omega
  subst this;exact .inr ⟨rfl,i1j _⟩⟩
theorem v0S.skip (h:v0S T base C j n o) (h0:T n j≤0):v0S T base C j (n + 1) o :=
 ⟨by have:=h.1;omega,h.2.1,fun i hi hp=>by
  by_cases h1:i < n
  ·exact h.2.2 i h1 hp
  ·have:i=n:=by omega
   subst this;omega⟩
theorem v0S.keep (h:v0S T base C j n o) (h0:T o C * T n j < T n C * T o j ∨ (T o C * T n j=T n C * T o j∧base o≤base n)):v0S T base C j (n + 1) o :=
 ⟨by have:=h.1;omega,h.2.1,fun i hi hp=>by
  by_cases h1:i < n
  ·exact h.2.2 i h1 hp
  ·have:i=n:=by omega
   subst this;exact h0⟩
theorem v0S.take (h:v0S T base C j n o) (hp:0 < T n j) (h0:T n C * T o j < T o C * T n j ∨ (T n C * T o j=T o C * T n j∧base n < base o)):v0S T base C j (n + 1) n :=
 ⟨by omega,hp,fun i hi hpi=>by
  by_cases h1:i < n
  ·have h2:=h.2.2 i h1 hpi
   have ho:=h.2.1
   -- a: Tn/ ..
   generalize T n C=nC at *
   generalize T n j=nj at *
   generalize T o C=oC at *
   generalize T o j=oj at *
   generalize T i C=iC at *
   generalize T i j=ij at *
   have key:(nC * ij) * oj=(nC * oj) * ij:=by grind
   have key2:(iC * nj) * oj=(iC * oj) * nj:=by grind
   have key3:(oC * nj) * ij=(oC * ij) * nj:=by grind
   rcases h0 with h0 | ⟨h0,hb⟩
   ·left
    have a1:(nC * oj) * ij < (oC * nj) * ij:=Int.mul_lt_mul_of_pos_right h0 hpi
    have a2:(oC * ij) * nj≤(iC * oj) * nj:=j1i (by rcases h2 with h2 | h2 <;> omega) (by omega)
    exact Int.lt_of_mul_lt_mul_right (a:=oj) (by omega) (by omega)
   ·have a1:(nC * oj) * ij=(oC * nj) * ij:=by rw [h0]
    rcases h2 with h2 | ⟨h2,hb2⟩
    ·left
     have a2:(oC * ij) * nj < (iC * oj) * nj:=Int.mul_lt_mul_of_pos_right h2 hp
     exact Int.lt_of_mul_lt_mul_right (a:=oj) (by omega) (by omega)
    ·right
     have a2:(oC * ij) * nj=(iC * oj) * nj:=by rw [h2]
     refine ⟨?_,by omega⟩
     have:(nC * ij) * oj=(iC * nj) * oj:=by omega
     exact Int.eq_of_mul_eq_mul_right (by omega) this
  ·have:i=n:=by omega
   subst this;exact .inr ⟨rfl,i1j _⟩⟩
theorem Run.zero {g:Nat} (h:Tab m C A neg T base d):Run m C g A neg 0 (fun _=>T) (fun _=>base) (fun _=>d) (fun _=>0) (fun _=>0) where
 tab:=fun _ _=>h
 sC:=fun k hk=>by omega
 rm:=fun k hk=>by omega
 ent:=fun k hk=>by omega
 low:=fun k hk=>by omega
 piv:=fun k hk=>by omega
 min:=fun k hk=>by omega
 nxt:=fun k hk=>by omega
 nb:=fun k hk=>by omega
 nd:=fun k hk=>by omega
def Reach (m C g:Nat) (A:Nat→Nat→Int) (neg:Nat→Prop) (N:Nat) (T:Nat→Nat→Int) (base:Nat→Nat) (d:Int):Prop :=
 ∃ Ts bs ds s r,Run m C g A neg N Ts bs ds s r∧(∀ i c,i < m + 2→c≤C→T i c=Ts N i c)∧(∀ i,i < m→base i=bs N i)∧d=ds N
theorem Reach.zero {g:Nat} (h:Tab m C A neg T base d):Reach m C g A neg 0 T base d:=⟨_,_,_,_,_,Run.zero h,fun _ _ _ _=>rfl,fun _ _=>rfl,rfl⟩
theorem Reach.tab {g N:Nat} (h:Reach m C g A neg N T base d):Tab m C A neg T base d:=by
 obtain ⟨Ts,bs,ds,s,r,h1,h2,h3,h4⟩:=h
 exact (h1.tab N (i1j _)).congr h2 h3 h4
theorem Reach.short {g N:Nat} (hg:g=m ∨ g=m + 1) (h:Reach m C g A neg N T base d):N < (C + m) ^ m:=by
 obtain ⟨Ts,bs,ds,s,r,h1,_⟩:=h;exact h1.short hg
theorem Reach.step {g N i:Nat} (hg:g=m ∨ g=m + 1) (h:Reach m C g A neg N T base d) (hj:j < C) (he:T g j < 0) (hl:∀ c,c < j→0≤T g c) (hB:v0S T base C j m i)
  (hT:∀ k c,k < m + 2→c≤C→T' k c=pv T i j d k c) (hb:∀ k,k < m→base' k=if k=i then j else base k) (hd:d' = T i j):Reach m C g A neg (N + 1) T' base' d':=by
 have hTab:=h.tab
 obtain ⟨Ts,bs,ds,s,r,h1,h2,h3,h4⟩:=h
 obtain ⟨hi,hp,hmin⟩:=hB
 have hC:C≤C:=i1j _
 have hnew:Tab m C A neg T' base' d':=(hTab.pivot hi hj hp fun k hk hp=>by rcases hmin k hk hp with a | a <;> omega).congr hT (fun k hk=>by rw [hb k hk];rfl) hd
 refine ⟨up Ts (N + 1) T',up bs (N + 1) base',up ds (N + 1) d',up s N j,up r N i,?_,fun i c _ _=>by rw [b0o],fun i _=>by rw [b0o],by rw [b0o]⟩
 have u:∀ {α:Type} (f:Nat→α) (x:α) {k:Nat},k≤N→up f (N + 1) x k=f k:=fun f x k hk=>e0J (by omega)
 have v:∀ {α:Type} (f:Nat→α) (x:α) {k:Nat},k < N→up f N x k=f k:=fun f x k hk=>e0J (by omega)
 constructor
 ·intro k hk
  by_cases hkN:k=N + 1
  ·subst hkN;rw [b0o,b0o,b0o];exact hnew
  ·rw [u _ _ (by omega),u _ _ (by omega),u _ _ (by omega)];exact h1.tab k (by omega)
 ·intro k hk
  by_cases hkN:k=N
  ·subst hkN;rw [b0o];exact hj
  ·rw [v _ _ (by omega)];exact h1.sC k (by omega)
 ·intro k hk
  by_cases hkN:k=N
  ·subst hkN;rw [b0o];exact hi
  ·rw [v _ _ (by omega)];exact h1.rm k (by omega)
 ·intro k hk
  rw [u _ _ (by omega)]
  by_cases hkN:k=N
  ·subst hkN;rw [b0o,← h2 g j (by omega) (by omega)];exact he
  ·rw [v _ _ (by omega)];exact h1.ent k (by omega)
 ·intro k hk c hc
  rw [u _ _ (by omega)]
  by_cases hkN:k=N
  ·subst hkN;rw [b0o] at hc;rw [← h2 g c (by omega) (by omega)];exact hl c hc
  ·rw [v _ _ (by omega)] at hc;exact h1.low k (by omega) c hc
 ·intro k hk
  rw [u _ _ (by omega)]
  by_cases hkN:k=N
  ·subst hkN;rw [b0o,b0o,← h2 i j (by omega) (by omega)];exact hp
  ·rw [v _ _ (by omega),v _ _ (by omega)];exact h1.piv k (by omega)
 ·intro k hk q hq hpos
  rw [u Ts _ (by omega)] at hpos ⊢
  rw [u bs _ (by omega)]
  by_cases hkN:k=N
  ·subst hkN
   rw [b0o] at hpos ⊢
   rw [b0o]
   rw [← h2 q j (by omega) (by omega)] at hpos
   rw [← h2 q j (by omega) (by omega),← h2 i j (by omega) (by omega),← h2 i C (by omega) hC,← h2 q C (by omega) hC,← h3 i hi,← h3 q hq]
   exact hmin q hq hpos
  ·rw [v s _ (by omega)] at hpos ⊢
   rw [v r _ (by omega)]
   exact h1.min k (by omega) q hq hpos
 ·intro k hk q c hq hc
  by_cases hkN:k=N
  ·subst hkN
   rw [b0o,b0o,b0o,u _ _ (i1j _),u _ _ (i1j _),hT q c hq hc]
   unfold pv
   rw [h2 q c hq hc,h2 q j hq (by omega),h2 i c (by omega) hc,h2 i j (by omega) (by omega),h4]
  ·rw [u Ts _ (by omega),u Ts _ (by omega),u ds _ (by omega),v _ _ (by omega),v _ _ (by omega)];exact h1.nxt k (by omega) q c hq hc
 ·intro k hk q hq
  by_cases hkN:k=N
  ·subst hkN
   rw [b0o,b0o,b0o,u _ _ (i1j _),hb q hq,h3 q hq]
  ·rw [u bs _ (by omega),u bs _ (by omega),v _ _ (by omega),v _ _ (by omega)];exact h1.nb k (by omega) q hq
 ·intro k hk
  by_cases hkN:k=N
  ·subst hkN
   rw [b0o,b0o,b0o,u _ _ (i1j _),hd,h2 i j (by omega) (by omega)]
  ·rw [u ds _ (by omega),u Ts _ (by omega),v _ _ (by omega),v _ _ (by omega)];exact h1.nd k (by omega)
theorem Tab.bound (h:Tab m C A neg T base d) {B:Nat} (hB:1≤B) (hA:∀ c r,c≤C→r < m + 2→(A c r).natAbs≤B):(∀ k c,k < m + 2→c≤C→(T k c).natAbs≤fac (m + 2) * B ^ (m + 2))∧d.natAbs≤fac (m + 2) * B ^ (m + 2):=by
 obtain ⟨b,e,h1,h2,h3,h4⟩:=h.inv
 have hu:∀ i r,(j0V i r).natAbs≤B:=fun i r=>by unfold j0V;split <;> simp <;> omega
 have hb:∀ i r,i < m + 2→r < m + 2→(b i r).natAbs≤B:=by
  intro i r hi hr
  by_cases hm:i < m
  ·rcases h2 i hm with ⟨k1,k2⟩ | ⟨_,_,k2⟩
   ·rw [k2 r hr];exact hA _ r (by omega) hr
   ·rw [k2 r];exact hu i r
  ·by_cases hm2:i=m
   ·rw [hm2,h3 r];exact hu m r
   ·rw [show i=m + 1 by omega,h4 r];exact hu _ r
 exact ⟨fun k c hk hc=>h1.bound hb hA hk hc,h1.bound_d hb⟩
end Go.Proofs.YtilekhkgobmolaaGreat.SX
namespace Go.Proofs.YtilekhkgobmolaaGreat.SX
def e0v (n m:Nat) (a:Nat→Nat→Int) (bb:Nat→Int) (r c:Nat):Int :=
 if c < n then a r c else if c < 2 * n then -a r (c - n) else if c < 2 * n + m then (if c - 2 * n=r then 1 else 0) else bb r
def sg (bb:Nat→Int) (r:Nat):Int:=if bb r < 0 then -1 else 1
def cost (n:Nat) (cc:Nat→Int) (c:Nat):Int:=if c < n then cc c else if c < 2 * n then -cc (c - n) else 0
def i0f (n m:Nat) (a:Nat→Nat→Int) (bb cc:Nat→Int) (c r:Nat):Int :=
 if r < m then sg bb r * e0v n m a bb r c else if r=m then -sm (fun i=>if bb i < 0 then sg bb i * e0v n m a bb i c else 0) m else -cost n cc c
def l0g (n m:Nat) (bb:Nat→Int) (i:Nat):Nat:=if bb i < 0 then 2 * n + m + i else 2 * n + i
variable {n m:Nat} {a:Nat→Nat→Int} {bb cc:Nat→Int} {T:Nat→Nat→Int} {base:Nat→Nat} {d:Int}
theorem e0P {c r:Nat} (h:r < m):i0f n m a bb cc c r=sg bb r * e0v n m a bb r c:=by unfold i0f;rw [i1n h]
theorem h0i {c:Nat}:i0f n m a bb cc c m = -sm (fun i=>if bb i < 0 then sg bb i * e0v n m a bb i c else 0) m:=by unfold i0f;rw [i1k (by omega),i1n rfl]
theorem e0V {c:Nat}:i0f n m a bb cc c (m + 1) = -cost n cc c:=by unfold i0f;rw [i1k (by omega),i1k (by omega)]
theorem c0F {r k:Nat} (h:k < m):e0v n m a bb r (2 * n + k)=if k=r then 1 else 0:=by
 unfold e0v;rw [i1k (by omega),i1k (by omega),i1n (by omega),show 2 * n + k - 2 * n=k by omega]
theorem f0Q {r:Nat}:e0v n m a bb r (2 * n + m)=bb r:=by unfold e0v;rw [i1k (by omega),i1k (by omega),i1k (by omega)]
theorem e0l {c:Nat} (h:2 * n≤c):cost n cc c=0:=by unfold cost;rw [i1k (by omega),i1k (by omega)]
theorem B0d:Tab m (2 * n + m) (i0f n m a bb cc) (fun i=>bb i < 0) (fun i c=>i0f n m a bb cc c i) (l0g n m bb) 1:=by
 refine ⟨⟨j0V,1,Inv.first,fun i hi=>?_,fun _=>rfl,fun _=>rfl⟩,fun i hi=>?_⟩
 ·unfold l0g
  by_cases hb:bb i < 0
  ·rw [i1n hb];exact .inr ⟨rfl,hb,fun _=>rfl⟩
  ·rw [i1k hb]
   refine .inl ⟨by omega,fun r hr=>?_⟩
   by_cases h1:r < m
   ·rw [e0P h1,c0F hi]
    by_cases h2:i=r
    ·subst h2;unfold j0V sg;simp [hb]
    ·unfold j0V;rw [i1k (j1W h2),i1k h2];simp
   ·by_cases h2:r=m
    ·subst h2
     rw [h0i,e0H]
     ·unfold j0V;rw [i1k (by omega)];rfl
     ·intro k hk
      split
      ·rename_i h3
       rw [c0F hi,i1k (by rintro rfl;exact hb h3)];simp
      ·rfl
    ·rw [show r=m + 1 by omega,e0V,e0l (by omega)]
     unfold j0V;rw [i1k (by omega)];rfl
 ·show 0≤i0f n m a bb cc (2 * n + m) i
  rw [e0P hi,f0Q]
  unfold sg;split <;> omega
theorem Tab.rows (h:Tab m (2 * n + m) (i0f n m a bb cc) (fun i=>bb i < 0) T base d) {k c:Nat} (hk:k < m + 2) (hc:c≤2 * n + m) :
  T k c=sm (fun i=>T k (2 * n + i) * e0v n m a bb i c) m - (if k=m + 1 then d * cost n cc c else 0):=by
 obtain ⟨b,e,hI,_,_,hg⟩:=h.inv
 rw [← hI.entry hk hc]
 have h1:co (m + 2) b e k (i0f n m a bb cc c)=co (m + 2) b e k (fun r=>1 * sm (fun i=>e0v n m a bb i c * i0f n m a bb cc (2 * n + i) r) m + (-cost n cc c) * b (m + 1) r):=by
  refine f0n fun r hr=>?_
  rw [hg r]
  by_cases h1:r < m
  ·rw [e0P h1,g0J h1]
   ·rw [e0P h1,c0F h1,i1n rfl];unfold j0V;rw [i1k (by omega)];grind
   ·intro i hi hne
    rw [e0P h1,c0F hi,i1k hne];simp
  ·by_cases h2:r=m
   ·subst h2
    rw [h0i]
    have e2:sm (fun i=>e0v n r a bb i c * i0f n r a bb cc (2 * n + i) r) r=sm (fun i=>-1 * if bb i < 0 then sg bb i * e0v n r a bb i c else 0) r:=by
     refine b0m fun i hi=>?_
     rw [h0i]
     by_cases h3:bb i < 0
     ·rw [i1n h3,g0J hi]
      ·rw [i1n h3,c0F hi,i1n rfl];grind
      ·intro j hj hne
       rw [c0F hi,i1k (j1W hne)];simp
     ·rw [i1k h3,e0H]
      ·simp
      ·intro j hj
       by_cases h4:j=i
       ·subst h4;rw [i1k h3]
       ·rw [c0F hi,i1k (j1W h4)];simp
    rw [e2,f0f];unfold j0V;rw [i1k (by omega)];grind
   ·have h3:r=m + 1:=by omega
    subst h3
    rw [e0V,e0H]
    ·unfold j0V;rw [i1n rfl];grind
    ·intro i hi;rw [e0V,e0l (by omega)];simp
 rw [h1,M0N hk,M0O hk,hI.basis hk (by omega)]
 have h2:sm (fun i=>e0v n m a bb i c * co (m + 2) b e k (i0f n m a bb cc (2 * n + i))) m=sm (fun i=>T k (2 * n + i) * e0v n m a bb i c) m :=
  b0m fun i hi=>by rw [hI.entry hk (by omega)];grind
 rw [h2]
 by_cases hkm:k=m + 1
 ·rw [i1n hkm,i1n hkm];grind
 ·rw [i1k hkm,i1k hkm];grind
theorem Tab.lack (h:Tab m (2 * n + m) (i0f n m a bb cc) (fun i=>bb i < 0) T base d) {c:Nat} (hc:c≤2 * n + m):T m c = -sm (fun i=>if base i < 2 * n + m then 0 else T i c) m:=by
 obtain ⟨b,e,hI,hb,hm,hg⟩:=h.inv
 -- the functional: the number in the row of what is lacking, and those of rows with a right side below nought
 let psi:(Nat→Int)→Int:=fun v=>v m + sm (fun i=>if bb i < 0 then v i else 0) m
 have psiA:∀ c,psi (i0f n m a bb cc c)=0:=fun c=>by
  simp only [psi,h0i]
  have:sm (fun i=>if bb i < 0 then i0f n m a bb cc c i else 0) m=sm (fun i=>if bb i < 0 then sg bb i * e0v n m a bb i c else 0) m:=b0m fun i hi=>by
   split
   ·rw [e0P hi]
   ·rfl
  rw [this];omega
 have psi_sum:∀ (t:Nat→Int) (x:Nat→Nat→Int) (N:Nat),psi (fun r=>sm (fun i=>t i * x i r) N)=sm (fun i=>t i * psi (x i)) N:=by
  intro t x N
  induction N with
  | zero=>simp only [psi,sm];rw [e0H (fun i _=>by split <;> rfl)];rfl
  | succ N ih =>
   simp only [sm]
   rw [← ih]
   simp only [psi]
   have:sm (fun i=>if bb i < 0 then sm (fun k=>t k * x k i) N + t N * x N i else 0) m=sm (fun i=>if bb i < 0 then sm (fun k=>t k * x k i) N else 0) m + t N * sm (fun i=>if bb i < 0 then x N i else 0) m:=by
    rw [← f0f,← t0n]
    exact b0m fun i _=>by split <;> simp
   rw [this];grind
 have h1:psi (fun r=>sm (fun i=>T i c * b i r) (m + 2))=psi (fun r=>d * i0f n m a bb cc c r):=by
  simp only [psi]
  rw [← hI.col c hc m (by omega)]
  congr 1
  exact b0m fun i hi=>by rw [← hI.col c hc i (by omega)]
 have h2:psi (fun r=>d * i0f n m a bb cc c r)=0:=by
  have:=psi_sum (fun _=>d) (fun _=>i0f n m a bb cc c) 1
  simp only [sm,Int.zero_add] at this
  rw [this,psiA];simp
 rw [psi_sum,h2] at h1
 have h3:sm (fun i=>T i c * psi (b i)) (m + 2)=sm (fun i=>T i c * psi (b i)) m + T m c * psi (b m) + T (m + 1) c * psi (b (m + 1)):=rfl
 have e1:psi (b m)=1:=by
  simp only [psi]
  rw [hm,e0H]
  ·unfold j0V;simp
  ·intro i hi;rw [hm];unfold j0V;rw [i1k (show i ≠ m by omega)];simp
 have e2:psi (b (m + 1))=0:=by
  simp only [psi]
  rw [hg,e0H]
  ·unfold j0V;simp
  ·intro i hi;rw [hg];unfold j0V;rw [i1k (show i ≠ m + 1 by omega)];simp
 have e3:sm (fun i=>T i c * psi (b i)) m=sm (fun i=>if base i < 2 * n + m then 0 else T i c) m:=by
  refine b0m fun i hi=>?_
  rcases hb i hi with ⟨k1,k2⟩ | ⟨k1,k2,k3⟩
  ·rw [i1n k1]
   have:psi (b i)=psi (i0f n m a bb cc (base i)):=by
    simp only [psi];rw [k2 m (by omega)];congr 1
    exact b0m fun j hj=>by rw [k2 j (by omega)]
   rw [this,psiA];simp
  ·rw [i1k (by omega)]
   have:psi (b i)=1:=by
    simp only [psi]
    rw [k3,g0J hi]
    ·rw [i1n k2,k3];unfold j0V;rw [i1k (by omega),i1n rfl];rfl
    ·intro j hj hne;rw [k3];unfold j0V;rw [i1k hne];simp
   rw [this];simp
 rw [h3,e1,e2,e3] at h1
 omega
theorem h0F {f:Nat→Int}:∀ {N:Nat},(∀ i,i < N→0≤f i)→0≤sm f N
 | 0,_=>by simp [sm]
 | N + 1,h=>by rw [sm];have:=h0F (fun i hi=>h i (by omega)) (N:=N) (f:=f);have:=h N (by omega);omega
theorem t0o {f:Nat→Int}:∀ {N:Nat},(∀ i,i < N→0≤f i)→sm f N≤0→∀ i,i < N→f i=0
 | 0,_,_=>fun i hi=>by omega
 | N + 1,h,h0=>fun i hi=>by
  rw [sm] at h0
  have h1:=h0F (fun i hi=>h i (by omega)) (N:=N) (f:=f)
  have h2:=h N (by omega)
  by_cases hN:i=N
  ·rw [hN];omega
  ·exact t0o (N:=N) (f:=f) (fun i hi=>h i (by omega)) (by omega) i (by omega)
theorem Tab.full (h:Tab m (2 * n + m) (i0f n m a bb cc) (fun i=>bb i < 0) T base d) (h0:0≤T m (2 * n + m)):∀ i,i < m→¬ base i < 2 * n + m→T i (2 * n + m)=0:=by
 intro i hi hb
 rw [h.lack (i1j _)] at h0
 have:=t0o (f:=fun i=>if base i < 2 * n + m then 0 else T i (2 * n + m)) (fun j hj=>by split;exact Int.le_refl _;exact h.rhs j hj) (by omega) i hi
 rw [i1k hb] at this;exact this
theorem y0P (h:Tab m (2 * n + m) (i0f n m a bb cc) (fun i=>bb i < 0) T base d) (ho:∀ c,c < 2 * n + m→0≤T m c) :
  (∀ i,i < m→0≤T m (2 * n + i))∧(∀ k,k < n→sm (fun i=>T m (2 * n + i) * a i k) m=0)∧sm (fun i=>T m (2 * n + i) * bb i) m=T m (2 * n + m):=by
 refine ⟨fun i hi=>ho _ (by omega),fun k hk=>?_,?_⟩
 ·have h1:=h.rows (k:=m) (c:=k) (by omega) (by omega)
  have h2:=h.rows (k:=m) (c:=n + k) (by omega) (by omega)
  rw [i1k (by omega),Int.sub_zero] at h1 h2
  have e1:sm (fun i=>T m (2 * n + i) * e0v n m a bb i k) m=sm (fun i=>T m (2 * n + i) * a i k) m:=b0m fun i _=>by unfold e0v;rw [i1n hk]
  have e2:sm (fun i=>T m (2 * n + i) * e0v n m a bb i (n + k)) m = -1 * sm (fun i=>T m (2 * n + i) * a i k) m:=by
   rw [← f0f]
   exact b0m fun i _=>by unfold e0v;rw [i1k (by omega),i1n (by omega),show n + k - n=k by omega];grind
  have:=ho k (by omega)
  have:=ho (n + k) (by omega)
  omega
 ·have h1:=h.rows (k:=m) (c:=2 * n + m) (by omega) (by omega)
  rw [i1k (by omega),Int.sub_zero] at h1
  rw [h1];exact b0m fun i _=>by rw [f0Q]
theorem duals (h:Tab m (2 * n + m) (i0f n m a bb cc) (fun i=>bb i < 0) T base d) (ho:∀ c,c < 2 * n + m→0≤T (m + 1) c) :
  (∀ i,i < m→0≤T (m + 1) (2 * n + i))∧(∀ k,k < n→sm (fun i=>T (m + 1) (2 * n + i) * a i k) m=d * cc k)∧sm (fun i=>T (m + 1) (2 * n + i) * bb i) m=T (m + 1) (2 * n + m):=by
 refine ⟨fun i hi=>ho _ (by omega),fun k hk=>?_,?_⟩
 ·have h1:=h.rows (k:=m + 1) (c:=k) (by omega) (by omega)
  have h2:=h.rows (k:=m + 1) (c:=n + k) (by omega) (by omega)
  rw [i1n rfl] at h1 h2
  have e1:sm (fun i=>T (m + 1) (2 * n + i) * e0v n m a bb i k) m=sm (fun i=>T (m + 1) (2 * n + i) * a i k) m:=b0m fun i _=>by unfold e0v;rw [i1n hk]
  have e2:sm (fun i=>T (m + 1) (2 * n + i) * e0v n m a bb i (n + k)) m = -1 * sm (fun i=>T (m + 1) (2 * n + i) * a i k) m:=by
   rw [← f0f]
   exact b0m fun i _=>by unfold e0v;rw [i1k (by omega),i1n (by omega),show n + k - n=k by omega];grind
  have e3:cost n cc k=cc k:=by unfold cost;rw [i1n hk]
  have e4:cost n cc (n + k) = -cc k:=by unfold cost;rw [i1k (by omega),i1n (by omega),show n + k - n=k by omega]
  have:=ho k (by omega)
  have:=ho (n + k) (by omega)
  rw [e3] at h1
  rw [e4,Int.mul_neg] at h2
  omega
 ·have h1:=h.rows (k:=m + 1) (c:=2 * n + m) (by omega) (by omega)
  rw [i1n rfl,e0l (by omega),k1u,Int.sub_zero] at h1
  rw [h1];exact b0m fun i _=>by rw [f0Q]
def pt (n m:Nat) (base:Nat→Nat) (F:Nat→Int) (k:Nat):Int:=sm (fun i=>if base i=k then F i else if base i=n + k then -F i else 0) m
theorem J0n {f:Nat→Nat→Int} {M:Nat}:∀ {N:Nat},sm (fun i=>sm (fun j=>f i j) M) N=sm (fun j=>sm (fun i=>f i j) N) M
 | 0=>by simp only [sm];rw [e0H (fun _ _=>rfl)]
 | N + 1=>by simp only [sm];rw [J0n,← t0n]
theorem B0Z {F:Nat→Int} {w:Nat→Int} {W:Nat→Int} (hW:∀ c,c < 2 * n→W c=if c < n then w c else -w (c - n)):sm (fun k=>w k * pt n m base F k) n=sm (fun i=>if base i < 2 * n then F i * W (base i) else 0) m:=by
 have h1:sm (fun k=>w k * pt n m base F k) n=sm (fun k=>sm (fun i=>w k * (if base i=k then F i else if base i=n + k then -F i else 0)) m) n :=
  b0m fun k _=>by unfold pt;rw [f0f]
 rw [h1,J0n]
 refine b0m fun i hi=>?_
 by_cases hb:base i < 2 * n
 ·rw [i1n hb,hW _ hb]
  by_cases hb2:base i < n
  ·rw [i1n hb2,g0J hb2]
   ·rw [i1n rfl];grind
   ·intro k hk hne;rw [i1k (j1W hne),i1k (by omega)];simp
  ·rw [i1k hb2,g0J (k:=base i - n) (by omega)]
   ·rw [i1k (by omega),i1n (by omega)];grind
   ·intro k hk hne;rw [i1k (by omega),i1k (by omega)];simp
 ·rw [i1k hb]
  exact e0H fun k hk=>by rw [i1k (by omega),i1k (by omega)];simp
theorem Tab.colrow (h:Tab m (2 * n + m) (i0f n m a bb cc) (fun i=>bb i < 0) T base d) {c:Nat} (hc:c≤2 * n + m) (h0:∀ i,i < m→¬ base i < 2 * n + m→T i c=0) :
  (∀ r,r < m→d * e0v n m a bb r c=sm (fun i=>if base i < 2 * n + m then T i c * e0v n m a bb r (base i) else 0) m) ∧
  d * cost n cc c=sm (fun i=>if base i < 2 * n + m then T i c * cost n cc (base i) else 0) m - T (m + 1) c:=by
 obtain ⟨b,e,hI,hb,hm,hg⟩:=h.inv
 refine ⟨fun r hr=>?_,?_⟩
 ·have h1:=hI.col c hc r (by omega)
  have h3:sm (fun i=>T i c * b i r) (m + 2)=sm (fun i=>T i c * b i r) m + T m c * b m r + T (m + 1) c * b (m + 1) r:=rfl
  rw [h3,hm,hg] at h1
  unfold j0V at h1
  rw [i1k (by omega),i1k (by omega),e0P hr,k1u,k1u,j1Q,j1Q] at h1
  have e3:sm (fun i=>T i c * b i r) m=sg bb r * sm (fun i=>if base i < 2 * n + m then T i c * e0v n m a bb r (base i) else 0) m:=by
   rw [← f0f]
   refine b0m fun i hi=>?_
   rcases hb i hi with ⟨k1,k2⟩ | ⟨k1,k2,k3⟩
   ·rw [i1n k1,k2 r (by omega),e0P hr];grind
   ·rw [i1k (by omega),h0 i hi (by omega)];simp
  rw [e3] at h1
  have h4:sg bb r * (d * e0v n m a bb r c)=sg bb r * sm (fun i=>if base i < 2 * n + m then T i c * e0v n m a bb r (base i) else 0) m:=by rw [← h1];grind
  refine j1X ?_ h4
  unfold sg;split <;> omega
 ·have h1:=hI.col c hc (m + 1) (by omega)
  have h3:sm (fun i=>T i c * b i (m + 1)) (m + 2)=sm (fun i=>T i c * b i (m + 1)) m + T m c * b m (m + 1) + T (m + 1) c * b (m + 1) (m + 1):=rfl
  rw [h3,hm,hg] at h1
  unfold j0V at h1
  rw [i1k (by omega),i1n rfl,e0V,k1u,Int.mul_one,j1Q] at h1
  have e3:sm (fun i=>T i c * b i (m + 1)) m = -1 * sm (fun i=>if base i < 2 * n + m then T i c * cost n cc (base i) else 0) m:=by
   rw [← f0f]
   refine b0m fun i hi=>?_
   rcases hb i hi with ⟨k1,k2⟩ | ⟨k1,k2,k3⟩
   ·rw [i1n k1,k2 (m + 1) (by omega),e0V];grind
   ·rw [i1k (by omega),h0 i hi (by omega)];simp
  rw [e3,Int.mul_neg] at h1
  omega
theorem w0I {r c:Nat} (h:c < 2 * n):e0v n m a bb r c=if c < n then a r c else -a r (c - n):=by
 unfold e0v;by_cases h1:c < n
 ·rw [i1n h1,i1n h1]
 ·rw [i1k h1,i1k h1,i1n h]
theorem w0m {c:Nat} (h:c < 2 * n):cost n cc c=if c < n then cc c else -cc (c - n):=by
 unfold cost;by_cases h1:c < n
 ·rw [i1n h1,i1n h1]
 ·rw [i1k h1,i1k h1,i1n h]
theorem U0f {f g:Nat→Int} {N:Nat}:sm f N - sm g N=sm (fun i=>f i - g i) N:=by
 have:=x0X (a:=1) (b:=-1) (f:=f) (g:=g) (n:=N)
 have e:sm (fun i=>1 * f i + -1 * g i) N=sm (fun i=>f i - g i) N:=b0m fun i _=>by omega
 omega
theorem N0i (h:Tab m (2 * n + m) (i0f n m a bb cc) (fun i=>bb i < 0) T base d) (h0:∀ i,i < m→¬ base i < 2 * n + m→T i (2 * n + m)=0) :
  (∀ r,r < m→sm (fun k=>a r k * pt n m base (fun i=>T i (2 * n + m)) k) n≤d * bb r)∧sm (fun k=>cc k * pt n m base (fun i=>T i (2 * n + m)) k) n=T (m + 1) (2 * n + m):=by
 obtain ⟨h1,h2⟩:=h.colrow (i1j _) h0
 refine ⟨fun r hr=>?_,?_⟩
 ·have h3:=h1 r hr
  rw [f0Q] at h3
  rw [B0Z (W:=e0v n m a bb r) (fun c hc=>w0I hc),h3]
  have h4:0≤sm (fun i=>if base i < 2 * n + m then T i (2 * n + m) * e0v n m a bb r (base i) else 0) m - sm (fun i=>if base i < 2 * n then T i (2 * n + m) * e0v n m a bb r (base i) else 0) m:=by
   rw [U0f]
   refine h0F fun i hi=>?_
   by_cases hb:base i < 2 * n
   ·rw [i1n (by omega),i1n hb];omega
   ·rw [i1k hb]
    by_cases hb2:base i < 2 * n + m
    ·rw [i1n hb2]
     have:base i=2 * n + (base i - 2 * n):=by omega
     rw [this,c0F (by omega)]
     have:=h.rhs i hi
     split <;> omega
    ·rw [i1k hb2];omega
  omega
 ·rw [e0l (by omega),k1u] at h2
  rw [B0Z (W:=cost n cc) (fun c hc=>w0m hc)]
  have:sm (fun i=>if base i < 2 * n + m then T i (2 * n + m) * cost n cc (base i) else 0) m=sm (fun i=>if base i < 2 * n then T i (2 * n + m) * cost n cc (base i) else 0) m:=by
   refine b0m fun i hi=>?_
   by_cases hb:base i < 2 * n
   ·rw [i1n (by omega),i1n hb]
   ·rw [i1k hb,e0l (by omega)];split <;> simp
  omega
def n0j (n m:Nat) (T:Nat→Nat→Int) (base:Nat→Nat) (d:Int) (j k:Nat):Int:=pt n m base (fun i=>-T i j) k + (if j=k then d else if j=n + k then -d else 0)
theorem I0U {w W:Nat→Int} {j:Nat} (hW:∀ c,c < 2 * n→W c=if c < n then w c else -w (c - n)) :
  sm (fun k=>w k * n0j n m T base d j k) n = -sm (fun i=>if base i < 2 * n then T i j * W (base i) else 0) m + (if j < 2 * n then d * W j else 0):=by
 have h1:sm (fun k=>w k * n0j n m T base d j k) n=sm (fun k=>w k * pt n m base (fun i=>-T i j) k) n + sm (fun k=>w k * (if j=k then d else if j=n + k then -d else 0)) n:=by
  rw [← t0n];exact b0m fun k _=>by unfold n0j;grind
 rw [h1,B0Z hW]
 congr 1
 ·have:sm (fun i=>if base i < 2 * n then -T i j * W (base i) else 0) m = -1 * sm (fun i=>if base i < 2 * n then T i j * W (base i) else 0) m:=by
   rw [← f0f];exact b0m fun i _=>by split <;> grind
  omega
 ·by_cases hj:j < 2 * n
  ·rw [i1n hj,hW j hj]
   by_cases hj2:j < n
   ·rw [i1n hj2,g0J hj2]
    ·rw [i1n rfl];grind
    ·intro k hk hne;rw [i1k (j1W hne),i1k (by omega)];simp
   ·rw [i1k hj2,g0J (k:=j - n) (by omega)]
    ·rw [i1k (by omega),i1n (by omega)];grind
    ·intro k hk hne;rw [i1k (by omega),i1k (by omega)];simp
  ·rw [i1k hj]
   exact e0H fun k hk=>by rw [i1k (by omega),i1k (by omega)];simp
theorem J0v (h:Tab m (2 * n + m) (i0f n m a bb cc) (fun i=>bb i < 0) T base d) {j:Nat} (hj:j < 2 * n + m) (hle:∀ i,i < m→T i j≤0) (h0:∀ i,i < m→¬ base i < 2 * n + m→T i j=0) :
  (∀ r,r < m→sm (fun k=>a r k * n0j n m T base d j k) n≤0)∧sm (fun k=>cc k * n0j n m T base d j k) n = -T (m + 1) j:=by
 obtain ⟨h1,h2⟩:=h.colrow (c:=j) (by omega) h0
 have hd:=h.pos
 refine ⟨fun r hr=>?_,?_⟩
 ·have h3:=h1 r hr
  rw [I0U (W:=e0v n m a bb r) (fun c hc=>w0I hc)]
  have h4:sm (fun i=>if base i < 2 * n + m then T i j * e0v n m a bb r (base i) else 0) m - sm (fun i=>if base i < 2 * n then T i j * e0v n m a bb r (base i) else 0) m≤0:=by
   rw [U0f]
   have:0≤sm (fun i=>-1 * ((if base i < 2 * n + m then T i j * e0v n m a bb r (base i) else 0) - (if base i < 2 * n then T i j * e0v n m a bb r (base i) else 0))) m:=by
    refine h0F fun i hi=>?_
    by_cases hb:base i < 2 * n
    ·rw [i1n (by omega),i1n hb];omega
    ·rw [i1k hb]
     by_cases hb2:base i < 2 * n + m
     ·rw [i1n hb2]
      have:base i=2 * n + (base i - 2 * n):=by omega
      rw [this,c0F (by omega)]
      have:=hle i hi
      split <;> omega
     ·rw [i1k hb2];omega
   rw [f0f] at this
   omega
  by_cases hj2:j < 2 * n
  ·rw [i1n hj2];omega
  ·rw [i1k hj2]
   have e:j=2 * n + (j - 2 * n):=by omega
   have h5:0≤d * e0v n m a bb r j:=by
    rw [e,c0F (by omega)];split <;> omega
   omega
 ·rw [I0U (W:=cost n cc) (fun c hc=>w0m hc)]
  have:sm (fun i=>if base i < 2 * n + m then T i j * cost n cc (base i) else 0) m=sm (fun i=>if base i < 2 * n then T i j * cost n cc (base i) else 0) m:=by
   refine b0m fun i hi=>?_
   by_cases hb:base i < 2 * n
   ·rw [i1n (by omega),i1n hb]
   ·rw [i1k hb,e0l (by omega)];split <;> simp
  by_cases hj2:j < 2 * n
  ·rw [i1n hj2];omega
  ·rw [i1k hj2]
   rw [e0l (by omega),k1u] at h2
   omega
theorem C0b {C i j k c:Nat} (hk:∀ c,c≤C→T k c=0) (hki:k ≠ i) (hc:c≤C) (hj:j≤C):pv T i j d k c=0:=by
 unfold pv;rw [i1k hki,hk c hc,hk j hj];simp
end Go.Proofs.YtilekhkgobmolaaGreat.SX
namespace Go.Proofs.YtilekhkgobmolaaGreat.AI
section
open Go SX
set_option maxHeartbeats 4000000
set_option maxRecDepth 4000
variable {fl:Nat} {H G:a0e} {R:a0E} {v w u:Value} {F:RK}
def X0N (T:Nat→Nat→Int) (base:Nat→Nat) (C j i:Nat) (z:Int):Prop:=(z = -1∧∀ k,k < i→T k j≤0) ∨ ∃ o:Nat,z=o∧o < i∧v0S T base C j i o
theorem y0v (X Y:Int):(c0A X Y = -1∧X < Y) ∨ (c0A X Y=0∧X=Y) ∨ (c0A X Y=1∧Y < X):=by
 unfold c0A
 by_cases hA:X < Y
 ·exact .inl ⟨by rw [i1n hA],hA⟩
 ·by_cases hB:Y < X
  ·exact .inr (.inr ⟨by rw [i1k hA,i1n hB],hB⟩)
  ·exact .inr (.inl ⟨by rw [i1k hA,i1k hB],by omega⟩)
theorem t0Z {f0 p n m j:Nat} {L:List (List Int)} {k D:Int} {bs:List Nat} {sR sD sB:Value} {vs:List Value} (h:e0N F f0 H p n m L D bs k sR sD sB vs) (hf:fl≤H.size) (hS:ShT n m L bs) (hz:∀ r c,lz (Tf L r c) < 67108864) (hj:j < 2 * n + m) (hm:m < 1048576) :
  a0S env fl (m0a F) [.pointer (some ⟨p,0,none⟩),.int .i64 (j:Int)] H (fun r H'=>(∃ z:Int,r=.int .i64 z∧X0N (Tf L) (bf bs) (2 * n + m) j m z)∧Ext H H') R:=by
 refine a0g A0x hf (h:=?_)
 intro ρ h0
 have hL:=hS.len
 have hr:=hS.row
 have hb:=hS.base
 simp [f0W,m0C,m0D,m0E,h0,h.blk]
 refine c0W (n:=m) (fun i ρ G=>ρ 0=.pointer (some ⟨p,0,none⟩)∧ρ 1=.int .i64 (j:Int)∧Ext H G∧∃ z,ρ 5=.int .i64 z∧X0N (Tf L) (bf bs) (2 * n + m) j i z) rfl rfl (by decide) (by omega) (by simp) (by simp) ?_ ?_ ?_ ?_
 ·exact ⟨by simp [h0],by simp [h0],Ext.refl H,-1,by simp,.inl ⟨rfl,fun k hk=>by omega⟩⟩
 ·intro i ρ ρ' G h hI;simpa [h] using hI
 ·clear h0 ρ
  rintro i ρ G hi gi gn ⟨g0,g1,hx,z,g5,hq⟩
  have hG:=h.mono hx
  have hiL:i < L.length:=by omega
  have hjL:j < L[i].length:=by rw [hr i hiL];omega
  obtain ⟨w1,e1,f1⟩:=hG.num hiL hjL
  have e0:=hG.head hiL
  have eh:=hG.hia hiL
  have ej:=hG.ia hiL hjL
  have hbk:=hG.blk
  obtain ⟨vi,hvi1⟩:∃ x,x=vs[i]'(by have:=h.rows.len;omega):=⟨_,rfl⟩
  rw [← hvi1] at e0 ej e1
  simp [m0F,gi]
  refine a0G ?_
  simp [m0G,g0,g1,gi,hbk,eh,e0,ej,e1]
  refine (r0D f1 (by have:=hx.1;omega) (hz _ _)).mono ?_
  rintro _ G2 ⟨rfl,hx2⟩
  replace hG:=hG.mono hx2
  replace hx:=hx.trans hx2
  clear hbk e1 f1 ej
  by_cases hp:0 < Tf L i j
  ·have hc:c0A (Tf L i j) 0=1:=by unfold c0A;rw [i1k (by omega),i1n (by omega)]
   simp [hc,m0H,g5]
   rcases hq with ⟨rfl,hq⟩ | ⟨o,rfl,ho,hB⟩
   ·simp [m0I]
    exact Rnd.mk (by simp [gi]) (by simp [gn]) ⟨by simp [g0],by simp [g1],hx,(i:Int),by simp,.inr ⟨i,rfl,by omega,v0S.one hp hq⟩⟩
   ·have hoL:o < L.length:=by omega
    have hjo:j < L[o].length:=by rw [hr o hoL];omega
    have hCi:2 * n + m < L[i].length:=by rw [hr i hiL];omega
    have hCo:2 * n + m < L[o].length:=by rw [hr o hoL];omega
    obtain ⟨w1,a1,fa⟩:=hG.num hiL hCi
    obtain ⟨w2,a2,fb⟩:=hG.num hoL hjo
    obtain ⟨w3,a3,fc⟩:=hG.num hoL hCo
    obtain ⟨w4,a4,fd⟩:=hG.num hiL hjL
    have ei:=hG.head hiL
    have eo:=hG.head hoL
    refine ⟨fun hh=>by omega,fun _=>?_⟩
    refine a0G ?_
    have iC:=hG.ia hiL hCi
    have oC:=hG.ia hoL hCo
    have eC:((2 * n + m:Nat):Int)=2 * (n:Int) + m:=by omega
    rw [eC] at iC oC
    have ij:=hG.ia hiL hjL
    have oj:=hG.ia hoL hjo
    have hi1:=hG.hia hiL
    have ho1:=hG.hia hoL
    have hbk:=hG.blk
    obtain ⟨vi,hvi1⟩:∃ x,x=vs[i]'(by have:=h.rows.len;omega):=⟨_,rfl⟩
    obtain ⟨vo,hvo1⟩:∃ x,x=vs[o]'(by have:=h.rows.len;omega):=⟨_,rfl⟩
    rw [← hvi1] at ei ij iC a1 a4
    rw [← hvo1] at eo oj oC a2 a3
    simp [m0J,g0,g1,g5,hbk,hi1,ho1,ei,eo,ij,oj]
    simp [iC,a1]
    simp [oC,oj,ij,a2,a3,a4]
    refine (U0l fa fb fc fd (by have:=hx.1;omega) (hz _ _) (hz _ _) (hz _ _) (hz _ _)).mono ?_
    rintro _ G3 ⟨rfl,hx3⟩
    replace hG:=hG.mono hx3
    replace hx:=hx.trans hx3
    refine a0G ?_
    obtain ⟨hc,h1⟩ | ⟨hc,h1⟩ | ⟨hc,h1⟩:=y0v (Tf L i (2 * n + m) * Tf L o j) (Tf L o (2 * n + m) * Tf L i j)
    ·simp [hc,g0A]
     simp [h0w]
     exact Rnd.mk (by simp [gi]) (by simp [gn]) ⟨by simp [g0],by simp [g1],hx,(i:Int),by simp,.inr ⟨i,rfl,by omega,hB.take hp (.inl h1)⟩⟩
    ·obtain ⟨li,bi⟩:=hG.base (show i < bs.length by omega)
     obtain ⟨lo,bo⟩:=hG.base (show o < bs.length by omega)
     have hbk:=hG.blk
     simp [hc,g0A,g0,g5,hbk,bi,bo,li,lo]
     by_cases hlt:bf bs i < bf bs o
     ·have hlt':¬ bf bs o≤bf bs i:=by omega
      simp [hlt,hlt',h0w]
      exact Rnd.mk (by simp [gi]) (by simp [gn]) ⟨by simp [g0],by simp [g1],hx,(i:Int),by simp,.inr ⟨i,rfl,by omega,hB.take hp (.inr ⟨h1,hlt⟩)⟩⟩
     ·have hlt':bf bs o≤bf bs i:=by omega
      simp [hlt,hlt']
      exact Rnd.mk (by simp [gi]) (by simp [gn]) ⟨by simp [g0],by simp [g1],hx,(o:Int),by simp [g5],.inr ⟨o,rfl,by omega,hB.keep (.inr ⟨h1.symm,by omega⟩)⟩⟩
    ·simp [hc,g0A]
     exact Rnd.mk (by simp [gi]) (by simp [gn]) ⟨by simp [g0],by simp [g1],hx,(o:Int),by simp [g5],.inr ⟨o,rfl,by omega,hB.keep (.inl h1)⟩⟩
  ·have hc:c0A (Tf L i j) 0≤0:=by unfold c0A;split <;> (try split) <;> omega
   simp [hc]
   refine Rnd.mk (by simp [gi]) (by simp [gn]) ⟨by simp [g0],by simp [g1],hx,z,by simp [g5],?_⟩
   rcases hq with ⟨rfl,hq⟩ | ⟨o,rfl,ho,hB⟩
   ·refine .inl ⟨rfl,fun k hk=>?_⟩
    by_cases hki:k=i
    ·rw [hki];omega
    ·exact hq k (by omega)
   ·exact .inr ⟨o,rfl,by omega,hB.skip (by omega)⟩
 ·rintro ρ G gi gn ⟨g0,g1,hx,z,g5,hq⟩
  simp [k0T,g5]
  exact fun _=>hq
end
section
open Go SX
set_option maxHeartbeats 4000000
variable {fl:Nat} {H G:a0e} {R:a0E} {v w u:Value}
def pvt (T:Nat→Nat→Int) (i j:Nat) (D:Int) (r c:Nat):Int:=if r=i then T i c else (T r c * T i j - T r j * T i c).tdiv D
def pvu (T:Nat→Nat→Int) (i j:Nat) (D:Int) (k q r c:Nat):Int:=if r < k ∨ r=k∧c < q then pvt T i j D r c else T r c
theorem C0d {T:Nat→Nat→Int} {i j:Nat} {D:Int} {k W r c:Nat} (hc:c < W):pvu T i j D k W r c=pvu T i j D (k + 1) 0 r c:=by
 unfold pvu
 by_cases h:r < k ∨ r=k∧c < W
 ·rw [i1n h,i1n (by omega)]
 ·rw [i1k h,i1k (by omega)]
theorem t0D {E:Env} {bef:List Nat} {Z:b0b→a0e→Prop} {v:Value} {j:Nat} {t:b0b}:∀ {ops:List a0I} {i:Nat} {lg:Log},(List.range ops.length).all (fun k=>(bef.getD (i + k) 0).testBit j)=true→R v→WRP E fl bef [] Z R i ops t H (some (j,v)) lg
 | [],i,lg,_,h=>⟨rfl,h⟩
 | o :: r,i,lg,hb,h=>by
  have h0:(bef.getD i 0).testBit j=true:=by
   have:=i1U.1 hb 0 (by simp)
   simpa using this
  show (if h0m bef i (some (j,v))=true then _ else _)
  rw [i1n (show h0m bef i (some (j,v))=true from h0)]
  refine t0D ?_ h
  rw [i1U]
  intro k hk
  have:=i1U.1 hb (k + 1) (by simp at hk ⊢;omega)
  rwa [show i + (k + 1)=i + 1 + k by omega] at this
theorem B0b {E:Env} {bef:List Nat} {Z:b0b→a0e→Prop} {j i:Nat} {t:b0b} {ops:List a0I} {lg:Log} (hb:(List.range ops.length).all (fun k=>(bef.getD (i + k) 0).testBit j)=true) (h:q0E .few R):q0E .few (fun v=>WRP E fl bef [] Z R i ops t H (some (j,v)) lg):=t0D hb h
theorem n0V {p n m i j:Nat} {L:List (List Int)} {k D:Int} {bs:List Nat} {sR sD sB:Value} {vs:List Value} (h:e0N .few fl H p n m L D bs k sR sD sB vs) (hf:fl≤H.size) (hS:ShT n m L bs) (hz:∀ r c,lz (Tf L r c) < 67108864) (hD:lz D < 67108864) (hD0:D ≠ 0) (hi:i < m) (hj:j < 2 * n + m) (hm:m < 1048576) (hn:n < 1048576) (hR:q0E .few R) :
  a0S env fl t0U [.pointer (some ⟨p,0,none⟩),.int .i64 (i:Int),.int .i64 (j:Int)] H (fun _ H'=>((∃ L' sD',e0N .few fl H' p n m L' (Tf L i j) (bs.set i j) (IntKind.i64.wrap (k + 1)) sR sD' sB vs∧ShT n m L' (bs.set i j)∧∀ r c,r < m + 2→c < 2 * n + m + 1→Tf L' r c=pvt (Tf L) i j D r c)∧Frm a0d d0J H H')∧f0Z fl H H') R:=by
 refine l0W e1V hf (h:=?_)
 intro ρ h0
 have hL:=hS.len
 have hr:=hS.row
 have hb:=hS.base
 have hiL:i < L.length:=by omega
 have hjL:j < L[i].length:=by rw [hr i hiL];omega
 have hbk:=h.blk
 rw [h0W] at hbk
 have hpl:=a0i hbk
 have hlow:=h.low
 simp [L0X,F0R,h0,hbk,hlow,hpl]
 generalize hS1:Array.setIfInBounds H p _=G1
 have t1:∀ {e:Nat},a0d ≠ e→LxT e H G1:=fun hne=>b0c hS1 hbk hne
 have hG:e0N .few fl G1 p n m L D bs (IntKind.i64.wrap (k + 1)) sR sD sB vs:=⟨a0v hS1 hbk,hlow,h.d,h.heads.lxm (t1 (by decide)) (fun _ _ h=>h),⟨h.rows.len,fun r hr=>(h.rows.own r hr).lxm (t1 (by decide)) (fun cs x hx=>X0x.lx _ _ _ _ (t1 (by decide)) hx),h.rows.apart⟩,h.basis.lxm (t1 (by decide)) (fun _ _ h=>h)⟩
 have hx:Frm a0d d0J H G1:=⟨by rw [← hS1];simp,fun e he _ _=>t1 (j1W he)⟩
 clear hS1 t1
 obtain ⟨w6,e6,f6⟩:=hG.num hiL hjL
 have eh:=hG.head hiL
 have hi1:=hG.hia hiL
 have ij:=hG.ia hiL hjL
 have hbk:=hG.blk
 rw [h0W] at hbk
 obtain ⟨vi,hvi1⟩:∃ x,x=vs[i]'(by have:=h.rows.len;omega):=⟨_,rfl⟩
 rw [← hvi1] at eh ij e6
 simp only [RK.w,RK.b,RK.p_few] at ij e6
 refine a0G ?_
 simp [F0S,h0,hbk,hi1,eh,ij,e6]
 have hsl:=hG.heads.sls.slen
 rw [hG.rows.len] at hsl
 simp [F0T,h0,hbk,hsl]
 refine c0W (n:=L.length) (fun k' ρ G=>ρ 0=.pointer (some ⟨p,0,none⟩)∧ρ 1=.int .i64 (i:Int)∧ρ 2=.int .i64 (j:Int)∧ρ 6=w6∧ρ 7=vi∧ρ 39=sR∧Frm a0d d0J H G∧rV .few G w6 (Tf L i j) ∧
   ∃ L',e0N .few fl G p n m L' D bs (IntKind.i64.wrap (k + 1)) sR sD sB vs∧ShT n m L' bs∧∀ r c,r < m + 2→c < 2 * n + m + 1→Tf L' r c=pvu (Tf L) i j D k' 0 r c) rfl rfl (by decide) (by omega) (by simp) (by simp) ?_ ?_ ?_ ?_
 ·exact ⟨by simp [h0],by simp [h0],by simp [h0],by simp,by simp,by simp,hx,f6,L,hG,hS,fun r c _ _=>by unfold pvu;rw [i1k (by omega)]⟩
 ·intro i ρ ρ' G h hI;simpa [h] using hI
 ·clear h0 ρ hG hx f6 e6 eh hi1 ij hbk hpl hsl
  rintro q ρ G hq gi gn ⟨g0,g1,g2,g6,g7,g39,hx,f6,L',hG,hS',hT⟩
  obtain ⟨vq,hvq⟩:∃ x,x=vs[q]'(by have:=h.rows.len;clear hG;omega):=⟨_,rfl⟩
  have hqL:q < L'.length:=by rw [hS'.len];omega
  have eq:=hG.head hqL
  have hq1:=hG.hia hqL
  rw [← hvq] at eq
  simp [F0U,gi,g39,hq1,eq]
  by_cases hqi:q=i
  ·subst hqi
   simp [v0b,g1]
   refine Rnd.mk (by simp [gi]) (by simp [gn]) ⟨by simp [g0],by simp [g1],by simp [g2],by simp [g6],by simp [g7],by simp [g39],hx,f6,L',hG,hS',fun r c h1 h2=>?_⟩
   rw [hT r c h1 h2]
   unfold pvu
   by_cases hrq:r=q
   ·subst hrq;rw [i1k (by omega),i1n (by omega)];unfold pvt;rw [i1n rfl]
   ·by_cases hlt:r < q
    ·rw [i1n (.inl hlt),i1n (by omega)]
    ·rw [i1k (by omega),i1k (by omega)]
  ·have hqi':¬ ((q:Int)=(i:Int)):=by omega
   have hjq:j < L'[q].length:=by rw [hS'.row q hqL];omega
   obtain ⟨w10,e10,f10⟩:=hG.num hqL hjq
   have qj:=hG.ia hqL hjq
   have hsq:=(hG.rows.own q hqL).slen
   rw [hS'.row q hqL] at hsq
   rw [← hvq] at qj e10 hsq
   simp only [RK.w,RK.b,RK.p_few] at qj e10
   have hb10:Tf L' q j=Tf L q j:=by rw [hT q j (by omega) (by omega)];unfold pvu;rw [i1k (by omega)]
   rw [hb10] at f10
   simp [v0b,g1,hqi,hqi',F0V,F0W,g2,qj,e10,hsq]
   obtain ⟨W,hW⟩:∃ W,W=2 * n + m + 1:=⟨_,rfl⟩
   have hWi:(2 * (n:Int) + m + 1)=(W:Int):=by omega
   refine o0r (n:=W) (fun c ρ G=>ρ 0=.pointer (some ⟨p,0,none⟩)∧ρ 1=.int .i64 (i:Int)∧ρ 2=.int .i64 (j:Int)∧ρ 6=w6∧ρ 7=vi∧ρ 39=sR∧ρ 41=.int .i64 (q:Int)∧ρ 40=.int .i64 (L.length:Int)∧ρ 9=vq∧ρ 10=w10∧Frm a0d d0J H G∧rV .few G w6 (Tf L i j)∧rV .few G w10 (Tf L q j) ∧
     ∃ L',e0N .few fl G p n m L' D bs (IntKind.i64.wrap (k + 1)) sR sD sB vs∧ShT n m L' bs∧∀ r c',r < m + 2→c' < 2 * n + m + 1→Tf L' r c' = pvu (Tf L) i j D q c r c') rfl rfl (by decide) (by omega) (by simp) (by simp [hWi]) ?_ ?_ ?_ ?_
   ·exact ⟨by simp [g0],by simp [g1],by simp [g2],by simp [g6],by simp [g7],by simp [g39],by simp [gi],by simp [gn],by simp,by simp,hx,f6,f10,L',hG,hS',hT⟩
   ·intro i ρ ρ' G h hI;simpa [h] using hI
   ·clear g0 g1 g2 g6 g7 g39 gi gn hx f6 f10 hG hS' hT e10 eq hq1 qj hsq hb10 hqL hjq L' ρ G
    rintro c ρ G hc gc gw ⟨g0,g1,g2,g6,g7,g39,gi,gn,g9,g10,hx,f6,f10,L',hG,hS',hT⟩
    have hqL:q < L'.length:=by rw [hS'.len];omega
    have hiL':i < L'.length:=by rw [hS'.len];omega
    have hcq:c < L'[q].length:=by rw [hS'.row q hqL];omega
    have hci:c < L'[i].length:=by rw [hS'.row i hiL'];omega
    obtain ⟨wq,eq,fq⟩:=hG.num hqL hcq
    obtain ⟨wi,ei,fi⟩:=hG.num hiL' hci
    have qc:=hG.ia hqL hcq
    have ic:=hG.ia hiL' hci
    have tq:Tf L' q c=Tf L q c:=by rw [hT q c (by omega) (by omega)];unfold pvu;rw [i1k (by omega)]
    have ti:Tf L' i c=Tf L i c:=by
     rw [hT i c (by omega) (by omega)];unfold pvu;split
     ·unfold pvt;rw [i1n rfl]
     ·rfl
    rw [tq] at fq
    rw [ti] at fi
    have qc':=qc
    rw [← hvq] at qc eq
    rw [← hvi1] at ic ei
    simp only [RK.w,RK.b,RK.p_few] at qc ic eq ei
    have hbk:=hG.blk
    rw [h0W] at hbk
    have dv:=hG.dv
    simp [F0X,gc]
    refine l0P ?_
    simp [x0y,g0,g6,g7,g9,g10,gc,hbk,qc,ic,eq,ei]
    have hxs:=hx.1
    have hq1:=fun (R':a0E) (hR':q0E .few R')=>M0K (fl:=fl) (R:=R') fq f6 f10 fi dv (by omega) (hz _ _) (hz _ _) (hz _ _) (hz _ _) hD hD0 hR'
    refine a0S.mono (hq1 _ (B0b rfl hR)) ?_
    clear hq1
    rintro ws G3 ⟨fs,hx3⟩
    obtain ⟨G4,hst,hG4,hx4,_⟩:=(hG.mono hx3).store (x:=(Tf L q c * Tf L i j - Tf L q j * Tf L i c).tdiv D) hqL hcq fs
    rw [← hvq] at hst
    simp only [RK.w,RK.b,RK.p_few] at hst
    have hlx:Lx G3 G4:=hx4.2 a0h (by decide) (by decide) (by decide)
    simp [g9,gc,qc,hst]
    refine Rnd.mk ?_ ?_ ?_
    ·simp [gc]
    ·simp [gw]
    refine ⟨by simp [g0],by simp [g1],by simp [g2],by simp [g6],by simp [g7],by simp [g39],by simp [gi],by simp [gn],by simp [g9],by simp [g10],hx.trans (hx3.frm.trans hx4),(f6.mono hx3).lx hlx,(f10.mono hx3).lx hlx,_,hG4,hS'.set hqL,fun r c' h1 h2=>?_⟩
    rw [z0Y hS' hqL hcq,hT r c' h1 h2]
    unfold pvu
    by_cases hrc:r=q∧c' = c
    ·obtain ⟨rfl,rfl⟩:=hrc
     rw [i1n ⟨rfl,rfl⟩,i1n (by omega)]
     unfold pvt;rw [i1k hqi]
    ·rw [i1k hrc]
     by_cases hlt:r < q ∨ r=q∧c' < c
     ·rw [i1n hlt,i1n (by omega)]
     ·rw [i1k hlt,i1k (by omega)]
   ·rintro ρ G gc gw ⟨g0,g1,g2,g6,g7,g39,gi,gn,g9,g10,hx,f6,f10,L',hG,hS',hT⟩
    simp
    refine Rnd.mk gi gn ⟨g0,g1,g2,g6,g7,g39,hx,f6,L',hG,hS',fun r c h1 h2=>?_⟩
    rw [hT r c h1 h2,hW];exact C0d h2
 ·clear h0 ρ hG hx f6 e6 eh hi1 ij hbk hpl hsl
  rintro ρ G gi gn ⟨g0,g1,g2,g6,g7,g39,hx,f6,L',hG,hS',hT⟩
  obtain ⟨rfl,fz⟩:=f6
  have hbk:=hG.blk
  rw [h0W] at hbk
  have hpl:=a0i hbk
  have hib:i < bs.length:=by omega
  have ib:=(hG.base hib).2
  have hiL':i < L'.length:=by rw [hS'.len];omega
  simp [x0z,g0,g1,g2,g6,hbk,hlow,hpl,ib]
  generalize hS1:Array.setIfInBounds G p _=G1
  have t1:∀ {e:Nat},a0d ≠ e→LxT e G G1:=fun hne=>b0c hS1 hbk hne
  obtain ⟨G2,hst,ho,hxb⟩:=b0d.store (Q:=PK) (x:=j) (w:=.int .i64 (j:Int)) (hG.basis.lxm (Q':=PK) (t1 (by decide)) (fun _ _ h=>h)) hib (by decide) rfl rfl (fun _ _ _=>rfl) (by decide) (fun _ _ _ _ _ h=>h)
  have hob:=hG.basis.lxm (Q':=PK) (G':=G1) (t1 (by decide)) (fun _ _ h=>h)
  have tb:∀ {e:Nat},e0F ≠ e→LxT e G1 G2:=fun hne=>hob.lxT hne hxb
  simp [hst]
  refine ⟨⟨L',⟨sD,⟨?_,hlow,fz,?_,?_,ho⟩⟩,⟨hS'.len,hS'.row,by simp [hS'.base]⟩,fun r c h1 h2=>?_⟩,hx.trans ⟨i1t (by rw [← hS1];simp) hxb.1,fun e h1 h2 h3 b ro cs hb=>tb (j1W h3) b ro cs (t1 (j1W h1) b ro cs hb)⟩⟩
  ·have hw:=a0v hS1 hbk
   exact tb (by decide) _ _ _ (by rw [h0W];simpa using hw)
  ·exact (hG.heads.lxm (Q':=PV) (t1 (by decide)) (fun _ _ h=>h)).lxm (tb (by decide)) (fun _ _ h=>h)
  ·exact ⟨hG.rows.len,fun r hr=>((hG.rows.own r hr).lxm (Q':=PF) (t1 (by decide)) (fun cs x hx=>X0x.lx _ _ _ _ (t1 (by decide)) hx)).lxm (tb (by decide)) (fun cs x hx=>X0x.lx _ _ _ _ (tb (by decide)) hx),hG.rows.apart⟩
  ·rw [hT r c h1 h2];unfold pvu;rw [i1n (by omega)]
theorem b0d.adr_blk {α:Type} {P:a0e→List Value→α→Prop} {e sz j:Nat} {v:Value} {l:List α} (h:b0d P fl G e sz v l) (hj:j < l.length):∃ b,AI.blkOf (adr sz v j)=[b]∧b < G.size∧slB v=some b:=by
 obtain ⟨cs',⟨hl',⟨rfl,h0⟩ | ⟨b',cap,rfl,hp,hf⟩⟩,h2⟩:=h
 ·omega
 ·exact ⟨b',rfl,a0i hp,rfl⟩
def Bx (G:a0e) (q:Nat) (z:Int):Prop:=∃ s,a0e.blk G q=.row false a0a [.bool (a0k z).1,s]∧Lim G s (a0k z).2
theorem Bx.mono {G':a0e} {q:Nat} {z:Int} (h:Bx G q z) (hx:Ext G G'):Bx G' q z:=by obtain ⟨s,h1,h2⟩:=h;exact ⟨s,hx.blk h1,h2.mono hx⟩
theorem Bx.off {G':a0e} {q:Nat} {z:Int} {o:Option Nat} (h:Bx G q z) (hx:d0l o G G') (hl:Lx G G') (ho:o ≠ some q):Bx G' q z:=by
 obtain ⟨s,h1,h2⟩:=h;exact ⟨s,(hx.2 q (a0i h1) ho).trans h1,h2.lx hl⟩
theorem n0K {p n m i j:Nat} {L:List (List Int)} {k D:Int} {bs:List Nat} {sR sD sB:Value} {vs:List Value} (h:e0N .all fl H p n m L D bs k sR sD sB vs) (hf:fl≤H.size) (hS:ShT n m L bs) (hz:∀ r c,lz (Tf L r c) < 67108864) (hD:lz D < 67108864) (hD0:D ≠ 0) (hi:i < m) (hj:j < 2 * n + m) (hm:m < 1048576) (hn:n < 1048576) (hR:q0E .all R) :
  a0S env fl t0T [.pointer (some ⟨p,0,none⟩),.int .i64 (i:Int),.int .i64 (j:Int)] H (fun _ H'=>((∃ L' sD',e0N .all fl H' p n m L' (Tf L i j) (bs.set i j) (IntKind.i64.wrap (k + 1)) sR sD' sB vs∧ShT n m L' (bs.set i j)∧∀ r c,r < m + 2→c < 2 * n + m + 1→Tf L' r c=pvt (Tf L) i j D r c)∧Frm a0c a0a H H')∧f0Z fl H H') R:=by
 refine l0W e1L hf (h:=?_)
 intro ρ h0
 have hL:=hS.len
 have hr:=hS.row
 have hb:=hS.base
 have hiL:i < L.length:=by omega
 have hjL:j < L[i].length:=by rw [hr i hiL];omega
 have hbk:=h.blk
 rw [g0B] at hbk
 have hpl:=a0i hbk
 have hlow:=h.low
 simp [L0N,E0P,h0,hbk,hlow,hpl]
 generalize hS1:Array.setIfInBounds H p _=G1
 have t1:∀ {e:Nat},a0c ≠ e→LxT e H G1:=fun hne=>b0c hS1 hbk hne
 have hG:e0N .all fl G1 p n m L D bs (IntKind.i64.wrap (k + 1)) sR sD sB vs:=⟨a0v hS1 hbk,hlow,h.d.lx (t1 (by decide)),h.heads.lxm (t1 (by decide)) (fun _ _ h=>h),⟨h.rows.len,fun r hr=>(h.rows.own r hr).lxm (t1 (by decide)) (fun cs x hx=>X0w.lx _ _ _ _ (t1 (by decide)) hx),h.rows.apart⟩,h.basis.lxm (t1 (by decide)) (fun _ _ h=>h)⟩
 have hx:Frm a0c a0a H G1:=⟨by rw [← hS1];simp,fun e he _ _=>t1 (j1W he)⟩
 clear hS1 t1
 obtain ⟨w6,e6,f6⟩:=hG.num hiL hjL
 have eh:=hG.head hiL
 have hi1:=hG.hia hiL
 have ij:=hG.ia hiL hjL
 have hbk:=hG.blk
 rw [g0B] at hbk
 obtain ⟨vi,hvi1⟩:∃ x,x=vs[i]'(by have:=h.rows.len;omega):=⟨_,rfl⟩
 rw [← hvi1] at eh ij e6
 simp only [RK.w,RK.b,RK.p_all] at ij e6
 obtain ⟨bR,hbR,hbRl,_⟩:=(hG.heads).adr_blk (j:=i) (by have:=h.rows.len;omega)
 obtain ⟨s6,rfl,k6⟩:=f6
 have hfl:fl≤G1.size:=i1t hf hx.1
 have hpl1:=a0i hbk
 refine c0J ?_
 simp [E0Q,h0,hbk,hi1,eh,ij,e6,k6.cells,k6.plain,hfl]
 generalize hN:Array.setIfInBounds (Array.push _ _) _ _=G2
 obtain ⟨hx2,b6⟩:=new1 hN
 clear hN
 have P6l:∀ r (hr:r < vs.length),slB vs[r] ≠ some G1.size:=fun r hr' h5=>by
  have:=((hG.rows.own r (by have:=hG.rows.len;omega)).ge h5).2
  omega
 generalize hP6:Array.size G1=P6 at *
 have hne1:p ≠ P6:=by omega
 have hne2:bR ≠ P6:=by omega
 replace hG:=hG.mono hx2
 replace hx:=hx.trans hx2.frm
 replace k6:=k6.mono hx2
 replace hbk:=hG.blk
 rw [g0B] at hbk
 simp [hbR,hne1,hne2,j1W hne1,j1W hne2]
 have hsl:=hG.heads.sls.slen
 rw [hG.rows.len] at hsl
 simp [E0R,h0,hbk,hsl]
 refine c0W (n:=L.length) (fun k' ρ G=>ρ 0=.pointer (some ⟨p,0,none⟩)∧ρ 1=.int .i64 (i:Int)∧ρ 2=.int .i64 (j:Int)∧ρ 6=.pointer (some ⟨P6,0,none⟩)∧ρ 7=vi∧ρ 39=sR∧Frm a0c a0a H G∧Bx G P6 (Tf L i j) ∧
   ∃ L',e0N .all fl G p n m L' D bs (IntKind.i64.wrap (k + 1)) sR sD sB vs∧ShT n m L' bs∧∀ r c,r < m + 2→c < 2 * n + m + 1→Tf L' r c=pvu (Tf L) i j D k' 0 r c) rfl rfl (by decide) (by omega) (by simp) (by simp) ?_ ?_ ?_ ?_
 ·exact ⟨by simp [h0],by simp [h0],by simp [h0],by simp,by simp,by simp,hx,⟨s6,b6,k6⟩,L,hG,hS,fun r c _ _=>by unfold pvu;rw [i1k (by omega)]⟩
 ·intro i ρ ρ' G h hI;simpa [h] using hI
 ·clear h0 ρ hG hx k6 b6 e6 eh hi1 ij hbk hpl hsl hx2 hpl1
  rintro q ρ G hq gi gn ⟨g0,g1,g2,g6,g7,g39,hx,f6,L',hG,hS',hT⟩
  obtain ⟨vq,hvq⟩:∃ x,x=vs[q]'(by have:=h.rows.len;clear hG;omega):=⟨_,rfl⟩
  have hqL:q < L'.length:=by rw [hS'.len];omega
  have eq:=hG.head hqL
  have hq1:=hG.hia hqL
  rw [← hvq] at eq
  simp [E0S,gi,g39,hq1,eq]
  by_cases hqi:q=i
  ·subst hqi
   simp [u0W,g1]
   refine Rnd.mk (by simp [gi]) (by simp [gn]) ⟨by simp [g0],by simp [g1],by simp [g2],by simp [g6],by simp [g7],by simp [g39],hx,f6,L',hG,hS',fun r c h1 h2=>?_⟩
   rw [hT r c h1 h2]
   unfold pvu
   by_cases hrq:r=q
   ·subst hrq;rw [i1k (by omega),i1n (by omega)];unfold pvt;rw [i1n rfl]
   ·by_cases hlt:r < q
    ·rw [i1n (.inl hlt),i1n (by omega)]
    ·rw [i1k (by omega),i1k (by omega)]
  ·have hqi':¬ ((q:Int)=(i:Int)):=by omega
   have hjq:j < L'[q].length:=by rw [hS'.row q hqL];omega
   obtain ⟨w10,e10,f10⟩:=hG.num hqL hjq
   have qj:=hG.ia hqL hjq
   have hsq:=(hG.rows.own q hqL).slen
   rw [hS'.row q hqL] at hsq
   rw [← hvq] at qj e10 hsq
   simp only [RK.w,RK.b,RK.p_all] at qj e10
   have hb10:Tf L' q j=Tf L q j:=by rw [hT q j (by omega) (by omega)];unfold pvu;rw [i1k (by omega)]
   rw [hb10] at f10
   obtain ⟨s10,rfl,k10⟩:=f10
   have hfl2:fl≤G.size:=i1t hf hx.1
   simp [u0W,g1,hqi,hqi',E0T,g2,qj,e10,k10.cells,k10.plain,hfl2]
   generalize hN:Array.setIfInBounds (Array.push _ _) _ _=G2
   obtain ⟨hx2,b10⟩:=new1 hN
   clear hN
   have P10l:∀ r (hr:r < vs.length),slB vs[r] ≠ some G.size:=fun r hr' h5=>by
    have:=((hG.rows.own r (by have:=hG.rows.len;omega)).ge h5).2
    omega
   generalize hP10:Array.size G=P10 at *
   replace hG:=hG.mono hx2
   replace hx:=hx.trans hx2.frm
   replace f6:=f6.mono hx2
   replace k10:=k10.mono hx2
   have f10:Bx G2 P10 (Tf L q j):=⟨s10,b10,k10⟩
   simp [E0U,hsq]
   obtain ⟨W,hW⟩:∃ W,W=2 * n + m + 1:=⟨_,rfl⟩
   have hWi:(2 * (n:Int) + m + 1)=(W:Int):=by omega
   refine o0r (n:=W) (fun c ρ G=>ρ 0=.pointer (some ⟨p,0,none⟩)∧ρ 1=.int .i64 (i:Int)∧ρ 2=.int .i64 (j:Int)∧ρ 6=.pointer (some ⟨P6,0,none⟩)∧ρ 7=vi∧ρ 39=sR∧ρ 41=.int .i64 (q:Int)∧ρ 40=.int .i64 (L.length:Int)∧ρ 9=vq∧ρ 10=.pointer (some ⟨P10,0,none⟩)∧Frm a0c a0a H G∧Bx G P6 (Tf L i j)∧Bx G P10 (Tf L q j) ∧
     ∃ L',e0N .all fl G p n m L' D bs (IntKind.i64.wrap (k + 1)) sR sD sB vs∧ShT n m L' bs∧∀ r c',r < m + 2→c' < 2 * n + m + 1→Tf L' r c' = pvu (Tf L) i j D q c r c') rfl rfl (by decide) (by omega) (by simp) (by simp [hWi]) ?_ ?_ ?_ ?_
   ·exact ⟨by simp [g0],by simp [g1],by simp [g2],by simp [g6],by simp [g7],by simp [g39],by simp [gi],by simp [gn],by simp,by simp,hx,f6,f10,L',hG,hS',hT⟩
   ·intro i ρ ρ' G h hI;simpa [h] using hI
   ·clear g0 g1 g2 g6 g7 g39 gi gn hx f6 f10 hG hS' hT e10 eq hq1 qj hsq hb10 hqL hjq k10 b10 hx2 hfl2 hP10 L' ρ G
    rintro c ρ G hc gc gw ⟨g0,g1,g2,g6,g7,g39,gi,gn,g9,g10,hx,f6,f10,L',hG,hS',hT⟩
    have hqL:q < L'.length:=by rw [hS'.len];omega
    have hiL':i < L'.length:=by rw [hS'.len];omega
    have hcq:c < L'[q].length:=by rw [hS'.row q hqL];omega
    have hci:c < L'[i].length:=by rw [hS'.row i hiL'];omega
    obtain ⟨wq,eq,fq⟩:=hG.num hqL hcq
    obtain ⟨wi,ei,fi⟩:=hG.num hiL' hci
    have qc:=hG.ia hqL hcq
    have ic:=hG.ia hiL' hci
    have tq:Tf L' q c=Tf L q c:=by rw [hT q c (by omega) (by omega)];unfold pvu;rw [i1k (by omega)]
    have ti:Tf L' i c=Tf L i c:=by
     rw [hT i c (by omega) (by omega)];unfold pvu;split
     ·unfold pvt;rw [i1n rfl]
     ·rfl
    rw [tq] at fq
    rw [ti] at fi
    have qc':=qc
    rw [← hvq] at qc eq
    rw [← hvi1] at ic ei
    simp only [RK.w,RK.b,RK.p_all] at qc ic eq ei
    have hbk:=hG.blk
    rw [g0B] at hbk
    have dv:=hG.dv
    obtain ⟨s6,b6,k6⟩:=id f6
    obtain ⟨s10,b10,k10⟩:=id f10
    have v6:rV .all G (.agg #[.bool (a0k (Tf L i j)).1,s6]) (Tf L i j):=⟨s6,rfl,k6⟩
    have v10:rV .all G (.agg #[.bool (a0k (Tf L q j)).1,s10]) (Tf L q j):=⟨s10,rfl,k10⟩
    simp [E0V,gc]
    refine l0P ?_
    simp [x0q,g0,g6,g7,g9,g10,gc,hbk,qc,ic,eq,ei,b6,b10]
    have hxs:=hx.1
    have hq1:=fun (R':a0E) (hR':q0E .all R')=>M0K (fl:=fl) (R:=R') fq v6 v10 fi dv (by omega) (hz _ _) (hz _ _) (hz _ _) (hz _ _) hD hD0 hR'
    refine a0S.mono (hq1 _ trivial) ?_
    clear hq1
    rintro ws G3 ⟨fs,hx3⟩
    obtain ⟨G4,hst,hG4,hx4,hxb4⟩:=(hG.mono hx3).store (x:=(Tf L q c * Tf L i j - Tf L q j * Tf L i c).tdiv D) hqL hcq fs
    rw [← hvq] at hst hxb4
    simp only [RK.w,RK.b,RK.p_all] at hst
    have hvq6:slB vq ≠ some P6:=by rw [hvq];exact P6l q (by have:=h.rows.len;omega)
    have hvq10:slB vq ≠ some P10:=by rw [hvq];exact P10l q (by have:=h.rows.len;omega)
    have hlx:Lx G3 G4:=hx4.2 a0h (by decide) (by decide) (by decide)
    simp [g9,gc,qc,hst]
    refine Rnd.mk ?_ ?_ ?_
    ·simp [gc]
    ·simp [gw]
    refine ⟨by simp [g0],by simp [g1],by simp [g2],by simp [g6],by simp [g7],by simp [g39],by simp [gi],by simp [gn],by simp [g9],by simp [g10],hx.trans (hx3.frm.trans hx4),(f6.mono hx3).off hxb4 hlx hvq6,(f10.mono hx3).off hxb4 hlx hvq10,_,hG4,hS'.set hqL,fun r c' h1 h2=>?_⟩
    rw [z0Y hS' hqL hcq,hT r c' h1 h2]
    unfold pvu
    by_cases hrc:r=q∧c' = c
    ·obtain ⟨rfl,rfl⟩:=hrc
     rw [i1n ⟨rfl,rfl⟩,i1n (by omega)]
     unfold pvt;rw [i1k hqi]
    ·rw [i1k hrc]
     by_cases hlt:r < q ∨ r=q∧c' < c
     ·rw [i1n hlt,i1n (by omega)]
     ·rw [i1k hlt,i1k (by omega)]
   ·rintro ρ G gc gw ⟨g0,g1,g2,g6,g7,g39,gi,gn,g9,g10,hx,f6,f10,L',hG,hS',hT⟩
    simp
    refine Rnd.mk gi gn ⟨g0,g1,g2,g6,g7,g39,hx,f6,L',hG,hS',fun r c h1 h2=>?_⟩
    rw [hT r c h1 h2,hW];exact C0d h2
 ·clear h0 ρ hG hx k6 b6 e6 eh hi1 ij hbk hpl hsl hx2 hpl1
  rintro ρ G gi gn ⟨g0,g1,g2,g6,g7,g39,hx,f6,L',hG,hS',hT⟩
  obtain ⟨s6,b6,k6⟩:=f6
  have hbk:=hG.blk
  rw [g0B] at hbk
  have hpl:=a0i hbk
  have hib:i < bs.length:=by omega
  have ib:=(hG.base hib).2
  have hiL':i < L'.length:=by rw [hS'.len];omega
  refine a0G ?_
  simp [x0r,g0,g1,g2,g6,hbk,hlow,hpl,ib,b6,k6.cells,k6.plain]
  generalize hS1:Array.setIfInBounds G p _=G1
  have t1:∀ {e:Nat},a0c ≠ e→LxT e G G1:=fun hne=>b0c hS1 hbk hne
  obtain ⟨G2,hst,ho,hxb⟩:=b0d.store (Q:=PK) (x:=j) (w:=.int .i64 (j:Int)) (hG.basis.lxm (Q':=PK) (t1 (by decide)) (fun _ _ h=>h)) hib (by decide) rfl rfl (fun _ _ _=>rfl) (by decide) (fun _ _ _ _ _ h=>h)
  have hob:=hG.basis.lxm (Q':=PK) (G':=G1) (t1 (by decide)) (fun _ _ h=>h)
  have tb:∀ {e:Nat},e0F ≠ e→LxT e G1 G2:=fun hne=>hob.lxT hne hxb
  simp [hst]
  refine ⟨⟨L',⟨s6,⟨?_,hlow,(k6.lx (t1 (by decide))).lx (tb (by decide)),?_,?_,ho⟩⟩,⟨hS'.len,hS'.row,by simp [hS'.base]⟩,fun r c h1 h2=>?_⟩,hx.trans ⟨i1t (by rw [← hS1];simp) hxb.1,fun e h1 h2 h3 b ro cs hb=>tb (j1W h3) b ro cs (t1 (j1W h1) b ro cs hb)⟩⟩
  ·have hw:=a0v hS1 hbk
   exact tb (by decide) _ _ _ (by rw [g0B];simpa using hw)
  ·exact (hG.heads.lxm (Q':=PV) (t1 (by decide)) (fun _ _ h=>h)).lxm (tb (by decide)) (fun _ _ h=>h)
  ·exact ⟨hG.rows.len,fun r hr=>((hG.rows.own r hr).lxm (Q':=PI) (t1 (by decide)) (fun cs x hx=>X0w.lx _ _ _ _ (t1 (by decide)) hx)).lxm (tb (by decide)) (fun cs x hx=>X0w.lx _ _ _ _ (tb (by decide)) hx),hG.rows.apart⟩
  ·rw [hT r c h1 h2];unfold pvu;rw [i1n (by omega)]
theorem k0p {F:RK} {p n m i j:Nat} {L:List (List Int)} {k D:Int} {bs:List Nat} {sR sD sB:Value} {vs:List Value} (h:e0N F fl H p n m L D bs k sR sD sB vs) (hf:fl≤H.size) (hS:ShT n m L bs) (hz:∀ r c,lz (Tf L r c) < 67108864) (hD:lz D < 67108864) (hD0:D ≠ 0) (hi:i < m) (hj:j < 2 * n + m) (hm:m < 1048576) (hn:n < 1048576) (hR:q0E F R) :
  a0S env fl (F.p t0U t0T) [.pointer (some ⟨p,0,none⟩),.int .i64 (i:Int),.int .i64 (j:Int)] H (fun _ H'=>((∃ L' sD',e0N F fl H' p n m L' (Tf L i j) (bs.set i j) (IntKind.i64.wrap (k + 1)) sR sD' sB vs∧ShT n m L' (bs.set i j)∧∀ r c,r < m + 2→c < 2 * n + m + 1→Tf L' r c=pvt (Tf L) i j D r c)∧Frm F.T F.E H H')∧f0Z fl H H') R:=by
 cases F
 ·exact n0V h hf hS hz hD hD0 hi hj hm hn hR
 ·exact n0K h hf hS hz hD hD0 hi hj hm hn hR
end
section
open Go SX
set_option maxHeartbeats 4000000
variable {fl:Nat} {H G:a0e} {R:a0E} {v w u:Value} {F:RK}
theorem U0t {c:SCode} {i:Nat} {t:b0b} {Q:d0X} (I:Nat→b0b→a0e→Prop) (M:b0b→a0e→Prop) (k:Nat) (hI:I k t H)
  (step:∀ k t H,I k t H→W env fl c t H (m0j i (fun t' H'=>∃ k',k' < k∧I k' t' H') M Q) R)
  (rest:∀ t H,M t H→Q .normal t H):W env fl (.loop c) t H (e0Z i Q) R:=by
 rw [← k0B (Q:=Q)]
 refine b0R (Z:=fun t H=>Q .normal t H) (Q:=Q) I M k hI step rest
theorem N0j {m C:Nat} {A T:Nat→Nat→Int} {neg:Nat→Prop} {base:Nat→Nat} {d:Int} (h:Tab m C A neg T base d) {i j r c:Nat} (hi:i < m) (hj:j≤C) (hp:T i j ≠ 0) (hr:r < m + 2) (hc:c≤C):pvt T i j d r c=pv T i j d r c:=by
 unfold pvt
 by_cases hri:r=i
 ·rw [i1n hri];unfold pv;rw [i1n hri]
 ·rw [i1k hri,h.exact hi hj hp hr hc hri,Int.mul_tdiv_cancel_left _ (by have:=h.pos;omega)]
theorem A0k {bs:List Nat} {i j k:Nat} (hi:i < bs.length):bf (bs.set i j) k=if k=i then j else bf bs k:=by
 unfold bf
 simp only [i1h,i1R]
 by_cases h:i=k
 ·subst h;simp [hi]
 ·rw [i1k h,i1k (fun h2=>h h2.symm)]
theorem X0Q {n m r c:Nat} {L:List (List Int)} {bs:List Nat} (h:ShT n m L bs) (ho:¬ (r < m + 2∧c≤2 * n + m)):Tf L r c=0:=by
 unfold Tf
 by_cases hr:r < L.length
 ·have:=h.row r hr
  have:=h.len
  rw [i1h,i1h,i1m hr,i1O,i1s (by omega)];rfl
 ·have e:L.getD r []=[]:=by rw [i1h,i1s (by omega)];rfl
  rw [e];rfl
theorem V0s {n m:Nat} {L:List (List Int)} {bs:List Nat} (h:ShT n m L bs) (hb:∀ r c,r < m + 2→c≤2 * n + m→lz (Tf L r c) < 67108864) (r c:Nat):lz (Tf L r c) < 67108864:=by
 by_cases ho:r < m + 2∧c≤2 * n + m
 ·exact hb r c ho.1 ho.2
 ·rw [X0Q h ho,c0K];decide
def Zr (m C:Nat) (T:Nat→Nat→Int) (base:Nat→Nat):Prop:=∀ i,i < m→¬ base i < C→∀ c,c≤C→T i c=0
theorem Zr.pivot {m C:Nat} {A T T':Nat→Nat→Int} {base base':Nat→Nat} {d:Int} {i j:Nat} (h:Zr m C T base) (hi:i < m) (hj:j < C) (hT:∀ k c,k < m + 2→c≤C→T' k c=pv T i j d k c) (hb:∀ k,k < m→base' k=if k=i then j else base k):Zr m C T' base':=by
 intro r hr hbr c hc
 have h1:=hb r hr
 by_cases hri:r=i
 ·rw [i1n hri] at h1;omega
 ·rw [i1k hri] at h1
  rw [hT r c (by omega) hc]
  exact C0b (C:=C) (fun c hc=>h r hr (by omega) c hc) hri hc (by omega)
def Bnd (m C:Nat) (A:Nat→Nat→Int) (neg:Nat→Prop):Prop:=∀ T base d,Tab m C A neg T base d→(∀ r c,r < m + 2→c≤C→lz (T r c) < 67108864)∧lz d < 67108864
def f1K (F:RK) (fl p n m g:Nat) (L:List (List Int)) (bs:List Nat) (sR sB:Value) (vs:List Value) (A:Nat→Nat→Int) (neg:Nat→Prop) (H:a0e) (z:Int) (H':a0e):Prop :=
 ∃ L' D' bs' k' sD',e0N F fl H' p n m L' D' bs' k' sR sD' sB vs∧ShT n m L' bs'∧Tab m (2 * n + m) A neg (Tf L') (bf bs') D'∧(Zr m (2 * n + m) (Tf L) (bf bs)→Zr m (2 * n + m) (Tf L') (bf bs'))∧Frm F.T F.E H H' ∧
   ((z = -1∧∀ c,c < 2 * n + m→0≤Tf L' g c) ∨ (∃ j:Nat,z=j∧j < 2 * n + m∧Tf L' g j < 0∧∀ i,i < m→Tf L' i j≤0))
def f1J (F:RK) (fl p n m g:Nat) (L:List (List Int)) (bs:List Nat) (sR sB:Value) (vs:List Value) (A:Nat→Nat→Int) (neg:Nat→Prop) (H:a0e) (c:Nat) (t:b0b) (G:a0e):Prop :=
 ∃ N ρ L' D' bs' k' sD',t=T 50 ρ∧N + c=((2 * n + m) + m) ^ m∧ρ 0=.pointer (some ⟨p,0,none⟩)∧ρ 1=.int .i64 (g:Int)∧Frm F.T F.E H G∧e0N F fl G p n m L' D' bs' k' sR sD' sB vs∧ShT n m L' bs'∧SX.Reach m (2 * n + m) g A neg N (Tf L') (bf bs') D'∧(Zr m (2 * n + m) (Tf L) (bf bs)→Zr m (2 * n + m) (Tf L') (bf bs'))
theorem x0V {p n m g:Nat} {L:List (List Int)} {k D:Int} {bs:List Nat} {sR sD sB:Value} {vs:List Value} {A:Nat→Nat→Int} {neg:Nat→Prop} (h:e0N F fl H p n m L D bs k sR sD sB vs) (hf:fl≤H.size) (hS:ShT n m L bs) (hT:Tab m (2 * n + m) A neg (Tf L) (bf bs) D) (hBd:Bnd m (2 * n + m) A neg) (hg:g=m ∨ g=m + 1) (hm:m < 1048576) (hn:n < 1048576) (hR:q0E F R) :
  a0S env fl (w0q F) [.pointer (some ⟨p,0,none⟩),.int .i64 (g:Int)] H (fun r H'=>(∃ z,r=.int .i64 z∧f1K F fl p n m g L bs sR sB vs A neg H z H')∧f0Z fl H H') R:=by
 refine l0W Y0B hf (h:=?_)
 intro ρ h0
 simp [p0x,w0Y,h0]
 refine U0t (f1J F fl p n m g L bs sR sB vs A neg H)
  (fun _ _=>False) (((2 * n + m) + m) ^ m) ⟨0,_,L,D,bs,k,sD,rfl,by omega,by simp [h0],by simp [h0],Frm.refl,h,hS,SX.Reach.zero hT,id⟩ ?_ (fun _ _ h=>i1A h id)
 clear h0 ρ
 rintro c _ G0 ⟨N,ρ,L',D',bs',k',sD',rfl,hN,g0,g1,hx,hG,hS',hre,hZ⟩
 have hTab:=hre.tab
 have hshort:=hre.short hg
 have hz:=V0s hS' (hBd _ _ _ hTab).1
 have hlD:=(hBd _ _ _ hTab).2
 simp [w0Z]
 refine b0R (fun c t G=>∃ q ρ,t=T 50 ρ∧q + c=2 * n + m∧ρ 0=.pointer (some ⟨p,0,none⟩)∧ρ 1=.int .i64 (g:Int)∧ρ 5=.int .i64 (q:Int)∧Ext G0 G∧∀ c',c' < q→0≤Tf L' g c')
  (fun t G=>∃ (q:Nat) (ρ:Nat→Value),t=T 50 ρ∧q≤2 * n + m∧ρ 0=.pointer (some ⟨p,0,none⟩)∧ρ 1=.int .i64 (g:Int)∧ρ 5=.int .i64 (q:Int)∧Ext G0 G∧(∀ c',c' < q→0≤Tf L' g c')∧(q < 2 * n + m→Tf L' g q < 0)) (2 * n + m) ⟨0,_,rfl,by omega,by simp [g0],by simp [g1],by simp,Ext.refl G0,fun c' h=>by omega⟩ ?_ ?_
 ·clear g0 g1 ρ
  rintro c _ G ⟨q,ρ,rfl,hq,g0,g1,g5,hx0,hpre⟩
  have hG1:=hG.mono hx0
  have hgL:g < L'.length:=by rw [hS'.len];omega
  have hbk:=hG1.blk
  have hsz:fl≤G.size:=by have:=hx.1;have:=hx0.1;omega
  have e2:((2 * n + m:Nat):Int)=2 * (n:Int) + m:=by omega
  by_cases hqc:q < 2 * n + m
  ·have hqL:q < L'[g].length:=by rw [hS'.row g hgL];omega
   obtain ⟨w1,e1,f1⟩:=hG1.num hgL hqL
   have eh:=hG1.head hgL
   have hi1:=hG1.hia hgL
   have gq:=hG1.ia hgL hqL
   obtain ⟨vg,hvg⟩:∃ x,x=vs[g]'(by have:=hG.rows.len;omega):=⟨_,rfl⟩
   rw [← hvg] at eh gq e1
   have hqc':(q:Int) < 2 * (n:Int) + m:=by omega
   simp
   refine a0G ?_
   simp [q0B,g0,g1,g5,hbk,hi1,eh,gq,e1,hqc']
   refine (r0D f1 hsz (hz _ _)).mono ?_
   rintro _ G2 ⟨rfl,hx2⟩
   by_cases hs:0≤Tf L' g q
   ·have hc:0≤c0A (Tf L' g q) 0:=by unfold c0A;rw [i1k (by omega)];split <;> omega
    simp [hc,x0a,g5,b0G (show q < 4611686018427387904 by omega)]
    refine ⟨c - 1,by omega,q + 1,_,rfl,by omega,by simp [g0],by simp [g1],by simp,hx0.trans hx2,fun c' h=>?_⟩
    by_cases h2:c' = q
    ·rw [h2];exact hs
    ·exact hpre c' (by omega)
   ·have hc:¬ 0≤c0A (Tf L' g q) 0:=by unfold c0A;rw [i1n (by omega)];omega
    simp [hc]
    exact ⟨q,_,rfl,by omega,by simp [g0],by simp [g1],by simp [g5],hx0.trans hx2,hpre,fun _=>by omega⟩
  ·have hqc':¬ (q:Int) < 2 * (n:Int) + m:=by omega
   simp
   refine a0G ?_
   simp [q0B,g0,g1,g5,hbk,hqc']
   exact ⟨q,_,rfl,by omega,by simp [g0],by simp [g1],by simp [g5],hx0,hpre,fun h=>i1A h hqc⟩
 ·clear g0 g1 ρ
  rintro _ G ⟨q,ρ,rfl,hq,g0,g1,g5,hx0,hpre,hneg⟩
  have hG1:=hG.mono hx0
  have hbk:=hG1.blk
  have hsz:fl≤G.size:=by have:=hx.1;have:=hx0.1;omega
  have e2:((2 * n + m:Nat):Int)=2 * (n:Int) + m:=by omega
  replace hx:=hx.trans hx0.frm
  by_cases hqc:q=2 * n + m
  ·have hqc':(q:Int)=2 * (n:Int) + m:=by omega
   simp [q0C,x0b,g0,g5,hbk,hqc']
   exact ⟨L',D',bs',k',sD',hG1,hS',hTab,hZ,hx,.inl ⟨rfl,fun c hc=>hpre c (by omega)⟩⟩
  ·have hqc':¬ (q:Int)=2 * (n:Int) + m:=by omega
   replace hneg:=hneg (by omega)
   simp [q0C,g0,g5,hbk,hqc',x0c]
   refine (t0Z hG1 hsz hS' hz (show q < 2 * n + m by omega) hm).mono ?_
   rintro _ G2 ⟨⟨z,rfl,hz1⟩,hx2⟩
   have hG2:=hG1.mono hx2
   replace hx:=hx.trans hx2.frm
   rcases hz1 with ⟨rfl,hz1⟩ | ⟨o,rfl,ho,hB⟩
   ·simp [q0D,x0d,g5]
    exact ⟨L',D',bs',k',sD',hG2,hS',hTab,hZ,hx,.inr ⟨q,rfl,by omega,hneg,hz1⟩⟩
   ·have ho':¬ (o:Int) < 0:=by omega
    simp [q0D,x0e,g0,g5,ho']
    refine (k0p hG2 (by have:=hx.1;omega) hS' hz hlD (by have:=hTab.pos;omega) ho (show q < 2 * n + m by omega) hm hn hR).mono ?_
    rintro _ G3 ⟨⟨⟨L2,sD2,hG3,hS2,hT2⟩,hx3⟩,_⟩
    have hp:Tf L' o q ≠ 0:=by have:=hB.2.1;omega
    have hT3:∀ r c,r < m + 2→c≤2 * n + m→Tf L2 r c=pv (Tf L') o q D' r c:=fun r c h1 h2=>by
     rw [hT2 r c h1 (by omega)];exact N0j hTab ho (by omega) hp h1 h2
    have hb3:∀ r,r < m→bf (bs'.set o q) r=if r=o then q else bf bs' r:=fun r hr=>A0k (by rw [hS'.base];exact ho)
    simp
    exact ⟨c - 1,by omega,N + 1,_,L2,_,_,_,sD2,rfl,by omega,by simp [g0],by simp [g1],hx.trans hx3,hG3,hS2,SX.Reach.step hg hre (by omega) hneg hpre hB hT3 hb3 rfl,fun hz0=>(hZ hz0).pivot (A:=A) ho (by omega) hT3 hb3⟩
theorem Z0Q {T:Nat→Nat→Int} {i j r c:Nat} {d:Int} (hd:0 < d) (ex:r ≠ i→T r c * T i j - T r j * T i c=d * pv T i j d r c):pvt T i j d r c=pv T i j d r c:=by
 unfold pvt
 by_cases hri:r=i
 ·rw [i1n hri];unfold pv;rw [i1n hri]
 ·rw [i1k hri,ex hri,Int.mul_tdiv_cancel_left _ (by omega)]
theorem C0c {T T':Nat→Nat→Int} {i j r c:Nat} {d:Int} (h1:T r c=T' r c) (h2:T i j=T' i j) (h3:T r j=T' r j) (h4:T i c=T' i c):pvt T i j d r c=pvt T' i j d r c:=by
 unfold pvt;rw [h1,h2,h3,h4]
def Nr (m C i:Nat) (T:Nat→Nat→Int) (base:Nat→Nat):Prop:=(∀ r,r < m→¬ base r < C→T r C=0)∧∀ r,r < i→r < m→¬ base r < C→∀ c,c≤C→T r c=0
theorem Nr.step {m C i j:Nat} {T T1 T':Nat→Nat→Int} {base base':Nat→Nat} {d:Int} (h:Nr m C i T base) (hi:i < m) (hj:j < C) (h1:∀ r c,r ≠ i→r < m→c≤C→T1 r c=T r c) (h2:T1 i C=0)
  (hT:∀ k c,k < m + 2→c≤C→T' k c=pv T1 i j d k c) (hb:∀ k,k < m→base' k=if k=i then j else base k):Nr m C (i + 1) T' base':=by
 refine ⟨fun r hr hbr=>?_,fun r hri hr hbr c hc=>?_⟩
 ·have hb1:=hb r hr
  by_cases hre:r=i
  ·rw [i1n hre] at hb1;omega
  ·rw [i1k hre] at hb1
   rw [hT r C (by omega) (i1j _)]
   unfold pv
   rw [i1k hre,h1 r C hre hr (i1j _),h.1 r hr (by omega),h2];simp
 ·have hb1:=hb r hr
  by_cases hre:r=i
  ·rw [i1n hre] at hb1;omega
  ·rw [i1k hre] at hb1
   rw [hT r c (by omega) hc]
   exact C0b (C:=C) (fun c hc=>by rw [h1 r c hre hr hc];exact h.2 r (by omega) hr (by omega) c hc) hre hc (by omega)
theorem f1D {ρ:Nat→Value} {c:Nat} {vi w1:Value} {z:Int} {Q:b0b→a0e→Prop} (g59:ρ 59=vi) (gc:ρ 61=.int .i64 (c:Int)) (ic:iaV F.w vi (.int .i64 (c:Int))=some (adr F.w vi c)) (e1:b0r G F.b F.w (adr F.w vi c)=some w1) (f1:rV F G w1 z) (hf:fl≤G.size)
  (key:∀ ρ' G5,Ext G G5→kpV F G5 (ρ' 6)=some w1→ρ' 5=.int .i64 (c:Int)→(∀ k,k ∈ [0,2,3,10,11,30,59,60,61]→ρ' k=ρ k)→Q (T 89 ρ') G5):WR env fl (j0I F) (T 89 ρ) G Q R:=by
 cases F
 ·simp only [RK.w,RK.b,RK.p_few] at ic e1
  simp [j0I,g59,gc,ic,e1]
  exact key _ _ (Ext.refl _) (by simp [kpV]) (by simp) (by simp)
 ·simp only [RK.w,RK.b,RK.p_all] at ic e1
  obtain ⟨sx,rfl,kx⟩:=f1
  simp [j0I,g59,gc,ic,e1,kx.cells,kx.plain,hf]
  generalize hN:Array.setIfInBounds (Array.push _ _) _ _=G5
  obtain ⟨hx5,b5⟩:=new1 hN
  exact key _ _ hx5 (by simp [kpV,b5]) (by simp) (by simp)
def f1I (F:RK) (fl p n m:Nat) (sR sB:Value) (vs:List Value) (A:Nat→Nat→Int) (neg:Nat→Prop) (H H':a0e):Prop :=
 ∃ L' D' bs' k' sD',e0N F fl H' p n m L' D' bs' k' sR sD' sB vs∧ShT n m L' bs'∧Tab m (2 * n + m) A neg (Tf L') (bf bs') D'∧Frm F.T F.E H H'∧Zr m (2 * n + m) (Tf L') (bf bs')
def Z0T (F:RK) (fl p n m:Nat) (sR sB:Value) (vs:List Value) (A:Nat→Nat→Int) (neg:Nat→Prop) (H:a0e) (i:Nat) (ρ:Nat→Value) (G:a0e):Prop :=
 ρ 0=.pointer (some ⟨p,0,none⟩)∧∃ L' D' bs' k' sD',e0N F fl G p n m L' D' bs' k' sR sD' sB vs∧ShT n m L' bs'∧Tab m (2 * n + m) A neg (Tf L') (bf bs') D'∧Frm F.T F.E H G∧Nr m (2 * n + m) i (Tf L') (bf bs')
theorem K0J {p n m:Nat} {L:List (List Int)} {k D:Int} {bs:List Nat} {sR sD sB:Value} {vs:List Value} {A:Nat→Nat→Int} {neg:Nat→Prop} (h:e0N F fl H p n m L D bs k sR sD sB vs) (hf:fl≤H.size) (hS:ShT n m L bs) (hT:Tab m (2 * n + m) A neg (Tf L) (bf bs) D) (hBd:Bnd m (2 * n + m) A neg) (h00:∀ r,r < m→¬ bf bs r < 2 * n + m→Tf L r (2 * n + m)=0) (hm:m < 1048576) (hn:n < 1048576) (hR:q0E F R) :
  a0S env fl (A0B F) [.pointer (some ⟨p,0,none⟩)] H (fun _ H'=>f1I F fl p n m sR sB vs A neg H H'∧f0Z fl H H') R:=by
 refine l0W Y0z hf (h:=?_)
 intro ρ h0
 have hbk:=h.blk
 simp [p0v,w0N,h0,hbk]
 refine o0r (n:=m) (Z0T F fl p n m sR sB vs A neg H) rfl rfl (by decide) (by omega) (by simp) (by simp) ?_ ?_ ?_ ?_
 ·exact ⟨by simp [h0],L,D,bs,k,sD,h,hS,hT,Frm.refl,h00,fun r hr=>by omega⟩
 ·intro i ρ ρ' G h hI;unfold Z0T at *;simpa [h] using hI
 ·clear h0 ρ hbk
  rintro i ρ G hi gi gn ⟨g0,L1,D1,bs1,k1,sD1,hG,hS1,hT1,hx,hN⟩
  have hib:i < bs1.length:=by rw [hS1.base];exact hi
  obtain ⟨lb,ib⟩:=hG.base hib
  have hbk:=hG.blk
  have e2:((2 * n + m:Nat):Int)=2 * (n:Int) + m:=by omega
  simp [w0O,gi]
  refine a0G ?_
  by_cases hreal:bf bs1 i < 2 * n + m
  ·have hreal':(bf bs1 i:Int) < 2 * (n:Int) + m:=by omega
   simp [q0z,g0,gi,hbk,ib,lb,hreal']
   refine Rnd.mk (by simp [gi]) (by simp [gn]) ⟨by simp [g0],L1,D1,bs1,k1,sD1,hG,hS1,hT1,hx,hN.1,fun r hr hrm hbr=>?_⟩
   by_cases hri:r=i
   ·subst hri;exact i1A hreal hbr
   ·exact hN.2 r (by omega) hrm hbr
  have hreal':¬ (bf bs1 i:Int) < 2 * (n:Int) + m:=by omega
  have hC0:=hN.1 i hi hreal
  simp [q0z,g0,gi,hbk,ib,lb,hreal',w0P]
  refine o0r (n:=2 * n + m) (fun j ρ G'=>ρ 0=.pointer (some ⟨p,0,none⟩)∧ρ 2=.int .i64 (i:Int)∧ρ 11=.int .i64 (i:Int)∧ρ 10=.int .i64 (m:Int)∧Ext G G'∧∀ c,c < j→Tf L1 i c=0) rfl rfl (by decide) (by omega) (by simp) (by simp) ?_ ?_ ?_ ?_
  ·exact ⟨by simp [g0],by simp,by simp [gi],by simp [gn],Ext.refl G,fun c hc=>by omega⟩
  ·intro i ρ ρ' G h hI;simpa [h] using hI
  ·clear gi gn g0 hbk lb ib ρ
   rintro j ρ G0 hj gj gC ⟨g0,g2,gi,gn,hx0,hpre⟩
   replace hG:=hG.mono hx0
   replace hx:=hx.trans hx0.frm
   have hiL:i < L1.length:=by rw [hS1.len];omega
   have hjL:j < L1[i].length:=by rw [hS1.row i hiL];omega
   obtain ⟨w1,e1,f1⟩:=hG.num hiL hjL
   have e0:=hG.head hiL
   have hi1:=hG.hia hiL
   have ij:=hG.ia hiL hjL
   have hbk:=hG.blk
   obtain ⟨vi,hvi⟩:∃ x,x=vs[i]'(by have:=hG.rows.len;omega):=⟨_,rfl⟩
   rw [← hvi] at e0 ij e1
   have hz:=V0s hS1 (hBd _ _ _ hT1).1
   have hlD:=(hBd _ _ _ hT1).2
   simp [w0Q,gj]
   refine a0G ?_
   simp [w0R,g0,g2,gj,hbk,hi1,e0,ij,e1]
   refine (r0D f1 (by have:=hx.1;omega) (hz _ _)).mono ?_
   rintro _ G2 ⟨rfl,hx2⟩
   replace hG:=hG.mono hx2
   replace hx:=hx.trans hx2.frm
   replace hx0:=hx0.trans hx2
   clear e1 f1 hbk
   rcases Int.lt_trichotomy (Tf L1 i j) 0 with hneg | h0 | hpos
   ·have hc:c0A (Tf L1 i j) 0 = -1:=by unfold c0A;rw [i1n hneg]
    have hbk:=hG.blk
    have e0:=hG.head hiL
    rw [← hvi] at e0
    have hsl:=(hG.rows.own i hiL).slen
    rw [hS1.row i hiL] at hsl
    rw [← hvi] at hsl
    obtain ⟨W,hW⟩:∃ W,W=2 * n + m + 1:=⟨_,rfl⟩
    rw [← hW] at hsl
    simp [hc,l0y,q0A,s0U,g0,g2,hbk,hi1,e0,hsl]
    refine c0W (n:=W) (fun c ρ G'=>ρ 0=.pointer (some ⟨p,0,none⟩)∧ρ 2=.int .i64 (i:Int)∧ρ 3=.int .i64 (j:Int)∧ρ 11=.int .i64 (i:Int)∧ρ 10=.int .i64 (m:Int)∧ρ 59=vi∧Frm F.T F.E H G' ∧
      ∃ L2,e0N F fl G' p n m L2 D1 bs1 k1 sR sD1 sB vs∧ShT n m L2 bs1∧∀ r c',r < m + 2→c' < W→Tf L2 r c' = if r=i∧c' < c then -Tf L1 r c' else Tf L1 r c') rfl rfl (by decide) (by omega) (by simp) (by simp) ?_ ?_ ?_ ?_
    ·exact ⟨by simp [g0],by simp [g2],by simp [gj],by simp [gi],by simp [gn],by simp,hx,L1,hG,hS1,fun r c' _ _=>by rw [i1k (by omega)]⟩
    ·intro i ρ ρ' G h hI;simpa [h] using hI
    ·clear gi gn g0 g2 gj gC hx hx0 hx2 hbk hsl hi1 ij e0 hc
     rintro c ρ G hc gc gw ⟨g0,g2,g3,gi,gn,g59,hx,L2,hG,hS2,hT2⟩
     have hiL:i < L2.length:=by rw [hS2.len];omega
     have hcL:c < L2[i].length:=by rw [hS2.row i hiL];omega
     obtain ⟨w1,e1,f1⟩:=hG.num hiL hcL
     have e0:=hG.head hiL
     have hi1:=hG.hia hiL
     have ic:=hG.ia hiL hcL
     have hbk:=hG.blk
     have tc:Tf L2 i c=Tf L1 i c:=by rw [hT2 i c (by omega) hc,i1k (by omega)]
     rw [← hvi] at e0 ic e1
     have hfl:fl≤G.size:=by have:=hx.1;omega
     simp
     refine f1D g59 gc ic e1 f1 hfl ?_
     intro ρ' G5 hx5 k6 g5 hk
     simp only [List.forall_mem_cons] at hk
     obtain ⟨k0,k2,k3,k10,k11,k30,k59,k60,k61,-⟩:=hk
     rw [g0] at k0;rw [g2] at k2;rw [g3] at k3;rw [gn] at k10;rw [gi] at k11;rw [g59] at k59;rw [gw] at k60;rw [gc] at k61
     replace hG:=hG.mono hx5
     replace hx:=hx.trans hx5.frm
     replace f1:=f1.mono hx5
     replace hbk:=hG.blk
     replace e0:=hG.head hiL
     rw [← hvi] at e0
     clear e1 hfl
     refine a0G ?_
     simp [s0V,k0,k2,hbk,hi1,e0,ic,g5,k6]
     refine (y0k f1 (by have:=hx.1;omega) (by rw [tc];exact hz _ _)).mono ?_
     rintro wn G3 ⟨fn,hx3⟩
     rw [tc] at fn
     obtain ⟨G4,hst,hG4,hx4,_⟩:=(hG.mono hx3).store (x:=-Tf L1 i c) hiL hcL fn
     rw [← hvi] at hst
     simp [ic,hst]
     refine Rnd.mk (by simp [k61]) (by simp [k60]) ⟨by simp [k0],by simp [k2],by simp [k3],by simp [k11],by simp [k10],by simp [k59],hx.trans (hx3.frm.trans hx4),_,hG4,hS2.set hiL,fun r c' h1 h2=>?_⟩
     rw [z0Y hS2 hiL hcL,hT2 r c' h1 h2]
     by_cases hrc:r=i∧c' = c
     ·obtain ⟨rfl,rfl⟩:=hrc
      rw [i1n ⟨rfl,rfl⟩,i1n ⟨rfl,by omega⟩]
     ·rw [i1k hrc]
      by_cases hlt:r=i∧c' < c
      ·rw [i1n hlt,i1n ⟨hlt.1,by omega⟩]
      ·rw [i1k hlt,i1k (by omega)]
    ·clear gi gn g0 g2 gj gC hx hx0 hx2 hbk hsl hi1 ij e0 hc
     rintro ρ G gc gw ⟨g0,g2,g3,gi,gn,g59,hx,L2,hG,hS2,hT2⟩
     have hng:∀ r c,r < m + 2→c≤2 * n + m→Tf L2 r c=ng (Tf L1) i r c:=fun r c h1 h2=>by
      rw [hT2 r c h1 (by omega)];unfold ng
      by_cases hri:r=i
      ·subst hri;rw [i1n ⟨rfl,by omega⟩,i1n rfl]
      ·rw [i1k (fun h=>hri h.1),i1k hri]
     have hz2:∀ r c,lz (Tf L2 r c) < 67108864:=V0s hS2 fun r c h1 h2=>by
      rw [hng r c h1 h2];unfold ng;split
      ·rw [f0p];exact hz _ _
      ·exact hz _ _
     obtain ⟨hsw,hex⟩:=hT1.swapN hi hj hneg hC0
     simp [m0K,g0,g2,g3]
     refine (k0p hG (by have:=hx.1;omega) hS2 hz2 hlD (by have:=hT1.pos;omega) hi hj hm hn hR).mono ?_
     rintro _ G3 ⟨⟨⟨L3,sD2,hG3,hS3,hT3⟩,hx3⟩,_⟩
     have hT4:∀ r c,r < m + 2→c≤2 * n + m→Tf L3 r c=pv (ng (Tf L1) i) i j D1 r c:=fun r c h1 h2=>by
      rw [hT3 r c h1 (by omega),C0c (hng r c h1 h2) (hng i j (by omega) (by omega)) (hng r j h1 (by omega)) (hng i c (by omega) h2)]
      exact Z0Q hT1.pos (hex r c h1 h2)
     have hb3:∀ r,r < m→bf (bs1.set i j) r=if r=i then j else bf bs1 r:=fun r hr=>A0k hib
     have hd:Tf L2 i j = -Tf L1 i j:=by rw [hng i j (by omega) (by omega)];unfold ng;rw [i1n rfl]
     simp
     refine Rnd.mk (by simp [gi]) (by simp [gn]) ⟨by simp [g0],L3,_,_,_,sD2,hG3,hS3,hsw.congr hT4 (fun r hr=>hb3 r hr) hd,hx.trans hx3,hN.step hi hj (fun r c h1 _ _=>by unfold ng;rw [i1k h1]) (by unfold ng;rw [i1n rfl,hC0];rfl) hT4 hb3⟩
   ·have hc:c0A (Tf L1 i j) 0=0:=by rw [h0];rfl
    simp [hc,l0y]
    refine Rnd.mk (by simp [gj]) (by simp [gC]) ⟨by simp [g0],by simp [g2],by simp [gi],by simp [gn],hx0,fun c hc=>?_⟩
    by_cases hcj:c=j
    ·rw [hcj];exact h0
    ·exact hpre c (by omega)
   ·have hc:c0A (Tf L1 i j) 0=1:=by unfold c0A;rw [i1k (by omega),i1n (by omega)]
    simp [hc,l0y,q0A,m0K,g0,g2,gj]
    refine (k0p hG (by have:=hx.1;omega) hS1 hz hlD (by have:=hT1.pos;omega) hi hj hm hn hR).mono ?_
    rintro _ G3 ⟨⟨⟨L2,sD2,hG3,hS2,hT2⟩,hx3⟩,_⟩
    have hT3:∀ r c,r < m + 2→c≤2 * n + m→Tf L2 r c=pv (Tf L1) i j D1 r c:=fun r c h1 h2=>by
     rw [hT2 r c h1 (by omega)];exact N0j hT1 hi (by omega) (by omega) h1 h2
    have hb3:∀ r,r < m→bf (bs1.set i j) r=if r=i then j else bf bs1 r:=fun r hr=>A0k hib
    simp
    refine Rnd.mk (by simp [gi]) (by simp [gn]) ⟨by simp [g0],L2,_,_,_,sD2,hG3,hS2,(hT1.swap hi hj hpos hC0).congr hT3 (fun r hr=>hb3 r hr) rfl,hx.trans hx3,hN.step hi hj (fun _ _ _ _ _=>rfl) hC0 hT3 hb3⟩
  ·rintro ρ G' gj gC ⟨g0,g2,gi,gn,hx0,hpre⟩
   simp
   refine Rnd.mk gi gn ⟨g0,L1,D1,bs1,k1,sD1,hG.mono hx0,hS1,hT1,hx.trans hx0.frm,hN.1,fun r hr hrm hbr c hc=>?_⟩
   by_cases hri:r=i
   ·subst hri
    by_cases hcC:c=2 * n + m
    ·rw [hcC];exact hC0
    ·exact hpre c (by omega)
   ·exact hN.2 r (by omega) hrm hbr c hc
 ·rintro ρ G gi gn ⟨g0,L1,D1,bs1,k1,sD1,hG,hS1,hT1,hx,hN⟩
  simp
  exact ⟨L1,D1,bs1,k1,sD1,hG,hS1,hT1,hx,fun r hr hbr c hc=>hN.2 r hr hr hbr c hc⟩
end
end Go.Proofs.YtilekhkgobmolaaGreat.AI
