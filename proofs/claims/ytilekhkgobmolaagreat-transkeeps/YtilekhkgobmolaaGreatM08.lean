/- Part 9 of the proof. -/
import Derived.Test.YtilekhkgobmolaaGreatM07
set_option linter.unusedVariables false
set_option linter.unusedSimpArgs false
set_option linter.unusedSectionVars false
set_option maxHeartbeats 4000000
namespace Go.Proofs.YtilekhkgobmolaaGreat.SX
def sm (f:Nat->Int):Nat->Int
 | 0=>0
 | n + 1=>sm f n + f n
theorem b0n {f g:Nat->Int}:∀ {n:Nat},(∀ i,i < n->f i=g i)->sm f n=sm g n
 | 0,_=>rfl
 | n + 1,h=>by rw [sm,sm,b0n (fun i hi=>h i (by omega)),h n (by omega)]
theorem t0S {f g:Nat->Int}:∀ {n:Nat},sm (fun i=>f i + g i) n=sm f n + sm g n
 | 0=>rfl
 | n + 1=>by simp only [sm];rw [t0S];omega
theorem f0m {a:Int} {f:Nat->Int}:∀ {n:Nat},sm (fun i=>a * f i) n=a * sm f n
 | 0=>by simp [sm]
 | n + 1=>by simp only [sm];rw [f0m,Int.mul_add]
theorem y0N {a b:Int} {f g:Nat->Int} {n:Nat}:sm (fun i=>a * f i + b * g i) n=a * sm f n + b * sm g n:=by
 rw [t0S,f0m,f0m]
theorem e0N {f:Nat->Int}:∀ {n:Nat},(∀ i,i < n->f i=0)->sm f n=0
 | 0,_=>rfl
 | n + 1,h=>by rw [sm,e0N (fun i hi=>h i (by omega)),h n (by omega)];rfl
theorem g0S {f:Nat->Int} {k:Nat}:∀ {n:Nat},k < n->(∀ i,i < n->i ≠ k->f i=0)->sm f n=f k
 | 0,h,_=>by omega
 | n + 1,h,h0=>by
  rw [sm]
  by_cases e:k=n
  ·subst e;rw [e0N (fun i hi=>h0 i (by omega) (by omega))];omega
  ·rw [g0S (by omega) (fun i hi c=>h0 i (by omega) c),h0 n (by omega) (by omega)];omega
theorem W0d {f:Nat->Int} {k l:Nat}:∀ {n:Nat},k < l->l < n->(∀ i,i < n->i ≠ k->i ≠ l->f i=0)->sm f n=f k + f l
 | 0,_,h,_=>by omega
 | n + 1,h1,h,h0=>by
  rw [sm]
  by_cases j:l=n
  ·subst j;rw [g0S (k:=k) h1 (fun i hi c=>h0 i (by omega) c (by omega))]
  ·rw [W0d h1 (by omega) (fun i hi e hb=>h0 i (by omega) e hb),h0 n (by omega) (by omega) (by omega)];omega
theorem k0h {f:Nat->Int} {k:Nat}:∀ {n:Nat},k < n->sm f n=f k + sm (fun i=>if i=k then 0 else f i) n
 | 0,h=>by omega
 | n + 1,h=>by
  simp only [sm]
  by_cases c:k=n
  ·subst c
   rw [k1B rfl,b0n (f:=fun i=>if i=k then 0 else f i) (g:=f) (fun i hi=>by rw [k1y (by omega)])];omega
  ·rw [k0h (k:=k) (f:=f) (by omega),k1y (by omega)];omega
def skip (k i:Nat):Nat:=if i < k then i else i + 1
def up {α:Type} (v:Nat->α) (k:Nat) (x:α):Nat->α:=fun i=>if i=k then x else v i
theorem b0p {α:Type} {v:Nat->α} {k:Nat} {x:α}:up v k x k=x:=by simp [up]
theorem e0O {α:Type} {v:Nat->α} {k i:Nat} {x:α} (h:i ≠ k):up v k x i=v i:=by simp [up,h]
def sgn (k:Nat):Int:=if k % 2=0 then 1 else -1
theorem N0B (k:Nat):sgn (k + 1) = -sgn k:=by unfold sgn;split <;> split <;> omega
def det:Nat->(Nat->Nat->Int)->Int
 | 0,_=>1
 | m + 1,v=>sm (fun k=>sgn (k + m) * (v k m * det m (fun i=>v (skip k i)))) (m + 1)
theorem j0A:∀ {m:Nat} {v w:Nat->Nat->Int},(∀ i r,i < m->r < m->v i r=w i r)->det m v=det m w
 | 0,_,_,_=>rfl
 | m + 1,v,w,h=>by
  unfold det
  refine b0n fun k c=>?_
  rw [h k m c (by omega),j0A (v:=fun i=>v (skip k i)) (w:=fun i=>w (skip k i)) (fun i r hi e=>h _ r (by unfold skip;split <;> omega) (by omega))]
theorem w0A {v:Nat->Nat->Int} {k i:Nat} {x:Nat->Int} (h:i ≠ k):(fun j=>up v i x (skip k j))=up (fun j=>v (skip k j)) (if i < k then i else i - 1) x:=by
 funext j
 unfold up skip
 by_cases c:i < k <;> by_cases q:j < k <;> simp only [c,q,l1o,l1y]
 ·by_cases e:j + 1=i
  ·omega
  ·rw [k1y e,k1y (by omega)]
 ·by_cases e:j=i
  ·omega
  ·rw [k1y e,k1y (by omega)]
 ·by_cases e:j + 1=i
  ·rw [k1B e,k1B (by omega)]
  ·rw [k1y e,k1y (by omega)]
theorem h0S {v:Nat->Nat->Int} {k:Nat} {x:Nat->Int}:(fun j=>up v k x (skip k j))=fun j=>v (skip k j):=by
 funext j
 unfold up skip
 by_cases c:j < k <;> simp only [c,l1o,l1y]
 ·rw [k1y (by omega)]
 ·rw [k1y (by omega)]
theorem i0Z {a b:Int} {x y:Nat->Int}:∀ {m:Nat} {v:Nat->Nat->Int} {i:Nat},i < m ->
  det m (up v i (fun r=>a * x r + b * y r))=a * det m (up v i x) + b * det m (up v i y)
 | 0,_,_,h=>by omega
 | m + 1,v,i,h=>by
  unfold det
  rw [<- y0N]
  refine b0n fun k c=>?_
  by_cases e:i=k
  ·subst e
   rw [h0S,h0S,h0S,b0p,b0p,b0p]
   generalize det m _=D
   grind
  ·rw [w0A e,w0A e,w0A e,e0O (m1m e),e0O (m1m e),e0O (m1m e),i0Z (by split <;> omega)]
   generalize det m _=D
   generalize det m _=D2
   grind
theorem j0p {v:Nat->Nat->Int} {i:Nat}:up v i (v i)=v:=by
 funext j;unfold up;split
 ·rename_i h;rw [h]
 ·rfl
theorem q0n:∀ {m:Nat} {v:Nat->Nat->Int} {i:Nat},i + 1 < m->(∀ r,v i r=v (i + 1) r)->det m v=0
 | 0,_,_,h,_=>by omega
 | m + 1,v,i,h,e=>by
  unfold det
  rw [W0d (k:=i) (l:=i + 1) (by omega) h]
  ·have s:(fun j=>v (skip i j))=fun j=>v (skip (i + 1) j):=by
    funext j r
    unfold skip
    by_cases c:j < i
    ·rw [k1B c,k1B (by omega)]
    ·rw [k1y c]
     by_cases q:j=i
     ·subst q;rw [k1B (by omega)];exact (e r).symm
     ·rw [k1y (by omega)]
   rw [s,e m,show i + 1 + m=(i + m) + 1 by omega,N0B,Int.neg_mul];omega
  ·intro k x c q
   have:det m (fun j=>v (skip k j))=0:=by
    by_cases u:k < i
    ·refine q0n (i:=i - 1) (by omega) fun r=>?_
     unfold skip
     rw [k1y (by omega),k1y (by omega),show i - 1 + 1=i by omega];exact e r
    ·refine q0n (i:=i) (by omega) fun r=>?_
     unfold skip
     rw [k1B (by omega),k1B (by omega)];exact e r
   rw [this];simp
theorem n0V {v:Nat->Nat->Int} {i j:Nat} {x y:Nat->Int} (h:i ≠ j):up (up v i x) j y=up (up v j y) i x:=by
 funext k;unfold up;by_cases c:k=i <;> by_cases e2:k=j <;> simp [c,e2]
 ·omega
 ·intro e;omega
 ·intro e;omega
theorem u0v {m:Nat} {v:Nat->Nat->Int} {i:Nat} {x y:Nat->Int} (h:i < m):det m (up v i (fun r=>x r + y r))=det m (up v i x) + det m (up v i y):=by
 have:=i0Z (a:=1) (b:=1) (x:=x) (y:=y) (v:=v) h
 simpa using this
theorem L0o {m:Nat} {v:Nat->Nat->Int} {i:Nat} (h:i + 1 < m):det m (up (up v i (v (i + 1))) (i + 1) (v i)) = - det m v:=by
 have c:∀ x,det m (up (up v i x) (i + 1) x)=0:=fun x=>q0n h (fun r=>by rw [b0p,e0O (by omega),b0p])
 have k:=c (fun r=>v i r + v (i + 1) r)
 rw [u0v h,n0V (by omega),u0v (by omega),n0V (i:=i) (j:=i + 1) (x:=fun r=>v i r + v (i + 1) r) (by omega),u0v (by omega)] at k
 have q:det m (up (up v (i + 1) (v i)) i (v i))=0:=by rw [<- n0V (by omega)];exact c _
 have e2:det m (up (up v i (v (i + 1))) (i + 1) (v (i + 1)))=0:=c _
 have e:det m (up (up v (i + 1) (v (i + 1))) i (v (i + 1)))=0:=by rw [<- n0V (by omega)];exact c _
 have s:up (up v i (v i)) (i + 1) (v (i + 1))=v:=by rw [j0p,j0p]
 have u:up (up v (i + 1) (v i)) i (v (i + 1))=up (up v i (v (i + 1))) (i + 1) (v i):=(n0V (by omega)).symm
 have y:up (up v (i + 1) (v (i + 1))) i (v i)=v:=by rw [j0p,j0p]
 grind
theorem u0w {m:Nat}:∀ (n:Nat) {v:Nat->Nat->Int} {i:Nat},i + n + 1 < m->(∀ r,v i r=v (i + n + 1) r)->det m v=0
 | 0,v,i,h,e=>q0n h e
 | n + 1,v,i,h,e=>by
  have c:=L0o (m:=m) (v:=v) (i:=i + n + 1) (by omega)
  rw [u0w n (v:=up (up v (i + n + 1) (v (i + n + 1 + 1))) (i + n + 1 + 1) (v (i + n + 1))) (i:=i) (by omega) (fun r=>?_)] at c
  ·omega
  ·rw [e0O (by omega),e0O (by omega),e0O (by omega),b0p];exact e r
theorem x0a {m:Nat} {v:Nat->Nat->Int} {i j:Nat} (hi:i < m) (k:j < m) (c:i ≠ j) (e:∀ r,v i r=v j r):det m v=0:=by
 by_cases h:i < j
 ·exact u0w (j - i - 1) (i:=i) (by omega) (fun r=>by rw [show i + (j - i - 1) + 1=j by omega];exact e r)
 ·exact u0w (i - j - 1) (i:=j) (by omega) (fun r=>by rw [show j + (i - j - 1) + 1=i by omega];exact (e r).symm)
theorem u0x {m:Nat} {v:Nat->Nat->Int} {k:Nat} {t:Nat->Int} {x:Nat->Nat->Int} (h:k < m):∀ n:Nat,
  det m (up v k (fun r=>sm (fun i=>t i * x i r) n))=sm (fun i=>t i * det m (up v k (x i))) n
 | 0=>by
  have:=i0Z (a:=0) (b:=0) (x:=fun _=>0) (y:=fun _=>0) (v:=v) h
  simp [sm] at this ⊢;exact this
 | n + 1=>by
  have:=i0Z (a:=1) (b:=t n) (x:=fun r=>sm (fun i=>t i * x i r) n) (y:=x n) (v:=v) h
  simp only [sm,Int.one_mul] at this ⊢
  rw [this,u0x h n]
theorem N0X {m:Nat} {v:Nat->Nat->Int} {a t:Nat->Int} {d:Int} {k:Nat} (e:k < m) (h:∀ r,r < m->d * a r=sm (fun i=>t i * v i r) m):d * det m (up v k a)=t k * det m v:=by
 have j:=i0Z (a:=d) (b:=0) (x:=a) (y:=a) (v:=v) e
 rw [Int.zero_mul,l1O] at j
 rw [<- j]
 have q:det m (up v k (fun r=>d * a r + 0 * a r))=det m (up v k (fun r=>sm (fun i=>t i * v i r) m)):=by
  refine j0A fun i r hi s=>?_
  unfold up;split
  ·show d * a r + 0 * a r=sm (fun i=>t i * v i r) m;rw [<- h r s];omega
  ·rfl
 rw [q,u0x e,g0S e]
 ·rw [j0p]
 ·intro i hi c
  rw [x0a e hi (m1m c) (fun r=>by rw [b0p,e0O c])];simp
def k0k (i:Nat):Nat->Int:=fun r=>if r=i then 1 else 0
theorem x0b:∀ m:Nat,det m k0k=1
 | 0=>rfl
 | m + 1=>by
  unfold det
  rw [g0S (k:=m) (by omega)]
  ·have:det m (fun i=>k0k (skip m i))=det m k0k:=j0A (fun i r hi e=>by unfold skip;rw [k1B hi])
   rw [this,x0b m]
   unfold k0k sgn
   rw [k1B (by omega),k1B rfl];rfl
  ·intro i hi c
   unfold k0k;rw [k1y (by omega)];simp
def fac:Nat->Nat
 | 0=>1
 | n + 1=>(n + 1) * fac n
theorem y0M {f:Nat->Int} {b:Nat}:∀ {n:Nat},(∀ i,i < n->(f i).natAbs<=b)->(sm f n).natAbs<=n * b
 | 0,_=>by simp [sm]
 | n + 1,h=>by
  have c:=y0M (fun i hi=>h i (by omega)) (n:=n)
  have e:=h n (by omega)
  rw [sm,k1R,l1l]
  have:=Int.natAbs_add_le (sm f n) (f n)
  omega
theorem m0p {b:Nat}:∀ {m:Nat} {v:Nat->Nat->Int},(∀ i r,i < m->r < m->(v i r).natAbs<=b)->(det m v).natAbs<=fac m * b ^ m
 | 0,_,_=>by simp [det,fac]
 | m + 1,v,h=>by
  unfold det
  have c:∀ k,k < m + 1->(sgn (k + m) * (v k m * det m (fun i=>v (skip k i)))).natAbs<=fac m * b ^ (m + 1):=by
   intro k s
   have e:=m0p (v:=fun i=>v (skip k i)) (m:=m) (b:=b) (fun i r hi u=>h _ r (by unfold skip;split <;> omega) (by omega))
   have j:=h k m s (by omega)
   have q:(sgn (k + m)).natAbs=1:=by unfold sgn;split <;> rfl
   rw [m1f,m1f,q,l1l]
   calc _<=b * (fac m * b ^ m):=l1u j e
    _=fac m * b ^ (m + 1):=by rw [k1V];grind
  have:=y0M c
  unfold fac
  rw [k1O];exact this
end Go.Proofs.YtilekhkgobmolaaGreat.SX
namespace Go.Proofs.YtilekhkgobmolaaGreat.SX
structure Inv (M C:Nat) (A T b:Nat->Nat->Int) (d e:Int):Prop where
 pos:0 < d
 eps:e * e=1
 dt:d=e * det M b
 col:∀ c,c<=C->∀ r,r < M->d * A c r=sm (fun i=>T i c * b i r) M
variable {M C:Nat} {A T b:Nat->Nat->Int} {d e:Int}
def co (M:Nat) (b:Nat->Nat->Int) (e:Int) (k:Nat) (v:Nat->Int):Int:=e * det M (up b k v)
theorem f0u {k:Nat} {v w:Nat->Int} (h:∀ r,r < M->v r=w r):co M b e k v=co M b e k w:=by
 unfold co;congr 1
 exact j0A fun i r _ c=>by unfold up;split;exact h r c;rfl
theorem Inv.entry (h:Inv M C A T b d e) {k c:Nat} (y:k < M) (hc:c<=C):co M b e k (A c)=T k c:=by
 have x:=N0X y (h.col c hc)
 have q:=h.dt
 have z:=h.pos
 have s:=h.eps
 unfold co
 have j:det M b ≠ 0:=by intro v;rw [v] at q;omega
 have:det M b * (e * det M (up b k (A c)))=det M b * T k c:=by
  have:e * d * det M (up b k (A c))=e * (T k c * det M b):=by rw [m1O,x]
  rw [q] at this
  have e2:e * (e * det M b)=det M b:=by rw [<- m1O,s,Int.one_mul]
  rw [e2] at this
  rw [<- m1O,Int.mul_comm (det M b) e]
  have u:e * (det M b * det M (up b k (A c)))=e * (e * (T k c * det M b)):=by rw [this]
  rw [<- m1O e e,s,Int.one_mul] at u
  rw [m1O,u];grind
 exact m1n j this
theorem Inv.basis (h:Inv M C A T b d e) {k i:Nat} (j:k < M) (hi:i < M):co M b e k (b i)=if k=i then d else 0:=by
 unfold co
 by_cases c:k=i
 ·subst c;rw [k1B rfl,j0p];exact h.dt.symm
 ·rw [k1y c,x0a j hi c (fun r=>by rw [b0p,e0O (m1m c)])];simp
theorem N0W {k:Nat} (c:k < M) {t:Nat->Int} {x:Nat->Nat->Int} {n:Nat}:co M b e k (fun r=>sm (fun i=>t i * x i r) n)=sm (fun i=>t i * co M b e k (x i)) n:=by
 unfold co
 rw [u0x c,<- f0m]
 exact b0n fun i _=>by grind
theorem N0V {k:Nat} (h:k < M) {a c:Int} {x y:Nat->Int}:co M b e k (fun r=>a * x r + c * y r)=a * co M b e k x + c * co M b e k y:=by
 unfold co;rw [i0Z h];grind
theorem a1x {k:Nat} (h:k < M) {a:Int} {x:Nat->Int}:co M b e k (fun r=>a * x r)=a * co M b e k x:=by
 have:=N0V (M:=M) (b:=b) (e:=e) h (a:=a) (c:=0) (x:=x) (y:=x)
 rw [Int.zero_mul,l1O] at this
 rw [<- this];exact f0u fun r _=>by omega
theorem Inv.col1 (h:Inv M C A T b d e) {k i c:Nat} (j:k < M) (hi:i < M) (hc:c<=C) (hb:∀ r,r < M->b i r=A c r):T k c=if k=i then d else 0:=by
 rw [<- h.entry j hc,<- h.basis j hi]
 exact f0u fun r q=>(hb r q).symm
def pv (T:Nat->Nat->Int) (i j:Nat) (d:Int):Nat->Nat->Int:=fun k c=>if k=i then T i c else (T k c * T i j - T k j * T i c) / d
theorem Inv.pivot_key (h:Inv M C A T b d e) {i j:Nat} (hi:i < M) (y:j<=C) (hp:T i j ≠ 0) {k c:Nat} (I:k < M) (hc:c<=C) :
  T i j=e * det M (up b i (A j))/\d * co M (up b i (A j)) e k (A c)=if k=i then d * T i c else T k c * T i j - T k j * T i c:=by
 have v:T i j=e * det M (up b i (A j)):=(h.entry hi y).symm
 refine ⟨v,?_⟩
 have J:=h.pos
 have L:=h.eps
 let U:Nat->Int:=fun k=>if k=i then d * T i c else T k c * T i j - T k j * T i c
 have hU:∀ r,r < M->(T i j * d) * A c r=sm (fun k=>U k * up b i (A j) k r) M:=by
  intro r z
  have s:=h.col c hc r z
  have u:=h.col j y r z
  rw [k0h hi] at s u
  rw [k0h hi]
  have F:U i * up b i (A j) i r=T i c * (d * A j r):=by simp only [U,l1o,b0p];grind
  have e2:sm (fun k=>if k=i then 0 else U k * up b i (A j) k r) M=T i j * sm (fun k=>if k=i then 0 else T k c * b k r) M + -(T i c) * sm (fun k=>if k=i then 0 else T k j * b k r) M:=by
   rw [<- y0N]
   refine b0n fun k _=>?_
   by_cases q:k=i
   ·simp [q]
   ·simp only [k1y q,U,e0O q];grind
  rw [F,e2,u,m1O,s]
  grind
 have x:=N0X I hU
 rw [m1O] at x
 have G:T i j * (d * co M (up b i (A j)) e k (A c))=T i j * U k:=by
  unfold co
  have:e * (T i j * (d * det M (up (up b i (A j)) k (A c))))=e * (U k * det M (up b i (A j))):=by rw [x]
  have H:e * (U k * det M (up b i (A j)))=U k * T i j:=by rw [v];grind
  rw [H] at this
  grind
 exact m1n hp G
theorem Inv.pv_eq (h:Inv M C A T b d e) {i j:Nat} (hi:i < M) (u:j<=C) (hp:T i j ≠ 0) {k c:Nat} (v:k < M) (hc:c<=C):co M (up b i (A j)) e k (A c)=pv T i j d k c:=by
 have s:=(h.pivot_key hi u hp v hc).2
 have x:=h.pos
 unfold pv
 by_cases q:k=i
 ·rw [k1B q] at s ⊢;exact m1n (by omega) s
 ·rw [k1y q] at s ⊢;rw [<- s,Int.mul_ediv_cancel_left _ (by omega)]
theorem Inv.exact (h:Inv M C A T b d e) {i j:Nat} (hi:i < M) (s:j<=C) (hp:T i j ≠ 0) {k c:Nat} (u:k < M) (hc:c<=C) (q:k ≠ i):T k c * T i j - T k j * T i c=d * pv T i j d k c:=by
 rw [<- h.pv_eq hi s hp u hc,(h.pivot_key hi s hp u hc).2,k1y q]
theorem Inv.pivot (h:Inv M C A T b d e) {i j:Nat} (hi:i < M) (hj:j<=C) (hp:0 < T i j):Inv M C A (pv T i j d) (up b i (A j)) (T i j) e where
 pos:=hp
 eps:=h.eps
 dt:=(h.pivot_key hi hj (by omega) hi hj).1
 col:=fun c hc r hr=>by
  have h3:=h.pos
  have hcc:=h.col c hc r hr
  have hcj:=h.col j hj r hr
  rw [k0h hi] at hcc hcj
  refine m1n (a:=d) (by omega) ?_
  rw [<- f0m,k0h hi]
  have e1:d * (pv T i j d i c * up b i (A j) i r)=T i c * (d * A j r):=by simp only [pv,l1o,b0p];grind
  have e2:sm (fun k=>if k=i then 0 else d * (pv T i j d k c * up b i (A j) k r)) M=T i j * sm (fun k=>if k=i then 0 else T k c * b k r) M + -(T i c) * sm (fun k=>if k=i then 0 else T k j * b k r) M:=by
   rw [<- y0N]
   refine b0n fun k hk=>?_
   by_cases hki:k=i
   ·simp [hki]
   ·simp only [k1y hki,e0O hki]
    have:=h.exact hi hj (by omega) hk hc hki
    rw [<- m1O,<- this];grind
  rw [e1,e2,hcj]
  have:d * (T i j * A c r)=T i j * (d * A c r):=by grind
  rw [this,hcc]
  grind
def ng (T:Nat->Nat->Int) (i:Nat):Nat->Nat->Int:=fun k c=>if k=i then -T i c else T k c
theorem Inv.turn (h:Inv M C A T b d e) {i:Nat} (hi:i < M):Inv M C A (ng T i) (up b i (fun r=>-b i r)) d (-e) where
 pos:=h.pos
 eps:=by have:=h.eps;grind
 dt:=by
  have h1:=i0Z (m:=M) (v:=b) (i:=i) hi (a:=-1) (b:=0) (x:=b i) (y:=b i)
  rw [j0p] at h1
  have:(fun r=>(-1:Int) * b i r + 0 * b i r)=fun r=>-b i r:=by funext r;omega
  rw [this] at h1
  rw [h1];have:=h.dt;grind
 col:=fun c hc r hr=>by
  rw [h.col c hc r hr]
  refine b0n fun k hk=>?_
  by_cases hki:k=i
  ·subst hki;simp only [ng,l1o,b0p];grind
  ·simp only [ng,k1y hki,e0O hki]
theorem Inv.bound (h:Inv M C A T b d e) {B:Nat} (hb:∀ i r,i < M->r < M->(b i r).natAbs<=B) (hA:∀ c r,c<=C->r < M->(A c r).natAbs<=B) {k c:Nat} (u:k < M) (hc:c<=C):(T k c).natAbs<=fac M * B ^ M:=by
 have s:e.natAbs=1:=by
  have:=h.eps
  have j:(e * e).natAbs=1:=by rw [this];rfl
  rw [m1f] at j
  exact Nat.eq_one_of_mul_eq_one_left j
 rw [<- h.entry u hc]
 unfold co
 rw [m1f,s,l1l]
 refine m0p fun i r hi q=>?_
 unfold up;split
 ·exact hA c r hc q
 ·exact hb i r hi q
theorem Inv.bound_d (h:Inv M C A T b d e) {B:Nat} (hb:∀ i r,i < M->r < M->(b i r).natAbs<=B):d.natAbs<=fac M * B ^ M:=by
 have j:e.natAbs=1:=by
  have:=h.eps
  have c:(e * e).natAbs=1:=by rw [this];rfl
  rw [m1f] at c
  exact Nat.eq_one_of_mul_eq_one_left c
 rw [h.dt,m1f,j,l1l]
 exact m0p hb
theorem Inv.first:Inv M C A (fun i c=>A c i) k0k 1 1 where
 pos:=by omega
 eps:=rfl
 dt:=by rw [x0b];rfl
 col:=fun c hc r hr=>by
  rw [g0S hr]
  ·simp [k0k]
  ·intro i hi hne;unfold k0k;rw [k1y (m1m hne)];omega
end Go.Proofs.YtilekhkgobmolaaGreat.SX
namespace Go.Proofs.YtilekhkgobmolaaGreat.SX
structure Tab (m C:Nat) (A:Nat->Nat->Int) (neg:Nat->Prop) (T:Nat->Nat->Int) (base:Nat->Nat) (d:Int):Prop where
 inv:∃ b e,Inv (m + 2) C A T b d e/\(∀ i,i < m->(base i < C/\∀ r,r < m + 2->b i r=A (base i) r) ∨ (base i=C + i/\neg i/\∀ r,b i r=k0k i r))/\(∀ r,b m r=k0k m r)/\(∀ r,b (m + 1) r=k0k (m + 1) r)
 rhs:∀ i,i < m->0<=T i C
variable {m C:Nat} {A:Nat->Nat->Int} {neg:Nat->Prop} {T T':Nat->Nat->Int} {base base':Nat->Nat} {d d':Int}
theorem Tab.pos (h:Tab m C A neg T base d):0 < d:=by obtain ⟨b,e,hi,_⟩:=h.inv;exact hi.pos
theorem Tab.base_lt (h:Tab m C A neg T base d) {i:Nat} (hi:i < m):base i < C + m:=by
 obtain ⟨b,e,_,c,_⟩:=h.inv
 rcases c i hi with ⟨j,_⟩ | ⟨j,_⟩ <;> omega
theorem Tab.col (h:Tab m C A neg T base d) {k i:Nat} (s:k < m + 2) (hi:i < m) (hb:base i < C):T k (base i)=if k=i then d else 0:=by
 obtain ⟨b,e,q,j,_⟩:=h.inv
 rcases j i hi with ⟨_,c⟩ | ⟨c,_⟩
 ·exact q.col1 s (by omega) (by omega) c
 ·omega
theorem Tab.inj (h:Tab m C A neg T base d) {i k:Nat} (hi:i < m) (s:k < m) (hb:base i < C) (q:base i=base k):i=k:=by
 have c:=h.col (k:=i) (by omega) hi hb
 have j:=h.col (k:=i) (by omega) s (by omega)
 have:=h.pos
 rw [q,j,k1B rfl] at c
 by_cases e:i=k
 ·exact e
 ·rw [k1y e] at c;omega
theorem a1z (h:Tab m C A neg T base d) (H:Tab m C A neg T' base' d') {g:Nat} (O:g=m ∨ g=m + 1) (N:∀ i,i < m->¬ base i < C->¬ base' i < C) {c:Nat} (hc:c<=C) :
  d * T' g c=d' * T g c + sm (fun i=>if base i < C then T i c * T' g (base i) else 0) m:=by
 obtain ⟨b,e,M,I,J,L⟩:=h.inv
 obtain ⟨q,e',k,s,u,v⟩:=H.inv
 have j:g < m + 2:=by omega
 have y:co (m + 2) q e' g (fun r=>d * A c r)=co (m + 2) q e' g (fun r=>sm (fun i=>T i c * b i r) (m + 2)):=f0u fun r R=>M.col c hc r R
 rw [a1x j,N0W j,k.entry j hc] at y
 rw [y]
 show sm _ m + T m c * co (m + 2) q e' g (b m) + T (m + 1) c * co (m + 2) q e' g (b (m + 1))=_
 have F:co (m + 2) q e' g (b m)=if g=m then d' else 0:=by
  rw [<- k.basis j (i:=m) (by omega)];exact f0u fun r _=>by rw [J,u]
 have e2:co (m + 2) q e' g (b (m + 1))=if g=m + 1 then d' else 0:=by
  rw [<- k.basis j (i:=m + 1) (by omega)];exact f0u fun r _=>by rw [L,v]
 have G:sm (fun i=>T i c * co (m + 2) q e' g (b i)) m=sm (fun i=>if base i < C then T i c * T' g (base i) else 0) m:=by
  refine b0n fun i hi=>?_
  rcases I i hi with ⟨z,x⟩ | ⟨z,_,x⟩
  ·rw [k1B z,f0u (w:=A (base i)) x,k.entry j (by omega)]
  ·rw [k1y (by omega)]
   rcases s i hi with ⟨U,_⟩ | ⟨_,_,Z⟩
   ·exact k1Q U (N i hi (by omega))
   ·rw [f0u (w:=q i) (fun r _=>by rw [x,Z]),k.basis j (by omega),k1y (by omega)];simp
 rw [F,e2,G]
 rcases O with rfl | rfl
 ·simp;grind
 ·simp;grind
theorem W0b {f:Nat->Int}:∀ {n:Nat},0 < sm f n->∃ i,i < n/\0 < f i
 | 0,h=>by simp [sm] at h
 | n + 1,h=>by
  rw [sm] at h
  by_cases c:0 < sm f n
  ·obtain ⟨i,hi,e⟩:=W0b c;exact ⟨i,by omega,e⟩
  ·exact ⟨n,by omega,by omega⟩
structure Run (m C g:Nat) (A:Nat->Nat->Int) (neg:Nat->Prop) (N:Nat) (T:Nat->Nat->Nat->Int) (base:Nat->Nat->Nat) (d:Nat->Int) (s r:Nat->Nat):Prop where
 tab:∀ k,k<=N->Tab m C A neg (T k) (base k) (d k)
 sC:∀ k,k < N->s k < C
 rm:∀ k,k < N->r k < m
 ent:∀ k,k < N->T k g (s k) < 0
 low:∀ k,k < N->∀ c,c < s k->0<=T k g c
 piv:∀ k,k < N->0 < T k (r k) (s k)
 min:∀ k,k < N->∀ i,i < m->0 < T k i (s k)->T k (r k) C * T k i (s k) < T k i C * T k (r k) (s k) ∨ (T k (r k) C * T k i (s k)=T k i C * T k (r k) (s k)/\base k (r k)<=base k i)
 nxt:∀ k,k < N->∀ i c,i < m + 2->c<=C->T (k + 1) i c=pv (T k) (r k) (s k) (d k) i c
 nb:∀ k,k < N->∀ i,i < m->base (k + 1) i=if i=r k then s k else base k i
 nd:∀ k,k < N->d (k + 1)=T k (r k) (s k)
section
variable {g N:Nat} {T:Nat->Nat->Nat->Int} {base:Nat->Nat->Nat} {d:Nat->Int} {s r:Nat->Nat}
theorem Run.change (h:Run m C g A neg N T base d s r) {i:Nat} (hi:i < m):∀ (n p:Nat),p + n<=N->base (p + n) i ≠ base p i->∃ k,p<=k/\k < p + n/\r k=i/\base k i=base p i/\base (k + 1) i ≠ base p i
 | 0,p,_,hne=>k1Q rfl hne
 | n + 1,p,hN,hne=>by
  by_cases c:base (p + n) i=base p i
  ·refine ⟨p + n,by omega,by omega,?_,c,hne⟩
   by_cases e:i=r (p + n)
   ·exact e.symm
   ·exfalso;apply hne
    have:=h.nb (p + n) (by omega) i hi
    rw [k1y e] at this
    rw [show p + (n + 1)=p + n + 1 by omega,this,c]
  ·obtain ⟨k,j,u,q⟩:=h.change hi n p (by omega) c
   exact ⟨k,j,by omega,q⟩
theorem Run.enters (h:Run m C g A neg N T base d s r) {i:Nat} (hi:i < m):∀ (n p:Nat),p + n<=N->base p i ≠ base (p + n) i->∃ k,p<=k/\k < p + n/\r k=i/\s k=base (p + n) i
 | 0,p,_,hne=>k1Q rfl hne
 | n + 1,p,hN,hne=>by
  have c:=h.nb (p + n) (by omega) i hi
  rw [<- show p + (n + 1)=p + n + 1 by omega] at c
  by_cases e:i=r (p + n)
  ·rw [k1B e] at c
   exact ⟨p + n,by omega,by omega,e.symm,c.symm⟩
  ·rw [k1y e] at c
   obtain ⟨k,j,v,q,u⟩:=h.enters hi n p (by omega) (by rw [<- c];exact hne)
   exact ⟨k,j,by omega,q,by rw [u,c]⟩
theorem Run.real (h:Run m C g A neg N T base d s r) {i:Nat} (hi:i < m):∀ (n p:Nat),p + n<=N->base p i < C->base (p + n) i < C
 | 0,_,_,hb=>hb
 | n + 1,p,hN,hb=>by
  have c:=h.real hi n p (by omega) hb
  have:=h.nb (p + n) (by omega) i hi
  rw [show p + (n + 1)=p + n + 1 by omega,this]
  split
  ·exact h.sC _ (by omega)
  ·exact c
theorem Run.grow (h:Run m C g A neg N T base d s r) (L:g=m ∨ g=m + 1) {k:Nat} (q:k < N):T k g C * d (k + 1)<=T (k + 1) g C * d k/\(T k g C * d (k + 1)=T (k + 1) g C * d k->T k (r k) C=0):=by
 have y:=h.nxt k q g C (by omega) (by omega)
 have v:=(h.tab k (by omega))
 obtain ⟨b,e,H,_⟩:=v.inv
 have u:=H.exact (i:=r k) (j:=s k) (k:=g) (c:=C) (by have:=h.rm k q;omega) (by have:=h.sC k q;omega) (by have:=h.piv k q;omega) (by omega) (by omega) (by have:=h.rm k q;omega)
 rw [<- y] at u
 have I:=h.ent k q
 have z:=v.rhs (r k) (h.rm k q)
 rw [h.nd k q]
 have J:T k g (s k) * T k (r k) C<=0:=l1C (by omega) z
 refine ⟨by rw [Int.mul_comm _ (d k),<- u];omega,fun F=>?_⟩
 rw [Int.mul_comm _ (d k),<- u] at F
 have G:T k g (s k) * T k (r k) C=0:=by omega
 rcases Int.mul_eq_zero.1 G with x | x
 ·omega
 ·exact x
theorem Run.grows (h:Run m C g A neg N T base d s r) (c:g=m ∨ g=m + 1):∀ (n p:Nat),p + n<=N->T p g C * d (p + n)<=T (p + n) g C * d p
 | 0,p,_=>Int.le_refl _
 | n + 1,p,hN=>by
  have j:=h.grows c n p (by omega)
  have q:=(h.grow c (k:=p + n) (by omega)).1
  have F:=(h.tab p (by omega)).pos
  have v:=(h.tab (p + n) (by omega)).pos
  have G:=(h.tab (p + n + 1) (by omega)).pos
  rw [show p + (n + 1)=p + n + 1 by omega]
  have y:=l1z j (by omega:0<=d (p + n + 1))
  have z:=l1z q (by omega:0<=d p)
  have u:(T p g C * d (p + n + 1)) * d (p + n)<=(T (p + n + 1) g C * d p) * d (p + n):=by
   have e:(T p g C * d (p + n + 1)) * d (p + n)=T p g C * d (p + n) * d (p + n + 1):=by grind
   have e2:(T (p + n + 1) g C * d p) * d (p + n)=T (p + n + 1) g C * d (p + n) * d p:=by grind
   have x:T (p + n) g C * d p * d (p + n + 1)=T (p + n) g C * d (p + n + 1) * d p:=by grind
   rw [e,e2];omega
  exact Int.le_of_mul_le_mul_right u v
theorem Run.flat (h:Run m C g A neg N T base d s r) (u:g=m ∨ g=m + 1) {p q:Nat} (L:p < q) (M:q<=N) (hb:∀ i,i < m->base p i=base q i) {k:Nat} (I:p<=k) (J:k < q):T k (r k) C=0:=by
 have hp:=h.tab p (by omega)
 have e:=h.tab q M
 have j:=a1z hp e u (fun i hi j=>by rw [<- hb i hi];exact j) (c:=C) (by omega)
 rw [e0N (fun i hi=>?_),l1O] at j
 ·refine (h.grow u (k:=k) (by omega)).2 ?_
  have v:=h.grows u (k - p) p (by omega)
  have F:=(h.grow u (k:=k) (by omega)).1
  have x:=h.grows u (q - (k + 1)) (k + 1) (by omega)
  rw [show p + (k - p)=k by omega] at v
  rw [show k + 1 + (q - (k + 1))=q by omega] at x
  have O:=hp.pos
  have R:=e.pos
  have Z:=(h.tab k (by omega)).pos
  have p4:=(h.tab (k + 1) (by omega)).pos
  -- v: Tp dk <= Tk dp ; x : Tk1 dq <= Tq dk1 ; j : dp Tq = dq Tp
  refine Int.le_antisymm F ?_
  have y:=l1z x (by omega:0<=d p)
  have y:=l1z y (by omega:0<=d k)
  have b2:=l1z v (by omega:0<=d q)
  have b2:=l1z b2 (by omega:0<=d (k + 1))
  have b3:T (k + 1) g C * d k * (d p * d q)<=T k g C * d (k + 1) * (d p * d q):=by
   have G:T (k + 1) g C * d k * (d p * d q)=T (k + 1) g C * d q * d p * d k:=by grind
   have e2:T k g C * d (k + 1) * (d p * d q)=T k g C * d p * d q * d (k + 1):=by grind
   have U:T q g C * d (k + 1) * d p * d k=T p g C * d k * d q * d (k + 1):=by
    have:T q g C * d (k + 1) * d p * d k=(d p * T q g C) * (d (k + 1) * d k):=by grind
    rw [this,j];grind
   rw [G,e2];omega
  exact Int.le_of_mul_le_mul_right b3 (Int.mul_pos O R)
 ·split
  ·rename_i H
   have z:=e.col (k:=g) (i:=i) (by omega) hi (by rw [<- hb i hi];exact H)
   rw [k1y (by omega)] at z
   rw [hb i hi,z];simp
  ·rfl
theorem Run.rhs0 (h:Run m C g A neg N T base d s r) {k i:Nat} (v:k < N) (hi:i < m) (G:T k (r k) C=0):T k i C=0 <-> T (k + 1) i C=0:=by
 have y:=h.nxt k v i C (by omega) (by omega)
 have z:=(h.tab k (by omega))
 by_cases F:i=r k
 ·subst F;rw [y];unfold pv;rw [k1B rfl]
 ·obtain ⟨b,e,H,_⟩:=z.inv
  have q:=H.exact (i:=r k) (j:=s k) (k:=i) (c:=C) (by have:=h.rm k v;omega) (by have:=h.sC k v;omega) (by have:=h.piv k v;omega) (by omega) (by omega) F
  rw [<- y,G,m1L,Int.sub_zero] at q
  have I:=h.piv k v
  have J:=z.pos
  constructor
  ·intro x;rw [x,Int.zero_mul] at q
   rcases Int.mul_eq_zero.1 q.symm with u | u
   ·omega
   ·exact u
  ·intro x;rw [x,m1L] at q
   rcases Int.mul_eq_zero.1 q with u | u
   ·exact u
   ·omega
theorem Run.rhs00 (h:Run m C g A neg N T base d s r) {i p:Nat} (hi:i < m):∀ n:Nat,p + n<=N->(∀ k,p<=k->k < p + n->T k (r k) C=0)->(T p i C=0 <-> T (p + n) i C=0)
 | 0,_,_=>Iff.rfl
 | n + 1,hN,h0=>(h.rhs00 hi n (by omega) (fun k c e=>h0 k c (by omega))).trans (h.rhs0 (k:=p + n) (by omega) hi (h0 _ (by omega) (by omega)))
theorem i1h (s:Nat->Nat):∀ (n p:Nat),0 < n->∃ k,p<=k/\k < p + n/\∀ l,p<=l->l < p + n->s l<=s k
 | 0,_,h=>by omega
 | n + 1,p,_=>by
  by_cases v:n=0
  ·subst v;exact ⟨p,by omega,by omega,fun l q c=>by rw [show l=p by omega];exact k1x _⟩
  ·obtain ⟨k,u,x,j⟩:=i1h s n p (by omega)
   by_cases q:s (p + n)<=s k
   ·exact ⟨k,u,by omega,fun l e b2=>by
     by_cases c:l=p + n
     ·rw [c];exact q
     ·exact j l e (by omega)⟩
   ·exact ⟨p + n,by omega,by omega,fun l e b2=>by
     by_cases c:l=p + n
     ·rw [c];exact k1x _
     ·have:=j l e (by omega);omega⟩
theorem Run.norep (h:Run m C g A neg N T base d s r) (hg:g=m ∨ g=m + 1) {p q:Nat} (c0:p < q) (hq:q<=N) (hb:∀ i,i < m->base p i=base q i):False:=by
 have j:∀ k,p<=k->k < q->T k (r k) C=0:=fun k x M=>h.flat hg c0 hq hb x M
 -- a row that a pivot s0Y has nought at the right throughout
 have L:∀ F k i,p<=F->F < q->p<=k->k < q->i < m->r F=i->T k i C=0:=by
  intro F k i a1 a2 a3 a4 hi J
  have e0:T F i C=0:=by rw [<- J];exact j F a1 a2
  have e1:=(h.rhs00 hi (F - p) (p:=p) (by omega) (fun l z b2=>j l z (by omega)))
  have e2:=(h.rhs00 hi (k - p) (p:=p) (by omega) (fun l z b2=>j l z (by omega)))
  rw [show p + (F - p)=F by omega] at e1
  rw [show p + (k - p)=k by omega] at e2
  exact e2.1 (e1.2 e0)
 -- what is made up stays so
 have O:∀ k l i,p<=k->k<=q->p<=l->l<=q->i < m->¬ base k i < C->¬ base l i < C:=by
  intro k l i a1 a2 a3 a4 hi x M
  have H:=h.real hi (q - l) l (by omega) M
  rw [show l + (q - l)=q by omega,<- hb i hi] at H
  have u:=h.real hi (k - p) p (by omega) H
  rw [show p + (k - p)=k by omega] at u
  exact x u
 obtain ⟨e,s1,s2,s3⟩:=i1h s (q - p) p (by omega)
 have a7:∀ l,p<=l->l < q->s l<=s e:=fun l a b=>s3 l a (by omega)
 have hS:=h.tab e (by omega)
 have b5:=h.ent e (by omega)
 -- the greatest leaves
 have R:∃ k,p<=k/\k < q/\base k (r k)=s e:=by
  have J:=h.rm e (by omega)
  have I:=h.nb e (by omega) (r e) J
  rw [k1B rfl] at I
  by_cases hc:base q (r e)=s e
  ·rw [<- hb _ J] at hc
   have b8:base e (r e) ≠ s e:=by
    intro x
    have:=hS.col (k:=g) (i:=r e) (by omega) J (by rw [x];exact h.sC e (by omega))
    rw [x,k1y (by omega)] at this;omega
   obtain ⟨k,z,b2,b3,v,_⟩:=h.change J (e - p) p (by omega) (by rw [show p + (e - p)=e by omega,hc];exact b8)
   exact ⟨k,z,by omega,by rw [b3,v,hc]⟩
  ·obtain ⟨k,z,b2,b3,v,_⟩:=h.change J (q - (e + 1)) (e + 1) (by omega) (by rw [show e + 1 + (q - (e + 1))=q by omega,I];exact hc)
   exact ⟨k,by omega,by omega,by rw [b3,v,I]⟩
 obtain ⟨k,k1,k2,k3⟩:=R
 have hD:=h.tab k (by omega)
 have a5:=h.rm k (by omega)
 have c1:=h.sC e (by omega)
 have c7:s k ≠ s e:=by
  intro x
  have:=hD.col (k:=g) (i:=r k) (by omega) a5 (by rw [k3];exact c1)
  rw [k3,<- x,k1y (by omega)] at this
  have:=h.ent k (by omega);omega
 have a6:s k < s e:=by have:=a7 k k1 k2;omega
 have hlow:=h.low e (by omega)
 have x:=a1z hD hS hg (fun i hi x=>O k e i k1 (by omega) s1 (by omega) hi x) (c:=s k) (by have:=h.sC k (by omega);omega)
 have M:0 < sm (fun i=>if base k i < C then T k i (s k) * T e g (base k i) else 0) m:=by
  have a1:=m1R (by have:=hD.pos;omega:0<=d k) (hlow (s k) a6)
  have a2:=m1G hS.pos (h.ent k (by omega))
  omega
 obtain ⟨i,hi,H⟩:=W0b M
 split at H
 case isFalse=>omega
 rename_i y
 have b9:T e g (base k i) ≠ 0:=by intro u;rw [u] at H;omega
 have G:base e i ≠ base k i:=by
  intro u
  apply b9
  rw [<- u,hS.col (k:=g) (i:=i) (by omega) hi (by rw [u];exact y),k1y (by omega)]
 -- it comes in somewhere, and its row is met
 have a9:∃ l,p<=l/\l < q/\r l=i/\s l=base k i:=by
  by_cases c5:e < k
  ·obtain ⟨l,z,b2,b3,v⟩:=h.enters hi (k - e) e (by omega) (by rw [show e + (k - e)=k by omega];exact G)
   rw [show e + (k - e)=k by omega] at v
   exact ⟨l,by omega,by omega,b3,v⟩
  ·by_cases U:base p i=base k i
   ·have a0:base q i=base k i:=by rw [<- hb i hi];exact U
    obtain ⟨l,z,b2,b3,v⟩:=h.enters hi (q - e) e (by omega) (by rw [show e + (q - e)=q by omega,a0];exact G)
    rw [show e + (q - e)=q by omega,a0] at v
    exact ⟨l,by omega,by omega,b3,v⟩
   ·obtain ⟨l,z,b2,b3,v⟩:=h.enters hi (k - p) p (by omega) (by rw [show p + (k - p)=k by omega];exact U)
    rw [show p + (k - p)=k by omega] at v
    exact ⟨l,by omega,by omega,b3,v⟩
 obtain ⟨l,l1,l2,l3,l4⟩:=a9
 have c4:base k i<=s e:=by rw [<- l4];exact a7 l l1 l2
 have c6:base k i ≠ s e:=by
  intro u
  have:i=r k:=hD.inj hi a5 y (by rw [u,k3])
  have h5:=h.piv k (by omega)
  rw [this,k3] at H
  have:=m1G h5 b5
  omega
 have a8:=hlow (base k i) (by omega)
 have Z:0 < T k i (s k):=by
  rcases Int.lt_trichotomy 0 (T k i (s k)) with u | u | u
  ·exact u
  ·rw [<- u] at H;omega
  ·have:=l1C (by omega:T k i (s k)<=0) a8;omega
 have c2:=L l k i l1 l2 k1 k2 hi l3
 have c3:=j k k1 k2
 rcases h.min k (by omega) i hi Z with u | ⟨_,u⟩
 ·rw [c2,c3] at u;omega
 ·rw [k3] at u;omega
end
theorem O0o:∀ (K:Nat) (f:Nat->Nat),(∀ k,k<=K->f k < K)->∃ p q,p < q/\q<=K/\f p=f q
 | 0,f,h=>k1Q (h 0 (k1x _)) (by omega)
 | K + 1,f,h=>by
  by_cases u:∃ k,k<=K/\f k=f (K + 1)
  ·obtain ⟨k,e,j⟩:=u;exact ⟨k,K + 1,by omega,k1x _,j⟩
  ·have c:∀ k,k<=K->f k ≠ f (K + 1):=fun k e j=>u ⟨k,e,j⟩
   have hv:=h (K + 1) (k1x _)
   obtain ⟨p,q,v,x,s⟩:=O0o K (fun k=>if f k=K then f (K + 1) else f k) (fun k e=>by
    have:=h k (by omega);have:=c k e
    split <;> omega)
   refine ⟨p,q,v,by omega,?_⟩
   have:=c p (by omega);have:=c q (by omega)
   split at s <;> split at s <;> omega
def enc (B:Nat) (f:Nat->Nat):Nat->Nat
 | 0=>0
 | n + 1=>f n + B * enc B f n
theorem N0Y {B:Nat} {f:Nat->Nat}:∀ {n:Nat},(∀ i,i < n->f i < B)->enc B f n < B ^ n
 | 0,_=>by simp [enc]
 | n + 1,h=>by
  have c:=N0Y (n:=n) (fun i hi=>h i (by omega))
  have e:=h n (by omega)
  rw [enc,k1V,k1Z]
  have:B * (enc B f n + 1)<=B * B ^ n:=l1c B c
  rw [k1K] at this
  rw [k1Z (enc B f n) B,k1Z (B ^ n) B];omega
theorem B0m {B:Nat} {f h:Nat->Nat}:∀ {n:Nat},(∀ i,i < n->f i < B)->(∀ i,i < n->h i < B)->enc B f n=enc B h n->∀ i,i < n->f i=h i
 | 0,_,_,_=>fun i hi=>by omega
 | n + 1,hf,hh,e=>fun i hi=>by
  rw [enc,enc] at e
  have k:=hf n (by omega)
  have q:=hh n (by omega)
  have j:f n=h n:=by
   have:=n1E (· % B) e
   simp only [Nat.add_mul_mod_self_left,k1Y k,k1Y q] at this
   exact this
  by_cases c:i=n
  ·rw [c];exact j
  ·rw [j] at e
   exact B0m (n:=n) (fun i hi=>hf i (by omega)) (fun i hi=>hh i (by omega)) (Nat.eq_of_mul_eq_mul_left (by omega:0 < B) (Nat.add_left_cancel e)) i (by omega)
theorem Run.short {g N:Nat} {T:Nat->Nat->Nat->Int} {base:Nat->Nat->Nat} {d:Nat->Int} {s r:Nat->Nat} (h:Run m C g A neg N T base d s r) (u:g=m ∨ g=m + 1):N < (C + m) ^ m:=by
 by_cases j:N < (C + m) ^ m
 ·exact j
 ·exfalso
  obtain ⟨p,q,c,v,e⟩:=O0o ((C + m) ^ m) (fun k=>enc (C + m) (base k) m) (fun k x=>N0Y fun i hi=>(h.tab k (by omega)).base_lt hi)
  exact h.norep u c (by omega) (B0m (fun i hi=>(h.tab p (by omega)).base_lt hi) (fun i hi=>(h.tab q (by omega)).base_lt hi) e)
end Go.Proofs.YtilekhkgobmolaaGreat.SX
namespace Go.Proofs.YtilekhkgobmolaaGreat.SX
variable {M m C:Nat} {A:Nat->Nat->Int} {neg:Nat->Prop} {T T':Nat->Nat->Int} {base base':Nat->Nat} {d d':Int}
theorem Inv.congr {b:Nat->Nat->Int} {e:Int} (h:Inv M C A T b d e) (hT:∀ i c,i < M->c<=C->T' i c=T i c):Inv M C A T' b d e :=
 { h with col:=fun c hc r j=>by rw [h.col c hc r j];exact b0n fun i hi=>by rw [hT i c hi hc] }
theorem Tab.congr (h:Tab m C A neg T base d) (hT:∀ i c,i < m + 2->c<=C->T' i c=T i c) (hb:∀ i,i < m->base' i=base i) (s:d' = d):Tab m C A neg T' base' d':=by
 subst s
 obtain ⟨b,e,j,k,q⟩:=h.inv
 exact ⟨⟨b,e,j.congr hT,fun i hi=>by rw [hb i hi];exact k i hi,q⟩,fun i hi=>by rw [hT i C (by omega) (by omega)];exact h.rhs i hi⟩
theorem Tab.pivot (h:Tab m C A neg T base d) {i j:Nat} (hi:i < m) (L:j < C) (hp:0 < T i j) (M:∀ k,k < m->0 < T k j->T i C * T k j<=T k C * T i j) :
  Tab m C A neg (pv T i j d) (up base i j) (T i j):=by
 obtain ⟨b,e,v,x,y,z⟩:=h.inv
 refine ⟨⟨up b i (A j),e,v.pivot (by omega) (by omega) hp,fun k s=>?_,by rw [e0O (by omega)];exact y,by rw [e0O (by omega)];exact z⟩,fun k s=>?_⟩
 ·by_cases q:k=i
  ·subst q;exact .inl ⟨by rw [b0p];exact L,fun r _=>by rw [b0p,b0p]⟩
  ·rw [e0O q,e0O q];exact x k s
 ·by_cases q:k=i
  ·subst q;unfold pv;rw [k1B rfl];exact h.rhs k s
  ·have F:=v.exact (i:=i) (j:=j) (k:=k) (c:=C) (by omega) (by omega) (by omega) (by omega) (k1x _) q
   have G:=h.rhs k s
   have H:=h.rhs i hi
   have I:0<=T k C * T i j - T k j * T i C:=by
    by_cases u:0 < T k j
    ·have:=M k s u
     have R:T k j * T i C=T i C * T k j:=Int.mul_comm _ _
     omega
    ·have N:=m1R G (by omega:0<=T i j)
     have O:=l1C (by omega:T k j<=0) H
     omega
   rw [F] at I
   have:=v.pos
   by_cases J:0<=pv T i j d k C
   ·exact J
   ·have:=m1G this (by omega:pv T i j d k C < 0);omega
theorem Tab.exact (h:Tab m C A neg T base d) {i j:Nat} (hi:i < m) (u:j<=C) (hp:T i j ≠ 0) {k c:Nat} (v:k < m + 2) (hc:c<=C) (q:k ≠ i):T k c * T i j - T k j * T i c=d * pv T i j d k c:=by
 obtain ⟨b,e,s,_⟩:=h.inv
 exact s.exact (by omega) u hp v hc q
theorem Tab.swap (h:Tab m C A neg T base d) {i j:Nat} (hi:i < m) (e:j < C) (hp:0 < T i j) (c:T i C=0):Tab m C A neg (pv T i j d) (up base i j) (T i j) :=
 h.pivot hi e hp fun k q _=>by
  rw [c,Int.zero_mul]
  exact m1R (h.rhs k q) (by omega)
theorem Tab.swapN (h:Tab m C A neg T base d) {i j:Nat} (hi:i < m) (O:j < C) (hp:T i j < 0) (x:T i C=0) :
  Tab m C A neg (pv (ng T i) i j d) (up base i j) (-T i j)/\∀ k c,k < m + 2->c<=C->k ≠ i->ng T i k c * ng T i i j - ng T i k j * ng T i i c=d * pv (ng T i) i j d k c:=by
 obtain ⟨b,e,y,I,J,L⟩:=h.inv
 have s:=y.turn (i:=i) (by omega)
 have G:ng T i i j = -T i j:=by unfold ng;rw [k1B rfl]
 have u:∀ k c,k < m + 2->c<=C->k ≠ i->ng T i k c * ng T i i j - ng T i k j * ng T i i c=d * pv (ng T i) i j d k c :=
  fun k c v hc q=>s.exact (by omega) (by omega) (by omega) v hc q
 have z:=s.pivot (i:=i) (j:=j) (by omega) (by omega) (by omega)
 rw [G] at z
 refine ⟨⟨⟨up (up b i (fun r=>-b i r)) i (A j),-e,z,fun k v=>?_,?_,?_⟩,fun k v=>?_⟩,u⟩
 ·by_cases q:k=i
  ·subst q;exact .inl ⟨by rw [b0p];exact O,fun r _=>by rw [b0p,b0p]⟩
  ·rw [e0O q,e0O q,e0O q];exact I k v
 ·rw [e0O (by omega),e0O (by omega)];exact J
 ·rw [e0O (by omega),e0O (by omega)];exact L
 ·by_cases q:k=i
  ·subst q;unfold pv;rw [k1B rfl];unfold ng;rw [k1B rfl,x];omega
  ·have F:=u k C (by omega) (k1x _) q
   have H:ng T i i C=0:=by unfold ng;rw [k1B rfl,x];rfl
   have e2:ng T i k C=T k C:=by unfold ng;rw [k1y q]
   rw [H,m1L,Int.sub_zero,e2,G] at F
   have M:=m1R (h.rhs k v) (by omega:0<=-T i j)
   rw [F] at M
   have:=y.pos
   by_cases N:0<=pv (ng T i) i j d k C
   ·exact N
   ·have:=m1G this (by omega:pv (ng T i) i j d k C < 0);omega
def w0G (T:Nat->Nat->Int) (base:Nat->Nat) (C j n o:Nat):Prop :=
 o < n/\0 < T o j/\∀ i,i < n->0 < T i j->T o C * T i j < T i C * T o j ∨ (T o C * T i j=T i C * T o j/\base o<=base i)
variable {j n o:Nat}
theorem w0G.one (h:0 < T n j) (c:∀ i,i < n->T i j<=0):w0G T base C j (n + 1) n :=
 ⟨by omega,h,fun i hi hp=>by
  have:i=n:=by
   by_cases e:i < n
   ·have:=c i e;omega
   ·omega
  subst this;exact .inr ⟨rfl,k1x _⟩⟩
theorem w0G.skip (h:w0G T base C j n o) (e:T n j<=0):w0G T base C j (n + 1) o :=
 ⟨by have:=h.1;omega,h.2.1,fun i hi hp=>by
  by_cases c:i < n
  ·exact h.2.2 i c hp
  ·have:i=n:=by omega
   subst this;omega⟩
theorem w0G.keep (h:w0G T base C j n o) (c:T o C * T n j < T n C * T o j ∨ (T o C * T n j=T n C * T o j/\base o<=base n)):w0G T base C j (n + 1) o :=
 ⟨by have:=h.1;omega,h.2.1,fun i hi hp=>by
  by_cases e:i < n
  ·exact h.2.2 i e hp
  ·have:i=n:=by omega
   subst this;exact c⟩
theorem w0G.take (h:w0G T base C j n o) (hp:0 < T n j) (e:T n C * T o j < T o C * T n j ∨ (T n C * T o j=T o C * T n j/\base n < base o)):w0G T base C j (n + 1) n :=
 ⟨by omega,hp,fun i hi k=>by
  by_cases x:i < n
  ·have c:=h.2.2 i x k
   have ho:=h.2.1
   -- a: Tn/ ..
   generalize T n C=nC at *
   generalize T n j=nj at *
   generalize T o C=oC at *
   generalize T o j=oj at *
   generalize T i C=iC at *
   generalize T i j=ij at *
   have z:(nC * ij) * oj=(nC * oj) * ij:=by grind
   have s:(iC * nj) * oj=(iC * oj) * nj:=by grind
   have u:(oC * nj) * ij=(oC * ij) * nj:=by grind
   rcases e with e | ⟨e,hb⟩
   ·left
    have v:(nC * oj) * ij < (oC * nj) * ij:=Int.mul_lt_mul_of_pos_right e k
    have q:(oC * ij) * nj<=(iC * oj) * nj:=l1z (by rcases c with c | c <;> omega) (by omega)
    exact Int.lt_of_mul_lt_mul_right (a:=oj) (by omega) (by omega)
   ·have v:(nC * oj) * ij=(oC * nj) * ij:=by rw [e]
    rcases c with c | ⟨c,y⟩
    ·left
     have q:(oC * ij) * nj < (iC * oj) * nj:=Int.mul_lt_mul_of_pos_right c hp
     exact Int.lt_of_mul_lt_mul_right (a:=oj) (by omega) (by omega)
    ·right
     have q:(oC * ij) * nj=(iC * oj) * nj:=by rw [c]
     refine ⟨?_,by omega⟩
     have:(nC * ij) * oj=(iC * nj) * oj:=by omega
     exact Int.eq_of_mul_eq_mul_right (by omega) this
  ·have:i=n:=by omega
   subst this;exact .inr ⟨rfl,k1x _⟩⟩
theorem Run.zero {g:Nat} (h:Tab m C A neg T base d):Run m C g A neg 0 (fun _=>T) (fun _=>base) (fun _=>d) (fun _=>0) (fun _=>0) where
 tab:=fun _ _=>h
 sC:=fun k hk=>by omega
 rm:=fun k hk=>by omega
 ent:=fun k hk=>by omega
 low:=fun k hk=>by omega
 piv:=fun k hk=>by omega
 min:=fun k hk=>by omega
 nxt:=fun k hk=>by omega
 nb:=fun k hk=>by omega
 nd:=fun k hk=>by omega
def Reach (m C g:Nat) (A:Nat->Nat->Int) (neg:Nat->Prop) (N:Nat) (T:Nat->Nat->Int) (base:Nat->Nat) (d:Int):Prop :=
 ∃ Ts bs ds s r,Run m C g A neg N Ts bs ds s r/\(∀ i c,i < m + 2->c<=C->T i c=Ts N i c)/\(∀ i,i < m->base i=bs N i)/\d=ds N
theorem Reach.zero {g:Nat} (h:Tab m C A neg T base d):Reach m C g A neg 0 T base d:=⟨_,_,_,_,_,Run.zero h,fun _ _ _ _=>rfl,fun _ _=>rfl,rfl⟩
theorem Reach.tab {g N:Nat} (h:Reach m C g A neg N T base d):Tab m C A neg T base d:=by
 obtain ⟨q,bs,ds,s,r,c,e,j,k⟩:=h
 exact (c.tab N (k1x _)).congr e j k
theorem Reach.short {g N:Nat} (e:g=m ∨ g=m + 1) (h:Reach m C g A neg N T base d):N < (C + m) ^ m:=by
 obtain ⟨j,bs,ds,s,r,c,_⟩:=h;exact c.short e
theorem Reach.step {g N i:Nat} (hg:g=m ∨ g=m + 1) (h:Reach m C g A neg N T base d) (Z:j < C) (he:T g j < 0) (hl:∀ c,c < j->0<=T g c) (hB:w0G T base C j m i)
  (hT:∀ k c,k < m + 2->c<=C->T' k c=pv T i j d k c) (hb:∀ k,k < m->base' k=if k=i then j else base k) (U:d' = T i j):Reach m C g A neg (N + 1) T' base' d':=by
 have L:=h.tab
 obtain ⟨J,bs,ds,s,r,H,F,O,h4⟩:=h
 obtain ⟨hi,hp,I⟩:=hB
 have R:C<=C:=k1x _
 have M:Tab m C A neg T' base' d':=(L.pivot hi Z hp fun k z hp=>by rcases I k z hp with a | a <;> omega).congr hT (fun k z=>by rw [hb k z];rfl) U
 refine ⟨up J (N + 1) T',up bs (N + 1) base',up ds (N + 1) d',up s N j,up r N i,?_,fun i c _ _=>by rw [b0p],fun i _=>by rw [b0p],by rw [b0p]⟩
 have u:∀ {α:Type} (f:Nat->α) (x:α) {k:Nat},k<=N->up f (N + 1) x k=f k:=fun f x k z=>e0O (by omega)
 have v:∀ {α:Type} (f:Nat->α) (x:α) {k:Nat},k < N->up f N x k=f k:=fun f x k z=>e0O (by omega)
 constructor
 ·intro k z
  by_cases e:k=N + 1
  ·subst e;rw [b0p,b0p,b0p];exact M
  ·rw [u _ _ (by omega),u _ _ (by omega),u _ _ (by omega)];exact H.tab k (by omega)
 ·intro k z
  by_cases e:k=N
  ·subst e;rw [b0p];exact Z
  ·rw [v _ _ (by omega)];exact H.sC k (by omega)
 ·intro k z
  by_cases e:k=N
  ·subst e;rw [b0p];exact hi
  ·rw [v _ _ (by omega)];exact H.rm k (by omega)
 ·intro k z
  rw [u _ _ (by omega)]
  by_cases e:k=N
  ·subst e;rw [b0p,<- F g j (by omega) (by omega)];exact he
  ·rw [v _ _ (by omega)];exact H.ent k (by omega)
 ·intro k z c hc
  rw [u _ _ (by omega)]
  by_cases e:k=N
  ·subst e;rw [b0p] at hc;rw [<- F g c (by omega) (by omega)];exact hl c hc
  ·rw [v _ _ (by omega)] at hc;exact H.low k (by omega) c hc
 ·intro k z
  rw [u _ _ (by omega)]
  by_cases e:k=N
  ·subst e;rw [b0p,b0p,<- F i j (by omega) (by omega)];exact hp
  ·rw [v _ _ (by omega),v _ _ (by omega)];exact H.piv k (by omega)
 ·intro k z q G y
  rw [u J _ (by omega)] at y ⊢
  rw [u bs _ (by omega)]
  by_cases e:k=N
  ·subst e
   rw [b0p] at y ⊢
   rw [b0p]
   rw [<- F q j (by omega) (by omega)] at y
   rw [<- F q j (by omega) (by omega),<- F i j (by omega) (by omega),<- F i C (by omega) R,<- F q C (by omega) R,<- O i hi,<- O q G]
   exact I q G y
  ·rw [v s _ (by omega)] at y ⊢
   rw [v r _ (by omega)]
   exact H.min k (by omega) q G y
 ·intro k z q c G hc
  by_cases e:k=N
  ·subst e
   rw [b0p,b0p,b0p,u _ _ (k1x _),u _ _ (k1x _),hT q c G hc]
   unfold pv
   rw [F q c G hc,F q j G (by omega),F i c (by omega) hc,F i j (by omega) (by omega),h4]
  ·rw [u J _ (by omega),u J _ (by omega),u ds _ (by omega),v _ _ (by omega),v _ _ (by omega)];exact H.nxt k (by omega) q c G hc
 ·intro k z q G
  by_cases e:k=N
  ·subst e
   rw [b0p,b0p,b0p,u _ _ (k1x _),hb q G,O q G]
  ·rw [u bs _ (by omega),u bs _ (by omega),v _ _ (by omega),v _ _ (by omega)];exact H.nb k (by omega) q G
 ·intro k z
  by_cases e:k=N
  ·subst e
   rw [b0p,b0p,b0p,u _ _ (k1x _),U,F i j (by omega) (by omega)]
  ·rw [u ds _ (by omega),u J _ (by omega),v _ _ (by omega),v _ _ (by omega)];exact H.nd k (by omega)
theorem Tab.bound (h:Tab m C A neg T base d) {B:Nat} (hB:1<=B) (hA:∀ c r,c<=C->r < m + 2->(A c r).natAbs<=B):(∀ k c,k < m + 2->c<=C->(T k c).natAbs<=fac (m + 2) * B ^ (m + 2))/\d.natAbs<=fac (m + 2) * B ^ (m + 2):=by
 obtain ⟨b,e,u,x,y,z⟩:=h.inv
 have q:∀ i r,(k0k i r).natAbs<=B:=fun i r=>by unfold k0k;split <;> simp <;> omega
 have hb:∀ i r,i < m + 2->r < m + 2->(b i r).natAbs<=B:=by
  intro i r hi v
  by_cases G:i < m
  ·rcases x i G with ⟨H,s⟩ | ⟨_,_,s⟩
   ·rw [s r v];exact hA _ r (by omega) v
   ·rw [s r];exact q i r
  ·by_cases j:i=m
   ·rw [j,y r];exact q m r
   ·rw [show i=m + 1 by omega,z r];exact q _ r
 exact ⟨fun k c F hc=>u.bound hb hA F hc,u.bound_d hb⟩
end Go.Proofs.YtilekhkgobmolaaGreat.SX
namespace Go.Proofs.YtilekhkgobmolaaGreat.SX
def e0z (n m:Nat) (a:Nat->Nat->Int) (bb:Nat->Int) (r c:Nat):Int :=
 if c < n then a r c else if c < 2 * n then -a r (c - n) else if c < 2 * n + m then (if c - 2 * n=r then 1 else 0) else bb r
def sg (bb:Nat->Int) (r:Nat):Int:=if bb r < 0 then -1 else 1
def cost (n:Nat) (cc:Nat->Int) (c:Nat):Int:=if c < n then cc c else if c < 2 * n then -cc (c - n) else 0
def i0m (n m:Nat) (a:Nat->Nat->Int) (bb cc:Nat->Int) (c r:Nat):Int :=
 if r < m then sg bb r * e0z n m a bb r c else if r=m then -sm (fun i=>if bb i < 0 then sg bb i * e0z n m a bb i c else 0) m else -cost n cc c
def l0A (n m:Nat) (bb:Nat->Int) (i:Nat):Nat:=if bb i < 0 then 2 * n + m + i else 2 * n + i
variable {n m:Nat} {a:Nat->Nat->Int} {bb cc:Nat->Int} {T:Nat->Nat->Int} {base:Nat->Nat} {d:Int}
theorem e0V {c r:Nat} (h:r < m):i0m n m a bb cc c r=sg bb r * e0z n m a bb r c:=by unfold i0m;rw [k1B h]
theorem h0n {c:Nat}:i0m n m a bb cc c m = -sm (fun i=>if bb i < 0 then sg bb i * e0z n m a bb i c else 0) m:=by unfold i0m;rw [k1y (by omega),k1B rfl]
theorem f0b {c:Nat}:i0m n m a bb cc c (m + 1) = -cost n cc c:=by unfold i0m;rw [k1y (by omega),k1y (by omega)]
theorem c0P {r k:Nat} (h:k < m):e0z n m a bb r (2 * n + k)=if k=r then 1 else 0:=by
 unfold e0z;rw [k1y (by omega),k1y (by omega),k1B (by omega),show 2 * n + k - 2 * n=k by omega]
theorem f0U {r:Nat}:e0z n m a bb r (2 * n + m)=bb r:=by unfold e0z;rw [k1y (by omega),k1y (by omega),k1y (by omega)]
theorem e0q {c:Nat} (h:2 * n<=c):cost n cc c=0:=by unfold cost;rw [k1y (by omega),k1y (by omega)]
theorem B0O:Tab m (2 * n + m) (i0m n m a bb cc) (fun i=>bb i < 0) (fun i c=>i0m n m a bb cc c i) (l0A n m bb) 1:=by
 refine ⟨⟨k0k,1,Inv.first,fun i hi=>?_,fun _=>rfl,fun _=>rfl⟩,fun i hi=>?_⟩
 ·unfold l0A
  by_cases hb:bb i < 0
  ·rw [k1B hb];exact .inr ⟨rfl,hb,fun _=>rfl⟩
  ·rw [k1y hb]
   refine .inl ⟨by omega,fun r s=>?_⟩
   by_cases h:r < m
   ·rw [e0V h,c0P hi]
    by_cases e:i=r
    ·subst e;unfold k0k sg;simp [hb]
    ·unfold k0k;rw [k1y (m1m e),k1y e];simp
   ·by_cases e:r=m
    ·subst e
     rw [h0n,e0N]
     ·unfold k0k;rw [k1y (by omega)];rfl
     ·intro k q
      split
      ·rename_i j
       rw [c0P hi,k1y (by rintro rfl;exact hb j)];simp
      ·rfl
    ·rw [show r=m + 1 by omega,f0b,e0q (by omega)]
     unfold k0k;rw [k1y (by omega)];rfl
 ·show 0<=i0m n m a bb cc (2 * n + m) i
  rw [e0V hi,f0U]
  unfold sg;split <;> omega
theorem Tab.rows (h:Tab m (2 * n + m) (i0m n m a bb cc) (fun i=>bb i < 0) T base d) {k c:Nat} (x:k < m + 2) (hc:c<=2 * n + m) :
  T k c=sm (fun i=>T k (2 * n + i) * e0z n m a bb i c) m - (if k=m + 1 then d * cost n cc c else 0):=by
 obtain ⟨b,e,z,_,_,G⟩:=h.inv
 rw [<- z.entry x hc]
 have s:co (m + 2) b e k (i0m n m a bb cc c)=co (m + 2) b e k (fun r=>1 * sm (fun i=>e0z n m a bb i c * i0m n m a bb cc (2 * n + i) r) m + (-cost n cc c) * b (m + 1) r):=by
  refine f0u fun r I=>?_
  rw [G r]
  by_cases s:r < m
  ·rw [e0V s,g0S s]
   ·rw [e0V s,c0P s,k1B rfl];unfold k0k;rw [k1y (by omega)];grind
   ·intro i hi u
    rw [e0V s,c0P hi,k1y u];simp
  ·by_cases y:r=m
   ·subst y
    rw [h0n]
    have e2:sm (fun i=>e0z n r a bb i c * i0m n r a bb cc (2 * n + i) r) r=sm (fun i=>-1 * if bb i < 0 then sg bb i * e0z n r a bb i c else 0) r:=by
     refine b0n fun i hi=>?_
     rw [h0n]
     by_cases v:bb i < 0
     ·rw [k1B v,g0S hi]
      ·rw [k1B v,c0P hi,k1B rfl];grind
      ·intro j H u
       rw [c0P hi,k1y (m1m u)];simp
     ·rw [k1y v,e0N]
      ·simp
      ·intro j H
       by_cases F:j=i
       ·subst F;rw [k1y v]
       ·rw [c0P hi,k1y (m1m F)];simp
    rw [e2,f0m];unfold k0k;rw [k1y (by omega)];grind
   ·have v:r=m + 1:=by omega
    subst v
    rw [f0b,e0N]
    ·unfold k0k;rw [k1B rfl];grind
    ·intro i hi;rw [f0b,e0q (by omega)];simp
 rw [s,N0V x,N0W x,z.basis x (by omega)]
 have y:sm (fun i=>e0z n m a bb i c * co (m + 2) b e k (i0m n m a bb cc (2 * n + i))) m=sm (fun i=>T k (2 * n + i) * e0z n m a bb i c) m :=
  b0n fun i hi=>by rw [z.entry x (by omega)];grind
 rw [y]
 by_cases q:k=m + 1
 ·rw [k1B q,k1B q];grind
 ·rw [k1y q,k1y q];grind
theorem Tab.lack (h:Tab m (2 * n + m) (i0m n m a bb cc) (fun i=>bb i < 0) T base d) {c:Nat} (hc:c<=2 * n + m):T m c = -sm (fun i=>if base i < 2 * n + m then 0 else T i c) m:=by
 obtain ⟨b,e,J,hb,M,L⟩:=h.inv
 -- the functional: the number in the row of what is lacking, and those of rows with a right R F z
 let q:(Nat->Int)->Int:=fun v=>v m + sm (fun i=>if bb i < 0 then v i else 0) m
 have u:∀ c,q (i0m n m a bb cc c)=0:=fun c=>by
  simp only [q,h0n]
  have:sm (fun i=>if bb i < 0 then i0m n m a bb cc c i else 0) m=sm (fun i=>if bb i < 0 then sg bb i * e0z n m a bb i c else 0) m:=b0n fun i hi=>by
   split
   ·rw [e0V hi]
   ·rfl
  rw [this];omega
 have s:∀ (t:Nat->Int) (x:Nat->Nat->Int) (N:Nat),q (fun r=>sm (fun i=>t i * x i r) N)=sm (fun i=>t i * q (x i)) N:=by
  intro t x N
  induction N with
  | zero=>simp only [q,sm];rw [e0N (fun i _=>by split <;> rfl)];rfl
  | succ N ih =>
   simp only [sm]
   rw [<- ih]
   simp only [q]
   have:sm (fun i=>if bb i < 0 then sm (fun k=>t k * x k i) N + t N * x N i else 0) m=sm (fun i=>if bb i < 0 then sm (fun k=>t k * x k i) N else 0) m + t N * sm (fun i=>if bb i < 0 then x N i else 0) m:=by
    rw [<- f0m,<- t0S]
    exact b0n fun i _=>by split <;> simp
   rw [this];grind
 have I:q (fun r=>sm (fun i=>T i c * b i r) (m + 2))=q (fun r=>d * i0m n m a bb cc c r):=by
  simp only [q]
  rw [<- J.col c hc m (by omega)]
  congr 1
  exact b0n fun i hi=>by rw [<- J.col c hc i (by omega)]
 have h2:q (fun r=>d * i0m n m a bb cc c r)=0:=by
  have:=s (fun _=>d) (fun _=>i0m n m a bb cc c) 1
  simp only [sm,Int.zero_add] at this
  rw [this,u];simp
 rw [s,h2] at I
 have h3:sm (fun i=>T i c * q (b i)) (m + 2)=sm (fun i=>T i c * q (b i)) m + T m c * q (b m) + T (m + 1) c * q (b (m + 1)):=rfl
 have U:q (b m)=1:=by
  simp only [q]
  rw [M,e0N]
  ·unfold k0k;simp
  ·intro i hi;rw [M];unfold k0k;rw [k1y (show i ≠ m by omega)];simp
 have e2:q (b (m + 1))=0:=by
  simp only [q]
  rw [L,e0N]
  ·unfold k0k;simp
  ·intro i hi;rw [L];unfold k0k;rw [k1y (show i ≠ m + 1 by omega)];simp
 have Z:sm (fun i=>T i c * q (b i)) m=sm (fun i=>if base i < 2 * n + m then 0 else T i c) m:=by
  refine b0n fun i hi=>?_
  rcases hb i hi with ⟨O,y⟩ | ⟨O,y,H⟩
  ·rw [k1B O]
   have:q (b i)=q (i0m n m a bb cc (base i)):=by
    simp only [q];rw [y m (by omega)];congr 1
    exact b0n fun j hj=>by rw [y j (by omega)]
   rw [this,u];simp
  ·rw [k1y (by omega)]
   have:q (b i)=1:=by
    simp only [q]
    rw [H,g0S hi]
    ·rw [k1B y,H];unfold k0k;rw [k1y (by omega),k1B rfl];rfl
    ·intro j hj G;rw [H];unfold k0k;rw [k1y G];simp
   rw [this];simp
 rw [h3,U,e2,Z] at I
 omega
theorem h0N {f:Nat->Int}:∀ {N:Nat},(∀ i,i < N->0<=f i)->0<=sm f N
 | 0,_=>by simp [sm]
 | N + 1,h=>by rw [sm];have:=h0N (fun i hi=>h i (by omega)) (N:=N) (f:=f);have:=h N (by omega);omega
theorem t0T {f:Nat->Int}:∀ {N:Nat},(∀ i,i < N->0<=f i)->sm f N<=0->∀ i,i < N->f i=0
 | 0,_,_=>fun i hi=>by omega
 | N + 1,h,h0=>fun i hi=>by
  rw [sm] at h0
  have e:=h0N (fun i hi=>h i (by omega)) (N:=N) (f:=f)
  have j:=h N (by omega)
  by_cases c:i=N
  ·rw [c];omega
  ·exact t0T (N:=N) (f:=f) (fun i hi=>h i (by omega)) (by omega) i (by omega)
theorem Tab.full (h:Tab m (2 * n + m) (i0m n m a bb cc) (fun i=>bb i < 0) T base d) (c:0<=T m (2 * n + m)):∀ i,i < m->¬ base i < 2 * n + m->T i (2 * n + m)=0:=by
 intro i hi hb
 rw [h.lack (k1x _)] at c
 have:=t0T (f:=fun i=>if base i < 2 * n + m then 0 else T i (2 * n + m)) (fun j e=>by split;exact Int.le_refl _;exact h.rhs j e) (by omega) i hi
 rw [k1y hb] at this;exact this
theorem z0E (h:Tab m (2 * n + m) (i0m n m a bb cc) (fun i=>bb i < 0) T base d) (ho:∀ c,c < 2 * n + m->0<=T m c) :
  (∀ i,i < m->0<=T m (2 * n + i))/\(∀ k,k < n->sm (fun i=>T m (2 * n + i) * a i k) m=0)/\sm (fun i=>T m (2 * n + i) * bb i) m=T m (2 * n + m):=by
 refine ⟨fun i hi=>ho _ (by omega),fun k q=>?_,?_⟩
 ·have e:=h.rows (k:=m) (c:=k) (by omega) (by omega)
  have j:=h.rows (k:=m) (c:=n + k) (by omega) (by omega)
  rw [k1y (by omega),Int.sub_zero] at e j
  have s:sm (fun i=>T m (2 * n + i) * e0z n m a bb i k) m=sm (fun i=>T m (2 * n + i) * a i k) m:=b0n fun i _=>by unfold e0z;rw [k1B q]
  have e2:sm (fun i=>T m (2 * n + i) * e0z n m a bb i (n + k)) m = -1 * sm (fun i=>T m (2 * n + i) * a i k) m:=by
   rw [<- f0m]
   exact b0n fun i _=>by unfold e0z;rw [k1y (by omega),k1B (by omega),show n + k - n=k by omega];grind
  have:=ho k (by omega)
  have:=ho (n + k) (by omega)
  omega
 ·have e:=h.rows (k:=m) (c:=2 * n + m) (by omega) (by omega)
  rw [k1y (by omega),Int.sub_zero] at e
  rw [e];exact b0n fun i _=>by rw [f0U]
theorem duals (h:Tab m (2 * n + m) (i0m n m a bb cc) (fun i=>bb i < 0) T base d) (ho:∀ c,c < 2 * n + m->0<=T (m + 1) c) :
  (∀ i,i < m->0<=T (m + 1) (2 * n + i))/\(∀ k,k < n->sm (fun i=>T (m + 1) (2 * n + i) * a i k) m=d * cc k)/\sm (fun i=>T (m + 1) (2 * n + i) * bb i) m=T (m + 1) (2 * n + m):=by
 refine ⟨fun i hi=>ho _ (by omega),fun k q=>?_,?_⟩
 ·have e:=h.rows (k:=m + 1) (c:=k) (by omega) (by omega)
  have j:=h.rows (k:=m + 1) (c:=n + k) (by omega) (by omega)
  rw [k1B rfl] at e j
  have v:sm (fun i=>T (m + 1) (2 * n + i) * e0z n m a bb i k) m=sm (fun i=>T (m + 1) (2 * n + i) * a i k) m:=b0n fun i _=>by unfold e0z;rw [k1B q]
  have e2:sm (fun i=>T (m + 1) (2 * n + i) * e0z n m a bb i (n + k)) m = -1 * sm (fun i=>T (m + 1) (2 * n + i) * a i k) m:=by
   rw [<- f0m]
   exact b0n fun i _=>by unfold e0z;rw [k1y (by omega),k1B (by omega),show n + k - n=k by omega];grind
  have s:cost n cc k=cc k:=by unfold cost;rw [k1B q]
  have u:cost n cc (n + k) = -cc k:=by unfold cost;rw [k1y (by omega),k1B (by omega),show n + k - n=k by omega]
  have:=ho k (by omega)
  have:=ho (n + k) (by omega)
  rw [s] at e
  rw [u,Int.mul_neg] at j
  omega
 ·have e:=h.rows (k:=m + 1) (c:=2 * n + m) (by omega) (by omega)
  rw [k1B rfl,e0q (by omega),m1L,Int.sub_zero] at e
  rw [e];exact b0n fun i _=>by rw [f0U]
def pt (n m:Nat) (base:Nat->Nat) (F:Nat->Int) (k:Nat):Int:=sm (fun i=>if base i=k then F i else if base i=n + k then -F i else 0) m
theorem K0u {f:Nat->Nat->Int} {M:Nat}:∀ {N:Nat},sm (fun i=>sm (fun j=>f i j) M) N=sm (fun j=>sm (fun i=>f i j) N) M
 | 0=>by simp only [sm];rw [e0N (fun _ _=>rfl)]
 | N + 1=>by simp only [sm];rw [K0u,<- t0S]
theorem C0N {F:Nat->Int} {w:Nat->Int} {W:Nat->Int} (s:∀ c,c < 2 * n->W c=if c < n then w c else -w (c - n)):sm (fun k=>w k * pt n m base F k) n=sm (fun i=>if base i < 2 * n then F i * W (base i) else 0) m:=by
 have q:sm (fun k=>w k * pt n m base F k) n=sm (fun k=>sm (fun i=>w k * (if base i=k then F i else if base i=n + k then -F i else 0)) m) n :=
  b0n fun k _=>by unfold pt;rw [f0m]
 rw [q,K0u]
 refine b0n fun i hi=>?_
 by_cases hb:base i < 2 * n
 ·rw [k1B hb,s _ hb]
  by_cases e:base i < n
  ·rw [k1B e,g0S e]
   ·rw [k1B rfl];grind
   ·intro k j h;rw [k1y (m1m h),k1y (by omega)];simp
  ·rw [k1y e,g0S (k:=base i - n) (by omega)]
   ·rw [k1y (by omega),k1B (by omega)];grind
   ·intro k j h;rw [k1y (by omega),k1y (by omega)];simp
 ·rw [k1y hb]
  exact e0N fun k j=>by rw [k1y (by omega),k1y (by omega)];simp
theorem Tab.colrow (h:Tab m (2 * n + m) (i0m n m a bb cc) (fun i=>bb i < 0) T base d) {c:Nat} (hc:c<=2 * n + m) (v:∀ i,i < m->¬ base i < 2 * n + m->T i c=0) :
  (∀ r,r < m->d * e0z n m a bb r c=sm (fun i=>if base i < 2 * n + m then T i c * e0z n m a bb r (base i) else 0) m) /\
  d * cost n cc c=sm (fun i=>if base i < 2 * n + m then T i c * cost n cc (base i) else 0) m - T (m + 1) c:=by
 obtain ⟨b,e,x,hb,z,y⟩:=h.inv
 refine ⟨fun r F=>?_,?_⟩
 ·have j:=x.col c hc r (by omega)
  have u:sm (fun i=>T i c * b i r) (m + 2)=sm (fun i=>T i c * b i r) m + T m c * b m r + T (m + 1) c * b (m + 1) r:=rfl
  rw [u,z,y] at j
  unfold k0k at j
  rw [k1y (by omega),k1y (by omega),e0V F,m1L,m1L,l1O,l1O] at j
  have s:sm (fun i=>T i c * b i r) m=sg bb r * sm (fun i=>if base i < 2 * n + m then T i c * e0z n m a bb r (base i) else 0) m:=by
   rw [<- f0m]
   refine b0n fun i hi=>?_
   rcases hb i hi with ⟨k,q⟩ | ⟨k,q,H⟩
   ·rw [k1B k,q r (by omega),e0V F];grind
   ·rw [k1y (by omega),v i hi (by omega)];simp
  rw [s] at j
  have G:sg bb r * (d * e0z n m a bb r c)=sg bb r * sm (fun i=>if base i < 2 * n + m then T i c * e0z n m a bb r (base i) else 0) m:=by rw [<- j];grind
  refine m1n ?_ G
  unfold sg;split <;> omega
 ·have j:=x.col c hc (m + 1) (by omega)
  have u:sm (fun i=>T i c * b i (m + 1)) (m + 2)=sm (fun i=>T i c * b i (m + 1)) m + T m c * b m (m + 1) + T (m + 1) c * b (m + 1) (m + 1):=rfl
  rw [u,z,y] at j
  unfold k0k at j
  rw [k1y (by omega),k1B rfl,f0b,m1L,Int.mul_one,l1O] at j
  have s:sm (fun i=>T i c * b i (m + 1)) m = -1 * sm (fun i=>if base i < 2 * n + m then T i c * cost n cc (base i) else 0) m:=by
   rw [<- f0m]
   refine b0n fun i hi=>?_
   rcases hb i hi with ⟨k,q⟩ | ⟨k,q,H⟩
   ·rw [k1B k,q (m + 1) (by omega),f0b];grind
   ·rw [k1y (by omega),v i hi (by omega)];simp
  rw [s,Int.mul_neg] at j
  omega
theorem x0u {r c:Nat} (h:c < 2 * n):e0z n m a bb r c=if c < n then a r c else -a r (c - n):=by
 unfold e0z;by_cases e:c < n
 ·rw [k1B e,k1B e]
 ·rw [k1y e,k1y e,k1B h]
theorem w0Z {c:Nat} (h:c < 2 * n):cost n cc c=if c < n then cc c else -cc (c - n):=by
 unfold cost;by_cases e:c < n
 ·rw [k1B e,k1B e]
 ·rw [k1y e,k1y e,k1B h]
theorem W0c {f g:Nat->Int} {N:Nat}:sm f N - sm g N=sm (fun i=>f i - g i) N:=by
 have:=y0N (a:=1) (b:=-1) (f:=f) (g:=g) (n:=N)
 have e:sm (fun i=>1 * f i + -1 * g i) N=sm (fun i=>f i - g i) N:=b0n fun i _=>by omega
 omega
theorem O0p (h:Tab m (2 * n + m) (i0m n m a bb cc) (fun i=>bb i < 0) T base d) (q:∀ i,i < m->¬ base i < 2 * n + m->T i (2 * n + m)=0) :
  (∀ r,r < m->sm (fun k=>a r k * pt n m base (fun i=>T i (2 * n + m)) k) n<=d * bb r)/\sm (fun k=>cc k * pt n m base (fun i=>T i (2 * n + m)) k) n=T (m + 1) (2 * n + m):=by
 obtain ⟨s,u⟩:=h.colrow (k1x _) q
 refine ⟨fun r v=>?_,?_⟩
 ·have j:=s r v
  rw [f0U] at j
  rw [C0N (W:=e0z n m a bb r) (fun c hc=>x0u hc),j]
  have x:0<=sm (fun i=>if base i < 2 * n + m then T i (2 * n + m) * e0z n m a bb r (base i) else 0) m - sm (fun i=>if base i < 2 * n then T i (2 * n + m) * e0z n m a bb r (base i) else 0) m:=by
   rw [W0c]
   refine h0N fun i hi=>?_
   by_cases hb:base i < 2 * n
   ·rw [k1B (by omega),k1B hb];omega
   ·rw [k1y hb]
    by_cases e:base i < 2 * n + m
    ·rw [k1B e]
     have:base i=2 * n + (base i - 2 * n):=by omega
     rw [this,c0P (by omega)]
     have:=h.rhs i hi
     split <;> omega
    ·rw [k1y e];omega
  omega
 ·rw [e0q (by omega),m1L] at u
  rw [C0N (W:=cost n cc) (fun c hc=>w0Z hc)]
  have:sm (fun i=>if base i < 2 * n + m then T i (2 * n + m) * cost n cc (base i) else 0) m=sm (fun i=>if base i < 2 * n then T i (2 * n + m) * cost n cc (base i) else 0) m:=by
   refine b0n fun i hi=>?_
   by_cases hb:base i < 2 * n
   ·rw [k1B (by omega),k1B hb]
   ·rw [k1y hb,e0q (by omega)];split <;> simp
  omega
def n0H (n m:Nat) (T:Nat->Nat->Int) (base:Nat->Nat) (d:Int) (j k:Nat):Int:=pt n m base (fun i=>-T i j) k + (if j=k then d else if j=n + k then -d else 0)
theorem K0b {w W:Nat->Int} {j:Nat} (s:∀ c,c < 2 * n->W c=if c < n then w c else -w (c - n)) :
  sm (fun k=>w k * n0H n m T base d j k) n = -sm (fun i=>if base i < 2 * n then T i j * W (base i) else 0) m + (if j < 2 * n then d * W j else 0):=by
 have v:sm (fun k=>w k * n0H n m T base d j k) n=sm (fun k=>w k * pt n m base (fun i=>-T i j) k) n + sm (fun k=>w k * (if j=k then d else if j=n + k then -d else 0)) n:=by
  rw [<- t0S];exact b0n fun k _=>by unfold n0H;grind
 rw [v,C0N s]
 congr 1
 ·have:sm (fun i=>if base i < 2 * n then -T i j * W (base i) else 0) m = -1 * sm (fun i=>if base i < 2 * n then T i j * W (base i) else 0) m:=by
   rw [<- f0m];exact b0n fun i _=>by split <;> grind
  omega
 ·by_cases q:j < 2 * n
  ·rw [k1B q,s j q]
   by_cases e:j < n
   ·rw [k1B e,g0S e]
    ·rw [k1B rfl];grind
    ·intro k u h;rw [k1y (m1m h),k1y (by omega)];simp
   ·rw [k1y e,g0S (k:=j - n) (by omega)]
    ·rw [k1y (by omega),k1B (by omega)];grind
    ·intro k u h;rw [k1y (by omega),k1y (by omega)];simp
  ·rw [k1y q]
   exact e0N fun k u=>by rw [k1y (by omega),k1y (by omega)];simp
theorem K0B (h:Tab m (2 * n + m) (i0m n m a bb cc) (fun i=>bb i < 0) T base d) {j:Nat} (J:j < 2 * n + m) (u:∀ i,i < m->T i j<=0) (v:∀ i,i < m->¬ base i < 2 * n + m->T i j=0) :
  (∀ r,r < m->sm (fun k=>a r k * n0H n m T base d j k) n<=0)/\sm (fun k=>cc k * n0H n m T base d j k) n = -T (m + 1) j:=by
 obtain ⟨x,y⟩:=h.colrow (c:=j) (by omega) v
 have I:=h.pos
 refine ⟨fun r z=>?_,?_⟩
 ·have F:=x r z
  rw [K0b (W:=e0z n m a bb r) (fun c hc=>x0u hc)]
  have G:sm (fun i=>if base i < 2 * n + m then T i j * e0z n m a bb r (base i) else 0) m - sm (fun i=>if base i < 2 * n then T i j * e0z n m a bb r (base i) else 0) m<=0:=by
   rw [W0c]
   have:0<=sm (fun i=>-1 * ((if base i < 2 * n + m then T i j * e0z n m a bb r (base i) else 0) - (if base i < 2 * n then T i j * e0z n m a bb r (base i) else 0))) m:=by
    refine h0N fun i hi=>?_
    by_cases hb:base i < 2 * n
    ·rw [k1B (by omega),k1B hb];omega
    ·rw [k1y hb]
     by_cases s:base i < 2 * n + m
     ·rw [k1B s]
      have:base i=2 * n + (base i - 2 * n):=by omega
      rw [this,c0P (by omega)]
      have:=u i hi
      split <;> omega
     ·rw [k1y s];omega
   rw [f0m] at this
   omega
  by_cases q:j < 2 * n
  ·rw [k1B q];omega
  ·rw [k1y q]
   have e:j=2 * n + (j - 2 * n):=by omega
   have H:0<=d * e0z n m a bb r j:=by
    rw [e,c0P (by omega)];split <;> omega
   omega
 ·rw [K0b (W:=cost n cc) (fun c hc=>w0Z hc)]
  have:sm (fun i=>if base i < 2 * n + m then T i j * cost n cc (base i) else 0) m=sm (fun i=>if base i < 2 * n then T i j * cost n cc (base i) else 0) m:=by
   refine b0n fun i hi=>?_
   by_cases hb:base i < 2 * n
   ·rw [k1B (by omega),k1B hb]
   ·rw [k1y hb,e0q (by omega)];split <;> simp
  by_cases q:j < 2 * n
  ·rw [k1B q];omega
  ·rw [k1y q]
   rw [e0q (by omega),m1L] at y
   omega
theorem C0P {C i j k c:Nat} (h:∀ c,c<=C->T k c=0) (e:k ≠ i) (hc:c<=C) (q:j<=C):pv T i j d k c=0:=by
 unfold pv;rw [k1y e,h c hc,h j q];simp
end Go.Proofs.YtilekhkgobmolaaGreat.SX
namespace Go.Proofs.YtilekhkgobmolaaGreat.AI
section
open Go SX
set_option maxRecDepth 4000
variable {fl:Nat} {H G:a0f} {R:a0D} {v w u:Value} {F:RK}
def Z0P (T:Nat->Nat->Int) (base:Nat->Nat) (C j i:Nat) (z:Int):Prop:=(z = -1/\∀ k,k < i->T k j<=0) ∨ ∃ o:Nat,z=o/\o < i/\w0G T base C j i o
theorem z0i (X Y:Int):(c0L X Y = -1/\X < Y) ∨ (c0L X Y=0/\X=Y) ∨ (c0L X Y=1/\Y < X):=by
 unfold c0L
 by_cases hA:X < Y
 ·exact .inl ⟨by rw [k1B hA],hA⟩
 ·by_cases hB:Y < X
  ·exact .inr (.inr ⟨by rw [k1y hA,k1B hB],hB⟩)
  ·exact .inr (.inl ⟨by rw [k1y hA,k1y hB],by omega⟩)
theorem u0M {f0 p n m j:Nat} {L:List (List Int)} {k D:Int} {bs:List Nat} {sR sD sB:Value} {vs:List Value} (h:e0R F f0 H p n m L D bs k sR sD sB vs) (hf:fl<=H.size) (hS:ShT n m L bs) (hz:∀ r c,lz (Tf L r c) < 67108864) (hj:j < 2 * n + m) (hm:m < 1048576) :
  a0O env fl (m0v F) [.pointer (some ⟨p,0,none⟩),.int .i64 (j:Int)] H (fun r H'=>(∃ z:Int,r=.int .i64 z/\Z0P (Tf L) (bf bs) (2 * n + m) j m z)/\Ext H H') R:=by
 refine a0i B0j hf (h:=?_)
 intro ρ h0
 have hL:=hS.len
 have hr:=hS.row
 have hb:=hS.base
 simp [f0Z,n0a,n0b,n0c,h0,h.bk]
 refine d0b (n:=m) (fun i ρ G=>ρ 0=.pointer (some ⟨p,0,none⟩)/\ρ 1=.int .i64 (j:Int)/\Ext H G/\∃ z,ρ 5=.int .i64 z/\Z0P (Tf L) (bf bs) (2 * n + m) j i z) rfl rfl (by decide) (by omega) (by simp) (by simp) ?_ ?_ ?_ ?_
 ·exact ⟨by simp [h0],by simp [h0],Ext.refl H,-1,by simp,.inl ⟨rfl,fun k hk=>by omega⟩⟩
 ·intro i ρ b9 G h hI;simpa [h] using hI
 ·clear h0 ρ
  rintro i ρ G hi N gn ⟨J,M,u,z,U,Z⟩
  have e:=h.mo u
  have q:i < L.length:=by omega
  have O:j < L[i].length:=by rw [hr i q];omega
  obtain ⟨w1,e1,f1⟩:=e.num q O
  have e0:=e.head q
  have eh:=e.hia q
  have ej:=e.ia q O
  have v:=e.bk
  obtain ⟨vi,I⟩:∃ x,x=vs[i]'(by have:=h.rows.len;omega):=⟨_,rfl⟩
  rw [<- I] at e0 ej e1
  simp [n0d,N]
  refine a0C ?_
  simp [n0e,J,M,N,v,eh,e0,ej,e1]
  refine (s0d f1 (by have:=u.1;omega) (hz _ _)).mo ?_
  rintro _ G2 ⟨rfl,a9⟩
  replace e:=e.mo a9
  replace u:=u.trans a9
  clear v e1 f1 ej
  by_cases hp:0 < Tf L i j
  ·have hc:c0L (Tf L i j) 0=1:=by unfold c0L;rw [k1y (by omega),k1B (by omega)]
   simp [hc,n0f,U]
   rcases Z with ⟨rfl,Z⟩ | ⟨o,rfl,ho,hB⟩
   ·simp [n0g]
    exact Rnd.mk (by simp [N]) (by simp [gn]) ⟨by simp [J],by simp [M],u,(i:Int),by simp,.inr ⟨i,rfl,by omega,w0G.one hp Z⟩⟩
   ·have s:o < L.length:=by omega
    have a7:j < L[o].length:=by rw [hr o s];omega
    have a5:2 * n + m < L[i].length:=by rw [hr i q];omega
    have a6:2 * n + m < L[o].length:=by rw [hr o s];omega
    obtain ⟨w1,a1,fa⟩:=e.num q a5
    obtain ⟨w2,a2,fb⟩:=e.num s a7
    obtain ⟨w3,a3,fc⟩:=e.num s a6
    obtain ⟨w4,a4,fd⟩:=e.num q O
    have ei:=e.head q
    have eo:=e.head s
    refine ⟨fun hh=>by omega,fun _=>?_⟩
    refine a0C ?_
    have iC:=e.ia q a5
    have oC:=e.ia s a6
    have eC:((2 * n + m:Nat):Int)=2 * (n:Int) + m:=by omega
    rw [eC] at iC oC
    have ij:=e.ia q O
    have oj:=e.ia s a7
    have b4:=e.hia q
    have b8:=e.hia s
    have v:=e.bk
    obtain ⟨vi,I⟩:∃ x,x=vs[i]'(by have:=h.rows.len;omega):=⟨_,rfl⟩
    obtain ⟨vo,a8⟩:∃ x,x=vs[o]'(by have:=h.rows.len;omega):=⟨_,rfl⟩
    rw [<- I] at ei ij iC a1 a4
    rw [<- a8] at eo oj oC a2 a3
    simp [n0h,J,M,U,v,b4,b8,ei,eo,ij,oj]
    simp [iC,a1]
    simp [oC,oj,ij,a2,a3,a4]
    refine (W0j fa fb fc fd (by have:=u.1;omega) (hz _ _) (hz _ _) (hz _ _) (hz _ _)).mo ?_
    rintro _ G3 ⟨rfl,b1⟩
    replace e:=e.mo b1
    replace u:=u.trans b1
    refine a0C ?_
    obtain ⟨hc,h1⟩ | ⟨hc,h1⟩ | ⟨hc,h1⟩:=z0i (Tf L i (2 * n + m) * Tf L o j) (Tf L o (2 * n + m) * Tf L i j)
    ·simp [hc,g0I]
     simp [h0G]
     exact Rnd.mk (by simp [N]) (by simp [gn]) ⟨by simp [J],by simp [M],u,(i:Int),by simp,.inr ⟨i,rfl,by omega,hB.take hp (.inl h1)⟩⟩
    ·obtain ⟨li,bi⟩:=e.base (show i < bs.length by omega)
     obtain ⟨lo,bo⟩:=e.base (show o < bs.length by omega)
     have v:=e.bk
     simp [hc,g0I,J,U,v,bi,bo,li,lo]
     by_cases a0:bf bs i < bf bs o
     ·have y:¬ bf bs o<=bf bs i:=by omega
      simp [a0,y,h0G]
      exact Rnd.mk (by simp [N]) (by simp [gn]) ⟨by simp [J],by simp [M],u,(i:Int),by simp,.inr ⟨i,rfl,by omega,hB.take hp (.inr ⟨h1,a0⟩)⟩⟩
     ·have y:bf bs o<=bf bs i:=by omega
      simp [a0,y]
      exact Rnd.mk (by simp [N]) (by simp [gn]) ⟨by simp [J],by simp [M],u,(o:Int),by simp [U],.inr ⟨o,rfl,by omega,hB.keep (.inr ⟨h1.symm,by omega⟩)⟩⟩
    ·simp [hc,g0I]
     exact Rnd.mk (by simp [N]) (by simp [gn]) ⟨by simp [J],by simp [M],u,(o:Int),by simp [U],.inr ⟨o,rfl,by omega,hB.keep (.inl h1)⟩⟩
  ·have hc:c0L (Tf L i j) 0<=0:=by unfold c0L;split <;> (try split) <;> omega
   simp [hc]
   refine Rnd.mk (by simp [N]) (by simp [gn]) ⟨by simp [J],by simp [M],u,z,by simp [U],?_⟩
   rcases Z with ⟨rfl,Z⟩ | ⟨o,rfl,ho,hB⟩
   ·refine .inl ⟨rfl,fun k hk=>?_⟩
    by_cases b5:k=i
    ·rw [b5];omega
    ·exact Z k (by omega)
   ·exact .inr ⟨o,rfl,by omega,hB.skip (by omega)⟩
 ·rintro ρ G N gn ⟨J,M,u,z,U,Z⟩
  simp [l0o,U]
  exact fun _=>Z
end
section
open Go SX
variable {fl:Nat} {H G:a0f} {R:a0D} {v w u:Value}
def pvt (T:Nat->Nat->Int) (i j:Nat) (D:Int) (r c:Nat):Int:=if r=i then T i c else (T r c * T i j - T r j * T i c).tdiv D
def pvu (T:Nat->Nat->Int) (i j:Nat) (D:Int) (k q r c:Nat):Int:=if r < k ∨ r=k/\c < q then pvt T i j D r c else T r c
theorem C0R {T:Nat->Nat->Int} {i j:Nat} {D:Int} {k W r c:Nat} (hc:c < W):pvu T i j D k W r c=pvu T i j D (k + 1) 0 r c:=by
 unfold pvu
 by_cases h:r < k ∨ r=k/\c < W
 ·rw [k1B h,k1B (by omega)]
 ·rw [k1y h,k1y (by omega)]
theorem u0k {E:Env} {bef:List Nat} {Z:b0c->a0f->Prop} {v:Value} {j:Nat} {t:b0c}:∀ {ops:List a0J} {i:Nat} {lg:Log},(List.range ops.length).all (fun k=>(bef.getD (i + k) 0).testBit j)=true->R v->WRP E fl bef [] Z R i ops t H (some (j,v)) lg
 | [],i,lg,_,h=>⟨rfl,h⟩
 | o :: r,i,lg,hb,h=>by
  have c:(bef.getD i 0).testBit j=true:=by
   have:=l1a.1 hb 0 (by simp)
   simpa using this
  show (if h0r bef i (some (j,v))=true then _ else _)
  rw [k1B (show h0r bef i (some (j,v))=true from c)]
  refine u0k ?_ h
  rw [l1a]
  intro k e
  have:=l1a.1 hb (k + 1) (by simp at e ⊢;omega)
  rwa [show i + (k + 1)=i + 1 + k by omega] at this
theorem B0M {E:Env} {bef:List Nat} {Z:b0c->a0f->Prop} {j i:Nat} {t:b0c} {ops:List a0J} {lg:Log} (hb:(List.range ops.length).all (fun k=>(bef.getD (i + k) 0).testBit j)=true) (h:r0f .few R):r0f .few (fun v=>WRP E fl bef [] Z R i ops t H (some (j,v)) lg):=u0k hb h
theorem o0r {p n m i j:Nat} {L:List (List Int)} {k D:Int} {bs:List Nat} {sR sD sB:Value} {vs:List Value} (h:e0R .few fl H p n m L D bs k sR sD sB vs) (hf:fl<=H.size) (hS:ShT n m L bs) (hz:∀ r c,lz (Tf L r c) < 67108864) (hD:lz D < 67108864) (d2:D ≠ 0) (hi:i < m) (hj:j < 2 * n + m) (hm:m < 1048576) (hn:n < 1048576) (hR:r0f .few R) :
  a0O env fl u0F [.pointer (some ⟨p,0,none⟩),.int .i64 (i:Int),.int .i64 (j:Int)] H (fun _ H'=>((∃ z d8,e0R .few fl H' p n m z (Tf L i j) (bs.set i j) (IntKind.i64.wrap (k + 1)) sR d8 sB vs/\ShT n m z (bs.set i j)/\∀ r c,r < m + 2->c < 2 * n + m + 1->Tf z r c=pvt (Tf L) i j D r c)/\Frm a0d d0N H H')/\g0d fl H H') R:=by
 refine m0r h1f hf (h:=?_)
 intro ρ h0
 have hL:=hS.len
 have hr:=hS.row
 have hb:=hS.base
 have a0:i < L.length:=by omega
 have c5:j < L[i].length:=by rw [hr i a0];omega
 have u:=h.bk
 rw [i0f] at u
 have a2:=a0k u
 have hlow:=h.low
 simp [N0f,G0F,h0,u,hlow,a2]
 generalize J:Array.setIfInBounds H p _=G1
 have U:∀ {e:Nat},a0d ≠ e->LxT e H G1:=fun a1=>b0f J u a1
 have v:e0R .few fl G1 p n m L D bs (IntKind.i64.wrap (k + 1)) sR sD sB vs:=⟨a0r J u,hlow,h.d,h.heads.lxm (U (by decide)) (fun _ _ h=>h),⟨h.rows.len,fun r hr=>(h.rows.own r hr).lxm (U (by decide)) (fun cs x F=>Z0z.lx _ _ _ _ (U (by decide)) F),h.rows.apart⟩,h.basis.lxm (U (by decide)) (fun _ _ h=>h)⟩
 have F:Frm a0d d0N H G1:=⟨by rw [<- J];simp,fun e he _ _=>U (m1m he)⟩
 clear J U
 obtain ⟨w6,e6,N⟩:=v.num a0 c5
 have eh:=v.head a0
 have c0:=v.hia a0
 have ij:=v.ia a0 c5
 have u:=v.bk
 rw [i0f] at u
 obtain ⟨vi,b8⟩:∃ x,x=vs[i]'(by have:=h.rows.len;omega):=⟨_,rfl⟩
 rw [<- b8] at eh ij e6
 simp only [RK.w,RK.b,RK.p_few] at ij e6
 refine a0C ?_
 simp [G0G,h0,u,c0,eh,ij,e6]
 have a8:=v.heads.sls.slen
 rw [v.rows.len] at a8
 simp [G0H,h0,u,a8]
 refine d0b (n:=L.length) (fun k' ρ G=>ρ 0=.pointer (some ⟨p,0,none⟩)/\ρ 1=.int .i64 (i:Int)/\ρ 2=.int .i64 (j:Int)/\ρ 6=w6/\ρ 7=vi/\ρ 39=sR/\Frm a0d d0N H G/\rV .few G w6 (Tf L i j) /\
   ∃ z,e0R .few fl G p n m z D bs (IntKind.i64.wrap (k + 1)) sR sD sB vs/\ShT n m z bs/\∀ r c,r < m + 2->c < 2 * n + m + 1->Tf z r c=pvu (Tf L) i j D k' 0 r c) rfl rfl (by decide) (by omega) (by simp) (by simp) ?_ ?_ ?_ ?_
 ·exact ⟨by simp [h0],by simp [h0],by simp [h0],by simp,by simp,by simp,F,N,L,v,hS,fun r c _ _=>by unfold pvu;rw [k1y (by omega)]⟩
 ·intro i ρ d9 G h hI;simpa [h] using hI
 ·clear h0 ρ v F N e6 eh c0 ij u a2 a8
  rintro q ρ G hq gi gn ⟨g0,Z,g2,g6,g7,I,F,N,z,v,s,hT⟩
  obtain ⟨vq,b1⟩:∃ x,x=vs[q]'(by have:=h.rows.len;clear v;omega):=⟨_,rfl⟩
  have y:q < z.length:=by rw [s.len];omega
  have eq:=v.head y
  have a3:=v.hia y
  rw [<- b1] at eq
  simp [G0I,gi,I,a3,eq]
  by_cases c2:q=i
  ·subst c2
   simp [v0N,Z]
   refine Rnd.mk (by simp [gi]) (by simp [gn]) ⟨by simp [g0],by simp [Z],by simp [g2],by simp [g6],by simp [g7],by simp [I],F,N,z,v,s,fun r c h1 h2=>?_⟩
   rw [hT r c h1 h2]
   unfold pvu
   by_cases d7:r=q
   ·subst d7;rw [k1y (by omega),k1B (by omega)];unfold pvt;rw [k1B rfl]
   ·by_cases a7:r < q
    ·rw [k1B (.inl a7),k1B (by omega)]
    ·rw [k1y (by omega),k1y (by omega)]
  ·have c7:¬ ((q:Int)=(i:Int)):=by omega
   have c1:j < z[q].length:=by rw [s.row q y];omega
   obtain ⟨d1,a5,M⟩:=v.num y c1
   have qj:=v.ia y c1
   have a9:=(v.rows.own q y).slen
   rw [s.row q y] at a9
   rw [<- b1] at qj a5 a9
   simp only [RK.w,RK.b,RK.p_few] at qj a5
   have b5:Tf z q j=Tf L q j:=by rw [hT q j (by omega) (by omega)];unfold pvu;rw [k1y (by omega)]
   rw [b5] at M
   simp [v0N,Z,c2,c7,G0J,G0K,g2,qj,a5,a9]
   obtain ⟨W,hW⟩:∃ W,W=2 * n + m + 1:=⟨_,rfl⟩
   have d5:(2 * (n:Int) + m + 1)=(W:Int):=by omega
   refine o0O (n:=W) (fun c ρ G=>ρ 0=.pointer (some ⟨p,0,none⟩)/\ρ 1=.int .i64 (i:Int)/\ρ 2=.int .i64 (j:Int)/\ρ 6=w6/\ρ 7=vi/\ρ 39=sR/\ρ 41=.int .i64 (q:Int)/\ρ 40=.int .i64 (L.length:Int)/\ρ 9=vq/\ρ 10=d1/\Frm a0d d0N H G/\rV .few G w6 (Tf L i j)/\rV .few G d1 (Tf L q j) /\
     ∃ z,e0R .few fl G p n m z D bs (IntKind.i64.wrap (k + 1)) sR sD sB vs/\ShT n m z bs/\∀ r c',r < m + 2->c' < 2 * n + m + 1->Tf z r c' = pvu (Tf L) i j D q c r c') rfl rfl (by decide) (by omega) (by simp) (by simp [d5]) ?_ ?_ ?_ ?_
   ·exact ⟨by simp [g0],by simp [Z],by simp [g2],by simp [g6],by simp [g7],by simp [I],by simp [gi],by simp [gn],by simp,by simp,F,N,M,z,v,s,hT⟩
   ·intro i ρ d9 G h hI;simpa [h] using hI
   ·clear g0 Z g2 g6 g7 I gi gn F N M v s hT a5 eq a3 qj a9 b5 y c1 z ρ G
    rintro c ρ G hc gc gw ⟨g0,Z,g2,g6,g7,I,gi,gn,g9,b9,F,N,M,z,v,s,hT⟩
    have y:q < z.length:=by rw [s.len];omega
    have O:i < z.length:=by rw [s.len];omega
    have a6:c < z[q].length:=by rw [s.row q y];omega
    have c3:c < z[i].length:=by rw [s.row i O];omega
    obtain ⟨wq,eq,fq⟩:=v.num y a6
    obtain ⟨wi,ei,fi⟩:=v.num O c3
    have qc:=v.ia y a6
    have ic:=v.ia O c3
    have tq:Tf z q c=Tf L q c:=by rw [hT q c (by omega) (by omega)];unfold pvu;rw [k1y (by omega)]
    have ti:Tf z i c=Tf L i c:=by
     rw [hT i c (by omega) (by omega)];unfold pvu;split
     ·unfold pvt;rw [k1B rfl]
     ·rfl
    rw [tq] at fq
    rw [ti] at fi
    have e1:=qc
    rw [<- b1] at qc eq
    rw [<- b8] at ic ei
    simp only [RK.w,RK.b,RK.p_few] at qc ic eq ei
    have u:=v.bk
    rw [i0f] at u
    have dv:=v.dv
    simp [G0L,gc]
    refine m0i ?_
    simp [y0k,g0,g6,g7,g9,b9,gc,u,qc,ic,eq,ei]
    have e0:=F.1
    have a3:=fun (R':a0D) (d4:r0f .few R')=>N0S (fl:=fl) (R:=R') fq N M fi dv (by omega) (hz _ _) (hz _ _) (hz _ _) (hz _ _) hD d2 d4
    refine a0O.mo (a3 _ (B0M rfl hR)) ?_
    clear a3
    rintro ws G3 ⟨fs,b4⟩
    obtain ⟨G4,a4,d3,c9,_⟩:=(v.mo b4).store (x:=(Tf L q c * Tf L i j - Tf L q j * Tf L i c).tdiv D) y a6 fs
    rw [<- b1] at a4
    simp only [RK.w,RK.b,RK.p_few] at a4
    have c6:Lx G3 G4:=c9.2 a0l (by decide) (by decide) (by decide)
    simp [g9,gc,qc,a4]
    refine Rnd.mk ?_ ?_ ?_
    ·simp [gc]
    ·simp [gw]
    refine ⟨by simp [g0],by simp [Z],by simp [g2],by simp [g6],by simp [g7],by simp [I],by simp [gi],by simp [gn],by simp [g9],by simp [b9],F.trans (b4.frm.trans c9),(N.mo b4).lx c6,(M.mo b4).lx c6,_,d3,s.set y,fun r c' h1 h2=>?_⟩
    rw [A0N s y a6,hT r c' h1 h2]
    unfold pvu
    by_cases c8:r=q/\c' = c
    ·obtain ⟨rfl,rfl⟩:=c8
     rw [k1B ⟨rfl,rfl⟩,k1B (by omega)]
     unfold pvt;rw [k1y c2]
    ·rw [k1y c8]
     by_cases a7:r < q ∨ r=q/\c' < c
     ·rw [k1B a7,k1B (by omega)]
     ·rw [k1y a7,k1y (by omega)]
   ·rintro ρ G gc gw ⟨g0,Z,g2,g6,g7,I,gi,gn,g9,b9,F,N,M,z,v,s,hT⟩
    simp
    refine Rnd.mk gi gn ⟨g0,Z,g2,g6,g7,I,F,N,z,v,s,fun r c h1 h2=>?_⟩
    rw [hT r c h1 h2,hW];exact C0R h2
 ·clear h0 ρ v F N e6 eh c0 ij u a2 a8
  rintro ρ G gi gn ⟨g0,Z,g2,g6,g7,I,F,N,z,v,s,hT⟩
  obtain ⟨rfl,fz⟩:=N
  have u:=v.bk
  rw [i0f] at u
  have a2:=a0k u
  have c4:i < bs.length:=by omega
  have ib:=(v.base c4).2
  have O:i < z.length:=by rw [s.len];omega
  simp [y0l,g0,Z,g2,g6,u,hlow,a2,ib]
  generalize J:Array.setIfInBounds G p _=G1
  have U:∀ {e:Nat},a0d ≠ e->LxT e G G1:=fun a1=>b0f J u a1
  obtain ⟨G2,a4,ho,d0⟩:=b0d.store (Q:=PK) (x:=j) (w:=.int .i64 (j:Int)) (v.basis.lxm (Q':=PK) (U (by decide)) (fun _ _ h=>h)) c4 (by decide) rfl rfl (fun _ _ _=>rfl) (by decide) (fun _ _ _ _ _ h=>h)
  have d6:=v.basis.lxm (Q':=PK) (G':=G1) (U (by decide)) (fun _ _ h=>h)
  have tb:∀ {e:Nat},e0L ≠ e->LxT e G1 G2:=fun a1=>d6.lxT a1 d0
  simp [a4]
  refine ⟨⟨z,⟨sD,⟨?_,hlow,fz,?_,?_,ho⟩⟩,⟨s.len,s.row,by simp [s.base]⟩,fun r c h1 h2=>?_⟩,F.trans ⟨k1H (by rw [<- J];simp) d0.1,fun e h1 h2 h3 b ro cs hb=>tb (m1m h3) b ro cs (U (m1m h1) b ro cs hb)⟩⟩
  ·have hw:=a0r J u
   exact tb (by decide) _ _ _ (by rw [i0f];simpa using hw)
  ·exact (v.heads.lxm (Q':=PV) (U (by decide)) (fun _ _ h=>h)).lxm (tb (by decide)) (fun _ _ h=>h)
  ·exact ⟨v.rows.len,fun r hr=>((v.rows.own r hr).lxm (Q':=PF) (U (by decide)) (fun cs x F=>Z0z.lx _ _ _ _ (U (by decide)) F)).lxm (tb (by decide)) (fun cs x F=>Z0z.lx _ _ _ _ (tb (by decide)) F),v.rows.apart⟩
  ·rw [hT r c h1 h2];unfold pvu;rw [k1B (by omega)]
theorem b0d.adr_blk {α:Type} {P:a0f->List Value->α->Prop} {e sz j:Nat} {v:Value} {l:List α} (h:b0d P fl G e sz v l) (y:j < l.length):∃ b,AI.blkOf (adr sz v j)=[b]/\b < G.size/\slB v=some b:=by
 obtain ⟨k,⟨q,⟨rfl,s⟩ | ⟨c,cap,rfl,hp,x⟩⟩,u⟩:=h
 ·omega
 ·exact ⟨c,rfl,a0k hp,rfl⟩
def Bx (G:a0f) (q:Nat) (z:Int):Prop:=∃ s,a0f.bk G q=.row false a0a [.bool (a0g z).1,s]/\Lim G s (a0g z).2
theorem Bx.mo {G':a0f} {q:Nat} {z:Int} (h:Bx G q z) (c:Ext G G'):Bx G' q z:=by obtain ⟨s,e,j⟩:=h;exact ⟨s,c.bk e,j.mo c⟩
theorem Bx.off {G':a0f} {q:Nat} {z:Int} {o:Option Nat} (h:Bx G q z) (k:d0o o G G') (j:Lx G G') (ho:o ≠ some q):Bx G' q z:=by
 obtain ⟨s,c,e⟩:=h;exact ⟨s,(k.2 q (a0k c) ho).trans c,e.lx j⟩
theorem o0g {p n m i j:Nat} {L:List (List Int)} {k D:Int} {bs:List Nat} {sR sD sB:Value} {vs:List Value} (h:e0R .all fl H p n m L D bs k sR sD sB vs) (hf:fl<=H.size) (hS:ShT n m L bs) (hz:∀ r c,lz (Tf L r c) < 67108864) (hD:lz D < 67108864) (e3:D ≠ 0) (hi:i < m) (hj:j < 2 * n + m) (hm:m < 1048576) (hn:n < 1048576) (hR:r0f .all R) :
  a0O env fl u0E [.pointer (some ⟨p,0,none⟩),.int .i64 (i:Int),.int .i64 (j:Int)] H (fun _ H'=>((∃ z f3,e0R .all fl H' p n m z (Tf L i j) (bs.set i j) (IntKind.i64.wrap (k + 1)) sR f3 sB vs/\ShT n m z (bs.set i j)/\∀ r c,r < m + 2->c < 2 * n + m + 1->Tf z r c=pvt (Tf L) i j D r c)/\Frm a0c a0a H H')/\g0d fl H H') R:=by
 refine m0r g1T hf (h:=?_)
 intro ρ h0
 have hL:=hS.len
 have hr:=hS.row
 have hb:=hS.base
 have a2:i < L.length:=by omega
 have d5:j < L[i].length:=by rw [hr i a2];omega
 have u:=h.bk
 rw [g0J] at u
 have a4:=a0k u
 have hlow:=h.low
 simp [M0V,F0D,h0,u,hlow,a4]
 generalize N:Array.setIfInBounds H p _=G1
 have U:∀ {e:Nat},a0c ≠ e->LxT e H G1:=fun a3=>b0f N u a3
 have s:e0R .all fl G1 p n m L D bs (IntKind.i64.wrap (k + 1)) sR sD sB vs:=⟨a0r N u,hlow,h.d.lx (U (by decide)),h.heads.lxm (U (by decide)) (fun _ _ h=>h),⟨h.rows.len,fun r hr=>(h.rows.own r hr).lxm (U (by decide)) (fun cs x F=>Z0y.lx _ _ _ _ (U (by decide)) F),h.rows.apart⟩,h.basis.lxm (U (by decide)) (fun _ _ h=>h)⟩
 have F:Frm a0c a0a H G1:=⟨by rw [<- N];simp,fun e he _ _=>U (m1m he)⟩
 clear N U
 obtain ⟨w6,e6,Z⟩:=s.num a2 d5
 have eh:=s.head a2
 have c8:=s.hia a2
 have ij:=s.ia a2 d5
 have u:=s.bk
 rw [g0J] at u
 obtain ⟨vi,c6⟩:∃ x,x=vs[i]'(by have:=h.rows.len;omega):=⟨_,rfl⟩
 rw [<- c6] at eh ij e6
 simp only [RK.w,RK.b,RK.p_all] at ij e6
 obtain ⟨bR,e8,f7,_⟩:=(s.heads).adr_blk (j:=i) (by have:=h.rows.len;omega)
 obtain ⟨s6,rfl,k6⟩:=Z
 have e9:fl<=G1.size:=k1H hf F.1
 have c5:=a0k u
 refine c0R ?_
 simp [F0E,h0,u,c8,eh,ij,e6,k6.cells,k6.plain,e9]
 generalize hN:Array.setIfInBounds (Array.push _ _) _ _=G2
 obtain ⟨I,b6⟩:=new1 hN
 clear hN
 have e2:∀ r (hr:r < vs.length),slB vs[r] ≠ some G1.size:=fun r f1 h5=>by
  have:=((s.rows.own r (by have:=s.rows.len;omega)).ge h5).2
  omega
 generalize f8:Array.size G1=P6 at *
 have c3:p ≠ P6:=by omega
 have c4:bR ≠ P6:=by omega
 replace s:=s.mo I
 replace F:=F.trans I.frm
 replace k6:=k6.mo I
 replace u:=s.bk
 rw [g0J] at u
 simp [e8,c3,c4,m1m c3,m1m c4]
 have b5:=s.heads.sls.slen
 rw [s.rows.len] at b5
 simp [F0F,h0,u,b5]
 refine d0b (n:=L.length) (fun k' ρ G=>ρ 0=.pointer (some ⟨p,0,none⟩)/\ρ 1=.int .i64 (i:Int)/\ρ 2=.int .i64 (j:Int)/\ρ 6=.pointer (some ⟨P6,0,none⟩)/\ρ 7=vi/\ρ 39=sR/\Frm a0c a0a H G/\Bx G P6 (Tf L i j) /\
   ∃ z,e0R .all fl G p n m z D bs (IntKind.i64.wrap (k + 1)) sR sD sB vs/\ShT n m z bs/\∀ r c,r < m + 2->c < 2 * n + m + 1->Tf z r c=pvu (Tf L) i j D k' 0 r c) rfl rfl (by decide) (by omega) (by simp) (by simp) ?_ ?_ ?_ ?_
 ·exact ⟨by simp [h0],by simp [h0],by simp [h0],by simp,by simp,by simp,F,⟨s6,b6,k6⟩,L,s,hS,fun r c _ _=>by unfold pvu;rw [k1y (by omega)]⟩
 ·intro i ρ f5 G h hI;simpa [h] using hI
 ·clear h0 ρ s F k6 b6 e6 eh c8 ij u a4 b5 I c5
  rintro q ρ G hq gi gn ⟨g0,g1,g2,g6,g7,M,F,Z,z,s,v,hT⟩
  obtain ⟨vq,a1⟩:∃ x,x=vs[q]'(by have:=h.rows.len;clear s;omega):=⟨_,rfl⟩
  have y:q < z.length:=by rw [v.len];omega
  have eq:=s.head y
  have a5:=s.hia y
  rw [<- a1] at eq
  simp [F0G,gi,M,a5,eq]
  by_cases d0:q=i
  ·subst d0
   simp [v0I,g1]
   refine Rnd.mk (by simp [gi]) (by simp [gn]) ⟨by simp [g0],by simp [g1],by simp [g2],by simp [g6],by simp [g7],by simp [M],F,Z,z,s,v,fun r c h1 h2=>?_⟩
   rw [hT r c h1 h2]
   unfold pvu
   by_cases f2:r=q
   ·subst f2;rw [k1y (by omega),k1B (by omega)];unfold pvt;rw [k1B rfl]
   ·by_cases b4:r < q
    ·rw [k1B (.inl b4),k1B (by omega)]
    ·rw [k1y (by omega),k1y (by omega)]
  ·have d7:¬ ((q:Int)=(i:Int)):=by omega
   have c9:j < z[q].length:=by rw [v.row q y];omega
   obtain ⟨g4,a9,J⟩:=s.num y c9
   have qj:=s.ia y c9
   have b8:=(s.rows.own q y).slen
   rw [v.row q y] at b8
   rw [<- a1] at qj a9 b8
   simp only [RK.w,RK.b,RK.p_all] at qj a9
   have c1:Tf z q j=Tf L q j:=by rw [hT q j (by omega) (by omega)];unfold pvu;rw [k1y (by omega)]
   rw [c1] at J
   obtain ⟨c0,rfl,O⟩:=J
   have c2:fl<=G.size:=k1H hf F.1
   simp [v0I,g1,d0,d7,F0H,g2,qj,a9,O.cells,O.plain,c2]
   generalize hN:Array.setIfInBounds (Array.push _ _) _ _=G2
   obtain ⟨I,a8⟩:=new1 hN
   clear hN
   have P10l:∀ r (hr:r < vs.length),slB vs[r] ≠ some G.size:=fun r f1 h5=>by
    have:=((s.rows.own r (by have:=s.rows.len;omega)).ge h5).2
    omega
   generalize d2:Array.size G=P10 at *
   replace s:=s.mo I
   replace F:=F.trans I.frm
   replace Z:=Z.mo I
   replace O:=O.mo I
   have J:Bx G2 P10 (Tf L q j):=⟨c0,a8,O⟩
   simp [F0I,b8]
   obtain ⟨W,hW⟩:∃ W,W=2 * n + m + 1:=⟨_,rfl⟩
   have e7:(2 * (n:Int) + m + 1)=(W:Int):=by omega
   refine o0O (n:=W) (fun c ρ G=>ρ 0=.pointer (some ⟨p,0,none⟩)/\ρ 1=.int .i64 (i:Int)/\ρ 2=.int .i64 (j:Int)/\ρ 6=.pointer (some ⟨P6,0,none⟩)/\ρ 7=vi/\ρ 39=sR/\ρ 41=.int .i64 (q:Int)/\ρ 40=.int .i64 (L.length:Int)/\ρ 9=vq/\ρ 10=.pointer (some ⟨P10,0,none⟩)/\Frm a0c a0a H G/\Bx G P6 (Tf L i j)/\Bx G P10 (Tf L q j) /\
     ∃ z,e0R .all fl G p n m z D bs (IntKind.i64.wrap (k + 1)) sR sD sB vs/\ShT n m z bs/\∀ r c',r < m + 2->c' < 2 * n + m + 1->Tf z r c' = pvu (Tf L) i j D q c r c') rfl rfl (by decide) (by omega) (by simp) (by simp [e7]) ?_ ?_ ?_ ?_
   ·exact ⟨by simp [g0],by simp [g1],by simp [g2],by simp [g6],by simp [g7],by simp [M],by simp [gi],by simp [gn],by simp,by simp,F,Z,J,z,s,v,hT⟩
   ·intro i ρ f5 G h hI;simpa [h] using hI
   ·clear g0 g1 g2 g6 g7 M gi gn F Z J s v hT a9 eq a5 qj b8 c1 y c9 O a8 I c2 d2 z ρ G
    rintro c ρ G hc gc gw ⟨g0,g1,g2,g6,g7,M,gi,gn,g9,c7,F,Z,J,z,s,v,hT⟩
    have y:q < z.length:=by rw [v.len];omega
    have a0:i < z.length:=by rw [v.len];omega
    have b1:c < z[q].length:=by rw [v.row q y];omega
    have d3:c < z[i].length:=by rw [v.row i a0];omega
    obtain ⟨wq,eq,fq⟩:=s.num y b1
    obtain ⟨wi,ei,fi⟩:=s.num a0 d3
    have qc:=s.ia y b1
    have ic:=s.ia a0 d3
    have tq:Tf z q c=Tf L q c:=by rw [hT q c (by omega) (by omega)];unfold pvu;rw [k1y (by omega)]
    have ti:Tf z i c=Tf L i c:=by
     rw [hT i c (by omega) (by omega)];unfold pvu;split
     ·unfold pvt;rw [k1B rfl]
     ·rfl
    rw [tq] at fq
    rw [ti] at fi
    have g3:=qc
    rw [<- a1] at qc eq
    rw [<- c6] at ic ei
    simp only [RK.w,RK.b,RK.p_all] at qc ic eq ei
    have u:=s.bk
    rw [g0J] at u
    have dv:=s.dv
    obtain ⟨s6,b6,k6⟩:=id Z
    obtain ⟨c0,a8,O⟩:=id J
    have v6:rV .all G (.agg #[.bool (a0g (Tf L i j)).1,s6]) (Tf L i j):=⟨s6,rfl,k6⟩
    have f4:rV .all G (.agg #[.bool (a0g (Tf L q j)).1,c0]) (Tf L q j):=⟨c0,rfl,O⟩
    simp [F0J,gc]
    refine m0i ?_
    simp [y0c,g0,g6,g7,g9,c7,gc,u,qc,ic,eq,ei,b6,a8]
    have f9:=F.1
    have a5:=fun (R':a0D) (e5:r0f .all R')=>N0S (fl:=fl) (R:=R') fq v6 f4 fi dv (by omega) (hz _ _) (hz _ _) (hz _ _) (hz _ _) hD e3 e5
    refine a0O.mo (a5 _ trivial) ?_
    clear a5
    rintro ws G3 ⟨fs,b9⟩
    obtain ⟨G4,a6,e4,e0,a7⟩:=(s.mo b9).store (x:=(Tf L q c * Tf L i j - Tf L q j * Tf L i c).tdiv D) y b1 fs
    rw [<- a1] at a6 a7
    simp only [RK.w,RK.b,RK.p_all] at a6
    have d9:slB vq ≠ some P6:=by rw [a1];exact e2 q (by have:=h.rows.len;omega)
    have d1:slB vq ≠ some P10:=by rw [a1];exact P10l q (by have:=h.rows.len;omega)
    have d6:Lx G3 G4:=e0.2 a0l (by decide) (by decide) (by decide)
    simp [g9,gc,qc,a6]
    refine Rnd.mk ?_ ?_ ?_
    ·simp [gc]
    ·simp [gw]
    refine ⟨by simp [g0],by simp [g1],by simp [g2],by simp [g6],by simp [g7],by simp [M],by simp [gi],by simp [gn],by simp [g9],by simp [c7],F.trans (b9.frm.trans e0),(Z.mo b9).off a7 d6 d9,(J.mo b9).off a7 d6 d1,_,e4,v.set y,fun r c' h1 h2=>?_⟩
    rw [A0N v y b1,hT r c' h1 h2]
    unfold pvu
    by_cases d8:r=q/\c' = c
    ·obtain ⟨rfl,rfl⟩:=d8
     rw [k1B ⟨rfl,rfl⟩,k1B (by omega)]
     unfold pvt;rw [k1y d0]
    ·rw [k1y d8]
     by_cases b4:r < q ∨ r=q/\c' < c
     ·rw [k1B b4,k1B (by omega)]
     ·rw [k1y b4,k1y (by omega)]
   ·rintro ρ G gc gw ⟨g0,g1,g2,g6,g7,M,gi,gn,g9,c7,F,Z,J,z,s,v,hT⟩
    simp
    refine Rnd.mk gi gn ⟨g0,g1,g2,g6,g7,M,F,Z,z,s,v,fun r c h1 h2=>?_⟩
    rw [hT r c h1 h2,hW];exact C0R h2
 ·clear h0 ρ s F k6 b6 e6 eh c8 ij u a4 b5 I c5
  rintro ρ G gi gn ⟨g0,g1,g2,g6,g7,M,F,Z,z,s,v,hT⟩
  obtain ⟨s6,b6,k6⟩:=Z
  have u:=s.bk
  rw [g0J] at u
  have a4:=a0k u
  have d4:i < bs.length:=by omega
  have ib:=(s.base d4).2
  have a0:i < z.length:=by rw [v.len];omega
  refine a0C ?_
  simp [y0d,g0,g1,g2,g6,u,hlow,a4,ib,b6,k6.cells,k6.plain]
  generalize N:Array.setIfInBounds G p _=G1
  have U:∀ {e:Nat},a0c ≠ e->LxT e G G1:=fun a3=>b0f N u a3
  obtain ⟨G2,a6,ho,e1⟩:=b0d.store (Q:=PK) (x:=j) (w:=.int .i64 (j:Int)) (s.basis.lxm (Q':=PK) (U (by decide)) (fun _ _ h=>h)) d4 (by decide) rfl rfl (fun _ _ _=>rfl) (by decide) (fun _ _ _ _ _ h=>h)
  have f0:=s.basis.lxm (Q':=PK) (G':=G1) (U (by decide)) (fun _ _ h=>h)
  have tb:∀ {e:Nat},e0L ≠ e->LxT e G1 G2:=fun a3=>f0.lxT a3 e1
  simp [a6]
  refine ⟨⟨z,⟨s6,⟨?_,hlow,(k6.lx (U (by decide))).lx (tb (by decide)),?_,?_,ho⟩⟩,⟨v.len,v.row,by simp [v.base]⟩,fun r c h1 h2=>?_⟩,F.trans ⟨k1H (by rw [<- N];simp) e1.1,fun e h1 h2 h3 b ro cs hb=>tb (m1m h3) b ro cs (U (m1m h1) b ro cs hb)⟩⟩
  ·have hw:=a0r N u
   exact tb (by decide) _ _ _ (by rw [g0J];simpa using hw)
  ·exact (s.heads.lxm (Q':=PV) (U (by decide)) (fun _ _ h=>h)).lxm (tb (by decide)) (fun _ _ h=>h)
  ·exact ⟨s.rows.len,fun r hr=>((s.rows.own r hr).lxm (Q':=PI) (U (by decide)) (fun cs x F=>Z0y.lx _ _ _ _ (U (by decide)) F)).lxm (tb (by decide)) (fun cs x F=>Z0y.lx _ _ _ _ (tb (by decide)) F),s.rows.apart⟩
  ·rw [hT r c h1 h2];unfold pvu;rw [k1B (by omega)]
theorem k0J {F:RK} {p n m i j:Nat} {L:List (List Int)} {k D:Int} {bs:List Nat} {sR sD sB:Value} {vs:List Value} (h:e0R F fl H p n m L D bs k sR sD sB vs) (x:fl<=H.size) (v:ShT n m L bs) (I:∀ r c,lz (Tf L r c) < 67108864) (u:lz D < 67108864) (e:D ≠ 0) (hi:i < m) (y:j < 2 * n + m) (z:m < 1048576) (G:n < 1048576) (hR:r0f F R) :
  a0O env fl (F.p u0F u0E) [.pointer (some ⟨p,0,none⟩),.int .i64 (i:Int),.int .i64 (j:Int)] H (fun _ H'=>((∃ q s,e0R F fl H' p n m q (Tf L i j) (bs.set i j) (IntKind.i64.wrap (k + 1)) sR s sB vs/\ShT n m q (bs.set i j)/\∀ r c,r < m + 2->c < 2 * n + m + 1->Tf q r c=pvt (Tf L) i j D r c)/\Frm F.T F.E H H')/\g0d fl H H') R:=by
 cases F
 ·exact o0r h x v I u e hi y z G hR
 ·exact o0g h x v I u e hi y z G hR
end
section
open Go SX
variable {fl:Nat} {H G:a0f} {R:a0D} {v w u:Value} {F:RK}
theorem W0r {c:SCode} {i:Nat} {t:b0c} {Q:e0c} (I:Nat->b0c->a0f->Prop) (M:b0c->a0f->Prop) (k:Nat) (e:I k t H)
  (step:∀ k t H,I k t H->W env fl c t H (m0G i (fun t' H'=>∃ k',k' < k/\I k' t' H') M Q) R)
  (rest:∀ t H,M t H->Q .normal t H):W env fl (.loop c) t H (f0g i Q) R:=by
 rw [<- k0V (Q:=Q)]
 refine b0U (Z:=fun t H=>Q .normal t H) (Q:=Q) I M k e step rest
theorem O0q {m C:Nat} {A T:Nat->Nat->Int} {neg:Nat->Prop} {base:Nat->Nat} {d:Int} (h:Tab m C A neg T base d) {i j r c:Nat} (hi:i < m) (k:j<=C) (hp:T i j ≠ 0) (q:r < m + 2) (hc:c<=C):pvt T i j d r c=pv T i j d r c:=by
 unfold pvt
 by_cases e:r=i
 ·rw [k1B e];unfold pv;rw [k1B e]
 ·rw [k1y e,h.exact hi k hp q hc e,Int.mul_tdiv_cancel_left _ (by have:=h.pos;omega)]
theorem A0Y {bs:List Nat} {i j k:Nat} (hi:i < bs.length):bf (bs.set i j) k=if k=i then j else bf bs k:=by
 unfold bf
 simp only [k1v,l1g]
 by_cases h:i=k
 ·subst h;simp [hi]
 ·rw [k1y h,k1y (fun c=>h c.symm)]
theorem Z0S {n m r c:Nat} {L:List (List Int)} {bs:List Nat} (h:ShT n m L bs) (ho:¬ (r < m + 2/\c<=2 * n + m)):Tf L r c=0:=by
 unfold Tf
 by_cases j:r < L.length
 ·have:=h.row r j
  have:=h.len
  rw [k1v,k1v,k1A j,l1d,k1G (by omega)];rfl
 ·have e:L.getD r []=[]:=by rw [k1v,k1G (by omega)];rfl
  rw [e];rfl
theorem X0r {n m:Nat} {L:List (List Int)} {bs:List Nat} (h:ShT n m L bs) (hb:∀ r c,r < m + 2->c<=2 * n + m->lz (Tf L r c) < 67108864) (r c:Nat):lz (Tf L r c) < 67108864:=by
 by_cases ho:r < m + 2/\c<=2 * n + m
 ·exact hb r c ho.1 ho.2
 ·rw [Z0S h ho,c0v];decide
def Zr (m C:Nat) (T:Nat->Nat->Int) (base:Nat->Nat):Prop:=∀ i,i < m->¬ base i < C->∀ c,c<=C->T i c=0
theorem Zr.pivot {m C:Nat} {A T T':Nat->Nat->Int} {base base':Nat->Nat} {d:Int} {i j:Nat} (h:Zr m C T base) (hi:i < m) (v:j < C) (hT:∀ k c,k < m + 2->c<=C->T' k c=pv T i j d k c) (hb:∀ k,k < m->base' k=if k=i then j else base k):Zr m C T' base':=by
 intro r s u c hc
 have q:=hb r s
 by_cases e:r=i
 ·rw [k1B e] at q;omega
 ·rw [k1y e] at q
  rw [hT r c (by omega) hc]
  exact C0P (C:=C) (fun c hc=>h r s (by omega) c hc) e hc (by omega)
def Bnd (m C:Nat) (A:Nat->Nat->Int) (neg:Nat->Prop):Prop:=∀ T base d,Tab m C A neg T base d->(∀ r c,r < m + 2->c<=C->lz (T r c) < 67108864)/\lz d < 67108864
def h1W (F:RK) (fl p n m g:Nat) (L:List (List Int)) (bs:List Nat) (sR sB:Value) (vs:List Value) (A:Nat->Nat->Int) (neg:Nat->Prop) (H:a0f) (z:Int) (H':a0f):Prop :=
 ∃ L' D' bs' k' sD',e0R F fl H' p n m L' D' bs' k' sR sD' sB vs/\ShT n m L' bs'/\Tab m (2 * n + m) A neg (Tf L') (bf bs') D'/\(Zr m (2 * n + m) (Tf L) (bf bs)->Zr m (2 * n + m) (Tf L') (bf bs'))/\Frm F.T F.E H H' /\
   ((z = -1/\∀ c,c < 2 * n + m->0<=Tf L' g c) ∨ (∃ j:Nat,z=j/\j < 2 * n + m/\Tf L' g j < 0/\∀ i,i < m->Tf L' i j<=0))
def h1V (F:RK) (fl p n m g:Nat) (L:List (List Int)) (bs:List Nat) (sR sB:Value) (vs:List Value) (A:Nat->Nat->Int) (neg:Nat->Prop) (H:a0f) (c:Nat) (t:b0c) (G:a0f):Prop :=
 ∃ N ρ L' D' bs' k' sD',t=T 50 ρ/\N + c=((2 * n + m) + m) ^ m/\ρ 0=.pointer (some ⟨p,0,none⟩)/\ρ 1=.int .i64 (g:Int)/\Frm F.T F.E H G/\e0R F fl G p n m L' D' bs' k' sR sD' sB vs/\ShT n m L' bs'/\SX.Reach m (2 * n + m) g A neg N (Tf L') (bf bs') D'/\(Zr m (2 * n + m) (Tf L) (bf bs)->Zr m (2 * n + m) (Tf L') (bf bs'))
theorem y0L {p n m g:Nat} {L:List (List Int)} {k D:Int} {bs:List Nat} {sR sD sB:Value} {vs:List Value} {A:Nat->Nat->Int} {neg:Nat->Prop} (h:e0R F fl H p n m L D bs k sR sD sB vs) (hf:fl<=H.size) (hS:ShT n m L bs) (hT:Tab m (2 * n + m) A neg (Tf L) (bf bs) D) (a3:Bnd m (2 * n + m) A neg) (hg:g=m ∨ g=m + 1) (hm:m < 1048576) (hn:n < 1048576) (hR:r0f F R) :
  a0O env fl (x0d F) [.pointer (some ⟨p,0,none⟩),.int .i64 (g:Int)] H (fun r H'=>(∃ z,r=.int .i64 z/\h1W F fl p n m g L bs sR sB vs A neg H z H')/\g0d fl H H') R:=by
 refine m0r a1C hf (h:=?_)
 intro ρ h0
 simp [p0U,x0K,h0]
 refine W0r (h1V F fl p n m g L bs sR sB vs A neg H)
  (fun _ _=>False) (((2 * n + m) + m) ^ m) ⟨0,_,L,D,bs,k,sD,rfl,by omega,by simp [h0],by simp [h0],Frm.refl,h,hS,SX.Reach.zero hT,id⟩ ?_ (fun _ _ h=>k1Q h id)
 clear h0 ρ
 rintro c _ G0 ⟨N,ρ,J,D',a0,k',a9,rfl,hN,y,M,hx,hG,v,a1,hZ⟩
 have s:=a1.tab
 have b1:=a1.short hg
 have hz:=X0r v (a3 _ _ _ s).1
 have c0:=(a3 _ _ _ s).2
 simp [x0L]
 refine b0U (fun c t G=>∃ q ρ,t=T 50 ρ/\q + c=2 * n + m/\ρ 0=.pointer (some ⟨p,0,none⟩)/\ρ 1=.int .i64 (g:Int)/\ρ 5=.int .i64 (q:Int)/\Ext G0 G/\∀ c',c' < q->0<=Tf J g c')
  (fun t G=>∃ (q:Nat) (ρ:Nat->Value),t=T 50 ρ/\q<=2 * n + m/\ρ 0=.pointer (some ⟨p,0,none⟩)/\ρ 1=.int .i64 (g:Int)/\ρ 5=.int .i64 (q:Int)/\Ext G0 G/\(∀ c',c' < q->0<=Tf J g c')/\(q < 2 * n + m->Tf J g q < 0)) (2 * n + m) ⟨0,_,rfl,by omega,by simp [y],by simp [M],by simp,Ext.refl G0,fun c' h=>by omega⟩ ?_ ?_
 ·clear y M ρ
  rintro c _ G ⟨q,ρ,rfl,hq,y,M,g5,u,hpre⟩
  have j:=hG.mo u
  have U:g < J.length:=by rw [v.len];omega
  have O:=j.bk
  have hsz:fl<=G.size:=by have:=hx.1;have:=u.1;omega
  have e2:((2 * n + m:Nat):Int)=2 * (n:Int) + m:=by omega
  by_cases a8:q < 2 * n + m
  ·have a7:q < J[g].length:=by rw [v.row g U];omega
   obtain ⟨w1,e1,f1⟩:=j.num U a7
   have eh:=j.head U
   have b9:=j.hia U
   have gq:=j.ia U a7
   obtain ⟨vg,c2⟩:∃ x,x=vs[g]'(by have:=hG.rows.len;omega):=⟨_,rfl⟩
   rw [<- c2] at eh gq e1
   have e:(q:Int) < 2 * (n:Int) + m:=by omega
   simp
   refine a0C ?_
   simp [r0c,y,M,g5,O,b9,eh,gq,e1,e]
   refine (s0d f1 hsz (hz _ _)).mo ?_
   rintro _ G2 ⟨rfl,Z⟩
   by_cases hs:0<=Tf J g q
   ·have hc:0<=c0L (Tf J g q) 0:=by unfold c0L;rw [k1y (by omega)];split <;> omega
    simp [hc,x0M,g5,b0z (show q < 4611686018427387904 by omega)]
    refine ⟨c - 1,by omega,q + 1,_,rfl,by omega,by simp [y],by simp [M],by simp,u.trans Z,fun c' h=>?_⟩
    by_cases h2:c' = q
    ·rw [h2];exact hs
    ·exact hpre c' (by omega)
   ·have hc:¬ 0<=c0L (Tf J g q) 0:=by unfold c0L;rw [k1B (by omega)];omega
    simp [hc]
    exact ⟨q,_,rfl,by omega,by simp [y],by simp [M],by simp [g5],u.trans Z,hpre,fun _=>by omega⟩
  ·have e:¬ (q:Int) < 2 * (n:Int) + m:=by omega
   simp
   refine a0C ?_
   simp [r0c,y,M,g5,O,e]
   exact ⟨q,_,rfl,by omega,by simp [y],by simp [M],by simp [g5],u,hpre,fun h=>k1Q h a8⟩
 ·clear y M ρ
  rintro _ G ⟨q,ρ,rfl,hq,y,M,g5,u,hpre,I⟩
  have j:=hG.mo u
  have O:=j.bk
  have hsz:fl<=G.size:=by have:=hx.1;have:=u.1;omega
  have e2:((2 * n + m:Nat):Int)=2 * (n:Int) + m:=by omega
  replace hx:=hx.trans u.frm
  by_cases a8:q=2 * n + m
  ·have e:(q:Int)=2 * (n:Int) + m:=by omega
   simp [r0d,x0N,y,g5,O,e]
   exact ⟨J,D',a0,k',a9,j,v,s,hZ,hx,.inl ⟨rfl,fun c hc=>hpre c (by omega)⟩⟩
  ·have e:¬ (q:Int)=2 * (n:Int) + m:=by omega
   replace I:=I (by omega)
   simp [r0d,y,g5,O,e,x0O]
   refine (u0M j hsz v hz (show q < 2 * n + m by omega) hm).mo ?_
   rintro _ G2 ⟨⟨z,rfl,a2⟩,Z⟩
   have a4:=j.mo Z
   replace hx:=hx.trans Z.frm
   rcases a2 with ⟨rfl,a2⟩ | ⟨o,rfl,ho,hB⟩
   ·simp [r0e,x0P,g5]
    exact ⟨J,D',a0,k',a9,a4,v,s,hZ,hx,.inr ⟨q,rfl,by omega,I,a2⟩⟩
   ·have c1:¬ (o:Int) < 0:=by omega
    simp [r0e,x0Q,y,g5,c1]
    refine (k0J a4 (by have:=hx.1;omega) v hz c0 (by have:=s.pos;omega) ho (show q < 2 * n + m by omega) hm hn hR).mo ?_
    rintro _ G3 ⟨⟨⟨L2,c5,b4,b5,b8⟩,c3⟩,_⟩
    have hp:Tf J o q ≠ 0:=by have:=hB.2.1;omega
    have a5:∀ r c,r < m + 2->c<=2 * n + m->Tf L2 r c=pv (Tf J) o q D' r c:=fun r c h1 h2=>by
     rw [b8 r c h1 (by omega)];exact O0q s ho (by omega) hp h1 h2
    have a6:∀ r,r < m->bf (a0.set o q) r=if r=o then q else bf a0 r:=fun r hr=>A0Y (by rw [v.base];exact ho)
    simp
    exact ⟨c - 1,by omega,N + 1,_,L2,_,_,_,c5,rfl,by omega,by simp [y],by simp [M],hx.trans c3,b4,b5,SX.Reach.step hg a1 (by omega) I hpre hB a5 a6 rfl,fun c4=>(hZ c4).pivot (A:=A) ho (by omega) a5 a6⟩
theorem b1R {T:Nat->Nat->Int} {i j r c:Nat} {d:Int} (k:0 < d) (h:r ≠ i->T r c * T i j - T r j * T i c=d * pv T i j d r c):pvt T i j d r c=pv T i j d r c:=by
 unfold pvt
 by_cases e:r=i
 ·rw [k1B e];unfold pv;rw [k1B e]
 ·rw [k1y e,h e,Int.mul_tdiv_cancel_left _ (by omega)]
theorem C0Q {T T':Nat->Nat->Int} {i j r c:Nat} {d:Int} (e:T r c=T' r c) (h:T i j=T' i j) (k:T r j=T' r j) (q:T i c=T' i c):pvt T i j d r c=pvt T' i j d r c:=by
 unfold pvt;rw [e,h,k,q]
def Nr (m C i:Nat) (T:Nat->Nat->Int) (base:Nat->Nat):Prop:=(∀ r,r < m->¬ base r < C->T r C=0)/\∀ r,r < i->r < m->¬ base r < C->∀ c,c<=C->T r c=0
theorem Nr.step {m C i j:Nat} {T u T':Nat->Nat->Int} {base base':Nat->Nat} {d:Int} (h:Nr m C i T base) (hi:i < m) (F:j < C) (x:∀ r c,r ≠ i->r < m->c<=C->u r c=T r c) (y:u i C=0)
  (hT:∀ k c,k < m + 2->c<=C->T' k c=pv u i j d k c) (hb:∀ k,k < m->base' k=if k=i then j else base k):Nr m C (i + 1) T' base':=by
 refine ⟨fun r s v=>?_,fun r z s v c hc=>?_⟩
 ·have q:=hb r s
  by_cases e:r=i
  ·rw [k1B e] at q;omega
  ·rw [k1y e] at q
   rw [hT r C (by omega) (k1x _)]
   unfold pv
   rw [k1y e,x r C e s (k1x _),h.1 r s (by omega),y];simp
 ·have q:=hb r s
  by_cases e:r=i
  ·rw [k1B e] at q;omega
  ·rw [k1y e] at q
   rw [hT r c (by omega) hc]
   exact C0P (C:=C) (fun c hc=>by rw [x r c e s hc];exact h.2 r (by omega) s (by omega) c hc) e hc (by omega)
theorem h1P {ρ:Nat->Value} {c:Nat} {v y:Value} {z:Int} {Q:b0c->a0f->Prop} (h:ρ 59=v) (H:ρ 61=.int .i64 (c:Int)) (u:iaV F.w v (.int .i64 (c:Int))=some (adr F.w v c)) (s:b0v G F.b F.w (adr F.w v c)=some y) (L:rV F G y z) (N:fl<=G.size)
  (j:∀ e q,Ext G q->kpV F q (e 6)=some y->e 5=.int .i64 (c:Int)->(∀ k,k ∈ [0,2,3,10,11,30,59,60,61]->e k=ρ k)->Q (T 89 e) q):WR env fl (j0X F) (T 89 ρ) G Q R:=by
 cases F
 ·simp only [RK.w,RK.b,RK.p_few] at u s
  simp [j0X,h,H,u,s]
  exact j _ _ (Ext.refl _) (by simp [kpV]) (by simp) (by simp)
 ·simp only [RK.w,RK.b,RK.p_all] at u s
  obtain ⟨O,rfl,I⟩:=L
  simp [j0X,h,H,u,s,I.cells,I.plain,N]
  generalize M:Array.setIfInBounds (Array.push _ _) _ _=q
  obtain ⟨x,J⟩:=new1 M
  exact j _ _ x (by simp [kpV,J]) (by simp) (by simp)
def h1U (F:RK) (fl p n m:Nat) (sR sB:Value) (vs:List Value) (A:Nat->Nat->Int) (neg:Nat->Prop) (H H':a0f):Prop :=
 ∃ L' D' bs' k' sD',e0R F fl H' p n m L' D' bs' k' sR sD' sB vs/\ShT n m L' bs'/\Tab m (2 * n + m) A neg (Tf L') (bf bs') D'/\Frm F.T F.E H H'/\Zr m (2 * n + m) (Tf L') (bf bs')
def b1U (F:RK) (fl p n m:Nat) (sR sB:Value) (vs:List Value) (A:Nat->Nat->Int) (neg:Nat->Prop) (H:a0f) (i:Nat) (ρ:Nat->Value) (G:a0f):Prop :=
 ρ 0=.pointer (some ⟨p,0,none⟩)/\∃ L' D' bs' k' sD',e0R F fl G p n m L' D' bs' k' sR sD' sB vs/\ShT n m L' bs'/\Tab m (2 * n + m) A neg (Tf L') (bf bs') D'/\Frm F.T F.E H G/\Nr m (2 * n + m) i (Tf L') (bf bs')
theorem L0Q {p n m:Nat} {L:List (List Int)} {k D:Int} {bs:List Nat} {sR sD sB:Value} {vs:List Value} {A:Nat->Nat->Int} {neg:Nat->Prop} (h:e0R F fl H p n m L D bs k sR sD sB vs) (hf:fl<=H.size) (hS:ShT n m L bs) (hT:Tab m (2 * n + m) A neg (Tf L) (bf bs) D) (c9:Bnd m (2 * n + m) A neg) (e5:∀ r,r < m->¬ bf bs r < 2 * n + m->Tf L r (2 * n + m)=0) (hm:m < 1048576) (hn:n < 1048576) (hR:r0f F R) :
  a0O env fl (B0n F) [.pointer (some ⟨p,0,none⟩)] H (fun _ H'=>h1U F fl p n m sR sB vs A neg H H'/\g0d fl H H') R:=by
 refine m0r a1A hf (h:=?_)
 intro ρ h0
 have s:=h.bk
 simp [p0S,x0z,h0,s]
 refine o0O (n:=m) (b1U F fl p n m sR sB vs A neg H) rfl rfl (by decide) (by omega) (by simp) (by simp) ?_ ?_ ?_ ?_
 ·exact ⟨by simp [h0],L,D,bs,k,sD,h,hS,hT,Frm.refl,e5,fun r hr=>by omega⟩
 ·intro i ρ c8 G h hI;unfold b1U at *;simpa [h] using hI
 ·clear h0 ρ s
  rintro i ρ G hi N Z ⟨I,M,D1,u,k1,b5,q,y,v,z,hN⟩
  have c3:i < u.length:=by rw [y.base];exact hi
  obtain ⟨lb,ib⟩:=q.base c3
  have s:=q.bk
  have e2:((2 * n + m:Nat):Int)=2 * (n:Int) + m:=by omega
  simp [x0A,N]
  refine a0C ?_
  by_cases b1:bf u i < 2 * n + m
  ·have U:(bf u i:Int) < 2 * (n:Int) + m:=by omega
   simp [r0a,I,N,s,ib,lb,U]
   refine Rnd.mk (by simp [N]) (by simp [Z]) ⟨by simp [I],M,D1,u,k1,b5,q,y,v,z,hN.1,fun r hr c5 a2=>?_⟩
   by_cases a0:r=i
   ·subst a0;exact k1Q b1 a2
   ·exact hN.2 r (by omega) c5 a2
  have U:¬ (bf u i:Int) < 2 * (n:Int) + m:=by omega
  have a8:=hN.1 i hi b1
  simp [r0a,I,N,s,ib,lb,U,x0B]
  refine o0O (n:=2 * n + m) (fun j ρ G'=>ρ 0=.pointer (some ⟨p,0,none⟩)/\ρ 2=.int .i64 (i:Int)/\ρ 11=.int .i64 (i:Int)/\ρ 10=.int .i64 (m:Int)/\Ext G G'/\∀ c,c < j->Tf M i c=0) rfl rfl (by decide) (by omega) (by simp) (by simp) ?_ ?_ ?_ ?_
  ·exact ⟨by simp [I],by simp,by simp [N],by simp [Z],Ext.refl G,fun c hc=>by omega⟩
  ·intro i ρ c8 G h hI;simpa [h] using hI
  ·clear N Z I s lb ib ρ
   rintro j ρ G0 hj gj gC ⟨I,g2,N,Z,J,hpre⟩
   replace q:=q.mo J
   replace z:=z.trans J.frm
   have e:i < M.length:=by rw [y.len];omega
   have d2:j < M[i].length:=by rw [y.row i e];omega
   obtain ⟨w1,e1,f1⟩:=q.num e d2
   have e0:=q.head e
   have a3:=q.hia e
   have ij:=q.ia e d2
   have s:=q.bk
   obtain ⟨vi,a6⟩:∃ x,x=vs[i]'(by have:=q.rows.len;omega):=⟨_,rfl⟩
   rw [<- a6] at e0 ij e1
   have hz:=X0r y (c9 _ _ _ v).1
   have d3:=(c9 _ _ _ v).2
   simp [x0C,gj]
   refine a0C ?_
   simp [x0D,I,g2,gj,s,a3,e0,ij,e1]
   refine (s0d f1 (by have:=z.1;omega) (hz _ _)).mo ?_
   rintro _ G2 ⟨rfl,b4⟩
   replace q:=q.mo b4
   replace z:=z.trans b4.frm
   replace J:=J.trans b4
   clear e1 f1 s
   rcases Int.lt_trichotomy (Tf M i j) 0 with c0 | h0 | d4
   ·have hc:c0L (Tf M i j) 0 = -1:=by unfold c0L;rw [k1B c0]
    have s:=q.bk
    have e0:=q.head e
    rw [<- a6] at e0
    have a5:=(q.rows.own i e).slen
    rw [y.row i e] at a5
    rw [<- a6] at a5
    obtain ⟨W,hW⟩:∃ W,W=2 * n + m + 1:=⟨_,rfl⟩
    rw [<- hW] at a5
    simp [hc,l0S,r0b,t0x,I,g2,s,a3,e0,a5]
    refine d0b (n:=W) (fun c ρ G'=>ρ 0=.pointer (some ⟨p,0,none⟩)/\ρ 2=.int .i64 (i:Int)/\ρ 3=.int .i64 (j:Int)/\ρ 11=.int .i64 (i:Int)/\ρ 10=.int .i64 (m:Int)/\ρ 59=vi/\Frm F.T F.E H G' /\
      ∃ L2,e0R F fl G' p n m L2 D1 u k1 sR b5 sB vs/\ShT n m L2 u/\∀ r c',r < m + 2->c' < W->Tf L2 r c' = if r=i/\c' < c then -Tf M r c' else Tf M r c') rfl rfl (by decide) (by omega) (by simp) (by simp) ?_ ?_ ?_ ?_
    ·exact ⟨by simp [I],by simp [g2],by simp [gj],by simp [N],by simp [Z],by simp,z,M,q,y,fun r c' _ _=>by rw [k1y (by omega)]⟩
    ·intro i ρ c8 G h hI;simpa [h] using hI
    ·clear N Z I g2 gj gC z J b4 s a5 a3 ij e0 hc
     rintro c ρ G hc gc gw ⟨I,g2,g3,N,Z,c1,z,L2,q,O,a1⟩
     have e:i < L2.length:=by rw [O.len];omega
     have b9:c < L2[i].length:=by rw [O.row i e];omega
     obtain ⟨w1,e1,f1⟩:=q.num e b9
     have e0:=q.head e
     have a3:=q.hia e
     have ic:=q.ia e b9
     have s:=q.bk
     have tc:Tf L2 i c=Tf M i c:=by rw [a1 i c (by omega) hc,k1y (by omega)]
     rw [<- a6] at e0 ic e1
     have d1:fl<=G.size:=by have:=z.1;omega
     simp
     refine h1P c1 gc ic e1 f1 d1 ?_
     intro c8 G5 c6 k6 g5 hk
     simp only [List.forall_mem_cons] at hk
     obtain ⟨k0,k2,k3,d7,d8,f5,d9,e3,e4,-⟩:=hk
     rw [I] at k0;rw [g2] at k2;rw [g3] at k3;rw [Z] at d7;rw [N] at d8;rw [c1] at d9;rw [gw] at e3;rw [gc] at e4
     replace q:=q.mo c6
     replace z:=z.trans c6.frm
     replace f1:=f1.mo c6
     replace s:=q.bk
     replace e0:=q.head e
     rw [<- a6] at e0
     clear e1 d1
     refine a0C ?_
     simp [t0y,k0,k2,s,a3,e0,ic,g5,k6]
     refine (y0Z f1 (by have:=z.1;omega) (by rw [tc];exact hz _ _)).mo ?_
     rintro wn G3 ⟨fn,a7⟩
     rw [tc] at fn
     obtain ⟨G4,d6,e6,f3,_⟩:=(q.mo a7).store (x:=-Tf M i c) e b9 fn
     rw [<- a6] at d6
     simp [ic,d6]
     refine Rnd.mk (by simp [e4]) (by simp [e3]) ⟨by simp [k0],by simp [k2],by simp [k3],by simp [d8],by simp [d7],by simp [d9],z.trans (a7.frm.trans f3),_,e6,O.set e,fun r c' h1 h2=>?_⟩
     rw [A0N O e b9,a1 r c' h1 h2]
     by_cases d5:r=i/\c' = c
     ·obtain ⟨rfl,rfl⟩:=d5
      rw [k1B ⟨rfl,rfl⟩,k1B ⟨rfl,by omega⟩]
     ·rw [k1y d5]
      by_cases c4:r=i/\c' < c
      ·rw [k1B c4,k1B ⟨c4.1,by omega⟩]
      ·rw [k1y c4,k1y (by omega)]
    ·clear N Z I g2 gj gC z J b4 s a5 a3 ij e0 hc
     rintro ρ G gc gw ⟨I,g2,g3,N,Z,c1,z,L2,q,O,a1⟩
     have a4:∀ r c,r < m + 2->c<=2 * n + m->Tf L2 r c=ng (Tf M) i r c:=fun r c h1 h2=>by
      rw [a1 r c h1 (by omega)];unfold ng
      by_cases a0:r=i
      ·subst a0;rw [k1B ⟨rfl,by omega⟩,k1B rfl]
      ·rw [k1y (fun h=>a0 h.1),k1y a0]
     have f4:∀ r c,lz (Tf L2 r c) < 67108864:=X0r O fun r c h1 h2=>by
      rw [a4 r c h1 h2];unfold ng;split
      ·rw [f0w];exact hz _ _
      ·exact hz _ _
     obtain ⟨f2,f0⟩:=v.swapN hi hj c0 a8
     simp [n0i,I,g2,g3]
     refine (k0J q (by have:=z.1;omega) O f4 d3 (by have:=v.pos;omega) hi hj hm hn hR).mo ?_
     rintro _ G3 ⟨⟨⟨L3,c7,c2,e7,b8⟩,a7⟩,_⟩
     have d0:∀ r c,r < m + 2->c<=2 * n + m->Tf L3 r c=pv (ng (Tf M) i) i j D1 r c:=fun r c h1 h2=>by
      rw [b8 r c h1 (by omega),C0Q (a4 r c h1 h2) (a4 i j (by omega) (by omega)) (a4 r j h1 (by omega)) (a4 i c (by omega) h2)]
      exact b1R v.pos (f0 r c h1 h2)
     have a9:∀ r,r < m->bf (u.set i j) r=if r=i then j else bf u r:=fun r hr=>A0Y c3
     have hd:Tf L2 i j = -Tf M i j:=by rw [a4 i j (by omega) (by omega)];unfold ng;rw [k1B rfl]
     simp
     refine Rnd.mk (by simp [N]) (by simp [Z]) ⟨by simp [I],L3,_,_,_,c7,c2,e7,f2.congr d0 (fun r hr=>a9 r hr) hd,z.trans a7,hN.step hi hj (fun r c h1 _ _=>by unfold ng;rw [k1y h1]) (by unfold ng;rw [k1B rfl,a8];rfl) d0 a9⟩
   ·have hc:c0L (Tf M i j) 0=0:=by rw [h0];rfl
    simp [hc,l0S]
    refine Rnd.mk (by simp [gj]) (by simp [gC]) ⟨by simp [I],by simp [g2],by simp [N],by simp [Z],J,fun c hc=>?_⟩
    by_cases e9:c=j
    ·rw [e9];exact h0
    ·exact hpre c (by omega)
   ·have hc:c0L (Tf M i j) 0=1:=by unfold c0L;rw [k1y (by omega),k1B (by omega)]
    simp [hc,l0S,r0b,n0i,I,g2,gj]
    refine (k0J q (by have:=z.1;omega) y hz d3 (by have:=v.pos;omega) hi hj hm hn hR).mo ?_
    rintro _ G3 ⟨⟨⟨L2,c7,c2,O,a1⟩,a7⟩,_⟩
    have b8:∀ r c,r < m + 2->c<=2 * n + m->Tf L2 r c=pv (Tf M) i j D1 r c:=fun r c h1 h2=>by
     rw [a1 r c h1 (by omega)];exact O0q v hi (by omega) (by omega) h1 h2
    have a9:∀ r,r < m->bf (u.set i j) r=if r=i then j else bf u r:=fun r hr=>A0Y c3
    simp
    refine Rnd.mk (by simp [N]) (by simp [Z]) ⟨by simp [I],L2,_,_,_,c7,c2,O,(v.swap hi hj d4 a8).congr b8 (fun r hr=>a9 r hr) rfl,z.trans a7,hN.step hi hj (fun _ _ _ _ _=>rfl) a8 b8 a9⟩
  ·rintro ρ G' gj gC ⟨I,g2,N,Z,J,hpre⟩
   simp
   refine Rnd.mk N Z ⟨I,M,D1,u,k1,b5,q.mo J,y,v,z.trans J.frm,hN.1,fun r hr c5 a2 c hc=>?_⟩
   by_cases a0:r=i
   ·subst a0
    by_cases e8:c=2 * n + m
    ·rw [e8];exact a8
    ·exact hpre c (by omega)
   ·exact hN.2 r (by omega) c5 a2 c hc
 ·rintro ρ G N Z ⟨I,M,D1,u,k1,b5,q,y,v,z,hN⟩
  simp
  exact ⟨M,D1,u,k1,b5,q,y,v,z,fun r hr a2 c hc=>hN.2 r hr hr a2 c hc⟩
end
end Go.Proofs.YtilekhkgobmolaaGreat.AI
