/- Part 8 of the proof: AiRow3, AiLat, AiGreat4, AiRefA1, AiRefA2, AiRefA3, AiRefA4, AiRefA5, AiRefA6, AiRefA7, AiRefA8, AiRefA9, AiRefB1, AiRefB2, AiRefB3, AiRefB4. -/
import Derived.Test.YtjlohmnnldbjoaaGreatRows
import Derived.Test.YtjlohmnnldbjoaaGreatM02
import Derived.Test.YtjlohmnnldbjoaaGreatM06
set_option linter.unusedVariables false
set_option linter.unusedSimpArgs false
set_option linter.unusedSectionVars false
namespace Go.Proofs.YtjlohmnnldbjoaaGreat.AI
section
open Go
variable {H:a0f} {v:Value} {m:Nat} {cs:List Value}
theorem m0b {α:Type} {Q:Nat→α→Prop}:∀ n,(∀ i,i < n→∃ x,Q i x)→∃ l:List α,l.length=n∧∀ i (h:i < l.length),Q i l[i]
 | 0,_=>⟨[],rfl,fun i h=>by simp at h⟩
 | n + 1,h=>by
  obtain ⟨l,h1,h2⟩:=m0b n (fun i hi=>h i (by omega))
  obtain ⟨x,hx⟩:=h n (by omega)
  refine ⟨l ++ [x],by simp [h1],fun i hi=>?_⟩
  by_cases h3:i < l.length
  ·rw [i1L h3];exact h2 i h3
  ·have:i=n:=by simp at hi;omega
   subst this
   rw [i1h (by omega)]
   simpa [h1] using hx
theorem L0l {α:Type} {Pr:Program} {P:a0f→List Value→α→Prop} {t e:TypeId} {sz:Nat} (hu:Pr.underlying t=some (.slice e)) (hc:Pr.cellsOf e=sz)
  (hel:∀ cs,cs.length=sz→IsT Pr H m e cs→∃ x,P H cs x) (h:IsT Pr H (m + 1) t [v]):∃ l,Sls P H e sz v l:=by
 unfold IsT at h
 rw [hu] at h
 rcases h with h | ⟨b,len,cap,cells,h1,h2,h3,h4,h5,h6⟩
 ·have:v=.slice none 0 0:=by simpa using h
  subst this
  exact ⟨[],Sls.nil⟩
 ·have:v=.slice (some ⟨b,0,none⟩) len cap:=by simpa using h1
  subst this
  rw [hc] at h5 h6
  have hj:∀ i,i < len→i * sz + sz≤cells.length:=by
   intro i hi
   have:(i + 1) * sz≤len * sz:=h1J _ hi
   rw [h1X,i1r] at this
   omega
  obtain ⟨l,hl,hk⟩:=m0b (Q:=fun i x=>P H ((cells.drop (i * sz)).take sz) x) len (fun i hi=>hel _ (by have:=hj i hi;simp;omega) (h6 i hi))
  subst hl
  refine ⟨l,cells,⟨h5,.inr ⟨b,0,cap,true,cells,rfl,h4,by omega,?_⟩⟩,hk⟩
  rw [i1V,← h5,h1T]
structure i0J (P:Program):Prop where
 u3:P.underlying 3=some (.int .i64)
 u4:P.underlying 4=some .bool
 u103:P.underlying 103=some (.int .u32)
 u28:P.underlying 28=some (.slice 103)
 u30:∃ f g:Field,P.underlying 30=some (.struct #[f,g])∧f.type=4∧g.type=28
 u32:∃ f g:Field,P.underlying 32=some (.struct #[f,g])∧f.type=30∧g.type=30
 u34:∃ f g:Field,P.underlying 34=some (.struct #[f,g])∧f.type=3∧g.type=32
 u37:P.underlying 37=some (.slice 32)
 u27:P.underlying 27=some (.slice 34)
 u23:P.underlying 23=some (.slice 37)
 u25:∃ f:Field,P.underlying 25=some (.struct #[f])∧f.type=23
 c103:P.cellsOf 103=1
 c37:P.cellsOf 37=1
 c32:P.cellsOf 32=4
 c34:P.cellsOf 34=5
variable {P:Program}
theorem f1i (hP:i0J P) (h:IsT P H (m + 2) 28 [v]):∃ l,Lim H v l:=by
 obtain ⟨l,h⟩:=L0l (P:=fun _ cs (x:Nat)=>cs=[.int .u32 (x:Nat)]∧x < 4294967296) (sz:=1) hP.u28 hP.c103 (fun cs _ h=>by
  unfold IsT at h
  rw [hP.u103] at h
  obtain ⟨n,rfl,hn⟩:=h
  simp only [Lit.wf,h1S,i1w] at hn
  have h0:0≤n:=hn.1
  have h1:n≤4294967295:=hn.2
  exact ⟨n.toNat,by rw [j1R h0],by omega⟩) h
 obtain ⟨cs,h1,h2⟩:=h
 refine ⟨l,?_,fun x hx=>?_⟩
 ·have:cs=c0c l:=by
   apply List.ext_getElem
   ·have:=h1.1;simp [c0c];omega
   ·intro i h3 h4
    have h5:i < l.length:=by simpa using h4
    have h6:=(h2 i h5).1
    rw [i1H,i1t h3,List.take_succ_cons] at h6
    have h7:=(List.cons.inj h6).1
    rw [h7];simp [c0c]
  rw [← this];exact h1
 ·obtain ⟨i,hi,rfl⟩:=i1O hx
  exact (h2 i hi).2
theorem Z0j (hP:i0J P) (h:IsT P H (m + 1) 4 cs):∃ b,cs=[.bool b]:=by
 unfold IsT at h
 rw [hP.u4] at h;exact h
theorem A0G (hP:i0J P) (h:IsT P H (m + 1) 3 cs):∃ n,cs=[.int .i64 n]:=by
 unfold IsT at h
 rw [hP.u3] at h
 obtain ⟨n,h,_⟩:=h;exact ⟨n,h⟩
theorem f1j (hP:i0J P) (h:IsT P H (m + 1) 28 cs):∃ v,cs=[v]:=by
 unfold IsT at h
 rw [hP.u28] at h
 rcases h with h | ⟨b,len,cap,cells,h,_⟩ <;> exact ⟨_,h⟩
theorem Z0l (hP:i0J P) (h:IsT P H (m + 3) 30 cs):∃ b s l,cs=[.bool b,s]∧Lim H s l:=by
 obtain ⟨f,g,hu,h1,h2⟩:=hP.u30
 unfold IsT at h
 rw [hu] at h
 obtain ⟨parts,rfl,hl,hp⟩:=h
 obtain ⟨p,q,rfl⟩:∃ p q,parts=[p,q]:=by
  match parts,hl with
  | [p,q],_=>exact ⟨p,q,rfl⟩
 obtain ⟨b,rfl⟩:=Z0j hP (by simpa [h1] using hp 0 _ rfl)
 have h1':IsT P H (m + 2) 28 q:=by simpa [h2] using hp 1 _ rfl
 obtain ⟨s,rfl⟩:=f1j hP h1'
 obtain ⟨l,hl⟩:=f1i hP h1'
 exact ⟨b,s,l,rfl,hl⟩
theorem Z0m (hP:i0J P) (h:IsT P H (m + 4) 32 cs):∃ a,b0L H (.agg cs.toArray) a:=by
 obtain ⟨f,g,hu,h1,h2⟩:=hP.u32
 unfold IsT at h
 rw [hu] at h
 obtain ⟨parts,rfl,hl,hp⟩:=h
 obtain ⟨p,q,rfl⟩:∃ p q,parts=[p,q]:=by
  match parts,hl with
  | [p,q],_=>exact ⟨p,q,rfl⟩
 obtain ⟨b,s,l,rfl,hs⟩:=Z0l hP (by simpa [h1] using hp 0 _ rfl)
 obtain ⟨c,u,k,rfl,hu⟩:=Z0l hP (by simpa [h2] using hp 1 _ rfl)
 exact ⟨((b,l),(c,k)),s,u,rfl,hs,hu⟩
theorem f1h (hP:i0J P) (h:IsT P H (m + 5) 34 cs):∃ e,i0w H (.agg cs.toArray) e:=by
 obtain ⟨f,g,hu,h1,h2⟩:=hP.u34
 unfold IsT at h
 rw [hu] at h
 obtain ⟨parts,rfl,hl,hp⟩:=h
 obtain ⟨p,q,rfl⟩:∃ p q,parts=[p,q]:=by
  match parts,hl with
  | [p,q],_=>exact ⟨p,q,rfl⟩
 obtain ⟨n,rfl⟩:=A0G hP (by simpa [h1] using hp 0 _ rfl)
 obtain ⟨a,s,u,hc,hs,hu⟩:=Z0m hP (by simpa [h2] using hp 1 _ rfl)
 have hc2:q=[.bool a.1.1,s,.bool a.2.1,u]:=by simpa using congrArg (fun v=>match v with | Value.agg a=>a.toList | _=>[]) hc
 subst hc2
 exact ⟨(n,a),s,u,rfl,hs,hu⟩
theorem Z0n (hP:i0J P) (h:IsT P H (m + 5) 37 [v]):∃ l,a0O H v l:=L0l hP.u37 hP.c32 (fun _ _ h=>Z0m hP h) h
theorem Z0k (hP:i0J P) (h:IsT P H (m + 6) 27 [v]):∃ l,d0n H v l:=L0l hP.u27 hP.c34 (fun _ _ h=>f1h hP h) h
theorem Z0o (hP:i0J P) (h:IsT P H (m + 6) 23 [v]):∃ l,d0o H v l:=L0l hP.u23 hP.c37 (fun cs hc h=>by
 obtain ⟨w,rfl⟩:∃ w,cs=[w]:=by
  match cs,hc with
  | [w],_=>exact ⟨w,rfl⟩
 obtain ⟨l,hl⟩:=Z0n hP h
 exact ⟨l,w,rfl,hl⟩) h
theorem U0D (hP:i0J P) (h:IsV P H (m + 6) 27 v):∃ l,d0n H v l:=by
 unfold IsV at h;rw [hP.u27] at h;exact Z0k hP h
theorem K0G (hP:i0J P) (h:IsV P H (m + 1) 3 v):∃ n,v=.int .i64 n:=by
 unfold IsV at h;rw [hP.u3] at h
 obtain ⟨n,h⟩:=A0G hP h;exact ⟨n,by simpa using h⟩
theorem K0F (hP:i0J P) (h:IsV P H (m + 7) 25 v):∃ rows,d0q H v rows:=by
 obtain ⟨f,hu,h1⟩:=hP.u25
 unfold IsV at h;rw [hu] at h
 obtain ⟨cs,rfl,h⟩:=h
 unfold IsT at h
 rw [hu] at h
 obtain ⟨parts,hc,hl,hp⟩:=h
 obtain ⟨p,rfl⟩:∃ p,parts=[p]:=by
  match parts,hl with
  | [p],_=>exact ⟨p,rfl⟩
 have h1':IsT P H (m + 6) 23 p:=by simpa [h1] using hp 0 _ rfl
 obtain ⟨s,rfl⟩:∃ s,p=[s]:=by
  unfold IsT at h1'
  rw [hP.u23] at h1'
  rcases h1' with h | ⟨b,len,cap,cells,h,_⟩ <;> exact ⟨_,h⟩
 obtain ⟨l,hl⟩:=Z0o hP h1'
 have:cs = #[s]:=by rw [← Array.toList_inj];simpa using hc
 exact ⟨l,s,by rw [this],hl⟩
theorem Sls.first {α:Type} {P:a0f→List Value→α→Prop} {e sz:Nat} {l:List α} (h:Sls P H e sz v l) {n:Nat} (hn:n≤l.length) {k:IntKind} :
  ∃ v',e0a sz v none (some (.int k n)) none=some v'∧Sls P H e sz v' (l.take n)∧elemOk H e v=true:=by
 obtain ⟨cs,h1,h2⟩:=h
 obtain ⟨v',h3,h4⟩:=h1.slice (lo:=0) (hi:=n) (x:=none) (y:=some (.int k n)) (i1C _) hn rfl (by simp [bnd])
 refine ⟨v',h3,⟨_,by rw [i1E,i1N hn];simpa using h4,?_⟩,h1.elemOk (Ext.refl _)⟩
 intro j hj
 have hj2:j < n:=by simp at hj;omega
 have hj3:(j + 1) * sz≤n * sz:=h1J _ hj2
 rw [h1X,i1r] at hj3
 have:=h2 j (by omega)
 simp only [List.getElem_take,k1D,Nat.zero_mul,i1V]
 rw [k1C,k1f,i1N (by omega)]
 exact this
theorem types:i0J Tryz.prog where
 u3:=Tryz.underlying3
 u4:=by kernel_rfl
 u103:=Tryz.underlying103
 u28:=Tryz.underlying28
 u30:=⟨_,_,Tryz.underlying30,rfl,rfl⟩
 u32:=⟨_,_,Tryz.underlying32,rfl,rfl⟩
 u34:=⟨_,_,Tryz.underlying34,rfl,rfl⟩
 u37:=Tryz.underlying37
 u27:=Tryz.underlying27
 u23:=Tryz.underlying23
 u25:=⟨_,Tryz.underlying25,rfl⟩
 c103:=by kernel_rfl
 c37:=by kernel_rfl
 c32:=by kernel_rfl
 c34:=by kernel_rfl
end
section
open Go
variable {e f g:d0h}
variable {a b c:List d0h}
def f1S (l:List d0h):Prop:=∀ x ∈ l,b0u x.2.1.2∧b0u x.2.2.2
theorem d0n.limE {H:a0f} {v:Value} (h:d0n H v a):f1S a:=by
 intro x hx
 obtain ⟨i,hi,rfl⟩:=i1O hx
 obtain ⟨w,_,k⟩:=d0n.load h hi
 exact k.ok
theorem Z0d (h:d0G g0B a=false):z0s a:=by
 intro x hx
 have:g0B x=false:=by
  cases hl:g0B x with
  | false=>rfl
  | true=>exact h1Y (j1d.2 ⟨x,hx,hl⟩) (by unfold d0G at h;rw [h];decide)
 unfold g0B f0r at this
 simp at this
 unfold d0W;omega
end
section
open Go
set_option maxHeartbeats 4000000
def h0X (E:Env) (fl nt tc b b2:Nat) (body:SCode) (rx:List a0L) (Z:b0b→a0f→Prop) (Q:d0X) (R:a0G) (n i:Nat) (Inv:Nat→(Nat→Value)→a0f→Prop) (t:b0b) (H:a0f):Prop :=
 ∃ ρ' c,t=T nt ρ'∧ρ' tc=.bool c∧(c=true→i < n∧W E fl body (T nt ρ') H (z0v b2 b (e0N E fl nt rx R i Inv) Z Q) R)∧(c=false→Z (T nt ρ') H)
section
variable {E:Env} {fl nt tc b b2 n i:Nat} {body:SCode} {rx rc:List a0L} {Z:b0b→a0f→Prop} {Q:d0X} {R:a0G} {Inv:Nat→(Nat→Value)→a0f→Prop} {ρ:Nat→Value} {H:a0f}
theorem h0X.mk (c:Bool) (h1:ρ tc=.bool c) (h2:c=true→i < n∧W E fl body (T nt ρ) H (z0v b2 b (e0N E fl nt rx R i Inv) Z Q) R) (h3:c=false→Z (T nt ρ) H):h0X E fl nt tc b b2 body rx Z Q R n i Inv (T nt ρ) H:=⟨ρ,c,rfl,h1,h2,h3⟩
theorem v0I (Inv:Nat→(Nat→Value)→a0f→Prop) (n:Nat) (htc:tc < nt) (hI:Inv 0 ρ H)
  (step:∀ i ρ G,i≤n→Inv i ρ G→WR E fl rc (T nt ρ) G (h0X E fl nt tc b b2 body rx Z Q R n i Inv) R) :
  W E fl (.loop (.seq (.seq (.reg rc) (.cond (.tmp tc) .skip (.exit b))) (.seq (.block b2 body) (.reg rx)))) (T nt ρ) H (e0P b (i0s Z Q)) R:=by
 refine b0Y (fun k t G=>∃ i ρ,i + k=n∧t=T nt ρ∧Inv i ρ G) Z n ⟨0,ρ,by omega,rfl,hI⟩ ?_ (fun _ _ h=>h)
 clear hI
 rintro k t G ⟨i,ρ,hik,rfl,hI⟩
 refine h0Y (h0Y (l0Q ((step i ρ G (by omega) hI).mono ?_)))
 rintro t' G' ⟨ρ',c,rfl,h1,h2,h3⟩
 simp only [e0x]
 cases c with
 | true =>
  obtain ⟨hi,h2⟩:=h2 rfl
  refine l0O true (by rw [k0S,b0V htc,h1]) (fun _=>v0H ?_) (by simp)
  simp only [e0x]
  refine h0Y (p0u (h2.mono fun e t2 G2 hq=>?_))
  have fin:e0N E fl nt rx R i Inv t2 G2→i0s (fun t' H'=>W E fl (.reg rx) t' H' (n0U b (fun t' H'=>∃ k',k' < k∧∃ i ρ,i + k' = n∧t' = T nt ρ∧Inv i ρ H') Z Q) R) (n0U b (fun t' H'=>∃ k',k' < k∧∃ i ρ,i + k' = n∧t' = T nt ρ∧Inv i ρ H') Z Q) .normal t2 G2:=by
   intro h
   refine l0Q (h.mono ?_)
   rintro t3 G3 ⟨ρ3,rfl,h4⟩
   exact ⟨k - 1,by omega,i + 1,ρ3,by omega,rfl,h4⟩
  cases e with
  | normal=>exact fin hq
  | exit j =>
   simp only [z0v] at hq
   show (if j=b2 then _ else _)
   by_cases hj:j=b2
   ·rw [h1F hj] at hq ⊢;exact fin hq
   ·rw [h1C hj] at hq ⊢
    show (if j=b then _ else _)
    by_cases hj2:j=b
    ·rw [h1F hj2] at hq ⊢;exact hq
    ·rw [h1C hj2] at hq ⊢;exact hq
  | ret=>exact hq
 | false =>
  refine l0O false (by rw [k0S,b0V htc,h1]) (by simp) (fun _=>v0G ?_)
  show (if b=b then _ else _)
  rw [h1F rfl]
  exact h3 rfl
end
variable {fl:Nat} {H G:a0f} {R:a0G} {v w:Value}
def e0w:List (List b0q)→Nat
 | []=>0
 | r :: l=>e0w l + (1 + min r.length 201)
theorem z0i (l:List (List b0q)) (r:List b0q):e0w (l ++ [r])=e0w l + (1 + min r.length 201):=by
 induction l with
 | nil=>simp [e0w]
 | cons x l ih=>simp only [j1S,e0w,ih];omega
theorem z0j {l:List (List b0q)} {i:Nat} (h:i < l.length):e0w (l.take (i + 1))=e0w (l.take i) + (1 + min l[i].length 201):=by
 rw [i1I h,z0i]
def n0T (r:List b0q):Bool:=decide (r.length≤200) && d0G f0r r
theorem w0e (l:List (List b0q)):l.length≤e0w l:=by
 induction l with
 | nil=>simp [e0w]
 | cons x l ih=>simp only [i1D,e0w];omega
theorem A0S {l:List (List b0q)} {r:List b0q} (h:r ∈ l):min r.length 201 < e0w l:=by
 induction l with
 | nil=>simp at h
 | cons x l ih =>
  simp only [e0w]
  rcases j1G.1 h with rfl | h
  ·omega
  ·have:=ih h;omega
def V0p (l:List (List b0q)):Prop:=l.length≤200∧∀ r ∈ l,r.length≤200∧d0G f0r r=false
theorem V0q {l:List (List b0q)} (h:e0w l≤200) (k:d0G n0T l=false):V0p l:=by
 refine ⟨h1R (w0e l) h,fun r hr=>?_⟩
 have h1:=A0S hr
 have h2:r.length≤200:=by omega
 refine ⟨h2,?_⟩
 cases ha:d0G f0r r with
 | false=>rfl
 | true=>exact h1Y (j1d.2 ⟨r,hr,show n0T r=true by unfold n0T;rw [ha];simp [h2]⟩) (by unfold d0G at k;rw [k];decide)
theorem t0e {l:List (List b0q)} (h:d0o H v l) (hf:fl≤H.size):a0S env fl Y0E [v] H (fun r H'=>(∃ c,r=.bool c∧(c=false→V0p l))∧Ext H H') R:=by
 refine a0i g1g hf (h:=?_)
 intro ρ h0
 simp [b1z,O0z,O0A,O0B,h0]
 refine v0I (fun n ρ G=>ρ 0=v∧ρ 4=.int .i64 (n:Int)∧ρ 3=.int .i64 ((e0w (l.take n):Nat):Int)∧e0w (l.take n)≤402∧n≤403∧Ext H G∧d0G n0T (l.take n)=false) l.length (by decide) (by simp [h0,f0M,e0w]) ?_
 clear h0 ρ
 rintro n ρ G hn1 ⟨g0,g4,g3,hb,hn2,hx,hpre⟩
 have k:=h.mono b0F hx
 have hn3:n≤e0w (l.take n):=by have:=w0e (l.take n);rw [i1E] at this;omega
 by_cases hlt:n < l.length
 ·have hlt':(n:Int) < (l.length:Int):=by omega
  by_cases h2:e0w (l.take n)≤200
  ·have h2':((e0w (l.take n):Nat):Int)≤200:=by omega
   simp [x0o,g0,g4,g3,k.slen,hlt,h2,h2']
   refine h0X.mk true (by simp [h2']) (fun _=>⟨hlt,?_⟩) (by simp)
   obtain ⟨w,hlw,kr⟩:=d0o.load k hlt
   have hmn:t0I false (.int .i64 (l[n].length:Int)) [.int .i64 201]=some (.int .i64 ((min l[n].length 201:Nat):Int)):=by
    simp only [t0I,mn2,i1a,i1F,h1D,Value.int.injEq,true_and]
    split <;> omega
   have hw1:IntKind.i64.wrap (((e0w (l.take n):Nat):Int) + 1)=((e0w (l.take n) + 1:Nat):Int):=b0a (by omega)
   have hs:=z0j hlt
   have hw2:IntKind.i64.wrap (((e0w (l.take n) + 1:Nat):Int) + ((min l[n].length 201:Nat):Int))=((e0w (l.take (n + 1)):Nat):Int):=by
    rw [a0Y (by omega) (by omega),hs];omega
   simp only [h1G,Int.cast_ofNat_Int] at hw1 hw2
   simp [O0C,g0,g4,g3,k.ia hlt,hlw,kr.slen,hmn]
   simp [hw1]
   rw [hw2]
   have hyes:n0T l[n]=true→d0G n0T l=true:=f0N hlt
   have hb1:d0G n0T (l.take (n + 1))=n0T l[n]:=by rw [e0O hlt,hpre,k1b]
   have hwn:=b0a (show n < 4611686018427387904 by omega)
   by_cases hl2:l[n].length≤200
   ·have hl2':(l[n].length:Int)≤200:=by omega
    simp [H0H,g0,g4,k.ia hlt,hlw,kr.slen,hl2,hl2']
    refine (l0K kr hx.1 (by omega)).mono ?_
    rintro _ G2 ⟨rfl,hx2⟩
    replace hx:=hx.trans hx2
    cases hlo:d0G f0r l[n] with
    | true=>simp [O0D]
    | false =>
     simp
     unfold e0N
     simp [H0I,g4,hwn]
     refine c0f.mk ⟨by simp [g0],by simp,by simp,by omega,by omega,hx,?_⟩
     rw [hb1];unfold n0T;simp [hlo]
   ·have hl2':¬ (l[n].length:Int)≤200:=by omega
    simp [H0H,g0,g4,k.ia hlt,hlw,kr.slen,hl2,hl2']
    unfold e0N
    simp [H0I,g4,hwn]
    refine c0f.mk ⟨by simp [g0],by simp,by simp,by omega,by omega,hx,?_⟩
    rw [hb1];unfold n0T;simp [hl2]
  ·have h2':¬ ((e0w (l.take n):Nat):Int)≤200:=by omega
   simp [x0o,g0,g4,g3,k.slen,hlt,h2,h2']
   refine h0X.mk false (by simp [h2']) (by simp) (fun _=>?_)
   have h3:(200:Int) < ((e0w (l.take n):Nat):Int):=by omega
   simp [H0J,g3,h3]
 ·have he:n=l.length:=by omega
  subst he
  simp [x0o,g0,g4,g3,k.slen]
  refine h0X.mk false (by simp) (by simp) (fun _=>?_)
  rw [h1T] at hpre g3
  simp [H0J,g3]
  intro _
  by_cases h3:e0w l≤200
  ·exact .inl ⟨by omega,V0q h3 hpre⟩
  ·exact .inr (by omega)
end
section
open Go
set_option maxHeartbeats 4000000
@[simp] theorem W0L {w:Bool}:z0q w undef=false:=nr rfl
variable {fl:Nat} {H G:a0f} {R:a0G} {v w:Value} {l:List Nat} {i:Bool × List Nat}
def newB (H:a0f) (r:Value):Prop:=∀ q,slB r=some q→H.size≤q
theorem Own.newB {e sz n:Nat} {cs:List Value} (h:Own H.size G e sz v n cs):AI.newB H v:=by
 obtain ⟨_,⟨rfl,_⟩ | ⟨b,cap,rfl,_,hb⟩⟩:=h
 ·intro q hq;cases hq
 ·intro q hq
  simp only [slB,h1D] at hq
  omega
theorem newB.of {u:Value} (h:newB H v) (he:slB u=slB v):newB H u:=fun q hq=>h q (by rw [← he];exact hq)
theorem newB.ne {p:Nat} (h:newB H v) (hp:p < H.size):slB v ≠ some p:=fun he=>by have:=h p he;omega
theorem K0c {x y z:Option Value} {n:Nat} {u:Value} (h:e0a n v x y z=some u):slB u=slB v:=by
 unfold e0a at h
 split at h
 ·rename_i p len cap
  split at h
  ·split at h
   ·split at h
    ·simp only [h1D] at h
     subst h
     cases p <;> rfl
    ·split at h
     ·split at h
      ·simp only [h1D] at h
       subst h
       cases p <;> rfl
      ·cases h
     ·cases h
   ·cases h
  ·cases h
 ·cases h
theorem e0J (h:Lim H v l) (hf:fl≤H.size) (hn:l.length < 4611686018427387904):a0S env fl m0e [v] H (fun r H'=>(Lim H' r (d0E l)∧slB r=slB v)∧Ext H H') R:=by
 refine a0i d1J hf (h:=?_)
 intro ρ h0
 simp [M0c,C0h,C0i,h0,h.slen]
 refine b0Y (fun k t G=>G=H∧t.length=21∧get t 0=v∧get t 3=.int .i64 k∧k≤l.length∧d0E (l.take k)=d0E l)
  (fun t G=>∃ k:Nat,G=H∧t.length=21∧get t 0=v∧get t 3=.int .i64 k∧k≤l.length∧d0E l=l.take k) l.length (by simp [h0]) ?_ ?_
 ·rintro k t G ⟨rfl,ht,g0,g3,hk,htr⟩
  obtain ⟨ρ,rfl⟩:=toT ht
  simp only [b0V,Nat.reduceLT] at g0 g3
  by_cases hk0:k=0
  ·subst hk0
   simp [u0a,g0,g3]
   exact ⟨0,by simp,by simp,by rw [← htr];rfl⟩
  ·have hp:0 < k:=by omega
   have w1:IntKind.i64.wrap ((k:Int) - 1)=((k - 1:Nat):Int):=by rw [a0Y (by omega) (by omega)];omega
   simp [u0a,C0j,g0,g3,hp,w1,h.ia (show k - 1 < l.length by omega),h.load (show k - 1 < l.length by omega)]
   have hk1:l.take k=l.take (k - 1) ++ [l.getD (k - 1) 0]:=by rw [← e0s (by omega)];congr 1;omega
   rw [h1z] at hk1
   refine ⟨fun hz=>⟨k - 1,by omega,rfl,by omega,?_⟩,fun hz=>⟨k,rfl,hk,?_⟩⟩
   ·rw [← htr,hk1,hz,n0v]
   ·rw [← htr,hk1,k0L hz]
 ·rintro t G ⟨k,rfl,ht,g0,g3,hk,htr⟩
  obtain ⟨ρ,rfl⟩:=toT ht
  simp only [b0V,Nat.reduceLT] at g0 g3
  obtain ⟨v',h1,h2⟩:=h.take hk (x:=none) rfl (y:=some (.int .i64 (k:Int))) (by simp)
  simp [C0k,g0,g3,h.elemOk,h1]
  rw [htr];exact ⟨h2,K0c h1⟩
theorem f0k (h:Lim H v l) (hf:fl≤H.size) (hn:l.length < 4611686018427387904):a0S env fl m0e [v] H (fun r H'=>Lim H' r (d0E l)∧Ext H H') R:=(e0J h hf hn).mono fun _ _ h=>⟨h.1.1,h.2⟩
theorem e0R (h:b0d H v i) (hf:fl≤H.size) (hn:i.2.length < 4611686018427387904):a0S env fl t0w [v] H (fun r H'=>r=.bool (f0R i)∧Ext H H') R:=by
 obtain ⟨s,rfl,hs⟩:=h
 obtain ⟨bi,li⟩:=i
 simp only at hs hn ⊢
 refine a0i e1d hf (h:=?_)
 intro ρ h0
 simp [M0w,E0a,h0]
 generalize hG:Array.push H _=G
 obtain ⟨hx2,b0⟩:=g0r hG
 have hx:=Ext.refl H
 clear hG
 replace hx:=hx.trans hx2
 have ks:=hs.mono hx
 unfold f0R
 simp [E0b,h0,b0,ks.slen]
 by_cases hl:li.length=0
 ·have hnil:li=[]:=by simpa using hl
  subst hnil
  cases bi <;> simp [u0s,b0]
 ·have hp:0 < li.length:=by omega
  have hne:li ≠ []:=fun h=>hl (by rw [h];rfl)
  have w1:IntKind.i64.wrap ((li.length:Int) - 1)=((li.length - 1:Nat):Int):=by rw [a0Y (by omega) (by omega)];omega
  have hlt:li.length - 1 < li.length:=by omega
  have h1:=ks.ia hlt (k:=.i64)
  have h2:=ks.load hlt (Ext.refl _)
  have e1:((li.length:Int)=0)=False:=by simp;omega
  have e2:((0:Int) < (li.length:Int))=True:=by simp;omega
  rw [h1z] at h2
  simp [hne,hp,u0s,b0,e1,e2,w1,h1,h2]
theorem a1y {G G3:a0f} {q:Nat} {r:Blk} {ro:Bool} {cs:List Value} {s:Value} (hS:Array.setIfInBounds G q r=G3) (hx:Ext H G) (hs:Lim G s l) (hb:a0f.blk G q=.row ro a0a cs) (hq:H.size≤q) :
  Lim G3 s l∧Ext H G3∧a0f.blk G3 q=r:=⟨by rw [← hS];exact hs.setT hb (by decide),a0E hS hx hq,a0s hS hb⟩
theorem V0x (h:b0u i.2):(if f0R i then i else (false,[]))=a0j (a0z i):=by
 cases hm:f0R i with
 | false=>simp [a0z,hm,a0j,a0W]
 | true =>
  have h1:=j0r h
  unfold e0Q at h1
  rw [hm] at h1
  have h2:=A0U i
  unfold Z0t at h2
  rw [hm] at h2
  simp at h1 h2
  simp only [i1s]
  exact Prod.ext (by rw [h2];rfl) h1
theorem b0Q (h:b0d H v i) (hf:fl≤H.size) (hn:i.2.length < 4611686018427387904):a0S env fl i0Q [v] H (fun r H'=>b0d H' r (a0j (a0z i))∧Ext H H') R:=by
 rw [← V0x h.ok]
 have k0:=h
 obtain ⟨s,rfl,hs⟩:=h
 refine a0i d1H hf (h:=?_)
 intro ρ h0
 simp [M0a,B0T,h0,hs.cells]
 generalize hG:Array.push (Array.push H _) _=G
 have hx2:Ext H G:=by rw [← hG];exact (Ext.refl H).push.push
 have b0:a0f.blk G H.size=.row false a0a [.bool i.1,s]:=by rw [← hG];simp
 have b1:a0f.blk G (H.size + 1)=.row false a0a [.bool false,.slice none 0 0]:=by rw [← hG];simp
 have hx:=Ext.refl H
 clear hG
 replace hx:=hx.trans hx2;replace k0:=k0.mono hx2
 simp [B0U,b0]
 refine (e0R k0 hx.1 hn).mono ?_
 rintro _ G2 ⟨rfl,hx2⟩
 replace b0:=hx2.blk b0;replace b1:=hx2.blk b1;replace hx:=hx.trans hx2;replace k0:=k0.mono hx2
 have hsz:=hx.1
 have hlt:=a0l b1
 cases hm:f0R i with
 | true =>
  obtain ⟨s',he,hs'⟩:=k0
  have:s' = s:=by simpa using he.symm
  subst this
  simp [B0W,b0,b1,hs'.cells,hs'.plain,hsz]
  generalize hS:Array.setIfInBounds G2 _ _=G3
  obtain ⟨kS,hx3,b3⟩:=a1y hS hx hs' b1 (by omega)
  simp [b3]
  exact fun _=>⟨s',rfl,kS⟩
 | false =>
  simp [B0V,b0,b1,hsz]
  generalize hS:Array.setIfInBounds G2 _ _=G3
  have b3:=a0s hS b1
  simp [b3]
  exact fun _=>⟨.slice none 0 0,rfl,Lim.nil⟩
theorem c0e {b:Bool} (z:Int) (h:Lim H v l) (hf:fl≤H.size) (hn:l.length≤1073741824) (hz:(if b then -(a0w l:Int) else a0w l)=z) :
  a0S env fl t0C [.bool b,v] H (fun r H'=>b0d H' r (a0j z)∧Ext H H') R:=by
 rw [← hz,← N0V h.ok]
 refine a0i g1R hf (h:=?_)
 intro ρ h0
 simp [c1j,S0n,S0o,h0]
 generalize hG:Array.push H _=G
 obtain ⟨hx2,b0⟩:=g0r hG
 have hx:=Ext.refl H
 clear hG
 replace hx:=hx.trans hx2
 replace h:=h.mono hx
 refine (f0k h hx.1 (by omega)).mono ?_
 rintro u G2 ⟨ht,hx2⟩
 replace b0:=hx2.blk b0;replace hx:=hx.trans hx2
 have hsz:=hx.1
 simp
 by_cases hl:d0E l=[]
 ·have hk:mkI b l=(false,[]):=by simp [mkI,hl]
  rw [hk]
  rw [hl] at ht
  simp [J0q,S0p,ht.slen,b0,hsz]
  generalize hS:Array.setIfInBounds G2 _ _=G3
  have b3:=a0s hS b0
  simp [b3]
  exact fun _=>⟨.slice none 0 0,rfl,Lim.nil⟩
 ·have hk:mkI b l=(b,d0E l):=by simp [mkI,hl]
  rw [hk]
  have hl':¬ (d0E l).length=0:=by simpa using hl
  have hle:(d0E l).length≤l.length:=by
   rw [b0U l h.ok];exact e0h (f0U l h.ok)
  simp [J0q,S0q,ht.slen,b0,hsz,hl,h0]
  have hx4:Ext G2 (G2.push (.row false a0k [])):=(Ext.refl G2).push
  have hlt:=a0l b0
  obtain ⟨v',G',h1,h2,h3,h4⟩:=k0e (fl:=H.size) (G:=G2.push (.row false a0k [])) (s:=.slice (some ⟨G2.size,0,none⟩) 0 0) (e:=a0k) (cs:=[]) (sz:=1) (n:=0) (bytes:=4) (e2:=a0k)
   (Own.mk a0C rfl hsz) (ht.mono hx4).1 k0x (by omega) (by omega) (by omega) (by simp;omega)
  rw [i1o,j1o] at h2
  have b4:G'.blk H.size=.row false a0a [.bool false,.slice none 0 0]:=by
   rw [h3.2 _ (by simp;omega) (by simp [slB];omega)]
   exact hx4.blk b0
  have kL:Lim G' v' (d0E l):=⟨h2.sl,ht.2⟩
  have hx5:Ext H G':=h4 H (h1A _) (hx.trans hx4)
  simp [h1,kL.cells,kL.plain,b4,b0t]
  generalize hS:Array.setIfInBounds G' _ _=G3
  obtain ⟨kS,hx3,b3⟩:=a1y hS hx5 kL b4 (by omega)
  simp [b3]
  exact fun _=>⟨v',rfl,kS⟩
end
section
open Go
set_option maxHeartbeats 4000000
variable {fl:Nat} {H G:a0f} {R:a0G} {v w:Value} {a b:List Nat}
theorem j0b (ha:Lim H v a) (hb:Lim H w b) (hf:fl≤H.size) (hna:a.length < 4611686018427387904) :
  a0S env fl t0y [v,w] H (fun r H'=>r=.int .i64 (x0Y a b)∧Ext H H') R:=by
 refine a0i e1n hf (h:=?_)
 intro ρ h0
 have w1:IntKind.i64.wrap ((a.length:Int) - 1)=(a.length:Int) - 1:=a0Y (by omega) (by omega)
 by_cases hab:a.length=b.length
 ·have hab':(a.length:Int)=(b.length:Int):=by omega
  simp [z0k,q0K,q0L,E0X,h0,ha.slen,hb.slen,hab]
  rw [← hab,w1]
  have hcl:x0Y a b=c0z (a0w a) (a0w b):=by simp [x0Y,hab]
  rw [hcl]
  refine b0Y (fun k t G'=>t.length=41∧get t 0=v∧get t 1=w∧get t 5=.int .i64 ((k:Int) - 1)∧G' = H∧k≤a.length∧a.drop k=b.drop k)
   (fun t G'=>t.length=41∧G' = H∧a=b) a.length (by simp [h0,hab]) ?_ ?_
  ·clear h0 ρ
   rintro k t G' ⟨ht,g0,g1,g5,rfl,hk,hd⟩
   obtain ⟨ρ,rfl⟩:=toT ht
   simp only [b0V,Nat.reduceLT] at g0 g1 g5
   by_cases hk0:k=0
   ·subst hk0
    simp [u0v,g0,g1,g5]
    simpa using hd
   ·have e0:(k:Int) - 1=((k - 1:Nat):Int):=by omega
    have hka:k - 1 < a.length:=by omega
    have hkb:k - 1 < b.length:=by omega
    have hla:=ha.load hka (Ext.refl _)
    have hlb:=hb.load hkb (Ext.refl _)
    have w2:IntKind.i64.wrap (((k - 1:Nat):Int) - 1)=((k - 1:Nat):Int) - 1:=a0Y (by omega) (by omega)
    rw [e0] at g5
    have hla':=ha.ia (k:=.i64) hka
    have hlb':=hb.ia (k:=.i64) hkb
    have hh:=s0d hab ha.ok hb.ok hka (by rw [show k - 1 + 1=k by omega];exact hd)
    have hfin:a.getD (k - 1) 0=b.getD (k - 1) 0→a.drop (k - 1)=b.drop (k - 1):=by
     intro he
     rw [i1t hka,i1t hkb,show k - 1 + 1=k by omega,hd]
     rw [h1z,h1E hka,h1z,h1E hkb] at he
     congr 1
    generalize a.getD (k - 1) 0=A at hla hh hfin
    generalize b.getD (k - 1) 0=B at hlb hh hfin
    simp [u0v,g0,g1,g5]
    refine a0B ?_
    simp [E0Y,g0,g1,g5,hla,hla',hlb,hlb']
    refine ⟨fun hlt=>?_,fun hnlt=>?_⟩
    ·simp [E0Z]
     rw [hh (by omega),c0g,h1F hlt]
    ·refine a0B ?_
     simp [F0a,g0,g1,g5,hla,hla',hlb,hlb']
     refine ⟨fun hlt=>?_,fun hge=>?_⟩
     ·simp [w0R]
      rw [hh (by omega),c0g,h1C (by omega),h1F hlt]
     ·simp [w0S,g5,w2]
      exact ⟨k - 1,by omega,g0,g1,rfl,by omega,hfin (by omega)⟩
  ·rintro t G' ⟨ht,rfl,hab2⟩
   obtain ⟨ρ,rfl⟩:=toT ht
   simp [w0T]
   rw [hab2];simp [c0z]
 ·have hab':¬ (a.length:Int)=(b.length:Int):=by omega
  have hcl:x0Y a b=c0z a.length b.length:=by simp [x0Y,hab]
  rw [hcl,c0g]
  by_cases hlt:a.length < b.length
  ·have hlt':(a.length:Int) < (b.length:Int):=by omega
   simp [z0k,q0K,q0L,u0u,E0V,h0,ha.slen,hb.slen,hab,hlt]
  ·have hlt':¬ (a.length:Int) < (b.length:Int):=by omega
   have hgt:b.length < a.length:=by omega
   simp [z0k,q0K,q0L,u0u,E0W,h0,ha.slen,hb.slen,hab,hlt,hgt]
theorem f0V {l:List Nat} {n:Nat}:a0w (l.take (n + 1))=a0w (l.take n) + 4294967296 ^ n * l.getD n 0:=by
 by_cases h:n < l.length
 ·exact a0Q h
 ·rw [h1O (by omega),h1O (by omega),h1z,h1M (by omega)];simp
theorem t0W (ha:Lim H v a) (hb:Lim H w b) (hf:fl≤H.size) (hna:a.length < 1073741823) (hnb:b.length < 1073741823) :
  a0S env fl A0l [v,w] H (fun r H'=>Lim H' r (a0p (a0w a + a0w b))∧Ext H H') R:=by
 refine a0i e1m hf (h:=?_)
 intro ρ h0
 simp [M0F,E0R,E0S,E0T,E0U,h0]
 obtain ⟨N,hN⟩:∃ N,N=max a.length b.length:=⟨_,rfl⟩
 refine v0I (fun n ρ G=>ρ 0=v∧ρ 1=w∧ρ 7=.int .i64 (n:Int)∧∃ c out,ρ 6=.int .u64 ((c:Nat):Int)∧Ext H G∧Own H.size G a0k 1 (ρ 5) n (c0c out)∧b0u out∧out.length=n∧c≤1∧(n=N + 1→c=0) ∧
   a0w out + 4294967296 ^ n * c=a0w (a.take n) + a0w (b.take n)) (N + 1) (by decide) ⟨by simp [h0],by simp [h0],by simp,0,[],by simp,Ext.refl H,by simp;exact Own.nil,by intro x hx;simp at hx,rfl,by omega,by omega,by simp [a0w]⟩ ?_
 clear h0 ρ
 rintro n ρ G hn1 ⟨g0,g1,g7,c,out,g6,hx,ho,hok,hol,hc,hc0,hs⟩
 have ka:=ha.mono hx
 have kb:=hb.mono hx
 have hA2:=f0V (l:=a) (n:=n)
 have hB2:=f0V (l:=b) (n:=n)
 have hA3:=c0d ha.ok n
 have hB3:=c0d hb.ok n
 have e9:=b0a (show n < 4611686018427387904 by omega)
 by_cases hgo:n < a.length ∨ n < b.length ∨ 0 < c
 ·have hnN:n < N + 1:=by
   rcases hgo with h | h | h
   ·omega
   ·omega
   ·by_cases hz:n=N + 1
    ·have:=hc0 hz;omega
    ·omega
  have htop:n=N→c + a.getD n 0 + b.getD n 0 < 4294967296:=by
   intro hz
   have h1:a.getD n 0=0:=by rw [h1z,h1M (by omega)];rfl
   have h2:b.getD n 0=0:=by rw [h1z,h1M (by omega)];rfl
   omega
  obtain ⟨s,g5⟩:∃ s,ρ 5=s:=⟨_,rfl⟩
  rw [g5] at ho
  have hA:n < a.length→iaV 1 v (.int .i64 (n:Int))=some (adr 1 v n)∧b0x G false 1 (adr 1 v n)=some (.int .u32 ((a.getD n 0:Nat):Int)):=fun h=>⟨ka.ia h,ka.load h (Ext.refl _)⟩
  have hB:n < b.length→iaV 1 w (.int .i64 (n:Int))=some (adr 1 w n)∧b0x G false 1 (adr 1 w n)=some (.int .u32 ((b.getD n 0:Nat):Int)):=fun h=>⟨kb.ia h,kb.load h (Ext.refl _)⟩
  have hAz:¬ n < a.length→a.getD n 0=0:=fun h=>by rw [h1z,h1M (by omega)];rfl
  have hBz:¬ n < b.length→b.getD n 0=0:=fun h=>by rw [h1z,h1M (by omega)];rfl
  generalize a.getD n 0=A at hA2 hA3 htop hA hAz
  generalize b.getD n 0=B at hB2 hB3 htop hB hBz
  obtain ⟨c2,hc2⟩:∃ c2,c + A + B=c2:=⟨_,rfl⟩
  have e3:IntKind.u32.wrap ((c2:Int))=((c2 % 4294967296:Nat):Int):=by rw [e0Y];omega
  rw [hc2] at htop
  obtain ⟨s',G3,h1,h2,h3,h4⟩:=e0b (e2:=a0k) (new:=[.int .u32 ((c2 % 4294967296:Nat):Int)]) (c:=1) (bytes:=4) ho rfl rfl (by omega) (by omega) (by omega) hx.1
  have hfin:a0w (out ++ [c2 % 4294967296]) + 4294967296 ^ (n + 1) * (c2 / 4294967296)=a0w (a.take (n + 1)) + a0w (b.take (n + 1)):=by
   rw [c0i,hol,hA2,hB2,h1Z]
   have e3:4294967296 ^ n * 4294967296 * (c2 / 4294967296)=4294967296 ^ n * (4294967296 * (c2 / 4294967296)):=h1U ..
   have e4:4294967296 ^ n * (c2 % 4294967296) + 4294967296 ^ n * (4294967296 * (c2 / 4294967296))=4294967296 ^ n * c2:=by rw [← h1P,j1Z]
   have e5:4294967296 ^ n * c2=4294967296 ^ n * c + 4294967296 ^ n * A + 4294967296 ^ n * B:=by rw [← hc2,h1P,h1P]
   omega
  by_cases ia:n < a.length
  ·obtain ⟨a1,a2⟩:=hA ia
   by_cases ib:n < b.length
   ·obtain ⟨b1,b2⟩:=hB ib
    have hcp:True:=trivial
    have e1:IntKind.u64.wrap ((c:Int) + IntKind.u64.wrap (A:Int))=((c + A:Nat):Int):=by rw [a0x,a0x];omega
    have e2:IntKind.u64.wrap (((c + A:Nat):Int) + IntKind.u64.wrap (B:Int))=(c2:Int):=by rw [a0x,a0x];omega
    simp [k0D,g0,g1,g7,g6,ka.slen,kb.slen,ia,ib]
    refine h0X.mk true (by simp [hcp]) (fun _=>⟨hnN,?_⟩) (by simp)
    simp [-Int.natCast_emod,-Int.natCast_add,n0d,n0e,n0f,n0g,n0h,j0K,j0L,g0,g1,g6,g7,ka.slen,kb.slen,ia,ib,a1,a2,b1,b2,e1,e2,e3,g5,h1]
    unfold e0N
    simp [-Int.natCast_emod,-Int.natCast_add,j0M,g7,e9]
    refine c0f.mk ⟨by simp [g0],by simp [g1],by simp,c2 / 4294967296,by simp,h4 _ (h1A _) hx,out ++ [c2 % 4294967296],by simpa [c0c] using h2,?_,by simp [hol],by omega,fun hz=>by have:=htop (by omega);omega,hfin⟩
    intro x hx
    rcases i1g.1 hx with hx | hx
    ·exact hok x hx
    ·simp at hx;omega
   ·have hBn:=hBz ib
    subst hBn
    have hcp:True:=trivial
    have e1:IntKind.u64.wrap ((c:Int) + IntKind.u64.wrap (A:Int))=(c2:Int):=by rw [a0x,a0x];omega
    simp [k0D,g0,g1,g7,g6,ka.slen,kb.slen,ia,ib]
    refine h0X.mk true (by simp [hcp]) (fun _=>⟨hnN,?_⟩) (by simp)
    simp [-Int.natCast_emod,-Int.natCast_add,n0d,n0e,n0f,n0g,n0h,j0K,j0L,g0,g1,g6,g7,ka.slen,kb.slen,ia,ib,a1,a2,e1,e3,g5,h1]
    unfold e0N
    simp [-Int.natCast_emod,-Int.natCast_add,j0M,g7,e9]
    refine c0f.mk ⟨by simp [g0],by simp [g1],by simp,c2 / 4294967296,by simp,h4 _ (h1A _) hx,out ++ [c2 % 4294967296],by simpa [c0c] using h2,?_,by simp [hol],by omega,fun hz=>by have:=htop (by omega);omega,hfin⟩
    intro x hx
    rcases i1g.1 hx with hx | hx
    ·exact hok x hx
    ·simp at hx;omega
  ·have hAn:=hAz ia
   subst hAn
   by_cases ib:n < b.length
   ·obtain ⟨b1,b2⟩:=hB ib
    have hcp:True:=trivial
    have e2:IntKind.u64.wrap ((c:Int) + IntKind.u64.wrap (B:Int))=(c2:Int):=by rw [a0x,a0x];omega
    simp [k0D,g0,g1,g7,g6,ka.slen,kb.slen,ia,ib]
    refine h0X.mk true (by simp [hcp]) (fun _=>⟨hnN,?_⟩) (by simp)
    simp [-Int.natCast_emod,-Int.natCast_add,n0d,n0e,n0f,n0g,n0h,j0K,j0L,g0,g1,g6,g7,ka.slen,kb.slen,ia,ib,b1,b2,e2,e3,g5,h1]
    unfold e0N
    simp [-Int.natCast_emod,-Int.natCast_add,j0M,g7,e9]
    refine c0f.mk ⟨by simp [g0],by simp [g1],by simp,c2 / 4294967296,by simp,h4 _ (h1A _) hx,out ++ [c2 % 4294967296],by simpa [c0c] using h2,?_,by simp [hol],by omega,fun hz=>by have:=htop (by omega);omega,hfin⟩
    intro x hx
    rcases i1g.1 hx with hx | hx
    ·exact hok x hx
    ·simp at hx;omega
   ·have hBn:=hBz ib
    subst hBn
    have hcc:c=c2:=by omega
    have hcp:0 < c2:=by omega
    rw [hcc] at g6
    simp [k0D,g0,g1,g7,g6,ka.slen,kb.slen,ia,ib,hcp]
    refine h0X.mk true (by simp [hcp]) (fun _=>⟨hnN,?_⟩) (by simp)
    simp [-Int.natCast_emod,-Int.natCast_add,n0d,n0e,n0f,n0g,n0h,j0K,j0L,g0,g1,g6,g7,ka.slen,kb.slen,ia,ib,e3,g5,h1]
    unfold e0N
    simp [-Int.natCast_emod,-Int.natCast_add,j0M,g7,e9]
    refine c0f.mk ⟨by simp [g0],by simp [g1],by simp,c2 / 4294967296,by simp,h4 _ (h1A _) hx,out ++ [c2 % 4294967296],by simpa [c0c] using h2,?_,by simp [hol],by omega,fun hz=>by have:=htop (by omega);omega,hfin⟩
    intro x hx
    rcases i1g.1 hx with hx | hx
    ·exact hok x hx
    ·simp at hx;omega
 ·have h1:¬ n < a.length:=by omega
  have h2:¬ n < b.length:=by omega
  have h3:c=0:=by omega
  subst h3
  simp [k0D,g0,g1,g7,g6,ka.slen,kb.slen,h1,h2]
  refine h0X.mk false (by simp) (by simp) (fun _=>?_)
  rw [h1O (by omega),h1O (by omega),Nat.mul_zero,i1J] at hs
  obtain ⟨s,g5⟩:∃ s,ρ 5=s:=⟨_,rfl⟩
  rw [g5] at ho
  simp [w0Q,g5]
  refine (f0k (l:=out) ⟨by rw [hol];exact ho.sl,hok⟩ hx.1 (by omega)).mono ?_
  rintro r G2 ⟨ht,hx2⟩
  simp
  intro _
  rw [← hs,← b0U out hok]
  exact ht
theorem N0W {x c:Nat} (hx:x < 4294967296) (h2:x % 2=0) (hc:c≤1):d0d 0 .or (.int .u32 (x:Int)) (.int .u32 (c:Int))=some (.int .u32 ((x + c:Nat):Int)):=by
 rw [k0f]
 have e1:(BitVec.ofInt IntKind.u32.bits (x:Int) ||| BitVec.ofInt IntKind.u32.bits (c:Int)).toNat=x + c:=by
  show (BitVec.ofInt 32 (x:Int) ||| BitVec.ofInt 32 (c:Int)).toNat=x + c
  rw [BitVec.toNat_or,j1E,j1E]
  have e2:((x:Int) % (2 ^ 32:Nat)).toNat=x:=by omega
  have e3:((c:Int) % (2 ^ 32:Nat)).toNat=c:=by omega
  rw [e2,e3]
  have:=j1z (i:=1) (b:=c) (by omega) (x / 2)
  have e4:2 ^ 1 * (x / 2)=x:=by omega
  rw [e4] at this
  exact this.symm
 rw [e1,r0k]
 congr 3
 omega
theorem o0c {o:Bool} (ha:Lim H v a) (hf:fl≤H.size) (hna:a.length < 1073741822) :
  a0S env fl A0s [v,.bool o] H (fun r H'=>(Lim H' r (a0p (2 * a0w a + o.toNat))∧newB H r)∧Ext H H') R:=by
 refine a0i e1D hf (h:=?_)
 intro ρ h0
 simp [M0V,G0Q,G0R,G0S,G0T,h0]
 cases o with
 | true =>
  simp [G0U,u0H]
  refine c0q (fun n ρ G=>ρ 0=v∧ρ 7=.int .i64 (n:Int)∧∃ c,ρ 6=.int .u32 ((c:Nat):Int)∧Ext H G∧∃ out,Own H.size G a0k 1 (ρ 5) n (c0c out)∧b0u out∧out.length=n∧c≤1 ∧
    a0w out + 4294967296 ^ n * c=2 * a0w (a.take n) + 1) a.length (by decide) ⟨by simp [h0],by simp,1,by simp,Ext.refl H,[],by simp;exact Own.nil,by intro x hx;simp at hx,rfl,by omega,by simp [a0w]⟩ ?_
  clear h0 ρ
  rintro n ρ G hn1 ⟨g0,g7,c,g6,hx,out,ho,hok,hol,hc,hs⟩
  have ka:=ha.mono hx
  have e9:=b0a (show n < 4611686018427387904 by omega)
  obtain ⟨s,g5⟩:∃ s,ρ 5=s:=⟨_,rfl⟩
  rw [g5] at ho
  simp [u0I,g0,g7,ka.slen]
  refine d0L.mk (by simp) (fun hlt=>?_) (fun heq=>?_)
  ·have hA2:=a0Q hlt
   have hA3:=c0d ha.ok n
   have a1:=ka.ia hlt (k:=.i64)
   have a2:=ka.load hlt (Ext.refl _)
   generalize a.getD n 0=A at hA2 hA3 a2
   have q1:d0d 0 .shl (.int .u32 (A:Int)) (.int .u64 1)=some (.int .u32 ((A * 2 ^ 1 % 4294967296:Nat):Int)):=r0f (s:=1) (by omega)
   have q2:=N0W (x:=A * 2 ^ 1 % 4294967296) (c:=c) (by omega) (by omega) hc
   have q3:d0d 0 .shr (.int .u32 (A:Int)) (.int .u64 31)=some (.int .u32 ((A / 2 ^ 31:Nat):Int)):=r0g (s:=31) (by omega)
   obtain ⟨y,hy⟩:∃ y,A * 2 ^ 1 % 4294967296 + c=y:=⟨_,rfl⟩
   obtain ⟨y0,hy0⟩:∃ y0,A * 2 ^ 1 % 4294967296=y0:=⟨_,rfl⟩
   obtain ⟨c',hc'⟩:∃ c',A / 2 ^ 31=c':=⟨_,rfl⟩
   rw [hy] at q2
   rw [hy0] at q1 q2
   rw [hc'] at q3
   obtain ⟨s',G3,h1,h2,h3,h4⟩:=e0b (e2:=a0k) (new:=[.int .u32 (y:Int)]) (c:=1) (bytes:=4) ho rfl rfl (by omega) (by omega) (by omega) hx.1
   have hx3:=h4 _ (h1A _) hx
   have kb:=ha.mono hx3
   have b1:=kb.ia hlt (k:=.i64)
   have b2:=kb.load hlt (Ext.refl _)
   have hfin:a0w (out ++ [y]) + 4294967296 ^ (n + 1) * c' = 2 * a0w (a.take (n + 1)) + 1:=by
    rw [c0i,hol,hA2,h1Z]
    have e3:4294967296 ^ n * 4294967296 * c' = 4294967296 ^ n * (4294967296 * c'):=h1U ..
    have e4:y + 4294967296 * c' = c + 2 * A:=by omega
    have e5:4294967296 ^ n * y + 4294967296 ^ n * (4294967296 * c')=4294967296 ^ n * c + 4294967296 ^ n * (2 * A):=by rw [← h1P,e4,h1P]
    have e6:4294967296 ^ n * (2 * A)=2 * (4294967296 ^ n * A):=by rw [j1x]
    omega
   have b2':b0x G3 false 1 (adr 1 v n)=some (.int .u32 (A:Int)):=by
    rw [ka.load hlt (Ext.refl _)] at a2
    rw [b2];exact a2
   simp [-Int.natCast_emod,-Int.natCast_add,-k0f,u0J,u0K,g0,g5,g6,g7,a1,a2,q1,q2,q3,h1,b2']
   unfold e0N
   simp [-Int.natCast_add,u0L,g7,e9]
   refine c0f.mk ⟨by simp [g0],by simp,c',by simp,hx3,out ++ [y],by simpa [c0c] using h2,?_,by simp [hol],by omega,hfin⟩
   intro x hx
   rcases i1g.1 hx with hx | hx
   ·exact hok x hx
   ·simp at hx;omega
  ·subst heq
   rw [h1T] at hs
   obtain ⟨s',G3,h1,h2,h3,h4⟩:=e0b (e2:=a0k) (new:=[.int .u32 (c:Int)]) (c:=1) (bytes:=4) ho rfl rfl (by omega) (by omega) (by omega) hx.1
   have hx3:=h4 _ (h1A _) hx
   simp [-Int.natCast_add,q0S,q0T,g5,g6,h1]
   have hok2:b0u (out ++ [c]):=by
    intro x hx
    rcases i1g.1 hx with hx | hx
    ·exact hok x hx
    ·simp at hx;omega
   refine (e0J (l:=out ++ [c]) ⟨by have:=h2.sl;simpa [hol,c0c] using this,hok2⟩ hx3.1 (by simp;omega)).mono ?_
   rintro r G2 ⟨⟨ht,hsb⟩,hx2⟩
   simp
   intro _
   rw [b0U _ hok2,c0i,hol,hs] at ht
   exact ⟨ht,(Own.newB h2).of hsb⟩
 | false =>
  simp [u0H]
  refine c0q (fun n ρ G=>ρ 0=v∧ρ 7=.int .i64 (n:Int)∧∃ c,ρ 6=.int .u32 ((c:Nat):Int)∧Ext H G∧∃ out,Own H.size G a0k 1 (ρ 5) n (c0c out)∧b0u out∧out.length=n∧c≤1 ∧
    a0w out + 4294967296 ^ n * c=2 * a0w (a.take n) + 0) a.length (by decide) ⟨by simp [h0],by simp,0,by simp,Ext.refl H,[],by simp;exact Own.nil,by intro x hx;simp at hx,rfl,by omega,by simp [a0w]⟩ ?_
  clear h0 ρ
  rintro n ρ G hn1 ⟨g0,g7,c,g6,hx,out,ho,hok,hol,hc,hs⟩
  have ka:=ha.mono hx
  have e9:=b0a (show n < 4611686018427387904 by omega)
  obtain ⟨s,g5⟩:∃ s,ρ 5=s:=⟨_,rfl⟩
  rw [g5] at ho
  simp [u0I,g0,g7,ka.slen]
  refine d0L.mk (by simp) (fun hlt=>?_) (fun heq=>?_)
  ·have hA2:=a0Q hlt
   have hA3:=c0d ha.ok n
   have a1:=ka.ia hlt (k:=.i64)
   have a2:=ka.load hlt (Ext.refl _)
   generalize a.getD n 0=A at hA2 hA3 a2
   have q1:d0d 0 .shl (.int .u32 (A:Int)) (.int .u64 1)=some (.int .u32 ((A * 2 ^ 1 % 4294967296:Nat):Int)):=r0f (s:=1) (by omega)
   have q2:=N0W (x:=A * 2 ^ 1 % 4294967296) (c:=c) (by omega) (by omega) hc
   have q3:d0d 0 .shr (.int .u32 (A:Int)) (.int .u64 31)=some (.int .u32 ((A / 2 ^ 31:Nat):Int)):=r0g (s:=31) (by omega)
   obtain ⟨y,hy⟩:∃ y,A * 2 ^ 1 % 4294967296 + c=y:=⟨_,rfl⟩
   obtain ⟨y0,hy0⟩:∃ y0,A * 2 ^ 1 % 4294967296=y0:=⟨_,rfl⟩
   obtain ⟨c',hc'⟩:∃ c',A / 2 ^ 31=c':=⟨_,rfl⟩
   rw [hy] at q2
   rw [hy0] at q1 q2
   rw [hc'] at q3
   obtain ⟨s',G3,h1,h2,h3,h4⟩:=e0b (e2:=a0k) (new:=[.int .u32 (y:Int)]) (c:=1) (bytes:=4) ho rfl rfl (by omega) (by omega) (by omega) hx.1
   have hx3:=h4 _ (h1A _) hx
   have kb:=ha.mono hx3
   have b1:=kb.ia hlt (k:=.i64)
   have b2:=kb.load hlt (Ext.refl _)
   have hfin:a0w (out ++ [y]) + 4294967296 ^ (n + 1) * c' = 2 * a0w (a.take (n + 1)) + 0:=by
    rw [c0i,hol,hA2,h1Z]
    have e3:4294967296 ^ n * 4294967296 * c' = 4294967296 ^ n * (4294967296 * c'):=h1U ..
    have e4:y + 4294967296 * c' = c + 2 * A:=by omega
    have e5:4294967296 ^ n * y + 4294967296 ^ n * (4294967296 * c')=4294967296 ^ n * c + 4294967296 ^ n * (2 * A):=by rw [← h1P,e4,h1P]
    have e6:4294967296 ^ n * (2 * A)=2 * (4294967296 ^ n * A):=by rw [j1x]
    omega
   have b2':b0x G3 false 1 (adr 1 v n)=some (.int .u32 (A:Int)):=by
    rw [ka.load hlt (Ext.refl _)] at a2
    rw [b2];exact a2
   simp [-Int.natCast_emod,-Int.natCast_add,-k0f,u0J,u0K,g0,g5,g6,g7,a1,a2,q1,q2,q3,h1,b2']
   unfold e0N
   simp [-Int.natCast_add,u0L,g7,e9]
   refine c0f.mk ⟨by simp [g0],by simp,c',by simp,hx3,out ++ [y],by simpa [c0c] using h2,?_,by simp [hol],by omega,hfin⟩
   intro x hx
   rcases i1g.1 hx with hx | hx
   ·exact hok x hx
   ·simp at hx;omega
  ·subst heq
   rw [h1T] at hs
   obtain ⟨s',G3,h1,h2,h3,h4⟩:=e0b (e2:=a0k) (new:=[.int .u32 (c:Int)]) (c:=1) (bytes:=4) ho rfl rfl (by omega) (by omega) (by omega) hx.1
   have hx3:=h4 _ (h1A _) hx
   simp [-Int.natCast_add,q0S,q0T,g5,g6,h1]
   have hok2:b0u (out ++ [c]):=by
    intro x hx
    rcases i1g.1 hx with hx | hx
    ·exact hok x hx
    ·simp at hx;omega
   refine (e0J (l:=out ++ [c]) ⟨by have:=h2.sl;simpa [hol,c0c] using this,hok2⟩ hx3.1 (by simp;omega)).mono ?_
   rintro r G2 ⟨⟨ht,hsb⟩,hx2⟩
   simp
   intro _
   rw [b0U _ hok2,c0i,hol,hs] at ht
   exact ⟨ht,(Own.newB h2).of hsb⟩
theorem e0l {p z x:Nat} {L:List Nat} (hb:G.blk p=.row false a0k (c0c L)) (hf:fl≤p) (hz:z < L.length) :
  e0X fl G 1 (.pointer (some ⟨p,z,none⟩)) (.int .u32 (x:Int))=some (G.setIfInBounds p (.row false a0k (c0c (L.set z x)))):=by
 have h1:a0U (.int .u32 (x:Int))=[.int .u32 (x:Int)]:=rfl
 rw [n0u hb hf (by rw [h1];rfl) (by simp;omega) (by rw [h1];rfl),h1,d0z]
 simp [b0t]
theorem K0T {n:Nat} {s:Value} (h:Own fl G a0k 1 s n (c0c a)) (hn:n=a.length) (h0:0 < a.length):∃ p cap,s=.slice (some ⟨p,0,none⟩) a.length cap∧G.blk p=.row false a0k (c0c a)∧fl≤p:=by
 obtain ⟨hl,⟨_,h1⟩ | ⟨b,cap,h1,h2,h3⟩⟩:=h
 ·omega
 ·exact ⟨b,cap,by rw [← hn];exact h1,h2,h3⟩
theorem k0Y (ha:Lim H v a) (hb:Lim H w b) (hf:fl≤H.size) (hna:a.length < 1073741824) (hle:b.length≤a.length) (hnat:a0w b≤a0w a) (h0a:0 < a.length) :
  a0S env fl r0H [v,w] H (fun r H'=>(Lim H' r (a0p (a0w a - a0w b))∧newB H r)∧Ext H H') R:=by
 refine a0i e1o hf (h:=?_)
 intro ρ h0
 have hx4:Ext H (H.push (.row false a0k [])):=(Ext.refl H).push
 obtain ⟨v',G',h1,h2,h3,h4⟩:=k0e (fl:=H.size) (G:=H.push (.row false a0k [])) (s:=.slice (some ⟨H.size,0,none⟩) 0 0) (e:=a0k) (cs:=[]) (sz:=1) (n:=0) (bytes:=4) (e2:=a0k)
  (Own.mk a0C rfl (h1A _)) (ha.mono hx4).1 k0x (by omega) (by omega) (by omega) (by simp)
 rw [i1o,j1o] at h2
 obtain ⟨p,cap,rfl,hbp,hp⟩:=K0T h2 rfl h0a
 have hx5:Ext H G':=h4 H (h1A _) hx4
 simp [M0G,F0c,F0d,F0e,F0f,h0,h1]
 refine c0q (fun n ρ G=>ρ 1=w∧ρ 5=.slice (some ⟨p,0,none⟩) a.length cap∧ρ 7=.int .i64 (n:Int)∧∃ c,ρ 6=.int .u64 ((c:Nat):Int)∧Ext H G∧∃ L,a0f.blk G p=.row false a0k (c0c L)∧L.length=a.length∧b0u L∧(∀ j,n≤j→L.getD j 0=a.getD j 0)∧c≤1 ∧
   a0w (L.take n) + a0w (b.take n)=a0w (a.take n) + 4294967296 ^ n * c) a.length (by decide) ⟨by simp [h0],by simp,by simp,0,by simp,hx5,a,hbp,rfl,ha.ok,fun _ _=>rfl,by omega,by simp [a0w]⟩ ?_
 clear h0 ρ h1 h2 h3 h4 hbp hx5 hx4 G'
 rintro n ρ G hn1 ⟨g1,g5,g7,c,g6,hx,L,hbp,hL,hok,hrest,hc,hs⟩
 have e9:=b0a (show n < 4611686018427387904 by omega)
 have hsl:i0r (.slice (some ⟨p,0,none⟩) a.length cap)=some (.int .i64 (a.length:Int)):=rfl
 simp [F0g,g5,g7,hsl]
 refine d0L.mk (by simp) (fun hlt=>?_) (fun heq=>?_)
 ·have kb:=hb.mono hx
  have hnL:n < L.length:=by omega
  obtain ⟨o1,o2⟩:=f0i (k:=.i64) (cap:=cap) hbp hnL hL
  have hA2:=a0Q hlt
  have hB2:=f0V (l:=b) (n:=n)
  have hA3:=c0d ha.ok n
  have hB3:=c0d hb.ok n
  rw [hrest n (h1A _)] at o2
  have hB:n < b.length→iaV 1 w (.int .i64 (n:Int))=some (adr 1 w n)∧b0x G false 1 (adr 1 w n)=some (.int .u32 ((b.getD n 0:Nat):Int)):=fun h=>⟨kb.ia h,kb.load h (Ext.refl _)⟩
  have hBz:¬ n < b.length→b.getD n 0=0:=fun h=>by rw [h1z,h1M (by omega)];rfl
  generalize a.getD n 0=A at hA2 hA3 o2
  generalize b.getD n 0=B at hB2 hB3 hB hBz
  obtain ⟨S,hS⟩:∃ S,c + B=S:=⟨_,rfl⟩
  have eA:IntKind.u64.wrap (A:Int)=(A:Int):=by rw [a0x];omega
  by_cases ib:n < b.length
  ·obtain ⟨b1,b2⟩:=hB ib
   have e2:IntKind.u64.wrap ((c:Int) + IntKind.u64.wrap (B:Int))=(S:Int):=by rw [a0x,a0x];omega
   simp [-Int.natCast_add,u0w,u0x,F0h,g1,g6,g7,kb.slen,ib,b1,b2,e2]
   by_cases hge:S≤A
   ·have q1:IntKind.u64.wrap ((A:Int) - (S:Int))=((A - S:Nat):Int):=by rw [a0x];omega
    have q2:IntKind.u32.wrap (((A - S:Nat):Int))=((A - S:Nat):Int):=by rw [e0Y];omega
    have hst:=e0l (fl:=H.size) (x:=A - S) hbp hp hnL
    simp [-Int.natCast_add,n0i,u0y,q0M,g1,g5,g6,g7,o1,o2,eA,hge,q1,q2,hst]
    have hfin:a0w ((L.set n (A-S)).take (n + 1)) + a0w (b.take (n + 1))=a0w (a.take (n + 1)) + 4294967296 ^ (n + 1) * 0:=by
     rw [d0f hnL,hA2,hB2,h1Z]
     have e3:4294967296 ^ n * 4294967296 * 0=4294967296 ^ n * (4294967296 * 0):=h1U ..
     have e4:(A-S) + c + B=A + 4294967296 * 0:=by omega
     have e5:4294967296 ^ n * (A-S) + 4294967296 ^ n * c + 4294967296 ^ n * B=4294967296 ^ n * A + 4294967296 ^ n * (4294967296 * 0):=by rw [← h1P,← h1P,e4,h1P]
     omega
    unfold e0N
    simp [-Int.natCast_add,j0N,g7,e9]
    exact c0f.mk ⟨by simp [g1],by simp [g5],by simp,0,by simp,hx.set hp,L.set n (A-S),a0A (a0l hbp),by simp [hL],b0X hok (by omega),fun j hj=>by have h:=(b0P (l:=L) (z:=A-S) (show n ≠ j by omega)).trans (hrest j (by omega));rw [h1z,h1z] at h;exact h,by omega,hfin⟩
   ·have hge':A < S:=by omega
    have q0:IntKind.u64.wrap ((A:Int) + 4294967296)=((A + 4294967296:Nat):Int):=by rw [a0x];omega
    have q1:IntKind.u64.wrap (((A + 4294967296:Nat):Int) - (S:Int))=((A + 4294967296 - S:Nat):Int):=by rw [a0x];omega
    have q2:IntKind.u32.wrap (((A + 4294967296 - S:Nat):Int))=((A + 4294967296 - S:Nat):Int):=by rw [e0Y];omega
    have hst:=e0l (fl:=H.size) (x:=A + 4294967296 - S) hbp hp hnL
    simp [-Int.natCast_add,n0i,q0N,q0O,g1,g5,g6,g7,o1,o2,eA,hge,hge',q0,q1,q2,hst]
    have hfin:a0w ((L.set n (A+4294967296-S)).take (n + 1)) + a0w (b.take (n + 1))=a0w (a.take (n + 1)) + 4294967296 ^ (n + 1) * 1:=by
     rw [d0f hnL,hA2,hB2,h1Z]
     have e3:4294967296 ^ n * 4294967296 * 1=4294967296 ^ n * (4294967296 * 1):=h1U ..
     have e4:(A+4294967296-S) + c + B=A + 4294967296 * 1:=by omega
     have e5:4294967296 ^ n * (A+4294967296-S) + 4294967296 ^ n * c + 4294967296 ^ n * B=4294967296 ^ n * A + 4294967296 ^ n * (4294967296 * 1):=by rw [← h1P,← h1P,e4,h1P]
     omega
    unfold e0N
    simp [-Int.natCast_add,j0N,g7,e9]
    exact c0f.mk ⟨by simp [g1],by simp [g5],by simp,1,by simp,hx.set hp,L.set n (A+4294967296-S),a0A (a0l hbp),by simp [hL],b0X hok (by omega),fun j hj=>by have h:=(b0P (l:=L) (z:=A+4294967296-S) (show n ≠ j by omega)).trans (hrest j (by omega));rw [h1z,h1z] at h;exact h,by omega,hfin⟩
  ·have hBn:=hBz ib
   have hcS:c=S:=by omega
   rw [hcS] at g6
   simp [-Int.natCast_add,u0w,u0x,g1,g6,g7,kb.slen,ib]
   by_cases hge:S≤A
   ·have q1:IntKind.u64.wrap ((A:Int) - (S:Int))=((A - S:Nat):Int):=by rw [a0x];omega
    have q2:IntKind.u32.wrap (((A - S:Nat):Int))=((A - S:Nat):Int):=by rw [e0Y];omega
    have hst:=e0l (fl:=H.size) (x:=A - S) hbp hp hnL
    simp [-Int.natCast_add,n0i,u0y,q0M,g1,g5,g6,g7,o1,o2,eA,hge,q1,q2,hst]
    have hfin:a0w ((L.set n (A-S)).take (n + 1)) + a0w (b.take (n + 1))=a0w (a.take (n + 1)) + 4294967296 ^ (n + 1) * 0:=by
     rw [d0f hnL,hA2,hB2,h1Z]
     have e3:4294967296 ^ n * 4294967296 * 0=4294967296 ^ n * (4294967296 * 0):=h1U ..
     have e4:(A-S) + c + B=A + 4294967296 * 0:=by omega
     have e5:4294967296 ^ n * (A-S) + 4294967296 ^ n * c + 4294967296 ^ n * B=4294967296 ^ n * A + 4294967296 ^ n * (4294967296 * 0):=by rw [← h1P,← h1P,e4,h1P]
     omega
    unfold e0N
    simp [-Int.natCast_add,j0N,g7,e9]
    exact c0f.mk ⟨by simp [g1],by simp [g5],by simp,0,by simp,hx.set hp,L.set n (A-S),a0A (a0l hbp),by simp [hL],b0X hok (by omega),fun j hj=>by have h:=(b0P (l:=L) (z:=A-S) (show n ≠ j by omega)).trans (hrest j (by omega));rw [h1z,h1z] at h;exact h,by omega,hfin⟩
   ·have hge':A < S:=by omega
    have q0:IntKind.u64.wrap ((A:Int) + 4294967296)=((A + 4294967296:Nat):Int):=by rw [a0x];omega
    have q1:IntKind.u64.wrap (((A + 4294967296:Nat):Int) - (S:Int))=((A + 4294967296 - S:Nat):Int):=by rw [a0x];omega
    have q2:IntKind.u32.wrap (((A + 4294967296 - S:Nat):Int))=((A + 4294967296 - S:Nat):Int):=by rw [e0Y];omega
    have hst:=e0l (fl:=H.size) (x:=A + 4294967296 - S) hbp hp hnL
    simp [-Int.natCast_add,n0i,q0N,q0O,g1,g5,g6,g7,o1,o2,eA,hge,hge',q0,q1,q2,hst]
    have hfin:a0w ((L.set n (A+4294967296-S)).take (n + 1)) + a0w (b.take (n + 1))=a0w (a.take (n + 1)) + 4294967296 ^ (n + 1) * 1:=by
     rw [d0f hnL,hA2,hB2,h1Z]
     have e3:4294967296 ^ n * 4294967296 * 1=4294967296 ^ n * (4294967296 * 1):=h1U ..
     have e4:(A+4294967296-S) + c + B=A + 4294967296 * 1:=by omega
     have e5:4294967296 ^ n * (A+4294967296-S) + 4294967296 ^ n * c + 4294967296 ^ n * B=4294967296 ^ n * A + 4294967296 ^ n * (4294967296 * 1):=by rw [← h1P,← h1P,e4,h1P]
     omega
    unfold e0N
    simp [-Int.natCast_add,j0N,g7,e9]
    exact c0f.mk ⟨by simp [g1],by simp [g5],by simp,1,by simp,hx.set hp,L.set n (A+4294967296-S),a0A (a0l hbp),by simp [hL],b0X hok (by omega),fun j hj=>by have h:=(b0P (l:=L) (z:=A+4294967296-S) (show n ≠ j by omega)).trans (hrest j (by omega));rw [h1z,h1z] at h;exact h,by omega,hfin⟩
 ·subst heq
  rw [h1O (by omega),h1O hle,h1T] at hs
  have hLlt:=f0U L hok
  rw [hL] at hLlt
  have hc0:c=0:=by
   rcases j1H c with h | h
   ·exact h
   ·have:c=1:=by omega
    subst this
    omega
  subst hc0
  simp [w0U,g5]
  refine (e0J (l:=L) ⟨⟨by simp,.inr ⟨p,0,cap,false,c0c L,by rw [hL],hbp,by simp,by rw [i1V,i1H,← i0S (l:=L),h1T]⟩⟩,hok⟩ hx.1 (by omega)).mono ?_
  rintro r G2 ⟨⟨ht,hsb⟩,hx2⟩
  simp
  intro _
  rw [b0U _ hok,show a0w L=a0w a - a0w b by omega] at ht
  refine ⟨ht,fun q hq=>?_⟩
  rw [hsb] at hq
  simp only [slB,h1D] at hq
  omega
theorem m0D (ha:Lim H v a) (hb:Lim H w b) (hf:fl≤H.size) (hna:a.length < 1073741824) (hle:b.length≤a.length) (hnat:a0w b≤a0w a) (h0a:0 < a.length) :
  a0S env fl r0H [v,w] H (fun r H'=>Lim H' r (a0p (a0w a - a0w b))∧Ext H H') R:=(k0Y ha hb hf hna hle hnat h0a).mono fun _ _ h=>⟨h.1.1,h.2⟩
theorem k0q:∀ n,a0w (List.replicate n 0)=0
 | 0=>rfl
 | n + 1=>by rw [List.replicate_succ,a0w,k0q n]
theorem p0o (n:Nat):c0c (List.replicate n 0)=f0y [.int .u32 0] n:=by
 unfold c0c
 induction n with
 | zero=>rfl
 | succ n ih=>simp only [List.replicate_succ,List.map_cons,ih];rfl
theorem t0X (ha:Lim H v a) (hb:Lim H w b) (hf:fl≤H.size) (hna:a.length < 536870912) (hnb:b.length < 536870912) :
  a0S env fl A0d [v,w] H (fun r H'=>Lim H' r (a0p (a0w a * a0w b))∧Ext H H') R:=by
 refine a0i d1I hf (h:=?_)
 intro ρ h0
 have w1:IntKind.i64.wrap ((a.length:Int) + (b.length:Int))=((a.length + b.length:Nat):Int):=by rw [a0Y (by omega) (by omega)];omega
 have hm:=X0v (bytes:=4) (k:=.i64) (k':=.i64) (l:=((a.length + b.length:Nat):Int)) (c:=((a.length + b.length:Nat):Int)) (by omega) (by omega) (by omega) (by omega)
 simp [-Int.natCast_add,M0b,B0X,B0Y,B0Z,h0,ha.slen,hb.slen,w1,hm]
 rw [← p0o]
 generalize hN:a.length + b.length=N
 generalize hG:Array.push H _=G0
 obtain ⟨hx0,b0⟩:=g0r hG
 clear hG
 refine c0q (fun n ρ G=>ρ 0=v∧ρ 1=w∧ρ 5=.slice (some ⟨H.size,0,none⟩) N N∧ρ 6=.int .i64 (n:Int)∧Ext H G∧∃ o,a0f.blk G H.size=.row false a0k (c0c o)∧o.length=N∧b0u o∧a0w o=a0w (a.take n) * a0w b∧∀ q,n + b.length≤q→o.getD q 0=0)
  a.length (by decide) ⟨by simp [h0],by simp [h0],by simp,by simp,hx0,List.replicate N 0,b0,by simp,by intro x hx;simp at hx;omega,by simp [a0w,k0q],fun q _=>by simp [h1z,j1v];split <;> rfl⟩ ?_
 clear h0 ρ w1 hm b0 hx0 G0
 rintro i ρ G hn1 ⟨g0,g1,g5,g6,hx,o,hbo,hol,hok,hs,hz⟩
 have ka:=ha.mono hx
 have e8:=b0a (show i < 4611686018427387904 by omega)
 simp [C0a,g0,g6,ka.slen]
 refine d0L.mk (by simp) (fun hlt=>?_) (fun heq=>?_)
 ·have hA2:=a0Q hlt
  have hA3:=c0d ha.ok i
  have a1:=ka.ia hlt (k:=.i64)
  have aL:∀ G2,Ext H G2→b0x G2 false 1 (adr 1 v i)=some (.int .u32 ((a.getD i 0:Nat):Int)):=fun G2 h=>ha.load hlt h
  generalize a.getD i 0=U at hA2 hA3 aL
  simp [C0b,C0c]
  refine c0q (fun q ρ G=>ρ 0=v∧ρ 1=w∧ρ 5=.slice (some ⟨H.size,0,none⟩) N N∧ρ 6=.int .i64 (i:Int)∧ρ 8=.int .i64 (q:Int)∧∃ c,ρ 7=.int .u64 ((c:Nat):Int)∧Ext H G∧∃ o,a0f.blk G H.size=.row false a0k (c0c o)∧o.length=N∧b0u o∧c < 4294967296 ∧
    a0w o + 4294967296 ^ (i + q) * c=a0w (a.take i) * a0w b + 4294967296 ^ i * (U * a0w (b.take q))∧∀ q,i + b.length≤q→o.getD q 0=0)
   b.length (by decide) ⟨by simp [g0],by simp [g1],by simp [g5],by simp [g6],by simp,0,by simp,hx,o,hbo,hol,hok,by omega,by simp [hs,a0w],hz⟩ ?_
  clear g0 g1 g5 g6 hx hbo hol hok hs hz ka o G ρ
  rintro q ρ G hq1 ⟨g0,g1,g5,g6,g8,c,g7,hx,o,hbo,hol,hok,hc,hs,hz⟩
  have kb:=hb.mono hx
  have ka:=ha.mono hx
  have e9:=b0a (show q < 4611686018427387904 by omega)
  simp [C0d,g1,g8,kb.slen]
  refine d0L.mk (by simp) (fun hq=>?_) (fun heq=>?_)
  ·have hB2:=a0Q hq
   have hB3:=c0d hb.ok q
   have b1:=kb.ia hq (k:=.i64)
   have b2:=kb.load hq (Ext.refl _)
   have a2:=aL G hx
   generalize b.getD q 0=V at hB2 hB3 b2
   have hlo:i + q < o.length:=by omega
   obtain ⟨hio,hro⟩:=f0i (k:=.i64) (cap:=N) hbo hlo hol
   have hset:=h0N o (i + q) ((c + (U * V + o.getD (i + q) 0)) % 4294967296) hlo
   have hW3:=c0d hok (i + q)
   generalize o.getD (i + q) 0=Wd at hro hset hW3
   have hUV:U * V≤4294967295 * 4294967295:=i1z (by omega) (by omega)
   have e1:IntKind.u64.wrap (U:Int)=(U:Int):=by rw [a0x];omega
   have e2:IntKind.u64.wrap (V:Int)=(V:Int):=by rw [a0x];omega
   have e3:IntKind.u64.wrap (Wd:Int)=(Wd:Int):=by rw [a0x];omega
   have e4:IntKind.u64.wrap ((U:Int) * (V:Int))=((U * V:Nat):Int):=by rw [a0x,← h1V];omega
   have e5:IntKind.u64.wrap (((U * V:Nat):Int) + (Wd:Int))=((U * V + Wd:Nat):Int):=by rw [a0x];omega
   have e7:IntKind.i64.wrap ((i:Int) + (q:Int))=((i + q:Nat):Int):=by rw [a0Y (by omega) (by omega)];omega
   obtain ⟨c1,hc1⟩:∃ c1,c + (U * V + Wd)=c1:=⟨_,rfl⟩
   have e6:IntKind.u64.wrap (((U * V + Wd:Nat):Int) + (c:Int))=(c1:Int):=by rw [a0x];omega
   rw [hc1] at hset
   have q2:IntKind.u32.wrap ((c1:Int))=((c1 % 4294967296:Nat):Int):=by rw [e0Y];omega
   have hst:=e0l (fl:=H.size) (x:=c1 % 4294967296) hbo (h1A _) hlo
   simp
   refine a0B ?_
   simp [-Int.natCast_add,-Int.natCast_mul,-Int.natCast_emod,-Int.natCast_ediv,C0e,C0f,C0g,g0,g1,g5,g6,g7,g8,a1,a2,b1,b2,e1,e2,e3,e4,e5,e6,e7,hio,hro,q2,hst]
   unfold e0N
   simp [-Int.natCast_add,w0B,g8,e9]
   refine c0f.mk ⟨by simp [g0],by simp [g1],by simp [g5],by simp [g6],by simp,c1 / 4294967296,by simp,hx.set (h1A _),o.set (i + q) (c1 % 4294967296),a0A (a0l hbo),by simp [hol],b0X hok (by omega),by omega,?_,?_⟩
   ·have f1:4294967296 ^ (i + (q + 1)) * (c1 / 4294967296)=4294967296 ^ (i + q) * (4294967296 * (c1 / 4294967296)):=by
     rw [show i + (q + 1)=i + q + 1 by omega,h1Z,h1U]
    have f2:4294967296 ^ (i + q) * (c1 % 4294967296) + 4294967296 ^ (i + q) * (4294967296 * (c1 / 4294967296))=4294967296 ^ (i + q) * c1:=by rw [← h1P,j1Z]
    have f3:4294967296 ^ (i + q) * c1=4294967296 ^ (i + q) * c + (4294967296 ^ (i + q) * (U * V) + 4294967296 ^ (i + q) * Wd):=by rw [← hc1,h1P,h1P]
    have f4:4294967296 ^ i * (U * (a0w (List.take q b) + 4294967296 ^ q * V))=4294967296 ^ i * (U * a0w (List.take q b)) + 4294967296 ^ (i + q) * (U * V):=by
     rw [h1P,h1P,j1y]
     congr 1
     rw [h1U,j1x U]
    rw [hB2,f4,f1]
    omega
   ·intro r hr
    have:=hz r hr
    have h:=(b0P (l:=o) (z:=c1 % 4294967296) (show i + q ≠ r by omega)).trans this
    rw [h1z] at h;exact h
  ·subst heq
   have hlo:i + b.length < o.length:=by omega
   obtain ⟨hio,hro⟩:=f0i (k:=.i64) (cap:=N) hbo hlo hol
   have hset:=h0N o (i + b.length) (c % 4294967296) hlo
   rw [hz _ (h1A _)] at hset
   have e7:IntKind.i64.wrap ((i:Int) + (b.length:Int))=((i + b.length:Nat):Int):=by rw [a0Y (by omega) (by omega)];omega
   have q2:IntKind.u32.wrap ((c:Int))=(c:Int):=by rw [e0Y];omega
   have hst:=e0l (fl:=H.size) (x:=c) hbo (h1A _) hlo
   simp [-Int.natCast_add,w0C,g1,g5,g6,g7,kb.slen,e7,q2,hio,hst]
   unfold e0N
   simp [-Int.natCast_add,w0D,g6,e8]
   refine c0f.mk ⟨by simp [g0],by simp [g1],by simp [g5],by simp,hx.set (h1A _),o.set (i + b.length) c,a0A (a0l hbo),by simp [hol],b0X hok (by omega),?_,?_⟩
   ·rw [i1d hc] at hset
    rw [hA2,h1X,h1U]
    rw [h1T] at hs
    omega
   ·intro r hr
    have:=hz r (by omega)
    have h:=(b0P (l:=o) (z:=c) (show i + b.length ≠ r by omega)).trans this
    rw [h1z] at h;exact h
 ·subst heq
  rw [h1T] at hs
  simp [w0E,g5]
  refine (f0k (l:=o) ⟨⟨by simp,.inr ⟨H.size,0,N,false,c0c o,by rw [hol],hbo,by simp,by rw [i1V,i1H,← i0S (l:=o),h1T]⟩⟩,hok⟩ hx.1 (by omega)).mono ?_
  rintro r G2 ⟨ht,hx2⟩
  simp
  intro _
  rw [b0U _ hok,hs] at ht
  exact ht
theorem U0y {E:Env} {nt tc b b2:Nat} {body:SCode} {rx rc:List a0L} {Q:d0X} {ρ:Nat→Value} (Inv:Nat→(Nat→Value)→a0f→Prop) (n:Nat) (htc:tc < nt) (hI:Inv 0 ρ H)
  (step:∀ i ρ G,i≤n→Inv i ρ G→WR E fl rc (T nt ρ) G (h0X E fl nt tc b b2 body rx (fun t H=>Q .normal t H) Q R n i Inv) R) :
  W E fl (.loop (.seq (.seq (.reg rc) (.cond (.tmp tc) .skip (.exit b))) (.seq (.block b2 body) (.reg rx)))) (T nt ρ) H (e0P b Q) R:=by
 have h:=v0I (Z:=fun t H=>Q .normal t H) (Q:=Q) Inv n htc hI step
 rwa [h0V] at h
theorem U0C {x:Nat} (hx:x < 4294967296):d0d 0 .and (.int .u32 (x:Int)) (.int .u32 1)=some (.int .u32 ((x % 2:Nat):Int)):=by
 have h0:d0d 0 .and (.int .u32 (x:Int)) (.int .u32 1)=some (.int .u32 (IntKind.u32.wrap (BitVec.ofInt IntKind.u32.bits (x:Int) &&& BitVec.ofInt IntKind.u32.bits 1).toNat)):=by unfold d0d;simp
 rw [h0]
 have e1:(BitVec.ofInt IntKind.u32.bits (x:Int) &&& BitVec.ofInt IntKind.u32.bits 1).toNat=x % 2:=by
  show (BitVec.ofInt 32 (x:Int) &&& BitVec.ofInt 32 1).toNat=x % 2
  rw [BitVec.toNat_and,j1E,j1E]
  have e2:((x:Int) % (2 ^ 32:Nat)).toNat=x:=by omega
  have e3:((1:Int) % (2 ^ 32:Nat)).toNat=1:=by decide
  rw [e2,e3,Nat.and_one_is_mod]
 rw [e1,r0k]
 congr 3
 omega
theorem Z0x {x k:Nat} (hk:k < 32) (hx:x < 4294967296) (h2:x % 2 ^ (k + 1)=0):x + 2 ^ k < 4294967296∧d0d 0 .or (.int .u32 (x:Int)) (.int .u32 ((2 ^ k:Nat):Int))=some (.int .u32 ((x + 2 ^ k:Nat):Int)):=by
 have hp:2 ^ k < 2 ^ (k + 1):=Nat.pow_lt_pow_right (by omega) (by omega)
 obtain ⟨y,rfl⟩:=Nat.dvd_of_mod_eq_zero h2
 have hle:2 ^ (k + 1) * (y + 1)≤4294967296:=by
  have e:(4294967296:Nat)=2 ^ (k + 1) * 2 ^ (31 - k):=by rw [← j1y,show k + 1 + (31 - k)=32 by omega]
  rw [e] at hx ⊢
  exact i1b _ (j1c hx)
 have hlt:2 ^ (k + 1) * y + 2 ^ k < 4294967296:=by rw [h1P] at hle;omega
 refine ⟨hlt,?_⟩
 have hor:=j1z hp y
 rw [k0f]
 have e1:(BitVec.ofInt IntKind.u32.bits ((2 ^ (k + 1) * y:Nat):Int) ||| BitVec.ofInt IntKind.u32.bits ((2 ^ k:Nat):Int)).toNat=2 ^ (k + 1) * y + 2 ^ k:=by
  show (BitVec.ofInt 32 ((2 ^ (k + 1) * y:Nat):Int) ||| BitVec.ofInt 32 ((2 ^ k:Nat):Int)).toNat=_
  rw [BitVec.toNat_or,j1E,j1E]
  rw [hor]
  generalize 2 ^ (k + 1) * y=x at *
  generalize 2 ^ k=z at *
  have e2:((x:Int) % (2 ^ 32:Nat)).toNat=x:=by omega
  have e3:((z:Int) % (2 ^ 32:Nat)).toNat=z:=by omega
  rw [e2,e3]
 rw [e1,r0k,i1d hlt]
theorem K0L {X B R t:Nat} (hB:0 < B) (hR:X % B=R) (ht:t < 2):(2 * R + t < B→(2 * X + t) / B=2 * (X / B)∧(2 * X + t) % B=2 * R + t)∧(B≤2 * R + t→(2 * X + t) / B=2 * (X / B) + 1∧(2 * X + t) % B=2 * R + t - B):=by
 have h1:=j1M X B
 rw [hR] at h1
 have hRB:R < B:=by rw [← hR];exact i1X _ hB
 have e:2 * X + t=B * (2 * (X / B)) + (2 * R + t):=by rw [j1x];omega
 constructor
 ·intro h
  rw [e,Nat.mul_add_div hB,Nat.mul_add_mod,j1t h,i1d h]
  exact ⟨rfl,rfl⟩
 ·intro h
  have hlt2:2 * R + t - B < B:=by omega
  have e2:2 * X + t=B * (2 * (X / B)) + B + (2 * R + t - B):=by omega
  rw [← Nat.mul_succ] at e2
  rw [e2,Nat.mul_add_div hB,Nat.mul_add_mod,j1t hlt2,i1d hlt2]
  exact ⟨rfl,rfl⟩
theorem A0D (A k:Nat):A / 2 ^ k=2 * (A / 2 ^ (k + 1)) + A / 2 ^ k % 2:=by
 rw [h1Z,← Nat.div_div_eq_div_mul];omega
theorem i0H {A B:Nat} (ha:Lim H v (a0p A)) (hb:Lim H w (a0p B)) (hB:0 < B) (hf:fl≤H.size) (hna:(a0p A).length < 536870912) (hnb:(a0p B).length < 536870912) :
  a0S env fl y0m [v,w] H (fun r H'=>(∃ x y,r=.tuple #[x,y]∧Lim H' x (a0p (A / B))∧Lim H' y (a0p (A % B)))∧Ext H H') R:=by
 refine a0i e1u hf (h:=?_)
 intro ρ h0
 simp [M0M,F0I,F0J,h0]
 refine (j0b ha hb (h1A _) (by omega)).mono ?_
 rintro _ G ⟨rfl,hx⟩
 rw [d0B,c0g]
 by_cases hlt:A < B
 ·simp [hlt,F0K,h0]
  refine fun _=>⟨.slice none 0 0,v,⟨rfl,rfl⟩,?_,?_⟩
  ·rw [j1t hlt,a0W];exact Lim.nil
  ·rw [i1d hlt];exact ha.mono hx
 have hnn:¬ (if B < A then (1:Int) else 0) < 0:=by split <;> decide
 obtain ⟨a,hA⟩:∃ a,a=a0p A:=⟨_,rfl⟩
 rw [← hA] at ha hna
 have hAn:a0w a=A:=by rw [hA,a0q]
 have hm:=X0v (bytes:=4) (k:=.i64) (k':=.i64) (l:=(a.length:Int)) (c:=(a.length:Int)) (by omega) (by omega) (by omega) (by omega)
 have w1:IntKind.i64.wrap ((a.length:Int) - 1)=(a.length:Int) - 1:=a0Y (by omega) (by omega)
 have ka:=ha.mono hx
 simp [hlt,hnn,h0,F0L,F0M,F0N,ka.slen,hm,w1]
 rw [← p0o]
 generalize hG:Array.push G _=G0
 obtain ⟨hx2,b0⟩:=g0r hG
 clear hG
 have hx0:=hx.trans hx2
 have hP:=hx.1
 generalize Array.size G=p at b0 hP
 refine v0I (fun n ρ G=>ρ 0=v∧ρ 1=w∧ρ 6=.slice (some ⟨p,0,none⟩) a.length a.length∧ρ 8=.int .i64 ((a.length:Int) - 1 - n)∧n≤a.length∧Ext H G∧Lim G (ρ 7) (a0p (a0w (a.drop (a.length - n)) % B)) ∧
   ∃ o,a0f.blk G p=.row false a0k (c0c o)∧o.length=a.length∧b0u o∧a0w o=4294967296 ^ (a.length - n) * (a0w (a.drop (a.length - n)) / B)∧∀ t,t < a.length - n→o.getD t 0=0)
  a.length (by decide) ⟨by simp [h0],by simp [h0],by simp,by simp,by omega,hx0,by simp [a0w,a0W];exact Lim.nil,List.replicate a.length 0,b0,by simp,by intro x hx;simp at hx;omega,by simp [a0w,k0q],fun t _=>by simp [h1z,j1v];split <;> rfl⟩ ?_
 clear h0 ρ hm b0 hx0 hx2 hx ka w1 G G0 hnn
 rintro n ρ G hn1 ⟨g0,g1,g6,g8,hn,hx,hr,o,hbo,hol,hok,hs,hz⟩
 by_cases hnl:n < a.length
 ·obtain ⟨i,hi⟩:∃ i,a.length - n=i + 1:=⟨a.length - n - 1,by omega⟩
  have hil:i < a.length:=by omega
  have g8':ρ 8=.int .i64 (i:Int):=by rw [g8];congr 1;omega
  have e8:IntKind.i64.wrap ((i:Int) - 1)=(a.length:Int) - 1 - ((n + 1:Nat):Int):=by rw [a0Y (by omega) (by omega)];omega
  rw [hi] at hr hs hz
  have hdr:=f0C hil
  have hA3:=c0d ha.ok i
  have aL:∀ G2,Ext H G2→b0x G2 false 1 (adr 1 v i)=some (.int .u32 ((a.getD i 0:Nat):Int)):=fun G2 h=>ha.load hil h
  generalize a.getD i 0=U at hdr hA3 aL
  generalize a0w (a.drop (i + 1))=D at hdr hr hs
  simp [u0A,g8']
  refine h0X.mk true (by simp) (fun _=>⟨hnl,?_⟩) (by simp)
  simp [F0O]
  refine U0y (fun q ρ G=>ρ 0=v∧ρ 1=w∧ρ 6=.slice (some ⟨p,0,none⟩) a.length a.length∧ρ 8=.int .i64 (i:Int)∧ρ 9=.int .i64 ((31:Int) - q)∧q≤32∧Ext H G∧Lim G (ρ 7) (a0p ((D * 2 ^ q + U / 2 ^ (32 - q)) % B)) ∧
    ∃ o,a0f.blk G p=.row false a0k (c0c o)∧o.length=a.length∧b0u o∧a0w o=4294967296 ^ i * (2 ^ (32 - q) * ((D * 2 ^ q + U / 2 ^ (32 - q)) / B))∧(∀ t,t < i→o.getD t 0=0)∧o.getD i 0 % 2 ^ (32 - q)=0)
   32 (by decide) ?_ ?_
  ·have hU:U / 2 ^ 32=0:=j1t (by omega)
   refine ⟨by simp [g0],by simp [g1],by simp [g6],by simp [g8'],by simp,by omega,hx,?_,o,hbo,hol,hok,?_,fun t ht=>hz t (by omega),?_⟩
   ·rw [k1D,hU,Nat.pow_zero,i1H,i1J];simpa using hr
   ·rw [k1D,hU,Nat.pow_zero,i1H,i1J,hs,h1Z,h1U]
   ·rw [hz i (by omega)]
  clear g0 g1 g6 g8 g8' hx hr hbo hol hok hs hz o G ρ
  rintro q ρ G hq1 ⟨g0,g1,g6,g8,g9,hq2,hx,hr,o,hbo,hol,hok,hs,hz,hbit⟩
  by_cases hq:q < 32
  ·obtain ⟨k,hk⟩:∃ k,32 - q=k + 1:=⟨31 - q,by omega⟩
   have g9':ρ 9=.int .i64 (k:Int):=by rw [g9];congr 1;omega
   have e9:IntKind.i64.wrap ((k:Int) - 1)=(31:Int) - ((q + 1:Nat):Int):=by rw [a0Y (by omega) (by omega)];omega
   have hk2:32 - (q + 1)=k:=by omega
   have ek:IntKind.u64.wrap (k:Int)=(k:Int):=by rw [a0x];omega
   have ka:=ha.mono hx
   have a1:=ka.ia hil (k:=.i64)
   have a2:=aL G hx
   have hsh:d0d 0 .shr (.int .u32 (U:Int)) (.int .u64 (k:Int))=some (.int .u32 ((U / 2 ^ k:Nat):Int)):=r0g (by omega)
   have hUk:U / 2 ^ k < 4294967296:=k1x (i1M _ _) hA3
   have han:=U0C hUk
   have hhb:=A0D U k
   rw [hk] at hr hs hbit
   obtain ⟨X,hX⟩:∃ X,D * 2 ^ q + U / 2 ^ (k + 1)=X:=⟨_,rfl⟩
   have hXs:D * 2 ^ (q + 1) + U / 2 ^ k=2 * X + U / 2 ^ k % 2:=by
    have:D * 2 ^ (q + 1)=2 * (D * 2 ^ q):=by rw [h1Z,← h1U,i1e]
    omega
   rw [hX] at hr hs
   obtain ⟨bt,hbt⟩:∃ bt,U / 2 ^ k % 2=bt:=⟨_,rfl⟩
   rw [hbt] at han hXs
   have hbt2:bt < 2:=by omega
   obtain ⟨Uk,hUK⟩:∃ Uk,U / 2 ^ k=Uk:=⟨_,rfl⟩
   rw [hUK] at hsh han hXs hUk hhb hbt
   have hst:=K0L (X:=X) hB rfl hbt2
   have hRB:X % B < B:=i1X _ hB
   obtain ⟨r0,g7⟩:∃ r0,ρ 7=r0:=⟨_,rfl⟩
   rw [g7] at hr
   have hlenR:(a0p (X % B)).length≤(a0p B).length:=a0V (j1Y hRB)
   have hbn:((bt:Int) == 1).toNat=bt:=by
    have:bt=0 ∨ bt=1:=by omega
    rcases this with h | h <;> rw [h] <;> rfl
   simp [u0B,g9']
   refine h0X.mk true (by simp) (fun _=>⟨hq,?_⟩) (by simp)
   simp [F0P,g0,g7,g8,g9',a1,a2,ek,hsh,han]
   refine (o0c hr hx.1 (by omega)).mono ?_
   rintro r1 G1 ⟨⟨hr1,hn1'⟩,hx2⟩
   have hnp1:=hn1'.ne (a0l hbo)
   rw [a0q,hbn] at hr1
   replace hx:=hx.trans hx2
   replace hbo:=hx2.blk hbo
   have kb:=hb.mono hx
   obtain ⟨R',hR'⟩:∃ R',2 * (X % B) + bt=R':=⟨_,rfl⟩
   rw [hR'] at hr1
   have hlen:(a0p R').length≤(a0p B).length + 1:=by
    refine e0h ?_
    have:=e0u B
    rw [h1Z]
    omega
   rw [hR'] at hst
   simp [w0W,g1]
   refine (j0b hr1 kb hx.1 (by omega)).mono ?_
   rintro _ G2 ⟨rfl,hx2⟩
   rw [d0B,c0g]
   replace hx:=hx.trans hx2
   replace hbo:=hx2.blk hbo
   replace kb:=kb.mono hx2
   replace hr1:=hr1.mono hx2
   have hiL:i < o.length:=by omega
   by_cases hge:B≤R'
   ·have hc1:¬ R' < B:=by omega
    have hc2:((0:Int)≤if B < R' then 1 else 0):=by split <;> decide
    obtain ⟨d1,d2⟩:=hst.2 hge
    simp [hc1,hc2,w0X,g1]
    refine (k0Y hr1 kb hx.1 (by omega) (a0V hge) (by rw [a0q,a0q];exact hge) (by
     rcases j1H (a0p R').length with h | h
     ·have:=b0I.1 (i1i.1 h);omega
     ·exact h)).mono ?_
    rintro r2 G3 ⟨⟨hr2,hn2'⟩,hx2⟩
    have hnp2:=hn2'.ne (a0l hbo)
    rw [a0q,a0q] at hr2
    replace hx:=hx.trans hx2
    replace hbo:=hx2.blk hbo
    obtain ⟨o1,o2⟩:=f0i (k:=.i64) (cap:=a.length) hbo hiL hol
    have hol3:=c0d hok i
    have hset:=h0N o i (o.getD i 0 + 2 ^ k) hiL
    generalize hy:o.getD i 0=y at o2 hol3 hset hbit
    obtain ⟨hy1,hor⟩:=Z0x (by omega) hol3 hbit
    have hsl:d0d 0 .shl (.int .u32 1) (.int .u64 (k:Int))=some (.int .u32 ((2 ^ k:Nat):Int)):=by
     have h:=r0f (tag:=0) (n:=1) (s:=k) (k':=.u64) (by omega)
     have h2:1 * 2 ^ k % 4294967296=2 ^ k:=by rw [i1r];exact i1d (by omega)
     rw [h2] at h;exact h
    have hsto:=e0l (fl:=H.size) (x:=y + 2 ^ k) hbo hP hiL
    have hyb:(y + 2 ^ k) % 2 ^ k=0:=by
     obtain ⟨z,hz⟩:=Nat.dvd_of_mod_eq_zero hbit
     rw [hz,h1Z,h1U,Nat.add_mod_right,Nat.mul_mod_right]
    have hpk:2 ^ (k + 1)=2 * 2 ^ k:=by rw [h1Z,i1e]
    obtain ⟨K,hpk'⟩:∃ K,K=2 ^ k:=⟨_,rfl⟩
    rw [← hpk'] at hy1 hor hsl hsto hyb hset hpk
    have hbo':=hbo
    have hmodK:∀ y,y % K=0→True:=fun _ _=>trivial
    simp [-Int.natCast_add,-k0f,w0Y,g6,g8,g9',o1,o2,ek,hsl,hor,hsto]
    unfold e0N
    simp [-Int.natCast_add,q0P,g9',e9]
    refine c0f.mk ⟨by simp [g0],by simp [g1],by simp [g6],by simp [g8],by simp,by omega,hx.set hP,?_,o.set i (y + K),a0A (a0l hbo),by simp [hol],b0X hok hy1,?_,?_,?_⟩
    ·rw [hk2,hUK,hXs,d2]
     simp
     exact Lim.off hr2 (e0p.refl.set) hnp2
    ·rw [hk2,hUK,hXs,d1,← hpk']
     rw [hs,hpk] at hset
     have f1:4294967296 ^ i * (K * (2 * (X / B) + 1))=4294967296 ^ i * (2 * K * (X / B)) + 4294967296 ^ i * K:=by
      rw [← h1P];congr 1;rw [h1P,i1H];congr 1;rw [j1x,h1U]
     rw [h1P] at hset
     omega
    ·intro t ht
     have h:=(b0P (l:=o) (z:=y + K) (show i ≠ t by omega)).trans (hz t ht)
     rw [h1z] at h;exact h
    ·rw [hk2,← hpk',j1a hiL];exact hyb
   ·obtain ⟨d1,d2⟩:=hst.1 (by omega)
    have hc1:R' < B:=by omega
    have hpk:2 ^ (k + 1)=2 * 2 ^ k:=by rw [h1Z,i1e]
    simp [hc1]
    unfold e0N
    simp [-Int.natCast_add,q0P,g9',e9]
    refine c0f.mk ⟨by simp [g0],by simp [g1],by simp [g6],by simp [g8],by simp,by omega,hx,?_,o,hbo,hol,hok,?_,?_,?_⟩
    ·rw [hk2,hUK,hXs,d2]
     simp
     exact hr1
    ·rw [hk2,hUK,hXs,d1,hs,hpk]
     congr 1
     rw [j1x,h1U]
    ·intro t ht
     have h:=hz t ht
     rw [h1z] at h;exact h
    ·rw [hk2]
     obtain ⟨z,hz2⟩:=Nat.dvd_of_mod_eq_zero hbit
     rw [h1z] at hz2
     rw [hz2,h1Z,h1U,Nat.mul_mod_right]
  ·have hq3:q=32:=by omega
   subst hq3
   rw [Nat.sub_self,Nat.pow_zero,Nat.div_one,i1r] at hs
   rw [Nat.sub_self,Nat.pow_zero,Nat.div_one] at hr
   have hD:D * 2 ^ 32 + U=a0w (a.drop i):=by rw [hdr];omega
   rw [hD] at hr hs
   simp [u0B,g9]
   refine h0X.mk false (by simp) (by simp) (fun _=>?_)
   unfold e0N
   simp [-Int.natCast_add,w0Z,g8,e8]
   have hi2:a.length - (n + 1)=i:=by omega
   refine c0f.mk ⟨by simp [g0],by simp [g1],by simp [g6],by simp,by omega,hx,by rw [hi2];simpa using hr,o,hbo,hol,hok,by rw [hi2];exact hs,fun t ht=>?_⟩
   have h:=hz t (by omega)
   rw [h1z] at h;exact h
 ·have hn2:n=a.length:=by omega
  subst hn2
  rw [Nat.sub_self,i1V,hAn] at hr hs
  rw [Nat.pow_zero,i1r] at hs
  simp [u0A,g8]
  refine h0X.mk false (by simp;omega) (by simp) (fun _=>?_)
  obtain ⟨r0,g7⟩:∃ r0,ρ 7=r0:=⟨_,rfl⟩
  rw [g7] at hr
  simp [x0a,g6,g7]
  refine (f0k (l:=o) ⟨⟨by simp,.inr ⟨p,0,a.length,false,c0c o,by rw [hol],hbo,by simp,by rw [i1V,i1H,← i0S (l:=o),h1T]⟩⟩,hok⟩ hx.1 (by omega)).mono ?_
  rintro r G2 ⟨ht,hx2⟩
  rw [b0U _ hok,hs] at ht
  simp [g7]
  exact fun _=>⟨_,_,⟨rfl,rfl⟩,ht,hr.mono hx2⟩
end
section
open Go
set_option maxHeartbeats 4000000
variable {fl:Nat} {H G:a0f} {R:a0G} {v w:Value} {i j:Bool × List Nat}
theorem j0a (h:b0d H v i) (hf:fl≤H.size) (hn:i.2.length≤1073741824):a0S env fl t0x [v] H (fun r H'=>b0d H' r (a0j (-a0z i))∧Ext H H') R:=by
 have k0:=h
 have hok:=h.ok
 obtain ⟨s,rfl,hs⟩:=h
 refine a0i e1h hf (h:=?_)
 intro ρ h0
 simp [M0A,E0n,h0,hs.cells]
 generalize hG:Array.push (Array.push H _) _=G
 have hx2:Ext H G:=by rw [← hG];exact (Ext.refl H).push.push
 have b0:a0f.blk G H.size=.row false a0a [.bool i.1,s]:=by rw [← hG];simp
 have b1:a0f.blk G (H.size + 1)=.row false a0a [.bool false,.slice none 0 0]:=by rw [← hG];simp
 have hx:=Ext.refl H
 clear hG
 replace hx:=hx.trans hx2;replace k0:=k0.mono hx2
 simp [E0o,b0]
 refine (b0Q k0 hx.1 (by omega)).mono ?_
 rintro _ G2 ⟨⟨s1,rfl,k1⟩,hx2⟩
 replace b0:=hx2.blk b0;replace b1:=hx2.blk b1;replace hx:=hx.trans hx2;replace k0:=k0.mono hx2
 have hsz:=hx.1
 simp [b0,k1.cells,k1.plain,hsz]
 generalize hS:Array.setIfInBounds G2 _ _=G3
 have hsz:=hx.1;replace k0:=k0.setS hS b0 (by decide);replace k1:=k1.setS hS b0 (by decide);replace b1:=a0o hS b1 (by omega);replace hx:=a0E hS hx (by omega);replace b0:=a0s hS b0;clear hS hsz
 simp [E0p,b0]
 have hl:=a0v hok
 refine (c0e (-a0z i) k1 hx.1 (by show (a0p _).length≤_;omega) ?_).mono ?_
 ·show (if (!decide (a0z i < 0))=true then -((a0w (a0p (a0z i).natAbs):Nat):Int) else _)=_
  rw [a0q]
  by_cases hz:a0z i < 0 <;> simp [hz,a0q,a0j] <;> omega
 rintro _ G2 ⟨⟨s2,rfl,k2⟩,hx2⟩
 replace b0:=hx2.blk b0;replace b1:=hx2.blk b1;replace hx:=hx.trans hx2;replace k0:=k0.mono hx2;replace k1:=k1.mono hx2
 have hsz:=hx.1
 simp [b1,k2.cells,k2.plain,hsz]
 generalize hS:Array.setIfInBounds G2 _ _=G4
 have hsz:=hx.1;replace k0:=k0.setS hS b1 (by decide);replace k1:=k1.setS hS b1 (by decide);replace k2:=k2.setS hS b1 (by decide);replace b0:=a0o hS b0 (by omega);replace hx:=a0E hS hx (by omega);replace b1:=a0s hS b1;clear hS hsz
 simp [b1]
 exact fun _=>⟨s2,rfl,k2⟩
theorem W0v (x y:Int):(if (decide (x < 0) != decide (y < 0))=true then -((x.natAbs * y.natAbs:Nat):Int) else ((x.natAbs * y.natAbs:Nat):Int))=x * y:=by
 rw [← j1i]
 by_cases hi:x < 0 <;> by_cases hj:y < 0
 ·have:=Int.mul_pos_of_neg_of_neg hi hj
  simp [hi,hj];omega
 ·have:=i1A (Int.le_of_lt hi) (show 0≤y by omega)
  simp [hi,hj];omega
 ·have:=Int.mul_nonpos_of_nonneg_of_nonpos (show 0≤x by omega) (Int.le_of_lt hj)
  simp [hi,hj];omega
 ·have:=j1T (show 0≤x by omega) (show 0≤y by omega)
  simp [hi,hj];omega
theorem d0D (h:b0d H v i) (k:b0d H w j) (hf:fl≤H.size) (hn:i.2.length < 268435456) (hm:j.2.length < 268435456):a0S env fl A0z [v,w] H (fun r H'=>b0d H' r (a0j (a0z i * a0z j))∧Ext H H') R:=by
 have k0:=h
 have k1:=k
 have hok:=h.ok
 have hok2:=k.ok
 obtain ⟨s,rfl,hs⟩:=h
 obtain ⟨u,rfl,hu⟩:=k
 refine a0i g1Q hf (h:=?_)
 intro ρ h0
 simp [c1i,S0j,h0,hs.cells,hu.cells]
 generalize hG:Array.push (Array.push (Array.push H _) _) _=G
 have hx2:Ext H G:=by rw [← hG];exact (Ext.refl H).push.push.push
 have b0:a0f.blk G H.size=.row false a0a [.bool i.1,s]:=by rw [← hG];simp
 have b1:a0f.blk G (H.size + 1)=.row false a0a [.bool j.1,u]:=by rw [← hG];simp
 have b2:a0f.blk G (H.size + 2)=.row false a0a [.bool false,.slice none 0 0]:=by rw [← hG];simp
 have hx:=Ext.refl H
 clear hG
 replace hx:=hx.trans hx2;replace k0:=k0.mono hx2;replace k1:=k1.mono hx2
 simp [S0k,b0]
 refine (b0Q k0 hx.1 (by omega)).mono ?_
 rintro _ G2 ⟨⟨s1,rfl,k2⟩,hx2⟩
 replace b0:=hx2.blk b0;replace b1:=hx2.blk b1;replace b2:=hx2.blk b2;replace hx:=hx.trans hx2;replace k0:=k0.mono hx2;replace k1:=k1.mono hx2
 have hsz:=hx.1
 simp [b0,k2.cells,k2.plain,hsz]
 generalize hS:Array.setIfInBounds G2 _ _=G3
 have hsz:=hx.1;replace k0:=k0.setS hS b0 (by decide);replace k1:=k1.setS hS b0 (by decide);replace k2:=k2.setS hS b0 (by decide);replace b1:=a0o hS b1 (by omega);replace b2:=a0o hS b2 (by omega);replace hx:=a0E hS hx (by omega);replace b0:=a0s hS b0;clear hS hsz
 simp [S0l,b1]
 refine (b0Q k1 hx.1 (by omega)).mono ?_
 rintro _ G2 ⟨⟨s2,rfl,k3⟩,hx2⟩
 replace b0:=hx2.blk b0;replace b1:=hx2.blk b1;replace b2:=hx2.blk b2;replace hx:=hx.trans hx2;replace k0:=k0.mono hx2;replace k1:=k1.mono hx2;replace k2:=k2.mono hx2
 have hsz:=hx.1
 simp [b1,k3.cells,k3.plain,hsz]
 generalize hS:Array.setIfInBounds G2 _ _=G4
 have hsz:=hx.1;replace k0:=k0.setS hS b1 (by decide);replace k1:=k1.setS hS b1 (by decide);replace k2:=k2.setS hS b1 (by decide);replace k3:=k3.setS hS b1 (by decide);replace b0:=a0o hS b0 (by omega);replace b2:=a0o hS b2 (by omega);replace hx:=a0E hS hx (by omega);replace b1:=a0s hS b1;clear hS hsz
 clear k0 k1
 have hl:=a0v hok
 have hl2:=a0v hok2
 refine a0B ?_
 simp [S0m,b0,b1]
 refine (t0X k2 k3 (by have:=hx.1;omega) (by show (a0p _).length < _;omega) (by show (a0p _).length < _;omega)).mono ?_
 rintro x G2 ⟨k4,hx2⟩
 replace b0:=hx2.blk b0;replace b1:=hx2.blk b1;replace b2:=hx2.blk b2;replace hx:=hx.trans hx2;replace k2:=k2.mono hx2;replace k3:=k3.mono hx2
 rw [show a0w (a0j (a0z i)).2=(a0z i).natAbs from a0q _,show a0w (a0j (a0z j)).2=(a0z j).natAbs from a0q _] at k4
 simp
 have hlen:(a0p ((a0z i).natAbs * (a0z j).natAbs)).length≤i.2.length + j.2.length:=by
  refine h1R (e0h (k:=(a0p (a0z i).natAbs).length + (a0p (a0z j).natAbs).length) ?_) (by omega)
  rw [j1y]
  exact Nat.mul_lt_mul_of_lt_of_le (e0u _) (j1Y (e0u _)) (Nat.pow_pos (by omega))
 refine (c0e (a0z i * a0z j) k4 hx.1 (by omega) ?_).mono ?_
 ·rw [a0q]
  exact W0v _ _
 rintro _ G2 ⟨⟨s3,rfl,k5⟩,hx2⟩
 replace b0:=hx2.blk b0;replace b1:=hx2.blk b1;replace b2:=hx2.blk b2;replace hx:=hx.trans hx2;replace k2:=k2.mono hx2;replace k3:=k3.mono hx2;replace k4:=k4.mono hx2
 have hsz:=hx.1
 simp [b2,k5.cells,k5.plain,hsz]
 generalize hS:Array.setIfInBounds G2 _ _=G5
 have hsz:=hx.1;replace k2:=k2.setS hS b2 (by decide);replace k3:=k3.setS hS b2 (by decide);replace k4:=k4.setS hS b2 (by decide);replace k5:=k5.setS hS b2 (by decide);replace b0:=a0o hS b0 (by omega);replace b1:=a0o hS b1 (by omega);replace hx:=a0E hS hx (by omega);replace b2:=a0s hS b2;clear hS hsz
 simp [b2]
 exact fun _=>⟨s3,rfl,k5⟩
theorem c0k {n:Nat} (h:0 < n):0 < (a0p n).length:=by
 rcases j1H (a0p n).length with h2 | h2
 ·have:=b0I.1 (i1i.1 h2);omega
 ·exact h2
theorem m0A (h:b0d H v i) (k:b0d H w j) (hf:fl≤H.size) (hn:i.2.length < 268435456) (hm:j.2.length < 268435456):a0S env fl y0e [v,w] H (fun r H'=>b0d H' r (a0j (a0z i + a0z j))∧Ext H H') R:=by
 have k0:=h
 have k1:=k
 have hok:=h.ok
 have hok2:=k.ok
 obtain ⟨s,rfl,hs⟩:=h
 obtain ⟨u,rfl,hu⟩:=k
 refine a0i d1P hf (h:=?_)
 intro ρ h0
 simp [M0i,C0O,h0,hs.cells,hu.cells]
 generalize hG:Array.push (Array.push (Array.push H _) _) _=G
 have hx2:Ext H G:=by rw [← hG];exact (Ext.refl H).push.push.push
 have b0:a0f.blk G H.size=.row false a0a [.bool i.1,s]:=by rw [← hG];simp
 have b1:a0f.blk G (H.size + 1)=.row false a0a [.bool j.1,u]:=by rw [← hG];simp
 have b2:a0f.blk G (H.size + 2)=.row false a0a [.bool false,.slice none 0 0]:=by rw [← hG];simp
 have hx:=Ext.refl H
 clear hG
 replace hx:=hx.trans hx2;replace k0:=k0.mono hx2;replace k1:=k1.mono hx2
 simp [C0P,b0]
 refine (b0Q k0 hx.1 (by omega)).mono ?_
 rintro _ G2 ⟨⟨s1,rfl,k2⟩,hx2⟩
 replace b0:=hx2.blk b0;replace b1:=hx2.blk b1;replace b2:=hx2.blk b2;replace hx:=hx.trans hx2;replace k0:=k0.mono hx2;replace k1:=k1.mono hx2
 have hsz:=hx.1
 simp [b0,k2.cells,k2.plain,hsz]
 generalize hS:Array.setIfInBounds G2 _ _=G3
 have hsz:=hx.1;replace k0:=k0.setS hS b0 (by decide);replace k1:=k1.setS hS b0 (by decide);replace k2:=k2.setS hS b0 (by decide);replace b1:=a0o hS b1 (by omega);replace b2:=a0o hS b2 (by omega);replace hx:=a0E hS hx (by omega);replace b0:=a0s hS b0;clear hS hsz
 simp [C0Q,b1]
 refine (b0Q k1 hx.1 (by omega)).mono ?_
 rintro _ G2 ⟨⟨s2,rfl,k3⟩,hx2⟩
 replace b0:=hx2.blk b0;replace b1:=hx2.blk b1;replace b2:=hx2.blk b2;replace hx:=hx.trans hx2;replace k0:=k0.mono hx2;replace k1:=k1.mono hx2;replace k2:=k2.mono hx2
 have hsz:=hx.1
 simp [b1,k3.cells,k3.plain,hsz]
 generalize hS:Array.setIfInBounds G2 _ _=G4
 have hsz:=hx.1;replace k0:=k0.setS hS b1 (by decide);replace k1:=k1.setS hS b1 (by decide);replace k2:=k2.setS hS b1 (by decide);replace k3:=k3.setS hS b1 (by decide);replace b0:=a0o hS b0 (by omega);replace b2:=a0o hS b2 (by omega);replace hx:=a0E hS hx (by omega);replace b1:=a0s hS b1;clear hS hsz
 clear k0 k1
 have hl:=a0v hok
 have hl2:=a0v hok2
 obtain ⟨x,hx'⟩:∃ x,a0z i=x:=⟨_,rfl⟩
 obtain ⟨y,hy'⟩:∃ y,a0z j=y:=⟨_,rfl⟩
 rw [hx'] at b0 k2 hl ⊢
 rw [hy'] at b1 k3 hl2 ⊢
 have n1:a0w (a0j x).2=x.natAbs:=a0q _
 have n2:a0w (a0j y).2=y.natAbs:=a0q _
 have l1:(a0j x).2.length=(a0p x.natAbs).length:=rfl
 have l2:(a0j y).2.length=(a0p y.natAbs).length:=rfl
 have hlen:∀ m,m≤x.natAbs + y.natAbs→(a0p m).length≤i.2.length + j.2.length + 1:=by
  intro m hm
  refine h1R (e0h (k:=(a0p x.natAbs).length + (a0p y.natAbs).length + 1) ?_) (by omega)
  have h1:=e0u x.natAbs
  have h2:=e0u y.natAbs
  have h3:4294967296 ^ (a0p x.natAbs).length≤4294967296 ^ ((a0p x.natAbs).length + (a0p y.natAbs).length):=i1R (by omega) (by omega)
  have h4:4294967296 ^ (a0p y.natAbs).length≤4294967296 ^ ((a0p x.natAbs).length + (a0p y.natAbs).length):=i1R (by omega) (by omega)
  rw [h1Z]
  omega
 have c1:(a0j x).1=decide (x < 0):=rfl
 have c2:(a0j y).1=decide (y < 0):=rfl
 rw [c1] at b0
 rw [c2] at b1
 by_cases hsg:decide (x < 0)=decide (y < 0)
 ·simp [u0b,b0,b1,hsg]
  refine a0B ?_
  simp [C0R,b0,b1,hsg]
  refine (t0W k2 k3 (by have:=hx.1;omega) (by omega) (by omega)).mono ?_
  rintro z G2 ⟨k4,hx2⟩
  replace b0:=hx2.blk b0;replace b1:=hx2.blk b1;replace b2:=hx2.blk b2;replace hx:=hx.trans hx2;replace k2:=k2.mono hx2;replace k3:=k3.mono hx2
  rw [n1,n2] at k4
  simp
  refine (c0e (x + y) k4 hx.1 (by have:=hlen _ (h1A _);omega) ?_).mono ?_
  ·rw [a0q]
   by_cases hx0:x < 0
   ·have hy0:y < 0:=by simpa [hx0] using hsg
    simp [hy0];omega
   ·have hy0:¬ y < 0:=by simpa [hx0] using hsg
    simp [hy0];omega
  rintro _ G2 ⟨⟨s3,rfl,k5⟩,hx2⟩
  replace b0:=hx2.blk b0;replace b1:=hx2.blk b1;replace b2:=hx2.blk b2;replace hx:=hx.trans hx2;replace k2:=k2.mono hx2;replace k3:=k3.mono hx2;replace k4:=k4.mono hx2
  have hsz:=hx.1
  simp [b2,k5.cells,k5.plain,hsz]
  generalize hS:Array.setIfInBounds G2 _ _=G5
  have hsz:=hx.1;replace k2:=k2.setS hS b2 (by decide);replace k3:=k3.setS hS b2 (by decide);replace k4:=k4.setS hS b2 (by decide);replace k5:=k5.setS hS b2 (by decide);replace b0:=a0o hS b0 (by omega);replace b1:=a0o hS b1 (by omega);replace hx:=a0E hS hx (by omega);replace b2:=a0s hS b2;clear hS hsz
  simp [b2]
  exact fun _=>⟨s3,rfl,k5⟩
 ·simp [u0b,b0,b1,hsg,C0S]
  refine (j0b k2 k3 hx.1 (by omega)).mono ?_
  rintro _ G2 ⟨rfl,hx2⟩
  replace b0:=hx2.blk b0;replace b1:=hx2.blk b1;replace b2:=hx2.blk b2;replace hx:=hx.trans hx2;replace k2:=k2.mono hx2;replace k3:=k3.mono hx2
  rw [show x0Y (a0j x).2 (a0j y).2=c0z x.natAbs y.natAbs from d0B _ _,c0g]
  by_cases hge:y.natAbs≤x.natAbs
  ·have q1:¬ x.natAbs < y.natAbs:=by omega
   have q2:((0:Int)≤if y.natAbs < x.natAbs then 1 else 0):=by split <;> decide
   simp [q1,q2]
   refine a0B ?_
   simp [C0T,b0,b1]
   have hpos:0 < x.natAbs:=by
    rcases j1H x.natAbs with h0 | h0
    ·have e1:x=0:=by omega
     have e2:y=0:=by omega
     subst e1 e2;exact h1Y rfl hsg
    ·exact h0
   refine (m0D k2 k3 (by have:=hx.1;omega) (by omega) (a0V hge) (by rw [n1,n2];exact hge) (c0k hpos)).mono ?_
   rintro z G2 ⟨k4,hx2⟩
   replace b0:=hx2.blk b0;replace b1:=hx2.blk b1;replace b2:=hx2.blk b2;replace hx:=hx.trans hx2;replace k2:=k2.mono hx2;replace k3:=k3.mono hx2
   rw [n1,n2] at k4
   simp
   refine (c0e (x + y) k4 hx.1 (by have:=hlen (x.natAbs - y.natAbs) (by omega);omega) ?_).mono ?_
   ·rw [a0q]
    by_cases hx0:x < 0
    ·have hy0:¬ y < 0:=by simpa [hx0] using hsg
     simp [hx0];omega
    ·have hy0:y < 0:=by simpa [hx0] using hsg
     simp [hx0];omega
   rintro _ G2 ⟨⟨s3,rfl,k5⟩,hx2⟩
   replace b0:=hx2.blk b0;replace b1:=hx2.blk b1;replace b2:=hx2.blk b2;replace hx:=hx.trans hx2;replace k2:=k2.mono hx2;replace k3:=k3.mono hx2;replace k4:=k4.mono hx2
   have hsz:=hx.1
   simp [b2,k5.cells,k5.plain,hsz]
   generalize hS:Array.setIfInBounds G2 _ _=G5
   have hsz:=hx.1;replace k2:=k2.setS hS b2 (by decide);replace k3:=k3.setS hS b2 (by decide);replace k4:=k4.setS hS b2 (by decide);replace k5:=k5.setS hS b2 (by decide);replace b0:=a0o hS b0 (by omega);replace b1:=a0o hS b1 (by omega);replace hx:=a0E hS hx (by omega);replace b2:=a0s hS b2;clear hS hsz
   simp [b2]
   exact fun _=>⟨s3,rfl,k5⟩
  ·have q1:x.natAbs < y.natAbs:=by omega
   simp [q1]
   refine a0B ?_
   simp [C0U,b0,b1]
   refine (m0D k3 k2 (by have:=hx.1;omega) (by omega) (a0V (by omega)) (by rw [n1,n2];omega) (c0k (by omega))).mono ?_
   rintro z G2 ⟨k4,hx2⟩
   replace b0:=hx2.blk b0;replace b1:=hx2.blk b1;replace b2:=hx2.blk b2;replace hx:=hx.trans hx2;replace k2:=k2.mono hx2;replace k3:=k3.mono hx2
   rw [n1,n2] at k4
   simp
   refine (c0e (x + y) k4 hx.1 (by have:=hlen (y.natAbs - x.natAbs) (by omega);omega) ?_).mono ?_
   ·rw [a0q]
    by_cases hx0:x < 0
    ·have hy0:¬ y < 0:=by simpa [hx0] using hsg
     simp [hy0];omega
    ·have hy0:y < 0:=by simpa [hx0] using hsg
     simp [hy0];omega
   rintro _ G2 ⟨⟨s3,rfl,k5⟩,hx2⟩
   replace b0:=hx2.blk b0;replace b1:=hx2.blk b1;replace b2:=hx2.blk b2;replace hx:=hx.trans hx2;replace k2:=k2.mono hx2;replace k3:=k3.mono hx2;replace k4:=k4.mono hx2
   have hsz:=hx.1
   simp [b2,k5.cells,k5.plain,hsz]
   generalize hS:Array.setIfInBounds G2 _ _=G5
   have hsz:=hx.1;replace k2:=k2.setS hS b2 (by decide);replace k3:=k3.setS hS b2 (by decide);replace k4:=k4.setS hS b2 (by decide);replace k5:=k5.setS hS b2 (by decide);replace b0:=a0o hS b0 (by omega);replace b1:=a0o hS b1 (by omega);replace hx:=a0E hS hx (by omega);replace b2:=a0s hS b2;clear hS hsz
   simp [b2]
   exact fun _=>⟨s3,rfl,k5⟩
theorem t0V (h:b0d H v i) (k:b0d H w j) (hf:fl≤H.size) (hn:i.2.length < 268435456) (hm:j.2.length < 268435456):a0S env fl A0c [v,w] H (fun r H'=>b0d H' r (a0j (a0z i - a0z j))∧Ext H H') R:=by
 have k0:=h
 have k1:=k
 have hok2:=k.ok
 obtain ⟨s,rfl,hs⟩:=h
 obtain ⟨u,rfl,hu⟩:=k
 refine a0i d1G hf (h:=?_)
 intro ρ h0
 simp [L0Z,B0R,h0,hs.cells,hu.cells]
 generalize hG:Array.push (Array.push (Array.push H _) _) _=G
 have hx2:Ext H G:=by rw [← hG];exact (Ext.refl H).push.push.push
 have b0:a0f.blk G H.size=.row false a0a [.bool i.1,s]:=by rw [← hG];simp
 have b1:a0f.blk G (H.size + 1)=.row false a0a [.bool j.1,u]:=by rw [← hG];simp
 have b2:a0f.blk G (H.size + 2)=.row false a0a [.bool false,.slice none 0 0]:=by rw [← hG];simp
 have hx:=Ext.refl H
 clear hG
 replace hx:=hx.trans hx2;replace k0:=k0.mono hx2;replace k1:=k1.mono hx2
 refine a0B ?_
 simp [B0S,b0,b1]
 refine (j0a k1 (by have:=hx.1;omega) (by omega)).mono ?_
 rintro x G2 ⟨k2,hx2⟩
 replace b0:=hx2.blk b0;replace b1:=hx2.blk b1;replace b2:=hx2.blk b2;replace hx:=hx.trans hx2;replace k0:=k0.mono hx2;replace k1:=k1.mono hx2
 have hlen:(a0j (-a0z j)).2.length < 268435456:=by
  rw [r0V,Int.natAbs_neg];have:=a0v hok2;omega
 simp
 refine (m0A k0 k2 hx.1 hn hlen).mono ?_
 rintro _ G2 ⟨⟨s3,rfl,k5⟩,hx2⟩
 rw [a0h,← j1F] at k5 ⊢
 replace b0:=hx2.blk b0;replace b1:=hx2.blk b1;replace b2:=hx2.blk b2;replace hx:=hx.trans hx2;replace k0:=k0.mono hx2;replace k1:=k1.mono hx2;replace k2:=k2.mono hx2
 have hsz:=hx.1
 simp [b2,k5.cells,k5.plain,hsz]
 generalize hS:Array.setIfInBounds G2 _ _=G5
 have hsz:=hx.1;replace k0:=k0.setS hS b2 (by decide);replace k1:=k1.setS hS b2 (by decide);replace k2:=k2.setS hS b2 (by decide);replace k5:=k5.setS hS b2 (by decide);replace b0:=a0o hS b0 (by omega);replace b1:=a0o hS b1 (by omega);replace hx:=a0E hS hx (by omega);replace b2:=a0s hS b2;clear hS hsz
 simp [b2]
 exact fun _=>⟨s3,rfl,k5⟩
theorem t0U (h:b0d H v i) (k:b0d H w j) (hf:fl≤H.size) (hn:i.2.length < 268435456) (hm:j.2.length < 268435456):a0S env fl Y0S [v,w] H (fun r H'=>r=.int .i64 (c0z (a0z i) (a0z j))∧Ext H H') R:=by
 have k0:=h
 have k1:=k
 obtain ⟨s,rfl,hs⟩:=h
 obtain ⟨u,rfl,hu⟩:=k
 refine a0i g1P hf (h:=?_)
 intro ρ h0
 simp [c1h,S0e,h0,hs.cells,hu.cells]
 generalize hG:Array.push (Array.push H _) _=G
 have hx2:Ext H G:=by rw [← hG];exact (Ext.refl H).push.push
 have b0:a0f.blk G H.size=.row false a0a [.bool i.1,s]:=by rw [← hG];simp
 have b1:a0f.blk G (H.size + 1)=.row false a0a [.bool j.1,u]:=by rw [← hG];simp
 have hx:=Ext.refl H
 clear hG
 replace hx:=hx.trans hx2;replace k0:=k0.mono hx2;replace k1:=k1.mono hx2
 simp [S0f,b0,b1]
 refine (t0V k0 k1 hx.1 hn hm).mono ?_
 rintro _ G2 ⟨⟨s3,rfl,k5⟩,hx2⟩
 obtain ⟨z,hz⟩:∃ z,a0z i - a0z j=z:=⟨_,rfl⟩
 rw [hz] at k5 ⊢
 replace hx:=hx.trans hx2
 have hsz:=hx.1
 simp [k5.cells,k5.plain,hsz]
 generalize hN:Array.setIfInBounds (Array.push _ _) _ _=G3
 obtain ⟨hx2,b2⟩:=new1 hN
 clear hN
 replace hx:=hx.trans hx2;replace k5:=k5.mono hx2
 have hsl:=k5.slen
 have hc1:(a0j z).1=decide (z < 0):=rfl
 have hc2:(a0j z).2.length=(a0p z.natAbs).length:=rfl
 rw [hc1] at b2
 rw [hc2] at hsl
 unfold c0z
 by_cases h0z:z=0
 ·have e1:a0z i=a0z j:=by omega
  subst h0z
  have hd:a0p (Int.natAbs 0)=[]:=a0W
  simp [x0z,S0g,b2,hsl,hd,a0W,e1]
 ·have hpos:=c0k (show 0 < z.natAbs by omega)
  have hne:a0p z.natAbs ≠ []:=fun h=>by rw [h] at hpos;simp at hpos
  by_cases hneg:z < 0
  ·have e1:a0z i < a0z j:=by omega
   simp [x0z,J0p,S0h,b2,hsl,hne,hneg,e1]
  ·have e1:¬ a0z i < a0z j:=by omega
   have e2:a0z j < a0z i:=by omega
   simp [x0z,J0p,S0i,b2,hsl,hne,hneg,e1,e2]
theorem i0Z (h:b0d H v i) (k:b0d H w j) (hf:fl≤H.size) (hn:i.2.length < 268435456) (hm:j.2.length < 268435456):a0S env fl y0h [v,w] H (fun r H'=>b0d H' r (a0j (Int.gcd (a0z i) (a0z j)))∧Ext H H') R:=by
 have k0:=h
 have k1:=k
 have hok:=h.ok
 have hok2:=k.ok
 obtain ⟨s,rfl,hs⟩:=h
 obtain ⟨u,rfl,hu⟩:=k
 refine a0i e1c hf (h:=?_)
 intro ρ h0
 simp [M0v,D0U,h0,hs.cells,hu.cells]
 generalize hG:Array.push (Array.push (Array.push H _) _) _=G
 have hx2:Ext H G:=by rw [← hG];exact (Ext.refl H).push.push.push
 have b0:a0f.blk G H.size=.row false a0a [.bool i.1,s]:=by rw [← hG];simp
 have b1:a0f.blk G (H.size + 1)=.row false a0a [.bool j.1,u]:=by rw [← hG];simp
 have b2:a0f.blk G (H.size + 2)=.row false a0a [.bool false,.slice none 0 0]:=by rw [← hG];simp
 have hx:=Ext.refl H
 clear hG
 replace hx:=hx.trans hx2;replace k0:=k0.mono hx2;replace k1:=k1.mono hx2
 have l1:=a0v hok
 have l2:=a0v hok2
 have hfd:∀ x s:Value,L0g false 1 1 (.agg #[x,s])=some s:=fun _ _=>rfl
 refine a0B ?_
 simp [D0V,b0]
 refine (b0Q k0 (by have:=hx.1;omega) (by omega)).mono ?_
 rintro _ G2 ⟨⟨s1,rfl,k2⟩,hx2⟩
 replace b0:=hx2.blk b0;replace b1:=hx2.blk b1;replace b2:=hx2.blk b2;replace hx:=hx.trans hx2;replace k0:=k0.mono hx2;replace k1:=k1.mono hx2
 simp [b1,hfd]
 refine (b0Q k1 hx.1 (by omega)).mono ?_
 rintro _ G2 ⟨⟨s2,rfl,k3⟩,hx2⟩
 replace b0:=hx2.blk b0;replace b1:=hx2.blk b1;replace b2:=hx2.blk b2;replace hx:=hx.trans hx2;replace k0:=k0.mono hx2;replace k1:=k1.mono hx2;replace k2:=k2.mono hx2
 simp [hfd]
 refine b0Y (fun c t G=>∃ (a b:Nat) (s5 s6:Value),c=b∧t.length=28∧get t 4=.pointer (some ⟨H.size + 2,0,none⟩)∧get t 5=s5∧get t 6=s6 ∧
   Ext H G∧a0f.blk G (H.size + 2)=.row false a0a [.bool false,.slice none 0 0]∧Lim G s5 (a0p a)∧Lim G s6 (a0p b) ∧
   (a0p a).length < 536870912∧(a0p b).length < 536870912∧Nat.gcd a b=Int.gcd (a0z i) (a0z j))
  (fun t G=>∃ (a:Nat) (s5:Value),t.length=28∧get t 4=.pointer (some ⟨H.size + 2,0,none⟩)∧get t 5=s5 ∧
   Ext H G∧a0f.blk G (H.size + 2)=.row false a0a [.bool false,.slice none 0 0]∧Lim G s5 (a0p a)∧(a0p a).length < 536870912∧a=Int.gcd (a0z i) (a0z j)) (a0z j).natAbs ?_ ?_ ?_
 ·exact ⟨(a0z i).natAbs,(a0z j).natAbs,s1,s2,rfl,by simp,by simp,by simp,by simp,hx,b2,k2,k3,by omega,by omega,rfl⟩
 ·clear h0 ρ k0 k1 k2 k3 b0 b1 b2 hx
  rintro c t G ⟨a,b,s5,s6,rfl,ht,g4,g5,g6,hx,b2,k5,k6,la,lb,hg⟩
  obtain ⟨ρ,rfl⟩:=toT ht
  simp only [b0V,Nat.reduceLT] at g4 g5 g6
  by_cases hb:c=0
  ·subst hb
   have hd:=a0W
   have hsl:=k6.slen
   rw [hd] at hsl
   simp at hsl
   simp [u0r,g6,hsl]
   have hga:a=Int.gcd (a0z i) (a0z j):=by simpa using hg
   rw [hga] at k5 la
   exact ⟨g4,hx,b2,by rw [g5];exact k5,la⟩
  ·have hpos:=c0k (show 0 < c by omega)
   have hpos':(0:Int) < ((a0p c).length:Int):=by omega
   have hne:a0p c ≠ []:=fun h=>by rw [h] at hpos;simp at hpos
   simp [u0r,D0W,g5,g6,k6.slen,hpos,hpos',hne]
   refine (i0H k5 k6 (by omega) hx.1 la lb).mono ?_
   rintro _ G2 ⟨⟨x,y,rfl,k7,k8⟩,hx2⟩
   simp [D0X,D0Y,g6]
   have hlt:=i1X a (show c > 0 by omega)
   have hlc:(a0p (a % c)).length≤(a0p c).length:=a0V (j1Y hlt)
   exact ⟨a % c,hlt,g4,hx.trans hx2,hx2.blk b2,c,k6.mono hx2,k8,lb,by omega,by rw [Nat.gcd_comm,← Nat.gcd_rec,Nat.gcd_comm];exact hg⟩
 ·clear h0 ρ k0 k1 k2 k3 b0 b1 b2 hx
  rintro t G ⟨a,s5,ht,g4,g5,hx,b2,k5,la,rfl⟩
  obtain ⟨ρ,rfl⟩:=toT ht
  simp only [b0V,Nat.reduceLT] at g4 g5
  simp [D0Z,g5]
  refine (c0e ((Int.gcd (a0z i) (a0z j):Nat):Int) k5 hx.1 (by omega) (by simp [a0q])).mono ?_
  rintro _ G2 ⟨⟨s3,rfl,k5⟩,hx2⟩
  replace b2:=hx2.blk b2;replace hx:=hx.trans hx2
  have hsz:=hx.1
  simp [g4,b2,k5.cells,k5.plain,hsz]
  generalize hS:Array.setIfInBounds G2 _ _=G5
  have hsz:=hx.1;replace k5:=k5.setS hS b2 (by decide);replace hx:=a0E hS hx (by omega);replace b2:=a0s hS b2;clear hS hsz
  simp [b2]
  exact fun _=>⟨s3,rfl,k5⟩
end
section
open Go
set_option maxHeartbeats 4000000
variable {fl:Nat} {H G:a0f} {R:a0G} {v w:Value}
theorem k0B {n:Int} (hf:fl≤H.size) (h1:-9223372036854775808≤n) (h2:n < 9223372036854775808):a0S env fl V0j [.int .i64 n] H (fun r H'=>b0d H' r (a0j n)∧Ext H H') R:=by
 refine a0i g1s hf (h:=?_)
 intro ρ h0
 have e1:0≤n→IntKind.u64.wrap n=((n.natAbs:Nat):Int):=fun _=>by rw [a0x];omega
 have e2:n < 0→IntKind.u64.wrap (-IntKind.u64.wrap n)=((n.natAbs:Nat):Int):=fun _=>by rw [a0x,a0x];omega
 obtain ⟨m,hm⟩:∃ m,n.natAbs=m:=⟨_,rfl⟩
 rw [hm] at e1 e2
 have hm2:m < 18446744073709551616:=by omega
 simp [b1K,P0L,h0]
 generalize hG:Array.push H _=G
 obtain ⟨hx2,b0⟩:=g0r hG
 have hx:=Ext.refl H
 clear hG
 replace hx:=hx.trans hx2
 have q1:IntKind.u32.wrap ((m:Int))=((m % 4294967296:Nat):Int):=by rw [e0Y];omega
 have q2:IntKind.u32.wrap (((m / 4294967296:Nat):Int))=((m / 4294967296:Nat):Int):=by rw [e0Y];omega
 have q3:d0d 0 .shr (.int .u64 (m:Int)) (.int .u64 32)=some (.int .u64 ((m / 2 ^ 32:Nat):Int)):=W0w (s:=32) (by omega)
 have q4:m / 2 ^ 32=m / 4294967296:=rfl
 rw [q4] at q3
 by_cases hn:n < 0
 ·simp [-Int.natCast_emod,-Int.natCast_ediv,I0M,I0N,P0M,I0O,h0,hn,e2 hn,q1,q2,q3]
  generalize hG:Array.push G _=G1
  obtain ⟨hx2,b1⟩:=g0r hG
  clear hG
  replace b0:=hx2.blk b0;replace hx:=hx.trans hx2
  have hl:Lim G1 (.slice (some ⟨Array.size G,0,none⟩) 2 2) [m % 4294967296,m / 4294967296]:=by
   refine ⟨(Own.mk (fl:=0) (n:=2) (sz:=1) (cs:=c0c [m % 4294967296,m / 4294967296]) ?_ rfl (i1C _)).sl,?_⟩
   ·rw [b1];rfl
   ·intro x hx;simp at hx;omega
  refine (c0e n hl hx.1 (by simp) ?_).mono ?_
  ·have:a0w [m % 4294967296,m / 4294967296]=m:=by simp [a0w];omega
   rw [this]
   simp;omega
  rintro _ G2 ⟨⟨s3,rfl,k5⟩,hx2⟩
  replace b0:=hx2.blk b0;replace b1:=hx2.blk b1;replace hx:=hx.trans hx2
  have hsz:=hx.1
  simp [b0,k5.cells,k5.plain,hsz]
  generalize hS:Array.setIfInBounds G2 _ _=G5
  have hsz:=hx.1;replace k5:=k5.setS hS b0 (by decide);replace hx:=a0E hS hx (by omega);replace b0:=a0s hS b0;clear hS hsz
  simp [b0]
  exact fun _=>⟨s3,rfl,k5⟩
 ·simp [-Int.natCast_emod,-Int.natCast_ediv,I0M,I0N,I0O,h0,hn,e1 (by omega),q1,q2,q3]
  generalize hG:Array.push G _=G1
  obtain ⟨hx2,b1⟩:=g0r hG
  clear hG
  replace b0:=hx2.blk b0;replace hx:=hx.trans hx2
  have hl:Lim G1 (.slice (some ⟨Array.size G,0,none⟩) 2 2) [m % 4294967296,m / 4294967296]:=by
   refine ⟨(Own.mk (fl:=0) (n:=2) (sz:=1) (cs:=c0c [m % 4294967296,m / 4294967296]) ?_ rfl (i1C _)).sl,?_⟩
   ·rw [b1];rfl
   ·intro x hx;simp at hx;omega
  refine (c0e n hl hx.1 (by simp) ?_).mono ?_
  ·have:a0w [m % 4294967296,m / 4294967296]=m:=by simp [a0w];omega
   rw [this]
   simp;omega
  rintro _ G2 ⟨⟨s3,rfl,k5⟩,hx2⟩
  replace b0:=hx2.blk b0;replace hx:=hx.trans hx2
  have hsz:=hx.1
  simp [b0,k5.cells,k5.plain,hsz]
  generalize hS:Array.setIfInBounds G2 _ _=G5
  have hsz:=hx.1;replace k5:=k5.setS hS b0 (by decide);replace hx:=a0E hS hx (by omega);replace b0:=a0s hS b0;clear hS hsz
  simp [b0]
  exact fun _=>⟨s3,rfl,k5⟩
theorem v0Q:a0e 0=((false,[]),a0j 1):=by
 show (a0j 0,a0j 1)=_
 rw [e0f]
theorem d0v (hf:fl≤H.size):a0S env fl N0N [] H (fun r H'=>b0L H' r (a0e 0)∧Ext H H') R:=by
 refine a0i g1W hf (h:=?_)
 intro ρ h0
 simp [c1o,S0O,S0P,h0]
 generalize hG:Array.push H _=G
 obtain ⟨hx2,b0⟩:=g0r hG
 have hx:=Ext.refl H
 clear hG
 replace hx:=hx.trans hx2
 refine (k0B hx.1 (by omega) (by omega)).mono ?_
 rintro _ G2 ⟨⟨s3,rfl,k5⟩,hx2⟩
 replace b0:=hx2.blk b0;replace hx:=hx.trans hx2
 have hsz:=hx.1
 simp [b0,k5.cells,k5.plain,hsz,b0t]
 generalize hS:Array.setIfInBounds G2 _ _=G5
 have hsz:=hx.1;replace k5:=k5.setS hS b0 (by decide);replace hx:=a0E hS hx (by omega);replace b0:=a0s hS b0;clear hS hsz
 simp [b0]
 rw [v0Q]
 exact fun _=>⟨.slice none 0 0,s3,rfl,Lim.nil,k5⟩
end
section
open Go
set_option maxHeartbeats 4000000
variable {fl:Nat} {H G:a0f} {R:a0G} {v w:Value} {a:b0q}
theorem k0k {n:Nat}:a0p n=[1] ↔ n=1:=by
 constructor
 ·intro h
  have:=a0q n
  rw [h] at this
  simpa [a0w] using this.symm
 ·rintro rfl
  rw [e0i (by omega)]
  simp [a0W]
theorem a1M {i:Bool × List Nat} (h:f0R i=true) (hl:i.2 ≠ []) (hok:b0u i.2):a0z i ≠ 0:=by
 intro h0
 have h1:=j0r hok
 unfold e0Q at h1
 rw [h,h0] at h1
 simp [a0W] at h1
 exact hl h1
theorem f0u (h:b0L H v a) (hf:fl≤H.size) (hn:d0W a < 268435456):a0S env fl V0m [v] H (fun r H'=>r=.bool (l0D a)∧Ext H H') R:=by
 have hn1:a.1.2.length < 268435456:=by unfold d0W at hn;omega
 have hn2:a.2.2.length < 268435456:=by unfold d0W at hn;omega
 obtain ⟨s,u,rfl,hs,hu⟩:=h
 obtain ⟨⟨p,lp⟩,⟨q,lq⟩⟩:=a
 simp only at hs hu hn1 hn2
 have k0:b0d H (.agg #[.bool p,s]) (p,lp):=⟨s,rfl,hs⟩
 have k1:b0d H (.agg #[.bool q,u]) (q,lq):=⟨u,rfl,hu⟩
 refine a0i h1k hf (h:=?_)
 intro ρ h0
 simp [c1B,T0Q,h0]
 generalize hG:Array.push H _=G
 obtain ⟨hx2,b0⟩:=g0r hG
 have hx:=Ext.refl H
 clear hG
 replace hs:=hs.mono hx2
 replace hu:=hu.mono hx2
 replace hx:=hx.trans hx2;replace k0:=k0.mono hx2;replace k1:=k1.mono hx2
 have hsl:=hs.slen
 have hul:=hu.slen
 by_cases hc:lq=[]∧q=false
 ·obtain ⟨rfl,rfl⟩:=hc
  have hm:l0D ((p,lp),(false,[]))=(!p && lp.length == 0):=by
   unfold l0D d0F
   have:a0z (false,([]:List Nat))=0:=by simp [a0z,a0w,f0R]
   rw [this]
   cases p <;> simp
  rw [hm]
  simp [x0A,b0,hul]
  cases lp with
  | nil=>cases p <;> simp [J0I,b0,hsl]
  | cons y l =>
   have hne:¬ ((l.length:Int) + 1=0):=by omega
   cases p <;> simp [J0I,b0,hsl,hne]
 ·have hm:l0D ((p,lp),(q,lq))=(f0R (p,lp) && f0R (q,lq) && !q && decide (Int.gcd (a0z (p,lp)) (a0z (q,lq))=1)):=by
   have hz:d0F ((p,lp),(q,lq))=false:=by
    unfold d0F
    cases lq with
    | nil=>cases q with
     | true=>simp
     | false=>exact h1Y ⟨rfl,rfl⟩ hc
    | cons y l=>simp
   unfold l0D
   rw [hz,k1b]
   by_cases h1:f0R (q,lq)=true∧q=false
   ·obtain ⟨h1,rfl⟩:=h1
    have hl:lq ≠ []:=fun h=>hc ⟨h,rfl⟩
    have hv:=a1M (i:=(false,lq)) h1 hl hu.ok
    have hv2:(a0z (false,lq) != 0)=true:=bne_iff_ne.2 hv
    rw [h1,hv2]
    cases f0R (p,lp) <;> simp [BEq.beq]
   ·cases h2:f0R (q,lq) <;> cases q <;> simp_all
  rw [hm]
  have hg1:∀ (s:Value) (g:Nat) (G:a0f),Lim G s (a0p g)→(decide (((a0p g).length:Int)=1)=true→b0x G false 1 (adr 1 s 0)=some (.int .u32 ((a0p g).getD 0 0:Nat))):=fun s g G h hl=>h.load (by have:=of_decide_eq_true hl;omega) (Ext.refl _)
  cases lq with
  | nil =>
   have hqt:q=true:=by cases q with
    | true=>rfl
    | false=>exact h1Y ⟨rfl,rfl⟩ hc
   subst hqt
   simp [x0A,J0J,b0,hul]
   refine (i0Z k0 k1 hx.1 hn1 hn2).mono ?_
   rintro _ G2 ⟨⟨sg,rfl,kg⟩,hx2⟩
   replace b0:=hx2.blk b0;replace hx:=hx.trans hx2;replace k0:=k0.mono hx2;replace k1:=k1.mono hx2
   have hsz:=hx.1
   obtain ⟨g,hg⟩:∃ g,Int.gcd (a0z (p,lp)) (a0z (true,[]))=g:=⟨_,rfl⟩
   rw [hg] at kg ⊢
   simp [kg.cells,kg.plain,hsz]
   generalize hN:Array.setIfInBounds (Array.push _ _) _ _=G3
   obtain ⟨hx2,b2⟩:=new1 hN
   clear hN
   replace b0:=hx2.blk b0;replace hx:=hx.trans hx2;replace k0:=k0.mono hx2;replace k1:=k1.mono hx2
   replace kg:Lim G3 sg (a0p g):=kg.mono hx2
   simp [J0K,b0]
   refine (e0R k0 hx.1 (h1W hn1 (by omega))).mono ?_
   rintro _ G4 ⟨rfl,hx2⟩
   replace b0:=hx2.blk b0;replace b2:=hx2.blk b2;replace hx:=hx.trans hx2;replace k0:=k0.mono hx2;replace k1:=k1.mono hx2
   replace kg:=kg.mono hx2
   cases h1:f0R (p,lp) with
   | false=>simp
   | true =>
   simp [b0]
   refine (e0R k1 hx.1 (h1W hn2 (by omega))).mono ?_
   rintro _ G5 ⟨rfl,hx2⟩
   replace b0:=hx2.blk b0;replace b2:=hx2.blk b2;replace hx:=hx.trans hx2;replace k0:=k0.mono hx2;replace k1:=k1.mono hx2
   replace kg:=kg.mono hx2
   have hmf:f0R (true,([]:List Nat))=false:=rfl
   simp [hmf]
  | cons y l =>
   have hne:¬ ((l.length:Int) + 1=0):=by omega
   simp [x0A,J0J,b0,hul,hne]
   refine (i0Z k0 k1 hx.1 hn1 hn2).mono ?_
   rintro _ G2 ⟨⟨sg,rfl,kg⟩,hx2⟩
   replace b0:=hx2.blk b0;replace hx:=hx.trans hx2;replace k0:=k0.mono hx2;replace k1:=k1.mono hx2
   have hsz:=hx.1
   obtain ⟨g,hg⟩:∃ g,Int.gcd (a0z (p,lp)) (a0z (q,y::l))=g:=⟨_,rfl⟩
   rw [hg] at kg ⊢
   simp [kg.cells,kg.plain,hsz]
   generalize hN:Array.setIfInBounds (Array.push _ _) _ _=G3
   obtain ⟨hx2,b2⟩:=new1 hN
   clear hN
   replace b0:=hx2.blk b0;replace hx:=hx.trans hx2;replace k0:=k0.mono hx2;replace k1:=k1.mono hx2
   replace kg:Lim G3 sg (a0p g):=kg.mono hx2
   simp [J0K,b0]
   refine (e0R k0 hx.1 (h1W hn1 (by omega))).mono ?_
   rintro _ G4 ⟨rfl,hx2⟩
   replace b0:=hx2.blk b0;replace b2:=hx2.blk b2;replace hx:=hx.trans hx2;replace k1:=k1.mono hx2
   replace kg:=kg.mono hx2
   cases h1:f0R (p,lp) with
   | false=>simp
   | true =>
   simp [b0]
   refine (e0R k1 hx.1 (h1W hn2 (by omega))).mono ?_
   rintro _ G5 ⟨rfl,hx2⟩
   replace b0:=hx2.blk b0;replace b2:=hx2.blk b2;replace hx:=hx.trans hx2
   replace kg:=kg.mono hx2
   cases h2:f0R (q,y :: l) with
   | false=>simp
   | true =>
   cases q with
   | true=>simp [b0]
   | false =>
   by_cases hgl:(a0p g).length=1
   ·obtain ⟨z,hz⟩:=List.length_eq_one_iff.1 hgl
    have hgz:(g=1)=(z=1):=k1B ⟨fun h=>by have:=k0k.2 h;rw [hz] at this;simpa using this,fun h=>k0k.1 (by rw [hz,h])⟩
    have h3:=kg.ia (show 0 < (a0p g).length by omega) (k:=.i64)
    have h4:=kg.load (show 0 < (a0p g).length by omega) (Ext.refl _)
    rw [hz] at h4
    simp at h3 h4
    simp [b0,b2,kg.slen,hgl,hz,h3,h4,hgz]
    intro _
    rw [k1o,beq_iff_eq,i1w]
    omega
   ·have hgl':¬ ((a0p g).length:Int)=1:=by omega
    have hg1:¬ g=1:=fun h=>hgl (by rw [k0k.2 h];rfl)
    simp [b0,b2,kg.slen,hgl,hgl',hg1]
theorem b0z (h:b0L H v a) (hf:fl≤H.size) (hn:d0W a < 268435456):a0S env fl v0Y [v] H (fun r H'=>b0L H' r (a0e (b0o a))∧Ext H H') R:=by
 have hn1:a.1.2.length < 268435456:=by unfold d0W at hn;omega
 have hn2:a.2.2.length < 268435456:=by unfold d0W at hn;omega
 have k0:=h
 obtain ⟨s,u,rfl,hs,hu⟩:=h
 refine a0i g1O hf (h:=?_)
 intro ρ h0
 simp [c1g,S0b,h0,hs.cells,hu.cells]
 generalize hG:Array.push (Array.push H _) _=G
 have hx2:Ext H G:=by rw [← hG];exact (Ext.refl H).push.push
 have b0:a0f.blk G H.size=.row false a0b [.bool a.1.1,s,.bool a.2.1,u]:=by rw [← hG];simp
 have b1:a0f.blk G (H.size + 1)=.row false a0b [.bool false,.slice none 0 0,.bool false,.slice none 0 0]:=by rw [← hG];simp
 have hx:=Ext.refl H
 clear hG
 replace hx:=hx.trans hx2;replace k0:=k0.mono hx2
 replace hs:=hs.mono hx2
 replace hu:=hu.mono hx2
 simp [S0c,b0]
 refine (f0u k0 hx.1 hn).mono ?_
 rintro _ G2 ⟨rfl,hx2⟩
 replace b0:=hx2.blk b0;replace b1:=hx2.blk b1;replace hx:=hx.trans hx2;replace k0:=k0.mono hx2
 replace hs:=hs.mono hx2
 replace hu:=hu.mono hx2
 have hsz:=hx.1
 cases hm:l0D a with
 | false =>
  have hv:b0o a=0:=by
   unfold b0o
   rw [hm]
   split <;> rfl
  simp
  simp [J0o]
  refine (d0v hx.1).mono ?_
  rintro _ G3 ⟨⟨s3,u3,rfl,k3,k4⟩,hx2⟩
  replace b0:=hx2.blk b0;replace b1:=hx2.blk b1;replace hx:=hx.trans hx2;replace k0:=k0.mono hx2
  have hsz:=hx.1
  simp [b1,k3.cells,k3.plain,k4.cells,k4.plain,hsz]
  generalize hS:Array.setIfInBounds G3 _ _=G5
  have hsz:=hx.1;replace k0:=k0.setS hS b1 (by decide);replace k3:=k3.setS hS b1 (by decide);replace k4:=k4.setS hS b1 (by decide);replace b0:=a0o hS b0 (by omega);replace hx:=a0E hS hx (by omega);replace b1:=a0s hS b1;clear hS hsz
  simp [b1]
  rw [hv]
  exact fun _=>⟨s3,u3,rfl,k3,k4⟩
 | true =>
  simp [b0,hu.slen]
  refine ⟨fun hnil=>?_,fun hne=>?_⟩
  ·have hv:b0o a=0:=by
    cases hz:d0F a with
    | true=>unfold b0o;rw [hz];rfl
    | false =>
     exfalso
     unfold l0D at hm
     rw [hz] at hm
     simp at hm
     obtain ⟨⟨⟨⟨m1,m2⟩,m3⟩,m4⟩,m5⟩:=hm
     exact m4 (by unfold a0z;rw [hnil];simp [a0w])
   simp [J0o]
   refine (d0v hx.1).mono ?_
   rintro _ G3 ⟨⟨s3,u3,rfl,k3,k4⟩,hx2⟩
   replace b0:=hx2.blk b0;replace b1:=hx2.blk b1;replace hx:=hx.trans hx2;replace k0:=k0.mono hx2
   have hsz:=hx.1
   simp [b1,k3.cells,k3.plain,k4.cells,k4.plain,hsz]
   generalize hS:Array.setIfInBounds G3 _ _=G5
   have hsz:=hx.1;replace k0:=k0.setS hS b1 (by decide);replace k3:=k3.setS hS b1 (by decide);replace k4:=k4.setS hS b1 (by decide);replace b0:=a0o hS b0 (by omega);replace hx:=a0E hS hx (by omega);replace b1:=a0s hS b1;clear hS hsz
   simp [b1]
   rw [hv]
   exact fun _=>⟨s3,u3,rfl,k3,k4⟩
  ·have hz:d0F a=false:=by
    unfold d0F
    cases hl:a.2.2 with
    | nil=>exact h1Y hl hne
    | cons y l=>simp
   have hvp:=k0M hz hm
   unfold l0D at hm
   rw [hz] at hm
   simp at hm
   obtain ⟨⟨⟨⟨m1,m2⟩,m3⟩,m4⟩,m5⟩:=hm
   rw [hvp]
   refine a0B ?_
   simp [S0d,b0]
   refine (c0e (a0z a.1) hs (by have:=hx.1;omega) (by omega) (by unfold a0z;rw [m1];rfl)).mono ?_
   rintro _ G3 ⟨⟨s3,rfl,k3⟩,hx2⟩
   replace b0:=hx2.blk b0;replace b1:=hx2.blk b1;replace hx:=hx.trans hx2;replace k0:=k0.mono hx2
   replace hu:=hu.mono hx2
   simp [b0]
   refine (c0e (a0z a.2) hu hx.1 (by omega) (by unfold a0z;rw [m2,m3];rfl)).mono ?_
   rintro _ G4 ⟨⟨s4,rfl,k4⟩,hx2⟩
   replace b0:=hx2.blk b0;replace b1:=hx2.blk b1;replace hx:=hx.trans hx2;replace k0:=k0.mono hx2;replace k3:=k3.mono hx2
   have hsz:=hx.1
   simp [b1,k3.cells,k3.plain,k4.cells,k4.plain,hsz,b0t]
   generalize hS:Array.setIfInBounds G4 _ _=G5
   have hsz:=hx.1;replace k0:=k0.setS hS b1 (by decide);replace k3:=k3.setS hS b1 (by decide);replace k4:=k4.setS hS b1 (by decide);replace b0:=a0o hS b0 (by omega);replace hx:=a0E hS hx (by omega);replace b1:=a0s hS b1;clear hS hsz
   simp [b1]
   exact fun _=>⟨s3,s4,rfl,k3,k4⟩
end
section
open Go
set_option maxHeartbeats 4000000
variable {fl:Nat} {H G:a0f} {R:a0G} {v w:Value} {a b:b0q}
theorem d0u (h:b0L H v a) (k:b0L H w b) (hf:fl≤H.size) (hn:d0W a < 67108864) (hm:d0W b < 67108864):a0S env fl K0Z [v,w] H (fun r H'=>r=.int .i64 (t0o (b0o a) (b0o b))∧Ext H H') R:=by
 have k0:=h
 have k1:=k
 obtain ⟨s,u,rfl,hs,hu⟩:=h
 obtain ⟨s',u',rfl,hs',hu'⟩:=k
 have z1:=b0E hs.ok hu.ok
 have z2:=b0E hs'.ok hu'.ok
 refine a0i g1r hf (h:=?_)
 intro ρ h0
 simp [b1J,P0H,h0,hs.cells,hu.cells,hs'.cells,hu'.cells]
 generalize hG:Array.push (Array.push H _) _=G
 have hx2:Ext H G:=by rw [← hG];exact (Ext.refl H).push.push
 have b0:a0f.blk G H.size=.row false a0b [.bool a.1.1,s,.bool a.2.1,u]:=by rw [← hG];simp
 have b1:a0f.blk G (H.size + 1)=.row false a0b [.bool b.1.1,s',.bool b.2.1,u']:=by rw [← hG];simp
 have hx:=Ext.refl H
 clear hG
 replace hx:=hx.trans hx2;replace k0:=k0.mono hx2;replace k1:=k1.mono hx2
 simp [P0I,b0]
 refine (b0z k0 hx.1 (by omega)).mono ?_
 rintro _ G2 ⟨⟨s1,u1,rfl,k2,k3⟩,hx2⟩
 replace b0:=hx2.blk b0;replace b1:=hx2.blk b1;replace hx:=hx.trans hx2;replace k0:=k0.mono hx2;replace k1:=k1.mono hx2
 have hsz:=hx.1
 simp [b0,k2.cells,k2.plain,k3.cells,k3.plain,hsz]
 generalize hS:Array.setIfInBounds G2 _ _=G3
 have hsz:=hx.1;replace k0:=k0.setS hS b0 (by decide);replace k1:=k1.setS hS b0 (by decide);replace k2:=k2.setS hS b0 (by decide);replace k3:=k3.setS hS b0 (by decide);replace b1:=a0o hS b1 (by omega);replace hx:=a0E hS hx (by omega);replace b0:=a0s hS b0;clear hS hsz
 simp [P0J,b1]
 refine (b0z k1 hx.1 (by omega)).mono ?_
 rintro _ G2 ⟨⟨s2,u2,rfl,k4,k5⟩,hx2⟩
 replace b0:=hx2.blk b0;replace b1:=hx2.blk b1;replace hx:=hx.trans hx2;replace k0:=k0.mono hx2;replace k1:=k1.mono hx2;replace k2:=k2.mono hx2;replace k3:=k3.mono hx2
 have hsz:=hx.1
 simp [b1,k4.cells,k4.plain,k5.cells,k5.plain,hsz]
 generalize hS:Array.setIfInBounds G2 _ _=G4
 have hsz:=hx.1;replace k0:=k0.setS hS b1 (by decide);replace k1:=k1.setS hS b1 (by decide);replace k2:=k2.setS hS b1 (by decide);replace k3:=k3.setS hS b1 (by decide);replace k4:=k4.setS hS b1 (by decide);replace k5:=k5.setS hS b1 (by decide);replace b0:=a0o hS b0 (by omega);replace hx:=a0E hS hx (by omega);replace b1:=a0s hS b1;clear hS hsz
 clear k0 k1 hs hu hs' hu'
 generalize b0o a=x at *
 generalize b0o b=y at *
 have x1:=c0O x
 have x2:=d0m x
 have y1:=c0O y
 have y2:=d0m y
 have c1:(a0e x).1.2.length=lz x.num:=a0g _
 have c2:(a0e x).2.2.length=lz x.den:=a0g _
 have c3:(a0e y).1.2.length=lz y.num:=a0g _
 have c4:(a0e y).2.2.length=lz y.den:=a0g _
 have i1:b0d G4 (.agg #[.bool (a0e x).1.1,s1]) (a0j x.num):=⟨s1,rfl,k2⟩
 have i2:b0d G4 (.agg #[.bool (a0e x).2.1,u1]) (a0j x.den):=⟨u1,rfl,k3⟩
 have i3:b0d G4 (.agg #[.bool (a0e y).1.1,s2]) (a0j y.num):=⟨s2,rfl,k4⟩
 have i4:b0d G4 (.agg #[.bool (a0e y).2.1,u2]) (a0j y.den):=⟨u2,rfl,k5⟩
 clear k2 k3 k4 k5
 refine a0B ?_
 simp [P0K,b0,b1]
 refine (d0D i1 i4 (by have:=hx.1;omega) (by rw [a0g];omega) (by rw [a0g];omega)).mono ?_
 rintro m1 G5 ⟨j1,hx2⟩
 replace b0:=hx2.blk b0;replace b1:=hx2.blk b1;replace hx:=hx.trans hx2
 replace i2:=i2.mono hx2
 replace i3:=i3.mono hx2
 simp [b0,b1]
 refine (d0D i3 i2 hx.1 (by rw [a0g];omega) (by rw [a0g];omega)).mono ?_
 rintro m2 G6 ⟨j2,hx2⟩
 replace hx:=hx.trans hx2
 replace j1:=j1.mono hx2
 rw [a0h,a0h] at j1 j2
 simp
 have q1:=c0a x.num y.den
 have q2:=c0a y.num x.den
 refine (t0U j1 j2 hx.1 (by rw [a0g];omega) (by rw [a0g];omega)).mono ?_
 rintro _ G7 ⟨rfl,hx2⟩
 rw [a0h,a0h,z0U]
 simp
end
end Go.Proofs.YtjlohmnnldbjoaaGreat.AI
