/- Part 3 of the proof. -/
import Derived.Orders
import Derived.Test.YtgopfcmbofkmmaaGreatM01
set_option linter.unusedVariables false
set_option linter.unusedSimpArgs false
set_option linter.unusedSectionVars false
namespace Go.Proofs.YtgopfcmbofkmmaaGreat.AI
open Go
section
variable {X:Cx} {φ φ':Inj} {S:Shp} {H H':a0c} {w w':World} {fl:Nat} {t:a0U} {a:Act}
theorem v0k (bef:List Nat) (i:Nat):∀ (l:List Edge) (s:Nat),(l.foldl (fun s e=>if Region.binds .any e then s ||| 2 ^ e.on ||| bef.getD e.on 0 else s) s).testBit i=true <->
  s.testBit i=true ∨ ∃ e ∈ l,Region.binds .any e=true/\(i=e.on ∨ (bef.getD e.on 0).testBit i=true)
 | [],s=>by simp
 | e :: l,s=>by
  rw [List.foldl_cons,v0k bef i l]
  by_cases hb:Region.binds .any e=true
  ·simp only [hb,N1E,Nat.testBit_or,N1L,Nat.testBit_two_pow,N1s,O1W]
   constructor
   ·rintro (((h | h) | h) | ⟨k,q,c⟩)
    ·exact .inl h
    ·exact .inr ⟨e,.inl rfl,hb,.inl h.symm⟩
    ·exact .inr ⟨e,.inl rfl,hb,.inr h⟩
    ·exact .inr ⟨k,.inr q,c⟩
   ·rintro (h | ⟨k,rfl | q,c,j⟩)
    ·exact .inl (.inl (.inl h))
    ·rcases j with j | j
     ·exact .inl (.inl (.inr j.symm))
     ·exact .inl (.inr j)
    ·exact .inr ⟨k,q,c,j⟩
  ·simp only [hb,N1G,O1W]
   constructor
   ·rintro (h | ⟨k,q,c⟩)
    ·exact .inl h
    ·exact .inr ⟨k,.inr q,c⟩
   ·rintro (h | ⟨k,rfl | q,c,j⟩)
    ·exact .inl h
    ·exact N1i c hb
    ·exact .inr ⟨k,q,c,j⟩
structure w0E (X:Cx) (ops:Array Oper) (l:List a0v) (bef:List Nat) (pairs:List (Nat × Nat)):Prop where
 len:l.length=ops.size
 op:∀ (k:Nat) (s:a0v),l[k]? = some s->∃ o,ops[k]? = some o/\g0V X.P ops (H0q X.P bef (ops.toList.map fun o=>g0K o.op) k o.op) o=some s
 bit:∀ (i j:Nat) (o:Oper),ops[j]? = some o->(a0T bef i j=true <-> ∃ e ∈ o.after.toList,Region.binds .any e=true/\(i=e.on ∨ a0T bef i e.on=true))
 back:∀ (j:Nat) (o:Oper),ops[j]? = some o->∀ e ∈ o.after.toList,Region.binds .any e=true->e.on < j
 un:∀ (i j:Nat),i < j->j < ops.size->a0T bef i j=false->A0c ops l (i,j)=true/\(f0T l (i,j)=true->(i,j) ∈ pairs)
 nosel:∀ (j:Nat) (o:Oper) (cs:Array SelectCase) (b:Bool),ops[j]? = some o->o.op ≠ .select cs b
theorem n0X {P:Program} {ops:Array Oper} {bef ws:List Nat}:∀ {os:List Oper} {k:Nat} {l:List a0v},q0I P ops bef ws k os=some l ->
  l.length=os.length/\∀ i s,l[i]? = some s->∃ o,os[i]? = some o/\g0V P ops (H0q P bef ws (k + i) o.op) o=some s
 | [],k,l,h=>by simp [q0I] at h;subst h;simp
 | o :: os,k,l,h=>by
  simp only [q0I] at h
  split at h
  ·rename_i x z c j
   cases h
   obtain ⟨q,r⟩:=n0X j
   refine ⟨by simp [q],fun i s hi=>?_⟩
   cases i with
   | zero=>simp at hi;subst hi;exact ⟨o,rfl,c⟩
   | succ i =>
    obtain ⟨y,u,w⟩:=r i s (by simpa using hi)
    exact ⟨y,by simpa using u,by rw [show k + (i + 1)=k + 1 + i by omega];exact w⟩
  ·cases h
theorem r0s {n i j:Nat} (h:i < j) (c:j < n):(i,j) ∈ l0G n:=by
 unfold l0G
 rw [List.mem_flatMap]
 exact ⟨j,N1N.2 c,List.mem_map.2 ⟨i,N1N.2 h,rfl⟩⟩
theorem S0c {ops:Array Oper} {l:List a0v} {bef:List Nat} {pairs:List (Nat × Nat)} (h:y0j X.P ops=some (.draw l bef pairs)):w0E X ops l bef pairs:=by
 unfold y0j at h
 simp only [M1S,M1P] at h
 obtain ⟨N,z,h⟩:=h
 split at h
 ·rename_i hc
  obtain ⟨H,L,J⟩:=hc
  simp only [M1T,M1Q,SCode.draw.injEq] at h
  obtain ⟨rfl,rfl,rfl⟩:=h
  obtain ⟨x,y⟩:=n0X z
  have c:∀ j o,ops[j]? = some o->(o.after.toList.all fun e=>!Region.binds .any e || e.on < j)=true /\
    (Region.before ops).toList.getD j 0=(o.after.toList.foldl (fun s e=>if Region.binds .any e then s ||| 2 ^ e.on ||| (Region.before ops).toList.getD e.on 0 else s) 0):=by
   intro j o ho
   have w:j < ops.size:=(N1y.1 ho).1
   have:=N1H.1 H j (N1N.2 w)
   simp only [ho,M1W,beq_iff_eq] at this
   exact this
  refine ⟨by simpa using x,fun k s I=>?_,fun i j o ho=>?_,fun j o ho e r hb=>?_,fun i j u w q=>?_,fun j o cs b ho hs=>?_⟩
  ·obtain ⟨o,F,G⟩:=y k s I
   exact ⟨o,by simpa using F,by simpa using G⟩
  ·unfold a0T
   rw [(c j o ho).2,v0k]
   simp
  ·have:=N1H.1 (c j o ho).1 e r
   simpa [hb] using this
  ·have r:(i,j) ∈ (l0G ops.size).filter fun p=>!a0T (Region.before ops).toList p.1 p.2:=P1h.2 ⟨r0s u w,by simp [q]⟩
   exact ⟨N1H.1 L _ r,fun M=>P1h.2 ⟨r,M⟩⟩
  ·have:=N1H.1 J o (by rw [<- N1S] at ho;exact List.mem_of_getElem? ho)
   simp [j0Y,hs] at this
 ·cases h
section
variable {ops:Array Oper} {l:List a0v} {bef:List Nat} {pairs:List (Nat × Nat)} (hT:w0E X ops l bef pairs)
include hT
theorem w0E.lt:∀ j i,j < ops.size->a0T bef i j=true->i < j:=by
 intro j
 induction j using Nat.strongRecOn with
 | _ j ih =>
  intro i q ho
  have c:ops[j]? = some ops[j]:=N1v q
  obtain ⟨e,r,hb,h⟩:=(hT.bit i j _ c).1 ho
  have k:=hT.back j _ c e r hb
  rcases h with rfl | h
  ·exact k
  ·have:=ih e.on k i (by omega) h;omega
theorem w0E.ready {c:Array Bool} {j:Nat} (r:j ∈ Region.ready .any ops c) (k:∀ j,j < ops.size->c.getD j false=true->∀ i,a0T bef i j=true->c.getD i false=true) :
  j < ops.size/\c.getD j true=false/\∀ i,a0T bef i j=true->c.getD i false=true:=by
 unfold Region.ready at r
 rw [P1h] at r
 obtain ⟨u,r⟩:=r
 have u:=N1N.1 u
 simp only [M1W,O1s] at r
 have q:ops[j]? = some ops[j]:=N1v u
 refine ⟨u,r.1,fun i hi=>?_⟩
 have s:=r.2
 simp only [q,N1M,N1D] at s
 obtain ⟨e,x,hb,h⟩:=(hT.bit i j _ q).1 hi
 rw [Array.all_eq_true'] at s
 have w:=s e (by simpa using x)
 simp only [hb,Bool.not_true,O1U] at w
 rcases h with rfl | h
 ·exact w
 ·have:=hT.back j _ q e x hb
  exact k e.on (by omega) w i h
theorem w0E.two {i j:Nat} (L:i ≠ j) (hi:i < ops.size) (hj:j < ops.size) (h1:a0T bef i j=false) (h2:a0T bef j i=false) {oi oj:Oper} {x y:a0v} (F:ops[i]? = some oi) (G:ops[j]? = some oj)
  (Y:l[i]? = some x) (Z:l[j]? = some y) :
  (∀ d,x.dst=some d->d ∉ i0U oj y/\y.dst ≠ some d)/\(∀ d,y.dst=some d->d ∉ i0U oi x)/\¬ (way x.op=3/\way y.op=2)/\¬ (way x.op=2/\way y.op=3) /\
  ((way x.op=2/\way y.op ≠ 0)->(i,j) ∈ pairs ∨ (j,i) ∈ pairs)/\((a0W x.op=true/\way y.op=1)->(i,j) ∈ pairs ∨ (j,i) ∈ pairs):=by
 have H:∀ {p q:Nat} {op R:Oper} {u v:a0v},p < q->q < ops.size->a0T bef p q=false->ops[p]? = some op->ops[q]? = some R->l[p]? = some u->l[q]? = some v ->
   (∀ d,u.dst=some d->d ∉ i0U R v/\v.dst ≠ some d)/\(∀ d,v.dst=some d->d ∉ i0U op u)/\¬ (way u.op=3/\way v.op=2)/\¬ (way u.op=2/\way v.op=3) /\
   ((way u.op=2/\way v.op ≠ 0)->(p,q) ∈ pairs)/\((way v.op=2/\way u.op ≠ 0)->(p,q) ∈ pairs) /\
   ((a0W u.op=true/\way v.op=1)->(p,q) ∈ pairs)/\((a0W v.op=true/\way u.op=1)->(p,q) ∈ pairs):=by
  intro p q op R u v M hq ho h3 h4 w z
  obtain ⟨S,I⟩:=hT.un p q M hq ho
  simp only [A0c,h3,h4,w,z,M1W,o0E,v0r] at S
  obtain ⟨⟨U,r⟩,s⟩:=S
  refine ⟨fun d c=>?_,fun d c=>?_,?_,?_,fun h=>I ?_,fun h=>I ?_,fun h=>I ?_,fun h=>I ?_⟩
  ·rw [c] at U;simpa using U
  ·rw [c] at r;simpa using r
  ·intro ⟨a1,a2⟩;simp [a1,a2] at s
  ·intro ⟨a1,a2⟩;simp [a1,a2] at s
  ·simp [f0T,w,z,h.1,h.2]
  ·simp [f0T,w,z,h.1,h.2]
  ·simp [f0T,w,z,h.1,h.2]
  ·simp [f0T,w,z,h.1,h.2]
 rcases Nat.lt_or_gt_of_ne L with k | k
 ·obtain ⟨J,N,O,Q,k5,k6,k7,k8⟩:=H k hj h1 F G Y Z
  exact ⟨J,N,O,Q,fun h=>.inl (k5 h),fun h=>.inl (k7 h)⟩
 ·obtain ⟨J,N,O,Q,k5,k6,k7,k8⟩:=H k hi h2 G F Z Y
  refine ⟨fun d c=>⟨N d c,fun e=>(J d e).2 c⟩,fun d c=>(J d c).1,fun h=>Q ⟨h.2,h.1⟩,fun h=>O ⟨h.2,h.1⟩,fun h=>.inr (k6 h),fun h=>.inr (k8 h)⟩
end
section
variable (call:Nat->FuncId->List Value->a0c->Res (Value × a0c)) (fl:Nat) (bef:List Nat)
structure Run where
 T:Nat->a0U
 Hh:Nat->a0c
 Pn:Nat->Option (Nat × Value)
 val:Nat->Value
 tc:Nat->List Nat × List Nat
 st:Nat->Nat
 ds:List Deferred
def j0H (R:Run) (k:Nat) (s:a0v):Prop :=
 (R.st k=0/\j0u bef k (R.Pn k)=true/\R.T (k + 1)=R.T k/\R.Hh (k + 1)=R.Hh k/\R.Pn (k + 1)=R.Pn k/\R.tc k=([],[])) ∨
 (R.st k=1/\j0u bef k (R.Pn k)=false/\a0Q (R.T k) s.g=false/\R.val k=undef/\R.T (k + 1)=put (R.T k) s.dst undef/\R.Hh (k + 1)=R.Hh k/\R.Pn (k + 1)=R.Pn k/\R.tc k=([],[])) ∨
 (R.st k=2/\j0u bef k (R.Pn k)=false/\a0Q (R.T k) s.g=true/\b0i call fl (R.T k) (R.Hh k) s.op=.ok (R.val k,R.Hh (k + 1))/\R.T (k + 1)=put (R.T k) s.dst (R.val k)/\R.Pn (k + 1)=R.Pn k /\
  R.tc k=e0B (R.T k) s.op (R.Hh k) (R.Hh (k + 1))) ∨
 (R.st k=3/\j0u bef k (R.Pn k)=false/\a0Q (R.T k) s.g=true/\b0i call fl (R.T k) (R.Hh k) s.op=.pan (R.val k)/\R.Pn k=none/\R.Pn (k + 1)=some (k,R.val k)/\R.T (k + 1)=R.T k/\R.Hh (k + 1)=R.Hh k /\
  R.tc k=([],[]))
def Run.cons (i:Nat) (t:a0U) (H:a0c) (p:Option (Nat × Value)) (v:Value) (c:List Nat × List Nat) (s:Nat) (R:Run):Run :=
 { T := fun k => if k = i then t else R.T k, Hh := fun k => if k = i then H else R.Hh k, Pn := fun k => if k = i then p else R.Pn k, val := fun k => if k = i then v else R.val k,
   tc:=fun k=>if k=i then c else R.tc k,st:=fun k=>if k=i then s else R.st k,ds:=R.ds }
variable {call fl bef}
theorem j0H.cons {R:Run} {i k:Nat} {t:a0U} {H:a0c} {p:Option (Nat × Value)} {v:Value} {c:List Nat × List Nat} {n:Nat} {s:a0v} (j:i < k) (h:j0H call fl bef R k s) :
  j0H call fl bef (R.cons i t H p v c n) k s:=by
 unfold j0H Run.cons at *
 simp only [M1V (show k ≠ i by omega),M1V (show k + 1 ≠ i by omega)]
 exact h
theorem U0O {pairs:List (Nat × Nat)}:∀ (r:List a0v) (i:Nat) (t:a0U) (H:a0c) (p:Option (Nat × Value)) (j:List (List Nat × List Nat)),b0T call fl bef pairs i r t H p j ≠ .bad ->
  ∃ R:Run,R.T i=t/\R.Hh i=H/\R.Pn i=p/\(∀ m s,r[m]? = some s->j0H call fl bef R (i + m) s)/\c0u (j.reverse ++ (List.range' i r.length).map R.tc) pairs=true /\
   b0T call fl bef pairs i r t H p j=match R.Pn (i + r.length) with | none=>.fin .normal (R.T (i + r.length)) (R.Hh (i + r.length)) | some (_,v)=>.pan v
 | [],i,t,H,p,j,h=>by
  refine ⟨⟨fun _=>t,fun _=>H,fun _=>p,fun _=>undef,fun _=>([],[]),fun _=>0,[]⟩,rfl,rfl,rfl,fun m s G=>by simp at G,?_,?_⟩
  ·simp only [b0T] at h
   split at h
   ·rename_i M;simpa using M
   ·exact N1i rfl h
  ·simp only [b0T] at h ⊢
   split at h
   ·rename_i M;rw [M1Z M];rfl
   ·exact N1i rfl h
 | s :: r,i,t,H,p,j,h=>by
  have fin:∀ (L:a0U) (H1:a0c) (I:Option (Nat × Value)) (c:List Nat × List Nat) (v:Value) (n:Nat),b0T call fl bef pairs i (s :: r) t H p j=b0T call fl bef pairs (i + 1) r L H1 I (c :: j) ->
    (∀ R:Run,R.T (i + 1)=L->R.Hh (i + 1)=H1->R.Pn (i + 1)=I->j0H call fl bef (R.cons i t H p v c n) i s) ->
    ∃ R:Run,R.T i=t/\R.Hh i=H/\R.Pn i=p/\(∀ m J,(s :: r)[m]? = some J->j0H call fl bef R (i + m) J)/\c0u (j.reverse ++ (List.range' i (s :: r).length).map R.tc) pairs=true /\
     b0T call fl bef pairs i (s :: r) t H p j=match R.Pn (i + (s :: r).length) with | none=>.fin .normal (R.T (i + (s :: r).length)) (R.Hh (i + (s :: r).length)) | some (_,v)=>.pan v:=by
   intro L H1 I c v n F N
   rw [F] at h
   obtain ⟨R,w,q,y,O,Q,S⟩:=U0O r (i + 1) L H1 I (c :: j) h
   refine ⟨R.cons i t H p v c n,by simp [Run.cons],by simp [Run.cons],by simp [Run.cons],fun m J G=>?_,?_,?_⟩
   ·cases m with
    | zero=>simp at G;subst G;exact N R w q y
    | succ m=>rw [show i + (m + 1)=i + 1 + m by omega];exact (O m J (by simpa using G)).cons (by omega)
   ·have e:(List.range' i (s :: r).length).map (R.cons i t H p v c n).tc=c :: (List.range' (i + 1) r.length).map R.tc:=by
     rw [N1I,O1Z,O1o]
     congr 1
     ·simp [Run.cons]
     ·apply List.map_congr_left
      intro x U
      have:=(List.mem_range'_1.1 U).1
      simp only [Run.cons]
      rw [M1V (by omega)]
    rw [e]
    simpa using Q
   ·rw [F,S]
    simp only [Run.cons,N1I]
    rw [show i + (r.length + 1)=i + 1 + r.length by omega,M1V (by omega),M1V (by omega),M1V (by omega)]
  by_cases k:j0u bef i p=true
  ·refine fin t H p ([],[]) undef 0 (by simp [b0T,k]) (fun R w q y=>.inl ?_)
   simp only [Run.cons,N1E,M1V (show i + 1 ≠ i by omega)]
   exact ⟨trivial,k,w,q,y,trivial⟩
  ·simp only [Bool.not_eq_true] at k
   by_cases z:a0Q t s.g=true
   ·cases hs:b0i call fl t H s.op with
    | bad=>exact N1i (by simp [b0T,k,z,hs]) h
    | pan v =>
     cases hp:p with
     | some u=>subst hp;exact N1i (by simp [b0T,k,z,hs]) h
     | none =>
      subst hp
      refine fin t H (some (i,v)) ([],[]) v 3 (by simp [b0T,k,z,hs]) (fun R w q y=>.inr (.inr (.inr ?_)))
      simp only [Run.cons,N1E,M1V (show i + 1 ≠ i by omega)]
      exact ⟨trivial,k,z,hs,trivial,y,w,q,trivial⟩
    | ok vH =>
     obtain ⟨v,H1⟩:=vH
     refine fin (put t s.dst v) H1 p (e0B t s.op H H1) v 2 (by simp [b0T,k,z,hs]) (fun R w q y=>.inr (.inr (.inl ?_)))
     simp only [Run.cons,N1E,M1V (show i + 1 ≠ i by omega)]
     exact ⟨trivial,k,z,by rw [q];exact hs,w,y,by rw [q]⟩
   ·simp only [Bool.not_eq_true] at z
    refine fin (put t s.dst undef) H p ([],[]) undef 1 (by simp [b0T,k,z]) (fun R w q y=>.inr (.inl ?_))
    simp only [Run.cons,N1E,M1V (show i + 1 ≠ i by omega)]
    exact ⟨trivial,k,z,trivial,w,q,y,trivial⟩
end
end
section
variable {X:Cx} {φ φ' ψ:Inj} {S S':Shp} {H H' H1:a0c} {w w':World} {fl:Nat} {t t':a0U} {a:Act} {so:SOp} {lone:Bool} {op:Op}
theorem k0a (h:∀ x ∈ a0g so,ev t x=ev t' x):opA fl t H so=opA fl t' H so:=by
 have q:∀ {xs:List Opd},(∀ x ∈ xs,x ∈ a0g so)->xs.map (ev t)=xs.map (ev t'):=fun F=>List.map_congr_left (fun x j=>h x (F x j))
 have s:∀ {x:Option Opd},(∀ y,x=some y->y ∈ a0g so)->x.map (ev t)=x.map (ev t'):=fun {x} F=>by cases x with | none=>rfl | some y=>simp [h y (F y rfl)]
 have r:∀ {w:List (Nat × Nat × Opd)},(∀ p ∈ w,p.2.2 ∈ a0g so)->b0c t w=b0c t' w:=fun hp=>List.map_congr_left (fun p j=>by rw [h _ (hp p j)])
 cases so <;> simp only [opA]
 case build z w=>rw [r (fun p j=>by simp only [a0g,List.mem_map];exact ⟨p,j,rfl⟩)]
 case lit e z n w=>rw [r (fun p j=>by simp only [a0g,List.mem_map];exact ⟨p,j,rfl⟩)]
 case mkfn f xs ys=>rw [q (xs:=xs) (fun x j=>by simp [a0g,j]),q (xs:=ys) (fun x j=>by simp [a0g,j])]
 case sl e size x lo hi mx=>rw [h x (by simp [a0g]),s (x:=lo) (fun y e=>by simp [a0g,e]),s (x:=hi) (fun y e=>by simp [a0g,e]),s (x:=mx) (fun y e=>by simp [a0g,e])]
 case call f xs l=>rw [q (xs:=xs) (fun x j=>by simp [a0g,j])]
 case callv x xs l=>rw [h x (by simp [a0g]),q (xs:=xs) (fun x j=>by simp [a0g,j])]
 case inv x tb xs l=>rw [h x (by simp [a0g]),q (xs:=xs) (fun x j=>by simp [a0g,j])]
 case mnx b x xs=>rw [h x (by simp [a0g]),q (xs:=xs) (fun x j=>by simp [a0g,j])]
 case pick c x y=>rw [h c (by simp [a0g]),h x (by simp [a0g]),h y (by simp [a0g])]
 case store n x y=>rw [h x (by simp [a0g]),h y (by simp [a0g])]
 case bin tg b x y=>rw [h x (by simp [a0g]),h y (by simp [a0g])]
 case appz e b z x y=>rw [h x (by simp [a0g]),h y (by simp [a0g])]
 case look z x y=>rw [h x (by simp [a0g]),h y (by simp [a0g])]
 case mupd m i x=>rw [h m (by simp [a0g]),h i (by simp [a0g]),h x (by simp [a0g])]
 case sop k xs=>rw [q (xs:=xs) (fun x j=>by simp [a0g,j])]
 case b2s x=>rw [h x (by simp [a0g])]
 case mk e b z x y=>rw [h x (by simp [a0g]),h y (by simp [a0g])]
 case ia n x y=>rw [h x (by simp [a0g]),h y (by simp [a0g])]
 case app e n b x y=>rw [h x (by simp [a0g]),h y (by simp [a0g])]
 case mv x=>rw [h x (by simp [a0g])]
 case box e x=>rw [h x (by simp [a0g])]
 case load g n x=>rw [h x (by simp [a0g])]
 case chk x=>rw [h x (by simp [a0g])]
 case un u x=>rw [h x (by simp [a0g])]
 case conv k x=>rw [h x (by simp [a0g])]
 case iface ty x=>rw [h x (by simp [a0g])]
 case fa o x=>rw [h x (by simp [a0g])]
 case fa0 e x=>rw [h x (by simp [a0g])]
 case fld g o n x=>rw [h x (by simp [a0g])]
 case ext x i=>rw [h x (by simp [a0g])]
 case len x=>rw [h x (by simp [a0g])]
 case cap x=>rw [h x (by simp [a0g])]
 case pan x=>rw [h x (by simp [a0g])]
theorem u0L (h:∀ x ∈ a0g so,ev t x=ev t' x):c0j t so=c0j t' so:=by
 cases so <;> simp only [c0j]
 case store n x y=>rw [h x (by simp [a0g])]
 case app e n b x y=>rw [h x (by simp [a0g]),h y (by simp [a0g])]
 case load g n x=>rw [h x (by simp [a0g])]
 case fa0 e x=>rw [h x (by simp [a0g])]
 case sl e size x lo hi mx=>rw [h x (by simp [a0g])]
 case look z x y=>rw [h x (by simp [a0g])]
 case mupd m i x=>rw [h m (by simp [a0g])]
 case b2s x=>rw [h x (by simp [a0g])]
theorem z0z {m i x:Value} (h:k0E fl H m i x=some H1):∃ b,m=.map (some b):=by
 unfold k0E at h
 split at h
 ·exact ⟨_,rfl⟩
 ·cases h
theorem o0F {b:Nat} (h:b ∈ (c0j t so).2):way so=2:=by cases so <;> simp [c0j] at h <;> rfl
theorem x0J {b:Nat} (h:b ∈ (c0j t so).1):way so=1 ∨ way so=2:=by cases so <;> simp [c0j] at h <;> simp [way]
theorem t1D {a b:Value} (h:K1K a b=true):a=b:=by
 have c:∀ {p q:Addr},l0P p q=true->p=q:=by
  intro p q h
  unfold l0P at h
  simp only [M1W,beq_iff_eq,O1D] at h
  cases p;cases q;simp_all
 unfold K1K at h
 split at h <;> (try simp only [M1W,beq_iff_eq,N1s,N1g] at h)
 ·rw [h]
 ·rw [h.1,h.2]
 ·rename_i a b
  have:a=b:=by
   apply ByteArray.ext
   exact O1x h
  rw [this]
 ·rfl
 ·rw [c h]
 ·rw [h.1,h.2]
 ·rw [c h.1.1,h.1.2,h.2]
 ·rfl
 ·rw [h]
 ·rfl
 ·rfl
theorem E0Z:∀ {a b:List Value},G1S a b=true->a=b
 | [],[],_=>rfl
 | v :: r,v' :: r',h=>by
  simp only [G1S,M1W] at h
  rw [t1D h.1,E0Z h.2]
 | [],_ :: _,h=>by cases h
 | _ :: _,[],h=>by cases h
theorem x0F {a b:Blk} (h:n0c a b=true):a=b:=by
 unfold n0c at h
 split at h
 ·rfl
 ·simp only [M1W,beq_iff_eq] at h
  rw [h.1.1,h.1.2,E0Z h.2]
 ·cases h
theorem y0r {b:Nat} (hb:b < H.size) (c:H1.bk b ≠ H.bk b):b ∈ G0i H H1:=by
 unfold G0i
 rw [P1h]
 refine ⟨N1N.2 hb,?_⟩
 cases h:n0c (H.bk b) (H1.bk b) with
 | false=>rfl
 | true=>exact N1i (x0F h).symm c
theorem u0K {f:FuncId} {args:List Value} (h:opA fl t H so=.call f args true) (G:a0c):e0B t so H G=([],G0i H G):=by
 unfold e0B
 cases so <;> simp only [opA] at h
 case call=>simp at h;simp [a0W,h.2.2]
 case callv=>split at h <;> simp at h;simp [a0W,h.2.2]
 case inv =>
  split at h
  ·split at h <;> simp at h;simp [a0W,h.2.2]
  ·cases h
 all_goals exfalso
 all_goals first
  | (simp at h;done)
  | (unfold a0R at h;split at h <;> cases h)
  | (unfold f0P at h;split at h <;> cases h)
  | (split at h <;> first | (cases h;done) | (split at h <;> first | (cases h;done) | (split at h <;> first | (cases h;done) | (unfold a0R at h;split at h <;> cases h))) | (unfold a0R at h;split at h <;> cases h))
theorem o0G {v:Value} (h:opA fl t H so=.val v H1) (G c:a0c):e0B t so G c = c0j t so:=by
 unfold e0B
 cases so <;> try rfl
 case call=>simp [opA] at h
 case callv=>simp only [opA] at h;split at h <;> cases h
 case inv =>
  simp only [opA] at h
  split at h
  ·split at h <;> cases h
  ·cases h
theorem x0K {t:a0U} {G c:a0c} (h:way so=2):e0B t so G c = c0j t so:=by
 cases so <;> simp [way] at h <;> rfl
theorem d0P {f:FuncId} {args:List Value} {l:Bool} (h:opA fl t H so=.call f args l):way so=3/\a0W so=l:=by
 have hc:=m0B h
 cases so <;> simp only [f0L,N1g] at hc
 case call=>simp [opA] at h;simp [way,a0W,h.2.2]
 case callv=>simp only [opA] at h;split at h <;> simp at h;simp [way,a0W,h.2.2]
 case inv =>
  simp only [opA] at h
  split at h
  ·split at h <;> simp at h;simp [way,a0W,h.2.2]
  ·cases h
theorem F0u {v:Value} (c:way so=0) (h:opA fl t H so=.val v H1):H1=H:=by
 have j:=p0q h
 cases so <;> simp only [way] at c <;> first | (exact N1i c (by decide)) | skip
 all_goals
  simp only [opA] at h
  first
   | (cases h;done)
   | (simp at h;exact h.2.symm)
   | (unfold a0R at h;split at h <;> simp at h;exact h.2.symm)
   | (split at h <;> first | (simp at h;exact h.2.symm) | (cases h;done) | (split at h <;> first | (simp at h;exact h.2.symm) | (cases h;done)) | (unfold a0R at h;split at h <;> simp at h;exact h.2.symm))
theorem F0v {v:Value} (c:way so=1) (h:opA fl t H so=.val v H1):H1=H:=by
 cases so <;> simp only [way] at c <;> first | (exact N1i c (by decide)) | skip
 all_goals
  simp only [opA] at h
  first
   | (unfold a0R at h;split at h <;> simp at h;exact h.2.symm)
   | (split at h <;> first | (cases h;done) | (unfold a0R at h;split at h <;> simp at h;exact h.2.symm) | (split at h <;> first | (cases h;done) | (split at h <;> simp at h;exact h.2.symm)))
theorem G0b (hc:cOp X.P lone op=some so) (j:g0K op=1):way so=0 ∨ way so=1:=by
 cases op <;> simp [g0K] at j
 case call c=>obtain ⟨h,args,k⟩:=c;cases h <;> simp at j;split at j <;> cases j
 case load =>
  simp only [cOp,M1S,M1P,M1T,M1Q] at hc
  obtain ⟨_,_,_,_,_,_,rfl⟩:=hc;exact .inr rfl
 case convert =>
  simp only [cOp] at hc
  split at hc
  ·simp only [M1S,M1P,M1T,M1Q] at hc
   obtain ⟨_,_,rfl⟩:=hc;exact .inl rfl
  ·split at hc
   ·simp only [M1S,M1P,M1T,M1Q] at hc
    obtain ⟨_,_,rfl⟩:=hc;exact .inr rfl
   ·cases hc
  ·cases hc
 case slice =>
  simp only [cOp] at hc
  split at hc
  ·split at hc
   ·simp only [M1S,M1P,M1T,M1Q] at hc
    obtain ⟨_,_,_,_,_,_,rfl⟩:=hc;exact .inl rfl
   ·simp only [M1S,M1P,M1T,M1Q] at hc
    obtain ⟨_,_,_,_,rfl⟩:=hc;exact .inl rfl
   ·cases hc
  ·simp only [M1S,M1P,M1T,M1Q] at hc
   obtain ⟨_,_,_,_,_,_,_,_,_,_,_,_,rfl⟩:=hc;exact .inr rfl
 case fieldAddr =>
  simp only [cOp,M1S,M1P,M1T,M1Q] at hc
  obtain ⟨_,_,_,_,_,_,hc⟩:=hc
  split at hc
  ·split at hc
   ·simp only [M1P,M1Q] at hc
    obtain ⟨_,_,rfl⟩:=hc;exact .inr rfl
   ·cases hc
  ·simp only [M1P,M1Q] at hc
   obtain ⟨_,_,rfl⟩:=hc;exact .inl rfl
 case lookup ty x i ok =>
  cases ok with
  | true=>simp [cOp] at hc
  | false =>
   simp only [cOp] at hc
   split at hc
   ·split at hc
    ·split at hc
     ·split at hc
      ·simp only [M1S,M1P,M1T,M1Q] at hc
       obtain ⟨_,_,_,_,rfl⟩:=hc;exact .inr rfl
      ·cases hc
     ·cases hc
    ·cases hc
   ·cases hc
theorem q0J (hc:cOp X.P lone op=some so):(way so ≠ 0->g0K op ≠ 0)/\(a0W so=true->lone=true):=by
 cases op
 case makeMap ty r =>
  cases r with
  | none=>simp only [cOp,M1Q] at hc;subst hc;exact ⟨fun _=>by simp [g0K],fun h=>by simp [a0W] at h⟩
  | some x=>simp [cOp] at hc
 case mapUpdate =>
  simp only [cOp] at hc
  split at hc
  ·split at hc
   ·simp only [M1S,M1P,M1T,M1Q] at hc
    obtain ⟨_,_,_,_,_,_,rfl⟩:=hc
    exact ⟨fun _=>by simp [g0K],fun h=>by simp [a0W] at h⟩
   ·cases hc
  ·cases hc
 case convert =>
  simp only [cOp] at hc
  split at hc
  ·simp only [M1S,M1P,M1T,M1Q] at hc
   obtain ⟨_,_,rfl⟩:=hc
   exact ⟨fun _=>by simp [g0K],fun h=>by simp [a0W] at h⟩
  ·split at hc
   ·simp only [M1S,M1P,M1T,M1Q] at hc
    obtain ⟨_,_,rfl⟩:=hc
    exact ⟨fun _=>by simp [g0K],fun h=>by simp [a0W] at h⟩
   ·cases hc
  ·cases hc
 case index =>
  simp only [cOp] at hc
  split at hc
  ·simp only [M1S,M1P,M1T,M1Q] at hc
   obtain ⟨_,_,_,_,rfl⟩:=hc
   exact ⟨fun h=>by simp [way] at h,fun h=>by simp [a0W] at h⟩
  ·cases hc
 case slice =>
  refine ⟨fun _=>by simp [g0K],fun k=>?_⟩
  simp only [cOp] at hc
  split at hc
  ·split at hc
   ·simp only [M1S,M1P,M1T,M1Q] at hc
    obtain ⟨_,_,_,_,_,_,rfl⟩:=hc
    simp [a0W] at k
   ·simp only [M1S,M1P,M1T,M1Q] at hc
    obtain ⟨_,_,_,_,rfl⟩:=hc
    simp [a0W] at k
   ·cases hc
  ·simp only [M1S,M1P,M1T,M1Q] at hc
   obtain ⟨_,_,_,_,_,_,_,_,_,_,_,_,rfl⟩:=hc
   simp [a0W] at k
 case lookup ty x i ok =>
  cases ok with
  | true=>simp [cOp] at hc
  | false =>
   simp only [cOp] at hc
   split at hc
   ·split at hc
    ·split at hc
     ·split at hc
      ·simp only [M1S,M1P,M1T,M1Q] at hc
       obtain ⟨_,_,_,_,rfl⟩:=hc
       exact ⟨fun _=>by simp [g0K],fun h=>by simp [a0W] at h⟩
      ·cases hc
     ·cases hc
    ·cases hc
   ·cases hc
 case call c =>
  obtain ⟨j,args,q⟩:=c
  cases j with
  | value f =>
   refine ⟨fun _=>by simp [g0K],fun k=>?_⟩
   cases f <;> simp only [cOp] at hc
   case func f =>
    split at hc
    ·simp only [M1S,M1P,M1T,M1Q] at hc
     obtain ⟨_,_,rfl⟩:=hc;exact k
    ·cases hc
   all_goals
    simp only [M1S,M1P,M1T,M1Q] at hc
    obtain ⟨_,_,_,_,rfl⟩:=hc;exact k
  | invoke r n =>
   refine ⟨fun _=>by simp [g0K],fun k=>?_⟩
   simp only [cOp,M1S,M1P,M1T,M1Q] at hc
   obtain ⟨_,_,_,_,rfl⟩:=hc;exact k
  | builtin b =>
   simp only [cOp] at hc
   split at hc
   ·split at hc
    ·simp only [M1S,M1P,M1T,M1Q] at hc
     obtain ⟨_,_,rfl⟩:=hc
     exact ⟨fun h=>by simp [way] at h,fun h=>by simp [a0W] at h⟩
    simp only [M1S,M1P,M1T,M1Q] at hc
    obtain ⟨_,_,_,_,rfl⟩:=hc
    exact ⟨fun h=>by simp [way] at h,fun h=>by simp [a0W] at h⟩
   ·simp only [M1S,M1P,M1T,M1Q] at hc
    obtain ⟨_,_,_,_,rfl⟩:=hc
    exact ⟨fun h=>by simp [way] at h,fun h=>by simp [a0W] at h⟩
   ·simp only [M1S,M1P,M1T,M1Q] at hc
    obtain ⟨_,_,_,_,rfl⟩:=hc
    exact ⟨fun h=>by simp [way] at h,fun h=>by simp [a0W] at h⟩
   ·simp only [M1S,M1P,M1T,M1Q] at hc
    obtain ⟨_,_,_,_,rfl⟩:=hc
    exact ⟨fun h=>by simp [way] at h,fun h=>by simp [a0W] at h⟩
   ·simp only [M1S,M1P] at hc
    obtain ⟨_,_,_,_,_,_,hc⟩:=hc
    split at hc
    ·simp only [M1P,M1T,M1Q] at hc
     obtain ⟨_,_,_,_,_,_,rfl⟩:=hc
     exact ⟨fun _=>by simp [g0K],fun h=>by simp [a0W] at h⟩
    ·split at hc
     ·simp only [M1P,M1T,M1Q] at hc
      obtain ⟨_,_,_,_,_,_,rfl⟩:=hc
      exact ⟨fun _=>by simp [g0K],fun h=>by simp [a0W] at h⟩
     ·cases hc
   ·cases hc
 all_goals
  simp only [cOp,N1z,M1S,M1P,M1T,M1Q,reduceCtorEq] at hc
 all_goals (try (split at hc))
 all_goals (try (simp only [M1S,M1T,M1P,M1Q,reduceCtorEq] at hc))
 case move=>obtain ⟨_,_,rfl⟩:=hc;exact ⟨fun h=>by simp [way] at h,fun h=>by simp [a0W] at h⟩
 case assign=>obtain ⟨_,_,rfl⟩:=hc;exact ⟨fun h=>by simp [way] at h,fun h=>by simp [a0W] at h⟩
 all_goals
  (repeat' (first | (obtain ⟨_,_,hc⟩:=hc) | (split at hc) | (simp only [M1P,M1T,M1Q,reduceCtorEq] at hc)))
 all_goals (try subst hc)
 all_goals
  refine ⟨fun h=>?_,fun h=>?_⟩
  ·first
    | (simp [g0K];done)
    | (simp [way] at h;done)
  ·simp [a0W] at h
def cut (φ:Inj) (m:Nat):Inj:=fun b=>if b < m then φ b else none
theorem a0X {m b:Nat} {y:Nat × Nat}:cut φ m b=some y <-> b < m/\φ b=some y:=by
 unfold cut;split
 ·rename_i h;simp [h]
 ·rename_i h;simp [h]
theorem i0y {m k:Nat} (c:m<=k) (hφ:∀ b y,b < m->φ b=some y->φ' b=some y):∀ b y,cut φ m b=some y->cut φ' k b=some y:=fun b y h=>by
 rw [a0X] at h ⊢
 exact ⟨by omega,hφ b y h.1 h.2⟩
theorem VR.cut {m:Nat} (j:∀ b y,φ b=some y->b < m) {v u:Value} (h:VR X φ S v u):∀ {c},VR X ψ S' v c->VR X (cut ψ m) S' v c:=by
 induction h with
 | bool b=>intro c k;cases k;exact .bool _
 | int k n=>intro c k;cases k;exact .int _ _
 | str s=>intro c k;cases k;exact .str _
 | pnil=>intro c k;cases k;exact .pnil
 | ptr a a' B o h1 h2 h3 h4=>intro c k;cases k with | ptr _ a2 B2 o2 g1 g2 g3 g4=>exact .ptr _ _ B2 o2 g1 (a0X.2 ⟨j _ _ h2,g2⟩) g3 g4
 | snil=>intro c k;cases k;exact .snil
 | mnil=>intro c k;cases k;exact .mnil
 | sle a a' =>
  intro c k
  cases k with
  | sle _ a2=>exact .sle _ _
  | sl _ a2 _ _ c2 B2 o2 g1 g2 g3 g4 g5 g6 g7 g8=>rw [g6 (by simp [unk])];exact .sle _ _
 | sl a a' len cap cap' B o h1 h2 h3 h4 h5 h6 h7 h8 =>
  intro c k
  cases k with
  | sle _ a2=>exact .sle _ _
  | sl _ a2 _ _ c2 B2 o2 g1 g2 g3 g4 g5 g6 g7 g8=>exact .sl _ _ _ _ _ B2 o2 g1 (a0X.2 ⟨j _ _ h2,g2⟩) g3 g4 g5 g6 g7 g8
 | mp b B o h h2=>intro c k;cases k with | mp _ B2 o2 g g2=>exact .mp _ B2 o2 (a0X.2 ⟨j _ _ h,g⟩) g2
 | nilFunc=>intro c k;cases k;exact .nilFunc
 | nilIface=>intro c k;cases k;exact .nilIface
 | func f a b a' b' h1 _ h3 _ ih1 ih2 =>
  intro c k
  cases k with
  | func _ _ _ a2 b2 g1 g2 g3 g4=>exact .func _ _ _ _ _ g1 (fun i hi=>ih1 i hi (g2 i hi)) g3 (fun i hi=>ih2 i hi (g4 i hi))
 | iface ty v v' _ ih=>intro c k;cases k with | iface _ _ v2 g=>exact .iface _ _ _ (ih g)
 | agg a a' h1 _ ih=>intro c k;cases k with | agg _ a2 g1 g2=>exact .agg _ _ g1 (fun i hi=>ih i hi (g2 i hi))
 | tuple a a' h1 _ ih=>intro c k;cases k with | tuple _ a2 g1 g2=>exact .tuple _ _ g1 (fun i hi=>ih i hi (g2 i hi))
theorem CR.cut {m:Nat} (j:∀ b y,φ b=some y->b < m) {l u c:List Value} (h:CR X φ S l u) (k:CR X ψ S' l c):CR X (cut ψ m) S' l c :=
 ⟨k.1,fun i hi=>(h.2 i hi).cut j (k.2 i hi)⟩
end
section
structure Ctx (X:Cx) (call:Nat->FuncId->List Value->a0c->Res (Value × a0c)) (fl:Nat) (ops:Array Oper) (l:List a0v) (bef:List Nat) (pairs:List (Nat × Nat)) (R:Run):Prop where
 callOk:b0x X call
 keepOk:i0t call
 tab:w0E X ops l bef pairs
 run:∀ (k:Nat) (s:a0v),l[k]? = some s->j0H call fl bef R k s
 apart:c0u ((List.range' 0 l.length).map R.tc) pairs=true
 p0:R.Pn 0=none
 low:fl<=(R.Hh 0).size
variable {X:Cx} {call:Nat->FuncId->List Value->a0c->Res (Value × a0c)} {fl:Nat} {ops:Array Oper} {l:List a0v} {bef:List Nat} {pairs:List (Nat × Nat)} {R:Run} (C:Ctx X call fl ops l bef pairs R)
include C
theorem Ctx.sAt {k:Nat} (c:k < l.length):∃ s,l[k]? = some s:=⟨l[k],M1X c⟩
omit C in
theorem g0J {t:a0U} {H H1:a0c} {so:SOp} {v:Value} (h:b0i call fl t H so=.ok (v,H1)) :
  opA fl t H so=.val v H1 ∨ ∃ f args lone,opA fl t H so=.call f args lone/\call (if lone=true then fl else max fl H.size) f args H=.ok (v,H1):=by
 unfold b0i at h
 split at h
 ·cases h
 ·cases h
 ·rename_i v' H' c;simp only [Res.ok.injEq,N1V] at h;obtain ⟨rfl,rfl⟩:=h;exact .inl c
 ·rename_i f args lone hc;exact .inr ⟨f,args,lone,hc,h⟩
theorem Ctx.keepStep {k:Nat} (c:k < l.length) (hlow:fl<=(R.Hh k).size):h0E fl (R.Hh k) (R.Hh (k + 1)):=by
 obtain ⟨s,hs⟩:=C.sAt c
 rcases C.run k s hs with h | h | h | h
 ·rw [h.2.2.2.1];exact h0E.refl
 ·rw [h.2.2.2.2.2.1];exact h0E.refl
 ·exact k0M C.keepOk hlow h.2.2.2.1
 ·rw [h.2.2.2.2.2.2.2.1];exact h0E.refl
theorem Ctx.keep0:∀ {k:Nat},k<=l.length->fl<=(R.Hh k).size/\h0E fl (R.Hh 0) (R.Hh k)
 | 0,_=>⟨C.low,h0E.refl⟩
 | k + 1,hk=>by
  obtain ⟨c,j⟩:=Ctx.keep0 (k:=k) (by omega)
  have h:=C.keepStep (by omega:k < l.length) c
  exact ⟨N1n c h.size,j.trans h (M1U _)⟩
theorem Ctx.keepIJ {i:Nat}:∀ {j:Nat},i<=j->j<=l.length->h0E fl (R.Hh i) (R.Hh j)
 | 0, hij, _ => by obtain rfl : i = 0 := by omega
                   exact h0E.refl
 | j + 1,hij,hj=>by
  by_cases h:i=j + 1
  ·subst h;exact h0E.refl
  ·exact (Ctx.keepIJ (j:=j) (by omega) (by omega)).trans (C.keepStep (by omega) (C.keep0 (by omega)).1) (M1U _)
theorem Ctx.szmono {i j:Nat} (c:i<=j) (h:j<=l.length):(R.Hh i).size<=(R.Hh j).size:=(C.keepIJ c h).size
theorem Ctx.pan:∀ {k:Nat},k<=l.length->∀ p v,R.Pn k=some (p,v)->p < k/\R.st p=3
 | 0,_,p,v,h=>by rw [C.p0] at h;cases h
 | k + 1,hk,p,v,h=>by
  obtain ⟨s,hs⟩:=C.sAt (by omega:k < l.length)
  have c:=Ctx.pan (k:=k) (by omega)
  rcases C.run k s hs with g | g | g | g
  ·rw [g.2.2.2.2.1] at h;have:=c p v h;exact ⟨by omega,this.2⟩
  ·rw [g.2.2.2.2.2.2.1] at h;have:=c p v h;exact ⟨by omega,this.2⟩
  ·rw [g.2.2.2.2.2.1] at h;have:=c p v h;exact ⟨by omega,this.2⟩
  ·rw [g.2.2.2.2.2.1] at h;cases h;exact ⟨by omega,g.1⟩
theorem Ctx.change {k:Nat} {s:a0v} (hs:l[k]? = some s) {b:Nat} (hb:b < (R.Hh k).size) (c:(R.Hh (k + 1)).bk b ≠ (R.Hh k).bk b) :
  R.st k=2/\b ∈ (R.tc k).2/\(way s.op=2 ∨ (way s.op=3/\a0W s.op=true)):=by
 have u:k < l.length:=(N1b.1 hs).1
 rcases C.run k s hs with h | h | h | h
 ·rw [h.2.2.2.1] at c;exact N1i rfl c
 ·rw [h.2.2.2.2.2.1] at c;exact N1i rfl c
 ·refine ⟨h.1,?_⟩
  rcases g0J h.2.2.2.1 with j | ⟨f,args,lone,hc,hcall⟩
  ·have:=(p0q j).changed hb c
   rw [h.2.2.2.2.2.2,o0G j]
   exact ⟨this,.inl (o0F this)⟩
  ·obtain ⟨q,r⟩:=d0P hc
   cases lone with
   | true =>
    rw [h.2.2.2.2.2.2,u0K hc]
    exact ⟨y0r hb c,.inr ⟨q,r⟩⟩
   | false =>
    have hlow:=(C.keep0 (by omega:k<=l.length)).1
    have:=(C.keepOk _ _ _ _ _ _ hcall (by simp;omega)).low b (by simp;omega)
    exact N1i this c
 ·rw [h.2.2.2.2.2.2.2.1] at c;exact N1i rfl c
theorem Ctx.grow {k:Nat} {s:a0v} (hs:l[k]? = some s) (c:(R.Hh k).size ≠ (R.Hh (k + 1)).size):way s.op ≠ 0/\way s.op ≠ 1:=by
 rcases C.run k s hs with h | h | h | h
 ·rw [h.2.2.2.1] at c;exact N1i rfl c
 ·rw [h.2.2.2.2.2.1] at c;exact N1i rfl c
 ·refine ⟨fun j=>?_,fun j=>?_⟩
  ·rcases g0J h.2.2.2.1 with q | ⟨f,args,lone,hc,hcall⟩
   ·rw [F0u j q] at c;exact N1i rfl c
   ·rw [(d0P hc).1] at j;cases j
  ·rcases g0J h.2.2.2.1 with q | ⟨f,args,lone,hc,hcall⟩
   ·rw [F0v j q] at c;exact N1i rfl c
   ·rw [(d0P hc).1] at j;cases j
 ·rw [h.2.2.2.2.2.2.2.1] at c;exact N1i rfl c
omit C in
theorem s0Z (t:a0U) (d:Option Nat) (v:Value) (x:Nat):get (put t d v) x=if d=some x/\x < t.length then v else get t x:=by
 cases d with
 | none=>simp [put]
 | some d =>
  simp only [put,get,M1R,N1C,M1Q]
  by_cases h:d=x
  ·subst h
   by_cases c:d < t.length
   ·simp [c]
   ·simp [c]
  ·simp [h]
theorem Ctx.slot {k:Nat} {s:a0v} (hs:l[k]? = some s) {x:Nat} (c:get (R.T (k + 1)) x ≠ get (R.T k) x):(R.st k=1 ∨ R.st k=2)/\s.dst=some x:=by
 rcases C.run k s hs with h | h | h | h
 ·rw [h.2.2.1] at c;exact N1i rfl c
 ·refine ⟨.inl h.1,?_⟩
  rw [h.2.2.2.2.1,s0Z] at c
  split at c
  ·rename_i j;exact j.1
  ·exact N1i rfl c
 ·refine ⟨.inr h.1,?_⟩
  rw [h.2.2.2.2.1,s0Z] at c
  split at c
  ·rename_i j;exact j.1
  ·exact N1i rfl c
 ·rw [h.2.2.2.2.2.2.1] at c;exact N1i rfl c
theorem Ctx.tlen:∀ {k:Nat},k<=l.length->(R.T k).length=(R.T 0).length
 | 0,_=>rfl
 | k + 1,hk=>by
  obtain ⟨s,hs⟩:=C.sAt (by omega:k < l.length)
  have c:=Ctx.tlen (k:=k) (by omega)
  have hp:∀ (d:Option Nat) (v:Value),(put (R.T k) d v).length=(R.T k).length:=fun d v=>by cases d <;> simp [put]
  rcases C.run k s hs with h | h | h | h
  ·rw [h.2.2.1];exact c
  ·rw [h.2.2.2.2.1,hp];exact c
  ·rw [h.2.2.2.2.1,hp];exact c
  ·rw [h.2.2.2.2.2.2.1];exact c
theorem Ctx.disj {i j:Nat} (hp:(i,j) ∈ pairs ∨ (j,i) ∈ pairs) (hi:i < l.length) (s:j < l.length) {b:Nat} (hb:b ∈ (R.tc i).2):b ∉ (R.tc j).1/\b ∉ (R.tc j).2:=by
 have q:=C.apart
 unfold c0u at q
 rw [N1H] at q
 have c:∀ k,k < l.length->((List.range' 0 l.length).map R.tc).getD k ([],[])=R.tc k:=fun k w=>by
  simp only [M1R,N1Q,List.getElem?_range' w,N1M,N1D]
  congr 1;omega
 have r:∀ {u v:List Nat},t0e u v=false->∀ {b:Nat},b ∈ u->b ∉ v:=fun {u v} h {b} y z=>by
  unfold t0e at h
  rw [List.any_eq_false] at h
  exact h b y (by simpa using z)
 rcases hp with hp | hp
 ·have h:=q _ hp
  simp only [c i hi,c j s,M1W,O1s] at h
  exact ⟨r h.1.1 hb,r h.1.2 hb⟩
 ·have h:=q _ hp
  simp only [c i hi,c j s,M1W,O1s] at h
  exact ⟨fun x=>r h.2 x hb,fun F=>r h.1.2 F hb⟩
theorem Ctx.clash {k j:Nat} {N x:a0v} (H:l[k]? = some N) (U:l[j]? = some x) (w:k ≠ j) (O:a0T bef k j=false) (Q:a0T bef j k=false) {b:Nat} (hb:b < (R.Hh k).size)
  (J:(R.Hh (k + 1)).bk b ≠ (R.Hh k).bk b) (Z:way x.op ≠ 0):(way N.op=2 ∨ (way N.op=3/\way x.op=1))/\b ∈ (R.tc k).2/\way x.op ≠ 3/\b ∉ (R.tc j).1/\b ∉ (R.tc j).2:=by
 have I:k < l.length:=(N1b.1 H).1
 have G:j < l.length:=(N1b.1 U).1
 obtain ⟨ok,Y,S⟩:=C.tab.op k N H
 obtain ⟨oj,L,z⟩:=C.tab.op j x U
 have a0:=C.tab.len
 have u:=C.tab.two w (by omega) (by omega) O Q Y L H U
 have q:=(C.change H hb J).2.1
 rcases (C.change H hb J).2.2 with y | ⟨y,h4⟩
 ·have hp:=u.2.2.2.2.1 ⟨y,Z⟩
  have F:=C.disj hp I G q
  exact ⟨.inl y,q,fun e=>u.2.2.2.1 ⟨y,e⟩,F.1,F.2⟩
 ·have r:=(q0J (c0T S).1).2 h4
  have h6:(ops.toList.map fun o=>g0K o.op).getD j 0=g0K oj.op:=by
   simp only [M1R,N1Q,N1S,L,N1M,N1D]
  have h7:=(q0J (c0T z).1).1 Z
  have s:g0K oj.op=1:=by
   unfold H0q at r
   rw [N1L,M1W] at r
   rcases r with r | ⟨_,r⟩
   ·exfalso
    unfold S0z at r
    rw [N1H] at r
    have c:=r j (N1N.2 (by simp;omega))
    rw [h6,O,Q] at c
    simp only [N1L,beq_iff_eq,N1g,or_false] at c
    rcases c with c | c
    ·exact w c.symm
    ·exact h7 c
   ·unfold z0t at r
    rw [N1H] at r
    have c:=r j (N1N.2 (by simp;omega))
    rw [h6,O,Q] at c
    simp only [N1L,beq_iff_eq,N1g,or_false] at c
    rcases c with (c | c) | c
    ·exact N1i c.symm w
    ·exact N1i c h7
    ·exact c
  have M:way x.op=1:=by
   rcases G0b (c0T z).1 s with h | h
   ·exact N1i h Z
   ·exact h
  have hp:=u.2.2.2.2.2 ⟨h4,M⟩
  have F:=C.disj hp I G q
  exact ⟨.inr ⟨y,M⟩,q,by omega,F.1,F.2⟩
end
section
structure L1M (X:Cx) (fl:Nat) (φ0:Inj) (H0:a0c) (w0:World) (φ:Inj) (w:World):Prop where
 ext:∀ b x,φ0 b=some x->φ b=some x
 shp:∀ B x,(shq w0) B=some x->(shq w) B=some x
 wsz:w0.heap.size<=w.heap.size
 os:w.os=w0.os
 tape:w.tape=w0.tape
 out:w.output=w0.output
 fresh:∀ b y,φ b=some y->φ0 b=none->H0.size<=b
 newB:∀ b B o,φ b=some (B,o)->φ0 b=none->w0.heap.size<=B ∨ ∃ b0 o0 e cs,φ0 b0=some (B,o0)/\fl<=b0/\H0.bk b0=.row false e cs
 frame:∀ B,B < w0.heap.size->(∀ b o e cs,φ0 b=some (B,o)->fl<=b->H0.bk b ≠ .row false e cs)->w.heap[B]? = w0.heap[B]?
structure Inv (X:Cx) (fl:Nat) (ops:Array Oper) (l:List a0v) (bef:List Nat) (R:Run) (φ0:Inj) (w0:World) (Sd:Nat->Prop) (φ:Inj) (κ θ:Nat->Nat) (a:Act) (w:World):Prop where
 done:∀ k,k < l.length->Sd k->R.st k=1 ∨ R.st k=2
 down:∀ j,j < l.length->Sd j->∀ i,a0T bef i j=true->Sd i
 tlen:a.tmps.size=(R.T 0).length
 defers:a.defers=R.ds
 base:X.base<=w.heap.size
 T:∀ x,x < (R.T 0).length->θ x<=l.length/\(θ x=0 ∨ ∃ k s,θ x=k + 1/\Sd k/\l[k]? = some s/\s.dst=some x)/\(∀ k s,θ x<=k->Sd k->l[k]? = some s->s.dst ≠ some x) /\
  VR X (cut φ (R.Hh (θ x)).size) (shq w) (get (R.T (θ x)) x) (a.tmps.getD x undef)
 D:∀ b y,φ b=some y->b < (R.Hh 0).size ∨ ∃ k,k < l.length/\Sd k/\(R.Hh k).size<=b/\b < (R.Hh (k + 1)).size
 Rr:∀ b B o,φ b=some (B,o)->κ b<=l.length/\b < (R.Hh (κ b)).size/\(κ b=0 ∨ ∃ k,κ b=k + 1/\k < l.length/\Sd k/\((R.Hh k).size<=b ∨ (R.Hh (k + 1)).bk b ≠ (R.Hh k).bk b)) /\
  (∀ k,κ b<=k->k < l.length->Sd k->(R.Hh (k + 1)).bk b=(R.Hh k).bk b) /\
  ∀ ro e cs,(R.Hh (κ b)).bk b=.row ro e cs->g0U X (cut φ (R.Hh (κ b)).size) w B o ro e cs
 P:∀ b b' B o o' e cs,φ b=some (B,o)->φ b' = some (B,o')->b ≠ b'->(R.Hh (κ b)).bk b=.row false e cs->(R.Hh (κ b')).bk b' = .dead
 W:∀ k s,l[k]? = some s->Sd k->R.st k=2->way s.op=2->∀ b,b ∈ (R.tc k).2->φ b ≠ none
 glob:L1M X fl φ0 (R.Hh 0) w0 φ w
variable {X:Cx} {call:Nat->FuncId->List Value->a0c->Res (Value × a0c)} {fl:Nat} {ops:Array Oper} {l:List a0v} {bef:List Nat} {pairs:List (Nat × Nat)} {R:Run} (C:Ctx X call fl ops l bef pairs R)
variable {φ0 φ:Inj} {w0 w w':World} {Sd:Nat->Prop} {κ θ:Nat->Nat} {a:Act} (I:Inv X fl ops l bef R φ0 w0 Sd φ κ θ a w)
variable {j:Nat} {s:a0v} {o:Oper} (hs:l[j]? = some s) (ho:ops[j]? = some o) (hnj:¬ Sd j) (hpre:∀ i,a0T bef i j=true->Sd i)
include C I hs hnj hpre
theorem Inv.unord {k:Nat} (s:k < l.length) (u:k ≠ j) (h:(Sd k/\j < k) ∨ (¬ Sd k/\k < j)):a0T bef k j=false/\a0T bef j k=false:=by
 have w:j < l.length:=(N1b.1 hs).1
 have q:=C.tab.len
 rcases h with ⟨c,r⟩ | ⟨c,r⟩
 ·refine ⟨?_,?_⟩
  ·cases h3:a0T bef k j with
   | false=>rfl
   | true=>have:=C.tab.lt j k (by omega) h3;omega
  ·cases h3:a0T bef j k with
   | false=>rfl
   | true=>exact N1i (I.down k s c j h3) hnj
 ·refine ⟨?_,?_⟩
  ·cases h3:a0T bef k j with
   | false=>rfl
   | true=>exact N1i (hpre k h3) c
  ·cases h3:a0T bef j k with
   | false=>rfl
   | true=>have:=C.tab.lt k j (by omega) h3;omega
include ho in
theorem Inv.slot {x:Nat} (hx:x < (R.T 0).length) (Q:x ∈ i0U o s):VR X (cut φ (R.Hh j).size) (shq w) (get (R.T j) x) (a.tmps.getD x undef):=by
 have hj:j < l.length:=(N1b.1 hs).1
 have O:=C.tab.len
 obtain ⟨h1,J,U,Y⟩:=I.T x hx
 have r:θ x<=j:=by
  rcases J with J | ⟨k,sk,h5,L,u,Z⟩
  ·omega
  ·by_cases a0:k < j
   ·omega
   ·exfalso
    have hk:k < l.length:=(N1b.1 u).1
    have c:k ≠ j:=fun e=>hnj (e ▸ L)
    obtain ⟨G,H⟩:=Inv.unord C I hs hnj hpre hk c (.inl ⟨L,by omega⟩)
    obtain ⟨ok,z,_⟩:=C.tab.op k sk u
    exact (((C.tab.two c (by omega) (by omega) G H z ho u hs).1 x Z).1) Q
 have y:∀ m,θ x<=m->m<=j->get (R.T m) x=get (R.T (θ x)) x:=by
  intro m hm
  induction m with
  | zero=>intro _;congr 2;omega
  | succ m ih =>
   intro a1
   by_cases hc:θ x=m + 1
   ·rw [hc]
   ·rw [<- ih (by omega) (by omega)]
    apply N1F
    intro c
    obtain ⟨S,q⟩:=C.sAt (by omega:m < l.length)
    obtain ⟨_,N⟩:=C.slot q c
    by_cases M:Sd m
    ·exact U m S (by omega) M q N
    ·obtain ⟨G,H⟩:=Inv.unord C I hs hnj hpre (by omega:m < l.length) (by omega) (.inr ⟨M,by omega⟩)
     obtain ⟨om,F,_⟩:=C.tab.op m S q
     exact (((C.tab.two (by omega) (by omega) (by omega) G H F ho q hs).1 x N).1) Q
 rw [y j r (M1U _)]
 exact Y.mo (i0y (C.szmono r (by omega)) (fun _ _ _ h=>h)) (fun _ _ h=>h)
def x0O (R:Run) (κ:Nat->Nat) (j b:Nat):Prop:=κ b<=j/\(R.Hh j).bk b=(R.Hh (κ b)).bk b
theorem Inv.notNew {b:Nat} {y:Nat × Nat} (hb:φ b=some y):b < (R.Hh j).size ∨ (R.Hh (j + 1)).size<=b:=by
 have w:j < l.length:=(N1b.1 hs).1
 rcases I.D b y hb with h | ⟨k,x,r,c,q⟩
 ·exact .inl (N1k h (C.szmono (N1K _) (by omega)))
 ·by_cases s:k < j
  ·exact .inl (N1k q (C.szmono (by omega) (by omega)))
  ·have u:k ≠ j:=fun e=>hnj (e ▸ r)
   exact .inr (N1n (C.szmono (by omega) (by omega)) c)
theorem Inv.good {b:Nat} {y:Nat × Nat} (hb:φ b=some y) (J:b < (R.Hh j).size) (hw:way s.op ≠ 0) (H:way s.op=3 ∨ b ∈ (R.tc j).1 ∨ b ∈ (R.tc j).2):x0O R κ j b:=by
 have hj:j < l.length:=(N1b.1 hs).1
 obtain ⟨B,o1⟩:=y
 obtain ⟨h1,h2,N,h4,_⟩:=I.Rr b B o1 hb
 have U:∀ {k:Nat} {M:a0v},l[k]? = some M->k ≠ j->a0T bef k j=false->a0T bef j k=false->b < (R.Hh k).size->(R.Hh (k + 1)).bk b ≠ (R.Hh k).bk b->False:=by
  intro k M u q x z r c
  obtain ⟨c1,c2,Y,Z,c5⟩:=C.clash u hs q x z r c hw
  rcases H with h | h | h
  ·exact Y h
  ·exact Z h
  ·exact c5 h
 have w:κ b<=j:=by
  rcases N with N | ⟨k,h5,S,O,F⟩
  ·omega
  ·by_cases a0:k < j
   ·omega
   ·exfalso
    have q:k ≠ j:=fun e=>hnj (e ▸ O)
    obtain ⟨x,z⟩:=Inv.unord C I hs hnj hpre S q (.inl ⟨O,by omega⟩)
    have r:b < (R.Hh k).size:=N1k J (C.szmono (by omega) (by omega))
    obtain ⟨M,u⟩:=C.sAt S
    rcases F with F | F
    ·omega
    ·exact U u q x z r F
 refine ⟨w,?_⟩
 have G:∀ m,κ b<=m->m<=j->(R.Hh m).bk b=(R.Hh (κ b)).bk b:=by
  intro m hm
  induction m with
  | zero=>intro _;congr 2;omega
  | succ m ih =>
   intro a1
   by_cases hc:κ b=m + 1
   ·rw [hc]
   ·rw [<- ih (by omega) (by omega)]
    apply N1F
    intro c
    obtain ⟨sm,L⟩:=C.sAt (by omega:m < l.length)
    by_cases Q:Sd m
    ·exact c (h4 m (by omega) (by omega) Q)
    ·obtain ⟨x,z⟩:=Inv.unord C I hs hnj hpre (by omega:m < l.length) (by omega) (.inr ⟨Q,by omega⟩)
     exact U L (by omega) x z (N1k h2 (C.szmono (by omega) (by omega))) c
 exact G j w (M1U _)
open Classical in
noncomputable def o0j (R:Run) (φ:Inj) (κ:Nat->Nat) (j:Nat):a0c :=
 ((List.range (R.Hh j).size).map fun b=>if φ b ≠ none/\¬ x0O R κ j b then Blk.dead else (R.Hh j).bk b).toArray
omit C I hs hnj hpre in
theorem d0O (R:Run) (φ:Inj) (κ:Nat->Nat) (j:Nat):(o0j R φ κ j).size=(R.Hh j).size:=by simp [o0j]
omit C I hs hnj hpre in
open Classical in
theorem j0U (R:Run) (φ:Inj) (κ:Nat->Nat) (j b:Nat):(o0j R φ κ j).bk b=if φ b ≠ none/\¬ x0O R κ j b then Blk.dead else (R.Hh j).bk b:=by
 by_cases hb:b < (R.Hh j).size
 ·simp only [o0j,a0c.bk,M1Y,List.getElem?_toArray,N1Q,O1j hb,N1M,N1D]
 ·have c:(o0j R φ κ j).bk b=.dead:=i0W (by rw [d0O];omega)
  have h:(R.Hh j).bk b=.dead:=i0W (by omega)
  rw [c,h];split <;> rfl
omit C I hs hnj hpre in
theorem e0E {b:Nat} {y:Nat × Nat} {ro:Bool} {e:TypeId} {cs:List Value} (hb:φ b=some y) (h:(o0j R φ κ j).bk b=.row ro e cs):x0O R κ j b/\(R.Hh j).bk b=.row ro e cs:=by
 rw [j0U] at h
 split at h
 ·cases h
 ·rename_i hc
  refine ⟨N1F fun c=>hc ⟨by rw [hb];simp,c⟩,h⟩
theorem Inv.rel:Rel X (cut φ (R.Hh j).size) (o0j R φ κ j) w:=by
 have O:j < l.length:=(N1b.1 hs).1
 refine { bs:=I.base,lt:=fun b x h=>by rw [d0O];exact (a0X.1 h).1,row:=?_,sep:=?_ }
 ·intro b B F ro e cs hb c
  obtain ⟨J,k⟩:=a0X.1 hb
  obtain ⟨⟨H,r⟩,s⟩:=e0E k c
  exact ((I.Rr b B F k).2.2.2.2 ro e cs (by rw [<- r];exact s)).mo (i0y (C.szmono H (by omega)) (fun _ _ _ h=>h)) (fun _ _ h=>h) rfl
 ·intro b G B F N e cs hb u z c
  obtain ⟨J,k⟩:=a0X.1 hb
  obtain ⟨L,q⟩:=a0X.1 u
  obtain ⟨⟨H,r⟩,s⟩:=e0E k c
  have M:=I.P b G B F N e cs k q z (by rw [<- r];exact s)
  rw [j0U]
  split
  ·rfl
  ·rename_i hc
   have y:x0O R κ j G:=N1F fun y=>hc ⟨by rw [q];simp,y⟩
   rw [y.2];exact M
end
section
variable {X:Cx} {call:Nat->FuncId->List Value->a0c->Res (Value × a0c)} {fl:Nat} {ops:Array Oper} {l:List a0v} {bef:List Nat} {pairs:List (Nat × Nat)} {R:Run} (C:Ctx X call fl ops l bef pairs R)
variable {φ0 φ:Inj} {w0 w w':World} {Sd:Nat->Prop} {κ θ:Nat->Nat} {a:Act} (I:Inv X fl ops l bef R φ0 w0 Sd φ κ θ a w)
variable {j:Nat} {s:a0v} {o:Oper} (hs:l[j]? = some s) (ho:ops[j]? = some o) (hnj:¬ Sd j) (hpre:∀ i,a0T bef i j=true->Sd i)
include C I hs hnj hpre
open Classical in
theorem Inv.after {a2:Inj} {G1:a0c} {v':Value} (j0:R.st j=1 ∨ R.st j=2) (g6:R.T (j + 1)=put (R.T j) s.dst (R.val j)) (a7:Par (R.Hh j) (R.Hh (j + 1)) (o0j R φ κ j) G1)
  (hv:VR X a2 (shq w') (R.val j) v') (J:b0R X fl (cut φ (R.Hh j).size) (o0j R φ κ j) w a2 G1 w') (hW:way s.op=2->∀ b,b ∈ (R.tc j).2->φ b ≠ none) (d9:∀ b y,φ0 b=some y->b < (R.Hh 0).size) :
  ∃ φ' b6 d0,Inv X fl ops l bef R φ0 w0 (fun k=>Sd k ∨ k=j) φ' b6 d0 (a.put s.dst v') w':=by
 have hj:j < l.length:=(N1b.1 hs).1
 have hlow:fl<=(R.Hh j).size:=(C.keep0 (by omega:j<=l.length)).1
 have f6:=C.keepStep hj hlow
 have hsz:(R.Hh j).size<=(R.Hh (j + 1)).size:=f6.size
 have g5:G1.size=(R.Hh (j + 1)).size:=a7.size
 have b4:=Inv.rel C I hs hnj hpre
 let φ':Inj:=fun b=>if (R.Hh j).size<=b/\b < (R.Hh (j + 1)).size then a2 b else φ b
 let ch:Nat->Prop:=fun b=>((R.Hh j).size<=b/\b < (R.Hh (j + 1)).size) ∨ (b < (R.Hh j).size/\(R.Hh (j + 1)).bk b ≠ (R.Hh j).bk b)
 let b6:Nat->Nat:=fun b=>if ch b then j + 1 else κ b
 let d0:Nat->Nat:=fun x=>if s.dst=some x then j + 1 else θ x
 have a9:∀ b,φ' b=if (R.Hh j).size<=b/\b < (R.Hh (j + 1)).size then a2 b else φ b:=fun _=>rfl
 have a1:∀ b,ch b->b6 b=j + 1:=fun b h=>M1Z h
 have L:∀ b,¬ ch b->b6 b=κ b:=fun b h=>M1V h
 have fA:∀ b y,φ b=some y->φ' b=some y:=fun b y hb=>by
  rw [a9,M1V];exact hb
  have:=Inv.notNew C I hs hnj hpre hb;omega
 have f1:∀ b y,b < (R.Hh j).size->a2 b=some y->φ b=some y:=fun b y hb h=>by
  cases hc:cut φ (R.Hh j).size b with
  | none=>have:=J.fresh b y h hc;rw [d0O] at this;omega
  | some z =>
   have:=J.ext b z hc
   rw [h] at this;cases this
   exact (a0X.1 hc).2
 have fB:∀ b y,a2 b=some y->b < (R.Hh (j + 1)).size/\φ' b=some y:=fun b y h=>by
  have N:=J.rel.lt b y h
  rw [g5] at N
  refine ⟨N,?_⟩
  rw [a9]
  by_cases hb:(R.Hh j).size<=b
  ·rw [M1Z ⟨hb,N⟩];exact h
  ·rw [M1V (by omega)];exact f1 b y (by omega) h
 have fC:∀ b y,φ' b=some y->b < (R.Hh (j + 1)).size->a2 b=some y:=fun b y h N=>by
  rw [a9] at h
  split at h
  ·exact h
  ·rename_i hc
   exact J.ext b y (a0X.2 ⟨by omega,h⟩)
 have Z:∀ b y,φ' b=some y->¬ ((R.Hh j).size<=b/\b < (R.Hh (j + 1)).size)->φ b=some y:=fun b y h hc=>by rw [a9,M1V hc] at h;exact h
 have d4:∀ b y,a2 b=some y->cut φ' (R.Hh (j + 1)).size b=some y:=fun b y h=>a0X.2 (fB b y h)
 have Y:∀ {k b:Nat},(R.Hh k).size<=b->(R.Hh k).bk b=.dead:=fun h=>i0W h
 -- a c8 operation that has run leaves alone what this one has turned
 have c8:∀ b,ch b->(φ' b ≠ none)->∀ k,j + 1<=k->k < l.length->(Sd k ∨ k=j)->(R.Hh (k + 1)).bk b=(R.Hh k).bk b:=by
  intro b e3 f5 k j7 hk u
  have u : Sd k := by rcases u with h | h; · exact h
                      ·omega
  apply N1F
  intro a0
  obtain ⟨sk,G⟩:=C.sAt hk
  have f3:b < (R.Hh k).size:=by
   have O:=C.szmono (show j + 1<=k by omega) (by omega)
   rcases e3 with h | h <;> omega
  obtain ⟨u1,u2⟩:=Inv.unord C I hs hnj hpre hk (by omega) (.inl ⟨u,by omega⟩)
  have f8:way s.op ≠ 0/\way s.op ≠ 1:=by
   rcases e3 with h | h
   ·exact C.grow hs (by omega)
   ·have h3:=(C.change hs h.1 h.2).2.2
    rcases h3 with h3 | ⟨h3,_⟩ <;> omega
  obtain ⟨c1,c2,c3,c4,c5⟩:=C.clash G hs (by omega) u1 u2 f3 a0 f8.1
  have c1:way sk.op=2:=by
   rcases c1 with c1 | c1
   ·exact c1
   ·exact N1i c1.2 f8.2
  rcases e3 with h | h
  ·-- new: nobody that has run could know it
   obtain ⟨f4,_⟩:=C.change G f3 a0
   have hd:=I.W k sk G u f4 c1 b c2
   cases hφb:φ b with
   | none=>exact hd hφb
   | some y=>have:=Inv.notNew C I hs hnj hpre hφb;omega
  ·exact c5 (C.change hs h.1 h.2).2.1
 -- an untouched block's concrete row, if it is not in the state that ran
 have f0:∀ b B Q ro e cs,φ b=some (B,Q)->(R.Hh (κ b)).bk b=.row ro e cs->((R.Hh (j + 1)).size<=b ∨ ¬ x0O R κ j b)->b < (R.Hh j).size ∨ (R.Hh (j + 1)).size<=b->w'.heap[B]? = w.heap[B]?:=by
  intro b B Q ro e cs hb q c7 a8
  have i9:=(I.Rr b B Q hb).2.2.2.2 ro e cs q
  refine J.frame B i9.lt ?_
  intro b1 o2 e1 b7 S d6 a5
  obtain ⟨g1,g2⟩:=a0X.1 S
  obtain ⟨g3,g4⟩:=e0E g2 a5
  have a0:b1 ≠ b:=by
   intro e;subst e
   rcases c7 with h | h
   ·omega
   ·exact h g3
  have:=I.P b1 b B o2 Q e1 b7 g2 hb a0 (by rw [<- g3.2];exact g4)
  rw [this] at q;cases q
 -- the blocks of the state that ran
 have M:∀ b,b < (R.Hh (j + 1)).size->(ch b ∨ x0O R κ j b)->φ' b ≠ none->G1.bk b=(R.Hh (b6 b)).bk b:=by
  intro b N i5 f5
  by_cases hc:ch b
  ·rw [a1 b hc]
   rcases hc with h | h
   ·exact a7.more b h.1
   ·exact a7.diff b h.1 h.2
  ·rw [L b hc]
   have hg : x0O R κ j b := by rcases i5 with h | h; · exact N1i h hc
                               ·exact h
   have d7:b < (R.Hh j).size:=by
    by_cases h:b < (R.Hh j).size
    ·exact h
    ·exact N1i (.inl ⟨by omega,N⟩) hc
   have e6:(R.Hh (j + 1)).bk b=(R.Hh j).bk b:=N1F fun h=>hc (.inr ⟨d7,h⟩)
   rw [a7.same b d7 e6,j0U,M1V (fun h=>h.2 hg),hg.2]
 refine ⟨φ',b6,d0,?_⟩
 refine
  { done := ?_
    down:=?_
    tlen:=?_
    defers:=?_
    base:=N1n I.base J.wsz
    T:=?_
    D:=?_
    Rr:=?_
    P:=?_
    W:=?_
    glob:=?_ }
 ·intro k hk u
  rcases u with h | h
  ·exact I.done k hk h
  ·subst h;exact j0
 ·intro k hk u i hi
  rcases u with h | h
  ·exact .inl (I.down k hk h i hi)
  ·subst h;exact .inl (hpre i hi)
 ·cases s.dst <;> simp [Act.put,I.tlen]
 ·rw [c0l];exact I.defers
 ·-- slots
  intro x hx
  have j2:=C.tab.len
  by_cases hd:s.dst=some x
  ·have e7:d0 x=j + 1:=M1Z hd
   rw [e7]
   refine ⟨by omega,.inr ⟨j,s,rfl,.inr rfl,hs,hd⟩,?_,?_⟩
   ·intro k sk hk u G i0
    have e4:k < l.length:=(N1b.1 G).1
    have u : Sd k := by rcases u with h | h; · exact h
                        ·omega
    obtain ⟨u1,u2⟩:=Inv.unord C I hs hnj hpre e4 (by omega) (.inl ⟨u,by omega⟩)
    obtain ⟨oj,i7,_⟩:=C.tab.op j s hs
    obtain ⟨ok,i8,_⟩:=C.tab.op k sk G
    exact ((C.tab.two (by omega) (by omega) (by omega) u1 u2 i8 i7 G hs).1 x i0).2 hd
   ·rw [g6,s0Z,M1Z ⟨hd,by rw [C.tlen (by omega)];exact hx⟩]
    have e1:(a.put s.dst v').tmps.getD x undef=v':=by
     rw [hd]
     simp only [Act.put]
     rw [a0E]
     simp only [Array.toList_setIfInBounds,M1R,N1C]
     rw [M1Z (by simp)]
     have:x < a.tmps.size:=by have:=I.tlen;omega
     simp [this]
    rw [e1]
    exact hv.mo d4 (fun _ _ h=>h)
  ·have e7:d0 x=θ x:=M1V hd
   rw [e7]
   obtain ⟨O,h2,h3,h4⟩:=I.T x hx
   refine ⟨O,?_,?_,?_⟩
   ·rcases h2 with h2 | ⟨k,sk,h5,h6,h7⟩
    ·exact .inl h2
    ·exact .inr ⟨k,sk,h5,.inl h6,h7⟩
   ·intro k sk hk u G
    rcases u with h | h
    ·exact h3 k sk hk h G
    ·subst h;rw [hs] at G;cases G;exact hd
   ·have e1:(a.put s.dst v').tmps.getD x undef=a.tmps.getD x undef:=by
     cases hsd:s.dst with
     | none=>rfl
     | some d =>
      have i3:d ≠ x:=fun e=>hd (by rw [hsd,e])
      simp only [Act.put]
      rw [a0E,a0E]
      simp only [Array.toList_setIfInBounds,M1R,N1C]
      rw [M1V i3]
    rw [e1]
    exact h4.mo (i0y (M1U _) (fun b y _ h=>fA b y h)) J.shp
 ·-- which blocks there are
  intro b y hb
  by_cases hc:(R.Hh j).size<=b/\b < (R.Hh (j + 1)).size
  ·exact .inr ⟨j,hj,.inr rfl,hc.1,hc.2⟩
  ·rcases I.D b y (Z b y hb hc) with h | ⟨k,O,h2,h3⟩
   ·exact .inl h
   ·exact .inr ⟨k,O,.inl h2,h3⟩
 ·-- rows
  intro b B Q hb
  by_cases hc:ch b
  ·rw [a1 b hc]
   have N:b < (R.Hh (j + 1)).size:=by rcases hc with h | h <;> omega
   refine ⟨by omega,N,.inr ⟨j,rfl,hj,.inr rfl,?_⟩,c8 b hc (by rw [hb];simp),?_⟩
   ·rcases hc with h | h
    ·exact .inl h.1
    ·exact .inr h.2
   ·intro ro e cs q
    have hG:=M b N (.inl hc) (by rw [hb];simp)
    rw [a1 b hc] at hG
    exact (J.rel.row b B Q ro e cs (fC b _ hb N) (by rw [hG];exact q)).mo d4 (fun _ _ h=>h) rfl
  ·rw [L b hc]
   have e5:¬ ((R.Hh j).size<=b/\b < (R.Hh (j + 1)).size):=fun h=>hc (.inl h)
   have f2:=Z b _ hb e5
   obtain ⟨O,h2,h3,h4,h5⟩:=I.Rr b B Q f2
   refine ⟨O,h2,?_,?_,?_⟩
   ·rcases h3 with h3 | ⟨k,h6,h7,h8,h9⟩
    ·exact .inl h3
    ·exact .inr ⟨k,h6,h7,.inl h8,h9⟩
   ·intro k hk e4 u
    rcases u with h | h
    ·exact h4 k hk e4 h
    ·subst h
     by_cases g7:b < (R.Hh k).size
     ·exact N1F fun h=>hc (.inr ⟨g7,h⟩)
     ·rw [Y (by omega),Y (by omega)]
   ·intro ro e cs q
    have d8:=h5 ro e cs q
    have a8:b < (R.Hh j).size ∨ (R.Hh (j + 1)).size<=b:=by omega
    by_cases hg:b < (R.Hh j).size/\x0O R κ j b
    ·-- in the state that ran
     have hG:=M b (by omega) (.inr hg.2) (by rw [hb];simp)
     rw [L b hc] at hG
     rcases J.rel.row b B Q ro e cs (fC b _ hb (by omega)) (by rw [hG];exact q) with ⟨c,el,fz,k1,k2,k3,k4⟩ | ⟨m1,m2,es,f9,m3,m4⟩ <;>
      rcases d8 with ⟨c0,g0,j6,q1,q2,q3,q4⟩ | ⟨n1,n2,j5,j1,n3,n4⟩
     ·have b8:=CR.cut (m:=(R.Hh (κ b)).size) (fun b y h=>(a0X.1 h).1) q3 k3
      exact .inl ⟨c,el,fz,k1,k2,b8.mo (i0y (M1U _) (fun b y _ h=>(fB b y h).2)) (fun _ _ h=>h),k4⟩
     ·have:=J.shp B (none,0) (by simp [shq,n3]);simp [shq,k1] at this
     ·have:=J.shp B (some g0,c0.size) (by simp [shq,q1]);simp [shq,m3] at this
     ·have b8:=CR.cut (m:=(R.Hh (κ b)).size) (fun b y h=>(a0X.1 h).1) n4 m4
      exact .inr ⟨m1,m2,es,f9,m3,b8.mo (i0y (M1U _) (fun b y _ h=>(fB b y h).2)) (fun _ _ h=>h)⟩
    ·have c7:(R.Hh (j + 1)).size<=b ∨ ¬ x0O R κ j b:=by
      by_cases h:(R.Hh (j + 1)).size<=b
      ·exact .inl h
      ·exact .inr fun i4=>hg ⟨by omega,i4⟩
     exact d8.mo (i0y (M1U _) (fun b y _ h=>fA b y h)) J.shp (f0 b B Q ro e cs f2 q c7 a8)
 ·-- apart
  intro b H B Q o2 e cs hb b3 a0 q
  let d2:Nat->Prop:=fun b=>b < (R.Hh (j + 1)).size/\(ch b ∨ x0O R κ j b)
  have c9:∀ b y,φ' b=some y->¬ d2 b->¬ ch b/\φ b=some y/\(b < (R.Hh j).size ∨ (R.Hh (j + 1)).size<=b)/\((R.Hh (j + 1)).size<=b ∨ ¬ x0O R κ j b):=by
   intro b y hb b5
   have O:¬ ch b:=fun hc=>b5 ⟨by rcases hc with h | h <;> omega,.inl hc⟩
   have e5:¬ ((R.Hh j).size<=b/\b < (R.Hh (j + 1)).size):=fun h=>O (.inl h)
   refine ⟨O,Z b y hb e5,by omega,?_⟩
   by_cases h:(R.Hh (j + 1)).size<=b
   ·exact .inl h
   ·exact .inr fun hg=>b5 ⟨by omega,.inr hg⟩
  have a6:∀ (x:Blk),(∀ ro e cs,x ≠ .row ro e cs)->x=.dead:=fun x h=>by cases x with | dead=>rfl | row ro e cs=>exact N1i rfl (h ro e cs)
  by_cases i1:d2 b
  ·have hG:=M b i1.1 i1.2 (by rw [hb];simp)
   have S:=fC b _ hb i1.1
   by_cases i2:d2 H
   ·have d1:=M H i2.1 i2.2 (by rw [b3];simp)
    rw [<- d1]
    exact J.rel.sep b H B Q o2 e cs S (fC H _ b3 i2.1) a0 (by rw [hG];exact q)
   ·obtain ⟨n1,n2,n3,n4⟩:=c9 H _ b3 i2
    rw [L H n1]
    apply a6
    intro e9 e2 b2 a4
    have j3:=((I.Rr H B o2 n2).2.2.2.2 e9 e2 b2 a4).lt
    -- who owned the block before
    have e8:∃ F U e0 r,cut φ (R.Hh j).size F=some (B,U)/\(o0j R φ κ j).bk F=.row false e0 r:=by
     cases hc0:cut φ (R.Hh j).size b with
     | some z =>
      have:=J.ext b z hc0
      rw [S] at this;cases this
      obtain ⟨r,h0⟩:=J.kind b e cs (b4.lt b _ hc0) (by rw [hG];exact q)
      exact ⟨b,Q,e,r,hc0,h0⟩
     | none =>
      rcases J.newB b B Q S hc0 with h | ⟨F,U,e0,r,O,_,h2⟩
      ·omega
      ·exact ⟨F,U,e0,r,O,h2⟩
    obtain ⟨F,U,e0,r,q1,q2⟩:=e8
    obtain ⟨q3,q4⟩:=a0X.1 q1
    obtain ⟨q5,q6⟩:=e0E q4 q2
    have c6:F ≠ H:=by
     intro e;subst e
     rcases n4 with h | h
     ·omega
     ·exact h q5
    have:=I.P F H B U o2 e0 r q4 n2 c6 (by rw [<- q5.2];exact q6)
    rw [this] at a4;cases a4
  ·obtain ⟨n1,n2,n3,n4⟩:=c9 b _ hb i1
   rw [L b n1] at q
   by_cases i2:d2 H
   ·have d1:=M H i2.1 i2.2 (by rw [b3];simp)
    have d5:=fC H _ b3 i2.1
    have j4:=((I.Rr b B Q n2).2.2.2.2 false e cs q).lt
    cases hc0:cut φ (R.Hh j).size H with
    | none =>
     rcases J.newB H B o2 d5 hc0 with h | ⟨F,U,e0,r,O,_,h2⟩
     ·omega
     ·exfalso
      obtain ⟨q3,q4⟩:=a0X.1 O
      obtain ⟨q5,q6⟩:=e0E q4 h2
      have c6:F ≠ b:=by
       intro e;subst e
       rcases n4 with h | h
       ·omega
       ·exact h q5
      have:=I.P F b B U Q e0 r q4 n2 c6 (by rw [<- q5.2];exact q6)
      rw [this] at q;cases q
    | some z =>
     have hz:=J.ext H z hc0
     rw [d5] at hz;cases hz
     obtain ⟨q3,q4⟩:=a0X.1 hc0
     have a3:=I.P b H B Q o2 e cs n2 q4 a0 q
     by_cases hc:ch H
     ·rw [a1 H hc]
      rw [a1 H hc] at d1
      apply a6
      intro e9 e2 b2 a4
      have g8 : (R.Hh (j + 1)).bk H ≠ (R.Hh j).bk H := by rcases hc with h | h; · omega
                                                          ·exact h.2
      cases e9 with
      | false =>
       obtain ⟨r,h0⟩:=J.kind H e2 b2 (by rw [d0O];exact q3) (by rw [d1];exact a4)
       obtain ⟨q5,q6⟩:=e0E q4 h0
       rw [<- q5.2,q6] at a3;cases a3
      | true =>
       have:=f6.kindR H e2 b2 q3 a4
       exact g8 (by rw [a4,this])
     ·rw [L H hc];exact a3
   ·obtain ⟨m1,m2,m3,m4⟩:=c9 H _ b3 i2
    rw [L H m1]
    exact I.P b H B Q o2 e cs n2 m2 a0 q
 ·-- what has been written g0X to what is known
  intro k sk G u i6 f7 b hb
  rcases u with h | h
  ·have:=I.W k sk G h i6 f7 b hb
   cases hφb:φ b with
   | none=>exact N1i hφb this
   | some y=>rw [fA b y hφb];simp
  ·subst h
   rw [hs] at G;cases G
   have:=hW f7 b hb
   cases hφb:φ b with
   | none=>exact N1i hφb this
   | some y=>rw [fA b y hφb];simp
 ·-- held against the beginning
  have g:=I.glob
  refine
   { ext := fun b x h => fA b x (g.ext b x h)
     shp:=fun B x h=>J.shp B x (g.shp B x h)
     wsz:=N1n g.wsz J.wsz
     os:=J.os.trans g.os
     tape:=J.tape.trans g.tape
     out:=J.out.trans g.out
     fresh:=fun b y hb hn=>by
      by_cases hc:(R.Hh j).size<=b/\b < (R.Hh (j + 1)).size
      ·exact N1n (C.szmono (N1K _) (by omega)) hc.1
      ·exact g.fresh b y (Z b y hb hc) hn
     newB:=?_
     frame:=?_ }
  ·intro b B Q hb hn
   have d3:∀ F U e0 r,φ F=some (B,U)->F < (R.Hh j).size->fl<=F->(R.Hh j).bk F=.row false e0 r->w0.heap.size<=B ∨ ∃ F U e cs,φ0 F=some (B,U)/\fl<=F/\(R.Hh 0).bk F=.row false e cs:=by
    intro F U e0 r O h2 h3 h4
    cases h5:φ0 F with
    | none=>exact g.newB F B U O h5
    | some z =>
     have:=g.ext F z h5
     rw [O] at this;cases this
     have b9:F < (R.Hh 0).size:=by
      by_cases h:F < (R.Hh 0).size
      ·exact h
      ·exfalso
       -- known from the beginning, so it was there
       have:=d9 F _ h5;omega
     obtain ⟨b7,h6⟩:=(C.keep0 (by omega:j<=l.length)).2.kind F e0 r b9 h4
     exact .inr ⟨F,U,e0,b7,h5,h3,h6⟩
   by_cases hc:(R.Hh j).size<=b/\b < (R.Hh (j + 1)).size
   ·have S:=fC b _ hb hc.2
    have g9:cut φ (R.Hh j).size b=none:=by unfold cut;rw [M1V (by omega)]
    rcases J.newB b B Q S g9 with h | ⟨F,U,e0,r,O,h2,h3⟩
    ·exact .inl (N1n g.wsz h)
    ·obtain ⟨q3,q4⟩:=a0X.1 O
     obtain ⟨q5,q6⟩:=e0E q4 h3
     exact d3 F U e0 r q4 q3 h2 q6
   ·exact g.newB b B Q (Z b _ hb hc) hn
  ·intro B hB b5
   rw [J.frame B (N1k hB g.wsz) ?_,g.frame B hB b5]
   intro b1 o2 e1 b7 S d6 a5
   obtain ⟨q3,q4⟩:=a0X.1 S
   obtain ⟨q5,q6⟩:=e0E q4 a5
   cases h5:φ0 b1 with
   | none =>
    rcases g.newB b1 B o2 q4 h5 with h | ⟨F,U,e0,r,O,h2,h3⟩
    ·omega
    ·exact b5 F U e0 r O h2 h3
   | some z =>
    have:=g.ext b1 z h5
    rw [q4] at this;cases this
    have b9:b1 < (R.Hh 0).size:=d9 b1 _ h5
    obtain ⟨b2,h6⟩:=(C.keep0 (by omega:j<=l.length)).2.kind b1 e1 b7 b9 q6
    exact b5 b1 o2 e1 b2 h5 d6 h6
end
section
variable {X:Cx} {call:Nat->FuncId->List Value->a0c->Res (Value × a0c)} {fl:Nat} {ops:Array Oper} {l:List a0v} {bef:List Nat} {pairs:List (Nat × Nat)} {R:Run} (C:Ctx X call fl ops l bef pairs R)
variable {φ0 φ:Inj} {w0 w w':World} {Sd:Nat->Prop} {κ θ:Nat->Nat} {a:Act} (I:Inv X fl ops l bef R φ0 w0 Sd φ κ θ a w)
include C I
theorem Inv.final (j:∀ k,k < l.length->Sd k) (U:∀ b y,φ0 b=some y->b < (R.Hh 0).size) :
  CR X φ (shq w) (R.T l.length) a.tmps.toList/\b0R X fl φ0 (R.Hh 0) w0 φ (R.Hh l.length) w/\R.Pn l.length=none:=by
 have c:∀ b y,φ b=some y->(R.Hh l.length).bk b=(R.Hh (κ b)).bk b:=by
  intro b y hb
  obtain ⟨B,u⟩:=y
  obtain ⟨r,H,Q,J,h5⟩:=I.Rr b B u hb
  have:∀ m,κ b<=m->m<=l.length->(R.Hh m).bk b=(R.Hh (κ b)).bk b:=by
   intro m Y
   induction m with
   | zero=>intro _;congr 2;omega
   | succ m ih =>
    intro M
    by_cases hc:κ b=m + 1
    ·rw [hc]
    ·rw [<- ih (by omega) (by omega)]
     exact J m (by omega) (by omega) (j m (by omega))
  exact this _ r (M1U _)
 have F:∀ b y,φ b=some y->b < (R.Hh l.length).size:=by
  intro b y hb
  obtain ⟨B,u⟩:=y
  obtain ⟨r,H,_⟩:=I.Rr b B u hb
  exact N1k H (C.szmono r (M1U _))
 have g:=I.glob
 refine ⟨⟨?_,?_⟩,?_,?_⟩
 ·rw [C.tlen (M1U _)];simp [I.tlen]
 ·intro x S
  rw [C.tlen (M1U _)] at S
  obtain ⟨r,H,Q,J⟩:=I.T x S
  have:∀ m,θ x<=m->m<=l.length->get (R.T m) x=get (R.T (θ x)) x:=by
   intro m Y
   induction m with
   | zero=>intro _;congr 2;omega
   | succ m ih =>
    intro M
    by_cases hc:θ x=m + 1
    ·rw [hc]
    ·rw [<- ih (by omega) (by omega)]
     apply N1F
     intro s
     obtain ⟨sm,G⟩:=C.sAt (by omega:m < l.length)
     exact Q m sm (by omega) (j m (by omega)) G (C.slot G s).2
  have O:=this _ r (M1U _)
  simp only [get] at O J
  rw [O,<- a0E a.tmps]
  exact J.mo (fun b y h=>(a0X.1 h).2) (fun _ _ h=>h)
 ·have L:=(C.keep0 (M1U _)).2
  refine
   { ext := g.ext
     rel:=?_
     shp:=g.shp
     wsz:=g.wsz
     os:=g.os
     tape:=g.tape
     out:=g.out
     hsz:=L.size
     keep:=fun b hb=>L.low b hb
     kind:=fun b e cs hb h=>L.kind b e cs hb h
     fresh:=g.fresh
     newB:=g.newB
     frame:=g.frame }
  refine { bs:=I.base,lt:=fun b x h=>F b x h,row:=?_,sep:=?_ }
  ·intro b B u ro e cs hb q
   exact ((I.Rr b B u hb).2.2.2.2 ro e cs (by rw [<- c b _ hb];exact q)).mo (fun b y h=>(a0X.1 h).2) (fun _ _ h=>h) rfl
  ·intro b N B u Z e cs hb z s q
   rw [c N _ z]
   exact I.P b N B u Z e cs hb z s (by rw [<- c b _ hb];exact q)
 ·cases hp:R.Pn l.length with
  | none=>rfl
  | some pv =>
   obtain ⟨p,v⟩:=pv
   obtain ⟨r,H⟩:=C.pan (M1U _) p v hp
   have:=I.done p r (j p r)
   omega
theorem Inv.panned {j:Nat} {s:a0v} (hs:l[j]? = some s) (hnj:¬ Sd j) (hpre:∀ i,a0T bef i j=true->Sd i) (F:∀ b y,φ0 b=some y->b < (R.Hh 0).size)
  (hp:Pan X fl (cut φ (R.Hh j).size) (o0j R φ κ j) w w'):Pan X fl φ0 (R.Hh 0) w0 w':=by
 have hj:j < l.length:=(N1b.1 hs).1
 have g:=I.glob
 refine { shp:=fun B x h=>hp.shp B x (g.shp B x h),wsz:=N1n g.wsz hp.wsz,os:=hp.os.trans g.os,tape:=hp.tape.trans g.tape,out:=hp.out.trans g.out,frame:=?_ }
 intro B hB k
 rw [hp.frame B (N1k hB g.wsz) ?_,g.frame B hB k]
 intro c O N H L r q
 obtain ⟨q3,M⟩:=a0X.1 L
 obtain ⟨q5,q6⟩:=e0E M q
 cases h5:φ0 c with
 | none =>
  rcases g.newB c B O M h5 with h | ⟨Q,o0,S,G,U,Y,Z⟩
  ·omega
  ·exact k Q o0 S G U Y Z
 | some z =>
  have:=g.ext c z h5
  rw [M] at this;cases this
  have u:c < (R.Hh 0).size:=F c _ h5
  obtain ⟨J,h6⟩:=(C.keep0 (by omega:j<=l.length)).2.kind c N H u q6
  exact k c O N J h5 r h6
def q0G (us:List Nat) (n:Nat) (f:Nat->Value):List Value:=(List.range n).map fun x=>if x ∈ us then f x else undef
omit C I in
theorem q0H (h:List Nat) (n:Nat) (f:Nat->Value) (x:Nat):(q0G h n f).getD x undef=if x < n/\x ∈ h then f x else undef:=by
 unfold q0G
 simp only [M1R,N1Q]
 by_cases c:x < n
 ·rw [O1j c]
  simp [c]
 ·rw [N1d (by simp;omega)]
  simp [c]
theorem Inv.one (Z:∀ b y,φ0 b=some y->b < (R.Hh 0).size) {j:Nat} {s:a0v} {o:Oper} (hs:l[j]? = some s) (ho:ops[j]? = some o) (a2:∃ ln,g0V X.P ops ln o=some s) (hnj:¬ Sd j)
  (hpre:∀ i,a0T bef i j=true->Sd i) {K:Act->World->Prop} {Q:Exit->Act->World->Prop}
  (hK:∀ φ' a1 a0 a' w',Inv X fl ops l bef R φ0 w0 (fun k=>Sd k ∨ k=j) φ' a1 a0 a' w'->K a' w')
  (hQ:R.st j=3->∀ ty u w',Pan X fl φ0 (R.Hh 0) w0 w'->Q (.panic [{ v:=.iface ty u,recovered:=false }]) a w'):wpOp X.P ops Q j K a w:=by
 have hj:j < l.length:=(N1b.1 hs).1
 obtain ⟨ln,a2⟩:=a2
 obtain ⟨a7,H,a8⟩:=c0T a2
 have Y:=fun {x:Nat}=>Inv.slot C I hs ho hnj hpre (x:=x)
 have U:=Inv.rel C I hs hnj hpre
 have b7:=C.tlen (show j<=l.length by omega)
 -- a5 guard
 have b0:Region.wanted o (yielded ops a.tmps)=a0Q (R.T j) s.g:=by
  refine n0p (φ:=cut φ (R.Hh j).size) (S:=(shq w)) (X:=X) a2 ?_
  intro d c7 hg
  by_cases hd:d < (R.T 0).length
  ·exact Y hd (by simp [i0U,hg])
  ·have e1:get (R.T j) d=undef:=by
    unfold get;rw [M1R,N1d (by omega)];rfl
   have e2:a.tmps.getD d undef=undef:=by
    have:=I.tlen
    rw [M1Y,O1i (by omega)];rfl
   rw [e1,e2];exact VR.undef
 unfold wpOp
 simp only [ho]
 rw [b0]
 -- a5 frame with a5 c4 c6 b5 b6
 have a3:CR X (cut φ (R.Hh j).size) (shq w) (q0G (i0U o s) (R.T 0).length (fun x=>get (R.T j) x)) (q0G (i0U o s) (R.T 0).length (fun x=>a.tmps.getD x undef)):=by
  unfold q0G
  refine CR.of_mem_map _ _ _ ?_
  intro x M
  have M:=N1N.1 M
  split
  ·rename_i hu;exact Y M hu
  ·exact VR.undef
 let L:a0U:=q0G (i0U o s) (R.T 0).length (fun x=>get (R.T j) x)
 let aj:Act:={ tmps:=(q0G (i0U o s) (R.T 0).length (fun x=>a.tmps.getD x undef)).toArray,defers:=a.defers }
 have q:CR X (cut φ (R.Hh j).size) (shq w) L aj.tmps.toList:=by simpa [aj] using a3
 have F:∀ x ∈ a0g s.op,ev L x=ev (R.T j) x:=by
  intro x M
  cases x with
  | tmp d =>
   simp only [ev,get,L,q0H]
   have hu:d ∈ i0U o s:=by
    unfold i0U
    simp only [N1B,List.mem_filterMap]
    exact .inl (.inl ⟨.tmp d,M,rfl⟩)
   by_cases hd:d < (R.T 0).length
   ·rw [M1Z ⟨hd,hu⟩]
   ·rw [M1V (fun h=>hd h.1),M1R,N1d (by omega)];rfl
  | const v=>rfl
  | fn f=>rfl
 have N:execOp a.eval o=execOp aj.eval o:=by
  refine execOp_congr o (fun cs b=>C.tab.nosel j o cs b ho) ?_
  intro x M
  cases x with
  | tmp d =>
   have hu:d ∈ i0U o s:=by
    unfold i0U
    simp only [N1B,List.mem_filterMap]
    exact .inr ⟨.tmp d,by simpa using M,rfl⟩
   simp only [Act.eval,aj]
   rw [a0E (q0G _ _ _).toArray]
   simp only [O1J,q0H]
   by_cases hd:d < (R.T 0).length
   ·rw [M1Z ⟨hd,hu⟩]
   ·have c0:a.tmps.size<=d:=by rw [I.tlen];exact Nat.le_of_not_lt hd
    rw [M1V (fun h=>hd h.1),M1Y,O1i c0];rfl
  | const v=>rfl
  | func f=>rfl
  | global g=>rfl
 have O:fl<=(o0j R φ κ j).size:=by rw [d0O];exact (C.keep0 (by omega:j<=l.length)).1
 -- what a5 operation comes to, in a5 masked state
 have c:way s.op=3->o0j R φ κ j=R.Hh j:=by
  intro hw
  apply Array.ext
  ·exact d0O _ _ _ _
  ·intro i h1 h2
   have hb:(o0j R φ κ j).bk i=(R.Hh j).bk i:=by
    rw [j0U]
    split
    ·rename_i hc
     exfalso
     cases hφi:φ i with
     | none=>exact hc.1 hφi
     | some y=>exact hc.2 (Inv.good C I hs hnj hpre hφi h2 (by omega) (.inl hw))
    ·rfl
   simpa [a0c.bk,M1Y,N1v h1,N1v h2] using hb
 rcases C.run j s hs with h | h | h | h
 ·-- it j0u on what has panicked: it is never come to
  exfalso
  have hh:=h.2.1
  cases hp:R.Pn j with
  | none=>rw [hp] at hh;cases hh
  | some pv =>
   obtain ⟨p,v⟩:=pv
   rw [hp] at hh
   have hS:=hpre p hh
   obtain ⟨h1,h2⟩:=C.pan (by omega:j<=l.length) p v hp
   have:=I.done p (by omega) hS
   omega
 ·-- not wanted
  rw [h.2.2.1]
  simp only [N1g,N1G]
  have:=Inv.after C I hs hnj hpre (v':=undef) (.inl h.1) (by rw [h.2.2.2.1];exact h.2.2.2.2.1) (by rw [h.2.2.2.2.2.1];exact Par.refl (d0O _ _ _ _)) (by rw [h.2.2.2.1];exact VR.undef) (b0R.refl U)
   (by intro _ b hb;rw [h.2.2.2.2.2.2.2] at hb;simp at hb) Z
  obtain ⟨φ',a1,a0,hI⟩:=this
  rw [<- a8]
  exact hK φ' a1 a0 _ _ hI
 ·rw [h.2.2.1]
  simp only [N1E]
  refine .inl ?_
  have c2:∀ b,b ∈ (c0j (R.T j) s.op).1 ∨ b ∈ (c0j (R.T j) s.op).2->way s.op ≠ 0:=by
   intro b hb
   rcases hb with hb | hb
   ·rcases x0J hb with h | h <;> omega
   ·have:=o0F hb;omega
  have J:∃ G1,b0i call fl L (o0j R φ κ j) s.op=.ok (R.val j,G1)/\Par (R.Hh j) (R.Hh (j + 1)) (o0j R φ κ j) G1:=by
   rcases g0J h.2.2.2.1 with hv | ⟨f,args,lone,hc,b9⟩
   ·obtain ⟨G1,g1,g2⟩:=z0G hv (d0O R φ κ j) (fun b hb=>by
     rw [j0U]
     split
     ·rename_i a6
      have b8:=hb
      rw [<- o0G hv (R.Hh j) (R.Hh (j + 1)),<- h.2.2.2.2.2.2] at hb
      by_cases c1:b < (R.Hh j).size
      ·exfalso
       cases hφb:φ b with
       | none=>exact a6.1 hφb
       | some y=>exact a6.2 (Inv.good C I hs hnj hpre hφb c1 (c2 b b8) (.inr hb))
      ·exact (i0W (by omega)).symm
     ·rfl)
    refine ⟨G1,?_,g2⟩
    unfold b0i
    rw [k0a F,g1]
   ·have hm:=c (d0P hc).1
    refine ⟨R.Hh (j + 1),?_,?_⟩
    ·unfold b0i
     rw [k0a F,j0b hc fl (o0j R φ κ j),hm]
     exact b9
    ·rw [hm];exact ⟨rfl,fun _ _ e=>e,fun _ _ _=>rfl,fun _ _=>rfl⟩
  obtain ⟨G1,b3,b2⟩:=J
  refine l0Q (o:=o) C.callOk a7 H U q O b3 a N (fun c9 v' w' hv hS=>?_)
  have hW:way s.op=2->∀ b,b ∈ (R.tc j).2->φ b ≠ none:=by
   intro c3 b hb
   rw [h.2.2.2.2.2.2,x0K c3,<- u0L F] at hb
   -- its operand g0X there
   have b1:∀ x ∈ a0g s.op,(b ∈ blkW (ev L x) ∨ (∃ p,ev L x=.pointer (some p)/\b=p.block) ∨ ev L x=.map (some b))->φ b ≠ none:=by
    intro x M r
    have a4:∃ u,VR X (cut φ (R.Hh j).size) (shq w) (ev L x) u:=by
     cases x with
     | tmp d=>exact ⟨_,by simpa [ev,get] using q.get d⟩
     | const v =>
      have:=N1H.1 H _ M
      exact ⟨v,m0r this⟩
     | fn f=>exact ⟨_,.func _ _ _ _ _ rfl (fun i hi=>by simp at hi) rfl (fun i hi=>by simp at hi)⟩
    obtain ⟨u,a4⟩:=a4
    generalize ev L x=vv at a4 r
    cases a4 <;> simp [blkW] at r
    ·rename_i B o1 g1 g2 g3 g4;subst r;rw [(a0X.1 g2).2];simp
    ·rename_i B o1 g1 g2 _ _ _ _ _ _;obtain ⟨_,r⟩:=r;subst r;rw [(a0X.1 g2).2];simp
    ·rename_i B o1 g2 g3;subst r;rw [(a0X.1 g2).2];simp
   cases hop:s.op <;> rw [hop] at hb <;> simp only [c0j] at hb
   case store n x y =>
    have c5:=hop
    have a9:∃ p,ev L x=.pointer (some p):=by
     have h3:=h.2.2.2.1
     have M:ev L x=ev (R.T j) x:=F x (by rw [hop];simp [a0g])
     rw [M]
     rw [hop] at h3
     simp only [b0i,opA] at h3
     cases hq:ev (R.T j) x <;> simp [hq] at h3
     rename_i p;cases p <;> simp at h3
     exact ⟨_,rfl⟩
    obtain ⟨p,hp⟩:=a9
    rw [hp] at hb
    simp only [blkOf,O1l] at hb
    exact b1 x (by rw [hop];simp [a0g]) (.inr (.inl ⟨p,hp,hb⟩))
   case mupd x y z =>
    have a9:∃ p,ev L x=.map (some p):=by
     have h3:=h.2.2.2.1
     have M:ev L x=ev (R.T j) x:=F x (by rw [hop];simp [a0g])
     rw [M]
     rw [hop] at h3
     simp only [b0i,opA] at h3
     cases hq:k0E fl (R.Hh j) (ev (R.T j) x) (ev (R.T j) y) (ev (R.T j) z) with
     | none=>simp [hq] at h3
     | some G=>exact z0z hq
    obtain ⟨p,hp⟩:=a9
    rw [hp] at hb
    simp only [blkOf,O1l] at hb
    exact b1 x (by rw [hop];simp [a0g]) (.inr (.inr (by rw [hp,hb])))
   case app e n bb x y=>exact b1 x (by rw [hop];simp [a0g]) (.inl hb)
   all_goals (simp at hb)
  obtain ⟨φ',a1,a0,hI⟩:=Inv.after C I hs hnj hpre (.inr h.1) h.2.2.2.2.1 b2 hv hS hW Z
  rw [<- a8]
  exact hK φ' a1 a0 _ _ hI
 ·-- it panics
  rw [h.2.2.1]
  simp only [N1E]
  refine .inl ?_
  have J:b0i call fl L (o0j R φ κ j) s.op=.pan (R.val j):=by
   have hp:=h.2.2.2.1
   unfold b0i at hp ⊢
   split at hp
   ·cases hp
   ·rename_i v1 hv
    simp only [Res.pan.injEq] at hp;subst hp
    obtain ⟨_,x,b4,c8⟩:=g0j hv
    have:opA fl L (o0j R φ κ j) s.op=.pan (R.val j):=by
     rw [k0a F,b4]
     rw [b4] at hv
     simpa [opA] using hv
    rw [this]
   ·cases hp
   ·rename_i f args lone hc
    have hm:=c (d0P hc).1
    rw [k0a F,j0b hc fl (o0j R φ κ j),hm]
    exact hp
  refine s0g (o:=o) C.callOk a7 H U q O J a N (fun ty u w' hp=>hQ h.1 ty u w' (Inv.panned C I hs hnj hpre Z hp))
end
section
variable {X:Cx} {call:Nat->FuncId->List Value->a0c->Res (Value × a0c)}
def left (listed:Array Bool) (n:Nat):Nat:=((List.range n).filter fun k=>!listed.getD k false).length
theorem z0k {c:Array Bool} {n:Nat} (h:left c n=0):∀ k,k < n->c.getD k false=true:=by
 intro k j
 unfold left at h
 have:=N1r.1 h
 rw [List.filter_eq_nil_iff] at this
 have:=this k (N1N.2 j)
 simpa using this
theorem H0o {c:Array Bool} {n j:Nat} (u:j < n) (hsz:c.size=n) (w:c.getD j false=false):left c n=left (c.setIfInBounds j true) n + 1:=by
 unfold left
 have s:∀ m,m<=n->((List.range m).filter fun k=>!c.getD k false).length=((List.range m).filter fun k=>!(c.setIfInBounds j true).getD k false).length + if j < m then 1 else 0:=by
  intro m
  induction m with
  | zero=>intro _;simp
  | succ m r =>
   intro x
   have r:=r (by omega)
   rw [List.range_succ,List.filter_append,List.filter_append,N1X,N1X,r]
   by_cases h:j=m
   ·subst h
    have q:(c.setIfInBounds j true).getD j false=true:=by
     simp only [M1Y,N1l]
     simp [show j < c.size by omega]
    simp only [List.filter_cons,List.filter_nil,w,q]
    simp
   ·have q:(c.setIfInBounds j true).getD m false=c.getD m false:=getD_set_ne false h
    simp only [List.filter_cons,List.filter_nil,q]
    have:(j < m + 1) <-> (j < m):=by omega
    simp only [this]
    omega
 have:=s n (M1U _)
 rw [M1Z u] at this
 exact this
theorem R0T {c:Array Bool} {n j:Nat} (q:j < n) (hsz:c.size=n) (k:Nat):(c.setIfInBounds j true).getD k false=true <-> c.getD k false=true ∨ k=j:=by
 by_cases h:k=j
 ·subst h
  simp only [M1Y,N1l]
  simp [show k < c.size by omega]
 ·rw [getD_set_ne false (fun e=>h e.symm)]
  simp [h]
theorem k0A (hcall:b0x X call) (U:i0t call) (a4:X.P.follows .mixedOrders=true):q0y X call:=by
 intro ops l bef pairs hc D fl t H φ w a hR hT b2 hd b5 id
 have tab:=S0c hc
 obtain ⟨R0,s1,s2,s3,s4,s5,s6⟩:=U0O l 0 t H none [] b5
 obtain ⟨R,Y,r1,r2,r3,r4,r5,r6⟩:∃ R:Run,R.ds=D/\R.T 0=t/\R.Hh 0=H/\R.Pn 0=none/\(∀ m s,l[m]? = some s->j0H call fl bef R (0 + m) s)/\c0u (([]:List (List Nat × List Nat)).reverse ++ (List.range' 0 l.length).map R.tc) pairs=true /\
   b0T call fl bef pairs 0 l t H none []=match R.Pn (0 + l.length) with | none=>.fin .normal (R.T (0 + l.length)) (R.Hh (0 + l.length)) | some (_,v)=>.pan v :=
  ⟨{ R0 with ds:=D },rfl,s1,s2,s3,s4,s5,s6⟩
 simp only [N1q] at r4 r6
 have C:Ctx X call fl ops l bef pairs R:=⟨hcall,U,tab,r4,by simpa using r5,r3,by rw [r2];exact b2⟩
 have G:∀ b y,φ b=some y->b < (R.Hh 0).size:=fun b y h=>by rw [r2];exact hR.lt b y h
 have c2:=tab.len
 rw [r6]
 -- what a panic makes of the end
 have a0:∀ j,j < l.length->R.st j=3->∃ v,R.Pn l.length=some (j,v):=by
  intro j hj h3
  obtain ⟨s,hs⟩:=C.sAt hj
  have b7:R.Pn (j + 1)=some (j,R.val j):=by
   rcases C.run j s hs with h | h | h | h
   ·have:=h.1;omega
   ·have:=h.1;omega
   ·have:=h.1;omega
   ·exact h.2.2.2.2.2.1
  have:∀ m,j + 1<=m->m<=l.length->R.Pn m=some (j,R.val j):=by
   intro m hm
   induction m with
   | zero=>omega
   | succ m Q =>
    intro c3
    by_cases b3:j=m
    ·subst b3;exact b7
    ·have Q:=Q (by omega) (by omega)
     obtain ⟨sm,b8⟩:=C.sAt (by omega:m < l.length)
     rcases C.run m sm b8 with h | h | h | h
     ·rw [h.2.2.2.2.1];exact Q
     ·rw [h.2.2.2.2.2.2.1];exact Q
     ·rw [h.2.2.2.2.2.1];exact Q
     ·rw [Q] at h;have:=h.2.2.2.2.1;cases this
  exact ⟨_,this _ (by omega) (M1U _)⟩
 refine wp_region_any a4 ?_
 -- from whatever has run
 have b9:∀ (r:Nat) (c:Array Bool) (M:Inj) (κ θ:Nat->Nat) (a1:Act) (w1:World),c.size=ops.size->left c ops.size=r ->
   Inv X fl ops l bef R φ w.drew (fun k=>c.getD k false=true) M κ θ a1 w1 ->
   wpAny X.P .any ops (y0a X D fl φ H w (match R.Pn l.length with | none=>.fin .normal (R.T l.length) (R.Hh l.length) | some (_,v)=>.pan v)) r c a1 w1:=by
  intro r
  induction r with
  | zero =>
   intro c M κ θ a1 w1 hsz L I
   have N:=z0k L
   obtain ⟨f1,f2,f3⟩:=Inv.final C I (fun k z=>N k (by omega)) G
   refine ⟨?_,?_⟩
   ·unfold Region.ready
    rw [List.filter_eq_nil_iff]
    intro k z
    have z:=N1N.1 z
    have:=N k z
    have e:c.getD k true=true:=by
     simp only [M1Y] at this ⊢
     rw [N1v (by omega)] at this ⊢
     simpa using this
    simp [e]
   ·rw [f3]
    refine ⟨rfl,I.defers.trans Y,M,f1,?_⟩
    rw [r2] at f2
    exact { f2 with }
  | succ r Q =>
   intro c M κ θ a1 w1 hsz L I
   refine ⟨fun a6=>?_,fun j hj=>?_⟩
   ·-- something is still to run,and the first of it is ready
    exfalso
    have b1:∃ k,k < ops.size/\c.getD k false=false:=by
     apply N1F
     intro b6
     have:left c ops.size=0:=by
      unfold left
      rw [N1r,List.filter_eq_nil_iff]
      intro k z
      have z:=N1N.1 z
      intro hh
      exact b6 ⟨k,z,by simpa using hh⟩
     omega
    obtain ⟨k,z,a3⟩:∃ k,(k < ops.size/\c.getD k false=false)/\∀ m,m < k->c.getD m false=true:=by
     obtain ⟨k0,h1,h2⟩:=b1
     induction k0 using Nat.strongRecOn with
     | _ k0 ih2 =>
      by_cases hm:∃ m,m < k0/\c.getD m false=false
      ·obtain ⟨m,h3,h4⟩:=hm
       exact ih2 m h3 (by omega) h4
      ·refine ⟨k0,⟨h1,h2⟩,fun m b4=>?_⟩
       cases hl:c.getD m false with
       | true=>rfl
       | false=>exact N1i ⟨m,b4,hl⟩ hm
    have O:k ∈ Region.ready .any ops c:=by
     unfold Region.ready
     rw [P1h]
     refine ⟨N1N.2 z.1,?_⟩
     have a7:ops[k]? = some ops[k]:=N1v z.1
     have e:c.getD k true=false:=by
      have:=z.2
      simp only [M1Y] at this ⊢
      rw [N1v (by omega)] at this ⊢
      simpa using this
     simp only [e,Bool.not_false,O1H,a7,N1M,N1D]
     rw [Array.all_eq_true']
     intro ed b0
     by_cases hb:Region.binds .any ed=true
     ·have:=tab.back k _ a7 ed (by simpa using b0) hb
      simp [a3 _ this]
     ·simp [hb]
    rw [a6] at O
    cases O
   ·obtain ⟨a2,S,hpre⟩:=tab.ready hj (fun k z hS i hi=>I.down k (by omega) hS i hi)
    have hnj:c.getD j false=false:=by
     simp only [M1Y] at S ⊢
     rw [N1v (by omega)] at S ⊢
     simpa using S
    obtain ⟨s,hs⟩:=C.sAt (by omega:j < l.length)
    obtain ⟨o,ho,a9⟩:=tab.op j s hs
    refine Inv.one C I G hs ho ⟨_,a9⟩ (by rw [hnj];simp) hpre (fun φ' c1 c0 a' w' hI=>?_) (fun h3 ty u w' hp=>?_)
    ·refine Q _ φ' c1 c0 a' w' (by simp [hsz]) (by have:=H0o a2 hsz hnj;omega) ?_
     have e:(fun k=>(c.setIfInBounds j true).getD k false=true)=(fun k=>c.getD k false=true ∨ k=j):=by
      funext k;exact propext (R0T a2 hsz k)
     rw [e];exact hI
    ·obtain ⟨v,hv⟩:=a0 j (by omega) h3
     rw [hv]
     refine ⟨⟨ty,u,rfl⟩,I.defers.trans Y,?_⟩
     rw [r2] at hp
     exact { hp with }
 refine b9 ops.size _ φ (fun _=>0) (fun _=>0) a w.drew (by simp) ?_ ?_
 ·unfold left
  have:(List.range ops.size).filter (fun k=>!(Array.replicate ops.size false).getD k false)=List.range ops.size:=by
   rw [List.filter_eq_self]
   intro k z
   have z:=N1N.1 z
   simp [M1Y,z]
  rw [this];simp
 ·have q:∀ k,¬ ((Array.replicate ops.size false).getD k false=true):=by
   intro k
   simp only [M1Y,Array.getElem?_replicate]
   split <;> simp
  have J:∀ b y,φ b=some y->cut φ (R.Hh 0).size b=some y:=fun b y h=>a0X.2 ⟨G b y h,h⟩
  refine
   { done := fun k _ h => N1i h (q k)
     down:=fun j _ h=>N1i h (q j)
     tlen:=?_
     defers:=hd.trans Y.symm
     base:=hR.bs
     T:=?_
     D:=fun b y h=>.inl (G b y h)
     Rr:=?_
     P:=?_
     W:=fun k s _ h=>N1i h (q k)
     glob:=⟨fun _ _ h=>h,fun _ _ h=>h,M1U _,rfl,rfl,rfl,(fun b y h Z=>by rw [h] at Z;cases Z),(fun b B o h Z=>by rw [h] at Z;cases Z),fun _ _ _=>rfl⟩ }
  ·rw [r1];have:=hT.1;simp at this;omega
  ·intro x hx
   refine ⟨N1K _,.inl rfl,fun k s _ h=>N1i h (q k),?_⟩
   have:=hT.get x
   rw [r1,a0E]
   exact this.mo J (fun _ _ h=>h)
  ·intro b B o1 hb
   refine ⟨N1K _,G b _ hb,.inl rfl,fun k _ _ h=>N1i h (q k),?_⟩
   intro ro e cs F
   rw [r2] at F
   exact (hR.row b B o1 ro e cs hb F).mo J (fun _ _ h=>h) rfl
  ·intro b b' B o1 o2 e cs hb a8 a5 F
   rw [r2] at F ⊢
   exact hR.sep b b' B o1 o2 e cs hb a8 a5 F
end
section
variable {X:Cx} {φ φ':Inj} {S:Shp} {H H' G:a0c} {w w':World} {fl:Nat}
theorem b0R.back (h:b0R X fl φ H w φ' G w') (b:Nat) (y:Nat × Nat) (hb:cut φ' H.size b=some y):φ b=some y:=by
 obtain ⟨j,c⟩:=a0X.1 hb
 cases hφ:φ b with
 | none=>have:=h.fresh b y c hφ;omega
 | some z=>have:=h.ext b z hφ;rw [c] at this;cases this;rfl
theorem b0R.forget (hR:Rel X φ H w) (h:b0R X fl φ H w φ' G w') (O:∀ b,b < H.size->G.bk b=H.bk b):b0R X fl φ H w φ H w':=by
 refine { ext := fun _ _ h => h, rel := ⟨h.rel.bs, hR.lt, ?_, hR.sep⟩, shp := h.shp, wsz := h.wsz, os := h.os, tape := h.tape, out := h.out, hsz := M1U _, keep := fun _ _ => rfl,
          kind:=fun _ _ cs _ h=>⟨cs,h⟩,fresh:=(fun b x h k=>by rw [h] at k;cases k),newB:=(fun b B o h k=>by rw [h] at k;cases k),frame:=h.frame }
 intro b B o ro e cs hb j
 have s:=hR.lt b _ hb
 have old:=hR.row b B o ro e cs hb j
 have new:=h.rel.row b B o ro e cs (h.ext b _ hb) (by rw [O b s];exact j)
 rcases new with ⟨c,I,M,y,Q,R,S⟩ | ⟨U,Y,J,q,z,Z⟩ <;> rcases old with ⟨F,r,N,q1,q2,q3,q4⟩ | ⟨n1,n2,L,u,n3,n4⟩
 ·exact .inl ⟨c,I,M,y,Q,(CR.cut hR.lt q3 R).mo h.back (fun _ _ h=>h),S⟩
 ·have:=h.shp B (none,0) (by simp [shq,n3]);simp [shq,y] at this
 ·have:=h.shp B (some r,F.size) (by simp [shq,q1]);simp [shq,z] at this
 ·exact .inr ⟨U,Y,J,q,z,(CR.cut hR.lt n4 Z).mo h.back (fun _ _ h=>h)⟩
abbrev f0D:=List (Nat × Nat)
def e0T (corr:f0D):Value->Value->Bool
 | .bool a,.bool b=>a == b
 | .int k a,.int k' b=>decide (k=k') && a == b
 | .string a,.string b=>a.data.toList == b.data.toList
 | .pointer none,.pointer none=>true
 | .slice none n c,.slice none n' c'=>n == 0 && c == 0 && n' == 0 && c' == 0
 | .slice (some a) n c,.slice (some b) n' c' =>
  a.spot.isNone && b.spot.isNone && n == n' && ((n == 0 && c == 0 && c' == 0) || (n != 0 && a.off == 0 && decide (corr[a.block]? = some (b.block,b.off)) && (c == unk || (c == c' && c' != unk))))
 | .map none,.map none=>true
 | .nilFunc,.nilFunc=>true
 | .nilIface,.nilIface=>true
 | _,_=>false
def e0o (corr:f0D):List Value->List Value->Bool
 | [],[]=>true
 | v :: r,v' :: r'=>e0T corr v v' && e0o corr r r'
 | _,_=>false
def h0D (corr:f0D):Value->Value->Bool
 | .agg a,.agg b=>e0o corr a.toList b.toList
 | v,v'=>e0T corr v v'
def n0h (corr:f0D):List Value->List Value->Bool
 | [],[]=>true
 | v :: r,v' :: r'=>h0D corr v v' && n0h corr r r'
 | _,_=>false
def sameV (corr:f0D):Value->Value->Bool
 | .tuple a,.tuple b=>n0h corr a.toList b.toList
 | v,v'=>h0D corr v v'
def shC (m:Nat):Value->Value
 | .slice (some a) n c=>.slice (some ⟨m + a.block,a.off,a.spot⟩) n c
 | v=>v
def shA (m:Nat):Value->Value
 | .agg a=>.agg (a.toList.map (shC m)).toArray
 | v=>shC m v
def shV (m:Nat):Value->Value
 | .tuple a=>.tuple (a.toList.map (shA m)).toArray
 | v=>shA m v
def c0d:Value->List Value
 | .tuple a=>a.toList.flatMap a0t
 | v=>a0t v
section
variable {X2:Cx} {φs φt:Inj} {corr:f0D} {m:Nat}
variable (hφ:∀ k b off B o,corr[k]? = some (b,off)->φs b=some (B,o)->φt (m + k)=some (B,o + off)) (hb:∀ (k b off B o:Nat),corr[k]? = some (b,off)->φs b=some (B,o)->X2.base<=B->X.base<=B) (hP:X2.P=X.P)
include hφ hb hP
theorem s0d {vt vs u:Value} (h:e0T corr vt vs=true) (k:VR X φs S vs u):VR X2 φt S (shC m vt) u:=by
 unfold e0T at h
 split at h
 ·simp only [beq_iff_eq] at h;subst h;cases k;exact .bool _
 ·simp only [M1W,N1s,beq_iff_eq] at h;obtain ⟨rfl,rfl⟩:=h;cases k;exact .int _ _
 ·rename_i a b
  have:a=b:=by
   apply ByteArray.ext
   exact O1x (by simpa using h)
  subst this;cases k;exact .str _
 ·cases k;exact .pnil
 ·simp only [M1W,beq_iff_eq] at h;obtain ⟨⟨⟨rfl,rfl⟩,rfl⟩,rfl⟩:=h;cases k;exact .snil
 ·rename_i a n c b R c'
  simp only [M1W,N1L,beq_iff_eq,bne_iff_ne,N1s,O1D] at h
  obtain ⟨⟨⟨w,Q⟩,rfl⟩,G⟩:=h
  rcases G with ⟨⟨rfl,rfl⟩,rfl⟩ | ⟨⟨⟨H,x⟩,r⟩,I⟩
  ·have s:∃ q,u=.slice (some q) 0 0:=by
    cases k with
    | sle _ q=>exact ⟨_,rfl⟩
    | sl _ q _ _ cap' B o k1 k2 k3 k4 k5 k6 k7 k8=>have:=k6 (by simp [unk]);subst this;exact ⟨_,rfl⟩
   obtain ⟨q,rfl⟩:=s
   exact .sle _ _
  ·cases k with
   | sle _ q=>exact N1i rfl H
   | sl _ q _ _ cap' B o k1 k2 k3 k4 k5 k6 k7 k8 =>
    have y:=hφ _ _ _ _ _ r k2
    obtain ⟨N,O,as⟩:=a
    simp only at w x r y
    subst w x
    refine .sl _ _ _ _ _ B (o + b.off) rfl y k3 k4 (fun L=>by rw [k5 L];simp) ?_ k7 ?_
    ·intro hc
     rcases I with rfl | ⟨rfl,J⟩
     ·exact N1i rfl hc
     ·exact k6 J
    ·intro j
     obtain ⟨e,M,z,F⟩:=k8 (by rw [k4] at j ⊢;exact hb _ _ _ _ _ r k2 j)
     exact ⟨e,M,z,by rw [hP];exact F⟩
 ·cases k;exact .mnil
 ·cases k;exact .nilFunc
 ·cases k;exact .nilIface
 ·cases h
theorem n0g:∀ {k j c:List Value},e0o corr k j=true->CR X φs S j c->CR X2 φt S (k.map (shC m)) c
 | [],[],c,_,h=>by rw [h.nil_left];exact CR.nil
 | t :: k,s :: j,c,h,hc=>by
  simp only [e0o,M1W] at h
  obtain ⟨v',u,rfl,q,r⟩:=hc.cons_left
  exact CR.cons (s0d hφ hb hP h.1 q) (n0g h.2 r)
 | [],_ :: _,_,h,_=>by cases h
 | _ :: _,[],_,h,_=>by cases h
theorem s0c {vt vs u:Value} (h:h0D corr vt vs=true) (c:VR X φs S vs u):VR X2 φt S (shA m vt) u:=by
 unfold h0D at h
 split at h
 ·rename_i a b
  cases c with
  | agg _ a' h1 h2 =>
   refine VR.agg_iff.2 ?_
   simp only [O1J]
   exact n0g hφ hb hP h (VR.agg_iff.1 (.agg _ _ h1 h2))
 ·rename_i j
  have e:shA m vt=shC m vt:=by
   unfold shA
   split
   ·rename_i a
    exfalso
    cases vs <;> simp [e0T] at h
   ·rfl
  rw [e]
  exact s0d hφ hb hP h c
theorem s0e:∀ {k j c:List Value},n0h corr k j=true->CR X φs S j c->CR X2 φt S (k.map (shA m)) c
 | [],[],c,_,h=>by rw [h.nil_left];exact CR.nil
 | t :: k,s :: j,c,h,hc=>by
  simp only [n0h,M1W] at h
  obtain ⟨v',u,rfl,q,r⟩:=hc.cons_left
  exact CR.cons (s0c hφ hb hP h.1 q) (s0e h.2 r)
 | [],_ :: _,_,h,_=>by cases h
 | _ :: _,[],_,h,_=>by cases h
theorem s0f {vt vs u:Value} (h:sameV corr vt vs=true) (c:VR X φs S vs u):VR X2 φt S (shV m vt) u:=by
 unfold sameV at h
 split at h
 ·rename_i a b
  cases c with
  | tuple _ a' h1 h2 =>
   refine VR.tuple_iff.2 ?_
   simp only [O1J]
   exact s0e hφ hb hP h (VR.tuple_iff.1 (.tuple _ _ h1 h2))
 ·rename_i j
  have e:shV m vt=shA m vt:=by
   unfold shV
   split
   ·rename_i a
    exfalso
    cases vs <;> simp [h0D,e0T] at h
   ·rfl
  rw [e]
  exact s0c hφ hb hP h c
end
def w0C (X:Cx) (φ:Inj) (S:Shp) (v:Value):Prop:=∃ u,VR X φ S v u
theorem CR.know {l u:List Value} (h:CR X φ S l u):∀ v ∈ l,w0C X φ S v:=by
 induction l generalizing u with
 | nil=>intro v c;cases c
 | cons x r ih =>
  obtain ⟨s,q,rfl,j,k⟩:=h.cons_left
  intro v c
  rcases O1W.1 c with rfl | c
  ·exact ⟨_,j⟩
  ·exact ih k v c
theorem VR.know {v u:Value} (h:VR X φ S v u):∀ c ∈ c0d v,w0C X φ S c:=by
 have hc:=h.cells.know
 have k:c0d v=a0t v ∨ ∃ a,v=.tuple a:=by cases v <;> first | exact .inr ⟨_,rfl⟩ | exact .inl rfl
 rcases k with e | ⟨a,rfl⟩
 ·rw [e];exact hc
 ·cases h with
  | tuple _ a' h1 h2 =>
   have hc:=VR.tuple_iff.1 (.tuple _ _ h1 h2)
   simp only [c0d,List.mem_flatMap]
   rintro c ⟨x,r,j⟩
   obtain ⟨u,q⟩:=hc.know x r
   exact q.cells.know c j
def g0X (k:Nat):Value->Bool
 | .slice (some a) n _=>n != 0 && a.block == k
 | _=>false
theorem o0d {corr:f0D} {k b off:Nat} {t s:Value} (y:corr[k]? = some (b,off)) (h:g0X k t=true) (hs:e0T corr t s=true) (z:w0C X φ S s) :
  ∃ B o,φ b=some (B,o)/\(X.base<=B->∃ e n,S B=some (some e,n)):=by
 unfold g0X at h
 split at h
 ·rename_i a n c
  simp only [M1W,bne_iff_ne,beq_iff_eq] at h
  obtain ⟨r,rfl⟩:=h
  unfold e0T at hs
  split at hs <;> rename_i j <;> try (cases j;done)
  ·rename_i G L I H J c' j
   cases j
   simp only [M1W,N1L,beq_iff_eq,bne_iff_ne,N1s,O1D] at hs
   obtain ⟨⟨⟨_,_⟩,rfl⟩,w⟩:=hs
   rcases w with ⟨⟨x,_⟩,_⟩ | ⟨⟨⟨_,_⟩,q⟩,_⟩
   ·exact N1i x r
   ·rw [y] at q
    simp only [M1Q,N1V] at q
    obtain ⟨rfl,_⟩:=q
    obtain ⟨u,F⟩:=z
    cases F with
    | sle=>exact N1i rfl r
    | sl _ a2 _ _ cap' B o k1 k2 k3 k4 k5 k6 k7 k8=>exact ⟨B,o,k2,V0u k4 k8⟩
  ·cases hs
 ·cases h
theorem n0e {corr:f0D} {p:Value->Bool}:∀ {j k:List Value},e0o corr j k=true->j.any p=true->∃ t s,t ∈ j/\s ∈ k/\p t=true/\e0T corr t s=true
 | [],[],_,h=>by simp at h
 | t :: j,s :: k,h,c=>by
  simp only [e0o,M1W] at h
  simp only [List.any_cons,N1L] at c
  rcases c with c | c
  ·exact ⟨t,s,by simp,by simp,c,h.1⟩
  ·obtain ⟨t',x,q,r,u,w⟩:=n0e h.2 c
   exact ⟨t',x,by simp [q],by simp [r],u,w⟩
 | [],_ :: _,h,_=>by cases h
 | _ :: _,[],h,_=>by cases h
theorem o0A {corr:f0D} {t s:Value} (h:h0D corr t s=true):e0o corr (a0t t) (a0t s)=true:=by
 unfold h0D at h
 split at h
 ·exact h
 ·rename_i j
  have c : a0t t = [t] := by cases t <;> try rfl
                             exfalso;cases s <;> simp [e0T] at h
  have e2 : a0t s = [s] := by cases s <;> try rfl
                              exfalso;cases t <;> simp [e0T] at h
  rw [c,e2];simp [e0o,h]
theorem n0f {corr:f0D}:∀ {a b c d:List Value},e0o corr a b=true->e0o corr c d=true->e0o corr (a ++ c) (b ++ d)=true
 | [],[],c,d,_,h=>by simpa using h
 | x :: a,y :: b,c,d,h,k=>by
  simp only [e0o,M1W,O1y] at h ⊢
  exact ⟨h.1,n0f h.2 k⟩
 | [],_ :: _,_,_,h,_=>by cases h
 | _ :: _,[],_,_,h,_=>by cases h
theorem o0B {corr:f0D}:∀ {j c:List Value},n0h corr j c=true->e0o corr (j.flatMap a0t) (c.flatMap a0t)=true
 | [],[],_=>rfl
 | t :: j,s :: c,h=>by
  simp only [n0h,M1W] at h
  simp only [List.flatMap_cons]
  exact n0f (o0A h.1) (o0B h.2)
 | [],_ :: _,h=>by cases h
 | _ :: _,[],h=>by cases h
theorem o0C {corr:f0D} {t s:Value} (h:sameV corr t s=true):e0o corr (c0d t) (c0d s)=true:=by
 unfold sameV at h
 split at h
 ·exact o0B h
 ·rename_i j
  have c : c0d t = a0t t := by cases t <;> try rfl
                               exfalso;cases s <;> simp [h0D,e0T] at h
  have e2 : c0d s = a0t s := by cases s <;> try rfl
                                exfalso;cases t <;> simp [h0D,e0T] at h
  rw [c,e2];exact o0A h
abbrev n0A:=List (TypeId × List Value)
def l0u (own:Bool) (G:Nat->Blk) (corr:f0D) (k:Nat) (p:TypeId × List Value):Bool :=
 match corr[k]? with
 | some (b,off) =>
  match G b with
  | .row ro e src=>(!own || (!ro && e == p.1)) && Nat.ble (off + p.2.length) src.length && e0o corr p.2 ((src.drop off).take p.2.length)
  | .dead=>false
 | none=>false
def d0q (own:Bool) (G:Nat->Blk) (corr:f0D) (root:List Value):Nat->List Value->n0A->Bool
 | _,_,[]=>true
 | k,seen,p :: r=>(root.any (g0X k) || seen.any (g0X k)) && l0u own G corr k p && d0q own G corr root (k + 1) (seen ++ p.2) r
theorem e0V {own:Bool} {G:Nat->Blk} {corr:f0D} {s:List Value}:∀ {bs:n0A} {k0:Nat} {c:List Value},d0q own G corr s k0 c bs=true ->
  ∀ (i:Nat) (p:TypeId × List Value),bs[i]? = some p->(s.any (g0X (k0 + i))=true ∨ c.any (g0X (k0 + i))=true ∨ ∃ j q,j < i/\bs[j]? = some q/\q.2.any (g0X (k0 + i))=true)/\l0u own G corr (k0 + i) p=true
 | [],k0,c,h,i,p,hi=>by simp at hi
 | q :: r,k0,c,h,i,p,hi=>by
  simp only [d0q,M1W,N1L] at h
  cases i with
  | zero =>
   simp only [List.getElem?_cons_zero,M1Q] at hi
   subst hi
   refine ⟨?_,h.1.2⟩
   rcases h.1.1 with h | h
   ·exact .inl h
   ·exact .inr (.inl h)
  | succ i =>
   obtain ⟨k,u⟩:=e0V h.2 i p (by simpa using hi)
   rw [show k0 + 1 + i=k0 + (i + 1) by omega] at k u
   refine ⟨?_,u⟩
   rcases k with k | k | ⟨j,y,z,w,x⟩
   ·exact .inl k
   ·rw [List.any_append,N1L] at k
    rcases k with k | k
    ·exact .inr (.inl k)
    ·exact .inr (.inr ⟨0,q,by omega,rfl,k⟩)
   ·exact .inr (.inr ⟨j + 1,y,by omega,by simpa using w,x⟩)
theorem B1Y {W:World} {corr:f0D} {own:Bool} {bs:n0A} {u h:List Value} (z:∀ b B o ro e cs,φ b=some (B,o)->G.bk b=.row ro e cs->g0U X φ W B o ro e cs)
  (w:∀ v ∈ h,w0C X φ (shq W) v) (x:e0o corr u h=true) (hc:d0q own G.bk corr u 0 [] bs=true) :
  ∀ (k:Nat) (p:TypeId × List Value) (b off:Nat),bs[k]? = some p->corr[k]? = some (b,off)->∃ B o,φ b=some (B,o)/\(X.base<=B->∃ e n,shq W B=some (some e,n)):=by
 intro k
 induction k using Nat.strongRecOn with
 | _ k ih =>
  intro p b off hp N
  obtain ⟨y,_⟩:=e0V hc k p hp
  rw [N1q] at y
  rcases y with y | y | ⟨j,q,Z,M,h5⟩
  ·obtain ⟨t,s,_,I,Q,R⟩:=n0e x y
   exact o0d N Q R (w s I)
  ·simp at y
  ·obtain ⟨_,r⟩:=e0V hc j q M
   rw [N1q] at r
   unfold l0u at r
   split at r
   ·rename_i L oj hj
    split at r
    ·rename_i ro e H F
     simp only [M1W] at r
     obtain ⟨B,o,I,_⟩:=ih j Z q L oj M hj
     have J:∀ v ∈ H,w0C X φ (shq W) v:=by
      rcases z L B o ro e H I F with ⟨c,el,fz,k1,k2,k3,k4⟩ | ⟨m1,m2,es,O,m3,m4⟩
      ·exact k3.know
      ·exact m4.know
     obtain ⟨t,s,_,S,U,Y⟩:=n0e r.2 h5
     exact o0d N U Y (J s (List.mem_of_mem_drop (O1n S)))
    ·cases r
   ·cases r
theorem q0N {X2:Cx} {φt:Inj} {W:World} {corr:f0D} {m:Nat} {own:Bool} {p:TypeId × List Value} {k b off B o:Nat} (q:∀ b B o ro e cs,φ b=some (B,o)->G.bk b=.row ro e cs->g0U X φ W B o ro e cs)
  (hφ:∀ k b off B o,corr[k]? = some (b,off)->φ b=some (B,o)->φt (m + k)=some (B,o + off)) (hb:∀ (k b off B o:Nat),corr[k]? = some (b,off)->φ b=some (B,o)->X2.base<=B->X.base<=B) (hP:X2.P=X.P)
  (H:corr[k]? = some (b,off)) (hB:φ b=some (B,o)) (hs:X.base<=B->∃ e n,shq W B=some (some e,n)) (hc:l0u own G.bk corr k p=true) :
  ∃ c r s,W.heap[B]? = some (.cells c r s)/\o + off + p.2.length<=c.size/\CR X2 φt (shq W) (p.2.map (shC m)) ((c.toList.drop (o + off)).take p.2.length) /\
   (own=true->X.base<=B/\s=(0,0)/\r=p.1/\∃ h,G.bk b=.row false p.1 h):=by
 unfold l0u at hc
 rw [H] at hc
 simp only at hc
 split at hc
 ·rename_i ro e h j
  simp only [M1W,Nat.ble_eq] at hc
  obtain ⟨⟨u,M⟩,F⟩:=hc
  obtain ⟨c,r,s,I,N,J,L,O⟩:=(q b B o ro e h hB j).cells hs
  refine ⟨c,r,s,I,by omega,?_,fun ho=>?_⟩
  ·have:=n0g hφ hb hP F ((J.drop off).take p.2.length)
   have w:((((c.toList.drop o).take h.length).drop off).take p.2.length)=(c.toList.drop (o + off)).take p.2.length:=by
    rw [O1q,O1p,O1r]
    congr 1
    omega
   rw [w] at this;exact this
  ·subst ho
   simp only [Bool.not_true,O1U,M1W,O1s,beq_iff_eq] at u
   obtain ⟨rfl,rfl⟩:=u
   obtain ⟨x,y,z⟩:=L rfl
   exact ⟨x,y,z,h,j⟩
 ·cases hc
theorem g0G:∀ (bs:List Blk) (H:a0c),(pushes H bs).size=H.size + bs.length
 | [],H=>rfl
 | b :: bs,H=>by
  show (pushes (H.push b) bs).size=_
  rw [g0G bs];simp;omega
theorem d0F:∀ (bs:List Blk) (H:a0c) (x:Nat),(pushes H bs).bk x=if x < H.size then H.bk x else (bs[x - H.size]?).getD .dead
 | [],H,x=>by
  show H.bk x=_
  by_cases h:x < H.size
  ·rw [M1Z h]
  ·rw [M1V h];simp [a0c.bk,M1Y,O1i (show H.size<=x by omega)]
 | b :: bs,H,x=>by
  show (pushes (H.push b) bs).bk x=_
  rw [d0F bs,a0z]
  simp only [N1T]
  by_cases h:x < H.size
  ·rw [M1Z (by omega),M1V (by omega),M1Z h]
  ·rw [M1V h]
   by_cases c:x=H.size
   ·subst c;simp
   ·rw [M1V (by omega),show x - H.size=(x - (H.size + 1)) + 1 by omega,List.getElem?_cons_succ]
def c0L (ro:Bool) (m:Nat) (bs:n0A):List Blk:=bs.map fun p=>.row ro p.1 (p.2.map (shC m))
def q0L (n0:Nat) (G:Nat->Blk) (corr:f0D) (bs:n0A) (vt r:Value):Bool :=
 Nat.beq corr.length bs.length && corr.all (fun p=>Nat.ble n0 p.1) && decide ((corr.map (·.1)).Nodup) && d0q true G corr (c0d vt) 0 [] bs && sameV corr vt r
theorem v1p {Xs:Cx} {φs:Inj} {n0:Nat} (R:Rel X φ H w') (S:∀ b B o ro e cs,φs b=some (B,o)->G.bk b=.row ro e cs->g0U Xs φs w' B o ro e cs)
  (b5:∀ b Y B o o' e cs,φs b=some (B,o)->φs Y = some (B,o')->b ≠ Y->G.bk b=.row false e cs->G.bk Y = .dead) (hP:X.P=Xs.P) (a9:X.base<=Xs.base)
  (a2:∀ b B o e j,n0<=b->φs b=some (B,o)->G.bk b=.row false e j->∀ x o' ro e' a5,φ x=some (B,o')->H.bk x ≠ .row ro e' a5)
  {bs:n0A} {corr:f0D} {vt r r':Value} (hr:VR Xs φs (shq w') r r') (hc:q0L n0 G.bk corr bs vt r=true) :
  ∃ w:Inj,Rel X w (pushes H (c0L false H.size bs)) w'/\(∀ b y,φ b=some y->w b=some y) /\
   (∀ x B o,w x=some (B,o)->φ x=none->H.size<=x/\∃ b o' e j,n0<=b/\φs b=some (B,o')/\G.bk b=.row false e j)/\VR X w (shq w') (shV H.size vt) r':=by
 unfold q0L at hc
 simp only [M1W,Nat.beq_eq,N1s,N1H,Nat.ble_eq] at hc
 obtain ⟨⟨⟨⟨a3,b9⟩,c0⟩,M⟩,b6⟩:=hc
 have a0:=B1Y (own:=true) S hr.know (o0C b6) M
 let w:Inj:=fun x=>if x < H.size then φ x else match corr[x - H.size]? with | some (b,off)=>(φs b).map fun y=>(y.1,y.2 + off) | none=>none
 have N:∀ x,x < H.size->w x=φ x:=fun x hx=>M1Z hx
 have hφ:∀ k b off B o,corr[k]? = some (b,off)->φs b=some (B,o)->w (H.size + k)=some (B,o + off):=by
  intro k b off B o z L
  show (if _ then _ else _)=_
  rw [M1V (by omega),Nat.add_sub_cancel_left,z]
  simp [L]
 have s:∀ x y,w x=some y->(x < H.size/\φ x=some y) ∨ ∃ k p b off B o,x=H.size + k/\bs[k]? = some p/\corr[k]? = some (b,off)/\φs b=some (B,o)/\y=(B,o + off):=by
  intro x y Z
  by_cases hx:x < H.size
  ·exact .inl ⟨hx,by rw [<- N x hx];exact Z⟩
  ·have a1:(match corr[x - H.size]? with | some (b,off)=>(φs b).map fun y=>(y.1,y.2 + off) | none=>none)=some y:=by rw [<- Z];exact (M1V hx).symm
   split at a1
   ·rename_i b off hb
    rw [N1z] at a1
    obtain ⟨⟨B,o⟩,z,rfl⟩:=a1
    have b0:x - H.size < bs.length:=by rw [<- a3];exact (N1b.1 hb).1
    exact .inr ⟨x - H.size,bs[x - H.size],b,off,B,o,by omega,M1X b0,hb,z,rfl⟩
   ·cases a1
 have b1:∀ (k:Nat) (p:TypeId × List Value),bs[k]? = some p->(pushes H (c0L false H.size bs)).bk (H.size + k)=.row false p.1 (p.2.map (shC H.size)):=by
  intro k p hp
  rw [d0F,M1V (by omega),Nat.add_sub_cancel_left]
  simp [c0L,hp]
 have I:∀ x,x < H.size->(pushes H (c0L false H.size bs)).bk x=H.bk x:=fun x hx=>by rw [d0F,M1Z hx]
 have F:∀ k b off,corr[k]? = some (b,off)->n0<=b:=fun k b off hk=>b9 _ (List.mem_of_getElem? hk)
 have u:∀ (k:Nat) (b off:Nat),corr[k]? = some (b,off)->∃ p j,bs[k]? = some p/\G.bk b=.row false p.1 j:=by
  intro k b off hk
  have b0:k < bs.length:=by rw [<- a3];exact (N1b.1 hk).1
  have hp:bs[k]? = some bs[k]:=M1X b0
  have z:=(e0V M k _ hp).2
  rw [N1q] at z
  unfold l0u at z
  rw [hk] at z
  simp only at z
  split at z
  ·rename_i ro e j u
   simp only [Bool.not_true,O1U,M1W,O1s,beq_iff_eq] at z
   obtain ⟨⟨⟨rfl,rfl⟩,_⟩,_⟩:=z
   exact ⟨_,j,hp,u⟩
  ·cases z
 have a4:∀ (k b off B o:Nat),corr[k]? = some (b,off)->φs b=some (B,o)->X.base<=B->Xs.base<=B:=by
  intro k b off B o hk hB _
  obtain ⟨p,j,_,z⟩:=u k b off hk
  exact (S b B o false p.1 j hB z).based
 have b2:∀ (k:Nat) (p:TypeId × List Value) (b off B o:Nat),bs[k]? = some p->corr[k]? = some (b,off)->φs b=some (B,o)->∃ c el fz,w'.heap[B]? = some (.cells c el fz)/\o + off + p.2.length<=c.size /\
   CR X w (shq w') (p.2.map (shC H.size)) ((c.toList.drop (o + off)).take p.2.length)/\(true=true->Xs.base<=B/\fz=(0,0)/\el=p.1/\∃ j,G.bk b=.row false p.1 j):=by
  intro k p b off B o hp hk hB
  obtain ⟨B1,o1,g1,g2⟩:=a0 k p b off hp hk
  rw [hB] at g1;cases g1
  have:=(e0V M k p hp).2
  rw [N1q] at this
  exact q0N (X2:=X) S hφ a4 hP hk hB g2 this
 refine ⟨w,⟨R.bs,?_,?_,?_⟩,fun b y hb=>by rw [N b (R.lt b y hb)];exact hb,?_,s0f hφ a4 hP b6 hr⟩
 ·intro x y Z
  rw [g0G]
  rcases s x y Z with ⟨z,_⟩ | ⟨k,p,b,off,B,o,rfl,L,_⟩
  ·omega
  ·have:=(N1b.1 L).1
   simp [c0L];omega
 ·intro x B0 o0 ro e cs Z J
  rcases s x _ Z with ⟨z,L⟩ | ⟨k,p,b,off,B,o,rfl,L,h3,h4,h5⟩
  ·rw [I x z] at J
   exact (R.row x B0 o0 ro e cs L J).mo (fun b y hb=>by rw [N b (R.lt b y hb)];exact hb) (fun _ _ h=>h) rfl
  ·rw [b1 k p L] at J
   cases h5;cases J
   obtain ⟨c,el,fz,g1,g2,g3,g4⟩:=b2 k p b off B0 o L h3 h4
   obtain ⟨g5,g6,g7,_⟩:=g4 rfl
   exact .inl ⟨c,el,fz,g1,by simpa using g2,by simpa using g3,fun _=>⟨N1n a9 g5,g6,g7⟩,fun h=>by cases h⟩
 ·intro x x' B0 o1 o2 e cs Z b7 b3 J
  rcases s x _ Z with ⟨z,L⟩ | ⟨k,p,b,off,B,o,rfl,L,h3,h4,h5⟩
  ·rw [I x z] at J
   rcases s x' _ b7 with ⟨a6,O⟩ | ⟨k',p',Y,U,B',o',rfl,O,Q,a7,a8⟩
   ·rw [I x' a6];exact R.sep x x' B0 o1 o2 e cs L O b3 J
   ·exfalso
    cases a8
    obtain ⟨q,j,_,hs⟩:=u k' Y U Q
    exact a2 Y B0 o' _ j (F _ _ _ Q) a7 hs x o1 false e cs L J
  ·cases h5
   obtain ⟨q,j,_,hs⟩:=u k b off h3
   rcases s x' _ b7 with ⟨a6,O⟩ | ⟨k',p',Y,U,B',o',rfl,O,Q,a7,a8⟩
   ·rw [I x' a6]
    cases hbx:H.bk x' with
    | dead=>rfl
    | row ro' e' a5=>exact N1i hbx (a2 b B0 o _ j (F _ _ _ h3) h4 hs x' o2 ro' e' a5 O)
   ·exfalso
    cases a8
    obtain ⟨q',c1,_,b4⟩:=u k' Y U Q
    have b8:b ≠ Y:=by
     intro e
     have e1:(corr.map (·.1))[k]? = some b:=by simp [h3]
     have e2:(corr.map (·.1))[k']? = some b:=by simp [Q,e]
     have:=(List.getElem?_inj (by simpa using (N1b.1 h3).1) c0).1 (e1.trans e2.symm)
     exact b3 (by rw [this])
    have:=b5 b Y B0 o o' _ j h4 a7 b8 hs
    rw [this] at b4;cases b4
 ·intro x B0 o0 Z hn
  rcases s x _ Z with ⟨z,L⟩ | ⟨k,p,b,off,B,o,rfl,L,h3,h4,h5⟩
  ·rw [L] at hn;cases hn
  ·cases h5
   obtain ⟨q,j,_,hs⟩:=u k b off h3
   exact ⟨by omega,b,o,_,j,F _ _ _ h3,h4,hs⟩
theorem H1P (hR:Rel X φ H w) (h:b0R X fl φ H w φ' G w') (N:∀ b,b < H.size->G.bk b=H.bk b) (Z:fl<=H.size) {bs:n0A} {corr:f0D} {vt r O:Value} (q:VR X φ' (shq w') r O)
  (hc:q0L H.size G.bk corr bs vt r=true):∃ j,b0R X fl φ H w j (pushes H (c0L false H.size bs)) w'/\VR X j (shq w') (shV H.size vt) O:=by
 have c:=h.forget hR N
 obtain ⟨j,R,S,L,U⟩:=v1p (n0:=H.size) c.rel h.rel.row h.rel.sep rfl (M1U _) (fun b B o e k hb M s x J ro e' Q u Y=>by
  have F:=hR.lt x _ u
  have:=h.rel.sep b x B o J e k M (h.ext x _ u) (by omega) s
  rw [N x F,Y] at this;cases this) q hc
 refine ⟨j, { ext := S, rel := R, shp := h.shp, wsz := h.wsz, os := h.os, tape := h.tape, out := h.out, hsz := (by rw [g0G]; omega), keep := fun b hb => (by rw [d0F, M1Z (by omega)]),
              kind:=fun b e cs hb q=>⟨cs,by rw [d0F,M1Z hb] at q;exact q⟩,fresh:=?_,newB:=?_,frame:=h.frame },U⟩
 ·intro x y I z
  exact (L x y.1 y.2 I z).1
 ·intro x B o I z
  obtain ⟨_,b,J,e,k,M,s,u⟩:=L x B o I z
  refine h.newB b B J s ?_
  cases hb:φ b with
  | none=>rfl
  | some y=>have:=hR.lt b y hb;omega
structure f0i where
 f:FuncId
 rows:n0A
 args:List Value
 bs:n0A
 v:Value
def f0i.heap (M:f0i):a0c:=(c0L true 0 M.rows).toArray
def f0i.given (M:f0i):List Value:=M.args.map (shV 0)
def l0n (corr:f0D):List Value->List Value->Bool
 | [],[]=>true
 | v :: r,v' :: r'=>sameV corr v v' && l0n corr r r'
 | _,_=>false
def F1T (G:Nat->Blk) (corr:f0D) (M:f0i) (args:List Value):Bool :=
 Nat.beq corr.length M.rows.length && d0q false G corr (M.args.flatMap c0d) 0 [] M.rows && l0n corr M.args args
theorem n0i {corr:f0D}:∀ {j c:List Value},l0n corr j c=true->e0o corr (j.flatMap c0d) (c.flatMap c0d)=true
 | [],[],_=>rfl
 | t :: j,s :: c,h=>by
  simp only [l0n,M1W] at h
  simp only [List.flatMap_cons]
  exact n0f (o0C h.1) (n0i h.2)
 | [],_ :: _,h=>by cases h
 | _ :: _,[],h=>by cases h
theorem X0k {call:Nat->FuncId->List Value->a0c->Res (Value × a0c)} {M:f0i} (a9:∀ n,b0x ⟨X.P,n⟩ call) {r:Value} {G1:a0c} (a8:call 0 M.f M.given M.heap=.ok (r,G1))
  {Y:f0D} (a5:q0L M.rows.length G1.bk Y M.bs M.v r=true) {args:List Value} {corr:f0D} (Z:F1T H.bk corr M args=true) {j:Array Value} (hR:Rel X φ H w)
  (hA:CR X φ (shq w) args j.toList) (b9:fl<=H.size) :
  s0q X.P M.f=true/\Calls X.P M.f j w fun e w'=>∃ v' φ',e=.returned v'/\VR X φ' (shq w') (shV H.size M.v) v'/\b0R X fl φ H w φ' (pushes H (c0L false H.size M.bs)) w':=by
 unfold F1T at Z
 simp only [M1W,Nat.beq_eq] at Z
 obtain ⟨⟨a7,I⟩,b0⟩:=Z
 have a1:∀ v ∈ args.flatMap c0d,w0C X φ (shq w) v:=by
  simp only [List.mem_flatMap]
  rintro c ⟨x,hx,b4⟩
  obtain ⟨u,hu⟩:=hA.know x hx
  exact hu.know c b4
 have N:=B1Y (own:=false) hR.row a1 (n0i b0) I
 let U:Cx:=⟨X.P,w.heap.size⟩
 let φ0:Inj:=fun k=>match corr[k]? with | some (b,off)=>(φ b).map fun y=>(y.1,y.2 + off) | none=>none
 have hφ:∀ k b off B o,corr[k]? = some (b,off)->φ b=some (B,o)->φ0 (0 + k)=some (B,o + off):=by
  intro k b off B o q F
  show (match corr[0 + k]? with | some (b,off)=>(φ b).map fun y:Nat × Nat=>(y.1,y.2 + off) | none=>none)=_
  rw [N1q,q];simp [F]
 have a3:∀ (k b off B o:Nat),corr[k]? = some (b,off)->φ b=some (B,o)->U.base<=B->X.base<=B:=fun _ _ _ _ _ _ _ h=>N1n hR.bs h
 have L:M.heap.size=M.rows.length:=by simp [f0i.heap,c0L]
 have a4:∀ (k:Nat) (p:TypeId × List Value),M.rows[k]? = some p->M.heap.bk k=.row true p.1 (p.2.map (shC 0)):=by
  intro k p hp
  simp [f0i.heap,c0L,a0c.bk,M1Y,hp]
 have z:∀ k ro e cs,M.heap.bk k=.row ro e cs->∃ p,M.rows[k]? = some p/\ro=true/\e=p.1/\cs=p.2.map (shC 0):=by
  intro k ro e cs h
  have hk:k < M.rows.length:=by rw [<- L];exact a0r h
  have hp:M.rows[k]? = some M.rows[k]:=M1X hk
  rw [a4 k _ hp] at h
  cases h
  exact ⟨_,hp,rfl,rfl,rfl⟩
 have S:∀ (k:Nat) (y:Nat × Nat),φ0 k=some y->∃ b off B o,corr[k]? = some (b,off)/\φ b=some (B,o)/\y=(B,o + off):=by
  intro k y O
  have Q:(match corr[k]? with | some (b,off)=>(φ b).map fun y:Nat × Nat=>(y.1,y.2 + off) | none=>none)=some y:=O
  split at Q
  ·rename_i b off hb
   rw [N1z] at Q
   obtain ⟨⟨B,o⟩,q,rfl⟩:=Q
   exact ⟨b,off,B,o,hb,q,rfl⟩
  ·cases Q
 have a0:Rel U φ0 M.heap w:=by
  refine ⟨M1U _,?_,?_,?_⟩
  ·intro k y O
   obtain ⟨b,off,B,o,q,_⟩:=S k y O
   rw [L,<- a7];exact (N1b.1 q).1
  ·intro k B0 o0 ro e cs O J
   obtain ⟨b,off,B,o,q,F,R⟩:=S k _ O
   cases R
   obtain ⟨p,hp,rfl,rfl,rfl⟩:=z k ro e cs J
   obtain ⟨B1,o1,g1,g2⟩:=N k p b off hp q
   rw [F] at g1;cases g1
   have a6:=(e0V I k p hp).2
   rw [N1q] at a6
   obtain ⟨c,el,fz,q1,q2,q3,_⟩:=q0N (X2:=U) (m:=0) hR.row hφ a3 rfl q F g2 a6
   exact .inl ⟨c,el,fz,q1,by simpa using q2,by simpa using q3,fun h=>(by cases h),fun _=>(N1y.1 q1).1⟩
  ·intro k k' B o o' e cs _ _ _ J
   obtain ⟨_,_,h,_⟩:=z k _ _ _ J
   cases h
 have b2:CR U φ0 (shq w) M.given j.toList:=by
  have b7:∀ {ts ss us:List Value},l0n corr ts ss=true->CR X φ (shq w) ss us->CR U φ0 (shq w) (ts.map (shV 0)) us:=by
   intro ts
   induction ts with
   | nil =>
    intro ss us h hc
    cases ss with
    | nil=>rw [hc.nil_left];exact CR.nil
    | cons _ _=>cases h
   | cons t ts ih =>
    intro ss us h hc
    cases ss with
    | nil=>cases h
    | cons s ss =>
     simp only [l0n,M1W] at h
     obtain ⟨v',r',rfl,q,F⟩:=hc.cons_left
     exact CR.cons (s0f (X2:=U) (m:=0) hφ a3 rfl h.1 q) (ih h.2 F)
  exact b7 b0 hA
 obtain ⟨hr,hcall⟩:=(a9 w.heap.size 0 M.f M.given M.heap φ0 w j a0 b2 (N1K _)).1 r G1 a8
 refine ⟨hr,Calls.mono hcall ?_⟩
 rintro e w' ⟨v',c0,rfl,hv,hs⟩
 have G:∀ B,B < w.heap.size->w'.heap[B]? = w.heap[B]?:=fun B hB=>hs.frame B hB (fun b o e cs _ _ J=>by
  obtain ⟨_,_,h,_⟩:=z b _ _ _ J;cases h)
 have b3:Rel X φ H w':=⟨N1n hR.bs hs.wsz,hR.lt,fun b B o ro e cs q F=>by
  have R:=hR.row b B o ro e cs q F
  exact R.mo (fun _ _ h=>h) hs.shp (G B R.lt),hR.sep⟩
 obtain ⟨b8,g1,g2,g3,g4⟩:=v1p (X:=X) (Xs:=U) (n0:=M.rows.length) b3 hs.rel.row hs.rel.sep rfl hR.bs (fun b B o e a2 _ q F x o' ro e' b1 R h4=>by
  have b5:=(hs.rel.row b B o false e a2 q F).based
  have b6:=(hR.row x B o' ro e' b1 R h4).lt
  exact N1i b6 (Nat.not_lt.2 b5)) hv a5
 refine ⟨v',b8,rfl,g4,{ ext:=g2,rel:=g1,shp:=hs.shp,wsz:=hs.wsz,os:=hs.os,tape:=hs.tape,out:=hs.out,hsz:=(by rw [g0G];omega),keep:=fun b hb=>(by rw [d0F,M1Z (by omega)]),kind:=fun b e cs hb hr=>⟨cs,(by rw [d0F,M1Z hb] at hr;exact hr)⟩,fresh:=?_,newB:=?_,frame:=fun B hB _=>G B hB }⟩
 ·intro x y O hn
  exact (g3 x y.1 y.2 O hn).1
 ·intro x B o O hn
  obtain ⟨_,b,o',e,a2,q,F,R⟩:=g3 x B o O hn
  exact .inl (hs.rel.row b B o' false e a2 F R).based
end
section
theorem r0l {X:Cx} {call:Nat->FuncId->List Value->a0c->Res (Value × a0c)} (u:b0x X call) {f:FuncId} {b:Bool} {H1:a0c} (h:call 0 f [] #[]=.ok (.bool b,H1)) :
  b0x X fun _ g args H=>if g=f/\args=[] then .ok (.bool b,H) else .bad:=by
 intro fl g args H φ w c hR G I
 refine ⟨fun v H' k=>?_,fun v k=>?_⟩
 ·simp only at k
  split at k
  ·rename_i hc
   obtain ⟨rfl,rfl⟩:=hc
   simp only [Res.ok.injEq,N1V] at k
   obtain ⟨rfl,rfl⟩:=k
   have y:c.toList=[]:=G.nil_left
   have F:Rel X (fun _=>none) #[] w:=⟨hR.bs,fun _ _ h=>by simp at h,fun _ _ _ _ _ _ h=>by simp at h,fun _ _ _ _ _ _ _ h=>by simp at h⟩
   have z:CR X (fun _=>none) (shq w) [] c.toList:=by rw [y];exact CR.nil
   obtain ⟨J,hc⟩:=(u 0 g [] #[] (fun _=>none) w c F z (M1U _)).1 _ _ h
   refine ⟨J,Calls.mono hc ?_⟩
   rintro e w' ⟨v',φ',rfl,L,hs⟩
   cases L
   have s:∀ B,B < w.heap.size->w'.heap[B]? = w.heap[B]?:=fun B hB=>hs.frame B hB (fun _ _ _ _ h=>by simp at h)
   refine ⟨_,φ,rfl,.bool b,?_⟩
   have r:∀ b B o ro e cs,φ b=some (B,o)->H.bk b=.row ro e cs->B < w.heap.size:=fun b B o ro e cs q j=>by
    exact (hR.row b B o ro e cs q j).lt
   exact { ext := fun _ _ h => h
           rel:=⟨N1n hR.bs hs.wsz,hR.lt,fun b B o ro e cs q j=>(hR.row b B o ro e cs q j).mo (fun _ _ h=>h) hs.shp (s B (r b B o ro e cs q j)),hR.sep⟩
           shp:=hs.shp,wsz:=hs.wsz,os:=hs.os,tape:=hs.tape,out:=hs.out
           hsz:=M1U _,keep:=fun _ _=>rfl,kind:=fun b e cs _ h=>⟨cs,h⟩
           fresh:=fun b x q j=>by rw [q] at j;cases j
           newB:=fun b B o q j=>by rw [q] at j;cases j
           frame:=fun B hB _=>s B hB }
  ·cases k
 ·simp only at k
  split at k <;> cases k
