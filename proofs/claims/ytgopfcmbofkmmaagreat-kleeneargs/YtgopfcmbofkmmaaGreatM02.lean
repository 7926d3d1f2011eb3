/- Part 3 of the proof. -/
import Derived.Orders
import Derived.Test.YtgopfcmbofkmmaaGreatM01
set_option linter.unusedVariables false
set_option linter.unusedSimpArgs false
set_option linter.unusedSectionVars false
namespace Go.Proofs.YtgopfcmbofkmmaaGreat.AI
open Go
section
variable {X:Cx} {φ φ':Inj} {S:Shp} {H H':a0c} {w w':World} {fl:Nat} {t:a0U} {a:Act}
theorem v0k (bef:List Nat) (i:Nat):∀ (l:List Edge) (s:Nat),(l.foldl (fun s e=>if Region.binds .any e then s ||| 2 ^ e.on ||| bef.getD e.on 0 else s) s).testBit i=true <->
  s.testBit i=true ∨ ∃ e ∈ l,Region.binds .any e=true/\(i=e.on ∨ (bef.getD e.on 0).testBit i=true)
 | [],s=>by simp
 | e :: l,s=>by
  rw [List.foldl_cons,v0k bef i l]
  by_cases hb:Region.binds .any e=true
  ·simp only [hb,N1E,Nat.testBit_or,N1L,Nat.testBit_two_pow,N1s,O1W]
   constructor
   ·rintro (((h | h) | h) | ⟨e',h1,h2⟩)
    ·exact .inl h
    ·exact .inr ⟨e,.inl rfl,hb,.inl h.symm⟩
    ·exact .inr ⟨e,.inl rfl,hb,.inr h⟩
    ·exact .inr ⟨e',.inr h1,h2⟩
   ·rintro (h | ⟨e',rfl | h1,h2,h3⟩)
    ·exact .inl (.inl (.inl h))
    ·rcases h3 with h3 | h3
     ·exact .inl (.inl (.inr h3.symm))
     ·exact .inl (.inr h3)
    ·exact .inr ⟨e',h1,h2,h3⟩
  ·simp only [hb,N1G,O1W]
   constructor
   ·rintro (h | ⟨e',h1,h2⟩)
    ·exact .inl h
    ·exact .inr ⟨e',.inr h1,h2⟩
   ·rintro (h | ⟨e',rfl | h1,h2,h3⟩)
    ·exact .inl h
    ·exact N1i h2 hb
    ·exact .inr ⟨e',h1,h2,h3⟩
structure w0E (X:Cx) (ops:Array Oper) (l:List a0v) (bef:List Nat) (pairs:List (Nat × Nat)):Prop where
 len:l.length=ops.size
 op:∀ (k:Nat) (s:a0v),l[k]? = some s->∃ o,ops[k]? = some o/\g0V X.P ops (H0q X.P bef (ops.toList.map fun o=>g0K o.op) k o.op) o=some s
 bit:∀ (i j:Nat) (o:Oper),ops[j]? = some o->(a0T bef i j=true <-> ∃ e ∈ o.after.toList,Region.binds .any e=true/\(i=e.on ∨ a0T bef i e.on=true))
 back:∀ (j:Nat) (o:Oper),ops[j]? = some o->∀ e ∈ o.after.toList,Region.binds .any e=true->e.on < j
 un:∀ (i j:Nat),i < j->j < ops.size->a0T bef i j=false->A0c ops l (i,j)=true/\(f0T l (i,j)=true->(i,j) ∈ pairs)
 nosel:∀ (j:Nat) (o:Oper) (cs:Array SelectCase) (b:Bool),ops[j]? = some o->o.op ≠ .select cs b
theorem n0X {P:Program} {ops:Array Oper} {bef ws:List Nat}:∀ {os:List Oper} {k:Nat} {l:List a0v},q0I P ops bef ws k os=some l ->
  l.length=os.length/\∀ i s,l[i]? = some s->∃ o,os[i]? = some o/\g0V P ops (H0q P bef ws (k + i) o.op) o=some s
 | [],k,l,h=>by simp [q0I] at h;subst h;simp
 | o :: os,k,l,h=>by
  simp only [q0I] at h
  split at h
  ·rename_i x l' h1 h2
   cases h
   obtain ⟨h3,h4⟩:=n0X h2
   refine ⟨by simp [h3],fun i s hi=>?_⟩
   cases i with
   | zero=>simp at hi;subst hi;exact ⟨o,rfl,h1⟩
   | succ i =>
    obtain ⟨o',h5,h6⟩:=h4 i s (by simpa using hi)
    exact ⟨o',by simpa using h5,by rw [show k + (i + 1)=k + 1 + i by omega];exact h6⟩
  ·cases h
theorem r0s {n i j:Nat} (h:i < j) (hj:j < n):(i,j) ∈ l0G n:=by
 unfold l0G
 rw [List.mem_flatMap]
 exact ⟨j,N1N.2 hj,List.mem_map.2 ⟨i,N1N.2 h,rfl⟩⟩
theorem S0c {ops:Array Oper} {l:List a0v} {bef:List Nat} {pairs:List (Nat × Nat)} (h:y0j X.P ops=some (.draw l bef pairs)):w0E X ops l bef pairs:=by
 unfold y0j at h
 simp only [M1S,M1P] at h
 obtain ⟨l',h1,h⟩:=h
 split at h
 ·rename_i hc
  obtain ⟨he,hu,hn⟩:=hc
  simp only [M1T,M1Q,SCode.draw.injEq] at h
  obtain ⟨rfl,rfl,rfl⟩:=h
  obtain ⟨hl1,hl2⟩:=n0X h1
  have hedge:∀ j o,ops[j]? = some o->(o.after.toList.all fun e=>!Region.binds .any e || e.on < j)=true /\
    (Region.before ops).toList.getD j 0=(o.after.toList.foldl (fun s e=>if Region.binds .any e then s ||| 2 ^ e.on ||| (Region.before ops).toList.getD e.on 0 else s) 0):=by
   intro j o ho
   have hj:j < ops.size:=(N1y.1 ho).1
   have:=N1H.1 he j (N1N.2 hj)
   simp only [ho,M1W,beq_iff_eq] at this
   exact this
  refine ⟨by simpa using hl1,fun k s hk=>?_,fun i j o ho=>?_,fun j o ho e hm hb=>?_,fun i j hij hj hord=>?_,fun j o cs b ho hs=>?_⟩
  ·obtain ⟨o,h2,h3⟩:=hl2 k s hk
   exact ⟨o,by simpa using h2,by simpa using h3⟩
  ·unfold a0T
   rw [(hedge j o ho).2,v0k]
   simp
  ·have:=N1H.1 (hedge j o ho).1 e hm
   simpa [hb] using this
  ·have hm:(i,j) ∈ (l0G ops.size).filter fun p=>!a0T (Region.before ops).toList p.1 p.2:=P1h.2 ⟨r0s hij hj,by simp [hord]⟩
   exact ⟨N1H.1 hu _ hm,fun hw=>P1h.2 ⟨hm,hw⟩⟩
  ·have:=N1H.1 hn o (by rw [<- N1S] at ho;exact List.mem_of_getElem? ho)
   simp [j0Y,hs] at this
 ·cases h
section
variable {ops:Array Oper} {l:List a0v} {bef:List Nat} {pairs:List (Nat × Nat)} (hT:w0E X ops l bef pairs)
include hT
theorem w0E.lt:∀ j i,j < ops.size->a0T bef i j=true->i < j:=by
 intro j
 induction j using Nat.strongRecOn with
 | _ j ih =>
  intro i hj ho
  have hoj:ops[j]? = some ops[j]:=N1v hj
  obtain ⟨e,hm,hb,h⟩:=(hT.bit i j _ hoj).1 ho
  have he:=hT.back j _ hoj e hm hb
  rcases h with rfl | h
  ·exact he
  ·have:=ih e.on he i (by omega) h;omega
theorem w0E.ready {listed:Array Bool} {j:Nat} (hr:j ∈ Region.ready .any ops listed) (hdown:∀ j,j < ops.size->listed.getD j false=true->∀ i,a0T bef i j=true->listed.getD i false=true) :
  j < ops.size/\listed.getD j true=false/\∀ i,a0T bef i j=true->listed.getD i false=true:=by
 unfold Region.ready at hr
 rw [P1h] at hr
 obtain ⟨hj,hr⟩:=hr
 have hj:=N1N.1 hj
 simp only [M1W,O1s] at hr
 have hoj:ops[j]? = some ops[j]:=N1v hj
 refine ⟨hj,hr.1,fun i hi=>?_⟩
 have hr2:=hr.2
 simp only [hoj,N1M,N1D] at hr2
 obtain ⟨e,hm,hb,h⟩:=(hT.bit i j _ hoj).1 hi
 rw [Array.all_eq_true'] at hr2
 have h3:=hr2 e (by simpa using hm)
 simp only [hb,Bool.not_true,O1U] at h3
 rcases h with rfl | h
 ·exact h3
 ·have:=hT.back j _ hoj e hm hb
  exact hdown e.on (by omega) h3 i h
theorem w0E.two {i j:Nat} (hij:i ≠ j) (hi:i < ops.size) (hj:j < ops.size) (h1:a0T bef i j=false) (h2:a0T bef j i=false) {oi oj:Oper} {x y:a0v} (hoi:ops[i]? = some oi) (hoj:ops[j]? = some oj)
  (hx:l[i]? = some x) (hy:l[j]? = some y) :
  (∀ d,x.dst=some d->d ∉ i0U oj y/\y.dst ≠ some d)/\(∀ d,y.dst=some d->d ∉ i0U oi x)/\¬ (way x.op=3/\way y.op=2)/\¬ (way x.op=2/\way y.op=3) /\
  ((way x.op=2/\way y.op ≠ 0)->(i,j) ∈ pairs ∨ (j,i) ∈ pairs)/\((a0W x.op=true/\way y.op=1)->(i,j) ∈ pairs ∨ (j,i) ∈ pairs):=by
 have key:∀ {p q:Nat} {op oq:Oper} {u v:a0v},p < q->q < ops.size->a0T bef p q=false->ops[p]? = some op->ops[q]? = some oq->l[p]? = some u->l[q]? = some v ->
   (∀ d,u.dst=some d->d ∉ i0U oq v/\v.dst ≠ some d)/\(∀ d,v.dst=some d->d ∉ i0U op u)/\¬ (way u.op=3/\way v.op=2)/\¬ (way u.op=2/\way v.op=3) /\
   ((way u.op=2/\way v.op ≠ 0)->(p,q) ∈ pairs)/\((way v.op=2/\way u.op ≠ 0)->(p,q) ∈ pairs) /\
   ((a0W u.op=true/\way v.op=1)->(p,q) ∈ pairs)/\((a0W v.op=true/\way u.op=1)->(p,q) ∈ pairs):=by
  intro p q op oq u v hpq hq ho h3 h4 h5 h6
  obtain ⟨h7,h8⟩:=hT.un p q hpq hq ho
  simp only [A0c,h3,h4,h5,h6,M1W,o0E,v0r] at h7
  obtain ⟨⟨h9,h10⟩,h11⟩:=h7
  refine ⟨fun d hd=>?_,fun d hd=>?_,?_,?_,fun h=>h8 ?_,fun h=>h8 ?_,fun h=>h8 ?_,fun h=>h8 ?_⟩
  ·rw [hd] at h9;simpa using h9
  ·rw [hd] at h10;simpa using h10
  ·intro ⟨a1,a2⟩;simp [a1,a2] at h11
  ·intro ⟨a1,a2⟩;simp [a1,a2] at h11
  ·simp [f0T,h5,h6,h.1,h.2]
  ·simp [f0T,h5,h6,h.1,h.2]
  ·simp [f0T,h5,h6,h.1,h.2]
  ·simp [f0T,h5,h6,h.1,h.2]
 rcases Nat.lt_or_gt_of_ne hij with hlt | hlt
 ·obtain ⟨k1,k2,k3,k4,k5,k6,k7,k8⟩:=key hlt hj h1 hoi hoj hx hy
  exact ⟨k1,k2,k3,k4,fun h=>.inl (k5 h),fun h=>.inl (k7 h)⟩
 ·obtain ⟨k1,k2,k3,k4,k5,k6,k7,k8⟩:=key hlt hi h2 hoj hoi hy hx
  refine ⟨fun d hd=>⟨k2 d hd,fun e=>(k1 d e).2 hd⟩,fun d hd=>(k1 d hd).1,fun h=>k4 ⟨h.2,h.1⟩,fun h=>k3 ⟨h.2,h.1⟩,fun h=>.inr (k6 h),fun h=>.inr (k8 h)⟩
end
section
variable (call:Nat->FuncId->List Value->a0c->Res (Value × a0c)) (fl:Nat) (bef:List Nat)
structure Run where
 T:Nat->a0U
 Hh:Nat->a0c
 Pn:Nat->Option (Nat × Value)
 val:Nat->Value
 tc:Nat->List Nat × List Nat
 st:Nat->Nat
 ds:List Deferred
def j0H (R:Run) (k:Nat) (s:a0v):Prop :=
 (R.st k=0/\j0u bef k (R.Pn k)=true/\R.T (k + 1)=R.T k/\R.Hh (k + 1)=R.Hh k/\R.Pn (k + 1)=R.Pn k/\R.tc k=([],[])) ∨
 (R.st k=1/\j0u bef k (R.Pn k)=false/\a0Q (R.T k) s.g=false/\R.val k=undef/\R.T (k + 1)=put (R.T k) s.dst undef/\R.Hh (k + 1)=R.Hh k/\R.Pn (k + 1)=R.Pn k/\R.tc k=([],[])) ∨
 (R.st k=2/\j0u bef k (R.Pn k)=false/\a0Q (R.T k) s.g=true/\b0i call fl (R.T k) (R.Hh k) s.op=.ok (R.val k,R.Hh (k + 1))/\R.T (k + 1)=put (R.T k) s.dst (R.val k)/\R.Pn (k + 1)=R.Pn k /\
  R.tc k=e0B (R.T k) s.op (R.Hh k) (R.Hh (k + 1))) ∨
 (R.st k=3/\j0u bef k (R.Pn k)=false/\a0Q (R.T k) s.g=true/\b0i call fl (R.T k) (R.Hh k) s.op=.pan (R.val k)/\R.Pn k=none/\R.Pn (k + 1)=some (k,R.val k)/\R.T (k + 1)=R.T k/\R.Hh (k + 1)=R.Hh k /\
  R.tc k=([],[]))
def Run.cons (i:Nat) (t:a0U) (H:a0c) (p:Option (Nat × Value)) (v:Value) (c:List Nat × List Nat) (s:Nat) (R:Run):Run :=
 { T := fun k => if k = i then t else R.T k, Hh := fun k => if k = i then H else R.Hh k, Pn := fun k => if k = i then p else R.Pn k, val := fun k => if k = i then v else R.val k,
   tc:=fun k=>if k=i then c else R.tc k,st:=fun k=>if k=i then s else R.st k,ds:=R.ds }
variable {call fl bef}
theorem j0H.cons {R:Run} {i k:Nat} {t:a0U} {H:a0c} {p:Option (Nat × Value)} {v:Value} {c:List Nat × List Nat} {n:Nat} {s:a0v} (hk:i < k) (h:j0H call fl bef R k s) :
  j0H call fl bef (R.cons i t H p v c n) k s:=by
 unfold j0H Run.cons at *
 simp only [M1V (show k ≠ i by omega),M1V (show k + 1 ≠ i by omega)]
 exact h
theorem U0O {pairs:List (Nat × Nat)}:∀ (r:List a0v) (i:Nat) (t:a0U) (H:a0c) (p:Option (Nat × Value)) (log:List (List Nat × List Nat)),b0T call fl bef pairs i r t H p log ≠ .bad ->
  ∃ R:Run,R.T i=t/\R.Hh i=H/\R.Pn i=p/\(∀ m s,r[m]? = some s->j0H call fl bef R (i + m) s)/\c0u (log.reverse ++ (List.range' i r.length).map R.tc) pairs=true /\
   b0T call fl bef pairs i r t H p log=match R.Pn (i + r.length) with | none=>.fin .normal (R.T (i + r.length)) (R.Hh (i + r.length)) | some (_,v)=>.pan v
 | [],i,t,H,p,log,h=>by
  refine ⟨⟨fun _=>t,fun _=>H,fun _=>p,fun _=>undef,fun _=>([],[]),fun _=>0,[]⟩,rfl,rfl,rfl,fun m s hm=>by simp at hm,?_,?_⟩
  ·simp only [b0T] at h
   split at h
   ·rename_i ha;simpa using ha
   ·exact N1i rfl h
  ·simp only [b0T] at h ⊢
   split at h
   ·rename_i ha;rw [M1Z ha];rfl
   ·exact N1i rfl h
 | s :: r,i,t,H,p,log,h=>by
  have fin:∀ (t1:a0U) (H1:a0c) (p1:Option (Nat × Value)) (c:List Nat × List Nat) (v:Value) (n:Nat),b0T call fl bef pairs i (s :: r) t H p log=b0T call fl bef pairs (i + 1) r t1 H1 p1 (c :: log) ->
    (∀ R:Run,R.T (i + 1)=t1->R.Hh (i + 1)=H1->R.Pn (i + 1)=p1->j0H call fl bef (R.cons i t H p v c n) i s) ->
    ∃ R:Run,R.T i=t/\R.Hh i=H/\R.Pn i=p/\(∀ m s',(s :: r)[m]? = some s'->j0H call fl bef R (i + m) s')/\c0u (log.reverse ++ (List.range' i (s :: r).length).map R.tc) pairs=true /\
     b0T call fl bef pairs i (s :: r) t H p log=match R.Pn (i + (s :: r).length) with | none=>.fin .normal (R.T (i + (s :: r).length)) (R.Hh (i + (s :: r).length)) | some (_,v)=>.pan v:=by
   intro t1 H1 p1 c v n heq hst
   rw [heq] at h
   obtain ⟨R,h1,h2,h3,h4,h5,h6⟩:=U0O r (i + 1) t1 H1 p1 (c :: log) h
   refine ⟨R.cons i t H p v c n,by simp [Run.cons],by simp [Run.cons],by simp [Run.cons],fun m s' hm=>?_,?_,?_⟩
   ·cases m with
    | zero=>simp at hm;subst hm;exact hst R h1 h2 h3
    | succ m=>rw [show i + (m + 1)=i + 1 + m by omega];exact (h4 m s' (by simpa using hm)).cons (by omega)
   ·have e:(List.range' i (s :: r).length).map (R.cons i t H p v c n).tc=c :: (List.range' (i + 1) r.length).map R.tc:=by
     rw [N1I,O1Z,O1o]
     congr 1
     ·simp [Run.cons]
     ·apply List.map_congr_left
      intro x hx
      have:=(List.mem_range'_1.1 hx).1
      simp only [Run.cons]
      rw [M1V (by omega)]
    rw [e]
    simpa using h5
   ·rw [heq,h6]
    simp only [Run.cons,N1I]
    rw [show i + (r.length + 1)=i + 1 + r.length by omega,M1V (by omega),M1V (by omega),M1V (by omega)]
  by_cases hh:j0u bef i p=true
  ·refine fin t H p ([],[]) undef 0 (by simp [b0T,hh]) (fun R h1 h2 h3=>.inl ?_)
   simp only [Run.cons,N1E,M1V (show i + 1 ≠ i by omega)]
   exact ⟨trivial,hh,h1,h2,h3,trivial⟩
  ·simp only [Bool.not_eq_true] at hh
   by_cases hw:a0Q t s.g=true
   ·cases hs:b0i call fl t H s.op with
    | bad=>exact N1i (by simp [b0T,hh,hw,hs]) h
    | pan v =>
     cases hp:p with
     | some u=>subst hp;exact N1i (by simp [b0T,hh,hw,hs]) h
     | none =>
      subst hp
      refine fin t H (some (i,v)) ([],[]) v 3 (by simp [b0T,hh,hw,hs]) (fun R h1 h2 h3=>.inr (.inr (.inr ?_)))
      simp only [Run.cons,N1E,M1V (show i + 1 ≠ i by omega)]
      exact ⟨trivial,hh,hw,hs,trivial,h3,h1,h2,trivial⟩
    | ok vH =>
     obtain ⟨v,H1⟩:=vH
     refine fin (put t s.dst v) H1 p (e0B t s.op H H1) v 2 (by simp [b0T,hh,hw,hs]) (fun R h1 h2 h3=>.inr (.inr (.inl ?_)))
     simp only [Run.cons,N1E,M1V (show i + 1 ≠ i by omega)]
     exact ⟨trivial,hh,hw,by rw [h2];exact hs,h1,h3,by rw [h2]⟩
   ·simp only [Bool.not_eq_true] at hw
    refine fin (put t s.dst undef) H p ([],[]) undef 1 (by simp [b0T,hh,hw]) (fun R h1 h2 h3=>.inr (.inl ?_))
    simp only [Run.cons,N1E,M1V (show i + 1 ≠ i by omega)]
    exact ⟨trivial,hh,hw,trivial,h1,h2,h3,trivial⟩
end
end
section
variable {X:Cx} {φ φ' ψ:Inj} {S S':Shp} {H H' H1:a0c} {w w':World} {fl:Nat} {t t':a0U} {a:Act} {so:SOp} {lone:Bool} {op:Op}
theorem k0a (h:∀ x ∈ a0g so,ev t x=ev t' x):opA fl t H so=opA fl t' H so:=by
 have lst:∀ {xs:List Opd},(∀ x ∈ xs,x ∈ a0g so)->xs.map (ev t)=xs.map (ev t'):=fun hx=>List.map_congr_left (fun x hm=>h x (hx x hm))
 have opt:∀ {x:Option Opd},(∀ y,x=some y->y ∈ a0g so)->x.map (ev t)=x.map (ev t'):=fun {x} hx=>by cases x with | none=>rfl | some y=>simp [h y (hx y rfl)]
 have parts:∀ {ps:List (Nat × Nat × Opd)},(∀ p ∈ ps,p.2.2 ∈ a0g so)->b0c t ps=b0c t' ps:=fun hp=>List.map_congr_left (fun p hm=>by rw [h _ (hp p hm)])
 cases so <;> simp only [opA]
 case build z ps=>rw [parts (fun p hm=>by simp only [a0g,List.mem_map];exact ⟨p,hm,rfl⟩)]
 case lit e z n ps=>rw [parts (fun p hm=>by simp only [a0g,List.mem_map];exact ⟨p,hm,rfl⟩)]
 case mkfn f xs ys=>rw [lst (xs:=xs) (fun x hm=>by simp [a0g,hm]),lst (xs:=ys) (fun x hm=>by simp [a0g,hm])]
 case sl e size x lo hi mx=>rw [h x (by simp [a0g]),opt (x:=lo) (fun y e=>by simp [a0g,e]),opt (x:=hi) (fun y e=>by simp [a0g,e]),opt (x:=mx) (fun y e=>by simp [a0g,e])]
 case call f xs l=>rw [lst (xs:=xs) (fun x hm=>by simp [a0g,hm])]
 case callv x xs l=>rw [h x (by simp [a0g]),lst (xs:=xs) (fun x hm=>by simp [a0g,hm])]
 case inv x tb xs l=>rw [h x (by simp [a0g]),lst (xs:=xs) (fun x hm=>by simp [a0g,hm])]
 case mnx b x xs=>rw [h x (by simp [a0g]),lst (xs:=xs) (fun x hm=>by simp [a0g,hm])]
 case pick c x y=>rw [h c (by simp [a0g]),h x (by simp [a0g]),h y (by simp [a0g])]
 case store n x y=>rw [h x (by simp [a0g]),h y (by simp [a0g])]
 case bin tg b x y=>rw [h x (by simp [a0g]),h y (by simp [a0g])]
 case appz e b z x y=>rw [h x (by simp [a0g]),h y (by simp [a0g])]
 case look z x y=>rw [h x (by simp [a0g]),h y (by simp [a0g])]
 case mupd m i x=>rw [h m (by simp [a0g]),h i (by simp [a0g]),h x (by simp [a0g])]
 case sop k xs=>rw [lst (xs:=xs) (fun x hm=>by simp [a0g,hm])]
 case b2s x=>rw [h x (by simp [a0g])]
 case mk e b z x y=>rw [h x (by simp [a0g]),h y (by simp [a0g])]
 case ia n x y=>rw [h x (by simp [a0g]),h y (by simp [a0g])]
 case app e n b x y=>rw [h x (by simp [a0g]),h y (by simp [a0g])]
 case mv x=>rw [h x (by simp [a0g])]
 case box e x=>rw [h x (by simp [a0g])]
 case load g n x=>rw [h x (by simp [a0g])]
 case chk x=>rw [h x (by simp [a0g])]
 case un u x=>rw [h x (by simp [a0g])]
 case conv k x=>rw [h x (by simp [a0g])]
 case iface ty x=>rw [h x (by simp [a0g])]
 case fa o x=>rw [h x (by simp [a0g])]
 case fa0 e x=>rw [h x (by simp [a0g])]
 case fld g o n x=>rw [h x (by simp [a0g])]
 case ext x i=>rw [h x (by simp [a0g])]
 case len x=>rw [h x (by simp [a0g])]
 case cap x=>rw [h x (by simp [a0g])]
 case pan x=>rw [h x (by simp [a0g])]
theorem u0L (h:∀ x ∈ a0g so,ev t x=ev t' x):c0j t so=c0j t' so:=by
 cases so <;> simp only [c0j]
 case store n x y=>rw [h x (by simp [a0g])]
 case app e n b x y=>rw [h x (by simp [a0g]),h y (by simp [a0g])]
 case load g n x=>rw [h x (by simp [a0g])]
 case fa0 e x=>rw [h x (by simp [a0g])]
 case sl e size x lo hi mx=>rw [h x (by simp [a0g])]
 case look z x y=>rw [h x (by simp [a0g])]
 case mupd m i x=>rw [h m (by simp [a0g])]
 case b2s x=>rw [h x (by simp [a0g])]
theorem z0z {m i x:Value} (h:k0E fl H m i x=some H1):∃ b,m=.map (some b):=by
 unfold k0E at h
 split at h
 ·exact ⟨_,rfl⟩
 ·cases h
theorem o0F {b:Nat} (h:b ∈ (c0j t so).2):way so=2:=by cases so <;> simp [c0j] at h <;> rfl
theorem x0J {b:Nat} (h:b ∈ (c0j t so).1):way so=1 ∨ way so=2:=by cases so <;> simp [c0j] at h <;> simp [way]
theorem t1D {a b:Value} (h:K1K a b=true):a=b:=by
 have addr:∀ {p q:Addr},l0P p q=true->p=q:=by
  intro p q h
  unfold l0P at h
  simp only [M1W,beq_iff_eq,O1D] at h
  cases p;cases q;simp_all
 unfold K1K at h
 split at h <;> (try simp only [M1W,beq_iff_eq,N1s,N1g] at h)
 ·rw [h]
 ·rw [h.1,h.2]
 ·rename_i a b
  have:a=b:=by
   apply ByteArray.ext
   exact O1x h
  rw [this]
 ·rfl
 ·rw [addr h]
 ·rw [h.1,h.2]
 ·rw [addr h.1.1,h.1.2,h.2]
 ·rfl
 ·rw [h]
 ·rfl
 ·rfl
theorem E0Z:∀ {a b:List Value},G1S a b=true->a=b
 | [],[],_=>rfl
 | v :: r,v' :: r',h=>by
  simp only [G1S,M1W] at h
  rw [t1D h.1,E0Z h.2]
 | [],_ :: _,h=>by cases h
 | _ :: _,[],h=>by cases h
theorem x0F {a b:Blk} (h:n0c a b=true):a=b:=by
 unfold n0c at h
 split at h
 ·rfl
 ·simp only [M1W,beq_iff_eq] at h
  rw [h.1.1,h.1.2,E0Z h.2]
 ·cases h
theorem y0r {b:Nat} (hb:b < H.size) (hne:H1.bk b ≠ H.bk b):b ∈ G0i H H1:=by
 unfold G0i
 rw [P1h]
 refine ⟨N1N.2 hb,?_⟩
 cases h:n0c (H.bk b) (H1.bk b) with
 | false=>rfl
 | true=>exact N1i (x0F h).symm hne
theorem u0K {f:FuncId} {args:List Value} (h:opA fl t H so=.call f args true) (G:a0c):e0B t so H G=([],G0i H G):=by
 unfold e0B
 cases so <;> simp only [opA] at h
 case call=>simp at h;simp [a0W,h.2.2]
 case callv=>split at h <;> simp at h;simp [a0W,h.2.2]
 case inv =>
  split at h
  ·split at h <;> simp at h;simp [a0W,h.2.2]
  ·cases h
 all_goals exfalso
 all_goals first
  | (simp at h;done)
  | (unfold a0R at h;split at h <;> cases h)
  | (unfold f0P at h;split at h <;> cases h)
  | (split at h <;> first | (cases h;done) | (split at h <;> first | (cases h;done) | (split at h <;> first | (cases h;done) | (unfold a0R at h;split at h <;> cases h))) | (unfold a0R at h;split at h <;> cases h))
theorem o0G {v:Value} (h:opA fl t H so=.val v H1) (G G':a0c):e0B t so G G' = c0j t so:=by
 unfold e0B
 cases so <;> try rfl
 case call=>simp [opA] at h
 case callv=>simp only [opA] at h;split at h <;> cases h
 case inv =>
  simp only [opA] at h
  split at h
  ·split at h <;> cases h
  ·cases h
theorem x0K {t:a0U} {G G':a0c} (h:way so=2):e0B t so G G' = c0j t so:=by
 cases so <;> simp [way] at h <;> rfl
theorem d0P {f:FuncId} {args:List Value} {l:Bool} (h:opA fl t H so=.call f args l):way so=3/\a0W so=l:=by
 have hc:=m0B h
 cases so <;> simp only [f0L,N1g] at hc
 case call=>simp [opA] at h;simp [way,a0W,h.2.2]
 case callv=>simp only [opA] at h;split at h <;> simp at h;simp [way,a0W,h.2.2]
 case inv =>
  simp only [opA] at h
  split at h
  ·split at h <;> simp at h;simp [way,a0W,h.2.2]
  ·cases h
theorem F0u {v:Value} (hw:way so=0) (h:opA fl t H so=.val v H1):H1=H:=by
 have ht:=p0q h
 cases so <;> simp only [way] at hw <;> first | (exact N1i hw (by decide)) | skip
 all_goals
  simp only [opA] at h
  first
   | (cases h;done)
   | (simp at h;exact h.2.symm)
   | (unfold a0R at h;split at h <;> simp at h;exact h.2.symm)
   | (split at h <;> first | (simp at h;exact h.2.symm) | (cases h;done) | (split at h <;> first | (simp at h;exact h.2.symm) | (cases h;done)) | (unfold a0R at h;split at h <;> simp at h;exact h.2.symm))
theorem F0v {v:Value} (hw:way so=1) (h:opA fl t H so=.val v H1):H1=H:=by
 cases so <;> simp only [way] at hw <;> first | (exact N1i hw (by decide)) | skip
 all_goals
  simp only [opA] at h
  first
   | (unfold a0R at h;split at h <;> simp at h;exact h.2.symm)
   | (split at h <;> first | (cases h;done) | (unfold a0R at h;split at h <;> simp at h;exact h.2.symm) | (split at h <;> first | (cases h;done) | (split at h <;> simp at h;exact h.2.symm)))
theorem G0b (hc:cOp X.P lone op=some so) (hw:g0K op=1):way so=0 ∨ way so=1:=by
 cases op <;> simp [g0K] at hw
 case call c=>obtain ⟨callee,args,ats⟩:=c;cases callee <;> simp at hw;split at hw <;> cases hw
 case load =>
  simp only [cOp,M1S,M1P,M1T,M1Q] at hc
  obtain ⟨_,_,_,_,_,_,rfl⟩:=hc;exact .inr rfl
 case convert =>
  simp only [cOp] at hc
  split at hc
  ·simp only [M1S,M1P,M1T,M1Q] at hc
   obtain ⟨_,_,rfl⟩:=hc;exact .inl rfl
  ·split at hc
   ·simp only [M1S,M1P,M1T,M1Q] at hc
    obtain ⟨_,_,rfl⟩:=hc;exact .inr rfl
   ·cases hc
  ·cases hc
 case slice =>
  simp only [cOp] at hc
  split at hc
  ·split at hc
   ·simp only [M1S,M1P,M1T,M1Q] at hc
    obtain ⟨_,_,_,_,_,_,rfl⟩:=hc;exact .inl rfl
   ·simp only [M1S,M1P,M1T,M1Q] at hc
    obtain ⟨_,_,_,_,rfl⟩:=hc;exact .inl rfl
   ·cases hc
  ·simp only [M1S,M1P,M1T,M1Q] at hc
   obtain ⟨_,_,_,_,_,_,_,_,_,_,_,_,rfl⟩:=hc;exact .inr rfl
 case fieldAddr =>
  simp only [cOp,M1S,M1P,M1T,M1Q] at hc
  obtain ⟨_,_,_,_,_,_,hc⟩:=hc
  split at hc
  ·split at hc
   ·simp only [M1P,M1Q] at hc
    obtain ⟨_,_,rfl⟩:=hc;exact .inr rfl
   ·cases hc
  ·simp only [M1P,M1Q] at hc
   obtain ⟨_,_,rfl⟩:=hc;exact .inl rfl
 case lookup ty x i ok =>
  cases ok with
  | true=>simp [cOp] at hc
  | false =>
   simp only [cOp] at hc
   split at hc
   ·split at hc
    ·split at hc
     ·split at hc
      ·simp only [M1S,M1P,M1T,M1Q] at hc
       obtain ⟨_,_,_,_,rfl⟩:=hc;exact .inr rfl
      ·cases hc
     ·cases hc
    ·cases hc
   ·cases hc
theorem q0J (hc:cOp X.P lone op=some so):(way so ≠ 0->g0K op ≠ 0)/\(a0W so=true->lone=true):=by
 cases op
 case makeMap ty r =>
  cases r with
  | none=>simp only [cOp,M1Q] at hc;subst hc;exact ⟨fun _=>by simp [g0K],fun h=>by simp [a0W] at h⟩
  | some x=>simp [cOp] at hc
 case mapUpdate =>
  simp only [cOp] at hc
  split at hc
  ·split at hc
   ·simp only [M1S,M1P,M1T,M1Q] at hc
    obtain ⟨_,_,_,_,_,_,rfl⟩:=hc
    exact ⟨fun _=>by simp [g0K],fun h=>by simp [a0W] at h⟩
   ·cases hc
  ·cases hc
 case convert =>
  simp only [cOp] at hc
  split at hc
  ·simp only [M1S,M1P,M1T,M1Q] at hc
   obtain ⟨_,_,rfl⟩:=hc
   exact ⟨fun _=>by simp [g0K],fun h=>by simp [a0W] at h⟩
  ·split at hc
   ·simp only [M1S,M1P,M1T,M1Q] at hc
    obtain ⟨_,_,rfl⟩:=hc
    exact ⟨fun _=>by simp [g0K],fun h=>by simp [a0W] at h⟩
   ·cases hc
  ·cases hc
 case index =>
  simp only [cOp] at hc
  split at hc
  ·simp only [M1S,M1P,M1T,M1Q] at hc
   obtain ⟨_,_,_,_,rfl⟩:=hc
   exact ⟨fun h=>by simp [way] at h,fun h=>by simp [a0W] at h⟩
  ·cases hc
 case slice =>
  refine ⟨fun _=>by simp [g0K],fun hl=>?_⟩
  simp only [cOp] at hc
  split at hc
  ·split at hc
   ·simp only [M1S,M1P,M1T,M1Q] at hc
    obtain ⟨_,_,_,_,_,_,rfl⟩:=hc
    simp [a0W] at hl
   ·simp only [M1S,M1P,M1T,M1Q] at hc
    obtain ⟨_,_,_,_,rfl⟩:=hc
    simp [a0W] at hl
   ·cases hc
  ·simp only [M1S,M1P,M1T,M1Q] at hc
   obtain ⟨_,_,_,_,_,_,_,_,_,_,_,_,rfl⟩:=hc
   simp [a0W] at hl
 case lookup ty x i ok =>
  cases ok with
  | true=>simp [cOp] at hc
  | false =>
   simp only [cOp] at hc
   split at hc
   ·split at hc
    ·split at hc
     ·split at hc
      ·simp only [M1S,M1P,M1T,M1Q] at hc
       obtain ⟨_,_,_,_,rfl⟩:=hc
       exact ⟨fun _=>by simp [g0K],fun h=>by simp [a0W] at h⟩
      ·cases hc
     ·cases hc
    ·cases hc
   ·cases hc
 case call c =>
  obtain ⟨callee,args,ats⟩:=c
  cases callee with
  | value f =>
   refine ⟨fun _=>by simp [g0K],fun hl=>?_⟩
   cases f <;> simp only [cOp] at hc
   case func f =>
    split at hc
    ·simp only [M1S,M1P,M1T,M1Q] at hc
     obtain ⟨_,_,rfl⟩:=hc;exact hl
    ·cases hc
   all_goals
    simp only [M1S,M1P,M1T,M1Q] at hc
    obtain ⟨_,_,_,_,rfl⟩:=hc;exact hl
  | invoke r n =>
   refine ⟨fun _=>by simp [g0K],fun hl=>?_⟩
   simp only [cOp,M1S,M1P,M1T,M1Q] at hc
   obtain ⟨_,_,_,_,rfl⟩:=hc;exact hl
  | builtin b =>
   simp only [cOp] at hc
   split at hc
   ·split at hc
    ·simp only [M1S,M1P,M1T,M1Q] at hc
     obtain ⟨_,_,rfl⟩:=hc
     exact ⟨fun h=>by simp [way] at h,fun h=>by simp [a0W] at h⟩
    simp only [M1S,M1P,M1T,M1Q] at hc
    obtain ⟨_,_,_,_,rfl⟩:=hc
    exact ⟨fun h=>by simp [way] at h,fun h=>by simp [a0W] at h⟩
   ·simp only [M1S,M1P,M1T,M1Q] at hc
    obtain ⟨_,_,_,_,rfl⟩:=hc
    exact ⟨fun h=>by simp [way] at h,fun h=>by simp [a0W] at h⟩
   ·simp only [M1S,M1P,M1T,M1Q] at hc
    obtain ⟨_,_,_,_,rfl⟩:=hc
    exact ⟨fun h=>by simp [way] at h,fun h=>by simp [a0W] at h⟩
   ·simp only [M1S,M1P,M1T,M1Q] at hc
    obtain ⟨_,_,_,_,rfl⟩:=hc
    exact ⟨fun h=>by simp [way] at h,fun h=>by simp [a0W] at h⟩
   ·simp only [M1S,M1P] at hc
    obtain ⟨_,_,_,_,_,_,hc⟩:=hc
    split at hc
    ·simp only [M1P,M1T,M1Q] at hc
     obtain ⟨_,_,_,_,_,_,rfl⟩:=hc
     exact ⟨fun _=>by simp [g0K],fun h=>by simp [a0W] at h⟩
    ·split at hc
     ·simp only [M1P,M1T,M1Q] at hc
      obtain ⟨_,_,_,_,_,_,rfl⟩:=hc
      exact ⟨fun _=>by simp [g0K],fun h=>by simp [a0W] at h⟩
     ·cases hc
   ·cases hc
 all_goals
  simp only [cOp,N1z,M1S,M1P,M1T,M1Q,reduceCtorEq] at hc
 all_goals (try (split at hc))
 all_goals (try (simp only [M1S,M1T,M1P,M1Q,reduceCtorEq] at hc))
 case move=>obtain ⟨_,_,rfl⟩:=hc;exact ⟨fun h=>by simp [way] at h,fun h=>by simp [a0W] at h⟩
 case assign=>obtain ⟨_,_,rfl⟩:=hc;exact ⟨fun h=>by simp [way] at h,fun h=>by simp [a0W] at h⟩
 all_goals
  (repeat' (first | (obtain ⟨_,_,hc⟩:=hc) | (split at hc) | (simp only [M1P,M1T,M1Q,reduceCtorEq] at hc)))
 all_goals (try subst hc)
 all_goals
  refine ⟨fun h=>?_,fun h=>?_⟩
  ·first
    | (simp [g0K];done)
    | (simp [way] at h;done)
  ·simp [a0W] at h
def cut (φ:Inj) (m:Nat):Inj:=fun b=>if b < m then φ b else none
theorem a0X {m b:Nat} {y:Nat × Nat}:cut φ m b=some y <-> b < m/\φ b=some y:=by
 unfold cut;split
 ·rename_i h;simp [h]
 ·rename_i h;simp [h]
theorem i0y {m k:Nat} (hmk:m<=k) (hφ:∀ b y,b < m->φ b=some y->φ' b=some y):∀ b y,cut φ m b=some y->cut φ' k b=some y:=fun b y h=>by
 rw [a0X] at h ⊢
 exact ⟨by omega,hφ b y h.1 h.2⟩
theorem VR.cut {m:Nat} (hm:∀ b y,φ b=some y->b < m) {v u:Value} (h:VR X φ S v u):∀ {u'},VR X ψ S' v u'->VR X (cut ψ m) S' v u':=by
 induction h with
 | bool b=>intro u' k;cases k;exact .bool _
 | int k n=>intro u' k;cases k;exact .int _ _
 | str s=>intro u' k;cases k;exact .str _
 | pnil=>intro u' k;cases k;exact .pnil
 | ptr a a' B o h1 h2 h3 h4=>intro u' k;cases k with | ptr _ a2 B2 o2 g1 g2 g3 g4=>exact .ptr _ _ B2 o2 g1 (a0X.2 ⟨hm _ _ h2,g2⟩) g3 g4
 | snil=>intro u' k;cases k;exact .snil
 | mnil=>intro u' k;cases k;exact .mnil
 | sle a a' =>
  intro u' k
  cases k with
  | sle _ a2=>exact .sle _ _
  | sl _ a2 _ _ c2 B2 o2 g1 g2 g3 g4 g5 g6 g7 g8=>rw [g6 (by simp [unk])];exact .sle _ _
 | sl a a' len cap cap' B o h1 h2 h3 h4 h5 h6 h7 h8 =>
  intro u' k
  cases k with
  | sle _ a2=>exact .sle _ _
  | sl _ a2 _ _ c2 B2 o2 g1 g2 g3 g4 g5 g6 g7 g8=>exact .sl _ _ _ _ _ B2 o2 g1 (a0X.2 ⟨hm _ _ h2,g2⟩) g3 g4 g5 g6 g7 g8
 | mp b B o h h2=>intro u' k;cases k with | mp _ B2 o2 g g2=>exact .mp _ B2 o2 (a0X.2 ⟨hm _ _ h,g⟩) g2
 | nilFunc=>intro u' k;cases k;exact .nilFunc
 | nilIface=>intro u' k;cases k;exact .nilIface
 | func f a b a' b' h1 _ h3 _ ih1 ih2 =>
  intro u' k
  cases k with
  | func _ _ _ a2 b2 g1 g2 g3 g4=>exact .func _ _ _ _ _ g1 (fun i hi=>ih1 i hi (g2 i hi)) g3 (fun i hi=>ih2 i hi (g4 i hi))
 | iface ty v v' _ ih=>intro u' k;cases k with | iface _ _ v2 g=>exact .iface _ _ _ (ih g)
 | agg a a' h1 _ ih=>intro u' k;cases k with | agg _ a2 g1 g2=>exact .agg _ _ g1 (fun i hi=>ih i hi (g2 i hi))
 | tuple a a' h1 _ ih=>intro u' k;cases k with | tuple _ a2 g1 g2=>exact .tuple _ _ g1 (fun i hi=>ih i hi (g2 i hi))
theorem CR.cut {m:Nat} (hm:∀ b y,φ b=some y->b < m) {l u u':List Value} (h:CR X φ S l u) (k:CR X ψ S' l u'):CR X (cut ψ m) S' l u' :=
 ⟨k.1,fun i hi=>(h.2 i hi).cut hm (k.2 i hi)⟩
end
section
structure Ctx (X:Cx) (call:Nat->FuncId->List Value->a0c->Res (Value × a0c)) (fl:Nat) (ops:Array Oper) (l:List a0v) (bef:List Nat) (pairs:List (Nat × Nat)) (R:Run):Prop where
 callOk:b0x X call
 keepOk:i0t call
 tab:w0E X ops l bef pairs
 run:∀ (k:Nat) (s:a0v),l[k]? = some s->j0H call fl bef R k s
 apart:c0u ((List.range' 0 l.length).map R.tc) pairs=true
 p0:R.Pn 0=none
 low:fl<=(R.Hh 0).size
variable {X:Cx} {call:Nat->FuncId->List Value->a0c->Res (Value × a0c)} {fl:Nat} {ops:Array Oper} {l:List a0v} {bef:List Nat} {pairs:List (Nat × Nat)} {R:Run} (C:Ctx X call fl ops l bef pairs R)
include C
theorem Ctx.sAt {k:Nat} (hk:k < l.length):∃ s,l[k]? = some s:=⟨l[k],M1X hk⟩
omit C in
theorem g0J {t:a0U} {H H1:a0c} {so:SOp} {v:Value} (h:b0i call fl t H so=.ok (v,H1)) :
  opA fl t H so=.val v H1 ∨ ∃ f args lone,opA fl t H so=.call f args lone/\call (if lone=true then fl else max fl H.size) f args H=.ok (v,H1):=by
 unfold b0i at h
 split at h
 ·cases h
 ·cases h
 ·rename_i v' H' hv;simp only [Res.ok.injEq,N1V] at h;obtain ⟨rfl,rfl⟩:=h;exact .inl hv
 ·rename_i f args lone hc;exact .inr ⟨f,args,lone,hc,h⟩
theorem Ctx.keepStep {k:Nat} (hk:k < l.length) (hlow:fl<=(R.Hh k).size):h0E fl (R.Hh k) (R.Hh (k + 1)):=by
 obtain ⟨s,hs⟩:=C.sAt hk
 rcases C.run k s hs with h | h | h | h
 ·rw [h.2.2.2.1];exact h0E.refl
 ·rw [h.2.2.2.2.2.1];exact h0E.refl
 ·exact k0M C.keepOk hlow h.2.2.2.1
 ·rw [h.2.2.2.2.2.2.2.1];exact h0E.refl
theorem Ctx.keep0:∀ {k:Nat},k<=l.length->fl<=(R.Hh k).size/\h0E fl (R.Hh 0) (R.Hh k)
 | 0,_=>⟨C.low,h0E.refl⟩
 | k + 1,hk=>by
  obtain ⟨h1,h2⟩:=Ctx.keep0 (k:=k) (by omega)
  have h3:=C.keepStep (by omega:k < l.length) h1
  exact ⟨N1n h1 h3.size,h2.trans h3 (M1U _)⟩
theorem Ctx.keepIJ {i:Nat}:∀ {j:Nat},i<=j->j<=l.length->h0E fl (R.Hh i) (R.Hh j)
 | 0, hij, _ => by obtain rfl : i = 0 := by omega
                   exact h0E.refl
 | j + 1,hij,hj=>by
  by_cases h:i=j + 1
  ·subst h;exact h0E.refl
  ·exact (Ctx.keepIJ (j:=j) (by omega) (by omega)).trans (C.keepStep (by omega) (C.keep0 (by omega)).1) (M1U _)
theorem Ctx.szmono {i j:Nat} (hij:i<=j) (hj:j<=l.length):(R.Hh i).size<=(R.Hh j).size:=(C.keepIJ hij hj).size
theorem Ctx.pan:∀ {k:Nat},k<=l.length->∀ p v,R.Pn k=some (p,v)->p < k/\R.st p=3
 | 0,_,p,v,h=>by rw [C.p0] at h;cases h
 | k + 1,hk,p,v,h=>by
  obtain ⟨s,hs⟩:=C.sAt (by omega:k < l.length)
  have ih:=Ctx.pan (k:=k) (by omega)
  rcases C.run k s hs with g | g | g | g
  ·rw [g.2.2.2.2.1] at h;have:=ih p v h;exact ⟨by omega,this.2⟩
  ·rw [g.2.2.2.2.2.2.1] at h;have:=ih p v h;exact ⟨by omega,this.2⟩
  ·rw [g.2.2.2.2.2.1] at h;have:=ih p v h;exact ⟨by omega,this.2⟩
  ·rw [g.2.2.2.2.2.1] at h;cases h;exact ⟨by omega,g.1⟩
theorem Ctx.change {k:Nat} {s:a0v} (hs:l[k]? = some s) {b:Nat} (hb:b < (R.Hh k).size) (hne:(R.Hh (k + 1)).bk b ≠ (R.Hh k).bk b) :
  R.st k=2/\b ∈ (R.tc k).2/\(way s.op=2 ∨ (way s.op=3/\a0W s.op=true)):=by
 have hk:k < l.length:=(N1b.1 hs).1
 rcases C.run k s hs with h | h | h | h
 ·rw [h.2.2.2.1] at hne;exact N1i rfl hne
 ·rw [h.2.2.2.2.2.1] at hne;exact N1i rfl hne
 ·refine ⟨h.1,?_⟩
  rcases g0J h.2.2.2.1 with hv | ⟨f,args,lone,hc,hcall⟩
  ·have:=(p0q hv).changed hb hne
   rw [h.2.2.2.2.2.2,o0G hv]
   exact ⟨this,.inl (o0F this)⟩
  ·obtain ⟨h1,h2⟩:=d0P hc
   cases lone with
   | true =>
    rw [h.2.2.2.2.2.2,u0K hc]
    exact ⟨y0r hb hne,.inr ⟨h1,h2⟩⟩
   | false =>
    have hlow:=(C.keep0 (by omega:k<=l.length)).1
    have:=(C.keepOk _ _ _ _ _ _ hcall (by simp;omega)).low b (by simp;omega)
    exact N1i this hne
 ·rw [h.2.2.2.2.2.2.2.1] at hne;exact N1i rfl hne
theorem Ctx.grow {k:Nat} {s:a0v} (hs:l[k]? = some s) (hne:(R.Hh k).size ≠ (R.Hh (k + 1)).size):way s.op ≠ 0/\way s.op ≠ 1:=by
 rcases C.run k s hs with h | h | h | h
 ·rw [h.2.2.2.1] at hne;exact N1i rfl hne
 ·rw [h.2.2.2.2.2.1] at hne;exact N1i rfl hne
 ·refine ⟨fun hw=>?_,fun hw=>?_⟩
  ·rcases g0J h.2.2.2.1 with hv | ⟨f,args,lone,hc,hcall⟩
   ·rw [F0u hw hv] at hne;exact N1i rfl hne
   ·rw [(d0P hc).1] at hw;cases hw
  ·rcases g0J h.2.2.2.1 with hv | ⟨f,args,lone,hc,hcall⟩
   ·rw [F0v hw hv] at hne;exact N1i rfl hne
   ·rw [(d0P hc).1] at hw;cases hw
 ·rw [h.2.2.2.2.2.2.2.1] at hne;exact N1i rfl hne
omit C in
theorem s0Z (t:a0U) (d:Option Nat) (v:Value) (x:Nat):get (put t d v) x=if d=some x/\x < t.length then v else get t x:=by
 cases d with
 | none=>simp [put]
 | some d =>
  simp only [put,get,M1R,N1C,M1Q]
  by_cases h:d=x
  ·subst h
   by_cases hl:d < t.length
   ·simp [hl]
   ·simp [hl]
  ·simp [h]
theorem Ctx.slot {k:Nat} {s:a0v} (hs:l[k]? = some s) {x:Nat} (hne:get (R.T (k + 1)) x ≠ get (R.T k) x):(R.st k=1 ∨ R.st k=2)/\s.dst=some x:=by
 rcases C.run k s hs with h | h | h | h
 ·rw [h.2.2.1] at hne;exact N1i rfl hne
 ·refine ⟨.inl h.1,?_⟩
  rw [h.2.2.2.2.1,s0Z] at hne
  split at hne
  ·rename_i h1;exact h1.1
  ·exact N1i rfl hne
 ·refine ⟨.inr h.1,?_⟩
  rw [h.2.2.2.2.1,s0Z] at hne
  split at hne
  ·rename_i h1;exact h1.1
  ·exact N1i rfl hne
 ·rw [h.2.2.2.2.2.2.1] at hne;exact N1i rfl hne
theorem Ctx.tlen:∀ {k:Nat},k<=l.length->(R.T k).length=(R.T 0).length
 | 0,_=>rfl
 | k + 1,hk=>by
  obtain ⟨s,hs⟩:=C.sAt (by omega:k < l.length)
  have ih:=Ctx.tlen (k:=k) (by omega)
  have hp:∀ (d:Option Nat) (v:Value),(put (R.T k) d v).length=(R.T k).length:=fun d v=>by cases d <;> simp [put]
  rcases C.run k s hs with h | h | h | h
  ·rw [h.2.2.1];exact ih
  ·rw [h.2.2.2.2.1,hp];exact ih
  ·rw [h.2.2.2.2.1,hp];exact ih
  ·rw [h.2.2.2.2.2.2.1];exact ih
theorem Ctx.disj {i j:Nat} (hp:(i,j) ∈ pairs ∨ (j,i) ∈ pairs) (hi:i < l.length) (hj:j < l.length) {b:Nat} (hb:b ∈ (R.tc i).2):b ∉ (R.tc j).1/\b ∉ (R.tc j).2:=by
 have ha:=C.apart
 unfold c0u at ha
 rw [N1H] at ha
 have hlog:∀ k,k < l.length->((List.range' 0 l.length).map R.tc).getD k ([],[])=R.tc k:=fun k hk=>by
  simp only [M1R,N1Q,List.getElem?_range' hk,N1M,N1D]
  congr 1;omega
 have nm:∀ {u v:List Nat},t0e u v=false->∀ {b:Nat},b ∈ u->b ∉ v:=fun {u v} h {b} hu hv=>by
  unfold t0e at h
  rw [List.any_eq_false] at h
  exact h b hu (by simpa using hv)
 rcases hp with hp | hp
 ·have h:=ha _ hp
  simp only [hlog i hi,hlog j hj,M1W,O1s] at h
  exact ⟨nm h.1.1 hb,nm h.1.2 hb⟩
 ·have h:=ha _ hp
  simp only [hlog i hi,hlog j hj,M1W,O1s] at h
  exact ⟨fun hr=>nm h.2 hr hb,fun hw=>nm h.1.2 hw hb⟩
theorem Ctx.clash {k j:Nat} {sk sj:a0v} (hk:l[k]? = some sk) (hj:l[j]? = some sj) (hkj:k ≠ j) (h1:a0T bef k j=false) (h2:a0T bef j k=false) {b:Nat} (hb:b < (R.Hh k).size)
  (hne:(R.Hh (k + 1)).bk b ≠ (R.Hh k).bk b) (hw:way sj.op ≠ 0):(way sk.op=2 ∨ (way sk.op=3/\way sj.op=1))/\b ∈ (R.tc k).2/\way sj.op ≠ 3/\b ∉ (R.tc j).1/\b ∉ (R.tc j).2:=by
 have hkl:k < l.length:=(N1b.1 hk).1
 have hjl:j < l.length:=(N1b.1 hj).1
 obtain ⟨ok,hok,hck⟩:=C.tab.op k sk hk
 obtain ⟨oj,hoj,hcj⟩:=C.tab.op j sj hj
 have hlen:=C.tab.len
 have h2':=C.tab.two hkj (by omega) (by omega) h1 h2 hok hoj hk hj
 have hmem:=(C.change hk hb hne).2.1
 rcases (C.change hk hb hne).2.2 with h3 | ⟨h3,h4⟩
 ·have hp:=h2'.2.2.2.2.1 ⟨h3,hw⟩
  have hd:=C.disj hp hkl hjl hmem
  exact ⟨.inl h3,hmem,fun e=>h2'.2.2.2.1 ⟨h3,e⟩,hd.1,hd.2⟩
 ·have hl:=(q0J (c0T hck).1).2 h4
  have h6:(ops.toList.map fun o=>g0K o.op).getD j 0=g0K oj.op:=by
   simp only [M1R,N1Q,N1S,hoj,N1M,N1D]
  have h7:=(q0J (c0T hcj).1).1 hw
  have h1way:g0K oj.op=1:=by
   unfold H0q at hl
   rw [N1L,M1W] at hl
   rcases hl with hl | ⟨_,hl⟩
   ·exfalso
    unfold S0z at hl
    rw [N1H] at hl
    have h5:=hl j (N1N.2 (by simp;omega))
    rw [h6,h1,h2] at h5
    simp only [N1L,beq_iff_eq,N1g,or_false] at h5
    rcases h5 with h5 | h5
    ·exact hkj h5.symm
    ·exact h7 h5
   ·unfold z0t at hl
    rw [N1H] at hl
    have h5:=hl j (N1N.2 (by simp;omega))
    rw [h6,h1,h2] at h5
    simp only [N1L,beq_iff_eq,N1g,or_false] at h5
    rcases h5 with (h5 | h5) | h5
    ·exact N1i h5.symm hkj
    ·exact N1i h5 h7
    ·exact h5
  have hwj:way sj.op=1:=by
   rcases G0b (c0T hcj).1 h1way with h | h
   ·exact N1i h hw
   ·exact h
  have hp:=h2'.2.2.2.2.2 ⟨h4,hwj⟩
  have hd:=C.disj hp hkl hjl hmem
  exact ⟨.inr ⟨h3,hwj⟩,hmem,by omega,hd.1,hd.2⟩
end
section
structure L1M (X:Cx) (fl:Nat) (φ0:Inj) (H0:a0c) (w0:World) (φ:Inj) (w:World):Prop where
 ext:∀ b x,φ0 b=some x->φ b=some x
 shp:∀ B x,(shq w0) B=some x->(shq w) B=some x
 wsz:w0.heap.size<=w.heap.size
 os:w.os=w0.os
 tape:w.tape=w0.tape
 out:w.output=w0.output
 fresh:∀ b y,φ b=some y->φ0 b=none->H0.size<=b
 newB:∀ b B o,φ b=some (B,o)->φ0 b=none->w0.heap.size<=B ∨ ∃ b0 o0 e cs,φ0 b0=some (B,o0)/\fl<=b0/\H0.bk b0=.row false e cs
 frame:∀ B,B < w0.heap.size->(∀ b o e cs,φ0 b=some (B,o)->fl<=b->H0.bk b ≠ .row false e cs)->w.heap[B]? = w0.heap[B]?
structure Inv (X:Cx) (fl:Nat) (ops:Array Oper) (l:List a0v) (bef:List Nat) (R:Run) (φ0:Inj) (w0:World) (Sd:Nat->Prop) (φ:Inj) (κ θ:Nat->Nat) (a:Act) (w:World):Prop where
 done:∀ k,k < l.length->Sd k->R.st k=1 ∨ R.st k=2
 down:∀ j,j < l.length->Sd j->∀ i,a0T bef i j=true->Sd i
 tlen:a.tmps.size=(R.T 0).length
 defers:a.defers=R.ds
 base:X.base<=w.heap.size
 T:∀ x,x < (R.T 0).length->θ x<=l.length/\(θ x=0 ∨ ∃ k s,θ x=k + 1/\Sd k/\l[k]? = some s/\s.dst=some x)/\(∀ k s,θ x<=k->Sd k->l[k]? = some s->s.dst ≠ some x) /\
  VR X (cut φ (R.Hh (θ x)).size) (shq w) (get (R.T (θ x)) x) (a.tmps.getD x undef)
 D:∀ b y,φ b=some y->b < (R.Hh 0).size ∨ ∃ k,k < l.length/\Sd k/\(R.Hh k).size<=b/\b < (R.Hh (k + 1)).size
 Rr:∀ b B o,φ b=some (B,o)->κ b<=l.length/\b < (R.Hh (κ b)).size/\(κ b=0 ∨ ∃ k,κ b=k + 1/\k < l.length/\Sd k/\((R.Hh k).size<=b ∨ (R.Hh (k + 1)).bk b ≠ (R.Hh k).bk b)) /\
  (∀ k,κ b<=k->k < l.length->Sd k->(R.Hh (k + 1)).bk b=(R.Hh k).bk b) /\
  ∀ ro e cs,(R.Hh (κ b)).bk b=.row ro e cs->g0U X (cut φ (R.Hh (κ b)).size) w B o ro e cs
 P:∀ b b' B o o' e cs,φ b=some (B,o)->φ b' = some (B,o')->b ≠ b'->(R.Hh (κ b)).bk b=.row false e cs->(R.Hh (κ b')).bk b' = .dead
 W:∀ k s,l[k]? = some s->Sd k->R.st k=2->way s.op=2->∀ b,b ∈ (R.tc k).2->φ b ≠ none
 glob:L1M X fl φ0 (R.Hh 0) w0 φ w
variable {X:Cx} {call:Nat->FuncId->List Value->a0c->Res (Value × a0c)} {fl:Nat} {ops:Array Oper} {l:List a0v} {bef:List Nat} {pairs:List (Nat × Nat)} {R:Run} (C:Ctx X call fl ops l bef pairs R)
variable {φ0 φ:Inj} {w0 w w':World} {Sd:Nat->Prop} {κ θ:Nat->Nat} {a:Act} (I:Inv X fl ops l bef R φ0 w0 Sd φ κ θ a w)
variable {j:Nat} {s:a0v} {o:Oper} (hs:l[j]? = some s) (ho:ops[j]? = some o) (hnj:¬ Sd j) (hpre:∀ i,a0T bef i j=true->Sd i)
include C I hs hnj hpre
theorem Inv.unord {k:Nat} (hk:k < l.length) (hkj:k ≠ j) (h:(Sd k/\j < k) ∨ (¬ Sd k/\k < j)):a0T bef k j=false/\a0T bef j k=false:=by
 have hj:j < l.length:=(N1b.1 hs).1
 have hlen:=C.tab.len
 rcases h with ⟨h1,h2⟩ | ⟨h1,h2⟩
 ·refine ⟨?_,?_⟩
  ·cases h3:a0T bef k j with
   | false=>rfl
   | true=>have:=C.tab.lt j k (by omega) h3;omega
  ·cases h3:a0T bef j k with
   | false=>rfl
   | true=>exact N1i (I.down k hk h1 j h3) hnj
 ·refine ⟨?_,?_⟩
  ·cases h3:a0T bef k j with
   | false=>rfl
   | true=>exact N1i (hpre k h3) h1
  ·cases h3:a0T bef j k with
   | false=>rfl
   | true=>have:=C.tab.lt k j (by omega) h3;omega
include ho in
theorem Inv.slot {x:Nat} (hx:x < (R.T 0).length) (hu:x ∈ i0U o s):VR X (cut φ (R.Hh j).size) (shq w) (get (R.T j) x) (a.tmps.getD x undef):=by
 have hj:j < l.length:=(N1b.1 hs).1
 have hlen:=C.tab.len
 obtain ⟨h1,h2,h3,h4⟩:=I.T x hx
 have hle:θ x<=j:=by
  rcases h2 with h2 | ⟨k,sk,h5,h6,h7,h8⟩
  ·omega
  ·by_cases hkj:k < j
   ·omega
   ·exfalso
    have hk:k < l.length:=(N1b.1 h7).1
    have hne:k ≠ j:=fun e=>hnj (e ▸ h6)
    obtain ⟨u1,u2⟩:=Inv.unord C I hs hnj hpre hk hne (.inl ⟨h6,by omega⟩)
    obtain ⟨ok,hok,_⟩:=C.tab.op k sk h7
    exact (((C.tab.two hne (by omega) (by omega) u1 u2 hok ho h7 hs).1 x h8).1) hu
 have heq:∀ m,θ x<=m->m<=j->get (R.T m) x=get (R.T (θ x)) x:=by
  intro m hm
  induction m with
  | zero=>intro _;congr 2;omega
  | succ m ih =>
   intro hmj
   by_cases hc:θ x=m + 1
   ·rw [hc]
   ·rw [<- ih (by omega) (by omega)]
    apply N1F
    intro hne
    obtain ⟨sm,hsm⟩:=C.sAt (by omega:m < l.length)
    obtain ⟨_,hd⟩:=C.slot hsm hne
    by_cases hS:Sd m
    ·exact h3 m sm (by omega) hS hsm hd
    ·obtain ⟨u1,u2⟩:=Inv.unord C I hs hnj hpre (by omega:m < l.length) (by omega) (.inr ⟨hS,by omega⟩)
     obtain ⟨om,hom,_⟩:=C.tab.op m sm hsm
     exact (((C.tab.two (by omega) (by omega) (by omega) u1 u2 hom ho hsm hs).1 x hd).1) hu
 rw [heq j hle (M1U _)]
 exact h4.mo (i0y (C.szmono hle (by omega)) (fun _ _ _ h=>h)) (fun _ _ h=>h)
def x0O (R:Run) (κ:Nat->Nat) (j b:Nat):Prop:=κ b<=j/\(R.Hh j).bk b=(R.Hh (κ b)).bk b
theorem Inv.notNew {b:Nat} {y:Nat × Nat} (hb:φ b=some y):b < (R.Hh j).size ∨ (R.Hh (j + 1)).size<=b:=by
 have hj:j < l.length:=(N1b.1 hs).1
 rcases I.D b y hb with h | ⟨k,hk,hS,h1,h2⟩
 ·exact .inl (N1k h (C.szmono (N1K _) (by omega)))
 ·by_cases hkj:k < j
  ·exact .inl (N1k h2 (C.szmono (by omega) (by omega)))
  ·have hne:k ≠ j:=fun e=>hnj (e ▸ hS)
   exact .inr (N1n (C.szmono (by omega) (by omega)) h1)
theorem Inv.good {b:Nat} {y:Nat × Nat} (hb:φ b=some y) (hlt:b < (R.Hh j).size) (hw:way s.op ≠ 0) (hfp:way s.op=3 ∨ b ∈ (R.tc j).1 ∨ b ∈ (R.tc j).2):x0O R κ j b:=by
 have hj:j < l.length:=(N1b.1 hs).1
 obtain ⟨B,o1⟩:=y
 obtain ⟨h1,h2,h3,h4,_⟩:=I.Rr b B o1 hb
 have no:∀ {k:Nat} {sk:a0v},l[k]? = some sk->k ≠ j->a0T bef k j=false->a0T bef j k=false->b < (R.Hh k).size->(R.Hh (k + 1)).bk b ≠ (R.Hh k).bk b->False:=by
  intro k sk hsk hne u1 u2 hbk hch
  obtain ⟨c1,c2,c3,c4,c5⟩:=C.clash hsk hs hne u1 u2 hbk hch hw
  rcases hfp with h | h | h
  ·exact c3 h
  ·exact c4 h
  ·exact c5 h
 have hle:κ b<=j:=by
  rcases h3 with h3 | ⟨k,h5,hk,h6,h7⟩
  ·omega
  ·by_cases hkj:k < j
   ·omega
   ·exfalso
    have hne:k ≠ j:=fun e=>hnj (e ▸ h6)
    obtain ⟨u1,u2⟩:=Inv.unord C I hs hnj hpre hk hne (.inl ⟨h6,by omega⟩)
    have hbk:b < (R.Hh k).size:=N1k hlt (C.szmono (by omega) (by omega))
    obtain ⟨sk,hsk⟩:=C.sAt hk
    rcases h7 with h7 | h7
    ·omega
    ·exact no hsk hne u1 u2 hbk h7
 refine ⟨hle,?_⟩
 have heq:∀ m,κ b<=m->m<=j->(R.Hh m).bk b=(R.Hh (κ b)).bk b:=by
  intro m hm
  induction m with
  | zero=>intro _;congr 2;omega
  | succ m ih =>
   intro hmj
   by_cases hc:κ b=m + 1
   ·rw [hc]
   ·rw [<- ih (by omega) (by omega)]
    apply N1F
    intro hch
    obtain ⟨sm,hsm⟩:=C.sAt (by omega:m < l.length)
    by_cases hS:Sd m
    ·exact hch (h4 m (by omega) (by omega) hS)
    ·obtain ⟨u1,u2⟩:=Inv.unord C I hs hnj hpre (by omega:m < l.length) (by omega) (.inr ⟨hS,by omega⟩)
     exact no hsm (by omega) u1 u2 (N1k h2 (C.szmono (by omega) (by omega))) hch
 exact heq j hle (M1U _)
open Classical in
noncomputable def o0j (R:Run) (φ:Inj) (κ:Nat->Nat) (j:Nat):a0c :=
 ((List.range (R.Hh j).size).map fun b=>if φ b ≠ none/\¬ x0O R κ j b then Blk.dead else (R.Hh j).bk b).toArray
omit C I hs hnj hpre in
theorem d0O (R:Run) (φ:Inj) (κ:Nat->Nat) (j:Nat):(o0j R φ κ j).size=(R.Hh j).size:=by simp [o0j]
omit C I hs hnj hpre in
open Classical in
theorem j0U (R:Run) (φ:Inj) (κ:Nat->Nat) (j b:Nat):(o0j R φ κ j).bk b=if φ b ≠ none/\¬ x0O R κ j b then Blk.dead else (R.Hh j).bk b:=by
 by_cases hb:b < (R.Hh j).size
 ·simp only [o0j,a0c.bk,M1Y,List.getElem?_toArray,N1Q,O1j hb,N1M,N1D]
 ·have h1:(o0j R φ κ j).bk b=.dead:=i0W (by rw [d0O];omega)
  have h2:(R.Hh j).bk b=.dead:=i0W (by omega)
  rw [h1,h2];split <;> rfl
omit C I hs hnj hpre in
theorem e0E {b:Nat} {y:Nat × Nat} {ro:Bool} {e:TypeId} {cs:List Value} (hb:φ b=some y) (h:(o0j R φ κ j).bk b=.row ro e cs):x0O R κ j b/\(R.Hh j).bk b=.row ro e cs:=by
 rw [j0U] at h
 split at h
 ·cases h
 ·rename_i hc
  refine ⟨N1F fun hg=>hc ⟨by rw [hb];simp,hg⟩,h⟩
theorem Inv.rel:Rel X (cut φ (R.Hh j).size) (o0j R φ κ j) w:=by
 have hj:j < l.length:=(N1b.1 hs).1
 refine { bs:=I.base,lt:=fun b x h=>by rw [d0O];exact (a0X.1 h).1,row:=?_,sep:=?_ }
 ·intro b B o1 ro e cs hb hrow
  obtain ⟨h1,h2⟩:=a0X.1 hb
  obtain ⟨⟨g1,g2⟩,h3⟩:=e0E h2 hrow
  exact ((I.Rr b B o1 h2).2.2.2.2 ro e cs (by rw [<- g2];exact h3)).mo (i0y (C.szmono g1 (by omega)) (fun _ _ _ h=>h)) (fun _ _ h=>h) rfl
 ·intro b b' B o1 o2 e cs hb hb' hne hrow
  obtain ⟨h1,h2⟩:=a0X.1 hb
  obtain ⟨h1',h2'⟩:=a0X.1 hb'
  obtain ⟨⟨g1,g2⟩,h3⟩:=e0E h2 hrow
  have hd:=I.P b b' B o1 o2 e cs h2 h2' hne (by rw [<- g2];exact h3)
  rw [j0U]
  split
  ·rfl
  ·rename_i hc
   have hg:x0O R κ j b':=N1F fun hg=>hc ⟨by rw [h2'];simp,hg⟩
   rw [hg.2];exact hd
end
section
variable {X:Cx} {call:Nat->FuncId->List Value->a0c->Res (Value × a0c)} {fl:Nat} {ops:Array Oper} {l:List a0v} {bef:List Nat} {pairs:List (Nat × Nat)} {R:Run} (C:Ctx X call fl ops l bef pairs R)
variable {φ0 φ:Inj} {w0 w w':World} {Sd:Nat->Prop} {κ θ:Nat->Nat} {a:Act} (I:Inv X fl ops l bef R φ0 w0 Sd φ κ θ a w)
variable {j:Nat} {s:a0v} {o:Oper} (hs:l[j]? = some s) (ho:ops[j]? = some o) (hnj:¬ Sd j) (hpre:∀ i,a0T bef i j=true->Sd i)
include C I hs hnj hpre
open Classical in
theorem Inv.after {φ1:Inj} {G1:a0c} {v':Value} (hst:R.st j=1 ∨ R.st j=2) (hT':R.T (j + 1)=put (R.T j) s.dst (R.val j)) (hpar:Par (R.Hh j) (R.Hh (j + 1)) (o0j R φ κ j) G1)
  (hv:VR X φ1 (shq w') (R.val j) v') (hS:b0R X fl (cut φ (R.Hh j).size) (o0j R φ κ j) w φ1 G1 w') (hW:way s.op=2->∀ b,b ∈ (R.tc j).2->φ b ≠ none) (hφ0:∀ b y,φ0 b=some y->b < (R.Hh 0).size) :
  ∃ φ' κ' θ',Inv X fl ops l bef R φ0 w0 (fun k=>Sd k ∨ k=j) φ' κ' θ' (a.put s.dst v') w':=by
 have hj:j < l.length:=(N1b.1 hs).1
 have hlow:fl<=(R.Hh j).size:=(C.keep0 (by omega:j<=l.length)).1
 have hks:=C.keepStep hj hlow
 have hsz:(R.Hh j).size<=(R.Hh (j + 1)).size:=hks.size
 have hG1:G1.size=(R.Hh (j + 1)).size:=hpar.size
 have hmaskRel:=Inv.rel C I hs hnj hpre
 let φ':Inj:=fun b=>if (R.Hh j).size<=b/\b < (R.Hh (j + 1)).size then φ1 b else φ b
 let ch:Nat->Prop:=fun b=>((R.Hh j).size<=b/\b < (R.Hh (j + 1)).size) ∨ (b < (R.Hh j).size/\(R.Hh (j + 1)).bk b ≠ (R.Hh j).bk b)
 let κ':Nat->Nat:=fun b=>if ch b then j + 1 else κ b
 let θ':Nat->Nat:=fun x=>if s.dst=some x then j + 1 else θ x
 have hφ':∀ b,φ' b=if (R.Hh j).size<=b/\b < (R.Hh (j + 1)).size then φ1 b else φ b:=fun _=>rfl
 have hκ1:∀ b,ch b->κ' b=j + 1:=fun b h=>M1Z h
 have hκ2:∀ b,¬ ch b->κ' b=κ b:=fun b h=>M1V h
 have fA:∀ b y,φ b=some y->φ' b=some y:=fun b y hb=>by
  rw [hφ',M1V];exact hb
  have:=Inv.notNew C I hs hnj hpre hb;omega
 have fOld:∀ b y,b < (R.Hh j).size->φ1 b=some y->φ b=some y:=fun b y hb h=>by
  cases hc:cut φ (R.Hh j).size b with
  | none=>have:=hS.fresh b y h hc;rw [d0O] at this;omega
  | some z =>
   have:=hS.ext b z hc
   rw [h] at this;cases this
   exact (a0X.1 hc).2
 have fB:∀ b y,φ1 b=some y->b < (R.Hh (j + 1)).size/\φ' b=some y:=fun b y h=>by
  have hlt:=hS.rel.lt b y h
  rw [hG1] at hlt
  refine ⟨hlt,?_⟩
  rw [hφ']
  by_cases hb:(R.Hh j).size<=b
  ·rw [M1Z ⟨hb,hlt⟩];exact h
  ·rw [M1V (by omega)];exact fOld b y (by omega) h
 have fC:∀ b y,φ' b=some y->b < (R.Hh (j + 1)).size->φ1 b=some y:=fun b y h hlt=>by
  rw [hφ'] at h
  split at h
  ·exact h
  ·rename_i hc
   exact hS.ext b y (a0X.2 ⟨by omega,h⟩)
 have fOut:∀ b y,φ' b=some y->¬ ((R.Hh j).size<=b/\b < (R.Hh (j + 1)).size)->φ b=some y:=fun b y h hc=>by rw [hφ',M1V hc] at h;exact h
 have cutB:∀ b y,φ1 b=some y->cut φ' (R.Hh (j + 1)).size b=some y:=fun b y h=>a0X.2 (fB b y h)
 have dead_ge:∀ {k b:Nat},(R.Hh k).size<=b->(R.Hh k).bk b=.dead:=fun h=>i0W h
 -- a later operation that has run leaves alone what this one has turned
 have later:∀ b,ch b->(φ' b ≠ none)->∀ k,j + 1<=k->k < l.length->(Sd k ∨ k=j)->(R.Hh (k + 1)).bk b=(R.Hh k).bk b:=by
  intro b hch hdom k hjk hk hSk
  have hSk : Sd k := by rcases hSk with h | h; · exact h
                        ·omega
  apply N1F
  intro hne
  obtain ⟨sk,hsk⟩:=C.sAt hk
  have hbk:b < (R.Hh k).size:=by
   have h1:=C.szmono (show j + 1<=k by omega) (by omega)
   rcases hch with h | h <;> omega
  obtain ⟨u1,u2⟩:=Inv.unord C I hs hnj hpre hk (by omega) (.inl ⟨hSk,by omega⟩)
  have hwj:way s.op ≠ 0/\way s.op ≠ 1:=by
   rcases hch with h | h
   ·exact C.grow hs (by omega)
   ·have h3:=(C.change hs h.1 h.2).2.2
    rcases h3 with h3 | ⟨h3,_⟩ <;> omega
  obtain ⟨c1,c2,c3,c4,c5⟩:=C.clash hsk hs (by omega) u1 u2 hbk hne hwj.1
  have c1:way sk.op=2:=by
   rcases c1 with c1 | c1
   ·exact c1
   ·exact N1i c1.2 hwj.2
  rcases hch with h | h
  ·-- new: nobody that has run could know it
   obtain ⟨hch2,_⟩:=C.change hsk hbk hne
   have hd:=I.W k sk hsk hSk hch2 c1 b c2
   cases hφb:φ b with
   | none=>exact hd hφb
   | some y=>have:=Inv.notNew C I hs hnj hpre hφb;omega
  ·exact c5 (C.change hs h.1 h.2).2.1
 -- an untouched block's concrete row, if it is not in the state that ran
 have stale:∀ b B o1 ro e cs,φ b=some (B,o1)->(R.Hh (κ b)).bk b=.row ro e cs->((R.Hh (j + 1)).size<=b ∨ ¬ x0O R κ j b)->b < (R.Hh j).size ∨ (R.Hh (j + 1)).size<=b->w'.heap[B]? = w.heap[B]?:=by
  intro b B o1 ro e cs hb hrow hout hrange
  have hrk:=(I.Rr b B o1 hb).2.2.2.2 ro e cs hrow
  refine hS.frame B hrk.lt ?_
  intro b1 o2 e1 cs1 hb1 hfl1 hrow1
  obtain ⟨g1,g2⟩:=a0X.1 hb1
  obtain ⟨g3,g4⟩:=e0E g2 hrow1
  have hne:b1 ≠ b:=by
   intro e;subst e
   rcases hout with h | h
   ·omega
   ·exact h g3
  have:=I.P b1 b B o2 o1 e1 cs1 g2 hb hne (by rw [<- g3.2];exact g4)
  rw [this] at hrow;cases hrow
 -- the blocks of the state that ran
 have inRow:∀ b,b < (R.Hh (j + 1)).size->(ch b ∨ x0O R κ j b)->φ' b ≠ none->G1.bk b=(R.Hh (κ' b)).bk b:=by
  intro b hlt hin hdom
  by_cases hc:ch b
  ·rw [hκ1 b hc]
   rcases hc with h | h
   ·exact hpar.more b h.1
   ·exact hpar.diff b h.1 h.2
  ·rw [hκ2 b hc]
   have hg : x0O R κ j b := by rcases hin with h | h; · exact N1i h hc
                               ·exact h
   have hltj:b < (R.Hh j).size:=by
    by_cases h:b < (R.Hh j).size
    ·exact h
    ·exact N1i (.inl ⟨by omega,hlt⟩) hc
   have hsame:(R.Hh (j + 1)).bk b=(R.Hh j).bk b:=N1F fun h=>hc (.inr ⟨hltj,h⟩)
   rw [hpar.same b hltj hsame,j0U,M1V (fun h=>h.2 hg),hg.2]
 refine ⟨φ',κ',θ',?_⟩
 refine
  { done := ?_
    down:=?_
    tlen:=?_
    defers:=?_
    base:=N1n I.base hS.wsz
    T:=?_
    D:=?_
    Rr:=?_
    P:=?_
    W:=?_
    glob:=?_ }
 ·intro k hk hSk
  rcases hSk with h | h
  ·exact I.done k hk h
  ·subst h;exact hst
 ·intro k hk hSk i hi
  rcases hSk with h | h
  ·exact .inl (I.down k hk h i hi)
  ·subst h;exact .inl (hpre i hi)
 ·cases s.dst <;> simp [Act.put,I.tlen]
 ·rw [c0l];exact I.defers
 ·-- slots
  intro x hx
  have hlen:=C.tab.len
  by_cases hd:s.dst=some x
  ·have hθ:θ' x=j + 1:=M1Z hd
   rw [hθ]
   refine ⟨by omega,.inr ⟨j,s,rfl,.inr rfl,hs,hd⟩,?_,?_⟩
   ·intro k sk hk hSk hsk hdk
    have hkl:k < l.length:=(N1b.1 hsk).1
    have hSk : Sd k := by rcases hSk with h | h; · exact h
                          ·omega
    obtain ⟨u1,u2⟩:=Inv.unord C I hs hnj hpre hkl (by omega) (.inl ⟨hSk,by omega⟩)
    obtain ⟨oj,hoj,_⟩:=C.tab.op j s hs
    obtain ⟨ok,hok,_⟩:=C.tab.op k sk hsk
    exact ((C.tab.two (by omega) (by omega) (by omega) u1 u2 hok hoj hsk hs).1 x hdk).2 hd
   ·rw [hT',s0Z,M1Z ⟨hd,by rw [C.tlen (by omega)];exact hx⟩]
    have e1:(a.put s.dst v').tmps.getD x undef=v':=by
     rw [hd]
     simp only [Act.put]
     rw [a0E]
     simp only [Array.toList_setIfInBounds,M1R,N1C]
     rw [M1Z (by simp)]
     have:x < a.tmps.size:=by have:=I.tlen;omega
     simp [this]
    rw [e1]
    exact hv.mo cutB (fun _ _ h=>h)
  ·have hθ:θ' x=θ x:=M1V hd
   rw [hθ]
   obtain ⟨h1,h2,h3,h4⟩:=I.T x hx
   refine ⟨h1,?_,?_,?_⟩
   ·rcases h2 with h2 | ⟨k,sk,h5,h6,h7⟩
    ·exact .inl h2
    ·exact .inr ⟨k,sk,h5,.inl h6,h7⟩
   ·intro k sk hk hSk hsk
    rcases hSk with h | h
    ·exact h3 k sk hk h hsk
    ·subst h;rw [hs] at hsk;cases hsk;exact hd
   ·have e1:(a.put s.dst v').tmps.getD x undef=a.tmps.getD x undef:=by
     cases hsd:s.dst with
     | none=>rfl
     | some d =>
      have hdx:d ≠ x:=fun e=>hd (by rw [hsd,e])
      simp only [Act.put]
      rw [a0E,a0E]
      simp only [Array.toList_setIfInBounds,M1R,N1C]
      rw [M1V hdx]
    rw [e1]
    exact h4.mo (i0y (M1U _) (fun b y _ h=>fA b y h)) hS.shp
 ·-- which blocks there are
  intro b y hb
  by_cases hc:(R.Hh j).size<=b/\b < (R.Hh (j + 1)).size
  ·exact .inr ⟨j,hj,.inr rfl,hc.1,hc.2⟩
  ·rcases I.D b y (fOut b y hb hc) with h | ⟨k,h1,h2,h3⟩
   ·exact .inl h
   ·exact .inr ⟨k,h1,.inl h2,h3⟩
 ·-- rows
  intro b B o1 hb
  by_cases hc:ch b
  ·rw [hκ1 b hc]
   have hlt:b < (R.Hh (j + 1)).size:=by rcases hc with h | h <;> omega
   refine ⟨by omega,hlt,.inr ⟨j,rfl,hj,.inr rfl,?_⟩,later b hc (by rw [hb];simp),?_⟩
   ·rcases hc with h | h
    ·exact .inl h.1
    ·exact .inr h.2
   ·intro ro e cs hrow
    have hG:=inRow b hlt (.inl hc) (by rw [hb];simp)
    rw [hκ1 b hc] at hG
    exact (hS.rel.row b B o1 ro e cs (fC b _ hb hlt) (by rw [hG];exact hrow)).mo cutB (fun _ _ h=>h) rfl
  ·rw [hκ2 b hc]
   have hnr:¬ ((R.Hh j).size<=b/\b < (R.Hh (j + 1)).size):=fun h=>hc (.inl h)
   have hb0:=fOut b _ hb hnr
   obtain ⟨h1,h2,h3,h4,h5⟩:=I.Rr b B o1 hb0
   refine ⟨h1,h2,?_,?_,?_⟩
   ·rcases h3 with h3 | ⟨k,h6,h7,h8,h9⟩
    ·exact .inl h3
    ·exact .inr ⟨k,h6,h7,.inl h8,h9⟩
   ·intro k hk hkl hSk
    rcases hSk with h | h
    ·exact h4 k hk hkl h
    ·subst h
     by_cases hbj:b < (R.Hh k).size
     ·exact N1F fun h=>hc (.inr ⟨hbj,h⟩)
     ·rw [dead_ge (by omega),dead_ge (by omega)]
   ·intro ro e cs hrow
    have hold:=h5 ro e cs hrow
    have hrange:b < (R.Hh j).size ∨ (R.Hh (j + 1)).size<=b:=by omega
    by_cases hg:b < (R.Hh j).size/\x0O R κ j b
    ·-- in the state that ran
     have hG:=inRow b (by omega) (.inr hg.2) (by rw [hb];simp)
     rw [hκ2 b hc] at hG
     rcases hS.rel.row b B o1 ro e cs (fC b _ hb (by omega)) (by rw [hG];exact hrow) with ⟨c,el,fz,k1,k2,k3,k4⟩ | ⟨m1,m2,es,clk,m3,m4⟩ <;>
      rcases hold with ⟨c0,el0,fz0,q1,q2,q3,q4⟩ | ⟨n1,n2,es0,clk0,n3,n4⟩
     ·have hcut:=CR.cut (m:=(R.Hh (κ b)).size) (fun b y h=>(a0X.1 h).1) q3 k3
      exact .inl ⟨c,el,fz,k1,k2,hcut.mo (i0y (M1U _) (fun b y _ h=>(fB b y h).2)) (fun _ _ h=>h),k4⟩
     ·have:=hS.shp B (none,0) (by simp [shq,n3]);simp [shq,k1] at this
     ·have:=hS.shp B (some el0,c0.size) (by simp [shq,q1]);simp [shq,m3] at this
     ·have hcut:=CR.cut (m:=(R.Hh (κ b)).size) (fun b y h=>(a0X.1 h).1) n4 m4
      exact .inr ⟨m1,m2,es,clk,m3,hcut.mo (i0y (M1U _) (fun b y _ h=>(fB b y h).2)) (fun _ _ h=>h)⟩
    ·have hout:(R.Hh (j + 1)).size<=b ∨ ¬ x0O R κ j b:=by
      by_cases h:(R.Hh (j + 1)).size<=b
      ·exact .inl h
      ·exact .inr fun hgd=>hg ⟨by omega,hgd⟩
     exact hold.mo (i0y (M1U _) (fun b y _ h=>fA b y h)) hS.shp (stale b B o1 ro e cs hb0 hrow hout hrange)
 ·-- apart
  intro b b' B o1 o2 e cs hb hb' hne hrow
  let inS:Nat->Prop:=fun b=>b < (R.Hh (j + 1)).size/\(ch b ∨ x0O R κ j b)
  have outF:∀ b y,φ' b=some y->¬ inS b->¬ ch b/\φ b=some y/\(b < (R.Hh j).size ∨ (R.Hh (j + 1)).size<=b)/\((R.Hh (j + 1)).size<=b ∨ ¬ x0O R κ j b):=by
   intro b y hb hno
   have h1:¬ ch b:=fun hc=>hno ⟨by rcases hc with h | h <;> omega,.inl hc⟩
   have hnr:¬ ((R.Hh j).size<=b/\b < (R.Hh (j + 1)).size):=fun h=>h1 (.inl h)
   refine ⟨h1,fOut b y hb hnr,by omega,?_⟩
   by_cases h:(R.Hh (j + 1)).size<=b
   ·exact .inl h
   ·exact .inr fun hg=>hno ⟨by omega,.inr hg⟩
  have deadOr:∀ (x:Blk),(∀ ro e cs,x ≠ .row ro e cs)->x=.dead:=fun x h=>by cases x with | dead=>rfl | row ro e cs=>exact N1i rfl (h ro e cs)
  by_cases i1:inS b
  ·have hG:=inRow b i1.1 i1.2 (by rw [hb];simp)
   have hb1:=fC b _ hb i1.1
   by_cases i2:inS b'
   ·have hG':=inRow b' i2.1 i2.2 (by rw [hb'];simp)
    rw [<- hG']
    exact hS.rel.sep b b' B o1 o2 e cs hb1 (fC b' _ hb' i2.1) hne (by rw [hG];exact hrow)
   ·obtain ⟨n1,n2,n3,n4⟩:=outF b' _ hb' i2
    rw [hκ2 b' n1]
    apply deadOr
    intro ro2 e2 cs2 hr2
    have hlt2:=((I.Rr b' B o2 n2).2.2.2.2 ro2 e2 cs2 hr2).lt
    -- who owned the block before
    have owner:∃ b0 o0 e0 cs0,cut φ (R.Hh j).size b0=some (B,o0)/\(o0j R φ κ j).bk b0=.row false e0 cs0:=by
     cases hc0:cut φ (R.Hh j).size b with
     | some z =>
      have:=hS.ext b z hc0
      rw [hb1] at this;cases this
      obtain ⟨cs0,h0⟩:=hS.kind b e cs (hmaskRel.lt b _ hc0) (by rw [hG];exact hrow)
      exact ⟨b,o1,e,cs0,hc0,h0⟩
     | none =>
      rcases hS.newB b B o1 hb1 hc0 with h | ⟨b0,o0,e0,cs0,h1,_,h2⟩
      ·omega
      ·exact ⟨b0,o0,e0,cs0,h1,h2⟩
    obtain ⟨b0,o0,e0,cs0,q1,q2⟩:=owner
    obtain ⟨q3,q4⟩:=a0X.1 q1
    obtain ⟨q5,q6⟩:=e0E q4 q2
    have hne0:b0 ≠ b':=by
     intro e;subst e
     rcases n4 with h | h
     ·omega
     ·exact h q5
    have:=I.P b0 b' B o0 o2 e0 cs0 q4 n2 hne0 (by rw [<- q5.2];exact q6)
    rw [this] at hr2;cases hr2
  ·obtain ⟨n1,n2,n3,n4⟩:=outF b _ hb i1
   rw [hκ2 b n1] at hrow
   by_cases i2:inS b'
   ·have hG':=inRow b' i2.1 i2.2 (by rw [hb'];simp)
    have hb1':=fC b' _ hb' i2.1
    have hltb:=((I.Rr b B o1 n2).2.2.2.2 false e cs hrow).lt
    cases hc0:cut φ (R.Hh j).size b' with
    | none =>
     rcases hS.newB b' B o2 hb1' hc0 with h | ⟨b0,o0,e0,cs0,h1,_,h2⟩
     ·omega
     ·exfalso
      obtain ⟨q3,q4⟩:=a0X.1 h1
      obtain ⟨q5,q6⟩:=e0E q4 h2
      have hne0:b0 ≠ b:=by
       intro e;subst e
       rcases n4 with h | h
       ·omega
       ·exact h q5
      have:=I.P b0 b B o0 o1 e0 cs0 q4 n2 hne0 (by rw [<- q5.2];exact q6)
      rw [this] at hrow;cases hrow
    | some z =>
     have hz:=hS.ext b' z hc0
     rw [hb1'] at hz;cases hz
     obtain ⟨q3,q4⟩:=a0X.1 hc0
     have hdead:=I.P b b' B o1 o2 e cs n2 q4 hne hrow
     by_cases hc:ch b'
     ·rw [hκ1 b' hc]
      rw [hκ1 b' hc] at hG'
      apply deadOr
      intro ro2 e2 cs2 hr2
      have hcd : (R.Hh (j + 1)).bk b' ≠ (R.Hh j).bk b' := by rcases hc with h | h; · omega
                                                             ·exact h.2
      cases ro2 with
      | false =>
       obtain ⟨cs0,h0⟩:=hS.kind b' e2 cs2 (by rw [d0O];exact q3) (by rw [hG'];exact hr2)
       obtain ⟨q5,q6⟩:=e0E q4 h0
       rw [<- q5.2,q6] at hdead;cases hdead
      | true =>
       have:=hks.kindR b' e2 cs2 q3 hr2
       exact hcd (by rw [hr2,this])
     ·rw [hκ2 b' hc];exact hdead
   ·obtain ⟨m1,m2,m3,m4⟩:=outF b' _ hb' i2
    rw [hκ2 b' m1]
    exact I.P b b' B o1 o2 e cs n2 m2 hne hrow
 ·-- what has been written g0X to what is known
  intro k sk hsk hSk hk2 hw2 b hb
  rcases hSk with h | h
  ·have:=I.W k sk hsk h hk2 hw2 b hb
   cases hφb:φ b with
   | none=>exact N1i hφb this
   | some y=>rw [fA b y hφb];simp
  ·subst h
   rw [hs] at hsk;cases hsk
   have:=hW hw2 b hb
   cases hφb:φ b with
   | none=>exact N1i hφb this
   | some y=>rw [fA b y hφb];simp
 ·-- held against the beginning
  have g:=I.glob
  refine
   { ext := fun b x h => fA b x (g.ext b x h)
     shp:=fun B x h=>hS.shp B x (g.shp B x h)
     wsz:=N1n g.wsz hS.wsz
     os:=hS.os.trans g.os
     tape:=hS.tape.trans g.tape
     out:=hS.out.trans g.out
     fresh:=fun b y hb hn=>by
      by_cases hc:(R.Hh j).size<=b/\b < (R.Hh (j + 1)).size
      ·exact N1n (C.szmono (N1K _) (by omega)) hc.1
      ·exact g.fresh b y (fOut b y hb hc) hn
     newB:=?_
     frame:=?_ }
  ·intro b B o1 hb hn
   have viaOld:∀ b0 o0 e0 cs0,φ b0=some (B,o0)->b0 < (R.Hh j).size->fl<=b0->(R.Hh j).bk b0=.row false e0 cs0->w0.heap.size<=B ∨ ∃ b0 o0 e cs,φ0 b0=some (B,o0)/\fl<=b0/\(R.Hh 0).bk b0=.row false e cs:=by
    intro b0 o0 e0 cs0 h1 h2 h3 h4
    cases h5:φ0 b0 with
    | none=>exact g.newB b0 B o0 h1 h5
    | some z =>
     have:=g.ext b0 z h5
     rw [h1] at this;cases this
     have hlt0:b0 < (R.Hh 0).size:=by
      by_cases h:b0 < (R.Hh 0).size
      ·exact h
      ·exfalso
       -- known from the beginning, so it was there
       have:=hφ0 b0 _ h5;omega
     obtain ⟨cs1,h6⟩:=(C.keep0 (by omega:j<=l.length)).2.kind b0 e0 cs0 hlt0 h4
     exact .inr ⟨b0,o0,e0,cs1,h5,h3,h6⟩
   by_cases hc:(R.Hh j).size<=b/\b < (R.Hh (j + 1)).size
   ·have hb1:=fC b _ hb hc.2
    have hcn:cut φ (R.Hh j).size b=none:=by unfold cut;rw [M1V (by omega)]
    rcases hS.newB b B o1 hb1 hcn with h | ⟨b0,o0,e0,cs0,h1,h2,h3⟩
    ·exact .inl (N1n g.wsz h)
    ·obtain ⟨q3,q4⟩:=a0X.1 h1
     obtain ⟨q5,q6⟩:=e0E q4 h3
     exact viaOld b0 o0 e0 cs0 q4 q3 h2 q6
   ·exact g.newB b B o1 (fOut b _ hb hc) hn
  ·intro B hB hno
   rw [hS.frame B (N1k hB g.wsz) ?_,g.frame B hB hno]
   intro b1 o2 e1 cs1 hb1 hfl1 hrow1
   obtain ⟨q3,q4⟩:=a0X.1 hb1
   obtain ⟨q5,q6⟩:=e0E q4 hrow1
   cases h5:φ0 b1 with
   | none =>
    rcases g.newB b1 B o2 q4 h5 with h | ⟨b0,o0,e0,cs0,h1,h2,h3⟩
    ·omega
    ·exact hno b0 o0 e0 cs0 h1 h2 h3
   | some z =>
    have:=g.ext b1 z h5
    rw [q4] at this;cases this
    have hlt0:b1 < (R.Hh 0).size:=hφ0 b1 _ h5
    obtain ⟨cs2,h6⟩:=(C.keep0 (by omega:j<=l.length)).2.kind b1 e1 cs1 hlt0 q6
    exact hno b1 o2 e1 cs2 h5 hfl1 h6
end
section
variable {X:Cx} {call:Nat->FuncId->List Value->a0c->Res (Value × a0c)} {fl:Nat} {ops:Array Oper} {l:List a0v} {bef:List Nat} {pairs:List (Nat × Nat)} {R:Run} (C:Ctx X call fl ops l bef pairs R)
variable {φ0 φ:Inj} {w0 w w':World} {Sd:Nat->Prop} {κ θ:Nat->Nat} {a:Act} (I:Inv X fl ops l bef R φ0 w0 Sd φ κ θ a w)
include C I
theorem Inv.final (hall:∀ k,k < l.length->Sd k) (hφ0:∀ b y,φ0 b=some y->b < (R.Hh 0).size) :
  CR X φ (shq w) (R.T l.length) a.tmps.toList/\b0R X fl φ0 (R.Hh 0) w0 φ (R.Hh l.length) w/\R.Pn l.length=none:=by
 have hrows:∀ b y,φ b=some y->(R.Hh l.length).bk b=(R.Hh (κ b)).bk b:=by
  intro b y hb
  obtain ⟨B,o1⟩:=y
  obtain ⟨h1,h2,h3,h4,h5⟩:=I.Rr b B o1 hb
  have:∀ m,κ b<=m->m<=l.length->(R.Hh m).bk b=(R.Hh (κ b)).bk b:=by
   intro m hm
   induction m with
   | zero=>intro _;congr 2;omega
   | succ m ih =>
    intro hml
    by_cases hc:κ b=m + 1
    ·rw [hc]
    ·rw [<- ih (by omega) (by omega)]
     exact h4 m (by omega) (by omega) (hall m (by omega))
  exact this _ h1 (M1U _)
 have hdom:∀ b y,φ b=some y->b < (R.Hh l.length).size:=by
  intro b y hb
  obtain ⟨B,o1⟩:=y
  obtain ⟨h1,h2,_⟩:=I.Rr b B o1 hb
  exact N1k h2 (C.szmono h1 (M1U _))
 have g:=I.glob
 refine ⟨⟨?_,?_⟩,?_,?_⟩
 ·rw [C.tlen (M1U _)];simp [I.tlen]
 ·intro x hx
  rw [C.tlen (M1U _)] at hx
  obtain ⟨h1,h2,h3,h4⟩:=I.T x hx
  have:∀ m,θ x<=m->m<=l.length->get (R.T m) x=get (R.T (θ x)) x:=by
   intro m hm
   induction m with
   | zero=>intro _;congr 2;omega
   | succ m ih =>
    intro hml
    by_cases hc:θ x=m + 1
    ·rw [hc]
    ·rw [<- ih (by omega) (by omega)]
     apply N1F
     intro hne
     obtain ⟨sm,hsm⟩:=C.sAt (by omega:m < l.length)
     exact h3 m sm (by omega) (hall m (by omega)) hsm (C.slot hsm hne).2
  have e1:=this _ h1 (M1U _)
  simp only [get] at e1 h4
  rw [e1,<- a0E a.tmps]
  exact h4.mo (fun b y h=>(a0X.1 h).2) (fun _ _ h=>h)
 ·have hk:=(C.keep0 (M1U _)).2
  refine
   { ext := g.ext
     rel:=?_
     shp:=g.shp
     wsz:=g.wsz
     os:=g.os
     tape:=g.tape
     out:=g.out
     hsz:=hk.size
     keep:=fun b hb=>hk.low b hb
     kind:=fun b e cs hb h=>hk.kind b e cs hb h
     fresh:=g.fresh
     newB:=g.newB
     frame:=g.frame }
  refine { bs:=I.base,lt:=fun b x h=>hdom b x h,row:=?_,sep:=?_ }
  ·intro b B o1 ro e cs hb hrow
   exact ((I.Rr b B o1 hb).2.2.2.2 ro e cs (by rw [<- hrows b _ hb];exact hrow)).mo (fun b y h=>(a0X.1 h).2) (fun _ _ h=>h) rfl
  ·intro b b' B o1 o2 e cs hb hb' hne hrow
   rw [hrows b' _ hb']
   exact I.P b b' B o1 o2 e cs hb hb' hne (by rw [<- hrows b _ hb];exact hrow)
 ·cases hp:R.Pn l.length with
  | none=>rfl
  | some pv =>
   obtain ⟨p,v⟩:=pv
   obtain ⟨h1,h2⟩:=C.pan (M1U _) p v hp
   have:=I.done p h1 (hall p h1)
   omega
theorem Inv.panned {j:Nat} {s:a0v} (hs:l[j]? = some s) (hnj:¬ Sd j) (hpre:∀ i,a0T bef i j=true->Sd i) (hφ0:∀ b y,φ0 b=some y->b < (R.Hh 0).size)
  (hp:Pan X fl (cut φ (R.Hh j).size) (o0j R φ κ j) w w'):Pan X fl φ0 (R.Hh 0) w0 w':=by
 have hj:j < l.length:=(N1b.1 hs).1
 have g:=I.glob
 refine { shp:=fun B x h=>hp.shp B x (g.shp B x h),wsz:=N1n g.wsz hp.wsz,os:=hp.os.trans g.os,tape:=hp.tape.trans g.tape,out:=hp.out.trans g.out,frame:=?_ }
 intro B hB hno
 rw [hp.frame B (N1k hB g.wsz) ?_,g.frame B hB hno]
 intro b1 o2 e1 cs1 hb1 hfl1 hrow1
 obtain ⟨q3,q4⟩:=a0X.1 hb1
 obtain ⟨q5,q6⟩:=e0E q4 hrow1
 cases h5:φ0 b1 with
 | none =>
  rcases g.newB b1 B o2 q4 h5 with h | ⟨b0,o0,e0,cs0,h1,h2,h3⟩
  ·omega
  ·exact hno b0 o0 e0 cs0 h1 h2 h3
 | some z =>
  have:=g.ext b1 z h5
  rw [q4] at this;cases this
  have hlt0:b1 < (R.Hh 0).size:=hφ0 b1 _ h5
  obtain ⟨cs2,h6⟩:=(C.keep0 (by omega:j<=l.length)).2.kind b1 e1 cs1 hlt0 q6
  exact hno b1 o2 e1 cs2 h5 hfl1 h6
def q0G (us:List Nat) (n:Nat) (f:Nat->Value):List Value:=(List.range n).map fun x=>if x ∈ us then f x else undef
omit C I in
theorem q0H (us:List Nat) (n:Nat) (f:Nat->Value) (x:Nat):(q0G us n f).getD x undef=if x < n/\x ∈ us then f x else undef:=by
 unfold q0G
 simp only [M1R,N1Q]
 by_cases hx:x < n
 ·rw [O1j hx]
  simp [hx]
 ·rw [N1d (by simp;omega)]
  simp [hx]
theorem Inv.one (hφ0:∀ b y,φ0 b=some y->b < (R.Hh 0).size) {j:Nat} {s:a0v} {o:Oper} (hs:l[j]? = some s) (ho:ops[j]? = some o) (hco:∃ ln,g0V X.P ops ln o=some s) (hnj:¬ Sd j)
  (hpre:∀ i,a0T bef i j=true->Sd i) {K:Act->World->Prop} {Q:Exit->Act->World->Prop}
  (hK:∀ φ' κ' θ' a' w',Inv X fl ops l bef R φ0 w0 (fun k=>Sd k ∨ k=j) φ' κ' θ' a' w'->K a' w')
  (hQ:R.st j=3->∀ ty u w',Pan X fl φ0 (R.Hh 0) w0 w'->Q (.panic [{ v:=.iface ty u,recovered:=false }]) a w'):wpOp X.P ops Q j K a w:=by
 have hj:j < l.length:=(N1b.1 hs).1
 obtain ⟨ln,hco⟩:=hco
 obtain ⟨hcop,hflat,hdst⟩:=c0T hco
 have hslot:=fun {x:Nat}=>Inv.slot C I hs ho hnj hpre (x:=x)
 have hrel:=Inv.rel C I hs hnj hpre
 have hTlen:=C.tlen (show j<=l.length by omega)
 -- the guard
 have hwant:Region.wanted o (yielded ops a.tmps)=a0Q (R.T j) s.g:=by
  refine n0p (φ:=cut φ (R.Hh j).size) (S:=(shq w)) (X:=X) hco ?_
  intro d want hg
  by_cases hd:d < (R.T 0).length
  ·exact hslot hd (by simp [i0U,hg])
  ·have e1:get (R.T j) d=undef:=by
    unfold get;rw [M1R,N1d (by omega)];rfl
   have e2:a.tmps.getD d undef=undef:=by
    have:=I.tlen
    rw [M1Y,O1i (by omega)];rfl
   rw [e1,e2];exact VR.undef
 unfold wpOp
 simp only [ho]
 rw [hwant]
 -- the frame with the slots that matter alone
 have hmaskT:CR X (cut φ (R.Hh j).size) (shq w) (q0G (i0U o s) (R.T 0).length (fun x=>get (R.T j) x)) (q0G (i0U o s) (R.T 0).length (fun x=>a.tmps.getD x undef)):=by
  unfold q0G
  refine CR.of_mem_map _ _ _ ?_
  intro x hx
  have hx:=N1N.1 hx
  split
  ·rename_i hu;exact hslot hx hu
  ·exact VR.undef
 let tj:a0U:=q0G (i0U o s) (R.T 0).length (fun x=>get (R.T j) x)
 let aj:Act:={ tmps:=(q0G (i0U o s) (R.T 0).length (fun x=>a.tmps.getD x undef)).toArray,defers:=a.defers }
 have hmaskT':CR X (cut φ (R.Hh j).size) (shq w) tj aj.tmps.toList:=by simpa [aj] using hmaskT
 have hev:∀ x ∈ a0g s.op,ev tj x=ev (R.T j) x:=by
  intro x hx
  cases x with
  | tmp d =>
   simp only [ev,get,tj,q0H]
   have hu:d ∈ i0U o s:=by
    unfold i0U
    simp only [N1B,List.mem_filterMap]
    exact .inl (.inl ⟨.tmp d,hx,rfl⟩)
   by_cases hd:d < (R.T 0).length
   ·rw [M1Z ⟨hd,hu⟩]
   ·rw [M1V (fun h=>hd h.1),M1R,N1d (by omega)];rfl
  | const v=>rfl
  | fn f=>rfl
 have hexec:execOp a.eval o=execOp aj.eval o:=by
  refine execOp_congr o (fun cs b=>C.tab.nosel j o cs b ho) ?_
  intro x hx
  cases x with
  | tmp d =>
   have hu:d ∈ i0U o s:=by
    unfold i0U
    simp only [N1B,List.mem_filterMap]
    exact .inr ⟨.tmp d,by simpa using hx,rfl⟩
   simp only [Act.eval,aj]
   rw [a0E (q0G _ _ _).toArray]
   simp only [O1J,q0H]
   by_cases hd:d < (R.T 0).length
   ·rw [M1Z ⟨hd,hu⟩]
   ·have hle:a.tmps.size<=d:=by rw [I.tlen];exact Nat.le_of_not_lt hd
    rw [M1V (fun h=>hd h.1),M1Y,O1i hle];rfl
  | const v=>rfl
  | func f=>rfl
  | global g=>rfl
 have hlowm:fl<=(o0j R φ κ j).size:=by rw [d0O];exact (C.keep0 (by omega:j<=l.length)).1
 -- what the operation comes to, in the masked state
 have hcallMask:way s.op=3->o0j R φ κ j=R.Hh j:=by
  intro hw
  apply Array.ext
  ·exact d0O _ _ _ _
  ·intro i h1 h2
   have hb:(o0j R φ κ j).bk i=(R.Hh j).bk i:=by
    rw [j0U]
    split
    ·rename_i hc
     exfalso
     cases hφi:φ i with
     | none=>exact hc.1 hφi
     | some y=>exact hc.2 (Inv.good C I hs hnj hpre hφi h2 (by omega) (.inl hw))
    ·rfl
   simpa [a0c.bk,M1Y,N1v h1,N1v h2] using hb
 rcases C.run j s hs with h | h | h | h
 ·-- it j0u on what has panicked: it is never come to
  exfalso
  have hh:=h.2.1
  cases hp:R.Pn j with
  | none=>rw [hp] at hh;cases hh
  | some pv =>
   obtain ⟨p,v⟩:=pv
   rw [hp] at hh
   have hS:=hpre p hh
   obtain ⟨h1,h2⟩:=C.pan (by omega:j<=l.length) p v hp
   have:=I.done p (by omega) hS
   omega
 ·-- not wanted
  rw [h.2.2.1]
  simp only [N1g,N1G]
  have:=Inv.after C I hs hnj hpre (v':=undef) (.inl h.1) (by rw [h.2.2.2.1];exact h.2.2.2.2.1) (by rw [h.2.2.2.2.2.1];exact Par.refl (d0O _ _ _ _)) (by rw [h.2.2.2.1];exact VR.undef) (b0R.refl hrel)
   (by intro _ b hb;rw [h.2.2.2.2.2.2.2] at hb;simp at hb) hφ0
  obtain ⟨φ',κ',θ',hI⟩:=this
  rw [<- hdst]
  exact hK φ' κ' θ' _ _ hI
 ·rw [h.2.2.1]
  simp only [N1E]
  refine .inl ?_
  have htc:∀ b,b ∈ (c0j (R.T j) s.op).1 ∨ b ∈ (c0j (R.T j) s.op).2->way s.op ≠ 0:=by
   intro b hb
   rcases hb with hb | hb
   ·rcases x0J hb with h | h <;> omega
   ·have:=o0F hb;omega
  have hstep:∃ G1,b0i call fl tj (o0j R φ κ j) s.op=.ok (R.val j,G1)/\Par (R.Hh j) (R.Hh (j + 1)) (o0j R φ κ j) G1:=by
   rcases g0J h.2.2.2.1 with hv | ⟨f,args,lone,hc,hcl⟩
   ·obtain ⟨G1,g1,g2⟩:=z0G hv (d0O R φ κ j) (fun b hb=>by
     rw [j0U]
     split
     ·rename_i hcnd
      have hb0:=hb
      rw [<- o0G hv (R.Hh j) (R.Hh (j + 1)),<- h.2.2.2.2.2.2] at hb
      by_cases hlt:b < (R.Hh j).size
      ·exfalso
       cases hφb:φ b with
       | none=>exact hcnd.1 hφb
       | some y=>exact hcnd.2 (Inv.good C I hs hnj hpre hφb hlt (htc b hb0) (.inr hb))
      ·exact (i0W (by omega)).symm
     ·rfl)
    refine ⟨G1,?_,g2⟩
    unfold b0i
    rw [k0a hev,g1]
   ·have hm:=hcallMask (d0P hc).1
    refine ⟨R.Hh (j + 1),?_,?_⟩
    ·unfold b0i
     rw [k0a hev,j0b hc fl (o0j R φ κ j),hm]
     exact hcl
    ·rw [hm];exact ⟨rfl,fun _ _ e=>e,fun _ _ _=>rfl,fun _ _=>rfl⟩
  obtain ⟨G1,hst1,hpar⟩:=hstep
  refine l0Q (o:=o) C.callOk hcop hflat hrel hmaskT' hlowm hst1 a hexec (fun φ1 v' w' hv hS=>?_)
  have hW:way s.op=2->∀ b,b ∈ (R.tc j).2->φ b ≠ none:=by
   intro hw2 b hb
   rw [h.2.2.2.2.2.2,x0K hw2,<- u0L hev] at hb
   -- its operand g0X there
   have key:∀ x ∈ a0g s.op,(b ∈ blkW (ev tj x) ∨ (∃ p,ev tj x=.pointer (some p)/\b=p.block) ∨ ev tj x=.map (some b))->φ b ≠ none:=by
    intro x hx hbx
    have hvx:∃ u,VR X (cut φ (R.Hh j).size) (shq w) (ev tj x) u:=by
     cases x with
     | tmp d=>exact ⟨_,by simpa [ev,get] using hmaskT'.get d⟩
     | const v =>
      have:=N1H.1 hflat _ hx
      exact ⟨v,m0r this⟩
     | fn f=>exact ⟨_,.func _ _ _ _ _ rfl (fun i hi=>by simp at hi) rfl (fun i hi=>by simp at hi)⟩
    obtain ⟨u,hvx⟩:=hvx
    generalize ev tj x=vv at hvx hbx
    cases hvx <;> simp [blkW] at hbx
    ·rename_i B o1 g1 g2 g3 g4;subst hbx;rw [(a0X.1 g2).2];simp
    ·rename_i B o1 g1 g2 _ _ _ _ _ _;obtain ⟨_,hbx⟩:=hbx;subst hbx;rw [(a0X.1 g2).2];simp
    ·rename_i B o1 g2 g3;subst hbx;rw [(a0X.1 g2).2];simp
   cases hop:s.op <;> rw [hop] at hb <;> simp only [c0j] at hb
   case store n x y =>
    have hop2:=hop
    have hbp:∃ p,ev tj x=.pointer (some p):=by
     have h3:=h.2.2.2.1
     have hx:ev tj x=ev (R.T j) x:=hev x (by rw [hop];simp [a0g])
     rw [hx]
     rw [hop] at h3
     simp only [b0i,opA] at h3
     cases hq:ev (R.T j) x <;> simp [hq] at h3
     rename_i p;cases p <;> simp at h3
     exact ⟨_,rfl⟩
    obtain ⟨p,hp⟩:=hbp
    rw [hp] at hb
    simp only [blkOf,O1l] at hb
    exact key x (by rw [hop];simp [a0g]) (.inr (.inl ⟨p,hp,hb⟩))
   case mupd x y z =>
    have hbp:∃ p,ev tj x=.map (some p):=by
     have h3:=h.2.2.2.1
     have hx:ev tj x=ev (R.T j) x:=hev x (by rw [hop];simp [a0g])
     rw [hx]
     rw [hop] at h3
     simp only [b0i,opA] at h3
     cases hq:k0E fl (R.Hh j) (ev (R.T j) x) (ev (R.T j) y) (ev (R.T j) z) with
     | none=>simp [hq] at h3
     | some G=>exact z0z hq
    obtain ⟨p,hp⟩:=hbp
    rw [hp] at hb
    simp only [blkOf,O1l] at hb
    exact key x (by rw [hop];simp [a0g]) (.inr (.inr (by rw [hp,hb])))
   case app e n bb x y=>exact key x (by rw [hop];simp [a0g]) (.inl hb)
   all_goals (simp at hb)
  obtain ⟨φ',κ',θ',hI⟩:=Inv.after C I hs hnj hpre (.inr h.1) h.2.2.2.2.1 hpar hv hS hW hφ0
  rw [<- hdst]
  exact hK φ' κ' θ' _ _ hI
 ·-- it panics
  rw [h.2.2.1]
  simp only [N1E]
  refine .inl ?_
  have hstep:b0i call fl tj (o0j R φ κ j) s.op=.pan (R.val j):=by
   have hp:=h.2.2.2.1
   unfold b0i at hp ⊢
   split at hp
   ·cases hp
   ·rename_i v1 hv
    simp only [Res.pan.injEq] at hp;subst hp
    obtain ⟨_,x,hx1,hx2⟩:=g0j hv
    have:opA fl tj (o0j R φ κ j) s.op=.pan (R.val j):=by
     rw [k0a hev,hx1]
     rw [hx1] at hv
     simpa [opA] using hv
    rw [this]
   ·cases hp
   ·rename_i f args lone hc
    have hm:=hcallMask (d0P hc).1
    rw [k0a hev,j0b hc fl (o0j R φ κ j),hm]
    exact hp
  refine s0g (o:=o) C.callOk hcop hflat hrel hmaskT' hlowm hstep a hexec (fun ty u w' hp=>hQ h.1 ty u w' (Inv.panned C I hs hnj hpre hφ0 hp))
end
section
variable {X:Cx} {call:Nat->FuncId->List Value->a0c->Res (Value × a0c)}
def left (listed:Array Bool) (n:Nat):Nat:=((List.range n).filter fun k=>!listed.getD k false).length
theorem z0k {listed:Array Bool} {n:Nat} (h:left listed n=0):∀ k,k < n->listed.getD k false=true:=by
 intro k hk
 unfold left at h
 have:=N1r.1 h
 rw [List.filter_eq_nil_iff] at this
 have:=this k (N1N.2 hk)
 simpa using this
theorem H0o {listed:Array Bool} {n j:Nat} (hj:j < n) (hsz:listed.size=n) (hn:listed.getD j false=false):left listed n=left (listed.setIfInBounds j true) n + 1:=by
 unfold left
 have key:∀ m,m<=n->((List.range m).filter fun k=>!listed.getD k false).length=((List.range m).filter fun k=>!(listed.setIfInBounds j true).getD k false).length + if j < m then 1 else 0:=by
  intro m
  induction m with
  | zero=>intro _;simp
  | succ m ih =>
   intro hm
   have ih:=ih (by omega)
   rw [List.range_succ,List.filter_append,List.filter_append,N1X,N1X,ih]
   by_cases hjm:j=m
   ·subst hjm
    have e1:(listed.setIfInBounds j true).getD j false=true:=by
     simp only [M1Y,N1l]
     simp [show j < listed.size by omega]
    simp only [List.filter_cons,List.filter_nil,hn,e1]
    simp
   ·have e1:(listed.setIfInBounds j true).getD m false=listed.getD m false:=getD_set_ne false hjm
    simp only [List.filter_cons,List.filter_nil,e1]
    have:(j < m + 1) <-> (j < m):=by omega
    simp only [this]
    omega
 have:=key n (M1U _)
 rw [M1Z hj] at this
 exact this
theorem R0T {listed:Array Bool} {n j:Nat} (hj:j < n) (hsz:listed.size=n) (k:Nat):(listed.setIfInBounds j true).getD k false=true <-> listed.getD k false=true ∨ k=j:=by
 by_cases hk:k=j
 ·subst hk
  simp only [M1Y,N1l]
  simp [show k < listed.size by omega]
 ·rw [getD_set_ne false (fun e=>hk e.symm)]
  simp [hk]
theorem k0A (hcall:b0x X call) (hkeep:i0t call) (hmix:X.P.follows .mixedOrders=true):q0y X call:=by
 intro ops l bef pairs hc D fl t H φ w a hR hT hfl hd hne id
 have tab:=S0c hc
 obtain ⟨R0,s1,s2,s3,s4,s5,s6⟩:=U0O l 0 t H none [] hne
 obtain ⟨R,rDw,r1,r2,r3,r4,r5,r6⟩:∃ R:Run,R.ds=D/\R.T 0=t/\R.Hh 0=H/\R.Pn 0=none/\(∀ m s,l[m]? = some s->j0H call fl bef R (0 + m) s)/\c0u (([]:List (List Nat × List Nat)).reverse ++ (List.range' 0 l.length).map R.tc) pairs=true /\
   b0T call fl bef pairs 0 l t H none []=match R.Pn (0 + l.length) with | none=>.fin .normal (R.T (0 + l.length)) (R.Hh (0 + l.length)) | some (_,v)=>.pan v :=
  ⟨{ R0 with ds:=D },rfl,s1,s2,s3,s4,s5,s6⟩
 simp only [N1q] at r4 r6
 have C:Ctx X call fl ops l bef pairs R:=⟨hcall,hkeep,tab,r4,by simpa using r5,r3,by rw [r2];exact hfl⟩
 have hφ0:∀ b y,φ b=some y->b < (R.Hh 0).size:=fun b y h=>by rw [r2];exact hR.lt b y h
 have hlen:=tab.len
 rw [r6]
 -- what a panic makes of the end
 have hend:∀ j,j < l.length->R.st j=3->∃ v,R.Pn l.length=some (j,v):=by
  intro j hj h3
  obtain ⟨s,hs⟩:=C.sAt hj
  have hpn:R.Pn (j + 1)=some (j,R.val j):=by
   rcases C.run j s hs with h | h | h | h
   ·have:=h.1;omega
   ·have:=h.1;omega
   ·have:=h.1;omega
   ·exact h.2.2.2.2.2.1
  have:∀ m,j + 1<=m->m<=l.length->R.Pn m=some (j,R.val j):=by
   intro m hm
   induction m with
   | zero=>omega
   | succ m ih =>
    intro hml
    by_cases hjm:j=m
    ·subst hjm;exact hpn
    ·have ih:=ih (by omega) (by omega)
     obtain ⟨sm,hsm⟩:=C.sAt (by omega:m < l.length)
     rcases C.run m sm hsm with h | h | h | h
     ·rw [h.2.2.2.2.1];exact ih
     ·rw [h.2.2.2.2.2.2.1];exact ih
     ·rw [h.2.2.2.2.2.1];exact ih
     ·rw [ih] at h;have:=h.2.2.2.2.1;cases this
  exact ⟨_,this _ (by omega) (M1U _)⟩
 refine wp_region_any hmix ?_
 -- from whatever has run
 have key:∀ (fuel:Nat) (listed:Array Bool) (φ1:Inj) (κ θ:Nat->Nat) (a1:Act) (w1:World),listed.size=ops.size->left listed ops.size=fuel ->
   Inv X fl ops l bef R φ w.drew (fun k=>listed.getD k false=true) φ1 κ θ a1 w1 ->
   wpAny X.P .any ops (y0a X D fl φ H w (match R.Pn l.length with | none=>.fin .normal (R.T l.length) (R.Hh l.length) | some (_,v)=>.pan v)) fuel listed a1 w1:=by
  intro fuel
  induction fuel with
  | zero =>
   intro listed φ1 κ θ a1 w1 hsz hleft I
   have hall:=z0k hleft
   obtain ⟨f1,f2,f3⟩:=Inv.final C I (fun k hk=>hall k (by omega)) hφ0
   refine ⟨?_,?_⟩
   ·unfold Region.ready
    rw [List.filter_eq_nil_iff]
    intro k hk
    have hk:=N1N.1 hk
    have:=hall k hk
    have e:listed.getD k true=true:=by
     simp only [M1Y] at this ⊢
     rw [N1v (by omega)] at this ⊢
     simpa using this
    simp [e]
   ·rw [f3]
    refine ⟨rfl,I.defers.trans rDw,φ1,f1,?_⟩
    rw [r2] at f2
    exact { f2 with }
  | succ fuel ih =>
   intro listed φ1 κ θ a1 w1 hsz hleft I
   refine ⟨fun hnil=>?_,fun j hj=>?_⟩
   ·-- something is still to run,and the first of it is ready
    exfalso
    have hex:∃ k,k < ops.size/\listed.getD k false=false:=by
     apply N1F
     intro hno
     have:left listed ops.size=0:=by
      unfold left
      rw [N1r,List.filter_eq_nil_iff]
      intro k hk
      have hk:=N1N.1 hk
      intro hh
      exact hno ⟨k,hk,by simpa using hh⟩
     omega
    obtain ⟨k,hk,hmin⟩:∃ k,(k < ops.size/\listed.getD k false=false)/\∀ m,m < k->listed.getD m false=true:=by
     obtain ⟨k0,h1,h2⟩:=hex
     induction k0 using Nat.strongRecOn with
     | _ k0 ih2 =>
      by_cases hm:∃ m,m < k0/\listed.getD m false=false
      ·obtain ⟨m,h3,h4⟩:=hm
       exact ih2 m h3 (by omega) h4
      ·refine ⟨k0,⟨h1,h2⟩,fun m hm2=>?_⟩
       cases hl:listed.getD m false with
       | true=>rfl
       | false=>exact N1i ⟨m,hm2,hl⟩ hm
    have hmem:k ∈ Region.ready .any ops listed:=by
     unfold Region.ready
     rw [P1h]
     refine ⟨N1N.2 hk.1,?_⟩
     have hok:ops[k]? = some ops[k]:=N1v hk.1
     have e:listed.getD k true=false:=by
      have:=hk.2
      simp only [M1Y] at this ⊢
      rw [N1v (by omega)] at this ⊢
      simpa using this
     simp only [e,Bool.not_false,O1H,hok,N1M,N1D]
     rw [Array.all_eq_true']
     intro ed hed
     by_cases hb:Region.binds .any ed=true
     ·have:=tab.back k _ hok ed (by simpa using hed) hb
      simp [hmin _ this]
     ·simp [hb]
    rw [hnil] at hmem
    cases hmem
   ·obtain ⟨hjo,hjl,hpre⟩:=tab.ready hj (fun k hk hS i hi=>I.down k (by omega) hS i hi)
    have hnj:listed.getD j false=false:=by
     simp only [M1Y] at hjl ⊢
     rw [N1v (by omega)] at hjl ⊢
     simpa using hjl
    obtain ⟨s,hs⟩:=C.sAt (by omega:j < l.length)
    obtain ⟨o,ho,hco⟩:=tab.op j s hs
    refine Inv.one C I hφ0 hs ho ⟨_,hco⟩ (by rw [hnj];simp) hpre (fun φ' κ' θ' a' w' hI=>?_) (fun h3 ty u w' hp=>?_)
    ·refine ih _ φ' κ' θ' a' w' (by simp [hsz]) (by have:=H0o hjo hsz hnj;omega) ?_
     have e:(fun k=>(listed.setIfInBounds j true).getD k false=true)=(fun k=>listed.getD k false=true ∨ k=j):=by
      funext k;exact propext (R0T hjo hsz k)
     rw [e];exact hI
    ·obtain ⟨v,hv⟩:=hend j (by omega) h3
     rw [hv]
     refine ⟨⟨ty,u,rfl⟩,I.defers.trans rDw,?_⟩
     rw [r2] at hp
     exact { hp with }
 refine key ops.size _ φ (fun _=>0) (fun _=>0) a w.drew (by simp) ?_ ?_
 ·unfold left
  have:(List.range ops.size).filter (fun k=>!(Array.replicate ops.size false).getD k false)=List.range ops.size:=by
   rw [List.filter_eq_self]
   intro k hk
   have hk:=N1N.1 hk
   simp [M1Y,hk]
  rw [this];simp
 ·have hnone:∀ k,¬ ((Array.replicate ops.size false).getD k false=true):=by
   intro k
   simp only [M1Y,Array.getElem?_replicate]
   split <;> simp
  have hcutφ:∀ b y,φ b=some y->cut φ (R.Hh 0).size b=some y:=fun b y h=>a0X.2 ⟨hφ0 b y h,h⟩
  refine
   { done := fun k _ h => N1i h (hnone k)
     down:=fun j _ h=>N1i h (hnone j)
     tlen:=?_
     defers:=hd.trans rDw.symm
     base:=hR.bs
     T:=?_
     D:=fun b y h=>.inl (hφ0 b y h)
     Rr:=?_
     P:=?_
     W:=fun k s _ h=>N1i h (hnone k)
     glob:=⟨fun _ _ h=>h,fun _ _ h=>h,M1U _,rfl,rfl,rfl,(fun b y h h'=>by rw [h] at h';cases h'),(fun b B o h h'=>by rw [h] at h';cases h'),fun _ _ _=>rfl⟩ }
  ·rw [r1];have:=hT.1;simp at this;omega
  ·intro x hx
   refine ⟨N1K _,.inl rfl,fun k s _ h=>N1i h (hnone k),?_⟩
   have:=hT.get x
   rw [r1,a0E]
   exact this.mo hcutφ (fun _ _ h=>h)
  ·intro b B o1 hb
   refine ⟨N1K _,hφ0 b _ hb,.inl rfl,fun k _ _ h=>N1i h (hnone k),?_⟩
   intro ro e cs hrow
   rw [r2] at hrow
   exact (hR.row b B o1 ro e cs hb hrow).mo hcutφ (fun _ _ h=>h) rfl
  ·intro b b' B o1 o2 e cs hb hb' hne2 hrow
   rw [r2] at hrow ⊢
   exact hR.sep b b' B o1 o2 e cs hb hb' hne2 hrow
end
section
variable {X:Cx} {φ φ':Inj} {S:Shp} {H H' G:a0c} {w w':World} {fl:Nat}
theorem b0R.back (h:b0R X fl φ H w φ' G w') (b:Nat) (y:Nat × Nat) (hb:cut φ' H.size b=some y):φ b=some y:=by
 obtain ⟨h1,h2⟩:=a0X.1 hb
 cases hφ:φ b with
 | none=>have:=h.fresh b y h2 hφ;omega
 | some z=>have:=h.ext b z hφ;rw [h2] at this;cases this;rfl
theorem b0R.forget (hR:Rel X φ H w) (h:b0R X fl φ H w φ' G w') (hx:∀ b,b < H.size->G.bk b=H.bk b):b0R X fl φ H w φ H w':=by
 refine { ext := fun _ _ h => h, rel := ⟨h.rel.bs, hR.lt, ?_, hR.sep⟩, shp := h.shp, wsz := h.wsz, os := h.os, tape := h.tape, out := h.out, hsz := M1U _, keep := fun _ _ => rfl,
          kind:=fun _ _ cs _ h=>⟨cs,h⟩,fresh:=(fun b x h h'=>by rw [h] at h';cases h'),newB:=(fun b B o h h'=>by rw [h] at h';cases h'),frame:=h.frame }
 intro b B o ro e cs hb hrow
 have hlt:=hR.lt b _ hb
 have old:=hR.row b B o ro e cs hb hrow
 have new:=h.rel.row b B o ro e cs (h.ext b _ hb) (by rw [hx b hlt];exact hrow)
 rcases new with ⟨c,el,fz,k1,k2,k3,k4⟩ | ⟨m1,m2,es,clk,m3,m4⟩ <;> rcases old with ⟨c0,el0,fz0,q1,q2,q3,q4⟩ | ⟨n1,n2,es0,clk0,n3,n4⟩
 ·exact .inl ⟨c,el,fz,k1,k2,(CR.cut hR.lt q3 k3).mo h.back (fun _ _ h=>h),k4⟩
 ·have:=h.shp B (none,0) (by simp [shq,n3]);simp [shq,k1] at this
 ·have:=h.shp B (some el0,c0.size) (by simp [shq,q1]);simp [shq,m3] at this
 ·exact .inr ⟨m1,m2,es,clk,m3,(CR.cut hR.lt n4 m4).mo h.back (fun _ _ h=>h)⟩
abbrev f0D:=List (Nat × Nat)
def e0T (corr:f0D):Value->Value->Bool
 | .bool a,.bool b=>a == b
 | .int k a,.int k' b=>decide (k=k') && a == b
 | .string a,.string b=>a.data.toList == b.data.toList
 | .pointer none,.pointer none=>true
 | .slice none n c,.slice none n' c'=>n == 0 && c == 0 && n' == 0 && c' == 0
 | .slice (some a) n c,.slice (some b) n' c' =>
  a.spot.isNone && b.spot.isNone && n == n' && ((n == 0 && c == 0 && c' == 0) || (n != 0 && a.off == 0 && decide (corr[a.block]? = some (b.block,b.off)) && (c == unk || (c == c' && c' != unk))))
 | .map none,.map none=>true
 | .nilFunc,.nilFunc=>true
 | .nilIface,.nilIface=>true
 | _,_=>false
def e0o (corr:f0D):List Value->List Value->Bool
 | [],[]=>true
 | v :: r,v' :: r'=>e0T corr v v' && e0o corr r r'
 | _,_=>false
def h0D (corr:f0D):Value->Value->Bool
 | .agg a,.agg b=>e0o corr a.toList b.toList
 | v,v'=>e0T corr v v'
def n0h (corr:f0D):List Value->List Value->Bool
 | [],[]=>true
 | v :: r,v' :: r'=>h0D corr v v' && n0h corr r r'
 | _,_=>false
def sameV (corr:f0D):Value->Value->Bool
 | .tuple a,.tuple b=>n0h corr a.toList b.toList
 | v,v'=>h0D corr v v'
def shC (m:Nat):Value->Value
 | .slice (some a) n c=>.slice (some ⟨m + a.block,a.off,a.spot⟩) n c
 | v=>v
def shA (m:Nat):Value->Value
 | .agg a=>.agg (a.toList.map (shC m)).toArray
 | v=>shC m v
def shV (m:Nat):Value->Value
 | .tuple a=>.tuple (a.toList.map (shA m)).toArray
 | v=>shA m v
def c0d:Value->List Value
 | .tuple a=>a.toList.flatMap a0t
 | v=>a0t v
section
variable {X2:Cx} {φs φt:Inj} {corr:f0D} {m:Nat}
variable (hφ:∀ k b off B o,corr[k]? = some (b,off)->φs b=some (B,o)->φt (m + k)=some (B,o + off)) (hb:∀ (k b off B o:Nat),corr[k]? = some (b,off)->φs b=some (B,o)->X2.base<=B->X.base<=B) (hP:X2.P=X.P)
include hφ hb hP
theorem s0d {vt vs u:Value} (h:e0T corr vt vs=true) (hv:VR X φs S vs u):VR X2 φt S (shC m vt) u:=by
 unfold e0T at h
 split at h
 ·simp only [beq_iff_eq] at h;subst h;cases hv;exact .bool _
 ·simp only [M1W,N1s,beq_iff_eq] at h;obtain ⟨rfl,rfl⟩:=h;cases hv;exact .int _ _
 ·rename_i a b
  have:a=b:=by
   apply ByteArray.ext
   exact O1x (by simpa using h)
  subst this;cases hv;exact .str _
 ·cases hv;exact .pnil
 ·simp only [M1W,beq_iff_eq] at h;obtain ⟨⟨⟨rfl,rfl⟩,rfl⟩,rfl⟩:=h;cases hv;exact .snil
 ·rename_i a n c b n' c'
  simp only [M1W,N1L,beq_iff_eq,bne_iff_ne,N1s,O1D] at h
  obtain ⟨⟨⟨h1,h2⟩,rfl⟩,h3⟩:=h
  rcases h3 with ⟨⟨rfl,rfl⟩,rfl⟩ | ⟨⟨⟨h4,h5⟩,h6⟩,h7⟩
  ·have key:∃ a',u=.slice (some a') 0 0:=by
    cases hv with
    | sle _ a'=>exact ⟨_,rfl⟩
    | sl _ a' _ _ cap' B o k1 k2 k3 k4 k5 k6 k7 k8=>have:=k6 (by simp [unk]);subst this;exact ⟨_,rfl⟩
   obtain ⟨a',rfl⟩:=key
   exact .sle _ _
  ·cases hv with
   | sle _ a'=>exact N1i rfl h4
   | sl _ a' _ _ cap' B o k1 k2 k3 k4 k5 k6 k7 k8 =>
    have hk:=hφ _ _ _ _ _ h6 k2
    obtain ⟨ab,ao,as⟩:=a
    simp only at h1 h5 h6 hk
    subst h1 h5
    refine .sl _ _ _ _ _ B (o + b.off) rfl hk k3 k4 (fun hn=>by rw [k5 hn];simp) ?_ k7 ?_
    ·intro hc
     rcases h7 with rfl | ⟨rfl,h8⟩
     ·exact N1i rfl hc
     ·exact k6 h8
    ·intro hbase
     obtain ⟨e,n2,g1,g2⟩:=k8 (by rw [k4] at hbase ⊢;exact hb _ _ _ _ _ h6 k2 hbase)
     exact ⟨e,n2,g1,by rw [hP];exact g2⟩
 ·cases hv;exact .mnil
 ·cases hv;exact .nilFunc
 ·cases hv;exact .nilIface
 ·cases h
theorem n0g:∀ {ts ss us:List Value},e0o corr ts ss=true->CR X φs S ss us->CR X2 φt S (ts.map (shC m)) us
 | [],[],us,_,h=>by rw [h.nil_left];exact CR.nil
 | t :: ts,s :: ss,us,h,hc=>by
  simp only [e0o,M1W] at h
  obtain ⟨v',r',rfl,h1,h2⟩:=hc.cons_left
  exact CR.cons (s0d hφ hb hP h.1 h1) (n0g h.2 h2)
 | [],_ :: _,_,h,_=>by cases h
 | _ :: _,[],_,h,_=>by cases h
theorem s0c {vt vs u:Value} (h:h0D corr vt vs=true) (hv:VR X φs S vs u):VR X2 φt S (shA m vt) u:=by
 unfold h0D at h
 split at h
 ·rename_i a b
  cases hv with
  | agg _ a' h1 h2 =>
   refine VR.agg_iff.2 ?_
   simp only [O1J]
   exact n0g hφ hb hP h (VR.agg_iff.1 (.agg _ _ h1 h2))
 ·rename_i hno
  have e:shA m vt=shC m vt:=by
   unfold shA
   split
   ·rename_i a
    exfalso
    cases vs <;> simp [e0T] at h
   ·rfl
  rw [e]
  exact s0d hφ hb hP h hv
theorem s0e:∀ {ts ss us:List Value},n0h corr ts ss=true->CR X φs S ss us->CR X2 φt S (ts.map (shA m)) us
 | [],[],us,_,h=>by rw [h.nil_left];exact CR.nil
 | t :: ts,s :: ss,us,h,hc=>by
  simp only [n0h,M1W] at h
  obtain ⟨v',r',rfl,h1,h2⟩:=hc.cons_left
  exact CR.cons (s0c hφ hb hP h.1 h1) (s0e h.2 h2)
 | [],_ :: _,_,h,_=>by cases h
 | _ :: _,[],_,h,_=>by cases h
theorem s0f {vt vs u:Value} (h:sameV corr vt vs=true) (hv:VR X φs S vs u):VR X2 φt S (shV m vt) u:=by
 unfold sameV at h
 split at h
 ·rename_i a b
  cases hv with
  | tuple _ a' h1 h2 =>
   refine VR.tuple_iff.2 ?_
   simp only [O1J]
   exact s0e hφ hb hP h (VR.tuple_iff.1 (.tuple _ _ h1 h2))
 ·rename_i hno
  have e:shV m vt=shA m vt:=by
   unfold shV
   split
   ·rename_i a
    exfalso
    cases vs <;> simp [h0D,e0T] at h
   ·rfl
  rw [e]
  exact s0c hφ hb hP h hv
end
def w0C (X:Cx) (φ:Inj) (S:Shp) (v:Value):Prop:=∃ u,VR X φ S v u
theorem CR.know {l u:List Value} (h:CR X φ S l u):∀ v ∈ l,w0C X φ S v:=by
 induction l generalizing u with
 | nil=>intro v hv;cases hv
 | cons x r ih =>
  obtain ⟨x',r',rfl,h1,h2⟩:=h.cons_left
  intro v hv
  rcases O1W.1 hv with rfl | hv
  ·exact ⟨_,h1⟩
  ·exact ih h2 v hv
theorem VR.know {v u:Value} (h:VR X φ S v u):∀ c ∈ c0d v,w0C X φ S c:=by
 have hc:=h.cells.know
 have hne:c0d v=a0t v ∨ ∃ a,v=.tuple a:=by cases v <;> first | exact .inr ⟨_,rfl⟩ | exact .inl rfl
 rcases hne with e | ⟨a,rfl⟩
 ·rw [e];exact hc
 ·cases h with
  | tuple _ a' h1 h2 =>
   have hc:=VR.tuple_iff.1 (.tuple _ _ h1 h2)
   simp only [c0d,List.mem_flatMap]
   rintro c ⟨x,hx,hcx⟩
   obtain ⟨u,hu⟩:=hc.know x hx
   exact hu.cells.know c hcx
def g0X (k:Nat):Value->Bool
 | .slice (some a) n _=>n != 0 && a.block == k
 | _=>false
theorem o0d {corr:f0D} {k b off:Nat} {t s:Value} (hk:corr[k]? = some (b,off)) (h:g0X k t=true) (hs:e0T corr t s=true) (hn:w0C X φ S s) :
  ∃ B o,φ b=some (B,o)/\(X.base<=B->∃ e n,S B=some (some e,n)):=by
 unfold g0X at h
 split at h
 ·rename_i a n c
  simp only [M1W,bne_iff_ne,beq_iff_eq] at h
  obtain ⟨h1,rfl⟩:=h
  unfold e0T at hs
  split at hs <;> rename_i e1 <;> try (cases e1;done)
  ·rename_i a' n1 c1 b' n' c' e1
   cases e1
   simp only [M1W,N1L,beq_iff_eq,bne_iff_ne,N1s,O1D] at hs
   obtain ⟨⟨⟨_,_⟩,rfl⟩,h3⟩:=hs
   rcases h3 with ⟨⟨h4,_⟩,_⟩ | ⟨⟨⟨_,_⟩,h6⟩,_⟩
   ·exact N1i h4 h1
   ·rw [hk] at h6
    simp only [M1Q,N1V] at h6
    obtain ⟨rfl,_⟩:=h6
    obtain ⟨u,hu⟩:=hn
    cases hu with
    | sle=>exact N1i rfl h1
    | sl _ a2 _ _ cap' B o k1 k2 k3 k4 k5 k6 k7 k8=>exact ⟨B,o,k2,V0u k4 k8⟩
  ·cases hs
 ·cases h
theorem n0e {corr:f0D} {p:Value->Bool}:∀ {ts ss:List Value},e0o corr ts ss=true->ts.any p=true->∃ t s,t ∈ ts/\s ∈ ss/\p t=true/\e0T corr t s=true
 | [],[],_,h=>by simp at h
 | t :: ts,s :: ss,h,ha=>by
  simp only [e0o,M1W] at h
  simp only [List.any_cons,N1L] at ha
  rcases ha with ha | ha
  ·exact ⟨t,s,by simp,by simp,ha,h.1⟩
  ·obtain ⟨t',s',h1,h2,h3,h4⟩:=n0e h.2 ha
   exact ⟨t',s',by simp [h1],by simp [h2],h3,h4⟩
 | [],_ :: _,h,_=>by cases h
 | _ :: _,[],h,_=>by cases h
theorem o0A {corr:f0D} {t s:Value} (h:h0D corr t s=true):e0o corr (a0t t) (a0t s)=true:=by
 unfold h0D at h
 split at h
 ·exact h
 ·rename_i hno
  have e1 : a0t t = [t] := by cases t <;> try rfl
                              exfalso;cases s <;> simp [e0T] at h
  have e2 : a0t s = [s] := by cases s <;> try rfl
                              exfalso;cases t <;> simp [e0T] at h
  rw [e1,e2];simp [e0o,h]
theorem n0f {corr:f0D}:∀ {a b c d:List Value},e0o corr a b=true->e0o corr c d=true->e0o corr (a ++ c) (b ++ d)=true
 | [],[],c,d,_,h=>by simpa using h
 | x :: a,y :: b,c,d,h,k=>by
  simp only [e0o,M1W,O1y] at h ⊢
  exact ⟨h.1,n0f h.2 k⟩
 | [],_ :: _,_,_,h,_=>by cases h
 | _ :: _,[],_,_,h,_=>by cases h
theorem o0B {corr:f0D}:∀ {ts ss:List Value},n0h corr ts ss=true->e0o corr (ts.flatMap a0t) (ss.flatMap a0t)=true
 | [],[],_=>rfl
 | t :: ts,s :: ss,h=>by
  simp only [n0h,M1W] at h
  simp only [List.flatMap_cons]
  exact n0f (o0A h.1) (o0B h.2)
 | [],_ :: _,h=>by cases h
 | _ :: _,[],h=>by cases h
theorem o0C {corr:f0D} {t s:Value} (h:sameV corr t s=true):e0o corr (c0d t) (c0d s)=true:=by
 unfold sameV at h
 split at h
 ·exact o0B h
 ·rename_i hno
  have e1 : c0d t = a0t t := by cases t <;> try rfl
                                exfalso;cases s <;> simp [h0D,e0T] at h
  have e2 : c0d s = a0t s := by cases s <;> try rfl
                                exfalso;cases t <;> simp [h0D,e0T] at h
  rw [e1,e2];exact o0A h
abbrev n0A:=List (TypeId × List Value)
def l0u (own:Bool) (G:Nat->Blk) (corr:f0D) (k:Nat) (p:TypeId × List Value):Bool :=
 match corr[k]? with
 | some (b,off) =>
  match G b with
  | .row ro e src=>(!own || (!ro && e == p.1)) && Nat.ble (off + p.2.length) src.length && e0o corr p.2 ((src.drop off).take p.2.length)
  | .dead=>false
 | none=>false
def d0q (own:Bool) (G:Nat->Blk) (corr:f0D) (root:List Value):Nat->List Value->n0A->Bool
 | _,_,[]=>true
 | k,seen,p :: r=>(root.any (g0X k) || seen.any (g0X k)) && l0u own G corr k p && d0q own G corr root (k + 1) (seen ++ p.2) r
theorem e0V {own:Bool} {G:Nat->Blk} {corr:f0D} {root:List Value}:∀ {bs:n0A} {k0:Nat} {seen:List Value},d0q own G corr root k0 seen bs=true ->
  ∀ (i:Nat) (p:TypeId × List Value),bs[i]? = some p->(root.any (g0X (k0 + i))=true ∨ seen.any (g0X (k0 + i))=true ∨ ∃ j q,j < i/\bs[j]? = some q/\q.2.any (g0X (k0 + i))=true)/\l0u own G corr (k0 + i) p=true
 | [],k0,seen,h,i,p,hi=>by simp at hi
 | q :: r,k0,seen,h,i,p,hi=>by
  simp only [d0q,M1W,N1L] at h
  cases i with
  | zero =>
   simp only [List.getElem?_cons_zero,M1Q] at hi
   subst hi
   refine ⟨?_,h.1.2⟩
   rcases h.1.1 with h | h
   ·exact .inl h
   ·exact .inr (.inl h)
  | succ i =>
   obtain ⟨h1,h2⟩:=e0V h.2 i p (by simpa using hi)
   rw [show k0 + 1 + i=k0 + (i + 1) by omega] at h1 h2
   refine ⟨?_,h2⟩
   rcases h1 with h1 | h1 | ⟨j,q',h3,h4,h5⟩
   ·exact .inl h1
   ·rw [List.any_append,N1L] at h1
    rcases h1 with h1 | h1
    ·exact .inr (.inl h1)
    ·exact .inr (.inr ⟨0,q,by omega,rfl,h1⟩)
   ·exact .inr (.inr ⟨j + 1,q',by omega,by simpa using h4,h5⟩)
theorem B1Y {W:World} {corr:f0D} {own:Bool} {bs:n0A} {root roots:List Value} (hrow:∀ b B o ro e cs,φ b=some (B,o)->G.bk b=.row ro e cs->g0U X φ W B o ro e cs)
  (hroot:∀ v ∈ roots,w0C X φ (shq W) v) (hsame:e0o corr root roots=true) (hc:d0q own G.bk corr root 0 [] bs=true) :
  ∀ (k:Nat) (p:TypeId × List Value) (b off:Nat),bs[k]? = some p->corr[k]? = some (b,off)->∃ B o,φ b=some (B,o)/\(X.base<=B->∃ e n,shq W B=some (some e,n)):=by
 intro k
 induction k using Nat.strongRecOn with
 | _ k ih =>
  intro p b off hp hk
  obtain ⟨h1,_⟩:=e0V hc k p hp
  rw [N1q] at h1
  rcases h1 with h1 | h1 | ⟨j,q,h3,h4,h5⟩
  ·obtain ⟨t,s,_,g2,g3,g4⟩:=n0e hsame h1
   exact o0d hk g3 g4 (hroot s g2)
  ·simp at h1
  ·obtain ⟨_,g1⟩:=e0V hc j q h4
   rw [N1q] at g1
   unfold l0u at g1
   split at g1
   ·rename_i bj oj hj
    split at g1
    ·rename_i ro e src hsrc
     simp only [M1W] at g1
     obtain ⟨B,o,g2,_⟩:=ih j h3 q bj oj h4 hj
     have hkn:∀ v ∈ src,w0C X φ (shq W) v:=by
      rcases hrow bj B o ro e src g2 hsrc with ⟨c,el,fz,k1,k2,k3,k4⟩ | ⟨m1,m2,es,clk,m3,m4⟩
      ·exact k3.know
      ·exact m4.know
     obtain ⟨t,s,_,g6,g7,g8⟩:=n0e g1.2 h5
     exact o0d hk g7 g8 (hkn s (List.mem_of_mem_drop (O1n g6)))
    ·cases g1
   ·cases g1
theorem q0N {X2:Cx} {φt:Inj} {W:World} {corr:f0D} {m:Nat} {own:Bool} {p:TypeId × List Value} {k b off B o:Nat} (hrow:∀ b B o ro e cs,φ b=some (B,o)->G.bk b=.row ro e cs->g0U X φ W B o ro e cs)
  (hφ:∀ k b off B o,corr[k]? = some (b,off)->φ b=some (B,o)->φt (m + k)=some (B,o + off)) (hb:∀ (k b off B o:Nat),corr[k]? = some (b,off)->φ b=some (B,o)->X2.base<=B->X.base<=B) (hP:X2.P=X.P)
  (hk:corr[k]? = some (b,off)) (hB:φ b=some (B,o)) (hs:X.base<=B->∃ e n,shq W B=some (some e,n)) (hc:l0u own G.bk corr k p=true) :
  ∃ c el fz,W.heap[B]? = some (.cells c el fz)/\o + off + p.2.length<=c.size/\CR X2 φt (shq W) (p.2.map (shC m)) ((c.toList.drop (o + off)).take p.2.length) /\
   (own=true->X.base<=B/\fz=(0,0)/\el=p.1/\∃ src,G.bk b=.row false p.1 src):=by
 unfold l0u at hc
 rw [hk] at hc
 simp only at hc
 split at hc
 ·rename_i ro e src hsrc
  simp only [M1W,Nat.ble_eq] at hc
  obtain ⟨⟨h1,h2⟩,h3⟩:=hc
  obtain ⟨c,el,fz,k1,k2,k3,k4,k5⟩:=(hrow b B o ro e src hB hsrc).cells hs
  refine ⟨c,el,fz,k1,by omega,?_,fun ho=>?_⟩
  ·have:=n0g hφ hb hP h3 ((k3.drop off).take p.2.length)
   have e1:((((c.toList.drop o).take src.length).drop off).take p.2.length)=(c.toList.drop (o + off)).take p.2.length:=by
    rw [O1q,O1p,O1r]
    congr 1
    omega
   rw [e1] at this;exact this
  ·subst ho
   simp only [Bool.not_true,O1U,M1W,O1s,beq_iff_eq] at h1
   obtain ⟨rfl,rfl⟩:=h1
   obtain ⟨g1,g2,g3⟩:=k4 rfl
   exact ⟨g1,g2,g3,src,hsrc⟩
 ·cases hc
theorem g0G:∀ (bs:List Blk) (H:a0c),(pushes H bs).size=H.size + bs.length
 | [],H=>rfl
 | b :: bs,H=>by
  show (pushes (H.push b) bs).size=_
  rw [g0G bs];simp;omega
theorem d0F:∀ (bs:List Blk) (H:a0c) (x:Nat),(pushes H bs).bk x=if x < H.size then H.bk x else (bs[x - H.size]?).getD .dead
 | [],H,x=>by
  show H.bk x=_
  by_cases h:x < H.size
  ·rw [M1Z h]
  ·rw [M1V h];simp [a0c.bk,M1Y,O1i (show H.size<=x by omega)]
 | b :: bs,H,x=>by
  show (pushes (H.push b) bs).bk x=_
  rw [d0F bs,a0z]
  simp only [N1T]
  by_cases h:x < H.size
  ·rw [M1Z (by omega),M1V (by omega),M1Z h]
  ·rw [M1V h]
   by_cases h2:x=H.size
   ·subst h2;simp
   ·rw [M1V (by omega),show x - H.size=(x - (H.size + 1)) + 1 by omega,List.getElem?_cons_succ]
def c0L (ro:Bool) (m:Nat) (bs:n0A):List Blk:=bs.map fun p=>.row ro p.1 (p.2.map (shC m))
def q0L (n0:Nat) (G:Nat->Blk) (corr:f0D) (bs:n0A) (vt r:Value):Bool :=
 Nat.beq corr.length bs.length && corr.all (fun p=>Nat.ble n0 p.1) && decide ((corr.map (·.1)).Nodup) && d0q true G corr (c0d vt) 0 [] bs && sameV corr vt r
theorem v1p {Xs:Cx} {φs:Inj} {n0:Nat} (hRt:Rel X φ H w') (hrow:∀ b B o ro e cs,φs b=some (B,o)->G.bk b=.row ro e cs->g0U Xs φs w' B o ro e cs)
  (hsep:∀ b b' B o o' e cs,φs b=some (B,o)->φs b' = some (B,o')->b ≠ b'->G.bk b=.row false e cs->G.bk b' = .dead) (hP:X.P=Xs.P) (hbase:X.base<=Xs.base)
  (hdis:∀ b B o e src,n0<=b->φs b=some (B,o)->G.bk b=.row false e src->∀ x o' ro e' cs',φ x=some (B,o')->H.bk x ≠ .row ro e' cs')
  {bs:n0A} {corr:f0D} {vt r r':Value} (hr:VR Xs φs (shq w') r r') (hc:q0L n0 G.bk corr bs vt r=true) :
  ∃ φ2:Inj,Rel X φ2 (pushes H (c0L false H.size bs)) w'/\(∀ b y,φ b=some y->φ2 b=some y) /\
   (∀ x B o,φ2 x=some (B,o)->φ x=none->H.size<=x/\∃ b o' e src,n0<=b/\φs b=some (B,o')/\G.bk b=.row false e src)/\VR X φ2 (shq w') (shV H.size vt) r':=by
 unfold q0L at hc
 simp only [M1W,Nat.beq_eq,N1s,N1H,Nat.ble_eq] at hc
 obtain ⟨⟨⟨⟨hlen,hge⟩,hnd⟩,hrows⟩,hsv⟩:=hc
 have hreach:=B1Y (own:=true) hrow hr.know (o0C hsv) hrows
 let φ2:Inj:=fun x=>if x < H.size then φ x else match corr[x - H.size]? with | some (b,off)=>(φs b).map fun y=>(y.1,y.2 + off) | none=>none
 have hφ2o:∀ x,x < H.size->φ2 x=φ x:=fun x hx=>M1Z hx
 have hφ:∀ k b off B o,corr[k]? = some (b,off)->φs b=some (B,o)->φ2 (H.size + k)=some (B,o + off):=by
  intro k b off B o h1 h2
  show (if _ then _ else _)=_
  rw [M1V (by omega),Nat.add_sub_cancel_left,h1]
  simp [h2]
 have hsplit:∀ x y,φ2 x=some y->(x < H.size/\φ x=some y) ∨ ∃ k p b off B o,x=H.size + k/\bs[k]? = some p/\corr[k]? = some (b,off)/\φs b=some (B,o)/\y=(B,o + off):=by
  intro x y hy
  by_cases hx:x < H.size
  ·exact .inl ⟨hx,by rw [<- hφ2o x hx];exact hy⟩
  ·have hy2:(match corr[x - H.size]? with | some (b,off)=>(φs b).map fun y=>(y.1,y.2 + off) | none=>none)=some y:=by rw [<- hy];exact (M1V hx).symm
   split at hy2
   ·rename_i b off hb
    rw [N1z] at hy2
    obtain ⟨⟨B,o⟩,h1,rfl⟩:=hy2
    have hlt:x - H.size < bs.length:=by rw [<- hlen];exact (N1b.1 hb).1
    exact .inr ⟨x - H.size,bs[x - H.size],b,off,B,o,by omega,M1X hlt,hb,h1,rfl⟩
   ·cases hy2
 have hrowN:∀ (k:Nat) (p:TypeId × List Value),bs[k]? = some p->(pushes H (c0L false H.size bs)).bk (H.size + k)=.row false p.1 (p.2.map (shC H.size)):=by
  intro k p hp
  rw [d0F,M1V (by omega),Nat.add_sub_cancel_left]
  simp [c0L,hp]
 have hrowO:∀ x,x < H.size->(pushes H (c0L false H.size bs)).bk x=H.bk x:=fun x hx=>by rw [d0F,M1Z hx]
 have hfresh:∀ k b off,corr[k]? = some (b,off)->n0<=b:=fun k b off hk=>hge _ (List.mem_of_getElem? hk)
 have hsrc:∀ (k:Nat) (b off:Nat),corr[k]? = some (b,off)->∃ p src,bs[k]? = some p/\G.bk b=.row false p.1 src:=by
  intro k b off hk
  have hlt:k < bs.length:=by rw [<- hlen];exact (N1b.1 hk).1
  have hp:bs[k]? = some bs[k]:=M1X hlt
  have h1:=(e0V hrows k _ hp).2
  rw [N1q] at h1
  unfold l0u at h1
  rw [hk] at h1
  simp only at h1
  split at h1
  ·rename_i ro e src hsrc
   simp only [Bool.not_true,O1U,M1W,O1s,beq_iff_eq] at h1
   obtain ⟨⟨⟨rfl,rfl⟩,_⟩,_⟩:=h1
   exact ⟨_,src,hp,hsrc⟩
  ·cases h1
 have hown:∀ (k b off B o:Nat),corr[k]? = some (b,off)->φs b=some (B,o)->X.base<=B->Xs.base<=B:=by
  intro k b off B o hk hB _
  obtain ⟨p,src,_,h1⟩:=hsrc k b off hk
  exact (hrow b B o false p.1 src hB h1).based
 have hrowc:∀ (k:Nat) (p:TypeId × List Value) (b off B o:Nat),bs[k]? = some p->corr[k]? = some (b,off)->φs b=some (B,o)->∃ c el fz,w'.heap[B]? = some (.cells c el fz)/\o + off + p.2.length<=c.size /\
   CR X φ2 (shq w') (p.2.map (shC H.size)) ((c.toList.drop (o + off)).take p.2.length)/\(true=true->Xs.base<=B/\fz=(0,0)/\el=p.1/\∃ src,G.bk b=.row false p.1 src):=by
  intro k p b off B o hp hk hB
  obtain ⟨B1,o1,g1,g2⟩:=hreach k p b off hp hk
  rw [hB] at g1;cases g1
  have:=(e0V hrows k p hp).2
  rw [N1q] at this
  exact q0N (X2:=X) hrow hφ hown hP hk hB g2 this
 refine ⟨φ2,⟨hRt.bs,?_,?_,?_⟩,fun b y hb=>by rw [hφ2o b (hRt.lt b y hb)];exact hb,?_,s0f hφ hown hP hsv hr⟩
 ·intro x y hy
  rw [g0G]
  rcases hsplit x y hy with ⟨h1,_⟩ | ⟨k,p,b,off,B,o,rfl,h2,_⟩
  ·omega
  ·have:=(N1b.1 h2).1
   simp [c0L];omega
 ·intro x B0 o0 ro e cs hy hrw
  rcases hsplit x _ hy with ⟨h1,h2⟩ | ⟨k,p,b,off,B,o,rfl,h2,h3,h4,h5⟩
  ·rw [hrowO x h1] at hrw
   exact (hRt.row x B0 o0 ro e cs h2 hrw).mo (fun b y hb=>by rw [hφ2o b (hRt.lt b y hb)];exact hb) (fun _ _ h=>h) rfl
  ·rw [hrowN k p h2] at hrw
   cases h5;cases hrw
   obtain ⟨c,el,fz,g1,g2,g3,g4⟩:=hrowc k p b off B0 o h2 h3 h4
   obtain ⟨g5,g6,g7,_⟩:=g4 rfl
   exact .inl ⟨c,el,fz,g1,by simpa using g2,by simpa using g3,fun _=>⟨N1n hbase g5,g6,g7⟩,fun h=>by cases h⟩
 ·intro x x' B0 o1 o2 e cs hy hy' hne hrw
  rcases hsplit x _ hy with ⟨h1,h2⟩ | ⟨k,p,b,off,B,o,rfl,h2,h3,h4,h5⟩
  ·rw [hrowO x h1] at hrw
   rcases hsplit x' _ hy' with ⟨h1',h2'⟩ | ⟨k',p',b',off',B',o',rfl,h2',h3',h4',h5'⟩
   ·rw [hrowO x' h1'];exact hRt.sep x x' B0 o1 o2 e cs h2 h2' hne hrw
   ·exfalso
    cases h5'
    obtain ⟨q,src,_,hs⟩:=hsrc k' b' off' h3'
    exact hdis b' B0 o' _ src (hfresh _ _ _ h3') h4' hs x o1 false e cs h2 hrw
  ·cases h5
   obtain ⟨q,src,_,hs⟩:=hsrc k b off h3
   rcases hsplit x' _ hy' with ⟨h1',h2'⟩ | ⟨k',p',b',off',B',o',rfl,h2',h3',h4',h5'⟩
   ·rw [hrowO x' h1']
    cases hbx:H.bk x' with
    | dead=>rfl
    | row ro' e' cs'=>exact N1i hbx (hdis b B0 o _ src (hfresh _ _ _ h3) h4 hs x' o2 ro' e' cs' h2')
   ·exfalso
    cases h5'
    obtain ⟨q',src',_,hs'⟩:=hsrc k' b' off' h3'
    have hbb:b ≠ b':=by
     intro e
     have e1:(corr.map (·.1))[k]? = some b:=by simp [h3]
     have e2:(corr.map (·.1))[k']? = some b:=by simp [h3',e]
     have:=(List.getElem?_inj (by simpa using (N1b.1 h3).1) hnd).1 (e1.trans e2.symm)
     exact hne (by rw [this])
    have:=hsep b b' B0 o o' _ src h4 h4' hbb hs
    rw [this] at hs';cases hs'
 ·intro x B0 o0 hy hn
  rcases hsplit x _ hy with ⟨h1,h2⟩ | ⟨k,p,b,off,B,o,rfl,h2,h3,h4,h5⟩
  ·rw [h2] at hn;cases hn
  ·cases h5
   obtain ⟨q,src,_,hs⟩:=hsrc k b off h3
   exact ⟨by omega,b,o,_,src,hfresh _ _ _ h3,h4,hs⟩
theorem H1P (hR:Rel X φ H w) (h:b0R X fl φ H w φ' G w') (hx:∀ b,b < H.size->G.bk b=H.bk b) (hfl:fl<=H.size) {bs:n0A} {corr:f0D} {vt r r':Value} (hr:VR X φ' (shq w') r r')
  (hc:q0L H.size G.bk corr bs vt r=true):∃ φ2,b0R X fl φ H w φ2 (pushes H (c0L false H.size bs)) w'/\VR X φ2 (shq w') (shV H.size vt) r':=by
 have hforget:=h.forget hR hx
 obtain ⟨φ2,g1,g2,g3,g4⟩:=v1p (n0:=H.size) hforget.rel h.rel.row h.rel.sep rfl (M1U _) (fun b B o e src hb h1 h2 x o' ro e' cs' h3 h4=>by
  have hxl:=hR.lt x _ h3
  have:=h.rel.sep b x B o o' e src h1 (h.ext x _ h3) (by omega) h2
  rw [hx x hxl,h4] at this;cases this) hr hc
 refine ⟨φ2, { ext := g2, rel := g1, shp := h.shp, wsz := h.wsz, os := h.os, tape := h.tape, out := h.out, hsz := (by rw [g0G]; omega), keep := fun b hb => (by rw [d0F, M1Z (by omega)]),
               kind:=fun b e cs hb hr=>⟨cs,by rw [d0F,M1Z hb] at hr;exact hr⟩,fresh:=?_,newB:=?_,frame:=h.frame },g4⟩
 ·intro x y hy hn
  exact (g3 x y.1 y.2 hy hn).1
 ·intro x B o hy hn
  obtain ⟨_,b,o',e,src,h1,h2,h3⟩:=g3 x B o hy hn
  refine h.newB b B o' h2 ?_
  cases hb:φ b with
  | none=>rfl
  | some y=>have:=hR.lt b y hb;omega
structure f0i where
 f:FuncId
 rows:n0A
 args:List Value
 bs:n0A
 v:Value
def f0i.heap (M:f0i):a0c:=(c0L true 0 M.rows).toArray
def f0i.given (M:f0i):List Value:=M.args.map (shV 0)
def l0n (corr:f0D):List Value->List Value->Bool
 | [],[]=>true
 | v :: r,v' :: r'=>sameV corr v v' && l0n corr r r'
 | _,_=>false
def F1T (G:Nat->Blk) (corr:f0D) (M:f0i) (args:List Value):Bool :=
 Nat.beq corr.length M.rows.length && d0q false G corr (M.args.flatMap c0d) 0 [] M.rows && l0n corr M.args args
theorem n0i {corr:f0D}:∀ {ts ss:List Value},l0n corr ts ss=true->e0o corr (ts.flatMap c0d) (ss.flatMap c0d)=true
 | [],[],_=>rfl
 | t :: ts,s :: ss,h=>by
  simp only [l0n,M1W] at h
  simp only [List.flatMap_cons]
  exact n0f (o0C h.1) (n0i h.2)
 | [],_ :: _,h=>by cases h
 | _ :: _,[],h=>by cases h
theorem X0k {call:Nat->FuncId->List Value->a0c->Res (Value × a0c)} {M:f0i} (hsim:∀ n,b0x ⟨X.P,n⟩ call) {r:Value} {G1:a0c} (hrun:call 0 M.f M.given M.heap=.ok (r,G1))
  {corr1:f0D} (hchk:q0L M.rows.length G1.bk corr1 M.bs M.v r=true) {args:List Value} {corr:f0D} (hin:F1T H.bk corr M args=true) {args':Array Value} (hR:Rel X φ H w)
  (hA:CR X φ (shq w) args args'.toList) (hfl:fl<=H.size) :
  s0q X.P M.f=true/\Calls X.P M.f args' w fun e w'=>∃ v' φ',e=.returned v'/\VR X φ' (shq w') (shV H.size M.v) v'/\b0R X fl φ H w φ' (pushes H (c0L false H.size M.bs)) w':=by
 unfold F1T at hin
 simp only [M1W,Nat.beq_eq] at hin
 obtain ⟨⟨hlen,hrows⟩,hsv⟩:=hin
 have hroot:∀ v ∈ args.flatMap c0d,w0C X φ (shq w) v:=by
  simp only [List.mem_flatMap]
  rintro c ⟨x,hx,hcx⟩
  obtain ⟨u,hu⟩:=hA.know x hx
  exact hu.know c hcx
 have hreach:=B1Y (own:=false) hR.row hroot (n0i hsv) hrows
 let X0:Cx:=⟨X.P,w.heap.size⟩
 let φ0:Inj:=fun k=>match corr[k]? with | some (b,off)=>(φ b).map fun y=>(y.1,y.2 + off) | none=>none
 have hφ:∀ k b off B o,corr[k]? = some (b,off)->φ b=some (B,o)->φ0 (0 + k)=some (B,o + off):=by
  intro k b off B o h1 h2
  show (match corr[0 + k]? with | some (b,off)=>(φ b).map fun y:Nat × Nat=>(y.1,y.2 + off) | none=>none)=_
  rw [N1q,h1];simp [h2]
 have hb0:∀ (k b off B o:Nat),corr[k]? = some (b,off)->φ b=some (B,o)->X0.base<=B->X.base<=B:=fun _ _ _ _ _ _ _ h=>N1n hR.bs h
 have hsize:M.heap.size=M.rows.length:=by simp [f0i.heap,c0L]
 have hblk:∀ (k:Nat) (p:TypeId × List Value),M.rows[k]? = some p->M.heap.bk k=.row true p.1 (p.2.map (shC 0)):=by
  intro k p hp
  simp [f0i.heap,c0L,a0c.bk,M1Y,hp]
 have hblk2:∀ k ro e cs,M.heap.bk k=.row ro e cs->∃ p,M.rows[k]? = some p/\ro=true/\e=p.1/\cs=p.2.map (shC 0):=by
  intro k ro e cs h
  have hk:k < M.rows.length:=by rw [<- hsize];exact a0r h
  have hp:M.rows[k]? = some M.rows[k]:=M1X hk
  rw [hblk k _ hp] at h
  cases h
  exact ⟨_,hp,rfl,rfl,rfl⟩
 have hinv:∀ (k:Nat) (y:Nat × Nat),φ0 k=some y->∃ b off B o,corr[k]? = some (b,off)/\φ b=some (B,o)/\y=(B,o + off):=by
  intro k y hy
  have hy2:(match corr[k]? with | some (b,off)=>(φ b).map fun y:Nat × Nat=>(y.1,y.2 + off) | none=>none)=some y:=hy
  split at hy2
  ·rename_i b off hb
   rw [N1z] at hy2
   obtain ⟨⟨B,o⟩,h1,rfl⟩:=hy2
   exact ⟨b,off,B,o,hb,h1,rfl⟩
  ·cases hy2
 have hrel0:Rel X0 φ0 M.heap w:=by
  refine ⟨M1U _,?_,?_,?_⟩
  ·intro k y hy
   obtain ⟨b,off,B,o,h1,_⟩:=hinv k y hy
   rw [hsize,<- hlen];exact (N1b.1 h1).1
  ·intro k B0 o0 ro e cs hy hrw
   obtain ⟨b,off,B,o,h1,h2,h3⟩:=hinv k _ hy
   cases h3
   obtain ⟨p,hp,rfl,rfl,rfl⟩:=hblk2 k ro e cs hrw
   obtain ⟨B1,o1,g1,g2⟩:=hreach k p b off hp h1
   rw [h2] at g1;cases g1
   have hcp:=(e0V hrows k p hp).2
   rw [N1q] at hcp
   obtain ⟨c,el,fz,q1,q2,q3,_⟩:=q0N (X2:=X0) (m:=0) hR.row hφ hb0 rfl h1 h2 g2 hcp
   exact .inl ⟨c,el,fz,q1,by simpa using q2,by simpa using q3,fun h=>(by cases h),fun _=>(N1y.1 q1).1⟩
  ·intro k k' B o o' e cs _ _ _ hrw
   obtain ⟨_,_,h,_⟩:=hblk2 k _ _ _ hrw
   cases h
 have hA0:CR X0 φ0 (shq w) M.given args'.toList:=by
  have key:∀ {ts ss us:List Value},l0n corr ts ss=true->CR X φ (shq w) ss us->CR X0 φ0 (shq w) (ts.map (shV 0)) us:=by
   intro ts
   induction ts with
   | nil =>
    intro ss us h hc
    cases ss with
    | nil=>rw [hc.nil_left];exact CR.nil
    | cons _ _=>cases h
   | cons t ts ih =>
    intro ss us h hc
    cases ss with
    | nil=>cases h
    | cons s ss =>
     simp only [l0n,M1W] at h
     obtain ⟨v',r',rfl,h1,h2⟩:=hc.cons_left
     exact CR.cons (s0f (X2:=X0) (m:=0) hφ hb0 rfl h.1 h1) (ih h.2 h2)
  exact key hsv hA
 obtain ⟨hr,hcall⟩:=(hsim w.heap.size 0 M.f M.given M.heap φ0 w args' hrel0 hA0 (N1K _)).1 r G1 hrun
 refine ⟨hr,hcall.mo ?_⟩
 rintro e w' ⟨v',φ1,rfl,hv,hs⟩
 have hheap:∀ B,B < w.heap.size->w'.heap[B]? = w.heap[B]?:=fun B hB=>hs.frame B hB (fun b o e cs _ _ hrw=>by
  obtain ⟨_,_,h,_⟩:=hblk2 b _ _ _ hrw;cases h)
 have hRt:Rel X φ H w':=⟨N1n hR.bs hs.wsz,hR.lt,fun b B o ro e cs h1 h2=>by
  have h3:=hR.row b B o ro e cs h1 h2
  exact h3.mo (fun _ _ h=>h) hs.shp (hheap B h3.lt),hR.sep⟩
 obtain ⟨φ2,g1,g2,g3,g4⟩:=v1p (X:=X) (Xs:=X0) (n0:=M.rows.length) hRt hs.rel.row hs.rel.sep rfl hR.bs (fun b B o e src _ h1 h2 x o' ro e' cs' h3 h4=>by
  have hge:=(hs.rel.row b B o false e src h1 h2).based
  have hlt:=(hR.row x B o' ro e' cs' h3 h4).lt
  exact N1i hlt (Nat.not_lt.2 hge)) hv hchk
 refine ⟨v',φ2,rfl,g4,{ ext:=g2,rel:=g1,shp:=hs.shp,wsz:=hs.wsz,os:=hs.os,tape:=hs.tape,out:=hs.out,hsz:=(by rw [g0G];omega),keep:=fun b hb=>(by rw [d0F,M1Z (by omega)]),kind:=fun b e cs hb hr=>⟨cs,(by rw [d0F,M1Z hb] at hr;exact hr)⟩,fresh:=?_,newB:=?_,frame:=fun B hB _=>hheap B hB }⟩
 ·intro x y hy hn
  exact (g3 x y.1 y.2 hy hn).1
 ·intro x B o hy hn
  obtain ⟨_,b,o',e,src,h1,h2,h3⟩:=g3 x B o hy hn
  exact .inl (hs.rel.row b B o' false e src h2 h3).based
end
section
theorem r0l {X:Cx} {call:Nat->FuncId->List Value->a0c->Res (Value × a0c)} (hsim:b0x X call) {f:FuncId} {b:Bool} {H1:a0c} (h:call 0 f [] #[]=.ok (.bool b,H1)) :
  b0x X fun _ g args H=>if g=f/\args=[] then .ok (.bool b,H) else .bad:=by
 intro fl g args H φ w args' hR hA hfl
 refine ⟨fun v H' he=>?_,fun v he=>?_⟩
 ·simp only at he
  split at he
  ·rename_i hc
   obtain ⟨rfl,rfl⟩:=hc
   simp only [Res.ok.injEq,N1V] at he
   obtain ⟨rfl,rfl⟩:=he
   have hA':args'.toList=[]:=hA.nil_left
   have h0:Rel X (fun _=>none) #[] w:=⟨hR.bs,fun _ _ h=>by simp at h,fun _ _ _ _ _ _ h=>by simp at h,fun _ _ _ _ _ _ _ h=>by simp at h⟩
   have hA0:CR X (fun _=>none) (shq w) [] args'.toList:=by rw [hA'];exact CR.nil
   obtain ⟨hr,hc⟩:=(hsim 0 g [] #[] (fun _=>none) w args' h0 hA0 (M1U _)).1 _ _ h
   refine ⟨hr,hc.mo ?_⟩
   rintro e w' ⟨v',φ',rfl,hv,hs⟩
   cases hv
   have hfr:∀ B,B < w.heap.size->w'.heap[B]? = w.heap[B]?:=fun B hB=>hs.frame B hB (fun _ _ _ _ h=>by simp at h)
   refine ⟨_,φ,rfl,.bool b,?_⟩
   have hblt:∀ b B o ro e cs,φ b=some (B,o)->H.bk b=.row ro e cs->B < w.heap.size:=fun b B o ro e cs h1 h2=>by
    exact (hR.row b B o ro e cs h1 h2).lt
   exact { ext := fun _ _ h => h
           rel:=⟨N1n hR.bs hs.wsz,hR.lt,fun b B o ro e cs h1 h2=>(hR.row b B o ro e cs h1 h2).mo (fun _ _ h=>h) hs.shp (hfr B (hblt b B o ro e cs h1 h2)),hR.sep⟩
           shp:=hs.shp,wsz:=hs.wsz,os:=hs.os,tape:=hs.tape,out:=hs.out
           hsz:=M1U _,keep:=fun _ _=>rfl,kind:=fun b e cs _ h=>⟨cs,h⟩
           fresh:=fun b x h1 h2=>by rw [h1] at h2;cases h2
           newB:=fun b B o h1 h2=>by rw [h1] at h2;cases h2
           frame:=fun B hB _=>hfr B hB }
  ·cases he
 ·simp only at he
  split at he <;> cases he
