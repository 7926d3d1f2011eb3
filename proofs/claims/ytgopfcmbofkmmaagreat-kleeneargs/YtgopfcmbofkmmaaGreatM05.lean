/- Part 6 of the proof. -/
import Derived.Deep.Slices
import Derived.ProofKit
import Derived.OpenShut
import Derived.Test.YtgopfcmbofkmmaaGreatM04
set_option linter.unusedVariables false
set_option linter.unusedSimpArgs false
set_option linter.unusedSectionVars false
namespace Go.Proofs.YtgopfcmbofkmmaaGreat.AI
section
open Go
inductive Tr (α:Type) where
 | emp
 | leaf (a:α)
 | node (l r:Tr α)
namespace Tr
variable {α:Type}
noncomputable def get (z:α) (t:Tr α):Nat->α :=
 @Tr.rec α (fun _=>Nat->α) (fun _=>z) (fun a k=>@Bool.rec (fun _=>α) z a (Nat.beq k (nat_lit 0)))
  (fun _ _ gl gr k=>@Bool.rec (fun _=>α) (gr (Nat.div k (nat_lit 2))) (gl (Nat.div k (nat_lit 2))) (Nat.beq (Nat.mod k (nat_lit 2)) (nat_lit 0))) t
noncomputable def set (d:Nat):Tr α->Nat->α->Tr α :=
 @Nat.rec (fun _=>Tr α->Nat->α->Tr α) (fun _ _ a=>.leaf a)
  (fun _ ih t k a=>@Tr.rec α (fun _=>Tr α)
   (@Bool.rec (fun _=>Tr α) (.node .emp (ih .emp (Nat.div k (nat_lit 2)) a)) (.node (ih .emp (Nat.div k (nat_lit 2)) a) .emp) (Nat.beq (Nat.mod k (nat_lit 2)) (nat_lit 0)))
   (fun _=>@Bool.rec (fun _=>Tr α) (.node .emp (ih .emp (Nat.div k (nat_lit 2)) a)) (.node (ih .emp (Nat.div k (nat_lit 2)) a) .emp) (Nat.beq (Nat.mod k (nat_lit 2)) (nat_lit 0)))
   (fun l r _ _=>@Bool.rec (fun _=>Tr α) (.node l (ih r (Nat.div k (nat_lit 2)) a)) (.node (ih l (Nat.div k (nat_lit 2)) a) r) (Nat.beq (Nat.mod k (nat_lit 2)) (nat_lit 0))) t) d
theorem s0B (k:Nat):Nat.beq (Nat.mod k (nat_lit 2)) (nat_lit 0)=decide (k % 2=0):=by
 show Nat.beq (k % 2) 0=_
 rcases Nat.mod_two_eq_zero_or_one k with h | h <;> rw [h] <;> rfl
theorem get_emp (z:α) (j:Nat):get z .emp j=z:=rfl
theorem v0l (z a:α) (j:Nat):get z (.leaf a) j=if j=0 then a else z:=by cases j <;> rfl
theorem l0L (z:α) (l r:Tr α) (k:Nat):get z (.node l r) k=if k % 2=0 then get z l (k / 2) else get z r (k / 2):=by
 show @Bool.rec (fun _=>α) (get z r (k / 2)) (get z l (k / 2)) (Nat.beq (Nat.mod k (nat_lit 2)) (nat_lit 0))=_
 rw [s0B]
 by_cases h:k % 2=0
 ·rw [M1Z h,decide_eq_true h]
 ·rw [M1V h,decide_eq_false h]
theorem w0u (t:Tr α) (k:Nat) (a:α):set 0 t k a=.leaf a:=rfl
theorem E0X (d k:Nat) (a:α):set (d + 1) .emp k a=if k % 2=0 then .node (set d .emp (k / 2) a) .emp else .node .emp (set d .emp (k / 2) a):=by
 show @Bool.rec (fun _=>Tr α) (.node .emp (set d .emp (k / 2) a)) (.node (set d .emp (k / 2) a) .emp) (Nat.beq (Nat.mod k (nat_lit 2)) (nat_lit 0))=_
 rw [s0B]
 by_cases h:k % 2=0
 ·rw [M1Z h,decide_eq_true h]
 ·rw [M1V h,decide_eq_false h]
theorem w0t (d k:Nat) (l r:Tr α) (a:α):set (d + 1) (.node l r) k a=if k % 2=0 then .node (set d l (k / 2) a) r else .node l (set d r (k / 2) a):=by
 show @Bool.rec (fun _=>Tr α) (.node l (set d r (k / 2) a)) (.node (set d l (k / 2) a) r) (Nat.beq (Nat.mod k (nat_lit 2)) (nat_lit 0))=_
 rw [s0B]
 by_cases h:k % 2=0
 ·rw [M1Z h,decide_eq_true h]
 ·rw [M1V h,decide_eq_false h]
def Wf:Nat->Tr α->Prop
 | _,.emp=>True
 | 0,.leaf _=>True
 | d + 1,.node l r=>Wf d l/\Wf d r
 | 0,.node _ _=>False
 | _ + 1,.leaf _=>False
theorem wf_emp (d:Nat):Wf d (.emp:Tr α):=by cases d <;> exact trivial
theorem wf_set:∀ (d:Nat) (t:Tr α) (k:Nat) (a:α),Wf d t->Wf d (t.set d k a)
 | 0,t,k,a,_=>by rw [w0u];exact trivial
 | d + 1,.node l r,k,a,h=>by
  rw [w0t]
  split
  ·exact ⟨wf_set d l _ a h.1,h.2⟩
  ·exact ⟨h.1,wf_set d r _ a h.2⟩
 | d + 1,.emp,k,a,_=>by
  rw [E0X]
  split
  ·exact ⟨wf_set d _ _ a (wf_emp d),wf_emp d⟩
  ·exact ⟨wf_emp d,wf_set d _ _ a (wf_emp d)⟩
 | d + 1,.leaf _,k,a,h=>by simp [Wf] at h
theorem get_set (z:α):∀ (d:Nat) (t:Tr α) (k j:Nat) (a:α),Wf d t->k < 2 ^ d->get z (t.set d k a) j=if j=k then a else t.get z j
 | 0,t,k,j,a,h,hk=>by
  have:k=0:=by simp at hk;exact hk
  subst this
  rw [w0u,v0l]
  split
  ·rfl
  ·rename_i x
   cases t with
   | emp=>rfl
   | leaf b=>rw [v0l,M1V x]
   | node l r=>exact N1i h (by simp [Wf])
 | d + 1,t,k,j,a,h,hk=>by
  have s:k / 2 < 2 ^ d:=by rw [N1m] at hk;omega
  have u:∀ l r:Tr α,Wf d l->Wf d r->get z (if k % 2=0 then .node (set d l (k / 2) a) r else .node l (set d r (k / 2) a)) j=if j=k then a else get z (.node l r) j:=by
   intro l r y F
   rw [l0L]
   by_cases w:k % 2=0
   ·rw [M1Z w,l0L]
    by_cases c:j % 2=0
    ·rw [M1Z c,M1Z c,get_set z d l (k / 2) (j / 2) a y s]
     by_cases q:j=k
     ·rw [M1Z q,M1Z (by rw [q])]
     ·rw [M1V q,M1V (by omega)]
    ·rw [M1V c,M1V c,M1V (by omega)]
   ·rw [M1V w,l0L]
    by_cases c:j % 2=0
    ·rw [M1Z c,M1Z c,M1V (by omega)]
    ·rw [M1V c,M1V c,get_set z d r (k / 2) (j / 2) a F s]
     by_cases q:j=k
     ·rw [M1Z q,M1Z (by rw [q])]
     ·rw [M1V q,M1V (by omega)]
  cases t with
  | emp=>rw [E0X,u _ _ (wf_emp d) (wf_emp d),l0L,get_emp];simp [get_emp]
  | leaf b=>exact N1i h (by simp [Wf])
  | node l r=>rw [w0t];exact u l r h.1 h.2
end Tr
noncomputable def dR (N:Nat):Nat:=Nat.succ (Nat.log2 N)
abbrev dH:Nat:=nat_lit 13
abbrev mH:Nat:=nat_lit 8192
noncomputable def r0i (t:Tr Value):Nat->Value :=
 @Tr.rec Value (fun _=>Nat->Value) (fun _=>undef) (fun a k=>@Bool.rec (fun _=>Value) undef a (Nat.beq k (nat_lit 0)))
  (fun _ _ gl gr k=>@Bool.rec (fun _=>Value) (gr (Nat.div k (nat_lit 2))) (gl (Nat.div k (nat_lit 2))) (Nat.beq (Nat.mod k (nat_lit 2)) (nat_lit 0))) t
noncomputable def m0s (t:Tr Blk):Nat->Blk :=
 @Tr.rec Blk (fun _=>Nat->Blk) (fun _=>.dead) (fun a k=>@Bool.rec (fun _=>Blk) .dead a (Nat.beq k (nat_lit 0)))
  (fun _ _ gl gr k=>@Bool.rec (fun _=>Blk) (gr (Nat.div k (nat_lit 2))) (gl (Nat.div k (nat_lit 2))) (Nat.beq (Nat.mod k (nat_lit 2)) (nat_lit 0))) t
noncomputable def L1G (d:Nat):Tr Value->Nat->Value->Tr Value :=
 @Nat.rec (fun _=>Tr Value->Nat->Value->Tr Value) (fun _ _ a=>.leaf a)
  (fun _ ih t k a=>@Tr.rec Value (fun _=>Tr Value)
   (@Bool.rec (fun _=>Tr Value) (.node .emp (ih .emp (Nat.div k (nat_lit 2)) a)) (.node (ih .emp (Nat.div k (nat_lit 2)) a) .emp) (Nat.beq (Nat.mod k (nat_lit 2)) (nat_lit 0)))
   (fun _=>@Bool.rec (fun _=>Tr Value) (.node .emp (ih .emp (Nat.div k (nat_lit 2)) a)) (.node (ih .emp (Nat.div k (nat_lit 2)) a) .emp) (Nat.beq (Nat.mod k (nat_lit 2)) (nat_lit 0)))
   (fun l r _ _=>@Bool.rec (fun _=>Tr Value) (.node l (ih r (Nat.div k (nat_lit 2)) a)) (.node (ih l (Nat.div k (nat_lit 2)) a) r) (Nat.beq (Nat.mod k (nat_lit 2)) (nat_lit 0))) t) d
noncomputable def F1c (d:Nat):Tr Blk->Nat->Blk->Tr Blk :=
 @Nat.rec (fun _=>Tr Blk->Nat->Blk->Tr Blk) (fun _ _ a=>.leaf a)
  (fun _ ih t k a=>@Tr.rec Blk (fun _=>Tr Blk)
   (@Bool.rec (fun _=>Tr Blk) (.node .emp (ih .emp (Nat.div k (nat_lit 2)) a)) (.node (ih .emp (Nat.div k (nat_lit 2)) a) .emp) (Nat.beq (Nat.mod k (nat_lit 2)) (nat_lit 0)))
   (fun _=>@Bool.rec (fun _=>Tr Blk) (.node .emp (ih .emp (Nat.div k (nat_lit 2)) a)) (.node (ih .emp (Nat.div k (nat_lit 2)) a) .emp) (Nat.beq (Nat.mod k (nat_lit 2)) (nat_lit 0)))
   (fun l r _ _=>@Bool.rec (fun _=>Tr Blk) (.node l (ih r (Nat.div k (nat_lit 2)) a)) (.node (ih l (Nat.div k (nat_lit 2)) a) r) (Nat.beq (Nat.mod k (nat_lit 2)) (nat_lit 0))) t) d
noncomputable def F0D (R:Tr Value) (N:Nat) (d:Option Nat) (v:Value):Tr Value :=
 @Option.rec Nat (fun _=>Tr Value) R (fun d=>@Bool.rec (fun _=>Tr Value) R (L1G (dR N) R d v) (Nat.ble (Nat.succ d) N)) d
inductive ResF where
 | bad
 | pan (v:Value)
 | ok (v:Value) (T:Tr Blk) (n:Nat)
inductive OutF where
 | bad
 | pan (v:Value)
 | fin (e:XA) (R:Tr Value) (T:Tr Blk) (n:Nat)
noncomputable def I1N:Eff->Value->Tr Blk->Nat->ResF :=
 @Eff.rec (fun _=>Value->Tr Blk->Nat->ResF) .ok
  (fun b v T n=>@Bool.rec (fun _=>ResF) .bad (.ok v (F1c dH T n b) (Nat.add n (nat_lit 1))) (Nat.ble (Nat.succ n) mH))
  (fun k b v T n=>@Bool.rec (fun _=>ResF) .bad (.ok v (F1c dH T k b) n) (Nat.ble (Nat.succ k) n))
  (fun k b v T n=>@Bool.rec (fun _=>ResF) .bad (@Bool.rec (fun _=>ResF) .bad (.ok v (F1c dH (F1c dH T k .dead) n b) (Nat.add n (nat_lit 1))) (Nat.ble (Nat.succ n) mH)) (Nat.ble (Nat.succ k) n))
noncomputable def n0o (R:Tr Value) (g:Option (Nat × Bool)):Bool :=
 @Option.rec _ (fun _=>Bool) true (fun p=>F0t (r0i R p.1) p.2) g
def F0n (g:Nat->Value):SOp->List Nat × List Nat
 | .load _ _ a=>(blkOf (evG g a),[])
 | .store _ a _=>([],blkOf (evG g a))
 | .app _ _ _ s x=>(blkOf (evG g x),blkW (evG g s))
 | .sl _ _ x _ _ _=>(blkOf (evG g x),[])
 | .fa0 _ x=>(blkOf (evG g x),[])
 | .look _ x _=>(blkOf (evG g x),[])
 | .mupd x _ _=>([],blkOf (evG g x))
 | .b2s x=>(blkOf (evG g x),[])
 | _=>([],[])
def H1Q (n:Nat) (B B':Nat->Blk):List Nat:=(List.range n).filter fun b=>!n0c (B b) (B' b)
def n0m (g:Nat->Value) (op:SOp) (n:Nat) (B B':Nat->Blk):List Nat × List Nat :=
 match a0W op with
 | true=>([],H1Q n B B')
 | false=>F0n g op
section
variable (call:Nat->FuncId->List Value->Tr Blk->Nat->ResF) (N:Nat)
noncomputable def q0o (fl:Nat) (R:Tr Value) (T:Tr Blk) (n:Nat) (o:SOp):ResF :=
 @OpResE.rec (fun _=>ResF) .bad (fun v e=>I1N e v T n) .pan (fun f args lone=>call (@Bool.rec (fun _=>Nat) (@Bool.rec (fun _=>Nat) fl n (Nat.ble fl n)) fl lone) f args T n)
  (opK o (m0s T) n fl (r0i R))
noncomputable def G1z (fl:Nat) (ops:List a0v):Tr Value->Tr Blk->Nat->OutF :=
 @List.rec a0v (fun _=>Tr Value->Tr Blk->Nat->OutF) (.fin .normal)
  (fun o _ ih R T n=>@Bool.rec (fun _=>OutF) (ih (F0D R N o.dst undef) T n)
   (@ResF.rec (fun _=>OutF) .bad .pan (fun v T' n'=>ih (F0D R N o.dst v) T' n') (q0o call fl R T n o.op)) (n0o R o.g)) ops
noncomputable def s0E (fl:Nat) (bef:List Nat) (pairs:List (Nat × Nat)) (ops:List a0v):Nat->Tr Value->Tr Blk->Nat->Option (Nat × Value)->List (List Nat × List Nat)->OutF :=
 @List.rec a0v (fun _=>Nat->Tr Value->Tr Blk->Nat->Option (Nat × Value)->List (List Nat × List Nat)->OutF)
  (fun _ R T n p log=>@Bool.rec (fun _=>OutF) .bad (match p with | none=>.fin .normal R T n | some (_,v)=>.pan v) (c0u log.reverse pairs))
  (fun o _ ih i R T n p log =>
   @Bool.rec (fun _=>OutF)
    (@Bool.rec (fun _=>OutF) (ih (Nat.add i (nat_lit 1)) (F0D R N o.dst undef) T n p (([],[]) :: log))
     (@ResF.rec (fun _=>OutF) .bad (fun v=>match p with | none=>ih (Nat.add i (nat_lit 1)) R T n (some (i,v)) (([],[]) :: log) | some _=>.bad)
      (fun v T' n'=>ih (Nat.add i (nat_lit 1)) (F0D R N o.dst v) T' n' p (n0m (r0i R) o.op n (m0s T) (m0s T') :: log)) (q0o call fl R T n o.op)) (n0o R o.g))
    (ih (Nat.add i (nat_lit 1)) R T n p (([],[]) :: log)) (j0u bef i p)) ops
end
abbrev k0T:=Nat->FuncId->List Value->Tr Blk->Nat->ResF
abbrev U0V:=SCode->Tr Value->Tr Blk->Nat->OutF
abbrev l0V:=U0V->k0T->Nat->Nat->Tr Value->Tr Blk->Nat->OutF
noncomputable def F1z:l0V:=fun _ _ _ _ R T n=>.fin .normal R T n
noncomputable def K1Q (a b:SCode):l0V:=fun ih _ _ _ R T n =>
 @OutF.rec (fun _=>OutF) .bad .pan (fun e R' T' n'=>@XA.rec (fun _=>OutF) (ih b R' T' n') (fun id=>.fin (.exit id) R' T' n') (.fin .ret R' T' n') e) (ih a R T n)
noncomputable def v1h:Value->OutF->OutF->OutF :=
 @Value.rec (fun _=>OutF->OutF->OutF) (fun _=>Unit) (fun _=>Unit)
  (fun b x y=>@Bool.rec (fun _=>OutF) y x b) (fun _ _ _ _=>.bad) (fun _ _ _ _=>.bad) (fun _ _ _ _ _=>.bad) (fun _ _ _=>.bad) (fun _ _ _=>.bad) (fun _ _ _ _ _=>.bad) (fun _ _ _=>.bad) (fun _ _ _=>.bad)
  (fun _ _ _ _ _ _ _=>.bad) (fun _ _=>.bad) (fun _ _ _ _ _=>.bad) (fun _ _=>.bad) (fun _ _ _ _=>.bad) (fun _ _ _ _=>.bad) (fun _ _=>()) () (fun _ _ _ _=>())
noncomputable def F1v (c:Opd) (a b:SCode):l0V:=fun ih _ _ _ R T n=>v1h (evK c (r0i R)) (ih a R T n) (ih b R T n)
noncomputable def u1a (id:Nat) (c:SCode):l0V:=fun ih _ _ _ R T n =>
 @OutF.rec (fun _=>OutF) .bad .pan
  (fun e R' T' n'=>@XA.rec (fun _=>OutF) (.fin .normal R' T' n') (fun id'=>@Bool.rec (fun _=>OutF) (.fin (.exit id') R' T' n') (.fin .normal R' T' n') (Nat.beq id' id)) (.fin .ret R' T' n') e) (ih c R T n)
noncomputable def F1y (c:SCode):l0V:=fun ih _ _ _ R T n =>
 @OutF.rec (fun _=>OutF) .bad .pan (fun e R' T' n'=>@XA.rec (fun _=>OutF) (ih (.loop c) R' T' n') (fun id=>.fin (.exit id) R' T' n') (.fin .ret R' T' n') e) (ih c R T n)
noncomputable def F1x (id:Nat):l0V:=fun _ _ _ _ R T n=>.fin (.exit id) R T n
noncomputable def K1P:l0V:=fun _ _ _ _ R T n=>.fin .ret R T n
noncomputable def K1O (ops:List a0v):l0V:=fun _ call N fl R T n=>G1z call N fl ops R T n
noncomputable def F1w (ops:List a0v) (bef:List Nat) (pairs:List (Nat × Nat)):l0V:=fun _ call N fl R T n=>s0E call N fl bef pairs ops (nat_lit 0) R T n none []
noncomputable def K1N:SCode->l0V :=
 @SCode.rec (fun _=>l0V) F1z (fun a b _ _=>K1Q a b) (fun c a b _ _=>F1v c a b) (fun id c _=>u1a id c) (fun c _=>F1y c) F1x K1P K1O F1w
noncomputable def j0s (call:k0T) (N fl m:Nat):U0V :=
 @Nat.rec (fun _=>U0V) (fun _ _ _ _=>.bad) (fun _ ih c R T n=>K1N c ih call N fl R T n) m
def L1a (g:Nat->Value) (bk:Nat->Blk):SRes->Option Value
 | .tmp i=>some (g i)
 | .cell a agg n=>r0p bk agg n (g a)
def j0D (g:Nat->Value) (bk:Nat->Blk):List SRes->Option (List Value)
 | []=>some []
 | r :: rs=>match L1a g bk r,j0D g bk rs with | some v,some vs=>some (v :: vs) | _,_=>none
noncomputable def s0a (d:Nat) (l:List Value):Nat->Tr Value :=
 @List.rec Value (fun _=>Nat->Tr Value) (fun _=>.emp) (fun v _ ih i=>L1G d (ih (Nat.add i (nat_lit 1))) i v) l
noncomputable def I1O (res:List SRes) (o:OutF):ResF :=
 @OutF.rec (fun _=>ResF) .bad .pan (fun e R T n=>@XA.rec (fun _=>ResF)
  (match j0D (r0i R) (m0s T) res with | some vs=>.ok (b0K vs) T n | none=>.bad) (fun _=>.bad)
  (match j0D (r0i R) (m0s T) res with | some vs=>.ok (b0K vs) T n | none=>.bad) e) o
def j0h (z:List Value) (T:Tr Blk) (n:Nat):ResF->ResF
 | .bad=>.bad
 | .pan (.iface _ _)=>.ok (.tuple #[.agg z.toArray,.int .i64 0,.bool false]) T n
 | .pan _=>.bad
 | .ok (.tuple vs) T' n'=>match vs.toList with | [.agg a,.int k n1]=>if a.size=z.length/\a.toList.all a0n=true then .ok (.tuple #[.agg a,.int k n1,.bool true]) T' n' else .bad | _=>.bad
 | .ok _ _ _=>.bad
noncomputable def t0x (bs:List Blk):Value->Tr Blk->Nat->ResF :=
 @List.rec Blk (fun _=>Value->Tr Blk->Nat->ResF) .ok (fun b _ ih v T n=>@Bool.rec (fun _=>ResF) .bad (ih v (F1c dH T n b) (Nat.add n (nat_lit 1))) (Nat.ble (Nat.succ n) mH)) bs
abbrev u1G:=FuncId->List Value->(Nat->Blk)->Nat->Option (Value × List Blk)
noncomputable def p0k (quick:Option F0I) (prim:u1G) (ih:k0T):k0T:=fun fl f args T n =>
 @Option.rec (Value × List Blk) (fun _=>ResF)
  (match quick with
    | some q =>
     if f=q.f then
      match args with
      | [.agg p,.agg s]=>if p.size=q.np/\s.size=q.ns then j0h q.zero T n (ih (@Bool.rec (fun _=>Nat) fl n (Nat.ble fl n)) q.solved [.agg #[],.agg p,.agg s] T n) else .bad
      | _=>.bad
     else .bad
    | none=>.bad)
  (fun p=>t0x p.2 p.1 T n) (prim f args (m0s T) n)
noncomputable def k0x (code:FuncId->Option n0v) (quick:Option F0I) (prim:u1G) (m:Nat):k0T :=
 @Nat.rec (fun _=>k0T) (fun _ _ _ _ _=>.bad)
  (fun m ih fl f args T n=>@Option.rec _ (fun _=>ResF) (p0k quick prim ih fl f args T n)
   (fun sf=>@Bool.rec (fun _=>ResF) .bad (@Bool.rec (fun _=>ResF) .bad (I1O sf.res (j0s ih sf.nt fl m sf.body (s0a (dR sf.nt) args (nat_lit 0)) T n)) (Nat.ble sf.np sf.nt)) (Nat.beq (q0w args) sf.np)) (code f)) m
structure l0t (T:Tr Blk) (n:Nat) (H:a0c):Prop where
 sz:n=H.size
 le:n<=mH
 wf:T.Wf dH
 eq:∀ b,T.get .dead b=H.bk b
structure s0p (R:Tr Value) (N:Nat) (t:a0U):Prop where
 sz:N=t.length
 wf:R.Wf (dR N)
 eq:∀ i,R.get undef i=AI.get t i
variable {T:Tr Blk} {n:Nat} {H:a0c} {R:Tr Value} {N:Nat} {t:a0U} {fl:Nat}
theorem l0t.bk (h:l0t T n H):m0s T=H.bk:=by funext b;exact h.eq b
theorem s0p.rd (h:s0p R N t):r0i R=AI.get t:=by funext i;exact h.eq i
theorem v1q (N:Nat):N < 2 ^ dR N:=Nat.lt_log2_self
theorem s0p.put (h:s0p R N t) (d:Option Nat) (v:Value):s0p (F0D R N d v) N (AI.put t d v):=by
 cases d with
 | none=>exact h
 | some d =>
  show s0p (@Bool.rec (fun _=>Tr Value) R (Tr.set (dR N) R d v) (Nat.ble (Nat.succ d) N)) N (t.set d v)
  rw [b0l]
  by_cases j:d.succ<=N
  ·rw [M1Z j]
   refine ⟨by simpa using h.sz,Tr.wf_set _ _ _ _ h.wf,fun i=>?_⟩
   rw [Tr.get_set _ _ _ _ _ _ h.wf (Nat.lt_trans j (v1q N))]
   unfold AI.get
   rw [M1R,N1C]
   by_cases c:i=d
   ·subst c;rw [M1Z rfl,M1Z rfl,M1Z (by rw [<- h.sz];exact j)];rfl
   ·rw [M1V c,M1V (fun e=>c e.symm),h.eq i];unfold AI.get;rw [M1R]
  ·rw [M1V j,List.set_eq_of_length_le (by rw [<- h.sz];omega)];exact h
theorem l0t.push (h:l0t T n H) (k:n < mH) (b:Blk):l0t (T.set dH n b) (n + 1) (H.push b):=by
 refine ⟨by simp [h.sz],k,Tr.wf_set _ _ _ _ h.wf,fun j=>?_⟩
 rw [Tr.get_set _ _ _ _ _ _ h.wf k]
 unfold a0c.bk
 rw [M1Y,P1b]
 by_cases c:j=n
 ·rw [M1Z c,M1Z (by rw [c];exact h.sz)];rfl
 ·rw [M1V c,M1V (by rw [<- h.sz];exact c),h.eq j];unfold a0c.bk;rw [M1Y]
theorem l0t.set (h:l0t T n H) {k:Nat} (q:k < n) (b:Blk):l0t (T.set dH k b) n (H.setIfInBounds k b):=by
 refine ⟨by simpa using h.sz,h.le,Tr.wf_set _ _ _ _ h.wf,fun j=>?_⟩
 rw [Tr.get_set _ _ _ _ _ _ h.wf (N1k q h.le)]
 unfold a0c.bk
 rw [M1Y,N1l]
 by_cases c:j=k
 ·subst c;rw [M1Z rfl,M1Z rfl,M1Z (by rw [<- h.sz];exact q)];rfl
 ·rw [M1V c,M1V (fun e=>c e.symm),h.eq j];unfold a0c.bk;rw [M1Y]
theorem V0F (h:l0t T n H) {v v':Value} {e:Eff} {r:Tr Blk} {s:Nat} (c:I1N e v T n=.ok v' r s):v' = v/\l0t r s (e.app H):=by
 cases e with
 | same=>cases c;exact ⟨rfl,h⟩
 | push b =>
  change @Bool.rec (fun _=>ResF) .bad (.ok v (Tr.set dH T n b) (n + 1)) (Nat.ble (Nat.succ n) mH)=_ at c
  rw [b0l] at c
  split at c
  ·rename_i q;cases c;exact ⟨rfl,h.push q b⟩
  ·cases c
 | set k b =>
  change @Bool.rec (fun _=>ResF) .bad (.ok v (Tr.set dH T k b) n) (Nat.ble (Nat.succ k) n)=_ at c
  rw [b0l] at c
  split at c
  ·rename_i j;cases c;exact ⟨rfl,h.set j b⟩
  ·cases c
 | mv k b =>
  change @Bool.rec (fun _=>ResF) .bad (@Bool.rec (fun _=>ResF) .bad (.ok v (Tr.set dH (Tr.set dH T k .dead) n b) (n + 1)) (Nat.ble (Nat.succ n) mH)) (Nat.ble (Nat.succ k) n)=_ at c
  rw [b0l,b0l] at c
  split at c
  ·rename_i j
   split at c
   ·rename_i q;cases c;exact ⟨rfl,(h.set j .dead).push q b⟩
   ·cases c
  ·cases c
theorem G0j {v v':Value} {e:Eff}:I1N e v T n ≠ .pan v':=by
 intro c
 cases e with
 | same=>cases c
 | push b =>
  change @Bool.rec (fun _=>ResF) .bad (.ok v (Tr.set dH T n b) (n + 1)) (Nat.ble (Nat.succ n) mH)=_ at c
  rw [b0l] at c;split at c <;> cases c
 | set k b =>
  change @Bool.rec (fun _=>ResF) .bad (.ok v (Tr.set dH T k b) n) (Nat.ble (Nat.succ k) n)=_ at c
  rw [b0l] at c;split at c <;> cases c
 | mv k b =>
  change @Bool.rec (fun _=>ResF) .bad (@Bool.rec (fun _=>ResF) .bad (.ok v (Tr.set dH (Tr.set dH T k .dead) n b) (n + 1)) (Nat.ble (Nat.succ n) mH)) (Nat.ble (Nat.succ k) n)=_ at c
  rw [b0l,b0l] at c
  split at c
  ·split at c <;> cases c
  ·cases c
def u1B (cF:k0T) (cA:Nat->FuncId->List Value->a0c->Res (Value × a0c)):Prop :=
 ∀ fl f args T n H,l0t T n H ->
  (∀ v T' n',cF fl f args T n=.ok v T' n'->∃ H',cA fl f args H=.ok (v,H')/\l0t T' n' H')/\(∀ v,cF fl f args T n=.pan v->cA fl f args H=.pan v)
def b0I (N:Nat) (oF:OutF) (oA:Out):Prop :=
 (∀ e R T n,oF=.fin e R T n->∃ t H,oA=.fin e t H/\l0t T n H/\s0p R N t)/\(∀ v,oF=.pan v->oA=.pan v)
theorem b0I.bad {c:Out}:b0I N .bad c:=⟨fun _ _ _ _ e=>(by cases e),fun _ e=>by cases e⟩
theorem b0I.pan {v:Value}:b0I N (.pan v) (.pan v):=⟨fun _ _ _ _ e=>(by cases e),fun _ e=>by cases e;rfl⟩
theorem b0I.fin {e:XA} (h:l0t T n H) (k:s0p R N t):b0I N (.fin e R T n) (.fin e t H):=⟨fun _ _ _ _ e=>by cases e;exact ⟨_,_,rfl,h,k⟩,fun _ e=>by cases e⟩
theorem o0I (k:s0p R N t) (g:Option (Nat × Bool)):n0o R g=a0Q t g:=by
 cases g with
 | none=>rfl
 | some p =>
  obtain ⟨j,w⟩:=p
  show F0t (r0i R j) w=_
  rw [w0z,k.rd];rfl
theorem F0o (k:s0p R N t) (op:SOp):F0n (r0i R) op=c0j t op:=by
 rw [k.rd];cases op <;> simp only [F0n,c0j,s0H]
section
variable {cF:k0T} {cA:Nat->FuncId->List Value->a0c->Res (Value × a0c)} (hc:u1B cF cA)
include hc
theorem w0v (h:l0t T n H) (k:s0p R N t) (o:SOp) :
  (∀ v c j,q0o cF fl R T n o=.ok v c j->∃ H',b0i cA fl t H o=.ok (v,H')/\l0t c j H')/\(∀ v,q0o cF fl R T n o=.pan v->b0i cA fl t H o=.pan v):=by
 unfold q0o b0i
 rw [w1n,K1j,h.bk,k.rd,h.sz]
 have q:=h
 rw [h.sz] at q
 cases opE H.bk H.size fl (AI.get t) o with
 | bad=>exact ⟨fun _ _ _ e=>(by cases e),fun _ e=>by cases e⟩
 | pan v=>exact ⟨fun _ _ _ e=>(by cases e),fun _ e=>by cases e;rfl⟩
 | val v e =>
  refine ⟨fun v' c j r=>?_,fun _ r=>N1i r G0j⟩
  obtain ⟨rfl,s⟩:=V0F q r
  exact ⟨_,rfl,s⟩
 | call f args lone =>
  have:=hc (if lone then fl else max fl H.size) f args T H.size H q
  have e:(@Bool.rec (fun _=>Nat) (@Bool.rec (fun _=>Nat) fl H.size (Nat.ble fl H.size)) fl lone)=(if lone=true then fl else max fl H.size):=by
   cases lone with
   | true=>rfl
   | false =>
    show (@Bool.rec (fun _=>Nat) fl H.size (Nat.ble fl H.size))=max fl H.size
    rw [b0l];split <;> omega
  show (∀ v c j,cF _ f args T H.size=.ok v c j->_)/\(∀ v,cF _ f args T H.size=.pan v->_)
  rw [e]
  exact this
theorem u0D:∀ (ops:List a0v) {R:Tr Value} {T:Tr Blk} {n:Nat} {t:a0U} {H:a0c},l0t T n H->s0p R N t->b0I N (G1z cF N fl ops R T n) (f0h cA fl ops t H)
 | [],_,_,_,_,_,h,k=>b0I.fin h k
 | o :: r,R,T,n,t,H,h,k=>by
  show b0I N (@Bool.rec (fun _=>OutF) (G1z cF N fl r (F0D R N o.dst undef) T n)
   (@ResF.rec (fun _=>OutF) .bad .pan (fun v c j=>G1z cF N fl r (F0D R N o.dst v) c j) (q0o cF fl R T n o.op)) (n0o R o.g)) _
  rw [o0I k]
  simp only [f0h]
  cases a0Q t o.g with
  | false=>exact u0D r h (k.put _ _)
  | true =>
   simp only [N1E]
   obtain ⟨s,u⟩:=w0v hc (fl:=fl) h k o.op
   cases hs:q0o cF fl R T n o.op with
   | bad=>exact b0I.bad
   | pan v=>rw [u v hs];exact b0I.pan
   | ok v c j =>
    obtain ⟨H',e,q⟩:=s v c j hs
    rw [e];exact u0D r q (k.put _ _)
theorem j0O (bef:List Nat) (pairs:List (Nat × Nat)):∀ (ops:List a0v) (i:Nat) {R:Tr Value} {T:Tr Blk} {n:Nat} {t:a0U} {H:a0c} (p:Option (Nat × Value)) (c:List (List Nat × List Nat)),l0t T n H->s0p R N t ->
  b0I N (s0E cF N fl bef pairs ops i R T n p c) (b0T cA fl bef pairs i ops t H p c)
 | [],i,R,T,n,t,H,p,c,h,k=>by
  show b0I N (@Bool.rec (fun _=>OutF) .bad (match p with | none=>.fin .normal R T n | some (_,v)=>.pan v) (c0u c.reverse pairs)) _
  simp only [b0T]
  cases c0u c.reverse pairs with
  | false=>exact b0I.bad
  | true =>
   simp only [N1E]
   cases p with
   | none=>exact b0I.fin h k
   | some p=>exact b0I.pan
 | o :: r,i,R,T,n,t,H,p,c,h,k=>by
  show b0I N (@Bool.rec (fun _=>OutF)
    (@Bool.rec (fun _=>OutF) (s0E cF N fl bef pairs r (i + 1) (F0D R N o.dst undef) T n p (([],[]) :: c))
     (@ResF.rec (fun _=>OutF) .bad (fun v=>match p with | none=>s0E cF N fl bef pairs r (i + 1) R T n (some (i,v)) (([],[]) :: c) | some _=>.bad)
      (fun v j q=>s0E cF N fl bef pairs r (i + 1) (F0D R N o.dst v) j q p (n0m (r0i R) o.op n (m0s T) (m0s j) :: c)) (q0o cF fl R T n o.op)) (n0o R o.g))
    (s0E cF N fl bef pairs r (i + 1) R T n p (([],[]) :: c)) (j0u bef i p)) _
  rw [o0I k]
  simp only [b0T]
  cases j0u bef i p with
  | true=>simp only [N1E];exact j0O bef pairs r (i + 1) p _ h k
  | false =>
   simp only [N1g,N1G]
   cases a0Q t o.g with
   | false=>simp only [N1g,N1G];exact j0O bef pairs r (i + 1) p _ h (k.put _ _)
   | true =>
    simp only [N1E]
    obtain ⟨w,x⟩:=w0v hc (fl:=fl) h k o.op
    cases hs:q0o cF fl R T n o.op with
    | bad=>exact b0I.bad
    | pan v =>
     rw [x v hs]
     cases p with
     | none=>exact j0O bef pairs r (i + 1) _ _ h k
     | some _=>exact b0I.bad
    | ok v j q =>
     obtain ⟨H',e,s⟩:=w v j q hs
     rw [e]
     have u:n0m (r0i R) o.op n (m0s T) (m0s j)=e0B t o.op H H':=by
      unfold n0m e0B;rw [F0o k,h.bk,s.bk,h.sz];rfl
     show b0I N (s0E cF N fl bef pairs r (i + 1) (F0D R N o.dst v) j q p (n0m (r0i R) o.op n (m0s T) (m0s j) :: c)) _
     rw [u];exact j0O bef pairs r (i + 1) p _ s (k.put _ _)
theorem f0v:∀ (m:Nat) (c:SCode) {R:Tr Value} {T:Tr Blk} {n:Nat} {t:a0U} {H:a0c},l0t T n H->s0p R N t->b0I N (j0s cF N fl m c R T n) (a0K cA fl m c t H)
 | 0,c,_,_,_,_,_,_,_=>b0I.bad
 | m + 1,c,R,T,n,t,H,h,k=>by
  cases c with
  | skip=>exact b0I.fin h k
  | exit id=>exact b0I.fin h k
  | ret=>exact b0I.fin h k
  | seq a b =>
   show b0I N (@OutF.rec (fun _=>OutF) .bad .pan (fun e R' j q=>@XA.rec (fun _=>OutF) (j0s cF N fl m b R' j q) (fun id=>.fin (.exit id) R' j q) (.fin .ret R' j q) e) (j0s cF N fl m a R T n)) _
   simp only [a0K]
   have u:=f0v m a h k
   cases hx:j0s cF N fl m a R T n with
   | bad=>exact b0I.bad
   | pan v=>rw [u.2 v hx];exact b0I.pan
   | fin e R' j q =>
    obtain ⟨t',H',w,r,k'⟩:=u.1 e R' j q hx
    rw [w]
    cases e with
    | normal=>exact f0v m b r k'
    | exit id=>exact b0I.fin r k'
    | ret=>exact b0I.fin r k'
  | cond c a b =>
   show b0I N (v1h (evK c (r0i R)) (j0s cF N fl m a R T n) (j0s cF N fl m b R T n)) _
   simp only [a0K]
   rw [k.rd,d0g,s0H]
   generalize ev t c=v
   cases v <;> try exact b0I.bad
   rename_i x;cases x
   ·exact f0v m b h k
   ·exact f0v m a h k
  | block id c =>
   show b0I N (@OutF.rec (fun _=>OutF) .bad .pan
    (fun e R' j q=>@XA.rec (fun _=>OutF) (.fin .normal R' j q) (fun s=>@Bool.rec (fun _=>OutF) (.fin (.exit s) R' j q) (.fin .normal R' j q) (Nat.beq s id)) (.fin .ret R' j q) e) (j0s cF N fl m c R T n)) _
   simp only [a0K]
   have u:=f0v m c h k
   cases hx:j0s cF N fl m c R T n with
   | bad=>exact b0I.bad
   | pan v=>rw [u.2 v hx];exact b0I.pan
   | fin e R' j q =>
    obtain ⟨t',H',w,r,k'⟩:=u.1 e R' j q hx
    rw [w]
    cases e with
    | normal=>exact b0I.fin r k'
    | exit s =>
     show b0I N (@Bool.rec (fun _=>OutF) (.fin (.exit s) R' j q) (.fin .normal R' j q) (Nat.beq s id)) _
     rw [f0Y]
     simp only
     split
     ·exact b0I.fin r k'
     ·exact b0I.fin r k'
    | ret=>exact b0I.fin r k'
  | loop c =>
   show b0I N (@OutF.rec (fun _=>OutF) .bad .pan (fun e R' j q=>@XA.rec (fun _=>OutF) (j0s cF N fl m (.loop c) R' j q) (fun id=>.fin (.exit id) R' j q) (.fin .ret R' j q) e) (j0s cF N fl m c R T n)) _
   simp only [a0K]
   have u:=f0v m c h k
   cases hx:j0s cF N fl m c R T n with
   | bad=>exact b0I.bad
   | pan v=>rw [u.2 v hx];exact b0I.pan
   | fin e R' j q =>
    obtain ⟨t',H',w,r,k'⟩:=u.1 e R' j q hx
    rw [w]
    cases e with
    | normal=>exact f0v m (.loop c) r k'
    | exit id=>exact b0I.fin r k'
    | ret=>exact b0I.fin r k'
  | reg ops=>exact u0D hc ops h k
  | draw ops bef pairs=>exact j0O hc bef pairs ops 0 none [] h k
end
theorem o0x (h:l0t T n H) (k:s0p R N t):∀ l:List SRes,j0D (r0i R) (m0s T) l=c0N H t l
 | []=>rfl
 | r :: rs=>by
  simp only [j0D,c0N]
  rw [o0x h k rs]
  have:L1a (r0i R) (m0s T) r=q0j H t r:=by
   rw [h.bk,k.rd]
   cases r with
   | tmp i=>rfl
   | cell a agg n=>exact v0p agg n (AI.get t a)
  rw [this];rfl
theorem w0n (N:Nat):∀ (l:List Value) (i:Nat),i + l.length<=N->(s0a (dR N) l i).Wf (dR N)/\∀ j,(s0a (dR N) l i).get undef j=if i<=j then l.getD (j - i) undef else undef
 | [],i,_=>⟨Tr.wf_emp _,fun j=>by show undef=_;simp⟩
 | v :: r,i,h=>by
  simp only [N1I] at h
  obtain ⟨q,s⟩:=w0n N r (i + 1) (by omega)
  refine ⟨Tr.wf_set _ _ _ _ q,fun j=>?_⟩
  show Tr.get undef (Tr.set (dR N) (s0a (dR N) r (i + 1)) i v) j=_
  rw [Tr.get_set _ _ _ _ _ _ q (O1Q (show i<=N by omega) (v1q N)),s j]
  by_cases c:j=i
  ·subst c;simp
  ·rw [M1V c]
   by_cases k:i<=j
   ·rw [M1Z (by omega),M1Z k]
    have:j - i=(j - (i + 1)) + 1:=by omega
    rw [this];simp
   ·rw [M1V (by omega),M1V k]
theorem p0F:∀ (bs:List Blk) {T:Tr Blk} {n:Nat} {H:a0c} (v:Value),l0t T n H->∀ {v' c j},t0x bs v T n=.ok v' c j->v' = v/\l0t c j (pushes H bs)
 | [],T,n,H,v,h,v',c,j,e=>by cases e;exact ⟨rfl,h⟩
 | b :: bs,T,n,H,v,h,v',c,j,e=>by
  change @Bool.rec (fun _=>ResF) .bad (t0x bs v (Tr.set dH T n b) (n + 1)) (Nat.ble (Nat.succ n) mH)=_ at e
  rw [b0l] at e
  split at e
  ·rename_i k;exact p0F bs v (h.push k b) e
  ·cases e
theorem r0P:∀ (bs:List Blk) {T:Tr Blk} {n:Nat} {v v':Value},t0x bs v T n ≠ .pan v'
 | [],T,n,v,v',e=>by cases e
 | b :: bs,T,n,v,v',e=>by
  change @Bool.rec (fun _=>ResF) .bad (t0x bs v (Tr.set dH T n b) (n + 1)) (Nat.ble (Nat.succ n) mH)=_ at e
  rw [b0l] at e
  split at e
  ·exact r0P bs e
  ·cases e
theorem o0S (E:Env):∀ m,u1B (k0x E.code E.quick E.prim m) (a0M E m)
 | 0=>fun _ _ _ _ _ _ _=>⟨fun _ _ _ e=>(by cases e),fun _ e=>by cases e⟩
 | m + 1=>fun fl f args T n H h=>by
  have J:=o0S E m
  have w:=h
  rw [h.sz] at w
  show (∀ v j x,(@Option.rec _ (fun _=>ResF) (p0k E.quick E.prim (k0x E.code E.quick E.prim m) fl f args T n)
   (fun c=>@Bool.rec (fun _=>ResF) .bad (@Bool.rec (fun _=>ResF) .bad (I1O c.res (j0s (k0x E.code E.quick E.prim m) c.nt fl m c.body (s0a (dR c.nt) args 0) T n)) (Nat.ble c.np c.nt)) (Nat.beq (q0w args) c.np)) (E.code f))=.ok v j x->_) /\
   (∀ v,(@Option.rec _ (fun _=>ResF) (p0k E.quick E.prim (k0x E.code E.quick E.prim m) fl f args T n)
   (fun c=>@Bool.rec (fun _=>ResF) .bad (@Bool.rec (fun _=>ResF) .bad (I1O c.res (j0s (k0x E.code E.quick E.prim m) c.nt fl m c.body (s0a (dR c.nt) args 0) T n)) (Nat.ble c.np c.nt)) (Nat.beq (q0w args) c.np)) (E.code f))=.pan v->_)
  simp only [a0M]
  cases E.code f with
  | none =>
   simp only
   unfold p0k
   rw [h.bk]
   simp only [h.sz]
   cases hp:E.prim f args H.bk H.size with
   | some r =>
    obtain ⟨v,bs⟩:=r
    simp only
    refine ⟨fun v' j x e=>?_,fun v' e=>N1i e (r0P bs)⟩
    obtain ⟨rfl,Z⟩:=p0F bs v w e
    exact ⟨_,rfl,Z⟩
   | none =>
   simp only
   cases hq:E.quick with
   | none=>exact ⟨fun _ _ _ e=>(by cases e),fun _ e=>by cases e⟩
   | some q =>
    rw [hq] at J
    simp only
    by_cases R:f=q.f
    ·simp only [R,N1E]
     split
     ·rename_i p s
      simp only
      by_cases hsz:p.size=q.np/\s.size=q.ns
      case neg=>rw [M1V hsz];exact ⟨fun _ _ _ e=>(by cases e),fun _ e=>by cases e⟩
      rw [M1Z hsz]
      try rw [M1Z hsz]
      have F:(@Bool.rec (fun _=>Nat) fl H.size (Nat.ble fl H.size))=max fl H.size:=by rw [b0l];split <;> omega
      rw [F]
      obtain ⟨U,Y⟩:=J (max fl H.size) q.solved [.agg #[],.agg p,.agg s] T H.size H w
      cases y:k0x E.code (some q) E.prim m (max fl H.size) q.solved [.agg #[],.agg p,.agg s] T H.size with
      | bad=>exact ⟨fun _ _ _ e=>by simp [j0h] at e,fun _ e=>by simp [j0h] at e⟩
      | pan v =>
       rw [Y v y]
       cases v with
       | iface ty u=>exact ⟨fun _ _ _ e=>by simp only [j0h,ResF.ok.injEq] at e;obtain ⟨rfl,rfl,rfl⟩:=e;exact ⟨_,rfl,w⟩,fun _ e=>by simp [j0h] at e⟩
       | _=>exact ⟨fun _ _ _ e=>by simp [j0h] at e,fun _ e=>by simp [j0h] at e⟩
      | ok v j x =>
       obtain ⟨H',z,w⟩:=U v j x y
       rw [z]
       cases v with
       | tuple vs =>
        simp only [j0h,d0I]
        split
        ·rename_i G
         simp only [G]
         split
         ·exact ⟨fun _ _ _ e=>by simp only [ResF.ok.injEq] at e;obtain ⟨rfl,rfl,rfl⟩:=e;exact ⟨_,rfl,w⟩,fun _ e=>by simp at e⟩
         ·exact ⟨fun _ _ _ e=>by simp at e,fun _ e=>by simp at e⟩
        ·exact ⟨fun _ _ _ e=>by simp at e,fun _ e=>by simp at e⟩
       | _=>exact ⟨fun _ _ _ e=>by simp [j0h] at e,fun _ e=>by simp [j0h] at e⟩
     ·exact ⟨fun _ _ _ e=>(by cases e),fun _ e=>by cases e⟩
    ·simp only [R,N1G];exact ⟨fun _ _ _ e=>(by cases e),fun _ e=>by cases e⟩
  | some c =>
   simp only [f0Y,b0l,h0T]
   by_cases O:args.length=c.np
   ·by_cases Q:c.np<=c.nt
    ·simp only [O,Q,N1E]
     obtain ⟨w1,w2⟩:=w0n c.nt args 0 (by omega)
     have k:s0p (s0a (dR c.nt) args 0) c.nt (args ++ List.replicate (c.nt - c.np) undef):=by
      refine ⟨by simp;omega,w1,fun i=>?_⟩
      rw [w2 i]
      simp only [N1K,N1E,P1e]
      unfold AI.get
      rw [M1R,M1R]
      by_cases I:i < args.length
      ·rw [O1C I]
      ·rw [O1w (by omega),N1d (by omega),O1I]
       split <;> rfl
     have y:=f0v J (N:=c.nt) (fl:=fl) m c.body h k
     cases he:j0s (k0x E.code E.quick E.prim m) c.nt fl m c.body (s0a (dR c.nt) args 0) T n with
     | bad=>exact ⟨fun _ _ _ e=>(by cases e),fun _ e=>by cases e⟩
     | pan v=>rw [y.2 v he];exact ⟨fun _ _ _ e=>(by cases e),fun _ e=>by cases e;rfl⟩
     | fin e R' j x =>
      obtain ⟨t',H',z,w,k'⟩:=y.1 e R' j x he
      rw [z]
      simp only
      have fin:(∀ v M S,(match j0D (r0i R') (m0s j) c.res with | some vs=>ResF.ok (b0K vs) j x | none=>.bad)=.ok v M S ->
        ∃ L,(match c0N H' t' c.res with | some vs=>Res.ok (b0K vs,H') | none=>.bad)=.ok (v,L)/\l0t M S L) /\
        (∀ v,(match j0D (r0i R') (m0s j) c.res with | some vs=>ResF.ok (b0K vs) j x | none=>.bad)=.pan v->(match c0N H' t' c.res with | some vs=>Res.ok (b0K vs,H') | none=>.bad)=.pan v):=by
       rw [o0x w k']
       cases c0N H' t' c.res with
       | none=>exact ⟨fun _ _ _ e=>(by cases e),fun _ e=>by cases e⟩
       | some vs=>exact ⟨fun _ _ _ e=>by cases e;exact ⟨_,rfl,w⟩,fun _ e=>by cases e⟩
      cases e with
      | exit id=>exact ⟨fun _ _ _ e=>(by cases e),fun _ e=>by cases e⟩
      | normal=>exact fin
      | ret=>exact fin
    ·simp only [Q,N1G,ite_self];exact ⟨fun _ _ _ e=>(by cases e),fun _ e=>by cases e⟩
   ·simp only [O,N1G];exact ⟨fun _ _ _ e=>(by cases e),fun _ e=>by cases e⟩
noncomputable def isB (b:Bool) (r:ResF):Bool:=@ResF.rec (fun _=>Bool) false (fun _=>false) (fun v _ _=>F0t v b) r
theorem u0E (E:Env) {m:Nat} {f:FuncId} {b:Bool} (h:isB b (k0x E.code E.quick E.prim m 0 f [] .emp 0)=true) :
  ∃ H1,a0M E m 0 f [] #[]=.ok (.bool b,H1):=by
 have c:l0t .emp 0 #[]:=⟨rfl,N1K _,Tr.wf_emp _,fun _=>by show Blk.dead=_;simp [a0c.bk]⟩
 obtain ⟨j,_⟩:=o0S E m 0 f [] .emp 0 #[] c
 cases hx:k0x E.code E.quick E.prim m 0 f [] .emp 0 with
 | bad=>rw [hx] at h;cases h
 | pan v=>rw [hx] at h;cases h
 | ok v T' n' =>
  rw [hx] at h
  obtain ⟨H',e,_⟩:=j v T' n' hx
  change F0t v b=true at h
  rw [w0z] at h
  cases v <;> simp at h
  exact ⟨H',by rw [e,h]⟩
end
section
open Go
abbrev dC:Nat:=nat_lit 10
noncomputable def u1x:List (Nat × n0v)->Tr (Option n0v)
 | []=>.emp
 | p :: r=>(u1x r).set dC p.1 (some p.2)
theorem F0l:∀ l,(u1x l).Wf dC
 | []=>Tr.wf_emp _
 | p :: r=>Tr.wf_set _ _ _ _ (F0l r)
theorem w0x:∀ (l:List (Nat × n0v)) (f:Nat) (s:n0v),(l.all fun p=>Nat.blt p.1 1024)=true->(u1x l).get none f=some s->(f,s) ∈ l
 | [],f,s,_,h=>by simp [u1x,Tr.get_emp] at h
 | p :: r,f,s,hl,h=>by
  simp only [N1u,M1W,Nat.blt_eq] at hl
  simp only [u1x] at h
  rw [Tr.get_set _ _ _ _ _ _ (F0l r) (show p.1 < 2 ^ dC from hl.1)] at h
  split at h
  ·rename_i c
   simp only [M1Q] at h
   subst c h
   exact O1B
  ·exact O1f _ (w0x r f s hl.2 h)
def S0v (P:Program):List Field->Nat->Option Nat
 | [],acc=>some acc
 | f :: r,acc=>if f.offset=acc then S0v P r (acc + P.cellsOf f.type) else none
def e0z (P:Program):Nat->TypeId->Bool
 | 0,_=>false
 | m + 1,t =>
  match P.underlying t with
  | some .bool=>P.cellsOf t == 1
  | some (.int _)=>P.cellsOf t == 1
  | some .string=>P.cellsOf t == 1
  | some (.slice e)=>P.cellsOf t == 1 && e0z P m e && P.cellsOf e != 0
  | some (.struct fs)=>S0v P fs.toList 0 == some (P.cellsOf t) && fs.toList.all fun f=>e0z P m f.type
  | _=>false
def IsT (P:Program) (H:a0c):Nat->TypeId->List Value->Prop
 | 0,_,_=>False
 | m + 1,t,cs =>
  match P.underlying t with
  | some .bool=>∃ b,cs=[.bool b]
  | some (.int k)=>∃ n,cs=[.int k n]/\(Lit.int k n).wf=true
  | some .string=>∃ s,cs=[.string s]/\s.size<=maxLen
  | some (.slice e)=>cs=[.slice none 0 0] ∨ ∃ b len cap cells,cs=[.slice (some ⟨b,0,none⟩) len cap]/\len<=cap/\cap<=maxLen/\H.bk b=.row true e cells/\cells.length=len * P.cellsOf e /\
    ∀ i,i < len->IsT P H m e ((cells.drop (i * P.cellsOf e)).take (P.cellsOf e))
  | some (.struct fs)=>∃ parts:List (List Value),cs=parts.flatten/\parts.length=fs.toList.length/\∀ i f,fs.toList[i]? = some f->IsT P H m f.type (parts.getD i [])
  | _=>False
def h0F (H:a0c):Prop:=∀ b e cs,H.bk b ≠ .row false e cs
def n0u (H H':a0c):Prop:=H.size<=H'.size/\∀ b,b < H.size->H'.bk b=H.bk b
theorem n0u.refl (H:a0c):n0u H H:=⟨M1U _,fun _ _=>rfl⟩
theorem n0u.trans {H H1 c:a0c} (h:n0u H H1) (k:n0u H1 c):n0u H c:=⟨N1n h.1 k.1,fun b hb=>(k.2 b (N1k hb h.1)).trans (h.2 b hb)⟩
theorem n0u.push (H:a0c) (r:Blk):n0u H (H.push r):=⟨by simp,fun b hb=>by rw [a0z,M1V (by omega)]⟩
theorem IsT.mo {P:Program} {H H':a0c} (r:n0u H H'):∀ {m:Nat} {t:TypeId} {cs:List Value},IsT P H m t cs->IsT P H' m t cs
 | 0,_,_,h=>h
 | m + 1,t,cs,h=>by
  unfold IsT at h ⊢
  split at h
  ·exact h
  ·exact h
  ·exact h
  ·rename_i e _
   rcases h with h | ⟨b,len,cap,cells,j,k,q,s,u,w⟩
   ·exact .inl h
   ·exact .inr ⟨b,len,cap,cells,j,k,q,by rw [r.2 b (a0r s)];exact s,u,fun i hi=>(w i hi).mo r⟩
  ·obtain ⟨c,j,k,q⟩:=h
   exact ⟨c,j,k,fun i f x=>(q i f x).mo r⟩
  ·exact h
variable {X:Cx} {φ:Inj} {H:a0c} {w:World}
theorem Rel.pushRo (hR:Rel X φ H w) (F:h0F H) {B o:Nat} {e I:TypeId} {J:Nat × Nat} {cs:List Value} {c:Array Value} (hB:w.heap[B]? = some (.cells c I J)) (y:o + cs.length<=c.size)
  (hc:CR X φ (shq w) cs ((c.toList.drop o).take cs.length)) (z:B < X.base):Rel X (ad φ H.size B o) (H.push (.row true e cs)) w/\h0F (H.push (.row true e cs)):=by
 have k:∀ b x,φ b=some x->ad φ H.size B o b=some x:=fun b x h=>u0Y hR h
 have q:h0F (H.push (.row true e cs)):=by
  intro b r j h
  rw [a0z] at h
  split at h
  ·cases h
  ·exact F b r j h
 refine ⟨⟨hR.bs,?_,?_,fun b O G M Q r j _ _ _ h=>N1i h (q b r j)⟩,q⟩
 ·intro b x h
  rw [N1T]
  rcases h0I hR h with ⟨u,_⟩ | ⟨u,_⟩ <;> omega
 ·intro b G M ro r j u s
  rw [a0z] at s
  rcases h0I hR u with ⟨rfl,L⟩ | ⟨L,N⟩
  ·rw [M1Z rfl] at s;cases s;cases L
   exact .inl ⟨c,I,J,hB,y,hc.mo k (fun _ _ h=>h),fun h=>(by cases h),fun _=>z⟩
  ·rw [M1V (by omega)] at s
   exact (hR.row b G M ro r j N s).mo k (fun _ _ h=>h) rfl
theorem Rel.pushFree (hR:Rel X φ H w) (q:h0F H) (e:TypeId):Rel X φ (H.push (.row true e [])) w/\h0F (H.push (.row true e [])):=by
 have j:h0F (H.push (.row true e [])):=by
  intro b k c h
  rw [a0z] at h
  split at h
  ·cases h
  ·exact q b k c h
 refine ⟨⟨hR.bs,fun b x h=>by have:=hR.lt b x h;rw [N1T];omega,fun b r y ro k c s u=>?_,fun b z r y F k c _ _ _ h=>N1i h (j b k c)⟩,j⟩
 have:=hR.lt b _ s
 rw [a0z,M1V (by omega)] at u
 exact hR.row b r y ro k c s u
theorem o0i {α:Type} {f:Nat->Option α}:∀ {n k:Nat} {l:List α},(List.range' k n).mapM f=some l->l.length=n/\∀ i,i < n->f (k + i)=l[i]?
 | 0,k,l,h=>by simp at h;subst h;exact ⟨rfl,fun i hi=>by omega⟩
 | n + 1,k,l,h=>by
  rw [O1Z,O1M] at h
  simp only [M1S,M1P,M1T,M1Q] at h
  obtain ⟨x,c,r,j,rfl⟩:=h
  obtain ⟨q,s⟩:=o0i j
  refine ⟨by simp [q],fun i hi=>?_⟩
  cases i with
  | zero=>simpa using c
  | succ i=>rw [show k + (i + 1)=k + 1 + i by omega,s i (by omega)];simp
theorem k0Z {a:Addr} {n:Nat} {l:List Value} (G:n ≠ 0) (h:w.cells? 0 a n=some l):a.spot=none/\∃ c q r,w.heap[a.block]? = some (.cells c q r)/\a.off + n<=c.size/\l=(c.toList.drop a.off).take n:=by
 unfold World.cells? at h
 rw [M1Z (N1K _),List.range_eq_range'] at h
 obtain ⟨F,z⟩:=o0i h
 have k:∀ i,i < n->∃ v,w.cell? (a.add i)=some v/\l[i]? = some v:=fun i hi=>by
  have:=z i hi
  rw [N1q] at this
  rw [M1X (by omega)] at this
  exact ⟨_,this,M1X (by omega)⟩
 obtain ⟨H,s,_⟩:=k 0 (by omega)
 have x:a.spot=none/\∃ c q r,w.heap[a.block]? = some (.cells c q r):=by
  simp only [Addr.add,N1E,World.cell?] at s
  split at s
  ·rename_i c q r hc
   split at s
   ·cases s
   ·rename_i hs;exact ⟨by simpa using hs,c,q,r,hc⟩
  ·cases s
 obtain ⟨hs,c,q,r,hc⟩:=x
 have j:∀ i,w.cell? (a.add i)=c[a.off + i]?:=fun i=>by
  unfold Addr.add
  split
  ·rename_i hi;subst hi;simp [World.cell?,hc,hs]
  ·simp [World.cell?,hc]
 have hsz:a.off + n<=c.size:=by
  obtain ⟨v,u,_⟩:=k (n - 1) (by omega)
  rw [j] at u
  have:=(N1y.1 u).1
  omega
 refine ⟨hs,c,q,r,hc,hsz,?_⟩
 apply O1V
 intro i
 by_cases hi:i < n
 ·obtain ⟨v,u,y⟩:=k i hi
  rw [y,O1O,M1Z hi,O1A,N1S,<- j,u]
 ·rw [N1d (by omega),N1d]
  simp;omega
def n0T (P:Program) (X:Cx) (φ:Inj) (H:a0c) (w:World) (Z:a0c->List Value->Prop) (cs:List Value):Prop :=
 ∃ H' φ' cs',(∀ b x,φ b=some x->φ' b=some x)/\n0u H H'/\Rel X φ' H' w/\h0F H'/\CR X φ' (shq w) cs' cs/\Z H' cs'
section
variable {D:Type} {enc:TypeId × Value->D} {P:Program} (hb:X.base=w.heap.size)
include hb
theorem o0g {m s:Nat} (M:∀ (t:TypeId) (cs:List Value) (x:DataW D × List MemPlace) (H:a0c) (φ:Inj),DataW.trod enc P w 0 (fun _=>true) true s t cs=some x->e0z P m t=true->Rel X φ H w->h0F H ->
   n0T P X φ H w (fun H' u=>IsT P H' m t u) cs) :
  ∀ (y:List Field) (j k:Nat) (cs:List Value) (H:a0c) (φ:Inj),S0v P y j=some k->cs.length=k->y.all (fun f=>e0z P m f.type)=true ->
   (∀ f,f ∈ y->∃ x,DataW.trod enc P w 0 (fun _=>true) true s f.type ((cs.drop f.offset).take (P.cellsOf f.type))=some x)->Rel X φ H w->h0F H->j<=k ->
   n0T P X φ H w (fun H' u=>∃ c:List (List Value),u = c.flatten/\c.length=y.length/\∀ i f,y[i]? = some f->IsT P H' m f.type (c.getD i [])) (cs.drop j)
 | [],j,k,cs,H,φ,hl,hcs,_,_,hR,hro,_=>by
  simp only [S0v,M1Q] at hl
  refine ⟨H,φ,[],fun _ _ h=>h,n0u.refl H,hR,hro,?_,[],rfl,rfl,fun i f h=>by simp at h⟩
  rw [List.drop_of_length_le (by omega)];exact CR.nil
 | f :: r,j,k,cs,H,φ,hl,hcs,hp,hm,hR,hro,hat=>by
  simp only [S0v] at hl
  split at hl
  case isFalse=>cases hl
  rename_i F
  obtain ⟨x,Y⟩:=hm f (by simp)
  have Z:=fun g hg=>hm g (O1f _ hg)
  simp only [N1u,M1W] at hp
  obtain ⟨H1,I,L,U,m1,Q,o1,k1,z1⟩:=M _ _ _ _ _ Y hp.1 hR hro
  have z:∀ (l:List Field) (a t:Nat),S0v P l a=some t->a<=t:=by
   intro l
   induction l with
   | nil=>intro a t h;simp only [S0v,M1Q] at h;omega
   | cons g l ihl =>
    intro a t h
    simp only [S0v] at h
    split at h
    ·have:=ihl _ _ h;omega
    ·cases h
  have G:=z r _ _ hl
  obtain ⟨O,J,S,e2,N,R,o2,k2,c,p1,p2,p3⟩:=o0g M r (j + P.cellsOf f.type) k cs H1 I hl hcs hp.2 Z Q o1 G
  refine ⟨O,J,L ++ S,fun b x h=>e2 b x (U b x h),m1.trans N,R,o2,?_,L :: c,by rw [p1];rfl,by simp [p2],fun i g hi=>?_⟩
  ·have q:cs.drop j=(cs.drop f.offset).take (P.cellsOf f.type) ++ cs.drop (j + P.cellsOf f.type):=by
    rw [F,<- O1p,List.take_append_drop]
   rw [q]
   exact (k1.mo e2 (fun _ _ h=>h)).append k2
  ·cases i with
   | zero=>simp only [List.getElem?_cons_zero,M1Q] at hi;subst hi;exact IsT.mo N z1
   | succ i=>simp only [List.getElem?_cons_succ] at hi;exact p3 i g hi
theorem o0f {m k sz:Nat} {e:TypeId} {a:Addr} {c:Array Value} (hsz:P.cellsOf e=sz) (J:∀ (t:TypeId) (cs:List Value) (x:DataW D × List MemPlace) (H:a0c) (φ:Inj),DataW.trod enc P w 0 (fun _=>true) true k t cs=some x->e0z P m t=true->Rel X φ H w->h0F H ->
   n0T P X φ H w (fun H' z=>IsT P H' m t z) cs) (u:e0z P m e=true) :
  ∀ (n:Nat),(∀ i,i < n->∃ x,DataW.trod enc P w 0 (fun _=>true) true k e ((c.toList.drop (a.off + i * sz)).take sz)=some x)->∀ (H:a0c) (φ:Inj),a.off + n * sz<=c.size->Rel X φ H w->h0F H ->
   n0T P X φ H w (fun H' cells=>cells.length=n * sz/\∀ i,i < n->IsT P H' m e ((cells.drop (i * sz)).take sz)) ((c.toList.drop a.off).take (n * sz))
 | 0,_,H,φ,_,hR,hro=>⟨H,φ,[],fun _ _ h=>h,n0u.refl H,hR,hro,by simpa using CR.nil,by simp,fun i hi=>by omega⟩
 | n + 1,hx,H,φ,hle,hR,hro=>by
  have q:(n + 1) * sz=n * sz + sz:=by rw [N1t];omega
  obtain ⟨H1,a0,y,S,Y,Q,Z,U,M,z1⟩:=o0f hsz J u n (fun i hi=>hx i (by omega)) H φ (by omega) hR hro
  obtain ⟨x,G⟩:=hx n (by omega)
  obtain ⟨O,I,r,e2,N,R,o2,L,z2⟩:=J _ _ _ _ _ G u Q Z
  have F:r.length=sz:=by
   have:=L.1
   rw [this,N1Z,List.length_drop,O1a];omega
  refine ⟨O,I,y ++ r,fun b x h=>e2 b x (S b x h),Y.trans N,R,o2,?_,by rw [N1X,M,F,q],fun i hi=>?_⟩
  ·have j:(c.toList.drop a.off).take ((n + 1) * sz)=(c.toList.drop a.off).take (n * sz) ++ (c.toList.drop (a.off + n * sz)).take sz:=by
    rw [q,List.take_add,O1p]
   rw [j]
   exact (U.mo e2 (fun _ _ h=>h)).append L
  ·by_cases s:i < n
   ·have h1:i * sz + sz<=n * sz:=by rw [<- Nat.succ_mul];exact N1e _ s
    have:((y ++ r).drop (i * sz)).take sz=(y.drop (i * sz)).take sz:=by
     rw [O1L (by omega),List.take_append_of_le_length (by simp;omega)]
    rw [this];exact IsT.mo N (z1 i s)
   ·have:i=n:=by omega
    subst this
    have:((y ++ r).drop (i * sz)).take sz=r:=by
     rw [<- M,List.drop_left,N1c (by omega)]
    rw [this];exact z2
theorem p0f:∀ (m r:Nat) (t:TypeId) (cs:List Value) (x:DataW D × List MemPlace) (H:a0c) (φ:Inj),DataW.trod enc P w 0 (fun _=>true) true r t cs=some x->e0z P m t=true->Rel X φ H w->h0F H ->
  n0T P X φ H w (fun H' j=>IsT P H' m t j) cs
 | 0,_,_,_,_,_,_,_,hp,_,_=>by simp [e0z] at hp
 | m + 1,0,_,_,_,_,_,h,_,_,_=>by simp [DataW.trod] at h
 | m + 1,r + 1,t,cs,x,H,φ,h,hp,hR,hro=>by
  unfold e0z at hp
  have fin:∀ j,CR X φ (shq w) j cs->IsT P H (m + 1) t j->n0T P X φ H w (fun H' j=>IsT P H' (m + 1) t j) cs:=fun j h1 h2=>⟨H,φ,j,fun _ _ h=>h,n0u.refl H,hR,hro,h1,h2⟩
  split at hp
  ·rename_i q
   obtain ⟨b,rfl,_⟩:=DataW.trod_bool q h
   refine fin [.bool b] (CR.cons (.bool b) CR.nil) ?_
   unfold IsT;rw [q];exact ⟨b,rfl⟩
  ·rename_i k q
   obtain ⟨n,rfl,_,a5⟩:=DataW.trod_int q h
   refine fin [.int k n] (CR.cons (.int k n) CR.nil) ?_
   unfold IsT;rw [q];exact ⟨n,rfl,a5⟩
  ·rename_i q
   obtain ⟨s,rfl,_,hs⟩:=DataW.trod_string q h
   refine fin [.string s] (CR.cons (.str s) CR.nil) ?_
   unfold IsT;rw [q];exact ⟨s,rfl,hs⟩
  ·rename_i e q
   simp only [M1W,bne_iff_ne,ne_eq] at hp
   obtain ⟨⟨_,a3⟩,O⟩:=hp
   rcases Go.Deep.open_slice q h with ⟨rfl,_⟩ | ⟨a,len,cap,z,n,Dd,Pl,rfl,_,F,a0,N,_,M⟩
   ·refine fin [.slice none 0 0] (CR.cons .snil CR.nil) ?_
    unfold IsT;rw [q];exact .inl rfl
   ·simp only [N1E] at N
    subst N
    by_cases L:z=0
    ·have a1:len=0:=by omega
     subst L a1
     obtain ⟨R,o2⟩:=hR.pushFree hro e
     refine ⟨H.push (.row true e []),φ,[.slice (some ⟨H.size,0,none⟩) 0 0],fun _ _ h=>h,n0u.push _ _,R,o2,CR.cons (.sle _ _) CR.nil,?_⟩
     unfold IsT;rw [q]
     exact .inr ⟨H.size,0,0,[],rfl,M1U _,N1K _,by rw [a0z,M1Z rfl],by simp,fun i hi=>by omega⟩
    ·obtain ⟨l0,g1,_⟩:=M 0 (by omega)
     rw [show a.add (0 * P.cellsOf e)=a by simp [Addr.add]] at g1
     obtain ⟨a4,c,el,fz,hc,a8,_⟩:=k0Z O g1
     have y:∀ i,i < z->a.off + i * P.cellsOf e + P.cellsOf e<=c.size/\DataW.trod enc P w 0 (fun _=>true) true n e ((c.toList.drop (a.off + i * P.cellsOf e)).take (P.cellsOf e))=some (Dd i,Pl i):=by
      intro i hi
      obtain ⟨li,q1,q2⟩:=M i hi
      obtain ⟨_,c',a9,b0,q3,q4,q5⟩:=k0Z O q1
      have J:(a.add (i * P.cellsOf e)).block=a.block/\(a.add (i * P.cellsOf e)).off=a.off + i * P.cellsOf e:=by
       unfold Addr.add;split
       ·rename_i h0;rw [h0];exact ⟨rfl,rfl⟩
       ·exact ⟨rfl,rfl⟩
      rw [J.1,hc] at q3;cases q3
      rw [J.2] at q4 q5
      exact ⟨q4,by rw [<- q5];exact q2⟩
     have u:a.off + len * P.cellsOf e<=c.size:=by
      have:=(y (z - 1) (by omega)).1
      have h2:len * P.cellsOf e<=z * P.cellsOf e:=N1e _ F
      have h3:z * P.cellsOf e=(z - 1) * P.cellsOf e + P.cellsOf e:=by
       rw [<- Nat.succ_mul];congr 1;omega
      omega
     obtain ⟨H1,I,cells,S,m1,Q,o1,k1,l1,z1⟩:=o0f hb rfl (p0f m n) a3 len (fun i hi=>⟨_,(y i (by omega)).2⟩) H φ u hR hro
     have a2:a.block < X.base:=by rw [hb];exact (N1y.1 hc).1
     obtain ⟨R,o2⟩:=Q.pushRo o1 (e:=e) (o:=a.off) (cs:=cells) hc (by rw [l1];exact u) (by rw [l1];exact k1) a2
     refine ⟨H1.push (.row true e cells),ad I H1.size a.block a.off,[.slice (some ⟨H1.size,0,none⟩) len z],fun b x Y=>u0Y Q (S b x Y),m1.trans (n0u.push _ _),R,o2,?_,?_⟩
     ·refine CR.cons (.sl _ _ _ _ _ a.block a.off rfl u1V a4 rfl (fun _=>rfl) (fun _=>rfl) F (fun U=>by omega)) CR.nil
     ·unfold IsT;rw [q]
      refine .inr ⟨H1.size,len,z,cells,rfl,F,a0,by rw [a0z,M1Z rfl],l1,fun i hi=>IsT.mo (n0u.push _ _) (z1 i hi)⟩
  ·rename_i fs q
   simp only [M1W,beq_iff_eq] at hp
   obtain ⟨xs,n,b1,_,Z,a6,a7⟩:=DataW.trod_struct q h
   have hf:n=r:=by omega
   subst hf
   obtain ⟨H1,I,c1,S,m1,Q,o1,k1,G,p1,p2,p3⟩:=o0g hb (p0f m n) fs.toList 0 (P.cellsOf t) cs H φ hp.1 Z hp.2 (fun f hf=>by
    obtain ⟨i,hi,rfl⟩:=List.mem_iff_getElem.1 hf
    have:=a7 i fs.toList[i] (by simp)
    rw [M1X (by rw [a6];simpa using hi)] at this
    exact ⟨_,this⟩) hR hro (N1K _)
   refine ⟨H1,I,c1,S,m1,Q,o1,by simpa using k1,?_⟩
   unfold IsT;rw [q];exact ⟨G,p1,p2,p3⟩
  ·cases hp
end
end
section
open Go
abbrev F0E:=Nat->FuncId->List Value->a0c->Res (Value × a0c)
def U0T (c c':F0E):Prop:=∀ fl fl' f args H,fl'<=fl->c fl f args H ≠ .bad->c' fl' f args H=c fl f args H
variable {H:a0c} {fl fl':Nat} {t:a0U}
theorem u0P {b off:Nat} {vs:List Value} {H':a0c} (j:fl'<=fl) (h:H.write? fl b off vs=some H'):H.write? fl' b off vs=some H':=by
 unfold a0c.write? at h ⊢
 split at h
 ·rename_i e cs c
  split at h
  ·rename_i hc
   try simp only [c]
   rw [M1Z ⟨by omega,hc.2⟩];exact h
  ·cases h
 ·cases h
theorem n0U {e:TypeId} {size bytes len cap n:Nat} {base:Option Addr} {new:List Value} {r:Value × a0c} (s:fl'<=fl) (h:q0C fl H e size bytes base len cap n new=some r):q0C fl' H e size bytes base len cap n new=some r:=by
 unfold q0C at h ⊢
 split at h
 ·cases h
 ·rename_i hp;rw [M1V hp]
  split at h
  ·exact h
  ·rename_i u
   try simp only at h ⊢
   split at h
   ·rename_i j;rw [M1Z j];exact h
   rename_i j;rw [M1V j]
   split at h
   ·cases h
   ·rename_i old k
    try simp only [k]
    split at h
    ·rename_i c;rw [M1Z c];exact h
    ·rename_i c;rw [M1V c]
     split at h
     ·rename_i e2 cs hb
      try simp only
      split at h
      ·rename_i q;rw [M1Z ⟨q.1,by omega⟩];exact h
      ·cases h
     ·cases h
theorem t0h {m i x:Value} {H':a0c} (j:fl'<=fl) (h:k0E fl H m i x=some H'):k0E fl' H m i x=some H':=by
 unfold k0E at h ⊢
 split at h
 ·split at h
  ·rename_i c
   split at h
   ·rename_i hc
    try simp only [c]
    rw [M1Z ⟨by omega,hc.2⟩];exact h
   ·cases h
  ·cases h
 ·cases h
theorem w0F {e:TypeId} {size bytes:Nat} {s x:Value} {r:Value × a0c} (k:fl'<=fl) (h:n0w fl H e size bytes s x=some r):n0w fl' H e size bytes s x=some r:=by
 unfold n0w at h ⊢
 split at h
 ·split at h
  ·rename_i c;rw [M1Z c];exact h
  ·rename_i c;rw [M1V c]
   split at h
   ·rename_i hc;rw [M1Z hc]
    split at h
    ·cases h
    ·rename_i q
     try simp only at h ⊢
     split at h
     ·cases h
     ·rename_i new j
      try simp only [j]
      exact n0U k h
   ·cases h
 ·split at h
  ·rename_i c;rw [M1Z c];exact h
  ·rename_i c;rw [M1V c]
   split at h
   ·rename_i hc;rw [M1Z hc];exact n0U k h
   ·cases h
 ·cases h
theorem z0F {so:SOp} (c:fl'<=fl) (h:opA fl t H so ≠ .bad):opA fl' t H so=opA fl t H so:=by
 cases so <;> simp only [opA] at h ⊢
 case store n a x =>
  split at h
  ·rename_i p hp
   split at h
   ·exact N1i rfl h
   ·rename_i hc;rw [M1V hc];rw [M1V hc]
    cases hw:H.write? fl p.block p.off (a0t (ev t x)) with
    | none=>rw [hw] at h;exact N1i rfl h
    | some H'=>rw [u0P c hw]
  ·exact N1i rfl h
 case app e size bytes s x =>
  cases hw:n0w fl H e size bytes (ev t s) (ev t x) with
  | none=>rw [hw] at h;exact N1i rfl h
  | some r=>rw [w0F c hw]
 case mupd m i x =>
  cases hw:k0E fl H (ev t m) (ev t i) (ev t x) with
  | none=>rw [hw] at h;exact N1i rfl h
  | some r=>rw [t0h c hw]
section
variable {c c':F0E} (hc:U0T c c')
include hc
theorem i0E {so:SOp} (j:fl'<=fl) (h:b0i c fl t H so ≠ .bad):b0i c' fl' t H so=b0i c fl t H so:=by
 unfold b0i at h ⊢
 have ho:opA fl t H so ≠ .bad:=by intro hb;rw [hb] at h;exact h rfl
 rw [z0F j ho]
 split at h
 ·exact N1i rfl h
 ·rfl
 ·rfl
 ·rename_i f args lone _
  refine hc _ _ _ _ _ ?_ h
  split <;> omega
theorem f0V (j:fl'<=fl):∀ (ops:List a0v) (t:a0U) (H:a0c),f0h c fl ops t H ≠ .bad->f0h c' fl' ops t H=f0h c fl ops t H
 | [],t,H,_=>rfl
 | o :: r,t,H,h=>by
  simp only [f0h] at h ⊢
  split at h
  ·rename_i k
   simp only [k,N1E]
   have hs:b0i c fl t H o.op ≠ .bad:=by intro hb;rw [hb] at h;exact h rfl
   rw [i0E hc j hs]
   split at h
   ·exact N1i rfl h
   ·rfl
   ·exact f0V j r _ _ h
  ·rename_i k
   simp only [k,N1G]
   exact f0V j r _ _ h
theorem d0w (k:fl'<=fl) (bef:List Nat) (pairs:List (Nat × Nat)):∀ (ops:List a0v) (i:Nat) (t:a0U) (H:a0c) (p:Option (Nat × Value)) (j:List (List Nat × List Nat)),
  b0T c fl bef pairs i ops t H p j ≠ .bad->b0T c' fl' bef pairs i ops t H p j=b0T c fl bef pairs i ops t H p j
 | [],i,t,H,p,j,_=>rfl
 | o :: r,i,t,H,p,j,h=>by
  simp only [b0T] at h ⊢
  split at h
  ·rename_i q;simp only [q,N1E];exact d0w k bef pairs r _ _ _ _ _ h
  ·rename_i q
   simp only [q,N1G]
   split at h
   ·rename_i s
    simp only [s,N1E]
    have hs:b0i c fl t H o.op ≠ .bad:=by intro hb;rw [hb] at h;exact h rfl
    rw [i0E hc k hs]
    split at h
    ·exact N1i rfl h
    ·split at h
     ·exact d0w k bef pairs r _ _ _ _ _ h
     ·exact N1i rfl h
    ·exact d0w k bef pairs r _ _ _ _ _ h
   ·rename_i s
    simp only [s,N1G]
    exact d0w k bef pairs r _ _ _ _ _ h
theorem a0O (j:fl'<=fl):∀ (n m:Nat) (k:SCode) (t:a0U) (H:a0c),n<=m->a0K c fl n k t H ≠ .bad->a0K c' fl' m k t H=a0K c fl n k t H
 | 0,_,_,_,_,_,h=>by simp [a0K] at h
 | n + 1,0,_,_,_,q,_=>by omega
 | n + 1,m + 1,k,t,H,q,h=>by
  have q:n<=m:=by omega
  cases k <;> simp only [a0K] at h ⊢
  case seq a b =>
   have r:a0K c fl n a t H ≠ .bad:=by intro hb;rw [hb] at h;exact h rfl
   rw [a0O j n m a t H q r]
   split at h
   ·exact a0O j n m b _ _ q h
   ·rfl
  case cond x a b =>
   split at h
   ·exact a0O j n m a _ _ q h
   ·exact a0O j n m b _ _ q h
   ·exact N1i rfl h
  case block id a =>
   have r:a0K c fl n a t H ≠ .bad:=by intro hb;rw [hb] at h;exact h rfl
   rw [a0O j n m a t H q r]
  case loop a =>
   have r:a0K c fl n a t H ≠ .bad:=by intro hb;rw [hb] at h;exact h rfl
   rw [a0O j n m a t H q r]
   split at h
   ·exact a0O j n m (.loop a) _ _ q h
   ·rfl
  case reg ops=>exact f0V hc j ops t H h
  case draw ops bef pairs=>exact d0w hc j bef pairs ops 0 t H none [] h
end
theorem a0F (E:Env):∀ n m,n<=m->U0T (a0M E n) (a0M E m)
 | 0,m,_=>fun _ _ _ _ _ _ h=>by simp [a0M] at h
 | n + 1,0,hm=>by omega
 | n + 1,m + 1,hm=>fun fl fl' f args H w h=>by
  have r:=a0F E n m (by omega)
  simp only [a0M] at h ⊢
  split at h
  ·split at h
   ·rfl
   split at h
   ·rename_i q y
    try simp only
    split at h
    ·rename_i c
     rw [M1Z c];rw [M1Z c]
     split at h
     ·rename_i p s _
      try simp only at h ⊢
      split at h
      case isFalse=>exact N1i rfl h
      rename_i hsz
      rw [M1Z hsz]
      try rw [M1Z hsz]
      have j:a0M E n (max fl H.size) q.solved [.agg #[],.agg p,.agg s] H ≠ .bad:=by intro hb;rw [hb] at h;exact h rfl
      try simp only
      rw [r (max fl H.size) (max fl' H.size) _ _ _ (by omega) j]
     ·exact N1i rfl h
    ·exact N1i rfl h
   ·exact N1i rfl h
  ·rename_i u x
   try simp only
   split at h
   ·rename_i k
    rw [M1Z k];rw [M1Z k]
    have j:a0K (a0M E n) fl n u.body (args ++ List.replicate (u.nt - args.length) undef) H ≠ .bad:=by intro hb;rw [hb] at h;exact h rfl
    rw [a0O r w n m _ _ _ (by omega) j]
   ·exact N1i rfl h
theorem w0I {E:Env} {n m:Nat} {f:FuncId} {args:List Value} (j:n<=m) (c:fl'<=fl) (h:a0M E n fl f args H ≠ .bad):a0M E m fl' f args H=a0M E n fl f args H :=
 a0F E n m j _ _ _ _ _ c h
end
section
open Go
abbrev n0z:=Value->a0c->Prop
abbrev d0K:=XA->a0U->a0c->Prop
abbrev a0P:=Value->Prop
def p0E (Q:n0z) (R:a0P):Res (Value × a0c)->Prop
 | .ok (v,H)=>Q v H
 | .pan v=>R v
 | .bad=>False
def m0O (Q:d0K) (R:a0P):Out->Prop
 | .fin e t H=>Q e t H
 | .pan v=>R v
 | .bad=>False
def b0k (E:Env) (fl:Nat) (f:FuncId) (args:List Value) (H:a0c) (Q:n0z) (R:a0P):Prop:=∃ n,p0E Q R (a0M E n fl f args H)
def W (E:Env) (fl:Nat) (c:SCode) (t:a0U) (H:a0c) (Q:d0K) (R:a0P):Prop:=∃ n,m0O Q R (a0K (a0M E n) fl n c t H)
def WS (E:Env) (fl:Nat) (t:a0U) (H:a0c) (op:SOp) (K:n0z) (R:a0P):Prop :=
 match opA fl t H op with
 | .bad=>False
 | .pan v=>R v
 | .val v H'=>K v H'
 | .call f args lone=>b0k E (if lone then fl else max fl H.size) f args H K R
def WR (E:Env) (fl:Nat):List a0v->a0U->a0c->(a0U->a0c->Prop)->a0P->Prop
 | [],t,H,K,_=>K t H
 | o :: r,t,H,K,R=>if a0Q t o.g then WS E fl t H o.op (fun v H'=>WR E fl r (put t o.dst v) H' K R) R else WR E fl r (put t o.dst undef) H K R
variable {E:Env} {fl:Nat} {t:a0U} {H:a0c} {Q Q':d0K} {R R':a0P} {K K':n0z} {f:FuncId} {args:List Value}
theorem e0R {o:Out} (h:m0O Q R o):o ≠ .bad:=by cases o <;> simp_all [m0O]
theorem H0G {o:Res (Value × a0c)} (h:p0E K R o):o ≠ .bad:=by cases o <;> simp_all [p0E]
theorem m0m {n m k:Nat} {c:SCode} (q:n<=m) (j:k<=m) (h:m0O Q R (a0K (a0M E n) fl k c t H)):m0O Q R (a0K (a0M E m) fl m c t H):=by
 rw [a0O (a0F E n m q) (M1U fl) k m c t H j (e0R h)];exact h
theorem y0k {n m fl':Nat} (j:n<=m) (c:fl'<=fl) (h:p0E K R (a0M E n fl f args H)):p0E K R (a0M E m fl' f args H):=by
 rw [w0I j c (H0G h)];exact h
theorem b0k.mo (h:b0k E fl f args H K R) (c:∀ v H',K v H'->K' v H'):b0k E fl f args H K' R:=by
 obtain ⟨n,h⟩:=h
 refine ⟨n,?_⟩
 cases hc:a0M E n fl f args H with
 | bad=>rw [hc] at h;exact h
 | pan v=>rw [hc] at h;exact h
 | ok r=>rw [hc] at h;exact c _ _ h
theorem b0k.floor {fl':Nat} (h:b0k E fl f args H K R) (c:fl'<=fl):b0k E fl' f args H K R:=by
 obtain ⟨n,h⟩:=h
 exact ⟨n,y0k (M1U n) c h⟩
theorem b0k.keep (h:b0k E fl f args H K R) (c:fl<=H.size):b0k E fl f args H (fun v H'=>K v H'/\h0E fl H H') R:=by
 obtain ⟨n,h⟩:=h
 refine ⟨n,?_⟩
 cases hc:a0M E n fl f args H with
 | bad=>rw [hc] at h;exact h
 | pan v=>rw [hc] at h;exact h
 | ok r=>rw [hc] at h;exact ⟨h,i0v E n fl f args H r.1 r.2 hc c⟩
theorem W.mo {c:SCode} (h:W E fl c t H Q R) (j:∀ e t' H',Q e t' H'->Q' e t' H'):W E fl c t H Q' R:=by
 obtain ⟨n,h⟩:=h
 refine ⟨n,?_⟩
 cases hc:a0K (a0M E n) fl n c t H with
 | bad=>rw [hc] at h;exact h
 | pan v=>rw [hc] at h;exact h
 | fin e t' H'=>rw [hc] at h;exact j _ _ _ h
theorem WS.mo {op:SOp} (h:WS E fl t H op K R) (c:∀ v H',K v H'->K' v H'):WS E fl t H op K' R:=by
 unfold WS at h ⊢
 split at h
 ·exact h
 ·exact h
 ·exact c _ _ h
 ·exact h.mo c
theorem WR.mo {Z j:a0U->a0c->Prop}:∀ {ops:List a0v} {t:a0U} {H:a0c},WR E fl ops t H Z R->(∀ t' H',Z t' H'->j t' H')->WR E fl ops t H j R
 | [],_,_,h,hk=>hk _ _ h
 | o :: r,t,H,h,hk=>by
  simp only [WR] at h ⊢
  split at h
  ·rename_i c;rw [M1Z c];exact h.mo fun v H' k=>WR.mo k hk
  ·rename_i c;rw [M1V c];exact WR.mo h hk
def i0T (k:a0U->a0c->Prop) (Q:d0K):d0K
 | .normal,t,H=>k t H
 | .exit i,t,H=>Q (.exit i) t H
 | .ret,t,H=>Q .ret t H
theorem i0G {a b:SCode} (h:W E fl a t H (i0T (fun t' H'=>W E fl b t' H' Q R) Q) R):W E fl (.seq a b) t H Q R:=by
 obtain ⟨n,h⟩:=h
 cases hc:a0K (a0M E n) fl n a t H with
 | bad=>rw [hc] at h;exact N1i h id
 | pan v =>
  refine ⟨n + 1,?_⟩
  have:=a0O (a0F E n (n+1) (by omega)) (M1U fl) n n a t H (M1U n) (by rw [hc];simp)
  simp only [a0K,this,hc];rw [hc] at h;exact h
 | fin e t' H' =>
  rw [hc] at h
  cases e with
  | normal =>
   obtain ⟨m,h⟩:=h
   refine ⟨max n m + 1,?_⟩
   have:=a0O (a0F E n (max n m+1) (by omega)) (M1U fl) n (max n m) a t H (by omega) (by rw [hc];simp)
   simp only [a0K,this,hc]
   have c:=a0O (a0F E m (max n m+1) (by omega)) (M1U fl) m (max n m) b t' H' (by omega) (e0R h)
   rw [c];exact h
  | exit i =>
   refine ⟨n + 1,?_⟩
   have:=a0O (a0F E n (n+1) (by omega)) (M1U fl) n n a t H (M1U n) (by rw [hc];simp)
   simp only [a0K,this,hc];exact h
  | ret =>
   refine ⟨n + 1,?_⟩
   have:=a0O (a0F E n (n+1) (by omega)) (M1U fl) n n a t H (M1U n) (by rw [hc];simp)
   simp only [a0K,this,hc];exact h
theorem u0W (h:Q .normal t H):W E fl .skip t H Q R:=⟨1,by simpa [a0K,m0O] using h⟩
theorem u0V {i:Nat} (h:Q (.exit i) t H):W E fl (.exit i) t H Q R:=⟨1,by simpa [a0K,m0O] using h⟩
theorem H1d (h:Q .ret t H):W E fl .ret t H Q R:=⟨1,by simpa [a0K,m0O] using h⟩
theorem m0c {c:Opd} {a b:SCode} (x:Bool) (j:ev t c=.bool x) (k:x=true->W E fl a t H Q R) (hb:x=false->W E fl b t H Q R):W E fl (.cond c a b) t H Q R:=by
 cases x with
 | true =>
  obtain ⟨n,h⟩:=k rfl
  refine ⟨n + 1,?_⟩
  have:=a0O (a0F E n (n+1) (by omega)) (M1U fl) n n a t H (M1U n) (e0R h)
  simp only [a0K,j,this];exact h
 | false =>
  obtain ⟨n,h⟩:=hb rfl
  refine ⟨n + 1,?_⟩
  have:=a0O (a0F E n (n+1) (by omega)) (M1U fl) n n b t H (M1U n) (e0R h)
  simp only [a0K,j,this];exact h
def f0t (i:Nat) (Q:d0K):d0K
 | .normal,t,H=>Q .normal t H
 | .exit j,t,H=>if j=i then Q .normal t H else Q (.exit j) t H
 | .ret,t,H=>Q .ret t H
theorem o0P {i:Nat} {c:SCode} (h:W E fl c t H (f0t i Q) R):W E fl (.block i c) t H Q R:=by
 obtain ⟨n,h⟩:=h
 refine ⟨n + 1,?_⟩
 have q:=a0O (a0F E n (n+1) (by omega)) (M1U fl) n n c t H (M1U n) (e0R h)
 simp only [a0K,q]
 cases hc:a0K (a0M E n) fl n c t H with
 | bad=>rw [hc] at h;exact N1i h id
 | pan v=>rw [hc] at h;exact h
 | fin e t' H' =>
  rw [hc] at h
  cases e with
  | normal=>exact h
  | ret=>exact h
  | exit j =>
   simp only [m0O,f0t] at h
   simp only
   split at h
   ·rename_i k;rw [M1Z k];exact h
   ·rename_i k;rw [M1V k];exact h
theorem S0j {c:SCode} (I:Nat->a0U->a0c->Prop)
  (step:∀ k t H,I k t H->W E fl c t H (i0T (fun t' H'=>∃ k',k' < k/\I k' t' H') Q) R):∀ (k:Nat) {t:a0U} {H:a0c},I k t H->W E fl (.loop c) t H Q R:=by
 intro k
 induction k using Nat.strongRecOn with
 | ind k ih =>
  intro t H s
  obtain ⟨n,h⟩:=step k t H s
  cases hc:a0K (a0M E n) fl n c t H with
  | bad=>rw [hc] at h;exact N1i h id
  | pan v =>
   refine ⟨n + 1,?_⟩
   have:=a0O (a0F E n (n+1) (by omega)) (M1U fl) n n c t H (M1U n) (by rw [hc];simp)
   simp only [a0K,this,hc];rw [hc] at h;exact h
  | fin e t' H' =>
   rw [hc] at h
   cases e with
   | normal =>
    obtain ⟨k',q,j⟩:=h
    obtain ⟨m,h⟩:=ih k' q j
    refine ⟨max n m + 1,?_⟩
    have:=a0O (a0F E n (max n m+1) (by omega)) (M1U fl) n (max n m) c t H (by omega) (by rw [hc];simp)
    simp only [a0K,this,hc]
    have r:=a0O (a0F E m (max n m+1) (by omega)) (M1U fl) m (max n m) (.loop c) t' H' (by omega) (e0R h)
    rw [r];exact h
   | exit i =>
    refine ⟨n + 1,?_⟩
    have:=a0O (a0F E n (n+1) (by omega)) (M1U fl) n n c t H (M1U n) (by rw [hc];simp)
    simp only [a0K,this,hc];exact h
   | ret =>
    refine ⟨n + 1,?_⟩
    have:=a0O (a0F E n (n+1) (by omega)) (M1U fl) n n c t H (M1U n) (by rw [hc];simp)
    simp only [a0K,this,hc];exact h
theorem S0i {op:SOp} (h:WS E fl t H op K R):∃ n,p0E K R (b0i (a0M E n) fl t H op):=by
 unfold WS at h
 unfold b0i
 split at h
 ·exact N1i h id
 ·rename_i v c;exact ⟨0,by simpa [c,p0E] using h⟩
 ·rename_i v H' c;exact ⟨0,by simpa [c,p0E] using h⟩
 ·rename_i g as lone c
  obtain ⟨n,h⟩:=h
  exact ⟨n,by simpa [c] using h⟩
theorem u0U {Z:a0U->a0c->Prop}:∀ (ops:List a0v) {t:a0U} {H:a0c},WR E fl ops t H Z R->∃ n,m0O (fun e t' H'=>e=.normal/\Z t' H') R (f0h (a0M E n) fl ops t H)
 | [],t,H,h=>⟨0,rfl,h⟩
 | o :: r,t,H,h=>by
  simp only [WR] at h
  split at h
  ·rename_i k
   obtain ⟨n,c⟩:=S0i h
   cases hs:b0i (a0M E n) fl t H o.op with
   | bad=>rw [hs] at c;exact N1i c id
   | pan v=>exact ⟨n,by simp only [f0h,k,N1E,hs];rw [hs] at c;exact c⟩
   | ok rr =>
    obtain ⟨v,H'⟩:=rr
    rw [hs] at c
    obtain ⟨m,j⟩:=u0U r c
    refine ⟨max n m,?_⟩
    have q:=i0E (a0F E n (max n m) (by omega)) (M1U fl) (t:=t) (H:=H) (so:=o.op) (by rw [hs];simp)
    have s:=f0V (a0F E m (max n m) (by omega)) (M1U fl) r (put t o.dst v) H' (e0R j)
    simp only [f0h,k,N1E,q,hs,s];exact j
  ·rename_i k
   obtain ⟨m,j⟩:=u0U r h
   exact ⟨m,by simp only [f0h,k,N1G];exact j⟩
theorem m0d {ops:List a0v} (h:WR E fl ops t H (fun t' H'=>Q .normal t' H') R):W E fl (.reg ops) t H Q R:=by
 obtain ⟨n,c⟩:=u0U ops h
 refine ⟨n + 1,?_⟩
 have j:=f0V (a0F E n (n+1) (by omega)) (M1U fl) ops t H (e0R c)
 simp only [a0K,j]
 cases hr:f0h (a0M E n) fl ops t H with
 | bad=>rw [hr] at c;exact N1i c id
 | pan v=>rw [hr] at c;exact c
 | fin e t' H'=>rw [hr] at c;obtain ⟨rfl,c⟩:=c;exact c
theorem o0T {c:F0E} {fl:Nat} (bef:List Nat):∀ (ops:List a0v) (i:Nat) (t:a0U) (H:a0c) (j:List (List Nat × List Nat)) {e:XA} {t':a0U} {H':a0c},
  f0h c fl ops t H=.fin e t' H'->b0T c fl bef [] i ops t H none j=.fin .normal t' H'
 | [],i,t,H,j,e,t',H',h=>by simp only [f0h,Out.fin.injEq] at h;obtain ⟨_,rfl,rfl⟩:=h;simp [b0T,c0u]
 | o :: r,i,t,H,j,e,t',H',h=>by
  simp only [f0h] at h
  simp only [b0T,j0u,N1g,N1G]
  split at h
  ·rename_i k
   simp only [k,N1E]
   split at h
   ·cases h
   ·cases h
   ·rename_i v H1 hs;(try simp only [hs]);exact o0T bef r _ _ _ _ h
  ·rename_i k
   simp only [k,N1G]
   exact o0T bef r _ _ _ _ h
theorem c0t {ops:List a0v} {bef:List Nat} (h:WR E fl ops t H (fun t' H'=>Q .normal t' H') (fun _=>False)):W E fl (.draw ops bef []) t H Q R:=by
 obtain ⟨n,c⟩:=u0U ops h
 refine ⟨n + 1,?_⟩
 have j:=f0V (a0F E n (n+1) (by omega)) (M1U fl) ops t H (e0R c)
 simp only [a0K]
 cases hr:f0h (a0M E n) fl ops t H with
 | bad=>rw [hr] at c;exact N1i c id
 | pan v=>rw [hr] at c;exact N1i c id
 | fin e t' H' =>
  rw [hr] at c j
  rw [o0T bef ops 0 t H [] j]
  exact c.2
theorem v0g {c:n0v} (hc:E.code f=some c) (s:args.length=c.np) (w:args.length<=c.nt)
  (h:∀ t,t.length=c.nt->(∀ i,get t i=args.getD i undef)->W E fl c.body t H (fun e t' H'=>(match e with | .exit _=>False | _=>True)/\∃ vs,c0N H' t' c.res=some vs/\K (b0K vs) H') R) :
  b0k E fl f args H K R:=by
 obtain ⟨n,j⟩:=h (args ++ List.replicate (c.nt - args.length) undef) (by simp;omega) (fun i=>by
  unfold get
  simp only [M1R]
  by_cases hi:i < args.length
  ·rw [O1C hi]
  ·rw [O1w (by omega)]
   rw [N1d (by omega:args.length<=i)]
   by_cases q:i - args.length < c.nt - args.length
   ·rw [O1I];simp [q]
   ·rw [N1d (by simpa using q)])
 refine ⟨n + 1,?_⟩
 simp only [a0M,hc,s,N1E]
 rw [s] at j
 cases hx:a0K (a0M E n) fl n c.body (args ++ List.replicate (c.nt - c.np) undef) H with
 | bad=>rw [hx] at j;exact N1i j id
 | pan v=>rw [hx] at j;exact j
 | fin e t' H' =>
  rw [hx] at j
  obtain ⟨u,vs,k,r⟩:=j
  cases e with
  | exit i=>exact N1i u id
  | normal=>simp only [k];exact r
  | ret=>simp only [k];exact r
end
section
open Go Go.RowKit Go.ChangeShapes Go.WideShapes Go.ChangeAt
def IsV (P:Program) (H:a0c) (m:Nat) (t:TypeId) (v:Value):Prop :=
 match P.underlying t with
 | some (.struct _)=>∃ cs,v=.agg cs/\IsT P H m t cs.toList
 | _=>IsT P H m t [v]
def F0G (P:Program) (H:a0c) (m:Nat):List TypeId->List Value->Prop
 | [],[]=>True
 | t :: ts,v :: vs=>IsV P H m t v/\F0G P H m ts vs
 | _,_=>False
theorem IsV.mo {P:Program} {H H':a0c} (c:n0u H H') {m:Nat} {t:TypeId} {v:Value} (h:IsV P H m t v):IsV P H' m t v:=by
 unfold IsV at h ⊢
 split at h
 ·obtain ⟨cs,j,k⟩:=h;exact ⟨cs,j,k.mo c⟩
 ·exact IsT.mo c h
theorem F0G.mo {P:Program} {H H':a0c} (j:n0u H H') {m:Nat}:∀ {c:List TypeId} {vs:List Value},F0G P H m c vs->F0G P H' m c vs
 | [],[],h=>h
 | t :: c,v :: vs,h=>⟨h.1.mo j,F0G.mo j h.2⟩
 | [],_ :: _,h=>h.elim
 | _ :: _,[],h=>h.elim
variable {X:Cx} {φ:Inj} {H:a0c} {w:World} {D:Type} {enc:TypeId × Value->D} {P:Program}
theorem y0n {t:TypeId} {v:Value} {base:Nat} {m:Nat} (hp:e0z P m t=true) (c:∀ h,P.underlying t ≠ some (.struct h)) (ho:Value.okWide P w .any base t v):v.cells.toList=[v]:=by
 cases m with
 | zero=>simp [e0z] at hp
 | succ m =>
  unfold e0z at hp
  unfold Value.okWide at ho
  cases hu:P.underlying t with
  | none=>simp [hu] at hp
  | some d =>
   cases d <;> simp only [hu] at hp ho <;> try (exact N1i hp Bool.false_ne_true)
   all_goals (first | (exact N1i hu (c _)) | skip)
   all_goals
    unfold Cell.okWide at ho
    rw [hu] at ho
    unfold Cell.ok at ho
    rw [hu] at ho
    cases v <;> simp_all [Value.cells]
theorem H0p (hb:X.base=w.heap.size) {m:Nat} {t:TypeId} {v:Value} {d:DataW D} {L:List MemPlace} {base:Nat} (h:DataW.Trod enc P w 0 (fun _=>true) true t v d L) (hp:e0z P m t=true) (ho:Value.okWide P w .any base t v)
  (hR:Rel X φ H w) (u:h0F H):∃ H' φ' v',(∀ b x,φ b=some x->φ' b=some x)/\n0u H H'/\Rel X φ' H' w/\h0F H'/\VR X φ' (shq w) v' v/\IsV P H' m t v':=by
 obtain ⟨q,h⟩:=h
 obtain ⟨H',φ',c,z,F,y,G,s,z1⟩:=p0f hb m q t _ _ H φ h hp hR u
 by_cases hs:∃ j,P.underlying t=some (.struct j)
 ·obtain ⟨j,hs⟩:=hs
  have k:=ho
  unfold Value.okWide at k
  rw [hs] at k
  obtain ⟨cs,rfl,_⟩:=k
  refine ⟨H',φ',.agg c.toArray,z,F,y,G,VR.agg_iff.2 (by simpa [Value.cells] using s),?_⟩
  unfold IsV
  rw [hs]
  exact ⟨_,rfl,by simpa using z1⟩
 ·have r:∀ j,P.underlying t ≠ some (.struct j):=fun j h=>hs ⟨j,h⟩
  rw [y0n hp r ho] at s
  have I:c.length=1:=by have:=s.1;simpa using this
  obtain ⟨v',rfl⟩:∃ v',c = [v']:=by
   match c,I with
   | [v'],_=>exact ⟨v',rfl⟩
  refine ⟨H',φ',v',z,F,y,G,s.head,?_⟩
  unfold IsV
  split
  ·rename_i j J;exact N1i J (r j)
  ·exact z1
theorem r0q (hb:X.base=w.heap.size) {m:Nat} {base:Nat}:∀ (c:List TypeId) (vs:List Value) (ds:List (DataW D)) (G:List MemPlace) (H:a0c) (φ:Inj),DataW.TrodAll enc P w 0 (fun _=>true) true c vs ds G ->
  (∀ t,t ∈ c->e0z P m t=true)->(∀ (j:Nat) t v,c[j]? = some t->vs[j]? = some v->Value.okWide P w .any base t v)->Rel X φ H w->h0F H ->
  ∃ H' φ' k,(∀ b x,φ b=some x->φ' b=some x)/\n0u H H'/\Rel X φ' H' w/\h0F H'/\CR X φ' (shq w) k vs/\F0G P H' m c k
 | [],[],[],_,H,φ,_,_,_,hR,hro=>⟨H,φ,[],fun _ _ h=>h,n0u.refl H,hR,hro,CR.nil,trivial⟩
 | t :: c,v :: vs,d :: ds,G,H,φ,h,hp,ho,hR,hro=>by
  obtain ⟨p,q,r,s,_⟩:=h
  obtain ⟨H1,y,Y,M,R,J,S,O,z1⟩:=H0p hb r (hp t (by simp)) (ho 0 t v rfl rfl) hR hro
  obtain ⟨I,z,u,e2,F,L,U,Q,z2⟩:=r0q hb c vs ds q H1 y s (fun t N=>hp t (by simp [N])) (fun j t v r s=>ho (j + 1) t v (by simpa using r) (by simpa using s)) J S
  exact ⟨I,z,Y :: u,fun b x h=>e2 b x (M b x h),R.trans F,L,U,CR.cons (O.mo e2 (fun _ _ h=>h)) Q,z1.mo F,z2⟩
 | [],[],_ :: _,_,_,_,h,_,_,_,_=>h.elim
 | [],_ :: _,_,_,_,_,h,_,_,_,_=>by cases ‹List (DataW D)› <;> exact h.elim
 | _ :: _,[],_,_,_,_,h,_,_,_,_=>by cases ‹List (DataW D)› <;> exact h.elim
 | _ :: _,_ :: _,[],_,_,_,h,_,_,_,_=>h.elim
theorem x0z {f:Func} {s:ChangeSpec} {apart fresh h F:Bool} {W z:World} {args:Array Value} {v:Value} {ds H:List (DataW D)} {c pa pv:List MemPlace}
  (J:DataW.Whole enc P f.params.toList s.vars apart W args.toList ds H c)
  (y:∀ (b:Nat) (G:Nat->Bool) (S:Bool),DataW.TrodAll enc P z b G S f.resultTypes.toList (v.resultList f.resultTypes.size) (s.fn D (ds ++ H)).results [])
  (k:∀ G:Nat->Bool,(∀ p ∈ c,G p.block=true)->DataW.TrodAll enc P z 0 G true f.params.toList args.toList (s.fn D (ds ++ H)).args pa)
  (q:∀ G:Nat->Bool,(∀ p ∈ c,G p.block=true)->DataW.TrodVars enc P z G s.vars (s.fn D (ds ++ H)).vars pv)
  (w:c=pa ++ pv) (u:Below W.heap.size W z)
  (M:∀ (j:Nat) (t:TypeId) (r:Value),f.resultTypes[j]? = some t->(v.resultList f.resultTypes.size)[j]? = some r->Value.okWide P z .any 0 t r) :
  s.post enc P f apart fresh h F W args v z:=by
 have x:∀ p ∈ c,(fun b=>decide (b < W.heap.size)) p.block=true:=fun p hp=>by simpa using J.lt p hp
 have U:W.keptBut z (· ∈ c):=by
  refine ⟨u.os,u.output,fun i hi=>?_⟩
  rw [u.block i hi]
  cases W.heap[i]? with
  | none=>rfl
  | some o=>cases o <;> simp
 refine ⟨ds,H,c,[],pa,pv,J,y _ _ _,k _ x,q _ x,World.keptBut_mono (fun p hp=>⟨hp,?_⟩) U,fun _=>?_⟩
 ·rw [w,N1B] at hp
  exact Or.inr hp
 ·have L:=J.lt
  obtain ⟨_,_,_,_,_,Z,Y⟩:=J
  refine ⟨M,_,_,([] ++ pa) ++ pv,⟨[] ++ pa,pv,trodAll_append (k _ (fun _ _=>rfl)) (y _ _ _),q _ (fun _ _=>rfl),rfl,?_,?_⟩,?_⟩
  ·intro b off hp
   have I:MemPlace.cell b off ∈ c:=by rw [w];simpa using hp
   have N:=Z b off I
   have O:b < W.heap.size:=L _ I
   have Q:=u.block b O
   unfold World.frozen? at N ⊢
   simpa [Q] using N
  ·intro R
   have:=Y R
   rw [w] at this
   simpa using this
  ·intro p hp _
   rw [w]
   simpa using hp
theorem k0o (u:laidOutB P=true) {W s:World} (j:Below W.heap.size W s) {w:Nat->Bool}:∀ {r:List TypeId} {vs:List Value} {ds:List (DataW D)} {k:List MemPlace},
  DataW.TrodAll enc P W 0 (fun _=>true) true r vs ds k->(∀ t,t ∈ r->P.readableRec t=true/\t < P.types.size)->(∀ p ∈ k,p.block < W.heap.size)->(∀ p ∈ k,w p.block=true)->DataW.TrodAll enc P s 0 w true r vs ds k
 | [],[],[],_,h,_,_,_=>h
 | t :: r,v :: vs,d :: ds,k,⟨p,q,h1,h2,e⟩,hr,hlt,hsp=>by
  subst e
  refine ⟨p,q,WideElems.Trod_stays u (hr t (by simp)).1 (hr t (by simp)).2 h1 (fun x c=>j.same (hlt x (by simp [c]))) (fun x c=>hsp x (by simp [c])),?_,rfl⟩
  exact k0o u j h2 (fun t y=>hr t (by simp [y])) (fun x c=>hlt x (by simp [c])) (fun x c=>hsp x (by simp [c]))
 | [],[],_ :: _,_,h,_,_,_=>h.elim
 | [],_ :: _,ds,_,h,_,_,_=>by cases ds <;> exact h.elim
 | _ :: _,[],ds,_,h,_,_,_=>by cases ds <;> exact h.elim
 | _ :: _,_ :: _,[],_,h,_,_,_=>h.elim
theorem l0d {E:Env} (N:∀ (base n:Nat),b0x ⟨P,base⟩ (a0M E n)) {f:FuncId} {z:Func} {s:ChangeSpec} {apart fresh c F:Bool} {m:Nat} {tb:TypeId} (hl:laidOutB P=true) (R:∀ t,t ∈ z.params.toList->e0z P m t=true/\P.readableRec t=true/\t < P.types.size)
  (M:z.resultTypes = #[tb]) (Q:P.underlying tb=some .bool) (hv:s.vars=[]) (hs:∀ ds:List (DataW D),ds.length=z.params.size->s.fn D ds = { results:=[.lit (.bool true)],args:=ds })
  (a1:∀ (w:a0c) (vs:List Value),F0G P w m z.params.toList vs->b0k E w.size f vs w (fun r _=>r=.bool true) (fun _=>False))
  (W:World) (base:Nat) (args:Array Value) (ds gs:List (DataW D)) (y:List MemPlace)
  (S:∀ (j:Nat) t v,z.params[j]? = some t->args[j]? = some v->Value.okWide P W .any base t v)
  (hW:DataW.Whole enc P z.params.toList s.vars apart W args.toList ds gs y) :
  Calls P f args W fun e Y=>∃ v,e=.returned v/\s.post enc P z apart fresh c F W args v Y:=by
 have J:=hW
 obtain ⟨p,q,hA,hV,G,a7,a8⟩:=hW
 rw [hv] at hV
 obtain ⟨rfl,rfl⟩:=trodVars_none hV
 have hb:(⟨P,W.heap.size⟩:Cx).base=W.heap.size:=rfl
 have h0:Rel ⟨P,W.heap.size⟩ (fun _=>none) #[] W:=⟨M1U _,fun _ _ h=>by simp at h,fun _ _ _ _ _ _ h=>by simp at h,fun _ _ _ _ _ _ _ h=>by simp at h⟩
 have a3:h0F #[]:=fun b e cs h=>by simp [a0c.bk] at h
 obtain ⟨w,φ,vs,_,_,hR,a4,a0,hz⟩:=r0q (X:=⟨P,W.heap.size⟩) hb _ _ _ _ #[] (fun _=>none) hA (fun t ht=>(R t ht).1) (fun j t v h1 Z=>S j t v (by simpa using h1) (by simpa using Z)) h0 a3
 obtain ⟨n,I⟩:=a1 w vs hz
 have hsz:ds.length=z.params.size:=by
  have:∀ (U:List TypeId) (vs:List Value) (ds:List (DataW D)) (ps:List MemPlace),DataW.TrodAll enc P W 0 (fun _=>true) true U vs ds ps->ds.length=U.length:=by
   intro U
   induction U with
   | nil=>intro vs ds ps h;cases vs <;> cases ds <;> first | rfl | exact h.elim
   | cons t U ih =>
    intro vs ds ps h
    cases vs <;> cases ds <;> first | exact h.elim | skip
    obtain ⟨_,_,_,Z,_⟩:=h
    simp [ih _ _ _ Z]
  simpa using this _ _ _ _ hA
 cases hc:a0M E n w.size f vs w with
 | bad=>rw [hc] at I;exact I.elim
 | pan v=>rw [hc] at I;exact I.elim
 | ok r =>
  obtain ⟨rv,H'⟩:=r
  rw [hc] at I
  have a5:rv=.bool true:=I
  subst a5
  refine Calls.mono ((N W.heap.size n w.size f vs w φ W args hR a0 (M1U _)).1 _ _ hc).2 ?_
  rintro e Y ⟨v',φ',rfl,a6,u⟩
  cases a6
  have L:Below W.heap.size W Y:=⟨u.os,u.tape,u.out,u.wsz,fun k hk=>u.frame k hk fun b o e cs _ _ h=>a4 b e cs h⟩
  have H:=hs (ds ++ []) (by simpa using hsz)
  have a2:=J.lt
  refine ⟨_,rfl,x0z (pa:=p) (pv:=[]) J (fun b sp hd=>?_) (fun sp O=>?_) (fun sp _=>?_) G L ?_⟩
  ·rw [H,M]
   exact trodAll_cons_mk (shut_bool Q true) trodAll_mk0
  ·rw [H,List.append_nil]
   exact k0o hl L hA (fun t ht=>(R t ht).2) (fun x hx=>a2 x (by rw [G];simp [hx])) (fun x hx=>O x (by rw [G];simp [hx]))
  ·rw [H,hv];rfl
  ·exact ok_one M rfl (okWide_bool_mk Q _)
end
section
open Go
variable {E:Env} {fl:Nat} {t:a0U} {H G:a0c} {K:n0z} {R:a0P}
theorem nr {α:Sort _} {a b:α} (h:a=b):a=b:=h
def oo {α:Type} (o:Option α) (K:α->Prop):Prop:=∃ a,o=some a/\K a
@[simp] theorem z0E {α:Type} (a:α) (K:α->Prop):oo (some a) K=K a:=by simp [oo]
@[simp] theorem K1i {α:Type} (K:α->Prop):oo (none:Option α) K=False:=by simp [oo]
def T (n:Nat) (ρ:Nat->Value):a0U:=(List.range n).map ρ
def upd (ρ:Nat->Value) (d:Nat) (v:Value):Nat->Value:=fun i=>if d=i then v else ρ i
theorem l0S {ρ:Nat->Value} {d:Nat} {v:Value}:upd ρ d v d=v:=by simp [upd]
theorem k0p {ρ:Nat->Value} {d i:Nat} {v:Value} (h:d ≠ i):upd ρ d v i=ρ i:=by simp [upd,h]
theorem X0s {n d:Nat} {ρ:Nat->Value} {v:Value}:put (T n ρ) (some d) v=T n (upd ρ d v):=by
 unfold put T
 apply O1V
 intro i
 simp only [N1C,N1Q,List.length_map,List.length_range,List.getElem?_range',O1j]
 by_cases hi:i < n
 ·rw [O1j hi]
  by_cases c:d=i
  ·subst c;simp [hi,upd]
  ·simp [c,upd]
 ·rw [N1d (by simpa using hi)]
  by_cases c:d=i
  ·subst c;simp [hi]
  ·simp [c]
theorem b0H {n i:Nat} {ρ:Nat->Value} (h:i < n):get (T n ρ) i=ρ i:=by
 unfold get T
 rw [M1R,N1Q,O1j h];rfl
theorem U0W {t:a0U} {n:Nat} (h:t.length=n):t=T n (get t):=by
 apply O1V
 intro i
 unfold T
 by_cases hi:i < n
 ·rw [N1Q,O1j hi,M1X (by omega)]
  simp [get,M1R,M1X (show i < t.length by omega)]
 ·rw [N1d (by omega),N1d (by simpa using hi)]
theorem t1V {ρ:Nat->Value} {d i:Nat} {v:Value}:upd ρ d v i=if d=i then v else ρ i:=rfl
theorem v1Q {n i:Nat} {ρ:Nat->Value}:get (T n ρ) i=if i < n then ρ i else undef:=by
 by_cases h:i < n
 ·rw [M1Z h,b0H h]
 ·rw [M1V h];unfold get T;rw [M1R,N1d (by simpa using h)];rfl
@[simp] theorem G1m {n:Nat} {ρ:Nat->Value}:(T n ρ).length=n:=by simp [T]
theorem toT {t:a0U} {n:Nat} (h:t.length=n):∃ ρ,t=T n ρ:=⟨_,U0W h⟩
attribute [irreducible] upd T
@[simp] theorem G1x {v:Value}:put t none v=t:=nr rfl
@[simp] theorem u1q {d:Option Nat} {v:Value}:(put t d v).length=t.length:=by cases d <;> simp [put]
@[simp] theorem l0b {i:Nat}:ev t (.tmp i)=get t i:=nr rfl
@[simp] theorem G0m {v:Value}:ev t (.const v)=v:=nr rfl
@[simp] theorem M1y {f:FuncId}:ev t (.fn f)=.func (.func f) #[] #[]:=nr rfl
def X0p:Value->Value->Value->Option Value
 | .bool b,x,y=>some (if b then x else y)
 | _,_,_=>none
@[simp] theorem u1t {b:Bool} {x y:Value}:X0p (.bool b) x y=some (if b then x else y):=nr rfl
def V0z (k:IntKind):Value->Option Value
 | .int _ n=>some (.int k (k.wrap n))
 | _=>none
@[simp] theorem v1o {k k':IntKind} {n:Int}:V0z k (.int k' n)=some (.int k (k.wrap n)):=nr rfl
def i0q:Value->Option Value
 | .slice _ n _=>some (.int .i64 n)
 | _=>none
def adr (size:Nat) (v:Value) (j:Nat):Value :=
 match v with
 | .slice (some p) _ _=>.pointer (some ⟨p.block,p.off + j * size,none⟩)
 | _=>undef
def iaV (size:Nat) (v:Value) (i:Value):Option Value :=
 match v,i with
 | .slice (some p) n _,.int _ j=>if 0<=j/\j < n then some (.pointer (some ⟨p.block,p.off + j.toNat * size,none⟩)) else none
 | _,_=>none
def I1P (v:Value) (i:Nat):Option Value:=match v with | .tuple vs=>vs[i]? | _=>none
@[simp] theorem F1R:V0v (.slice none 0 0)=some (.int .i64 0):=nr rfl
@[simp] theorem u1j {vs:Array Value} {i:Nat}:I1P (.tuple vs) i=vs[i]?:=nr rfl
def faV (off:Nat):Value->Option Value
 | .pointer (some p)=>if p.spot.isSome=true then none else some (.pointer (some ⟨p.block,p.off + off,none⟩))
 | _=>none
@[simp] theorem J1y {off b o:Nat}:faV off (.pointer (some ⟨b,o,none⟩))=some (.pointer (some ⟨b,o + off,none⟩)):=by simp [faV]
def n0l (fl:Nat) (H:a0c) (n:Nat) (a x:Value):Option a0c :=
 match a with
 | .pointer (some p)=>if p.spot.isSome=true ∨ (a0t x).length ≠ n then none else H.write? fl p.block p.off (a0t x)
 | _=>none
def mkV (bytes:Nat):Value->Value->Option (Nat × Nat)
 | .int _ l,.int _ c=>if 0<=l/\l<=c/\c<=1073741824/\bytes<=1024 then some (l.toNat,c.toNat) else none
 | _,_=>none
theorem p0i {bytes:Nat} {k k':IntKind} {l c:Nat} (h:l<=c) (j:c<=1073741824) (q:bytes<=1024):mkV bytes (.int k l) (.int k' c)=some (l,c):=by
 unfold mkV;simp only;rw [M1Z (by omega)];simp
theorem G1p {bytes:Nat} {k k':IntKind} {l c:Int} (h:0<=l) (j:l<=c) (q:c<=1073741824) (r:bytes<=1024):mkV bytes (.int k l) (.int k' c)=some (l.toNat,c.toNat):=by
 unfold mkV;simp only;rw [M1Z ⟨h,j,q,r⟩]
variable {x y a b c:Opd}
theorem u1Q:WS E fl t H (.mv x) K R=K (ev t x) H:=nr rfl
theorem V0d:WS E fl t H (.pick c a b) K R=oo (X0p (ev t c) (ev t a) (ev t b)) fun v=>K v H:=by
 simp only [WS,opA];generalize ev t c=v;generalize ev t a=va;generalize ev t b=vb
 cases v <;> simp [X0p,oo]
 rename_i q;cases q <;> simp
theorem y0e {tag:Nat} {o:BinOp}:WS E fl t H (.bin tag o x y) K R=oo (c0k tag o (ev t x) (ev t y)) fun v=>K v H:=by
 simp only [WS,opA];cases c0k tag o (ev t x) (ev t y) <;> simp [a0R]
theorem H1c {u:UnOp}:WS E fl t H (.un u x) K R=oo (unA u (ev t x)) fun v=>K v H:=by
 simp only [WS,opA];cases unA u (ev t x) <;> simp [a0R]
theorem U0Z {k:IntKind}:WS E fl t H (.conv k x) K R=oo (V0z k (ev t x)) fun v=>K v H:=by
 simp only [WS,opA];generalize ev t x=v;cases v <;> simp [V0z]
theorem u1N:WS E fl t H (.len x) K R=oo (i0q (ev t x)) fun v=>K v H:=by
 simp only [WS,opA];generalize ev t x=v;cases v <;> simp [i0q]
theorem u1K:WS E fl t H (.cap x) K R=oo (V0v (ev t x)) fun v=>K v H:=by
 simp only [WS,opA];cases V0v (ev t x) <;> simp [a0R]
theorem U0X {e:TypeId} {bytes:Nat} {z:List Value}:WS E fl t H (.appz e bytes z x y) K R=oo (t0a bytes (ev t x) (ev t y)) fun n=>K (.slice (some ⟨H.size,0,none⟩) n unk) (H.push (.row false e (e0W z n))):=by
 simp only [WS,opA];cases t0a bytes (ev t x) (ev t y) <;> simp
def K1W (z:Value) (k:IntKind) (n:Int):Blk->Option Value
 | .row _ _ cs=>m0v z k n cs
 | _=>none
@[simp] theorem G1n {z:Value} {k:IntKind} {n:Int} {ro:Bool} {e:TypeId} {cs:List Value}:K1W z k n (.row ro e cs)=m0v z k n cs:=nr rfl
@[simp] theorem v1Z {z:Value} {k:IntKind} {n:Int}:m0v z k n []=some z:=nr rfl
@[simp] theorem v1Y {z:Value} {b:Nat} {k:IntKind} {n:Int}:p0g H z (.map (some b)) (.int k n)=K1W z k n (H.bk b):=by
 simp only [p0g];cases H.bk b <;> rfl
theorem F0P {e:TypeId}:WS E fl t H (.mkmap e) K R=K (.map (some H.size)) (H.push (.row false e [])):=nr rfl
theorem V0b {z:Value}:WS E fl t H (.look z x y) K R=oo (p0g H z (ev t x) (ev t y)) fun v=>K v H:=by
 simp only [WS,opA];cases p0g H z (ev t x) (ev t y) <;> simp [a0R]
theorem G1Z {size:Nat}:WS E fl t H (.ia size x y) K R=oo (iaV size (ev t x) (ev t y)) fun v=>K v H:=by
 simp only [WS,opA,iaV];generalize ev t x=v;generalize ev t y=w
 cases v <;> simp
 rename_i p n c;cases p <;> cases w <;> simp
 rename_i q k j;by_cases hc:0<=j/\j < n <;> simp [hc]
theorem u1L {i:Nat}:WS E fl t H (.ext x i) K R=oo (I1P (ev t x) i) fun v=>K v H:=by
 simp only [WS,opA,I1P];generalize ev t x=v
 cases v <;> simp
 rename_i vs;cases h:vs[i]? <;> simp [a0R]
theorem G1Y {off:Nat}:WS E fl t H (.fa off x) K R=oo (faV off (ev t x)) fun v=>K v H:=by
 simp only [WS,opA,faV];generalize ev t x=v
 cases v <;> simp
 rename_i p;cases p <;> simp
 rename_i q;by_cases hc:q.spot.isSome=true <;> simp [hc]
theorem u1M {c:Bool} {off n:Nat}:WS E fl t H (.fld c off n x) K R=oo (S0r c off n (ev t x)) fun v=>K v H:=by
 simp only [WS,opA];cases S0r c off n (ev t x) <;> simp [a0R]
theorem F0O {c:TypeId}:WS E fl t H (.iface c x) K R=K (.iface c (ev t x)) H:=nr rfl
theorem V0c {f:Fn} {as bs:List Opd}:WS E fl t H (.mkfn f as bs) K R=K (.func f (as.map (ev t)).toArray (bs.map (ev t)).toArray) H:=nr rfl
theorem F0M {z:List Value} {c:List (Nat × Nat × Opd)}:WS E fl t H (.build z c) K R=oo (d0M z (b0c t c)) fun cs=>K (.agg cs.toArray) H:=by
 simp only [WS,opA];cases d0M z (b0c t c) <;> simp [a0R]
theorem V0a {c:Bool} {n:Nat}:WS E fl t H (.load c n x) K R=oo (b0w H c n (ev t x)) fun v=>K v H:=by
 simp only [WS,opA];cases b0w H c n (ev t x) <;> simp [a0R]
theorem u1P {c:Bool} {h:List Opd}:WS E fl t H (.mnx c x h) K R=oo (v0t c (ev t x) (h.map (ev t))) fun v=>K v H:=by
 simp only [WS,opA];cases v0t c (ev t x) (h.map (ev t)) <;> simp [a0R]
theorem H1b {e:TypeId} {size:Nat} {lo hi c:Option Opd}:WS E fl t H (.sl e size x lo hi c) K R =
  (elemOk H e (ev t x)=true/\oo (d0s size (ev t x) (lo.map (ev t)) (hi.map (ev t)) (c.map (ev t))) fun v=>K v H):=by
 simp only [WS,opA]
 cases elemOk H e (ev t x) <;> cases d0s size (ev t x) (lo.map (ev t)) (hi.map (ev t)) (c.map (ev t)) <;> simp [a0R]
theorem F0L {e:TypeId} {z:List Value}:WS E fl t H (.alloc e z) K R=K (.pointer (some ⟨H.size,0,none⟩)) (H.push (.row false e z)):=nr rfl
theorem u1I {e:TypeId}:WS E fl t H (.box e x) K R=K (.pointer (some ⟨H.size,0,none⟩)) (H.push (.row false e (a0t (ev t x)))):=nr rfl
theorem u1O {e:TypeId} {z:List Value} {n:Nat} {c:List (Nat × Nat × Opd)}:WS E fl t H (.lit e z n c) K R =
  oo (d0M (e0W z n) (b0c t c)) fun cs=>K (.slice (some ⟨H.size,0,none⟩) n n) (H.push (.row false e cs)):=by
 simp only [WS,opA];cases d0M (e0W z n) (b0c t c) <;> simp
theorem H1a {e:TypeId} {bytes:Nat} {z:List Value}:WS E fl t H (.mk e bytes z x y) K R =
  oo (mkV bytes (ev t x) (ev t y)) fun p=>K (.slice (some ⟨H.size,0,none⟩) p.1 p.2) (H.push (.row false e (e0W z p.1))):=by
 simp only [WS,opA,mkV];generalize ev t x=v;generalize ev t y=w
 cases v <;> cases w <;> simp
 rename_i k l k' c;by_cases hc:0<=l/\l<=c/\c<=1073741824/\bytes<=1024 <;> simp [hc]
theorem F0Q {n:Nat}:WS E fl t H (.store n x y) K R=oo (n0l fl H n (ev t x) (ev t y)) fun H'=>K undef H':=by
 simp only [WS,opA,n0l];generalize ev t x=v;generalize ev t y=w
 cases v <;> simp
 rename_i p;cases p <;> simp
 rename_i q;by_cases hc:q.spot.isSome=true ∨ (a0t w).length ≠ n <;> simp [hc]
 cases H.write? fl _ _ (a0t w) <;> simp
theorem u1H {e:TypeId} {size bytes:Nat}:WS E fl t H (.app e size bytes x y) K R=oo (n0w fl H e size bytes (ev t x) (ev t y)) fun p=>K p.1 p.2:=by
 simp only [WS,opA];cases n0w fl H e size bytes (ev t x) (ev t y) <;> simp [f0P]
theorem U0Y {f:FuncId} {as:List Opd} {lone:Bool}:WS E fl t H (.call f as lone) K R=b0k E (if lone then fl else max fl H.size) f (as.map (ev t)) H K R:=nr rfl
theorem y0d {Z:a0U->a0c->Prop}:WR E fl [] t H Z R=Z t H:=nr rfl
theorem s0w {d:Option Nat} {op:SOp} {r:List a0v} {Z:a0U->a0c->Prop}:WR E fl (⟨d,none,op⟩ :: r) t H Z R=WS E fl t H op (fun v H'=>WR E fl r (put t d v) H' Z R) R:=by
 simp [WR,a0Q]
theorem F0K {t t':a0U} {ops:List a0v} {Z:a0U->a0c->Prop} (h:t=t'):WR E fl ops t H Z R=WR E fl ops t' H Z R:=by rw [h]
theorem w0A {fl fl':Nat} {f:FuncId} {as c:List Value} (h:as=c) (j:fl=fl'):b0k E fl f as H K R=b0k E fl' f c H K R:=by rw [h,j]
theorem V0f {c:SCode} {Q:d0K}:W E fl c t H Q R=W E fl c t H Q R:=nr rfl
theorem F0N {op:SOp}:WS E fl t H op K R=WS E fl t H op K R:=nr rfl
theorem H0w {α:Type} {o c:Option α} {K:α->Prop} (h:o=c):oo o K=oo c K:=by rw [h]
def Ext (H G:a0c):Prop:=H.size<=G.size/\∀ b,b < H.size->G.bk b=H.bk b
theorem Ext.refl (H:a0c):Ext H H:=⟨M1U _,fun _ _=>rfl⟩
theorem Ext.trans {H1 c j:a0c} (h:Ext H1 c) (k:Ext c j):Ext H1 j:=⟨N1n h.1 k.1,fun b hb=>(k.2 b (N1k hb h.1)).trans (h.2 b hb)⟩
theorem h0E.ext (h:h0E H.size H G):Ext H G:=⟨h.size,h.low⟩
theorem a0N {r:Blk}:a0c.bk (H.push r) H.size=r:=by simp [a0z]
theorem f0X {r:Blk} {b:Nat} (h:b < H.size):a0c.bk (H.push r) b=H.bk b:=by rw [a0z,M1V (by omega)]
theorem a0C {r:Blk} {b:Nat} (h:b < H.size):a0c.bk (H.setIfInBounds b r) b=r:=by
 unfold a0c.bk;simp [M1Y,N1l,h]
theorem a0Y {r:Blk} {b c:Nat} (h:b ≠ c):a0c.bk (H.setIfInBounds b r) c=H.bk c:=by
 unfold a0c.bk;simp [M1Y,N1l,h]
theorem Ext.push {r:Blk} (h:Ext H G):Ext H (G.push r):=⟨by have:=h.1;simp;omega,fun b hb=>by rw [f0X (N1k hb h.1)];exact h.2 b hb⟩
theorem Ext.set {r:Blk} {b:Nat} (h:Ext H G) (hb:H.size<=b):Ext H (G.setIfInBounds b r):=⟨by have:=h.1;simpa using this,fun c hc=>by rw [a0Y (by omega)];exact h.2 c hc⟩
theorem Ext.le (h:Ext H G):H.size<=G.size:=h.1
theorem Ext.bk {b:Nat} {ro:Bool} {e:TypeId} {cs:List Value} (h:Ext H G) (hb:H.bk b=.row ro e cs):G.bk b=.row ro e cs:=by rw [h.2 b (a0r hb)];exact hb
theorem i0x {b off n:Nat} {ro:Bool} {e:TypeId} {cs:List Value} (h:H.bk b=.row ro e cs) (c:off + n<=cs.length):H.cells? b off n=some ((cs.drop off).take n):=by
 unfold a0c.cells?;rw [h];simp [c]
end
section
open Go
variable {E:Env} {fl:Nat} {t:a0U} {H:a0c} {Q:d0K} {R:a0P}
theorem o0V {n m k:Nat} {c:SCode} {o:Out} (q:n<=m) (j:k<=m) (h:a0K (a0M E n) fl k c t H=o) (ho:o ≠ .bad):a0K (a0M E m) fl m c t H=o:=by
 rw [a0O (a0F E n m q) (M1U fl) k m c t H j (by rw [h];exact ho),h]
theorem u0X {a b:SCode}:W E fl (.seq a b) t H Q R=W E fl a t H (i0T (fun t' H'=>W E fl b t' H' Q R) Q) R:=by
 refine propext ⟨fun ⟨n,h⟩=>?_,i0G⟩
 cases n with
 | zero=>simp only [a0K] at h;exact N1i h id
 | succ m =>
  simp only [a0K] at h
  cases ha:a0K (a0M E (m+1)) fl m a t H with
  | bad=>rw [ha] at h;exact N1i h id
  | pan v=>rw [ha] at h;exact ⟨m + 1,by rw [o0V (M1U _) (by omega) ha (by simp)];exact h⟩
  | fin e t' H' =>
   rw [ha] at h
   refine ⟨m + 1,?_⟩
   rw [o0V (M1U _) (by omega) ha (by simp)]
   cases e with
   | normal=>exact ⟨m + 1,m0m (M1U _) (by omega) h⟩
   | exit i=>exact h
   | ret=>exact h
theorem V0j:W E fl .skip t H Q R=Q .normal t H:=propext ⟨fun ⟨n,h⟩=>by cases n with | zero=>exact N1i h id | succ m=>exact h,u0W⟩
theorem V0i {i:Nat}:W E fl (.exit i) t H Q R=Q (.exit i) t H:=propext ⟨fun ⟨n,h⟩=>by cases n with | zero=>exact N1i h id | succ m=>exact h,u0V⟩
theorem u1U:W E fl .ret t H Q R=Q .ret t H:=propext ⟨fun ⟨n,h⟩=>by cases n with | zero=>exact N1i h id | succ m=>exact h,H1d⟩
def V0t:Value->Option Bool
 | .bool b=>some b
 | _=>none
@[simp] theorem u1f {b:Bool}:V0t (.bool b)=some b:=nr rfl
theorem V0h {c:Opd} {a b:SCode}:W E fl (.cond c a b) t H Q R=oo (V0t (ev t c)) fun x=>(x=true->W E fl a t H Q R)/\(x=false->W E fl b t H Q R):=by
 refine propext ⟨fun ⟨n,h⟩=>?_,fun ⟨x,j,k,hb⟩=>m0c x (by unfold V0t at j;split at j <;> simp_all) k hb⟩
 cases n with
 | zero=>exact N1i h id
 | succ m =>
  simp only [a0K] at h
  split at h
  ·rename_i hc;refine ⟨true,by rw [hc];rfl,fun _=>⟨m + 1,m0m (M1U _) (by omega) h⟩,by simp⟩
  ·rename_i hc;refine ⟨false,by rw [hc];rfl,by simp,fun _=>⟨m + 1,m0m (M1U _) (by omega) h⟩⟩
  ·exact N1i h id
theorem F0R {i:Nat} {c:SCode}:W E fl (.block i c) t H Q R=W E fl c t H (f0t i Q) R:=by
 refine propext ⟨fun ⟨n,h⟩=>?_,o0P⟩
 cases n with
 | zero=>exact N1i h id
 | succ m =>
  simp only [a0K] at h
  cases ha:a0K (a0M E (m+1)) fl m c t H with
  | bad=>rw [ha] at h;exact N1i h id
  | pan v=>rw [ha] at h;exact ⟨m + 1,by rw [o0V (M1U _) (by omega) ha (by simp)];exact h⟩
  | fin e t' H' =>
   rw [ha] at h
   refine ⟨m + 1,?_⟩
   rw [o0V (M1U _) (by omega) ha (by simp)]
   cases e with
   | normal=>exact h
   | ret=>exact h
   | exit j =>
    simp only at h
    show (if j=i then Q .normal t' H' else Q (.exit j) t' H')
    split at h
    ·rename_i k;rw [M1Z k];exact h
    ·rename_i k;rw [M1V k];exact h
theorem q0B {op:SOp} {K:n0z} {n:Nat} (h:p0E K R (b0i (a0M E n) fl t H op)):WS E fl t H op K R:=by
 unfold WS
 unfold b0i at h
 cases ho:opA fl t H op with
 | bad=>rw [ho] at h;exact N1i h id
 | pan v=>rw [ho] at h;exact h
 | val v H'=>rw [ho] at h;exact h
 | call f as lone=>rw [ho] at h;exact ⟨n,h⟩
theorem m0b {Z:a0U->a0c->Prop} {n:Nat}:∀ (ops:List a0v) {t:a0U} {H:a0c},m0O (fun _ t' H'=>Z t' H') R (f0h (a0M E n) fl ops t H)->WR E fl ops t H Z R
 | [],t,H,h=>h
 | o :: r,t,H,h=>by
  simp only [WR]
  simp only [f0h] at h
  split at h
  ·rename_i c
   rw [M1Z c]
   cases hs:b0i (a0M E n) fl t H o.op with
   | bad=>rw [hs] at h;exact N1i h id
   | pan v=>rw [hs] at h;exact q0B (by rw [hs];exact h)
   | ok x=>rw [hs] at h;exact q0B (n:=n) (by rw [hs];exact m0b r h)
  ·rename_i c
   rw [M1V c];exact m0b r h
theorem u1T {ops:List a0v}:W E fl (.reg ops) t H Q R=WR E fl ops t H (fun t' H'=>Q .normal t' H') R:=by
 refine propext ⟨fun ⟨n,h⟩=>?_,m0d⟩
 cases n with
 | zero=>exact N1i h id
 | succ m =>
  simp only [a0K] at h
  refine m0b (n:=m + 1) ops ?_
  cases hr:f0h (a0M E (m+1)) fl ops t H with
  | bad=>rw [hr] at h;exact h
  | pan v=>rw [hr] at h;exact h
  | fin e t' H' =>
   rw [hr] at h
   have he:=(regA_keep' ops t H hr)
   subst he;exact h
where
 regA_keep' {c:F0E} {fl:Nat}:∀ (ops:List a0v) (t:a0U) (H:a0c) {e:XA} {t':a0U} {H':a0c},f0h c fl ops t H=.fin e t' H'->e=.normal
  | [],t,H,e,t',H',h=>by simp only [f0h,Out.fin.injEq] at h;exact h.1.symm
  | o :: r,t,H,e,t',H',h=>by
   simp only [f0h] at h
   split at h
   ·split at h
    ·cases h
    ·cases h
    ·exact regA_keep' r _ _ h
   ·exact regA_keep' r _ _ h
@[simp] theorem d0Z {k:a0U->a0c->Prop}:i0T k Q .normal t H=k t H:=nr rfl
@[simp] theorem u1y {k:a0U->a0c->Prop} {i:Nat}:i0T k Q (.exit i) t H=Q (.exit i) t H:=nr rfl
@[simp] theorem F1o {k:a0U->a0c->Prop}:i0T k Q .ret t H=Q .ret t H:=nr rfl
@[simp] theorem G0a {i:Nat}:f0t i Q .normal t H=Q .normal t H:=nr rfl
@[simp] theorem V0q {i j:Nat}:f0t i Q (.exit j) t H=if j=i then Q .normal t H else Q (.exit j) t H:=nr rfl
@[simp] theorem u1e {i:Nat}:f0t i Q .ret t H=Q .ret t H:=nr rfl
end
end Go.Proofs.YtgopfcmbofkmmaaGreat.AI
