/- Part 11 of the proof. -/
import Derived.Test.YtgopfcmbofkmmaaGreatM08
set_option linter.unusedVariables false
set_option linter.unusedSimpArgs false
set_option linter.unusedSectionVars false
namespace Go.Proofs.YtgopfcmbofkmmaaGreat.AI
open Go
section
def o0e:List Value->Option (List Nat)
 | []=>some []
 | v :: r=>match v with
  | .int .u32 (.ofNat x)=>cond (Nat.blt x 4294967296) (match o0e r with | some l=>some (x :: l) | none=>none) none
  | _=>none
theorem r0o:∀ {cs:List Value} {l:List Nat},o0e cs=some l->cs=b0C l/\∀ x ∈ l,x < 4294967296
 | [],l,h=>by simp [o0e] at h;subst h;simp [b0C]
 | v :: r,l,h=>by
  unfold o0e at h
  split at h
  ·rename_i x
   cases hb:Nat.blt x 4294967296 with
   | false=>rw [hb] at h;cases h
   | true =>
    rw [hb] at h
    simp only [cond_true] at h
    cases hr:o0e r with
    | none=>rw [hr] at h;cases h
    | some l' =>
     rw [hr] at h
     simp only [M1Q] at h
     subst h
     obtain ⟨j,k⟩:=r0o hr
     subst j
     refine ⟨rfl,fun y c=>?_⟩
     rcases O1W.1 c with rfl | c
     ·simpa using hb
     ·exact k y c
  ·cases h
def rdL (G:Nat->Blk):Value->Option (List Nat)
 | .slice none 0 0=>some []
 | .slice (some ⟨b,off,none⟩) n _ =>
  match G b with
  | .row _ e cs=>cond (and (Nat.beq e a0b) (and (Nat.ble (Nat.add off n) cs.length) (Nat.ble n 60000000))) (o0e ((cs.drop off).take n)) none
  | .dead=>none
 | _=>none
theorem r0X {H:a0c} {v:Value} {l:List Nat} (h:rdL H.bk v=some l):Lim H v l/\l.length<=60000000:=by
 unfold rdL at h
 split at h
 ·simp only [M1Q] at h;subst h;exact ⟨Lim.nil,by simp⟩
 ·rename_i b off n cap
  split at h
  ·rename_i ro e cs hb
   cases hc:and (Nat.beq e a0b) (and (Nat.ble (Nat.add off n) cs.length) (Nat.ble n 60000000)) with
   | false=>rw [hc] at h;cases h
   | true =>
    rw [hc] at h
    simp only [M1W,Nat.beq_eq,Nat.ble_eq,Nat.add_eq] at hc
    obtain ⟨rfl,q,r⟩:=hc
    simp only [cond_true] at h
    obtain ⟨c,k⟩:=r0o h
    have j:l.length=n:=by
     have:=congrArg List.length c
     simp at this;omega
    refine ⟨⟨⟨by simp,.inr ⟨b,off,cap,ro,cs,by rw [j],hb,by omega,by rw [<- c,j,N1W]⟩⟩,k⟩,by omega⟩
  ·cases h
 ·cases h
def rdI (G:Nat->Blk):Value->Option (Bool × List Nat)
 | .agg a=>match a.toList with
  | [.bool s,sl]=>match rdL G sl with | some l=>some (s,l) | none=>none
  | _=>none
 | _=>none
theorem e0A {H:a0c} {v:Value} {i:Bool × List Nat} (h:rdI H.bk v=some i):c0m H v i/\i.2.length<=60000000:=by
 unfold rdI at h
 split at h
 ·rename_i a
  split at h
  ·rename_i s sl c
   cases hl:rdL H.bk sl with
   | none=>rw [hl] at h;cases h
   | some l =>
    rw [hl] at h
    simp only [M1Q] at h
    subst h
    obtain ⟨j,k⟩:=r0X hl
    refine ⟨⟨sl,?_,j⟩,k⟩
    obtain ⟨a⟩:=a
    simp only at c
    subst c;rfl
  ·cases h
 ·cases h
def rdR (G:Nat->Blk):Value->Option d0d
 | .agg a=>match a.toList with
  | [.bool s,sl,.bool s',sl']=>match rdL G sl,rdL G sl' with | some l,some l'=>some ((s,l),(s',l')) | _,_=>none
  | _=>none
 | _=>none
theorem r0Y {H:a0c} {v:Value} {i:d0d} (h:rdR H.bk v=some i):j0o H v i/\n0F i<=60000000:=by
 unfold rdR at h
 split at h
 ·rename_i a
  split at h
  ·rename_i s sl z j k
   split at h
   ·rename_i l y u c
    simp only [M1Q] at h
    subst h
    obtain ⟨q,w⟩:=r0X u
    obtain ⟨r,x⟩:=r0X c
    refine ⟨⟨sl,j,?_,q,r⟩,by unfold n0F;simp only;omega⟩
    obtain ⟨a⟩:=a
    simp only at k
    subst k;rfl
   ·cases h
  ·cases h
 ·cases h
def rdE (G:Nat->Blk):Value->Option o0N
 | .agg a=>match a.toList with
  | [.int .i64 e,.bool s,sl,.bool s',sl']=>match rdL G sl,rdL G sl' with | some l,some l'=>some (e,((s,l),(s',l'))) | _,_=>none
  | _=>none
 | _=>none
theorem B1W {H:a0c} {v:Value} {i:o0N} (h:rdE H.bk v=some i):q0v H v i/\n0F i.2<=60000000:=by
 unfold rdE at h
 split at h
 ·rename_i a
  split at h
  ·rename_i e s sl z j k
   split at h
   ·rename_i l y u c
    simp only [M1Q] at h
    subst h
    obtain ⟨q,w⟩:=r0X u
    obtain ⟨r,x⟩:=r0X c
    refine ⟨⟨sl,j,?_,q,r⟩,by unfold n0F;simp only;omega⟩
    obtain ⟨a⟩:=a
    simp only at k
    subst k;rfl
   ·cases h
  ·cases h
 ·cases h
def u1i:Nat->Nat->List Nat
 | 0,_=>[]
 | k + 1,n=>cond (Nat.beq n 0) [] (Nat.mod n 4294967296 :: u1i k (Nat.div n 4294967296))
theorem y0t:∀ {k n:Nat},n < 4294967296 ^ k->u1i k n=a0l n
 | 0,n,h=>by
  have:n=0:=by simpa using h
  subst this;simp [u1i,a0G]
 | k + 1,n,h=>by
  by_cases c:n=0
  ·subst c;simp [u1i,a0G]
  ·have e:Nat.beq n 0=false:=by
    cases hb:Nat.beq n 0 with
    | false=>rfl
    | true=>exact N1i (Nat.eq_of_beq_eq_true hb) c
   rw [c0X c,u1i,e,cond_false]
   have:n / 4294967296 < 4294967296 ^ k:=by
    rw [O1b (by omega)]
    rwa [N1m] at h
   rw [show Nat.div n 4294967296=n / 4294967296 from rfl,y0t this];rfl
def F1W (n:Nat):List Nat:=u1i (Nat.add (Nat.div (Nat.log2 n) 32) 1) n
theorem y0s (n:Nat):F1W n=a0l n:=by
 unfold F1W
 refine y0t ?_
 have c:n < 2 ^ (Nat.log2 n + 1):=Nat.lt_log2_self
 have h:(4294967296:Nat) ^ (Nat.add (Nat.div (Nat.log2 n) 32) 1)=2 ^ (32 * (Nat.log2 n / 32 + 1)):=by
  rw [Nat.pow_mul];rfl
 rw [h]
 refine N1k c (O1E (by omega) ?_)
 have:=O1t (Nat.log2 n) 32
 have:=N1R (Nat.log2 n) (show 0 < 32 by omega)
 omega
def y0l:Int->Bool × List Nat
 | .ofNat n=>(false,F1W n)
 | .negSucc n=>(true,F1W (Nat.add n 1))
theorem h0L (z:Int):y0l z=a0J z:=by
 cases z with
 | ofNat n=>simp [y0l,a0J,y0s]
 | negSucc n=>simp [y0l,a0J,y0s]
def v0v (m:Nat) (i:Bool × List Nat):Value × List Blk :=
 match i.2 with
 | []=>(.agg #[.bool i.1,.slice none 0 0],[])
 | x :: l=>(.agg #[.bool i.1,.slice (some ⟨m,0,none⟩) (Nat.add l.length 1) unk],[.row false a0b (b0C (x :: l))])
def cpI (i:Bool × List Nat):Value × n0A :=
 match i.2 with
 | []=>(.agg #[.bool i.1,.slice none 0 0],[])
 | x :: l=>(.agg #[.bool i.1,.slice (some ⟨0,0,none⟩) (l.length + 1) unk],[(a0b,b0C (x :: l))])
theorem F0r (m:Nat) (l:List Nat):(b0C l).map (shC m)=b0C l:=by simp [b0C,shC]
theorem X0o (m:Nat) (i:Bool × List Nat):v0v m i=(shV m (cpI i).1,c0L false m (cpI i).2):=by
 obtain ⟨s,l⟩:=i
 cases l with
 | nil=>simp [v0v,cpI,shV,shA,shC,c0L]
 | cons x l =>
  simp only [v0v,cpI,shV,shA,c0L,O1o,List.map_nil,F0r,shC]
  rfl
def x0N (X:Cx) (fl:Nat) (f:FuncId) (args:List Value) (H:a0c) (v:Value) (bs:List Blk):Prop :=
 ∀ (φ:Inj) (w:World) (args':Array Value),Rel X φ H w->CR X φ (shq w) args args'.toList ->
  s0q X.P f=true/\Calls X.P f args' w fun e w'=>∃ v' φ',e=.returned v'/\VR X φ' (shq w') v v'/\b0R X fl φ H w φ' (pushes H bs) w'
variable {X:Cx} {fl:Nat} {f:FuncId} {args:List Value} {H:a0c}
theorem f0U {E:Env} (hs:∀ n,b0x X (a0M E n)) {Q:n0z} (h:b0k E fl f args H Q (fun _=>False)) (k:fl<=H.size) {vt:Value} {rows:n0A}
  (F:∀ r G,Q r G->(∀ b,b < H.size->G.bk b=H.bk b)/\∃ corr,q0L H.size G.bk corr rows vt r=true):x0N X fl f args H (shV H.size vt) (c0L false H.size rows):=by
 intro φ w c hR z
 obtain ⟨n,j⟩:=h
 cases hp:a0M E n fl f args H with
 | bad=>rw [hp] at j;exact j.elim
 | pan v=>rw [hp] at j;exact j.elim
 | ok p =>
  rw [hp] at j
  obtain ⟨r,G⟩:=p
  obtain ⟨I,hc⟩:=(hs n fl f args H φ w c hR z k).1 r G hp
  refine ⟨I,Calls.mono hc ?_⟩
  rintro e w' ⟨v',φ',rfl,J,s⟩
  obtain ⟨L,corr,q⟩:=F r G j
  obtain ⟨u,x,y⟩:=H1P hR s L k J q
  exact ⟨v',u,rfl,y,x⟩
theorem k0I {E:Env} (hs:∀ n,b0x X (a0M E n)) {b:Bool} (h:b0k E fl f args H (fun r H'=>r=.bool b/\Ext H H') (fun _=>False)) (c:fl<=H.size):x0N X fl f args H (.bool b) []:=by
 have:=f0U hs h c (vt:=.bool b) (rows:=[]) (by
  rintro r G ⟨rfl,j⟩
  exact ⟨j.2,[],by simp [q0L,d0q,sameV,h0D,e0T]⟩)
 exact this
theorem S0G {E:Env} (hs:∀ n,b0x X (a0M E n)) {z:Int} (h:b0k E fl f args H (fun r H'=>r=.int .i64 z/\Ext H H') (fun _=>False)) (c:fl<=H.size):x0N X fl f args H (.int .i64 z) []:=by
 have:=f0U hs h c (vt:=.int .i64 z) (rows:=[]) (by
  rintro r G ⟨rfl,j⟩
  exact ⟨j.2,[],by simp [q0L,d0q,sameV,h0D,e0T]⟩)
 exact this
theorem e0X (corr:f0D):∀ l:List Nat,e0o corr (b0C l) (b0C l)=true
 | []=>rfl
 | x :: l=>by
  show (e0T corr (.int .u32 (x:Nat)) (.int .u32 (x:Nat)) && e0o corr (b0C l) (b0C l))=true
  rw [e0X corr l];simp [e0T]
theorem o0p {E:Env} (hs:∀ n,b0x X (a0M E n)) {i:Bool × List Nat} (h:b0k E fl f args H (fun r H'=>n0t H.size H' r i/\Ext H H') (fun _=>False)) (c:fl<=H.size):x0N X fl f args H (v0v H.size i).1 (v0v H.size i).2:=by
 rw [X0o]
 refine f0U hs h c ?_
 rintro r G ⟨⟨s,rfl,w⟩,y⟩
 refine ⟨y.2,?_⟩
 obtain ⟨⟨⟨F,j | ⟨b,cap,rfl,q,u⟩⟩,_⟩,z⟩:=w
 ·obtain ⟨rfl,k⟩:=j
  have:i.2=[]:=List.eq_nil_of_length_eq_zero k
  exact ⟨[],by simp [q0L,cpI,this,d0q,sameV,h0D,e0T,e0o]⟩
 ·obtain ⟨I,l⟩:=i
  cases l with
  | nil=>cases z rfl
  | cons x l =>
   refine ⟨[(b,0)],?_⟩
   have e:=e0X [(b,0)] (x :: l)
   have t:List.take (l.length + 1) (b0C (x :: l))=b0C (x :: l):=by
    rw [N1c];simp
   simp [q0L,cpI,d0q,sameV,h0D,e0T,e0o,l0u,q,u,c0d,a0t,g0X,e,t]
end
section
def H1M (c:Nat):Value->Option Nat
 | .slice (some a) n _=>cond (Nat.beq n 0) (some c) (cond (Nat.beq a.block c) (some (Nat.add c 1)) (cond (Nat.blt a.block c) (some c) none))
 | _=>some c
def u1h:List Value->Nat->Option Nat
 | [],c=>some c
 | v :: r,c=>match H1M c v with | some c'=>u1h r c' | none=>none
def led:n0A->Nat->Nat->Bool
 | [],_,_=>true
 | p :: r,k,c=>cond (Nat.blt k c) (match u1h p.2 c with | some c'=>led r (Nat.add k 1) c' | none=>false) false
theorem w0J {c c':Nat} {v:Value} (h:H1M c v=some c'):∀ j,c<=j->j < c'->g0X j v=true:=by
 intro j q r
 unfold H1M at h
 split at h
 ·rename_i a n cap
  cases e1:Nat.beq n 0 with
  | true=>rw [e1] at h;simp at h;omega
  | false =>
   rw [e1] at h
   cases e2:Nat.beq a.block c with
   | true =>
    rw [e2] at h
    simp at h
    have:a.block=c:=Nat.eq_of_beq_eq_true e2
    have k:n ≠ 0:=fun h=>by subst h;cases e1
    have:j=c:=by omega
    subst this
    simp [g0X,k, *]
   | false =>
    rw [e2] at h
    cases e3:Nat.blt a.block c with
    | true=>rw [e3] at h;simp at h;omega
    | false=>rw [e3] at h;cases h
 ·simp at h;omega
theorem k0y:∀ {l:List Value} {c c':Nat},u1h l c=some c'->∀ j,c<=j->j < c'->l.any (g0X j)=true
 | [],c,c',h,j,h1,h2=>by simp [u1h] at h;omega
 | v :: r,c,c',h,j,h1,h2=>by
  unfold u1h at h
  split at h
  ·rename_i k hc
   rw [List.any_cons,N1L]
   by_cases q:j < k
   ·exact .inl (w0J hc j h1 q)
   ·exact .inr (k0y h j (by omega) h2)
  ·cases h
def w0K (own:Bool) (G:Nat->Blk) (corr:f0D):Nat->n0A->Bool
 | _,[]=>true
 | k,p :: r=>cond (l0u own G corr k p) (w0K own G corr (Nat.add k 1) r) false
theorem q0O {own:Bool} {G:Nat->Blk} {corr:f0D} {s:List Value}:∀ {bs:n0A} {k c:Nat} {q:List Value},(∀ j,j < c->s.any (g0X j)=true ∨ q.any (g0X j)=true) ->
  led bs k c=true->w0K own G corr k bs=true->d0q own G corr s k q bs=true
 | [],k,c,q,_,_,_=>rfl
 | p :: r,k,c,q,hi,h1,h2=>by
  unfold led at h1
  unfold w0K at h2
  cases e1:Nat.blt k c with
  | false=>rw [e1] at h1;cases h1
  | true =>
   rw [e1] at h1
   cases e2:l0u own G corr k p with
   | false=>rw [e2] at h2;cases h2
   | true =>
    rw [e2] at h2
    simp only [cond_true] at h1 h2
    split at h1
    ·rename_i c' hc
     simp only [d0q,e2,Bool.and_true,M1W,N1L]
     refine ⟨hi k (by simpa using e1),q0O (c:=c') (fun j w=>?_) h1 h2⟩
     rw [List.any_append,N1L]
     by_cases u:j < c
     ·rcases hi j u with h | h
      ·exact .inl h
      ·exact .inr (.inl h)
     ·exact .inr (.inr (k0y hc j (by omega) w))
    ·cases h1
def n0y (root:List Value) (rows:n0A):Bool:=match u1h root 0 with | some c=>led rows 0 c | none=>false
theorem r0n {own:Bool} {G:Nat->Blk} {corr:f0D} {k:List Value} {rows:n0A} (h:n0y k rows=true) (q:w0K own G corr 0 rows=true):d0q own G corr k 0 [] rows=true:=by
 unfold n0y at h
 split at h
 ·rename_i c hc
  exact q0O (c:=c) (fun j r=>.inl (k0y hc j (N1K _) r)) h q
 ·cases h
def r0m:List Value->f0D
 | []=>[]
 | v :: r=>match v with
  | .slice (some a) n _=>cond (Nat.beq n 0) (r0m r) ((a.block,a.off) :: r0m r)
  | _=>r0m r
def F1t (G:Nat->Blk):n0A->f0D->f0D
 | [],_=>[]
 | _ :: _,[]=>[]
 | p :: r,(b,off) :: q=>(b,off) :: F1t G r (q ++ r0m (match G b with | .row _ _ cs=>(cs.drop off).take p.2.length | .dead=>[]))
def v1O (G:Nat->Blk) (M:f0i) (args:List Value):f0D:=F1t G M.rows (r0m (args.flatMap c0d))
def F1U (G:Nat->Blk) (corr:f0D) (M:f0i) (args:List Value):Bool :=
 cond (Nat.beq corr.length M.rows.length) (cond (l0n corr M.args args) (w0K false G corr 0 M.rows) false) false
theorem V0x {G:Nat->Blk} {corr:f0D} {M:f0i} {args:List Value} (c:n0y (M.args.flatMap c0d) M.rows=true) (h:F1U G corr M args=true):F1T G corr M args=true:=by
 unfold F1U at h
 unfold F1T
 cases e1:Nat.beq corr.length M.rows.length with
 | false=>rw [e1] at h;cases h
 | true =>
  rw [e1] at h
  cases e2:l0n corr M.args args with
  | false=>rw [e2] at h;cases h
  | true =>
   rw [e2] at h
   simp only [cond_true] at h
   rw [r0n c h];rfl
def x0l:List f0i->FuncId->List Value->(Nat->Blk)->Nat->Option (Value × List Blk)
 | [],_,_,_,_=>none
 | M :: r,f,args,G,n=>cond (Nat.beq f M.f) (cond (F1U G (v1O G M args) M args) (some (shV n M.v,c0L false n M.bs)) (x0l r f args G n)) (x0l r f args G n)
def k0V (X:Cx) (M:f0i):Prop:=∃ call:Nat->FuncId->List Value->a0c->Res (Value × a0c),(∀ n,b0x ⟨X.P,n⟩ call)/\n0y (M.args.flatMap c0d) M.rows=true /\
 ∃ r G1 corr1,call 0 M.f M.given M.heap=.ok (r,G1)/\q0L M.rows.length G1.bk corr1 M.bs M.v r=true
theorem v0s {X:Cx} {fl:Nat} {f:FuncId} {args:List Value} {H:a0c} {v:Value} {bs:List Blk} (j:fl<=H.size):∀ {l:List f0i},(∀ M ∈ l,k0V X M)->x0l l f args H.bk H.size=some (v,bs)->x0N X fl f args H v bs
 | [],_,h=>by cases h
 | M :: r,hl,h=>by
  have y:=v0s (l:=r) (f:=f) (args:=args) (v:=v) (bs:=bs) j (fun M F=>hl M (O1f _ F))
  unfold x0l at h
  cases e1:Nat.beq f M.f with
  | false=>rw [e1] at h;exact y h
  | true =>
   rw [e1] at h
   cases e2:F1U H.bk (v1O H.bk M args) M args with
   | false=>rw [e2] at h;exact y h
   | true =>
    rw [e2] at h
    simp only [cond_true,M1Q,N1V] at h
    obtain ⟨rfl,rfl⟩:=h
    obtain ⟨call,s,k,r1,G1,x,q,c⟩:=hl M O1B
    intro φ w u hR z
    rw [Nat.eq_of_beq_eq_true e1]
    exact X0k s q c (V0x k e2) hR z j
def u0Z:List Nat->Bool
 | []=>true
 | b :: r=>cond (r.any (Nat.beq b)) false (u0Z r)
theorem k0Y:∀ {l:List Nat},u0Z l=true->l.Nodup
 | [],_=>List.nodup_nil
 | b :: r,h=>by
  unfold u0Z at h
  cases e:r.any (Nat.beq b) with
  | true=>rw [e] at h;cases h
  | false =>
   rw [e] at h
   refine List.nodup_cons.2 ⟨fun hb=>?_,k0Y h⟩
   have:r.any (Nat.beq b)=true:=List.any_eq_true.2 ⟨b,hb,Nat.beq_refl b⟩
   rw [this] at e;cases e
def v1n (n0:Nat) (G:Nat->Blk) (corr:f0D) (bs:n0A) (vt r:Value):Bool :=
 cond (Nat.beq corr.length bs.length) (cond (corr.all (fun p=>Nat.ble n0 p.1)) (cond (u0Z (corr.map (·.1))) (cond (n0y (c0d vt) bs) (cond (w0K true G corr 0 bs) (sameV corr vt r) false) false) false) false) false
theorem q0M {a b:Bool} (h:cond a b false=true):a=true/\b=true:=by cases a <;> simp_all
theorem V0y {n0:Nat} {G:Nat->Blk} {corr:f0D} {bs:n0A} {vt r:Value} (h:v1n n0 G corr bs vt r=true):q0L n0 G corr bs vt r=true:=by
 unfold v1n at h
 obtain ⟨c,h⟩:=q0M h
 obtain ⟨j,h⟩:=q0M h
 obtain ⟨k,h⟩:=q0M h
 obtain ⟨q,h⟩:=q0M h
 obtain ⟨s,u⟩:=q0M h
 unfold q0L
 rw [c,j,r0n q s,u]
 simp [k0Y k]
def u1s:List Value->List Value->Nat->f0D
 | t :: ts,s :: ss,c=>match t,s with
  | .slice (some a) n _,.slice (some b) _ _=>cond (Nat.beq n 0) (u1s ts ss c) (cond (Nat.beq a.block c) ((b.block,b.off) :: u1s ts ss (Nat.add c 1)) (u1s ts ss c))
  | _,_=>u1s ts ss c
 | _,_,_=>[]
def F1u (G:Nat->Blk):n0A->f0D->Nat->f0D
 | [],_,_=>[]
 | _ :: _,[],_=>[]
 | p :: r,(b,off) :: q,c =>
  (fun l:f0D=>(b,off) :: F1u G r (q ++ l) (Nat.add c l.length)) (u1s p.2 (match G b with | .row _ _ cs=>(cs.drop off).take p.2.length | .dead=>[]) c)
def G0g (G:Nat->Blk) (M:f0i) (v:Value):f0D:=(fun l:f0D=>F1u G M.bs l l.length) (u1s (c0d M.v) (c0d v) 0)
noncomputable def okR (k:Value->Tr Blk->Bool) (r:ResF):Bool:=@ResF.rec (fun _=>Bool) false (fun _=>false) (fun v T _=>k v T) r
noncomputable def q0x (E:Env) (m:Nat) (M:f0i):Bool :=
 @ResF.rec (fun _=>Bool) false (fun _=>false) (fun _ T n=>okR (fun v T'=>v1n M.rows.length (m0s T') (G0g (m0s T') M v) M.bs M.v v) (k0x E.code E.quick E.prim m 0 M.f M.given T n)) (t0x (c0L true 0 M.rows) undef .emp 0)
theorem o0q:∀ (bs:List Blk) (H:a0c),pushes H bs=H ++ bs.toArray
 | [],H=>by simp [pushes]
 | b :: bs,H=>by
  show pushes (H.push b) bs=_
  rw [o0q bs]
  apply O1x
  simp
theorem t0f {X:Cx} {E:Env} {m:Nat} {M:f0i} (k:∀ n,b0x ⟨X.P,n⟩ (a0M E m)) (j:n0y (M.args.flatMap c0d) M.rows=true) (h:q0x E m M=true):k0V X M:=by
 refine ⟨a0M E m,k,j,?_⟩
 unfold q0x at h
 have s:l0t .emp 0 #[]:=⟨rfl,N1K _,Tr.wf_emp _,fun _=>by show Blk.dead=_;simp [a0c.bk]⟩
 cases hp:t0x (c0L true 0 M.rows) undef .emp 0 with
 | bad=>rw [hp] at h;cases h
 | pan v=>rw [hp] at h;cases h
 | ok v T n =>
  rw [hp] at h
  change okR (fun v c=>v1n M.rows.length (m0s c) (G0g (m0s c) M v) M.bs M.v v) (k0x E.code E.quick E.prim m 0 M.f M.given T n)=true at h
  obtain ⟨_,hT⟩:=p0F _ _ s hp
  have w:pushes #[] (c0L true 0 M.rows)=M.heap:=by rw [o0q];apply O1x;simp [f0i.heap]
  rw [w] at hT
  obtain ⟨u,_⟩:=o0S E m 0 M.f M.given T n M.heap hT
  cases hx:k0x E.code E.quick E.prim m 0 M.f M.given T n with
  | bad=>rw [hx] at h;cases h
  | pan v=>rw [hx] at h;cases h
  | ok r c n' =>
   rw [hx] at h
   change v1n M.rows.length (m0s c) (G0g (m0s c) M r) M.bs M.v r=true at h
   obtain ⟨G1,e,q⟩:=u r c n' hx
   rw [q.bk] at h
   exact ⟨r,G1,G0g G1.bk M r,e,V0y h⟩
def vT:Value:=.bool true
def vF:Value:=.bool false
def z6 (n:Int):Value:=.int .i64 n
def u3 (n:Nat):Value:=.int .u32 (.ofNat n)
def u8 (n:Nat):Value:=.int .u8 (.ofNat n)
def nl:Value:=.slice none 0 0
def em:Value:=.slice (some ⟨0,0,none⟩) 0 0
def sl (k n:Nat):Value:=.slice (some ⟨k,0,none⟩) n unk
def mm0:f0i:=⟨7,[],
 [(.string ⟨#[112,114,111,99,32,109,32,40,32,41,32,45,62,32,120,32,123,32,120,32,61,32,48,32,59,32,119,104,105,108,101,32,120,32,60,32,49,48,32,123,32,120,32,61,32,120,32,43,32,49,32,59,32,125,32,125]⟩)],
 [(79,[em,z6 0,em,z6 1,em,z6 2,em,z6 3]),
 (9,[(.string ⟨#[120]⟩)]),
 (98,[z6 0,z6 1,z6 0,nl,sl 3 1,nl,z6 1,z6 2,z6 0,sl 4 1,sl 5 1,em,z6 1,z6 3,z6 0,sl 6 1,sl 7 1,em,z6 2,z6 1,z6 0,nl,sl 8 1,em]),
 (166,[sl 9 1,em,vF,nl]),
 (166,[sl 10 1,nl,vT,sl 11 1]),
 (166,[sl 12 1,em,vF,nl]),
 (166,[sl 13 1,nl,vF,sl 14 1]),
 (166,[sl 15 1,em,vF,nl]),
 (166,[sl 16 1,nl,vF,sl 17 1]),
 (61,[vF,nl]),
 (61,[vF,sl 18 1]),
 (160,[u3 9]),
 (61,[vF,sl 19 1]),
 (61,[vT,sl 20 1]),
 (160,[u3 10]),
 (61,[vF,sl 21 1]),
 (61,[vF,sl 22 1]),
 (160,[u3 1]),
 (160,[u3 1]),
 (160,[u3 1]),
 (160,[u3 1]),
 (160,[u3 1]),
 (160,[u3 1])],
 .tuple #[.agg #[sl 0 4,sl 1 1,sl 2 4,nl],vT]⟩
def mm1:f0i:=⟨101,[(79,[em,z6 0,em,z6 1,em,z6 2,em,z6 3]),
 (9,[(.string ⟨#[120]⟩)]),
 (98,[z6 0,z6 1,z6 0,nl,sl 5 1,nl,z6 1,z6 2,z6 0,sl 6 1,sl 7 1,em,z6 1,z6 3,z6 0,sl 8 1,sl 9 1,em,z6 2,z6 1,z6 0,nl,sl 10 1,em]),
 (46,[sl 11 1,sl 12 1]),
 (42,[sl 13 2,sl 14 2,sl 15 2,sl 16 2]),
 (166,[sl 17 1,em,vF,nl]),
 (166,[sl 18 1,nl,vT,sl 19 1]),
 (166,[sl 20 1,em,vF,nl]),
 (166,[sl 21 1,nl,vF,sl 22 1]),
 (166,[sl 23 1,em,vF,nl]),
 (166,[sl 24 1,nl,vF,sl 25 1]),
 (63,[vF,sl 26 1,vF,sl 27 1]),
 (63,[vT,sl 28 1,vF,sl 29 1]),
 (67,[z6 (-1),vF,nl,vF,nl,z6 (-1),vF,nl,vF,nl]),
 (67,[z6 (-1),vF,nl,vF,nl,z6 (-1),vF,nl,vF,nl]),
 (67,[z6 (-1),vF,nl,vF,nl,z6 (-1),vF,nl,vF,nl]),
 (67,[z6 (-1),vF,nl,vF,nl,z6 (-1),vF,nl,vF,nl]),
 (61,[vF,nl]),
 (61,[vF,sl 30 1]),
 (160,[u3 9]),
 (61,[vF,sl 31 1]),
 (61,[vT,sl 32 1]),
 (160,[u3 10]),
 (61,[vF,sl 33 1]),
 (61,[vF,sl 34 1]),
 (160,[u3 1]),
 (160,[u3 1]),
 (160,[u3 1]),
 (160,[u3 1]),
 (160,[u3 1]),
 (160,[u3 1]),
 (160,[u3 1]),
 (160,[u3 1]),
 (160,[u3 1]),
 (160,[u3 1])],
 [.agg #[sl 0 4,sl 1 1,sl 2 4,nl],.agg #[sl 3 2],sl 4 4,z6 0],
 [(67,[z6 1,vF,nl,vF,nl,z6 1,vF,nl,vF,nl])],
 .tuple #[sl 0 2,z6 0]⟩
def mm2:f0i:=⟨101,[(79,[em,z6 0,em,z6 1,em,z6 2,em,z6 3]),
 (9,[(.string ⟨#[120]⟩)]),
 (98,[z6 0,z6 1,z6 0,nl,sl 5 1,nl,z6 1,z6 2,z6 0,sl 6 1,sl 7 1,em,z6 1,z6 3,z6 0,sl 8 1,sl 9 1,em,z6 2,z6 1,z6 0,nl,sl 10 1,em]),
 (46,[sl 11 1,sl 12 1]),
 (42,[sl 13 2,sl 14 2,sl 15 2,sl 16 2]),
 (166,[sl 17 1,em,vF,nl]),
 (166,[sl 18 1,nl,vT,sl 19 1]),
 (166,[sl 20 1,em,vF,nl]),
 (166,[sl 21 1,nl,vF,sl 22 1]),
 (166,[sl 23 1,em,vF,nl]),
 (166,[sl 24 1,nl,vF,sl 25 1]),
 (63,[vF,sl 26 1,vF,sl 27 1]),
 (63,[vT,sl 28 1,vF,sl 29 1]),
 (67,[z6 1,vF,nl,vF,nl,z6 1,vF,nl,vF,nl]),
 (67,[z6 (-1),vF,nl,vF,nl,z6 (-1),vF,nl,vF,nl]),
 (67,[z6 (-1),vF,nl,vF,nl,z6 (-1),vF,nl,vF,nl]),
 (67,[z6 (-1),vF,nl,vF,nl,z6 (-1),vF,nl,vF,nl]),
 (61,[vF,nl]),
 (61,[vF,sl 30 1]),
 (160,[u3 9]),
 (61,[vF,sl 31 1]),
 (61,[vT,sl 32 1]),
 (160,[u3 10]),
 (61,[vF,sl 33 1]),
 (61,[vF,sl 34 1]),
 (160,[u3 1]),
 (160,[u3 1]),
 (160,[u3 1]),
 (160,[u3 1]),
 (160,[u3 1]),
 (160,[u3 1]),
 (160,[u3 1]),
 (160,[u3 1]),
 (160,[u3 1]),
 (160,[u3 1])],
 [.agg #[sl 0 4,sl 1 1,sl 2 4,nl],.agg #[sl 3 2],sl 4 4,z6 1],
 [(67,[z6 0,vF,nl,vF,sl 1 1,z6 0,vF,nl,vF,sl 2 1]),
 (160,[u3 1]),
 (160,[u3 1])],
 .tuple #[sl 0 2,z6 0]⟩
def mm3:f0i:=⟨101,[(79,[em,z6 0,em,z6 1,em,z6 2,em,z6 3]),
 (9,[(.string ⟨#[120]⟩)]),
 (98,[z6 0,z6 1,z6 0,nl,sl 5 1,nl,z6 1,z6 2,z6 0,sl 6 1,sl 7 1,em,z6 1,z6 3,z6 0,sl 8 1,sl 9 1,em,z6 2,z6 1,z6 0,nl,sl 10 1,em]),
 (46,[sl 11 1,sl 12 1]),
 (42,[sl 13 2,sl 14 2,sl 15 2,sl 16 2]),
 (166,[sl 17 1,em,vF,nl]),
 (166,[sl 18 1,nl,vT,sl 19 1]),
 (166,[sl 20 1,em,vF,nl]),
 (166,[sl 21 1,nl,vF,sl 22 1]),
 (166,[sl 23 1,em,vF,nl]),
 (166,[sl 24 1,nl,vF,sl 25 1]),
 (63,[vF,sl 26 1,vF,sl 27 1]),
 (63,[vT,sl 28 1,vF,sl 29 1]),
 (67,[z6 1,vF,nl,vF,nl,z6 1,vF,nl,vF,nl]),
 (67,[z6 0,vF,nl,vF,sl 30 1,z6 0,vF,nl,vF,sl 31 1]),
 (67,[z6 (-1),vF,nl,vF,nl,z6 (-1),vF,nl,vF,nl]),
 (67,[z6 (-1),vF,nl,vF,nl,z6 (-1),vF,nl,vF,nl]),
 (61,[vF,nl]),
 (61,[vF,sl 32 1]),
 (160,[u3 9]),
 (61,[vF,sl 33 1]),
 (61,[vT,sl 34 1]),
 (160,[u3 10]),
 (61,[vF,sl 35 1]),
 (61,[vF,sl 36 1]),
 (160,[u3 1]),
 (160,[u3 1]),
 (160,[u3 1]),
 (160,[u3 1]),
 (160,[u3 1]),
 (160,[u3 1]),
 (160,[u3 1]),
 (160,[u3 1]),
 (160,[u3 1]),
 (160,[u3 1]),
 (160,[u3 1]),
 (160,[u3 1])],
 [.agg #[sl 0 4,sl 1 1,sl 2 4,nl],.agg #[sl 3 2],sl 4 4,z6 3],
 [(67,[z6 (-1),vF,nl,vF,nl,z6 (-1),vF,nl,vF,nl])],
 .tuple #[sl 0 2,z6 0]⟩
def mm4:f0i:=⟨101,[(79,[em,z6 0,em,z6 1,em,z6 2,em,z6 3]),
 (9,[(.string ⟨#[120]⟩)]),
 (98,[z6 0,z6 1,z6 0,nl,sl 5 1,nl,z6 1,z6 2,z6 0,sl 6 1,sl 7 1,em,z6 1,z6 3,z6 0,sl 8 1,sl 9 1,em,z6 2,z6 1,z6 0,nl,sl 10 1,em]),
 (46,[sl 11 1,sl 12 1]),
 (42,[sl 13 2,sl 14 2,sl 15 2,sl 16 2]),
 (166,[sl 17 1,em,vF,nl]),
 (166,[sl 18 1,nl,vT,sl 19 1]),
 (166,[sl 20 1,em,vF,nl]),
 (166,[sl 21 1,nl,vF,sl 22 1]),
 (166,[sl 23 1,em,vF,nl]),
 (166,[sl 24 1,nl,vF,sl 25 1]),
 (63,[vF,sl 26 1,vF,sl 27 1]),
 (63,[vT,sl 28 1,vF,sl 29 1]),
 (67,[z6 1,vF,nl,vF,nl,z6 1,vF,nl,vF,nl]),
 (67,[z6 0,vF,nl,vF,sl 30 1,z6 0,vF,nl,vF,sl 31 1]),
 (67,[z6 (-1),vF,nl,vF,nl,z6 (-1),vF,nl,vF,nl]),
 (67,[z6 (-1),vF,nl,vF,nl,z6 (-1),vF,nl,vF,nl]),
 (61,[vF,nl]),
 (61,[vF,sl 32 1]),
 (160,[u3 9]),
 (61,[vF,sl 33 1]),
 (61,[vT,sl 34 1]),
 (160,[u3 10]),
 (61,[vF,sl 35 1]),
 (61,[vF,sl 36 1]),
 (160,[u3 1]),
 (160,[u3 1]),
 (160,[u3 1]),
 (160,[u3 1]),
 (160,[u3 1]),
 (160,[u3 1]),
 (160,[u3 1]),
 (160,[u3 1]),
 (160,[u3 1]),
 (160,[u3 1]),
 (160,[u3 1]),
 (160,[u3 1])],
 [.agg #[sl 0 4,sl 1 1,sl 2 4,nl],.agg #[sl 3 2],sl 4 4,z6 2],
 [(67,[z6 0,vF,nl,vF,sl 1 1,z6 0,vF,nl,vF,sl 2 1]),
 (160,[u3 1]),
 (160,[u3 1])],
 .tuple #[sl 0 2,z6 0]⟩
def mm5:f0i:=⟨101,[(79,[em,z6 0,em,z6 1,em,z6 2,em,z6 3]),
 (9,[(.string ⟨#[120]⟩)]),
 (98,[z6 0,z6 1,z6 0,nl,sl 5 1,nl,z6 1,z6 2,z6 0,sl 6 1,sl 7 1,em,z6 1,z6 3,z6 0,sl 8 1,sl 9 1,em,z6 2,z6 1,z6 0,nl,sl 10 1,em]),
 (46,[sl 11 1,sl 12 1]),
 (42,[sl 13 2,sl 14 2,sl 15 2,sl 16 2]),
 (166,[sl 17 1,em,vF,nl]),
 (166,[sl 18 1,nl,vT,sl 19 1]),
 (166,[sl 20 1,em,vF,nl]),
 (166,[sl 21 1,nl,vF,sl 22 1]),
 (166,[sl 23 1,em,vF,nl]),
 (166,[sl 24 1,nl,vF,sl 25 1]),
 (63,[vF,sl 26 1,vF,sl 27 1]),
 (63,[vT,sl 28 1,vF,sl 29 1]),
 (67,[z6 1,vF,nl,vF,nl,z6 1,vF,nl,vF,nl]),
 (67,[z6 0,vF,nl,vF,sl 30 1,z6 0,vF,nl,vF,sl 31 1]),
 (67,[z6 0,vF,nl,vF,sl 32 1,z6 0,vF,nl,vF,sl 33 1]),
 (67,[z6 (-1),vF,nl,vF,nl,z6 (-1),vF,nl,vF,nl]),
 (61,[vF,nl]),
 (61,[vF,sl 34 1]),
 (160,[u3 9]),
 (61,[vF,sl 35 1]),
 (61,[vT,sl 36 1]),
 (160,[u3 10]),
 (61,[vF,sl 37 1]),
 (61,[vF,sl 38 1]),
 (160,[u3 1]),
 (160,[u3 1]),
 (160,[u3 1]),
 (160,[u3 1]),
 (160,[u3 1]),
 (160,[u3 1]),
 (160,[u3 1]),
 (160,[u3 1]),
 (160,[u3 1]),
 (160,[u3 1]),
 (160,[u3 1]),
 (160,[u3 1]),
 (160,[u3 1]),
 (160,[u3 1])],
 [.agg #[sl 0 4,sl 1 1,sl 2 4,nl],.agg #[sl 3 2],sl 4 4,z6 0],
 [(67,[z6 1,vF,nl,vF,nl,z6 1,vF,nl,vF,nl])],
 .tuple #[sl 0 2,z6 0]⟩
def mm6:f0i:=⟨101,[(79,[em,z6 0,em,z6 1,em,z6 2,em,z6 3]),
 (9,[(.string ⟨#[120]⟩)]),
 (98,[z6 0,z6 1,z6 0,nl,sl 5 1,nl,z6 1,z6 2,z6 0,sl 6 1,sl 7 1,em,z6 1,z6 3,z6 0,sl 8 1,sl 9 1,em,z6 2,z6 1,z6 0,nl,sl 10 1,em]),
 (46,[sl 11 1,sl 12 1]),
 (42,[sl 13 2,sl 14 2,sl 15 2,sl 16 2]),
 (166,[sl 17 1,em,vF,nl]),
 (166,[sl 18 1,nl,vT,sl 19 1]),
 (166,[sl 20 1,em,vF,nl]),
 (166,[sl 21 1,nl,vF,sl 22 1]),
 (166,[sl 23 1,em,vF,nl]),
 (166,[sl 24 1,nl,vF,sl 25 1]),
 (63,[vF,sl 26 1,vF,sl 27 1]),
 (63,[vT,sl 28 1,vF,sl 29 1]),
 (67,[z6 1,vF,nl,vF,nl,z6 1,vF,nl,vF,nl]),
 (67,[z6 0,vF,nl,vF,sl 30 1,z6 0,vF,nl,vF,sl 31 1]),
 (67,[z6 0,vF,nl,vF,sl 32 1,z6 0,vF,nl,vF,sl 33 1]),
 (67,[z6 (-1),vF,nl,vF,nl,z6 (-1),vF,nl,vF,nl]),
 (61,[vF,nl]),
 (61,[vF,sl 34 1]),
 (160,[u3 9]),
 (61,[vF,sl 35 1]),
 (61,[vT,sl 36 1]),
 (160,[u3 10]),
 (61,[vF,sl 37 1]),
 (61,[vF,sl 38 1]),
 (160,[u3 1]),
 (160,[u3 1]),
 (160,[u3 1]),
 (160,[u3 1]),
 (160,[u3 1]),
 (160,[u3 1]),
 (160,[u3 1]),
 (160,[u3 1]),
 (160,[u3 1]),
 (160,[u3 1]),
 (160,[u3 1]),
 (160,[u3 1]),
 (160,[u3 1]),
 (160,[u3 1])],
 [.agg #[sl 0 4,sl 1 1,sl 2 4,nl],.agg #[sl 3 2],sl 4 4,z6 1],
 [(67,[z6 0,vF,sl 1 1,vF,sl 2 1,z6 0,vF,nl,vF,sl 3 1]),
 (160,[u3 1]),
 (160,[u3 1]),
 (160,[u3 1])],
 .tuple #[sl 0 2,z6 0]⟩
def mm7:f0i:=⟨101,[(79,[em,z6 0,em,z6 1,em,z6 2,em,z6 3]),
 (9,[(.string ⟨#[120]⟩)]),
 (98,[z6 0,z6 1,z6 0,nl,sl 5 1,nl,z6 1,z6 2,z6 0,sl 6 1,sl 7 1,em,z6 1,z6 3,z6 0,sl 8 1,sl 9 1,em,z6 2,z6 1,z6 0,nl,sl 10 1,em]),
 (46,[sl 11 1,sl 12 1]),
 (42,[sl 13 2,sl 14 2,sl 15 2,sl 16 2]),
 (166,[sl 17 1,em,vF,nl]),
 (166,[sl 18 1,nl,vT,sl 19 1]),
 (166,[sl 20 1,em,vF,nl]),
 (166,[sl 21 1,nl,vF,sl 22 1]),
 (166,[sl 23 1,em,vF,nl]),
 (166,[sl 24 1,nl,vF,sl 25 1]),
 (63,[vF,sl 26 1,vF,sl 27 1]),
 (63,[vT,sl 28 1,vF,sl 29 1]),
 (67,[z6 1,vF,nl,vF,nl,z6 1,vF,nl,vF,nl]),
 (67,[z6 1,vF,nl,vF,nl,z6 0,vF,nl,vF,sl 30 1]),
 (67,[z6 0,vF,nl,vF,sl 31 1,z6 0,vF,nl,vF,sl 32 1]),
 (67,[z6 (-1),vF,nl,vF,nl,z6 (-1),vF,nl,vF,nl]),
 (61,[vF,nl]),
 (61,[vF,sl 33 1]),
 (160,[u3 9]),
 (61,[vF,sl 34 1]),
 (61,[vT,sl 35 1]),
 (160,[u3 10]),
 (61,[vF,sl 36 1]),
 (61,[vF,sl 37 1]),
 (160,[u3 1]),
 (160,[u3 1]),
 (160,[u3 1]),
 (160,[u3 1]),
 (160,[u3 1]),
 (160,[u3 1]),
 (160,[u3 1]),
 (160,[u3 1]),
 (160,[u3 1]),
 (160,[u3 1]),
 (160,[u3 1]),
 (160,[u3 1]),
 (160,[u3 1])],
 [.agg #[sl 0 4,sl 1 1,sl 2 4,nl],.agg #[sl 3 2],sl 4 4,z6 3],
 [(67,[z6 1,vF,nl,vF,nl,z6 0,vT,sl 1 1,vF,sl 2 1]),
 (160,[u3 10]),
 (160,[u3 1])],
 .tuple #[sl 0 2,z6 0]⟩
def mm8:f0i:=⟨101,[(79,[em,z6 0,em,z6 1,em,z6 2,em,z6 3]),
 (9,[(.string ⟨#[120]⟩)]),
 (98,[z6 0,z6 1,z6 0,nl,sl 5 1,nl,z6 1,z6 2,z6 0,sl 6 1,sl 7 1,em,z6 1,z6 3,z6 0,sl 8 1,sl 9 1,em,z6 2,z6 1,z6 0,nl,sl 10 1,em]),
 (46,[sl 11 1,sl 12 1]),
 (42,[sl 13 2,sl 14 2,sl 15 2,sl 16 2]),
 (166,[sl 17 1,em,vF,nl]),
 (166,[sl 18 1,nl,vT,sl 19 1]),
 (166,[sl 20 1,em,vF,nl]),
 (166,[sl 21 1,nl,vF,sl 22 1]),
 (166,[sl 23 1,em,vF,nl]),
 (166,[sl 24 1,nl,vF,sl 25 1]),
 (63,[vF,sl 26 1,vF,sl 27 1]),
 (63,[vT,sl 28 1,vF,sl 29 1]),
 (67,[z6 1,vF,nl,vF,nl,z6 1,vF,nl,vF,nl]),
 (67,[z6 1,vF,nl,vF,nl,z6 0,vF,nl,vF,sl 30 1]),
 (67,[z6 0,vF,nl,vF,sl 31 1,z6 0,vF,nl,vF,sl 32 1]),
 (67,[z6 1,vF,nl,vF,nl,z6 0,vT,sl 33 1,vF,sl 34 1]),
 (61,[vF,nl]),
 (61,[vF,sl 35 1]),
 (160,[u3 9]),
 (61,[vF,sl 36 1]),
 (61,[vT,sl 37 1]),
 (160,[u3 10]),
 (61,[vF,sl 38 1]),
 (61,[vF,sl 39 1]),
 (160,[u3 1]),
 (160,[u3 1]),
 (160,[u3 1]),
 (160,[u3 1]),
 (160,[u3 1]),
 (160,[u3 1]),
 (160,[u3 1]),
 (160,[u3 1]),
 (160,[u3 10]),
 (160,[u3 1]),
 (160,[u3 1]),
 (160,[u3 1]),
 (160,[u3 1]),
 (160,[u3 1]),
 (160,[u3 1])],
 [.agg #[sl 0 4,sl 1 1,sl 2 4,nl],.agg #[sl 3 2],sl 4 4,z6 2],
 [(67,[z6 0,vF,sl 1 1,vF,sl 2 1,z6 0,vF,nl,vF,sl 3 1]),
 (160,[u3 9]),
 (160,[u3 1]),
 (160,[u3 1])],
 .tuple #[sl 0 2,z6 0]⟩
def mm9:f0i:=⟨101,[(79,[em,z6 0,em,z6 1,em,z6 2,em,z6 3]),
 (9,[(.string ⟨#[120]⟩)]),
 (98,[z6 0,z6 1,z6 0,nl,sl 5 1,nl,z6 1,z6 2,z6 0,sl 6 1,sl 7 1,em,z6 1,z6 3,z6 0,sl 8 1,sl 9 1,em,z6 2,z6 1,z6 0,nl,sl 10 1,em]),
 (46,[sl 11 1,sl 12 1]),
 (42,[sl 13 2,sl 14 2,sl 15 2,sl 16 2]),
 (166,[sl 17 1,em,vF,nl]),
 (166,[sl 18 1,nl,vT,sl 19 1]),
 (166,[sl 20 1,em,vF,nl]),
 (166,[sl 21 1,nl,vF,sl 22 1]),
 (166,[sl 23 1,em,vF,nl]),
 (166,[sl 24 1,nl,vF,sl 25 1]),
 (63,[vF,sl 26 1,vF,sl 27 1]),
 (63,[vT,sl 28 1,vF,sl 29 1]),
 (67,[z6 1,vF,nl,vF,nl,z6 1,vF,nl,vF,nl]),
 (67,[z6 1,vF,nl,vF,nl,z6 0,vF,nl,vF,sl 30 1]),
 (67,[z6 0,vF,sl 31 1,vF,sl 32 1,z6 0,vF,nl,vF,sl 33 1]),
 (67,[z6 1,vF,nl,vF,nl,z6 0,vT,sl 34 1,vF,sl 35 1]),
 (61,[vF,nl]),
 (61,[vF,sl 36 1]),
 (160,[u3 9]),
 (61,[vF,sl 37 1]),
 (61,[vT,sl 38 1]),
 (160,[u3 10]),
 (61,[vF,sl 39 1]),
 (61,[vF,sl 40 1]),
 (160,[u3 1]),
 (160,[u3 1]),
 (160,[u3 1]),
 (160,[u3 1]),
 (160,[u3 1]),
 (160,[u3 1]),
 (160,[u3 9]),
 (160,[u3 1]),
 (160,[u3 1]),
 (160,[u3 10]),
 (160,[u3 1]),
 (160,[u3 1]),
 (160,[u3 1]),
 (160,[u3 1]),
 (160,[u3 1]),
 (160,[u3 1])],
 [.agg #[sl 0 4,sl 1 1,sl 2 4,nl],.agg #[sl 3 2],sl 4 4,z6 0],
 [(67,[z6 1,vF,nl,vF,nl,z6 1,vF,nl,vF,nl])],
 .tuple #[sl 0 2,z6 0]⟩
def G1q:f0i:=⟨101,[(79,[em,z6 0,em,z6 1,em,z6 2,em,z6 3]),
 (9,[(.string ⟨#[120]⟩)]),
 (98,[z6 0,z6 1,z6 0,nl,sl 5 1,nl,z6 1,z6 2,z6 0,sl 6 1,sl 7 1,em,z6 1,z6 3,z6 0,sl 8 1,sl 9 1,em,z6 2,z6 1,z6 0,nl,sl 10 1,em]),
 (46,[sl 11 1,sl 12 1]),
 (42,[sl 13 2,sl 14 2,sl 15 2,sl 16 2]),
 (166,[sl 17 1,em,vF,nl]),
 (166,[sl 18 1,nl,vT,sl 19 1]),
 (166,[sl 20 1,em,vF,nl]),
 (166,[sl 21 1,nl,vF,sl 22 1]),
 (166,[sl 23 1,em,vF,nl]),
 (166,[sl 24 1,nl,vF,sl 25 1]),
 (63,[vF,sl 26 1,vF,sl 27 1]),
 (63,[vT,sl 28 1,vF,sl 29 1]),
 (67,[z6 1,vF,nl,vF,nl,z6 1,vF,nl,vF,nl]),
 (67,[z6 1,vF,nl,vF,nl,z6 0,vF,nl,vF,sl 30 1]),
 (67,[z6 0,vF,sl 31 1,vF,sl 32 1,z6 0,vF,nl,vF,sl 33 1]),
 (67,[z6 1,vF,nl,vF,nl,z6 0,vT,sl 34 1,vF,sl 35 1]),
 (61,[vF,nl]),
 (61,[vF,sl 36 1]),
 (160,[u3 9]),
 (61,[vF,sl 37 1]),
 (61,[vT,sl 38 1]),
 (160,[u3 10]),
 (61,[vF,sl 39 1]),
 (61,[vF,sl 40 1]),
 (160,[u3 1]),
 (160,[u3 1]),
 (160,[u3 1]),
 (160,[u3 1]),
 (160,[u3 1]),
 (160,[u3 1]),
 (160,[u3 9]),
 (160,[u3 1]),
 (160,[u3 1]),
 (160,[u3 10]),
 (160,[u3 1]),
 (160,[u3 1]),
 (160,[u3 1]),
 (160,[u3 1]),
 (160,[u3 1]),
 (160,[u3 1])],
 [.agg #[sl 0 4,sl 1 1,sl 2 4,nl],.agg #[sl 3 2],sl 4 4,z6 1],
 [(67,[z6 0,vF,sl 1 1,vF,sl 2 1,z6 0,vF,nl,vF,sl 3 1]),
 (160,[u3 10]),
 (160,[u3 1]),
 (160,[u3 1])],
 .tuple #[sl 0 2,z6 0]⟩
def G1r:f0i:=⟨101,[(79,[em,z6 0,em,z6 1,em,z6 2,em,z6 3]),
 (9,[(.string ⟨#[120]⟩)]),
 (98,[z6 0,z6 1,z6 0,nl,sl 5 1,nl,z6 1,z6 2,z6 0,sl 6 1,sl 7 1,em,z6 1,z6 3,z6 0,sl 8 1,sl 9 1,em,z6 2,z6 1,z6 0,nl,sl 10 1,em]),
 (46,[sl 11 1,sl 12 1]),
 (42,[sl 13 2,sl 14 2,sl 15 2,sl 16 2]),
 (166,[sl 17 1,em,vF,nl]),
 (166,[sl 18 1,nl,vT,sl 19 1]),
 (166,[sl 20 1,em,vF,nl]),
 (166,[sl 21 1,nl,vF,sl 22 1]),
 (166,[sl 23 1,em,vF,nl]),
 (166,[sl 24 1,nl,vF,sl 25 1]),
 (63,[vF,sl 26 1,vF,sl 27 1]),
 (63,[vT,sl 28 1,vF,sl 29 1]),
 (67,[z6 1,vF,nl,vF,nl,z6 1,vF,nl,vF,nl]),
 (67,[z6 1,vF,nl,vF,nl,z6 0,vF,nl,vF,sl 30 1]),
 (67,[z6 0,vF,sl 31 1,vF,sl 32 1,z6 0,vF,nl,vF,sl 33 1]),
 (67,[z6 1,vF,nl,vF,nl,z6 0,vT,sl 34 1,vF,sl 35 1]),
 (61,[vF,nl]),
 (61,[vF,sl 36 1]),
 (160,[u3 9]),
 (61,[vF,sl 37 1]),
 (61,[vT,sl 38 1]),
 (160,[u3 10]),
 (61,[vF,sl 39 1]),
 (61,[vF,sl 40 1]),
 (160,[u3 1]),
 (160,[u3 1]),
 (160,[u3 1]),
 (160,[u3 1]),
 (160,[u3 1]),
 (160,[u3 1]),
 (160,[u3 9]),
 (160,[u3 1]),
 (160,[u3 1]),
 (160,[u3 10]),
 (160,[u3 1]),
 (160,[u3 1]),
 (160,[u3 1]),
 (160,[u3 1]),
 (160,[u3 1]),
 (160,[u3 1])],
 [.agg #[sl 0 4,sl 1 1,sl 2 4,nl],.agg #[sl 3 2],sl 4 4,z6 3],
 [(67,[z6 1,vF,nl,vF,nl,z6 0,vT,sl 1 1,vF,sl 2 1]),
 (160,[u3 10]),
 (160,[u3 1])],
 .tuple #[sl 0 2,z6 0]⟩
def G1s:f0i:=⟨101,[(79,[em,z6 0,em,z6 1,em,z6 2,em,z6 3]),
 (9,[(.string ⟨#[120]⟩)]),
 (98,[z6 0,z6 1,z6 0,nl,sl 5 1,nl,z6 1,z6 2,z6 0,sl 6 1,sl 7 1,em,z6 1,z6 3,z6 0,sl 8 1,sl 9 1,em,z6 2,z6 1,z6 0,nl,sl 10 1,em]),
 (46,[sl 11 1,sl 12 1]),
 (42,[sl 13 2,sl 14 2,sl 15 2,sl 16 2]),
 (166,[sl 17 1,em,vF,nl]),
 (166,[sl 18 1,nl,vT,sl 19 1]),
 (166,[sl 20 1,em,vF,nl]),
 (166,[sl 21 1,nl,vF,sl 22 1]),
 (166,[sl 23 1,em,vF,nl]),
 (166,[sl 24 1,nl,vF,sl 25 1]),
 (63,[vF,sl 26 1,vF,sl 27 1]),
 (63,[vT,sl 28 1,vF,sl 29 1]),
 (67,[z6 1,vF,nl,vF,nl,z6 1,vF,nl,vF,nl]),
 (67,[z6 1,vF,nl,vF,nl,z6 0,vF,nl,vF,sl 30 1]),
 (67,[z6 0,vF,sl 31 1,vF,sl 32 1,z6 0,vF,nl,vF,sl 33 1]),
 (67,[z6 1,vF,nl,vF,nl,z6 0,vT,sl 34 1,vF,sl 35 1]),
 (61,[vF,nl]),
 (61,[vF,sl 36 1]),
 (160,[u3 9]),
 (61,[vF,sl 37 1]),
 (61,[vT,sl 38 1]),
 (160,[u3 10]),
 (61,[vF,sl 39 1]),
 (61,[vF,sl 40 1]),
 (160,[u3 1]),
 (160,[u3 1]),
 (160,[u3 1]),
 (160,[u3 1]),
 (160,[u3 1]),
 (160,[u3 1]),
 (160,[u3 9]),
 (160,[u3 1]),
 (160,[u3 1]),
 (160,[u3 10]),
 (160,[u3 1]),
 (160,[u3 1]),
 (160,[u3 1]),
 (160,[u3 1]),
 (160,[u3 1]),
 (160,[u3 1])],
 [.agg #[sl 0 4,sl 1 1,sl 2 4,nl],.agg #[sl 3 2],sl 4 4,z6 2],
 [(67,[z6 0,vF,sl 1 1,vF,sl 2 1,z6 0,vF,nl,vF,sl 3 1]),
 (160,[u3 9]),
 (160,[u3 1]),
 (160,[u3 1])],
 .tuple #[sl 0 2,z6 0]⟩
def G1t:f0i:=⟨101,[(79,[em,z6 0,em,z6 1,em,z6 2,em,z6 3]),
 (9,[(.string ⟨#[120]⟩)]),
 (98,[z6 0,z6 1,z6 0,nl,sl 5 1,nl,z6 1,z6 2,z6 0,sl 6 1,sl 7 1,em,z6 1,z6 3,z6 0,sl 8 1,sl 9 1,em,z6 2,z6 1,z6 0,nl,sl 10 1,em]),
 (46,[sl 11 1,sl 12 1]),
 (42,[sl 13 2,sl 14 2,sl 15 2,sl 16 2]),
 (166,[sl 17 1,em,vF,nl]),
 (166,[sl 18 1,nl,vT,sl 19 1]),
 (166,[sl 20 1,em,vF,nl]),
 (166,[sl 21 1,nl,vF,sl 22 1]),
 (166,[sl 23 1,em,vF,nl]),
 (166,[sl 24 1,nl,vF,sl 25 1]),
 (63,[vF,sl 26 1,vF,sl 27 1]),
 (63,[vT,sl 28 1,vF,sl 29 1]),
 (67,[z6 1,vF,nl,vF,nl,z6 1,vF,nl,vF,nl]),
 (67,[z6 0,vF,sl 30 1,vF,sl 31 1,z6 0,vF,nl,vF,sl 32 1]),
 (67,[z6 0,vF,sl 33 1,vF,sl 34 1,z6 0,vF,nl,vF,sl 35 1]),
 (67,[z6 1,vF,nl,vF,nl,z6 0,vT,sl 36 1,vF,sl 37 1]),
 (61,[vF,nl]),
 (61,[vF,sl 38 1]),
 (160,[u3 9]),
 (61,[vF,sl 39 1]),
 (61,[vT,sl 40 1]),
 (160,[u3 10]),
 (61,[vF,sl 41 1]),
 (61,[vF,sl 42 1]),
 (160,[u3 1]),
 (160,[u3 1]),
 (160,[u3 1]),
 (160,[u3 1]),
 (160,[u3 1]),
 (160,[u3 10]),
 (160,[u3 1]),
 (160,[u3 1]),
 (160,[u3 9]),
 (160,[u3 1]),
 (160,[u3 1]),
 (160,[u3 10]),
 (160,[u3 1]),
 (160,[u3 1]),
 (160,[u3 1]),
 (160,[u3 1]),
 (160,[u3 1]),
 (160,[u3 1])],
 [.agg #[sl 0 4,sl 1 1,sl 2 4,nl],.agg #[sl 3 2],sl 4 4,z6 3],
 [(67,[z6 0,vF,sl 1 1,vF,sl 2 1,z6 0,vT,sl 3 1,vF,sl 4 1]),
 (160,[u3 10]),
 (160,[u3 1]),
 (160,[u3 10]),
 (160,[u3 1])],
 .tuple #[sl 0 2,z6 0]⟩
def G1u:f0i:=⟨101,[(79,[em,z6 0,em,z6 1,em,z6 2,em,z6 3]),
 (9,[(.string ⟨#[120]⟩)]),
 (98,[z6 0,z6 1,z6 0,nl,sl 5 1,nl,z6 1,z6 2,z6 0,sl 6 1,sl 7 1,em,z6 1,z6 3,z6 0,sl 8 1,sl 9 1,em,z6 2,z6 1,z6 0,nl,sl 10 1,em]),
 (46,[sl 11 1,sl 12 1]),
 (42,[sl 13 2,sl 14 2,sl 15 2,sl 16 2]),
 (166,[sl 17 1,em,vF,nl]),
 (166,[sl 18 1,nl,vT,sl 19 1]),
 (166,[sl 20 1,em,vF,nl]),
 (166,[sl 21 1,nl,vF,sl 22 1]),
 (166,[sl 23 1,em,vF,nl]),
 (166,[sl 24 1,nl,vF,sl 25 1]),
 (63,[vF,sl 26 1,vF,sl 27 1]),
 (63,[vT,sl 28 1,vF,sl 29 1]),
 (67,[z6 1,vF,nl,vF,nl,z6 1,vF,nl,vF,nl]),
 (67,[z6 0,vF,sl 30 1,vF,sl 31 1,z6 0,vF,nl,vF,sl 32 1]),
 (67,[z6 0,vF,sl 33 1,vF,sl 34 1,z6 0,vF,nl,vF,sl 35 1]),
 (67,[z6 0,vF,sl 36 1,vF,sl 37 1,z6 0,vT,sl 38 1,vF,sl 39 1]),
 (61,[vF,nl]),
 (61,[vF,sl 40 1]),
 (160,[u3 9]),
 (61,[vF,sl 41 1]),
 (61,[vT,sl 42 1]),
 (160,[u3 10]),
 (61,[vF,sl 43 1]),
 (61,[vF,sl 44 1]),
 (160,[u3 1]),
 (160,[u3 1]),
 (160,[u3 1]),
 (160,[u3 1]),
 (160,[u3 1]),
 (160,[u3 10]),
 (160,[u3 1]),
 (160,[u3 1]),
 (160,[u3 9]),
 (160,[u3 1]),
 (160,[u3 1]),
 (160,[u3 10]),
 (160,[u3 1]),
 (160,[u3 10]),
 (160,[u3 1]),
 (160,[u3 1]),
 (160,[u3 1]),
 (160,[u3 1]),
 (160,[u3 1]),
 (160,[u3 1])],
 [.agg #[sl 0 4,sl 1 1,sl 2 4,nl],.agg #[sl 3 2],sl 4 4,z6 2],
 [(67,[z6 0,vF,sl 1 1,vF,sl 2 1,z6 0,vF,nl,vF,sl 3 1]),
 (160,[u3 9]),
 (160,[u3 1]),
 (160,[u3 1])],
 .tuple #[sl 0 2,z6 0]⟩
def r0t:List f0i:=[mm0,mm1,mm2,mm3,mm4,mm5,mm6,mm7,mm8,mm9,G1q,G1r,G1s,G1t,G1u]
end
section
set_option maxHeartbeats 4000000
variable {fl:Nat} {H G:a0c} {R:a0P} {v w u:Value}
def n0x (z:Int):Bool:=decide (-9223372036854775808<=z/\z < 9223372036854775808)
def toV (z:Int):Value:=.tuple #[.int .i64 (if n0x z then z else 0),.bool (n0x z)]
theorem t1Z {n:Nat} (h:n<=9223372036854775808):IntKind.i64.wrap (IntKind.u64.wrap (0 - (n:Int))) = -(n:Int):=by
 rw [a0x]
 show (if (true && decide (((0 - (n:Int)) % 18446744073709551616) % (2 ^ 64:Int) ≥ (2 ^ 63:Int)))=true then ((0 - (n:Int)) % 18446744073709551616) % (2 ^ 64:Int) - (2 ^ 64:Int) else ((0 - (n:Int)) % 18446744073709551616) % (2 ^ 64:Int)) = -(n:Int)
 rw [show (2 ^ 64:Int)=18446744073709551616 from rfl,show (2 ^ 63:Int)=9223372036854775808 from rfl]
 simp only [O1H,N1s]
 split <;> omega
theorem K1Z {i:Nat} (h:i < 2):(4294967296:Nat) ^ i=2 ^ (32 * i):=by
 rw [Nat.pow_mul]
theorem H0h {z:Int} (h:2 < lz z):n0x z=false:=by
 have:¬ z.natAbs < 4294967296 ^ 2:=fun c=>by have:=f0I c;unfold lz at h;omega
 unfold n0x;simp;intro _;omega
theorem t0l {z:Int} (h:c0m H v (a0J z)) (hf:fl<=H.size) (hl:lz z < 1073741824) :
  b0k env fl x0c [v] H (fun r H'=>r=toV z/\Ext H H') R:=by
 refine a0i I1E hf (h:=?_)
 intro ρ h0
 obtain ⟨s0,rfl,k0⟩:=id h
 simp [R0R,D0W,D0X,h0,k0.cells,k0.plain]
 generalize hG:H.push _=G
 obtain ⟨c,q⟩:=t0i hG
 have j:=Ext.refl H
 clear hG
 (try replace q:=c.bk q);(try replace j:=j.trans c);(try replace k0:=k0.mo c);(try replace k:=k.mo c)
 have a4:(a0J z).2.length=lz z:=b0F z
 refine (b0u (h.mo j) j.1 (by rw [b0F];omega)).mo ?_
 rintro w G2 ⟨k,c⟩
 (try replace q:=c.bk q);(try replace j:=j.trans c);(try replace k0:=k0.mo c);(try replace k:=k.mo c)
 rw [b0m] at k
 obtain ⟨d,hd⟩:∃ d,d=z.natAbs:=⟨_,rfl⟩
 have O:(a0l d).length=lz z:=by rw [hd];rfl
 rw [<- hd] at k
 simp [D0Y,k.slen,O]
 refine ⟨fun h2=>?_,fun h2=>?_⟩
 ·simp [D0Z,toV,H0h (z:=z) (by omega)]
 ·simp [E0a,E0b,k.slen,O]
  refine s0x (n:=lz z) (fun i ρ G=>ρ 1=.pointer (some ⟨H.size,0,none⟩)/\ρ 13=w/\Ext H G/\a0c.bk G H.size=.row false a0a [.bool (a0J z).1,s0]/\Lim G w (a0l d)/\ρ 5=.int .u64 ((a0q ((a0l d).take i):Nat):Int)) rfl rfl (by decide) (by omega) (by simp) (by simp) ?_ ?_ ?_ ?_
  ·exact ⟨by simp,by simp,j,q,k,by simp [a0q]⟩
  ·intro i ρ a6 G h hI;simpa [h] using hI
  ·clear h0 ρ j q k0 k c
   rintro i ρ G hi gi gn ⟨U,L,j,q,k,I⟩
   have F:i < (a0l d).length:=by omega
   have Y:=k.load F (Ext.refl G)
   have J:=a0H F
   have a0:(a0l d).getD i 0 < 4294967296:=k.2 _ (by rw [M1R,M1X F];exact N1j F)
   have M:=g0h ((a0l d).take i) (fun x j=>k.2 _ (O1n j))
   rw [N1Z,N1J (by omega),K1Z (by omega)] at M
   rw [K1Z (by omega)] at J
   obtain ⟨A,hA⟩:∃ A,A=(a0l d).getD i 0:=⟨_,rfl⟩
   obtain ⟨N,hN⟩:∃ N,N=a0q ((a0l d).take i):=⟨_,rfl⟩
   rw [<- hA] at Y J a0
   rw [<- hN] at M J I
   have hp:(2:Nat) ^ (32 * i)<=4294967296:=by
    have:(2:Nat) ^ (32 * i)<=2 ^ 32:=O1E (by omega) (by omega)
    exact this
   have a3:A * 2 ^ (32 * i)<=4294967295 * 4294967296:=O1k (by omega) hp
   have eA:IntKind.u64.wrap (A:Int)=(A:Int):=by rw [a0x];omega
   have Z:IntKind.i64.wrap (32 * (i:Int))=((32 * i:Nat):Int):=by rw [b0d (by omega) (by omega)];omega
   have s1:=E0Y (tag:=0) (n:=A) (s:=32 * i) (k':=.i64) (by omega)
   rw [N1o (by omega)] at s1
   have s2:=w1p (tag:=0) (a:=N) (b:=A * 2 ^ (32 * i)) (by omega) (by omega)
   rw [t0m M] at s2
   simp [-Int.natCast_add,-Int.natCast_mul,-Int.natCast_pow,E0c,E0d,gi,L,I,k.ia F,Y,eA,Z,s1,s2]
   exact Rnd.mk (by simp [gi]) (by simp [gn]) ⟨by simp [U],by simp [L],j,q,k,by simp [-Int.natCast_add,-Int.natCast_mul,-Int.natCast_pow];rw [J,N1p]⟩
  ·clear h0 ρ j q k0 k c
   rintro ρ G gi gn ⟨U,L,j,q,k,I⟩
   have a2:d < 4294967296 ^ (lz z):=by have:=j0S d;rwa [O] at this
   have a5:d < 18446744073709551616:=N1k a2 (N1n (O1E (by omega) (show lz z<=2 by omega)) (by decide))
   rw [N1c (by omega),a0p] at I
   have a1:=a0r q
   simp [w0f,U,q]
   refine (b0f (h.mo j) j.1 (by rw [b0F];omega)).mo ?_
   rintro _ G3 ⟨rfl,c⟩
   (try replace q:=c.bk q);(try replace j:=j.trans c);(try replace k0:=k0.mo c);(try replace k:=k.mo c)
   rw [b0m]
   have a1:=a0r q
   have hu:n0x z=false->toV z=.tuple #[.int .i64 0,.bool false]:=fun h=>by rw [toV,h];rfl
   have hv:n0x z=true->toV z=.tuple #[.int .i64 z,.bool true]:=fun h=>by rw [toV,h];rfl
   clear c
   by_cases Q:z < 0
   ·by_cases y:(d:Int)<=9223372036854775808
    ·have u:n0x z=true:=by unfold n0x;simp;omega
     have S:=t1Z (n:=d) (by omega)
     have e2:-(d:Int)=z:=by omega
     rw [e2] at S
     simp [Q,y,I,w0g,S,hv u]
     try (rw [show IntKind.i64.wrap (IntKind.u64.wrap (-(d:Int)))=z by rw [<- Int.zero_sub];exact S];simp)
    ·have u:n0x z=false:=by unfold n0x;simp;omega
     simp [Q,y,I,q0e,U,q]
     refine (b0f (h.mo j) j.1 (by rw [b0F];omega)).mo ?_
     rintro _ G4 ⟨rfl,c⟩
     rw [b0m]
     simp [Q,q0f,hu u]
   ·simp [Q,I,q0e,U,q]
    refine (b0f (h.mo j) j.1 (by rw [b0F];omega)).mo ?_
    rintro _ G4 ⟨rfl,c⟩
    rw [b0m]
    have e2:(d:Int)=z:=by omega
    by_cases y:z < 9223372036854775808
    ·have u:n0x z=true:=by unfold n0x;simp;omega
     have S:IntKind.i64.wrap z=z:=b0d (by omega) y
     simp [Q,y,I,w0h,S,hv u,e2]
    ·have u:n0x z=false:=by unfold n0x;simp;omega
     simp [Q,y,I,q0f,hu u,e2]
end
section
abbrev w0D:=Option (Value × List Blk)
def on1 {α:Type} (rd:Value->Option α) (k:α->w0D):List Value->w0D
 | [a]=>match rd a with | some x=>k x | none=>none
 | _=>none
def on2 {α:Type} (rd:Value->Option α) (k:α->α->w0D):List Value->w0D
 | [a,b]=>match rd a,rd b with | some x,some y=>k x y | _,_=>none
 | _=>none
theorem f0z {α:Type} {rd:Value->Option α} {k:α->w0D} {l:List Value} {p:Value × List Blk} (h:on1 rd k l=some p):∃ a x,l=[a]/\rd a=some x/\k x=some p:=by
 unfold on1 at h
 split at h
 ·split at h
  ·rename_i a _ x c;exact ⟨a,x,rfl,c,h⟩
  ·cases h
 ·cases h
theorem g0i {α:Type} {rd:Value->Option α} {k:α->α->w0D} {l:List Value} {p:Value × List Blk} (h:on2 rd k l=some p):∃ a b x y,l=[a,b]/\rd a=some x/\rd b=some y/\k x y=some p:=by
 unfold on2 at h
 split at h
 ·split at h
  ·rename_i a b _ _ x y c j;exact ⟨a,b,x,y,rfl,c,j,h⟩
  ·cases h
 ·cases h
def onZ (k:Int->w0D):List Value->w0D
 | [.int .i64 z]=>k z
 | _=>none
theorem H0v {k:Int->w0D} {l:List Value} {p:Value × List Blk} (h:onZ k l=some p):∃ z,l=[.int .i64 z]/\k z=some p:=by
 unfold onZ at h
 split at h
 ·rename_i z;exact ⟨z,rfl,h⟩
 ·cases h
def ndR (a:d0d):Int × Int:=cond (e0p a) (0,1) (cond (n0H a) (a0B a.1,a0B a.2) (0,1))
theorem n0Y {a b:Int} (h:a0J a=a0J b):a=b:=by rw [<- b0m a,<- b0m b,h]
theorem S0E (a:d0d):ndR a=((l0E a).num,((l0E a).den:Int)):=by
 unfold ndR
 cases hz:e0p a with
 | true=>simp [l0E,hz]
 | false =>
  cases hm:n0H a with
  | false=>simp [l0E,hz,hm]
  | true =>
   have:=k0P hz hm
   unfold i0X at this
   simp only [N1V] at this
   simp [n0Y this.1,n0Y this.2]
def F1V (x y:Int):Int:=match Int.sub x y with | .ofNat 0=>0 | .ofNat (_ + 1)=>1 | .negSucc _=>-1
theorem y0o (x y:Int):F1V x y=i0Y x y:=by
 have e:Int.sub x y=x - y:=rfl
 unfold F1V i0Y
 rw [e]
 split
 ·rename_i h;have h:x - y=0:=h
  rw [M1V (by omega),M1V (by omega)]
 ·rename_i n h;have h:x - y=((n + 1:Nat):Int):=h
  rw [M1V (by omega),M1Z (by omega)]
 ·rename_i n h;have h:x - y=Int.negSucc n:=h
  rw [M1Z (by omega)]
def z0I (n:Nat) (i j:Bool × List Nat):Value × List Blk :=
 let p:=v0v n i
 let q:=v0v (Nat.add n p.2.length) j
 (.tuple #[p.1,q.1,.int .i64 0],p.2 ++ q.2)
def u1o (z:Int):Bool:=match z with | .ofNat n=>Nat.blt n 9223372036854775808 | .negSucc n=>Nat.blt n 9223372036854775808
theorem z0c (z:Int):u1o z=n0x z:=by
 unfold n0x u1o
 split
 ·rename_i n
  rw [O1d,Nat.blt_eq,decide_eq_true_iff]
  show _ <-> -9223372036854775808<=(n:Int)/\(n:Int) < _
  omega
 ·rename_i n
  rw [O1d,Nat.blt_eq,decide_eq_true_iff]
  omega
def A0g (f:FuncId) (args:List Value) (G:Nat->Blk) (n:Nat):w0D :=
 cond (Nat.beq f z0a) (on1 (rdI G) (fun i=>some (.bool (d0k i),[])) args)
 (cond (Nat.beq f X0a) (on1 (rdR G) (fun a=>some (.bool (e0p a),[])) args)
 (cond (Nat.beq f F0z) (on2 (rdI G) (fun i j=>some (.int .i64 (F1V (a0B i) (a0B j)),[])) args)
 (cond (Nat.beq f h0Q) (on2 (rdI G) (fun i j=>some (v0v n (y0l (a0B i * a0B j)))) args)
 (cond (Nat.beq f m0o) (on2 (rdI G) (fun i j=>cond (a0B j == 0) none (some (z0I n (y0l ((a0B i).tdiv (a0B j))) (y0l ((a0B i).tmod (a0B j)))))) args)
 (cond (Nat.beq f m0q) (on2 (rdI G) (fun i j=>some (v0v n (y0l (a0B i + a0B j)))) args)
 (cond (Nat.beq f F0A) (on2 (rdI G) (fun i j=>some (v0v n (y0l (.ofNat (Int.gcd (a0B i) (a0B j)))))) args)
 (cond (Nat.beq f H0d) (on1 (rdR G) (fun a=>some (.bool (n0H a),[])) args)
 (cond (Nat.beq f X0b) (on1 (rdI G) (fun i=>some (.bool (a0B i == 0),[])) args)
 (cond (Nat.beq f s0M) (on2 (rdR G) (fun a b=>some (.int .i64 (F1V ((ndR a).1 * (ndR b).2) ((ndR b).1 * (ndR a).2)),[])) args)
 (cond (Nat.beq f j0P) (onZ (fun z=>cond (u1o z) (some (v0v n (y0l z))) none) args)
 (cond (Nat.beq f x0c) (on1 (rdI G) (fun i=>cond (d0k i) (some (.tuple #[.int .i64 (cond (u1o (a0B i)) (a0B i) 0),.bool (u1o (a0B i))],[])) none) args)
 (cond (Nat.beq f y0Z) (on2 (rdI G) (fun i j=>some (v0v n (y0l (a0B i - a0B j)))) args)
 (cond (Nat.beq f n0E) (on1 (rdI G) (fun i=>some (v0v n (y0l (-a0B i)))) args)
 (cond (Nat.beq f s0L) (on1 (rdE G) (fun e=>some (.bool (J1N e),[])) args)
 (cond (Nat.beq f w0R) (on1 (rdR G) (fun a=>some (.bool (e0p a),[])) args) none)))))))))))))))
variable {X:Cx} {fl:Nat} {f:FuncId} {args:List Value} {H:a0c} {v:Value} {bs:List Blk}
theorem b0y {c:Bool} {a b:w0D} {p:Value × List Blk} (h:cond c a b=some p):(c=true/\a=some p) ∨ b=some p:=by
 cases c with
 | true=>exact .inl ⟨rfl,h⟩
 | false=>exact .inr h
theorem x0k {i:Bool × List Nat} (h:d0k i=true) (j:b0g i.2):a0J (a0B i)=i:=by
 have c:=h0U j
 have k:d0N i=i.2:=by unfold d0N;rw [M1Z h]
 rw [k] at c
 unfold a0J
 rw [<- c]
 obtain ⟨b,l⟩:=i
 simp only at c ⊢
 congr 1
 unfold a0B
 rw [M1Z h]
 by_cases r:a0q l=0
 ·have q:l=[]:=by
   rw [c];unfold a0B;rw [M1Z h];simp [r,a0G]
  subst q
  cases b with
  | true=>simp [d0k] at h
  | false=>simp [a0q]
 ·cases b with
  | true=>simp;omega
  | false=>simp
theorem K1k {E:Env} (hs:∀ n,b0x X (a0M E n)) {z:Int} (h:b0k E fl f args H (fun r H'=>r=toV z/\Ext H H') (fun _=>False)) (c:fl<=H.size) :
  x0N X fl f args H (.tuple #[.int .i64 (cond (n0x z) z 0),.bool (n0x z)]) []:=by
 have:=f0U hs h c (vt:=.tuple #[.int .i64 (cond (n0x z) z 0),.bool (n0x z)]) (rows:=[]) (by
  rintro r G ⟨rfl,j⟩
  refine ⟨j.2,[],?_⟩
  unfold toV
  cases n0x z <;> simp [q0L,d0q,sameV,n0h,h0D,e0T])
 exact this
def G0h (i j:Bool × List Nat):Value × n0A:=(.tuple #[(cpI i).1,shV (cpI i).2.length (cpI j).1,.int .i64 0],(cpI i).2 ++ (cpI j).2)
theorem H0x (m:Nat) (i j:Bool × List Nat):z0I m i j=(shV m (G0h i j).1,c0L false m (G0h i j).2):=by
 obtain ⟨s,l⟩:=i
 obtain ⟨h,c⟩:=j
 cases l <;> cases c <;> simp [z0I,v0v,G0h,cpI,shV,shA,shC,c0L,F0r]
theorem w1u {E:Env} (hs:∀ n,b0x X (a0M E n)) {i j:Bool × List Nat} (h:b0k E fl f args H (fun r H'=>(∃ q m,r=.tuple #[q,m,.int .i64 0]/\n0t H.size H' q i/\n0t H.size H' m j/\L1H q m)/\Ext H H') (fun _=>False)) (L:fl<=H.size) :
  x0N X fl f args H (z0I H.size i j).1 (z0I H.size i j).2:=by
 rw [H0x]
 show x0N X fl f args H (shV H.size (G0h i j).1) (c0L false H.size (G0h i j).2)
 refine f0U hs h L ?_
 rintro r G ⟨⟨q,m,rfl,⟨s,rfl,U⟩,⟨s',rfl,I⟩,J⟩,Y⟩
 refine ⟨Y.2,?_⟩
 obtain ⟨sg,l⟩:=i
 obtain ⟨a0,l'⟩:=j
 have one:∀ {s:Value} {l:List Nat},j0G H.size G s l->(l=[]/\s=.slice none 0 0) ∨ ∃ x c b cap,l=x :: c/\s=.slice (some ⟨b,0,none⟩) (c.length + 1) cap/\G.bk b=.row false a0b (b0C (x :: c))/\H.size<=b /\
   List.take (c.length + 1) (b0C (x :: c))=b0C (x :: c):=by
  intro s l h
  obtain ⟨⟨⟨hl,R | ⟨b,cap,rfl,z,F⟩⟩,_⟩,Z⟩:=h
  ·obtain ⟨rfl,S⟩:=R
   exact .inl ⟨List.eq_nil_of_length_eq_zero S,rfl⟩
  ·cases l with
   | nil=>exact .inl ⟨rfl,Z rfl⟩
   | cons x l=>exact .inr ⟨x,l,b,cap,rfl,rfl,z,F,by rw [N1c];simp⟩
 rcases one U with ⟨rfl,rfl⟩ | ⟨x,c,b,cap,rfl,rfl,z,F,t⟩ <;> rcases one I with ⟨rfl,rfl⟩ | ⟨O,y,k,N,rfl,rfl,u,w,t'⟩
 ·exact ⟨[],by simp [q0L,G0h,cpI,d0q,sameV,n0h,h0D,e0T,e0o,shV,shA,shC]⟩
 ·have e:=e0X [(k,0)] (O :: y)
  exact ⟨[(k,0)],by simp [q0L,G0h,cpI,d0q,sameV,n0h,h0D,e0T,e0o,shV,shA,shC,l0u,u,w,c0d,a0t,g0X,e,t']⟩
 ·have e:=e0X [(b,0)] (x :: c)
  exact ⟨[(b,0)],by simp [q0L,G0h,cpI,d0q,sameV,n0h,h0D,e0T,e0o,shV,shA,shC,l0u,z,F,c0d,a0t,g0X,e,t]⟩
 ·have e:=e0X [(b,0),(k,0)] (x :: c)
  have Q:=e0X [(b,0),(k,0)] (O :: y)
  have M:b ≠ k:=J _ _ _ _ _ _ rfl rfl rfl rfl
  exact ⟨[(b,0),(k,0)],by simp [q0L,G0h,cpI,d0q,sameV,n0h,h0D,e0T,e0o,shV,shA,shC,l0u,z,F,u,w,c0d,a0t,g0X,e,Q,t,t',M]⟩
theorem i0S {p:Value × List Blk} (h:some p=some (v,bs)) (k:x0N X fl f args H p.1 p.2):x0N X fl f args H v bs:=by cases h;exact k
theorem X0r (hs:∀ n,b0x X (a0M env n)) (c:fl<=H.size) (h:A0g f args H.bk H.size=some (v,bs)):x0N X fl f args H v bs:=by
 unfold A0g at h
 rcases b0y h with ⟨hc,h⟩ | h
 ·rw [Nat.eq_of_beq_eq_true hc]
  obtain ⟨a,i,rfl,k,r⟩:=f0z h
  refine i0S r ?_
  obtain ⟨k,s⟩:=e0A k
  exact k0I hs (c0A k c (by omega)) c
 rcases b0y h with ⟨hc,h⟩ | h
 ·rw [Nat.eq_of_beq_eq_true hc]
  obtain ⟨a,i,rfl,k,r⟩:=f0z h
  refine i0S r ?_
  obtain ⟨k,s⟩:=r0Y k
  exact k0I hs (g0I k c) c
 rcases b0y h with ⟨hc,h⟩ | h
 ·rw [Nat.eq_of_beq_eq_true hc]
  obtain ⟨a,b,i,j,rfl,k,q,r⟩:=g0i h
  refine i0S r ?_
  obtain ⟨k,s⟩:=e0A k
  obtain ⟨q,u⟩:=e0A q
  rw [y0o]
  exact S0G hs (f0x k q c (by omega) (by omega)) c
 rcases b0y h with ⟨hc,h⟩ | h
 ·rw [Nat.eq_of_beq_eq_true hc]
  obtain ⟨a,b,i,j,rfl,k,q,r⟩:=g0i h
  refine i0S r ?_
  obtain ⟨k,s⟩:=e0A k
  obtain ⟨q,u⟩:=e0A q
  rw [h0L]
  exact o0p hs (m0y k q c (by omega) (by omega)) c
 rcases b0y h with ⟨hc,h⟩ | h
 ·rw [Nat.eq_of_beq_eq_true hc]
  obtain ⟨a,b,i,j,rfl,k,q,r⟩:=g0i h
  obtain ⟨k,s⟩:=e0A k
  obtain ⟨q,u⟩:=e0A q
  cases hj:(a0B j == 0) with
  | true=>rw [hj] at r;cases r
  | false =>
   rw [hj] at r
   refine i0S r ?_
   rw [h0L,h0L]
   exact w1u hs (m0w k q c (by omega) (by omega) (by simpa using hj)) c
 rcases b0y h with ⟨hc,h⟩ | h
 ·rw [Nat.eq_of_beq_eq_true hc]
  obtain ⟨a,b,i,j,rfl,k,q,r⟩:=g0i h
  refine i0S r ?_
  obtain ⟨k,s⟩:=e0A k
  obtain ⟨q,u⟩:=e0A q
  rw [h0L]
  exact o0p hs (j0x k q c (by omega) (by omega)) c
 rcases b0y h with ⟨hc,h⟩ | h
 ·rw [Nat.eq_of_beq_eq_true hc]
  obtain ⟨a,b,i,j,rfl,k,q,r⟩:=g0i h
  refine i0S r ?_
  obtain ⟨k,s⟩:=e0A k
  obtain ⟨q,u⟩:=e0A q
  rw [h0L]
  exact o0p hs (m0x k q c (by omega) (by omega)) c
 rcases b0y h with ⟨hc,h⟩ | h
 ·rw [Nat.eq_of_beq_eq_true hc]
  obtain ⟨a,i,rfl,k,r⟩:=f0z h
  refine i0S r ?_
  obtain ⟨k,s⟩:=r0Y k
  exact k0I hs (f0C k c (by omega)) c
 rcases b0y h with ⟨hc,h⟩ | h
 ·rw [Nat.eq_of_beq_eq_true hc]
  obtain ⟨a,i,rfl,k,r⟩:=f0z h
  refine i0S r ?_
  obtain ⟨k,s⟩:=e0A k
  exact k0I hs (k0l k c (by omega)) c
 rcases b0y h with ⟨hc,h⟩ | h
 ·rw [Nat.eq_of_beq_eq_true hc]
  obtain ⟨a,b,i,j,rfl,k,q,r⟩:=g0i h
  refine i0S r ?_
  obtain ⟨k,s⟩:=r0Y k
  obtain ⟨q,u⟩:=r0Y q
  rw [y0o,S0E,S0E,y0p]
  exact S0G hs (r0W k q c (by omega) (by omega)) c
 rcases b0y h with ⟨hc,h⟩ | h
 ·rw [Nat.eq_of_beq_eq_true hc]
  obtain ⟨z,rfl,r⟩:=H0v h
  cases hz:u1o z with
  | false=>rw [hz] at r;cases r
  | true =>
   rw [hz] at r
   refine i0S r ?_
   rw [z0c] at hz
   unfold n0x at hz
   rw [decide_eq_true_iff] at hz
   rw [h0L]
   exact o0p hs (o0n c hz.1 hz.2) c
 rcases b0y h with ⟨hc,h⟩ | h
 ·rw [Nat.eq_of_beq_eq_true hc]
  obtain ⟨a,i,rfl,k,r⟩:=f0z h
  obtain ⟨k,s⟩:=e0A k
  cases hm:d0k i with
  | false=>rw [hm] at r;cases r
  | true =>
   rw [hm] at r
   refine i0S r ?_
   have w:=k.ok
   have e:=x0k hm w
   rw [z0c]
   rw [<- e] at k
   have x:lz (a0B i) < 1073741824:=by have:=z0v (i:=i) w;omega
   refine K1k hs (t0l k c x) c
 rcases b0y h with ⟨hc,h⟩ | h
 ·rw [Nat.eq_of_beq_eq_true hc]
  obtain ⟨a,b,i,j,rfl,k,q,r⟩:=g0i h
  refine i0S r ?_
  obtain ⟨k,s⟩:=e0A k
  obtain ⟨q,u⟩:=e0A q
  rw [h0L]
  exact o0p hs (t0k k q c (by omega) (by omega)) c
 rcases b0y h with ⟨hc,h⟩ | h
 ·rw [Nat.eq_of_beq_eq_true hc]
  obtain ⟨a,i,rfl,k,r⟩:=f0z h
  refine i0S r ?_
  obtain ⟨k,s⟩:=e0A k
  rw [h0L]
  exact o0p hs (m0z k c (by omega)) c
 rcases b0y h with ⟨hc,h⟩ | h
 ·rw [Nat.eq_of_beq_eq_true hc]
  obtain ⟨a,i,rfl,k,r⟩:=f0z h
  refine i0S r ?_
  obtain ⟨k,s⟩:=B1W k
  exact k0I hs (q0S k c (by omega)) c
 rcases b0y h with ⟨hc,h⟩ | h
 ·rw [Nat.eq_of_beq_eq_true hc]
  obtain ⟨a,i,rfl,k,r⟩:=f0z h
  refine i0S r ?_
  obtain ⟨k,s⟩:=r0Y k
  exact k0I hs (g0a k c) c
 cases h
