/- Part 3 of the proof. -/
import Derived.Recover
import Derived.Test.YtilekhkgobmolaaGreatM01
set_option linter.unusedVariables false
set_option linter.unusedSimpArgs false
set_option linter.unusedSectionVars false
namespace Go.Proofs.YtilekhkgobmolaaGreat.AI
open Go
section
structure Ctx (X:Cx) (call:Nat->FuncId->List Value->a0f->Res (Value × a0f)) (fl:Nat) (ops:Array Oper) (l:List a0J) (bef:List Nat) (pairs:List (Nat × Nat)) (R:Run):Prop where
 callOk:e0l X call
 keepOk:h0U call
 tab:z0c X ops l bef pairs
 run:∀ (k:Nat) (s:a0J),l[k]? = some s->j0t call fl bef R k s
 apart:d0a ((List.range' 0 l.length).map R.tc) pairs=true
 p0:R.Pn 0=none
 low:fl<=(R.Hh 0).size
variable {X:Cx} {call:Nat->FuncId->List Value->a0f->Res (Value × a0f)} {fl:Nat} {ops:Array Oper} {l:List a0J} {bef:List Nat} {pairs:List (Nat × Nat)} {R:Run} (C:Ctx X call fl ops l bef pairs R)
include C
theorem Ctx.sAt {k:Nat} (c:k < l.length):∃ s,l[k]? = some s:=⟨l[k],k1A c⟩
omit C in
theorem j0o {t:b0c} {H H1:a0f} {so:SOp} {v:Value} (h:b0E call fl t H so=.ok (v,H1)) :
  opA fl t H so=.val v H1 ∨ ∃ f args lone,opA fl t H so=.call f args lone/\call (if lone=true then fl else max fl H.size) f args H=.ok (v,H1):=by
 unfold b0E at h
 split at h
 ·cases h
 ·cases h
 ·rename_i v' H' hv;simp only [Res.ok.injEq,m1t] at h;obtain ⟨rfl,rfl⟩:=h;exact .inl hv
 ·rename_i f args lone hc;exact .inr ⟨f,args,lone,hc,h⟩
theorem Ctx.keepStep {k:Nat} (c:k < l.length) (hlow:fl<=(R.Hh k).size):g0d fl (R.Hh k) (R.Hh (k + 1)):=by
 obtain ⟨s,hs⟩:=C.sAt c
 rcases C.run k s hs with h | h | h | h
 ·rw [h.2.2.2.1];exact g0d.refl
 ·rw [h.2.2.2.2.2.1];exact g0d.refl
 ·exact k0U C.keepOk hlow h.2.2.2.1
 ·rw [h.2.2.2.2.2.2.2.1];exact g0d.refl
theorem Ctx.keep0:∀ {k:Nat},k<=l.length->fl<=(R.Hh k).size/\g0d fl (R.Hh 0) (R.Hh k)
 | 0,_=>⟨C.low,g0d.refl⟩
 | k + 1,hk=>by
  obtain ⟨c,h⟩:=Ctx.keep0 (k:=k) (by omega)
  have e:=C.keepStep (by omega:k < l.length) c
  exact ⟨k1H c e.size,h.trans e (k1x _)⟩
theorem Ctx.keepIJ {i:Nat}:∀ {j:Nat},i<=j->j<=l.length->g0d fl (R.Hh i) (R.Hh j)
 | 0, hij, _ => by obtain rfl : i = 0 := by omega
                   exact g0d.refl
 | j + 1,hij,hj=>by
  by_cases h:i=j + 1
  ·subst h;exact g0d.refl
  ·exact (Ctx.keepIJ (j:=j) (by omega) (by omega)).trans (C.keepStep (by omega) (C.keep0 (by omega)).1) (k1x _)
theorem Ctx.szmono {i j:Nat} (c:i<=j) (e:j<=l.length):(R.Hh i).size<=(R.Hh j).size:=(C.keepIJ c e).size
theorem Ctx.pan:∀ {k:Nat},k<=l.length->∀ p v,R.Pn k=some (p,v)->p < k/\R.st p=3
 | 0,_,p,v,h=>by rw [C.p0] at h;cases h
 | k + 1,hk,p,v,h=>by
  obtain ⟨s,hs⟩:=C.sAt (by omega:k < l.length)
  have c:=Ctx.pan (k:=k) (by omega)
  rcases C.run k s hs with g | g | g | g
  ·rw [g.2.2.2.2.1] at h;have:=c p v h;exact ⟨by omega,this.2⟩
  ·rw [g.2.2.2.2.2.2.1] at h;have:=c p v h;exact ⟨by omega,this.2⟩
  ·rw [g.2.2.2.2.2.1] at h;have:=c p v h;exact ⟨by omega,this.2⟩
  ·rw [g.2.2.2.2.2.1] at h;cases h;exact ⟨by omega,g.1⟩
theorem Ctx.change {k:Nat} {s:a0J} (hs:l[k]? = some s) {b:Nat} (hb:b < (R.Hh k).size) (c:(R.Hh (k + 1)).bk b ≠ (R.Hh k).bk b) :
  R.st k=2/\((way s.op=2/\b ∈ (R.tc k).2) ∨ (way s.op=3/\d0R s.op=true)):=by
 have q:k < l.length:=(l1b.1 hs).1
 rcases C.run k s hs with h | h | h | h
 ·rw [h.2.2.2.1] at c;exact k1Q rfl c
 ·rw [h.2.2.2.2.2.1] at c;exact k1Q rfl c
 ·refine ⟨h.1,?_⟩
  rcases j0o h.2.2.2.1 with hv | ⟨f,args,lone,hc,hcall⟩
  ·have:=(q0O hv).changed hb c
   rw [h.2.2.2.2.2.2]
   exact .inl ⟨p0Y this,this⟩
  ·obtain ⟨e,j⟩:=f0A hc
   cases lone with
   | true=>exact .inr ⟨e,j⟩
   | false =>
    have hlow:=(C.keep0 (by omega:k<=l.length)).1
    have:=(C.keepOk _ _ _ _ _ _ hcall (by simp;omega)).low b (by simp;omega)
    exact k1Q this c
 ·rw [h.2.2.2.2.2.2.2.1] at c;exact k1Q rfl c
theorem Ctx.grow {k:Nat} {s:a0J} (hs:l[k]? = some s) (c:(R.Hh k).size ≠ (R.Hh (k + 1)).size):way s.op ≠ 0:=by
 rcases C.run k s hs with h | h | h | h
 ·rw [h.2.2.2.1] at c;exact k1Q rfl c
 ·rw [h.2.2.2.2.2.1] at c;exact k1Q rfl c
 ·intro e
  rcases j0o h.2.2.2.1 with hv | ⟨f,args,lone,hc,hcall⟩
  ·rw [K0C e hv] at c;exact k1Q rfl c
  ·rw [(f0A hc).1] at e;cases e
 ·rw [h.2.2.2.2.2.2.2.1] at c;exact k1Q rfl c
omit C in
theorem u0K (t:b0c) (d:Option Nat) (v:Value) (x:Nat):get (put t d v) x=if d=some x/\x < t.length then v else get t x:=by
 cases d with
 | none=>simp [put]
 | some d =>
  simp only [put,get,k1v,l1g,k1z]
  by_cases h:d=x
  ·subst h
   by_cases c:d < t.length
   ·simp [c]
   ·simp [c]
  ·simp [h]
theorem Ctx.slot {k:Nat} {s:a0J} (hs:l[k]? = some s) {x:Nat} (c:get (R.T (k + 1)) x ≠ get (R.T k) x):(R.st k=1 ∨ R.st k=2)/\s.dst=some x:=by
 rcases C.run k s hs with h | h | h | h
 ·rw [h.2.2.1] at c;exact k1Q rfl c
 ·refine ⟨.inl h.1,?_⟩
  rw [h.2.2.2.2.1,u0K] at c
  split at c
  ·rename_i e;exact e.1
  ·exact k1Q rfl c
 ·refine ⟨.inr h.1,?_⟩
  rw [h.2.2.2.2.1,u0K] at c
  split at c
  ·rename_i e;exact e.1
  ·exact k1Q rfl c
 ·rw [h.2.2.2.2.2.2.1] at c;exact k1Q rfl c
theorem Ctx.tlen:∀ {k:Nat},k<=l.length->(R.T k).length=(R.T 0).length
 | 0,_=>rfl
 | k + 1,hk=>by
  obtain ⟨s,hs⟩:=C.sAt (by omega:k < l.length)
  have c:=Ctx.tlen (k:=k) (by omega)
  have hp:∀ (d:Option Nat) (v:Value),(put (R.T k) d v).length=(R.T k).length:=fun d v=>by cases d <;> simp [put]
  rcases C.run k s hs with h | h | h | h
  ·rw [h.2.2.1];exact c
  ·rw [h.2.2.2.2.1,hp];exact c
  ·rw [h.2.2.2.2.1,hp];exact c
  ·rw [h.2.2.2.2.2.2.1];exact c
theorem Ctx.disj {i j:Nat} (hp:(i,j) ∈ pairs ∨ (j,i) ∈ pairs) (hi:i < l.length) (s:j < l.length) {b:Nat} (hb:b ∈ (R.tc i).2):b ∉ (R.tc j).1/\b ∉ (R.tc j).2:=by
 have e:=C.apart
 unfold d0a at e
 rw [l1a] at e
 have c:∀ k,k < l.length->((List.range' 0 l.length).map R.tc).getD k ([],[])=R.tc k:=fun k x=>by
  simp only [k1v,l1N,List.getElem?_range' x,l1S,l1d]
  congr 1;omega
 have q:∀ {u v:List Nat},s0Y u v=false->∀ {b:Nat},b ∈ u->b ∉ v:=fun {u v} h {b} z hv=>by
  unfold s0Y at h
  rw [List.any_eq_false] at h
  exact h b z (by simpa using hv)
 rcases hp with hp | hp
 ·have h:=e _ hp
  simp only [c i hi,c j s,k1L,m1k] at h
  exact ⟨q h.1.1 hb,q h.1.2 hb⟩
 ·have h:=e _ hp
  simp only [c i hi,c j s,k1L,m1k] at h
  exact ⟨fun y=>q h.2 y hb,fun F=>q h.1.2 F hb⟩
theorem Ctx.clash {k j:Nat} {N y:a0J} (x:l[k]? = some N) (G:l[j]? = some y) (q:k ≠ j) (O:b0w bef k j=false) (U:b0w bef j k=false) {b:Nat} (hb:b < (R.Hh k).size)
  (L:(R.Hh (k + 1)).bk b ≠ (R.Hh k).bk b) (hw:way y.op ≠ 0):way N.op=2/\b ∈ (R.tc k).2/\way y.op ≠ 3/\b ∉ (R.tc j).1/\b ∉ (R.tc j).2:=by
 have I:k < l.length:=(l1b.1 x).1
 have H:j < l.length:=(l1b.1 G).1
 obtain ⟨ok,M,F⟩:=C.tab.op k N x
 obtain ⟨oj,s,z⟩:=C.tab.op j y G
 have a0:=C.tab.len
 have h:=C.tab.two q (by omega) (by omega) O U M s x G
 rcases (C.change x hb L).2 with ⟨u,v⟩ | ⟨u,v⟩
 ·have hp:=h.2.2.2.2 ⟨u,hw⟩
  have Z:=C.disj hp I H v
  exact ⟨u,v,fun e=>h.2.2.2.1 ⟨u,e⟩,Z.1,Z.2⟩
 ·exfalso
  have J:=(s0q (e0o F).1).2 v
  unfold x0n at J
  rw [l1a] at J
  have c:=J j (l1G.2 (by simp;omega))
  have h6:(ops.toList.map fun o=>o0I o.op).getD j 0=o0I oj.op:=by
   simp only [k1v,l1N,m1e,s,l1S,l1d]
  have h7:=(s0q (e0o z).1).1 hw
  rw [h6,O,U] at c
  simp only [Bool.or_eq_true,beq_iff_eq,k1W,or_false] at c
  rcases c with c | c
  ·exact q c.symm
  ·exact h7 c
end
section
structure i1w (X:Cx) (fl:Nat) (φ0:Inj) (H0:a0f) (w0:World) (φ:Inj) (w:World):Prop where
 ext:∀ b x,φ0 b=some x->φ b=some x
 shp:∀ B x,w0.shape? B=some x->w.shape? B=some x
 wsz:w0.heap.size<=w.heap.size
 os:w.os=w0.os
 tape:w.tape=w0.tape
 out:w.output=w0.output
 fresh:∀ b y,φ b=some y->φ0 b=none->H0.size<=b
 newB:∀ b B o,φ b=some (B,o)->φ0 b=none->w0.heap.size<=B ∨ ∃ b0 o0 e cs,φ0 b0=some (B,o0)/\fl<=b0/\H0.bk b0=.row false e cs
 frame:∀ B,B < w0.heap.size->(∀ b o e cs,φ0 b=some (B,o)->fl<=b->H0.bk b ≠ .row false e cs)->w.heap[B]? = w0.heap[B]?
structure Inv (X:Cx) (fl:Nat) (ops:Array Oper) (l:List a0J) (bef:List Nat) (R:Run) (φ0:Inj) (w0:World) (Sd:Nat->Prop) (φ:Inj) (κ θ:Nat->Nat) (a:Act) (w:World):Prop where
 done:∀ k,k < l.length->Sd k->R.st k=1 ∨ R.st k=2
 down:∀ j,j < l.length->Sd j->∀ i,b0w bef i j=true->Sd i
 tlen:a.tmps.size=(R.T 0).length
 defers:a.defers=R.ds
 base:X.base<=w.heap.size
 T:∀ x,x < (R.T 0).length->θ x<=l.length/\(θ x=0 ∨ ∃ k s,θ x=k + 1/\Sd k/\l[k]? = some s/\s.dst=some x)/\(∀ k s,θ x<=k->Sd k->l[k]? = some s->s.dst ≠ some x) /\
  VR X (cut φ (R.Hh (θ x)).size) w.shape? (get (R.T (θ x)) x) (a.tmps.getD x undef)
 D:∀ b y,φ b=some y->b < (R.Hh 0).size ∨ ∃ k,k < l.length/\Sd k/\(R.Hh k).size<=b/\b < (R.Hh (k + 1)).size
 Rr:∀ b B o,φ b=some (B,o)->κ b<=l.length/\b < (R.Hh (κ b)).size/\(κ b=0 ∨ ∃ k,κ b=k + 1/\k < l.length/\Sd k/\((R.Hh k).size<=b ∨ (R.Hh (k + 1)).bk b ≠ (R.Hh k).bk b)) /\
  (∀ k,κ b<=k->k < l.length->Sd k->(R.Hh (k + 1)).bk b=(R.Hh k).bk b) /\
  ∀ ro e cs,(R.Hh (κ b)).bk b=.row ro e cs->z0a X (cut φ (R.Hh (κ b)).size) w B o ro e cs
 P:∀ b b' B o o' e cs,φ b=some (B,o)->φ b' = some (B,o')->b ≠ b'->(R.Hh (κ b)).bk b=.row false e cs->(R.Hh (κ b')).bk b' = .dead
 W:∀ k s,l[k]? = some s->Sd k->R.st k=2->∀ b,b ∈ (R.tc k).2->φ b ≠ none
 glob:i1w X fl φ0 (R.Hh 0) w0 φ w
variable {X:Cx} {call:Nat->FuncId->List Value->a0f->Res (Value × a0f)} {fl:Nat} {ops:Array Oper} {l:List a0J} {bef:List Nat} {pairs:List (Nat × Nat)} {R:Run} (C:Ctx X call fl ops l bef pairs R)
variable {φ0 φ:Inj} {w0 w w':World} {Sd:Nat->Prop} {κ θ:Nat->Nat} {a:Act} (I:Inv X fl ops l bef R φ0 w0 Sd φ κ θ a w)
variable {j:Nat} {s:a0J} {o:Oper} (hs:l[j]? = some s) (ho:ops[j]? = some o) (hnj:¬ Sd j) (hpre:∀ i,b0w bef i j=true->Sd i)
include C I hs hnj hpre
theorem Inv.unord {k:Nat} (s:k < l.length) (u:k ≠ j) (h:(Sd k/\j < k) ∨ (¬ Sd k/\k < j)):b0w bef k j=false/\b0w bef j k=false:=by
 have v:j < l.length:=(l1b.1 hs).1
 have e:=C.tab.len
 rcases h with ⟨c,q⟩ | ⟨c,q⟩
 ·refine ⟨?_,?_⟩
  ·cases h3:b0w bef k j with
   | false=>rfl
   | true=>have:=C.tab.lt j k (by omega) h3;omega
  ·cases h3:b0w bef j k with
   | false=>rfl
   | true=>exact k1Q (I.down k s c j h3) hnj
 ·refine ⟨?_,?_⟩
  ·cases h3:b0w bef k j with
   | false=>rfl
   | true=>exact k1Q (hpre k h3) c
  ·cases h3:b0w bef j k with
   | false=>rfl
   | true=>have:=C.tab.lt k j (by omega) h3;omega
include ho in
theorem Inv.slot {x:Nat} (hx:x < (R.T 0).length) (U:x ∈ i0E o s):VR X (cut φ (R.Hh j).size) w.shape? (get (R.T j) x) (a.tmps.getD x undef):=by
 have hj:j < l.length:=(l1b.1 hs).1
 have O:=C.tab.len
 obtain ⟨h1,J,Z,h4⟩:=I.T x hx
 have u:θ x<=j:=by
  rcases J with J | ⟨k,sk,h5,L,v,h8⟩
  ·omega
  ·by_cases a0:k < j
   ·omega
   ·exfalso
    have hk:k < l.length:=(l1b.1 v).1
    have c:k ≠ j:=fun e=>hnj (e ▸ L)
    obtain ⟨G,H⟩:=Inv.unord C I hs hnj hpre hk c (.inl ⟨L,by omega⟩)
    obtain ⟨ok,z,_⟩:=C.tab.op k sk v
    exact (((C.tab.two c (by omega) (by omega) G H z ho v hs).1 x h8).1) U
 have y:∀ m,θ x<=m->m<=j->get (R.T m) x=get (R.T (θ x)) x:=by
  intro m hm
  induction m with
  | zero=>intro _;congr 2;omega
  | succ m ih =>
   intro a1
   by_cases hc:θ x=m + 1
   ·rw [hc]
   ·rw [<- ih (by omega) (by omega)]
    apply l1t
    intro c
    obtain ⟨sm,q⟩:=C.sAt (by omega:m < l.length)
    obtain ⟨_,N⟩:=C.slot q c
    by_cases M:Sd m
    ·exact Z m sm (by omega) M q N
    ·obtain ⟨G,H⟩:=Inv.unord C I hs hnj hpre (by omega:m < l.length) (by omega) (.inr ⟨M,by omega⟩)
     obtain ⟨om,F,_⟩:=C.tab.op m sm q
     exact (((C.tab.two (by omega) (by omega) (by omega) G H F ho q hs).1 x N).1) U
 rw [y j u (k1x _)]
 exact h4.mo (j0z (C.szmono u (by omega)) (fun _ _ _ h=>h)) (fun _ _ h=>h)
def A0v (R:Run) (κ:Nat->Nat) (j b:Nat):Prop:=κ b<=j/\(R.Hh j).bk b=(R.Hh (κ b)).bk b
theorem Inv.notNew {b:Nat} {y:Nat × Nat} (hb:φ b=some y):b < (R.Hh j).size ∨ (R.Hh (j + 1)).size<=b:=by
 have x:j < l.length:=(l1b.1 hs).1
 rcases I.D b y hb with h | ⟨k,z,s,c,q⟩
 ·exact .inl (k1P h (C.szmono (l1D _) (by omega)))
 ·by_cases u:k < j
  ·exact .inl (k1P q (C.szmono (by omega) (by omega)))
  ·have v:k ≠ j:=fun e=>hnj (e ▸ s)
   exact .inr (k1H (C.szmono (by omega) (by omega)) c)
theorem Inv.good {b:Nat} {y:Nat × Nat} (hb:φ b=some y) (L:b < (R.Hh j).size) (hw:way s.op ≠ 0) (J:way s.op=3 ∨ b ∈ (R.tc j).1 ∨ b ∈ (R.tc j).2):A0v R κ j b:=by
 have hj:j < l.length:=(l1b.1 hs).1
 obtain ⟨B,o1⟩:=y
 obtain ⟨h1,h2,O,h4,_⟩:=I.Rr b B o1 hb
 have no:∀ {k:Nat} {N:a0J},l[k]? = some N->k ≠ j->b0w bef k j=false->b0w bef j k=false->b < (R.Hh k).size->(R.Hh (k + 1)).bk b ≠ (R.Hh k).bk b->False:=by
  intro k N v q z F u c
  obtain ⟨c1,c2,c3,c4,c5⟩:=C.clash v hs q z F u c hw
  rcases J with h | h | h
  ·exact c3 h
  ·exact c4 h
  ·exact c5 h
 have x:κ b<=j:=by
  rcases O with O | ⟨k,h5,hk,U,G⟩
  ·omega
  ·by_cases a0:k < j
   ·omega
   ·exfalso
    have q:k ≠ j:=fun e=>hnj (e ▸ U)
    obtain ⟨z,F⟩:=Inv.unord C I hs hnj hpre hk q (.inl ⟨U,by omega⟩)
    have u:b < (R.Hh k).size:=k1P L (C.szmono (by omega) (by omega))
    obtain ⟨N,v⟩:=C.sAt hk
    rcases G with G | G
    ·omega
    ·exact no v q z F u G
 refine ⟨x,?_⟩
 have H:∀ m,κ b<=m->m<=j->(R.Hh m).bk b=(R.Hh (κ b)).bk b:=by
  intro m hm
  induction m with
  | zero=>intro _;congr 2;omega
  | succ m ih =>
   intro a1
   by_cases hc:κ b=m + 1
   ·rw [hc]
   ·rw [<- ih (by omega) (by omega)]
    apply l1t
    intro c
    obtain ⟨sm,M⟩:=C.sAt (by omega:m < l.length)
    by_cases Z:Sd m
    ·exact c (h4 m (by omega) (by omega) Z)
    ·obtain ⟨z,F⟩:=Inv.unord C I hs hnj hpre (by omega:m < l.length) (by omega) (.inr ⟨Z,by omega⟩)
     exact no M (by omega) z F (k1P h2 (C.szmono (by omega) (by omega))) c
 exact H j x (k1x _)
open Classical in
noncomputable def p0e (R:Run) (φ:Inj) (κ:Nat->Nat) (j:Nat):a0f :=
 ((List.range (R.Hh j).size).map fun b=>if φ b ≠ none/\¬ A0v R κ j b then Blk.dead else (R.Hh j).bk b).toArray
omit C I hs hnj hpre in
theorem e0F (R:Run) (φ:Inj) (κ:Nat->Nat) (j:Nat):(p0e R φ κ j).size=(R.Hh j).size:=by simp [p0e]
omit C I hs hnj hpre in
open Classical in
theorem j0J (R:Run) (φ:Inj) (κ:Nat->Nat) (j b:Nat):(p0e R φ κ j).bk b=if φ b ≠ none/\¬ A0v R κ j b then Blk.dead else (R.Hh j).bk b:=by
 by_cases hb:b < (R.Hh j).size
 ·simp only [p0e,a0f.bk,k1I,List.getElem?_toArray,l1N,m1l hb,l1S,l1d]
 ·have c:(p0e R φ κ j).bk b=.dead:=i0I (by rw [e0F];omega)
  have e:(R.Hh j).bk b=.dead:=i0I (by omega)
  rw [c,e];split <;> rfl
omit C I hs hnj hpre in
theorem e0W {b:Nat} {y:Nat × Nat} {ro:Bool} {e:TypeId} {cs:List Value} (hb:φ b=some y) (h:(p0e R φ κ j).bk b=.row ro e cs):A0v R κ j b/\(R.Hh j).bk b=.row ro e cs:=by
 rw [j0J] at h
 split at h
 ·cases h
 ·rename_i hc
  refine ⟨l1t fun c=>hc ⟨by rw [hb];simp,c⟩,h⟩
theorem Inv.rel:Rel X (cut φ (R.Hh j).size) (p0e R φ κ j) w:=by
 have hj:j < l.length:=(l1b.1 hs).1
 refine { bs:=I.base,lt:=fun b x h=>by rw [e0F];exact (b0A.1 h).1,row:=?_,sep:=?_ }
 ·intro b B G ro e cs hb k
  obtain ⟨N,q⟩:=b0A.1 hb
  obtain ⟨⟨J,u⟩,v⟩:=e0W q k
  obtain ⟨c,L,M,Z,k2,k3,k4⟩:=(I.Rr b B G q).2.2.2.2 ro e cs (by rw [<- u];exact v)
  exact ⟨c,L,M,Z,k2,k3.mo (j0z (C.szmono J (by omega)) (fun _ _ _ h=>h)) (fun _ _ h=>h),k4⟩
 ·intro b H B G o2 e cs hb y F k
  obtain ⟨N,q⟩:=b0A.1 hb
  obtain ⟨O,s⟩:=b0A.1 y
  obtain ⟨⟨J,u⟩,v⟩:=e0W q k
  have U:=I.P b H B G o2 e cs q s F (by rw [<- u];exact v)
  rw [j0J]
  split
  ·rfl
  ·rename_i hc
   have z:A0v R κ j H:=l1t fun z=>hc ⟨by rw [s];simp,z⟩
   rw [z.2];exact U
end
section
variable {X:Cx} {call:Nat->FuncId->List Value->a0f->Res (Value × a0f)} {fl:Nat} {ops:Array Oper} {l:List a0J} {bef:List Nat} {pairs:List (Nat × Nat)} {R:Run} (C:Ctx X call fl ops l bef pairs R)
variable {φ0 φ:Inj} {w0 w w':World} {Sd:Nat->Prop} {κ θ:Nat->Nat} {a:Act} (I:Inv X fl ops l bef R φ0 w0 Sd φ κ θ a w)
variable {j:Nat} {s:a0J} {o:Oper} (hs:l[j]? = some s) (ho:ops[j]? = some o) (hnj:¬ Sd j) (hpre:∀ i,b0w bef i j=true->Sd i)
include C I hs hnj hpre
open Classical in
theorem Inv.after {a4:Inj} {G1:a0f} {v':Value} (j2:R.st j=1 ∨ R.st j=2) (g8:R.T (j + 1)=put (R.T j) s.dst (R.val j)) (a9:Par (R.Hh j) (R.Hh (j + 1)) (p0e R φ κ j) G1)
  (hv:VR X a4 w'.shape? (R.val j) v') (H:d0v X fl (cut φ (R.Hh j).size) (p0e R φ κ j) w a4 G1 w') (hW:∀ b,b ∈ (R.tc j).2->φ b ≠ none) (e7:∀ b y,φ0 b=some y->b < (R.Hh 0).size) :
  ∃ φ' c8 d5,Inv X fl ops l bef R φ0 w0 (fun k=>Sd k ∨ k=j) φ' c8 d5 (a.put s.dst v') w':=by
 have hj:j < l.length:=(l1b.1 hs).1
 have hlow:fl<=(R.Hh j).size:=(C.keep0 (by omega:j<=l.length)).1
 have g6:=C.keepStep hj hlow
 have hsz:(R.Hh j).size<=(R.Hh (j + 1)).size:=g6.size
 have g7:G1.size=(R.Hh (j + 1)).size:=a9.size
 have c6:=Inv.rel C I hs hnj hpre
 let φ':Inj:=fun b=>if (R.Hh j).size<=b/\b < (R.Hh (j + 1)).size then a4 b else φ b
 let ch:Nat->Prop:=fun b=>((R.Hh j).size<=b/\b < (R.Hh (j + 1)).size) ∨ (b < (R.Hh j).size/\(R.Hh (j + 1)).bk b ≠ (R.Hh j).bk b)
 let c8:Nat->Nat:=fun b=>if ch b then j + 1 else κ b
 let d5:Nat->Nat:=fun x=>if s.dst=some x then j + 1 else θ x
 have b5:∀ b,φ' b=if (R.Hh j).size<=b/\b < (R.Hh (j + 1)).size then a4 b else φ b:=fun _=>rfl
 have a3:∀ b,ch b->c8 b=j + 1:=fun b h=>k1B h
 have L:∀ b,¬ ch b->c8 b=κ b:=fun b h=>k1y h
 have fA:∀ b y,φ b=some y->φ' b=some y:=fun b y hb=>by
  rw [b5,k1y];exact hb
  have:=Inv.notNew C I hs hnj hpre hb;omega
 have f6:∀ b y,b < (R.Hh j).size->a4 b=some y->φ b=some y:=fun b y hb h=>by
  cases hc:cut φ (R.Hh j).size b with
  | none=>have:=H.fresh b y h hc;rw [e0F] at this;omega
  | some z =>
   have:=H.ext b z hc
   rw [h] at this;cases this
   exact (b0A.1 hc).2
 have fB:∀ b y,a4 b=some y->b < (R.Hh (j + 1)).size/\φ' b=some y:=fun b y h=>by
  have N:=H.rel.lt b y h
  rw [g7] at N
  refine ⟨N,?_⟩
  rw [b5]
  by_cases hb:(R.Hh j).size<=b
  ·rw [k1B ⟨hb,N⟩];exact h
  ·rw [k1y (by omega)];exact f6 b y (by omega) h
 have fC:∀ b y,φ' b=some y->b < (R.Hh (j + 1)).size->a4 b=some y:=fun b y h N=>by
  rw [b5] at h
  split at h
  ·exact h
  ·rename_i hc
   exact H.ext b y (b0A.2 ⟨by omega,h⟩)
 have a1:∀ b y,φ' b=some y->¬ ((R.Hh j).size<=b/\b < (R.Hh (j + 1)).size)->φ b=some y:=fun b y h hc=>by rw [b5,k1y hc] at h;exact h
 have d9:∀ b y,a4 b=some y->cut φ' (R.Hh (j + 1)).size b=some y:=fun b y h=>b0A.2 (fB b y h)
 have a0:∀ {k b:Nat},(R.Hh k).size<=b->(R.Hh k).bk b=.dead:=fun h=>i0I h
 -- a d3 operation that has run leaves alone what this one has turned
 have d3:∀ b,ch b->(φ' b ≠ none)->∀ k,j + 1<=k->k < l.length->(Sd k ∨ k=j)->(R.Hh (k + 1)).bk b=(R.Hh k).bk b:=by
  intro b e8 g5 k j9 hk v
  have v : Sd k := by rcases v with h | h; · exact h
                      ·omega
  apply l1t
  intro a2
  obtain ⟨sk,G⟩:=C.sAt hk
  have f8:b < (R.Hh k).size:=by
   have O:=C.szmono (show j + 1<=k by omega) (by omega)
   rcases e8 with h | h <;> omega
  obtain ⟨u1,u2⟩:=Inv.unord C I hs hnj hpre hk (by omega) (.inl ⟨v,by omega⟩)
  have j3:way s.op ≠ 0:=by
   rcases e8 with h | h
   ·exact C.grow hs (by omega)
   ·have J:=(C.change hs h.1 h.2).2
    rcases J with ⟨J,_⟩ | ⟨J,_⟩ <;> omega
  obtain ⟨c1,c2,c3,c4,c5⟩:=C.clash G hs (by omega) u1 u2 f8 a2 j3
  rcases e8 with h | h
  ·-- new: nobody that has run could know it
   obtain ⟨f9,_⟩:=C.change G f8 a2
   have hd:=I.W k sk G v f9 b c2
   cases hφb:φ b with
   | none=>exact hd hφb
   | some y=>have:=Inv.notNew C I hs hnj hpre hφb;omega
  ·have J:=(C.change hs h.1 h.2).2
   rcases J with ⟨_,J⟩ | ⟨J,_⟩
   ·exact c5 J
   ·exact c3 J
 -- an untouched block's concrete row, if it is not in the state that ran
 have f5:∀ b B U ro e cs,φ b=some (B,U)->(R.Hh (κ b)).bk b=.row ro e cs->((R.Hh (j + 1)).size<=b ∨ ¬ A0v R κ j b)->b < (R.Hh j).size ∨ (R.Hh (j + 1)).size<=b->w'.heap[B]? = w.heap[B]?:=by
  intro b B U ro e cs hb q d2 b4
  have j1:=(I.Rr b B U hb).2.2.2.2 ro e cs q
  refine H.frame B j1.lt ?_
  intro b1 o2 e1 c9 Z e4 a7
  obtain ⟨g1,g2⟩:=b0A.1 Z
  obtain ⟨g3,g4⟩:=e0W g2 a7
  have a2:b1 ≠ b:=by
   intro e;subst e
   rcases d2 with h | h
   ·omega
   ·exact h g3
  have:=I.P b1 b B o2 U e1 c9 g2 hb a2 (by rw [<- g3.2];exact g4)
  rw [this] at q;cases q
 -- the blocks of the state that ran
 have M:∀ b,b < (R.Hh (j + 1)).size->(ch b ∨ A0v R κ j b)->φ' b ≠ none->G1.bk b=(R.Hh (c8 b)).bk b:=by
  intro b N i7 g5
  by_cases hc:ch b
  ·rw [a3 b hc]
   rcases hc with h | h
   ·exact a9.more b h.1
   ·exact a9.diff b h.1 h.2
  ·rw [L b hc]
   have hg : A0v R κ j b := by rcases i7 with h | h; · exact k1Q h hc
                               ·exact h
   have e5:b < (R.Hh j).size:=by
    by_cases h:b < (R.Hh j).size
    ·exact h
    ·exact k1Q (.inl ⟨by omega,N⟩) hc
   have f1:(R.Hh (j + 1)).bk b=(R.Hh j).bk b:=l1t fun h=>hc (.inr ⟨e5,h⟩)
   rw [a9.same b e5 f1,j0J,k1y (fun h=>h.2 hg),hg.2]
 refine ⟨φ',c8,d5,?_⟩
 refine
  { done := ?_
    down:=?_
    tlen:=?_
    defers:=?_
    base:=k1H I.base H.wsz
    T:=?_
    D:=?_
    Rr:=?_
    P:=?_
    W:=?_
    glob:=?_ }
 ·intro k hk v
  rcases v with h | h
  ·exact I.done k hk h
  ·subst h;exact j2
 ·intro k hk v i hi
  rcases v with h | h
  ·exact .inl (I.down k hk h i hi)
  ·subst h;exact .inl (hpre i hi)
 ·cases s.dst <;> simp [Act.put,I.tlen]
 ·rw [c0Q];exact I.defers
 ·-- slots
  intro x hx
  have j4:=C.tab.len
  by_cases hd:s.dst=some x
  ·have f2:d5 x=j + 1:=k1B hd
   rw [f2]
   refine ⟨by omega,.inr ⟨j,s,rfl,.inr rfl,hs,hd⟩,?_,?_⟩
   ·intro k sk hk v G i4
    have e9:k < l.length:=(l1b.1 G).1
    have v : Sd k := by rcases v with h | h; · exact h
                        ·omega
    obtain ⟨u1,u2⟩:=Inv.unord C I hs hnj hpre e9 (by omega) (.inl ⟨v,by omega⟩)
    obtain ⟨oj,i9,_⟩:=C.tab.op j s hs
    obtain ⟨ok,j0,_⟩:=C.tab.op k sk G
    exact ((C.tab.two (by omega) (by omega) (by omega) u1 u2 j0 i9 G hs).1 x i4).2 hd
   ·rw [g8,u0K,k1B ⟨hd,by rw [C.tlen (by omega)];exact hx⟩]
    have e1:(a.put s.dst v').tmps.getD x undef=v':=by
     rw [hd]
     simp only [Act.put]
     rw [a0V]
     simp only [Array.toList_setIfInBounds,k1v,l1g]
     rw [k1B (by simp)]
     have:x < a.tmps.size:=by have:=I.tlen;omega
     simp [this]
    rw [e1]
    exact hv.mo d9 (fun _ _ h=>h)
  ·have f2:d5 x=θ x:=k1y hd
   rw [f2]
   obtain ⟨O,h2,J,h4⟩:=I.T x hx
   refine ⟨O,?_,?_,?_⟩
   ·rcases h2 with h2 | ⟨k,sk,h5,h6,h7⟩
    ·exact .inl h2
    ·exact .inr ⟨k,sk,h5,.inl h6,h7⟩
   ·intro k sk hk v G
    rcases v with h | h
    ·exact J k sk hk h G
    ·subst h;rw [hs] at G;cases G;exact hd
   ·have e1:(a.put s.dst v').tmps.getD x undef=a.tmps.getD x undef:=by
     cases hsd:s.dst with
     | none=>rfl
     | some d =>
      have i5:d ≠ x:=fun e=>hd (by rw [hsd,e])
      simp only [Act.put]
      rw [a0V,a0V]
      simp only [Array.toList_setIfInBounds,k1v,l1g]
      rw [k1y i5]
    rw [e1]
    exact h4.mo (j0z (k1x _) (fun b y _ h=>fA b y h)) H.shp
 ·-- which blocks there are
  intro b y hb
  by_cases hc:(R.Hh j).size<=b/\b < (R.Hh (j + 1)).size
  ·exact .inr ⟨j,hj,.inr rfl,hc.1,hc.2⟩
  ·rcases I.D b y (a1 b y hb hc) with h | ⟨k,O,h2,J⟩
   ·exact .inl h
   ·exact .inr ⟨k,O,.inl h2,J⟩
 ·-- rows
  intro b B U hb
  by_cases hc:ch b
  ·rw [a3 b hc]
   have N:b < (R.Hh (j + 1)).size:=by rcases hc with h | h <;> omega
   refine ⟨by omega,N,.inr ⟨j,rfl,hj,.inr rfl,?_⟩,d3 b hc (by rw [hb];simp),?_⟩
   ·rcases hc with h | h
    ·exact .inl h.1
    ·exact .inr h.2
   ·intro ro e cs q
    have hG:=M b N (.inl hc) (by rw [hb];simp)
    rw [a3 b hc] at hG
    obtain ⟨c,el,fz,k1,k2,k3,k4⟩:=H.rel.row b B U ro e cs (fC b _ hb N) (by rw [hG];exact q)
    exact ⟨c,el,fz,k1,k2,k3.mo d9 (fun _ _ h=>h),k4⟩
  ·rw [L b hc]
   have f0:¬ ((R.Hh j).size<=b/\b < (R.Hh (j + 1)).size):=fun h=>hc (.inl h)
   have f7:=a1 b _ hb f0
   obtain ⟨O,h2,J,h4,h5⟩:=I.Rr b B U f7
   refine ⟨O,h2,?_,?_,?_⟩
   ·rcases J with J | ⟨k,h6,h7,h8,h9⟩
    ·exact .inl J
    ·exact .inr ⟨k,h6,h7,.inl h8,h9⟩
   ·intro k hk e9 v
    rcases v with h | h
    ·exact h4 k hk e9 h
    ·subst h
     by_cases g9:b < (R.Hh k).size
     ·exact l1t fun h=>hc (.inr ⟨g9,h⟩)
     ·rw [a0 (by omega),a0 (by omega)]
   ·intro ro e cs q
    have e6:=h5 ro e cs q
    have b4:b < (R.Hh j).size ∨ (R.Hh (j + 1)).size<=b:=by omega
    by_cases hg:b < (R.Hh j).size/\A0v R κ j b
    ·-- in the state that ran
     have hG:=M b (by omega) (.inr hg.2) (by rw [hb];simp)
     rw [L b hc] at hG
     obtain ⟨c,el,fz,k1,k2,k3,k4⟩:=H.rel.row b B U ro e cs (fC b _ hb (by omega)) (by rw [hG];exact q)
     obtain ⟨c0,j7,j8,q1,q2,q3,q4⟩:=e6
     have g0:=CR.cut (m:=(R.Hh (κ b)).size) (fun b y h=>(b0A.1 h).1) q3 k3
     exact ⟨c,el,fz,k1,k2,g0.mo (j0z (k1x _) (fun b y _ h=>(fB b y h).2)) (fun _ _ h=>h),k4⟩
    ·have d2:(R.Hh (j + 1)).size<=b ∨ ¬ A0v R κ j b:=by
      by_cases h:(R.Hh (j + 1)).size<=b
      ·exact .inl h
      ·exact .inr fun i6=>hg ⟨by omega,i6⟩
     exact e6.mo (j0z (k1x _) (fun b y _ h=>fA b y h)) H.shp (f5 b B U ro e cs f7 q d2 b4)
 ·-- apart
  intro b F B U o2 e cs hb b9 a2 q
  let d7:Nat->Prop:=fun b=>b < (R.Hh (j + 1)).size/\(ch b ∨ A0v R κ j b)
  have d4:∀ b y,φ' b=some y->¬ d7 b->¬ ch b/\φ b=some y/\(b < (R.Hh j).size ∨ (R.Hh (j + 1)).size<=b)/\((R.Hh (j + 1)).size<=b ∨ ¬ A0v R κ j b):=by
   intro b y hb c7
   have O:¬ ch b:=fun hc=>c7 ⟨by rcases hc with h | h <;> omega,.inl hc⟩
   have f0:¬ ((R.Hh j).size<=b/\b < (R.Hh (j + 1)).size):=fun h=>O (.inl h)
   refine ⟨O,a1 b y hb f0,by omega,?_⟩
   by_cases h:(R.Hh (j + 1)).size<=b
   ·exact .inl h
   ·exact .inr fun hg=>c7 ⟨by omega,.inr hg⟩
  have a8:∀ (x:Blk),(∀ ro e cs,x ≠ .row ro e cs)->x=.dead:=fun x h=>by cases x with | dead=>rfl | row ro e cs=>exact k1Q rfl (h ro e cs)
  by_cases i1:d7 b
  ·have hG:=M b i1.1 i1.2 (by rw [hb];simp)
   have Z:=fC b _ hb i1.1
   by_cases i2:d7 F
   ·have d6:=M F i2.1 i2.2 (by rw [b9];simp)
    rw [<- d6]
    exact H.rel.sep b F B U o2 e cs Z (fC F _ b9 i2.1) a2 (by rw [hG];exact q)
   ·obtain ⟨n1,n2,n3,n4⟩:=d4 F _ b9 i2
    rw [L F n1]
    apply a8
    intro f4 e2 b8 a6
    have j5:=((I.Rr F B o2 n2).2.2.2.2 f4 e2 b8 a6).lt
    -- who owned the block before
    have f3:∃ b0 o0 e0 u,cut φ (R.Hh j).size b0=some (B,o0)/\(p0e R φ κ j).bk b0=.row false e0 u:=by
     cases hc0:cut φ (R.Hh j).size b with
     | some z =>
      have:=H.ext b z hc0
      rw [Z] at this;cases this
      obtain ⟨u,h0⟩:=H.kind b e cs (c6.lt b _ hc0) (by rw [hG];exact q)
      exact ⟨b,U,e,u,hc0,h0⟩
     | none =>
      rcases H.newB b B U Z hc0 with h | ⟨b0,o0,e0,u,O,_,h2⟩
      ·omega
      ·exact ⟨b0,o0,e0,u,O,h2⟩
    obtain ⟨b0,o0,e0,u,q1,q2⟩:=f3
    obtain ⟨q3,q4⟩:=b0A.1 q1
    obtain ⟨q5,q6⟩:=e0W q4 q2
    have d1:b0 ≠ F:=by
     intro e;subst e
     rcases n4 with h | h
     ·omega
     ·exact h q5
    have:=I.P b0 F B o0 o2 e0 u q4 n2 d1 (by rw [<- q5.2];exact q6)
    rw [this] at a6;cases a6
  ·obtain ⟨n1,n2,n3,n4⟩:=d4 b _ hb i1
   rw [L b n1] at q
   by_cases i2:d7 F
   ·have d6:=M F i2.1 i2.2 (by rw [b9];simp)
    have e3:=fC F _ b9 i2.1
    have j6:=((I.Rr b B U n2).2.2.2.2 false e cs q).lt
    cases hc0:cut φ (R.Hh j).size F with
    | none =>
     rcases H.newB F B o2 e3 hc0 with h | ⟨b0,o0,e0,u,O,_,h2⟩
     ·omega
     ·exfalso
      obtain ⟨q3,q4⟩:=b0A.1 O
      obtain ⟨q5,q6⟩:=e0W q4 h2
      have d1:b0 ≠ b:=by
       intro e;subst e
       rcases n4 with h | h
       ·omega
       ·exact h q5
      have:=I.P b0 b B o0 U e0 u q4 n2 d1 (by rw [<- q5.2];exact q6)
      rw [this] at q;cases q
    | some z =>
     have hz:=H.ext F z hc0
     rw [e3] at hz;cases hz
     obtain ⟨q3,q4⟩:=b0A.1 hc0
     have a5:=I.P b F B U o2 e cs n2 q4 a2 q
     by_cases hc:ch F
     ·rw [a3 F hc]
      rw [a3 F hc] at d6
      apply a8
      intro f4 e2 b8 a6
      have i0 : (R.Hh (j + 1)).bk F ≠ (R.Hh j).bk F := by rcases hc with h | h; · omega
                                                          ·exact h.2
      cases f4 with
      | false =>
       obtain ⟨u,h0⟩:=H.kind F e2 b8 (by rw [e0F];exact q3) (by rw [d6];exact a6)
       obtain ⟨q5,q6⟩:=e0W q4 h0
       rw [<- q5.2,q6] at a5;cases a5
      | true =>
       have:=g6.kindR F e2 b8 q3 a6
       exact i0 (by rw [a6,this])
     ·rw [L F hc];exact a5
   ·obtain ⟨m1,m2,m3,m4⟩:=d4 F _ b9 i2
    rw [L F m1]
    exact I.P b F B U o2 e cs n2 m2 a2 q
 ·-- what has been written leads to what is known
  intro k sk G v i8 b hb
  rcases v with h | h
  ·have:=I.W k sk G h i8 b hb
   cases hφb:φ b with
   | none=>exact k1Q hφb this
   | some y=>rw [fA b y hφb];simp
  ·subst h
   have:=hW b hb
   cases hφb:φ b with
   | none=>exact k1Q hφb this
   | some y=>rw [fA b y hφb];simp
 ·-- held against the beginning
  have g:=I.glob
  refine
   { ext := fun b x h => fA b x (g.ext b x h)
     shp:=fun B x h=>H.shp B x (g.shp B x h)
     wsz:=k1H g.wsz H.wsz
     os:=H.os.trans g.os
     tape:=H.tape.trans g.tape
     out:=H.out.trans g.out
     fresh:=fun b y hb hn=>by
      by_cases hc:(R.Hh j).size<=b/\b < (R.Hh (j + 1)).size
      ·exact k1H (C.szmono (l1D _) (by omega)) hc.1
      ·exact g.fresh b y (a1 b y hb hc) hn
     newB:=?_
     frame:=?_ }
  ·intro b B U hb hn
   have d8:∀ b0 o0 e0 u,φ b0=some (B,o0)->b0 < (R.Hh j).size->fl<=b0->(R.Hh j).bk b0=.row false e0 u->w0.heap.size<=B ∨ ∃ b0 o0 e cs,φ0 b0=some (B,o0)/\fl<=b0/\(R.Hh 0).bk b0=.row false e cs:=by
    intro b0 o0 e0 u O h2 J h4
    cases h5:φ0 b0 with
    | none=>exact g.newB b0 B o0 O h5
    | some z =>
     have:=g.ext b0 z h5
     rw [O] at this;cases this
     have d0:b0 < (R.Hh 0).size:=by
      by_cases h:b0 < (R.Hh 0).size
      ·exact h
      ·exfalso
       -- known from the beginning, so it was there
       have:=e7 b0 _ h5;omega
     obtain ⟨c9,h6⟩:=(C.keep0 (by omega:j<=l.length)).2.kind b0 e0 u d0 h4
     exact .inr ⟨b0,o0,e0,c9,h5,J,h6⟩
   by_cases hc:(R.Hh j).size<=b/\b < (R.Hh (j + 1)).size
   ·have Z:=fC b _ hb hc.2
    have i3:cut φ (R.Hh j).size b=none:=by unfold cut;rw [k1y (by omega)]
    rcases H.newB b B U Z i3 with h | ⟨b0,o0,e0,u,O,h2,J⟩
    ·exact .inl (k1H g.wsz h)
    ·obtain ⟨q3,q4⟩:=b0A.1 O
     obtain ⟨q5,q6⟩:=e0W q4 J
     exact d8 b0 o0 e0 u q4 q3 h2 q6
   ·exact g.newB b B U (a1 b _ hb hc) hn
  ·intro B hB c7
   rw [H.frame B (k1P hB g.wsz) ?_,g.frame B hB c7]
   intro b1 o2 e1 c9 Z e4 a7
   obtain ⟨q3,q4⟩:=b0A.1 Z
   obtain ⟨q5,q6⟩:=e0W q4 a7
   cases h5:φ0 b1 with
   | none =>
    rcases g.newB b1 B o2 q4 h5 with h | ⟨b0,o0,e0,u,O,h2,J⟩
    ·omega
    ·exact c7 b0 o0 e0 u O h2 J
   | some z =>
    have:=g.ext b1 z h5
    rw [q4] at this;cases this
    have d0:b1 < (R.Hh 0).size:=e7 b1 _ h5
    obtain ⟨b8,h6⟩:=(C.keep0 (by omega:j<=l.length)).2.kind b1 e1 c9 d0 q6
    exact c7 b1 o2 e1 b8 h5 e4 h6
end
section
variable {X:Cx} {call:Nat->FuncId->List Value->a0f->Res (Value × a0f)} {fl:Nat} {ops:Array Oper} {l:List a0J} {bef:List Nat} {pairs:List (Nat × Nat)} {R:Run} (C:Ctx X call fl ops l bef pairs R)
variable {φ0 φ:Inj} {w0 w w':World} {Sd:Nat->Prop} {κ θ:Nat->Nat} {a:Act} (I:Inv X fl ops l bef R φ0 w0 Sd φ κ θ a w)
include C I
theorem Inv.final (q:∀ k,k < l.length->Sd k) (a0:∀ b y,φ0 b=some y->b < (R.Hh 0).size) :
  CR X φ w.shape? (R.T l.length) a.tmps.toList/\d0v X fl φ0 (R.Hh 0) w0 φ (R.Hh l.length) w/\R.Pn l.length=none:=by
 have j:∀ b y,φ b=some y->(R.Hh l.length).bk b=(R.Hh (κ b)).bk b:=by
  intro b y hb
  obtain ⟨B,F⟩:=y
  obtain ⟨u,L,h3,M,h5⟩:=I.Rr b B F hb
  have:∀ m,κ b<=m->m<=l.length->(R.Hh m).bk b=(R.Hh (κ b)).bk b:=by
   intro m hm
   induction m with
   | zero=>intro _;congr 2;omega
   | succ m ih =>
    intro O
    by_cases hc:κ b=m + 1
    ·rw [hc]
    ·rw [<- ih (by omega) (by omega)]
     exact M m (by omega) (by omega) (q m (by omega))
  exact this _ u (k1x _)
 have H:∀ b y,φ b=some y->b < (R.Hh l.length).size:=by
  intro b y hb
  obtain ⟨B,F⟩:=y
  obtain ⟨u,L,_⟩:=I.Rr b B F hb
  exact k1P L (C.szmono u (k1x _))
 have g:=I.glob
 refine ⟨⟨?_,?_⟩,?_,?_⟩
 ·rw [C.tlen (k1x _)];simp [I.tlen]
 ·intro x hx
  rw [C.tlen (k1x _)] at hx
  obtain ⟨u,L,h3,M⟩:=I.T x hx
  have:∀ m,θ x<=m->m<=l.length->get (R.T m) x=get (R.T (θ x)) x:=by
   intro m hm
   induction m with
   | zero=>intro _;congr 2;omega
   | succ m ih =>
    intro O
    by_cases hc:θ x=m + 1
    ·rw [hc]
    ·rw [<- ih (by omega) (by omega)]
     apply l1t
     intro z
     obtain ⟨sm,J⟩:=C.sAt (by omega:m < l.length)
     exact h3 m sm (by omega) (q m (by omega)) J (C.slot J z).2
  have Z:=this _ u (k1x _)
  simp only [get] at Z M
  rw [Z,<- a0V a.tmps]
  exact M.mo (fun b y h=>(b0A.1 h).2) (fun _ _ h=>h)
 ·have N:=(C.keep0 (k1x _)).2
  refine
   { ext := g.ext
     rel:=?_
     shp:=g.shp
     wsz:=g.wsz
     os:=g.os
     tape:=g.tape
     out:=g.out
     hsz:=N.size
     keep:=fun b hb=>N.low b hb
     kind:=fun b e cs hb h=>N.kind b e cs hb h
     fresh:=g.fresh
     newB:=g.newB
     frame:=g.frame }
  refine { bs:=I.base,lt:=fun b x h=>H b x h,row:=?_,sep:=?_ }
  ·intro b B F ro e cs hb s
   obtain ⟨c,el,fz,k1,k2,k3,k4⟩:=(I.Rr b B F hb).2.2.2.2 ro e cs (by rw [<- j b _ hb];exact s)
   exact ⟨c,el,fz,k1,k2,k3.mo (fun b y h=>(b0A.1 h).2) (fun _ _ h=>h),k4⟩
  ·intro b U B F o2 e cs hb G z s
   rw [j U _ G]
   exact I.P b U B F o2 e cs hb G z (by rw [<- j b _ hb];exact s)
 ·cases hp:R.Pn l.length with
  | none=>rfl
  | some pv =>
   obtain ⟨p,v⟩:=pv
   obtain ⟨u,L⟩:=C.pan (k1x _) p v hp
   have:=I.done p u (q p u)
   omega
theorem Inv.panned {j:Nat} {s:a0J} (hs:l[j]? = some s) (hnj:¬ Sd j) (hpre:∀ i,b0w bef i j=true->Sd i) (v:∀ b y,φ0 b=some y->b < (R.Hh 0).size)
  (hp:Pan X fl (cut φ (R.Hh j).size) (p0e R φ κ j) w w'):Pan X fl φ0 (R.Hh 0) w0 w':=by
 have hj:j < l.length:=(l1b.1 hs).1
 have g:=I.glob
 refine { shp:=fun B x h=>hp.shp B x (g.shp B x h),wsz:=k1H g.wsz hp.wsz,os:=hp.os.trans g.os,tape:=hp.tape.trans g.tape,out:=hp.out.trans g.out,frame:=?_ }
 intro B hB e
 rw [hp.frame B (k1P hB g.wsz) ?_,g.frame B hB e]
 intro c N M G J q k
 obtain ⟨q3,L⟩:=b0A.1 J
 obtain ⟨q5,q6⟩:=e0W L k
 cases h5:φ0 c with
 | none =>
  rcases g.newB c B N L h5 with h | ⟨b0,o0,O,F,U,Z,h3⟩
  ·omega
  ·exact e b0 o0 O F U Z h3
 | some z =>
  have:=g.ext c z h5
  rw [L] at this;cases this
  have u:c < (R.Hh 0).size:=v c _ h5
  obtain ⟨H,h6⟩:=(C.keep0 (by omega:j<=l.length)).2.kind c M G u q6
  exact e c N M H h5 q h6
def s0n (us:List Nat) (n:Nat) (f:Nat->Value):List Value:=(List.range n).map fun x=>if x ∈ us then f x else undef
omit C I in
theorem s0o (e:List Nat) (n:Nat) (f:Nat->Value) (x:Nat):(s0n e n f).getD x undef=if x < n/\x ∈ e then f x else undef:=by
 unfold s0n
 simp only [k1v,l1N]
 by_cases c:x < n
 ·rw [m1l c]
  simp [c]
 ·rw [k1G (by simp;omega)]
  simp [c]
theorem Inv.one (Z:∀ b y,φ0 b=some y->b < (R.Hh 0).size) {j:Nat} {s:a0J} {o:Oper} (hs:l[j]? = some s) (ho:ops[j]? = some o) (a2:∃ ln,g0V X.P ops ln o=some s) (hnj:¬ Sd j)
  (hpre:∀ i,b0w bef i j=true->Sd i) {K:Act->World->Prop} {Q:Exit->Act->World->Prop}
  (hK:∀ φ' a1 a0 a' w',Inv X fl ops l bef R φ0 w0 (fun k=>Sd k ∨ k=j) φ' a1 a0 a' w'->K a' w')
  (hQ:R.st j=3->∀ ty u w',Pan X fl φ0 (R.Hh 0) w0 w'->Q (.panic [{ v:=.iface ty u,recovered:=false }]) a w'):wpOp X.P ops Q j K a w:=by
 have hj:j < l.length:=(l1b.1 hs).1
 obtain ⟨ln,a2⟩:=a2
 obtain ⟨a7,z,a8⟩:=e0o a2
 have O:=fun {x:Nat}=>Inv.slot C I hs ho hnj hpre (x:=x)
 have N:=Inv.rel C I hs hnj hpre
 have c1:=C.tlen (show j<=l.length by omega)
 -- a5 guard
 have a9:Region.wanted o (yielded ops a.tmps)=b0k (R.T j) s.g:=by
  refine n0W (φ:=cut φ (R.Hh j).size) (S:=w.shape?) (X:=X) a2 ?_
  intro d d0 hg
  by_cases hd:d < (R.T 0).length
  ·exact O hd (by simp [i0E,hg])
  ·have e1:get (R.T j) d=undef:=by
    unfold get;rw [k1v,k1G (by omega)];rfl
   have e2:a.tmps.getD d undef=undef:=by
    have:=I.tlen
    rw [k1I,m1z (by omega)];rfl
   rw [e1,e2];exact VR.undef
 unfold wpOp
 simp only [ho]
 rw [a9]
 -- a5 frame with a5 c7 c9 b9 c0
 have a3:CR X (cut φ (R.Hh j).size) w.shape? (s0n (i0E o s) (R.T 0).length (fun x=>get (R.T j) x)) (s0n (i0E o s) (R.T 0).length (fun x=>a.tmps.getD x undef)):=by
  unfold s0n
  refine CR.of_mem_map _ _ _ ?_
  intro x U
  have U:=l1G.1 U
  split
  ·rename_i hu;exact O U hu
  ·exact VR.undef
 let J:b0c:=s0n (i0E o s) (R.T 0).length (fun x=>get (R.T j) x)
 let aj:Act:={ tmps:=(s0n (i0E o s) (R.T 0).length (fun x=>a.tmps.getD x undef)).toArray,defers:=a.defers }
 have q:CR X (cut φ (R.Hh j).size) w.shape? J aj.tmps.toList:=by simpa [aj] using a3
 have H:∀ x ∈ a0B s.op,ev J x=ev (R.T j) x:=by
  intro x U
  cases x with
  | tmp d =>
   simp only [ev,get,J,s0o]
   have hu:d ∈ i0E o s:=by
    unfold i0E
    simp only [k1T,List.mem_filterMap]
    exact .inl (.inl ⟨.tmp d,U,rfl⟩)
   by_cases hd:d < (R.T 0).length
   ·rw [k1B ⟨hd,hu⟩]
   ·rw [k1y (fun h=>hd h.1),k1v,k1G (by omega)];rfl
  | const v=>rfl
  | fn f=>rfl
 have L:execOp a.eval o=execOp aj.eval o:=by
  refine execOp_congr o (fun cs b=>C.tab.nosel j o cs b ho) ?_
  intro x U
  cases x with
  | tmp d =>
   have hu:d ∈ i0E o s:=by
    unfold i0E
    simp only [k1T,List.mem_filterMap]
    exact .inr ⟨.tmp d,by simpa using U,rfl⟩
   simp only [Act.eval,aj]
   rw [a0V (s0n _ _ _).toArray]
   simp only [List.toList_toArray,s0o]
   by_cases hd:d < (R.T 0).length
   ·rw [k1B ⟨hd,hu⟩]
   ·have c4:a.tmps.size<=d:=by rw [I.tlen];exact Nat.le_of_not_lt hd
    rw [k1y (fun h=>hd h.1),k1I,m1z c4];rfl
  | const v=>rfl
  | func f=>rfl
  | global g=>rfl
 have M:fl<=(p0e R φ κ j).size:=by rw [e0F];exact (C.keep0 (by omega:j<=l.length)).1
 -- what a5 operation comes to, in a5 masked state
 have c:way s.op=3->p0e R φ κ j=R.Hh j:=by
  intro hw
  apply Array.ext
  ·exact e0F _ _ _ _
  ·intro i h1 h2
   have hb:(p0e R φ κ j).bk i=(R.Hh j).bk i:=by
    rw [j0J]
    split
    ·rename_i hc
     exfalso
     cases hφi:φ i with
     | none=>exact hc.1 hφi
     | some y=>exact hc.2 (Inv.good C I hs hnj hpre hφi h2 (by omega) (.inl hw))
    ·rfl
   simpa [a0f.bk,k1I,l1h h1,l1h h2] using hb
 rcases C.run j s hs with h | h | h | h
 ·-- it h0r on what has panicked: it is never come to
  exfalso
  have hh:=h.2.1
  cases hp:R.Pn j with
  | none=>rw [hp] at hh;cases hh
  | some pv =>
   obtain ⟨p,v⟩:=pv
   rw [hp] at hh
   have hS:=hpre p hh
   obtain ⟨h1,h2⟩:=C.pan (by omega:j<=l.length) p v hp
   have:=I.done p (by omega) hS
   omega
 ·-- not wanted
  rw [h.2.2.1]
  simp only [k1W,l1y]
  have:=Inv.after C I hs hnj hpre (v':=undef) (.inl h.1) (by rw [h.2.2.2.1];exact h.2.2.2.2.1) (by rw [h.2.2.2.2.2.1];exact Par.refl (e0F _ _ _ _)) (by rw [h.2.2.2.1];exact VR.undef) (d0v.refl N)
   (by intro b hb;rw [h.2.2.2.2.2.2.2] at hb;simp at hb) Z
  obtain ⟨φ',a1,a0,hI⟩:=this
  rw [<- a8]
  exact hK φ' a1 a0 _ _ hI
 ·rw [h.2.2.1]
  simp only [l1o]
  refine .inl ?_
  have c6:∀ b,b ∈ (R.tc j).1 ∨ b ∈ (R.tc j).2->way s.op ≠ 0:=by
   intro b hb
   rw [h.2.2.2.2.2.2] at hb
   rcases hb with hb | hb
   ·rcases A0s hb with h | h <;> omega
   ·have:=p0Y hb;omega
  have F:∃ G1,b0E call fl J (p0e R φ κ j) s.op=.ok (R.val j,G1)/\Par (R.Hh j) (R.Hh (j + 1)) (p0e R φ κ j) G1:=by
   rcases j0o h.2.2.2.1 with hv | ⟨f,args,lone,hc,c3⟩
   ·obtain ⟨G1,g1,g2⟩:=C0n hv (e0F R φ κ j) (fun b hb=>by
     rw [j0J]
     split
     ·rename_i a6
      rw [<- h.2.2.2.2.2.2] at hb
      by_cases c5:b < (R.Hh j).size
      ·exfalso
       cases hφb:φ b with
       | none=>exact a6.1 hφb
       | some y=>exact a6.2 (Inv.good C I hs hnj hpre hφb c5 (c6 b hb) (.inr hb))
      ·exact (i0I (by omega)).symm
     ·rfl)
    refine ⟨G1,?_,g2⟩
    unfold b0E
    rw [j0O H,g1]
   ·have hm:=c (f0A hc).1
    refine ⟨R.Hh (j + 1),?_,?_⟩
    ·unfold b0E
     rw [j0O H,i0M hc fl (p0e R φ κ j),hm]
     exact c3
    ·rw [hm];exact ⟨rfl,fun _ _ e=>e,fun _ _ _=>rfl,fun _ _=>rfl⟩
  obtain ⟨G1,b4,b1⟩:=F
  refine l0V (o:=o) C.callOk a7 z N q M b4 a L (fun d2 v' w' hv hS=>?_)
  have hW:∀ b,b ∈ (R.tc j).2->φ b ≠ none:=by
   intro b hb
   rw [h.2.2.2.2.2.2,<- w0z H] at hb
   -- its operand leads there
   have b8:∀ x ∈ a0B s.op,(b ∈ blkW (ev J x) ∨ ∃ p,ev J x=.pointer (some p)/\b=p.block)->φ b ≠ none:=by
    intro x U G
    have a4:∃ u,VR X (cut φ (R.Hh j).size) w.shape? (ev J x) u:=by
     cases x with
     | tmp d=>exact ⟨_,by simpa [ev,get] using q.get d⟩
     | const v =>
      have:=l1a.1 z _ U
      exact ⟨v,m0B this⟩
     | fn f=>exact ⟨_,.func _ _ _ _ _ rfl (fun i hi=>by simp at hi) rfl (fun i hi=>by simp at hi)⟩
    obtain ⟨u,a4⟩:=a4
    generalize ev J x=vv at a4 G
    cases a4 <;> simp [blkW] at G
    ·rename_i B o1 g1 g2 g3;subst G;rw [(b0A.1 g2).2];simp
    ·rename_i B o1 g1 g2 _ _ _ _ _ _;obtain ⟨_,G⟩:=G;subst G;rw [(b0A.1 g2).2];simp
   cases hop:s.op <;> rw [hop] at hb <;> simp only [d0m] at hb
   case store n x y =>
    have c8:=hop
    have c2:∃ p,ev J x=.pointer (some p):=by
     have h3:=h.2.2.2.1
     have U:ev J x=ev (R.T j) x:=H x (by rw [hop];simp [a0B])
     rw [U]
     rw [hop] at h3
     simp only [b0E,opA] at h3
     cases hq:ev (R.T j) x <;> simp [hq] at h3
     rename_i p;cases p <;> simp at h3
     exact ⟨_,rfl⟩
    obtain ⟨p,hp⟩:=c2
    rw [hp] at hb
    simp only [blkOf,m1j] at hb
    exact b8 x (by rw [hop];simp [a0B]) (.inr ⟨p,hp,hb⟩)
   case app e n bb x y=>exact b8 x (by rw [hop];simp [a0B]) (.inl hb)
   all_goals (simp at hb)
  obtain ⟨φ',a1,a0,hI⟩:=Inv.after C I hs hnj hpre (.inr h.1) h.2.2.2.2.1 b1 hv hS hW Z
  rw [<- a8]
  exact hK φ' a1 a0 _ _ hI
 ·-- it panics
  rw [h.2.2.1]
  simp only [l1o]
  refine .inl ?_
  have F:b0E call fl J (p0e R φ κ j) s.op=.pan (R.val j):=by
   have hp:=h.2.2.2.1
   unfold b0E at hp ⊢
   split at hp
   ·cases hp
   ·rename_i v1 hv
    simp only [Res.pan.injEq] at hp;subst hp
    obtain ⟨_,x,b5,d1⟩:=g0s hv
    have:opA fl J (p0e R φ κ j) s.op=.pan (R.val j):=by
     rw [j0O H,b5]
     rw [b5] at hv
     simpa [opA] using hv
    rw [this]
   ·cases hp
   ·rename_i f args lone hc
    have hm:=c (f0A hc).1
    rw [j0O H,i0M hc fl (p0e R φ κ j),hm]
    exact hp
  refine t0V (o:=o) C.callOk a7 z N q M F a L (fun ty u w' hp=>hQ h.1 ty u w' (Inv.panned C I hs hnj hpre Z hp))
end
section
variable {X:Cx} {call:Nat->FuncId->List Value->a0f->Res (Value × a0f)}
def left (listed:Array Bool) (n:Nat):Nat:=((List.range n).filter fun k=>!listed.getD k false).length
theorem C0a {c:Array Bool} {n:Nat} (h:left c n=0):∀ k,k < n->c.getD k false=true:=by
 intro k e
 unfold left at h
 have:=k1U.1 h
 rw [List.filter_eq_nil_iff] at this
 have:=this k (l1G.2 e)
 simpa using this
theorem L0J {c:Array Bool} {n j:Nat} (u:j < n) (hsz:c.size=n) (v:c.getD j false=false):left c n=left (c.setIfInBounds j true) n + 1:=by
 unfold left
 have s:∀ m,m<=n->((List.range m).filter fun k=>!c.getD k false).length=((List.range m).filter fun k=>!(c.setIfInBounds j true).getD k false).length + if j < m then 1 else 0:=by
  intro m
  induction m with
  | zero=>intro _;simp
  | succ m q =>
   intro x
   have q:=q (by omega)
   rw [List.range_succ,List.filter_append,List.filter_append,k1S,k1S,q]
   by_cases e:j=m
   ·subst e
    have h:(c.setIfInBounds j true).getD j false=true:=by
     simp only [k1I,l1f]
     simp [show j < c.size by omega]
    simp only [List.filter_cons,List.filter_nil,v,h]
    simp
   ·have h:(c.setIfInBounds j true).getD m false=c.getD m false:=getD_set_ne false e
    simp only [List.filter_cons,List.filter_nil,h]
    have:(j < m + 1) <-> (j < m):=by omega
    simp only [this]
    omega
 have:=s n (k1x _)
 rw [k1B u] at this
 exact this
theorem N0A {c:Array Bool} {n j:Nat} (q:j < n) (hsz:c.size=n) (k:Nat):(c.setIfInBounds j true).getD k false=true <-> c.getD k false=true ∨ k=j:=by
 by_cases h:k=j
 ·subst h
  simp only [k1I,l1f]
  simp [show k < c.size by omega]
 ·rw [getD_set_ne false (fun e=>h e.symm)]
  simp [h]
theorem B0i (hcall:e0l X call) (a2:h0U call) (a6:X.P.follows .mixedOrders=true):s0a X call:=by
 intro ops l bef pairs hc D fl t H φ w a hR hT b9 hd c2 id
 have tab:=N0I hc
 obtain ⟨R0,s1,s2,s3,s4,s5,s6⟩:=V0Z l 0 t H none [] c2
 obtain ⟨R,rD,r1,r2,r3,r4,r5,r6⟩:∃ R:Run,R.ds=D/\R.T 0=t/\R.Hh 0=H/\R.Pn 0=none/\(∀ m s,l[m]? = some s->j0t call fl bef R (0 + m) s)/\d0a (([]:List (List Nat × List Nat)).reverse ++ (List.range' 0 l.length).map R.tc) pairs=true /\
   b0V call fl bef pairs 0 l t H none []=match R.Pn (0 + l.length) with | none=>.fin .normal (R.T (0 + l.length)) (R.Hh (0 + l.length)) | some (_,v)=>.pan v :=
  ⟨{ R0 with ds:=D },rfl,s1,s2,s3,s4,s5,s6⟩
 simp only [l1e] at r4 r6
 have C:Ctx X call fl ops l bef pairs R:=⟨hcall,a2,tab,r4,by simpa using r5,r3,by rw [r2];exact b9⟩
 have L:∀ b y,φ b=some y->b < (R.Hh 0).size:=fun b y h=>by rw [r2];exact hR.lt b y h
 have c9:=tab.len
 rw [r6]
 -- what a panic makes of the end
 have a3:∀ j,j < l.length->R.st j=3->∃ v,R.Pn l.length=some (j,v):=by
  intro j hj h3
  obtain ⟨s,hs⟩:=C.sAt hj
  have c4:R.Pn (j + 1)=some (j,R.val j):=by
   rcases C.run j s hs with h | h | h | h
   ·have:=h.1;omega
   ·have:=h.1;omega
   ·have:=h.1;omega
   ·exact h.2.2.2.2.2.1
  have:∀ m,j + 1<=m->m<=l.length->R.Pn m=some (j,R.val j):=by
   intro m hm
   induction m with
   | zero=>omega
   | succ m ih =>
    intro d0
    by_cases c0:j=m
    ·subst c0;exact c4
    ·have ih:=ih (by omega) (by omega)
     obtain ⟨sm,c5⟩:=C.sAt (by omega:m < l.length)
     rcases C.run m sm c5 with h | h | h | h
     ·rw [h.2.2.2.2.1];exact ih
     ·rw [h.2.2.2.2.2.2.1];exact ih
     ·rw [h.2.2.2.2.2.1];exact ih
     ·rw [ih] at h;have:=h.2.2.2.2.1;cases this
  exact ⟨_,this _ (by omega) (k1x _)⟩
 refine wp_region_any a6 ?_
 -- from whatever has run
 have c6:∀ (F:Nat) (q:Array Bool) (O:Inj) (κ θ:Nat->Nat) (a1:Act) (w1:World),q.size=ops.size->left q ops.size=F ->
   Inv X fl ops l bef R φ w.drew (fun k=>q.getD k false=true) O κ θ a1 w1 ->
   wpAny X.P .any ops (K0F X D fl φ H w (match R.Pn l.length with | none=>.fin .normal (R.T l.length) (R.Hh l.length) | some (_,v)=>.pan v)) F q a1 w1:=by
  intro F
  induction F with
  | zero =>
   intro q O κ θ a1 w1 hsz N I
   have U:=C0a N
   obtain ⟨f1,f2,f3⟩:=Inv.final C I (fun k G=>U k (by omega)) L
   refine ⟨?_,?_⟩
   ·unfold Region.ready
    rw [List.filter_eq_nil_iff]
    intro k G
    have G:=l1G.1 G
    have:=U k G
    have e:q.getD k true=true:=by
     simp only [k1I] at this ⊢
     rw [l1h (by omega)] at this ⊢
     simpa using this
    simp [e]
   ·rw [f3]
    refine ⟨rfl,I.defers.trans rD,O,f1,?_⟩
    rw [r2] at f2
    exact { f2 with }
  | succ F ih =>
   intro q O κ θ a1 w1 hsz N I
   refine ⟨fun a8=>?_,fun j hj=>?_⟩
   ·-- something is still to run,and the first of it is ready
    exfalso
    have b8:∃ k,k < ops.size/\q.getD k false=false:=by
     apply l1t
     intro c3
     have:left q ops.size=0:=by
      unfold left
      rw [k1U,List.filter_eq_nil_iff]
      intro k G
      have G:=l1G.1 G
      intro hh
      exact c3 ⟨k,G,by simpa using hh⟩
     omega
    obtain ⟨k,G,a5⟩:∃ k,(k < ops.size/\q.getD k false=false)/\∀ m,m < k->q.getD m false=true:=by
     obtain ⟨k0,h1,h2⟩:=b8
     induction k0 using Nat.strongRecOn with
     | _ k0 ih2 =>
      by_cases hm:∃ m,m < k0/\q.getD m false=false
      ·obtain ⟨m,h3,h4⟩:=hm
       exact ih2 m h3 (by omega) h4
      ·refine ⟨k0,⟨h1,h2⟩,fun m c1=>?_⟩
       cases hl:q.getD m false with
       | true=>rfl
       | false=>exact k1Q ⟨m,c1,hl⟩ hm
    have Z:k ∈ Region.ready .any ops q:=by
     unfold Region.ready
     rw [List.mem_filter]
     refine ⟨l1G.2 G.1,?_⟩
     have a9:ops[k]? = some ops[k]:=l1h G.1
     have e:q.getD k true=false:=by
      have:=G.2
      simp only [k1I] at this ⊢
      rw [l1h (by omega)] at this ⊢
      simpa using this
     simp only [e,Bool.not_false,n1A,a9,l1S,l1d]
     rw [Array.all_eq_true']
     intro ed b5
     by_cases hb:Region.binds .any ed=true
     ·have:=tab.back k _ a9 ed (by simpa using b5) hb
      simp [a5 _ this]
     ·simp [hb]
    rw [a8] at Z
    cases Z
   ·obtain ⟨a4,a0,hpre⟩:=tab.ready hj (fun k G hS i hi=>I.down k (by omega) hS i hi)
    have hnj:q.getD j false=false:=by
     simp only [k1I] at a0 ⊢
     rw [l1h (by omega)] at a0 ⊢
     simpa using a0
    obtain ⟨s,hs⟩:=C.sAt (by omega:j < l.length)
    obtain ⟨o,ho,b4⟩:=tab.op j s hs
    refine Inv.one C I L hs ho ⟨_,b4⟩ (by rw [hnj];simp) hpre (fun φ' c8 c7 a' w' hI=>?_) (fun h3 ty u w' hp=>?_)
    ·refine ih _ φ' c8 c7 a' w' (by simp [hsz]) (by have:=L0J a4 hsz hnj;omega) ?_
     have e:(fun k=>(q.setIfInBounds j true).getD k false=true)=(fun k=>q.getD k false=true ∨ k=j):=by
      funext k;exact n1y (N0A a4 hsz k)
     rw [e];exact hI
    ·obtain ⟨v,hv⟩:=a3 j (by omega) h3
     rw [hv]
     refine ⟨⟨ty,u,rfl⟩,I.defers.trans rD,?_⟩
     rw [r2] at hp
     exact { hp with }
 refine c6 ops.size _ φ (fun _=>0) (fun _=>0) a w.drew (by simp) ?_ ?_
 ·unfold left
  have:(List.range ops.size).filter (fun k=>!(Array.replicate ops.size false).getD k false)=List.range ops.size:=by
   rw [List.filter_eq_self]
   intro k G
   have G:=l1G.1 G
   simp [k1I,G]
  rw [this];simp
 ·have z:∀ k,¬ ((Array.replicate ops.size false).getD k false=true):=by
   intro k
   simp only [k1I,Array.getElem?_replicate]
   split <;> simp
  have M:∀ b y,φ b=some y->cut φ (R.Hh 0).size b=some y:=fun b y h=>b0A.2 ⟨L b y h,h⟩
  refine
   { done := fun k _ h => k1Q h (z k)
     down:=fun j _ h=>k1Q h (z j)
     tlen:=?_
     defers:=hd.trans rD.symm
     base:=hR.bs
     T:=?_
     D:=fun b y h=>.inl (L b y h)
     Rr:=?_
     P:=?_
     W:=fun k s _ h=>k1Q h (z k)
     glob:=⟨fun _ _ h=>h,fun _ _ h=>h,k1x _,rfl,rfl,rfl,(fun b y h h'=>by rw [h] at h';cases h'),(fun b B o h h'=>by rw [h] at h';cases h'),fun _ _ _=>rfl⟩ }
  ·rw [r1];have:=hT.1;simp at this;omega
  ·intro x hx
   refine ⟨l1D _,.inl rfl,fun k s _ h=>k1Q h (z k),?_⟩
   have:=hT.get x
   rw [r1,a0V]
   exact this.mo M (fun _ _ h=>h)
  ·intro b B o1 hb
   refine ⟨l1D _,L b _ hb,.inl rfl,fun k _ _ h=>k1Q h (z k),?_⟩
   intro ro e cs J
   rw [r2] at J
   obtain ⟨c,el,fz,k1,k2,k3,k4⟩:=hR.row b B o1 ro e cs hb J
   exact ⟨c,el,fz,k1,k2,k3.mo M (fun _ _ h=>h),k4⟩
  ·intro b b' B o1 o2 e cs hb b1 a7 J
   rw [r2] at J ⊢
   exact hR.sep b b' B o1 o2 e cs hb b1 a7 J
end
section
end
section
variable {X:Cx} {φ φ':Inj} {H H':a0f} {w w':World} {fl:Nat} {t:b0c} {a:Act}
theorem Rel.row_lt (hR:Rel X φ H w) {b B o:Nat} {ro:Bool} {e:TypeId} {cs:List Value} (h:φ b=some (B,o)) (k:H.bk b=.row ro e cs):B < w.heap.size:=by
 obtain ⟨c,q,s,j,_⟩:=hR.row b B o ro e cs h k
 exact (l1j.1 j).1
theorem Rel.agree (hR:Rel X φ H w) (hb:X.base<=w'.heap.size) (k:∀ B x,w.shape? B=some x->w'.shape? B=some x)
  (j:∀ b B o ro e cs,φ b=some (B,o)->H.bk b=.row ro e cs->w'.heap[B]? = w.heap[B]?):Rel X φ H w' :=
 ⟨hb,hR.lt,fun b B o ro e cs q s=>by
  obtain ⟨c,u,v,y,z,F,G⟩:=hR.row b B o ro e cs q s
  exact ⟨c,u,v,by rw [j b B o ro e cs q s];exact y,z,F.mo (fun _ _ h=>h) k,G⟩,hR.sep⟩
def ad (φ:Inj) (n B o:Nat):Inj:=fun b=>if b=n then some (B,o) else φ b
theorem a1i {n B o:Nat}:ad φ n B o n=some (B,o):=by unfold ad;rw [k1B rfl]
theorem w0R (hR:Rel X φ H w) {B o b:Nat} {x:Nat × Nat} (h:φ b=some x):ad φ H.size B o b=some x:=by
 unfold ad;rw [k1y (by have:=hR.lt b x h;omega)];exact h
theorem h0k (hR:Rel X φ H w) {B o b:Nat} {x:Nat × Nat} (h:ad φ H.size B o b=some x):(b=H.size/\x=(B,o)) ∨ (b < H.size/\φ b=some x):=by
 unfold ad at h
 split at h
 ·rename_i hb;exact .inl ⟨hb,by simpa using h.symm⟩
 ·exact .inr ⟨hR.lt b x h,h⟩
theorem Rel.adopt (hR:Rel X φ H w) {B o:Nat} {e:TypeId} {cs:List Value} {c:Array Value} (hB:w.heap[B]? = some (.cells c e (0,0))) (R:o + cs.length<=c.size)
  (hc:CR X φ w.shape? cs ((c.toList.drop o).take cs.length)) (v:X.base<=B) (G:∀ b o ro e' q,φ b=some (B,o)->H.bk b ≠ .row ro e' q):Rel X (ad φ H.size B o) (H.push (.row false e cs)) w:=by
 have k:∀ b x,φ b=some x->ad φ H.size B o b=some x:=fun b x h=>w0R hR h
 have y:∀ b o,φ b=some (B,o)->H.bk b=.dead:=by
  intro b o h
  cases hk:H.bk b with
  | dead=>rfl
  | row ro e' q=>exact k1Q hk (G b o ro e' q h)
 refine ⟨hR.bs,?_,?_,?_⟩
 ·intro b x h
  rw [l1X]
  rcases h0k hR h with ⟨z,_⟩ | ⟨z,_⟩ <;> omega
 ·intro b L J ro M s z j
  rw [a0L] at j
  rcases h0k hR z with ⟨rfl,u⟩ | ⟨u,I⟩
  ·rw [k1B rfl] at j;cases j;cases u
   exact ⟨c,e,(0,0),hB,R,hc.mo k (fun _ _ h=>h),fun _=>⟨v,rfl,rfl⟩,fun h=>by cases h⟩
  ·rw [k1y (by omega)] at j
   obtain ⟨c1,el,fz,g1,g2,g3,g4⟩:=hR.row b L J ro M s I j
   exact ⟨c1,el,fz,g1,g2,g3.mo k (fun _ _ h=>h),g4⟩
 ·intro b U L J o' M s z j F u
  rw [a0L] at u ⊢
  rcases h0k hR z with ⟨rfl,I⟩ | ⟨I,Z⟩
  ·cases I
   rcases h0k hR j with ⟨rfl,_⟩ | ⟨N,O⟩
   ·exact k1Q rfl F
   ·rw [k1y (by omega)];exact y U o' O
  ·rw [k1y (by omega)] at u
   rcases h0k hR j with ⟨rfl,N⟩ | ⟨N,O⟩
   ·cases N;exact k1Q u (G b J _ _ _ Z)
   ·rw [k1y (by omega)];exact hR.sep b U L J o' M s Z O F u
theorem Rel.adopt0 (hR:Rel X φ H w) (B o:Nat):Rel X (ad φ H.size B o) (H.push .dead) w:=by
 have q:∀ b x,φ b=some x->ad φ H.size B o b=some x:=fun b x h=>w0R hR h
 refine ⟨hR.bs,?_,?_,?_⟩
 ·intro b x h
  rw [l1X]
  rcases h0k hR h with ⟨k,_⟩ | ⟨k,_⟩ <;> omega
 ·intro b s z ro u c k e
  rw [a0L] at e
  rcases h0k hR k with ⟨rfl,j⟩ | ⟨j,v⟩
  ·rw [k1B rfl] at e;cases e
  ·rw [k1y (by omega)] at e
   obtain ⟨G,I,J,L,M,N,O⟩:=hR.row b s z ro u c v e
   exact ⟨G,I,J,L,M,N.mo q (fun _ _ h=>h),O⟩
 ·intro b F s z o' u c k e y j
  rw [a0L] at j ⊢
  rcases h0k hR k with ⟨rfl,v⟩ | ⟨v,R⟩
  ·rw [k1B rfl] at j;cases j
  ·rw [k1y (by omega)] at j
   rcases h0k hR e with ⟨rfl,U⟩ | ⟨U,Z⟩
   ·rw [k1B rfl]
   ·rw [k1y (by omega)];exact hR.sep b F s z o' u c R Z y j
theorem VR.back {f0:Nat} (hR:Rel X φ H w) (h:d0v X f0 φ H w φ' H' w') {S S':Shp} {v u e:Value} (k:VR X φ S v u) (k':VR X φ' S' v e):VR X φ S' v e:=by
 refine (VR.cut (m:=H.size) (fun b y hb=>hR.lt b y hb) k k').mo (fun b x j=>?_) (fun _ _ h=>h)
 obtain ⟨q,c⟩:=b0A.1 j
 cases hb:φ b with
 | none=>have:=h.fresh b x c hb;omega
 | some y=>rw [h.ext b y hb] at c;exact c
theorem CR.back {f0:Nat} (hR:Rel X φ H w) (h:d0v X f0 φ H w φ' H' w') {S S':Shp} {l m c:List Value} (k:CR X φ S l m) (k':CR X φ' S' l c):CR X φ S' l c :=
 ⟨k'.1,fun i hi=>VR.back hR h (k.2 i hi) (k'.2 i hi)⟩
theorem d0v.own_new (hR:Rel X φ H w) (h:d0v X H.size φ H w φ' H' w') {b B o:Nat} (hb:φ' b=some (B,o)) (j:φ b=none):w.heap.size<=B:=by
 rcases h.newB b B o hb j with c | ⟨b0,s,e,cs,c,k,q⟩
 ·exact c
 ·have:=hR.lt b0 _ c;omega
theorem d0v.old (hR:Rel X φ H w) (h:d0v X H.size φ H w φ' H' w') {B:Nat} (hB:B < w.heap.size):w'.heap[B]? = w.heap[B]? :=
 h.frame B hB fun b o e cs c j=>by have:=hR.lt b _ c;omega
theorem d0v.rel0 (hR:Rel X φ H w) (h:d0v X H.size φ H w φ' H' w'):Rel X φ H w' :=
 hR.agree (k1H hR.bs h.wsz) h.shp fun b B o ro e cs c j=>h.old hR (hR.row_lt c j)
theorem r0G {call:Nat->FuncId->List Value->a0f->Res (Value × a0f)} (hcall:e0l X call) {ops:Array Oper} {Q:Exit->Act->World->Prop} {rest:List Nat} {t':b0c} {H':a0f} :
  ∀ (r:List a0J) (k:Nat) (t:b0c) (H:a0f) (φ:Inj) (w:World) (a:Act),
  (∀ i s,r[i]? = some s->∃ o,ops[k + i]? = some o/\g0V X.P ops true o=some s)->Rel X φ H w->CR X φ w.shape? t a.tmps.toList->fl<=H.size->f0s call fl r t H=.fin .normal t' H' ->
  (∀ φ' F w',CR X φ' w'.shape? t' F.tmps.toList->d0v X fl φ H w φ' H' w'->F.defers=a.defers->wpOps X.P ops Q rest F w') ->
  wpOps X.P ops Q (List.range' k r.length ++ rest) a w
 | [],k,t,H,φ,w,a,_,hR,hT,_,he,hK=>by
  simp only [f0s,Out.fin.injEq] at he
  obtain ⟨_,rfl,rfl⟩:=he
  exact hK φ a w hT (d0v.refl hR) rfl
 | s :: r,k,t,H,φ,w,a,hops,hR,hT,hfl,he,hK=>by
  obtain ⟨o,ho,y⟩:=hops 0 s rfl
  simp only [l1A] at ho
  obtain ⟨hc,O,j⟩:=e0o y
  have N:=q0b y hT
  have c:∀ i z,r[i]? = some z->∃ o,ops[k + 1 + i]? = some o/\g0V X.P ops true o=some z:=fun i z hi=>by
   obtain ⟨R,u,x⟩:=hops (i + 1) z (by simpa using hi)
   exact ⟨R,by rw [<- u];congr 1;omega,x⟩
  rw [l1p,n1r,m1B]
  unfold wpOps
  simp only [ho]
  simp only [f0s] at he
  by_cases h:b0k t s.g=true
  ·rw [N,k1B h]
   simp only [h,l1o] at he
   refine .inl ?_
   cases hs:b0E call fl t H s.op with
   | bad=>simp [hs] at he
   | pan v=>simp [hs] at he
   | ok vH =>
    obtain ⟨v,H1⟩:=vH
    simp only [hs] at he
    refine l0V hcall hc O hR hT hfl hs a rfl (fun φ' v' w' L e=>?_)
    have J:CR X φ' w'.shape? t a.tmps.toList:=hT.mo e.ext e.shp
    refine r0G hcall r (k + 1) (put t s.dst v) H1 φ' w' (a.put o.dst v') c e.rel (by rw [j];exact j0g J L o.dst) (k1H hfl e.hsz) he (fun q G M u x I=>?_)
    exact hK q G M u (e.trans x (k1x _) hR) (by rw [I,c0Q])
  ·rw [N,k1y h]
   simp only [n1p] at h
   simp only [h,k1W,l1y] at he
   refine r0G hcall r (k + 1) (put t s.dst undef) H φ w (a.put o.dst undef) c hR (by rw [j];exact j0g hT VR.undef o.dst) hfl he (fun q G M u x I=>?_)
   exact hK q G M u x (by rw [I,c0Q])
def k0t (j:Nat) (o:Oper):Bool:=o.guard.isNone && j0M o && o.op.operands.toList.all fun | .tmp i=>i != j | _=>true
theorem z0e {j:Nat} {o:Oper} (hb:k0t j o=true) {a b:Act} (h:∀ i,i ≠ j->b.tmps.getD i undef=a.tmps.getD i undef):execOp b.eval o=execOp a.eval o:=by
 unfold k0t at hb
 simp only [k1L,l1a] at hb
 obtain ⟨⟨s,c⟩,e⟩:=hb
 refine execOp_congr o (fun cs bl k=>by unfold j0M at c;rw [k] at c;cases c) ?_
 intro x q
 cases x with
 | tmp d =>
  have:=e (.tmp d) (by simpa using q)
  simp only [bne_iff_ne,ne_eq] at this
  simp only [Act.eval]
  exact h d this
 | const v=>rfl
 | func f=>rfl
 | global g=>rfl
theorem C0O {j:Nat} {a b:Act} (h:∀ i,i ≠ j->b.tmps.getD i undef=a.tmps.getD i undef) (hs:b.tmps.size=a.tmps.size) (d:Option Nat) (v:Value) :
  (∀ i,i ≠ j->(b.put d v).tmps.getD i undef=(a.put d v).tmps.getD i undef)/\(b.put d v).tmps.size=(a.put d v).tmps.size:=by
 cases d with
 | none=>exact ⟨h,hs⟩
 | some d =>
  refine ⟨fun i hi=>?_,by simpa [Act.put] using hs⟩
  simp only [Act.put,k1I,l1f,hs]
  have:=h i hi
  simp only [k1I] at this
  by_cases c:d=i
  ·simp [c]
  ·simp [c,this]
theorem t0P {call:Nat->FuncId->List Value->a0f->Res (Value × a0f)} (hcall:e0l X call) {j:Nat} {ops:Array Oper} {Q:Exit->Act->World->Prop} {t':b0c} {H':a0f} (u:ops.toList.all (k0t j)=true) :
  ∀ (r:List a0J) (k:Nat) (t:b0c) (H:a0f) (φ:Inj) (w:World) (a b:Act),
  (∀ i s,r[i]? = some s->s.g=none/\∃ o,ops[k + i]? = some o/\g0V X.P ops true o=some s)->Rel X φ H w->CR X φ w.shape? t a.tmps.toList->fl<=H.size->(∀ i,i ≠ j->b.tmps.getD i undef=a.tmps.getD i undef)->b.tmps.size=a.tmps.size ->
  f0s call fl r t H=.fin .normal t' H'->(∀ φ' M w',d0v X fl φ H w φ' H' w'->M.defers=b.defers->Q .normal M w') ->
  wpOps X.P ops Q (List.range' k r.length) b w
 | [],k,t,H,φ,w,a,b,_,hR,hT,_,_,_,he,hK=>by
  simp only [f0s,Out.fin.injEq] at he
  obtain ⟨_,rfl,rfl⟩:=he
  exact hK φ b w (d0v.refl hR) rfl
 | s :: r,k,t,H,φ,w,a,b,hops,hR,hT,hfl,hag,hsz,he,hK=>by
  obtain ⟨I,o,ho,F⟩:=hops 0 s rfl
  simp only [l1A] at ho
  obtain ⟨hc,U,x⟩:=e0o F
  have h:∀ i y,r[i]? = some y->y.g=none/\∃ o,ops[k + 1 + i]? = some o/\g0V X.P ops true o=some y:=fun i y hi=>by
   obtain ⟨O,Z,N,q⟩:=hops (i + 1) y (by simpa using hi)
   exact ⟨O,Z,by rw [<- N];congr 1;omega,q⟩
  have e:k0t j o=true:=l1a.1 u o (by
   have:=l1j.1 ho
   obtain ⟨N,q⟩:=this
   rw [<- q];simp)
  have G:o.guard=none:=by
   unfold k0t at e
   simp only [k1L,Option.isNone_iff_eq_none] at e
   exact e.1.1
  rw [l1p,n1r]
  unfold wpOps
  simp only [ho]
  rw [show Region.wanted o (yielded ops b.tmps)=true by simp [Region.wanted,G],k1B rfl]
  simp only [f0s,I,b0k,l1o] at he
  refine .inl ?_
  cases hs:b0E call fl t H s.op with
  | bad=>simp [hs] at he
  | pan v=>simp [hs] at he
  | ok vH =>
   obtain ⟨v,H1⟩:=vH
   simp only [hs] at he
   refine l0V hcall hc U hR hT hfl hs b (z0e e hag) (fun φ' v' w' J c=>?_)
   have z:CR X φ' w'.shape? t a.tmps.toList:=hT.mo c.ext c.shp
   obtain ⟨p1,p2⟩:=C0O hag hsz o.dst v'
   refine t0P hcall u r (k + 1) (put t s.dst v) H1 φ' w' (a.put o.dst v') (b.put o.dst v') h c.rel (by rw [x];exact j0g z J o.dst) (k1H hfl c.hsz) p1 p2 he (fun L b2 w2 q R=>?_)
   exact hK L b2 w2 (c.trans q (k1x _) hR) (by rw [R,c0Q])
end
section
abbrev K0J:=Nat->FuncId->List Value->a0f->Res (Value × a0f)
def Z0F (c c':K0J):Prop:=∀ fl fl' f args H,fl'<=fl->c fl f args H ≠ .bad->c' fl' f args H=c fl f args H
variable {H:a0f} {fl fl':Nat} {t:b0c}
theorem w0E {b off:Nat} {vs:List Value} {H':a0f} (j:fl'<=fl) (h:H.write? fl b off vs=some H'):H.write? fl' b off vs=some H':=by
 unfold a0f.write? at h ⊢
 split at h
 ·rename_i e cs c
  split at h
  ·rename_i hc
   try simp only [c]
   rw [k1B ⟨by omega,hc.2⟩];exact h
  ·cases h
 ·cases h
theorem z0d {e:TypeId} {size bytes:Nat} {s x:Value} {r:Value × a0f} (y:fl'<=fl) (h:i0H fl H e size bytes s x=some r):i0H fl' H e size bytes s x=some r:=by
 unfold i0H at h ⊢
 split at h
 ·split at h
  ·rename_i u;rw [k1B u];exact h
  ·rename_i u;rw [k1y u]
   split at h
   ·rename_i hc;rw [k1B hc]
    split at h
    ·cases h
    ·rename_i F
     try simp only at h ⊢
     split at h
     ·cases h
     ·rename_i new k
      try simp only [k]
      split at h
      ·cases h
      ·rename_i hp;rw [k1y hp]
       split at h
       ·exact h
       ·rename_i z
        try simp only at h ⊢
        split at h
        ·rename_i j;rw [k1B j];exact h
        rename_i j;rw [k1y j]
        split at h
        ·cases h
        ·rename_i old q
         try simp only [q]
         split at h
         ·rename_i c;rw [k1B c];exact h
         ·rename_i c;rw [k1y c]
          split at h
          ·rename_i e2 cs hb
           try simp only
           split at h
           ·rename_i v;rw [k1B ⟨v.1,by omega⟩];exact h
           ·cases h
          ·cases h
   ·cases h
 ·cases h
theorem C0m {so:SOp} (c:fl'<=fl) (h:opA fl t H so ≠ .bad):opA fl' t H so=opA fl t H so:=by
 cases so <;> simp only [opA] at h ⊢
 case store n a x =>
  split at h
  ·rename_i p hp
   split at h
   ·exact k1Q rfl h
   ·rename_i hc;rw [k1y hc];rw [k1y hc]
    cases hw:H.write? fl p.block p.off (a0W (ev t x)) with
    | none=>rw [hw] at h;exact k1Q rfl h
    | some H'=>rw [w0E c hw]
  ·exact k1Q rfl h
 case app e size bytes s x =>
  cases hw:i0H fl H e size bytes (ev t s) (ev t x) with
  | none=>rw [hw] at h;exact k1Q rfl h
  | some r=>rw [z0d c hw]
section
variable {c c':K0J} (hc:Z0F c c')
include hc
theorem g0c {so:SOp} (e:fl'<=fl) (h:b0E c fl t H so ≠ .bad):b0E c' fl' t H so=b0E c fl t H so:=by
 unfold b0E at h ⊢
 have ho:opA fl t H so ≠ .bad:=by intro hb;rw [hb] at h;exact h rfl
 rw [C0m e ho]
 split at h
 ·exact k1Q rfl h
 ·rfl
 ·rfl
 ·rename_i f args lone _
  refine hc _ _ _ _ _ ?_ h
  split <;> omega
theorem f0Y (e:fl'<=fl):∀ (ops:List a0J) (t:b0c) (H:a0f),f0s c fl ops t H ≠ .bad->f0s c' fl' ops t H=f0s c fl ops t H
 | [],t,H,_=>rfl
 | o :: r,t,H,h=>by
  simp only [f0s] at h ⊢
  split at h
  ·rename_i j
   simp only [j,l1o]
   have hs:b0E c fl t H o.op ≠ .bad:=by intro hb;rw [hb] at h;exact h rfl
   rw [g0c hc e hs]
   split at h
   ·exact k1Q rfl h
   ·rfl
   ·exact f0Y e r _ _ h
  ·rename_i j
   simp only [j,l1y]
   exact f0Y e r _ _ h
theorem d0q (j:fl'<=fl) (bef:List Nat) (pairs:List (Nat × Nat)):∀ (ops:List a0J) (i:Nat) (t:b0c) (H:a0f) (p:Option (Nat × Value)) (e:List (List Nat × List Nat)),
  b0V c fl bef pairs i ops t H p e ≠ .bad->b0V c' fl' bef pairs i ops t H p e=b0V c fl bef pairs i ops t H p e
 | [],i,t,H,p,e,_=>rfl
 | o :: r,i,t,H,p,e,h=>by
  simp only [b0V] at h ⊢
  split at h
  ·rename_i k;simp only [k,l1o];exact d0q j bef pairs r _ _ _ _ _ h
  ·rename_i k
   simp only [k,l1y]
   split at h
   ·rename_i q
    simp only [q,l1o]
    have hs:b0E c fl t H o.op ≠ .bad:=by intro hb;rw [hb] at h;exact h rfl
    rw [g0c hc j hs]
    split at h
    ·exact k1Q rfl h
    ·split at h
     ·exact d0q j bef pairs r _ _ _ _ _ h
     ·exact k1Q rfl h
    ·exact d0q j bef pairs r _ _ _ _ _ h
   ·rename_i q
    simp only [q,l1y]
    exact d0q j bef pairs r _ _ _ _ _ h
theorem b0m (e:fl'<=fl):∀ (n m:Nat) (k:SCode) (t:b0c) (H:a0f),n<=m->b0h c fl n k t H ≠ .bad->b0h c' fl' m k t H=b0h c fl n k t H
 | 0,_,_,_,_,_,h=>by simp [b0h] at h
 | n + 1,0,_,_,_,j,_=>by omega
 | n + 1,m + 1,k,t,H,j,h=>by
  have j:n<=m:=by omega
  cases k <;> simp only [b0h] at h ⊢
  case seq a b =>
   have q:b0h c fl n a t H ≠ .bad:=by intro hb;rw [hb] at h;exact h rfl
   rw [b0m e n m a t H j q]
   split at h
   ·exact b0m e n m b _ _ j h
   ·rfl
  case cond x a b =>
   split at h
   ·exact b0m e n m a _ _ j h
   ·exact b0m e n m b _ _ j h
   ·exact k1Q rfl h
  case block id a =>
   have q:b0h c fl n a t H ≠ .bad:=by intro hb;rw [hb] at h;exact h rfl
   rw [b0m e n m a t H j q]
  case loop a =>
   have q:b0h c fl n a t H ≠ .bad:=by intro hb;rw [hb] at h;exact h rfl
   rw [b0m e n m a t H j q]
   split at h
   ·exact b0m e n m (.loop a) _ _ j h
   ·rfl
  case reg ops=>exact f0Y hc e ops t H h
  case draw ops bef pairs=>exact d0q hc e bef pairs ops 0 t H none [] h
end
theorem a0P (E:Env):∀ n m,n<=m->Z0F (b0q E n) (b0q E m)
 | 0,m,_=>fun _ _ _ _ _ _ h=>by simp [b0q] at h
 | n + 1,0,hm=>by omega
 | n + 1,m + 1,hm=>fun fl fl' f args H v h=>by
  have k:=a0P E n m (by omega)
  simp only [b0q] at h ⊢
  split at h
  ·split at h
   ·rfl
   split at h
   ·rename_i q y
    try simp only
    split at h
    ·rename_i c
     rw [k1B c];rw [k1B c]
     split at h
     ·rename_i p s _
      try simp only at h ⊢
      split at h
      case isFalse=>exact k1Q rfl h
      rename_i hsz
      rw [k1B hsz]
      try rw [k1B hsz]
      have e:b0q E n (max fl H.size) q.solved [.agg #[],.agg p,.agg s] H ≠ .bad:=by intro hb;rw [hb] at h;exact h rfl
      try simp only
      rw [k (max fl H.size) (max fl' H.size) _ _ _ (by omega) e]
     ·exact k1Q rfl h
    ·exact k1Q rfl h
   ·exact k1Q rfl h
  ·rename_i u x
   try simp only
   split at h
   ·rename_i j
    rw [k1B j];rw [k1B j]
    have e:b0h (b0q E n) fl n u.body (args ++ List.replicate (u.nt - args.length) undef) H ≠ .bad:=by intro hb;rw [hb] at h;exact h rfl
    rw [b0m k v n m _ _ _ (by omega) e]
   ·exact k1Q rfl h
theorem z0g {E:Env} {n m:Nat} {f:FuncId} {args:List Value} (e:n<=m) (c:fl'<=fl) (h:b0q E n fl f args H ≠ .bad):b0q E m fl' f args H=b0q E n fl f args H :=
 a0P E n m e _ _ _ _ _ c h
end
section
abbrev o0d:=Value->a0f->Prop
abbrev e0c:=XA->b0c->a0f->Prop
abbrev a0D:=Value->Prop
def o0z (Q:o0d) (R:a0D):Res (Value × a0f)->Prop
 | .ok (v,H)=>Q v H
 | .pan v=>R v
 | .bad=>False
def k0L (Q:e0c) (R:a0D):Out->Prop
 | .fin e t H=>Q e t H
 | .pan v=>R v
 | .bad=>False
def a0O (E:Env) (fl:Nat) (f:FuncId) (args:List Value) (H:a0f) (Q:o0d) (R:a0D):Prop:=∃ n,o0z Q R (b0q E n fl f args H)
def W (E:Env) (fl:Nat) (c:SCode) (t:b0c) (H:a0f) (Q:e0c) (R:a0D):Prop:=∃ n,k0L Q R (b0h (b0q E n) fl n c t H)
def WS (E:Env) (fl:Nat) (t:b0c) (H:a0f) (op:SOp) (K:o0d) (R:a0D):Prop :=
 match opA fl t H op with
 | .bad=>False
 | .pan v=>R v
 | .val v H'=>K v H'
 | .call f args lone=>a0O E (if lone then fl else max fl H.size) f args H K R
def WR (E:Env) (fl:Nat):List a0J->b0c->a0f->(b0c->a0f->Prop)->a0D->Prop
 | [],t,H,K,_=>K t H
 | o :: r,t,H,K,R=>if b0k t o.g then WS E fl t H o.op (fun v H'=>WR E fl r (put t o.dst v) H' K R) R else WR E fl r (put t o.dst undef) H K R
variable {E:Env} {fl:Nat} {t:b0c} {H:a0f} {Q Q':e0c} {R R':a0D} {K K':o0d} {f:FuncId} {args:List Value}
theorem e0Y {o:Out} (h:k0L Q R o):o ≠ .bad:=by cases o <;> simp_all [k0L]
theorem L0Z {o:Res (Value × a0f)} (h:o0z K R o):o ≠ .bad:=by cases o <;> simp_all [o0z]
theorem m0t {n m k:Nat} {c:SCode} (j:n<=m) (e:k<=m) (h:k0L Q R (b0h (b0q E n) fl k c t H)):k0L Q R (b0h (b0q E m) fl m c t H):=by
 rw [b0m (a0P E n m j) (k1x fl) k m c t H e (e0Y h)];exact h
theorem B0d {n m fl':Nat} (e:n<=m) (c:fl'<=fl) (h:o0z K R (b0q E n fl f args H)):o0z K R (b0q E m fl' f args H):=by
 rw [z0g e c (L0Z h)];exact h
theorem a0O.mo (h:a0O E fl f args H K R) (c:∀ v H',K v H'->K' v H'):a0O E fl f args H K' R:=by
 obtain ⟨n,h⟩:=h
 refine ⟨n,?_⟩
 cases hc:b0q E n fl f args H with
 | bad=>rw [hc] at h;exact h
 | pan v=>rw [hc] at h;exact h
 | ok r=>rw [hc] at h;exact c _ _ h
theorem a0O.floor {fl':Nat} (h:a0O E fl f args H K R) (c:fl'<=fl):a0O E fl' f args H K R:=by
 obtain ⟨n,h⟩:=h
 exact ⟨n,B0d (k1x n) c h⟩
theorem a0O.keep (h:a0O E fl f args H K R) (c:fl<=H.size):a0O E fl f args H (fun v H'=>K v H'/\g0d fl H H') R:=by
 obtain ⟨n,h⟩:=h
 refine ⟨n,?_⟩
 cases hc:b0q E n fl f args H with
 | bad=>rw [hc] at h;exact h
 | pan v=>rw [hc] at h;exact h
 | ok r=>rw [hc] at h;exact ⟨h,h0Y E n fl f args H r.1 r.2 hc c⟩
theorem W.mo {c:SCode} (h:W E fl c t H Q R) (j:∀ e t' H',Q e t' H'->Q' e t' H'):W E fl c t H Q' R:=by
 obtain ⟨n,h⟩:=h
 refine ⟨n,?_⟩
 cases hc:b0h (b0q E n) fl n c t H with
 | bad=>rw [hc] at h;exact h
 | pan v=>rw [hc] at h;exact h
 | fin e t' H'=>rw [hc] at h;exact j _ _ _ h
theorem WS.mo {op:SOp} (h:WS E fl t H op K R) (c:∀ v H',K v H'->K' v H'):WS E fl t H op K' R:=by
 unfold WS at h ⊢
 split at h
 ·exact h
 ·exact h
 ·exact c _ _ h
 ·exact h.mo c
theorem WR.mo {Z e:b0c->a0f->Prop}:∀ {ops:List a0J} {t:b0c} {H:a0f},WR E fl ops t H Z R->(∀ t' H',Z t' H'->e t' H')->WR E fl ops t H e R
 | [],_,_,h,hk=>hk _ _ h
 | o :: r,t,H,h,hk=>by
  simp only [WR] at h ⊢
  split at h
  ·rename_i c;rw [k1B c];exact h.mo fun v H' j=>WR.mo j hk
  ·rename_i c;rw [k1y c];exact WR.mo h hk
def h0P (k:b0c->a0f->Prop) (Q:e0c):e0c
 | .normal,t,H=>k t H
 | .exit i,t,H=>Q (.exit i) t H
 | .ret,t,H=>Q .ret t H
theorem g0U {a b:SCode} (h:W E fl a t H (h0P (fun t' H'=>W E fl b t' H' Q R) Q) R):W E fl (.seq a b) t H Q R:=by
 obtain ⟨n,h⟩:=h
 cases hc:b0h (b0q E n) fl n a t H with
 | bad=>rw [hc] at h;exact k1Q h id
 | pan v =>
  refine ⟨n + 1,?_⟩
  have:=b0m (a0P E n (n+1) (by omega)) (k1x fl) n n a t H (k1x n) (by rw [hc];simp)
  simp only [b0h,this,hc];rw [hc] at h;exact h
 | fin e t' H' =>
  rw [hc] at h
  cases e with
  | normal =>
   obtain ⟨m,h⟩:=h
   refine ⟨max n m + 1,?_⟩
   have:=b0m (a0P E n (max n m+1) (by omega)) (k1x fl) n (max n m) a t H (by omega) (by rw [hc];simp)
   simp only [b0h,this,hc]
   have c:=b0m (a0P E m (max n m+1) (by omega)) (k1x fl) m (max n m) b t' H' (by omega) (e0Y h)
   rw [c];exact h
  | exit i =>
   refine ⟨n + 1,?_⟩
   have:=b0m (a0P E n (n+1) (by omega)) (k1x fl) n n a t H (k1x n) (by rw [hc];simp)
   simp only [b0h,this,hc];exact h
  | ret =>
   refine ⟨n + 1,?_⟩
   have:=b0m (a0P E n (n+1) (by omega)) (k1x fl) n n a t H (k1x n) (by rw [hc];simp)
   simp only [b0h,this,hc];exact h
theorem s0j (h:Q .normal t H):W E fl .skip t H Q R:=⟨1,by simpa [b0h,k0L] using h⟩
theorem s0i {i:Nat} (h:Q (.exit i) t H):W E fl (.exit i) t H Q R:=⟨1,by simpa [b0h,k0L] using h⟩
theorem f1E (h:Q .ret t H):W E fl .ret t H Q R:=⟨1,by simpa [b0h,k0L] using h⟩
theorem j0w {c:Opd} {a b:SCode} (x:Bool) (e:ev t c=.bool x) (j:x=true->W E fl a t H Q R) (hb:x=false->W E fl b t H Q R):W E fl (.cond c a b) t H Q R:=by
 cases x with
 | true =>
  obtain ⟨n,h⟩:=j rfl
  refine ⟨n + 1,?_⟩
  have:=b0m (a0P E n (n+1) (by omega)) (k1x fl) n n a t H (k1x n) (e0Y h)
  simp only [b0h,e,this];exact h
 | false =>
  obtain ⟨n,h⟩:=hb rfl
  refine ⟨n + 1,?_⟩
  have:=b0m (a0P E n (n+1) (by omega)) (k1x fl) n n b t H (k1x n) (e0Y h)
  simp only [b0h,e,this];exact h
def f0g (i:Nat) (Q:e0c):e0c
 | .normal,t,H=>Q .normal t H
 | .exit j,t,H=>if j=i then Q .normal t H else Q (.exit j) t H
 | .ret,t,H=>Q .ret t H
theorem m0h {i:Nat} {c:SCode} (h:W E fl c t H (f0g i Q) R):W E fl (.block i c) t H Q R:=by
 obtain ⟨n,h⟩:=h
 refine ⟨n + 1,?_⟩
 have q:=b0m (a0P E n (n+1) (by omega)) (k1x fl) n n c t H (k1x n) (e0Y h)
 simp only [b0h,q]
 cases hc:b0h (b0q E n) fl n c t H with
 | bad=>rw [hc] at h;exact k1Q h id
 | pan v=>rw [hc] at h;exact h
 | fin e t' H' =>
  rw [hc] at h
  cases e with
  | normal=>exact h
  | ret=>exact h
  | exit j =>
   simp only [k0L,f0g] at h
   simp only
   split at h
   ·rename_i k;rw [k1B k];exact h
   ·rename_i k;rw [k1y k];exact h
theorem N0U {c:SCode} (I:Nat->b0c->a0f->Prop)
  (step:∀ k t H,I k t H->W E fl c t H (h0P (fun t' H'=>∃ k',k' < k/\I k' t' H') Q) R):∀ (k:Nat) {t:b0c} {H:a0f},I k t H->W E fl (.loop c) t H Q R:=by
 intro k
 induction k using Nat.strongRecOn with
 | ind k ih =>
  intro t H u
  obtain ⟨n,h⟩:=step k t H u
  cases hc:b0h (b0q E n) fl n c t H with
  | bad=>rw [hc] at h;exact k1Q h id
  | pan v =>
   refine ⟨n + 1,?_⟩
   have:=b0m (a0P E n (n+1) (by omega)) (k1x fl) n n c t H (k1x n) (by rw [hc];simp)
   simp only [b0h,this,hc];rw [hc] at h;exact h
  | fin e t' H' =>
   rw [hc] at h
   cases e with
   | normal =>
    obtain ⟨k',q,j⟩:=h
    obtain ⟨m,h⟩:=ih k' q j
    refine ⟨max n m + 1,?_⟩
    have:=b0m (a0P E n (max n m+1) (by omega)) (k1x fl) n (max n m) c t H (by omega) (by rw [hc];simp)
    simp only [b0h,this,hc]
    have s:=b0m (a0P E m (max n m+1) (by omega)) (k1x fl) m (max n m) (.loop c) t' H' (by omega) (e0Y h)
    rw [s];exact h
   | exit i =>
    refine ⟨n + 1,?_⟩
    have:=b0m (a0P E n (n+1) (by omega)) (k1x fl) n n c t H (k1x n) (by rw [hc];simp)
    simp only [b0h,this,hc];exact h
   | ret =>
    refine ⟨n + 1,?_⟩
    have:=b0m (a0P E n (n+1) (by omega)) (k1x fl) n n c t H (k1x n) (by rw [hc];simp)
    simp only [b0h,this,hc];exact h
theorem A0S {op:SOp} (h:WS E fl t H op K R):∃ n,o0z K R (b0E (b0q E n) fl t H op):=by
 unfold WS at h
 unfold b0E
 split at h
 ·exact k1Q h id
 ·rename_i v hv;exact ⟨0,by simpa [hv,o0z] using h⟩
 ·rename_i v H' hv;exact ⟨0,by simpa [hv,o0z] using h⟩
 ·rename_i g as lone hv
  obtain ⟨n,h⟩:=h
  exact ⟨n,by simpa [hv] using h⟩
theorem w0N {Z:b0c->a0f->Prop}:∀ (ops:List a0J) {t:b0c} {H:a0f},WR E fl ops t H Z R->∃ n,k0L (fun e t' H'=>e=.normal/\Z t' H') R (f0s (b0q E n) fl ops t H)
 | [],t,H,h=>⟨0,rfl,h⟩
 | o :: r,t,H,h=>by
  simp only [WR] at h
  split at h
  ·rename_i k
   obtain ⟨n,c⟩:=A0S h
   cases hs:b0E (b0q E n) fl t H o.op with
   | bad=>rw [hs] at c;exact k1Q c id
   | pan v=>exact ⟨n,by simp only [f0s,k,l1o,hs];rw [hs] at c;exact c⟩
   | ok rr =>
    obtain ⟨v,H'⟩:=rr
    rw [hs] at c
    obtain ⟨m,j⟩:=w0N r c
    refine ⟨max n m,?_⟩
    have q:=g0c (a0P E n (max n m) (by omega)) (k1x fl) (t:=t) (H:=H) (so:=o.op) (by rw [hs];simp)
    have s:=f0Y (a0P E m (max n m) (by omega)) (k1x fl) r (put t o.dst v) H' (e0Y j)
    simp only [f0s,k,l1o,q,hs,s];exact j
  ·rename_i k
   obtain ⟨m,j⟩:=w0N r h
   exact ⟨m,by simp only [f0s,k,l1y];exact j⟩
theorem l0z {ops:List a0J} (h:WR E fl ops t H (fun t' H'=>Q .normal t' H') R):W E fl (.reg ops) t H Q R:=by
 obtain ⟨n,c⟩:=w0N ops h
 refine ⟨n + 1,?_⟩
 have j:=f0Y (a0P E n (n+1) (by omega)) (k1x fl) ops t H (e0Y c)
 simp only [b0h,j]
 cases hr:f0s (b0q E n) fl ops t H with
 | bad=>rw [hr] at c;exact k1Q c id
 | pan v=>rw [hr] at c;exact c
 | fin e t' H'=>rw [hr] at c;obtain ⟨rfl,c⟩:=c;exact c
theorem q0p {c:K0J} {fl:Nat} (bef:List Nat):∀ (ops:List a0J) (i:Nat) (t:b0c) (H:a0f) (j:List (List Nat × List Nat)) {e:XA} {t':b0c} {H':a0f},
  f0s c fl ops t H=.fin e t' H'->b0V c fl bef [] i ops t H none j=.fin .normal t' H'
 | [],i,t,H,j,e,t',H',h=>by simp only [f0s,Out.fin.injEq] at h;obtain ⟨_,rfl,rfl⟩:=h;simp [b0V,d0a]
 | o :: r,i,t,H,j,e,t',H',h=>by
  simp only [f0s] at h
  simp only [b0V,h0r,k1W,l1y]
  split at h
  ·rename_i k
   simp only [k,l1o]
   split at h
   ·cases h
   ·cases h
   ·rename_i v H1 hs;(try simp only [hs]);exact q0p bef r _ _ _ _ h
  ·rename_i k
   simp only [k,l1y]
   exact q0p bef r _ _ _ _ h
theorem a0C {ops:List a0J} {bef:List Nat} (h:WR E fl ops t H (fun t' H'=>Q .normal t' H') (fun _=>False)):W E fl (.draw ops bef []) t H Q R:=by
 obtain ⟨n,c⟩:=w0N ops h
 refine ⟨n + 1,?_⟩
 have j:=f0Y (a0P E n (n+1) (by omega)) (k1x fl) ops t H (e0Y c)
 simp only [b0h]
 cases hr:f0s (b0q E n) fl ops t H with
 | bad=>rw [hr] at c;exact k1Q c id
 | pan v=>rw [hr] at c;exact k1Q c id
 | fin e t' H' =>
  rw [hr] at c j
  rw [q0p bef ops 0 t H [] j]
  exact c.2
theorem q0o {c:w0J} (hc:E.code f=some c) (u:args.length=c.np) (y:args.length<=c.nt)
  (h:∀ t,t.length=c.nt->(∀ i,get t i=args.getD i undef)->W E fl c.body t H (fun e t' H'=>(match e with | .exit _=>False | _=>True)/\∃ vs,e0S H' t' c.res=some vs/\K (d0y vs) H') R) :
  a0O E fl f args H K R:=by
 obtain ⟨n,j⟩:=h (args ++ List.replicate (c.nt - args.length) undef) (by simp;omega) (fun i=>by
  unfold get
  simp only [k1v]
  by_cases hi:i < args.length
  ·rw [l1i hi]
  ·rw [l1n (by omega)]
   rw [k1G (by omega:args.length<=i)]
   by_cases q:i - args.length < c.nt - args.length
   ·rw [m1h];simp [q]
   ·rw [k1G (by simpa using q)])
 refine ⟨n + 1,?_⟩
 simp only [b0q,hc,u,l1o]
 rw [u] at j
 cases hx:b0h (b0q E n) fl n c.body (args ++ List.replicate (c.nt - c.np) undef) H with
 | bad=>rw [hx] at j;exact k1Q j id
 | pan v=>rw [hx] at j;exact j
 | fin e t' H' =>
  rw [hx] at j
  obtain ⟨x,vs,k,s⟩:=j
  cases e with
  | exit i=>exact k1Q x id
  | normal=>simp only [k];exact s
  | ret=>simp only [k];exact s
end
section
variable {E:Env} {fl:Nat} {t:b0c} {H G:a0f} {K:o0d} {R:a0D}
theorem nr {α:Sort _} {a b:α} (h:a=b):a=b:=h
def oo {α:Type} (o:Option α) (K:α->Prop):Prop:=∃ a,o=some a/\K a
@[simp] theorem q0N {α:Type} (a:α) (K:α->Prop):oo (some a) K=K a:=by simp [oo]
@[simp] theorem u0Q {α:Type} (K:α->Prop):oo (none:Option α) K=False:=by simp [oo]
def T (n:Nat) (ρ:Nat->Value):b0c:=(List.range n).map ρ
def upd (ρ:Nat->Value) (d:Nat) (v:Value):Nat->Value:=fun i=>if d=i then v else ρ i
theorem l0Y {ρ:Nat->Value} {d:Nat} {v:Value}:upd ρ d v d=v:=by simp [upd]
theorem k0l {ρ:Nat->Value} {d i:Nat} {v:Value} (h:d ≠ i):upd ρ d v i=ρ i:=by simp [upd,h]
theorem X0D {n d:Nat} {ρ:Nat->Value} {v:Value}:put (T n ρ) (some d) v=T n (upd ρ d v):=by
 unfold put T
 apply m1J
 intro i
 simp only [l1g,l1N,l1w,List.length_range,List.getElem?_range',m1l]
 by_cases hi:i < n
 ·rw [m1l hi]
  by_cases c:d=i
  ·subst c;simp [hi,upd]
  ·simp [c,upd]
 ·rw [k1G (by simpa using hi)]
  by_cases c:d=i
  ·subst c;simp [hi]
  ·simp [c]
theorem b0T {n i:Nat} {ρ:Nat->Value} (h:i < n):get (T n ρ) i=ρ i:=by
 unfold get T
 rw [k1v,l1N,m1l h];rfl
theorem K0M {t:b0c} {n:Nat} (h:t.length=n):t=T n (get t):=by
 apply m1J
 intro i
 unfold T
 by_cases hi:i < n
 ·rw [l1N,m1l hi,k1A (by omega)]
  simp [get,k1v,k1A (show i < t.length by omega)]
 ·rw [k1G (by omega),k1G (by simpa using hi)]
theorem Y0K {ρ:Nat->Value} {d i:Nat} {v:Value}:upd ρ d v i=if d=i then v else ρ i:=rfl
theorem b1u {n i:Nat} {ρ:Nat->Value}:get (T n ρ) i=if i < n then ρ i else undef:=by
 by_cases h:i < n
 ·rw [k1B h,b0T h]
 ·rw [k1y h];unfold get T;rw [k1v,k1G (by simpa using h)];rfl
@[simp] theorem d1G {n:Nat} {ρ:Nat->Value}:(T n ρ).length=n:=by simp [T]
theorem toT {t:b0c} {n:Nat} (h:t.length=n):∃ ρ,t=T n ρ:=⟨_,K0M h⟩
attribute [irreducible] upd T
@[simp] theorem d1J {v:Value}:put t none v=t:=nr rfl
@[simp] theorem Z0u {d:Option Nat} {v:Value}:(put t d v).length=t.length:=by cases d <;> simp [put]
@[simp] theorem i0J {i:Nat}:ev t (.tmp i)=get t i:=nr rfl
@[simp] theorem L0r {v:Value}:ev t (.const v)=v:=nr rfl
@[simp] theorem k1l {f:FuncId}:ev t (.fn f)=.func (.func f) #[] #[]:=nr rfl
def X0A:Value->Value->Value->Option Value
 | .bool b,x,y=>some (if b then x else y)
 | _,_,_=>none
@[simp] theorem Z0A {b:Bool} {x y:Value}:X0A (.bool b) x y=some (if b then x else y):=nr rfl
def W0G (k:IntKind):Value->Option Value
 | .int _ n=>some (.int k (k.wrap n))
 | _=>none
@[simp] theorem a1y {k k':IntKind} {n:Int}:W0G k (.int k' n)=some (.int k (k.wrap n)):=nr rfl
def g0b:Value->Option Value
 | .slice _ n _=>some (.int .i64 n)
 | _=>none
def adr (size:Nat) (v:Value) (j:Nat):Value :=
 match v with
 | .slice (some p) _ _=>.pointer (some ⟨p.block,p.off + j * size,none⟩)
 | _=>undef
def iaV (size:Nat) (v:Value) (i:Value):Option Value :=
 match v,i with
 | .slice (some p) n _,.int _ j=>if 0<=j/\j < n then some (.pointer (some ⟨p.block,p.off + j.toNat * size,none⟩)) else none
 | _,_=>none
def h1A (v:Value) (i:Nat):Option Value:=match v with | .tuple vs=>vs[i]? | _=>none
@[simp] theorem d1x:a1s (.slice none 0 0)=some (.int .i64 0):=nr rfl
@[simp] theorem Y0V {vs:Array Value} {i:Nat}:h1A (.tuple vs) i=vs[i]?:=nr rfl
def faV (off:Nat):Value->Option Value
 | .pointer (some p)=>if p.spot.isSome=true then none else some (.pointer (some ⟨p.block,p.off + off,none⟩))
 | _=>none
@[simp] theorem h1C {off b o:Nat}:faV off (.pointer (some ⟨b,o,none⟩))=some (.pointer (some ⟨b,o + off,none⟩)):=by simp [faV]
def g1n:Value->Option Value
 | .pointer (some a)=>some (.pointer (some a))
 | .func (.func f) a b=>some (.func (.func f) a b)
 | .iface a b=>some (.iface a b)
 | _=>none
def f0n (fl:Nat) (H:a0f) (n:Nat) (a x:Value):Option a0f :=
 match a with
 | .pointer (some p)=>if p.spot.isSome=true ∨ (a0W x).length ≠ n then none else H.write? fl p.block p.off (a0W x)
 | _=>none
def mkV (bytes:Nat):Value->Value->Option (Nat × Nat)
 | .int _ l,.int _ c=>if 0<=l/\l<=c/\c<=1073741824/\bytes<=1024 then some (l.toNat,c.toNat) else none
 | _,_=>none
theorem g0o {bytes:Nat} {k k':IntKind} {l c:Nat} (e:l<=c) (h:c<=1073741824) (j:bytes<=1024):mkV bytes (.int k l) (.int k' c)=some (l,c):=by
 unfold mkV;simp only;rw [k1B (by omega)];simp
theorem Z0x {bytes:Nat} {k k':IntKind} {l c:Int} (e:0<=l) (h:l<=c) (j:c<=1073741824) (q:bytes<=1024):mkV bytes (.int k l) (.int k' c)=some (l.toNat,c.toNat):=by
 unfold mkV;simp only;rw [k1B ⟨e,h,j,q⟩]
variable {x y a b c:Opd}
theorem K0T:WS E fl t H (.mv x) K R=K (ev t x) H:=nr rfl
theorem W0p:WS E fl t H (.pick c a b) K R=oo (X0A (ev t c) (ev t a) (ev t b)) fun v=>K v H:=by
 simp only [WS,opA];generalize ev t c=v;generalize ev t a=va;generalize ev t b=vb
 cases v <;> simp [X0A,oo]
 rename_i q;cases q <;> simp
theorem A0R {tag:Nat} {o:BinOp}:WS E fl t H (.bin tag o x y) K R=oo (d0p tag o (ev t x) (ev t y)) fun v=>K v H:=by
 simp only [WS,opA];cases d0p tag o (ev t x) (ev t y) <;> simp [b0H]
theorem f1D {u:UnOp}:WS E fl t H (.un u x) K R=oo (unA u (ev t x)) fun v=>K v H:=by
 simp only [WS,opA];cases unA u (ev t x) <;> simp [b0H]
theorem W0n {k:IntKind}:WS E fl t H (.conv k x) K R=oo (W0G k (ev t x)) fun v=>K v H:=by
 simp only [WS,opA];generalize ev t x=v;cases v <;> simp [W0G]
theorem a1b:WS E fl t H (.len x) K R=oo (g0b (ev t x)) fun v=>K v H:=by
 simp only [WS,opA];generalize ev t x=v;cases v <;> simp [g0b]
theorem Z0X:WS E fl t H (.cap x) K R=oo (a1s (ev t x)) fun v=>K v H:=by
 simp only [WS,opA];cases a1s (ev t x) <;> simp [b0H]
theorem W0l {e:TypeId} {bytes:Nat} {z:List Value}:WS E fl t H (.appz e bytes z x y) K R=oo (z0C bytes (ev t x) (ev t y)) fun n=>K (.slice (some ⟨H.size,0,none⟩) n unk) (H.push (.row false e (e0M z n))):=by
 simp only [WS,opA];cases z0C bytes (ev t x) (ev t y) <;> simp
theorem f1A {size:Nat}:WS E fl t H (.ia size x y) K R=oo (iaV size (ev t x) (ev t y)) fun v=>K v H:=by
 simp only [WS,opA,iaV];generalize ev t x=v;generalize ev t y=w
 cases v <;> simp
 rename_i p n c;cases p <;> cases w <;> simp
 rename_i q k j;by_cases hc:0<=j/\j < n <;> simp [hc]
theorem Z0Z {i:Nat}:WS E fl t H (.ext x i) K R=oo (h1A (ev t x) i) fun v=>K v H:=by
 simp only [WS,opA,h1A];generalize ev t x=v
 cases v <;> simp
 rename_i vs;cases h:vs[i]? <;> simp [b0H]
theorem f1z {off:Nat}:WS E fl t H (.fa off x) K R=oo (faV off (ev t x)) fun v=>K v H:=by
 simp only [WS,opA,faV];generalize ev t x=v
 cases v <;> simp
 rename_i p;cases p <;> simp
 rename_i q;by_cases hc:q.spot.isSome=true <;> simp [hc]
theorem a1a {c:Bool} {off n:Nat}:WS E fl t H (.fld c off n x) K R=oo (O0e c off n (ev t x)) fun v=>K v H:=by
 simp only [WS,opA];cases O0e c off n (ev t x) <;> simp [b0H]
theorem Z0Y:WS E fl t H (.chk x) K R=oo (g1n (ev t x)) fun v=>K v H:=by
 simp only [WS,opA,g1n];generalize ev t x=v
 cases v <;> simp
 case pointer p=>cases p <;> simp
 case func f _ _=>cases f <;> simp
theorem K0S {c:TypeId}:WS E fl t H (.iface c x) K R=K (.iface c (ev t x)) H:=nr rfl
theorem W0o {f:Fn} {as bs:List Opd}:WS E fl t H (.mkfn f as bs) K R=K (.func f (as.map (ev t)).toArray (bs.map (ev t)).toArray) H:=nr rfl
theorem K0Q {z:List Value} {c:List (Nat × Nat × Opd)}:WS E fl t H (.build z c) K R=oo (g0X z (b0D t c)) fun cs=>K (.agg cs.toArray) H:=by
 simp only [WS,opA];cases g0X z (b0D t c) <;> simp [b0H]
theorem u0l {c:Bool} {n:Nat}:WS E fl t H (.load c n x) K R=oo (b0v H c n (ev t x)) fun v=>K v H:=by
 simp only [WS,opA];cases b0v H c n (ev t x) <;> simp [b0H]
theorem a1d {c:Bool} {e:List Opd}:WS E fl t H (.mnx c x e) K R=oo (u0P c (ev t x) (e.map (ev t))) fun v=>K v H:=by
 simp only [WS,opA];cases u0P c (ev t x) (e.map (ev t)) <;> simp [b0H]
theorem f1C {e:TypeId} {size:Nat} {lo hi c:Option Opd}:WS E fl t H (.sl e size x lo hi c) K R =
  (elemOk H e (ev t x)=true/\oo (e0g size (ev t x) (lo.map (ev t)) (hi.map (ev t)) (c.map (ev t))) fun v=>K v H):=by
 simp only [WS,opA]
 cases elemOk H e (ev t x) <;> cases e0g size (ev t x) (lo.map (ev t)) (hi.map (ev t)) (c.map (ev t)) <;> simp [b0H]
theorem K0P {e:TypeId} {z:List Value}:WS E fl t H (.alloc e z) K R=K (.pointer (some ⟨H.size,0,none⟩)) (H.push (.row false e z)):=nr rfl
theorem Z0V {e:TypeId}:WS E fl t H (.box e x) K R=K (.pointer (some ⟨H.size,0,none⟩)) (H.push (.row false e (a0W (ev t x)))):=nr rfl
theorem a1c {e:TypeId} {z:List Value} {n:Nat} {c:List (Nat × Nat × Opd)}:WS E fl t H (.lit e z n c) K R =
  oo (g0X (e0M z n) (b0D t c)) fun cs=>K (.slice (some ⟨H.size,0,none⟩) n n) (H.push (.row false e cs)):=by
 simp only [WS,opA];cases g0X (e0M z n) (b0D t c) <;> simp
theorem f1B {e:TypeId} {bytes:Nat} {z:List Value}:WS E fl t H (.mk e bytes z x y) K R =
  oo (mkV bytes (ev t x) (ev t y)) fun p=>K (.slice (some ⟨H.size,0,none⟩) p.1 p.2) (H.push (.row false e (e0M z p.1))):=by
 simp only [WS,opA,mkV];generalize ev t x=v;generalize ev t y=w
 cases v <;> cases w <;> simp
 rename_i k l k' c;by_cases hc:0<=l/\l<=c/\c<=1073741824/\bytes<=1024 <;> simp [hc]
theorem K0U {n:Nat}:WS E fl t H (.store n x y) K R=oo (f0n fl H n (ev t x) (ev t y)) fun H'=>K undef H':=by
 simp only [WS,opA,f0n];generalize ev t x=v;generalize ev t y=w
 cases v <;> simp
 rename_i p;cases p <;> simp
 rename_i q;by_cases hc:q.spot.isSome=true ∨ (a0W w).length ≠ n <;> simp [hc]
 cases H.write? fl _ _ (a0W w) <;> simp
theorem Z0U {e:TypeId} {size bytes:Nat}:WS E fl t H (.app e size bytes x y) K R=oo (i0H fl H e size bytes (ev t x) (ev t y)) fun p=>K p.1 p.2:=by
 simp only [WS,opA];cases i0H fl H e size bytes (ev t x) (ev t y) <;> simp [g0Q]
theorem W0m {f:FuncId} {as:List Opd} {lone:Bool}:WS E fl t H (.call f as lone) K R=a0O E (if lone then fl else max fl H.size) f (as.map (ev t)) H K R:=nr rfl
theorem A0Q {Z:b0c->a0f->Prop}:WR E fl [] t H Z R=Z t H:=nr rfl
theorem m0f {d:Option Nat} {op:SOp} {r:List a0J} {Z:b0c->a0f->Prop}:WR E fl (⟨d,none,op⟩ :: r) t H Z R=WS E fl t H op (fun v H'=>WR E fl r (put t d v) H' Z R) R:=by
 simp [WR,b0k]
theorem K0O {t t':b0c} {ops:List a0J} {Z:b0c->a0f->Prop} (h:t=t'):WR E fl ops t H Z R=WR E fl ops t' H Z R:=by rw [h]
theorem y0W {fl fl':Nat} {f:FuncId} {as c:List Value} (h:as=c) (e:fl=fl'):a0O E fl f as H K R=a0O E fl' f c H K R:=by rw [h,e]
theorem W0q {c:SCode} {Q:e0c}:W E fl c t H Q R=W E fl c t H Q R:=nr rfl
theorem K0R {op:SOp}:WS E fl t H op K R=WS E fl t H op K R:=nr rfl
theorem L0P {α:Type} {o c:Option α} {K:α->Prop} (h:o=c):oo o K=oo c K:=by rw [h]
def Ext (H G:a0f):Prop:=H.size<=G.size/\∀ b,b < H.size->G.bk b=H.bk b
theorem Ext.refl (H:a0f):Ext H H:=⟨k1x _,fun _ _=>rfl⟩
theorem Ext.trans {H1 c e:a0f} (h:Ext H1 c) (k:Ext c e):Ext H1 e:=⟨k1H h.1 k.1,fun b hb=>(k.2 b (k1P hb h.1)).trans (h.2 b hb)⟩
theorem g0d.ext (h:g0d H.size H G):Ext H G:=⟨h.size,h.low⟩
theorem a0G {r:Blk}:a0f.bk (H.push r) H.size=r:=by simp [a0L]
theorem d0P {r:Blk} {b:Nat} (h:b < H.size):a0f.bk (H.push r) b=H.bk b:=by rw [a0L,k1y (by omega)]
theorem a0A {r:Blk} {b:Nat} (h:b < H.size):a0f.bk (H.setIfInBounds b r) b=r:=by
 unfold a0f.bk;simp [k1I,l1f,h]
theorem a0T {r:Blk} {b c:Nat} (h:b ≠ c):a0f.bk (H.setIfInBounds b r) c=H.bk c:=by
 unfold a0f.bk;simp [k1I,l1f,h]
theorem Ext.push {r:Blk} (h:Ext H G):Ext H (G.push r):=⟨by have:=h.1;simp;omega,fun b hb=>by rw [d0P (k1P hb h.1)];exact h.2 b hb⟩
theorem Ext.set {r:Blk} {b:Nat} (h:Ext H G) (hb:H.size<=b):Ext H (G.setIfInBounds b r):=⟨by have:=h.1;simpa using this,fun c hc=>by rw [a0T (by omega)];exact h.2 c hc⟩
theorem Ext.le (h:Ext H G):H.size<=G.size:=h.1
theorem Ext.bk {b:Nat} {ro:Bool} {e:TypeId} {cs:List Value} (h:Ext H G) (hb:H.bk b=.row ro e cs):G.bk b=.row ro e cs:=by rw [h.2 b (a0k hb)];exact hb
theorem f0t {b off n:Nat} {ro:Bool} {e:TypeId} {cs:List Value} (h:H.bk b=.row ro e cs) (c:off + n<=cs.length):H.cells? b off n=some ((cs.drop off).take n):=by
 unfold a0f.cells?;rw [h];simp [c]
end
section
variable {E:Env} {fl:Nat} {t:b0c} {H:a0f} {Q:e0c} {R:a0D}
theorem q0r {n m k:Nat} {c:SCode} {o:Out} (j:n<=m) (e:k<=m) (h:b0h (b0q E n) fl k c t H=o) (ho:o ≠ .bad):b0h (b0q E m) fl m c t H=o:=by
 rw [b0m (a0P E n m j) (k1x fl) k m c t H e (by rw [h];exact ho),h]
theorem w0P {a b:SCode}:W E fl (.seq a b) t H Q R=W E fl a t H (h0P (fun t' H'=>W E fl b t' H' Q R) Q) R:=by
 refine n1y ⟨fun ⟨n,h⟩=>?_,g0U⟩
 cases n with
 | zero=>simp only [b0h] at h;exact k1Q h id
 | succ m =>
  simp only [b0h] at h
  cases ha:b0h (b0q E (m+1)) fl m a t H with
  | bad=>rw [ha] at h;exact k1Q h id
  | pan v=>rw [ha] at h;exact ⟨m + 1,by rw [q0r (k1x _) (by omega) ha (by simp)];exact h⟩
  | fin e t' H' =>
   rw [ha] at h
   refine ⟨m + 1,?_⟩
   rw [q0r (k1x _) (by omega) ha (by simp)]
   cases e with
   | normal=>exact ⟨m + 1,m0t (k1x _) (by omega) h⟩
   | exit i=>exact h
   | ret=>exact h
theorem W0v:W E fl .skip t H Q R=Q .normal t H:=n1y ⟨fun ⟨n,h⟩=>by cases n with | zero=>exact k1Q h id | succ m=>exact h,s0j⟩
theorem W0u {i:Nat}:W E fl (.exit i) t H Q R=Q (.exit i) t H:=n1y ⟨fun ⟨n,h⟩=>by cases n with | zero=>exact k1Q h id | succ m=>exact h,s0i⟩
theorem a1h:W E fl .ret t H Q R=Q .ret t H:=n1y ⟨fun ⟨n,h⟩=>by cases n with | zero=>exact k1Q h id | succ m=>exact h,f1E⟩
def W0D:Value->Option Bool
 | .bool b=>some b
 | _=>none
@[simp] theorem Y0S {b:Bool}:W0D (.bool b)=some b:=nr rfl
theorem W0t {c:Opd} {a b:SCode}:W E fl (.cond c a b) t H Q R=oo (W0D (ev t c)) fun x=>(x=true->W E fl a t H Q R)/\(x=false->W E fl b t H Q R):=by
 refine n1y ⟨fun ⟨n,h⟩=>?_,fun ⟨x,e,j,hb⟩=>j0w x (by unfold W0D at e;split at e <;> simp_all) j hb⟩
 cases n with
 | zero=>exact k1Q h id
 | succ m =>
  simp only [b0h] at h
  split at h
  ·rename_i hc;refine ⟨true,by rw [hc];rfl,fun _=>⟨m + 1,m0t (k1x _) (by omega) h⟩,by simp⟩
  ·rename_i hc;refine ⟨false,by rw [hc];rfl,by simp,fun _=>⟨m + 1,m0t (k1x _) (by omega) h⟩⟩
  ·exact k1Q h id
theorem K0V {i:Nat} {c:SCode}:W E fl (.block i c) t H Q R=W E fl c t H (f0g i Q) R:=by
 refine n1y ⟨fun ⟨n,h⟩=>?_,m0h⟩
 cases n with
 | zero=>exact k1Q h id
 | succ m =>
  simp only [b0h] at h
  cases ha:b0h (b0q E (m+1)) fl m c t H with
  | bad=>rw [ha] at h;exact k1Q h id
  | pan v=>rw [ha] at h;exact ⟨m + 1,by rw [q0r (k1x _) (by omega) ha (by simp)];exact h⟩
  | fin e t' H' =>
   rw [ha] at h
   refine ⟨m + 1,?_⟩
   rw [q0r (k1x _) (by omega) ha (by simp)]
   cases e with
   | normal=>exact h
   | ret=>exact h
   | exit j =>
    simp only at h
    show (if j=i then Q .normal t' H' else Q (.exit j) t' H')
    split at h
    ·rename_i k;rw [k1B k];exact h
    ·rename_i k;rw [k1y k];exact h
theorem s0h {op:SOp} {K:o0d} {n:Nat} (h:o0z K R (b0E (b0q E n) fl t H op)):WS E fl t H op K R:=by
 unfold WS
 unfold b0E at h
 cases ho:opA fl t H op with
 | bad=>rw [ho] at h;exact k1Q h id
 | pan v=>rw [ho] at h;exact h
 | val v H'=>rw [ho] at h;exact h
 | call f as lone=>rw [ho] at h;exact ⟨n,h⟩
theorem m0g {Z:b0c->a0f->Prop} {n:Nat}:∀ (ops:List a0J) {t:b0c} {H:a0f},k0L (fun _ t' H'=>Z t' H') R (f0s (b0q E n) fl ops t H)->WR E fl ops t H Z R
 | [],t,H,h=>h
 | o :: r,t,H,h=>by
  simp only [WR]
  simp only [f0s] at h
  split at h
  ·rename_i c
   rw [k1B c]
   cases hs:b0E (b0q E n) fl t H o.op with
   | bad=>rw [hs] at h;exact k1Q h id
   | pan v=>rw [hs] at h;exact s0h (by rw [hs];exact h)
   | ok x=>rw [hs] at h;exact s0h (n:=n) (by rw [hs];exact m0g r h)
  ·rename_i c
   rw [k1y c];exact m0g r h
theorem a1g {ops:List a0J}:W E fl (.reg ops) t H Q R=WR E fl ops t H (fun t' H'=>Q .normal t' H') R:=by
 refine n1y ⟨fun ⟨n,h⟩=>?_,l0z⟩
 cases n with
 | zero=>exact k1Q h id
 | succ m =>
  simp only [b0h] at h
  refine m0g (n:=m + 1) ops ?_
  cases hr:f0s (b0q E (m+1)) fl ops t H with
  | bad=>rw [hr] at h;exact h
  | pan v=>rw [hr] at h;exact h
  | fin e t' H' =>
   rw [hr] at h
   have he:=(regA_keep' ops t H hr)
   subst he;exact h
where
 regA_keep' {c:K0J} {fl:Nat}:∀ (ops:List a0J) (t:b0c) (H:a0f) {e:XA} {t':b0c} {H':a0f},f0s c fl ops t H=.fin e t' H'->e=.normal
  | [],t,H,e,t',H',h=>by simp only [f0s,Out.fin.injEq] at h;exact h.1.symm
  | o :: r,t,H,e,t',H',h=>by
   simp only [f0s] at h
   split at h
   ·split at h
    ·cases h
    ·cases h
    ·exact regA_keep' r _ _ h
   ·exact regA_keep' r _ _ h
@[simp] theorem d0l {k:b0c->a0f->Prop}:h0P k Q .normal t H=k t H:=nr rfl
@[simp] theorem Z0D {k:b0c->a0f->Prop} {i:Nat}:h0P k Q (.exit i) t H=Q (.exit i) t H:=nr rfl
@[simp] theorem c1Z {k:b0c->a0f->Prop}:h0P k Q .ret t H=Q .ret t H:=nr rfl
@[simp] theorem L0j {i:Nat}:f0g i Q .normal t H=Q .normal t H:=nr rfl
@[simp] theorem W0A {i j:Nat}:f0g i Q (.exit j) t H=if j=i then Q .normal t H else Q (.exit j) t H:=nr rfl
@[simp] theorem Y0R {i:Nat}:f0g i Q .ret t H=Q .ret t H:=nr rfl
