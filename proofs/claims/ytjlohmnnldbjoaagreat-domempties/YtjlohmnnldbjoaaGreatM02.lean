/- Part 3 of the proof: AiDraw5, AiDraw6, AiDraw7, AiKnown, AiQuick1, AiRow1, AiMono, AiW, AiRow2, AiOps, AiWe. -/
import Derived.Recover
import Derived.Deep.Slices
import Derived.ProofKit
import Derived.OpenShut
import Derived.Test.YtjlohmnnldbjoaaGreatM01
set_option linter.unusedVariables false
set_option linter.unusedSimpArgs false
set_option linter.unusedSectionVars false
namespace Go.Proofs.YtjlohmnnldbjoaaGreat.AI
section
open Go
variable {X:Cx} {call:Nat→FuncId→List Value→a0f→Res (Value × a0f)} {fl:Nat} {ops:Array Oper} {l:List a0L} {bef:List Nat} {pairs:List (Nat × Nat)} {R:Run} (C:Ctx X call fl ops l bef pairs R)
variable {φ0 φ:Inj} {w0 w w':World} {Sd:Nat→Prop} {κ θ:Nat→Nat} {a:Act} (I:Inv X fl ops l bef R φ0 w0 Sd φ κ θ a w)
variable {j:Nat} {s:a0L} {o:Oper} (hs:l[j]? = some s) (ho:ops[j]? = some o) (hnj:¬ Sd j) (hpre:∀ i,b0s bef i j=true→Sd i)
include C I hs hnj hpre
open Classical in
theorem Inv.after {φ1:Inj} {G1:a0f} {v':Value} (hst:R.st j=1 ∨ R.st j=2) (hT':R.T (j + 1)=put (R.T j) s.dst (R.val j)) (hpar:Par (R.Hh j) (R.Hh (j + 1)) (o0w R φ κ j) G1)
  (hv:VR X φ1 w'.shape? (R.val j) v') (hS:d0p X fl (cut φ (R.Hh j).size) (o0w R φ κ j) w φ1 G1 w') (hW:∀ b,b ∈ (R.tc j).2→φ b ≠ none) (hφ0:∀ b y,φ0 b=some y→b < (R.Hh 0).size) :
  ∃ φ' κ' θ',Inv X fl ops l bef R φ0 w0 (fun k=>Sd k ∨ k=j) φ' κ' θ' (a.put s.dst v') w':=by
 have hj:j < l.length:=(i1f.1 hs).1
 have hlow:fl≤(R.Hh j).size:=(C.keep0 (by omega:j≤l.length)).1
 have hks:=C.keepStep hj hlow
 have hsz:(R.Hh j).size≤(R.Hh (j + 1)).size:=hks.size
 have hG1:G1.size=(R.Hh (j + 1)).size:=hpar.size
 have hmaskRel:=Inv.rel C I hs hnj hpre
 let φ':Inj:=fun b=>if (R.Hh j).size≤b∧b < (R.Hh (j + 1)).size then φ1 b else φ b
 let ch:Nat→Prop:=fun b=>((R.Hh j).size≤b∧b < (R.Hh (j + 1)).size) ∨ (b < (R.Hh j).size∧(R.Hh (j + 1)).blk b ≠ (R.Hh j).blk b)
 let κ':Nat→Nat:=fun b=>if ch b then j + 1 else κ b
 let θ':Nat→Nat:=fun x=>if s.dst=some x then j + 1 else θ x
 have hφ':∀ b,φ' b=if (R.Hh j).size≤b∧b < (R.Hh (j + 1)).size then φ1 b else φ b:=fun _=>rfl
 have hκ1:∀ b,ch b→κ' b=j + 1:=fun b h=>h1F h
 have hκ2:∀ b,¬ ch b→κ' b=κ b:=fun b h=>h1C h
 have fA:∀ b y,φ b=some y→φ' b=some y:=fun b y hb=>by
  rw [hφ',h1C];exact hb
  have:=Inv.notNew C I hs hnj hpre hb;omega
 have fOld:∀ b y,b < (R.Hh j).size→φ1 b=some y→φ b=some y:=fun b y hb h=>by
  cases hc:cut φ (R.Hh j).size b with
  | none=>have:=hS.fresh b y h hc;rw [e0v] at this;omega
  | some z =>
   have:=hS.ext b z hc
   rw [h] at this;cases this
   exact (b0A.1 hc).2
 have fB:∀ b y,φ1 b=some y→b < (R.Hh (j + 1)).size∧φ' b=some y:=fun b y h=>by
  have hlt:=hS.rel.lt b y h
  rw [hG1] at hlt
  refine ⟨hlt,?_⟩
  rw [hφ']
  by_cases hb:(R.Hh j).size≤b
  ·rw [h1F ⟨hb,hlt⟩];exact h
  ·rw [h1C (by omega)];exact fOld b y (by omega) h
 have fC:∀ b y,φ' b=some y→b < (R.Hh (j + 1)).size→φ1 b=some y:=fun b y h hlt=>by
  rw [hφ'] at h
  split at h
  ·exact h
  ·rename_i hc
   exact hS.ext b y (b0A.2 ⟨by omega,h⟩)
 have fOut:∀ b y,φ' b=some y→¬ ((R.Hh j).size≤b∧b < (R.Hh (j + 1)).size)→φ b=some y:=fun b y h hc=>by rw [hφ',h1C hc] at h;exact h
 have cutB:∀ b y,φ1 b=some y→cut φ' (R.Hh (j + 1)).size b=some y:=fun b y h=>b0A.2 (fB b y h)
 have dead_ge:∀ {k b:Nat},(R.Hh k).size≤b→(R.Hh k).blk b=.dead:=fun h=>i0y h
 -- a later operation that has run leaves alone what this one has turned
 have later:∀ b,ch b→(φ' b ≠ none)→∀ k,j + 1≤k→k < l.length→(Sd k ∨ k=j)→(R.Hh (k + 1)).blk b=(R.Hh k).blk b:=by
  intro b hch hdom k hjk hk hSk
  have hSk : Sd k := by rcases hSk with h | h; · exact h
                        ·omega
  apply i1v
  intro hne
  obtain ⟨sk,hsk⟩:=C.sAt hk
  have hbk:b < (R.Hh k).size:=by
   have h1:=C.szmono (show j + 1≤k by omega) (by omega)
   rcases hch with h | h <;> omega
  obtain ⟨u1,u2⟩:=Inv.unord C I hs hnj hpre hk (by omega) (.inl ⟨hSk,by omega⟩)
  have hwj:way s.op ≠ 0:=by
   rcases hch with h | h
   ·exact C.grow hs (by omega)
   ·have h3:=(C.change hs h.1 h.2).2
    rcases h3 with ⟨h3,_⟩ | ⟨h3,_⟩ <;> omega
  obtain ⟨c1,c2,c3,c4,c5⟩:=C.clash hsk hs (by omega) u1 u2 hbk hne hwj
  rcases hch with h | h
  ·-- new: nobody that has run could know it
   obtain ⟨hch2,_⟩:=C.change hsk hbk hne
   have hd:=I.W k sk hsk hSk hch2 b c2
   cases hφb:φ b with
   | none=>exact hd hφb
   | some y=>have:=Inv.notNew C I hs hnj hpre hφb;omega
  ·have h3:=(C.change hs h.1 h.2).2
   rcases h3 with ⟨_,h3⟩ | ⟨h3,_⟩
   ·exact c5 h3
   ·exact c3 h3
 -- an untouched block's concrete row, if it is not in the state that ran
 have stale:∀ b B o1 ro e cs,φ b=some (B,o1)→(R.Hh (κ b)).blk b=.row ro e cs→((R.Hh (j + 1)).size≤b ∨ ¬ z0t R κ j b)→b < (R.Hh j).size ∨ (R.Hh (j + 1)).size≤b→w'.heap[B]? = w.heap[B]?:=by
  intro b B o1 ro e cs hb hrow hout hrange
  have hrk:=(I.Rr b B o1 hb).2.2.2.2 ro e cs hrow
  refine hS.frame B hrk.lt ?_
  intro b1 o2 e1 cs1 hb1 hfl1 hrow1
  obtain ⟨g1,g2⟩:=b0A.1 hb1
  obtain ⟨g3,g4⟩:=e0F g2 hrow1
  have hne:b1 ≠ b:=by
   intro e;subst e
   rcases hout with h | h
   ·omega
   ·exact h g3
  have:=I.P b1 b B o2 o1 e1 cs1 g2 hb hne (by rw [← g3.2];exact g4)
  rw [this] at hrow;cases hrow
 -- the blocks of the state that ran
 have inRow:∀ b,b < (R.Hh (j + 1)).size→(ch b ∨ z0t R κ j b)→φ' b ≠ none→G1.blk b=(R.Hh (κ' b)).blk b:=by
  intro b hlt hin hdom
  by_cases hc:ch b
  ·rw [hκ1 b hc]
   rcases hc with h | h
   ·exact hpar.more b h.1
   ·exact hpar.diff b h.1 h.2
  ·rw [hκ2 b hc]
   have hg : z0t R κ j b := by rcases hin with h | h; · exact h1Y h hc
                               ·exact h
   have hltj:b < (R.Hh j).size:=by
    by_cases h:b < (R.Hh j).size
    ·exact h
    ·exact h1Y (.inl ⟨by omega,hlt⟩) hc
   have hsame:(R.Hh (j + 1)).blk b=(R.Hh j).blk b:=i1v fun h=>hc (.inr ⟨hltj,h⟩)
   rw [hpar.same b hltj hsame,j0t,h1C (fun h=>h.2 hg),hg.2]
 refine ⟨φ',κ',θ',?_⟩
 refine
  { done := ?_
    down:=?_
    tlen:=?_
    defers:=?_
    base:=h1R I.base hS.wsz
    T:=?_
    D:=?_
    Rr:=?_
    P:=?_
    W:=?_
    glob:=?_ }
 ·intro k hk hSk
  rcases hSk with h | h
  ·exact I.done k hk h
  ·subst h;exact hst
 ·intro k hk hSk i hi
  rcases hSk with h | h
  ·exact .inl (I.down k hk h i hi)
  ·subst h;exact .inl (hpre i hi)
 ·cases s.dst <;> simp [Act.put,I.tlen]
 ·rw [c0E];exact I.defers
 ·-- slots
  intro x hx
  have hlen:=C.tab.len
  by_cases hd:s.dst=some x
  ·have hθ:θ' x=j + 1:=h1F hd
   rw [hθ]
   refine ⟨by omega,.inr ⟨j,s,rfl,.inr rfl,hs,hd⟩,?_,?_⟩
   ·intro k sk hk hSk hsk hdk
    have hkl:k < l.length:=(i1f.1 hsk).1
    have hSk : Sd k := by rcases hSk with h | h; · exact h
                          ·omega
    obtain ⟨u1,u2⟩:=Inv.unord C I hs hnj hpre hkl (by omega) (.inl ⟨hSk,by omega⟩)
    obtain ⟨oj,hoj,_⟩:=C.tab.op j s hs
    obtain ⟨ok,hok,_⟩:=C.tab.op k sk hsk
    exact ((C.tab.two (by omega) (by omega) (by omega) u1 u2 hok hoj hsk hs).1 x hdk).2 hd
   ·rw [hT',t0E,h1F ⟨hd,by rw [C.tlen (by omega)];exact hx⟩]
    have e1:(a.put s.dst v').tmps.getD x undef=v':=by
     rw [hd]
     simp only [Act.put]
     rw [a0T]
     simp only [Array.toList_setIfInBounds,h1z,i1m]
     rw [h1F (by simp)]
     have:x < a.tmps.size:=by have:=I.tlen;omega
     simp [this]
    rw [e1]
    exact hv.mono cutB (fun _ _ h=>h)
  ·have hθ:θ' x=θ x:=h1C hd
   rw [hθ]
   obtain ⟨h1,h2,h3,h4⟩:=I.T x hx
   refine ⟨h1,?_,?_,?_⟩
   ·rcases h2 with h2 | ⟨k,sk,h5,h6,h7⟩
    ·exact .inl h2
    ·exact .inr ⟨k,sk,h5,.inl h6,h7⟩
   ·intro k sk hk hSk hsk
    rcases hSk with h | h
    ·exact h3 k sk hk h hsk
    ·subst h;rw [hs] at hsk;cases hsk;exact hd
   ·have e1:(a.put s.dst v').tmps.getD x undef=a.tmps.getD x undef:=by
     cases hsd:s.dst with
     | none=>rfl
     | some d =>
      have hdx:d ≠ x:=fun e=>hd (by rw [hsd,e])
      simp only [Act.put]
      rw [a0T,a0T]
      simp only [Array.toList_setIfInBounds,h1z,i1m]
      rw [h1C hdx]
    rw [e1]
    exact h4.mono (j0k (h1A _) (fun b y _ h=>fA b y h)) hS.shp
 ·-- which blocks there are
  intro b y hb
  by_cases hc:(R.Hh j).size≤b∧b < (R.Hh (j + 1)).size
  ·exact .inr ⟨j,hj,.inr rfl,hc.1,hc.2⟩
  ·rcases I.D b y (fOut b y hb hc) with h | ⟨k,h1,h2,h3⟩
   ·exact .inl h
   ·exact .inr ⟨k,h1,.inl h2,h3⟩
 ·-- rows
  intro b B o1 hb
  by_cases hc:ch b
  ·rw [hκ1 b hc]
   have hlt:b < (R.Hh (j + 1)).size:=by rcases hc with h | h <;> omega
   refine ⟨by omega,hlt,.inr ⟨j,rfl,hj,.inr rfl,?_⟩,later b hc (by rw [hb];simp),?_⟩
   ·rcases hc with h | h
    ·exact .inl h.1
    ·exact .inr h.2
   ·intro ro e cs hrow
    have hG:=inRow b hlt (.inl hc) (by rw [hb];simp)
    rw [hκ1 b hc] at hG
    obtain ⟨c,el,fz,k1,k2,k3,k4⟩:=hS.rel.row b B o1 ro e cs (fC b _ hb hlt) (by rw [hG];exact hrow)
    exact ⟨c,el,fz,k1,k2,k3.mono cutB (fun _ _ h=>h),k4⟩
  ·rw [hκ2 b hc]
   have hnr:¬ ((R.Hh j).size≤b∧b < (R.Hh (j + 1)).size):=fun h=>hc (.inl h)
   have hb0:=fOut b _ hb hnr
   obtain ⟨h1,h2,h3,h4,h5⟩:=I.Rr b B o1 hb0
   refine ⟨h1,h2,?_,?_,?_⟩
   ·rcases h3 with h3 | ⟨k,h6,h7,h8,h9⟩
    ·exact .inl h3
    ·exact .inr ⟨k,h6,h7,.inl h8,h9⟩
   ·intro k hk hkl hSk
    rcases hSk with h | h
    ·exact h4 k hk hkl h
    ·subst h
     by_cases hbj:b < (R.Hh k).size
     ·exact i1v fun h=>hc (.inr ⟨hbj,h⟩)
     ·rw [dead_ge (by omega),dead_ge (by omega)]
   ·intro ro e cs hrow
    have hold:=h5 ro e cs hrow
    have hrange:b < (R.Hh j).size ∨ (R.Hh (j + 1)).size≤b:=by omega
    by_cases hg:b < (R.Hh j).size∧z0t R κ j b
    ·-- in the state that ran
     have hG:=inRow b (by omega) (.inr hg.2) (by rw [hb];simp)
     rw [hκ2 b hc] at hG
     obtain ⟨c,el,fz,k1,k2,k3,k4⟩:=hS.rel.row b B o1 ro e cs (fC b _ hb (by omega)) (by rw [hG];exact hrow)
     obtain ⟨c0,el0,fz0,q1,q2,q3,q4⟩:=hold
     have hcut:=CR.cut (m:=(R.Hh (κ b)).size) (fun b y h=>(b0A.1 h).1) q3 k3
     exact ⟨c,el,fz,k1,k2,hcut.mono (j0k (h1A _) (fun b y _ h=>(fB b y h).2)) (fun _ _ h=>h),k4⟩
    ·have hout:(R.Hh (j + 1)).size≤b ∨ ¬ z0t R κ j b:=by
      by_cases h:(R.Hh (j + 1)).size≤b
      ·exact .inl h
      ·exact .inr fun hgd=>hg ⟨by omega,hgd⟩
     exact hold.mono (j0k (h1A _) (fun b y _ h=>fA b y h)) hS.shp (stale b B o1 ro e cs hb0 hrow hout hrange)
 ·-- apart
  intro b b' B o1 o2 e cs hb hb' hne hrow
  let inS:Nat→Prop:=fun b=>b < (R.Hh (j + 1)).size∧(ch b ∨ z0t R κ j b)
  have outF:∀ b y,φ' b=some y→¬ inS b→¬ ch b∧φ b=some y∧(b < (R.Hh j).size ∨ (R.Hh (j + 1)).size≤b)∧((R.Hh (j + 1)).size≤b ∨ ¬ z0t R κ j b):=by
   intro b y hb hno
   have h1:¬ ch b:=fun hc=>hno ⟨by rcases hc with h | h <;> omega,.inl hc⟩
   have hnr:¬ ((R.Hh j).size≤b∧b < (R.Hh (j + 1)).size):=fun h=>h1 (.inl h)
   refine ⟨h1,fOut b y hb hnr,by omega,?_⟩
   by_cases h:(R.Hh (j + 1)).size≤b
   ·exact .inl h
   ·exact .inr fun hg=>hno ⟨by omega,.inr hg⟩
  have deadOr:∀ (x:Blk),(∀ ro e cs,x ≠ .row ro e cs)→x=.dead:=fun x h=>by cases x with | dead=>rfl | row ro e cs=>exact h1Y rfl (h ro e cs)
  by_cases i1:inS b
  ·have hG:=inRow b i1.1 i1.2 (by rw [hb];simp)
   have hb1:=fC b _ hb i1.1
   by_cases i2:inS b'
   ·have hG':=inRow b' i2.1 i2.2 (by rw [hb'];simp)
    rw [← hG']
    exact hS.rel.sep b b' B o1 o2 e cs hb1 (fC b' _ hb' i2.1) hne (by rw [hG];exact hrow)
   ·obtain ⟨n1,n2,n3,n4⟩:=outF b' _ hb' i2
    rw [hκ2 b' n1]
    apply deadOr
    intro ro2 e2 cs2 hr2
    have hlt2:=((I.Rr b' B o2 n2).2.2.2.2 ro2 e2 cs2 hr2).lt
    -- who owned the block before
    have owner:∃ b0 o0 e0 cs0,cut φ (R.Hh j).size b0=some (B,o0)∧(o0w R φ κ j).blk b0=.row false e0 cs0:=by
     cases hc0:cut φ (R.Hh j).size b with
     | some z =>
      have:=hS.ext b z hc0
      rw [hb1] at this;cases this
      obtain ⟨cs0,h0⟩:=hS.kind b e cs (hmaskRel.lt b _ hc0) (by rw [hG];exact hrow)
      exact ⟨b,o1,e,cs0,hc0,h0⟩
     | none =>
      rcases hS.newB b B o1 hb1 hc0 with h | ⟨b0,o0,e0,cs0,h1,_,h2⟩
      ·omega
      ·exact ⟨b0,o0,e0,cs0,h1,h2⟩
    obtain ⟨b0,o0,e0,cs0,q1,q2⟩:=owner
    obtain ⟨q3,q4⟩:=b0A.1 q1
    obtain ⟨q5,q6⟩:=e0F q4 q2
    have hne0:b0 ≠ b':=by
     intro e;subst e
     rcases n4 with h | h
     ·omega
     ·exact h q5
    have:=I.P b0 b' B o0 o2 e0 cs0 q4 n2 hne0 (by rw [← q5.2];exact q6)
    rw [this] at hr2;cases hr2
  ·obtain ⟨n1,n2,n3,n4⟩:=outF b _ hb i1
   rw [hκ2 b n1] at hrow
   by_cases i2:inS b'
   ·have hG':=inRow b' i2.1 i2.2 (by rw [hb'];simp)
    have hb1':=fC b' _ hb' i2.1
    have hltb:=((I.Rr b B o1 n2).2.2.2.2 false e cs hrow).lt
    cases hc0:cut φ (R.Hh j).size b' with
    | none =>
     rcases hS.newB b' B o2 hb1' hc0 with h | ⟨b0,o0,e0,cs0,h1,_,h2⟩
     ·omega
     ·exfalso
      obtain ⟨q3,q4⟩:=b0A.1 h1
      obtain ⟨q5,q6⟩:=e0F q4 h2
      have hne0:b0 ≠ b:=by
       intro e;subst e
       rcases n4 with h | h
       ·omega
       ·exact h q5
      have:=I.P b0 b B o0 o1 e0 cs0 q4 n2 hne0 (by rw [← q5.2];exact q6)
      rw [this] at hrow;cases hrow
    | some z =>
     have hz:=hS.ext b' z hc0
     rw [hb1'] at hz;cases hz
     obtain ⟨q3,q4⟩:=b0A.1 hc0
     have hdead:=I.P b b' B o1 o2 e cs n2 q4 hne hrow
     by_cases hc:ch b'
     ·rw [hκ1 b' hc]
      rw [hκ1 b' hc] at hG'
      apply deadOr
      intro ro2 e2 cs2 hr2
      have hcd : (R.Hh (j + 1)).blk b' ≠ (R.Hh j).blk b' := by rcases hc with h | h; · omega
                                                               ·exact h.2
      cases ro2 with
      | false =>
       obtain ⟨cs0,h0⟩:=hS.kind b' e2 cs2 (by rw [e0v];exact q3) (by rw [hG'];exact hr2)
       obtain ⟨q5,q6⟩:=e0F q4 h0
       rw [← q5.2,q6] at hdead;cases hdead
      | true =>
       have:=hks.kindR b' e2 cs2 q3 hr2
       exact hcd (by rw [hr2,this])
     ·rw [hκ2 b' hc];exact hdead
   ·obtain ⟨m1,m2,m3,m4⟩:=outF b' _ hb' i2
    rw [hκ2 b' m1]
    exact I.P b b' B o1 o2 e cs n2 m2 hne hrow
 ·-- what has been written leads to what is known
  intro k sk hsk hSk hk2 b hb
  rcases hSk with h | h
  ·have:=I.W k sk hsk h hk2 b hb
   cases hφb:φ b with
   | none=>exact h1Y hφb this
   | some y=>rw [fA b y hφb];simp
  ·subst h
   have:=hW b hb
   cases hφb:φ b with
   | none=>exact h1Y hφb this
   | some y=>rw [fA b y hφb];simp
 ·-- held against the beginning
  have g:=I.glob
  refine
   { ext := fun b x h => fA b x (g.ext b x h)
     shp:=fun B x h=>hS.shp B x (g.shp B x h)
     wsz:=h1R g.wsz hS.wsz
     os:=hS.os.trans g.os
     tape:=hS.tape.trans g.tape
     out:=hS.out.trans g.out
     fresh:=fun b y hb hn=>by
      by_cases hc:(R.Hh j).size≤b∧b < (R.Hh (j + 1)).size
      ·exact h1R (C.szmono (i1C _) (by omega)) hc.1
      ·exact g.fresh b y (fOut b y hb hc) hn
     newB:=?_
     frame:=?_ }
  ·intro b B o1 hb hn
   have viaOld:∀ b0 o0 e0 cs0,φ b0=some (B,o0)→b0 < (R.Hh j).size→fl≤b0→(R.Hh j).blk b0=.row false e0 cs0→w0.heap.size≤B ∨ ∃ b0 o0 e cs,φ0 b0=some (B,o0)∧fl≤b0∧(R.Hh 0).blk b0=.row false e cs:=by
    intro b0 o0 e0 cs0 h1 h2 h3 h4
    cases h5:φ0 b0 with
    | none=>exact g.newB b0 B o0 h1 h5
    | some z =>
     have:=g.ext b0 z h5
     rw [h1] at this;cases this
     have hlt0:b0 < (R.Hh 0).size:=by
      by_cases h:b0 < (R.Hh 0).size
      ·exact h
      ·exfalso
       -- known from the beginning, so it was there
       have:=hφ0 b0 _ h5;omega
     obtain ⟨cs1,h6⟩:=(C.keep0 (by omega:j≤l.length)).2.kind b0 e0 cs0 hlt0 h4
     exact .inr ⟨b0,o0,e0,cs1,h5,h3,h6⟩
   by_cases hc:(R.Hh j).size≤b∧b < (R.Hh (j + 1)).size
   ·have hb1:=fC b _ hb hc.2
    have hcn:cut φ (R.Hh j).size b=none:=by unfold cut;rw [h1C (by omega)]
    rcases hS.newB b B o1 hb1 hcn with h | ⟨b0,o0,e0,cs0,h1,h2,h3⟩
    ·exact .inl (h1R g.wsz h)
    ·obtain ⟨q3,q4⟩:=b0A.1 h1
     obtain ⟨q5,q6⟩:=e0F q4 h3
     exact viaOld b0 o0 e0 cs0 q4 q3 h2 q6
   ·exact g.newB b B o1 (fOut b _ hb hc) hn
  ·intro B hB hno
   rw [hS.frame B (h1W hB g.wsz) ?_,g.frame B hB hno]
   intro b1 o2 e1 cs1 hb1 hfl1 hrow1
   obtain ⟨q3,q4⟩:=b0A.1 hb1
   obtain ⟨q5,q6⟩:=e0F q4 hrow1
   cases h5:φ0 b1 with
   | none =>
    rcases g.newB b1 B o2 q4 h5 with h | ⟨b0,o0,e0,cs0,h1,h2,h3⟩
    ·omega
    ·exact hno b0 o0 e0 cs0 h1 h2 h3
   | some z =>
    have:=g.ext b1 z h5
    rw [q4] at this;cases this
    have hlt0:b1 < (R.Hh 0).size:=hφ0 b1 _ h5
    obtain ⟨cs2,h6⟩:=(C.keep0 (by omega:j≤l.length)).2.kind b1 e1 cs1 hlt0 q6
    exact hno b1 o2 e1 cs2 h5 hfl1 h6
end
section
open Go
variable {X:Cx} {call:Nat→FuncId→List Value→a0f→Res (Value × a0f)} {fl:Nat} {ops:Array Oper} {l:List a0L} {bef:List Nat} {pairs:List (Nat × Nat)} {R:Run} (C:Ctx X call fl ops l bef pairs R)
variable {φ0 φ:Inj} {w0 w w':World} {Sd:Nat→Prop} {κ θ:Nat→Nat} {a:Act} (I:Inv X fl ops l bef R φ0 w0 Sd φ κ θ a w)
include C I
theorem Inv.final (hall:∀ k,k < l.length→Sd k) (hφ0:∀ b y,φ0 b=some y→b < (R.Hh 0).size) :
  CR X φ w.shape? (R.T l.length) a.tmps.toList∧d0p X fl φ0 (R.Hh 0) w0 φ (R.Hh l.length) w∧R.Pn l.length=none:=by
 have hrows:∀ b y,φ b=some y→(R.Hh l.length).blk b=(R.Hh (κ b)).blk b:=by
  intro b y hb
  obtain ⟨B,o1⟩:=y
  obtain ⟨h1,h2,h3,h4,h5⟩:=I.Rr b B o1 hb
  have:∀ m,κ b≤m→m≤l.length→(R.Hh m).blk b=(R.Hh (κ b)).blk b:=by
   intro m hm
   induction m with
   | zero=>intro _;congr 2;omega
   | succ m ih =>
    intro hml
    by_cases hc:κ b=m + 1
    ·rw [hc]
    ·rw [← ih (by omega) (by omega)]
     exact h4 m (by omega) (by omega) (hall m (by omega))
  exact this _ h1 (h1A _)
 have hdom:∀ b y,φ b=some y→b < (R.Hh l.length).size:=by
  intro b y hb
  obtain ⟨B,o1⟩:=y
  obtain ⟨h1,h2,_⟩:=I.Rr b B o1 hb
  exact h1W h2 (C.szmono h1 (h1A _))
 have g:=I.glob
 refine ⟨⟨?_,?_⟩,?_,?_⟩
 ·rw [C.tlen (h1A _)];simp [I.tlen]
 ·intro x hx
  rw [C.tlen (h1A _)] at hx
  obtain ⟨h1,h2,h3,h4⟩:=I.T x hx
  have:∀ m,θ x≤m→m≤l.length→get (R.T m) x=get (R.T (θ x)) x:=by
   intro m hm
   induction m with
   | zero=>intro _;congr 2;omega
   | succ m ih =>
    intro hml
    by_cases hc:θ x=m + 1
    ·rw [hc]
    ·rw [← ih (by omega) (by omega)]
     apply i1v
     intro hne
     obtain ⟨sm,hsm⟩:=C.sAt (by omega:m < l.length)
     exact h3 m sm (by omega) (hall m (by omega)) hsm (C.slot hsm hne).2
  have e1:=this _ h1 (h1A _)
  simp only [get] at e1 h4
  rw [e1,← a0T a.tmps]
  exact h4.mono (fun b y h=>(b0A.1 h).2) (fun _ _ h=>h)
 ·have hk:=(C.keep0 (h1A _)).2
  refine
   { ext := g.ext
     rel:=?_
     shp:=g.shp
     wsz:=g.wsz
     os:=g.os
     tape:=g.tape
     out:=g.out
     hsz:=hk.size
     keep:=fun b hb=>hk.low b hb
     kind:=fun b e cs hb h=>hk.kind b e cs hb h
     fresh:=g.fresh
     newB:=g.newB
     frame:=g.frame }
  refine { bs:=I.base,lt:=fun b x h=>hdom b x h,row:=?_,sep:=?_ }
  ·intro b B o1 ro e cs hb hrow
   obtain ⟨c,el,fz,k1,k2,k3,k4⟩:=(I.Rr b B o1 hb).2.2.2.2 ro e cs (by rw [← hrows b _ hb];exact hrow)
   exact ⟨c,el,fz,k1,k2,k3.mono (fun b y h=>(b0A.1 h).2) (fun _ _ h=>h),k4⟩
  ·intro b b' B o1 o2 e cs hb hb' hne hrow
   rw [hrows b' _ hb']
   exact I.P b b' B o1 o2 e cs hb hb' hne (by rw [← hrows b _ hb];exact hrow)
 ·cases hp:R.Pn l.length with
  | none=>rfl
  | some pv =>
   obtain ⟨p,v⟩:=pv
   obtain ⟨h1,h2⟩:=C.pan (h1A _) p v hp
   have:=I.done p h1 (hall p h1)
   omega
theorem Inv.panned {j:Nat} {s:a0L} (hs:l[j]? = some s) (hnj:¬ Sd j) (hpre:∀ i,b0s bef i j=true→Sd i) (hφ0:∀ b y,φ0 b=some y→b < (R.Hh 0).size)
  (hp:Pan X fl (cut φ (R.Hh j).size) (o0w R φ κ j) w w'):Pan X fl φ0 (R.Hh 0) w0 w':=by
 have hj:j < l.length:=(i1f.1 hs).1
 have g:=I.glob
 refine { shp:=fun B x h=>hp.shp B x (g.shp B x h),wsz:=h1R g.wsz hp.wsz,os:=hp.os.trans g.os,tape:=hp.tape.trans g.tape,out:=hp.out.trans g.out,frame:=?_ }
 intro B hB hno
 rw [hp.frame B (h1W hB g.wsz) ?_,g.frame B hB hno]
 intro b1 o2 e1 cs1 hb1 hfl1 hrow1
 obtain ⟨q3,q4⟩:=b0A.1 hb1
 obtain ⟨q5,q6⟩:=e0F q4 hrow1
 cases h5:φ0 b1 with
 | none =>
  rcases g.newB b1 B o2 q4 h5 with h | ⟨b0,o0,e0,cs0,h1,h2,h3⟩
  ·omega
  ·exact hno b0 o0 e0 cs0 h1 h2 h3
 | some z =>
  have:=g.ext b1 z h5
  rw [q4] at this;cases this
  have hlt0:b1 < (R.Hh 0).size:=hφ0 b1 _ h5
  obtain ⟨cs2,h6⟩:=(C.keep0 (by omega:j≤l.length)).2.kind b1 e1 cs1 hlt0 q6
  exact hno b1 o2 e1 cs2 h5 hfl1 h6
def r0t (us:List Nat) (n:Nat) (f:Nat→Value):List Value:=(List.range n).map fun x=>if x ∈ us then f x else undef
omit C I in
theorem r0u (us:List Nat) (n:Nat) (f:Nat→Value) (x:Nat):(r0t us n f).getD x undef=if x < n∧x ∈ us then f x else undef:=by
 unfold r0t
 simp only [h1z,i1Q]
 by_cases hx:x < n
 ·rw [j1m hx]
  simp [hx]
 ·rw [h1M (by simp;omega)]
  simp [hx]
theorem Inv.one (hφ0:∀ b y,φ0 b=some y→b < (R.Hh 0).size) {j:Nat} {s:a0L} {o:Oper} (hs:l[j]? = some s) (ho:ops[j]? = some o) (hco:∃ ln,g0y X.P ops ln o=some s) (hnj:¬ Sd j)
  (hpre:∀ i,b0s bef i j=true→Sd i) {K:Act→World→Prop} {Q:Exit→Act→World→Prop}
  (hK:∀ φ' κ' θ' a' w',Inv X fl ops l bef R φ0 w0 (fun k=>Sd k ∨ k=j) φ' κ' θ' a' w'→K a' w')
  (hQ:R.st j=3→∀ ty u w',Pan X fl φ0 (R.Hh 0) w0 w'→Q (.panic [{ v:=.iface ty u,recovered:=false }]) a w'):wpOp X.P ops Q j K a w:=by
 have hj:j < l.length:=(i1f.1 hs).1
 obtain ⟨ln,hco⟩:=hco
 obtain ⟨hcop,hflat,hdst⟩:=e0e hco
 have hslot:=fun {x:Nat}=>Inv.slot C I hs ho hnj hpre (x:=x)
 have hrel:=Inv.rel C I hs hnj hpre
 have hTlen:=C.tlen (show j≤l.length by omega)
 -- the guard
 have hwant:Region.wanted o (yielded ops a.tmps)=b0g (R.T j) s.g:=by
  refine n0x (φ:=cut φ (R.Hh j).size) (S:=w.shape?) (X:=X) hco ?_
  intro d want hg
  by_cases hd:d < (R.T 0).length
  ·exact hslot hd (by simp [i0t,hg])
  ·have e1:get (R.T j) d=undef:=by
    unfold get;rw [h1z,h1M (by omega)];rfl
   have e2:a.tmps.getD d undef=undef:=by
    have:=I.tlen
    rw [h1N,j1B (by omega)];rfl
   rw [e1,e2];exact VR.undef
 unfold wpOp
 simp only [ho]
 rw [hwant]
 -- the frame with the slots that matter alone
 have hmaskT:CR X (cut φ (R.Hh j).size) w.shape? (r0t (i0t o s) (R.T 0).length (fun x=>get (R.T j) x)) (r0t (i0t o s) (R.T 0).length (fun x=>a.tmps.getD x undef)):=by
  unfold r0t
  refine CR.of_mem_map _ _ _ ?_
  intro x hx
  have hx:=i1G.1 hx
  split
  ·rename_i hu;exact hslot hx hu
  ·exact VR.undef
 let tj:b0b:=r0t (i0t o s) (R.T 0).length (fun x=>get (R.T j) x)
 let aj:Act:={ tmps:=(r0t (i0t o s) (R.T 0).length (fun x=>a.tmps.getD x undef)).toArray,defers:=a.defers }
 have hmaskT':CR X (cut φ (R.Hh j).size) w.shape? tj aj.tmps.toList:=by simpa [aj] using hmaskT
 have hev:∀ x ∈ a0y s.op,ev tj x=ev (R.T j) x:=by
  intro x hx
  cases x with
  | tmp d =>
   simp only [ev,get,tj,r0u]
   have hu:d ∈ i0t o s:=by
    unfold i0t
    simp only [i1g,List.mem_filterMap]
    exact .inl (.inl ⟨.tmp d,hx,rfl⟩)
   by_cases hd:d < (R.T 0).length
   ·rw [h1F ⟨hd,hu⟩]
   ·rw [h1C (fun h=>hd h.1),h1z,h1M (by omega)];rfl
  | const v=>rfl
  | fn f=>rfl
 have hexec:execOp a.eval o=execOp aj.eval o:=by
  refine execOp_congr o (fun cs b=>C.tab.nosel j o cs b ho) ?_
  intro x hx
  cases x with
  | tmp d =>
   have hu:d ∈ i0t o s:=by
    unfold i0t
    simp only [i1g,List.mem_filterMap]
    exact .inr ⟨.tmp d,by simpa using hx,rfl⟩
   simp only [Act.eval,aj]
   rw [a0T (r0t _ _ _).toArray]
   simp only [List.toList_toArray,r0u]
   by_cases hd:d < (R.T 0).length
   ·rw [h1F ⟨hd,hu⟩]
   ·have hle:a.tmps.size≤d:=by rw [I.tlen];exact Nat.le_of_not_lt hd
    rw [h1C (fun h=>hd h.1),h1N,j1B hle];rfl
  | const v=>rfl
  | func f=>rfl
  | global g=>rfl
 have hlowm:fl≤(o0w R φ κ j).size:=by rw [e0v];exact (C.keep0 (by omega:j≤l.length)).1
 -- what the operation comes to, in the masked state
 have hcallMask:way s.op=3→o0w R φ κ j=R.Hh j:=by
  intro hw
  apply Array.ext
  ·exact e0v _ _ _ _
  ·intro i h1 h2
   have hb:(o0w R φ κ j).blk i=(R.Hh j).blk i:=by
    rw [j0t]
    split
    ·rename_i hc
     exfalso
     cases hφi:φ i with
     | none=>exact hc.1 hφi
     | some y=>exact hc.2 (Inv.good C I hs hnj hpre hφi h2 (by omega) (.inl hw))
    ·rfl
   simpa [a0f.blk,h1N,i1n h1,i1n h2] using hb
 rcases C.run j s hs with h | h | h | h
 ·-- it g0Z on what has panicked: it is never come to
  exfalso
  have hh:=h.2.1
  cases hp:R.Pn j with
  | none=>rw [hp] at hh;cases hh
  | some pv =>
   obtain ⟨p,v⟩:=pv
   rw [hp] at hh
   have hS:=hpre p hh
   obtain ⟨h1,h2⟩:=C.pan (by omega:j≤l.length) p v hp
   have:=I.done p (by omega) hS
   omega
 ·-- not wanted
  rw [h.2.2.1]
  simp only [i1a,i1F]
  have:=Inv.after C I hs hnj hpre (v':=undef) (.inl h.1) (by rw [h.2.2.2.1];exact h.2.2.2.2.1) (by rw [h.2.2.2.2.2.1];exact Par.refl (e0v _ _ _ _)) (by rw [h.2.2.2.1];exact VR.undef) (d0p.refl hrel)
   (by intro b hb;rw [h.2.2.2.2.2.2.2] at hb;simp at hb) hφ0
  obtain ⟨φ',κ',θ',hI⟩:=this
  rw [← hdst]
  exact hK φ' κ' θ' _ _ hI
 ·rw [h.2.2.1]
  simp only [i1s]
  refine .inl ?_
  have htc:∀ b,b ∈ (R.tc j).1 ∨ b ∈ (R.tc j).2→way s.op ≠ 0:=by
   intro b hb
   rw [h.2.2.2.2.2.2] at hb
   rcases hb with hb | hb
   ·rcases z0o hb with h | h <;> omega
   ·have:=p0m hb;omega
  have hstep:∃ G1,b0D call fl tj (o0w R φ κ j) s.op=.ok (R.val j,G1)∧Par (R.Hh j) (R.Hh (j + 1)) (o0w R φ κ j) G1:=by
   rcases j0c h.2.2.2.1 with hv | ⟨f,args,lone,hc,hcl⟩
   ·obtain ⟨G1,g1,g2⟩:=A0Y hv (e0v R φ κ j) (fun b hb=>by
     rw [j0t]
     split
     ·rename_i hcnd
      rw [← h.2.2.2.2.2.2] at hb
      by_cases hlt:b < (R.Hh j).size
      ·exfalso
       cases hφb:φ b with
       | none=>exact hcnd.1 hφb
       | some y=>exact hcnd.2 (Inv.good C I hs hnj hpre hφb hlt (htc b hb) (.inr hb))
      ·exact (i0y (by omega)).symm
     ·rfl)
    refine ⟨G1,?_,g2⟩
    unfold b0D
    rw [j0x hev,g1]
   ·have hm:=hcallMask (f0h hc).1
    refine ⟨R.Hh (j + 1),?_,?_⟩
    ·unfold b0D
     rw [j0x hev,i0D hc fl (o0w R φ κ j),hm]
     exact hcl
    ·rw [hm];exact ⟨rfl,fun _ _ e=>e,fun _ _ _=>rfl,fun _ _=>rfl⟩
  obtain ⟨G1,hst1,hpar⟩:=hstep
  refine l0G (o:=o) C.callOk hcop hflat hrel hmaskT' hlowm hst1 a hexec (fun φ1 v' w' hv hS=>?_)
  have hW:∀ b,b ∈ (R.tc j).2→φ b ≠ none:=by
   intro b hb
   rw [h.2.2.2.2.2.2,← v0u hev] at hb
   -- its operand leads there
   have key:∀ x ∈ a0y s.op,(b ∈ blkW (ev tj x) ∨ ∃ p,ev tj x=.pointer (some p)∧b=p.block)→φ b ≠ none:=by
    intro x hx hbx
    have hvx:∃ u,VR X (cut φ (R.Hh j).size) w.shape? (ev tj x) u:=by
     cases x with
     | tmp d=>exact ⟨_,by simpa [ev,get] using hmaskT'.get d⟩
     | const v =>
      have:=i1p.1 hflat _ hx
      exact ⟨v,m0i this⟩
     | fn f=>exact ⟨_,.func _ _ _ _ _ rfl (fun i hi=>by simp at hi) rfl (fun i hi=>by simp at hi)⟩
    obtain ⟨u,hvx⟩:=hvx
    generalize ev tj x=vv at hvx hbx
    cases hvx <;> simp [blkW] at hbx
    ·rename_i B o1 g1 g2 g3;subst hbx;rw [(b0A.1 g2).2];simp
    ·rename_i B o1 g1 g2 _ _ _ _ _ _;obtain ⟨_,hbx⟩:=hbx;subst hbx;rw [(b0A.1 g2).2];simp
   cases hop:s.op <;> rw [hop] at hb <;> simp only [d0a] at hb
   case store n x y =>
    have hop2:=hop
    have hbp:∃ p,ev tj x=.pointer (some p):=by
     have h3:=h.2.2.2.1
     have hx:ev tj x=ev (R.T j) x:=hev x (by rw [hop];simp [a0y])
     rw [hx]
     rw [hop] at h3
     simp only [b0D,opA] at h3
     cases hq:ev (R.T j) x <;> simp [hq] at h3
     rename_i p;cases p <;> simp at h3
     exact ⟨_,rfl⟩
    obtain ⟨p,hp⟩:=hbp
    rw [hp] at hb
    simp only [blkOf,k1v] at hb
    exact key x (by rw [hop];simp [a0y]) (.inr ⟨p,hp,hb⟩)
   case app e n bb x y=>exact key x (by rw [hop];simp [a0y]) (.inl hb)
   all_goals (simp at hb)
  obtain ⟨φ',κ',θ',hI⟩:=Inv.after C I hs hnj hpre (.inr h.1) h.2.2.2.2.1 hpar hv hS hW hφ0
  rw [← hdst]
  exact hK φ' κ' θ' _ _ hI
 ·-- it panics
  rw [h.2.2.1]
  simp only [i1s]
  refine .inl ?_
  have hstep:b0D call fl tj (o0w R φ κ j) s.op=.pan (R.val j):=by
   have hp:=h.2.2.2.1
   unfold b0D at hp ⊢
   split at hp
   ·cases hp
   ·rename_i v1 hv
    simp only [Res.pan.injEq] at hp;subst hp
    obtain ⟨_,x,hx1,hx2⟩:=f0W hv
    have:opA fl tj (o0w R φ κ j) s.op=.pan (R.val j):=by
     rw [j0x hev,hx1]
     rw [hx1] at hv
     simpa [opA] using hv
    rw [this]
   ·cases hp
   ·rename_i f args lone hc
    have hm:=hcallMask (f0h hc).1
    rw [j0x hev,i0D hc fl (o0w R φ κ j),hm]
    exact hp
  refine s0R (o:=o) C.callOk hcop hflat hrel hmaskT' hlowm hstep a hexec (fun ty u w' hp=>hQ h.1 ty u w' (Inv.panned C I hs hnj hpre hφ0 hp))
end
section
open Go
variable {X:Cx} {call:Nat→FuncId→List Value→a0f→Res (Value × a0f)}
def left (listed:Array Bool) (n:Nat):Nat:=((List.range n).filter fun k=>!listed.getD k false).length
theorem A0J {listed:Array Bool} {n:Nat} (h:left listed n=0):∀ k,k < n→listed.getD k false=true:=by
 intro k hk
 unfold left at h
 have:=i1i.1 h
 rw [List.filter_eq_nil_iff] at this
 have:=this k (i1G.2 hk)
 simpa using this
theorem L0n {listed:Array Bool} {n j:Nat} (hj:j < n) (hsz:listed.size=n) (hn:listed.getD j false=false):left listed n=left (listed.setIfInBounds j true) n + 1:=by
 unfold left
 have key:∀ m,m≤n→((List.range m).filter fun k=>!listed.getD k false).length=((List.range m).filter fun k=>!(listed.setIfInBounds j true).getD k false).length + if j < m then 1 else 0:=by
  intro m
  induction m with
  | zero=>intro _;simp
  | succ m ih =>
   intro hm
   have ih:=ih (by omega)
   rw [k1w,List.filter_append,List.filter_append,i1l,i1l,ih]
   by_cases hjm:j=m
   ·subst hjm
    have e1:(listed.setIfInBounds j true).getD j false=true:=by
     simp only [h1N,i1j]
     simp [show j < listed.size by omega]
    simp only [List.filter_cons,List.filter_nil,hn,e1]
    simp
   ·have e1:(listed.setIfInBounds j true).getD m false=listed.getD m false:=getD_set_ne false hjm
    simp only [List.filter_cons,List.filter_nil,e1]
    have:(j < m + 1) ↔ (j < m):=by omega
    simp only [this]
    omega
 have:=key n (h1A _)
 rw [h1F hj] at this
 exact this
theorem N0t {listed:Array Bool} {n j:Nat} (hj:j < n) (hsz:listed.size=n) (k:Nat):(listed.setIfInBounds j true).getD k false=true ↔ listed.getD k false=true ∨ k=j:=by
 by_cases hk:k=j
 ·subst hk
  simp only [h1N,i1j]
  simp [show k < listed.size by omega]
 ·rw [getD_set_ne false (fun e=>hk e.symm)]
  simp [hk]
theorem z0W (hcall:d0Z X call) (hkeep:h0H call) (hmix:X.P.follows .mixedOrders=true):r0n X call:=by
 intro ops l bef pairs hc D fl t H φ w a hR hT hfl hd hne id
 have tab:=N0z hc
 obtain ⟨R0,s1,s2,s3,s4,s5,s6⟩:=U0f l 0 t H none [] hne
 obtain ⟨R,rD,r1,r2,r3,r4,r5,r6⟩:∃ R:Run,R.ds=D∧R.T 0=t∧R.Hh 0=H∧R.Pn 0=none∧(∀ m s,l[m]? = some s→j0g call fl bef R (0 + m) s)∧c0P (([]:List (List Nat × List Nat)).reverse ++ (List.range' 0 l.length).map R.tc) pairs=true ∧
   b0S call fl bef pairs 0 l t H none []=match R.Pn (0 + l.length) with | none=>.fin .normal (R.T (0 + l.length)) (R.Hh (0 + l.length)) | some (_,v)=>.pan v :=
  ⟨{ R0 with ds:=D },rfl,s1,s2,s3,s4,s5,s6⟩
 simp only [i1o] at r4 r6
 have C:Ctx X call fl ops l bef pairs R:=⟨hcall,hkeep,tab,r4,by simpa using r5,r3,by rw [r2];exact hfl⟩
 have hφ0:∀ b y,φ b=some y→b < (R.Hh 0).size:=fun b y h=>by rw [r2];exact hR.lt b y h
 have hlen:=tab.len
 rw [r6]
 -- what a panic makes of the end
 have hend:∀ j,j < l.length→R.st j=3→∃ v,R.Pn l.length=some (j,v):=by
  intro j hj h3
  obtain ⟨s,hs⟩:=C.sAt hj
  have hpn:R.Pn (j + 1)=some (j,R.val j):=by
   rcases C.run j s hs with h | h | h | h
   ·have:=h.1;omega
   ·have:=h.1;omega
   ·have:=h.1;omega
   ·exact h.2.2.2.2.2.1
  have:∀ m,j + 1≤m→m≤l.length→R.Pn m=some (j,R.val j):=by
   intro m hm
   induction m with
   | zero=>omega
   | succ m ih =>
    intro hml
    by_cases hjm:j=m
    ·subst hjm;exact hpn
    ·have ih:=ih (by omega) (by omega)
     obtain ⟨sm,hsm⟩:=C.sAt (by omega:m < l.length)
     rcases C.run m sm hsm with h | h | h | h
     ·rw [h.2.2.2.2.1];exact ih
     ·rw [h.2.2.2.2.2.2.1];exact ih
     ·rw [h.2.2.2.2.2.1];exact ih
     ·rw [ih] at h;have:=h.2.2.2.2.1;cases this
  exact ⟨_,this _ (by omega) (h1A _)⟩
 refine wp_region_any hmix ?_
 -- from whatever has run
 have key:∀ (fuel:Nat) (listed:Array Bool) (φ1:Inj) (κ θ:Nat→Nat) (a1:Act) (w1:World),listed.size=ops.size→left listed ops.size=fuel →
   Inv X fl ops l bef R φ w.drew (fun k=>listed.getD k false=true) φ1 κ θ a1 w1 →
   wpAny X.P .any ops (K0q X D fl φ H w (match R.Pn l.length with | none=>.fin .normal (R.T l.length) (R.Hh l.length) | some (_,v)=>.pan v)) fuel listed a1 w1:=by
  intro fuel
  induction fuel with
  | zero =>
   intro listed φ1 κ θ a1 w1 hsz hleft I
   have hall:=A0J hleft
   obtain ⟨f1,f2,f3⟩:=Inv.final C I (fun k hk=>hall k (by omega)) hφ0
   refine ⟨?_,?_⟩
   ·unfold Region.ready
    rw [List.filter_eq_nil_iff]
    intro k hk
    have hk:=i1G.1 hk
    have:=hall k hk
    have e:listed.getD k true=true:=by
     simp only [h1N] at this ⊢
     rw [i1n (by omega)] at this ⊢
     simpa using this
    simp [e]
   ·rw [f3]
    refine ⟨rfl,I.defers.trans rD,φ1,f1,?_⟩
    rw [r2] at f2
    exact { f2 with }
  | succ fuel ih =>
   intro listed φ1 κ θ a1 w1 hsz hleft I
   refine ⟨fun hnil=>?_,fun j hj=>?_⟩
   ·-- something is still to run,and the first of it is ready
    exfalso
    have hex:∃ k,k < ops.size∧listed.getD k false=false:=by
     apply i1v
     intro hno
     have:left listed ops.size=0:=by
      unfold left
      rw [i1i,List.filter_eq_nil_iff]
      intro k hk
      have hk:=i1G.1 hk
      intro hh
      exact hno ⟨k,hk,by simpa using hh⟩
     omega
    obtain ⟨k,hk,hmin⟩:∃ k,(k < ops.size∧listed.getD k false=false)∧∀ m,m < k→listed.getD m false=true:=by
     obtain ⟨k0,h1,h2⟩:=hex
     induction k0 using Nat.strongRecOn with
     | _ k0 ih2 =>
      by_cases hm:∃ m,m < k0∧listed.getD m false=false
      ·obtain ⟨m,h3,h4⟩:=hm
       exact ih2 m h3 (by omega) h4
      ·refine ⟨k0,⟨h1,h2⟩,fun m hm2=>?_⟩
       cases hl:listed.getD m false with
       | true=>rfl
       | false=>exact h1Y ⟨m,hm2,hl⟩ hm
    have hmem:k ∈ Region.ready .any ops listed:=by
     unfold Region.ready
     rw [List.mem_filter]
     refine ⟨i1G.2 hk.1,?_⟩
     have hok:ops[k]? = some ops[k]:=i1n hk.1
     have e:listed.getD k true=false:=by
      have:=hk.2
      simp only [h1N] at this ⊢
      rw [i1n (by omega)] at this ⊢
      simpa using this
     simp only [e,Bool.not_false,Bool.true_and,hok,i1U,i1k]
     rw [Array.all_eq_true']
     intro ed hed
     by_cases hb:Region.binds .any ed=true
     ·have:=tab.back k _ hok ed (by simpa using hed) hb
      simp [hmin _ this]
     ·simp [hb]
    rw [hnil] at hmem
    cases hmem
   ·obtain ⟨hjo,hjl,hpre⟩:=tab.ready hj (fun k hk hS i hi=>I.down k (by omega) hS i hi)
    have hnj:listed.getD j false=false:=by
     simp only [h1N] at hjl ⊢
     rw [i1n (by omega)] at hjl ⊢
     simpa using hjl
    obtain ⟨s,hs⟩:=C.sAt (by omega:j < l.length)
    obtain ⟨o,ho,hco⟩:=tab.op j s hs
    refine Inv.one C I hφ0 hs ho ⟨_,hco⟩ (by rw [hnj];simp) hpre (fun φ' κ' θ' a' w' hI=>?_) (fun h3 ty u w' hp=>?_)
    ·refine ih _ φ' κ' θ' a' w' (by simp [hsz]) (by have:=L0n hjo hsz hnj;omega) ?_
     have e:(fun k=>(listed.setIfInBounds j true).getD k false=true)=(fun k=>listed.getD k false=true ∨ k=j):=by
      funext k;exact k1B (N0t hjo hsz k)
     rw [e];exact hI
    ·obtain ⟨v,hv⟩:=hend j (by omega) h3
     rw [hv]
     refine ⟨⟨ty,u,rfl⟩,I.defers.trans rD,?_⟩
     rw [r2] at hp
     exact { hp with }
 refine key ops.size _ φ (fun _=>0) (fun _=>0) a w.drew (by simp) ?_ ?_
 ·unfold left
  have:(List.range ops.size).filter (fun k=>!(Array.replicate ops.size false).getD k false)=List.range ops.size:=by
   rw [List.filter_eq_self]
   intro k hk
   have hk:=i1G.1 hk
   simp [h1N,hk]
  rw [this];simp
 ·have hnone:∀ k,¬ ((Array.replicate ops.size false).getD k false=true):=by
   intro k
   simp only [h1N,Array.getElem?_replicate]
   split <;> simp
  have hcutφ:∀ b y,φ b=some y→cut φ (R.Hh 0).size b=some y:=fun b y h=>b0A.2 ⟨hφ0 b y h,h⟩
  refine
   { done := fun k _ h => h1Y h (hnone k)
     down:=fun j _ h=>h1Y h (hnone j)
     tlen:=?_
     defers:=hd.trans rD.symm
     base:=hR.bs
     T:=?_
     D:=fun b y h=>.inl (hφ0 b y h)
     Rr:=?_
     P:=?_
     W:=fun k s _ h=>h1Y h (hnone k)
     glob:=⟨fun _ _ h=>h,fun _ _ h=>h,h1A _,rfl,rfl,rfl,(fun b y h h'=>by rw [h] at h';cases h'),(fun b B o h h'=>by rw [h] at h';cases h'),fun _ _ _=>rfl⟩ }
  ·rw [r1];have:=hT.1;simp at this;omega
  ·intro x hx
   refine ⟨i1C _,.inl rfl,fun k s _ h=>h1Y h (hnone k),?_⟩
   have:=hT.get x
   rw [r1,a0T]
   exact this.mono hcutφ (fun _ _ h=>h)
  ·intro b B o1 hb
   refine ⟨i1C _,hφ0 b _ hb,.inl rfl,fun k _ _ h=>h1Y h (hnone k),?_⟩
   intro ro e cs hrow
   rw [r2] at hrow
   obtain ⟨c,el,fz,k1,k2,k3,k4⟩:=hR.row b B o1 ro e cs hb hrow
   exact ⟨c,el,fz,k1,k2,k3.mono hcutφ (fun _ _ h=>h),k4⟩
  ·intro b b' B o1 o2 e cs hb hb' hne2 hrow
   rw [r2] at hrow ⊢
   exact hR.sep b b' B o1 o2 e cs hb hb' hne2 hrow
end
section
open Go
end
section
open Go
variable {X:Cx} {φ φ':Inj} {H H':a0f} {w w':World} {fl:Nat} {t:b0b} {a:Act}
theorem Rel.row_lt (hR:Rel X φ H w) {b B o:Nat} {ro:Bool} {e:TypeId} {cs:List Value} (h:φ b=some (B,o)) (hk:H.blk b=.row ro e cs):B < w.heap.size:=by
 obtain ⟨c,el,fz,h1,_⟩:=hR.row b B o ro e cs h hk
 exact (i1q.1 h1).1
theorem Rel.agree (hR:Rel X φ H w) (hb:X.base≤w'.heap.size) (hshp:∀ B x,w.shape? B=some x→w'.shape? B=some x)
  (hold:∀ b B o ro e cs,φ b=some (B,o)→H.blk b=.row ro e cs→w'.heap[B]? = w.heap[B]?):Rel X φ H w' :=
 ⟨hb,hR.lt,fun b B o ro e cs h1 h2=>by
  obtain ⟨c,el,fz,h3,h4,h5,h6⟩:=hR.row b B o ro e cs h1 h2
  exact ⟨c,el,fz,by rw [hold b B o ro e cs h1 h2];exact h3,h4,h5.mono (fun _ _ h=>h) hshp,h6⟩,hR.sep⟩
def ad (φ:Inj) (n B o:Nat):Inj:=fun b=>if b=n then some (B,o) else φ b
theorem Y0b {n B o:Nat}:ad φ n B o n=some (B,o):=by unfold ad;rw [h1F rfl]
theorem v0K (hR:Rel X φ H w) {B o b:Nat} {x:Nat × Nat} (h:φ b=some x):ad φ H.size B o b=some x:=by
 unfold ad;rw [h1C (by have:=hR.lt b x h;omega)];exact h
theorem g0O (hR:Rel X φ H w) {B o b:Nat} {x:Nat × Nat} (h:ad φ H.size B o b=some x):(b=H.size∧x=(B,o)) ∨ (b < H.size∧φ b=some x):=by
 unfold ad at h
 split at h
 ·rename_i hb;exact .inl ⟨hb,by simpa using h.symm⟩
 ·exact .inr ⟨hR.lt b x h,h⟩
theorem Rel.adopt (hR:Rel X φ H w) {B o:Nat} {e:TypeId} {cs:List Value} {c:Array Value} (hB:w.heap[B]? = some (.cells c e (0,0))) (hle:o + cs.length≤c.size)
  (hc:CR X φ w.shape? cs ((c.toList.drop o).take cs.length)) (hbase:X.base≤B) (hno:∀ b o ro e' cs',φ b=some (B,o)→H.blk b ≠ .row ro e' cs'):Rel X (ad φ H.size B o) (H.push (.row false e cs)) w:=by
 have hext:∀ b x,φ b=some x→ad φ H.size B o b=some x:=fun b x h=>v0K hR h
 have hdead:∀ b o,φ b=some (B,o)→H.blk b=.dead:=by
  intro b o h
  cases hk:H.blk b with
  | dead=>rfl
  | row ro e' cs'=>exact h1Y hk (hno b o ro e' cs' h)
 refine ⟨hR.bs,?_,?_,?_⟩
 ·intro b x h
  rw [j1b]
  rcases g0O hR h with ⟨h1,_⟩ | ⟨h1,_⟩ <;> omega
 ·intro b B1 o1 ro e1 cs1 h1 h2
  rw [a0K] at h2
  rcases g0O hR h1 with ⟨rfl,h3⟩ | ⟨h3,h4⟩
  ·rw [h1F rfl] at h2;cases h2;cases h3
   exact ⟨c,e,(0,0),hB,hle,hc.mono hext (fun _ _ h=>h),fun _=>⟨hbase,rfl,rfl⟩,fun h=>by cases h⟩
  ·rw [h1C (by omega)] at h2
   obtain ⟨c1,el,fz,g1,g2,g3,g4⟩:=hR.row b B1 o1 ro e1 cs1 h4 h2
   exact ⟨c1,el,fz,g1,g2,g3.mono hext (fun _ _ h=>h),g4⟩
 ·intro b b' B1 o1 o' e1 cs1 h1 h2 hne h3
  rw [a0K] at h3 ⊢
  rcases g0O hR h1 with ⟨rfl,h4⟩ | ⟨h4,h5⟩
  ·cases h4
   rcases g0O hR h2 with ⟨rfl,_⟩ | ⟨h6,h7⟩
   ·exact h1Y rfl hne
   ·rw [h1C (by omega)];exact hdead b' o' h7
  ·rw [h1C (by omega)] at h3
   rcases g0O hR h2 with ⟨rfl,h6⟩ | ⟨h6,h7⟩
   ·cases h6;exact h1Y h3 (hno b o1 _ _ _ h5)
   ·rw [h1C (by omega)];exact hR.sep b b' B1 o1 o' e1 cs1 h5 h7 hne h3
theorem Rel.adopt0 (hR:Rel X φ H w) (B o:Nat):Rel X (ad φ H.size B o) (H.push .dead) w:=by
 have hext:∀ b x,φ b=some x→ad φ H.size B o b=some x:=fun b x h=>v0K hR h
 refine ⟨hR.bs,?_,?_,?_⟩
 ·intro b x h
  rw [j1b]
  rcases g0O hR h with ⟨h1,_⟩ | ⟨h1,_⟩ <;> omega
 ·intro b B1 o1 ro e1 cs1 h1 h2
  rw [a0K] at h2
  rcases g0O hR h1 with ⟨rfl,h3⟩ | ⟨h3,h4⟩
  ·rw [h1F rfl] at h2;cases h2
  ·rw [h1C (by omega)] at h2
   obtain ⟨c1,el,fz,g1,g2,g3,g4⟩:=hR.row b B1 o1 ro e1 cs1 h4 h2
   exact ⟨c1,el,fz,g1,g2,g3.mono hext (fun _ _ h=>h),g4⟩
 ·intro b b' B1 o1 o' e1 cs1 h1 h2 hne h3
  rw [a0K] at h3 ⊢
  rcases g0O hR h1 with ⟨rfl,h4⟩ | ⟨h4,h5⟩
  ·rw [h1F rfl] at h3;cases h3
  ·rw [h1C (by omega)] at h3
   rcases g0O hR h2 with ⟨rfl,h6⟩ | ⟨h6,h7⟩
   ·rw [h1F rfl]
   ·rw [h1C (by omega)];exact hR.sep b b' B1 o1 o' e1 cs1 h5 h7 hne h3
theorem VR.back {f0:Nat} (hR:Rel X φ H w) (h:d0p X f0 φ H w φ' H' w') {S S':Shp} {v u u':Value} (k:VR X φ S v u) (k':VR X φ' S' v u'):VR X φ S' v u':=by
 refine (VR.cut (m:=H.size) (fun b y hb=>hR.lt b y hb) k k').mono (fun b x hx=>?_) (fun _ _ h=>h)
 obtain ⟨h1,h2⟩:=b0A.1 hx
 cases hb:φ b with
 | none=>have:=h.fresh b x h2 hb;omega
 | some y=>rw [h.ext b y hb] at h2;exact h2
theorem CR.back {f0:Nat} (hR:Rel X φ H w) (h:d0p X f0 φ H w φ' H' w') {S S':Shp} {l m m':List Value} (k:CR X φ S l m) (k':CR X φ' S' l m'):CR X φ S' l m' :=
 ⟨k'.1,fun i hi=>VR.back hR h (k.2 i hi) (k'.2 i hi)⟩
theorem d0p.own_new (hR:Rel X φ H w) (h:d0p X H.size φ H w φ' H' w') {b B o:Nat} (hb:φ' b=some (B,o)) (hn:φ b=none):w.heap.size≤B:=by
 rcases h.newB b B o hb hn with h1 | ⟨b0,o0,e,cs,h1,h2,h3⟩
 ·exact h1
 ·have:=hR.lt b0 _ h1;omega
theorem d0p.old (hR:Rel X φ H w) (h:d0p X H.size φ H w φ' H' w') {B:Nat} (hB:B < w.heap.size):w'.heap[B]? = w.heap[B]? :=
 h.frame B hB fun b o e cs h1 h2=>by have:=hR.lt b _ h1;omega
theorem d0p.rel0 (hR:Rel X φ H w) (h:d0p X H.size φ H w φ' H' w'):Rel X φ H w' :=
 hR.agree (h1R hR.bs h.wsz) h.shp fun b B o ro e cs h1 h2=>h.old hR (hR.row_lt h1 h2)
theorem r0a {call:Nat→FuncId→List Value→a0f→Res (Value × a0f)} (hcall:d0Z X call) {ops:Array Oper} {Q:Exit→Act→World→Prop} {rest:List Nat} {t':b0b} {H':a0f} :
  ∀ (r:List a0L) (k:Nat) (t:b0b) (H:a0f) (φ:Inj) (w:World) (a:Act),
  (∀ i s,r[i]? = some s→∃ o,ops[k + i]? = some o∧g0y X.P ops true o=some s)→Rel X φ H w→CR X φ w.shape? t a.tmps.toList→fl≤H.size→f0a call fl r t H=.fin .normal t' H' →
  (∀ φ' a' w',CR X φ' w'.shape? t' a'.tmps.toList→d0p X fl φ H w φ' H' w'→a'.defers=a.defers→wpOps X.P ops Q rest a' w') →
  wpOps X.P ops Q (List.range' k r.length ++ rest) a w
 | [],k,t,H,φ,w,a,_,hR,hT,_,he,hK=>by
  simp only [f0a,Out.fin.injEq] at he
  obtain ⟨_,rfl,rfl⟩:=he
  exact hK φ a w hT (d0p.refl hR) rfl
 | s :: r,k,t,H,φ,w,a,hops,hR,hT,hfl,he,hK=>by
  obtain ⟨o,ho,hco⟩:=hops 0 s rfl
  simp only [i1J] at ho
  obtain ⟨hc,hf,hdst⟩:=e0e hco
  have hw:=p0p hco hT
  have hops':∀ i s',r[i]? = some s'→∃ o,ops[k + 1 + i]? = some o∧g0y X.P ops true o=some s':=fun i s' hi=>by
   obtain ⟨o',h1,h2⟩:=hops (i + 1) s' (by simpa using hi)
   exact ⟨o',by rw [← h1];congr 1;omega,h2⟩
  rw [i1D,k1h,j1S]
  unfold wpOps
  simp only [ho]
  simp only [f0a] at he
  by_cases hwt:b0g t s.g=true
  ·rw [hw,h1F hwt]
   simp only [hwt,i1s] at he
   refine .inl ?_
   cases hs:b0D call fl t H s.op with
   | bad=>simp [hs] at he
   | pan v=>simp [hs] at he
   | ok vH =>
    obtain ⟨v,H1⟩:=vH
    simp only [hs] at he
    refine l0G hcall hc hf hR hT hfl hs a rfl (fun φ' v' w' hvr hst=>?_)
    have hT':CR X φ' w'.shape? t a.tmps.toList:=hT.mono hst.ext hst.shp
    refine r0a hcall r (k + 1) (put t s.dst v) H1 φ' w' (a.put o.dst v') hops' hst.rel (by rw [hdst];exact i0Y hT' hvr o.dst) (h1R hfl hst.hsz) he (fun φ2 a2 w2 h1 h2 h3=>?_)
    exact hK φ2 a2 w2 h1 (hst.trans h2 (h1A _) hR) (by rw [h3,c0E])
  ·rw [hw,h1C hwt]
   simp only [j1D] at hwt
   simp only [hwt,i1a,i1F] at he
   refine r0a hcall r (k + 1) (put t s.dst undef) H φ w (a.put o.dst undef) hops' hR (by rw [hdst];exact i0Y hT VR.undef o.dst) hfl he (fun φ2 a2 w2 h1 h2 h3=>?_)
   exact hK φ2 a2 w2 h1 h2 (by rw [h3,c0E])
def k0g (j:Nat) (o:Oper):Bool:=o.guard.isNone && j0v o && o.op.operands.toList.all fun | .tmp i=>i != j | _=>true
theorem x0V {j:Nat} {o:Oper} (hb:k0g j o=true) {a b:Act} (h:∀ i,i ≠ j→b.tmps.getD i undef=a.tmps.getD i undef):execOp b.eval o=execOp a.eval o:=by
 unfold k0g at hb
 simp only [h1S,i1p] at hb
 obtain ⟨⟨h1,h2⟩,h3⟩:=hb
 refine execOp_congr o (fun cs bl he=>by unfold j0v at h2;rw [he] at h2;cases h2) ?_
 intro x hx
 cases x with
 | tmp d =>
  have:=h3 (.tmp d) (by simpa using hx)
  simp only [bne_iff_ne,ne_eq] at this
  simp only [Act.eval]
  exact h d this
 | const v=>rfl
 | func f=>rfl
 | global g=>rfl
theorem B0E {j:Nat} {a b:Act} (h:∀ i,i ≠ j→b.tmps.getD i undef=a.tmps.getD i undef) (hs:b.tmps.size=a.tmps.size) (d:Option Nat) (v:Value) :
  (∀ i,i ≠ j→(b.put d v).tmps.getD i undef=(a.put d v).tmps.getD i undef)∧(b.put d v).tmps.size=(a.put d v).tmps.size:=by
 cases d with
 | none=>exact ⟨h,hs⟩
 | some d =>
  refine ⟨fun i hi=>?_,by simpa [Act.put] using hs⟩
  simp only [Act.put,h1N,i1j,hs]
  have:=h i hi
  simp only [h1N] at this
  by_cases hid:d=i
  ·simp [hid]
  ·simp [hid,this]
theorem s0L {call:Nat→FuncId→List Value→a0f→Res (Value × a0f)} (hcall:d0Z X call) {j:Nat} {ops:Array Oper} {Q:Exit→Act→World→Prop} {t':b0b} {H':a0f} (hbl:ops.toList.all (k0g j)=true) :
  ∀ (r:List a0L) (k:Nat) (t:b0b) (H:a0f) (φ:Inj) (w:World) (a b:Act),
  (∀ i s,r[i]? = some s→s.g=none∧∃ o,ops[k + i]? = some o∧g0y X.P ops true o=some s)→Rel X φ H w→CR X φ w.shape? t a.tmps.toList→fl≤H.size→(∀ i,i ≠ j→b.tmps.getD i undef=a.tmps.getD i undef)→b.tmps.size=a.tmps.size →
  f0a call fl r t H=.fin .normal t' H'→(∀ φ' b' w',d0p X fl φ H w φ' H' w'→b'.defers=b.defers→Q .normal b' w') →
  wpOps X.P ops Q (List.range' k r.length) b w
 | [],k,t,H,φ,w,a,b,_,hR,hT,_,_,_,he,hK=>by
  simp only [f0a,Out.fin.injEq] at he
  obtain ⟨_,rfl,rfl⟩:=he
  exact hK φ b w (d0p.refl hR) rfl
 | s :: r,k,t,H,φ,w,a,b,hops,hR,hT,hfl,hag,hsz,he,hK=>by
  obtain ⟨hsg,o,ho,hco⟩:=hops 0 s rfl
  simp only [i1J] at ho
  obtain ⟨hc,hf,hdst⟩:=e0e hco
  have hops':∀ i s',r[i]? = some s'→s'.g=none∧∃ o,ops[k + 1 + i]? = some o∧g0y X.P ops true o=some s':=fun i s' hi=>by
   obtain ⟨h0,o',h1,h2⟩:=hops (i + 1) s' (by simpa using hi)
   exact ⟨h0,o',by rw [← h1];congr 1;omega,h2⟩
  have hbo:k0g j o=true:=i1p.1 hbl o (by
   have:=i1q.1 ho
   obtain ⟨h1,h2⟩:=this
   rw [← h2];simp)
  have hgu:o.guard=none:=by
   unfold k0g at hbo
   simp only [h1S,Option.isNone_iff_eq_none] at hbo
   exact hbo.1.1
  rw [i1D,k1h]
  unfold wpOps
  simp only [ho]
  rw [show Region.wanted o (yielded ops b.tmps)=true by simp [Region.wanted,hgu],h1F rfl]
  simp only [f0a,hsg,b0g,i1s] at he
  refine .inl ?_
  cases hs:b0D call fl t H s.op with
  | bad=>simp [hs] at he
  | pan v=>simp [hs] at he
  | ok vH =>
   obtain ⟨v,H1⟩:=vH
   simp only [hs] at he
   refine l0G hcall hc hf hR hT hfl hs b (x0V hbo hag) (fun φ' v' w' hvr hst=>?_)
   have hT':CR X φ' w'.shape? t a.tmps.toList:=hT.mono hst.ext hst.shp
   obtain ⟨p1,p2⟩:=B0E hag hsz o.dst v'
   refine s0L hcall hbl r (k + 1) (put t s.dst v) H1 φ' w' (a.put o.dst v') (b.put o.dst v') hops' hst.rel (by rw [hdst];exact i0Y hT' hvr o.dst) (h1R hfl hst.hsz) p1 p2 he (fun φ2 b2 w2 h2 h3=>?_)
   exact hK φ2 b2 w2 (hst.trans h2 (h1A _) hR) (by rw [h3,c0E])
end
section
open Go
def N0P (P:Program):List Field→Nat→Option Nat
 | [],acc=>some acc
 | f :: r,acc=>if f.offset=acc then N0P P r (acc + P.cellsOf f.type) else none
def e0B (P:Program):Nat→TypeId→Bool
 | 0,_=>false
 | m + 1,t =>
  match P.underlying t with
  | some .bool=>P.cellsOf t == 1
  | some (.int _)=>P.cellsOf t == 1
  | some .string=>P.cellsOf t == 1
  | some (.slice e)=>P.cellsOf t == 1 && e0B P m e && P.cellsOf e != 0
  | some (.struct fs)=>N0P P fs.toList 0 == some (P.cellsOf t) && fs.toList.all fun f=>e0B P m f.type
  | _=>false
def IsT (P:Program) (H:a0f):Nat→TypeId→List Value→Prop
 | 0,_,_=>False
 | m + 1,t,cs =>
  match P.underlying t with
  | some .bool=>∃ b,cs=[.bool b]
  | some (.int k)=>∃ n,cs=[.int k n]∧(Lit.int k n).wf=true
  | some .string=>∃ s,cs=[.string s]∧s.size≤maxLen
  | some (.slice e)=>cs=[.slice none 0 0] ∨ ∃ b len cap cells,cs=[.slice (some ⟨b,0,none⟩) len cap]∧len≤cap∧cap≤maxLen∧H.blk b=.row true e cells∧cells.length=len * P.cellsOf e ∧
    ∀ i,i < len→IsT P H m e ((cells.drop (i * P.cellsOf e)).take (P.cellsOf e))
  | some (.struct fs)=>∃ parts:List (List Value),cs=parts.flatten∧parts.length=fs.toList.length∧∀ i f,fs.toList[i]? = some f→IsT P H m f.type (parts.getD i [])
  | _=>False
def g0M (H:a0f):Prop:=∀ b e cs,H.blk b ≠ .row false e cs
def n0A (H H':a0f):Prop:=H.size≤H'.size∧∀ b,b < H.size→H'.blk b=H.blk b
theorem n0A.refl (H:a0f):n0A H H:=⟨h1A _,fun _ _=>rfl⟩
theorem n0A.trans {H H1 H2:a0f} (h:n0A H H1) (k:n0A H1 H2):n0A H H2:=⟨h1R h.1 k.1,fun b hb=>(k.2 b (h1W hb h.1)).trans (h.2 b hb)⟩
theorem n0A.push (H:a0f) (r:Blk):n0A H (H.push r):=⟨by simp,fun b hb=>by rw [a0K,h1C (by omega)]⟩
theorem IsT.mono {P:Program} {H H':a0f} (hx:n0A H H'):∀ {m:Nat} {t:TypeId} {cs:List Value},IsT P H m t cs→IsT P H' m t cs
 | 0,_,_,h=>h
 | m + 1,t,cs,h=>by
  unfold IsT at h ⊢
  split at h
  ·exact h
  ·exact h
  ·exact h
  ·rename_i e _
   rcases h with h | ⟨b,len,cap,cells,h1,h2,h3,h4,h5,h6⟩
   ·exact .inl h
   ·exact .inr ⟨b,len,cap,cells,h1,h2,h3,by rw [hx.2 b (a0l h4)];exact h4,h5,fun i hi=>(h6 i hi).mono hx⟩
  ·obtain ⟨parts,h1,h2,h3⟩:=h
   exact ⟨parts,h1,h2,fun i f hf=>(h3 i f hf).mono hx⟩
  ·exact h
variable {X:Cx} {φ:Inj} {H:a0f} {w:World}
theorem Rel.pushRo (hR:Rel X φ H w) (hro:g0M H) {B o:Nat} {e el:TypeId} {fz:Nat × Nat} {cs:List Value} {c:Array Value} (hB:w.heap[B]? = some (.cells c el fz)) (hle:o + cs.length≤c.size)
  (hc:CR X φ w.shape? cs ((c.toList.drop o).take cs.length)) (hlt:B < X.base):Rel X (ad φ H.size B o) (H.push (.row true e cs)) w∧g0M (H.push (.row true e cs)):=by
 have hext:∀ b x,φ b=some x→ad φ H.size B o b=some x:=fun b x h=>v0K hR h
 have hro':g0M (H.push (.row true e cs)):=by
  intro b e1 cs1 h
  rw [a0K] at h
  split at h
  ·cases h
  ·exact hro b e1 cs1 h
 refine ⟨⟨hR.bs,?_,?_,fun b b' B1 o1 o' e1 cs1 _ _ _ h=>h1Y h (hro' b e1 cs1)⟩,hro'⟩
 ·intro b x h
  rw [j1b]
  rcases g0O hR h with ⟨h1,_⟩ | ⟨h1,_⟩ <;> omega
 ·intro b B1 o1 ro e1 cs1 h1 h2
  rw [a0K] at h2
  rcases g0O hR h1 with ⟨rfl,h3⟩ | ⟨h3,h4⟩
  ·rw [h1F rfl] at h2;cases h2;cases h3
   exact ⟨c,el,fz,hB,hle,hc.mono hext (fun _ _ h=>h),fun h=>(by cases h),fun _=>hlt⟩
  ·rw [h1C (by omega)] at h2
   obtain ⟨c1,el,fz,g1,g2,g3,g4⟩:=hR.row b B1 o1 ro e1 cs1 h4 h2
   exact ⟨c1,el,fz,g1,g2,g3.mono hext (fun _ _ h=>h),g4⟩
theorem Rel.pushFree (hR:Rel X φ H w) (hro:g0M H) (e:TypeId):Rel X φ (H.push (.row true e [])) w∧g0M (H.push (.row true e [])):=by
 have hro':g0M (H.push (.row true e [])):=by
  intro b e1 cs1 h
  rw [a0K] at h
  split at h
  ·cases h
  ·exact hro b e1 cs1 h
 refine ⟨⟨hR.bs,fun b x h=>by have:=hR.lt b x h;rw [j1b];omega,fun b B1 o1 ro e1 cs1 h1 h2=>?_,fun b b' B1 o1 o' e1 cs1 _ _ _ h=>h1Y h (hro' b e1 cs1)⟩,hro'⟩
 have:=hR.lt b _ h1
 rw [a0K,h1C (by omega)] at h2
 exact hR.row b B1 o1 ro e1 cs1 h1 h2
theorem o0v {α:Type} {f:Nat→Option α}:∀ {n k:Nat} {l:List α},(List.range' k n).mapM f=some l→l.length=n∧∀ i,i < n→f (k + i)=l[i]?
 | 0,k,l,h=>by simp at h;subst h;exact ⟨rfl,fun i hi=>by omega⟩
 | n + 1,k,l,h=>by
  rw [k1h,j1U] at h
  simp only [h1H,h1B,h1K,h1D] at h
  obtain ⟨x,h1,r,h2,rfl⟩:=h
  obtain ⟨h3,h4⟩:=o0v h2
  refine ⟨by simp [h3],fun i hi=>?_⟩
  cases i with
  | zero=>simpa using h1
  | succ i=>rw [show k + (i + 1)=k + 1 + i by omega,h4 i (by omega)];simp
theorem k0Q {a:Addr} {n:Nat} {l:List Value} (hn:n ≠ 0) (h:w.cells? 0 a n=some l):a.spot=none∧∃ c el fz,w.heap[a.block]? = some (.cells c el fz)∧a.off + n≤c.size∧l=(c.toList.drop a.off).take n:=by
 unfold World.cells? at h
 rw [h1F (i1C _),List.range_eq_range'] at h
 obtain ⟨h1,h2⟩:=o0v h
 have hget:∀ i,i < n→∃ v,w.cell? (a.add i)=some v∧l[i]? = some v:=fun i hi=>by
  have:=h2 i hi
  rw [i1o] at this
  rw [h1E (by omega)] at this
  exact ⟨_,this,h1E (by omega)⟩
 obtain ⟨v0,g1,_⟩:=hget 0 (by omega)
 have hsp:a.spot=none∧∃ c el fz,w.heap[a.block]? = some (.cells c el fz):=by
  simp only [Addr.add,i1s,World.cell?] at g1
  split at g1
  ·rename_i c el fz hc
   split at g1
   ·cases g1
   ·rename_i hs;exact ⟨by simpa using hs,c,el,fz,hc⟩
  ·cases g1
 obtain ⟨hs,c,el,fz,hc⟩:=hsp
 have hcell:∀ i,w.cell? (a.add i)=c[a.off + i]?:=fun i=>by
  unfold Addr.add
  split
  ·rename_i hi;subst hi;simp [World.cell?,hc,hs]
  ·simp [World.cell?,hc]
 have hsz:a.off + n≤c.size:=by
  obtain ⟨v,g3,_⟩:=hget (n - 1) (by omega)
  rw [hcell] at g3
  have:=(i1q.1 g3).1
  omega
 refine ⟨hs,c,el,fz,hc,hsz,?_⟩
 apply j1L
 intro i
 by_cases hi:i < n
 ·obtain ⟨v,g3,g4⟩:=hget i hi
  rw [g4,i1S,h1F hi,i1Z,j1f,← hcell,g3]
 ·rw [h1M (by omega),h1M]
  simp;omega
def o0f (P:Program) (X:Cx) (φ:Inj) (H:a0f) (w:World) (Z:a0f→List Value→Prop) (cs:List Value):Prop :=
 ∃ H' φ' cs',(∀ b x,φ b=some x→φ' b=some x)∧n0A H H'∧Rel X φ' H' w∧g0M H'∧CR X φ' w.shape? cs' cs∧Z H' cs'
section
variable {D:Type} {enc:TypeId × Value→D} {P:Program} (hb:X.base=w.heap.size)
include hb
theorem o0q {m fuel:Nat} (ih:∀ (t:TypeId) (cs:List Value) (x:DataW D × List MemPlace) (H:a0f) (φ:Inj),DataW.trod enc P w 0 (fun _=>true) true fuel t cs=some x→e0B P m t=true→Rel X φ H w→g0M H →
   o0f P X φ H w (fun H' cs'=>IsT P H' m t cs') cs) :
  ∀ (fs:List Field) (acc tot:Nat) (cs:List Value) (H:a0f) (φ:Inj),N0P P fs acc=some tot→cs.length=tot→fs.all (fun f=>e0B P m f.type)=true →
   (∀ f,f ∈ fs→∃ x,DataW.trod enc P w 0 (fun _=>true) true fuel f.type ((cs.drop f.offset).take (P.cellsOf f.type))=some x)→Rel X φ H w→g0M H→acc≤tot →
   o0f P X φ H w (fun H' cs'=>∃ parts:List (List Value),cs' = parts.flatten∧parts.length=fs.length∧∀ i f,fs[i]? = some f→IsT P H' m f.type (parts.getD i [])) (cs.drop acc)
 | [],acc,tot,cs,H,φ,hl,hcs,_,_,hR,hro,_=>by
  simp only [N0P,h1D] at hl
  refine ⟨H,φ,[],fun _ _ h=>h,n0A.refl H,hR,hro,?_,[],rfl,rfl,fun i f h=>by simp at h⟩
  rw [List.drop_of_length_le (by omega)];exact CR.nil
 | f :: r,acc,tot,cs,H,φ,hl,hcs,hp,hm,hR,hro,hat=>by
  simp only [N0P] at hl
  split at hl
  case isFalse=>cases hl
  rename_i hoff
  obtain ⟨x,h1⟩:=hm f (by simp)
  have h2:=fun g hg=>hm g (j1K _ hg)
  simp only [i1K,h1S] at hp
  obtain ⟨H1,φ1,c1,e1,m1,R1,o1,k1,z1⟩:=ih _ _ _ _ _ h1 hp.1 hR hro
  have hlay:∀ (l:List Field) (a t:Nat),N0P P l a=some t→a≤t:=by
   intro l
   induction l with
   | nil=>intro a t h;simp only [N0P,h1D] at h;omega
   | cons g l ihl =>
    intro a t h
    simp only [N0P] at h
    split at h
    ·have:=ihl _ _ h;omega
    ·cases h
  have hle:=hlay r _ _ hl
  obtain ⟨H2,φ2,c2,e2,m2,R2,o2,k2,parts,p1,p2,p3⟩:=o0q ih r (acc + P.cellsOf f.type) tot cs H1 φ1 hl hcs hp.2 h2 R1 o1 hle
  refine ⟨H2,φ2,c1 ++ c2,fun b x h=>e2 b x (e1 b x h),m1.trans m2,R2,o2,?_,c1 :: parts,by rw [p1];rfl,by simp [p2],fun i g hi=>?_⟩
  ·have hsplit:cs.drop acc=(cs.drop f.offset).take (P.cellsOf f.type) ++ cs.drop (acc + P.cellsOf f.type):=by
    rw [hoff,← j1J,j1X]
   rw [hsplit]
   exact (k1.mono e2 (fun _ _ h=>h)).append k2
  ·cases i with
   | zero=>simp only [List.getElem?_cons_zero,h1D] at hi;subst hi;exact IsT.mono m2 z1
   | succ i=>simp only [List.getElem?_cons_succ] at hi;exact p3 i g hi
theorem o0p {m fuel sz:Nat} {e:TypeId} {a:Addr} {c:Array Value} (hsz:P.cellsOf e=sz) (ih:∀ (t:TypeId) (cs:List Value) (x:DataW D × List MemPlace) (H:a0f) (φ:Inj),DataW.trod enc P w 0 (fun _=>true) true fuel t cs=some x→e0B P m t=true→Rel X φ H w→g0M H →
   o0f P X φ H w (fun H' cs'=>IsT P H' m t cs') cs) (hpe:e0B P m e=true) :
  ∀ (n:Nat),(∀ i,i < n→∃ x,DataW.trod enc P w 0 (fun _=>true) true fuel e ((c.toList.drop (a.off + i * sz)).take sz)=some x)→∀ (H:a0f) (φ:Inj),a.off + n * sz≤c.size→Rel X φ H w→g0M H →
   o0f P X φ H w (fun H' cells=>cells.length=n * sz∧∀ i,i < n→IsT P H' m e ((cells.drop (i * sz)).take sz)) ((c.toList.drop a.off).take (n * sz))
 | 0,_,H,φ,_,hR,hro=>⟨H,φ,[],fun _ _ h=>h,n0A.refl H,hR,hro,by simpa using CR.nil,by simp,fun i hi=>by omega⟩
 | n + 1,hx,H,φ,hle,hR,hro=>by
  have hmul:(n + 1) * sz=n * sz + sz:=by rw [h1X];omega
  obtain ⟨H1,φ1,c1,e1,m1,R1,o1,k1,l1,z1⟩:=o0p hsz ih hpe n (fun i hi=>hx i (by omega)) H φ (by omega) hR hro
  obtain ⟨x,hx1⟩:=hx n (by omega)
  obtain ⟨H2,φ2,c2,e2,m2,R2,o2,k2,z2⟩:=ih _ _ _ _ _ hx1 hpe R1 o1
  have hl2:c2.length=sz:=by
   have:=k2.1
   rw [this,i1E,List.length_drop,k1j];omega
  refine ⟨H2,φ2,c1 ++ c2,fun b x h=>e2 b x (e1 b x h),m1.trans m2,R2,o2,?_,by rw [i1l,l1,hl2,hmul],fun i hi=>?_⟩
  ·have hsplit:(c.toList.drop a.off).take ((n + 1) * sz)=(c.toList.drop a.off).take (n * sz) ++ (c.toList.drop (a.off + n * sz)).take sz:=by
    rw [hmul,List.take_add,j1J]
   rw [hsplit]
   exact (k1.mono e2 (fun _ _ h=>h)).append k2
  ·by_cases hin:i < n
   ·have h1:i * sz + sz≤n * sz:=by rw [← Nat.succ_mul];exact h1J _ hin
    have:((c1 ++ c2).drop (i * sz)).take sz=(c1.drop (i * sz)).take sz:=by
     rw [j1e (by omega),j1s (by simp;omega)]
    rw [this];exact IsT.mono m2 (z1 i hin)
   ·have:i=n:=by omega
    subst this
    have:((c1 ++ c2).drop (i * sz)).take sz=c2:=by
     rw [← l1,List.drop_left,h1O (by omega)]
    rw [this];exact z2
theorem p0T:∀ (m fuel:Nat) (t:TypeId) (cs:List Value) (x:DataW D × List MemPlace) (H:a0f) (φ:Inj),DataW.trod enc P w 0 (fun _=>true) true fuel t cs=some x→e0B P m t=true→Rel X φ H w→g0M H →
  o0f P X φ H w (fun H' cs'=>IsT P H' m t cs') cs
 | 0,_,_,_,_,_,_,_,hp,_,_=>by simp [e0B] at hp
 | m + 1,0,_,_,_,_,_,h,_,_,_=>by simp [DataW.trod] at h
 | m + 1,fuel + 1,t,cs,x,H,φ,h,hp,hR,hro=>by
  unfold e0B at hp
  have fin:∀ cs',CR X φ w.shape? cs' cs→IsT P H (m + 1) t cs'→o0f P X φ H w (fun H' cs'=>IsT P H' (m + 1) t cs') cs:=fun cs' h1 h2=>⟨H,φ,cs',fun _ _ h=>h,n0A.refl H,hR,hro,h1,h2⟩
  split at hp
  ·rename_i hu
   obtain ⟨b,rfl,_⟩:=DataW.trod_bool hu h
   refine fin [.bool b] (CR.cons (.bool b) CR.nil) ?_
   unfold IsT;rw [hu];exact ⟨b,rfl⟩
  ·rename_i k hu
   obtain ⟨n,rfl,_,hwf⟩:=DataW.trod_int hu h
   refine fin [.int k n] (CR.cons (.int k n) CR.nil) ?_
   unfold IsT;rw [hu];exact ⟨n,rfl,hwf⟩
  ·rename_i hu
   obtain ⟨s,rfl,_,hs⟩:=DataW.trod_string hu h
   refine fin [.string s] (CR.cons (.str s) CR.nil) ?_
   unfold IsT;rw [hu];exact ⟨s,rfl,hs⟩
  ·rename_i e hu
   simp only [h1S,bne_iff_ne,ne_eq] at hp
   obtain ⟨⟨_,hpe⟩,hne⟩:=hp
   rcases Go.Deep.open_slice hu h with ⟨rfl,_⟩ | ⟨a,len,cap,mm,n,Dd,Pl,rfl,_,hlc,hcm,hmm,_,hel⟩
   ·refine fin [.slice none 0 0] (CR.cons .snil CR.nil) ?_
    unfold IsT;rw [hu];exact .inl rfl
   ·simp only [i1s] at hmm
    subst hmm
    by_cases hcap:mm=0
    ·have hl0:len=0:=by omega
     subst hcap hl0
     obtain ⟨R2,o2⟩:=hR.pushFree hro e
     refine ⟨H.push (.row true e []),φ,[.slice (some ⟨H.size,0,none⟩) 0 0],fun _ _ h=>h,n0A.push _ _,R2,o2,CR.cons (.sle _ _) CR.nil,?_⟩
     unfold IsT;rw [hu]
     exact .inr ⟨H.size,0,0,[],rfl,h1A _,i1C _,by rw [a0K,h1F rfl],by simp,fun i hi=>by omega⟩
    ·obtain ⟨l0,g1,_⟩:=hel 0 (by omega)
     rw [show a.add (0 * P.cellsOf e)=a by simp [Addr.add]] at g1
     obtain ⟨hsp,c,el,fz,hc,hsz0,_⟩:=k0Q hne g1
     have hwin:∀ i,i < mm→a.off + i * P.cellsOf e + P.cellsOf e≤c.size∧DataW.trod enc P w 0 (fun _=>true) true n e ((c.toList.drop (a.off + i * P.cellsOf e)).take (P.cellsOf e))=some (Dd i,Pl i):=by
      intro i hi
      obtain ⟨li,q1,q2⟩:=hel i hi
      obtain ⟨_,c',el',fz',q3,q4,q5⟩:=k0Q hne q1
      have hab:(a.add (i * P.cellsOf e)).block=a.block∧(a.add (i * P.cellsOf e)).off=a.off + i * P.cellsOf e:=by
       unfold Addr.add;split
       ·rename_i h0;rw [h0];exact ⟨rfl,rfl⟩
       ·exact ⟨rfl,rfl⟩
      rw [hab.1,hc] at q3;cases q3
      rw [hab.2] at q4 q5
      exact ⟨q4,by rw [← q5];exact q2⟩
     have htot:a.off + len * P.cellsOf e≤c.size:=by
      have:=(hwin (mm - 1) (by omega)).1
      have h2:len * P.cellsOf e≤mm * P.cellsOf e:=h1J _ hlc
      have h3:mm * P.cellsOf e=(mm - 1) * P.cellsOf e + P.cellsOf e:=by
       rw [← Nat.succ_mul];congr 1;omega
      omega
     obtain ⟨H1,φ1,cells,e1,m1,R1,o1,k1,l1,z1⟩:=o0p hb rfl (p0T m n) hpe len (fun i hi=>⟨_,(hwin i (by omega)).2⟩) H φ htot hR hro
     have hlt:a.block < X.base:=by rw [hb];exact (i1q.1 hc).1
     obtain ⟨R2,o2⟩:=R1.pushRo o1 (e:=e) (o:=a.off) (cs:=cells) hc (by rw [l1];exact htot) (by rw [l1];exact k1) hlt
     refine ⟨H1.push (.row true e cells),ad φ1 H1.size a.block a.off,[.slice (some ⟨H1.size,0,none⟩) len mm],fun b x hbx=>v0K R1 (e1 b x hbx),m1.trans (n0A.push _ _),R2,o2,?_,?_⟩
     ·refine CR.cons (.sl _ _ _ _ _ a.block a.off rfl Y0b hsp rfl (fun _=>rfl) (fun _=>rfl) hlc (fun hbase=>by omega)) CR.nil
     ·unfold IsT;rw [hu]
      refine .inr ⟨H1.size,len,mm,cells,rfl,hlc,hcm,by rw [a0K,h1F rfl],l1,fun i hi=>IsT.mono (n0A.push _ _) (z1 i hi)⟩
  ·rename_i fs hu
   simp only [h1S,beq_iff_eq] at hp
   obtain ⟨xs,n,hfu,_,hcl,hxl,hxs⟩:=DataW.trod_struct hu h
   have hf:n=fuel:=by omega
   subst hf
   obtain ⟨H1,φ1,c1,e1,m1,R1,o1,k1,parts,p1,p2,p3⟩:=o0q hb (p0T m n) fs.toList 0 (P.cellsOf t) cs H φ hp.1 hcl hp.2 (fun f hf=>by
    obtain ⟨i,hi,rfl⟩:=List.mem_iff_getElem.1 hf
    have:=hxs i fs.toList[i] (by simp)
    rw [h1E (by rw [hxl];simpa using hi)] at this
    exact ⟨_,this⟩) hR hro (i1C _)
   refine ⟨H1,φ1,c1,e1,m1,R1,o1,by simpa using k1,?_⟩
   unfold IsT;rw [hu];exact ⟨parts,p1,p2,p3⟩
  ·cases hp
end
end
section
open Go
abbrev K0t:=Nat→FuncId→List Value→a0f→Res (Value × a0f)
def X0C (c c':K0t):Prop:=∀ fl fl' f args H,fl'≤fl→c fl f args H ≠ .bad→c' fl' f args H=c fl f args H
variable {H:a0f} {fl fl':Nat} {t:b0b}
theorem v0z {b off:Nat} {vs:List Value} {H':a0f} (hf:fl'≤fl) (h:H.write? fl b off vs=some H'):H.write? fl' b off vs=some H':=by
 unfold a0f.write? at h ⊢
 split at h
 ·rename_i e cs hk
  split at h
  ·rename_i hc
   try simp only [hk]
   rw [h1F ⟨by omega,hc.2⟩];exact h
  ·cases h
 ·cases h
theorem x0T {e:TypeId} {size bytes:Nat} {s x:Value} {r:Value × a0f} (hf:fl'≤fl) (h:k0c fl H e size bytes s x=some r):k0c fl' H e size bytes s x=some r:=by
 unfold k0c at h ⊢
 split at h
 ·split at h
  ·rename_i hn;rw [h1F hn];exact h
  ·rename_i hn;rw [h1C hn]
   split at h
   ·rename_i hc;rw [h1F hc]
    split at h
    ·cases h
    ·rename_i xp
     try simp only at h ⊢
     split at h
     ·cases h
     ·rename_i new hnew
      try simp only [hnew]
      split at h
      ·cases h
      ·rename_i hp;rw [h1C hp]
       split at h
       ·exact h
       ·rename_i sp
        try simp only at h ⊢
        split at h
        ·rename_i h00;rw [h1F h00];exact h
        rename_i h00;rw [h1C h00]
        split at h
        ·cases h
        ·rename_i old hold
         try simp only [hold]
         split at h
         ·rename_i hcap;rw [h1F hcap];exact h
         ·rename_i hcap;rw [h1C hcap]
          split at h
          ·rename_i e2 cs hb
           try simp only
           split at h
           ·rename_i hh;rw [h1F ⟨hh.1,by omega⟩];exact h
           ·cases h
          ·cases h
   ·cases h
 ·cases h
theorem A0X {so:SOp} (hf:fl'≤fl) (h:opA fl t H so ≠ .bad):opA fl' t H so=opA fl t H so:=by
 cases so <;> simp only [opA] at h ⊢
 case store n a x =>
  split at h
  ·rename_i p hp
   split at h
   ·exact h1Y rfl h
   ·rename_i hc;rw [h1C hc];rw [h1C hc]
    cases hw:H.write? fl p.block p.off (a0U (ev t x)) with
    | none=>rw [hw] at h;exact h1Y rfl h
    | some H'=>rw [v0z hf hw]
  ·exact h1Y rfl h
 case app e size bytes s x =>
  cases hw:k0c fl H e size bytes (ev t s) (ev t x) with
  | none=>rw [hw] at h;exact h1Y rfl h
  | some r=>rw [x0T hf hw]
section
variable {c c':K0t} (hc:X0C c c')
include hc
theorem f0K {so:SOp} (hf:fl'≤fl) (h:b0D c fl t H so ≠ .bad):b0D c' fl' t H so=b0D c fl t H so:=by
 unfold b0D at h ⊢
 have ho:opA fl t H so ≠ .bad:=by intro hb;rw [hb] at h;exact h rfl
 rw [A0X hf ho]
 split at h
 ·exact h1Y rfl h
 ·rfl
 ·rfl
 ·rename_i f args lone _
  refine hc _ _ _ _ _ ?_ h
  split <;> omega
theorem f0H (hf:fl'≤fl):∀ (ops:List a0L) (t:b0b) (H:a0f),f0a c fl ops t H ≠ .bad→f0a c' fl' ops t H=f0a c fl ops t H
 | [],t,H,_=>rfl
 | o :: r,t,H,h=>by
  simp only [f0a] at h ⊢
  split at h
  ·rename_i hw
   simp only [hw,i1s]
   have hs:b0D c fl t H o.op ≠ .bad:=by intro hb;rw [hb] at h;exact h rfl
   rw [f0K hc hf hs]
   split at h
   ·exact h1Y rfl h
   ·rfl
   ·exact f0H hf r _ _ h
  ·rename_i hw
   simp only [hw,i1F]
   exact f0H hf r _ _ h
theorem d0e (hf:fl'≤fl) (bef:List Nat) (pairs:List (Nat × Nat)):∀ (ops:List a0L) (i:Nat) (t:b0b) (H:a0f) (p:Option (Nat × Value)) (log:List (List Nat × List Nat)),
  b0S c fl bef pairs i ops t H p log ≠ .bad→b0S c' fl' bef pairs i ops t H p log=b0S c fl bef pairs i ops t H p log
 | [],i,t,H,p,log,_=>rfl
 | o :: r,i,t,H,p,log,h=>by
  simp only [b0S] at h ⊢
  split at h
  ·rename_i hg;simp only [hg,i1s];exact d0e hf bef pairs r _ _ _ _ _ h
  ·rename_i hg
   simp only [hg,i1F]
   split at h
   ·rename_i hw
    simp only [hw,i1s]
    have hs:b0D c fl t H o.op ≠ .bad:=by intro hb;rw [hb] at h;exact h rfl
    rw [f0K hc hf hs]
    split at h
    ·exact h1Y rfl h
    ·split at h
     ·exact d0e hf bef pairs r _ _ _ _ _ h
     ·exact h1Y rfl h
    ·exact d0e hf bef pairs r _ _ _ _ _ h
   ·rename_i hw
    simp only [hw,i1F]
    exact d0e hf bef pairs r _ _ _ _ _ h
theorem b0i (hf:fl'≤fl):∀ (n m:Nat) (k:SCode) (t:b0b) (H:a0f),n≤m→b0c c fl n k t H ≠ .bad→b0c c' fl' m k t H=b0c c fl n k t H
 | 0,_,_,_,_,_,h=>by simp [b0c] at h
 | n + 1,0,_,_,_,hm,_=>by omega
 | n + 1,m + 1,k,t,H,hm,h=>by
  have hm:n≤m:=by omega
  cases k <;> simp only [b0c] at h ⊢
  case seq a b =>
   have ha:b0c c fl n a t H ≠ .bad:=by intro hb;rw [hb] at h;exact h rfl
   rw [b0i hf n m a t H hm ha]
   split at h
   ·exact b0i hf n m b _ _ hm h
   ·rfl
  case cond x a b =>
   split at h
   ·exact b0i hf n m a _ _ hm h
   ·exact b0i hf n m b _ _ hm h
   ·exact h1Y rfl h
  case block id a =>
   have ha:b0c c fl n a t H ≠ .bad:=by intro hb;rw [hb] at h;exact h rfl
   rw [b0i hf n m a t H hm ha]
  case loop a =>
   have ha:b0c c fl n a t H ≠ .bad:=by intro hb;rw [hb] at h;exact h rfl
   rw [b0i hf n m a t H hm ha]
   split at h
   ·exact b0i hf n m (.loop a) _ _ hm h
   ·rfl
  case reg ops=>exact f0H hc hf ops t H h
  case draw ops bef pairs=>exact d0e hc hf bef pairs ops 0 t H none [] h
end
theorem a0N (E:Env):∀ n m,n≤m→X0C (b0r E n) (b0r E m)
 | 0,m,_=>fun _ _ _ _ _ _ h=>by simp [b0r] at h
 | n + 1,0,hm=>by omega
 | n + 1,m + 1,hm=>fun fl fl' f args H hf h=>by
  have ih:=a0N E n m (by omega)
  simp only [b0r] at h ⊢
  split at h
  ·split at h
   ·rfl
   split at h
   ·rename_i q hq
    try simp only
    split at h
    ·rename_i hfq
     rw [h1F hfq];rw [h1F hfq]
     split at h
     ·rename_i p s _
      try simp only at h ⊢
      split at h
      case isFalse=>exact h1Y rfl h
      rename_i hsz
      rw [h1F hsz]
      try rw [h1F hsz]
      have h2:b0r E n (max fl H.size) q.solved [.agg #[],.agg p,.agg s] H ≠ .bad:=by intro hb;rw [hb] at h;exact h rfl
      try simp only
      rw [ih (max fl H.size) (max fl' H.size) _ _ _ (by omega) h2]
     ·exact h1Y rfl h
    ·exact h1Y rfl h
   ·exact h1Y rfl h
  ·rename_i sf hsf
   try simp only
   split at h
   ·rename_i hl
    rw [h1F hl];rw [h1F hl]
    have h2:b0c (b0r E n) fl n sf.body (args ++ List.replicate (sf.nt - args.length) undef) H ≠ .bad:=by intro hb;rw [hb] at h;exact h rfl
    rw [b0i ih hf n m _ _ _ (by omega) h2]
   ·exact h1Y rfl h
theorem x0X {E:Env} {n m:Nat} {f:FuncId} {args:List Value} (hn:n≤m) (hf:fl'≤fl) (h:b0r E n fl f args H ≠ .bad):b0r E m fl' f args H=b0r E n fl f args H :=
 a0N E n m hn _ _ _ _ _ hf h
end
section
open Go
abbrev n0C:=Value→a0f→Prop
abbrev d0X:=XA→b0b→a0f→Prop
abbrev a0G:=Value→Prop
def n0Y (Q:n0C) (R:a0G):Res (Value × a0f)→Prop
 | .ok (v,H)=>Q v H
 | .pan v=>R v
 | .bad=>False
def k0y (Q:d0X) (R:a0G):Out→Prop
 | .fin e t H=>Q e t H
 | .pan v=>R v
 | .bad=>False
def a0S (E:Env) (fl:Nat) (f:FuncId) (args:List Value) (H:a0f) (Q:n0C) (R:a0G):Prop:=∃ n,n0Y Q R (b0r E n fl f args H)
def W (E:Env) (fl:Nat) (c:SCode) (t:b0b) (H:a0f) (Q:d0X) (R:a0G):Prop:=∃ n,k0y Q R (b0c (b0r E n) fl n c t H)
def WS (E:Env) (fl:Nat) (t:b0b) (H:a0f) (op:SOp) (K:n0C) (R:a0G):Prop :=
 match opA fl t H op with
 | .bad=>False
 | .pan v=>R v
 | .val v H'=>K v H'
 | .call f args lone=>a0S E (if lone then fl else max fl H.size) f args H K R
def WR (E:Env) (fl:Nat):List a0L→b0b→a0f→(b0b→a0f→Prop)→a0G→Prop
 | [],t,H,K,_=>K t H
 | o :: r,t,H,K,R=>if b0g t o.g then WS E fl t H o.op (fun v H'=>WR E fl r (put t o.dst v) H' K R) R else WR E fl r (put t o.dst undef) H K R
variable {E:Env} {fl:Nat} {t:b0b} {H:a0f} {Q Q':d0X} {R R':a0G} {K K':n0C} {f:FuncId} {args:List Value}
theorem e0H {o:Out} (h:k0y Q R o):o ≠ .bad:=by cases o <;> simp_all [k0y]
theorem L0C {o:Res (Value × a0f)} (h:n0Y K R o):o ≠ .bad:=by cases o <;> simp_all [n0Y]
theorem m0a {n m k:Nat} {c:SCode} (hn:n≤m) (hk:k≤m) (h:k0y Q R (b0c (b0r E n) fl k c t H)):k0y Q R (b0c (b0r E m) fl m c t H):=by
 rw [b0i (a0N E n m hn) (h1A fl) k m c t H hk (e0H h)];exact h
theorem z0Q {n m fl':Nat} (hn:n≤m) (hf:fl'≤fl) (h:n0Y K R (b0r E n fl f args H)):n0Y K R (b0r E m fl' f args H):=by
 rw [x0X hn hf (L0C h)];exact h
theorem a0S.mono (h:a0S E fl f args H K R) (hk:∀ v H',K v H'→K' v H'):a0S E fl f args H K' R:=by
 obtain ⟨n,h⟩:=h
 refine ⟨n,?_⟩
 cases hc:b0r E n fl f args H with
 | bad=>rw [hc] at h;exact h
 | pan v=>rw [hc] at h;exact h
 | ok r=>rw [hc] at h;exact hk _ _ h
theorem a0S.floor {fl':Nat} (h:a0S E fl f args H K R) (hf:fl'≤fl):a0S E fl' f args H K R:=by
 obtain ⟨n,h⟩:=h
 exact ⟨n,z0Q (h1A n) hf h⟩
theorem a0S.keep (h:a0S E fl f args H K R) (hf:fl≤H.size):a0S E fl f args H (fun v H'=>K v H'∧f0L fl H H') R:=by
 obtain ⟨n,h⟩:=h
 refine ⟨n,?_⟩
 cases hc:b0r E n fl f args H with
 | bad=>rw [hc] at h;exact h
 | pan v=>rw [hc] at h;exact h
 | ok r=>rw [hc] at h;exact ⟨h,h0I E n fl f args H r.1 r.2 hc hf⟩
theorem W.mono {c:SCode} (h:W E fl c t H Q R) (hk:∀ e t' H',Q e t' H'→Q' e t' H'):W E fl c t H Q' R:=by
 obtain ⟨n,h⟩:=h
 refine ⟨n,?_⟩
 cases hc:b0c (b0r E n) fl n c t H with
 | bad=>rw [hc] at h;exact h
 | pan v=>rw [hc] at h;exact h
 | fin e t' H'=>rw [hc] at h;exact hk _ _ _ h
theorem WS.mono {op:SOp} (h:WS E fl t H op K R) (hk:∀ v H',K v H'→K' v H'):WS E fl t H op K' R:=by
 unfold WS at h ⊢
 split at h
 ·exact h
 ·exact h
 ·exact hk _ _ h
 ·exact h.mono hk
theorem WR.mono {Z Z':b0b→a0f→Prop}:∀ {ops:List a0L} {t:b0b} {H:a0f},WR E fl ops t H Z R→(∀ t' H',Z t' H'→Z' t' H')→WR E fl ops t H Z' R
 | [],_,_,h,hk=>hk _ _ h
 | o :: r,t,H,h,hk=>by
  simp only [WR] at h ⊢
  split at h
  ·rename_i hw;rw [h1F hw];exact h.mono fun v H' h'=>WR.mono h' hk
  ·rename_i hw;rw [h1C hw];exact WR.mono h hk
def i0s (k:b0b→a0f→Prop) (Q:d0X):d0X
 | .normal,t,H=>k t H
 | .exit i,t,H=>Q (.exit i) t H
 | .ret,t,H=>Q .ret t H
theorem h0Y {a b:SCode} (h:W E fl a t H (i0s (fun t' H'=>W E fl b t' H' Q R) Q) R):W E fl (.seq a b) t H Q R:=by
 obtain ⟨n,h⟩:=h
 cases hc:b0c (b0r E n) fl n a t H with
 | bad=>rw [hc] at h;exact h1Y h id
 | pan v =>
  refine ⟨n + 1,?_⟩
  have:=b0i (a0N E n (n+1) (by omega)) (h1A fl) n n a t H (h1A n) (by rw [hc];simp)
  simp only [b0c,this,hc];rw [hc] at h;exact h
 | fin e t' H' =>
  rw [hc] at h
  cases e with
  | normal =>
   obtain ⟨m,h⟩:=h
   refine ⟨max n m + 1,?_⟩
   have:=b0i (a0N E n (max n m+1) (by omega)) (h1A fl) n (max n m) a t H (by omega) (by rw [hc];simp)
   simp only [b0c,this,hc]
   have h2:=b0i (a0N E m (max n m+1) (by omega)) (h1A fl) m (max n m) b t' H' (by omega) (e0H h)
   rw [h2];exact h
  | exit i =>
   refine ⟨n + 1,?_⟩
   have:=b0i (a0N E n (n+1) (by omega)) (h1A fl) n n a t H (h1A n) (by rw [hc];simp)
   simp only [b0c,this,hc];exact h
  | ret =>
   refine ⟨n + 1,?_⟩
   have:=b0i (a0N E n (n+1) (by omega)) (h1A fl) n n a t H (h1A n) (by rw [hc];simp)
   simp only [b0c,this,hc];exact h
theorem v0H (h:Q .normal t H):W E fl .skip t H Q R:=⟨1,by simpa [b0c,k0y] using h⟩
theorem v0G {i:Nat} (h:Q (.exit i) t H):W E fl (.exit i) t H Q R:=⟨1,by simpa [b0c,k0y] using h⟩
theorem c1T (h:Q .ret t H):W E fl .ret t H Q R:=⟨1,by simpa [b0c,k0y] using h⟩
theorem l0O {c:Opd} {a b:SCode} (x:Bool) (hx:ev t c=.bool x) (ha:x=true→W E fl a t H Q R) (hb:x=false→W E fl b t H Q R):W E fl (.cond c a b) t H Q R:=by
 cases x with
 | true =>
  obtain ⟨n,h⟩:=ha rfl
  refine ⟨n + 1,?_⟩
  have:=b0i (a0N E n (n+1) (by omega)) (h1A fl) n n a t H (h1A n) (e0H h)
  simp only [b0c,hx,this];exact h
 | false =>
  obtain ⟨n,h⟩:=hb rfl
  refine ⟨n + 1,?_⟩
  have:=b0i (a0N E n (n+1) (by omega)) (h1A fl) n n b t H (h1A n) (e0H h)
  simp only [b0c,hx,this];exact h
def e0P (i:Nat) (Q:d0X):d0X
 | .normal,t,H=>Q .normal t H
 | .exit j,t,H=>if j=i then Q .normal t H else Q (.exit j) t H
 | .ret,t,H=>Q .ret t H
theorem p0u {i:Nat} {c:SCode} (h:W E fl c t H (e0P i Q) R):W E fl (.block i c) t H Q R:=by
 obtain ⟨n,h⟩:=h
 refine ⟨n + 1,?_⟩
 have hm:=b0i (a0N E n (n+1) (by omega)) (h1A fl) n n c t H (h1A n) (e0H h)
 simp only [b0c,hm]
 cases hc:b0c (b0r E n) fl n c t H with
 | bad=>rw [hc] at h;exact h1Y h id
 | pan v=>rw [hc] at h;exact h
 | fin e t' H' =>
  rw [hc] at h
  cases e with
  | normal=>exact h
  | ret=>exact h
  | exit j =>
   simp only [k0y,e0P] at h
   simp only
   split at h
   ·rename_i hj;rw [h1F hj];exact h
   ·rename_i hj;rw [h1C hj];exact h
theorem N0F {c:SCode} (I:Nat→b0b→a0f→Prop)
  (step:∀ k t H,I k t H→W E fl c t H (i0s (fun t' H'=>∃ k',k' < k∧I k' t' H') Q) R):∀ (k:Nat) {t:b0b} {H:a0f},I k t H→W E fl (.loop c) t H Q R:=by
 intro k
 induction k using Nat.strongRecOn with
 | ind k ih =>
  intro t H hI
  obtain ⟨n,h⟩:=step k t H hI
  cases hc:b0c (b0r E n) fl n c t H with
  | bad=>rw [hc] at h;exact h1Y h id
  | pan v =>
   refine ⟨n + 1,?_⟩
   have:=b0i (a0N E n (n+1) (by omega)) (h1A fl) n n c t H (h1A n) (by rw [hc];simp)
   simp only [b0c,this,hc];rw [hc] at h;exact h
  | fin e t' H' =>
   rw [hc] at h
   cases e with
   | normal =>
    obtain ⟨k',hk',hI'⟩:=h
    obtain ⟨m,h⟩:=ih k' hk' hI'
    refine ⟨max n m + 1,?_⟩
    have:=b0i (a0N E n (max n m+1) (by omega)) (h1A fl) n (max n m) c t H (by omega) (by rw [hc];simp)
    simp only [b0c,this,hc]
    have h2:=b0i (a0N E m (max n m+1) (by omega)) (h1A fl) m (max n m) (.loop c) t' H' (by omega) (e0H h)
    rw [h2];exact h
   | exit i =>
    refine ⟨n + 1,?_⟩
    have:=b0i (a0N E n (n+1) (by omega)) (h1A fl) n n c t H (h1A n) (by rw [hc];simp)
    simp only [b0c,this,hc];exact h
   | ret =>
    refine ⟨n + 1,?_⟩
    have:=b0i (a0N E n (n+1) (by omega)) (h1A fl) n n c t H (h1A n) (by rw [hc];simp)
    simp only [b0c,this,hc];exact h
theorem z0L {op:SOp} (h:WS E fl t H op K R):∃ n,n0Y K R (b0D (b0r E n) fl t H op):=by
 unfold WS at h
 unfold b0D
 split at h
 ·exact h1Y h id
 ·rename_i v hv;exact ⟨0,by simpa [hv,n0Y] using h⟩
 ·rename_i v H' hv;exact ⟨0,by simpa [hv,n0Y] using h⟩
 ·rename_i g as lone hv
  obtain ⟨n,h⟩:=h
  exact ⟨n,by simpa [hv] using h⟩
theorem v0F {Z:b0b→a0f→Prop}:∀ (ops:List a0L) {t:b0b} {H:a0f},WR E fl ops t H Z R→∃ n,k0y (fun e t' H'=>e=.normal∧Z t' H') R (f0a (b0r E n) fl ops t H)
 | [],t,H,h=>⟨0,rfl,h⟩
 | o :: r,t,H,h=>by
  simp only [WR] at h
  split at h
  ·rename_i hw
   obtain ⟨n,hn⟩:=z0L h
   cases hs:b0D (b0r E n) fl t H o.op with
   | bad=>rw [hs] at hn;exact h1Y hn id
   | pan v=>exact ⟨n,by simp only [f0a,hw,i1s,hs];rw [hs] at hn;exact hn⟩
   | ok rr =>
    obtain ⟨v,H'⟩:=rr
    rw [hs] at hn
    obtain ⟨m,hm⟩:=v0F r hn
    refine ⟨max n m,?_⟩
    have h1:=f0K (a0N E n (max n m) (by omega)) (h1A fl) (t:=t) (H:=H) (so:=o.op) (by rw [hs];simp)
    have h2:=f0H (a0N E m (max n m) (by omega)) (h1A fl) r (put t o.dst v) H' (e0H hm)
    simp only [f0a,hw,i1s,h1,hs,h2];exact hm
  ·rename_i hw
   obtain ⟨m,hm⟩:=v0F r h
   exact ⟨m,by simp only [f0a,hw,i1F];exact hm⟩
theorem l0Q {ops:List a0L} (h:WR E fl ops t H (fun t' H'=>Q .normal t' H') R):W E fl (.reg ops) t H Q R:=by
 obtain ⟨n,hn⟩:=v0F ops h
 refine ⟨n + 1,?_⟩
 have h2:=f0H (a0N E n (n+1) (by omega)) (h1A fl) ops t H (e0H hn)
 simp only [b0c,h2]
 cases hr:f0a (b0r E n) fl ops t H with
 | bad=>rw [hr] at hn;exact h1Y hn id
 | pan v=>rw [hr] at hn;exact hn
 | fin e t' H'=>rw [hr] at hn;obtain ⟨rfl,hn⟩:=hn;exact hn
theorem p0E {c:K0t} {fl:Nat} (bef:List Nat):∀ (ops:List a0L) (i:Nat) (t:b0b) (H:a0f) (log:List (List Nat × List Nat)) {e:XA} {t':b0b} {H':a0f},
  f0a c fl ops t H=.fin e t' H'→b0S c fl bef [] i ops t H none log=.fin .normal t' H'
 | [],i,t,H,log,e,t',H',h=>by simp only [f0a,Out.fin.injEq] at h;obtain ⟨_,rfl,rfl⟩:=h;simp [b0S,c0P]
 | o :: r,i,t,H,log,e,t',H',h=>by
  simp only [f0a] at h
  simp only [b0S,g0Z,i1a,i1F]
  split at h
  ·rename_i hw
   simp only [hw,i1s]
   split at h
   ·cases h
   ·cases h
   ·rename_i v H1 hs;(try simp only [hs]);exact p0E bef r _ _ _ _ h
  ·rename_i hw
   simp only [hw,i1F]
   exact p0E bef r _ _ _ _ h
theorem a0B {ops:List a0L} {bef:List Nat} (h:WR E fl ops t H (fun t' H'=>Q .normal t' H') (fun _=>False)):W E fl (.draw ops bef []) t H Q R:=by
 obtain ⟨n,hn⟩:=v0F ops h
 refine ⟨n + 1,?_⟩
 have h2:=f0H (a0N E n (n+1) (by omega)) (h1A fl) ops t H (e0H hn)
 simp only [b0c]
 cases hr:f0a (b0r E n) fl ops t H with
 | bad=>rw [hr] at hn;exact h1Y hn id
 | pan v=>rw [hr] at hn;exact h1Y hn id
 | fin e t' H' =>
  rw [hr] at hn h2
  rw [p0E bef ops 0 t H [] h2]
  exact hn.2
theorem p0C {sf:v0D} (hc:E.code f=some sf) (hl:args.length=sf.np) (hnt:args.length≤sf.nt)
  (h:∀ t,t.length=sf.nt→(∀ i,get t i=args.getD i undef)→W E fl sf.body t H (fun e t' H'=>(match e with | .exit _=>False | _=>True)∧∃ vs,e0C H' t' sf.res=some vs∧K (d0k vs) H') R) :
  a0S E fl f args H K R:=by
 obtain ⟨n,hn⟩:=h (args ++ List.replicate (sf.nt - args.length) undef) (by simp;omega) (fun i=>by
  unfold get
  simp only [h1z]
  by_cases hi:i < args.length
  ·rw [i1u hi]
  ·rw [i1B (by omega)]
   rw [h1M (by omega:args.length≤i)]
   by_cases h2:i - args.length < sf.nt - args.length
   ·rw [j1v];simp [h2]
   ·rw [h1M (by simpa using h2)])
 refine ⟨n + 1,?_⟩
 simp only [b0r,hc,hl,i1s]
 rw [hl] at hn
 cases hx:b0c (b0r E n) fl n sf.body (args ++ List.replicate (sf.nt - sf.np) undef) H with
 | bad=>rw [hx] at hn;exact h1Y hn id
 | pan v=>rw [hx] at hn;exact hn
 | fin e t' H' =>
  rw [hx] at hn
  obtain ⟨he,vs,hvs,hk⟩:=hn
  cases e with
  | exit i=>exact h1Y he id
  | normal=>simp only [hvs];exact hk
  | ret=>simp only [hvs];exact hk
end
section
open Go Go.RowKit Go.ChangeShapes Go.WideShapes Go.ChangeAt
def IsV (P:Program) (H:a0f) (m:Nat) (t:TypeId) (v:Value):Prop :=
 match P.underlying t with
 | some (.struct _)=>∃ cs,v=.agg cs∧IsT P H m t cs.toList
 | _=>IsT P H m t [v]
def K0p (P:Program) (H:a0f) (m:Nat):List TypeId→List Value→Prop
 | [],[]=>True
 | t :: ts,v :: vs=>IsV P H m t v∧K0p P H m ts vs
 | _,_=>False
theorem IsV.mono {P:Program} {H H':a0f} (hx:n0A H H') {m:Nat} {t:TypeId} {v:Value} (h:IsV P H m t v):IsV P H' m t v:=by
 unfold IsV at h ⊢
 split at h
 ·obtain ⟨cs,h1,h2⟩:=h;exact ⟨cs,h1,h2.mono hx⟩
 ·exact IsT.mono hx h
theorem K0p.mono {P:Program} {H H':a0f} (hx:n0A H H') {m:Nat}:∀ {ts:List TypeId} {vs:List Value},K0p P H m ts vs→K0p P H' m ts vs
 | [],[],h=>h
 | t :: ts,v :: vs,h=>⟨h.1.mono hx,K0p.mono hx h.2⟩
 | [],_ :: _,h=>h.elim
 | _ :: _,[],h=>h.elim
variable {X:Cx} {φ:Inj} {H:a0f} {w:World} {D:Type} {enc:TypeId × Value→D} {P:Program}
theorem z0S {t:TypeId} {v:Value} {base:Nat} {m:Nat} (hp:e0B P m t=true) (hns:∀ fs,P.underlying t ≠ some (.struct fs)) (ho:Value.okWide P w .any base t v):v.cells.toList=[v]:=by
 cases m with
 | zero=>simp [e0B] at hp
 | succ m =>
  unfold e0B at hp
  unfold Value.okWide at ho
  cases hu:P.underlying t with
  | none=>simp [hu] at hp
  | some d =>
   cases d <;> simp only [hu] at hp ho <;> try (exact h1Y hp Bool.false_ne_true)
   all_goals (first | (exact h1Y hu (hns _)) | skip)
   all_goals
    unfold Cell.okWide at ho
    rw [hu] at ho
    unfold Cell.ok at ho
    rw [hu] at ho
    cases v <;> simp_all [Value.cells]
theorem L0o (hb:X.base=w.heap.size) {m:Nat} {t:TypeId} {v:Value} {d:DataW D} {ps:List MemPlace} {base:Nat} (h:DataW.Trod enc P w 0 (fun _=>true) true t v d ps) (hp:e0B P m t=true) (ho:Value.okWide P w .any base t v)
  (hR:Rel X φ H w) (hro:g0M H):∃ H' φ' v',(∀ b x,φ b=some x→φ' b=some x)∧n0A H H'∧Rel X φ' H' w∧g0M H'∧VR X φ' w.shape? v' v∧IsV P H' m t v':=by
 obtain ⟨fuel,h⟩:=h
 obtain ⟨H',φ',cs',e1,m1,R1,o1,k1,z1⟩:=p0T hb m fuel t _ _ H φ h hp hR hro
 by_cases hs:∃ fs,P.underlying t=some (.struct fs)
 ·obtain ⟨fs,hs⟩:=hs
  have ho':=ho
  unfold Value.okWide at ho'
  rw [hs] at ho'
  obtain ⟨cs,rfl,_⟩:=ho'
  refine ⟨H',φ',.agg cs'.toArray,e1,m1,R1,o1,VR.agg_iff.2 (by simpa [Value.cells] using k1),?_⟩
  unfold IsV
  rw [hs]
  exact ⟨_,rfl,by simpa using z1⟩
 ·have hns:∀ fs,P.underlying t ≠ some (.struct fs):=fun fs h=>hs ⟨fs,h⟩
  rw [z0S hp hns ho] at k1
  have hl:cs'.length=1:=by have:=k1.1;simpa using this
  obtain ⟨v',rfl⟩:∃ v',cs' = [v']:=by
   match cs',hl with
   | [v'],_=>exact ⟨v',rfl⟩
  refine ⟨H',φ',v',e1,m1,R1,o1,k1.head,?_⟩
  unfold IsV
  split
  ·rename_i fs hu;exact h1Y hu (hns fs)
  ·exact z1
theorem r0X (hb:X.base=w.heap.size) {m:Nat} {base:Nat}:∀ (ts:List TypeId) (vs:List Value) (ds:List (DataW D)) (ps:List MemPlace) (H:a0f) (φ:Inj),DataW.TrodAll enc P w 0 (fun _=>true) true ts vs ds ps →
  (∀ t,t ∈ ts→e0B P m t=true)→(∀ (j:Nat) t v,ts[j]? = some t→vs[j]? = some v→Value.okWide P w .any base t v)→Rel X φ H w→g0M H →
  ∃ H' φ' vs',(∀ b x,φ b=some x→φ' b=some x)∧n0A H H'∧Rel X φ' H' w∧g0M H'∧CR X φ' w.shape? vs' vs∧K0p P H' m ts vs'
 | [],[],[],_,H,φ,_,_,_,hR,hro=>⟨H,φ,[],fun _ _ h=>h,n0A.refl H,hR,hro,CR.nil,trivial⟩
 | t :: ts,v :: vs,d :: ds,ps,H,φ,h,hp,ho,hR,hro=>by
  obtain ⟨p,q,h1,h2,_⟩:=h
  obtain ⟨H1,φ1,v1,e1,m1,R1,o1,k1,z1⟩:=L0o hb h1 (hp t (by simp)) (ho 0 t v rfl rfl) hR hro
  obtain ⟨H2,φ2,vs2,e2,m2,R2,o2,k2,z2⟩:=r0X hb ts vs ds q H1 φ1 h2 (fun t ht=>hp t (by simp [ht])) (fun j t v h1 h2=>ho (j + 1) t v (by simpa using h1) (by simpa using h2)) R1 o1
  exact ⟨H2,φ2,v1 :: vs2,fun b x h=>e2 b x (e1 b x h),m1.trans m2,R2,o2,CR.cons (k1.mono e2 (fun _ _ h=>h)) k2,z1.mono m2,z2⟩
 | [],[],_ :: _,_,_,_,h,_,_,_,_=>h.elim
 | [],_ :: _,_,_,_,_,h,_,_,_,_=>by cases ‹List (DataW D)› <;> exact h.elim
 | _ :: _,[],_,_,_,_,h,_,_,_,_=>by cases ‹List (DataW D)› <;> exact h.elim
 | _ :: _,_ :: _,[],_,_,_,h,_,_,_,_=>h.elim
theorem y0P {f:Func} {s:ChangeSpec} {apart fresh handsOn again:Bool} {W W':World} {args:Array Value} {v:Value} {ds gs:List (DataW D)} {before pa pv:List MemPlace}
  (hW:DataW.Whole enc P f.params.toList s.vars apart W args.toList ds gs before)
  (hres:∀ (b:Nat) (sp:Nat→Bool) (hd:Bool),DataW.TrodAll enc P W' b sp hd f.resultTypes.toList (v.resultList f.resultTypes.size) (s.fn D (ds ++ gs)).results [])
  (hargs:∀ sp:Nat→Bool,(∀ p ∈ before,sp p.block=true)→DataW.TrodAll enc P W' 0 sp true f.params.toList args.toList (s.fn D (ds ++ gs)).args pa)
  (hvars:∀ sp:Nat→Bool,(∀ p ∈ before,sp p.block=true)→DataW.TrodVars enc P W' sp s.vars (s.fn D (ds ++ gs)).vars pv)
  (hps:before=pa ++ pv) (hbe:Below W.heap.size W W')
  (hok:∀ (j:Nat) (t:TypeId) (r:Value),f.resultTypes[j]? = some t→(v.resultList f.resultTypes.size)[j]? = some r→Value.okWide P W' .any 0 t r) :
  s.post enc P f apart fresh handsOn again W args v W':=by
 have hold:∀ p ∈ before,(fun b=>decide (b < W.heap.size)) p.block=true:=fun p hp=>by simpa using hW.lt p hp
 have hk:W.keptBut W' (· ∈ before):=by
  refine ⟨hbe.os,hbe.output,fun i hi=>?_⟩
  rw [hbe.block i hi]
  cases W.heap[i]? with
  | none=>rfl
  | some o=>cases o <;> simp
 refine ⟨ds,gs,before,[],pa,pv,hW,hres _ _ _,hargs _ hold,hvars _ hold,World.keptBut_mono (fun p hp=>⟨hp,?_⟩) hk,fun _=>?_⟩
 ·rw [hps,i1g] at hp
  exact Or.inr hp
 ·have hlt:=hW.lt
  obtain ⟨_,_,_,_,_,hz,hn⟩:=hW
  refine ⟨hok,_,_,([] ++ pa) ++ pv,⟨[] ++ pa,pv,trodAll_append (hargs _ (fun _ _=>rfl)) (hres _ _ _),hvars _ (fun _ _=>rfl),rfl,?_,?_⟩,?_⟩
  ·intro b off hp
   have hp':MemPlace.cell b off ∈ before:=by rw [hps];simpa using hp
   have h1:=hz b off hp'
   have h2:b < W.heap.size:=hlt _ hp'
   have h3:=hbe.block b h2
   unfold World.frozen? at h1 ⊢
   simpa [h3] using h1
  ·intro ha
   have:=hn ha
   rw [hps] at this
   simpa using this
  ·intro p hp _
   rw [hps]
   simpa using hp
theorem j0X (hl:laidOutB P=true) {W W':World} (hbe:Below W.heap.size W W') {sp:Nat→Bool}:∀ {ts:List TypeId} {vs:List Value} {ds:List (DataW D)} {ps:List MemPlace},
  DataW.TrodAll enc P W 0 (fun _=>true) true ts vs ds ps→(∀ t,t ∈ ts→P.readableRec t=true∧t < P.types.size)→(∀ p ∈ ps,p.block < W.heap.size)→(∀ p ∈ ps,sp p.block=true)→DataW.TrodAll enc P W' 0 sp true ts vs ds ps
 | [],[],[],_,h,_,_,_=>h
 | t :: ts,v :: vs,d :: ds,ps,⟨p,q,h1,h2,e⟩,hr,hlt,hsp=>by
  subst e
  refine ⟨p,q,WideElems.Trod_stays hl (hr t (by simp)).1 (hr t (by simp)).2 h1 (fun x hx=>hbe.same (hlt x (by simp [hx]))) (fun x hx=>hsp x (by simp [hx])),?_,rfl⟩
  exact j0X hl hbe h2 (fun t ht=>hr t (by simp [ht])) (fun x hx=>hlt x (by simp [hx])) (fun x hx=>hsp x (by simp [hx]))
 | [],[],_ :: _,_,h,_,_,_=>h.elim
 | [],_ :: _,ds,_,h,_,_,_=>by cases ds <;> exact h.elim
 | _ :: _,[],ds,_,h,_,_,_=>by cases ds <;> exact h.elim
 | _ :: _,_ :: _,[],_,h,_,_,_=>h.elim
theorem r0S {E:Env} (hsim:∀ (base n:Nat),d0Z ⟨P,base⟩ (b0r E n)) {f:FuncId} {fn:Func} {s:ChangeSpec} {apart fresh handsOn again:Bool} {m:Nat} {tb:TypeId} (hl:laidOutB P=true) (hts:∀ t,t ∈ fn.params.toList→e0B P m t=true∧P.readableRec t=true∧t < P.types.size)
  (hrt:fn.resultTypes = #[tb]) (htb:P.underlying tb=some .bool) (hv:s.vars=[]) (hs:∀ ds:List (DataW D),ds.length=fn.params.size→s.fn D ds = { results:=[.lit (.bool true)],args:=ds })
  (hdo:∀ (Ha:a0f) (vs:List Value),K0p P Ha m fn.params.toList vs→a0S E Ha.size f vs Ha (fun r _=>r=.bool true) (fun _=>False))
  (W:World) (base:Nat) (args:Array Value) (ds gs:List (DataW D)) (before:List MemPlace)
  (hval:∀ (j:Nat) t v,fn.params[j]? = some t→args[j]? = some v→Value.okWide P W .any base t v)
  (hW:DataW.Whole enc P fn.params.toList s.vars apart W args.toList ds gs before) :
  Calls P f args W fun e W'=>∃ v,e=.returned v∧s.post enc P fn apart fresh handsOn again W args v W':=by
 have hW':=hW
 obtain ⟨p,q,hA,hV,hpq,hfz,hnd⟩:=hW
 rw [hv] at hV
 obtain ⟨rfl,rfl⟩:=trodVars_none hV
 have hb:(⟨P,W.heap.size⟩:Cx).base=W.heap.size:=rfl
 have h0:Rel ⟨P,W.heap.size⟩ (fun _=>none) #[] W:=⟨h1A _,fun _ _ h=>by simp at h,fun _ _ _ _ _ _ h=>by simp at h,fun _ _ _ _ _ _ _ h=>by simp at h⟩
 have ho0:g0M #[]:=fun b e cs h=>by simp [a0f.blk] at h
 obtain ⟨Ha,φ,vs,_,_,hR,hro,hcr,hz⟩:=r0X (X:=⟨P,W.heap.size⟩) hb _ _ _ _ #[] (fun _=>none) hA (fun t ht=>(hts t ht).1) (fun j t v h1 h2=>hval j t v (by simpa using h1) (by simpa using h2)) h0 ho0
 obtain ⟨n,hn⟩:=hdo Ha vs hz
 have hsz:ds.length=fn.params.size:=by
  have:∀ (ts:List TypeId) (vs:List Value) (ds:List (DataW D)) (ps:List MemPlace),DataW.TrodAll enc P W 0 (fun _=>true) true ts vs ds ps→ds.length=ts.length:=by
   intro ts
   induction ts with
   | nil=>intro vs ds ps h;cases vs <;> cases ds <;> first | rfl | exact h.elim
   | cons t ts ih =>
    intro vs ds ps h
    cases vs <;> cases ds <;> first | exact h.elim | skip
    obtain ⟨_,_,_,h2,_⟩:=h
    simp [ih _ _ _ h2]
  simpa using this _ _ _ _ hA
 cases hc:b0r E n Ha.size f vs Ha with
 | bad=>rw [hc] at hn;exact hn.elim
 | pan v=>rw [hc] at hn;exact hn.elim
 | ok r =>
  obtain ⟨rv,H'⟩:=r
  rw [hc] at hn
  have hrv:rv=.bool true:=hn
  subst hrv
  refine ((hsim W.heap.size n Ha.size f vs Ha φ W args hR hcr (h1A _)).1 _ _ hc).2.mono ?_
  rintro e W' ⟨v',φ',rfl,hvr,hst⟩
  cases hvr
  have hbe:Below W.heap.size W W':=⟨hst.os,hst.tape,hst.out,hst.wsz,fun k hk=>hst.frame k hk fun b o e cs _ _ h=>hro b e cs h⟩
  have hsp:=hs (ds ++ []) (by simpa using hsz)
  have hlt:=hW'.lt
  refine ⟨_,rfl,y0P (pa:=p) (pv:=[]) hW' (fun b sp hd=>?_) (fun sp hsp'=>?_) (fun sp _=>?_) hpq hbe ?_⟩
  ·rw [hsp,hrt]
   exact trodAll_cons_mk (shut_bool htb true) trodAll_mk0
  ·rw [hsp,List.append_nil]
   exact j0X hl hbe hA (fun t ht=>(hts t ht).2) (fun x hx=>hlt x (by rw [hpq];simp [hx])) (fun x hx=>hsp' x (by rw [hpq];simp [hx]))
  ·rw [hsp,hv];rfl
  ·exact ok_one hrt rfl (okWide_bool_mk htb _)
theorem y0w {m:Nat} {t1 t2 t3:TypeId} {vs:List Value} (h:K0p P H m [t1,t2,t3] vs):∃ u v w,vs=[u,v,w]∧IsV P H m t1 u∧IsV P H m t2 v∧IsV P H m t3 w:=by
 match vs,h with
 | [u,v,w],⟨h1,h2,h3,_⟩=>exact ⟨u,v,w,rfl,h1,h2,h3⟩
end
section
open Go
variable {E:Env} {fl:Nat} {t:b0b} {H G:a0f} {K:n0C} {R:a0G}
theorem nr {α:Sort _} {a b:α} (h:a=b):a=b:=h
def oo {α:Type} (o:Option α) (K:α→Prop):Prop:=∃ a,o=some a∧K a
@[simp] theorem q0b {α:Type} (a:α) (K:α→Prop):oo (some a) K=K a:=by simp [oo]
@[simp] theorem t0J {α:Type} (K:α→Prop):oo (none:Option α) K=False:=by simp [oo]
def T (n:Nat) (ρ:Nat→Value):b0b:=(List.range n).map ρ
def upd (ρ:Nat→Value) (d:Nat) (v:Value):Nat→Value:=fun i=>if d=i then v else ρ i
theorem l0I {ρ:Nat→Value} {d:Nat} {v:Value}:upd ρ d v d=v:=by simp [upd]
theorem j0Z {ρ:Nat→Value} {d i:Nat} {v:Value} (h:d ≠ i):upd ρ d v i=ρ i:=by simp [upd,h]
theorem V0A {n d:Nat} {ρ:Nat→Value} {v:Value}:put (T n ρ) (some d) v=T n (upd ρ d v):=by
 unfold put T
 apply j1L
 intro i
 simp only [i1m,i1Q,i1P,List.length_range,List.getElem?_range',j1m]
 by_cases hi:i < n
 ·rw [j1m hi]
  by_cases hd:d=i
  ·subst hd;simp [hi,upd]
  ·simp [hd,upd]
 ·rw [h1M (by simpa using hi)]
  by_cases hd:d=i
  ·subst hd;simp [hi]
  ·simp [hd]
theorem b0V {n i:Nat} {ρ:Nat→Value} (h:i < n):get (T n ρ) i=ρ i:=by
 unfold get T
 rw [h1z,i1Q,j1m h];rfl
theorem K0v {t:b0b} {n:Nat} (h:t.length=n):t=T n (get t):=by
 apply j1L
 intro i
 unfold T
 by_cases hi:i < n
 ·rw [i1Q,j1m hi,h1E (by omega)]
  simp [get,h1z,h1E (show i < t.length by omega)]
 ·rw [h1M (by omega),h1M (by simpa using hi)]
theorem W0K {ρ:Nat→Value} {d i:Nat} {v:Value}:upd ρ d v i=if d=i then v else ρ i:=rfl
theorem Z0g {n i:Nat} {ρ:Nat→Value}:get (T n ρ) i=if i < n then ρ i else undef:=by
 by_cases h:i < n
 ·rw [h1F h,b0V h]
 ·rw [h1C h];unfold get T;rw [h1z,h1M (by simpa using h)];rfl
@[simp] theorem b1m {n:Nat} {ρ:Nat→Value}:(T n ρ).length=n:=by simp [T]
theorem toT {t:b0b} {n:Nat} (h:t.length=n):∃ ρ,t=T n ρ:=⟨_,K0v h⟩
attribute [irreducible] upd T
@[simp] theorem b1p {v:Value}:put t none v=t:=nr rfl
@[simp] theorem X0s {d:Option Nat} {v:Value}:(put t d v).length=t.length:=by cases d <;> simp [put]
@[simp] theorem k0S {i:Nat}:ev t (.tmp i)=get t i:=nr rfl
@[simp] theorem K0X {v:Value}:ev t (.const v)=v:=nr rfl
@[simp] theorem h1p {f:FuncId}:ev t (.fn f)=.func (.func f) #[] #[]:=nr rfl
def V0y:Value→Value→Value→Option Value
 | .bool b,x,y=>some (if b then x else y)
 | _,_,_=>none
@[simp] theorem X0y {b:Bool} {x y:Value}:V0y (.bool b) x y=some (if b then x else y):=nr rfl
def U0L (k:IntKind):Value→Option Value
 | .int _ n=>some (.int k (k.wrap n))
 | _=>none
@[simp] theorem Y0t {k k':IntKind} {n:Int}:U0L k (.int k' n)=some (.int k (k.wrap n)):=nr rfl
def i0r:Value→Option Value
 | .slice _ n _=>some (.int .i64 n)
 | _=>none
def adr (size:Nat) (v:Value) (j:Nat):Value :=
 match v with
 | .slice (some p) _ _=>.pointer (some ⟨p.block,p.off + j * size,none⟩)
 | _=>undef
def iaV (size:Nat) (v:Value) (i:Value):Option Value :=
 match v,i with
 | .slice (some p) n _,.int _ j=>if 0≤j∧j < n then some (.pointer (some ⟨p.block,p.off + j.toNat * size,none⟩)) else none
 | _,_=>none
def f1b (v:Value) (i:Nat):Option Value:=match v with | .tuple vs=>vs[i]? | _=>none
@[simp] theorem W0T {vs:Array Value} {i:Nat}:f1b (.tuple vs) i=vs[i]?:=nr rfl
def faV (off:Nat):Value→Option Value
 | .pointer (some p)=>if p.spot.isSome=true then none else some (.pointer (some ⟨p.block,p.off + off,none⟩))
 | _=>none
@[simp] theorem f1d {off b o:Nat}:faV off (.pointer (some ⟨b,o,none⟩))=some (.pointer (some ⟨b,o + off,none⟩)):=by simp [faV]
def d1C:Value→Option Value
 | .pointer (some a)=>some (.pointer (some a))
 | .func (.func f) a b=>some (.func (.func f) a b)
 | .iface a b=>some (.iface a b)
 | _=>none
def e0X (fl:Nat) (H:a0f) (n:Nat) (a x:Value):Option a0f :=
 match a with
 | .pointer (some p)=>if p.spot.isSome=true ∨ (a0U x).length ≠ n then none else H.write? fl p.block p.off (a0U x)
 | _=>none
def mkV (bytes:Nat):Value→Value→Option (Nat × Nat)
 | .int _ l,.int _ c=>if 0≤l∧l≤c∧c≤1073741824∧bytes≤1024 then some (l.toNat,c.toNat) else none
 | _,_=>none
theorem h0d {bytes:Nat} {k k':IntKind} {l c:Nat} (h1:l≤c) (h2:c≤1073741824) (h3:bytes≤1024):mkV bytes (.int k l) (.int k' c)=some (l,c):=by
 unfold mkV;simp only;rw [h1F (by omega)];simp
theorem X0v {bytes:Nat} {k k':IntKind} {l c:Int} (h0:0≤l) (h1:l≤c) (h2:c≤1073741824) (h3:bytes≤1024):mkV bytes (.int k l) (.int k' c)=some (l.toNat,c.toNat):=by
 unfold mkV;simp only;rw [h1F ⟨h0,h1,h2,h3⟩]
variable {x y a b c:Opd}
theorem K0C:WS E fl t H (.mv x) K R=K (ev t x) H:=nr rfl
theorem U0u:WS E fl t H (.pick c a b) K R=oo (V0y (ev t c) (ev t a) (ev t b)) fun v=>K v H:=by
 simp only [WS,opA];generalize ev t c=v;generalize ev t a=va;generalize ev t b=vb
 cases v <;> simp [V0y,oo]
 rename_i q;cases q <;> simp
theorem z0K {tag:Nat} {o:BinOp}:WS E fl t H (.bin tag o x y) K R=oo (d0d tag o (ev t x) (ev t y)) fun v=>K v H:=by
 simp only [WS,opA];cases d0d tag o (ev t x) (ev t y) <;> simp [b0H]
theorem c1S {u:UnOp}:WS E fl t H (.un u x) K R=oo (unA u (ev t x)) fun v=>K v H:=by
 simp only [WS,opA];cases unA u (ev t x) <;> simp [b0H]
theorem U0s {k:IntKind}:WS E fl t H (.conv k x) K R=oo (U0L k (ev t x)) fun v=>K v H:=by
 simp only [WS,opA];generalize ev t x=v;cases v <;> simp [U0L]
theorem X0V:WS E fl t H (.len x) K R=oo (i0r (ev t x)) fun v=>K v H:=by
 simp only [WS,opA];generalize ev t x=v;cases v <;> simp [i0r]
theorem c1P {size:Nat}:WS E fl t H (.ia size x y) K R=oo (iaV size (ev t x) (ev t y)) fun v=>K v H:=by
 simp only [WS,opA,iaV];generalize ev t x=v;generalize ev t y=w
 cases v <;> simp
 rename_i p n c;cases p <;> cases w <;> simp
 rename_i q k j;by_cases hc:0≤j∧j < n <;> simp [hc]
theorem X0T {i:Nat}:WS E fl t H (.ext x i) K R=oo (f1b (ev t x) i) fun v=>K v H:=by
 simp only [WS,opA,f1b];generalize ev t x=v
 cases v <;> simp
 rename_i vs;cases h:vs[i]? <;> simp [b0H]
theorem c1O {off:Nat}:WS E fl t H (.fa off x) K R=oo (faV off (ev t x)) fun v=>K v H:=by
 simp only [WS,opA,faV];generalize ev t x=v
 cases v <;> simp
 rename_i p;cases p <;> simp
 rename_i q;by_cases hc:q.spot.isSome=true <;> simp [hc]
theorem X0U {agg:Bool} {off n:Nat}:WS E fl t H (.fld agg off n x) K R=oo (L0g agg off n (ev t x)) fun v=>K v H:=by
 simp only [WS,opA];cases L0g agg off n (ev t x) <;> simp [b0H]
theorem X0S:WS E fl t H (.chk x) K R=oo (d1C (ev t x)) fun v=>K v H:=by
 simp only [WS,opA,d1C];generalize ev t x=v
 cases v <;> simp
 case pointer p=>cases p <;> simp
 case func f _ _=>cases f <;> simp
theorem K0B {ty:TypeId}:WS E fl t H (.iface ty x) K R=K (.iface ty (ev t x)) H:=nr rfl
theorem U0t {f:Fn} {as bs:List Opd}:WS E fl t H (.mkfn f as bs) K R=K (.func f (as.map (ev t)).toArray (bs.map (ev t)).toArray) H:=nr rfl
theorem K0z {z:List Value} {ps:List (Nat × Nat × Opd)}:WS E fl t H (.build z ps) K R=oo (g0A z (b0C t ps)) fun cs=>K (.agg cs.toArray) H:=by
 simp only [WS,opA];cases g0A z (b0C t ps) <;> simp [b0H]
theorem t0i {agg:Bool} {n:Nat}:WS E fl t H (.load agg n x) K R=oo (b0x H agg n (ev t x)) fun v=>K v H:=by
 simp only [WS,opA];cases b0x H agg n (ev t x) <;> simp [b0H]
theorem X0X {big:Bool} {ys:List Opd}:WS E fl t H (.mnx big x ys) K R=oo (t0I big (ev t x) (ys.map (ev t))) fun v=>K v H:=by
 simp only [WS,opA];cases t0I big (ev t x) (ys.map (ev t)) <;> simp [b0H]
theorem c1R {e:TypeId} {size:Nat} {lo hi mx:Option Opd}:WS E fl t H (.sl e size x lo hi mx) K R =
  (elemOk H e (ev t x)=true∧oo (e0a size (ev t x) (lo.map (ev t)) (hi.map (ev t)) (mx.map (ev t))) fun v=>K v H):=by
 simp only [WS,opA]
 cases elemOk H e (ev t x) <;> cases e0a size (ev t x) (lo.map (ev t)) (hi.map (ev t)) (mx.map (ev t)) <;> simp [b0H]
theorem K0y {e:TypeId} {z:List Value}:WS E fl t H (.alloc e z) K R=K (.pointer (some ⟨H.size,0,none⟩)) (H.push (.row false e z)):=nr rfl
theorem X0Q {e:TypeId}:WS E fl t H (.box e x) K R=K (.pointer (some ⟨H.size,0,none⟩)) (H.push (.row false e (a0U (ev t x)))):=nr rfl
theorem X0W {e:TypeId} {z:List Value} {n:Nat} {ps:List (Nat × Nat × Opd)}:WS E fl t H (.lit e z n ps) K R =
  oo (g0A (f0y z n) (b0C t ps)) fun cs=>K (.slice (some ⟨H.size,0,none⟩) n n) (H.push (.row false e cs)):=by
 simp only [WS,opA];cases g0A (f0y z n) (b0C t ps) <;> simp
theorem c1Q {e:TypeId} {bytes:Nat} {z:List Value}:WS E fl t H (.mk e bytes z x y) K R =
  oo (mkV bytes (ev t x) (ev t y)) fun p=>K (.slice (some ⟨H.size,0,none⟩) p.1 p.2) (H.push (.row false e (f0y z p.1))):=by
 simp only [WS,opA,mkV];generalize ev t x=v;generalize ev t y=w
 cases v <;> cases w <;> simp
 rename_i k l k' c;by_cases hc:0≤l∧l≤c∧c≤1073741824∧bytes≤1024 <;> simp [hc]
theorem K0D {n:Nat}:WS E fl t H (.store n x y) K R=oo (e0X fl H n (ev t x) (ev t y)) fun H'=>K undef H':=by
 simp only [WS,opA,e0X];generalize ev t x=v;generalize ev t y=w
 cases v <;> simp
 rename_i p;cases p <;> simp
 rename_i q;by_cases hc:q.spot.isSome=true ∨ (a0U w).length ≠ n <;> simp [hc]
 cases H.write? fl _ _ (a0U w) <;> simp
theorem X0P {e:TypeId} {size bytes:Nat}:WS E fl t H (.app e size bytes x y) K R=oo (k0c fl H e size bytes (ev t x) (ev t y)) fun p=>K p.1 p.2:=by
 simp only [WS,opA];cases k0c fl H e size bytes (ev t x) (ev t y) <;> simp [g0t]
theorem U0r {f:FuncId} {as:List Opd} {lone:Bool}:WS E fl t H (.call f as lone) K R=a0S E (if lone then fl else max fl H.size) f (as.map (ev t)) H K R:=nr rfl
theorem z0J {Z:b0b→a0f→Prop}:WR E fl [] t H Z R=Z t H:=nr rfl
theorem l0M {d:Option Nat} {op:SOp} {r:List a0L} {Z:b0b→a0f→Prop}:WR E fl (⟨d,none,op⟩ :: r) t H Z R=WS E fl t H op (fun v H'=>WR E fl r (put t d v) H' Z R) R:=by
 simp [WR,b0g]
theorem K0x {t t':b0b} {ops:List a0L} {Z:b0b→a0f→Prop} (h:t=t'):WR E fl ops t H Z R=WR E fl ops t' H Z R:=by rw [h]
theorem x0N {fl fl':Nat} {f:FuncId} {as as':List Value} (h:as=as') (hf:fl=fl'):a0S E fl f as H K R=a0S E fl' f as' H K R:=by rw [h,hf]
theorem U0w {c:SCode} {Q:d0X}:W E fl c t H Q R=W E fl c t H Q R:=nr rfl
theorem K0A {op:SOp}:WS E fl t H op K R=WS E fl t H op K R:=nr rfl
theorem L0t {α:Type} {o o':Option α} {K:α→Prop} (h:o=o'):oo o K=oo o' K:=by rw [h]
def Ext (H G:a0f):Prop:=H.size≤G.size∧∀ b,b < H.size→G.blk b=H.blk b
theorem Ext.refl (H:a0f):Ext H H:=⟨h1A _,fun _ _=>rfl⟩
theorem Ext.trans {H1 H2 H3:a0f} (h:Ext H1 H2) (k:Ext H2 H3):Ext H1 H3:=⟨h1R h.1 k.1,fun b hb=>(k.2 b (h1W hb h.1)).trans (h.2 b hb)⟩
theorem f0L.ext (h:f0L H.size H G):Ext H G:=⟨h.size,h.low⟩
theorem a0C {r:Blk}:a0f.blk (H.push r) H.size=r:=by simp [a0K]
theorem e0c {r:Blk} {b:Nat} (h:b < H.size):a0f.blk (H.push r) b=H.blk b:=by rw [a0K,h1C (by omega)]
theorem a0A {r:Blk} {b:Nat} (h:b < H.size):a0f.blk (H.setIfInBounds b r) b=r:=by
 unfold a0f.blk;simp [h1N,i1j,h]
theorem b0h {r:Blk} {b c:Nat} (h:b ≠ c):a0f.blk (H.setIfInBounds b r) c=H.blk c:=by
 unfold a0f.blk;simp [h1N,i1j,h]
theorem Ext.push {r:Blk} (h:Ext H G):Ext H (G.push r):=⟨by have:=h.1;simp;omega,fun b hb=>by rw [e0c (h1W hb h.1)];exact h.2 b hb⟩
theorem Ext.set {r:Blk} {b:Nat} (h:Ext H G) (hb:H.size≤b):Ext H (G.setIfInBounds b r):=⟨by have:=h.1;simpa using this,fun c hc=>by rw [b0h (by omega)];exact h.2 c hc⟩
theorem Ext.le (h:Ext H G):H.size≤G.size:=h.1
theorem Ext.blk {b:Nat} {ro:Bool} {e:TypeId} {cs:List Value} (h:Ext H G) (hb:H.blk b=.row ro e cs):G.blk b=.row ro e cs:=by rw [h.2 b (a0l hb)];exact hb
theorem h0J {b off n:Nat} {ro:Bool} {e:TypeId} {cs:List Value} (h:H.blk b=.row ro e cs) (hn:off + n≤cs.length):H.cells? b off n=some ((cs.drop off).take n):=by
 unfold a0f.cells?;rw [h];simp [hn]
end
section
open Go
variable {E:Env} {fl:Nat} {t:b0b} {H:a0f} {Q:d0X} {R:a0G}
theorem p0G {n m k:Nat} {c:SCode} {o:Out} (hn:n≤m) (hk:k≤m) (h:b0c (b0r E n) fl k c t H=o) (ho:o ≠ .bad):b0c (b0r E m) fl m c t H=o:=by
 rw [b0i (a0N E n m hn) (h1A fl) k m c t H hk (by rw [h];exact ho),h]
theorem v0J {a b:SCode}:W E fl (.seq a b) t H Q R=W E fl a t H (i0s (fun t' H'=>W E fl b t' H' Q R) Q) R:=by
 refine k1B ⟨fun ⟨n,h⟩=>?_,h0Y⟩
 cases n with
 | zero=>simp only [b0c] at h;exact h1Y h id
 | succ m =>
  simp only [b0c] at h
  cases ha:b0c (b0r E (m+1)) fl m a t H with
  | bad=>rw [ha] at h;exact h1Y h id
  | pan v=>rw [ha] at h;exact ⟨m + 1,by rw [p0G (h1A _) (by omega) ha (by simp)];exact h⟩
  | fin e t' H' =>
   rw [ha] at h
   refine ⟨m + 1,?_⟩
   rw [p0G (h1A _) (by omega) ha (by simp)]
   cases e with
   | normal=>exact ⟨m + 1,m0a (h1A _) (by omega) h⟩
   | exit i=>exact h
   | ret=>exact h
theorem U0B:W E fl .skip t H Q R=Q .normal t H:=k1B ⟨fun ⟨n,h⟩=>by cases n with | zero=>exact h1Y h id | succ m=>exact h,v0H⟩
theorem U0A {i:Nat}:W E fl (.exit i) t H Q R=Q (.exit i) t H:=k1B ⟨fun ⟨n,h⟩=>by cases n with | zero=>exact h1Y h id | succ m=>exact h,v0G⟩
theorem Y0a:W E fl .ret t H Q R=Q .ret t H:=k1B ⟨fun ⟨n,h⟩=>by cases n with | zero=>exact h1Y h id | succ m=>exact h,c1T⟩
def U0H:Value→Option Bool
 | .bool b=>some b
 | _=>none
@[simp] theorem W0R {b:Bool}:U0H (.bool b)=some b:=nr rfl
theorem U0z {c:Opd} {a b:SCode}:W E fl (.cond c a b) t H Q R=oo (U0H (ev t c)) fun x=>(x=true→W E fl a t H Q R)∧(x=false→W E fl b t H Q R):=by
 refine k1B ⟨fun ⟨n,h⟩=>?_,fun ⟨x,hx,ha,hb⟩=>l0O x (by unfold U0H at hx;split at hx <;> simp_all) ha hb⟩
 cases n with
 | zero=>exact h1Y h id
 | succ m =>
  simp only [b0c] at h
  split at h
  ·rename_i hc;refine ⟨true,by rw [hc];rfl,fun _=>⟨m + 1,m0a (h1A _) (by omega) h⟩,by simp⟩
  ·rename_i hc;refine ⟨false,by rw [hc];rfl,by simp,fun _=>⟨m + 1,m0a (h1A _) (by omega) h⟩⟩
  ·exact h1Y h id
theorem K0E {i:Nat} {c:SCode}:W E fl (.block i c) t H Q R=W E fl c t H (e0P i Q) R:=by
 refine k1B ⟨fun ⟨n,h⟩=>?_,p0u⟩
 cases n with
 | zero=>exact h1Y h id
 | succ m =>
  simp only [b0c] at h
  cases ha:b0c (b0r E (m+1)) fl m c t H with
  | bad=>rw [ha] at h;exact h1Y h id
  | pan v=>rw [ha] at h;exact ⟨m + 1,by rw [p0G (h1A _) (by omega) ha (by simp)];exact h⟩
  | fin e t' H' =>
   rw [ha] at h
   refine ⟨m + 1,?_⟩
   rw [p0G (h1A _) (by omega) ha (by simp)]
   cases e with
   | normal=>exact h
   | ret=>exact h
   | exit j =>
    simp only at h
    show (if j=i then Q .normal t' H' else Q (.exit j) t' H')
    split at h
    ·rename_i hj;rw [h1F hj];exact h
    ·rename_i hj;rw [h1C hj];exact h
theorem r0p {op:SOp} {K:n0C} {n:Nat} (h:n0Y K R (b0D (b0r E n) fl t H op)):WS E fl t H op K R:=by
 unfold WS
 unfold b0D at h
 cases ho:opA fl t H op with
 | bad=>rw [ho] at h;exact h1Y h id
 | pan v=>rw [ho] at h;exact h
 | val v H'=>rw [ho] at h;exact h
 | call f as lone=>rw [ho] at h;exact ⟨n,h⟩
theorem l0N {Z:b0b→a0f→Prop} {n:Nat}:∀ (ops:List a0L) {t:b0b} {H:a0f},k0y (fun _ t' H'=>Z t' H') R (f0a (b0r E n) fl ops t H)→WR E fl ops t H Z R
 | [],t,H,h=>h
 | o :: r,t,H,h=>by
  simp only [WR]
  simp only [f0a] at h
  split at h
  ·rename_i hw
   rw [h1F hw]
   cases hs:b0D (b0r E n) fl t H o.op with
   | bad=>rw [hs] at h;exact h1Y h id
   | pan v=>rw [hs] at h;exact r0p (by rw [hs];exact h)
   | ok x=>rw [hs] at h;exact r0p (n:=n) (by rw [hs];exact l0N r h)
  ·rename_i hw
   rw [h1C hw];exact l0N r h
theorem X0Z {ops:List a0L}:W E fl (.reg ops) t H Q R=WR E fl ops t H (fun t' H'=>Q .normal t' H') R:=by
 refine k1B ⟨fun ⟨n,h⟩=>?_,l0Q⟩
 cases n with
 | zero=>exact h1Y h id
 | succ m =>
  simp only [b0c] at h
  refine l0N (n:=m + 1) ops ?_
  cases hr:f0a (b0r E (m+1)) fl ops t H with
  | bad=>rw [hr] at h;exact h
  | pan v=>rw [hr] at h;exact h
  | fin e t' H' =>
   rw [hr] at h
   have he:=(regA_keep' ops t H hr)
   subst he;exact h
where
 regA_keep' {c:K0t} {fl:Nat}:∀ (ops:List a0L) (t:b0b) (H:a0f) {e:XA} {t':b0b} {H':a0f},f0a c fl ops t H=.fin e t' H'→e=.normal
  | [],t,H,e,t',H',h=>by simp only [f0a,Out.fin.injEq] at h;exact h.1.symm
  | o :: r,t,H,e,t',H',h=>by
   simp only [f0a] at h
   split at h
   ·split at h
    ·cases h
    ·cases h
    ·exact regA_keep' r _ _ h
   ·exact regA_keep' r _ _ h
@[simp] theorem e0x {k:b0b→a0f→Prop}:i0s k Q .normal t H=k t H:=nr rfl
@[simp] theorem X0A {k:b0b→a0f→Prop} {i:Nat}:i0s k Q (.exit i) t H=Q (.exit i) t H:=nr rfl
@[simp] theorem a1I {k:b0b→a0f→Prop}:i0s k Q .ret t H=Q .ret t H:=nr rfl
@[simp] theorem K0M {i:Nat}:e0P i Q .normal t H=Q .normal t H:=nr rfl
@[simp] theorem U0E {i j:Nat}:e0P i Q (.exit j) t H=if j=i then Q .normal t H else Q (.exit j) t H:=nr rfl
@[simp] theorem W0Q {i:Nat}:e0P i Q .ret t H=Q .ret t H:=nr rfl
end
end Go.Proofs.YtjlohmnnldbjoaaGreat.AI
