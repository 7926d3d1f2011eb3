/- Part 3 of the proof: AiDraw5, AiDraw6, AiDraw7, AiKnown, AiQuick1, AiMono, AiW, AiOps, AiWe, AiCode0. -/
import Derived.Recover
import Derived.Test.YtjlohmnnldbjoaaGreatM00
import Derived.Test.YtjlohmnnldbjoaaGreatM01
set_option linter.unusedVariables false
set_option linter.unusedSimpArgs false
set_option linter.unusedSectionVars false
/- A region that draws its order: one more operation has run. -/
namespace Go.Proofs.YtjlohmnnldbjoaaGreat.AI
section
open Go
variable {X:Cx} {call:Nat→FuncId→List Value→a0f→Res (Value × a0f)} {fl:Nat} {ops:Array Oper} {l:List a0G} {bef:List Nat} {pairs:List (Nat × Nat)} {R:Run} (C:Ctx X call fl ops l bef pairs R)
variable {φ0 φ:Inj} {w0 w w':World} {Sd:Nat→Prop} {κ θ:Nat→Nat} {a:Act} (I:Inv X fl ops l bef R φ0 w0 Sd φ κ θ a w)
variable {j:Nat} {s:a0G} {o:Oper} (hs:l[j]? = some s) (ho:ops[j]? = some o) (hnj:¬ Sd j) (hpre:∀ i,b0i bef i j=true→Sd i)
include C I hs hnj hpre
open Classical in
theorem Inv.after {φ1:Inj} {G1:a0f} {v':Value} (hst:R.st j=1 ∨ R.st j=2) (hT':R.T (j + 1)=put (R.T j) s.dst (R.val j)) (hpar:Par (R.Hh j) (R.Hh (j + 1)) (l0k R φ κ j) G1)
  (hv:VR X φ1 w'.shape? (R.val j) v') (hS:d0c X fl (cut φ (R.Hh j).size) (l0k R φ κ j) w φ1 G1 w') (hW:∀ b,b ∈ (R.tc j).2→φ b ≠ none) (hφ0:∀ b y,φ0 b=some y→b < (R.Hh 0).size) :
  ∃ φ' κ' θ',Inv X fl ops l bef R φ0 w0 (fun k=>Sd k ∨ k=j) φ' κ' θ' (a.put s.dst v') w':=by
 have hj:j < l.length:=(List.getElem?_eq_some_iff.1 hs).1
 have hlow:fl≤(R.Hh j).size:=(C.keep0 (by omega:j≤l.length)).1
 have hks:=C.keepStep hj hlow
 have hsz:(R.Hh j).size≤(R.Hh (j + 1)).size:=hks.size
 have hG1:G1.size=(R.Hh (j + 1)).size:=hpar.size
 have hmaskRel:=Inv.rel C I hs hnj hpre
 let φ':Inj:=fun b=>if (R.Hh j).size≤b∧b < (R.Hh (j + 1)).size then φ1 b else φ b
 let ch:Nat→Prop:=fun b=>((R.Hh j).size≤b∧b < (R.Hh (j + 1)).size) ∨ (b < (R.Hh j).size∧(R.Hh (j + 1)).blk b ≠ (R.Hh j).blk b)
 let κ':Nat→Nat:=fun b=>if ch b then j + 1 else κ b
 let θ':Nat→Nat:=fun x=>if s.dst=some x then j + 1 else θ x
 have hφ':∀ b,φ' b=if (R.Hh j).size≤b∧b < (R.Hh (j + 1)).size then φ1 b else φ b:=fun _=>rfl
 have hκ1:∀ b,ch b→κ' b=j + 1:=fun b h=>if_pos h
 have hκ2:∀ b,¬ ch b→κ' b=κ b:=fun b h=>if_neg h
 have fA:∀ b y,φ b=some y→φ' b=some y:=fun b y hb=>by
  rw [hφ',if_neg];exact hb
  have:=Inv.notNew C I hs hnj hpre hb;omega
 have fOld:∀ b y,b < (R.Hh j).size→φ1 b=some y→φ b=some y:=fun b y hb h=>by
  cases hc:cut φ (R.Hh j).size b with
  | none=>have:=hS.fresh b y h hc;rw [d0Z] at this;omega
  | some z =>
   have:=hS.ext b z hc
   rw [h] at this;cases this
   exact (b0t.1 hc).2
 have fB:∀ b y,φ1 b=some y→b < (R.Hh (j + 1)).size∧φ' b=some y:=fun b y h=>by
  have hlt:=hS.rel.lt b y h
  rw [hG1] at hlt
  refine ⟨hlt,?_⟩
  rw [hφ']
  by_cases hb:(R.Hh j).size≤b
  ·rw [if_pos ⟨hb,hlt⟩];exact h
  ·rw [if_neg (by omega)];exact fOld b y (by omega) h
 have fC:∀ b y,φ' b=some y→b < (R.Hh (j + 1)).size→φ1 b=some y:=fun b y h hlt=>by
  rw [hφ'] at h
  split at h
  ·exact h
  ·rename_i hc
   exact hS.ext b y (b0t.2 ⟨by omega,h⟩)
 have fOut:∀ b y,φ' b=some y→¬ ((R.Hh j).size≤b∧b < (R.Hh (j + 1)).size)→φ b=some y:=fun b y h hc=>by rw [hφ',if_neg hc] at h;exact h
 have cutB:∀ b y,φ1 b=some y→cut φ' (R.Hh (j + 1)).size b=some y:=fun b y h=>b0t.2 (fB b y h)
 have dead_ge:∀ {k b:Nat},(R.Hh k).size≤b→(R.Hh k).blk b=.dead:=fun h=>g0B h
 -- a later operation that has run leaves alone what this one has turned
 have later:∀ b,ch b→(φ' b ≠ none)→∀ k,j + 1≤k→k < l.length→(Sd k ∨ k=j)→(R.Hh (k + 1)).blk b=(R.Hh k).blk b:=by
  intro b hch hdom k hjk hk hSk
  have hSk : Sd k := by rcases hSk with h | h; · exact h
                        ·omega
  apply Classical.byContradiction
  intro hne
  obtain ⟨sk,hsk⟩:=C.sAt hk
  have hbk:b < (R.Hh k).size:=by
   have h1:=C.szmono (show j + 1≤k by omega) (by omega)
   rcases hch with h | h <;> omega
  obtain ⟨u1,u2⟩:=Inv.unord C I hs hnj hpre hk (by omega) (.inl ⟨hSk,by omega⟩)
  have hwj:way s.op ≠ 0:=by
   rcases hch with h | h
   ·exact C.grow hs (by omega)
   ·have h3:=(C.change hs h.1 h.2).2
    rcases h3 with ⟨h3,_⟩ | ⟨h3,_⟩ <;> omega
  obtain ⟨c1,c2,c3,c4,c5⟩:=C.clash hsk hs (by omega) u1 u2 hbk hne hwj
  rcases hch with h | h
  ·-- new: nobody that has run could know it
   obtain ⟨hch2,_⟩:=C.change hsk hbk hne
   have hd:=I.W k sk hsk hSk hch2 b c2
   cases hφb:φ b with
   | none=>exact hd hφb
   | some y=>have:=Inv.notNew C I hs hnj hpre hφb;omega
  ·have h3:=(C.change hs h.1 h.2).2
   rcases h3 with ⟨_,h3⟩ | ⟨h3,_⟩
   ·exact c5 h3
   ·exact c3 h3
 -- an untouched block's concrete row, if it is not in the state that ran
 have stale:∀ b B o1 ro e cs,φ b=some (B,o1)→(R.Hh (κ b)).blk b=.row ro e cs→((R.Hh (j + 1)).size≤b ∨ ¬ v0h R κ j b)→b < (R.Hh j).size ∨ (R.Hh (j + 1)).size≤b→w'.heap[B]? = w.heap[B]?:=by
  intro b B o1 ro e cs hb hrow hout hrange
  have hrk:=(I.Rr b B o1 hb).2.2.2.2 ro e cs hrow
  refine hS.frame B hrk.lt ?_
  intro b1 o2 e1 cs1 hb1 hfl1 hrow1
  obtain ⟨g1,g2⟩:=b0t.1 hb1
  obtain ⟨g3,g4⟩:=e0j g2 hrow1
  have hne:b1 ≠ b:=by
   intro e;subst e
   rcases hout with h | h
   ·omega
   ·exact h g3
  have:=I.P b1 b B o2 o1 e1 cs1 g2 hb hne (by rw [← g3.2];exact g4)
  rw [this] at hrow;cases hrow
 -- the blocks of the state that ran
 have inRow:∀ b,b < (R.Hh (j + 1)).size→(ch b ∨ v0h R κ j b)→φ' b ≠ none→G1.blk b=(R.Hh (κ' b)).blk b:=by
  intro b hlt hin hdom
  by_cases hc:ch b
  ·rw [hκ1 b hc]
   rcases hc with h | h
   ·exact hpar.more b h.1
   ·exact hpar.diff b h.1 h.2
  ·rw [hκ2 b hc]
   have hg : v0h R κ j b := by rcases hin with h | h; · exact absurd h hc
                               ·exact h
   have hltj:b < (R.Hh j).size:=by
    by_cases h:b < (R.Hh j).size
    ·exact h
    ·exact absurd (.inl ⟨by omega,hlt⟩) hc
   have hsame:(R.Hh (j + 1)).blk b=(R.Hh j).blk b:=Classical.byContradiction fun h=>hc (.inr ⟨hltj,h⟩)
   rw [hpar.same b hltj hsame,h0s,if_neg (fun h=>h.2 hg),hg.2]
 refine ⟨φ',κ',θ',?_⟩
 refine
  { done := ?_
    down:=?_
    tlen:=?_
    defers:=?_
    base:=Nat.le_trans I.base hS.wsz
    T:=?_
    D:=?_
    Rr:=?_
    P:=?_
    W:=?_
    glob:=?_ }
 ·intro k hk hSk
  rcases hSk with h | h
  ·exact I.done k hk h
  ·subst h;exact hst
 ·intro k hk hSk i hi
  rcases hSk with h | h
  ·exact .inl (I.down k hk h i hi)
  ·subst h;exact .inl (hpre i hi)
 ·cases s.dst <;> simp [Act.put,I.tlen]
 ·rw [c0u];exact I.defers
 ·-- slots
  intro x hx
  have hlen:=C.tab.len
  by_cases hd:s.dst=some x
  ·have hθ:θ' x=j + 1:=if_pos hd
   rw [hθ]
   refine ⟨by omega,.inr ⟨j,s,rfl,.inr rfl,hs,hd⟩,?_,?_⟩
   ·intro k sk hk hSk hsk hdk
    have hkl:k < l.length:=(List.getElem?_eq_some_iff.1 hsk).1
    have hSk : Sd k := by rcases hSk with h | h; · exact h
                          ·omega
    obtain ⟨u1,u2⟩:=Inv.unord C I hs hnj hpre hkl (by omega) (.inl ⟨hSk,by omega⟩)
    obtain ⟨oj,hoj,_⟩:=C.tab.op j s hs
    obtain ⟨ok,hok,_⟩:=C.tab.op k sk hsk
    exact ((C.tab.two (by omega) (by omega) (by omega) u1 u2 hok hoj hsk hs).1 x hdk).2 hd
   ·rw [hT',p0m,if_pos ⟨hd,by rw [C.tlen (by omega)];exact hx⟩]
    have e1:(a.put s.dst v').tmps.getD x undef=v':=by
     rw [hd]
     simp only [Act.put]
     rw [a0M]
     simp only [Array.toList_setIfInBounds,List.getD_eq_getElem?_getD,List.getElem?_set]
     rw [if_pos (by simp)]
     have:x < a.tmps.size:=by have:=I.tlen;omega
     simp [this]
    rw [e1]
    exact hv.mono cutB (fun _ _ h=>h)
  ·have hθ:θ' x=θ x:=if_neg hd
   rw [hθ]
   obtain ⟨h1,h2,h3,h4⟩:=I.T x hx
   refine ⟨h1,?_,?_,?_⟩
   ·rcases h2 with h2 | ⟨k,sk,h5,h6,h7⟩
    ·exact .inl h2
    ·exact .inr ⟨k,sk,h5,.inl h6,h7⟩
   ·intro k sk hk hSk hsk
    rcases hSk with h | h
    ·exact h3 k sk hk h hsk
    ·subst h;rw [hs] at hsk;cases hsk;exact hd
   ·have e1:(a.put s.dst v').tmps.getD x undef=a.tmps.getD x undef:=by
     cases hsd:s.dst with
     | none=>rfl
     | some d =>
      have hdx:d ≠ x:=fun e=>hd (by rw [hsd,e])
      simp only [Act.put]
      rw [a0M,a0M]
      simp only [Array.toList_setIfInBounds,List.getD_eq_getElem?_getD,List.getElem?_set]
      rw [if_neg hdx]
    rw [e1]
    exact h4.mono (h0k (Nat.le_refl _) (fun b y _ h=>fA b y h)) hS.shp
 ·-- which blocks there are
  intro b y hb
  by_cases hc:(R.Hh j).size≤b∧b < (R.Hh (j + 1)).size
  ·exact .inr ⟨j,hj,.inr rfl,hc.1,hc.2⟩
  ·rcases I.D b y (fOut b y hb hc) with h | ⟨k,h1,h2,h3⟩
   ·exact .inl h
   ·exact .inr ⟨k,h1,.inl h2,h3⟩
 ·-- rows
  intro b B o1 hb
  by_cases hc:ch b
  ·rw [hκ1 b hc]
   have hlt:b < (R.Hh (j + 1)).size:=by rcases hc with h | h <;> omega
   refine ⟨by omega,hlt,.inr ⟨j,rfl,hj,.inr rfl,?_⟩,later b hc (by rw [hb];simp),?_⟩
   ·rcases hc with h | h
    ·exact .inl h.1
    ·exact .inr h.2
   ·intro ro e cs hrow
    have hG:=inRow b hlt (.inl hc) (by rw [hb];simp)
    rw [hκ1 b hc] at hG
    obtain ⟨c,el,fz,k1,k2,k3,k4⟩:=hS.rel.row b B o1 ro e cs (fC b _ hb hlt) (by rw [hG];exact hrow)
    exact ⟨c,el,fz,k1,k2,k3.mono cutB (fun _ _ h=>h),k4⟩
  ·rw [hκ2 b hc]
   have hnr:¬ ((R.Hh j).size≤b∧b < (R.Hh (j + 1)).size):=fun h=>hc (.inl h)
   have hb0:=fOut b _ hb hnr
   obtain ⟨h1,h2,h3,h4,h5⟩:=I.Rr b B o1 hb0
   refine ⟨h1,h2,?_,?_,?_⟩
   ·rcases h3 with h3 | ⟨k,h6,h7,h8,h9⟩
    ·exact .inl h3
    ·exact .inr ⟨k,h6,h7,.inl h8,h9⟩
   ·intro k hk hkl hSk
    rcases hSk with h | h
    ·exact h4 k hk hkl h
    ·subst h
     by_cases hbj:b < (R.Hh k).size
     ·exact Classical.byContradiction fun h=>hc (.inr ⟨hbj,h⟩)
     ·rw [dead_ge (by omega),dead_ge (by omega)]
   ·intro ro e cs hrow
    have hold:=h5 ro e cs hrow
    have hrange:b < (R.Hh j).size ∨ (R.Hh (j + 1)).size≤b:=by omega
    by_cases hg:b < (R.Hh j).size∧v0h R κ j b
    ·-- in the state that ran
     have hG:=inRow b (by omega) (.inr hg.2) (by rw [hb];simp)
     rw [hκ2 b hc] at hG
     obtain ⟨c,el,fz,k1,k2,k3,k4⟩:=hS.rel.row b B o1 ro e cs (fC b _ hb (by omega)) (by rw [hG];exact hrow)
     obtain ⟨c0,el0,fz0,q1,q2,q3,q4⟩:=hold
     have hcut:=CR.cut (m:=(R.Hh (κ b)).size) (fun b y h=>(b0t.1 h).1) q3 k3
     exact ⟨c,el,fz,k1,k2,hcut.mono (h0k (Nat.le_refl _) (fun b y _ h=>(fB b y h).2)) (fun _ _ h=>h),k4⟩
    ·have hout:(R.Hh (j + 1)).size≤b ∨ ¬ v0h R κ j b:=by
      by_cases h:(R.Hh (j + 1)).size≤b
      ·exact .inl h
      ·exact .inr fun hgd=>hg ⟨by omega,hgd⟩
     exact hold.mono (h0k (Nat.le_refl _) (fun b y _ h=>fA b y h)) hS.shp (stale b B o1 ro e cs hb0 hrow hout hrange)
 ·-- apart
  intro b b' B o1 o2 e cs hb hb' hne hrow
  let inS:Nat→Prop:=fun b=>b < (R.Hh (j + 1)).size∧(ch b ∨ v0h R κ j b)
  have outF:∀ b y,φ' b=some y→¬ inS b→¬ ch b∧φ b=some y∧(b < (R.Hh j).size ∨ (R.Hh (j + 1)).size≤b)∧((R.Hh (j + 1)).size≤b ∨ ¬ v0h R κ j b):=by
   intro b y hb hno
   have h1:¬ ch b:=fun hc=>hno ⟨by rcases hc with h | h <;> omega,.inl hc⟩
   have hnr:¬ ((R.Hh j).size≤b∧b < (R.Hh (j + 1)).size):=fun h=>h1 (.inl h)
   refine ⟨h1,fOut b y hb hnr,by omega,?_⟩
   by_cases h:(R.Hh (j + 1)).size≤b
   ·exact .inl h
   ·exact .inr fun hg=>hno ⟨by omega,.inr hg⟩
  have deadOr:∀ (x:Blk),(∀ ro e cs,x ≠ .row ro e cs)→x=.dead:=fun x h=>by cases x with | dead=>rfl | row ro e cs=>exact absurd rfl (h ro e cs)
  by_cases i1:inS b
  ·have hG:=inRow b i1.1 i1.2 (by rw [hb];simp)
   have hb1:=fC b _ hb i1.1
   by_cases i2:inS b'
   ·have hG':=inRow b' i2.1 i2.2 (by rw [hb'];simp)
    rw [← hG']
    exact hS.rel.sep b b' B o1 o2 e cs hb1 (fC b' _ hb' i2.1) hne (by rw [hG];exact hrow)
   ·obtain ⟨n1,n2,n3,n4⟩:=outF b' _ hb' i2
    rw [hκ2 b' n1]
    apply deadOr
    intro ro2 e2 cs2 hr2
    have hlt2:=((I.Rr b' B o2 n2).2.2.2.2 ro2 e2 cs2 hr2).lt
    -- who owned the block before
    have owner:∃ b0 o0 e0 cs0,cut φ (R.Hh j).size b0=some (B,o0)∧(l0k R φ κ j).blk b0=.row false e0 cs0:=by
     cases hc0:cut φ (R.Hh j).size b with
     | some z =>
      have:=hS.ext b z hc0
      rw [hb1] at this;cases this
      obtain ⟨cs0,h0⟩:=hS.kind b e cs (hmaskRel.lt b _ hc0) (by rw [hG];exact hrow)
      exact ⟨b,o1,e,cs0,hc0,h0⟩
     | none =>
      rcases hS.newB b B o1 hb1 hc0 with h | ⟨b0,o0,e0,cs0,h1,_,h2⟩
      ·omega
      ·exact ⟨b0,o0,e0,cs0,h1,h2⟩
    obtain ⟨b0,o0,e0,cs0,q1,q2⟩:=owner
    obtain ⟨q3,q4⟩:=b0t.1 q1
    obtain ⟨q5,q6⟩:=e0j q4 q2
    have hne0:b0 ≠ b':=by
     intro e;subst e
     rcases n4 with h | h
     ·omega
     ·exact h q5
    have:=I.P b0 b' B o0 o2 e0 cs0 q4 n2 hne0 (by rw [← q5.2];exact q6)
    rw [this] at hr2;cases hr2
  ·obtain ⟨n1,n2,n3,n4⟩:=outF b _ hb i1
   rw [hκ2 b n1] at hrow
   by_cases i2:inS b'
   ·have hG':=inRow b' i2.1 i2.2 (by rw [hb'];simp)
    have hb1':=fC b' _ hb' i2.1
    have hltb:=((I.Rr b B o1 n2).2.2.2.2 false e cs hrow).lt
    cases hc0:cut φ (R.Hh j).size b' with
    | none =>
     rcases hS.newB b' B o2 hb1' hc0 with h | ⟨b0,o0,e0,cs0,h1,_,h2⟩
     ·omega
     ·exfalso
      obtain ⟨q3,q4⟩:=b0t.1 h1
      obtain ⟨q5,q6⟩:=e0j q4 h2
      have hne0:b0 ≠ b:=by
       intro e;subst e
       rcases n4 with h | h
       ·omega
       ·exact h q5
      have:=I.P b0 b B o0 o1 e0 cs0 q4 n2 hne0 (by rw [← q5.2];exact q6)
      rw [this] at hrow;cases hrow
    | some z =>
     have hz:=hS.ext b' z hc0
     rw [hb1'] at hz;cases hz
     obtain ⟨q3,q4⟩:=b0t.1 hc0
     have hdead:=I.P b b' B o1 o2 e cs n2 q4 hne hrow
     by_cases hc:ch b'
     ·rw [hκ1 b' hc]
      rw [hκ1 b' hc] at hG'
      apply deadOr
      intro ro2 e2 cs2 hr2
      have hcd : (R.Hh (j + 1)).blk b' ≠ (R.Hh j).blk b' := by rcases hc with h | h; · omega
                                                               ·exact h.2
      cases ro2 with
      | false =>
       obtain ⟨cs0,h0⟩:=hS.kind b' e2 cs2 (by rw [d0Z];exact q3) (by rw [hG'];exact hr2)
       obtain ⟨q5,q6⟩:=e0j q4 h0
       rw [← q5.2,q6] at hdead;cases hdead
      | true =>
       have:=hks.kindR b' e2 cs2 q3 hr2
       exact hcd (by rw [hr2,this])
     ·rw [hκ2 b' hc];exact hdead
   ·obtain ⟨m1,m2,m3,m4⟩:=outF b' _ hb' i2
    rw [hκ2 b' m1]
    exact I.P b b' B o1 o2 e cs n2 m2 hne hrow
 ·-- what has been written leads to what is known
  intro k sk hsk hSk hk2 b hb
  rcases hSk with h | h
  ·have:=I.W k sk hsk h hk2 b hb
   cases hφb:φ b with
   | none=>exact absurd hφb this
   | some y=>rw [fA b y hφb];simp
  ·subst h
   have:=hW b hb
   cases hφb:φ b with
   | none=>exact absurd hφb this
   | some y=>rw [fA b y hφb];simp
 ·-- held against the beginning
  have g:=I.glob
  refine
   { ext := fun b x h => fA b x (g.ext b x h)
     shp:=fun B x h=>hS.shp B x (g.shp B x h)
     wsz:=Nat.le_trans g.wsz hS.wsz
     os:=hS.os.trans g.os
     tape:=hS.tape.trans g.tape
     out:=hS.out.trans g.out
     fresh:=fun b y hb hn=>by
      by_cases hc:(R.Hh j).size≤b∧b < (R.Hh (j + 1)).size
      ·exact Nat.le_trans (C.szmono (Nat.zero_le _) (by omega)) hc.1
      ·exact g.fresh b y (fOut b y hb hc) hn
     newB:=?_
     frame:=?_ }
  ·intro b B o1 hb hn
   have viaOld:∀ b0 o0 e0 cs0,φ b0=some (B,o0)→b0 < (R.Hh j).size→fl≤b0→(R.Hh j).blk b0=.row false e0 cs0→w0.heap.size≤B ∨ ∃ b0 o0 e cs,φ0 b0=some (B,o0)∧fl≤b0∧(R.Hh 0).blk b0=.row false e cs:=by
    intro b0 o0 e0 cs0 h1 h2 h3 h4
    cases h5:φ0 b0 with
    | none=>exact g.newB b0 B o0 h1 h5
    | some z =>
     have:=g.ext b0 z h5
     rw [h1] at this;cases this
     have hlt0:b0 < (R.Hh 0).size:=by
      by_cases h:b0 < (R.Hh 0).size
      ·exact h
      ·exfalso
       -- known from the beginning, so it was there
       have:=hφ0 b0 _ h5;omega
     obtain ⟨cs1,h6⟩:=(C.keep0 (by omega:j≤l.length)).2.kind b0 e0 cs0 hlt0 h4
     exact .inr ⟨b0,o0,e0,cs1,h5,h3,h6⟩
   by_cases hc:(R.Hh j).size≤b∧b < (R.Hh (j + 1)).size
   ·have hb1:=fC b _ hb hc.2
    have hcn:cut φ (R.Hh j).size b=none:=by unfold cut;rw [if_neg (by omega)]
    rcases hS.newB b B o1 hb1 hcn with h | ⟨b0,o0,e0,cs0,h1,h2,h3⟩
    ·exact .inl (Nat.le_trans g.wsz h)
    ·obtain ⟨q3,q4⟩:=b0t.1 h1
     obtain ⟨q5,q6⟩:=e0j q4 h3
     exact viaOld b0 o0 e0 cs0 q4 q3 h2 q6
   ·exact g.newB b B o1 (fOut b _ hb hc) hn
  ·intro B hB hno
   rw [hS.frame B (Nat.lt_of_lt_of_le hB g.wsz) ?_,g.frame B hB hno]
   intro b1 o2 e1 cs1 hb1 hfl1 hrow1
   obtain ⟨q3,q4⟩:=b0t.1 hb1
   obtain ⟨q5,q6⟩:=e0j q4 hrow1
   cases h5:φ0 b1 with
   | none =>
    rcases g.newB b1 B o2 q4 h5 with h | ⟨b0,o0,e0,cs0,h1,h2,h3⟩
    ·omega
    ·exact hno b0 o0 e0 cs0 h1 h2 h3
   | some z =>
    have:=g.ext b1 z h5
    rw [q4] at this;cases this
    have hlt0:b1 < (R.Hh 0).size:=hφ0 b1 _ h5
    obtain ⟨cs2,h6⟩:=(C.keep0 (by omega:j≤l.length)).2.kind b1 e1 cs1 hlt0 q6
    exact hno b1 o2 e1 cs2 h5 hfl1 h6
end
/- A region that draws its order: whatever order is drawn, it comes to what the text's order comes to. -/
section
open Go
variable {X:Cx} {call:Nat→FuncId→List Value→a0f→Res (Value × a0f)} {fl:Nat} {ops:Array Oper} {l:List a0G} {bef:List Nat} {pairs:List (Nat × Nat)} {R:Run} (C:Ctx X call fl ops l bef pairs R)
variable {φ0 φ:Inj} {w0 w w':World} {Sd:Nat→Prop} {κ θ:Nat→Nat} {a:Act} (I:Inv X fl ops l bef R φ0 w0 Sd φ κ θ a w)
include C I
theorem Inv.final (hall:∀ k,k < l.length→Sd k) (hφ0:∀ b y,φ0 b=some y→b < (R.Hh 0).size) :
  CR X φ w.shape? (R.T l.length) a.tmps.toList∧d0c X fl φ0 (R.Hh 0) w0 φ (R.Hh l.length) w∧R.Pn l.length=none:=by
 have hrows:∀ b y,φ b=some y→(R.Hh l.length).blk b=(R.Hh (κ b)).blk b:=by
  intro b y hb
  obtain ⟨B,o1⟩:=y
  obtain ⟨h1,h2,h3,h4,h5⟩:=I.Rr b B o1 hb
  have:∀ m,κ b≤m→m≤l.length→(R.Hh m).blk b=(R.Hh (κ b)).blk b:=by
   intro m hm
   induction m with
   | zero=>intro _;congr 2;omega
   | succ m ih =>
    intro hml
    by_cases hc:κ b=m + 1
    ·rw [hc]
    ·rw [← ih (by omega) (by omega)]
     exact h4 m (by omega) (by omega) (hall m (by omega))
  exact this _ h1 (Nat.le_refl _)
 have hdom:∀ b y,φ b=some y→b < (R.Hh l.length).size:=by
  intro b y hb
  obtain ⟨B,o1⟩:=y
  obtain ⟨h1,h2,_⟩:=I.Rr b B o1 hb
  exact Nat.lt_of_lt_of_le h2 (C.szmono h1 (Nat.le_refl _))
 have g:=I.glob
 refine ⟨⟨?_,?_⟩,?_,?_⟩
 ·rw [C.tlen (Nat.le_refl _)];simp [I.tlen]
 ·intro x hx
  rw [C.tlen (Nat.le_refl _)] at hx
  obtain ⟨h1,h2,h3,h4⟩:=I.T x hx
  have:∀ m,θ x≤m→m≤l.length→get (R.T m) x=get (R.T (θ x)) x:=by
   intro m hm
   induction m with
   | zero=>intro _;congr 2;omega
   | succ m ih =>
    intro hml
    by_cases hc:θ x=m + 1
    ·rw [hc]
    ·rw [← ih (by omega) (by omega)]
     apply Classical.byContradiction
     intro hne
     obtain ⟨sm,hsm⟩:=C.sAt (by omega:m < l.length)
     exact h3 m sm (by omega) (hall m (by omega)) hsm (C.slot hsm hne).2
  have e1:=this _ h1 (Nat.le_refl _)
  simp only [get] at e1 h4
  rw [e1,← a0M a.tmps]
  exact h4.mono (fun b y h=>(b0t.1 h).2) (fun _ _ h=>h)
 ·have hk:=(C.keep0 (Nat.le_refl _)).2
  refine
   { ext := g.ext
     rel:=?_
     shp:=g.shp
     wsz:=g.wsz
     os:=g.os
     tape:=g.tape
     out:=g.out
     hsz:=hk.size
     keep:=fun b hb=>hk.low b hb
     kind:=fun b e cs hb h=>hk.kind b e cs hb h
     fresh:=g.fresh
     newB:=g.newB
     frame:=g.frame }
  refine { bs:=I.base,lt:=fun b x h=>hdom b x h,row:=?_,sep:=?_ }
  ·intro b B o1 ro e cs hb hrow
   obtain ⟨c,el,fz,k1,k2,k3,k4⟩:=(I.Rr b B o1 hb).2.2.2.2 ro e cs (by rw [← hrows b _ hb];exact hrow)
   exact ⟨c,el,fz,k1,k2,k3.mono (fun b y h=>(b0t.1 h).2) (fun _ _ h=>h),k4⟩
  ·intro b b' B o1 o2 e cs hb hb' hne hrow
   rw [hrows b' _ hb']
   exact I.P b b' B o1 o2 e cs hb hb' hne (by rw [← hrows b _ hb];exact hrow)
 ·cases hp:R.Pn l.length with
  | none=>rfl
  | some pv =>
   obtain ⟨p,v⟩:=pv
   obtain ⟨h1,h2⟩:=C.pan (Nat.le_refl _) p v hp
   have:=I.done p h1 (hall p h1)
   omega
theorem Inv.panned {j:Nat} {s:a0G} (hs:l[j]? = some s) (hnj:¬ Sd j) (hpre:∀ i,b0i bef i j=true→Sd i) (hφ0:∀ b y,φ0 b=some y→b < (R.Hh 0).size)
  (hp:Pan X fl (cut φ (R.Hh j).size) (l0k R φ κ j) w w'):Pan X fl φ0 (R.Hh 0) w0 w':=by
 have hj:j < l.length:=(List.getElem?_eq_some_iff.1 hs).1
 have g:=I.glob
 refine { shp:=fun B x h=>hp.shp B x (g.shp B x h),wsz:=Nat.le_trans g.wsz hp.wsz,os:=hp.os.trans g.os,tape:=hp.tape.trans g.tape,out:=hp.out.trans g.out,frame:=?_ }
 intro B hB hno
 rw [hp.frame B (Nat.lt_of_lt_of_le hB g.wsz) ?_,g.frame B hB hno]
 intro b1 o2 e1 cs1 hb1 hfl1 hrow1
 obtain ⟨q3,q4⟩:=b0t.1 hb1
 obtain ⟨q5,q6⟩:=e0j q4 hrow1
 cases h5:φ0 b1 with
 | none =>
  rcases g.newB b1 B o2 q4 h5 with h | ⟨b0,o0,e0,cs0,h1,h2,h3⟩
  ·omega
  ·exact hno b0 o0 e0 cs0 h1 h2 h3
 | some z =>
  have:=g.ext b1 z h5
  rw [q4] at this;cases this
  have hlt0:b1 < (R.Hh 0).size:=hφ0 b1 _ h5
  obtain ⟨cs2,h6⟩:=(C.keep0 (by omega:j≤l.length)).2.kind b1 e1 cs1 hlt0 q6
  exact hno b1 o2 e1 cs2 h5 hfl1 h6
def n0w (us:List Nat) (n:Nat) (f:Nat→Value):List Value:=(List.range n).map fun x=>if x ∈ us then f x else undef
omit C I in
theorem n0x (us:List Nat) (n:Nat) (f:Nat→Value) (x:Nat):(n0w us n f).getD x undef=if x < n∧x ∈ us then f x else undef:=by
 unfold n0w
 simp only [List.getD_eq_getElem?_getD,List.getElem?_map]
 by_cases hx:x < n
 ·rw [List.getElem?_range hx]
  simp [hx]
 ·rw [List.getElem?_eq_none (by simp;omega)]
  simp [hx]
theorem Inv.one (hφ0:∀ b y,φ0 b=some y→b < (R.Hh 0).size) {j:Nat} {s:a0G} {o:Oper} (hs:l[j]? = some s) (ho:ops[j]? = some o) (hco:∃ ln,f0E X.P ops ln o=some s) (hnj:¬ Sd j)
  (hpre:∀ i,b0i bef i j=true→Sd i) {K:Act→World→Prop} {Q:Exit→Act→World→Prop}
  (hK:∀ φ' κ' θ' a' w',Inv X fl ops l bef R φ0 w0 (fun k=>Sd k ∨ k=j) φ' κ' θ' a' w'→K a' w')
  (hQ:R.st j=3→∀ ty u w',Pan X fl φ0 (R.Hh 0) w0 w'→Q (.panic [{ v:=.iface ty u,recovered:=false }]) a w'):wpOp X.P ops Q j K a w:=by
 have hj:j < l.length:=(List.getElem?_eq_some_iff.1 hs).1
 obtain ⟨ln,hco⟩:=hco
 obtain ⟨hcop,hflat,hdst⟩:=d0J hco
 have hslot:=fun {x:Nat}=>Inv.slot C I hs ho hnj hpre (x:=x)
 have hrel:=Inv.rel C I hs hnj hpre
 have hTlen:=C.tlen (show j≤l.length by omega)
 -- the guard
 have hwant:Region.wanted o (yielded ops a.tmps)=a0X (R.T j) s.g:=by
  refine k0y (φ:=cut φ (R.Hh j).size) (S:=w.shape?) (X:=X) hco ?_
  intro d want hg
  by_cases hd:d < (R.T 0).length
  ·exact hslot hd (by simp [g0x,hg])
  ·have e1:get (R.T j) d=undef:=by
    unfold get;rw [List.getD_eq_getElem?_getD,List.getElem?_eq_none (by omega)];rfl
   have e2:a.tmps.getD d undef=undef:=by
    have:=I.tlen
    rw [Array.getD_eq_getD_getElem?,Array.getElem?_eq_none (by omega)];rfl
   rw [e1,e2];exact VR.undef
 unfold wpOp
 simp only [ho]
 rw [hwant]
 -- the frame with the slots that matter alone
 have hmaskT:CR X (cut φ (R.Hh j).size) w.shape? (n0w (g0x o s) (R.T 0).length (fun x=>get (R.T j) x)) (n0w (g0x o s) (R.T 0).length (fun x=>a.tmps.getD x undef)):=by
  unfold n0w
  refine CR.of_mem_map _ _ _ ?_
  intro x hx
  have hx:=List.mem_range.1 hx
  split
  ·rename_i hu;exact hslot hx hu
  ·exact VR.undef
 let tj:a0W:=n0w (g0x o s) (R.T 0).length (fun x=>get (R.T j) x)
 let aj:Act:={ tmps:=(n0w (g0x o s) (R.T 0).length (fun x=>a.tmps.getD x undef)).toArray,defers:=a.defers }
 have hmaskT':CR X (cut φ (R.Hh j).size) w.shape? tj aj.tmps.toList:=by simpa [aj] using hmaskT
 have hev:∀ x ∈ a0t s.op,ev tj x=ev (R.T j) x:=by
  intro x hx
  cases x with
  | tmp d =>
   simp only [ev,get,tj,n0x]
   have hu:d ∈ g0x o s:=by
    unfold g0x
    simp only [List.mem_append,List.mem_filterMap]
    exact .inl (.inl ⟨.tmp d,hx,rfl⟩)
   by_cases hd:d < (R.T 0).length
   ·rw [if_pos ⟨hd,hu⟩]
   ·rw [if_neg (fun h=>hd h.1),List.getD_eq_getElem?_getD,List.getElem?_eq_none (by omega)];rfl
  | const v=>rfl
  | fn f=>rfl
 have hexec:execOp a.eval o=execOp aj.eval o:=by
  refine execOp_congr o (fun cs b=>C.tab.nosel j o cs b ho) ?_
  intro x hx
  cases x with
  | tmp d =>
   have hu:d ∈ g0x o s:=by
    unfold g0x
    simp only [List.mem_append,List.mem_filterMap]
    exact .inr ⟨.tmp d,by simpa using hx,rfl⟩
   simp only [Act.eval,aj]
   rw [a0M (n0w _ _ _).toArray]
   simp only [List.toList_toArray,n0x]
   by_cases hd:d < (R.T 0).length
   ·rw [if_pos ⟨hd,hu⟩]
   ·have hle:a.tmps.size≤d:=by rw [I.tlen];exact Nat.le_of_not_lt hd
    rw [if_neg (fun h=>hd h.1),Array.getD_eq_getD_getElem?,Array.getElem?_eq_none hle];rfl
  | const v=>rfl
  | func f=>rfl
  | global g=>rfl
 have hlowm:fl≤(l0k R φ κ j).size:=by rw [d0Z];exact (C.keep0 (by omega:j≤l.length)).1
 -- what the operation comes to, in the masked state
 have hcallMask:way s.op=3→l0k R φ κ j=R.Hh j:=by
  intro hw
  apply Array.ext
  ·exact d0Z _ _ _ _
  ·intro i h1 h2
   have hb:(l0k R φ κ j).blk i=(R.Hh j).blk i:=by
    rw [h0s]
    split
    ·rename_i hc
     exfalso
     cases hφi:φ i with
     | none=>exact hc.1 hφi
     | some y=>exact hc.2 (Inv.good C I hs hnj hpre hφi h2 (by omega) (.inl hw))
    ·rfl
   simpa [a0f.blk,Array.getD_eq_getD_getElem?,Array.getElem?_eq_getElem h1,Array.getElem?_eq_getElem h2] using hb
 rcases C.run j s hs with h | h | h | h
 ·-- it f0V on what has panicked: it is never come to
  exfalso
  have hh:=h.2.1
  cases hp:R.Pn j with
  | none=>rw [hp] at hh;cases hh
  | some pv =>
   obtain ⟨p,v⟩:=pv
   rw [hp] at hh
   have hS:=hpre p hh
   obtain ⟨h1,h2⟩:=C.pan (by omega:j≤l.length) p v hp
   have:=I.done p (by omega) hS
   omega
 ·-- not wanted
  rw [h.2.2.1]
  simp only [Bool.false_eq_true,if_false]
  have:=Inv.after C I hs hnj hpre (v':=undef) (.inl h.1) (by rw [h.2.2.2.1];exact h.2.2.2.2.1) (by rw [h.2.2.2.2.2.1];exact Par.refl (d0Z _ _ _ _)) (by rw [h.2.2.2.1];exact VR.undef) (d0c.refl hrel)
   (by intro b hb;rw [h.2.2.2.2.2.2.2] at hb;simp at hb) hφ0
  obtain ⟨φ',κ',θ',hI⟩:=this
  rw [← hdst]
  exact hK φ' κ' θ' _ _ hI
 ·rw [h.2.2.1]
  simp only [if_true]
  refine .inl ?_
  have htc:∀ b,b ∈ (R.tc j).1 ∨ b ∈ (R.tc j).2→way s.op ≠ 0:=by
   intro b hb
   rw [h.2.2.2.2.2.2] at hb
   rcases hb with hb | hb
   ·rcases v0d hb with h | h <;> omega
   ·have:=l0v hb;omega
  have hstep:∃ G1,b0w call fl tj (l0k R φ κ j) s.op=.ok (R.val j,G1)∧Par (R.Hh j) (R.Hh (j + 1)) (l0k R φ κ j) G1:=by
   rcases h0a h.2.2.2.1 with hv | ⟨f,args,lone,hc,hcl⟩
   ·obtain ⟨G1,g1,g2⟩:=w0L hv (d0Z R φ κ j) (fun b hb=>by
     rw [h0s]
     split
     ·rename_i hcnd
      rw [← h.2.2.2.2.2.2] at hb
      by_cases hlt:b < (R.Hh j).size
      ·exfalso
       cases hφb:φ b with
       | none=>exact hcnd.1 hφb
       | some y=>exact hcnd.2 (Inv.good C I hs hnj hpre hφb hlt (htc b hb) (.inr hb))
      ·exact (g0B (by omega)).symm
     ·rfl)
    refine ⟨G1,?_,g2⟩
    unfold b0w
    rw [h0x hev,g1]
   ·have hm:=hcallMask (e0L hc).1
    refine ⟨R.Hh (j + 1),?_,?_⟩
    ·unfold b0w
     rw [h0x hev,g0H hc fl (l0k R φ κ j),hm]
     exact hcl
    ·rw [hm];exact ⟨rfl,fun _ _ e=>e,fun _ _ _=>rfl,fun _ _=>rfl⟩
  obtain ⟨G1,hst1,hpar⟩:=hstep
  refine j0n (o:=o) C.callOk hcop hflat hrel hmaskT' hlowm hst1 a hexec (fun φ1 v' w' hv hS=>?_)
  have hW:∀ b,b ∈ (R.tc j).2→φ b ≠ none:=by
   intro b hb
   rw [h.2.2.2.2.2.2,← q0R hev] at hb
   -- its operand leads there
   have key:∀ x ∈ a0t s.op,(b ∈ blkW (ev tj x) ∨ ∃ p,ev tj x=.pointer (some p)∧b=p.block)→φ b ≠ none:=by
    intro x hx hbx
    have hvx:∃ u,VR X (cut φ (R.Hh j).size) w.shape? (ev tj x) u:=by
     cases x with
     | tmp d=>exact ⟨_,by simpa [ev,get] using hmaskT'.get d⟩
     | const v =>
      have:=List.all_eq_true.1 hflat _ hx
      exact ⟨v,j0O this⟩
     | fn f=>exact ⟨_,.func _ _ _ _ _ rfl (fun i hi=>by simp at hi) rfl (fun i hi=>by simp at hi)⟩
    obtain ⟨u,hvx⟩:=hvx
    generalize ev tj x=vv at hvx hbx
    cases hvx <;> simp [blkW] at hbx
    ·rename_i B o1 g1 g2 g3;subst hbx;rw [(b0t.1 g2).2];simp
    ·rename_i B o1 g1 g2 _ _ _ _ _ _;obtain ⟨_,hbx⟩:=hbx;subst hbx;rw [(b0t.1 g2).2];simp
   cases hop:s.op <;> rw [hop] at hb <;> simp only [c0Q] at hb
   case store n x y =>
    have hop2:=hop
    have hbp:∃ p,ev tj x=.pointer (some p):=by
     have h3:=h.2.2.2.1
     have hx:ev tj x=ev (R.T j) x:=hev x (by rw [hop];simp [a0t])
     rw [hx]
     rw [hop] at h3
     simp only [b0w,opA] at h3
     cases hq:ev (R.T j) x <;> simp [hq] at h3
     rename_i p;cases p <;> simp at h3
     exact ⟨_,rfl⟩
    obtain ⟨p,hp⟩:=hbp
    rw [hp] at hb
    simp only [blkOf,List.mem_singleton] at hb
    exact key x (by rw [hop];simp [a0t]) (.inr ⟨p,hp,hb⟩)
   case app e n bb x y=>exact key x (by rw [hop];simp [a0t]) (.inl hb)
   all_goals (simp at hb)
  obtain ⟨φ',κ',θ',hI⟩:=Inv.after C I hs hnj hpre (.inr h.1) h.2.2.2.2.1 hpar hv hS hW hφ0
  rw [← hdst]
  exact hK φ' κ' θ' _ _ hI
 ·-- it panics
  rw [h.2.2.1]
  simp only [if_true]
  refine .inl ?_
  have hstep:b0w call fl tj (l0k R φ κ j) s.op=.pan (R.val j):=by
   have hp:=h.2.2.2.1
   unfold b0w at hp ⊢
   split at hp
   ·cases hp
   ·rename_i v1 hv
    simp only [Res.pan.injEq] at hp;subst hp
    obtain ⟨_,x,hx1,hx2⟩:=f0r hv
    have:opA fl tj (l0k R φ κ j) s.op=.pan (R.val j):=by
     rw [h0x hev,hx1]
     rw [hx1] at hv
     simpa [opA] using hv
    rw [this]
   ·cases hp
   ·rename_i f args lone hc
    have hm:=hcallMask (e0L hc).1
    rw [h0x hev,g0H hc fl (l0k R φ κ j),hm]
    exact hp
  refine o0E (o:=o) C.callOk hcop hflat hrel hmaskT' hlowm hstep a hexec (fun ty u w' hp=>hQ h.1 ty u w' (Inv.panned C I hs hnj hpre hφ0 hp))
end
/- A region that draws its order: the theorem. -/
section
open Go
variable {X:Cx} {call:Nat→FuncId→List Value→a0f→Res (Value × a0f)}
def left (listed:Array Bool) (n:Nat):Nat:=((List.range n).filter fun k=>!listed.getD k false).length
theorem w0x {listed:Array Bool} {n:Nat} (h:left listed n=0):∀ k,k < n→listed.getD k false=true:=by
 intro k hk
 unfold left at h
 have:=List.length_eq_zero_iff.1 h
 rw [List.filter_eq_nil_iff] at this
 have:=this k (List.mem_range.2 hk)
 simpa using this
theorem G0j {listed:Array Bool} {n j:Nat} (hj:j < n) (hsz:listed.size=n) (hn:listed.getD j false=false):left listed n=left (listed.setIfInBounds j true) n + 1:=by
 unfold left
 have key:∀ m,m≤n→((List.range m).filter fun k=>!listed.getD k false).length=((List.range m).filter fun k=>!(listed.setIfInBounds j true).getD k false).length + if j < m then 1 else 0:=by
  intro m
  induction m with
  | zero=>intro _;simp
  | succ m ih =>
   intro hm
   have ih:=ih (by omega)
   rw [List.range_succ,List.filter_append,List.filter_append,List.length_append,List.length_append,ih]
   by_cases hjm:j=m
   ·subst hjm
    have e1:(listed.setIfInBounds j true).getD j false=true:=by
     simp only [Array.getD_eq_getD_getElem?,Array.getElem?_setIfInBounds]
     simp [show j < listed.size by omega]
    simp only [List.filter_cons,List.filter_nil,hn,e1]
    simp
   ·have e1:(listed.setIfInBounds j true).getD m false=listed.getD m false:=getD_set_ne false hjm
    simp only [List.filter_cons,List.filter_nil,e1]
    have:(j < m + 1) ↔ (j < m):=by omega
    simp only [this]
    omega
 have:=key n (Nat.le_refl _)
 rw [if_pos hj] at this
 exact this
theorem I0L {listed:Array Bool} {n j:Nat} (hj:j < n) (hsz:listed.size=n) (k:Nat):(listed.setIfInBounds j true).getD k false=true ↔ listed.getD k false=true ∨ k=j:=by
 by_cases hk:k=j
 ·subst hk
  simp only [Array.getD_eq_getD_getElem?,Array.getElem?_setIfInBounds]
  simp [show k < listed.size by omega]
 ·rw [getD_set_ne false (fun e=>hk e.symm)]
  simp [hk]
theorem v0P (hcall:d0C X call) (hkeep:g0l call) (hmix:X.P.follows .mixedOrders=true):n0o X call:=by
 intro ops l bef pairs hc D fl t H φ w a hR hT hfl hd hne id
 have tab:=I0R hc
 obtain ⟨R0,s1,s2,s3,s4,s5,s6⟩:=M0A l 0 t H none [] hne
 obtain ⟨R,rD,r1,r2,r3,r4,r5,r6⟩:∃ R:Run,R.ds=D∧R.T 0=t∧R.Hh 0=H∧R.Pn 0=none∧(∀ m s,l[m]? = some s→h0h call fl bef R (0 + m) s)∧c0E (([]:List (List Nat × List Nat)).reverse ++ (List.range' 0 l.length).map R.tc) pairs=true ∧
   b0P call fl bef pairs 0 l t H none []=match R.Pn (0 + l.length) with | none=>.fin .normal (R.T (0 + l.length)) (R.Hh (0 + l.length)) | some (_,v)=>.pan v :=
  ⟨{ R0 with ds:=D },rfl,s1,s2,s3,s4,s5,s6⟩
 simp only [Nat.zero_add] at r4 r6
 have C:Ctx X call fl ops l bef pairs R:=⟨hcall,hkeep,tab,r4,by simpa using r5,r3,by rw [r2];exact hfl⟩
 have hφ0:∀ b y,φ b=some y→b < (R.Hh 0).size:=fun b y h=>by rw [r2];exact hR.lt b y h
 have hlen:=tab.len
 rw [r6]
 -- what a panic makes of the end
 have hend:∀ j,j < l.length→R.st j=3→∃ v,R.Pn l.length=some (j,v):=by
  intro j hj h3
  obtain ⟨s,hs⟩:=C.sAt hj
  have hpn:R.Pn (j + 1)=some (j,R.val j):=by
   rcases C.run j s hs with h | h | h | h
   ·have:=h.1;omega
   ·have:=h.1;omega
   ·have:=h.1;omega
   ·exact h.2.2.2.2.2.1
  have:∀ m,j + 1≤m→m≤l.length→R.Pn m=some (j,R.val j):=by
   intro m hm
   induction m with
   | zero=>omega
   | succ m ih =>
    intro hml
    by_cases hjm:j=m
    ·subst hjm;exact hpn
    ·have ih:=ih (by omega) (by omega)
     obtain ⟨sm,hsm⟩:=C.sAt (by omega:m < l.length)
     rcases C.run m sm hsm with h | h | h | h
     ·rw [h.2.2.2.2.1];exact ih
     ·rw [h.2.2.2.2.2.2.1];exact ih
     ·rw [h.2.2.2.2.2.1];exact ih
     ·rw [ih] at h;have:=h.2.2.2.2.1;cases this
  exact ⟨_,this _ (by omega) (Nat.le_refl _)⟩
 refine wp_region_any hmix ?_
 -- from whatever has run
 have key:∀ (fuel:Nat) (listed:Array Bool) (φ1:Inj) (κ θ:Nat→Nat) (a1:Act) (w1:World),listed.size=ops.size→left listed ops.size=fuel →
   Inv X fl ops l bef R φ w.drew (fun k=>listed.getD k false=true) φ1 κ θ a1 w1 →
   wpAny X.P .any ops (F0B X D fl φ H w (match R.Pn l.length with | none=>.fin .normal (R.T l.length) (R.Hh l.length) | some (_,v)=>.pan v)) fuel listed a1 w1:=by
  intro fuel
  induction fuel with
  | zero =>
   intro listed φ1 κ θ a1 w1 hsz hleft I
   have hall:=w0x hleft
   obtain ⟨f1,f2,f3⟩:=Inv.final C I (fun k hk=>hall k (by omega)) hφ0
   refine ⟨?_,?_⟩
   ·unfold Region.ready
    rw [List.filter_eq_nil_iff]
    intro k hk
    have hk:=List.mem_range.1 hk
    have:=hall k hk
    have e:listed.getD k true=true:=by
     simp only [Array.getD_eq_getD_getElem?] at this ⊢
     rw [Array.getElem?_eq_getElem (by omega)] at this ⊢
     simpa using this
    simp [e]
   ·rw [f3]
    refine ⟨rfl,I.defers.trans rD,φ1,f1,?_⟩
    rw [r2] at f2
    exact { f2 with }
  | succ fuel ih =>
   intro listed φ1 κ θ a1 w1 hsz hleft I
   refine ⟨fun hnil=>?_,fun j hj=>?_⟩
   ·-- something is still to run,and the first of it is ready
    exfalso
    have hex:∃ k,k < ops.size∧listed.getD k false=false:=by
     apply Classical.byContradiction
     intro hno
     have:left listed ops.size=0:=by
      unfold left
      rw [List.length_eq_zero_iff,List.filter_eq_nil_iff]
      intro k hk
      have hk:=List.mem_range.1 hk
      intro hh
      exact hno ⟨k,hk,by simpa using hh⟩
     omega
    obtain ⟨k,hk,hmin⟩:∃ k,(k < ops.size∧listed.getD k false=false)∧∀ m,m < k→listed.getD m false=true:=by
     obtain ⟨k0,h1,h2⟩:=hex
     induction k0 using Nat.strongRecOn with
     | _ k0 ih2 =>
      by_cases hm:∃ m,m < k0∧listed.getD m false=false
      ·obtain ⟨m,h3,h4⟩:=hm
       exact ih2 m h3 (by omega) h4
      ·refine ⟨k0,⟨h1,h2⟩,fun m hm2=>?_⟩
       cases hl:listed.getD m false with
       | true=>rfl
       | false=>exact absurd ⟨m,hm2,hl⟩ hm
    have hmem:k ∈ Region.ready .any ops listed:=by
     unfold Region.ready
     rw [List.mem_filter]
     refine ⟨List.mem_range.2 hk.1,?_⟩
     have hok:ops[k]? = some ops[k]:=Array.getElem?_eq_getElem hk.1
     have e:listed.getD k true=false:=by
      have:=hk.2
      simp only [Array.getD_eq_getD_getElem?] at this ⊢
      rw [Array.getElem?_eq_getElem (by omega)] at this ⊢
      simpa using this
     simp only [e,Bool.not_false,Bool.true_and,hok,Option.map_some,Option.getD_some]
     rw [Array.all_eq_true']
     intro ed hed
     by_cases hb:Region.binds .any ed=true
     ·have:=tab.back k _ hok ed (by simpa using hed) hb
      simp [hmin _ this]
     ·simp [hb]
    rw [hnil] at hmem
    cases hmem
   ·obtain ⟨hjo,hjl,hpre⟩:=tab.ready hj (fun k hk hS i hi=>I.down k (by omega) hS i hi)
    have hnj:listed.getD j false=false:=by
     simp only [Array.getD_eq_getD_getElem?] at hjl ⊢
     rw [Array.getElem?_eq_getElem (by omega)] at hjl ⊢
     simpa using hjl
    obtain ⟨s,hs⟩:=C.sAt (by omega:j < l.length)
    obtain ⟨o,ho,hco⟩:=tab.op j s hs
    refine Inv.one C I hφ0 hs ho ⟨_,hco⟩ (by rw [hnj];simp) hpre (fun φ' κ' θ' a' w' hI=>?_) (fun h3 ty u w' hp=>?_)
    ·refine ih _ φ' κ' θ' a' w' (by simp [hsz]) (by have:=G0j hjo hsz hnj;omega) ?_
     have e:(fun k=>(listed.setIfInBounds j true).getD k false=true)=(fun k=>listed.getD k false=true ∨ k=j):=by
      funext k;exact propext (I0L hjo hsz k)
     rw [e];exact hI
    ·obtain ⟨v,hv⟩:=hend j (by omega) h3
     rw [hv]
     refine ⟨⟨ty,u,rfl⟩,I.defers.trans rD,?_⟩
     rw [r2] at hp
     exact { hp with }
 refine key ops.size _ φ (fun _=>0) (fun _=>0) a w.drew (by simp) ?_ ?_
 ·unfold left
  have:(List.range ops.size).filter (fun k=>!(Array.replicate ops.size false).getD k false)=List.range ops.size:=by
   rw [List.filter_eq_self]
   intro k hk
   have hk:=List.mem_range.1 hk
   simp [Array.getD_eq_getD_getElem?,hk]
  rw [this];simp
 ·have hnone:∀ k,¬ ((Array.replicate ops.size false).getD k false=true):=by
   intro k
   simp only [Array.getD_eq_getD_getElem?,Array.getElem?_replicate]
   split <;> simp
  have hcutφ:∀ b y,φ b=some y→cut φ (R.Hh 0).size b=some y:=fun b y h=>b0t.2 ⟨hφ0 b y h,h⟩
  refine
   { done := fun k _ h => absurd h (hnone k)
     down:=fun j _ h=>absurd h (hnone j)
     tlen:=?_
     defers:=hd.trans rD.symm
     base:=hR.bs
     T:=?_
     D:=fun b y h=>.inl (hφ0 b y h)
     Rr:=?_
     P:=?_
     W:=fun k s _ h=>absurd h (hnone k)
     glob:=⟨fun _ _ h=>h,fun _ _ h=>h,Nat.le_refl _,rfl,rfl,rfl,(fun b y h h'=>by rw [h] at h';cases h'),(fun b B o h h'=>by rw [h] at h';cases h'),fun _ _ _=>rfl⟩ }
  ·rw [r1];have:=hT.1;simp at this;omega
  ·intro x hx
   refine ⟨Nat.zero_le _,.inl rfl,fun k s _ h=>absurd h (hnone k),?_⟩
   have:=hT.get x
   rw [r1,a0M]
   exact this.mono hcutφ (fun _ _ h=>h)
  ·intro b B o1 hb
   refine ⟨Nat.zero_le _,hφ0 b _ hb,.inl rfl,fun k _ _ h=>absurd h (hnone k),?_⟩
   intro ro e cs hrow
   rw [r2] at hrow
   obtain ⟨c,el,fz,k1,k2,k3,k4⟩:=hR.row b B o1 ro e cs hb hrow
   exact ⟨c,el,fz,k1,k2,k3.mono hcutφ (fun _ _ h=>h),k4⟩
  ·intro b b' B o1 o2 e cs hb hb' hne2 hrow
   rw [r2] at hrow ⊢
   exact hR.sep b b' B o1 o2 e cs hb hb' hne2 hrow
end
/- What a run from nothing proves of a function without arguments: it answers so in every world, and leaves all else alone. -/
section
open Go
end
/- Rows that are taken over into the relation; memory that has grown. -/
section
open Go
variable {X:Cx} {φ φ':Inj} {H H':a0f} {w w':World} {fl:Nat} {t:a0W} {a:Act}
theorem Rel.row_lt (hR:Rel X φ H w) {b B o:Nat} {ro:Bool} {e:TypeId} {cs:List Value} (h:φ b=some (B,o)) (hk:H.blk b=.row ro e cs):B < w.heap.size:=by
 obtain ⟨c,el,fz,h1,_⟩:=hR.row b B o ro e cs h hk
 exact (Array.getElem?_eq_some_iff.1 h1).1
theorem Rel.agree (hR:Rel X φ H w) (hb:X.base≤w'.heap.size) (hshp:∀ B x,w.shape? B=some x→w'.shape? B=some x)
  (hold:∀ b B o ro e cs,φ b=some (B,o)→H.blk b=.row ro e cs→w'.heap[B]? = w.heap[B]?):Rel X φ H w' :=
 ⟨hb,hR.lt,fun b B o ro e cs h1 h2=>by
  obtain ⟨c,el,fz,h3,h4,h5,h6⟩:=hR.row b B o ro e cs h1 h2
  exact ⟨c,el,fz,by rw [hold b B o ro e cs h1 h2];exact h3,h4,h5.mono (fun _ _ h=>h) hshp,h6⟩,hR.sep⟩
def ad (φ:Inj) (n B o:Nat):Inj:=fun b=>if b=n then some (B,o) else φ b
theorem Q0g {n B o:Nat}:ad φ n B o n=some (B,o):=by unfold ad;rw [if_pos rfl]
theorem r0d (hR:Rel X φ H w) {B o b:Nat} {x:Nat × Nat} (h:φ b=some x):ad φ H.size B o b=some x:=by
 unfold ad;rw [if_neg (by have:=hR.lt b x h;omega)];exact h
theorem f0L (hR:Rel X φ H w) {B o b:Nat} {x:Nat × Nat} (h:ad φ H.size B o b=some x):(b=H.size∧x=(B,o)) ∨ (b < H.size∧φ b=some x):=by
 unfold ad at h
 split at h
 ·rename_i hb;exact .inl ⟨hb,by simpa using h.symm⟩
 ·exact .inr ⟨hR.lt b x h,h⟩
theorem Rel.adopt (hR:Rel X φ H w) {B o:Nat} {e:TypeId} {cs:List Value} {c:Array Value} (hB:w.heap[B]? = some (.cells c e (0,0))) (hle:o + cs.length≤c.size)
  (hc:CR X φ w.shape? cs ((c.toList.drop o).take cs.length)) (hbase:X.base≤B) (hno:∀ b o ro e' cs',φ b=some (B,o)→H.blk b ≠ .row ro e' cs'):Rel X (ad φ H.size B o) (H.push (.row false e cs)) w:=by
 have hext:∀ b x,φ b=some x→ad φ H.size B o b=some x:=fun b x h=>r0d hR h
 have hdead:∀ b o,φ b=some (B,o)→H.blk b=.dead:=by
  intro b o h
  cases hk:H.blk b with
  | dead=>rfl
  | row ro e' cs'=>exact absurd hk (hno b o ro e' cs' h)
 refine ⟨hR.bs,?_,?_,?_⟩
 ·intro b x h
  rw [Array.size_push]
  rcases f0L hR h with ⟨h1,_⟩ | ⟨h1,_⟩ <;> omega
 ·intro b B1 o1 ro e1 cs1 h1 h2
  rw [a0B] at h2
  rcases f0L hR h1 with ⟨rfl,h3⟩ | ⟨h3,h4⟩
  ·rw [if_pos rfl] at h2;cases h2;cases h3
   exact ⟨c,e,(0,0),hB,hle,hc.mono hext (fun _ _ h=>h),fun _=>⟨hbase,rfl,rfl⟩,fun h=>by cases h⟩
  ·rw [if_neg (by omega)] at h2
   obtain ⟨c1,el,fz,g1,g2,g3,g4⟩:=hR.row b B1 o1 ro e1 cs1 h4 h2
   exact ⟨c1,el,fz,g1,g2,g3.mono hext (fun _ _ h=>h),g4⟩
 ·intro b b' B1 o1 o' e1 cs1 h1 h2 hne h3
  rw [a0B] at h3 ⊢
  rcases f0L hR h1 with ⟨rfl,h4⟩ | ⟨h4,h5⟩
  ·cases h4
   rcases f0L hR h2 with ⟨rfl,_⟩ | ⟨h6,h7⟩
   ·exact absurd rfl hne
   ·rw [if_neg (by omega)];exact hdead b' o' h7
  ·rw [if_neg (by omega)] at h3
   rcases f0L hR h2 with ⟨rfl,h6⟩ | ⟨h6,h7⟩
   ·cases h6;exact absurd h3 (hno b o1 _ _ _ h5)
   ·rw [if_neg (by omega)];exact hR.sep b b' B1 o1 o' e1 cs1 h5 h7 hne h3
theorem Rel.adopt0 (hR:Rel X φ H w) (B o:Nat):Rel X (ad φ H.size B o) (H.push .dead) w:=by
 have hext:∀ b x,φ b=some x→ad φ H.size B o b=some x:=fun b x h=>r0d hR h
 refine ⟨hR.bs,?_,?_,?_⟩
 ·intro b x h
  rw [Array.size_push]
  rcases f0L hR h with ⟨h1,_⟩ | ⟨h1,_⟩ <;> omega
 ·intro b B1 o1 ro e1 cs1 h1 h2
  rw [a0B] at h2
  rcases f0L hR h1 with ⟨rfl,h3⟩ | ⟨h3,h4⟩
  ·rw [if_pos rfl] at h2;cases h2
  ·rw [if_neg (by omega)] at h2
   obtain ⟨c1,el,fz,g1,g2,g3,g4⟩:=hR.row b B1 o1 ro e1 cs1 h4 h2
   exact ⟨c1,el,fz,g1,g2,g3.mono hext (fun _ _ h=>h),g4⟩
 ·intro b b' B1 o1 o' e1 cs1 h1 h2 hne h3
  rw [a0B] at h3 ⊢
  rcases f0L hR h1 with ⟨rfl,h4⟩ | ⟨h4,h5⟩
  ·rw [if_pos rfl] at h3;cases h3
  ·rw [if_neg (by omega)] at h3
   rcases f0L hR h2 with ⟨rfl,h6⟩ | ⟨h6,h7⟩
   ·rw [if_pos rfl]
   ·rw [if_neg (by omega)];exact hR.sep b b' B1 o1 o' e1 cs1 h5 h7 hne h3
theorem VR.back {f0:Nat} (hR:Rel X φ H w) (h:d0c X f0 φ H w φ' H' w') {S S':Shp} {v u u':Value} (k:VR X φ S v u) (k':VR X φ' S' v u'):VR X φ S' v u':=by
 refine (VR.cut (m:=H.size) (fun b y hb=>hR.lt b y hb) k k').mono (fun b x hx=>?_) (fun _ _ h=>h)
 obtain ⟨h1,h2⟩:=b0t.1 hx
 cases hb:φ b with
 | none=>have:=h.fresh b x h2 hb;omega
 | some y=>rw [h.ext b y hb] at h2;exact h2
theorem CR.back {f0:Nat} (hR:Rel X φ H w) (h:d0c X f0 φ H w φ' H' w') {S S':Shp} {l m m':List Value} (k:CR X φ S l m) (k':CR X φ' S' l m'):CR X φ S' l m' :=
 ⟨k'.1,fun i hi=>VR.back hR h (k.2 i hi) (k'.2 i hi)⟩
theorem d0c.own_new (hR:Rel X φ H w) (h:d0c X H.size φ H w φ' H' w') {b B o:Nat} (hb:φ' b=some (B,o)) (hn:φ b=none):w.heap.size≤B:=by
 rcases h.newB b B o hb hn with h1 | ⟨b0,o0,e,cs,h1,h2,h3⟩
 ·exact h1
 ·have:=hR.lt b0 _ h1;omega
theorem d0c.old (hR:Rel X φ H w) (h:d0c X H.size φ H w φ' H' w') {B:Nat} (hB:B < w.heap.size):w'.heap[B]? = w.heap[B]? :=
 h.frame B hB fun b o e cs h1 h2=>by have:=hR.lt b _ h1;omega
theorem d0c.rel0 (hR:Rel X φ H w) (h:d0c X H.size φ H w φ' H' w'):Rel X φ H w' :=
 hR.agree (Nat.le_trans hR.bs h.wsz) h.shp fun b B o ro e cs h1 h2=>h.old hR (hR.row_lt h1 h2)
theorem n0h {call:Nat→FuncId→List Value→a0f→Res (Value × a0f)} (hcall:d0C X call) {ops:Array Oper} {Q:Exit→Act→World→Prop} {rest:List Nat} {t':a0W} {H':a0f} :
  ∀ (r:List a0G) (k:Nat) (t:a0W) (H:a0f) (φ:Inj) (w:World) (a:Act),
  (∀ i s,r[i]? = some s→∃ o,ops[k + i]? = some o∧f0E X.P ops true o=some s)→Rel X φ H w→CR X φ w.shape? t a.tmps.toList→fl≤H.size→e0C call fl r t H=.fin .normal t' H' →
  (∀ φ' a' w',CR X φ' w'.shape? t' a'.tmps.toList→d0c X fl φ H w φ' H' w'→a'.defers=a.defers→wpOps X.P ops Q rest a' w') →
  wpOps X.P ops Q (List.range' k r.length ++ rest) a w
 | [],k,t,H,φ,w,a,_,hR,hT,_,he,hK=>by
  simp only [e0C,Out.fin.injEq] at he
  obtain ⟨_,rfl,rfl⟩:=he
  exact hK φ a w hT (d0c.refl hR) rfl
 | s :: r,k,t,H,φ,w,a,hops,hR,hT,hfl,he,hK=>by
  obtain ⟨o,ho,hco⟩:=hops 0 s rfl
  simp only [Nat.add_zero] at ho
  obtain ⟨hc,hf,hdst⟩:=d0J hco
  have hw:=l0y hco hT
  have hops':∀ i s',r[i]? = some s'→∃ o,ops[k + 1 + i]? = some o∧f0E X.P ops true o=some s':=fun i s' hi=>by
   obtain ⟨o',h1,h2⟩:=hops (i + 1) s' (by simpa using hi)
   exact ⟨o',by rw [← h1];congr 1;omega,h2⟩
  rw [List.length_cons,List.range'_succ,List.cons_append]
  unfold wpOps
  simp only [ho]
  simp only [e0C] at he
  by_cases hwt:a0X t s.g=true
  ·rw [hw,if_pos hwt]
   simp only [hwt,if_true] at he
   refine .inl ?_
   cases hs:b0w call fl t H s.op with
   | bad=>simp [hs] at he
   | pan v=>simp [hs] at he
   | ok vH =>
    obtain ⟨v,H1⟩:=vH
    simp only [hs] at he
    refine j0n hcall hc hf hR hT hfl hs a rfl (fun φ' v' w' hvr hst=>?_)
    have hT':CR X φ' w'.shape? t a.tmps.toList:=hT.mono hst.ext hst.shp
    refine n0h hcall r (k + 1) (put t s.dst v) H1 φ' w' (a.put o.dst v') hops' hst.rel (by rw [hdst];exact g0Z hT' hvr o.dst) (Nat.le_trans hfl hst.hsz) he (fun φ2 a2 w2 h1 h2 h3=>?_)
    exact hK φ2 a2 w2 h1 (hst.trans h2 (Nat.le_refl _) hR) (by rw [h3,c0u])
  ·rw [hw,if_neg hwt]
   simp only [Bool.not_eq_true] at hwt
   simp only [hwt,Bool.false_eq_true,if_false] at he
   refine n0h hcall r (k + 1) (put t s.dst undef) H φ w (a.put o.dst undef) hops' hR (by rw [hdst];exact g0Z hT VR.undef o.dst) hfl he (fun φ2 a2 w2 h1 h2 h3=>?_)
   exact hK φ2 a2 w2 h1 h2 (by rw [h3,c0u])
def i0b (j:Nat) (o:Oper):Bool:=o.guard.isNone && h0v o && o.op.operands.toList.all fun | .tmp i=>i != j | _=>true
theorem t0Z {j:Nat} {o:Oper} (hb:i0b j o=true) {a b:Act} (h:∀ i,i ≠ j→b.tmps.getD i undef=a.tmps.getD i undef):execOp b.eval o=execOp a.eval o:=by
 unfold i0b at hb
 simp only [Bool.and_eq_true,List.all_eq_true] at hb
 obtain ⟨⟨h1,h2⟩,h3⟩:=hb
 refine execOp_congr o (fun cs bl he=>by unfold h0v at h2;rw [he] at h2;cases h2) ?_
 intro x hx
 cases x with
 | tmp d =>
  have:=h3 (.tmp d) (by simpa using hx)
  simp only [bne_iff_ne,ne_eq] at this
  simp only [Act.eval]
  exact h d this
 | const v=>rfl
 | func f=>rfl
 | global g=>rfl
theorem x0o {j:Nat} {a b:Act} (h:∀ i,i ≠ j→b.tmps.getD i undef=a.tmps.getD i undef) (hs:b.tmps.size=a.tmps.size) (d:Option Nat) (v:Value) :
  (∀ i,i ≠ j→(b.put d v).tmps.getD i undef=(a.put d v).tmps.getD i undef)∧(b.put d v).tmps.size=(a.put d v).tmps.size:=by
 cases d with
 | none=>exact ⟨h,hs⟩
 | some d =>
  refine ⟨fun i hi=>?_,by simpa [Act.put] using hs⟩
  simp only [Act.put,Array.getD_eq_getD_getElem?,Array.getElem?_setIfInBounds,hs]
  have:=h i hi
  simp only [Array.getD_eq_getD_getElem?] at this
  by_cases hid:d=i
  ·simp [hid]
  ·simp [hid,this]
theorem o0y {call:Nat→FuncId→List Value→a0f→Res (Value × a0f)} (hcall:d0C X call) {j:Nat} {ops:Array Oper} {Q:Exit→Act→World→Prop} {t':a0W} {H':a0f} (hbl:ops.toList.all (i0b j)=true) :
  ∀ (r:List a0G) (k:Nat) (t:a0W) (H:a0f) (φ:Inj) (w:World) (a b:Act),
  (∀ i s,r[i]? = some s→s.g=none∧∃ o,ops[k + i]? = some o∧f0E X.P ops true o=some s)→Rel X φ H w→CR X φ w.shape? t a.tmps.toList→fl≤H.size→(∀ i,i ≠ j→b.tmps.getD i undef=a.tmps.getD i undef)→b.tmps.size=a.tmps.size →
  e0C call fl r t H=.fin .normal t' H'→(∀ φ' b' w',d0c X fl φ H w φ' H' w'→b'.defers=b.defers→Q .normal b' w') →
  wpOps X.P ops Q (List.range' k r.length) b w
 | [],k,t,H,φ,w,a,b,_,hR,hT,_,_,_,he,hK=>by
  simp only [e0C,Out.fin.injEq] at he
  obtain ⟨_,rfl,rfl⟩:=he
  exact hK φ b w (d0c.refl hR) rfl
 | s :: r,k,t,H,φ,w,a,b,hops,hR,hT,hfl,hag,hsz,he,hK=>by
  obtain ⟨hsg,o,ho,hco⟩:=hops 0 s rfl
  simp only [Nat.add_zero] at ho
  obtain ⟨hc,hf,hdst⟩:=d0J hco
  have hops':∀ i s',r[i]? = some s'→s'.g=none∧∃ o,ops[k + 1 + i]? = some o∧f0E X.P ops true o=some s':=fun i s' hi=>by
   obtain ⟨h0,o',h1,h2⟩:=hops (i + 1) s' (by simpa using hi)
   exact ⟨h0,o',by rw [← h1];congr 1;omega,h2⟩
  have hbo:i0b j o=true:=List.all_eq_true.1 hbl o (by
   have:=Array.getElem?_eq_some_iff.1 ho
   obtain ⟨h1,h2⟩:=this
   rw [← h2];simp)
  have hgu:o.guard=none:=by
   unfold i0b at hbo
   simp only [Bool.and_eq_true,Option.isNone_iff_eq_none] at hbo
   exact hbo.1.1
  rw [List.length_cons,List.range'_succ]
  unfold wpOps
  simp only [ho]
  rw [show Region.wanted o (yielded ops b.tmps)=true by simp [Region.wanted,hgu],if_pos rfl]
  simp only [e0C,hsg,a0X,if_true] at he
  refine .inl ?_
  cases hs:b0w call fl t H s.op with
  | bad=>simp [hs] at he
  | pan v=>simp [hs] at he
  | ok vH =>
   obtain ⟨v,H1⟩:=vH
   simp only [hs] at he
   refine j0n hcall hc hf hR hT hfl hs b (t0Z hbo hag) (fun φ' v' w' hvr hst=>?_)
   have hT':CR X φ' w'.shape? t a.tmps.toList:=hT.mono hst.ext hst.shp
   obtain ⟨p1,p2⟩:=x0o hag hsz o.dst v'
   refine o0y hcall hbl r (k + 1) (put t s.dst v) H1 φ' w' (a.put o.dst v') (b.put o.dst v') hops' hst.rel (by rw [hdst];exact g0Z hT' hvr o.dst) (Nat.le_trans hfl hst.hsz) p1 p2 he (fun φ2 b2 w2 h2 h3=>?_)
   exact hK φ2 b2 w2 (hst.trans h2 (Nat.le_refl _) hR) (by rw [h3,c0u])
end
/- k0B fuel, a lower floor: the abstract machine answers the same. -/
section
open Go
abbrev F0F:=Nat→FuncId→List Value→a0f→Res (Value × a0f)
def P0K (c c':F0F):Prop:=∀ fl fl' f args H,fl'≤fl→c fl f args H ≠ .bad→c' fl' f args H=c fl f args H
variable {H:a0f} {fl fl':Nat} {t:a0W}
theorem q0V {b off:Nat} {vs:List Value} {H':a0f} (hf:fl'≤fl) (h:H.write? fl b off vs=some H'):H.write? fl' b off vs=some H':=by
 unfold a0f.write? at h ⊢
 split at h
 ·rename_i e cs hk
  split at h
  ·rename_i hc
   try simp only [hk]
   rw [if_pos ⟨by omega,hc.2⟩];exact h
  ·cases h
 ·cases h
theorem t0W {e:TypeId} {size bytes:Nat} {s x:Value} {r:Value × a0f} (hf:fl'≤fl) (h:h0V fl H e size bytes s x=some r):h0V fl' H e size bytes s x=some r:=by
 unfold h0V at h ⊢
 split at h
 ·split at h
  ·rename_i hn;rw [if_pos hn];exact h
  ·rename_i hn;rw [if_neg hn]
   split at h
   ·rename_i hc;rw [if_pos hc]
    split at h
    ·cases h
    ·rename_i xp
     try simp only at h ⊢
     split at h
     ·cases h
     ·rename_i new hnew
      try simp only [hnew]
      split at h
      ·cases h
      ·rename_i hp;rw [if_neg hp]
       split at h
       ·exact h
       ·rename_i sp
        try simp only at h ⊢
        split at h
        ·rename_i h00;rw [if_pos h00];exact h
        rename_i h00;rw [if_neg h00]
        split at h
        ·cases h
        ·rename_i old hold
         try simp only [hold]
         split at h
         ·rename_i hcap;rw [if_pos hcap];exact h
         ·rename_i hcap;rw [if_neg hcap]
          split at h
          ·rename_i e2 cs hb
           try simp only
           split at h
           ·rename_i hh;rw [if_pos ⟨hh.1,by omega⟩];exact h
           ·cases h
          ·cases h
   ·cases h
 ·cases h
theorem w0K {so:SOp} (hf:fl'≤fl) (h:opA fl t H so ≠ .bad):opA fl' t H so=opA fl t H so:=by
 cases so <;> simp only [opA] at h ⊢
 case store n a x =>
  split at h
  ·rename_i p hp
   split at h
   ·exact absurd rfl h
   ·rename_i hc;rw [if_neg hc];rw [if_neg hc]
    cases hw:H.write? fl p.block p.off (a0K (ev t x)) with
    | none=>rw [hw] at h;exact absurd rfl h
    | some H'=>rw [q0V hf hw]
  ·exact absurd rfl h
 case app e size bytes s x =>
  cases hw:h0V fl H e size bytes (ev t s) (ev t x) with
  | none=>rw [hw] at h;exact absurd rfl h
  | some r=>rw [t0W hf hw]
section
variable {c c':F0F} (hc:P0K c c')
include hc
theorem f0f {so:SOp} (hf:fl'≤fl) (h:b0w c fl t H so ≠ .bad):b0w c' fl' t H so=b0w c fl t H so:=by
 unfold b0w at h ⊢
 have ho:opA fl t H so ≠ .bad:=by intro hb;rw [hb] at h;exact h rfl
 rw [w0K hf ho]
 split at h
 ·exact absurd rfl h
 ·rfl
 ·rfl
 ·rename_i f args lone _
  refine hc _ _ _ _ _ ?_ h
  split <;> omega
theorem f0d (hf:fl'≤fl):∀ (ops:List a0G) (t:a0W) (H:a0f),e0C c fl ops t H ≠ .bad→e0C c' fl' ops t H=e0C c fl ops t H
 | [],t,H,_=>rfl
 | o :: r,t,H,h=>by
  simp only [e0C] at h ⊢
  split at h
  ·rename_i hw
   simp only [hw,if_true]
   have hs:b0w c fl t H o.op ≠ .bad:=by intro hb;rw [hb] at h;exact h rfl
   rw [f0f hc hf hs]
   split at h
   ·exact absurd rfl h
   ·rfl
   ·exact f0d hf r _ _ h
  ·rename_i hw
   simp only [hw,if_false]
   exact f0d hf r _ _ h
theorem c0S (hf:fl'≤fl) (bef:List Nat) (pairs:List (Nat × Nat)):∀ (ops:List a0G) (i:Nat) (t:a0W) (H:a0f) (p:Option (Nat × Value)) (log:List (List Nat × List Nat)),
  b0P c fl bef pairs i ops t H p log ≠ .bad→b0P c' fl' bef pairs i ops t H p log=b0P c fl bef pairs i ops t H p log
 | [],i,t,H,p,log,_=>rfl
 | o :: r,i,t,H,p,log,h=>by
  simp only [b0P] at h ⊢
  split at h
  ·rename_i hg;simp only [hg,if_true];exact c0S hf bef pairs r _ _ _ _ _ h
  ·rename_i hg
   simp only [hg,if_false]
   split at h
   ·rename_i hw
    simp only [hw,if_true]
    have hs:b0w c fl t H o.op ≠ .bad:=by intro hb;rw [hb] at h;exact h rfl
    rw [f0f hc hf hs]
    split at h
    ·exact absurd rfl h
    ·split at h
     ·exact c0S hf bef pairs r _ _ _ _ _ h
     ·exact absurd rfl h
    ·exact c0S hf bef pairs r _ _ _ _ _ h
   ·rename_i hw
    simp only [hw,if_false]
    exact c0S hf bef pairs r _ _ _ _ _ h
theorem a0Y (hf:fl'≤fl):∀ (n m:Nat) (k:SCode) (t:a0W) (H:a0f),n≤m→a0U c fl n k t H ≠ .bad→a0U c' fl' m k t H=a0U c fl n k t H
 | 0,_,_,_,_,_,h=>by simp [a0U] at h
 | n + 1,0,_,_,_,hm,_=>by omega
 | n + 1,m + 1,k,t,H,hm,h=>by
  have hm:n≤m:=by omega
  cases k <;> simp only [a0U] at h ⊢
  case seq a b =>
   have ha:a0U c fl n a t H ≠ .bad:=by intro hb;rw [hb] at h;exact h rfl
   rw [a0Y hf n m a t H hm ha]
   split at h
   ·exact a0Y hf n m b _ _ hm h
   ·rfl
  case cond x a b =>
   split at h
   ·exact a0Y hf n m a _ _ hm h
   ·exact a0Y hf n m b _ _ hm h
   ·exact absurd rfl h
  case block id a =>
   have ha:a0U c fl n a t H ≠ .bad:=by intro hb;rw [hb] at h;exact h rfl
   rw [a0Y hf n m a t H hm ha]
  case loop a =>
   have ha:a0U c fl n a t H ≠ .bad:=by intro hb;rw [hb] at h;exact h rfl
   rw [a0Y hf n m a t H hm ha]
   split at h
   ·exact a0Y hf n m (.loop a) _ _ hm h
   ·rfl
  case reg ops=>exact f0d hc hf ops t H h
  case draw ops bef pairs=>exact c0S hc hf bef pairs ops 0 t H none [] h
end
theorem a0E (E:Env):∀ n m,n≤m→P0K (b0e E n) (b0e E m)
 | 0,m,_=>fun _ _ _ _ _ _ h=>by simp [b0e] at h
 | n + 1,0,hm=>by omega
 | n + 1,m + 1,hm=>fun fl fl' f args H hf h=>by
  have ih:=a0E E n m (by omega)
  simp only [b0e] at h ⊢
  split at h
  ·split at h
   ·rfl
   split at h
   ·rename_i q hq
    try simp only
    split at h
    ·rename_i hfq
     rw [if_pos hfq];rw [if_pos hfq]
     split at h
     ·rename_i p s _
      try simp only at h ⊢
      split at h
      case isFalse=>exact absurd rfl h
      rename_i hsz
      rw [if_pos hsz]
      try rw [if_pos hsz]
      have h2:b0e E n (max fl H.size) q.solved [.agg #[],.agg p,.agg s] H ≠ .bad:=by intro hb;rw [hb] at h;exact h rfl
      try simp only
      rw [ih (max fl H.size) (max fl' H.size) _ _ _ (by omega) h2]
     ·exact absurd rfl h
    ·exact absurd rfl h
   ·exact absurd rfl h
  ·rename_i sf hsf
   try simp only
   split at h
   ·rename_i hl
    rw [if_pos hl];rw [if_pos hl]
    have h2:a0U (b0e E n) fl n sf.body (args ++ List.replicate (sf.nt - args.length) undef) H ≠ .bad:=by intro hb;rw [hb] at h;exact h rfl
    rw [a0Y ih hf n m _ _ _ (by omega) h2]
   ·exact absurd rfl h
theorem u0b {E:Env} {n m:Nat} {f:FuncId} {args:List Value} (hn:n≤m) (hf:fl'≤fl) (h:b0e E n fl f args H ≠ .bad):b0e E m fl' f args H=b0e E n fl f args H :=
 a0E E n m hn _ _ _ _ _ hf h
end
/- Weakest preconditions over the abstract machine. -/
section
open Go
abbrev k0E:=Value→a0f→Prop
abbrev d0V:=XA→a0W→a0f→Prop
abbrev a0A:=Value→Prop
def m0z (Q:k0E) (R:a0A):Res (Value × a0f)→Prop
 | .ok (v,H)=>Q v H
 | .pan v=>R v
 | .bad=>False
def i0q (Q:d0V) (R:a0A):Out→Prop
 | .fin e t H=>Q e t H
 | .pan v=>R v
 | .bad=>False
def a0P (E:Env) (fl:Nat) (f:FuncId) (args:List Value) (H:a0f) (Q:k0E) (R:a0A):Prop:=∃ n,m0z Q R (b0e E n fl f args H)
def W (E:Env) (fl:Nat) (c:SCode) (t:a0W) (H:a0f) (Q:d0V) (R:a0A):Prop:=∃ n,i0q Q R (a0U (b0e E n) fl n c t H)
def WS (E:Env) (fl:Nat) (t:a0W) (H:a0f) (op:SOp) (K:k0E) (R:a0A):Prop :=
 match opA fl t H op with
 | .bad=>False
 | .pan v=>R v
 | .val v H'=>K v H'
 | .call f args lone=>a0P E (if lone then fl else max fl H.size) f args H K R
def WR (E:Env) (fl:Nat):List a0G→a0W→a0f→(a0W→a0f→Prop)→a0A→Prop
 | [],t,H,K,_=>K t H
 | o :: r,t,H,K,R=>if a0X t o.g then WS E fl t H o.op (fun v H'=>WR E fl r (put t o.dst v) H' K R) R else WR E fl r (put t o.dst undef) H K R
variable {E:Env} {fl:Nat} {t:a0W} {H:a0f} {Q Q':d0V} {R R':a0A} {K K':k0E} {f:FuncId} {args:List Value}
theorem e0k {o:Out} (h:i0q Q R o):o ≠ .bad:=by cases o <;> simp_all [i0q]
theorem G0v {o:Res (Value × a0f)} (h:m0z K R o):o ≠ .bad:=by cases o <;> simp_all [m0z]
theorem j0G {n m k:Nat} {c:SCode} (hn:n≤m) (hk:k≤m) (h:i0q Q R (a0U (b0e E n) fl k c t H)):i0q Q R (a0U (b0e E m) fl m c t H):=by
 rw [a0Y (a0E E n m hn) (Nat.le_refl fl) k m c t H hk (e0k h)];exact h
theorem v0L {n m fl':Nat} (hn:n≤m) (hf:fl'≤fl) (h:m0z K R (b0e E n fl f args H)):m0z K R (b0e E m fl' f args H):=by
 rw [u0b hn hf (G0v h)];exact h
theorem a0P.mono (h:a0P E fl f args H K R) (hk:∀ v H',K v H'→K' v H'):a0P E fl f args H K' R:=by
 obtain ⟨n,h⟩:=h
 refine ⟨n,?_⟩
 cases hc:b0e E n fl f args H with
 | bad=>rw [hc] at h;exact h
 | pan v=>rw [hc] at h;exact h
 | ok r=>rw [hc] at h;exact hk _ _ h
theorem a0P.floor {fl':Nat} (h:a0P E fl f args H K R) (hf:fl'≤fl):a0P E fl' f args H K R:=by
 obtain ⟨n,h⟩:=h
 exact ⟨n,v0L (Nat.le_refl n) hf h⟩
theorem a0P.keep (h:a0P E fl f args H K R) (hf:fl≤H.size):a0P E fl f args H (fun v H'=>K v H'∧f0h fl H H') R:=by
 obtain ⟨n,h⟩:=h
 refine ⟨n,?_⟩
 cases hc:b0e E n fl f args H with
 | bad=>rw [hc] at h;exact h
 | pan v=>rw [hc] at h;exact h
 | ok r=>rw [hc] at h;exact ⟨h,g0m E n fl f args H r.1 r.2 hc hf⟩
theorem W.mono {c:SCode} (h:W E fl c t H Q R) (hk:∀ e t' H',Q e t' H'→Q' e t' H'):W E fl c t H Q' R:=by
 obtain ⟨n,h⟩:=h
 refine ⟨n,?_⟩
 cases hc:a0U (b0e E n) fl n c t H with
 | bad=>rw [hc] at h;exact h
 | pan v=>rw [hc] at h;exact h
 | fin e t' H'=>rw [hc] at h;exact hk _ _ _ h
theorem WS.mono {op:SOp} (h:WS E fl t H op K R) (hk:∀ v H',K v H'→K' v H'):WS E fl t H op K' R:=by
 unfold WS at h ⊢
 split at h
 ·exact h
 ·exact h
 ·exact hk _ _ h
 ·exact h.mono hk
theorem WR.mono {Z Z':a0W→a0f→Prop}:∀ {ops:List a0G} {t:a0W} {H:a0f},WR E fl ops t H Z R→(∀ t' H',Z t' H'→Z' t' H')→WR E fl ops t H Z' R
 | [],_,_,h,hk=>hk _ _ h
 | o :: r,t,H,h,hk=>by
  simp only [WR] at h ⊢
  split at h
  ·rename_i hw;rw [if_pos hw];exact h.mono fun v H' h'=>WR.mono h' hk
  ·rename_i hw;rw [if_neg hw];exact WR.mono h hk
def h0P (k:a0W→a0f→Prop) (Q:d0V):d0V
 | .normal,t,H=>k t H
 | .exit i,t,H=>Q (.exit i) t H
 | .ret,t,H=>Q .ret t H
theorem h0Y {a b:SCode} (h:W E fl a t H (h0P (fun t' H'=>W E fl b t' H' Q R) Q) R):W E fl (.seq a b) t H Q R:=by
 obtain ⟨n,h⟩:=h
 cases hc:a0U (b0e E n) fl n a t H with
 | bad=>rw [hc] at h;exact absurd h id
 | pan v =>
  refine ⟨n + 1,?_⟩
  have:=a0Y (a0E E n (n+1) (by omega)) (Nat.le_refl fl) n n a t H (Nat.le_refl n) (by rw [hc];simp)
  simp only [a0U,this,hc];rw [hc] at h;exact h
 | fin e t' H' =>
  rw [hc] at h
  cases e with
  | normal =>
   obtain ⟨m,h⟩:=h
   refine ⟨max n m + 1,?_⟩
   have:=a0Y (a0E E n (max n m+1) (by omega)) (Nat.le_refl fl) n (max n m) a t H (by omega) (by rw [hc];simp)
   simp only [a0U,this,hc]
   have h2:=a0Y (a0E E m (max n m+1) (by omega)) (Nat.le_refl fl) m (max n m) b t' H' (by omega) (e0k h)
   rw [h2];exact h
  | exit i =>
   refine ⟨n + 1,?_⟩
   have:=a0Y (a0E E n (n+1) (by omega)) (Nat.le_refl fl) n n a t H (Nat.le_refl n) (by rw [hc];simp)
   simp only [a0U,this,hc];exact h
  | ret =>
   refine ⟨n + 1,?_⟩
   have:=a0Y (a0E E n (n+1) (by omega)) (Nat.le_refl fl) n n a t H (Nat.le_refl n) (by rw [hc];simp)
   simp only [a0U,this,hc];exact h
theorem v0D (h:Q .normal t H):W E fl .skip t H Q R:=⟨1,by simpa [a0U,i0q] using h⟩
theorem v0B {i:Nat} (h:Q (.exit i) t H):W E fl (.exit i) t H Q R:=⟨1,by simpa [a0U,i0q] using h⟩
theorem T0N (h:Q .ret t H):W E fl .ret t H Q R:=⟨1,by simpa [a0U,i0q] using h⟩
theorem n0r {c:Opd} {a b:SCode} (x:Bool) (hx:ev t c=.bool x) (ha:x=true→W E fl a t H Q R) (hb:x=false→W E fl b t H Q R):W E fl (.cond c a b) t H Q R:=by
 cases x with
 | true =>
  obtain ⟨n,h⟩:=ha rfl
  refine ⟨n + 1,?_⟩
  have:=a0Y (a0E E n (n+1) (by omega)) (Nat.le_refl fl) n n a t H (Nat.le_refl n) (e0k h)
  simp only [a0U,hx,this];exact h
 | false =>
  obtain ⟨n,h⟩:=hb rfl
  refine ⟨n + 1,?_⟩
  have:=a0Y (a0E E n (n+1) (by omega)) (Nat.le_refl fl) n n b t H (Nat.le_refl n) (e0k h)
  simp only [a0U,hx,this];exact h
def f0w (i:Nat) (Q:d0V):d0V
 | .normal,t,H=>Q .normal t H
 | .exit j,t,H=>if j=i then Q .normal t H else Q (.exit j) t H
 | .ret,t,H=>Q .ret t H
theorem o0V {i:Nat} {c:SCode} (h:W E fl c t H (f0w i Q) R):W E fl (.block i c) t H Q R:=by
 obtain ⟨n,h⟩:=h
 refine ⟨n + 1,?_⟩
 have hm:=a0Y (a0E E n (n+1) (by omega)) (Nat.le_refl fl) n n c t H (Nat.le_refl n) (e0k h)
 simp only [a0U,hm]
 cases hc:a0U (b0e E n) fl n c t H with
 | bad=>rw [hc] at h;exact absurd h id
 | pan v=>rw [hc] at h;exact h
 | fin e t' H' =>
  rw [hc] at h
  cases e with
  | normal=>exact h
  | ret=>exact h
  | exit j =>
   simp only [i0q,f0w] at h
   simp only
   split at h
   ·rename_i hj;rw [if_pos hj];exact h
   ·rename_i hj;rw [if_neg hj];exact h
theorem I0Z {c:SCode} (I:Nat→a0W→a0f→Prop)
  (step:∀ k t H,I k t H→W E fl c t H (h0P (fun t' H'=>∃ k',k' < k∧I k' t' H') Q) R):∀ (k:Nat) {t:a0W} {H:a0f},I k t H→W E fl (.loop c) t H Q R:=by
 intro k
 induction k using Nat.strongRecOn with
 | ind k ih =>
  intro t H hI
  obtain ⟨n,h⟩:=step k t H hI
  cases hc:a0U (b0e E n) fl n c t H with
  | bad=>rw [hc] at h;exact absurd h id
  | pan v =>
   refine ⟨n + 1,?_⟩
   have:=a0Y (a0E E n (n+1) (by omega)) (Nat.le_refl fl) n n c t H (Nat.le_refl n) (by rw [hc];simp)
   simp only [a0U,this,hc];rw [hc] at h;exact h
  | fin e t' H' =>
   rw [hc] at h
   cases e with
   | normal =>
    obtain ⟨k',hk',hI'⟩:=h
    obtain ⟨m,h⟩:=ih k' hk' hI'
    refine ⟨max n m + 1,?_⟩
    have:=a0Y (a0E E n (max n m+1) (by omega)) (Nat.le_refl fl) n (max n m) c t H (by omega) (by rw [hc];simp)
    simp only [a0U,this,hc]
    have h2:=a0Y (a0E E m (max n m+1) (by omega)) (Nat.le_refl fl) m (max n m) (.loop c) t' H' (by omega) (e0k h)
    rw [h2];exact h
   | exit i =>
    refine ⟨n + 1,?_⟩
    have:=a0Y (a0E E n (n+1) (by omega)) (Nat.le_refl fl) n n c t H (Nat.le_refl n) (by rw [hc];simp)
    simp only [a0U,this,hc];exact h
   | ret =>
    refine ⟨n + 1,?_⟩
    have:=a0Y (a0E E n (n+1) (by omega)) (Nat.le_refl fl) n n c t H (Nat.le_refl n) (by rw [hc];simp)
    simp only [a0U,this,hc];exact h
theorem v0z {op:SOp} (h:WS E fl t H op K R):∃ n,m0z K R (b0w (b0e E n) fl t H op):=by
 unfold WS at h
 unfold b0w
 split at h
 ·exact absurd h id
 ·rename_i v hv;exact ⟨0,by simpa [hv,m0z] using h⟩
 ·rename_i v H' hv;exact ⟨0,by simpa [hv,m0z] using h⟩
 ·rename_i g as lone hv
  obtain ⟨n,h⟩:=h
  exact ⟨n,by simpa [hv] using h⟩
theorem r0b {Z:a0W→a0f→Prop}:∀ (ops:List a0G) {t:a0W} {H:a0f},WR E fl ops t H Z R→∃ n,i0q (fun e t' H'=>e=.normal∧Z t' H') R (e0C (b0e E n) fl ops t H)
 | [],t,H,h=>⟨0,rfl,h⟩
 | o :: r,t,H,h=>by
  simp only [WR] at h
  split at h
  ·rename_i hw
   obtain ⟨n,hn⟩:=v0z h
   cases hs:b0w (b0e E n) fl t H o.op with
   | bad=>rw [hs] at hn;exact absurd hn id
   | pan v=>exact ⟨n,by simp only [e0C,hw,if_true,hs];rw [hs] at hn;exact hn⟩
   | ok rr =>
    obtain ⟨v,H'⟩:=rr
    rw [hs] at hn
    obtain ⟨m,hm⟩:=r0b r hn
    refine ⟨max n m,?_⟩
    have h1:=f0f (a0E E n (max n m) (by omega)) (Nat.le_refl fl) (t:=t) (H:=H) (so:=o.op) (by rw [hs];simp)
    have h2:=f0d (a0E E m (max n m) (by omega)) (Nat.le_refl fl) r (put t o.dst v) H' (e0k hm)
    simp only [e0C,hw,if_true,h1,hs,h2];exact hm
  ·rename_i hw
   obtain ⟨m,hm⟩:=r0b r h
   exact ⟨m,by simp only [e0C,hw,if_false];exact hm⟩
theorem l0D {ops:List a0G} (h:WR E fl ops t H (fun t' H'=>Q .normal t' H') R):W E fl (.reg ops) t H Q R:=by
 obtain ⟨n,hn⟩:=r0b ops h
 refine ⟨n + 1,?_⟩
 have h2:=f0d (a0E E n (n+1) (by omega)) (Nat.le_refl fl) ops t H (e0k hn)
 simp only [a0U,h2]
 cases hr:e0C (b0e E n) fl ops t H with
 | bad=>rw [hr] at hn;exact absurd hn id
 | pan v=>rw [hr] at hn;exact hn
 | fin e t' H'=>rw [hr] at hn;obtain ⟨rfl,hn⟩:=hn;exact hn
theorem l0P {c:F0F} {fl:Nat} (bef:List Nat):∀ (ops:List a0G) (i:Nat) (t:a0W) (H:a0f) (log:List (List Nat × List Nat)) {e:XA} {t':a0W} {H':a0f},
  e0C c fl ops t H=.fin e t' H'→b0P c fl bef [] i ops t H none log=.fin .normal t' H'
 | [],i,t,H,log,e,t',H',h=>by simp only [e0C,Out.fin.injEq] at h;obtain ⟨_,rfl,rfl⟩:=h;simp [b0P,c0E]
 | o :: r,i,t,H,log,e,t',H',h=>by
  simp only [e0C] at h
  simp only [b0P,f0V,Bool.false_eq_true,if_false]
  split at h
  ·rename_i hw
   simp only [hw,if_true]
   split at h
   ·cases h
   ·cases h
   ·rename_i v H1 hs;(try simp only [hs]);exact l0P bef r _ _ _ _ h
  ·rename_i hw
   simp only [hw,if_false]
   exact l0P bef r _ _ _ _ h
theorem a0v {ops:List a0G} {bef:List Nat} (h:WR E fl ops t H (fun t' H'=>Q .normal t' H') (fun _=>False)):W E fl (.draw ops bef []) t H Q R:=by
 obtain ⟨n,hn⟩:=r0b ops h
 refine ⟨n + 1,?_⟩
 have h2:=f0d (a0E E n (n+1) (by omega)) (Nat.le_refl fl) ops t H (e0k hn)
 simp only [a0U]
 cases hr:e0C (b0e E n) fl ops t H with
 | bad=>rw [hr] at hn;exact absurd hn id
 | pan v=>rw [hr] at hn;exact absurd hn id
 | fin e t' H' =>
  rw [hr] at hn h2
  rw [l0P bef ops 0 t H [] h2]
  exact hn.2
theorem l0N {sf:q0Z} (hc:E.code f=some sf) (hl:args.length=sf.np) (hnt:args.length≤sf.nt)
  (h:∀ t,t.length=sf.nt→(∀ i,get t i=args.getD i undef)→W E fl sf.body t H (fun e t' H'=>(match e with | .exit _=>False | _=>True)∧∃ vs,e0h H' t' sf.res=some vs∧K (c0Z vs) H') R) :
  a0P E fl f args H K R:=by
 obtain ⟨n,hn⟩:=h (args ++ List.replicate (sf.nt - args.length) undef) (by simp;omega) (fun i=>by
  unfold get
  simp only [List.getD_eq_getElem?_getD]
  by_cases hi:i < args.length
  ·rw [List.getElem?_append_left hi]
  ·rw [List.getElem?_append_right (by omega)]
   rw [List.getElem?_eq_none (by omega:args.length≤i)]
   by_cases h2:i - args.length < sf.nt - args.length
   ·rw [List.getElem?_replicate];simp [h2]
   ·rw [List.getElem?_eq_none (by simpa using h2)])
 refine ⟨n + 1,?_⟩
 simp only [b0e,hc,hl,if_true]
 rw [hl] at hn
 cases hx:a0U (b0e E n) fl n sf.body (args ++ List.replicate (sf.nt - sf.np) undef) H with
 | bad=>rw [hx] at hn;exact absurd hn id
 | pan v=>rw [hx] at hn;exact hn
 | fin e t' H' =>
  rw [hx] at hn
  obtain ⟨he,vs,hvs,hk⟩:=hn
  cases e with
  | exit i=>exact absurd he id
  | normal=>simp only [hvs];exact hk
  | ret=>simp only [hvs];exact hk
end
/- The operations' weakest preconditions as equations; slices and local cells read over a heap that is given step by step. -/
section
open Go
variable {E:Env} {fl:Nat} {t:a0W} {H G:a0f} {K:k0E} {R:a0A}
theorem nr {α:Sort _} {a b:α} (h:a=b):a=b:=h
def oo {α:Type} (o:Option α) (K:α→Prop):Prop:=∃ a,o=some a∧K a
@[simp] theorem w0J {α:Type} (a:α) (K:α→Prop):oo (some a) K=K a:=by simp [oo]
@[simp] theorem p0r {α:Type} (K:α→Prop):oo (none:Option α) K=False:=by simp [oo]
/-! ### registers -/
def T (n:Nat) (ρ:Nat→Value):a0W:=(List.range n).map ρ
def upd (ρ:Nat→Value) (d:Nat) (v:Value):Nat→Value:=fun i=>if d=i then v else ρ i
theorem j0p {ρ:Nat→Value} {d:Nat} {v:Value}:upd ρ d v d=v:=by simp [upd]
theorem h0S {ρ:Nat→Value} {d i:Nat} {v:Value} (h:d ≠ i):upd ρ d v i=ρ i:=by simp [upd,h]
theorem N0F {n d:Nat} {ρ:Nat→Value} {v:Value}:put (T n ρ) (some d) v=T n (upd ρ d v):=by
 unfold put T
 apply List.ext_getElem?
 intro i
 simp only [List.getElem?_set,List.getElem?_map,List.length_map,List.length_range,List.getElem?_range',List.getElem?_range]
 by_cases hi:i < n
 ·rw [List.getElem?_range hi]
  by_cases hd:d=i
  ·subst hd;simp [hi,upd]
  ·simp [hd,upd]
 ·rw [List.getElem?_eq_none (by simpa using hi)]
  by_cases hd:d=i
  ·subst hd;simp [hi]
  ·simp [hd]
theorem b0Z {n i:Nat} {ρ:Nat→Value} (h:i < n):get (T n ρ) i=ρ i:=by
 unfold get T
 rw [List.getD_eq_getElem?_getD,List.getElem?_map,List.getElem?_range h];rfl
theorem F0H {t:a0W} {n:Nat} (h:t.length=n):t=T n (get t):=by
 apply List.ext_getElem?
 intro i
 unfold T
 by_cases hi:i < n
 ·rw [List.getElem?_map,List.getElem?_range hi,List.getElem?_eq_getElem (by omega)]
  simp [get,List.getD_eq_getElem?_getD,List.getElem?_eq_getElem (show i < t.length by omega)]
 ·rw [List.getElem?_eq_none (by omega),List.getElem?_eq_none (by simpa using hi)]
theorem P0e {ρ:Nat→Value} {d i:Nat} {v:Value}:upd ρ d v i=if d=i then v else ρ i:=rfl
theorem R0a {n i:Nat} {ρ:Nat→Value}:get (T n ρ) i=if i < n then ρ i else undef:=by
 by_cases h:i < n
 ·rw [if_pos h,b0Z h]
 ·rw [if_neg h];unfold get T;rw [List.getD_eq_getElem?_getD,List.getElem?_eq_none (by simpa using h)];rfl
@[simp] theorem S0L {n:Nat} {ρ:Nat→Value}:(T n ρ).length=n:=by simp [T]
theorem toT {t:a0W} {n:Nat} (h:t.length=n):∃ ρ,t=T n ρ:=⟨_,F0H h⟩
attribute [irreducible] upd T
@[simp] theorem S0P {v:Value}:put t none v=t:=nr rfl
@[simp] theorem P0D {d:Option Nat} {v:Value}:(put t d v).length=t.length:=by cases d <;> simp [put]
@[simp] theorem l0d {i:Nat}:ev t (.tmp i)=get t i:=nr rfl
@[simp] theorem F0Z {v:Value}:ev t (.const v)=v:=nr rfl
@[simp] theorem X0n {f:FuncId}:ev t (.fn f)=.func (.func f) #[] #[]:=nr rfl
/-! ### what operations make of values -/
def N0B:Value→Value→Value→Option Value
 | .bool b,x,y=>some (if b then x else y)
 | _,_,_=>none
@[simp] theorem P0G {b:Bool} {x y:Value}:N0B (.bool b) x y=some (if b then x else y):=nr rfl
def N0f (k:IntKind):Value→Option Value
 | .int _ n=>some (.int k (k.wrap n))
 | _=>none
@[simp] theorem Q0z {k k':IntKind} {n:Int}:N0f k (.int k' n)=some (.int k (k.wrap n)):=nr rfl
def j0b:Value→Option Value
 | .slice _ n _=>some (.int .i64 n)
 | _=>none
def adr (size:Nat) (v:Value) (j:Nat):Value :=
 match v with
 | .slice (some p) _ _=>.pointer (some ⟨p.block,p.off + j * size,none⟩)
 | _=>undef
def iaV (size:Nat) (v:Value) (i:Value):Option Value :=
 match v,i with
 | .slice (some p) n _,.int _ j=>if 0≤j∧j < n then some (.pointer (some ⟨p.block,p.off + j.toNat * size,none⟩)) else none
 | _,_=>none
def V0V (v:Value) (i:Nat):Option Value:=match v with | .tuple vs=>vs[i]? | _=>none
@[simp] theorem P0o {vs:Array Value} {i:Nat}:V0V (.tuple vs) i=vs[i]?:=nr rfl
def faV (off:Nat):Value→Option Value
 | .pointer (some p)=>if p.spot.isSome=true then none else some (.pointer (some ⟨p.block,p.off + off,none⟩))
 | _=>none
@[simp] theorem V0X {off b o:Nat}:faV off (.pointer (some ⟨b,o,none⟩))=some (.pointer (some ⟨b,o + off,none⟩)):=by simp [faV]
def U0v:Value→Option Value
 | .pointer (some a)=>some (.pointer (some a))
 | .func (.func f) a b=>some (.func (.func f) a b)
 | .iface a b=>some (.iface a b)
 | _=>none
def d0F (fl:Nat) (H:a0f) (n:Nat) (a x:Value):Option a0f :=
 match a with
 | .pointer (some p)=>if p.spot.isSome=true ∨ (a0K x).length ≠ n then none else H.write? fl p.block p.off (a0K x)
 | _=>none
def mkV (bytes:Nat):Value→Value→Option (Nat × Nat)
 | .int _ l,.int _ c=>if 0≤l∧l≤c∧c≤1073741824∧bytes≤1024 then some (l.toNat,c.toNat) else none
 | _,_=>none
theorem f0p {bytes:Nat} {k k':IntKind} {l c:Nat} (h1:l≤c) (h2:c≤1073741824) (h3:bytes≤1024):mkV bytes (.int k l) (.int k' c)=some (l,c):=by
 unfold mkV;simp only;rw [if_pos (by omega)];simp
theorem S0M {bytes:Nat} {k k':IntKind} {l c:Int} (h0:0≤l) (h1:l≤c) (h2:c≤1073741824) (h3:bytes≤1024):mkV bytes (.int k l) (.int k' c)=some (l.toNat,c.toNat):=by
 unfold mkV;simp only;rw [if_pos ⟨h0,h1,h2,h3⟩]
/-! ### the operations, one by one -/
variable {x y a b c:Opd}
theorem Q0c:WS E fl t H (.mv x) K R=K (ev t x) H:=nr rfl
theorem M0O:WS E fl t H (.pick c a b) K R=oo (N0B (ev t c) (ev t a) (ev t b)) fun v=>K v H:=by
 simp only [WS,opA];generalize ev t c=v;generalize ev t a=va;generalize ev t b=vb
 cases v <;> simp [N0B,oo]
 rename_i q;cases q <;> simp
theorem v0y {tag:Nat} {o:BinOp}:WS E fl t H (.bin tag o x y) K R=oo (d0y tag o (ev t x) (ev t y)) fun v=>K v H:=by
 simp only [WS,opA];cases d0y tag o (ev t x) (ev t y) <;> simp [b0C]
theorem T0M {u:UnOp}:WS E fl t H (.un u x) K R=oo (unA u (ev t x)) fun v=>K v H:=by
 simp only [WS,opA];cases unA u (ev t x) <;> simp [b0C]
theorem M0L {k:IntKind}:WS E fl t H (.conv k x) K R=oo (N0f k (ev t x)) fun v=>K v H:=by
 simp only [WS,opA];generalize ev t x=v;cases v <;> simp [N0f]
theorem P0Z:WS E fl t H (.len x) K R=oo (j0b (ev t x)) fun v=>K v H:=by
 simp only [WS,opA];generalize ev t x=v;cases v <;> simp [j0b]
theorem T0J {size:Nat}:WS E fl t H (.ia size x y) K R=oo (iaV size (ev t x) (ev t y)) fun v=>K v H:=by
 simp only [WS,opA,iaV];generalize ev t x=v;generalize ev t y=w
 cases v <;> simp
 rename_i p n c;cases p <;> cases w <;> simp
 rename_i q k j;by_cases hc:0≤j∧j < n <;> simp [hc]
theorem P0X {i:Nat}:WS E fl t H (.ext x i) K R=oo (V0V (ev t x) i) fun v=>K v H:=by
 simp only [WS,opA,V0V];generalize ev t x=v
 cases v <;> simp
 rename_i vs;cases h:vs[i]? <;> simp [b0C]
theorem T0I {off:Nat}:WS E fl t H (.fa off x) K R=oo (faV off (ev t x)) fun v=>K v H:=by
 simp only [WS,opA,faV];generalize ev t x=v
 cases v <;> simp
 rename_i p;cases p <;> simp
 rename_i q;by_cases hc:q.spot.isSome=true <;> simp [hc]
theorem P0Y {agg:Bool} {off n:Nat}:WS E fl t H (.fld agg off n x) K R=oo (Q0Y agg off n (ev t x)) fun v=>K v H:=by
 simp only [WS,opA];cases Q0Y agg off n (ev t x) <;> simp [b0C]
theorem P0W:WS E fl t H (.chk x) K R=oo (U0v (ev t x)) fun v=>K v H:=by
 simp only [WS,opA,U0v];generalize ev t x=v
 cases v <;> simp
 case pointer p=>cases p <;> simp
 case func f _ _=>cases f <;> simp
theorem F0N {ty:TypeId}:WS E fl t H (.iface ty x) K R=K (.iface ty (ev t x)) H:=nr rfl
theorem M0N {f:Fn} {as bs:List Opd}:WS E fl t H (.mkfn f as bs) K R=K (.func f (as.map (ev t)).toArray (bs.map (ev t)).toArray) H:=nr rfl
theorem F0L {z:List Value} {ps:List (Nat × Nat × Opd)}:WS E fl t H (.build z ps) K R=oo (f0H z (b0v t ps)) fun cs=>K (.agg cs.toArray) H:=by
 simp only [WS,opA];cases f0H z (b0v t ps) <;> simp [b0C]
theorem M0M {agg:Bool} {n:Nat}:WS E fl t H (.load agg n x) K R=oo (b0F H agg n (ev t x)) fun v=>K v H:=by
 simp only [WS,opA];cases b0F H agg n (ev t x) <;> simp [b0C]
theorem Q0b {big:Bool} {ys:List Opd}:WS E fl t H (.mnx big x ys) K R=oo (o0N big (ev t x) (ys.map (ev t))) fun v=>K v H:=by
 simp only [WS,opA];cases o0N big (ev t x) (ys.map (ev t)) <;> simp [b0C]
theorem T0L {e:TypeId} {size:Nat} {lo hi mx:Option Opd}:WS E fl t H (.sl e size x lo hi mx) K R =
  (elemOk H e (ev t x)=true∧oo (e0i size (ev t x) (lo.map (ev t)) (hi.map (ev t)) (mx.map (ev t))) fun v=>K v H):=by
 simp only [WS,opA]
 cases elemOk H e (ev t x) <;> cases e0i size (ev t x) (lo.map (ev t)) (hi.map (ev t)) (mx.map (ev t)) <;> simp [b0C]
theorem F0K {e:TypeId} {z:List Value}:WS E fl t H (.alloc e z) K R=K (.pointer (some ⟨H.size,0,none⟩)) (H.push (.row false e z)):=nr rfl
theorem P0U {e:TypeId}:WS E fl t H (.box e x) K R=K (.pointer (some ⟨H.size,0,none⟩)) (H.push (.row false e (a0K (ev t x)))):=nr rfl
theorem Q0a {e:TypeId} {z:List Value} {n:Nat} {ps:List (Nat × Nat × Opd)}:WS E fl t H (.lit e z n ps) K R =
  oo (f0H (f0e z n) (b0v t ps)) fun cs=>K (.slice (some ⟨H.size,0,none⟩) n n) (H.push (.row false e cs)):=by
 simp only [WS,opA];cases f0H (f0e z n) (b0v t ps) <;> simp
theorem T0K {e:TypeId} {bytes:Nat} {z:List Value}:WS E fl t H (.mk e bytes z x y) K R =
  oo (mkV bytes (ev t x) (ev t y)) fun p=>K (.slice (some ⟨H.size,0,none⟩) p.1 p.2) (H.push (.row false e (f0e z p.1))):=by
 simp only [WS,opA,mkV];generalize ev t x=v;generalize ev t y=w
 cases v <;> cases w <;> simp
 rename_i k l k' c;by_cases hc:0≤l∧l≤c∧c≤1073741824∧bytes≤1024 <;> simp [hc]
theorem F0O {n:Nat}:WS E fl t H (.store n x y) K R=oo (d0F fl H n (ev t x) (ev t y)) fun H'=>K undef H':=by
 simp only [WS,opA,d0F];generalize ev t x=v;generalize ev t y=w
 cases v <;> simp
 rename_i p;cases p <;> simp
 rename_i q;by_cases hc:q.spot.isSome=true ∨ (a0K w).length ≠ n <;> simp [hc]
 cases H.write? fl _ _ (a0K w) <;> simp
theorem P0T {e:TypeId} {size bytes:Nat}:WS E fl t H (.app e size bytes x y) K R=oo (h0V fl H e size bytes (ev t x) (ev t y)) fun p=>K p.1 p.2:=by
 simp only [WS,opA];cases h0V fl H e size bytes (ev t x) (ev t y) <;> simp [f0B]
theorem M0K {f:FuncId} {as:List Opd} {lone:Bool}:WS E fl t H (.call f as lone) K R=a0P E (if lone then fl else max fl H.size) f (as.map (ev t)) H K R:=nr rfl
theorem v0x {Z:a0W→a0f→Prop}:WR E fl [] t H Z R=Z t H:=nr rfl
theorem o0T {d:Option Nat} {op:SOp} {r:List a0G} {Z:a0W→a0f→Prop}:WR E fl (⟨d,none,op⟩ :: r) t H Z R=WS E fl t H op (fun v H'=>WR E fl r (put t d v) H' Z R) R:=by
 simp [WR,a0X]
/-! simp goes into no continuation. -/
theorem F0J {t t':a0W} {ops:List a0G} {Z:a0W→a0f→Prop} (h:t=t'):WR E fl ops t H Z R=WR E fl ops t' H Z R:=by rw [h]
theorem t0P {fl fl':Nat} {f:FuncId} {as as':List Value} (h:as=as') (hf:fl=fl'):a0P E fl f as H K R=a0P E fl' f as' H K R:=by rw [h,hf]
theorem M0P {c:SCode} {Q:d0V}:W E fl c t H Q R=W E fl c t H Q R:=nr rfl
theorem F0M {op:SOp}:WS E fl t H op K R=WS E fl t H op K R:=nr rfl
theorem G0n {α:Type} {o o':Option α} {K:α→Prop} (h:o=o'):oo o K=oo o' K:=by rw [h]
/-! ### heaps that grow -/
def Ext (H G:a0f):Prop:=H.size≤G.size∧∀ b,b < H.size→G.blk b=H.blk b
theorem Ext.refl (H:a0f):Ext H H:=⟨Nat.le_refl _,fun _ _=>rfl⟩
theorem Ext.trans {H1 H2 H3:a0f} (h:Ext H1 H2) (k:Ext H2 H3):Ext H1 H3:=⟨Nat.le_trans h.1 k.1,fun b hb=>(k.2 b (Nat.lt_of_lt_of_le hb h.1)).trans (h.2 b hb)⟩
theorem f0h.ext (h:f0h H.size H G):Ext H G:=⟨h.size,h.low⟩
theorem a0y {r:Blk}:a0f.blk (H.push r) H.size=r:=by simp [a0B]
theorem d0H {r:Blk} {b:Nat} (h:b < H.size):a0f.blk (H.push r) b=H.blk b:=by rw [a0B,if_neg (by omega)]
theorem a0R {r:Blk} {b:Nat} (h:b < H.size):a0f.blk (H.setIfInBounds b r) b=r:=by
 unfold a0f.blk;simp [Array.getD_eq_getD_getElem?,Array.getElem?_setIfInBounds,h]
theorem b0g {r:Blk} {b c:Nat} (h:b ≠ c):a0f.blk (H.setIfInBounds b r) c=H.blk c:=by
 unfold a0f.blk;simp [Array.getD_eq_getD_getElem?,Array.getElem?_setIfInBounds,h]
theorem Ext.push {r:Blk} (h:Ext H G):Ext H (G.push r):=⟨by have:=h.1;simp;omega,fun b hb=>by rw [d0H (Nat.lt_of_lt_of_le hb h.1)];exact h.2 b hb⟩
theorem Ext.set {r:Blk} {b:Nat} (h:Ext H G) (hb:H.size≤b):Ext H (G.setIfInBounds b r):=⟨by have:=h.1;simpa using this,fun c hc=>by rw [b0g (by omega)];exact h.2 c hc⟩
theorem Ext.le (h:Ext H G):H.size≤G.size:=h.1
theorem Ext.blk {b:Nat} {ro:Bool} {e:TypeId} {cs:List Value} (h:Ext H G) (hb:H.blk b=.row ro e cs):G.blk b=.row ro e cs:=by rw [h.2 b (a0k hb)];exact hb
theorem g0n {b off n:Nat} {ro:Bool} {e:TypeId} {cs:List Value} (h:H.blk b=.row ro e cs) (hn:off + n≤cs.length):H.cells? b off n=some ((cs.drop off).take n):=by
 unfold a0f.cells?;rw [h];simp [hn]
end
/- The rules of AiW as equations, for simp. -/
section
open Go
variable {E:Env} {fl:Nat} {t:a0W} {H:a0f} {Q:d0V} {R:a0A}
theorem l0R {n m k:Nat} {c:SCode} {o:Out} (hn:n≤m) (hk:k≤m) (h:a0U (b0e E n) fl k c t H=o) (ho:o ≠ .bad):a0U (b0e E m) fl m c t H=o:=by
 rw [a0Y (a0E E n m hn) (Nat.le_refl fl) k m c t H hk (by rw [h];exact ho),h]
theorem r0c {a b:SCode}:W E fl (.seq a b) t H Q R=W E fl a t H (h0P (fun t' H'=>W E fl b t' H' Q R) Q) R:=by
 refine propext ⟨fun ⟨n,h⟩=>?_,h0Y⟩
 cases n with
 | zero=>simp only [a0U] at h;exact absurd h id
 | succ m =>
  simp only [a0U] at h
  cases ha:a0U (b0e E (m+1)) fl m a t H with
  | bad=>rw [ha] at h;exact absurd h id
  | pan v=>rw [ha] at h;exact ⟨m + 1,by rw [l0R (Nat.le_refl _) (by omega) ha (by simp)];exact h⟩
  | fin e t' H' =>
   rw [ha] at h
   refine ⟨m + 1,?_⟩
   rw [l0R (Nat.le_refl _) (by omega) ha (by simp)]
   cases e with
   | normal=>exact ⟨m + 1,j0G (Nat.le_refl _) (by omega) h⟩
   | exit i=>exact h
   | ret=>exact h
theorem M0S:W E fl .skip t H Q R=Q .normal t H:=propext ⟨fun ⟨n,h⟩=>by cases n with | zero=>exact absurd h id | succ m=>exact h,v0D⟩
theorem M0R {i:Nat}:W E fl (.exit i) t H Q R=Q (.exit i) t H:=propext ⟨fun ⟨n,h⟩=>by cases n with | zero=>exact absurd h id | succ m=>exact h,v0B⟩
theorem Q0f:W E fl .ret t H Q R=Q .ret t H:=propext ⟨fun ⟨n,h⟩=>by cases n with | zero=>exact absurd h id | succ m=>exact h,T0N⟩
def N0b:Value→Option Bool
 | .bool b=>some b
 | _=>none
@[simp] theorem P0m {b:Bool}:N0b (.bool b)=some b:=nr rfl
theorem M0Q {c:Opd} {a b:SCode}:W E fl (.cond c a b) t H Q R=oo (N0b (ev t c)) fun x=>(x=true→W E fl a t H Q R)∧(x=false→W E fl b t H Q R):=by
 refine propext ⟨fun ⟨n,h⟩=>?_,fun ⟨x,hx,ha,hb⟩=>n0r x (by unfold N0b at hx;split at hx <;> simp_all) ha hb⟩
 cases n with
 | zero=>exact absurd h id
 | succ m =>
  simp only [a0U] at h
  split at h
  ·rename_i hc;refine ⟨true,by rw [hc];rfl,fun _=>⟨m + 1,j0G (Nat.le_refl _) (by omega) h⟩,by simp⟩
  ·rename_i hc;refine ⟨false,by rw [hc];rfl,by simp,fun _=>⟨m + 1,j0G (Nat.le_refl _) (by omega) h⟩⟩
  ·exact absurd h id
theorem F0P {i:Nat} {c:SCode}:W E fl (.block i c) t H Q R=W E fl c t H (f0w i Q) R:=by
 refine propext ⟨fun ⟨n,h⟩=>?_,o0V⟩
 cases n with
 | zero=>exact absurd h id
 | succ m =>
  simp only [a0U] at h
  cases ha:a0U (b0e E (m+1)) fl m c t H with
  | bad=>rw [ha] at h;exact absurd h id
  | pan v=>rw [ha] at h;exact ⟨m + 1,by rw [l0R (Nat.le_refl _) (by omega) ha (by simp)];exact h⟩
  | fin e t' H' =>
   rw [ha] at h
   refine ⟨m + 1,?_⟩
   rw [l0R (Nat.le_refl _) (by omega) ha (by simp)]
   cases e with
   | normal=>exact h
   | ret=>exact h
   | exit j =>
    simp only at h
    show (if j=i then Q .normal t' H' else Q (.exit j) t' H')
    split at h
    ·rename_i hj;rw [if_pos hj];exact h
    ·rename_i hj;rw [if_neg hj];exact h
theorem n0q {op:SOp} {K:k0E} {n:Nat} (h:m0z K R (b0w (b0e E n) fl t H op)):WS E fl t H op K R:=by
 unfold WS
 unfold b0w at h
 cases ho:opA fl t H op with
 | bad=>rw [ho] at h;exact absurd h id
 | pan v=>rw [ho] at h;exact h
 | val v H'=>rw [ho] at h;exact h
 | call f as lone=>rw [ho] at h;exact ⟨n,h⟩
theorem j0r {Z:a0W→a0f→Prop} {n:Nat}:∀ (ops:List a0G) {t:a0W} {H:a0f},i0q (fun _ t' H'=>Z t' H') R (e0C (b0e E n) fl ops t H)→WR E fl ops t H Z R
 | [],t,H,h=>h
 | o :: r,t,H,h=>by
  simp only [WR]
  simp only [e0C] at h
  split at h
  ·rename_i hw
   rw [if_pos hw]
   cases hs:b0w (b0e E n) fl t H o.op with
   | bad=>rw [hs] at h;exact absurd h id
   | pan v=>rw [hs] at h;exact n0q (by rw [hs];exact h)
   | ok x=>rw [hs] at h;exact n0q (n:=n) (by rw [hs];exact j0r r h)
  ·rename_i hw
   rw [if_neg hw];exact j0r r h
theorem Q0e {ops:List a0G}:W E fl (.reg ops) t H Q R=WR E fl ops t H (fun t' H'=>Q .normal t' H') R:=by
 refine propext ⟨fun ⟨n,h⟩=>?_,l0D⟩
 cases n with
 | zero=>exact absurd h id
 | succ m =>
  simp only [a0U] at h
  refine j0r (n:=m + 1) ops ?_
  cases hr:e0C (b0e E (m+1)) fl ops t H with
  | bad=>rw [hr] at h;exact h
  | pan v=>rw [hr] at h;exact h
  | fin e t' H' =>
   rw [hr] at h
   have he:=(regA_keep' ops t H hr)
   subst he;exact h
where
 regA_keep' {c:F0F} {fl:Nat}:∀ (ops:List a0G) (t:a0W) (H:a0f) {e:XA} {t':a0W} {H':a0f},e0C c fl ops t H=.fin e t' H'→e=.normal
  | [],t,H,e,t',H',h=>by simp only [e0C,Out.fin.injEq] at h;exact h.1.symm
  | o :: r,t,H,e,t',H',h=>by
   simp only [e0C] at h
   split at h
   ·split at h
    ·cases h
    ·cases h
    ·exact regA_keep' r _ _ h
   ·exact regA_keep' r _ _ h
@[simp] theorem g0h {k:a0W→a0f→Prop}:h0P k Q .normal t H=k t H:=nr rfl
@[simp] theorem P0I {k:a0W→a0f→Prop} {i:Nat}:h0P k Q (.exit i) t H=Q (.exit i) t H:=nr rfl
@[simp] theorem S0g {k:a0W→a0f→Prop}:h0P k Q .ret t H=Q .ret t H:=nr rfl
@[simp] theorem F0U {i:Nat}:f0w i Q .normal t H=Q .normal t H:=nr rfl
@[simp] theorem M0Y {i j:Nat}:f0w i Q (.exit j) t H=if j=i then Q .normal t H else Q (.exit j) t H:=nr rfl
@[simp] theorem P0l {i:Nat}:f0w i Q .ret t H=Q .ret t H:=nr rfl
end
/- The small code of the program's functions: printed. -/
section
open Go
abbrev o (d:Nat) (x:SOp):a0G:=⟨some d,none,x⟩
abbrev og (d g:Nat) (b:Bool) (x:SOp):a0G:=⟨some d,some (g,b),x⟩
abbrev t (n:Nat):Opd:=.tmp n
abbrev i (n:Int):Opd:=.const (.int .i64 n)
abbrev mV (d s:Nat):a0G:=⟨some d,none,.mv (.tmp s)⟩
abbrev lD (d s:Nat):a0G:=⟨some d,none,.load false 1 (.tmp s)⟩
abbrev lA (d n s:Nat):a0G:=⟨some d,none,.load true n (.tmp s)⟩
abbrev fA (d n s:Nat):a0G:=⟨some d,none,.fa n (.tmp s)⟩
abbrev iA (d n x y:Nat):a0G:=⟨some d,none,.ia n (.tmp x) (.tmp y)⟩
abbrev lN (d s:Nat):a0G:=⟨some d,none,.len (.tmp s)⟩
abbrev cK (d s:Nat):a0G:=⟨some d,none,.chk (.tmp s)⟩
abbrev SS:Type:=List a0G
abbrev SF:Type:=q0Z
abbrev gR:List a0G→SCode:=.reg
abbrev qS:SCode→SCode→SCode:=.seq
abbrev f_6:Nat:=6
abbrev F0D:Nat:=12
abbrev P0p:Nat:=13
abbrev P0q:Nat:=15
abbrev Q0F:Nat:=17
abbrev Q0G:Nat:=20
abbrev Q0H:Nat:=21
abbrev P0r:Nat:=26
abbrev P0s:Nat:=27
abbrev Q0I:Nat:=35
abbrev P0t:Nat:=36
abbrev Q0J:Nat:=37
abbrev P0u:Nat:=39
abbrev Q0K:Nat:=40
abbrev Q0L:Nat:=49
abbrev P0v:Nat:=50
abbrev n0R:Nat:=51
abbrev P0w:Nat:=52
abbrev Q0M:Nat:=53
abbrev N0n:Nat:=54
abbrev Q0N:Nat:=60
abbrev P0x:Nat:=61
abbrev Q0O:Nat:=62
abbrev P0y:Nat:=63
abbrev Q0P:Nat:=76
abbrev Q0Q:Nat:=77
abbrev Q0R:Nat:=78
abbrev Q0S:Nat:=84
abbrev u0y:Nat:=85
abbrev P0z:Nat:=86
abbrev Q0T:Nat:=87
abbrev F0E:Nat:=88
abbrev l0X:Nat:=89
abbrev l0Y:Nat:=90
abbrev G0a:Nat:=91
abbrev P0A:Nat:=92
abbrev Q0U:Nat:=93
abbrev N0o:Nat:=97
abbrev Q0V:Nat:=98
abbrev Q0W:Nat:=99
abbrev u0e:Nat:=107
abbrev v0R:Nat:=108
abbrev v0S:Nat:=109
abbrev v0T:Nat:=110
abbrev l0S:Nat:=111
abbrev u0f:Nat:=112
abbrev u0g:Nat:=116
abbrev p0h:Nat:=117
abbrev l0T:Nat:=118
abbrev f0k:Nat:=119
abbrev d0M:Nat:=120
abbrev f0F:Nat:=121
abbrev v0U:Nat:=122
abbrev n0I:Nat:=123
abbrev u0h:Nat:=124
abbrev f0l:Nat:=125
abbrev i0f:Nat:=126
abbrev j0I:Nat:=127
abbrev n0J:Nat:=131
abbrev u0i:Nat:=132
abbrev n0K:Nat:=133
abbrev v0V:Nat:=135
abbrev u0j:Nat:=136
abbrev u0k:Nat:=137
abbrev V0W:Nat:=138
abbrev l0U:Nat:=139
abbrev v0W:Nat:=140
abbrev u0l:Nat:=141
abbrev u0m:Nat:=142
abbrev v0X:Nat:=143
abbrev u0n:Nat:=144
abbrev v0Y:Nat:=145
abbrev N0j:Nat:=146
abbrev n0L:Nat:=151
abbrev j0J:Nat:=152
abbrev v0Z:Nat:=153
abbrev w0a:Nat:=154
abbrev w0b:Nat:=155
abbrev w0c:Nat:=157
abbrev u0o:Nat:=158
abbrev u0p:Nat:=159
abbrev w0d:Nat:=160
abbrev u0q:Nat:=161
abbrev w0e:Nat:=162
abbrev N0k:Nat:=163
abbrev k0J:Nat:=164
abbrev u0r:Nat:=165
abbrev w0f:Nat:=166
abbrev u0s:Nat:=167
abbrev u0t:Nat:=168
abbrev n0M:Nat:=169
abbrev n0N:Nat:=170
abbrev N0l:Nat:=171
abbrev w0g:Nat:=172
abbrev w0h:Nat:=173
abbrev k0K:Nat:=175
abbrev u0u:Nat:=176
abbrev w0i:Nat:=177
abbrev u0v:Nat:=178
abbrev n0O:Nat:=179
abbrev N0m:Nat:=180
abbrev w0j:Nat:=181
abbrev u0w:Nat:=182
abbrev w0k:Nat:=183
abbrev w0l:Nat:=184
abbrev w0m:Nat:=185
abbrev p0i:Nat:=201
abbrev g0Q:Nat:=202
abbrev n0P:Nat:=203
abbrev f0G:Nat:=204
abbrev g0R:Nat:=205
abbrev l0V:Nat:=206
abbrev w0n:Nat:=207
abbrev p0j:Nat:=208
abbrev g0S:Nat:=209
abbrev n0Q:Nat:=210
abbrev f0m:Nat:=211
abbrev g0T:Nat:=212
abbrev l0W:Nat:=213
abbrev u0x:Nat:=214
abbrev w0o:Nat:=215
abbrev p0k:Nat:=216
abbrev b0N:Nat:=2
abbrev d0z:Nat:=3
abbrev P0Q:Nat:=4
abbrev b0f:Nat:=25
abbrev a0c:Nat:=30
abbrev a0d:Nat:=32
abbrev b0m:Nat:=34
abbrev b0p:Nat:=37
abbrev b0d:Nat:=40
abbrev b0z:Nat:=45
abbrev a0m:Nat:=103
abbrev a0Q:Nat:=123
abbrev a0q:Nat:=125
abbrev a0g:Nat:=131
abbrev a0h:Nat:=145
abbrev a0o:Nat:=146
abbrev a0a:Nat:=150
abbrev a0p:Nat:=163
abbrev a0b:Nat:=167
abbrev b0L:Nat:=169
abbrev e0R:Nat:=208
def R0D:SS:=[o 6 (.mv (.const (.bool false)))]
def R0E:SS:=[mV 20 0,lN 21 20,mV 22 1,lN 23 22,mV 24 2,lN 25 24,o 26 (.mnx false (t 21) [t 23,t 25,i 4]),mV 7 26]
def R0F:SS:=[mV 27 7,o 28 (.call P0r [t 27] true),o 8 (.alloc b0f [.slice none 0 0]),
 ⟨none,none,.store 1 (t 8) (t 28)⟩]
def R0G:SS:=[o 9 (.mv (.const (.slice none 0 0)))]
def R0H:SS:=[o 10 (.mv (.const (.slice none 0 0)))]
def R0I:SS:=[o 11 (.mv (.const (.bool false))),o 12 (.mv (.const (.bool true)))]
def R0J:SS:=[o 13 (.mv (i 0))]
def R0K:SS:=[mV 29 13,mV 30 7,o 31 (.bin 0 .lss (t 29) (t 30))]
def R0L:SS:=[mV 34 0,mV 35 13,iA 36 1 34 35,lD 37 36,o 38 (.conv .i64 (t 37)),mV 39 1,mV 40 13,iA 41 1 39 40,lD 42 41,o 43 (.conv .i64 (t 42)),mV 44 2,mV 45 13,iA 46 1 44 45,lD 47 46,o 48 (.conv .i64 (t 47)),mV 14 38,mV 15 43,mV 16 48]
def R0M:SS:=[mV 49 9,mV 50 15,o 51 (.call F0D [t 50] true),o 52 (.build [.int .i64 0,.bool false,.slice none 0 0,.bool false,.slice none 0 0] [(1,4,t 51)]),mV 53 14,o 54 (.un .neg (t 53)),o 55 (.call F0D [t 54] true),o 56 (.build [.int .i64 0,.bool false,.slice none 0 0,.bool false,.slice none 0 0] [(1,4,t 55)]),o 57 (.lit b0m [.int .i64 0,.bool false,.slice none 0 0,.bool false,.slice none 0 0] 2 [(0,5,t 52),(5,5,t 56)]),o 58 (.app b0m 5 72 (t 49) (t 57)),mV 9 58]
def L0h:SS:=[mV 59 10,mV 60 16,o 61 (.call F0D [t 60] true),o 62 (.lit a0d [.bool false,.slice none 0 0,.bool false,.slice none 0 0] 1 [(0,4,t 61)]),o 63 (.app a0d 4 64 (t 59) (t 62)),mV 10 63]
def E0J:SS:=[mV 64 11,mV 65 64,og 66 65 false (.mv (t 15)),og 67 65 false (.mv (t 14)),og 68 65 false (.bin 0 .lss (t 66) (t 67)),o 69 (.pick (t 65) (.const (.bool true)) (t 68)),mV 11 69]
def L0i:SS:=[mV 70 12,mV 71 70,og 72 71 true (.mv (t 14)),og 73 71 true (.mv (t 16)),og 74 71 true (.bin 0 .leq (t 72) (t 73)),o 75 (.pick (t 71) (t 74) (.const (.bool false))),mV 76 75,og 77 76 true (.mv (t 16)),og 78 76 true (.mv (t 15)),og 79 76 true (.bin 0 .leq (t 77) (t 78)),o 80 (.pick (t 76) (t 79) (.const (.bool false))),mV 12 80]
def L0j:SS:=[mV 32 13,o 33 (.bin 0 .add (t 32) (i 1)),mV 13 33]
def L0k:SS:=[lA 82 1 8,mV 83 7,mV 84 9,o 85 (.call P0p [t 82,t 83,t 84] true),mV 81 85,o 86 (.ext (t 81) 0),o 87 (.ext (t 81) 1),o 88 (.ext (t 81) 2),o 18 (.alloc b0d [.int .i64 0,.bool false,.slice none 0 0,.bool false,.slice none 0 0,.slice none 0 0,.slice none 0 0,.slice none 0 0]),mV 17 86,
 ⟨none,none,.store 8 (t 18) (t 87)⟩,mV 19 88]
def L0l:SS:=[mV 89 19,o 90 (.call P0q [t 89] true),o 91 (.bin 0 .eql (t 90) (i 0)),mV 92 91,og 93 92 true (.mv (t 17)),og 94 92 true (.mv (t 11)),og 95 92 true (.bin 1 .eql (t 93) (t 94)),o 96 (.pick (t 92) (t 95) (.const (.bool false))),mV 97 96,og 98 97 true (.load true 1 (t 8)),og 99 97 true (.mv (t 9)),og 100 97 true (.mv (t 10)),og 101 97 true (.call Q0H [t 98,t 99,t 100] true),og 102 97 true (.mv (t 12)),og 103 97 true (.bin 1 .eql (t 101) (t 102)),o 104 (.pick (t 97) (t 103) (.const (.bool false))),mV 105 104,og 106 105 true (.call Q0F [] true),o 107 (.pick (t 105) (t 106) (.const (.bool false))),mV 6 107]
def s_6:SF:=⟨3,108,[.tmp 6],
 (qS (gR R0D) (qS (gR R0E) (qS (gR R0F) (qS (gR R0G) (qS (gR R0H) (qS (gR R0I) (qS (qS (gR R0J) (.block 0 (.loop (qS (qS (gR R0K) (.cond (t 31) .skip (.exit 0))) (qS (.block 1 (qS (.draw R0L [0,0,3,7,15,0,0,96,224,480,0,0,3072,7168,15360,31,33791,131071] []) (qS (gR R0M) (qS (gR L0h) (qS (gR E0J) (gR L0i)))))) (gR L0j)))))) (qS (gR L0k) (qS (gR L0l) .ret)))))))))⟩
def J0t:SS:=[o 2 (.alloc a0d [.bool false,.slice none 0 0,.bool false,.slice none 0 0])]
def J0u:SS:=[mV 3 0,o 4 (.call P0u [t 3] true),o 5 (.call P0u [i 1] true),o 6 (.build [.bool false,.slice none 0 0,.bool false,.slice none 0 0] [(0,2,t 4),(2,2,t 5)]),
 ⟨none,none,.store 4 (t 2) (t 6)⟩]
def S0Q:SF:=⟨1,7,[.cell 2 true 4],
 (qS (gR J0t) (qS (gR J0u) .ret))⟩
def J0v:SS:=[o 3 (.box b0f (t 0)),o 6 (.mv (.const (.bool false))),o 7 (.alloc b0d [.int .i64 0,.bool false,.slice none 0 0,.bool false,.slice none 0 0,.slice none 0 0,.slice none 0 0,.slice none 0 0]),o 8 (.mv (i 0))]
def J0w:SS:=[lA 14 1 3,mV 15 1,mV 16 2,o 17 (.call P0s [t 14,t 15,t 16] true),o 18 (.un .not (t 17))]
def J0x:SS:=[o 19 (.build [.int .i64 0,.bool false,.slice none 0 0,.bool false,.slice none 0 0,.slice none 0 0,.slice none 0 0,.slice none 0 0] []),o 6 (.mv (.const (.bool false))),
 ⟨none,none,.store 8 (t 7) (t 19)⟩,o 8 (.mv (i 1))]
def J0y:SS:=[lA 21 1 3,mV 22 1,mV 23 2,o 24 (.call Q0G [t 21,t 22,t 23] true),mV 20 24,o 25 (.ext (t 20) 0),o 26 (.ext (t 20) 1),o 9 (.alloc b0z [.int .i64 0,.slice none 0 0,.slice none 0 0,.slice none 0 0]),
 ⟨none,none,.store 4 (t 9) (t 25)⟩,mV 10 26]
def z0J:SS:=[mV 27 10,o 28 (.un .not (t 27))]
def J0z:SS:=[o 29 (.build [.int .i64 0,.bool false,.slice none 0 0,.bool false,.slice none 0 0,.slice none 0 0,.slice none 0 0,.slice none 0 0] []),o 6 (.mv (.const (.bool true))),
 ⟨none,none,.store 8 (t 7) (t 29)⟩,o 8 (.mv (i 0))]
def J0A:SS:=[lA 31 4 9,o 32 (.call Q0K [t 31] true),mV 30 32,o 33 (.ext (t 30) 0),o 34 (.ext (t 30) 1),o 35 (.ext (t 30) 2),o 11 (.alloc b0d [.int .i64 0,.bool false,.slice none 0 0,.bool false,.slice none 0 0,.slice none 0 0,.slice none 0 0,.slice none 0 0]),
 ⟨none,none,.store 8 (t 11) (t 33)⟩,mV 12 34,mV 13 35]
def J0B:SS:=[fA 36 0 11,lD 37 36,o 38 (.bin 0 .eql (t 37) (i 2)),lA 39 8 11,mV 40 13,mV 6 38,
 ⟨none,none,.store 8 (t 7) (t 39)⟩,mV 8 40]
def S0R:SF:=⟨3,41,[.tmp 6,.cell 7 true 8,.tmp 8],
 (qS (gR J0v) (qS (qS (gR J0w) (.cond (t 18) (qS (gR J0x) .ret) .skip)) (qS (gR J0y) (qS (qS (gR z0J) (.cond (t 28) (qS (gR J0z) .ret) .skip)) (qS (gR J0A) (qS (.draw J0B [0,1,3,0,0,7,47,127] []) .ret))))))⟩
def J0C:SS:=[o 2 (.mv (i 0))]
def J0D:SS:=[mV 3 0,mV 2 3]
def S0S:SF:=⟨1,4,[.tmp 2],
 (qS (gR J0C) (qS (gR J0D) .ret))⟩
def J0E:SS:=[o 0 (.mv (.const (.bool false)))]
def J0F:SS:=[o 5 (.call P0r [i 1] true),o 6 (.call F0D [i 3] true),o 7 (.build [.int .i64 0,.bool false,.slice none 0 0,.bool false,.slice none 0 0] [(1,4,t 6)]),o 8 (.call F0D [(.const (.int .i64 (-4)))] true),o 9 (.build [.int .i64 0,.bool false,.slice none 0 0,.bool false,.slice none 0 0] [(1,4,t 8)]),o 10 (.lit b0m [.int .i64 0,.bool false,.slice none 0 0,.bool false,.slice none 0 0] 2 [(0,5,t 7),(5,5,t 9)]),o 11 (.call P0p [t 5,i 1,t 10] true),mV 4 11,o 12 (.ext (t 4) 0),o 13 (.ext (t 4) 1),o 14 (.ext (t 4) 2),o 2 (.alloc b0d [.int .i64 0,.bool false,.slice none 0 0,.bool false,.slice none 0 0,.slice none 0 0,.slice none 0 0,.slice none 0 0]),mV 1 12,
 ⟨none,none,.store 8 (t 2) (t 13)⟩,mV 3 14]
def J0G:SS:=[mV 15 1,mV 16 15,og 17 16 true (.fa 0 (t 2)),og 18 16 true (.load false 1 (t 17)),og 19 16 true (.bin 0 .eql (t 18) (i 2)),o 20 (.pick (t 16) (t 19) (.const (.bool false))),mV 21 20,og 22 21 true (.mv (t 3)),og 23 21 true (.call P0q [t 22] true),og 24 21 true (.bin 0 .eql (t 23) (i 0)),o 25 (.pick (t 21) (t 24) (.const (.bool false))),mV 0 25]
def S0T:SF:=⟨0,26,[.tmp 0],
 (qS (gR J0E) (qS (gR J0F) (qS (gR J0G) .ret)))⟩
def J0H:SS:=[o 3 (.box b0f (t 0)),o 6 (.alloc b0z [.int .i64 0,.slice none 0 0,.slice none 0 0,.slice none 0 0]),o 7 (.mv (.const (.bool false)))]
def J0I:SS:=[lA 11 1 3,mV 12 1,mV 13 2,o 14 (.call P0s [t 11,t 12,t 13] true),o 15 (.un .not (t 14)),mV 16 15,og 17 16 false (.mv (t 2)),og 18 16 false (.call Q0L [t 17] true),o 19 (.pick (t 16) (.const (.bool true)) (t 18))]
def D0Q:SS:=[o 20 (.build [.int .i64 0,.slice none 0 0,.slice none 0 0,.slice none 0 0] []),
 ⟨none,none,.store 4 (t 6) (t 20)⟩,o 7 (.mv (.const (.bool false)))]
def J0J:SS:=[mV 21 1,mV 22 1,o 23 (.mk a0d 64 [.bool false,.slice none 0 0,.bool false,.slice none 0 0] (t 22) (t 22)),o 24 (.call P0v [t 23] true),o 25 (.build [.int .i64 0,.slice none 0 0,.slice none 0 0,.slice none 0 0] [(0,1,t 21),(3,1,t 24)]),o 8 (.alloc b0z [.int .i64 0,.slice none 0 0,.slice none 0 0,.slice none 0 0]),
 ⟨none,none,.store 4 (t 8) (t 25)⟩]
def J0K:SS:=[mV 26 2,lN 27 26,o 28 (.mv (i 0))]
def R0s:SS:=[o 29 (.bin 0 .lss (t 28) (t 27))]
def J0L:SS:=[mV 30 28,iA 31 5 26 28,lA 32 5 31,o 10 (.alloc b0m [.int .i64 0,.bool false,.slice none 0 0,.bool false,.slice none 0 0]),mV 9 30,
 ⟨none,none,.store 5 (t 10) (t 32)⟩]
def D0R:SS:=[fA 33 0 10,lD 34 33,o 35 (.bin 0 .eql (t 34) (i 0))]
def J0M:SS:=[fA 36 1 8,lD 37 36,fA 38 0 3,lD 39 38,mV 40 9,iA 41 1 39 40,lD 42 41,o 43 (.call P0v [t 42] false),o 44 (.lit b0p [.slice none 0 0] 1 [(0,1,t 43)]),o 45 (.app b0p 1 24 (t 37) (t 44)),fA 46 2 8,lD 47 46,fA 48 1 10,lA 49 4 48,o 50 (.build [.bool false,.slice none 0 0,.bool false,.slice none 0 0] []),o 51 (.call n0R [t 49,t 50] false),o 52 (.lit a0d [.bool false,.slice none 0 0,.bool false,.slice none 0 0] 1 [(0,4,t 51)]),o 53 (.app a0d 4 64 (t 47) (t 52)),fA 54 1 8,
 ⟨none,none,.store 1 (t 54) (t 45)⟩,fA 55 2 8,
 ⟨none,none,.store 1 (t 55) (t 53)⟩]
def R0t:SS:=[o 56 (.bin 0 .add (t 28) (i 1)),mV 28 56]
def D0P:SS:=[lA 57 4 8,
 ⟨none,none,.store 4 (t 6) (t 57)⟩,o 7 (.mv (.const (.bool true)))]
def S0U:SF:=⟨3,58,[.cell 6 true 4,.tmp 7],
 (qS (gR J0H) (qS (qS (gR J0I) (.cond (t 19) (qS (gR D0Q) .ret) .skip)) (qS (gR J0J) (qS (qS (gR J0K) (.block 0 (.loop (qS (gR R0s) (qS (.cond (t 29) .skip (.exit 0)) (qS (.block 1 (qS (gR J0L) (qS (gR D0R) (.cond (t 35) (.draw J0M [0,1,0,4,0,28,60,124,252,511,0,1024,0,4096,0,29695,62463,131071,4095,524287,1048575,2097151] [(9,11),(9,13)]) .skip)))) (gR R0t))))))) (qS (gR D0P) .ret)))))⟩
def J0N:SS:=[o 3 (.box b0f (t 0)),o 6 (.mv (.const (.bool false)))]
def E0n:SS:=[mV 11 1,lN 12 11,fA 13 0 3,lD 14 13,lN 15 14,o 16 (.bin 0 .neq (t 12) (t 15))]
def J0O:SS:=[o 6 (.mv (.const (.bool false)))]
def J0P:SS:=[fA 17 0 3,lD 18 17,lN 19 18,o 20 (.mv (i 0))]
def R0u:SS:=[o 21 (.bin 0 .lss (t 20) (t 19))]
def E0p:SS:=[mV 22 20,iA 23 1 18 20,lD 24 23,mV 7 22,mV 8 24]
def E0q:SS:=[mV 26 8,mV 27 2,o 28 (.call P0w [t 26,t 27] true),mV 25 28,o 29 (.ext (t 25) 0),o 30 (.ext (t 25) 1),o 9 (.alloc a0d [.bool false,.slice none 0 0,.bool false,.slice none 0 0]),
 ⟨none,none,.store 4 (t 9) (t 29)⟩,mV 10 30]
def E0r:SS:=[mV 31 10,o 32 (.bin 0 .neq (t 31) (i 0)),mV 33 32,og 34 33 false (.load true 4 (t 9)),og 35 33 false (.call N0n [t 34] false),og 36 33 false (.mv (t 1)),og 37 33 false (.mv (t 7)),og 38 33 false (.ia 5 (t 36) (t 37)),og 39 33 false (.load true 5 (t 38)),og 40 33 false (.call Q0M [t 35,t 39] true),og 41 33 false (.bin 0 .gtr (t 40) (i 0)),o 42 (.pick (t 33) (.const (.bool true)) (t 41))]
def E0s:SS:=[o 6 (.mv (.const (.bool false)))]
def R0v:SS:=[o 43 (.bin 0 .add (t 20) (i 1)),mV 20 43]
def E0o:SS:=[o 6 (.mv (.const (.bool true)))]
def S0V:SF:=⟨3,44,[.tmp 6],
 (qS (gR J0N) (qS (qS (gR E0n) (.cond (t 16) (qS (gR J0O) .ret) .skip)) (qS (qS (gR J0P) (.block 0 (.loop (qS (gR R0u) (qS (.cond (t 21) .skip (.exit 0)) (qS (.block 1 (qS (gR E0p) (qS (gR E0q) (qS (.draw E0r [0,1,3,7,15,7,7,103,231,511,1023,2047] []) (.cond (t 42) (qS (gR E0s) .ret) .skip))))) (gR R0v))))))) (qS (gR E0o) .ret))))⟩
def J0Q:SS:=[o 2 (.alloc b0f [.slice none 0 0])]
def J0R:SS:=[mV 5 0,o 6 (.call Q0I [t 5] true),mV 0 6]
def J0S:SS:=[o 3 (.mv (.const (.slice none 0 0)))]
def J0T:SS:=[o 4 (.mv (i 0))]
def J0U:SS:=[mV 7 4,mV 8 0,o 9 (.bin 0 .lss (t 7) (t 8))]
def J0V:SS:=[mV 12 3,mV 13 0,mV 14 4,o 15 (.call P0t [t 13,t 14,i 1,(.const (.int .i64 (-1))),i 0] true),mV 16 0,mV 17 4,o 18 (.call P0t [t 16,t 17,(.const (.int .i64 (-1))),(.const (.int .i64 (-1))),i 0] true),o 19 (.lit b0p [.slice none 0 0] 2 [(0,1,t 15),(1,1,t 18)]),o 20 (.app b0p 1 24 (t 12) (t 19)),mV 3 20]
def J0W:SS:=[mV 10 4,o 11 (.bin 0 .add (t 10) (i 1)),mV 4 11]
def J0X:SS:=[mV 21 3,o 22 (.call Q0J [t 21] true),
 ⟨none,none,.store 1 (t 2) (t 22)⟩]
def S0W:SF:=⟨1,23,[.cell 2 true 1],
 (qS (gR J0Q) (qS (gR J0R) (qS (gR J0S) (qS (qS (gR J0T) (.block 0 (.loop (qS (qS (gR J0U) (.cond (t 9) .skip (.exit 0))) (qS (.block 1 (gR J0V)) (gR J0W)))))) (qS (gR J0X) .ret)))))⟩
def J0Y:SS:=[o 3 (.box b0f (t 0)),o 6 (.mv (.const (.bool false)))]
def J0Z:SS:=[lA 7 1 3,mV 8 1,o 9 (.call Q0N [t 7,t 8] true),mV 10 9,og 11 10 true (.mv (t 2)),og 12 10 true (.len (t 11)),og 13 10 true (.fa 0 (t 3)),og 14 10 true (.load false 1 (t 13)),og 15 10 true (.len (t 14)),og 16 10 true (.bin 0 .eql (t 12) (t 15)),o 17 (.pick (t 10) (t 16) (.const (.bool false))),mV 18 17,og 19 18 true (.mv (t 2)),og 20 18 true (.call P0x [t 19,.fn Q0O] true),og 21 18 true (.un .not (t 20)),o 22 (.pick (t 18) (t 21) (.const (.bool false))),mV 6 22]
def S0X:SF:=⟨3,23,[.tmp 6],
 (qS (gR J0Y) (qS (gR J0Z) .ret))⟩
def K0a:SS:=[o 2 (.mv (i 0))]
def K0b:SS:=[mV 3 0,o 4 (.mnx false (t 3) [i 6]),o 5 (.mnx true (i 0) [t 4]),mV 2 5]
def S0Y:SF:=⟨1,6,[.tmp 2],
 (qS (gR K0a) (qS (gR K0b) .ret))⟩
def K0c:SS:=[o 10 (.mv (.const (.slice none 0 0)))]
def K0d:SS:=[o 11 (.mv (.const (.slice none 0 0)))]
def K0e:SS:=[o 12 (.mv (i 0))]
def K0f:SS:=[mV 14 12,mV 15 0,o 16 (.bin 0 .lss (t 14) (t 15))]
def K0g:SS:=[o 13 (.mv (i 0))]
def K0h:SS:=[mV 19 12,mV 20 1,o 21 (.bin 0 .eql (t 19) (t 20))]
def K0i:SS:=[mV 22 2,mV 13 22]
def K0j:SS:=[mV 23 12,mV 24 3,o 25 (.bin 0 .eql (t 23) (t 24))]
def K0k:SS:=[mV 26 4,mV 13 26]
def K0l:SS:=[mV 27 11,mV 28 13,o 29 (.call F0D [t 28] true),o 30 (.lit a0d [.bool false,.slice none 0 0,.bool false,.slice none 0 0] 1 [(0,4,t 29)]),o 31 (.app a0d 4 64 (t 27) (t 30)),mV 11 31]
def E0t:SS:=[mV 17 12,o 18 (.bin 0 .add (t 17) (i 1)),mV 12 18]
def E0u:SS:=[mV 32 11,mV 10 32]
def S0Z:SF:=⟨5,33,[.tmp 10],
 (qS (gR K0c) (qS (gR K0d) (qS (qS (gR K0e) (.block 0 (.loop (qS (qS (gR K0f) (.cond (t 16) .skip (.exit 0))) (qS (.block 1 (qS (gR K0g) (qS (qS (gR K0h) (.cond (t 21) (gR K0i) .skip)) (qS (qS (gR K0j) (.cond (t 25) (gR K0k) .skip)) (gR K0l))))) (gR E0t)))))) (qS (gR E0u) .ret))))⟩
def K0m:SS:=[o 2 (.alloc b0f [.slice none 0 0])]
def K0n:SS:=[mV 3 0,mV 4 0,lN 5 4,o 6 (.mnx false (t 5) [i 40]),o 7 (.sl b0p 1 (t 3) none (some (t 6)) none),o 8 (.build [.slice none 0 0] [(0,1,t 7)]),
 ⟨none,none,.store 1 (t 2) (t 8)⟩]
def T0a:SF:=⟨1,9,[.cell 2 true 1],
 (qS (gR K0m) (qS (gR K0n) .ret))⟩
def K0o:SS:=[o 2 (.alloc a0c [.bool false,.slice none 0 0])]
def E0v:SS:=[mV 4 0,o 5 (.conv .u64 (t 4)),mV 3 5]
def E0w:SS:=[mV 6 0,o 7 (.bin 0 .lss (t 6) (i 0))]
def K0p:SS:=[mV 8 3,o 9 (.un .neg (t 8)),mV 3 9]
def E0x:SS:=[mV 10 0,o 11 (.bin 0 .lss (t 10) (i 0)),mV 12 3,o 13 (.conv .u32 (t 12)),mV 14 3,o 15 (.bin 0 .shr (t 14) (.const (.int .u64 32))),o 16 (.conv .u32 (t 15)),o 17 (.lit a0m [.int .u32 0] 2 [(0,1,t 13),(1,1,t 16)]),o 18 (.call Q0P [t 11,t 17] true),
 ⟨none,none,.store 2 (t 2) (t 18)⟩]
def T0b:SF:=⟨1,19,[.cell 2 true 2],
 (qS (gR K0o) (qS (gR E0v) (qS (qS (gR E0w) (.cond (t 7) (gR K0p) .skip)) (qS (gR E0x) .ret))))⟩
def K0q:SS:=[o 1 (.box b0z (t 0)),o 2 (.alloc b0d [.int .i64 0,.bool false,.slice none 0 0,.bool false,.slice none 0 0,.slice none 0 0,.slice none 0 0,.slice none 0 0]),o 3 (.mv (i 0)),o 4 (.mv (i 0))]
def K0r:SS:=[lA 7 4 1,o 8 (.call Q0Q [t 7] true),o 9 (.un .not (t 8))]
def R0w:SS:=[o 10 (.build [.int .i64 0,.bool false,.slice none 0 0,.bool false,.slice none 0 0,.slice none 0 0,.slice none 0 0,.slice none 0 0] []),
 ⟨none,none,.store 8 (t 2) (t 10)⟩,o 3 (.mv (i 0)),o 4 (.mv (i 1))]
def K0s:SS:=[lA 12 4 1,o 13 (.call Q0R [t 12] true),mV 11 13,o 14 (.ext (t 11) 0),o 15 (.ext (t 11) 1),o 5 (.alloc b0d [.int .i64 0,.bool false,.slice none 0 0,.bool false,.slice none 0 0,.slice none 0 0,.slice none 0 0,.slice none 0 0]),
 ⟨none,none,.store 8 (t 5) (t 14)⟩,mV 6 15]
def K0t:SS:=[lA 16 8 5,mV 17 6,
 ⟨none,none,.store 8 (t 2) (t 16)⟩,mV 3 17,o 4 (.mv (i 0))]
def T0c:SF:=⟨1,18,[.cell 2 true 8,.tmp 3,.tmp 4],
 (qS (gR K0q) (qS (qS (gR K0r) (.cond (t 9) (qS (gR R0w) .ret) .skip)) (qS (gR K0s) (qS (gR K0t) .ret))))⟩
def K0u:SS:=[o 2 (.mv (.const (.bool false)))]
def K0v:SS:=[mV 3 0,o 4 (.call P0x [t 3,.fn Q0S] true),mV 2 4]
def T0d:SF:=⟨1,5,[.tmp 2],
 (qS (gR K0u) (qS (gR K0v) .ret))⟩
def K0w:SS:=[o 2 (.mv (.const (.slice none 0 0)))]
def K0x:SS:=[o 3 (.mv (.const (.slice none 0 0)))]
def K0y:SS:=[mV 6 0,lN 7 6,o 8 (.mv (i 0))]
def R0x:SS:=[o 9 (.bin 0 .lss (t 8) (t 7))]
def K0z:SS:=[iA 10 4 6 8,lA 11 4 10,o 5 (.alloc a0d [.bool false,.slice none 0 0,.bool false,.slice none 0 0]),
 ⟨none,none,.store 4 (t 5) (t 11)⟩]
def K0A:SS:=[mV 12 3,lA 13 4 5,o 14 (.build [.bool false,.slice none 0 0,.bool false,.slice none 0 0] []),o 15 (.call n0R [t 13,t 14] true),o 16 (.lit a0d [.bool false,.slice none 0 0,.bool false,.slice none 0 0] 1 [(0,4,t 15)]),o 17 (.app a0d 4 64 (t 12) (t 16)),mV 3 17]
def R0y:SS:=[o 18 (.bin 0 .add (t 8) (i 1)),mV 8 18]
def K0B:SS:=[mV 19 3,mV 2 19]
def T0e:SF:=⟨1,20,[.tmp 2],
 (qS (gR K0w) (qS (gR K0x) (qS (qS (gR K0y) (.block 0 (.loop (qS (gR R0x) (qS (.cond (t 9) .skip (.exit 0)) (qS (.block 1 (qS (gR K0z) (gR K0A))) (gR R0y))))))) (qS (gR K0B) .ret))))⟩
def K0C:SS:=[o 2 (.box a0d (t 0)),o 3 (.box a0d (t 1)),o 4 (.alloc a0d [.bool false,.slice none 0 0,.bool false,.slice none 0 0])]
def K0D:SS:=[lA 5 4 2,o 6 (.call u0y [t 5] false),lA 7 4 3,o 8 (.call u0y [t 7] true),
 ⟨none,none,.store 4 (t 2) (t 6)⟩,
 ⟨none,none,.store 4 (t 3) (t 8)⟩]
def K0E:SS:=[fA 9 0 2,lA 10 2 9,fA 11 2 3,lA 12 2 11,o 13 (.call l0X [t 10,t 12] false),fA 14 0 3,lA 15 2 14,fA 16 2 2,lA 17 2 16,o 18 (.call l0X [t 15,t 17] false),o 19 (.lit a0c [.bool false,.slice none 0 0] 1 [(0,2,t 18)]),o 20 (.call Q0T [.fn F0E,t 13,t 19] false),fA 21 2 2,lA 22 2 21,fA 23 2 3,lA 24 2 23,o 25 (.call l0X [t 22,t 24] true),o 26 (.call P0z [t 20,t 25] true),
 ⟨none,none,.store 4 (t 4) (t 26)⟩]
def T0f:SF:=⟨2,27,[.cell 4 true 4],
 (qS (gR K0C) (qS (.draw K0D [0,1,0,7,15,31] []) (qS (.draw K0E [0,1,0,4,15,0,32,0,128,511,1023,2047,0,4096,0,16384,65535,131071,262143] []) .ret)))⟩
end
end Go.Proofs.YtjlohmnnldbjoaaGreat.AI
