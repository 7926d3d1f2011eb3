/- Part 3 of the proof. -/
import Derived.Recover
import Derived.Deep.Slices
import Derived.ProofKit
import Derived.OpenShut
import Derived.Test.YtacninhfdfhgjaaGreatM01
set_option linter.unusedVariables false
set_option linter.unusedSimpArgs false
set_option linter.unusedSectionVars false
namespace Go.Proofs.YtacninhfdfhgjaaGreat.AI
section
open Go
variable {X:Cx} {φ φ' ψ:Inj} {S S':Shp} {H H' H1:a0c} {w w':World} {fl:Nat} {t t':a0Q} {a:Act} {so:SOp} {lone:Bool} {op:Op}
theorem g0E (h:∀ x ∈ a0j so,ev t x=ev t' x):opA fl t H so=opA fl t' H so:=by
 have lst:∀ {xs:List Opd},(∀ x ∈ xs,x ∈ a0j so)→xs.map (ev t)=xs.map (ev t'):=fun hx=>List.map_congr_left (fun x hm=>h x (hx x hm))
 have opt:∀ {x:Option Opd},(∀ y,x=some y→y ∈ a0j so)→x.map (ev t)=x.map (ev t'):=fun {x} hx=>by cases x with | none=>rfl | some y=>simp [h y (hx y rfl)]
 have parts:∀ {ps:List (Nat × Nat × Opd)},(∀ p ∈ ps,p.2.2 ∈ a0j so)→b0a t ps=b0a t' ps:=fun hp=>List.map_congr_left (fun p hm=>by rw [h _ (hp p hm)])
 cases so <;> simp only [opA]
 case build z ps=>rw [parts (fun p hm=>by simp only [a0j,List.mem_map];exact ⟨p,hm,rfl⟩)]
 case lit e z n ps=>rw [parts (fun p hm=>by simp only [a0j,List.mem_map];exact ⟨p,hm,rfl⟩)]
 case mkfn f xs ys=>rw [lst (xs:=xs) (fun x hm=>by simp [a0j,hm]),lst (xs:=ys) (fun x hm=>by simp [a0j,hm])]
 case sl e size x lo hi mx=>rw [h x (by simp [a0j]),opt (x:=lo) (fun y e=>by simp [a0j,e]),opt (x:=hi) (fun y e=>by simp [a0j,e]),opt (x:=mx) (fun y e=>by simp [a0j,e])]
 case call f xs l=>rw [lst (xs:=xs) (fun x hm=>by simp [a0j,hm])]
 case callv x xs l=>rw [h x (by simp [a0j]),lst (xs:=xs) (fun x hm=>by simp [a0j,hm])]
 case inv x tb xs l=>rw [h x (by simp [a0j]),lst (xs:=xs) (fun x hm=>by simp [a0j,hm])]
 case mnx b x xs=>rw [h x (by simp [a0j]),lst (xs:=xs) (fun x hm=>by simp [a0j,hm])]
 case pick c x y=>rw [h c (by simp [a0j]),h x (by simp [a0j]),h y (by simp [a0j])]
 case store n x y=>rw [h x (by simp [a0j]),h y (by simp [a0j])]
 case bin tg b x y=>rw [h x (by simp [a0j]),h y (by simp [a0j])]
 case appz e b z x y=>rw [h x (by simp [a0j]),h y (by simp [a0j])]
 case look z x y=>rw [h x (by simp [a0j]),h y (by simp [a0j])]
 case mk e b z x y=>rw [h x (by simp [a0j]),h y (by simp [a0j])]
 case ia n x y=>rw [h x (by simp [a0j]),h y (by simp [a0j])]
 case app e n b x y=>rw [h x (by simp [a0j]),h y (by simp [a0j])]
 case mv x=>rw [h x (by simp [a0j])]
 case box e x=>rw [h x (by simp [a0j])]
 case load g n x=>rw [h x (by simp [a0j])]
 case chk x=>rw [h x (by simp [a0j])]
 case un u x=>rw [h x (by simp [a0j])]
 case conv k x=>rw [h x (by simp [a0j])]
 case iface ty x=>rw [h x (by simp [a0j])]
 case fa o x=>rw [h x (by simp [a0j])]
 case fa0 e x=>rw [h x (by simp [a0j])]
 case fld g o n x=>rw [h x (by simp [a0j])]
 case ext x i=>rw [h x (by simp [a0j])]
 case len x=>rw [h x (by simp [a0j])]
 case cap x=>rw [h x (by simp [a0j])]
 case pan x=>rw [h x (by simp [a0j])]
theorem n0W (h:∀ x ∈ a0j so,ev t x=ev t' x):c0z t so=c0z t' so:=by
 cases so <;> simp only [c0z]
 case store n x y=>rw [h x (by simp [a0j])]
 case app e n b x y=>rw [h x (by simp [a0j]),h y (by simp [a0j])]
 case load g n x=>rw [h x (by simp [a0j])]
 case fa0 e x=>rw [h x (by simp [a0j])]
 case sl e size x lo hi mx=>rw [h x (by simp [a0j])]
 case look z x y=>rw [h x (by simp [a0j])]
theorem k0d {b:Nat} (h:b ∈ (c0z t so).2):way so=2:=by cases so <;> simp [c0z] at h <;> rfl
theorem p0V {b:Nat} (h:b ∈ (c0z t so).1):way so=1 ∨ way so=2:=by cases so <;> simp [c0z] at h <;> simp [way]
def b0L:SOp→Bool
 | .call _ _ b | .callv _ _ b | .inv _ _ _ b=>b
 | _=>false
theorem d0D {f:FuncId} {args:List Value} {l:Bool} (h:opA fl t H so=.call f args l):way so=3∧b0L so=l:=by
 have hc:=i0O h
 cases so <;> simp only [i0H,R0p] at hc
 case call=>simp [opA] at h;simp [way,b0L,h.2.2]
 case callv=>simp only [opA] at h;split at h <;> simp at h;simp [way,b0L,h.2.2]
 case inv =>
  simp only [opA] at h
  split at h
  ·split at h <;> simp at h;simp [way,b0L,h.2.2]
  ·cases h
theorem v0S {v:Value} (hw:way so=0) (h:opA fl t H so=.val v H1):H1=H:=by
 have ht:=k0D h
 cases so <;> simp only [way] at hw <;> first | (exact R0q hw (by decide)) | skip
 all_goals
  simp only [opA] at h
  first
   | (cases h;done)
   | (simp at h;exact h.2.symm)
   | (unfold b0b at h;split at h <;> simp at h;exact h.2.symm)
   | (split at h <;> first | (simp at h;exact h.2.symm) | (cases h;done) | (split at h <;> first | (simp at h;exact h.2.symm) | (cases h;done)) | (unfold b0b at h;split at h <;> simp at h;exact h.2.symm))
theorem l0G (hc:cOp X.P lone op=some so):(way so ≠ 0→i0c op ≠ 0)∧(b0L so=true→lone=true):=by
 cases op
 case makeMap ty r =>
  cases r with
  | none=>simp only [cOp,Q0V] at hc;subst hc;exact ⟨fun _=>by simp [i0c],fun h=>by simp [b0L] at h⟩
  | some x=>simp [cOp] at hc
 case mapUpdate=>simp only [cOp,Q0V] at hc;subst hc;exact ⟨fun h=>by simp [way] at h,fun h=>by simp [b0L] at h⟩
 case lookup ty x i ok =>
  cases ok with
  | true=>simp [cOp] at hc
  | false =>
   simp only [cOp] at hc
   split at hc
   ·split at hc
    ·split at hc
     ·split at hc
      ·simp only [Q0X,Q0U,Q0Y,Q0V] at hc
       obtain ⟨_,_,_,_,rfl⟩:=hc
       exact ⟨fun _=>by simp [i0c],fun h=>by simp [b0L] at h⟩
      ·cases hc
     ·cases hc
    ·cases hc
   ·cases hc
 case call c =>
  obtain ⟨callee,args,ats⟩:=c
  cases callee with
  | value f =>
   refine ⟨fun _=>by simp [i0c],fun hl=>?_⟩
   cases f <;> simp only [cOp] at hc
   case func f =>
    split at hc
    ·simp only [Q0X,Q0U,Q0Y,Q0V] at hc
     obtain ⟨_,_,rfl⟩:=hc;exact hl
    ·cases hc
   all_goals
    simp only [Q0X,Q0U,Q0Y,Q0V] at hc
    obtain ⟨_,_,_,_,rfl⟩:=hc;exact hl
  | invoke r n =>
   refine ⟨fun _=>by simp [i0c],fun hl=>?_⟩
   simp only [cOp,Q0X,Q0U,Q0Y,Q0V] at hc
   obtain ⟨_,_,_,_,rfl⟩:=hc;exact hl
  | builtin b =>
   simp only [cOp] at hc
   split at hc
   ·simp only [Q0X,Q0U,Q0Y,Q0V] at hc
    obtain ⟨_,_,_,_,rfl⟩:=hc
    exact ⟨fun h=>by simp [way] at h,fun h=>by simp [b0L] at h⟩
   ·simp only [Q0X,Q0U,Q0Y,Q0V] at hc
    obtain ⟨_,_,_,_,rfl⟩:=hc
    exact ⟨fun h=>by simp [way] at h,fun h=>by simp [b0L] at h⟩
   ·simp only [Q0X,Q0U,Q0Y,Q0V] at hc
    obtain ⟨_,_,_,_,rfl⟩:=hc
    exact ⟨fun h=>by simp [way] at h,fun h=>by simp [b0L] at h⟩
   ·simp only [Q0X,Q0U,Q0Y,Q0V] at hc
    obtain ⟨_,_,_,_,rfl⟩:=hc
    exact ⟨fun h=>by simp [way] at h,fun h=>by simp [b0L] at h⟩
   ·simp only [Q0X,Q0U] at hc
    obtain ⟨_,_,_,_,_,_,hc⟩:=hc
    split at hc
    ·simp only [Q0U,Q0Y,Q0V] at hc
     obtain ⟨_,_,_,_,_,_,rfl⟩:=hc
     exact ⟨fun _=>by simp [i0c],fun h=>by simp [b0L] at h⟩
    ·split at hc
     ·simp only [Q0U,Q0Y,Q0V] at hc
      obtain ⟨_,_,_,_,_,_,rfl⟩:=hc
      exact ⟨fun _=>by simp [i0c],fun h=>by simp [b0L] at h⟩
     ·cases hc
   ·cases hc
 all_goals
  simp only [cOp,S0v,Q0X,Q0U,Q0Y,Q0V,reduceCtorEq] at hc
 all_goals (try (split at hc))
 all_goals (try (simp only [Q0X,Q0Y,Q0U,Q0V,reduceCtorEq] at hc))
 case move=>obtain ⟨_,_,rfl⟩:=hc;exact ⟨fun h=>by simp [way] at h,fun h=>by simp [b0L] at h⟩
 case assign=>obtain ⟨_,_,rfl⟩:=hc;exact ⟨fun h=>by simp [way] at h,fun h=>by simp [b0L] at h⟩
 all_goals
  (repeat' (first | (obtain ⟨_,_,hc⟩:=hc) | (split at hc) | (simp only [Q0U,Q0Y,Q0V,reduceCtorEq] at hc)))
 all_goals (try subst hc)
 all_goals
  refine ⟨fun h=>?_,fun h=>?_⟩
  ·first
    | (simp [i0c];done)
    | (simp [way] at h;done)
  ·simp [b0L] at h
def cut (φ:Inj) (m:Nat):Inj:=fun b=>if b < m then φ b else none
theorem a0P {m b:Nat} {y:Nat × Nat}:cut φ m b=some y ↔ b < m∧φ b=some y:=by
 unfold cut;split
 ·rename_i h;simp [h]
 ·rename_i h;simp [h]
theorem g0w {m k:Nat} (hmk:m≤k) (hφ:∀ b y,b < m→φ b=some y→φ' b=some y):∀ b y,cut φ m b=some y→cut φ' k b=some y:=fun b y h=>by
 rw [a0P] at h ⊢
 exact ⟨by omega,hφ b y h.1 h.2⟩
theorem VR.cut {m:Nat} (hm:∀ b y,φ b=some y→b < m) {v u:Value} (h:VR X φ S v u):∀ {u'},VR X ψ S' v u'→VR X (cut ψ m) S' v u':=by
 induction h with
 | bool b=>intro u' k;cases k;exact .bool _
 | int k n=>intro u' k;cases k;exact .int _ _
 | str s=>intro u' k;cases k;exact .str _
 | pnil=>intro u' k;cases k;exact .pnil
 | ptr a a' B o h1 h2 h3=>intro u' k;cases k with | ptr _ a2 B2 o2 g1 g2 g3=>exact .ptr _ _ B2 o2 g1 (a0P.2 ⟨hm _ _ h2,g2⟩) g3
 | snil=>intro u' k;cases k;exact .snil
 | mnil=>intro u' k;cases k;exact .mnil
 | sle a a' =>
  intro u' k
  cases k with
  | sle _ a2=>exact .sle _ _
  | sl _ a2 _ _ c2 B2 o2 g1 g2 g3 g4 g5 g6 g7 g8=>rw [g6 (by simp [unk])];exact .sle _ _
 | sl a a' len cap cap' B o h1 h2 h3 h4 h5 h6 h7 h8 =>
  intro u' k
  cases k with
  | sle _ a2=>exact .sle _ _
  | sl _ a2 _ _ c2 B2 o2 g1 g2 g3 g4 g5 g6 g7 g8=>exact .sl _ _ _ _ _ B2 o2 g1 (a0P.2 ⟨hm _ _ h2,g2⟩) g3 g4 g5 g6 g7 g8
 | mp b B o h=>intro u' k;cases k with | mp _ B2 o2 g=>exact .mp _ B2 o2 (a0P.2 ⟨hm _ _ h,g⟩)
 | nilFunc=>intro u' k;cases k;exact .nilFunc
 | nilIface=>intro u' k;cases k;exact .nilIface
 | func f a b a' b' h1 _ h3 _ ih1 ih2 =>
  intro u' k
  cases k with
  | func _ _ _ a2 b2 g1 g2 g3 g4=>exact .func _ _ _ _ _ g1 (fun i hi=>ih1 i hi (g2 i hi)) g3 (fun i hi=>ih2 i hi (g4 i hi))
 | iface ty v v' _ ih=>intro u' k;cases k with | iface _ _ v2 g=>exact .iface _ _ _ (ih g)
 | agg a a' h1 _ ih=>intro u' k;cases k with | agg _ a2 g1 g2=>exact .agg _ _ g1 (fun i hi=>ih i hi (g2 i hi))
 | tuple a a' h1 _ ih=>intro u' k;cases k with | tuple _ a2 g1 g2=>exact .tuple _ _ g1 (fun i hi=>ih i hi (g2 i hi))
theorem CR.cut {m:Nat} (hm:∀ b y,φ b=some y→b < m) {l u u':List Value} (h:CR X φ S l u) (k:CR X ψ S' l u'):CR X (cut ψ m) S' l u' :=
 ⟨k.1,fun i hi=>(h.2 i hi).cut hm (k.2 i hi)⟩
def m0x (X:Cx) (φ:Inj) (w:World) (B o:Nat) (ro:Bool) (e:TypeId) (cs:List Value):Prop :=
 ∃ c el fz,w.heap[B]? = some (.cells c el fz)∧o + cs.length≤c.size∧CR X φ w.shape? cs ((c.toList.drop o).take cs.length)∧(ro=false→X.base≤B∧fz=(0,0)∧el=e)∧(ro=true→B < X.base)
theorem m0x.mono {B o:Nat} {ro:Bool} {e:TypeId} {cs:List Value} (h:m0x X φ w B o ro e cs) (hφ:∀ b x,φ b=some x→φ' b=some x) (hS:∀ b x,w.shape? b=some x→w'.shape? b=some x) (hw:w'.heap[B]? = w.heap[B]?) :
  m0x X φ' w' B o ro e cs:=by
 obtain ⟨c,el,fz,h1,h2,h3,h4,h5⟩:=h
 exact ⟨c,el,fz,by rw [hw];exact h1,h2,h3.mono hφ hS,h4,h5⟩
theorem m0x.lt {B o:Nat} {ro:Bool} {e:TypeId} {cs:List Value} (h:m0x X φ w B o ro e cs):B < w.heap.size:=by
 obtain ⟨c,el,fz,h1,_⟩:=h
 exact (R0n.1 h1).1
end
section
open Go
structure Ctx (X:Cx) (call:Nat→FuncId→List Value→a0c→Res (Value × a0c)) (fl:Nat) (ops:Array Oper) (l:List a0w) (bef:List Nat) (pairs:List (Nat × Nat)) (R:Run):Prop where
 callOk:d0J X call
 keepOk:f0k call
 tab:p0l X ops l bef pairs
 run:∀ (k:Nat) (s:a0w),l[k]? = some s→g0r call fl bef R k s
 apart:c0M ((List.range' 0 l.length).map R.tc) pairs=true
 p0:R.Pn 0=none
 low:fl≤(R.Hh 0).size
variable {X:Cx} {call:Nat→FuncId→List Value→a0c→Res (Value × a0c)} {fl:Nat} {ops:Array Oper} {l:List a0w} {bef:List Nat} {pairs:List (Nat × Nat)} {R:Run} (C:Ctx X call fl ops l bef pairs R)
include C
theorem Ctx.sAt {k:Nat} (hk:k < l.length):∃ s,l[k]? = some s:=⟨l[k],R0a hk⟩
omit C in
theorem g0l {t:a0Q} {H H1:a0c} {so:SOp} {v:Value} (h:b0V call fl t H so=.ok (v,H1)) :
  opA fl t H so=.val v H1 ∨ ∃ f args lone,opA fl t H so=.call f args lone∧call (if lone=true then fl else max fl H.size) f args H=.ok (v,H1):=by
 unfold b0V at h
 split at h
 ·cases h
 ·cases h
 ·rename_i v' H' hv;simp only [Res.ok.injEq,S0L] at h;obtain ⟨rfl,rfl⟩:=h;exact .inl hv
 ·rename_i f args lone hc;exact .inr ⟨f,args,lone,hc,h⟩
theorem Ctx.keepStep {k:Nat} (hk:k < l.length) (hlow:fl≤(R.Hh k).size):f0N fl (R.Hh k) (R.Hh (k + 1)):=by
 obtain ⟨s,hs⟩:=C.sAt hk
 rcases C.run k s hs with h | h | h | h
 ·rw [h.2.2.2.1];exact f0N.refl
 ·rw [h.2.2.2.2.2.1];exact f0N.refl
 ·exact h0t C.keepOk hlow h.2.2.2.1
 ·rw [h.2.2.2.2.2.2.2.1];exact f0N.refl
theorem Ctx.keep0:∀ {k:Nat},k≤l.length→fl≤(R.Hh k).size∧f0N fl (R.Hh 0) (R.Hh k)
 | 0,_=>⟨C.low,f0N.refl⟩
 | k + 1,hk=>by
  obtain ⟨h1,h2⟩:=Ctx.keep0 (k:=k) (by omega)
  have h3:=C.keepStep (by omega:k < l.length) h1
  exact ⟨R0z h1 h3.size,h2.trans h3 (Q0W _)⟩
theorem Ctx.keepIJ {i:Nat}:∀ {j:Nat},i≤j→j≤l.length→f0N fl (R.Hh i) (R.Hh j)
 | 0, hij, _ => by obtain rfl : i = 0 := by omega
                   exact f0N.refl
 | j + 1,hij,hj=>by
  by_cases h:i=j + 1
  ·subst h;exact f0N.refl
  ·exact (Ctx.keepIJ (j:=j) (by omega) (by omega)).trans (C.keepStep (by omega) (C.keep0 (by omega)).1) (Q0W _)
theorem Ctx.szmono {i j:Nat} (hij:i≤j) (hj:j≤l.length):(R.Hh i).size≤(R.Hh j).size:=(C.keepIJ hij hj).size
theorem Ctx.pan:∀ {k:Nat},k≤l.length→∀ p v,R.Pn k=some (p,v)→p < k∧R.st p=3
 | 0,_,p,v,h=>by rw [C.p0] at h;cases h
 | k + 1,hk,p,v,h=>by
  obtain ⟨s,hs⟩:=C.sAt (by omega:k < l.length)
  have ih:=Ctx.pan (k:=k) (by omega)
  rcases C.run k s hs with g | g | g | g
  ·rw [g.2.2.2.2.1] at h;have:=ih p v h;exact ⟨by omega,this.2⟩
  ·rw [g.2.2.2.2.2.2.1] at h;have:=ih p v h;exact ⟨by omega,this.2⟩
  ·rw [g.2.2.2.2.2.1] at h;have:=ih p v h;exact ⟨by omega,this.2⟩
  ·rw [g.2.2.2.2.2.1] at h;cases h;exact ⟨by omega,g.1⟩
theorem Ctx.change {k:Nat} {s:a0w} (hs:l[k]? = some s) {b:Nat} (hb:b < (R.Hh k).size) (hne:(R.Hh (k + 1)).blk b ≠ (R.Hh k).blk b) :
  R.st k=2∧((way s.op=2∧b ∈ (R.tc k).2) ∨ (way s.op=3∧b0L s.op=true)):=by
 have hk:k < l.length:=(R0t.1 hs).1
 rcases C.run k s hs with h | h | h | h
 ·rw [h.2.2.2.1] at hne;exact R0q rfl hne
 ·rw [h.2.2.2.2.2.1] at hne;exact R0q rfl hne
 ·refine ⟨h.1,?_⟩
  rcases g0l h.2.2.2.1 with hv | ⟨f,args,lone,hc,hcall⟩
  ·have:=(k0D hv).changed hb hne
   rw [h.2.2.2.2.2.2]
   exact .inl ⟨k0d this,this⟩
  ·obtain ⟨h1,h2⟩:=d0D hc
   cases lone with
   | true=>exact .inr ⟨h1,h2⟩
   | false =>
    have hlow:=(C.keep0 (by omega:k≤l.length)).1
    have:=(C.keepOk _ _ _ _ _ _ hcall (by simp;omega)).low b (by simp;omega)
    exact R0q this hne
 ·rw [h.2.2.2.2.2.2.2.1] at hne;exact R0q rfl hne
theorem Ctx.grow {k:Nat} {s:a0w} (hs:l[k]? = some s) (hne:(R.Hh k).size ≠ (R.Hh (k + 1)).size):way s.op ≠ 0:=by
 rcases C.run k s hs with h | h | h | h
 ·rw [h.2.2.2.1] at hne;exact R0q rfl hne
 ·rw [h.2.2.2.2.2.1] at hne;exact R0q rfl hne
 ·intro hw
  rcases g0l h.2.2.2.1 with hv | ⟨f,args,lone,hc,hcall⟩
  ·rw [v0S hw hv] at hne;exact R0q rfl hne
  ·rw [(d0D hc).1] at hw;cases hw
 ·rw [h.2.2.2.2.2.2.2.1] at hne;exact R0q rfl hne
omit C in
theorem m0D (t:a0Q) (d:Option Nat) (v:Value) (x:Nat):get (put t d v) x=if d=some x∧x < t.length then v else get t x:=by
 cases d with
 | none=>simp [put]
 | some d =>
  simp only [put,get,Q0T,T0e,Q0V]
  by_cases h:d=x
  ·subst h
   by_cases hl:d < t.length
   ·simp [hl]
   ·simp [hl]
  ·simp [h]
theorem Ctx.slot {k:Nat} {s:a0w} (hs:l[k]? = some s) {x:Nat} (hne:get (R.T (k + 1)) x ≠ get (R.T k) x):(R.st k=1 ∨ R.st k=2)∧s.dst=some x:=by
 rcases C.run k s hs with h | h | h | h
 ·rw [h.2.2.1] at hne;exact R0q rfl hne
 ·refine ⟨.inl h.1,?_⟩
  rw [h.2.2.2.2.1,m0D] at hne
  split at hne
  ·rename_i h1;exact h1.1
  ·exact R0q rfl hne
 ·refine ⟨.inr h.1,?_⟩
  rw [h.2.2.2.2.1,m0D] at hne
  split at hne
  ·rename_i h1;exact h1.1
  ·exact R0q rfl hne
 ·rw [h.2.2.2.2.2.2.1] at hne;exact R0q rfl hne
theorem Ctx.tlen:∀ {k:Nat},k≤l.length→(R.T k).length=(R.T 0).length
 | 0,_=>rfl
 | k + 1,hk=>by
  obtain ⟨s,hs⟩:=C.sAt (by omega:k < l.length)
  have ih:=Ctx.tlen (k:=k) (by omega)
  have hp:∀ (d:Option Nat) (v:Value),(put (R.T k) d v).length=(R.T k).length:=fun d v=>by cases d <;> simp [put]
  rcases C.run k s hs with h | h | h | h
  ·rw [h.2.2.1];exact ih
  ·rw [h.2.2.2.2.1,hp];exact ih
  ·rw [h.2.2.2.2.1,hp];exact ih
  ·rw [h.2.2.2.2.2.2.1];exact ih
theorem Ctx.disj {i j:Nat} (hp:(i,j) ∈ pairs ∨ (j,i) ∈ pairs) (hi:i < l.length) (hj:j < l.length) {b:Nat} (hb:b ∈ (R.tc i).2):b ∉ (R.tc j).1∧b ∉ (R.tc j).2:=by
 have ha:=C.apart
 unfold c0M at ha
 rw [S0b] at ha
 have hlog:∀ k,k < l.length→((List.range' 0 l.length).map R.tc).getD k ([],[])=R.tc k:=fun k hk=>by
  simp only [Q0T,R0M,List.getElem?_range' hk,R0P,R0G]
  congr 1;omega
 have nm:∀ {u v:List Nat},p0z u v=false→∀ {b:Nat},b ∈ u→b ∉ v:=fun {u v} h {b} hu hv=>by
  unfold p0z at h
  rw [List.any_eq_false] at h
  exact h b hu (by simpa using hv)
 rcases hp with hp | hp
 ·have h:=ha _ hp
  simp only [hlog i hi,hlog j hj,R0f,S0E] at h
  exact ⟨nm h.1.1 hb,nm h.1.2 hb⟩
 ·have h:=ha _ hp
  simp only [hlog i hi,hlog j hj,R0f,S0E] at h
  exact ⟨fun hr=>nm h.2 hr hb,fun hw=>nm h.1.2 hw hb⟩
theorem Ctx.clash {k j:Nat} {sk sj:a0w} (hk:l[k]? = some sk) (hj:l[j]? = some sj) (hkj:k ≠ j) (h1:a0O bef k j=false) (h2:a0O bef j k=false) {b:Nat} (hb:b < (R.Hh k).size)
  (hne:(R.Hh (k + 1)).blk b ≠ (R.Hh k).blk b) (hw:way sj.op ≠ 0):way sk.op=2∧b ∈ (R.tc k).2∧way sj.op ≠ 3∧b ∉ (R.tc j).1∧b ∉ (R.tc j).2:=by
 have hkl:k < l.length:=(R0t.1 hk).1
 have hjl:j < l.length:=(R0t.1 hj).1
 obtain ⟨ok,hok,hck⟩:=C.tab.op k sk hk
 obtain ⟨oj,hoj,hcj⟩:=C.tab.op j sj hj
 have hlen:=C.tab.len
 have h2':=C.tab.two hkj (by omega) (by omega) h1 h2 hok hoj hk hj
 rcases (C.change hk hb hne).2 with ⟨h3,h4⟩ | ⟨h3,h4⟩
 ·have hp:=h2'.2.2.2.2 ⟨h3,hw⟩
  have hd:=C.disj hp hkl hjl h4
  exact ⟨h3,h4,fun e=>h2'.2.2.2.1 ⟨h3,e⟩,hd.1,hd.2⟩
 ·exfalso
  have hl:=(l0G (e0d hck).1).2 h4
  unfold o0p at hl
  rw [S0b] at hl
  have h5:=hl j (R0Q.2 (by simp;omega))
  have h6:(ops.toList.map fun o=>i0c o.op).getD j 0=i0c oj.op:=by
   simp only [Q0T,R0M,R0Z,hoj,R0P,R0G]
  have h7:=(l0G (e0d hcj).1).1 hw
  rw [h6,h1,h2] at h5
  simp only [Bool.or_eq_true,beq_iff_eq,R0p,or_false] at h5
  rcases h5 with h5 | h5
  ·exact hkj h5.symm
  ·exact h7 h5
end
section
open Go
structure O0X (X:Cx) (fl:Nat) (φ0:Inj) (H0:a0c) (w0:World) (φ:Inj) (w:World):Prop where
 ext:∀ b x,φ0 b=some x→φ b=some x
 shp:∀ B x,w0.shape? B=some x→w.shape? B=some x
 wsz:w0.heap.size≤w.heap.size
 os:w.os=w0.os
 tape:w.tape=w0.tape
 out:w.output=w0.output
 fresh:∀ b y,φ b=some y→φ0 b=none→H0.size≤b
 newB:∀ b B o,φ b=some (B,o)→φ0 b=none→w0.heap.size≤B ∨ ∃ b0 o0 e cs,φ0 b0=some (B,o0)∧fl≤b0∧H0.blk b0=.row false e cs
 frame:∀ B,B < w0.heap.size→(∀ b o e cs,φ0 b=some (B,o)→fl≤b→H0.blk b ≠ .row false e cs)→w.heap[B]? = w0.heap[B]?
structure Inv (X:Cx) (fl:Nat) (ops:Array Oper) (l:List a0w) (bef:List Nat) (R:Run) (φ0:Inj) (w0:World) (Sd:Nat→Prop) (φ:Inj) (κ θ:Nat→Nat) (a:Act) (w:World):Prop where
 done:∀ k,k < l.length→Sd k→R.st k=1 ∨ R.st k=2
 down:∀ j,j < l.length→Sd j→∀ i,a0O bef i j=true→Sd i
 tlen:a.tmps.size=(R.T 0).length
 defers:a.defers=R.ds
 base:X.base≤w.heap.size
 T:∀ x,x < (R.T 0).length→θ x≤l.length∧(θ x=0 ∨ ∃ k s,θ x=k + 1∧Sd k∧l[k]? = some s∧s.dst=some x)∧(∀ k s,θ x≤k→Sd k→l[k]? = some s→s.dst ≠ some x) ∧
  VR X (cut φ (R.Hh (θ x)).size) w.shape? (get (R.T (θ x)) x) (a.tmps.getD x undef)
 D:∀ b y,φ b=some y→b < (R.Hh 0).size ∨ ∃ k,k < l.length∧Sd k∧(R.Hh k).size≤b∧b < (R.Hh (k + 1)).size
 Rr:∀ b B o,φ b=some (B,o)→κ b≤l.length∧b < (R.Hh (κ b)).size∧(κ b=0 ∨ ∃ k,κ b=k + 1∧k < l.length∧Sd k∧((R.Hh k).size≤b ∨ (R.Hh (k + 1)).blk b ≠ (R.Hh k).blk b)) ∧
  (∀ k,κ b≤k→k < l.length→Sd k→(R.Hh (k + 1)).blk b=(R.Hh k).blk b) ∧
  ∀ ro e cs,(R.Hh (κ b)).blk b=.row ro e cs→m0x X (cut φ (R.Hh (κ b)).size) w B o ro e cs
 P:∀ b b' B o o' e cs,φ b=some (B,o)→φ b' = some (B,o')→b ≠ b'→(R.Hh (κ b)).blk b=.row false e cs→(R.Hh (κ b')).blk b' = .dead
 M:∀ b B o,φ b=some (B,o)→(R.Hh (κ b)).blk b=.emap→w.heap[B]? = some (.map #[] 0)
 W:∀ k s,l[k]? = some s→Sd k→R.st k=2→∀ b,b ∈ (R.tc k).2→φ b ≠ none
 glob:O0X X fl φ0 (R.Hh 0) w0 φ w
variable {X:Cx} {call:Nat→FuncId→List Value→a0c→Res (Value × a0c)} {fl:Nat} {ops:Array Oper} {l:List a0w} {bef:List Nat} {pairs:List (Nat × Nat)} {R:Run} (C:Ctx X call fl ops l bef pairs R)
variable {φ0 φ:Inj} {w0 w w':World} {Sd:Nat→Prop} {κ θ:Nat→Nat} {a:Act} (I:Inv X fl ops l bef R φ0 w0 Sd φ κ θ a w)
variable {j:Nat} {s:a0w} {o:Oper} (hs:l[j]? = some s) (ho:ops[j]? = some o) (hnj:¬ Sd j) (hpre:∀ i,a0O bef i j=true→Sd i)
include C I hs hnj hpre
theorem Inv.unord {k:Nat} (hk:k < l.length) (hkj:k ≠ j) (h:(Sd k∧j < k) ∨ (¬ Sd k∧k < j)):a0O bef k j=false∧a0O bef j k=false:=by
 have hj:j < l.length:=(R0t.1 hs).1
 have hlen:=C.tab.len
 rcases h with ⟨h1,h2⟩ | ⟨h1,h2⟩
 ·refine ⟨?_,?_⟩
  ·cases h3:a0O bef k j with
   | false=>rfl
   | true=>have:=C.tab.lt j k (by omega) h3;omega
  ·cases h3:a0O bef j k with
   | false=>rfl
   | true=>exact R0q (I.down k hk h1 j h3) hnj
 ·refine ⟨?_,?_⟩
  ·cases h3:a0O bef k j with
   | false=>rfl
   | true=>exact R0q (hpre k h3) h1
  ·cases h3:a0O bef j k with
   | false=>rfl
   | true=>have:=C.tab.lt k j (by omega) h3;omega
include ho in
theorem Inv.slot {x:Nat} (hx:x < (R.T 0).length) (hu:x ∈ f0M o s):VR X (cut φ (R.Hh j).size) w.shape? (get (R.T j) x) (a.tmps.getD x undef):=by
 have hj:j < l.length:=(R0t.1 hs).1
 have hlen:=C.tab.len
 obtain ⟨h1,h2,h3,h4⟩:=I.T x hx
 have hle:θ x≤j:=by
  rcases h2 with h2 | ⟨k,sk,h5,h6,h7,h8⟩
  ·omega
  ·by_cases hkj:k < j
   ·omega
   ·exfalso
    have hk:k < l.length:=(R0t.1 h7).1
    have hne:k ≠ j:=fun e=>hnj (e ▸ h6)
    obtain ⟨u1,u2⟩:=Inv.unord C I hs hnj hpre hk hne (.inl ⟨h6,by omega⟩)
    obtain ⟨ok,hok,_⟩:=C.tab.op k sk h7
    exact (((C.tab.two hne (by omega) (by omega) u1 u2 hok ho h7 hs).1 x h8).1) hu
 have heq:∀ m,θ x≤m→m≤j→get (R.T m) x=get (R.T (θ x)) x:=by
  intro m hm
  induction m with
  | zero=>intro _;congr 2;omega
  | succ m ih =>
   intro hmj
   by_cases hc:θ x=m + 1
   ·rw [hc]
   ·rw [← ih (by omega) (by omega)]
    apply R0C
    intro hne
    obtain ⟨sm,hsm⟩:=C.sAt (by omega:m < l.length)
    obtain ⟨_,hd⟩:=C.slot hsm hne
    by_cases hS:Sd m
    ·exact h3 m sm (by omega) hS hsm hd
    ·obtain ⟨u1,u2⟩:=Inv.unord C I hs hnj hpre (by omega:m < l.length) (by omega) (.inr ⟨hS,by omega⟩)
     obtain ⟨om,hom,_⟩:=C.tab.op m sm hsm
     exact (((C.tab.two (by omega) (by omega) (by omega) u1 u2 hom ho hsm hs).1 x hd).1) hu
 rw [heq j hle (Q0W _)]
 exact h4.mono (g0w (C.szmono hle (by omega)) (fun _ _ _ h=>h)) (fun _ _ h=>h)
def p0k (R:Run) (κ:Nat→Nat) (j b:Nat):Prop:=κ b≤j∧(R.Hh j).blk b=(R.Hh (κ b)).blk b
theorem Inv.notNew {b:Nat} {y:Nat × Nat} (hb:φ b=some y):b < (R.Hh j).size ∨ (R.Hh (j + 1)).size≤b:=by
 have hj:j < l.length:=(R0t.1 hs).1
 rcases I.D b y hb with h | ⟨k,hk,hS,h1,h2⟩
 ·exact .inl (R0r h (C.szmono (R0H _) (by omega)))
 ·by_cases hkj:k < j
  ·exact .inl (R0r h2 (C.szmono (by omega) (by omega)))
  ·have hne:k ≠ j:=fun e=>hnj (e ▸ hS)
   exact .inr (R0z (C.szmono (by omega) (by omega)) h1)
theorem Inv.good {b:Nat} {y:Nat × Nat} (hb:φ b=some y) (hlt:b < (R.Hh j).size) (hw:way s.op ≠ 0) (hfp:way s.op=3 ∨ b ∈ (R.tc j).1 ∨ b ∈ (R.tc j).2):p0k R κ j b:=by
 have hj:j < l.length:=(R0t.1 hs).1
 obtain ⟨B,o1⟩:=y
 obtain ⟨h1,h2,h3,h4,_⟩:=I.Rr b B o1 hb
 have no:∀ {k:Nat} {sk:a0w},l[k]? = some sk→k ≠ j→a0O bef k j=false→a0O bef j k=false→b < (R.Hh k).size→(R.Hh (k + 1)).blk b ≠ (R.Hh k).blk b→False:=by
  intro k sk hsk hne u1 u2 hbk hch
  obtain ⟨c1,c2,c3,c4,c5⟩:=C.clash hsk hs hne u1 u2 hbk hch hw
  rcases hfp with h | h | h
  ·exact c3 h
  ·exact c4 h
  ·exact c5 h
 have hle:κ b≤j:=by
  rcases h3 with h3 | ⟨k,h5,hk,h6,h7⟩
  ·omega
  ·by_cases hkj:k < j
   ·omega
   ·exfalso
    have hne:k ≠ j:=fun e=>hnj (e ▸ h6)
    obtain ⟨u1,u2⟩:=Inv.unord C I hs hnj hpre hk hne (.inl ⟨h6,by omega⟩)
    have hbk:b < (R.Hh k).size:=R0r hlt (C.szmono (by omega) (by omega))
    obtain ⟨sk,hsk⟩:=C.sAt hk
    rcases h7 with h7 | h7
    ·omega
    ·exact no hsk hne u1 u2 hbk h7
 refine ⟨hle,?_⟩
 have heq:∀ m,κ b≤m→m≤j→(R.Hh m).blk b=(R.Hh (κ b)).blk b:=by
  intro m hm
  induction m with
  | zero=>intro _;congr 2;omega
  | succ m ih =>
   intro hmj
   by_cases hc:κ b=m + 1
   ·rw [hc]
   ·rw [← ih (by omega) (by omega)]
    apply R0C
    intro hch
    obtain ⟨sm,hsm⟩:=C.sAt (by omega:m < l.length)
    by_cases hS:Sd m
    ·exact hch (h4 m (by omega) (by omega) hS)
    ·obtain ⟨u1,u2⟩:=Inv.unord C I hs hnj hpre (by omega:m < l.length) (by omega) (.inr ⟨hS,by omega⟩)
     exact no hsm (by omega) u1 u2 (R0r h2 (C.szmono (by omega) (by omega))) hch
 exact heq j hle (Q0W _)
open Classical in
noncomputable def j0y (R:Run) (φ:Inj) (κ:Nat→Nat) (j:Nat):a0c :=
 ((List.range (R.Hh j).size).map fun b=>if φ b ≠ none∧¬ p0k R κ j b then Blk.dead else (R.Hh j).blk b).toArray
omit C I hs hnj hpre in
theorem c0U (R:Run) (φ:Inj) (κ:Nat→Nat) (j:Nat):(j0y R φ κ j).size=(R.Hh j).size:=by simp [j0y]
omit C I hs hnj hpre in
open Classical in
theorem f0p (R:Run) (φ:Inj) (κ:Nat→Nat) (j b:Nat):(j0y R φ κ j).blk b=if φ b ≠ none∧¬ p0k R κ j b then Blk.dead else (R.Hh j).blk b:=by
 by_cases hb:b < (R.Hh j).size
 ·simp only [j0y,a0c.blk,R0e,List.getElem?_toArray,R0M,S0h hb,R0P,R0G]
 ·have h1:(j0y R φ κ j).blk b=.dead:=f0O (by rw [c0U];omega)
  have h2:(R.Hh j).blk b=.dead:=f0O (by omega)
  rw [h1,h2];split <;> rfl
omit C I hs hnj hpre in
theorem c0O {b:Nat} {y:Nat × Nat} {ro:Bool} {e:TypeId} {cs:List Value} (hb:φ b=some y) (h:(j0y R φ κ j).blk b=.row ro e cs):p0k R κ j b∧(R.Hh j).blk b=.row ro e cs:=by
 rw [f0p] at h
 split at h
 ·cases h
 ·rename_i hc
  refine ⟨R0C fun hg=>hc ⟨by rw [hb];simp,hg⟩,h⟩
omit C I hs hnj hpre in
theorem q0Z {b:Nat} {y:Nat × Nat} (hb:φ b=some y) (h:(j0y R φ κ j).blk b=.emap):p0k R κ j b∧(R.Hh j).blk b=.emap:=by
 rw [f0p] at h
 split at h
 ·cases h
 ·rename_i hc
  refine ⟨R0C fun hg=>hc ⟨by rw [hb];simp,hg⟩,h⟩
theorem Inv.rel:Rel X (cut φ (R.Hh j).size) (j0y R φ κ j) w:=by
 have hj:j < l.length:=(R0t.1 hs).1
 refine { bs:=I.base,lt:=fun b x h=>by rw [c0U];exact (a0P.1 h).1,row:=?_,sep:=?_,mp:=?_ }
 ·intro b B o1 ro e cs hb hrow
  obtain ⟨h1,h2⟩:=a0P.1 hb
  obtain ⟨⟨g1,g2⟩,h3⟩:=c0O h2 hrow
  obtain ⟨c,el,fz,k1,k2,k3,k4⟩:=(I.Rr b B o1 h2).2.2.2.2 ro e cs (by rw [← g2];exact h3)
  exact ⟨c,el,fz,k1,k2,k3.mono (g0w (C.szmono g1 (by omega)) (fun _ _ _ h=>h)) (fun _ _ h=>h),k4⟩
 ·intro b b' B o1 o2 e cs hb hb' hne hrow
  obtain ⟨h1,h2⟩:=a0P.1 hb
  obtain ⟨h1',h2'⟩:=a0P.1 hb'
  obtain ⟨⟨g1,g2⟩,h3⟩:=c0O h2 hrow
  have hd:=I.P b b' B o1 o2 e cs h2 h2' hne (by rw [← g2];exact h3)
  rw [f0p]
  split
  ·rfl
  ·rename_i hc
   have hg:p0k R κ j b':=R0C fun hg=>hc ⟨by rw [h2'];simp,hg⟩
   rw [hg.2];exact hd
 ·intro b B o1 hb hm
  obtain ⟨h1,h2⟩:=a0P.1 hb
  obtain ⟨⟨g1,g2⟩,h3⟩:=q0Z h2 hm
  exact I.M b B o1 h2 (by rw [← g2];exact h3)
end
section
open Go
variable {X:Cx} {call:Nat→FuncId→List Value→a0c→Res (Value × a0c)} {fl:Nat} {ops:Array Oper} {l:List a0w} {bef:List Nat} {pairs:List (Nat × Nat)} {R:Run} (C:Ctx X call fl ops l bef pairs R)
variable {φ0 φ:Inj} {w0 w w':World} {Sd:Nat→Prop} {κ θ:Nat→Nat} {a:Act} (I:Inv X fl ops l bef R φ0 w0 Sd φ κ θ a w)
variable {j:Nat} {s:a0w} {o:Oper} (hs:l[j]? = some s) (ho:ops[j]? = some o) (hnj:¬ Sd j) (hpre:∀ i,a0O bef i j=true→Sd i)
include C I hs hnj hpre
open Classical in
theorem Inv.after {φ1:Inj} {G1:a0c} {v':Value} (hst:R.st j=1 ∨ R.st j=2) (hT':R.T (j + 1)=put (R.T j) s.dst (R.val j)) (hpar:Par (R.Hh j) (R.Hh (j + 1)) (j0y R φ κ j) G1)
  (hv:VR X φ1 w'.shape? (R.val j) v') (hS:c0T X fl (cut φ (R.Hh j).size) (j0y R φ κ j) w φ1 G1 w') (hW:∀ b,b ∈ (R.tc j).2→φ b ≠ none) (hφ0:∀ b y,φ0 b=some y→b < (R.Hh 0).size) :
  ∃ φ' κ' θ',Inv X fl ops l bef R φ0 w0 (fun k=>Sd k ∨ k=j) φ' κ' θ' (a.put s.dst v') w':=by
 have hj:j < l.length:=(R0t.1 hs).1
 have hlow:fl≤(R.Hh j).size:=(C.keep0 (by omega:j≤l.length)).1
 have hks:=C.keepStep hj hlow
 have hsz:(R.Hh j).size≤(R.Hh (j + 1)).size:=hks.size
 have hG1:G1.size=(R.Hh (j + 1)).size:=hpar.size
 have hmaskRel:=Inv.rel C I hs hnj hpre
 let φ':Inj:=fun b=>if (R.Hh j).size≤b∧b < (R.Hh (j + 1)).size then φ1 b else φ b
 let ch:Nat→Prop:=fun b=>((R.Hh j).size≤b∧b < (R.Hh (j + 1)).size) ∨ (b < (R.Hh j).size∧(R.Hh (j + 1)).blk b ≠ (R.Hh j).blk b)
 let κ':Nat→Nat:=fun b=>if ch b then j + 1 else κ b
 let θ':Nat→Nat:=fun x=>if s.dst=some x then j + 1 else θ x
 have hφ':∀ b,φ' b=if (R.Hh j).size≤b∧b < (R.Hh (j + 1)).size then φ1 b else φ b:=fun _=>rfl
 have hκ1:∀ b,ch b→κ' b=j + 1:=fun b h=>R0k h
 have hκ2:∀ b,¬ ch b→κ' b=κ b:=fun b h=>R0c h
 have fA:∀ b y,φ b=some y→φ' b=some y:=fun b y hb=>by
  rw [hφ',R0c];exact hb
  have:=Inv.notNew C I hs hnj hpre hb;omega
 have fOld:∀ b y,b < (R.Hh j).size→φ1 b=some y→φ b=some y:=fun b y hb h=>by
  cases hc:cut φ (R.Hh j).size b with
  | none=>have:=hS.fresh b y h hc;rw [c0U] at this;omega
  | some z =>
   have:=hS.ext b z hc
   rw [h] at this;cases this
   exact (a0P.1 hc).2
 have fB:∀ b y,φ1 b=some y→b < (R.Hh (j + 1)).size∧φ' b=some y:=fun b y h=>by
  have hlt:=hS.rel.lt b y h
  rw [hG1] at hlt
  refine ⟨hlt,?_⟩
  rw [hφ']
  by_cases hb:(R.Hh j).size≤b
  ·rw [R0k ⟨hb,hlt⟩];exact h
  ·rw [R0c (by omega)];exact fOld b y (by omega) h
 have fC:∀ b y,φ' b=some y→b < (R.Hh (j + 1)).size→φ1 b=some y:=fun b y h hlt=>by
  rw [hφ'] at h
  split at h
  ·exact h
  ·rename_i hc
   exact hS.ext b y (a0P.2 ⟨by omega,h⟩)
 have fOut:∀ b y,φ' b=some y→¬ ((R.Hh j).size≤b∧b < (R.Hh (j + 1)).size)→φ b=some y:=fun b y h hc=>by rw [hφ',R0c hc] at h;exact h
 have cutB:∀ b y,φ1 b=some y→cut φ' (R.Hh (j + 1)).size b=some y:=fun b y h=>a0P.2 (fB b y h)
 have dead_ge:∀ {k b:Nat},(R.Hh k).size≤b→(R.Hh k).blk b=.dead:=fun h=>f0O h
 -- a later operation that has run leaves alone what this one has turned
 have later:∀ b,ch b→(φ' b ≠ none)→∀ k,j + 1≤k→k < l.length→(Sd k ∨ k=j)→(R.Hh (k + 1)).blk b=(R.Hh k).blk b:=by
  intro b hch hdom k hjk hk hSk
  have hSk : Sd k := by rcases hSk with h | h; · exact h
                        ·omega
  apply R0C
  intro hne
  obtain ⟨sk,hsk⟩:=C.sAt hk
  have hbk:b < (R.Hh k).size:=by
   have h1:=C.szmono (show j + 1≤k by omega) (by omega)
   rcases hch with h | h <;> omega
  obtain ⟨u1,u2⟩:=Inv.unord C I hs hnj hpre hk (by omega) (.inl ⟨hSk,by omega⟩)
  have hwj:way s.op ≠ 0:=by
   rcases hch with h | h
   ·exact C.grow hs (by omega)
   ·have h3:=(C.change hs h.1 h.2).2
    rcases h3 with ⟨h3,_⟩ | ⟨h3,_⟩ <;> omega
  obtain ⟨c1,c2,c3,c4,c5⟩:=C.clash hsk hs (by omega) u1 u2 hbk hne hwj
  rcases hch with h | h
  ·-- new: nobody that has run could know it
   obtain ⟨hch2,_⟩:=C.change hsk hbk hne
   have hd:=I.W k sk hsk hSk hch2 b c2
   cases hφb:φ b with
   | none=>exact hd hφb
   | some y=>have:=Inv.notNew C I hs hnj hpre hφb;omega
  ·have h3:=(C.change hs h.1 h.2).2
   rcases h3 with ⟨_,h3⟩ | ⟨h3,_⟩
   ·exact c5 h3
   ·exact c3 h3
 -- an untouched block's concrete row, if it is not in the state that ran
 have stale:∀ b B o1 ro e cs,φ b=some (B,o1)→(R.Hh (κ b)).blk b=.row ro e cs→((R.Hh (j + 1)).size≤b ∨ ¬ p0k R κ j b)→b < (R.Hh j).size ∨ (R.Hh (j + 1)).size≤b→w'.heap[B]? = w.heap[B]?:=by
  intro b B o1 ro e cs hb hrow hout hrange
  have hrk:=(I.Rr b B o1 hb).2.2.2.2 ro e cs hrow
  refine hS.frame B hrk.lt ?_
  intro b1 o2 e1 cs1 hb1 hfl1 hrow1
  obtain ⟨g1,g2⟩:=a0P.1 hb1
  obtain ⟨g3,g4⟩:=c0O g2 hrow1
  have hne:b1 ≠ b:=by
   intro e;subst e
   rcases hout with h | h
   ·omega
   ·exact h g3
  have:=I.P b1 b B o2 o1 e1 cs1 g2 hb hne (by rw [← g3.2];exact g4)
  rw [this] at hrow;cases hrow
 -- the blocks of the state that ran
 have inRow:∀ b,b < (R.Hh (j + 1)).size→(ch b ∨ p0k R κ j b)→φ' b ≠ none→G1.blk b=(R.Hh (κ' b)).blk b:=by
  intro b hlt hin hdom
  by_cases hc:ch b
  ·rw [hκ1 b hc]
   rcases hc with h | h
   ·exact hpar.more b h.1
   ·exact hpar.diff b h.1 h.2
  ·rw [hκ2 b hc]
   have hg : p0k R κ j b := by rcases hin with h | h; · exact R0q h hc
                               ·exact h
   have hltj:b < (R.Hh j).size:=by
    by_cases h:b < (R.Hh j).size
    ·exact h
    ·exact R0q (.inl ⟨by omega,hlt⟩) hc
   have hsame:(R.Hh (j + 1)).blk b=(R.Hh j).blk b:=R0C fun h=>hc (.inr ⟨hltj,h⟩)
   rw [hpar.same b hltj hsame,f0p,R0c (fun h=>h.2 hg),hg.2]
 have hRr:∀ b B o,φ' b=some (B,o)→κ' b≤l.length∧b < (R.Hh (κ' b)).size∧(κ' b=0 ∨ ∃ k,κ' b=k + 1∧k < l.length∧(Sd k ∨ k=j)∧((R.Hh k).size≤b ∨ (R.Hh (k + 1)).blk b ≠ (R.Hh k).blk b)) ∧
   (∀ k,κ' b≤k→k < l.length→(Sd k ∨ k=j)→(R.Hh (k + 1)).blk b=(R.Hh k).blk b) ∧
   ∀ ro e cs,(R.Hh (κ' b)).blk b=.row ro e cs→m0x X (cut φ' (R.Hh (κ' b)).size) w' B o ro e cs:=by
  intro b B o1 hb
  by_cases hc:ch b
  ·rw [hκ1 b hc]
   have hlt:b < (R.Hh (j + 1)).size:=by rcases hc with h | h <;> omega
   refine ⟨by omega,hlt,.inr ⟨j,rfl,hj,.inr rfl,?_⟩,later b hc (by rw [hb];simp),?_⟩
   ·rcases hc with h | h
    ·exact .inl h.1
    ·exact .inr h.2
   ·intro ro e cs hrow
    have hG:=inRow b hlt (.inl hc) (by rw [hb];simp)
    rw [hκ1 b hc] at hG
    obtain ⟨c,el,fz,k1,k2,k3,k4⟩:=hS.rel.row b B o1 ro e cs (fC b _ hb hlt) (by rw [hG];exact hrow)
    exact ⟨c,el,fz,k1,k2,k3.mono cutB (fun _ _ h=>h),k4⟩
  ·rw [hκ2 b hc]
   have hnr:¬ ((R.Hh j).size≤b∧b < (R.Hh (j + 1)).size):=fun h=>hc (.inl h)
   have hb0:=fOut b _ hb hnr
   obtain ⟨h1,h2,h3,h4,h5⟩:=I.Rr b B o1 hb0
   refine ⟨h1,h2,?_,?_,?_⟩
   ·rcases h3 with h3 | ⟨k,h6,h7,h8,h9⟩
    ·exact .inl h3
    ·exact .inr ⟨k,h6,h7,.inl h8,h9⟩
   ·intro k hk hkl hSk
    rcases hSk with h | h
    ·exact h4 k hk hkl h
    ·subst h
     by_cases hbj:b < (R.Hh k).size
     ·exact R0C fun h=>hc (.inr ⟨hbj,h⟩)
     ·rw [dead_ge (by omega),dead_ge (by omega)]
   ·intro ro e cs hrow
    have hold:=h5 ro e cs hrow
    have hrange:b < (R.Hh j).size ∨ (R.Hh (j + 1)).size≤b:=by omega
    by_cases hg:b < (R.Hh j).size∧p0k R κ j b
    ·-- in the state that ran
     have hG:=inRow b (by omega) (.inr hg.2) (by rw [hb];simp)
     rw [hκ2 b hc] at hG
     obtain ⟨c,el,fz,k1,k2,k3,k4⟩:=hS.rel.row b B o1 ro e cs (fC b _ hb (by omega)) (by rw [hG];exact hrow)
     obtain ⟨c0,el0,fz0,q1,q2,q3,q4⟩:=hold
     have hcut:=CR.cut (m:=(R.Hh (κ b)).size) (fun b y h=>(a0P.1 h).1) q3 k3
     exact ⟨c,el,fz,k1,k2,hcut.mono (g0w (Q0W _) (fun b y _ h=>(fB b y h).2)) (fun _ _ h=>h),k4⟩
    ·have hout:(R.Hh (j + 1)).size≤b ∨ ¬ p0k R κ j b:=by
      by_cases h:(R.Hh (j + 1)).size≤b
      ·exact .inl h
      ·exact .inr fun hgd=>hg ⟨by omega,hgd⟩
     exact hold.mono (g0w (Q0W _) (fun b y _ h=>fA b y h)) hS.shp (stale b B o1 ro e cs hb0 hrow hout hrange)
 have hM:∀ b B o,φ' b=some (B,o)→(R.Hh (κ' b)).blk b=.emap→w'.heap[B]? = some (.map #[] 0):=by
  intro b B o1 hb hm
  by_cases hc:ch b
  ·have hlt:b < (R.Hh (j + 1)).size:=by rcases hc with h | h <;> omega
   have hG:=inRow b hlt (.inl hc) (by rw [hb];simp)
   exact hS.rel.mp b B o1 (fC b _ hb hlt) (by rw [hG];exact hm)
  ·rw [hκ2 b hc] at hm
   have hnr:¬ ((R.Hh j).size≤b∧b < (R.Hh (j + 1)).size):=fun h=>hc (.inl h)
   have h1:=I.M b B o1 (fOut b _ hb hnr) hm
   rw [hS.frame B (R0n.1 h1).1 ?_]
   ·exact h1
   ·intro b1 o2 e1 cs1 hb1 hfl1 hrow1
    obtain ⟨g1,g2⟩:=a0P.1 hb1
    obtain ⟨g3,g4⟩:=c0O g2 hrow1
    obtain ⟨c,el,fz,k1,_⟩:=(I.Rr b1 B o2 g2).2.2.2.2 false e1 cs1 (by rw [← g3.2];exact g4)
    rw [h1] at k1;cases k1
 refine ⟨φ',κ',θ',?_⟩
 refine
  { done := ?_
    down:=?_
    tlen:=?_
    defers:=?_
    base:=R0z I.base hS.wsz
    T:=?_
    D:=?_
    Rr:=?_
    P:=?_
    M:=hM
    W:=?_
    glob:=?_ }
 ·intro k hk hSk
  rcases hSk with h | h
  ·exact I.done k hk h
  ·subst h;exact hst
 ·intro k hk hSk i hi
  rcases hSk with h | h
  ·exact .inl (I.down k hk h i hi)
  ·subst h;exact .inl (hpre i hi)
 ·cases s.dst <;> simp [Act.put,I.tlen]
 ·rw [h0l];exact I.defers
 ·-- slots
  intro x hx
  have hlen:=C.tab.len
  by_cases hd:s.dst=some x
  ·have hθ:θ' x=j + 1:=R0k hd
   rw [hθ]
   refine ⟨by omega,.inr ⟨j,s,rfl,.inr rfl,hs,hd⟩,?_,?_⟩
   ·intro k sk hk hSk hsk hdk
    have hkl:k < l.length:=(R0t.1 hsk).1
    have hSk : Sd k := by rcases hSk with h | h; · exact h
                          ·omega
    obtain ⟨u1,u2⟩:=Inv.unord C I hs hnj hpre hkl (by omega) (.inl ⟨hSk,by omega⟩)
    obtain ⟨oj,hoj,_⟩:=C.tab.op j s hs
    obtain ⟨ok,hok,_⟩:=C.tab.op k sk hsk
    exact ((C.tab.two (by omega) (by omega) (by omega) u1 u2 hok hoj hsk hs).1 x hdk).2 hd
   ·rw [hT',m0D,R0k ⟨hd,by rw [C.tlen (by omega)];exact hx⟩]
    have e1:(a.put s.dst v').tmps.getD x undef=v':=by
     rw [hd]
     simp only [Act.put]
     rw [a0I]
     simp only [Array.toList_setIfInBounds,Q0T,T0e]
     rw [R0k (by simp)]
     have:x < a.tmps.size:=by have:=I.tlen;omega
     simp [this]
    rw [e1]
    exact hv.mono cutB (fun _ _ h=>h)
  ·have hθ:θ' x=θ x:=R0c hd
   rw [hθ]
   obtain ⟨h1,h2,h3,h4⟩:=I.T x hx
   refine ⟨h1,?_,?_,?_⟩
   ·rcases h2 with h2 | ⟨k,sk,h5,h6,h7⟩
    ·exact .inl h2
    ·exact .inr ⟨k,sk,h5,.inl h6,h7⟩
   ·intro k sk hk hSk hsk
    rcases hSk with h | h
    ·exact h3 k sk hk h hsk
    ·subst h;rw [hs] at hsk;cases hsk;exact hd
   ·have e1:(a.put s.dst v').tmps.getD x undef=a.tmps.getD x undef:=by
     cases hsd:s.dst with
     | none=>rfl
     | some d =>
      have hdx:d ≠ x:=fun e=>hd (by rw [hsd,e])
      simp only [Act.put]
      rw [a0I,a0I]
      simp only [Array.toList_setIfInBounds,Q0T,T0e]
      rw [R0c hdx]
    rw [e1]
    exact h4.mono (g0w (Q0W _) (fun b y _ h=>fA b y h)) hS.shp
 ·-- which blocks there are
  intro b y hb
  by_cases hc:(R.Hh j).size≤b∧b < (R.Hh (j + 1)).size
  ·exact .inr ⟨j,hj,.inr rfl,hc.1,hc.2⟩
  ·rcases I.D b y (fOut b y hb hc) with h | ⟨k,h1,h2,h3⟩
   ·exact .inl h
   ·exact .inr ⟨k,h1,.inl h2,h3⟩
 ·exact hRr
 ·-- apart
  intro b b' B o1 o2 e cs hb hb' hne hrow
  let inS:Nat→Prop:=fun b=>b < (R.Hh (j + 1)).size∧(ch b ∨ p0k R κ j b)
  have outF:∀ b y,φ' b=some y→¬ inS b→¬ ch b∧φ b=some y∧(b < (R.Hh j).size ∨ (R.Hh (j + 1)).size≤b)∧((R.Hh (j + 1)).size≤b ∨ ¬ p0k R κ j b):=by
   intro b y hb hno
   have h1:¬ ch b:=fun hc=>hno ⟨by rcases hc with h | h <;> omega,.inl hc⟩
   have hnr:¬ ((R.Hh j).size≤b∧b < (R.Hh (j + 1)).size):=fun h=>h1 (.inl h)
   refine ⟨h1,fOut b y hb hnr,by omega,?_⟩
   by_cases h:(R.Hh (j + 1)).size≤b
   ·exact .inl h
   ·exact .inr fun hg=>hno ⟨by omega,.inr hg⟩
  have deadOr:∀ (x:Blk),x ≠ .emap→(∀ ro e cs,x ≠ .row ro e cs)→x=.dead:=fun x h0 h=>by cases x with | dead=>rfl | row ro e cs=>exact R0q rfl (h ro e cs) | emap=>exact R0q rfl h0
  have noMap:(R.Hh (κ' b')).blk b' ≠ .emap:=fun h=>by
   obtain ⟨c,el,fz,k1,_⟩:=(hRr b B o1 hb).2.2.2.2 false e cs hrow
   rw [hM b' B o2 hb' h] at k1;cases k1
  by_cases i1:inS b
  ·have hG:=inRow b i1.1 i1.2 (by rw [hb];simp)
   have hb1:=fC b _ hb i1.1
   by_cases i2:inS b'
   ·have hG':=inRow b' i2.1 i2.2 (by rw [hb'];simp)
    rw [← hG']
    exact hS.rel.sep b b' B o1 o2 e cs hb1 (fC b' _ hb' i2.1) hne (by rw [hG];exact hrow)
   ·obtain ⟨n1,n2,n3,n4⟩:=outF b' _ hb' i2
    rw [hκ2 b' n1]
    rw [hκ2 b' n1] at noMap
    apply deadOr _ noMap
    intro ro2 e2 cs2 hr2
    have hlt2:=((I.Rr b' B o2 n2).2.2.2.2 ro2 e2 cs2 hr2).lt
    -- who owned the block before
    have owner:∃ b0 o0 e0 cs0,cut φ (R.Hh j).size b0=some (B,o0)∧(j0y R φ κ j).blk b0=.row false e0 cs0:=by
     cases hc0:cut φ (R.Hh j).size b with
     | some z =>
      have:=hS.ext b z hc0
      rw [hb1] at this;cases this
      obtain ⟨cs0,h0⟩:=hS.kind b e cs (hmaskRel.lt b _ hc0) (by rw [hG];exact hrow)
      exact ⟨b,o1,e,cs0,hc0,h0⟩
     | none =>
      rcases hS.newB b B o1 hb1 hc0 with h | ⟨b0,o0,e0,cs0,h1,_,h2⟩
      ·omega
      ·exact ⟨b0,o0,e0,cs0,h1,h2⟩
    obtain ⟨b0,o0,e0,cs0,q1,q2⟩:=owner
    obtain ⟨q3,q4⟩:=a0P.1 q1
    obtain ⟨q5,q6⟩:=c0O q4 q2
    have hne0:b0 ≠ b':=by
     intro e;subst e
     rcases n4 with h | h
     ·omega
     ·exact h q5
    have:=I.P b0 b' B o0 o2 e0 cs0 q4 n2 hne0 (by rw [← q5.2];exact q6)
    rw [this] at hr2;cases hr2
  ·obtain ⟨n1,n2,n3,n4⟩:=outF b _ hb i1
   rw [hκ2 b n1] at hrow
   by_cases i2:inS b'
   ·have hG':=inRow b' i2.1 i2.2 (by rw [hb'];simp)
    have hb1':=fC b' _ hb' i2.1
    have hltb:=((I.Rr b B o1 n2).2.2.2.2 false e cs hrow).lt
    cases hc0:cut φ (R.Hh j).size b' with
    | none =>
     rcases hS.newB b' B o2 hb1' hc0 with h | ⟨b0,o0,e0,cs0,h1,_,h2⟩
     ·omega
     ·exfalso
      obtain ⟨q3,q4⟩:=a0P.1 h1
      obtain ⟨q5,q6⟩:=c0O q4 h2
      have hne0:b0 ≠ b:=by
       intro e;subst e
       rcases n4 with h | h
       ·omega
       ·exact h q5
      have:=I.P b0 b B o0 o1 e0 cs0 q4 n2 hne0 (by rw [← q5.2];exact q6)
      rw [this] at hrow;cases hrow
    | some z =>
     have hz:=hS.ext b' z hc0
     rw [hb1'] at hz;cases hz
     obtain ⟨q3,q4⟩:=a0P.1 hc0
     have hdead:=I.P b b' B o1 o2 e cs n2 q4 hne hrow
     by_cases hc:ch b'
     ·rw [hκ1 b' hc]
      rw [hκ1 b' hc] at hG'
      rw [hκ1 b' hc] at noMap
      apply deadOr _ noMap
      intro ro2 e2 cs2 hr2
      have hcd : (R.Hh (j + 1)).blk b' ≠ (R.Hh j).blk b' := by rcases hc with h | h; · omega
                                                               ·exact h.2
      cases ro2 with
      | false =>
       obtain ⟨cs0,h0⟩:=hS.kind b' e2 cs2 (by rw [c0U];exact q3) (by rw [hG'];exact hr2)
       obtain ⟨q5,q6⟩:=c0O q4 h0
       rw [← q5.2,q6] at hdead;cases hdead
      | true =>
       have:=hks.kindR b' e2 cs2 q3 hr2
       exact hcd (by rw [hr2,this])
     ·rw [hκ2 b' hc];exact hdead
   ·obtain ⟨m1,m2,m3,m4⟩:=outF b' _ hb' i2
    rw [hκ2 b' m1]
    exact I.P b b' B o1 o2 e cs n2 m2 hne hrow
 ·-- what has been written leads to what is known
  intro k sk hsk hSk hk2 b hb
  rcases hSk with h | h
  ·have:=I.W k sk hsk h hk2 b hb
   cases hφb:φ b with
   | none=>exact R0q hφb this
   | some y=>rw [fA b y hφb];simp
  ·subst h
   have:=hW b hb
   cases hφb:φ b with
   | none=>exact R0q hφb this
   | some y=>rw [fA b y hφb];simp
 ·-- held against the beginning
  have g:=I.glob
  refine
   { ext := fun b x h => fA b x (g.ext b x h)
     shp:=fun B x h=>hS.shp B x (g.shp B x h)
     wsz:=R0z g.wsz hS.wsz
     os:=hS.os.trans g.os
     tape:=hS.tape.trans g.tape
     out:=hS.out.trans g.out
     fresh:=fun b y hb hn=>by
      by_cases hc:(R.Hh j).size≤b∧b < (R.Hh (j + 1)).size
      ·exact R0z (C.szmono (R0H _) (by omega)) hc.1
      ·exact g.fresh b y (fOut b y hb hc) hn
     newB:=?_
     frame:=?_ }
  ·intro b B o1 hb hn
   have viaOld:∀ b0 o0 e0 cs0,φ b0=some (B,o0)→b0 < (R.Hh j).size→fl≤b0→(R.Hh j).blk b0=.row false e0 cs0→w0.heap.size≤B ∨ ∃ b0 o0 e cs,φ0 b0=some (B,o0)∧fl≤b0∧(R.Hh 0).blk b0=.row false e cs:=by
    intro b0 o0 e0 cs0 h1 h2 h3 h4
    cases h5:φ0 b0 with
    | none=>exact g.newB b0 B o0 h1 h5
    | some z =>
     have:=g.ext b0 z h5
     rw [h1] at this;cases this
     have hlt0:b0 < (R.Hh 0).size:=by
      by_cases h:b0 < (R.Hh 0).size
      ·exact h
      ·exfalso
       -- known from the beginning, so it was there
       have:=hφ0 b0 _ h5;omega
     obtain ⟨cs1,h6⟩:=(C.keep0 (by omega:j≤l.length)).2.kind b0 e0 cs0 hlt0 h4
     exact .inr ⟨b0,o0,e0,cs1,h5,h3,h6⟩
   by_cases hc:(R.Hh j).size≤b∧b < (R.Hh (j + 1)).size
   ·have hb1:=fC b _ hb hc.2
    have hcn:cut φ (R.Hh j).size b=none:=by unfold cut;rw [R0c (by omega)]
    rcases hS.newB b B o1 hb1 hcn with h | ⟨b0,o0,e0,cs0,h1,h2,h3⟩
    ·exact .inl (R0z g.wsz h)
    ·obtain ⟨q3,q4⟩:=a0P.1 h1
     obtain ⟨q5,q6⟩:=c0O q4 h3
     exact viaOld b0 o0 e0 cs0 q4 q3 h2 q6
   ·exact g.newB b B o1 (fOut b _ hb hc) hn
  ·intro B hB hno
   rw [hS.frame B (R0r hB g.wsz) ?_,g.frame B hB hno]
   intro b1 o2 e1 cs1 hb1 hfl1 hrow1
   obtain ⟨q3,q4⟩:=a0P.1 hb1
   obtain ⟨q5,q6⟩:=c0O q4 hrow1
   cases h5:φ0 b1 with
   | none =>
    rcases g.newB b1 B o2 q4 h5 with h | ⟨b0,o0,e0,cs0,h1,h2,h3⟩
    ·omega
    ·exact hno b0 o0 e0 cs0 h1 h2 h3
   | some z =>
    have:=g.ext b1 z h5
    rw [q4] at this;cases this
    have hlt0:b1 < (R.Hh 0).size:=hφ0 b1 _ h5
    obtain ⟨cs2,h6⟩:=(C.keep0 (by omega:j≤l.length)).2.kind b1 e1 cs1 hlt0 q6
    exact hno b1 o2 e1 cs2 h5 hfl1 h6
end
section
open Go
variable {X:Cx} {call:Nat→FuncId→List Value→a0c→Res (Value × a0c)} {fl:Nat} {ops:Array Oper} {l:List a0w} {bef:List Nat} {pairs:List (Nat × Nat)} {R:Run} (C:Ctx X call fl ops l bef pairs R)
variable {φ0 φ:Inj} {w0 w w':World} {Sd:Nat→Prop} {κ θ:Nat→Nat} {a:Act} (I:Inv X fl ops l bef R φ0 w0 Sd φ κ θ a w)
include C I
theorem Inv.final (hall:∀ k,k < l.length→Sd k) (hφ0:∀ b y,φ0 b=some y→b < (R.Hh 0).size) :
  CR X φ w.shape? (R.T l.length) a.tmps.toList∧c0T X fl φ0 (R.Hh 0) w0 φ (R.Hh l.length) w∧R.Pn l.length=none:=by
 have hrows:∀ b y,φ b=some y→(R.Hh l.length).blk b=(R.Hh (κ b)).blk b:=by
  intro b y hb
  obtain ⟨B,o1⟩:=y
  obtain ⟨h1,h2,h3,h4,h5⟩:=I.Rr b B o1 hb
  have:∀ m,κ b≤m→m≤l.length→(R.Hh m).blk b=(R.Hh (κ b)).blk b:=by
   intro m hm
   induction m with
   | zero=>intro _;congr 2;omega
   | succ m ih =>
    intro hml
    by_cases hc:κ b=m + 1
    ·rw [hc]
    ·rw [← ih (by omega) (by omega)]
     exact h4 m (by omega) (by omega) (hall m (by omega))
  exact this _ h1 (Q0W _)
 have hdom:∀ b y,φ b=some y→b < (R.Hh l.length).size:=by
  intro b y hb
  obtain ⟨B,o1⟩:=y
  obtain ⟨h1,h2,_⟩:=I.Rr b B o1 hb
  exact R0r h2 (C.szmono h1 (Q0W _))
 have g:=I.glob
 refine ⟨⟨?_,?_⟩,?_,?_⟩
 ·rw [C.tlen (Q0W _)];simp [I.tlen]
 ·intro x hx
  rw [C.tlen (Q0W _)] at hx
  obtain ⟨h1,h2,h3,h4⟩:=I.T x hx
  have:∀ m,θ x≤m→m≤l.length→get (R.T m) x=get (R.T (θ x)) x:=by
   intro m hm
   induction m with
   | zero=>intro _;congr 2;omega
   | succ m ih =>
    intro hml
    by_cases hc:θ x=m + 1
    ·rw [hc]
    ·rw [← ih (by omega) (by omega)]
     apply R0C
     intro hne
     obtain ⟨sm,hsm⟩:=C.sAt (by omega:m < l.length)
     exact h3 m sm (by omega) (hall m (by omega)) hsm (C.slot hsm hne).2
  have e1:=this _ h1 (Q0W _)
  simp only [get] at e1 h4
  rw [e1,← a0I a.tmps]
  exact h4.mono (fun b y h=>(a0P.1 h).2) (fun _ _ h=>h)
 ·have hk:=(C.keep0 (Q0W _)).2
  refine
   { ext := g.ext
     rel:=?_
     shp:=g.shp
     wsz:=g.wsz
     os:=g.os
     tape:=g.tape
     out:=g.out
     hsz:=hk.size
     keep:=fun b hb=>hk.low b hb
     kind:=fun b e cs hb h=>hk.kind b e cs hb h
     fresh:=g.fresh
     newB:=g.newB
     frame:=g.frame }
  refine { bs:=I.base,lt:=fun b x h=>hdom b x h,row:=?_,sep:=?_,mp:=fun b B o hb hm=>I.M b B o hb (by rw [← hrows b _ hb];exact hm) }
  ·intro b B o1 ro e cs hb hrow
   obtain ⟨c,el,fz,k1,k2,k3,k4⟩:=(I.Rr b B o1 hb).2.2.2.2 ro e cs (by rw [← hrows b _ hb];exact hrow)
   exact ⟨c,el,fz,k1,k2,k3.mono (fun b y h=>(a0P.1 h).2) (fun _ _ h=>h),k4⟩
  ·intro b b' B o1 o2 e cs hb hb' hne hrow
   rw [hrows b' _ hb']
   exact I.P b b' B o1 o2 e cs hb hb' hne (by rw [← hrows b _ hb];exact hrow)
 ·cases hp:R.Pn l.length with
  | none=>rfl
  | some pv =>
   obtain ⟨p,v⟩:=pv
   obtain ⟨h1,h2⟩:=C.pan (Q0W _) p v hp
   have:=I.done p h1 (hall p h1)
   omega
theorem Inv.panned {j:Nat} {s:a0w} (hs:l[j]? = some s) (hnj:¬ Sd j) (hpre:∀ i,a0O bef i j=true→Sd i) (hφ0:∀ b y,φ0 b=some y→b < (R.Hh 0).size)
  (hp:Pan X fl (cut φ (R.Hh j).size) (j0y R φ κ j) w w'):Pan X fl φ0 (R.Hh 0) w0 w':=by
 have hj:j < l.length:=(R0t.1 hs).1
 have g:=I.glob
 refine { shp:=fun B x h=>hp.shp B x (g.shp B x h),wsz:=R0z g.wsz hp.wsz,os:=hp.os.trans g.os,tape:=hp.tape.trans g.tape,out:=hp.out.trans g.out,frame:=?_ }
 intro B hB hno
 rw [hp.frame B (R0r hB g.wsz) ?_,g.frame B hB hno]
 intro b1 o2 e1 cs1 hb1 hfl1 hrow1
 obtain ⟨q3,q4⟩:=a0P.1 hb1
 obtain ⟨q5,q6⟩:=c0O q4 hrow1
 cases h5:φ0 b1 with
 | none =>
  rcases g.newB b1 B o2 q4 h5 with h | ⟨b0,o0,e0,cs0,h1,h2,h3⟩
  ·omega
  ·exact hno b0 o0 e0 cs0 h1 h2 h3
 | some z =>
  have:=g.ext b1 z h5
  rw [q4] at this;cases this
  have hlt0:b1 < (R.Hh 0).size:=hφ0 b1 _ h5
  obtain ⟨cs2,h6⟩:=(C.keep0 (by omega:j≤l.length)).2.kind b1 e1 cs1 hlt0 q6
  exact hno b1 o2 e1 cs2 h5 hfl1 h6
def l0D (us:List Nat) (n:Nat) (f:Nat→Value):List Value:=(List.range n).map fun x=>if x ∈ us then f x else undef
omit C I in
theorem l0E (us:List Nat) (n:Nat) (f:Nat→Value) (x:Nat):(l0D us n f).getD x undef=if x < n∧x ∈ us then f x else undef:=by
 unfold l0D
 simp only [Q0T,R0M]
 by_cases hx:x < n
 ·rw [S0h hx]
  simp [hx]
 ·rw [R0d (by simp;omega)]
  simp [hx]
theorem Inv.one (hφ0:∀ b y,φ0 b=some y→b < (R.Hh 0).size) {j:Nat} {s:a0w} {o:Oper} (hs:l[j]? = some s) (ho:ops[j]? = some o) (hco:∃ ln,h0T X.P ops ln o=some s) (hnj:¬ Sd j)
  (hpre:∀ i,a0O bef i j=true→Sd i) {K:Act→World→Prop} {Q:Exit→Act→World→Prop}
  (hK:∀ φ' κ' θ' a' w',Inv X fl ops l bef R φ0 w0 (fun k=>Sd k ∨ k=j) φ' κ' θ' a' w'→K a' w')
  (hQ:R.st j=3→∀ ty u w',Pan X fl φ0 (R.Hh 0) w0 w'→Q (.panic [{ v:=.iface ty u,recovered:=false }]) a w'):wpOp X.P ops Q j K a w:=by
 have hj:j < l.length:=(R0t.1 hs).1
 obtain ⟨ln,hco⟩:=hco
 obtain ⟨hcop,hflat,hdst⟩:=e0d hco
 have hslot:=fun {x:Nat}=>Inv.slot C I hs ho hnj hpre (x:=x)
 have hrel:=Inv.rel C I hs hnj hpre
 have hTlen:=C.tlen (show j≤l.length by omega)
 -- the guard
 have hwant:Region.wanted o (yielded ops a.tmps)=b0d (R.T j) s.g:=by
  refine j0n (φ:=cut φ (R.Hh j).size) (S:=w.shape?) (X:=X) hco ?_
  intro d want hg
  by_cases hd:d < (R.T 0).length
  ·exact hslot hd (by simp [f0M,hg])
  ·have e1:get (R.T j) d=undef:=by
    unfold get;rw [Q0T,R0d (by omega)];rfl
   have e2:a.tmps.getD d undef=undef:=by
    have:=I.tlen
    rw [R0e,S0e (by omega)];rfl
   rw [e1,e2];exact VR.undef
 unfold wpOp
 simp only [ho]
 rw [hwant]
 -- the frame with the slots that matter alone
 have hmaskT:CR X (cut φ (R.Hh j).size) w.shape? (l0D (f0M o s) (R.T 0).length (fun x=>get (R.T j) x)) (l0D (f0M o s) (R.T 0).length (fun x=>a.tmps.getD x undef)):=by
  unfold l0D
  refine CR.of_mem_map _ _ _ ?_
  intro x hx
  have hx:=R0Q.1 hx
  split
  ·rename_i hu;exact hslot hx hu
  ·exact VR.undef
 let tj:a0Q:=l0D (f0M o s) (R.T 0).length (fun x=>get (R.T j) x)
 let aj:Act:={ tmps:=(l0D (f0M o s) (R.T 0).length (fun x=>a.tmps.getD x undef)).toArray,defers:=a.defers }
 have hmaskT':CR X (cut φ (R.Hh j).size) w.shape? tj aj.tmps.toList:=by simpa [aj] using hmaskT
 have hev:∀ x ∈ a0j s.op,ev tj x=ev (R.T j) x:=by
  intro x hx
  cases x with
  | tmp d =>
   simp only [ev,get,tj,l0E]
   have hu:d ∈ f0M o s:=by
    unfold f0M
    simp only [R0v,List.mem_filterMap]
    exact .inl (.inl ⟨.tmp d,hx,rfl⟩)
   by_cases hd:d < (R.T 0).length
   ·rw [R0k ⟨hd,hu⟩]
   ·rw [R0c (fun h=>hd h.1),Q0T,R0d (by omega)];rfl
  | const v=>rfl
  | fn f=>rfl
 have hexec:execOp a.eval o=execOp aj.eval o:=by
  refine execOp_congr o (fun cs b=>C.tab.nosel j o cs b ho) ?_
  intro x hx
  cases x with
  | tmp d =>
   have hu:d ∈ f0M o s:=by
    unfold f0M
    simp only [R0v,List.mem_filterMap]
    exact .inr ⟨.tmp d,by simpa using hx,rfl⟩
   simp only [Act.eval,aj]
   rw [a0I (l0D _ _ _).toArray]
   simp only [List.toList_toArray,l0E]
   by_cases hd:d < (R.T 0).length
   ·rw [R0k ⟨hd,hu⟩]
   ·have hle:a.tmps.size≤d:=by rw [I.tlen];exact Nat.le_of_not_lt hd
    rw [R0c (fun h=>hd h.1),R0e,S0e hle];rfl
  | const v=>rfl
  | func f=>rfl
  | global g=>rfl
 have hlowm:fl≤(j0y R φ κ j).size:=by rw [c0U];exact (C.keep0 (by omega:j≤l.length)).1
 -- what the operation comes to, in the masked state
 have hcallMask:way s.op=3→j0y R φ κ j=R.Hh j:=by
  intro hw
  apply Array.ext
  ·exact c0U _ _ _ _
  ·intro i h1 h2
   have hb:(j0y R φ κ j).blk i=(R.Hh j).blk i:=by
    rw [f0p]
    split
    ·rename_i hc
     exfalso
     cases hφi:φ i with
     | none=>exact hc.1 hφi
     | some y=>exact hc.2 (Inv.good C I hs hnj hpre hφi h2 (by omega) (.inl hw))
    ·rfl
   simpa [a0c.blk,R0e,R0w h1,R0w h2] using hb
 rcases C.run j s hs with h | h | h | h
 ·-- it i0G on what has panicked: it is never come to
  exfalso
  have hh:=h.2.1
  cases hp:R.Pn j with
  | none=>rw [hp] at hh;cases hh
  | some pv =>
   obtain ⟨p,v⟩:=pv
   rw [hp] at hh
   have hS:=hpre p hh
   obtain ⟨h1,h2⟩:=C.pan (by omega:j≤l.length) p v hp
   have:=I.done p (by omega) hS
   omega
 ·-- not wanted
  rw [h.2.2.1]
  simp only [R0p,R0K]
  have:=Inv.after C I hs hnj hpre (v':=undef) (.inl h.1) (by rw [h.2.2.2.1];exact h.2.2.2.2.1) (by rw [h.2.2.2.2.2.1];exact Par.refl (c0U _ _ _ _)) (by rw [h.2.2.2.1];exact VR.undef) (c0T.refl hrel)
   (by intro b hb;rw [h.2.2.2.2.2.2.2] at hb;simp at hb) hφ0
  obtain ⟨φ',κ',θ',hI⟩:=this
  rw [← hdst]
  exact hK φ' κ' θ' _ _ hI
 ·rw [h.2.2.1]
  simp only [R0T]
  refine .inl ?_
  have htc:∀ b,b ∈ (R.tc j).1 ∨ b ∈ (R.tc j).2→way s.op ≠ 0:=by
   intro b hb
   rw [h.2.2.2.2.2.2] at hb
   rcases hb with hb | hb
   ·rcases p0V hb with h | h <;> omega
   ·have:=k0d hb;omega
  have hstep:∃ G1,b0V call fl tj (j0y R φ κ j) s.op=.ok (R.val j,G1)∧Par (R.Hh j) (R.Hh (j + 1)) (j0y R φ κ j) G1:=by
   rcases g0l h.2.2.2.1 with hv | ⟨f,args,lone,hc,hcl⟩
   ·obtain ⟨G1,g1,g2⟩:=r0i hv (c0U R φ κ j) (fun b hb=>by
     rw [f0p]
     split
     ·rename_i hcnd
      rw [← h.2.2.2.2.2.2] at hb
      by_cases hlt:b < (R.Hh j).size
      ·exfalso
       cases hφb:φ b with
       | none=>exact hcnd.1 hφb
       | some y=>exact hcnd.2 (Inv.good C I hs hnj hpre hφb hlt (htc b hb) (.inr hb))
      ·exact (f0O (by omega)).symm
     ·rfl)
    refine ⟨G1,?_,g2⟩
    unfold b0V
    rw [g0E hev,g1]
   ·have hm:=hcallMask (d0D hc).1
    refine ⟨R.Hh (j + 1),?_,?_⟩
    ·unfold b0V
     rw [g0E hev,f0S hc fl (j0y R φ κ j),hm]
     exact hcl
    ·rw [hm];exact ⟨rfl,fun _ _ e=>e,fun _ _ _=>rfl,fun _ _=>rfl⟩
  obtain ⟨G1,hst1,hpar⟩:=hstep
  refine p0f (o:=o) C.callOk hcop hflat hrel hmaskT' hlowm hst1 a hexec (fun φ1 v' w' hv hS=>?_)
  have hW:∀ b,b ∈ (R.tc j).2→φ b ≠ none:=by
   intro b hb
   rw [h.2.2.2.2.2.2,← n0W hev] at hb
   -- its operand leads there
   have key:∀ x ∈ a0j s.op,(b ∈ blkW (ev tj x) ∨ ∃ p,ev tj x=.pointer (some p)∧b=p.block)→φ b ≠ none:=by
    intro x hx hbx
    have hvx:∃ u,VR X (cut φ (R.Hh j).size) w.shape? (ev tj x) u:=by
     cases x with
     | tmp d=>exact ⟨_,by simpa [ev,get] using hmaskT'.get d⟩
     | const v =>
      have:=S0b.1 hflat _ hx
      exact ⟨v,i0E this⟩
     | fn f=>exact ⟨_,.func _ _ _ _ _ rfl (fun i hi=>by simp at hi) rfl (fun i hi=>by simp at hi)⟩
    obtain ⟨u,hvx⟩:=hvx
    generalize ev tj x=vv at hvx hbx
    cases hvx <;> simp [blkW] at hbx
    ·rename_i B o1 g1 g2 g3;subst hbx;rw [(a0P.1 g2).2];simp
    ·rename_i B o1 g1 g2 _ _ _ _ _ _;obtain ⟨_,hbx⟩:=hbx;subst hbx;rw [(a0P.1 g2).2];simp
   cases hop:s.op <;> rw [hop] at hb <;> simp only [c0z] at hb
   case store n x y =>
    have hop2:=hop
    have hbp:∃ p,ev tj x=.pointer (some p):=by
     have h3:=h.2.2.2.1
     have hx:ev tj x=ev (R.T j) x:=hev x (by rw [hop];simp [a0j])
     rw [hx]
     rw [hop] at h3
     simp only [b0V,opA] at h3
     cases hq:ev (R.T j) x <;> simp [hq] at h3
     rename_i p;cases p <;> simp at h3
     exact ⟨_,rfl⟩
    obtain ⟨p,hp⟩:=hbp
    rw [hp] at hb
    simp only [blkOf,R0U] at hb
    exact key x (by rw [hop];simp [a0j]) (.inr ⟨p,hp,hb⟩)
   case app e n bb x y=>exact key x (by rw [hop];simp [a0j]) (.inl hb)
   all_goals (simp at hb)
  obtain ⟨φ',κ',θ',hI⟩:=Inv.after C I hs hnj hpre (.inr h.1) h.2.2.2.2.1 hpar hv hS hW hφ0
  rw [← hdst]
  exact hK φ' κ' θ' _ _ hI
 ·-- it panics
  rw [h.2.2.1]
  simp only [R0T]
  refine .inl ?_
  have hstep:b0V call fl tj (j0y R φ κ j) s.op=.pan (R.val j):=by
   have hp:=h.2.2.2.1
   unfold b0V at hp ⊢
   split at hp
   ·cases hp
   ·rename_i v1 hv
    simp only [Res.pan.injEq] at hp;subst hp
    obtain ⟨_,x,hx1,hx2⟩:=e0j hv
    have:opA fl tj (j0y R φ κ j) s.op=.pan (R.val j):=by
     rw [g0E hev,hx1]
     rw [hx1] at hv
     simpa [opA] using hv
    rw [this]
   ·cases hp
   ·rename_i f args lone hc
    have hm:=hcallMask (d0D hc).1
    rw [g0E hev,f0S hc fl (j0y R φ κ j),hm]
    exact hp
  refine m0o (o:=o) C.callOk hcop hflat hrel hmaskT' hlowm hstep a hexec (fun ty u w' hp=>hQ h.1 ty u w' (Inv.panned C I hs hnj hpre hφ0 hp))
end
section
open Go
variable {X:Cx} {call:Nat→FuncId→List Value→a0c→Res (Value × a0c)}
def left (listed:Array Bool) (n:Nat):Nat:=((List.range n).filter fun k=>!listed.getD k false).length
theorem q0S {listed:Array Bool} {n:Nat} (h:left listed n=0):∀ k,k < n→listed.getD k false=true:=by
 intro k hk
 unfold left at h
 have:=R0x.1 h
 rw [List.filter_eq_nil_iff] at this
 have:=this k (R0Q.2 hk)
 simpa using this
theorem w0J {listed:Array Bool} {n j:Nat} (hj:j < n) (hsz:listed.size=n) (hn:listed.getD j false=false):left listed n=left (listed.setIfInBounds j true) n + 1:=by
 unfold left
 have key:∀ m,m≤n→((List.range m).filter fun k=>!listed.getD k false).length=((List.range m).filter fun k=>!(listed.setIfInBounds j true).getD k false).length + if j < m then 1 else 0:=by
  intro m
  induction m with
  | zero=>intro _;simp
  | succ m ih =>
   intro hm
   have ih:=ih (by omega)
   rw [List.range_succ,List.filter_append,List.filter_append,R0A,R0A,ih]
   by_cases hjm:j=m
   ·subst hjm
    have e1:(listed.setIfInBounds j true).getD j false=true:=by
     simp only [R0e,S0a]
     simp [show j < listed.size by omega]
    simp only [List.filter_cons,List.filter_nil,hn,e1]
    simp
   ·have e1:(listed.setIfInBounds j true).getD m false=listed.getD m false:=getD_set_ne false hjm
    simp only [List.filter_cons,List.filter_nil,e1]
    have:(j < m + 1) ↔ (j < m):=by omega
    simp only [this]
    omega
 have:=key n (Q0W _)
 rw [R0k hj] at this
 exact this
theorem x0B {listed:Array Bool} {n j:Nat} (hj:j < n) (hsz:listed.size=n) (k:Nat):(listed.setIfInBounds j true).getD k false=true ↔ listed.getD k false=true ∨ k=j:=by
 by_cases hk:k=j
 ·subst hk
  simp only [R0e,S0a]
  simp [show k < listed.size by omega]
 ·rw [getD_set_ne false (fun e=>hk e.symm)]
  simp [hk]
theorem F0u (hcall:d0J X call) (hkeep:f0k call) (hmix:X.P.follows .mixedOrders=true):q0h X call:=by
 intro ops l bef pairs hc D fl t H φ w a hR hT hfl hd hne id
 have tab:=x0J hc
 obtain ⟨R0,s1,s2,s3,s4,s5,s6⟩:=E0S l 0 t H none [] hne
 obtain ⟨R,rD,r1,r2,r3,r4,r5,r6⟩:∃ R:Run,R.ds=D∧R.T 0=t∧R.Hh 0=H∧R.Pn 0=none∧(∀ m s,l[m]? = some s→g0r call fl bef R (0 + m) s)∧c0M (([]:List (List Nat × List Nat)).reverse ++ (List.range' 0 l.length).map R.tc) pairs=true ∧
   b0J call fl bef pairs 0 l t H none []=match R.Pn (0 + l.length) with | none=>.fin .normal (R.T (0 + l.length)) (R.Hh (0 + l.length)) | some (_,v)=>.pan v :=
  ⟨{ R0 with ds:=D },rfl,s1,s2,s3,s4,s5,s6⟩
 simp only [R0B] at r4 r6
 have C:Ctx X call fl ops l bef pairs R:=⟨hcall,hkeep,tab,r4,by simpa using r5,r3,by rw [r2];exact hfl⟩
 have hφ0:∀ b y,φ b=some y→b < (R.Hh 0).size:=fun b y h=>by rw [r2];exact hR.lt b y h
 have hlen:=tab.len
 rw [r6]
 -- what a panic makes of the end
 have hend:∀ j,j < l.length→R.st j=3→∃ v,R.Pn l.length=some (j,v):=by
  intro j hj h3
  obtain ⟨s,hs⟩:=C.sAt hj
  have hpn:R.Pn (j + 1)=some (j,R.val j):=by
   rcases C.run j s hs with h | h | h | h
   ·have:=h.1;omega
   ·have:=h.1;omega
   ·have:=h.1;omega
   ·exact h.2.2.2.2.2.1
  have:∀ m,j + 1≤m→m≤l.length→R.Pn m=some (j,R.val j):=by
   intro m hm
   induction m with
   | zero=>omega
   | succ m ih =>
    intro hml
    by_cases hjm:j=m
    ·subst hjm;exact hpn
    ·have ih:=ih (by omega) (by omega)
     obtain ⟨sm,hsm⟩:=C.sAt (by omega:m < l.length)
     rcases C.run m sm hsm with h | h | h | h
     ·rw [h.2.2.2.2.1];exact ih
     ·rw [h.2.2.2.2.2.2.1];exact ih
     ·rw [h.2.2.2.2.2.1];exact ih
     ·rw [ih] at h;have:=h.2.2.2.2.1;cases this
  exact ⟨_,this _ (by omega) (Q0W _)⟩
 refine wp_region_any hmix ?_
 -- from whatever has run
 have key:∀ (fuel:Nat) (listed:Array Bool) (φ1:Inj) (κ θ:Nat→Nat) (a1:Act) (w1:World),listed.size=ops.size→left listed ops.size=fuel →
   Inv X fl ops l bef R φ w.drew (fun k=>listed.getD k false=true) φ1 κ θ a1 w1 →
   wpAny X.P .any ops (v0V X D fl φ H w (match R.Pn l.length with | none=>.fin .normal (R.T l.length) (R.Hh l.length) | some (_,v)=>.pan v)) fuel listed a1 w1:=by
  intro fuel
  induction fuel with
  | zero =>
   intro listed φ1 κ θ a1 w1 hsz hleft I
   have hall:=q0S hleft
   obtain ⟨f1,f2,f3⟩:=Inv.final C I (fun k hk=>hall k (by omega)) hφ0
   refine ⟨?_,?_⟩
   ·unfold Region.ready
    rw [List.filter_eq_nil_iff]
    intro k hk
    have hk:=R0Q.1 hk
    have:=hall k hk
    have e:listed.getD k true=true:=by
     simp only [R0e] at this ⊢
     rw [R0w (by omega)] at this ⊢
     simpa using this
    simp [e]
   ·rw [f3]
    refine ⟨rfl,I.defers.trans rD,φ1,f1,?_⟩
    rw [r2] at f2
    exact { f2 with }
  | succ fuel ih =>
   intro listed φ1 κ θ a1 w1 hsz hleft I
   refine ⟨fun hnil=>?_,fun j hj=>?_⟩
   ·-- something is still to run,and the first of it is ready
    exfalso
    have hex:∃ k,k < ops.size∧listed.getD k false=false:=by
     apply R0C
     intro hno
     have:left listed ops.size=0:=by
      unfold left
      rw [R0x,List.filter_eq_nil_iff]
      intro k hk
      have hk:=R0Q.1 hk
      intro hh
      exact hno ⟨k,hk,by simpa using hh⟩
     omega
    obtain ⟨k,hk,hmin⟩:∃ k,(k < ops.size∧listed.getD k false=false)∧∀ m,m < k→listed.getD m false=true:=by
     obtain ⟨k0,h1,h2⟩:=hex
     induction k0 using Nat.strongRecOn with
     | _ k0 ih2 =>
      by_cases hm:∃ m,m < k0∧listed.getD m false=false
      ·obtain ⟨m,h3,h4⟩:=hm
       exact ih2 m h3 (by omega) h4
      ·refine ⟨k0,⟨h1,h2⟩,fun m hm2=>?_⟩
       cases hl:listed.getD m false with
       | true=>rfl
       | false=>exact R0q ⟨m,hm2,hl⟩ hm
    have hmem:k ∈ Region.ready .any ops listed:=by
     unfold Region.ready
     rw [List.mem_filter]
     refine ⟨R0Q.2 hk.1,?_⟩
     have hok:ops[k]? = some ops[k]:=R0w hk.1
     have e:listed.getD k true=false:=by
      have:=hk.2
      simp only [R0e] at this ⊢
      rw [R0w (by omega)] at this ⊢
      simpa using this
     simp only [e,Bool.not_false,Bool.true_and,hok,R0P,R0G]
     rw [Array.all_eq_true']
     intro ed hed
     by_cases hb:Region.binds .any ed=true
     ·have:=tab.back k _ hok ed (by simpa using hed) hb
      simp [hmin _ this]
     ·simp [hb]
    rw [hnil] at hmem
    cases hmem
   ·obtain ⟨hjo,hjl,hpre⟩:=tab.ready hj (fun k hk hS i hi=>I.down k (by omega) hS i hi)
    have hnj:listed.getD j false=false:=by
     simp only [R0e] at hjl ⊢
     rw [R0w (by omega)] at hjl ⊢
     simpa using hjl
    obtain ⟨s,hs⟩:=C.sAt (by omega:j < l.length)
    obtain ⟨o,ho,hco⟩:=tab.op j s hs
    refine Inv.one C I hφ0 hs ho ⟨_,hco⟩ (by rw [hnj];simp) hpre (fun φ' κ' θ' a' w' hI=>?_) (fun h3 ty u w' hp=>?_)
    ·refine ih _ φ' κ' θ' a' w' (by simp [hsz]) (by have:=w0J hjo hsz hnj;omega) ?_
     have e:(fun k=>(listed.setIfInBounds j true).getD k false=true)=(fun k=>listed.getD k false=true ∨ k=j):=by
      funext k;exact propext (x0B hjo hsz k)
     rw [e];exact hI
    ·obtain ⟨v,hv⟩:=hend j (by omega) h3
     rw [hv]
     refine ⟨⟨ty,u,rfl⟩,I.defers.trans rD,?_⟩
     rw [r2] at hp
     exact { hp with }
 refine key ops.size _ φ (fun _=>0) (fun _=>0) a w.drew (by simp) ?_ ?_
 ·unfold left
  have:(List.range ops.size).filter (fun k=>!(Array.replicate ops.size false).getD k false)=List.range ops.size:=by
   rw [List.filter_eq_self]
   intro k hk
   have hk:=R0Q.1 hk
   simp [R0e,hk]
  rw [this];simp
 ·have hnone:∀ k,¬ ((Array.replicate ops.size false).getD k false=true):=by
   intro k
   simp only [R0e,Array.getElem?_replicate]
   split <;> simp
  have hcutφ:∀ b y,φ b=some y→cut φ (R.Hh 0).size b=some y:=fun b y h=>a0P.2 ⟨hφ0 b y h,h⟩
  refine
   { done := fun k _ h => R0q h (hnone k)
     down:=fun j _ h=>R0q h (hnone j)
     tlen:=?_
     defers:=hd.trans rD.symm
     base:=hR.bs
     T:=?_
     D:=fun b y h=>.inl (hφ0 b y h)
     Rr:=?_
     P:=?_
     W:=fun k s _ h=>R0q h (hnone k)
     M:=fun b B o hb hm=>hR.mp b B o hb (by rw [r2] at hm;exact hm)
     glob:=⟨fun _ _ h=>h,fun _ _ h=>h,Q0W _,rfl,rfl,rfl,(fun b y h h'=>by rw [h] at h';cases h'),(fun b B o h h'=>by rw [h] at h';cases h'),fun _ _ _=>rfl⟩ }
  ·rw [r1];have:=hT.1;simp at this;omega
  ·intro x hx
   refine ⟨R0H _,.inl rfl,fun k s _ h=>R0q h (hnone k),?_⟩
   have:=hT.get x
   rw [r1,a0I]
   exact this.mono hcutφ (fun _ _ h=>h)
  ·intro b B o1 hb
   refine ⟨R0H _,hφ0 b _ hb,.inl rfl,fun k _ _ h=>R0q h (hnone k),?_⟩
   intro ro e cs hrow
   rw [r2] at hrow
   obtain ⟨c,el,fz,k1,k2,k3,k4⟩:=hR.row b B o1 ro e cs hb hrow
   exact ⟨c,el,fz,k1,k2,k3.mono hcutφ (fun _ _ h=>h),k4⟩
  ·intro b b' B o1 o2 e cs hb hb' hne2 hrow
   rw [r2] at hrow ⊢
   exact hR.sep b b' B o1 o2 e cs hb hb' hne2 hrow
end
section
open Go
end
section
open Go
variable {X:Cx} {φ φ':Inj} {H H':a0c} {w w':World} {fl:Nat} {t:a0Q} {a:Act}
def ad (φ:Inj) (n B o:Nat):Inj:=fun b=>if b=n then some (B,o) else φ b
theorem H0D {n B o:Nat}:ad φ n B o n=some (B,o):=by unfold ad;rw [R0k rfl]
theorem x0S (hR:Rel X φ H w) {B o b:Nat} {x:Nat × Nat} (h:φ b=some x):ad φ H.size B o b=some x:=by
 unfold ad;rw [R0c (by have:=hR.lt b x h;omega)];exact h
theorem x0R (hR:Rel X φ H w) {B o b:Nat} {x:Nat × Nat} (h:ad φ H.size B o b=some x):(b=H.size∧x=(B,o)) ∨ (b < H.size∧φ b=some x):=by
 unfold ad at h
 split at h
 ·rename_i hb;exact .inl ⟨hb,by simpa using h.symm⟩
 ·exact .inr ⟨hR.lt b x h,h⟩
theorem VR.back {f0:Nat} (hR:Rel X φ H w) (h:c0T X f0 φ H w φ' H' w') {S S':Shp} {v u u':Value} (k:VR X φ S v u) (k':VR X φ' S' v u'):VR X φ S' v u':=by
 refine (VR.cut (m:=H.size) (fun b y hb=>hR.lt b y hb) k k').mono (fun b x hx=>?_) (fun _ _ h=>h)
 obtain ⟨h1,h2⟩:=a0P.1 hx
 cases hb:φ b with
 | none=>have:=h.fresh b x h2 hb;omega
 | some y=>rw [h.ext b y hb] at h2;exact h2
theorem CR.back {f0:Nat} (hR:Rel X φ H w) (h:c0T X f0 φ H w φ' H' w') {S S':Shp} {l m m':List Value} (k:CR X φ S l m) (k':CR X φ' S' l m'):CR X φ S' l m' :=
 ⟨k'.1,fun i hi=>VR.back hR h (k.2 i hi) (k'.2 i hi)⟩
theorem c0T.old (hR:Rel X φ H w) (h:c0T X H.size φ H w φ' H' w') {B:Nat} (hB:B < w.heap.size):w'.heap[B]? = w.heap[B]? :=
 h.frame B hB fun b o e cs h1 h2=>by have:=hR.lt b _ h1;omega
end
section
open Go
def x0Z (P:Program):List Field→Nat→Option Nat
 | [],acc=>some acc
 | f :: r,acc=>if f.offset=acc then x0Z P r (acc + P.cellsOf f.type) else none
def d0e (P:Program):Nat→TypeId→Bool
 | 0,_=>false
 | m + 1,t =>
  match P.underlying t with
  | some .bool=>P.cellsOf t == 1
  | some (.int _)=>P.cellsOf t == 1
  | some .string=>P.cellsOf t == 1
  | some (.slice e)=>P.cellsOf t == 1 && d0e P m e && P.cellsOf e != 0
  | some (.struct fs)=>x0Z P fs.toList 0 == some (P.cellsOf t) && fs.toList.all fun f=>d0e P m f.type
  | _=>false
def IsT (P:Program) (H:a0c):Nat→TypeId→List Value→Prop
 | 0,_,_=>False
 | m + 1,t,cs =>
  match P.underlying t with
  | some .bool=>∃ b,cs=[.bool b]
  | some (.int k)=>∃ n,cs=[.int k n]∧(Lit.int k n).wf=true
  | some .string=>∃ s,cs=[.string s]∧s.size≤maxLen
  | some (.slice e)=>cs=[.slice none 0 0] ∨ ∃ b len cap cells,cs=[.slice (some ⟨b,0,none⟩) len cap]∧len≤cap∧cap≤maxLen∧H.blk b=.row true e cells∧cells.length=len * P.cellsOf e ∧
    ∀ i,i < len→IsT P H m e ((cells.drop (i * P.cellsOf e)).take (P.cellsOf e))
  | some (.struct fs)=>∃ parts:List (List Value),cs=parts.flatten∧parts.length=fs.toList.length∧∀ i f,fs.toList[i]? = some f→IsT P H m f.type (parts.getD i [])
  | _=>False
def e0M (H:a0c):Prop:=(∀ b e cs,H.blk b ≠ .row false e cs)∧∀ b,H.blk b ≠ .emap
def j0q (H H':a0c):Prop:=H.size≤H'.size∧∀ b,b < H.size→H'.blk b=H.blk b
theorem j0q.refl (H:a0c):j0q H H:=⟨Q0W _,fun _ _=>rfl⟩
theorem j0q.trans {H H1 H2:a0c} (h:j0q H H1) (k:j0q H1 H2):j0q H H2:=⟨R0z h.1 k.1,fun b hb=>(k.2 b (R0r hb h.1)).trans (h.2 b hb)⟩
theorem j0q.push (H:a0c) (r:Blk):j0q H (H.push r):=⟨by simp,fun b hb=>by rw [a0y,R0c (by omega)]⟩
theorem IsT.mono {P:Program} {H H':a0c} (hx:j0q H H'):∀ {m:Nat} {t:TypeId} {cs:List Value},IsT P H m t cs→IsT P H' m t cs
 | 0,_,_,h=>h
 | m + 1,t,cs,h=>by
  unfold IsT at h ⊢
  split at h
  ·exact h
  ·exact h
  ·exact h
  ·rename_i e _
   rcases h with h | ⟨b,len,cap,cells,h1,h2,h3,h4,h5,h6⟩
   ·exact .inl h
   ·exact .inr ⟨b,len,cap,cells,h1,h2,h3,by rw [hx.2 b (a0k h4)];exact h4,h5,fun i hi=>(h6 i hi).mono hx⟩
  ·obtain ⟨parts,h1,h2,h3⟩:=h
   exact ⟨parts,h1,h2,fun i f hf=>(h3 i f hf).mono hx⟩
  ·exact h
variable {X:Cx} {φ:Inj} {H:a0c} {w:World}
theorem Rel.pushRo (hR:Rel X φ H w) (hro:e0M H) {B o:Nat} {e el:TypeId} {fz:Nat × Nat} {cs:List Value} {c:Array Value} (hB:w.heap[B]? = some (.cells c el fz)) (hle:o + cs.length≤c.size)
  (hc:CR X φ w.shape? cs ((c.toList.drop o).take cs.length)) (hlt:B < X.base):Rel X (ad φ H.size B o) (H.push (.row true e cs)) w∧e0M (H.push (.row true e cs)):=by
 have hext:∀ b x,φ b=some x→ad φ H.size B o b=some x:=fun b x h=>x0S hR h
 have hro':e0M (H.push (.row true e cs)):=by
  refine ⟨?_,?_⟩
  ·intro b e1 cs1 h
   rw [a0y] at h
   split at h
   ·cases h
   ·exact hro.1 b e1 cs1 h
  ·intro b h
   rw [a0y] at h
   split at h
   ·cases h
   ·exact hro.2 b h
 refine ⟨⟨hR.bs,?_,?_,fun b b' B1 o1 o' e1 cs1 _ _ _ h=>R0q h (hro'.1 b e1 cs1),fun b _ _ _ h=>R0q h (hro'.2 b)⟩,hro'⟩
 ·intro b x h
  rw [S0Z]
  rcases x0R hR h with ⟨h1,_⟩ | ⟨h1,_⟩ <;> omega
 ·intro b B1 o1 ro e1 cs1 h1 h2
  rw [a0y] at h2
  rcases x0R hR h1 with ⟨rfl,h3⟩ | ⟨h3,h4⟩
  ·rw [R0k rfl] at h2;cases h2;cases h3
   exact ⟨c,el,fz,hB,hle,hc.mono hext (fun _ _ h=>h),fun h=>(by cases h),fun _=>hlt⟩
  ·rw [R0c (by omega)] at h2
   obtain ⟨c1,el,fz,g1,g2,g3,g4⟩:=hR.row b B1 o1 ro e1 cs1 h4 h2
   exact ⟨c1,el,fz,g1,g2,g3.mono hext (fun _ _ h=>h),g4⟩
theorem Rel.pushFree (hR:Rel X φ H w) (hro:e0M H) (e:TypeId):Rel X φ (H.push (.row true e [])) w∧e0M (H.push (.row true e [])):=by
 have hro':e0M (H.push (.row true e [])):=by
  refine ⟨?_,?_⟩
  ·intro b e1 cs1 h
   rw [a0y] at h
   split at h
   ·cases h
   ·exact hro.1 b e1 cs1 h
  ·intro b h
   rw [a0y] at h
   split at h
   ·cases h
   ·exact hro.2 b h
 refine ⟨⟨hR.bs,fun b x h=>by have:=hR.lt b x h;rw [S0Z];omega,fun b B1 o1 ro e1 cs1 h1 h2=>?_,fun b b' B1 o1 o' e1 cs1 _ _ _ h=>R0q h (hro'.1 b e1 cs1),fun b _ _ _ h=>R0q h (hro'.2 b)⟩,hro'⟩
 have:=hR.lt b _ h1
 rw [a0y,R0c (by omega)] at h2
 exact hR.row b B1 o1 ro e1 cs1 h1 h2
theorem j0V {α:Type} {f:Nat→Option α}:∀ {n k:Nat} {l:List α},(List.range' k n).mapM f=some l→l.length=n∧∀ i,i < n→f (k + i)=l[i]?
 | 0,k,l,h=>by simp at h;subst h;exact ⟨rfl,fun i hi=>by omega⟩
 | n + 1,k,l,h=>by
  rw [List.range'_succ,S0N] at h
  simp only [Q0X,Q0U,Q0Y,Q0V] at h
  obtain ⟨x,h1,r,h2,rfl⟩:=h
  obtain ⟨h3,h4⟩:=j0V h2
  refine ⟨by simp [h3],fun i hi=>?_⟩
  cases i with
  | zero=>simpa using h1
  | succ i=>rw [show k + (i + 1)=k + 1 + i by omega,h4 i (by omega)];simp
theorem h0F {a:Addr} {n:Nat} {l:List Value} (hn:n ≠ 0) (h:w.cells? 0 a n=some l):a.spot=none∧∃ c el fz,w.heap[a.block]? = some (.cells c el fz)∧a.off + n≤c.size∧l=(c.toList.drop a.off).take n:=by
 unfold World.cells? at h
 rw [R0k (R0H _),List.range_eq_range'] at h
 obtain ⟨h1,h2⟩:=j0V h
 have hget:∀ i,i < n→∃ v,w.cell? (a.add i)=some v∧l[i]? = some v:=fun i hi=>by
  have:=h2 i hi
  rw [R0B] at this
  rw [R0a (by omega)] at this
  exact ⟨_,this,R0a (by omega)⟩
 obtain ⟨v0,g1,_⟩:=hget 0 (by omega)
 have hsp:a.spot=none∧∃ c el fz,w.heap[a.block]? = some (.cells c el fz):=by
  simp only [Addr.add,R0T,World.cell?] at g1
  split at g1
  ·rename_i c el fz hc
   split at g1
   ·cases g1
   ·rename_i hs;exact ⟨by simpa using hs,c,el,fz,hc⟩
  ·cases g1
 obtain ⟨hs,c,el,fz,hc⟩:=hsp
 have hcell:∀ i,w.cell? (a.add i)=c[a.off + i]?:=fun i=>by
  unfold Addr.add
  split
  ·rename_i hi;subst hi;simp [World.cell?,hc,hs]
  ·simp [World.cell?,hc]
 have hsz:a.off + n≤c.size:=by
  obtain ⟨v,g3,_⟩:=hget (n - 1) (by omega)
  rw [hcell] at g3
  have:=(R0n.1 g3).1
  omega
 refine ⟨hs,c,el,fz,hc,hsz,?_⟩
 apply S0G
 intro i
 by_cases hi:i < n
 ·obtain ⟨v,g3,g4⟩:=hget i hi
  rw [g4,S0y,R0k hi,S0m,R0Z,← hcell,g3]
 ·rw [R0d (by omega),R0d]
  simp;omega
def j0N (P:Program) (X:Cx) (φ:Inj) (H:a0c) (w:World) (Z:a0c→List Value→Prop) (cs:List Value):Prop :=
 ∃ H' φ' cs',(∀ b x,φ b=some x→φ' b=some x)∧j0q H H'∧Rel X φ' H' w∧e0M H'∧CR X φ' w.shape? cs' cs∧Z H' cs'
section
variable {D:Type} {enc:TypeId × Value→D} {P:Program} (hb:X.base=w.heap.size)
include hb
theorem j0T {m fuel:Nat} (ih:∀ (t:TypeId) (cs:List Value) (x:DataW D × List MemPlace) (H:a0c) (φ:Inj),DataW.trod enc P w 0 (fun _=>true) true fuel t cs=some x→d0e P m t=true→Rel X φ H w→e0M H →
   j0N P X φ H w (fun H' cs'=>IsT P H' m t cs') cs) :
  ∀ (fs:List Field) (acc tot:Nat) (cs:List Value) (H:a0c) (φ:Inj),x0Z P fs acc=some tot→cs.length=tot→fs.all (fun f=>d0e P m f.type)=true →
   (∀ f,f ∈ fs→∃ x,DataW.trod enc P w 0 (fun _=>true) true fuel f.type ((cs.drop f.offset).take (P.cellsOf f.type))=some x)→Rel X φ H w→e0M H→acc≤tot →
   j0N P X φ H w (fun H' cs'=>∃ parts:List (List Value),cs' = parts.flatten∧parts.length=fs.length∧∀ i f,fs[i]? = some f→IsT P H' m f.type (parts.getD i [])) (cs.drop acc)
 | [],acc,tot,cs,H,φ,hl,hcs,_,_,hR,hro,_=>by
  simp only [x0Z,Q0V] at hl
  refine ⟨H,φ,[],fun _ _ h=>h,j0q.refl H,hR,hro,?_,[],rfl,rfl,fun i f h=>by simp at h⟩
  rw [List.drop_of_length_le (by omega)];exact CR.nil
 | f :: r,acc,tot,cs,H,φ,hl,hcs,hp,hm,hR,hro,hat=>by
  simp only [x0Z] at hl
  split at hl
  case isFalse=>cases hl
  rename_i hoff
  obtain ⟨x,h1⟩:=hm f (by simp)
  have h2:=fun g hg=>hm g (S0D _ hg)
  simp only [R0D,R0f] at hp
  obtain ⟨H1,φ1,c1,e1,m1,R1,o1,k1,z1⟩:=ih _ _ _ _ _ h1 hp.1 hR hro
  have hlay:∀ (l:List Field) (a t:Nat),x0Z P l a=some t→a≤t:=by
   intro l
   induction l with
   | nil=>intro a t h;simp only [x0Z,Q0V] at h;omega
   | cons g l ihl =>
    intro a t h
    simp only [x0Z] at h
    split at h
    ·have:=ihl _ _ h;omega
    ·cases h
  have hle:=hlay r _ _ hl
  obtain ⟨H2,φ2,c2,e2,m2,R2,o2,k2,parts,p1,p2,p3⟩:=j0T ih r (acc + P.cellsOf f.type) tot cs H1 φ1 hl hcs hp.2 h2 R1 o1 hle
  refine ⟨H2,φ2,c1 ++ c2,fun b x h=>e2 b x (e1 b x h),m1.trans m2,R2,o2,?_,c1 :: parts,by rw [p1];rfl,by simp [p2],fun i g hi=>?_⟩
  ·have hsplit:cs.drop acc=(cs.drop f.offset).take (P.cellsOf f.type) ++ cs.drop (acc + P.cellsOf f.type):=by
    rw [hoff,← S0i,List.take_append_drop]
   rw [hsplit]
   exact (k1.mono e2 (fun _ _ h=>h)).append k2
  ·cases i with
   | zero=>simp only [List.getElem?_cons_zero,Q0V] at hi;subst hi;exact IsT.mono m2 z1
   | succ i=>simp only [List.getElem?_cons_succ] at hi;exact p3 i g hi
theorem j0S {m fuel sz:Nat} {e:TypeId} {a:Addr} {c:Array Value} (hsz:P.cellsOf e=sz) (ih:∀ (t:TypeId) (cs:List Value) (x:DataW D × List MemPlace) (H:a0c) (φ:Inj),DataW.trod enc P w 0 (fun _=>true) true fuel t cs=some x→d0e P m t=true→Rel X φ H w→e0M H →
   j0N P X φ H w (fun H' cs'=>IsT P H' m t cs') cs) (hpe:d0e P m e=true) :
  ∀ (n:Nat),(∀ i,i < n→∃ x,DataW.trod enc P w 0 (fun _=>true) true fuel e ((c.toList.drop (a.off + i * sz)).take sz)=some x)→∀ (H:a0c) (φ:Inj),a.off + n * sz≤c.size→Rel X φ H w→e0M H →
   j0N P X φ H w (fun H' cells=>cells.length=n * sz∧∀ i,i < n→IsT P H' m e ((cells.drop (i * sz)).take sz)) ((c.toList.drop a.off).take (n * sz))
 | 0,_,H,φ,_,hR,hro=>⟨H,φ,[],fun _ _ h=>h,j0q.refl H,hR,hro,by simpa using CR.nil,by simp,fun i hi=>by omega⟩
 | n + 1,hx,H,φ,hle,hR,hro=>by
  have hmul:(n + 1) * sz=n * sz + sz:=by rw [R0o];omega
  obtain ⟨H1,φ1,c1,e1,m1,R1,o1,k1,l1,z1⟩:=j0S hsz ih hpe n (fun i hi=>hx i (by omega)) H φ (by omega) hR hro
  obtain ⟨x,hx1⟩:=hx n (by omega)
  obtain ⟨H2,φ2,c2,e2,m2,R2,o2,k2,z2⟩:=ih _ _ _ _ _ hx1 hpe R1 o1
  have hl2:c2.length=sz:=by
   have:=k2.1
   rw [this,S0c,List.length_drop,S0W];omega
  refine ⟨H2,φ2,c1 ++ c2,fun b x h=>e2 b x (e1 b x h),m1.trans m2,R2,o2,?_,by rw [R0A,l1,hl2,hmul],fun i hi=>?_⟩
  ·have hsplit:(c.toList.drop a.off).take ((n + 1) * sz)=(c.toList.drop a.off).take (n * sz) ++ (c.toList.drop (a.off + n * sz)).take sz:=by
    rw [hmul,List.take_add,S0i]
   rw [hsplit]
   exact (k1.mono e2 (fun _ _ h=>h)).append k2
  ·by_cases hin:i < n
   ·have h1:i * sz + sz≤n * sz:=by rw [← Nat.succ_mul];exact R0h _ hin
    have:((c1 ++ c2).drop (i * sz)).take sz=(c1.drop (i * sz)).take sz:=by
     rw [R0X (by omega),S0o (by simp;omega)]
    rw [this];exact IsT.mono m2 (z1 i hin)
   ·have:i=n:=by omega
    subst this
    have:((c1 ++ c2).drop (i * sz)).take sz=c2:=by
     rw [← l1,List.drop_left,R0j (by omega)]
    rw [this];exact z2
theorem k0u:∀ (m fuel:Nat) (t:TypeId) (cs:List Value) (x:DataW D × List MemPlace) (H:a0c) (φ:Inj),DataW.trod enc P w 0 (fun _=>true) true fuel t cs=some x→d0e P m t=true→Rel X φ H w→e0M H →
  j0N P X φ H w (fun H' cs'=>IsT P H' m t cs') cs
 | 0,_,_,_,_,_,_,_,hp,_,_=>by simp [d0e] at hp
 | m + 1,0,_,_,_,_,_,h,_,_,_=>by simp [DataW.trod] at h
 | m + 1,fuel + 1,t,cs,x,H,φ,h,hp,hR,hro=>by
  unfold d0e at hp
  have fin:∀ cs',CR X φ w.shape? cs' cs→IsT P H (m + 1) t cs'→j0N P X φ H w (fun H' cs'=>IsT P H' (m + 1) t cs') cs:=fun cs' h1 h2=>⟨H,φ,cs',fun _ _ h=>h,j0q.refl H,hR,hro,h1,h2⟩
  split at hp
  ·rename_i hu
   obtain ⟨b,rfl,_⟩:=DataW.trod_bool hu h
   refine fin [.bool b] (CR.cons (.bool b) CR.nil) ?_
   unfold IsT;rw [hu];exact ⟨b,rfl⟩
  ·rename_i k hu
   obtain ⟨n,rfl,_,hwf⟩:=DataW.trod_int hu h
   refine fin [.int k n] (CR.cons (.int k n) CR.nil) ?_
   unfold IsT;rw [hu];exact ⟨n,rfl,hwf⟩
  ·rename_i hu
   obtain ⟨s,rfl,_,hs⟩:=DataW.trod_string hu h
   refine fin [.string s] (CR.cons (.str s) CR.nil) ?_
   unfold IsT;rw [hu];exact ⟨s,rfl,hs⟩
  ·rename_i e hu
   simp only [R0f,bne_iff_ne,ne_eq] at hp
   obtain ⟨⟨_,hpe⟩,hne⟩:=hp
   rcases Go.Deep.open_slice hu h with ⟨rfl,_⟩ | ⟨a,len,cap,mm,n,Dd,Pl,rfl,_,hlc,hcm,hmm,_,hel⟩
   ·refine fin [.slice none 0 0] (CR.cons .snil CR.nil) ?_
    unfold IsT;rw [hu];exact .inl rfl
   ·simp only [R0T] at hmm
    subst hmm
    by_cases hcap:mm=0
    ·have hl0:len=0:=by omega
     subst hcap hl0
     obtain ⟨R2,o2⟩:=hR.pushFree hro e
     refine ⟨H.push (.row true e []),φ,[.slice (some ⟨H.size,0,none⟩) 0 0],fun _ _ h=>h,j0q.push _ _,R2,o2,CR.cons (.sle _ _) CR.nil,?_⟩
     unfold IsT;rw [hu]
     exact .inr ⟨H.size,0,0,[],rfl,Q0W _,R0H _,by rw [a0y,R0k rfl],by simp,fun i hi=>by omega⟩
    ·obtain ⟨l0,g1,_⟩:=hel 0 (by omega)
     rw [show a.add (0 * P.cellsOf e)=a by simp [Addr.add]] at g1
     obtain ⟨hsp,c,el,fz,hc,hsz0,_⟩:=h0F hne g1
     have hwin:∀ i,i < mm→a.off + i * P.cellsOf e + P.cellsOf e≤c.size∧DataW.trod enc P w 0 (fun _=>true) true n e ((c.toList.drop (a.off + i * P.cellsOf e)).take (P.cellsOf e))=some (Dd i,Pl i):=by
      intro i hi
      obtain ⟨li,q1,q2⟩:=hel i hi
      obtain ⟨_,c',el',fz',q3,q4,q5⟩:=h0F hne q1
      have hab:(a.add (i * P.cellsOf e)).block=a.block∧(a.add (i * P.cellsOf e)).off=a.off + i * P.cellsOf e:=by
       unfold Addr.add;split
       ·rename_i h0;rw [h0];exact ⟨rfl,rfl⟩
       ·exact ⟨rfl,rfl⟩
      rw [hab.1,hc] at q3;cases q3
      rw [hab.2] at q4 q5
      exact ⟨q4,by rw [← q5];exact q2⟩
     have htot:a.off + len * P.cellsOf e≤c.size:=by
      have:=(hwin (mm - 1) (by omega)).1
      have h2:len * P.cellsOf e≤mm * P.cellsOf e:=R0h _ hlc
      have h3:mm * P.cellsOf e=(mm - 1) * P.cellsOf e + P.cellsOf e:=by
       rw [← Nat.succ_mul];congr 1;omega
      omega
     obtain ⟨H1,φ1,cells,e1,m1,R1,o1,k1,l1,z1⟩:=j0S hb rfl (k0u m n) hpe len (fun i hi=>⟨_,(hwin i (by omega)).2⟩) H φ htot hR hro
     have hlt:a.block < X.base:=by rw [hb];exact (R0n.1 hc).1
     obtain ⟨R2,o2⟩:=R1.pushRo o1 (e:=e) (o:=a.off) (cs:=cells) hc (by rw [l1];exact htot) (by rw [l1];exact k1) hlt
     refine ⟨H1.push (.row true e cells),ad φ1 H1.size a.block a.off,[.slice (some ⟨H1.size,0,none⟩) len mm],fun b x hbx=>x0S R1 (e1 b x hbx),m1.trans (j0q.push _ _),R2,o2,?_,?_⟩
     ·refine CR.cons (.sl _ _ _ _ _ a.block a.off rfl H0D hsp rfl (fun _=>rfl) (fun _=>rfl) hlc (fun hbase=>by omega)) CR.nil
     ·unfold IsT;rw [hu]
      refine .inr ⟨H1.size,len,mm,cells,rfl,hlc,hcm,by rw [a0y,R0k rfl],l1,fun i hi=>IsT.mono (j0q.push _ _) (z1 i hi)⟩
  ·rename_i fs hu
   simp only [R0f,beq_iff_eq] at hp
   obtain ⟨xs,n,hfu,_,hcl,hxl,hxs⟩:=DataW.trod_struct hu h
   have hf:n=fuel:=by omega
   subst hf
   obtain ⟨H1,φ1,c1,e1,m1,R1,o1,k1,parts,p1,p2,p3⟩:=j0T hb (k0u m n) fs.toList 0 (P.cellsOf t) cs H φ hp.1 hcl hp.2 (fun f hf=>by
    obtain ⟨i,hi,rfl⟩:=List.mem_iff_getElem.1 hf
    have:=hxs i fs.toList[i] (by simp)
    rw [R0a (by rw [hxl];simpa using hi)] at this
    exact ⟨_,this⟩) hR hro (R0H _)
   refine ⟨H1,φ1,c1,e1,m1,R1,o1,by simpa using k1,?_⟩
   unfold IsT;rw [hu];exact ⟨parts,p1,p2,p3⟩
  ·cases hp
end
end
section
open Go
abbrev v0Z:=Nat→FuncId→List Value→a0c→Res (Value × a0c)
def H0n (c c':v0Z):Prop:=∀ fl fl' f args H,fl'≤fl→c fl f args H ≠ .bad→c' fl' f args H=c fl f args H
variable {H:a0c} {fl fl':Nat} {t:a0Q}
theorem n0Y {b off:Nat} {vs:List Value} {H':a0c} (hf:fl'≤fl) (h:H.write? fl b off vs=some H'):H.write? fl' b off vs=some H':=by
 unfold a0c.write? at h ⊢
 split at h
 ·rename_i e cs hk
  split at h
  ·rename_i hc
   try simp only [hk]
   rw [R0k ⟨by omega,hc.2⟩];exact h
  ·cases h
 ·cases h
theorem p0n {e:TypeId} {size bytes:Nat} {s x:Value} {r:Value × a0c} (hf:fl'≤fl) (h:j0u fl H e size bytes s x=some r):j0u fl' H e size bytes s x=some r:=by
 unfold j0u at h ⊢
 split at h
 ·split at h
  ·rename_i hn;rw [R0k hn];exact h
  ·rename_i hn;rw [R0c hn]
   split at h
   ·rename_i hc;rw [R0k hc]
    split at h
    ·cases h
    ·rename_i xp
     try simp only at h ⊢
     split at h
     ·cases h
     ·rename_i new hnew
      try simp only [hnew]
      split at h
      ·cases h
      ·rename_i hp;rw [R0c hp]
       split at h
       ·exact h
       ·rename_i sp
        try simp only at h ⊢
        split at h
        ·rename_i h00;rw [R0k h00];exact h
        rename_i h00;rw [R0c h00]
        split at h
        ·cases h
        ·rename_i old hold
         try simp only [hold]
         split at h
         ·rename_i hcap;rw [R0k hcap];exact h
         ·rename_i hcap;rw [R0c hcap]
          split at h
          ·rename_i e2 cs hb
           try simp only
           split at h
           ·rename_i hh;rw [R0k ⟨hh.1,by omega⟩];exact h
           ·cases h
          ·cases h
   ·cases h
 ·cases h
theorem r0h {so:SOp} (hf:fl'≤fl) (h:opA fl t H so ≠ .bad):opA fl' t H so=opA fl t H so:=by
 cases so <;> simp only [opA] at h ⊢
 case store n a x =>
  split at h
  ·rename_i p hp
   split at h
   ·exact R0q rfl h
   ·rename_i hc;rw [R0c hc];rw [R0c hc]
    cases hw:H.write? fl p.block p.off (a0M (ev t x)) with
    | none=>rw [hw] at h;exact R0q rfl h
    | some H'=>rw [n0Y hf hw]
  ·exact R0q rfl h
 case app e size bytes s x =>
  cases hw:j0u fl H e size bytes (ev t s) (ev t x) with
  | none=>rw [hw] at h;exact R0q rfl h
  | some r=>rw [p0n hf hw]
section
variable {c c':v0Z} (hc:H0n c c')
include hc
theorem f0s {so:SOp} (hf:fl'≤fl) (h:b0V c fl t H so ≠ .bad):b0V c' fl' t H so=b0V c fl t H so:=by
 unfold b0V at h ⊢
 have ho:opA fl t H so ≠ .bad:=by intro hb;rw [hb] at h;exact h rfl
 rw [r0h hf ho]
 split at h
 ·exact R0q rfl h
 ·rfl
 ·rfl
 ·rename_i f args lone _
  refine hc _ _ _ _ _ ?_ h
  split <;> omega
theorem d0U (hf:fl'≤fl):∀ (ops:List a0w) (t:a0Q) (H:a0c),g0k c fl ops t H ≠ .bad→g0k c' fl' ops t H=g0k c fl ops t H
 | [],t,H,_=>rfl
 | o :: r,t,H,h=>by
  simp only [g0k] at h ⊢
  split at h
  ·rename_i hw
   simp only [hw,R0T]
   have hs:b0V c fl t H o.op ≠ .bad:=by intro hb;rw [hb] at h;exact h rfl
   rw [f0s hc hf hs]
   split at h
   ·exact R0q rfl h
   ·rfl
   ·exact d0U hf r _ _ h
  ·rename_i hw
   simp only [hw,R0K]
   exact d0U hf r _ _ h
theorem c0G (hf:fl'≤fl) (bef:List Nat) (pairs:List (Nat × Nat)):∀ (ops:List a0w) (i:Nat) (t:a0Q) (H:a0c) (p:Option (Nat × Value)) (log:List (List Nat × List Nat)),
  b0J c fl bef pairs i ops t H p log ≠ .bad→b0J c' fl' bef pairs i ops t H p log=b0J c fl bef pairs i ops t H p log
 | [],i,t,H,p,log,_=>rfl
 | o :: r,i,t,H,p,log,h=>by
  simp only [b0J] at h ⊢
  split at h
  ·rename_i hg;simp only [hg,R0T];exact c0G hf bef pairs r _ _ _ _ _ h
  ·rename_i hg
   simp only [hg,R0K]
   split at h
   ·rename_i hw
    simp only [hw,R0T]
    have hs:b0V c fl t H o.op ≠ .bad:=by intro hb;rw [hb] at h;exact h rfl
    rw [f0s hc hf hs]
    split at h
    ·exact R0q rfl h
    ·split at h
     ·exact c0G hf bef pairs r _ _ _ _ _ h
     ·exact R0q rfl h
    ·exact c0G hf bef pairs r _ _ _ _ _ h
   ·rename_i hw
    simp only [hw,R0K]
    exact c0G hf bef pairs r _ _ _ _ _ h
theorem a0H (hf:fl'≤fl):∀ (n m:Nat) (k:SCode) (t:a0Q) (H:a0c),n≤m→a0J c fl n k t H ≠ .bad→a0J c' fl' m k t H=a0J c fl n k t H
 | 0,_,_,_,_,_,h=>by simp [a0J] at h
 | n + 1,0,_,_,_,hm,_=>by omega
 | n + 1,m + 1,k,t,H,hm,h=>by
  have hm:n≤m:=by omega
  cases k <;> simp only [a0J] at h ⊢
  case seq a b =>
   have ha:a0J c fl n a t H ≠ .bad:=by intro hb;rw [hb] at h;exact h rfl
   rw [a0H hf n m a t H hm ha]
   split at h
   ·exact a0H hf n m b _ _ hm h
   ·rfl
  case cond x a b =>
   split at h
   ·exact a0H hf n m a _ _ hm h
   ·exact a0H hf n m b _ _ hm h
   ·exact R0q rfl h
  case block id a =>
   have ha:a0J c fl n a t H ≠ .bad:=by intro hb;rw [hb] at h;exact h rfl
   rw [a0H hf n m a t H hm ha]
  case loop a =>
   have ha:a0J c fl n a t H ≠ .bad:=by intro hb;rw [hb] at h;exact h rfl
   rw [a0H hf n m a t H hm ha]
   split at h
   ·exact a0H hf n m (.loop a) _ _ hm h
   ·rfl
  case reg ops=>exact d0U hc hf ops t H h
  case draw ops bef pairs=>exact c0G hc hf bef pairs ops 0 t H none [] h
end
theorem a0A (E:Env):∀ n m,n≤m→H0n (a0T E n) (a0T E m)
 | 0,m,_=>fun _ _ _ _ _ _ h=>by simp [a0T] at h
 | n + 1,0,hm=>by omega
 | n + 1,m + 1,hm=>fun fl fl' f args H hf h=>by
  have ih:=a0A E n m (by omega)
  simp only [a0T] at h ⊢
  split at h
  ·split at h
   ·rfl
   split at h
   ·rename_i q hq
    try simp only
    split at h
    ·rename_i hfq
     rw [R0k hfq];rw [R0k hfq]
     split at h
     ·rename_i p s _
      try simp only at h ⊢
      split at h
      case isFalse=>exact R0q rfl h
      rename_i hsz
      rw [R0k hsz]
      try rw [R0k hsz]
      have h2:a0T E n (max fl H.size) q.solved [.agg #[],.agg p,.agg s] H ≠ .bad:=by intro hb;rw [hb] at h;exact h rfl
      try simp only
      rw [ih (max fl H.size) (max fl' H.size) _ _ _ (by omega) h2]
     ·exact R0q rfl h
    ·exact R0q rfl h
   ·exact R0q rfl h
  ·rename_i sf hsf
   try simp only
   split at h
   ·rename_i hl
    rw [R0k hl];rw [R0k hl]
    have h2:a0J (a0T E n) fl n sf.body (args ++ List.replicate (sf.nt - args.length) undef) H ≠ .bad:=by intro hb;rw [hb] at h;exact h rfl
    rw [a0H ih hf n m _ _ _ (by omega) h2]
   ·exact R0q rfl h
theorem p0q {E:Env} {n m:Nat} {f:FuncId} {args:List Value} (hn:n≤m) (hf:fl'≤fl) (h:a0T E n fl f args H ≠ .bad):a0T E m fl' f args H=a0T E n fl f args H :=
 a0A E n m hn _ _ _ _ _ hf h
end
section
open Go
abbrev l0v:=Value→a0c→Prop
abbrev c0S:=XA→a0Q→a0c→Prop
abbrev a0E:=Value→Prop
def k0L (Q:l0v) (R:a0E):Res (Value × a0c)→Prop
 | .ok (v,H)=>Q v H
 | .pan v=>R v
 | .bad=>False
def i0T (Q:c0S) (R:a0E):Out→Prop
 | .fin e t H=>Q e t H
 | .pan v=>R v
 | .bad=>False
def a0N (E:Env) (fl:Nat) (f:FuncId) (args:List Value) (H:a0c) (Q:l0v) (R:a0E):Prop:=∃ n,k0L Q R (a0T E n fl f args H)
def W (E:Env) (fl:Nat) (c:SCode) (t:a0Q) (H:a0c) (Q:c0S) (R:a0E):Prop:=∃ n,i0T Q R (a0J (a0T E n) fl n c t H)
def WS (E:Env) (fl:Nat) (t:a0Q) (H:a0c) (op:SOp) (K:l0v) (R:a0E):Prop :=
 match opA fl t H op with
 | .bad=>False
 | .pan v=>R v
 | .val v H'=>K v H'
 | .call f args lone=>a0N E (if lone then fl else max fl H.size) f args H K R
def WR (E:Env) (fl:Nat):List a0w→a0Q→a0c→(a0Q→a0c→Prop)→a0E→Prop
 | [],t,H,K,_=>K t H
 | o :: r,t,H,K,R=>if b0d t o.g then WS E fl t H o.op (fun v H'=>WR E fl r (put t o.dst v) H' K R) R else WR E fl r (put t o.dst undef) H K R
variable {E:Env} {fl:Nat} {t:a0Q} {H:a0c} {Q Q':c0S} {R R':a0E} {K K':l0v} {f:FuncId} {args:List Value}
theorem d0h {o:Out} (h:i0T Q R o):o ≠ .bad:=by cases o <;> simp_all [i0T]
theorem w0U {o:Res (Value × a0c)} (h:k0L K R o):o ≠ .bad:=by cases o <;> simp_all [k0L]
theorem i0A {n m k:Nat} {c:SCode} (hn:n≤m) (hk:k≤m) (h:i0T Q R (a0J (a0T E n) fl k c t H)):i0T Q R (a0J (a0T E m) fl m c t H):=by
 rw [a0H (a0A E n m hn) (Q0W fl) k m c t H hk (d0h h)];exact h
theorem q0p {n m fl':Nat} (hn:n≤m) (hf:fl'≤fl) (h:k0L K R (a0T E n fl f args H)):k0L K R (a0T E m fl' f args H):=by
 rw [p0q hn hf (w0U h)];exact h
theorem a0N.mono (h:a0N E fl f args H K R) (hk:∀ v H',K v H'→K' v H'):a0N E fl f args H K' R:=by
 obtain ⟨n,h⟩:=h
 refine ⟨n,?_⟩
 cases hc:a0T E n fl f args H with
 | bad=>rw [hc] at h;exact h
 | pan v=>rw [hc] at h;exact h
 | ok r=>rw [hc] at h;exact hk _ _ h
theorem a0N.floor {fl':Nat} (h:a0N E fl f args H K R) (hf:fl'≤fl):a0N E fl' f args H K R:=by
 obtain ⟨n,h⟩:=h
 exact ⟨n,q0p (Q0W n) hf h⟩
theorem a0N.keep (h:a0N E fl f args H K R) (hf:fl≤H.size):a0N E fl f args H (fun v H'=>K v H'∧f0N fl H H') R:=by
 obtain ⟨n,h⟩:=h
 refine ⟨n,?_⟩
 cases hc:a0T E n fl f args H with
 | bad=>rw [hc] at h;exact h
 | pan v=>rw [hc] at h;exact h
 | ok r=>rw [hc] at h;exact ⟨h,f0l E n fl f args H r.1 r.2 hc hf⟩
theorem W.mono {c:SCode} (h:W E fl c t H Q R) (hk:∀ e t' H',Q e t' H'→Q' e t' H'):W E fl c t H Q' R:=by
 obtain ⟨n,h⟩:=h
 refine ⟨n,?_⟩
 cases hc:a0J (a0T E n) fl n c t H with
 | bad=>rw [hc] at h;exact h
 | pan v=>rw [hc] at h;exact h
 | fin e t' H'=>rw [hc] at h;exact hk _ _ _ h
theorem WS.mono {op:SOp} (h:WS E fl t H op K R) (hk:∀ v H',K v H'→K' v H'):WS E fl t H op K' R:=by
 unfold WS at h ⊢
 split at h
 ·exact h
 ·exact h
 ·exact hk _ _ h
 ·exact h.mono hk
theorem WR.mono {Z Z':a0Q→a0c→Prop}:∀ {ops:List a0w} {t:a0Q} {H:a0c},WR E fl ops t H Z R→(∀ t' H',Z t' H'→Z' t' H')→WR E fl ops t H Z' R
 | [],_,_,h,hk=>hk _ _ h
 | o :: r,t,H,h,hk=>by
  simp only [WR] at h ⊢
  split at h
  ·rename_i hw;rw [R0k hw];exact h.mono fun v H' h'=>WR.mono h' hk
  ·rename_i hw;rw [R0c hw];exact WR.mono h hk
def f0L (k:a0Q→a0c→Prop) (Q:c0S):c0S
 | .normal,t,H=>k t H
 | .exit i,t,H=>Q (.exit i) t H
 | .ret,t,H=>Q .ret t H
theorem e0c {a b:SCode} (h:W E fl a t H (f0L (fun t' H'=>W E fl b t' H' Q R) Q) R):W E fl (.seq a b) t H Q R:=by
 obtain ⟨n,h⟩:=h
 cases hc:a0J (a0T E n) fl n a t H with
 | bad=>rw [hc] at h;exact R0q h id
 | pan v =>
  refine ⟨n + 1,?_⟩
  have:=a0H (a0A E n (n+1) (by omega)) (Q0W fl) n n a t H (Q0W n) (by rw [hc];simp)
  simp only [a0J,this,hc];rw [hc] at h;exact h
 | fin e t' H' =>
  rw [hc] at h
  cases e with
  | normal =>
   obtain ⟨m,h⟩:=h
   refine ⟨max n m + 1,?_⟩
   have:=a0H (a0A E n (max n m+1) (by omega)) (Q0W fl) n (max n m) a t H (by omega) (by rw [hc];simp)
   simp only [a0J,this,hc]
   have h2:=a0H (a0A E m (max n m+1) (by omega)) (Q0W fl) m (max n m) b t' H' (by omega) (d0h h)
   rw [h2];exact h
  | exit i =>
   refine ⟨n + 1,?_⟩
   have:=a0H (a0A E n (n+1) (by omega)) (Q0W fl) n n a t H (Q0W n) (by rw [hc];simp)
   simp only [a0J,this,hc];exact h
  | ret =>
   refine ⟨n + 1,?_⟩
   have:=a0H (a0A E n (n+1) (by omega)) (Q0W fl) n n a t H (Q0W n) (by rw [hc];simp)
   simp only [a0J,this,hc];exact h
theorem o0d (h:Q .normal t H):W E fl .skip t H Q R:=⟨1,by simpa [a0J,i0T] using h⟩
theorem o0c {i:Nat} (h:Q (.exit i) t H):W E fl (.exit i) t H Q R:=⟨1,by simpa [a0J,i0T] using h⟩
theorem N0t (h:Q .ret t H):W E fl .ret t H Q R:=⟨1,by simpa [a0J,i0T] using h⟩
theorem i0p {c:Opd} {a b:SCode} (x:Bool) (hx:ev t c=.bool x) (ha:x=true→W E fl a t H Q R) (hb:x=false→W E fl b t H Q R):W E fl (.cond c a b) t H Q R:=by
 cases x with
 | true =>
  obtain ⟨n,h⟩:=ha rfl
  refine ⟨n + 1,?_⟩
  have:=a0H (a0A E n (n+1) (by omega)) (Q0W fl) n n a t H (Q0W n) (d0h h)
  simp only [a0J,hx,this];exact h
 | false =>
  obtain ⟨n,h⟩:=hb rfl
  refine ⟨n + 1,?_⟩
  have:=a0H (a0A E n (n+1) (by omega)) (Q0W fl) n n b t H (Q0W n) (d0h h)
  simp only [a0J,hx,this];exact h
def d0w (i:Nat) (Q:c0S):c0S
 | .normal,t,H=>Q .normal t H
 | .exit j,t,H=>if j=i then Q .normal t H else Q (.exit j) t H
 | .ret,t,H=>Q .ret t H
theorem k0j {i:Nat} {c:SCode} (h:W E fl c t H (d0w i Q) R):W E fl (.block i c) t H Q R:=by
 obtain ⟨n,h⟩:=h
 refine ⟨n + 1,?_⟩
 have hm:=a0H (a0A E n (n+1) (by omega)) (Q0W fl) n n c t H (Q0W n) (d0h h)
 simp only [a0J,hm]
 cases hc:a0J (a0T E n) fl n c t H with
 | bad=>rw [hc] at h;exact R0q h id
 | pan v=>rw [hc] at h;exact h
 | fin e t' H' =>
  rw [hc] at h
  cases e with
  | normal=>exact h
  | ret=>exact h
  | exit j =>
   simp only [i0T,d0w] at h
   simp only
   split at h
   ·rename_i hj;rw [R0k hj];exact h
   ·rename_i hj;rw [R0c hj];exact h
theorem x0Q {c:SCode} (I:Nat→a0Q→a0c→Prop)
  (step:∀ k t H,I k t H→W E fl c t H (f0L (fun t' H'=>∃ k',k' < k∧I k' t' H') Q) R):∀ (k:Nat) {t:a0Q} {H:a0c},I k t H→W E fl (.loop c) t H Q R:=by
 intro k
 induction k using Nat.strongRecOn with
 | ind k ih =>
  intro t H hI
  obtain ⟨n,h⟩:=step k t H hI
  cases hc:a0J (a0T E n) fl n c t H with
  | bad=>rw [hc] at h;exact R0q h id
  | pan v =>
   refine ⟨n + 1,?_⟩
   have:=a0H (a0A E n (n+1) (by omega)) (Q0W fl) n n c t H (Q0W n) (by rw [hc];simp)
   simp only [a0J,this,hc];rw [hc] at h;exact h
  | fin e t' H' =>
   rw [hc] at h
   cases e with
   | normal =>
    obtain ⟨k',hk',hI'⟩:=h
    obtain ⟨m,h⟩:=ih k' hk' hI'
    refine ⟨max n m + 1,?_⟩
    have:=a0H (a0A E n (max n m+1) (by omega)) (Q0W fl) n (max n m) c t H (by omega) (by rw [hc];simp)
    simp only [a0J,this,hc]
    have h2:=a0H (a0A E m (max n m+1) (by omega)) (Q0W fl) m (max n m) (.loop c) t' H' (by omega) (d0h h)
    rw [h2];exact h
   | exit i =>
    refine ⟨n + 1,?_⟩
    have:=a0H (a0A E n (n+1) (by omega)) (Q0W fl) n n c t H (Q0W n) (by rw [hc];simp)
    simp only [a0J,this,hc];exact h
   | ret =>
    refine ⟨n + 1,?_⟩
    have:=a0H (a0A E n (n+1) (by omega)) (Q0W fl) n n c t H (Q0W n) (by rw [hc];simp)
    simp only [a0J,this,hc];exact h
theorem x0O {op:SOp} (h:WS E fl t H op K R):∃ n,k0L K R (b0V (a0T E n) fl t H op):=by
 unfold WS at h
 unfold b0V
 split at h
 ·exact R0q h id
 ·rename_i v hv;exact ⟨0,by simpa [hv,k0L] using h⟩
 ·rename_i v H' hv;exact ⟨0,by simpa [hv,k0L] using h⟩
 ·rename_i g as lone hv
  obtain ⟨n,h⟩:=h
  exact ⟨n,by simpa [hv] using h⟩
theorem o0b {Z:a0Q→a0c→Prop}:∀ (ops:List a0w) {t:a0Q} {H:a0c},WR E fl ops t H Z R→∃ n,i0T (fun e t' H'=>e=.normal∧Z t' H') R (g0k (a0T E n) fl ops t H)
 | [],t,H,h=>⟨0,rfl,h⟩
 | o :: r,t,H,h=>by
  simp only [WR] at h
  split at h
  ·rename_i hw
   obtain ⟨n,hn⟩:=x0O h
   cases hs:b0V (a0T E n) fl t H o.op with
   | bad=>rw [hs] at hn;exact R0q hn id
   | pan v=>exact ⟨n,by simp only [g0k,hw,R0T,hs];rw [hs] at hn;exact hn⟩
   | ok rr =>
    obtain ⟨v,H'⟩:=rr
    rw [hs] at hn
    obtain ⟨m,hm⟩:=o0b r hn
    refine ⟨max n m,?_⟩
    have h1:=f0s (a0A E n (max n m) (by omega)) (Q0W fl) (t:=t) (H:=H) (so:=o.op) (by rw [hs];simp)
    have h2:=d0U (a0A E m (max n m) (by omega)) (Q0W fl) r (put t o.dst v) H' (d0h hm)
    simp only [g0k,hw,R0T,h1,hs,h2];exact hm
  ·rename_i hw
   obtain ⟨m,hm⟩:=o0b r h
   exact ⟨m,by simp only [g0k,hw,R0K];exact hm⟩
theorem i0q {ops:List a0w} (h:WR E fl ops t H (fun t' H'=>Q .normal t' H') R):W E fl (.reg ops) t H Q R:=by
 obtain ⟨n,hn⟩:=o0b ops h
 refine ⟨n + 1,?_⟩
 have h2:=d0U (a0A E n (n+1) (by omega)) (Q0W fl) ops t H (d0h hn)
 simp only [a0J,h2]
 cases hr:g0k (a0T E n) fl ops t H with
 | bad=>rw [hr] at hn;exact R0q hn id
 | pan v=>rw [hr] at hn;exact hn
 | fin e t' H'=>rw [hr] at hn;obtain ⟨rfl,hn⟩:=hn;exact hn
theorem k0m {c:v0Z} {fl:Nat} (bef:List Nat):∀ (ops:List a0w) (i:Nat) (t:a0Q) (H:a0c) (log:List (List Nat × List Nat)) {e:XA} {t':a0Q} {H':a0c},
  g0k c fl ops t H=.fin e t' H'→b0J c fl bef [] i ops t H none log=.fin .normal t' H'
 | [],i,t,H,log,e,t',H',h=>by simp only [g0k,Out.fin.injEq] at h;obtain ⟨_,rfl,rfl⟩:=h;simp [b0J,c0M]
 | o :: r,i,t,H,log,e,t',H',h=>by
  simp only [g0k] at h
  simp only [b0J,i0G,R0p,R0K]
  split at h
  ·rename_i hw
   simp only [hw,R0T]
   split at h
   ·cases h
   ·cases h
   ·rename_i v H1 hs;(try simp only [hs]);exact k0m bef r _ _ _ _ h
  ·rename_i hw
   simp only [hw,R0K]
   exact k0m bef r _ _ _ _ h
theorem a0Y {ops:List a0w} {bef:List Nat} (h:WR E fl ops t H (fun t' H'=>Q .normal t' H') (fun _=>False)):W E fl (.draw ops bef []) t H Q R:=by
 obtain ⟨n,hn⟩:=o0b ops h
 refine ⟨n + 1,?_⟩
 have h2:=d0U (a0A E n (n+1) (by omega)) (Q0W fl) ops t H (d0h hn)
 simp only [a0J]
 cases hr:g0k (a0T E n) fl ops t H with
 | bad=>rw [hr] at hn;exact R0q hn id
 | pan v=>rw [hr] at hn;exact R0q hn id
 | fin e t' H' =>
  rw [hr] at hn h2
  rw [k0m bef ops 0 t H [] h2]
  exact hn.2
theorem o0k {sf:q0b} (hc:E.code f=some sf) (hl:args.length=sf.np) (hnt:args.length≤sf.nt)
  (h:∀ t,t.length=sf.nt→(∀ i,get t i=args.getD i undef)→W E fl sf.body t H (fun e t' H'=>(match e with | .exit _=>False | _=>True)∧∃ vs,d0V H' t' sf.res=some vs∧K (d0c vs) H') R) :
  a0N E fl f args H K R:=by
 obtain ⟨n,hn⟩:=h (args ++ List.replicate (sf.nt - args.length) undef) (by simp;omega) (fun i=>by
  unfold get
  simp only [Q0T]
  by_cases hi:i < args.length
  ·rw [List.getElem?_append_left hi]
  ·rw [List.getElem?_append_right (by omega)]
   rw [R0d (by omega:args.length≤i)]
   by_cases h2:i - args.length < sf.nt - args.length
   ·rw [S0K];simp [h2]
   ·rw [R0d (by simpa using h2)])
 refine ⟨n + 1,?_⟩
 simp only [a0T,hc,hl,R0T]
 rw [hl] at hn
 cases hx:a0J (a0T E n) fl n sf.body (args ++ List.replicate (sf.nt - sf.np) undef) H with
 | bad=>rw [hx] at hn;exact R0q hn id
 | pan v=>rw [hx] at hn;exact hn
 | fin e t' H' =>
  rw [hx] at hn
  obtain ⟨he,vs,hvs,hk⟩:=hn
  cases e with
  | exit i=>exact R0q he id
  | normal=>simp only [hvs];exact hk
  | ret=>simp only [hvs];exact hk
end
section
open Go Go.RowKit Go.ChangeShapes Go.WideShapes Go.ChangeAt
def IsV (P:Program) (H:a0c) (m:Nat) (t:TypeId) (v:Value):Prop :=
 match P.underlying t with
 | some (.struct _)=>∃ cs,v=.agg cs∧IsT P H m t cs.toList
 | _=>IsT P H m t [v]
def w0a (P:Program) (H:a0c) (m:Nat):List TypeId→List Value→Prop
 | [],[]=>True
 | t :: ts,v :: vs=>IsV P H m t v∧w0a P H m ts vs
 | _,_=>False
theorem IsV.mono {P:Program} {H H':a0c} (hx:j0q H H') {m:Nat} {t:TypeId} {v:Value} (h:IsV P H m t v):IsV P H' m t v:=by
 unfold IsV at h ⊢
 split at h
 ·obtain ⟨cs,h1,h2⟩:=h;exact ⟨cs,h1,h2.mono hx⟩
 ·exact IsT.mono hx h
theorem w0a.mono {P:Program} {H H':a0c} (hx:j0q H H') {m:Nat}:∀ {ts:List TypeId} {vs:List Value},w0a P H m ts vs→w0a P H' m ts vs
 | [],[],h=>h
 | t :: ts,v :: vs,h=>⟨h.1.mono hx,w0a.mono hx h.2⟩
 | [],_ :: _,h=>h.elim
 | _ :: _,[],h=>h.elim
variable {X:Cx} {φ:Inj} {H:a0c} {w:World} {D:Type} {enc:TypeId × Value→D} {P:Program}
theorem q0r {t:TypeId} {v:Value} {base:Nat} {m:Nat} (hp:d0e P m t=true) (hns:∀ fs,P.underlying t ≠ some (.struct fs)) (ho:Value.okWide P w .any base t v):v.cells.toList=[v]:=by
 cases m with
 | zero=>simp [d0e] at hp
 | succ m =>
  unfold d0e at hp
  unfold Value.okWide at ho
  cases hu:P.underlying t with
  | none=>simp [hu] at hp
  | some d =>
   cases d <;> simp only [hu] at hp ho <;> try (exact R0q hp Bool.false_ne_true)
   all_goals (first | (exact R0q hu (hns _)) | skip)
   all_goals
    unfold Cell.okWide at ho
    rw [hu] at ho
    unfold Cell.ok at ho
    rw [hu] at ho
    cases v <;> simp_all [Value.cells]
theorem w0K (hb:X.base=w.heap.size) {m:Nat} {t:TypeId} {v:Value} {d:DataW D} {ps:List MemPlace} {base:Nat} (h:DataW.Trod enc P w 0 (fun _=>true) true t v d ps) (hp:d0e P m t=true) (ho:Value.okWide P w .any base t v)
  (hR:Rel X φ H w) (hro:e0M H):∃ H' φ' v',(∀ b x,φ b=some x→φ' b=some x)∧j0q H H'∧Rel X φ' H' w∧e0M H'∧VR X φ' w.shape? v' v∧IsV P H' m t v':=by
 obtain ⟨fuel,h⟩:=h
 obtain ⟨H',φ',cs',e1,m1,R1,o1,k1,z1⟩:=k0u hb m fuel t _ _ H φ h hp hR hro
 by_cases hs:∃ fs,P.underlying t=some (.struct fs)
 ·obtain ⟨fs,hs⟩:=hs
  have ho':=ho
  unfold Value.okWide at ho'
  rw [hs] at ho'
  obtain ⟨cs,rfl,_⟩:=ho'
  refine ⟨H',φ',.agg cs'.toArray,e1,m1,R1,o1,VR.agg_iff.2 (by simpa [Value.cells] using k1),?_⟩
  unfold IsV
  rw [hs]
  exact ⟨_,rfl,by simpa using z1⟩
 ·have hns:∀ fs,P.underlying t ≠ some (.struct fs):=fun fs h=>hs ⟨fs,h⟩
  rw [q0r hp hns ho] at k1
  have hl:cs'.length=1:=by have:=k1.1;simpa using this
  obtain ⟨v',rfl⟩:∃ v',cs' = [v']:=by
   match cs',hl with
   | [v'],_=>exact ⟨v',rfl⟩
  refine ⟨H',φ',v',e1,m1,R1,o1,k1.head,?_⟩
  unfold IsV
  split
  ·rename_i fs hu;exact R0q hu (hns fs)
  ·exact z1
theorem l0M (hb:X.base=w.heap.size) {m:Nat} {base:Nat}:∀ (ts:List TypeId) (vs:List Value) (ds:List (DataW D)) (ps:List MemPlace) (H:a0c) (φ:Inj),DataW.TrodAll enc P w 0 (fun _=>true) true ts vs ds ps →
  (∀ t,t ∈ ts→d0e P m t=true)→(∀ (j:Nat) t v,ts[j]? = some t→vs[j]? = some v→Value.okWide P w .any base t v)→Rel X φ H w→e0M H →
  ∃ H' φ' vs',(∀ b x,φ b=some x→φ' b=some x)∧j0q H H'∧Rel X φ' H' w∧e0M H'∧CR X φ' w.shape? vs' vs∧w0a P H' m ts vs'
 | [],[],[],_,H,φ,_,_,_,hR,hro=>⟨H,φ,[],fun _ _ h=>h,j0q.refl H,hR,hro,CR.nil,trivial⟩
 | t :: ts,v :: vs,d :: ds,ps,H,φ,h,hp,ho,hR,hro=>by
  obtain ⟨p,q,h1,h2,_⟩:=h
  obtain ⟨H1,φ1,v1,e1,m1,R1,o1,k1,z1⟩:=w0K hb h1 (hp t (by simp)) (ho 0 t v rfl rfl) hR hro
  obtain ⟨H2,φ2,vs2,e2,m2,R2,o2,k2,z2⟩:=l0M hb ts vs ds q H1 φ1 h2 (fun t ht=>hp t (by simp [ht])) (fun j t v h1 h2=>ho (j + 1) t v (by simpa using h1) (by simpa using h2)) R1 o1
  exact ⟨H2,φ2,v1 :: vs2,fun b x h=>e2 b x (e1 b x h),m1.trans m2,R2,o2,CR.cons (k1.mono e2 (fun _ _ h=>h)) k2,z1.mono m2,z2⟩
 | [],[],_ :: _,_,_,_,h,_,_,_,_=>h.elim
 | [],_ :: _,_,_,_,_,h,_,_,_,_=>by cases ‹List (DataW D)› <;> exact h.elim
 | _ :: _,[],_,_,_,_,h,_,_,_,_=>by cases ‹List (DataW D)› <;> exact h.elim
 | _ :: _,_ :: _,[],_,_,_,h,_,_,_,_=>h.elim
theorem p0K {f:Func} {s:ChangeSpec} {apart fresh handsOn again:Bool} {W W':World} {args:Array Value} {v:Value} {ds gs:List (DataW D)} {before pa pv:List MemPlace}
  (hW:DataW.Whole enc P f.params.toList s.vars apart W args.toList ds gs before)
  (hres:∀ (b:Nat) (sp:Nat→Bool) (hd:Bool),DataW.TrodAll enc P W' b sp hd f.resultTypes.toList (v.resultList f.resultTypes.size) (s.fn D (ds ++ gs)).results [])
  (hargs:∀ sp:Nat→Bool,(∀ p ∈ before,sp p.block=true)→DataW.TrodAll enc P W' 0 sp true f.params.toList args.toList (s.fn D (ds ++ gs)).args pa)
  (hvars:∀ sp:Nat→Bool,(∀ p ∈ before,sp p.block=true)→DataW.TrodVars enc P W' sp s.vars (s.fn D (ds ++ gs)).vars pv)
  (hps:before=pa ++ pv) (hbe:Below W.heap.size W W')
  (hok:∀ (j:Nat) (t:TypeId) (r:Value),f.resultTypes[j]? = some t→(v.resultList f.resultTypes.size)[j]? = some r→Value.okWide P W' .any 0 t r) :
  s.post enc P f apart fresh handsOn again W args v W':=by
 have hold:∀ p ∈ before,(fun b=>decide (b < W.heap.size)) p.block=true:=fun p hp=>by simpa using hW.lt p hp
 have hk:W.keptBut W' (· ∈ before):=by
  refine ⟨hbe.os,hbe.output,fun i hi=>?_⟩
  rw [hbe.block i hi]
  cases W.heap[i]? with
  | none=>rfl
  | some o=>cases o <;> simp
 refine ⟨ds,gs,before,[],pa,pv,hW,hres _ _ _,hargs _ hold,hvars _ hold,World.keptBut_mono (fun p hp=>⟨hp,?_⟩) hk,fun _=>?_⟩
 ·rw [hps,R0v] at hp
  exact Or.inr hp
 ·have hlt:=hW.lt
  obtain ⟨_,_,_,_,_,hz,hn⟩:=hW
  refine ⟨hok,_,_,([] ++ pa) ++ pv,⟨[] ++ pa,pv,trodAll_append (hargs _ (fun _ _=>rfl)) (hres _ _ _),hvars _ (fun _ _=>rfl),rfl,?_,?_⟩,?_⟩
  ·intro b off hp
   have hp':MemPlace.cell b off ∈ before:=by rw [hps];simpa using hp
   have h1:=hz b off hp'
   have h2:b < W.heap.size:=hlt _ hp'
   have h3:=hbe.block b h2
   unfold World.frozen? at h1 ⊢
   simpa [h3] using h1
  ·intro ha
   have:=hn ha
   rw [hps] at this
   simpa using this
  ·intro p hp _
   rw [hps]
   simpa using hp
theorem g0V (hl:laidOutB P=true) {W W':World} (hbe:Below W.heap.size W W') {sp:Nat→Bool}:∀ {ts:List TypeId} {vs:List Value} {ds:List (DataW D)} {ps:List MemPlace},
  DataW.TrodAll enc P W 0 (fun _=>true) true ts vs ds ps→(∀ t,t ∈ ts→P.readableRec t=true∧t < P.types.size)→(∀ p ∈ ps,p.block < W.heap.size)→(∀ p ∈ ps,sp p.block=true)→DataW.TrodAll enc P W' 0 sp true ts vs ds ps
 | [],[],[],_,h,_,_,_=>h
 | t :: ts,v :: vs,d :: ds,ps,⟨p,q,h1,h2,e⟩,hr,hlt,hsp=>by
  subst e
  refine ⟨p,q,WideElems.Trod_stays hl (hr t (by simp)).1 (hr t (by simp)).2 h1 (fun x hx=>hbe.same (hlt x (by simp [hx]))) (fun x hx=>hsp x (by simp [hx])),?_,rfl⟩
  exact g0V hl hbe h2 (fun t ht=>hr t (by simp [ht])) (fun x hx=>hlt x (by simp [hx])) (fun x hx=>hsp x (by simp [hx]))
 | [],[],_ :: _,_,h,_,_,_=>h.elim
 | [],_ :: _,ds,_,h,_,_,_=>by cases ds <;> exact h.elim
 | _ :: _,[],ds,_,h,_,_,_=>by cases ds <;> exact h.elim
 | _ :: _,_ :: _,[],_,h,_,_,_=>h.elim
theorem h0I {E:Env} (hsim:∀ (base n:Nat),d0J ⟨P,base⟩ (a0T E n)) {f:FuncId} {fn:Func} {s:ChangeSpec} {apart fresh handsOn again:Bool} {m:Nat} {tb:TypeId} (hl:laidOutB P=true) (hts:∀ t,t ∈ fn.params.toList→d0e P m t=true∧P.readableRec t=true∧t < P.types.size)
  (hrt:fn.resultTypes = #[tb]) (htb:P.underlying tb=some .bool) (hv:s.vars=[]) (hs:∀ ds:List (DataW D),ds.length=fn.params.size→s.fn D ds = { results:=[.lit (.bool true)],args:=ds })
  (hdo:∀ (Ha:a0c) (vs:List Value),w0a P Ha m fn.params.toList vs→a0N E Ha.size f vs Ha (fun r _=>r=.bool true) (fun _=>False))
  (W:World) (base:Nat) (args:Array Value) (ds gs:List (DataW D)) (before:List MemPlace)
  (hval:∀ (j:Nat) t v,fn.params[j]? = some t→args[j]? = some v→Value.okWide P W .any base t v)
  (hW:DataW.Whole enc P fn.params.toList s.vars apart W args.toList ds gs before) :
  Calls P f args W fun e W'=>∃ v,e=.returned v∧s.post enc P fn apart fresh handsOn again W args v W':=by
 have hW':=hW
 obtain ⟨p,q,hA,hV,hpq,hfz,hnd⟩:=hW
 rw [hv] at hV
 obtain ⟨rfl,rfl⟩:=trodVars_none hV
 have hb:(⟨P,W.heap.size⟩:Cx).base=W.heap.size:=rfl
 have h0:Rel ⟨P,W.heap.size⟩ (fun _=>none) #[] W:=⟨Q0W _,fun _ _ h=>by simp at h,fun _ _ _ _ _ _ h=>by simp at h,fun _ _ _ _ _ _ _ h=>by simp at h,fun _ _ _ h=>by simp at h⟩
 have ho0:e0M #[]:=⟨fun b e cs h=>by simp [a0c.blk] at h,fun b h=>by simp [a0c.blk] at h⟩
 obtain ⟨Ha,φ,vs,_,_,hR,hro,hcr,hz⟩:=l0M (X:=⟨P,W.heap.size⟩) hb _ _ _ _ #[] (fun _=>none) hA (fun t ht=>(hts t ht).1) (fun j t v h1 h2=>hval j t v (by simpa using h1) (by simpa using h2)) h0 ho0
 obtain ⟨n,hn⟩:=hdo Ha vs hz
 have hsz:ds.length=fn.params.size:=by
  have:∀ (ts:List TypeId) (vs:List Value) (ds:List (DataW D)) (ps:List MemPlace),DataW.TrodAll enc P W 0 (fun _=>true) true ts vs ds ps→ds.length=ts.length:=by
   intro ts
   induction ts with
   | nil=>intro vs ds ps h;cases vs <;> cases ds <;> first | rfl | exact h.elim
   | cons t ts ih =>
    intro vs ds ps h
    cases vs <;> cases ds <;> first | exact h.elim | skip
    obtain ⟨_,_,_,h2,_⟩:=h
    simp [ih _ _ _ h2]
  simpa using this _ _ _ _ hA
 cases hc:a0T E n Ha.size f vs Ha with
 | bad=>rw [hc] at hn;exact hn.elim
 | pan v=>rw [hc] at hn;exact hn.elim
 | ok r =>
  obtain ⟨rv,H'⟩:=r
  rw [hc] at hn
  have hrv:rv=.bool true:=hn
  subst hrv
  refine Calls.mono ((hsim W.heap.size n Ha.size f vs Ha φ W args hR hcr (Q0W _)).1 _ _ hc).2 ?_
  rintro e W' ⟨v',φ',rfl,hvr,hst⟩
  cases hvr
  have hbe:Below W.heap.size W W':=⟨hst.os,hst.tape,hst.out,hst.wsz,fun k hk=>hst.frame k hk fun b o e cs _ _ h=>hro.1 b e cs h⟩
  have hsp:=hs (ds ++ []) (by simpa using hsz)
  have hlt:=hW'.lt
  refine ⟨_,rfl,p0K (pa:=p) (pv:=[]) hW' (fun b sp hd=>?_) (fun sp hsp'=>?_) (fun sp _=>?_) hpq hbe ?_⟩
  ·rw [hsp,hrt]
   exact trodAll_cons_mk (shut_bool htb true) trodAll_mk0
  ·rw [hsp,List.append_nil]
   exact g0V hl hbe hA (fun t ht=>(hts t ht).2) (fun x hx=>hlt x (by rw [hpq];simp [hx])) (fun x hx=>hsp' x (by rw [hpq];simp [hx]))
  ·rw [hsp,hv];rfl
  ·exact ok_one hrt rfl (okWide_bool_mk htb _)
end
end Go.Proofs.YtacninhfdfhgjaaGreat.AI
