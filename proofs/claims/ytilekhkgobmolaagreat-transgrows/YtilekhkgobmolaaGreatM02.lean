/- Part 3 of the proof. -/
import Derived.Recover
import Derived.Test.YtilekhkgobmolaaGreatM01
set_option linter.unusedVariables false
set_option linter.unusedSimpArgs false
set_option linter.unusedSectionVars false
namespace Go.Proofs.YtilekhkgobmolaaGreat.AI
section
open Go
structure Ctx (X:Cx) (call:Nat→FuncId→List Value→a0e→Res (Value × a0e)) (fl:Nat) (ops:Array Oper) (l:List a0I) (bef:List Nat) (pairs:List (Nat × Nat)) (R:Run):Prop where
 callOk:e0g X call
 keepOk:h0M call
 tab:y0o X ops l bef pairs
 run:∀ (k:Nat) (s:a0I),l[k]? = some s→j0g call fl bef R k s
 apart:c0U ((List.range' 0 l.length).map R.tc) pairs=true
 p0:R.Pn 0=none
 low:fl≤(R.Hh 0).size
variable {X:Cx} {call:Nat→FuncId→List Value→a0e→Res (Value × a0e)} {fl:Nat} {ops:Array Oper} {l:List a0I} {bef:List Nat} {pairs:List (Nat × Nat)} {R:Run} (C:Ctx X call fl ops l bef pairs R)
include C
theorem Ctx.sAt {k:Nat} (hk:k < l.length):∃ s,l[k]? = some s:=⟨l[k],i1m hk⟩
omit C in
theorem j0a {t:b0b} {H H1:a0e} {so:SOp} {v:Value} (h:b0z call fl t H so=.ok (v,H1)) :
  opA fl t H so=.val v H1 ∨ ∃ f args lone,opA fl t H so=.call f args lone∧call (if lone=true then fl else max fl H.size) f args H=.ok (v,H1):=by
 unfold b0z at h
 split at h
 ·cases h
 ·cases h
 ·rename_i v' H' hv;simp only [Res.ok.injEq,k1d] at h;obtain ⟨rfl,rfl⟩:=h;exact .inl hv
 ·rename_i f args lone hc;exact .inr ⟨f,args,lone,hc,h⟩
theorem Ctx.keepStep {k:Nat} (hk:k < l.length) (hlow:fl≤(R.Hh k).size):f0Z fl (R.Hh k) (R.Hh (k + 1)):=by
 obtain ⟨s,hs⟩:=C.sAt hk
 rcases C.run k s hs with h | h | h | h
 ·rw [h.2.2.2.1];exact f0Z.refl
 ·rw [h.2.2.2.2.2.1];exact f0Z.refl
 ·exact k0A C.keepOk hlow h.2.2.2.1
 ·rw [h.2.2.2.2.2.2.2.1];exact f0Z.refl
theorem Ctx.keep0:∀ {k:Nat},k≤l.length→fl≤(R.Hh k).size∧f0Z fl (R.Hh 0) (R.Hh k)
 | 0,_=>⟨C.low,f0Z.refl⟩
 | k + 1,hk=>by
  obtain ⟨h1,h2⟩:=Ctx.keep0 (k:=k) (by omega)
  have h3:=C.keepStep (by omega:k < l.length) h1
  exact ⟨i1t h1 h3.size,h2.trans h3 (i1j _)⟩
theorem Ctx.keepIJ {i:Nat}:∀ {j:Nat},i≤j→j≤l.length→f0Z fl (R.Hh i) (R.Hh j)
 | 0, hij, _ => by obtain rfl : i = 0 := by omega
                   exact f0Z.refl
 | j + 1,hij,hj=>by
  by_cases h:i=j + 1
  ·subst h;exact f0Z.refl
  ·exact (Ctx.keepIJ (j:=j) (by omega) (by omega)).trans (C.keepStep (by omega) (C.keep0 (by omega)).1) (i1j _)
theorem Ctx.szmono {i j:Nat} (hij:i≤j) (hj:j≤l.length):(R.Hh i).size≤(R.Hh j).size:=(C.keepIJ hij hj).size
theorem Ctx.pan:∀ {k:Nat},k≤l.length→∀ p v,R.Pn k=some (p,v)→p < k∧R.st p=3
 | 0,_,p,v,h=>by rw [C.p0] at h;cases h
 | k + 1,hk,p,v,h=>by
  obtain ⟨s,hs⟩:=C.sAt (by omega:k < l.length)
  have ih:=Ctx.pan (k:=k) (by omega)
  rcases C.run k s hs with g | g | g | g
  ·rw [g.2.2.2.2.1] at h;have:=ih p v h;exact ⟨by omega,this.2⟩
  ·rw [g.2.2.2.2.2.2.1] at h;have:=ih p v h;exact ⟨by omega,this.2⟩
  ·rw [g.2.2.2.2.2.1] at h;have:=ih p v h;exact ⟨by omega,this.2⟩
  ·rw [g.2.2.2.2.2.1] at h;cases h;exact ⟨by omega,g.1⟩
theorem Ctx.change {k:Nat} {s:a0I} (hs:l[k]? = some s) {b:Nat} (hb:b < (R.Hh k).size) (hne:(R.Hh (k + 1)).blk b ≠ (R.Hh k).blk b) :
  R.st k=2∧((way s.op=2∧b ∈ (R.tc k).2) ∨ (way s.op=3∧d0M s.op=true)):=by
 have hk:k < l.length:=(i1M.1 hs).1
 rcases C.run k s hs with h | h | h | h
 ·rw [h.2.2.2.1] at hne;exact i1A rfl hne
 ·rw [h.2.2.2.2.2.1] at hne;exact i1A rfl hne
 ·refine ⟨h.1,?_⟩
  rcases j0a h.2.2.2.1 with hv | ⟨f,args,lone,hc,hcall⟩
  ·have:=(q0m hv).changed hb hne
   rw [h.2.2.2.2.2.2]
   exact .inl ⟨p0z this,this⟩
  ·obtain ⟨h1,h2⟩:=f0t hc
   cases lone with
   | true=>exact .inr ⟨h1,h2⟩
   | false =>
    have hlow:=(C.keep0 (by omega:k≤l.length)).1
    have:=(C.keepOk _ _ _ _ _ _ hcall (by simp;omega)).low b (by simp;omega)
    exact i1A this hne
 ·rw [h.2.2.2.2.2.2.2.1] at hne;exact i1A rfl hne
theorem Ctx.grow {k:Nat} {s:a0I} (hs:l[k]? = some s) (hne:(R.Hh k).size ≠ (R.Hh (k + 1)).size):way s.op ≠ 0:=by
 rcases C.run k s hs with h | h | h | h
 ·rw [h.2.2.2.1] at hne;exact i1A rfl hne
 ·rw [h.2.2.2.2.2.1] at hne;exact i1A rfl hne
 ·intro hw
  rcases j0a h.2.2.2.1 with hv | ⟨f,args,lone,hc,hcall⟩
  ·rw [J0w hw hv] at hne;exact i1A rfl hne
  ·rw [(f0t hc).1] at hw;cases hw
 ·rw [h.2.2.2.2.2.2.2.1] at hne;exact i1A rfl hne
omit C in
theorem t0X (t:b0b) (d:Option Nat) (v:Value) (x:Nat):get (put t d v) x=if d=some x∧x < t.length then v else get t x:=by
 cases d with
 | none=>simp [put]
 | some d =>
  simp only [put,get,i1h,i1R,i1l]
  by_cases h:d=x
  ·subst h
   by_cases hl:d < t.length
   ·simp [hl]
   ·simp [hl]
  ·simp [h]
theorem Ctx.slot {k:Nat} {s:a0I} (hs:l[k]? = some s) {x:Nat} (hne:get (R.T (k + 1)) x ≠ get (R.T k) x):(R.st k=1 ∨ R.st k=2)∧s.dst=some x:=by
 rcases C.run k s hs with h | h | h | h
 ·rw [h.2.2.1] at hne;exact i1A rfl hne
 ·refine ⟨.inl h.1,?_⟩
  rw [h.2.2.2.2.1,t0X] at hne
  split at hne
  ·rename_i h1;exact h1.1
  ·exact i1A rfl hne
 ·refine ⟨.inr h.1,?_⟩
  rw [h.2.2.2.2.1,t0X] at hne
  split at hne
  ·rename_i h1;exact h1.1
  ·exact i1A rfl hne
 ·rw [h.2.2.2.2.2.2.1] at hne;exact i1A rfl hne
theorem Ctx.tlen:∀ {k:Nat},k≤l.length→(R.T k).length=(R.T 0).length
 | 0,_=>rfl
 | k + 1,hk=>by
  obtain ⟨s,hs⟩:=C.sAt (by omega:k < l.length)
  have ih:=Ctx.tlen (k:=k) (by omega)
  have hp:∀ (d:Option Nat) (v:Value),(put (R.T k) d v).length=(R.T k).length:=fun d v=>by cases d <;> simp [put]
  rcases C.run k s hs with h | h | h | h
  ·rw [h.2.2.1];exact ih
  ·rw [h.2.2.2.2.1,hp];exact ih
  ·rw [h.2.2.2.2.1,hp];exact ih
  ·rw [h.2.2.2.2.2.2.1];exact ih
theorem Ctx.disj {i j:Nat} (hp:(i,j) ∈ pairs ∨ (j,i) ∈ pairs) (hi:i < l.length) (hj:j < l.length) {b:Nat} (hb:b ∈ (R.tc i).2):b ∉ (R.tc j).1∧b ∉ (R.tc j).2:=by
 have ha:=C.apart
 unfold c0U at ha
 rw [i1U] at ha
 have hlog:∀ k,k < l.length→((List.range' 0 l.length).map R.tc).getD k ([],[])=R.tc k:=fun k hk=>by
  simp only [i1h,j1x,List.getElem?_range' hk,j1B,i1O]
  congr 1;omega
 have nm:∀ {u v:List Nat},s0w u v=false→∀ {b:Nat},b ∈ u→b ∉ v:=fun {u v} h {b} hu hv=>by
  unfold s0w at h
  rw [List.any_eq_false] at h
  exact h b hu (by simpa using hv)
 rcases hp with hp | hp
 ·have h:=ha _ hp
  simp only [hlog i hi,hlog j hj,i1y,k1e] at h
  exact ⟨nm h.1.1 hb,nm h.1.2 hb⟩
 ·have h:=ha _ hp
  simp only [hlog i hi,hlog j hj,i1y,k1e] at h
  exact ⟨fun hr=>nm h.2 hr hb,fun hw=>nm h.1.2 hw hb⟩
theorem Ctx.clash {k j:Nat} {sk sj:a0I} (hk:l[k]? = some sk) (hj:l[j]? = some sj) (hkj:k ≠ j) (h1:b0s bef k j=false) (h2:b0s bef j k=false) {b:Nat} (hb:b < (R.Hh k).size)
  (hne:(R.Hh (k + 1)).blk b ≠ (R.Hh k).blk b) (hw:way sj.op ≠ 0):way sk.op=2∧b ∈ (R.tc k).2∧way sj.op ≠ 3∧b ∉ (R.tc j).1∧b ∉ (R.tc j).2:=by
 have hkl:k < l.length:=(i1M.1 hk).1
 have hjl:j < l.length:=(i1M.1 hj).1
 obtain ⟨ok,hok,hck⟩:=C.tab.op k sk hk
 obtain ⟨oj,hoj,hcj⟩:=C.tab.op j sj hj
 have hlen:=C.tab.len
 have h2':=C.tab.two hkj (by omega) (by omega) h1 h2 hok hoj hk hj
 rcases (C.change hk hb hne).2 with ⟨h3,h4⟩ | ⟨h3,h4⟩
 ·have hp:=h2'.2.2.2.2 ⟨h3,hw⟩
  have hd:=C.disj hp hkl hjl h4
  exact ⟨h3,h4,fun e=>h2'.2.2.2.1 ⟨h3,e⟩,hd.1,hd.2⟩
 ·exfalso
  have hl:=(r0Q (e0j hck).1).2 h4
  unfold w0A at hl
  rw [i1U] at hl
  have h5:=hl j (j1r.2 (by simp;omega))
  have h6:(ops.toList.map fun o=>o0m o.op).getD j 0=o0m oj.op:=by
   simp only [i1h,j1x,j1P,hoj,j1B,i1O]
  have h7:=(r0Q (e0j hcj).1).1 hw
  rw [h6,h1,h2] at h5
  simp only [Bool.or_eq_true,beq_iff_eq,i1H,or_false] at h5
  rcases h5 with h5 | h5
  ·exact hkj h5.symm
  ·exact h7 h5
end
section
open Go
structure g1k (X:Cx) (fl:Nat) (φ0:Inj) (H0:a0e) (w0:World) (φ:Inj) (w:World):Prop where
 ext:∀ b x,φ0 b=some x→φ b=some x
 shp:∀ B x,w0.shape? B=some x→w.shape? B=some x
 wsz:w0.heap.size≤w.heap.size
 os:w.os=w0.os
 tape:w.tape=w0.tape
 out:w.output=w0.output
 fresh:∀ b y,φ b=some y→φ0 b=none→H0.size≤b
 newB:∀ b B o,φ b=some (B,o)→φ0 b=none→w0.heap.size≤B ∨ ∃ b0 o0 e cs,φ0 b0=some (B,o0)∧fl≤b0∧H0.blk b0=.row false e cs
 frame:∀ B,B < w0.heap.size→(∀ b o e cs,φ0 b=some (B,o)→fl≤b→H0.blk b ≠ .row false e cs)→w.heap[B]? = w0.heap[B]?
structure Inv (X:Cx) (fl:Nat) (ops:Array Oper) (l:List a0I) (bef:List Nat) (R:Run) (φ0:Inj) (w0:World) (Sd:Nat→Prop) (φ:Inj) (κ θ:Nat→Nat) (a:Act) (w:World):Prop where
 done:∀ k,k < l.length→Sd k→R.st k=1 ∨ R.st k=2
 down:∀ j,j < l.length→Sd j→∀ i,b0s bef i j=true→Sd i
 tlen:a.tmps.size=(R.T 0).length
 defers:a.defers=R.ds
 base:X.base≤w.heap.size
 T:∀ x,x < (R.T 0).length→θ x≤l.length∧(θ x=0 ∨ ∃ k s,θ x=k + 1∧Sd k∧l[k]? = some s∧s.dst=some x)∧(∀ k s,θ x≤k→Sd k→l[k]? = some s→s.dst ≠ some x) ∧
  VR X (cut φ (R.Hh (θ x)).size) w.shape? (get (R.T (θ x)) x) (a.tmps.getD x undef)
 D:∀ b y,φ b=some y→b < (R.Hh 0).size ∨ ∃ k,k < l.length∧Sd k∧(R.Hh k).size≤b∧b < (R.Hh (k + 1)).size
 Rr:∀ b B o,φ b=some (B,o)→κ b≤l.length∧b < (R.Hh (κ b)).size∧(κ b=0 ∨ ∃ k,κ b=k + 1∧k < l.length∧Sd k∧((R.Hh k).size≤b ∨ (R.Hh (k + 1)).blk b ≠ (R.Hh k).blk b)) ∧
  (∀ k,κ b≤k→k < l.length→Sd k→(R.Hh (k + 1)).blk b=(R.Hh k).blk b) ∧
  ∀ ro e cs,(R.Hh (κ b)).blk b=.row ro e cs→y0l X (cut φ (R.Hh (κ b)).size) w B o ro e cs
 P:∀ b b' B o o' e cs,φ b=some (B,o)→φ b' = some (B,o')→b ≠ b'→(R.Hh (κ b)).blk b=.row false e cs→(R.Hh (κ b')).blk b' = .dead
 W:∀ k s,l[k]? = some s→Sd k→R.st k=2→∀ b,b ∈ (R.tc k).2→φ b ≠ none
 glob:g1k X fl φ0 (R.Hh 0) w0 φ w
variable {X:Cx} {call:Nat→FuncId→List Value→a0e→Res (Value × a0e)} {fl:Nat} {ops:Array Oper} {l:List a0I} {bef:List Nat} {pairs:List (Nat × Nat)} {R:Run} (C:Ctx X call fl ops l bef pairs R)
variable {φ0 φ:Inj} {w0 w w':World} {Sd:Nat→Prop} {κ θ:Nat→Nat} {a:Act} (I:Inv X fl ops l bef R φ0 w0 Sd φ κ θ a w)
variable {j:Nat} {s:a0I} {o:Oper} (hs:l[j]? = some s) (ho:ops[j]? = some o) (hnj:¬ Sd j) (hpre:∀ i,b0s bef i j=true→Sd i)
include C I hs hnj hpre
theorem Inv.unord {k:Nat} (hk:k < l.length) (hkj:k ≠ j) (h:(Sd k∧j < k) ∨ (¬ Sd k∧k < j)):b0s bef k j=false∧b0s bef j k=false:=by
 have hj:j < l.length:=(i1M.1 hs).1
 have hlen:=C.tab.len
 rcases h with ⟨h1,h2⟩ | ⟨h1,h2⟩
 ·refine ⟨?_,?_⟩
  ·cases h3:b0s bef k j with
   | false=>rfl
   | true=>have:=C.tab.lt j k (by omega) h3;omega
  ·cases h3:b0s bef j k with
   | false=>rfl
   | true=>exact i1A (I.down k hk h1 j h3) hnj
 ·refine ⟨?_,?_⟩
  ·cases h3:b0s bef k j with
   | false=>rfl
   | true=>exact i1A (hpre k h3) h1
  ·cases h3:b0s bef j k with
   | false=>rfl
   | true=>have:=C.tab.lt k j (by omega) h3;omega
include ho in
theorem Inv.slot {x:Nat} (hx:x < (R.T 0).length) (hu:x ∈ i0u o s):VR X (cut φ (R.Hh j).size) w.shape? (get (R.T j) x) (a.tmps.getD x undef):=by
 have hj:j < l.length:=(i1M.1 hs).1
 have hlen:=C.tab.len
 obtain ⟨h1,h2,h3,h4⟩:=I.T x hx
 have hle:θ x≤j:=by
  rcases h2 with h2 | ⟨k,sk,h5,h6,h7,h8⟩
  ·omega
  ·by_cases hkj:k < j
   ·omega
   ·exfalso
    have hk:k < l.length:=(i1M.1 h7).1
    have hne:k ≠ j:=fun e=>hnj (e ▸ h6)
    obtain ⟨u1,u2⟩:=Inv.unord C I hs hnj hpre hk hne (.inl ⟨h6,by omega⟩)
    obtain ⟨ok,hok,_⟩:=C.tab.op k sk h7
    exact (((C.tab.two hne (by omega) (by omega) u1 u2 hok ho h7 hs).1 x h8).1) hu
 have heq:∀ m,θ x≤m→m≤j→get (R.T m) x=get (R.T (θ x)) x:=by
  intro m hm
  induction m with
  | zero=>intro _;congr 2;omega
  | succ m ih =>
   intro hmj
   by_cases hc:θ x=m + 1
   ·rw [hc]
   ·rw [← ih (by omega) (by omega)]
    apply j1d
    intro hne
    obtain ⟨sm,hsm⟩:=C.sAt (by omega:m < l.length)
    obtain ⟨_,hd⟩:=C.slot hsm hne
    by_cases hS:Sd m
    ·exact h3 m sm (by omega) hS hsm hd
    ·obtain ⟨u1,u2⟩:=Inv.unord C I hs hnj hpre (by omega:m < l.length) (by omega) (.inr ⟨hS,by omega⟩)
     obtain ⟨om,hom,_⟩:=C.tab.op m sm hsm
     exact (((C.tab.two (by omega) (by omega) (by omega) u1 u2 hom ho hsm hs).1 x hd).1) hu
 rw [heq j hle (i1j _)]
 exact h4.mono (j0m (C.szmono hle (by omega)) (fun _ _ _ h=>h)) (fun _ _ h=>h)
def z0I (R:Run) (κ:Nat→Nat) (j b:Nat):Prop:=κ b≤j∧(R.Hh j).blk b=(R.Hh (κ b)).blk b
theorem Inv.notNew {b:Nat} {y:Nat × Nat} (hb:φ b=some y):b < (R.Hh j).size ∨ (R.Hh (j + 1)).size≤b:=by
 have hj:j < l.length:=(i1M.1 hs).1
 rcases I.D b y hb with h | ⟨k,hk,hS,h1,h2⟩
 ·exact .inl (i1C h (C.szmono (j1l _) (by omega)))
 ·by_cases hkj:k < j
  ·exact .inl (i1C h2 (C.szmono (by omega) (by omega)))
  ·have hne:k ≠ j:=fun e=>hnj (e ▸ hS)
   exact .inr (i1t (C.szmono (by omega) (by omega)) h1)
theorem Inv.good {b:Nat} {y:Nat × Nat} (hb:φ b=some y) (hlt:b < (R.Hh j).size) (hw:way s.op ≠ 0) (hfp:way s.op=3 ∨ b ∈ (R.tc j).1 ∨ b ∈ (R.tc j).2):z0I R κ j b:=by
 have hj:j < l.length:=(i1M.1 hs).1
 obtain ⟨B,o1⟩:=y
 obtain ⟨h1,h2,h3,h4,_⟩:=I.Rr b B o1 hb
 have no:∀ {k:Nat} {sk:a0I},l[k]? = some sk→k ≠ j→b0s bef k j=false→b0s bef j k=false→b < (R.Hh k).size→(R.Hh (k + 1)).blk b ≠ (R.Hh k).blk b→False:=by
  intro k sk hsk hne u1 u2 hbk hch
  obtain ⟨c1,c2,c3,c4,c5⟩:=C.clash hsk hs hne u1 u2 hbk hch hw
  rcases hfp with h | h | h
  ·exact c3 h
  ·exact c4 h
  ·exact c5 h
 have hle:κ b≤j:=by
  rcases h3 with h3 | ⟨k,h5,hk,h6,h7⟩
  ·omega
  ·by_cases hkj:k < j
   ·omega
   ·exfalso
    have hne:k ≠ j:=fun e=>hnj (e ▸ h6)
    obtain ⟨u1,u2⟩:=Inv.unord C I hs hnj hpre hk hne (.inl ⟨h6,by omega⟩)
    have hbk:b < (R.Hh k).size:=i1C hlt (C.szmono (by omega) (by omega))
    obtain ⟨sk,hsk⟩:=C.sAt hk
    rcases h7 with h7 | h7
    ·omega
    ·exact no hsk hne u1 u2 hbk h7
 refine ⟨hle,?_⟩
 have heq:∀ m,κ b≤m→m≤j→(R.Hh m).blk b=(R.Hh (κ b)).blk b:=by
  intro m hm
  induction m with
  | zero=>intro _;congr 2;omega
  | succ m ih =>
   intro hmj
   by_cases hc:κ b=m + 1
   ·rw [hc]
   ·rw [← ih (by omega) (by omega)]
    apply j1d
    intro hch
    obtain ⟨sm,hsm⟩:=C.sAt (by omega:m < l.length)
    by_cases hS:Sd m
    ·exact hch (h4 m (by omega) (by omega) hS)
    ·obtain ⟨u1,u2⟩:=Inv.unord C I hs hnj hpre (by omega:m < l.length) (by omega) (.inr ⟨hS,by omega⟩)
     exact no hsm (by omega) u1 u2 (i1C h2 (C.szmono (by omega) (by omega))) hch
 exact heq j hle (i1j _)
open Classical in
noncomputable def o0G (R:Run) (φ:Inj) (κ:Nat→Nat) (j:Nat):a0e :=
 ((List.range (R.Hh j).size).map fun b=>if φ b ≠ none∧¬ z0I R κ j b then Blk.dead else (R.Hh j).blk b).toArray
omit C I hs hnj hpre in
theorem e0A (R:Run) (φ:Inj) (κ:Nat→Nat) (j:Nat):(o0G R φ κ j).size=(R.Hh j).size:=by simp [o0G]
omit C I hs hnj hpre in
open Classical in
theorem j0u (R:Run) (φ:Inj) (κ:Nat→Nat) (j b:Nat):(o0G R φ κ j).blk b=if φ b ≠ none∧¬ z0I R κ j b then Blk.dead else (R.Hh j).blk b:=by
 by_cases hb:b < (R.Hh j).size
 ·simp only [o0G,a0e.blk,i1u,List.getElem?_toArray,j1x,j1V hb,j1B,i1O]
 ·have h1:(o0G R φ κ j).blk b=.dead:=i0y (by rw [e0A];omega)
  have h2:(R.Hh j).blk b=.dead:=i0y (by omega)
  rw [h1,h2];split <;> rfl
omit C I hs hnj hpre in
theorem e0Q {b:Nat} {y:Nat × Nat} {ro:Bool} {e:TypeId} {cs:List Value} (hb:φ b=some y) (h:(o0G R φ κ j).blk b=.row ro e cs):z0I R κ j b∧(R.Hh j).blk b=.row ro e cs:=by
 rw [j0u] at h
 split at h
 ·cases h
 ·rename_i hc
  refine ⟨j1d fun hg=>hc ⟨by rw [hb];simp,hg⟩,h⟩
theorem Inv.rel:Rel X (cut φ (R.Hh j).size) (o0G R φ κ j) w:=by
 have hj:j < l.length:=(i1M.1 hs).1
 refine { bs:=I.base,lt:=fun b x h=>by rw [e0A];exact (b0w.1 h).1,row:=?_,sep:=?_ }
 ·intro b B o1 ro e cs hb hrow
  obtain ⟨h1,h2⟩:=b0w.1 hb
  obtain ⟨⟨g1,g2⟩,h3⟩:=e0Q h2 hrow
  obtain ⟨c,el,fz,k1,k2,k3,k4⟩:=(I.Rr b B o1 h2).2.2.2.2 ro e cs (by rw [← g2];exact h3)
  exact ⟨c,el,fz,k1,k2,k3.mono (j0m (C.szmono g1 (by omega)) (fun _ _ _ h=>h)) (fun _ _ h=>h),k4⟩
 ·intro b b' B o1 o2 e cs hb hb' hne hrow
  obtain ⟨h1,h2⟩:=b0w.1 hb
  obtain ⟨h1',h2'⟩:=b0w.1 hb'
  obtain ⟨⟨g1,g2⟩,h3⟩:=e0Q h2 hrow
  have hd:=I.P b b' B o1 o2 e cs h2 h2' hne (by rw [← g2];exact h3)
  rw [j0u]
  split
  ·rfl
  ·rename_i hc
   have hg:z0I R κ j b':=j1d fun hg=>hc ⟨by rw [h2'];simp,hg⟩
   rw [hg.2];exact hd
end
section
open Go
variable {X:Cx} {call:Nat→FuncId→List Value→a0e→Res (Value × a0e)} {fl:Nat} {ops:Array Oper} {l:List a0I} {bef:List Nat} {pairs:List (Nat × Nat)} {R:Run} (C:Ctx X call fl ops l bef pairs R)
variable {φ0 φ:Inj} {w0 w w':World} {Sd:Nat→Prop} {κ θ:Nat→Nat} {a:Act} (I:Inv X fl ops l bef R φ0 w0 Sd φ κ θ a w)
variable {j:Nat} {s:a0I} {o:Oper} (hs:l[j]? = some s) (ho:ops[j]? = some o) (hnj:¬ Sd j) (hpre:∀ i,b0s bef i j=true→Sd i)
include C I hs hnj hpre
open Classical in
theorem Inv.after {φ1:Inj} {G1:a0e} {v':Value} (hst:R.st j=1 ∨ R.st j=2) (hT':R.T (j + 1)=put (R.T j) s.dst (R.val j)) (hpar:Par (R.Hh j) (R.Hh (j + 1)) (o0G R φ κ j) G1)
  (hv:VR X φ1 w'.shape? (R.val j) v') (hS:d0s X fl (cut φ (R.Hh j).size) (o0G R φ κ j) w φ1 G1 w') (hW:∀ b,b ∈ (R.tc j).2→φ b ≠ none) (hφ0:∀ b y,φ0 b=some y→b < (R.Hh 0).size) :
  ∃ φ' κ' θ',Inv X fl ops l bef R φ0 w0 (fun k=>Sd k ∨ k=j) φ' κ' θ' (a.put s.dst v') w':=by
 have hj:j < l.length:=(i1M.1 hs).1
 have hlow:fl≤(R.Hh j).size:=(C.keep0 (by omega:j≤l.length)).1
 have hks:=C.keepStep hj hlow
 have hsz:(R.Hh j).size≤(R.Hh (j + 1)).size:=hks.size
 have hG1:G1.size=(R.Hh (j + 1)).size:=hpar.size
 have hmaskRel:=Inv.rel C I hs hnj hpre
 let φ':Inj:=fun b=>if (R.Hh j).size≤b∧b < (R.Hh (j + 1)).size then φ1 b else φ b
 let ch:Nat→Prop:=fun b=>((R.Hh j).size≤b∧b < (R.Hh (j + 1)).size) ∨ (b < (R.Hh j).size∧(R.Hh (j + 1)).blk b ≠ (R.Hh j).blk b)
 let κ':Nat→Nat:=fun b=>if ch b then j + 1 else κ b
 let θ':Nat→Nat:=fun x=>if s.dst=some x then j + 1 else θ x
 have hφ':∀ b,φ' b=if (R.Hh j).size≤b∧b < (R.Hh (j + 1)).size then φ1 b else φ b:=fun _=>rfl
 have hκ1:∀ b,ch b→κ' b=j + 1:=fun b h=>i1n h
 have hκ2:∀ b,¬ ch b→κ' b=κ b:=fun b h=>i1k h
 have fA:∀ b y,φ b=some y→φ' b=some y:=fun b y hb=>by
  rw [hφ',i1k];exact hb
  have:=Inv.notNew C I hs hnj hpre hb;omega
 have fOld:∀ b y,b < (R.Hh j).size→φ1 b=some y→φ b=some y:=fun b y hb h=>by
  cases hc:cut φ (R.Hh j).size b with
  | none=>have:=hS.fresh b y h hc;rw [e0A] at this;omega
  | some z =>
   have:=hS.ext b z hc
   rw [h] at this;cases this
   exact (b0w.1 hc).2
 have fB:∀ b y,φ1 b=some y→b < (R.Hh (j + 1)).size∧φ' b=some y:=fun b y h=>by
  have hlt:=hS.rel.lt b y h
  rw [hG1] at hlt
  refine ⟨hlt,?_⟩
  rw [hφ']
  by_cases hb:(R.Hh j).size≤b
  ·rw [i1n ⟨hb,hlt⟩];exact h
  ·rw [i1k (by omega)];exact fOld b y (by omega) h
 have fC:∀ b y,φ' b=some y→b < (R.Hh (j + 1)).size→φ1 b=some y:=fun b y h hlt=>by
  rw [hφ'] at h
  split at h
  ·exact h
  ·rename_i hc
   exact hS.ext b y (b0w.2 ⟨by omega,h⟩)
 have fOut:∀ b y,φ' b=some y→¬ ((R.Hh j).size≤b∧b < (R.Hh (j + 1)).size)→φ b=some y:=fun b y h hc=>by rw [hφ',i1k hc] at h;exact h
 have cutB:∀ b y,φ1 b=some y→cut φ' (R.Hh (j + 1)).size b=some y:=fun b y h=>b0w.2 (fB b y h)
 have dead_ge:∀ {k b:Nat},(R.Hh k).size≤b→(R.Hh k).blk b=.dead:=fun h=>i0y h
 -- a later operation that has run leaves alone what this one has turned
 have later:∀ b,ch b→(φ' b ≠ none)→∀ k,j + 1≤k→k < l.length→(Sd k ∨ k=j)→(R.Hh (k + 1)).blk b=(R.Hh k).blk b:=by
  intro b hch hdom k hjk hk hSk
  have hSk : Sd k := by rcases hSk with h | h; · exact h
                        ·omega
  apply j1d
  intro hne
  obtain ⟨sk,hsk⟩:=C.sAt hk
  have hbk:b < (R.Hh k).size:=by
   have h1:=C.szmono (show j + 1≤k by omega) (by omega)
   rcases hch with h | h <;> omega
  obtain ⟨u1,u2⟩:=Inv.unord C I hs hnj hpre hk (by omega) (.inl ⟨hSk,by omega⟩)
  have hwj:way s.op ≠ 0:=by
   rcases hch with h | h
   ·exact C.grow hs (by omega)
   ·have h3:=(C.change hs h.1 h.2).2
    rcases h3 with ⟨h3,_⟩ | ⟨h3,_⟩ <;> omega
  obtain ⟨c1,c2,c3,c4,c5⟩:=C.clash hsk hs (by omega) u1 u2 hbk hne hwj
  rcases hch with h | h
  ·-- new: nobody that has run could know it
   obtain ⟨hch2,_⟩:=C.change hsk hbk hne
   have hd:=I.W k sk hsk hSk hch2 b c2
   cases hφb:φ b with
   | none=>exact hd hφb
   | some y=>have:=Inv.notNew C I hs hnj hpre hφb;omega
  ·have h3:=(C.change hs h.1 h.2).2
   rcases h3 with ⟨_,h3⟩ | ⟨h3,_⟩
   ·exact c5 h3
   ·exact c3 h3
 -- an untouched block's concrete row, if it is not in the state that ran
 have stale:∀ b B o1 ro e cs,φ b=some (B,o1)→(R.Hh (κ b)).blk b=.row ro e cs→((R.Hh (j + 1)).size≤b ∨ ¬ z0I R κ j b)→b < (R.Hh j).size ∨ (R.Hh (j + 1)).size≤b→w'.heap[B]? = w.heap[B]?:=by
  intro b B o1 ro e cs hb hrow hout hrange
  have hrk:=(I.Rr b B o1 hb).2.2.2.2 ro e cs hrow
  refine hS.frame B hrk.lt ?_
  intro b1 o2 e1 cs1 hb1 hfl1 hrow1
  obtain ⟨g1,g2⟩:=b0w.1 hb1
  obtain ⟨g3,g4⟩:=e0Q g2 hrow1
  have hne:b1 ≠ b:=by
   intro e;subst e
   rcases hout with h | h
   ·omega
   ·exact h g3
  have:=I.P b1 b B o2 o1 e1 cs1 g2 hb hne (by rw [← g3.2];exact g4)
  rw [this] at hrow;cases hrow
 -- the blocks of the state that ran
 have inRow:∀ b,b < (R.Hh (j + 1)).size→(ch b ∨ z0I R κ j b)→φ' b ≠ none→G1.blk b=(R.Hh (κ' b)).blk b:=by
  intro b hlt hin hdom
  by_cases hc:ch b
  ·rw [hκ1 b hc]
   rcases hc with h | h
   ·exact hpar.more b h.1
   ·exact hpar.diff b h.1 h.2
  ·rw [hκ2 b hc]
   have hg : z0I R κ j b := by rcases hin with h | h; · exact i1A h hc
                               ·exact h
   have hltj:b < (R.Hh j).size:=by
    by_cases h:b < (R.Hh j).size
    ·exact h
    ·exact i1A (.inl ⟨by omega,hlt⟩) hc
   have hsame:(R.Hh (j + 1)).blk b=(R.Hh j).blk b:=j1d fun h=>hc (.inr ⟨hltj,h⟩)
   rw [hpar.same b hltj hsame,j0u,i1k (fun h=>h.2 hg),hg.2]
 refine ⟨φ',κ',θ',?_⟩
 refine
  { done := ?_
    down:=?_
    tlen:=?_
    defers:=?_
    base:=i1t I.base hS.wsz
    T:=?_
    D:=?_
    Rr:=?_
    P:=?_
    W:=?_
    glob:=?_ }
 ·intro k hk hSk
  rcases hSk with h | h
  ·exact I.done k hk h
  ·subst h;exact hst
 ·intro k hk hSk i hi
  rcases hSk with h | h
  ·exact .inl (I.down k hk h i hi)
  ·subst h;exact .inl (hpre i hi)
 ·cases s.dst <;> simp [Act.put,I.tlen]
 ·rw [c0G];exact I.defers
 ·-- slots
  intro x hx
  have hlen:=C.tab.len
  by_cases hd:s.dst=some x
  ·have hθ:θ' x=j + 1:=i1n hd
   rw [hθ]
   refine ⟨by omega,.inr ⟨j,s,rfl,.inr rfl,hs,hd⟩,?_,?_⟩
   ·intro k sk hk hSk hsk hdk
    have hkl:k < l.length:=(i1M.1 hsk).1
    have hSk : Sd k := by rcases hSk with h | h; · exact h
                          ·omega
    obtain ⟨u1,u2⟩:=Inv.unord C I hs hnj hpre hkl (by omega) (.inl ⟨hSk,by omega⟩)
    obtain ⟨oj,hoj,_⟩:=C.tab.op j s hs
    obtain ⟨ok,hok,_⟩:=C.tab.op k sk hsk
    exact ((C.tab.two (by omega) (by omega) (by omega) u1 u2 hok hoj hsk hs).1 x hdk).2 hd
   ·rw [hT',t0X,i1n ⟨hd,by rw [C.tlen (by omega)];exact hx⟩]
    have e1:(a.put s.dst v').tmps.getD x undef=v':=by
     rw [hd]
     simp only [Act.put]
     rw [a0U]
     simp only [Array.toList_setIfInBounds,i1h,i1R]
     rw [i1n (by simp)]
     have:x < a.tmps.size:=by have:=I.tlen;omega
     simp [this]
    rw [e1]
    exact hv.mono cutB (fun _ _ h=>h)
  ·have hθ:θ' x=θ x:=i1k hd
   rw [hθ]
   obtain ⟨h1,h2,h3,h4⟩:=I.T x hx
   refine ⟨h1,?_,?_,?_⟩
   ·rcases h2 with h2 | ⟨k,sk,h5,h6,h7⟩
    ·exact .inl h2
    ·exact .inr ⟨k,sk,h5,.inl h6,h7⟩
   ·intro k sk hk hSk hsk
    rcases hSk with h | h
    ·exact h3 k sk hk h hsk
    ·subst h;rw [hs] at hsk;cases hsk;exact hd
   ·have e1:(a.put s.dst v').tmps.getD x undef=a.tmps.getD x undef:=by
     cases hsd:s.dst with
     | none=>rfl
     | some d =>
      have hdx:d ≠ x:=fun e=>hd (by rw [hsd,e])
      simp only [Act.put]
      rw [a0U,a0U]
      simp only [Array.toList_setIfInBounds,i1h,i1R]
      rw [i1k hdx]
    rw [e1]
    exact h4.mono (j0m (i1j _) (fun b y _ h=>fA b y h)) hS.shp
 ·-- which blocks there are
  intro b y hb
  by_cases hc:(R.Hh j).size≤b∧b < (R.Hh (j + 1)).size
  ·exact .inr ⟨j,hj,.inr rfl,hc.1,hc.2⟩
  ·rcases I.D b y (fOut b y hb hc) with h | ⟨k,h1,h2,h3⟩
   ·exact .inl h
   ·exact .inr ⟨k,h1,.inl h2,h3⟩
 ·-- rows
  intro b B o1 hb
  by_cases hc:ch b
  ·rw [hκ1 b hc]
   have hlt:b < (R.Hh (j + 1)).size:=by rcases hc with h | h <;> omega
   refine ⟨by omega,hlt,.inr ⟨j,rfl,hj,.inr rfl,?_⟩,later b hc (by rw [hb];simp),?_⟩
   ·rcases hc with h | h
    ·exact .inl h.1
    ·exact .inr h.2
   ·intro ro e cs hrow
    have hG:=inRow b hlt (.inl hc) (by rw [hb];simp)
    rw [hκ1 b hc] at hG
    obtain ⟨c,el,fz,k1,k2,k3,k4⟩:=hS.rel.row b B o1 ro e cs (fC b _ hb hlt) (by rw [hG];exact hrow)
    exact ⟨c,el,fz,k1,k2,k3.mono cutB (fun _ _ h=>h),k4⟩
  ·rw [hκ2 b hc]
   have hnr:¬ ((R.Hh j).size≤b∧b < (R.Hh (j + 1)).size):=fun h=>hc (.inl h)
   have hb0:=fOut b _ hb hnr
   obtain ⟨h1,h2,h3,h4,h5⟩:=I.Rr b B o1 hb0
   refine ⟨h1,h2,?_,?_,?_⟩
   ·rcases h3 with h3 | ⟨k,h6,h7,h8,h9⟩
    ·exact .inl h3
    ·exact .inr ⟨k,h6,h7,.inl h8,h9⟩
   ·intro k hk hkl hSk
    rcases hSk with h | h
    ·exact h4 k hk hkl h
    ·subst h
     by_cases hbj:b < (R.Hh k).size
     ·exact j1d fun h=>hc (.inr ⟨hbj,h⟩)
     ·rw [dead_ge (by omega),dead_ge (by omega)]
   ·intro ro e cs hrow
    have hold:=h5 ro e cs hrow
    have hrange:b < (R.Hh j).size ∨ (R.Hh (j + 1)).size≤b:=by omega
    by_cases hg:b < (R.Hh j).size∧z0I R κ j b
    ·-- in the state that ran
     have hG:=inRow b (by omega) (.inr hg.2) (by rw [hb];simp)
     rw [hκ2 b hc] at hG
     obtain ⟨c,el,fz,k1,k2,k3,k4⟩:=hS.rel.row b B o1 ro e cs (fC b _ hb (by omega)) (by rw [hG];exact hrow)
     obtain ⟨c0,el0,fz0,q1,q2,q3,q4⟩:=hold
     have hcut:=CR.cut (m:=(R.Hh (κ b)).size) (fun b y h=>(b0w.1 h).1) q3 k3
     exact ⟨c,el,fz,k1,k2,hcut.mono (j0m (i1j _) (fun b y _ h=>(fB b y h).2)) (fun _ _ h=>h),k4⟩
    ·have hout:(R.Hh (j + 1)).size≤b ∨ ¬ z0I R κ j b:=by
      by_cases h:(R.Hh (j + 1)).size≤b
      ·exact .inl h
      ·exact .inr fun hgd=>hg ⟨by omega,hgd⟩
     exact hold.mono (j0m (i1j _) (fun b y _ h=>fA b y h)) hS.shp (stale b B o1 ro e cs hb0 hrow hout hrange)
 ·-- apart
  intro b b' B o1 o2 e cs hb hb' hne hrow
  let inS:Nat→Prop:=fun b=>b < (R.Hh (j + 1)).size∧(ch b ∨ z0I R κ j b)
  have outF:∀ b y,φ' b=some y→¬ inS b→¬ ch b∧φ b=some y∧(b < (R.Hh j).size ∨ (R.Hh (j + 1)).size≤b)∧((R.Hh (j + 1)).size≤b ∨ ¬ z0I R κ j b):=by
   intro b y hb hno
   have h1:¬ ch b:=fun hc=>hno ⟨by rcases hc with h | h <;> omega,.inl hc⟩
   have hnr:¬ ((R.Hh j).size≤b∧b < (R.Hh (j + 1)).size):=fun h=>h1 (.inl h)
   refine ⟨h1,fOut b y hb hnr,by omega,?_⟩
   by_cases h:(R.Hh (j + 1)).size≤b
   ·exact .inl h
   ·exact .inr fun hg=>hno ⟨by omega,.inr hg⟩
  have deadOr:∀ (x:Blk),(∀ ro e cs,x ≠ .row ro e cs)→x=.dead:=fun x h=>by cases x with | dead=>rfl | row ro e cs=>exact i1A rfl (h ro e cs)
  by_cases i1:inS b
  ·have hG:=inRow b i1.1 i1.2 (by rw [hb];simp)
   have hb1:=fC b _ hb i1.1
   by_cases i2:inS b'
   ·have hG':=inRow b' i2.1 i2.2 (by rw [hb'];simp)
    rw [← hG']
    exact hS.rel.sep b b' B o1 o2 e cs hb1 (fC b' _ hb' i2.1) hne (by rw [hG];exact hrow)
   ·obtain ⟨n1,n2,n3,n4⟩:=outF b' _ hb' i2
    rw [hκ2 b' n1]
    apply deadOr
    intro ro2 e2 cs2 hr2
    have hlt2:=((I.Rr b' B o2 n2).2.2.2.2 ro2 e2 cs2 hr2).lt
    -- who owned the block before
    have owner:∃ b0 o0 e0 cs0,cut φ (R.Hh j).size b0=some (B,o0)∧(o0G R φ κ j).blk b0=.row false e0 cs0:=by
     cases hc0:cut φ (R.Hh j).size b with
     | some z =>
      have:=hS.ext b z hc0
      rw [hb1] at this;cases this
      obtain ⟨cs0,h0⟩:=hS.kind b e cs (hmaskRel.lt b _ hc0) (by rw [hG];exact hrow)
      exact ⟨b,o1,e,cs0,hc0,h0⟩
     | none =>
      rcases hS.newB b B o1 hb1 hc0 with h | ⟨b0,o0,e0,cs0,h1,_,h2⟩
      ·omega
      ·exact ⟨b0,o0,e0,cs0,h1,h2⟩
    obtain ⟨b0,o0,e0,cs0,q1,q2⟩:=owner
    obtain ⟨q3,q4⟩:=b0w.1 q1
    obtain ⟨q5,q6⟩:=e0Q q4 q2
    have hne0:b0 ≠ b':=by
     intro e;subst e
     rcases n4 with h | h
     ·omega
     ·exact h q5
    have:=I.P b0 b' B o0 o2 e0 cs0 q4 n2 hne0 (by rw [← q5.2];exact q6)
    rw [this] at hr2;cases hr2
  ·obtain ⟨n1,n2,n3,n4⟩:=outF b _ hb i1
   rw [hκ2 b n1] at hrow
   by_cases i2:inS b'
   ·have hG':=inRow b' i2.1 i2.2 (by rw [hb'];simp)
    have hb1':=fC b' _ hb' i2.1
    have hltb:=((I.Rr b B o1 n2).2.2.2.2 false e cs hrow).lt
    cases hc0:cut φ (R.Hh j).size b' with
    | none =>
     rcases hS.newB b' B o2 hb1' hc0 with h | ⟨b0,o0,e0,cs0,h1,_,h2⟩
     ·omega
     ·exfalso
      obtain ⟨q3,q4⟩:=b0w.1 h1
      obtain ⟨q5,q6⟩:=e0Q q4 h2
      have hne0:b0 ≠ b:=by
       intro e;subst e
       rcases n4 with h | h
       ·omega
       ·exact h q5
      have:=I.P b0 b B o0 o1 e0 cs0 q4 n2 hne0 (by rw [← q5.2];exact q6)
      rw [this] at hrow;cases hrow
    | some z =>
     have hz:=hS.ext b' z hc0
     rw [hb1'] at hz;cases hz
     obtain ⟨q3,q4⟩:=b0w.1 hc0
     have hdead:=I.P b b' B o1 o2 e cs n2 q4 hne hrow
     by_cases hc:ch b'
     ·rw [hκ1 b' hc]
      rw [hκ1 b' hc] at hG'
      apply deadOr
      intro ro2 e2 cs2 hr2
      have hcd : (R.Hh (j + 1)).blk b' ≠ (R.Hh j).blk b' := by rcases hc with h | h; · omega
                                                               ·exact h.2
      cases ro2 with
      | false =>
       obtain ⟨cs0,h0⟩:=hS.kind b' e2 cs2 (by rw [e0A];exact q3) (by rw [hG'];exact hr2)
       obtain ⟨q5,q6⟩:=e0Q q4 h0
       rw [← q5.2,q6] at hdead;cases hdead
      | true =>
       have:=hks.kindR b' e2 cs2 q3 hr2
       exact hcd (by rw [hr2,this])
     ·rw [hκ2 b' hc];exact hdead
   ·obtain ⟨m1,m2,m3,m4⟩:=outF b' _ hb' i2
    rw [hκ2 b' m1]
    exact I.P b b' B o1 o2 e cs n2 m2 hne hrow
 ·-- what has been written leads to what is known
  intro k sk hsk hSk hk2 b hb
  rcases hSk with h | h
  ·have:=I.W k sk hsk h hk2 b hb
   cases hφb:φ b with
   | none=>exact i1A hφb this
   | some y=>rw [fA b y hφb];simp
  ·subst h
   have:=hW b hb
   cases hφb:φ b with
   | none=>exact i1A hφb this
   | some y=>rw [fA b y hφb];simp
 ·-- held against the beginning
  have g:=I.glob
  refine
   { ext := fun b x h => fA b x (g.ext b x h)
     shp:=fun B x h=>hS.shp B x (g.shp B x h)
     wsz:=i1t g.wsz hS.wsz
     os:=hS.os.trans g.os
     tape:=hS.tape.trans g.tape
     out:=hS.out.trans g.out
     fresh:=fun b y hb hn=>by
      by_cases hc:(R.Hh j).size≤b∧b < (R.Hh (j + 1)).size
      ·exact i1t (C.szmono (j1l _) (by omega)) hc.1
      ·exact g.fresh b y (fOut b y hb hc) hn
     newB:=?_
     frame:=?_ }
  ·intro b B o1 hb hn
   have viaOld:∀ b0 o0 e0 cs0,φ b0=some (B,o0)→b0 < (R.Hh j).size→fl≤b0→(R.Hh j).blk b0=.row false e0 cs0→w0.heap.size≤B ∨ ∃ b0 o0 e cs,φ0 b0=some (B,o0)∧fl≤b0∧(R.Hh 0).blk b0=.row false e cs:=by
    intro b0 o0 e0 cs0 h1 h2 h3 h4
    cases h5:φ0 b0 with
    | none=>exact g.newB b0 B o0 h1 h5
    | some z =>
     have:=g.ext b0 z h5
     rw [h1] at this;cases this
     have hlt0:b0 < (R.Hh 0).size:=by
      by_cases h:b0 < (R.Hh 0).size
      ·exact h
      ·exfalso
       -- known from the beginning, so it was there
       have:=hφ0 b0 _ h5;omega
     obtain ⟨cs1,h6⟩:=(C.keep0 (by omega:j≤l.length)).2.kind b0 e0 cs0 hlt0 h4
     exact .inr ⟨b0,o0,e0,cs1,h5,h3,h6⟩
   by_cases hc:(R.Hh j).size≤b∧b < (R.Hh (j + 1)).size
   ·have hb1:=fC b _ hb hc.2
    have hcn:cut φ (R.Hh j).size b=none:=by unfold cut;rw [i1k (by omega)]
    rcases hS.newB b B o1 hb1 hcn with h | ⟨b0,o0,e0,cs0,h1,h2,h3⟩
    ·exact .inl (i1t g.wsz h)
    ·obtain ⟨q3,q4⟩:=b0w.1 h1
     obtain ⟨q5,q6⟩:=e0Q q4 h3
     exact viaOld b0 o0 e0 cs0 q4 q3 h2 q6
   ·exact g.newB b B o1 (fOut b _ hb hc) hn
  ·intro B hB hno
   rw [hS.frame B (i1C hB g.wsz) ?_,g.frame B hB hno]
   intro b1 o2 e1 cs1 hb1 hfl1 hrow1
   obtain ⟨q3,q4⟩:=b0w.1 hb1
   obtain ⟨q5,q6⟩:=e0Q q4 hrow1
   cases h5:φ0 b1 with
   | none =>
    rcases g.newB b1 B o2 q4 h5 with h | ⟨b0,o0,e0,cs0,h1,h2,h3⟩
    ·omega
    ·exact hno b0 o0 e0 cs0 h1 h2 h3
   | some z =>
    have:=g.ext b1 z h5
    rw [q4] at this;cases this
    have hlt0:b1 < (R.Hh 0).size:=hφ0 b1 _ h5
    obtain ⟨cs2,h6⟩:=(C.keep0 (by omega:j≤l.length)).2.kind b1 e1 cs1 hlt0 q6
    exact hno b1 o2 e1 cs2 h5 hfl1 h6
end
section
open Go
variable {X:Cx} {call:Nat→FuncId→List Value→a0e→Res (Value × a0e)} {fl:Nat} {ops:Array Oper} {l:List a0I} {bef:List Nat} {pairs:List (Nat × Nat)} {R:Run} (C:Ctx X call fl ops l bef pairs R)
variable {φ0 φ:Inj} {w0 w w':World} {Sd:Nat→Prop} {κ θ:Nat→Nat} {a:Act} (I:Inv X fl ops l bef R φ0 w0 Sd φ κ θ a w)
include C I
theorem Inv.final (hall:∀ k,k < l.length→Sd k) (hφ0:∀ b y,φ0 b=some y→b < (R.Hh 0).size) :
  CR X φ w.shape? (R.T l.length) a.tmps.toList∧d0s X fl φ0 (R.Hh 0) w0 φ (R.Hh l.length) w∧R.Pn l.length=none:=by
 have hrows:∀ b y,φ b=some y→(R.Hh l.length).blk b=(R.Hh (κ b)).blk b:=by
  intro b y hb
  obtain ⟨B,o1⟩:=y
  obtain ⟨h1,h2,h3,h4,h5⟩:=I.Rr b B o1 hb
  have:∀ m,κ b≤m→m≤l.length→(R.Hh m).blk b=(R.Hh (κ b)).blk b:=by
   intro m hm
   induction m with
   | zero=>intro _;congr 2;omega
   | succ m ih =>
    intro hml
    by_cases hc:κ b=m + 1
    ·rw [hc]
    ·rw [← ih (by omega) (by omega)]
     exact h4 m (by omega) (by omega) (hall m (by omega))
  exact this _ h1 (i1j _)
 have hdom:∀ b y,φ b=some y→b < (R.Hh l.length).size:=by
  intro b y hb
  obtain ⟨B,o1⟩:=y
  obtain ⟨h1,h2,_⟩:=I.Rr b B o1 hb
  exact i1C h2 (C.szmono h1 (i1j _))
 have g:=I.glob
 refine ⟨⟨?_,?_⟩,?_,?_⟩
 ·rw [C.tlen (i1j _)];simp [I.tlen]
 ·intro x hx
  rw [C.tlen (i1j _)] at hx
  obtain ⟨h1,h2,h3,h4⟩:=I.T x hx
  have:∀ m,θ x≤m→m≤l.length→get (R.T m) x=get (R.T (θ x)) x:=by
   intro m hm
   induction m with
   | zero=>intro _;congr 2;omega
   | succ m ih =>
    intro hml
    by_cases hc:θ x=m + 1
    ·rw [hc]
    ·rw [← ih (by omega) (by omega)]
     apply j1d
     intro hne
     obtain ⟨sm,hsm⟩:=C.sAt (by omega:m < l.length)
     exact h3 m sm (by omega) (hall m (by omega)) hsm (C.slot hsm hne).2
  have e1:=this _ h1 (i1j _)
  simp only [get] at e1 h4
  rw [e1,← a0U a.tmps]
  exact h4.mono (fun b y h=>(b0w.1 h).2) (fun _ _ h=>h)
 ·have hk:=(C.keep0 (i1j _)).2
  refine
   { ext := g.ext
     rel:=?_
     shp:=g.shp
     wsz:=g.wsz
     os:=g.os
     tape:=g.tape
     out:=g.out
     hsz:=hk.size
     keep:=fun b hb=>hk.low b hb
     kind:=fun b e cs hb h=>hk.kind b e cs hb h
     fresh:=g.fresh
     newB:=g.newB
     frame:=g.frame }
  refine { bs:=I.base,lt:=fun b x h=>hdom b x h,row:=?_,sep:=?_ }
  ·intro b B o1 ro e cs hb hrow
   obtain ⟨c,el,fz,k1,k2,k3,k4⟩:=(I.Rr b B o1 hb).2.2.2.2 ro e cs (by rw [← hrows b _ hb];exact hrow)
   exact ⟨c,el,fz,k1,k2,k3.mono (fun b y h=>(b0w.1 h).2) (fun _ _ h=>h),k4⟩
  ·intro b b' B o1 o2 e cs hb hb' hne hrow
   rw [hrows b' _ hb']
   exact I.P b b' B o1 o2 e cs hb hb' hne (by rw [← hrows b _ hb];exact hrow)
 ·cases hp:R.Pn l.length with
  | none=>rfl
  | some pv =>
   obtain ⟨p,v⟩:=pv
   obtain ⟨h1,h2⟩:=C.pan (i1j _) p v hp
   have:=I.done p h1 (hall p h1)
   omega
theorem Inv.panned {j:Nat} {s:a0I} (hs:l[j]? = some s) (hnj:¬ Sd j) (hpre:∀ i,b0s bef i j=true→Sd i) (hφ0:∀ b y,φ0 b=some y→b < (R.Hh 0).size)
  (hp:Pan X fl (cut φ (R.Hh j).size) (o0G R φ κ j) w w'):Pan X fl φ0 (R.Hh 0) w0 w':=by
 have hj:j < l.length:=(i1M.1 hs).1
 have g:=I.glob
 refine { shp:=fun B x h=>hp.shp B x (g.shp B x h),wsz:=i1t g.wsz hp.wsz,os:=hp.os.trans g.os,tape:=hp.tape.trans g.tape,out:=hp.out.trans g.out,frame:=?_ }
 intro B hB hno
 rw [hp.frame B (i1C hB g.wsz) ?_,g.frame B hB hno]
 intro b1 o2 e1 cs1 hb1 hfl1 hrow1
 obtain ⟨q3,q4⟩:=b0w.1 hb1
 obtain ⟨q5,q6⟩:=e0Q q4 hrow1
 cases h5:φ0 b1 with
 | none =>
  rcases g.newB b1 B o2 q4 h5 with h | ⟨b0,o0,e0,cs0,h1,h2,h3⟩
  ·omega
  ·exact hno b0 o0 e0 cs0 h1 h2 h3
 | some z =>
  have:=g.ext b1 z h5
  rw [q4] at this;cases this
  have hlt0:b1 < (R.Hh 0).size:=hφ0 b1 _ h5
  obtain ⟨cs2,h6⟩:=(C.keep0 (by omega:j≤l.length)).2.kind b1 e1 cs1 hlt0 q6
  exact hno b1 o2 e1 cs2 h5 hfl1 h6
def r0N (us:List Nat) (n:Nat) (f:Nat→Value):List Value:=(List.range n).map fun x=>if x ∈ us then f x else undef
omit C I in
theorem r0O (us:List Nat) (n:Nat) (f:Nat→Value) (x:Nat):(r0N us n f).getD x undef=if x < n∧x ∈ us then f x else undef:=by
 unfold r0N
 simp only [i1h,j1x]
 by_cases hx:x < n
 ·rw [j1V hx]
  simp [hx]
 ·rw [i1s (by simp;omega)]
  simp [hx]
theorem Inv.one (hφ0:∀ b y,φ0 b=some y→b < (R.Hh 0).size) {j:Nat} {s:a0I} {o:Oper} (hs:l[j]? = some s) (ho:ops[j]? = some o) (hco:∃ ln,g0N X.P ops ln o=some s) (hnj:¬ Sd j)
  (hpre:∀ i,b0s bef i j=true→Sd i) {K:Act→World→Prop} {Q:Exit→Act→World→Prop}
  (hK:∀ φ' κ' θ' a' w',Inv X fl ops l bef R φ0 w0 (fun k=>Sd k ∨ k=j) φ' κ' θ' a' w'→K a' w')
  (hQ:R.st j=3→∀ ty u w',Pan X fl φ0 (R.Hh 0) w0 w'→Q (.panic [{ v:=.iface ty u,recovered:=false }]) a w'):wpOp X.P ops Q j K a w:=by
 have hj:j < l.length:=(i1M.1 hs).1
 obtain ⟨ln,hco⟩:=hco
 obtain ⟨hcop,hflat,hdst⟩:=e0j hco
 have hslot:=fun {x:Nat}=>Inv.slot C I hs ho hnj hpre (x:=x)
 have hrel:=Inv.rel C I hs hnj hpre
 have hTlen:=C.tlen (show j≤l.length by omega)
 -- the guard
 have hwant:Region.wanted o (yielded ops a.tmps)=b0j (R.T j) s.g:=by
  refine n0y (φ:=cut φ (R.Hh j).size) (S:=w.shape?) (X:=X) hco ?_
  intro d want hg
  by_cases hd:d < (R.T 0).length
  ·exact hslot hd (by simp [i0u,hg])
  ·have e1:get (R.T j) d=undef:=by
    unfold get;rw [i1h,i1s (by omega)];rfl
   have e2:a.tmps.getD d undef=undef:=by
    have:=I.tlen
    rw [i1u,k1j (by omega)];rfl
   rw [e1,e2];exact VR.undef
 unfold wpOp
 simp only [ho]
 rw [hwant]
 -- the frame with the slots that matter alone
 have hmaskT:CR X (cut φ (R.Hh j).size) w.shape? (r0N (i0u o s) (R.T 0).length (fun x=>get (R.T j) x)) (r0N (i0u o s) (R.T 0).length (fun x=>a.tmps.getD x undef)):=by
  unfold r0N
  refine CR.of_mem_map _ _ _ ?_
  intro x hx
  have hx:=j1r.1 hx
  split
  ·rename_i hu;exact hslot hx hu
  ·exact VR.undef
 let tj:b0b:=r0N (i0u o s) (R.T 0).length (fun x=>get (R.T j) x)
 let aj:Act:={ tmps:=(r0N (i0u o s) (R.T 0).length (fun x=>a.tmps.getD x undef)).toArray,defers:=a.defers }
 have hmaskT':CR X (cut φ (R.Hh j).size) w.shape? tj aj.tmps.toList:=by simpa [aj] using hmaskT
 have hev:∀ x ∈ a0y s.op,ev tj x=ev (R.T j) x:=by
  intro x hx
  cases x with
  | tmp d =>
   simp only [ev,get,tj,r0O]
   have hu:d ∈ i0u o s:=by
    unfold i0u
    simp only [i1F,List.mem_filterMap]
    exact .inl (.inl ⟨.tmp d,hx,rfl⟩)
   by_cases hd:d < (R.T 0).length
   ·rw [i1n ⟨hd,hu⟩]
   ·rw [i1k (fun h=>hd h.1),i1h,i1s (by omega)];rfl
  | const v=>rfl
  | fn f=>rfl
 have hexec:execOp a.eval o=execOp aj.eval o:=by
  refine execOp_congr o (fun cs b=>C.tab.nosel j o cs b ho) ?_
  intro x hx
  cases x with
  | tmp d =>
   have hu:d ∈ i0u o s:=by
    unfold i0u
    simp only [i1F,List.mem_filterMap]
    exact .inr ⟨.tmp d,by simpa using hx,rfl⟩
   simp only [Act.eval,aj]
   rw [a0U (r0N _ _ _).toArray]
   simp only [List.toList_toArray,r0O]
   by_cases hd:d < (R.T 0).length
   ·rw [i1n ⟨hd,hu⟩]
   ·have hle:a.tmps.size≤d:=by rw [I.tlen];exact Nat.le_of_not_lt hd
    rw [i1k (fun h=>hd h.1),i1u,k1j hle];rfl
  | const v=>rfl
  | func f=>rfl
  | global g=>rfl
 have hlowm:fl≤(o0G R φ κ j).size:=by rw [e0A];exact (C.keep0 (by omega:j≤l.length)).1
 -- what the operation comes to, in the masked state
 have hcallMask:way s.op=3→o0G R φ κ j=R.Hh j:=by
  intro hw
  apply Array.ext
  ·exact e0A _ _ _ _
  ·intro i h1 h2
   have hb:(o0G R φ κ j).blk i=(R.Hh j).blk i:=by
    rw [j0u]
    split
    ·rename_i hc
     exfalso
     cases hφi:φ i with
     | none=>exact hc.1 hφi
     | some y=>exact hc.2 (Inv.good C I hs hnj hpre hφi h2 (by omega) (.inl hw))
    ·rfl
   simpa [a0e.blk,i1u,i1S h1,i1S h2] using hb
 rcases C.run j s hs with h | h | h | h
 ·-- it h0m on what has panicked: it is never come to
  exfalso
  have hh:=h.2.1
  cases hp:R.Pn j with
  | none=>rw [hp] at hh;cases hh
  | some pv =>
   obtain ⟨p,v⟩:=pv
   rw [hp] at hh
   have hS:=hpre p hh
   obtain ⟨h1,h2⟩:=C.pan (by omega:j≤l.length) p v hp
   have:=I.done p (by omega) hS
   omega
 ·-- not wanted
  rw [h.2.2.1]
  simp only [i1H,j1h]
  have:=Inv.after C I hs hnj hpre (v':=undef) (.inl h.1) (by rw [h.2.2.2.1];exact h.2.2.2.2.1) (by rw [h.2.2.2.2.2.1];exact Par.refl (e0A _ _ _ _)) (by rw [h.2.2.2.1];exact VR.undef) (d0s.refl hrel)
   (by intro b hb;rw [h.2.2.2.2.2.2.2] at hb;simp at hb) hφ0
  obtain ⟨φ',κ',θ',hI⟩:=this
  rw [← hdst]
  exact hK φ' κ' θ' _ _ hI
 ·rw [h.2.2.1]
  simp only [i1X]
  refine .inl ?_
  have htc:∀ b,b ∈ (R.tc j).1 ∨ b ∈ (R.tc j).2→way s.op ≠ 0:=by
   intro b hb
   rw [h.2.2.2.2.2.2] at hb
   rcases hb with hb | hb
   ·rcases z0F hb with h | h <;> omega
   ·have:=p0z hb;omega
  have hstep:∃ G1,b0z call fl tj (o0G R φ κ j) s.op=.ok (R.val j,G1)∧Par (R.Hh j) (R.Hh (j + 1)) (o0G R φ κ j) G1:=by
   rcases j0a h.2.2.2.1 with hv | ⟨f,args,lone,hc,hcl⟩
   ·obtain ⟨G1,g1,g2⟩:=B0z hv (e0A R φ κ j) (fun b hb=>by
     rw [j0u]
     split
     ·rename_i hcnd
      rw [← h.2.2.2.2.2.2] at hb
      by_cases hlt:b < (R.Hh j).size
      ·exfalso
       cases hφb:φ b with
       | none=>exact hcnd.1 hφb
       | some y=>exact hcnd.2 (Inv.good C I hs hnj hpre hφb hlt (htc b hb) (.inr hb))
      ·exact (i0y (by omega)).symm
     ·rfl)
    refine ⟨G1,?_,g2⟩
    unfold b0z
    rw [j0z hev,g1]
   ·have hm:=hcallMask (f0t hc).1
    refine ⟨R.Hh (j + 1),?_,?_⟩
    ·unfold b0z
     rw [j0z hev,i0B hc fl (o0G R φ κ j),hm]
     exact hcl
    ·rw [hm];exact ⟨rfl,fun _ _ e=>e,fun _ _ _=>rfl,fun _ _=>rfl⟩
  obtain ⟨G1,hst1,hpar⟩:=hstep
  refine l0B (o:=o) C.callOk hcop hflat hrel hmaskT' hlowm hst1 a hexec (fun φ1 v' w' hv hS=>?_)
  have hW:∀ b,b ∈ (R.tc j).2→φ b ≠ none:=by
   intro b hb
   rw [h.2.2.2.2.2.2,← v0M hev] at hb
   -- its operand leads there
   have key:∀ x ∈ a0y s.op,(b ∈ blkW (ev tj x) ∨ ∃ p,ev tj x=.pointer (some p)∧b=p.block)→φ b ≠ none:=by
    intro x hx hbx
    have hvx:∃ u,VR X (cut φ (R.Hh j).size) w.shape? (ev tj x) u:=by
     cases x with
     | tmp d=>exact ⟨_,by simpa [ev,get] using hmaskT'.get d⟩
     | const v =>
      have:=i1U.1 hflat _ hx
      exact ⟨v,m0g this⟩
     | fn f=>exact ⟨_,.func _ _ _ _ _ rfl (fun i hi=>by simp at hi) rfl (fun i hi=>by simp at hi)⟩
    obtain ⟨u,hvx⟩:=hvx
    generalize ev tj x=vv at hvx hbx
    cases hvx <;> simp [blkW] at hbx
    ·rename_i B o1 g1 g2 g3;subst hbx;rw [(b0w.1 g2).2];simp
    ·rename_i B o1 g1 g2 _ _ _ _ _ _;obtain ⟨_,hbx⟩:=hbx;subst hbx;rw [(b0w.1 g2).2];simp
   cases hop:s.op <;> rw [hop] at hb <;> simp only [d0i] at hb
   case store n x y =>
    have hop2:=hop
    have hbp:∃ p,ev tj x=.pointer (some p):=by
     have h3:=h.2.2.2.1
     have hx:ev tj x=ev (R.T j) x:=hev x (by rw [hop];simp [a0y])
     rw [hx]
     rw [hop] at h3
     simp only [b0z,opA] at h3
     cases hq:ev (R.T j) x <;> simp [hq] at h3
     rename_i p;cases p <;> simp at h3
     exact ⟨_,rfl⟩
    obtain ⟨p,hp⟩:=hbp
    rw [hp] at hb
    simp only [blkOf,k1a] at hb
    exact key x (by rw [hop];simp [a0y]) (.inr ⟨p,hp,hb⟩)
   case app e n bb x y=>exact key x (by rw [hop];simp [a0y]) (.inl hb)
   all_goals (simp at hb)
  obtain ⟨φ',κ',θ',hI⟩:=Inv.after C I hs hnj hpre (.inr h.1) h.2.2.2.2.1 hpar hv hS hW hφ0
  rw [← hdst]
  exact hK φ' κ' θ' _ _ hI
 ·-- it panics
  rw [h.2.2.1]
  simp only [i1X]
  refine .inl ?_
  have hstep:b0z call fl tj (o0G R φ κ j) s.op=.pan (R.val j):=by
   have hp:=h.2.2.2.1
   unfold b0z at hp ⊢
   split at hp
   ·cases hp
   ·rename_i v1 hv
    simp only [Res.pan.injEq] at hp;subst hp
    obtain ⟨_,x,hx1,hx2⟩:=g0m hv
    have:opA fl tj (o0G R φ κ j) s.op=.pan (R.val j):=by
     rw [j0z hev,hx1]
     rw [hx1] at hv
     simpa [opA] using hv
    rw [this]
   ·cases hp
   ·rename_i f args lone hc
    have hm:=hcallMask (f0t hc).1
    rw [j0z hev,i0B hc fl (o0G R φ κ j),hm]
    exact hp
  refine t0q (o:=o) C.callOk hcop hflat hrel hmaskT' hlowm hstep a hexec (fun ty u w' hp=>hQ h.1 ty u w' (Inv.panned C I hs hnj hpre hφ0 hp))
end
section
open Go
variable {X:Cx} {call:Nat→FuncId→List Value→a0e→Res (Value × a0e)}
def left (listed:Array Bool) (n:Nat):Nat:=((List.range n).filter fun k=>!listed.getD k false).length
theorem B0n {listed:Array Bool} {n:Nat} (h:left listed n=0):∀ k,k < n→listed.getD k false=true:=by
 intro k hk
 unfold left at h
 have:=i1I.1 h
 rw [List.filter_eq_nil_iff] at this
 have:=this k (j1r.2 hk)
 simpa using this
theorem K0C {listed:Array Bool} {n j:Nat} (hj:j < n) (hsz:listed.size=n) (hn:listed.getD j false=false):left listed n=left (listed.setIfInBounds j true) n + 1:=by
 unfold left
 have key:∀ m,m≤n→((List.range m).filter fun k=>!listed.getD k false).length=((List.range m).filter fun k=>!(listed.setIfInBounds j true).getD k false).length + if j < m then 1 else 0:=by
  intro m
  induction m with
  | zero=>intro _;simp
  | succ m ih =>
   intro hm
   have ih:=ih (by omega)
   rw [List.range_succ,List.filter_append,List.filter_append,i1E,i1E,ih]
   by_cases hjm:j=m
   ·subst hjm
    have e1:(listed.setIfInBounds j true).getD j false=true:=by
     simp only [i1u,i1Q]
     simp [show j < listed.size by omega]
    simp only [List.filter_cons,List.filter_nil,hn,e1]
    simp
   ·have e1:(listed.setIfInBounds j true).getD m false=listed.getD m false:=getD_set_ne false hjm
    simp only [List.filter_cons,List.filter_nil,e1]
    have:(j < m + 1) ↔ (j < m):=by omega
    simp only [this]
    omega
 have:=key n (i1j _)
 rw [i1n hj] at this
 exact this
theorem M0t {listed:Array Bool} {n j:Nat} (hj:j < n) (hsz:listed.size=n) (k:Nat):(listed.setIfInBounds j true).getD k false=true ↔ listed.getD k false=true ∨ k=j:=by
 by_cases hk:k=j
 ·subst hk
  simp only [i1u,i1Q]
  simp [show k < listed.size by omega]
 ·rw [getD_set_ne false (fun e=>hk e.symm)]
  simp [hk]
theorem A0w (hcall:e0g X call) (hkeep:h0M call) (hmix:X.P.follows .mixedOrders=true):r0A X call:=by
 intro ops l bef pairs hc D fl t H φ w a hR hT hfl hd hne id
 have tab:=M0B hc
 obtain ⟨R0,s1,s2,s3,s4,s5,s6⟩:=U0c l 0 t H none [] hne
 obtain ⟨R,rD,r1,r2,r3,r4,r5,r6⟩:∃ R:Run,R.ds=D∧R.T 0=t∧R.Hh 0=H∧R.Pn 0=none∧(∀ m s,l[m]? = some s→j0g call fl bef R (0 + m) s)∧c0U (([]:List (List Nat × List Nat)).reverse ++ (List.range' 0 l.length).map R.tc) pairs=true ∧
   b0S call fl bef pairs 0 l t H none []=match R.Pn (0 + l.length) with | none=>.fin .normal (R.T (0 + l.length)) (R.Hh (0 + l.length)) | some (_,v)=>.pan v :=
  ⟨{ R0 with ds:=D },rfl,s1,s2,s3,s4,s5,s6⟩
 simp only [i1P] at r4 r6
 have C:Ctx X call fl ops l bef pairs R:=⟨hcall,hkeep,tab,r4,by simpa using r5,r3,by rw [r2];exact hfl⟩
 have hφ0:∀ b y,φ b=some y→b < (R.Hh 0).size:=fun b y h=>by rw [r2];exact hR.lt b y h
 have hlen:=tab.len
 rw [r6]
 -- what a panic makes of the end
 have hend:∀ j,j < l.length→R.st j=3→∃ v,R.Pn l.length=some (j,v):=by
  intro j hj h3
  obtain ⟨s,hs⟩:=C.sAt hj
  have hpn:R.Pn (j + 1)=some (j,R.val j):=by
   rcases C.run j s hs with h | h | h | h
   ·have:=h.1;omega
   ·have:=h.1;omega
   ·have:=h.1;omega
   ·exact h.2.2.2.2.2.1
  have:∀ m,j + 1≤m→m≤l.length→R.Pn m=some (j,R.val j):=by
   intro m hm
   induction m with
   | zero=>omega
   | succ m ih =>
    intro hml
    by_cases hjm:j=m
    ·subst hjm;exact hpn
    ·have ih:=ih (by omega) (by omega)
     obtain ⟨sm,hsm⟩:=C.sAt (by omega:m < l.length)
     rcases C.run m sm hsm with h | h | h | h
     ·rw [h.2.2.2.2.1];exact ih
     ·rw [h.2.2.2.2.2.2.1];exact ih
     ·rw [h.2.2.2.2.2.1];exact ih
     ·rw [ih] at h;have:=h.2.2.2.2.1;cases this
  exact ⟨_,this _ (by omega) (i1j _)⟩
 refine wp_region_any hmix ?_
 -- from whatever has run
 have key:∀ (fuel:Nat) (listed:Array Bool) (φ1:Inj) (κ θ:Nat→Nat) (a1:Act) (w1:World),listed.size=ops.size→left listed ops.size=fuel →
   Inv X fl ops l bef R φ w.drew (fun k=>listed.getD k false=true) φ1 κ θ a1 w1 →
   wpAny X.P .any ops (J0B X D fl φ H w (match R.Pn l.length with | none=>.fin .normal (R.T l.length) (R.Hh l.length) | some (_,v)=>.pan v)) fuel listed a1 w1:=by
  intro fuel
  induction fuel with
  | zero =>
   intro listed φ1 κ θ a1 w1 hsz hleft I
   have hall:=B0n hleft
   obtain ⟨f1,f2,f3⟩:=Inv.final C I (fun k hk=>hall k (by omega)) hφ0
   refine ⟨?_,?_⟩
   ·unfold Region.ready
    rw [List.filter_eq_nil_iff]
    intro k hk
    have hk:=j1r.1 hk
    have:=hall k hk
    have e:listed.getD k true=true:=by
     simp only [i1u] at this ⊢
     rw [i1S (by omega)] at this ⊢
     simpa using this
    simp [e]
   ·rw [f3]
    refine ⟨rfl,I.defers.trans rD,φ1,f1,?_⟩
    rw [r2] at f2
    exact { f2 with }
  | succ fuel ih =>
   intro listed φ1 κ θ a1 w1 hsz hleft I
   refine ⟨fun hnil=>?_,fun j hj=>?_⟩
   ·-- something is still to run,and the first of it is ready
    exfalso
    have hex:∃ k,k < ops.size∧listed.getD k false=false:=by
     apply j1d
     intro hno
     have:left listed ops.size=0:=by
      unfold left
      rw [i1I,List.filter_eq_nil_iff]
      intro k hk
      have hk:=j1r.1 hk
      intro hh
      exact hno ⟨k,hk,by simpa using hh⟩
     omega
    obtain ⟨k,hk,hmin⟩:∃ k,(k < ops.size∧listed.getD k false=false)∧∀ m,m < k→listed.getD m false=true:=by
     obtain ⟨k0,h1,h2⟩:=hex
     induction k0 using Nat.strongRecOn with
     | _ k0 ih2 =>
      by_cases hm:∃ m,m < k0∧listed.getD m false=false
      ·obtain ⟨m,h3,h4⟩:=hm
       exact ih2 m h3 (by omega) h4
      ·refine ⟨k0,⟨h1,h2⟩,fun m hm2=>?_⟩
       cases hl:listed.getD m false with
       | true=>rfl
       | false=>exact i1A ⟨m,hm2,hl⟩ hm
    have hmem:k ∈ Region.ready .any ops listed:=by
     unfold Region.ready
     rw [List.mem_filter]
     refine ⟨j1r.2 hk.1,?_⟩
     have hok:ops[k]? = some ops[k]:=i1S hk.1
     have e:listed.getD k true=false:=by
      have:=hk.2
      simp only [i1u] at this ⊢
      rw [i1S (by omega)] at this ⊢
      simpa using this
     simp only [e,Bool.not_false,Bool.true_and,hok,j1B,i1O]
     rw [Array.all_eq_true']
     intro ed hed
     by_cases hb:Region.binds .any ed=true
     ·have:=tab.back k _ hok ed (by simpa using hed) hb
      simp [hmin _ this]
     ·simp [hb]
    rw [hnil] at hmem
    cases hmem
   ·obtain ⟨hjo,hjl,hpre⟩:=tab.ready hj (fun k hk hS i hi=>I.down k (by omega) hS i hi)
    have hnj:listed.getD j false=false:=by
     simp only [i1u] at hjl ⊢
     rw [i1S (by omega)] at hjl ⊢
     simpa using hjl
    obtain ⟨s,hs⟩:=C.sAt (by omega:j < l.length)
    obtain ⟨o,ho,hco⟩:=tab.op j s hs
    refine Inv.one C I hφ0 hs ho ⟨_,hco⟩ (by rw [hnj];simp) hpre (fun φ' κ' θ' a' w' hI=>?_) (fun h3 ty u w' hp=>?_)
    ·refine ih _ φ' κ' θ' a' w' (by simp [hsz]) (by have:=K0C hjo hsz hnj;omega) ?_
     have e:(fun k=>(listed.setIfInBounds j true).getD k false=true)=(fun k=>listed.getD k false=true ∨ k=j):=by
      funext k;exact l1g (M0t hjo hsz k)
     rw [e];exact hI
    ·obtain ⟨v,hv⟩:=hend j (by omega) h3
     rw [hv]
     refine ⟨⟨ty,u,rfl⟩,I.defers.trans rD,?_⟩
     rw [r2] at hp
     exact { hp with }
 refine key ops.size _ φ (fun _=>0) (fun _=>0) a w.drew (by simp) ?_ ?_
 ·unfold left
  have:(List.range ops.size).filter (fun k=>!(Array.replicate ops.size false).getD k false)=List.range ops.size:=by
   rw [List.filter_eq_self]
   intro k hk
   have hk:=j1r.1 hk
   simp [i1u,hk]
  rw [this];simp
 ·have hnone:∀ k,¬ ((Array.replicate ops.size false).getD k false=true):=by
   intro k
   simp only [i1u,Array.getElem?_replicate]
   split <;> simp
  have hcutφ:∀ b y,φ b=some y→cut φ (R.Hh 0).size b=some y:=fun b y h=>b0w.2 ⟨hφ0 b y h,h⟩
  refine
   { done := fun k _ h => i1A h (hnone k)
     down:=fun j _ h=>i1A h (hnone j)
     tlen:=?_
     defers:=hd.trans rD.symm
     base:=hR.bs
     T:=?_
     D:=fun b y h=>.inl (hφ0 b y h)
     Rr:=?_
     P:=?_
     W:=fun k s _ h=>i1A h (hnone k)
     glob:=⟨fun _ _ h=>h,fun _ _ h=>h,i1j _,rfl,rfl,rfl,(fun b y h h'=>by rw [h] at h';cases h'),(fun b B o h h'=>by rw [h] at h';cases h'),fun _ _ _=>rfl⟩ }
  ·rw [r1];have:=hT.1;simp at this;omega
  ·intro x hx
   refine ⟨j1l _,.inl rfl,fun k s _ h=>i1A h (hnone k),?_⟩
   have:=hT.get x
   rw [r1,a0U]
   exact this.mono hcutφ (fun _ _ h=>h)
  ·intro b B o1 hb
   refine ⟨j1l _,hφ0 b _ hb,.inl rfl,fun k _ _ h=>i1A h (hnone k),?_⟩
   intro ro e cs hrow
   rw [r2] at hrow
   obtain ⟨c,el,fz,k1,k2,k3,k4⟩:=hR.row b B o1 ro e cs hb hrow
   exact ⟨c,el,fz,k1,k2,k3.mono hcutφ (fun _ _ h=>h),k4⟩
  ·intro b b' B o1 o2 e cs hb hb' hne2 hrow
   rw [r2] at hrow ⊢
   exact hR.sep b b' B o1 o2 e cs hb hb' hne2 hrow
end
section
open Go
end
section
open Go
variable {X:Cx} {φ φ':Inj} {H H':a0e} {w w':World} {fl:Nat} {t:b0b} {a:Act}
theorem Rel.row_lt (hR:Rel X φ H w) {b B o:Nat} {ro:Bool} {e:TypeId} {cs:List Value} (h:φ b=some (B,o)) (hk:H.blk b=.row ro e cs):B < w.heap.size:=by
 obtain ⟨c,el,fz,h1,_⟩:=hR.row b B o ro e cs h hk
 exact (i1T.1 h1).1
theorem Rel.agree (hR:Rel X φ H w) (hb:X.base≤w'.heap.size) (hshp:∀ B x,w.shape? B=some x→w'.shape? B=some x)
  (hold:∀ b B o ro e cs,φ b=some (B,o)→H.blk b=.row ro e cs→w'.heap[B]? = w.heap[B]?):Rel X φ H w' :=
 ⟨hb,hR.lt,fun b B o ro e cs h1 h2=>by
  obtain ⟨c,el,fz,h3,h4,h5,h6⟩:=hR.row b B o ro e cs h1 h2
  exact ⟨c,el,fz,by rw [hold b B o ro e cs h1 h2];exact h3,h4,h5.mono (fun _ _ h=>h) hshp,h6⟩,hR.sep⟩
def ad (φ:Inj) (n B o:Nat):Inj:=fun b=>if b=n then some (B,o) else φ b
theorem Y0g {n B o:Nat}:ad φ n B o n=some (B,o):=by unfold ad;rw [i1n rfl]
theorem w0e (hR:Rel X φ H w) {B o b:Nat} {x:Nat × Nat} (h:φ b=some x):ad φ H.size B o b=some x:=by
 unfold ad;rw [i1k (by have:=hR.lt b x h;omega)];exact h
theorem h0e (hR:Rel X φ H w) {B o b:Nat} {x:Nat × Nat} (h:ad φ H.size B o b=some x):(b=H.size∧x=(B,o)) ∨ (b < H.size∧φ b=some x):=by
 unfold ad at h
 split at h
 ·rename_i hb;exact .inl ⟨hb,by simpa using h.symm⟩
 ·exact .inr ⟨hR.lt b x h,h⟩
theorem Rel.adopt (hR:Rel X φ H w) {B o:Nat} {e:TypeId} {cs:List Value} {c:Array Value} (hB:w.heap[B]? = some (.cells c e (0,0))) (hle:o + cs.length≤c.size)
  (hc:CR X φ w.shape? cs ((c.toList.drop o).take cs.length)) (hbase:X.base≤B) (hno:∀ b o ro e' cs',φ b=some (B,o)→H.blk b ≠ .row ro e' cs'):Rel X (ad φ H.size B o) (H.push (.row false e cs)) w:=by
 have hext:∀ b x,φ b=some x→ad φ H.size B o b=some x:=fun b x h=>w0e hR h
 have hdead:∀ b o,φ b=some (B,o)→H.blk b=.dead:=by
  intro b o h
  cases hk:H.blk b with
  | dead=>rfl
  | row ro e' cs'=>exact i1A hk (hno b o ro e' cs' h)
 refine ⟨hR.bs,?_,?_,?_⟩
 ·intro b x h
  rw [j1H]
  rcases h0e hR h with ⟨h1,_⟩ | ⟨h1,_⟩ <;> omega
 ·intro b B1 o1 ro e1 cs1 h1 h2
  rw [a0K] at h2
  rcases h0e hR h1 with ⟨rfl,h3⟩ | ⟨h3,h4⟩
  ·rw [i1n rfl] at h2;cases h2;cases h3
   exact ⟨c,e,(0,0),hB,hle,hc.mono hext (fun _ _ h=>h),fun _=>⟨hbase,rfl,rfl⟩,fun h=>by cases h⟩
  ·rw [i1k (by omega)] at h2
   obtain ⟨c1,el,fz,g1,g2,g3,g4⟩:=hR.row b B1 o1 ro e1 cs1 h4 h2
   exact ⟨c1,el,fz,g1,g2,g3.mono hext (fun _ _ h=>h),g4⟩
 ·intro b b' B1 o1 o' e1 cs1 h1 h2 hne h3
  rw [a0K] at h3 ⊢
  rcases h0e hR h1 with ⟨rfl,h4⟩ | ⟨h4,h5⟩
  ·cases h4
   rcases h0e hR h2 with ⟨rfl,_⟩ | ⟨h6,h7⟩
   ·exact i1A rfl hne
   ·rw [i1k (by omega)];exact hdead b' o' h7
  ·rw [i1k (by omega)] at h3
   rcases h0e hR h2 with ⟨rfl,h6⟩ | ⟨h6,h7⟩
   ·cases h6;exact i1A h3 (hno b o1 _ _ _ h5)
   ·rw [i1k (by omega)];exact hR.sep b b' B1 o1 o' e1 cs1 h5 h7 hne h3
theorem Rel.adopt0 (hR:Rel X φ H w) (B o:Nat):Rel X (ad φ H.size B o) (H.push .dead) w:=by
 have hext:∀ b x,φ b=some x→ad φ H.size B o b=some x:=fun b x h=>w0e hR h
 refine ⟨hR.bs,?_,?_,?_⟩
 ·intro b x h
  rw [j1H]
  rcases h0e hR h with ⟨h1,_⟩ | ⟨h1,_⟩ <;> omega
 ·intro b B1 o1 ro e1 cs1 h1 h2
  rw [a0K] at h2
  rcases h0e hR h1 with ⟨rfl,h3⟩ | ⟨h3,h4⟩
  ·rw [i1n rfl] at h2;cases h2
  ·rw [i1k (by omega)] at h2
   obtain ⟨c1,el,fz,g1,g2,g3,g4⟩:=hR.row b B1 o1 ro e1 cs1 h4 h2
   exact ⟨c1,el,fz,g1,g2,g3.mono hext (fun _ _ h=>h),g4⟩
 ·intro b b' B1 o1 o' e1 cs1 h1 h2 hne h3
  rw [a0K] at h3 ⊢
  rcases h0e hR h1 with ⟨rfl,h4⟩ | ⟨h4,h5⟩
  ·rw [i1n rfl] at h3;cases h3
  ·rw [i1k (by omega)] at h3
   rcases h0e hR h2 with ⟨rfl,h6⟩ | ⟨h6,h7⟩
   ·rw [i1n rfl]
   ·rw [i1k (by omega)];exact hR.sep b b' B1 o1 o' e1 cs1 h5 h7 hne h3
theorem VR.back {f0:Nat} (hR:Rel X φ H w) (h:d0s X f0 φ H w φ' H' w') {S S':Shp} {v u u':Value} (k:VR X φ S v u) (k':VR X φ' S' v u'):VR X φ S' v u':=by
 refine (VR.cut (m:=H.size) (fun b y hb=>hR.lt b y hb) k k').mono (fun b x hx=>?_) (fun _ _ h=>h)
 obtain ⟨h1,h2⟩:=b0w.1 hx
 cases hb:φ b with
 | none=>have:=h.fresh b x h2 hb;omega
 | some y=>rw [h.ext b y hb] at h2;exact h2
theorem CR.back {f0:Nat} (hR:Rel X φ H w) (h:d0s X f0 φ H w φ' H' w') {S S':Shp} {l m m':List Value} (k:CR X φ S l m) (k':CR X φ' S' l m'):CR X φ S' l m' :=
 ⟨k'.1,fun i hi=>VR.back hR h (k.2 i hi) (k'.2 i hi)⟩
theorem d0s.own_new (hR:Rel X φ H w) (h:d0s X H.size φ H w φ' H' w') {b B o:Nat} (hb:φ' b=some (B,o)) (hn:φ b=none):w.heap.size≤B:=by
 rcases h.newB b B o hb hn with h1 | ⟨b0,o0,e,cs,h1,h2,h3⟩
 ·exact h1
 ·have:=hR.lt b0 _ h1;omega
theorem d0s.old (hR:Rel X φ H w) (h:d0s X H.size φ H w φ' H' w') {B:Nat} (hB:B < w.heap.size):w'.heap[B]? = w.heap[B]? :=
 h.frame B hB fun b o e cs h1 h2=>by have:=hR.lt b _ h1;omega
theorem d0s.rel0 (hR:Rel X φ H w) (h:d0s X H.size φ H w φ' H' w'):Rel X φ H w' :=
 hR.agree (i1t hR.bs h.wsz) h.shp fun b B o ro e cs h1 h2=>h.old hR (hR.row_lt h1 h2)
theorem r0f {call:Nat→FuncId→List Value→a0e→Res (Value × a0e)} (hcall:e0g X call) {ops:Array Oper} {Q:Exit→Act→World→Prop} {rest:List Nat} {t':b0b} {H':a0e} :
  ∀ (r:List a0I) (k:Nat) (t:b0b) (H:a0e) (φ:Inj) (w:World) (a:Act),
  (∀ i s,r[i]? = some s→∃ o,ops[k + i]? = some o∧g0N X.P ops true o=some s)→Rel X φ H w→CR X φ w.shape? t a.tmps.toList→fl≤H.size→f0l call fl r t H=.fin .normal t' H' →
  (∀ φ' a' w',CR X φ' w'.shape? t' a'.tmps.toList→d0s X fl φ H w φ' H' w'→a'.defers=a.defers→wpOps X.P ops Q rest a' w') →
  wpOps X.P ops Q (List.range' k r.length ++ rest) a w
 | [],k,t,H,φ,w,a,_,hR,hT,_,he,hK=>by
  simp only [f0l,Out.fin.injEq] at he
  obtain ⟨_,rfl,rfl⟩:=he
  exact hK φ a w hT (d0s.refl hR) rfl
 | s :: r,k,t,H,φ,w,a,hops,hR,hT,hfl,he,hK=>by
  obtain ⟨o,ho,hco⟩:=hops 0 s rfl
  simp only [j1p] at ho
  obtain ⟨hc,hf,hdst⟩:=e0j hco
  have hw:=p0C hco hT
  have hops':∀ i s',r[i]? = some s'→∃ o,ops[k + 1 + i]? = some o∧g0N X.P ops true o=some s':=fun i s' hi=>by
   obtain ⟨o',h1,h2⟩:=hops (i + 1) s' (by simpa using hi)
   exact ⟨o',by rw [← h1];congr 1;omega,h2⟩
  rw [i1Y,k1Z,k1l]
  unfold wpOps
  simp only [ho]
  simp only [f0l] at he
  by_cases hwt:b0j t s.g=true
  ·rw [hw,i1n hwt]
   simp only [hwt,i1X] at he
   refine .inl ?_
   cases hs:b0z call fl t H s.op with
   | bad=>simp [hs] at he
   | pan v=>simp [hs] at he
   | ok vH =>
    obtain ⟨v,H1⟩:=vH
    simp only [hs] at he
    refine l0B hcall hc hf hR hT hfl hs a rfl (fun φ' v' w' hvr hst=>?_)
    have hT':CR X φ' w'.shape? t a.tmps.toList:=hT.mono hst.ext hst.shp
    refine r0f hcall r (k + 1) (put t s.dst v) H1 φ' w' (a.put o.dst v') hops' hst.rel (by rw [hdst];exact i0W hT' hvr o.dst) (i1t hfl hst.hsz) he (fun φ2 a2 w2 h1 h2 h3=>?_)
    exact hK φ2 a2 w2 h1 (hst.trans h2 (i1j _) hR) (by rw [h3,c0G])
  ·rw [hw,i1k hwt]
   simp only [k1X] at hwt
   simp only [hwt,i1H,j1h] at he
   refine r0f hcall r (k + 1) (put t s.dst undef) H φ w (a.put o.dst undef) hops' hR (by rw [hdst];exact i0W hT VR.undef o.dst) hfl he (fun φ2 a2 w2 h1 h2 h3=>?_)
   exact hK φ2 a2 w2 h1 h2 (by rw [h3,c0G])
def k0a (j:Nat) (o:Oper):Bool:=o.guard.isNone && j0x o && o.op.operands.toList.all fun | .tmp i=>i != j | _=>true
theorem y0r {j:Nat} {o:Oper} (hb:k0a j o=true) {a b:Act} (h:∀ i,i ≠ j→b.tmps.getD i undef=a.tmps.getD i undef):execOp b.eval o=execOp a.eval o:=by
 unfold k0a at hb
 simp only [i1y,i1U] at hb
 obtain ⟨⟨h1,h2⟩,h3⟩:=hb
 refine execOp_congr o (fun cs bl he=>by unfold j0x at h2;rw [he] at h2;cases h2) ?_
 intro x hx
 cases x with
 | tmp d =>
  have:=h3 (.tmp d) (by simpa using hx)
  simp only [bne_iff_ne,ne_eq] at this
  simp only [Act.eval]
  exact h d this
 | const v=>rfl
 | func f=>rfl
 | global g=>rfl
theorem C0a {j:Nat} {a b:Act} (h:∀ i,i ≠ j→b.tmps.getD i undef=a.tmps.getD i undef) (hs:b.tmps.size=a.tmps.size) (d:Option Nat) (v:Value) :
  (∀ i,i ≠ j→(b.put d v).tmps.getD i undef=(a.put d v).tmps.getD i undef)∧(b.put d v).tmps.size=(a.put d v).tmps.size:=by
 cases d with
 | none=>exact ⟨h,hs⟩
 | some d =>
  refine ⟨fun i hi=>?_,by simpa [Act.put] using hs⟩
  simp only [Act.put,i1u,i1Q,hs]
  have:=h i hi
  simp only [i1u] at this
  by_cases hid:d=i
  ·simp [hid]
  ·simp [hid,this]
theorem t0k {call:Nat→FuncId→List Value→a0e→Res (Value × a0e)} (hcall:e0g X call) {j:Nat} {ops:Array Oper} {Q:Exit→Act→World→Prop} {t':b0b} {H':a0e} (hbl:ops.toList.all (k0a j)=true) :
  ∀ (r:List a0I) (k:Nat) (t:b0b) (H:a0e) (φ:Inj) (w:World) (a b:Act),
  (∀ i s,r[i]? = some s→s.g=none∧∃ o,ops[k + i]? = some o∧g0N X.P ops true o=some s)→Rel X φ H w→CR X φ w.shape? t a.tmps.toList→fl≤H.size→(∀ i,i ≠ j→b.tmps.getD i undef=a.tmps.getD i undef)→b.tmps.size=a.tmps.size →
  f0l call fl r t H=.fin .normal t' H'→(∀ φ' b' w',d0s X fl φ H w φ' H' w'→b'.defers=b.defers→Q .normal b' w') →
  wpOps X.P ops Q (List.range' k r.length) b w
 | [],k,t,H,φ,w,a,b,_,hR,hT,_,_,_,he,hK=>by
  simp only [f0l,Out.fin.injEq] at he
  obtain ⟨_,rfl,rfl⟩:=he
  exact hK φ b w (d0s.refl hR) rfl
 | s :: r,k,t,H,φ,w,a,b,hops,hR,hT,hfl,hag,hsz,he,hK=>by
  obtain ⟨hsg,o,ho,hco⟩:=hops 0 s rfl
  simp only [j1p] at ho
  obtain ⟨hc,hf,hdst⟩:=e0j hco
  have hops':∀ i s',r[i]? = some s'→s'.g=none∧∃ o,ops[k + 1 + i]? = some o∧g0N X.P ops true o=some s':=fun i s' hi=>by
   obtain ⟨h0,o',h1,h2⟩:=hops (i + 1) s' (by simpa using hi)
   exact ⟨h0,o',by rw [← h1];congr 1;omega,h2⟩
  have hbo:k0a j o=true:=i1U.1 hbl o (by
   have:=i1T.1 ho
   obtain ⟨h1,h2⟩:=this
   rw [← h2];simp)
  have hgu:o.guard=none:=by
   unfold k0a at hbo
   simp only [i1y,Option.isNone_iff_eq_none] at hbo
   exact hbo.1.1
  rw [i1Y,k1Z]
  unfold wpOps
  simp only [ho]
  rw [show Region.wanted o (yielded ops b.tmps)=true by simp [Region.wanted,hgu],i1n rfl]
  simp only [f0l,hsg,b0j,i1X] at he
  refine .inl ?_
  cases hs:b0z call fl t H s.op with
  | bad=>simp [hs] at he
  | pan v=>simp [hs] at he
  | ok vH =>
   obtain ⟨v,H1⟩:=vH
   simp only [hs] at he
   refine l0B hcall hc hf hR hT hfl hs b (y0r hbo hag) (fun φ' v' w' hvr hst=>?_)
   have hT':CR X φ' w'.shape? t a.tmps.toList:=hT.mono hst.ext hst.shp
   obtain ⟨p1,p2⟩:=C0a hag hsz o.dst v'
   refine t0k hcall hbl r (k + 1) (put t s.dst v) H1 φ' w' (a.put o.dst v') (b.put o.dst v') hops' hst.rel (by rw [hdst];exact i0W hT' hvr o.dst) (i1t hfl hst.hsz) p1 p2 he (fun φ2 b2 w2 h2 h3=>?_)
   exact hK φ2 b2 w2 (hst.trans h2 (i1j _) hR) (by rw [h3,c0G])
end
section
open Go
abbrev J0D:=Nat→FuncId→List Value→a0e→Res (Value × a0e)
def X0D (c c':J0D):Prop:=∀ fl fl' f args H,fl'≤fl→c fl f args H ≠ .bad→c' fl' f args H=c fl f args H
variable {H:a0e} {fl fl':Nat} {t:b0b}
theorem v0Q {b off:Nat} {vs:List Value} {H':a0e} (hf:fl'≤fl) (h:H.write? fl b off vs=some H'):H.write? fl' b off vs=some H':=by
 unfold a0e.write? at h ⊢
 split at h
 ·rename_i e cs hk
  split at h
  ·rename_i hc
   try simp only [hk]
   rw [i1n ⟨by omega,hc.2⟩];exact h
  ·cases h
 ·cases h
theorem y0q {e:TypeId} {size bytes:Nat} {s x:Value} {r:Value × a0e} (hf:fl'≤fl) (h:i0x fl H e size bytes s x=some r):i0x fl' H e size bytes s x=some r:=by
 unfold i0x at h ⊢
 split at h
 ·split at h
  ·rename_i hn;rw [i1n hn];exact h
  ·rename_i hn;rw [i1k hn]
   split at h
   ·rename_i hc;rw [i1n hc]
    split at h
    ·cases h
    ·rename_i xp
     try simp only at h ⊢
     split at h
     ·cases h
     ·rename_i new hnew
      try simp only [hnew]
      split at h
      ·cases h
      ·rename_i hp;rw [i1k hp]
       split at h
       ·exact h
       ·rename_i sp
        try simp only at h ⊢
        split at h
        ·rename_i h00;rw [i1n h00];exact h
        rename_i h00;rw [i1k h00]
        split at h
        ·cases h
        ·rename_i old hold
         try simp only [hold]
         split at h
         ·rename_i hcap;rw [i1n hcap];exact h
         ·rename_i hcap;rw [i1k hcap]
          split at h
          ·rename_i e2 cs hb
           try simp only
           split at h
           ·rename_i hh;rw [i1n ⟨hh.1,by omega⟩];exact h
           ·cases h
          ·cases h
   ·cases h
 ·cases h
theorem B0y {so:SOp} (hf:fl'≤fl) (h:opA fl t H so ≠ .bad):opA fl' t H so=opA fl t H so:=by
 cases so <;> simp only [opA] at h ⊢
 case store n a x =>
  split at h
  ·rename_i p hp
   split at h
   ·exact i1A rfl h
   ·rename_i hc;rw [i1k hc];rw [i1k hc]
    cases hw:H.write? fl p.block p.off (a0V (ev t x)) with
    | none=>rw [hw] at h;exact i1A rfl h
    | some H'=>rw [v0Q hf hw]
  ·exact i1A rfl h
 case app e size bytes s x =>
  cases hw:i0x fl H e size bytes (ev t s) (ev t x) with
  | none=>rw [hw] at h;exact i1A rfl h
  | some r=>rw [y0q hf hw]
section
variable {c c':J0D} (hc:X0D c c')
include hc
theorem f0Y {so:SOp} (hf:fl'≤fl) (h:b0z c fl t H so ≠ .bad):b0z c' fl' t H so=b0z c fl t H so:=by
 unfold b0z at h ⊢
 have ho:opA fl t H so ≠ .bad:=by intro hb;rw [hb] at h;exact h rfl
 rw [B0y hf ho]
 split at h
 ·exact i1A rfl h
 ·rfl
 ·rfl
 ·rename_i f args lone _
  refine hc _ _ _ _ _ ?_ h
  split <;> omega
theorem f0V (hf:fl'≤fl):∀ (ops:List a0I) (t:b0b) (H:a0e),f0l c fl ops t H ≠ .bad→f0l c' fl' ops t H=f0l c fl ops t H
 | [],t,H,_=>rfl
 | o :: r,t,H,h=>by
  simp only [f0l] at h ⊢
  split at h
  ·rename_i hw
   simp only [hw,i1X]
   have hs:b0z c fl t H o.op ≠ .bad:=by intro hb;rw [hb] at h;exact h rfl
   rw [f0Y hc hf hs]
   split at h
   ·exact i1A rfl h
   ·rfl
   ·exact f0V hf r _ _ h
  ·rename_i hw
   simp only [hw,j1h]
   exact f0V hf r _ _ h
theorem d0n (hf:fl'≤fl) (bef:List Nat) (pairs:List (Nat × Nat)):∀ (ops:List a0I) (i:Nat) (t:b0b) (H:a0e) (p:Option (Nat × Value)) (log:List (List Nat × List Nat)),
  b0S c fl bef pairs i ops t H p log ≠ .bad→b0S c' fl' bef pairs i ops t H p log=b0S c fl bef pairs i ops t H p log
 | [],i,t,H,p,log,_=>rfl
 | o :: r,i,t,H,p,log,h=>by
  simp only [b0S] at h ⊢
  split at h
  ·rename_i hg;simp only [hg,i1X];exact d0n hf bef pairs r _ _ _ _ _ h
  ·rename_i hg
   simp only [hg,j1h]
   split at h
   ·rename_i hw
    simp only [hw,i1X]
    have hs:b0z c fl t H o.op ≠ .bad:=by intro hb;rw [hb] at h;exact h rfl
    rw [f0Y hc hf hs]
    split at h
    ·exact i1A rfl h
    ·split at h
     ·exact d0n hf bef pairs r _ _ _ _ _ h
     ·exact i1A rfl h
    ·exact d0n hf bef pairs r _ _ _ _ _ h
   ·rename_i hw
    simp only [hw,j1h]
    exact d0n hf bef pairs r _ _ _ _ _ h
theorem b0l (hf:fl'≤fl):∀ (n m:Nat) (k:SCode) (t:b0b) (H:a0e),n≤m→b0f c fl n k t H ≠ .bad→b0f c' fl' m k t H=b0f c fl n k t H
 | 0,_,_,_,_,_,h=>by simp [b0f] at h
 | n + 1,0,_,_,_,hm,_=>by omega
 | n + 1,m + 1,k,t,H,hm,h=>by
  have hm:n≤m:=by omega
  cases k <;> simp only [b0f] at h ⊢
  case seq a b =>
   have ha:b0f c fl n a t H ≠ .bad:=by intro hb;rw [hb] at h;exact h rfl
   rw [b0l hf n m a t H hm ha]
   split at h
   ·exact b0l hf n m b _ _ hm h
   ·rfl
  case cond x a b =>
   split at h
   ·exact b0l hf n m a _ _ hm h
   ·exact b0l hf n m b _ _ hm h
   ·exact i1A rfl h
  case block id a =>
   have ha:b0f c fl n a t H ≠ .bad:=by intro hb;rw [hb] at h;exact h rfl
   rw [b0l hf n m a t H hm ha]
  case loop a =>
   have ha:b0f c fl n a t H ≠ .bad:=by intro hb;rw [hb] at h;exact h rfl
   rw [b0l hf n m a t H hm ha]
   split at h
   ·exact b0l hf n m (.loop a) _ _ hm h
   ·rfl
  case reg ops=>exact f0V hc hf ops t H h
  case draw ops bef pairs=>exact d0n hc hf bef pairs ops 0 t H none [] h
end
theorem a0N (E:Env):∀ n m,n≤m→X0D (b0p E n) (b0p E m)
 | 0,m,_=>fun _ _ _ _ _ _ h=>by simp [b0p] at h
 | n + 1,0,hm=>by omega
 | n + 1,m + 1,hm=>fun fl fl' f args H hf h=>by
  have ih:=a0N E n m (by omega)
  simp only [b0p] at h ⊢
  split at h
  ·split at h
   ·rfl
   split at h
   ·rename_i q hq
    try simp only
    split at h
    ·rename_i hfq
     rw [i1n hfq];rw [i1n hfq]
     split at h
     ·rename_i p s _
      try simp only at h ⊢
      split at h
      case isFalse=>exact i1A rfl h
      rename_i hsz
      rw [i1n hsz]
      try rw [i1n hsz]
      have h2:b0p E n (max fl H.size) q.solved [.agg #[],.agg p,.agg s] H ≠ .bad:=by intro hb;rw [hb] at h;exact h rfl
      try simp only
      rw [ih (max fl H.size) (max fl' H.size) _ _ _ (by omega) h2]
     ·exact i1A rfl h
    ·exact i1A rfl h
   ·exact i1A rfl h
  ·rename_i sf hsf
   try simp only
   split at h
   ·rename_i hl
    rw [i1n hl];rw [i1n hl]
    have h2:b0f (b0p E n) fl n sf.body (args ++ List.replicate (sf.nt - args.length) undef) H ≠ .bad:=by intro hb;rw [hb] at h;exact h rfl
    rw [b0l ih hf n m _ _ _ (by omega) h2]
   ·exact i1A rfl h
theorem y0t {E:Env} {n m:Nat} {f:FuncId} {args:List Value} (hn:n≤m) (hf:fl'≤fl) (h:b0p E n fl f args H ≠ .bad):b0p E m fl' f args H=b0p E n fl f args H :=
 a0N E n m hn _ _ _ _ _ hf h
end
section
open Go
abbrev n0H:=Value→a0e→Prop
abbrev d0X:=XA→b0b→a0e→Prop
abbrev a0E:=Value→Prop
def o0f (Q:n0H) (R:a0E):Res (Value × a0e)→Prop
 | .ok (v,H)=>Q v H
 | .pan v=>R v
 | .bad=>False
def k0r (Q:d0X) (R:a0E):Out→Prop
 | .fin e t H=>Q e t H
 | .pan v=>R v
 | .bad=>False
def a0S (E:Env) (fl:Nat) (f:FuncId) (args:List Value) (H:a0e) (Q:n0H) (R:a0E):Prop:=∃ n,o0f Q R (b0p E n fl f args H)
def W (E:Env) (fl:Nat) (c:SCode) (t:b0b) (H:a0e) (Q:d0X) (R:a0E):Prop:=∃ n,k0r Q R (b0f (b0p E n) fl n c t H)
def WS (E:Env) (fl:Nat) (t:b0b) (H:a0e) (op:SOp) (K:n0H) (R:a0E):Prop :=
 match opA fl t H op with
 | .bad=>False
 | .pan v=>R v
 | .val v H'=>K v H'
 | .call f args lone=>a0S E (if lone then fl else max fl H.size) f args H K R
def WR (E:Env) (fl:Nat):List a0I→b0b→a0e→(b0b→a0e→Prop)→a0E→Prop
 | [],t,H,K,_=>K t H
 | o :: r,t,H,K,R=>if b0j t o.g then WS E fl t H o.op (fun v H'=>WR E fl r (put t o.dst v) H' K R) R else WR E fl r (put t o.dst undef) H K R
variable {E:Env} {fl:Nat} {t:b0b} {H:a0e} {Q Q':d0X} {R R':a0E} {K K':n0H} {f:FuncId} {args:List Value}
theorem e0S {o:Out} (h:k0r Q R o):o ≠ .bad:=by cases o <;> simp_all [k0r]
theorem K0S {o:Res (Value × a0e)} (h:o0f K R o):o ≠ .bad:=by cases o <;> simp_all [o0f]
theorem l0Y {n m k:Nat} {c:SCode} (hn:n≤m) (hk:k≤m) (h:k0r Q R (b0f (b0p E n) fl k c t H)):k0r Q R (b0f (b0p E m) fl m c t H):=by
 rw [b0l (a0N E n m hn) (i1j fl) k m c t H hk (e0S h)];exact h
theorem A0p {n m fl':Nat} (hn:n≤m) (hf:fl'≤fl) (h:o0f K R (b0p E n fl f args H)):o0f K R (b0p E m fl' f args H):=by
 rw [y0t hn hf (K0S h)];exact h
theorem a0S.mono (h:a0S E fl f args H K R) (hk:∀ v H',K v H'→K' v H'):a0S E fl f args H K' R:=by
 obtain ⟨n,h⟩:=h
 refine ⟨n,?_⟩
 cases hc:b0p E n fl f args H with
 | bad=>rw [hc] at h;exact h
 | pan v=>rw [hc] at h;exact h
 | ok r=>rw [hc] at h;exact hk _ _ h
theorem a0S.floor {fl':Nat} (h:a0S E fl f args H K R) (hf:fl'≤fl):a0S E fl' f args H K R:=by
 obtain ⟨n,h⟩:=h
 exact ⟨n,A0p (i1j n) hf h⟩
theorem a0S.keep (h:a0S E fl f args H K R) (hf:fl≤H.size):a0S E fl f args H (fun v H'=>K v H'∧f0Z fl H H') R:=by
 obtain ⟨n,h⟩:=h
 refine ⟨n,?_⟩
 cases hc:b0p E n fl f args H with
 | bad=>rw [hc] at h;exact h
 | pan v=>rw [hc] at h;exact h
 | ok r=>rw [hc] at h;exact ⟨h,h0P E n fl f args H r.1 r.2 hc hf⟩
theorem W.mono {c:SCode} (h:W E fl c t H Q R) (hk:∀ e t' H',Q e t' H'→Q' e t' H'):W E fl c t H Q' R:=by
 obtain ⟨n,h⟩:=h
 refine ⟨n,?_⟩
 cases hc:b0f (b0p E n) fl n c t H with
 | bad=>rw [hc] at h;exact h
 | pan v=>rw [hc] at h;exact h
 | fin e t' H'=>rw [hc] at h;exact hk _ _ _ h
theorem WS.mono {op:SOp} (h:WS E fl t H op K R) (hk:∀ v H',K v H'→K' v H'):WS E fl t H op K' R:=by
 unfold WS at h ⊢
 split at h
 ·exact h
 ·exact h
 ·exact hk _ _ h
 ·exact h.mono hk
theorem WR.mono {Z Z':b0b→a0e→Prop}:∀ {ops:List a0I} {t:b0b} {H:a0e},WR E fl ops t H Z R→(∀ t' H',Z t' H'→Z' t' H')→WR E fl ops t H Z' R
 | [],_,_,h,hk=>hk _ _ h
 | o :: r,t,H,h,hk=>by
  simp only [WR] at h ⊢
  split at h
  ·rename_i hw;rw [i1n hw];exact h.mono fun v H' h'=>WR.mono h' hk
  ·rename_i hw;rw [i1k hw];exact WR.mono h hk
def h0H (k:b0b→a0e→Prop) (Q:d0X):d0X
 | .normal,t,H=>k t H
 | .exit i,t,H=>Q (.exit i) t H
 | .ret,t,H=>Q .ret t H
theorem g0M {a b:SCode} (h:W E fl a t H (h0H (fun t' H'=>W E fl b t' H' Q R) Q) R):W E fl (.seq a b) t H Q R:=by
 obtain ⟨n,h⟩:=h
 cases hc:b0f (b0p E n) fl n a t H with
 | bad=>rw [hc] at h;exact i1A h id
 | pan v =>
  refine ⟨n + 1,?_⟩
  have:=b0l (a0N E n (n+1) (by omega)) (i1j fl) n n a t H (i1j n) (by rw [hc];simp)
  simp only [b0f,this,hc];rw [hc] at h;exact h
 | fin e t' H' =>
  rw [hc] at h
  cases e with
  | normal =>
   obtain ⟨m,h⟩:=h
   refine ⟨max n m + 1,?_⟩
   have:=b0l (a0N E n (max n m+1) (by omega)) (i1j fl) n (max n m) a t H (by omega) (by rw [hc];simp)
   simp only [b0f,this,hc]
   have h2:=b0l (a0N E m (max n m+1) (by omega)) (i1j fl) m (max n m) b t' H' (by omega) (e0S h)
   rw [h2];exact h
  | exit i =>
   refine ⟨n + 1,?_⟩
   have:=b0l (a0N E n (n+1) (by omega)) (i1j fl) n n a t H (i1j n) (by rw [hc];simp)
   simp only [b0f,this,hc];exact h
  | ret =>
   refine ⟨n + 1,?_⟩
   have:=b0l (a0N E n (n+1) (by omega)) (i1j fl) n n a t H (i1j n) (by rw [hc];simp)
   simp only [b0f,this,hc];exact h
theorem r0J (h:Q .normal t H):W E fl .skip t H Q R:=⟨1,by simpa [b0f,k0r] using h⟩
theorem r0I {i:Nat} (h:Q (.exit i) t H):W E fl (.exit i) t H Q R:=⟨1,by simpa [b0f,k0r] using h⟩
theorem d1w (h:Q .ret t H):W E fl .ret t H Q R:=⟨1,by simpa [b0f,k0r] using h⟩
theorem j0j {c:Opd} {a b:SCode} (x:Bool) (hx:ev t c=.bool x) (ha:x=true→W E fl a t H Q R) (hb:x=false→W E fl b t H Q R):W E fl (.cond c a b) t H Q R:=by
 cases x with
 | true =>
  obtain ⟨n,h⟩:=ha rfl
  refine ⟨n + 1,?_⟩
  have:=b0l (a0N E n (n+1) (by omega)) (i1j fl) n n a t H (i1j n) (e0S h)
  simp only [b0f,hx,this];exact h
 | false =>
  obtain ⟨n,h⟩:=hb rfl
  refine ⟨n + 1,?_⟩
  have:=b0l (a0N E n (n+1) (by omega)) (i1j fl) n n b t H (i1j n) (e0S h)
  simp only [b0f,hx,this];exact h
def e0Z (i:Nat) (Q:d0X):d0X
 | .normal,t,H=>Q .normal t H
 | .exit j,t,H=>if j=i then Q .normal t H else Q (.exit j) t H
 | .ret,t,H=>Q .ret t H
theorem l0O {i:Nat} {c:SCode} (h:W E fl c t H (e0Z i Q) R):W E fl (.block i c) t H Q R:=by
 obtain ⟨n,h⟩:=h
 refine ⟨n + 1,?_⟩
 have hm:=b0l (a0N E n (n+1) (by omega)) (i1j fl) n n c t H (i1j n) (e0S h)
 simp only [b0f,hm]
 cases hc:b0f (b0p E n) fl n c t H with
 | bad=>rw [hc] at h;exact i1A h id
 | pan v=>rw [hc] at h;exact h
 | fin e t' H' =>
  rw [hc] at h
  cases e with
  | normal=>exact h
  | ret=>exact h
  | exit j =>
   simp only [k0r,e0Z] at h
   simp only
   split at h
   ·rename_i hj;rw [i1n hj];exact h
   ·rename_i hj;rw [i1k hj];exact h
theorem M0L {c:SCode} (I:Nat→b0b→a0e→Prop)
  (step:∀ k t H,I k t H→W E fl c t H (h0H (fun t' H'=>∃ k',k' < k∧I k' t' H') Q) R):∀ (k:Nat) {t:b0b} {H:a0e},I k t H→W E fl (.loop c) t H Q R:=by
 intro k
 induction k using Nat.strongRecOn with
 | ind k ih =>
  intro t H hI
  obtain ⟨n,h⟩:=step k t H hI
  cases hc:b0f (b0p E n) fl n c t H with
  | bad=>rw [hc] at h;exact i1A h id
  | pan v =>
   refine ⟨n + 1,?_⟩
   have:=b0l (a0N E n (n+1) (by omega)) (i1j fl) n n c t H (i1j n) (by rw [hc];simp)
   simp only [b0f,this,hc];rw [hc] at h;exact h
  | fin e t' H' =>
   rw [hc] at h
   cases e with
   | normal =>
    obtain ⟨k',hk',hI'⟩:=h
    obtain ⟨m,h⟩:=ih k' hk' hI'
    refine ⟨max n m + 1,?_⟩
    have:=b0l (a0N E n (max n m+1) (by omega)) (i1j fl) n (max n m) c t H (by omega) (by rw [hc];simp)
    simp only [b0f,this,hc]
    have h2:=b0l (a0N E m (max n m+1) (by omega)) (i1j fl) m (max n m) (.loop c) t' H' (by omega) (e0S h)
    rw [h2];exact h
   | exit i =>
    refine ⟨n + 1,?_⟩
    have:=b0l (a0N E n (n+1) (by omega)) (i1j fl) n n c t H (i1j n) (by rw [hc];simp)
    simp only [b0f,this,hc];exact h
   | ret =>
    refine ⟨n + 1,?_⟩
    have:=b0l (a0N E n (n+1) (by omega)) (i1j fl) n n c t H (i1j n) (by rw [hc];simp)
    simp only [b0f,this,hc];exact h
theorem A0d {op:SOp} (h:WS E fl t H op K R):∃ n,o0f K R (b0z (b0p E n) fl t H op):=by
 unfold WS at h
 unfold b0z
 split at h
 ·exact i1A h id
 ·rename_i v hv;exact ⟨0,by simpa [hv,o0f] using h⟩
 ·rename_i v H' hv;exact ⟨0,by simpa [hv,o0f] using h⟩
 ·rename_i g as lone hv
  obtain ⟨n,h⟩:=h
  exact ⟨n,by simpa [hv] using h⟩
theorem w0a {Z:b0b→a0e→Prop}:∀ (ops:List a0I) {t:b0b} {H:a0e},WR E fl ops t H Z R→∃ n,k0r (fun e t' H'=>e=.normal∧Z t' H') R (f0l (b0p E n) fl ops t H)
 | [],t,H,h=>⟨0,rfl,h⟩
 | o :: r,t,H,h=>by
  simp only [WR] at h
  split at h
  ·rename_i hw
   obtain ⟨n,hn⟩:=A0d h
   cases hs:b0z (b0p E n) fl t H o.op with
   | bad=>rw [hs] at hn;exact i1A hn id
   | pan v=>exact ⟨n,by simp only [f0l,hw,i1X,hs];rw [hs] at hn;exact hn⟩
   | ok rr =>
    obtain ⟨v,H'⟩:=rr
    rw [hs] at hn
    obtain ⟨m,hm⟩:=w0a r hn
    refine ⟨max n m,?_⟩
    have h1:=f0Y (a0N E n (max n m) (by omega)) (i1j fl) (t:=t) (H:=H) (so:=o.op) (by rw [hs];simp)
    have h2:=f0V (a0N E m (max n m) (by omega)) (i1j fl) r (put t o.dst v) H' (e0S hm)
    simp only [f0l,hw,i1X,h1,hs,h2];exact hm
  ·rename_i hw
   obtain ⟨m,hm⟩:=w0a r h
   exact ⟨m,by simp only [f0l,hw,j1h];exact hm⟩
theorem l0f {ops:List a0I} (h:WR E fl ops t H (fun t' H'=>Q .normal t' H') R):W E fl (.reg ops) t H Q R:=by
 obtain ⟨n,hn⟩:=w0a ops h
 refine ⟨n + 1,?_⟩
 have h2:=f0V (a0N E n (n+1) (by omega)) (i1j fl) ops t H (e0S hn)
 simp only [b0f,h2]
 cases hr:f0l (b0p E n) fl ops t H with
 | bad=>rw [hr] at hn;exact i1A hn id
 | pan v=>rw [hr] at hn;exact hn
 | fin e t' H'=>rw [hr] at hn;obtain ⟨rfl,hn⟩:=hn;exact hn
theorem p0P {c:J0D} {fl:Nat} (bef:List Nat):∀ (ops:List a0I) (i:Nat) (t:b0b) (H:a0e) (log:List (List Nat × List Nat)) {e:XA} {t':b0b} {H':a0e},
  f0l c fl ops t H=.fin e t' H'→b0S c fl bef [] i ops t H none log=.fin .normal t' H'
 | [],i,t,H,log,e,t',H',h=>by simp only [f0l,Out.fin.injEq] at h;obtain ⟨_,rfl,rfl⟩:=h;simp [b0S,c0U]
 | o :: r,i,t,H,log,e,t',H',h=>by
  simp only [f0l] at h
  simp only [b0S,h0m,i1H,j1h]
  split at h
  ·rename_i hw
   simp only [hw,i1X]
   split at h
   ·cases h
   ·cases h
   ·rename_i v H1 hs;(try simp only [hs]);exact p0P bef r _ _ _ _ h
  ·rename_i hw
   simp only [hw,j1h]
   exact p0P bef r _ _ _ _ h
theorem a0G {ops:List a0I} {bef:List Nat} (h:WR E fl ops t H (fun t' H'=>Q .normal t' H') (fun _=>False)):W E fl (.draw ops bef []) t H Q R:=by
 obtain ⟨n,hn⟩:=w0a ops h
 refine ⟨n + 1,?_⟩
 have h2:=f0V (a0N E n (n+1) (by omega)) (i1j fl) ops t H (e0S hn)
 simp only [b0f]
 cases hr:f0l (b0p E n) fl ops t H with
 | bad=>rw [hr] at hn;exact i1A hn id
 | pan v=>rw [hr] at hn;exact i1A hn id
 | fin e t' H' =>
  rw [hr] at hn h2
  rw [p0P bef ops 0 t H [] h2]
  exact hn.2
theorem p0O {sf:v0W} (hc:E.code f=some sf) (hl:args.length=sf.np) (hnt:args.length≤sf.nt)
  (h:∀ t,t.length=sf.nt→(∀ i,get t i=args.getD i undef)→W E fl sf.body t H (fun e t' H'=>(match e with | .exit _=>False | _=>True)∧∃ vs,e0O H' t' sf.res=some vs∧K (d0v vs) H') R) :
  a0S E fl f args H K R:=by
 obtain ⟨n,hn⟩:=h (args ++ List.replicate (sf.nt - args.length) undef) (by simp;omega) (fun i=>by
  unfold get
  simp only [i1h]
  by_cases hi:i < args.length
  ·rw [i1V hi]
  ·rw [j1c (by omega)]
   rw [i1s (by omega:args.length≤i)]
   by_cases h2:i - args.length < sf.nt - args.length
   ·rw [j1T];simp [h2]
   ·rw [i1s (by simpa using h2)])
 refine ⟨n + 1,?_⟩
 simp only [b0p,hc,hl,i1X]
 rw [hl] at hn
 cases hx:b0f (b0p E n) fl n sf.body (args ++ List.replicate (sf.nt - sf.np) undef) H with
 | bad=>rw [hx] at hn;exact i1A hn id
 | pan v=>rw [hx] at hn;exact hn
 | fin e t' H' =>
  rw [hx] at hn
  obtain ⟨he,vs,hvs,hk⟩:=hn
  cases e with
  | exit i=>exact i1A he id
  | normal=>simp only [hvs];exact hk
  | ret=>simp only [hvs];exact hk
end
section
open Go
variable {E:Env} {fl:Nat} {t:b0b} {H G:a0e} {K:n0H} {R:a0E}
theorem nr {α:Sort _} {a b:α} (h:a=b):a=b:=h
def oo {α:Type} (o:Option α) (K:α→Prop):Prop:=∃ a,o=some a∧K a
@[simp] theorem q0l {α:Type} (a:α) (K:α→Prop):oo (some a) K=K a:=by simp [oo]
@[simp] theorem u0d {α:Type} (K:α→Prop):oo (none:Option α) K=False:=by simp [oo]
def T (n:Nat) (ρ:Nat→Value):b0b:=(List.range n).map ρ
def upd (ρ:Nat→Value) (d:Nat) (v:Value):Nat→Value:=fun i=>if d=i then v else ρ i
theorem l0D {ρ:Nat→Value} {d:Nat} {v:Value}:upd ρ d v d=v:=by simp [upd]
theorem g0L {ρ:Nat→Value} {d i:Nat} {v:Value} (h:d ≠ i):upd ρ d v i=ρ i:=by simp [upd,h]
theorem V0F {n d:Nat} {ρ:Nat→Value} {v:Value}:put (T n ρ) (some d) v=T n (upd ρ d v):=by
 unfold put T
 apply k1s
 intro i
 simp only [i1R,j1x,j1A,List.length_range,List.getElem?_range',j1V]
 by_cases hi:i < n
 ·rw [j1V hi]
  by_cases hd:d=i
  ·subst hd;simp [hi,upd]
  ·simp [hd,upd]
 ·rw [i1s (by simpa using hi)]
  by_cases hd:d=i
  ·subst hd;simp [hi]
  ·simp [hd]
theorem b0Q {n i:Nat} {ρ:Nat→Value} (h:i < n):get (T n ρ) i=ρ i:=by
 unfold get T
 rw [i1h,j1x,j1V h];rfl
theorem J0G {t:b0b} {n:Nat} (h:t.length=n):t=T n (get t):=by
 apply k1s
 intro i
 unfold T
 by_cases hi:i < n
 ·rw [j1x,j1V hi,i1m (by omega)]
  simp [get,i1h,i1m (show i < t.length by omega)]
 ·rw [i1s (by omega),i1s (by simpa using hi)]
theorem W0M {ρ:Nat→Value} {d i:Nat} {v:Value}:upd ρ d v i=if d=i then v else ρ i:=rfl
theorem Z0u {n i:Nat} {ρ:Nat→Value}:get (T n ρ) i=if i < n then ρ i else undef:=by
 by_cases h:i < n
 ·rw [i1n h,b0Q h]
 ·rw [i1k h];unfold get T;rw [i1h,i1s (by simpa using h)];rfl
@[simp] theorem b1E {n:Nat} {ρ:Nat→Value}:(T n ρ).length=n:=by simp [T]
theorem toT {t:b0b} {n:Nat} (h:t.length=n):∃ ρ,t=T n ρ:=⟨_,J0G h⟩
attribute [irreducible] upd T
@[simp] theorem b1H {v:Value}:put t none v=t:=nr rfl
@[simp] theorem X0s {d:Option Nat} {v:Value}:(put t d v).length=t.length:=by cases d <;> simp [put]
@[simp] theorem i0z {i:Nat}:ev t (.tmp i)=get t i:=nr rfl
@[simp] theorem K0m {v:Value}:ev t (.const v)=v:=nr rfl
@[simp] theorem h1X {f:FuncId}:ev t (.fn f)=.func (.func f) #[] #[]:=nr rfl
def V0C:Value→Value→Value→Option Value
 | .bool b,x,y=>some (if b then x else y)
 | _,_,_=>none
@[simp] theorem X0y {b:Bool} {x y:Value}:V0C (.bool b) x y=some (if b then x else y):=nr rfl
def U0J (k:IntKind):Value→Option Value
 | .int _ n=>some (.int k (k.wrap n))
 | _=>none
@[simp] theorem Y0x {k k':IntKind} {n:Int}:U0J k (.int k' n)=some (.int k (k.wrap n)):=nr rfl
def g0Z:Value→Option Value
 | .slice _ n _=>some (.int .i64 n)
 | _=>none
def adr (size:Nat) (v:Value) (j:Nat):Value :=
 match v with
 | .slice (some p) _ _=>.pointer (some ⟨p.block,p.off + j * size,none⟩)
 | _=>undef
def iaV (size:Nat) (v:Value) (i:Value):Option Value :=
 match v,i with
 | .slice (some p) n _,.int _ j=>if 0≤j∧j < n then some (.pointer (some ⟨p.block,p.off + j.toNat * size,none⟩)) else none
 | _,_=>none
def f1q (v:Value) (i:Nat):Option Value:=match v with | .tuple vs=>vs[i]? | _=>none
@[simp] theorem b1v:Y0r (.slice none 0 0)=some (.int .i64 0):=nr rfl
@[simp] theorem W0W {vs:Array Value} {i:Nat}:f1q (.tuple vs) i=vs[i]?:=nr rfl
def faV (off:Nat):Value→Option Value
 | .pointer (some p)=>if p.spot.isSome=true then none else some (.pointer (some ⟨p.block,p.off + off,none⟩))
 | _=>none
@[simp] theorem f1s {off b o:Nat}:faV off (.pointer (some ⟨b,o,none⟩))=some (.pointer (some ⟨b,o + off,none⟩)):=by simp [faV]
def e1f:Value→Option Value
 | .pointer (some a)=>some (.pointer (some a))
 | .func (.func f) a b=>some (.func (.func f) a b)
 | .iface a b=>some (.iface a b)
 | _=>none
def f0g (fl:Nat) (H:a0e) (n:Nat) (a x:Value):Option a0e :=
 match a with
 | .pointer (some p)=>if p.spot.isSome=true ∨ (a0V x).length ≠ n then none else H.write? fl p.block p.off (a0V x)
 | _=>none
def mkV (bytes:Nat):Value→Value→Option (Nat × Nat)
 | .int _ l,.int _ c=>if 0≤l∧l≤c∧c≤1073741824∧bytes≤1024 then some (l.toNat,c.toNat) else none
 | _,_=>none
theorem g0i {bytes:Nat} {k k':IntKind} {l c:Nat} (h1:l≤c) (h2:c≤1073741824) (h3:bytes≤1024):mkV bytes (.int k l) (.int k' c)=some (l,c):=by
 unfold mkV;simp only;rw [i1n (by omega)];simp
theorem X0v {bytes:Nat} {k k':IntKind} {l c:Int} (h0:0≤l) (h1:l≤c) (h2:c≤1073741824) (h3:bytes≤1024):mkV bytes (.int k l) (.int k' c)=some (l.toNat,c.toNat):=by
 unfold mkV;simp only;rw [i1n ⟨h0,h1,h2,h3⟩]
variable {x y a b c:Opd}
theorem J0N:WS E fl t H (.mv x) K R=K (ev t x) H:=nr rfl
theorem U0r:WS E fl t H (.pick c a b) K R=oo (V0C (ev t c) (ev t a) (ev t b)) fun v=>K v H:=by
 simp only [WS,opA];generalize ev t c=v;generalize ev t a=va;generalize ev t b=vb
 cases v <;> simp [V0C,oo]
 rename_i q;cases q <;> simp
theorem A0c {tag:Nat} {o:BinOp}:WS E fl t H (.bin tag o x y) K R=oo (d0m tag o (ev t x) (ev t y)) fun v=>K v H:=by
 simp only [WS,opA];cases d0m tag o (ev t x) (ev t y) <;> simp [b0C]
theorem d1v {u:UnOp}:WS E fl t H (.un u x) K R=oo (unA u (ev t x)) fun v=>K v H:=by
 simp only [WS,opA];cases unA u (ev t x) <;> simp [b0C]
theorem U0p {k:IntKind}:WS E fl t H (.conv k x) K R=oo (U0J k (ev t x)) fun v=>K v H:=by
 simp only [WS,opA];generalize ev t x=v;cases v <;> simp [U0J]
theorem X0Z:WS E fl t H (.len x) K R=oo (g0Z (ev t x)) fun v=>K v H:=by
 simp only [WS,opA];generalize ev t x=v;cases v <;> simp [g0Z]
theorem X0V:WS E fl t H (.cap x) K R=oo (Y0r (ev t x)) fun v=>K v H:=by
 simp only [WS,opA];cases Y0r (ev t x) <;> simp [b0C]
theorem U0n {e:TypeId} {bytes:Nat} {z:List Value}:WS E fl t H (.appz e bytes z x y) K R=oo (y0O bytes (ev t x) (ev t y)) fun n=>K (.slice (some ⟨H.size,0,none⟩) n unk) (H.push (.row false e (e0G z n))):=by
 simp only [WS,opA];cases y0O bytes (ev t x) (ev t y) <;> simp
theorem d1s {size:Nat}:WS E fl t H (.ia size x y) K R=oo (iaV size (ev t x) (ev t y)) fun v=>K v H:=by
 simp only [WS,opA,iaV];generalize ev t x=v;generalize ev t y=w
 cases v <;> simp
 rename_i p n c;cases p <;> cases w <;> simp
 rename_i q k j;by_cases hc:0≤j∧j < n <;> simp [hc]
theorem X0X {i:Nat}:WS E fl t H (.ext x i) K R=oo (f1q (ev t x) i) fun v=>K v H:=by
 simp only [WS,opA,f1q];generalize ev t x=v
 cases v <;> simp
 rename_i vs;cases h:vs[i]? <;> simp [b0C]
theorem d1r {off:Nat}:WS E fl t H (.fa off x) K R=oo (faV off (ev t x)) fun v=>K v H:=by
 simp only [WS,opA,faV];generalize ev t x=v
 cases v <;> simp
 rename_i p;cases p <;> simp
 rename_i q;by_cases hc:q.spot.isSome=true <;> simp [hc]
theorem X0Y {agg:Bool} {off n:Nat}:WS E fl t H (.fld agg off n x) K R=oo (X0p agg off n (ev t x)) fun v=>K v H:=by
 simp only [WS,opA];cases X0p agg off n (ev t x) <;> simp [b0C]
theorem X0W:WS E fl t H (.chk x) K R=oo (e1f (ev t x)) fun v=>K v H:=by
 simp only [WS,opA,e1f];generalize ev t x=v
 cases v <;> simp
 case pointer p=>cases p <;> simp
 case func f _ _=>cases f <;> simp
theorem J0M {ty:TypeId}:WS E fl t H (.iface ty x) K R=K (.iface ty (ev t x)) H:=nr rfl
theorem U0q {f:Fn} {as bs:List Opd}:WS E fl t H (.mkfn f as bs) K R=K (.func f (as.map (ev t)).toArray (bs.map (ev t)).toArray) H:=nr rfl
theorem J0K {z:List Value} {ps:List (Nat × Nat × Opd)}:WS E fl t H (.build z ps) K R=oo (g0P z (b0y t ps)) fun cs=>K (.agg cs.toArray) H:=by
 simp only [WS,opA];cases g0P z (b0y t ps) <;> simp [b0C]
theorem t0E {agg:Bool} {n:Nat}:WS E fl t H (.load agg n x) K R=oo (b0r H agg n (ev t x)) fun v=>K v H:=by
 simp only [WS,opA];cases b0r H agg n (ev t x) <;> simp [b0C]
theorem Y0b {big:Bool} {ys:List Opd}:WS E fl t H (.mnx big x ys) K R=oo (u0c big (ev t x) (ys.map (ev t))) fun v=>K v H:=by
 simp only [WS,opA];cases u0c big (ev t x) (ys.map (ev t)) <;> simp [b0C]
theorem d1u {e:TypeId} {size:Nat} {lo hi mx:Option Opd}:WS E fl t H (.sl e size x lo hi mx) K R =
  (elemOk H e (ev t x)=true∧oo (e0c size (ev t x) (lo.map (ev t)) (hi.map (ev t)) (mx.map (ev t))) fun v=>K v H):=by
 simp only [WS,opA]
 cases elemOk H e (ev t x) <;> cases e0c size (ev t x) (lo.map (ev t)) (hi.map (ev t)) (mx.map (ev t)) <;> simp [b0C]
theorem J0J {e:TypeId} {z:List Value}:WS E fl t H (.alloc e z) K R=K (.pointer (some ⟨H.size,0,none⟩)) (H.push (.row false e z)):=nr rfl
theorem X0T {e:TypeId}:WS E fl t H (.box e x) K R=K (.pointer (some ⟨H.size,0,none⟩)) (H.push (.row false e (a0V (ev t x)))):=nr rfl
theorem Y0a {e:TypeId} {z:List Value} {n:Nat} {ps:List (Nat × Nat × Opd)}:WS E fl t H (.lit e z n ps) K R =
  oo (g0P (e0G z n) (b0y t ps)) fun cs=>K (.slice (some ⟨H.size,0,none⟩) n n) (H.push (.row false e cs)):=by
 simp only [WS,opA];cases g0P (e0G z n) (b0y t ps) <;> simp
theorem d1t {e:TypeId} {bytes:Nat} {z:List Value}:WS E fl t H (.mk e bytes z x y) K R =
  oo (mkV bytes (ev t x) (ev t y)) fun p=>K (.slice (some ⟨H.size,0,none⟩) p.1 p.2) (H.push (.row false e (e0G z p.1))):=by
 simp only [WS,opA,mkV];generalize ev t x=v;generalize ev t y=w
 cases v <;> cases w <;> simp
 rename_i k l k' c;by_cases hc:0≤l∧l≤c∧c≤1073741824∧bytes≤1024 <;> simp [hc]
theorem J0O {n:Nat}:WS E fl t H (.store n x y) K R=oo (f0g fl H n (ev t x) (ev t y)) fun H'=>K undef H':=by
 simp only [WS,opA,f0g];generalize ev t x=v;generalize ev t y=w
 cases v <;> simp
 rename_i p;cases p <;> simp
 rename_i q;by_cases hc:q.spot.isSome=true ∨ (a0V w).length ≠ n <;> simp [hc]
 cases H.write? fl _ _ (a0V w) <;> simp
theorem X0S {e:TypeId} {size bytes:Nat}:WS E fl t H (.app e size bytes x y) K R=oo (i0x fl H e size bytes (ev t x) (ev t y)) fun p=>K p.1 p.2:=by
 simp only [WS,opA];cases i0x fl H e size bytes (ev t x) (ev t y) <;> simp [g0H]
theorem U0o {f:FuncId} {as:List Opd} {lone:Bool}:WS E fl t H (.call f as lone) K R=a0S E (if lone then fl else max fl H.size) f (as.map (ev t)) H K R:=nr rfl
theorem A0b {Z:b0b→a0e→Prop}:WR E fl [] t H Z R=Z t H:=nr rfl
theorem l0M {d:Option Nat} {op:SOp} {r:List a0I} {Z:b0b→a0e→Prop}:WR E fl (⟨d,none,op⟩ :: r) t H Z R=WS E fl t H op (fun v H'=>WR E fl r (put t d v) H' Z R) R:=by
 simp [WR,b0j]
theorem J0I {t t':b0b} {ops:List a0I} {Z:b0b→a0e→Prop} (h:t=t'):WR E fl ops t H Z R=WR E fl ops t' H Z R:=by rw [h]
theorem y0g {fl fl':Nat} {f:FuncId} {as as':List Value} (h:as=as') (hf:fl=fl'):a0S E fl f as H K R=a0S E fl' f as' H K R:=by rw [h,hf]
theorem U0s {c:SCode} {Q:d0X}:W E fl c t H Q R=W E fl c t H Q R:=nr rfl
theorem J0L {op:SOp}:WS E fl t H op K R=WS E fl t H op K R:=nr rfl
theorem K0I {α:Type} {o o':Option α} {K:α→Prop} (h:o=o'):oo o K=oo o' K:=by rw [h]
def Ext (H G:a0e):Prop:=H.size≤G.size∧∀ b,b < H.size→G.blk b=H.blk b
theorem Ext.refl (H:a0e):Ext H H:=⟨i1j _,fun _ _=>rfl⟩
theorem Ext.trans {H1 H2 H3:a0e} (h:Ext H1 H2) (k:Ext H2 H3):Ext H1 H3:=⟨i1t h.1 k.1,fun b hb=>(k.2 b (i1C hb h.1)).trans (h.2 b hb)⟩
theorem f0Z.ext (h:f0Z H.size H G):Ext H G:=⟨h.size,h.low⟩
theorem a0D {r:Blk}:a0e.blk (H.push r) H.size=r:=by simp [a0K]
theorem d0K {r:Blk} {b:Nat} (h:b < H.size):a0e.blk (H.push r) b=H.blk b:=by rw [a0K,i1k (by omega)]
theorem a0z {r:Blk} {b:Nat} (h:b < H.size):a0e.blk (H.setIfInBounds b r) b=r:=by
 unfold a0e.blk;simp [i1u,i1Q,h]
theorem a0W {r:Blk} {b c:Nat} (h:b ≠ c):a0e.blk (H.setIfInBounds b r) c=H.blk c:=by
 unfold a0e.blk;simp [i1u,i1Q,h]
theorem Ext.push {r:Blk} (h:Ext H G):Ext H (G.push r):=⟨by have:=h.1;simp;omega,fun b hb=>by rw [d0K (i1C hb h.1)];exact h.2 b hb⟩
theorem Ext.set {r:Blk} {b:Nat} (h:Ext H G) (hb:H.size≤b):Ext H (G.setIfInBounds b r):=⟨by have:=h.1;simpa using this,fun c hc=>by rw [a0W (by omega)];exact h.2 c hc⟩
theorem Ext.le (h:Ext H G):H.size≤G.size:=h.1
theorem Ext.blk {b:Nat} {ro:Bool} {e:TypeId} {cs:List Value} (h:Ext H G) (hb:H.blk b=.row ro e cs):G.blk b=.row ro e cs:=by rw [h.2 b (a0i hb)];exact hb
theorem f0m {b off n:Nat} {ro:Bool} {e:TypeId} {cs:List Value} (h:H.blk b=.row ro e cs) (hn:off + n≤cs.length):H.cells? b off n=some ((cs.drop off).take n):=by
 unfold a0e.cells?;rw [h];simp [hn]
end
section
open Go
variable {E:Env} {fl:Nat} {t:b0b} {H:a0e} {Q:d0X} {R:a0E}
theorem p0R {n m k:Nat} {c:SCode} {o:Out} (hn:n≤m) (hk:k≤m) (h:b0f (b0p E n) fl k c t H=o) (ho:o ≠ .bad):b0f (b0p E m) fl m c t H=o:=by
 rw [b0l (a0N E n m hn) (i1j fl) k m c t H hk (by rw [h];exact ho),h]
theorem w0c {a b:SCode}:W E fl (.seq a b) t H Q R=W E fl a t H (h0H (fun t' H'=>W E fl b t' H' Q R) Q) R:=by
 refine l1g ⟨fun ⟨n,h⟩=>?_,g0M⟩
 cases n with
 | zero=>simp only [b0f] at h;exact i1A h id
 | succ m =>
  simp only [b0f] at h
  cases ha:b0f (b0p E (m+1)) fl m a t H with
  | bad=>rw [ha] at h;exact i1A h id
  | pan v=>rw [ha] at h;exact ⟨m + 1,by rw [p0R (i1j _) (by omega) ha (by simp)];exact h⟩
  | fin e t' H' =>
   rw [ha] at h
   refine ⟨m + 1,?_⟩
   rw [p0R (i1j _) (by omega) ha (by simp)]
   cases e with
   | normal=>exact ⟨m + 1,l0Y (i1j _) (by omega) h⟩
   | exit i=>exact h
   | ret=>exact h
theorem U0x:W E fl .skip t H Q R=Q .normal t H:=l1g ⟨fun ⟨n,h⟩=>by cases n with | zero=>exact i1A h id | succ m=>exact h,r0J⟩
theorem U0w {i:Nat}:W E fl (.exit i) t H Q R=Q (.exit i) t H:=l1g ⟨fun ⟨n,h⟩=>by cases n with | zero=>exact i1A h id | succ m=>exact h,r0I⟩
theorem Y0f:W E fl .ret t H Q R=Q .ret t H:=l1g ⟨fun ⟨n,h⟩=>by cases n with | zero=>exact i1A h id | succ m=>exact h,d1w⟩
def U0F:Value→Option Bool
 | .bool b=>some b
 | _=>none
@[simp] theorem W0U {b:Bool}:U0F (.bool b)=some b:=nr rfl
theorem U0v {c:Opd} {a b:SCode}:W E fl (.cond c a b) t H Q R=oo (U0F (ev t c)) fun x=>(x=true→W E fl a t H Q R)∧(x=false→W E fl b t H Q R):=by
 refine l1g ⟨fun ⟨n,h⟩=>?_,fun ⟨x,hx,ha,hb⟩=>j0j x (by unfold U0F at hx;split at hx <;> simp_all) ha hb⟩
 cases n with
 | zero=>exact i1A h id
 | succ m =>
  simp only [b0f] at h
  split at h
  ·rename_i hc;refine ⟨true,by rw [hc];rfl,fun _=>⟨m + 1,l0Y (i1j _) (by omega) h⟩,by simp⟩
  ·rename_i hc;refine ⟨false,by rw [hc];rfl,by simp,fun _=>⟨m + 1,l0Y (i1j _) (by omega) h⟩⟩
  ·exact i1A h id
theorem J0P {i:Nat} {c:SCode}:W E fl (.block i c) t H Q R=W E fl c t H (e0Z i Q) R:=by
 refine l1g ⟨fun ⟨n,h⟩=>?_,l0O⟩
 cases n with
 | zero=>exact i1A h id
 | succ m =>
  simp only [b0f] at h
  cases ha:b0f (b0p E (m+1)) fl m c t H with
  | bad=>rw [ha] at h;exact i1A h id
  | pan v=>rw [ha] at h;exact ⟨m + 1,by rw [p0R (i1j _) (by omega) ha (by simp)];exact h⟩
  | fin e t' H' =>
   rw [ha] at h
   refine ⟨m + 1,?_⟩
   rw [p0R (i1j _) (by omega) ha (by simp)]
   cases e with
   | normal=>exact h
   | ret=>exact h
   | exit j =>
    simp only at h
    show (if j=i then Q .normal t' H' else Q (.exit j) t' H')
    split at h
    ·rename_i hj;rw [i1n hj];exact h
    ·rename_i hj;rw [i1k hj];exact h
theorem r0H {op:SOp} {K:n0H} {n:Nat} (h:o0f K R (b0z (b0p E n) fl t H op)):WS E fl t H op K R:=by
 unfold WS
 unfold b0z at h
 cases ho:opA fl t H op with
 | bad=>rw [ho] at h;exact i1A h id
 | pan v=>rw [ho] at h;exact h
 | val v H'=>rw [ho] at h;exact h
 | call f as lone=>rw [ho] at h;exact ⟨n,h⟩
theorem l0N {Z:b0b→a0e→Prop} {n:Nat}:∀ (ops:List a0I) {t:b0b} {H:a0e},k0r (fun _ t' H'=>Z t' H') R (f0l (b0p E n) fl ops t H)→WR E fl ops t H Z R
 | [],t,H,h=>h
 | o :: r,t,H,h=>by
  simp only [WR]
  simp only [f0l] at h
  split at h
  ·rename_i hw
   rw [i1n hw]
   cases hs:b0z (b0p E n) fl t H o.op with
   | bad=>rw [hs] at h;exact i1A h id
   | pan v=>rw [hs] at h;exact r0H (by rw [hs];exact h)
   | ok x=>rw [hs] at h;exact r0H (n:=n) (by rw [hs];exact l0N r h)
  ·rename_i hw
   rw [i1k hw];exact l0N r h
theorem Y0e {ops:List a0I}:W E fl (.reg ops) t H Q R=WR E fl ops t H (fun t' H'=>Q .normal t' H') R:=by
 refine l1g ⟨fun ⟨n,h⟩=>?_,l0f⟩
 cases n with
 | zero=>exact i1A h id
 | succ m =>
  simp only [b0f] at h
  refine l0N (n:=m + 1) ops ?_
  cases hr:f0l (b0p E (m+1)) fl ops t H with
  | bad=>rw [hr] at h;exact h
  | pan v=>rw [hr] at h;exact h
  | fin e t' H' =>
   rw [hr] at h
   have he:=(regA_keep' ops t H hr)
   subst he;exact h
where
 regA_keep' {c:J0D} {fl:Nat}:∀ (ops:List a0I) (t:b0b) (H:a0e) {e:XA} {t':b0b} {H':a0e},f0l c fl ops t H=.fin e t' H'→e=.normal
  | [],t,H,e,t',H',h=>by simp only [f0l,Out.fin.injEq] at h;exact h.1.symm
  | o :: r,t,H,e,t',H',h=>by
   simp only [f0l] at h
   split at h
   ·split at h
    ·cases h
    ·cases h
    ·exact regA_keep' r _ _ h
   ·exact regA_keep' r _ _ h
@[simp] theorem d0h {k:b0b→a0e→Prop}:h0H k Q .normal t H=k t H:=nr rfl
@[simp] theorem X0B {k:b0b→a0e→Prop} {i:Nat}:h0H k Q (.exit i) t H=Q (.exit i) t H:=nr rfl
@[simp] theorem a1W {k:b0b→a0e→Prop}:h0H k Q .ret t H=Q .ret t H:=nr rfl
@[simp] theorem K0d {i:Nat}:e0Z i Q .normal t H=Q .normal t H:=nr rfl
@[simp] theorem U0C {i j:Nat}:e0Z i Q (.exit j) t H=if j=i then Q .normal t H else Q (.exit j) t H:=nr rfl
@[simp] theorem W0T {i:Nat}:e0Z i Q .ret t H=Q .ret t H:=nr rfl
end
end Go.Proofs.YtilekhkgobmolaaGreat.AI
