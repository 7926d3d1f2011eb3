/- Part 2 of the proof: AiSim8, AiKeep, AiLocal, AiSim9, AiSim10, AiDraw1, AiDraw2, AiDraw3, AiDraw4. -/
import Derived.Orders
import Derived.Test.YtjlohmnnldbjoaaGreatM00
set_option linter.unusedVariables false
set_option linter.unusedSimpArgs false
set_option linter.unusedSectionVars false
namespace Go.Proofs.YtjlohmnnldbjoaaGreat.AI
section
open Go
variable {X:Cx} {φ φ':Inj} {S:Shp} {H H':a0f} {w w':World} {fl:Nat} {t:b0c} {a:Act} {o:Oper} {so:SOp} {lone:Bool}
theorem X0S (hc:cOp X.P lone o.op=some so) (hf:(a0y so).all a0Z=true) (hR:Rel X φ H w) (hT:CR X φ w.shape? t a.tmps.toList) (hfl:fl≤H.size) {v:Value} (h:opA fl t H so=.val v H') :
  b0n X fl φ H w o a v H':=by
 cases ho:o.op
 case move x =>
  simp only [cOp,ho,h1J] at hc
  obtain ⟨x',hx,rfl⟩:=hc
  simp only [opA,OpRes.val.injEq] at h;obtain ⟨rfl,rfl⟩:=h
  exact S0O hR hT (.inl ho) hx (by simpa [a0y] using hf)
 case assign x =>
  simp only [cOp,ho,h1J] at hc
  obtain ⟨x',hx,rfl⟩:=hc
  simp only [opA,OpRes.val.injEq] at h;obtain ⟨rfl,rfl⟩:=h
  exact S0O hR hT (.inr ho) hx (by simpa [a0y] using hf)
 case pick c x y =>
  simp only [cOp,ho,f1P,f1J,f1R,f1L] at hc
  obtain ⟨c',h1,x',h2,y',h3,rfl⟩:=hc
  simp only [a0y,g1N,g1b,i1w] at hf
  exact M0G hR hT ho h1 h2 h3 hf.1 hf.2.1 hf.2.2.1 h
 case alloc e =>
  simp only [cOp,ho,f1P,f1J,f1R,f1L] at hc
  obtain ⟨z,h1,rfl⟩:=hc
  simp only [opA,OpRes.val.injEq] at h;obtain ⟨rfl,rfl⟩:=h
  exact J0l hR hT hfl ho h1
 case box e x =>
  simp only [cOp,ho,f1P,f1J,f1R,f1L] at hc
  obtain ⟨x',h1,rfl⟩:=hc
  simp only [opA,OpRes.val.injEq] at h;obtain ⟨rfl,rfl⟩:=h
  exact V0f hR hT hfl ho h1 (by simpa [a0y] using hf)
 case build ty ps =>
  simp only [cOp,ho,f1P,f1J,f1R,f1L] at hc
  obtain ⟨fs,h1,hc⟩:=hc
  split at hc
  ·rename_i hall
   simp only [f1J,f1L] at hc
   obtain ⟨z,h2,qs,h3,rfl⟩:=hc
   exact J0m hR hT ho h1 hall h2 h3 (by simpa [a0y] using hf) h
  ·cases hc
 case buildSlice ty n ps =>
  simp only [cOp,ho,f1P,f1J,f1R,f1L] at hc
  obtain ⟨e,h1,size,h2,z,h3,hc⟩:=hc
  split at hc
  ·rename_i hall
   simp only [f1J,f1L] at hc
   obtain ⟨qs,h4,rfl⟩:=hc
   exact V0l hR hT hfl ho h1 h2 h3 hall.1 hall.2.1 hall.2.2 h4 (by simpa [a0y] using hf) h
  ·cases hc
 case load ty x =>
  simp only [cOp,ho,f1P,f1J,f1R,f1L] at hc
  obtain ⟨b,h1,n,h2,x',h3,rfl⟩:=hc
  exact M0E hR hT ho h2 h1 h3 (by simpa [a0y] using hf) h
 case store ty x y =>
  simp only [cOp,ho,f1P,f1J,f1R,f1L] at hc
  obtain ⟨n,h1,x',h2,y',h3,rfl⟩:=hc
  simp only [a0y,g1N,g1b,i1w] at hf
  exact J0p hR hT ho h1 h2 h3 hf.1 hf.2.1 h
 case nilCheck x =>
  simp only [cOp,ho,f1P,f1J,f1R,f1L] at hc
  obtain ⟨x',h1,rfl⟩:=hc
  exact V0g hR hT ho h1 (by simpa [a0y] using hf) h
 case binOp b ty x y ty2 =>
  simp only [cOp,ho,f1P,f1J,f1R,f1L] at hc
  obtain ⟨d,h1,x',h2,y',h3,rfl⟩:=hc
  simp only [a0y,g1N,g1b,i1w] at hf
  exact V0e hR hT ho h1 h2 h3 hf.1 hf.2.1 h
 case unOp u ty x =>
  simp only [cOp,ho,f1P,f1J,f1R,f1L] at hc
  obtain ⟨x',h1,rfl⟩:=hc
  exact Y0X hR hT ho h1 (by simpa [a0y] using hf) h
 case convert s d x =>
  simp only [cOp,ho,f1P,f1J,f1R,f1L] at hc
  obtain ⟨k0,h1,k,h2,x',h3,rfl⟩:=hc
  exact M0D hR hT ho h1 h2 h3 (by simpa [a0y] using hf) h
 case makeInterface ty x =>
  simp only [cOp,ho] at hc
  split at hc
  ·cases hc
  ·cases hc
  ·rename_i d hne hu
   simp only [f1P,f1J,f1R,f1L] at hc
   obtain ⟨x',h1,rfl⟩:=hc
   simp only [opA,OpRes.val.injEq] at h;obtain ⟨rfl,rfl⟩:=h
   exact J0n hR hT ho hu (fun m hm=>hne m hm) h1 (by simpa [a0y] using hf)
 case makeFunc f xs ys =>
  simp only [cOp,ho] at hc
  split at hc
  ·simp only [f1P,f1J,f1R,f1L] at hc
   obtain ⟨xs',h1,ys',h2,rfl⟩:=hc
   simp only [opA,OpRes.val.injEq] at h;obtain ⟨rfl,rfl⟩:=h
   simp only [a0y,i1B,g1b] at hf
   exact M0F hR hT ho h1 h2 hf.1 hf.2
  ·cases hc
 case makeSlice ty x y =>
  simp only [cOp,ho,f1P,f1J,f1R,f1L] at hc
  obtain ⟨e,h1,size,h2,z,h3,hc⟩:=hc
  split at hc
  ·rename_i hall
   simp only [f1J,f1L] at hc
   obtain ⟨by_,h4,x',h5,y',h6,rfl⟩:=hc
   simp only [a0y,g1N,g1b,i1w] at hf
   exact Y0V hR hT hfl ho h1 h2 h4 h3 hall.1 hall.2 h5 h6 hf.1 hf.2.1 h
  ·cases hc
 case slice ty x lo hi mx =>
  simp only [cOp,ho,f1P,f1J,f1R,f1L] at hc
  obtain ⟨e,h1,size,h2,x',h3,lo',h4,hi',h5,mx',h6,rfl⟩:=hc
  simp only [a0y,i1B,g1b,g1N,i1w] at hf
  exact Y0W hR hT ho h1 h2 h3 h4 h5 h6 hf.1.1.1.1 hf.1.1.2 hf.1.2 hf.2 h
 case fieldAddr ty x i =>
  simp only [cOp,ho,f1P,f1J,f1R,f1L] at hc
  obtain ⟨fs,h1,f,h2,n,h3,hc⟩:=hc
  split at hc
  ·rename_i hn;subst hn
   split at hc
   ·rename_i hall
    simp only [f1J,f1L] at hc
    obtain ⟨x',h4,rfl⟩:=hc
    exact V0i hR hT ho h1 h2 h3 hall.1 hall.2.1 hall.2.2.1 hall.2.2.2 h4 (by simpa [a0y] using hf) h
   ·cases hc
  ·rename_i hn
   simp only [f1J,f1L] at hc
   obtain ⟨x',h4,rfl⟩:=hc
   exact Y0T hR hT ho h1 h2 h3 hn h4 (by simpa [a0y] using hf) h
 case field ty x i =>
  simp only [cOp,ho,f1P,f1J,f1R,f1L] at hc
  obtain ⟨fs,h1,f,h2,b,h3,n,h4,x',h5,rfl⟩:=hc
  exact V0j hR hT ho h1 h2 h4 h3 h5 (by simpa [a0y] using hf) h
 case indexAddr ty x y =>
  simp only [cOp,ho,f1P,f1J,f1R,f1L] at hc
  obtain ⟨e,h1,n,h2,x',h3,y',h4,rfl⟩:=hc
  simp only [a0y,g1N,g1b,i1w] at hf
  exact Y0U hR hT ho h1 h2 h3 h4 hf.1 hf.2.1 h
 case extract x i =>
  simp only [cOp,ho,f1P,f1J,f1R,f1L] at hc
  obtain ⟨x',h1,rfl⟩:=hc
  exact V0h hR hT ho h1 (by simpa [a0y] using hf) h
 case call c =>
  obtain ⟨callee,args,ats⟩:=c
  simp only [cOp,ho] at hc
  cases callee with
  | value f =>
   cases f with
   | func f =>
    simp only [] at hc
    split at hc
    ·simp only [f1P,f1J,f1R,f1L] at hc
     obtain ⟨x',h1,rfl⟩:=hc
     simp [opA] at h
    ·cases hc
   | _ =>
    simp only [f1P,f1J,f1R,f1L] at hc
    obtain ⟨x',h1,xs',h2,rfl⟩:=hc
    simp only [opA] at h
    split at h <;> cases h
  | invoke r name =>
   simp only [f1P,f1J,f1R,f1L] at hc
   obtain ⟨x',h1,xs',h2,rfl⟩:=hc
   simp only [opA] at h
   split at h
   ·split at h <;> cases h
   ·cases h
  | builtin b =>
   simp only [] at hc
   split at hc
   ·rename_i x t1 hargs hats
    simp only [f1P,f1J,f1R,f1L] at hc
    obtain ⟨e,h1,x',h2,rfl⟩:=hc
    exact V0k hR hT ho hargs hats h1 h2 (by simpa [a0y] using hf) h
   ·rename_i x ys _ hargs
    simp only [f1P,f1J,f1R,f1L] at hc
    obtain ⟨x',h1,ys',h2,rfl⟩:=hc
    simp only [a0y,g1N,g1b] at hf
    exact J0o hR hT ho rfl hargs h1 h2 hf.1 hf.2 h
   ·rename_i x ys _ hargs
    simp only [f1P,f1J,f1R,f1L] at hc
    obtain ⟨x',h1,ys',h2,rfl⟩:=hc
    simp only [a0y,g1N,g1b] at hf
    exact J0o hR hT ho rfl hargs h1 h2 hf.1 hf.2 h
   ·rename_i s x t1 u1 hargs hats
    simp only [f1P,f1J,f1R,f1L] at hc
    obtain ⟨e,h1,size,h2,z,h3,hc⟩:=hc
    split at hc
    ·rename_i hall
     obtain ⟨ha1,ha2,rfl⟩:=hall
     simp only [f1J,f1L] at hc
     obtain ⟨by_,h4,s',h5,x',h6,rfl⟩:=hc
     simp only [a0y,g1N,g1b,i1w] at hf
     exact V0d hR hT hfl ho rfl hargs hats h1 h2 h4 h3 ha1 ha2 h5 h6 hf.1 hf.2.1 h
    ·cases hc
   ·cases hc
 case panic x =>
  simp only [cOp,ho,f1P,f1J,f1R,f1L] at hc
  obtain ⟨x',h1,rfl⟩:=hc
  simp only [opA] at h
  split at h <;> cases h
 all_goals (simp [cOp,ho] at hc)
theorem d0D {P:Program} {f:FuncId} (h:z0c P f=true) (args:Array Value) (w:World):(callFunc f args).run P w=.ok (.enter f args) w:=by
 unfold z0c at h
 cases hf:P.funcs[f]? with
 | none=>simp [hf] at h
 | some fn =>
  simp only [hf,g1b,h1D] at h
  obtain ⟨h1,h2⟩:=h
  cases hb:fn.body with
  | none=>simp [hb] at h2
  | some c=>simp [callFunc,hf,hb];simpa using h1
theorem o0f {α:Type} {k:Nat} {v:α}:∀ {l:List (Nat × α)},l.lookup k=some v→(k,v) ∈ l
 | [],h=>by simp at h
 | (k',v') :: r,h=>by
  rw [List.lookup_cons] at h
  split at h
  ·rename_i hk
   have:k=k':=by simpa using hk
   subst this
   simp only [f1L] at h
   subst h
   exact i1F
  ·exact h1S _ (o0f h)
def v0O:SOp→Bool
 | .call _ _ _ | .callv _ _ _ | .inv _ _ _ _=>true
 | _=>false
theorem m0d {f:FuncId} {args:List Value} {l:Bool} (h:opA fl t H so=.call f args l):v0O so=true:=by
 cases so <;> simp only [opA] at h <;> first
  | rfl
  | (simp at h;done)
  | (unfold b0H at h;split at h <;> cases h)
  | (unfold g0g at h;split at h <;> cases h)
  | (split at h <;> first | (cases h;done) | (split at h <;> first | (cases h;done) | (split at h <;> first | (cases h;done) | (unfold b0H at h;split at h <;> cases h))) | (unfold b0H at h;split at h <;> cases h))
theorem t0d (hc:cOp X.P lone o.op=some so) (hs:v0O so=true):∃ c,o.op=.call c:=by
 cases ho:o.op
 case call c=>exact ⟨c,rfl⟩
 all_goals
  exfalso
  cases so <;> simp only [v0O,g1h] at hs
  all_goals
   simp only [cOp,ho,h1J,f1P,f1J,f1R,f1L,reduceCtorEq,and_false,exists_const,exists_false] at hc
   try (repeat' (first | (simp only [f1J,f1L,reduceCtorEq,and_false,exists_const,exists_false] at hc;done) | (obtain ⟨_,_,hc⟩:=hc) | (split at hc)))
theorem A0G (hc:cOp X.P lone o.op=some so) (hf:(a0y so).all a0Z=true) (hT:CR X φ w.shape? t a.tmps.toList) {f:FuncId} {args:List Value} {l:Bool} (h:opA fl t H so=.call f args l) :
  ∃ args':Array Value,CR X φ w.shape? args args'.toList∧(execOp a.eval o).run X.P w=(callFunc f args').run X.P w:=by
 cases ho:o.op
 case call c =>
  obtain ⟨callee,cargs,ats⟩:=c
  simp only [cOp,ho] at hc
  cases callee with
  | value g =>
   cases g with
   | func g =>
    simp only [] at hc
    split at hc
    ·simp only [f1P,f1J,f1R,f1L] at hc
     obtain ⟨xs',h1,rfl⟩:=hc
     simp only [opA,OpRes.call.injEq] at h
     obtain ⟨rfl,rfl,rfl⟩:=h
     refine ⟨cargs.map a.eval,by simpa using i0s hT h1 (by simpa [a0y] using hf),?_⟩
     simp [execOp,ho,resolve,Deferred.ofValue,Act.eval,invoke]
    ·cases hc
   | _ =>
    simp only [f1P,f1J,f1R,f1L] at hc
    obtain ⟨x',h1,xs',h2,rfl⟩:=hc
    simp only [a0y,g1N,g1b] at hf
    have hv:=b0K hT h1 hf.1
    have hvs:=i0s hT h2 hf.2
    simp only [opA] at h
    split at h
    ·rename_i g first captured e1
     simp only [OpRes.call.injEq] at h
     obtain ⟨rfl,rfl,rfl⟩:=h
     rw [e1] at hv
     generalize hg:a.eval _=gg at hv
     cases hv with
     | func _ _ _ f' c' k1 k2 k3 k4 =>
      have c1:CR X φ w.shape? first.toList f'.toList:=VR.agg_iff.1 (.agg _ _ k1 k2)
      have c2:CR X φ w.shape? captured.toList c'.toList:=VR.agg_iff.1 (.agg _ _ k3 k4)
      refine ⟨f' ++ cargs.map a.eval ++ c',by simpa using (c1.append hvs).append c2,?_⟩
      simp [execOp,ho,resolve,Deferred.ofValue,hg,invoke]
    ·cases h
  | invoke r name =>
   simp only [f1P,f1J,f1R,f1L] at hc
   obtain ⟨x',h1,xs',h2,rfl⟩:=hc
   simp only [a0y,g1N,g1b] at hf
   have hv:=b0K hT h1 hf.1
   have hvs:=i0s hT h2 hf.2
   simp only [opA] at h
   split at h
   ·rename_i ty v e1
    split at h
    ·rename_i g hlk
     simp only [OpRes.call.injEq] at h
     obtain ⟨rfl,rfl,rfl⟩:=h
     rw [e1] at hv
     generalize hg:a.eval r=gg at hv
     cases hv with
     | iface _ _ v' k1 =>
      refine ⟨#[v'] ++ cargs.map a.eval,by simpa using k1.cons_cr hvs,?_⟩
      -- the method is found, direct, of a value
      have hmem:(ty,g) ∈ t0u X.P name:=o0f hlk
      unfold t0u at hmem
      rw [List.mem_filterMap] at hmem
      obtain ⟨t0,ht0,hm⟩:=hmem
      have ht0:=g1K.1 ht0
      split at hm
      ·rename_i i hi
       split at hm
       ·rename_i m hfind
        split at hm
        ·rename_i g0 fs hfn hund
         split at hm
         ·rename_i hpr
          simp only [f1L,h1C] at hm
          obtain ⟨rfl,rfl⟩:=hm
          simp only [g1b] at hpr
          have hpath:m.path.toList=[]:=by simpa using hpr.1
          have hpos:∃ k,X.P.types.size + Made.depth=k + 1:=⟨X.P.types.size + Made.depth - 1,by omega⟩
          obtain ⟨k,hk⟩:=hpos
          have hmeth:(method (X.P.types.size + Made.depth) t0 v' name).run X.P w=.ok (g0,v') w:=by
           rw [hk,method]
           simp [typeInfo,hi,hfind,hpath,follow,hfn,receiverAt,run_underlying hund,Place.get]
          have hz:(#[Value.iface t0 v'] ++ cargs.map a.eval)[0]? = some (.iface t0 v'):=by simp [Array.getElem?_append]
          have hex:(#[Value.iface t0 v'] ++ cargs.map a.eval).extract 1 (#[Value.iface t0 v'] ++ cargs.map a.eval).size=cargs.map a.eval:=by
           apply Array.ext';simp [f1W]
          simp only [execOp,ho,resolve,Sem.run_bind,Sem.run_pure,Result.andThen_ok,hg,invoke,hz,hex,callMethod,run_program,hmeth]
         ·cases hm
        ·cases hm
       ·cases hm
      ·cases hm
    ·cases h
   ·cases h
  | builtin b =>
   simp only [] at hc
   split at hc
   ·simp only [f1P,f1J,f1R,f1L] at hc
    obtain ⟨e,h1,x',h2,rfl⟩:=hc
    simp only [opA] at h;split at h <;> cases h
   ·simp only [f1P,f1J,f1R,f1L] at hc
    obtain ⟨x',h1,ys',h2,rfl⟩:=hc
    simp only [opA] at h;unfold b0H at h;split at h <;> cases h
   ·simp only [f1P,f1J,f1R,f1L] at hc
    obtain ⟨x',h1,ys',h2,rfl⟩:=hc
    simp only [opA] at h;unfold b0H at h;split at h <;> cases h
   ·simp only [f1P,f1J,f1R,f1L] at hc
    obtain ⟨e,h1,size,h2,z,h3,hc⟩:=hc
    split at hc
    ·simp only [f1J,f1L] at hc
     obtain ⟨by_,h4,s',h5,x',h6,rfl⟩:=hc
     simp only [opA] at h;unfold g0g at h;split at h <;> cases h
    ·cases hc
   ·cases hc
 all_goals
  obtain ⟨c,hcc⟩:=t0d hc (m0d h)
  rw [ho] at hcc;cases hcc
end
section
open Go
variable {H H' H1:a0f} {fl:Nat} {t:b0c} {so:SOp}
inductive Turn (fl:Nat) (ws:List Nat) (H:a0f):a0f→Prop
 | same:Turn fl ws H H
 | push (r:Blk):Turn fl ws H (H.push r)
 | set (b:Nat) (e:TypeId) (cs cs':List Value) (h:H.blk b=.row false e cs) (hb:b ∈ ws) (hf:fl≤b):Turn fl ws H (H.setIfInBounds b (.row false e cs'))
 | move (b:Nat) (e:TypeId) (cs:List Value) (r:Blk) (h:H.blk b=.row false e cs) (hb:b ∈ ws) (hf:fl≤b):Turn fl ws H ((H.setIfInBounds b .dead).push r)
theorem p0S {v:Value} (h:opA fl t H so=.val v H1):Turn fl (c0Y t so).2 H H1:=by
 have opt:∀ {x:Option Value},b0H H x=.val v H1→Turn fl (c0Y t so).2 H H1:=fun {x} hx=>by
  cases x with
  | none=>simp [b0H] at hx
  | some u=>simp [b0H] at hx;rw [← hx.2];exact .same
 cases so <;> simp only [opA] at h
 case mv=>simp at h;rw [← h.2];exact .same
 case pick=>split at h <;> simp at h <;> (rw [← h.2];exact .same)
 case alloc=>simp at h;rw [← h.2];exact .push _
 case box=>simp at h;rw [← h.2];exact .push _
 case build=>exact opt h
 case lit=>split at h <;> simp at h;rw [← h.2];exact .push _
 case load=>exact opt h
 case store n a x =>
  split at h
  ·rename_i p hp
   split at h
   ·cases h
   ·split at h
    ·rename_i H2 hw
     simp at h;rw [← h.2]
     unfold a0f.write? at hw
     split at hw
     ·rename_i e cs hk
      split at hw
      ·rename_i hc;cases hw
       exact .set _ _ _ _ hk (by simp [c0Y,hp,blkOf]) hc.1
      ·cases hw
     ·cases hw
    ·cases h
  ·cases h
 case chk=>split at h <;> simp at h <;> (rw [← h.2];exact .same)
 case bin=>exact opt h
 case un=>exact opt h
 case conv=>split at h <;> simp at h;rw [← h.2];exact .same
 case iface=>simp at h;rw [← h.2];exact .same
 case mkfn=>simp at h;rw [← h.2];exact .same
 case mk =>
  split at h
  ·split at h <;> simp at h;rw [← h.2];exact .push _
  ·cases h
 case sl => split at h; · cases h
            ·exact opt h
 case fa => split at h
            ·split at h <;> simp at h;rw [← h.2];exact .same
            ·cases h
 case fa0 =>
  split at h
  ·split at h
   ·split at h <;> simp at h;rw [← h.2];exact .same
   ·cases h
  ·cases h
 case fld=>exact opt h
 case ia =>
  split at h
  ·split at h <;> simp at h;rw [← h.2];exact .same
  ·cases h
 case ext =>
  split at h
  ·exact opt h
  ·cases h
 case call=>cases h
 case callv=>split at h <;> cases h
 case inv =>
  split at h
  ·split at h <;> cases h
  ·cases h
 case len=>split at h <;> simp at h;rw [← h.2];exact .same
 case mnx=>exact opt h
 case app e size bytes s x =>
  cases hap:j0M fl H e size bytes (ev t s) (ev t x) with
  | none=>simp [hap,g0g] at h
  | some r =>
   obtain ⟨rv,rH⟩:=r
   simp only [hap,g0g,OpRes.val.injEq] at h
   obtain ⟨rfl,rfl⟩:=h
   unfold j0M at hap
   split at hap
   ·rename_i base len cap xb n xc e1 e2
    split at hap
    ·cases hap;exact .same
    ·split at hap
     ·split at hap
      ·cases hap
      ·split at hap
       ·cases hap
       ·split at hap
        ·cases hap
        split at hap
        ·split at hap
         ·cases hap;exact .push _
         ·cases hap
        ·rename_i sp
         split at hap
         ·cases hap;exact .push _
         rename_i h00
         split at hap
         ·cases hap
         ·split at hap
          ·cases hap;exact .push _
          ·split at hap
           ·rename_i e' cs hk
            split at hap
            ·rename_i hc;cases hap
             exact .move _ _ _ _ hk (by simp only [c0Y,e1,blkW];rw [f1K h00];simp) hc.2
            ·cases hap
           ·cases hap
     ·cases hap
   ·cases hap
 case pan=>split at h <;> cases h
structure f0C (fl:Nat) (H H1:a0f):Prop where
 size:H.size≤H1.size
 low:∀ b,b < fl→H1.blk b=H.blk b
 kind:∀ b e cs,b < H.size→H1.blk b=.row false e cs→∃ cs0,H.blk b=.row false e cs0
 kindR:∀ b e cs,b < H.size→H1.blk b=.row true e cs→H.blk b=.row true e cs
theorem f0C.refl:f0C fl H H:=⟨f1I _,fun _ _=>rfl,fun _ _ cs _ h=>⟨cs,h⟩,fun _ _ _ _ h=>h⟩
theorem f0C.trans {fl1:Nat} {H2:a0f} (h:f0C fl H H1) (k:f0C fl1 H1 H2) (hf:fl≤fl1):f0C fl H H2 :=
 ⟨f1Y h.size k.size,fun b hb=>(k.low b (by omega)).trans (h.low b hb),fun b e cs hb hk=>by
  obtain ⟨c1,h1⟩:=k.kind b e cs (g1c hb h.size) hk
  exact h.kind b e c1 hb h1,fun b e cs hb hk=>h.kindR b e cs hb (k.kindR b e cs (g1c hb h.size) hk)⟩
theorem Turn.keep {ws:List Nat} (hfl:fl≤H.size) (h:Turn fl ws H H1):f0C fl H H1:=by
 cases h with
 | same=>exact f0C.refl
 | push r=>exact ⟨by simp,fun b hb=>by rw [a0K,f1K (by omega)],fun b e cs hb hk=>by rw [a0K,f1K (by omega)] at hk;exact ⟨cs,hk⟩,fun b e cs hb hk=>by rw [a0K,f1K (by omega)] at hk;exact hk⟩
 | set b e cs cs' h hb hf =>
  have hl:=a0l h
  exact ⟨by simp,fun c hc=>by rw [b0a _ _ _ _ hl,f1K (by omega)],fun c e1 cs1 hc hk=>by
   rw [b0a _ _ _ _ hl] at hk
   split at hk
   ·rename_i hcb;subst hcb;cases hk;exact ⟨cs,h⟩
   ·exact ⟨cs1,hk⟩,fun c e1 cs1 hc hk=>by
   rw [b0a _ _ _ _ hl] at hk
   split at hk
   ·cases hk
   ·exact hk⟩
 | move b e cs r h hb hf =>
  have hl:=a0l h
  exact ⟨by simp,fun c hc=>by rw [a0K,f1K (by simp;omega),b0a _ _ _ _ hl,f1K (by omega)],fun c e1 cs1 hc hk=>by
   rw [a0K,f1K (by simp;omega),b0a _ _ _ _ hl] at hk
   split at hk
   ·cases hk
   ·exact ⟨cs1,hk⟩,fun c e1 cs1 hc hk=>by
   rw [a0K,f1K (by simp;omega),b0a _ _ _ _ hl] at hk
   split at hk
   ·cases hk
   ·exact hk⟩
theorem Turn.changed {ws:List Nat} (h:Turn fl ws H H1) {b:Nat} (hb:b < H.size) (hne:H1.blk b ≠ H.blk b):b ∈ ws:=by
 cases h with
 | same=>exact g1g rfl hne
 | push r=>rw [a0K,f1K (by omega)] at hne;exact g1g rfl hne
 | set c e cs cs' h hc hf =>
  by_cases hcb:b=c
  ·subst hcb;exact hc
  ·rw [b0a _ _ _ _ (a0l h),f1K hcb] at hne;exact g1g rfl hne
 | move c e cs r h hc hf =>
  by_cases hcb:b=c
  ·subst hcb;exact hc
  ·rw [a0K,f1K (by simp;omega),b0a _ _ _ _ (a0l h),f1K hcb] at hne;exact g1g rfl hne
def h0t (call:Nat→FuncId→List Value→a0f→Res (Value × a0f)):Prop :=
 ∀ fl f args H v H1,call fl f args H=.ok (v,H1)→fl≤H.size→f0C fl H H1
section
variable {call:Nat→FuncId→List Value→a0f→Res (Value × a0f)} (hcall:h0t call)
include hcall
theorem k0u {v:Value} (hfl:fl≤H.size) (h:b0D call fl t H so=.ok (v,H1)):f0C fl H H1:=by
 unfold b0D at h
 split at h
 ·cases h
 ·cases h
 ·rename_i v' H2 hv
  simp at h;obtain ⟨rfl,rfl⟩:=h
  exact (p0S hv).keep hfl
 ·rename_i f args lone hc
  have hk:=hcall _ _ _ _ _ _ h (by split <;> omega)
  exact ⟨hk.size,fun b hb=>hk.low b (by split <;> omega),hk.kind,hk.kindR⟩
theorem m0X:∀ (ops:List a0L) (t:b0c) (H:a0f),fl≤H.size→∀ {e t1 H1},e0R call fl ops t H=.fin e t1 H1→f0C fl H H1∧e=.normal
 | [],t,H,_,e,t1,H1,h=>by simp [e0R] at h;obtain ⟨rfl,rfl,rfl⟩:=h;exact ⟨f0C.refl,rfl⟩
 | o :: r,t,H,hfl,e,t1,H1,h=>by
  simp only [e0R] at h
  split at h
  ·split at h
   ·cases h
   ·cases h
   ·rename_i v H2 hs
    have k:=k0u hcall hfl hs
    obtain ⟨k2,he⟩:=m0X r _ H2 (f1Y hfl k.size) h
    exact ⟨k.trans k2 (f1I _),he⟩
  ·exact m0X r _ H hfl h
theorem f0p (bef:List Nat) (pairs:List (Nat × Nat)):∀ (ops:List a0L) (i:Nat) (t:b0c) (H:a0f) (p:Option (Nat × Value)) (log:List (List Nat × List Nat)),fl≤H.size →
  ∀ {e t1 H1},b0Q call fl bef pairs i ops t H p log=.fin e t1 H1→f0C fl H H1∧e=.normal
 | [],i,t,H,p,log,_,e,t1,H1,h=>by
  simp only [b0Q] at h
  split at h
  ·split at h
   ·cases h;exact ⟨f0C.refl,rfl⟩
   ·cases h
  ·cases h
 | o :: r,i,t,H,p,log,hfl,e,t1,H1,h=>by
  simp only [b0Q] at h
  split at h
  ·exact f0p bef pairs r _ _ H _ _ hfl h
  ·split at h
   ·split at h
    ·cases h
    ·split at h
     ·exact f0p bef pairs r _ _ H _ _ hfl h
     ·cases h
    ·rename_i v H2 hs
     have k:=k0u hcall hfl hs
     obtain ⟨k2,he⟩:=f0p bef pairs r _ _ H2 _ _ (f1Y hfl k.size) h
     exact ⟨k.trans k2 (f1I _),he⟩
   ·exact f0p bef pairs r _ _ H _ _ hfl h
theorem c0m:∀ (n:Nat) (c:SCode) (t:b0c) (H:a0f),fl≤H.size→∀ {e t1 H1},b0d call fl n c t H=.fin e t1 H1→f0C fl H H1
 | 0,_,_,_,_,_,_,_,h=>by simp [b0d] at h
 | n + 1,c,t,H,hfl,e,t1,H1,h=>by
  cases c <;> simp only [b0d] at h
  case skip=>cases h;exact f0C.refl
  case exit=>cases h;exact f0C.refl
  case ret=>cases h;exact f0C.refl
  case seq a b =>
   split at h
   ·rename_i t2 H2 ha
    have k:=c0m n a t H hfl ha
    exact k.trans (c0m n b t2 H2 (f1Y hfl k.size) h) (f1I _)
   ·exact c0m n a t H hfl h
  case cond c a b =>
   split at h
   ·exact c0m n a t H hfl h
   ·exact c0m n b t H hfl h
   ·cases h
  case block id c =>
   split at h
   ·rename_i id' t2 H2 hc
    have k:=c0m n c t H hfl hc
    split at h <;> (cases h;exact k)
   ·exact c0m n c t H hfl h
  case loop c =>
   split at h
   ·rename_i t2 H2 hc
    have k:=c0m n c t H hfl hc
    exact k.trans (c0m n (.loop c) t2 H2 (f1Y hfl k.size) h) (f1I _)
   ·exact c0m n c t H hfl h
  case reg ops=>exact (m0X hcall ops t H hfl h).1
  case draw ops bef pairs=>exact (f0p hcall bef pairs ops 0 t H none [] hfl h).1
end
theorem h0u (E:Env):∀ n,h0t (b0o E n)
 | 0=>fun _ _ _ _ _ _ h=>by simp [b0o] at h
 | n + 1=>fun fl f args H v H1 h hfl=>by
  simp only [b0o] at h
  split at h
  ·split at h
   ·simp at h;obtain ⟨_,rfl⟩:=h;exact f0C.refl
   split at h
   ·split at h
    ·split at h
     ·rename_i q hq hfq p s
      split at h
      case isFalse=>cases h
      unfold d0N at h
      split at h
      ·cases h
      ·simp at h;obtain ⟨_,rfl⟩:=h;exact f0C.refl
      ·cases h
      ·rename_i vs H2 hc
       split at h
       ·split at h
        case isFalse=>cases h
        simp at h;obtain ⟨_,rfl⟩:=h
        have k:=h0u E n _ _ _ _ _ _ hc (by omega)
        exact ⟨k.size,fun b hb=>k.low b (by omega),k.kind,k.kindR⟩
       ·cases h
      ·cases h
     ·cases h
    ·cases h
   ·cases h
  ·split at h
   ·split at h
    ·cases h
    ·cases h
    ·rename_i e t1 H2 hx
     have k:=c0m (h0u E n) n _ _ H hfl hx
     split at h
     ·cases h
     ·split at h
      ·simp at h;obtain ⟨_,rfl⟩:=h;exact k
      ·cases h
   ·cases h
end
section
open Go
variable {H H' H1 G G1:a0f} {fl:Nat} {t:b0c} {so:SOp}
structure Par (H H1 G G1:a0f):Prop where
 size:G1.size=H1.size
 same:∀ b,b < H.size→H1.blk b=H.blk b→G1.blk b=G.blk b
 diff:∀ b,b < H.size→H1.blk b ≠ H.blk b→G1.blk b=H1.blk b
 more:∀ b,H.size≤b→G1.blk b=H1.blk b
theorem i0d {H:a0f} {b:Nat} (h:H.size≤b):H.blk b=.dead:=by
 simp only [a0f.blk,f1U]
 rw [h1I h];rfl
theorem Par.refl (hs:G.size=H.size):Par H H G G :=
 ⟨hs,fun _ _ _=>rfl,fun _ _ h=>g1g rfl h,fun b hb=>by rw [i0d hb,i0d (by omega)]⟩
theorem Par.push (hs:G.size=H.size) (r:Blk):Par H (H.push r) G (G.push r) :=
 ⟨by simp [hs],fun b hb _=>by rw [a0K,f1K (by omega)],fun b hb h=>by rw [a0K,f1K (by omega)] at h;exact g1g rfl h,fun b hb=>by
  rw [a0K,a0K,hs]
  split
  ·rfl
  ·rw [i0d (show G.size≤b by omega),i0d hb]⟩
theorem Par.set (hs:G.size=H.size) {c:Nat} (hc:c < H.size) (hk:G.blk c=H.blk c) (r:Blk):Par H (H.setIfInBounds c r) G (G.setIfInBounds c r) :=
 ⟨by simp [hs],fun b hb h=>by
  rw [b0a _ _ _ _ hc] at h;rw [b0a _ _ _ _ (by omega)]
  split at h
  ·rename_i hbc;subst hbc;rw [f1N rfl,h,hk]
  ·rename_i hbc;rw [f1K hbc],fun b hb h=>by
  rw [b0a _ _ _ _ hc] at h ⊢;rw [b0a _ _ _ _ (by omega)]
  split at h
  ·rename_i hbc;rw [f1N hbc,f1N hbc]
  ·exact g1g rfl h,fun b hb=>by
  rw [b0a _ _ _ _ hc,b0a _ _ _ _ (by omega),f1K (by omega),f1K (by omega),i0d hb,i0d (by omega)]⟩
theorem Par.move (hs:G.size=H.size) {c:Nat} (hc:c < H.size) (hk:G.blk c=H.blk c) (r s:Blk):Par H ((H.setIfInBounds c r).push s) G ((G.setIfInBounds c r).push s):=by
 have p:=Par.set hs hc hk r
 have sz1:(H.setIfInBounds c r).size=H.size:=by simp
 have sz2:(G.setIfInBounds c r).size=G.size:=by simp
 refine ⟨by simp [hs],fun b hb h=>?_,fun b hb h=>?_,fun b hb=>?_⟩
 ·rw [a0K,f1K (by omega)] at h ⊢;exact p.same b hb h
 ·rw [a0K,f1K (by omega)] at h ⊢;rw [a0K,f1K (by omega)];exact p.diff b hb h
 ·rw [a0K,a0K,sz1,sz2,hs]
  split
  ·rfl
  ·exact p.more b hb
theorem i0q {b off n:Nat} (h:G.blk b=H.blk b):G.cells? b off n=H.cells? b off n:=by unfold a0f.cells?;rw [h]
theorem A0F {v:Value} (h:opA fl t H so=.val v H1) (hs:G.size=H.size) (hfp:∀ b,b ∈ (c0Y t so).1 ∨ b ∈ (c0Y t so).2→G.blk b=H.blk b) :
  ∃ G1,opA fl t G so=.val v G1∧Par H H1 G G1:=by
 have opt:∀ {x y:Option Value},b0H H x=.val v H1→y=x→∃ G1,b0H G y=.val v G1∧Par H H1 G G1:=fun {x y} hx hxy=>by
  subst hxy
  cases y with
  | none=>simp [b0H] at hx
  | some u=>simp [b0H] at hx;obtain ⟨rfl,rfl⟩:=hx;exact ⟨G,rfl,Par.refl hs⟩
 cases so <;> simp only [opA] at h ⊢
 case mv=>simp at h;obtain ⟨rfl,rfl⟩:=h;exact ⟨G,rfl,Par.refl hs⟩
 case pick=>split at h <;> simp at h <;> (obtain ⟨rfl,rfl⟩:=h;exact ⟨G,rfl,Par.refl hs⟩)
 case alloc=>simp at h;obtain ⟨rfl,rfl⟩:=h;rw [hs];exact ⟨_,rfl,Par.push hs _⟩
 case box=>simp at h;obtain ⟨rfl,rfl⟩:=h;rw [hs];exact ⟨_,rfl,Par.push hs _⟩
 case build=>exact opt h rfl
 case lit=>split at h <;> simp at h;obtain ⟨rfl,rfl⟩:=h;rw [hs];exact ⟨_,rfl,Par.push hs _⟩
 case load agg n a =>
  refine opt h ?_
  unfold b0y
  split
  ·rename_i p hp
   have hb:G.blk p.block=H.blk p.block:=hfp _ (.inl (by simp [c0Y,hp,blkOf]))
   rw [i0q hb]
  ·rfl
 case store n a x =>
  split at h
  ·rename_i p hp
   have hb:G.blk p.block=H.blk p.block:=hfp _ (.inr (by simp [c0Y,hp,blkOf]))
   split at h
   ·cases h
   ·rename_i hc
    rw [f1K hc]
    split at h
    ·rename_i H2 hw
     simp at h;obtain ⟨rfl,rfl⟩:=h
     unfold a0f.write? at hw ⊢
     rw [hb]
     split at hw
     ·rename_i e cs hk
      split at hw
      ·rename_i hc2;cases hw
       rw [f1N hc2]
       exact ⟨_,rfl,Par.set hs (a0l hk) hb _⟩
      ·cases hw
     ·cases hw
    ·cases h
  ·cases h
 case chk=>split at h <;> simp at h <;> (obtain ⟨rfl,rfl⟩:=h;exact ⟨G,rfl,Par.refl hs⟩)
 case bin=>exact opt h rfl
 case un=>exact opt h rfl
 case conv=>split at h <;> simp at h;obtain ⟨rfl,rfl⟩:=h;exact ⟨G,rfl,Par.refl hs⟩
 case iface=>simp at h;obtain ⟨rfl,rfl⟩:=h;exact ⟨G,rfl,Par.refl hs⟩
 case mkfn=>simp at h;obtain ⟨rfl,rfl⟩:=h;exact ⟨G,rfl,Par.refl hs⟩
 case mk =>
  split at h
  ·split at h
   ·rename_i hc;simp at h;obtain ⟨rfl,rfl⟩:=h;rw [f1N hc,hs];exact ⟨_,rfl,Par.push hs _⟩
   ·cases h
  ·cases h
 case sl e size x lo hi mx =>
  have he:elemOk G e (ev t x)=elemOk H e (ev t x):=by
   unfold elemOk
   split
   ·rename_i p _ _ hp
    have hb:G.blk p.block=H.blk p.block:=hfp _ (.inl (by simp [c0Y,hp,blkOf]))
    rw [hb]
   ·rfl
  rw [he]
  split at h
  ·cases h
  ·rename_i hc;rw [f1K hc];exact opt h rfl
 case fa =>
  split at h
  ·split at h
   ·cases h
   ·rename_i hc;simp at h;obtain ⟨rfl,rfl⟩:=h;rw [f1K hc];exact ⟨G,rfl,Par.refl hs⟩
  ·cases h
 case fa0 e x =>
  split at h
  ·rename_i p hp
   have hb:G.blk p.block=H.blk p.block:=hfp _ (.inl (by simp [c0Y,hp,blkOf]))
   rw [hb]
   split at h
   ·split at h
    ·rename_i hc;simp at h;obtain ⟨rfl,rfl⟩:=h;rw [f1N hc];exact ⟨G,rfl,Par.refl hs⟩
    ·cases h
   ·cases h
  ·cases h
 case fld=>exact opt h rfl
 case ia =>
  split at h
  ·split at h
   ·rename_i hc;simp at h;obtain ⟨rfl,rfl⟩:=h;rw [f1N hc];exact ⟨G,rfl,Par.refl hs⟩
   ·cases h
  ·cases h
 case ext =>
  split at h
  ·exact opt h rfl
  ·cases h
 case call=>cases h
 case callv=>split at h <;> cases h
 case inv =>
  split at h
  ·split at h <;> cases h
  ·cases h
 case len=>split at h <;> simp at h;obtain ⟨rfl,rfl⟩:=h;exact ⟨G,rfl,Par.refl hs⟩
 case mnx=>exact opt h rfl
 case app e size bytes s x =>
  cases hap:j0M fl H e size bytes (ev t s) (ev t x) with
  | none=>simp [hap,g0g] at h
  | some r =>
   obtain ⟨rv,rH⟩:=r
   simp only [hap,g0g,OpRes.val.injEq] at h
   obtain ⟨rfl,rfl⟩:=h
   unfold j0M at hap ⊢
   split at hap
   ·rename_i base len cap xb n xc e1 e2
    split at hap
    ·rename_i hn;cases hap;rw [f1N hn];exact ⟨G,rfl,Par.refl hs⟩
    ·rename_i hn;rw [f1K hn]
     split at hap
     ·rename_i hbd;rw [f1N hbd]
      split at hap
      ·cases hap
      ·rename_i xp
       have hbx:G.blk xp.block=H.blk xp.block:=hfp _ (.inl (by simp [c0Y,e2,blkOf]))
       simp only [i0q hbx]
       split at hap
       ·cases hap
       ·rename_i new hnew
        try simp only []
        split at hap
        ·cases hap
        rename_i hpl;rw [f1K hpl]
        split at hap
        ·split at hap
         ·rename_i hz;cases hap;rw [f1N hz,hs];exact ⟨_,rfl,Par.push hs _⟩
         ·cases hap
        ·rename_i sp
         split at hap
         ·rename_i h00;cases hap;rw [f1N h00,hs];exact ⟨_,rfl,Par.push hs _⟩
         rename_i h00;rw [f1K h00]
         have hbs:G.blk sp.block=H.blk sp.block:=hfp _ (.inr (by simp only [c0Y,e1,blkW];rw [f1K h00];simp))
         simp only [i0q hbs]
         split at hap
         ·cases hap
         ·rename_i old hold
          try simp only []
          split at hap
          ·rename_i hc;cases hap;rw [f1N hc,hs];exact ⟨_,rfl,Par.push hs _⟩
          ·rename_i hc;rw [f1K hc,hbs]
           split at hap
           ·rename_i e' cs hk
            try simp only []
            split at hap
            ·rename_i hc2;cases hap;rw [f1N hc2,hs];exact ⟨_,rfl,Par.move hs (a0l hk) hbs _ _⟩
            ·cases hap
           ·cases hap
     ·cases hap
   ·cases hap
 case pan=>split at h <;> cases h
theorem i0h {f:FuncId} {args:List Value} {l:Bool} (h:opA fl t H so=.call f args l):∀ fl G,opA fl t G so=.call f args l:=by
 intro fl' G
 cases so <;> simp only [opA] at h ⊢
 case call=>simpa using h
 case callv=>split at h <;> simp_all
 case inv =>
  split at h
  ·split at h <;> simp_all
  ·cases h
 case ext=>split at h;(unfold b0H at h;split at h <;> cases h);cases h
 case app=>unfold g0g at h;split at h <;> cases h
 case store=>split at h;(split at h;cases h;(split at h <;> cases h));cases h
 case fa0=>split at h;(split at h;(split at h <;> cases h);cases h);cases h
 case sl=>split at h;cases h;(unfold b0H at h;split at h <;> cases h)
 all_goals first
  | (simp at h;done)
  | (unfold b0H at h;split at h <;> cases h)
  | (split at h <;> first | (cases h;done) | (split at h <;> cases h))
theorem f0L {v:Value} (h:opA fl t H so=.pan v):(∃ ty u,v=.iface ty u)∧∃ x,so=.pan x∧ev t x=v:=by
 cases so <;> simp only [opA] at h
 case pan x=>split at h <;> cases h;rename_i ty u hx;exact ⟨⟨_,_,rfl⟩,x,rfl,hx⟩
 case call=>cases h
 case callv=>split at h <;> cases h
 case inv =>
  split at h
  ·split at h <;> cases h
  ·cases h
 case ext=>split at h;(unfold b0H at h;split at h <;> cases h);cases h
 case app=>unfold g0g at h;split at h <;> cases h
 case store=>split at h;(split at h;cases h;(split at h <;> cases h));cases h
 case fa0=>split at h;(split at h;(split at h <;> cases h);cases h);cases h
 case sl=>split at h;cases h;(unfold b0H at h;split at h <;> cases h)
 all_goals first
  | (simp at h;done)
  | (unfold b0H at h;split at h <;> cases h)
  | (split at h <;> first | (cases h;done) | (split at h <;> cases h))
end
section
open Go
variable {X:Cx} {φ φ':Inj} {S:Shp} {H H':a0f} {w w':World} {fl:Nat} {t:b0c} {a:Act} {o:Oper} {so:SOp} {lone:Bool}
structure Pan (X:Cx) (fl:Nat) (φ:Inj) (H:a0f) (w:World) (w':World):Prop where
 shp:∀ B x,w.shape? B=some x→w'.shape? B=some x
 wsz:w.heap.size≤w'.heap.size
 os:w'.os=w.os
 tape:w'.tape=w.tape
 out:w'.output=w.output
 frame:∀ B,B < w.heap.size→(∀ b o e cs,φ b=some (B,o)→fl≤b→H.blk b ≠ .row false e cs)→w'.heap[B]? = w.heap[B]?
theorem Pan.after {fl1:Nat} {φ1:Inj} {H1:a0f} {w1 w2:World} (h:d0k X fl φ H w φ1 H1 w1) (k:Pan X fl1 φ1 H1 w1 w2) (hf:fl≤fl1) (hr:Rel X φ H w):Pan X fl φ H w w2 :=
 { shp := fun B x hb => k.shp _ _ (h.shp _ _ hb)
   wsz:=f1Y h.wsz k.wsz
   os:=k.os.trans h.os
   tape:=k.tape.trans h.tape
   out:=k.out.trans h.out
   frame:=fun B hB hno=>by
    rw [k.frame B (g1c hB h.wsz) ?_,h.frame B hB hno]
    intro b o e cs hb hfl hrow
    cases h1:φ b with
    | none =>
     rcases h.newB b B o hb h1 with h2 | ⟨b0,o0,e0,cs0,h2,h3,h4⟩
     ·omega
     ·exact hno b0 o0 e0 cs0 h2 h3 h4
    | some y =>
     have:=h.ext b y h1
     rw [hb] at this;cases this
     obtain ⟨cs0,h6⟩:=h.kind b e cs (hr.lt b _ h1) hrow
     exact hno b o e cs0 h1 (by omega) h6 }
theorem d0k.lower {fl1:Nat} (h:d0k X fl1 φ H w φ' H' w') (hf:fl≤fl1):d0k X fl φ H w φ' H' w' :=
 { h with
   keep:=fun b hb=>h.keep b (by omega)
   newB:=fun b B o hb hn=>by
    rcases h.newB b B o hb hn with h1 | ⟨b0,o0,e,cs,h1,h2,h3⟩
    ·exact .inl h1
    ·exact .inr ⟨b0,o0,e,cs,h1,by omega,h3⟩
   frame:=fun B hB hno=>h.frame B hB (fun b o e cs hb hfl=>hno b o e cs hb (by omega)) }
theorem Pan.lower {fl1:Nat} (h:Pan X fl1 φ H w w') (hf:fl≤fl1):Pan X fl φ H w w' :=
 { h with frame:=fun B hB hno=>h.frame B hB (fun b o e cs hb hfl=>hno b o e cs hb (by omega)) }
theorem Pan.same:Pan X fl φ H w w:=⟨fun _ _ h=>h,f1I _,rfl,rfl,rfl,fun _ _ _=>rfl⟩
def b1T:XA→Exit
 | .normal=>.normal
 | .exit id=>.exit id
 | .ret=>.ret
def J0F (X:Cx) (D:List Deferred) (fl:Nat) (φ:Inj) (H:a0f) (w:World):Out→Exit→Act→World→Prop
 | .bad,_,_,_=>False
 | .pan _,e,a',w'=>(∃ ty u,e=.panic [{ v:=.iface ty u,recovered:=false }])∧a'.defers=D∧Pan X fl φ H w w'
 | .fin x t' H',e,a',w'=>e=b1T x∧a'.defers=D∧∃ φ',CR X φ' w'.shape? t' a'.tmps.toList∧d0k X fl φ H w φ' H' w'
theorem J0F.after {D:List Deferred} {φ1:Inj} {H1:a0f} {w1 w2:World} {out:Out} {e:Exit} {a':Act} (h:d0k X fl φ H w φ1 H1 w1) (hr:Rel X φ H w) (k:J0F X D fl φ1 H1 w1 out e a' w2):J0F X D fl φ H w out e a' w2:=by
 cases out with
 | bad=>exact k
 | pan v=>exact ⟨k.1,k.2.1,Pan.after h k.2.2 (f1I _) hr⟩
 | fin x t' H' =>
  obtain ⟨h1,h2,φ',h3,h4⟩:=k
  exact ⟨h1,h2,φ',h3,h.trans h4 (f1I _) hr⟩
def d0T (X:Cx) (call:Nat→FuncId→List Value→a0f→Res (Value × a0f)):Prop :=
 ∀ (fl:Nat) (f:FuncId) (args:List Value) (H:a0f) (φ:Inj) (w:World) (args':Array Value),Rel X φ H w→CR X φ w.shape? args args'.toList→fl≤H.size →
  (∀ v H',call fl f args H=.ok (v,H')→z0c X.P f=true∧Calls X.P f args' w fun e w'=>∃ v' φ',e=.returned v'∧VR X φ' w'.shape? v v'∧d0k X fl φ H w φ' H' w') ∧
  (∀ v,call fl f args H=.pan v→(∃ ty u,v=.iface ty u)∧z0c X.P f=true ∧
   Calls X.P f args' w fun e w'=>(∃ ty u,e=.panicked [{ v:=.iface ty u,recovered:=false }])∧Pan X fl φ H w w')
section
variable {call:Nat→FuncId→List Value→a0f→Res (Value × a0f)}
theorem x0H {P:Program} {op:Op} {x:Opd} (hc:cOp P lone op=some (.pan x)):∃ x0,op=.panic x0∧c0M x0=some x:=by
 cases op
 case panic x0 =>
  simp only [cOp,f1P,f1J,f1R,f1L,SOp.pan.injEq] at hc
  obtain ⟨x',h1,rfl⟩:=hc
  exact ⟨x0,rfl,h1⟩
 case call c =>
  exfalso
  obtain ⟨callee,args,ats⟩:=c
  cases callee with
  | value f=>cases f <;> simp only [cOp] at hc <;> (try split at hc) <;> simp [f1J] at hc
  | invoke r n=>simp [cOp,f1J] at hc
  | builtin b =>
   simp only [cOp] at hc
   split at hc
   ·simp [f1J] at hc
   ·simp [f1J] at hc
   ·simp [f1J] at hc
   ·simp only [f1P,f1J] at hc
    obtain ⟨_,_,_,_,_,_,hc⟩:=hc
    split at hc
    ·simp [f1J] at hc
    ·cases hc
   ·cases hc
 all_goals
  exfalso
  simp only [cOp,h1J,f1P,f1J,f1R,f1L,reduceCtorEq,and_false,exists_const,exists_false] at hc
  try (repeat' (first | (simp only [f1J,f1L,reduceCtorEq,and_false,exists_const,exists_false] at hc;done) | (obtain ⟨_,_,hc⟩:=hc) | (split at hc)))
theorem v0j {P:Program} {K K':Act→World→Prop} {Q Q':Exit→Act→World→Prop} (hk:∀ a w,K a w→K' a w) (hq:∀ e a w,Q e a w→Q' e a w) (h:o.wp P a w K Q):o.wp P a w K' Q':=by
 unfold Oper.wp at *
 generalize (execOp a.eval o).run P w=r at *
 cases r with
 | ok n w' =>
  cases n <;> simp only [Oper.upon] at h ⊢ <;>
   first
    | exact hk _ _ h
    | exact Calls.mono h (fun e w'' he=>by cases e <;> first | exact hk _ _ he | exact hq _ _ _ he | (obtain ⟨a1,w1,h1⟩:=he;exact ⟨a1,w1,hq _ _ _ h1⟩))
    | exact Rows.mono h (fun _ _ he=>hk _ _ he)
 | halt x w'=>cases x <;> simp only [Oper.upon] at h ⊢ <;> exact hq _ _ _ h
theorem LetsOut.mono {Q Q':Exit→Act→World→Prop} (hq:∀ e a w,Q e a w→Q' e a w) (h:LetsOut Q):LetsOut Q':=by
 obtain ⟨a1,w1,h1⟩:=h;exact ⟨a1,w1,hq _ _ _ h1⟩
theorem c0Z {P:Program} {ops:Array Oper} {Q Q':Exit→Act→World→Prop} (hq:∀ e a w,Q e a w→Q' e a w):∀ {l:List Nat} {a:Act} {w:World},wpOps P ops Q l a w→wpOps P ops Q' l a w
 | [],_,_,h=>hq _ _ _ h
 | i :: r,a,w,h=>by
  unfold wpOps at h ⊢
  split at h
  ·exact c0Z hq h
  ·split at h
   ·rename_i hw
    rw [f1N hw]
    rcases h with h | ⟨h1,h2⟩
    ·exact .inl (v0j (fun _ _ h=>c0Z hq h) hq h)
    ·exact .inr ⟨h1,LetsOut.mono hq h2⟩
   ·rename_i hw
    rw [f1K hw]
    exact c0Z hq h
theorem l0w (hcall:d0T X call) (hc:cOp X.P lone o.op=some so) (hf:(a0y so).all a0Z=true) (hR:Rel X φ H w) (hT:CR X φ w.shape? t a.tmps.toList) (hfl:fl≤H.size)
  {v:Value} (h:b0D call fl t H so=.ok (v,H')) {K:Act→World→Prop} {Q:Exit→Act→World→Prop} (a2:Act) (he:execOp a2.eval o=execOp a.eval o)
  (hK:∀ φ' v' w',VR X φ' w'.shape? v v'→d0k X fl φ H w φ' H' w'→K (a2.put o.dst v') w'):o.wp X.P a2 w K Q:=by
 unfold b0D at h
 unfold Oper.wp
 rw [he]
 split at h
 ·cases h
 ·cases h
 ·rename_i v1 H1 hv
  simp only [Res.ok.injEq,h1C] at h;obtain ⟨rfl,rfl⟩:=h
  obtain ⟨φ',w',v',hr,hvr,hst⟩:=X0S hc hf hR hT hfl hv
  rcases hr with hr | ⟨rfl,hr⟩
  ·rw [hr];exact hK φ' v' w' hvr hst
  ·rw [hr];exact hK φ' _ w' hvr hst
 ·rename_i f args l hv
  obtain ⟨args',hca,hrun⟩:=A0G hc hf hT hv
  obtain ⟨hruns,hcalls⟩:=(hcall _ f args H φ w args' hR hca (show (if l=true then fl else max fl H.size)≤H.size by split <;> omega)).1 v H' h
  rw [hrun,d0D hruns]
  refine Calls.mono hcalls ?_
  rintro e w' ⟨v',φ',rfl,hvr,hst⟩
  exact hK φ' v' w' hvr (hst.lower (by split <;> omega))
theorem s0J (hcall:d0T X call) (hc:cOp X.P lone o.op=some so) (hf:(a0y so).all a0Z=true) (hR:Rel X φ H w) (hT:CR X φ w.shape? t a.tmps.toList) (hfl:fl≤H.size)
  {v:Value} (h:b0D call fl t H so=.pan v) {K:Act→World→Prop} {Q:Exit→Act→World→Prop} (a2:Act) (he:execOp a2.eval o=execOp a.eval o)
  (hQ:∀ ty u w',Pan X fl φ H w w'→Q (.panic [{ v:=.iface ty u,recovered:=false }]) a2 w'):o.wp X.P a2 w K Q:=by
 unfold b0D at h
 unfold Oper.wp
 rw [he]
 split at h
 ·cases h
 ·rename_i v1 hv
  obtain ⟨⟨ty,u,rfl⟩,x,rfl,hx⟩:=f0L hv
  obtain ⟨x0,ho,h1⟩:=x0H hc
  have hv:=b0K hT h1 (by simpa [a0y] using hf)
  rw [hx] at hv
  generalize hg:a.eval x0=g at hv
  cases hv with
  | iface _ _ u' hu =>
   have:(execOp a.eval o).run X.P w=.halt (.panic (.iface ty u')) w:=by simp [execOp,ho,hg,Instr.panic,goPanic]
   rw [this]
   exact hQ ty u' w Pan.same
 ·cases h
 ·rename_i f args l hv
  obtain ⟨args',hca,hrun⟩:=A0G hc hf hT hv
  obtain ⟨_,hruns,hcalls⟩:=(hcall _ f args H φ w args' hR hca (show (if l=true then fl else max fl H.size)≤H.size by split <;> omega)).2 v h
  rw [hrun,d0D hruns]
  refine Calls.mono hcalls ?_
  rintro e w' ⟨⟨ty,u,rfl⟩,hp⟩
  exact hQ ty u w' (hp.lower (by split <;> omega))
theorem n0k {ops:Array Oper} {sop:a0L} (hc:g0o X.P ops lone o=some sop) (hT:∀ d want,sop.g=some (d,want)→VR X φ S (get t d) (a.tmps.getD d undef)):Region.wanted o (yielded ops a.tmps)=b0g t sop.g:=by
 unfold g0o at hc
 simp only [f1P,f1J] at hc
 obtain ⟨op,_,hc⟩:=hc
 split at hc
 ·split at hc
  ·rename_i hg
   simp only [f1R,f1L] at hc;subst hc
   simp [Region.wanted,hg,b0g]
  ·rename_i j want hg
   simp only [f1P,f1J,f1R,f1L] at hc
   obtain ⟨oj,h1,d,h2,rfl⟩:=hc
   have hv:=hT d want rfl
   simp only [Region.wanted,hg,b0g,yielded,h1,Option.bind_some,h2,get]
   simp only [get] at hv
   have e1:a.tmps.getD d undef=(a.tmps[d]?).getD undef:=by simp
   rw [e1] at hv
   cases hd:a.tmps[d]? with
   | none =>
    rw [hd] at hv
    simp only [Option.getD_none] at hv
    generalize t.getD d undef=q at hv ⊢
    cases hv;rfl
   | some u =>
    rw [hd] at hv
    simp only [g1s] at hv
    generalize t.getD d undef=q at hv ⊢
    cases hv <;> first | rfl | simp
 ·cases hc
theorem p0d {ops:Array Oper} {sop:a0L} (hc:g0o X.P ops lone o=some sop) (hT:CR X φ w.shape? t a.tmps.toList):Region.wanted o (yielded ops a.tmps)=b0g t sop.g :=
 n0k hc (fun d _ _=>by rw [a0S];exact hT.get d)
theorem e0a {ops:Array Oper} {sop:a0L} (hc:g0o X.P ops lone o=some sop):cOp X.P lone o.op=some sop.op∧(a0y sop.op).all a0Z=true∧sop.dst=o.dst:=by
 unfold g0o at hc
 simp only [f1P,f1J] at hc
 obtain ⟨op,h1,hc⟩:=hc
 split at hc
 ·rename_i hf
  split at hc
  ·simp only [f1R,f1L] at hc;subst hc;exact ⟨h1,hf,rfl⟩
  ·simp only [f1P,f1J,f1R,f1L] at hc
   obtain ⟨oj,_,d,_,rfl⟩:=hc
   exact ⟨h1,hf,rfl⟩
 ·cases hc
theorem q0T (hcall:d0T X call) {D:List Deferred} {ops:Array Oper}:∀ (r:List a0L) (k:Nat) (t:b0c) (H:a0f) (φ:Inj) (w:World) (a:Act),
  (∀ i s,r[i]? = some s→∃ o,ops[k + i]? = some o∧g0o X.P ops true o=some s)→Rel X φ H w→CR X φ w.shape? t a.tmps.toList→fl≤H.size→a.defers=D→e0R call fl r t H ≠ .bad →
  wpOps X.P ops (J0F X D fl φ H w (e0R call fl r t H)) (List.range' k r.length) a w
 | [],k,t,H,φ,w,a,_,hR,hT,_,hd,_=>⟨rfl,hd,φ,hT,d0k.refl hR⟩
 | s :: r,k,t,H,φ,w,a,hops,hR,hT,hfl,hd,hne=>by
  obtain ⟨o,ho,hco⟩:=hops 0 s rfl
  simp only [g1M] at ho
  obtain ⟨hc,hf,hdst⟩:=e0a hco
  have hw:=p0d hco hT
  have hops':∀ i s',r[i]? = some s'→∃ o,ops[k + 1 + i]? = some o∧g0o X.P ops true o=some s':=fun i s' hi=>by
   obtain ⟨o',h1,h2⟩:=hops (i + 1) s' (by simpa using hi)
   exact ⟨o',by rw [← h1];congr 1;omega,h2⟩
  rw [g1O,i1q]
  unfold wpOps
  simp only [ho]
  simp only [e0R] at hne ⊢
  by_cases hwt:b0g t s.g=true
  ·rw [hw,f1N hwt]
   simp only [hwt,g1y] at hne ⊢
   refine .inl ?_
   cases hs:b0D call fl t H s.op with
   | bad=>simp [hs] at hne
   | pan v =>
    simp only [hs] at hne ⊢
    exact s0J hcall hc hf hR hT hfl hs a rfl (fun ty u w' hp=>⟨⟨ty,u,rfl⟩,hd,hp⟩)
   | ok vH =>
    obtain ⟨v,H1⟩:=vH
    simp only [hs] at hne ⊢
    refine l0w hcall hc hf hR hT hfl hs a rfl (fun φ' v' w' hvr hst=>?_)
    have hT':CR X φ' w'.shape? t a.tmps.toList:=hT.mono hst.ext hst.shp
    have ih:=q0T hcall (D:=D) r (k + 1) (put t s.dst v) H1 φ' w' (a.put o.dst v') hops' hst.rel (by rw [hdst];exact i0C hT' hvr o.dst) (f1Y hfl hst.hsz) (by rw [c0C];exact hd) hne
    exact c0Z (fun e a2 w2 h2=>J0F.after hst hR h2) ih
  ·rw [hw,f1K hwt]
   simp only [Bool.not_eq_true] at hwt
   simp only [hwt,g1h,g1L] at hne ⊢
   exact q0T hcall (D:=D) r (k + 1) (put t s.dst undef) H φ w (a.put o.dst undef) hops' hR (by rw [hdst];exact i0C hT VR.undef o.dst) hfl (by rw [c0C];exact hd) hne
end
end
section
open Go
variable {X:Cx} {φ φ':Inj} {S:Shp} {H H':a0f} {w w':World} {fl:Nat} {t:b0c} {a:Act}
section
variable {call:Nat→FuncId→List Value→a0f→Res (Value × a0f)}
def r0h (X:Cx) (call:Nat→FuncId→List Value→a0f→Res (Value × a0f)):Prop :=
 ∀ (ops:Array Oper) (l:List a0L) (bef:List Nat) (pairs:List (Nat × Nat)),z0w X.P ops=some (.draw l bef pairs) →
  ∀ (D:List Deferred) (fl:Nat) (t:b0c) (H:a0f) (φ:Inj) (w:World) (a:Act),Rel X φ H w→CR X φ w.shape? t a.tmps.toList→fl≤H.size→a.defers=D →
   b0Q call fl bef pairs 0 l t H none [] ≠ .bad→∀ id,(Code.region id ops true).wp X.P (J0F X D fl φ H w (b0Q call fl bef pairs 0 l t H none [])) a w
def k0A (P:Program) (c:Code) (Q:Exit→Act→World→Prop) (a:Act) (w:World):Prop :=
 ∀ (b:Frame) (k:List Item) (cs:List Frame),∃ e a' w',Q e a' w'∧Arrives P (lone (b.at a (.code c :: .inLoop c :: k)) cs w) b k cs e a' w'
theorem k0A.wp {P:Program} {c:Code} {Q:Exit→Act→World→Prop} (h:k0A P c Q a w):(Code.loop c).wp P Q a w :=
 fun b k cs=>let ⟨e,a',w',q,r⟩:=h b k cs;⟨e,a',w',q,.of_steps (.one step_loop) r⟩
theorem k0A.round {P:Program} {c:Code} {Q:Exit→Act→World→Prop} (h:c.wp P (Exit.then (k0A P c Q) Q) a w):k0A P c Q a w:=by
 intro b k cs
 obtain ⟨e,a₁,w₁,hq,harr⟩:=h b (.inLoop c :: k) cs
 cases e with
 | normal =>
  obtain ⟨e₂,a₂,w₂,hq₂,harr₂⟩:=hq b k cs
  exact ⟨e₂,a₂,w₂,hq₂,.of_steps (Steps.trans harr (.one step_inLoop)) harr₂⟩
 | exit id=>exact ⟨_,a₁,w₁,hq,.pass (x:=.inLoop c) rfl (fun _ _=>.inl (by simp)) harr⟩
 | goto l=>exact ⟨_,a₁,w₁,hq,.pass (x:=.inLoop c) rfl (fun _ _=>.inl (by simp)) harr⟩
 | ret=>exact ⟨_,a₁,w₁,hq,.pass (x:=.inLoop c) rfl (fun _ _=>.inl (by simp)) harr⟩
 | panic ch=>exact ⟨_,a₁,w₁,hq,.pass (x:=.inLoop c) rfl (fun _ _=>.inl (by simp)) harr⟩
 | outgrown=>exact ⟨_,a₁,w₁,hq,.pass (x:=.inLoop c) rfl (fun _ _=>.inl (by simp)) harr⟩
def wpx (P:Program) (c:Code) (Q:Exit→Act→World→Prop) (a:Act) (w:World):Prop :=
 match c with
 | .loop d=>k0A P d Q a w
 | c=>c.wp P Q a w
theorem wpx.wp {P:Program} {c:Code} {Q:Exit→Act→World→Prop} (h:wpx P c Q a w):c.wp P Q a w:=by
 cases c <;> first | exact k0A.wp h | exact h
theorem l0s {α β:Type} {f:α→Option β}:∀ {l:List α} {r:List β},l.mapM f=some r→∀ (i:Nat) (y:β),r[i]? = some y→∃ x,l[i]? = some x∧f x=some y
 | [],r,h,i,y,hi=>by simp at h;subst h;simp at hi
 | x :: l,r,h,i,y,hi=>by
  rw [i1b] at h
  simp only [f1P,f1J,f1R,f1L] at h
  obtain ⟨b,h1,bs,h2,rfl⟩:=h
  cases i with
  | zero=>simp at hi;subst hi;exact ⟨x,rfl,h1⟩
  | succ i=>obtain ⟨x',h3,h4⟩:=l0s h2 i y (by simpa using hi);exact ⟨x',by simpa using h3,h4⟩
theorem j0b {α β:Type} {f:α→Option β}:∀ {l:List α} {r:List β},l.mapM f=some r→r.length=l.length
 | [],r,h=>by simp at h;subst h;rfl
 | x :: l,r,h=>by
  rw [i1b] at h
  simp only [f1P,f1J,f1R,f1L] at h
  obtain ⟨b,h1,bs,h2,rfl⟩:=h
  simp [j0b h2]
theorem e0m (hcall:d0T X call) (hdraw:r0h X call) {D:List Deferred}:∀ (n:Nat) (c:Code) (c':SCode) (fl:Nat) (t:b0c) (H:a0f) (φ:Inj) (w:World) (a:Act),d0Z X.P c=some c'→Rel X φ H w →
  CR X φ w.shape? t a.tmps.toList→fl≤H.size→a.defers=D→b0d call fl n c' t H ≠ .bad→wpx X.P c (J0F X D fl φ H w (b0d call fl n c' t H)) a w
 | 0,c,c',fl,t,H,φ,w,a,_,_,_,_,_,hne=>g1g rfl hne
 | n + 1,c,c',fl,t,H,φ,w,a,hc,hR,hT,hfl,hd,hne=>by
  cases c with
  | skip =>
   simp only [d0Z,f1L] at hc;subst hc
   exact wp_skip ⟨rfl,hd,φ,hT,d0k.refl hR⟩
  | label l =>
   simp only [d0Z,f1L] at hc;subst hc
   exact wp_label ⟨rfl,hd,φ,hT,d0k.refl hR⟩
  | exit id =>
   simp only [d0Z,f1L] at hc;subst hc
   exact wp_exit ⟨rfl,hd,φ,hT,d0k.refl hR⟩
  | ret =>
   simp only [d0Z,f1L] at hc;subst hc
   exact wp_ret ⟨rfl,hd,φ,hT,d0k.refl hR⟩
  | seq x y =>
   simp only [d0Z,f1P,f1J,f1R,f1L] at hc
   obtain ⟨x',hx,y',hy,rfl⟩:=hc
   have hx1:b0d call fl n x' t H ≠ .bad:=fun e=>hne (by simp [b0d,e])
   have ih1:=(e0m hcall hdraw n x x' fl t H φ w a hx hR hT hfl hd hx1).wp
   refine wp_seq (wp_mono ih1 ?_)
   intro e a1 w1 hp
   simp only [b0d]
   cases hr:b0d call fl n x' t H with
   | bad=>exact g1g hr hx1
   | pan v =>
    rw [hr] at hp
    obtain ⟨⟨ty,u,rfl⟩,h2,h3⟩:=hp
    exact ⟨⟨ty,u,rfl⟩,h2,h3⟩
   | fin xx t1 H1 =>
    rw [hr] at hp
    obtain ⟨rfl,hd1,φ1,hT1,hst⟩:=hp
    cases xx with
    | normal =>
     have hne2:b0d call fl n y' t1 H1 ≠ .bad:=fun e=>hne (by simp [b0d,hr,e])
     have ih2:=(e0m hcall hdraw n y y' fl t1 H1 φ1 w1 a1 hy hst.rel hT1 (f1Y hfl hst.hsz) hd1 hne2).wp
     exact wp_mono ih2 (fun e a2 w2 h2=>J0F.after hst hR h2)
    | exit id=>exact ⟨rfl,hd1,φ1,hT1,hst⟩
    | ret=>exact ⟨rfl,hd1,φ1,hT1,hst⟩
  | cond c x y =>
   simp only [d0Z,f1P,f1J,f1R,f1L] at hc
   obtain ⟨c',hcc,hc⟩:=hc
   split at hc
   ·rename_i hflat
    simp only [f1J,f1L] at hc
    obtain ⟨x',hx,y',hy,rfl⟩:=hc
    have hv:=b0K hT hcc hflat
    simp only [b0d] at hne ⊢
    generalize hg:a.eval c=g at hv
    split at hne
    ·rename_i hb
     rw [hb] at hv;cases hv
     exact wp_cond_true hg (e0m hcall hdraw n x x' fl t H φ w a hx hR hT hfl hd hne).wp
    ·rename_i hb
     rw [hb] at hv;cases hv
     exact wp_cond_false hg (e0m hcall hdraw n y y' fl t H φ w a hy hR hT hfl hd hne).wp
    ·exact g1g rfl hne
   ·cases hc
  | block id c =>
   simp only [d0Z,f1P,f1J,f1R,f1L] at hc
   obtain ⟨x',hx,rfl⟩:=hc
   have hx1:b0d call fl n x' t H ≠ .bad:=fun e=>hne (by simp [b0d,e])
   have ih1:=(e0m hcall hdraw n c x' fl t H φ w a hx hR hT hfl hd hx1).wp
   refine wp_block (wp_mono ih1 ?_)
   intro e a1 w1 hp
   simp only [b0d]
   cases hr:b0d call fl n x' t H with
   | bad=>exact g1g hr hx1
   | pan v =>
    rw [hr] at hp
    obtain ⟨⟨ty,u,rfl⟩,h2,h3⟩:=hp
    exact ⟨⟨ty,u,rfl⟩,h2,h3⟩
   | fin xx t1 H1 =>
    rw [hr] at hp
    obtain ⟨rfl,hd1,φ1,hT1,hst⟩:=hp
    cases xx with
    | normal=>exact ⟨rfl,hd1,φ1,hT1,hst⟩
    | ret=>exact ⟨rfl,hd1,φ1,hT1,hst⟩
    | exit id' =>
     show Exit.inBlock id _ (.exit id') a1 w1
     unfold Exit.inBlock
     by_cases hid:id' = id
     ·simp only [hid,g1y];exact ⟨rfl,hd1,φ1,hT1,hst⟩
     ·simp only [hid,g1L];exact ⟨rfl,hd1,φ1,hT1,hst⟩
  | loop c =>
   simp only [d0Z,f1P,f1J,f1R,f1L] at hc
   obtain ⟨x',hx,rfl⟩:=hc
   have hx1:b0d call fl n x' t H ≠ .bad:=fun e=>hne (by simp [b0d,e])
   have ih1:=(e0m hcall hdraw n c x' fl t H φ w a hx hR hT hfl hd hx1).wp
   refine k0A.round (wp_mono ih1 ?_)
   intro e a1 w1 hp
   simp only [b0d]
   cases hr:b0d call fl n x' t H with
   | bad=>exact g1g hr hx1
   | pan v =>
    rw [hr] at hp
    obtain ⟨⟨ty,u,rfl⟩,h2,h3⟩:=hp
    exact ⟨⟨ty,u,rfl⟩,h2,h3⟩
   | fin xx t1 H1 =>
    rw [hr] at hp
    obtain ⟨rfl,hd1,φ1,hT1,hst⟩:=hp
    cases xx with
    | normal =>
     have hne2:b0d call fl n (.loop x') t1 H1 ≠ .bad:=fun e=>hne (by simp [b0d,hr,e])
     have ih2:=e0m hcall hdraw n (.loop c) (.loop x') fl t1 H1 φ1 w1 a1 (by simp [d0Z,hx]) hst.rel hT1 (f1Y hfl hst.hsz) hd1 hne2
     intro b k cs
     obtain ⟨e,a2,w2,h2,h3⟩:=ih2 b k cs
     exact ⟨e,a2,w2,J0F.after hst hR h2,h3⟩
    | exit id=>exact ⟨rfl,hd1,φ1,hT1,hst⟩
    | ret=>exact ⟨rfl,hd1,φ1,hT1,hst⟩
  | region id ops d =>
   cases d with
   | true =>
    simp only [d0Z] at hc
    have hc0:=hc
    unfold z0w at hc
    simp only [f1P,f1J] at hc
    obtain ⟨l,_,hc⟩:=hc
    split at hc
    ·simp only [f1R,f1L] at hc
     subst hc
     simp only [b0d] at hne ⊢
     exact hdraw ops _ _ _ hc0 D fl t H φ w a hR hT hfl hd hne id
    ·cases hc
   | false =>
    simp only [d0Z,f1P,f1J,f1R,f1L] at hc
    obtain ⟨l,hl,rfl⟩:=hc
    simp only [b0d] at hne ⊢
    refine wp_region ?_
    have hlen:ops.size=l.length:=by rw [j0b hl];simp
    rw [List.range_eq_range',hlen]
    exact q0T hcall l 0 t H φ w a (fun i s hi=>by
     obtain ⟨x,h1,h2⟩:=l0s hl i s hi
     exact ⟨x,by simpa using h1,h2⟩) hR hT hfl hd hne
  | _=>simp [d0Z] at hc
end
theorem A0v (hR:Rel X φ H w) {ty:TypeId} {n:Nat} {b:Bool} (hn:d0i X.P ty=some n) (hb:k0H X.P ty=some b) {v v' r:Value} (hv:VR X φ w.shape? v v') (hr:b0y H b n v=some r) :
  ∃ q r',v' = .pointer (some q)∧(loadVar ty q).run X.P w=.ok r' w∧VR X φ w.shape? r r':=by
 unfold b0y at hr
 split at hr
 ·rename_i p
  cases hv with
  | ptr _ q B o' h1 h2 h3 =>
   subst h3
   split at hr
   ·rename_i hbn;cases hr
    obtain ⟨rfl,rfl⟩:=hbn
    exact ⟨_,.agg #[],rfl,by simp [loadVar,g0F hb,d0t hn,loadCells,loadCellsFrom],VR.agg_iff.2 CR.nil⟩
   ·split at hr
    ·cases hr
    ·split at hr
     ·rename_i cs hcs
      obtain ⟨hlen,cs',hl',hcr,hcell⟩:=hR.cells h2 hcs
      cases b with
      | true =>
       simp only [g1y] at hr hlen hl';cases hr
       have hld:=run_loadCells_list (P:=X.P) w ⟨B,o' + p.off,none⟩ cs' (l0J hcell)
       rw [hl'] at hld
       exact ⟨_,.agg cs'.toArray,rfl,by simp [loadVar,g0F hb,d0t hn,hld],VR.agg_iff.2 (by simpa using hcr)⟩
      | false =>
       simp only [g1h,g1L] at hr hlen hl'
       cases cs with
       | nil=>simp at hlen
       | cons u r' =>
        simp only [List.head?_cons,f1L] at hr;subst hr
        obtain ⟨u',r2,rfl,hu,_⟩:=hcr.cons_left
        have hc0:=hcell 0 u' rfl
        simp only [g1M] at hc0
        exact ⟨_,u',rfl,by simp [loadVar,g0F hb,hc0],hu⟩
     ·cases hr
 ·cases hr
def m0Z (tmps:Array Value):ResultVar→Sem Value
 | .tmp t=>pure (tmps.getD t undef)
 | .cell a t=>do loadVar t (← asAddr (tmps.getD a undef))
theorem J0g {sr:List SRes}:∀ {rs:List ResultVar} {vs:List Value},rs.mapM (W0P X.P)=some sr→e0y H t sr=some vs→Rel X φ H w→CR X φ w.shape? t a.tmps.toList →
  ∃ vs',CR X φ w.shape? vs vs'∧(rs.mapM (m0Z a.tmps)).run X.P w=.ok vs' w:=by
 induction sr with
 | nil =>
  intro rs vs h h2 hR hT
  have:rs=[]:=by have:=j0b h;exact g1p.1 this.symm
  subst this
  simp [e0y] at h2;subst h2
  exact ⟨[],CR.nil,by simp⟩
 | cons s sr ih =>
  intro rs vs h h2 hR hT
  cases rs with
  | nil=>simp at h
  | cons r rs =>
   rw [i1b] at h
   simp only [f1P,f1J,f1R,f1L] at h
   obtain ⟨s',h3,sr',h4,h5⟩:=h
   cases h5
   simp only [e0y] at h2
   split at h2
   ·rename_i v vs2 h6 h7
    cases h2
    obtain ⟨vs',hvs,hrun⟩:=ih h4 h7 hR hT
    rw [i1b,Sem.run_bind]
    cases r with
    | tmp i =>
     simp only [W0P,f1L] at h3;subst h3
     simp only [r0f,f1L] at h6;subst h6
     refine ⟨a.tmps.getD i undef :: vs',CR.cons ?_ hvs,by simp only [m0Z,Sem.run_pure,Result.andThen_ok,Sem.run_bind,hrun]⟩
     rw [a0S];exact hT.get i
    | cell c ty =>
     simp only [W0P,f1P,f1J,f1R,f1L] at h3
     obtain ⟨b,hb,n,hn,rfl⟩:=h3
     simp only [r0f] at h6
     obtain ⟨q,v'',hq,hrun2,hvr⟩:=A0v hR hn hb (hT.get c) h6
     rw [← a0S] at hq
     exact ⟨v'' :: vs',CR.cons hvr hvs,by
      have hsa:(asAddr (a.tmps.getD c undef)).run X.P w=.ok q w:=by rw [hq];rfl
      simp only [m0Z,hsa,hrun2,Result.andThen_ok,Sem.run_bind,hrun,Sem.run_pure]⟩
   ·cases h2
theorem v0X {vs vs':List Value} (h:CR X φ S vs vs'):VR X φ S (d0h vs) (if h:vs'.toArray.size=1 then vs'.toArray[0] else .tuple vs'.toArray):=by
 cases vs with
 | nil=>rw [h.nil_left];exact VR.tuple_iff.2 CR.nil
 | cons v r =>
  obtain ⟨v',r',rfl,hv,hr⟩:=h.cons_left
  cases r with
  | nil=>rw [hr.nil_left];simpa [d0h] using hv
  | cons u r2 =>
   obtain ⟨u',r3,rfl,_,_⟩:=hr.cons_left
   simp only [d0h]
   rw [dif_neg (by simp)]
   exact VR.tuple_iff.2 (by simpa using h)
def v0n (call:Nat→FuncId→List Value→a0f→Res (Value × a0f)):Prop:=∀ fl f args H v,call fl f args H=.pan v→∃ ty u,v=.iface ty u
section
variable {call:Nat→FuncId→List Value→a0f→Res (Value × a0f)} (hp:v0n call)
include hp
theorem h0o {so:SOp} {v:Value} (h:b0D call fl t H so=.pan v):∃ ty u,v=.iface ty u:=by
 unfold b0D at h
 split at h
 ·cases h
 ·rename_i v1 hv;simp only [Res.pan.injEq] at h;subst h;exact (f0L hv).1
 ·cases h
 ·exact hp _ _ _ _ _ h
theorem f0k:∀ (r:List a0L) (t:b0c) (H:a0f) {v:Value},e0R call fl r t H=.pan v→∃ ty u,v=.iface ty u
 | [],t,H,v,h=>by simp [e0R] at h
 | s :: r,t,H,v,h=>by
  simp only [e0R] at h
  split at h
  ·split at h
   ·cases h
   ·rename_i v1 hs;simp only [Out.pan.injEq] at h;subst h;exact h0o hp hs
   ·exact f0k r _ _ h
  ·exact f0k r _ _ h
theorem c0P (bef:List Nat) (pairs:List (Nat × Nat)):∀ (r:List a0L) (i:Nat) (t:b0c) (H:a0f) (p:Option (Nat × Value)) (log:List (List Nat × List Nat)) {v:Value},
  (∀ j u,p=some (j,u)→∃ ty x,u=.iface ty x)→b0Q call fl bef pairs i r t H p log=.pan v→∃ ty u,v=.iface ty u
 | [],i,t,H,p,log,v,hpp,h=>by
  simp only [b0Q] at h
  split at h
  ·split at h
   ·cases h
   ·rename_i j u;simp only [Out.pan.injEq] at h;subst h;exact hpp _ _ rfl
  ·cases h
 | s :: r,i,t,H,p,log,v,hpp,h=>by
  simp only [b0Q] at h
  split at h
  ·exact c0P bef pairs r _ _ _ _ _ hpp h
  ·split at h
   ·split at h
    ·cases h
    ·rename_i v1 hs
     split at h
     ·refine c0P bef pairs r _ _ _ _ _ ?_ h
      intro j u hju;cases hju;exact h0o hp hs
     ·cases h
    ·exact c0P bef pairs r _ _ _ _ _ hpp h
   ·exact c0P bef pairs r _ _ _ _ _ hpp h
theorem c0e:∀ (n:Nat) (c:SCode) (t:b0c) (H:a0f) {v:Value},b0d call fl n c t H=.pan v→∃ ty u,v=.iface ty u
 | 0,c,t,H,v,h=>by simp [b0d] at h
 | n + 1,c,t,H,v,h=>by
  cases c <;> simp only [b0d] at h
  case skip=>cases h
  case exit=>cases h
  case ret=>cases h
  case seq a b =>
   split at h
   ·exact c0e n b _ _ h
   ·exact c0e n a _ _ h
  case cond c a b =>
   split at h
   ·exact c0e n a _ _ h
   ·exact c0e n b _ _ h
   ·cases h
  case block id c =>
   split at h
   ·split at h <;> cases h
   ·exact c0e n c _ _ h
  case loop c =>
   split at h
   ·exact c0e n (.loop c) _ _ h
   ·exact c0e n c _ _ h
  case reg ops=>exact f0k hp _ _ _ h
  case draw ops bef pairs=>exact c0P hp bef pairs _ _ _ _ _ _ (fun _ _ e=>by cases e) h
end
theorem g0H (E:Env):∀ n,v0n (b0o E n)
 | 0=>fun _ _ _ _ _ h=>by simp [b0o] at h
 | n + 1=>fun fl f args H v h=>by
  simp only [b0o] at h
  split at h
  ·split at h
   ·cases h
   split at h
   ·split at h
    ·split at h
     ·split at h
      case isFalse=>cases h
      unfold d0N at h
      split at h
      ·cases h
      ·cases h
      ·cases h
      ·split at h
       ·split at h <;> cases h
       ·cases h
      ·cases h
     ·cases h
    ·cases h
   ·cases h
  ·split at h
   ·split at h
    ·cases h
    ·rename_i v1 hx
     simp only [Res.pan.injEq] at h;subst h
     exact c0e (g0H E n) n _ _ _ hx
    ·split at h
     ·cases h
     ·split at h <;> cases h
   ·cases h
structure W0g (X:Cx) (E:Env):Prop where
 code:∀ f sf,E.code f=some sf→b0j X.P f=some sf
 mixed:X.P.follows .mixedOrders=true
def S0V (X:Cx) (E:Env):Prop:=∀ f v,E.known.lookup f=some v→d0T X fun _ g args H=>if g=f∧args=[] then .ok (v,H) else .bad
def z0j (X:Cx) (E:Env):Prop :=
 ∀ q,E.quick=some q→∀ call,d0T X call→h0t call→d0T X fun fl f args H =>
  if f=q.f then match args with | [.agg p,.agg s]=>(if p.size=q.np∧s.size=q.ns then d0N q.zero H (call (max fl H.size) q.solved [.agg #[],.agg p,.agg s] H) else .bad) | _=>.bad else .bad
theorem v0z (E:Env) (hE:W0g X E) (hkn:S0V X E) (hq:z0j X E) (hdraw:∀ call,d0T X call→h0t call→r0h X call):∀ n,d0T X (b0o E n)
 | 0=>fun _ _ _ _ _ _ _ _ _ _=>⟨fun _ _ h=>by simp [b0o] at h,fun _ h=>by simp [b0o] at h⟩
 | n + 1=>fun fl f args H φ w args' hR hA hfl=>by
  have ih:=v0z E hE hkn hq hdraw n
  have hk:=h0u E n
  cases hcode:E.code f with
  | none =>
   cases hkw:E.know f args with
   | some v =>
    have hargs:args=[]:=by
     cases args with
     | nil=>rfl
     | cons x r=>simp [Env.know] at hkw
    have hl:E.known.lookup f=some v:=by rw [hargs] at hkw;simpa [Env.know] using hkw
    have h1:=hkn f v hl fl f args H φ w args' hR hA hfl
    simp only [b0o,hcode,hkw]
    simp only [hargs,and_self,g1y] at h1 ⊢
    exact h1
   | none =>
   cases hqk:E.quick with
   | none=>exact ⟨fun _ _ h=>by simp [b0o,hcode,hkw,hqk] at h,fun _ h=>by simp [b0o,hcode,hkw,hqk] at h⟩
   | some q =>
    have h1:=hq q hqk (b0o E n) ih hk fl f args H φ w args' hR hA hfl
    simp only [b0o,hcode,hkw,hqk]
    exact h1
  | some sf =>
   have hcf:=hE.code f sf hcode
   unfold b0j at hcf
   cases hfn:X.P.funcs[f]? with
   | none=>simp [hfn] at hcf
   | some fn =>
    simp only [hfn] at hcf
    cases hb:fn.body with
    | none=>simp [hb] at hcf
    | some c =>
     simp only [hb] at hcf
     split at hcf
     ·cases hcf
     rename_i hruns
     have hruns:z0c X.P f=true:=by simpa using hruns
     simp only [f1P,f1J] at hcf
     obtain ⟨res,hres,body,hbody,hcf⟩:=hcf
     split at hcf
     ·rename_i hnt
      simp only [f1R,f1L] at hcf;subst hcf
      by_cases hlen:args.length=fn.params.size + fn.nfree
      ·have hlen':args'.size=args.length:=by have:=hA.1;simpa using this.symm
       -- the frame at the call's entry
       have hT:CR X φ w.shape? (args ++ List.replicate (fn.ntmps - args.length) undef) (args' ++ Array.replicate (fn.ntmps - args'.size) undef).toList:=by
        rw [hlen']
        have:(args' ++ Array.replicate (fn.ntmps - args.length) undef).toList=args'.toList ++ List.replicate (fn.ntmps - args.length) undef:=by simp
        rw [this]
        refine hA.append ?_
        generalize fn.ntmps - args.length=m
        induction m with
        | zero=>exact CR.nil
        | succ m ih=>exact CR.cons VR.undef ih
       have hx:=fun hne=>(e0m ih (hdraw _ ih hk) n c body fl _ H φ w { tmps:=args' ++ Array.replicate (fn.ntmps - args'.size) undef,defers:=[] } hbody hR hT hfl rfl hne).wp
       cases hr:b0d (b0o E n) fl n body (args ++ List.replicate (fn.ntmps - args.length) undef) H with
       | bad =>
        refine ⟨fun _ _ h=>?_,fun _ h=>?_⟩
        ·simp only [b0o,hcode] at h;rw [f1N hlen,hr] at h;cases h
        ·simp only [b0o,hcode] at h;rw [f1N hlen,hr] at h;cases h
       | pan v0 =>
        rw [hr] at hx
        have hx:=hx (by simp)
        refine ⟨fun _ _ h=>?_,fun v h=>?_⟩
        ·simp only [b0o,hcode] at h;rw [f1N hlen,hr] at h;cases h
        ·simp only [b0o,hcode] at h;rw [f1N hlen,hr] at h
         simp only [Res.pan.injEq] at h;subst h
         refine ⟨c0e (g0H E n) n body _ H hr,hruns,calls_of_wp hfn hb (wp_mono hx ?_)⟩
         rintro e a' w' ⟨⟨ty,u,rfl⟩,hd,hp⟩
         exact ⟨hd,⟨ty,u,rfl⟩,hp⟩
       | fin e t1 H1 =>
        rw [hr] at hx
        have hx:=hx (by simp)
        refine ⟨fun v H' h=>?_,fun v h=>?_⟩
        ·simp only [b0o,hcode] at h;rw [f1N hlen,hr] at h
         refine ⟨hruns,calls_of_wp hfn hb (wp_mono hx ?_)⟩
         rintro e2 a' w' ⟨rfl,hd,φ',hT',hst⟩
         have key:∀ vs,e0y H1 t1 res=some vs→v=d0h vs→H' = H1→∃ v',(results fn a'.tmps).run X.P w' = .ok v' w' ∧
           ∃ v2 φ',Ending.returned v' = .returned v2∧VR X φ' w'.shape? v v2∧d0k X fl φ H w φ' H' w':=by
          intro vs hvs hv hH
          subst hv hH
          obtain ⟨vs',hcr,hrun⟩:=J0g hres hvs hst.rel hT'
          refine ⟨_,?_,_,φ',rfl,v0X hcr,hst⟩
          have e1:results fn a'.tmps=(do let vs ← fn.results.mapM (m0Z a'.tmps);pure (if h:vs.size=1 then vs[0] else .tuple vs)):=rfl
          rw [e1,i1n]
          simp only [Sem.run_bind,Sem.run_map,hrun]
          rfl
         cases e with
         | exit id=>cases h
         | normal =>
          simp only [] at h
          split at h
          ·rename_i vs hvs
           simp only [Res.ok.injEq,h1C] at h
           obtain ⟨v',h1,h2⟩:=key vs hvs h.1.symm h.2.symm
           exact ⟨hd,v',h1,h2⟩
          ·cases h
         | ret =>
          simp only [] at h
          split at h
          ·rename_i vs hvs
           simp only [Res.ok.injEq,h1C] at h
           obtain ⟨v',h1,h2⟩:=key vs hvs h.1.symm h.2.symm
           exact ⟨hd,v',h1,h2⟩
          ·cases h
        ·simp only [b0o,hcode] at h;rw [f1N hlen,hr] at h
         cases e with
         | exit id=>cases h
         | normal=>simp only [] at h;split at h <;> cases h
         | ret=>simp only [] at h;split at h <;> cases h
      ·exact ⟨fun _ _ h=>by simp [b0o,hcode,hlen] at h,fun _ h=>by simp [b0o,hcode,hlen] at h⟩
     ·cases hcf
theorem v0M (bef:List Nat) (i:Nat):∀ (l:List Edge) (s:Nat),(l.foldl (fun s e=>if Region.binds .any e then s ||| 2 ^ e.on ||| bef.getD e.on 0 else s) s).testBit i=true ↔
  s.testBit i=true ∨ ∃ e ∈ l,Region.binds .any e=true∧(i=e.on ∨ (bef.getD e.on 0).testBit i=true)
 | [],s=>by simp
 | e :: l,s=>by
  rw [List.foldl_cons,v0M bef i l]
  by_cases hb:Region.binds .any e=true
  ·simp only [hb,g1y,Nat.testBit_or,i1z,Nat.testBit_two_pow,g1T,h1O]
   constructor
   ·rintro (((h | h) | h) | ⟨e',h1,h2⟩)
    ·exact .inl h
    ·exact .inr ⟨e,.inl rfl,hb,.inl h.symm⟩
    ·exact .inr ⟨e,.inl rfl,hb,.inr h⟩
    ·exact .inr ⟨e',.inr h1,h2⟩
   ·rintro (h | ⟨e',rfl | h1,h2,h3⟩)
    ·exact .inl (.inl (.inl h))
    ·rcases h3 with h3 | h3
     ·exact .inl (.inl (.inr h3.symm))
     ·exact .inl (.inr h3)
    ·exact .inr ⟨e',h1,h2,h3⟩
  ·simp only [hb,g1L,h1O]
   constructor
   ·rintro (h | ⟨e',h1,h2⟩)
    ·exact .inl h
    ·exact .inr ⟨e',.inr h1,h2⟩
   ·rintro (h | ⟨e',rfl | h1,h2,h3⟩)
    ·exact .inl h
    ·exact g1g h2 hb
    ·exact .inr ⟨e',h1,h2,h3⟩
structure x0D (X:Cx) (ops:Array Oper) (l:List a0L) (bef:List Nat) (pairs:List (Nat × Nat)):Prop where
 len:l.length=ops.size
 op:∀ (k:Nat) (s:a0L),l[k]? = some s→∃ o,ops[k]? = some o∧g0o X.P ops (v0P bef (ops.toList.map fun o=>r0b o.op) k) o=some s
 bit:∀ (i j:Nat) (o:Oper),ops[j]? = some o→(b0t bef i j=true ↔ ∃ e ∈ o.after.toList,Region.binds .any e=true∧(i=e.on ∨ b0t bef i e.on=true))
 back:∀ (j:Nat) (o:Oper),ops[j]? = some o→∀ e ∈ o.after.toList,Region.binds .any e=true→e.on < j
 un:∀ (i j:Nat),i < j→j < ops.size→b0t bef i j=false→B0b ops l (i,j)=true∧(j0n l (i,j)=true→(i,j) ∈ pairs)
 nosel:∀ (j:Nat) (o:Oper) (cs:Array SelectCase) (b:Bool),ops[j]? = some o→o.op ≠ .select cs b
theorem n0V {P:Program} {ops:Array Oper} {bef ws:List Nat}:∀ {os:List Oper} {k:Nat} {l:List a0L},r0p P ops bef ws k os=some l →
  l.length=os.length∧∀ i s,l[i]? = some s→∃ o,os[i]? = some o∧g0o P ops (v0P bef ws (k + i)) o=some s
 | [],k,l,h=>by simp [r0p] at h;subst h;simp
 | o :: os,k,l,h=>by
  simp only [r0p] at h
  split at h
  ·rename_i x l' h1 h2
   cases h
   obtain ⟨h3,h4⟩:=n0V h2
   refine ⟨by simp [h3],fun i s hi=>?_⟩
   cases i with
   | zero=>simp at hi;subst hi;exact ⟨o,rfl,h1⟩
   | succ i =>
    obtain ⟨o',h5,h6⟩:=h4 i s (by simpa using hi)
    exact ⟨o',by simpa using h5,by rw [show k + (i + 1)=k + 1 + i by omega];exact h6⟩
  ·cases h
theorem r0W {n i j:Nat} (h:i < j) (hj:j < n):(i,j) ∈ l0k n:=by
 unfold l0k
 rw [List.mem_flatMap]
 exact ⟨j,g1K.2 hj,g1U.2 ⟨i,g1K.2 h,rfl⟩⟩
theorem M0H {ops:Array Oper} {l:List a0L} {bef:List Nat} {pairs:List (Nat × Nat)} (h:z0w X.P ops=some (.draw l bef pairs)):x0D X ops l bef pairs:=by
 unfold z0w at h
 simp only [f1P,f1J] at h
 obtain ⟨l',h1,h⟩:=h
 split at h
 ·rename_i hc
  obtain ⟨he,hu,hn⟩:=hc
  simp only [f1R,f1L,SCode.draw.injEq] at h
  obtain ⟨rfl,rfl,rfl⟩:=h
  obtain ⟨hl1,hl2⟩:=n0V h1
  have hedge:∀ j o,ops[j]? = some o→(o.after.toList.all fun e=>!Region.binds .any e || e.on < j)=true ∧
    (Region.before ops).toList.getD j 0=(o.after.toList.foldl (fun s e=>if Region.binds .any e then s ||| 2 ^ e.on ||| (Region.before ops).toList.getD e.on 0 else s) 0):=by
   intro j o ho
   have hj:j < ops.size:=(g1x.1 ho).1
   have:=g1w.1 he j (g1K.2 hj)
   simp only [ho,g1b,beq_iff_eq] at this
   exact this
  refine ⟨by simpa using hl1,fun k s hk=>?_,fun i j o ho=>?_,fun j o ho e hm hb=>?_,fun i j hij hj hord=>?_,fun j o cs b ho hs=>?_⟩
  ·obtain ⟨o,h2,h3⟩:=hl2 k s hk
   exact ⟨o,by simpa using h2,by simpa using h3⟩
  ·unfold b0t
   rw [(hedge j o ho).2,v0M]
   simp
  ·have:=g1w.1 (hedge j o ho).1 e hm
   simpa [hb] using this
  ·have hm:(i,j) ∈ (l0k ops.size).filter fun p=>!b0t (Region.before ops).toList p.1 p.2:=List.mem_filter.2 ⟨r0W hij hj,by simp [hord]⟩
   exact ⟨g1w.1 hu _ hm,fun hw=>List.mem_filter.2 ⟨hm,hw⟩⟩
  ·have:=g1w.1 hn o (by rw [← h1l] at ho;exact List.mem_of_getElem? ho)
   simp [j0e,hs] at this
 ·cases h
section
variable {ops:Array Oper} {l:List a0L} {bef:List Nat} {pairs:List (Nat × Nat)} (hT:x0D X ops l bef pairs)
include hT
theorem x0D.lt:∀ j i,j < ops.size→b0t bef i j=true→i < j:=by
 intro j
 induction j using Nat.strongRecOn with
 | _ j ih =>
  intro i hj ho
  have hoj:ops[j]? = some ops[j]:=g1u hj
  obtain ⟨e,hm,hb,h⟩:=(hT.bit i j _ hoj).1 ho
  have he:=hT.back j _ hoj e hm hb
  rcases h with rfl | h
  ·exact he
  ·have:=ih e.on he i (by omega) h;omega
theorem x0D.ready {listed:Array Bool} {j:Nat} (hr:j ∈ Region.ready .any ops listed) (hdown:∀ j,j < ops.size→listed.getD j false=true→∀ i,b0t bef i j=true→listed.getD i false=true) :
  j < ops.size∧listed.getD j true=false∧∀ i,b0t bef i j=true→listed.getD i false=true:=by
 unfold Region.ready at hr
 rw [List.mem_filter] at hr
 obtain ⟨hj,hr⟩:=hr
 have hj:=g1K.1 hj
 simp only [g1b,h1D] at hr
 have hoj:ops[j]? = some ops[j]:=g1u hj
 refine ⟨hj,hr.1,fun i hi=>?_⟩
 have hr2:=hr.2
 simp only [hoj,h1b,g1s] at hr2
 obtain ⟨e,hm,hb,h⟩:=(hT.bit i j _ hoj).1 hi
 rw [Array.all_eq_true'] at hr2
 have h3:=hr2 e (by simpa using hm)
 simp only [hb,Bool.not_true,Bool.false_or] at h3
 rcases h with rfl | h
 ·exact h3
 ·have:=hT.back j _ hoj e hm hb
  exact hdown e.on (by omega) h3 i h
theorem x0D.two {i j:Nat} (hij:i ≠ j) (hi:i < ops.size) (hj:j < ops.size) (h1:b0t bef i j=false) (h2:b0t bef j i=false) {oi oj:Oper} {x y:a0L} (hoi:ops[i]? = some oi) (hoj:ops[j]? = some oj)
  (hx:l[i]? = some x) (hy:l[j]? = some y) :
  (∀ d,x.dst=some d→d ∉ i0a oj y∧y.dst ≠ some d)∧(∀ d,y.dst=some d→d ∉ i0a oi x)∧¬ (way x.op=3∧way y.op=2)∧¬ (way x.op=2∧way y.op=3) ∧
  ((way x.op=2∧way y.op ≠ 0)→(i,j) ∈ pairs ∨ (j,i) ∈ pairs):=by
 have key:∀ {p q:Nat} {op oq:Oper} {u v:a0L},p < q→q < ops.size→b0t bef p q=false→ops[p]? = some op→ops[q]? = some oq→l[p]? = some u→l[q]? = some v →
   (∀ d,u.dst=some d→d ∉ i0a oq v∧v.dst ≠ some d)∧(∀ d,v.dst=some d→d ∉ i0a op u)∧¬ (way u.op=3∧way v.op=2)∧¬ (way u.op=2∧way v.op=3) ∧
   ((way u.op=2∧way v.op ≠ 0)→(p,q) ∈ pairs)∧((way v.op=2∧way u.op ≠ 0)→(p,q) ∈ pairs):=by
  intro p q op oq u v hpq hq ho h3 h4 h5 h6
  obtain ⟨h7,h8⟩:=hT.un p q hpq hq ho
  simp only [B0b,h3,h4,h5,h6,g1b,o0X,v0S] at h7
  obtain ⟨⟨h9,h10⟩,h11⟩:=h7
  refine ⟨fun d hd=>?_,fun d hd=>?_,?_,?_,fun h=>h8 ?_,fun h=>h8 ?_⟩
  ·rw [hd] at h9;simpa using h9
  ·rw [hd] at h10;simpa using h10
  ·intro ⟨a1,a2⟩;simp [a1,a2] at h11
  ·intro ⟨a1,a2⟩;simp [a1,a2] at h11
  ·simp [j0n,h5,h6,h.1,h.2]
  ·simp [j0n,h5,h6,h.1,h.2]
 rcases Nat.lt_or_gt_of_ne hij with hlt | hlt
 ·obtain ⟨k1,k2,k3,k4,k5,k6⟩:=key hlt hj h1 hoi hoj hx hy
  exact ⟨k1,k2,k3,k4,fun h=>.inl (k5 h)⟩
 ·obtain ⟨k1,k2,k3,k4,k5,k6⟩:=key hlt hi h2 hoj hoi hy hx
  refine ⟨fun d hd=>⟨k2 d hd,fun e=>(k1 d e).2 hd⟩,fun d hd=>(k1 d hd).1,fun h=>k4 ⟨h.2,h.1⟩,fun h=>k3 ⟨h.2,h.1⟩,fun h=>.inr (k6 h)⟩
end
section
variable (call:Nat→FuncId→List Value→a0f→Res (Value × a0f)) (fl:Nat) (bef:List Nat)
structure Run where
 T:Nat→b0c
 Hh:Nat→a0f
 Pn:Nat→Option (Nat × Value)
 val:Nat→Value
 tc:Nat→List Nat × List Nat
 st:Nat→Nat
 ds:List Deferred
def i0N (R:Run) (k:Nat) (s:a0L):Prop :=
 (R.st k=0∧g0N bef k (R.Pn k)=true∧R.T (k + 1)=R.T k∧R.Hh (k + 1)=R.Hh k∧R.Pn (k + 1)=R.Pn k∧R.tc k=([],[])) ∨
 (R.st k=1∧g0N bef k (R.Pn k)=false∧b0g (R.T k) s.g=false∧R.val k=undef∧R.T (k + 1)=put (R.T k) s.dst undef∧R.Hh (k + 1)=R.Hh k∧R.Pn (k + 1)=R.Pn k∧R.tc k=([],[])) ∨
 (R.st k=2∧g0N bef k (R.Pn k)=false∧b0g (R.T k) s.g=true∧b0D call fl (R.T k) (R.Hh k) s.op=.ok (R.val k,R.Hh (k + 1))∧R.T (k + 1)=put (R.T k) s.dst (R.val k)∧R.Pn (k + 1)=R.Pn k ∧
  R.tc k=c0Y (R.T k) s.op) ∨
 (R.st k=3∧g0N bef k (R.Pn k)=false∧b0g (R.T k) s.g=true∧b0D call fl (R.T k) (R.Hh k) s.op=.pan (R.val k)∧R.Pn k=none∧R.Pn (k + 1)=some (k,R.val k)∧R.T (k + 1)=R.T k∧R.Hh (k + 1)=R.Hh k ∧
  R.tc k=([],[]))
def Run.cons (i:Nat) (t:b0c) (H:a0f) (p:Option (Nat × Value)) (v:Value) (c:List Nat × List Nat) (s:Nat) (R:Run):Run :=
 { T := fun k => if k = i then t else R.T k, Hh := fun k => if k = i then H else R.Hh k, Pn := fun k => if k = i then p else R.Pn k, val := fun k => if k = i then v else R.val k,
   tc:=fun k=>if k=i then c else R.tc k,st:=fun k=>if k=i then s else R.st k,ds:=R.ds }
variable {call fl bef}
theorem i0N.cons {R:Run} {i k:Nat} {t:b0c} {H:a0f} {p:Option (Nat × Value)} {v:Value} {c:List Nat × List Nat} {n:Nat} {s:a0L} (hk:i < k) (h:i0N call fl bef R k s) :
  i0N call fl bef (R.cons i t H p v c n) k s:=by
 unfold i0N Run.cons at *
 simp only [f1K (show k ≠ i by omega),f1K (show k + 1 ≠ i by omega)]
 exact h
theorem S0N {pairs:List (Nat × Nat)}:∀ (r:List a0L) (i:Nat) (t:b0c) (H:a0f) (p:Option (Nat × Value)) (log:List (List Nat × List Nat)),b0Q call fl bef pairs i r t H p log ≠ .bad →
  ∃ R:Run,R.T i=t∧R.Hh i=H∧R.Pn i=p∧(∀ m s,r[m]? = some s→i0N call fl bef R (i + m) s)∧c0L (log.reverse ++ (List.range' i r.length).map R.tc) pairs=true ∧
   b0Q call fl bef pairs i r t H p log=match R.Pn (i + r.length) with | none=>.fin .normal (R.T (i + r.length)) (R.Hh (i + r.length)) | some (_,v)=>.pan v
 | [],i,t,H,p,log,h=>by
  refine ⟨⟨fun _=>t,fun _=>H,fun _=>p,fun _=>undef,fun _=>([],[]),fun _=>0,[]⟩,rfl,rfl,rfl,fun m s hm=>by simp at hm,?_,?_⟩
  ·simp only [b0Q] at h
   split at h
   ·rename_i ha;simpa using ha
   ·exact g1g rfl h
  ·simp only [b0Q] at h ⊢
   split at h
   ·rename_i ha;rw [f1N ha];rfl
   ·exact g1g rfl h
 | s :: r,i,t,H,p,log,h=>by
  have fin:∀ (t1:b0c) (H1:a0f) (p1:Option (Nat × Value)) (c:List Nat × List Nat) (v:Value) (n:Nat),b0Q call fl bef pairs i (s :: r) t H p log=b0Q call fl bef pairs (i + 1) r t1 H1 p1 (c :: log) →
    (∀ R:Run,R.T (i + 1)=t1→R.Hh (i + 1)=H1→R.Pn (i + 1)=p1→i0N call fl bef (R.cons i t H p v c n) i s) →
    ∃ R:Run,R.T i=t∧R.Hh i=H∧R.Pn i=p∧(∀ m s',(s :: r)[m]? = some s'→i0N call fl bef R (i + m) s')∧c0L (log.reverse ++ (List.range' i (s :: r).length).map R.tc) pairs=true ∧
     b0Q call fl bef pairs i (s :: r) t H p log=match R.Pn (i + (s :: r).length) with | none=>.fin .normal (R.T (i + (s :: r).length)) (R.Hh (i + (s :: r).length)) | some (_,v)=>.pan v:=by
   intro t1 H1 p1 c v n heq hst
   rw [heq] at h
   obtain ⟨R,h1,h2,h3,h4,h5,h6⟩:=S0N r (i + 1) t1 H1 p1 (c :: log) h
   refine ⟨R.cons i t H p v c n,by simp [Run.cons],by simp [Run.cons],by simp [Run.cons],fun m s' hm=>?_,?_,?_⟩
   ·cases m with
    | zero=>simp at hm;subst hm;exact hst R h1 h2 h3
    | succ m=>rw [show i + (m + 1)=i + 1 + m by omega];exact (h4 m s' (by simpa using hm)).cons (by omega)
   ·have e:(List.range' i (s :: r).length).map (R.cons i t H p v c n).tc=c :: (List.range' (i + 1) r.length).map R.tc:=by
     rw [g1O,i1q,List.map_cons]
     congr 1
     ·simp [Run.cons]
     ·apply g1J
      intro x hx
      have:=(List.mem_range'_1.1 hx).1
      simp only [Run.cons]
      rw [f1K (by omega)]
    rw [e]
    simpa using h5
   ·rw [heq,h6]
    simp only [Run.cons,g1O]
    rw [show i + (r.length + 1)=i + 1 + r.length by omega,f1K (by omega),f1K (by omega),f1K (by omega)]
  by_cases hh:g0N bef i p=true
  ·refine fin t H p ([],[]) undef 0 (by simp [b0Q,hh]) (fun R h1 h2 h3=>.inl ?_)
   simp only [Run.cons,g1y,f1K (show i + 1 ≠ i by omega)]
   exact ⟨trivial,hh,h1,h2,h3,trivial⟩
  ·simp only [Bool.not_eq_true] at hh
   by_cases hw:b0g t s.g=true
   ·cases hs:b0D call fl t H s.op with
    | bad=>exact g1g (by simp [b0Q,hh,hw,hs]) h
    | pan v =>
     cases hp:p with
     | some u=>subst hp;exact g1g (by simp [b0Q,hh,hw,hs]) h
     | none =>
      subst hp
      refine fin t H (some (i,v)) ([],[]) v 3 (by simp [b0Q,hh,hw,hs]) (fun R h1 h2 h3=>.inr (.inr (.inr ?_)))
      simp only [Run.cons,g1y,f1K (show i + 1 ≠ i by omega)]
      exact ⟨trivial,hh,hw,hs,trivial,h3,h1,h2,trivial⟩
    | ok vH =>
     obtain ⟨v,H1⟩:=vH
     refine fin (put t s.dst v) H1 p (c0Y t s.op) v 2 (by simp [b0Q,hh,hw,hs]) (fun R h1 h2 h3=>.inr (.inr (.inl ?_)))
     simp only [Run.cons,g1y,f1K (show i + 1 ≠ i by omega)]
     exact ⟨trivial,hh,hw,by rw [h2];exact hs,h1,h3,trivial⟩
   ·simp only [Bool.not_eq_true] at hw
    refine fin (put t s.dst undef) H p ([],[]) undef 1 (by simp [b0Q,hh,hw]) (fun R h1 h2 h3=>.inr (.inl ?_))
    simp only [Run.cons,g1y,f1K (show i + 1 ≠ i by omega)]
    exact ⟨trivial,hh,hw,trivial,h1,h2,h3,trivial⟩
end
end
section
open Go
variable {X:Cx} {φ φ' ψ:Inj} {S S':Shp} {H H' H1:a0f} {w w':World} {fl:Nat} {t t':b0c} {a:Act} {so:SOp} {lone:Bool} {op:Op}
theorem j0g (h:∀ x ∈ a0y so,ev t x=ev t' x):opA fl t H so=opA fl t' H so:=by
 have lst:∀ {xs:List Opd},(∀ x ∈ xs,x ∈ a0y so)→xs.map (ev t)=xs.map (ev t'):=fun hx=>g1J (fun x hm=>h x (hx x hm))
 have opt:∀ {x:Option Opd},(∀ y,x=some y→y ∈ a0y so)→x.map (ev t)=x.map (ev t'):=fun {x} hx=>by cases x with | none=>rfl | some y=>simp [h y (hx y rfl)]
 have parts:∀ {ps:List (Nat × Nat × Opd)},(∀ p ∈ ps,p.2.2 ∈ a0y so)→b0C t ps=b0C t' ps:=fun hp=>g1J (fun p hm=>by rw [h _ (hp p hm)])
 cases so <;> simp only [opA]
 case build z ps=>rw [parts (fun p hm=>by simp only [a0y,g1U];exact ⟨p,hm,rfl⟩)]
 case lit e z n ps=>rw [parts (fun p hm=>by simp only [a0y,g1U];exact ⟨p,hm,rfl⟩)]
 case mkfn f xs ys=>rw [lst (xs:=xs) (fun x hm=>by simp [a0y,hm]),lst (xs:=ys) (fun x hm=>by simp [a0y,hm])]
 case sl e size x lo hi mx=>rw [h x (by simp [a0y]),opt (x:=lo) (fun y e=>by simp [a0y,e]),opt (x:=hi) (fun y e=>by simp [a0y,e]),opt (x:=mx) (fun y e=>by simp [a0y,e])]
 case call f xs l=>rw [lst (xs:=xs) (fun x hm=>by simp [a0y,hm])]
 case callv x xs l=>rw [h x (by simp [a0y]),lst (xs:=xs) (fun x hm=>by simp [a0y,hm])]
 case inv x tb xs l=>rw [h x (by simp [a0y]),lst (xs:=xs) (fun x hm=>by simp [a0y,hm])]
 case mnx b x xs=>rw [h x (by simp [a0y]),lst (xs:=xs) (fun x hm=>by simp [a0y,hm])]
 case pick c x y=>rw [h c (by simp [a0y]),h x (by simp [a0y]),h y (by simp [a0y])]
 case store n x y=>rw [h x (by simp [a0y]),h y (by simp [a0y])]
 case bin tg b x y=>rw [h x (by simp [a0y]),h y (by simp [a0y])]
 case mk e b z x y=>rw [h x (by simp [a0y]),h y (by simp [a0y])]
 case ia n x y=>rw [h x (by simp [a0y]),h y (by simp [a0y])]
 case app e n b x y=>rw [h x (by simp [a0y]),h y (by simp [a0y])]
 case mv x=>rw [h x (by simp [a0y])]
 case box e x=>rw [h x (by simp [a0y])]
 case load g n x=>rw [h x (by simp [a0y])]
 case chk x=>rw [h x (by simp [a0y])]
 case un u x=>rw [h x (by simp [a0y])]
 case conv k x=>rw [h x (by simp [a0y])]
 case iface ty x=>rw [h x (by simp [a0y])]
 case fa o x=>rw [h x (by simp [a0y])]
 case fa0 e x=>rw [h x (by simp [a0y])]
 case fld g o n x=>rw [h x (by simp [a0y])]
 case ext x i=>rw [h x (by simp [a0y])]
 case len x=>rw [h x (by simp [a0y])]
 case pan x=>rw [h x (by simp [a0y])]
theorem v0g (h:∀ x ∈ a0y so,ev t x=ev t' x):c0Y t so=c0Y t' so:=by
 cases so <;> simp only [c0Y]
 case store n x y=>rw [h x (by simp [a0y])]
 case app e n b x y=>rw [h x (by simp [a0y]),h y (by simp [a0y])]
 case load g n x=>rw [h x (by simp [a0y])]
 case fa0 e x=>rw [h x (by simp [a0y])]
 case sl e size x lo hi mx=>rw [h x (by simp [a0y])]
theorem p0a {b:Nat} (h:b ∈ (c0Y t so).2):way so=2:=by cases so <;> simp [c0Y] at h <;> rfl
theorem y0X {b:Nat} (h:b ∈ (c0Y t so).1):way so=1 ∨ way so=2:=by cases so <;> simp [c0Y] at h <;> simp [way]
def e0g:SOp→Bool
 | .call _ _ b | .callv _ _ b | .inv _ _ _ b=>b
 | _=>false
theorem e0Y {f:FuncId} {args:List Value} {l:Bool} (h:opA fl t H so=.call f args l):way so=3∧e0g so=l:=by
 have hc:=m0d h
 cases so <;> simp only [v0O,g1h] at hc
 case call=>simp [opA] at h;simp [way,e0g,h.2.2]
 case callv=>simp only [opA] at h;split at h <;> simp at h;simp [way,e0g,h.2.2]
 case inv =>
  simp only [opA] at h
  split at h
  ·split at h <;> simp at h;simp [way,e0g,h.2.2]
  ·cases h
theorem J0A {v:Value} (hw:way so=0) (h:opA fl t H so=.val v H1):H1=H:=by
 have ht:=p0S h
 cases so <;> simp only [way] at hw <;> first | (exact g1g hw (by decide)) | skip
 all_goals
  simp only [opA] at h
  first
   | (simp at h;exact h.2.symm)
   | (unfold b0H at h;split at h <;> simp at h;exact h.2.symm)
   | (split at h <;> first | (simp at h;exact h.2.symm) | (cases h;done) | (split at h <;> first | (simp at h;exact h.2.symm) | (cases h;done)) | (unfold b0H at h;split at h <;> simp at h;exact h.2.symm))
theorem r0q (hc:cOp X.P lone op=some so):(way so ≠ 0→r0b op ≠ 0)∧(e0g so=true→lone=true):=by
 cases op
 case call c =>
  obtain ⟨callee,args,ats⟩:=c
  cases callee with
  | value f =>
   refine ⟨fun _=>by simp [r0b],fun hl=>?_⟩
   cases f <;> simp only [cOp] at hc
   case func f =>
    split at hc
    ·simp only [f1P,f1J,f1R,f1L] at hc
     obtain ⟨_,_,rfl⟩:=hc;exact hl
    ·cases hc
   all_goals
    simp only [f1P,f1J,f1R,f1L] at hc
    obtain ⟨_,_,_,_,rfl⟩:=hc;exact hl
  | invoke r n =>
   refine ⟨fun _=>by simp [r0b],fun hl=>?_⟩
   simp only [cOp,f1P,f1J,f1R,f1L] at hc
   obtain ⟨_,_,_,_,rfl⟩:=hc;exact hl
  | builtin b =>
   simp only [cOp] at hc
   split at hc
   ·simp only [f1P,f1J,f1R,f1L] at hc
    obtain ⟨_,_,_,_,rfl⟩:=hc
    exact ⟨fun h=>by simp [way] at h,fun h=>by simp [e0g] at h⟩
   ·simp only [f1P,f1J,f1R,f1L] at hc
    obtain ⟨_,_,_,_,rfl⟩:=hc
    exact ⟨fun h=>by simp [way] at h,fun h=>by simp [e0g] at h⟩
   ·simp only [f1P,f1J,f1R,f1L] at hc
    obtain ⟨_,_,_,_,rfl⟩:=hc
    exact ⟨fun h=>by simp [way] at h,fun h=>by simp [e0g] at h⟩
   ·simp only [f1P,f1J] at hc
    obtain ⟨_,_,_,_,_,_,hc⟩:=hc
    split at hc
    ·simp only [f1J,f1R,f1L] at hc
     obtain ⟨_,_,_,_,_,_,rfl⟩:=hc
     exact ⟨fun _=>by simp [r0b],fun h=>by simp [e0g] at h⟩
    ·cases hc
   ·cases hc
 all_goals
  simp only [cOp,h1J,f1P,f1J,f1R,f1L,reduceCtorEq] at hc
 all_goals (try (split at hc))
 all_goals (try (simp only [f1P,f1R,f1J,f1L,reduceCtorEq] at hc))
 case move=>obtain ⟨_,_,rfl⟩:=hc;exact ⟨fun h=>by simp [way] at h,fun h=>by simp [e0g] at h⟩
 case assign=>obtain ⟨_,_,rfl⟩:=hc;exact ⟨fun h=>by simp [way] at h,fun h=>by simp [e0g] at h⟩
 all_goals
  (repeat' (first | (obtain ⟨_,_,hc⟩:=hc) | (split at hc) | (simp only [f1J,f1R,f1L,reduceCtorEq] at hc)))
 all_goals (try subst hc)
 all_goals
  refine ⟨fun h=>?_,fun h=>?_⟩
  ·first
    | (simp [r0b];done)
    | (simp [way] at h;done)
  ·simp [e0g] at h
def cut (φ:Inj) (m:Nat):Inj:=fun b=>if b < m then φ b else none
theorem b0A {m b:Nat} {y:Nat × Nat}:cut φ m b=some y ↔ b < m∧φ b=some y:=by
 unfold cut;split
 ·rename_i h;simp [h]
 ·rename_i h;simp [h]
theorem i0S {m k:Nat} (hmk:m≤k) (hφ:∀ b y,b < m→φ b=some y→φ' b=some y):∀ b y,cut φ m b=some y→cut φ' k b=some y:=fun b y h=>by
 rw [b0A] at h ⊢
 exact ⟨by omega,hφ b y h.1 h.2⟩
theorem VR.cut {m:Nat} (hm:∀ b y,φ b=some y→b < m) {v u:Value} (h:VR X φ S v u):∀ {u'},VR X ψ S' v u'→VR X (cut ψ m) S' v u':=by
 induction h with
 | bool b=>intro u' k;cases k;exact .bool _
 | int k n=>intro u' k;cases k;exact .int _ _
 | str s=>intro u' k;cases k;exact .str _
 | pnil=>intro u' k;cases k;exact .pnil
 | ptr a a' B o h1 h2 h3=>intro u' k;cases k with | ptr _ a2 B2 o2 g1 g2 g3=>exact .ptr _ _ B2 o2 g1 (b0A.2 ⟨hm _ _ h2,g2⟩) g3
 | snil=>intro u' k;cases k;exact .snil
 | sle a a' =>
  intro u' k
  cases k with
  | sle _ a2=>exact .sle _ _
  | sl _ a2 _ _ c2 B2 o2 g1 g2 g3 g4 g5 g6 g7 g8=>rw [g6 (by simp [unk])];exact .sle _ _
 | sl a a' len cap cap' B o h1 h2 h3 h4 h5 h6 h7 h8 =>
  intro u' k
  cases k with
  | sle _ a2=>exact .sle _ _
  | sl _ a2 _ _ c2 B2 o2 g1 g2 g3 g4 g5 g6 g7 g8=>exact .sl _ _ _ _ _ B2 o2 g1 (b0A.2 ⟨hm _ _ h2,g2⟩) g3 g4 g5 g6 g7 g8
 | nilFunc=>intro u' k;cases k;exact .nilFunc
 | nilIface=>intro u' k;cases k;exact .nilIface
 | func f a b a' b' h1 _ h3 _ ih1 ih2 =>
  intro u' k
  cases k with
  | func _ _ _ a2 b2 g1 g2 g3 g4=>exact .func _ _ _ _ _ g1 (fun i hi=>ih1 i hi (g2 i hi)) g3 (fun i hi=>ih2 i hi (g4 i hi))
 | iface ty v v' _ ih=>intro u' k;cases k with | iface _ _ v2 g=>exact .iface _ _ _ (ih g)
 | agg a a' h1 _ ih=>intro u' k;cases k with | agg _ a2 g1 g2=>exact .agg _ _ g1 (fun i hi=>ih i hi (g2 i hi))
 | tuple a a' h1 _ ih=>intro u' k;cases k with | tuple _ a2 g1 g2=>exact .tuple _ _ g1 (fun i hi=>ih i hi (g2 i hi))
theorem CR.cut {m:Nat} (hm:∀ b y,φ b=some y→b < m) {l u u':List Value} (h:CR X φ S l u) (k:CR X ψ S' l u'):CR X (cut ψ m) S' l u' :=
 ⟨k.1,fun i hi=>(h.2 i hi).cut hm (k.2 i hi)⟩
def x0A (X:Cx) (φ:Inj) (w:World) (B o:Nat) (ro:Bool) (e:TypeId) (cs:List Value):Prop :=
 ∃ c el fz,w.heap[B]? = some (.cells c el fz)∧o + cs.length≤c.size∧CR X φ w.shape? cs ((c.toList.drop o).take cs.length)∧(ro=false→X.base≤B∧fz=(0,0)∧el=e)∧(ro=true→B < X.base)
theorem x0A.mono {B o:Nat} {ro:Bool} {e:TypeId} {cs:List Value} (h:x0A X φ w B o ro e cs) (hφ:∀ b x,φ b=some x→φ' b=some x) (hS:∀ b x,w.shape? b=some x→w'.shape? b=some x) (hw:w'.heap[B]? = w.heap[B]?) :
  x0A X φ' w' B o ro e cs:=by
 obtain ⟨c,el,fz,h1,h2,h3,h4,h5⟩:=h
 exact ⟨c,el,fz,by rw [hw];exact h1,h2,h3.mono hφ hS,h4,h5⟩
theorem x0A.lt {B o:Nat} {ro:Bool} {e:TypeId} {cs:List Value} (h:x0A X φ w B o ro e cs):B < w.heap.size:=by
 obtain ⟨c,el,fz,h1,_⟩:=h
 exact (g1x.1 h1).1
end
section
open Go
structure Ctx (X:Cx) (call:Nat→FuncId→List Value→a0f→Res (Value × a0f)) (fl:Nat) (ops:Array Oper) (l:List a0L) (bef:List Nat) (pairs:List (Nat × Nat)) (R:Run):Prop where
 callOk:d0T X call
 keepOk:h0t call
 tab:x0D X ops l bef pairs
 run:∀ (k:Nat) (s:a0L),l[k]? = some s→i0N call fl bef R k s
 apart:c0L ((List.range' 0 l.length).map R.tc) pairs=true
 p0:R.Pn 0=none
 low:fl≤(R.Hh 0).size
variable {X:Cx} {call:Nat→FuncId→List Value→a0f→Res (Value × a0f)} {fl:Nat} {ops:Array Oper} {l:List a0L} {bef:List Nat} {pairs:List (Nat × Nat)} {R:Run} (C:Ctx X call fl ops l bef pairs R)
include C
theorem Ctx.sAt {k:Nat} (hk:k < l.length):∃ s,l[k]? = some s:=⟨l[k],f1M hk⟩
omit C in
theorem i0I {t:b0c} {H H1:a0f} {so:SOp} {v:Value} (h:b0D call fl t H so=.ok (v,H1)) :
  opA fl t H so=.val v H1 ∨ ∃ f args lone,opA fl t H so=.call f args lone∧call (if lone=true then fl else max fl H.size) f args H=.ok (v,H1):=by
 unfold b0D at h
 split at h
 ·cases h
 ·cases h
 ·rename_i v' H' hv;simp only [Res.ok.injEq,h1C] at h;obtain ⟨rfl,rfl⟩:=h;exact .inl hv
 ·rename_i f args lone hc;exact .inr ⟨f,args,lone,hc,h⟩
theorem Ctx.keepStep {k:Nat} (hk:k < l.length) (hlow:fl≤(R.Hh k).size):f0C fl (R.Hh k) (R.Hh (k + 1)):=by
 obtain ⟨s,hs⟩:=C.sAt hk
 rcases C.run k s hs with h | h | h | h
 ·rw [h.2.2.2.1];exact f0C.refl
 ·rw [h.2.2.2.2.2.1];exact f0C.refl
 ·exact k0u C.keepOk hlow h.2.2.2.1
 ·rw [h.2.2.2.2.2.2.2.1];exact f0C.refl
theorem Ctx.keep0:∀ {k:Nat},k≤l.length→fl≤(R.Hh k).size∧f0C fl (R.Hh 0) (R.Hh k)
 | 0,_=>⟨C.low,f0C.refl⟩
 | k + 1,hk=>by
  obtain ⟨h1,h2⟩:=Ctx.keep0 (k:=k) (by omega)
  have h3:=C.keepStep (by omega:k < l.length) h1
  exact ⟨f1Y h1 h3.size,h2.trans h3 (f1I _)⟩
theorem Ctx.keepIJ {i:Nat}:∀ {j:Nat},i≤j→j≤l.length→f0C fl (R.Hh i) (R.Hh j)
 | 0, hij, _ => by obtain rfl : i = 0 := by omega
                   exact f0C.refl
 | j + 1,hij,hj=>by
  by_cases h:i=j + 1
  ·subst h;exact f0C.refl
  ·exact (Ctx.keepIJ (j:=j) (by omega) (by omega)).trans (C.keepStep (by omega) (C.keep0 (by omega)).1) (f1I _)
theorem Ctx.szmono {i j:Nat} (hij:i≤j) (hj:j≤l.length):(R.Hh i).size≤(R.Hh j).size:=(C.keepIJ hij hj).size
theorem Ctx.pan:∀ {k:Nat},k≤l.length→∀ p v,R.Pn k=some (p,v)→p < k∧R.st p=3
 | 0,_,p,v,h=>by rw [C.p0] at h;cases h
 | k + 1,hk,p,v,h=>by
  obtain ⟨s,hs⟩:=C.sAt (by omega:k < l.length)
  have ih:=Ctx.pan (k:=k) (by omega)
  rcases C.run k s hs with g | g | g | g
  ·rw [g.2.2.2.2.1] at h;have:=ih p v h;exact ⟨by omega,this.2⟩
  ·rw [g.2.2.2.2.2.2.1] at h;have:=ih p v h;exact ⟨by omega,this.2⟩
  ·rw [g.2.2.2.2.2.1] at h;have:=ih p v h;exact ⟨by omega,this.2⟩
  ·rw [g.2.2.2.2.2.1] at h;cases h;exact ⟨by omega,g.1⟩
theorem Ctx.change {k:Nat} {s:a0L} (hs:l[k]? = some s) {b:Nat} (hb:b < (R.Hh k).size) (hne:(R.Hh (k + 1)).blk b ≠ (R.Hh k).blk b) :
  R.st k=2∧((way s.op=2∧b ∈ (R.tc k).2) ∨ (way s.op=3∧e0g s.op=true)):=by
 have hk:k < l.length:=(g1m.1 hs).1
 rcases C.run k s hs with h | h | h | h
 ·rw [h.2.2.2.1] at hne;exact g1g rfl hne
 ·rw [h.2.2.2.2.2.1] at hne;exact g1g rfl hne
 ·refine ⟨h.1,?_⟩
  rcases i0I h.2.2.2.1 with hv | ⟨f,args,lone,hc,hcall⟩
  ·have:=(p0S hv).changed hb hne
   rw [h.2.2.2.2.2.2]
   exact .inl ⟨p0a this,this⟩
  ·obtain ⟨h1,h2⟩:=e0Y hc
   cases lone with
   | true=>exact .inr ⟨h1,h2⟩
   | false =>
    have hlow:=(C.keep0 (by omega:k≤l.length)).1
    have:=(C.keepOk _ _ _ _ _ _ hcall (by simp;omega)).low b (by simp;omega)
    exact g1g this hne
 ·rw [h.2.2.2.2.2.2.2.1] at hne;exact g1g rfl hne
theorem Ctx.grow {k:Nat} {s:a0L} (hs:l[k]? = some s) (hne:(R.Hh k).size ≠ (R.Hh (k + 1)).size):way s.op ≠ 0:=by
 rcases C.run k s hs with h | h | h | h
 ·rw [h.2.2.2.1] at hne;exact g1g rfl hne
 ·rw [h.2.2.2.2.2.1] at hne;exact g1g rfl hne
 ·intro hw
  rcases i0I h.2.2.2.1 with hv | ⟨f,args,lone,hc,hcall⟩
  ·rw [J0A hw hv] at hne;exact g1g rfl hne
  ·rw [(e0Y hc).1] at hw;cases hw
 ·rw [h.2.2.2.2.2.2.2.1] at hne;exact g1g rfl hne
omit C in
theorem t0s (t:b0c) (d:Option Nat) (v:Value) (x:Nat):get (put t d v) x=if d=some x∧x < t.length then v else get t x:=by
 cases d with
 | none=>simp [put]
 | some d =>
  simp only [put,get,f1H,g1t,f1L]
  by_cases h:d=x
  ·subst h
   by_cases hl:d < t.length
   ·simp [hl]
   ·simp [hl]
  ·simp [h]
theorem Ctx.slot {k:Nat} {s:a0L} (hs:l[k]? = some s) {x:Nat} (hne:get (R.T (k + 1)) x ≠ get (R.T k) x):(R.st k=1 ∨ R.st k=2)∧s.dst=some x:=by
 rcases C.run k s hs with h | h | h | h
 ·rw [h.2.2.1] at hne;exact g1g rfl hne
 ·refine ⟨.inl h.1,?_⟩
  rw [h.2.2.2.2.1,t0s] at hne
  split at hne
  ·rename_i h1;exact h1.1
  ·exact g1g rfl hne
 ·refine ⟨.inr h.1,?_⟩
  rw [h.2.2.2.2.1,t0s] at hne
  split at hne
  ·rename_i h1;exact h1.1
  ·exact g1g rfl hne
 ·rw [h.2.2.2.2.2.2.1] at hne;exact g1g rfl hne
theorem Ctx.tlen:∀ {k:Nat},k≤l.length→(R.T k).length=(R.T 0).length
 | 0,_=>rfl
 | k + 1,hk=>by
  obtain ⟨s,hs⟩:=C.sAt (by omega:k < l.length)
  have ih:=Ctx.tlen (k:=k) (by omega)
  have hp:∀ (d:Option Nat) (v:Value),(put (R.T k) d v).length=(R.T k).length:=fun d v=>by cases d <;> simp [put]
  rcases C.run k s hs with h | h | h | h
  ·rw [h.2.2.1];exact ih
  ·rw [h.2.2.2.2.1,hp];exact ih
  ·rw [h.2.2.2.2.1,hp];exact ih
  ·rw [h.2.2.2.2.2.2.1];exact ih
theorem Ctx.disj {i j:Nat} (hp:(i,j) ∈ pairs ∨ (j,i) ∈ pairs) (hi:i < l.length) (hj:j < l.length) {b:Nat} (hb:b ∈ (R.tc i).2):b ∉ (R.tc j).1∧b ∉ (R.tc j).2:=by
 have ha:=C.apart
 unfold c0L at ha
 rw [g1w] at ha
 have hlog:∀ k,k < l.length→((List.range' 0 l.length).map R.tc).getD k ([],[])=R.tc k:=fun k hk=>by
  simp only [f1H,g1V,List.getElem?_range' hk,h1b,g1s]
  congr 1;omega
 have nm:∀ {u v:List Nat},r0V u v=false→∀ {b:Nat},b ∈ u→b ∉ v:=fun {u v} h {b} hu hv=>by
  unfold r0V at h
  rw [List.any_eq_false] at h
  exact h b hu (by simpa using hv)
 rcases hp with hp | hp
 ·have h:=ha _ hp
  simp only [hlog i hi,hlog j hj,g1b,h1D] at h
  exact ⟨nm h.1.1 hb,nm h.1.2 hb⟩
 ·have h:=ha _ hp
  simp only [hlog i hi,hlog j hj,g1b,h1D] at h
  exact ⟨fun hr=>nm h.2 hr hb,fun hw=>nm h.1.2 hw hb⟩
theorem Ctx.clash {k j:Nat} {sk sj:a0L} (hk:l[k]? = some sk) (hj:l[j]? = some sj) (hkj:k ≠ j) (h1:b0t bef k j=false) (h2:b0t bef j k=false) {b:Nat} (hb:b < (R.Hh k).size)
  (hne:(R.Hh (k + 1)).blk b ≠ (R.Hh k).blk b) (hw:way sj.op ≠ 0):way sk.op=2∧b ∈ (R.tc k).2∧way sj.op ≠ 3∧b ∉ (R.tc j).1∧b ∉ (R.tc j).2:=by
 have hkl:k < l.length:=(g1m.1 hk).1
 have hjl:j < l.length:=(g1m.1 hj).1
 obtain ⟨ok,hok,hck⟩:=C.tab.op k sk hk
 obtain ⟨oj,hoj,hcj⟩:=C.tab.op j sj hj
 have hlen:=C.tab.len
 have h2':=C.tab.two hkj (by omega) (by omega) h1 h2 hok hoj hk hj
 rcases (C.change hk hb hne).2 with ⟨h3,h4⟩ | ⟨h3,h4⟩
 ·have hp:=h2'.2.2.2.2 ⟨h3,hw⟩
  have hd:=C.disj hp hkl hjl h4
  exact ⟨h3,h4,fun e=>h2'.2.2.2.1 ⟨h3,e⟩,hd.1,hd.2⟩
 ·exfalso
  have hl:=(r0q (e0a hck).1).2 h4
  unfold v0P at hl
  rw [g1w] at hl
  have h5:=hl j (g1K.2 (by simp;omega))
  have h6:(ops.toList.map fun o=>r0b o.op).getD j 0=r0b oj.op:=by
   simp only [f1H,g1V,h1l,hoj,h1b,g1s]
  have h7:=(r0q (e0a hcj).1).1 hw
  rw [h6,h1,h2] at h5
  simp only [i1z,beq_iff_eq,g1h,or_false] at h5
  rcases h5 with h5 | h5
  ·exact hkj h5.symm
  ·exact h7 h5
end
section
open Go
structure e1h (X:Cx) (fl:Nat) (φ0:Inj) (H0:a0f) (w0:World) (φ:Inj) (w:World):Prop where
 ext:∀ b x,φ0 b=some x→φ b=some x
 shp:∀ B x,w0.shape? B=some x→w.shape? B=some x
 wsz:w0.heap.size≤w.heap.size
 os:w.os=w0.os
 tape:w.tape=w0.tape
 out:w.output=w0.output
 fresh:∀ b y,φ b=some y→φ0 b=none→H0.size≤b
 newB:∀ b B o,φ b=some (B,o)→φ0 b=none→w0.heap.size≤B ∨ ∃ b0 o0 e cs,φ0 b0=some (B,o0)∧fl≤b0∧H0.blk b0=.row false e cs
 frame:∀ B,B < w0.heap.size→(∀ b o e cs,φ0 b=some (B,o)→fl≤b→H0.blk b ≠ .row false e cs)→w.heap[B]? = w0.heap[B]?
structure Inv (X:Cx) (fl:Nat) (ops:Array Oper) (l:List a0L) (bef:List Nat) (R:Run) (φ0:Inj) (w0:World) (Sd:Nat→Prop) (φ:Inj) (κ θ:Nat→Nat) (a:Act) (w:World):Prop where
 done:∀ k,k < l.length→Sd k→R.st k=1 ∨ R.st k=2
 down:∀ j,j < l.length→Sd j→∀ i,b0t bef i j=true→Sd i
 tlen:a.tmps.size=(R.T 0).length
 defers:a.defers=R.ds
 base:X.base≤w.heap.size
 T:∀ x,x < (R.T 0).length→θ x≤l.length∧(θ x=0 ∨ ∃ k s,θ x=k + 1∧Sd k∧l[k]? = some s∧s.dst=some x)∧(∀ k s,θ x≤k→Sd k→l[k]? = some s→s.dst ≠ some x) ∧
  VR X (cut φ (R.Hh (θ x)).size) w.shape? (get (R.T (θ x)) x) (a.tmps.getD x undef)
 D:∀ b y,φ b=some y→b < (R.Hh 0).size ∨ ∃ k,k < l.length∧Sd k∧(R.Hh k).size≤b∧b < (R.Hh (k + 1)).size
 Rr:∀ b B o,φ b=some (B,o)→κ b≤l.length∧b < (R.Hh (κ b)).size∧(κ b=0 ∨ ∃ k,κ b=k + 1∧k < l.length∧Sd k∧((R.Hh k).size≤b ∨ (R.Hh (k + 1)).blk b ≠ (R.Hh k).blk b)) ∧
  (∀ k,κ b≤k→k < l.length→Sd k→(R.Hh (k + 1)).blk b=(R.Hh k).blk b) ∧
  ∀ ro e cs,(R.Hh (κ b)).blk b=.row ro e cs→x0A X (cut φ (R.Hh (κ b)).size) w B o ro e cs
 P:∀ b b' B o o' e cs,φ b=some (B,o)→φ b' = some (B,o')→b ≠ b'→(R.Hh (κ b)).blk b=.row false e cs→(R.Hh (κ b')).blk b' = .dead
 W:∀ k s,l[k]? = some s→Sd k→R.st k=2→∀ b,b ∈ (R.tc k).2→φ b ≠ none
 glob:e1h X fl φ0 (R.Hh 0) w0 φ w
variable {X:Cx} {call:Nat→FuncId→List Value→a0f→Res (Value × a0f)} {fl:Nat} {ops:Array Oper} {l:List a0L} {bef:List Nat} {pairs:List (Nat × Nat)} {R:Run} (C:Ctx X call fl ops l bef pairs R)
variable {φ0 φ:Inj} {w0 w w':World} {Sd:Nat→Prop} {κ θ:Nat→Nat} {a:Act} (I:Inv X fl ops l bef R φ0 w0 Sd φ κ θ a w)
variable {j:Nat} {s:a0L} {o:Oper} (hs:l[j]? = some s) (ho:ops[j]? = some o) (hnj:¬ Sd j) (hpre:∀ i,b0t bef i j=true→Sd i)
include C I hs hnj hpre
theorem Inv.unord {k:Nat} (hk:k < l.length) (hkj:k ≠ j) (h:(Sd k∧j < k) ∨ (¬ Sd k∧k < j)):b0t bef k j=false∧b0t bef j k=false:=by
 have hj:j < l.length:=(g1m.1 hs).1
 have hlen:=C.tab.len
 rcases h with ⟨h1,h2⟩ | ⟨h1,h2⟩
 ·refine ⟨?_,?_⟩
  ·cases h3:b0t bef k j with
   | false=>rfl
   | true=>have:=C.tab.lt j k (by omega) h3;omega
  ·cases h3:b0t bef j k with
   | false=>rfl
   | true=>exact g1g (I.down k hk h1 j h3) hnj
 ·refine ⟨?_,?_⟩
  ·cases h3:b0t bef k j with
   | false=>rfl
   | true=>exact g1g (hpre k h3) h1
  ·cases h3:b0t bef j k with
   | false=>rfl
   | true=>have:=C.tab.lt k j (by omega) h3;omega
include ho in
theorem Inv.slot {x:Nat} (hx:x < (R.T 0).length) (hu:x ∈ i0a o s):VR X (cut φ (R.Hh j).size) w.shape? (get (R.T j) x) (a.tmps.getD x undef):=by
 have hj:j < l.length:=(g1m.1 hs).1
 have hlen:=C.tab.len
 obtain ⟨h1,h2,h3,h4⟩:=I.T x hx
 have hle:θ x≤j:=by
  rcases h2 with h2 | ⟨k,sk,h5,h6,h7,h8⟩
  ·omega
  ·by_cases hkj:k < j
   ·omega
   ·exfalso
    have hk:k < l.length:=(g1m.1 h7).1
    have hne:k ≠ j:=fun e=>hnj (e ▸ h6)
    obtain ⟨u1,u2⟩:=Inv.unord C I hs hnj hpre hk hne (.inl ⟨h6,by omega⟩)
    obtain ⟨ok,hok,_⟩:=C.tab.op k sk h7
    exact (((C.tab.two hne (by omega) (by omega) u1 u2 hok ho h7 hs).1 x h8).1) hu
 have heq:∀ m,θ x≤m→m≤j→get (R.T m) x=get (R.T (θ x)) x:=by
  intro m hm
  induction m with
  | zero=>intro _;congr 2;omega
  | succ m ih =>
   intro hmj
   by_cases hc:θ x=m + 1
   ·rw [hc]
   ·rw [← ih (by omega) (by omega)]
    apply g1D
    intro hne
    obtain ⟨sm,hsm⟩:=C.sAt (by omega:m < l.length)
    obtain ⟨_,hd⟩:=C.slot hsm hne
    by_cases hS:Sd m
    ·exact h3 m sm (by omega) hS hsm hd
    ·obtain ⟨u1,u2⟩:=Inv.unord C I hs hnj hpre (by omega:m < l.length) (by omega) (.inr ⟨hS,by omega⟩)
     obtain ⟨om,hom,_⟩:=C.tab.op m sm hsm
     exact (((C.tab.two (by omega) (by omega) (by omega) u1 u2 hom ho hsm hs).1 x hd).1) hu
 rw [heq j hle (f1I _)]
 exact h4.mono (i0S (C.szmono hle (by omega)) (fun _ _ _ h=>h)) (fun _ _ h=>h)
def y0Z (R:Run) (κ:Nat→Nat) (j b:Nat):Prop:=κ b≤j∧(R.Hh j).blk b=(R.Hh (κ b)).blk b
theorem Inv.notNew {b:Nat} {y:Nat × Nat} (hb:φ b=some y):b < (R.Hh j).size ∨ (R.Hh (j + 1)).size≤b:=by
 have hj:j < l.length:=(g1m.1 hs).1
 rcases I.D b y hb with h | ⟨k,hk,hS,h1,h2⟩
 ·exact .inl (g1c h (C.szmono (g1I _) (by omega)))
 ·by_cases hkj:k < j
  ·exact .inl (g1c h2 (C.szmono (by omega) (by omega)))
  ·have hne:k ≠ j:=fun e=>hnj (e ▸ hS)
   exact .inr (f1Y (C.szmono (by omega) (by omega)) h1)
theorem Inv.good {b:Nat} {y:Nat × Nat} (hb:φ b=some y) (hlt:b < (R.Hh j).size) (hw:way s.op ≠ 0) (hfp:way s.op=3 ∨ b ∈ (R.tc j).1 ∨ b ∈ (R.tc j).2):y0Z R κ j b:=by
 have hj:j < l.length:=(g1m.1 hs).1
 obtain ⟨B,o1⟩:=y
 obtain ⟨h1,h2,h3,h4,_⟩:=I.Rr b B o1 hb
 have no:∀ {k:Nat} {sk:a0L},l[k]? = some sk→k ≠ j→b0t bef k j=false→b0t bef j k=false→b < (R.Hh k).size→(R.Hh (k + 1)).blk b ≠ (R.Hh k).blk b→False:=by
  intro k sk hsk hne u1 u2 hbk hch
  obtain ⟨c1,c2,c3,c4,c5⟩:=C.clash hsk hs hne u1 u2 hbk hch hw
  rcases hfp with h | h | h
  ·exact c3 h
  ·exact c4 h
  ·exact c5 h
 have hle:κ b≤j:=by
  rcases h3 with h3 | ⟨k,h5,hk,h6,h7⟩
  ·omega
  ·by_cases hkj:k < j
   ·omega
   ·exfalso
    have hne:k ≠ j:=fun e=>hnj (e ▸ h6)
    obtain ⟨u1,u2⟩:=Inv.unord C I hs hnj hpre hk hne (.inl ⟨h6,by omega⟩)
    have hbk:b < (R.Hh k).size:=g1c hlt (C.szmono (by omega) (by omega))
    obtain ⟨sk,hsk⟩:=C.sAt hk
    rcases h7 with h7 | h7
    ·omega
    ·exact no hsk hne u1 u2 hbk h7
 refine ⟨hle,?_⟩
 have heq:∀ m,κ b≤m→m≤j→(R.Hh m).blk b=(R.Hh (κ b)).blk b:=by
  intro m hm
  induction m with
  | zero=>intro _;congr 2;omega
  | succ m ih =>
   intro hmj
   by_cases hc:κ b=m + 1
   ·rw [hc]
   ·rw [← ih (by omega) (by omega)]
    apply g1D
    intro hch
    obtain ⟨sm,hsm⟩:=C.sAt (by omega:m < l.length)
    by_cases hS:Sd m
    ·exact hch (h4 m (by omega) (by omega) hS)
    ·obtain ⟨u1,u2⟩:=Inv.unord C I hs hnj hpre (by omega:m < l.length) (by omega) (.inr ⟨hS,by omega⟩)
     exact no hsm (by omega) u1 u2 (g1c h2 (C.szmono (by omega) (by omega))) hch
 exact heq j hle (f1I _)
open Classical in
noncomputable def o0k (R:Run) (φ:Inj) (κ:Nat→Nat) (j:Nat):a0f :=
 ((List.range (R.Hh j).size).map fun b=>if φ b ≠ none∧¬ y0Z R κ j b then Blk.dead else (R.Hh j).blk b).toArray
omit C I hs hnj hpre in
theorem e0r (R:Run) (φ:Inj) (κ:Nat→Nat) (j:Nat):(o0k R φ κ j).size=(R.Hh j).size:=by simp [o0k]
omit C I hs hnj hpre in
open Classical in
theorem j0c (R:Run) (φ:Inj) (κ:Nat→Nat) (j b:Nat):(o0k R φ κ j).blk b=if φ b ≠ none∧¬ y0Z R κ j b then Blk.dead else (R.Hh j).blk b:=by
 by_cases hb:b < (R.Hh j).size
 ·simp only [o0k,a0f.blk,f1U,List.getElem?_toArray,g1V,h1r hb,h1b,g1s]
 ·have h1:(o0k R φ κ j).blk b=.dead:=i0d (by rw [e0r];omega)
  have h2:(R.Hh j).blk b=.dead:=i0d (by omega)
  rw [h1,h2];split <;> rfl
omit C I hs hnj hpre in
theorem e0A {b:Nat} {y:Nat × Nat} {ro:Bool} {e:TypeId} {cs:List Value} (hb:φ b=some y) (h:(o0k R φ κ j).blk b=.row ro e cs):y0Z R κ j b∧(R.Hh j).blk b=.row ro e cs:=by
 rw [j0c] at h
 split at h
 ·cases h
 ·rename_i hc
  refine ⟨g1D fun hg=>hc ⟨by rw [hb];simp,hg⟩,h⟩
theorem Inv.rel:Rel X (cut φ (R.Hh j).size) (o0k R φ κ j) w:=by
 have hj:j < l.length:=(g1m.1 hs).1
 refine { bs:=I.base,lt:=fun b x h=>by rw [e0r];exact (b0A.1 h).1,row:=?_,sep:=?_ }
 ·intro b B o1 ro e cs hb hrow
  obtain ⟨h1,h2⟩:=b0A.1 hb
  obtain ⟨⟨g1,g2⟩,h3⟩:=e0A h2 hrow
  obtain ⟨c,el,fz,k1,k2,k3,k4⟩:=(I.Rr b B o1 h2).2.2.2.2 ro e cs (by rw [← g2];exact h3)
  exact ⟨c,el,fz,k1,k2,k3.mono (i0S (C.szmono g1 (by omega)) (fun _ _ _ h=>h)) (fun _ _ h=>h),k4⟩
 ·intro b b' B o1 o2 e cs hb hb' hne hrow
  obtain ⟨h1,h2⟩:=b0A.1 hb
  obtain ⟨h1',h2'⟩:=b0A.1 hb'
  obtain ⟨⟨g1,g2⟩,h3⟩:=e0A h2 hrow
  have hd:=I.P b b' B o1 o2 e cs h2 h2' hne (by rw [← g2];exact h3)
  rw [j0c]
  split
  ·rfl
  ·rename_i hc
   have hg:y0Z R κ j b':=g1D fun hg=>hc ⟨by rw [h2'];simp,hg⟩
   rw [hg.2];exact hd
end
end Go.Proofs.YtjlohmnnldbjoaaGreat.AI
