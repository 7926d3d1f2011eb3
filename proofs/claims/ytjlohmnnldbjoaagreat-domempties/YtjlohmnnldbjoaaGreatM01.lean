/- Part 2 of the proof: AiSim8, AiKeep, AiLocal, AiSim9, AiSim10, AiDraw1, AiDraw2, AiDraw3, AiDraw4. -/
import Derived.Orders
import Derived.Test.YtjlohmnnldbjoaaGreatM00
set_option linter.unusedVariables false
set_option linter.unusedSimpArgs false
set_option linter.unusedSectionVars false
namespace Go.Proofs.YtjlohmnnldbjoaaGreat.AI
section
open Go
variable {X:Cx} {φ φ':Inj} {S:Shp} {H H':a0f} {w w':World} {fl:Nat} {t:b0b} {a:Act} {o:Oper} {so:SOp} {lone:Bool}
theorem Z0v (hc:cOp X.P lone o.op=some so) (hf:(a0y so).all a0X=true) (hR:Rel X φ H w) (hT:CR X φ w.shape? t a.tmps.toList) (hfl:fl≤H.size) {v:Value} (h:opA fl t H so=.val v H') :
  b0p X fl φ H w o a v H':=by
 cases ho:o.op
 case move x =>
  simp only [cOp,ho,j1C] at hc
  obtain ⟨x',hx,rfl⟩:=hc
  simp only [opA,OpRes.val.injEq] at h;obtain ⟨rfl,rfl⟩:=h
  exact U0g hR hT (.inl ho) hx (by simpa [a0y] using hf)
 case assign x =>
  simp only [cOp,ho,j1C] at hc
  obtain ⟨x',hx,rfl⟩:=hc
  simp only [opA,OpRes.val.injEq] at h;obtain ⟨rfl,rfl⟩:=h
  exact U0g hR hT (.inr ho) hx (by simpa [a0y] using hf)
 case pick c x y =>
  simp only [cOp,ho,h1H,h1B,h1K,h1D] at hc
  obtain ⟨c',h1,x',h2,y',h3,rfl⟩:=hc
  simp only [a0y,i1K,h1S,k1m] at hf
  exact N0y hR hT ho h1 h2 h3 hf.1 hf.2.1 hf.2.2.1 h
 case alloc e =>
  simp only [cOp,ho,h1H,h1B,h1K,h1D] at hc
  obtain ⟨z,h1,rfl⟩:=hc
  simp only [opA,OpRes.val.injEq] at h;obtain ⟨rfl,rfl⟩:=h
  exact J0X hR hT hfl ho h1
 case box e x =>
  simp only [cOp,ho,h1H,h1B,h1K,h1D] at hc
  obtain ⟨x',h1,rfl⟩:=hc
  simp only [opA,OpRes.val.injEq] at h;obtain ⟨rfl,rfl⟩:=h
  exact W0z hR hT hfl ho h1 (by simpa [a0y] using hf)
 case build ty ps =>
  simp only [cOp,ho,h1H,h1B,h1K,h1D] at hc
  obtain ⟨fs,h1,hc⟩:=hc
  split at hc
  ·rename_i hall
   simp only [h1B,h1D] at hc
   obtain ⟨z,h2,qs,h3,rfl⟩:=hc
   exact J0Y hR hT ho h1 hall h2 h3 (by simpa [a0y] using hf) h
  ·cases hc
 case buildSlice ty n ps =>
  simp only [cOp,ho,h1H,h1B,h1K,h1D] at hc
  obtain ⟨e,h1,size,h2,z,h3,hc⟩:=hc
  split at hc
  ·rename_i hall
   simp only [h1B,h1D] at hc
   obtain ⟨qs,h4,rfl⟩:=hc
   exact W0F hR hT hfl ho h1 h2 h3 hall.1 hall.2.1 hall.2.2 h4 (by simpa [a0y] using hf) h
  ·cases hc
 case load ty x =>
  simp only [cOp,ho,h1H,h1B,h1K,h1D] at hc
  obtain ⟨b,h1,n,h2,x',h3,rfl⟩:=hc
  exact N0w hR hT ho h2 h1 h3 (by simpa [a0y] using hf) h
 case store ty x y =>
  simp only [cOp,ho,h1H,h1B,h1K,h1D] at hc
  obtain ⟨n,h1,x',h2,y',h3,rfl⟩:=hc
  simp only [a0y,i1K,h1S,k1m] at hf
  exact K0b hR hT ho h1 h2 h3 hf.1 hf.2.1 h
 case nilCheck x =>
  simp only [cOp,ho,h1H,h1B,h1K,h1D] at hc
  obtain ⟨x',h1,rfl⟩:=hc
  exact W0A hR hT ho h1 (by simpa [a0y] using hf) h
 case binOp b ty x y ty2 =>
  simp only [cOp,ho,h1H,h1B,h1K,h1D] at hc
  obtain ⟨d,h1,x',h2,y',h3,rfl⟩:=hc
  simp only [a0y,i1K,h1S,k1m] at hf
  exact W0y hR hT ho h1 h2 h3 hf.1 hf.2.1 h
 case unOp u ty x =>
  simp only [cOp,ho,h1H,h1B,h1K,h1D] at hc
  obtain ⟨x',h1,rfl⟩:=hc
  exact a1E hR hT ho h1 (by simpa [a0y] using hf) h
 case convert s d x =>
  simp only [cOp,ho,h1H,h1B,h1K,h1D] at hc
  obtain ⟨k0,h1,k,h2,x',h3,rfl⟩:=hc
  exact N0v hR hT ho h1 h2 h3 (by simpa [a0y] using hf) h
 case makeInterface ty x =>
  simp only [cOp,ho] at hc
  split at hc
  ·cases hc
  ·cases hc
  ·rename_i d hne hu
   simp only [h1H,h1B,h1K,h1D] at hc
   obtain ⟨x',h1,rfl⟩:=hc
   simp only [opA,OpRes.val.injEq] at h;obtain ⟨rfl,rfl⟩:=h
   exact J0Z hR hT ho hu (fun m hm=>hne m hm) h1 (by simpa [a0y] using hf)
 case makeFunc f xs ys =>
  simp only [cOp,ho] at hc
  split at hc
  ·simp only [h1H,h1B,h1K,h1D] at hc
   obtain ⟨xs',h1,ys',h2,rfl⟩:=hc
   simp only [opA,OpRes.val.injEq] at h;obtain ⟨rfl,rfl⟩:=h
   simp only [a0y,k1r,h1S] at hf
   exact N0x hR hT ho h1 h2 hf.1 hf.2
  ·cases hc
 case makeSlice ty x y =>
  simp only [cOp,ho,h1H,h1B,h1K,h1D] at hc
  obtain ⟨e,h1,size,h2,z,h3,hc⟩:=hc
  split at hc
  ·rename_i hall
   simp only [h1B,h1D] at hc
   obtain ⟨by_,h4,x',h5,y',h6,rfl⟩:=hc
   simp only [a0y,i1K,h1S,k1m] at hf
   exact a1C hR hT hfl ho h1 h2 h4 h3 hall.1 hall.2 h5 h6 hf.1 hf.2.1 h
  ·cases hc
 case slice ty x lo hi mx =>
  simp only [cOp,ho,h1H,h1B,h1K,h1D] at hc
  obtain ⟨e,h1,size,h2,x',h3,lo',h4,hi',h5,mx',h6,rfl⟩:=hc
  simp only [a0y,k1r,h1S,i1K,k1m] at hf
  exact a1D hR hT ho h1 h2 h3 h4 h5 h6 hf.1.1.1.1 hf.1.1.2 hf.1.2 hf.2 h
 case fieldAddr ty x i =>
  simp only [cOp,ho,h1H,h1B,h1K,h1D] at hc
  obtain ⟨fs,h1,f,h2,n,h3,hc⟩:=hc
  split at hc
  ·rename_i hn;subst hn
   split at hc
   ·rename_i hall
    simp only [h1B,h1D] at hc
    obtain ⟨x',h4,rfl⟩:=hc
    exact W0C hR hT ho h1 h2 h3 hall.1 hall.2.1 hall.2.2.1 hall.2.2.2 h4 (by simpa [a0y] using hf) h
   ·cases hc
  ·rename_i hn
   simp only [h1B,h1D] at hc
   obtain ⟨x',h4,rfl⟩:=hc
   exact a1A hR hT ho h1 h2 h3 hn h4 (by simpa [a0y] using hf) h
 case field ty x i =>
  simp only [cOp,ho,h1H,h1B,h1K,h1D] at hc
  obtain ⟨fs,h1,f,h2,b,h3,n,h4,x',h5,rfl⟩:=hc
  exact W0D hR hT ho h1 h2 h4 h3 h5 (by simpa [a0y] using hf) h
 case indexAddr ty x y =>
  simp only [cOp,ho,h1H,h1B,h1K,h1D] at hc
  obtain ⟨e,h1,n,h2,x',h3,y',h4,rfl⟩:=hc
  simp only [a0y,i1K,h1S,k1m] at hf
  exact a1B hR hT ho h1 h2 h3 h4 hf.1 hf.2.1 h
 case extract x i =>
  simp only [cOp,ho,h1H,h1B,h1K,h1D] at hc
  obtain ⟨x',h1,rfl⟩:=hc
  exact W0B hR hT ho h1 (by simpa [a0y] using hf) h
 case call c =>
  obtain ⟨callee,args,ats⟩:=c
  simp only [cOp,ho] at hc
  cases callee with
  | value f =>
   cases f with
   | func f =>
    simp only [] at hc
    split at hc
    ·simp only [h1H,h1B,h1K,h1D] at hc
     obtain ⟨x',h1,rfl⟩:=hc
     simp [opA] at h
    ·cases hc
   | _ =>
    simp only [h1H,h1B,h1K,h1D] at hc
    obtain ⟨x',h1,xs',h2,rfl⟩:=hc
    simp only [opA] at h
    split at h <;> cases h
  | invoke r name =>
   simp only [h1H,h1B,h1K,h1D] at hc
   obtain ⟨x',h1,xs',h2,rfl⟩:=hc
   simp only [opA] at h
   split at h
   ·split at h <;> cases h
   ·cases h
  | builtin b =>
   simp only [] at hc
   split at hc
   ·rename_i x t1 hargs hats
    simp only [h1H,h1B,h1K,h1D] at hc
    obtain ⟨e,h1,x',h2,rfl⟩:=hc
    exact W0E hR hT ho hargs hats h1 h2 (by simpa [a0y] using hf) h
   ·rename_i x ys _ hargs
    simp only [h1H,h1B,h1K,h1D] at hc
    obtain ⟨x',h1,ys',h2,rfl⟩:=hc
    simp only [a0y,i1K,h1S] at hf
    exact K0a hR hT ho rfl hargs h1 h2 hf.1 hf.2 h
   ·rename_i x ys _ hargs
    simp only [h1H,h1B,h1K,h1D] at hc
    obtain ⟨x',h1,ys',h2,rfl⟩:=hc
    simp only [a0y,i1K,h1S] at hf
    exact K0a hR hT ho rfl hargs h1 h2 hf.1 hf.2 h
   ·rename_i s x t1 u1 hargs hats
    simp only [h1H,h1B,h1K,h1D] at hc
    obtain ⟨e,h1,size,h2,z,h3,hc⟩:=hc
    split at hc
    ·rename_i hall
     obtain ⟨ha1,ha2,rfl⟩:=hall
     simp only [h1B,h1D] at hc
     obtain ⟨by_,h4,s',h5,x',h6,rfl⟩:=hc
     simp only [a0y,i1K,h1S,k1m] at hf
     exact W0x hR hT hfl ho rfl hargs hats h1 h2 h4 h3 ha1 ha2 h5 h6 hf.1 hf.2.1 h
    ·cases hc
   ·cases hc
 case panic x =>
  simp only [cOp,ho,h1H,h1B,h1K,h1D] at hc
  obtain ⟨x',h1,rfl⟩:=hc
  simp only [opA] at h
  split at h <;> cases h
 all_goals (simp [cOp,ho] at hc)
theorem d0H {P:Program} {f:FuncId} (h:z0w P f=true) (args:Array Value) (w:World):(callFunc f args).run P w=.ok (.enter f args) w:=by
 unfold z0w at h
 cases hf:P.funcs[f]? with
 | none=>simp [hf] at h
 | some fn =>
  simp only [hf,h1S,j1l] at h
  obtain ⟨h1,h2⟩:=h
  cases hb:fn.body with
  | none=>simp [hb] at h2
  | some c=>simp [callFunc,hf,hb];simpa using h1
theorem o0r {α:Type} {k:Nat} {v:α}:∀ {l:List (Nat × α)},l.lookup k=some v→(k,v) ∈ l
 | [],h=>by simp at h
 | (k',v') :: r,h=>by
  rw [List.lookup_cons] at h
  split at h
  ·rename_i hk
   have:k=k':=by simpa using hk
   subst this
   simp only [h1D] at h
   subst h
   exact k1u
  ·exact j1K _ (o0r h)
def w0d:SOp→Bool
 | .call _ _ _ | .callv _ _ _ | .inv _ _ _ _=>true
 | _=>false
theorem m0r {f:FuncId} {args:List Value} {l:Bool} (h:opA fl t H so=.call f args l):w0d so=true:=by
 cases so <;> simp only [opA] at h <;> first
  | rfl
  | (simp at h;done)
  | (unfold b0H at h;split at h <;> cases h)
  | (unfold g0t at h;split at h <;> cases h)
  | (split at h <;> first | (cases h;done) | (split at h <;> first | (cases h;done) | (split at h <;> first | (cases h;done) | (unfold b0H at h;split at h <;> cases h))) | (unfold b0H at h;split at h <;> cases h))
theorem t0n (hc:cOp X.P lone o.op=some so) (hs:w0d so=true):∃ c,o.op=.call c:=by
 cases ho:o.op
 case call c=>exact ⟨c,rfl⟩
 all_goals
  exfalso
  cases so <;> simp only [w0d,i1a] at hs
  all_goals
   simp only [cOp,ho,j1C,h1H,h1B,h1K,h1D,reduceCtorEq,and_false,exists_const,exists_false] at hc
   try (repeat' (first | (simp only [h1B,h1D,reduceCtorEq,and_false,exists_const,exists_false] at hc;done) | (obtain ⟨_,_,hc⟩:=hc) | (split at hc)))
theorem A0Z (hc:cOp X.P lone o.op=some so) (hf:(a0y so).all a0X=true) (hT:CR X φ w.shape? t a.tmps.toList) {f:FuncId} {args:List Value} {l:Bool} (h:opA fl t H so=.call f args l) :
  ∃ args':Array Value,CR X φ w.shape? args args'.toList∧(execOp a.eval o).run X.P w=(callFunc f args').run X.P w:=by
 cases ho:o.op
 case call c =>
  obtain ⟨callee,cargs,ats⟩:=c
  simp only [cOp,ho] at hc
  cases callee with
  | value g =>
   cases g with
   | func g =>
    simp only [] at hc
    split at hc
    ·simp only [h1H,h1B,h1K,h1D] at hc
     obtain ⟨xs',h1,rfl⟩:=hc
     simp only [opA,OpRes.call.injEq] at h
     obtain ⟨rfl,rfl,rfl⟩:=h
     refine ⟨cargs.map a.eval,by simpa using i0O hT h1 (by simpa [a0y] using hf),?_⟩
     simp [execOp,ho,resolve,Deferred.ofValue,Act.eval,invoke]
    ·cases hc
   | _ =>
    simp only [h1H,h1B,h1K,h1D] at hc
    obtain ⟨x',h1,xs',h2,rfl⟩:=hc
    simp only [a0y,i1K,h1S] at hf
    have hv:=b0O hT h1 hf.1
    have hvs:=i0O hT h2 hf.2
    simp only [opA] at h
    split at h
    ·rename_i g first captured e1
     simp only [OpRes.call.injEq] at h
     obtain ⟨rfl,rfl,rfl⟩:=h
     rw [e1] at hv
     generalize hg:a.eval _=gg at hv
     cases hv with
     | func _ _ _ f' c' k1 k2 k3 k4 =>
      have c1:CR X φ w.shape? first.toList f'.toList:=VR.agg_iff.1 (.agg _ _ k1 k2)
      have c2:CR X φ w.shape? captured.toList c'.toList:=VR.agg_iff.1 (.agg _ _ k3 k4)
      refine ⟨f' ++ cargs.map a.eval ++ c',by simpa using (c1.append hvs).append c2,?_⟩
      simp [execOp,ho,resolve,Deferred.ofValue,hg,invoke]
    ·cases h
  | invoke r name =>
   simp only [h1H,h1B,h1K,h1D] at hc
   obtain ⟨x',h1,xs',h2,rfl⟩:=hc
   simp only [a0y,i1K,h1S] at hf
   have hv:=b0O hT h1 hf.1
   have hvs:=i0O hT h2 hf.2
   simp only [opA] at h
   split at h
   ·rename_i ty v e1
    split at h
    ·rename_i g hlk
     simp only [OpRes.call.injEq] at h
     obtain ⟨rfl,rfl,rfl⟩:=h
     rw [e1] at hv
     generalize hg:a.eval r=gg at hv
     cases hv with
     | iface _ _ v' k1 =>
      refine ⟨#[v'] ++ cargs.map a.eval,by simpa using k1.cons_cr hvs,?_⟩
      -- the method is found, direct, of a value
      have hmem:(ty,g) ∈ t0H X.P name:=o0r hlk
      unfold t0H at hmem
      rw [List.mem_filterMap] at hmem
      obtain ⟨t0,ht0,hm⟩:=hmem
      have ht0:=i1G.1 ht0
      split at hm
      ·rename_i i hi
       split at hm
       ·rename_i m hfind
        split at hm
        ·rename_i g0 fs hfn hund
         split at hm
         ·rename_i hpr
          simp only [h1D,j1w] at hm
          obtain ⟨rfl,rfl⟩:=hm
          simp only [h1S] at hpr
          have hpath:m.path.toList=[]:=by simpa using hpr.1
          have hpos:∃ k,X.P.types.size + Made.depth=k + 1:=⟨X.P.types.size + Made.depth - 1,by omega⟩
          obtain ⟨k,hk⟩:=hpos
          have hmeth:(method (X.P.types.size + Made.depth) t0 v' name).run X.P w=.ok (g0,v') w:=by
           rw [hk,method]
           simp [typeInfo,hi,hfind,hpath,follow,hfn,receiverAt,run_underlying hund,Place.get]
          have hz:(#[Value.iface t0 v'] ++ cargs.map a.eval)[0]? = some (.iface t0 v'):=by simp [Array.getElem?_append]
          have hex:(#[Value.iface t0 v'] ++ cargs.map a.eval).extract 1 (#[Value.iface t0 v'] ++ cargs.map a.eval).size=cargs.map a.eval:=by
           apply Array.ext';simp [h1O]
          simp only [execOp,ho,resolve,Sem.run_bind,Sem.run_pure,Result.andThen_ok,hg,invoke,hz,hex,callMethod,run_program,hmeth]
         ·cases hm
        ·cases hm
       ·cases hm
      ·cases hm
    ·cases h
   ·cases h
  | builtin b =>
   simp only [] at hc
   split at hc
   ·simp only [h1H,h1B,h1K,h1D] at hc
    obtain ⟨e,h1,x',h2,rfl⟩:=hc
    simp only [opA] at h;split at h <;> cases h
   ·simp only [h1H,h1B,h1K,h1D] at hc
    obtain ⟨x',h1,ys',h2,rfl⟩:=hc
    simp only [opA] at h;unfold b0H at h;split at h <;> cases h
   ·simp only [h1H,h1B,h1K,h1D] at hc
    obtain ⟨x',h1,ys',h2,rfl⟩:=hc
    simp only [opA] at h;unfold b0H at h;split at h <;> cases h
   ·simp only [h1H,h1B,h1K,h1D] at hc
    obtain ⟨e,h1,size,h2,z,h3,hc⟩:=hc
    split at hc
    ·simp only [h1B,h1D] at hc
     obtain ⟨by_,h4,s',h5,x',h6,rfl⟩:=hc
     simp only [opA] at h;unfold g0t at h;split at h <;> cases h
    ·cases hc
   ·cases hc
 all_goals
  obtain ⟨c,hcc⟩:=t0n hc (m0r h)
  rw [ho] at hcc;cases hcc
end
section
open Go
variable {H H' H1:a0f} {fl:Nat} {t:b0b} {so:SOp}
inductive Turn (fl:Nat) (ws:List Nat) (H:a0f):a0f→Prop
 | same:Turn fl ws H H
 | push (r:Blk):Turn fl ws H (H.push r)
 | set (b:Nat) (e:TypeId) (cs cs':List Value) (h:H.blk b=.row false e cs) (hb:b ∈ ws) (hf:fl≤b):Turn fl ws H (H.setIfInBounds b (.row false e cs'))
 | move (b:Nat) (e:TypeId) (cs:List Value) (r:Blk) (h:H.blk b=.row false e cs) (hb:b ∈ ws) (hf:fl≤b):Turn fl ws H ((H.setIfInBounds b .dead).push r)
theorem q0c {v:Value} (h:opA fl t H so=.val v H1):Turn fl (d0a t so).2 H H1:=by
 have opt:∀ {x:Option Value},b0H H x=.val v H1→Turn fl (d0a t so).2 H H1:=fun {x} hx=>by
  cases x with
  | none=>simp [b0H] at hx
  | some u=>simp [b0H] at hx;rw [← hx.2];exact .same
 cases so <;> simp only [opA] at h
 case mv=>simp at h;rw [← h.2];exact .same
 case pick=>split at h <;> simp at h <;> (rw [← h.2];exact .same)
 case alloc=>simp at h;rw [← h.2];exact .push _
 case box=>simp at h;rw [← h.2];exact .push _
 case build=>exact opt h
 case lit=>split at h <;> simp at h;rw [← h.2];exact .push _
 case load=>exact opt h
 case store n a x =>
  split at h
  ·rename_i p hp
   split at h
   ·cases h
   ·split at h
    ·rename_i H2 hw
     simp at h;rw [← h.2]
     unfold a0f.write? at hw
     split at hw
     ·rename_i e cs hk
      split at hw
      ·rename_i hc;cases hw
       exact .set _ _ _ _ hk (by simp [d0a,hp,blkOf]) hc.1
      ·cases hw
     ·cases hw
    ·cases h
  ·cases h
 case chk=>split at h <;> simp at h <;> (rw [← h.2];exact .same)
 case bin=>exact opt h
 case un=>exact opt h
 case conv=>split at h <;> simp at h;rw [← h.2];exact .same
 case iface=>simp at h;rw [← h.2];exact .same
 case mkfn=>simp at h;rw [← h.2];exact .same
 case mk =>
  split at h
  ·split at h <;> simp at h;rw [← h.2];exact .push _
  ·cases h
 case sl => split at h; · cases h
            ·exact opt h
 case fa => split at h
            ·split at h <;> simp at h;rw [← h.2];exact .same
            ·cases h
 case fa0 =>
  split at h
  ·split at h
   ·split at h <;> simp at h;rw [← h.2];exact .same
   ·cases h
  ·cases h
 case fld=>exact opt h
 case ia =>
  split at h
  ·split at h <;> simp at h;rw [← h.2];exact .same
  ·cases h
 case ext =>
  split at h
  ·exact opt h
  ·cases h
 case call=>cases h
 case callv=>split at h <;> cases h
 case inv =>
  split at h
  ·split at h <;> cases h
  ·cases h
 case len=>split at h <;> simp at h;rw [← h.2];exact .same
 case mnx=>exact opt h
 case app e size bytes s x =>
  cases hap:k0c fl H e size bytes (ev t s) (ev t x) with
  | none=>simp [hap,g0t] at h
  | some r =>
   obtain ⟨rv,rH⟩:=r
   simp only [hap,g0t,OpRes.val.injEq] at h
   obtain ⟨rfl,rfl⟩:=h
   unfold k0c at hap
   split at hap
   ·rename_i base len cap xb n xc e1 e2
    split at hap
    ·cases hap;exact .same
    ·split at hap
     ·split at hap
      ·cases hap
      ·split at hap
       ·cases hap
       ·split at hap
        ·cases hap
        split at hap
        ·split at hap
         ·cases hap;exact .push _
         ·cases hap
        ·rename_i sp
         split at hap
         ·cases hap;exact .push _
         rename_i h00
         split at hap
         ·cases hap
         ·split at hap
          ·cases hap;exact .push _
          ·split at hap
           ·rename_i e' cs hk
            split at hap
            ·rename_i hc;cases hap
             exact .move _ _ _ _ hk (by simp only [d0a,e1,blkW];rw [h1C h00];simp) hc.2
            ·cases hap
           ·cases hap
     ·cases hap
   ·cases hap
 case pan=>split at h <;> cases h
structure f0L (fl:Nat) (H H1:a0f):Prop where
 size:H.size≤H1.size
 low:∀ b,b < fl→H1.blk b=H.blk b
 kind:∀ b e cs,b < H.size→H1.blk b=.row false e cs→∃ cs0,H.blk b=.row false e cs0
 kindR:∀ b e cs,b < H.size→H1.blk b=.row true e cs→H.blk b=.row true e cs
theorem f0L.refl:f0L fl H H:=⟨h1A _,fun _ _=>rfl,fun _ _ cs _ h=>⟨cs,h⟩,fun _ _ _ _ h=>h⟩
theorem f0L.trans {fl1:Nat} {H2:a0f} (h:f0L fl H H1) (k:f0L fl1 H1 H2) (hf:fl≤fl1):f0L fl H H2 :=
 ⟨h1R h.size k.size,fun b hb=>(k.low b (by omega)).trans (h.low b hb),fun b e cs hb hk=>by
  obtain ⟨c1,h1⟩:=k.kind b e cs (h1W hb h.size) hk
  exact h.kind b e c1 hb h1,fun b e cs hb hk=>h.kindR b e cs hb (k.kindR b e cs (h1W hb h.size) hk)⟩
theorem Turn.keep {ws:List Nat} (hfl:fl≤H.size) (h:Turn fl ws H H1):f0L fl H H1:=by
 cases h with
 | same=>exact f0L.refl
 | push r=>exact ⟨by simp,fun b hb=>by rw [a0K,h1C (by omega)],fun b e cs hb hk=>by rw [a0K,h1C (by omega)] at hk;exact ⟨cs,hk⟩,fun b e cs hb hk=>by rw [a0K,h1C (by omega)] at hk;exact hk⟩
 | set b e cs cs' h hb hf =>
  have hl:=a0l h
  exact ⟨by simp,fun c hc=>by rw [a0Z _ _ _ _ hl,h1C (by omega)],fun c e1 cs1 hc hk=>by
   rw [a0Z _ _ _ _ hl] at hk
   split at hk
   ·rename_i hcb;subst hcb;cases hk;exact ⟨cs,h⟩
   ·exact ⟨cs1,hk⟩,fun c e1 cs1 hc hk=>by
   rw [a0Z _ _ _ _ hl] at hk
   split at hk
   ·cases hk
   ·exact hk⟩
 | move b e cs r h hb hf =>
  have hl:=a0l h
  exact ⟨by simp,fun c hc=>by rw [a0K,h1C (by simp;omega),a0Z _ _ _ _ hl,h1C (by omega)],fun c e1 cs1 hc hk=>by
   rw [a0K,h1C (by simp;omega),a0Z _ _ _ _ hl] at hk
   split at hk
   ·cases hk
   ·exact ⟨cs1,hk⟩,fun c e1 cs1 hc hk=>by
   rw [a0K,h1C (by simp;omega),a0Z _ _ _ _ hl] at hk
   split at hk
   ·cases hk
   ·exact hk⟩
theorem Turn.changed {ws:List Nat} (h:Turn fl ws H H1) {b:Nat} (hb:b < H.size) (hne:H1.blk b ≠ H.blk b):b ∈ ws:=by
 cases h with
 | same=>exact h1Y rfl hne
 | push r=>rw [a0K,h1C (by omega)] at hne;exact h1Y rfl hne
 | set c e cs cs' h hc hf =>
  by_cases hcb:b=c
  ·subst hcb;exact hc
  ·rw [a0Z _ _ _ _ (a0l h),h1C hcb] at hne;exact h1Y rfl hne
 | move c e cs r h hc hf =>
  by_cases hcb:b=c
  ·subst hcb;exact hc
  ·rw [a0K,h1C (by simp;omega),a0Z _ _ _ _ (a0l h),h1C hcb] at hne;exact h1Y rfl hne
def h0H (call:Nat→FuncId→List Value→a0f→Res (Value × a0f)):Prop :=
 ∀ fl f args H v H1,call fl f args H=.ok (v,H1)→fl≤H.size→f0L fl H H1
section
variable {call:Nat→FuncId→List Value→a0f→Res (Value × a0f)} (hcall:h0H call)
include hcall
theorem k0J {v:Value} (hfl:fl≤H.size) (h:b0D call fl t H so=.ok (v,H1)):f0L fl H H1:=by
 unfold b0D at h
 split at h
 ·cases h
 ·cases h
 ·rename_i v' H2 hv
  simp at h;obtain ⟨rfl,rfl⟩:=h
  exact (q0c hv).keep hfl
 ·rename_i f args lone hc
  have hk:=hcall _ _ _ _ _ _ h (by split <;> omega)
  exact ⟨hk.size,fun b hb=>hk.low b (by split <;> omega),hk.kind,hk.kindR⟩
theorem n0k:∀ (ops:List a0L) (t:b0b) (H:a0f),fl≤H.size→∀ {e t1 H1},f0a call fl ops t H=.fin e t1 H1→f0L fl H H1∧e=.normal
 | [],t,H,_,e,t1,H1,h=>by simp [f0a] at h;obtain ⟨rfl,rfl,rfl⟩:=h;exact ⟨f0L.refl,rfl⟩
 | o :: r,t,H,hfl,e,t1,H1,h=>by
  simp only [f0a] at h
  split at h
  ·split at h
   ·cases h
   ·cases h
   ·rename_i v H2 hs
    have k:=k0J hcall hfl hs
    obtain ⟨k2,he⟩:=n0k r _ H2 (h1R hfl k.size) h
    exact ⟨k.trans k2 (h1A _),he⟩
  ·exact n0k r _ H hfl h
theorem f0A (bef:List Nat) (pairs:List (Nat × Nat)):∀ (ops:List a0L) (i:Nat) (t:b0b) (H:a0f) (p:Option (Nat × Value)) (log:List (List Nat × List Nat)),fl≤H.size →
  ∀ {e t1 H1},b0S call fl bef pairs i ops t H p log=.fin e t1 H1→f0L fl H H1∧e=.normal
 | [],i,t,H,p,log,_,e,t1,H1,h=>by
  simp only [b0S] at h
  split at h
  ·split at h
   ·cases h;exact ⟨f0L.refl,rfl⟩
   ·cases h
  ·cases h
 | o :: r,i,t,H,p,log,hfl,e,t1,H1,h=>by
  simp only [b0S] at h
  split at h
  ·exact f0A bef pairs r _ _ H _ _ hfl h
  ·split at h
   ·split at h
    ·cases h
    ·split at h
     ·exact f0A bef pairs r _ _ H _ _ hfl h
     ·cases h
    ·rename_i v H2 hs
     have k:=k0J hcall hfl hs
     obtain ⟨k2,he⟩:=f0A bef pairs r _ _ H2 _ _ (h1R hfl k.size) h
     exact ⟨k.trans k2 (h1A _),he⟩
   ·exact f0A bef pairs r _ _ H _ _ hfl h
theorem c0n:∀ (n:Nat) (c:SCode) (t:b0b) (H:a0f),fl≤H.size→∀ {e t1 H1},b0c call fl n c t H=.fin e t1 H1→f0L fl H H1
 | 0,_,_,_,_,_,_,_,h=>by simp [b0c] at h
 | n + 1,c,t,H,hfl,e,t1,H1,h=>by
  cases c <;> simp only [b0c] at h
  case skip=>cases h;exact f0L.refl
  case exit=>cases h;exact f0L.refl
  case ret=>cases h;exact f0L.refl
  case seq a b =>
   split at h
   ·rename_i t2 H2 ha
    have k:=c0n n a t H hfl ha
    exact k.trans (c0n n b t2 H2 (h1R hfl k.size) h) (h1A _)
   ·exact c0n n a t H hfl h
  case cond c a b =>
   split at h
   ·exact c0n n a t H hfl h
   ·exact c0n n b t H hfl h
   ·cases h
  case block id c =>
   split at h
   ·rename_i id' t2 H2 hc
    have k:=c0n n c t H hfl hc
    split at h <;> (cases h;exact k)
   ·exact c0n n c t H hfl h
  case loop c =>
   split at h
   ·rename_i t2 H2 hc
    have k:=c0n n c t H hfl hc
    exact k.trans (c0n n (.loop c) t2 H2 (h1R hfl k.size) h) (h1A _)
   ·exact c0n n c t H hfl h
  case reg ops=>exact (n0k hcall ops t H hfl h).1
  case draw ops bef pairs=>exact (f0A hcall bef pairs ops 0 t H none [] hfl h).1
end
theorem h0I (E:Env):∀ n,h0H (b0r E n)
 | 0=>fun _ _ _ _ _ _ h=>by simp [b0r] at h
 | n + 1=>fun fl f args H v H1 h hfl=>by
  simp only [b0r] at h
  split at h
  ·split at h
   ·simp at h;obtain ⟨_,rfl⟩:=h;exact f0L.refl
   split at h
   ·split at h
    ·split at h
     ·rename_i q hq hfq p s
      split at h
      case isFalse=>cases h
      unfold d0S at h
      split at h
      ·cases h
      ·simp at h;obtain ⟨_,rfl⟩:=h;exact f0L.refl
      ·cases h
      ·rename_i vs H2 hc
       split at h
       ·split at h
        case isFalse=>cases h
        simp at h;obtain ⟨_,rfl⟩:=h
        have k:=h0I E n _ _ _ _ _ _ hc (by omega)
        exact ⟨k.size,fun b hb=>k.low b (by omega),k.kind,k.kindR⟩
       ·cases h
      ·cases h
     ·cases h
    ·cases h
   ·cases h
  ·split at h
   ·split at h
    ·cases h
    ·cases h
    ·rename_i e t1 H2 hx
     have k:=c0n (h0I E n) n _ _ H hfl hx
     split at h
     ·cases h
     ·split at h
      ·simp at h;obtain ⟨_,rfl⟩:=h;exact k
      ·cases h
   ·cases h
end
section
open Go
variable {H H' H1 G G1:a0f} {fl:Nat} {t:b0b} {so:SOp}
structure Par (H H1 G G1:a0f):Prop where
 size:G1.size=H1.size
 same:∀ b,b < H.size→H1.blk b=H.blk b→G1.blk b=G.blk b
 diff:∀ b,b < H.size→H1.blk b ≠ H.blk b→G1.blk b=H1.blk b
 more:∀ b,H.size≤b→G1.blk b=H1.blk b
theorem i0y {H:a0f} {b:Nat} (h:H.size≤b):H.blk b=.dead:=by
 simp only [a0f.blk,h1N]
 rw [j1B h];rfl
theorem Par.refl (hs:G.size=H.size):Par H H G G :=
 ⟨hs,fun _ _ _=>rfl,fun _ _ h=>h1Y rfl h,fun b hb=>by rw [i0y hb,i0y (by omega)]⟩
theorem Par.push (hs:G.size=H.size) (r:Blk):Par H (H.push r) G (G.push r) :=
 ⟨by simp [hs],fun b hb _=>by rw [a0K,h1C (by omega)],fun b hb h=>by rw [a0K,h1C (by omega)] at h;exact h1Y rfl h,fun b hb=>by
  rw [a0K,a0K,hs]
  split
  ·rfl
  ·rw [i0y (show G.size≤b by omega),i0y hb]⟩
theorem Par.set (hs:G.size=H.size) {c:Nat} (hc:c < H.size) (hk:G.blk c=H.blk c) (r:Blk):Par H (H.setIfInBounds c r) G (G.setIfInBounds c r) :=
 ⟨by simp [hs],fun b hb h=>by
  rw [a0Z _ _ _ _ hc] at h;rw [a0Z _ _ _ _ (by omega)]
  split at h
  ·rename_i hbc;subst hbc;rw [h1F rfl,h,hk]
  ·rename_i hbc;rw [h1C hbc],fun b hb h=>by
  rw [a0Z _ _ _ _ hc] at h ⊢;rw [a0Z _ _ _ _ (by omega)]
  split at h
  ·rename_i hbc;rw [h1F hbc,h1F hbc]
  ·exact h1Y rfl h,fun b hb=>by
  rw [a0Z _ _ _ _ hc,a0Z _ _ _ _ (by omega),h1C (by omega),h1C (by omega),i0y hb,i0y (by omega)]⟩
theorem Par.move (hs:G.size=H.size) {c:Nat} (hc:c < H.size) (hk:G.blk c=H.blk c) (r s:Blk):Par H ((H.setIfInBounds c r).push s) G ((G.setIfInBounds c r).push s):=by
 have p:=Par.set hs hc hk r
 have sz1:(H.setIfInBounds c r).size=H.size:=by simp
 have sz2:(G.setIfInBounds c r).size=G.size:=by simp
 refine ⟨by simp [hs],fun b hb h=>?_,fun b hb h=>?_,fun b hb=>?_⟩
 ·rw [a0K,h1C (by omega)] at h ⊢;exact p.same b hb h
 ·rw [a0K,h1C (by omega)] at h ⊢;rw [a0K,h1C (by omega)];exact p.diff b hb h
 ·rw [a0K,a0K,sz1,sz2,hs]
  split
  ·rfl
  ·exact p.more b hb
theorem i0M {b off n:Nat} (h:G.blk b=H.blk b):G.cells? b off n=H.cells? b off n:=by unfold a0f.cells?;rw [h]
theorem A0Y {v:Value} (h:opA fl t H so=.val v H1) (hs:G.size=H.size) (hfp:∀ b,b ∈ (d0a t so).1 ∨ b ∈ (d0a t so).2→G.blk b=H.blk b) :
  ∃ G1,opA fl t G so=.val v G1∧Par H H1 G G1:=by
 have opt:∀ {x y:Option Value},b0H H x=.val v H1→y=x→∃ G1,b0H G y=.val v G1∧Par H H1 G G1:=fun {x y} hx hxy=>by
  subst hxy
  cases y with
  | none=>simp [b0H] at hx
  | some u=>simp [b0H] at hx;obtain ⟨rfl,rfl⟩:=hx;exact ⟨G,rfl,Par.refl hs⟩
 cases so <;> simp only [opA] at h ⊢
 case mv=>simp at h;obtain ⟨rfl,rfl⟩:=h;exact ⟨G,rfl,Par.refl hs⟩
 case pick=>split at h <;> simp at h <;> (obtain ⟨rfl,rfl⟩:=h;exact ⟨G,rfl,Par.refl hs⟩)
 case alloc=>simp at h;obtain ⟨rfl,rfl⟩:=h;rw [hs];exact ⟨_,rfl,Par.push hs _⟩
 case box=>simp at h;obtain ⟨rfl,rfl⟩:=h;rw [hs];exact ⟨_,rfl,Par.push hs _⟩
 case build=>exact opt h rfl
 case lit=>split at h <;> simp at h;obtain ⟨rfl,rfl⟩:=h;rw [hs];exact ⟨_,rfl,Par.push hs _⟩
 case load agg n a =>
  refine opt h ?_
  unfold b0x
  split
  ·rename_i p hp
   have hb:G.blk p.block=H.blk p.block:=hfp _ (.inl (by simp [d0a,hp,blkOf]))
   rw [i0M hb]
  ·rfl
 case store n a x =>
  split at h
  ·rename_i p hp
   have hb:G.blk p.block=H.blk p.block:=hfp _ (.inr (by simp [d0a,hp,blkOf]))
   split at h
   ·cases h
   ·rename_i hc
    rw [h1C hc]
    split at h
    ·rename_i H2 hw
     simp at h;obtain ⟨rfl,rfl⟩:=h
     unfold a0f.write? at hw ⊢
     rw [hb]
     split at hw
     ·rename_i e cs hk
      split at hw
      ·rename_i hc2;cases hw
       rw [h1F hc2]
       exact ⟨_,rfl,Par.set hs (a0l hk) hb _⟩
      ·cases hw
     ·cases hw
    ·cases h
  ·cases h
 case chk=>split at h <;> simp at h <;> (obtain ⟨rfl,rfl⟩:=h;exact ⟨G,rfl,Par.refl hs⟩)
 case bin=>exact opt h rfl
 case un=>exact opt h rfl
 case conv=>split at h <;> simp at h;obtain ⟨rfl,rfl⟩:=h;exact ⟨G,rfl,Par.refl hs⟩
 case iface=>simp at h;obtain ⟨rfl,rfl⟩:=h;exact ⟨G,rfl,Par.refl hs⟩
 case mkfn=>simp at h;obtain ⟨rfl,rfl⟩:=h;exact ⟨G,rfl,Par.refl hs⟩
 case mk =>
  split at h
  ·split at h
   ·rename_i hc;simp at h;obtain ⟨rfl,rfl⟩:=h;rw [h1F hc,hs];exact ⟨_,rfl,Par.push hs _⟩
   ·cases h
  ·cases h
 case sl e size x lo hi mx =>
  have he:elemOk G e (ev t x)=elemOk H e (ev t x):=by
   unfold elemOk
   split
   ·rename_i p _ _ hp
    have hb:G.blk p.block=H.blk p.block:=hfp _ (.inl (by simp [d0a,hp,blkOf]))
    rw [hb]
   ·rfl
  rw [he]
  split at h
  ·cases h
  ·rename_i hc;rw [h1C hc];exact opt h rfl
 case fa =>
  split at h
  ·split at h
   ·cases h
   ·rename_i hc;simp at h;obtain ⟨rfl,rfl⟩:=h;rw [h1C hc];exact ⟨G,rfl,Par.refl hs⟩
  ·cases h
 case fa0 e x =>
  split at h
  ·rename_i p hp
   have hb:G.blk p.block=H.blk p.block:=hfp _ (.inl (by simp [d0a,hp,blkOf]))
   rw [hb]
   split at h
   ·split at h
    ·rename_i hc;simp at h;obtain ⟨rfl,rfl⟩:=h;rw [h1F hc];exact ⟨G,rfl,Par.refl hs⟩
    ·cases h
   ·cases h
  ·cases h
 case fld=>exact opt h rfl
 case ia =>
  split at h
  ·split at h
   ·rename_i hc;simp at h;obtain ⟨rfl,rfl⟩:=h;rw [h1F hc];exact ⟨G,rfl,Par.refl hs⟩
   ·cases h
  ·cases h
 case ext =>
  split at h
  ·exact opt h rfl
  ·cases h
 case call=>cases h
 case callv=>split at h <;> cases h
 case inv =>
  split at h
  ·split at h <;> cases h
  ·cases h
 case len=>split at h <;> simp at h;obtain ⟨rfl,rfl⟩:=h;exact ⟨G,rfl,Par.refl hs⟩
 case mnx=>exact opt h rfl
 case app e size bytes s x =>
  cases hap:k0c fl H e size bytes (ev t s) (ev t x) with
  | none=>simp [hap,g0t] at h
  | some r =>
   obtain ⟨rv,rH⟩:=r
   simp only [hap,g0t,OpRes.val.injEq] at h
   obtain ⟨rfl,rfl⟩:=h
   unfold k0c at hap ⊢
   split at hap
   ·rename_i base len cap xb n xc e1 e2
    split at hap
    ·rename_i hn;cases hap;rw [h1F hn];exact ⟨G,rfl,Par.refl hs⟩
    ·rename_i hn;rw [h1C hn]
     split at hap
     ·rename_i hbd;rw [h1F hbd]
      split at hap
      ·cases hap
      ·rename_i xp
       have hbx:G.blk xp.block=H.blk xp.block:=hfp _ (.inl (by simp [d0a,e2,blkOf]))
       simp only [i0M hbx]
       split at hap
       ·cases hap
       ·rename_i new hnew
        try simp only []
        split at hap
        ·cases hap
        rename_i hpl;rw [h1C hpl]
        split at hap
        ·split at hap
         ·rename_i hz;cases hap;rw [h1F hz,hs];exact ⟨_,rfl,Par.push hs _⟩
         ·cases hap
        ·rename_i sp
         split at hap
         ·rename_i h00;cases hap;rw [h1F h00,hs];exact ⟨_,rfl,Par.push hs _⟩
         rename_i h00;rw [h1C h00]
         have hbs:G.blk sp.block=H.blk sp.block:=hfp _ (.inr (by simp only [d0a,e1,blkW];rw [h1C h00];simp))
         simp only [i0M hbs]
         split at hap
         ·cases hap
         ·rename_i old hold
          try simp only []
          split at hap
          ·rename_i hc;cases hap;rw [h1F hc,hs];exact ⟨_,rfl,Par.push hs _⟩
          ·rename_i hc;rw [h1C hc,hbs]
           split at hap
           ·rename_i e' cs hk
            try simp only []
            split at hap
            ·rename_i hc2;cases hap;rw [h1F hc2,hs];exact ⟨_,rfl,Par.move hs (a0l hk) hbs _ _⟩
            ·cases hap
           ·cases hap
     ·cases hap
   ·cases hap
 case pan=>split at h <;> cases h
theorem i0D {f:FuncId} {args:List Value} {l:Bool} (h:opA fl t H so=.call f args l):∀ fl G,opA fl t G so=.call f args l:=by
 intro fl' G
 cases so <;> simp only [opA] at h ⊢
 case call=>simpa using h
 case callv=>split at h <;> simp_all
 case inv =>
  split at h
  ·split at h <;> simp_all
  ·cases h
 case ext=>split at h;(unfold b0H at h;split at h <;> cases h);cases h
 case app=>unfold g0t at h;split at h <;> cases h
 case store=>split at h;(split at h;cases h;(split at h <;> cases h));cases h
 case fa0=>split at h;(split at h;(split at h <;> cases h);cases h);cases h
 case sl=>split at h;cases h;(unfold b0H at h;split at h <;> cases h)
 all_goals first
  | (simp at h;done)
  | (unfold b0H at h;split at h <;> cases h)
  | (split at h <;> first | (cases h;done) | (split at h <;> cases h))
theorem f0W {v:Value} (h:opA fl t H so=.pan v):(∃ ty u,v=.iface ty u)∧∃ x,so=.pan x∧ev t x=v:=by
 cases so <;> simp only [opA] at h
 case pan x=>split at h <;> cases h;rename_i ty u hx;exact ⟨⟨_,_,rfl⟩,x,rfl,hx⟩
 case call=>cases h
 case callv=>split at h <;> cases h
 case inv =>
  split at h
  ·split at h <;> cases h
  ·cases h
 case ext=>split at h;(unfold b0H at h;split at h <;> cases h);cases h
 case app=>unfold g0t at h;split at h <;> cases h
 case store=>split at h;(split at h;cases h;(split at h <;> cases h));cases h
 case fa0=>split at h;(split at h;(split at h <;> cases h);cases h);cases h
 case sl=>split at h;cases h;(unfold b0H at h;split at h <;> cases h)
 all_goals first
  | (simp at h;done)
  | (unfold b0H at h;split at h <;> cases h)
  | (split at h <;> first | (cases h;done) | (split at h <;> cases h))
end
section
open Go
variable {X:Cx} {φ φ':Inj} {S:Shp} {H H':a0f} {w w':World} {fl:Nat} {t:b0b} {a:Act} {o:Oper} {so:SOp} {lone:Bool}
structure Pan (X:Cx) (fl:Nat) (φ:Inj) (H:a0f) (w:World) (w':World):Prop where
 shp:∀ B x,w.shape? B=some x→w'.shape? B=some x
 wsz:w.heap.size≤w'.heap.size
 os:w'.os=w.os
 tape:w'.tape=w.tape
 out:w'.output=w.output
 frame:∀ B,B < w.heap.size→(∀ b o e cs,φ b=some (B,o)→fl≤b→H.blk b ≠ .row false e cs)→w'.heap[B]? = w.heap[B]?
theorem Pan.after {fl1:Nat} {φ1:Inj} {H1:a0f} {w1 w2:World} (h:d0p X fl φ H w φ1 H1 w1) (k:Pan X fl1 φ1 H1 w1 w2) (hf:fl≤fl1) (hr:Rel X φ H w):Pan X fl φ H w w2 :=
 { shp := fun B x hb => k.shp _ _ (h.shp _ _ hb)
   wsz:=h1R h.wsz k.wsz
   os:=k.os.trans h.os
   tape:=k.tape.trans h.tape
   out:=k.out.trans h.out
   frame:=fun B hB hno=>by
    rw [k.frame B (h1W hB h.wsz) ?_,h.frame B hB hno]
    intro b o e cs hb hfl hrow
    cases h1:φ b with
    | none =>
     rcases h.newB b B o hb h1 with h2 | ⟨b0,o0,e0,cs0,h2,h3,h4⟩
     ·omega
     ·exact hno b0 o0 e0 cs0 h2 h3 h4
    | some y =>
     have:=h.ext b y h1
     rw [hb] at this;cases this
     obtain ⟨cs0,h6⟩:=h.kind b e cs (hr.lt b _ h1) hrow
     exact hno b o e cs0 h1 (by omega) h6 }
theorem d0p.lower {fl1:Nat} (h:d0p X fl1 φ H w φ' H' w') (hf:fl≤fl1):d0p X fl φ H w φ' H' w' :=
 { h with
   keep:=fun b hb=>h.keep b (by omega)
   newB:=fun b B o hb hn=>by
    rcases h.newB b B o hb hn with h1 | ⟨b0,o0,e,cs,h1,h2,h3⟩
    ·exact .inl h1
    ·exact .inr ⟨b0,o0,e,cs,h1,by omega,h3⟩
   frame:=fun B hB hno=>h.frame B hB (fun b o e cs hb hfl=>hno b o e cs hb (by omega)) }
theorem Pan.lower {fl1:Nat} (h:Pan X fl1 φ H w w') (hf:fl≤fl1):Pan X fl φ H w w' :=
 { h with frame:=fun B hB hno=>h.frame B hB (fun b o e cs hb hfl=>hno b o e cs hb (by omega)) }
theorem Pan.same:Pan X fl φ H w w:=⟨fun _ _ h=>h,h1A _,rfl,rfl,rfl,fun _ _ _=>rfl⟩
def d1E:XA→Exit
 | .normal=>.normal
 | .exit id=>.exit id
 | .ret=>.ret
def K0q (X:Cx) (D:List Deferred) (fl:Nat) (φ:Inj) (H:a0f) (w:World):Out→Exit→Act→World→Prop
 | .bad,_,_,_=>False
 | .pan _,e,a',w'=>(∃ ty u,e=.panic [{ v:=.iface ty u,recovered:=false }])∧a'.defers=D∧Pan X fl φ H w w'
 | .fin x t' H',e,a',w'=>e=d1E x∧a'.defers=D∧∃ φ',CR X φ' w'.shape? t' a'.tmps.toList∧d0p X fl φ H w φ' H' w'
theorem K0q.after {D:List Deferred} {φ1:Inj} {H1:a0f} {w1 w2:World} {out:Out} {e:Exit} {a':Act} (h:d0p X fl φ H w φ1 H1 w1) (hr:Rel X φ H w) (k:K0q X D fl φ1 H1 w1 out e a' w2):K0q X D fl φ H w out e a' w2:=by
 cases out with
 | bad=>exact k
 | pan v=>exact ⟨k.1,k.2.1,Pan.after h k.2.2 (h1A _) hr⟩
 | fin x t' H' =>
  obtain ⟨h1,h2,φ',h3,h4⟩:=k
  exact ⟨h1,h2,φ',h3,h.trans h4 (h1A _) hr⟩
def d0Z (X:Cx) (call:Nat→FuncId→List Value→a0f→Res (Value × a0f)):Prop :=
 ∀ (fl:Nat) (f:FuncId) (args:List Value) (H:a0f) (φ:Inj) (w:World) (args':Array Value),Rel X φ H w→CR X φ w.shape? args args'.toList→fl≤H.size →
  (∀ v H',call fl f args H=.ok (v,H')→z0w X.P f=true∧Calls X.P f args' w fun e w'=>∃ v' φ',e=.returned v'∧VR X φ' w'.shape? v v'∧d0p X fl φ H w φ' H' w') ∧
  (∀ v,call fl f args H=.pan v→(∃ ty u,v=.iface ty u)∧z0w X.P f=true ∧
   Calls X.P f args' w fun e w'=>(∃ ty u,e=.panicked [{ v:=.iface ty u,recovered:=false }])∧Pan X fl φ H w w')
section
variable {call:Nat→FuncId→List Value→a0f→Res (Value × a0f)}
theorem x0W {P:Program} {op:Op} {x:Opd} (hc:cOp P lone op=some (.pan x)):∃ x0,op=.panic x0∧c0Q x0=some x:=by
 cases op
 case panic x0 =>
  simp only [cOp,h1H,h1B,h1K,h1D,SOp.pan.injEq] at hc
  obtain ⟨x',h1,rfl⟩:=hc
  exact ⟨x0,rfl,h1⟩
 case call c =>
  exfalso
  obtain ⟨callee,args,ats⟩:=c
  cases callee with
  | value f=>cases f <;> simp only [cOp] at hc <;> (try split at hc) <;> simp [h1B] at hc
  | invoke r n=>simp [cOp,h1B] at hc
  | builtin b =>
   simp only [cOp] at hc
   split at hc
   ·simp [h1B] at hc
   ·simp [h1B] at hc
   ·simp [h1B] at hc
   ·simp only [h1H,h1B] at hc
    obtain ⟨_,_,_,_,_,_,hc⟩:=hc
    split at hc
    ·simp [h1B] at hc
    ·cases hc
   ·cases hc
 all_goals
  exfalso
  simp only [cOp,j1C,h1H,h1B,h1K,h1D,reduceCtorEq,and_false,exists_const,exists_false] at hc
  try (repeat' (first | (simp only [h1B,h1D,reduceCtorEq,and_false,exists_const,exists_false] at hc;done) | (obtain ⟨_,_,hc⟩:=hc) | (split at hc)))
theorem v0y {P:Program} {K K':Act→World→Prop} {Q Q':Exit→Act→World→Prop} (hk:∀ a w,K a w→K' a w) (hq:∀ e a w,Q e a w→Q' e a w) (h:o.wp P a w K Q):o.wp P a w K' Q':=by
 unfold Oper.wp at *
 generalize (execOp a.eval o).run P w=r at *
 cases r with
 | ok n w' =>
  cases n <;> simp only [Oper.upon] at h ⊢ <;>
   first
    | exact hk _ _ h
    | exact Calls.mono h (fun e w'' he=>by cases e <;> first | exact hk _ _ he | exact hq _ _ _ he | (obtain ⟨a1,w1,h1⟩:=he;exact ⟨a1,w1,hq _ _ _ h1⟩))
    | exact Rows.mono h (fun _ _ he=>hk _ _ he)
 | halt x w'=>cases x <;> simp only [Oper.upon] at h ⊢ <;> exact hq _ _ _ h
theorem LetsOut.mono {Q Q':Exit→Act→World→Prop} (hq:∀ e a w,Q e a w→Q' e a w) (h:LetsOut Q):LetsOut Q':=by
 obtain ⟨a1,w1,h1⟩:=h;exact ⟨a1,w1,hq _ _ _ h1⟩
theorem d0b {P:Program} {ops:Array Oper} {Q Q':Exit→Act→World→Prop} (hq:∀ e a w,Q e a w→Q' e a w):∀ {l:List Nat} {a:Act} {w:World},wpOps P ops Q l a w→wpOps P ops Q' l a w
 | [],_,_,h=>hq _ _ _ h
 | i :: r,a,w,h=>by
  unfold wpOps at h ⊢
  split at h
  ·exact d0b hq h
  ·split at h
   ·rename_i hw
    rw [h1F hw]
    rcases h with h | ⟨h1,h2⟩
    ·exact .inl (v0y (fun _ _ h=>d0b hq h) hq h)
    ·exact .inr ⟨h1,LetsOut.mono hq h2⟩
   ·rename_i hw
    rw [h1C hw]
    exact d0b hq h
theorem l0G (hcall:d0Z X call) (hc:cOp X.P lone o.op=some so) (hf:(a0y so).all a0X=true) (hR:Rel X φ H w) (hT:CR X φ w.shape? t a.tmps.toList) (hfl:fl≤H.size)
  {v:Value} (h:b0D call fl t H so=.ok (v,H')) {K:Act→World→Prop} {Q:Exit→Act→World→Prop} (a2:Act) (he:execOp a2.eval o=execOp a.eval o)
  (hK:∀ φ' v' w',VR X φ' w'.shape? v v'→d0p X fl φ H w φ' H' w'→K (a2.put o.dst v') w'):o.wp X.P a2 w K Q:=by
 unfold b0D at h
 unfold Oper.wp
 rw [he]
 split at h
 ·cases h
 ·cases h
 ·rename_i v1 H1 hv
  simp only [Res.ok.injEq,j1w] at h;obtain ⟨rfl,rfl⟩:=h
  obtain ⟨φ',w',v',hr,hvr,hst⟩:=Z0v hc hf hR hT hfl hv
  rcases hr with hr | ⟨rfl,hr⟩
  ·rw [hr];exact hK φ' v' w' hvr hst
  ·rw [hr];exact hK φ' _ w' hvr hst
 ·rename_i f args l hv
  obtain ⟨args',hca,hrun⟩:=A0Z hc hf hT hv
  obtain ⟨hruns,hcalls⟩:=(hcall _ f args H φ w args' hR hca (show (if l=true then fl else max fl H.size)≤H.size by split <;> omega)).1 v H' h
  rw [hrun,d0H hruns]
  refine Calls.mono hcalls ?_
  rintro e w' ⟨v',φ',rfl,hvr,hst⟩
  exact hK φ' v' w' hvr (hst.lower (by split <;> omega))
theorem s0R (hcall:d0Z X call) (hc:cOp X.P lone o.op=some so) (hf:(a0y so).all a0X=true) (hR:Rel X φ H w) (hT:CR X φ w.shape? t a.tmps.toList) (hfl:fl≤H.size)
  {v:Value} (h:b0D call fl t H so=.pan v) {K:Act→World→Prop} {Q:Exit→Act→World→Prop} (a2:Act) (he:execOp a2.eval o=execOp a.eval o)
  (hQ:∀ ty u w',Pan X fl φ H w w'→Q (.panic [{ v:=.iface ty u,recovered:=false }]) a2 w'):o.wp X.P a2 w K Q:=by
 unfold b0D at h
 unfold Oper.wp
 rw [he]
 split at h
 ·cases h
 ·rename_i v1 hv
  obtain ⟨⟨ty,u,rfl⟩,x,rfl,hx⟩:=f0W hv
  obtain ⟨x0,ho,h1⟩:=x0W hc
  have hv:=b0O hT h1 (by simpa [a0y] using hf)
  rw [hx] at hv
  generalize hg:a.eval x0=g at hv
  cases hv with
  | iface _ _ u' hu =>
   have:(execOp a.eval o).run X.P w=.halt (.panic (.iface ty u')) w:=by simp [execOp,ho,hg,Instr.panic,goPanic]
   rw [this]
   exact hQ ty u' w Pan.same
 ·cases h
 ·rename_i f args l hv
  obtain ⟨args',hca,hrun⟩:=A0Z hc hf hT hv
  obtain ⟨_,hruns,hcalls⟩:=(hcall _ f args H φ w args' hR hca (show (if l=true then fl else max fl H.size)≤H.size by split <;> omega)).2 v h
  rw [hrun,d0H hruns]
  refine Calls.mono hcalls ?_
  rintro e w' ⟨⟨ty,u,rfl⟩,hp⟩
  exact hQ ty u w' (hp.lower (by split <;> omega))
theorem n0x {ops:Array Oper} {sop:a0L} (hc:g0y X.P ops lone o=some sop) (hT:∀ d want,sop.g=some (d,want)→VR X φ S (get t d) (a.tmps.getD d undef)):Region.wanted o (yielded ops a.tmps)=b0g t sop.g:=by
 unfold g0y at hc
 simp only [h1H,h1B] at hc
 obtain ⟨op,_,hc⟩:=hc
 split at hc
 ·split at hc
  ·rename_i hg
   simp only [h1K,h1D] at hc;subst hc
   simp [Region.wanted,hg,b0g]
  ·rename_i j want hg
   simp only [h1H,h1B,h1K,h1D] at hc
   obtain ⟨oj,h1,d,h2,rfl⟩:=hc
   have hv:=hT d want rfl
   simp only [Region.wanted,hg,b0g,yielded,h1,Option.bind_some,h2,get]
   simp only [get] at hv
   have e1:a.tmps.getD d undef=(a.tmps[d]?).getD undef:=by simp
   rw [e1] at hv
   cases hd:a.tmps[d]? with
   | none =>
    rw [hd] at hv
    simp only [Option.getD_none] at hv
    generalize t.getD d undef=q at hv ⊢
    cases hv;rfl
   | some u =>
    rw [hd] at hv
    simp only [i1k] at hv
    generalize t.getD d undef=q at hv ⊢
    cases hv <;> first | rfl | simp
 ·cases hc
theorem p0p {ops:Array Oper} {sop:a0L} (hc:g0y X.P ops lone o=some sop) (hT:CR X φ w.shape? t a.tmps.toList):Region.wanted o (yielded ops a.tmps)=b0g t sop.g :=
 n0x hc (fun d _ _=>by rw [a0T];exact hT.get d)
theorem e0e {ops:Array Oper} {sop:a0L} (hc:g0y X.P ops lone o=some sop):cOp X.P lone o.op=some sop.op∧(a0y sop.op).all a0X=true∧sop.dst=o.dst:=by
 unfold g0y at hc
 simp only [h1H,h1B] at hc
 obtain ⟨op,h1,hc⟩:=hc
 split at hc
 ·rename_i hf
  split at hc
  ·simp only [h1K,h1D] at hc;subst hc;exact ⟨h1,hf,rfl⟩
  ·simp only [h1H,h1B,h1K,h1D] at hc
   obtain ⟨oj,_,d,_,rfl⟩:=hc
   exact ⟨h1,hf,rfl⟩
 ·cases hc
theorem r0b (hcall:d0Z X call) {D:List Deferred} {ops:Array Oper}:∀ (r:List a0L) (k:Nat) (t:b0b) (H:a0f) (φ:Inj) (w:World) (a:Act),
  (∀ i s,r[i]? = some s→∃ o,ops[k + i]? = some o∧g0y X.P ops true o=some s)→Rel X φ H w→CR X φ w.shape? t a.tmps.toList→fl≤H.size→a.defers=D→f0a call fl r t H ≠ .bad →
  wpOps X.P ops (K0q X D fl φ H w (f0a call fl r t H)) (List.range' k r.length) a w
 | [],k,t,H,φ,w,a,_,hR,hT,_,hd,_=>⟨rfl,hd,φ,hT,d0p.refl hR⟩
 | s :: r,k,t,H,φ,w,a,hops,hR,hT,hfl,hd,hne=>by
  obtain ⟨o,ho,hco⟩:=hops 0 s rfl
  simp only [i1J] at ho
  obtain ⟨hc,hf,hdst⟩:=e0e hco
  have hw:=p0p hco hT
  have hops':∀ i s',r[i]? = some s'→∃ o,ops[k + 1 + i]? = some o∧g0y X.P ops true o=some s':=fun i s' hi=>by
   obtain ⟨o',h1,h2⟩:=hops (i + 1) s' (by simpa using hi)
   exact ⟨o',by rw [← h1];congr 1;omega,h2⟩
  rw [i1D,k1h]
  unfold wpOps
  simp only [ho]
  simp only [f0a] at hne ⊢
  by_cases hwt:b0g t s.g=true
  ·rw [hw,h1F hwt]
   simp only [hwt,i1s] at hne ⊢
   refine .inl ?_
   cases hs:b0D call fl t H s.op with
   | bad=>simp [hs] at hne
   | pan v =>
    simp only [hs] at hne ⊢
    exact s0R hcall hc hf hR hT hfl hs a rfl (fun ty u w' hp=>⟨⟨ty,u,rfl⟩,hd,hp⟩)
   | ok vH =>
    obtain ⟨v,H1⟩:=vH
    simp only [hs] at hne ⊢
    refine l0G hcall hc hf hR hT hfl hs a rfl (fun φ' v' w' hvr hst=>?_)
    have hT':CR X φ' w'.shape? t a.tmps.toList:=hT.mono hst.ext hst.shp
    have ih:=r0b hcall (D:=D) r (k + 1) (put t s.dst v) H1 φ' w' (a.put o.dst v') hops' hst.rel (by rw [hdst];exact i0Y hT' hvr o.dst) (h1R hfl hst.hsz) (by rw [c0E];exact hd) hne
    exact d0b (fun e a2 w2 h2=>K0q.after hst hR h2) ih
  ·rw [hw,h1C hwt]
   simp only [j1D] at hwt
   simp only [hwt,i1a,i1F] at hne ⊢
   exact r0b hcall (D:=D) r (k + 1) (put t s.dst undef) H φ w (a.put o.dst undef) hops' hR (by rw [hdst];exact i0Y hT VR.undef o.dst) hfl (by rw [c0E];exact hd) hne
end
end
section
open Go
variable {X:Cx} {φ φ':Inj} {S:Shp} {H H':a0f} {w w':World} {fl:Nat} {t:b0b} {a:Act}
section
variable {call:Nat→FuncId→List Value→a0f→Res (Value × a0f)}
def r0n (X:Cx) (call:Nat→FuncId→List Value→a0f→Res (Value × a0f)):Prop :=
 ∀ (ops:Array Oper) (l:List a0L) (bef:List Nat) (pairs:List (Nat × Nat)),z0P X.P ops=some (.draw l bef pairs) →
  ∀ (D:List Deferred) (fl:Nat) (t:b0b) (H:a0f) (φ:Inj) (w:World) (a:Act),Rel X φ H w→CR X φ w.shape? t a.tmps.toList→fl≤H.size→a.defers=D →
   b0S call fl bef pairs 0 l t H none [] ≠ .bad→∀ id,(Code.region id ops true).wp X.P (K0q X D fl φ H w (b0S call fl bef pairs 0 l t H none [])) a w
def k0O (P:Program) (c:Code) (Q:Exit→Act→World→Prop) (a:Act) (w:World):Prop :=
 ∀ (b:Frame) (k:List Item) (cs:List Frame),∃ e a' w',Q e a' w'∧Arrives P (lone (b.at a (.code c :: .inLoop c :: k)) cs w) b k cs e a' w'
theorem k0O.wp {P:Program} {c:Code} {Q:Exit→Act→World→Prop} (h:k0O P c Q a w):(Code.loop c).wp P Q a w :=
 fun b k cs=>let ⟨e,a',w',q,r⟩:=h b k cs;⟨e,a',w',q,.of_steps (.one step_loop) r⟩
theorem k0O.round {P:Program} {c:Code} {Q:Exit→Act→World→Prop} (h:c.wp P (Exit.then (k0O P c Q) Q) a w):k0O P c Q a w:=by
 intro b k cs
 obtain ⟨e,a₁,w₁,hq,harr⟩:=h b (.inLoop c :: k) cs
 cases e with
 | normal =>
  obtain ⟨e₂,a₂,w₂,hq₂,harr₂⟩:=hq b k cs
  exact ⟨e₂,a₂,w₂,hq₂,.of_steps (Steps.trans harr (.one step_inLoop)) harr₂⟩
 | exit id=>exact ⟨_,a₁,w₁,hq,.pass (x:=.inLoop c) rfl (fun _ _=>.inl (by simp)) harr⟩
 | goto l=>exact ⟨_,a₁,w₁,hq,.pass (x:=.inLoop c) rfl (fun _ _=>.inl (by simp)) harr⟩
 | ret=>exact ⟨_,a₁,w₁,hq,.pass (x:=.inLoop c) rfl (fun _ _=>.inl (by simp)) harr⟩
 | panic ch=>exact ⟨_,a₁,w₁,hq,.pass (x:=.inLoop c) rfl (fun _ _=>.inl (by simp)) harr⟩
 | outgrown=>exact ⟨_,a₁,w₁,hq,.pass (x:=.inLoop c) rfl (fun _ _=>.inl (by simp)) harr⟩
def wpx (P:Program) (c:Code) (Q:Exit→Act→World→Prop) (a:Act) (w:World):Prop :=
 match c with
 | .loop d=>k0O P d Q a w
 | c=>c.wp P Q a w
theorem wpx.wp {P:Program} {c:Code} {Q:Exit→Act→World→Prop} (h:wpx P c Q a w):c.wp P Q a w:=by
 cases c <;> first | exact k0O.wp h | exact h
theorem l0C {α β:Type} {f:α→Option β}:∀ {l:List α} {r:List β},l.mapM f=some r→∀ (i:Nat) (y:β),r[i]? = some y→∃ x,l[i]? = some x∧f x=some y
 | [],r,h,i,y,hi=>by simp at h;subst h;simp at hi
 | x :: l,r,h,i,y,hi=>by
  rw [j1U] at h
  simp only [h1H,h1B,h1K,h1D] at h
  obtain ⟨b,h1,bs,h2,rfl⟩:=h
  cases i with
  | zero=>simp at hi;subst hi;exact ⟨x,rfl,h1⟩
  | succ i=>obtain ⟨x',h3,h4⟩:=l0C h2 i y (by simpa using hi);exact ⟨x',by simpa using h3,h4⟩
theorem j0s {α β:Type} {f:α→Option β}:∀ {l:List α} {r:List β},l.mapM f=some r→r.length=l.length
 | [],r,h=>by simp at h;subst h;rfl
 | x :: l,r,h=>by
  rw [j1U] at h
  simp only [h1H,h1B,h1K,h1D] at h
  obtain ⟨b,h1,bs,h2,rfl⟩:=h
  simp [j0s h2]
theorem e0q (hcall:d0Z X call) (hdraw:r0n X call) {D:List Deferred}:∀ (n:Nat) (c:Code) (c':SCode) (fl:Nat) (t:b0b) (H:a0f) (φ:Inj) (w:World) (a:Act),e0d X.P c=some c'→Rel X φ H w →
  CR X φ w.shape? t a.tmps.toList→fl≤H.size→a.defers=D→b0c call fl n c' t H ≠ .bad→wpx X.P c (K0q X D fl φ H w (b0c call fl n c' t H)) a w
 | 0,c,c',fl,t,H,φ,w,a,_,_,_,_,_,hne=>h1Y rfl hne
 | n + 1,c,c',fl,t,H,φ,w,a,hc,hR,hT,hfl,hd,hne=>by
  cases c with
  | skip =>
   simp only [e0d,h1D] at hc;subst hc
   exact wp_skip ⟨rfl,hd,φ,hT,d0p.refl hR⟩
  | label l =>
   simp only [e0d,h1D] at hc;subst hc
   exact wp_label ⟨rfl,hd,φ,hT,d0p.refl hR⟩
  | exit id =>
   simp only [e0d,h1D] at hc;subst hc
   exact wp_exit ⟨rfl,hd,φ,hT,d0p.refl hR⟩
  | ret =>
   simp only [e0d,h1D] at hc;subst hc
   exact wp_ret ⟨rfl,hd,φ,hT,d0p.refl hR⟩
  | seq x y =>
   simp only [e0d,h1H,h1B,h1K,h1D] at hc
   obtain ⟨x',hx,y',hy,rfl⟩:=hc
   have hx1:b0c call fl n x' t H ≠ .bad:=fun e=>hne (by simp [b0c,e])
   have ih1:=(e0q hcall hdraw n x x' fl t H φ w a hx hR hT hfl hd hx1).wp
   refine wp_seq (wp_mono ih1 ?_)
   intro e a1 w1 hp
   simp only [b0c]
   cases hr:b0c call fl n x' t H with
   | bad=>exact h1Y hr hx1
   | pan v =>
    rw [hr] at hp
    obtain ⟨⟨ty,u,rfl⟩,h2,h3⟩:=hp
    exact ⟨⟨ty,u,rfl⟩,h2,h3⟩
   | fin xx t1 H1 =>
    rw [hr] at hp
    obtain ⟨rfl,hd1,φ1,hT1,hst⟩:=hp
    cases xx with
    | normal =>
     have hne2:b0c call fl n y' t1 H1 ≠ .bad:=fun e=>hne (by simp [b0c,hr,e])
     have ih2:=(e0q hcall hdraw n y y' fl t1 H1 φ1 w1 a1 hy hst.rel hT1 (h1R hfl hst.hsz) hd1 hne2).wp
     exact wp_mono ih2 (fun e a2 w2 h2=>K0q.after hst hR h2)
    | exit id=>exact ⟨rfl,hd1,φ1,hT1,hst⟩
    | ret=>exact ⟨rfl,hd1,φ1,hT1,hst⟩
  | cond c x y =>
   simp only [e0d,h1H,h1B,h1K,h1D] at hc
   obtain ⟨c',hcc,hc⟩:=hc
   split at hc
   ·rename_i hflat
    simp only [h1B,h1D] at hc
    obtain ⟨x',hx,y',hy,rfl⟩:=hc
    have hv:=b0O hT hcc hflat
    simp only [b0c] at hne ⊢
    generalize hg:a.eval c=g at hv
    split at hne
    ·rename_i hb
     rw [hb] at hv;cases hv
     exact wp_cond_true hg (e0q hcall hdraw n x x' fl t H φ w a hx hR hT hfl hd hne).wp
    ·rename_i hb
     rw [hb] at hv;cases hv
     exact wp_cond_false hg (e0q hcall hdraw n y y' fl t H φ w a hy hR hT hfl hd hne).wp
    ·exact h1Y rfl hne
   ·cases hc
  | block id c =>
   simp only [e0d,h1H,h1B,h1K,h1D] at hc
   obtain ⟨x',hx,rfl⟩:=hc
   have hx1:b0c call fl n x' t H ≠ .bad:=fun e=>hne (by simp [b0c,e])
   have ih1:=(e0q hcall hdraw n c x' fl t H φ w a hx hR hT hfl hd hx1).wp
   refine wp_block (wp_mono ih1 ?_)
   intro e a1 w1 hp
   simp only [b0c]
   cases hr:b0c call fl n x' t H with
   | bad=>exact h1Y hr hx1
   | pan v =>
    rw [hr] at hp
    obtain ⟨⟨ty,u,rfl⟩,h2,h3⟩:=hp
    exact ⟨⟨ty,u,rfl⟩,h2,h3⟩
   | fin xx t1 H1 =>
    rw [hr] at hp
    obtain ⟨rfl,hd1,φ1,hT1,hst⟩:=hp
    cases xx with
    | normal=>exact ⟨rfl,hd1,φ1,hT1,hst⟩
    | ret=>exact ⟨rfl,hd1,φ1,hT1,hst⟩
    | exit id' =>
     show Exit.inBlock id _ (.exit id') a1 w1
     unfold Exit.inBlock
     by_cases hid:id' = id
     ·simp only [hid,i1s];exact ⟨rfl,hd1,φ1,hT1,hst⟩
     ·simp only [hid,i1F];exact ⟨rfl,hd1,φ1,hT1,hst⟩
  | loop c =>
   simp only [e0d,h1H,h1B,h1K,h1D] at hc
   obtain ⟨x',hx,rfl⟩:=hc
   have hx1:b0c call fl n x' t H ≠ .bad:=fun e=>hne (by simp [b0c,e])
   have ih1:=(e0q hcall hdraw n c x' fl t H φ w a hx hR hT hfl hd hx1).wp
   refine k0O.round (wp_mono ih1 ?_)
   intro e a1 w1 hp
   simp only [b0c]
   cases hr:b0c call fl n x' t H with
   | bad=>exact h1Y hr hx1
   | pan v =>
    rw [hr] at hp
    obtain ⟨⟨ty,u,rfl⟩,h2,h3⟩:=hp
    exact ⟨⟨ty,u,rfl⟩,h2,h3⟩
   | fin xx t1 H1 =>
    rw [hr] at hp
    obtain ⟨rfl,hd1,φ1,hT1,hst⟩:=hp
    cases xx with
    | normal =>
     have hne2:b0c call fl n (.loop x') t1 H1 ≠ .bad:=fun e=>hne (by simp [b0c,hr,e])
     have ih2:=e0q hcall hdraw n (.loop c) (.loop x') fl t1 H1 φ1 w1 a1 (by simp [e0d,hx]) hst.rel hT1 (h1R hfl hst.hsz) hd1 hne2
     intro b k cs
     obtain ⟨e,a2,w2,h2,h3⟩:=ih2 b k cs
     exact ⟨e,a2,w2,K0q.after hst hR h2,h3⟩
    | exit id=>exact ⟨rfl,hd1,φ1,hT1,hst⟩
    | ret=>exact ⟨rfl,hd1,φ1,hT1,hst⟩
  | region id ops d =>
   cases d with
   | true =>
    simp only [e0d] at hc
    have hc0:=hc
    unfold z0P at hc
    simp only [h1H,h1B] at hc
    obtain ⟨l,_,hc⟩:=hc
    split at hc
    ·simp only [h1K,h1D] at hc
     subst hc
     simp only [b0c] at hne ⊢
     exact hdraw ops _ _ _ hc0 D fl t H φ w a hR hT hfl hd hne id
    ·cases hc
   | false =>
    simp only [e0d,h1H,h1B,h1K,h1D] at hc
    obtain ⟨l,hl,rfl⟩:=hc
    simp only [b0c] at hne ⊢
    refine wp_region ?_
    have hlen:ops.size=l.length:=by rw [j0s hl];simp
    rw [List.range_eq_range',hlen]
    exact r0b hcall l 0 t H φ w a (fun i s hi=>by
     obtain ⟨x,h1,h2⟩:=l0C hl i s hi
     exact ⟨x,by simpa using h1,h2⟩) hR hT hfl hd hne
  | _=>simp [e0d] at hc
end
theorem A0O (hR:Rel X φ H w) {ty:TypeId} {n:Nat} {b:Bool} (hn:d0l X.P ty=some n) (hb:k0V X.P ty=some b) {v v' r:Value} (hv:VR X φ w.shape? v v') (hr:b0x H b n v=some r) :
  ∃ q r',v' = .pointer (some q)∧(loadVar ty q).run X.P w=.ok r' w∧VR X φ w.shape? r r':=by
 unfold b0x at hr
 split at hr
 ·rename_i p
  cases hv with
  | ptr _ q B o' h1 h2 h3 =>
   subst h3
   split at hr
   ·rename_i hbn;cases hr
    obtain ⟨rfl,rfl⟩:=hbn
    exact ⟨_,.agg #[],rfl,by simp [loadVar,g0P hb,d0y hn,loadCells,loadCellsFrom],VR.agg_iff.2 CR.nil⟩
   ·split at hr
    ·cases hr
    ·split at hr
     ·rename_i cs hcs
      obtain ⟨hlen,cs',hl',hcr,hcell⟩:=hR.cells h2 hcs
      cases b with
      | true =>
       simp only [i1s] at hr hlen hl';cases hr
       have hld:=run_loadCells_list (P:=X.P) w ⟨B,o' + p.off,none⟩ cs' (l0U hcell)
       rw [hl'] at hld
       exact ⟨_,.agg cs'.toArray,rfl,by simp [loadVar,g0P hb,d0y hn,hld],VR.agg_iff.2 (by simpa using hcr)⟩
      | false =>
       simp only [i1a,i1F] at hr hlen hl'
       cases cs with
       | nil=>simp at hlen
       | cons u r' =>
        simp only [List.head?_cons,h1D] at hr;subst hr
        obtain ⟨u',r2,rfl,hu,_⟩:=hcr.cons_left
        have hc0:=hcell 0 u' rfl
        simp only [i1J] at hc0
        exact ⟨_,u',rfl,by simp [loadVar,g0P hb,hc0],hu⟩
     ·cases hr
 ·cases hr
def n0m (tmps:Array Value):ResultVar→Sem Value
 | .tmp t=>pure (tmps.getD t undef)
 | .cell a t=>do loadVar t (← asAddr (tmps.getD a undef))
theorem J0S {sr:List SRes}:∀ {rs:List ResultVar} {vs:List Value},rs.mapM (Y0n X.P)=some sr→e0C H t sr=some vs→Rel X φ H w→CR X φ w.shape? t a.tmps.toList →
  ∃ vs',CR X φ w.shape? vs vs'∧(rs.mapM (n0m a.tmps)).run X.P w=.ok vs' w:=by
 induction sr with
 | nil =>
  intro rs vs h h2 hR hT
  have:rs=[]:=by have:=j0s h;exact i1i.1 this.symm
  subst this
  simp [e0C] at h2;subst h2
  exact ⟨[],CR.nil,by simp⟩
 | cons s sr ih =>
  intro rs vs h h2 hR hT
  cases rs with
  | nil=>simp at h
  | cons r rs =>
   rw [j1U] at h
   simp only [h1H,h1B,h1K,h1D] at h
   obtain ⟨s',h3,sr',h4,h5⟩:=h
   cases h5
   simp only [e0C] at h2
   split at h2
   ·rename_i v vs2 h6 h7
    cases h2
    obtain ⟨vs',hvs,hrun⟩:=ih h4 h7 hR hT
    rw [j1U,Sem.run_bind]
    cases r with
    | tmp i =>
     simp only [Y0n,h1D] at h3;subst h3
     simp only [r0m,h1D] at h6;subst h6
     refine ⟨a.tmps.getD i undef :: vs',CR.cons ?_ hvs,by simp only [n0m,Sem.run_pure,Result.andThen_ok,Sem.run_bind,hrun]⟩
     rw [a0T];exact hT.get i
    | cell c ty =>
     simp only [Y0n,h1H,h1B,h1K,h1D] at h3
     obtain ⟨b,hb,n,hn,rfl⟩:=h3
     simp only [r0m] at h6
     obtain ⟨q,v'',hq,hrun2,hvr⟩:=A0O hR hn hb (hT.get c) h6
     rw [← a0T] at hq
     exact ⟨v'' :: vs',CR.cons hvr hvs,by
      have hsa:(asAddr (a.tmps.getD c undef)).run X.P w=.ok q w:=by rw [hq];rfl
      simp only [n0m,hsa,hrun2,Result.andThen_ok,Sem.run_bind,hrun,Sem.run_pure]⟩
   ·cases h2
theorem w0n {vs vs':List Value} (h:CR X φ S vs vs'):VR X φ S (d0k vs) (if h:vs'.toArray.size=1 then vs'.toArray[0] else .tuple vs'.toArray):=by
 cases vs with
 | nil=>rw [h.nil_left];exact VR.tuple_iff.2 CR.nil
 | cons v r =>
  obtain ⟨v',r',rfl,hv,hr⟩:=h.cons_left
  cases r with
  | nil=>rw [hr.nil_left];simpa [d0k] using hv
  | cons u r2 =>
   obtain ⟨u',r3,rfl,_,_⟩:=hr.cons_left
   simp only [d0k]
   rw [dif_neg (by simp)]
   exact VR.tuple_iff.2 (by simpa using h)
def v0C (call:Nat→FuncId→List Value→a0f→Res (Value × a0f)):Prop:=∀ fl f args H v,call fl f args H=.pan v→∃ ty u,v=.iface ty u
section
variable {call:Nat→FuncId→List Value→a0f→Res (Value × a0f)} (hp:v0C call)
include hp
theorem h0B {so:SOp} {v:Value} (h:b0D call fl t H so=.pan v):∃ ty u,v=.iface ty u:=by
 unfold b0D at h
 split at h
 ·cases h
 ·rename_i v1 hv;simp only [Res.pan.injEq] at h;subst h;exact (f0W hv).1
 ·cases h
 ·exact hp _ _ _ _ _ h
theorem f0v:∀ (r:List a0L) (t:b0b) (H:a0f) {v:Value},f0a call fl r t H=.pan v→∃ ty u,v=.iface ty u
 | [],t,H,v,h=>by simp [f0a] at h
 | s :: r,t,H,v,h=>by
  simp only [f0a] at h
  split at h
  ·split at h
   ·cases h
   ·rename_i v1 hs;simp only [Out.pan.injEq] at h;subst h;exact h0B hp hs
   ·exact f0v r _ _ h
  ·exact f0v r _ _ h
theorem c0T (bef:List Nat) (pairs:List (Nat × Nat)):∀ (r:List a0L) (i:Nat) (t:b0b) (H:a0f) (p:Option (Nat × Value)) (log:List (List Nat × List Nat)) {v:Value},
  (∀ j u,p=some (j,u)→∃ ty x,u=.iface ty x)→b0S call fl bef pairs i r t H p log=.pan v→∃ ty u,v=.iface ty u
 | [],i,t,H,p,log,v,hpp,h=>by
  simp only [b0S] at h
  split at h
  ·split at h
   ·cases h
   ·rename_i j u;simp only [Out.pan.injEq] at h;subst h;exact hpp _ _ rfl
  ·cases h
 | s :: r,i,t,H,p,log,v,hpp,h=>by
  simp only [b0S] at h
  split at h
  ·exact c0T bef pairs r _ _ _ _ _ hpp h
  ·split at h
   ·split at h
    ·cases h
    ·rename_i v1 hs
     split at h
     ·refine c0T bef pairs r _ _ _ _ _ ?_ h
      intro j u hju;cases hju;exact h0B hp hs
     ·cases h
    ·exact c0T bef pairs r _ _ _ _ _ hpp h
   ·exact c0T bef pairs r _ _ _ _ _ hpp h
theorem c0h:∀ (n:Nat) (c:SCode) (t:b0b) (H:a0f) {v:Value},b0c call fl n c t H=.pan v→∃ ty u,v=.iface ty u
 | 0,c,t,H,v,h=>by simp [b0c] at h
 | n + 1,c,t,H,v,h=>by
  cases c <;> simp only [b0c] at h
  case skip=>cases h
  case exit=>cases h
  case ret=>cases h
  case seq a b =>
   split at h
   ·exact c0h n b _ _ h
   ·exact c0h n a _ _ h
  case cond c a b =>
   split at h
   ·exact c0h n a _ _ h
   ·exact c0h n b _ _ h
   ·cases h
  case block id c =>
   split at h
   ·split at h <;> cases h
   ·exact c0h n c _ _ h
  case loop c =>
   split at h
   ·exact c0h n (.loop c) _ _ h
   ·exact c0h n c _ _ h
  case reg ops=>exact f0v hp _ _ _ h
  case draw ops bef pairs=>exact c0T hp bef pairs _ _ _ _ _ _ (fun _ _ e=>by cases e) h
end
theorem g0T (E:Env):∀ n,v0C (b0r E n)
 | 0=>fun _ _ _ _ _ h=>by simp [b0r] at h
 | n + 1=>fun fl f args H v h=>by
  simp only [b0r] at h
  split at h
  ·split at h
   ·cases h
   split at h
   ·split at h
    ·split at h
     ·split at h
      case isFalse=>cases h
      unfold d0S at h
      split at h
      ·cases h
      ·cases h
      ·cases h
      ·split at h
       ·split at h <;> cases h
       ·cases h
      ·cases h
     ·cases h
    ·cases h
   ·cases h
  ·split at h
   ·split at h
    ·cases h
    ·rename_i v1 hx
     simp only [Res.pan.injEq] at h;subst h
     exact c0h (g0T E n) n _ _ _ hx
    ·split at h
     ·cases h
     ·split at h <;> cases h
   ·cases h
structure X0E (X:Cx) (E:Env):Prop where
 code:∀ f sf,E.code f=some sf→b0f X.P f=some sf
 mixed:X.P.follows .mixedOrders=true
def U0n (X:Cx) (E:Env):Prop:=∀ f v,E.known.lookup f=some v→d0Z X fun _ g args H=>if g=f∧args=[] then .ok (v,H) else .bad
def z0D (X:Cx) (E:Env):Prop :=
 ∀ q,E.quick=some q→∀ call,d0Z X call→h0H call→d0Z X fun fl f args H =>
  if f=q.f then match args with | [.agg p,.agg s]=>(if p.size=q.np∧s.size=q.ns then d0S q.zero H (call (max fl H.size) q.solved [.agg #[],.agg p,.agg s] H) else .bad) | _=>.bad else .bad
theorem v0P (E:Env) (hE:X0E X E) (hkn:U0n X E) (hq:z0D X E) (hdraw:∀ call,d0Z X call→h0H call→r0n X call):∀ n,d0Z X (b0r E n)
 | 0=>fun _ _ _ _ _ _ _ _ _ _=>⟨fun _ _ h=>by simp [b0r] at h,fun _ h=>by simp [b0r] at h⟩
 | n + 1=>fun fl f args H φ w args' hR hA hfl=>by
  have ih:=v0P E hE hkn hq hdraw n
  have hk:=h0I E n
  cases hcode:E.code f with
  | none =>
   cases hkw:E.know f args with
   | some v =>
    have hargs:args=[]:=by
     cases args with
     | nil=>rfl
     | cons x r=>simp [Env.know] at hkw
    have hl:E.known.lookup f=some v:=by rw [hargs] at hkw;simpa [Env.know] using hkw
    have h1:=hkn f v hl fl f args H φ w args' hR hA hfl
    simp only [b0r,hcode,hkw]
    simp only [hargs,and_self,i1s] at h1 ⊢
    exact h1
   | none =>
   cases hqk:E.quick with
   | none=>exact ⟨fun _ _ h=>by simp [b0r,hcode,hkw,hqk] at h,fun _ h=>by simp [b0r,hcode,hkw,hqk] at h⟩
   | some q =>
    have h1:=hq q hqk (b0r E n) ih hk fl f args H φ w args' hR hA hfl
    simp only [b0r,hcode,hkw,hqk]
    exact h1
  | some sf =>
   have hcf:=hE.code f sf hcode
   unfold b0f at hcf
   cases hfn:X.P.funcs[f]? with
   | none=>simp [hfn] at hcf
   | some fn =>
    simp only [hfn] at hcf
    cases hb:fn.body with
    | none=>simp [hb] at hcf
    | some c =>
     simp only [hb] at hcf
     split at hcf
     ·cases hcf
     rename_i hruns
     have hruns:z0w X.P f=true:=by simpa using hruns
     simp only [h1H,h1B] at hcf
     obtain ⟨res,hres,body,hbody,hcf⟩:=hcf
     split at hcf
     ·rename_i hnt
      simp only [h1K,h1D] at hcf;subst hcf
      by_cases hlen:args.length=fn.params.size + fn.nfree
      ·have hlen':args'.size=args.length:=by have:=hA.1;simpa using this.symm
       -- the frame at the call's entry
       have hT:CR X φ w.shape? (args ++ List.replicate (fn.ntmps - args.length) undef) (args' ++ Array.replicate (fn.ntmps - args'.size) undef).toList:=by
        rw [hlen']
        have:(args' ++ Array.replicate (fn.ntmps - args.length) undef).toList=args'.toList ++ List.replicate (fn.ntmps - args.length) undef:=by simp
        rw [this]
        refine hA.append ?_
        generalize fn.ntmps - args.length=m
        induction m with
        | zero=>exact CR.nil
        | succ m ih=>exact CR.cons VR.undef ih
       have hx:=fun hne=>(e0q ih (hdraw _ ih hk) n c body fl _ H φ w { tmps:=args' ++ Array.replicate (fn.ntmps - args'.size) undef,defers:=[] } hbody hR hT hfl rfl hne).wp
       cases hr:b0c (b0r E n) fl n body (args ++ List.replicate (fn.ntmps - args.length) undef) H with
       | bad =>
        refine ⟨fun _ _ h=>?_,fun _ h=>?_⟩
        ·simp only [b0r,hcode] at h;rw [h1F hlen,hr] at h;cases h
        ·simp only [b0r,hcode] at h;rw [h1F hlen,hr] at h;cases h
       | pan v0 =>
        rw [hr] at hx
        have hx:=hx (by simp)
        refine ⟨fun _ _ h=>?_,fun v h=>?_⟩
        ·simp only [b0r,hcode] at h;rw [h1F hlen,hr] at h;cases h
        ·simp only [b0r,hcode] at h;rw [h1F hlen,hr] at h
         simp only [Res.pan.injEq] at h;subst h
         refine ⟨c0h (g0T E n) n body _ H hr,hruns,calls_of_wp hfn hb (wp_mono hx ?_)⟩
         rintro e a' w' ⟨⟨ty,u,rfl⟩,hd,hp⟩
         exact ⟨hd,⟨ty,u,rfl⟩,hp⟩
       | fin e t1 H1 =>
        rw [hr] at hx
        have hx:=hx (by simp)
        refine ⟨fun v H' h=>?_,fun v h=>?_⟩
        ·simp only [b0r,hcode] at h;rw [h1F hlen,hr] at h
         refine ⟨hruns,calls_of_wp hfn hb (wp_mono hx ?_)⟩
         rintro e2 a' w' ⟨rfl,hd,φ',hT',hst⟩
         have key:∀ vs,e0C H1 t1 res=some vs→v=d0k vs→H' = H1→∃ v',(results fn a'.tmps).run X.P w' = .ok v' w' ∧
           ∃ v2 φ',Ending.returned v' = .returned v2∧VR X φ' w'.shape? v v2∧d0p X fl φ H w φ' H' w':=by
          intro vs hvs hv hH
          subst hv hH
          obtain ⟨vs',hcr,hrun⟩:=J0S hres hvs hst.rel hT'
          refine ⟨_,?_,_,φ',rfl,w0n hcr,hst⟩
          have e1:results fn a'.tmps=(do let vs ← fn.results.mapM (n0m a'.tmps);pure (if h:vs.size=1 then vs[0] else .tuple vs)):=rfl
          rw [e1,k1e]
          simp only [Sem.run_bind,Sem.run_map,hrun]
          rfl
         cases e with
         | exit id=>cases h
         | normal =>
          simp only [] at h
          split at h
          ·rename_i vs hvs
           simp only [Res.ok.injEq,j1w] at h
           obtain ⟨v',h1,h2⟩:=key vs hvs h.1.symm h.2.symm
           exact ⟨hd,v',h1,h2⟩
          ·cases h
         | ret =>
          simp only [] at h
          split at h
          ·rename_i vs hvs
           simp only [Res.ok.injEq,j1w] at h
           obtain ⟨v',h1,h2⟩:=key vs hvs h.1.symm h.2.symm
           exact ⟨hd,v',h1,h2⟩
          ·cases h
        ·simp only [b0r,hcode] at h;rw [h1F hlen,hr] at h
         cases e with
         | exit id=>cases h
         | normal=>simp only [] at h;split at h <;> cases h
         | ret=>simp only [] at h;split at h <;> cases h
      ·exact ⟨fun _ _ h=>by simp [b0r,hcode,hlen] at h,fun _ h=>by simp [b0r,hcode,hlen] at h⟩
     ·cases hcf
theorem w0b (bef:List Nat) (i:Nat):∀ (l:List Edge) (s:Nat),(l.foldl (fun s e=>if Region.binds .any e then s ||| 2 ^ e.on ||| bef.getD e.on 0 else s) s).testBit i=true ↔
  s.testBit i=true ∨ ∃ e ∈ l,Region.binds .any e=true∧(i=e.on ∨ (bef.getD e.on 0).testBit i=true)
 | [],s=>by simp
 | e :: l,s=>by
  rw [List.foldl_cons,w0b bef i l]
  by_cases hb:Region.binds .any e=true
  ·simp only [hb,i1s,Nat.testBit_or,k1p,Nat.testBit_two_pow,i1w,j1G]
   constructor
   ·rintro (((h | h) | h) | ⟨e',h1,h2⟩)
    ·exact .inl h
    ·exact .inr ⟨e,.inl rfl,hb,.inl h.symm⟩
    ·exact .inr ⟨e,.inl rfl,hb,.inr h⟩
    ·exact .inr ⟨e',.inr h1,h2⟩
   ·rintro (h | ⟨e',rfl | h1,h2,h3⟩)
    ·exact .inl (.inl (.inl h))
    ·rcases h3 with h3 | h3
     ·exact .inl (.inl (.inr h3.symm))
     ·exact .inl (.inr h3)
    ·exact .inr ⟨e',h1,h2,h3⟩
  ·simp only [hb,i1F,j1G]
   constructor
   ·rintro (h | ⟨e',h1,h2⟩)
    ·exact .inl h
    ·exact .inr ⟨e',.inr h1,h2⟩
   ·rintro (h | ⟨e',rfl | h1,h2,h3⟩)
    ·exact .inl h
    ·exact h1Y h2 hb
    ·exact .inr ⟨e',h1,h2,h3⟩
structure x0S (X:Cx) (ops:Array Oper) (l:List a0L) (bef:List Nat) (pairs:List (Nat × Nat)):Prop where
 len:l.length=ops.size
 op:∀ (k:Nat) (s:a0L),l[k]? = some s→∃ o,ops[k]? = some o∧g0y X.P ops (w0f bef (ops.toList.map fun o=>r0j o.op) k) o=some s
 bit:∀ (i j:Nat) (o:Oper),ops[j]? = some o→(b0s bef i j=true ↔ ∃ e ∈ o.after.toList,Region.binds .any e=true∧(i=e.on ∨ b0s bef i e.on=true))
 back:∀ (j:Nat) (o:Oper),ops[j]? = some o→∀ e ∈ o.after.toList,Region.binds .any e=true→e.on < j
 un:∀ (i j:Nat),i < j→j < ops.size→b0s bef i j=false→B0y ops l (i,j)=true∧(j0E l (i,j)=true→(i,j) ∈ pairs)
 nosel:∀ (j:Nat) (o:Oper) (cs:Array SelectCase) (b:Bool),ops[j]? = some o→o.op ≠ .select cs b
theorem o0h {P:Program} {ops:Array Oper} {bef ws:List Nat}:∀ {os:List Oper} {k:Nat} {l:List a0L},r0v P ops bef ws k os=some l →
  l.length=os.length∧∀ i s,l[i]? = some s→∃ o,os[i]? = some o∧g0y P ops (w0f bef ws (k + i)) o=some s
 | [],k,l,h=>by simp [r0v] at h;subst h;simp
 | o :: os,k,l,h=>by
  simp only [r0v] at h
  split at h
  ·rename_i x l' h1 h2
   cases h
   obtain ⟨h3,h4⟩:=o0h h2
   refine ⟨by simp [h3],fun i s hi=>?_⟩
   cases i with
   | zero=>simp at hi;subst hi;exact ⟨o,rfl,h1⟩
   | succ i =>
    obtain ⟨o',h5,h6⟩:=h4 i s (by simpa using hi)
    exact ⟨o',by simpa using h5,by rw [show k + (i + 1)=k + 1 + i by omega];exact h6⟩
  ·cases h
theorem s0c {n i j:Nat} (h:i < j) (hj:j < n):(i,j) ∈ l0x n:=by
 unfold l0x
 rw [List.mem_flatMap]
 exact ⟨j,i1G.2 hj,j1h.2 ⟨i,i1G.2 h,rfl⟩⟩
theorem N0z {ops:Array Oper} {l:List a0L} {bef:List Nat} {pairs:List (Nat × Nat)} (h:z0P X.P ops=some (.draw l bef pairs)):x0S X ops l bef pairs:=by
 unfold z0P at h
 simp only [h1H,h1B] at h
 obtain ⟨l',h1,h⟩:=h
 split at h
 ·rename_i hc
  obtain ⟨he,hu,hn⟩:=hc
  simp only [h1K,h1D,SCode.draw.injEq] at h
  obtain ⟨rfl,rfl,rfl⟩:=h
  obtain ⟨hl1,hl2⟩:=o0h h1
  have hedge:∀ j o,ops[j]? = some o→(o.after.toList.all fun e=>!Region.binds .any e || e.on < j)=true ∧
    (Region.before ops).toList.getD j 0=(o.after.toList.foldl (fun s e=>if Region.binds .any e then s ||| 2 ^ e.on ||| (Region.before ops).toList.getD e.on 0 else s) 0):=by
   intro j o ho
   have hj:j < ops.size:=(i1q.1 ho).1
   have:=i1p.1 he j (i1G.2 hj)
   simp only [ho,h1S,beq_iff_eq] at this
   exact this
  refine ⟨by simpa using hl1,fun k s hk=>?_,fun i j o ho=>?_,fun j o ho e hm hb=>?_,fun i j hij hj hord=>?_,fun j o cs b ho hs=>?_⟩
  ·obtain ⟨o,h2,h3⟩:=hl2 k s hk
   exact ⟨o,by simpa using h2,by simpa using h3⟩
  ·unfold b0s
   rw [(hedge j o ho).2,w0b]
   simp
  ·have:=i1p.1 (hedge j o ho).1 e hm
   simpa [hb] using this
  ·have hm:(i,j) ∈ (l0x ops.size).filter fun p=>!b0s (Region.before ops).toList p.1 p.2:=List.mem_filter.2 ⟨s0c hij hj,by simp [hord]⟩
   exact ⟨i1p.1 hu _ hm,fun hw=>List.mem_filter.2 ⟨hm,hw⟩⟩
  ·have:=i1p.1 hn o (by rw [← j1f] at ho;exact List.mem_of_getElem? ho)
   simp [j0v,hs] at this
 ·cases h
section
variable {ops:Array Oper} {l:List a0L} {bef:List Nat} {pairs:List (Nat × Nat)} (hT:x0S X ops l bef pairs)
include hT
theorem x0S.lt:∀ j i,j < ops.size→b0s bef i j=true→i < j:=by
 intro j
 induction j using Nat.strongRecOn with
 | _ j ih =>
  intro i hj ho
  have hoj:ops[j]? = some ops[j]:=i1n hj
  obtain ⟨e,hm,hb,h⟩:=(hT.bit i j _ hoj).1 ho
  have he:=hT.back j _ hoj e hm hb
  rcases h with rfl | h
  ·exact he
  ·have:=ih e.on he i (by omega) h;omega
theorem x0S.ready {listed:Array Bool} {j:Nat} (hr:j ∈ Region.ready .any ops listed) (hdown:∀ j,j < ops.size→listed.getD j false=true→∀ i,b0s bef i j=true→listed.getD i false=true) :
  j < ops.size∧listed.getD j true=false∧∀ i,b0s bef i j=true→listed.getD i false=true:=by
 unfold Region.ready at hr
 rw [List.mem_filter] at hr
 obtain ⟨hj,hr⟩:=hr
 have hj:=i1G.1 hj
 simp only [h1S,j1l] at hr
 have hoj:ops[j]? = some ops[j]:=i1n hj
 refine ⟨hj,hr.1,fun i hi=>?_⟩
 have hr2:=hr.2
 simp only [hoj,i1U,i1k] at hr2
 obtain ⟨e,hm,hb,h⟩:=(hT.bit i j _ hoj).1 hi
 rw [Array.all_eq_true'] at hr2
 have h3:=hr2 e (by simpa using hm)
 simp only [hb,Bool.not_true,k1b] at h3
 rcases h with rfl | h
 ·exact h3
 ·have:=hT.back j _ hoj e hm hb
  exact hdown e.on (by omega) h3 i h
theorem x0S.two {i j:Nat} (hij:i ≠ j) (hi:i < ops.size) (hj:j < ops.size) (h1:b0s bef i j=false) (h2:b0s bef j i=false) {oi oj:Oper} {x y:a0L} (hoi:ops[i]? = some oi) (hoj:ops[j]? = some oj)
  (hx:l[i]? = some x) (hy:l[j]? = some y) :
  (∀ d,x.dst=some d→d ∉ i0t oj y∧y.dst ≠ some d)∧(∀ d,y.dst=some d→d ∉ i0t oi x)∧¬ (way x.op=3∧way y.op=2)∧¬ (way x.op=2∧way y.op=3) ∧
  ((way x.op=2∧way y.op ≠ 0)→(i,j) ∈ pairs ∨ (j,i) ∈ pairs):=by
 have key:∀ {p q:Nat} {op oq:Oper} {u v:a0L},p < q→q < ops.size→b0s bef p q=false→ops[p]? = some op→ops[q]? = some oq→l[p]? = some u→l[q]? = some v →
   (∀ d,u.dst=some d→d ∉ i0t oq v∧v.dst ≠ some d)∧(∀ d,v.dst=some d→d ∉ i0t op u)∧¬ (way u.op=3∧way v.op=2)∧¬ (way u.op=2∧way v.op=3) ∧
   ((way u.op=2∧way v.op ≠ 0)→(p,q) ∈ pairs)∧((way v.op=2∧way u.op ≠ 0)→(p,q) ∈ pairs):=by
  intro p q op oq u v hpq hq ho h3 h4 h5 h6
  obtain ⟨h7,h8⟩:=hT.un p q hpq hq ho
  simp only [B0y,h3,h4,h5,h6,h1S,p0j,w0i] at h7
  obtain ⟨⟨h9,h10⟩,h11⟩:=h7
  refine ⟨fun d hd=>?_,fun d hd=>?_,?_,?_,fun h=>h8 ?_,fun h=>h8 ?_⟩
  ·rw [hd] at h9;simpa using h9
  ·rw [hd] at h10;simpa using h10
  ·intro ⟨a1,a2⟩;simp [a1,a2] at h11
  ·intro ⟨a1,a2⟩;simp [a1,a2] at h11
  ·simp [j0E,h5,h6,h.1,h.2]
  ·simp [j0E,h5,h6,h.1,h.2]
 rcases Nat.lt_or_gt_of_ne hij with hlt | hlt
 ·obtain ⟨k1,k2,k3,k4,k5,k6⟩:=key hlt hj h1 hoi hoj hx hy
  exact ⟨k1,k2,k3,k4,fun h=>.inl (k5 h)⟩
 ·obtain ⟨k1,k2,k3,k4,k5,k6⟩:=key hlt hi h2 hoj hoi hy hx
  refine ⟨fun d hd=>⟨k2 d hd,fun e=>(k1 d e).2 hd⟩,fun d hd=>(k1 d hd).1,fun h=>k4 ⟨h.2,h.1⟩,fun h=>k3 ⟨h.2,h.1⟩,fun h=>.inr (k6 h)⟩
end
section
variable (call:Nat→FuncId→List Value→a0f→Res (Value × a0f)) (fl:Nat) (bef:List Nat)
structure Run where
 T:Nat→b0b
 Hh:Nat→a0f
 Pn:Nat→Option (Nat × Value)
 val:Nat→Value
 tc:Nat→List Nat × List Nat
 st:Nat→Nat
 ds:List Deferred
def j0g (R:Run) (k:Nat) (s:a0L):Prop :=
 (R.st k=0∧g0Z bef k (R.Pn k)=true∧R.T (k + 1)=R.T k∧R.Hh (k + 1)=R.Hh k∧R.Pn (k + 1)=R.Pn k∧R.tc k=([],[])) ∨
 (R.st k=1∧g0Z bef k (R.Pn k)=false∧b0g (R.T k) s.g=false∧R.val k=undef∧R.T (k + 1)=put (R.T k) s.dst undef∧R.Hh (k + 1)=R.Hh k∧R.Pn (k + 1)=R.Pn k∧R.tc k=([],[])) ∨
 (R.st k=2∧g0Z bef k (R.Pn k)=false∧b0g (R.T k) s.g=true∧b0D call fl (R.T k) (R.Hh k) s.op=.ok (R.val k,R.Hh (k + 1))∧R.T (k + 1)=put (R.T k) s.dst (R.val k)∧R.Pn (k + 1)=R.Pn k ∧
  R.tc k=d0a (R.T k) s.op) ∨
 (R.st k=3∧g0Z bef k (R.Pn k)=false∧b0g (R.T k) s.g=true∧b0D call fl (R.T k) (R.Hh k) s.op=.pan (R.val k)∧R.Pn k=none∧R.Pn (k + 1)=some (k,R.val k)∧R.T (k + 1)=R.T k∧R.Hh (k + 1)=R.Hh k ∧
  R.tc k=([],[]))
def Run.cons (i:Nat) (t:b0b) (H:a0f) (p:Option (Nat × Value)) (v:Value) (c:List Nat × List Nat) (s:Nat) (R:Run):Run :=
 { T := fun k => if k = i then t else R.T k, Hh := fun k => if k = i then H else R.Hh k, Pn := fun k => if k = i then p else R.Pn k, val := fun k => if k = i then v else R.val k,
   tc:=fun k=>if k=i then c else R.tc k,st:=fun k=>if k=i then s else R.st k,ds:=R.ds }
variable {call fl bef}
theorem j0g.cons {R:Run} {i k:Nat} {t:b0b} {H:a0f} {p:Option (Nat × Value)} {v:Value} {c:List Nat × List Nat} {n:Nat} {s:a0L} (hk:i < k) (h:j0g call fl bef R k s) :
  j0g call fl bef (R.cons i t H p v c n) k s:=by
 unfold j0g Run.cons at *
 simp only [h1C (show k ≠ i by omega),h1C (show k + 1 ≠ i by omega)]
 exact h
theorem U0f {pairs:List (Nat × Nat)}:∀ (r:List a0L) (i:Nat) (t:b0b) (H:a0f) (p:Option (Nat × Value)) (log:List (List Nat × List Nat)),b0S call fl bef pairs i r t H p log ≠ .bad →
  ∃ R:Run,R.T i=t∧R.Hh i=H∧R.Pn i=p∧(∀ m s,r[m]? = some s→j0g call fl bef R (i + m) s)∧c0P (log.reverse ++ (List.range' i r.length).map R.tc) pairs=true ∧
   b0S call fl bef pairs i r t H p log=match R.Pn (i + r.length) with | none=>.fin .normal (R.T (i + r.length)) (R.Hh (i + r.length)) | some (_,v)=>.pan v
 | [],i,t,H,p,log,h=>by
  refine ⟨⟨fun _=>t,fun _=>H,fun _=>p,fun _=>undef,fun _=>([],[]),fun _=>0,[]⟩,rfl,rfl,rfl,fun m s hm=>by simp at hm,?_,?_⟩
  ·simp only [b0S] at h
   split at h
   ·rename_i ha;simpa using ha
   ·exact h1Y rfl h
  ·simp only [b0S] at h ⊢
   split at h
   ·rename_i ha;rw [h1F ha];rfl
   ·exact h1Y rfl h
 | s :: r,i,t,H,p,log,h=>by
  have fin:∀ (t1:b0b) (H1:a0f) (p1:Option (Nat × Value)) (c:List Nat × List Nat) (v:Value) (n:Nat),b0S call fl bef pairs i (s :: r) t H p log=b0S call fl bef pairs (i + 1) r t1 H1 p1 (c :: log) →
    (∀ R:Run,R.T (i + 1)=t1→R.Hh (i + 1)=H1→R.Pn (i + 1)=p1→j0g call fl bef (R.cons i t H p v c n) i s) →
    ∃ R:Run,R.T i=t∧R.Hh i=H∧R.Pn i=p∧(∀ m s',(s :: r)[m]? = some s'→j0g call fl bef R (i + m) s')∧c0P (log.reverse ++ (List.range' i (s :: r).length).map R.tc) pairs=true ∧
     b0S call fl bef pairs i (s :: r) t H p log=match R.Pn (i + (s :: r).length) with | none=>.fin .normal (R.T (i + (s :: r).length)) (R.Hh (i + (s :: r).length)) | some (_,v)=>.pan v:=by
   intro t1 H1 p1 c v n heq hst
   rw [heq] at h
   obtain ⟨R,h1,h2,h3,h4,h5,h6⟩:=U0f r (i + 1) t1 H1 p1 (c :: log) h
   refine ⟨R.cons i t H p v c n,by simp [Run.cons],by simp [Run.cons],by simp [Run.cons],fun m s' hm=>?_,?_,?_⟩
   ·cases m with
    | zero=>simp at hm;subst hm;exact hst R h1 h2 h3
    | succ m=>rw [show i + (m + 1)=i + 1 + m by omega];exact (h4 m s' (by simpa using hm)).cons (by omega)
   ·have e:(List.range' i (s :: r).length).map (R.cons i t H p v c n).tc=c :: (List.range' (i + 1) r.length).map R.tc:=by
     rw [i1D,k1h,List.map_cons]
     congr 1
     ·simp [Run.cons]
     ·apply i1T
      intro x hx
      have:=(List.mem_range'_1.1 hx).1
      simp only [Run.cons]
      rw [h1C (by omega)]
    rw [e]
    simpa using h5
   ·rw [heq,h6]
    simp only [Run.cons,i1D]
    rw [show i + (r.length + 1)=i + 1 + r.length by omega,h1C (by omega),h1C (by omega),h1C (by omega)]
  by_cases hh:g0Z bef i p=true
  ·refine fin t H p ([],[]) undef 0 (by simp [b0S,hh]) (fun R h1 h2 h3=>.inl ?_)
   simp only [Run.cons,i1s,h1C (show i + 1 ≠ i by omega)]
   exact ⟨trivial,hh,h1,h2,h3,trivial⟩
  ·simp only [j1D] at hh
   by_cases hw:b0g t s.g=true
   ·cases hs:b0D call fl t H s.op with
    | bad=>exact h1Y (by simp [b0S,hh,hw,hs]) h
    | pan v =>
     cases hp:p with
     | some u=>subst hp;exact h1Y (by simp [b0S,hh,hw,hs]) h
     | none =>
      subst hp
      refine fin t H (some (i,v)) ([],[]) v 3 (by simp [b0S,hh,hw,hs]) (fun R h1 h2 h3=>.inr (.inr (.inr ?_)))
      simp only [Run.cons,i1s,h1C (show i + 1 ≠ i by omega)]
      exact ⟨trivial,hh,hw,hs,trivial,h3,h1,h2,trivial⟩
    | ok vH =>
     obtain ⟨v,H1⟩:=vH
     refine fin (put t s.dst v) H1 p (d0a t s.op) v 2 (by simp [b0S,hh,hw,hs]) (fun R h1 h2 h3=>.inr (.inr (.inl ?_)))
     simp only [Run.cons,i1s,h1C (show i + 1 ≠ i by omega)]
     exact ⟨trivial,hh,hw,by rw [h2];exact hs,h1,h3,trivial⟩
   ·simp only [j1D] at hw
    refine fin (put t s.dst undef) H p ([],[]) undef 1 (by simp [b0S,hh,hw]) (fun R h1 h2 h3=>.inr (.inl ?_))
    simp only [Run.cons,i1s,h1C (show i + 1 ≠ i by omega)]
    exact ⟨trivial,hh,hw,trivial,h1,h2,h3,trivial⟩
end
end
section
open Go
variable {X:Cx} {φ φ' ψ:Inj} {S S':Shp} {H H' H1:a0f} {w w':World} {fl:Nat} {t t':b0b} {a:Act} {so:SOp} {lone:Bool} {op:Op}
theorem j0x (h:∀ x ∈ a0y so,ev t x=ev t' x):opA fl t H so=opA fl t' H so:=by
 have lst:∀ {xs:List Opd},(∀ x ∈ xs,x ∈ a0y so)→xs.map (ev t)=xs.map (ev t'):=fun hx=>i1T (fun x hm=>h x (hx x hm))
 have opt:∀ {x:Option Opd},(∀ y,x=some y→y ∈ a0y so)→x.map (ev t)=x.map (ev t'):=fun {x} hx=>by cases x with | none=>rfl | some y=>simp [h y (hx y rfl)]
 have parts:∀ {ps:List (Nat × Nat × Opd)},(∀ p ∈ ps,p.2.2 ∈ a0y so)→b0C t ps=b0C t' ps:=fun hp=>i1T (fun p hm=>by rw [h _ (hp p hm)])
 cases so <;> simp only [opA]
 case build z ps=>rw [parts (fun p hm=>by simp only [a0y,j1h];exact ⟨p,hm,rfl⟩)]
 case lit e z n ps=>rw [parts (fun p hm=>by simp only [a0y,j1h];exact ⟨p,hm,rfl⟩)]
 case mkfn f xs ys=>rw [lst (xs:=xs) (fun x hm=>by simp [a0y,hm]),lst (xs:=ys) (fun x hm=>by simp [a0y,hm])]
 case sl e size x lo hi mx=>rw [h x (by simp [a0y]),opt (x:=lo) (fun y e=>by simp [a0y,e]),opt (x:=hi) (fun y e=>by simp [a0y,e]),opt (x:=mx) (fun y e=>by simp [a0y,e])]
 case call f xs l=>rw [lst (xs:=xs) (fun x hm=>by simp [a0y,hm])]
 case callv x xs l=>rw [h x (by simp [a0y]),lst (xs:=xs) (fun x hm=>by simp [a0y,hm])]
 case inv x tb xs l=>rw [h x (by simp [a0y]),lst (xs:=xs) (fun x hm=>by simp [a0y,hm])]
 case mnx b x xs=>rw [h x (by simp [a0y]),lst (xs:=xs) (fun x hm=>by simp [a0y,hm])]
 case pick c x y=>rw [h c (by simp [a0y]),h x (by simp [a0y]),h y (by simp [a0y])]
 case store n x y=>rw [h x (by simp [a0y]),h y (by simp [a0y])]
 case bin tg b x y=>rw [h x (by simp [a0y]),h y (by simp [a0y])]
 case mk e b z x y=>rw [h x (by simp [a0y]),h y (by simp [a0y])]
 case ia n x y=>rw [h x (by simp [a0y]),h y (by simp [a0y])]
 case app e n b x y=>rw [h x (by simp [a0y]),h y (by simp [a0y])]
 case mv x=>rw [h x (by simp [a0y])]
 case box e x=>rw [h x (by simp [a0y])]
 case load g n x=>rw [h x (by simp [a0y])]
 case chk x=>rw [h x (by simp [a0y])]
 case un u x=>rw [h x (by simp [a0y])]
 case conv k x=>rw [h x (by simp [a0y])]
 case iface ty x=>rw [h x (by simp [a0y])]
 case fa o x=>rw [h x (by simp [a0y])]
 case fa0 e x=>rw [h x (by simp [a0y])]
 case fld g o n x=>rw [h x (by simp [a0y])]
 case ext x i=>rw [h x (by simp [a0y])]
 case len x=>rw [h x (by simp [a0y])]
 case pan x=>rw [h x (by simp [a0y])]
theorem v0u (h:∀ x ∈ a0y so,ev t x=ev t' x):d0a t so=d0a t' so:=by
 cases so <;> simp only [d0a]
 case store n x y=>rw [h x (by simp [a0y])]
 case app e n b x y=>rw [h x (by simp [a0y]),h y (by simp [a0y])]
 case load g n x=>rw [h x (by simp [a0y])]
 case fa0 e x=>rw [h x (by simp [a0y])]
 case sl e size x lo hi mx=>rw [h x (by simp [a0y])]
theorem p0m {b:Nat} (h:b ∈ (d0a t so).2):way so=2:=by cases so <;> simp [d0a] at h <;> rfl
theorem z0o {b:Nat} (h:b ∈ (d0a t so).1):way so=1 ∨ way so=2:=by cases so <;> simp [d0a] at h <;> simp [way]
def e0k:SOp→Bool
 | .call _ _ b | .callv _ _ b | .inv _ _ _ b=>b
 | _=>false
theorem f0h {f:FuncId} {args:List Value} {l:Bool} (h:opA fl t H so=.call f args l):way so=3∧e0k so=l:=by
 have hc:=m0r h
 cases so <;> simp only [w0d,i1a] at hc
 case call=>simp [opA] at h;simp [way,e0k,h.2.2]
 case callv=>simp only [opA] at h;split at h <;> simp at h;simp [way,e0k,h.2.2]
 case inv =>
  simp only [opA] at h
  split at h
  ·split at h <;> simp at h;simp [way,e0k,h.2.2]
  ·cases h
theorem K0n {v:Value} (hw:way so=0) (h:opA fl t H so=.val v H1):H1=H:=by
 have ht:=q0c h
 cases so <;> simp only [way] at hw <;> first | (exact h1Y hw (by decide)) | skip
 all_goals
  simp only [opA] at h
  first
   | (simp at h;exact h.2.symm)
   | (unfold b0H at h;split at h <;> simp at h;exact h.2.symm)
   | (split at h <;> first | (simp at h;exact h.2.symm) | (cases h;done) | (split at h <;> first | (simp at h;exact h.2.symm) | (cases h;done)) | (unfold b0H at h;split at h <;> simp at h;exact h.2.symm))
theorem r0w (hc:cOp X.P lone op=some so):(way so ≠ 0→r0j op ≠ 0)∧(e0k so=true→lone=true):=by
 cases op
 case call c =>
  obtain ⟨callee,args,ats⟩:=c
  cases callee with
  | value f =>
   refine ⟨fun _=>by simp [r0j],fun hl=>?_⟩
   cases f <;> simp only [cOp] at hc
   case func f =>
    split at hc
    ·simp only [h1H,h1B,h1K,h1D] at hc
     obtain ⟨_,_,rfl⟩:=hc;exact hl
    ·cases hc
   all_goals
    simp only [h1H,h1B,h1K,h1D] at hc
    obtain ⟨_,_,_,_,rfl⟩:=hc;exact hl
  | invoke r n =>
   refine ⟨fun _=>by simp [r0j],fun hl=>?_⟩
   simp only [cOp,h1H,h1B,h1K,h1D] at hc
   obtain ⟨_,_,_,_,rfl⟩:=hc;exact hl
  | builtin b =>
   simp only [cOp] at hc
   split at hc
   ·simp only [h1H,h1B,h1K,h1D] at hc
    obtain ⟨_,_,_,_,rfl⟩:=hc
    exact ⟨fun h=>by simp [way] at h,fun h=>by simp [e0k] at h⟩
   ·simp only [h1H,h1B,h1K,h1D] at hc
    obtain ⟨_,_,_,_,rfl⟩:=hc
    exact ⟨fun h=>by simp [way] at h,fun h=>by simp [e0k] at h⟩
   ·simp only [h1H,h1B,h1K,h1D] at hc
    obtain ⟨_,_,_,_,rfl⟩:=hc
    exact ⟨fun h=>by simp [way] at h,fun h=>by simp [e0k] at h⟩
   ·simp only [h1H,h1B] at hc
    obtain ⟨_,_,_,_,_,_,hc⟩:=hc
    split at hc
    ·simp only [h1B,h1K,h1D] at hc
     obtain ⟨_,_,_,_,_,_,rfl⟩:=hc
     exact ⟨fun _=>by simp [r0j],fun h=>by simp [e0k] at h⟩
    ·cases hc
   ·cases hc
 all_goals
  simp only [cOp,j1C,h1H,h1B,h1K,h1D,reduceCtorEq] at hc
 all_goals (try (split at hc))
 all_goals (try (simp only [h1H,h1K,h1B,h1D,reduceCtorEq] at hc))
 case move=>obtain ⟨_,_,rfl⟩:=hc;exact ⟨fun h=>by simp [way] at h,fun h=>by simp [e0k] at h⟩
 case assign=>obtain ⟨_,_,rfl⟩:=hc;exact ⟨fun h=>by simp [way] at h,fun h=>by simp [e0k] at h⟩
 all_goals
  (repeat' (first | (obtain ⟨_,_,hc⟩:=hc) | (split at hc) | (simp only [h1B,h1K,h1D,reduceCtorEq] at hc)))
 all_goals (try subst hc)
 all_goals
  refine ⟨fun h=>?_,fun h=>?_⟩
  ·first
    | (simp [r0j];done)
    | (simp [way] at h;done)
  ·simp [e0k] at h
def cut (φ:Inj) (m:Nat):Inj:=fun b=>if b < m then φ b else none
theorem b0A {m b:Nat} {y:Nat × Nat}:cut φ m b=some y ↔ b < m∧φ b=some y:=by
 unfold cut;split
 ·rename_i h;simp [h]
 ·rename_i h;simp [h]
theorem j0k {m k:Nat} (hmk:m≤k) (hφ:∀ b y,b < m→φ b=some y→φ' b=some y):∀ b y,cut φ m b=some y→cut φ' k b=some y:=fun b y h=>by
 rw [b0A] at h ⊢
 exact ⟨by omega,hφ b y h.1 h.2⟩
theorem VR.cut {m:Nat} (hm:∀ b y,φ b=some y→b < m) {v u:Value} (h:VR X φ S v u):∀ {u'},VR X ψ S' v u'→VR X (cut ψ m) S' v u':=by
 induction h with
 | bool b=>intro u' k;cases k;exact .bool _
 | int k n=>intro u' k;cases k;exact .int _ _
 | str s=>intro u' k;cases k;exact .str _
 | pnil=>intro u' k;cases k;exact .pnil
 | ptr a a' B o h1 h2 h3=>intro u' k;cases k with | ptr _ a2 B2 o2 g1 g2 g3=>exact .ptr _ _ B2 o2 g1 (b0A.2 ⟨hm _ _ h2,g2⟩) g3
 | snil=>intro u' k;cases k;exact .snil
 | sle a a' =>
  intro u' k
  cases k with
  | sle _ a2=>exact .sle _ _
  | sl _ a2 _ _ c2 B2 o2 g1 g2 g3 g4 g5 g6 g7 g8=>rw [g6 (by simp [unk])];exact .sle _ _
 | sl a a' len cap cap' B o h1 h2 h3 h4 h5 h6 h7 h8 =>
  intro u' k
  cases k with
  | sle _ a2=>exact .sle _ _
  | sl _ a2 _ _ c2 B2 o2 g1 g2 g3 g4 g5 g6 g7 g8=>exact .sl _ _ _ _ _ B2 o2 g1 (b0A.2 ⟨hm _ _ h2,g2⟩) g3 g4 g5 g6 g7 g8
 | nilFunc=>intro u' k;cases k;exact .nilFunc
 | nilIface=>intro u' k;cases k;exact .nilIface
 | func f a b a' b' h1 _ h3 _ ih1 ih2 =>
  intro u' k
  cases k with
  | func _ _ _ a2 b2 g1 g2 g3 g4=>exact .func _ _ _ _ _ g1 (fun i hi=>ih1 i hi (g2 i hi)) g3 (fun i hi=>ih2 i hi (g4 i hi))
 | iface ty v v' _ ih=>intro u' k;cases k with | iface _ _ v2 g=>exact .iface _ _ _ (ih g)
 | agg a a' h1 _ ih=>intro u' k;cases k with | agg _ a2 g1 g2=>exact .agg _ _ g1 (fun i hi=>ih i hi (g2 i hi))
 | tuple a a' h1 _ ih=>intro u' k;cases k with | tuple _ a2 g1 g2=>exact .tuple _ _ g1 (fun i hi=>ih i hi (g2 i hi))
theorem CR.cut {m:Nat} (hm:∀ b y,φ b=some y→b < m) {l u u':List Value} (h:CR X φ S l u) (k:CR X ψ S' l u'):CR X (cut ψ m) S' l u' :=
 ⟨k.1,fun i hi=>(h.2 i hi).cut hm (k.2 i hi)⟩
def x0P (X:Cx) (φ:Inj) (w:World) (B o:Nat) (ro:Bool) (e:TypeId) (cs:List Value):Prop :=
 ∃ c el fz,w.heap[B]? = some (.cells c el fz)∧o + cs.length≤c.size∧CR X φ w.shape? cs ((c.toList.drop o).take cs.length)∧(ro=false→X.base≤B∧fz=(0,0)∧el=e)∧(ro=true→B < X.base)
theorem x0P.mono {B o:Nat} {ro:Bool} {e:TypeId} {cs:List Value} (h:x0P X φ w B o ro e cs) (hφ:∀ b x,φ b=some x→φ' b=some x) (hS:∀ b x,w.shape? b=some x→w'.shape? b=some x) (hw:w'.heap[B]? = w.heap[B]?) :
  x0P X φ' w' B o ro e cs:=by
 obtain ⟨c,el,fz,h1,h2,h3,h4,h5⟩:=h
 exact ⟨c,el,fz,by rw [hw];exact h1,h2,h3.mono hφ hS,h4,h5⟩
theorem x0P.lt {B o:Nat} {ro:Bool} {e:TypeId} {cs:List Value} (h:x0P X φ w B o ro e cs):B < w.heap.size:=by
 obtain ⟨c,el,fz,h1,_⟩:=h
 exact (i1q.1 h1).1
end
section
open Go
structure Ctx (X:Cx) (call:Nat→FuncId→List Value→a0f→Res (Value × a0f)) (fl:Nat) (ops:Array Oper) (l:List a0L) (bef:List Nat) (pairs:List (Nat × Nat)) (R:Run):Prop where
 callOk:d0Z X call
 keepOk:h0H call
 tab:x0S X ops l bef pairs
 run:∀ (k:Nat) (s:a0L),l[k]? = some s→j0g call fl bef R k s
 apart:c0P ((List.range' 0 l.length).map R.tc) pairs=true
 p0:R.Pn 0=none
 low:fl≤(R.Hh 0).size
variable {X:Cx} {call:Nat→FuncId→List Value→a0f→Res (Value × a0f)} {fl:Nat} {ops:Array Oper} {l:List a0L} {bef:List Nat} {pairs:List (Nat × Nat)} {R:Run} (C:Ctx X call fl ops l bef pairs R)
include C
theorem Ctx.sAt {k:Nat} (hk:k < l.length):∃ s,l[k]? = some s:=⟨l[k],h1E hk⟩
omit C in
theorem j0c {t:b0b} {H H1:a0f} {so:SOp} {v:Value} (h:b0D call fl t H so=.ok (v,H1)) :
  opA fl t H so=.val v H1 ∨ ∃ f args lone,opA fl t H so=.call f args lone∧call (if lone=true then fl else max fl H.size) f args H=.ok (v,H1):=by
 unfold b0D at h
 split at h
 ·cases h
 ·cases h
 ·rename_i v' H' hv;simp only [Res.ok.injEq,j1w] at h;obtain ⟨rfl,rfl⟩:=h;exact .inl hv
 ·rename_i f args lone hc;exact .inr ⟨f,args,lone,hc,h⟩
theorem Ctx.keepStep {k:Nat} (hk:k < l.length) (hlow:fl≤(R.Hh k).size):f0L fl (R.Hh k) (R.Hh (k + 1)):=by
 obtain ⟨s,hs⟩:=C.sAt hk
 rcases C.run k s hs with h | h | h | h
 ·rw [h.2.2.2.1];exact f0L.refl
 ·rw [h.2.2.2.2.2.1];exact f0L.refl
 ·exact k0J C.keepOk hlow h.2.2.2.1
 ·rw [h.2.2.2.2.2.2.2.1];exact f0L.refl
theorem Ctx.keep0:∀ {k:Nat},k≤l.length→fl≤(R.Hh k).size∧f0L fl (R.Hh 0) (R.Hh k)
 | 0,_=>⟨C.low,f0L.refl⟩
 | k + 1,hk=>by
  obtain ⟨h1,h2⟩:=Ctx.keep0 (k:=k) (by omega)
  have h3:=C.keepStep (by omega:k < l.length) h1
  exact ⟨h1R h1 h3.size,h2.trans h3 (h1A _)⟩
theorem Ctx.keepIJ {i:Nat}:∀ {j:Nat},i≤j→j≤l.length→f0L fl (R.Hh i) (R.Hh j)
 | 0, hij, _ => by obtain rfl : i = 0 := by omega
                   exact f0L.refl
 | j + 1,hij,hj=>by
  by_cases h:i=j + 1
  ·subst h;exact f0L.refl
  ·exact (Ctx.keepIJ (j:=j) (by omega) (by omega)).trans (C.keepStep (by omega) (C.keep0 (by omega)).1) (h1A _)
theorem Ctx.szmono {i j:Nat} (hij:i≤j) (hj:j≤l.length):(R.Hh i).size≤(R.Hh j).size:=(C.keepIJ hij hj).size
theorem Ctx.pan:∀ {k:Nat},k≤l.length→∀ p v,R.Pn k=some (p,v)→p < k∧R.st p=3
 | 0,_,p,v,h=>by rw [C.p0] at h;cases h
 | k + 1,hk,p,v,h=>by
  obtain ⟨s,hs⟩:=C.sAt (by omega:k < l.length)
  have ih:=Ctx.pan (k:=k) (by omega)
  rcases C.run k s hs with g | g | g | g
  ·rw [g.2.2.2.2.1] at h;have:=ih p v h;exact ⟨by omega,this.2⟩
  ·rw [g.2.2.2.2.2.2.1] at h;have:=ih p v h;exact ⟨by omega,this.2⟩
  ·rw [g.2.2.2.2.2.1] at h;have:=ih p v h;exact ⟨by omega,this.2⟩
  ·rw [g.2.2.2.2.2.1] at h;cases h;exact ⟨by omega,g.1⟩
theorem Ctx.change {k:Nat} {s:a0L} (hs:l[k]? = some s) {b:Nat} (hb:b < (R.Hh k).size) (hne:(R.Hh (k + 1)).blk b ≠ (R.Hh k).blk b) :
  R.st k=2∧((way s.op=2∧b ∈ (R.tc k).2) ∨ (way s.op=3∧e0k s.op=true)):=by
 have hk:k < l.length:=(i1f.1 hs).1
 rcases C.run k s hs with h | h | h | h
 ·rw [h.2.2.2.1] at hne;exact h1Y rfl hne
 ·rw [h.2.2.2.2.2.1] at hne;exact h1Y rfl hne
 ·refine ⟨h.1,?_⟩
  rcases j0c h.2.2.2.1 with hv | ⟨f,args,lone,hc,hcall⟩
  ·have:=(q0c hv).changed hb hne
   rw [h.2.2.2.2.2.2]
   exact .inl ⟨p0m this,this⟩
  ·obtain ⟨h1,h2⟩:=f0h hc
   cases lone with
   | true=>exact .inr ⟨h1,h2⟩
   | false =>
    have hlow:=(C.keep0 (by omega:k≤l.length)).1
    have:=(C.keepOk _ _ _ _ _ _ hcall (by simp;omega)).low b (by simp;omega)
    exact h1Y this hne
 ·rw [h.2.2.2.2.2.2.2.1] at hne;exact h1Y rfl hne
theorem Ctx.grow {k:Nat} {s:a0L} (hs:l[k]? = some s) (hne:(R.Hh k).size ≠ (R.Hh (k + 1)).size):way s.op ≠ 0:=by
 rcases C.run k s hs with h | h | h | h
 ·rw [h.2.2.2.1] at hne;exact h1Y rfl hne
 ·rw [h.2.2.2.2.2.1] at hne;exact h1Y rfl hne
 ·intro hw
  rcases j0c h.2.2.2.1 with hv | ⟨f,args,lone,hc,hcall⟩
  ·rw [K0n hw hv] at hne;exact h1Y rfl hne
  ·rw [(f0h hc).1] at hw;cases hw
 ·rw [h.2.2.2.2.2.2.2.1] at hne;exact h1Y rfl hne
omit C in
theorem t0E (t:b0b) (d:Option Nat) (v:Value) (x:Nat):get (put t d v) x=if d=some x∧x < t.length then v else get t x:=by
 cases d with
 | none=>simp [put]
 | some d =>
  simp only [put,get,h1z,i1m,h1D]
  by_cases h:d=x
  ·subst h
   by_cases hl:d < t.length
   ·simp [hl]
   ·simp [hl]
  ·simp [h]
theorem Ctx.slot {k:Nat} {s:a0L} (hs:l[k]? = some s) {x:Nat} (hne:get (R.T (k + 1)) x ≠ get (R.T k) x):(R.st k=1 ∨ R.st k=2)∧s.dst=some x:=by
 rcases C.run k s hs with h | h | h | h
 ·rw [h.2.2.1] at hne;exact h1Y rfl hne
 ·refine ⟨.inl h.1,?_⟩
  rw [h.2.2.2.2.1,t0E] at hne
  split at hne
  ·rename_i h1;exact h1.1
  ·exact h1Y rfl hne
 ·refine ⟨.inr h.1,?_⟩
  rw [h.2.2.2.2.1,t0E] at hne
  split at hne
  ·rename_i h1;exact h1.1
  ·exact h1Y rfl hne
 ·rw [h.2.2.2.2.2.2.1] at hne;exact h1Y rfl hne
theorem Ctx.tlen:∀ {k:Nat},k≤l.length→(R.T k).length=(R.T 0).length
 | 0,_=>rfl
 | k + 1,hk=>by
  obtain ⟨s,hs⟩:=C.sAt (by omega:k < l.length)
  have ih:=Ctx.tlen (k:=k) (by omega)
  have hp:∀ (d:Option Nat) (v:Value),(put (R.T k) d v).length=(R.T k).length:=fun d v=>by cases d <;> simp [put]
  rcases C.run k s hs with h | h | h | h
  ·rw [h.2.2.1];exact ih
  ·rw [h.2.2.2.2.1,hp];exact ih
  ·rw [h.2.2.2.2.1,hp];exact ih
  ·rw [h.2.2.2.2.2.2.1];exact ih
theorem Ctx.disj {i j:Nat} (hp:(i,j) ∈ pairs ∨ (j,i) ∈ pairs) (hi:i < l.length) (hj:j < l.length) {b:Nat} (hb:b ∈ (R.tc i).2):b ∉ (R.tc j).1∧b ∉ (R.tc j).2:=by
 have ha:=C.apart
 unfold c0P at ha
 rw [i1p] at ha
 have hlog:∀ k,k < l.length→((List.range' 0 l.length).map R.tc).getD k ([],[])=R.tc k:=fun k hk=>by
  simp only [h1z,i1Q,List.getElem?_range' hk,i1U,i1k]
  congr 1;omega
 have nm:∀ {u v:List Nat},s0b u v=false→∀ {b:Nat},b ∈ u→b ∉ v:=fun {u v} h {b} hu hv=>by
  unfold s0b at h
  rw [List.any_eq_false] at h
  exact h b hu (by simpa using hv)
 rcases hp with hp | hp
 ·have h:=ha _ hp
  simp only [hlog i hi,hlog j hj,h1S,j1l] at h
  exact ⟨nm h.1.1 hb,nm h.1.2 hb⟩
 ·have h:=ha _ hp
  simp only [hlog i hi,hlog j hj,h1S,j1l] at h
  exact ⟨fun hr=>nm h.2 hr hb,fun hw=>nm h.1.2 hw hb⟩
theorem Ctx.clash {k j:Nat} {sk sj:a0L} (hk:l[k]? = some sk) (hj:l[j]? = some sj) (hkj:k ≠ j) (h1:b0s bef k j=false) (h2:b0s bef j k=false) {b:Nat} (hb:b < (R.Hh k).size)
  (hne:(R.Hh (k + 1)).blk b ≠ (R.Hh k).blk b) (hw:way sj.op ≠ 0):way sk.op=2∧b ∈ (R.tc k).2∧way sj.op ≠ 3∧b ∉ (R.tc j).1∧b ∉ (R.tc j).2:=by
 have hkl:k < l.length:=(i1f.1 hk).1
 have hjl:j < l.length:=(i1f.1 hj).1
 obtain ⟨ok,hok,hck⟩:=C.tab.op k sk hk
 obtain ⟨oj,hoj,hcj⟩:=C.tab.op j sj hj
 have hlen:=C.tab.len
 have h2':=C.tab.two hkj (by omega) (by omega) h1 h2 hok hoj hk hj
 rcases (C.change hk hb hne).2 with ⟨h3,h4⟩ | ⟨h3,h4⟩
 ·have hp:=h2'.2.2.2.2 ⟨h3,hw⟩
  have hd:=C.disj hp hkl hjl h4
  exact ⟨h3,h4,fun e=>h2'.2.2.2.1 ⟨h3,e⟩,hd.1,hd.2⟩
 ·exfalso
  have hl:=(r0w (e0e hck).1).2 h4
  unfold w0f at hl
  rw [i1p] at hl
  have h5:=hl j (i1G.2 (by simp;omega))
  have h6:(ops.toList.map fun o=>r0j o.op).getD j 0=r0j oj.op:=by
   simp only [h1z,i1Q,j1f,hoj,i1U,i1k]
  have h7:=(r0w (e0e hcj).1).1 hw
  rw [h6,h1,h2] at h5
  simp only [k1p,beq_iff_eq,i1a,or_false] at h5
  rcases h5 with h5 | h5
  ·exact hkj h5.symm
  ·exact h7 h5
end
section
open Go
structure f1R (X:Cx) (fl:Nat) (φ0:Inj) (H0:a0f) (w0:World) (φ:Inj) (w:World):Prop where
 ext:∀ b x,φ0 b=some x→φ b=some x
 shp:∀ B x,w0.shape? B=some x→w.shape? B=some x
 wsz:w0.heap.size≤w.heap.size
 os:w.os=w0.os
 tape:w.tape=w0.tape
 out:w.output=w0.output
 fresh:∀ b y,φ b=some y→φ0 b=none→H0.size≤b
 newB:∀ b B o,φ b=some (B,o)→φ0 b=none→w0.heap.size≤B ∨ ∃ b0 o0 e cs,φ0 b0=some (B,o0)∧fl≤b0∧H0.blk b0=.row false e cs
 frame:∀ B,B < w0.heap.size→(∀ b o e cs,φ0 b=some (B,o)→fl≤b→H0.blk b ≠ .row false e cs)→w.heap[B]? = w0.heap[B]?
structure Inv (X:Cx) (fl:Nat) (ops:Array Oper) (l:List a0L) (bef:List Nat) (R:Run) (φ0:Inj) (w0:World) (Sd:Nat→Prop) (φ:Inj) (κ θ:Nat→Nat) (a:Act) (w:World):Prop where
 done:∀ k,k < l.length→Sd k→R.st k=1 ∨ R.st k=2
 down:∀ j,j < l.length→Sd j→∀ i,b0s bef i j=true→Sd i
 tlen:a.tmps.size=(R.T 0).length
 defers:a.defers=R.ds
 base:X.base≤w.heap.size
 T:∀ x,x < (R.T 0).length→θ x≤l.length∧(θ x=0 ∨ ∃ k s,θ x=k + 1∧Sd k∧l[k]? = some s∧s.dst=some x)∧(∀ k s,θ x≤k→Sd k→l[k]? = some s→s.dst ≠ some x) ∧
  VR X (cut φ (R.Hh (θ x)).size) w.shape? (get (R.T (θ x)) x) (a.tmps.getD x undef)
 D:∀ b y,φ b=some y→b < (R.Hh 0).size ∨ ∃ k,k < l.length∧Sd k∧(R.Hh k).size≤b∧b < (R.Hh (k + 1)).size
 Rr:∀ b B o,φ b=some (B,o)→κ b≤l.length∧b < (R.Hh (κ b)).size∧(κ b=0 ∨ ∃ k,κ b=k + 1∧k < l.length∧Sd k∧((R.Hh k).size≤b ∨ (R.Hh (k + 1)).blk b ≠ (R.Hh k).blk b)) ∧
  (∀ k,κ b≤k→k < l.length→Sd k→(R.Hh (k + 1)).blk b=(R.Hh k).blk b) ∧
  ∀ ro e cs,(R.Hh (κ b)).blk b=.row ro e cs→x0P X (cut φ (R.Hh (κ b)).size) w B o ro e cs
 P:∀ b b' B o o' e cs,φ b=some (B,o)→φ b' = some (B,o')→b ≠ b'→(R.Hh (κ b)).blk b=.row false e cs→(R.Hh (κ b')).blk b' = .dead
 W:∀ k s,l[k]? = some s→Sd k→R.st k=2→∀ b,b ∈ (R.tc k).2→φ b ≠ none
 glob:f1R X fl φ0 (R.Hh 0) w0 φ w
variable {X:Cx} {call:Nat→FuncId→List Value→a0f→Res (Value × a0f)} {fl:Nat} {ops:Array Oper} {l:List a0L} {bef:List Nat} {pairs:List (Nat × Nat)} {R:Run} (C:Ctx X call fl ops l bef pairs R)
variable {φ0 φ:Inj} {w0 w w':World} {Sd:Nat→Prop} {κ θ:Nat→Nat} {a:Act} (I:Inv X fl ops l bef R φ0 w0 Sd φ κ θ a w)
variable {j:Nat} {s:a0L} {o:Oper} (hs:l[j]? = some s) (ho:ops[j]? = some o) (hnj:¬ Sd j) (hpre:∀ i,b0s bef i j=true→Sd i)
include C I hs hnj hpre
theorem Inv.unord {k:Nat} (hk:k < l.length) (hkj:k ≠ j) (h:(Sd k∧j < k) ∨ (¬ Sd k∧k < j)):b0s bef k j=false∧b0s bef j k=false:=by
 have hj:j < l.length:=(i1f.1 hs).1
 have hlen:=C.tab.len
 rcases h with ⟨h1,h2⟩ | ⟨h1,h2⟩
 ·refine ⟨?_,?_⟩
  ·cases h3:b0s bef k j with
   | false=>rfl
   | true=>have:=C.tab.lt j k (by omega) h3;omega
  ·cases h3:b0s bef j k with
   | false=>rfl
   | true=>exact h1Y (I.down k hk h1 j h3) hnj
 ·refine ⟨?_,?_⟩
  ·cases h3:b0s bef k j with
   | false=>rfl
   | true=>exact h1Y (hpre k h3) h1
  ·cases h3:b0s bef j k with
   | false=>rfl
   | true=>have:=C.tab.lt k j (by omega) h3;omega
include ho in
theorem Inv.slot {x:Nat} (hx:x < (R.T 0).length) (hu:x ∈ i0t o s):VR X (cut φ (R.Hh j).size) w.shape? (get (R.T j) x) (a.tmps.getD x undef):=by
 have hj:j < l.length:=(i1f.1 hs).1
 have hlen:=C.tab.len
 obtain ⟨h1,h2,h3,h4⟩:=I.T x hx
 have hle:θ x≤j:=by
  rcases h2 with h2 | ⟨k,sk,h5,h6,h7,h8⟩
  ·omega
  ·by_cases hkj:k < j
   ·omega
   ·exfalso
    have hk:k < l.length:=(i1f.1 h7).1
    have hne:k ≠ j:=fun e=>hnj (e ▸ h6)
    obtain ⟨u1,u2⟩:=Inv.unord C I hs hnj hpre hk hne (.inl ⟨h6,by omega⟩)
    obtain ⟨ok,hok,_⟩:=C.tab.op k sk h7
    exact (((C.tab.two hne (by omega) (by omega) u1 u2 hok ho h7 hs).1 x h8).1) hu
 have heq:∀ m,θ x≤m→m≤j→get (R.T m) x=get (R.T (θ x)) x:=by
  intro m hm
  induction m with
  | zero=>intro _;congr 2;omega
  | succ m ih =>
   intro hmj
   by_cases hc:θ x=m + 1
   ·rw [hc]
   ·rw [← ih (by omega) (by omega)]
    apply i1v
    intro hne
    obtain ⟨sm,hsm⟩:=C.sAt (by omega:m < l.length)
    obtain ⟨_,hd⟩:=C.slot hsm hne
    by_cases hS:Sd m
    ·exact h3 m sm (by omega) hS hsm hd
    ·obtain ⟨u1,u2⟩:=Inv.unord C I hs hnj hpre (by omega:m < l.length) (by omega) (.inr ⟨hS,by omega⟩)
     obtain ⟨om,hom,_⟩:=C.tab.op m sm hsm
     exact (((C.tab.two (by omega) (by omega) (by omega) u1 u2 hom ho hsm hs).1 x hd).1) hu
 rw [heq j hle (h1A _)]
 exact h4.mono (j0k (C.szmono hle (by omega)) (fun _ _ _ h=>h)) (fun _ _ h=>h)
def z0t (R:Run) (κ:Nat→Nat) (j b:Nat):Prop:=κ b≤j∧(R.Hh j).blk b=(R.Hh (κ b)).blk b
theorem Inv.notNew {b:Nat} {y:Nat × Nat} (hb:φ b=some y):b < (R.Hh j).size ∨ (R.Hh (j + 1)).size≤b:=by
 have hj:j < l.length:=(i1f.1 hs).1
 rcases I.D b y hb with h | ⟨k,hk,hS,h1,h2⟩
 ·exact .inl (h1W h (C.szmono (i1C _) (by omega)))
 ·by_cases hkj:k < j
  ·exact .inl (h1W h2 (C.szmono (by omega) (by omega)))
  ·have hne:k ≠ j:=fun e=>hnj (e ▸ hS)
   exact .inr (h1R (C.szmono (by omega) (by omega)) h1)
theorem Inv.good {b:Nat} {y:Nat × Nat} (hb:φ b=some y) (hlt:b < (R.Hh j).size) (hw:way s.op ≠ 0) (hfp:way s.op=3 ∨ b ∈ (R.tc j).1 ∨ b ∈ (R.tc j).2):z0t R κ j b:=by
 have hj:j < l.length:=(i1f.1 hs).1
 obtain ⟨B,o1⟩:=y
 obtain ⟨h1,h2,h3,h4,_⟩:=I.Rr b B o1 hb
 have no:∀ {k:Nat} {sk:a0L},l[k]? = some sk→k ≠ j→b0s bef k j=false→b0s bef j k=false→b < (R.Hh k).size→(R.Hh (k + 1)).blk b ≠ (R.Hh k).blk b→False:=by
  intro k sk hsk hne u1 u2 hbk hch
  obtain ⟨c1,c2,c3,c4,c5⟩:=C.clash hsk hs hne u1 u2 hbk hch hw
  rcases hfp with h | h | h
  ·exact c3 h
  ·exact c4 h
  ·exact c5 h
 have hle:κ b≤j:=by
  rcases h3 with h3 | ⟨k,h5,hk,h6,h7⟩
  ·omega
  ·by_cases hkj:k < j
   ·omega
   ·exfalso
    have hne:k ≠ j:=fun e=>hnj (e ▸ h6)
    obtain ⟨u1,u2⟩:=Inv.unord C I hs hnj hpre hk hne (.inl ⟨h6,by omega⟩)
    have hbk:b < (R.Hh k).size:=h1W hlt (C.szmono (by omega) (by omega))
    obtain ⟨sk,hsk⟩:=C.sAt hk
    rcases h7 with h7 | h7
    ·omega
    ·exact no hsk hne u1 u2 hbk h7
 refine ⟨hle,?_⟩
 have heq:∀ m,κ b≤m→m≤j→(R.Hh m).blk b=(R.Hh (κ b)).blk b:=by
  intro m hm
  induction m with
  | zero=>intro _;congr 2;omega
  | succ m ih =>
   intro hmj
   by_cases hc:κ b=m + 1
   ·rw [hc]
   ·rw [← ih (by omega) (by omega)]
    apply i1v
    intro hch
    obtain ⟨sm,hsm⟩:=C.sAt (by omega:m < l.length)
    by_cases hS:Sd m
    ·exact hch (h4 m (by omega) (by omega) hS)
    ·obtain ⟨u1,u2⟩:=Inv.unord C I hs hnj hpre (by omega:m < l.length) (by omega) (.inr ⟨hS,by omega⟩)
     exact no hsm (by omega) u1 u2 (h1W h2 (C.szmono (by omega) (by omega))) hch
 exact heq j hle (h1A _)
open Classical in
noncomputable def o0w (R:Run) (φ:Inj) (κ:Nat→Nat) (j:Nat):a0f :=
 ((List.range (R.Hh j).size).map fun b=>if φ b ≠ none∧¬ z0t R κ j b then Blk.dead else (R.Hh j).blk b).toArray
omit C I hs hnj hpre in
theorem e0v (R:Run) (φ:Inj) (κ:Nat→Nat) (j:Nat):(o0w R φ κ j).size=(R.Hh j).size:=by simp [o0w]
omit C I hs hnj hpre in
open Classical in
theorem j0t (R:Run) (φ:Inj) (κ:Nat→Nat) (j b:Nat):(o0w R φ κ j).blk b=if φ b ≠ none∧¬ z0t R κ j b then Blk.dead else (R.Hh j).blk b:=by
 by_cases hb:b < (R.Hh j).size
 ·simp only [o0w,a0f.blk,h1N,List.getElem?_toArray,i1Q,j1m hb,i1U,i1k]
 ·have h1:(o0w R φ κ j).blk b=.dead:=i0y (by rw [e0v];omega)
  have h2:(R.Hh j).blk b=.dead:=i0y (by omega)
  rw [h1,h2];split <;> rfl
omit C I hs hnj hpre in
theorem e0F {b:Nat} {y:Nat × Nat} {ro:Bool} {e:TypeId} {cs:List Value} (hb:φ b=some y) (h:(o0w R φ κ j).blk b=.row ro e cs):z0t R κ j b∧(R.Hh j).blk b=.row ro e cs:=by
 rw [j0t] at h
 split at h
 ·cases h
 ·rename_i hc
  refine ⟨i1v fun hg=>hc ⟨by rw [hb];simp,hg⟩,h⟩
theorem Inv.rel:Rel X (cut φ (R.Hh j).size) (o0w R φ κ j) w:=by
 have hj:j < l.length:=(i1f.1 hs).1
 refine { bs:=I.base,lt:=fun b x h=>by rw [e0v];exact (b0A.1 h).1,row:=?_,sep:=?_ }
 ·intro b B o1 ro e cs hb hrow
  obtain ⟨h1,h2⟩:=b0A.1 hb
  obtain ⟨⟨g1,g2⟩,h3⟩:=e0F h2 hrow
  obtain ⟨c,el,fz,k1,k2,k3,k4⟩:=(I.Rr b B o1 h2).2.2.2.2 ro e cs (by rw [← g2];exact h3)
  exact ⟨c,el,fz,k1,k2,k3.mono (j0k (C.szmono g1 (by omega)) (fun _ _ _ h=>h)) (fun _ _ h=>h),k4⟩
 ·intro b b' B o1 o2 e cs hb hb' hne hrow
  obtain ⟨h1,h2⟩:=b0A.1 hb
  obtain ⟨h1',h2'⟩:=b0A.1 hb'
  obtain ⟨⟨g1,g2⟩,h3⟩:=e0F h2 hrow
  have hd:=I.P b b' B o1 o2 e cs h2 h2' hne (by rw [← g2];exact h3)
  rw [j0t]
  split
  ·rfl
  ·rename_i hc
   have hg:z0t R κ j b':=i1v fun hg=>hc ⟨by rw [h2'];simp,hg⟩
   rw [hg.2];exact hd
end
end Go.Proofs.YtjlohmnnldbjoaaGreat.AI
